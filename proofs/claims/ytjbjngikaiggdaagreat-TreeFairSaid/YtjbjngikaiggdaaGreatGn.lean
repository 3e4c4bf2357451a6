/- Maps of numbers in G: gone through; an entry that goes; how many. Conditions: none. -/
import Derived.Test.YtjbjngikaiggdaaGreatGm
import Derived.WideLaws
import Derived.Laws.IdiomRangeMap
set_option linter.unusedVariables false
set_option linter.unusedSimpArgs false
namespace Go.Proofs.YtjbjngikaiggdaaGreat.G
open Go.RowKit Go.Proofs.YtjbjngikaiggdaaGreat Go.MapKept
/-- A map that is gone through: its block, the iterator's; done: what has come, by place. -/
def rngS (bi mb : Nat) (l : List (Int × Value)) (done : List Nat) : SP := ⟨fun w F => (bi ≠ mb ∧ ∃ es ck seen, w.heap[mb]? = some (.map es ck) ∧ w.heap[bi]? = some (.mapIter (some mb) ck seen ck) ∧ Stamped es ck ∧ es.toList.map entOf = mEnt l ∧ seen.toList.map some = done.map (fun j => (es.toList[j]?).map (·.born))) ∧ ∀ x, F x ↔ x = mb ∨ x = bi,
  fun h x hx => by
    obtain ⟨⟨_, es, ck, seen, hb, hi, _⟩, hF⟩ := h
    rcases (hF x).1 hx with rfl | rfl
    · exact (Array.getElem?_eq_some_iff.1 hb).1
    · exact (Array.getElem?_eq_some_iff.1 hi).1,
  fun h a => by
    obtain ⟨⟨hn, es, ck, seen, hb, hi, h2⟩, hF⟩ := h
    exact ⟨⟨hn, es, ck, seen, (a.keep mb ((hF mb).2 (.inl rfl))).trans hb, (a.keep bi ((hF bi).2 (.inr rfl))).trans hi, h2⟩, hF⟩⟩
section
variable {P : Program} {n : Nat} {L : List (Nat × Value)} {H : List SP} {c : Code} {Q : Exit → Act → World → Prop}
theorem rngS_end {bi mb : Nat} {l : List (Int × Value)} {done : List Nat} {w : World} (h : Sat w (rngS bi mb l done :: H)) : Sat w (mapS mb l :: H) := by
  refine h.change fun G hG => ⟨Upd.refl _ _, fun b => b = mb, ?_, fun b hb => .inl ((hG.2 b).2 (.inl hb))⟩
  obtain ⟨⟨_, es, ck, seen, hb, hi, hs, he, _⟩, hF⟩ := hG
  exact ⟨⟨es, ck, hb, hs, he⟩, fun _ => Iff.rfl⟩
theorem PT.rngEnd {bi mb : Nat} {l : List (Int × Value)} {done : List Nat} {Φ : Act → World → Prop} (h : PT n L (mapS mb l :: H) Φ) : PT n L (rngS bi mb l done :: H) Φ := PT.sat (fun _ hs => rngS_end hs) h
theorem rangeS {i : Nat} (t : TypeId) (x : Operand) (mb : Nat) (l : List (Int × Value)) (kt et : TypeId) (d : Option Tmp) (hg : ∀ rest, goes n c i L rest = true) (hd : (opAt c i).dst = d) (hop : (opAt c i).op = .range t x)
    (hx : ∀ rest, evalL L rest x = .map (some mb)) (hm : P.underlying t = some (.map kt et)) : Step P n L (mapS mb l :: H) c i d (fun bi => .pointer (some ⟨bi, 0, none⟩)) (fun bi => rngS bi mb l [] :: H) := by
  refine valueS d _ _ hg hd ?_
  intro rest w _ hsat
  obtain ⟨G, ⟨⟨es, ck, hb, hst, he⟩, hF⟩⟩ := hsat.head
  refine ⟨w.heap.size, w.alloc (.mapIter (some mb) ck #[] ck), ?_, ?_⟩
  · unfold execOp
    simp only [hop, hx rest, Sem.run_bind, Sem.run_map, run_range_map w t kt et mb es ck hm hb]
    rfl
  · have hlt := (Array.getElem?_eq_some_iff.1 hb).1
    refine hsat.change fun G' hG' => ⟨⟨rfl, rfl, rfl, by simp, fun b hb' _ => (heap_alloc w _).2 b hb'⟩, fun x => x = mb ∨ x = w.heap.size, ⟨⟨by omega, es, ck, #[], ?_, (heap_alloc w _).1, hst, he, rfl⟩, fun _ => Iff.rfl⟩, fun b hb' => ?_⟩
    · rw [(heap_alloc w _).2 mb hlt]; exact hb
    · rcases hb' with rfl | rfl
      · exact .inl ((hG'.2 b).2 rfl)
      · exact .inr (Nat.le_refl _)
theorem next_run (w : World) (ty : TypeId) (mb bi ck : Nat) (seen : Array Nat) (es : Array MapEntry) (hb : w.heap[mb]? = some (.map es ck)) (hi : w.heap[bi]? = some (.mapIter (some mb) ck seen ck)) (hold : ∀ x ∈ es.toList, x.born < ck) :
    ((leftOf es seen).size = 0 ∧ (Instr.next (.pointer (some ⟨bi, 0, none⟩)) false ty).run P w = .ok (.tuple #[.bool false]) w) ∨
    ∃ e ∈ (leftOf es seen).toList, ∃ w1 : World, (w1 = w ∨ w1 = w.drew) ∧ (Instr.next (.pointer (some ⟨bi, 0, none⟩)) false ty).run P w = .ok (.tuple #[.bool true, e.key, e.val]) { w1 with heap := w.heap.setIfInBounds bi (.mapIter (some mb) ck (seen.push e.born) ck) } := by
  simp only [Instr.next, getObj, Sem.run_bind, Sem.run, hi, hb, Result.andThen, next_test_false seen es ck ck hold (Nat.le_refl _), Bool.false_eq_true, if_false]
  unfold leftOf
  have hmem : ∀ x ∈ (Array.filter (fun e => !seen.contains e.born) es).toList, x.born < ck := fun x hx => hold x (by simp at hx ⊢; exact hx.1)
  generalize Array.filter (fun e => !seen.contains e.born) es = M at hmem ⊢
  have e1 : M.filter (fun x => decide (x.born < ck)) = M := Array.filter_eq_self.2 (fun x hx => by simpa using hmem x (by simpa using hx))
  have e2 : M.filter (fun x => decide (x.born ≥ ck)) = #[] := by
    rw [Array.filter_eq_empty_iff]
    intro x hx
    have := hmem x (by simpa using hx)
    simp
    omega
  simp only [e1, e2, Array.append_empty]
  by_cases h0 : M.size = 0
  · left
    have : M = #[] := Array.eq_empty_of_size_eq_zero h0
    subst this
    refine ⟨rfl, ?_⟩
    simp [choose, Sem.run, Question.forced]
  · right
    have hne : M.isEmpty = false := by simp [Array.isEmpty, h0]
    simp only [hne, Bool.false_eq_true, if_false, Array.empty_append, Array.size_map]
    have hch : ∃ (j : Nat) (w1 : World), j < M.size ∧ (w1 = w ∨ w1 = w.drew) ∧ (choose (Question.mapNext M.size)).run P w = .ok j w1 := by
      by_cases hf : M.size ≤ 1
      · exact ⟨0, w, by omega, .inl rfl, by simp [choose, Sem.run, Question.forced, hf]⟩
      · exact ⟨_, w.drew, Nat.mod_lt _ (by omega), .inr rfl, by
          simp only [choose, Sem.run, Question.forced, decide_eq_true_eq, hf, if_false, Question.cut]
          rfl⟩
    obtain ⟨j, w1, hj, hal, hrun⟩ := hch
    refine ⟨M[j], by simp, w1, hal, ?_⟩
    have hh : w1.heap = w.heap := by rcases hal with rfl | rfl <;> rfl
    have hset : ∀ (o' : Obj), (setObj bi o').run P w1 = .ok () { w1 with heap := w.heap.setIfInBounds bi o' } := fun o' => by
      simp only [setObj, Sem.run, hh, hi]
    simp only [hrun, Array.getElem?_map, Array.getElem?_eq_getElem hj, Option.map_some, Sem.run_bind, hset, Result.andThen]
    rfl
/-- The places that have not come. -/
theorem left_of {es : Array MapEntry} {seen : Array Nat} {done : List Nat} {l : List (Int × Value)} (he : es.toList.map entOf = mEnt l) (hs : seen.toList.map some = done.map (fun j => (es.toList[j]?).map (·.born))) (hn : (es.toList.map (·.born)).Nodup) :
    ((leftOf es seen).size = 0 → ∀ j, j < l.length → j ∈ done) ∧ ∀ e ∈ (leftOf es seen).toList, ∃ j k v, l[j]? = some (k, v) ∧ j ∉ done ∧ es.toList[j]? = some e ∧ e.key = .int .i64 k ∧ e.val = v := by
  have hlen : es.toList.length = l.length := by simpa [mEnt] using congrArg List.length he
  have key : ∀ j e, es.toList[j]? = some e → (seen.contains e.born = true ↔ j ∈ done) := by
    intro j e hj
    have h1 : seen.contains e.born = true ↔ some e.born ∈ seen.toList.map some := by simp
    rw [h1, hs, List.mem_map]
    constructor
    · rintro ⟨i, hi, hb⟩
      obtain ⟨e', he', hbe⟩ := Option.map_eq_some_iff.1 hb
      have hil := (List.getElem?_eq_some_iff.1 he').1
      have hjl := (List.getElem?_eq_some_iff.1 hj).1
      have : i = j := by
        refine (List.getElem_inj (h₀ := by simpa using hil) (h₁ := by simpa using hjl) hn).1 ?_
        simp only [List.getElem_map]
        rw [(List.getElem?_eq_some_iff.1 he').2, (List.getElem?_eq_some_iff.1 hj).2, hbe]
      subst this; exact hi
    · intro hjd
      exact ⟨j, hjd, by rw [hj]; rfl⟩
  constructor
  · intro h0 j hj
    have hje : es.toList[j]? = some (es.toList[j]'(by omega)) := List.getElem?_eq_getElem (by omega)
    refine (key j _ hje).1 ?_
    have hempty : leftOf es seen = #[] := Array.eq_empty_of_size_eq_zero h0
    rw [leftOf, Array.filter_eq_empty_iff] at hempty
    have := hempty (es.toList[j]'(by omega)) (by simp)
    simpa using this
  · intro e hel
    simp only [leftOf, Array.toList_filter, List.mem_filter] at hel
    obtain ⟨j, hj, hje⟩ := List.mem_iff_getElem.1 hel.1
    have hj? : es.toList[j]? = some e := by rw [List.getElem?_eq_getElem hj, hje]
    have hl : (es.toList.map entOf)[j]? = (mEnt l)[j]? := by rw [he]
    rw [List.getElem?_map, hj?] at hl
    simp only [mEnt, List.getElem?_map, Option.map_some] at hl
    cases hlj : l[j]? with
    | none => rw [hlj] at hl; simp at hl
    | some p =>
      obtain ⟨k, v⟩ := p
      rw [hlj] at hl
      simp only [Option.map_some, Option.some.injEq, entOf, Prod.mk.injEq] at hl
      refine ⟨j, k, v, hlj, fun hd => ?_, hj?, hl.1, hl.2⟩
      have := (key j e hj?).2 hd
      simp at hel this
      exact hel.2 this
/-- The iterator's step: over, or one that has not come. -/
theorem nextR {i z : Nat} (x : Operand) (bi mb : Nat) (l : List (Int × Value)) (done : List Nat) (d : Option Tmp) (hg : ∀ rest, goes n c i L rest = true) (hd : (opAt c i).dst = d) (hop : (opAt c i).op = .next x false)
    (hx : ∀ rest, evalL L rest x = .pointer (some ⟨bi, 0, none⟩))
    (h0 : (∀ j, j < l.length → j ∈ done) → RT P n (putL d (.tuple #[.bool false]) L) (rngS bi mb l done :: H) c (i + 1) z Q)
    (h1 : ∀ j k v, l[j]? = some (k, v) → j ∉ done → RT P n (putL d (.tuple #[.bool true, .int .i64 k, v]) L) (rngS bi mb l (done ++ [j]) :: H) c (i + 1) z Q) : RT P n L (rngS bi mb l done :: H) c i (z + 1) Q := by
  have key : Step (ι := { o : Option (Nat × Int × Value) // match o with | none => ∀ j, j < l.length → j ∈ done | some (j, k, v) => l[j]? = some (k, v) ∧ j ∉ done }) P n L (rngS bi mb l done :: H) c i d
      (fun o => match o.1 with | none => .tuple #[.bool false] | some (_, k, v) => .tuple #[.bool true, .int .i64 k, v]) (fun o => match o.1 with | none => rngS bi mb l done :: H | some (j, _, _) => rngS bi mb l (done ++ [j]) :: H) := by
    refine valueS d _ _ hg hd ?_
    intro rest w _ hsat
    obtain ⟨G, ⟨⟨hne, es, ck, seen, hb, hi, hst, he, hs⟩, hF⟩⟩ := hsat.head
    obtain ⟨hl0, hl1⟩ := left_of he hs hst.2.1
    have hex : ∀ r w', (Instr.next (.pointer (some ⟨bi, 0, none⟩)) false (opAt c i).type).run P w = .ok r w' → (execOp (evalL L rest) (opAt c i)).run P w = .ok (.value r) w' := by
      intro r w' hr
      unfold execOp
      simp only [hop, hx rest, Sem.run_bind, Sem.run_map, hr]
      rfl
    rcases next_run (P := P) w (opAt c i).type mb bi ck seen es hb hi hst.1 with ⟨hz, hr⟩ | ⟨e, hel, w1, hw1, hr⟩
    · exact ⟨⟨none, hl0 hz⟩, w, hex _ _ hr, hsat⟩
    · obtain ⟨j, k, v, hlj, hjd, hje, hk, hv⟩ := hl1 e hel
      refine ⟨⟨some (j, k, v), hlj, hjd⟩, _, by rw [hex _ _ hr, hk, hv], ?_⟩
      have hos : w1.os = w.os ∧ w1.tape = w.tape ∧ w1.output = w.output := by rcases hw1 with rfl | rfl <;> exact ⟨rfl, rfl, rfl⟩
      refine hsat.change fun G' hG' => ⟨⟨hos.1, hos.2.1, hos.2.2, by simp, fun b hb' hn' => ?_⟩, G', ⟨⟨hne, es, ck, seen.push e.born, ?_, (heap_set hi).1, hst, he, ?_⟩, hG'.2⟩, fun _ h => .inl h⟩
      · exact (heap_set hi).2 b (fun h => hn' ((hG'.2 b).2 (.inr h)))
      · exact ((heap_set hi).2 mb (fun h => hne h.symm)).trans hb
      · simp only [Array.toList_push, List.map_append, List.map_cons, List.map_nil, hs]
        rw [hje]; rfl
  refine stepR key fun o => ?_
  obtain ⟨o, ho⟩ := o
  cases o with
  | none => exact h0 ho
  | some q => obtain ⟨j, k, v⟩ := q; exact h1 j k v ho.1 ho.2
/-- The round's key and value. -/
theorem entryY {i : Nat} (x : Operand) (bi mb : Nat) (l : List (Int × Value)) (done : List Nat) (j : Nat) (k : Int) (v : Value) (a : Nat) (d : Option Tmp) (hg : ∀ rest, goes n c i L rest = true) (hd : (opAt c i).dst = d) (hop : (opAt c i).op = .entry x)
    (hx : ∀ rest, evalL L rest x = .pointer (some ⟨bi, 0, none⟩)) (ha : H[a]? = some (rngS bi mb l (done ++ [j]))) (hl : l[j]? = some (k, v)) : Yld P n L (fun w => Sat w H) c i d (.tuple #[.int .i64 k, v]) := by
  refine ⟨hg, hd, fun rest w _ hs => ?_⟩
  obtain ⟨G, ⟨⟨hne, es, ck, seen, hb, hi, hst, he, hse⟩, hF⟩⟩ := (hs.pick a ha).head
  have hel : (es.toList.map entOf)[j]? = some (.int .i64 k, v) := by rw [he, mEnt, List.getElem?_map, hl]; rfl
  rw [List.getElem?_map] at hel
  obtain ⟨e, hje, hev⟩ := Option.map_eq_some_iff.1 hel
  simp only [entOf, Prod.mk.injEq] at hev
  have hseen : seen.back? = some e.born := by
    have h1 : (seen.toList.map some).getLast? = some (some e.born) := by
      rw [hse, List.map_append, List.map_cons, List.map_nil, List.getLast?_concat, hje]; rfl
    rw [List.getLast?_map] at h1
    obtain ⟨s, hs1, hs2⟩ := Option.map_eq_some_iff.1 h1
    rw [← Array.getLast?_toList, hs1, Option.some.inj hs2]
  have hf : es.find? (·.born == e.born) = some e := by rw [← Array.find?_toList]; exact find_born e es.toList hst.2.1 (List.mem_of_getElem? hje)
  have hr : (Instr.entry (.pointer (some ⟨bi, 0, none⟩))).run P w = .ok (.tuple #[.int .i64 k, v]) w := by
    simp only [Instr.entry, getObj, Sem.run_bind, Sem.run, hi, hb, Result.andThen, hseen, bne_self_eq_false, Bool.false_eq_true, if_false, hf, hev.1, hev.2]
    rfl
  unfold execOp
  simp only [hop, hx rest, Sem.run_bind, Sem.run_map, hr]
  rfl
theorem mlenY {S : World → Prop} {i : Nat} (t kt et : TypeId) (m : Operand) (mb : Nat) (l : List (Int × Value)) (d : Option Tmp) (hg : ∀ rest, goes n c i L rest = true) (hd : (opAt c i).dst = d) (hop : (opAt c i).op = .call { callee := .builtin .len, args := #[m], argTypes := #[t] })
    (hx : ∀ rest, evalL L rest m = .map (some mb)) (hm : P.underlying t = some (.map kt et)) (hS : ∀ w, S w → ∃ es ck, w.heap[mb]? = some (.map es ck) ∧ es.toList.map entOf = mEnt l) : Yld P n L S c i d (.int .i64 (l.length : Int)) := by
  refine ⟨hg, hd, fun rest w _ hs => ?_⟩
  obtain ⟨es, ck, hb, he⟩ := hS w hs
  have hlen : es.size = l.length := by simpa [mEnt] using congrArg List.length he
  have hr : ∀ ty, (Builtin.len_ #[t] ty #[.map (some mb)]).run P w = .ok (.int .i64 (l.length : Int)) w := fun ty => by
    simp [Builtin.len_, run_underlying hm, Go.MapKept.run_getObj_map hb, goInt, hlen]
  unfold execOp
  simp only [hop, resolve, invoke, builtin, Sem.run_bind, Sem.run_pure, Result.andThen_ok, List.map_toArray, List.map_cons, List.map_nil, hx rest, hr]
/-- A map without a key. -/
def delE (l : List (Int × Value)) (k : Int) : List (Int × Value) := l.eraseP (fun p => p.1 == k)
theorem lkI_erase {k : Int} : ∀ (l : List (Int × Value)) (i : Nat), (match lkI l k i with | some j => i ≤ j ∧ delE l k = l.eraseIdx (j - i) | none => delE l k = l)
  | [], i => by simp [lkI, delE]
  | p :: r, i => by
    have ih := lkI_erase (k := k) r (i + 1)
    simp only [lkI]
    by_cases c : (p.1 == k) = true
    · rw [if_pos c]
      simp [delE, List.eraseP_cons, c]
    · rw [if_neg c]
      have c' : (p.1 == k) = false := by simpa using c
      cases hr : lkI r k (i + 1) with
      | none =>
        rw [hr] at ih
        simp only [delE, List.eraseP_cons, c'] at ih ⊢
        simp [ih]
      | some j =>
        rw [hr] at ih
        simp only [delE, List.eraseP_cons, c'] at ih ⊢
        refine ⟨by omega, ?_⟩
        rw [show j - i = (j - (i + 1)) + 1 by omega, List.eraseIdx_cons_succ]
        simp [ih.2]
theorem map_erase {α β : Type} (f : α → β) : ∀ (l : List α) (i : Nat), (l.eraseIdx i).map f = (l.map f).eraseIdx i
  | [], _ => rfl
  | _ :: _, 0 => rfl
  | x :: l, i + 1 => by simp [map_erase f l i]
/-- An entry goes. -/
theorem delS {i : Nat} (t kt et : TypeId) (m k : Operand) (b : Nat) (kk : Int) (l : List (Int × Value)) (ats : Array TypeId) (hat : ats[0]? = some t) (hg : ∀ rest, goes n c i L rest = true) (hd : (opAt c i).dst = none) (hop : (opAt c i).op = .call { callee := .builtin .delete, args := #[m, k], argTypes := ats })
    (hx : ∀ rest, evalL L rest m = .map (some b)) (hix : ∀ rest, evalL L rest k = .int .i64 kk) (hm : P.underlying t = some (.map kt et)) (hk : P.underlying kt = some (.int .i64)) :
    Step (ι := Unit) P n L (mapS b l :: H) c i none (fun _ => .tuple #[]) (fun _ => mapS b (delE l kk) :: H) := by
  refine valueS (ι := Unit) none (fun _ => .tuple #[]) (fun _ => mapS b (delE l kk) :: H) hg hd ?_
  intro rest w _ hs
  obtain ⟨G, ⟨⟨es, ck, hb, hst, he⟩, hF⟩⟩ := hs.head
  have hf := run_findKey (P := P) (w := w) hk (findNow_int kk es.toList l 0 he)
  have hck : (Instr.checkKey es.isEmpty 10000 kt (.int .i64 kk)).run P w = .ok () w := run_checkKey hk (by simp [IsKey]) _ _
  have hle := lkI_erase (k := kk) l 0
  obtain ⟨es', hr, hst', he'⟩ : ∃ es', (∀ ty, (Builtin.delete_ ats ty #[.map (some b), .int .i64 kk]).run P w = .ok (.tuple #[]) { w with heap := w.heap.setIfInBounds b (.map es' ck) }) ∧ Stamped es' ck ∧ es'.toList.map entOf = mEnt (delE l kk) := by
    have hli : ∀ (l : List (Int × Value)) (i : Nat), (lkI l kk i).isSome = (lkE l kk).isSome := by
      intro l
      induction l with
      | nil => intro i; rfl
      | cons p r ih => intro i; simp only [lkI, lkE]; split; rfl; exact ih _
    have h1 := hli l 0
    cases hj : lkI l kk 0 with
    | none =>
      rw [hj] at hf hle
      refine ⟨es, fun ty => ?_, hst, by simp only at hle; rw [hle]; exact he⟩
      simp [Builtin.delete_, hat, run_underlying hm, Go.MapKept.run_getObj_map hb, hck, hf, run_setObj_map _ hb, Result.andThen]
    | some j =>
      rw [hj] at hf hle h1
      obtain ⟨v, hv⟩ := Option.isSome_iff_exists.1 h1.symm
      rw [hv] at hf
      refine ⟨es.eraseIdxIfInBounds j, fun ty => ?_, stamped_erase hst j, ?_⟩
      · simp [Builtin.delete_, hat, run_underlying hm, Go.MapKept.run_getObj_map hb, hck, hf, run_setObj_map _ hb, Result.andThen]
      · simp only at hle
        rw [hle.2]
        simp only [Nat.sub_zero, mEnt]
        rw [map_erase, show l.map (fun p => (Value.int .i64 p.1, p.2)) = mEnt l from rfl, ← he, ← map_erase]
        congr 1
        simp [Array.eraseIdxIfInBounds]
        split
        · simp
        · rename_i hnl; rw [List.eraseIdx_of_length_le]; simpa using hnl
  refine ⟨(), { w with heap := w.heap.setIfInBounds b (.map es' ck) }, ?_, ?_⟩
  · unfold execOp
    simp only [hop, resolve, invoke, builtin, Sem.run_bind, Sem.run_pure, Result.andThen_ok, List.map_toArray, List.map_cons, List.map_nil, hx rest, hix rest, hr]
  · exact hs.change fun G' hG' => ⟨⟨rfl, rfl, rfl, by simp, fun b' hb' hn' => (heap_set hb).2 b' (fun h => hn' ((hG'.2 b').2 h))⟩, G', ⟨⟨es', ck, (heap_set hb).1, hst', he'⟩, hG'.2⟩, fun _ h => .inl h⟩
end
end Go.Proofs.YtjbjngikaiggdaaGreat.G
