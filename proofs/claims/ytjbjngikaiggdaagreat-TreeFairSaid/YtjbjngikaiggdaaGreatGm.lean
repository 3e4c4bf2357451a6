/- Maps of numbers in G. Conditions: none. -/
import Derived.Test.YtjbjngikaiggdaaGreatG
import Derived.MapKept
set_option linter.unusedVariables false
set_option linter.unusedSimpArgs false
namespace Go.Proofs.YtjbjngikaiggdaaGreat.G
open Go.RowKit Go.Proofs.YtjbjngikaiggdaaGreat Go.MapKept
def mEnt (l : List (Int × Value)) : List (Value × Value) := l.map fun p => (.int .i64 p.1, p.2)
def entOf (e : MapEntry) : Value × Value := (e.key, e.val)
/-- A map of numbers. -/
def mapS (b : Nat) (l : List (Int × Value)) : SP := ⟨fun w F => (∃ es ck, w.heap[b]? = some (.map es ck) ∧ Stamped es ck ∧ es.toList.map entOf = mEnt l) ∧ ∀ x, F x ↔ x = b,
  fun h x hx => by
    obtain ⟨⟨es, ck, hb, _⟩, hF⟩ := h
    rw [(hF x).1 hx]
    exact (Array.getElem?_eq_some_iff.1 hb).1,
  fun h a => by
    obtain ⟨⟨es, ck, hb, h2⟩, hF⟩ := h
    exact ⟨⟨es, ck, (a.keep b ((hF b).2 rfl)).trans hb, h2⟩, hF⟩⟩
/-- What a map holds at a key. -/
def lkE : List (Int × Value) → Int → Option Value
  | [], _ => none
  | p :: r, k => if p.1 == k then some p.2 else lkE r k
/-- .. and where. -/
def lkI : List (Int × Value) → Int → Nat → Option Nat
  | [], _, _ => none
  | p :: r, k, i => if p.1 == k then some i else lkI r k (i + 1)
theorem findNow_int (k : Int) : ∀ (es : List MapEntry) (l : List (Int × Value)) (i : Nat), es.map entOf = mEnt l →
    Instr.findNow (.int .i64) (.int .i64 k) es i = some ((lkI l k i).bind fun j => (lkE l k).map fun v => (j, v))
  | [], [], i, _ => rfl
  | [], p :: r, i, h => by simp [mEnt] at h
  | e :: es, [], i, h => by simp [mEnt] at h
  | e :: es, p :: r, i, h => by
    have h' := h
    rw [List.map_cons, mEnt, List.map_cons, List.cons.injEq] at h'
    have hk : e.key = .int .i64 p.1 := congrArg Prod.fst h'.1
    have hv : e.val = p.2 := congrArg Prod.snd h'.1
    have ih := findNow_int k es r (i + 1) h'.2
    rw [Instr.findNow, hk, hv]
    simp only [Instr.sameNow, if_true]
    by_cases c : k = p.1
    · subst c
      simp [lkI, lkE]
    · have c1 : (k == p.1) = false := by simpa using c
      have c2 : (p.1 == k) = false := by simp; exact fun h => c h.symm
      rw [c1, ih]
      simp [lkI, lkE, c2]
section
variable {P : Program} {n : Nat} {L : List (Nat × Value)} {H : List SP} {c : Code} {w : World}
theorem run_lookup_int {mty kt et : TypeId} {b : Nat} {es : Array MapEntry} {ck : Nat} {l : List (Int × Value)} {z : Value} (k : Int) (ok : Bool) (hm : P.underlying mty = some (.map kt et)) (hk : P.underlying kt = some (.int .i64)) (hz : (zeroValue et).run P w = .ok z w)
    (hb : w.heap[b]? = some (.map es ck)) (he : es.toList.map entOf = mEnt l) :
    (Instr.lookup mty (.map (some b)) (.int .i64 k) ok).run P w = .ok (if ok then .tuple #[(lkE l k).getD z, .bool (lkE l k).isSome] else (lkE l k).getD z) w := by
  have hg : (getObj b).run P w = .ok (.map es ck) w := Go.MapKept.run_getObj_map hb
  have hf := run_findKey (P := P) (w := w) hk (findNow_int k es.toList l 0 he)
  have hck : (Instr.checkKey es.isEmpty 10000 kt (.int .i64 k)).run P w = .ok () w := run_checkKey hk (by simp [IsKey]) _ _
  have hli : ∀ (l : List (Int × Value)) (i : Nat), (lkI l k i).isSome = (lkE l k).isSome := by
    intro l
    induction l with
    | nil => intro i; rfl
    | cons p r ih => intro i; simp only [lkI, lkE]; split; rfl; exact ih _
  unfold Instr.lookup
  simp only [Sem.run_bind, run_underlying hm, Result.andThen_ok, hg, Sem.run_pure, hck, hf]
  have h1 := hli l 0
  cases hv : lkE l k with
  | none =>
    rw [hv] at h1
    have h2 : lkI l k 0 = none := by simpa using h1
    simp [h2, hz]
  | some v =>
    rw [hv] at h1
    obtain ⟨j, h2⟩ := Option.isSome_iff_exists.1 h1
    simp [h2]
theorem mapAt {b i : Nat} {l : List (Int × Value)} (hi : H[i]? = some (mapS b l)) : ∀ w, Sat w H → ∃ es ck, w.heap[b]? = some (.map es ck) ∧ es.toList.map entOf = mEnt l := by
  intro w hs
  obtain ⟨G, ⟨es, ck, hb, _, he⟩, _⟩ := (hs.pick i hi).head
  exact ⟨es, ck, hb, he⟩
/-- A map's value at a key. -/
theorem lookY {S : World → Prop} {i : Nat} (t : TypeId) (x ix : Operand) (ok : Bool) (b : Nat) (k : Int) (l : List (Int × Value)) (z v : Value) (kt et : TypeId) (d : Option Tmp) (hg : ∀ rest, goes n c i L rest = true) (hd : (opAt c i).dst = d) (hop : (opAt c i).op = .lookup t x ix ok)
    (hx : ∀ rest, evalL L rest x = .map (some b)) (hix : ∀ rest, evalL L rest ix = .int .i64 k) (hm : P.underlying t = some (.map kt et)) (hk : P.underlying kt = some (.int .i64)) (hz : ∀ w, (zeroValue et).run P w = .ok z w)
    (hS : ∀ w, S w → ∃ es ck, w.heap[b]? = some (.map es ck) ∧ es.toList.map entOf = mEnt l) (hv : (if ok then .tuple #[(lkE l k).getD z, .bool (lkE l k).isSome] else (lkE l k).getD z) = v) : Yld P n L S c i d v := by
  refine ⟨hg, hd, fun rest w _ hs => ?_⟩
  obtain ⟨es, ck, hb, he⟩ := hS w hs
  have := run_lookup_int (P := P) (w := w) k ok hm hk (hz w) hb he
  unfold execOp
  simp only [hop, hx rest, hix rest]
  simp only [Sem.run_bind, Sem.run_map, this, hv]
  rfl
theorem newMapS {i : Nat} (d : Option Tmp) (v : Nat → Value) (h : ∀ rest r, newOk P n c i L rest r = some (.map #[] 0, v r, d)) : Step P n L H c i d v (fun b => mapS b [] :: H) := by
  have key : ∀ rest r, goes n c i L rest = true ∧ (opAt c i).dst = d ∧ ∃ f, newL P (execOp (evalL L rest) (opAt c i)) = some (.map #[] 0, f) ∧ f r = some (.value (v r)) := by
    intro rest r
    have h0 := h rest r
    unfold newOk at h0
    cases hg : goes n c i L rest with
    | false => rw [hg] at h0; cases h0
    | true =>
      rw [hg] at h0
      simp only at h0
      cases hr : newL P (execOp (evalL L rest) (opAt c i)) with
      | none => rw [hr] at h0; cases h0
      | some z =>
        obtain ⟨o, f⟩ := z
        rw [hr] at h0
        simp only at h0
        cases hf : f r with
        | none => rw [hf] at h0; cases h0
        | some x =>
          rw [hf] at h0
          cases x with
          | value u =>
            simp only [Option.some.injEq, Prod.mk.injEq] at h0
            obtain ⟨rfl, rfl, rfl⟩ := h0
            exact ⟨rfl, rfl, f, rfl, hf⟩
          | _ => cases h0
  refine valueS d v _ (fun rest => (key rest 0).1) (key (fun _ => undef) 0).2.1 ?_
  intro rest w _ hs
  obtain ⟨_, _, f, h1, h2⟩ := key rest w.heap.size
  refine ⟨w.heap.size, w.alloc (.map #[] 0), newL_run _ h1 h2, ?_⟩
  exact Sat.fresh hs (Upd.alloc _ _ _) (G' := fun b => b = w.heap.size) ⟨⟨#[], 0, (heap_alloc w _).1, stamped_empty 0, rfl⟩, fun _ => Iff.rfl⟩ (fun b hb => by omega)
theorem mEnt_keys {l : List (Int × Value)} {es : List MapEntry} (h : es.map entOf = mEnt l) : es.map (·.key) = l.map fun p => Value.int .i64 p.1 := by
  have := congrArg (List.map Prod.fst) h
  simp only [List.map_map, mEnt] at this
  exact this
theorem lkE_none {l : List (Int × Value)} {k : Int} : lkE l k = none ↔ ∀ p ∈ l, p.1 ≠ k := by
  induction l with
  | nil => simp [lkE]
  | cons p r ih =>
    simp only [lkE]
    by_cases c : p.1 = k
    · simp [c]
    · have : (p.1 == k) = false := by simpa using c
      rw [this]; simp [c, ih]
theorem lkI_none {l : List (Int × Value)} {k : Int} : ∀ i, lkE l k = none → lkI l k i = none := by
  induction l with
  | nil => intro i _; rfl
  | cons p r ih =>
    intro i h
    simp only [lkE, lkI] at h ⊢
    split at h
    · cases h
    · rename_i c; rw [if_neg c]; exact ih _ h
/-- A map takes a new key. -/
theorem updS {i : Nat} (t : TypeId) (m k v : Operand) (b : Nat) (kk : Int) (l : List (Int × Value)) (vv : Value) (kt et : TypeId) (hg : ∀ rest, goes n c i L rest = true) (hd : (opAt c i).dst = none) (hop : (opAt c i).op = .mapUpdate t m k v ∨ (opAt c i).op = .insert t m k v)
    (hx : ∀ rest, evalL L rest m = .map (some b)) (hix : ∀ rest, evalL L rest k = .int .i64 kk) (hvv : ∀ rest, evalL L rest v = vv) (hm : P.underlying t = some (.map kt et)) (hk : P.underlying kt = some (.int .i64)) (hn : lkE l kk = none) :
    Step (ι := Unit) P n L (mapS b l :: H) c i none (fun _ => undef) (fun _ => mapS b (l ++ [(kk, vv)]) :: H) := by
  refine skipS _ hg hd ?_
  intro rest w _ hs
  obtain ⟨G, ⟨⟨es, ck, hb, hst, he⟩, hF⟩⟩ := hs.head
  have hf := run_findKey (P := P) (w := w) hk (findNow_int kk es.toList l 0 he)
  rw [lkI_none 0 hn] at hf
  have hck : (Instr.checkKey false 10000 kt (.int .i64 kk)).run P w = .ok () w := run_checkKey hk (by simp [IsKey]) _ _
  have hr : (Instr.mapUpdate t (.map (some b)) (.int .i64 kk) vv).run P w = .ok () { w with heap := w.heap.setIfInBounds b (.map (es.push { key := .int .i64 kk, val := vv, born := ck }) (ck + 1)) } := by
    simp [Instr.mapUpdate, run_underlying hm, Go.MapKept.run_getObj_map hb, hck, hf, run_setObj_map _ hb, Result.andThen]
  refine ⟨{ w with heap := w.heap.setIfInBounds b (.map (es.push { key := .int .i64 kk, val := vv, born := ck }) (ck + 1)) }, ?_, ?_⟩
  · unfold execOp
    rcases hop with hop | hop <;> simp only [hop, hx rest, hix rest, hvv rest] <;> simp only [Sem.run_bind, Sem.run_map, hr] <;> rfl
  · refine hs.change fun G' hG' => ⟨⟨rfl, rfl, rfl, by simp, fun b' hb' hn' => ?_⟩, G', ⟨⟨_, _, (heap_set hb).1, stamped_push hst ?_, ?_⟩, hG'.2⟩, fun _ h => .inl h⟩
    · exact (heap_set hb).2 b' (fun h => hn' ((hG'.2 b').2 h))
    · intro x hx hkx
      have h1 := mEnt_keys he
      have h2 : x.key ∈ es.toList.map (·.key) := List.mem_map.2 ⟨x, hx, rfl⟩
      rw [h1, List.mem_map] at h2
      obtain ⟨p, hp, hpk⟩ := h2
      rw [hkx] at hpk
      injection hpk with _ e2
      exact (lkE_none.1 hn) p hp e2
    · simp [he, mEnt, entOf]
end
end Go.Proofs.YtjbjngikaiggdaaGreat.G
