/- Words of our own for the walks: copy, clear, append of zeros, at rows of elements. Conditions: none. -/
import Derived.Test.YtjbjngikaiggdaaGreatBaseB
import Derived.Lib.Overlaps
import Derived.Laws.Externs
import Derived.Deep.RegionLaw
import Derived.ScopeJumps
namespace Go.Proofs.YtjbjngikaiggdaaGreat
open Go.RowKit
section
variable {α : Type} {E : Enc α} {T : TypeId} {w w' : World} {F G : Nat → Prop} {v y : Value} {xs ys : List α} {P : Program}

/-- A scope with one label: what holds at the label bears a number that each pass lowers. What is behind the label is walked once. -/
theorem wp_scope_g {c y : Code} {Q : Exit → Act → World → Prop} {a : Act} {w : World} (l : Nat) (J : Nat → Act → World → Prop) (hf : findLabel c l = some (.seq .skip y))
    (pass : ∀ n a w, J n a w → ∀ K : Act → World → Prop, (∀ a' w', (∃ n', n' < n ∧ J n' a' w') → K a' w') → y.wp P (Exit.jump l K Q) a w)
    (first : ∀ K : Act → World → Prop, (∀ n a' w', J n a' w' → y.wp P (Exit.jump l K Q) a' w') → c.wp P (Exit.jump l K Q) a w) : (Code.scope c).wp P Q a w := by
  refine wp_scope_jumps l (fun a w => ∃ n, J n a w) (fun a w => leastOf (fun n => J n a w)) hf (first _ fun n a' w' hJ => pass n a' w' hJ _ fun a'' w'' ⟨n', _, h⟩ => ⟨n', h⟩) ?_
  intro a w hJ
  refine wp_seq (wp_skip ?_)
  exact pass _ a w (leastOf_spec hJ).1 _ fun a' w' ⟨n', hlt, h⟩ => ⟨⟨n', h⟩, Nat.lt_of_le_of_lt ((leastOf_spec ⟨n', h⟩).2 n' h) hlt⟩
/-- A row whose tail has moved by m, and what has been laid into the gap. -/
theorem shift_list {β : Type} (L A D X : List β) (o a d m : Nat) (ha : A.length = a) (hd : D.length = d) (hX : X.length = m) (hl : o + a + d + m ≤ L.length) (h : (L.drop o).take (a + d) = A ++ D) :
    let L1 := L.take (o + a + m) ++ D ++ L.drop (o + a + m + d)
    let L2 := L1.take (o + a) ++ X ++ L1.drop (o + a + m)
    L2.length = L.length ∧ (L2.drop o).take (a + m + d) = A ++ X ++ D := by
  intro L1 L2
  have hU : (L.take o).length = o := by simp; omega
  have hL : L.take (o + a + m) = L.take o ++ A ++ ((L.drop o).drop a).take m := by
    have h1 : L.take (o + a + m) = L.take o ++ (L.drop o).take (a + m) := by rw [Nat.add_assoc, List.take_add]
    have h2 : (L.drop o).take (a + m) = (L.drop o).take a ++ ((L.drop o).drop a).take m := List.take_add
    have h3 : (L.drop o).take a = A := by
      have := congrArg (List.take a) h
      rw [List.take_take, Nat.min_eq_left (by omega), List.take_left' ha] at this
      exact this
    rw [h1, h2, h3, List.append_assoc]
  have hM : (((L.drop o).drop a).take m).length = m := by simp; omega
  have e1 : L1 = (L.take o ++ A) ++ (((L.drop o).drop a).take m ++ (D ++ L.drop (o + a + m + d))) := by
    show L.take (o + a + m) ++ D ++ L.drop (o + a + m + d) = _
    rw [hL]; simp
  have hUA : (L.take o ++ A).length = o + a := by rw [List.length_append, hU, ha]
  have e2 : L1.take (o + a) = L.take o ++ A := by rw [e1]; exact List.take_left' hUA
  have e3 : L1.drop (o + a + m) = D ++ L.drop (o + a + m + d) := by
    rw [e1, ← List.append_assoc]
    exact List.drop_left' (by rw [List.length_append, hUA, hM])
  have e4 : L2 = L.take o ++ ((A ++ X ++ D) ++ L.drop (o + a + m + d)) := by
    show L1.take (o + a) ++ X ++ L1.drop (o + a + m) = _
    rw [e2, e3]; simp
  constructor
  · rw [e4]; simp only [List.length_append, hU, ha, hX, hd, List.length_drop]; omega
  · rw [e4, List.drop_left' hU]
    exact List.take_left' (by simp only [List.length_append, ha, hX, hd])
theorem run_copy_at {dT sT ty : TypeId} {k : Nat} (ht : P.underlying dT = some (.slice T)) (hs : (P.info? T).map (·.size) = some k) {b o dl dc sl sc : Nat} {cur : Array Value} (hb : w.heap[b]? = some (.cells cur T (0, 0)))
    {ao : Option Addr} {cs : List Value} {m : Nat} (hmin : Nat.min sl dl = m) (hm : cs.length = m * k) (hnone : ao = none → sl = 0) (hsrc : ∀ a, ao = some a → ∀ j u, cs[j]? = some u → w.cell? (a.add j) = some u) (h1 : ∀ u ∈ cs, u.oneCell' = true) (hfit : o + cs.length ≤ cur.size) :
    (Builtin.copy_ #[dT, sT] ty #[.slice (some ⟨b, o, none⟩) dl dc, .slice ao sl sc]).run P w = .ok (goInt m) (w.setRow b (cur.toList.take o ++ cs ++ cur.toList.drop (o + cs.length)).toArray) := by
  subst hmin
  have hst := run_storeCells_at P b o T cs 0 cur w hb (by simpa using hfit) h1
  simp only [Nat.add_zero] at hst
  have hf : (Builtin.firstCells k (Nat.min sl dl) (.slice ao sl sc)).run P w = .ok cs.toArray w := by
    cases ao with
    | none =>
      have := hnone rfl; subst this
      have : cs = [] := List.eq_nil_of_length_eq_zero (by simpa using hm)
      subst this
      simp [Builtin.firstCells]
    | some a => exact run_firstCells_some (P := P) w k _ a sl sc cs hm (hsrc a rfl)
  cases hq : P.info? T with
  | none => simp [hq] at hs
  | some i =>
    have hi : i.size = k := by simpa [hq] using hs
    simp [Builtin.copy_, run_underlying ht, Builtin.lenOf, sizeOf, typeInfo, hq, hi, hf, hst]

theorem Enc.flat_set (E : Enc α) : ∀ (xs : List α) (i j : Nat) (x x' : α) (u : Value), xs[i]? = some x → E.enc x' = (E.enc x).set j u → j < E.k → (E.flat xs).set (i * E.k + j) u = E.flat (xs.set i x')
  | [], i, j, x, x', u, h, _, _ => by simp at h
  | y :: xs, 0, j, x, x', u, h, he, hj => by
    simp at h; subst h
    rw [List.set_cons_zero, Enc.flat_cons, Enc.flat_cons, he, Nat.zero_mul, Nat.zero_add, List.set_append_left _ _ (by rw [E.len]; exact hj)]
  | y :: xs, i + 1, j, x, x', u, h, he, hj => by
    rw [List.set_cons_succ, Enc.flat_cons, Enc.flat_cons, List.set_append_right _ _ (by rw [E.len, Nat.add_mul]; omega), E.len]
    have : (i + 1) * E.k + j - E.k = i * E.k + j := by rw [Nat.add_mul]; omega
    rw [this, Enc.flat_set E xs i j x x' u (by simpa using h) he hj]
/-- A store into one cell of an element. -/
theorem Row.set {b o c n i j : Nat} {x x' : α} {u : Value} (hrow : Row E T w F (.slice (some ⟨b, o, none⟩) n c) xs) (hx : xs[i]? = some x) (he : E.enc x' = (E.enc x).set j u) (hj : j < E.k) :
    Row E T (w.setCell ⟨b, o + i * E.k + j, none⟩ u) F (.slice (some ⟨b, o, none⟩) n c) (xs.set i x') := by
  rcases hrow with ⟨h, _, _⟩ | ⟨b', o', c', cur, hv, hF, hb, h1, h2, h3, h4⟩
  · cases h
  · cases hv
    have hi : i < xs.length := (List.getElem?_eq_some_iff.1 hx).1
    have hfit : i * E.k + j < xs.length * E.k := by
      have := Nat.mul_le_mul_right E.k (show i + 1 ≤ xs.length by omega)
      rw [Nat.add_mul] at this
      omega
    refine .inr ⟨b, o, c, cur.setIfInBounds (o + i * E.k + j) u, by rw [List.length_set], hF, ?_, by rw [List.length_set]; exact h1, h2, by simpa using h3, ?_⟩
    · simp [World.setCell, Array.getElem?_modify, hb]
    · rw [List.length_set, ← Enc.flat_set E xs i j x x' u hx he hj, ← h4, Array.toList_setIfInBounds, List.drop_set, if_neg (by omega), List.take_set]
      congr 1; omega
theorem Row.lenEq {b : Option Addr} {n c : Nat} (hrow : Row E T w F (.slice b n c) xs) : n = xs.length := by
  rcases hrow with ⟨h, rfl, _⟩ | ⟨b', o', c', cur, hv, _⟩
  · cases h; rfl
  · cases hv; rfl
/-- 'append(s[:n], make([]E, l)...)' where there is no room. -/
theorem run_append_zeros {t tn ty : TypeId} {z : Value} (ht : P.underlying t = some (.slice T)) (htn : P.underlying tn = some (.int .i64)) (hE : Ety P E T z)
    {ao : Option Addr} {n c l : Nat} (hx : xs.length = n) (hcells : ∀ a, ao = some a → ∀ j u, (E.flat xs)[j]? = some u → w.cell? (a.add j) = some u) (hnone : ao = none → n = 0) (hnc : n ≤ c) (hc : c < n + l) (hl : n + l ≤ 1073741824) {L : Int} (hL : L = l) :
    ∃ cap, n + l ≤ cap ∧ cap ≤ maxLen ∧ (Builtin.append_ #[t, tn] ty #[.slice ao n c, .int .i64 L]).run P w = .ok (.slice (some ⟨w.heap.size, 0, none⟩) (n + l) cap) (w.drew.alloc (.cells ((E.flat xs).toArray ++ Builtin.zeroCells z.cells l ++ Builtin.zeroCells z.cells (cap - (n + l))) T)) := by
  obtain ⟨⟨i, hi, hz, hsize, hbt⟩, hzs⟩ := hE
  subst hx
  subst hL
  refine ⟨grownCap w (xs.length + l) c T, grownCap_ge w _ c T, grownCap_le_maxLen w _ c T (by simp [maxLen]; omega), ?_⟩
  have hbytes : (xs.length + l) * i.bytes ≤ 140737488355328 := by
    have := Nat.mul_le_mul hl hbt
    omega
  have hlb : l * i.bytes ≤ 140737488355328 := Nat.le_trans (Nat.mul_le_mul_right _ (by omega)) hbytes
  have hlw : IntKind.i64.wrap (l : Int) = l := by rw [IntKind.wrap_i64]; omega
  have h0 : ¬ ((l : Int) < 0) := by omega
  have h1 : ¬ (281474976710656 < (l : Int) * (i.bytes : Int)) := by
    have : ((l * i.bytes : Nat) : Int) = (l : Int) * (i.bytes : Int) := by simp
    omega
  have hn : ¬ (xs.length + l ≤ c) := by omega
  have h63' : ¬ (9223372036854775807 < ((xs.length : Int) + (l : Int))) := by omega
  have h48' : ¬ (281474976710656 < Builtin.nextslicecap (xs.length + l) c * i.bytes) := by
    have := growslice_fits (need := xs.length + l) (old := c) (bytes := i.bytes) (by omega) hbytes
    omega
  have hfo : (Builtin.firstCells E.k xs.length (.slice ao xs.length c)).run P w.drew = .ok (E.flat xs).toArray w.drew := by
    cases ao with
    | none =>
      have := hnone rfl
      have : xs = [] := List.eq_nil_of_length_eq_zero this
      subst this
      simp [Builtin.firstCells, Enc.flat_nil]
    | some a => exact run_firstCells_some (P := P) w.drew E.k xs.length a xs.length c (E.flat xs) (E.flat_length xs) (by simpa using hcells a rfl)
  have hk := E.kpos
  have hz0 : ¬ (l * E.k = 0) := by
    intro h
    rcases Nat.mul_eq_zero.1 h with h | h
    · omega
    · omega
  simp [Builtin.append_, run_underlying ht, run_underlying htn, sizeOf, typeInfo, zeroValue, hi, hz, hsize, asInt, asIntOf, hlw, h0, h1, hn, h63', h48', Question.forced, hfo, newRow, grownCap, hz0]

theorem wpList_append_by {o : Oper} {ops : Array Oper} {rest : List Oper} {a : Act} {Q : Exit → Act → World → Prop} {s x : Operand} {t t' : TypeId} {v u v' : Value} {w' : World}
    (hh : o.guard = none ∧ o.op = .call { callee := .builtin .append, args := #[s, x], argTypes := #[t, t'] } ∧ a.eval s = v ∧ a.eval x = u)
    (hr : (Builtin.append_ #[t, t'] o.type #[v, u]).run P w = .ok v' w') (h : wpList P ops Q rest (a.put o.dst v') w') : wpList P ops Q (o :: rest) a w :=
  wpList_plain hh.1 fun K hK => by
    obtain ⟨_, ho, hs, hx⟩ := hh
    unfold Oper.wp execOp
    simp only [ho, resolve, invoke, builtin, Sem.run_bind, Sem.run_pure, Result.andThen_ok, List.map_toArray, List.map_cons, List.map_nil, hs, hx, hr]
    exact hK _ _ h
theorem wpList_copy_by {o : Oper} {ops : Array Oper} {rest : List Oper} {a : Act} {Q : Exit → Act → World → Prop} {s x : Operand} {t t' : TypeId} {v u v' : Value} {w' : World}
    (hh : o.guard = none ∧ o.op = .call { callee := .builtin .copy, args := #[s, x], argTypes := #[t, t'] } ∧ a.eval s = v ∧ a.eval x = u)
    (hr : (Builtin.copy_ #[t, t'] o.type #[v, u]).run P w = .ok v' w') (h : wpList P ops Q rest (a.put o.dst v') w') : wpList P ops Q (o :: rest) a w :=
  wpList_plain hh.1 fun K hK => by
    obtain ⟨_, ho, hs, hx⟩ := hh
    unfold Oper.wp execOp
    simp only [ho, resolve, invoke, builtin, Sem.run_bind, Sem.run_pure, Result.andThen_ok, List.map_toArray, List.map_cons, List.map_nil, hs, hx, hr]
    exact hK _ _ h
/-- One step of a region that draws: append, copy. -/
theorem step_copy_by {o : Oper} {ops : Array Oper} {a : Act} {K : Act → World → Prop} {Q : Exit → Act → World → Prop} {Z : Prop} (hgd : o.guard = none) (s x : Operand) (t t' : TypeId)
    (ho : o.op = .call { callee := .builtin .copy, args := #[s, x], argTypes := #[t, t'] }) {v u v' : Value} {w' : World} (hs : a.eval s = v) (hx : a.eval x = u)
    (hr : (Builtin.copy_ #[t, t'] o.type #[v, u]).run P w = .ok v' w') (h : K (a.put o.dst v') w') : if Region.wanted o (yielded ops a.tmps) = true then Oper.wp P o a w K Q else Z := by
  have hw : Region.wanted o (yielded ops a.tmps) = true := by simp [Region.wanted, hgd]
  rw [if_pos hw]
  unfold Oper.wp execOp
  simp only [ho, resolve, invoke, builtin, Sem.run_bind, Sem.run_pure, Result.andThen_ok, List.map_toArray, List.map_cons, List.map_nil, hs, hx, hr]
  exact h
theorem step_append_by {o : Oper} {ops : Array Oper} {a : Act} {K : Act → World → Prop} {Q : Exit → Act → World → Prop} {Z : Prop} (hgd : o.guard = none) (s x : Operand) (t t' : TypeId)
    (ho : o.op = .call { callee := .builtin .append, args := #[s, x], argTypes := #[t, t'] }) {v u v' : Value} {w' : World} (hs : a.eval s = v) (hx : a.eval x = u)
    (hr : (Builtin.append_ #[t, t'] o.type #[v, u]).run P w = .ok v' w') (h : K (a.put o.dst v') w') : if Region.wanted o (yielded ops a.tmps) = true then Oper.wp P o a w K Q else Z := by
  have hw : Region.wanted o (yielded ops a.tmps) = true := by simp [Region.wanted, hgd]
  rw [if_pos hw]
  unfold Oper.wp execOp
  simp only [ho, resolve, invoke, builtin, Sem.run_bind, Sem.run_pure, Result.andThen_ok, List.map_toArray, List.map_cons, List.map_nil, hs, hx, hr]
  exact h
theorem run_clear_at {t ty : TypeId} {z : Value} (ht : P.underlying t = some (.slice T)) (hE : Ety P E T z) {b o n c : Nat} {cur : Array Value} (hb : w.heap[b]? = some (.cells cur T (0, 0))) (hn : 0 < n) (hfit : o + n * E.k ≤ cur.size) (h1 : ∀ u ∈ (Builtin.zeroCells z.cells n).toList, u.oneCell' = true) :
    (Builtin.clear_ #[t] ty #[.slice (some ⟨b, o, none⟩) n c]).run P w = .ok (.tuple #[]) (w.setRow b (cur.toList.take o ++ (Builtin.zeroCells z.cells n).toList ++ cur.toList.drop (o + n * E.k)).toArray) := by
  obtain ⟨⟨i, hi, hz, hsize, _⟩, hzs⟩ := hE
  have hl : (Builtin.zeroCells z.cells n).toList.length = n * E.k := by rw [Array.length_toList, size_zeroCells, hzs]
  have hst := run_storeCells_at P b o T (Builtin.zeroCells z.cells n).toList 0 cur w hb (by rw [hl]; simpa using hfit) h1
  simp only [Nat.add_zero] at hst
  cases n with
  | zero => omega
  | succ n => simp [Builtin.clear_, run_underlying ht, typeInfo, zeroValue, hi, hz, hst, hl]
/-- 'slices.overlaps' of a block's cells and another block's: false. -/
theorem run_overlaps_no {tS tR : TypeId} {k : Nat} (ht : P.underlying tS = some (.slice T)) (hs : (P.info? T).map (·.size) = some k) {b1 b2 o2 l1 c1 l2 c2 : Nat} {T1 : TypeId} {cs : List Value} {cur : Array Value}
    (h1 : Blk w b1 T1 cs) (h2 : w.heap[b2]? = some (.cells cur T (0, 0))) (hne : b1 ≠ b2) (hpos : 0 < cur.size) :
    (Extern.SlicesOverlaps.overlaps #[tS, tS] #[tR] #[.slice (some ⟨b1, 0, none⟩) l1 c1, .slice (some ⟨b2, o2, none⟩) l2 c2]).run P w = .ok (.bool false) w := by
  have h1' : w.heap[b1]? = some (.cells cs.toArray T1 (0, 0)) := h1
  refine Lib.run_overlaps_apart w tS tR T ht k ?_ ⟨b1, 0, none⟩ ⟨b2, o2, none⟩ l1 c1 l2 c2 hne T1 T cs.length cur.size ?_ ?_ (by omega) ?_ ?_
  · intro w'
    cases hq : P.info? T with
    | none => simp [hq] at hs
    | some i =>
      have hi : i.size = k := by simpa [hq] using hs
      simp [sizeOf, typeInfo, hq, hi]
  · simp [World.shape?, h1']
  · simp [World.shape?, h2]
  · exact h1.frozen 0
  · exact h1.frozen _
theorem ety_size {z : Value} (hE : Ety P E T z) : (P.info? T).map (·.size) = some E.k := by
  obtain ⟨⟨i, hi, _, hs, _⟩, _⟩ := hE
  simp [hi, hs]
/-- A new block that holds one element, as a slice of one. -/
theorem Rd.one {b : Nat} {x : α} {T' : TypeId} (h : Blk w b T' (E.enc x)) : Rd E w (.slice (some ⟨b, 0, none⟩) 1 1) [x] := by
  refine ⟨some ⟨b, 0, none⟩, 1, rfl, by simp, by simp [maxLen], (by intro h; cases h), ?_⟩
  intro a ha
  cases ha
  intro j u hu
  rw [Enc.flat_one] at hu
  rw [Addr.add_lit, Nat.zero_add, h.cell]; exact hu
/-- What a row's value looks like. -/
theorem row_form (h : Row E T w F v xs) : ∃ ao c, v = .slice ao xs.length c ∧ xs.length ≤ c := by
  rcases h with ⟨rfl, rfl, _⟩ | ⟨b, o, c, cur, rfl, _, _, h1, _⟩
  · exact ⟨none, 0, rfl, Nat.le_refl _⟩
  · exact ⟨_, c, rfl, h1⟩
/-- A pointer to a struct of one field, a row. -/
def PsAt (E : Enc α) (TB T : TypeId) (w : World) (F : Nat → Prop) (p : Value) (l : List α) : Prop :=
  ∃ b sv G, p = .pointer (some ⟨b, 0, none⟩) ∧ Blk w b TB [sv] ∧ Row E T w G sv l ∧ ¬ G b ∧ F = OrB (OneB b) G
def PsPost (E : Enc α) (TB T : TypeId) (F : Nat → Prop) (w : World) (p R : Value) (l : List α) (e : Ending) (w' : World) : Prop :=
  ∃ F', e = .returned R ∧ PsAt E TB T w' F' p l ∧ Upd F w w' ∧ ∀ b, F' b → F b ∨ w.heap.size ≤ b
theorem PsAt.lt {TB : TypeId} {p : Value} (h : PsAt E TB T w F p xs) : ∀ b, F b → b < w.heap.size := by
  obtain ⟨b, sv, G, _, hb, hr, _, rfl⟩ := h
  rintro x (rfl | hx)
  · exact hb.lt
  · exact hr.lt x hx
theorem PsAt.upd {TB : TypeId} {p : Value} (h : PsAt E TB T w F p xs) (u : Upd G w w') (hd : ∀ b, F b → ¬ G b) : PsAt E TB T w' F p xs := by
  obtain ⟨b, sv, H, hp, hb, hr, hn, rfl⟩ := h
  exact ⟨b, sv, H, hp, hb.upd u (hd b (.inl rfl)), hr.upd u (fun x hx => hd x (.inr hx)), hn, rfl⟩
theorem PsAt.put {TB : TypeId} {b : Nat} {sv v' : Value} {F' : Nat → Prop} {l' : List α} (hb : Blk w b TB [sv]) (hnb : ¬ G b) (hu : Upd G w w') (hr' : Row E T w' F' v' l') (hF : ∀ x, F' x → G x ∨ w.heap.size ≤ x) (R : Value) :
    PsPost E TB T (OrB (OneB b) G) w (.pointer (some ⟨b, 0, none⟩)) R l' (.returned R) (w'.setCell ⟨b, 0, none⟩ v') := by
  have hFb : ¬ F' b := fun hx => by
    rcases hF b hx with h | h
    · exact hnb h
    · have := hb.lt; omega
  refine ⟨OrB (OneB b) F', rfl, ⟨b, _, F', rfl, (hb.upd hu hnb).set 0 _, hr'.upd (Upd.setCell (F := OneB b) w' _ _ rfl) (fun x hx hxb => hFb (by cases hxb; exact hx)), hFb, rfl⟩, (hu.mono (fun x _ hx => .inr hx)).trans (Upd.setCell w' _ _ (.inl rfl)), ?_⟩
  rintro x (rfl | hx)
  · exact .inl (.inl rfl)
  · rcases hF x hx with h | h
    · exact .inl (.inr h)
    · exact .inr h
/-- One more: what the append of one new element leaves. -/
theorem app_new {t ty : TypeId} {z : Value} {w0 W : World} {x : α} {yb : Nat} {T' : TypeId} (ht : P.underlying t = some (.slice T)) (hE : Ety P E T z) (hrow : Row E T w0 F v xs) (hn : xs.length + 1 ≤ 1073741824) (hu : Upd NoB w0 W) (hb : Blk W yb T' (E.enc x)) :
    ∃ v' w' F', (Builtin.append_ #[t, t] ty #[v, .slice (some ⟨yb, 0, none⟩) 1 1]).run P W = .ok v' w' ∧ Row E T w' F' v' (xs ++ [x]) ∧ Upd F w0 w' ∧ (∀ b, F' b → F b ∨ w0.heap.size ≤ b) := by
  obtain ⟨v', w', F', h1, h2, h3, h4, _⟩ := run_append_row (ty := ty) ht hE (hrow.upd hu (fun x _ hx => hx)) (Rd.one hb) (by simpa using hn)
  exact ⟨v', w', F', h1, h2, (hu.mono (fun x _ hx => hx.elim)).trans h3, fun b hb => (h4 b hb).imp id (fun h => Nat.le_trans hu.size h)⟩
end
end Go.Proofs.YtjbjngikaiggdaaGreat
