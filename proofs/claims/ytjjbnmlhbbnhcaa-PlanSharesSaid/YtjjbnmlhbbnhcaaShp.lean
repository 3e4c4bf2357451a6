/- Shares parted into counts: the plain law: each within one of its share, all of them the frame. Conditions: none. -/
import Derived.Test.YtjjbnmlhbbnhcaaSlc
set_option linter.unusedVariables false
set_option linter.unusedSimpArgs false
namespace Go.Proofs.Ytjjbnmlhbbnhcaa
open Go.RowKit G
theorem map_set_sum {α : Type} (f : α → Int) : ∀ (l : List α) (g : Nat) (x y : α), l[g]? = some x → ((l.set g y).map f).sum = (l.map f).sum - f x + f y
  | [], g, x, y, h => by simp at h
  | a :: l, 0, x, y, h => by simp at h; subst h; simp; omega
  | a :: l, g + 1, x, y, h => by
    have := map_set_sum f l g x y (by simpa using h)
    simp only [List.set_cons_succ, List.map_cons, List.sum_cons, this]; omega
theorem map_sum_le {α : Type} (f : α → Int) : ∀ (l : List α), (∀ x ∈ l, f x ≤ 0) → (l.map f).sum ≤ 0
  | [], _ => by simp
  | a :: l, h => by
    have h1 := map_sum_le f l (fun x hx => h x (by simp [hx]))
    have h2 := h a (by simp)
    simp only [List.map_cons, List.sum_cons]; omega
theorem map_sum_ge {α : Type} (f : α → Int) : ∀ (l : List α), (∀ x ∈ l, 0 ≤ f x) → 0 ≤ (l.map f).sum
  | [], _ => by simp
  | a :: l, h => by
    have h1 := map_sum_ge f l (fun x hx => h x (by simp [hx]))
    have h2 := h a (by simp)
    simp only [List.map_cons, List.sum_cons]; omega
/-- The greatest rest. -/
theorem grAt_ge (l : List (Int × Int)) : ∀ n, n ≤ l.length → ∀ j, j < n → (l.getD j (0, 0)).2 ≤ (l.getD (grAt l n) (0, 0)).2
  | 0, _, j, hj => by omega
  | n + 1, hn, j, hj => by
    have ih := grAt_ge l n (by omega)
    unfold grAt
    by_cases e : j = n
    · subst e
      split
      · exact Int.le_refl _
      · omega
    · have := ih j (by omega)
      split
      · omega
      · exact this
def posR (l : List (Int × Int)) : Int := (l.map fun p => max p.2 0).sum
def fstS (l : List (Int × Int)) : Int := (l.map Prod.fst).sum
def InvP (l0 xs : List (Int × Int)) : Prop := xs.length = l0.length ∧ ∀ (j : Nat) (p0 p : Int × Int), l0[j]? = some p0 → xs[j]? = some p → p = p0 ∨ (p = (p0.1 + 1, -1) ∧ 0 < p0.2)
theorem stp_inv {l0 xs : List (Int × Int)} {all : Int} (hb : ∀ p ∈ l0, 0 ≤ p.2 ∧ p.2 < all) (h : InvP l0 xs) (hR : 0 < posR xs) : InvP l0 (stp xs) ∧ posR xs - all < posR (stp xs) ∧ fstS (stp xs) = fstS xs + 1 := by
  have hne : 0 < xs.length := by
    cases xs with
    | nil => simp [posR] at hR
    | cons a l => simp
  have hgl := grAt_lt xs hne xs.length (Nat.le_refl _)
  have hge := grAt_ge xs xs.length (Nat.le_refl _)
  unfold stp
  generalize grAt xs xs.length = g at hgl hge
  obtain ⟨q, hq⟩ : ∃ q, xs[g]? = some q := ⟨xs[g], by simp⟩
  obtain ⟨q0, hq0⟩ : ∃ q0, l0[g]? = some q0 := ⟨l0[g]'(by rw [← h.1]; exact hgl), by simp [h.1.symm ▸ hgl]⟩
  have hqD : xs.getD g (0, 0) = q := by rw [List.getD_eq_getElem?_getD, hq]; rfl
  rw [hqD] at hge ⊢
  have hq2 : 0 < q.2 := by
    apply Classical.byContradiction
    intro hn
    have : posR xs ≤ 0 := map_sum_le _ xs (fun x hx => by
      obtain ⟨j, hj⟩ := List.getElem?_of_mem hx
      have h1 := hge j (List.getElem?_eq_some_iff.1 hj).1
      rw [List.getD_eq_getElem?_getD, hj, Option.getD_some] at h1
      omega)
    omega
  have hqq : q = q0 := by
    rcases h.2 g q0 q hq0 hq with e | ⟨e, _⟩
    · exact e
    · rw [e] at hq2; simp at hq2
  subst hqq
  have hqb := hb q (List.mem_of_getElem? hq0)
  refine ⟨⟨by rw [List.length_set]; exact h.1, fun j p0 p h0 hp => ?_⟩, ?_, ?_⟩
  · rw [List.getElem?_set] at hp
    by_cases e : g = j
    · subst e
      rw [if_pos rfl, if_pos hgl] at hp
      cases hp
      rw [hq0] at h0; cases h0
      exact .inr ⟨rfl, hq2⟩
    · rw [if_neg e] at hp
      exact h.2 j p0 p h0 hp
  · unfold posR
    rw [map_set_sum (fun p : Int × Int => max p.2 0) xs g q (q.1 + 1, -1) hq]
    simp only
    have := Int.max_eq_left (a := q.2) (b := 0) (by omega)
    rw [this]
    simp; omega
  · unfold fstS
    rw [map_set_sum Prod.fst xs g q (q.1 + 1, -1) hq]
    simp only; omega
theorem stpN_inv {l0 : List (Int × Int)} {all left : Int} (hb : ∀ p ∈ l0, 0 ≤ p.2 ∧ p.2 < all) (ha : 0 < all) (hR : posR l0 = left * all) : ∀ i : Nat, (i : Int) ≤ left → InvP l0 (stpN l0 i) ∧ (left - i) * all ≤ posR (stpN l0 i) ∧ fstS (stpN l0 i) = fstS l0 + i
  | 0, _ => ⟨⟨rfl, fun j p0 p h0 hp => .inl (by have h1 : l0[j]? = some p := hp; rw [h0] at h1; exact (Option.some.inj h1).symm)⟩, by show (left - ((0 : Nat) : Int)) * all ≤ posR l0; rw [hR]; simp, by show fstS l0 = fstS l0 + ((0 : Nat) : Int); simp⟩
  | i + 1, h => by
    obtain ⟨h1, h2, h3⟩ := stpN_inv hb ha hR i (by omega)
    have hm : 1 * all ≤ (left - i) * all := Int.mul_le_mul_of_nonneg_right (by omega) (by omega)
    obtain ⟨g1, g2, g3⟩ := stp_inv hb h1 (by omega)
    refine ⟨g1, ?_, ?_⟩
    · show (left - ((i + 1 : Nat) : Int)) * all ≤ posR (stp (stpN l0 i))
      have : (left - ((i + 1 : Nat) : Int)) * all = (left - i) * all - all := by
        rw [show left - ((i + 1 : Nat) : Int) = (left - i) - 1 by omega, Int.sub_mul]; omega
      omega
    · show fstS (stp (stpN l0 i)) = _
      omega
theorem leftOf_eq (frame : Int) : ∀ (l : List (Int × Int)), leftOf frame l = frame - fstS l := by
  intro l
  have : ∀ (l : List (Int × Int)) (f : Int), leftOf f l = f - fstS l := by
    intro l
    induction l with
    | nil => intro f; simp [leftOf, fstS]
    | cons p l ih => intro f; show leftOf (f - p.1) l = _; rw [ih]; simp [fstS]; omega
  exact this l frame
theorem parts_sum (frame all : Int) : ∀ (l : List Int), fstS (partsOf frame all l) * all + ((partsOf frame all l).map Prod.snd).sum = frame * l.sum
  | [] => by simp [partsOf, fstS]
  | x :: l => by
    have ih := parts_sum frame all l
    have h1 := Int.mul_tdiv_add_tmod (frame * x) all
    simp only [fstS, partsOf, List.map_cons, List.sum_cons] at ih ⊢
    rw [Int.add_mul, Int.mul_add, Int.mul_comm ((frame * x).tdiv all) all]
    omega
theorem sumI_sum (l : List Int) : sumI l = l.sum := by
  have : ∀ (l : List Int) (a : Int), l.foldl (fun a b => a + b) a = a + l.sum := by
    intro l
    induction l with
    | nil => intro a; simp
    | cons x l ih => intro a; rw [List.foldl_cons, ih, List.sum_cons]; omega
  unfold sumI; rw [this]; omega
theorem counts_exact {frame : Int} {l : List Int} (h : ¬ (shSum frame l == 0) = true) : (countsOf frame l).length = l.length ∧ (countsOf frame l).sum = frame ∧ (∀ x ∈ countsOf frame l, 0 ≤ x ∧ x ≤ frame) ∧ 0 < l.sum ∧
    ∀ (j : Nat) (x s : Int), (countsOf frame l)[j]? = some x → l[j]? = some s → x * l.sum - frame * s < l.sum ∧ -(x * l.sum - frame * s) < l.sum := by
  obtain ⟨hf, ha, hl6, hl1, hsh, hsum⟩ := shSum_good h
  rw [hsum, sumI_sum] at ha
  have hc : countsOf frame l = (stpN (partsOf frame l.sum l) (leftOf frame (partsOf frame l.sum l)).toNat).map Prod.fst := by rw [countsOf, if_neg h, hsum, sumI_sum]
  have hsb := sumI_bounds l hsh
  rw [sumI_sum] at hsb
  have hb := parts_bounds hf ha hsh (by omega)
  have hb2 : ∀ p ∈ partsOf frame l.sum l, 0 ≤ p.2 ∧ p.2 < l.sum := by
    intro p hp
    obtain ⟨y, hy, rfl⟩ := List.mem_map.1 hp
    have hyb : 0 ≤ y ∧ y ≤ 1000 := by have := List.all_eq_true.1 hsh y hy; simp only [shBad, Bool.not_eq_true', Bool.or_eq_false_iff, decide_eq_false_iff_not] at this; omega
    have := tdiv_bounds (Int.mul_nonneg (show 0 ≤ frame by omega) hyb.1) ha
    exact ⟨this.2.2.1, this.2.2.2⟩
  have hps := parts_sum frame l.sum l
  obtain ⟨l0, hl0⟩ : ∃ l0, l0 = partsOf frame l.sum l := ⟨_, rfl⟩
  rw [← hl0] at hc hb hb2 hps
  have hpos : posR l0 = (l0.map Prod.snd).sum := by
    unfold posR
    congr 1
    refine List.map_congr_left fun p hp => ?_
    exact Int.max_eq_left (hb2 p hp).1
  have hR : posR l0 = leftOf frame l0 * l.sum := by rw [hpos, leftOf_eq, Int.sub_mul]; omega
  have hR0 : 0 ≤ posR l0 := map_sum_ge _ _ (fun p _ => Int.le_max_right _ _)
  have hleft : 0 ≤ leftOf frame l0 := by
    apply Classical.byContradiction
    intro hn
    have : leftOf frame l0 * l.sum < 0 := Int.mul_neg_of_neg_of_pos (by omega) ha
    omega
  obtain ⟨h1, h2, h3⟩ := stpN_inv hb2 ha hR (leftOf frame l0).toNat (by omega)
  obtain ⟨xs, hxs⟩ : ∃ xs, xs = stpN l0 (leftOf frame l0).toNat := ⟨_, rfl⟩
  rw [← hxs] at h1 h2 h3 hc
  have hlen0 : l0.length = l.length := by rw [hl0]; simp [partsOf]
  have hfs : fstS xs = frame := by rw [h3, leftOf_eq] ; have := leftOf_eq frame l0; omega
  have each : ∀ (j : Nat) (p : Int × Int), xs[j]? = some p → ∃ s, l[j]? = some s ∧ 0 ≤ p.1 ∧ p.1 * l.sum - frame * s < l.sum ∧ -(p.1 * l.sum - frame * s) < l.sum := by
    intro j p hp
    have hj : j < xs.length := (List.getElem?_eq_some_iff.1 hp).1
    have hj2 : j < l.length := by rw [← hlen0, ← h1.1]; exact hj
    have hs : l[j]? = some l[j] := by simp
    have hp0 : l0[j]? = some ((frame * l[j]).tdiv l.sum, (frame * l[j]).tmod l.sum) := by rw [hl0, partsOf, List.getElem?_map, hs]; rfl
    have hpb := hb _ (List.mem_of_getElem? hp0)
    have hpb2 := hb2 _ (List.mem_of_getElem? hp0)
    have hdm := Int.mul_tdiv_add_tmod (frame * l[j]) l.sum
    refine ⟨_, hs, ?_⟩
    simp only at hpb hpb2
    rw [Int.mul_comm l.sum] at hdm
    rcases h1.2 j _ p hp0 hp with e | ⟨e, h0⟩
    · subst e; simp only; omega
    · subst e
      simp only at h0 ⊢
      rw [Int.add_mul]
      omega
  have hnn : ∀ x ∈ countsOf frame l, 0 ≤ x := by
    intro x hx
    rw [hc] at hx
    obtain ⟨p, hp, rfl⟩ := List.mem_map.1 hx
    obtain ⟨j, hj⟩ := List.getElem?_of_mem hp
    obtain ⟨s, _, h0, _⟩ := each j p hj
    exact h0
  have hcs : (countsOf frame l).sum = frame := by rw [hc]; exact hfs
  refine ⟨by rw [hc, List.length_map, h1.1, hlen0], hcs, fun x hx => ⟨hnn x hx, ?_⟩, ha, ?_⟩
  · have := sum_mem _ hnn x hx
    omega
  · intro j x s hx hs
    rw [hc, List.getElem?_map] at hx
    cases hp : xs[j]? with
    | none => rw [hp] at hx; cases hx
    | some p =>
      rw [hp] at hx
      cases hx
      obtain ⟨s', hs', _, h5, h6⟩ := each j p hp
      rw [hs] at hs'
      cases hs'
      exact ⟨h5, h6⟩
end Go.Proofs.Ytjjbnmlhbbnhcaa
