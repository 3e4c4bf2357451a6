/- Slots' numbers and counts; the best of those that are left; what may be counts. Conditions: none. -/
import Derived.Test.YtjjbnmlhbbnhcaaSpm
import Derived.Test.YtjjbnmlhbbnhcaaRf6
import Derived.Test.YtjjbnmlhbbnhcaaOwn
set_option linter.unusedVariables false
set_option linter.unusedSimpArgs false
namespace Go.Proofs.Ytjjbnmlhbbnhcaa
open Go.RowKit G
theorem sum_nonneg : ∀ (l : List Int), l.all mayK = true → 0 ≤ l.sum
  | [], _ => by simp
  | x :: l, h => by
    rw [List.all_cons, Bool.and_eq_true] at h
    have h1 := sum_nonneg l h.2
    have h2 := h.1
    simp only [mayK, Bool.and_eq_true, decide_eq_true_eq] at h2
    rw [List.sum_cons]; omega
theorem sumOf_ne (l : List Int) : (sumOf l ≠ 0) ↔ (1 ≤ l.length ∧ l.length ≤ 6 ∧ l.all mayK = true ∧ 1 ≤ l.sum ∧ l.sum ≤ 64) := by
  unfold sumOf
  by_cases h : (l.all mayK && decide (1 ≤ l.length) && decide (l.length ≤ 6) && decide (l.sum ≤ 64)) = true
  · rw [if_pos h]
    simp only [Bool.and_eq_true, decide_eq_true_eq] at h
    obtain ⟨⟨⟨h1, h2⟩, h3⟩, h4⟩ := h
    have := sum_nonneg l h1
    constructor
    · intro hne; exact ⟨h2, h3, h1, by omega, h4⟩
    · rintro ⟨_, _, _, h5, _⟩; omega
  · rw [if_neg h]
    simp only [Bool.and_eq_true, decide_eq_true_eq] at h
    constructor
    · intro hne; exact absurd rfl hne
    · rintro ⟨h2, h3, h1, _, h4⟩; exact absurd ⟨⟨⟨h1, h2⟩, h3⟩, h4⟩ h
theorem may_mem {l : List Int} (h : l.all mayK = true) : ∀ x ∈ l, 0 ≤ x ∧ x ≤ 64 := fun x hx => by
  have := List.all_eq_true.1 h x hx; simpa only [mayK, Bool.and_eq_true, decide_eq_true_eq] using this
theorem slots_len {l : List Int} (hs : sumOf l ≠ 0) : ((slotsOf l).length : Int) = l.sum := by
  obtain ⟨s1, s2, s3, s4, s5⟩ := (sumOf_ne l).1 hs
  rw [slotsOf, if_neg hs, List.length_map]
  exact qsort_length (fun x hx => (may_mem s3 x hx).1)
theorem slots_count {l : List Int} (hs : sumOf l ≠ 0) {d : Nat} (hd : d < l.length) : countOf (slotsOf l) (d : Int) = cnt l d := by
  rw [← hadOf_all hd, slotsOf, if_neg hs, hadOf, List.take_length, countOf, List.filter_map, List.length_map]
  congr 1
  refine List.filter_congr ?_
  intro x _
  simp only [Function.comp]
  rw [Bool.eq_iff_iff, beq_iff_eq, beq_iff_eq]; omega
theorem slots_none {l : List Int} (hs : sumOf l = 0) : slotsOf l = [] := by rw [slotsOf, if_pos hs]
theorem wsum_sum {l : List Int} (h : ∀ x ∈ l, 0 ≤ x ∧ x ≤ 1000000) (hl : l.length ≤ 1000000) : wsum l = l.sum ∧ 0 ≤ l.sum ∧ l.sum ≤ 1000000 * l.length := by
  have key : ∀ n, n ≤ l.length → wsum (l.take n) = (l.take n).sum ∧ 0 ≤ (l.take n).sum ∧ (l.take n).sum ≤ 1000000 * n := by
    intro n
    induction n with
    | zero => intro _; simp [wsum]
    | succ n ih =>
      intro hn
      obtain ⟨y, hy⟩ : ∃ y, l[n]? = some y := ⟨l[n]'(by omega), List.getElem?_eq_getElem (by omega)⟩
      have ht : l.take (n + 1) = l.take n ++ [y] := by rw [List.take_add_one, hy]; rfl
      have hb := h y (List.mem_of_getElem? hy)
      obtain ⟨i1, i2, i3⟩ := ih (by omega)
      rw [ht, wsum_snoc, i1, List.sum_append, IntKind.wrap_i64]
      simp only [List.sum_cons, List.sum_nil]
      omega
  have := key l.length (Nat.le_refl _)
  rwa [List.take_length] at this
theorem mayCounts_eq (l : List Int) : mayCountsB l = decide (sumOf l ≠ 0) := by
  rw [Bool.eq_iff_iff, decide_eq_true_iff, sumOf_ne]
  have hk : ∀ x, (!mcBad x) = mayK x := by
    intro x; rw [Bool.eq_iff_iff]; simp only [mcBad, mayK, Bool.not_eq_true', Bool.or_eq_false_iff, Bool.and_eq_true, decide_eq_false_iff_not, decide_eq_true_eq]; omega
  have hk2 : (l.all fun s => !mcBad s) = l.all mayK := by simp only [hk]
  unfold mayCountsB
  rw [hk2]
  cases h1 : mcBadF l with
  | true =>
    simp only [mcBadF, Bool.or_eq_true, decide_eq_true_eq] at h1
    simp only [if_true]
    exact ⟨fun h => (nomatch h), fun h => (by exfalso; omega)⟩
  | false =>
    simp only [mcBadF, Bool.or_eq_false_iff, decide_eq_false_iff_not] at h1
    cases h2 : l.all mayK with
    | false => simp
    | true =>
      have := wsum_sum (l := l) (fun x hx => by have := may_mem h2 x hx; omega) (by omega)
      simp only [Bool.false_eq_true, if_false, Bool.true_eq_false, Bool.and_eq_true, decide_eq_true_eq, this.1, true_and]
      omega
/-! the reference's best -/
/-- The best so far. -/
def Best (l : List Int) (g : Nat → Nat) (i : Nat) (b : Int) : Prop :=
  (b = -1 ∧ ∀ d, d < i → cnt l d ≤ g d) ∨
  ∃ e : Nat, b = e ∧ e < i ∧ g e < cnt l e ∧ ∀ d, d < i → g d < cnt l d → qle l (g e, e) (g d, d) = true
theorem best_none {l : List Int} {g : Nat → Nat} : Best l g 0 (-1) := .inl ⟨rfl, fun d hd => by omega⟩
theorem best_skip {l : List Int} {g : Nat → Nat} {i : Nat} {b : Int} (hb : Best l g i b) (c : cnt l i ≤ g i) : Best l g (i + 1) b := by
  rcases hb with ⟨rfl, hb⟩ | ⟨e, rfl, he, hge, hb⟩
  · refine .inl ⟨rfl, fun d hd => ?_⟩
    by_cases e : d = i
    · subst e; omega
    · exact hb d (by omega)
  · refine .inr ⟨e, rfl, by omega, hge, fun d hd hlt => ?_⟩
    by_cases e' : d = i
    · subst e'; omega
    · exact hb d (by omega) hlt
theorem best_first {l : List Int} {g : Nat → Nat} {i : Nat} {b : Int} (hb : Best l g i b) (h0 : b < 0) (c : g i < cnt l i) : Best l g (i + 1) (i : Int) := by
  rcases hb with ⟨rfl, hb⟩ | ⟨e, rfl, he, hge, hb⟩
  · refine .inr ⟨i, rfl, by omega, c, fun d hd hlt => ?_⟩
    by_cases e' : d = i
    · subst e'; have := qle_total l (g d, d) (g d, d); simpa using this
    · have := hb d (by omega); omega
  · omega
theorem best_take {l : List Int} {g : Nat → Nat} {i e : Nat} (hb : Best l g i (e : Int)) (c : g i < cnt l i) (h : (2 * g i + 1) * cnt l e < (2 * g e + 1) * cnt l i) : Best l g (i + 1) (i : Int) := by
  rcases hb with ⟨hb, _⟩ | ⟨e', he', hei, hge, hb⟩
  · omega
  · have : e' = e := by omega
    subst this
    refine .inr ⟨i, rfl, by omega, c, fun d hd hlt => ?_⟩
    by_cases e2 : d = i
    · subst e2; have := qle_total l (g d, d) (g d, d); simpa using this
    · refine qle_trans (y := (g e', e')) ?_ ?_ ?_ (qle_iff.2 (.inl h)) (hb d (by omega) hlt)
      · simp only; omega
      · simp only; omega
      · simp only; omega
theorem best_leave {l : List Int} {g : Nat → Nat} {i e : Nat} (hb : Best l g i (e : Int)) (h : ¬ (2 * g i + 1) * cnt l e < (2 * g e + 1) * cnt l i) : Best l g (i + 1) (e : Int) := by
  rcases hb with ⟨hb, _⟩ | ⟨e', he', hei, hge, hb⟩
  · omega
  · have : e' = e := by omega
    subst this
    refine .inr ⟨e', rfl, by omega, hge, fun d hd hlt => ?_⟩
    by_cases e2 : d = i
    · subst e2; rw [qle_iff]; simp only; omega
    · exact hb d (by omega) hlt
theorem best_is {l : List Int} {m : Nat} (hm : m < (qsort l).length) {b : Int} (hb : Best l (hadOf l m) l.length b) : b = ((qsort l)[m].2 : Int) := by
  obtain ⟨n1, n2, n3, n4⟩ := next_is hm
  obtain ⟨x, hx⟩ : ∃ x, x = (qsort l)[m] := ⟨_, rfl⟩
  rw [← hx] at n1 n2 n3 n4 ⊢
  rcases hb with ⟨_, hb⟩ | ⟨e, rfl, he, hge, hb⟩
  · have := hb x.2 n1; omega
  · have l1 := n4 e he hge
    have l2 := hb x.2 n1 n3
    rw [← n2] at l2
    have := qle_anti (x := x) (y := (hadOf l m e, e)) (by omega) l1 l2
    rw [this]
end Go.Proofs.Ytjjbnmlhbbnhcaa
