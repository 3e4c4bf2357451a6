/- SpreadEven: ahead of each slot each domain has had its share, but for as many as there are domains. Conditions: none. -/
import Derived.Test.YtgkhnmeemiloaaaSpe
import Derived.Test.YtgkhnmeemiloaaaPSx5
set_option linter.unusedVariables false
namespace Go.Proofs.Ytgkhnmeemiloaaa.Pure
open Go.RowKit Go.Proofs.Ytgkhnmeemiloaaa Go.Proofs.Ytgkhnmeemiloaaa.PS Go.Proofs.YtgkhnmeemiloaaaW.PrintWords Go.Proofs.YtgkhnmeemiloaaaW.PrintLast
theorem inner_loop (L : List Int) (hL : ∀ x ∈ L, 0 ≤ x) (hne : sumOf L ≠ 0) (had : List Int) (m : Nat) (hm : m < (qsort L).length) (hh : had.length = L.length) (hg : ∀ e, e < L.length → had[e]? = some (hadOf L (m + 1) e : Int)) (K : Nat)
    (hend : ∀ k, K ≤ k → tontinelaw12_SpreadEven.l1 k L L.sum (slotsOf L) had ((m + 1 : Nat) : Int) = some true) : ∀ (e i k : Nat), i + e = L.length → e + K < k →
    tontinelaw12_SpreadEven.l2 k L L.sum (slotsOf L) had (m : Int) (i : Int) = some true
  | 0, i, k, h, hk => by
    obtain ⟨k, rfl⟩ := rounds (show 0 < k by omega)
    have hq := qsort_length hL
    have := (sumOf_ne L).1 hne
    simp only [tontinelaw12_SpreadEven.l2]
    rw [if_neg (by omega), w64 (n := (m : Int) + 1) (by omega) (by omega), show (m : Int) + 1 = ((m + 1 : Nat) : Int) by omega]
    exact hend k (by omega)
  | e + 1, i, k, h, hk => by
    obtain ⟨k, rfl⟩ := rounds (show 0 < k by omega)
    have hi : i < L.length := by omega
    have hq := qsort_length hL
    obtain ⟨z1, z2, z3, z4, z5⟩ := (sumOf_ne L).1 hne
    obtain ⟨e1, e2⟩ := even hL hm hi
    have hc := cnt_get hL hi
    have hle := hadOf_le (show m + 1 ≤ (qsort L).length by omega) hi
    have hc64 : L[i] ≤ 64 := by
      have := List.all_eq_true.1 z3 L[i] (List.getElem_mem _)
      simp only [mayK, Bool.and_eq_true, decide_eq_true_eq] at this; exact this.2
    have b1 : 0 ≤ (hadOf L (m + 1) i : Int) * L.sum := Int.mul_nonneg (by omega) (by omega)
    have b2 : (hadOf L (m + 1) i : Int) * L.sum ≤ 64 * 64 := Int.mul_le_mul (by omega) (by omega) (by omega) (by omega)
    have b3 : 0 ≤ L[i] * ((m : Int) + 1) := Int.mul_nonneg (by omega) (by omega)
    have b4 : L[i] * ((m : Int) + 1) ≤ 64 * 64 := Int.mul_le_mul (by omega) (by omega) (by omega) (by omega)
    have b5 : (L.length : Int) * L.sum ≤ 6 * 64 := Int.mul_le_mul (by omega) (by omega) (by omega) (by omega)
    have b6 : 0 ≤ (L.length : Int) * L.sum := Int.mul_nonneg (by omega) (by omega)
    simp only [tontinelaw12_SpreadEven.l2]
    rw [if_pos (by omega), if_pos (by omega), if_pos (by omega), rd_get? (hg i hi), rd_get hi, w64 (n := (m : Int) + 1) (by omega) (by omega), w64 (n := (hadOf L (m + 1) i : Int) * L.sum) (by omega) (by omega), w64 (n := L[i] * ((m : Int) + 1)) (by omega) (by omega), w64 (n := (L.length : Int) * L.sum) (by omega) (by omega), w64 (n := (hadOf L (m + 1) i : Int) * L.sum - L[i] * ((m : Int) + 1)) (by omega) (by omega)]
    rw [if_neg (by omega), w64 (n := -((hadOf L (m + 1) i : Int) * L.sum - L[i] * ((m : Int) + 1))) (by omega) (by omega), if_neg (by omega), w64 (n := (i : Int) + 1) (by omega) (by omega), show (i : Int) + 1 = ((i + 1 : Nat) : Int) by omega]
    exact inner_loop L hL hne had m hm hh hg K hend e (i + 1) k (by omega) (by omega)
theorem outer_loop (L : List Int) (hL : ∀ x ∈ L, 0 ≤ x) (hne : sumOf L ≠ 0) : ∀ (e m k : Nat) (had : List Int), m + e = (qsort L).length → e * 20 + 1 < k → had.length = L.length → (∀ e, e < L.length → had[e]? = some (hadOf L m e : Int)) →
    tontinelaw12_SpreadEven.l1 k L L.sum (slotsOf L) had (m : Int) = some true
  | 0, m, k, had, h, hk, hh, hg => by
    obtain ⟨k, rfl⟩ := rounds (show 0 < k by omega)
    have hq := qsort_length hL
    simp only [tontinelaw12_SpreadEven.l1]
    rw [if_neg (by omega)]
  | e + 1, m, k, had, h, hk, hh, hg => by
    obtain ⟨k, rfl⟩ := rounds (show 0 < k by omega)
    obtain ⟨k, rfl⟩ := rounds (show 0 < k by omega)
    have hm : m < (qsort L).length := by omega
    have hq := qsort_length hL
    have hsl := slots_len hne
    obtain ⟨z1, z2, z3, z4, z5⟩ := (sumOf_ne L).1 hne
    have hr : rd (slotsOf L) (m : Int) = ((qsort L)[m].2 : Int) := rd_get? (slots_get hne hm)
    have hx := (mem_qsort.1 (List.getElem_mem hm : (qsort L)[m] ∈ qsort L)).1
    have hlq : hadOf L m (qsort L)[m].2 ≤ 64 := by
      have := hadOf_le (show m ≤ (qsort L).length by omega) hx
      have h2 := cnt_get hL hx
      have h3 := List.all_eq_true.1 z3 L[(qsort L)[m].2] (List.getElem_mem _)
      simp only [mayK, Bool.and_eq_true, decide_eq_true_eq] at h3
      omega
    simp only [tontinelaw12_SpreadEven.l1]
    rw [if_pos (by omega), if_pos (by omega), if_pos (by omega), hr, if_neg (by omega)]
    simp only [tontinelaw12_SpreadEven.j4, hr]
    rw [if_neg (by simp only [decide_eq_true_eq]; omega), if_pos (by omega), if_pos (by omega), if_pos (by omega), if_pos (by omega), rd_get? (hg _ hx), w64 (n := (hadOf L m (qsort L)[m].2 : Int) + 1) (by omega) (by omega), Int.toNat_natCast]
    have hs := hadOf_succ hm
    have hg' : ∀ e, e < L.length → (had.set (qsort L)[m].2 ((hadOf L m (qsort L)[m].2 : Int) + 1))[e]? = some (hadOf L (m + 1) e : Int) := fun e he => by
      rw [hs e, List.getElem?_set]
      by_cases c : (qsort L)[m].2 = e
      · rw [if_pos c, if_pos (by omega), if_pos c, ← c]; simp
      · rw [if_neg c, if_neg c, hg e he]; simp
    refine inner_loop L hL hne _ m hm (by rw [List.length_set]; exact hh) hg' (e * 20 + 2) ?_ L.length 0 k (by omega) (by omega)
    intro k hk2
    exact outer_loop L hL hne e (m + 1) k _ (by omega) (by omega) (by rw [List.length_set]; exact hh) hg'
theorem even_loop (xs : List Int) (hx : ∀ x ∈ xs, 0 ≤ x ∧ x < 256) (hl : xs.length ≤ 6) : ∀ (e i k : Nat), i + e = xs.length → e + 3000 < k → 
    tontinelaw12_SpreadEven.l0 k xs (modL (xs.take i)) (modL (xs.take i)).sum (i : Int) = some true
  | 0, i, k, h, hk => by
    obtain ⟨k, rfl⟩ := rounds (show 0 < k by omega)
    simp only [tontinelaw12_SpreadEven.l0]
    rw [if_neg (by omega), List.take_of_length_le (by omega)]
    obtain ⟨b1, b2, b3⟩ := modL_facts xs hx
    simp only [spread_Slots.f, Option.bind_some]
    obtain ⟨k, rfl⟩ := rounds (show 0 < k by omega)
    by_cases c : (modL xs).sum < 1
    · rw [if_pos c]
      simp only [tontinelaw12_SpreadEven.j2, if_true]
      rw [if_pos c]
    · rw [if_neg c]
      by_cases c2 : (modL xs).sum > 64
      · rw [if_pos c2]
        simp only [tontinelaw12_SpreadEven.j2, if_true]
        rw [if_neg c, decide_eq_true c2]
      · rw [if_neg c2]
        have hne := modL_pos hx hl (by omega) (by omega)
        have hsl := slots_len hne
        have hq := qsort_length (l := modL xs) (fun x hx => (b1 x hx).1)
        rw [show (((slotsOf (modL xs)).length : Int) != (modL xs).sum) = false by simp [hsl]]
        simp only [tontinelaw12_SpreadEven.j2, Bool.false_eq_true, if_false]
        rw [if_pos (by omega), if_pos (by omega), Int.toNat_natCast]
        exact outer_loop (modL xs) (fun x hx => (b1 x hx).1) hne (qsort (modL xs)).length 0 k _ (by omega) (by omega) (by simp) (fun e he => by simp [he, hadOf])
  | e + 1, i, k, h, hk => by
    obtain ⟨k, rfl⟩ := rounds (show 0 < k by omega)
    obtain ⟨s1, s2, s3, s4, s5⟩ := modL_step xs hx hl (show i < xs.length by omega)
    simp only [tontinelaw12_SpreadEven.l0]
    rw [if_pos (by omega), if_pos (by omega), if_pos s1, s2]
    simp only [Option.bind_some]
    rw [if_pos s3, s4, w64 (n := (i : Int) + 1) (by omega) (by omega), show (i : Int) + 1 = ((i + 1 : Nat) : Int) by omega]
    exact even_loop xs hx hl e (i + 1) k (by omega) (by omega)
theorem SpreadEven : tontinelaw12_SpreadEven.Pure := by
  intro l0 _ _ hw
  refine ⟨9000, ?_⟩
  unfold tontinelaw12_SpreadEven.f
  rw [known_tells 9000 (by omega)]
  simp only [Option.bind_some, if_true]
  by_cases c : (l0.length : Int) < 1
  · rw [if_pos c]; simp [tontinelaw12_SpreadEven.j0]
  · rw [if_neg c]
    by_cases c2 : (l0.length : Int) > 6
    · rw [decide_eq_true c2]; simp [tontinelaw12_SpreadEven.j0]
    · rw [decide_eq_false c2]
      show tontinelaw12_SpreadEven.j0 (8999 + 1) l0 false = some true
      simp only [tontinelaw12_SpreadEven.j0, Bool.false_eq_true, if_false]
      exact even_loop l0 (fun x hx => u8_wf (hw x hx)) (by omega) l0.length 0 8999 (by omega) (by omega)
end Go.Proofs.Ytgkhnmeemiloaaa.Pure
