/- SpreadAlike: domains that have as many slots go by turns, the least first, and their gaps are as many as there are. Conditions: none. -/
import Derived.Test.YtgkhnmeemiloaaaSpe
import Derived.Test.YtgkhnmeemiloaaaPSx6
set_option linter.unusedVariables false
namespace Go.Proofs.Ytgkhnmeemiloaaa.Pure
open Go.RowKit Go.Proofs.Ytgkhnmeemiloaaa Go.Proofs.Ytgkhnmeemiloaaa.PS Go.Proofs.YtgkhnmeemiloaaaW.PrintWords Go.Proofs.YtgkhnmeemiloaaaW.PrintLast
/-- The slots of k domains that have j each. -/
def turns (k j : Nat) : List Int := (alikeE k j).map fun x => (x.2 : Int)
def turnsOk (k j : Nat) : Bool := (turns k j).length == k * j && ((List.range (k * j)).all fun i => (turns k j)[i]? == some ((i % k : Nat) : Int)) && gapOf (turns k j) 0 == ((k : Int), (k : Int))
theorem turns_all : ((List.range' 1 6).all fun k => (List.range' 1 10).all fun j => turnsOk k j) = true := by decide +kernel
theorem turns_ok {k j : Nat} (hk : 1 ≤ k ∧ k ≤ 6) (hj : 1 ≤ j ∧ j ≤ 10) : (turns k j).length = k * j ∧ (∀ i, i < k * j → (turns k j)[i]? = some ((i % k : Nat) : Int)) ∧ gapOf (turns k j) 0 = ((k : Int), (k : Int)) := by
  have h1 := List.all_eq_true.1 turns_all k (List.mem_range'_1.2 (by omega))
  have h2 := List.all_eq_true.1 h1 j (List.mem_range'_1.2 (by omega))
  simp only [turnsOk, Bool.and_eq_true, beq_iff_eq, List.all_eq_true, List.mem_range] at h2
  exact ⟨h2.1.1, h2.1.2, h2.2⟩
theorem slots_turns {k j : Nat} (hk : 1 ≤ k ∧ k ≤ 6) (hj : 1 ≤ j ∧ j ≤ 10) : slotsOf (List.replicate k (j : Int)) = turns k j := by
  have hs : (List.replicate k (j : Int)).sum = (k * j : Nat) := by rw [List.sum_replicate_int]; simp
  have hb : k * j ≤ 6 * 10 := Nat.mul_le_mul hk.2 hj.2
  have hb2 : 1 * 1 ≤ k * j := Nat.mul_le_mul hk.1 hj.1
  have hne : sumOf (List.replicate k (j : Int)) ≠ 0 := (sumOf_ne _).2 ⟨by simp; omega, by simp; omega, by
    rw [List.all_eq_true]; intro x hx
    have := (List.mem_replicate.1 hx).2
    simp only [mayK, Bool.and_eq_true, decide_eq_true_eq]; omega, by omega, by omega⟩
  rw [slotsOf, if_neg hne, ← alike_qsort k j (by omega)]; rfl
theorem check_loop' (K J : Nat) (hk : 1 ≤ K ∧ K ≤ 6) (hj : 1 ≤ J ∧ J ≤ 10) : ∀ (e i k : Nat), i + e = K * J → e + 1000 < k →
    tontinelaw12_SpreadAlike.l1 k (K : Int) (turns K J) (i : Int) = some true
  | 0, i, k, h, hkk => by
    obtain ⟨k, rfl⟩ := rounds (show 0 < k by omega)
    obtain ⟨t1, t2, t3⟩ := turns_ok hk hj
    have hb : K * J ≤ 6 * 10 := Nat.mul_le_mul hk.2 hj.2
    simp only [tontinelaw12_SpreadAlike.l1]
    rw [if_neg (by omega), gap_tells _ _ k (by omega), t3]
    simp
  | e + 1, i, k, h, hkk => by
    obtain ⟨k, rfl⟩ := rounds (show 0 < k by omega)
    obtain ⟨t1, t2, t3⟩ := turns_ok hk hj
    have hb : K * J ≤ 6 * 10 := Nat.mul_le_mul hk.2 hj.2
    simp only [tontinelaw12_SpreadAlike.l1]
    rw [if_pos (by omega), if_pos (by omega), if_neg (by omega), rd_get? (t2 i (by omega)), w64 (n := (i : Int) + 1) (by omega) (by omega), show (i : Int) + 1 = ((i + 1 : Nat) : Int) by omega]
    rw [if_pos (by rw [Int.tmod_eq_emod_of_nonneg (by omega)]; simp)]
    exact check_loop' K J hk hj e (i + 1) k (by omega) (by omega)
theorem build_loop (K J : Nat) (hk : 1 ≤ K ∧ K ≤ 6) (hj : 1 ≤ J ∧ J ≤ 10) (e : Nat) : ∀ (i k : Nat), i + e = K → e + 2000 < k →
    tontinelaw12_SpreadAlike.l0 k (K : Int) (J : Int) (List.replicate i (J : Int)) (i : Int) = some true := by
  induction e with
  | zero =>
    intro i k h hkk
    obtain ⟨k, rfl⟩ := rounds (show 0 < k by omega)
    obtain ⟨t1, t2, t3⟩ := turns_ok hk hj
    have hb : K * J ≤ 6 * 10 := Nat.mul_le_mul hk.2 hj.2
    have hi : i = K := by omega
    rw [hi]
    have hm : (K : Int) * (J : Int) = ((K * J : Nat) : Int) := by simp
    rw [tontinelaw12_SpreadAlike.l0, if_neg (by omega)]
    have hsl : spread_Slots.f (List.replicate K (J : Int)) = some (turns K J) := congrArg some (slots_turns hk hj)
    rw [hsl, Option.bind_some, hm, w64 (by omega) (by omega), if_pos (by omega)]
    exact check_loop' K J hk hj (K * J) 0 k (by omega) (by omega)
  | succ e ih =>
    intro i k h hkk
    obtain ⟨k, rfl⟩ := rounds (show 0 < k by omega)
    have hi : (i : Int) < K := by omega
    have hlen : (List.replicate i (J : Int)).length < 17592186044416 := by rw [List.length_replicate]; omega
    have := ih (i + 1) k (by omega) (by omega)
    rw [List.replicate_succ'] at this
    rw [tontinelaw12_SpreadAlike.l0, if_pos hi, if_pos hlen, w64 (n := (i : Int) + 1) (by omega) (by omega), show (i : Int) + 1 = ((i + 1 : Nat) : Int) by omega]
    exact this
theorem SpreadAlike : tontinelaw12_SpreadAlike.Pure := by
  intro a0 a1 h0 h1
  have u0 := u8_wf h0
  have u1 := u8_wf h1
  refine ⟨9000, ?_⟩
  unfold tontinelaw12_SpreadAlike.f
  rw [known_tells 9000 (by omega)]
  simp only [Option.bind_some, if_true]
  obtain ⟨K, hK, hk⟩ : ∃ K : Nat, wrap64 (wrap64 (Int.tmod a0 6) + 1) = (K : Int) ∧ (1 ≤ K ∧ K ≤ 6) := by
    rw [Int.tmod_eq_emod_of_nonneg u0.1, w64 (n := a0 % 6) (by omega) (by omega), w64 (by omega) (by omega)]
    exact ⟨(a0 % 6 + 1).toNat, by omega, by omega⟩
  obtain ⟨J, hJ, hj⟩ : ∃ J : Nat, wrap64 (wrap64 (Int.tmod a1 10) + 1) = (J : Int) ∧ (1 ≤ J ∧ J ≤ 10) := by
    rw [Int.tmod_eq_emod_of_nonneg u1.1, w64 (n := a1 % 10) (by omega) (by omega), w64 (by omega) (by omega)]
    exact ⟨(a1 % 10 + 1).toNat, by omega, by omega⟩
  rw [hK, hJ]
  exact build_loop K J hk hj K 0 9000 (by omega) (by omega)
end Go.Proofs.Ytgkhnmeemiloaaa.Pure
