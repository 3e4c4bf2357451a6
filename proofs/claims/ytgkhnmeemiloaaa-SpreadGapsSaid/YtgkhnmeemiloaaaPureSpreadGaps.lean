/- SpreadGaps: the least and the greatest gap of a domain have its even distance between them, and all its gaps together are the frame. Conditions: none. -/
import Derived.Test.YtgkhnmeemiloaaaSpe
import Derived.Test.YtgkhnmeemiloaaaPSx6
namespace Go.Proofs.Ytgkhnmeemiloaaa.Pure
open Go.RowKit Go.Proofs.Ytgkhnmeemiloaaa Go.Proofs.Ytgkhnmeemiloaaa.PS Go.Proofs.YtgkhnmeemiloaaaW.PrintWords Go.Proofs.YtgkhnmeemiloaaaW.PrintLast
theorem gaps_loop (xs : List Int) (dd : Int) (hd : 0 ≤ dd ∧ dd < 256) (hx : ∀ x ∈ xs, 0 ≤ x ∧ x < 256) (hl : xs.length ≤ 6) (h0 : 1 ≤ xs.length) : ∀ (e i k : Nat), i + e = xs.length → e + 1200 < k → 
    tontinelaw12_SpreadGaps.l0 k xs dd (modL (xs.take i)) (modL (xs.take i)).sum (i : Int) = some true
  | 0, i, k, h, hk => by
    obtain ⟨k, rfl⟩ := rounds (show 0 < k by omega)
    simp only [tontinelaw12_SpreadGaps.l0]
    rw [if_neg (by omega), List.take_of_length_le (by omega)]
    obtain ⟨b1, b2, b3⟩ := modL_facts xs hx
    obtain ⟨k, rfl⟩ := rounds (show 0 < k by omega)
    by_cases c : (modL xs).sum < 1
    · rw [if_pos c]
      simp only [tontinelaw12_SpreadGaps.j2, if_true]
    · rw [if_neg c]
      by_cases c2 : (modL xs).sum > 64
      · simp only [tontinelaw12_SpreadGaps.j2, decide_eq_true c2, if_true]
      · simp only [tontinelaw12_SpreadGaps.j2, decide_eq_false c2, Bool.false_eq_true, if_false, spread_Slots.f, Option.bind_some]
        have hne := modL_pos hx hl (by omega) (by omega)
        have hsl := slots_len hne
        obtain ⟨j, hj, hjl⟩ : ∃ j : Nat, Int.tmod (wrap64 dd) ((modL xs).length : Int) = (j : Int) ∧ j < (modL xs).length := by
          rw [w64 (by omega) (by omega), Int.tmod_eq_emod_of_nonneg hd.1]
          have h1 := Int.emod_nonneg dd (show ((modL xs).length : Int) ≠ 0 by omega)
          have h2 := Int.emod_lt_of_pos dd (show 0 < ((modL xs).length : Int) by omega)
          exact ⟨(dd % ((modL xs).length : Int)).toNat, by omega, by omega⟩
        rw [if_neg (by omega), hj, gap_tells _ _ k (by omega)]
        simp only [Option.bind_some]
        rw [if_pos (by omega), if_pos (by omega)]
        have hcount := slots_count hne hjl
        have hcg := cnt_get (fun x hx => (b1 x hx).1) hjl
        rw [rd_get hjl, ← hcg]
        by_cases c3 : cnt (modL xs) j = 0
        · rw [if_pos (by omega), gapOf_none _ _ (by omega)]
          simp
        · rw [if_neg (by omega)]
          obtain ⟨g1, g2, g3, g4, g5, g6, g7⟩ := gapOf_facts (slotsOf (modL xs)) (j : Int) (by omega) _ hcount (by omega)
          rw [hsl] at g2 g3 g4 g5 g7
          have hcb := b1 (modL xs)[j] (List.getElem_mem _)
          rw [← hcg] at hcb
          generalize gapOf (slotsOf (modL xs)) (j : Int) = G at *
          have m1 : 0 ≤ G.1 * (cnt (modL xs) j : Int) := Int.mul_nonneg (by omega) (by omega)
          have m2 : G.2 * (cnt (modL xs) j : Int) ≤ 64 * 11 := Int.mul_le_mul (by omega) hcb.2 (by omega) (by omega)
          rw [if_pos g1, if_pos g2, w64 (by omega) (by omega), if_pos g3, w64 (n := G.2 * (cnt (modL xs) j : Int)) (by omega) (by omega), if_pos g4]
          by_cases c4 : (cnt (modL xs) j : Int) > 1
          · rw [if_pos c4]
          · rw [if_neg c4, g5 (by omega)]; simp
  | e + 1, i, k, h, hk => by
    obtain ⟨k, rfl⟩ := rounds (show 0 < k by omega)
    obtain ⟨s1, s2, s3, s4, s5⟩ := modL_step xs hx hl (show i < xs.length by omega)
    simp only [tontinelaw12_SpreadGaps.l0]
    rw [if_pos (by omega), if_pos (by omega), if_pos s1, s2]
    simp only [Option.bind_some]
    rw [if_pos s3, s4, w64 (n := (i : Int) + 1) (by omega) (by omega), show (i : Int) + 1 = ((i + 1 : Nat) : Int) by omega]
    exact gaps_loop xs dd hd hx hl h0 e (i + 1) k (by omega) (by omega)
theorem SpreadGaps : tontinelaw12_SpreadGaps.Pure := by
  intro l0 a1 _ _ hw ha
  refine ⟨9000, ?_⟩
  unfold tontinelaw12_SpreadGaps.f
  rw [known_tells 9000 (by omega)]
  simp only [Option.bind_some, if_true]
  by_cases c : (l0.length : Int) < 1
  · rw [if_pos c]; simp [tontinelaw12_SpreadGaps.j0]
  · rw [if_neg c]
    by_cases c2 : (l0.length : Int) > 6
    · rw [decide_eq_true c2]; simp [tontinelaw12_SpreadGaps.j0]
    · rw [decide_eq_false c2]
      show tontinelaw12_SpreadGaps.j0 (8999 + 1) l0 a1 false = some true
      simp only [tontinelaw12_SpreadGaps.j0, Bool.false_eq_true, if_false]
      exact gaps_loop l0 a1 (u8_wf ha) (fun x hx => u8_wf (hw x hx)) (by omega) (by omega) l0.length 0 8999 (by omega) (by omega)
end Go.Proofs.Ytgkhnmeemiloaaa.Pure
