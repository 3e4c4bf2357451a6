/- SpreadTells: the program's slots and gaps are the reference's, for all counts of at most 20 domains and all rows of at most 100 slots. Conditions: none. -/
import Derived.Test.YtgkhnmeemiloaaaSpe
namespace Go.Proofs.Ytgkhnmeemiloaaa.Pure
open Go.RowKit Go.Proofs.Ytgkhnmeemiloaaa Go.Proofs.Ytgkhnmeemiloaaa.PS Go.Proofs.YtgkhnmeemiloaaaW.PrintWords Go.Proofs.YtgkhnmeemiloaaaW.PrintLast
theorem SpreadTells : tontinelaw12_SpreadTells.Pure := by
  intro l0 l1 a2 _ _ _ _ _ _ _
  refine ⟨9000, ?_⟩
  unfold tontinelaw12_SpreadTells.f
  rw [known_tells 9000 (by omega)]
  simp only [Option.bind_some, if_true]
  by_cases c : (l0.length : Int) > 20
  · rw [if_pos c]; simp [tontinelaw12_SpreadTells.j0]
  · rw [if_neg c]
    by_cases c2 : (l1.length : Int) > 100
    · rw [decide_eq_true c2]; simp [tontinelaw12_SpreadTells.j0]
    · rw [decide_eq_false c2]
      show tontinelaw12_SpreadTells.j0 (8999 + 1) l0 l1 a2 false = some true
      simp only [tontinelaw12_SpreadTells.j0, Bool.false_eq_true, if_false]
      have hb : (slotsOf l0).length < 4611686018427387904 := by
        by_cases h : sumOf l0 = 0
        · rw [slots_none h]; simp
        · have := slots_len h; have := (sumOf_ne l0).1 h; omega
      have hb2 : (slotsOf l0).length < 8999 := by
        by_cases h : sumOf l0 = 0
        · rw [slots_none h]; simp
        · have := slots_len h; have := (sumOf_ne l0).1 h; omega
      rw [gap_tells l1 a2 8999 (by omega), ref_gap l1 a2 8999 (by omega) (by omega), show spread_Slots.f l0 = some (slotsOf l0) from rfl, ref_slots l0 8999 (by omega) (by omega)]
      simp only [Option.bind_some]
      rw [same_tells _ _ hb 8999 hb2]
      simp
end Go.Proofs.Ytgkhnmeemiloaaa.Pure
