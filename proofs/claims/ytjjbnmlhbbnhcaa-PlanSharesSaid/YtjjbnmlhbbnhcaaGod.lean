/- Good configurations: what their plans are; their owners' numbers and counts. Conditions: none. -/
import Derived.Test.YtjjbnmlhbbnhcaaShp
import Derived.Test.YtjjbnmlhbbnhcaaPp
set_option linter.unusedVariables false
set_option linter.unusedSimpArgs false
namespace Go.Proofs.Ytjjbnmlhbbnhcaa
open Go.RowKit G
structure GoodC (c : ConfV) : Prop where
  frame : 1 ≤ c.frame ∧ c.frame ≤ 64
  doms : 1 ≤ c.domains.l.length ∧ c.domains.l.length ≤ 6
  plans : 1 ≤ c.plans.l.length ∧ c.plans.l.length ≤ 3
  plan : ∀ p ∈ c.plans.l, p.l.length = c.domains.l.length ∧ ¬ (shSum c.frame p.l == 0) = true
theorem good_of {c : ConfV} (hs : SmallC c) (he : confErr c = 0) : GoodC c := by
  rw [confErr_eq hs] at he
  unfold rErr at he
  cases hb : rformBad c with
  | true => rw [hb] at he; simp at he
  | false =>
    rw [hb] at he
    simp only [rformBad, Bool.or_eq_false_iff, Bool.not_eq_false'] at hb
    have b1 := (inb_iff _ _ _).1 hb.1.1
    have b2 := (inb_iff _ _ _).1 hb.2
    cases hsh : rsharesOk c with
    | false => rw [hsh] at he; simp at he; split at he <;> simp at he
    | true =>
      simp only [rsharesOk, Bool.and_eq_true, List.all_eq_true] at hsh
      have b3 := (inb_iff _ _ _).1 hsh.1
      refine ⟨b1, by omega, by omega, fun p hp => ?_⟩
      have hp2 := hsh.2 p hp
      simp only [rplanOk, Bool.and_eq_true, Bool.not_eq_true', Bool.or_eq_false_iff, Bool.not_eq_false', bne_eq_false_iff_eq] at hp2
      obtain ⟨ha, hl, hy⟩ := hp2
      have hmem : ∀ x ∈ p.l, 0 ≤ x ∧ x ≤ 1000 := fun x hx => (inb_iff _ _ _).1 (List.all_eq_true.1 ha x hx)
      obtain ⟨y, hym, hy0⟩ := List.any_eq_true.1 hy
      have hy1 := of_decide_eq_true hy0
      have hsum := sum_mem p.l (fun x hx => (hmem x hx).1) y hym
      refine ⟨by omega, ?_⟩
      have hF : shBadF c.frame p.l = false := by simp only [shBadF, Bool.or_eq_false_iff, decide_eq_false_iff_not]; omega
      have hA : (p.l.all fun s => !shBad s) = true := List.all_eq_true.2 fun x hx => by have := hmem x hx; simp only [shBad, Bool.not_eq_true', Bool.or_eq_false_iff, decide_eq_false_iff_not]; omega
      rw [shSum, if_neg (by rw [hF]; simp), if_neg (by rw [hA]; simp), sumI_sum]
      simp; omega
theorem counts_ok {frame : Int} {l : List Int} (hf : frame ≤ 64) (h : ¬ (shSum frame l == 0) = true) : sumOf (countsOf frame l) ≠ 0 := by
  obtain ⟨h1, h2, h3, _, _⟩ := counts_exact h
  obtain ⟨hf1, _, hl6, hl1, _, _⟩ := shSum_good h
  refine (sumOf_ne _).2 ⟨by omega, by omega, List.all_eq_true.2 fun x hx => ?_, by omega, by omega⟩
  have := h3 x hx
  simp only [mayK, Bool.and_eq_true, decide_eq_true_eq]; omega
theorem owners_at {c : ConfV} (he : confErr c = 0) {m : Nat} {p : SV Int} (hp : c.plans.l[m]? = some p) : ownersOf c (m : Int) = slotsOf (countsOf c.frame p.l) := by
  have hm := (List.getElem?_eq_some_iff.1 hp).1
  rw [ownersOf, if_pos ⟨he, by omega, by omega⟩, Int.toNat_natCast, hp]; rfl
theorem owners_good {c : ConfV} (hs : SmallC c) (he : confErr c = 0) {m : Nat} {p : SV Int} (hp : c.plans.l[m]? = some p) : ((ownersOf c (m : Int)).length : Int) = c.frame ∧
    ∀ d : Nat, d < c.domains.l.length → (countsOf c.frame p.l)[d]? = some ((countOf (ownersOf c (m : Int)) (d : Int) : Nat) : Int) := by
  have hg := good_of hs he
  obtain ⟨hl, hsh⟩ := hg.plan p (List.mem_of_getElem? hp)
  obtain ⟨h1, h2, h3, _, _⟩ := counts_exact hsh
  have hok := counts_ok hg.frame.2 hsh
  rw [owners_at he hp]
  refine ⟨by rw [slots_len hok, h2], fun d hd => ?_⟩
  have hdl : d < (countsOf c.frame p.l).length := by omega
  rw [slots_count hok hdl]
  have hx := h3 _ (List.getElem_mem hdl)
  rw [List.getElem?_eq_getElem hdl, cnt, List.getD_eq_getElem?_getD, List.getElem?_eq_getElem hdl, Option.getD_some, Int.toNat_of_nonneg hx.1]
end Go.Proofs.Ytjjbnmlhbbnhcaa
