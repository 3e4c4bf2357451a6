/- The plain law: what conf.Is says is what the reference says. Conditions: none. -/
import Derived.Test.YtjjbnmlhbbnhcaaRf4
set_option linter.unusedVariables false
set_option linter.unusedSimpArgs false
namespace Go.Proofs.Ytjjbnmlhbbnhcaa
open Go.RowKit G
theorem foldl_mx_le (b : Int) : ∀ (r : List Int) (x : Int), r.foldl mxI x ≤ b ↔ x ≤ b ∧ ∀ y ∈ r, y ≤ b
  | [], x => by simp
  | z :: r, x => by
    rw [List.foldl_cons, foldl_mx_le b r]
    have : mxI x z ≤ b ↔ x ≤ b ∧ z ≤ b := by unfold mxI; split <;> omega
    rw [this]
    simp only [List.mem_cons, forall_eq_or_imp, and_assoc]
theorem foldl_mn_ge (b : Int) : ∀ (r : List Int) (x : Int), b ≤ r.foldl mnI x ↔ b ≤ x ∧ ∀ y ∈ r, b ≤ y
  | [], x => by simp
  | z :: r, x => by
    rw [List.foldl_cons, foldl_mn_ge b r]
    have : b ≤ mnI x z ↔ b ≤ x ∧ b ≤ z := by unfold mnI; split <;> omega
    rw [this]
    simp only [List.mem_cons, forall_eq_or_imp, and_assoc]
theorem maxL_le {l : List Int} (h : l ≠ []) (b : Int) : maxL l ≤ b ↔ ∀ y ∈ l, y ≤ b := by
  cases l with
  | nil => exact absurd rfl h
  | cons x r => simp only [maxL, foldl_mx_le, List.mem_cons, forall_eq_or_imp]
theorem minL_ge {l : List Int} (h : l ≠ []) (b : Int) : b ≤ minL l ↔ ∀ y ∈ l, b ≤ y := by
  cases l with
  | nil => exact absurd rfl h
  | cons x r => simp only [minL, foldl_mn_ge, List.mem_cons, forall_eq_or_imp]
theorem inb_iff (x a b : Int) : inb x a b = true ↔ a ≤ x ∧ x ≤ b := by simp [inb]
theorem planBad_eq {n : Nat} (hn : 1 ≤ n) (p : List Int) : planBad n p = !rplanOk n p := by
  rw [Bool.eq_iff_iff]
  unfold planBad rplanOk
  by_cases hl : p.length = n
  · have hne : p ≠ [] := by intro h; rw [h] at hl; simp at hl; omega
    have h1 : maxL p < 1 ↔ ∀ y ∈ p, y ≤ 0 := by rw [← maxL_le hne]; omega
    have h2 : maxL p > 1000 ↔ ¬ ∀ y ∈ p, y ≤ 1000 := by rw [← maxL_le hne]; omega
    have h3 : minL p < 0 ↔ ¬ ∀ y ∈ p, 0 ≤ y := by rw [← minL_ge hne]; omega
    simp only [hl, bne_self_eq_false, Bool.false_or, Bool.or_eq_true, decide_eq_true_eq, h1, h2, h3, Bool.not_eq_true', Bool.and_eq_false_iff, Bool.not_eq_false', Bool.not_not]
    constructor
    · rintro ((h | h) | h)
      · right
        rw [← Bool.not_eq_true]
        intro ha
        obtain ⟨y, hy, hp⟩ := List.any_eq_true.1 ha
        have := h y hy
        have := of_decide_eq_true hp
        omega
      · left
        rw [← Bool.not_eq_true]
        intro ha
        exact h fun y hy => ((inb_iff _ _ _).1 (List.all_eq_true.1 ha y hy)).2
      · left
        rw [← Bool.not_eq_true]
        intro ha
        exact h fun y hy => ((inb_iff _ _ _).1 (List.all_eq_true.1 ha y hy)).1
    · rintro (h | h)
      · by_cases g1 : ∀ y ∈ p, y ≤ 1000
        · by_cases g2 : ∀ y ∈ p, 0 ≤ y
          · exfalso
            rw [← Bool.not_eq_true] at h
            exact h (List.all_eq_true.2 fun y hy => (inb_iff _ _ _).2 ⟨g2 y hy, g1 y hy⟩)
          · exact .inr g2
        · exact .inl (.inr g1)
      · refine .inl (.inl fun y hy => ?_)
        rw [← Bool.not_eq_true] at h
        by_cases hy0 : y ≤ 0
        · exact hy0
        · exact absurd (List.any_eq_true.2 ⟨y, hy, decide_eq_true (by omega)⟩) h
  · have h1 : ((p.length : Int) != (n : Int)) = true := by simp; omega
    simp [h1]
theorem shares_eq {c : ConfV} (hn : 1 ≤ c.domains.l.length) : sharesOk c = rsharesOk c := by
  unfold sharesOk rsharesOk
  congr 2
  funext p
  rw [planBad_eq hn, Bool.not_not]
theorem quotas_eq (d : DomV) : quotasOk d = !rquotasBad d := by
  unfold quotasOk rquotasBad
  simp only [Bool.not_or, Bool.not_not]
theorem isDom_iff {c : ConfV} (hs : SmallC c) (j : Int) : isDom c j = true ↔ 0 ≤ j ∧ j < c.domains.l.length := by
  have := hs.doms
  unfold isDom
  rw [inb_iff, IntKind.wrap_i64]
  omega
theorem rises_eq (c : ConfV) (d : DomV) (r : List Int) : risesOk c d r = rrisesOk c d r := by
  unfold risesOk rrisesOk
  congr 1
  have hl : (lbs c d r).length = r.length + 1 := by simp [lbs]
  rw [hl]
  cases r with
  | nil => simp
  | cons a r => simp; omega
theorem routes_eq {c : ConfV} (hs : SmallC c) (i : Nat) (d : DomV) : routesOk c i d = rroutesOk c i d := by
  have hr : (d.routes.l.all fun r => risesOk c d r.l) = (d.routes.l.all fun r => rrisesOk c d r.l) := by congr 1; funext r; exact rises_eq c d r.l
  unfold routesOk rroutesOk fallsOk
  rw [hr]
  cases hal : (d.routes.l.all fun r => rrisesOk c d r.l)
  · simp
  · simp only [Bool.true_and, if_neg (show ¬ true = false by simp)]
    by_cases hl : (d.routes.l.length : Int) > 3
    · have : ¬ (d.routes.l.length : Int) ≤ 3 := by omega
      simp [hl, this]
    · have hl3 : (d.routes.l.length : Int) ≤ 3 := by omega
      by_cases ht : d.to = -1
      · by_cases hq : d.release.l.length = 0
        · have hii : ¬ (-1 : Int) = (i : Int) := by omega
          have hcc : ¬ (c.domains.l.length : Int) ≤ -1 := by omega
          simp [ht, hl3, hl, hq, hii, hcc]
        · have hq' : (0 : Int) < d.release.l.length := by omega
          have hq2 : ¬ d.release.l = [] := by intro h; rw [h] at hq; simp at hq
          have hq3 : ((d.release.l.length : Int) == 0) = false := by rw [beq_eq_false_iff_ne]; omega
          have hq4 : 0 < d.release.l.length := by omega
          simp [ht, hl3, hq2, hq3, hq4]
      · have htb : (d.to == -1) = false := by simpa using ht
        simp only [htb, Bool.false_eq_true, if_false, Bool.false_and, Bool.or_false, decide_eq_true hl3, decide_eq_false hl, Bool.false_or, Bool.true_and]
        by_cases hd : isDom c d.to = true
        · have hd' := (isDom_iff hs d.to).1 hd
          have g1 : ¬ d.to < -1 := by omega
          have g2 : ¬ d.to ≥ (c.domains.l.length : Int) := by omega
          simp only [hd, Bool.not_true, Bool.false_or, decide_eq_false g1, decide_eq_false g2]
          cases he : d.to == (i : Int)
          · simp only [Bool.false_or, Bool.false_eq_true, if_false]
            cases hin : inb d.release.l.length 1 4
            · simp
            · have hne : d.release.l ≠ [] := by intro h; rw [h] at hin; simp [inb] at hin
              simp only [Bool.not_true, Bool.false_eq_true, if_false, Bool.true_and]
              have hm : (decide (minL d.release.l ≥ 0) && decide (maxL d.release.l ≤ c.frame)) = d.release.l.all fun x => inb x 0 c.frame := by
                rw [Bool.eq_iff_iff, Bool.and_eq_true, decide_eq_true_eq, decide_eq_true_eq, ge_iff_le, minL_ge hne, maxL_le hne, List.all_eq_true]
                simp only [inb_iff]
                exact ⟨fun h y hy => ⟨h.1 y hy, h.2 y hy⟩, fun h => ⟨fun y hy => (h y hy).1, fun y hy => (h y hy).2⟩⟩
              rw [hm]
              cases hal2 : (d.release.l.all fun x => inb x 0 c.frame)
              · simp
              · simp only [Bool.true_and, if_neg (show ¬ true = false by simp)]
                rw [Bool.and_comm]
          · simp
        · have hd' : ¬ (0 ≤ d.to ∧ d.to < c.domains.l.length) := fun h => hd ((isDom_iff hs d.to).2 h)
          have hdf : isDom c d.to = false := by simpa using hd
          have g : (decide (d.to < -1) || decide (d.to ≥ (c.domains.l.length : Int))) = true := by
            rw [Bool.or_eq_true, decide_eq_true_eq, decide_eq_true_eq]; omega
          simp only [hdf, Bool.not_false, Bool.true_or, if_true, g]
theorem formF_eq (c : ConfV) : formF c c.domains.l = (!rformBad c && c.domains.l.all fun d => labIs d.lab) := by
  have h : ∀ (l : List DomV) (b : Bool), l.foldl (fun ok d => ok && labIs d.lab) b = (b && l.all fun d => labIs d.lab) := by
    intro l
    induction l with
    | nil => intro b; simp
    | cons x l ih => intro b; rw [List.foldl_cons, ih, List.all_cons, Bool.and_assoc]
  rw [formF, h, rformBad]
  simp only [Bool.not_or, Bool.not_not]
theorem confErr_eq {c : ConfV} (hs : SmallC c) : confErr c = rErr c := by
  unfold confErr rErr
  rw [formF_eq]
  cases hb : rformBad c
  · have hn : 1 ≤ c.domains.l.length := by
      unfold rformBad at hb
      simp only [Bool.or_eq_false_iff, Bool.not_eq_false', inb_iff] at hb
      omega
    have hq : quotasAll c = c.domains.l.all fun d => !rquotasBad d := by unfold quotasAll; congr 1; funext d; exact quotas_eq d
    have hr : routesAll c = (List.range c.domains.l.length).all (rroutesAt c) := by
      unfold routesAll
      congr 1
      funext i
      unfold routesAt rroutesAt
      cases c.domains.l[i]? with
      | none => rfl
      | some d => exact routes_eq hs i d
    rw [shares_eq hn, hq, hr]
    simp
  · simp
theorem ticks_eq {c : ConfV} (hs : SmallC c) : ticksOf c = rticksOf c := by unfold ticksOf rticksOf; rw [confErr_eq hs]
end Go.Proofs.Ytjjbnmlhbbnhcaa
