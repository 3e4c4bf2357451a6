/- Slots by exact fractions, and their floats in the same order. Conditions: none. -/
import Derived.Test.YtjjbnmlhbbnhcaaFlts
import Derived.Test.YtjjbnmlhbbnhcaaSpr
set_option linter.unusedVariables false
set_option linter.unusedSimpArgs false
namespace Go.Proofs.Ytjjbnmlhbbnhcaa

/-- How many slots d is to have. -/
def cnt (l : List Int) (d : Nat) : Nat := (l.getD d 0).toNat
/-- All quanta: which of a domain's, whose. -/
def quanta (l : List Int) : List (Nat × Nat) := (List.range l.length).flatMap fun d => (List.range (cnt l d)).map fun k => (k, d)
/-- Where quanta want to be: (2k+1)/n; then the domain. -/
def qle (l : List Int) (x y : Nat × Nat) : Bool := decide ((2 * x.1 + 1) * cnt l y.2 < (2 * y.1 + 1) * cnt l x.2) || (decide ((2 * x.1 + 1) * cnt l y.2 = (2 * y.1 + 1) * cnt l x.2) && decide (x.2 ≤ y.2))
def qsort (l : List Int) : List (Nat × Nat) := (quanta l).mergeSort (qle l)
def slotsOf (l : List Int) : List Int := if sumOf l = 0 then [] else (qsort l).map fun x => (x.2 : Int)

theorem mem_quanta {l : List Int} {x : Nat × Nat} : x ∈ quanta l ↔ x.2 < l.length ∧ x.1 < cnt l x.2 := by
  obtain ⟨k, d⟩ := x
  simp only [quanta, List.mem_flatMap, List.mem_range, List.mem_map, Prod.mk.injEq]
  constructor
  · rintro ⟨e, he, m, hm, rfl, rfl⟩; exact ⟨he, hm⟩
  · rintro ⟨h1, h2⟩; exact ⟨d, h1, k, h2, rfl, rfl⟩
theorem qle_iff {l : List Int} {x y : Nat × Nat} : qle l x y = true ↔ (2 * x.1 + 1) * cnt l y.2 < (2 * y.1 + 1) * cnt l x.2 ∨ ((2 * x.1 + 1) * cnt l y.2 = (2 * y.1 + 1) * cnt l x.2 ∧ x.2 ≤ y.2) := by
  simp [qle]
theorem qle_total (l : List Int) (x y : Nat × Nat) : (qle l x y || qle l y x) = true := by
  rw [Bool.or_eq_true, qle_iff, qle_iff]; omega
theorem frac_trans {a b c p q r : Nat} (hq : 0 < q) (h1 : a * q ≤ b * p) (h2 : b * r ≤ c * q) : a * r ≤ c * p := by
  have : (a * r) * q ≤ (c * p) * q := by
    calc (a * r) * q = (a * q) * r := by rw [Nat.mul_right_comm]
      _ ≤ (b * p) * r := Nat.mul_le_mul_right _ h1
      _ = (b * r) * p := by rw [Nat.mul_right_comm]
      _ ≤ (c * q) * p := Nat.mul_le_mul_right _ h2
      _ = (c * p) * q := by rw [Nat.mul_right_comm]
  exact Nat.le_of_mul_le_mul_right this hq
theorem frac_trans_lt {a b c p q r : Nat} (hq : 0 < q) (h : a * q ≤ b * p ∧ b * r < c * q ∧ 0 < p ∨ a * q < b * p ∧ b * r ≤ c * q ∧ 0 < r) : a * r < c * p := by
  have : (a * r) * q < (c * p) * q := by
    rcases h with ⟨h1, h2, hp⟩ | ⟨h1, h2, hr⟩
    · calc (a * r) * q = (a * q) * r := by rw [Nat.mul_right_comm]
        _ ≤ (b * p) * r := Nat.mul_le_mul_right _ h1
        _ = (b * r) * p := by rw [Nat.mul_right_comm]
        _ < (c * q) * p := Nat.mul_lt_mul_of_pos_right h2 hp
        _ = (c * p) * q := by rw [Nat.mul_right_comm]
    · calc (a * r) * q = (a * q) * r := by rw [Nat.mul_right_comm]
        _ < (b * p) * r := Nat.mul_lt_mul_of_pos_right h1 hr
        _ = (b * r) * p := by rw [Nat.mul_right_comm]
        _ ≤ (c * q) * p := Nat.mul_le_mul_right _ h2
        _ = (c * p) * q := by rw [Nat.mul_right_comm]
  exact Nat.lt_of_mul_lt_mul_right this
theorem qle_trans {l : List Int} {x y z : Nat × Nat} (hx : 0 < cnt l x.2) (hy : 0 < cnt l y.2) (hz : 0 < cnt l z.2) (h1 : qle l x y = true) (h2 : qle l y z = true) : qle l x z = true := by
  rw [qle_iff] at *
  have l1 : (2 * x.1 + 1) * cnt l y.2 ≤ (2 * y.1 + 1) * cnt l x.2 := by omega
  have l2 : (2 * y.1 + 1) * cnt l z.2 ≤ (2 * z.1 + 1) * cnt l y.2 := by omega
  have l3 := frac_trans hy l1 l2
  rcases h1 with h1 | ⟨e1, d1⟩
  · exact .inl (frac_trans_lt hy (.inr ⟨h1, l2, hz⟩))
  · rcases h2 with h2 | ⟨e2, d2⟩
    · exact .inl (frac_trans_lt hy (.inl ⟨l1, h2, hx⟩))
    · rcases Nat.lt_or_ge ((2 * x.1 + 1) * cnt l z.2) ((2 * z.1 + 1) * cnt l x.2) with h | h
      · exact .inl h
      · exact .inr ⟨Nat.le_antisymm l3 h, Nat.le_trans d1 d2⟩
theorem qle_anti {l : List Int} {x y : Nat × Nat} (hx : 0 < cnt l x.2) (h1 : qle l x y = true) (h2 : qle l y x = true) : x = y := by
  rw [qle_iff] at h1 h2
  obtain ⟨k, d⟩ := x
  obtain ⟨m, e⟩ := y
  simp only at *
  have hd : d = e := by omega
  subst hd
  have : (2 * k + 1) * cnt l d = (2 * m + 1) * cnt l d := by omega
  have := Nat.eq_of_mul_eq_mul_right hx this
  have : k = m := by omega
  subst this; rfl
/-- An order that holds for all of a list's members: its sort is in order. -/
theorem msort_pairwise {α : Type} (le : α → α → Bool) (S : α → Prop) [DecidablePred S] (l : List α) (hl : ∀ x ∈ l, S x) (ht : ∀ a b c, S a → S b → S c → le a b = true → le b c = true → le a c = true) (hto : ∀ a b, (le a b || le b a) = true) :
    (l.mergeSort le).Pairwise (fun a b => le a b = true) := by
  let le' : α → α → Bool := fun a b => if S a then (if S b then le a b else true) else (if S b then false else true)
  have e : l.mergeSort le = l.mergeSort le' := by
    have := List.map_mergeSort (r := le) (s := le') (f := id) (l := l) (fun a ha b hb => by simp only [id, le', if_pos (hl a ha), if_pos (hl b hb)])
    simpa using this
  have p : (l.mergeSort le').Pairwise (fun a b => le' a b = true) := by
    refine List.pairwise_mergeSort ?_ ?_ l
    · intro a b c h1 h2
      by_cases ha : S a <;> by_cases hb : S b <;> by_cases hc : S c <;> simp [le', ha, hb, hc] at h1 h2 ⊢
      exact ht a b c ha hb hc h1 h2
    · intro a b
      by_cases ha : S a <;> by_cases hb : S b <;> simp [le', ha, hb]
      simpa using hto a b
  rw [e]
  refine p.imp_of_mem ?_
  intro a b ha hb h
  have ha' := hl a ((List.mergeSort_perm l le').mem_iff.1 ha)
  have hb' := hl b ((List.mergeSort_perm l le').mem_iff.1 hb)
  simpa [le', ha', hb'] using h
theorem qsort_perm (l : List Int) : (qsort l).Perm (quanta l) := List.mergeSort_perm _ _
theorem qsort_pairwise (l : List Int) : (qsort l).Pairwise (fun a b => qle l a b = true) :=
  msort_pairwise (qle l) (fun x => 0 < cnt l x.2) _ (fun x hx => by have := (mem_quanta.1 hx).2; omega) (fun a b c h1 h2 h3 => qle_trans h1 h2 h3) (qle_total l)

/-! floats -/
theorem chk_read {n N W : Nat} (h : chk n N W = true) : fxOk W = true ∧ fx W * (2 * n) ≤ N * 2 ^ 60 + 2 * n * 2 ^ 14 ∧ N * 2 ^ 60 ≤ fx W * (2 * n) + 2 * n * 2 ^ 14 := by
  simp only [chk, Bool.and_eq_true, decide_eq_true_eq] at h
  exact ⟨h.1.1, h.1.2, h.2⟩
/-- Each quotient's float is that of the fraction in least terms. -/
theorem qb_red {F n k : Nat} (hF : F ≤ 64) (hn : n ≤ F) (hk : k < n) : ∃ n' k', 0 < n' ∧ n' ≤ n ∧ k' < n' ∧ Nat.gcd (2 * k' + 1) n' = 1 ∧ (2 * k + 1) * n' = (2 * k' + 1) * n ∧ qb F n k = qb F n' k' ∧ chk n' ((2 * k' + 1) * F) (qb F n k) = true := by
  have h := qOk_le hF hn hk
  have hW : ∃ W, qb F n k = W + 1 := by
    unfold qOk at h
    split at h
    · cases h
    · rename_i W e; exact ⟨W, e⟩
  obtain ⟨W, hW⟩ := hW
  by_cases hg : Nat.gcd (2 * k + 1) n = 1
  · refine ⟨n, k, by omega, Nat.le_refl _, hk, hg, rfl, rfl, ?_⟩
    unfold qOk at h
    rw [hW] at h
    simp only [hg, if_true] at h
    rw [hW]; exact h
  · obtain ⟨g, hgd⟩ : ∃ g, g = Nat.gcd (2 * k + 1) n := ⟨_, rfl⟩
    have hg0 : 0 < g := by rw [hgd]; exact Nat.gcd_pos_of_pos_right _ (by omega)
    obtain ⟨a, ha⟩ : g ∣ 2 * k + 1 := by rw [hgd]; exact Nat.gcd_dvd_left _ _
    obtain ⟨b, hb⟩ : g ∣ n := by rw [hgd]; exact Nat.gcd_dvd_right _ _
    have ha1 : a % 2 = 1 := by
      rcases Nat.mod_two_eq_zero_or_one a with h0 | h1
      · exfalso
        have e : a = 2 * (a / 2) := by omega
        rw [e, Nat.mul_left_comm] at ha; omega
      · exact h1
    have hcop : Nat.gcd a b = 1 := by
      have : Nat.gcd ((2 * k + 1) / Nat.gcd (2 * k + 1) n) (n / Nat.gcd (2 * k + 1) n) = 1 := Nat.coprime_div_gcd_div_gcd (m := 2 * k + 1) (n := n) (by rw [← hgd]; exact hg0)
      rw [← hgd, ha, hb, Nat.mul_div_cancel_left _ hg0, Nat.mul_div_cancel_left _ hg0] at this
      exact this
    have hq : qb F n k = qb F b (a / 2) := by
      unfold qOk at h
      rw [hW] at h
      simp only [hg, if_false] at h
      rw [← hgd] at h
      rw [hW]
      have h2 := Nat.eq_of_beq_eq_true h
      rw [h2]
      congr 1
      · rw [hb, Nat.mul_div_cancel_left _ hg0]
      · rw [ha, Nat.mul_div_cancel_left _ hg0]
    have hb0 : 0 < b := by rcases Nat.eq_zero_or_pos b with h0 | h0; · rw [h0] at hb; omega
                           · exact h0
    have hbn : b ≤ n := by rw [hb]; exact Nat.le_mul_of_pos_left _ hg0
    have e2 : 2 * (a / 2) + 1 = a := by omega
    have hlt : a / 2 < b := by
      by_cases hc : a / 2 < b
      · exact hc
      · exfalso
        have h1 : 2 * b ≤ a := by omega
        have h2 : g * (2 * b) ≤ g * a := Nat.mul_le_mul_left _ h1
        rw [← ha, Nat.mul_left_comm, ← hb] at h2
        omega
    have hc2 := qOk_le hF (Nat.le_trans hbn hn) hlt
    refine ⟨b, a / 2, hb0, hbn, hlt, by rw [e2]; exact hcop, ?_, hq, ?_⟩
    · rw [e2, ha]
      rw [show g * a * b = a * (g * b) by rw [Nat.mul_comm g a, Nat.mul_assoc], ← hb]
    · rw [hq]
      unfold qOk at hc2
      rw [← hq, hW] at hc2
      simp only [e2, hcop, if_true] at hc2
      rw [← hq, hW, e2]; exact hc2
theorem qb_ok {F n k : Nat} (hF : F ≤ 64) (hn : n ≤ F) (hk : k < n) : fxOk (qb F n k) = true := by
  obtain ⟨n', k', _, _, _, _, _, _, h⟩ := qb_red hF hn hk
  exact (chk_read h).1
theorem qb_eq {F n k m j : Nat} (hF : F ≤ 64) (hn : n ≤ F) (hk : k < n) (hm : m ≤ F) (hj : j < m) (h : (2 * k + 1) * m = (2 * j + 1) * n) : qb F n k = qb F m j := by
  obtain ⟨n', k', n0, _, _, g1, e1, q1, _⟩ := qb_red hF hn hk
  obtain ⟨m', j', m0, _, _, g2, e2, q2, _⟩ := qb_red hF hm hj
  have e : (2 * k' + 1) * m' = (2 * j' + 1) * n' := by
    refine Nat.le_antisymm ?_ ?_
    · have l1 : (2 * k' + 1) * n ≤ (2 * k + 1) * n' := by omega
      have l2 : (2 * k + 1) * m ≤ (2 * j + 1) * n := by omega
      have l3 : (2 * j + 1) * m' ≤ (2 * j' + 1) * m := by omega
      exact frac_trans (by omega) (frac_trans (by omega) l1 l2) l3
    · have l1 : (2 * j' + 1) * m ≤ (2 * j + 1) * m' := by omega
      have l2 : (2 * j + 1) * n ≤ (2 * k + 1) * m := by omega
      have l3 : (2 * k + 1) * n' ≤ (2 * k' + 1) * n := by omega
      exact frac_trans (by omega) (frac_trans (by omega) l1 l2) l3
  have d1 : n' ∣ m' := by
    have : n' ∣ (2 * k' + 1) * m' := by rw [e]; exact Nat.dvd_mul_left _ _
    exact Nat.Coprime.dvd_of_dvd_mul_left (k := n') (m := 2 * k' + 1) (n := m') (Nat.Coprime.symm g1) this
  have d2 : m' ∣ n' := by
    have : m' ∣ (2 * j' + 1) * n' := by rw [← e]; exact Nat.dvd_mul_left _ _
    exact Nat.Coprime.dvd_of_dvd_mul_left (Nat.Coprime.symm g2) this
  have en : n' = m' := Nat.dvd_antisymm d1 d2
  subst en
  have : 2 * k' + 1 = 2 * j' + 1 := Nat.eq_of_mul_eq_mul_right n0 e
  have : k' = j' := by omega
  subst this
  rw [q1, q2]
theorem qb_lt {F n k m j : Nat} (hF0 : 0 < F) (hF : F ≤ 64) (hn : n ≤ F) (hk : k < n) (hm : m ≤ F) (hj : j < m) (h : (2 * k + 1) * m < (2 * j + 1) * n) : fx (qb F n k) < fx (qb F m j) := by
  obtain ⟨n', k', n0, n1, _, g1, e1, q1, c1⟩ := qb_red hF hn hk
  obtain ⟨m', j', m0, m1, _, g2, e2, q2, c2⟩ := qb_red hF hm hj
  have e : (2 * k' + 1) * m' < (2 * j' + 1) * n' := by
    have l1 : (2 * k' + 1) * n ≤ (2 * k + 1) * n' := by omega
    have l3 : (2 * j + 1) * m' ≤ (2 * j' + 1) * m := by omega
    have := frac_trans_lt (q := n) (by omega) (.inl ⟨l1, h, n0⟩)
    exact frac_trans_lt (q := m) (by omega) (.inr ⟨this, l3, m0⟩)
  obtain ⟨_, _, b2⟩ := chk_read c2
  obtain ⟨_, b1, _⟩ := chk_read c1
  obtain ⟨X, hX⟩ : ∃ X, X = fx (qb F n k) := ⟨_, rfl⟩
  obtain ⟨Y, hY⟩ : ∃ Y, Y = fx (qb F m j) := ⟨_, rfl⟩
  rw [← hX] at b1 ⊢
  rw [← hY] at b2 ⊢
  -- times the other's denominator
  have s1 := Nat.mul_le_mul_right m' b1
  have s2 := Nat.mul_le_mul_right n' b2
  have s3 : ((2 * k' + 1) * m' + 1) * (F * 2 ^ 60) ≤ (2 * j' + 1) * n' * (F * 2 ^ 60) := Nat.mul_le_mul_right _ e
  have s4 : m' * n' ≤ 64 * 64 := Nat.mul_le_mul (by omega) (by omega)
  have r1 : X * (2 * n') * m' = X * (2 * (m' * n')) := by rw [Nat.mul_assoc, Nat.mul_assoc, Nat.mul_comm n' m']
  have r2 : Y * (2 * m') * n' = Y * (2 * (m' * n')) := by rw [Nat.mul_assoc, Nat.mul_assoc]
  have r3 : ((2 * k' + 1) * F * 2 ^ 60 + 2 * n' * 2 ^ 14) * m' = (2 * k' + 1) * m' * (F * 2 ^ 60) + 2 ^ 15 * (m' * n') := by
    rw [Nat.add_mul]
    congr 1
    · generalize (2 : Nat) ^ 60 = z; generalize 2 * k' + 1 = a; rw [Nat.mul_assoc a F z, Nat.mul_right_comm a (F * z) m']
    · rw [show 2 * n' * 2 ^ 14 = 2 ^ 15 * n' by omega, Nat.mul_assoc, Nat.mul_comm n' m']
  have r4 : (Y * (2 * m') + 2 * m' * 2 ^ 14) * n' = Y * (2 * (m' * n')) + 2 ^ 15 * (m' * n') := by
    rw [Nat.add_mul, r2]
    rw [show 2 * m' * 2 ^ 14 = 2 ^ 15 * m' by omega, Nat.mul_assoc (2 ^ 15) m' n']
  have r5 : (2 * j' + 1) * F * 2 ^ 60 * n' = (2 * j' + 1) * n' * (F * 2 ^ 60) := by
    generalize (2 : Nat) ^ 60 = z; generalize 2 * j' + 1 = a; rw [Nat.mul_assoc a F z, Nat.mul_right_comm a (F * z) n']
  rw [r1, r3] at s1
  rw [r4, r5] at s2
  rw [Nat.add_mul, Nat.one_mul] at s3
  have hFF : 2 ^ 60 ≤ F * 2 ^ 60 := Nat.le_mul_of_pos_left _ hF0
  have hlt : X * (2 * (m' * n')) < Y * (2 * (m' * n')) := by
    generalize (2 * j' + 1) * n' * (F * 2 ^ 60) = A at s2 s3
    generalize (2 * k' + 1) * m' * (F * 2 ^ 60) = B at s1 s3
    generalize X * (2 * (m' * n')) = U at s1 ⊢
    generalize Y * (2 * (m' * n')) = V at s2 ⊢
    generalize F * 2 ^ 60 = G at s3 hFF
    generalize m' * n' = M at s1 s2 s4
    omega
  exact Nat.lt_of_mul_lt_mul_right hlt
/-- A quantum's floats. -/
def gq (F : Nat) (l : List Int) (x : Nat × Nat) : CQ := (qb F (cnt l x.2) x.1, fd x.2)
theorem key_lt {F : Nat} {l : List Int} (hF0 : 0 < F) (hF : F ≤ 64) (hl : l.length ≤ 6) (hM : ∀ d, cnt l d ≤ F) {x y : Nat × Nat} (hx : x ∈ quanta l) (hy : y ∈ quanta l)
    (h : (2 * x.1 + 1) * cnt l y.2 < (2 * y.1 + 1) * cnt l x.2 ∨ ((2 * x.1 + 1) * cnt l y.2 = (2 * y.1 + 1) * cnt l x.2 ∧ x.2 < y.2)) : keyQ (gq F l x) < keyQ (gq F l y) := by
  obtain ⟨x1, x2⟩ := mem_quanta.1 hx
  obtain ⟨y1, y2⟩ := mem_quanta.1 hy
  obtain ⟨_, fx2, _⟩ := fd_ok (d := x.2) (by omega)
  obtain ⟨_, fy2, _⟩ := fd_ok (d := y.2) (by omega)
  have hx6 : x.2 < 6 := by omega
  have hy6 : y.2 < 6 := by omega
  unfold keyQ gq
  simp only
  rw [fx2, fy2]
  rcases h with h | ⟨h, hd⟩
  · have := qb_lt hF0 hF (hM _) x2 (hM _) y2 h
    generalize fx (qb F (cnt l x.2) x.1) = X at this ⊢
    generalize fx (qb F (cnt l y.2) y.1) = Y at this ⊢
    have h1 : (X + 1) * (8 * 2 ^ 60) ≤ Y * (8 * 2 ^ 60) := Nat.mul_le_mul_right _ this
    omega
  · rw [qb_eq hF (hM _) x2 (hM _) y2 h]
    omega
theorem key_le {F : Nat} {l : List Int} (hF0 : 0 < F) (hF : F ≤ 64) (hl : l.length ≤ 6) (hM : ∀ d, cnt l d ≤ F) {x y : Nat × Nat} (hx : x ∈ quanta l) (hy : y ∈ quanta l) (h : qle l x y = true) : keyQ (gq F l x) ≤ keyQ (gq F l y) := by
  rw [qle_iff] at h
  by_cases e : x.2 = y.2
  · rcases h with h | ⟨h, hd⟩
    · exact Nat.le_of_lt (key_lt hF0 hF hl hM hx hy (.inl h))
    · have hc := (mem_quanta.1 hx).2
      rw [e] at h
      have h0 := (mem_quanta.1 hy).2
      have := Nat.eq_of_mul_eq_mul_right (show 0 < cnt l y.2 by omega) h
      have : x = y := Prod.ext (by omega) e
      rw [this]; exact Nat.le_refl _
  · exact Nat.le_of_lt (key_lt hF0 hF hl hM hx hy (by omega))
/-- What is sorted by its floats is in the order of its fractions. -/
theorem sorted_eq {F : Nat} {l : List Int} (hF0 : 0 < F) (hF : F ≤ 64) (hl : l.length ≤ 6) (hM : ∀ d, cnt l d ≤ F) {ys : List CQ} (hp : ys.Perm ((quanta l).map (gq F l))) (hs : ys.Pairwise (fun a b => keyQ a ≤ keyQ b)) : ys = (qsort l).map (gq F l) := by
  have p2 : ((qsort l).map (gq F l)).Perm ((quanta l).map (gq F l)) := (qsort_perm l).map _
  have s2 : ((qsort l).map (gq F l)).Pairwise (fun a b => keyQ a ≤ keyQ b) := by
    rw [List.pairwise_map]
    refine (qsort_pairwise l).imp_of_mem ?_
    intro a b ha hb h
    exact key_le hF0 hF hl hM ((qsort_perm l).mem_iff.1 ha) ((qsort_perm l).mem_iff.1 hb) h
  refine List.Perm.eq_of_pairwise (le := fun a b => keyQ a ≤ keyQ b) ?_ hs s2 (hp.trans p2.symm)
  intro a b ha hb h1 h2
  obtain ⟨x, hx, rfl⟩ := List.mem_map.1 (hp.mem_iff.1 ha)
  obtain ⟨y, hy, rfl⟩ := List.mem_map.1 (p2.mem_iff.1 hb)
  by_cases c : qle l x y = true
  · by_cases c2 : qle l y x = true
    · have := (mem_quanta.1 hx).2
      rw [qle_anti (by omega) c c2]
    · exfalso
      have : (2 * x.1 + 1) * cnt l y.2 < (2 * y.1 + 1) * cnt l x.2 ∨ ((2 * x.1 + 1) * cnt l y.2 = (2 * y.1 + 1) * cnt l x.2 ∧ x.2 < y.2) := by
        rw [qle_iff] at c c2; omega
      have := key_lt hF0 hF hl hM hx hy this
      omega
  · exfalso
    have : (2 * y.1 + 1) * cnt l x.2 < (2 * x.1 + 1) * cnt l y.2 ∨ ((2 * y.1 + 1) * cnt l x.2 = (2 * x.1 + 1) * cnt l y.2 ∧ y.2 < x.2) := by
      rw [qle_iff] at c; omega
    have := key_lt hF0 hF hl hM hy hx this
    omega
end Go.Proofs.Ytjjbnmlhbbnhcaa
