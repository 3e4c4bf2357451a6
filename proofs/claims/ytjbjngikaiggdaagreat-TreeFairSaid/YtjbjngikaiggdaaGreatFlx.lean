/- Whole numbers below 2^53 as floats: exact, in their order, back again; sums and products. Conditions: none. -/
import Derived.Laws.FloatArith
import Ieee.Arith
set_option linter.unusedVariables false
set_option linter.unusedSimpArgs false
namespace Go.Proofs.YtjbjngikaiggdaaGreat
open Ieee

/-- The float of a whole number. -/
def fi (n : Int) : Nat := FloatKind.f64.nearest n
theorem fi_eq (n : Int) : fi n = floatOfInt .f64 n := rfl
theorem leastPlace_eq : double.leastPlace = -1074 := by decide
theorem binade_eq : double.binade = 2 ^ 52 := rfl
theorem signWeight_eq : double.signWeight = 2 ^ 63 := rfl
theorem infRung_eq : double.infRung = 2047 * 2 ^ 52 := rfl

theorem e52 : (2 : Nat) ^ 52 = 4503599627370496 := rfl
theorem e53 : (2 : Nat) ^ 53 = 9007199254740992 := rfl
theorem e63 : (2 : Nat) ^ 63 = 9223372036854775808 := rfl
/-- The rung of a number below 2^53. -/
theorem cut_whole (s : Bool) (n d : Nat) (hn : 0 < n) : Toward.even.cut s (n * 2 ^ d) d = n := by
  have hl : d ≤ (n * 2 ^ d).log2 := by
    rw [Nat.le_log2 (Nat.ne_of_gt (Nat.mul_pos hn (Nat.two_pow_pos d)))]
    exact Nat.le_mul_of_pos_left _ hn
  unfold Toward.cut
  rw [Nat.min_eq_left (by omega), Nat.one_shiftLeft]
  simp only [Nat.mul_div_cancel _ (Nat.two_pow_pos d), Nat.mul_mod_left, Nat.mul_zero]
  have h1 : decide (2 ^ d < 0) = false := decide_eq_false (Nat.not_lt_zero _)
  have h2 : ((2 ^ d : Nat) == 0) = false := by
    have := Nat.two_pow_pos d
    simp only [beq_eq_false_iff_ne]; omega
  rw [h1, h2]; simp
theorem cut_none (s : Bool) (n : Nat) : Toward.even.cut s n 0 = n := by
  unfold Toward.cut
  simp [Nat.mod_one]
/-- A number below 2^53, told at any place not above 0: its word. -/
theorem nearest_at (s : Bool) (m e : Nat) (hm : 0 < m) (hb : m < 2 ^ 53) (he : e ≤ 1000) :
    double.nearest s (m * 2 ^ e) (-(e : Int)) = double.word s ((m.log2 + 1022) * 2 ^ 52 + m * 2 ^ (52 - m.log2)) := by
  have hlg : m.log2 < 53 := (Nat.log2_lt (by omega)).2 hb
  have hle : (m * 2 ^ e).log2 = m.log2 + e := by
    refine (Nat.log2_eq_iff (Nat.ne_of_gt (Nat.mul_pos hm (Nat.two_pow_pos e)))).2 ⟨?_, ?_⟩
    · rw [Nat.pow_add]; exact Nat.mul_le_mul_right _ (Nat.log2_self_le (by omega))
    · rw [show m.log2 + e + 1 = (m.log2 + 1) + e by omega, Nat.pow_add]
      exact Nat.mul_lt_mul_of_pos_right Nat.lt_log2_self (Nat.two_pow_pos e)
  unfold Format.nearest
  rw [if_neg (Nat.ne_of_gt (Nat.mul_pos hm (Nat.two_pow_pos e))), hle, leastPlace_eq, binade_eq, infRung_eq]
  have hfb : double.fractionBits = 52 := rfl
  rw [hfb]
  have hlast : max (-(e : Int) + ((m.log2 + e : Nat) : Int) - ((52 : Nat) : Int)) (-1074) = (m.log2 : Int) - 52 := by omega
  simp only [hlast]
  have hkept : Toward.even.cut s ((m * 2 ^ e) <<< (-(e : Int) - ((m.log2 : Int) - 52)).toNat) ((m.log2 : Int) - 52 - -(e : Int)).toNat = m * 2 ^ (52 - m.log2) := by
    by_cases c : e ≤ 52 - m.log2
    · rw [show ((m.log2 : Int) - 52 - -(e : Int)).toNat = 0 by omega, show (-(e : Int) - ((m.log2 : Int) - 52)).toNat = 52 - m.log2 - e by omega, cut_none, Nat.shiftLeft_eq, Nat.mul_assoc, ← Nat.pow_add]
      congr 2; omega
    · rw [show (-(e : Int) - ((m.log2 : Int) - 52)).toNat = 0 by omega, Nat.shiftLeft_zero, show ((m.log2 : Int) - 52 - -(e : Int)).toNat = e - (52 - m.log2) by omega]
      have : m * 2 ^ e = m * 2 ^ (52 - m.log2) * 2 ^ (e - (52 - m.log2)) := by
        rw [Nat.mul_assoc, ← Nat.pow_add]; congr 2; omega
      rw [this]
      exact cut_whole s _ _ (Nat.mul_pos hm (Nat.two_pow_pos _))
  rw [hkept, show ((m.log2 : Int) - 52 - -1074).toNat = m.log2 + 1022 by omega]
  have hup : m * 2 ^ (52 - m.log2) < 2 ^ 53 := by
    have h1 : m < 2 ^ (m.log2 + 1) := Nat.lt_log2_self
    have h2 : m * 2 ^ (52 - m.log2) < 2 ^ (m.log2 + 1) * 2 ^ (52 - m.log2) := Nat.mul_lt_mul_of_pos_right h1 (Nat.two_pow_pos _)
    rw [← Nat.pow_add, show m.log2 + 1 + (52 - m.log2) = 53 by omega] at h2
    exact h2
  rw [Nat.min_eq_left]
  have : (m.log2 + 1022) * 2 ^ 52 ≤ 1074 * 2 ^ 52 := Nat.mul_le_mul_right _ (by omega)
  generalize m * 2 ^ (52 - m.log2) = X at hup ⊢
  generalize m.log2 = L at hlg ⊢
  clear hlast hkept hle hfb this
  rw [e52]
  rw [e53] at hup
  omega
/-- What such a word is read as. -/
theorem read_word (s : Bool) (m : Nat) (hm : 0 < m) (hb : m < 2 ^ 53) :
    double.read (double.word s ((m.log2 + 1022) * 2 ^ 52 + m * 2 ^ (52 - m.log2))) = .number s (m * 2 ^ (52 - m.log2)) (-((52 - m.log2 : Nat) : Int)) := by
  have hlg : m.log2 < 53 := (Nat.log2_lt (by omega)).2 hb
  have hlo : 2 ^ 52 ≤ m * 2 ^ (52 - m.log2) := by
    have h1 : 2 ^ m.log2 ≤ m := Nat.log2_self_le (by omega)
    have h2 : 2 ^ m.log2 * 2 ^ (52 - m.log2) ≤ m * 2 ^ (52 - m.log2) := Nat.mul_le_mul_right _ h1
    rw [← Nat.pow_add, show m.log2 + (52 - m.log2) = 52 by omega] at h2
    exact h2
  have hup : m * 2 ^ (52 - m.log2) < 2 ^ 53 := by
    have h1 : m < 2 ^ (m.log2 + 1) := Nat.lt_log2_self
    have h2 : m * 2 ^ (52 - m.log2) < 2 ^ (m.log2 + 1) * 2 ^ (52 - m.log2) := Nat.mul_lt_mul_of_pos_right h1 (Nat.two_pow_pos _)
    rw [← Nat.pow_add, show m.log2 + 1 + (52 - m.log2) = 53 by omega] at h2
    exact h2
  obtain ⟨M, hM⟩ : ∃ M, M = m * 2 ^ (52 - m.log2) := ⟨_, rfl⟩
  rw [← hM] at hlo hup ⊢
  obtain ⟨L, hL⟩ : ∃ L, L = m.log2 := ⟨_, rfl⟩
  rw [← hL] at hlg ⊢
  rw [e52] at hlo ⊢
  rw [e53] at hup
  clear hM hL hb hm
  have hr : (L + 1022) * 4503599627370496 + M < 9223372036854775808 := by omega
  have hmod : double.word s ((L + 1022) * 4503599627370496 + M) % 9223372036854775808 = (L + 1022) * 4503599627370496 + M := by
    unfold Format.word
    rw [signWeight_eq, e63]
    split <;> omega
  have hdiv : (double.word s ((L + 1022) * 4503599627370496 + M) / 9223372036854775808 % 2 == 1) = s := by
    unfold Format.word
    rw [signWeight_eq, e63]
    cases s
    · simp only [Bool.false_eq_true, if_false]
      rw [Nat.div_eq_of_lt hr]; rfl
    · simp only [if_true]
      have : (9223372036854775808 + ((L + 1022) * 4503599627370496 + M)) / 9223372036854775808 = 1 := by omega
      rw [this]; rfl
  unfold Format.read
  rw [signWeight_eq, e63, hmod, hdiv, binade_eq, infRung_eq, leastPlace_eq, e52]
  have hb1 : ¬ ((L + 1022) * 4503599627370496 + M < 4503599627370496) := by omega
  have hb2 : (L + 1022) * 4503599627370496 + M < 2047 * 4503599627370496 := by omega
  simp only [if_neg hb1, if_pos hb2]
  have hd : ((L + 1022) * 4503599627370496 + M) / 4503599627370496 = L + 1023 := by omega
  have hm2 : 4503599627370496 + ((L + 1022) * 4503599627370496 + M) % 4503599627370496 = M := by omega
  rw [hd, hm2]
  have hpl : (-1074 : Int) + ((L + 1023 - 1 : Nat) : Int) = -((52 - L : Nat) : Int) := by clear hd hm2 hb1 hb2 hmod hdiv hr hlo hup; omega
  rw [hpl]
theorem fi_word (n : Int) (h0 : n ≠ 0) (hb : n.natAbs < 2 ^ 53) : fi n = double.word (decide (n < 0)) ((n.natAbs.log2 + 1022) * 2 ^ 52 + n.natAbs * 2 ^ (52 - n.natAbs.log2)) := by
  have := nearest_at (decide (n < 0)) n.natAbs 0 (by omega) hb (by omega)
  rw [Nat.pow_zero, Nat.mul_one] at this
  exact this
theorem fi_zero : fi 0 = 0 := by decide
theorem read_zero : double.read 0 = .number false 0 (-1074) := by decide
/-- Each whole number is read back: so many halvings of so many doublings. -/
theorem fi_read (n : Int) (hb : n.natAbs < 2 ^ 53) : ∃ e : Nat, e ≤ 1074 ∧ double.read (fi n) = .number (decide (n < 0)) (n.natAbs * 2 ^ e) (-(e : Int)) ∧ (n ≠ 0 → e ≤ 52) := by
  by_cases h0 : n = 0
  · subst h0
    obtain ⟨e, he⟩ : ∃ e : Nat, e = 1074 := ⟨_, rfl⟩
    exact ⟨e, by omega, by rw [fi_zero, read_zero, Int.natAbs_zero, Nat.zero_mul, he]; rfl, fun h => absurd rfl h⟩
  · exact ⟨52 - n.natAbs.log2, by omega, by rw [fi_word n h0 hb]; exact read_word _ _ (by omega) hb, fun _ => by omega⟩
theorem signed_up (n : Int) (e k : Nat) : signed (decide (n < 0)) (n.natAbs * 2 ^ e) k = n * 2 ^ (e + k) := by
  unfold signed
  rw [Nat.shiftLeft_eq, Nat.mul_assoc, ← Nat.pow_add]
  have hp : ((n.natAbs * 2 ^ (e + k) : Nat) : Int) = (n.natAbs : Int) * 2 ^ (e + k) := by simp
  by_cases h : n < 0
  · rw [decide_eq_true h, if_pos rfl, hp, show (n.natAbs : Int) = -n by omega, Int.neg_mul, Int.neg_neg]
  · rw [decide_eq_false h, if_neg (by simp), hp, show (n.natAbs : Int) = n by omega]
theorem two_pow_pos' (e : Nat) : (0 : Int) < 2 ^ e := by
  have := Nat.two_pow_pos e
  have h : ((2 ^ e : Nat) : Int) = (2 : Int) ^ e := by simp
  omega
theorem cmp_scale (a b c : Int) (hc : 0 < c) : compare (a * c) (b * c) = compare a b := by
  show compareOfLessAndEq _ _ = compareOfLessAndEq _ _
  unfold compareOfLessAndEq
  by_cases h : a < b
  · rw [if_pos h, if_pos (Int.mul_lt_mul_of_pos_right h hc)]
  · by_cases h2 : a = b
    · subst h2; simp
    · have h3 : b < a := by omega
      have h4 := Int.mul_lt_mul_of_pos_right h3 hc
      rw [if_neg h, if_neg h2, if_neg (by omega), if_neg (by omega)]
theorem fi_order (a b : Int) (ha : a.natAbs < 2 ^ 53) (hb : b.natAbs < 2 ^ 53) : FloatKind.f64.format.order (fi a) (fi b) = some (compare a b) := by
  obtain ⟨e, _, he, _⟩ := fi_read a ha
  obtain ⟨d, _, hd, _⟩ := fi_read b hb
  show double.order _ _ = _
  unfold Format.order
  rw [he, hd]
  simp only [Datum.order, signed_up]
  rw [show e + (-(e : Int) - min (-(e : Int)) (-(d : Int))).toNat = max e d by omega, show d + (-(d : Int) - min (-(e : Int)) (-(d : Int))).toNat = max e d by omega, cmp_scale _ _ _ (two_pow_pos' _)]
theorem fi_int (n : Int) (hb : n.natAbs < 2 ^ 53) : floatToIntVal .f64 (fi n) .i64 = some n := by
  obtain ⟨e, _, he, _⟩ := fi_read n hb
  unfold floatToIntVal
  have hr : (FloatKind.f64.decode (fi n)) = .number (decide (n < 0)) (n.natAbs * 2 ^ e) (-(e : Int)) := he
  rw [hr]
  have hc : Toward.zero.cut (decide (n < 0)) ((n.natAbs * 2 ^ e) <<< (-(e : Int)).toNat) (- -(e : Int)).toNat = n.natAbs := by
    rw [show (-(e : Int)).toNat = 0 by omega, Nat.shiftLeft_zero, show (- -(e : Int)).toNat = e by omega]
    unfold Toward.cut
    by_cases h0 : n.natAbs = 0
    · rw [h0]; simp
    · have hl : e ≤ (n.natAbs * 2 ^ e).log2 := by
        rw [Nat.le_log2 (Nat.ne_of_gt (Nat.mul_pos (by omega) (Nat.two_pow_pos e)))]
        exact Nat.le_mul_of_pos_left _ (by omega)
      rw [Nat.min_eq_left (by omega), Nat.one_shiftLeft]
      simp [Nat.mul_div_cancel _ (Nat.two_pow_pos e)]
  have hi : (Datum.number (decide (n < 0)) (n.natAbs * 2 ^ e) (-(e : Int))).toInt .zero = some n := by
    unfold Datum.toInt Datum.integral
    simp only [hc]
    congr 1
    have := signed_up n 0 0
    simpa using this
  rw [hi]
  have h1 : IntKind.i64.min = -9223372036854775808 := rfl
  have h2 : IntKind.i64.max = 9223372036854775807 := rfl
  simp only [h1, h2]
  rw [if_pos (by omega)]
/-- A whole number told at a place: its word. -/
theorem write_scaled (n : Int) (e : Nat) (hb : n.natAbs < 2 ^ 53) (he : e ≤ 1000 ∨ n = 0) : double.write (.number (decide (n < 0)) (n.natAbs * 2 ^ e) (-(e : Int))) = fi n := by
  by_cases h0 : n = 0
  · subst h0
    show double.nearest _ _ _ = _
    unfold Format.nearest
    simp [fi_zero, Format.word]
  · rw [fi_word n h0 hb]
    exact nearest_at _ _ _ (by omega) hb (by omega)
theorem fi_add (a b : Int) (ha : a.natAbs < 2 ^ 53) (hb : b.natAbs < 2 ^ 53) (hs : (a + b).natAbs < 2 ^ 53) (h0 : a ≠ 0) (h1 : b ≠ 0) : double.add (fi a) (fi b) = some (fi (a + b)) := by
  obtain ⟨e, _, he, he2⟩ := fi_read a ha
  obtain ⟨d, _, hd, hd2⟩ := fi_read b hb
  have he3 := he2 h0
  have hd3 := hd2 h1
  unfold Format.add
  rw [he, hd]
  simp only [Datum.sum, signed_up, Option.map_some]
  rw [show e + (-(e : Int) - min (-(e : Int)) (-(d : Int))).toNat = max e d by omega, show d + (-(d : Int) - min (-(e : Int)) (-(d : Int))).toNat = max e d by omega, ← Int.add_mul, show min (-(e : Int)) (-(d : Int)) = -((max e d : Nat) : Int) by omega]
  congr 1
  have hp := two_pow_pos' (max e d)
  have hn : ((a + b) * 2 ^ max e d).natAbs = (a + b).natAbs * 2 ^ max e d := by
    rw [Int.natAbs_mul]; simp [Int.natAbs_pow]
  have hneg : (if (a + b) * 2 ^ max e d = 0 then (decide (a < 0) && decide (b < 0)) else decide ((a + b) * 2 ^ max e d < 0)) = decide (a + b < 0) := by
    by_cases c : a + b = 0
    · rw [c, Int.zero_mul, if_pos rfl]
      by_cases ca : a < 0
      · simp [show ¬ b < 0 by omega]
      · simp [ca]
    · rw [if_neg (by intro h; rcases Int.mul_eq_zero.1 h with h | h <;> omega)]
      by_cases c2 : a + b < 0
      · rw [decide_eq_true c2, decide_eq_true (Int.mul_neg_of_neg_of_pos c2 hp)]
      · rw [decide_eq_false c2, decide_eq_false (by have := Int.mul_pos (show 0 < a + b by omega) hp; omega)]
  rw [hn, hneg]
  exact write_scaled (a + b) _ hs (.inl (by omega))
theorem fi_mul (a b : Int) (ha : a.natAbs < 2 ^ 53) (hb : b.natAbs < 2 ^ 53) (hs : (a * b).natAbs < 2 ^ 53) (h0 : 0 < a) (h1 : 0 < b) : double.mul (fi a) (fi b) = some (fi (a * b)) := by
  obtain ⟨e, _, he, he2⟩ := fi_read a ha
  obtain ⟨d, _, hd, hd2⟩ := fi_read b hb
  have he3 := he2 (by omega)
  have hd3 := hd2 (by omega)
  unfold Format.mul
  rw [he, hd]
  simp only [Datum.product, Option.map_some]
  congr 1
  have hpos := Int.mul_pos h0 h1
  rw [decide_eq_false (show ¬ a < 0 by omega), decide_eq_false (show ¬ b < 0 by omega)]
  have e1 : a.natAbs * 2 ^ e * (b.natAbs * 2 ^ d) = (a * b).natAbs * 2 ^ (e + d) := by
    rw [Int.natAbs_mul, Nat.pow_add, Nat.mul_assoc, Nat.mul_left_comm (2 ^ e), ← Nat.mul_assoc]
  have e2 : -(e : Int) + -(d : Int) = -((e + d : Nat) : Int) := by omega
  rw [e1, e2]
  have := write_scaled (a * b) (e + d) hs (.inl (by omega))
  rw [decide_eq_false (show ¬ a * b < 0 by omega)] at this
  exact this
end Go.Proofs.YtjbjngikaiggdaaGreat
