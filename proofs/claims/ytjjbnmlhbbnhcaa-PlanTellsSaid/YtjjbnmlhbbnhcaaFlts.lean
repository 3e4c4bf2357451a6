/- Quotients' floats in the order of the quotients. Conditions: none. -/
import Ieee.Arith
import Derived.Test.YtjjbnmlhbbnhcaaFlo
import Derived.Test.YtjjbnmlhbbnhcaaSort
/- The floats of quotients, reckoned step by step. Conditions: none. -/
set_option linter.unusedVariables false
set_option linter.unusedSimpArgs false
namespace Go.Proofs.Ytjjbnmlhbbnhcaa
open Ieee
def frc {α : Type} (n : Nat) (f : Nat → α) : α := match n with | 0 => f 0 | k + 1 => f (k + 1)
theorem frc_eq {α : Type} (n : Nat) (f : Nat → α) : frc n f = f n := by cases n <;> rfl
def frcI {α : Type} (n : Int) (f : Int → α) : α := match n with | .ofNat k => frc k fun k => f (.ofNat k) | .negSucc k => frc k fun k => f (.negSucc k)
theorem frcI_eq {α : Type} (n : Int) (f : Int → α) : frcI n f = f n := by cases n <;> simp [frcI, frc_eq]
def cutF (n drop : Nat) : Nat := frc (1 <<< min drop (n.log2 + 2)) fun gap => frc (n / gap) fun low => frc (n % gap) fun rest => low + (gap < 2 * rest || (gap == 2 * rest && low % 2 == 1) : Bool).toNat
theorem cutF_eq (s : Bool) (n drop : Nat) : Toward.even.cut s n drop = cutF n drop := by simp [cutF, frc_eq, Toward.cut]
def nearF (mag : Nat) (place : Int) : Nat :=
  if mag = 0 then double.word false 0 else
  frc mag.log2 fun lg => frcI (max (place + lg - double.fractionBits) double.leastPlace) fun last =>
  frc (cutF (mag <<< (place - last).toNat) (last - place).toNat) fun kept =>
  double.word false (min ((last - double.leastPlace).toNat * double.binade + kept) double.infRung)
theorem nearF_eq (mag : Nat) (place : Int) : double.nearest false mag place = nearF mag place := by
  simp only [nearF, frc_eq, frcI_eq, Format.nearest, cutF_eq]
def quoF (m : Nat) (i : Int) (n : Nat) (j : Int) : Nat :=
  frc (54 + n.log2 - m.log2) fun more => frc (m <<< more) fun dv => frc (2 * (dv / n) + (dv % n != 0).toNat) fun Q => frcI (i - j - more - 1) fun p => nearF Q p
def readF {α : Type} (w : Nat) (f : Nat → Int → α) (z : α) : α :=
  frc (w % double.signWeight) fun rung =>
  if w / double.signWeight % 2 == 1 then z else
  if rung < double.binade then f rung double.leastPlace
  else if rung < double.infRung then frc (double.binade + rung % double.binade) fun m => frcI (double.leastPlace + (rung / double.binade - 1 : Nat)) fun p => f m p
  else z
def qbF (N D : Nat) : Nat := frc (nearF N 0) fun x => frc (nearF D 0) fun y => readF x (fun m i => readF y (fun n j => if n = 0 then 0 else quoF m i n j) 0) 0
theorem readF_eq {α : Type} (w : Nat) (f : Nat → Int → α) (z : α) : readF w f z = match double.read w with | .number false m p => f m p | _ => z := by
  simp only [readF, frc_eq, frcI_eq, Format.read]
  cases hb : (w / double.signWeight % 2 == 1)
  · by_cases h1 : w % double.signWeight < double.binade
    · simp [h1]
    · by_cases h2 : w % double.signWeight < double.infRung
      · simp [h1, h2]
      · by_cases h3 : w % double.signWeight = double.infRung
        · rw [h3] at h1 h2 ⊢
          simp [h1]
        · simp [h1, h2, h3]
  · by_cases h1 : w % double.signWeight < double.binade
    · simp [h1]
    · by_cases h2 : w % double.signWeight < double.infRung
      · simp [h1, h2]
      · by_cases h3 : w % double.signWeight = double.infRung
        · rw [h3] at h1 h2 ⊢
          simp [h1]
        · simp [h1, h2, h3]
theorem quoF_eq (m : Nat) (i : Int) (n : Nat) (j : Int) (hn : n ≠ 0) : ((Datum.number false m i).quotient (double.fractionBits + 2) (Datum.number false n j)).map double.write = some (quoF m i n j) := by
  simp only [quoF, frc_eq, frcI_eq, Datum.quotient, if_neg hn, Option.map_some, Format.write, Bool.false_bne, Bool.xor_false, nearF_eq]
  rfl
theorem qbF_div {N D W : Nat} (h : qbF N D = W + 1) : double.div (double.nearest false N 0) (double.nearest false D 0) = some (W + 1) := by
  simp only [qbF, frc_eq, readF_eq] at h
  rw [nearF_eq, nearF_eq]
  unfold Format.div
  cases h1 : double.read (nearF N 0) with
  | number s m i =>
    rw [h1] at h
    cases s with
    | true => simp at h
    | false =>
      cases h2 : double.read (nearF D 0) with
      | number t n j =>
        rw [h2] at h
        cases t with
        | true => simp at h
        | false =>
          simp only at h
          by_cases hn : n = 0
          · rw [if_pos hn] at h; cases h
          · rw [if_neg hn] at h
            rw [quoF_eq m i n j hn, h]
      | infinity t => rw [h2] at h; simp at h
      | nan t f => rw [h2] at h; simp at h
  | infinity s => rw [h1] at h; simp at h
  | nan s f => rw [h1] at h; simp at h
end Go.Proofs.Ytjjbnmlhbbnhcaa
/- Where quanta want to be, in floats: how they lie to one another. Conditions: none. -/
namespace Go.Proofs.Ytjjbnmlhbbnhcaa

/-- The float of ((2k+1)*F)/(2n). -/
def qb (F n k : Nat) : Nat := qbF ((2 * k + 1) * F) (2 * n)
/-- A float's number, in units of 2^-60. -/
def fx (x : Nat) : Nat := match FloatKind.f64.decode x with | .number false m i => m * 2 ^ (i + 60).toNat | _ => 0
def fxOk (x : Nat) : Bool := match FloatKind.f64.decode x with | .number false m i => decide (m = 0) || decide (-60 ≤ i) | _ => false
def chk (n N W : Nat) : Bool := fxOk W && decide (fx W * (2 * n) ≤ N * 2 ^ 60 + 2 * n * 2 ^ 14) && decide (N * 2 ^ 60 ≤ fx W * (2 * n) + 2 * n * 2 ^ 14)
def qOk (F n k : Nat) : Bool :=
  match qb F n k with
  | 0 => false
  | W + 1 => if Nat.gcd (2 * k + 1) n = 1 then chk n ((2 * k + 1) * F) (W + 1) else Nat.beq (W + 1) (qb F (n / Nat.gcd (2 * k + 1) n) ((2 * k + 1) / Nat.gcd (2 * k + 1) n / 2))
def allF (F : Nat) : Bool := (List.range (F + 1)).all fun n => (List.range n).all fun k => qOk F n k



theorem cmp_mul (a b c : Nat) (hc : 0 < c) : compare (a * c) (b * c) = compare a b := by
  by_cases h : a < b
  · rw [Nat.compare_eq_lt.2 h, Nat.compare_eq_lt.2 (Nat.mul_lt_mul_of_pos_right h hc)]
  · by_cases h2 : a = b
    · subst h2; rw [Nat.compare_eq_eq.2 rfl, Nat.compare_eq_eq.2 rfl]
    · have h3 : b < a := by omega
      rw [Nat.compare_eq_gt.2 h3, Nat.compare_eq_gt.2 (Nat.mul_lt_mul_of_pos_right h3 hc)]
theorem cmp_cast (a b : Nat) : compare (a : Int) (b : Int) = compare a b := by
  show compareOfLessAndEq (a : Int) (b : Int) = compareOfLessAndEq a b
  unfold compareOfLessAndEq
  by_cases h : a < b
  · rw [if_pos h, if_pos (show (a : Int) < (b : Int) by omega)]
  · by_cases h2 : a = b
    · rw [if_neg h, if_pos h2, if_neg (show ¬ (a : Int) < (b : Int) by omega), if_pos (show (a : Int) = (b : Int) by omega)]
    · rw [if_neg h, if_neg h2, if_neg (show ¬ (a : Int) < (b : Int) by omega), if_neg (show ¬ (a : Int) = (b : Int) by omega)]
theorem fxOk_read {x : Nat} (h : fxOk x = true) : ∃ m i, FloatKind.f64.format.read x = .number false m i ∧ (m = 0 ∨ -60 ≤ i) ∧ fx x = m * 2 ^ (i + 60).toNat := by
  unfold fxOk at h
  unfold fx
  have e : FloatKind.f64.decode x = FloatKind.f64.format.read x := rfl
  rw [e] at h ⊢
  split at h
  · rename_i m i heq
    exact ⟨m, i, heq, by simpa using h, rfl⟩
  · cases h
theorem cmp_zl (n a b : Nat) : compare 0 (n * 2 ^ a) = compare 0 (n * 2 ^ b) := by
  by_cases h : n = 0
  · subst h; simp
  · rw [Nat.compare_eq_lt.2 (Nat.mul_pos (by omega) (Nat.two_pow_pos _)), Nat.compare_eq_lt.2 (Nat.mul_pos (by omega) (Nat.two_pow_pos _))]
theorem cmp_zr (n a b : Nat) : compare (n * 2 ^ a) 0 = compare (n * 2 ^ b) 0 := by
  by_cases h : n = 0
  · subst h; simp
  · rw [Nat.compare_eq_gt.2 (Nat.mul_pos (by omega) (Nat.two_pow_pos _)), Nat.compare_eq_gt.2 (Nat.mul_pos (by omega) (Nat.two_pow_pos _))]
theorem fOrd_fx {x y : Nat} (hx : fxOk x = true) (hy : fxOk y = true) : fOrd x y = some (compare (fx x) (fx y)) := by
  obtain ⟨m, i, e1, h1, f1⟩ := fxOk_read hx
  obtain ⟨n, j, e2, h2, f2⟩ := fxOk_read hy
  have key : ∀ (m : Nat) (i base : Int), base ≤ i → -60 ≤ base → m * 2 ^ (i + 60).toNat = (m <<< (i - base).toNat) * 2 ^ (base + 60).toNat := fun m i base g1 g2 => by
    rw [Nat.shiftLeft_eq, Nat.mul_assoc, ← Nat.pow_add]
    congr 2; omega
  unfold fOrd Ieee.Format.order
  rw [e1, e2]
  simp only [Ieee.Datum.order, Ieee.signed, Bool.false_eq_true, if_false]
  rw [cmp_cast, f1, f2]
  by_cases hm : m = 0
  · subst hm
    rw [Nat.zero_mul, Nat.shiftLeft_eq, Nat.shiftLeft_eq, Nat.zero_mul, cmp_zl _ _ (j + 60).toNat]
  · by_cases hn : n = 0
    · subst hn
      rw [Nat.zero_mul, Nat.shiftLeft_eq, Nat.shiftLeft_eq, Nat.zero_mul, cmp_zr _ _ (i + 60).toNat]
    · have h1' : -60 ≤ i := by rcases h1 with h | h; exact absurd h hm; exact h
      have h2' : -60 ≤ j := by rcases h2 with h | h; exact absurd h hn; exact h
      rw [key m i (min i j) (by omega) (by omega), key n j (min i j) (by omega) (by omega), cmp_mul _ _ _ (Nat.two_pow_pos _)]
theorem cmp_two (a b c d M : Nat) (hc : c < M) (hd : d < M) : (compare a b).then (compare c d) = compare (a * M + c) (b * M + d) := by
  by_cases h : a < b
  · rw [Nat.compare_eq_lt.2 h]
    have : (a + 1) * M ≤ b * M := Nat.mul_le_mul_right _ h
    rw [Nat.add_mul] at this
    exact (Nat.compare_eq_lt.2 (by omega)).symm
  · by_cases h2 : a = b
    · subst h2
      rw [Nat.compare_eq_eq.2 rfl]
      show compare c d = _
      by_cases h3 : c < d
      · rw [Nat.compare_eq_lt.2 h3, Nat.compare_eq_lt.2 (by omega)]
      · by_cases h4 : c = d
        · subst h4; rw [Nat.compare_eq_eq.2 rfl, Nat.compare_eq_eq.2 rfl]
        · rw [Nat.compare_eq_gt.2 (by omega), Nat.compare_eq_gt.2 (by omega)]
    · rw [Nat.compare_eq_gt.2 (by omega)]
      have : (b + 1) * M ≤ a * M := Nat.mul_le_mul_right _ (by omega)
      rw [Nat.add_mul] at this
      exact (Nat.compare_eq_gt.2 (by omega)).symm
end Go.Proofs.Ytjjbnmlhbbnhcaa
/- Quanta by their keys. Conditions: none. -/
set_option linter.unusedVariables false
set_option linter.unusedSimpArgs false
namespace Go.Proofs.Ytjjbnmlhbbnhcaa
open Go.RowKit

def SQ (q : CQ) : Prop := fxOk q.1 = true ∧ fxOk q.2 = true ∧ fx q.2 < 8 * 2 ^ 60
def keyQ (q : CQ) : Nat := fx q.1 * (8 * 2 ^ 60) + fx q.2
theorem fOrd_self {x : Nat} (h : fxOk x = true) : fOrd x x = some .eq := by
  rw [fOrd_fx h h, Nat.compare_eq_eq.2 rfl]
theorem cmp_ok : CmpOk SQ keyQ := by
  intro w q r hq hr
  have := f_by w q.1 q.2 r.1 r.2 _ _ (fOrd_self hq.1) (fOrd_self hq.2.1) (fOrd_self hr.1) (fOrd_self hr.2.1) (fOrd_fx hq.1 hr.1) (fOrd_fx hq.2.1 hr.2.1)
  rw [cmp_two _ _ _ _ _ hq.2.2 hr.2.2] at this
  exact this

/-- The float of a domain's number. -/
def fd (d : Nat) : Nat := FloatKind.f64.nearest (d : Int)
def fdB (d : Nat) : Bool := fxOk (fd d) && Nat.beq (fx (fd d)) (d * 2 ^ 60) && (match floatToIntVal .f64 (fd d) .i64 with | some n => decide (n = (d : Int)) | none => false)
theorem fdB_all : (List.range 6).all fdB = true := by decide +kernel
theorem fd_ok {d : Nat} (h : d < 6) : fxOk (fd d) = true ∧ fx (fd d) = d * 2 ^ 60 ∧ floatToIntVal .f64 (fd d) .i64 = some (d : Int) := by
  have h1 := List.all_eq_true.1 fdB_all d (List.mem_range.2 h)
  simp only [fdB, Bool.and_eq_true] at h1
  refine ⟨h1.1.1, Nat.eq_of_beq_eq_true h1.1.2, ?_⟩
  have h2 := h1.2
  split at h2
  · rename_i n heq
    rw [heq]; simp at h2; rw [h2]
  · cases h2
theorem qb_some {F n k : Nat} (h : qOk F n k = true) : floatBits .quo .f64 (FloatKind.f64.nearest (((2 * k + 1) * F : Nat) : Int)) (FloatKind.f64.nearest ((2 * n : Nat) : Int)) = some (qb F n k) := by
  unfold qOk at h
  split at h
  · cases h
  · rename_i W heq
    rw [heq]
    have h1 := qbF_div heq
    have e : ∀ m : Nat, FloatKind.f64.nearest (m : Int) = Ieee.double.nearest false m 0 := fun m => by
      have : decide ((m : Int) < 0) = false := decide_eq_false (by omega)
      simp only [FloatKind.nearest, FloatKind.encode, FloatKind.format, Ieee.Format.write, this, Int.natAbs_natCast]
    rw [e, e]
    exact h1
theorem allF_at {F n k : Nat} (h : allF F = true) (hn : n ≤ F) (hk : k < n) : qOk F n k = true := by
  unfold allF at h
  have h1 := List.all_eq_true.1 h n (List.mem_range.2 (by omega))
  exact List.all_eq_true.1 h1 k (List.mem_range.2 hk)
end Go.Proofs.Ytjjbnmlhbbnhcaa
/- Quotients' floats, checked, for all frames. Conditions: none. -/
namespace Go.Proofs.Ytjjbnmlhbbnhcaa
set_option maxRecDepth 1000000 in
theorem allFixA : (List.range' 0 40).all allF = true := by decide +kernel
set_option maxRecDepth 1000000 in
theorem allFixB : (List.range' 40 13).all allF = true := by decide +kernel
set_option maxRecDepth 1000000 in
theorem allFixC : (List.range' 53 12).all allF = true := by decide +kernel
theorem allF_le {F : Nat} (h : F ≤ 64) : allF F = true := by
  by_cases h1 : F < 40
  · exact List.all_eq_true.1 allFixA F (List.mem_range'_1.2 (by omega))
  · by_cases h2 : F < 53
    · exact List.all_eq_true.1 allFixB F (List.mem_range'_1.2 (by omega))
    · exact List.all_eq_true.1 allFixC F (List.mem_range'_1.2 (by omega))
theorem qOk_le {F n k : Nat} (h : F ≤ 64) (hn : n ≤ F) (hk : k < n) : qOk F n k = true := allF_at (allF_le h) hn hk
end Go.Proofs.Ytjjbnmlhbbnhcaa
