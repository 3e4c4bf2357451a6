/- Whole numbers as floats: comparisons, sums, conversions as operations. Conditions: none. -/
import Derived.Test.YtjbjngikaiggdaaGreatGa
import Derived.Test.YtjbjngikaiggdaaGreatFlx
set_option linter.unusedVariables false
namespace Go.Proofs.YtjbjngikaiggdaaGreat
open Go.RowKit G
theorem flt_gt {t t' : TypeId} {x y : Operand} {a b : Int} (ha : a.natAbs < 2 ^ 53) (hb : b.natAbs < 2 ^ 53) (w : World) : (do eqGuard .gtr t x y (.float .f64 (floatOfInt .f64 a)) (.float .f64 (floatOfInt .f64 b)); binOp .gtr t (.float .f64 (floatOfInt .f64 a)) (.float .f64 (floatOfInt .f64 b)) : Sem Value).run Tryz.prog w = .ok (.bool (decide (a > b))) w := by
  have h := fi_order a b ha hb
  rw [fi_eq, fi_eq] at h
  simp only [eqGuard, binOp, Op.floatCmp, h, Sem.run_bind]
  simp [compare, compareOfLessAndEq]
  by_cases h1 : a < b
  · have : ¬ b < a := by omega
    simp [h1, this]
  · by_cases h2 : a = b
    · simp [h2]
    · have : b < a := by omega
      simp [h1, h2, this]
theorem flt_add1 {t : TypeId} {x y : Operand} {a : Int} (ha : 0 ≤ a) (hb : a < 2 ^ 52) (w : World) : (do eqGuard .add t x y (.float .f64 (floatOfInt .f64 a)) (.float .f64 4607182418800017408); binOp .add t (.float .f64 (floatOfInt .f64 a)) (.float .f64 4607182418800017408) : Sem Value).run Tryz.prog w = .ok (.float .f64 (floatOfInt .f64 (a + 1))) w := by
  have h1 : (4607182418800017408 : Nat) = floatOfInt .f64 1 := by decide
  have h : Ieee.double.add (floatOfInt .f64 a) (floatOfInt .f64 1) = some (floatOfInt .f64 (a + 1)) := by
    by_cases h0 : a = 0
    · subst h0; decide +kernel
    · have := fi_add a 1 (by omega) (by decide) (by omega) h0 (by decide)
      simpa only [fi_eq] using this
  rw [h1]
  simp only [eqGuard, binOp, Op.floatArith, Sem.run_bind]
  show _ = _
  simp [FloatKind.format, h]
theorem cvt_int {a : Int} (ha : a.natAbs < 2 ^ 53) (w : World) : (convert 99 3 (.float .f64 (floatOfInt .f64 a))).run Tryz.prog w = .ok (.int .i64 a) w :=
  run_convert_float_int w 99 3 .f64 .i64 (floatOfInt .f64 a) a (by kernel_rfl) Tryz.underlying3 (by have := fi_int a ha; rwa [fi_eq] at this)
end Go.Proofs.YtjbjngikaiggdaaGreat
