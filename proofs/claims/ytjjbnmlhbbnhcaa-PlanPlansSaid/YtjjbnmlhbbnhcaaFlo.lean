/- Comparing quanta: walks of isNaN, Compare, Or, by. Conditions: none. -/
import Derived.Test.YtjjbnmlhbbnhcaaBaseC
import Derived.Laws.Cover2
import Derived.Laws.Cover3
import Derived.Laws.FloatArith
set_option linter.unusedVariables false
set_option linter.unusedSimpArgs false
namespace Go.Proofs.Ytjjbnmlhbbnhcaa
open Go.RowKit

theorem run_store_complex {P : Program} {w : World} {a : Addr} {m : Mode} (k : FloatKind) (x y : Nat) : (store a (.complex k x y) m).run P w = stored P w a (.complex k x y) m := run_store P w a _ m rfl

def fOrd (x y : Nat) : Option Ordering := FloatKind.f64.format.order x y
def ordI : Ordering → Int
  | .lt => -1
  | .eq => 0
  | .gt => 1

set_option maxRecDepth 100000 in
theorem f_nan (w : World) (x : Nat) (hx : fOrd x x = some .eq) :
    Calls Try.prog 59 #[.float .f64 x] w fun e w' => e = .returned (.bool false) ∧ w = w' := by
  have e1 : (FloatKind.f64.format.order x x != some .eq) = false := by rw [show FloatKind.f64.format.order x x = some .eq from hx]; rfl
  go_enter Try.func59, Try.ntmps59
  go_wp2
  go_ret
  exact ⟨rfl, rfl⟩

set_option maxRecDepth 100000 in
theorem f_cmp (w : World) (x y : Nat) (o : Ordering) (hx : fOrd x x = some .eq) (hy : fOrd y y = some .eq) (ho : fOrd x y = some o) :
    Calls Try.prog 54 #[.float .f64 x, .float .f64 y] w fun e w' => e = .returned (.int .i64 (ordI o)) ∧ w = w' := by
  have e1 : (FloatKind.f64.format.order x y == some .lt) = (o == .lt) := by rw [show FloatKind.f64.format.order x y = some o from ho]; cases o <;> rfl
  have e2 : (FloatKind.f64.format.order x y == some .gt) = (o == .gt) := by rw [show FloatKind.f64.format.order x y = some o from ho]; cases o <;> rfl
  have HX := Lib.hid hx
  have HY := Lib.hid hy
  clear hx hy ho
  cases o <;> (
    simp only [show (Ordering.lt == Ordering.lt) = true from rfl, show (Ordering.eq == Ordering.lt) = false from rfl, show (Ordering.gt == Ordering.lt) = false from rfl, show (Ordering.lt == Ordering.gt) = false from rfl, show (Ordering.eq == Ordering.gt) = false from rfl, show (Ordering.gt == Ordering.gt) = true from rfl] at e1 e2
    go_enter Try.func54, Try.ntmps54
    go_wp2_with (first
      | (refine (f_nan _ x HX.out).mono ?_; rintro e w' ⟨rfl, rfl⟩)
      | (refine (f_nan _ y HY.out).mono ?_; rintro e w' ⟨rfl, rfl⟩))
    go_ret
    exact ⟨rfl, rfl⟩)

set_option maxHeartbeats 1000000 in
set_option maxRecDepth 100000 in
theorem f_or (w : World) (b : Nat) (x y : Int) (h0 : w.cell? ⟨b, 0, none⟩ = some (.int .i64 x)) (h1 : w.cell? ⟨b, 1, none⟩ = some (.int .i64 y)) :
    Calls Try.prog 53 #[.slice (some ⟨b, 0, none⟩) 2 2] w fun e w' => e = .returned (.int .i64 (if x = 0 then y else x)) ∧ w = w' := by
  go_enter Try.func53, Try.ntmps53
  go_wp2
  go_loop [8] (fun i => ∃ k : Nat, k ≤ 2 ∧ i = .int .i64 k ∧ (1 ≤ k → x = 0) ∧ (2 ≤ k → y = 0)) (fun i => 2 - (intOf i).toNat)
  case atStart => exact ⟨0, by omega, rfl, by omega, by omega⟩
  case round =>
    obtain ⟨k, hk, rfl, hx, hy⟩ := hrel
    have hk3 : k = 0 ∨ k = 1 ∨ k = 2 := by omega
    rcases hk3 with rfl | rfl | rfl
    · by_cases hx0 : x = 0
      · subst hx0
        go_wp2
        go_round
        case rel => exact ⟨1, by omega, rfl, by simp, by omega⟩
        case measure => simp [intOf]
      · have e : (x != 0) = true := by simpa using hx0
        go_wp2
        go_ret
        exact ⟨by first | rfl | (rw [if_neg hx0]; rfl), rfl⟩
    · have hx0 := hx (by omega)
      subst hx0
      by_cases hy0 : y = 0
      · subst hy0
        go_wp2
        go_round
        case rel => exact ⟨2, by omega, rfl, by simp, by simp⟩
        case measure => simp [intOf]
      · have e : (y != 0) = true := by simpa using hy0
        go_wp2
        go_ret
        exact ⟨by first | rfl | (rw [if_pos rfl]; rfl), rfl⟩
    · have hx0 := hx (by omega)
      have hy0 := hy (by omega)
      subst hx0 hy0
      go_wp2
      go_ret
      exact ⟨rfl, rfl⟩

set_option maxHeartbeats 1000000 in
set_option maxRecDepth 100000 in
theorem f_by (w : World) (x y x' y' : Nat) (o o' : Ordering) (hx : fOrd x x = some .eq) (hy : fOrd y y = some .eq) (hx' : fOrd x' x' = some .eq) (hy' : fOrd y' y' = some .eq) (ho : fOrd x x' = some o) (ho' : fOrd y y' = some o') :
    Calls Try.prog 39 #[.complex .f64 x y, .complex .f64 x' y'] w fun e w' => e = .returned (.int .i64 (ordI (o.then o'))) ∧ Upd NoB w w' := by
  have H1 := Lib.hid (f_cmp w x x' o hx hx' ho)
  have H2 := Lib.hid (f_cmp w y y' o' hy hy' ho')
  clear hx hy hx' hy' ho ho'
  obtain ⟨r, hr⟩ : ∃ r, r = ordI o := ⟨_, rfl⟩
  obtain ⟨s, hs⟩ : ∃ s, s = ordI o' := ⟨_, rfl⟩
  have hrs : ordI (o.then o') = if r = 0 then s else r := by subst hr hs; cases o <;> cases o' <;> rfl
  rw [hrs]
  rw [← hr] at H1
  rw [← hs] at H2
  clear hr hs hrs
  go_enter Try.func39, Try.ntmps39
  go_wp2_with (first
    | (refine H1.out.mono ?_; rintro e w' ⟨rfl, rfl⟩; clear H1)
    | (refine H2.out.mono ?_; rintro e w' ⟨rfl, rfl⟩; clear H2)
    | (refine (f_or _ w.heap.size r s (by go_simp) (by go_simp)).mono ?_; rintro e w' ⟨rfl, rfl⟩))
  all_goals (go_ret; exact ⟨rfl, Upd.alloc _ _ _⟩)
end Go.Proofs.Ytjjbnmlhbbnhcaa
