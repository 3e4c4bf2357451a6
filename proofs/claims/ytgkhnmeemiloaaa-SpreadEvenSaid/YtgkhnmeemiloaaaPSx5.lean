-- Printed for this claim by myprint.py: Go functions as functions of lists and numbers, and that the Go code tells the same.
import Derived.Test.YtgkhnmeemiloaaaPSx0
import Derived.Test.YtgkhnmeemiloaaaPSx1
namespace Go.Proofs.Ytgkhnmeemiloaaa.PS
open Go.RowKit Go.Proofs.YtgkhnmeemiloaaaW.PrintWords Go.Proofs.YtgkhnmeemiloaaaW.PrintLast Go.Proofs.YtgkhnmeemiloaaaW.PrintMore
attribute [local go_sem] max2_int min2_int max_two min_two max_three min_three max_four min_four   -- for this text's walks alone
set_option linter.unusedVariables false
set_option linter.unusedSimpArgs false

/-! ### tontinelaw12_SpreadEven: function 9 -/
mutual
def tontinelaw12_SpreadEven.j0 : Nat → List Int → Bool → Option (Bool)
  | 0, _, _ => none
  | k + 1, x0, x20 => if x20 = true then (some true) else (tontinelaw12_SpreadEven.l0 k x0 ([] : List Int) 0 0)
def tontinelaw12_SpreadEven.l0 : Nat → List Int → List Int → Int → Int → Option (Bool)
  | 0, _, _, _, _ => none
  | k + 1, x0, x3, x4, x5 => if x5 < (x0.length : Int) then (if 0 ≤ x5 then (if x3.length < 17592186044416 then ((some (x3 ++ [wrap64 (Int.tmod (rd x0 x5) 12)] : List Int)).bind fun y176 => (if x5 < (y176.length : Int) then (tontinelaw12_SpreadEven.l0 k x0 y176 (wrap64 (x4 + (rd y176 x5))) (wrap64 (x5 + 1))) else (none))) else (none)) else (none)) else ((spread_Slots.f x3).bind fun t180 => (if x4 < 1 then (tontinelaw12_SpreadEven.j2 k x3 x4 t180 true) else (if x4 > 64 then (tontinelaw12_SpreadEven.j2 k x3 x4 t180 true) else (tontinelaw12_SpreadEven.j2 k x3 x4 t180 ((t180.length : Int) != x4)))))
def tontinelaw12_SpreadEven.j2 : Nat → List Int → Int → List Int → Bool → Option (Bool)
  | 0, _, _, _, _ => none
  | k + 1, x3, x4, x6, x55 => if x55 = true then (if x4 < 1 then (some true) else (some (decide (x4 > 64)))) else (if 0 ≤ (x3.length : Int) then (if ((x3.length : Int) : Int).toNat ≤ 35184372088832 then (tontinelaw12_SpreadEven.l1 k x3 x4 x6 (List.replicate ((x3.length : Int) : Int).toNat 0) 0) else (none)) else (none))
def tontinelaw12_SpreadEven.l1 : Nat → List Int → Int → List Int → List Int → Int → Option (Bool)
  | 0, _, _, _, _, _ => none
  | k + 1, x3, x4, x6, x7, x8 => if x8 < x4 then (if 0 ≤ x8 then (if x8 < (x6.length : Int) then (if (rd x6 x8) < 0 then (tontinelaw12_SpreadEven.j4 k x3 x4 x6 x7 x8 true) else (tontinelaw12_SpreadEven.j4 k x3 x4 x6 x7 x8 (decide ((rd x6 x8) ≥ (x3.length : Int))))) else (none)) else (none)) else (some true)
def tontinelaw12_SpreadEven.j4 : Nat → List Int → Int → List Int → List Int → Int → Bool → Option (Bool)
  | 0, _, _, _, _, _, _ => none
  | k + 1, x3, x4, x6, x7, x8, x83 => if x83 = true then (some false) else (if 0 ≤ x8 then (if x8 < (x6.length : Int) then (if 0 ≤ (rd x6 x8) then (if (rd x6 x8) < (x7.length : Int) then (tontinelaw12_SpreadEven.l2 k x3 x4 x6 (x7.set ((rd x6 x8) : Int).toNat (wrap64 ((rd x7 (rd x6 x8)) + 1))) x8 0) else (none)) else (none)) else (none)) else (none))
def tontinelaw12_SpreadEven.l2 : Nat → List Int → Int → List Int → List Int → Int → Int → Option (Bool)
  | 0, _, _, _, _, _, _ => none
  | k + 1, x3, x4, x6, x7, x8, x9 => if x9 < (x3.length : Int) then (if 0 ≤ x9 then (if x9 < (x7.length : Int) then (if (wrap64 ((wrap64 ((rd x7 x9) * x4)) - (wrap64 ((rd x3 x9) * (wrap64 (x8 + 1)))))) > (wrap64 ((x3.length : Int) * x4)) then (some false) else (if (wrap64 (-(wrap64 ((wrap64 ((rd x7 x9) * x4)) - (wrap64 ((rd x3 x9) * (wrap64 (x8 + 1)))))))) > (wrap64 ((x3.length : Int) * x4)) then (some false) else (tontinelaw12_SpreadEven.l2 k x3 x4 x6 x7 x8 (wrap64 (x9 + 1))))) else (none)) else (none)) else (tontinelaw12_SpreadEven.l1 k x3 x4 x6 x7 (wrap64 (x8 + 1)))
end
def tontinelaw12_SpreadEven.f (k : Nat) (l0 : List Int) : Option (Bool) := (tontinelaw12_known.f k).bind fun t174 => (if t174 = true then (if (l0.length : Int) < 1 then (tontinelaw12_SpreadEven.j0 k l0 true) else (tontinelaw12_SpreadEven.j0 k l0 (decide ((l0.length : Int) > 6)))) else (some false))
theorem tontinelaw12_SpreadEven.mono_l : ∀ k, (∀ y0 y1, LeO (tontinelaw12_SpreadEven.j0 k y0 y1) (tontinelaw12_SpreadEven.j0 (k + 1) y0 y1)) ∧ (∀ y0 y1 y2 y3, LeO (tontinelaw12_SpreadEven.l0 k y0 y1 y2 y3) (tontinelaw12_SpreadEven.l0 (k + 1) y0 y1 y2 y3)) ∧ (∀ y0 y1 y2 y3, LeO (tontinelaw12_SpreadEven.j2 k y0 y1 y2 y3) (tontinelaw12_SpreadEven.j2 (k + 1) y0 y1 y2 y3)) ∧ (∀ y0 y1 y2 y3 y4, LeO (tontinelaw12_SpreadEven.l1 k y0 y1 y2 y3 y4) (tontinelaw12_SpreadEven.l1 (k + 1) y0 y1 y2 y3 y4)) ∧ (∀ y0 y1 y2 y3 y4 y5, LeO (tontinelaw12_SpreadEven.j4 k y0 y1 y2 y3 y4 y5) (tontinelaw12_SpreadEven.j4 (k + 1) y0 y1 y2 y3 y4 y5)) ∧ (∀ y0 y1 y2 y3 y4 y5, LeO (tontinelaw12_SpreadEven.l2 k y0 y1 y2 y3 y4 y5) (tontinelaw12_SpreadEven.l2 (k + 1) y0 y1 y2 y3 y4 y5))
  | 0 => ⟨fun _ _ r h => by simp [tontinelaw12_SpreadEven.j0] at h, fun _ _ _ _ r h => by simp [tontinelaw12_SpreadEven.l0] at h, fun _ _ _ _ r h => by simp [tontinelaw12_SpreadEven.j2] at h, fun _ _ _ _ _ r h => by simp [tontinelaw12_SpreadEven.l1] at h, fun _ _ _ _ _ _ r h => by simp [tontinelaw12_SpreadEven.j4] at h, fun _ _ _ _ _ _ r h => by simp [tontinelaw12_SpreadEven.l2] at h⟩
  | k + 1 => by
    obtain ⟨ih0, ih1, ih2, ih3, ih4, ih5⟩ := tontinelaw12_SpreadEven.mono_l k
    refine ⟨?_, ?_, ?_, ?_, ?_, ?_⟩
    · intro y0 y1
      unfold tontinelaw12_SpreadEven.j0
      repeat' first
      | (with_reducible exact ih0 _ _)
      | (with_reducible exact ih1 _ _ _ _)
      | (with_reducible exact ih2 _ _ _ _)
      | (with_reducible exact ih3 _ _ _ _ _)
      | (with_reducible exact ih4 _ _ _ _ _ _)
      | (with_reducible exact ih5 _ _ _ _ _ _)
      | (with_reducible exact tontinelaw12_known.mono _)
      | (with_reducible exact LeO.refl _)
      | (with_reducible exact LeO.none _)
      | (with_reducible refine LeO.ite ?_ ?_)
      | (with_reducible refine LeO.bind ?_ (fun _ => ?_))
      | exact ih0 _ _
      | exact ih1 _ _ _ _
      | exact ih2 _ _ _ _
      | exact ih3 _ _ _ _ _
      | exact ih4 _ _ _ _ _ _
      | exact ih5 _ _ _ _ _ _
      | exact tontinelaw12_known.mono _
      | exact LeO.none _
      | refine LeO.ite ?_ ?_
      | refine LeO.bind ?_ (fun _ => ?_)
    · intro y0 y1 y2 y3
      unfold tontinelaw12_SpreadEven.l0
      repeat' first
      | (with_reducible exact ih0 _ _)
      | (with_reducible exact ih1 _ _ _ _)
      | (with_reducible exact ih2 _ _ _ _)
      | (with_reducible exact ih3 _ _ _ _ _)
      | (with_reducible exact ih4 _ _ _ _ _ _)
      | (with_reducible exact ih5 _ _ _ _ _ _)
      | (with_reducible exact tontinelaw12_known.mono _)
      | (with_reducible exact LeO.refl _)
      | (with_reducible exact LeO.none _)
      | (with_reducible refine LeO.ite ?_ ?_)
      | (with_reducible refine LeO.bind ?_ (fun _ => ?_))
      | exact ih0 _ _
      | exact ih1 _ _ _ _
      | exact ih2 _ _ _ _
      | exact ih3 _ _ _ _ _
      | exact ih4 _ _ _ _ _ _
      | exact ih5 _ _ _ _ _ _
      | exact tontinelaw12_known.mono _
      | exact LeO.none _
      | refine LeO.ite ?_ ?_
      | refine LeO.bind ?_ (fun _ => ?_)
    · intro y0 y1 y2 y3
      unfold tontinelaw12_SpreadEven.j2
      repeat' first
      | (with_reducible exact ih0 _ _)
      | (with_reducible exact ih1 _ _ _ _)
      | (with_reducible exact ih2 _ _ _ _)
      | (with_reducible exact ih3 _ _ _ _ _)
      | (with_reducible exact ih4 _ _ _ _ _ _)
      | (with_reducible exact ih5 _ _ _ _ _ _)
      | (with_reducible exact tontinelaw12_known.mono _)
      | (with_reducible exact LeO.refl _)
      | (with_reducible exact LeO.none _)
      | (with_reducible refine LeO.ite ?_ ?_)
      | (with_reducible refine LeO.bind ?_ (fun _ => ?_))
      | exact ih0 _ _
      | exact ih1 _ _ _ _
      | exact ih2 _ _ _ _
      | exact ih3 _ _ _ _ _
      | exact ih4 _ _ _ _ _ _
      | exact ih5 _ _ _ _ _ _
      | exact tontinelaw12_known.mono _
      | exact LeO.none _
      | refine LeO.ite ?_ ?_
      | refine LeO.bind ?_ (fun _ => ?_)
    · intro y0 y1 y2 y3 y4
      unfold tontinelaw12_SpreadEven.l1
      repeat' first
      | (with_reducible exact ih0 _ _)
      | (with_reducible exact ih1 _ _ _ _)
      | (with_reducible exact ih2 _ _ _ _)
      | (with_reducible exact ih3 _ _ _ _ _)
      | (with_reducible exact ih4 _ _ _ _ _ _)
      | (with_reducible exact ih5 _ _ _ _ _ _)
      | (with_reducible exact tontinelaw12_known.mono _)
      | (with_reducible exact LeO.refl _)
      | (with_reducible exact LeO.none _)
      | (with_reducible refine LeO.ite ?_ ?_)
      | (with_reducible refine LeO.bind ?_ (fun _ => ?_))
      | exact ih0 _ _
      | exact ih1 _ _ _ _
      | exact ih2 _ _ _ _
      | exact ih3 _ _ _ _ _
      | exact ih4 _ _ _ _ _ _
      | exact ih5 _ _ _ _ _ _
      | exact tontinelaw12_known.mono _
      | exact LeO.none _
      | refine LeO.ite ?_ ?_
      | refine LeO.bind ?_ (fun _ => ?_)
    · intro y0 y1 y2 y3 y4 y5
      unfold tontinelaw12_SpreadEven.j4
      repeat' first
      | (with_reducible exact ih0 _ _)
      | (with_reducible exact ih1 _ _ _ _)
      | (with_reducible exact ih2 _ _ _ _)
      | (with_reducible exact ih3 _ _ _ _ _)
      | (with_reducible exact ih4 _ _ _ _ _ _)
      | (with_reducible exact ih5 _ _ _ _ _ _)
      | (with_reducible exact tontinelaw12_known.mono _)
      | (with_reducible exact LeO.refl _)
      | (with_reducible exact LeO.none _)
      | (with_reducible refine LeO.ite ?_ ?_)
      | (with_reducible refine LeO.bind ?_ (fun _ => ?_))
      | exact ih0 _ _
      | exact ih1 _ _ _ _
      | exact ih2 _ _ _ _
      | exact ih3 _ _ _ _ _
      | exact ih4 _ _ _ _ _ _
      | exact ih5 _ _ _ _ _ _
      | exact tontinelaw12_known.mono _
      | exact LeO.none _
      | refine LeO.ite ?_ ?_
      | refine LeO.bind ?_ (fun _ => ?_)
    · intro y0 y1 y2 y3 y4 y5
      unfold tontinelaw12_SpreadEven.l2
      repeat' first
      | (with_reducible exact ih0 _ _)
      | (with_reducible exact ih1 _ _ _ _)
      | (with_reducible exact ih2 _ _ _ _)
      | (with_reducible exact ih3 _ _ _ _ _)
      | (with_reducible exact ih4 _ _ _ _ _ _)
      | (with_reducible exact ih5 _ _ _ _ _ _)
      | (with_reducible exact tontinelaw12_known.mono _)
      | (with_reducible exact LeO.refl _)
      | (with_reducible exact LeO.none _)
      | (with_reducible refine LeO.ite ?_ ?_)
      | (with_reducible refine LeO.bind ?_ (fun _ => ?_))
      | exact ih0 _ _
      | exact ih1 _ _ _ _
      | exact ih2 _ _ _ _
      | exact ih3 _ _ _ _ _
      | exact ih4 _ _ _ _ _ _
      | exact ih5 _ _ _ _ _ _
      | exact tontinelaw12_known.mono _
      | exact LeO.none _
      | refine LeO.ite ?_ ?_
      | refine LeO.bind ?_ (fun _ => ?_)
theorem tontinelaw12_SpreadEven.mono : ∀ a0 k, LeO (tontinelaw12_SpreadEven.f k a0) (tontinelaw12_SpreadEven.f (k + 1) a0) := by
  intro a0 k
  obtain ⟨ih0, ih1, ih2, ih3, ih4, ih5⟩ := tontinelaw12_SpreadEven.mono_l k
  unfold tontinelaw12_SpreadEven.f
  repeat' first
      | (with_reducible exact ih0 _ _)
      | (with_reducible exact ih1 _ _ _ _)
      | (with_reducible exact ih2 _ _ _ _)
      | (with_reducible exact ih3 _ _ _ _ _)
      | (with_reducible exact ih4 _ _ _ _ _ _)
      | (with_reducible exact ih5 _ _ _ _ _ _)
      | (with_reducible exact tontinelaw12_known.mono _)
      | (with_reducible exact LeO.refl _)
      | (with_reducible exact LeO.none _)
      | (with_reducible refine LeO.ite ?_ ?_)
      | (with_reducible refine LeO.bind ?_ (fun _ => ?_))
      | exact ih0 _ _
      | exact ih1 _ _ _ _
      | exact ih2 _ _ _ _
      | exact ih3 _ _ _ _ _
      | exact ih4 _ _ _ _ _ _
      | exact ih5 _ _ _ _ _ _
      | exact tontinelaw12_known.mono _
      | exact LeO.none _
      | refine LeO.ite ?_ ?_
      | refine LeO.bind ?_ (fun _ => ?_)
set_option maxHeartbeats 8000000 in
set_option maxRecDepth 100000 in
theorem tontinelaw12_SpreadEven.calls (k : Nat) (A0 : Option Addr) (c0 : Nat) (l0 : List Int) (r : Bool) (w : World) (hr0 : Kd.C (Kd.int .u8) w A0 l0.length l0) (hc0 : l0.length ≤ c0) (h : tontinelaw12_SpreadEven.f k l0 = some r) :
    Calls Try.prog 9 #[.slice A0 l0.length c0] w fun e w' => e = .returned (.bool r) ∧ Below w.heap.size w w' := by
  have HR0 := Aside0.mk hr0
  have HC0 := Aside0.mk hc0
  clear hr0 hc0
  have HB := Aside0.mk (Below.refl w.heap.size w)
  have H : ((tontinelaw12_known.f k).bind fun t174 => (if t174 = true then (if (l0.length : Int) < 1 then (tontinelaw12_SpreadEven.j0 k l0 true) else (tontinelaw12_SpreadEven.j0 k l0 (decide ((l0.length : Int) > 6)))) else (some false))) = some r := h
  clear h
  replace H := Option.bind_eq_some_iff.mp H
  obtain ⟨t174, A20, H⟩ := H
  replace H : (if t174 = true then (if (l0.length : Int) < 1 then (tontinelaw12_SpreadEven.j0 k l0 true) else (tontinelaw12_SpreadEven.j0 k l0 (decide ((l0.length : Int) > 6)))) else (some false)) = some r := H
  have A2 := Aside0.mk A20
  clear A20
  by_cases c3 : t174 = true
  · subst c3
    have H1 : (if (l0.length : Int) < 1 then (tontinelaw12_SpreadEven.j0 k l0 true) else (tontinelaw12_SpreadEven.j0 k l0 (decide ((l0.length : Int) > 6)))) = some r := by rw [if_pos rfl] at H; exact H
    clear H
    have H := H1
    clear H1
    have HC4 := Aside0.mk H
    clear H
    go_enter Try.func9, Try.ntmps9
    go_upto_region 3 with (first | (go_at_call 25; (with_reducible refine (tontinelaw12_known.calls k  true _ A2.out).mono ?_); rintro e w5 ⟨rfl, hb⟩; have n0_ := Aside0.mk (below_step (by repeat (first | (with_reducible first | exact HB.out | apply below_alloc | apply pw_below_drewN | apply below_drew1) | exact HB.out)) hb); clear HB; have HB := n0_; clear n0_; (try clear hb); (try clear hb2); (try clear hk); (try clear hi)))
    repeat (go_quiet (first | (go_at_call 25; (with_reducible refine (tontinelaw12_known.calls k  true _ A2.out).mono ?_); rintro e w5 ⟨rfl, hb⟩; have n0_ := Aside0.mk (below_step (by repeat (first | (with_reducible first | exact HB.out | apply below_alloc | apply pw_below_drewN | apply below_drew1) | exact HB.out)) hb); clear HB; have HB := n0_; clear n0_; (try clear hb); (try clear hb2); (try clear hk); (try clear hi))); go_upto_region 3 with (first | (go_at_call 25; (with_reducible refine (tontinelaw12_known.calls k  true _ A2.out).mono ?_); rintro e w5 ⟨rfl, hb⟩; have n0_ := Aside0.mk (below_step (by repeat (first | (with_reducible first | exact HB.out | apply below_alloc | apply pw_below_drewN | apply below_drew1) | exact HB.out)) hb); clear HB; have HB := n0_; clear n0_; (try clear hb); (try clear hb2); (try clear hk); (try clear hi))))
    (try simp only [Act.put, List.setIfInBounds_toArray, List.set_cons_zero, List.set_cons_succ])
    go_cut [20] (fun v20 wc => ∃ (kq : Nat) (x20_3 : Bool), v20 = .bool x20_3 ∧ Aside0 (tontinelaw12_SpreadEven.j0 kq l0 x20_3 = some r) ∧ Aside0 (kq ≤ k) ∧ Aside0 (Below w.heap.size w wc))
    case first =>
      have H := HC4.out
      clear HC4
      by_cases c6 : (l0.length : Int) < 1
      · rw [if_pos c6] at H
        have c6b0 : decide ((l0.length : Int) < 1) = true := decide_eq_true c6
        have c6b1 : decide (l0.length < 1) = true := decide_eq_true (by omega)
        clear c6
        (first | rw [c6b0] | (simp only [i64_w, i32_w]; rw [c6b0]) | skip)
        have H' := Aside0.mk H
        clear H
        go_wp2
        repeat (go_quiet (fail); try go_wp2)
        go_meet
        case rel => exact ⟨_, (true), (by first | rfl | (simp; done) | (simp [*]; done)), H', ⟨by first | omega | exact Nat.le_refl _⟩, ⟨by repeat (first | (with_reducible first | exact HB.out | apply below_alloc | apply pw_below_drewN | apply below_drew1) | exact HB.out)⟩⟩
      · rw [if_neg c6] at H
        have c6b0 : decide ((l0.length : Int) < 1) = false := decide_eq_false c6
        have c6b1 : decide (l0.length < 1) = false := decide_eq_false (by omega)
        clear c6
        (first | rw [c6b0] | (simp only [i64_w, i32_w]; rw [c6b0]) | skip)
        have H' := Aside0.mk H
        clear H
        go_wp2
        repeat (go_quiet (fail); try go_wp2)
        go_meet
        case rel => exact ⟨_, (decide ((l0.length : Int) > 6)), (by first | rfl | (simp; done) | (simp [*]; done)), H', ⟨by first | omega | exact Nat.le_refl _⟩, ⟨by repeat (first | (with_reducible first | exact HB.out | apply below_alloc | apply pw_below_drewN | apply below_drew1) | exact HB.out)⟩⟩
    case rest =>
      clear HC4
      try clear p2
      try clear c3
      try clear c6
      try clear c6b0
      try clear c6b1
      obtain ⟨kq, x20_3, rfl, HA, HJ3, HB⟩ := hcut
      cases kq with
      | zero => exact absurd HA.out (by simp [tontinelaw12_SpreadEven.j0])
      | succ kj3 =>
        have H := HA.out
        clear HA
        simp only [tontinelaw12_SpreadEven.j0] at H
        by_cases c7 : x20_3 = true
        · subst c7
          have H1 : (some true) = some r := by rw [if_pos rfl] at H; exact H
          clear H
          have H := H1
          clear H1
          obtain rfl := Option.some.inj H
          go_wp2
          repeat (go_quiet (fail); try go_wp2)
          go_ret
          exact ⟨by first | rfl | (simp [errW_none, errW_some] <;> rfl) | (simp [*, errW_none, errW_some] <;> rfl), by repeat (first | (with_reducible first | exact HB.out | apply below_alloc | apply pw_below_drewN | apply below_drew1) | exact HB.out)⟩
        · replace c7 := Bool.eq_false_iff.mpr c7
          subst c7
          have H1 : (tontinelaw12_SpreadEven.l0 kj3 l0 ([] : List Int) 0 0) = some r := by rw [if_neg (show ¬ (false = true) by decide)] at H; exact H
          clear H
          have H := H1
          clear H1
          have H' := Aside0.mk H
          clear H
          go_wp2
          repeat (go_quiet (fail); try go_wp2)
          go_loopg [3, 4, 5] kj3 (fun kq v3 v4 v5 w' => ∃ (x3_2 : List Int) (x4_2 : Int) (x5_2 : Int), v4 = .int .i64 x4_2 ∧ v5 = .int .i64 x5_2 ∧ Aside0 (tontinelaw12_SpreadEven.l0 kq l0 x3_2 x4_2 x5_2 = some r) ∧ Aside0 (kq ≤ kj3) ∧ Aside0 (Kd.R (Kd.int .i64) 3 w' w.heap.size (fun _ => True) v3 x3_2) ∧ Aside0 (Below w.heap.size w w'))
          case atStart => exact ⟨(([] : List Int)), (0), (0), (by first | rfl | (simp; done) | (simp [*]; done)), (by first | rfl | (simp; done) | (simp [*]; done)), H', ⟨Nat.le_refl _⟩, ⟨by first | exact Kd.R_nil _ _ _ _ _ | exact Kd.N_nil _ _ _ _ _ | exact Kd.V_nil _ _ _ _ _ | exact Kd.Q_nil _ _ _ _ _ | exact Kd.S_nil _ _ _ _ _⟩, ⟨by repeat (first | (with_reducible first | exact HB.out | apply below_alloc | apply pw_below_drewN | apply below_drew1) | exact HB.out)⟩⟩
          case round =>
            clear H'
            try clear p2
            try clear c3
            try clear c6
            try clear c6b0
            try clear c6b1
            try clear c7
            try clear p2
            obtain ⟨x3_2, x4_2, x5_2, rfl, rfl, HA, HK2, HO_3, HB⟩ := hrel
            cases gk with
            | zero => exact absurd HA.out (by simp [tontinelaw12_SpreadEven.l0])
            | succ k2 =>
              have H := HA.out
              clear HA
              simp only [tontinelaw12_SpreadEven.l0] at H
              by_cases c8 : x5_2 < (l0.length : Int)
              · rw [if_pos c8] at H
                have c8b0 : decide (x5_2 < (l0.length : Int)) = true := decide_eq_true c8
                clear c8
                by_cases c9 : 0 ≤ x5_2
                · rw [if_pos c9] at H
                  have c9b0 : decide (0 ≤ x5_2) = true := decide_eq_true c9
                  clear c9
                  by_cases c10 : x3_2.length < 17592186044416
                  · rw [if_pos c10] at H
                    have LMc10 := Aside0.mk c10
                    clear c10
                    obtain ⟨y176, hy176⟩ : ∃ y_ : List Int, y_ = (x3_2 ++ [wrap64 (Int.tmod (rd l0 x5_2) 12)]) := ⟨_, rfl⟩
                    replace H : (if x5_2 < (y176.length : Int) then (tontinelaw12_SpreadEven.l0 k2 l0 y176 (wrap64 (x4_2 + (rd y176 x5_2))) (wrap64 (x5_2 + 1))) else (none)) = some r := by first | (rw [hy176]; with_reducible exact H) | (have H2_ := (Option.bind_some _ _).symm.trans H; rw [hy176]; with_reducible exact H2_) | (have H2_ := (Option.bind_some _ _).symm.trans H; with_reducible exact H2_) | with_reducible exact H | (rw [hy176]; exact H) | exact H
                    have Ny176 := Aside0.mk hy176
                    clear hy176
                    by_cases c11 : x5_2 < (y176.length : Int)
                    · rw [if_pos c11] at H
                      have c11b0 : decide (x5_2 < (y176.length : Int)) = true := decide_eq_true c11
                      clear c11
                      have H' := Aside0.mk H
                      clear H
                      have p175 : 0 ≤ (x5_2 : Int) := of_decide_eq_true (by first | (with_reducible assumption) | assumption)
                      have q175 : x5_2 < (l0.length : Int) := of_decide_eq_true (by first | (with_reducible assumption) | assumption)
                      obtain ⟨ad175, e175, hx175_0⟩ := Kd.at_int HR0.out x5_2 p175 q175
                      cases e175
                      replace hx175_0 := (HB.out.cell (World.block_lt_of_cell? w _ hx175_0)).trans hx175_0
                      replace p175 := eq_true p175
                      replace q175 := eq_true q175
                      go_wp2_with (first | ((with_reducible refine gate_builtin (b := .append) (xs := #[.tmp 27, .tmp 34]) rfl ?_); (try (refine gate_guard (by rfl) ?_; dsimp only)); at_builtin; refine Kd.R_append (Kd.int .i64) (w0 := w) w.heap.size rfl (.tmp 27) (.tmp 34) 35 3 (.int .i64 0) 8 rfl Try.underlying35 info3 rfl (by decide) (by omega) u3 x3_2 (wrap64 (Int.tmod (rd l0 x5_2) 12)) [.int .i64 (wrap64 (Int.tmod (rd l0 x5_2) 12))] (fun _ => True) (fun _ => False) rfl rfl ?aP (fun _ hk => hk.elim) ?aF ?aO ?aB ?aS ?aL ?_; (case aP => exact rfl); (case aB => exact (by repeat (first | (with_reducible first | exact HB.out | apply below_alloc | apply pw_below_drewN | apply below_drew1) | exact HB.out))); (case aF => exact (fun _ _ => trivial)); (case aO => exact (by (with_reducible repeat (first | apply Kd.R_alloc | apply Kd.R_drewN | apply Kd.R_drew)); exact HO_3.out)); (case aS => exact (below_size (by repeat (first | (with_reducible first | exact HB.out | apply below_alloc | apply pw_below_drewN | apply below_drew1) | exact HB.out)))); (case aL => have := LMc10.out; omega); intro v177 w12 ho hb hg hat; rw [← Ny176.out] at ho; have n0_ := Aside0.mk (hb); have n1_ := Aside0.mk (ho); clear HB; clear HO_3; have HB := n0_; have HO178 := n1_; clear n0_ n1_; clear ho hb hg hat; obtain ⟨Ao13, co13, eo13⟩ := Kd.R_slice HO178.out; subst eo13; have p179 : 0 ≤ (x5_2 : Int) := of_decide_eq_true (by first | (with_reducible assumption) | assumption); have q179 : x5_2 < (y176.length : Int) := of_decide_eq_true (by first | (with_reducible assumption) | assumption); obtain ⟨ad179, e179, hx179_0⟩ := Kd.at_int (Kd.R_reads' HO178.out).2.2 x5_2 p179 q179; cases e179; replace p179 := eq_true p179; replace q179 := eq_true q179))
                      repeat (go_quiet (first | ((with_reducible refine gate_builtin (b := .append) (xs := #[.tmp 27, .tmp 34]) rfl ?_); (try (refine gate_guard (by rfl) ?_; dsimp only)); at_builtin; refine Kd.R_append (Kd.int .i64) (w0 := w) w.heap.size rfl (.tmp 27) (.tmp 34) 35 3 (.int .i64 0) 8 rfl Try.underlying35 info3 rfl (by decide) (by omega) u3 x3_2 (wrap64 (Int.tmod (rd l0 x5_2) 12)) [.int .i64 (wrap64 (Int.tmod (rd l0 x5_2) 12))] (fun _ => True) (fun _ => False) rfl rfl ?aP (fun _ hk => hk.elim) ?aF ?aO ?aB ?aS ?aL ?_; (case aP => exact rfl); (case aB => exact (by repeat (first | (with_reducible first | exact HB.out | apply below_alloc | apply pw_below_drewN | apply below_drew1) | exact HB.out))); (case aF => exact (fun _ _ => trivial)); (case aO => exact (by (with_reducible repeat (first | apply Kd.R_alloc | apply Kd.R_drewN | apply Kd.R_drew)); exact HO_3.out)); (case aS => exact (below_size (by repeat (first | (with_reducible first | exact HB.out | apply below_alloc | apply pw_below_drewN | apply below_drew1) | exact HB.out)))); (case aL => have := LMc10.out; omega); intro v177 w12 ho hb hg hat; rw [← Ny176.out] at ho; have n0_ := Aside0.mk (hb); have n1_ := Aside0.mk (ho); clear HB; clear HO_3; have HB := n0_; have HO178 := n1_; clear n0_ n1_; clear ho hb hg hat; obtain ⟨Ao13, co13, eo13⟩ := Kd.R_slice HO178.out; subst eo13; have p179 : 0 ≤ (x5_2 : Int) := of_decide_eq_true (by first | (with_reducible assumption) | assumption); have q179 : x5_2 < (y176.length : Int) := of_decide_eq_true (by first | (with_reducible assumption) | assumption); obtain ⟨ad179, e179, hx179_0⟩ := Kd.at_int (Kd.R_reads' HO178.out).2.2 x5_2 p179 q179; cases e179; replace p179 := eq_true p179; replace q179 := eq_true q179)); try go_wp2_with (first | ((with_reducible refine gate_builtin (b := .append) (xs := #[.tmp 27, .tmp 34]) rfl ?_); (try (refine gate_guard (by rfl) ?_; dsimp only)); at_builtin; refine Kd.R_append (Kd.int .i64) (w0 := w) w.heap.size rfl (.tmp 27) (.tmp 34) 35 3 (.int .i64 0) 8 rfl Try.underlying35 info3 rfl (by decide) (by omega) u3 x3_2 (wrap64 (Int.tmod (rd l0 x5_2) 12)) [.int .i64 (wrap64 (Int.tmod (rd l0 x5_2) 12))] (fun _ => True) (fun _ => False) rfl rfl ?aP (fun _ hk => hk.elim) ?aF ?aO ?aB ?aS ?aL ?_; (case aP => exact rfl); (case aB => exact (by repeat (first | (with_reducible first | exact HB.out | apply below_alloc | apply pw_below_drewN | apply below_drew1) | exact HB.out))); (case aF => exact (fun _ _ => trivial)); (case aO => exact (by (with_reducible repeat (first | apply Kd.R_alloc | apply Kd.R_drewN | apply Kd.R_drew)); exact HO_3.out)); (case aS => exact (below_size (by repeat (first | (with_reducible first | exact HB.out | apply below_alloc | apply pw_below_drewN | apply below_drew1) | exact HB.out)))); (case aL => have := LMc10.out; omega); intro v177 w12 ho hb hg hat; rw [← Ny176.out] at ho; have n0_ := Aside0.mk (hb); have n1_ := Aside0.mk (ho); clear HB; clear HO_3; have HB := n0_; have HO178 := n1_; clear n0_ n1_; clear ho hb hg hat; obtain ⟨Ao13, co13, eo13⟩ := Kd.R_slice HO178.out; subst eo13; have p179 : 0 ≤ (x5_2 : Int) := of_decide_eq_true (by first | (with_reducible assumption) | assumption); have q179 : x5_2 < (y176.length : Int) := of_decide_eq_true (by first | (with_reducible assumption) | assumption); obtain ⟨ad179, e179, hx179_0⟩ := Kd.at_int (Kd.R_reads' HO178.out).2.2 x5_2 p179 q179; cases e179; replace p179 := eq_true p179; replace q179 := eq_true q179)))
                      go_roundg k2
                      case measure => have := HJ3.out; have := HK2.out; omega
                      case rel => exact ⟨(y176), (wrap64 (x4_2 + (rd y176 x5_2))), (wrap64 (x5_2 + 1)), (by first | rfl | (simp; done) | (simp [*]; done)), (by first | rfl | (simp; done) | (simp [*]; done)), H', ⟨by have := HJ3.out; have := HK2.out; omega⟩, ⟨by (with_reducible repeat (first | apply Kd.R_alloc | apply Kd.R_drewN | apply Kd.R_drew)); exact HO178.out⟩, ⟨by repeat (first | (with_reducible first | exact HB.out | apply below_alloc | apply pw_below_drewN | apply below_drew1) | exact HB.out)⟩⟩
                    · rw [if_neg c11] at H
                      exact absurd H (by simp)
                  · rw [if_neg c10] at H
                    exact absurd H (by simp)
                · rw [if_neg c9] at H
                  exact absurd H (by simp)
              · rw [if_neg c8] at H
                have c8b0 : decide (x5_2 < (l0.length : Int)) = false := decide_eq_false c8
                clear c8
                replace H := Option.bind_eq_some_iff.mp H
                obtain ⟨t180, A140, H⟩ := H
                replace H : (if x4_2 < 1 then (tontinelaw12_SpreadEven.j2 k2 x3_2 x4_2 t180 true) else (if x4_2 > 64 then (tontinelaw12_SpreadEven.j2 k2 x3_2 x4_2 t180 true) else (tontinelaw12_SpreadEven.j2 k2 x3_2 x4_2 t180 ((t180.length : Int) != x4_2)))) = some r := H
                have A14 := Aside0.mk A140
                clear A140
                have HC15 := Aside0.mk H
                clear H
                obtain ⟨Ao16, co16, eo16⟩ := Kd.R_slice HO_3.out
                subst eo16
                go_upto_region 13 with (first | (go_at_call 28; (with_reducible refine (spread_Slots.calls _ _ x3_2 t180 _ ?side1 ?side2 A14.out).mono ?_); (case side1 => repeat (first | exact (Kd.R_reads' HO_3.out).2.2 | (with_reducible refine Kd.C_alloc ?_ _) | (with_reducible refine Kd.C_drewN ?_ _) | (with_reducible refine Kd.C_drew ?_))); (case side2 => exact (Kd.R_reads' HO_3.out).2.1); rintro e w17 ⟨v181, rfl, ho0, hb⟩; have n0_ := Aside0.mk (Kd.R_elder' (by (with_reducible repeat (first | apply Kd.R_alloc | apply Kd.R_drewN | apply Kd.R_drew)); exact HO_3.out) (Kd.R_base ho0) hb); have n1_ := Aside0.mk (Kd.R_lower (Kd.R_new' ho0 (Kd.R_lt (by (with_reducible repeat (first | apply Kd.R_alloc | apply Kd.R_drewN | apply Kd.R_drew)); exact HO_3.out))) (below_size (by repeat (first | (with_reducible first | exact HB.out | apply below_alloc | apply pw_below_drewN | apply below_drew1) | exact HB.out)))); have n2_ := Aside0.mk (below_step (by repeat (first | (with_reducible first | exact HB.out | apply below_alloc | apply pw_below_drewN | apply below_drew1) | exact HB.out)) hb); clear HO_3; clear HB; have HO_3 := n0_; have HO182 := n1_; have HB := n2_; clear n0_ n1_ n2_; (try clear hb); (try clear hb2); (try clear hk); (try clear hi); (try clear ho0)))
                repeat (go_quiet (first | (go_at_call 28; (with_reducible refine (spread_Slots.calls _ _ x3_2 t180 _ ?side1 ?side2 A14.out).mono ?_); (case side1 => repeat (first | exact (Kd.R_reads' HO_3.out).2.2 | (with_reducible refine Kd.C_alloc ?_ _) | (with_reducible refine Kd.C_drewN ?_ _) | (with_reducible refine Kd.C_drew ?_))); (case side2 => exact (Kd.R_reads' HO_3.out).2.1); rintro e w17 ⟨v181, rfl, ho0, hb⟩; have n0_ := Aside0.mk (Kd.R_elder' (by (with_reducible repeat (first | apply Kd.R_alloc | apply Kd.R_drewN | apply Kd.R_drew)); exact HO_3.out) (Kd.R_base ho0) hb); have n1_ := Aside0.mk (Kd.R_lower (Kd.R_new' ho0 (Kd.R_lt (by (with_reducible repeat (first | apply Kd.R_alloc | apply Kd.R_drewN | apply Kd.R_drew)); exact HO_3.out))) (below_size (by repeat (first | (with_reducible first | exact HB.out | apply below_alloc | apply pw_below_drewN | apply below_drew1) | exact HB.out)))); have n2_ := Aside0.mk (below_step (by repeat (first | (with_reducible first | exact HB.out | apply below_alloc | apply pw_below_drewN | apply below_drew1) | exact HB.out)) hb); clear HO_3; clear HB; have HO_3 := n0_; have HO182 := n1_; have HB := n2_; clear n0_ n1_ n2_; (try clear hb); (try clear hb2); (try clear hk); (try clear hi); (try clear ho0))); go_upto_region 13 with (first | (go_at_call 28; (with_reducible refine (spread_Slots.calls _ _ x3_2 t180 _ ?side1 ?side2 A14.out).mono ?_); (case side1 => repeat (first | exact (Kd.R_reads' HO_3.out).2.2 | (with_reducible refine Kd.C_alloc ?_ _) | (with_reducible refine Kd.C_drewN ?_ _) | (with_reducible refine Kd.C_drew ?_))); (case side2 => exact (Kd.R_reads' HO_3.out).2.1); rintro e w17 ⟨v181, rfl, ho0, hb⟩; have n0_ := Aside0.mk (Kd.R_elder' (by (with_reducible repeat (first | apply Kd.R_alloc | apply Kd.R_drewN | apply Kd.R_drew)); exact HO_3.out) (Kd.R_base ho0) hb); have n1_ := Aside0.mk (Kd.R_lower (Kd.R_new' ho0 (Kd.R_lt (by (with_reducible repeat (first | apply Kd.R_alloc | apply Kd.R_drewN | apply Kd.R_drew)); exact HO_3.out))) (below_size (by repeat (first | (with_reducible first | exact HB.out | apply below_alloc | apply pw_below_drewN | apply below_drew1) | exact HB.out)))); have n2_ := Aside0.mk (below_step (by repeat (first | (with_reducible first | exact HB.out | apply below_alloc | apply pw_below_drewN | apply below_drew1) | exact HB.out)) hb); clear HO_3; clear HB; have HO_3 := n0_; have HO182 := n1_; have HB := n2_; clear n0_ n1_ n2_; (try clear hb); (try clear hb2); (try clear hk); (try clear hi); (try clear ho0))))
                (try simp only [Act.put, List.setIfInBounds_toArray, List.set_cons_zero, List.set_cons_succ])
                go_cut [55] (fun v55 wc => ∃ (kq : Nat) (x55_14 : Bool), v55 = .bool x55_14 ∧ Aside0 (tontinelaw12_SpreadEven.j2 kq x3_2 x4_2 t180 x55_14 = some r) ∧ Aside0 (kq ≤ k2) ∧ Aside0 (Kd.R (Kd.int .i64) 3 wc w.heap.size (fun k_ => some k_ ≠ (v181 : Value).ownBlock) (.slice Ao16 x3_2.length co16) x3_2) ∧ Aside0 (Kd.R (Kd.int .i64) 3 wc w.heap.size (fun k_ => some k_ ≠ ((.slice Ao16 x3_2.length co16) : Value).ownBlock) v181 t180) ∧ Aside0 (Below w.heap.size w wc))
                case first =>
                  have H := HC15.out
                  clear HC15
                  by_cases c18 : x4_2 < 1
                  · rw [if_pos c18] at H
                    have c18b0 : decide (x4_2 < 1) = true := decide_eq_true c18
                    clear c18
                    (first | rw [c18b0] | (simp only [i64_w, i32_w]; rw [c18b0]) | skip)
                    have H' := Aside0.mk H
                    clear H
                    go_wp2
                    repeat (go_quiet (fail); try go_wp2)
                    go_meet
                    case rel => exact ⟨_, (true), (by first | rfl | (simp; done) | (simp [*]; done)), H', ⟨by have := HJ3.out; have := HK2.out; first | omega | exact Nat.le_refl _⟩, ⟨by (with_reducible repeat (first | apply Kd.R_alloc | apply Kd.R_drewN | apply Kd.R_drew)); exact Kd.R_mono HO_3.out (fun _ hk => hk.2)⟩, ⟨by (with_reducible repeat (first | apply Kd.R_alloc | apply Kd.R_drewN | apply Kd.R_drew)); exact Kd.R_mono HO182.out (fun _ hk => hk.2)⟩, ⟨by repeat (first | (with_reducible first | exact HB.out | apply below_alloc | apply pw_below_drewN | apply below_drew1) | exact HB.out)⟩⟩
                  · rw [if_neg c18] at H
                    have c18b0 : decide (x4_2 < 1) = false := decide_eq_false c18
                    clear c18
                    (first | rw [c18b0] | (simp only [i64_w, i32_w]; rw [c18b0]) | skip)
                    by_cases c19 : x4_2 > 64
                    · rw [if_pos c19] at H
                      have c19b0 : decide (64 < x4_2) = true := decide_eq_true c19
                      clear c19
                      have H' := Aside0.mk H
                      clear H
                      go_wp2
                      repeat (go_quiet (fail); try go_wp2)
                      go_meet
                      case rel => exact ⟨_, (true), (by first | rfl | (simp; done) | (simp [*]; done)), H', ⟨by have := HJ3.out; have := HK2.out; first | omega | exact Nat.le_refl _⟩, ⟨by (with_reducible repeat (first | apply Kd.R_alloc | apply Kd.R_drewN | apply Kd.R_drew)); exact Kd.R_mono HO_3.out (fun _ hk => hk.2)⟩, ⟨by (with_reducible repeat (first | apply Kd.R_alloc | apply Kd.R_drewN | apply Kd.R_drew)); exact Kd.R_mono HO182.out (fun _ hk => hk.2)⟩, ⟨by repeat (first | (with_reducible first | exact HB.out | apply below_alloc | apply pw_below_drewN | apply below_drew1) | exact HB.out)⟩⟩
                    · rw [if_neg c19] at H
                      have c19b0 : decide (64 < x4_2) = false := decide_eq_false c19
                      clear c19
                      have H' := Aside0.mk H
                      clear H
                      obtain ⟨Ao20, co20, eo20⟩ := Kd.R_slice HO182.out
                      subst eo20
                      go_wp2
                      repeat (go_quiet (fail); try go_wp2)
                      go_meet
                      case rel => exact ⟨_, (((t180.length : Int) != x4_2)), (by first | rfl | (simp; done) | (simp [*]; done)), H', ⟨by have := HJ3.out; have := HK2.out; first | omega | exact Nat.le_refl _⟩, ⟨by (with_reducible repeat (first | apply Kd.R_alloc | apply Kd.R_drewN | apply Kd.R_drew)); exact Kd.R_mono HO_3.out (fun _ hk => hk.2)⟩, ⟨by (with_reducible repeat (first | apply Kd.R_alloc | apply Kd.R_drewN | apply Kd.R_drew)); exact Kd.R_mono HO182.out (fun _ hk => hk.2)⟩, ⟨by repeat (first | (with_reducible first | exact HB.out | apply below_alloc | apply pw_below_drewN | apply below_drew1) | exact HB.out)⟩⟩
                case rest =>
                  clear HC15
                  try clear c1
                  try clear p1
                  try clear q1
                  try clear hx1
                  try clear p2
                  try clear c3
                  try clear c6
                  try clear c6b0
                  try clear c6b1
                  try clear p6
                  try clear c7
                  try clear c8
                  try clear c8b0
                  try clear c9
                  try clear c9b0
                  try clear c10
                  try clear c11
                  try clear c11b0
                  try clear p17
                  try clear q17
                  try clear hx17
                  try clear c18
                  try clear c18b0
                  try clear c19
                  try clear c19b0
                  try clear hx175_0
                  try clear hx179_0
                  try clear p175
                  try clear p179
                  try clear p2
                  try clear q175
                  try clear q179
                  obtain ⟨kq, x55_14, rfl, HA, HJ14, HO_3, HO_6, HB⟩ := hcut
                  cases kq with
                  | zero => exact absurd HA.out (by simp [tontinelaw12_SpreadEven.j2])
                  | succ kj14 =>
                    have H := HA.out
                    clear HA
                    simp only [tontinelaw12_SpreadEven.j2] at H
                    by_cases c21 : x55_14 = true
                    · subst c21
                      have H1 : (if x4_2 < 1 then (some true) else (some (decide (x4_2 > 64)))) = some r := by rw [if_pos rfl] at H; exact H
                      clear H
                      have H := H1
                      clear H1
                      by_cases c22 : x4_2 < 1
                      · rw [if_pos c22] at H
                        have c22b0 : decide (x4_2 < 1) = true := decide_eq_true c22
                        clear c22
                        obtain rfl := Option.some.inj H
                        go_wp2
                        repeat (go_quiet (fail); try go_wp2)
                        go_ret
                        exact ⟨by first | rfl | (simp [errW_none, errW_some] <;> rfl) | (simp [*, errW_none, errW_some] <;> rfl), by repeat (first | (with_reducible first | exact HB.out | apply below_alloc | apply pw_below_drewN | apply below_drew1) | exact HB.out)⟩
                      · rw [if_neg c22] at H
                        have c22b0 : decide (x4_2 < 1) = false := decide_eq_false c22
                        clear c22
                        obtain rfl := Option.some.inj H
                        go_wp2
                        repeat (go_quiet (fail); try go_wp2)
                        go_ret
                        exact ⟨by first | rfl | (simp [errW_none, errW_some] <;> rfl) | (simp [*, errW_none, errW_some] <;> rfl), by repeat (first | (with_reducible first | exact HB.out | apply below_alloc | apply pw_below_drewN | apply below_drew1) | exact HB.out)⟩
                    · replace c21 := Bool.eq_false_iff.mpr c21
                      subst c21
                      have H1 : (if 0 ≤ (x3_2.length : Int) then (if ((x3_2.length : Int) : Int).toNat ≤ 35184372088832 then (tontinelaw12_SpreadEven.l1 kj14 x3_2 x4_2 t180 (List.replicate ((x3_2.length : Int) : Int).toNat 0) 0) else (none)) else (none)) = some r := by rw [if_neg (show ¬ (false = true) by decide)] at H; exact H
                      clear H
                      have H := H1
                      clear H1
                      by_cases c23 : 0 ≤ (x3_2.length : Int)
                      · rw [if_pos c23] at H
                        have c23b0 := eq_true c23
                        have c23b1 : decide (0 ≤ (x3_2.length : Int)) = true := decide_eq_true c23
                        clear c23
                        by_cases c24 : ((x3_2.length : Int) : Int).toNat ≤ 35184372088832
                        · rw [if_pos c24] at H
                          have c24b0 := eq_true c24
                          have c24b1 : decide (((x3_2.length : Int) : Int).toNat ≤ 35184372088832) = true := decide_eq_true c24
                          clear c24
                          obtain ⟨y183, hy183⟩ : ∃ y_ : List Int, y_ = (List.replicate ((x3_2.length : Int) : Int).toNat 0) := ⟨_, rfl⟩
                          replace H : (tontinelaw12_SpreadEven.l1 kj14 x3_2 x4_2 t180 y183 0) = some r := by first | (rw [hy183]; with_reducible exact H) | (have H2_ := (Option.bind_some _ _).symm.trans H; rw [hy183]; with_reducible exact H2_) | (have H2_ := (Option.bind_some _ _).symm.trans H; with_reducible exact H2_) | with_reducible exact H | (rw [hy183]; exact H) | exact H
                          have Ny183 := Aside0.mk hy183
                          clear hy183
                          have H' := Aside0.mk H
                          clear H
                          go_wp2_with (first | ((with_reducible refine gate_dst (N := 64) rfl ?_); (try (refine gate_guard (by rfl) ?_; dsimp only)); refine Kd.R_make (Kd.int .i64) _ 3 rfl (N := 64) rfl 35 _ _ rfl (x3_2.length : Int) rfl rfl Try.underlying35 (.int .i64 0) 8 info3 rfl (by decide) (by omega) 0 (ok := fun _ => True) (okp := fun _ => True) rfl (fun _ hk => hk) trivial (of_decide_eq_true (by first | (with_reducible assumption) | assumption)) (Nat.le_trans (Nat.mul_le_mul_right _ (of_decide_eq_true (by first | (with_reducible assumption) | assumption) : (x3_2.length : Int).toNat ≤ 35184372088832)) (by omega)) (Below.refl _ _) (Nat.le_refl _) ?_; intro v184 w25 ho26 hb hg_ hnew_; clear hg_ hnew_; (first | rw [← Ny183.out] at ho26 | (simp only [Int.reduceToNat] at ho26; rw [← Ny183.out] at ho26)); have n0_ := Aside0.mk (Kd.R_elder' (by (with_reducible repeat (first | apply Kd.R_alloc | apply Kd.R_drewN | apply Kd.R_drew)); exact HO_3.out) (Kd.R_base ho26) hb); have n1_ := Aside0.mk (Kd.R_elder' (by (with_reducible repeat (first | apply Kd.R_alloc | apply Kd.R_drewN | apply Kd.R_drew)); exact HO_6.out) (Kd.R_base ho26) hb); have n2_ := Aside0.mk (Kd.R_lower (Kd.R_new' (Kd.R_new' ho26 (Kd.R_lt (by (with_reducible repeat (first | apply Kd.R_alloc | apply Kd.R_drewN | apply Kd.R_drew)); exact HO_3.out))) (Kd.R_lt (by (with_reducible repeat (first | apply Kd.R_alloc | apply Kd.R_drewN | apply Kd.R_drew)); exact HO_6.out))) (below_size (by repeat (first | (with_reducible first | exact HB.out | apply below_alloc | apply pw_below_drewN | apply below_drew1) | exact HB.out)))); have n3_ := Aside0.mk (below_step (by repeat (first | (with_reducible first | exact HB.out | apply below_alloc | apply pw_below_drewN | apply below_drew1) | exact HB.out)) hb); clear HO_3; clear HO_6; clear HB; have HO_3 := n0_; have HO_6 := n1_; have HO185 := n2_; have HB := n3_; clear n0_ n1_ n2_ n3_; clear hb ho26))
                          repeat (go_quiet (first | ((with_reducible refine gate_dst (N := 64) rfl ?_); (try (refine gate_guard (by rfl) ?_; dsimp only)); refine Kd.R_make (Kd.int .i64) _ 3 rfl (N := 64) rfl 35 _ _ rfl (x3_2.length : Int) rfl rfl Try.underlying35 (.int .i64 0) 8 info3 rfl (by decide) (by omega) 0 (ok := fun _ => True) (okp := fun _ => True) rfl (fun _ hk => hk) trivial (of_decide_eq_true (by first | (with_reducible assumption) | assumption)) (Nat.le_trans (Nat.mul_le_mul_right _ (of_decide_eq_true (by first | (with_reducible assumption) | assumption) : (x3_2.length : Int).toNat ≤ 35184372088832)) (by omega)) (Below.refl _ _) (Nat.le_refl _) ?_; intro v184 w25 ho26 hb hg_ hnew_; clear hg_ hnew_; (first | rw [← Ny183.out] at ho26 | (simp only [Int.reduceToNat] at ho26; rw [← Ny183.out] at ho26)); have n0_ := Aside0.mk (Kd.R_elder' (by (with_reducible repeat (first | apply Kd.R_alloc | apply Kd.R_drewN | apply Kd.R_drew)); exact HO_3.out) (Kd.R_base ho26) hb); have n1_ := Aside0.mk (Kd.R_elder' (by (with_reducible repeat (first | apply Kd.R_alloc | apply Kd.R_drewN | apply Kd.R_drew)); exact HO_6.out) (Kd.R_base ho26) hb); have n2_ := Aside0.mk (Kd.R_lower (Kd.R_new' (Kd.R_new' ho26 (Kd.R_lt (by (with_reducible repeat (first | apply Kd.R_alloc | apply Kd.R_drewN | apply Kd.R_drew)); exact HO_3.out))) (Kd.R_lt (by (with_reducible repeat (first | apply Kd.R_alloc | apply Kd.R_drewN | apply Kd.R_drew)); exact HO_6.out))) (below_size (by repeat (first | (with_reducible first | exact HB.out | apply below_alloc | apply pw_below_drewN | apply below_drew1) | exact HB.out)))); have n3_ := Aside0.mk (below_step (by repeat (first | (with_reducible first | exact HB.out | apply below_alloc | apply pw_below_drewN | apply below_drew1) | exact HB.out)) hb); clear HO_3; clear HO_6; clear HB; have HO_3 := n0_; have HO_6 := n1_; have HO185 := n2_; have HB := n3_; clear n0_ n1_ n2_ n3_; clear hb ho26)); try go_wp2_with (first | ((with_reducible refine gate_dst (N := 64) rfl ?_); (try (refine gate_guard (by rfl) ?_; dsimp only)); refine Kd.R_make (Kd.int .i64) _ 3 rfl (N := 64) rfl 35 _ _ rfl (x3_2.length : Int) rfl rfl Try.underlying35 (.int .i64 0) 8 info3 rfl (by decide) (by omega) 0 (ok := fun _ => True) (okp := fun _ => True) rfl (fun _ hk => hk) trivial (of_decide_eq_true (by first | (with_reducible assumption) | assumption)) (Nat.le_trans (Nat.mul_le_mul_right _ (of_decide_eq_true (by first | (with_reducible assumption) | assumption) : (x3_2.length : Int).toNat ≤ 35184372088832)) (by omega)) (Below.refl _ _) (Nat.le_refl _) ?_; intro v184 w25 ho26 hb hg_ hnew_; clear hg_ hnew_; (first | rw [← Ny183.out] at ho26 | (simp only [Int.reduceToNat] at ho26; rw [← Ny183.out] at ho26)); have n0_ := Aside0.mk (Kd.R_elder' (by (with_reducible repeat (first | apply Kd.R_alloc | apply Kd.R_drewN | apply Kd.R_drew)); exact HO_3.out) (Kd.R_base ho26) hb); have n1_ := Aside0.mk (Kd.R_elder' (by (with_reducible repeat (first | apply Kd.R_alloc | apply Kd.R_drewN | apply Kd.R_drew)); exact HO_6.out) (Kd.R_base ho26) hb); have n2_ := Aside0.mk (Kd.R_lower (Kd.R_new' (Kd.R_new' ho26 (Kd.R_lt (by (with_reducible repeat (first | apply Kd.R_alloc | apply Kd.R_drewN | apply Kd.R_drew)); exact HO_3.out))) (Kd.R_lt (by (with_reducible repeat (first | apply Kd.R_alloc | apply Kd.R_drewN | apply Kd.R_drew)); exact HO_6.out))) (below_size (by repeat (first | (with_reducible first | exact HB.out | apply below_alloc | apply pw_below_drewN | apply below_drew1) | exact HB.out)))); have n3_ := Aside0.mk (below_step (by repeat (first | (with_reducible first | exact HB.out | apply below_alloc | apply pw_below_drewN | apply below_drew1) | exact HB.out)) hb); clear HO_3; clear HO_6; clear HB; have HO_3 := n0_; have HO_6 := n1_; have HO185 := n2_; have HB := n3_; clear n0_ n1_ n2_ n3_; clear hb ho26)))
                          go_loopg [8] kj14 (fun kq v8 w' => ∃ (x7_4 : List Int) (x8_4 : Int), v8 = .int .i64 x8_4 ∧ Aside0 (tontinelaw12_SpreadEven.l1 kq x3_2 x4_2 t180 x7_4 x8_4 = some r) ∧ Aside0 (kq ≤ kj14) ∧ Aside0 (Kd.R (Kd.int .i64) 3 w' w.heap.size (fun k_ => some k_ ≠ (v181 : Value).ownBlock ∧ some k_ ≠ (v184 : Value).ownBlock) (.slice Ao16 x3_2.length co16) x3_2) ∧ Aside0 (Kd.R (Kd.int .i64) 3 w' w.heap.size (fun k_ => some k_ ≠ ((.slice Ao16 x3_2.length co16) : Value).ownBlock ∧ some k_ ≠ (v184 : Value).ownBlock) v181 t180) ∧ Aside0 (Kd.R (Kd.int .i64) 3 w' w.heap.size (fun k_ => some k_ ≠ ((.slice Ao16 x3_2.length co16) : Value).ownBlock ∧ some k_ ≠ (v181 : Value).ownBlock) v184 x7_4) ∧ Aside0 (Below w.heap.size w w'))
                          case atStart => exact ⟨(y183), (0), (by first | rfl | (simp; done) | (simp [*]; done)), H', ⟨Nat.le_refl _⟩, ⟨by (with_reducible repeat (first | apply Kd.R_alloc | apply Kd.R_drewN | apply Kd.R_drew)); exact HO_3.out⟩, ⟨by (with_reducible repeat (first | apply Kd.R_alloc | apply Kd.R_drewN | apply Kd.R_drew)); exact HO_6.out⟩, ⟨by (with_reducible repeat (first | apply Kd.R_alloc | apply Kd.R_drewN | apply Kd.R_drew)); exact Kd.R_mono HO185.out (fun _ hk => ⟨hk.1.2, hk.2⟩)⟩, ⟨by repeat (first | (with_reducible first | exact HB.out | apply below_alloc | apply pw_below_drewN | apply below_drew1) | exact HB.out)⟩⟩
                          case round =>
                            clear H'
                            try clear c1
                            try clear p1
                            try clear q1
                            try clear hx1
                            try clear c2
                            try clear p2
                            try clear c3
                            try clear c6
                            try clear c6b0
                            try clear c6b1
                            try clear p6
                            try clear c7
                            try clear c8
                            try clear c8b0
                            try clear c9
                            try clear c9b0
                            try clear c10
                            try clear c11
                            try clear c11b0
                            try clear p17
                            try clear q17
                            try clear hx17
                            try clear c18
                            try clear c18b0
                            try clear c19
                            try clear c19b0
                            try clear c21
                            try clear c22
                            try clear c22b0
                            try clear c23
                            try clear c23b0
                            try clear c23b1
                            try clear c24
                            try clear c24b0
                            try clear c24b1
                            try clear hx175_0
                            try clear hx179_0
                            try clear p1
                            try clear p17
                            try clear p175
                            try clear p179
                            try clear p2
                            try clear p6
                            try clear q1
                            try clear q17
                            try clear q175
                            try clear q179
                            obtain ⟨x7_4, x8_4, rfl, HA, HK4, HO_3, HO_6, HO_7, HB⟩ := hrel
                            cases gk with
                            | zero => exact absurd HA.out (by simp [tontinelaw12_SpreadEven.l1])
                            | succ k4 =>
                              have H := HA.out
                              clear HA
                              simp only [tontinelaw12_SpreadEven.l1] at H
                              by_cases c27 : x8_4 < x4_2
                              · rw [if_pos c27] at H
                                have c27b0 : decide (x8_4 < x4_2) = true := decide_eq_true c27
                                clear c27
                                have HC28 := Aside0.mk H
                                clear H
                                go_upto_region 19 with (fail)
                                repeat (go_quiet (fail); go_upto_region 19 with (fail))
                                go_cut [83] (fun v83 wc => ∃ (kq : Nat) (x83_27 : Bool), v83 = .bool x83_27 ∧ Aside0 (tontinelaw12_SpreadEven.j4 kq x3_2 x4_2 t180 x7_4 x8_4 x83_27 = some r) ∧ Aside0 (kq ≤ k4) ∧ Aside0 (Kd.R (Kd.int .i64) 3 wc w.heap.size (fun k_ => some k_ ≠ (v181 : Value).ownBlock ∧ some k_ ≠ (v184 : Value).ownBlock) (.slice Ao16 x3_2.length co16) x3_2) ∧ Aside0 (Kd.R (Kd.int .i64) 3 wc w.heap.size (fun k_ => some k_ ≠ ((.slice Ao16 x3_2.length co16) : Value).ownBlock ∧ some k_ ≠ (v184 : Value).ownBlock) v181 t180) ∧ Aside0 (Kd.R (Kd.int .i64) 3 wc w.heap.size (fun k_ => some k_ ≠ ((.slice Ao16 x3_2.length co16) : Value).ownBlock ∧ some k_ ≠ (v181 : Value).ownBlock) v184 x7_4) ∧ Aside0 (Below w.heap.size w wc))
                                case first =>
                                  have H := HC28.out
                                  clear HC28
                                  by_cases c29 : 0 ≤ x8_4
                                  · rw [if_pos c29] at H
                                    have c29b0 : decide (0 ≤ x8_4) = true := decide_eq_true c29
                                    clear c29
                                    (first | rw [c29b0] | (simp only [i64_w, i32_w]; rw [c29b0]) | skip)
                                    by_cases c30 : x8_4 < (t180.length : Int)
                                    · rw [if_pos c30] at H
                                      have c30b0 : decide (x8_4 < (t180.length : Int)) = true := decide_eq_true c30
                                      clear c30
                                      by_cases c31 : (rd t180 x8_4) < 0
                                      · rw [if_pos c31] at H
                                        have c31b0 : decide ((rd t180 x8_4) < 0) = true := decide_eq_true c31
                                        clear c31
                                        have H' := Aside0.mk H
                                        clear H
                                        obtain ⟨Ao32, co32, eo32⟩ := Kd.R_slice HO_6.out
                                        subst eo32
                                        have p186 : 0 ≤ (x8_4 : Int) := of_decide_eq_true (by first | (with_reducible assumption) | assumption)
                                        have q186 : x8_4 < (t180.length : Int) := of_decide_eq_true (by first | (with_reducible assumption) | assumption)
                                        obtain ⟨ad186, e186, hx186_0⟩ := Kd.at_int (Kd.R_reads' HO_6.out).2.2 x8_4 p186 q186
                                        cases e186
                                        replace p186 := eq_true p186
                                        replace q186 := eq_true q186
                                        go_wp2
                                        repeat (go_quiet (fail); try go_wp2)
                                        go_meet
                                        case rel => exact ⟨_, (true), (by first | rfl | (simp; done) | (simp [*]; done)), H', ⟨by have := HJ3.out; have := HK2.out; have := HJ14.out; have := HK4.out; first | omega | exact Nat.le_refl _⟩, ⟨by (with_reducible repeat (first | apply Kd.R_alloc | apply Kd.R_drewN | apply Kd.R_drew)); exact HO_3.out⟩, ⟨by (with_reducible repeat (first | apply Kd.R_alloc | apply Kd.R_drewN | apply Kd.R_drew)); exact HO_6.out⟩, ⟨by (with_reducible repeat (first | apply Kd.R_alloc | apply Kd.R_drewN | apply Kd.R_drew)); exact HO_7.out⟩, ⟨by repeat (first | (with_reducible first | exact HB.out | apply below_alloc | apply pw_below_drewN | apply below_drew1) | exact HB.out)⟩⟩
                                      · rw [if_neg c31] at H
                                        have c31b0 : decide ((rd t180 x8_4) < 0) = false := decide_eq_false c31
                                        clear c31
                                        have H' := Aside0.mk H
                                        clear H
                                        obtain ⟨Ao33, co33, eo33⟩ := Kd.R_slice HO_6.out
                                        subst eo33
                                        have p186 : 0 ≤ (x8_4 : Int) := of_decide_eq_true (by first | (with_reducible assumption) | assumption)
                                        have q186 : x8_4 < (t180.length : Int) := of_decide_eq_true (by first | (with_reducible assumption) | assumption)
                                        obtain ⟨ad186, e186, hx186_0⟩ := Kd.at_int (Kd.R_reads' HO_6.out).2.2 x8_4 p186 q186
                                        cases e186
                                        replace p186 := eq_true p186
                                        replace q186 := eq_true q186
                                        have p187 : 0 ≤ (x8_4 : Int) := of_decide_eq_true (by first | (with_reducible assumption) | assumption)
                                        have q187 : x8_4 < (t180.length : Int) := of_decide_eq_true (by first | (with_reducible assumption) | assumption)
                                        obtain ⟨ad187, e187, hx187_0⟩ := Kd.at_int (Kd.R_reads' HO_6.out).2.2 x8_4 p187 q187
                                        obtain rfl : ad186 = ad187 := (by injection e187)
                                        replace p187 := eq_true p187
                                        replace q187 := eq_true q187
                                        go_wp2
                                        repeat (go_quiet (fail); try go_wp2)
                                        go_meet
                                        case rel => exact ⟨_, (decide ((rd t180 x8_4) ≥ (x3_2.length : Int))), (by first | rfl | (simp; done) | (simp [*]; done)), H', ⟨by have := HJ3.out; have := HK2.out; have := HJ14.out; have := HK4.out; first | omega | exact Nat.le_refl _⟩, ⟨by (with_reducible repeat (first | apply Kd.R_alloc | apply Kd.R_drewN | apply Kd.R_drew)); exact HO_3.out⟩, ⟨by (with_reducible repeat (first | apply Kd.R_alloc | apply Kd.R_drewN | apply Kd.R_drew)); exact HO_6.out⟩, ⟨by (with_reducible repeat (first | apply Kd.R_alloc | apply Kd.R_drewN | apply Kd.R_drew)); exact HO_7.out⟩, ⟨by repeat (first | (with_reducible first | exact HB.out | apply below_alloc | apply pw_below_drewN | apply below_drew1) | exact HB.out)⟩⟩
                                    · rw [if_neg c30] at H
                                      exact absurd H (by simp)
                                  · rw [if_neg c29] at H
                                    exact absurd H (by simp)
                                case rest =>
                                  clear HC28
                                  try clear c1
                                  try clear p1
                                  try clear q1
                                  try clear hx1
                                  try clear c2
                                  try clear p2
                                  try clear c3
                                  try clear c6
                                  try clear c6b0
                                  try clear c6b1
                                  try clear p6
                                  try clear c7
                                  try clear c8
                                  try clear c8b0
                                  try clear c9
                                  try clear c9b0
                                  try clear c10
                                  try clear c11
                                  try clear c11b0
                                  try clear p17
                                  try clear q17
                                  try clear hx17
                                  try clear c18
                                  try clear c18b0
                                  try clear p18
                                  try clear q18
                                  try clear hx18
                                  try clear c19
                                  try clear c19b0
                                  try clear c21
                                  try clear c22
                                  try clear c22b0
                                  try clear c23
                                  try clear c23b0
                                  try clear c23b1
                                  try clear c24
                                  try clear c24b0
                                  try clear c24b1
                                  try clear c27
                                  try clear c27b0
                                  try clear c29
                                  try clear c29b0
                                  try clear c30
                                  try clear c30b0
                                  try clear c31
                                  try clear c31b0
                                  try clear hx175_0
                                  try clear hx179_0
                                  try clear hx186_0
                                  try clear hx187_0
                                  try clear p1
                                  try clear p17
                                  try clear p175
                                  try clear p179
                                  try clear p186
                                  try clear p187
                                  try clear p2
                                  try clear p6
                                  try clear q1
                                  try clear q17
                                  try clear q175
                                  try clear q179
                                  try clear q186
                                  try clear q187
                                  obtain ⟨kq, x83_27, rfl, HA, HJ27, HO_3, HO_6, HO_7, HB⟩ := hcut
                                  cases kq with
                                  | zero => exact absurd HA.out (by simp [tontinelaw12_SpreadEven.j4])
                                  | succ kj27 =>
                                    have H := HA.out
                                    clear HA
                                    simp only [tontinelaw12_SpreadEven.j4] at H
                                    by_cases c34 : x83_27 = true
                                    · subst c34
                                      have H1 : (some false) = some r := by rw [if_pos rfl] at H; exact H
                                      clear H
                                      have H := H1
                                      clear H1
                                      obtain rfl := Option.some.inj H
                                      go_wp2
                                      repeat (go_quiet (fail); try go_wp2)
                                      go_ret
                                      exact ⟨by first | rfl | (simp [errW_none, errW_some] <;> rfl) | (simp [*, errW_none, errW_some] <;> rfl), by repeat (first | (with_reducible first | exact HB.out | apply below_alloc | apply pw_below_drewN | apply below_drew1) | exact HB.out)⟩
                                    · replace c34 := Bool.eq_false_iff.mpr c34
                                      subst c34
                                      have H1 : (if 0 ≤ x8_4 then (if x8_4 < (t180.length : Int) then (if 0 ≤ (rd t180 x8_4) then (if (rd t180 x8_4) < (x7_4.length : Int) then (tontinelaw12_SpreadEven.l2 kj27 x3_2 x4_2 t180 (x7_4.set ((rd t180 x8_4) : Int).toNat (wrap64 ((rd x7_4 (rd t180 x8_4)) + 1))) x8_4 0) else (none)) else (none)) else (none)) else (none)) = some r := by rw [if_neg (show ¬ (false = true) by decide)] at H; exact H
                                      clear H
                                      have H := H1
                                      clear H1
                                      by_cases c35 : 0 ≤ x8_4
                                      · rw [if_pos c35] at H
                                        have c35b0 : decide (0 ≤ x8_4) = true := decide_eq_true c35
                                        clear c35
                                        by_cases c36 : x8_4 < (t180.length : Int)
                                        · rw [if_pos c36] at H
                                          have c36b0 : decide (x8_4 < (t180.length : Int)) = true := decide_eq_true c36
                                          clear c36
                                          by_cases c37 : 0 ≤ (rd t180 x8_4)
                                          · rw [if_pos c37] at H
                                            have c37b0 : decide (0 ≤ (rd t180 x8_4)) = true := decide_eq_true c37
                                            clear c37
                                            by_cases c38 : (rd t180 x8_4) < (x7_4.length : Int)
                                            · rw [if_pos c38] at H
                                              have c38b0 : decide ((rd t180 x8_4) < (x7_4.length : Int)) = true := decide_eq_true c38
                                              clear c38
                                              obtain ⟨y190, hy190⟩ : ∃ y_ : List Int, y_ = (x7_4.set ((rd t180 x8_4) : Int).toNat (wrap64 ((rd x7_4 (rd t180 x8_4)) + 1))) := ⟨_, rfl⟩
                                              replace H : (tontinelaw12_SpreadEven.l2 kj27 x3_2 x4_2 t180 y190 x8_4 0) = some r := by first | (rw [hy190]; with_reducible exact H) | (have H2_ := (Option.bind_some _ _).symm.trans H; rw [hy190]; with_reducible exact H2_) | (have H2_ := (Option.bind_some _ _).symm.trans H; with_reducible exact H2_) | with_reducible exact H | (rw [hy190]; exact H) | exact H
                                              have Ny190 := Aside0.mk hy190
                                              clear hy190
                                              have H' := Aside0.mk H
                                              clear H
                                              obtain ⟨Ao40, co40, eo40⟩ := Kd.R_slice HO_6.out
                                              subst eo40
                                              have p188 : 0 ≤ (x8_4 : Int) := of_decide_eq_true (by first | (with_reducible assumption) | assumption)
                                              have q188 : x8_4 < (t180.length : Int) := of_decide_eq_true (by first | (with_reducible assumption) | assumption)
                                              obtain ⟨ad188, e188, hx188_0⟩ := Kd.at_int (Kd.R_reads' HO_6.out).2.2 x8_4 p188 q188
                                              cases e188
                                              replace p188 := eq_true p188
                                              replace q188 := eq_true q188
                                              obtain ⟨Ao41, co41, eo41⟩ := Kd.R_slice HO_7.out
                                              subst eo41
                                              have p189 : 0 ≤ ((rd t180 x8_4) : Int) := of_decide_eq_true (by first | (with_reducible assumption) | assumption)
                                              have q189 : (rd t180 x8_4) < (x7_4.length : Int) := of_decide_eq_true (by first | (with_reducible assumption) | assumption)
                                              obtain ⟨ad189, e189, hx189_0⟩ := Kd.at_int (Kd.R_reads' HO_7.out).2.2 (rd t180 x8_4) p189 q189
                                              cases e189
                                              replace p189 := eq_true p189
                                              replace q189 := eq_true q189
                                              have p39 : 0 ≤ ((rd t180 x8_4) : Int) := of_decide_eq_true (by first | (with_reducible assumption) | assumption)
                                              have q39 : ((rd t180 x8_4) : Int) < ((x7_4.length : Int) : Int) := of_decide_eq_true (by first | (with_reducible assumption) | assumption)
                                              obtain ⟨go39, co39, eo39, gb39, gl39, cl39, HG39⟩ := Kd.R_form HO_7.out (by omega)
                                              (first | cases eo39 | (injection eo39 with ea_ en_ ec_; (first | subst ea_ | (injection ea_ with ea_; subst ea_)); subst ec_; clear en_))
                                              have GB39 := Aside0.mk gb39
                                              have GG39 := Aside0.mk HG39
                                              clear gb39 gl39 HG39
                                              (first | simp only [add_plain] at hx189_0 | skip)
                                              obtain ⟨hx39_0, hf39_0⟩ := Kd.R_celln 0 HO_7.out ((rd t180 x8_4) : Int) p39 q39
                                              replace p39 := eq_true p39
                                              replace q39 := eq_true q39
                                              have HP42 := Kd.R_putg HO_7.out ((rd t180 x8_4) : Int) (wrap64 ((rd x7_4 (rd t180 x8_4)) + 1))
                                              go_wp2_with (first | ((with_reducible refine gate_store (t := 3) (p := 92) rfl ?_); (try (rw [drewN_self wc]; generalize hq_ : World.drewN wc _ = wc; have n0_ := Aside0.mk (Kd.R_at hq_ HO_3.out); have n1_ := Aside0.mk (Kd.R_at hq_ HO_6.out); have n2_ := Aside0.mk (Kd.R_at hq_ HO_7.out); have n3_ := Aside0.mk (below_at hq_ HB.out); clear hq_ HO_3 HO_6 HO_7 HB; have HO_3 := n0_; have HO_6 := n1_; have HO_7 := n2_; have HB := n3_; clear n0_ n1_ n2_ n3_; (try (have HP42 := Kd.R_putg HO_7.out ((rd t180 x8_4) : Int) (wrap64 ((rd x7_4 (rd t180 x8_4)) + 1)))))); refine store_event (t := 3) (p := 92) (v := ?vo_w43) (w1 := (wc.setCell ⟨go39, ((rd t180 x8_4) : Int).toNat, none⟩ (.int .i64 (wrap64 ((rd x7_4 (rd t180 x8_4)) + 1))))) ?hg ?ho ?hn ?hr ?_; (case ho => rfl); (case hg => rfl); (case hn => rfl); (case hr => first | (go_simp; done) | (go_simp; rfl)); intro w43 hw; have hg : wc.grownBy w43 (some go39) := (by rw [hw]; exact HP42.2); have hp_ : Kd.R (Kd.int .i64) 3 w43 w.heap.size (fun k_ => some k_ ≠ (.slice Ao16 x3_2.length co16 : Value).ownBlock ∧ some k_ ≠ (.slice (some ad188) t180.length co40 : Value).ownBlock) (.slice (some ⟨go39, 0, none⟩) x7_4.length co41) y190 := (by rw [hw, Ny190.out]; exact HP42.1); clear HP42; have n0_ := Aside0.mk (Kd.R_after (v := (.slice (some ⟨go39, 0, none⟩) x7_4.length co41)) (v1 := (.slice (some ⟨go39, 0, none⟩) x7_4.length co41)) (ok := (fun k_ => some k_ ≠ (.slice (some ad188) t180.length co40 : Value).ownBlock)) (by (with_reducible repeat (first | apply Kd.R_alloc | apply Kd.R_drewN | apply Kd.R_drew)); exact HO_3.out) hg (.inl rfl)); have n1_ := Aside0.mk (Kd.R_after (v := (.slice (some ⟨go39, 0, none⟩) x7_4.length co41)) (v1 := (.slice (some ⟨go39, 0, none⟩) x7_4.length co41)) (ok := (fun k_ => some k_ ≠ (.slice Ao16 x3_2.length co16 : Value).ownBlock)) (by (with_reducible repeat (first | apply Kd.R_alloc | apply Kd.R_drewN | apply Kd.R_drew)); exact HO_6.out) hg (.inl rfl)); have n2_ := Aside0.mk (hp_); have n3_ := Aside0.mk ((by rw [hw]; exact below_set (HB.out) GB39.out : Below w.heap.size w w43)); clear HO_3; clear HO_6; clear HO_7; clear HB; have HO_3 := n0_; have HO_6 := n1_; have HO_7 := n2_; have HB := n3_; clear n0_ n1_ n2_ n3_; clear hg hw hp_))
                                              repeat (go_quiet (first | ((with_reducible refine gate_store (t := 3) (p := 92) rfl ?_); (try (rw [drewN_self wc]; generalize hq_ : World.drewN wc _ = wc; have n0_ := Aside0.mk (Kd.R_at hq_ HO_3.out); have n1_ := Aside0.mk (Kd.R_at hq_ HO_6.out); have n2_ := Aside0.mk (Kd.R_at hq_ HO_7.out); have n3_ := Aside0.mk (below_at hq_ HB.out); clear hq_ HO_3 HO_6 HO_7 HB; have HO_3 := n0_; have HO_6 := n1_; have HO_7 := n2_; have HB := n3_; clear n0_ n1_ n2_ n3_; (try (have HP42 := Kd.R_putg HO_7.out ((rd t180 x8_4) : Int) (wrap64 ((rd x7_4 (rd t180 x8_4)) + 1)))))); refine store_event (t := 3) (p := 92) (v := ?vo_w43) (w1 := (wc.setCell ⟨go39, ((rd t180 x8_4) : Int).toNat, none⟩ (.int .i64 (wrap64 ((rd x7_4 (rd t180 x8_4)) + 1))))) ?hg ?ho ?hn ?hr ?_; (case ho => rfl); (case hg => rfl); (case hn => rfl); (case hr => first | (go_simp; done) | (go_simp; rfl)); intro w43 hw; have hg : wc.grownBy w43 (some go39) := (by rw [hw]; exact HP42.2); have hp_ : Kd.R (Kd.int .i64) 3 w43 w.heap.size (fun k_ => some k_ ≠ (.slice Ao16 x3_2.length co16 : Value).ownBlock ∧ some k_ ≠ (.slice (some ad188) t180.length co40 : Value).ownBlock) (.slice (some ⟨go39, 0, none⟩) x7_4.length co41) y190 := (by rw [hw, Ny190.out]; exact HP42.1); clear HP42; have n0_ := Aside0.mk (Kd.R_after (v := (.slice (some ⟨go39, 0, none⟩) x7_4.length co41)) (v1 := (.slice (some ⟨go39, 0, none⟩) x7_4.length co41)) (ok := (fun k_ => some k_ ≠ (.slice (some ad188) t180.length co40 : Value).ownBlock)) (by (with_reducible repeat (first | apply Kd.R_alloc | apply Kd.R_drewN | apply Kd.R_drew)); exact HO_3.out) hg (.inl rfl)); have n1_ := Aside0.mk (Kd.R_after (v := (.slice (some ⟨go39, 0, none⟩) x7_4.length co41)) (v1 := (.slice (some ⟨go39, 0, none⟩) x7_4.length co41)) (ok := (fun k_ => some k_ ≠ (.slice Ao16 x3_2.length co16 : Value).ownBlock)) (by (with_reducible repeat (first | apply Kd.R_alloc | apply Kd.R_drewN | apply Kd.R_drew)); exact HO_6.out) hg (.inl rfl)); have n2_ := Aside0.mk (hp_); have n3_ := Aside0.mk ((by rw [hw]; exact below_set (HB.out) GB39.out : Below w.heap.size w w43)); clear HO_3; clear HO_6; clear HO_7; clear HB; have HO_3 := n0_; have HO_6 := n1_; have HO_7 := n2_; have HB := n3_; clear n0_ n1_ n2_ n3_; clear hg hw hp_)); try go_wp2_with (first | ((with_reducible refine gate_store (t := 3) (p := 92) rfl ?_); (try (rw [drewN_self wc]; generalize hq_ : World.drewN wc _ = wc; have n0_ := Aside0.mk (Kd.R_at hq_ HO_3.out); have n1_ := Aside0.mk (Kd.R_at hq_ HO_6.out); have n2_ := Aside0.mk (Kd.R_at hq_ HO_7.out); have n3_ := Aside0.mk (below_at hq_ HB.out); clear hq_ HO_3 HO_6 HO_7 HB; have HO_3 := n0_; have HO_6 := n1_; have HO_7 := n2_; have HB := n3_; clear n0_ n1_ n2_ n3_; (try (have HP42 := Kd.R_putg HO_7.out ((rd t180 x8_4) : Int) (wrap64 ((rd x7_4 (rd t180 x8_4)) + 1)))))); refine store_event (t := 3) (p := 92) (v := ?vo_w43) (w1 := (wc.setCell ⟨go39, ((rd t180 x8_4) : Int).toNat, none⟩ (.int .i64 (wrap64 ((rd x7_4 (rd t180 x8_4)) + 1))))) ?hg ?ho ?hn ?hr ?_; (case ho => rfl); (case hg => rfl); (case hn => rfl); (case hr => first | (go_simp; done) | (go_simp; rfl)); intro w43 hw; have hg : wc.grownBy w43 (some go39) := (by rw [hw]; exact HP42.2); have hp_ : Kd.R (Kd.int .i64) 3 w43 w.heap.size (fun k_ => some k_ ≠ (.slice Ao16 x3_2.length co16 : Value).ownBlock ∧ some k_ ≠ (.slice (some ad188) t180.length co40 : Value).ownBlock) (.slice (some ⟨go39, 0, none⟩) x7_4.length co41) y190 := (by rw [hw, Ny190.out]; exact HP42.1); clear HP42; have n0_ := Aside0.mk (Kd.R_after (v := (.slice (some ⟨go39, 0, none⟩) x7_4.length co41)) (v1 := (.slice (some ⟨go39, 0, none⟩) x7_4.length co41)) (ok := (fun k_ => some k_ ≠ (.slice (some ad188) t180.length co40 : Value).ownBlock)) (by (with_reducible repeat (first | apply Kd.R_alloc | apply Kd.R_drewN | apply Kd.R_drew)); exact HO_3.out) hg (.inl rfl)); have n1_ := Aside0.mk (Kd.R_after (v := (.slice (some ⟨go39, 0, none⟩) x7_4.length co41)) (v1 := (.slice (some ⟨go39, 0, none⟩) x7_4.length co41)) (ok := (fun k_ => some k_ ≠ (.slice Ao16 x3_2.length co16 : Value).ownBlock)) (by (with_reducible repeat (first | apply Kd.R_alloc | apply Kd.R_drewN | apply Kd.R_drew)); exact HO_6.out) hg (.inl rfl)); have n2_ := Aside0.mk (hp_); have n3_ := Aside0.mk ((by rw [hw]; exact below_set (HB.out) GB39.out : Below w.heap.size w w43)); clear HO_3; clear HO_6; clear HO_7; clear HB; have HO_3 := n0_; have HO_6 := n1_; have HO_7 := n2_; have HB := n3_; clear n0_ n1_ n2_ n3_; clear hg hw hp_)))
                                              go_loopg [9] kj27 (fun kq v9 w' => ∃ (x9_6 : Int), v9 = .int .i64 x9_6 ∧ Aside0 (tontinelaw12_SpreadEven.l2 kq x3_2 x4_2 t180 y190 x8_4 x9_6 = some r) ∧ Aside0 (kq ≤ kj27) ∧ Aside0 (Kd.R (Kd.int .i64) 3 w' w.heap.size (fun k_ => some k_ ≠ ((.slice (some ad188) t180.length co40) : Value).ownBlock ∧ some k_ ≠ ((.slice (some ⟨go39, 0, none⟩) x7_4.length co41) : Value).ownBlock) (.slice Ao16 x3_2.length co16) x3_2) ∧ Aside0 (Kd.R (Kd.int .i64) 3 w' w.heap.size (fun k_ => some k_ ≠ ((.slice Ao16 x3_2.length co16) : Value).ownBlock ∧ some k_ ≠ ((.slice (some ⟨go39, 0, none⟩) x7_4.length co41) : Value).ownBlock) (.slice (some ad188) t180.length co40) t180) ∧ Aside0 (Kd.R (Kd.int .i64) 3 w' w.heap.size (fun k_ => some k_ ≠ ((.slice Ao16 x3_2.length co16) : Value).ownBlock ∧ some k_ ≠ ((.slice (some ad188) t180.length co40) : Value).ownBlock) (.slice (some ⟨go39, 0, none⟩) x7_4.length co41) y190) ∧ Aside0 (Below w.heap.size w w'))
                                              case atStart => exact ⟨(0), (by first | rfl | (simp; done) | (simp [*]; done)), H', ⟨Nat.le_refl _⟩, ⟨by (with_reducible repeat (first | apply Kd.R_alloc | apply Kd.R_drewN | apply Kd.R_drew)); exact HO_3.out⟩, ⟨by (with_reducible repeat (first | apply Kd.R_alloc | apply Kd.R_drewN | apply Kd.R_drew)); exact HO_6.out⟩, ⟨by (with_reducible repeat (first | apply Kd.R_alloc | apply Kd.R_drewN | apply Kd.R_drew)); exact HO_7.out⟩, ⟨by repeat (first | (with_reducible first | exact HB.out | apply below_alloc | apply pw_below_drewN | apply below_drew1) | exact HB.out)⟩⟩
                                              case round =>
                                                clear H'
                                                try clear c1
                                                try clear p1
                                                try clear q1
                                                try clear hx1
                                                try clear c2
                                                try clear p2
                                                try clear c3
                                                try clear p3
                                                try clear q3
                                                try clear hx3
                                                try clear hf3
                                                try clear c6
                                                try clear c6b0
                                                try clear c6b1
                                                try clear p6
                                                try clear c7
                                                try clear c8
                                                try clear c8b0
                                                try clear c9
                                                try clear c9b0
                                                try clear c10
                                                try clear c11
                                                try clear c11b0
                                                try clear p17
                                                try clear q17
                                                try clear hx17
                                                try clear c18
                                                try clear c18b0
                                                try clear p18
                                                try clear q18
                                                try clear hx18
                                                try clear c19
                                                try clear c19b0
                                                try clear c21
                                                try clear c22
                                                try clear c22b0
                                                try clear c23
                                                try clear c23b0
                                                try clear c23b1
                                                try clear c24
                                                try clear c24b0
                                                try clear c24b1
                                                try clear c27
                                                try clear c27b0
                                                try clear c29
                                                try clear c29b0
                                                try clear c30
                                                try clear c30b0
                                                try clear c31
                                                try clear c31b0
                                                try clear c34
                                                try clear c35
                                                try clear c35b0
                                                try clear c36
                                                try clear c36b0
                                                try clear c37
                                                try clear c37b0
                                                try clear c38
                                                try clear c38b0
                                                try clear p39
                                                try clear q39
                                                try clear hx39
                                                try clear hf39
                                                try clear hx175_0
                                                try clear hx179_0
                                                try clear hx186_0
                                                try clear hx187_0
                                                try clear hx188_0
                                                try clear hx189_0
                                                try clear hx39_0
                                                try clear p1
                                                try clear p17
                                                try clear p175
                                                try clear p179
                                                try clear p18
                                                try clear p186
                                                try clear p187
                                                try clear p188
                                                try clear p189
                                                try clear p2
                                                try clear p39
                                                try clear p6
                                                try clear q1
                                                try clear q17
                                                try clear q175
                                                try clear q179
                                                try clear q18
                                                try clear q186
                                                try clear q187
                                                try clear q188
                                                try clear q189
                                                try clear q39
                                                obtain ⟨x9_6, rfl, HA, HK6, HO_3, HO_6, HO_7, HB⟩ := hrel
                                                have hl7_6 := (Kd.R_reads' HO_7.out).1
                                                rw [hl7_6] at HO_7
                                                (try simp only [hl7_6])
                                                (try simp only [hl7_6] at HO_3)
                                                (try simp only [hl7_6] at HO_6)
                                                cases gk with
                                                | zero => exact absurd HA.out (by simp [tontinelaw12_SpreadEven.l2])
                                                | succ k6 =>
                                                  have H := HA.out
                                                  clear HA
                                                  simp only [tontinelaw12_SpreadEven.l2] at H
                                                  by_cases c44 : x9_6 < (x3_2.length : Int)
                                                  · rw [if_pos c44] at H
                                                    have c44b0 : decide (x9_6 < (x3_2.length : Int)) = true := decide_eq_true c44
                                                    clear c44
                                                    by_cases c45 : 0 ≤ x9_6
                                                    · rw [if_pos c45] at H
                                                      have c45b0 : decide (0 ≤ x9_6) = true := decide_eq_true c45
                                                      clear c45
                                                      by_cases c46 : x9_6 < (y190.length : Int)
                                                      · rw [if_pos c46] at H
                                                        have c46b0 : decide (x9_6 < (y190.length : Int)) = true := decide_eq_true c46
                                                        clear c46
                                                        by_cases c47 : (wrap64 ((wrap64 ((rd y190 x9_6) * x4_2)) - (wrap64 ((rd x3_2 x9_6) * (wrap64 (x8_4 + 1)))))) > (wrap64 ((x3_2.length : Int) * x4_2))
                                                        · rw [if_pos c47] at H
                                                          have c47b0 : decide ((wrap64 ((x3_2.length : Int) * x4_2)) < (wrap64 ((wrap64 ((rd y190 x9_6) * x4_2)) - (wrap64 ((rd x3_2 x9_6) * (wrap64 (x8_4 + 1))))))) = true := decide_eq_true c47
                                                          clear c47
                                                          obtain rfl := Option.some.inj H
                                                          have p191 : 0 ≤ (x9_6 : Int) := of_decide_eq_true (by first | (with_reducible assumption) | assumption)
                                                          have q191 : x9_6 < (y190.length : Int) := of_decide_eq_true (by first | (with_reducible assumption) | assumption)
                                                          obtain ⟨ad191, e191, hx191_0⟩ := Kd.at_int (Kd.R_reads' HO_7.out).2.2 x9_6 p191 q191
                                                          obtain rfl : (⟨go39, 0, none⟩ : Addr) = ad191 := (by injection e191)
                                                          (first | simp only [add_plain] at hx191_0 | simp only [add_at] at hx191_0 | simp only [Addr.add, Nat.zero_add] at hx191_0 | skip)
                                                          replace p191 := eq_true p191
                                                          replace q191 := eq_true q191
                                                          have p192 : 0 ≤ (x9_6 : Int) := of_decide_eq_true (by first | (with_reducible assumption) | assumption)
                                                          have q192 : x9_6 < (x3_2.length : Int) := of_decide_eq_true (by first | (with_reducible assumption) | assumption)
                                                          obtain ⟨ad192, e192, hx192_0⟩ := Kd.at_int (Kd.R_reads' HO_3.out).2.2 x9_6 p192 q192
                                                          cases e192
                                                          replace p192 := eq_true p192
                                                          replace q192 := eq_true q192
                                                          go_wp2
                                                          repeat (go_quiet (fail); try go_wp2)
                                                          go_ret
                                                          exact ⟨by first | rfl | (simp [errW_none, errW_some] <;> rfl) | (simp [*, errW_none, errW_some] <;> rfl), by repeat (first | (with_reducible first | exact HB.out | apply below_alloc | apply pw_below_drewN | apply below_drew1) | exact HB.out)⟩
                                                        · rw [if_neg c47] at H
                                                          have c47b0 : decide ((wrap64 ((x3_2.length : Int) * x4_2)) < (wrap64 ((wrap64 ((rd y190 x9_6) * x4_2)) - (wrap64 ((rd x3_2 x9_6) * (wrap64 (x8_4 + 1))))))) = false := decide_eq_false c47
                                                          clear c47
                                                          by_cases c48 : (wrap64 (-(wrap64 ((wrap64 ((rd y190 x9_6) * x4_2)) - (wrap64 ((rd x3_2 x9_6) * (wrap64 (x8_4 + 1)))))))) > (wrap64 ((x3_2.length : Int) * x4_2))
                                                          · rw [if_pos c48] at H
                                                            have c48b0 : decide ((wrap64 ((x3_2.length : Int) * x4_2)) < (wrap64 (-(wrap64 ((wrap64 ((rd y190 x9_6) * x4_2)) - (wrap64 ((rd x3_2 x9_6) * (wrap64 (x8_4 + 1))))))))) = true := decide_eq_true c48
                                                            clear c48
                                                            obtain rfl := Option.some.inj H
                                                            have p191 : 0 ≤ (x9_6 : Int) := of_decide_eq_true (by first | (with_reducible assumption) | assumption)
                                                            have q191 : x9_6 < (y190.length : Int) := of_decide_eq_true (by first | (with_reducible assumption) | assumption)
                                                            obtain ⟨ad191, e191, hx191_0⟩ := Kd.at_int (Kd.R_reads' HO_7.out).2.2 x9_6 p191 q191
                                                            obtain rfl : (⟨go39, 0, none⟩ : Addr) = ad191 := (by injection e191)
                                                            (first | simp only [add_plain] at hx191_0 | simp only [add_at] at hx191_0 | simp only [Addr.add, Nat.zero_add] at hx191_0 | skip)
                                                            replace p191 := eq_true p191
                                                            replace q191 := eq_true q191
                                                            have p192 : 0 ≤ (x9_6 : Int) := of_decide_eq_true (by first | (with_reducible assumption) | assumption)
                                                            have q192 : x9_6 < (x3_2.length : Int) := of_decide_eq_true (by first | (with_reducible assumption) | assumption)
                                                            obtain ⟨ad192, e192, hx192_0⟩ := Kd.at_int (Kd.R_reads' HO_3.out).2.2 x9_6 p192 q192
                                                            cases e192
                                                            replace p192 := eq_true p192
                                                            replace q192 := eq_true q192
                                                            go_wp2
                                                            repeat (go_quiet (fail); try go_wp2)
                                                            go_ret
                                                            exact ⟨by first | rfl | (simp [errW_none, errW_some] <;> rfl) | (simp [*, errW_none, errW_some] <;> rfl), by repeat (first | (with_reducible first | exact HB.out | apply below_alloc | apply pw_below_drewN | apply below_drew1) | exact HB.out)⟩
                                                          · rw [if_neg c48] at H
                                                            have c48b0 : decide ((wrap64 ((x3_2.length : Int) * x4_2)) < (wrap64 (-(wrap64 ((wrap64 ((rd y190 x9_6) * x4_2)) - (wrap64 ((rd x3_2 x9_6) * (wrap64 (x8_4 + 1))))))))) = false := decide_eq_false c48
                                                            clear c48
                                                            have H' := Aside0.mk H
                                                            clear H
                                                            have p191 : 0 ≤ (x9_6 : Int) := of_decide_eq_true (by first | (with_reducible assumption) | assumption)
                                                            have q191 : x9_6 < (y190.length : Int) := of_decide_eq_true (by first | (with_reducible assumption) | assumption)
                                                            obtain ⟨ad191, e191, hx191_0⟩ := Kd.at_int (Kd.R_reads' HO_7.out).2.2 x9_6 p191 q191
                                                            obtain rfl : (⟨go39, 0, none⟩ : Addr) = ad191 := (by injection e191)
                                                            (first | simp only [add_plain] at hx191_0 | simp only [add_at] at hx191_0 | simp only [Addr.add, Nat.zero_add] at hx191_0 | skip)
                                                            replace p191 := eq_true p191
                                                            replace q191 := eq_true q191
                                                            have p192 : 0 ≤ (x9_6 : Int) := of_decide_eq_true (by first | (with_reducible assumption) | assumption)
                                                            have q192 : x9_6 < (x3_2.length : Int) := of_decide_eq_true (by first | (with_reducible assumption) | assumption)
                                                            obtain ⟨ad192, e192, hx192_0⟩ := Kd.at_int (Kd.R_reads' HO_3.out).2.2 x9_6 p192 q192
                                                            cases e192
                                                            replace p192 := eq_true p192
                                                            replace q192 := eq_true q192
                                                            go_wp2
                                                            repeat (go_quiet (fail); try go_wp2)
                                                            (try simp only [← hl7_6])
                                                            go_roundg k6
                                                            case measure => have := HJ3.out; have := HK2.out; have := HJ14.out; have := HK4.out; have := HJ27.out; have := HK6.out; omega
                                                            case rel => exact ⟨(wrap64 (x9_6 + 1)), (by first | rfl | (simp; done) | (simp [*]; done)), H', ⟨by have := HJ3.out; have := HK2.out; have := HJ14.out; have := HK4.out; have := HJ27.out; have := HK6.out; omega⟩, ⟨by (try simp only [hl7_6]); (with_reducible repeat (first | apply Kd.R_alloc | apply Kd.R_drewN | apply Kd.R_drew)); exact HO_3.out⟩, ⟨by (try simp only [hl7_6]); (with_reducible repeat (first | apply Kd.R_alloc | apply Kd.R_drewN | apply Kd.R_drew)); exact HO_6.out⟩, ⟨by (try simp only [hl7_6]); (with_reducible repeat (first | apply Kd.R_alloc | apply Kd.R_drewN | apply Kd.R_drew)); exact HO_7.out⟩, ⟨by repeat (first | (with_reducible first | exact HB.out | apply below_alloc | apply pw_below_drewN | apply below_drew1) | exact HB.out)⟩⟩
                                                      · rw [if_neg c46] at H
                                                        exact absurd H (by simp)
                                                    · rw [if_neg c45] at H
                                                      exact absurd H (by simp)
                                                  · rw [if_neg c44] at H
                                                    have c44b0 : decide (x9_6 < (x3_2.length : Int)) = false := decide_eq_false c44
                                                    clear c44
                                                    have H' := Aside0.mk H
                                                    clear H
                                                    go_wp2
                                                    repeat (go_quiet (fail); try go_wp2)
                                                    (try simp only [← hl7_6])
                                                    go_roundg k6
                                                    case measure => have := HJ3.out; have := HK2.out; have := HJ14.out; have := HK4.out; have := HJ27.out; have := HK6.out; omega
                                                    case rel => exact ⟨(y190), (wrap64 (x8_4 + 1)), (by first | rfl | (simp; done) | (simp [*]; done)), H', ⟨by have := HJ3.out; have := HK2.out; have := HJ14.out; have := HK4.out; have := HJ27.out; have := HK6.out; omega⟩, ⟨by (try simp only [hl7_6]); (with_reducible repeat (first | apply Kd.R_alloc | apply Kd.R_drewN | apply Kd.R_drew)); exact HO_3.out⟩, ⟨by (try simp only [hl7_6]); (with_reducible repeat (first | apply Kd.R_alloc | apply Kd.R_drewN | apply Kd.R_drew)); exact HO_6.out⟩, ⟨by (try simp only [hl7_6]); (with_reducible repeat (first | apply Kd.R_alloc | apply Kd.R_drewN | apply Kd.R_drew)); exact HO_7.out⟩, ⟨by repeat (first | (with_reducible first | exact HB.out | apply below_alloc | apply pw_below_drewN | apply below_drew1) | exact HB.out)⟩⟩
                                            · rw [if_neg c38] at H
                                              exact absurd H (by simp)
                                          · rw [if_neg c37] at H
                                            exact absurd H (by simp)
                                        · rw [if_neg c36] at H
                                          exact absurd H (by simp)
                                      · rw [if_neg c35] at H
                                        exact absurd H (by simp)
                              · rw [if_neg c27] at H
                                have c27b0 : decide (x8_4 < x4_2) = false := decide_eq_false c27
                                clear c27
                                obtain rfl := Option.some.inj H
                                go_wp2
                                repeat (go_quiet (fail); try go_wp2)
                                go_ret
                                exact ⟨by first | rfl | (simp [errW_none, errW_some] <;> rfl) | (simp [*, errW_none, errW_some] <;> rfl), by repeat (first | (with_reducible first | exact HB.out | apply below_alloc | apply pw_below_drewN | apply below_drew1) | exact HB.out)⟩
                        · rw [if_neg c24] at H
                          exact absurd H (by simp)
                      · rw [if_neg c23] at H
                        exact absurd H (by simp)
  · replace c3 := Bool.eq_false_iff.mpr c3
    subst c3
    have H1 : (some false) = some r := by rw [if_neg (show ¬ (false = true) by decide)] at H; exact H
    clear H
    have H := H1
    clear H1
    obtain rfl := Option.some.inj H
    go_enter Try.func9, Try.ntmps9
    go_wp2_with (first | (go_at_call 25; (with_reducible refine (tontinelaw12_known.calls k  false _ A2.out).mono ?_); rintro e w49 ⟨rfl, hb⟩; have n0_ := Aside0.mk (below_step (by repeat (first | (with_reducible first | exact HB.out | apply below_alloc | apply pw_below_drewN | apply below_drew1) | exact HB.out)) hb); clear HB; have HB := n0_; clear n0_; (try clear hb); (try clear hb2); (try clear hk); (try clear hi)))
    repeat (go_quiet (first | (go_at_call 25; (with_reducible refine (tontinelaw12_known.calls k  false _ A2.out).mono ?_); rintro e w49 ⟨rfl, hb⟩; have n0_ := Aside0.mk (below_step (by repeat (first | (with_reducible first | exact HB.out | apply below_alloc | apply pw_below_drewN | apply below_drew1) | exact HB.out)) hb); clear HB; have HB := n0_; clear n0_; (try clear hb); (try clear hb2); (try clear hk); (try clear hi))); try go_wp2_with (first | (go_at_call 25; (with_reducible refine (tontinelaw12_known.calls k  false _ A2.out).mono ?_); rintro e w49 ⟨rfl, hb⟩; have n0_ := Aside0.mk (below_step (by repeat (first | (with_reducible first | exact HB.out | apply below_alloc | apply pw_below_drewN | apply below_drew1) | exact HB.out)) hb); clear HB; have HB := n0_; clear n0_; (try clear hb); (try clear hb2); (try clear hk); (try clear hi))))
    go_ret
    exact ⟨by first | rfl | (simp [errW_none, errW_some] <;> rfl) | (simp [*, errW_none, errW_some] <;> rfl), by repeat (first | (with_reducible first | exact HB.out | apply below_alloc | apply pw_below_drewN | apply below_drew1) | exact HB.out)⟩

/-- THE ONE PURE STATEMENT of tontinelaw12_SpreadEven: yours. -/
def tontinelaw12_SpreadEven.Pure : Prop := ∀ (l0 : List Int), l0.length ≤ maxLen → l0.length * 1 ≤ 140737488351232 → (∀ x ∈ l0, (Lit.int .u8 x).wf = true) → ∃ k, tontinelaw12_SpreadEven.f k l0 = some true
theorem tontinelaw12_SpreadEven.walk (P : tontinelaw12_SpreadEven.Pure) (a0 : Option Addr) (len0 cap0 : Nat) (z0 : List Int) (w : World) (w0 : (a0 = none ∧ len0 = 0 ∧ cap0 = 0 ∧ z0 = []) ∨ ∃ x, a0 = some x ∧ len0 ≤ cap0 ∧ cap0 ≤ maxLen ∧ z0.length = cap0 ∧ (∀ i, i < z0.length → w.cell? (x.add i) = some (.int .u8 (z0.getD i 0))) ∧ ∀ n ∈ z0, (Lit.int .u8 n).wf = true) (y0 : len0 * 1 ≤ 140737488351232) :
    Calls Try.prog 9 #[.slice a0 len0 cap0] w fun e w' => e = .returned (.bool true) ∧ Below w.heap.size w w' := by
  obtain ⟨l0, rfl, hr0, hm0, hw0, hc0⟩ := ReadsInt.ofRowC w0
  obtain ⟨k, h⟩ := P l0 hm0 y0 hw0
  refine (tontinelaw12_SpreadEven.calls k _ _ l0 true w (Kd.C_of_reads (d := (0 : Int)) (h1 := fun _ => rfl) hr0) hc0 h).mono ?_
  rintro e w' ⟨rfl, hd⟩
  exact ⟨rfl, hd⟩

end Go.Proofs.Ytgkhnmeemiloaaa.PS
