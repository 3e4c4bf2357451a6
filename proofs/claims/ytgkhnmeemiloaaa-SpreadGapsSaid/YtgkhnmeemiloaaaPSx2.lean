-- Printed for this claim by myprint.py: Go functions as functions of lists and numbers, and that the Go code tells the same.
import Derived.Test.YtgkhnmeemiloaaaPSx0
namespace Go.Proofs.Ytgkhnmeemiloaaa.PS
open Go.RowKit Go.Proofs.YtgkhnmeemiloaaaW.PrintWords Go.Proofs.YtgkhnmeemiloaaaW.PrintLast Go.Proofs.YtgkhnmeemiloaaaW.PrintMore
attribute [local go_sem] max2_int min2_int max_two min_two max_three min_three max_four min_four   -- for this text's walks alone
set_option linter.unusedVariables false
set_option linter.unusedSimpArgs false

/-! ### tontineref11_Gap: function 27 -/
mutual
def tontineref11_Gap.l0 : Nat → List Int → Int → List Int → Int → Option (Int × Int)
  | 0, _, _, _, _ => none
  | k + 1, x0, x1, x6, x7 => if x7 < (x0.length : Int) then (if 0 ≤ x7 then (if (rd x0 x7) = x1 then (if x6.length < 17592186044416 then (tontineref11_Gap.l0 k x0 x1 (x6 ++ [x7]) (wrap64 (x7 + 1))) else (none)) else (tontineref11_Gap.l0 k x0 x1 x6 (wrap64 (x7 + 1)))) else (none)) else (if (x6.length : Int) = 0 then (tontineref11_Gap.j1 k x0 x6 true) else (tontineref11_Gap.j1 k x0 x6 (decide ((x0.length : Int) > 64))))
def tontineref11_Gap.j1 : Nat → List Int → List Int → Bool → Option (Int × Int)
  | 0, _, _, _ => none
  | k + 1, x0, x6, x35 => if x35 = true then (some (0, 0)) else (tontineref11_Gap.l1 k x0 x6 (wrap64 ((x0.length : Int) + 1)) 0 0)
def tontineref11_Gap.l1 : Nat → List Int → List Int → Int → Int → Int → Option (Int × Int)
  | 0, _, _, _, _, _ => none
  | k + 1, x0, x6, x8, x9, x10 => if x10 < (x6.length : Int) then (if (x6.length : Int) = 0 then (none) else (if 0 ≤ (Int.tmod (wrap64 (x10 + 1)) (x6.length : Int)) then (if (Int.tmod (wrap64 (x10 + 1)) (x6.length : Int)) < (x6.length : Int) then (if 0 ≤ x10 then (if (wrap64 ((rd x6 (Int.tmod (wrap64 (x10 + 1)) (x6.length : Int))) - (rd x6 x10))) ≤ 0 then (tontineref11_Gap.l1 k x0 x6 (mn x8 (wrap64 ((wrap64 ((rd x6 (Int.tmod (wrap64 (x10 + 1)) (x6.length : Int))) - (rd x6 x10))) + (x0.length : Int)))) (mx x9 (wrap64 ((wrap64 ((rd x6 (Int.tmod (wrap64 (x10 + 1)) (x6.length : Int))) - (rd x6 x10))) + (x0.length : Int)))) (wrap64 (x10 + 1))) else (tontineref11_Gap.l1 k x0 x6 (mn x8 (wrap64 ((rd x6 (Int.tmod (wrap64 (x10 + 1)) (x6.length : Int))) - (rd x6 x10)))) (mx x9 (wrap64 ((rd x6 (Int.tmod (wrap64 (x10 + 1)) (x6.length : Int))) - (rd x6 x10)))) (wrap64 (x10 + 1)))) else (none)) else (none)) else (none))) else (some (x8, x9))
end
def tontineref11_Gap.f (k : Nat) (l0 : List Int) (a1 : Int) : Option (Int × Int) := tontineref11_Gap.l0 k l0 a1 ([] : List Int) 0
theorem tontineref11_Gap.mono_l : ∀ k, (∀ y0 y1 y2 y3, LeO (tontineref11_Gap.l0 k y0 y1 y2 y3) (tontineref11_Gap.l0 (k + 1) y0 y1 y2 y3)) ∧ (∀ y0 y1 y2, LeO (tontineref11_Gap.j1 k y0 y1 y2) (tontineref11_Gap.j1 (k + 1) y0 y1 y2)) ∧ (∀ y0 y1 y2 y3 y4, LeO (tontineref11_Gap.l1 k y0 y1 y2 y3 y4) (tontineref11_Gap.l1 (k + 1) y0 y1 y2 y3 y4))
  | 0 => ⟨fun _ _ _ _ r h => by simp [tontineref11_Gap.l0] at h, fun _ _ _ r h => by simp [tontineref11_Gap.j1] at h, fun _ _ _ _ _ r h => by simp [tontineref11_Gap.l1] at h⟩
  | k + 1 => by
    obtain ⟨ih0, ih1, ih2⟩ := tontineref11_Gap.mono_l k
    refine ⟨?_, ?_, ?_⟩
    · intro y0 y1 y2 y3
      unfold tontineref11_Gap.l0
      repeat' first
      | (with_reducible exact ih0 _ _ _ _)
      | (with_reducible exact ih1 _ _ _)
      | (with_reducible exact ih2 _ _ _ _ _)
      | (with_reducible exact LeO.refl _)
      | (with_reducible exact LeO.none _)
      | (with_reducible refine LeO.ite ?_ ?_)
      | (with_reducible refine LeO.bind ?_ (fun _ => ?_))
      | exact ih0 _ _ _ _
      | exact ih1 _ _ _
      | exact ih2 _ _ _ _ _
      | exact LeO.none _
      | refine LeO.ite ?_ ?_
      | refine LeO.bind ?_ (fun _ => ?_)
    · intro y0 y1 y2
      unfold tontineref11_Gap.j1
      repeat' first
      | (with_reducible exact ih0 _ _ _ _)
      | (with_reducible exact ih1 _ _ _)
      | (with_reducible exact ih2 _ _ _ _ _)
      | (with_reducible exact LeO.refl _)
      | (with_reducible exact LeO.none _)
      | (with_reducible refine LeO.ite ?_ ?_)
      | (with_reducible refine LeO.bind ?_ (fun _ => ?_))
      | exact ih0 _ _ _ _
      | exact ih1 _ _ _
      | exact ih2 _ _ _ _ _
      | exact LeO.none _
      | refine LeO.ite ?_ ?_
      | refine LeO.bind ?_ (fun _ => ?_)
    · intro y0 y1 y2 y3 y4
      unfold tontineref11_Gap.l1
      repeat' first
      | (with_reducible exact ih0 _ _ _ _)
      | (with_reducible exact ih1 _ _ _)
      | (with_reducible exact ih2 _ _ _ _ _)
      | (with_reducible exact LeO.refl _)
      | (with_reducible exact LeO.none _)
      | (with_reducible refine LeO.ite ?_ ?_)
      | (with_reducible refine LeO.bind ?_ (fun _ => ?_))
      | exact ih0 _ _ _ _
      | exact ih1 _ _ _
      | exact ih2 _ _ _ _ _
      | exact LeO.none _
      | refine LeO.ite ?_ ?_
      | refine LeO.bind ?_ (fun _ => ?_)
theorem tontineref11_Gap.mono : ∀ a0 a1 k, LeO (tontineref11_Gap.f k a0 a1) (tontineref11_Gap.f (k + 1) a0 a1) := by
  intro a0 a1 k
  obtain ⟨ih0, ih1, ih2⟩ := tontineref11_Gap.mono_l k
  unfold tontineref11_Gap.f
  repeat' first
      | (with_reducible exact ih0 _ _ _ _)
      | (with_reducible exact ih1 _ _ _)
      | (with_reducible exact ih2 _ _ _ _ _)
      | (with_reducible exact LeO.refl _)
      | (with_reducible exact LeO.none _)
      | (with_reducible refine LeO.ite ?_ ?_)
      | (with_reducible refine LeO.bind ?_ (fun _ => ?_))
      | exact ih0 _ _ _ _
      | exact ih1 _ _ _
      | exact ih2 _ _ _ _ _
      | exact LeO.none _
      | refine LeO.ite ?_ ?_
      | refine LeO.bind ?_ (fun _ => ?_)
set_option maxHeartbeats 8000000 in
set_option maxRecDepth 100000 in
theorem tontineref11_Gap.calls (k : Nat) (A0 : Option Addr) (c0 : Nat) (l0 : List Int) (a1 : Int) (r1 : Int) (r2 : Int) (w : World) (hr0 : Kd.C (Kd.int .i64) w A0 l0.length l0) (hc0 : l0.length ≤ c0) (h : tontineref11_Gap.f k l0 a1 = some (r1, r2)) :
    Calls Try.prog 27 #[.slice A0 l0.length c0, .int .i64 a1] w fun e w' => e = .returned (.tuple #[.int .i64 r1, .int .i64 r2]) ∧ Below w.heap.size w w' := by
  have HR0 := Aside0.mk hr0
  have HC0 := Aside0.mk hc0
  clear hr0 hc0
  have HB := Aside0.mk (Below.refl w.heap.size w)
  have H : (tontineref11_Gap.l0 k l0 a1 ([] : List Int) 0) = some (r1, r2) := h
  clear h
  have H' := Aside0.mk H
  clear H
  go_enter Try.func27, Try.ntmps27
  go_wp2
  repeat (go_quiet (fail); try go_wp2)
  go_loopg [6, 7] k (fun kq v6 v7 w' => ∃ (x6_1 : List Int) (x7_1 : Int), v7 = .int .i64 x7_1 ∧ Aside0 (tontineref11_Gap.l0 kq l0 a1 x6_1 x7_1 = some (r1, r2)) ∧ Aside0 (kq ≤ k) ∧ Aside0 (Kd.R (Kd.int .i64) 3 w' w.heap.size (fun _ => True) v6 x6_1) ∧ Aside0 (Below w.heap.size w w'))
  case atStart => exact ⟨(([] : List Int)), (0), (by first | rfl | (simp; done) | (simp [*]; done)), H', ⟨Nat.le_refl _⟩, ⟨by first | exact Kd.R_nil _ _ _ _ _ | exact Kd.N_nil _ _ _ _ _ | exact Kd.V_nil _ _ _ _ _ | exact Kd.Q_nil _ _ _ _ _ | exact Kd.S_nil _ _ _ _ _⟩, ⟨by repeat (first | (with_reducible first | exact HB.out | apply below_alloc | apply pw_below_drewN | apply below_drew1) | exact HB.out)⟩⟩
  case round =>
    clear H'
    try clear c2
    try clear p2
    obtain ⟨x6_1, x7_1, rfl, HA, HK1, HO_6, HB⟩ := hrel
    cases gk with
    | zero => exact absurd HA.out (by simp [tontineref11_Gap.l0])
    | succ k1 =>
      have H := HA.out
      clear HA
      simp only [tontineref11_Gap.l0] at H
      by_cases c3 : x7_1 < (l0.length : Int)
      · rw [if_pos c3] at H
        have c3b0 : decide (x7_1 < (l0.length : Int)) = true := decide_eq_true c3
        clear c3
        by_cases c4 : 0 ≤ x7_1
        · rw [if_pos c4] at H
          have c4b0 : decide (0 ≤ x7_1) = true := decide_eq_true c4
          clear c4
          by_cases c5 : (rd l0 x7_1) = a1
          · rw [if_pos c5] at H
            have c5b0 : ((rd l0 x7_1) == a1) = true := beq_iff_eq.mpr c5
            have c5b1 : ((rd l0 x7_1) != a1) = false := bne_eq_false_iff_eq.mpr c5
            clear c5
            by_cases c6 : x6_1.length < 17592186044416
            · rw [if_pos c6] at H
              have LMc6 := Aside0.mk c6
              clear c6
              obtain ⟨y125, hy125⟩ : ∃ y_ : List Int, y_ = (x6_1 ++ [x7_1]) := ⟨_, rfl⟩
              replace H : (tontineref11_Gap.l0 k1 l0 a1 y125 (wrap64 (x7_1 + 1))) = some (r1, r2) := by first | (rw [hy125]; with_reducible exact H) | (have H2_ := (Option.bind_some _ _).symm.trans H; rw [hy125]; with_reducible exact H2_) | (have H2_ := (Option.bind_some _ _).symm.trans H; with_reducible exact H2_) | with_reducible exact H | (rw [hy125]; exact H) | exact H
              have Ny125 := Aside0.mk hy125
              clear hy125
              have H' := Aside0.mk H
              clear H
              have p124 : 0 ≤ (x7_1 : Int) := of_decide_eq_true (by first | (with_reducible assumption) | assumption)
              have q124 : x7_1 < (l0.length : Int) := of_decide_eq_true (by first | (with_reducible assumption) | assumption)
              obtain ⟨ad124, e124, hx124_0⟩ := Kd.at_int HR0.out x7_1 p124 q124
              cases e124
              replace hx124_0 := (HB.out.cell (World.block_lt_of_cell? w _ hx124_0)).trans hx124_0
              replace p124 := eq_true p124
              replace q124 := eq_true q124
              go_wp2_with (first | ((with_reducible refine gate_builtin (b := .append) (xs := #[.tmp 24, .tmp 26]) rfl ?_); (try (refine gate_guard (by rfl) ?_; dsimp only)); at_builtin; refine Kd.R_append (Kd.int .i64) (w0 := w) w.heap.size rfl (.tmp 24) (.tmp 26) 35 3 (.int .i64 0) 8 rfl Try.underlying35 info3 rfl (by decide) (by omega) u6 x6_1 x7_1 [.int .i64 x7_1] (fun _ => True) (fun _ => False) rfl rfl ?aP (fun _ hk => hk.elim) ?aF ?aO ?aB ?aS ?aL ?_; (case aP => exact rfl); (case aB => exact (by repeat (first | (with_reducible first | exact HB.out | apply below_alloc | apply pw_below_drewN | apply below_drew1) | exact HB.out))); (case aF => exact (fun _ _ => trivial)); (case aO => exact (by (with_reducible repeat (first | apply Kd.R_alloc | apply Kd.R_drewN | apply Kd.R_drew)); exact HO_6.out)); (case aS => exact (below_size (by repeat (first | (with_reducible first | exact HB.out | apply below_alloc | apply pw_below_drewN | apply below_drew1) | exact HB.out)))); (case aL => have := LMc6.out; omega); intro v126 w7 ho hb hg hat; rw [← Ny125.out] at ho; have n0_ := Aside0.mk (hb); have n1_ := Aside0.mk (ho); clear HB; clear HO_6; have HB := n0_; have HO127 := n1_; clear n0_ n1_; clear ho hb hg hat))
              repeat (go_quiet (first | ((with_reducible refine gate_builtin (b := .append) (xs := #[.tmp 24, .tmp 26]) rfl ?_); (try (refine gate_guard (by rfl) ?_; dsimp only)); at_builtin; refine Kd.R_append (Kd.int .i64) (w0 := w) w.heap.size rfl (.tmp 24) (.tmp 26) 35 3 (.int .i64 0) 8 rfl Try.underlying35 info3 rfl (by decide) (by omega) u6 x6_1 x7_1 [.int .i64 x7_1] (fun _ => True) (fun _ => False) rfl rfl ?aP (fun _ hk => hk.elim) ?aF ?aO ?aB ?aS ?aL ?_; (case aP => exact rfl); (case aB => exact (by repeat (first | (with_reducible first | exact HB.out | apply below_alloc | apply pw_below_drewN | apply below_drew1) | exact HB.out))); (case aF => exact (fun _ _ => trivial)); (case aO => exact (by (with_reducible repeat (first | apply Kd.R_alloc | apply Kd.R_drewN | apply Kd.R_drew)); exact HO_6.out)); (case aS => exact (below_size (by repeat (first | (with_reducible first | exact HB.out | apply below_alloc | apply pw_below_drewN | apply below_drew1) | exact HB.out)))); (case aL => have := LMc6.out; omega); intro v126 w7 ho hb hg hat; rw [← Ny125.out] at ho; have n0_ := Aside0.mk (hb); have n1_ := Aside0.mk (ho); clear HB; clear HO_6; have HB := n0_; have HO127 := n1_; clear n0_ n1_; clear ho hb hg hat)); try go_wp2_with (first | ((with_reducible refine gate_builtin (b := .append) (xs := #[.tmp 24, .tmp 26]) rfl ?_); (try (refine gate_guard (by rfl) ?_; dsimp only)); at_builtin; refine Kd.R_append (Kd.int .i64) (w0 := w) w.heap.size rfl (.tmp 24) (.tmp 26) 35 3 (.int .i64 0) 8 rfl Try.underlying35 info3 rfl (by decide) (by omega) u6 x6_1 x7_1 [.int .i64 x7_1] (fun _ => True) (fun _ => False) rfl rfl ?aP (fun _ hk => hk.elim) ?aF ?aO ?aB ?aS ?aL ?_; (case aP => exact rfl); (case aB => exact (by repeat (first | (with_reducible first | exact HB.out | apply below_alloc | apply pw_below_drewN | apply below_drew1) | exact HB.out))); (case aF => exact (fun _ _ => trivial)); (case aO => exact (by (with_reducible repeat (first | apply Kd.R_alloc | apply Kd.R_drewN | apply Kd.R_drew)); exact HO_6.out)); (case aS => exact (below_size (by repeat (first | (with_reducible first | exact HB.out | apply below_alloc | apply pw_below_drewN | apply below_drew1) | exact HB.out)))); (case aL => have := LMc6.out; omega); intro v126 w7 ho hb hg hat; rw [← Ny125.out] at ho; have n0_ := Aside0.mk (hb); have n1_ := Aside0.mk (ho); clear HB; clear HO_6; have HB := n0_; have HO127 := n1_; clear n0_ n1_; clear ho hb hg hat)))
              go_roundg k1
              case measure => have := HK1.out; omega
              case rel => exact ⟨(y125), (wrap64 (x7_1 + 1)), (by first | rfl | (simp; done) | (simp [*]; done)), H', ⟨by have := HK1.out; omega⟩, ⟨by (with_reducible repeat (first | apply Kd.R_alloc | apply Kd.R_drewN | apply Kd.R_drew)); exact HO127.out⟩, ⟨by repeat (first | (with_reducible first | exact HB.out | apply below_alloc | apply pw_below_drewN | apply below_drew1) | exact HB.out)⟩⟩
            · rw [if_neg c6] at H
              exact absurd H (by simp)
          · rw [if_neg c5] at H
            have c5b0 : ((rd l0 x7_1) == a1) = false := beq_eq_false_iff_ne.mpr c5
            have c5b1 : ((rd l0 x7_1) != a1) = true := bne_iff_ne.mpr c5
            have H' := Aside0.mk H
            clear H
            have p124 : 0 ≤ (x7_1 : Int) := of_decide_eq_true (by first | (with_reducible assumption) | assumption)
            have q124 : x7_1 < (l0.length : Int) := of_decide_eq_true (by first | (with_reducible assumption) | assumption)
            obtain ⟨ad124, e124, hx124_0⟩ := Kd.at_int HR0.out x7_1 p124 q124
            cases e124
            replace hx124_0 := (HB.out.cell (World.block_lt_of_cell? w _ hx124_0)).trans hx124_0
            replace p124 := eq_true p124
            replace q124 := eq_true q124
            go_wp2
            repeat (go_quiet (fail); try go_wp2)
            go_roundg k1
            case measure => have := HK1.out; omega
            case rel => exact ⟨(x6_1), (wrap64 (x7_1 + 1)), (by first | rfl | (simp; done) | (simp [*]; done)), H', ⟨by have := HK1.out; omega⟩, ⟨by (with_reducible repeat (first | apply Kd.R_alloc | apply Kd.R_drewN | apply Kd.R_drew)); exact HO_6.out⟩, ⟨by repeat (first | (with_reducible first | exact HB.out | apply below_alloc | apply pw_below_drewN | apply below_drew1) | exact HB.out)⟩⟩
        · rw [if_neg c4] at H
          exact absurd H (by simp)
      · rw [if_neg c3] at H
        have c3b0 : decide (x7_1 < (l0.length : Int)) = false := decide_eq_false c3
        clear c3
        have HC8 := Aside0.mk H
        clear H
        go_upto_region 7 with (fail)
        repeat (go_quiet (fail); go_upto_region 7 with (fail))
        go_cut [35] (fun v35 wc => ∃ (kq : Nat) (x35_7 : Bool), v35 = .bool x35_7 ∧ Aside0 (tontineref11_Gap.j1 kq l0 x6_1 x35_7 = some (r1, r2)) ∧ Aside0 (kq ≤ k1) ∧ Aside0 (Kd.R (Kd.int .i64) 3 wc w.heap.size (fun _ => True) u6 x6_1) ∧ Aside0 (Below w.heap.size w wc))
        case first =>
          have H := HC8.out
          clear HC8
          by_cases c9 : (x6_1.length : Int) = 0
          · rw [if_pos c9] at H
            have c9b0 : ((x6_1.length : Int) == 0) = true := beq_iff_eq.mpr c9
            have c9b1 : ((x6_1.length : Int) != 0) = false := bne_eq_false_iff_eq.mpr c9
            clear c9
            (first | rw [c9b0] | (simp only [i64_w, i32_w]; rw [c9b0]) | skip)
            have H' := Aside0.mk H
            clear H
            obtain ⟨Ao10, co10, eo10⟩ := Kd.R_slice HO_6.out
            subst eo10
            go_wp2
            repeat (go_quiet (fail); try go_wp2)
            go_meet
            case rel => exact ⟨_, (true), (by first | rfl | (simp; done) | (simp [*]; done)), H', ⟨by have := HK1.out; first | omega | exact Nat.le_refl _⟩, ⟨by (with_reducible repeat (first | apply Kd.R_alloc | apply Kd.R_drewN | apply Kd.R_drew)); exact HO_6.out⟩, ⟨by repeat (first | (with_reducible first | exact HB.out | apply below_alloc | apply pw_below_drewN | apply below_drew1) | exact HB.out)⟩⟩
          · rw [if_neg c9] at H
            have c9b0 : ((x6_1.length : Int) == 0) = false := beq_eq_false_iff_ne.mpr c9
            have c9b1 : ((x6_1.length : Int) != 0) = true := bne_iff_ne.mpr c9
            have c9b2 : ¬ (x6_1 = []) := fun h_ => c9 (by rw [h_]; rfl)
            (first | rw [c9b0] | (simp only [i64_w, i32_w]; rw [c9b0]) | skip)
            have H' := Aside0.mk H
            clear H
            obtain ⟨Ao11, co11, eo11⟩ := Kd.R_slice HO_6.out
            subst eo11
            go_wp2
            repeat (go_quiet (fail); try go_wp2)
            go_meet
            case rel => exact ⟨_, (decide ((l0.length : Int) > 64)), (by first | rfl | (simp; done) | (simp [*]; done)), H', ⟨by have := HK1.out; first | omega | exact Nat.le_refl _⟩, ⟨by (with_reducible repeat (first | apply Kd.R_alloc | apply Kd.R_drewN | apply Kd.R_drew)); exact HO_6.out⟩, ⟨by repeat (first | (with_reducible first | exact HB.out | apply below_alloc | apply pw_below_drewN | apply below_drew1) | exact HB.out)⟩⟩
        case rest =>
          clear HC8
          try clear p1
          try clear q1
          try clear hx1
          try clear c2
          try clear p2
          try clear c3
          try clear c3b0
          try clear c4
          try clear c4b0
          try clear c5
          try clear c5b0
          try clear c5b1
          try clear c6
          try clear p6
          try clear c9
          try clear c9b0
          try clear c9b1
          try clear c9b2
          try clear hx124_0
          try clear p124
          try clear p2
          try clear q124
          obtain ⟨kq, x35_7, rfl, HA, HJ7, HO_6, HB⟩ := hcut
          cases kq with
          | zero => exact absurd HA.out (by simp [tontineref11_Gap.j1])
          | succ kj7 =>
            have H := HA.out
            clear HA
            simp only [tontineref11_Gap.j1] at H
            by_cases c12 : x35_7 = true
            · subst c12
              have H1 : (some (0, 0)) = some (r1, r2) := by rw [if_pos rfl] at H; exact H
              clear H
              have H := H1
              clear H1
              simp only [Option.some.injEq, Prod.mk.injEq] at H
              obtain ⟨rfl, rfl⟩ := H
              go_wp2
              repeat (go_quiet (fail); try go_wp2)
              go_ret2
              exact ⟨by first | rfl | (simp [errW_none, errW_some] <;> rfl) | (simp [*, errW_none, errW_some] <;> rfl), by repeat (first | (with_reducible first | exact HB.out | apply below_alloc | apply pw_below_drewN | apply below_drew1) | exact HB.out)⟩
            · replace c12 := Bool.eq_false_iff.mpr c12
              subst c12
              have H1 : (tontineref11_Gap.l1 kj7 l0 x6_1 (wrap64 ((l0.length : Int) + 1)) 0 0) = some (r1, r2) := by rw [if_neg (show ¬ (false = true) by decide)] at H; exact H
              clear H
              have H := H1
              clear H1
              have H' := Aside0.mk H
              clear H
              go_wp2
              repeat (go_quiet (fail); try go_wp2)
              go_loopg [8, 9, 10] kj7 (fun kq v8 v9 v10 w' => ∃ (x8_3 : Int) (x9_3 : Int) (x10_3 : Int), v8 = .int .i64 x8_3 ∧ v9 = .int .i64 x9_3 ∧ v10 = .int .i64 x10_3 ∧ Aside0 (tontineref11_Gap.l1 kq l0 x6_1 x8_3 x9_3 x10_3 = some (r1, r2)) ∧ Aside0 (kq ≤ kj7) ∧ Aside0 (Kd.R (Kd.int .i64) 3 w' w.heap.size (fun _ => True) u6 x6_1) ∧ Aside0 (Below w.heap.size w w'))
              case atStart => exact ⟨(wrap64 ((l0.length : Int) + 1)), (0), (0), (by first | rfl | (simp; done) | (simp [*]; done)), (by first | rfl | (simp; done) | (simp [*]; done)), (by first | rfl | (simp; done) | (simp [*]; done)), H', ⟨Nat.le_refl _⟩, ⟨by (with_reducible repeat (first | apply Kd.R_alloc | apply Kd.R_drewN | apply Kd.R_drew)); exact HO_6.out⟩, ⟨by repeat (first | (with_reducible first | exact HB.out | apply below_alloc | apply pw_below_drewN | apply below_drew1) | exact HB.out)⟩⟩
              case round =>
                clear H'
                try clear c1
                try clear p1
                try clear q1
                try clear hx1
                try clear c2
                try clear p2
                try clear c3
                try clear c3b0
                try clear c4
                try clear c4b0
                try clear c5
                try clear c5b0
                try clear c5b1
                try clear c6
                try clear p6
                try clear c9
                try clear c9b0
                try clear c9b1
                try clear c9b2
                try clear c12
                try clear p12
                try clear q12
                try clear hx12
                try clear hx124_0
                try clear p1
                try clear p124
                try clear p2
                try clear p6
                try clear q1
                try clear q124
                obtain ⟨x8_3, x9_3, x10_3, rfl, rfl, rfl, HA, HK3, HO_6, HB⟩ := hrel
                cases gk with
                | zero => exact absurd HA.out (by simp [tontineref11_Gap.l1])
                | succ k3 =>
                  have H := HA.out
                  clear HA
                  simp only [tontineref11_Gap.l1] at H
                  by_cases c13 : x10_3 < (x6_1.length : Int)
                  · rw [if_pos c13] at H
                    have c13b0 : decide (x10_3 < (x6_1.length : Int)) = true := decide_eq_true c13
                    clear c13
                    by_cases c14 : (x6_1.length : Int) = 0
                    · rw [if_pos c14] at H
                      exact absurd H (by simp)
                    · rw [if_neg c14] at H
                      have c14b0 : ((x6_1.length : Int) == 0) = false := beq_eq_false_iff_ne.mpr c14
                      have c14b1 : ((x6_1.length : Int) != 0) = true := bne_iff_ne.mpr c14
                      have c14b2 : ¬ (x6_1 = []) := fun h_ => c14 (by rw [h_]; rfl)
                      obtain ⟨ji15, hji15⟩ : ∃ j_ : Int, (Int.tmod (wrap64 (x10_3 + 1)) (x6_1.length : Int)) = j_ := ⟨_, rfl⟩
                      replace H : (if 0 ≤ (ji15) then (if (ji15) < (x6_1.length : Int) then (if 0 ≤ x10_3 then (if (wrap64 ((rd x6_1 (ji15)) - (rd x6_1 x10_3))) ≤ 0 then (tontineref11_Gap.l1 k3 l0 x6_1 (mn x8_3 (wrap64 ((wrap64 ((rd x6_1 (ji15)) - (rd x6_1 x10_3))) + (l0.length : Int)))) (mx x9_3 (wrap64 ((wrap64 ((rd x6_1 (ji15)) - (rd x6_1 x10_3))) + (l0.length : Int)))) (wrap64 (x10_3 + 1))) else (tontineref11_Gap.l1 k3 l0 x6_1 (mn x8_3 (wrap64 ((rd x6_1 (ji15)) - (rd x6_1 x10_3)))) (mx x9_3 (wrap64 ((rd x6_1 (ji15)) - (rd x6_1 x10_3)))) (wrap64 (x10_3 + 1)))) else (none)) else (none)) else (none)) = some (r1, r2) := by first | (rw [hji15] at H; exact H) | (simp only [hji15] at H ⊢; exact H)
                      by_cases c16 : 0 ≤ (ji15)
                      · rw [if_pos c16] at H
                        have c16b0 : decide (0 ≤ (ji15)) = true := decide_eq_true c16
                        clear c16
                        by_cases c17 : (ji15) < (x6_1.length : Int)
                        · rw [if_pos c17] at H
                          have c17b0 : decide ((ji15) < (x6_1.length : Int)) = true := decide_eq_true c17
                          clear c17
                          by_cases c18 : 0 ≤ x10_3
                          · rw [if_pos c18] at H
                            have c18b0 : decide (0 ≤ x10_3) = true := decide_eq_true c18
                            clear c18
                            by_cases c19 : (wrap64 ((rd x6_1 (ji15)) - (rd x6_1 x10_3))) ≤ 0
                            · rw [if_pos c19] at H
                              have c19b0 : decide ((wrap64 ((rd x6_1 (ji15)) - (rd x6_1 x10_3))) ≤ 0) = true := decide_eq_true c19
                              clear c19
                              obtain ⟨ji20, hji20⟩ : ∃ j_ : Int, (mn x8_3 (wrap64 ((wrap64 ((rd x6_1 (ji15)) - (rd x6_1 x10_3))) + (l0.length : Int)))) = j_ := ⟨_, rfl⟩
                              replace H : (tontineref11_Gap.l1 k3 l0 x6_1 ji20 (mx x9_3 (wrap64 ((wrap64 ((rd x6_1 (ji15)) - (rd x6_1 x10_3))) + (l0.length : Int)))) (wrap64 (x10_3 + 1))) = some (r1, r2) := by first | (rw [hji20] at H; exact H) | (simp only [hji20] at H ⊢; exact H)
                              have hji20_ : (if (wrap64 ((wrap64 ((rd x6_1 (ji15)) - (rd x6_1 x10_3))) + (l0.length : Int))) < x8_3 then (wrap64 ((wrap64 ((rd x6_1 (ji15)) - (rd x6_1 x10_3))) + (l0.length : Int))) else x8_3) = ji20 := hji20
                              obtain ⟨ji21, hji21⟩ : ∃ j_ : Int, (mx x9_3 (wrap64 ((wrap64 ((rd x6_1 (ji15)) - (rd x6_1 x10_3))) + (l0.length : Int)))) = j_ := ⟨_, rfl⟩
                              replace H : (tontineref11_Gap.l1 k3 l0 x6_1 ji20 ji21 (wrap64 (x10_3 + 1))) = some (r1, r2) := by first | (rw [hji21] at H; exact H) | (simp only [hji21] at H ⊢; exact H)
                              have hji21_ : (if x9_3 < (wrap64 ((wrap64 ((rd x6_1 (ji15)) - (rd x6_1 x10_3))) + (l0.length : Int))) then (wrap64 ((wrap64 ((rd x6_1 (ji15)) - (rd x6_1 x10_3))) + (l0.length : Int))) else x9_3) = ji21 := hji21
                              have H' := Aside0.mk H
                              clear H
                              obtain ⟨Ao22, co22, eo22⟩ := Kd.R_slice HO_6.out
                              subst eo22
                              have p128 : 0 ≤ ((ji15) : Int) := of_decide_eq_true (by first | (with_reducible assumption) | assumption)
                              have q128 : (ji15) < (x6_1.length : Int) := of_decide_eq_true (by first | (with_reducible assumption) | assumption)
                              obtain ⟨ad128, e128, hx128_0⟩ := Kd.at_int (Kd.R_reads' HO_6.out).2.2 (ji15) p128 q128
                              cases e128
                              replace p128 := eq_true p128
                              replace q128 := eq_true q128
                              have p129 : 0 ≤ (x10_3 : Int) := of_decide_eq_true (by first | (with_reducible assumption) | assumption)
                              have q129 : x10_3 < (x6_1.length : Int) := of_decide_eq_true (by first | (with_reducible assumption) | assumption)
                              obtain ⟨ad129, e129, hx129_0⟩ := Kd.at_int (Kd.R_reads' HO_6.out).2.2 x10_3 p129 q129
                              obtain rfl : ad128 = ad129 := (by injection e129)
                              replace p129 := eq_true p129
                              replace q129 := eq_true q129
                              go_wp2
                              repeat (go_quiet (fail); try go_wp2)
                              go_roundg k3
                              case measure => have := HK1.out; have := HJ7.out; have := HK3.out; omega
                              case rel => exact ⟨(ji20), (ji21), (wrap64 (x10_3 + 1)), (by first | rfl | (simp; done) | (simp only [← hji20] <;> (first | rfl | simp)) | (simp [*]; done)), (by first | rfl | (simp; done) | (simp only [← hji21] <;> (first | rfl | simp)) | (simp [*]; done)), (by first | rfl | (simp; done) | (simp [*]; done)), H', ⟨by have := HK1.out; have := HJ7.out; have := HK3.out; omega⟩, ⟨by (with_reducible repeat (first | apply Kd.R_alloc | apply Kd.R_drewN | apply Kd.R_drew)); exact HO_6.out⟩, ⟨by repeat (first | (with_reducible first | exact HB.out | apply below_alloc | apply pw_below_drewN | apply below_drew1) | exact HB.out)⟩⟩
                            · rw [if_neg c19] at H
                              have c19b0 : decide ((wrap64 ((rd x6_1 (ji15)) - (rd x6_1 x10_3))) ≤ 0) = false := decide_eq_false c19
                              clear c19
                              obtain ⟨ji23, hji23⟩ : ∃ j_ : Int, (mn x8_3 (wrap64 ((rd x6_1 (ji15)) - (rd x6_1 x10_3)))) = j_ := ⟨_, rfl⟩
                              replace H : (tontineref11_Gap.l1 k3 l0 x6_1 ji23 (mx x9_3 (wrap64 ((rd x6_1 (ji15)) - (rd x6_1 x10_3)))) (wrap64 (x10_3 + 1))) = some (r1, r2) := by first | (rw [hji23] at H; exact H) | (simp only [hji23] at H ⊢; exact H)
                              have hji23_ : (if (wrap64 ((rd x6_1 (ji15)) - (rd x6_1 x10_3))) < x8_3 then (wrap64 ((rd x6_1 (ji15)) - (rd x6_1 x10_3))) else x8_3) = ji23 := hji23
                              obtain ⟨ji24, hji24⟩ : ∃ j_ : Int, (mx x9_3 (wrap64 ((rd x6_1 (ji15)) - (rd x6_1 x10_3)))) = j_ := ⟨_, rfl⟩
                              replace H : (tontineref11_Gap.l1 k3 l0 x6_1 ji23 ji24 (wrap64 (x10_3 + 1))) = some (r1, r2) := by first | (rw [hji24] at H; exact H) | (simp only [hji24] at H ⊢; exact H)
                              have hji24_ : (if x9_3 < (wrap64 ((rd x6_1 (ji15)) - (rd x6_1 x10_3))) then (wrap64 ((rd x6_1 (ji15)) - (rd x6_1 x10_3))) else x9_3) = ji24 := hji24
                              have H' := Aside0.mk H
                              clear H
                              obtain ⟨Ao25, co25, eo25⟩ := Kd.R_slice HO_6.out
                              subst eo25
                              have p128 : 0 ≤ ((ji15) : Int) := of_decide_eq_true (by first | (with_reducible assumption) | assumption)
                              have q128 : (ji15) < (x6_1.length : Int) := of_decide_eq_true (by first | (with_reducible assumption) | assumption)
                              obtain ⟨ad128, e128, hx128_0⟩ := Kd.at_int (Kd.R_reads' HO_6.out).2.2 (ji15) p128 q128
                              cases e128
                              replace p128 := eq_true p128
                              replace q128 := eq_true q128
                              have p129 : 0 ≤ (x10_3 : Int) := of_decide_eq_true (by first | (with_reducible assumption) | assumption)
                              have q129 : x10_3 < (x6_1.length : Int) := of_decide_eq_true (by first | (with_reducible assumption) | assumption)
                              obtain ⟨ad129, e129, hx129_0⟩ := Kd.at_int (Kd.R_reads' HO_6.out).2.2 x10_3 p129 q129
                              obtain rfl : ad128 = ad129 := (by injection e129)
                              replace p129 := eq_true p129
                              replace q129 := eq_true q129
                              go_wp2
                              repeat (go_quiet (fail); try go_wp2)
                              go_roundg k3
                              case measure => have := HK1.out; have := HJ7.out; have := HK3.out; omega
                              case rel => exact ⟨(ji23), (ji24), (wrap64 (x10_3 + 1)), (by first | rfl | (simp; done) | (simp only [← hji23] <;> (first | rfl | simp)) | (simp [*]; done)), (by first | rfl | (simp; done) | (simp only [← hji24] <;> (first | rfl | simp)) | (simp [*]; done)), (by first | rfl | (simp; done) | (simp [*]; done)), H', ⟨by have := HK1.out; have := HJ7.out; have := HK3.out; omega⟩, ⟨by (with_reducible repeat (first | apply Kd.R_alloc | apply Kd.R_drewN | apply Kd.R_drew)); exact HO_6.out⟩, ⟨by repeat (first | (with_reducible first | exact HB.out | apply below_alloc | apply pw_below_drewN | apply below_drew1) | exact HB.out)⟩⟩
                          · rw [if_neg c18] at H
                            exact absurd H (by simp)
                        · rw [if_neg c17] at H
                          exact absurd H (by simp)
                      · rw [if_neg c16] at H
                        exact absurd H (by simp)
                  · rw [if_neg c13] at H
                    have c13b0 : decide (x10_3 < (x6_1.length : Int)) = false := decide_eq_false c13
                    clear c13
                    simp only [Option.some.injEq, Prod.mk.injEq] at H
                    obtain ⟨rfl, rfl⟩ := H
                    obtain ⟨Ao26, co26, eo26⟩ := Kd.R_slice HO_6.out
                    subst eo26
                    go_wp2
                    repeat (go_quiet (fail); try go_wp2)
                    go_ret2
                    exact ⟨by first | rfl | (simp [errW_none, errW_some] <;> rfl) | (simp [*, errW_none, errW_some] <;> rfl), by repeat (first | (with_reducible first | exact HB.out | apply below_alloc | apply pw_below_drewN | apply below_drew1) | exact HB.out)⟩

/-! ### tontineref11_total: function 38 -/
def tontineref11_total.l0 : Nat → List Int → Int → Int → Option (Int)
  | 0, _, _, _ => none
  | k + 1, x0, x3, x4 => if x4 < (x0.length : Int) then (if 0 ≤ x4 then (tontineref11_total.l0 k x0 (wrap64 (x3 + (rd x0 x4))) (wrap64 (x4 + 1))) else (none)) else (some x3)
def tontineref11_total.f (k : Nat) (l0 : List Int) : Option (Int) := tontineref11_total.l0 k l0 0 0
theorem tontineref11_total.mono_l : ∀ k, (∀ y0 y1 y2, LeO (tontineref11_total.l0 k y0 y1 y2) (tontineref11_total.l0 (k + 1) y0 y1 y2))
  | 0 => fun _ _ _ r h => by simp [tontineref11_total.l0] at h
  | k + 1 => by
    have ih0 := tontineref11_total.mono_l k
    · intro y0 y1 y2
      unfold tontineref11_total.l0
      repeat' first
      | (with_reducible exact ih0 _ _ _)
      | (with_reducible exact LeO.refl _)
      | (with_reducible exact LeO.none _)
      | (with_reducible refine LeO.ite ?_ ?_)
      | (with_reducible refine LeO.bind ?_ (fun _ => ?_))
      | exact ih0 _ _ _
      | exact LeO.none _
      | refine LeO.ite ?_ ?_
      | refine LeO.bind ?_ (fun _ => ?_)
theorem tontineref11_total.mono : ∀ a0 k, LeO (tontineref11_total.f k a0) (tontineref11_total.f (k + 1) a0) := by
  intro a0 k
  have ih0 := tontineref11_total.mono_l k
  unfold tontineref11_total.f
  repeat' first
      | (with_reducible exact ih0 _ _ _)
      | (with_reducible exact LeO.refl _)
      | (with_reducible exact LeO.none _)
      | (with_reducible refine LeO.ite ?_ ?_)
      | (with_reducible refine LeO.bind ?_ (fun _ => ?_))
      | exact ih0 _ _ _
      | exact LeO.none _
      | refine LeO.ite ?_ ?_
      | refine LeO.bind ?_ (fun _ => ?_)
set_option maxHeartbeats 8000000 in
set_option maxRecDepth 100000 in
theorem tontineref11_total.calls (k : Nat) (A0 : Option Addr) (c0 : Nat) (l0 : List Int) (r : Int) (w : World) (hr0 : Kd.C (Kd.int .i64) w A0 l0.length l0) (hc0 : l0.length ≤ c0) (h : tontineref11_total.f k l0 = some r) :
    Calls Try.prog 38 #[.slice A0 l0.length c0] w fun e w' => e = .returned (.int .i64 r) ∧ Drawn0 w w' := by
  have HR0 := Aside0.mk hr0
  have HC0 := Aside0.mk hc0
  clear hr0 hc0
  have H : (tontineref11_total.l0 k l0 0 0) = some r := h
  clear h
  have H' := Aside0.mk H
  clear H
  go_enter Try.func38, Try.ntmps38
  go_wp2
  go_loopg [3, 4] k (fun kq v3 v4 w' => ∃ (x3_1 : Int) (x4_1 : Int), v3 = .int .i64 x3_1 ∧ v4 = .int .i64 x4_1 ∧ Aside0 (tontineref11_total.l0 kq l0 x3_1 x4_1 = some r) ∧ Aside0 (kq ≤ k) ∧ Drawn0 w w')
  case atStart => exact ⟨(0), (0), (by first | rfl | (simp; done) | (simp [*]; done)), (by first | rfl | (simp; done) | (simp [*]; done)), H', ⟨Nat.le_refl _⟩, by repeat (first | exact Drawn0.refl _ | apply Drawn0.step)⟩
  case round =>
    clear H'
    obtain ⟨x3_1, x4_1, rfl, rfl, HA, HK1, ⟨m1, rfl⟩⟩ := hrel
    cases gk with
    | zero => exact absurd HA.out (by simp [tontineref11_total.l0])
    | succ k1 =>
      have H := HA.out
      clear HA
      simp only [tontineref11_total.l0] at H
      by_cases c2 : x4_1 < (l0.length : Int)
      · rw [if_pos c2] at H
        have c2b0 : decide (x4_1 < (l0.length : Int)) = true := decide_eq_true c2
        clear c2
        by_cases c3 : 0 ≤ x4_1
        · rw [if_pos c3] at H
          have c3b0 : decide (0 ≤ x4_1) = true := decide_eq_true c3
          clear c3
          have H' := Aside0.mk H
          clear H
          have p130 : 0 ≤ (x4_1 : Int) := of_decide_eq_true (by first | (with_reducible assumption) | assumption)
          have q130 : x4_1 < (l0.length : Int) := of_decide_eq_true (by first | (with_reducible assumption) | assumption)
          obtain ⟨ad130, e130, hx130_0⟩ := Kd.at_int HR0.out x4_1 p130 q130
          cases e130
          replace p130 := eq_true p130
          replace q130 := eq_true q130
          go_wp2
          go_roundg k1
          case measure => have := HK1.out; omega
          case rel => exact ⟨(wrap64 (x3_1 + (rd l0 x4_1))), (wrap64 (x4_1 + 1)), (by first | rfl | (simp; done) | (simp [*]; done)), (by first | rfl | (simp; done) | (simp [*]; done)), H', ⟨by have := HK1.out; omega⟩, by repeat (first | exact Drawn0.refl _ | apply Drawn0.step)⟩
        · rw [if_neg c3] at H
          exact absurd H (by simp)
      · rw [if_neg c2] at H
        have c2b0 : decide (x4_1 < (l0.length : Int)) = false := decide_eq_false c2
        clear c2
        obtain rfl := Option.some.inj H
        go_wp2
        go_ret
        exact ⟨by first | rfl | (simp; done) | (simp [*]; done), by repeat (first | exact Drawn0.refl _ | apply Drawn0.step)⟩

/-! ### tontineref11_MayCounts: function 37 -/
mutual
def tontineref11_MayCounts.j0 : Nat → List Int → Bool → Option (Bool)
  | 0, _, _ => none
  | k + 1, x0, x12 => if x12 = true then (some false) else (tontineref11_MayCounts.l0 k x0 0)
def tontineref11_MayCounts.l0 : Nat → List Int → Int → Option (Bool)
  | 0, _, _ => none
  | k + 1, x0, x3 => if x3 < (x0.length : Int) then (if 0 ≤ x3 then (if (rd x0 x3) < 0 then (some false) else (if (rd x0 x3) > 64 then (some false) else (tontineref11_MayCounts.l0 k x0 (wrap64 (x3 + 1))))) else (none)) else ((tontineref11_total.f k x0).bind fun t133 => (if t133 ≥ 1 then (some (decide (t133 ≤ 64))) else (some false)))
end
def tontineref11_MayCounts.f (k : Nat) (l0 : List Int) : Option (Bool) := if (l0.length : Int) < 1 then (tontineref11_MayCounts.j0 k l0 true) else (tontineref11_MayCounts.j0 k l0 (decide ((l0.length : Int) > 6)))
theorem tontineref11_MayCounts.mono_l : ∀ k, (∀ y0 y1, LeO (tontineref11_MayCounts.j0 k y0 y1) (tontineref11_MayCounts.j0 (k + 1) y0 y1)) ∧ (∀ y0 y1, LeO (tontineref11_MayCounts.l0 k y0 y1) (tontineref11_MayCounts.l0 (k + 1) y0 y1))
  | 0 => ⟨fun _ _ r h => by simp [tontineref11_MayCounts.j0] at h, fun _ _ r h => by simp [tontineref11_MayCounts.l0] at h⟩
  | k + 1 => by
    obtain ⟨ih0, ih1⟩ := tontineref11_MayCounts.mono_l k
    refine ⟨?_, ?_⟩
    · intro y0 y1
      unfold tontineref11_MayCounts.j0
      repeat' first
      | (with_reducible exact ih0 _ _)
      | (with_reducible exact ih1 _ _)
      | (with_reducible exact tontineref11_total.mono _ _)
      | (with_reducible exact LeO.refl _)
      | (with_reducible exact LeO.none _)
      | (with_reducible refine LeO.ite ?_ ?_)
      | (with_reducible refine LeO.bind ?_ (fun _ => ?_))
      | exact ih0 _ _
      | exact ih1 _ _
      | exact tontineref11_total.mono _ _
      | exact LeO.none _
      | refine LeO.ite ?_ ?_
      | refine LeO.bind ?_ (fun _ => ?_)
    · intro y0 y1
      unfold tontineref11_MayCounts.l0
      repeat' first
      | (with_reducible exact ih0 _ _)
      | (with_reducible exact ih1 _ _)
      | (with_reducible exact tontineref11_total.mono _ _)
      | (with_reducible exact LeO.refl _)
      | (with_reducible exact LeO.none _)
      | (with_reducible refine LeO.ite ?_ ?_)
      | (with_reducible refine LeO.bind ?_ (fun _ => ?_))
      | exact ih0 _ _
      | exact ih1 _ _
      | exact tontineref11_total.mono _ _
      | exact LeO.none _
      | refine LeO.ite ?_ ?_
      | refine LeO.bind ?_ (fun _ => ?_)
theorem tontineref11_MayCounts.mono : ∀ a0 k, LeO (tontineref11_MayCounts.f k a0) (tontineref11_MayCounts.f (k + 1) a0) := by
  intro a0 k
  obtain ⟨ih0, ih1⟩ := tontineref11_MayCounts.mono_l k
  unfold tontineref11_MayCounts.f
  repeat' first
      | (with_reducible exact ih0 _ _)
      | (with_reducible exact ih1 _ _)
      | (with_reducible exact tontineref11_total.mono _ _)
      | (with_reducible exact LeO.refl _)
      | (with_reducible exact LeO.none _)
      | (with_reducible refine LeO.ite ?_ ?_)
      | (with_reducible refine LeO.bind ?_ (fun _ => ?_))
      | exact ih0 _ _
      | exact ih1 _ _
      | exact tontineref11_total.mono _ _
      | exact LeO.none _
      | refine LeO.ite ?_ ?_
      | refine LeO.bind ?_ (fun _ => ?_)
set_option maxHeartbeats 8000000 in
set_option maxRecDepth 100000 in
theorem tontineref11_MayCounts.calls (k : Nat) (A0 : Option Addr) (c0 : Nat) (l0 : List Int) (r : Bool) (w : World) (hr0 : Kd.C (Kd.int .i64) w A0 l0.length l0) (hc0 : l0.length ≤ c0) (h : tontineref11_MayCounts.f k l0 = some r) :
    Calls Try.prog 37 #[.slice A0 l0.length c0] w fun e w' => e = .returned (.bool r) ∧ Drawn0 w w' := by
  have HR0 := Aside0.mk hr0
  have HC0 := Aside0.mk hc0
  clear hr0 hc0
  have H : (if (l0.length : Int) < 1 then (tontineref11_MayCounts.j0 k l0 true) else (tontineref11_MayCounts.j0 k l0 (decide ((l0.length : Int) > 6)))) = some r := h
  clear h
  have HC2 := Aside0.mk H
  clear H
  go_enter Try.func37, Try.ntmps37
  go_upto_region 1 with (fail)
  go_cut [12] (fun v12 wc => ∃ (kq : Nat) (x12_1 : Bool), v12 = .bool x12_1 ∧ Aside0 (tontineref11_MayCounts.j0 kq l0 x12_1 = some r) ∧ Aside0 (kq ≤ k) ∧ Drawn0 w wc)
  case first =>
    have H := HC2.out
    clear HC2
    by_cases c3 : (l0.length : Int) < 1
    · rw [if_pos c3] at H
      have c3b0 : decide ((l0.length : Int) < 1) = true := decide_eq_true c3
      have c3b1 : decide (l0.length < 1) = true := decide_eq_true (by omega)
      clear c3
      (first | rw [c3b0] | (simp only [i64_w, i32_w]; rw [c3b0]) | skip)
      have H' := Aside0.mk H
      clear H
      go_wp2
      go_meet
      case rel => exact ⟨_, (true), (by first | rfl | (simp; done) | (simp [*]; done)), H', ⟨by first | omega | exact Nat.le_refl _⟩, by repeat (first | exact Drawn0.refl _ | apply Drawn0.step)⟩
    · rw [if_neg c3] at H
      have c3b0 : decide ((l0.length : Int) < 1) = false := decide_eq_false c3
      have c3b1 : decide (l0.length < 1) = false := decide_eq_false (by omega)
      clear c3
      (first | rw [c3b0] | (simp only [i64_w, i32_w]; rw [c3b0]) | skip)
      have H' := Aside0.mk H
      clear H
      go_wp2
      go_meet
      case rel => exact ⟨_, (decide ((l0.length : Int) > 6)), (by first | rfl | (simp; done) | (simp [*]; done)), H', ⟨by first | omega | exact Nat.le_refl _⟩, by repeat (first | exact Drawn0.refl _ | apply Drawn0.step)⟩
  case rest =>
    clear HC2
    try clear p2
    try clear c3
    try clear c3b0
    try clear c3b1
    obtain ⟨kq, x12_1, rfl, HA, HJ1, ⟨mc1, rfl⟩⟩ := hcut
    cases kq with
    | zero => exact absurd HA.out (by simp [tontineref11_MayCounts.j0])
    | succ kj1 =>
      have H := HA.out
      clear HA
      simp only [tontineref11_MayCounts.j0] at H
      by_cases c4 : x12_1 = true
      · subst c4
        have H1 : (some false) = some r := by rw [if_pos rfl] at H; exact H
        clear H
        have H := H1
        clear H1
        obtain rfl := Option.some.inj H
        go_wp2
        go_ret
        exact ⟨by first | rfl | (simp; done) | (simp [*]; done), by repeat (first | exact Drawn0.refl _ | apply Drawn0.step)⟩
      · replace c4 := Bool.eq_false_iff.mpr c4
        subst c4
        have H1 : (tontineref11_MayCounts.l0 kj1 l0 0) = some r := by rw [if_neg (show ¬ (false = true) by decide)] at H; exact H
        clear H
        have H := H1
        clear H1
        have H' := Aside0.mk H
        clear H
        go_wp2
        go_loopg [3] kj1 (fun kq v3 w' => ∃ (x3_2 : Int), v3 = .int .i64 x3_2 ∧ Aside0 (tontineref11_MayCounts.l0 kq l0 x3_2 = some r) ∧ Aside0 (kq ≤ kj1) ∧ Drawn0 w w')
        case atStart => exact ⟨(0), (by first | rfl | (simp; done) | (simp [*]; done)), H', ⟨Nat.le_refl _⟩, by repeat (first | exact Drawn0.refl _ | apply Drawn0.step)⟩
        case round =>
          clear H'
          try clear c1
          try clear p2
          try clear c3
          try clear c3b0
          try clear c3b1
          try clear c4
          try clear p2
          obtain ⟨x3_2, rfl, HA, HK2, ⟨m2, rfl⟩⟩ := hrel
          cases gk with
          | zero => exact absurd HA.out (by simp [tontineref11_MayCounts.l0])
          | succ k2 =>
            have H := HA.out
            clear HA
            simp only [tontineref11_MayCounts.l0] at H
            by_cases c5 : x3_2 < (l0.length : Int)
            · rw [if_pos c5] at H
              have c5b0 : decide (x3_2 < (l0.length : Int)) = true := decide_eq_true c5
              clear c5
              by_cases c6 : 0 ≤ x3_2
              · rw [if_pos c6] at H
                have c6b0 : decide (0 ≤ x3_2) = true := decide_eq_true c6
                clear c6
                by_cases c7 : (rd l0 x3_2) < 0
                · rw [if_pos c7] at H
                  have c7b0 : decide ((rd l0 x3_2) < 0) = true := decide_eq_true c7
                  clear c7
                  obtain rfl := Option.some.inj H
                  have p131 : 0 ≤ (x3_2 : Int) := of_decide_eq_true (by first | (with_reducible assumption) | assumption)
                  have q131 : x3_2 < (l0.length : Int) := of_decide_eq_true (by first | (with_reducible assumption) | assumption)
                  obtain ⟨ad131, e131, hx131_0⟩ := Kd.at_int HR0.out x3_2 p131 q131
                  cases e131
                  replace p131 := eq_true p131
                  replace q131 := eq_true q131
                  go_wp2
                  go_ret
                  exact ⟨by first | rfl | (simp; done) | (simp [*]; done), by repeat (first | exact Drawn0.refl _ | apply Drawn0.step)⟩
                · rw [if_neg c7] at H
                  have c7b0 : decide ((rd l0 x3_2) < 0) = false := decide_eq_false c7
                  clear c7
                  by_cases c8 : (rd l0 x3_2) > 64
                  · rw [if_pos c8] at H
                    have c8b0 : decide (64 < (rd l0 x3_2)) = true := decide_eq_true c8
                    clear c8
                    obtain rfl := Option.some.inj H
                    have p131 : 0 ≤ (x3_2 : Int) := of_decide_eq_true (by first | (with_reducible assumption) | assumption)
                    have q131 : x3_2 < (l0.length : Int) := of_decide_eq_true (by first | (with_reducible assumption) | assumption)
                    obtain ⟨ad131, e131, hx131_0⟩ := Kd.at_int HR0.out x3_2 p131 q131
                    cases e131
                    replace p131 := eq_true p131
                    replace q131 := eq_true q131
                    have p132 : 0 ≤ (x3_2 : Int) := of_decide_eq_true (by first | (with_reducible assumption) | assumption)
                    have q132 : x3_2 < (l0.length : Int) := of_decide_eq_true (by first | (with_reducible assumption) | assumption)
                    obtain ⟨ad132, e132, hx132_0⟩ := Kd.at_int HR0.out x3_2 p132 q132
                    obtain rfl : ad131 = ad132 := (by injection e132)
                    replace p132 := eq_true p132
                    replace q132 := eq_true q132
                    go_wp2
                    go_ret
                    exact ⟨by first | rfl | (simp; done) | (simp [*]; done), by repeat (first | exact Drawn0.refl _ | apply Drawn0.step)⟩
                  · rw [if_neg c8] at H
                    have c8b0 : decide (64 < (rd l0 x3_2)) = false := decide_eq_false c8
                    clear c8
                    have H' := Aside0.mk H
                    clear H
                    have p131 : 0 ≤ (x3_2 : Int) := of_decide_eq_true (by first | (with_reducible assumption) | assumption)
                    have q131 : x3_2 < (l0.length : Int) := of_decide_eq_true (by first | (with_reducible assumption) | assumption)
                    obtain ⟨ad131, e131, hx131_0⟩ := Kd.at_int HR0.out x3_2 p131 q131
                    cases e131
                    replace p131 := eq_true p131
                    replace q131 := eq_true q131
                    have p132 : 0 ≤ (x3_2 : Int) := of_decide_eq_true (by first | (with_reducible assumption) | assumption)
                    have q132 : x3_2 < (l0.length : Int) := of_decide_eq_true (by first | (with_reducible assumption) | assumption)
                    obtain ⟨ad132, e132, hx132_0⟩ := Kd.at_int HR0.out x3_2 p132 q132
                    obtain rfl : ad131 = ad132 := (by injection e132)
                    replace p132 := eq_true p132
                    replace q132 := eq_true q132
                    go_wp2
                    go_roundg k2
                    case measure => have := HJ1.out; have := HK2.out; omega
                    case rel => exact ⟨(wrap64 (x3_2 + 1)), (by first | rfl | (simp; done) | (simp [*]; done)), H', ⟨by have := HJ1.out; have := HK2.out; omega⟩, by repeat (first | exact Drawn0.refl _ | apply Drawn0.step)⟩
              · rw [if_neg c6] at H
                exact absurd H (by simp)
            · rw [if_neg c5] at H
              have c5b0 : decide (x3_2 < (l0.length : Int)) = false := decide_eq_false c5
              clear c5
              replace H := Option.bind_eq_some_iff.mp H
              obtain ⟨t133, A90, H⟩ := H
              replace H : (if t133 ≥ 1 then (some (decide (t133 ≤ 64))) else (some false)) = some r := H
              have A9 := Aside0.mk A90
              clear A90
              by_cases c10 : t133 ≥ 1
              · rw [if_pos c10] at H
                have c10b0 : decide (1 ≤ t133) = true := decide_eq_true c10
                clear c10
                obtain rfl := Option.some.inj H
                go_wp2_with (first | ((with_reducible refine gate_callee (f := 38) rfl ?_); refine goesL_ (some 32) rfl rfl Try.func38 (by kernel_rfl) rfl #[.slice A0 l0.length c0] rfl (by (try simp only [List.map_toArray, List.map_cons, List.map_nil]); first | done | rfl | (simp only [List.length_drop, List.length_take]; rfl)) ?_; (with_reducible refine (tontineref11_total.calls k2 _ _ l0 t133 _ ?side1 ?side2 A9.out).mono ?_); (case side1 => repeat (first | exact HR0.out | (with_reducible refine Kd.C_alloc ?_ _) | (with_reducible refine Kd.C_drewN ?_ _) | (with_reducible refine Kd.C_drew ?_))); (case side2 => exact HC0.out); rintro e w' ⟨rfl, ⟨nd, rfl⟩⟩; refine ⟨_, rfl, ?_⟩))
                go_ret
                exact ⟨by first | rfl | (simp; done) | (simp [*]; done), by repeat (first | exact Drawn0.refl _ | apply Drawn0.step)⟩
              · rw [if_neg c10] at H
                have c10b0 : decide (1 ≤ t133) = false := decide_eq_false c10
                clear c10
                obtain rfl := Option.some.inj H
                go_wp2_with (first | ((with_reducible refine gate_callee (f := 38) rfl ?_); refine goesL_ (some 32) rfl rfl Try.func38 (by kernel_rfl) rfl #[.slice A0 l0.length c0] rfl (by (try simp only [List.map_toArray, List.map_cons, List.map_nil]); first | done | rfl | (simp only [List.length_drop, List.length_take]; rfl)) ?_; (with_reducible refine (tontineref11_total.calls k2 _ _ l0 t133 _ ?side1 ?side2 A9.out).mono ?_); (case side1 => repeat (first | exact HR0.out | (with_reducible refine Kd.C_alloc ?_ _) | (with_reducible refine Kd.C_drewN ?_ _) | (with_reducible refine Kd.C_drew ?_))); (case side2 => exact HC0.out); rintro e w' ⟨rfl, ⟨nd, rfl⟩⟩; refine ⟨_, rfl, ?_⟩))
                go_ret
                exact ⟨by first | rfl | (simp; done) | (simp [*]; done), by repeat (first | exact Drawn0.refl _ | apply Drawn0.step)⟩

end Go.Proofs.Ytgkhnmeemiloaaa.PS
