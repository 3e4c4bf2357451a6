/- tree: strides, passes as floats; New, Deep, Node. Conditions: none. -/
import Derived.Test.YtjbjngikaiggdaaGreatTf
import Derived.Test.YtjbjngikaiggdaaGreatPq5
set_option linter.unusedVariables false
set_option linter.unusedSimpArgs false
namespace Go.Proofs.YtjbjngikaiggdaaGreat
open Go.RowKit G
set_option maxRecDepth 100000 in
theorem strIs_walk (H : List SP) (w_ : Int) : ∀ w, Sat w H → Calls Tryz.prog 18 #[.int .i64 w_] w (Ret (ι := Unit) (fun _ => .bool (isW w_)) fun _ => H) := by
  refine enterG (fn := Tryz.f18) 9 [.int .i64 w_] Tryz.func18 (by kernel_rfl) (by kernel_rfl) (by kernel_rfl) ?_
  refine seqR (by kernel_rfl) ?_
  refine regionR 1 (by kernel_rfl) (by kernel_rfl) ?_
  refine (run0 (z := 0) 1 [0, 2] [(0, .int .i64 w_), (2, .bool false)] (fun _ => by kernel_rfl) (endR ?_) : RT _ _ _ _ _ _ 1 _)
  refine seqR (by kernel_rfl) ?_
  refine regionR 7 (by kernel_rfl) (by kernel_rfl) ?_
  refine (run0 (z := 4) 3 [0, 2, 5] [(0, .int .i64 w_), (2, .bool false), (5, .bool (decide (w_ ≥ 1)))] (fun _ => by kernel_rfl) ?_ : RT _ _ _ _ _ _ 7 _)
  refine (segR (ι := Unit) (z := 1) 3 (fun _ => [(2, .bool false), (8, .bool ((decide (w_ ≥ 1)) && (decide (w_ ≤ 16))))]) (fun _ => (H)) ?_ (fun _ => ?_) : RT _ _ _ _ _ _ 4 _)
  · cases hg3 : (decide (w_ ≥ 1)) with
    | true =>
      refine (run0 (z := 0) 3 [2, 8] [(2, .bool false), (8, .bool (decide (w_ ≤ 16)))] (fun _ => by kernel_rfl) (endR ?_) : RT _ _ _ _ _ _ 3 _)
      refine PT.keep (L' := [(2, .bool false), (8, .bool (true && (decide (w_ ≤ 16))))]) [2, 8] rfl ?_
      exact midR () rfl rfl
    | false =>
      refine (run0 (z := 0) 3 [2, 8] [(2, .bool false), (8, .bool false)] (fun _ => by kernel_rfl) (endR ?_) : RT _ _ _ _ _ _ 3 _)
      refine PT.keep (L' := [(2, .bool false), (8, .bool (false && (decide (w_ ≤ 16))))]) [2, 8] rfl ?_
      exact midR () rfl rfl
  refine (run0 (z := 0) 1 [2] [(2, .bool ((decide (w_ ≥ 1)) && (decide (w_ ≤ 16))))] (fun _ => by kernel_rfl) (endR ?_) : RT _ _ _ _ _ _ 1 _)
  refine retR (by kernel_rfl) ?_
  refine done0 (.bool ((decide (w_ ≥ 1)) && (decide (w_ ≤ 16)))) (fun _ => by kernel_rfl) (fun w hs => ?_) .ret (.inr rfl)
  exact ⟨(), rfl, hs⟩
set_option maxRecDepth 100000 in
theorem strOf_walk (H : List SP) (w_ : Int) : ∀ w, Sat w H → Calls Tryz.prog 37 #[.int .i64 w_] w (Ret (ι := Unit) (fun _ => .int .i64 (strd w_)) fun _ => H) := by
  refine enterG (fn := Tryz.f37) 8 [.int .i64 w_] Tryz.func37 (by kernel_rfl) (by kernel_rfl) (by kernel_rfl) ?_
  refine seqR (by kernel_rfl) ?_
  refine regionR 1 (by kernel_rfl) (by kernel_rfl) ?_
  refine (run0 (z := 0) 1 [0, 2] [(0, .int .i64 w_), (2, .int .i64 0)] (fun _ => by kernel_rfl) (endR ?_) : RT _ _ _ _ _ _ 1 _)
  refine seqR (by kernel_rfl) ?_
  refine seqR (by kernel_rfl) ?_
  refine regionR 3 (by kernel_rfl) (by kernel_rfl) ?_
  refine (run0 (z := 2) 1 [0, 2, 3] [(0, .int .i64 w_), (2, .int .i64 0), (3, .int .i64 w_)] (fun _ => by kernel_rfl) ?_ : RT _ _ _ _ _ _ 3 _)
  refine (stepR (z := 1) (callS 18 [.int .i64 w_] (some 4) (fun _ => .bool (isW w_)) (fun (_ : Unit) => (H)) (fun _ => by kernel_rfl) (strIs_walk _ w_)) (fun _ => ?_) : RT _ _ _ _ _ _ 2 _)
  refine (run0 (z := 0) 1 [0, 2, 5] [(0, .int .i64 w_), (2, .int .i64 0), (5, .bool (!(isW w_)))] (fun _ => by kernel_rfl) (endR ?_) : RT _ _ _ _ _ _ 1 _)
  refine condR (b := !(isW w_)) (by kernel_rfl) (fun _ => by kernel_rfl) (fun h1 => ?_) (fun h1 => ?_)
  · skip
    refine seqR (by kernel_rfl) ?_
    refine regionR 1 (by kernel_rfl) (by kernel_rfl) ?_
    refine (run0 (z := 0) 1 [0, 2] [(0, .int .i64 w_), (2, .int .i64 0)] (fun _ => by kernel_rfl) (endR ?_) : RT _ _ _ _ _ _ 1 _)
    refine retR (by kernel_rfl) ?_
    refine thenV ?_
    refine done0 (.int .i64 0) (fun _ => by kernel_rfl) (fun w hs => ?_) .ret (.inr rfl)
    exact ⟨(), by rw [strd, if_neg (by simpa using h1)], hs⟩
  · skip
    refine skipR (by kernel_rfl) ?_
    refine seqR (by kernel_rfl) ?_
    refine regionR 3 (by kernel_rfl) (by kernel_rfl) ?_
    refine (run0 (z := 2) 1 [2, 6] [(2, .int .i64 0), (6, .int .i64 w_)] (fun _ => by kernel_rfl) ?_ : RT _ _ _ _ _ _ 3 _)
    have hw : isW w_ = true := by simpa using h1
    refine (stepR (z := 1) (yldS (binY .quo 3 3 (.const (.int .i64 720720)) (.tmp 6) (.int .i64 720720) (.int .i64 w_) (.int .i64 (IntKind.i64.wrap ((720720 : Int).tdiv w_))) (some 7) (fun _ => by kernel_rfl) (by kernel_rfl) (by kernel_rfl) (fun _ => by kernel_rfl) (fun _ => by kernel_rfl) (quoR (t' := 0) (by have := isW_cases hw; omega)))) (fun _ => ?_) : RT _ _ _ _ _ _ 2 _)
    refine (run0 (z := 0) 1 [2] [(2, .int .i64 (IntKind.i64.wrap ((720720 : Int).tdiv w_)))] (fun _ => by kernel_rfl) (endR ?_) : RT _ _ _ _ _ _ 1 _)
    refine retR (by kernel_rfl) ?_
    refine done0 (.int .i64 (IntKind.i64.wrap ((720720 : Int).tdiv w_))) (fun _ => by kernel_rfl) (fun w hs => ?_) .ret (.inr rfl)
    exact ⟨(), by rw [show IntKind.i64.wrap ((720720 : Int).tdiv w_) = strd w_ from ?_]; rw [strd, if_pos hw]; have h2 := strd_pos hw; rw [strd, if_pos hw] at h2; exact w64 (by omega) (by omega), hs⟩
set_option maxRecDepth 100000 in
theorem strNext_walk (H : List SP) (p w_ : Int) (hp : 0 ≤ p ∧ p ≤ 1099511627776) (hw : isW w_ = true) : ∀ w, Sat w H → Calls Tryz.prog 25 #[.int .i64 p, .int .i64 w_] w (Ret (ι := Unit) (fun _ => .int .i64 (p + strd w_)) fun _ => H) := by
  refine enterG (fn := Tryz.f25) 9 [.int .i64 p, .int .i64 w_] Tryz.func25 (by kernel_rfl) (by kernel_rfl) (by kernel_rfl) ?_
  refine seqR (by kernel_rfl) ?_
  refine regionR 1 (by kernel_rfl) (by kernel_rfl) ?_
  refine (run0 (z := 0) 1 [0, 1, 4] [(0, .int .i64 p), (1, .int .i64 w_), (4, .int .i64 0)] (fun _ => by kernel_rfl) (endR ?_) : RT _ _ _ _ _ _ 1 _)
  refine seqR (by kernel_rfl) ?_
  refine regionR 5 (by kernel_rfl) (by kernel_rfl) ?_
  refine (run0 (z := 3) 2 [4, 5, 6] [(4, .int .i64 0), (5, .int .i64 p), (6, .int .i64 w_)] (fun _ => by kernel_rfl) ?_ : RT _ _ _ _ _ _ 5 _)
  refine (stepR (z := 2) (callS 37 [.int .i64 w_] (some 7) (fun _ => .int .i64 (strd w_)) (fun (_ : Unit) => (H)) (fun _ => by kernel_rfl) (strOf_walk _ w_)) (fun _ => ?_) : RT _ _ _ _ _ _ 3 _)
  refine (run0 (z := 0) 2 [4] [(4, .int .i64 (IntKind.i64.wrap (p + (strd w_))))] (fun _ => by kernel_rfl) (endR ?_) : RT _ _ _ _ _ _ 2 _)
  refine retR (by kernel_rfl) ?_
  have h2 := strd_pos hw
  refine done0 (.int .i64 (IntKind.i64.wrap (p + (strd w_)))) (fun _ => by kernel_rfl) (fun w hs => ?_) .ret (.inr rfl)
  exact ⟨(), by rw [w64 (by omega) (by omega)], hs⟩
set_option maxRecDepth 100000 in
theorem pair_walk (H : List SP) (a b : Int) : ∀ w, Sat w H → Calls Tryz.prog 33 #[.int .i64 a, .int .i64 b] w (Ret (ι := Unit) (fun _ => .complex .f64 (floatOfInt .f64 a) (floatOfInt .f64 b)) fun _ => H) := by
  refine enterG (fn := Tryz.f33) 10 [.int .i64 a, .int .i64 b] Tryz.func33 (by kernel_rfl) (by kernel_rfl) (by kernel_rfl) ?_
  refine seqR (by kernel_rfl) ?_
  refine regionR 1 (by kernel_rfl) (by kernel_rfl) ?_
  refine (run0 (z := 0) 1 [0, 1, 4] [(0, .int .i64 a), (1, .int .i64 b), (4, .complex .f64 0 0)] (fun _ => by kernel_rfl) (endR ?_) : RT _ _ _ _ _ _ 1 _)
  refine seqR (by kernel_rfl) ?_
  refine regionR 6 (by kernel_rfl) (by kernel_rfl) ?_
  refine (run0 (z := 0) 6 [4] [(4, .complex .f64 (floatOfInt .f64 a) (floatOfInt .f64 b))] (fun _ => by kernel_rfl) (endR ?_) : RT _ _ _ _ _ _ 6 _)
  refine retR (by kernel_rfl) ?_
  refine done0 (.complex .f64 (floatOfInt .f64 a) (floatOfInt .f64 b)) (fun _ => by kernel_rfl) (fun w hs => ?_) .ret (.inr rfl)
  exact ⟨(), rfl, hs⟩
set_option maxRecDepth 100000 in
theorem later_walk (H : List SP) (a b : Int) (ha : a.natAbs < 2 ^ 53) (hb : b.natAbs < 2 ^ 53) : ∀ w, Sat w H → Calls Tryz.prog 32 #[.complex .f64 (floatOfInt .f64 a) (floatOfInt .f64 b)] w (Ret (ι := Unit) (fun _ => .int .i64 (mxI a b)) fun _ => H) := by
  refine enterG (fn := Tryz.f32) 9 [.complex .f64 (floatOfInt .f64 a) (floatOfInt .f64 b)] Tryz.func32 (by kernel_rfl) (by kernel_rfl) (by kernel_rfl) ?_
  refine seqR (by kernel_rfl) ?_
  refine regionR 1 (by kernel_rfl) (by kernel_rfl) ?_
  refine (run0 (z := 0) 1 [0, 2] [(0, .complex .f64 (floatOfInt .f64 a) (floatOfInt .f64 b)), (2, .int .i64 0)] (fun _ => by kernel_rfl) (endR ?_) : RT _ _ _ _ _ _ 1 _)
  refine seqR (by kernel_rfl) ?_
  refine regionR 7 (by kernel_rfl) (by kernel_rfl) ?_
  refine (run0 (z := 3) 4 [2, 4, 6] [(2, .int .i64 0), (4, .float .f64 (floatOfInt .f64 a)), (6, .float .f64 (floatOfInt .f64 b))] (fun _ => by kernel_rfl) ?_ : RT _ _ _ _ _ _ 7 _)
  refine (stepR (z := 2) (yldS (bltY .max (.tmp 4) (.tmp 6) #[99, 99] (.float .f64 (floatOfInt .f64 a)) (.float .f64 (floatOfInt .f64 b)) (.float .f64 (floatOfInt .f64 (mxI a b))) (some 7) (fun _ => by kernel_rfl) (by kernel_rfl) (by kernel_rfl) (fun _ => by kernel_rfl) (fun _ => by kernel_rfl) (max_flt (by omega) (by omega)))) (fun _ => ?_) : RT _ _ _ _ _ _ 3 _)
  refine (stepR (z := 1) (yldS (cvtY 99 3 (.tmp 7) (.float .f64 (floatOfInt .f64 (mxI a b))) (.int .i64 (mxI a b)) (some 8) (fun _ => by kernel_rfl) (by kernel_rfl) (by kernel_rfl) (fun _ => by kernel_rfl) (cvt_int (by unfold mxI; split <;> omega)))) (fun _ => ?_) : RT _ _ _ _ _ _ 2 _)
  refine (run0 (z := 0) 1 [2] [(2, .int .i64 (mxI a b))] (fun _ => by kernel_rfl) (endR ?_) : RT _ _ _ _ _ _ 1 _)
  refine retR (by kernel_rfl) ?_
  refine done0 (.int .i64 (mxI a b)) (fun _ => by kernel_rfl) (fun w hs => ?_) .ret (.inr rfl)
  exact ⟨(), rfl, hs⟩
set_option maxRecDepth 100000 in
theorem scale_walk (H : List SP) (p n f t : Int) (hp : 0 ≤ p ∧ p ≤ 1099511627776) (hn : 0 ≤ n ∧ n ≤ 1099511627776) (hf : isW f = true) (ht : isW t = true) : ∀ w, Sat w H → Calls Tryz.prog 21 #[.int .i64 p, .int .i64 n, .int .i64 f, .int .i64 t] w (Ret (ι := Unit) (fun _ => .int .i64 (scaleN p n f t)) fun _ => H) := by
  refine enterG (fn := Tryz.f21) 29 [.int .i64 p, .int .i64 n, .int .i64 f, .int .i64 t] Tryz.func21 (by kernel_rfl) (by kernel_rfl) (by kernel_rfl) ?_
  refine seqR (by kernel_rfl) ?_
  refine regionR 1 (by kernel_rfl) (by kernel_rfl) ?_
  refine (run0 (z := 0) 1 [0, 1, 2, 3, 8] [(0, .int .i64 p), (1, .int .i64 n), (2, .int .i64 f), (3, .int .i64 t), (8, .int .i64 0)] (fun _ => by kernel_rfl) (endR ?_) : RT _ _ _ _ _ _ 1 _)
  refine seqR (by kernel_rfl) ?_
  refine seqR (by kernel_rfl) ?_
  refine regionR 8 (by kernel_rfl) (by kernel_rfl) ?_
  refine (run0 (z := 4) 4 [0, 1, 2, 3, 8, 12] [(0, .int .i64 p), (1, .int .i64 n), (2, .int .i64 f), (3, .int .i64 t), (8, .int .i64 0), (12, .bool (decide (p ≤ n)))] (fun _ => by kernel_rfl) ?_ : RT _ _ _ _ _ _ 8 _)
  refine (segR (ι := Unit) (z := 0) 4 (fun _ => [(0, .int .i64 p), (1, .int .i64 n), (2, .int .i64 f), (3, .int .i64 t), (8, .int .i64 0), (16, .bool ((decide (p ≤ n)) || ((strd f) == 0)))]) (fun _ => (H)) ?_ (fun _ => ?_) : RT _ _ _ _ _ _ 4 _)
  · cases hg4 : (decide (p ≤ n)) with
    | true =>
      refine (run0 (z := 0) 4 [0, 1, 2, 3, 8, 16] [(0, .int .i64 p), (1, .int .i64 n), (2, .int .i64 f), (3, .int .i64 t), (8, .int .i64 0), (16, .bool true)] (fun _ => by kernel_rfl) (endR ?_) : RT _ _ _ _ _ _ 4 _)
      refine PT.keep (L' := [(0, .int .i64 p), (1, .int .i64 n), (2, .int .i64 f), (3, .int .i64 t), (8, .int .i64 0), (16, .bool (true || ((strd f) == 0)))]) [0, 1, 2, 3, 8, 16] rfl ?_
      exact midR () rfl rfl
    | false =>
      refine (run0 (z := 3) 1 [0, 1, 2, 3, 8, 12, 13] [(0, .int .i64 p), (1, .int .i64 n), (2, .int .i64 f), (3, .int .i64 t), (8, .int .i64 0), (12, .bool false), (13, .int .i64 f)] (fun _ => by kernel_rfl) ?_ : RT _ _ _ _ _ _ 4 _)
      refine (stepR (z := 2) (callS 37 [.int .i64 f] (some 14) (fun _ => .int .i64 (strd f)) (fun (_ : Unit) => (H)) (fun _ => by kernel_rfl) (strOf_walk _ f)) (fun _ => ?_) : RT _ _ _ _ _ _ 3 _)
      refine (run0 (z := 0) 2 [0, 1, 2, 3, 8, 16] [(0, .int .i64 p), (1, .int .i64 n), (2, .int .i64 f), (3, .int .i64 t), (8, .int .i64 0), (16, .bool ((strd f) == 0))] (fun _ => by kernel_rfl) (endR ?_) : RT _ _ _ _ _ _ 2 _)
      refine PT.keep (L' := [(0, .int .i64 p), (1, .int .i64 n), (2, .int .i64 f), (3, .int .i64 t), (8, .int .i64 0), (16, .bool (false || ((strd f) == 0)))]) [0, 1, 2, 3, 8, 16] rfl ?_
      exact midR () rfl rfl
  refine endR ?_
  refine condR (b := (decide (p ≤ n)) || ((strd f) == 0)) (by kernel_rfl) (fun _ => by kernel_rfl) (fun h1 => ?_) (fun h1 => ?_)
  · skip
    refine seqR (by kernel_rfl) ?_
    refine regionR 2 (by kernel_rfl) (by kernel_rfl) ?_
    refine (run0 (z := 0) 2 [0, 1, 2, 3, 8] [(0, .int .i64 p), (1, .int .i64 n), (2, .int .i64 f), (3, .int .i64 t), (8, .int .i64 p)] (fun _ => by kernel_rfl) (endR ?_) : RT _ _ _ _ _ _ 2 _)
    refine retR (by kernel_rfl) ?_
    refine thenV ?_
    refine done0 (.int .i64 p) (fun _ => by kernel_rfl) (fun w hs => ?_) .ret (.inr rfl)
    exact ⟨(), by rw [scaleN, if_pos (by simpa using h1)], hs⟩
  · skip
    refine skipR (by kernel_rfl) ?_
    refine seqR (by kernel_rfl) ?_
    refine regionR 12 (by kernel_rfl) (by kernel_rfl) ?_
    refine (run0 (z := 7) 5 [2, 8, 18, 21, 22] [(2, .int .i64 f), (8, .int .i64 0), (18, .int .i64 n), (21, .int .i64 (IntKind.i64.wrap (p - n))), (22, .int .i64 t)] (fun _ => by kernel_rfl) ?_ : RT _ _ _ _ _ _ 12 _)
    refine (stepR (z := 6) (callS 37 [.int .i64 t] (some 23) (fun _ => .int .i64 (strd t)) (fun (_ : Unit) => (H)) (fun _ => by kernel_rfl) (strOf_walk _ t)) (fun _ => ?_) : RT _ _ _ _ _ _ 7 _)
    refine (run0 (z := 4) 2 [8, 18, 24, 25] [(8, .int .i64 0), (18, .int .i64 n), (24, .int .i64 (IntKind.i64.wrap ((IntKind.i64.wrap (p - n)) * (strd t)))), (25, .int .i64 f)] (fun _ => by kernel_rfl) ?_ : RT _ _ _ _ _ _ 6 _)
    refine (stepR (z := 3) (callS 37 [.int .i64 f] (some 26) (fun _ => .int .i64 (strd f)) (fun (_ : Unit) => (H)) (fun _ => by kernel_rfl) (strOf_walk _ f)) (fun _ => ?_) : RT _ _ _ _ _ _ 4 _)
    have h2 : ¬ (p ≤ n ∨ strd f = 0) := by simpa using h1
    have hsf := strd_pos hf
    have hst := strd_pos ht
    have hm : 0 ≤ (p - n) * strd t ∧ (p - n) * strd t ≤ 1099511627776 * 720720 := ⟨Int.mul_nonneg (by omega) (by omega), Int.le_trans (Int.mul_le_mul_of_nonneg_right (c := strd t) (show p - n ≤ 1099511627776 by omega) (by omega)) (Int.mul_le_mul_of_nonneg_left hst.2 (by omega))⟩
    have hd := tdiv_le hm.1 hsf.1
    rw [show IntKind.i64.wrap (p - n) = (p - n) by rw [w64 (by omega) (by omega)]]
    rw [show IntKind.i64.wrap ((p - n) * (strd t)) = ((p - n) * strd t) by rw [w64 (by omega) (by omega)]]
    refine (stepR (z := 2) (yldS (binY .quo 3 3 (.tmp 24) (.tmp 26) (.int .i64 ((p - n) * strd t)) (.int .i64 (strd f)) (.int .i64 (IntKind.i64.wrap (((p - n) * strd t : Int).tdiv (strd f)))) (some 27) (fun _ => by kernel_rfl) (by kernel_rfl) (by kernel_rfl) (fun _ => by kernel_rfl) (fun _ => by kernel_rfl) (quoR (t' := 0) (by omega)))) (fun _ => ?_) : RT _ _ _ _ _ _ 3 _)
    refine (run0 (z := 0) 2 [8] [(8, .int .i64 (IntKind.i64.wrap (n + (IntKind.i64.wrap (((p - n) * strd t : Int).tdiv (strd f))))))] (fun _ => by kernel_rfl) (endR ?_) : RT _ _ _ _ _ _ 2 _)
    refine retR (by kernel_rfl) ?_
    refine done0 (.int .i64 (IntKind.i64.wrap (n + (IntKind.i64.wrap (((p - n) * strd t : Int).tdiv (strd f)))))) (fun _ => by kernel_rfl) (fun w hs => ?_) .ret (.inr rfl)
    exact ⟨(), by rw [scaleN, if_neg h2, w64 (n := ((p - n) * strd t).tdiv (strd f)) (by omega) (by omega), w64 (by omega) (by omega)], hs⟩
end Go.Proofs.YtjbjngikaiggdaaGreat
