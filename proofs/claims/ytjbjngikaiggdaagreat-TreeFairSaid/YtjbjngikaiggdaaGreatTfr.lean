/- The document's strides, Fair. Conditions: none. -/
import Derived.Test.YtjbjngikaiggdaaGreatTa
set_option linter.unusedVariables false
set_option linter.unusedSimpArgs false
namespace Go.Proofs.YtjbjngikaiggdaaGreat
open Go.RowKit G
set_option maxRecDepth 100000 in
theorem rIsW_walk (H : List SP) (w_ : Int) : ∀ w, Sat w H → Calls Tryz.prog 40 #[.int .i64 w_] w (Ret (ι := Unit) (fun _ => .bool (isW w_)) fun _ => H) := by
  refine enterG (fn := Tryz.f40) 9 [.int .i64 w_] Tryz.func40 (by kernel_rfl) (by kernel_rfl) (by kernel_rfl) ?_
  refine seqR (by kernel_rfl) ?_
  refine regionR 1 (by kernel_rfl) (by kernel_rfl) ?_
  refine (run0 (z := 0) 1 [0, 2] [(0, .int .i64 w_), (2, .bool false)] (fun _ => by kernel_rfl) (endR ?_) : RT _ _ _ _ _ _ 1 _)
  refine seqR (by kernel_rfl) ?_
  refine regionR 7 (by kernel_rfl) (by kernel_rfl) ?_
  refine (run0 (z := 4) 3 [0, 2, 5] [(0, .int .i64 w_), (2, .bool false), (5, .bool (decide (w_ ≥ 1)))] (fun _ => by kernel_rfl) ?_ : RT _ _ _ _ _ _ 7 _)
  refine (segR (ι := Unit) (z := 1) 3 (fun _ => [(2, .bool false), (8, .bool ((decide (w_ ≥ 1)) && (decide (w_ ≤ 16))))]) (fun _ => (H)) ?_ (fun _ => ?_) : RT _ _ _ _ _ _ 4 _)
  · cases hg3 : (decide (w_ ≥ 1)) with
    | true =>
      refine (run0 (z := 0) 3 [2, 8] [(2, .bool false), (8, .bool (decide (w_ ≤ 16)))] (fun _ => by kernel_rfl) (endR ?_) : RT _ _ _ _ _ _ 3 _)
      refine PT.keep (L' := [(2, .bool false), (8, .bool (true && (decide (w_ ≤ 16))))]) [2, 8] rfl ?_
      exact midR () rfl rfl
    | false =>
      refine (run0 (z := 0) 3 [2, 8] [(2, .bool false), (8, .bool false)] (fun _ => by kernel_rfl) (endR ?_) : RT _ _ _ _ _ _ 3 _)
      refine PT.keep (L' := [(2, .bool false), (8, .bool (false && (decide (w_ ≤ 16))))]) [2, 8] rfl ?_
      exact midR () rfl rfl
  refine (run0 (z := 0) 1 [2] [(2, .bool ((decide (w_ ≥ 1)) && (decide (w_ ≤ 16))))] (fun _ => by kernel_rfl) (endR ?_) : RT _ _ _ _ _ _ 1 _)
  refine retR (by kernel_rfl) ?_
  refine done0 (.bool ((decide (w_ ≥ 1)) && (decide (w_ ≤ 16)))) (fun _ => by kernel_rfl) (fun w hs => ?_) .ret (.inr rfl)
  exact ⟨(), rfl, hs⟩
set_option maxRecDepth 100000 in
theorem rOf_walk (H : List SP) (w_ : Int) : ∀ w, Sat w H → Calls Tryz.prog 26 #[.int .i64 w_] w (Ret (ι := Unit) (fun _ => .int .i64 (strd w_)) fun _ => H) := by
  refine enterG (fn := Tryz.f26) 8 [.int .i64 w_] Tryz.func26 (by kernel_rfl) (by kernel_rfl) (by kernel_rfl) ?_
  refine seqR (by kernel_rfl) ?_
  refine regionR 1 (by kernel_rfl) (by kernel_rfl) ?_
  refine (run0 (z := 0) 1 [0, 2] [(0, .int .i64 w_), (2, .int .i64 0)] (fun _ => by kernel_rfl) (endR ?_) : RT _ _ _ _ _ _ 1 _)
  refine seqR (by kernel_rfl) ?_
  refine seqR (by kernel_rfl) ?_
  refine regionR 3 (by kernel_rfl) (by kernel_rfl) ?_
  refine (run0 (z := 2) 1 [0, 2, 3] [(0, .int .i64 w_), (2, .int .i64 0), (3, .int .i64 w_)] (fun _ => by kernel_rfl) ?_ : RT _ _ _ _ _ _ 3 _)
  refine (stepR (z := 1) (callS 40 [.int .i64 w_] (some 4) (fun _ => .bool (isW w_)) (fun (_ : Unit) => (H)) (fun _ => by kernel_rfl) (rIsW_walk _ w_)) (fun _ => ?_) : RT _ _ _ _ _ _ 2 _)
  refine (run0 (z := 0) 1 [0, 2, 5] [(0, .int .i64 w_), (2, .int .i64 0), (5, .bool (!(isW w_)))] (fun _ => by kernel_rfl) (endR ?_) : RT _ _ _ _ _ _ 1 _)
  refine condR (b := !(isW w_)) (by kernel_rfl) (fun _ => by kernel_rfl) (fun h1 => ?_) (fun h1 => ?_)
  · skip
    refine seqR (by kernel_rfl) ?_
    refine regionR 1 (by kernel_rfl) (by kernel_rfl) ?_
    refine (run0 (z := 0) 1 [0, 2] [(0, .int .i64 w_), (2, .int .i64 0)] (fun _ => by kernel_rfl) (endR ?_) : RT _ _ _ _ _ _ 1 _)
    refine retR (by kernel_rfl) ?_
    refine thenV ?_
    refine done0 (.int .i64 0) (fun _ => by kernel_rfl) (fun w hs => ?_) .ret (.inr rfl)
    exact ⟨(), by rw [strd, if_neg (by simpa using h1)], hs⟩
  · skip
    refine skipR (by kernel_rfl) ?_
    refine seqR (by kernel_rfl) ?_
    refine regionR 3 (by kernel_rfl) (by kernel_rfl) ?_
    refine (run0 (z := 2) 1 [2, 6] [(2, .int .i64 0), (6, .int .i64 w_)] (fun _ => by kernel_rfl) ?_ : RT _ _ _ _ _ _ 3 _)
    have hw : isW w_ = true := by simpa using h1
    refine (stepR (z := 1) (yldS (binY .quo 3 3 (.const (.int .i64 720720)) (.tmp 6) (.int .i64 720720) (.int .i64 w_) (.int .i64 (IntKind.i64.wrap ((720720 : Int).tdiv w_))) (some 7) (fun _ => by kernel_rfl) (by kernel_rfl) (by kernel_rfl) (fun _ => by kernel_rfl) (fun _ => by kernel_rfl) (quoR (t' := 0) (by have := isW_cases hw; omega)))) (fun _ => ?_) : RT _ _ _ _ _ _ 2 _)
    refine (run0 (z := 0) 1 [2] [(2, .int .i64 (IntKind.i64.wrap ((720720 : Int).tdiv w_)))] (fun _ => by kernel_rfl) (endR ?_) : RT _ _ _ _ _ _ 1 _)
    refine retR (by kernel_rfl) ?_
    refine done0 (.int .i64 (IntKind.i64.wrap ((720720 : Int).tdiv w_))) (fun _ => by kernel_rfl) (fun w hs => ?_) .ret (.inr rfl)
    exact ⟨(), by rw [show IntKind.i64.wrap ((720720 : Int).tdiv w_) = strd w_ from ?_]; rw [strd, if_pos hw]; have h2 := strd_pos hw; rw [strd, if_pos hw] at h2; exact w64 (by omega) (by omega), hs⟩
def fairB (n a m b : Int) : Bool := decide (n * strd a - m * strd b ≤ strd a + strd b) && decide (0 - (n * strd a - m * strd b) ≤ strd a + strd b)
set_option maxRecDepth 100000 in
theorem fair_walk (H : List SP) (n a m b : Int) (hn : 0 ≤ n ∧ n ≤ 1048576) (hm : 0 ≤ m ∧ m ≤ 1048576) (ha : isW a = true) (hb : isW b = true) : ∀ w, Sat w H → Calls Tryz.prog 11 #[.int .i64 n, .int .i64 a, .int .i64 m, .int .i64 b] w (Ret (ι := Unit) (fun _ => .bool (fairB n a m b)) fun _ => H) := by
  have h1 := strd_pos ha
  have h2 := strd_pos hb
  have h3 : 0 ≤ n * strd a ∧ n * strd a ≤ 1048576 * 720720 := ⟨Int.mul_nonneg hn.1 (by omega), Int.le_trans (Int.mul_le_mul_of_nonneg_right hn.2 (by omega)) (Int.mul_le_mul_of_nonneg_left h1.2 (by omega))⟩
  have h4 : 0 ≤ m * strd b ∧ m * strd b ≤ 1048576 * 720720 := ⟨Int.mul_nonneg hm.1 (by omega), Int.le_trans (Int.mul_le_mul_of_nonneg_right hm.2 (by omega)) (Int.mul_le_mul_of_nonneg_left h2.2 (by omega))⟩
  refine enterG (fn := Tryz.f11) 42 [.int .i64 n, .int .i64 a, .int .i64 m, .int .i64 b] Tryz.func11 (by kernel_rfl) (by kernel_rfl) (by kernel_rfl) ?_
  refine seqR (by kernel_rfl) ?_
  refine regionR 1 (by kernel_rfl) (by kernel_rfl) ?_
  refine (run0 (z := 0) 1 [0, 1, 2, 3, 8] [(0, .int .i64 n), (1, .int .i64 a), (2, .int .i64 m), (3, .int .i64 b), (8, .bool false)] (fun _ => by kernel_rfl) (endR ?_) : RT _ _ _ _ _ _ 1 _)
  refine seqR (by kernel_rfl) ?_
  refine regionR 8 (by kernel_rfl) (by kernel_rfl) ?_
  refine (run0 (z := 0) 8 [0, 1, 2, 3, 8] [(0, .int .i64 (mxI 0 (mnI n 1048576))), (1, .int .i64 a), (2, .int .i64 (mxI 0 (mnI m 1048576))), (3, .int .i64 b), (8, .bool false)] (fun _ => by kernel_rfl) (endR ?_) : RT _ _ _ _ _ _ 8 _)
  rw [show mxI 0 (mnI n 1048576) = n by unfold mxI mnI; repeat' split <;> omega]
  rw [show mxI 0 (mnI m 1048576) = m by unfold mxI mnI; repeat' split <;> omega]
  refine seqR (by kernel_rfl) ?_
  refine regionR 10 (by kernel_rfl) (by kernel_rfl) ?_
  refine (run0 (z := 8) 2 [1, 2, 3, 8, 16, 17] [(1, .int .i64 a), (2, .int .i64 m), (3, .int .i64 b), (8, .bool false), (16, .int .i64 n), (17, .int .i64 a)] (fun _ => by kernel_rfl) ?_ : RT _ _ _ _ _ _ 10 _)
  refine (stepR (z := 7) (callS 26 [.int .i64 a] (some 18) (fun _ => .int .i64 (strd a)) (fun (_ : Unit) => (H)) (fun _ => by kernel_rfl) (rOf_walk _ a)) (fun _ => ?_) : RT _ _ _ _ _ _ 8 _)
  refine (run0 (z := 4) 3 [1, 3, 8, 19, 20, 21] [(1, .int .i64 a), (3, .int .i64 b), (8, .bool false), (19, .int .i64 (IntKind.i64.wrap (n * (strd a)))), (20, .int .i64 m), (21, .int .i64 b)] (fun _ => by kernel_rfl) ?_ : RT _ _ _ _ _ _ 7 _)
  refine (stepR (z := 3) (callS 26 [.int .i64 b] (some 22) (fun _ => .int .i64 (strd b)) (fun (_ : Unit) => (H)) (fun _ => by kernel_rfl) (rOf_walk _ b)) (fun _ => ?_) : RT _ _ _ _ _ _ 4 _)
  refine (run0 (z := 0) 3 [1, 3, 8, 9] [(1, .int .i64 a), (3, .int .i64 b), (8, .bool false), (9, .int .i64 (IntKind.i64.wrap ((IntKind.i64.wrap (n * (strd a))) - (IntKind.i64.wrap (m * (strd b))))))] (fun _ => by kernel_rfl) (endR ?_) : RT _ _ _ _ _ _ 3 _)
  rw [show IntKind.i64.wrap (n * (strd a)) = (n * strd a) by rw [w64 (by omega) (by omega)]]
  rw [show IntKind.i64.wrap (m * (strd b)) = (m * strd b) by rw [w64 (by omega) (by omega)]]
  rw [show IntKind.i64.wrap ((n * strd a) - (m * strd b)) = (n * strd a - m * strd b) by rw [w64 (by omega) (by omega)]]
  refine seqR (by kernel_rfl) ?_
  refine regionR 18 (by kernel_rfl) (by kernel_rfl) ?_
  refine (run0 (z := 16) 2 [1, 3, 8, 9, 25, 26] [(1, .int .i64 a), (3, .int .i64 b), (8, .bool false), (9, .int .i64 (n * strd a - m * strd b)), (25, .int .i64 (n * strd a - m * strd b)), (26, .int .i64 a)] (fun _ => by kernel_rfl) ?_ : RT _ _ _ _ _ _ 18 _)
  refine (stepR (z := 15) (callS 26 [.int .i64 a] (some 27) (fun _ => .int .i64 (strd a)) (fun (_ : Unit) => (H)) (fun _ => by kernel_rfl) (rOf_walk _ a)) (fun _ => ?_) : RT _ _ _ _ _ _ 16 _)
  refine (run0 (z := 14) 1 [27, 1, 3, 8, 9, 25, 28] [(27, .int .i64 (strd a)), (1, .int .i64 a), (3, .int .i64 b), (8, .bool false), (9, .int .i64 (n * strd a - m * strd b)), (25, .int .i64 (n * strd a - m * strd b)), (28, .int .i64 b)] (fun _ => by kernel_rfl) ?_ : RT _ _ _ _ _ _ 15 _)
  refine (stepR (z := 13) (callS 26 [.int .i64 b] (some 29) (fun _ => .int .i64 (strd b)) (fun (_ : Unit) => (H)) (fun _ => by kernel_rfl) (rOf_walk _ b)) (fun _ => ?_) : RT _ _ _ _ _ _ 14 _)
  refine (run0 (z := 10) 3 [1, 3, 8, 9, 32] [(1, .int .i64 a), (3, .int .i64 b), (8, .bool false), (9, .int .i64 (n * strd a - m * strd b)), (32, .bool (decide ((n * strd a - m * strd b) ≤ (IntKind.i64.wrap ((strd a) + (strd b))))))] (fun _ => by kernel_rfl) ?_ : RT _ _ _ _ _ _ 13 _)
  refine (segR (ι := Unit) (z := 1) 9 (fun _ => [(8, .bool false), (41, .bool ((decide ((n * strd a - m * strd b) ≤ (IntKind.i64.wrap ((strd a) + (strd b))))) && (decide ((IntKind.i64.wrap (0 - (n * strd a - m * strd b))) ≤ (IntKind.i64.wrap ((strd a) + (strd b)))))))]) (fun _ => (H)) ?_ (fun _ => ?_) : RT _ _ _ _ _ _ 10 _)
  · cases hg8 : (decide ((n * strd a - m * strd b) ≤ (IntKind.i64.wrap ((strd a) + (strd b))))) with
    | true =>
      refine (run0 (z := 6) 3 [3, 8, 32, 34, 35] [(3, .int .i64 b), (8, .bool false), (32, .bool true), (34, .int .i64 (IntKind.i64.wrap (0 - (n * strd a - m * strd b)))), (35, .int .i64 a)] (fun _ => by kernel_rfl) ?_ : RT _ _ _ _ _ _ 9 _)
      refine (stepR (z := 5) (callS 26 [.int .i64 a] (some 36) (fun _ => .int .i64 (strd a)) (fun (_ : Unit) => (H)) (fun _ => by kernel_rfl) (rOf_walk _ a)) (fun _ => ?_) : RT _ _ _ _ _ _ 6 _)
      refine (run0 (z := 4) 1 [36, 8, 32, 34, 37] [(36, .int .i64 (strd a)), (8, .bool false), (32, .bool true), (34, .int .i64 (IntKind.i64.wrap (0 - (n * strd a - m * strd b)))), (37, .int .i64 b)] (fun _ => by kernel_rfl) ?_ : RT _ _ _ _ _ _ 5 _)
      refine (stepR (z := 3) (callS 26 [.int .i64 b] (some 38) (fun _ => .int .i64 (strd b)) (fun (_ : Unit) => (H)) (fun _ => by kernel_rfl) (rOf_walk _ b)) (fun _ => ?_) : RT _ _ _ _ _ _ 4 _)
      refine (run0 (z := 0) 3 [8, 41] [(8, .bool false), (41, .bool (decide ((IntKind.i64.wrap (0 - (n * strd a - m * strd b))) ≤ (IntKind.i64.wrap ((strd a) + (strd b))))))] (fun _ => by kernel_rfl) (endR ?_) : RT _ _ _ _ _ _ 3 _)
      refine PT.keep (L' := [(8, .bool false), (41, .bool (true && (decide ((IntKind.i64.wrap (0 - (n * strd a - m * strd b))) ≤ (IntKind.i64.wrap ((strd a) + (strd b)))))))]) [8, 41] rfl ?_
      exact midR () rfl rfl
    | false =>
      refine (run0 (z := 0) 9 [8, 41] [(8, .bool false), (41, .bool false)] (fun _ => by kernel_rfl) (endR ?_) : RT _ _ _ _ _ _ 9 _)
      refine PT.keep (L' := [(8, .bool false), (41, .bool (false && (decide ((IntKind.i64.wrap (0 - (n * strd a - m * strd b))) ≤ (IntKind.i64.wrap ((strd a) + (strd b)))))))]) [8, 41] rfl ?_
      exact midR () rfl rfl
  refine (run0 (z := 0) 1 [8] [(8, .bool ((decide ((n * strd a - m * strd b) ≤ (IntKind.i64.wrap ((strd a) + (strd b))))) && (decide ((IntKind.i64.wrap (0 - (n * strd a - m * strd b))) ≤ (IntKind.i64.wrap ((strd a) + (strd b)))))))] (fun _ => by kernel_rfl) (endR ?_) : RT _ _ _ _ _ _ 1 _)
  refine retR (by kernel_rfl) ?_
  refine done0 (.bool ((decide ((n * strd a - m * strd b) ≤ (IntKind.i64.wrap ((strd a) + (strd b))))) && (decide ((IntKind.i64.wrap (0 - (n * strd a - m * strd b))) ≤ (IntKind.i64.wrap ((strd a) + (strd b))))))) (fun _ => by kernel_rfl) (fun w hs => ?_) .ret (.inr rfl)
  exact ⟨(), by rw [w64 (n := strd a + strd b) (by omega) (by omega), w64 (n := 0 - (n * strd a - m * strd b)) (by omega) (by omega)]; rfl, hs⟩
end Go.Proofs.YtjbjngikaiggdaaGreat
