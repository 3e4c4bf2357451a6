/- passq: comparing, finding; New, Min, Len, Pass. Conditions: none. -/
import Derived.Test.YtjbjngikaiggdaaGreatPdl
import Derived.Test.YtjbjngikaiggdaaGreatGa
set_option linter.unusedVariables false
set_option linter.unusedSimpArgs false
namespace Go.Proofs.YtjbjngikaiggdaaGreat
open Go.RowKit G
def cmpI (x y : Int) : Int := if x < y then -1 else if x > y then 1 else 0
set_option maxRecDepth 100000 in
theorem isNaN_walk (H : List SP) (x : Int) : ∀ w, Sat w H → Calls Tryz.prog 79 #[.int .i64 x] w (Ret (ι := Unit) (fun _ => .bool false) fun _ => H) := by
  refine enterG (fn := Tryz.f79) 6 [.int .i64 x] Tryz.func79 (by kernel_rfl) (by kernel_rfl) (by kernel_rfl) ?_
  refine seqR (by kernel_rfl) ?_
  refine regionR 1 (by kernel_rfl) (by kernel_rfl) ?_
  refine (run0 (z := 0) 1 [0, 2] [(0, .int .i64 x), (2, .bool false)] (fun _ => by kernel_rfl) (endR ?_) : RT _ _ _ _ _ _ 1 _)
  refine seqR (by kernel_rfl) ?_
  refine regionR 4 (by kernel_rfl) (by kernel_rfl) ?_
  refine (run0 (z := 0) 4 [2] [(2, .bool (x != x))] (fun _ => by kernel_rfl) (endR ?_) : RT _ _ _ _ _ _ 4 _)
  refine retR (by kernel_rfl) ?_
  refine done0 (.bool (x != x)) (fun _ => by kernel_rfl) (fun w hs => ?_) .ret (.inr rfl)
  exact ⟨(), by simp, hs⟩
set_option maxRecDepth 100000 in
theorem cmpI_walk (H : List SP) (x y : Int) : ∀ w, Sat w H → Calls Tryz.prog 57 #[.int .i64 x, .int .i64 y] w (Ret (ι := Unit) (fun _ => .int .i64 (cmpI x y)) fun _ => H) := by
  refine enterG (fn := Tryz.f57) 20 [.int .i64 x, .int .i64 y] Tryz.func57 (by kernel_rfl) (by kernel_rfl) (by kernel_rfl) ?_
  refine seqR (by kernel_rfl) ?_
  refine regionR 1 (by kernel_rfl) (by kernel_rfl) ?_
  refine (run0 (z := 0) 1 [0, 1, 4] [(0, .int .i64 x), (1, .int .i64 y), (4, .int .i64 0)] (fun _ => by kernel_rfl) (endR ?_) : RT _ _ _ _ _ _ 1 _)
  refine seqR (by kernel_rfl) ?_
  refine regionR 3 (by kernel_rfl) (by kernel_rfl) ?_
  refine (run0 (z := 2) 1 [0, 1, 4, 7] [(0, .int .i64 x), (1, .int .i64 y), (4, .int .i64 0), (7, .int .i64 x)] (fun _ => by kernel_rfl) ?_ : RT _ _ _ _ _ _ 3 _)
  refine (stepR (z := 1) (callS 79 [.int .i64 x] (some 8) (fun _ => .bool false) (fun (_ : Unit) => (H)) (fun _ => by kernel_rfl) (isNaN_walk _ x)) (fun _ => ?_) : RT _ _ _ _ _ _ 2 _)
  refine (run0 (z := 0) 1 [0, 1, 4, 5] [(0, .int .i64 x), (1, .int .i64 y), (4, .int .i64 0), (5, .bool false)] (fun _ => by kernel_rfl) (endR ?_) : RT _ _ _ _ _ _ 1 _)
  refine seqR (by kernel_rfl) ?_
  refine regionR 3 (by kernel_rfl) (by kernel_rfl) ?_
  refine (run0 (z := 2) 1 [0, 1, 4, 5, 9] [(0, .int .i64 x), (1, .int .i64 y), (4, .int .i64 0), (5, .bool false), (9, .int .i64 y)] (fun _ => by kernel_rfl) ?_ : RT _ _ _ _ _ _ 3 _)
  refine (stepR (z := 1) (callS 79 [.int .i64 y] (some 10) (fun _ => .bool false) (fun (_ : Unit) => (H)) (fun _ => by kernel_rfl) (isNaN_walk _ y)) (fun _ => ?_) : RT _ _ _ _ _ _ 2 _)
  refine (run0 (z := 0) 1 [0, 1, 4, 5, 6] [(0, .int .i64 x), (1, .int .i64 y), (4, .int .i64 0), (5, .bool false), (6, .bool false)] (fun _ => by kernel_rfl) (endR ?_) : RT _ _ _ _ _ _ 1 _)
  refine seqR (by kernel_rfl) ?_
  refine seqR (by kernel_rfl) ?_
  refine regionR 1 (by kernel_rfl) (by kernel_rfl) ?_
  refine (run0 (z := 0) 1 [0, 1, 4, 6, 11] [(0, .int .i64 x), (1, .int .i64 y), (4, .int .i64 0), (6, .bool false), (11, .bool false)] (fun _ => by kernel_rfl) (endR ?_) : RT _ _ _ _ _ _ 1 _)
  refine condR (b := false) (by kernel_rfl) (fun _ => by kernel_rfl) (fun h => by cases h) (fun _ => ?_)
  refine skipR (by kernel_rfl) ?_
  refine seqR (by kernel_rfl) ?_
  refine seqR (by kernel_rfl) ?_
  refine regionR 1 (by kernel_rfl) (by kernel_rfl) ?_
  refine (run0 (z := 0) 1 [0, 1, 4, 13] [(0, .int .i64 x), (1, .int .i64 y), (4, .int .i64 0), (13, .bool false)] (fun _ => by kernel_rfl) (endR ?_) : RT _ _ _ _ _ _ 1 _)
  refine condR (b := false) (by kernel_rfl) (fun _ => by kernel_rfl) (fun h => by cases h) (fun _ => ?_)
  refine skipR (by kernel_rfl) ?_
  refine seqR (by kernel_rfl) ?_
  refine seqR (by kernel_rfl) ?_
  refine regionR 3 (by kernel_rfl) (by kernel_rfl) ?_
  refine (run0 (z := 0) 3 [0, 1, 4, 16] [(0, .int .i64 x), (1, .int .i64 y), (4, .int .i64 0), (16, .bool (decide (x < y)))] (fun _ => by kernel_rfl) (endR ?_) : RT _ _ _ _ _ _ 3 _)
  refine condR (b := decide (x < y)) (by kernel_rfl) (fun _ => by kernel_rfl) (fun h1 => ?_) (fun h1 => ?_)
  · skip
    refine seqR (by kernel_rfl) ?_
    refine regionR 1 (by kernel_rfl) (by kernel_rfl) ?_
    refine (run0 (z := 0) 1 [0, 1, 4] [(0, .int .i64 x), (1, .int .i64 y), (4, .int .i64 (-1))] (fun _ => by kernel_rfl) (endR ?_) : RT _ _ _ _ _ _ 1 _)
    refine retR (by kernel_rfl) ?_
    refine thenV ?_
    refine done0 (.int .i64 (-1)) (fun _ => by kernel_rfl) (fun w hs => ?_) .ret (.inr rfl)
    exact ⟨(), by rw [cmpI, if_pos (of_decide_eq_true h1)], hs⟩
  · skip
    refine skipR (by kernel_rfl) ?_
    refine seqR (by kernel_rfl) ?_
    refine seqR (by kernel_rfl) ?_
    refine regionR 3 (by kernel_rfl) (by kernel_rfl) ?_
    refine (run0 (z := 0) 3 [4, 19] [(4, .int .i64 0), (19, .bool (decide (x > y)))] (fun _ => by kernel_rfl) (endR ?_) : RT _ _ _ _ _ _ 3 _)
    refine condR (b := decide (x > y)) (by kernel_rfl) (fun _ => by kernel_rfl) (fun h2 => ?_) (fun h2 => ?_)
    · skip
      refine seqR (by kernel_rfl) ?_
      refine regionR 1 (by kernel_rfl) (by kernel_rfl) ?_
      refine (run0 (z := 0) 1 [4] [(4, .int .i64 1)] (fun _ => by kernel_rfl) (endR ?_) : RT _ _ _ _ _ _ 1 _)
      refine retR (by kernel_rfl) ?_
      refine thenV ?_
      refine done0 (.int .i64 1) (fun _ => by kernel_rfl) (fun w hs => ?_) .ret (.inr rfl)
      exact ⟨(), by rw [cmpI, if_neg (of_decide_eq_false h1), if_pos (of_decide_eq_true h2)], hs⟩
    · skip
      refine skipR (by kernel_rfl) ?_
      refine seqR (by kernel_rfl) ?_
      refine regionR 1 (by kernel_rfl) (by kernel_rfl) ?_
      refine (run0 (z := 0) 1 [4] [(4, .int .i64 0)] (fun _ => by kernel_rfl) (endR ?_) : RT _ _ _ _ _ _ 1 _)
      refine retR (by kernel_rfl) ?_
      refine done0 (.int .i64 0) (fun _ => by kernel_rfl) (fun w hs => ?_) .ret (.inr rfl)
      exact ⟨(), by rw [cmpI, if_neg (of_decide_eq_false h1), if_neg (of_decide_eq_false h2)], hs⟩
def orI (x y : Int) : Int := if x != 0 then x else y
set_option maxRecDepth 100000 in
theorem or_walk (H : List SP) (b : Nat) (x y : Int) : ∀ w, Sat w (blk b 3 [.int .i64 x, .int .i64 y] :: H) → Calls Tryz.prog 56 #[.slice (some ⟨b, 0, none⟩) 2 2] w (Ret (ι := Unit) (fun _ => .int .i64 (orI x y)) fun _ => blk b 3 [.int .i64 x, .int .i64 y] :: H) := by
  refine enterG (fn := Tryz.f56) 18 [.slice (some ⟨b, 0, none⟩) 2 2] Tryz.func56 (by kernel_rfl) (by kernel_rfl) (by kernel_rfl) ?_
  refine seqR (by kernel_rfl) ?_
  refine regionR 1 (by kernel_rfl) (by kernel_rfl) ?_
  refine (run0 (z := 0) 1 [0, 2] [(0, .slice (some ⟨b, 0, none⟩) 2 2), (2, .int .i64 0)] (fun _ => by kernel_rfl) (endR ?_) : RT _ _ _ _ _ _ 1 _)
  refine seqR (by kernel_rfl) ?_
  refine regionR 1 (by kernel_rfl) (by kernel_rfl) ?_
  refine (run0 (z := 0) 1 [0, 2, 3] [(0, .slice (some ⟨b, 0, none⟩) 2 2), (2, .int .i64 0), (3, .int .i64 0)] (fun _ => by kernel_rfl) (endR ?_) : RT _ _ _ _ _ _ 1 _)
  refine seqR (by kernel_rfl) ?_
  refine seqR (by kernel_rfl) ?_
  refine regionR 3 (by kernel_rfl) (by kernel_rfl) ?_
  refine (run0 (z := 0) 3 [2, 3, 6, 7, 8] [(2, .int .i64 0), (3, .int .i64 0), (6, .slice (some ⟨b, 0, none⟩) 2 2), (7, .int .i64 2), (8, .int .i64 0)] (fun _ => by kernel_rfl) (endR ?_) : RT _ _ _ _ _ _ 3 _)
  refine blockR 0 (by kernel_rfl) (by kernel_rfl) ?_
  refine PT.keep (L' := [(2, .int .i64 0), (3, .int .i64 0), (6, .slice (some ⟨b, 0, none⟩) 2 2), (7, .int .i64 2), (8, .int .i64 0)]) [2, 3, 6, 7, 8] rfl ?_
  refine loopG (fun (u : Nat) => [(2, .int .i64 0), (3, .int .i64 0), (6, .slice (some ⟨b, 0, none⟩) 2 2), (7, .int .i64 2), (8, .int .i64 (u : Int))]) (fun (u : Nat) => (blk b 3 [.int .i64 x, .int .i64 y] :: H)) (fun k (u : Nat) => k + u = 2 ∧ (1 ≤ u → x = 0) ∧ (2 ≤ u → y = 0)) 2 0 (by kernel_rfl) ⟨rfl, by omega, by omega⟩ ?_
  rintro k u ⟨hku, hx, hy⟩
  have hu3 : u = 0 ∨ u = 1 ∨ u = 2 := by omega
  rcases hu3 with rfl | rfl | rfl
  · skip
    refine seqR (by kernel_rfl) ?_
    refine regionR 1 (by kernel_rfl) (by kernel_rfl) ?_
    refine (run0 (z := 0) 1 [2, 3, 6, 7, 8, 9] [(2, .int .i64 0), (3, .int .i64 0), (6, .slice (some ⟨b, 0, none⟩) 2 2), (7, .int .i64 2), (8, .int .i64 0), (9, .bool true)] (fun _ => by kernel_rfl) (endR ?_) : RT _ _ _ _ _ _ 1 _)
    refine seqR (by kernel_rfl) ?_
    refine condR (b := true) (by kernel_rfl) (fun _ => by kernel_rfl) (fun _ => ?_) (fun h => by cases h)
    refine skipR (by kernel_rfl) ?_
    refine seqR (by kernel_rfl) ?_
    refine blockR 1 (by kernel_rfl) (by kernel_rfl) ?_
    refine seqR (by kernel_rfl) ?_
    refine regionR 3 (by kernel_rfl) (by kernel_rfl) ?_
    refine (stepR (z := 2) (yldS (idxY 74 (.tmp 6) (.tmp 8) b 0 2 2 0 1 3 0 .i64 (some 10) (fun _ => by kernel_rfl) (by kernel_rfl) (by kernel_rfl) (fun _ => by kernel_rfl) (fun _ => by kernel_rfl) Tryz.underlying74 (by kernel_rfl) (by first | rfl | assumption | simp) (by first | omega | (simp; done) | (simp; omega) | (simp at *; omega)))) (fun _ => ?_) : RT _ _ _ _ _ _ 3 _)
    refine (runR (H := (blk b 3 [.int .i64 x, .int .i64 y] :: H)) (z := 0) 2 [2, 3, 6, 7, 8, 5] [(2, .int .i64 0), (3, .int .i64 0), (6, .slice (some ⟨b, 0, none⟩) 2 2), (7, .int .i64 2), (8, .int .i64 0), (5, .int .i64 x)] [(⟨b, 0 + 0 * 1, none⟩, .int .i64 x)] (hasC ((blkAt (T := 3) (cs := [.int .i64 x, .int .i64 y]) 0 rfl rfl)) has0) (fun _ => by kernel_rfl) (endR ?_) : RT _ _ _ _ _ _ 2 _)
    refine seqR (by kernel_rfl) ?_
    refine regionR 3 (by kernel_rfl) (by kernel_rfl) ?_
    refine (run0 (z := 0) 3 [2, 3, 6, 7, 8, 5, 14] [(2, .int .i64 0), (3, .int .i64 0), (6, .slice (some ⟨b, 0, none⟩) 2 2), (7, .int .i64 2), (8, .int .i64 0), (5, .int .i64 x), (14, .bool (x != 0))] (fun _ => by kernel_rfl) (endR ?_) : RT _ _ _ _ _ _ 3 _)
    refine condR (b := x != 0) (by kernel_rfl) (fun _ => by kernel_rfl) (fun h1 => ?_) (fun h1 => ?_)
    · skip
      refine seqR (by kernel_rfl) ?_
      refine regionR 2 (by kernel_rfl) (by kernel_rfl) ?_
      refine (run0 (z := 0) 2 [2, 3, 6, 7, 8] [(2, .int .i64 x), (3, .int .i64 0), (6, .slice (some ⟨b, 0, none⟩) 2 2), (7, .int .i64 2), (8, .int .i64 0)] (fun _ => by kernel_rfl) (endR ?_) : RT _ _ _ _ _ _ 2 _)
      refine retR (by kernel_rfl) ?_
      refine blockV ?_
      refine thenV ?_
      refine thenV ?_
      refine blockV ?_
      refine thenV ?_
      refine done0 (.int .i64 x) (fun _ => by kernel_rfl) (fun w hs => ?_) .ret (.inr rfl)
      exact ⟨(), by rw [orI, if_pos h1], hs⟩
    · skip
      refine skipR (by kernel_rfl) ?_
      refine regionR 2 (by kernel_rfl) (by kernel_rfl) ?_
      refine (run0 (z := 0) 2 [2, 3, 6, 7, 8] [(2, .int .i64 0), (3, .int .i64 0), (6, .slice (some ⟨b, 0, none⟩) 2 2), (7, .int .i64 2), (8, .int .i64 (IntKind.i64.wrap (0 + 1)))] (fun _ => by kernel_rfl) (endR ?_) : RT _ _ _ _ _ _ 2 _)
      refine PT.keep (L' := [(2, .int .i64 0), (3, .int .i64 0), (6, .slice (some ⟨b, 0, none⟩) 2 2), (7, .int .i64 2), (8, .int .i64 (IntKind.i64.wrap (0 + 1)))]) [2, 3, 6, 7, 8] rfl ?_
      exact againG (k - 1) 1 rfl rfl (by omega) ⟨by omega, fun _ => by simpa using h1, by omega⟩
  · skip
    refine seqR (by kernel_rfl) ?_
    refine regionR 1 (by kernel_rfl) (by kernel_rfl) ?_
    refine (run0 (z := 0) 1 [2, 3, 6, 7, 8, 9] [(2, .int .i64 0), (3, .int .i64 0), (6, .slice (some ⟨b, 0, none⟩) 2 2), (7, .int .i64 2), (8, .int .i64 1), (9, .bool true)] (fun _ => by kernel_rfl) (endR ?_) : RT _ _ _ _ _ _ 1 _)
    refine seqR (by kernel_rfl) ?_
    refine condR (b := true) (by kernel_rfl) (fun _ => by kernel_rfl) (fun _ => ?_) (fun h => by cases h)
    refine skipR (by kernel_rfl) ?_
    refine seqR (by kernel_rfl) ?_
    refine blockR 1 (by kernel_rfl) (by kernel_rfl) ?_
    refine seqR (by kernel_rfl) ?_
    refine regionR 3 (by kernel_rfl) (by kernel_rfl) ?_
    refine (stepR (z := 2) (yldS (idxY 74 (.tmp 6) (.tmp 8) b 0 2 2 1 1 3 1 .i64 (some 10) (fun _ => by kernel_rfl) (by kernel_rfl) (by kernel_rfl) (fun _ => by kernel_rfl) (fun _ => by kernel_rfl) Tryz.underlying74 (by kernel_rfl) (by first | rfl | assumption | simp) (by first | omega | (simp; done) | (simp; omega) | (simp at *; omega)))) (fun _ => ?_) : RT _ _ _ _ _ _ 3 _)
    refine (runR (H := (blk b 3 [.int .i64 x, .int .i64 y] :: H)) (z := 0) 2 [2, 3, 6, 7, 8, 5] [(2, .int .i64 0), (3, .int .i64 0), (6, .slice (some ⟨b, 0, none⟩) 2 2), (7, .int .i64 2), (8, .int .i64 1), (5, .int .i64 y)] [(⟨b, 0 + 1 * 1, none⟩, .int .i64 y)] (hasC ((blkAt (T := 3) (cs := [.int .i64 x, .int .i64 y]) 0 rfl rfl)) has0) (fun _ => by kernel_rfl) (endR ?_) : RT _ _ _ _ _ _ 2 _)
    refine seqR (by kernel_rfl) ?_
    refine regionR 3 (by kernel_rfl) (by kernel_rfl) ?_
    refine (run0 (z := 0) 3 [2, 3, 6, 7, 8, 5, 14] [(2, .int .i64 0), (3, .int .i64 0), (6, .slice (some ⟨b, 0, none⟩) 2 2), (7, .int .i64 2), (8, .int .i64 1), (5, .int .i64 y), (14, .bool (y != 0))] (fun _ => by kernel_rfl) (endR ?_) : RT _ _ _ _ _ _ 3 _)
    have hx0 := hx (by omega)
    refine condR (b := y != 0) (by kernel_rfl) (fun _ => by kernel_rfl) (fun h1 => ?_) (fun h1 => ?_)
    · skip
      refine seqR (by kernel_rfl) ?_
      refine regionR 2 (by kernel_rfl) (by kernel_rfl) ?_
      refine (run0 (z := 0) 2 [2, 3, 6, 7, 8] [(2, .int .i64 y), (3, .int .i64 0), (6, .slice (some ⟨b, 0, none⟩) 2 2), (7, .int .i64 2), (8, .int .i64 1)] (fun _ => by kernel_rfl) (endR ?_) : RT _ _ _ _ _ _ 2 _)
      refine retR (by kernel_rfl) ?_
      refine blockV ?_
      refine thenV ?_
      refine thenV ?_
      refine blockV ?_
      refine thenV ?_
      refine done0 (.int .i64 y) (fun _ => by kernel_rfl) (fun w hs => ?_) .ret (.inr rfl)
      exact ⟨(), by rw [orI, hx0]; rfl, hs⟩
    · skip
      refine skipR (by kernel_rfl) ?_
      refine regionR 2 (by kernel_rfl) (by kernel_rfl) ?_
      refine (run0 (z := 0) 2 [2, 3, 6, 7, 8] [(2, .int .i64 0), (3, .int .i64 0), (6, .slice (some ⟨b, 0, none⟩) 2 2), (7, .int .i64 2), (8, .int .i64 (IntKind.i64.wrap (1 + 1)))] (fun _ => by kernel_rfl) (endR ?_) : RT _ _ _ _ _ _ 2 _)
      refine PT.keep (L' := [(2, .int .i64 0), (3, .int .i64 0), (6, .slice (some ⟨b, 0, none⟩) 2 2), (7, .int .i64 2), (8, .int .i64 (IntKind.i64.wrap (1 + 1)))]) [2, 3, 6, 7, 8] rfl ?_
      exact againG (k - 1) 2 rfl rfl (by omega) ⟨by omega, fun _ => hx0, fun _ => by simpa using h1⟩
  · skip
    refine seqR (by kernel_rfl) ?_
    refine regionR 1 (by kernel_rfl) (by kernel_rfl) ?_
    refine (run0 (z := 0) 1 [2, 3, 6, 7, 8, 9] [(2, .int .i64 0), (3, .int .i64 0), (6, .slice (some ⟨b, 0, none⟩) 2 2), (7, .int .i64 2), (8, .int .i64 2), (9, .bool false)] (fun _ => by kernel_rfl) (endR ?_) : RT _ _ _ _ _ _ 1 _)
    refine seqR (by kernel_rfl) ?_
    refine condR (b := false) (by kernel_rfl) (fun _ => by kernel_rfl) (fun h => by cases h) (fun _ => ?_)
    refine exitR 0 (by kernel_rfl) (by kernel_rfl) ?_
    refine thenX ?_
    refine thenX ?_
    refine leaveR ?_
    refine seqR (by kernel_rfl) ?_
    refine regionR 2 (by kernel_rfl) (by kernel_rfl) ?_
    refine (run0 (z := 0) 2 [2] [(2, .int .i64 0)] (fun _ => by kernel_rfl) (endR ?_) : RT _ _ _ _ _ _ 2 _)
    refine retR (by kernel_rfl) ?_
    have hx0 := hx (by omega)
    have hy0 := hy (by omega)
    refine done0 (.int .i64 0) (fun _ => by kernel_rfl) (fun w hs => ?_) .ret (.inr rfl)
    exact ⟨(), by rw [orI, hx0, hy0]; rfl, hs⟩
def byI (a b : Int × Int) : Int := orI (cmpI a.1 b.1) (cmpI a.2 b.2)
set_option maxRecDepth 100000 in
theorem by_walk (H : List SP) (p i q j : Int) : ∀ w, Sat w H → Calls Tryz.prog 49 #[.agg #[.int .i64 p, .int .i64 i], .agg #[.int .i64 q, .int .i64 j]] w (Ret (ι := Unit) (fun _ => .int .i64 (byI (p, i) (q, j))) fun _ => H) := by
  refine enterG (fn := Tryz.f49) 17 [.agg #[.int .i64 p, .int .i64 i], .agg #[.int .i64 q, .int .i64 j]] Tryz.func49 (by kernel_rfl) (by kernel_rfl) (by kernel_rfl) ?_
  refine seqR (by kernel_rfl) ?_
  refine regionR 3 (by kernel_rfl) (by kernel_rfl) ?_
  refine (stepR (z := 2) (newS 65 [.int .i64 p, .int .i64 i] (some 2) (fun b => .pointer (some ⟨b, 0, none⟩)) (fun _ _ => by kernel_rfl)) (fun b1 => ?_) : RT _ _ _ _ _ _ 3 _)
  refine (stepR (z := 1) (newS 65 [.int .i64 q, .int .i64 j] (some 3) (fun b => .pointer (some ⟨b, 0, none⟩)) (fun _ _ => by kernel_rfl)) (fun b2 => ?_) : RT _ _ _ _ _ _ 2 _)
  refine (run0 (z := 0) 1 [3, 2, 4] [(3, .pointer (some ⟨b2, 0, none⟩)), (2, .pointer (some ⟨b1, 0, none⟩)), (4, .int .i64 0)] (fun _ => by kernel_rfl) (endR ?_) : RT _ _ _ _ _ _ 1 _)
  refine seqR (by kernel_rfl) ?_
  refine drawR (fun w => Sat w (blk b2 65 [.int .i64 q, .int .i64 j] :: blk b1 65 [.int .i64 p, .int .i64 i] :: H)) [] 13 (by kernel_rfl) (by kernel_rfl) (by kernel_rfl) (fun _ h => by first | exact h | exact h.tail | exact h.tail.tail | exact h.tail.tail.tail | exact h.tail.tail.tail.tail) ?_
  refine takesR [0, 1, 2, 3, 5, 6, 7, 8] [4, 6, 8, 11, 13] 5 [true, true, true, true, false, true, true, true, true, false, false, false, false] [(4, .int .i64 0), (6, .int .i64 p), (8, .int .i64 q), (11, .int .i64 i), (13, .int .i64 j)] [(⟨b1, 0, none⟩, .int .i64 p), (⟨b2, 0, none⟩, .int .i64 q), (⟨b1, 1, none⟩, .int .i64 i), (⟨b2, 1, none⟩, .int .i64 j)] rfl (fun _ d _ _ _ h => by cases d <;> exact h) (fun _ h => by first | exact h | exact h.tail | exact h.tail.tail | exact h.tail.tail.tail | exact h.tail.tail.tail.tail) (hasC (blkAt (T := 65) (cs := [.int .i64 p, .int .i64 i]) 1 rfl rfl) (hasC (blkAt (T := 65) (cs := [.int .i64 q, .int .i64 j]) 0 rfl rfl) (hasC (blkAt (T := 65) (cs := [.int .i64 p, .int .i64 i]) 1 rfl rfl) (hasC (blkAt (T := 65) (cs := [.int .i64 q, .int .i64 j]) 0 rfl rfl) has0)))) (fun _ => by kernel_rfl) ?_
  refine oneR 4 4 [true, true, true, true, true, true, true, true, true, false, false, false, false] rfl rfl (by kernel_rfl) (callS 57 [.int .i64 p, .int .i64 q] (some 9) (fun _ => .int .i64 (cmpI p q)) (fun (_ : Unit) => (blk b2 65 [.int .i64 q, .int .i64 j] :: blk b1 65 [.int .i64 p, .int .i64 i] :: H)) (fun _ => by kernel_rfl) (cmpI_walk _ p q)) (fun _ _ h hn => by first | exact h | exact h.tail | exact h.tail.tail | exact h.tail.tail.tail | exact h.tail.tail.tail.tail | exact absurd hn (by decide)) (fun _ => ?_)
  refine oneR 9 3 [true, true, true, true, true, true, true, true, true, true, false, false, false] rfl rfl (by kernel_rfl) (callS 57 [.int .i64 i, .int .i64 j] (some 14) (fun _ => .int .i64 (cmpI i j)) (fun (_ : Unit) => (blk b2 65 [.int .i64 q, .int .i64 j] :: blk b1 65 [.int .i64 p, .int .i64 i] :: H)) (fun _ => by kernel_rfl) (cmpI_walk _ i j)) (fun _ _ h hn => by first | exact h | exact h.tail | exact h.tail.tail | exact h.tail.tail.tail | exact h.tail.tail.tail.tail | exact absurd hn (by decide)) (fun _ => ?_)
  refine oneR 10 2 [true, true, true, true, true, true, true, true, true, true, true, false, false] rfl rfl (by kernel_rfl) (newS 3 [.int .i64 (cmpI p q), .int .i64 (cmpI i j)] (some 15) (fun b => .slice (some ⟨b, 0, none⟩) 2 2) (fun _ _ => by kernel_rfl)) (fun _ _ h hn => by first | exact h | exact h.tail | exact h.tail.tail | exact h.tail.tail.tail | exact h.tail.tail.tail.tail | exact absurd hn (by decide)) (fun b3 => ?_)
  refine oneR 11 1 [true, true, true, true, true, true, true, true, true, true, true, true, false] rfl rfl (by kernel_rfl) (callS 56 [.slice (some ⟨b3, 0, none⟩) 2 2] (some 16) (fun _ => .int .i64 (byI (p, i) (q, j))) (fun _ => (blk b3 3 [.int .i64 (cmpI p q), .int .i64 (cmpI i j)] :: blk b2 65 [.int .i64 q, .int .i64 j] :: blk b1 65 [.int .i64 p, .int .i64 i] :: H)) (fun _ => by kernel_rfl) (or_walk _ b3 (cmpI p q) (cmpI i j))) (fun _ _ h hn => by first | exact h | exact h.tail | exact h.tail.tail | exact h.tail.tail.tail | exact h.tail.tail.tail.tail | exact absurd hn (by decide)) (fun _ => ?_)
  refine takesR [12] [4] 0 [true, true, true, true, true, true, true, true, true, true, true, true, true] [(4, .int .i64 (byI (p, i) (q, j)))] [] rfl (fun _ d _ _ _ h => by cases d <;> exact h) (fun _ h => by first | exact h | exact h.tail | exact h.tail.tail | exact h.tail.tail.tail | exact h.tail.tail.tail.tail) has0 (fun _ => by kernel_rfl) ?_
  refine drawnR (by kernel_rfl) ?_
  refine retR (by kernel_rfl) ?_
  refine done0 (.int .i64 (byI (p, i) (q, j))) (fun _ => by kernel_rfl) (fun w hs => ?_) .ret (.inr rfl)
  exact ⟨(), rfl, hs.tail.tail.tail⟩
/-- Where an entry is. -/
def findI (l : List (Int × Int)) (id : Int) : Int := match l.findIdx? (fun e => e.2 == id) with | some i => (i : Int) | none => -1
theorem find_none {l : List (Int × Int)} {id : Int} (h : ∀ e ∈ l, e.2 ≠ id) : findI l id = -1 := by
  have : l.findIdx? (fun e => e.2 == id) = none := List.findIdx?_eq_none_iff.2 fun e he => by simpa using h e he
  unfold findI; rw [this]
theorem find_some {l : List (Int × Int)} {id : Int} {i : Nat} {e : Int × Int} (he : l[i]? = some e) (hid : e.2 = id) (hno : ∀ v e, v < i → l[v]? = some e → e.2 ≠ id) : findI l id = i := by
  obtain ⟨hil, hie⟩ := List.getElem?_eq_some_iff.1 he
  have : l.findIdx? (fun e => e.2 == id) = some i := by
    rw [List.findIdx?_eq_some_iff_getElem]
    refine ⟨hil, by rw [hie]; simpa using hid, fun j hj => ?_⟩
    have hjl : j < l.length := by omega
    have := hno j l[j] hj (by simp)
    simpa using this
  unfold findI; rw [this]
set_option maxRecDepth 100000 in
theorem find_walk (H : List SP) (b : Nat) (A : Option Addr) (cap : Nat) (room : Int) (l : List (Int × Int)) (id : Int) (hl : l.length ≤ 1000000) : ∀ w, Sat w (blk b 81 [.slice A l.length cap, .int .i64 room] :: row slE 65 (.slice A l.length cap) l :: H) → Calls Tryz.prog 45 #[.pointer (some ⟨b, 0, none⟩), .int .i64 id] w (Ret (ι := Unit) (fun _ => .int .i64 (findI l id)) fun _ => blk b 81 [.slice A l.length cap, .int .i64 room] :: row slE 65 (.slice A l.length cap) l :: H) := by
  refine enterG (fn := Tryz.f45) 28 [.pointer (some ⟨b, 0, none⟩), .int .i64 id] Tryz.func45 (by kernel_rfl) (by kernel_rfl) (by kernel_rfl) ?_
  refine seqR (by kernel_rfl) ?_
  refine regionR 1 (by kernel_rfl) (by kernel_rfl) ?_
  refine (run0 (z := 0) 1 [0, 1, 4] [(0, .pointer (some ⟨b, 0, none⟩)), (1, .int .i64 id), (4, .int .i64 0)] (fun _ => by kernel_rfl) (endR ?_) : RT _ _ _ _ _ _ 1 _)
  refine scopeG 0 (fun (u : Nat) => [(0, .pointer (some ⟨b, 0, none⟩)), (1, .int .i64 id), (5, .int .i64 (u : Int))]) (fun _ => (blk b 81 [.slice A l.length cap, .int .i64 room] :: row slE 65 (.slice A l.length cap) l :: H)) (fun k (u : Nat) => k + u = l.length ∧ ∀ v e, v < u → l[v]? = some e → e.2 ≠ id) (by kernel_rfl) (by kernel_rfl) (by kernel_rfl) (by kernel_rfl) ?_ ?_
  · skip
    rintro k u ⟨hku, hno⟩ K hK
    refine seqR (by kernel_rfl) ?_
    refine blockR 0 (by kernel_rfl) (by kernel_rfl) ?_
    refine seqR (by kernel_rfl) ?_
    refine regionR 8 (by kernel_rfl) (by kernel_rfl) ?_
    refine (runR (H := (blk b 81 [.slice A l.length cap, .int .i64 room] :: row slE 65 (.slice A l.length cap) l :: H)) (z := 0) 8 [0, 1, 5, 6] [(0, .pointer (some ⟨b, 0, none⟩)), (1, .int .i64 id), (5, .int .i64 (u : Int)), (6, .bool ((u : Int) == (l.length : Int)))] [(⟨b, 0, none⟩, .slice A l.length cap)] (hasC (blkAt (T := 81) (cs := [.slice A l.length cap, .int .i64 room]) 0 rfl rfl) has0) (fun _ => by kernel_rfl) (endR ?_) : RT _ _ _ _ _ _ 8 _)
    refine condR (b := (u : Int) == (l.length : Int)) (by kernel_rfl) (fun _ => by kernel_rfl) (fun h1 => ?_) (fun h1 => ?_)
    · skip
      have hu0 : (u : Int) = (l.length : Int) := eq_of_beq h1
      have hu : u = l.length := by omega
      refine seqR (by kernel_rfl) ?_
      refine regionR 1 (by kernel_rfl) (by kernel_rfl) ?_
      refine (run0 (z := 0) 1 [0, 1, 5, 4] [(0, .pointer (some ⟨b, 0, none⟩)), (1, .int .i64 id), (5, .int .i64 (u : Int)), (4, .int .i64 (-1))] (fun _ => by kernel_rfl) (endR ?_) : RT _ _ _ _ _ _ 1 _)
      refine retR (by kernel_rfl) ?_
      refine blockV ?_
      refine thenV ?_
      refine jumpV ?_
      refine done0 (.int .i64 (-1)) (fun _ => by kernel_rfl) (fun w hs => ?_) .ret (.inr rfl)
      exact ⟨(), by rw [find_none (fun e he => by obtain ⟨v, hv⟩ := List.getElem?_of_mem he; exact hno v e (by have := (List.getElem?_eq_some_iff.1 hv).1; omega) hv)], hs⟩
    · skip
      have hu0 : ¬ (u : Int) = (l.length : Int) := beq_eq_false_iff_ne.1 h1
      have hu : u < l.length := by omega
      obtain ⟨e, he⟩ : ∃ e, l[u]? = some e := ⟨_, by simp [hu]; rfl⟩
      refine PT.know (KR.isSome (s := ⟨A, cap, l⟩) (rowKRat 1 rfl) (List.ne_nil_of_length_pos (by show 0 < l.length; omega))) ?_
      rintro ⟨sb, so, hA⟩
      dsimp only at hA
      subst hA
      refine seqR (by kernel_rfl) ?_
      refine regionR 11 (by kernel_rfl) (by kernel_rfl) ?_
      refine (runR (H := (blk b 81 [.slice (some ⟨sb, so, none⟩) l.length cap, .int .i64 room] :: row slE 65 (.slice (some ⟨sb, so, none⟩) l.length cap) l :: H)) (z := 6) 5 [0, 1, 5, 18, 19] [(0, .pointer (some ⟨b, 0, none⟩)), (1, .int .i64 id), (5, .int .i64 (u : Int)), (18, .slice (some ⟨sb, so, none⟩) l.length cap), (19, .int .i64 (u : Int))] [(⟨b, 0, none⟩, .slice (some ⟨sb, so, none⟩) l.length cap)] (hasC (blkAt (T := 81) (cs := [.slice (some ⟨sb, so, none⟩) l.length cap, .int .i64 room]) 0 rfl rfl) has0) (fun _ => by kernel_rfl) ?_ : RT _ _ _ _ _ _ 11 _)
      refine (stepR (z := 5) (yldS (idxY 79 (.tmp 18) (.tmp 19) sb so l.length cap u 2 65 (u : Int) .i64 (some 20) (fun _ => by kernel_rfl) (by kernel_rfl) (by kernel_rfl) (fun _ => by kernel_rfl) (fun _ => by kernel_rfl) Tryz.underlying79 (by kernel_rfl) (by first | rfl | assumption | simp) (by first | omega | (simp; done) | (simp; omega) | (simp at *; omega)))) (fun _ => ?_) : RT _ _ _ _ _ _ 6 _)
      refine (runR (H := (blk b 81 [.slice (some ⟨sb, so, none⟩) l.length cap, .int .i64 room] :: row slE 65 (.slice (some ⟨sb, so, none⟩) l.length cap) l :: H)) (z := 0) 5 [0, 1, 5, 14] [(0, .pointer (some ⟨b, 0, none⟩)), (1, .int .i64 id), (5, .int .i64 (u : Int)), (14, .bool (e.2 == id))] [(⟨sb, so + u * 2 + 1, none⟩, .int .i64 e.2)] (hasC ((rowKRat (xs := l) (A := some ⟨sb, so, none⟩) (k := cap) (E := slE) (T := 65) 1 rfl).cell rfl (i := u) (x := e) he (j := 1) rfl) has0) (fun _ => by kernel_rfl) (endR ?_) : RT _ _ _ _ _ _ 5 _)
      refine condR (b := e.2 == id) (by kernel_rfl) (fun _ => by kernel_rfl) (fun h2 => ?_) (fun h2 => ?_)
      · skip
        refine seqR (by kernel_rfl) ?_
        refine regionR 2 (by kernel_rfl) (by kernel_rfl) ?_
        refine (run0 (z := 0) 2 [0, 1, 5, 4] [(0, .pointer (some ⟨b, 0, none⟩)), (1, .int .i64 id), (5, .int .i64 (u : Int)), (4, .int .i64 (u : Int))] (fun _ => by kernel_rfl) (endR ?_) : RT _ _ _ _ _ _ 2 _)
        refine retR (by kernel_rfl) ?_
        refine blockV ?_
        refine thenV ?_
        refine jumpV ?_
        refine done0 (.int .i64 (u : Int)) (fun _ => by kernel_rfl) (fun w hs => ?_) .ret (.inr rfl)
        exact ⟨(), by rw [find_some (i := u) he (by simpa using h2) hno], hs⟩
      · skip
        refine skipR (by kernel_rfl) ?_
        refine seqR (by kernel_rfl) ?_
        refine regionR 3 (by kernel_rfl) (by kernel_rfl) ?_
        refine (run0 (z := 0) 3 [0, 1, 5] [(0, .pointer (some ⟨b, 0, none⟩)), (1, .int .i64 id), (5, .int .i64 (IntKind.i64.wrap ((u : Int) + 1)))] (fun _ => by kernel_rfl) (endR ?_) : RT _ _ _ _ _ _ 3 _)
        refine gotoR 0 (by kernel_rfl) (by kernel_rfl) ?_
        rw [show IntKind.i64.wrap ((u : Int) + 1) = ((u + 1 : Nat) : Int) by rw [IntKind.wrap_i64]; omega]
        have hno2 : ∀ v e, v < u + 1 → l[v]? = some e → e.2 ≠ id := by
          intro v e' hv hv2
          by_cases c : v = u
          · subst c; rw [he] at hv2; cases hv2; simpa using h2
          · exact hno v e' (by omega) hv2
        refine PT.keep (L' := [(0, .pointer (some ⟨b, 0, none⟩)), (1, .int .i64 id), (5, .int .i64 ((u + 1 : Nat) : Int))]) [0, 1, 5] rfl ?_
        exact jumpR (hK (k - 1) (u + 1) (by omega) ⟨by omega, hno2⟩)
  · skip
    intro K hK
    refine seqR (by kernel_rfl) ?_
    refine regionR 1 (by kernel_rfl) (by kernel_rfl) ?_
    refine (run0 (z := 0) 1 [0, 1, 4, 5] [(0, .pointer (some ⟨b, 0, none⟩)), (1, .int .i64 id), (4, .int .i64 0), (5, .int .i64 0)] (fun _ => by kernel_rfl) (endR ?_) : RT _ _ _ _ _ _ 1 _)
    refine seqR (by kernel_rfl) ?_
    refine labelR (by kernel_rfl) ?_
    refine PT.keep (L' := [(0, .pointer (some ⟨b, 0, none⟩)), (1, .int .i64 id), (5, .int .i64 0)]) [0, 1, 5] rfl ?_
    refine codeR (by kernel_rfl) (hK l.length 0 ⟨by omega, fun v e hv => by omega⟩)
end Go.Proofs.YtjbjngikaiggdaaGreat
