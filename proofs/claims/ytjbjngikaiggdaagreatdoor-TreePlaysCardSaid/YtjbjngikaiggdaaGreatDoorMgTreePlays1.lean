/- Texts put together: passq: comparing, finding; New, Min, Len, Pass. passq: New, isPass, Min, Len, Pass. passq: the search for a place; insert. passq: insert, Put, Drop, Rekey. math/bits.Len of small numbers: its walk. slices.SortFunc of entries that are in order: it changes nothing. Conditions: the row is in order. passq: All, Shift. errors.Is of numbered errors: its walk. passq: entries compared; errors; what the laws know first. Trees: their nodes as a list, what each operation makes of it; nodes in memory. Conditions: none. -/
import Derived.Test.YtjbjngikaiggdaaGreatDoorMgTreePlays0
import Derived.Lib.BitFns
import Derived.Lib.Tables
import Derived.LaidEql
import Derived.Stop.Asserts
import Derived.RowKitTokens
import Derived.Lib.IfaceEq
import Derived.Laws.StructEq
import Derived.ChangeKeysEq
set_option linter.unusedVariables false
set_option linter.unusedSimpArgs false
namespace Go.Proofs.YtjbjngikaiggdaaGreatDoor
open Go.RowKit G
def cmpI (x y : Int) : Int := if x < y then -1 else if x > y then 1 else 0
set_option maxRecDepth 100000 in
theorem isNaN_walk (H : List SP) (x : Int) : ∀ w, Sat w H → Calls Tryz.prog 98 #[.int .i64 x] w (Ret (ι := Unit) (fun _ => .bool false) fun _ => H) := by
  refine enterG (fn := Tryz.f98) 6 [.int .i64 x] Tryz.func98 (by kernel_rfl) (by kernel_rfl) (by kernel_rfl) ?_
  refine seqR (by kernel_rfl) ?_
  refine regionR 1 (by kernel_rfl) (by kernel_rfl) ?_
  refine (run0 (z := 0) 1 [0, 2] [(0, .int .i64 x), (2, .bool false)] (fun _ => by kernel_rfl) (endR ?_) : RT _ _ _ _ _ _ 1 _)
  refine seqR (by kernel_rfl) ?_
  refine regionR 4 (by kernel_rfl) (by kernel_rfl) ?_
  refine (run0 (z := 0) 4 [2] [(2, .bool (x != x))] (fun _ => by kernel_rfl) (endR ?_) : RT _ _ _ _ _ _ 4 _)
  refine retR (by kernel_rfl) ?_
  refine done0 (.bool (x != x)) (fun _ => by kernel_rfl) (fun w hs => ?_) .ret (.inr rfl)
  exact ⟨(), by simp, hs⟩
set_option maxRecDepth 100000 in
theorem cmpI_walk (H : List SP) (x y : Int) : ∀ w, Sat w H → Calls Tryz.prog 76 #[.int .i64 x, .int .i64 y] w (Ret (ι := Unit) (fun _ => .int .i64 (cmpI x y)) fun _ => H) := by
  refine enterG (fn := Tryz.f76) 20 [.int .i64 x, .int .i64 y] Tryz.func76 (by kernel_rfl) (by kernel_rfl) (by kernel_rfl) ?_
  refine seqR (by kernel_rfl) ?_
  refine regionR 1 (by kernel_rfl) (by kernel_rfl) ?_
  refine (run0 (z := 0) 1 [0, 1, 4] [(0, .int .i64 x), (1, .int .i64 y), (4, .int .i64 0)] (fun _ => by kernel_rfl) (endR ?_) : RT _ _ _ _ _ _ 1 _)
  refine seqR (by kernel_rfl) ?_
  refine regionR 3 (by kernel_rfl) (by kernel_rfl) ?_
  refine (run0 (z := 2) 1 [0, 1, 4, 7] [(0, .int .i64 x), (1, .int .i64 y), (4, .int .i64 0), (7, .int .i64 x)] (fun _ => by kernel_rfl) ?_ : RT _ _ _ _ _ _ 3 _)
  refine (stepR (z := 1) (callS 98 [.int .i64 x] (some 8) (fun _ => .bool false) (fun (_ : Unit) => (H)) (fun _ => by kernel_rfl) (isNaN_walk _ x)) (fun _ => ?_) : RT _ _ _ _ _ _ 2 _)
  refine (run0 (z := 0) 1 [0, 1, 4, 5] [(0, .int .i64 x), (1, .int .i64 y), (4, .int .i64 0), (5, .bool false)] (fun _ => by kernel_rfl) (endR ?_) : RT _ _ _ _ _ _ 1 _)
  refine seqR (by kernel_rfl) ?_
  refine regionR 3 (by kernel_rfl) (by kernel_rfl) ?_
  refine (run0 (z := 2) 1 [0, 1, 4, 5, 9] [(0, .int .i64 x), (1, .int .i64 y), (4, .int .i64 0), (5, .bool false), (9, .int .i64 y)] (fun _ => by kernel_rfl) ?_ : RT _ _ _ _ _ _ 3 _)
  refine (stepR (z := 1) (callS 98 [.int .i64 y] (some 10) (fun _ => .bool false) (fun (_ : Unit) => (H)) (fun _ => by kernel_rfl) (isNaN_walk _ y)) (fun _ => ?_) : RT _ _ _ _ _ _ 2 _)
  refine (run0 (z := 0) 1 [0, 1, 4, 5, 6] [(0, .int .i64 x), (1, .int .i64 y), (4, .int .i64 0), (5, .bool false), (6, .bool false)] (fun _ => by kernel_rfl) (endR ?_) : RT _ _ _ _ _ _ 1 _)
  refine seqR (by kernel_rfl) ?_
  refine seqR (by kernel_rfl) ?_
  refine regionR 1 (by kernel_rfl) (by kernel_rfl) ?_
  refine (run0 (z := 0) 1 [0, 1, 4, 6, 11] [(0, .int .i64 x), (1, .int .i64 y), (4, .int .i64 0), (6, .bool false), (11, .bool false)] (fun _ => by kernel_rfl) (endR ?_) : RT _ _ _ _ _ _ 1 _)
  refine condR (b := false) (by kernel_rfl) (fun _ => by kernel_rfl) (fun h => by cases h) (fun _ => ?_)
  refine skipR (by kernel_rfl) ?_
  refine seqR (by kernel_rfl) ?_
  refine seqR (by kernel_rfl) ?_
  refine regionR 1 (by kernel_rfl) (by kernel_rfl) ?_
  refine (run0 (z := 0) 1 [0, 1, 4, 13] [(0, .int .i64 x), (1, .int .i64 y), (4, .int .i64 0), (13, .bool false)] (fun _ => by kernel_rfl) (endR ?_) : RT _ _ _ _ _ _ 1 _)
  refine condR (b := false) (by kernel_rfl) (fun _ => by kernel_rfl) (fun h => by cases h) (fun _ => ?_)
  refine skipR (by kernel_rfl) ?_
  refine seqR (by kernel_rfl) ?_
  refine seqR (by kernel_rfl) ?_
  refine regionR 3 (by kernel_rfl) (by kernel_rfl) ?_
  refine (run0 (z := 0) 3 [0, 1, 4, 16] [(0, .int .i64 x), (1, .int .i64 y), (4, .int .i64 0), (16, .bool (decide (x < y)))] (fun _ => by kernel_rfl) (endR ?_) : RT _ _ _ _ _ _ 3 _)
  refine condR (b := decide (x < y)) (by kernel_rfl) (fun _ => by kernel_rfl) (fun h1 => ?_) (fun h1 => ?_)
  · skip
    refine seqR (by kernel_rfl) ?_
    refine regionR 1 (by kernel_rfl) (by kernel_rfl) ?_
    refine (run0 (z := 0) 1 [0, 1, 4] [(0, .int .i64 x), (1, .int .i64 y), (4, .int .i64 (-1))] (fun _ => by kernel_rfl) (endR ?_) : RT _ _ _ _ _ _ 1 _)
    refine retR (by kernel_rfl) ?_
    refine thenV ?_
    refine done0 (.int .i64 (-1)) (fun _ => by kernel_rfl) (fun w hs => ?_) .ret (.inr rfl)
    exact ⟨(), by rw [cmpI, if_pos (of_decide_eq_true h1)], hs⟩
  · skip
    refine skipR (by kernel_rfl) ?_
    refine seqR (by kernel_rfl) ?_
    refine seqR (by kernel_rfl) ?_
    refine regionR 3 (by kernel_rfl) (by kernel_rfl) ?_
    refine (run0 (z := 0) 3 [4, 19] [(4, .int .i64 0), (19, .bool (decide (x > y)))] (fun _ => by kernel_rfl) (endR ?_) : RT _ _ _ _ _ _ 3 _)
    refine condR (b := decide (x > y)) (by kernel_rfl) (fun _ => by kernel_rfl) (fun h2 => ?_) (fun h2 => ?_)
    · skip
      refine seqR (by kernel_rfl) ?_
      refine regionR 1 (by kernel_rfl) (by kernel_rfl) ?_
      refine (run0 (z := 0) 1 [4] [(4, .int .i64 1)] (fun _ => by kernel_rfl) (endR ?_) : RT _ _ _ _ _ _ 1 _)
      refine retR (by kernel_rfl) ?_
      refine thenV ?_
      refine done0 (.int .i64 1) (fun _ => by kernel_rfl) (fun w hs => ?_) .ret (.inr rfl)
      exact ⟨(), by rw [cmpI, if_neg (of_decide_eq_false h1), if_pos (of_decide_eq_true h2)], hs⟩
    · skip
      refine skipR (by kernel_rfl) ?_
      refine seqR (by kernel_rfl) ?_
      refine regionR 1 (by kernel_rfl) (by kernel_rfl) ?_
      refine (run0 (z := 0) 1 [4] [(4, .int .i64 0)] (fun _ => by kernel_rfl) (endR ?_) : RT _ _ _ _ _ _ 1 _)
      refine retR (by kernel_rfl) ?_
      refine done0 (.int .i64 0) (fun _ => by kernel_rfl) (fun w hs => ?_) .ret (.inr rfl)
      exact ⟨(), by rw [cmpI, if_neg (of_decide_eq_false h1), if_neg (of_decide_eq_false h2)], hs⟩
def orI (x y : Int) : Int := if x != 0 then x else y
set_option maxRecDepth 100000 in
theorem or_walk (H : List SP) (b : Nat) (x y : Int) : ∀ w, Sat w (blk b 3 [.int .i64 x, .int .i64 y] :: H) → Calls Tryz.prog 75 #[.slice (some ⟨b, 0, none⟩) 2 2] w (Ret (ι := Unit) (fun _ => .int .i64 (orI x y)) fun _ => blk b 3 [.int .i64 x, .int .i64 y] :: H) := by
  refine enterG (fn := Tryz.f75) 18 [.slice (some ⟨b, 0, none⟩) 2 2] Tryz.func75 (by kernel_rfl) (by kernel_rfl) (by kernel_rfl) ?_
  refine seqR (by kernel_rfl) ?_
  refine regionR 1 (by kernel_rfl) (by kernel_rfl) ?_
  refine (run0 (z := 0) 1 [0, 2] [(0, .slice (some ⟨b, 0, none⟩) 2 2), (2, .int .i64 0)] (fun _ => by kernel_rfl) (endR ?_) : RT _ _ _ _ _ _ 1 _)
  refine seqR (by kernel_rfl) ?_
  refine regionR 1 (by kernel_rfl) (by kernel_rfl) ?_
  refine (run0 (z := 0) 1 [0, 2, 3] [(0, .slice (some ⟨b, 0, none⟩) 2 2), (2, .int .i64 0), (3, .int .i64 0)] (fun _ => by kernel_rfl) (endR ?_) : RT _ _ _ _ _ _ 1 _)
  refine seqR (by kernel_rfl) ?_
  refine seqR (by kernel_rfl) ?_
  refine regionR 3 (by kernel_rfl) (by kernel_rfl) ?_
  refine (run0 (z := 0) 3 [2, 3, 6, 7, 8] [(2, .int .i64 0), (3, .int .i64 0), (6, .slice (some ⟨b, 0, none⟩) 2 2), (7, .int .i64 2), (8, .int .i64 0)] (fun _ => by kernel_rfl) (endR ?_) : RT _ _ _ _ _ _ 3 _)
  refine blockR 0 (by kernel_rfl) (by kernel_rfl) ?_
  refine PT.keep (L' := [(2, .int .i64 0), (3, .int .i64 0), (6, .slice (some ⟨b, 0, none⟩) 2 2), (7, .int .i64 2), (8, .int .i64 0)]) [2, 3, 6, 7, 8] rfl ?_
  refine loopG (fun (u : Nat) => [(2, .int .i64 0), (3, .int .i64 0), (6, .slice (some ⟨b, 0, none⟩) 2 2), (7, .int .i64 2), (8, .int .i64 (u : Int))]) (fun (u : Nat) => (blk b 3 [.int .i64 x, .int .i64 y] :: H)) (fun k (u : Nat) => k + u = 2 ∧ (1 ≤ u → x = 0) ∧ (2 ≤ u → y = 0)) 2 0 (by kernel_rfl) ⟨rfl, by omega, by omega⟩ ?_
  rintro k u ⟨hku, hx, hy⟩
  have hu3 : u = 0 ∨ u = 1 ∨ u = 2 := by omega
  rcases hu3 with rfl | rfl | rfl
  · skip
    refine seqR (by kernel_rfl) ?_
    refine regionR 1 (by kernel_rfl) (by kernel_rfl) ?_
    refine (run0 (z := 0) 1 [2, 3, 6, 7, 8, 9] [(2, .int .i64 0), (3, .int .i64 0), (6, .slice (some ⟨b, 0, none⟩) 2 2), (7, .int .i64 2), (8, .int .i64 0), (9, .bool true)] (fun _ => by kernel_rfl) (endR ?_) : RT _ _ _ _ _ _ 1 _)
    refine seqR (by kernel_rfl) ?_
    refine condR (b := true) (by kernel_rfl) (fun _ => by kernel_rfl) (fun _ => ?_) (fun h => by cases h)
    refine skipR (by kernel_rfl) ?_
    refine seqR (by kernel_rfl) ?_
    refine blockR 1 (by kernel_rfl) (by kernel_rfl) ?_
    refine seqR (by kernel_rfl) ?_
    refine regionR 3 (by kernel_rfl) (by kernel_rfl) ?_
    refine (stepR (z := 2) (yldS (idxY 79 (.tmp 6) (.tmp 8) b 0 2 2 0 1 3 0 .i64 (some 10) (fun _ => by kernel_rfl) (by kernel_rfl) (by kernel_rfl) (fun _ => by kernel_rfl) (fun _ => by kernel_rfl) Tryz.underlying79 (by kernel_rfl) (by first | rfl | assumption | simp) (by first | omega | (simp; done) | (simp; omega) | (simp at *; omega)))) (fun _ => ?_) : RT _ _ _ _ _ _ 3 _)
    refine (runR (H := (blk b 3 [.int .i64 x, .int .i64 y] :: H)) (z := 0) 2 [2, 3, 6, 7, 8, 5] [(2, .int .i64 0), (3, .int .i64 0), (6, .slice (some ⟨b, 0, none⟩) 2 2), (7, .int .i64 2), (8, .int .i64 0), (5, .int .i64 x)] [(⟨b, 0 + 0 * 1, none⟩, .int .i64 x)] (hasC ((blkAt (T := 3) (cs := [.int .i64 x, .int .i64 y]) 0 rfl rfl)) has0) (fun _ => by kernel_rfl) (endR ?_) : RT _ _ _ _ _ _ 2 _)
    refine seqR (by kernel_rfl) ?_
    refine regionR 3 (by kernel_rfl) (by kernel_rfl) ?_
    refine (run0 (z := 0) 3 [2, 3, 6, 7, 8, 5, 14] [(2, .int .i64 0), (3, .int .i64 0), (6, .slice (some ⟨b, 0, none⟩) 2 2), (7, .int .i64 2), (8, .int .i64 0), (5, .int .i64 x), (14, .bool (x != 0))] (fun _ => by kernel_rfl) (endR ?_) : RT _ _ _ _ _ _ 3 _)
    refine condR (b := x != 0) (by kernel_rfl) (fun _ => by kernel_rfl) (fun h1 => ?_) (fun h1 => ?_)
    · skip
      refine seqR (by kernel_rfl) ?_
      refine regionR 2 (by kernel_rfl) (by kernel_rfl) ?_
      refine (run0 (z := 0) 2 [2, 3, 6, 7, 8] [(2, .int .i64 x), (3, .int .i64 0), (6, .slice (some ⟨b, 0, none⟩) 2 2), (7, .int .i64 2), (8, .int .i64 0)] (fun _ => by kernel_rfl) (endR ?_) : RT _ _ _ _ _ _ 2 _)
      refine retR (by kernel_rfl) ?_
      refine blockV ?_
      refine thenV ?_
      refine thenV ?_
      refine blockV ?_
      refine thenV ?_
      refine done0 (.int .i64 x) (fun _ => by kernel_rfl) (fun w hs => ?_) .ret (.inr rfl)
      exact ⟨(), by rw [orI, if_pos h1], hs⟩
    · skip
      refine skipR (by kernel_rfl) ?_
      refine regionR 2 (by kernel_rfl) (by kernel_rfl) ?_
      refine (run0 (z := 0) 2 [2, 3, 6, 7, 8] [(2, .int .i64 0), (3, .int .i64 0), (6, .slice (some ⟨b, 0, none⟩) 2 2), (7, .int .i64 2), (8, .int .i64 (IntKind.i64.wrap (0 + 1)))] (fun _ => by kernel_rfl) (endR ?_) : RT _ _ _ _ _ _ 2 _)
      refine PT.keep (L' := [(2, .int .i64 0), (3, .int .i64 0), (6, .slice (some ⟨b, 0, none⟩) 2 2), (7, .int .i64 2), (8, .int .i64 (IntKind.i64.wrap (0 + 1)))]) [2, 3, 6, 7, 8] rfl ?_
      exact againG (k - 1) 1 rfl rfl (by omega) ⟨by omega, fun _ => by simpa using h1, by omega⟩
  · skip
    refine seqR (by kernel_rfl) ?_
    refine regionR 1 (by kernel_rfl) (by kernel_rfl) ?_
    refine (run0 (z := 0) 1 [2, 3, 6, 7, 8, 9] [(2, .int .i64 0), (3, .int .i64 0), (6, .slice (some ⟨b, 0, none⟩) 2 2), (7, .int .i64 2), (8, .int .i64 1), (9, .bool true)] (fun _ => by kernel_rfl) (endR ?_) : RT _ _ _ _ _ _ 1 _)
    refine seqR (by kernel_rfl) ?_
    refine condR (b := true) (by kernel_rfl) (fun _ => by kernel_rfl) (fun _ => ?_) (fun h => by cases h)
    refine skipR (by kernel_rfl) ?_
    refine seqR (by kernel_rfl) ?_
    refine blockR 1 (by kernel_rfl) (by kernel_rfl) ?_
    refine seqR (by kernel_rfl) ?_
    refine regionR 3 (by kernel_rfl) (by kernel_rfl) ?_
    refine (stepR (z := 2) (yldS (idxY 79 (.tmp 6) (.tmp 8) b 0 2 2 1 1 3 1 .i64 (some 10) (fun _ => by kernel_rfl) (by kernel_rfl) (by kernel_rfl) (fun _ => by kernel_rfl) (fun _ => by kernel_rfl) Tryz.underlying79 (by kernel_rfl) (by first | rfl | assumption | simp) (by first | omega | (simp; done) | (simp; omega) | (simp at *; omega)))) (fun _ => ?_) : RT _ _ _ _ _ _ 3 _)
    refine (runR (H := (blk b 3 [.int .i64 x, .int .i64 y] :: H)) (z := 0) 2 [2, 3, 6, 7, 8, 5] [(2, .int .i64 0), (3, .int .i64 0), (6, .slice (some ⟨b, 0, none⟩) 2 2), (7, .int .i64 2), (8, .int .i64 1), (5, .int .i64 y)] [(⟨b, 0 + 1 * 1, none⟩, .int .i64 y)] (hasC ((blkAt (T := 3) (cs := [.int .i64 x, .int .i64 y]) 0 rfl rfl)) has0) (fun _ => by kernel_rfl) (endR ?_) : RT _ _ _ _ _ _ 2 _)
    refine seqR (by kernel_rfl) ?_
    refine regionR 3 (by kernel_rfl) (by kernel_rfl) ?_
    refine (run0 (z := 0) 3 [2, 3, 6, 7, 8, 5, 14] [(2, .int .i64 0), (3, .int .i64 0), (6, .slice (some ⟨b, 0, none⟩) 2 2), (7, .int .i64 2), (8, .int .i64 1), (5, .int .i64 y), (14, .bool (y != 0))] (fun _ => by kernel_rfl) (endR ?_) : RT _ _ _ _ _ _ 3 _)
    have hx0 := hx (by omega)
    refine condR (b := y != 0) (by kernel_rfl) (fun _ => by kernel_rfl) (fun h1 => ?_) (fun h1 => ?_)
    · skip
      refine seqR (by kernel_rfl) ?_
      refine regionR 2 (by kernel_rfl) (by kernel_rfl) ?_
      refine (run0 (z := 0) 2 [2, 3, 6, 7, 8] [(2, .int .i64 y), (3, .int .i64 0), (6, .slice (some ⟨b, 0, none⟩) 2 2), (7, .int .i64 2), (8, .int .i64 1)] (fun _ => by kernel_rfl) (endR ?_) : RT _ _ _ _ _ _ 2 _)
      refine retR (by kernel_rfl) ?_
      refine blockV ?_
      refine thenV ?_
      refine thenV ?_
      refine blockV ?_
      refine thenV ?_
      refine done0 (.int .i64 y) (fun _ => by kernel_rfl) (fun w hs => ?_) .ret (.inr rfl)
      exact ⟨(), by rw [orI, hx0]; rfl, hs⟩
    · skip
      refine skipR (by kernel_rfl) ?_
      refine regionR 2 (by kernel_rfl) (by kernel_rfl) ?_
      refine (run0 (z := 0) 2 [2, 3, 6, 7, 8] [(2, .int .i64 0), (3, .int .i64 0), (6, .slice (some ⟨b, 0, none⟩) 2 2), (7, .int .i64 2), (8, .int .i64 (IntKind.i64.wrap (1 + 1)))] (fun _ => by kernel_rfl) (endR ?_) : RT _ _ _ _ _ _ 2 _)
      refine PT.keep (L' := [(2, .int .i64 0), (3, .int .i64 0), (6, .slice (some ⟨b, 0, none⟩) 2 2), (7, .int .i64 2), (8, .int .i64 (IntKind.i64.wrap (1 + 1)))]) [2, 3, 6, 7, 8] rfl ?_
      exact againG (k - 1) 2 rfl rfl (by omega) ⟨by omega, fun _ => hx0, fun _ => by simpa using h1⟩
  · skip
    refine seqR (by kernel_rfl) ?_
    refine regionR 1 (by kernel_rfl) (by kernel_rfl) ?_
    refine (run0 (z := 0) 1 [2, 3, 6, 7, 8, 9] [(2, .int .i64 0), (3, .int .i64 0), (6, .slice (some ⟨b, 0, none⟩) 2 2), (7, .int .i64 2), (8, .int .i64 2), (9, .bool false)] (fun _ => by kernel_rfl) (endR ?_) : RT _ _ _ _ _ _ 1 _)
    refine seqR (by kernel_rfl) ?_
    refine condR (b := false) (by kernel_rfl) (fun _ => by kernel_rfl) (fun h => by cases h) (fun _ => ?_)
    refine exitR 0 (by kernel_rfl) (by kernel_rfl) ?_
    refine thenX ?_
    refine thenX ?_
    refine leaveR ?_
    refine seqR (by kernel_rfl) ?_
    refine regionR 2 (by kernel_rfl) (by kernel_rfl) ?_
    refine (run0 (z := 0) 2 [2] [(2, .int .i64 0)] (fun _ => by kernel_rfl) (endR ?_) : RT _ _ _ _ _ _ 2 _)
    refine retR (by kernel_rfl) ?_
    have hx0 := hx (by omega)
    have hy0 := hy (by omega)
    refine done0 (.int .i64 0) (fun _ => by kernel_rfl) (fun w hs => ?_) .ret (.inr rfl)
    exact ⟨(), by rw [orI, hx0, hy0]; rfl, hs⟩
def byI (a b : Int × Int) : Int := orI (cmpI a.1 b.1) (cmpI a.2 b.2)
set_option maxRecDepth 100000 in
theorem by_walk (H : List SP) (p i q j : Int) : ∀ w, Sat w H → Calls Tryz.prog 68 #[.agg #[.int .i64 p, .int .i64 i], .agg #[.int .i64 q, .int .i64 j]] w (Ret (ι := Unit) (fun _ => .int .i64 (byI (p, i) (q, j))) fun _ => H) := by
  refine enterG (fn := Tryz.f68) 17 [.agg #[.int .i64 p, .int .i64 i], .agg #[.int .i64 q, .int .i64 j]] Tryz.func68 (by kernel_rfl) (by kernel_rfl) (by kernel_rfl) ?_
  refine seqR (by kernel_rfl) ?_
  refine regionR 3 (by kernel_rfl) (by kernel_rfl) ?_
  refine (stepR (z := 2) (newS 75 [.int .i64 p, .int .i64 i] (some 2) (fun b => .pointer (some ⟨b, 0, none⟩)) (fun _ _ => by kernel_rfl)) (fun b1 => ?_) : RT _ _ _ _ _ _ 3 _)
  refine (stepR (z := 1) (newS 75 [.int .i64 q, .int .i64 j] (some 3) (fun b => .pointer (some ⟨b, 0, none⟩)) (fun _ _ => by kernel_rfl)) (fun b2 => ?_) : RT _ _ _ _ _ _ 2 _)
  refine (run0 (z := 0) 1 [3, 2, 4] [(3, .pointer (some ⟨b2, 0, none⟩)), (2, .pointer (some ⟨b1, 0, none⟩)), (4, .int .i64 0)] (fun _ => by kernel_rfl) (endR ?_) : RT _ _ _ _ _ _ 1 _)
  refine seqR (by kernel_rfl) ?_
  refine drawR (fun w => Sat w (blk b2 75 [.int .i64 q, .int .i64 j] :: blk b1 75 [.int .i64 p, .int .i64 i] :: H)) [] 13 (by kernel_rfl) (by kernel_rfl) (by kernel_rfl) (fun _ h => by first | exact h | exact h.tail | exact h.tail.tail | exact h.tail.tail.tail | exact h.tail.tail.tail.tail) ?_
  refine takesR [0, 1, 2, 3, 5, 6, 7, 8] [4, 6, 8, 11, 13] 5 [true, true, true, true, false, true, true, true, true, false, false, false, false] [(4, .int .i64 0), (6, .int .i64 p), (8, .int .i64 q), (11, .int .i64 i), (13, .int .i64 j)] [(⟨b1, 0, none⟩, .int .i64 p), (⟨b2, 0, none⟩, .int .i64 q), (⟨b1, 1, none⟩, .int .i64 i), (⟨b2, 1, none⟩, .int .i64 j)] rfl (fun _ d _ _ _ h => by cases d <;> exact h) (fun _ h => by first | exact h | exact h.tail | exact h.tail.tail | exact h.tail.tail.tail | exact h.tail.tail.tail.tail) (hasC (blkAt (T := 75) (cs := [.int .i64 p, .int .i64 i]) 1 rfl rfl) (hasC (blkAt (T := 75) (cs := [.int .i64 q, .int .i64 j]) 0 rfl rfl) (hasC (blkAt (T := 75) (cs := [.int .i64 p, .int .i64 i]) 1 rfl rfl) (hasC (blkAt (T := 75) (cs := [.int .i64 q, .int .i64 j]) 0 rfl rfl) has0)))) (fun _ => by kernel_rfl) ?_
  refine oneR 4 4 [true, true, true, true, true, true, true, true, true, false, false, false, false] rfl rfl (by kernel_rfl) (callS 76 [.int .i64 p, .int .i64 q] (some 9) (fun _ => .int .i64 (cmpI p q)) (fun (_ : Unit) => (blk b2 75 [.int .i64 q, .int .i64 j] :: blk b1 75 [.int .i64 p, .int .i64 i] :: H)) (fun _ => by kernel_rfl) (cmpI_walk _ p q)) (fun _ _ h hn => by first | exact h | exact h.tail | exact h.tail.tail | exact h.tail.tail.tail | exact h.tail.tail.tail.tail | exact absurd hn (by decide)) (fun _ => ?_)
  refine oneR 9 3 [true, true, true, true, true, true, true, true, true, true, false, false, false] rfl rfl (by kernel_rfl) (callS 76 [.int .i64 i, .int .i64 j] (some 14) (fun _ => .int .i64 (cmpI i j)) (fun (_ : Unit) => (blk b2 75 [.int .i64 q, .int .i64 j] :: blk b1 75 [.int .i64 p, .int .i64 i] :: H)) (fun _ => by kernel_rfl) (cmpI_walk _ i j)) (fun _ _ h hn => by first | exact h | exact h.tail | exact h.tail.tail | exact h.tail.tail.tail | exact h.tail.tail.tail.tail | exact absurd hn (by decide)) (fun _ => ?_)
  refine oneR 10 2 [true, true, true, true, true, true, true, true, true, true, true, false, false] rfl rfl (by kernel_rfl) (newS 3 [.int .i64 (cmpI p q), .int .i64 (cmpI i j)] (some 15) (fun b => .slice (some ⟨b, 0, none⟩) 2 2) (fun _ _ => by kernel_rfl)) (fun _ _ h hn => by first | exact h | exact h.tail | exact h.tail.tail | exact h.tail.tail.tail | exact h.tail.tail.tail.tail | exact absurd hn (by decide)) (fun b3 => ?_)
  refine oneR 11 1 [true, true, true, true, true, true, true, true, true, true, true, true, false] rfl rfl (by kernel_rfl) (callS 75 [.slice (some ⟨b3, 0, none⟩) 2 2] (some 16) (fun _ => .int .i64 (byI (p, i) (q, j))) (fun _ => (blk b3 3 [.int .i64 (cmpI p q), .int .i64 (cmpI i j)] :: blk b2 75 [.int .i64 q, .int .i64 j] :: blk b1 75 [.int .i64 p, .int .i64 i] :: H)) (fun _ => by kernel_rfl) (or_walk _ b3 (cmpI p q) (cmpI i j))) (fun _ _ h hn => by first | exact h | exact h.tail | exact h.tail.tail | exact h.tail.tail.tail | exact h.tail.tail.tail.tail | exact absurd hn (by decide)) (fun _ => ?_)
  refine takesR [12] [4] 0 [true, true, true, true, true, true, true, true, true, true, true, true, true] [(4, .int .i64 (byI (p, i) (q, j)))] [] rfl (fun _ d _ _ _ h => by cases d <;> exact h) (fun _ h => by first | exact h | exact h.tail | exact h.tail.tail | exact h.tail.tail.tail | exact h.tail.tail.tail.tail) has0 (fun _ => by kernel_rfl) ?_
  refine drawnR (by kernel_rfl) ?_
  refine retR (by kernel_rfl) ?_
  refine done0 (.int .i64 (byI (p, i) (q, j))) (fun _ => by kernel_rfl) (fun w hs => ?_) .ret (.inr rfl)
  exact ⟨(), rfl, hs.tail.tail.tail⟩
/-- Where an entry is. -/
def findI (l : List (Int × Int)) (id : Int) : Int := match l.findIdx? (fun e => e.2 == id) with | some i => (i : Int) | none => -1
theorem find_none {l : List (Int × Int)} {id : Int} (h : ∀ e ∈ l, e.2 ≠ id) : findI l id = -1 := by
  have : l.findIdx? (fun e => e.2 == id) = none := List.findIdx?_eq_none_iff.2 fun e he => by simpa using h e he
  unfold findI; rw [this]
theorem find_some {l : List (Int × Int)} {id : Int} {i : Nat} {e : Int × Int} (he : l[i]? = some e) (hid : e.2 = id) (hno : ∀ v e, v < i → l[v]? = some e → e.2 ≠ id) : findI l id = i := by
  obtain ⟨hil, hie⟩ := List.getElem?_eq_some_iff.1 he
  have : l.findIdx? (fun e => e.2 == id) = some i := by
    rw [List.findIdx?_eq_some_iff_getElem]
    refine ⟨hil, by rw [hie]; simpa using hid, fun j hj => ?_⟩
    have hjl : j < l.length := by omega
    have := hno j l[j] hj (by simp)
    simpa using this
  unfold findI; rw [this]
set_option maxRecDepth 100000 in
theorem find_walk (H : List SP) (b : Nat) (A : Option Addr) (cap : Nat) (room : Int) (l : List (Int × Int)) (id : Int) (hl : l.length ≤ 1000000) : ∀ w, Sat w (blk b 90 [.slice A l.length cap, .int .i64 room] :: row slE 75 (.slice A l.length cap) l :: H) → Calls Tryz.prog 63 #[.pointer (some ⟨b, 0, none⟩), .int .i64 id] w (Ret (ι := Unit) (fun _ => .int .i64 (findI l id)) fun _ => blk b 90 [.slice A l.length cap, .int .i64 room] :: row slE 75 (.slice A l.length cap) l :: H) := by
  refine enterG (fn := Tryz.f63) 28 [.pointer (some ⟨b, 0, none⟩), .int .i64 id] Tryz.func63 (by kernel_rfl) (by kernel_rfl) (by kernel_rfl) ?_
  refine seqR (by kernel_rfl) ?_
  refine regionR 1 (by kernel_rfl) (by kernel_rfl) ?_
  refine (run0 (z := 0) 1 [0, 1, 4] [(0, .pointer (some ⟨b, 0, none⟩)), (1, .int .i64 id), (4, .int .i64 0)] (fun _ => by kernel_rfl) (endR ?_) : RT _ _ _ _ _ _ 1 _)
  refine scopeG 0 (fun (u : Nat) => [(0, .pointer (some ⟨b, 0, none⟩)), (1, .int .i64 id), (5, .int .i64 (u : Int))]) (fun _ => (blk b 90 [.slice A l.length cap, .int .i64 room] :: row slE 75 (.slice A l.length cap) l :: H)) (fun k (u : Nat) => k + u = l.length ∧ ∀ v e, v < u → l[v]? = some e → e.2 ≠ id) (by kernel_rfl) (by kernel_rfl) (by kernel_rfl) (by kernel_rfl) ?_ ?_
  · skip
    rintro k u ⟨hku, hno⟩ K hK
    refine seqR (by kernel_rfl) ?_
    refine blockR 0 (by kernel_rfl) (by kernel_rfl) ?_
    refine seqR (by kernel_rfl) ?_
    refine regionR 8 (by kernel_rfl) (by kernel_rfl) ?_
    refine (runR (H := (blk b 90 [.slice A l.length cap, .int .i64 room] :: row slE 75 (.slice A l.length cap) l :: H)) (z := 0) 8 [0, 1, 5, 6] [(0, .pointer (some ⟨b, 0, none⟩)), (1, .int .i64 id), (5, .int .i64 (u : Int)), (6, .bool ((u : Int) == (l.length : Int)))] [(⟨b, 0, none⟩, .slice A l.length cap)] (hasC (blkAt (T := 90) (cs := [.slice A l.length cap, .int .i64 room]) 0 rfl rfl) has0) (fun _ => by kernel_rfl) (endR ?_) : RT _ _ _ _ _ _ 8 _)
    refine condR (b := (u : Int) == (l.length : Int)) (by kernel_rfl) (fun _ => by kernel_rfl) (fun h1 => ?_) (fun h1 => ?_)
    · skip
      have hu0 : (u : Int) = (l.length : Int) := eq_of_beq h1
      have hu : u = l.length := by omega
      refine seqR (by kernel_rfl) ?_
      refine regionR 1 (by kernel_rfl) (by kernel_rfl) ?_
      refine (run0 (z := 0) 1 [0, 1, 5, 4] [(0, .pointer (some ⟨b, 0, none⟩)), (1, .int .i64 id), (5, .int .i64 (u : Int)), (4, .int .i64 (-1))] (fun _ => by kernel_rfl) (endR ?_) : RT _ _ _ _ _ _ 1 _)
      refine retR (by kernel_rfl) ?_
      refine blockV ?_
      refine thenV ?_
      refine jumpV ?_
      refine done0 (.int .i64 (-1)) (fun _ => by kernel_rfl) (fun w hs => ?_) .ret (.inr rfl)
      exact ⟨(), by rw [find_none (fun e he => by obtain ⟨v, hv⟩ := List.getElem?_of_mem he; exact hno v e (by have := (List.getElem?_eq_some_iff.1 hv).1; omega) hv)], hs⟩
    · skip
      have hu0 : ¬ (u : Int) = (l.length : Int) := beq_eq_false_iff_ne.1 h1
      have hu : u < l.length := by omega
      obtain ⟨e, he⟩ : ∃ e, l[u]? = some e := ⟨_, by simp [hu]; rfl⟩
      refine PT.know (KR.isSome (s := ⟨A, cap, l⟩) (rowKRat 1 rfl) (List.ne_nil_of_length_pos (by show 0 < l.length; omega))) ?_
      rintro ⟨sb, so, hA⟩
      dsimp only at hA
      subst hA
      refine seqR (by kernel_rfl) ?_
      refine regionR 11 (by kernel_rfl) (by kernel_rfl) ?_
      refine (runR (H := (blk b 90 [.slice (some ⟨sb, so, none⟩) l.length cap, .int .i64 room] :: row slE 75 (.slice (some ⟨sb, so, none⟩) l.length cap) l :: H)) (z := 6) 5 [0, 1, 5, 18, 19] [(0, .pointer (some ⟨b, 0, none⟩)), (1, .int .i64 id), (5, .int .i64 (u : Int)), (18, .slice (some ⟨sb, so, none⟩) l.length cap), (19, .int .i64 (u : Int))] [(⟨b, 0, none⟩, .slice (some ⟨sb, so, none⟩) l.length cap)] (hasC (blkAt (T := 90) (cs := [.slice (some ⟨sb, so, none⟩) l.length cap, .int .i64 room]) 0 rfl rfl) has0) (fun _ => by kernel_rfl) ?_ : RT _ _ _ _ _ _ 11 _)
      refine (stepR (z := 5) (yldS (idxY 88 (.tmp 18) (.tmp 19) sb so l.length cap u 2 75 (u : Int) .i64 (some 20) (fun _ => by kernel_rfl) (by kernel_rfl) (by kernel_rfl) (fun _ => by kernel_rfl) (fun _ => by kernel_rfl) Tryz.underlying88 (by kernel_rfl) (by first | rfl | assumption | simp) (by first | omega | (simp; done) | (simp; omega) | (simp at *; omega)))) (fun _ => ?_) : RT _ _ _ _ _ _ 6 _)
      refine (runR (H := (blk b 90 [.slice (some ⟨sb, so, none⟩) l.length cap, .int .i64 room] :: row slE 75 (.slice (some ⟨sb, so, none⟩) l.length cap) l :: H)) (z := 0) 5 [0, 1, 5, 14] [(0, .pointer (some ⟨b, 0, none⟩)), (1, .int .i64 id), (5, .int .i64 (u : Int)), (14, .bool (e.2 == id))] [(⟨sb, so + u * 2 + 1, none⟩, .int .i64 e.2)] (hasC ((rowKRat (xs := l) (A := some ⟨sb, so, none⟩) (k := cap) (E := slE) (T := 75) 1 rfl).cell rfl (i := u) (x := e) he (j := 1) rfl) has0) (fun _ => by kernel_rfl) (endR ?_) : RT _ _ _ _ _ _ 5 _)
      refine condR (b := e.2 == id) (by kernel_rfl) (fun _ => by kernel_rfl) (fun h2 => ?_) (fun h2 => ?_)
      · skip
        refine seqR (by kernel_rfl) ?_
        refine regionR 2 (by kernel_rfl) (by kernel_rfl) ?_
        refine (run0 (z := 0) 2 [0, 1, 5, 4] [(0, .pointer (some ⟨b, 0, none⟩)), (1, .int .i64 id), (5, .int .i64 (u : Int)), (4, .int .i64 (u : Int))] (fun _ => by kernel_rfl) (endR ?_) : RT _ _ _ _ _ _ 2 _)
        refine retR (by kernel_rfl) ?_
        refine blockV ?_
        refine thenV ?_
        refine jumpV ?_
        refine done0 (.int .i64 (u : Int)) (fun _ => by kernel_rfl) (fun w hs => ?_) .ret (.inr rfl)
        exact ⟨(), by rw [find_some (i := u) he (by simpa using h2) hno], hs⟩
      · skip
        refine skipR (by kernel_rfl) ?_
        refine seqR (by kernel_rfl) ?_
        refine regionR 3 (by kernel_rfl) (by kernel_rfl) ?_
        refine (run0 (z := 0) 3 [0, 1, 5] [(0, .pointer (some ⟨b, 0, none⟩)), (1, .int .i64 id), (5, .int .i64 (IntKind.i64.wrap ((u : Int) + 1)))] (fun _ => by kernel_rfl) (endR ?_) : RT _ _ _ _ _ _ 3 _)
        refine gotoR 0 (by kernel_rfl) (by kernel_rfl) ?_
        rw [show IntKind.i64.wrap ((u : Int) + 1) = ((u + 1 : Nat) : Int) by rw [IntKind.wrap_i64]; omega]
        have hno2 : ∀ v e, v < u + 1 → l[v]? = some e → e.2 ≠ id := by
          intro v e' hv hv2
          by_cases c : v = u
          · subst c; rw [he] at hv2; cases hv2; simpa using h2
          · exact hno v e' (by omega) hv2
        refine PT.keep (L' := [(0, .pointer (some ⟨b, 0, none⟩)), (1, .int .i64 id), (5, .int .i64 ((u + 1 : Nat) : Int))]) [0, 1, 5] rfl ?_
        exact jumpR (hK (k - 1) (u + 1) (by omega) ⟨by omega, hno2⟩)
  · skip
    intro K hK
    refine seqR (by kernel_rfl) ?_
    refine regionR 1 (by kernel_rfl) (by kernel_rfl) ?_
    refine (run0 (z := 0) 1 [0, 1, 4, 5] [(0, .pointer (some ⟨b, 0, none⟩)), (1, .int .i64 id), (4, .int .i64 0), (5, .int .i64 0)] (fun _ => by kernel_rfl) (endR ?_) : RT _ _ _ _ _ _ 1 _)
    refine seqR (by kernel_rfl) ?_
    refine labelR (by kernel_rfl) ?_
    refine PT.keep (L' := [(0, .pointer (some ⟨b, 0, none⟩)), (1, .int .i64 id), (5, .int .i64 0)]) [0, 1, 5] rfl ?_
    refine codeR (by kernel_rfl) (hK l.length 0 ⟨by omega, fun v e hv => by omega⟩)
end Go.Proofs.YtjbjngikaiggdaaGreatDoor
set_option linter.unusedVariables false
set_option linter.unusedSimpArgs false
namespace Go.Proofs.YtjbjngikaiggdaaGreatDoor
open Go.RowKit G
/-- An index in memory: its entries, its room. -/
def idxS (b : Nat) (room : Int) (l : List (Int × Int)) : SP := exS fun p : Option Addr × Nat => two (blk b 90 [.slice p.1 l.length p.2, .int .i64 room]) (row slE 75 (.slice p.1 l.length p.2) l)
theorem Sat.idx {w : World} {H : List SP} {b : Nat} {A : Option Addr} {cap : Nat} {room : Int} {l : List (Int × Int)} (h : Sat w (blk b 90 [.slice A l.length cap, .int .i64 room] :: row slE 75 (.slice A l.length cap) l :: H)) : Sat w (idxS b room l :: H) := Sat.closeEx (A, cap) (Sat.closeTwo h)
theorem idx_open {Φ : World → Prop} {H : List SP} {b : Nat} {room : Int} {l : List (Int × Int)} (h : ∀ A cap w, Sat w (blk b 90 [.slice A l.length cap, .int .i64 room] :: row slE 75 (.slice A l.length cap) l :: H) → Φ w) : ∀ w, Sat w (idxS b room l :: H) → Φ w := fun w hs => by
  obtain ⟨⟨A, cap⟩, h2⟩ := Sat.openEx hs
  exact h A cap w (Sat.openTwo h2)
theorem idx_same {H : List SP} {b : Nat} {room : Int} {l : List (Int × Int)} {P : Program} {f : FuncId} {vs : Array Value} {v : Value} (h : ∀ A cap w, Sat w (blk b 90 [.slice A l.length cap, .int .i64 room] :: row slE 75 (.slice A l.length cap) l :: H) → Calls P f vs w (Ret (ι := Unit) (fun _ => v) fun _ => blk b 90 [.slice A l.length cap, .int .i64 room] :: row slE 75 (.slice A l.length cap) l :: H)) :
    ∀ w, Sat w (idxS b room l :: H) → Calls P f vs w (Ret (ι := Unit) (fun _ => v) fun _ => idxS b room l :: H) :=
  idx_open fun A cap w hs => (h A cap w hs).mono fun e w' ⟨_, he, hx⟩ => ⟨(), he, Sat.idx hx⟩
theorem find_idx (H : List SP) (b : Nat) (room : Int) (l : List (Int × Int)) (id : Int) (hl : l.length ≤ 1000000) : ∀ w, Sat w (idxS b room l :: H) → Calls Tryz.prog 63 #[.pointer (some ⟨b, 0, none⟩), .int .i64 id] w (Ret (ι := Unit) (fun _ => .int .i64 (findI l id)) fun _ => idxS b room l :: H) :=
  idx_same fun A cap => find_walk H b A cap room l id hl
theorem Sat.erase {l : List SP} {w : World} (i : Nat) {P : SP} (hi : l[i]? = some P) (h : Sat w l) : Sat w (l.eraseIdx i) := (h.pick i hi).tail
def isPassB (n : Int) : Bool := decide (n ≥ 0) && decide (n ≤ 1099511627776)
set_option maxRecDepth 100000 in
theorem isPass_walk (H : List SP) (n : Int) : ∀ w, Sat w H → Calls Tryz.prog 65 #[.int .i64 n] w (Ret (ι := Unit) (fun _ => .bool (isPassB n)) fun _ => H) := by
  refine enterG (fn := Tryz.f65) 9 [.int .i64 n] Tryz.func65 (by kernel_rfl) (by kernel_rfl) (by kernel_rfl) ?_
  refine seqR (by kernel_rfl) ?_
  refine regionR 1 (by kernel_rfl) (by kernel_rfl) ?_
  refine (run0 (z := 0) 1 [0, 2] [(0, .int .i64 n), (2, .bool false)] (fun _ => by kernel_rfl) (endR ?_) : RT _ _ _ _ _ _ 1 _)
  refine seqR (by kernel_rfl) ?_
  refine regionR 7 (by kernel_rfl) (by kernel_rfl) ?_
  refine (run0 (z := 4) 3 [0, 2, 5] [(0, .int .i64 n), (2, .bool false), (5, .bool (decide (n ≥ 0)))] (fun _ => by kernel_rfl) ?_ : RT _ _ _ _ _ _ 7 _)
  refine (segR (ι := Unit) (z := 1) 3 (fun _ => [(2, .bool false), (8, .bool ((decide (n ≥ 0)) && (decide (n ≤ 1099511627776))))]) (fun _ => (H)) ?_ (fun _ => ?_) : RT _ _ _ _ _ _ 4 _)
  · cases hg3 : (decide (n ≥ 0)) with
    | true =>
      refine (run0 (z := 0) 3 [2, 8] [(2, .bool false), (8, .bool (decide (n ≤ 1099511627776)))] (fun _ => by kernel_rfl) (endR ?_) : RT _ _ _ _ _ _ 3 _)
      refine PT.keep (L' := [(2, .bool false), (8, .bool (true && (decide (n ≤ 1099511627776))))]) [2, 8] rfl ?_
      exact midR () rfl rfl
    | false =>
      refine (run0 (z := 0) 3 [2, 8] [(2, .bool false), (8, .bool false)] (fun _ => by kernel_rfl) (endR ?_) : RT _ _ _ _ _ _ 3 _)
      refine PT.keep (L' := [(2, .bool false), (8, .bool (false && (decide (n ≤ 1099511627776))))]) [2, 8] rfl ?_
      exact midR () rfl rfl
  refine (run0 (z := 0) 1 [2] [(2, .bool ((decide (n ≥ 0)) && (decide (n ≤ 1099511627776))))] (fun _ => by kernel_rfl) (endR ?_) : RT _ _ _ _ _ _ 1 _)
  refine retR (by kernel_rfl) ?_
  refine done0 (.bool ((decide (n ≥ 0)) && (decide (n ≤ 1099511627776)))) (fun _ => by kernel_rfl) (fun w hs => ?_) .ret (.inr rfl)
  exact ⟨(), rfl, hs⟩
def roomOf (r : Int) : Int := mnI (mxI r 0) 64
set_option maxRecDepth 100000 in
theorem new_walk (H : List SP) (r : Int) : ∀ w, Sat w H → Calls Tryz.prog 25 #[.int .i64 r] w (Ret (ι := Nat) (fun b => .pointer (some ⟨b, 0, none⟩)) fun b => idxS b (roomOf r) [] :: H) := by
  refine enterG (fn := Tryz.f25) 8 [.int .i64 r] Tryz.func25 (by kernel_rfl) (by kernel_rfl) (by kernel_rfl) ?_
  refine seqR (by kernel_rfl) ?_
  refine regionR 1 (by kernel_rfl) (by kernel_rfl) ?_
  refine (run0 (z := 0) 1 [0, 2] [(0, .int .i64 r), (2, .pointer none)] (fun _ => by kernel_rfl) (endR ?_) : RT _ _ _ _ _ _ 1 _)
  refine seqR (by kernel_rfl) ?_
  refine regionR 6 (by kernel_rfl) (by kernel_rfl) ?_
  refine (run0 (z := 2) 4 [2, 6] [(2, .pointer none), (6, .agg #[.slice none 0 0, .int .i64 (mnI (mxI r 0) 64)])] (fun _ => by kernel_rfl) ?_ : RT _ _ _ _ _ _ 6 _)
  refine (stepR (z := 1) (newS 90 [.slice none 0 0, .int .i64 (mnI (mxI r 0) 64)] (some 7) (fun b => .pointer (some ⟨b, 0, none⟩)) (fun _ _ => by kernel_rfl)) (fun b1 => ?_) : RT _ _ _ _ _ _ 2 _)
  refine (run0 (z := 0) 1 [2] [(2, .pointer (some ⟨b1, 0, none⟩))] (fun _ => by kernel_rfl) (endR ?_) : RT _ _ _ _ _ _ 1 _)
  refine retR (by kernel_rfl) ?_
  refine done0 (.pointer (some ⟨b1, 0, none⟩)) (fun _ => by kernel_rfl) (fun w hs => ?_) .ret (.inr rfl)
  exact ⟨b1, rfl, Sat.idx (A := none) (cap := 0) (SatF.swap (Sat.rowNil hs))⟩
set_option maxRecDepth 100000 in
theorem len_walk (H : List SP) (b : Nat) (A : Option Addr) (cap : Nat) (room : Int) (l : List (Int × Int)) : ∀ w, Sat w (blk b 90 [.slice A l.length cap, .int .i64 room] :: row slE 75 (.slice A l.length cap) l :: H) → Calls Tryz.prog 49 #[.pointer (some ⟨b, 0, none⟩)] w (Ret (ι := Unit) (fun _ => .int .i64 (l.length : Int)) fun _ => blk b 90 [.slice A l.length cap, .int .i64 room] :: row slE 75 (.slice A l.length cap) l :: H) := by
  refine enterG (fn := Tryz.f49) 8 [.pointer (some ⟨b, 0, none⟩)] Tryz.func49 (by kernel_rfl) (by kernel_rfl) (by kernel_rfl) ?_
  refine seqR (by kernel_rfl) ?_
  refine regionR 1 (by kernel_rfl) (by kernel_rfl) ?_
  refine (run0 (z := 0) 1 [0, 2] [(0, .pointer (some ⟨b, 0, none⟩)), (2, .int .i64 0)] (fun _ => by kernel_rfl) (endR ?_) : RT _ _ _ _ _ _ 1 _)
  refine seqR (by kernel_rfl) ?_
  refine regionR 6 (by kernel_rfl) (by kernel_rfl) ?_
  refine (runR (H := (blk b 90 [.slice A l.length cap, .int .i64 room] :: row slE 75 (.slice A l.length cap) l :: H)) (z := 0) 6 [2] [(2, .int .i64 (l.length : Int))] [(⟨b, 0, none⟩, .slice A l.length cap)] (hasC (blkAt (T := 90) (cs := [.slice A l.length cap, .int .i64 room]) 0 rfl rfl) has0) (fun _ => by kernel_rfl) (endR ?_) : RT _ _ _ _ _ _ 6 _)
  refine retR (by kernel_rfl) ?_
  refine done0 (.int .i64 (l.length : Int)) (fun _ => by kernel_rfl) (fun w hs => ?_) .ret (.inr rfl)
  exact ⟨(), rfl, hs⟩
theorem len_idx (H : List SP) (b : Nat) (room : Int) (l : List (Int × Int)) : ∀ w, Sat w (idxS b room l :: H) → Calls Tryz.prog 49 #[.pointer (some ⟨b, 0, none⟩)] w (Ret (ι := Unit) (fun _ => .int .i64 (l.length : Int)) fun _ => idxS b room l :: H) :=
  idx_same fun A cap => len_walk H b A cap room l
def minE (l : List (Int × Int)) : (Int × Int) × Bool := match l with | [] => ((0, 0), false) | e :: _ => (e, true)
set_option maxRecDepth 100000 in
theorem min_walk (H : List SP) (b : Nat) (A : Option Addr) (cap : Nat) (room : Int) (l : List (Int × Int)) : ∀ w, Sat w (blk b 90 [.slice A l.length cap, .int .i64 room] :: row slE 75 (.slice A l.length cap) l :: H) → Calls Tryz.prog 37 #[.pointer (some ⟨b, 0, none⟩)] w (Ret (ι := Unit) (fun _ => .tuple #[.agg #[.int .i64 (minE l).1.1, .int .i64 (minE l).1.2], .bool (minE l).2]) fun _ => blk b 90 [.slice A l.length cap, .int .i64 room] :: row slE 75 (.slice A l.length cap) l :: H) := by
  refine enterG (fn := Tryz.f37) 17 [.pointer (some ⟨b, 0, none⟩)] Tryz.func37 (by kernel_rfl) (by kernel_rfl) (by kernel_rfl) ?_
  refine seqR (by kernel_rfl) ?_
  refine regionR 2 (by kernel_rfl) (by kernel_rfl) ?_
  refine (stepR (z := 1) (newS 75 [.int .i64 0, .int .i64 0] (some 2) (fun b => .pointer (some ⟨b, 0, none⟩)) (fun _ _ => by kernel_rfl)) (fun b1 => ?_) : RT _ _ _ _ _ _ 2 _)
  refine (run0 (z := 0) 1 [2, 0, 3] [(2, .pointer (some ⟨b1, 0, none⟩)), (0, .pointer (some ⟨b, 0, none⟩)), (3, .bool false)] (fun _ => by kernel_rfl) (endR ?_) : RT _ _ _ _ _ _ 1 _)
  refine seqR (by kernel_rfl) ?_
  refine seqR (by kernel_rfl) ?_
  refine regionR 6 (by kernel_rfl) (by kernel_rfl) ?_
  refine (runR (H := (blk b1 75 [.int .i64 0, .int .i64 0] :: blk b 90 [.slice A l.length cap, .int .i64 room] :: row slE 75 (.slice A l.length cap) l :: H)) (z := 0) 6 [2, 0, 3, 9] [(2, .pointer (some ⟨b1, 0, none⟩)), (0, .pointer (some ⟨b, 0, none⟩)), (3, .bool false), (9, .bool ((l.length : Int) == 0))] [(⟨b, 0, none⟩, .slice A l.length cap)] (hasC (blkAt (T := 90) (cs := [.slice A l.length cap, .int .i64 room]) 1 rfl rfl) has0) (fun _ => by kernel_rfl) (endR ?_) : RT _ _ _ _ _ _ 6 _)
  refine condR (b := (l.length : Int) == 0) (by kernel_rfl) (fun _ => by kernel_rfl) (fun h1 => ?_) (fun h1 => ?_)
  · skip
    have hl0 : (l.length : Int) = 0 := eq_of_beq h1
    obtain rfl : l = [] := List.eq_nil_of_length_eq_zero (by omega)
    refine seqR (by kernel_rfl) ?_
    refine regionR 3 (by kernel_rfl) (by kernel_rfl) ?_
    refine (run0 (z := 2) 1 [2, 0, 3, 10] [(2, .pointer (some ⟨b1, 0, none⟩)), (0, .pointer (some ⟨b, 0, none⟩)), (3, .bool false), (10, .agg #[.int .i64 0, .int .i64 0])] (fun _ => by kernel_rfl) ?_ : RT _ _ _ _ _ _ 3 _)
    refine (stepR (z := 1) (storeS [(0, .int .i64 0), (1, .int .i64 0)] [.int .i64 0, .int .i64 0] (fun _ => by kernel_rfl) (by kernel_rfl) (by kernel_rfl)) (fun _ => ?_) : RT _ _ _ _ _ _ 2 _)
    refine (run0 (z := 0) 1 [2, 0, 3] [(2, .pointer (some ⟨b1, 0, none⟩)), (0, .pointer (some ⟨b, 0, none⟩)), (3, .bool false)] (fun _ => by kernel_rfl) (endR ?_) : RT _ _ _ _ _ _ 1 _)
    refine retR (by kernel_rfl) ?_
    refine thenV ?_
    refine doneG (.tuple #[.agg #[.int .i64 0, .int .i64 0], .bool false]) [(⟨b1, 0, none⟩, .int .i64 0), (⟨b1, 1, none⟩, .int .i64 0)] (hasC (blkAt (T := 75) (cs := [.int .i64 0, .int .i64 0]) 0 rfl rfl) (hasC (blkAt (T := 75) (cs := [.int .i64 0, .int .i64 0]) 0 rfl rfl) has0)) (fun _ => by kernel_rfl) (fun w hs => ?_) .ret (.inr rfl)
    exact ⟨(), rfl, hs.tail⟩
  · skip
    have hl0 : ¬ (l.length : Int) = 0 := beq_eq_false_iff_ne.1 h1
    obtain ⟨e, r, rfl⟩ : ∃ e r, l = e :: r := List.exists_cons_of_length_pos (by omega)
    refine PT.know (KR.isSome (s := ⟨A, cap, e :: r⟩) (rowKRat 2 rfl) (by simp)) ?_
    rintro ⟨sb, so, hA⟩
    dsimp only at hA
    subst hA
    refine skipR (by kernel_rfl) ?_
    refine seqR (by kernel_rfl) ?_
    refine regionR 8 (by kernel_rfl) (by kernel_rfl) ?_
    refine (runR (H := (blk b1 75 [.int .i64 0, .int .i64 0] :: blk b 90 [.slice (some ⟨sb, so, none⟩) ((e :: r).length) cap, .int .i64 room] :: row slE 75 (.slice (some ⟨sb, so, none⟩) (e :: r).length cap) (e :: r) :: H)) (z := 4) 4 [2, 3, 14] [(2, .pointer (some ⟨b1, 0, none⟩)), (3, .bool false), (14, .slice (some ⟨sb, so, none⟩) ((e :: r).length) cap)] [(⟨b, 0, none⟩, .slice (some ⟨sb, so, none⟩) ((e :: r).length) cap)] (hasC (blkAt (T := 90) (cs := [.slice (some ⟨sb, so, none⟩) ((e :: r).length) cap, .int .i64 room]) 1 rfl rfl) has0) (fun _ => by kernel_rfl) ?_ : RT _ _ _ _ _ _ 8 _)
    refine (stepR (z := 3) (yldS (idxY 88 (.tmp 14) (.const (.int .i64 0)) sb so ((e :: r).length) cap 0 2 75 0 .i64 (some 15) (fun _ => by kernel_rfl) (by kernel_rfl) (by kernel_rfl) (fun _ => by kernel_rfl) (fun _ => by kernel_rfl) Tryz.underlying88 (by kernel_rfl) (by first | rfl | assumption | simp) (by first | omega | (simp; done) | (simp; omega) | (simp at *; omega)))) (fun _ => ?_) : RT _ _ _ _ _ _ 4 _)
    refine (runR (H := (blk b1 75 [.int .i64 0, .int .i64 0] :: blk b 90 [.slice (some ⟨sb, so, none⟩) ((e :: r).length) cap, .int .i64 room] :: row slE 75 (.slice (some ⟨sb, so, none⟩) (e :: r).length cap) (e :: r) :: H)) (z := 2) 1 [2, 3, 16] [(2, .pointer (some ⟨b1, 0, none⟩)), (3, .bool false), (16, .agg #[.int .i64 e.1, .int .i64 e.2])] [(⟨sb, so + 0 * 2, none⟩, .int .i64 e.1), (⟨sb, so + 0 * 2 + 1, none⟩, .int .i64 e.2)] (hasC ((rowKRat (xs := e :: r) (A := some ⟨sb, so, none⟩) (k := cap) (E := slE) (T := 75) 2 rfl).cell rfl (i := 0) (x := e) rfl (j := 0) rfl) (hasC ((rowKRat (xs := e :: r) (A := some ⟨sb, so, none⟩) (k := cap) (E := slE) (T := 75) 2 rfl).cell rfl (i := 0) (x := e) rfl (j := 1) rfl) has0)) (fun _ => by kernel_rfl) ?_ : RT _ _ _ _ _ _ 3 _)
    refine (stepR (z := 1) (storeS [(0, .int .i64 e.1), (1, .int .i64 e.2)] [.int .i64 e.1, .int .i64 e.2] (fun _ => by kernel_rfl) (by kernel_rfl) (by kernel_rfl)) (fun _ => ?_) : RT _ _ _ _ _ _ 2 _)
    refine (run0 (z := 0) 1 [2, 3] [(2, .pointer (some ⟨b1, 0, none⟩)), (3, .bool true)] (fun _ => by kernel_rfl) (endR ?_) : RT _ _ _ _ _ _ 1 _)
    refine retR (by kernel_rfl) ?_
    refine doneG (.tuple #[.agg #[.int .i64 e.1, .int .i64 e.2], .bool true]) [(⟨b1, 0, none⟩, .int .i64 e.1), (⟨b1, 1, none⟩, .int .i64 e.2)] (hasC (blkAt (T := 75) (cs := [.int .i64 e.1, .int .i64 e.2]) 0 rfl rfl) (hasC (blkAt (T := 75) (cs := [.int .i64 e.1, .int .i64 e.2]) 0 rfl rfl) has0)) (fun _ => by kernel_rfl) (fun w hs => ?_) .ret (.inr rfl)
    exact ⟨(), rfl, hs.tail⟩
theorem min_idx (H : List SP) (b : Nat) (room : Int) (l : List (Int × Int)) : ∀ w, Sat w (idxS b room l :: H) → Calls Tryz.prog 37 #[.pointer (some ⟨b, 0, none⟩)] w (Ret (ι := Unit) (fun _ => .tuple #[.agg #[.int .i64 (minE l).1.1, .int .i64 (minE l).1.2], .bool (minE l).2]) fun _ => idxS b room l :: H) :=
  idx_same fun A cap => min_walk H b A cap room l
theorem findI_cases (l : List (Int × Int)) (id : Int) : (findI l id = -1 ∧ ∀ e ∈ l, e.2 ≠ id) ∨ ∃ (i : Nat) (e : Int × Int), findI l id = i ∧ l[i]? = some e ∧ e.2 = id ∧ ∀ v e, v < i → l[v]? = some e → e.2 ≠ id := by
  unfold findI
  cases h : l.findIdx? (fun e => e.2 == id) with
  | none => exact .inl ⟨rfl, fun e he => by simpa using List.findIdx?_eq_none_iff.1 h e he⟩
  | some i =>
    right
    obtain ⟨h1, h2, h3⟩ := List.findIdx?_eq_some_iff_getElem.1 h
    refine ⟨i, l[i], rfl, by simp, by simpa using h2, fun v e hv hve => ?_⟩
    obtain ⟨hvl, rfl⟩ := List.getElem?_eq_some_iff.1 hve
    have := h3 v hv
    simpa using this
def passI (l : List (Int × Int)) (id : Int) : Int × Bool := if findI l id < 0 then (0, false) else ((l.getD (findI l id).toNat (0, 0)).1, true)
end Go.Proofs.YtjbjngikaiggdaaGreatDoor
set_option linter.unusedVariables false
set_option linter.unusedSimpArgs false
namespace Go.Proofs.YtjbjngikaiggdaaGreatDoor
open Go.RowKit G
def eLt (a b : Int × Int) : Prop := a.1 < b.1 ∨ a.1 = b.1 ∧ a.2 < b.2
instance (a b : Int × Int) : Decidable (eLt a b) := by unfold eLt; infer_instance
theorem byI_lt (a b : Int × Int) : byI a b < 0 ↔ eLt a b := by
  unfold byI orI cmpI eLt
  by_cases h1 : a.1 < b.1
  · simp [h1]
  · by_cases h2 : a.1 > b.1
    · simp [h1, h2]; omega
    · have h3 : a.1 = b.1 := by omega
      by_cases h4 : a.2 < b.2
      · simp [h3, h4]
      · by_cases h5 : a.2 > b.2 <;> simp [h3, h4, h5]
theorem eLt_trans {a b c : Int × Int} (h : eLt a b) (g : eLt b c) : eLt a c := by unfold eLt at *; omega
theorem eLt_irrefl (a : Int × Int) : ¬ eLt a a := by unfold eLt; omega
theorem eLt_total {a b : Int × Int} (h : ¬ eLt a b) : a = b ∨ eLt b a := by
  unfold eLt at *
  by_cases h1 : a.1 = b.1
  · by_cases h2 : a.2 = b.2
    · exact .inl (Prod.ext h1 h2)
    · exact .inr (by omega)
  · exact .inr (by omega)
def SrtE (l : List (Int × Int)) : Prop := l.Pairwise eLt
theorem SrtE.at {l : List (Int × Int)} (h : SrtE l) {u v : Nat} {x y : Int × Int} (hu : l[u]? = some x) (hv : l[v]? = some y) (huv : u < v) : eLt x y := by
  obtain ⟨hu1, rfl⟩ := List.getElem?_eq_some_iff.1 hu
  obtain ⟨hv1, rfl⟩ := List.getElem?_eq_some_iff.1 hv
  exact List.pairwise_iff_getElem.1 h u v hu1 hv1 huv
/-- Where an entry belongs. -/
def CutE (l : List (Int × Int)) (e : Int × Int) (i : Nat) : Prop := i ≤ l.length ∧ (∀ v x, v < i → l[v]? = some x → eLt x e) ∧ ∀ v x, i ≤ v → l[v]? = some x → ¬ eLt x e
theorem half_of {i j : Nat} (h : i < 1000000) (h2 : j < 1000000) : IntKind.i64.wrap (Int.fdiv (IntKind.u64.wrap (IntKind.i64.wrap ((i : Int) + (j : Int)))) 2) = (((i + j) / 2 : Nat) : Int) := by
  have h3 : IntKind.i64.wrap ((i : Int) + (j : Int)) = ((i + j : Nat) : Int) := by rw [IntKind.wrap_i64]; omega
  have h4 : IntKind.u64.wrap ((i + j : Nat) : Int) = ((i + j : Nat) : Int) := by rw [IntKind.wrap_u64]; omega
  rw [h3, h4, Int.fdiv_eq_ediv_of_nonneg _ (by omega), IntKind.wrap_i64]
  omega
set_option maxHeartbeats 1000000 in
set_option maxRecDepth 100000 in
theorem bs_walk (H : List SP) (s : SV (Int × Int)) (p i : Int) (hk : KR H slE s) (hsr : SrtE s.l) (hl : s.l.length < 1000000) : ∀ w, Sat w H → Calls Tryz.prog 72 #[.slice s.a s.l.length s.c, .agg #[.int .i64 p, .int .i64 i], .func (.func 68) #[] #[]] w (Ret (ι := {x : Nat × Bool // CutE s.l (p, i) x.1}) (fun x => .tuple #[.int .i64 (x.1.1 : Int), .bool x.1.2]) fun _ => H) := by
  refine enterG (fn := Tryz.f72) 49 [.slice s.a s.l.length s.c, .agg #[.int .i64 p, .int .i64 i], .func (.func 68) #[] #[]] Tryz.func72 (by kernel_rfl) (by kernel_rfl) (by kernel_rfl) ?_
  refine seqR (by kernel_rfl) ?_
  refine regionR 3 (by kernel_rfl) (by kernel_rfl) ?_
  refine (stepR (z := 2) (newS 75 [.int .i64 p, .int .i64 i] (some 4) (fun b => .pointer (some ⟨b, 0, none⟩)) (fun _ _ => by kernel_rfl)) (fun b1 => ?_) : RT _ _ _ _ _ _ 3 _)
  refine (run0 (z := 0) 2 [4, 0, 2, 6, 7] [(4, .pointer (some ⟨b1, 0, none⟩)), (0, .slice s.a s.l.length s.c), (2, .func (.func 68) #[] #[]), (6, .int .i64 0), (7, .bool false)] (fun _ => by kernel_rfl) (endR ?_) : RT _ _ _ _ _ _ 2 _)
  refine seqR (by kernel_rfl) ?_
  refine regionR 3 (by kernel_rfl) (by kernel_rfl) ?_
  refine (run0 (z := 0) 3 [4, 0, 2, 6, 7, 8] [(4, .pointer (some ⟨b1, 0, none⟩)), (0, .slice s.a s.l.length s.c), (2, .func (.func 68) #[] #[]), (6, .int .i64 0), (7, .bool false), (8, .int .i64 (s.l.length : Int))] (fun _ => by kernel_rfl) (endR ?_) : RT _ _ _ _ _ _ 3 _)
  refine seqR (by kernel_rfl) ?_
  refine regionR 3 (by kernel_rfl) (by kernel_rfl) ?_
  refine (run0 (z := 0) 3 [4, 0, 2, 6, 7, 8, 9, 10] [(4, .pointer (some ⟨b1, 0, none⟩)), (0, .slice s.a s.l.length s.c), (2, .func (.func 68) #[] #[]), (6, .int .i64 0), (7, .bool false), (8, .int .i64 (s.l.length : Int)), (9, .int .i64 0), (10, .int .i64 (s.l.length : Int))] (fun _ => by kernel_rfl) (endR ?_) : RT _ _ _ _ _ _ 3 _)
  refine seqR (by kernel_rfl) ?_
  refine blockR 0 (by kernel_rfl) (by kernel_rfl) ?_
  refine PT.keep (L' := [(0, .slice s.a s.l.length s.c), (2, .func (.func 68) #[] #[]), (4, .pointer (some ⟨b1, 0, none⟩)), (6, .int .i64 0), (7, .bool false), (8, .int .i64 (s.l.length : Int)), (9, .int .i64 0), (10, .int .i64 (s.l.length : Int))]) [0, 2, 4, 6, 7, 8, 9, 10] rfl ?_
  refine loopG (fun (x : Nat × Nat) => [(0, .slice s.a s.l.length s.c), (2, .func (.func 68) #[] #[]), (4, .pointer (some ⟨b1, 0, none⟩)), (6, .int .i64 0), (7, .bool false), (8, .int .i64 (s.l.length : Int)), (9, .int .i64 (x.1 : Int)), (10, .int .i64 (x.2 : Int))]) (fun (x : Nat × Nat) => (blk b1 75 [.int .i64 p, .int .i64 i] :: H)) (fun k (x : Nat × Nat) => k = x.2 - x.1 ∧ x.1 ≤ x.2 ∧ x.2 ≤ s.l.length ∧ (∀ v y, v < x.1 → s.l[v]? = some y → eLt y (p, i)) ∧ (∀ v y, x.2 ≤ v → s.l[v]? = some y → ¬ eLt y (p, i))) s.l.length (0, s.l.length) (by kernel_rfl) ⟨by simp, by simp, by simp, fun v y hv => by simp at hv, fun v y hv hy => by have := (List.getElem?_eq_some_iff.1 hy).1; simp at hv; omega⟩ ?_
  rintro k ⟨a, z⟩ ⟨hk1, haz, hzl, hlo, hhi⟩
  dsimp only at hk1 haz hzl hlo hhi ⊢
  refine seqR (by kernel_rfl) ?_
  refine seqR (by kernel_rfl) ?_
  refine regionR 3 (by kernel_rfl) (by kernel_rfl) ?_
  refine (run0 (z := 0) 3 [0, 2, 4, 6, 7, 8, 9, 10, 17] [(0, .slice s.a s.l.length s.c), (2, .func (.func 68) #[] #[]), (4, .pointer (some ⟨b1, 0, none⟩)), (6, .int .i64 0), (7, .bool false), (8, .int .i64 (s.l.length : Int)), (9, .int .i64 (a : Int)), (10, .int .i64 (z : Int)), (17, .bool (decide ((a : Int) < (z : Int))))] (fun _ => by kernel_rfl) (endR ?_) : RT _ _ _ _ _ _ 3 _)
  refine condR (b := decide ((a : Int) < (z : Int))) (by kernel_rfl) (fun _ => by kernel_rfl) (fun h1 => ?_) (fun h1 => ?_)
  · skip
    have h1' : a < z := by have := of_decide_eq_true h1; omega
    refine skipR (by kernel_rfl) ?_
    refine blockR 1 (by kernel_rfl) (by kernel_rfl) ?_
    refine seqR (by kernel_rfl) ?_
    refine regionR 7 (by kernel_rfl) (by kernel_rfl) ?_
    refine (run0 (z := 0) 7 [0, 2, 4, 6, 7, 8, 9, 10, 11] [(0, .slice s.a s.l.length s.c), (2, .func (.func 68) #[] #[]), (4, .pointer (some ⟨b1, 0, none⟩)), (6, .int .i64 0), (7, .bool false), (8, .int .i64 (s.l.length : Int)), (9, .int .i64 (a : Int)), (10, .int .i64 (z : Int)), (11, .int .i64 (IntKind.i64.wrap (Int.fdiv (IntKind.u64.wrap (IntKind.i64.wrap ((a : Int) + (z : Int)))) 2)))] (fun _ => by kernel_rfl) (endR ?_) : RT _ _ _ _ _ _ 7 _)
    refine seqR (by kernel_rfl) ?_
    refine drawR (fun w => Sat w (blk b1 75 [.int .i64 p, .int .i64 i] :: H)) [] 8 (by kernel_rfl) (by kernel_rfl) (by kernel_rfl) (fun _ h => by first | exact h | exact h.tail | exact h.tail.tail | exact h.tail.tail.tail | exact h.tail.tail.tail.tail) ?_
    refine takesR [0, 1, 2, 5] [0, 2, 4, 6, 7, 8, 9, 10, 11, 24, 25, 26, 29] 4 [true, true, true, false, false, true, false, false] [(0, .slice s.a s.l.length s.c), (2, .func (.func 68) #[] #[]), (4, .pointer (some ⟨b1, 0, none⟩)), (6, .int .i64 0), (7, .bool false), (8, .int .i64 (s.l.length : Int)), (9, .int .i64 (a : Int)), (10, .int .i64 (z : Int)), (11, .int .i64 (IntKind.i64.wrap (Int.fdiv (IntKind.u64.wrap (IntKind.i64.wrap ((a : Int) + (z : Int)))) 2))), (24, .func (.func 68) #[] #[]), (25, .slice s.a s.l.length s.c), (26, .int .i64 (IntKind.i64.wrap (Int.fdiv (IntKind.u64.wrap (IntKind.i64.wrap ((a : Int) + (z : Int)))) 2))), (29, .agg #[.int .i64 p, .int .i64 i])] [(⟨b1, 0, none⟩, .int .i64 p), (⟨b1, 1, none⟩, .int .i64 i)] rfl (fun _ d _ _ _ h => by cases d <;> exact h) (fun _ h => by first | exact h | exact h.tail | exact h.tail.tail | exact h.tail.tail.tail | exact h.tail.tail.tail.tail) (hasC (blkAt (T := 75) (cs := [.int .i64 p, .int .i64 i]) 0 rfl rfl) (hasC (blkAt (T := 75) (cs := [.int .i64 p, .int .i64 i]) 0 rfl rfl) has0)) (fun _ => by kernel_rfl) ?_
    rw [half_of (by omega) (by omega)]
    obtain ⟨h, hh⟩ : ∃ h, h = (a + z) / 2 := ⟨_, rfl⟩
    rw [← hh]
    have hhl : h < s.l.length := by omega
    obtain ⟨y, hy⟩ : ∃ y, s.l[h]? = some y := ⟨_, by simp [hhl]; rfl⟩
    refine PT.know ((hk).up.isSome (List.ne_nil_of_length_pos (by omega))) ?_
    rintro ⟨sb, so, hA⟩
    try rw [hA]
    refine takeR1 3 3 [true, true, true, true, false, true, false, false] rfl rfl (by kernel_rfl) (fun _ d _ _ _ h => by cases d <;> exact h) (fun _ h => by first | exact h | exact h.tail | exact h.tail.tail | exact h.tail.tail.tail | exact h.tail.tail.tail.tail) (idxY 88 (.tmp 25) (.tmp 26) sb so s.l.length s.c h 2 75 (h : Int) .i64 (some 27) (fun _ => by kernel_rfl) (by kernel_rfl) (by kernel_rfl) (fun _ => by kernel_rfl) (fun _ => by kernel_rfl) Tryz.underlying88 (by kernel_rfl) (by first | rfl | assumption | simp) (by first | omega | (simp; done) | (simp; omega) | (simp at *; omega))) ?_
    refine takesR [4] [0, 2, 4, 6, 7, 8, 9, 10, 11, 24, 29, 28] 2 [true, true, true, true, true, true, false, false] [(0, .slice (some ⟨sb, so, none⟩) s.l.length s.c), (2, .func (.func 68) #[] #[]), (4, .pointer (some ⟨b1, 0, none⟩)), (6, .int .i64 0), (7, .bool false), (8, .int .i64 (s.l.length : Int)), (9, .int .i64 (a : Int)), (10, .int .i64 (z : Int)), (11, .int .i64 (h : Int)), (24, .func (.func 68) #[] #[]), (29, .agg #[.int .i64 p, .int .i64 i]), (28, .agg #[.int .i64 y.1, .int .i64 y.2])] [(⟨sb, so + h * 2, none⟩, .int .i64 y.1), (⟨sb, so + h * 2 + 1, none⟩, .int .i64 y.2)] rfl (fun _ d _ _ _ h => by cases d <;> exact h) (fun _ h => by first | exact h | exact h.tail | exact h.tail.tail | exact h.tail.tail.tail | exact h.tail.tail.tail.tail) (hasC (up (hk.cell hA (i := h) (x := y) hy (j := 0) rfl)) (hasC (up (hk.cell hA (i := h) (x := y) hy (j := 1) rfl)) has0)) (fun _ => by kernel_rfl) ?_
    refine oneR 6 1 [true, true, true, true, true, true, true, false] rfl rfl (by kernel_rfl) (callS 68 [.agg #[.int .i64 y.1, .int .i64 y.2], .agg #[.int .i64 p, .int .i64 i]] (some 30) (fun _ => .int .i64 (byI (y.1, y.2) (p, i))) (fun (_ : Unit) => (blk b1 75 [.int .i64 p, .int .i64 i] :: H)) (fun _ => by kernel_rfl) (by_walk _ y.1 y.2 p i)) (fun _ _ h hn => by first | exact h | exact h.tail | exact h.tail.tail | exact h.tail.tail.tail | exact h.tail.tail.tail.tail | exact absurd hn (by decide)) (fun _ => ?_)
    refine takesR [7] [0, 2, 4, 6, 7, 8, 9, 10, 11, 31] 0 [true, true, true, true, true, true, true, true] [(0, .slice (some ⟨sb, so, none⟩) s.l.length s.c), (2, .func (.func 68) #[] #[]), (4, .pointer (some ⟨b1, 0, none⟩)), (6, .int .i64 0), (7, .bool false), (8, .int .i64 (s.l.length : Int)), (9, .int .i64 (a : Int)), (10, .int .i64 (z : Int)), (11, .int .i64 (h : Int)), (31, .bool (decide ((byI (y.1, y.2) (p, i)) < 0)))] [] rfl (fun _ d _ _ _ h => by cases d <;> exact h) (fun _ h => by first | exact h | exact h.tail | exact h.tail.tail | exact h.tail.tail.tail | exact h.tail.tail.tail.tail) has0 (fun _ => by kernel_rfl) ?_
    refine drawnR (by kernel_rfl) ?_
    try rw [← hA]
    refine condR (b := decide ((byI (y.1, y.2) (p, i)) < 0)) (by kernel_rfl) (fun _ => by kernel_rfl) (fun h2 => ?_) (fun h2 => ?_)
    · skip
      have h2' : eLt y (p, i) := (byI_lt y (p, i)).1 (of_decide_eq_true h2)
      have hw : IntKind.i64.wrap ((h : Int) + 1) = ((h + 1 : Nat) : Int) := by rw [IntKind.wrap_i64]; omega
      have hlo2 : ∀ v y', v < h + 1 → s.l[v]? = some y' → eLt y' (p, i) := by
        intro v y' hv hy'
        by_cases c : v = h
        · subst c; rw [hy] at hy'; cases hy'; exact h2'
        · exact eLt_trans (hsr.at hy' hy (by omega)) h2'
      refine regionR 3 (by kernel_rfl) (by kernel_rfl) ?_
      refine (run0 (z := 0) 3 [0, 2, 4, 6, 7, 8, 9, 10] [(0, .slice s.a s.l.length s.c), (2, .func (.func 68) #[] #[]), (4, .pointer (some ⟨b1, 0, none⟩)), (6, .int .i64 0), (7, .bool false), (8, .int .i64 (s.l.length : Int)), (9, .int .i64 (IntKind.i64.wrap ((h : Int) + 1))), (10, .int .i64 (z : Int))] (fun _ => by kernel_rfl) (endR ?_) : RT _ _ _ _ _ _ 3 _)
      refine PT.keep (L' := [(0, .slice s.a s.l.length s.c), (2, .func (.func 68) #[] #[]), (4, .pointer (some ⟨b1, 0, none⟩)), (6, .int .i64 0), (7, .bool false), (8, .int .i64 (s.l.length : Int)), (9, .int .i64 (IntKind.i64.wrap ((h : Int) + 1))), (10, .int .i64 (z : Int))]) [0, 2, 4, 6, 7, 8, 9, 10] rfl ?_
      exact againG (z - (h + 1)) (h + 1, z) (by rw [hw]) rfl (by omega) ⟨rfl, by simp only; omega, hzl, hlo2, hhi⟩
    · skip
      have h2' : ¬ eLt y (p, i) := fun h => of_decide_eq_false h2 ((byI_lt y (p, i)).2 h)
      have hhi2 : ∀ v y', h ≤ v → s.l[v]? = some y' → ¬ eLt y' (p, i) := by
        intro v y' hv hy'
        by_cases c : v = h
        · subst c; rw [hy] at hy'; cases hy'; exact h2'
        · exact fun h3 => h2' (eLt_trans (hsr.at hy hy' (by omega)) h3)
      refine regionR 2 (by kernel_rfl) (by kernel_rfl) ?_
      refine (run0 (z := 0) 2 [0, 2, 4, 6, 7, 8, 9, 10] [(0, .slice s.a s.l.length s.c), (2, .func (.func 68) #[] #[]), (4, .pointer (some ⟨b1, 0, none⟩)), (6, .int .i64 0), (7, .bool false), (8, .int .i64 (s.l.length : Int)), (9, .int .i64 (a : Int)), (10, .int .i64 (h : Int))] (fun _ => by kernel_rfl) (endR ?_) : RT _ _ _ _ _ _ 2 _)
      refine PT.keep (L' := [(0, .slice s.a s.l.length s.c), (2, .func (.func 68) #[] #[]), (4, .pointer (some ⟨b1, 0, none⟩)), (6, .int .i64 0), (7, .bool false), (8, .int .i64 (s.l.length : Int)), (9, .int .i64 (a : Int)), (10, .int .i64 (h : Int))]) [0, 2, 4, 6, 7, 8, 9, 10] rfl ?_
      exact againG (h - a) (a, h) rfl rfl (by omega) ⟨rfl, by simp only; omega, by simp only; omega, hlo, hhi2⟩
  · skip
    have h1' : a = z := by have := of_decide_eq_false h1; omega
    subst h1'
    refine exitR 0 (by kernel_rfl) (by kernel_rfl) ?_
    refine thenX ?_
    refine thenX ?_
    refine leaveR ?_
    refine seqR (by kernel_rfl) ?_
    refine drawR (fun w => Sat w (blk b1 75 [.int .i64 p, .int .i64 i] :: H)) [] 16 (by kernel_rfl) (by kernel_rfl) (by kernel_rfl) (fun _ h => by first | exact h | exact h.tail | exact h.tail.tail | exact h.tail.tail.tail | exact h.tail.tail.tail.tail) ?_
    refine takesR [0, 1, 2, 3, 4] [0, 2, 4, 6, 7, 9, 35, 39] 11 [true, true, true, true, true, false, false, false, false, false, false, false, false, false, false, false] [(0, .slice s.a s.l.length s.c), (2, .func (.func 68) #[] #[]), (4, .pointer (some ⟨b1, 0, none⟩)), (6, .int .i64 0), (7, .bool false), (9, .int .i64 (a : Int)), (35, .int .i64 (a : Int)), (39, .bool (decide ((a : Int) < (s.l.length : Int))))] [] rfl (fun _ d _ _ _ h => by cases d <;> exact h) (fun _ h => by first | exact h | exact h.tail | exact h.tail.tail | exact h.tail.tail.tail | exact h.tail.tail.tail.tail) has0 (fun _ => by kernel_rfl) ?_
    cases h2 : (decide ((a : Int) < (s.l.length : Int))) with
    | true =>
      have hal : a < s.l.length := by have := of_decide_eq_true h2; omega
      obtain ⟨y, hy⟩ : ∃ y, s.l[a]? = some y := ⟨_, by simp [hal]; rfl⟩
      refine PT.know ((hk).up.isSome (List.ne_nil_of_length_pos (by omega))) ?_
      rintro ⟨sb, so, hA⟩
      try rw [hA]
      refine takesR [5, 6, 7, 10] [6, 7, 35, 39, 40, 41, 42, 45] 7 [true, true, true, true, true, true, true, true, false, false, true, false, false, false, false, false] [(6, .int .i64 0), (7, .bool false), (35, .int .i64 (a : Int)), (39, .bool true), (40, .func (.func 68) #[] #[]), (41, .slice (some ⟨sb, so, none⟩) s.l.length s.c), (42, .int .i64 (a : Int)), (45, .agg #[.int .i64 p, .int .i64 i])] [(⟨b1, 0, none⟩, .int .i64 p), (⟨b1, 1, none⟩, .int .i64 i)] rfl (fun _ d _ _ _ h => by cases d <;> exact h) (fun _ h => by first | exact h | exact h.tail | exact h.tail.tail | exact h.tail.tail.tail | exact h.tail.tail.tail.tail) (hasC (blkAt (T := 75) (cs := [.int .i64 p, .int .i64 i]) 0 rfl rfl) (hasC (blkAt (T := 75) (cs := [.int .i64 p, .int .i64 i]) 0 rfl rfl) has0)) (fun _ => by kernel_rfl) ?_
      refine takeR1 8 6 [true, true, true, true, true, true, true, true, true, false, true, false, false, false, false, false] rfl rfl (by kernel_rfl) (fun _ d _ _ _ h => by cases d <;> exact h) (fun _ h => by first | exact h | exact h.tail | exact h.tail.tail | exact h.tail.tail.tail | exact h.tail.tail.tail.tail) (idxY 88 (.tmp 41) (.tmp 42) sb so s.l.length s.c a 2 75 (a : Int) .i64 (some 43) (fun _ => by kernel_rfl) (by kernel_rfl) (by kernel_rfl) (fun _ => by kernel_rfl) (fun _ => by kernel_rfl) Tryz.underlying88 (by kernel_rfl) (by first | rfl | assumption | simp) (by first | omega | (simp; done) | (simp; omega) | (simp at *; omega))) ?_
      refine takesR [9] [6, 7, 35, 39, 40, 45, 44] 5 [true, true, true, true, true, true, true, true, true, true, true, false, false, false, false, false] [(6, .int .i64 0), (7, .bool false), (35, .int .i64 (a : Int)), (39, .bool true), (40, .func (.func 68) #[] #[]), (45, .agg #[.int .i64 p, .int .i64 i]), (44, .agg #[.int .i64 y.1, .int .i64 y.2])] [(⟨sb, so + a * 2, none⟩, .int .i64 y.1), (⟨sb, so + a * 2 + 1, none⟩, .int .i64 y.2)] rfl (fun _ d _ _ _ h => by cases d <;> exact h) (fun _ h => by first | exact h | exact h.tail | exact h.tail.tail | exact h.tail.tail.tail | exact h.tail.tail.tail.tail) (hasC (up (hk.cell hA (i := a) (x := y) hy (j := 0) rfl)) (hasC (up (hk.cell hA (i := a) (x := y) hy (j := 1) rfl)) has0)) (fun _ => by kernel_rfl) ?_
      refine oneR 11 4 [true, true, true, true, true, true, true, true, true, true, true, true, false, false, false, false] rfl rfl (by kernel_rfl) (callS 68 [.agg #[.int .i64 y.1, .int .i64 y.2], .agg #[.int .i64 p, .int .i64 i]] (some 46) (fun _ => .int .i64 (byI (y.1, y.2) (p, i))) (fun (_ : Unit) => (blk b1 75 [.int .i64 p, .int .i64 i] :: H)) (fun _ => by kernel_rfl) (by_walk _ y.1 y.2 p i)) (fun _ _ h hn => by first | exact h | exact h.tail | exact h.tail.tail | exact h.tail.tail.tail | exact h.tail.tail.tail.tail | exact absurd hn (by decide)) (fun _ => ?_)
      refine takesR [12, 13, 14, 15] [6, 7] 0 [true, true, true, true, true, true, true, true, true, true, true, true, true, true, true, true] [(6, .int .i64 (a : Int)), (7, .bool ((byI (y.1, y.2) (p, i)) == 0))] [] rfl (fun _ d _ _ _ h => by cases d <;> exact h) (fun _ h => by first | exact h | exact h.tail | exact h.tail.tail | exact h.tail.tail.tail | exact h.tail.tail.tail.tail) has0 (fun _ => by kernel_rfl) ?_
      refine drawnR (by kernel_rfl) ?_
      refine retR (by kernel_rfl) ?_
      refine done0 (.tuple #[.int .i64 (a : Int), .bool ((byI (y.1, y.2) (p, i)) == 0)]) (fun _ => by kernel_rfl) (fun w hs => ?_) .ret (.inr rfl)
      exact ⟨⟨(a, byI (y.1, y.2) (p, i) == 0), hzl, hlo, hhi⟩, rfl, hs.tail⟩
    | false =>
      refine takesR [5, 6, 7, 8, 9, 10, 11, 12, 13, 14, 15] [6, 7] 0 [true, true, true, true, true, true, true, true, true, true, true, true, true, true, true, true] [(6, .int .i64 (a : Int)), (7, .bool false)] [] rfl (fun _ d _ _ _ h => by cases d <;> exact h) (fun _ h => by first | exact h | exact h.tail | exact h.tail.tail | exact h.tail.tail.tail | exact h.tail.tail.tail.tail) has0 (fun _ => by kernel_rfl) ?_
      refine drawnR (by kernel_rfl) ?_
      refine retR (by kernel_rfl) ?_
      refine done0 (.tuple #[.int .i64 (a : Int), .bool false]) (fun _ => by kernel_rfl) (fun w hs => ?_) .ret (.inr rfl)
      exact ⟨⟨(a, false), hzl, hlo, hhi⟩, rfl, hs.tail⟩
end Go.Proofs.YtjbjngikaiggdaaGreatDoor
set_option linter.unusedVariables false
set_option linter.unusedSimpArgs false
namespace Go.Proofs.YtjbjngikaiggdaaGreatDoor
open Go.RowKit G
def pinS (P : SP) (G : Nat → Prop) : SP := ⟨fun w F => P.holds w F ∧ F = G, fun h => P.lt h.1, fun h a => ⟨P.stay h.1 a, h.2⟩⟩
/-- A call that changes a row, by what it says of the row. -/
theorem rowCall {α : Type} {E : Enc α} {T : TypeId} {v : Value} {xs zs : List α} {H : List SP} {P : Program} {f : FuncId} {vs : Array Value}
    (h : ∀ w F, Row E T w F v xs → SatF H w (fun b => True ∧ ¬ F b) → Calls P f vs w (RowPost E T F w zs)) :
    ∀ w, Sat w (row E T v xs :: H) → Calls P f vs w (Ret (ι := Option Addr × Nat) (fun p => .slice p.1 zs.length p.2) fun p => row E T (.slice p.1 zs.length p.2) zs :: H) := by
  rintro w ⟨G, hG, _, h3⟩
  refine (h w G hG h3).mono ?_
  rintro e w' ⟨v', F', rfl, hr, hu, hf⟩
  have hp : Sat w (pinS (row E T v xs) G :: H) := ⟨G, ⟨hG, rfl⟩, fun _ _ => trivial, h3⟩
  have key : Sat w' (row E T v' zs :: H) := hp.change fun G' hG' => by
    obtain ⟨_, rfl⟩ := hG'
    exact ⟨hu, F', hr, hf⟩
  rcases hr with ⟨rfl, h0, _⟩ | ⟨b, o, c, cur, rfl, _⟩
  · subst h0; exact ⟨(none, 0), rfl, key⟩
  · exact ⟨(some ⟨b, o, none⟩, c), rfl, key⟩
theorem ins_walk (H : List SP) (j : Nat) (v : Value) (xs : List (Int × Int)) (x : Int × Int) (yb : Nat) (T' : TypeId) (hj : H[j]? = some (blk yb T' (slE.enc x))) (i : Nat) (hi : i ≤ xs.length) (hn : xs.length ≤ 1000000000) :
    ∀ w, Sat w (row slE 75 v xs :: H) → Calls Tryz.prog 73 #[v, .int .i64 i, .slice (some ⟨yb, 0, none⟩) 1 1] w (Ret (ι := Option Addr × Nat) (fun p => .slice p.1 (xs.take i ++ x :: xs.drop i).length p.2) fun p => row slE 75 (.slice p.1 (xs.take i ++ x :: xs.drop i).length p.2) (xs.take i ++ x :: xs.drop i) :: H) :=
  rowCall fun w F hr h3 => by
    obtain ⟨K, ⟨hk1, hk2⟩, hk3, _⟩ := SatF.pick j hj h3
    exact ins_sl w F v xs x hr yb T' hk1 ((hk3 yb ((hk2 yb).2 rfl)).2) i hi hn
theorem del_walk (H : List SP) (v : Value) (xs : List (Int × Int)) (i : Nat) (hi : i < xs.length) (hn : xs.length ≤ 1000000000) :
    ∀ w, Sat w (row slE 75 v xs :: H) → Calls Tryz.prog 64 #[v, .int .i64 i, .int .i64 ((i : Int) + 1)] w (Ret (ι := Option Addr × Nat) (fun p => .slice p.1 (xs.take i ++ xs.drop (i + 1)).length p.2) fun p => row slE 75 (.slice p.1 (xs.take i ++ xs.drop (i + 1)).length p.2) (xs.take i ++ xs.drop (i + 1)) :: H) :=
  rowCall fun w F hr _ => del_sl w F v xs hr i hi hn
/-- An entry where it belongs. -/
def insE (e : Int × Int) : List (Int × Int) → List (Int × Int)
  | [] => [e]
  | x :: r => if eLt x e then x :: insE e r else e :: x :: r
theorem insE_cut (e : Int × Int) : ∀ (l : List (Int × Int)) (i : Nat), CutE l e i → l.take i ++ e :: l.drop i = insE e l
  | [], i, h => by simp [insE]
  | x :: r, 0, h => by
    have := h.2.2 0 x (by omega) rfl
    simp [insE, this]
  | x :: r, i + 1, h => by
    have h1 := h.2.1 0 x (by omega) rfl
    have ih := insE_cut e r i ⟨by have := h.1; simp at this; omega, fun v y hv hy => h.2.1 (v + 1) y (by omega) (by simpa using hy), fun v y hv hy => h.2.2 (v + 1) y (by omega) (by simpa using hy)⟩
    simp only [insE, List.take_succ_cons, List.drop_succ_cons, List.cons_append, if_pos h1, ih]
set_option maxHeartbeats 1000000 in
set_option maxRecDepth 100000 in
theorem insert_walk (H : List SP) (b : Nat) (A : Option Addr) (cap : Nat) (room : Int) (l : List (Int × Int)) (p i : Int) (hsr : SrtE l) (hl : l.length < 1000000) : ∀ w, Sat w (blk b 90 [.slice A l.length cap, .int .i64 room] :: row slE 75 (.slice A l.length cap) l :: H) → Calls Tryz.prog 66 #[.pointer (some ⟨b, 0, none⟩), .agg #[.int .i64 p, .int .i64 i]] w (Ret (ι := Option Addr × Nat) (fun _ => .tuple #[]) fun x => blk b 90 [.slice x.1 (insE (p, i) l).length x.2, .int .i64 room] :: row slE 75 (.slice x.1 (insE (p, i) l).length x.2) (insE (p, i) l) :: H) := by
  refine enterG (fn := Tryz.f66) 26 [.pointer (some ⟨b, 0, none⟩), .agg #[.int .i64 p, .int .i64 i]] Tryz.func66 (by kernel_rfl) (by kernel_rfl) (by kernel_rfl) ?_
  refine seqR (by kernel_rfl) ?_
  refine regionR 1 (by kernel_rfl) (by kernel_rfl) ?_
  refine (stepR (z := 0) (newS 75 [.int .i64 p, .int .i64 i] (some 3) (fun b => .pointer (some ⟨b, 0, none⟩)) (fun _ _ => by kernel_rfl)) (fun b1 => ?_) : RT _ _ _ _ _ _ 1 _)
  refine endR ?_
  refine seqR (by kernel_rfl) ?_
  refine drawR (fun w => Sat w (blk b1 75 [.int .i64 p, .int .i64 i] :: blk b 90 [.slice A l.length cap, .int .i64 room] :: row slE 75 (.slice A l.length cap) l :: H)) [] 11 (by kernel_rfl) (by kernel_rfl) (by kernel_rfl) (fun _ h => by first | exact h | exact h.tail | exact h.tail.tail | exact h.tail.tail.tail | exact h.tail.tail.tail.tail) ?_
  refine takesR [0, 1, 2, 3, 4] [3, 0, 10, 11] 6 [true, true, true, true, true, false, false, false, false, false, false] [(3, .pointer (some ⟨b1, 0, none⟩)), (0, .pointer (some ⟨b, 0, none⟩)), (10, .slice A l.length cap), (11, .agg #[.int .i64 p, .int .i64 i])] [(⟨b, 0, none⟩, .slice A l.length cap), (⟨b1, 0, none⟩, .int .i64 p), (⟨b1, 1, none⟩, .int .i64 i)] rfl (fun _ d _ _ _ h => by cases d <;> exact h) (fun _ h => by first | exact h | exact h.tail | exact h.tail.tail | exact h.tail.tail.tail | exact h.tail.tail.tail.tail) (hasC (blkAt (T := 90) (cs := [.slice A l.length cap, .int .i64 room]) 1 rfl rfl) (hasC (blkAt (T := 75) (cs := [.int .i64 p, .int .i64 i]) 0 rfl rfl) (hasC (blkAt (T := 75) (cs := [.int .i64 p, .int .i64 i]) 0 rfl rfl) has0))) (fun _ => by kernel_rfl) ?_
  refine oneR 5 5 [true, true, true, true, true, true, false, false, false, false, false] rfl rfl (by kernel_rfl) (callS 72 [.slice A l.length cap, .agg #[.int .i64 p, .int .i64 i], .func (.func 68) #[] #[]] (some 12) (fun (x : {x : Nat × Bool // CutE l (p, i) x.1}) => .tuple #[.int .i64 (x.1.1 : Int), .bool x.1.2]) (fun (x : {x : Nat × Bool // CutE l (p, i) x.1}) => (blk b1 75 [.int .i64 p, .int .i64 i] :: blk b 90 [.slice A l.length cap, .int .i64 room] :: row slE 75 (.slice A l.length cap) l :: H)) (fun _ => by kernel_rfl) (bs_walk _ ⟨A, cap, l⟩ p i (rowKRat 2 rfl) hsr hl)) (fun _ _ h hn => by first | exact h | exact h.tail | exact h.tail.tail | exact h.tail.tail.tail | exact h.tail.tail.tail.tail | exact absurd hn (by decide)) (fun (x : {x : Nat × Bool // CutE l (p, i) x.1}) => ?_)
  obtain ⟨⟨m, fo⟩, hcut⟩ := x
  dsimp only
  refine takesR [6, 7, 8, 9, 10] [3, 0, 4] 0 [true, true, true, true, true, true, true, true, true, true, true] [(3, .pointer (some ⟨b1, 0, none⟩)), (0, .pointer (some ⟨b, 0, none⟩)), (4, .int .i64 (m : Int))] [] rfl (fun _ d _ _ _ h => by cases d <;> exact h) (fun _ h => by first | exact h | exact h.tail | exact h.tail.tail | exact h.tail.tail.tail | exact h.tail.tail.tail.tail) has0 (fun _ => by kernel_rfl) ?_
  refine drawnR (by kernel_rfl) ?_
  refine PT.pick 2 rfl ?_
  refine drawR (fun w => Sat w (blk b1 75 [.int .i64 p, .int .i64 i] :: blk b 90 [.slice A l.length cap, .int .i64 room] :: H)) [11] 12 (by kernel_rfl) (by kernel_rfl) (by kernel_rfl) (fun _ h => by first | exact h | exact h.tail | exact h.tail.tail | exact h.tail.tail.tail | exact h.tail.tail.tail.tail) ?_
  refine takesR [0, 1, 2, 3, 4, 5, 6] [15, 19, 20, 21] 5 [true, true, true, true, true, true, true, false, false, false, false, false] [(15, .pointer (some ⟨b, 0, none⟩)), (19, .slice A l.length cap), (20, .int .i64 (m : Int)), (21, .agg #[.int .i64 p, .int .i64 i])] [(⟨b, 0, none⟩, .slice A l.length cap), (⟨b1, 0, none⟩, .int .i64 p), (⟨b1, 1, none⟩, .int .i64 i)] rfl (fun _ d _ _ _ h => by cases d <;> exact h) (fun _ h => by first | exact h | exact h.tail | exact h.tail.tail | exact h.tail.tail.tail | exact h.tail.tail.tail.tail) (hasC (blkAt (T := 90) (cs := [.slice A l.length cap, .int .i64 room]) 1 rfl rfl) (hasC (blkAt (T := 75) (cs := [.int .i64 p, .int .i64 i]) 0 rfl rfl) (hasC (blkAt (T := 75) (cs := [.int .i64 p, .int .i64 i]) 0 rfl rfl) has0))) (fun _ => by kernel_rfl) ?_
  refine oneR 7 4 [true, true, true, true, true, true, true, true, false, false, false, false] rfl rfl (by kernel_rfl) (newS 75 [.int .i64 p, .int .i64 i] (some 22) (fun b => .slice (some ⟨b, 0, none⟩) 1 1) (fun _ _ => by kernel_rfl)) (fun _ _ h hn => by first | exact h | exact h.tail | exact h.tail.tail | exact h.tail.tail.tail | exact h.tail.tail.tail.tail | exact absurd hn (by decide)) (fun b2 => ?_)
  refine DT.pick 1 rfl ?_
  refine oneR 8 3 [true, true, true, true, true, true, true, true, true, false, false, false] rfl rfl (by kernel_rfl) (callS 73 [.slice A l.length cap, .int .i64 (m : Int), .slice (some ⟨b2, 0, none⟩) 1 1] (some 23) (fun (r : Option Addr × Nat) => .slice r.1 (l.take m ++ (p, i) :: l.drop m).length r.2) (fun (r : Option Addr × Nat) => (row slE 75 (.slice r.1 (l.take m ++ (p, i) :: l.drop m).length r.2) (l.take m ++ (p, i) :: l.drop m) :: blk b2 75 [.int .i64 p, .int .i64 i] :: blk b1 75 [.int .i64 p, .int .i64 i] :: blk b 90 [.slice A l.length cap, .int .i64 room] :: H)) (fun _ => by kernel_rfl) (ins_walk (blk b2 75 [.int .i64 p, .int .i64 i] :: blk b1 75 [.int .i64 p, .int .i64 i] :: blk b 90 [.slice A l.length cap, .int .i64 room] :: H) 0 (.slice A l.length cap) l (p, i) b2 _ rfl m hcut.1 (by omega))) (fun _ _ h hn => by first | exact h | exact h.tail | exact h.tail.tail | exact h.tail.tail.tail | exact h.tail.tail.tail.tail | exact absurd hn (by decide)) (fun (r : Option Addr × Nat) => ?_)
  rw [insE_cut (p, i) l m hcut]
  refine takesR [9, 10] [23, 25] 1 [true, true, true, true, true, true, true, true, true, true, true, false] [(23, .slice r.1 ((insE (p, i) l).length) r.2), (25, .pointer (some ⟨b, 0, none⟩))] [] rfl (fun _ d _ _ _ h => by cases d <;> exact h) (fun _ h => by first | exact h | exact h.tail | exact h.tail.tail | exact h.tail.tail.tail | exact h.tail.tail.tail.tail) has0 (fun _ => by kernel_rfl) ?_
  refine DT.pick 3 rfl ?_
  refine oneR 11 0 [true, true, true, true, true, true, true, true, true, true, true, true] rfl rfl (by kernel_rfl) (storeS [(0, .slice r.1 ((insE (p, i) l).length) r.2)] [.slice r.1 ((insE (p, i) l).length) r.2, .int .i64 room] (fun _ => by kernel_rfl) (by kernel_rfl) (by kernel_rfl)) (fun _ _ h hn => by first | exact h | exact h.tail | exact h.tail.tail | exact h.tail.tail.tail | exact h.tail.tail.tail.tail | exact absurd hn (by decide)) (fun _ => ?_)
  refine drawnR (by kernel_rfl) ?_
  refine done0 (.tuple #[]) (fun _ => by kernel_rfl) (fun w hs => ?_) .normal (.inl rfl)
  exact ⟨r, rfl, Sat.erase 2 rfl (Sat.erase 2 rfl hs)⟩
def pqErr (e : Int) : Value := if e = 0 then .nilIface else .iface 52 (.int .i64 e)
def putE (room : Int) (l : List (Int × Int)) (p id : Int) : Int × List (Int × Int) :=
  if ((!isPassB p) || decide (id < 0)) = true then (10, l) else if findI l id ≥ 0 then (20, l) else if (l.length : Int) ≥ room then (14, l) else (0, insE (p, id) l)
set_option maxRecDepth 100000 in
theorem put_walk (H : List SP) (b : Nat) (A : Option Addr) (cap : Nat) (room : Int) (l : List (Int × Int)) (p id : Int) (hsr : SrtE l) (hl : l.length < 1000000) : ∀ w, Sat w (blk b 90 [.slice A l.length cap, .int .i64 room] :: row slE 75 (.slice A l.length cap) l :: H) → Calls Tryz.prog 53 #[.pointer (some ⟨b, 0, none⟩), .int .i64 p, .int .i64 id] w (Ret (ι := Option Addr × Nat) (fun _ => pqErr (putE room l p id).1) fun x => blk b 90 [.slice x.1 (putE room l p id).2.length x.2, .int .i64 room] :: row slE 75 (.slice x.1 (putE room l p id).2.length x.2) (putE room l p id).2 :: H) := by
  refine enterG (fn := Tryz.f53) 39 [.pointer (some ⟨b, 0, none⟩), .int .i64 p, .int .i64 id] Tryz.func53 (by kernel_rfl) (by kernel_rfl) (by kernel_rfl) ?_
  refine seqR (by kernel_rfl) ?_
  refine regionR 1 (by kernel_rfl) (by kernel_rfl) ?_
  refine (run0 (z := 0) 1 [0, 1, 2, 6] [(0, .pointer (some ⟨b, 0, none⟩)), (1, .int .i64 p), (2, .int .i64 id), (6, .nilIface)] (fun _ => by kernel_rfl) (endR ?_) : RT _ _ _ _ _ _ 1 _)
  refine seqR (by kernel_rfl) ?_
  refine blockR 0 (by kernel_rfl) (by kernel_rfl) ?_
  refine seqR (by kernel_rfl) ?_
  refine regionR 8 (by kernel_rfl) (by kernel_rfl) ?_
  refine (run0 (z := 7) 1 [0, 1, 2, 6, 8] [(0, .pointer (some ⟨b, 0, none⟩)), (1, .int .i64 p), (2, .int .i64 id), (6, .nilIface), (8, .int .i64 p)] (fun _ => by kernel_rfl) ?_ : RT _ _ _ _ _ _ 8 _)
  refine (stepR (z := 6) (callS 65 [.int .i64 p] (some 9) (fun _ => .bool (isPassB p)) (fun (_ : Unit) => (blk b 90 [.slice A l.length cap, .int .i64 room] :: row slE 75 (.slice A l.length cap) l :: H)) (fun _ => by kernel_rfl) (isPass_walk _ p)) (fun _ => ?_) : RT _ _ _ _ _ _ 7 _)
  refine (run0 (z := 4) 2 [0, 1, 2, 6, 11] [(0, .pointer (some ⟨b, 0, none⟩)), (1, .int .i64 p), (2, .int .i64 id), (6, .nilIface), (11, .bool (!(isPassB p)))] (fun _ => by kernel_rfl) ?_ : RT _ _ _ _ _ _ 6 _)
  refine (segR (ι := Unit) (z := 1) 3 (fun _ => [(0, .pointer (some ⟨b, 0, none⟩)), (1, .int .i64 p), (2, .int .i64 id), (6, .nilIface), (14, .bool ((!(isPassB p)) || (decide (id < 0))))]) (fun _ => (blk b 90 [.slice A l.length cap, .int .i64 room] :: row slE 75 (.slice A l.length cap) l :: H)) ?_ (fun _ => ?_) : RT _ _ _ _ _ _ 4 _)
  · cases hg4 : (!(isPassB p)) with
    | true =>
      refine (run0 (z := 0) 3 [0, 1, 2, 6, 14] [(0, .pointer (some ⟨b, 0, none⟩)), (1, .int .i64 p), (2, .int .i64 id), (6, .nilIface), (14, .bool true)] (fun _ => by kernel_rfl) (endR ?_) : RT _ _ _ _ _ _ 3 _)
      refine PT.keep (L' := [(0, .pointer (some ⟨b, 0, none⟩)), (1, .int .i64 p), (2, .int .i64 id), (6, .nilIface), (14, .bool (true || (decide (id < 0))))]) [0, 1, 2, 6, 14] rfl ?_
      exact midR () rfl rfl
    | false =>
      refine (run0 (z := 0) 3 [0, 1, 2, 6, 14] [(0, .pointer (some ⟨b, 0, none⟩)), (1, .int .i64 p), (2, .int .i64 id), (6, .nilIface), (14, .bool (decide (id < 0)))] (fun _ => by kernel_rfl) (endR ?_) : RT _ _ _ _ _ _ 3 _)
      refine PT.keep (L' := [(0, .pointer (some ⟨b, 0, none⟩)), (1, .int .i64 p), (2, .int .i64 id), (6, .nilIface), (14, .bool (false || (decide (id < 0))))]) [0, 1, 2, 6, 14] rfl ?_
      exact midR () rfl rfl
  refine (run0 (z := 0) 1 [0, 1, 2, 6, 7] [(0, .pointer (some ⟨b, 0, none⟩)), (1, .int .i64 p), (2, .int .i64 id), (6, .nilIface), (7, .bool ((!(isPassB p)) || (decide (id < 0))))] (fun _ => by kernel_rfl) (endR ?_) : RT _ _ _ _ _ _ 1 _)
  refine condR (b := (!(isPassB p)) || (decide (id < 0))) (by kernel_rfl) (fun _ => by kernel_rfl) (fun h1 => ?_) (fun h1 => ?_)
  · skip
    refine seqR (by kernel_rfl) ?_
    refine regionR 2 (by kernel_rfl) (by kernel_rfl) ?_
    refine (run0 (z := 0) 2 [0, 1, 2, 6] [(0, .pointer (some ⟨b, 0, none⟩)), (1, .int .i64 p), (2, .int .i64 id), (6, .iface 52 (.int .i64 10))] (fun _ => by kernel_rfl) (endR ?_) : RT _ _ _ _ _ _ 2 _)
    refine retR (by kernel_rfl) ?_
    refine blockV ?_
    refine thenV ?_
    refine done0 (.iface 52 (.int .i64 10)) (fun _ => by kernel_rfl) (fun w hs => ?_) .ret (.inr rfl)
    rw [putE, if_pos h1]; exact ⟨(A, cap), rfl, hs⟩
  · skip
    have h1' : ¬ ((!isPassB p) || decide (id < 0)) = true := by rw [show ((!isPassB p) || decide (id < 0)) = false from h1]; simp
    refine seqR (by kernel_rfl) ?_
    refine regionR 5 (by kernel_rfl) (by kernel_rfl) ?_
    refine (run0 (z := 3) 2 [0, 1, 2, 6, 17, 18] [(0, .pointer (some ⟨b, 0, none⟩)), (1, .int .i64 p), (2, .int .i64 id), (6, .nilIface), (17, .pointer (some ⟨b, 0, none⟩)), (18, .int .i64 id)] (fun _ => by kernel_rfl) ?_ : RT _ _ _ _ _ _ 5 _)
    refine (stepR (z := 2) (callS 63 [.pointer (some ⟨b, 0, none⟩), .int .i64 id] (some 19) (fun _ => .int .i64 (findI l id)) (fun _ => (blk b 90 [.slice A l.length cap, .int .i64 room] :: row slE 75 (.slice A l.length cap) l :: H)) (fun _ => by kernel_rfl) (find_walk _ b A cap room l id (by omega))) (fun _ => ?_) : RT _ _ _ _ _ _ 3 _)
    refine (run0 (z := 0) 2 [0, 1, 2, 6, 16] [(0, .pointer (some ⟨b, 0, none⟩)), (1, .int .i64 p), (2, .int .i64 id), (6, .nilIface), (16, .bool (decide ((findI l id) ≥ 0)))] (fun _ => by kernel_rfl) (endR ?_) : RT _ _ _ _ _ _ 2 _)
    refine condR (b := decide ((findI l id) ≥ 0)) (by kernel_rfl) (fun _ => by kernel_rfl) (fun h2 => ?_) (fun h2 => ?_)
    · skip
      refine seqR (by kernel_rfl) ?_
      refine regionR 2 (by kernel_rfl) (by kernel_rfl) ?_
      refine (run0 (z := 0) 2 [0, 1, 2, 6] [(0, .pointer (some ⟨b, 0, none⟩)), (1, .int .i64 p), (2, .int .i64 id), (6, .iface 52 (.int .i64 20))] (fun _ => by kernel_rfl) (endR ?_) : RT _ _ _ _ _ _ 2 _)
      refine retR (by kernel_rfl) ?_
      refine blockV ?_
      refine thenV ?_
      refine done0 (.iface 52 (.int .i64 20)) (fun _ => by kernel_rfl) (fun w hs => ?_) .ret (.inr rfl)
      rw [putE, if_neg h1', if_pos (of_decide_eq_true h2)]; exact ⟨(A, cap), rfl, hs⟩
    · skip
      refine seqR (by kernel_rfl) ?_
      refine drawR (fun w => Sat w (blk b 90 [.slice A l.length cap, .int .i64 room] :: row slE 75 (.slice A l.length cap) l :: H)) [] 11 (by kernel_rfl) (by kernel_rfl) (by kernel_rfl) (fun _ h => by first | exact h | exact h.tail | exact h.tail.tail | exact h.tail.tail.tail | exact h.tail.tail.tail.tail) ?_
      refine takesR [0, 1, 2, 3, 4, 5, 6, 7, 8, 9, 10] [0, 1, 2, 6, 22] 0 [true, true, true, true, true, true, true, true, true, true, true] [(0, .pointer (some ⟨b, 0, none⟩)), (1, .int .i64 p), (2, .int .i64 id), (6, .nilIface), (22, .bool (decide ((l.length : Int) ≥ room)))] [(⟨b, 0, none⟩, .slice A l.length cap), (⟨b, 1, none⟩, .int .i64 room)] rfl (fun _ d _ _ _ h => by cases d <;> exact h) (fun _ h => by first | exact h | exact h.tail | exact h.tail.tail | exact h.tail.tail.tail | exact h.tail.tail.tail.tail) (hasC (blkAt (T := 90) (cs := [.slice A l.length cap, .int .i64 room]) 0 rfl rfl) (hasC (blkAt (T := 90) (cs := [.slice A l.length cap, .int .i64 room]) 0 rfl rfl) has0)) (fun _ => by kernel_rfl) ?_
      refine drawnR (by kernel_rfl) ?_
      refine condR (b := decide ((l.length : Int) ≥ room)) (by kernel_rfl) (fun _ => by kernel_rfl) (fun h3 => ?_) (fun h3 => ?_)
      · skip
        refine seqR (by kernel_rfl) ?_
        refine regionR 2 (by kernel_rfl) (by kernel_rfl) ?_
        refine (run0 (z := 0) 2 [0, 1, 2, 6] [(0, .pointer (some ⟨b, 0, none⟩)), (1, .int .i64 p), (2, .int .i64 id), (6, .iface 52 (.int .i64 14))] (fun _ => by kernel_rfl) (endR ?_) : RT _ _ _ _ _ _ 2 _)
        refine retR (by kernel_rfl) ?_
        refine blockV ?_
        refine thenV ?_
        refine done0 (.iface 52 (.int .i64 14)) (fun _ => by kernel_rfl) (fun w hs => ?_) .ret (.inr rfl)
        rw [putE, if_neg h1', if_neg (of_decide_eq_false h2), if_pos (of_decide_eq_true h3)]; exact ⟨(A, cap), rfl, hs⟩
      · skip
        refine skipR (by kernel_rfl) ?_
        refine seqR (by kernel_rfl) ?_
        refine regionR 5 (by kernel_rfl) (by kernel_rfl) ?_
        refine (run0 (z := 1) 4 [6, 34, 37] [(6, .nilIface), (34, .pointer (some ⟨b, 0, none⟩)), (37, .agg #[.int .i64 p, .int .i64 id])] (fun _ => by kernel_rfl) ?_ : RT _ _ _ _ _ _ 5 _)
        refine (stepR (z := 0) (callS 66 [.pointer (some ⟨b, 0, none⟩), .agg #[.int .i64 p, .int .i64 id]] (some 38) (fun (r : Option Addr × Nat) => .tuple #[]) (fun (r : Option Addr × Nat) => blk b 90 [.slice r.1 (insE (p, id) l).length r.2, .int .i64 room] :: row slE 75 (.slice r.1 (insE (p, id) l).length r.2) (insE (p, id) l) :: H) (fun _ => by kernel_rfl) (insert_walk _ b A cap room l p id hsr hl)) (fun (r : Option Addr × Nat) => ?_) : RT _ _ _ _ _ _ 1 _)
        refine endR ?_
        refine seqR (by kernel_rfl) ?_
        refine regionR 1 (by kernel_rfl) (by kernel_rfl) ?_
        refine (run0 (z := 0) 1 [6] [(6, .nilIface)] (fun _ => by kernel_rfl) (endR ?_) : RT _ _ _ _ _ _ 1 _)
        refine retR (by kernel_rfl) ?_
        refine done0 (.nilIface) (fun _ => by kernel_rfl) (fun w hs => ?_) .ret (.inr rfl)
        rw [putE, if_neg h1', if_neg (of_decide_eq_false h2), if_neg (of_decide_eq_false h3)]; exact ⟨r, rfl, hs⟩
def dropE (l : List (Int × Int)) (id : Int) : Int × List (Int × Int) := if findI l id < 0 then (13, l) else (0, l.take (findI l id).toNat ++ l.drop ((findI l id).toNat + 1))
set_option maxRecDepth 100000 in
theorem drop_walk (H : List SP) (b : Nat) (A : Option Addr) (cap : Nat) (room : Int) (l : List (Int × Int)) (id : Int) (hl : l.length < 1000000) : ∀ w, Sat w (blk b 90 [.slice A l.length cap, .int .i64 room] :: row slE 75 (.slice A l.length cap) l :: H) → Calls Tryz.prog 50 #[.pointer (some ⟨b, 0, none⟩), .int .i64 id] w (Ret (ι := Option Addr × Nat) (fun _ => pqErr (dropE l id).1) fun x => blk b 90 [.slice x.1 (dropE l id).2.length x.2, .int .i64 room] :: row slE 75 (.slice x.1 (dropE l id).2.length x.2) (dropE l id).2 :: H) := by
  refine enterG (fn := Tryz.f50) 23 [.pointer (some ⟨b, 0, none⟩), .int .i64 id] Tryz.func50 (by kernel_rfl) (by kernel_rfl) (by kernel_rfl) ?_
  refine seqR (by kernel_rfl) ?_
  refine regionR 1 (by kernel_rfl) (by kernel_rfl) ?_
  refine (run0 (z := 0) 1 [0, 1, 4] [(0, .pointer (some ⟨b, 0, none⟩)), (1, .int .i64 id), (4, .nilIface)] (fun _ => by kernel_rfl) (endR ?_) : RT _ _ _ _ _ _ 1 _)
  refine seqR (by kernel_rfl) ?_
  refine regionR 4 (by kernel_rfl) (by kernel_rfl) ?_
  refine (run0 (z := 2) 2 [0, 4, 6, 7] [(0, .pointer (some ⟨b, 0, none⟩)), (4, .nilIface), (6, .pointer (some ⟨b, 0, none⟩)), (7, .int .i64 id)] (fun _ => by kernel_rfl) ?_ : RT _ _ _ _ _ _ 4 _)
  refine (stepR (z := 1) (callS 63 [.pointer (some ⟨b, 0, none⟩), .int .i64 id] (some 8) (fun _ => .int .i64 (findI l id)) (fun _ => (blk b 90 [.slice A l.length cap, .int .i64 room] :: row slE 75 (.slice A l.length cap) l :: H)) (fun _ => by kernel_rfl) (find_walk _ b A cap room l id (by omega))) (fun _ => ?_) : RT _ _ _ _ _ _ 2 _)
  refine (run0 (z := 0) 1 [0, 4, 5] [(0, .pointer (some ⟨b, 0, none⟩)), (4, .nilIface), (5, .int .i64 (findI l id))] (fun _ => by kernel_rfl) (endR ?_) : RT _ _ _ _ _ _ 1 _)
  refine seqR (by kernel_rfl) ?_
  refine seqR (by kernel_rfl) ?_
  refine regionR 2 (by kernel_rfl) (by kernel_rfl) ?_
  refine (run0 (z := 0) 2 [0, 4, 5, 10] [(0, .pointer (some ⟨b, 0, none⟩)), (4, .nilIface), (5, .int .i64 (findI l id)), (10, .bool (decide ((findI l id) < 0)))] (fun _ => by kernel_rfl) (endR ?_) : RT _ _ _ _ _ _ 2 _)
  refine condR (b := decide ((findI l id) < 0)) (by kernel_rfl) (fun _ => by kernel_rfl) (fun h1 => ?_) (fun h1 => ?_)
  · skip
    refine seqR (by kernel_rfl) ?_
    refine regionR 2 (by kernel_rfl) (by kernel_rfl) ?_
    refine (run0 (z := 0) 2 [0, 4, 5] [(0, .pointer (some ⟨b, 0, none⟩)), (4, .iface 52 (.int .i64 13)), (5, .int .i64 (findI l id))] (fun _ => by kernel_rfl) (endR ?_) : RT _ _ _ _ _ _ 2 _)
    refine retR (by kernel_rfl) ?_
    refine thenV ?_
    refine done0 (.iface 52 (.int .i64 13)) (fun _ => by kernel_rfl) (fun w hs => ?_) .ret (.inr rfl)
    rw [dropE, if_pos (of_decide_eq_true h1)]; exact ⟨(A, cap), rfl, hs⟩
  · skip
    have h1' := of_decide_eq_false h1
    rcases findI_cases l id with ⟨hf, _⟩ | ⟨i, e, hf, he, hid, _⟩
    · omega
    have hil := (List.getElem?_eq_some_iff.1 he).1
    have hd : dropE l id = (0, l.take i ++ l.drop (i + 1)) := by rw [dropE, if_neg h1', hf, Int.toNat_natCast]
    rw [hf, hd]
    have hw : IntKind.i64.wrap ((i : Int) + 1) = (i : Int) + 1 := by rw [IntKind.wrap_i64]; omega
    refine skipR (by kernel_rfl) ?_
    refine seqR (by kernel_rfl) ?_
    refine regionR 12 (by kernel_rfl) (by kernel_rfl) ?_
    refine (runR (H := (blk b 90 [.slice A l.length cap, .int .i64 room] :: row slE 75 (.slice A l.length cap) l :: H)) (z := 4) 8 [4, 12, 16, 17, 19] [(4, .nilIface), (12, .pointer (some ⟨b, 0, none⟩)), (16, .slice A l.length cap), (17, .int .i64 (i : Int)), (19, .int .i64 (IntKind.i64.wrap ((i : Int) + 1)))] [(⟨b, 0, none⟩, .slice A l.length cap)] (hasC (blkAt (T := 90) (cs := [.slice A l.length cap, .int .i64 room]) 0 rfl rfl) has0) (fun _ => by kernel_rfl) ?_ : RT _ _ _ _ _ _ 12 _)
    rw [hw]
    refine (RT.pick 1 rfl ?_ : RT _ _ _ (blk b 90 [.slice A l.length cap, .int .i64 room] :: row slE 75 (.slice A l.length cap) l :: H) _ _ 4 _)
    refine (stepR (z := 3) (callS 64 [.slice A l.length cap, .int .i64 (i : Int), .int .i64 ((i : Int) + 1)] (some 20) (fun (r : Option Addr × Nat) => .slice r.1 (l.take i ++ l.drop (i + 1)).length r.2) (fun (r : Option Addr × Nat) => (row slE 75 (.slice r.1 (l.take i ++ l.drop (i + 1)).length r.2) (l.take i ++ l.drop (i + 1)) :: blk b 90 [.slice A l.length cap, .int .i64 room] :: H)) (fun _ => by kernel_rfl) (del_walk (blk b 90 [.slice A l.length cap, .int .i64 room] :: H) (.slice A l.length cap) l i hil (by omega))) (fun (r : Option Addr × Nat) => ?_) : RT _ _ _ _ _ _ 4 _)
    refine (run0 (z := 1) 2 [20, 4, 22] [(20, .slice r.1 ((l.take i ++ l.drop (i + 1)).length) r.2), (4, .nilIface), (22, .pointer (some ⟨b, 0, none⟩))] (fun _ => by kernel_rfl) ?_ : RT _ _ _ _ _ _ 3 _)
    refine (RT.pick 1 rfl ?_ : RT _ _ _ (row slE 75 (.slice r.1 (l.take i ++ l.drop (i + 1)).length r.2) (l.take i ++ l.drop (i + 1)) :: blk b 90 [.slice A l.length cap, .int .i64 room] :: H) _ _ 1 _)
    refine (stepR (z := 0) (storeS [(0, .slice r.1 ((l.take i ++ l.drop (i + 1)).length) r.2)] [.slice r.1 ((l.take i ++ l.drop (i + 1)).length) r.2, .int .i64 room] (fun _ => by kernel_rfl) (by kernel_rfl) (by kernel_rfl)) (fun _ => ?_) : RT _ _ _ _ _ _ 1 _)
    refine endR ?_
    refine seqR (by kernel_rfl) ?_
    refine regionR 1 (by kernel_rfl) (by kernel_rfl) ?_
    refine (run0 (z := 0) 1 [4] [(4, .nilIface)] (fun _ => by kernel_rfl) (endR ?_) : RT _ _ _ _ _ _ 1 _)
    refine retR (by kernel_rfl) ?_
    refine done0 (.nilIface) (fun _ => by kernel_rfl) (fun w hs => ?_) .ret (.inr rfl)
    exact ⟨r, rfl, hs⟩
def rekeyE (l : List (Int × Int)) (id p : Int) : Int × List (Int × Int) := if isPassB p = false then (10, l) else if findI l id < 0 then (13, l) else (0, insE (p, id) (l.take (findI l id).toNat ++ l.drop ((findI l id).toNat + 1)))
theorem SrtE.drop {l : List (Int × Int)} (h : SrtE l) (id : Int) : SrtE (dropE l id).2 := by
  unfold dropE
  split
  · exact h
  · rw [← List.eraseIdx_eq_take_drop_succ]; exact h.sublist (List.eraseIdx_sublist _ _)
theorem dropE_len (l : List (Int × Int)) (id : Int) : (dropE l id).2.length ≤ l.length := by
  unfold dropE
  split
  · exact Nat.le_refl _
  · rw [← List.eraseIdx_eq_take_drop_succ]; exact (List.eraseIdx_sublist _ _).length_le
set_option maxRecDepth 100000 in
theorem rekey_walk (H : List SP) (b : Nat) (A : Option Addr) (cap : Nat) (room : Int) (l : List (Int × Int)) (id p : Int) (hsr : SrtE l) (hl : l.length < 1000000) : ∀ w, Sat w (blk b 90 [.slice A l.length cap, .int .i64 room] :: row slE 75 (.slice A l.length cap) l :: H) → Calls Tryz.prog 55 #[.pointer (some ⟨b, 0, none⟩), .int .i64 id, .int .i64 p] w (Ret (ι := Option Addr × Nat) (fun _ => pqErr (rekeyE l id p).1) fun x => blk b 90 [.slice x.1 (rekeyE l id p).2.length x.2, .int .i64 room] :: row slE 75 (.slice x.1 (rekeyE l id p).2.length x.2) (rekeyE l id p).2 :: H) := by
  refine enterG (fn := Tryz.f55) 23 [.pointer (some ⟨b, 0, none⟩), .int .i64 id, .int .i64 p] Tryz.func55 (by kernel_rfl) (by kernel_rfl) (by kernel_rfl) ?_
  refine seqR (by kernel_rfl) ?_
  refine regionR 1 (by kernel_rfl) (by kernel_rfl) ?_
  refine (run0 (z := 0) 1 [0, 1, 2, 6] [(0, .pointer (some ⟨b, 0, none⟩)), (1, .int .i64 id), (2, .int .i64 p), (6, .nilIface)] (fun _ => by kernel_rfl) (endR ?_) : RT _ _ _ _ _ _ 1 _)
  refine seqR (by kernel_rfl) ?_
  refine seqR (by kernel_rfl) ?_
  refine regionR 3 (by kernel_rfl) (by kernel_rfl) ?_
  refine (run0 (z := 2) 1 [0, 1, 2, 6, 8] [(0, .pointer (some ⟨b, 0, none⟩)), (1, .int .i64 id), (2, .int .i64 p), (6, .nilIface), (8, .int .i64 p)] (fun _ => by kernel_rfl) ?_ : RT _ _ _ _ _ _ 3 _)
  refine (stepR (z := 1) (callS 65 [.int .i64 p] (some 9) (fun _ => .bool (isPassB p)) (fun (_ : Unit) => (blk b 90 [.slice A l.length cap, .int .i64 room] :: row slE 75 (.slice A l.length cap) l :: H)) (fun _ => by kernel_rfl) (isPass_walk _ p)) (fun _ => ?_) : RT _ _ _ _ _ _ 2 _)
  refine (run0 (z := 0) 1 [0, 1, 2, 6, 10] [(0, .pointer (some ⟨b, 0, none⟩)), (1, .int .i64 id), (2, .int .i64 p), (6, .nilIface), (10, .bool (!(isPassB p)))] (fun _ => by kernel_rfl) (endR ?_) : RT _ _ _ _ _ _ 1 _)
  cases h1 : (isPassB p) with
  | true =>
    refine condR (b := false) (by kernel_rfl) (fun _ => by kernel_rfl) (fun h => by cases h) (fun _ => ?_)
    refine skipR (by kernel_rfl) ?_
    refine seqR (by kernel_rfl) ?_
    refine seqR (by kernel_rfl) ?_
    refine regionR 4 (by kernel_rfl) (by kernel_rfl) ?_
    refine (run0 (z := 2) 2 [0, 1, 2, 6, 12, 13] [(0, .pointer (some ⟨b, 0, none⟩)), (1, .int .i64 id), (2, .int .i64 p), (6, .nilIface), (12, .pointer (some ⟨b, 0, none⟩)), (13, .int .i64 id)] (fun _ => by kernel_rfl) ?_ : RT _ _ _ _ _ _ 4 _)
    refine (stepR (z := 1) (callS 50 [.pointer (some ⟨b, 0, none⟩), .int .i64 id] (some 14) (fun (r : Option Addr × Nat) => pqErr (dropE l id).1) (fun (r : Option Addr × Nat) => blk b 90 [.slice r.1 (dropE l id).2.length r.2, .int .i64 room] :: row slE 75 (.slice r.1 (dropE l id).2.length r.2) (dropE l id).2 :: H) (fun _ => by kernel_rfl) (drop_walk _ b A cap room l id hl)) (fun (r : Option Addr × Nat) => ?_) : RT _ _ _ _ _ _ 2 _)
    rcases Int.lt_or_le (findI l id) 0 with h2 | h2
    · rw [show dropE l id = (13, l) by rw [dropE, if_pos h2]]
      refine (run0 (z := 0) 1 [0, 1, 2, 6, 7] [(0, .pointer (some ⟨b, 0, none⟩)), (1, .int .i64 id), (2, .int .i64 p), (6, .nilIface), (7, .iface 52 (.int .i64 13))] (fun _ => by kernel_rfl) (endR ?_) : RT _ _ _ _ _ _ 1 _)
      refine seqR (by kernel_rfl) ?_
      refine regionR 2 (by kernel_rfl) (by kernel_rfl) ?_
      refine (run0 (z := 0) 2 [0, 1, 2, 6, 7, 16] [(0, .pointer (some ⟨b, 0, none⟩)), (1, .int .i64 id), (2, .int .i64 p), (6, .nilIface), (7, .iface 52 (.int .i64 13)), (16, .bool true)] (fun _ => by kernel_rfl) (endR ?_) : RT _ _ _ _ _ _ 2 _)
      refine condR (b := true) (by kernel_rfl) (fun _ => by kernel_rfl) (fun _ => ?_) (fun h => by cases h)
      refine seqR (by kernel_rfl) ?_
      refine regionR 2 (by kernel_rfl) (by kernel_rfl) ?_
      refine (run0 (z := 0) 2 [0, 1, 2, 6] [(0, .pointer (some ⟨b, 0, none⟩)), (1, .int .i64 id), (2, .int .i64 p), (6, .iface 52 (.int .i64 13))] (fun _ => by kernel_rfl) (endR ?_) : RT _ _ _ _ _ _ 2 _)
      refine retR (by kernel_rfl) ?_
      refine thenV ?_
      have hk2 : rekeyE l id p = (13, l) := by rw [rekeyE, if_neg (by rw [h1]; simp), if_pos h2]
      refine done0 (.iface 52 (.int .i64 13)) (fun _ => by kernel_rfl) (fun w hs => ?_) .ret (.inr rfl)
      rw [hk2]; exact ⟨r, rfl, hs⟩
    · skip
      have hd0 : (dropE l id).1 = 0 := by rw [dropE, if_neg (by omega)]
      have hk2 : rekeyE l id p = (0, insE (p, id) (dropE l id).2) := by rw [rekeyE, if_neg (by rw [h1]; simp), if_neg (by omega), dropE, if_neg (by omega)]
      rw [hd0]
      refine (run0 (z := 0) 1 [0, 1, 2, 6, 7] [(0, .pointer (some ⟨b, 0, none⟩)), (1, .int .i64 id), (2, .int .i64 p), (6, .nilIface), (7, .nilIface)] (fun _ => by kernel_rfl) (endR ?_) : RT _ _ _ _ _ _ 1 _)
      refine seqR (by kernel_rfl) ?_
      refine regionR 2 (by kernel_rfl) (by kernel_rfl) ?_
      refine (run0 (z := 0) 2 [0, 1, 2, 6, 7, 16] [(0, .pointer (some ⟨b, 0, none⟩)), (1, .int .i64 id), (2, .int .i64 p), (6, .nilIface), (7, .nilIface), (16, .bool false)] (fun _ => by kernel_rfl) (endR ?_) : RT _ _ _ _ _ _ 2 _)
      refine condR (b := false) (by kernel_rfl) (fun _ => by kernel_rfl) (fun h => by cases h) (fun _ => ?_)
      refine skipR (by kernel_rfl) ?_
      refine seqR (by kernel_rfl) ?_
      refine regionR 5 (by kernel_rfl) (by kernel_rfl) ?_
      refine (run0 (z := 1) 4 [6, 18, 21] [(6, .nilIface), (18, .pointer (some ⟨b, 0, none⟩)), (21, .agg #[.int .i64 p, .int .i64 id])] (fun _ => by kernel_rfl) ?_ : RT _ _ _ _ _ _ 5 _)
      refine (stepR (z := 0) (callS 66 [.pointer (some ⟨b, 0, none⟩), .agg #[.int .i64 p, .int .i64 id]] (some 22) (fun (q : Option Addr × Nat) => .tuple #[]) (fun (q : Option Addr × Nat) => blk b 90 [.slice q.1 (insE (p, id) (dropE l id).2).length q.2, .int .i64 room] :: row slE 75 (.slice q.1 (insE (p, id) (dropE l id).2).length q.2) (insE (p, id) (dropE l id).2) :: H) (fun _ => by kernel_rfl) (insert_walk _ b r.1 r.2 room (dropE l id).2 p id (hsr.drop id) (Nat.lt_of_le_of_lt (dropE_len l id) hl))) (fun (q : Option Addr × Nat) => ?_) : RT _ _ _ _ _ _ 1 _)
      refine endR ?_
      refine seqR (by kernel_rfl) ?_
      refine regionR 1 (by kernel_rfl) (by kernel_rfl) ?_
      refine (run0 (z := 0) 1 [6] [(6, .nilIface)] (fun _ => by kernel_rfl) (endR ?_) : RT _ _ _ _ _ _ 1 _)
      refine retR (by kernel_rfl) ?_
      refine done0 (.nilIface) (fun _ => by kernel_rfl) (fun w hs => ?_) .ret (.inr rfl)
      rw [hk2]; exact ⟨q, rfl, hs⟩
  | false =>
    refine condR (b := true) (by kernel_rfl) (fun _ => by kernel_rfl) (fun _ => ?_) (fun h => by cases h)
    refine seqR (by kernel_rfl) ?_
    refine regionR 2 (by kernel_rfl) (by kernel_rfl) ?_
    refine (run0 (z := 0) 2 [0, 1, 2, 6] [(0, .pointer (some ⟨b, 0, none⟩)), (1, .int .i64 id), (2, .int .i64 p), (6, .iface 52 (.int .i64 10))] (fun _ => by kernel_rfl) (endR ?_) : RT _ _ _ _ _ _ 2 _)
    refine retR (by kernel_rfl) ?_
    refine thenV ?_
    refine done0 (.iface 52 (.int .i64 10)) (fun _ => by kernel_rfl) (fun w hs => ?_) .ret (.inr rfl)
    rw [rekeyE, if_pos h1]; exact ⟨(A, cap), rfl, hs⟩
end Go.Proofs.YtjbjngikaiggdaaGreatDoor
set_option linter.unusedVariables false
set_option linter.unusedSimpArgs false
namespace Go.Proofs.YtjbjngikaiggdaaGreatDoor
open Go.RowKit G Go.Lib
theorem len8_big : ∀ n : Fin 65, 0 ≤ len8 (n.val : Int) ∧ len8 (n.val : Int) ≤ 7 ∧ (12 < n.val → len8 (n.val : Int) ≠ 0) := by decide +kernel
set_option maxHeartbeats 1000000 in
set_option maxRecDepth 100000 in
theorem len64_w (w : World) (n : Int) (h0 : 0 ≤ n) (h1 : n ≤ 64) : Calls Tryz.prog 87 #[.int .u64 n] w fun e w' => e = .returned (.int .i64 (len8 n)) ∧ w' = w := by
  have d1 : decide (n ≥ 4294967296) = false := decide_eq_false (by omega)
  have d2 : decide (n ≥ 65536) = false := decide_eq_false (by omega)
  have d3 : decide (n ≥ 256) = false := decide_eq_false (by omega)
  have hb := len8_big ⟨n.toNat, by omega⟩
  rw [show ((⟨n.toNat, by omega⟩ : Fin 65).val : Int) = n by show (n.toNat : Int) = n; omega] at hb
  go_enter Tryz.func87, Tryz.ntmps87
  have hlt : n < (len8tab.size : Int) := by rw [len8tab_size]; omega
  have hsz : n.toNat < len8tab.size := by omega
  have he : ((len8tab[n.toNat]).toNat : Int) = len8 n := by
    unfold len8
    rw [getElem?_pos len8tab n.toNat hsz]; rfl
  go_wp2
  go_ret
  exact ⟨rfl, rfl⟩
theorem len64_walk (H : List SP) (n : Int) (h0 : 0 ≤ n) (h1 : n ≤ 64) : ∀ w, Sat w H → Calls Tryz.prog 87 #[.int .u64 n] w (Ret (ι := Unit) (fun _ => .int .i64 (len8 n)) fun _ => H) := fun w hs =>
  (len64_w w n h0 h1).mono fun e w' ⟨he, hw⟩ => ⟨(), he, hw ▸ hs⟩
set_option maxRecDepth 100000 in
theorem bitsLen_walk (H : List SP) (n : Int) (h0 : 0 ≤ n) (h1 : n ≤ 64) : ∀ w, Sat w H → Calls Tryz.prog 71 #[.int .u64 n] w (Ret (ι := Unit) (fun _ => .int .i64 (len8 n)) fun _ => H) := by
  refine enterG (fn := Tryz.f71) 8 [.int .u64 n] Tryz.func71 (by kernel_rfl) (by kernel_rfl) (by kernel_rfl) ?_
  refine seqR (by kernel_rfl) ?_
  refine regionR 1 (by kernel_rfl) (by kernel_rfl) ?_
  refine (run0 (z := 0) 1 [0, 2] [(0, .int .u64 n), (2, .int .i64 0)] (fun _ => by kernel_rfl) (endR ?_) : RT _ _ _ _ _ _ 1 _)
  refine seqR (by kernel_rfl) ?_
  refine condR (b := false) (by kernel_rfl) (fun _ => by kernel_rfl) (fun h => by cases h) (fun _ => ?_)
  refine skipR (by kernel_rfl) ?_
  refine seqR (by kernel_rfl) ?_
  refine regionR 3 (by kernel_rfl) (by kernel_rfl) ?_
  refine (run0 (z := 2) 1 [2, 6] [(2, .int .i64 0), (6, .int .u64 n)] (fun _ => by kernel_rfl) ?_ : RT _ _ _ _ _ _ 3 _)
  refine (stepR (z := 1) (callS 87 [.int .u64 n] (some 7) (fun _ => .int .i64 (len8 n)) (fun _ => (H)) (fun _ => by kernel_rfl) (len64_walk _ n h0 h1)) (fun _ => ?_) : RT _ _ _ _ _ _ 2 _)
  refine (run0 (z := 0) 1 [2] [(2, .int .i64 (len8 n))] (fun _ => by kernel_rfl) (endR ?_) : RT _ _ _ _ _ _ 1 _)
  refine retR (by kernel_rfl) ?_
  refine done0 (.int .i64 (len8 n)) (fun _ => by kernel_rfl) (fun w hs => ?_) .ret (.inr rfl)
  exact ⟨(), rfl, hs⟩
end Go.Proofs.YtjbjngikaiggdaaGreatDoor
set_option linter.unusedVariables false
set_option linter.unusedSimpArgs false
namespace Go.Proofs.YtjbjngikaiggdaaGreatDoor
open Go.RowKit G Go.Lib
theorem SrtE.not {l : List (Int × Int)} (h : SrtE l) {u v : Nat} {x y : Int × Int} (hu : l[u]? = some x) (hv : l[v]? = some y) (huv : u < v) : decide (byI (y.1, y.2) (x.1, x.2) < 0) = false :=
  decide_eq_false fun hl => eLt_irrefl x (eLt_trans (h.at hu hv huv) ((byI_lt y x).1 hl))
set_option maxRecDepth 100000 in
theorem order2_walk (H : List SP) (s : SV (Int × Int)) (hk : KR H slE s) (hsr : SrtE s.l) (u v : Nat) (huv : u < v) (hv : v < s.l.length) (q : Value) : ∀ w, Sat w H → Calls Tryz.prog 110 #[.slice s.a s.l.length s.c, .int .i64 (u : Int), .int .i64 (v : Int), q, .func (.func 68) #[] #[]] w (Ret (ι := Unit) (fun _ => .tuple #[.int .i64 (u : Int), .int .i64 (v : Int)]) fun _ => H) := by
  obtain ⟨x, hx⟩ : ∃ x, s.l[u]? = some x := ⟨s.l[u]'(by omega), by simp⟩
  obtain ⟨y, hy⟩ : ∃ y, s.l[v]? = some y := ⟨s.l[v]'(by omega), by simp⟩
  refine enterG (fn := Tryz.f110) 32 [.slice s.a s.l.length s.c, .int .i64 (u : Int), .int .i64 (v : Int), q, .func (.func 68) #[] #[]] Tryz.func110 (by kernel_rfl) (by kernel_rfl) (by kernel_rfl) ?_
  refine PT.know ((hk).isSome (List.ne_nil_of_length_pos (by omega))) ?_
  rintro ⟨sb, so, hA⟩
  try rw [hA]
  refine seqR (by kernel_rfl) ?_
  refine regionR 2 (by kernel_rfl) (by kernel_rfl) ?_
  refine (run0 (z := 0) 2 [0, 1, 2, 3, 4, 10, 11] [(0, .slice (some ⟨sb, so, none⟩) s.l.length s.c), (1, .int .i64 (u : Int)), (2, .int .i64 (v : Int)), (3, q), (4, .func (.func 68) #[] #[]), (10, .int .i64 0), (11, .int .i64 0)] (fun _ => by kernel_rfl) (endR ?_) : RT _ _ _ _ _ _ 2 _)
  refine seqR (by kernel_rfl) ?_
  refine seqR (by kernel_rfl) ?_
  refine drawR (fun w => Sat w (H)) [] 11 (by kernel_rfl) (by kernel_rfl) (by kernel_rfl) (fun _ h => by first | exact h | exact h.tail | exact h.tail.tail | exact h.tail.tail.tail | exact h.tail.tail.tail.tail) ?_
  refine takesR [0, 1, 2, 5, 6] [1, 2, 3, 10, 11, 12, 13, 14, 17, 18] 6 [true, true, true, false, false, true, true, false, false, false, false] [(1, .int .i64 (u : Int)), (2, .int .i64 (v : Int)), (3, q), (10, .int .i64 0), (11, .int .i64 0), (12, .func (.func 68) #[] #[]), (13, .slice (some ⟨sb, so, none⟩) s.l.length s.c), (14, .int .i64 (v : Int)), (17, .slice (some ⟨sb, so, none⟩) s.l.length s.c), (18, .int .i64 (u : Int))] [] rfl (fun _ d _ _ _ h => by cases d <;> exact h) (fun _ h => by first | exact h | exact h.tail | exact h.tail.tail | exact h.tail.tail.tail | exact h.tail.tail.tail.tail) has0 (fun _ => by kernel_rfl) ?_
  refine takeR1 3 5 [true, true, true, true, false, true, true, false, false, false, false] rfl rfl (by kernel_rfl) (fun _ d _ _ _ h => by cases d <;> exact h) (fun _ h => by first | exact h | exact h.tail | exact h.tail.tail | exact h.tail.tail.tail | exact h.tail.tail.tail.tail) (idxY 88 (.tmp 13) (.tmp 14) sb so s.l.length s.c v 2 75 (v : Int) .i64 (some 15) (fun _ => by kernel_rfl) (by kernel_rfl) (by kernel_rfl) (fun _ => by kernel_rfl) (fun _ => by kernel_rfl) Tryz.underlying88 (by kernel_rfl) (by first | rfl | assumption | simp) (by first | omega | (simp; done) | (simp; omega) | (simp at *; omega))) ?_
  refine takesR [4] [1, 2, 3, 10, 11, 12, 17, 18, 16] 4 [true, true, true, true, true, true, true, false, false, false, false] [(1, .int .i64 (u : Int)), (2, .int .i64 (v : Int)), (3, q), (10, .int .i64 0), (11, .int .i64 0), (12, .func (.func 68) #[] #[]), (17, .slice (some ⟨sb, so, none⟩) s.l.length s.c), (18, .int .i64 (u : Int)), (16, .agg #[.int .i64 y.1, .int .i64 y.2])] [(⟨sb, so + v * 2, none⟩, .int .i64 y.1), (⟨sb, so + v * 2 + 1, none⟩, .int .i64 y.2)] rfl (fun _ d _ _ _ h => by cases d <;> exact h) (fun _ h => by first | exact h | exact h.tail | exact h.tail.tail | exact h.tail.tail.tail | exact h.tail.tail.tail.tail) (hasC (hk.cell hA (i := v) (x := y) hy (j := 0) rfl) (hasC (hk.cell hA (i := v) (x := y) hy (j := 1) rfl) has0)) (fun _ => by kernel_rfl) ?_
  refine takeR1 7 3 [true, true, true, true, true, true, true, true, false, false, false] rfl rfl (by kernel_rfl) (fun _ d _ _ _ h => by cases d <;> exact h) (fun _ h => by first | exact h | exact h.tail | exact h.tail.tail | exact h.tail.tail.tail | exact h.tail.tail.tail.tail) (idxY 88 (.tmp 17) (.tmp 18) sb so s.l.length s.c u 2 75 (u : Int) .i64 (some 19) (fun _ => by kernel_rfl) (by kernel_rfl) (by kernel_rfl) (fun _ => by kernel_rfl) (fun _ => by kernel_rfl) Tryz.underlying88 (by kernel_rfl) (by first | rfl | assumption | simp) (by first | omega | (simp; done) | (simp; omega) | (simp at *; omega))) ?_
  refine takesR [8] [1, 2, 3, 10, 11, 12, 16, 20] 2 [true, true, true, true, true, true, true, true, true, false, false] [(1, .int .i64 (u : Int)), (2, .int .i64 (v : Int)), (3, q), (10, .int .i64 0), (11, .int .i64 0), (12, .func (.func 68) #[] #[]), (16, .agg #[.int .i64 y.1, .int .i64 y.2]), (20, .agg #[.int .i64 x.1, .int .i64 x.2])] [(⟨sb, so + u * 2, none⟩, .int .i64 x.1), (⟨sb, so + u * 2 + 1, none⟩, .int .i64 x.2)] rfl (fun _ d _ _ _ h => by cases d <;> exact h) (fun _ h => by first | exact h | exact h.tail | exact h.tail.tail | exact h.tail.tail.tail | exact h.tail.tail.tail.tail) (hasC (hk.cell hA (i := u) (x := x) hx (j := 0) rfl) (hasC (hk.cell hA (i := u) (x := x) hx (j := 1) rfl) has0)) (fun _ => by kernel_rfl) ?_
  refine oneR 9 1 [true, true, true, true, true, true, true, true, true, true, false] rfl rfl (by kernel_rfl) (callS 68 [.agg #[.int .i64 y.1, .int .i64 y.2], .agg #[.int .i64 x.1, .int .i64 x.2]] (some 21) (fun _ => .int .i64 (byI (y.1, y.2) (x.1, x.2))) (fun (_ : Unit) => (H)) (fun _ => by kernel_rfl) (by_walk _ y.1 y.2 x.1 x.2)) (fun _ _ h hn => by first | exact h | exact h.tail | exact h.tail.tail | exact h.tail.tail.tail | exact h.tail.tail.tail.tail | exact absurd hn (by decide)) (fun _ => ?_)
  refine takesR [10] [1, 2, 3, 10, 11, 22] 0 [true, true, true, true, true, true, true, true, true, true, true] [(1, .int .i64 (u : Int)), (2, .int .i64 (v : Int)), (3, q), (10, .int .i64 0), (11, .int .i64 0), (22, .bool (decide ((byI (y.1, y.2) (x.1, x.2)) < 0)))] [] rfl (fun _ d _ _ _ h => by cases d <;> exact h) (fun _ h => by first | exact h | exact h.tail | exact h.tail.tail | exact h.tail.tail.tail | exact h.tail.tail.tail.tail) has0 (fun _ => by kernel_rfl) ?_
  refine drawnR (by kernel_rfl) ?_
  rw [hsr.not hx hy huv]
  refine condR (b := false) (by kernel_rfl) (fun _ => by kernel_rfl) (fun h => by cases h) (fun _ => ?_)
  refine skipR (by kernel_rfl) ?_
  refine seqR (by kernel_rfl) ?_
  refine regionR 4 (by kernel_rfl) (by kernel_rfl) ?_
  refine (run0 (z := 0) 4 [10, 11] [(10, .int .i64 (u : Int)), (11, .int .i64 (v : Int))] (fun _ => by kernel_rfl) (endR ?_) : RT _ _ _ _ _ _ 4 _)
  refine retR (by kernel_rfl) ?_
  refine done0 (.tuple #[.int .i64 (u : Int), .int .i64 (v : Int)]) (fun _ => by kernel_rfl) (fun w hs => ?_) .ret (.inr rfl)
  exact ⟨(), rfl, hs⟩
set_option maxRecDepth 100000 in
theorem median_walk (H : List SP) (s : SV (Int × Int)) (hk : KR H slE s) (hsr : SrtE s.l) (u v t : Nat) (huv : u < v) (hvt : v < t) (ht : t < s.l.length) (q : Value) : ∀ w, Sat w H → Calls Tryz.prog 107 #[.slice s.a s.l.length s.c, .int .i64 (u : Int), .int .i64 (v : Int), .int .i64 (t : Int), q, .func (.func 68) #[] #[]] w (Ret (ι := Unit) (fun _ => .int .i64 (v : Int)) fun _ => H) := by
  refine enterG (fn := Tryz.f107) 41 [.slice s.a s.l.length s.c, .int .i64 (u : Int), .int .i64 (v : Int), .int .i64 (t : Int), q, .func (.func 68) #[] #[]] Tryz.func107 (by kernel_rfl) (by kernel_rfl) (by kernel_rfl) ?_
  refine seqR (by kernel_rfl) ?_
  refine regionR 1 (by kernel_rfl) (by kernel_rfl) ?_
  refine (run0 (z := 0) 1 [0, 1, 2, 3, 4, 5, 12] [(0, .slice s.a s.l.length s.c), (1, .int .i64 (u : Int)), (2, .int .i64 (v : Int)), (3, .int .i64 (t : Int)), (4, q), (5, .func (.func 68) #[] #[]), (12, .int .i64 0)] (fun _ => by kernel_rfl) (endR ?_) : RT _ _ _ _ _ _ 1 _)
  refine seqR (by kernel_rfl) ?_
  refine regionR 11 (by kernel_rfl) (by kernel_rfl) ?_
  refine (run0 (z := 6) 5 [0, 1, 2, 3, 4, 5, 12, 14, 15, 16, 17, 18] [(0, .slice s.a s.l.length s.c), (1, .int .i64 (u : Int)), (2, .int .i64 (v : Int)), (3, .int .i64 (t : Int)), (4, q), (5, .func (.func 68) #[] #[]), (12, .int .i64 0), (14, .slice s.a s.l.length s.c), (15, .int .i64 (u : Int)), (16, .int .i64 (v : Int)), (17, q), (18, .func (.func 68) #[] #[])] (fun _ => by kernel_rfl) ?_ : RT _ _ _ _ _ _ 11 _)
  refine (stepR (z := 5) (callS 110 [.slice s.a s.l.length s.c, .int .i64 (u : Int), .int .i64 (v : Int), q, .func (.func 68) #[] #[]] (some 19) (fun _ => .tuple #[.int .i64 (u : Int), .int .i64 (v : Int)]) (fun _ => (H)) (fun _ => by kernel_rfl) (order2_walk _ s hk hsr u v huv (by omega) q)) (fun _ => ?_) : RT _ _ _ _ _ _ 6 _)
  refine (run0 (z := 0) 5 [0, 1, 2, 3, 4, 5, 12] [(0, .slice s.a s.l.length s.c), (1, .int .i64 (u : Int)), (2, .int .i64 (v : Int)), (3, .int .i64 (t : Int)), (4, q), (5, .func (.func 68) #[] #[]), (12, .int .i64 0)] (fun _ => by kernel_rfl) (endR ?_) : RT _ _ _ _ _ _ 5 _)
  refine seqR (by kernel_rfl) ?_
  refine regionR 11 (by kernel_rfl) (by kernel_rfl) ?_
  refine (run0 (z := 6) 5 [0, 1, 2, 4, 5, 12, 23, 24, 25, 26, 27] [(0, .slice s.a s.l.length s.c), (1, .int .i64 (u : Int)), (2, .int .i64 (v : Int)), (4, q), (5, .func (.func 68) #[] #[]), (12, .int .i64 0), (23, .slice s.a s.l.length s.c), (24, .int .i64 (v : Int)), (25, .int .i64 (t : Int)), (26, q), (27, .func (.func 68) #[] #[])] (fun _ => by kernel_rfl) ?_ : RT _ _ _ _ _ _ 11 _)
  refine (stepR (z := 5) (callS 110 [.slice s.a s.l.length s.c, .int .i64 (v : Int), .int .i64 (t : Int), q, .func (.func 68) #[] #[]] (some 28) (fun _ => .tuple #[.int .i64 (v : Int), .int .i64 (t : Int)]) (fun _ => (H)) (fun _ => by kernel_rfl) (order2_walk _ s hk hsr v t hvt ht q)) (fun _ => ?_) : RT _ _ _ _ _ _ 6 _)
  refine (run0 (z := 0) 5 [0, 1, 2, 4, 5, 12] [(0, .slice s.a s.l.length s.c), (1, .int .i64 (u : Int)), (2, .int .i64 (v : Int)), (4, q), (5, .func (.func 68) #[] #[]), (12, .int .i64 0)] (fun _ => by kernel_rfl) (endR ?_) : RT _ _ _ _ _ _ 5 _)
  refine seqR (by kernel_rfl) ?_
  refine regionR 11 (by kernel_rfl) (by kernel_rfl) ?_
  refine (run0 (z := 6) 5 [2, 12, 32, 33, 34, 35, 36] [(2, .int .i64 (v : Int)), (12, .int .i64 0), (32, .slice s.a s.l.length s.c), (33, .int .i64 (u : Int)), (34, .int .i64 (v : Int)), (35, q), (36, .func (.func 68) #[] #[])] (fun _ => by kernel_rfl) ?_ : RT _ _ _ _ _ _ 11 _)
  refine (stepR (z := 5) (callS 110 [.slice s.a s.l.length s.c, .int .i64 (u : Int), .int .i64 (v : Int), q, .func (.func 68) #[] #[]] (some 37) (fun _ => .tuple #[.int .i64 (u : Int), .int .i64 (v : Int)]) (fun _ => (H)) (fun _ => by kernel_rfl) (order2_walk _ s hk hsr u v huv (by omega) q)) (fun _ => ?_) : RT _ _ _ _ _ _ 6 _)
  refine (run0 (z := 0) 5 [2, 12] [(2, .int .i64 (v : Int)), (12, .int .i64 0)] (fun _ => by kernel_rfl) (endR ?_) : RT _ _ _ _ _ _ 5 _)
  refine seqR (by kernel_rfl) ?_
  refine regionR 2 (by kernel_rfl) (by kernel_rfl) ?_
  refine (run0 (z := 0) 2 [12] [(12, .int .i64 (v : Int))] (fun _ => by kernel_rfl) (endR ?_) : RT _ _ _ _ _ _ 2 _)
  refine retR (by kernel_rfl) ?_
  refine done0 (.int .i64 (v : Int)) (fun _ => by kernel_rfl) (fun w hs => ?_) .ret (.inr rfl)
  exact ⟨(), rfl, hs⟩
set_option maxRecDepth 100000 in
theorem medianAdj_walk (H : List SP) (s : SV (Int × Int)) (hk : KR H slE s) (hsr : SrtE s.l) (v : Nat) (hv0 : 0 < v) (hv : v + 1 < s.l.length) (hl : s.l.length < 1000000) (q : Value) : ∀ w, Sat w H → Calls Tryz.prog 106 #[.slice s.a s.l.length s.c, .int .i64 (v : Int), q, .func (.func 68) #[] #[]] w (Ret (ι := Unit) (fun _ => .int .i64 (v : Int)) fun _ => H) := by
  refine enterG (fn := Tryz.f106) 18 [.slice s.a s.l.length s.c, .int .i64 (v : Int), q, .func (.func 68) #[] #[]] Tryz.func106 (by kernel_rfl) (by kernel_rfl) (by kernel_rfl) ?_
  refine seqR (by kernel_rfl) ?_
  refine regionR 1 (by kernel_rfl) (by kernel_rfl) ?_
  refine (run0 (z := 0) 1 [0, 1, 2, 3, 8] [(0, .slice s.a s.l.length s.c), (1, .int .i64 (v : Int)), (2, q), (3, .func (.func 68) #[] #[]), (8, .int .i64 0)] (fun _ => by kernel_rfl) (endR ?_) : RT _ _ _ _ _ _ 1 _)
  refine seqR (by kernel_rfl) ?_
  refine regionR 10 (by kernel_rfl) (by kernel_rfl) ?_
  refine (run0 (z := 2) 8 [8, 9, 11, 12, 14, 15, 16] [(8, .int .i64 0), (9, .slice s.a s.l.length s.c), (11, .int .i64 (IntKind.i64.wrap ((v : Int) - 1))), (12, .int .i64 (v : Int)), (14, .int .i64 (IntKind.i64.wrap ((v : Int) + 1))), (15, q), (16, .func (.func 68) #[] #[])] (fun _ => by kernel_rfl) ?_ : RT _ _ _ _ _ _ 10 _)
  rw [show IntKind.i64.wrap ((v : Int) - 1) = ((v - 1 : Nat) : Int) by rw [IntKind.wrap_i64]; omega, show IntKind.i64.wrap ((v : Int) + 1) = ((v + 1 : Nat) : Int) by rw [IntKind.wrap_i64]; omega]
  refine (stepR (z := 1) (callS 107 [.slice s.a s.l.length s.c, .int .i64 ((v - 1 : Nat) : Int), .int .i64 (v : Int), .int .i64 ((v + 1 : Nat) : Int), q, .func (.func 68) #[] #[]] (some 17) (fun _ => .int .i64 (v : Int)) (fun _ => (H)) (fun _ => by kernel_rfl) (median_walk _ s hk hsr (v - 1) v (v + 1) (by omega) (by omega) hv q)) (fun _ => ?_) : RT _ _ _ _ _ _ 2 _)
  refine (run0 (z := 0) 1 [8] [(8, .int .i64 (v : Int))] (fun _ => by kernel_rfl) (endR ?_) : RT _ _ _ _ _ _ 1 _)
  refine retR (by kernel_rfl) ?_
  refine done0 (.int .i64 (v : Int)) (fun _ => by kernel_rfl) (fun w hs => ?_) .ret (.inr rfl)
  exact ⟨(), rfl, hs⟩
theorem quart {n : Nat} (hn : n ≤ 1000) : IntKind.i64.wrap (Int.tdiv (n : Int) 4) = ((n / 4 : Nat) : Int) := by rw [Int.tdiv_eq_ediv_of_nonneg (by omega), IntKind.wrap_i64]; omega
set_option maxHeartbeats 1000000 in
set_option maxRecDepth 100000 in
theorem pivot_walk (H : List SP) (s : SV (Int × Int)) (hk : KR H slE s) (hsr : SrtE s.l) (hl : s.l.length ≤ 64) (hl2 : 12 < s.l.length) : ∀ w, Sat w H → Calls Tryz.prog 93 #[.slice s.a s.l.length s.c, .int .i64 0, .int .i64 (s.l.length : Int), .func (.func 68) #[] #[]] w (Ret (ι := Unit) (fun _ => .tuple #[.int .i64 ((s.l.length / 4 * 2 : Nat) : Int), .int .i64 1]) fun _ => H) := by
  obtain ⟨n, hn⟩ : ∃ n, n = s.l.length := ⟨_, rfl⟩
  have hq := quart (n := n) (by omega)
  obtain ⟨m, hm⟩ : ∃ m, m = n / 4 := ⟨_, rfl⟩
  refine enterG (fn := Tryz.f93) 63 [.slice s.a s.l.length s.c, .int .i64 0, .int .i64 (s.l.length : Int), .func (.func 68) #[] #[]] Tryz.func93 (by kernel_rfl) (by kernel_rfl) (by kernel_rfl) ?_
  refine seqR (by kernel_rfl) ?_
  refine regionR 2 (by kernel_rfl) (by kernel_rfl) ?_
  refine (run0 (z := 0) 2 [0, 1, 2, 3, 8, 9] [(0, .slice s.a s.l.length s.c), (1, .int .i64 0), (2, .int .i64 (s.l.length : Int)), (3, .func (.func 68) #[] #[]), (8, .int .i64 0), (9, .int .i64 0)] (fun _ => by kernel_rfl) (endR ?_) : RT _ _ _ _ _ _ 2 _)
  refine seqR (by kernel_rfl) ?_
  refine regionR 4 (by kernel_rfl) (by kernel_rfl) ?_
  refine (run0 (z := 0) 4 [0, 1, 3, 8, 9, 10] [(0, .slice s.a s.l.length s.c), (1, .int .i64 0), (3, .func (.func 68) #[] #[]), (8, .int .i64 0), (9, .int .i64 0), (10, .int .i64 (IntKind.i64.wrap ((s.l.length : Int) - 0)))] (fun _ => by kernel_rfl) (endR ?_) : RT _ _ _ _ _ _ 4 _)
  refine seqR (by kernel_rfl) ?_
  refine regionR 1 (by kernel_rfl) (by kernel_rfl) ?_
  refine (stepR (z := 0) (newS 3 [.int .i64 0] (some 11) (fun b => .pointer (some ⟨b, 0, none⟩)) (fun _ _ => by kernel_rfl)) (fun b1 => ?_) : RT _ _ _ _ _ _ 1 _)
  refine endR ?_
  refine seqR (by kernel_rfl) ?_
  refine regionR 6 (by kernel_rfl) (by kernel_rfl) ?_
  refine (run0 (z := 0) 6 [11, 0, 1, 3, 8, 9, 10, 12] [(11, .pointer (some ⟨b1, 0, none⟩)), (0, .slice s.a s.l.length s.c), (1, .int .i64 0), (3, .func (.func 68) #[] #[]), (8, .int .i64 0), (9, .int .i64 0), (10, .int .i64 (IntKind.i64.wrap ((s.l.length : Int) - 0))), (12, .int .i64 (IntKind.i64.wrap (0 + (IntKind.i64.wrap ((IntKind.i64.wrap (Int.tdiv (IntKind.i64.wrap ((s.l.length : Int) - 0)) 4)) * 1)))))] (fun _ => by kernel_rfl) (endR ?_) : RT _ _ _ _ _ _ 6 _)
  refine seqR (by kernel_rfl) ?_
  refine regionR 6 (by kernel_rfl) (by kernel_rfl) ?_
  refine (run0 (z := 0) 6 [11, 0, 1, 3, 8, 9, 10, 12, 13] [(11, .pointer (some ⟨b1, 0, none⟩)), (0, .slice s.a s.l.length s.c), (1, .int .i64 0), (3, .func (.func 68) #[] #[]), (8, .int .i64 0), (9, .int .i64 0), (10, .int .i64 (IntKind.i64.wrap ((s.l.length : Int) - 0))), (12, .int .i64 (IntKind.i64.wrap (0 + (IntKind.i64.wrap ((IntKind.i64.wrap (Int.tdiv (IntKind.i64.wrap ((s.l.length : Int) - 0)) 4)) * 1))))), (13, .int .i64 (IntKind.i64.wrap (0 + (IntKind.i64.wrap ((IntKind.i64.wrap (Int.tdiv (IntKind.i64.wrap ((s.l.length : Int) - 0)) 4)) * 2)))))] (fun _ => by kernel_rfl) (endR ?_) : RT _ _ _ _ _ _ 6 _)
  refine seqR (by kernel_rfl) ?_
  refine regionR 6 (by kernel_rfl) (by kernel_rfl) ?_
  refine (run0 (z := 0) 6 [11, 0, 3, 8, 9, 10, 12, 13, 14] [(11, .pointer (some ⟨b1, 0, none⟩)), (0, .slice s.a s.l.length s.c), (3, .func (.func 68) #[] #[]), (8, .int .i64 0), (9, .int .i64 0), (10, .int .i64 (IntKind.i64.wrap ((s.l.length : Int) - 0))), (12, .int .i64 (IntKind.i64.wrap (0 + (IntKind.i64.wrap ((IntKind.i64.wrap (Int.tdiv (IntKind.i64.wrap ((s.l.length : Int) - 0)) 4)) * 1))))), (13, .int .i64 (IntKind.i64.wrap (0 + (IntKind.i64.wrap ((IntKind.i64.wrap (Int.tdiv (IntKind.i64.wrap ((s.l.length : Int) - 0)) 4)) * 2))))), (14, .int .i64 (IntKind.i64.wrap (0 + (IntKind.i64.wrap ((IntKind.i64.wrap (Int.tdiv (IntKind.i64.wrap ((s.l.length : Int) - 0)) 4)) * 3)))))] (fun _ => by kernel_rfl) (endR ?_) : RT _ _ _ _ _ _ 6 _)
  refine seqR (by kernel_rfl) ?_
  refine seqR (by kernel_rfl) ?_
  refine regionR 2 (by kernel_rfl) (by kernel_rfl) ?_
  refine (run0 (z := 0) 2 [11, 0, 3, 8, 9, 10, 12, 13, 14, 34] [(11, .pointer (some ⟨b1, 0, none⟩)), (0, .slice s.a s.l.length s.c), (3, .func (.func 68) #[] #[]), (8, .int .i64 0), (9, .int .i64 0), (10, .int .i64 (IntKind.i64.wrap ((s.l.length : Int) - 0))), (12, .int .i64 (IntKind.i64.wrap (0 + (IntKind.i64.wrap ((IntKind.i64.wrap (Int.tdiv (IntKind.i64.wrap ((s.l.length : Int) - 0)) 4)) * 1))))), (13, .int .i64 (IntKind.i64.wrap (0 + (IntKind.i64.wrap ((IntKind.i64.wrap (Int.tdiv (IntKind.i64.wrap ((s.l.length : Int) - 0)) 4)) * 2))))), (14, .int .i64 (IntKind.i64.wrap (0 + (IntKind.i64.wrap ((IntKind.i64.wrap (Int.tdiv (IntKind.i64.wrap ((s.l.length : Int) - 0)) 4)) * 3))))), (34, .bool (decide ((IntKind.i64.wrap ((s.l.length : Int) - 0)) ≥ 8)))] (fun _ => by kernel_rfl) (endR ?_) : RT _ _ _ _ _ _ 2 _)
  rw [show IntKind.i64.wrap ((s.l.length : Int) - 0) = (s.l.length : Int) by rw [IntKind.wrap_i64]; omega, ← hn, hq, ← hm]
  rw [show IntKind.i64.wrap (0 + IntKind.i64.wrap ((m : Int) * 1)) = (m : Int) by rw [IntKind.wrap_i64, IntKind.wrap_i64]; omega, show IntKind.i64.wrap (0 + IntKind.i64.wrap ((m : Int) * 2)) = ((m * 2 : Nat) : Int) by rw [IntKind.wrap_i64, IntKind.wrap_i64]; omega, show IntKind.i64.wrap (0 + IntKind.i64.wrap ((m : Int) * 3)) = ((m * 3 : Nat) : Int) by rw [IntKind.wrap_i64, IntKind.wrap_i64]; omega]
  rw [hn]
  rw [show decide ((s.l.length : Int) ≥ 8) = true from decide_eq_true (by omega)]
  refine condR (b := true) (by kernel_rfl) (fun _ => by kernel_rfl) (fun _ => ?_) (fun h => by cases h)
  refine seqR (by kernel_rfl) ?_
  refine seqR (by kernel_rfl) ?_
  refine regionR 2 (by kernel_rfl) (by kernel_rfl) ?_
  refine (run0 (z := 0) 2 [11, 0, 3, 8, 9, 12, 13, 14, 36] [(11, .pointer (some ⟨b1, 0, none⟩)), (0, .slice s.a s.l.length s.c), (3, .func (.func 68) #[] #[]), (8, .int .i64 0), (9, .int .i64 0), (12, .int .i64 (m : Int)), (13, .int .i64 ((m * 2 : Nat) : Int)), (14, .int .i64 ((m * 3 : Nat) : Int)), (36, .bool (decide ((s.l.length : Int) ≥ 50)))] (fun _ => by kernel_rfl) (endR ?_) : RT _ _ _ _ _ _ 2 _)
  refine condR (b := decide ((s.l.length : Int) ≥ 50)) (by kernel_rfl) (fun _ => by kernel_rfl) (fun h1 => ?_) (fun h1 => ?_)
  · skip
    have h1' : 50 ≤ s.l.length := by have := of_decide_eq_true h1; omega
    refine seqR (by kernel_rfl) ?_
    refine regionR 5 (by kernel_rfl) (by kernel_rfl) ?_
    refine (run0 (z := 2) 3 [11, 0, 3, 8, 9, 12, 13, 14, 37, 38, 39] [(11, .pointer (some ⟨b1, 0, none⟩)), (0, .slice s.a s.l.length s.c), (3, .func (.func 68) #[] #[]), (8, .int .i64 0), (9, .int .i64 0), (12, .int .i64 (m : Int)), (13, .int .i64 ((m * 2 : Nat) : Int)), (14, .int .i64 ((m * 3 : Nat) : Int)), (37, .slice s.a s.l.length s.c), (38, .int .i64 (m : Int)), (39, .func (.func 68) #[] #[])] (fun _ => by kernel_rfl) ?_ : RT _ _ _ _ _ _ 5 _)
    refine (stepR (z := 1) (callS 106 [.slice s.a s.l.length s.c, .int .i64 (m : Int), .pointer (some ⟨b1, 0, none⟩), .func (.func 68) #[] #[]] (some 40) (fun _ => .int .i64 (m : Int)) (fun _ => (blk b1 3 [.int .i64 0] :: H)) (fun _ => by kernel_rfl) (medianAdj_walk _ s hk.up hsr m (by omega) (by omega) (by omega) (.pointer (some ⟨b1, 0, none⟩)))) (fun _ => ?_) : RT _ _ _ _ _ _ 2 _)
    refine (run0 (z := 0) 1 [11, 0, 3, 8, 9, 12, 13, 14] [(11, .pointer (some ⟨b1, 0, none⟩)), (0, .slice s.a s.l.length s.c), (3, .func (.func 68) #[] #[]), (8, .int .i64 0), (9, .int .i64 0), (12, .int .i64 (m : Int)), (13, .int .i64 ((m * 2 : Nat) : Int)), (14, .int .i64 ((m * 3 : Nat) : Int))] (fun _ => by kernel_rfl) (endR ?_) : RT _ _ _ _ _ _ 1 _)
    refine seqR (by kernel_rfl) ?_
    refine regionR 5 (by kernel_rfl) (by kernel_rfl) ?_
    refine (run0 (z := 2) 3 [11, 0, 3, 8, 9, 12, 13, 14, 41, 42, 43] [(11, .pointer (some ⟨b1, 0, none⟩)), (0, .slice s.a s.l.length s.c), (3, .func (.func 68) #[] #[]), (8, .int .i64 0), (9, .int .i64 0), (12, .int .i64 (m : Int)), (13, .int .i64 ((m * 2 : Nat) : Int)), (14, .int .i64 ((m * 3 : Nat) : Int)), (41, .slice s.a s.l.length s.c), (42, .int .i64 ((m * 2 : Nat) : Int)), (43, .func (.func 68) #[] #[])] (fun _ => by kernel_rfl) ?_ : RT _ _ _ _ _ _ 5 _)
    refine (stepR (z := 1) (callS 106 [.slice s.a s.l.length s.c, .int .i64 ((m * 2 : Nat) : Int), .pointer (some ⟨b1, 0, none⟩), .func (.func 68) #[] #[]] (some 44) (fun _ => .int .i64 ((m * 2 : Nat) : Int)) (fun _ => (blk b1 3 [.int .i64 0] :: H)) (fun _ => by kernel_rfl) (medianAdj_walk _ s hk.up hsr (m * 2) (by omega) (by omega) (by omega) (.pointer (some ⟨b1, 0, none⟩)))) (fun _ => ?_) : RT _ _ _ _ _ _ 2 _)
    refine (run0 (z := 0) 1 [11, 0, 3, 8, 9, 12, 13, 14] [(11, .pointer (some ⟨b1, 0, none⟩)), (0, .slice s.a s.l.length s.c), (3, .func (.func 68) #[] #[]), (8, .int .i64 0), (9, .int .i64 0), (12, .int .i64 (m : Int)), (13, .int .i64 ((m * 2 : Nat) : Int)), (14, .int .i64 ((m * 3 : Nat) : Int))] (fun _ => by kernel_rfl) (endR ?_) : RT _ _ _ _ _ _ 1 _)
    refine regionR 5 (by kernel_rfl) (by kernel_rfl) ?_
    refine (run0 (z := 2) 3 [11, 0, 3, 8, 9, 12, 13, 14, 45, 46, 47] [(11, .pointer (some ⟨b1, 0, none⟩)), (0, .slice s.a s.l.length s.c), (3, .func (.func 68) #[] #[]), (8, .int .i64 0), (9, .int .i64 0), (12, .int .i64 (m : Int)), (13, .int .i64 ((m * 2 : Nat) : Int)), (14, .int .i64 ((m * 3 : Nat) : Int)), (45, .slice s.a s.l.length s.c), (46, .int .i64 ((m * 3 : Nat) : Int)), (47, .func (.func 68) #[] #[])] (fun _ => by kernel_rfl) ?_ : RT _ _ _ _ _ _ 5 _)
    refine (stepR (z := 1) (callS 106 [.slice s.a s.l.length s.c, .int .i64 ((m * 3 : Nat) : Int), .pointer (some ⟨b1, 0, none⟩), .func (.func 68) #[] #[]] (some 48) (fun _ => .int .i64 ((m * 3 : Nat) : Int)) (fun _ => (blk b1 3 [.int .i64 0] :: H)) (fun _ => by kernel_rfl) (medianAdj_walk _ s hk.up hsr (m * 3) (by omega) (by omega) (by omega) (.pointer (some ⟨b1, 0, none⟩)))) (fun _ => ?_) : RT _ _ _ _ _ _ 2 _)
    refine (run0 (z := 0) 1 [11, 0, 3, 8, 9, 12, 13, 14] [(11, .pointer (some ⟨b1, 0, none⟩)), (0, .slice s.a s.l.length s.c), (3, .func (.func 68) #[] #[]), (8, .int .i64 0), (9, .int .i64 0), (12, .int .i64 (m : Int)), (13, .int .i64 ((m * 2 : Nat) : Int)), (14, .int .i64 ((m * 3 : Nat) : Int))] (fun _ => by kernel_rfl) (endR ?_) : RT _ _ _ _ _ _ 1 _)
    refine regionR 7 (by kernel_rfl) (by kernel_rfl) ?_
    refine (run0 (z := 2) 5 [11, 8, 9, 13, 49, 50, 51, 52, 53] [(11, .pointer (some ⟨b1, 0, none⟩)), (8, .int .i64 0), (9, .int .i64 0), (13, .int .i64 ((m * 2 : Nat) : Int)), (49, .slice s.a s.l.length s.c), (50, .int .i64 (m : Int)), (51, .int .i64 ((m * 2 : Nat) : Int)), (52, .int .i64 ((m * 3 : Nat) : Int)), (53, .func (.func 68) #[] #[])] (fun _ => by kernel_rfl) ?_ : RT _ _ _ _ _ _ 7 _)
    refine (stepR (z := 1) (callS 107 [.slice s.a s.l.length s.c, .int .i64 (m : Int), .int .i64 ((m * 2 : Nat) : Int), .int .i64 ((m * 3 : Nat) : Int), .pointer (some ⟨b1, 0, none⟩), .func (.func 68) #[] #[]] (some 54) (fun _ => .int .i64 ((m * 2 : Nat) : Int)) (fun _ => (blk b1 3 [.int .i64 0] :: H)) (fun _ => by kernel_rfl) (median_walk _ s hk.up hsr m (m * 2) (m * 3) (by omega) (by omega) (by omega) (.pointer (some ⟨b1, 0, none⟩)))) (fun _ => ?_) : RT _ _ _ _ _ _ 2 _)
    refine (run0 (z := 0) 1 [11, 8, 9, 13] [(11, .pointer (some ⟨b1, 0, none⟩)), (8, .int .i64 0), (9, .int .i64 0), (13, .int .i64 ((m * 2 : Nat) : Int))] (fun _ => by kernel_rfl) (endR ?_) : RT _ _ _ _ _ _ 1 _)
    refine seqR (by kernel_rfl) ?_
    refine regionR 1 (by kernel_rfl) (by kernel_rfl) ?_
    refine (runR (H := (blk b1 3 [.int .i64 0] :: H)) (z := 0) 1 [8, 9, 13, 55] [(8, .int .i64 0), (9, .int .i64 0), (13, .int .i64 ((m * 2 : Nat) : Int)), (55, .int .i64 0)] [(⟨b1, 0, none⟩, .int .i64 0)] (hasC (blkAt (T := 3) (cs := [.int .i64 0]) 0 rfl rfl) has0) (fun _ => by kernel_rfl) (endR ?_) : RT _ _ _ _ _ _ 1 _)
    refine blockR 0 (by kernel_rfl) (by kernel_rfl) ?_
    refine seqR (by kernel_rfl) ?_
    refine regionR 2 (by kernel_rfl) (by kernel_rfl) ?_
    refine (run0 (z := 0) 2 [8, 9, 13, 55, 57] [(8, .int .i64 0), (9, .int .i64 0), (13, .int .i64 ((m * 2 : Nat) : Int)), (55, .int .i64 0), (57, .bool true)] (fun _ => by kernel_rfl) (endR ?_) : RT _ _ _ _ _ _ 2 _)
    refine condR (b := true) (by kernel_rfl) (fun _ => by kernel_rfl) (fun _ => ?_) (fun h => by cases h)
    refine seqR (by kernel_rfl) ?_
    refine regionR 3 (by kernel_rfl) (by kernel_rfl) ?_
    refine (run0 (z := 0) 3 [8, 9] [(8, .int .i64 ((m * 2 : Nat) : Int)), (9, .int .i64 1)] (fun _ => by kernel_rfl) (endR ?_) : RT _ _ _ _ _ _ 3 _)
    refine retR (by kernel_rfl) ?_
    refine blockV ?_
    refine done0 (.tuple #[.int .i64 ((m * 2 : Nat) : Int), .int .i64 1]) (fun _ => by kernel_rfl) (fun w hs => ?_) .ret (.inr rfl)
    exact ⟨(), rfl, hs.tail⟩
  · skip
    refine skipR (by kernel_rfl) ?_
    refine regionR 7 (by kernel_rfl) (by kernel_rfl) ?_
    refine (run0 (z := 2) 5 [11, 8, 9, 13, 49, 50, 51, 52, 53] [(11, .pointer (some ⟨b1, 0, none⟩)), (8, .int .i64 0), (9, .int .i64 0), (13, .int .i64 ((m * 2 : Nat) : Int)), (49, .slice s.a s.l.length s.c), (50, .int .i64 (m : Int)), (51, .int .i64 ((m * 2 : Nat) : Int)), (52, .int .i64 ((m * 3 : Nat) : Int)), (53, .func (.func 68) #[] #[])] (fun _ => by kernel_rfl) ?_ : RT _ _ _ _ _ _ 7 _)
    refine (stepR (z := 1) (callS 107 [.slice s.a s.l.length s.c, .int .i64 (m : Int), .int .i64 ((m * 2 : Nat) : Int), .int .i64 ((m * 3 : Nat) : Int), .pointer (some ⟨b1, 0, none⟩), .func (.func 68) #[] #[]] (some 54) (fun _ => .int .i64 ((m * 2 : Nat) : Int)) (fun _ => (blk b1 3 [.int .i64 0] :: H)) (fun _ => by kernel_rfl) (median_walk _ s hk.up hsr m (m * 2) (m * 3) (by omega) (by omega) (by omega) (.pointer (some ⟨b1, 0, none⟩)))) (fun _ => ?_) : RT _ _ _ _ _ _ 2 _)
    refine (run0 (z := 0) 1 [11, 8, 9, 13] [(11, .pointer (some ⟨b1, 0, none⟩)), (8, .int .i64 0), (9, .int .i64 0), (13, .int .i64 ((m * 2 : Nat) : Int))] (fun _ => by kernel_rfl) (endR ?_) : RT _ _ _ _ _ _ 1 _)
    refine seqR (by kernel_rfl) ?_
    refine regionR 1 (by kernel_rfl) (by kernel_rfl) ?_
    refine (runR (H := (blk b1 3 [.int .i64 0] :: H)) (z := 0) 1 [8, 9, 13, 55] [(8, .int .i64 0), (9, .int .i64 0), (13, .int .i64 ((m * 2 : Nat) : Int)), (55, .int .i64 0)] [(⟨b1, 0, none⟩, .int .i64 0)] (hasC (blkAt (T := 3) (cs := [.int .i64 0]) 0 rfl rfl) has0) (fun _ => by kernel_rfl) (endR ?_) : RT _ _ _ _ _ _ 1 _)
    refine blockR 0 (by kernel_rfl) (by kernel_rfl) ?_
    refine seqR (by kernel_rfl) ?_
    refine regionR 2 (by kernel_rfl) (by kernel_rfl) ?_
    refine (run0 (z := 0) 2 [8, 9, 13, 55, 57] [(8, .int .i64 0), (9, .int .i64 0), (13, .int .i64 ((m * 2 : Nat) : Int)), (55, .int .i64 0), (57, .bool true)] (fun _ => by kernel_rfl) (endR ?_) : RT _ _ _ _ _ _ 2 _)
    refine condR (b := true) (by kernel_rfl) (fun _ => by kernel_rfl) (fun _ => ?_) (fun h => by cases h)
    refine seqR (by kernel_rfl) ?_
    refine regionR 3 (by kernel_rfl) (by kernel_rfl) ?_
    refine (run0 (z := 0) 3 [8, 9] [(8, .int .i64 ((m * 2 : Nat) : Int)), (9, .int .i64 1)] (fun _ => by kernel_rfl) (endR ?_) : RT _ _ _ _ _ _ 3 _)
    refine retR (by kernel_rfl) ?_
    refine blockV ?_
    refine done0 (.tuple #[.int .i64 ((m * 2 : Nat) : Int), .int .i64 1]) (fun _ => by kernel_rfl) (fun w hs => ?_) .ret (.inr rfl)
    exact ⟨(), rfl, hs.tail⟩
set_option maxHeartbeats 1000000 in
set_option maxRecDepth 100000 in
theorem partial_walk (H : List SP) (s : SV (Int × Int)) (hk : KR H slE s) (hsr : SrtE s.l) (hl : s.l.length ≤ 64) (hl2 : 12 < s.l.length) : ∀ w, Sat w H → Calls Tryz.prog 95 #[.slice s.a s.l.length s.c, .int .i64 0, .int .i64 (s.l.length : Int), .func (.func 68) #[] #[]] w (Ret (ι := Unit) (fun _ => .bool true) fun _ => H) := by
  refine enterG (fn := Tryz.f95) 141 [.slice s.a s.l.length s.c, .int .i64 0, .int .i64 (s.l.length : Int), .func (.func 68) #[] #[]] Tryz.func95 (by kernel_rfl) (by kernel_rfl) (by kernel_rfl) ?_
  refine seqR (by kernel_rfl) ?_
  refine regionR 1 (by kernel_rfl) (by kernel_rfl) ?_
  refine (run0 (z := 0) 1 [0, 1, 2, 3, 8] [(0, .slice s.a s.l.length s.c), (1, .int .i64 0), (2, .int .i64 (s.l.length : Int)), (3, .func (.func 68) #[] #[]), (8, .bool false)] (fun _ => by kernel_rfl) (endR ?_) : RT _ _ _ _ _ _ 1 _)
  refine seqR (by kernel_rfl) ?_
  refine regionR 3 (by kernel_rfl) (by kernel_rfl) ?_
  refine (run0 (z := 0) 3 [0, 1, 2, 3, 8, 9] [(0, .slice s.a s.l.length s.c), (1, .int .i64 0), (2, .int .i64 (s.l.length : Int)), (3, .func (.func 68) #[] #[]), (8, .bool false), (9, .int .i64 (IntKind.i64.wrap (0 + 1)))] (fun _ => by kernel_rfl) (endR ?_) : RT _ _ _ _ _ _ 3 _)
  refine seqR (by kernel_rfl) ?_
  refine seqR (by kernel_rfl) ?_
  refine regionR 1 (by kernel_rfl) (by kernel_rfl) ?_
  refine (run0 (z := 0) 1 [0, 1, 2, 3, 8, 9, 10] [(0, .slice s.a s.l.length s.c), (1, .int .i64 0), (2, .int .i64 (s.l.length : Int)), (3, .func (.func 68) #[] #[]), (8, .bool false), (9, .int .i64 (IntKind.i64.wrap (0 + 1))), (10, .int .i64 0)] (fun _ => by kernel_rfl) (endR ?_) : RT _ _ _ _ _ _ 1 _)
  refine blockR 0 (by kernel_rfl) (by kernel_rfl) ?_
  rw [show IntKind.i64.wrap ((0 : Int) + 1) = 1 from rfl]
  refine PT.keep (L' := [(0, .slice s.a s.l.length s.c), (1, .int .i64 0), (2, .int .i64 (s.l.length : Int)), (3, .func (.func 68) #[] #[]), (8, .bool false), (9, .int .i64 1), (10, .int .i64 0)]) [0, 1, 2, 3, 8, 9, 10] rfl ?_
  refine loopG (fun (x : Unit) => [(0, .slice s.a s.l.length s.c), (1, .int .i64 0), (2, .int .i64 (s.l.length : Int)), (3, .func (.func 68) #[] #[]), (8, .bool false), (9, .int .i64 1), (10, .int .i64 0)]) (fun (x : Unit) => (H)) (fun k (x : Unit) => k = 0) 0 () (by kernel_rfl) rfl ?_
  rintro k x hk0
  refine seqR (by kernel_rfl) ?_
  refine seqR (by kernel_rfl) ?_
  refine regionR 2 (by kernel_rfl) (by kernel_rfl) ?_
  refine (run0 (z := 0) 2 [0, 1, 2, 3, 8, 9, 10, 16] [(0, .slice s.a s.l.length s.c), (1, .int .i64 0), (2, .int .i64 (s.l.length : Int)), (3, .func (.func 68) #[] #[]), (8, .bool false), (9, .int .i64 1), (10, .int .i64 0), (16, .bool true)] (fun _ => by kernel_rfl) (endR ?_) : RT _ _ _ _ _ _ 2 _)
  refine condR (b := true) (by kernel_rfl) (fun _ => by kernel_rfl) (fun _ => ?_) (fun h => by cases h)
  refine skipR (by kernel_rfl) ?_
  refine seqR (by kernel_rfl) ?_
  refine blockR 1 (by kernel_rfl) (by kernel_rfl) ?_
  refine seqR (by kernel_rfl) ?_
  refine blockR 2 (by kernel_rfl) (by kernel_rfl) ?_
  refine PT.keep (L' := [(0, .slice s.a s.l.length s.c), (1, .int .i64 0), (2, .int .i64 (s.l.length : Int)), (3, .func (.func 68) #[] #[]), (8, .bool false), (9, .int .i64 1), (10, .int .i64 0)]) [0, 1, 2, 3, 8, 9, 10] rfl ?_
  refine loopG (fun (u : Nat) => [(0, .slice s.a s.l.length s.c), (1, .int .i64 0), (2, .int .i64 (s.l.length : Int)), (3, .func (.func 68) #[] #[]), (8, .bool false), (9, .int .i64 (u : Int)), (10, .int .i64 0)]) (fun (u : Nat) => (H)) (fun k (u : Nat) => k + u = s.l.length ∧ 1 ≤ u) (s.l.length - 1) 1 (by kernel_rfl) ⟨by omega, by omega⟩ ?_
  rintro k2 u ⟨hku, hu1⟩
  refine seqR (by kernel_rfl) ?_
  refine seqR (by kernel_rfl) ?_
  refine drawR (fun w => Sat w (H)) [] 18 (by kernel_rfl) (by kernel_rfl) (by kernel_rfl) (fun _ h => by first | exact h | exact h.tail | exact h.tail.tail | exact h.tail.tail.tail | exact h.tail.tail.tail.tail) ?_
  refine takesR [0, 1, 2, 3] [0, 1, 2, 3, 8, 9, 10, 22] 14 [true, true, true, true, false, false, false, false, false, false, false, false, false, false, false, false, false, false] [(0, .slice s.a s.l.length s.c), (1, .int .i64 0), (2, .int .i64 (s.l.length : Int)), (3, .func (.func 68) #[] #[]), (8, .bool false), (9, .int .i64 (u : Int)), (10, .int .i64 0), (22, .bool (decide ((u : Int) < (s.l.length : Int))))] [] rfl (fun _ d _ _ _ h => by cases d <;> exact h) (fun _ h => by first | exact h | exact h.tail | exact h.tail.tail | exact h.tail.tail.tail | exact h.tail.tail.tail.tail) has0 (fun _ => by kernel_rfl) ?_
  cases h1 : (decide ((u : Int) < (s.l.length : Int))) with
  | true =>
    have hu : u < s.l.length := by have := of_decide_eq_true h1; omega
    obtain ⟨x, hx⟩ : ∃ x, s.l[u - 1]? = some x := ⟨s.l[u - 1]'(by omega), by simp⟩
    obtain ⟨y, hy⟩ : ∃ y, s.l[u]? = some y := ⟨s.l[u]'(by omega), by simp⟩
    refine PT.know ((hk).isSome (List.ne_nil_of_length_pos (by omega))) ?_
    rintro ⟨sb, so, hA⟩
    try rw [hA]
    refine takesR [4, 5, 6, 9, 10, 11] [0, 1, 2, 3, 8, 9, 10, 22, 23, 24, 25, 28, 30] 8 [true, true, true, true, true, true, true, false, false, true, true, true, false, false, false, false, false, false] [(0, .slice (some ⟨sb, so, none⟩) s.l.length s.c), (1, .int .i64 0), (2, .int .i64 (s.l.length : Int)), (3, .func (.func 68) #[] #[]), (8, .bool false), (9, .int .i64 (u : Int)), (10, .int .i64 0), (22, .bool true), (23, .func (.func 68) #[] #[]), (24, .slice (some ⟨sb, so, none⟩) s.l.length s.c), (25, .int .i64 (u : Int)), (28, .slice (some ⟨sb, so, none⟩) s.l.length s.c), (30, .int .i64 (IntKind.i64.wrap ((u : Int) - 1)))] [] rfl (fun _ d _ _ _ h => by cases d <;> exact h) (fun _ h => by first | exact h | exact h.tail | exact h.tail.tail | exact h.tail.tail.tail | exact h.tail.tail.tail.tail) has0 (fun _ => by kernel_rfl) ?_
    refine takeR1 7 7 [true, true, true, true, true, true, true, true, false, true, true, true, false, false, false, false, false, false] rfl rfl (by kernel_rfl) (fun _ d _ _ _ h => by cases d <;> exact h) (fun _ h => by first | exact h | exact h.tail | exact h.tail.tail | exact h.tail.tail.tail | exact h.tail.tail.tail.tail) (idxY 88 (.tmp 24) (.tmp 25) sb so s.l.length s.c u 2 75 (u : Int) .i64 (some 26) (fun _ => by kernel_rfl) (by kernel_rfl) (by kernel_rfl) (fun _ => by kernel_rfl) (fun _ => by kernel_rfl) Tryz.underlying88 (by kernel_rfl) (by first | rfl | assumption | simp) (by first | omega | (simp; done) | (simp; omega) | (simp at *; omega))) ?_
    refine takesR [8] [0, 1, 2, 3, 8, 9, 10, 22, 23, 28, 30, 27] 6 [true, true, true, true, true, true, true, true, true, true, true, true, false, false, false, false, false, false] [(0, .slice (some ⟨sb, so, none⟩) s.l.length s.c), (1, .int .i64 0), (2, .int .i64 (s.l.length : Int)), (3, .func (.func 68) #[] #[]), (8, .bool false), (9, .int .i64 (u : Int)), (10, .int .i64 0), (22, .bool true), (23, .func (.func 68) #[] #[]), (28, .slice (some ⟨sb, so, none⟩) s.l.length s.c), (30, .int .i64 (IntKind.i64.wrap ((u : Int) - 1))), (27, .agg #[.int .i64 y.1, .int .i64 y.2])] [(⟨sb, so + u * 2, none⟩, .int .i64 y.1), (⟨sb, so + u * 2 + 1, none⟩, .int .i64 y.2)] rfl (fun _ d _ _ _ h => by cases d <;> exact h) (fun _ h => by first | exact h | exact h.tail | exact h.tail.tail | exact h.tail.tail.tail | exact h.tail.tail.tail.tail) (hasC (hk.cell hA (i := u) (x := y) hy (j := 0) rfl) (hasC (hk.cell hA (i := u) (x := y) hy (j := 1) rfl) has0)) (fun _ => by kernel_rfl) ?_
    rw [show IntKind.i64.wrap ((u : Int) - 1) = ((u - 1 : Nat) : Int) by rw [IntKind.wrap_i64]; omega]
    refine takeR1 12 5 [true, true, true, true, true, true, true, true, true, true, true, true, true, false, false, false, false, false] rfl rfl (by kernel_rfl) (fun _ d _ _ _ h => by cases d <;> exact h) (fun _ h => by first | exact h | exact h.tail | exact h.tail.tail | exact h.tail.tail.tail | exact h.tail.tail.tail.tail) (idxY 88 (.tmp 28) (.tmp 30) sb so s.l.length s.c (u - 1) 2 75 ((u - 1 : Nat) : Int) .i64 (some 31) (fun _ => by kernel_rfl) (by kernel_rfl) (by kernel_rfl) (fun _ => by kernel_rfl) (fun _ => by kernel_rfl) Tryz.underlying88 (by kernel_rfl) (by first | rfl | assumption | simp) (by first | omega | (simp; done) | (simp; omega) | (simp at *; omega))) ?_
    refine takesR [13] [0, 1, 2, 3, 8, 9, 10, 22, 23, 27, 32] 4 [true, true, true, true, true, true, true, true, true, true, true, true, true, true, false, false, false, false] [(0, .slice (some ⟨sb, so, none⟩) s.l.length s.c), (1, .int .i64 0), (2, .int .i64 (s.l.length : Int)), (3, .func (.func 68) #[] #[]), (8, .bool false), (9, .int .i64 (u : Int)), (10, .int .i64 0), (22, .bool true), (23, .func (.func 68) #[] #[]), (27, .agg #[.int .i64 y.1, .int .i64 y.2]), (32, .agg #[.int .i64 x.1, .int .i64 x.2])] [(⟨sb, so + (u - 1) * 2, none⟩, .int .i64 x.1), (⟨sb, so + (u - 1) * 2 + 1, none⟩, .int .i64 x.2)] rfl (fun _ d _ _ _ h => by cases d <;> exact h) (fun _ h => by first | exact h | exact h.tail | exact h.tail.tail | exact h.tail.tail.tail | exact h.tail.tail.tail.tail) (hasC (hk.cell hA (i := u - 1) (x := x) hx (j := 0) rfl) (hasC (hk.cell hA (i := u - 1) (x := x) hx (j := 1) rfl) has0)) (fun _ => by kernel_rfl) ?_
    refine oneR 14 3 [true, true, true, true, true, true, true, true, true, true, true, true, true, true, true, false, false, false] rfl rfl (by kernel_rfl) (callS 68 [.agg #[.int .i64 y.1, .int .i64 y.2], .agg #[.int .i64 x.1, .int .i64 x.2]] (some 33) (fun _ => .int .i64 (byI (y.1, y.2) (x.1, x.2))) (fun (_ : Unit) => (H)) (fun _ => by kernel_rfl) (by_walk _ y.1 y.2 x.1 x.2)) (fun _ _ h hn => by first | exact h | exact h.tail | exact h.tail.tail | exact h.tail.tail.tail | exact h.tail.tail.tail.tail | exact absurd hn (by decide)) (fun _ => ?_)
    refine takesR [15, 16, 17] [0, 1, 2, 3, 8, 9, 10, 36] 0 [true, true, true, true, true, true, true, true, true, true, true, true, true, true, true, true, true, true] [(0, .slice (some ⟨sb, so, none⟩) s.l.length s.c), (1, .int .i64 0), (2, .int .i64 (s.l.length : Int)), (3, .func (.func 68) #[] #[]), (8, .bool false), (9, .int .i64 (u : Int)), (10, .int .i64 0), (36, .bool (!(decide ((byI (y.1, y.2) (x.1, x.2)) < 0))))] [] rfl (fun _ d _ _ _ h => by cases d <;> exact h) (fun _ h => by first | exact h | exact h.tail | exact h.tail.tail | exact h.tail.tail.tail | exact h.tail.tail.tail.tail) has0 (fun _ => by kernel_rfl) ?_
    refine drawnR (by kernel_rfl) ?_
    try rw [← hA]
    rw [hsr.not hx hy (by omega)]
    refine condR (b := true) (by kernel_rfl) (fun _ => by kernel_rfl) (fun _ => ?_) (fun h => by cases h)
    refine skipR (by kernel_rfl) ?_
    refine blockR 3 (by kernel_rfl) (by kernel_rfl) ?_
    refine regionR 3 (by kernel_rfl) (by kernel_rfl) ?_
    refine (run0 (z := 0) 3 [0, 1, 2, 3, 8, 9, 10] [(0, .slice s.a s.l.length s.c), (1, .int .i64 0), (2, .int .i64 (s.l.length : Int)), (3, .func (.func 68) #[] #[]), (8, .bool false), (9, .int .i64 (IntKind.i64.wrap ((u : Int) + 1))), (10, .int .i64 0)] (fun _ => by kernel_rfl) (endR ?_) : RT _ _ _ _ _ _ 3 _)
    rw [show IntKind.i64.wrap ((u : Int) + 1) = ((u + 1 : Nat) : Int) by rw [IntKind.wrap_i64]; omega]
    refine PT.keep (L' := [(0, .slice s.a s.l.length s.c), (1, .int .i64 0), (2, .int .i64 (s.l.length : Int)), (3, .func (.func 68) #[] #[]), (8, .bool false), (9, .int .i64 ((u + 1 : Nat) : Int)), (10, .int .i64 0)]) [0, 1, 2, 3, 8, 9, 10] rfl ?_
    exact againG (k2 - 1) (u + 1) rfl rfl (by omega) ⟨by omega, by omega⟩
  | false =>
    have hu : u = s.l.length := by have := of_decide_eq_false h1; omega
    refine takesR [4, 5, 6, 7, 8, 9, 10, 11, 12, 13, 14, 15, 16, 17] [0, 1, 2, 3, 8, 9, 10, 36] 0 [true, true, true, true, true, true, true, true, true, true, true, true, true, true, true, true, true, true] [(0, .slice s.a s.l.length s.c), (1, .int .i64 0), (2, .int .i64 (s.l.length : Int)), (3, .func (.func 68) #[] #[]), (8, .bool false), (9, .int .i64 (u : Int)), (10, .int .i64 0), (36, .bool false)] [] rfl (fun _ d _ _ _ h => by cases d <;> exact h) (fun _ h => by first | exact h | exact h.tail | exact h.tail.tail | exact h.tail.tail.tail | exact h.tail.tail.tail.tail) has0 (fun _ => by kernel_rfl) ?_
    refine drawnR (by kernel_rfl) ?_
    refine condR (b := false) (by kernel_rfl) (fun _ => by kernel_rfl) (fun h => by cases h) (fun _ => ?_)
    refine exitR 2 (by kernel_rfl) (by kernel_rfl) ?_
    refine thenX ?_
    refine thenX ?_
    refine leaveR ?_
    refine seqR (by kernel_rfl) ?_
    refine seqR (by kernel_rfl) ?_
    refine regionR 3 (by kernel_rfl) (by kernel_rfl) ?_
    refine (run0 (z := 0) 3 [0, 1, 2, 3, 8, 9, 10, 41] [(0, .slice s.a s.l.length s.c), (1, .int .i64 0), (2, .int .i64 (s.l.length : Int)), (3, .func (.func 68) #[] #[]), (8, .bool false), (9, .int .i64 (u : Int)), (10, .int .i64 0), (41, .bool ((u : Int) == (s.l.length : Int)))] (fun _ => by kernel_rfl) (endR ?_) : RT _ _ _ _ _ _ 3 _)
    rw [show ((u : Int) == (s.l.length : Int)) = true by rw [hu]; simp]
    refine condR (b := true) (by kernel_rfl) (fun _ => by kernel_rfl) (fun _ => ?_) (fun h => by cases h)
    refine seqR (by kernel_rfl) ?_
    refine regionR 1 (by kernel_rfl) (by kernel_rfl) ?_
    refine (run0 (z := 0) 1 [0, 1, 2, 3, 8, 9, 10] [(0, .slice s.a s.l.length s.c), (1, .int .i64 0), (2, .int .i64 (s.l.length : Int)), (3, .func (.func 68) #[] #[]), (8, .bool true), (9, .int .i64 (u : Int)), (10, .int .i64 0)] (fun _ => by kernel_rfl) (endR ?_) : RT _ _ _ _ _ _ 1 _)
    refine retR (by kernel_rfl) ?_
    refine thenV ?_
    refine blockV ?_
    refine thenV ?_
    refine thenV ?_
    refine blockV ?_
    refine thenV ?_
    refine done0 (.bool true) (fun _ => by kernel_rfl) (fun w hs => ?_) .ret (.inr rfl)
    exact ⟨(), rfl, hs⟩
set_option maxHeartbeats 1000000 in
set_option maxRecDepth 100000 in
theorem isort_walk (H : List SP) (s : SV (Int × Int)) (hk : KR H slE s) (hsr : SrtE s.l) (hl : s.l.length ≤ 64) : ∀ w, Sat w H → Calls Tryz.prog 90 #[.slice s.a s.l.length s.c, .int .i64 0, .int .i64 (s.l.length : Int), .func (.func 68) #[] #[]] w (Ret (ι := Unit) (fun _ => .tuple #[]) fun _ => H) := by
  refine enterG (fn := Tryz.f90) 53 [.slice s.a s.l.length s.c, .int .i64 0, .int .i64 (s.l.length : Int), .func (.func 68) #[] #[]] Tryz.func90 (by kernel_rfl) (by kernel_rfl) (by kernel_rfl) ?_
  refine seqR (by kernel_rfl) ?_
  refine regionR 3 (by kernel_rfl) (by kernel_rfl) ?_
  refine (run0 (z := 0) 3 [0, 1, 2, 3, 8] [(0, .slice s.a s.l.length s.c), (1, .int .i64 0), (2, .int .i64 (s.l.length : Int)), (3, .func (.func 68) #[] #[]), (8, .int .i64 (IntKind.i64.wrap (0 + 1)))] (fun _ => by kernel_rfl) (endR ?_) : RT _ _ _ _ _ _ 3 _)
  refine blockR 0 (by kernel_rfl) (by kernel_rfl) ?_
  rw [show IntKind.i64.wrap ((0 : Int) + 1) = 1 from rfl]
  refine PT.keep (L' := [(0, .slice s.a s.l.length s.c), (1, .int .i64 0), (2, .int .i64 (s.l.length : Int)), (3, .func (.func 68) #[] #[]), (8, .int .i64 1)]) [0, 1, 2, 3, 8] rfl ?_
  refine loopG (fun (u : Nat) => [(0, .slice s.a s.l.length s.c), (1, .int .i64 0), (2, .int .i64 (s.l.length : Int)), (3, .func (.func 68) #[] #[]), (8, .int .i64 (u : Int))]) (fun (u : Nat) => (H)) (fun k (u : Nat) => k = s.l.length - u ∧ 1 ≤ u) (s.l.length - 1) 1 (by kernel_rfl) ⟨rfl, by omega⟩ ?_
  rintro k u ⟨hku, hu1⟩
  refine seqR (by kernel_rfl) ?_
  refine seqR (by kernel_rfl) ?_
  refine regionR 3 (by kernel_rfl) (by kernel_rfl) ?_
  refine (run0 (z := 0) 3 [0, 1, 2, 3, 8, 14] [(0, .slice s.a s.l.length s.c), (1, .int .i64 0), (2, .int .i64 (s.l.length : Int)), (3, .func (.func 68) #[] #[]), (8, .int .i64 (u : Int)), (14, .bool (decide ((u : Int) < (s.l.length : Int))))] (fun _ => by kernel_rfl) (endR ?_) : RT _ _ _ _ _ _ 3 _)
  refine condR (b := decide ((u : Int) < (s.l.length : Int))) (by kernel_rfl) (fun _ => by kernel_rfl) (fun h1 => ?_) (fun h1 => ?_)
  · skip
    have hu : u < s.l.length := by have := of_decide_eq_true h1; omega
    obtain ⟨x, hx⟩ : ∃ x, s.l[u - 1]? = some x := ⟨s.l[u - 1]'(by omega), by simp⟩
    obtain ⟨y, hy⟩ : ∃ y, s.l[u]? = some y := ⟨s.l[u]'(by omega), by simp⟩
    refine skipR (by kernel_rfl) ?_
    refine seqR (by kernel_rfl) ?_
    refine blockR 1 (by kernel_rfl) (by kernel_rfl) ?_
    refine seqR (by kernel_rfl) ?_
    refine regionR 2 (by kernel_rfl) (by kernel_rfl) ?_
    refine (run0 (z := 0) 2 [0, 1, 2, 3, 8, 9] [(0, .slice s.a s.l.length s.c), (1, .int .i64 0), (2, .int .i64 (s.l.length : Int)), (3, .func (.func 68) #[] #[]), (8, .int .i64 (u : Int)), (9, .int .i64 (u : Int))] (fun _ => by kernel_rfl) (endR ?_) : RT _ _ _ _ _ _ 2 _)
    refine blockR 2 (by kernel_rfl) (by kernel_rfl) ?_
    refine PT.keep (L' := [(0, .slice s.a s.l.length s.c), (1, .int .i64 0), (2, .int .i64 (s.l.length : Int)), (3, .func (.func 68) #[] #[]), (8, .int .i64 (u : Int)), (9, .int .i64 (u : Int))]) [0, 1, 2, 3, 8, 9] rfl ?_
    refine loopG (fun (x : Unit) => [(0, .slice s.a s.l.length s.c), (1, .int .i64 0), (2, .int .i64 (s.l.length : Int)), (3, .func (.func 68) #[] #[]), (8, .int .i64 (u : Int)), (9, .int .i64 (u : Int))]) (fun (x : Unit) => (H)) (fun k (x : Unit) => k = 0) 0 () (by kernel_rfl) rfl ?_
    rintro k2 _ hk0
    refine seqR (by kernel_rfl) ?_
    refine seqR (by kernel_rfl) ?_
    refine drawR (fun w => Sat w (H)) [] 17 (by kernel_rfl) (by kernel_rfl) (by kernel_rfl) (fun _ h => by first | exact h | exact h.tail | exact h.tail.tail | exact h.tail.tail.tail | exact h.tail.tail.tail.tail) ?_
    refine takesR [0, 1, 2, 3] [0, 1, 2, 3, 8, 9, 21] 13 [true, true, true, true, false, false, false, false, false, false, false, false, false, false, false, false, false] [(0, .slice s.a s.l.length s.c), (1, .int .i64 0), (2, .int .i64 (s.l.length : Int)), (3, .func (.func 68) #[] #[]), (8, .int .i64 (u : Int)), (9, .int .i64 (u : Int)), (21, .bool (decide ((u : Int) > 0)))] [] rfl (fun _ d _ _ _ h => by cases d <;> exact h) (fun _ h => by first | exact h | exact h.tail | exact h.tail.tail | exact h.tail.tail.tail | exact h.tail.tail.tail.tail) has0 (fun _ => by kernel_rfl) ?_
    rw [show decide ((u : Int) > 0) = true by exact decide_eq_true (by omega)]
    refine PT.know ((hk).isSome (List.ne_nil_of_length_pos (by omega))) ?_
    rintro ⟨sb, so, hA⟩
    try rw [hA]
    refine takesR [4, 5, 6, 9, 10, 11] [0, 1, 2, 3, 8, 9, 21, 22, 23, 24, 27, 29] 7 [true, true, true, true, true, true, true, false, false, true, true, true, false, false, false, false, false] [(0, .slice (some ⟨sb, so, none⟩) s.l.length s.c), (1, .int .i64 0), (2, .int .i64 (s.l.length : Int)), (3, .func (.func 68) #[] #[]), (8, .int .i64 (u : Int)), (9, .int .i64 (u : Int)), (21, .bool true), (22, .func (.func 68) #[] #[]), (23, .slice (some ⟨sb, so, none⟩) s.l.length s.c), (24, .int .i64 (u : Int)), (27, .slice (some ⟨sb, so, none⟩) s.l.length s.c), (29, .int .i64 (IntKind.i64.wrap ((u : Int) - 1)))] [] rfl (fun _ d _ _ _ h => by cases d <;> exact h) (fun _ h => by first | exact h | exact h.tail | exact h.tail.tail | exact h.tail.tail.tail | exact h.tail.tail.tail.tail) has0 (fun _ => by kernel_rfl) ?_
    refine takeR1 7 6 [true, true, true, true, true, true, true, true, false, true, true, true, false, false, false, false, false] rfl rfl (by kernel_rfl) (fun _ d _ _ _ h => by cases d <;> exact h) (fun _ h => by first | exact h | exact h.tail | exact h.tail.tail | exact h.tail.tail.tail | exact h.tail.tail.tail.tail) (idxY 88 (.tmp 23) (.tmp 24) sb so s.l.length s.c u 2 75 (u : Int) .i64 (some 25) (fun _ => by kernel_rfl) (by kernel_rfl) (by kernel_rfl) (fun _ => by kernel_rfl) (fun _ => by kernel_rfl) Tryz.underlying88 (by kernel_rfl) (by first | rfl | assumption | simp) (by first | omega | (simp; done) | (simp; omega) | (simp at *; omega))) ?_
    refine takesR [8] [0, 1, 2, 3, 8, 9, 21, 22, 27, 29, 26] 5 [true, true, true, true, true, true, true, true, true, true, true, true, false, false, false, false, false] [(0, .slice (some ⟨sb, so, none⟩) s.l.length s.c), (1, .int .i64 0), (2, .int .i64 (s.l.length : Int)), (3, .func (.func 68) #[] #[]), (8, .int .i64 (u : Int)), (9, .int .i64 (u : Int)), (21, .bool true), (22, .func (.func 68) #[] #[]), (27, .slice (some ⟨sb, so, none⟩) s.l.length s.c), (29, .int .i64 (IntKind.i64.wrap ((u : Int) - 1))), (26, .agg #[.int .i64 y.1, .int .i64 y.2])] [(⟨sb, so + u * 2, none⟩, .int .i64 y.1), (⟨sb, so + u * 2 + 1, none⟩, .int .i64 y.2)] rfl (fun _ d _ _ _ h => by cases d <;> exact h) (fun _ h => by first | exact h | exact h.tail | exact h.tail.tail | exact h.tail.tail.tail | exact h.tail.tail.tail.tail) (hasC (hk.cell hA (i := u) (x := y) hy (j := 0) rfl) (hasC (hk.cell hA (i := u) (x := y) hy (j := 1) rfl) has0)) (fun _ => by kernel_rfl) ?_
    rw [show IntKind.i64.wrap ((u : Int) - 1) = ((u - 1 : Nat) : Int) by rw [IntKind.wrap_i64]; omega]
    refine takeR1 12 4 [true, true, true, true, true, true, true, true, true, true, true, true, true, false, false, false, false] rfl rfl (by kernel_rfl) (fun _ d _ _ _ h => by cases d <;> exact h) (fun _ h => by first | exact h | exact h.tail | exact h.tail.tail | exact h.tail.tail.tail | exact h.tail.tail.tail.tail) (idxY 88 (.tmp 27) (.tmp 29) sb so s.l.length s.c (u - 1) 2 75 ((u - 1 : Nat) : Int) .i64 (some 30) (fun _ => by kernel_rfl) (by kernel_rfl) (by kernel_rfl) (fun _ => by kernel_rfl) (fun _ => by kernel_rfl) Tryz.underlying88 (by kernel_rfl) (by first | rfl | assumption | simp) (by first | omega | (simp; done) | (simp; omega) | (simp at *; omega))) ?_
    refine takesR [13] [0, 1, 2, 3, 8, 9, 21, 22, 26, 31] 3 [true, true, true, true, true, true, true, true, true, true, true, true, true, true, false, false, false] [(0, .slice (some ⟨sb, so, none⟩) s.l.length s.c), (1, .int .i64 0), (2, .int .i64 (s.l.length : Int)), (3, .func (.func 68) #[] #[]), (8, .int .i64 (u : Int)), (9, .int .i64 (u : Int)), (21, .bool true), (22, .func (.func 68) #[] #[]), (26, .agg #[.int .i64 y.1, .int .i64 y.2]), (31, .agg #[.int .i64 x.1, .int .i64 x.2])] [(⟨sb, so + (u - 1) * 2, none⟩, .int .i64 x.1), (⟨sb, so + (u - 1) * 2 + 1, none⟩, .int .i64 x.2)] rfl (fun _ d _ _ _ h => by cases d <;> exact h) (fun _ h => by first | exact h | exact h.tail | exact h.tail.tail | exact h.tail.tail.tail | exact h.tail.tail.tail.tail) (hasC (hk.cell hA (i := u - 1) (x := x) hx (j := 0) rfl) (hasC (hk.cell hA (i := u - 1) (x := x) hx (j := 1) rfl) has0)) (fun _ => by kernel_rfl) ?_
    refine oneR 14 2 [true, true, true, true, true, true, true, true, true, true, true, true, true, true, true, false, false] rfl rfl (by kernel_rfl) (callS 68 [.agg #[.int .i64 y.1, .int .i64 y.2], .agg #[.int .i64 x.1, .int .i64 x.2]] (some 32) (fun _ => .int .i64 (byI (y.1, y.2) (x.1, x.2))) (fun (_ : Unit) => (H)) (fun _ => by kernel_rfl) (by_walk _ y.1 y.2 x.1 x.2)) (fun _ _ h hn => by first | exact h | exact h.tail | exact h.tail.tail | exact h.tail.tail.tail | exact h.tail.tail.tail.tail | exact absurd hn (by decide)) (fun _ => ?_)
    refine takesR [15, 16] [0, 1, 2, 3, 8, 9, 34] 0 [true, true, true, true, true, true, true, true, true, true, true, true, true, true, true, true, true] [(0, .slice (some ⟨sb, so, none⟩) s.l.length s.c), (1, .int .i64 0), (2, .int .i64 (s.l.length : Int)), (3, .func (.func 68) #[] #[]), (8, .int .i64 (u : Int)), (9, .int .i64 (u : Int)), (34, .bool (decide ((byI (y.1, y.2) (x.1, x.2)) < 0)))] [] rfl (fun _ d _ _ _ h => by cases d <;> exact h) (fun _ h => by first | exact h | exact h.tail | exact h.tail.tail | exact h.tail.tail.tail | exact h.tail.tail.tail.tail) has0 (fun _ => by kernel_rfl) ?_
    refine drawnR (by kernel_rfl) ?_
    try rw [← hA]
    rw [show decide ((byI (y.1, y.2) (x.1, x.2)) < 0) = false by exact hsr.not hx hy (by omega)]
    refine condR (b := false) (by kernel_rfl) (fun _ => by kernel_rfl) (fun h => by cases h) (fun _ => ?_)
    refine exitR 2 (by kernel_rfl) (by kernel_rfl) ?_
    refine thenX ?_
    refine thenX ?_
    refine leaveR ?_
    refine regionR 3 (by kernel_rfl) (by kernel_rfl) ?_
    refine (run0 (z := 0) 3 [0, 1, 2, 3, 8] [(0, .slice s.a s.l.length s.c), (1, .int .i64 0), (2, .int .i64 (s.l.length : Int)), (3, .func (.func 68) #[] #[]), (8, .int .i64 (IntKind.i64.wrap ((u : Int) + 1)))] (fun _ => by kernel_rfl) (endR ?_) : RT _ _ _ _ _ _ 3 _)
    rw [show IntKind.i64.wrap ((u : Int) + 1) = ((u + 1 : Nat) : Int) by rw [IntKind.wrap_i64]; omega]
    refine PT.keep (L' := [(0, .slice s.a s.l.length s.c), (1, .int .i64 0), (2, .int .i64 (s.l.length : Int)), (3, .func (.func 68) #[] #[]), (8, .int .i64 ((u + 1 : Nat) : Int))]) [0, 1, 2, 3, 8] rfl ?_
    exact againG (k - 1) (u + 1) rfl rfl (by omega) ⟨by omega, by omega⟩
  · skip
    refine exitR 0 (by kernel_rfl) (by kernel_rfl) ?_
    refine thenX ?_
    refine thenX ?_
    refine leaveR ?_
    refine done0 (.tuple #[]) (fun _ => by kernel_rfl) (fun w hs => ?_) .normal (.inl rfl)
    exact ⟨(), rfl, hs⟩
set_option maxHeartbeats 1000000 in
set_option maxRecDepth 100000 in
theorem pdq_walk (H : List SP) (s : SV (Int × Int)) (lim : Int) (hlim : 12 < s.l.length → lim ≠ 0) (hk : KR H slE s) (hsr : SrtE s.l) (hl : s.l.length ≤ 64) : ∀ w, Sat w H → Calls Tryz.prog 74 #[.slice s.a s.l.length s.c, .int .i64 0, .int .i64 (s.l.length : Int), .int .i64 lim, .func (.func 68) #[] #[]] w (Ret (ι := Unit) (fun _ => .tuple #[]) fun _ => H) := by
  refine enterG (fn := Tryz.f74) 148 [.slice s.a s.l.length s.c, .int .i64 0, .int .i64 (s.l.length : Int), .int .i64 lim, .func (.func 68) #[] #[]] Tryz.func74 (by kernel_rfl) (by kernel_rfl) (by kernel_rfl) ?_
  refine seqR (by kernel_rfl) ?_
  refine regionR 1 (by kernel_rfl) (by kernel_rfl) ?_
  refine (run0 (z := 0) 1 [0, 1, 2, 3, 4, 10] [(0, .slice s.a s.l.length s.c), (1, .int .i64 0), (2, .int .i64 (s.l.length : Int)), (3, .int .i64 lim), (4, .func (.func 68) #[] #[]), (10, .bool true)] (fun _ => by kernel_rfl) (endR ?_) : RT _ _ _ _ _ _ 1 _)
  refine seqR (by kernel_rfl) ?_
  refine regionR 1 (by kernel_rfl) (by kernel_rfl) ?_
  refine (run0 (z := 0) 1 [0, 1, 2, 3, 4, 10, 11] [(0, .slice s.a s.l.length s.c), (1, .int .i64 0), (2, .int .i64 (s.l.length : Int)), (3, .int .i64 lim), (4, .func (.func 68) #[] #[]), (10, .bool true), (11, .bool true)] (fun _ => by kernel_rfl) (endR ?_) : RT _ _ _ _ _ _ 1 _)
  refine blockR 0 (by kernel_rfl) (by kernel_rfl) ?_
  refine PT.keep (L' := [(0, .slice s.a s.l.length s.c), (1, .int .i64 0), (2, .int .i64 (s.l.length : Int)), (3, .int .i64 lim), (4, .func (.func 68) #[] #[]), (10, .bool true), (11, .bool true)]) [0, 1, 2, 3, 4, 10, 11] rfl ?_
  refine loopG (fun (x : Unit) => [(0, .slice s.a s.l.length s.c), (1, .int .i64 0), (2, .int .i64 (s.l.length : Int)), (3, .int .i64 lim), (4, .func (.func 68) #[] #[]), (10, .bool true), (11, .bool true)]) (fun (x : Unit) => (H)) (fun k (x : Unit) => k = 0) 0 () (by kernel_rfl) rfl ?_
  rintro k _ hk0
  refine blockR 1 (by kernel_rfl) (by kernel_rfl) ?_
  refine seqR (by kernel_rfl) ?_
  refine regionR 4 (by kernel_rfl) (by kernel_rfl) ?_
  refine (run0 (z := 0) 4 [0, 1, 2, 3, 4, 10, 11, 12] [(0, .slice s.a s.l.length s.c), (1, .int .i64 0), (2, .int .i64 (s.l.length : Int)), (3, .int .i64 lim), (4, .func (.func 68) #[] #[]), (10, .bool true), (11, .bool true), (12, .int .i64 (IntKind.i64.wrap ((s.l.length : Int) - 0)))] (fun _ => by kernel_rfl) (endR ?_) : RT _ _ _ _ _ _ 4 _)
  refine seqR (by kernel_rfl) ?_
  refine seqR (by kernel_rfl) ?_
  refine regionR 2 (by kernel_rfl) (by kernel_rfl) ?_
  refine (run0 (z := 0) 2 [0, 1, 2, 3, 4, 10, 11, 12, 25] [(0, .slice s.a s.l.length s.c), (1, .int .i64 0), (2, .int .i64 (s.l.length : Int)), (3, .int .i64 lim), (4, .func (.func 68) #[] #[]), (10, .bool true), (11, .bool true), (12, .int .i64 (IntKind.i64.wrap ((s.l.length : Int) - 0))), (25, .bool (decide ((IntKind.i64.wrap ((s.l.length : Int) - 0)) ≤ 12)))] (fun _ => by kernel_rfl) (endR ?_) : RT _ _ _ _ _ _ 2 _)
  rw [show IntKind.i64.wrap ((s.l.length : Int) - 0) = (s.l.length : Int) by rw [IntKind.wrap_i64]; omega]
  refine condR (b := decide ((s.l.length : Int) ≤ 12)) (by kernel_rfl) (fun _ => by kernel_rfl) (fun h1 => ?_) (fun h1 => ?_)
  · skip
    refine seqR (by kernel_rfl) ?_
    refine regionR 5 (by kernel_rfl) (by kernel_rfl) ?_
    refine (run0 (z := 1) 4 [0, 1, 2, 3, 4, 10, 11, 12, 26, 27, 28, 29] [(0, .slice s.a s.l.length s.c), (1, .int .i64 0), (2, .int .i64 (s.l.length : Int)), (3, .int .i64 lim), (4, .func (.func 68) #[] #[]), (10, .bool true), (11, .bool true), (12, .int .i64 (s.l.length : Int)), (26, .slice s.a s.l.length s.c), (27, .int .i64 0), (28, .int .i64 (s.l.length : Int)), (29, .func (.func 68) #[] #[])] (fun _ => by kernel_rfl) ?_ : RT _ _ _ _ _ _ 5 _)
    refine (stepR (z := 0) (callS 90 [.slice s.a s.l.length s.c, .int .i64 0, .int .i64 (s.l.length : Int), .func (.func 68) #[] #[]] (some 30) (fun _ => .tuple #[]) (fun _ => (H)) (fun _ => by kernel_rfl) (isort_walk _ s hk hsr hl)) (fun _ => ?_) : RT _ _ _ _ _ _ 1 _)
    refine endR ?_
    refine retR (by kernel_rfl) ?_
    refine thenV ?_
    refine blockV ?_
    refine thenV ?_
    refine blockV ?_
    refine done0 (.tuple #[]) (fun _ => by kernel_rfl) (fun w hs => ?_) .ret (.inr rfl)
    exact ⟨(), rfl, hs⟩
  · skip
    have hl2 : 12 < s.l.length := by have := of_decide_eq_false h1; omega
    refine skipR (by kernel_rfl) ?_
    refine seqR (by kernel_rfl) ?_
    refine seqR (by kernel_rfl) ?_
    refine regionR 2 (by kernel_rfl) (by kernel_rfl) ?_
    refine (run0 (z := 0) 2 [0, 1, 2, 3, 4, 10, 11, 12, 32] [(0, .slice s.a s.l.length s.c), (1, .int .i64 0), (2, .int .i64 (s.l.length : Int)), (3, .int .i64 lim), (4, .func (.func 68) #[] #[]), (10, .bool true), (11, .bool true), (12, .int .i64 (s.l.length : Int)), (32, .bool (lim == 0))] (fun _ => by kernel_rfl) (endR ?_) : RT _ _ _ _ _ _ 2 _)
    rw [show (lim == 0) = false from beq_eq_false_iff_ne.2 (hlim hl2)]
    refine condR (b := false) (by kernel_rfl) (fun _ => by kernel_rfl) (fun h => by cases h) (fun _ => ?_)
    refine skipR (by kernel_rfl) ?_
    refine seqR (by kernel_rfl) ?_
    refine seqR (by kernel_rfl) ?_
    refine regionR 2 (by kernel_rfl) (by kernel_rfl) ?_
    refine (run0 (z := 0) 2 [0, 1, 2, 3, 4, 10, 11, 12, 39] [(0, .slice s.a s.l.length s.c), (1, .int .i64 0), (2, .int .i64 (s.l.length : Int)), (3, .int .i64 lim), (4, .func (.func 68) #[] #[]), (10, .bool true), (11, .bool true), (12, .int .i64 (s.l.length : Int)), (39, .bool false)] (fun _ => by kernel_rfl) (endR ?_) : RT _ _ _ _ _ _ 2 _)
    refine condR (b := false) (by kernel_rfl) (fun _ => by kernel_rfl) (fun h => by cases h) (fun _ => ?_)
    refine skipR (by kernel_rfl) ?_
    refine seqR (by kernel_rfl) ?_
    refine regionR 10 (by kernel_rfl) (by kernel_rfl) ?_
    refine (run0 (z := 6) 4 [0, 1, 2, 3, 4, 10, 11, 12, 48, 49, 50, 51] [(0, .slice s.a s.l.length s.c), (1, .int .i64 0), (2, .int .i64 (s.l.length : Int)), (3, .int .i64 lim), (4, .func (.func 68) #[] #[]), (10, .bool true), (11, .bool true), (12, .int .i64 (s.l.length : Int)), (48, .slice s.a s.l.length s.c), (49, .int .i64 0), (50, .int .i64 (s.l.length : Int)), (51, .func (.func 68) #[] #[])] (fun _ => by kernel_rfl) ?_ : RT _ _ _ _ _ _ 10 _)
    refine (stepR (z := 5) (callS 93 [.slice s.a s.l.length s.c, .int .i64 0, .int .i64 (s.l.length : Int), .func (.func 68) #[] #[]] (some 52) (fun _ => .tuple #[.int .i64 ((s.l.length / 4 * 2 : Nat) : Int), .int .i64 1]) (fun _ => (H)) (fun _ => by kernel_rfl) (pivot_walk _ s hk hsr hl hl2)) (fun _ => ?_) : RT _ _ _ _ _ _ 6 _)
    refine (run0 (z := 0) 5 [0, 1, 2, 3, 4, 10, 11, 12, 13, 14] [(0, .slice s.a s.l.length s.c), (1, .int .i64 0), (2, .int .i64 (s.l.length : Int)), (3, .int .i64 lim), (4, .func (.func 68) #[] #[]), (10, .bool true), (11, .bool true), (12, .int .i64 (s.l.length : Int)), (13, .int .i64 ((s.l.length / 4 * 2 : Nat) : Int)), (14, .int .i64 1)] (fun _ => by kernel_rfl) (endR ?_) : RT _ _ _ _ _ _ 5 _)
    refine seqR (by kernel_rfl) ?_
    refine seqR (by kernel_rfl) ?_
    refine regionR 2 (by kernel_rfl) (by kernel_rfl) ?_
    refine (run0 (z := 0) 2 [0, 1, 2, 3, 4, 10, 11, 12, 13, 14, 56] [(0, .slice s.a s.l.length s.c), (1, .int .i64 0), (2, .int .i64 (s.l.length : Int)), (3, .int .i64 lim), (4, .func (.func 68) #[] #[]), (10, .bool true), (11, .bool true), (12, .int .i64 (s.l.length : Int)), (13, .int .i64 ((s.l.length / 4 * 2 : Nat) : Int)), (14, .int .i64 1), (56, .bool false)] (fun _ => by kernel_rfl) (endR ?_) : RT _ _ _ _ _ _ 2 _)
    refine condR (b := false) (by kernel_rfl) (fun _ => by kernel_rfl) (fun h => by cases h) (fun _ => ?_)
    refine skipR (by kernel_rfl) ?_
    refine seqR (by kernel_rfl) ?_
    refine seqR (by kernel_rfl) ?_
    refine regionR 8 (by kernel_rfl) (by kernel_rfl) ?_
    refine (run0 (z := 0) 8 [0, 1, 2, 3, 4, 10, 11, 12, 13, 75] [(0, .slice s.a s.l.length s.c), (1, .int .i64 0), (2, .int .i64 (s.l.length : Int)), (3, .int .i64 lim), (4, .func (.func 68) #[] #[]), (10, .bool true), (11, .bool true), (12, .int .i64 (s.l.length : Int)), (13, .int .i64 ((s.l.length / 4 * 2 : Nat) : Int)), (75, .bool true)] (fun _ => by kernel_rfl) (endR ?_) : RT _ _ _ _ _ _ 8 _)
    refine condR (b := true) (by kernel_rfl) (fun _ => by kernel_rfl) (fun _ => ?_) (fun h => by cases h)
    refine seqR (by kernel_rfl) ?_
    refine regionR 5 (by kernel_rfl) (by kernel_rfl) ?_
    refine (run0 (z := 1) 4 [0, 1, 2, 3, 4, 10, 11, 12, 13, 76, 77, 78, 79] [(0, .slice s.a s.l.length s.c), (1, .int .i64 0), (2, .int .i64 (s.l.length : Int)), (3, .int .i64 lim), (4, .func (.func 68) #[] #[]), (10, .bool true), (11, .bool true), (12, .int .i64 (s.l.length : Int)), (13, .int .i64 ((s.l.length / 4 * 2 : Nat) : Int)), (76, .slice s.a s.l.length s.c), (77, .int .i64 0), (78, .int .i64 (s.l.length : Int)), (79, .func (.func 68) #[] #[])] (fun _ => by kernel_rfl) ?_ : RT _ _ _ _ _ _ 5 _)
    refine (stepR (z := 0) (callS 95 [.slice s.a s.l.length s.c, .int .i64 0, .int .i64 (s.l.length : Int), .func (.func 68) #[] #[]] (some 80) (fun _ => .bool true) (fun _ => (H)) (fun _ => by kernel_rfl) (partial_walk _ s hk hsr hl hl2)) (fun _ => ?_) : RT _ _ _ _ _ _ 1 _)
    refine endR ?_
    refine condR (b := true) (by kernel_rfl) (fun _ => by kernel_rfl) (fun _ => ?_) (fun h => by cases h)
    refine retR (by kernel_rfl) ?_
    refine thenV ?_
    refine blockV ?_
    refine thenV ?_
    refine blockV ?_
    refine done0 (.tuple #[]) (fun _ => by kernel_rfl) (fun w hs => ?_) .ret (.inr rfl)
    exact ⟨(), rfl, hs⟩
set_option maxRecDepth 100000 in
theorem sort_walk (H : List SP) (s : SV (Int × Int)) (hk : KR H slE s) (hsr : SrtE s.l) (hl : s.l.length ≤ 64) : ∀ w, Sat w H → Calls Tryz.prog 67 #[.slice s.a s.l.length s.c, .func (.func 68) #[] #[]] w (Ret (ι := Unit) (fun _ => .tuple #[]) fun _ => H) := by
  refine enterG (fn := Tryz.f67) 14 [.slice s.a s.l.length s.c, .func (.func 68) #[] #[]] Tryz.func67 (by kernel_rfl) (by kernel_rfl) (by kernel_rfl) ?_
  refine seqR (by kernel_rfl) ?_
  refine regionR 3 (by kernel_rfl) (by kernel_rfl) ?_
  refine (run0 (z := 0) 3 [0, 1, 4] [(0, .slice s.a s.l.length s.c), (1, .func (.func 68) #[] #[]), (4, .int .i64 (s.l.length : Int))] (fun _ => by kernel_rfl) (endR ?_) : RT _ _ _ _ _ _ 3 _)
  refine regionR 7 (by kernel_rfl) (by kernel_rfl) ?_
  refine (run0 (z := 3) 4 [1, 7, 8, 10] [(1, .func (.func 68) #[] #[]), (7, .slice s.a s.l.length s.c), (8, .int .i64 (s.l.length : Int)), (10, .int .u64 (IntKind.u64.wrap (s.l.length : Int)))] (fun _ => by kernel_rfl) ?_ : RT _ _ _ _ _ _ 7 _)
  rw [show IntKind.u64.wrap (s.l.length : Int) = (s.l.length : Int) by rw [IntKind.wrap_u64]; omega]
  refine (stepR (z := 2) (callS 71 [.int .u64 (s.l.length : Int)] (some 11) (fun _ => .int .i64 (len8 (s.l.length : Int))) (fun _ => (H)) (fun _ => by kernel_rfl) (bitsLen_walk _ (s.l.length : Int) (by omega) (by omega))) (fun _ => ?_) : RT _ _ _ _ _ _ 3 _)
  refine (run0 (z := 1) 1 [11, 7, 8, 12] [(11, .int .i64 (len8 (s.l.length : Int))), (7, .slice s.a s.l.length s.c), (8, .int .i64 (s.l.length : Int)), (12, .func (.func 68) #[] #[])] (fun _ => by kernel_rfl) ?_ : RT _ _ _ _ _ _ 2 _)
  refine (stepR (z := 0) (callS 74 [.slice s.a s.l.length s.c, .int .i64 0, .int .i64 (s.l.length : Int), .int .i64 (len8 (s.l.length : Int)), .func (.func 68) #[] #[]] (some 13) (fun _ => .tuple #[]) (fun _ => (H)) (fun _ => by kernel_rfl) (pdq_walk _ s (len8 (s.l.length : Int)) (fun h => by have := (len8_big ⟨s.l.length, by omega⟩).2.2 h; exact this) hk hsr hl)) (fun _ => ?_) : RT _ _ _ _ _ _ 1 _)
  refine endR ?_
  refine done0 (.tuple #[]) (fun _ => by kernel_rfl) (fun w hs => ?_) .normal (.inl rfl)
  exact ⟨(), rfl, hs⟩
end Go.Proofs.YtjbjngikaiggdaaGreatDoor
set_option linter.unusedVariables false
set_option linter.unusedSimpArgs false
namespace Go.Proofs.YtjbjngikaiggdaaGreatDoor
open Go.RowKit G
theorem Sat.blkRow0 {α : Type} {E : Enc α} {T : TypeId} {H : List SP} {w : World} {b : Nat} (h : Sat w (blk b T [] :: H)) : Sat w (row E T (.slice (some ⟨b, 0, none⟩) 0 0) ([] : List α) :: H) :=
  Sat.change h fun G hG => by
    refine ⟨Upd.refl _ w, OneB b, .inr ⟨b, 0, 0, _, rfl, rfl, hG.1, by simp, by simp [maxLen], by simp, ?_⟩, fun x hx => .inl ((hG.2 x).2 hx)⟩
    simp; rfl
theorem PT.blkRow0 {α : Type} {E : Enc α} {T : TypeId} {H : List SP} {n : Nat} {L : List (Nat × Value)} {b : Nat} {Φ : Act → World → Prop} (h : PT n L (row E T (.slice (some ⟨b, 0, none⟩) 0 0) ([] : List α) :: H) Φ) : PT n L (blk b T [] :: H) Φ := PT.sat (fun w hs => Sat.blkRow0 hs) h
theorem rowA {α : Type} {E : Enc α} {T : TypeId} {H : List SP} (i : Nat) {A : Option Addr} {k : Nat} {xs : List α} (hi : H[i]? = some (row E T (.slice A xs.length k) xs)) : ∀ w, Sat w H → (A = none ∧ xs = [] ∧ k = 0) ∨ ∃ b o, A = some ⟨b, o, none⟩ := by
  intro w hs
  obtain ⟨G, hG⟩ := (hs.pick i hi).head
  rcases hG with ⟨h1, h2, _⟩ | ⟨b, o, c, cur, h1, _⟩
  · injection h1 with e1 e2 e3; exact .inl ⟨e1, h2, e3⟩
  · injection h1 with e1 e2 e3; exact .inr ⟨b, o, e1⟩
theorem rowKRm {α : Type} {E : Enc α} {T : TypeId} {H : List SP} (i : Nat) {A : Option Addr} {m k : Nat} {xs : List α} (hi : H[i]? = some (row E T (.slice A m k) xs)) (hm : m = xs.length) : KR H E ⟨A, k, xs⟩ := by subst hm; exact rowKRat i hi
theorem ent_ety : Ety Tryz.prog slE 75 (.agg #[.int .i64 0, .int .i64 0]) := etySl
def shN (n : Int) : Int := mnI (mxI n 0) 1099511627776
def shiftE (l : List (Int × Int)) (n : Int) : List (Int × Int) := l.map fun e => (mxI 0 (IntKind.i64.wrap (e.1 - shN n)), e.2)
set_option maxHeartbeats 1000000 in
set_option maxRecDepth 100000 in
theorem shift_walk (H : List SP) (b : Nat) (A : Option Addr) (cap : Nat) (room : Int) (l : List (Int × Int)) (n : Int) (hl : l.length ≤ 64) (hsr : SrtE (shiftE l n)) : ∀ w, Sat w (blk b 90 [.slice A l.length cap, .int .i64 room] :: row slE 75 (.slice A l.length cap) l :: H) → Calls Tryz.prog 57 #[.pointer (some ⟨b, 0, none⟩), .int .i64 n] w (Ret (ι := Unit) (fun _ => .tuple #[]) fun _ => blk b 90 [.slice A (shiftE l n).length cap, .int .i64 room] :: row slE 75 (.slice A (shiftE l n).length cap) (shiftE l n) :: H) := by
  refine enterG (fn := Tryz.f57) 40 [.pointer (some ⟨b, 0, none⟩), .int .i64 n] Tryz.func57 (by kernel_rfl) (by kernel_rfl) (by kernel_rfl) ?_
  refine seqR (by kernel_rfl) ?_
  refine regionR 4 (by kernel_rfl) (by kernel_rfl) ?_
  refine (run0 (z := 0) 4 [0, 1] [(0, .pointer (some ⟨b, 0, none⟩)), (1, .int .i64 (mnI (mxI n 0) 1099511627776))] (fun _ => by kernel_rfl) (endR ?_) : RT _ _ _ _ _ _ 4 _)
  refine seqR (by kernel_rfl) ?_
  refine seqR (by kernel_rfl) ?_
  refine regionR 6 (by kernel_rfl) (by kernel_rfl) ?_
  refine (runR (H := (blk b 90 [.slice A l.length cap, .int .i64 room] :: row slE 75 (.slice A l.length cap) l :: H)) (z := 0) 6 [0, 1, 12, 13] [(0, .pointer (some ⟨b, 0, none⟩)), (1, .int .i64 (mnI (mxI n 0) 1099511627776)), (12, .int .i64 (l.length : Int)), (13, .int .i64 0)] [(⟨b, 0, none⟩, .slice A l.length cap)] (hasC (blkAt (T := 90) (cs := [.slice A l.length cap, .int .i64 room]) 0 rfl rfl) has0) (fun _ => by kernel_rfl) (endR ?_) : RT _ _ _ _ _ _ 6 _)
  refine blockR 0 (by kernel_rfl) (by kernel_rfl) ?_
  refine PT.keep (L' := [(0, .pointer (some ⟨b, 0, none⟩)), (1, .int .i64 (mnI (mxI n 0) 1099511627776)), (12, .int .i64 (l.length : Int)), (13, .int .i64 0)]) [0, 1, 12, 13] rfl ?_
  refine loopG (fun (x : List (Int × Int) × Nat) => [(0, .pointer (some ⟨b, 0, none⟩)), (1, .int .i64 (shN n)), (12, .int .i64 (l.length : Int)), (13, .int .i64 (x.2 : Int))]) (fun (x : List (Int × Int) × Nat) => (blk b 90 [.slice A l.length cap, .int .i64 room] :: row slE 75 (.slice A l.length cap) x.1 :: H)) (fun k (x : List (Int × Int) × Nat) => k + x.2 = l.length ∧ x.1 = (shiftE l n).take x.2 ++ l.drop x.2) l.length (l, 0) (by kernel_rfl) ⟨by simp, by simp⟩ ?_
  rintro k ⟨xs, u⟩ ⟨hku, hxs⟩
  dsimp only at hku hxs ⊢
  have hsl : (shiftE l n).length = l.length := by simp [shiftE]
  have hxl : xs.length = l.length := by rw [hxs, List.length_append, List.length_take, List.length_drop]; omega
  refine seqR (by kernel_rfl) ?_
  refine regionR 1 (by kernel_rfl) (by kernel_rfl) ?_
  refine (run0 (z := 0) 1 [0, 1, 12, 13, 14] [(0, .pointer (some ⟨b, 0, none⟩)), (1, .int .i64 (shN n)), (12, .int .i64 (l.length : Int)), (13, .int .i64 (u : Int)), (14, .bool (decide ((u : Int) < (l.length : Int))))] (fun _ => by kernel_rfl) (endR ?_) : RT _ _ _ _ _ _ 1 _)
  refine seqR (by kernel_rfl) ?_
  refine condR (b := decide ((u : Int) < (l.length : Int))) (by kernel_rfl) (fun _ => by kernel_rfl) (fun h1 => ?_) (fun h1 => ?_)
  · skip
    have hu : u < l.length := by have := of_decide_eq_true h1; omega
    obtain ⟨e, he⟩ : ∃ e, l[u]? = some e := ⟨_, by simp [hu]; rfl⟩
    have hxe : xs[u]? = some e := by rw [hxs, List.getElem?_append_right (by rw [List.length_take]; omega), List.length_take, List.getElem?_drop, hsl, show u + (u - min u l.length) = u by omega]; exact he
    have hse : (shiftE l n)[u]? = some (mxI 0 (IntKind.i64.wrap (e.1 - shN n)), e.2) := by rw [shiftE, List.getElem?_map, he]; rfl
    have hset : xs.set u (mxI 0 (IntKind.i64.wrap (e.1 - shN n)), e.2) = (shiftE l n).take (u + 1) ++ l.drop (u + 1) := by
      rw [hxs, List.set_append_right _ _ (by rw [List.length_take]; omega), List.length_take, hsl, show u - min u l.length = 0 by omega, List.take_add_one, hse, List.drop_eq_getElem_cons hu, List.set_cons_zero, List.append_assoc]
      rfl
    refine PT.know (KR.isSome (s := ⟨A, cap, xs⟩) (rowKRm 1 rfl hxl.symm) (List.ne_nil_of_length_pos (by show 0 < xs.length; omega))) ?_
    rintro ⟨sb, so, hA⟩
    dsimp only at hA
    subst hA
    refine skipR (by kernel_rfl) ?_
    refine seqR (by kernel_rfl) ?_
    refine blockR 1 (by kernel_rfl) (by kernel_rfl) ?_
    refine seqR (by kernel_rfl) ?_
    refine regionR 2 (by kernel_rfl) (by kernel_rfl) ?_
    refine (run0 (z := 0) 2 [0, 1, 12, 13, 4] [(0, .pointer (some ⟨b, 0, none⟩)), (1, .int .i64 (shN n)), (12, .int .i64 (l.length : Int)), (13, .int .i64 (u : Int)), (4, .int .i64 (u : Int))] (fun _ => by kernel_rfl) (endR ?_) : RT _ _ _ _ _ _ 2 _)
    refine drawR (fun w => Sat w (blk b 90 [.slice (some ⟨sb, so, none⟩) l.length cap, .int .i64 room] :: row slE 75 (.slice (some ⟨sb, so, none⟩) l.length cap) xs :: H)) [18] 19 (by kernel_rfl) (by kernel_rfl) (by kernel_rfl) (fun _ h => by first | exact h | exact h.tail | exact h.tail.tail | exact h.tail.tail.tail | exact h.tail.tail.tail.tail) ?_
    refine takesR [0, 1, 2, 3, 4, 5, 6, 7, 8, 9, 13] [0, 1, 12, 13, 19, 20, 24, 25, 29] 8 [true, true, true, true, true, true, true, true, true, true, false, false, false, true, false, false, false, false, false] [(0, .pointer (some ⟨b, 0, none⟩)), (1, .int .i64 (shN n)), (12, .int .i64 (l.length : Int)), (13, .int .i64 (u : Int)), (19, .slice (some ⟨sb, so, none⟩) l.length cap), (20, .int .i64 (u : Int)), (24, .slice (some ⟨sb, so, none⟩) l.length cap), (25, .int .i64 (u : Int)), (29, .int .i64 (shN n))] [(⟨b, 0, none⟩, .slice (some ⟨sb, so, none⟩) l.length cap), (⟨b, 0, none⟩, .slice (some ⟨sb, so, none⟩) l.length cap)] rfl (fun _ d _ _ _ h => by cases d <;> exact h) (fun _ h => by first | exact h | exact h.tail | exact h.tail.tail | exact h.tail.tail.tail | exact h.tail.tail.tail.tail) (hasC (blkAt (T := 90) (cs := [.slice (some ⟨sb, so, none⟩) l.length cap, .int .i64 room]) 0 rfl rfl) (hasC (blkAt (T := 90) (cs := [.slice (some ⟨sb, so, none⟩) l.length cap, .int .i64 room]) 0 rfl rfl) has0)) (fun _ => by kernel_rfl) ?_
    refine takeR1 10 7 [true, true, true, true, true, true, true, true, true, true, true, false, false, true, false, false, false, false, false] rfl rfl (by kernel_rfl) (fun _ d _ _ _ h => by cases d <;> exact h) (fun _ h => by first | exact h | exact h.tail | exact h.tail.tail | exact h.tail.tail.tail | exact h.tail.tail.tail.tail) (idxY 88 (.tmp 24) (.tmp 25) sb so l.length cap u 2 75 (u : Int) .i64 (some 26) (fun _ => by kernel_rfl) (by kernel_rfl) (by kernel_rfl) (fun _ => by kernel_rfl) (fun _ => by kernel_rfl) Tryz.underlying88 (by kernel_rfl) (by first | rfl | assumption | simp) (by first | omega | (simp; done) | (simp; omega) | (simp at *; omega))) ?_
    refine takesR [11, 12, 14, 15] [0, 1, 12, 13, 19, 20, 31] 3 [true, true, true, true, true, true, true, true, true, true, true, true, true, true, true, true, false, false, false] [(0, .pointer (some ⟨b, 0, none⟩)), (1, .int .i64 (shN n)), (12, .int .i64 (l.length : Int)), (13, .int .i64 (u : Int)), (19, .slice (some ⟨sb, so, none⟩) l.length cap), (20, .int .i64 (u : Int)), (31, .int .i64 (mxI 0 (IntKind.i64.wrap (e.1 - (shN n)))))] [(⟨sb, so + u * 2, none⟩, .int .i64 e.1)] rfl (fun _ d _ _ _ h => by cases d <;> exact h) (fun _ h => by first | exact h | exact h.tail | exact h.tail.tail | exact h.tail.tail.tail | exact h.tail.tail.tail.tail) (hasC ((rowKRm (xs := xs) (m := l.length) (A := some ⟨sb, so, none⟩) (k := cap) (E := slE) (T := 75) 1 rfl hxl.symm).cell rfl (i := u) (x := e) hxe (j := 0) rfl) has0) (fun _ => by kernel_rfl) ?_
    refine takeR1 16 2 [true, true, true, true, true, true, true, true, true, true, true, true, true, true, true, true, true, false, false] rfl rfl (by kernel_rfl) (fun _ d _ _ _ h => by cases d <;> exact h) (fun _ h => by first | exact h | exact h.tail | exact h.tail.tail | exact h.tail.tail.tail | exact h.tail.tail.tail.tail) (idxY 88 (.tmp 19) (.tmp 20) sb so l.length cap u 2 75 (u : Int) .i64 (some 32) (fun _ => by kernel_rfl) (by kernel_rfl) (by kernel_rfl) (fun _ => by kernel_rfl) (fun _ => by kernel_rfl) Tryz.underlying88 (by kernel_rfl) (by first | rfl | assumption | simp) (by first | omega | (simp; done) | (simp; omega) | (simp at *; omega))) ?_
    refine takesR [17] [0, 1, 12, 13, 31, 33] 1 [true, true, true, true, true, true, true, true, true, true, true, true, true, true, true, true, true, true, false] [(0, .pointer (some ⟨b, 0, none⟩)), (1, .int .i64 (shN n)), (12, .int .i64 (l.length : Int)), (13, .int .i64 (u : Int)), (31, .int .i64 (mxI 0 (IntKind.i64.wrap (e.1 - (shN n))))), (33, .pointer (some ⟨sb, so + u * 2, none⟩))] [] rfl (fun _ d _ _ _ h => by cases d <;> exact h) (fun _ h => by first | exact h | exact h.tail | exact h.tail.tail | exact h.tail.tail.tail | exact h.tail.tail.tail.tail) has0 (fun _ => by kernel_rfl) ?_
    refine DT.pick 1 rfl ?_
    refine oneR 18 0 [true, true, true, true, true, true, true, true, true, true, true, true, true, true, true, true, true, true, true] rfl rfl (by kernel_rfl) (setS (E := slE) (J := u) (j := 0) e (mxI 0 (IntKind.i64.wrap (e.1 - shN n)), e.2) (.int .i64 (mxI 0 (IntKind.i64.wrap (e.1 - (shN n))))) ⟨sb, so + u * 2, none⟩ (fun _ => by kernel_rfl) (by first | rfl | simp) (hxe) (rfl) (by decide)) (fun _ _ h hn => by first | exact h | exact h.tail | exact h.tail.tail | exact h.tail.tail.tail | exact h.tail.tail.tail.tail | exact absurd hn (by decide)) (fun _ => ?_)
    refine drawnR (by kernel_rfl) ?_
    refine regionR 2 (by kernel_rfl) (by kernel_rfl) ?_
    refine (run0 (z := 0) 2 [0, 1, 12, 13] [(0, .pointer (some ⟨b, 0, none⟩)), (1, .int .i64 (shN n)), (12, .int .i64 (l.length : Int)), (13, .int .i64 (IntKind.i64.wrap ((u : Int) + 1)))] (fun _ => by kernel_rfl) (endR ?_) : RT _ _ _ _ _ _ 2 _)
    rw [show IntKind.i64.wrap ((u : Int) + 1) = ((u + 1 : Nat) : Int) by rw [IntKind.wrap_i64]; omega]
    refine PT.pick 1 rfl ?_
    refine PT.keep (L' := [(0, .pointer (some ⟨b, 0, none⟩)), (1, .int .i64 (shN n)), (12, .int .i64 (l.length : Int)), (13, .int .i64 ((u + 1 : Nat) : Int))]) [0, 1, 12, 13] rfl ?_
    exact againG (k - 1) (xs.set u (mxI 0 (IntKind.i64.wrap (e.1 - shN n)), e.2), u + 1) rfl rfl (by omega) ⟨by simp only; omega, hset⟩
  · skip
    have hu : u = l.length := by have := of_decide_eq_false h1; omega
    have hfin : xs = shiftE l n := by rw [hxs, hu, List.drop_length, List.append_nil, List.take_of_length_le (by omega)]
    rw [hfin]
    refine exitR 0 (by kernel_rfl) (by kernel_rfl) ?_
    refine thenX ?_
    refine thenX ?_
    refine leaveR ?_
    refine regionR 5 (by kernel_rfl) (by kernel_rfl) ?_
    refine (runR (H := (blk b 90 [.slice A l.length cap, .int .i64 room] :: row slE 75 (.slice A l.length cap) (shiftE l n) :: H)) (z := 1) 4 [38] [(38, .slice A l.length cap)] [(⟨b, 0, none⟩, .slice A l.length cap)] (hasC (blkAt (T := 90) (cs := [.slice A l.length cap, .int .i64 room]) 0 rfl rfl) has0) (fun _ => by kernel_rfl) ?_ : RT _ _ _ _ _ _ 5 _)
    rw [← hsl]
    refine (stepR (z := 0) (callS 67 [.slice A ((shiftE l n).length) cap, .func (.func 68) #[] #[]] (some 39) (fun _ => .tuple #[]) (fun _ => (blk b 90 [.slice A ((shiftE l n).length) cap, .int .i64 room] :: row slE 75 (.slice A ((shiftE l n).length) cap) (shiftE l n) :: H)) (fun _ => by kernel_rfl) (sort_walk (blk b 90 [.slice A ((shiftE l n).length) cap, .int .i64 room] :: row slE 75 (.slice A ((shiftE l n).length) cap) (shiftE l n) :: H) ⟨A, cap, shiftE l n⟩ (rowKRat 1 rfl) hsr (by show (shiftE l n).length ≤ 64; omega))) (fun _ => ?_) : RT _ _ _ _ _ _ 1 _)
    refine endR ?_
    refine done0 (.tuple #[]) (fun _ => by kernel_rfl) (fun w hs => ?_) .normal (.inl rfl)
    exact ⟨(), rfl, hs⟩
theorem put_idx (H : List SP) (b : Nat) (room : Int) (l : List (Int × Int)) (p id : Int) (hsr : SrtE l) (hl : l.length < 1000000) : ∀ w, Sat w (idxS b room l :: H) → Calls Tryz.prog 53 #[.pointer (some ⟨b, 0, none⟩), .int .i64 p, .int .i64 id] w (Ret (ι := Unit) (fun _ => pqErr (putE room l p id).1) fun _ => idxS b room (putE room l p id).2 :: H) :=
  idx_open fun A cap w hs => (put_walk H b A cap room l p id hsr hl w hs).mono fun e w' ⟨x, he, hx⟩ => ⟨(), he, Sat.idx hx⟩
theorem drop_idx (H : List SP) (b : Nat) (room : Int) (l : List (Int × Int)) (id : Int) (hl : l.length < 1000000) : ∀ w, Sat w (idxS b room l :: H) → Calls Tryz.prog 50 #[.pointer (some ⟨b, 0, none⟩), .int .i64 id] w (Ret (ι := Unit) (fun _ => pqErr (dropE l id).1) fun _ => idxS b room (dropE l id).2 :: H) :=
  idx_open fun A cap w hs => (drop_walk H b A cap room l id hl w hs).mono fun e w' ⟨x, he, hx⟩ => ⟨(), he, Sat.idx hx⟩
theorem rekey_idx (H : List SP) (b : Nat) (room : Int) (l : List (Int × Int)) (id p : Int) (hsr : SrtE l) (hl : l.length < 1000000) : ∀ w, Sat w (idxS b room l :: H) → Calls Tryz.prog 55 #[.pointer (some ⟨b, 0, none⟩), .int .i64 id, .int .i64 p] w (Ret (ι := Unit) (fun _ => pqErr (rekeyE l id p).1) fun _ => idxS b room (rekeyE l id p).2 :: H) :=
  idx_open fun A cap w hs => (rekey_walk H b A cap room l id p hsr hl w hs).mono fun e w' ⟨x, he, hx⟩ => ⟨(), he, Sat.idx hx⟩
theorem shift_idx (H : List SP) (b : Nat) (room : Int) (l : List (Int × Int)) (n : Int) (hl : l.length ≤ 64) (hsr : SrtE (shiftE l n)) : ∀ w, Sat w (idxS b room l :: H) → Calls Tryz.prog 57 #[.pointer (some ⟨b, 0, none⟩), .int .i64 n] w (Ret (ι := Unit) (fun _ => .tuple #[]) fun _ => idxS b room (shiftE l n) :: H) :=
  idx_open fun A cap w hs => (shift_walk H b A cap room l n hl hsr w hs).mono fun e w' ⟨x, he, hx⟩ => ⟨(), he, Sat.idx hx⟩
end Go.Proofs.YtjbjngikaiggdaaGreatDoor
set_option linter.unusedVariables false
set_option linter.unusedSimpArgs false
namespace Go.Proofs.YtjbjngikaiggdaaGreatDoor
open Go.RowKit G Go.Extern.Stop Go.Stop Go.Extern
theorem isTypeOf (v : Value) (w : World) : (Extern.ReflectliteType.typeOf #[.iface 52 v]).run Tryz.prog w = .ok (.iface 108 (.agg #[typeHandle Tryz.prog 52])) w := by kernel_rfl
theorem isComparable (w : World) : ((Extern.ReflectliteType.method fun t => do Extern.Rtype.noPackHeld "Comparable" t; (fun a => Value.bool a.comparable) <$> typeInfo t) #[.agg #[typeHandle Tryz.prog 52]]).run Tryz.prog w = .ok (.bool true) w := by kernel_rfl
theorem noIsE (v : Value) (xT : TypeId) (w : World) : (Instr.typeAssert (.iface 52 v) xT 110 true).run Tryz.prog w = .ok (.tuple #[.nilIface, .bool false]) w := run_typeAssert_lacksB Tryz.underlying110 (by kernel_rfl) (by kernel_rfl) v xT w
theorem noUnwrapE (v : Value) (xT : TypeId) (w : World) : (Instr.typeAssert (.iface 52 v) xT 113 true).run Tryz.prog w = .ok (.tuple #[.nilIface, .bool false]) w := run_typeAssert_lacksB Tryz.underlying113 (by kernel_rfl) (by kernel_rfl) v xT w
theorem noUnwrapsE (v : Value) (xT : TypeId) (w : World) : (Instr.typeAssert (.iface 52 v) xT 115 true).run Tryz.prog w = .ok (.tuple #[.nilIface, .bool false]) w := run_typeAssert_lacksB Tryz.underlying115 (by kernel_rfl) (by kernel_rfl) v xT w
theorem isMeth (k : Nat) (v : Value) (w : World) : (Go.method (k + 1) 108 v "Comparable").run Tryz.prog w = .ok (134, v) w := by kernel_rfl
set_option maxHeartbeats 1000000 in
set_option maxRecDepth 100000 in
theorem is_errno (a b : Int) (w : World) :
    Calls Tryz.prog 24 #[.iface 52 (.int .i64 a), .iface 52 (.int .i64 b)] w fun e w' => e = .returned (.bool (a == b)) ∧ w' = w := by
  have h8 := @run_callFunc_extern Tryz.prog 43 _ Extern.ReflectliteType.typeOf Tryz.func43 (by kernel_rfl) (by kernel_rfl) (by kernel_rfl) (by kernel_rfl)
  have h32 := @run_callFunc_extern Tryz.prog 134 _ (Extern.ReflectliteType.method fun t => do Extern.Rtype.noPackHeld "Comparable" t; pure (.bool (← typeInfo t).comparable)) Tryz.func134 (by kernel_rfl) (by kernel_rfl) (by kernel_rfl) (by kernel_rfl)
  have tT := isTypeOf
  have cT := isComparable
  obtain ⟨hh, hhe⟩ : ∃ h, h = typeHandle Tryz.prog 52 := ⟨_, rfl⟩
  rw [← hhe] at tT cT
  clear hhe
  have mR := isMeth
  have nE := noIsE
  have uE := noUnwrapE
  have vE := noUnwrapsE
  have heq := Go.Lib.run_eql_iface_int (P := Tryz.prog) (t := 32) (tx := 52) (k := .i64) w a b Tryz.underlying32 (by kernel_rfl) Tryz.underlying52
  go_enter Tryz.func24, Tryz.ntmps24
  go_wp2
  refine wp_loop_rounds 1 ?_
  rw [rounds_succ]
  cases hab : (a == b) with
  | true =>
    go_wp2
    go_ret
    exact ⟨by simp [hab], by simp⟩
  | false =>
    go_wp2
    go_ret
    exact ⟨by simp [hab], by simp⟩
end Go.Proofs.YtjbjngikaiggdaaGreatDoor
set_option linter.unusedVariables false
set_option linter.unusedSimpArgs false
namespace Go.Proofs.YtjbjngikaiggdaaGreatDoor
open Go.RowKit G
theorem isErr_walk (H : List SP) (a b : Int) : ∀ w, Sat w H → Calls Tryz.prog 24 #[.iface 52 (.int .i64 a), .iface 52 (.int .i64 b)] w (Ret (ι := Unit) (fun _ => .bool (a == b)) fun _ => H) := fun w hs =>
  (is_errno a b w).mono fun e w' ⟨he, hw⟩ => ⟨(), he, hw ▸ hs⟩
theorem eqFields_int {P : Program} (w : World) (d : Nat) (xs ys : Array Value) (f : Field) (fs : List Field) (k k' : IntKind) (a b : Int) (hn : (f.name == "_") = false) (hu : P.underlying f.type = some (.int k')) (hp : P.plainKey f.type = true) (hx : xs[f.offset]? = some (.int k a)) (hy : ys[f.offset]? = some (.int k b)) :
    (Op.eqFields (d + 1) xs ys (f :: fs)).run P w = if (a == b) = true then (Op.eqFields (d + 1) xs ys fs).run P w else .ok false w := by
  have hn' : f.name ≠ "_" := by simpa using hn
  rw [Op.eqFields, if_pos hn']
  simp only [Sem.run_bind, run_part_plain w hp hx, run_part_plain w hp hy, Result.andThen_ok, run_equalIn_int w d f.type k k' a b hu]
  cases h : (a == b) <;> simp
theorem SatF.unpick : ∀ {l : List SP} (i : Nat) {P : SP} {w : World} {F : Nat → Prop}, l[i]? = some P → SatF (P :: l.eraseIdx i) w F → SatF l w F
  | [], i, P, w, F, h, _ => by simp at h
  | Q :: l, 0, P, w, F, h, hs => by simp at h; subst h; exact hs
  | Q :: l, i + 1, P, w, F, h, hs => by
    obtain ⟨G, h1, h2, h3⟩ := SatF.swap hs
    exact ⟨G, h1, h2, SatF.unpick i (by simpa using h) h3⟩
theorem same_at {P : Program} {f : FuncId} {vs : Array Value} {v : Value} {X : SP} {H : List SP} (j : Nat) (hj : H[j]? = some X) (h : ∀ w, Sat w (X :: H.eraseIdx j) → Calls P f vs w (Ret (ι := Unit) (fun _ => v) fun _ => X :: H.eraseIdx j)) : ∀ w, Sat w H → Calls P f vs w (Ret (ι := Unit) (fun _ => v) fun _ => H) := fun w hs =>
  (h w (hs.pick j hj)).mono fun e w' ⟨p, he, hx⟩ => ⟨p, he, SatF.unpick j hj hx⟩
theorem SatF.unpickSet : ∀ {l : List SP} (i : Nat) {P Y : SP} {w : World} {F : Nat → Prop}, l[i]? = some P → SatF (Y :: l.eraseIdx i) w F → SatF (l.set i Y) w F
  | [], i, P, Y, w, F, h, _ => by simp at h
  | Q :: l, 0, P, Y, w, F, h, hs => hs
  | Q :: l, i + 1, P, Y, w, F, h, hs => by
    obtain ⟨G, h1, h2, h3⟩ := SatF.swap hs
    exact ⟨G, h1, h2, SatF.unpickSet i (by simpa using h) h3⟩
theorem chg_at {ι : Type} {P : Program} {f : FuncId} {vs : Array Value} {rv : ι → Value} {X : SP} {Y : ι → SP} {H : List SP} (j : Nat) (hj : H[j]? = some X) (h : ∀ w, Sat w (X :: H.eraseIdx j) → Calls P f vs w (Ret rv fun x => Y x :: H.eraseIdx j)) : ∀ w, Sat w H → Calls P f vs w (Ret rv fun x => H.set j (Y x)) := fun w hs =>
  (h w (hs.pick j hj)).mono fun e w' ⟨p, he, hx⟩ => ⟨p, he, SatF.unpickSet j hj hx⟩
def entEq (a b : Int × Int) : Bool := a.1 == b.1 && a.2 == b.2
theorem ent_eqv (a b : Int × Int) (w : World) : (Op.equalIn 10000 75 (.agg #[.int .i64 a.1, .int .i64 a.2]) (.agg #[.int .i64 b.1, .int .i64 b.2])).run Tryz.prog w = .ok (entEq a b) w := by
  unfold entEq
  rw [run_equalIn_struct w 9999 _ _ _ (by kernel_rfl) (by kernel_rfl)]
  have hl : (Tryz.prog.fieldsOf 75).toList = [(Tryz.prog.fieldsOf 75).toList.getD 0 default, (Tryz.prog.fieldsOf 75).toList.getD 1 default] := by kernel_rfl
  rw [hl, eqFields_int w 9998 _ _ _ _ .i64 .i64 a.1 b.1 (by kernel_rfl) (by kernel_rfl) (by kernel_rfl) (by kernel_rfl) (by kernel_rfl), eqFields_int w 9998 _ _ _ _ .i64 .i64 a.2 b.2 (by kernel_rfl) (by kernel_rfl) (by kernel_rfl) (by kernel_rfl) (by kernel_rfl)]
  cases a.1 == b.1 <;> cases a.2 == b.2 <;> simp [Op.eqFields]
theorem ent_eql (a b : Int × Int) (x y : Operand) (w : World) : (do eqGuard .eql 75 x y (.agg #[.int .i64 a.1, .int .i64 a.2]) (.agg #[.int .i64 b.1, .int .i64 b.2]); binOp .eql 75 (.agg #[.int .i64 a.1, .int .i64 a.2]) (.agg #[.int .i64 b.1, .int .i64 b.2]) : Sem Value).run Tryz.prog w = .ok (.bool (entEq a b)) w := by
  have h := ent_eqv a b w
  rw [Sem.run_bind, run_eqGuard_agg w _ _ _ _ _ _ (by kernel_rfl)]
  simp only [Result.andThen_ok]
  rw [run_eql_struct, h]
  rfl
theorem ent_neq (a b : Int × Int) (x y : Operand) (w : World) : (do eqGuard .neq 75 x y (.agg #[.int .i64 a.1, .int .i64 a.2]) (.agg #[.int .i64 b.1, .int .i64 b.2]); binOp .neq 75 (.agg #[.int .i64 a.1, .int .i64 a.2]) (.agg #[.int .i64 b.1, .int .i64 b.2]) : Sem Value).run Tryz.prog w = .ok (.bool (!entEq a b)) w := by
  have h := ent_eqv a b w
  rw [Sem.run_bind, run_eqGuard_agg w _ _ _ _ _ _ (by kernel_rfl)]
  simp only [Result.andThen_ok]
  rw [run_neq_struct, h]
  rfl
theorem put_ok {l' : List (Int × Int)} {room : Int} {l : List (Int × Int)} {p id : Int} (h : putE room l p id = (0, l')) (hsr : SrtE l) (hl : l.length < 1000000) (H : List SP) (b : Nat) : ∀ w, Sat w (idxS b room l :: H) → Calls Tryz.prog 53 #[.pointer (some ⟨b, 0, none⟩), .int .i64 p, .int .i64 id] w (Ret (ι := Unit) (fun _ => .nilIface) fun _ => idxS b room l' :: H) := by
  have := put_idx H b room l p id hsr hl
  rw [h] at this
  exact this
theorem put_no {e : Int} {room : Int} {l : List (Int × Int)} {p id : Int} (h : putE room l p id = (e, l)) (he : e ≠ 0) (hsr : SrtE l) (hl : l.length < 1000000) (H : List SP) (b : Nat) : ∀ w, Sat w (idxS b room l :: H) → Calls Tryz.prog 53 #[.pointer (some ⟨b, 0, none⟩), .int .i64 p, .int .i64 id] w (Ret (ι := Unit) (fun _ => .iface 52 (.int .i64 e)) fun _ => idxS b room l :: H) := by
  have := put_idx H b room l p id hsr hl
  rw [h] at this
  simp only [pqErr, if_neg he] at this
  exact this
theorem drop_ok {l' : List (Int × Int)} {room : Int} {l : List (Int × Int)} {id : Int} (h : dropE l id = (0, l')) (hl : l.length < 1000000) (H : List SP) (b : Nat) : ∀ w, Sat w (idxS b room l :: H) → Calls Tryz.prog 50 #[.pointer (some ⟨b, 0, none⟩), .int .i64 id] w (Ret (ι := Unit) (fun _ => .nilIface) fun _ => idxS b room l' :: H) := by
  have := drop_idx H b room l id hl
  rw [h] at this
  exact this
theorem drop_no {room : Int} {l : List (Int × Int)} {id : Int} (h : dropE l id = (13, l)) (hl : l.length < 1000000) (H : List SP) (b : Nat) : ∀ w, Sat w (idxS b room l :: H) → Calls Tryz.prog 50 #[.pointer (some ⟨b, 0, none⟩), .int .i64 id] w (Ret (ι := Unit) (fun _ => .iface 52 (.int .i64 13)) fun _ => idxS b room l :: H) := by
  have := drop_idx H b room l id hl
  rw [h] at this
  exact this
theorem rekey_ok {l' : List (Int × Int)} {room : Int} {l : List (Int × Int)} {id p : Int} (h : rekeyE l id p = (0, l')) (hsr : SrtE l) (hl : l.length < 1000000) (H : List SP) (b : Nat) : ∀ w, Sat w (idxS b room l :: H) → Calls Tryz.prog 55 #[.pointer (some ⟨b, 0, none⟩), .int .i64 id, .int .i64 p] w (Ret (ι := Unit) (fun _ => .nilIface) fun _ => idxS b room l' :: H) := by
  have := rekey_idx H b room l id p hsr hl
  rw [h] at this
  exact this
theorem shift_is {l' : List (Int × Int)} {room : Int} {l : List (Int × Int)} {n : Int} (h : shiftE l n = l') (hsr : SrtE l') (hl : l.length ≤ 64) (H : List SP) (b : Nat) : ∀ w, Sat w (idxS b room l :: H) → Calls Tryz.prog 57 #[.pointer (some ⟨b, 0, none⟩), .int .i64 n] w (Ret (ι := Unit) (fun _ => .tuple #[]) fun _ => idxS b room l' :: H) := by
  have := shift_idx H b room l n hl (by rw [h]; exact hsr)
  rw [h] at this
  exact this
end Go.Proofs.YtjbjngikaiggdaaGreatDoor
set_option linter.unusedVariables false
set_option linter.unusedSimpArgs false
namespace Go.Proofs.YtjbjngikaiggdaaGreatDoor
open Go.RowKit G
/-! ## the nodes -/
structure Nr where
  id : Int
  par : Int
  wt : Int
  pass : Int
  thr : Bool
  rdy : Bool
  now : Int
structure Nd where
  n : Nr
  q : List (Int × Int)
  b : Nat
  ib : Nat
def gt (N : List Nr) (k : Int) : Option Nr := N.find? (fun x => x.id == k)
def upN (N : List Nr) (k : Int) (f : Nr → Nr) : List Nr := N.map (fun x => if x.id == k then f x else x)
def kidR (N : List Nr) (k : Int) : List Nr := N.filter (fun x => x.par == k && x.rdy)
def isW (w : Int) : Bool := decide (w ≥ 1) && decide (w ≤ 16)
def strd (w : Int) : Int := if isW w then (720720 : Int).tdiv w else 0
def scaleN (pass now from_ to : Int) : Int := if pass ≤ now ∨ strd from_ = 0 then pass else now + ((pass - now) * strd to).tdiv (strd from_)
def deepN : Nat → List Nr → Int → Nat
  | 0, _, _ => 0
  | f + 1, N, k => match gt N k with
    | none => 0
    | some x => deepN f N x.par + 1
def wakeN : Nat → List Nr → Int → List Nr
  | 0, N, _ => N
  | f + 1, N, k => match gt N k with
    | none => N
    | some x => if x.rdy then N else match gt N x.par with
      | none => upN N k (fun x => { x with rdy := true })
      | some p => wakeN f (upN N k (fun x => { x with rdy := true, pass := mxI x.pass p.now })) x.par
def restN : Nat → List Nr → Int → List Nr
  | 0, N, _ => N
  | f + 1, N, k => match gt N k with
    | none => N
    | some x => if x.rdy = false ∨ kidR N k ≠ [] then N else match gt N x.par with
      | none => upN N k (fun x => { x with rdy := false })
      | some p => restN f (upN N k (fun x => { x with rdy := false })) x.par
def addN (N : List Nr) (par id wt : Int) (thr : Bool) : Int × List Nr :=
  if isW wt = false ∨ id < 1 then (10, N) else match gt N par with
    | none => (13, N)
    | some p => if p.thr then (13, N) else if (gt N id).isSome then (20, N) else if thr = false ∧ 4 ≤ deepN 6 N par then (12, N) else if 60 ≤ N.length then (14, N)
      else (0, N ++ [{ id, par, wt, pass := p.now, thr, rdy := false, now := 0 }])
def removeN (N : List Nr) (k : Int) : Int × List Nr :=
  if (gt N k).isNone ∨ k = 0 then (13, N) else if N.any (fun x => x.par == k) then (10, N) else (0, (restN 6 N k).filter (fun x => !(x.id == k)))
def readyN (N : List Nr) (k : Int) (r : Bool) : Int × List Nr :=
  match gt N k with
  | none => (13, N)
  | some x => if x.thr then (0, if r then wakeN 6 N k else restN 6 N k) else (13, N)
def weightN (N : List Nr) (k wt : Int) : Int × List Nr :=
  if isW wt = false then (10, N) else match gt N k with
    | none => (13, N)
    | some x => if k = 0 then (13, N) else match gt N x.par with
      | none => (13, N)
      | some p => (0, upN N k (fun x => { x with pass := scaleN x.pass p.now x.wt wt, wt := wt }))
def lessN (a b : Nr) : Bool := decide (a.pass < b.pass) || (decide (a.pass = b.pass) && decide (a.id < b.id))
def least : List Nr → Option Nr
  | [] => none
  | x :: r => match least r with
    | none => some x
    | some y => if lessN y x then some y else some x
def shiftN (N : List Nr) (k : Int) : List Nr :=
  match gt N k with
  | none => N
  | some g => if g.now ≤ 16777216 then N else upN (N.map (fun x => if x.par == k then { x with pass := mxI 0 (x.pass - g.now) } else x)) k (fun x => { x with now := 0 })
def downN : Nat → List Nr → Int → List Int → Int × List Nr
  | 0, N, k, _ => (k, N)
  | f + 1, N, k, way => match least (kidR N k) with
    | none => (k, way.foldl shiftN N)
    | some y => downN f (upN (upN N k (fun x => { x with now := y.pass })) y.id (fun x => { x with pass := y.pass + strd y.wt })) y.id (way ++ [k])
def runN (N : List Nr) : (Int × Bool) × List Nr :=
  match gt N 0 with
  | none => ((0, false), N)
  | some r => if r.rdy then (let z := downN 6 N 0 []; ((z.1, true), z.2)) else ((0, false), N)
/-! ## what holds of them -/
/-- The skeleton: who is whose, how deep. -/
structure SK (N : List Nr) : Prop where
  nd : (N.map (·.id)).Nodup
  root : ∃ r ∈ N, r.id = 0
  rt : ∀ x ∈ N, x.id = 0 → x.par = -1 ∧ x.thr = false
  pa : ∀ x ∈ N, x.id ≠ 0 → 1 ≤ x.id ∧ ∃ p ∈ N, p.id = x.par ∧ p.thr = false
  len : N.length ≤ 60
  rk : ∃ rk : Int → Nat, ∀ x ∈ N, (x.id = 0 → rk x.id = 1) ∧ (x.id ≠ 0 → rk x.id = rk x.par + 1) ∧ rk x.id ≤ 5 ∧ (x.thr = false → rk x.id ≤ 4)
/-- Passes and nows lie where they may. -/
structure LB (N : List Nr) : Prop where
  wt : ∀ x ∈ N, isW x.wt = true
  pass : ∀ x ∈ N, 0 ≤ x.pass ∧ x.pass ≤ 1099511627776
  now : ∀ x ∈ N, 0 ≤ x.now ∧ x.now ≤ 1099511627776
/-- Of the rest: passes lie from their group's now on, by at most their stride; a group is ready as something in it is. -/
structure WFN (N : List Nr) : Prop where
  sk : SK N
  wt : ∀ x ∈ N, isW x.wt = true
  now : ∀ x ∈ N, 0 ≤ x.now ∧ x.now ≤ 16777216
  pass : ∀ x ∈ N, 0 ≤ x.pass ∧ x.pass ≤ 16777216 + 1441440
  pn : ∀ x ∈ N, ∀ p ∈ N, p.id = x.par → x.pass ≤ p.now + strd x.wt ∧ (x.rdy = true → p.now ≤ x.pass)
  rd : ∀ x ∈ N, x.thr = false → (x.rdy = true ↔ ∃ y ∈ N, y.par = x.id ∧ y.rdy = true)
/-- The nodes in memory: each one's index holds what is ready in it. -/
structure OkT (N : List Nr) (T : List Nd) : Prop where
  n : T.map (·.n) = N
  srt : ∀ x ∈ T, SrtE x.q
  mem : ∀ x ∈ T, ∀ p k, (p, k) ∈ x.q ↔ ∃ y ∈ N, y.par = x.n.id ∧ y.rdy = true ∧ y.pass = p ∧ y.id = k
theorem WFN.lb {N : List Nr} (h : WFN N) : LB N := ⟨h.wt, fun x hx => ⟨(h.pass x hx).1, by have := (h.pass x hx).2; omega⟩, fun x hx => ⟨(h.now x hx).1, by have := (h.now x hx).2; omega⟩⟩
theorem w64 {n : Int} (h0 : -9223372036854775808 ≤ n) (h1 : n ≤ 9223372036854775807) : IntKind.i64.wrap n = n := by rw [IntKind.wrap_i64]; omega
theorem isW_cases {w : Int} (h : isW w = true) : 1 ≤ w ∧ w ≤ 16 := by simpa [isW] using h
theorem strd_pos {w : Int} (h : isW w = true) : 0 < strd w ∧ strd w ≤ 720720 := by
  obtain ⟨h1, h2⟩ := isW_cases h
  have : w = 1 ∨ w = 2 ∨ w = 3 ∨ w = 4 ∨ w = 5 ∨ w = 6 ∨ w = 7 ∨ w = 8 ∨ w = 9 ∨ w = 10 ∨ w = 11 ∨ w = 12 ∨ w = 13 ∨ w = 14 ∨ w = 15 ∨ w = 16 := by omega
  rcases this with rfl | rfl | rfl | rfl | rfl | rfl | rfl | rfl | rfl | rfl | rfl | rfl | rfl | rfl | rfl | rfl <;> decide
theorem tdiv_le {a b : Int} (ha : 0 ≤ a) (hb : 0 < b) : 0 ≤ a.tdiv b ∧ a.tdiv b ≤ a := by
  rw [Int.tdiv_eq_ediv_of_nonneg ha]
  exact ⟨Int.ediv_nonneg ha (Int.le_of_lt hb), Int.ediv_le_self b ha⟩
theorem gt_mem {N : List Nr} {k : Int} {x : Nr} (h : gt N k = some x) : x ∈ N ∧ x.id = k := ⟨List.mem_of_find?_eq_some h, by simpa using List.find?_some h⟩
theorem gt_none {N : List Nr} {k : Int} : gt N k = none ↔ ∀ x ∈ N, x.id ≠ k := by simp [gt, List.find?_eq_none]
theorem nd_eq {N : List Nr} (h : (N.map (·.id)).Nodup) {x y : Nr} (hx : x ∈ N) (hy : y ∈ N) (he : x.id = y.id) : x = y := by
  induction N with
  | nil => cases hx
  | cons a N ih =>
    simp only [List.map_cons, List.nodup_cons, List.mem_map, not_exists, not_and] at h
    rcases List.mem_cons.1 hx with e1 | h1 <;> rcases List.mem_cons.1 hy with e2 | h2
    · rw [e1, e2]
    · subst e1; exact absurd he.symm (h.1 y h2)
    · subst e2; exact absurd he (h.1 x h1)
    · exact ih h.2 h1 h2
theorem gt_of {N : List Nr} (h : (N.map (·.id)).Nodup) {x : Nr} (hx : x ∈ N) : gt N x.id = some x := by
  cases hg : gt N x.id with
  | none => exact absurd rfl (gt_none.1 hg x hx)
  | some y => obtain ⟨h1, h2⟩ := gt_mem hg; rw [nd_eq h h1 hx h2]
theorem gt_some {N : List Nr} (h : (N.map (·.id)).Nodup) {k : Int} {x : Nr} : gt N k = some x ↔ x ∈ N ∧ x.id = k := ⟨gt_mem, fun ⟨h1, h2⟩ => h2 ▸ gt_of h h1⟩
/-! ### a change of one node -/
theorem upN_id {N : List Nr} {k : Int} {f : Nr → Nr} (hf : ∀ x, (f x).id = x.id) : (upN N k f).map (·.id) = N.map (·.id) := by
  simp only [upN, List.map_map]
  refine List.map_congr_left fun x _ => ?_
  simp only [Function.comp]
  split <;> simp [hf]
theorem mem_upN {N : List Nr} {k : Int} {f : Nr → Nr} {y : Nr} : y ∈ upN N k f ↔ ∃ x ∈ N, (x.id = k ∧ y = f x) ∨ (x.id ≠ k ∧ y = x) := by
  simp only [upN, List.mem_map]
  constructor
  · rintro ⟨x, hx, rfl⟩
    refine ⟨x, hx, ?_⟩
    by_cases h : x.id = k
    · simp [h]
    · simp [h]
  · rintro ⟨x, hx, ⟨h, rfl⟩ | ⟨h, rfl⟩⟩
    · exact ⟨x, hx, by simp [h]⟩
    · exact ⟨y, hx, by simp [h]⟩
theorem gt_upN {N : List Nr} {k j : Int} {f : Nr → Nr} (hf : ∀ x, (f x).id = x.id) : gt (upN N k f) j = if j = k then (gt N j).map f else gt N j := by
  induction N with
  | nil => simp [gt, upN]
  | cons a N ih =>
    have e1 : gt (upN (a :: N) k f) j = if (if a.id == k then f a else a).id == j then some (if a.id == k then f a else a) else gt (upN N k f) j := by
      simp only [gt, upN, List.map_cons, List.find?_cons]
      split <;> simp_all
    have e2 : gt (a :: N) j = if a.id == j then some a else gt N j := by
      simp only [gt, List.find?_cons]; split <;> simp_all
    rw [e1, e2, ih]
    by_cases h1 : a.id = k
    · subst h1
      simp only [beq_self_eq_true, if_true, hf]
      by_cases h2 : a.id = j
      · subst h2; simp
      · have h2' : (a.id == j) = false := by simpa using h2
        have h3 : ¬ j = a.id := fun h => h2 h.symm
        simp [h2', h3]
    · have h1' : (a.id == k) = false := by simpa using h1
      simp only [h1', Bool.false_eq_true, if_false]
      by_cases h2 : a.id = j
      · subst h2; simp [h1]
      · have h2' : (a.id == j) = false := by simpa using h2
        simp [h2']
/-- What a change of one node leaves of the skeleton. -/
structure Skel (f : Nr → Nr) : Prop where
  id : ∀ x, (f x).id = x.id
  par : ∀ x, (f x).par = x.par
  thr : ∀ x, (f x).thr = x.thr
theorem SK.map {N : List Nr} (h : SK N) (f : Nr → Nr) (hf : Skel f) : SK (N.map f) := by
  have hi : (N.map f).map (·.id) = N.map (·.id) := by simp [List.map_map, Function.comp_def, hf.id]
  refine ⟨hi ▸ h.nd, ?_, ?_, ?_, by simpa using h.len, ?_⟩
  · obtain ⟨r, hr, h0⟩ := h.root; exact ⟨f r, List.mem_map.2 ⟨r, hr, rfl⟩, by rw [hf.id, h0]⟩
  · intro x hx h0; obtain ⟨y, hy, rfl⟩ := List.mem_map.1 hx; rw [hf.par, hf.thr]; exact h.rt y hy (by rw [← hf.id]; exact h0)
  · intro x hx h0
    obtain ⟨y, hy, rfl⟩ := List.mem_map.1 hx
    rw [hf.id] at h0 ⊢
    obtain ⟨h1, p, hp, h2, h3⟩ := h.pa y hy h0
    exact ⟨h1, f p, List.mem_map.2 ⟨p, hp, rfl⟩, by rw [hf.id, hf.par, h2], by rw [hf.thr, h3]⟩
  · obtain ⟨rk, hk⟩ := h.rk
    refine ⟨rk, fun x hx => ?_⟩
    obtain ⟨y, hy, rfl⟩ := List.mem_map.1 hx
    rw [hf.id, hf.par, hf.thr]; exact hk y hy
theorem skel_ite {k : Int} {f : Nr → Nr} (hf : Skel f) : Skel (fun x => if x.id == k then f x else x) := ⟨fun x => by split; exact hf.id x; rfl, fun x => by split; exact hf.par x; rfl, fun x => by split; exact hf.thr x; rfl⟩
theorem SK.upN {N : List Nr} (h : SK N) {k : Int} {f : Nr → Nr} (hf : Skel f) : SK (upN N k f) := h.map _ (skel_ite hf)
/-! ### in memory -/
def ndc (x : Nd) : List Value := [.int .i64 x.n.id, .int .i64 x.n.par, .int .i64 x.n.wt, .int .i64 x.n.pass, .bool x.n.thr, .bool x.n.rdy, .int .i64 x.n.now, .pointer (some ⟨x.ib, 0, none⟩)]
def ndS (x : Nd) : SP := blk x.b 57 (ndc x)
def nodesL : List Nd → List SP
  | [] => []
  | x :: T => ndS x :: idxS x.ib 60 x.q :: nodesL T
def kp (x : Nd) : Int × Value := (x.n.id, .pointer (some ⟨x.b, 0, none⟩))
theorem SatF.perm {l l' : List SP} (h : l.Perm l') : ∀ {w : World} {F : Nat → Prop}, SatF l w F → SatF l' w F := by
  induction h with
  | nil => intro w F h; exact h
  | cons x _ ih => intro w F ⟨G, h1, h2, h3⟩; exact ⟨G, h1, h2, ih h3⟩
  | swap x y l => intro w F h; exact SatF.swap h
  | trans _ _ ih1 ih2 => intro w F h; exact ih2 (ih1 h)
theorem Sat.perm {l l' : List SP} (h : l.Perm l') {w : World} (hs : Sat w l) : Sat w l' := SatF.perm h hs
theorem nodesL_perm {T T' : List Nd} (h : T.Perm T') : (nodesL T).Perm (nodesL T') := by
  induction h with
  | nil => exact .refl _
  | cons x _ ih => exact (ih.cons _).cons _
  | swap x y l =>
    simp only [nodesL]
    have e : ∀ (a b c d : SP) (l : List SP), (a :: b :: c :: d :: l).Perm (c :: d :: a :: b :: l) := fun a b c d l => by
      have := (List.perm_append_comm (l₁ := [a, b]) (l₂ := [c, d])).append_right l
      simpa using this
    exact e _ _ _ _ _
  | trans _ _ ih1 ih2 => exact ih1.trans ih2
theorem nodesL_mem {T : List Nd} {x : Nd} (h : x ∈ T) : ndS x ∈ nodesL T := by
  induction T with
  | nil => cases h
  | cons a T ih =>
    rcases List.mem_cons.1 h with rfl | h
    · exact .head _
    · exact .tail _ (.tail _ (ih h))
/-- A node's cells. -/
theorem nodeAt {T : List Nd} {H : List SP} {x : Nd} (hx : x ∈ T) {j : Nat} {v : Value} (hj : (ndc x)[j]? = some v) : ∀ w, Sat w (nodesL T ++ H) → w.cell? ⟨x.b, j, none⟩ = some v := by
  intro w hs
  obtain ⟨i, hi⟩ := List.mem_iff_getElem?.1 (List.mem_append_left H (nodesL_mem hx))
  exact blkAt (b := x.b) (T := 57) (cs := ndc x) i hi hj w hs
theorem perm1 {T : List Nd} {i : Nat} {x : Nd} (h : T[i]? = some x) : ∃ R, T.Perm (x :: R) ∧ ∀ x', (T.set i x').Perm (x' :: R) := by
  induction T generalizing i with
  | nil => simp at h
  | cons a T ih =>
    cases i with
    | zero => simp at h; subst h; exact ⟨T, .refl _, fun _ => .refl _⟩
    | succ i =>
      obtain ⟨R, h1, h2⟩ := ih (by simpa using h)
      exact ⟨a :: R, (h1.cons a).trans (.swap _ _ _), fun x' => by simpa using ((h2 x').cons a).trans (.swap _ _ _)⟩
theorem perm2 {T : List Nd} {i j : Nat} {x p : Nd} (hi : T[i]? = some x) (hj : T[j]? = some p) (hn : i ≠ j) : ∃ R, T.Perm (x :: p :: R) ∧ ∀ x' p', ((T.set i x').set j p').Perm (x' :: p' :: R) := by
  induction T generalizing i j with
  | nil => simp at hi
  | cons a T ih =>
    cases i with
    | zero =>
      cases j with
      | zero => exact absurd rfl hn
      | succ j =>
        simp at hi; subst hi
        obtain ⟨R, h1, h2⟩ := perm1 (T := T) (i := j) (x := p) (by simpa using hj)
        exact ⟨R, h1.cons _, fun x' p' => by simpa using (h2 p').cons x'⟩
    | succ i =>
      cases j with
      | zero =>
        simp at hj; subst hj
        obtain ⟨R, h1, h2⟩ := perm1 (T := T) (i := i) (x := x) (by simpa using hi)
        exact ⟨R, (h1.cons _).trans (.swap _ _ _), fun x' p' => by simpa using ((h2 x').cons p').trans (.swap _ _ _)⟩
      | succ j =>
        obtain ⟨R, h1, h2⟩ := ih (i := i) (j := j) (by simpa using hi) (by simpa using hj) (by omega)
        have e : ∀ (a b c : Nd) (l : List Nd), (a :: b :: c :: l).Perm (b :: c :: a :: l) := fun a b c l => (List.Perm.swap b a (c :: l)).trans ((List.Perm.swap c a l).cons b)
        exact ⟨a :: R, (h1.cons a).trans (e _ _ _ _), fun x' p' => by simpa using ((h2 x' p').cons a).trans (e _ _ _ _)⟩
end Go.Proofs.YtjbjngikaiggdaaGreatDoor
