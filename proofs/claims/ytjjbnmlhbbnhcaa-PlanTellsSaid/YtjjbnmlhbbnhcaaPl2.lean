/- slices.Max, slices.Min over whole numbers: their walks. Conditions: none. -/
import Derived.Test.YtjjbnmlhbbnhcaaKc
set_option linter.unusedVariables false
set_option linter.unusedSimpArgs false
namespace Go.Proofs.Ytjjbnmlhbbnhcaa
open Go.RowKit G
set_option maxRecDepth 100000 in
theorem max_walk (H : List SP) (A : Option Addr) (c : Nat) (x : Int) (r : List Int) (hk : KR H (kE .i64) ⟨A, c, x :: r⟩) (hl : r.length < 9223372036854775800) : ∀ w, Sat w H → Calls Try.prog 48 #[.slice A (x :: r).length c] w (Ret (ι := Unit) (fun _ => .int .i64 (r.foldl mxI x)) fun _ => H) := by
  refine enterG (fn := Try.f48) 25 [.slice A ((x :: r).length) c] Try.func48 (by kernel_rfl) (by kernel_rfl) (by kernel_rfl) ?_
  refine seqR (by kernel_rfl) ?_
  refine regionR 1 (by kernel_rfl) (by kernel_rfl) ?_
  refine (run0 (z := 0) 1 [0, 2] [(0, .slice A ((x :: r).length) c), (2, .int .i64 0)] (fun _ => by kernel_rfl) (endR ?_) : RT _ _ _ _ _ _ 1 _)
  refine seqR (by kernel_rfl) ?_
  refine seqR (by kernel_rfl) ?_
  refine regionR 3 (by kernel_rfl) (by kernel_rfl) ?_
  refine (run0 (z := 0) 3 [0, 2, 7] [(0, .slice A ((x :: r).length) c), (2, .int .i64 0), (7, .bool (decide (((x :: r).length : Int) < 1)))] (fun _ => by kernel_rfl) (endR ?_) : RT _ _ _ _ _ _ 3 _)
  refine condR (b := decide (((x :: r).length : Int) < 1)) (by kernel_rfl) (fun _ => by kernel_rfl) (fun h => ?_) (fun h => ?_)
  · skip
    exfalso; have := of_decide_eq_true h; simp only [List.length_cons] at this; omega
  · skip
    refine PT.know (hk.isSome (by simp)) ?_
    rintro ⟨sb, so, hA⟩
    dsimp only at hA
    subst hA
    refine skipR (by kernel_rfl) ?_
    refine seqR (by kernel_rfl) ?_
    refine regionR 4 (by kernel_rfl) (by kernel_rfl) ?_
    refine (run0 (z := 3) 1 [0, 2, 9] [(0, .slice (some ⟨sb, so, none⟩) ((x :: r).length) c), (2, .int .i64 0), (9, .slice (some ⟨sb, so, none⟩) ((x :: r).length) c)] (fun _ => by kernel_rfl) ?_ : RT _ _ _ _ _ _ 4 _)
    refine (stepR (z := 2) (yldS (idxY 26 (.tmp 9) (.const (.int .i64 0)) sb so ((x :: r).length) c 0 1 3 0 .i64 (some 10) (fun _ => by kernel_rfl) (by kernel_rfl) (by kernel_rfl) (fun _ => by kernel_rfl) (fun _ => by kernel_rfl) Try.underlying26 (by kernel_rfl) (by first | rfl | assumption | simp) (by first | omega | (simp; done) | (simp; omega) | (simp at *; omega)))) (fun _ => ?_) : RT _ _ _ _ _ _ 3 _)
    refine (runR (H := (H)) (z := 0) 2 [0, 2, 3] [(0, .slice (some ⟨sb, so, none⟩) ((x :: r).length) c), (2, .int .i64 0), (3, .int .i64 x)] [(⟨sb, so + 0 * 1, none⟩, .int .i64 x)] (hasC (hk.cell rfl (i := 0) rfl (j := 0) rfl) has0) (fun _ => by kernel_rfl) (endR ?_) : RT _ _ _ _ _ _ 2 _)
    refine seqR (by kernel_rfl) ?_
    refine seqR (by kernel_rfl) ?_
    refine regionR 1 (by kernel_rfl) (by kernel_rfl) ?_
    refine (run0 (z := 0) 1 [0, 2, 3, 4] [(0, .slice (some ⟨sb, so, none⟩) ((x :: r).length) c), (2, .int .i64 0), (3, .int .i64 x), (4, .int .i64 1)] (fun _ => by kernel_rfl) (endR ?_) : RT _ _ _ _ _ _ 1 _)
    refine blockR 0 (by kernel_rfl) (by kernel_rfl) ?_
    refine PT.keep (L' := [(0, .slice (some ⟨sb, so, none⟩) ((x :: r).length) c), (3, .int .i64 x), (4, .int .i64 1)]) [0, 3, 4] rfl ?_
    refine loopG (fun (i : Nat) => [(0, .slice (some ⟨sb, so, none⟩) ((x :: r).length) c), (3, .int .i64 ((r.take i).foldl mxI x)), (4, .int .i64 ((i + 1 : Nat) : Int))]) (fun (i : Nat) => (H)) (fun k (i : Nat) => k + i = r.length) r.length 0 (by kernel_rfl) (by omega) ?_
    rintro k i hki
    have hw : IntKind.i64.wrap (((i + 1 : Nat) : Int) + 1) = ((i + 1 + 1 : Nat) : Int) := by rw [IntKind.wrap_i64]; omega
    refine seqR (by kernel_rfl) ?_
    refine seqR (by kernel_rfl) ?_
    refine regionR 4 (by kernel_rfl) (by kernel_rfl) ?_
    refine (run0 (z := 0) 4 [0, 3, 4, 15] [(0, .slice (some ⟨sb, so, none⟩) ((x :: r).length) c), (3, .int .i64 ((r.take i).foldl mxI x)), (4, .int .i64 ((i + 1 : Nat) : Int)), (15, .bool (decide (((i + 1 : Nat) : Int) < ((x :: r).length : Int))))] (fun _ => by kernel_rfl) (endR ?_) : RT _ _ _ _ _ _ 4 _)
    refine condR (b := decide (((i + 1 : Nat) : Int) < ((x :: r).length : Int))) (by kernel_rfl) (fun _ => by kernel_rfl) (fun h => ?_) (fun h => ?_)
    · skip
      have hi : i < r.length := by have := of_decide_eq_true h; simp only [List.length_cons] at this; omega
      have hx : r[i]? = some r[i] := by simp [hi]
      obtain ⟨y, hy⟩ : ∃ y, y = r[i] := ⟨_, rfl⟩
      rw [← hy] at hx
      have ht : mxI ((r.take i).foldl mxI x) y = (r.take (i + 1)).foldl mxI x := by rw [List.take_add_one, hx]; simp
      refine skipR (by kernel_rfl) ?_
      refine seqR (by kernel_rfl) ?_
      refine blockR 1 (by kernel_rfl) (by kernel_rfl) ?_
      refine regionR 7 (by kernel_rfl) (by kernel_rfl) ?_
      refine (run0 (z := 4) 3 [0, 3, 4, 18, 19, 20] [(0, .slice (some ⟨sb, so, none⟩) ((x :: r).length) c), (3, .int .i64 ((r.take i).foldl mxI x)), (4, .int .i64 ((i + 1 : Nat) : Int)), (18, .int .i64 ((r.take i).foldl mxI x)), (19, .slice (some ⟨sb, so, none⟩) ((x :: r).length) c), (20, .int .i64 ((i + 1 : Nat) : Int))] (fun _ => by kernel_rfl) ?_ : RT _ _ _ _ _ _ 7 _)
      refine (stepR (z := 3) (yldS (idxY 26 (.tmp 19) (.tmp 20) sb so ((x :: r).length) c (i + 1) 1 3 ((i + 1 : Nat) : Int) .i64 (some 21) (fun _ => by kernel_rfl) (by kernel_rfl) (by kernel_rfl) (fun _ => by kernel_rfl) (fun _ => by kernel_rfl) Try.underlying26 (by kernel_rfl) (by first | rfl | assumption | simp) (by first | omega | (simp; done) | (simp; omega) | (simp at *; omega)))) (fun _ => ?_) : RT _ _ _ _ _ _ 4 _)
      refine (runR (H := (H)) (z := 0) 3 [0, 3, 4] [(0, .slice (some ⟨sb, so, none⟩) ((x :: r).length) c), (3, .int .i64 (mxI ((r.take i).foldl mxI x) y)), (4, .int .i64 ((i + 1 : Nat) : Int))] [(⟨sb, so + (i + 1) * 1, none⟩, .int .i64 y)] (hasC (hk.cell rfl (i := i + 1) (x := y) (by simpa using hx) (j := 0) rfl) has0) (fun _ => by kernel_rfl) (endR ?_) : RT _ _ _ _ _ _ 3 _)
      refine regionR 3 (by kernel_rfl) (by kernel_rfl) ?_
      refine (run0 (z := 0) 3 [0, 3, 4] [(0, .slice (some ⟨sb, so, none⟩) ((x :: r).length) c), (3, .int .i64 (mxI ((r.take i).foldl mxI x) y)), (4, .int .i64 (IntKind.i64.wrap (((i + 1 : Nat) : Int) + 1)))] (fun _ => by kernel_rfl) (endR ?_) : RT _ _ _ _ _ _ 3 _)
      refine PT.keep (L' := [(0, .slice (some ⟨sb, so, none⟩) ((x :: r).length) c), (3, .int .i64 (mxI ((r.take i).foldl mxI x) y)), (4, .int .i64 (IntKind.i64.wrap (((i + 1 : Nat) : Int) + 1)))]) [0, 3, 4] rfl ?_
      exact againG (k - 1) (i + 1) (by rw [hw, ht]) rfl (by omega) (by omega)
    · skip
      have hi : i = r.length := by have := of_decide_eq_false h; simp only [List.length_cons] at this; omega
      subst hi
      refine exitR 0 (by kernel_rfl) (by kernel_rfl) ?_
      refine thenX ?_
      refine thenX ?_
      refine leaveR ?_
      refine seqR (by kernel_rfl) ?_
      refine regionR 2 (by kernel_rfl) (by kernel_rfl) ?_
      refine (run0 (z := 0) 2 [2] [(2, .int .i64 ((r.take (r.length)).foldl mxI x))] (fun _ => by kernel_rfl) (endR ?_) : RT _ _ _ _ _ _ 2 _)
      refine retR (by kernel_rfl) ?_
      refine done0 (.int .i64 ((r.take (r.length)).foldl mxI x)) (fun _ => by kernel_rfl) (fun w hs => ?_) .ret (.inr rfl)
      rw [List.take_length]; exact ⟨(), rfl, hs⟩
set_option maxRecDepth 100000 in
theorem min_walk (H : List SP) (A : Option Addr) (c : Nat) (x : Int) (r : List Int) (hk : KR H (kE .i64) ⟨A, c, x :: r⟩) (hl : r.length < 9223372036854775800) : ∀ w, Sat w H → Calls Try.prog 49 #[.slice A (x :: r).length c] w (Ret (ι := Unit) (fun _ => .int .i64 (r.foldl mnI x)) fun _ => H) := by
  refine enterG (fn := Try.f49) 25 [.slice A ((x :: r).length) c] Try.func49 (by kernel_rfl) (by kernel_rfl) (by kernel_rfl) ?_
  refine seqR (by kernel_rfl) ?_
  refine regionR 1 (by kernel_rfl) (by kernel_rfl) ?_
  refine (run0 (z := 0) 1 [0, 2] [(0, .slice A ((x :: r).length) c), (2, .int .i64 0)] (fun _ => by kernel_rfl) (endR ?_) : RT _ _ _ _ _ _ 1 _)
  refine seqR (by kernel_rfl) ?_
  refine seqR (by kernel_rfl) ?_
  refine regionR 3 (by kernel_rfl) (by kernel_rfl) ?_
  refine (run0 (z := 0) 3 [0, 2, 7] [(0, .slice A ((x :: r).length) c), (2, .int .i64 0), (7, .bool (decide (((x :: r).length : Int) < 1)))] (fun _ => by kernel_rfl) (endR ?_) : RT _ _ _ _ _ _ 3 _)
  refine condR (b := decide (((x :: r).length : Int) < 1)) (by kernel_rfl) (fun _ => by kernel_rfl) (fun h => ?_) (fun h => ?_)
  · skip
    exfalso; have := of_decide_eq_true h; simp only [List.length_cons] at this; omega
  · skip
    refine PT.know (hk.isSome (by simp)) ?_
    rintro ⟨sb, so, hA⟩
    dsimp only at hA
    subst hA
    refine skipR (by kernel_rfl) ?_
    refine seqR (by kernel_rfl) ?_
    refine regionR 4 (by kernel_rfl) (by kernel_rfl) ?_
    refine (run0 (z := 3) 1 [0, 2, 9] [(0, .slice (some ⟨sb, so, none⟩) ((x :: r).length) c), (2, .int .i64 0), (9, .slice (some ⟨sb, so, none⟩) ((x :: r).length) c)] (fun _ => by kernel_rfl) ?_ : RT _ _ _ _ _ _ 4 _)
    refine (stepR (z := 2) (yldS (idxY 26 (.tmp 9) (.const (.int .i64 0)) sb so ((x :: r).length) c 0 1 3 0 .i64 (some 10) (fun _ => by kernel_rfl) (by kernel_rfl) (by kernel_rfl) (fun _ => by kernel_rfl) (fun _ => by kernel_rfl) Try.underlying26 (by kernel_rfl) (by first | rfl | assumption | simp) (by first | omega | (simp; done) | (simp; omega) | (simp at *; omega)))) (fun _ => ?_) : RT _ _ _ _ _ _ 3 _)
    refine (runR (H := (H)) (z := 0) 2 [0, 2, 3] [(0, .slice (some ⟨sb, so, none⟩) ((x :: r).length) c), (2, .int .i64 0), (3, .int .i64 x)] [(⟨sb, so + 0 * 1, none⟩, .int .i64 x)] (hasC (hk.cell rfl (i := 0) rfl (j := 0) rfl) has0) (fun _ => by kernel_rfl) (endR ?_) : RT _ _ _ _ _ _ 2 _)
    refine seqR (by kernel_rfl) ?_
    refine seqR (by kernel_rfl) ?_
    refine regionR 1 (by kernel_rfl) (by kernel_rfl) ?_
    refine (run0 (z := 0) 1 [0, 2, 3, 4] [(0, .slice (some ⟨sb, so, none⟩) ((x :: r).length) c), (2, .int .i64 0), (3, .int .i64 x), (4, .int .i64 1)] (fun _ => by kernel_rfl) (endR ?_) : RT _ _ _ _ _ _ 1 _)
    refine blockR 0 (by kernel_rfl) (by kernel_rfl) ?_
    refine PT.keep (L' := [(0, .slice (some ⟨sb, so, none⟩) ((x :: r).length) c), (3, .int .i64 x), (4, .int .i64 1)]) [0, 3, 4] rfl ?_
    refine loopG (fun (i : Nat) => [(0, .slice (some ⟨sb, so, none⟩) ((x :: r).length) c), (3, .int .i64 ((r.take i).foldl mnI x)), (4, .int .i64 ((i + 1 : Nat) : Int))]) (fun (i : Nat) => (H)) (fun k (i : Nat) => k + i = r.length) r.length 0 (by kernel_rfl) (by omega) ?_
    rintro k i hki
    have hw : IntKind.i64.wrap (((i + 1 : Nat) : Int) + 1) = ((i + 1 + 1 : Nat) : Int) := by rw [IntKind.wrap_i64]; omega
    refine seqR (by kernel_rfl) ?_
    refine seqR (by kernel_rfl) ?_
    refine regionR 4 (by kernel_rfl) (by kernel_rfl) ?_
    refine (run0 (z := 0) 4 [0, 3, 4, 15] [(0, .slice (some ⟨sb, so, none⟩) ((x :: r).length) c), (3, .int .i64 ((r.take i).foldl mnI x)), (4, .int .i64 ((i + 1 : Nat) : Int)), (15, .bool (decide (((i + 1 : Nat) : Int) < ((x :: r).length : Int))))] (fun _ => by kernel_rfl) (endR ?_) : RT _ _ _ _ _ _ 4 _)
    refine condR (b := decide (((i + 1 : Nat) : Int) < ((x :: r).length : Int))) (by kernel_rfl) (fun _ => by kernel_rfl) (fun h => ?_) (fun h => ?_)
    · skip
      have hi : i < r.length := by have := of_decide_eq_true h; simp only [List.length_cons] at this; omega
      have hx : r[i]? = some r[i] := by simp [hi]
      obtain ⟨y, hy⟩ : ∃ y, y = r[i] := ⟨_, rfl⟩
      rw [← hy] at hx
      have ht : mnI ((r.take i).foldl mnI x) y = (r.take (i + 1)).foldl mnI x := by rw [List.take_add_one, hx]; simp
      refine skipR (by kernel_rfl) ?_
      refine seqR (by kernel_rfl) ?_
      refine blockR 1 (by kernel_rfl) (by kernel_rfl) ?_
      refine regionR 7 (by kernel_rfl) (by kernel_rfl) ?_
      refine (run0 (z := 4) 3 [0, 3, 4, 18, 19, 20] [(0, .slice (some ⟨sb, so, none⟩) ((x :: r).length) c), (3, .int .i64 ((r.take i).foldl mnI x)), (4, .int .i64 ((i + 1 : Nat) : Int)), (18, .int .i64 ((r.take i).foldl mnI x)), (19, .slice (some ⟨sb, so, none⟩) ((x :: r).length) c), (20, .int .i64 ((i + 1 : Nat) : Int))] (fun _ => by kernel_rfl) ?_ : RT _ _ _ _ _ _ 7 _)
      refine (stepR (z := 3) (yldS (idxY 26 (.tmp 19) (.tmp 20) sb so ((x :: r).length) c (i + 1) 1 3 ((i + 1 : Nat) : Int) .i64 (some 21) (fun _ => by kernel_rfl) (by kernel_rfl) (by kernel_rfl) (fun _ => by kernel_rfl) (fun _ => by kernel_rfl) Try.underlying26 (by kernel_rfl) (by first | rfl | assumption | simp) (by first | omega | (simp; done) | (simp; omega) | (simp at *; omega)))) (fun _ => ?_) : RT _ _ _ _ _ _ 4 _)
      refine (runR (H := (H)) (z := 0) 3 [0, 3, 4] [(0, .slice (some ⟨sb, so, none⟩) ((x :: r).length) c), (3, .int .i64 (mnI ((r.take i).foldl mnI x) y)), (4, .int .i64 ((i + 1 : Nat) : Int))] [(⟨sb, so + (i + 1) * 1, none⟩, .int .i64 y)] (hasC (hk.cell rfl (i := i + 1) (x := y) (by simpa using hx) (j := 0) rfl) has0) (fun _ => by kernel_rfl) (endR ?_) : RT _ _ _ _ _ _ 3 _)
      refine regionR 3 (by kernel_rfl) (by kernel_rfl) ?_
      refine (run0 (z := 0) 3 [0, 3, 4] [(0, .slice (some ⟨sb, so, none⟩) ((x :: r).length) c), (3, .int .i64 (mnI ((r.take i).foldl mnI x) y)), (4, .int .i64 (IntKind.i64.wrap (((i + 1 : Nat) : Int) + 1)))] (fun _ => by kernel_rfl) (endR ?_) : RT _ _ _ _ _ _ 3 _)
      refine PT.keep (L' := [(0, .slice (some ⟨sb, so, none⟩) ((x :: r).length) c), (3, .int .i64 (mnI ((r.take i).foldl mnI x) y)), (4, .int .i64 (IntKind.i64.wrap (((i + 1 : Nat) : Int) + 1)))]) [0, 3, 4] rfl ?_
      exact againG (k - 1) (i + 1) (by rw [hw, ht]) rfl (by omega) (by omega)
    · skip
      have hi : i = r.length := by have := of_decide_eq_false h; simp only [List.length_cons] at this; omega
      subst hi
      refine exitR 0 (by kernel_rfl) (by kernel_rfl) ?_
      refine thenX ?_
      refine thenX ?_
      refine leaveR ?_
      refine seqR (by kernel_rfl) ?_
      refine regionR 2 (by kernel_rfl) (by kernel_rfl) ?_
      refine (run0 (z := 0) 2 [2] [(2, .int .i64 ((r.take (r.length)).foldl mnI x))] (fun _ => by kernel_rfl) (endR ?_) : RT _ _ _ _ _ _ 2 _)
      refine retR (by kernel_rfl) ?_
      refine done0 (.int .i64 ((r.take (r.length)).foldl mnI x)) (fun _ => by kernel_rfl) (fun w hs => ?_) .ret (.inr rfl)
      rw [List.take_length]; exact ⟨(), rfl, hs⟩
/-- The greatest, the least of some. -/
def maxL : List Int → Int | x :: r => r.foldl mxI x | [] => 0
def minL : List Int → Int | x :: r => r.foldl mnI x | [] => 0
theorem maxL_walk (H : List SP) (s : SV Int) (hk : KR H (kE .i64) s) (hne : s.l ≠ []) (hl : s.l.length < 9223372036854775800) : ∀ w, Sat w H → Calls Try.prog 48 #[.slice s.a s.l.length s.c] w (Ret (ι := Unit) (fun _ => .int .i64 (maxL s.l)) fun _ => H) := by
  obtain ⟨A, c, l⟩ := s
  cases l with
  | nil => exact absurd rfl hne
  | cons x r => exact max_walk H A c x r hk (by simp only [List.length_cons] at hl; omega)
theorem minL_walk (H : List SP) (s : SV Int) (hk : KR H (kE .i64) s) (hne : s.l ≠ []) (hl : s.l.length < 9223372036854775800) : ∀ w, Sat w H → Calls Try.prog 49 #[.slice s.a s.l.length s.c] w (Ret (ι := Unit) (fun _ => .int .i64 (minL s.l)) fun _ => H) := by
  obtain ⟨A, c, l⟩ := s
  cases l with
  | nil => exact absurd rfl hne
  | cons x r => exact min_walk H A c x r hk (by simp only [List.length_cons] at hl; omega)
end Go.Proofs.Ytjjbnmlhbbnhcaa
