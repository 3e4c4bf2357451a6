/- tontineref11.total, MayShares, Count, tontineref1.SameInts: their walks. Conditions: none. -/
import Derived.Test.YtjjbnmlhbbnhcaaSh1
set_option linter.unusedVariables false
set_option linter.unusedSimpArgs false
namespace Go.Proofs.Ytjjbnmlhbbnhcaa
open Go.RowKit G
def wsum (l : List Int) : Int := l.foldl (fun a x => IntKind.i64.wrap (a + x)) 0
theorem wsum_snoc (l : List Int) (x : Int) : wsum (l ++ [x]) = IntKind.i64.wrap (wsum l + x) := by simp [wsum, List.foldl_append]
set_option maxRecDepth 100000 in
theorem total_walk (H : List SP) (s : SV Int) (hk : KR H (kE .i64) s) (hl : s.l.length < 1000000000) : ∀ w, Sat w H → Calls Try.prog 32 #[.slice s.a s.l.length s.c] w (Ret (ι := Unit) (fun _ => .int .i64 (wsum s.l)) fun _ => H) := by
  refine enterG (fn := Try.f32) 18 [.slice s.a s.l.length s.c] Try.func32 (by kernel_rfl) (by kernel_rfl) (by kernel_rfl) ?_
  refine seqR (by kernel_rfl) ?_
  refine regionR 1 (by kernel_rfl) (by kernel_rfl) ?_
  refine (run0 (z := 0) 1 [0, 2] [(0, .slice s.a s.l.length s.c), (2, .int .i64 0)] (fun _ => by kernel_rfl) (endR ?_) : RT _ _ _ _ _ _ 1 _)
  refine seqR (by kernel_rfl) ?_
  refine regionR 1 (by kernel_rfl) (by kernel_rfl) ?_
  refine (run0 (z := 0) 1 [0, 2, 3] [(0, .slice s.a s.l.length s.c), (2, .int .i64 0), (3, .int .i64 0)] (fun _ => by kernel_rfl) (endR ?_) : RT _ _ _ _ _ _ 1 _)
  refine seqR (by kernel_rfl) ?_
  refine seqR (by kernel_rfl) ?_
  refine regionR 1 (by kernel_rfl) (by kernel_rfl) ?_
  refine (run0 (z := 0) 1 [0, 2, 3, 4] [(0, .slice s.a s.l.length s.c), (2, .int .i64 0), (3, .int .i64 0), (4, .int .i64 0)] (fun _ => by kernel_rfl) (endR ?_) : RT _ _ _ _ _ _ 1 _)
  refine blockR 0 (by kernel_rfl) (by kernel_rfl) ?_
  refine PT.keep (L' := [(0, .slice s.a s.l.length s.c), (3, .int .i64 0), (4, .int .i64 0)]) [0, 3, 4] rfl ?_
  refine loopG (fun (u : Nat) => [(0, .slice s.a s.l.length s.c), (3, .int .i64 (wsum (s.l.take u))), (4, .int .i64 (u : Int))]) (fun (u : Nat) => (H)) (fun k (u : Nat) => k + u = s.l.length) s.l.length 0 (by kernel_rfl) (by omega) ?_
  rintro k u hku
  have hw : IntKind.i64.wrap ((u : Int) + 1) = ((u + 1 : Nat) : Int) := by rw [IntKind.wrap_i64]; omega
  refine seqR (by kernel_rfl) ?_
  refine seqR (by kernel_rfl) ?_
  refine regionR 4 (by kernel_rfl) (by kernel_rfl) ?_
  refine (run0 (z := 0) 4 [0, 3, 4, 8] [(0, .slice s.a s.l.length s.c), (3, .int .i64 (wsum (s.l.take u))), (4, .int .i64 (u : Int)), (8, .bool (decide ((u : Int) < (s.l.length : Int))))] (fun _ => by kernel_rfl) (endR ?_) : RT _ _ _ _ _ _ 4 _)
  refine condR (b := decide ((u : Int) < (s.l.length : Int))) (by kernel_rfl) (fun _ => by kernel_rfl) (fun h => ?_) (fun h => ?_)
  · skip
    have hu : u < s.l.length := by have := of_decide_eq_true h; omega
    obtain ⟨y, hy⟩ : ∃ y, s.l[u]? = some y := ⟨_, by simp [hu]; rfl⟩
    have ht : s.l.take (u + 1) = s.l.take u ++ [y] := by rw [List.take_add_one, hy]; rfl
    refine PT.know ((hk).isSome (List.ne_nil_of_length_pos (by omega))) ?_
    rintro ⟨sb, so, hA⟩
    try rw [hA]
    refine skipR (by kernel_rfl) ?_
    refine seqR (by kernel_rfl) ?_
    refine blockR 1 (by kernel_rfl) (by kernel_rfl) ?_
    refine regionR 7 (by kernel_rfl) (by kernel_rfl) ?_
    refine (run0 (z := 4) 3 [0, 3, 4, 11, 12, 13] [(0, .slice (some ⟨sb, so, none⟩) s.l.length s.c), (3, .int .i64 (wsum (s.l.take u))), (4, .int .i64 (u : Int)), (11, .int .i64 (wsum (s.l.take u))), (12, .slice (some ⟨sb, so, none⟩) s.l.length s.c), (13, .int .i64 (u : Int))] (fun _ => by kernel_rfl) ?_ : RT _ _ _ _ _ _ 7 _)
    refine (stepR (z := 3) (yldS (idxY 26 (.tmp 12) (.tmp 13) sb so s.l.length s.c u 1 3 (u : Int) .i64 (some 14) (fun _ => by kernel_rfl) (by kernel_rfl) (by kernel_rfl) (fun _ => by kernel_rfl) (fun _ => by kernel_rfl) Try.underlying26 (by kernel_rfl) (by first | rfl | assumption | simp) (by first | omega | (simp; done) | (simp; omega) | (simp at *; omega)))) (fun _ => ?_) : RT _ _ _ _ _ _ 4 _)
    refine (runR (H := (H)) (z := 0) 3 [0, 3, 4] [(0, .slice (some ⟨sb, so, none⟩) s.l.length s.c), (3, .int .i64 (IntKind.i64.wrap ((wsum (s.l.take u)) + y))), (4, .int .i64 (u : Int))] [(⟨sb, so + u * 1, none⟩, .int .i64 y)] (hasC (hk.cell hA (i := u) (x := y) hy (j := 0) rfl) has0) (fun _ => by kernel_rfl) (endR ?_) : RT _ _ _ _ _ _ 3 _)
    refine regionR 3 (by kernel_rfl) (by kernel_rfl) ?_
    refine (run0 (z := 0) 3 [0, 3, 4] [(0, .slice (some ⟨sb, so, none⟩) s.l.length s.c), (3, .int .i64 (IntKind.i64.wrap ((wsum (s.l.take u)) + y))), (4, .int .i64 (IntKind.i64.wrap ((u : Int) + 1)))] (fun _ => by kernel_rfl) (endR ?_) : RT _ _ _ _ _ _ 3 _)
    try rw [← hA]
    refine PT.keep (L' := [(0, .slice s.a s.l.length s.c), (3, .int .i64 (IntKind.i64.wrap ((wsum (s.l.take u)) + y))), (4, .int .i64 (IntKind.i64.wrap ((u : Int) + 1)))]) [0, 3, 4] rfl ?_
    exact againG (k - 1) (u + 1) (by rw [hw, ht, wsum_snoc]) rfl (by omega) (by omega)
  · skip
    have hu : u = s.l.length := by have := of_decide_eq_false h; omega
    rw [hu, List.take_length]
    refine exitR 0 (by kernel_rfl) (by kernel_rfl) ?_
    refine thenX ?_
    refine thenX ?_
    refine leaveR ?_
    refine seqR (by kernel_rfl) ?_
    refine regionR 2 (by kernel_rfl) (by kernel_rfl) ?_
    refine (run0 (z := 0) 2 [2] [(2, .int .i64 (wsum (s.l)))] (fun _ => by kernel_rfl) (endR ?_) : RT _ _ _ _ _ _ 2 _)
    refine retR (by kernel_rfl) ?_
    refine done0 (.int .i64 (wsum (s.l))) (fun _ => by kernel_rfl) (fun w hs => ?_) .ret (.inr rfl)
    exact ⟨(), rfl, hs⟩
theorem wsum_eq : ∀ {l : List Int}, (l.all fun s => !shBad s) = true → l.length ≤ 1000 → wsum l = sumI l := by
  intro l h hl
  have key : ∀ n, n ≤ l.length → wsum (l.take n) = sumI (l.take n) := by
    intro n
    induction n with
    | zero => intro _; rfl
    | succ n ih =>
      intro hn
      obtain ⟨y, hy⟩ : ∃ y, l[n]? = some y := ⟨l[n]'(by omega), List.getElem?_eq_getElem (by omega)⟩
      have ht : l.take (n + 1) = l.take n ++ [y] := by rw [List.take_add_one, hy]; rfl
      have hal : ∀ m, ((l.take m).all fun s => !shBad s) = true := fun m => List.all_eq_true.2 fun x hx => List.all_eq_true.1 h x (List.mem_of_mem_take hx)
      have hb := sumI_bounds _ (hal (n + 1))
      have hlt : (l.take (n + 1)).length ≤ 1000 := by rw [List.length_take]; omega
      have hs := sumI_snoc (l.take n) y
      rw [ht, wsum_snoc, ih (by omega), ← hs, ← ht, IntKind.wrap_i64]
      omega
  have := key l.length (Nat.le_refl _)
  rwa [List.take_length] at this
def mayShares (frame : Int) (l : List Int) : Bool := !(shSum frame l == 0)
set_option maxRecDepth 100000 in
theorem mayShares_walk (H : List SP) (frame : Int) (s : SV Int) (hk : KR H (kE .i64) s) : ∀ w, Sat w H → Calls Try.prog 31 #[.int .i64 frame, .slice s.a s.l.length s.c] w (Ret (ι := Unit) (fun _ => .bool (mayShares frame s.l)) fun _ => H) := by
  refine enterG (fn := Try.f31) 43 [.int .i64 frame, .slice s.a s.l.length s.c] Try.func31 (by kernel_rfl) (by kernel_rfl) (by kernel_rfl) ?_
  refine seqR (by kernel_rfl) ?_
  refine regionR 1 (by kernel_rfl) (by kernel_rfl) ?_
  refine (run0 (z := 0) 1 [0, 1, 4] [(0, .int .i64 frame), (1, .slice s.a s.l.length s.c), (4, .bool false)] (fun _ => by kernel_rfl) (endR ?_) : RT _ _ _ _ _ _ 1 _)
  refine seqR (by kernel_rfl) ?_
  refine seqR (by kernel_rfl) ?_
  refine regionR 16 (by kernel_rfl) (by kernel_rfl) ?_
  refine (run0 (z := 13) 3 [0, 1, 4, 8] [(0, .int .i64 frame), (1, .slice s.a s.l.length s.c), (4, .bool false), (8, .bool (decide (frame < 1)))] (fun _ => by kernel_rfl) ?_ : RT _ _ _ _ _ _ 16 _)
  refine (segR (ι := Unit) (z := 10) 3 (fun _ => [(1, .slice s.a s.l.length s.c), (4, .bool false), (11, .bool ((decide (frame < 1)) || (decide (frame > 64))))]) (fun _ => (H)) ?_ (fun _ => ?_) : RT _ _ _ _ _ _ 13 _)
  · cases hg3 : (decide (frame < 1)) with
    | true =>
      refine (run0 (z := 0) 3 [1, 4, 11] [(1, .slice s.a s.l.length s.c), (4, .bool false), (11, .bool true)] (fun _ => by kernel_rfl) (endR ?_) : RT _ _ _ _ _ _ 3 _)
      refine PT.keep (L' := [(1, .slice s.a s.l.length s.c), (4, .bool false), (11, .bool (true || (decide (frame > 64))))]) [1, 4, 11] rfl ?_
      exact midR () rfl rfl
    | false =>
      refine (run0 (z := 0) 3 [1, 4, 11] [(1, .slice s.a s.l.length s.c), (4, .bool false), (11, .bool (decide (frame > 64)))] (fun _ => by kernel_rfl) (endR ?_) : RT _ _ _ _ _ _ 3 _)
      refine PT.keep (L' := [(1, .slice s.a s.l.length s.c), (4, .bool false), (11, .bool (false || (decide (frame > 64))))]) [1, 4, 11] rfl ?_
      exact midR () rfl rfl
  refine (run0 (z := 9) 1 [1, 4, 12] [(1, .slice s.a s.l.length s.c), (4, .bool false), (12, .bool ((decide (frame < 1)) || (decide (frame > 64))))] (fun _ => by kernel_rfl) ?_ : RT _ _ _ _ _ _ 10 _)
  refine (segR (ι := Unit) (z := 5) 4 (fun _ => [(1, .slice s.a s.l.length s.c), (4, .bool false), (16, .bool (((decide (frame < 1)) || (decide (frame > 64))) || (decide ((s.l.length : Int) < 1))))]) (fun _ => (H)) ?_ (fun _ => ?_) : RT _ _ _ _ _ _ 9 _)
  · cases hg7 : ((decide (frame < 1)) || (decide (frame > 64))) with
    | true =>
      refine (run0 (z := 0) 4 [1, 4, 16] [(1, .slice s.a s.l.length s.c), (4, .bool false), (16, .bool true)] (fun _ => by kernel_rfl) (endR ?_) : RT _ _ _ _ _ _ 4 _)
      refine PT.keep (L' := [(1, .slice s.a s.l.length s.c), (4, .bool false), (16, .bool (true || (decide ((s.l.length : Int) < 1))))]) [1, 4, 16] rfl ?_
      exact midR () rfl rfl
    | false =>
      refine (run0 (z := 0) 4 [1, 4, 16] [(1, .slice s.a s.l.length s.c), (4, .bool false), (16, .bool (decide ((s.l.length : Int) < 1)))] (fun _ => by kernel_rfl) (endR ?_) : RT _ _ _ _ _ _ 4 _)
      refine PT.keep (L' := [(1, .slice s.a s.l.length s.c), (4, .bool false), (16, .bool (false || (decide ((s.l.length : Int) < 1))))]) [1, 4, 16] rfl ?_
      exact midR () rfl rfl
  refine (run0 (z := 4) 1 [1, 4, 17] [(1, .slice s.a s.l.length s.c), (4, .bool false), (17, .bool (((decide (frame < 1)) || (decide (frame > 64))) || (decide ((s.l.length : Int) < 1))))] (fun _ => by kernel_rfl) ?_ : RT _ _ _ _ _ _ 5 _)
  refine (segR (ι := Unit) (z := 0) 4 (fun _ => [(1, .slice s.a s.l.length s.c), (4, .bool false), (21, .bool ((((decide (frame < 1)) || (decide (frame > 64))) || (decide ((s.l.length : Int) < 1))) || (decide ((s.l.length : Int) > 6))))]) (fun _ => (H)) ?_ (fun _ => ?_) : RT _ _ _ _ _ _ 4 _)
  · cases hg12 : (((decide (frame < 1)) || (decide (frame > 64))) || (decide ((s.l.length : Int) < 1))) with
    | true =>
      refine (run0 (z := 0) 4 [1, 4, 21] [(1, .slice s.a s.l.length s.c), (4, .bool false), (21, .bool true)] (fun _ => by kernel_rfl) (endR ?_) : RT _ _ _ _ _ _ 4 _)
      refine PT.keep (L' := [(1, .slice s.a s.l.length s.c), (4, .bool false), (21, .bool (true || (decide ((s.l.length : Int) > 6))))]) [1, 4, 21] rfl ?_
      exact midR () rfl rfl
    | false =>
      refine (run0 (z := 0) 4 [1, 4, 21] [(1, .slice s.a s.l.length s.c), (4, .bool false), (21, .bool (decide ((s.l.length : Int) > 6)))] (fun _ => by kernel_rfl) (endR ?_) : RT _ _ _ _ _ _ 4 _)
      refine PT.keep (L' := [(1, .slice s.a s.l.length s.c), (4, .bool false), (21, .bool (false || (decide ((s.l.length : Int) > 6))))]) [1, 4, 21] rfl ?_
      exact midR () rfl rfl
  refine endR ?_
  refine condR (b := (((decide (frame < 1)) || (decide (frame > 64))) || (decide ((s.l.length : Int) < 1))) || (decide ((s.l.length : Int) > 6))) (by kernel_rfl) (fun _ => by kernel_rfl) (fun hb => ?_) (fun hb => ?_)
  · skip
    refine seqR (by kernel_rfl) ?_
    refine regionR 1 (by kernel_rfl) (by kernel_rfl) ?_
    refine (run0 (z := 0) 1 [1, 4] [(1, .slice s.a s.l.length s.c), (4, .bool false)] (fun _ => by kernel_rfl) (endR ?_) : RT _ _ _ _ _ _ 1 _)
    refine retR (by kernel_rfl) ?_
    refine thenV ?_
    refine done0 (.bool false) (fun _ => by kernel_rfl) (fun w hs => ?_) .ret (.inr rfl)
    exact ⟨(), by rw [mayShares, shSum, if_pos (show shBadF frame s.l = true from hb)]; rfl, hs⟩
  · skip
    have hb1 : ¬ shBadF frame s.l = true := by rw [show shBadF frame s.l = false from hb]; simp
    have hlen : s.l.length ≤ 6 := by have h1 : shBadF frame s.l = false := hb; simp only [shBadF, Bool.or_eq_false_iff, decide_eq_false_iff_not] at h1; omega
    refine skipR (by kernel_rfl) ?_
    refine seqR (by kernel_rfl) ?_
    refine seqR (by kernel_rfl) ?_
    refine regionR 1 (by kernel_rfl) (by kernel_rfl) ?_
    refine (run0 (z := 0) 1 [1, 4, 5] [(1, .slice s.a s.l.length s.c), (4, .bool false), (5, .int .i64 0)] (fun _ => by kernel_rfl) (endR ?_) : RT _ _ _ _ _ _ 1 _)
    refine blockR 0 (by kernel_rfl) (by kernel_rfl) ?_
    refine PT.keep (L' := [(1, .slice s.a s.l.length s.c), (4, .bool false), (5, .int .i64 0)]) [1, 4, 5] rfl ?_
    refine loopG (fun (u : Nat) => [(1, .slice s.a s.l.length s.c), (4, .bool false), (5, .int .i64 (u : Int))]) (fun (u : Nat) => (H)) (fun k (u : Nat) => k + u = s.l.length ∧ ((s.l.take u).all fun x => !shBad x) = true) s.l.length 0 (by kernel_rfl) ⟨by omega, rfl⟩ ?_
    rintro k u ⟨hki, hall⟩
    have hw : IntKind.i64.wrap ((u : Int) + 1) = ((u + 1 : Nat) : Int) := by rw [IntKind.wrap_i64]; omega
    refine seqR (by kernel_rfl) ?_
    refine seqR (by kernel_rfl) ?_
    refine regionR 4 (by kernel_rfl) (by kernel_rfl) ?_
    refine (run0 (z := 0) 4 [1, 4, 5, 25] [(1, .slice s.a s.l.length s.c), (4, .bool false), (5, .int .i64 (u : Int)), (25, .bool (decide ((u : Int) < (s.l.length : Int))))] (fun _ => by kernel_rfl) (endR ?_) : RT _ _ _ _ _ _ 4 _)
    refine condR (b := decide ((u : Int) < (s.l.length : Int))) (by kernel_rfl) (fun _ => by kernel_rfl) (fun h => ?_) (fun h => ?_)
    · skip
      have hu : u < s.l.length := by have := of_decide_eq_true h; omega
      obtain ⟨y, hy⟩ : ∃ y, s.l[u]? = some y := ⟨_, by simp [hu]; rfl⟩
      have hym : y ∈ s.l := List.mem_of_getElem? hy
      have ht : s.l.take (u + 1) = s.l.take u ++ [y] := by rw [List.take_add_one, hy]; rfl
      refine PT.know ((hk).isSome (List.ne_nil_of_length_pos (by omega))) ?_
      rintro ⟨sb, so, hA⟩
      try rw [hA]
      refine skipR (by kernel_rfl) ?_
      refine seqR (by kernel_rfl) ?_
      refine blockR 1 (by kernel_rfl) (by kernel_rfl) ?_
      refine seqR (by kernel_rfl) ?_
      refine regionR 12 (by kernel_rfl) (by kernel_rfl) ?_
      refine (run0 (z := 10) 2 [1, 4, 5, 28, 29] [(1, .slice (some ⟨sb, so, none⟩) s.l.length s.c), (4, .bool false), (5, .int .i64 (u : Int)), (28, .slice (some ⟨sb, so, none⟩) s.l.length s.c), (29, .int .i64 (u : Int))] (fun _ => by kernel_rfl) ?_ : RT _ _ _ _ _ _ 12 _)
      refine (stepR (z := 9) (yldS (idxY 26 (.tmp 28) (.tmp 29) sb so s.l.length s.c u 1 3 (u : Int) .i64 (some 30) (fun _ => by kernel_rfl) (by kernel_rfl) (by kernel_rfl) (fun _ => by kernel_rfl) (fun _ => by kernel_rfl) Try.underlying26 (by kernel_rfl) (by first | rfl | assumption | simp) (by first | omega | (simp; done) | (simp; omega) | (simp at *; omega)))) (fun _ => ?_) : RT _ _ _ _ _ _ 10 _)
      refine (runR (H := (H)) (z := 6) 3 [1, 4, 5, 33] [(1, .slice (some ⟨sb, so, none⟩) s.l.length s.c), (4, .bool false), (5, .int .i64 (u : Int)), (33, .bool (decide (y < 0)))] [(⟨sb, so + u * 1, none⟩, .int .i64 y)] (hasC (hk.cell hA (i := u) (x := y) hy (j := 0) rfl) has0) (fun _ => by kernel_rfl) ?_ : RT _ _ _ _ _ _ 9 _)
      refine (segR (ι := Unit) (z := 0) 6 (fun _ => [(1, .slice (some ⟨sb, so, none⟩) s.l.length s.c), (4, .bool false), (5, .int .i64 (u : Int)), (39, .bool ((decide (y < 0)) || (decide (y > 1000))))]) (fun _ => (H)) ?_ (fun _ => ?_) : RT _ _ _ _ _ _ 6 _)
      · cases hg6 : (decide (y < 0)) with
        | true =>
          refine (run0 (z := 0) 6 [1, 4, 5, 39] [(1, .slice (some ⟨sb, so, none⟩) s.l.length s.c), (4, .bool false), (5, .int .i64 (u : Int)), (39, .bool true)] (fun _ => by kernel_rfl) (endR ?_) : RT _ _ _ _ _ _ 6 _)
          refine PT.keep (L' := [(1, .slice (some ⟨sb, so, none⟩) s.l.length s.c), (4, .bool false), (5, .int .i64 (u : Int)), (39, .bool (true || (decide (y > 1000))))]) [1, 4, 5, 39] rfl ?_
          exact midR () rfl rfl
        | false =>
          refine (run0 (z := 4) 2 [1, 4, 5, 33, 34, 35] [(1, .slice (some ⟨sb, so, none⟩) s.l.length s.c), (4, .bool false), (5, .int .i64 (u : Int)), (33, .bool false), (34, .slice (some ⟨sb, so, none⟩) s.l.length s.c), (35, .int .i64 (u : Int))] (fun _ => by kernel_rfl) ?_ : RT _ _ _ _ _ _ 6 _)
          refine (stepR (z := 3) (yldS (idxY 26 (.tmp 34) (.tmp 35) sb so s.l.length s.c u 1 3 (u : Int) .i64 (some 36) (fun _ => by kernel_rfl) (by kernel_rfl) (by kernel_rfl) (fun _ => by kernel_rfl) (fun _ => by kernel_rfl) Try.underlying26 (by kernel_rfl) (by first | rfl | assumption | simp) (by first | omega | (simp; done) | (simp; omega) | (simp at *; omega)))) (fun _ => ?_) : RT _ _ _ _ _ _ 4 _)
          refine (runR (H := (H)) (z := 0) 3 [1, 4, 5, 39] [(1, .slice (some ⟨sb, so, none⟩) s.l.length s.c), (4, .bool false), (5, .int .i64 (u : Int)), (39, .bool (decide (y > 1000)))] [(⟨sb, so + u * 1, none⟩, .int .i64 y)] (hasC (hk.cell hA (i := u) (x := y) hy (j := 0) rfl) has0) (fun _ => by kernel_rfl) (endR ?_) : RT _ _ _ _ _ _ 3 _)
          refine PT.keep (L' := [(1, .slice (some ⟨sb, so, none⟩) s.l.length s.c), (4, .bool false), (5, .int .i64 (u : Int)), (39, .bool (false || (decide (y > 1000))))]) [1, 4, 5, 39] rfl ?_
          exact midR () rfl rfl
      refine endR ?_
      try rw [← hA]
      refine condR (b := (decide (y < 0)) || (decide (y > 1000))) (by kernel_rfl) (fun _ => by kernel_rfl) (fun h2 => ?_) (fun h2 => ?_)
      · skip
        refine seqR (by kernel_rfl) ?_
        refine regionR 1 (by kernel_rfl) (by kernel_rfl) ?_
        refine (run0 (z := 0) 1 [1, 4, 5] [(1, .slice s.a s.l.length s.c), (4, .bool false), (5, .int .i64 (u : Int))] (fun _ => by kernel_rfl) (endR ?_) : RT _ _ _ _ _ _ 1 _)
        refine retR (by kernel_rfl) ?_
        refine blockV ?_
        refine thenV ?_
        refine thenV ?_
        refine blockV ?_
        refine thenV ?_
        have h0 : (s.l.all fun x => !shBad x) = false := by
          rw [← Bool.not_eq_true]
          intro h1
          have := List.all_eq_true.1 h1 y hym
          rw [show shBad y = true from h2] at this
          simp at this
        refine done0 (.bool false) (fun _ => by kernel_rfl) (fun w hs => ?_) .ret (.inr rfl)
        exact ⟨(), by rw [mayShares, shSum, if_neg hb1, if_pos h0]; rfl, hs⟩
      · skip
        refine skipR (by kernel_rfl) ?_
        refine regionR 3 (by kernel_rfl) (by kernel_rfl) ?_
        refine (run0 (z := 0) 3 [1, 4, 5] [(1, .slice s.a s.l.length s.c), (4, .bool false), (5, .int .i64 (IntKind.i64.wrap ((u : Int) + 1)))] (fun _ => by kernel_rfl) (endR ?_) : RT _ _ _ _ _ _ 3 _)
        refine PT.keep (L' := [(1, .slice s.a s.l.length s.c), (4, .bool false), (5, .int .i64 (IntKind.i64.wrap ((u : Int) + 1)))]) [1, 4, 5] rfl ?_
        exact againG (k - 1) (u + 1) (by rw [hw]) rfl (by omega) ⟨by omega, by rw [ht, List.all_append, hall]; simp only [List.all_cons, List.all_nil, show shBad y = false from h2]; rfl⟩
    · skip
      have hu : u = s.l.length := by have := of_decide_eq_false h; omega
      rw [hu, List.take_length] at hall
      refine exitR 0 (by kernel_rfl) (by kernel_rfl) ?_
      refine thenX ?_
      refine thenX ?_
      refine leaveR ?_
      refine seqR (by kernel_rfl) ?_
      refine regionR 4 (by kernel_rfl) (by kernel_rfl) ?_
      refine (run0 (z := 3) 1 [4, 40] [(4, .bool false), (40, .slice s.a s.l.length s.c)] (fun _ => by kernel_rfl) ?_ : RT _ _ _ _ _ _ 4 _)
      refine (stepR (z := 2) (callS 32 [.slice s.a s.l.length s.c] (some 41) (fun _ => .int .i64 (wsum s.l)) (fun _ => (H)) (fun _ => by kernel_rfl) (total_walk _ s hk (by omega))) (fun _ => ?_) : RT _ _ _ _ _ _ 3 _)
      refine (run0 (z := 0) 2 [4] [(4, .bool (decide ((wsum s.l) > 0)))] (fun _ => by kernel_rfl) (endR ?_) : RT _ _ _ _ _ _ 2 _)
      refine retR (by kernel_rfl) ?_
      have hsb := sumI_bounds s.l hall
      refine done0 (.bool (decide ((wsum s.l) > 0))) (fun _ => by kernel_rfl) (fun w hs => ?_) .ret (.inr rfl)
      exact ⟨(), by rw [mayShares, shSum, if_neg hb1, if_neg (by rw [hall]; simp), wsum_eq hall (by omega)]; congr 2; rw [Bool.eq_iff_iff]; simp; omega, hs⟩
set_option maxRecDepth 100000 in
theorem rcount_walk (H : List SP) (s : SV Int) (d : Int) (hk : KR H (kE .i64) s) (hl : s.l.length < 1000000000) : ∀ w, Sat w H → Calls Try.prog 13 #[.slice s.a s.l.length s.c, .int .i64 d] w (Ret (ι := Unit) (fun _ => .int .i64 (countOf s.l d : Nat)) fun _ => H) := by
  refine enterG (fn := Try.f13) 22 [.slice s.a s.l.length s.c, .int .i64 d] Try.func13 (by kernel_rfl) (by kernel_rfl) (by kernel_rfl) ?_
  refine seqR (by kernel_rfl) ?_
  refine regionR 1 (by kernel_rfl) (by kernel_rfl) ?_
  refine (run0 (z := 0) 1 [0, 1, 4] [(0, .slice s.a s.l.length s.c), (1, .int .i64 d), (4, .int .i64 0)] (fun _ => by kernel_rfl) (endR ?_) : RT _ _ _ _ _ _ 1 _)
  refine seqR (by kernel_rfl) ?_
  refine regionR 1 (by kernel_rfl) (by kernel_rfl) ?_
  refine (run0 (z := 0) 1 [0, 1, 4, 5] [(0, .slice s.a s.l.length s.c), (1, .int .i64 d), (4, .int .i64 0), (5, .int .i64 0)] (fun _ => by kernel_rfl) (endR ?_) : RT _ _ _ _ _ _ 1 _)
  refine seqR (by kernel_rfl) ?_
  refine seqR (by kernel_rfl) ?_
  refine regionR 1 (by kernel_rfl) (by kernel_rfl) ?_
  refine (run0 (z := 0) 1 [0, 1, 4, 5, 6] [(0, .slice s.a s.l.length s.c), (1, .int .i64 d), (4, .int .i64 0), (5, .int .i64 0), (6, .int .i64 0)] (fun _ => by kernel_rfl) (endR ?_) : RT _ _ _ _ _ _ 1 _)
  refine blockR 0 (by kernel_rfl) (by kernel_rfl) ?_
  refine PT.keep (L' := [(0, .slice s.a s.l.length s.c), (1, .int .i64 d), (5, .int .i64 0), (6, .int .i64 0)]) [0, 1, 5, 6] rfl ?_
  refine loopG (fun (u : Nat) => [(0, .slice s.a s.l.length s.c), (1, .int .i64 d), (5, .int .i64 (countOf (s.l.take u) d : Nat)), (6, .int .i64 (u : Int))]) (fun (u : Nat) => (H)) (fun k (u : Nat) => k + u = s.l.length) s.l.length 0 (by kernel_rfl) (by omega) ?_
  rintro k u hku
  have hw : IntKind.i64.wrap ((u : Int) + 1) = ((u + 1 : Nat) : Int) := by rw [IntKind.wrap_i64]; omega
  refine seqR (by kernel_rfl) ?_
  refine seqR (by kernel_rfl) ?_
  refine regionR 4 (by kernel_rfl) (by kernel_rfl) ?_
  refine (run0 (z := 0) 4 [0, 1, 5, 6, 10] [(0, .slice s.a s.l.length s.c), (1, .int .i64 d), (5, .int .i64 (countOf (s.l.take u) d : Nat)), (6, .int .i64 (u : Int)), (10, .bool (decide ((u : Int) < (s.l.length : Int))))] (fun _ => by kernel_rfl) (endR ?_) : RT _ _ _ _ _ _ 4 _)
  refine condR (b := decide ((u : Int) < (s.l.length : Int))) (by kernel_rfl) (fun _ => by kernel_rfl) (fun h => ?_) (fun h => ?_)
  · skip
    have hu : u < s.l.length := by have := of_decide_eq_true h; omega
    obtain ⟨y, hy⟩ : ∃ y, s.l[u]? = some y := ⟨_, by simp [hu]; rfl⟩
    have ht : s.l.take (u + 1) = s.l.take u ++ [y] := by rw [List.take_add_one, hy]; rfl
    have hc : countOf (s.l.take (u + 1)) d = countOf (s.l.take u) d + if (y == d) = true then 1 else 0 := by rw [ht]; unfold countOf; rw [List.filter_append, List.length_append]; simp only [List.filter_cons, List.filter_nil]; split <;> rfl
    have hcl : countOf (s.l.take u) d ≤ u := by unfold countOf; refine Nat.le_trans (List.length_filter_le _ _) ?_; rw [List.length_take]; omega
    have hwc : IntKind.i64.wrap (((countOf (s.l.take u) d : Nat) : Int) + 1) = ((countOf (s.l.take u) d + 1 : Nat) : Int) := by rw [IntKind.wrap_i64]; omega
    refine PT.know ((hk).isSome (List.ne_nil_of_length_pos (by omega))) ?_
    rintro ⟨sb, so, hA⟩
    try rw [hA]
    refine skipR (by kernel_rfl) ?_
    refine seqR (by kernel_rfl) ?_
    refine blockR 1 (by kernel_rfl) (by kernel_rfl) ?_
    refine seqR (by kernel_rfl) ?_
    refine regionR 6 (by kernel_rfl) (by kernel_rfl) ?_
    refine (run0 (z := 4) 2 [0, 1, 5, 6, 13, 14] [(0, .slice (some ⟨sb, so, none⟩) s.l.length s.c), (1, .int .i64 d), (5, .int .i64 (countOf (s.l.take u) d : Nat)), (6, .int .i64 (u : Int)), (13, .slice (some ⟨sb, so, none⟩) s.l.length s.c), (14, .int .i64 (u : Int))] (fun _ => by kernel_rfl) ?_ : RT _ _ _ _ _ _ 6 _)
    refine (stepR (z := 3) (yldS (idxY 26 (.tmp 13) (.tmp 14) sb so s.l.length s.c u 1 3 (u : Int) .i64 (some 15) (fun _ => by kernel_rfl) (by kernel_rfl) (by kernel_rfl) (fun _ => by kernel_rfl) (fun _ => by kernel_rfl) Try.underlying26 (by kernel_rfl) (by first | rfl | assumption | simp) (by first | omega | (simp; done) | (simp; omega) | (simp at *; omega)))) (fun _ => ?_) : RT _ _ _ _ _ _ 4 _)
    refine (runR (H := (H)) (z := 0) 3 [0, 1, 5, 6, 18] [(0, .slice (some ⟨sb, so, none⟩) s.l.length s.c), (1, .int .i64 d), (5, .int .i64 (countOf (s.l.take u) d : Nat)), (6, .int .i64 (u : Int)), (18, .bool (y == d))] [(⟨sb, so + u * 1, none⟩, .int .i64 y)] (hasC (hk.cell hA (i := u) (x := y) hy (j := 0) rfl) has0) (fun _ => by kernel_rfl) (endR ?_) : RT _ _ _ _ _ _ 3 _)
    try rw [← hA]
    refine condR (b := y == d) (by kernel_rfl) (fun _ => by kernel_rfl) (fun h2 => ?_) (fun h2 => ?_)
    · skip
      refine regionR 3 (by kernel_rfl) (by kernel_rfl) ?_
      refine (run0 (z := 0) 3 [0, 1, 5, 6] [(0, .slice s.a s.l.length s.c), (1, .int .i64 d), (5, .int .i64 (IntKind.i64.wrap ((countOf (s.l.take u) d : Nat) + 1))), (6, .int .i64 (u : Int))] (fun _ => by kernel_rfl) (endR ?_) : RT _ _ _ _ _ _ 3 _)
      refine regionR 3 (by kernel_rfl) (by kernel_rfl) ?_
      refine (run0 (z := 0) 3 [0, 1, 5, 6] [(0, .slice s.a s.l.length s.c), (1, .int .i64 d), (5, .int .i64 (IntKind.i64.wrap ((countOf (s.l.take u) d : Nat) + 1))), (6, .int .i64 (IntKind.i64.wrap ((u : Int) + 1)))] (fun _ => by kernel_rfl) (endR ?_) : RT _ _ _ _ _ _ 3 _)
      refine PT.keep (L' := [(0, .slice s.a s.l.length s.c), (1, .int .i64 d), (5, .int .i64 (IntKind.i64.wrap ((countOf (s.l.take u) d : Nat) + 1))), (6, .int .i64 (IntKind.i64.wrap ((u : Int) + 1)))]) [0, 1, 5, 6] rfl ?_
      exact againG (k - 1) (u + 1) (by rw [hw, hc, if_pos h2, hwc]) rfl (by omega) (by omega)
    · skip
      refine skipR (by kernel_rfl) ?_
      refine regionR 3 (by kernel_rfl) (by kernel_rfl) ?_
      refine (run0 (z := 0) 3 [0, 1, 5, 6] [(0, .slice s.a s.l.length s.c), (1, .int .i64 d), (5, .int .i64 (countOf (s.l.take u) d : Nat)), (6, .int .i64 (IntKind.i64.wrap ((u : Int) + 1)))] (fun _ => by kernel_rfl) (endR ?_) : RT _ _ _ _ _ _ 3 _)
      refine PT.keep (L' := [(0, .slice s.a s.l.length s.c), (1, .int .i64 d), (5, .int .i64 (countOf (s.l.take u) d : Nat)), (6, .int .i64 (IntKind.i64.wrap ((u : Int) + 1)))]) [0, 1, 5, 6] rfl ?_
      exact againG (k - 1) (u + 1) (by rw [hw, hc, if_neg (by rw [h2]; simp)]; rfl) rfl (by omega) (by omega)
  · skip
    have hu : u = s.l.length := by have := of_decide_eq_false h; omega
    rw [hu, List.take_length]
    refine exitR 0 (by kernel_rfl) (by kernel_rfl) ?_
    refine thenX ?_
    refine thenX ?_
    refine leaveR ?_
    refine seqR (by kernel_rfl) ?_
    refine regionR 2 (by kernel_rfl) (by kernel_rfl) ?_
    refine (run0 (z := 0) 2 [4] [(4, .int .i64 (countOf (s.l) d : Nat))] (fun _ => by kernel_rfl) (endR ?_) : RT _ _ _ _ _ _ 2 _)
    refine retR (by kernel_rfl) ?_
    refine done0 (.int .i64 (countOf (s.l) d : Nat)) (fun _ => by kernel_rfl) (fun w hs => ?_) .ret (.inr rfl)
    exact ⟨(), rfl, hs⟩
def sameL (a b : List Int) : Bool := a == b
set_option maxRecDepth 100000 in
theorem sameInts_walk (H : List SP) (s t : SV Int) (hk : KR H (kE .i64) s) (hk2 : KR H (kE .i64) t) (hl : s.l.length < 1000000000) (hl2 : t.l.length < 1000000000) : ∀ w, Sat w H → Calls Try.prog 9 #[.slice s.a s.l.length s.c, .slice t.a t.l.length t.c] w (Ret (ι := Unit) (fun _ => .bool (decide (s.l = t.l))) fun _ => H) := by
  refine enterG (fn := Try.f9) 26 [.slice s.a s.l.length s.c, .slice t.a t.l.length t.c] Try.func9 (by kernel_rfl) (by kernel_rfl) (by kernel_rfl) ?_
  refine seqR (by kernel_rfl) ?_
  refine regionR 1 (by kernel_rfl) (by kernel_rfl) ?_
  refine (run0 (z := 0) 1 [0, 1, 4] [(0, .slice s.a s.l.length s.c), (1, .slice t.a t.l.length t.c), (4, .bool false)] (fun _ => by kernel_rfl) (endR ?_) : RT _ _ _ _ _ _ 1 _)
  refine seqR (by kernel_rfl) ?_
  refine seqR (by kernel_rfl) ?_
  refine regionR 5 (by kernel_rfl) (by kernel_rfl) ?_
  refine (run0 (z := 0) 5 [0, 1, 4, 10] [(0, .slice s.a s.l.length s.c), (1, .slice t.a t.l.length t.c), (4, .bool false), (10, .bool ((s.l.length : Int) != (t.l.length : Int)))] (fun _ => by kernel_rfl) (endR ?_) : RT _ _ _ _ _ _ 5 _)
  refine condR (b := (s.l.length : Int) != (t.l.length : Int)) (by kernel_rfl) (fun _ => by kernel_rfl) (fun hb => ?_) (fun hb => ?_)
  · skip
    refine seqR (by kernel_rfl) ?_
    refine regionR 1 (by kernel_rfl) (by kernel_rfl) ?_
    refine (run0 (z := 0) 1 [0, 1, 4] [(0, .slice s.a s.l.length s.c), (1, .slice t.a t.l.length t.c), (4, .bool false)] (fun _ => by kernel_rfl) (endR ?_) : RT _ _ _ _ _ _ 1 _)
    refine retR (by kernel_rfl) ?_
    refine thenV ?_
    have hne : s.l ≠ t.l := by intro h0; rw [h0] at hb; simp at hb
    refine done0 (.bool false) (fun _ => by kernel_rfl) (fun w hs => ?_) .ret (.inr rfl)
    exact ⟨(), by rw [decide_eq_false hne], hs⟩
  · skip
    have hll : s.l.length = t.l.length := by simp at hb; omega
    refine skipR (by kernel_rfl) ?_
    refine seqR (by kernel_rfl) ?_
    refine seqR (by kernel_rfl) ?_
    refine regionR 1 (by kernel_rfl) (by kernel_rfl) ?_
    refine (run0 (z := 0) 1 [0, 1, 4, 5] [(0, .slice s.a s.l.length s.c), (1, .slice t.a t.l.length t.c), (4, .bool false), (5, .int .i64 0)] (fun _ => by kernel_rfl) (endR ?_) : RT _ _ _ _ _ _ 1 _)
    refine blockR 0 (by kernel_rfl) (by kernel_rfl) ?_
    refine PT.keep (L' := [(0, .slice s.a s.l.length s.c), (1, .slice t.a t.l.length t.c), (4, .bool false), (5, .int .i64 0)]) [0, 1, 4, 5] rfl ?_
    refine loopG (fun (u : Nat) => [(0, .slice s.a s.l.length s.c), (1, .slice t.a t.l.length t.c), (4, .bool false), (5, .int .i64 (u : Int))]) (fun (u : Nat) => (H)) (fun k (u : Nat) => k + u = s.l.length ∧ s.l.take u = t.l.take u) s.l.length 0 (by kernel_rfl) ⟨by omega, rfl⟩ ?_
    rintro k u ⟨hku, hsame⟩
    have hw : IntKind.i64.wrap ((u : Int) + 1) = ((u + 1 : Nat) : Int) := by rw [IntKind.wrap_i64]; omega
    refine seqR (by kernel_rfl) ?_
    refine seqR (by kernel_rfl) ?_
    refine regionR 4 (by kernel_rfl) (by kernel_rfl) ?_
    refine (run0 (z := 0) 4 [0, 1, 4, 5, 14] [(0, .slice s.a s.l.length s.c), (1, .slice t.a t.l.length t.c), (4, .bool false), (5, .int .i64 (u : Int)), (14, .bool (decide ((u : Int) < (s.l.length : Int))))] (fun _ => by kernel_rfl) (endR ?_) : RT _ _ _ _ _ _ 4 _)
    refine condR (b := decide ((u : Int) < (s.l.length : Int))) (by kernel_rfl) (fun _ => by kernel_rfl) (fun h => ?_) (fun h => ?_)
    · skip
      have hu : u < s.l.length := by have := of_decide_eq_true h; omega
      have hu2 : u < t.l.length := by omega
      obtain ⟨y, hy⟩ : ∃ y, s.l[u]? = some y := ⟨_, by simp [hu]; rfl⟩
      obtain ⟨z, hz⟩ : ∃ z, t.l[u]? = some z := ⟨_, by simp [hu2]; rfl⟩
      have ht : s.l.take (u + 1) = s.l.take u ++ [y] := by rw [List.take_add_one, hy]; rfl
      have ht2 : t.l.take (u + 1) = t.l.take u ++ [z] := by rw [List.take_add_one, hz]; rfl
      refine PT.know ((hk).isSome (List.ne_nil_of_length_pos (by omega))) ?_
      rintro ⟨sb, so, hA⟩
      try rw [hA]
      refine PT.know ((hk2).isSome (List.ne_nil_of_length_pos (by omega))) ?_
      rintro ⟨tb, to_, hB⟩
      try rw [hB]
      refine skipR (by kernel_rfl) ?_
      refine seqR (by kernel_rfl) ?_
      refine blockR 1 (by kernel_rfl) (by kernel_rfl) ?_
      refine seqR (by kernel_rfl) ?_
      refine drawR (fun w => Sat w (H)) [] 9 (by kernel_rfl) (by kernel_rfl) (by kernel_rfl) (fun _ h => by first | exact h | exact h.tail | exact h.tail.tail | exact h.tail.tail.tail | exact h.tail.tail.tail.tail) ?_
      refine takesR [0, 1, 4, 5] [0, 1, 4, 5, 17, 18, 21, 22] 5 [true, true, false, false, true, true, false, false, false] [(0, .slice (some ⟨sb, so, none⟩) s.l.length s.c), (1, .slice (some ⟨tb, to_, none⟩) t.l.length t.c), (4, .bool false), (5, .int .i64 (u : Int)), (17, .slice (some ⟨sb, so, none⟩) s.l.length s.c), (18, .int .i64 (u : Int)), (21, .slice (some ⟨tb, to_, none⟩) t.l.length t.c), (22, .int .i64 (u : Int))] [] rfl (fun _ d _ _ _ h => by cases d <;> exact h) (fun _ h => by first | exact h | exact h.tail | exact h.tail.tail | exact h.tail.tail.tail | exact h.tail.tail.tail.tail) has0 (fun _ => by kernel_rfl) ?_
      refine takeR1 2 4 [true, true, true, false, true, true, false, false, false] rfl rfl (by kernel_rfl) (fun _ d _ _ _ h => by cases d <;> exact h) (fun _ h => by first | exact h | exact h.tail | exact h.tail.tail | exact h.tail.tail.tail | exact h.tail.tail.tail.tail) (idxY 26 (.tmp 17) (.tmp 18) sb so s.l.length s.c u 1 3 (u : Int) .i64 (some 19) (fun _ => by kernel_rfl) (by kernel_rfl) (by kernel_rfl) (fun _ => by kernel_rfl) (fun _ => by kernel_rfl) Try.underlying26 (by kernel_rfl) (by first | rfl | assumption | simp) (by first | omega | (simp; done) | (simp; omega) | (simp at *; omega))) ?_
      refine takesR [3] [0, 1, 4, 5, 21, 22, 20] 3 [true, true, true, true, true, true, false, false, false] [(0, .slice (some ⟨sb, so, none⟩) s.l.length s.c), (1, .slice (some ⟨tb, to_, none⟩) t.l.length t.c), (4, .bool false), (5, .int .i64 (u : Int)), (21, .slice (some ⟨tb, to_, none⟩) t.l.length t.c), (22, .int .i64 (u : Int)), (20, .int .i64 y)] [(⟨sb, so + u * 1, none⟩, .int .i64 y)] rfl (fun _ d _ _ _ h => by cases d <;> exact h) (fun _ h => by first | exact h | exact h.tail | exact h.tail.tail | exact h.tail.tail.tail | exact h.tail.tail.tail.tail) (hasC (hk.cell hA (i := u) (x := y) hy (j := 0) rfl) has0) (fun _ => by kernel_rfl) ?_
      refine takeR1 6 2 [true, true, true, true, true, true, true, false, false] rfl rfl (by kernel_rfl) (fun _ d _ _ _ h => by cases d <;> exact h) (fun _ h => by first | exact h | exact h.tail | exact h.tail.tail | exact h.tail.tail.tail | exact h.tail.tail.tail.tail) (idxY 26 (.tmp 21) (.tmp 22) tb to_ t.l.length t.c u 1 3 (u : Int) .i64 (some 23) (fun _ => by kernel_rfl) (by kernel_rfl) (by kernel_rfl) (fun _ => by kernel_rfl) (fun _ => by kernel_rfl) Try.underlying26 (by kernel_rfl) (by first | rfl | assumption | simp) (by first | omega | (simp; done) | (simp; omega) | (simp at *; omega))) ?_
      refine takesR [7, 8] [0, 1, 4, 5, 25] 0 [true, true, true, true, true, true, true, true, true] [(0, .slice (some ⟨sb, so, none⟩) s.l.length s.c), (1, .slice (some ⟨tb, to_, none⟩) t.l.length t.c), (4, .bool false), (5, .int .i64 (u : Int)), (25, .bool (y != z))] [(⟨tb, to_ + u * 1, none⟩, .int .i64 z)] rfl (fun _ d _ _ _ h => by cases d <;> exact h) (fun _ h => by first | exact h | exact h.tail | exact h.tail.tail | exact h.tail.tail.tail | exact h.tail.tail.tail.tail) (hasC (hk2.cell hB (i := u) (x := z) hz (j := 0) rfl) has0) (fun _ => by kernel_rfl) ?_
      refine drawnR (by kernel_rfl) ?_
      try rw [← hB]
      try rw [← hA]
      refine condR (b := y != z) (by kernel_rfl) (fun _ => by kernel_rfl) (fun h2 => ?_) (fun h2 => ?_)
      · skip
        refine seqR (by kernel_rfl) ?_
        refine regionR 1 (by kernel_rfl) (by kernel_rfl) ?_
        refine (run0 (z := 0) 1 [0, 1, 4, 5] [(0, .slice s.a s.l.length s.c), (1, .slice t.a t.l.length t.c), (4, .bool false), (5, .int .i64 (u : Int))] (fun _ => by kernel_rfl) (endR ?_) : RT _ _ _ _ _ _ 1 _)
        refine retR (by kernel_rfl) ?_
        refine blockV ?_
        refine thenV ?_
        refine thenV ?_
        refine blockV ?_
        refine thenV ?_
        have hne : s.l ≠ t.l := by intro h0; rw [h0, hz] at hy; cases hy; simp at h2
        refine done0 (.bool false) (fun _ => by kernel_rfl) (fun w hs => ?_) .ret (.inr rfl)
        exact ⟨(), by rw [decide_eq_false hne], hs⟩
      · skip
        refine skipR (by kernel_rfl) ?_
        refine regionR 3 (by kernel_rfl) (by kernel_rfl) ?_
        refine (run0 (z := 0) 3 [0, 1, 4, 5] [(0, .slice s.a s.l.length s.c), (1, .slice t.a t.l.length t.c), (4, .bool false), (5, .int .i64 (IntKind.i64.wrap ((u : Int) + 1)))] (fun _ => by kernel_rfl) (endR ?_) : RT _ _ _ _ _ _ 3 _)
        have hyz : y = z := by simpa using h2
        refine PT.keep (L' := [(0, .slice s.a s.l.length s.c), (1, .slice t.a t.l.length t.c), (4, .bool false), (5, .int .i64 (IntKind.i64.wrap ((u : Int) + 1)))]) [0, 1, 4, 5] rfl ?_
        exact againG (k - 1) (u + 1) (by rw [hw]) rfl (by omega) ⟨by omega, by rw [ht, ht2, hsame, hyz]⟩
    · skip
      have hu : u = s.l.length := by have := of_decide_eq_false h; omega
      rw [hu, List.take_length, hll, List.take_length] at hsame
      refine exitR 0 (by kernel_rfl) (by kernel_rfl) ?_
      refine thenX ?_
      refine thenX ?_
      refine leaveR ?_
      refine seqR (by kernel_rfl) ?_
      refine regionR 1 (by kernel_rfl) (by kernel_rfl) ?_
      refine (run0 (z := 0) 1 [4] [(4, .bool true)] (fun _ => by kernel_rfl) (endR ?_) : RT _ _ _ _ _ _ 1 _)
      refine retR (by kernel_rfl) ?_
      refine done0 (.bool true) (fun _ => by kernel_rfl) (fun w hs => ?_) .ret (.inr rfl)
      exact ⟨(), by rw [decide_eq_true hsame], hs⟩
end Go.Proofs.Ytjjbnmlhbbnhcaa
