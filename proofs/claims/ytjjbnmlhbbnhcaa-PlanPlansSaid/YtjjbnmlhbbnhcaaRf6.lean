/- tontineref11.MayCounts: its walk. Conditions: none. -/
import Derived.Test.YtjjbnmlhbbnhcaaRf5
set_option linter.unusedVariables false
set_option linter.unusedSimpArgs false
namespace Go.Proofs.Ytjjbnmlhbbnhcaa
open Go.RowKit G
def mcBadF (l : List Int) : Bool := (decide ((l.length : Int) < 1)) || (decide ((l.length : Int) > 6))
def mcBad (s : Int) : Bool := (decide (s < 0)) || (decide (s > 64))
def mayCountsB (l : List Int) : Bool := if mcBadF l = true then false else if (l.all fun s => !mcBad s) = false then false else decide (wsum l ≥ 1) && decide (wsum l ≤ 64)
set_option maxRecDepth 100000 in
theorem mayCounts_walk (H : List SP) (s : SV Int) (hk : KR H (kE .i64) s) : ∀ w, Sat w H → Calls Try.prog 43 #[.slice s.a s.l.length s.c] w (Ret (ι := Unit) (fun _ => .bool (mayCountsB s.l)) fun _ => H) := by
  refine enterG (fn := Try.f43) 39 [.slice s.a s.l.length s.c] Try.func43 (by kernel_rfl) (by kernel_rfl) (by kernel_rfl) ?_
  refine seqR (by kernel_rfl) ?_
  refine regionR 1 (by kernel_rfl) (by kernel_rfl) ?_
  refine (run0 (z := 0) 1 [0, 2] [(0, .slice s.a s.l.length s.c), (2, .bool false)] (fun _ => by kernel_rfl) (endR ?_) : RT _ _ _ _ _ _ 1 _)
  refine seqR (by kernel_rfl) ?_
  refine seqR (by kernel_rfl) ?_
  refine regionR 8 (by kernel_rfl) (by kernel_rfl) ?_
  refine (run0 (z := 4) 4 [0, 2, 8] [(0, .slice s.a s.l.length s.c), (2, .bool false), (8, .bool (decide ((s.l.length : Int) < 1)))] (fun _ => by kernel_rfl) ?_ : RT _ _ _ _ _ _ 8 _)
  refine (segR (ι := Unit) (z := 0) 4 (fun _ => [(0, .slice s.a s.l.length s.c), (2, .bool false), (12, .bool ((decide ((s.l.length : Int) < 1)) || (decide ((s.l.length : Int) > 6))))]) (fun _ => (H)) ?_ (fun _ => ?_) : RT _ _ _ _ _ _ 4 _)
  · cases hg4 : (decide ((s.l.length : Int) < 1)) with
    | true =>
      refine (run0 (z := 0) 4 [0, 2, 12] [(0, .slice s.a s.l.length s.c), (2, .bool false), (12, .bool true)] (fun _ => by kernel_rfl) (endR ?_) : RT _ _ _ _ _ _ 4 _)
      refine PT.keep (L' := [(0, .slice s.a s.l.length s.c), (2, .bool false), (12, .bool (true || (decide ((s.l.length : Int) > 6))))]) [0, 2, 12] rfl ?_
      exact midR () rfl rfl
    | false =>
      refine (run0 (z := 0) 4 [0, 2, 12] [(0, .slice s.a s.l.length s.c), (2, .bool false), (12, .bool (decide ((s.l.length : Int) > 6)))] (fun _ => by kernel_rfl) (endR ?_) : RT _ _ _ _ _ _ 4 _)
      refine PT.keep (L' := [(0, .slice s.a s.l.length s.c), (2, .bool false), (12, .bool (false || (decide ((s.l.length : Int) > 6))))]) [0, 2, 12] rfl ?_
      exact midR () rfl rfl
  refine endR ?_
  refine condR (b := (decide ((s.l.length : Int) < 1)) || (decide ((s.l.length : Int) > 6))) (by kernel_rfl) (fun _ => by kernel_rfl) (fun hb => ?_) (fun hb => ?_)
  · skip
    refine seqR (by kernel_rfl) ?_
    refine regionR 1 (by kernel_rfl) (by kernel_rfl) ?_
    refine (run0 (z := 0) 1 [0, 2] [(0, .slice s.a s.l.length s.c), (2, .bool false)] (fun _ => by kernel_rfl) (endR ?_) : RT _ _ _ _ _ _ 1 _)
    refine retR (by kernel_rfl) ?_
    refine thenV ?_
    refine done0 (.bool false) (fun _ => by kernel_rfl) (fun w hs => ?_) .ret (.inr rfl)
    exact ⟨(), by rw [mayCountsB, if_pos (show mcBadF s.l = true from hb)], hs⟩
  · skip
    have hb1 : ¬ mcBadF s.l = true := by rw [show mcBadF s.l = false from hb]; simp
    have hlen : s.l.length ≤ 6 := by have h1 : mcBadF s.l = false := hb; simp only [mcBadF, Bool.or_eq_false_iff, decide_eq_false_iff_not] at h1; omega
    refine skipR (by kernel_rfl) ?_
    refine seqR (by kernel_rfl) ?_
    refine seqR (by kernel_rfl) ?_
    refine regionR 1 (by kernel_rfl) (by kernel_rfl) ?_
    refine (run0 (z := 0) 1 [0, 2, 3] [(0, .slice s.a s.l.length s.c), (2, .bool false), (3, .int .i64 0)] (fun _ => by kernel_rfl) (endR ?_) : RT _ _ _ _ _ _ 1 _)
    refine blockR 0 (by kernel_rfl) (by kernel_rfl) ?_
    refine PT.keep (L' := [(0, .slice s.a s.l.length s.c), (2, .bool false), (3, .int .i64 0)]) [0, 2, 3] rfl ?_
    refine loopG (fun (u : Nat) => [(0, .slice s.a s.l.length s.c), (2, .bool false), (3, .int .i64 (u : Int))]) (fun (u : Nat) => (H)) (fun k (u : Nat) => k + u = s.l.length ∧ ((s.l.take u).all fun x => !mcBad x) = true) s.l.length 0 (by kernel_rfl) ⟨by omega, rfl⟩ ?_
    rintro k u ⟨hki, hall⟩
    have hw : IntKind.i64.wrap ((u : Int) + 1) = ((u + 1 : Nat) : Int) := by rw [IntKind.wrap_i64]; omega
    refine seqR (by kernel_rfl) ?_
    refine seqR (by kernel_rfl) ?_
    refine regionR 4 (by kernel_rfl) (by kernel_rfl) ?_
    refine (run0 (z := 0) 4 [0, 2, 3, 16] [(0, .slice s.a s.l.length s.c), (2, .bool false), (3, .int .i64 (u : Int)), (16, .bool (decide ((u : Int) < (s.l.length : Int))))] (fun _ => by kernel_rfl) (endR ?_) : RT _ _ _ _ _ _ 4 _)
    refine condR (b := decide ((u : Int) < (s.l.length : Int))) (by kernel_rfl) (fun _ => by kernel_rfl) (fun h => ?_) (fun h => ?_)
    · skip
      have hu : u < s.l.length := by have := of_decide_eq_true h; omega
      obtain ⟨y, hy⟩ : ∃ y, s.l[u]? = some y := ⟨_, by simp [hu]; rfl⟩
      have hym : y ∈ s.l := List.mem_of_getElem? hy
      have ht : s.l.take (u + 1) = s.l.take u ++ [y] := by rw [List.take_add_one, hy]; rfl
      refine PT.know ((hk).isSome (List.ne_nil_of_length_pos (by omega))) ?_
      rintro ⟨sb, so, hA⟩
      try rw [hA]
      refine skipR (by kernel_rfl) ?_
      refine seqR (by kernel_rfl) ?_
      refine blockR 1 (by kernel_rfl) (by kernel_rfl) ?_
      refine seqR (by kernel_rfl) ?_
      refine regionR 12 (by kernel_rfl) (by kernel_rfl) ?_
      refine (run0 (z := 10) 2 [0, 2, 3, 19, 20] [(0, .slice (some ⟨sb, so, none⟩) s.l.length s.c), (2, .bool false), (3, .int .i64 (u : Int)), (19, .slice (some ⟨sb, so, none⟩) s.l.length s.c), (20, .int .i64 (u : Int))] (fun _ => by kernel_rfl) ?_ : RT _ _ _ _ _ _ 12 _)
      refine (stepR (z := 9) (yldS (idxY 26 (.tmp 19) (.tmp 20) sb so s.l.length s.c u 1 3 (u : Int) .i64 (some 21) (fun _ => by kernel_rfl) (by kernel_rfl) (by kernel_rfl) (fun _ => by kernel_rfl) (fun _ => by kernel_rfl) Try.underlying26 (by kernel_rfl) (by first | rfl | assumption | simp) (by first | omega | (simp; done) | (simp; omega) | (simp at *; omega)))) (fun _ => ?_) : RT _ _ _ _ _ _ 10 _)
      refine (runR (H := (H)) (z := 6) 3 [0, 2, 3, 24] [(0, .slice (some ⟨sb, so, none⟩) s.l.length s.c), (2, .bool false), (3, .int .i64 (u : Int)), (24, .bool (decide (y < 0)))] [(⟨sb, so + u * 1, none⟩, .int .i64 y)] (hasC (hk.cell hA (i := u) (x := y) hy (j := 0) rfl) has0) (fun _ => by kernel_rfl) ?_ : RT _ _ _ _ _ _ 9 _)
      refine (segR (ι := Unit) (z := 0) 6 (fun _ => [(0, .slice (some ⟨sb, so, none⟩) s.l.length s.c), (2, .bool false), (3, .int .i64 (u : Int)), (30, .bool ((decide (y < 0)) || (decide (y > 64))))]) (fun _ => (H)) ?_ (fun _ => ?_) : RT _ _ _ _ _ _ 6 _)
      · cases hg6 : (decide (y < 0)) with
        | true =>
          refine (run0 (z := 0) 6 [0, 2, 3, 30] [(0, .slice (some ⟨sb, so, none⟩) s.l.length s.c), (2, .bool false), (3, .int .i64 (u : Int)), (30, .bool true)] (fun _ => by kernel_rfl) (endR ?_) : RT _ _ _ _ _ _ 6 _)
          refine PT.keep (L' := [(0, .slice (some ⟨sb, so, none⟩) s.l.length s.c), (2, .bool false), (3, .int .i64 (u : Int)), (30, .bool (true || (decide (y > 64))))]) [0, 2, 3, 30] rfl ?_
          exact midR () rfl rfl
        | false =>
          refine (run0 (z := 4) 2 [0, 2, 3, 24, 25, 26] [(0, .slice (some ⟨sb, so, none⟩) s.l.length s.c), (2, .bool false), (3, .int .i64 (u : Int)), (24, .bool false), (25, .slice (some ⟨sb, so, none⟩) s.l.length s.c), (26, .int .i64 (u : Int))] (fun _ => by kernel_rfl) ?_ : RT _ _ _ _ _ _ 6 _)
          refine (stepR (z := 3) (yldS (idxY 26 (.tmp 25) (.tmp 26) sb so s.l.length s.c u 1 3 (u : Int) .i64 (some 27) (fun _ => by kernel_rfl) (by kernel_rfl) (by kernel_rfl) (fun _ => by kernel_rfl) (fun _ => by kernel_rfl) Try.underlying26 (by kernel_rfl) (by first | rfl | assumption | simp) (by first | omega | (simp; done) | (simp; omega) | (simp at *; omega)))) (fun _ => ?_) : RT _ _ _ _ _ _ 4 _)
          refine (runR (H := (H)) (z := 0) 3 [0, 2, 3, 30] [(0, .slice (some ⟨sb, so, none⟩) s.l.length s.c), (2, .bool false), (3, .int .i64 (u : Int)), (30, .bool (decide (y > 64)))] [(⟨sb, so + u * 1, none⟩, .int .i64 y)] (hasC (hk.cell hA (i := u) (x := y) hy (j := 0) rfl) has0) (fun _ => by kernel_rfl) (endR ?_) : RT _ _ _ _ _ _ 3 _)
          refine PT.keep (L' := [(0, .slice (some ⟨sb, so, none⟩) s.l.length s.c), (2, .bool false), (3, .int .i64 (u : Int)), (30, .bool (false || (decide (y > 64))))]) [0, 2, 3, 30] rfl ?_
          exact midR () rfl rfl
      refine endR ?_
      try rw [← hA]
      refine condR (b := (decide (y < 0)) || (decide (y > 64))) (by kernel_rfl) (fun _ => by kernel_rfl) (fun h2 => ?_) (fun h2 => ?_)
      · skip
        refine seqR (by kernel_rfl) ?_
        refine regionR 1 (by kernel_rfl) (by kernel_rfl) ?_
        refine (run0 (z := 0) 1 [0, 2, 3] [(0, .slice s.a s.l.length s.c), (2, .bool false), (3, .int .i64 (u : Int))] (fun _ => by kernel_rfl) (endR ?_) : RT _ _ _ _ _ _ 1 _)
        refine retR (by kernel_rfl) ?_
        refine blockV ?_
        refine thenV ?_
        refine thenV ?_
        refine blockV ?_
        refine thenV ?_
        have h0 : (s.l.all fun x => !mcBad x) = false := by
          rw [← Bool.not_eq_true]
          intro h1
          have := List.all_eq_true.1 h1 y hym
          rw [show mcBad y = true from h2] at this
          simp at this
        refine done0 (.bool false) (fun _ => by kernel_rfl) (fun w hs => ?_) .ret (.inr rfl)
        exact ⟨(), by rw [mayCountsB, if_neg hb1, if_pos h0], hs⟩
      · skip
        refine skipR (by kernel_rfl) ?_
        refine regionR 3 (by kernel_rfl) (by kernel_rfl) ?_
        refine (run0 (z := 0) 3 [0, 2, 3] [(0, .slice s.a s.l.length s.c), (2, .bool false), (3, .int .i64 (IntKind.i64.wrap ((u : Int) + 1)))] (fun _ => by kernel_rfl) (endR ?_) : RT _ _ _ _ _ _ 3 _)
        refine PT.keep (L' := [(0, .slice s.a s.l.length s.c), (2, .bool false), (3, .int .i64 (IntKind.i64.wrap ((u : Int) + 1)))]) [0, 2, 3] rfl ?_
        exact againG (k - 1) (u + 1) (by rw [hw]) rfl (by omega) ⟨by omega, by rw [ht, List.all_append, hall]; simp only [List.all_cons, List.all_nil, show mcBad y = false from h2]; rfl⟩
    · skip
      have hu : u = s.l.length := by have := of_decide_eq_false h; omega
      rw [hu, List.take_length] at hall
      refine exitR 0 (by kernel_rfl) (by kernel_rfl) ?_
      refine thenX ?_
      refine thenX ?_
      refine leaveR ?_
      refine seqR (by kernel_rfl) ?_
      refine regionR 3 (by kernel_rfl) (by kernel_rfl) ?_
      refine (run0 (z := 2) 1 [2, 31] [(2, .bool false), (31, .slice s.a s.l.length s.c)] (fun _ => by kernel_rfl) ?_ : RT _ _ _ _ _ _ 3 _)
      refine (stepR (z := 1) (callS 32 [.slice s.a s.l.length s.c] (some 32) (fun _ => .int .i64 (wsum s.l)) (fun _ => (H)) (fun _ => by kernel_rfl) (total_walk _ s hk (by omega))) (fun _ => ?_) : RT _ _ _ _ _ _ 2 _)
      refine (run0 (z := 0) 1 [2, 4] [(2, .bool false), (4, .int .i64 (wsum s.l))] (fun _ => by kernel_rfl) (endR ?_) : RT _ _ _ _ _ _ 1 _)
      refine seqR (by kernel_rfl) ?_
      refine regionR 7 (by kernel_rfl) (by kernel_rfl) ?_
      refine (run0 (z := 4) 3 [2, 4, 35] [(2, .bool false), (4, .int .i64 (wsum s.l)), (35, .bool (decide ((wsum s.l) ≥ 1)))] (fun _ => by kernel_rfl) ?_ : RT _ _ _ _ _ _ 7 _)
      refine (segR (ι := Unit) (z := 1) 3 (fun _ => [(2, .bool false), (38, .bool ((decide ((wsum s.l) ≥ 1)) && (decide ((wsum s.l) ≤ 64))))]) (fun _ => (H)) ?_ (fun _ => ?_) : RT _ _ _ _ _ _ 4 _)
      · cases hg3 : (decide ((wsum s.l) ≥ 1)) with
        | true =>
          refine (run0 (z := 0) 3 [2, 38] [(2, .bool false), (38, .bool (decide ((wsum s.l) ≤ 64)))] (fun _ => by kernel_rfl) (endR ?_) : RT _ _ _ _ _ _ 3 _)
          refine PT.keep (L' := [(2, .bool false), (38, .bool (true && (decide ((wsum s.l) ≤ 64))))]) [2, 38] rfl ?_
          exact midR () rfl rfl
        | false =>
          refine (run0 (z := 0) 3 [2, 38] [(2, .bool false), (38, .bool false)] (fun _ => by kernel_rfl) (endR ?_) : RT _ _ _ _ _ _ 3 _)
          refine PT.keep (L' := [(2, .bool false), (38, .bool (false && (decide ((wsum s.l) ≤ 64))))]) [2, 38] rfl ?_
          exact midR () rfl rfl
      refine (run0 (z := 0) 1 [2] [(2, .bool ((decide ((wsum s.l) ≥ 1)) && (decide ((wsum s.l) ≤ 64))))] (fun _ => by kernel_rfl) (endR ?_) : RT _ _ _ _ _ _ 1 _)
      refine retR (by kernel_rfl) ?_
      refine done0 (.bool ((decide ((wsum s.l) ≥ 1)) && (decide ((wsum s.l) ≤ 64)))) (fun _ => by kernel_rfl) (fun w hs => ?_) .ret (.inr rfl)
      exact ⟨(), by rw [mayCountsB, if_neg hb1, if_neg (by rw [hall]; simp)], hs⟩
end Go.Proofs.Ytjjbnmlhbbnhcaa
