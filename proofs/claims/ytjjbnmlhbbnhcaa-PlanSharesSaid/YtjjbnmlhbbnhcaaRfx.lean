/- tontineref11.Exact: its walk where it holds. Conditions: what is exact. -/
import Derived.Test.YtjjbnmlhbbnhcaaGod
import Derived.Test.YtjjbnmlhbbnhcaaRf9
set_option linter.unusedVariables false
set_option linter.unusedSimpArgs false
namespace Go.Proofs.Ytjjbnmlhbbnhcaa
open Go.RowKit G
set_option maxHeartbeats 1000000 in
set_option maxRecDepth 100000 in
theorem exact_walk (H : List SP) (frame : Int) (s t : SV Int) (hk : KR H (kE .i64) s) (hk2 : KR H (kE .i64) t) (hsh : ¬ (shSum frame s.l == 0) = true) (hlen : t.l.length = s.l.length)
    (hx : ∀ (j : Nat) (x y : Int), t.l[j]? = some x → s.l[j]? = some y → 0 ≤ x ∧ x ≤ frame ∧ x * s.l.sum - frame * y < s.l.sum ∧ -(x * s.l.sum - frame * y) < s.l.sum) (hsum : t.l.sum = frame) : ∀ w, Sat w H → Calls Try.prog 19 #[.int .i64 frame, .slice s.a s.l.length s.c, .slice t.a t.l.length t.c] w (Ret (ι := Unit) (fun _ => .bool true) fun _ => H) := by
  obtain ⟨hf, ha, hl6, hl1, hbad, hsm⟩ := shSum_good hsh
  have hsb := sumI_bounds s.l hbad
  rw [sumI_sum] at hsb
  rw [hsm, sumI_sum] at ha
  have hms : mayShares frame s.l = true := by simp [mayShares]; simpa using hsh
  have hws : wsum s.l = s.l.sum := by rw [wsum_eq hbad (by omega), sumI_sum]
  have htm : ∀ x ∈ t.l, 0 ≤ x ∧ x ≤ 64 := by
    intro x hxm
    obtain ⟨j, hj⟩ := List.getElem?_of_mem hxm
    have hjl := (List.getElem?_eq_some_iff.1 hj).1
    have := hx j x (s.l[j]'(by omega)) hj (by simp)
    omega
  have hwt := (wsum_sum (l := t.l) (fun x h => by have := htm x h; omega) (by omega)).1
  rw [hsum] at hwt
  refine enterG (fn := Try.f19) 74 [.int .i64 frame, .slice s.a s.l.length s.c, .slice t.a t.l.length t.c] Try.func19 (by kernel_rfl) (by kernel_rfl) (by kernel_rfl) ?_
  refine seqR (by kernel_rfl) ?_
  refine regionR 1 (by kernel_rfl) (by kernel_rfl) ?_
  refine (run0 (z := 0) 1 [0, 1, 2, 6] [(0, .int .i64 frame), (1, .slice s.a s.l.length s.c), (2, .slice t.a t.l.length t.c), (6, .bool false)] (fun _ => by kernel_rfl) (endR ?_) : RT _ _ _ _ _ _ 1 _)
  refine seqR (by kernel_rfl) ?_
  refine seqR (by kernel_rfl) ?_
  refine regionR 11 (by kernel_rfl) (by kernel_rfl) ?_
  refine (run0 (z := 9) 2 [0, 1, 2, 6, 10, 11] [(0, .int .i64 frame), (1, .slice s.a s.l.length s.c), (2, .slice t.a t.l.length t.c), (6, .bool false), (10, .int .i64 frame), (11, .slice s.a s.l.length s.c)] (fun _ => by kernel_rfl) ?_ : RT _ _ _ _ _ _ 11 _)
  refine (stepR (z := 8) (callS 31 [.int .i64 frame, .slice s.a s.l.length s.c] (some 12) (fun _ => .bool (mayShares frame s.l)) (fun _ => (H)) (fun _ => by kernel_rfl) (mayShares_walk _ frame s hk)) (fun _ => ?_) : RT _ _ _ _ _ _ 9 _)
  rw [hms]
  refine (run0 (z := 0) 8 [0, 1, 2, 6, 20] [(0, .int .i64 frame), (1, .slice s.a s.l.length s.c), (2, .slice t.a t.l.length t.c), (6, .bool false), (20, .bool ((t.l.length : Int) != (s.l.length : Int)))] (fun _ => by kernel_rfl) (endR ?_) : RT _ _ _ _ _ _ 8 _)
  rw [show ((t.l.length : Int) != (s.l.length : Int)) = false by rw [hlen]; simp]
  refine condR (b := false) (by kernel_rfl) (fun _ => by kernel_rfl) (fun h => by cases h) (fun _ => ?_)
  refine skipR (by kernel_rfl) ?_
  refine seqR (by kernel_rfl) ?_
  refine regionR 1 (by kernel_rfl) (by kernel_rfl) ?_
  refine (run0 (z := 0) 1 [0, 1, 2, 6, 7] [(0, .int .i64 frame), (1, .slice s.a s.l.length s.c), (2, .slice t.a t.l.length t.c), (6, .bool false), (7, .int .i64 0)] (fun _ => by kernel_rfl) (endR ?_) : RT _ _ _ _ _ _ 1 _)
  refine seqR (by kernel_rfl) ?_
  refine seqR (by kernel_rfl) ?_
  refine regionR 1 (by kernel_rfl) (by kernel_rfl) ?_
  refine (run0 (z := 0) 1 [0, 1, 2, 6, 7, 8] [(0, .int .i64 frame), (1, .slice s.a s.l.length s.c), (2, .slice t.a t.l.length t.c), (6, .bool false), (7, .int .i64 0), (8, .int .i64 0)] (fun _ => by kernel_rfl) (endR ?_) : RT _ _ _ _ _ _ 1 _)
  refine blockR 0 (by kernel_rfl) (by kernel_rfl) ?_
  refine PT.keep (L' := [(0, .int .i64 frame), (1, .slice s.a s.l.length s.c), (2, .slice t.a t.l.length t.c), (6, .bool false), (7, .int .i64 0), (8, .int .i64 0)]) [0, 1, 2, 6, 7, 8] rfl ?_
  refine loopG (fun (u : Nat) => [(0, .int .i64 frame), (1, .slice s.a s.l.length s.c), (2, .slice t.a t.l.length t.c), (6, .bool false), (7, .int .i64 (wsum (t.l.take u))), (8, .int .i64 (u : Int))]) (fun (u : Nat) => (H)) (fun k (u : Nat) => k + u = t.l.length) t.l.length 0 (by kernel_rfl) (by omega) ?_
  rintro k u hku
  have hw : IntKind.i64.wrap ((u : Int) + 1) = ((u + 1 : Nat) : Int) := by rw [IntKind.wrap_i64]; omega
  refine seqR (by kernel_rfl) ?_
  refine seqR (by kernel_rfl) ?_
  refine regionR 4 (by kernel_rfl) (by kernel_rfl) ?_
  refine (run0 (z := 0) 4 [0, 1, 2, 6, 7, 8, 24] [(0, .int .i64 frame), (1, .slice s.a s.l.length s.c), (2, .slice t.a t.l.length t.c), (6, .bool false), (7, .int .i64 (wsum (t.l.take u))), (8, .int .i64 (u : Int)), (24, .bool (decide ((u : Int) < (t.l.length : Int))))] (fun _ => by kernel_rfl) (endR ?_) : RT _ _ _ _ _ _ 4 _)
  refine condR (b := decide ((u : Int) < (t.l.length : Int))) (by kernel_rfl) (fun _ => by kernel_rfl) (fun h1 => ?_) (fun h1 => ?_)
  · skip
    have hu : u < t.l.length := by have := of_decide_eq_true h1; omega
    have hu2 : u < s.l.length := by omega
    obtain ⟨x, hxu⟩ : ∃ x, t.l[u]? = some x := ⟨_, by simp [hu]; rfl⟩
    obtain ⟨y, hyu⟩ : ∃ y, s.l[u]? = some y := ⟨_, by simp [hu2]; rfl⟩
    have ht : t.l.take (u + 1) = t.l.take u ++ [x] := by rw [List.take_add_one, hxu]; rfl
    obtain ⟨x1, x2, x3, x4⟩ := hx u x y hxu hyu
    have hyb : 0 ≤ y ∧ y ≤ 1000 := by have := List.all_eq_true.1 hbad y (List.mem_of_getElem? hyu); simp only [shBad, Bool.not_eq_true', Bool.or_eq_false_iff, decide_eq_false_iff_not] at this; omega
    have m1 : 0 ≤ x * s.l.sum ∧ x * s.l.sum ≤ 64 * 6000 := ⟨Int.mul_nonneg x1 (by omega), Int.mul_le_mul (by omega) (by omega) (by omega) (by omega)⟩
    have m2 : 0 ≤ frame * y ∧ frame * y ≤ 64 * 1000 := ⟨Int.mul_nonneg (by omega) hyb.1, Int.mul_le_mul hf.2 hyb.2 hyb.1 (by omega)⟩
    refine PT.know ((hk2).isSome (List.ne_nil_of_length_pos (by omega))) ?_
    rintro ⟨tb, to_, hB⟩
    try rw [hB]
    refine skipR (by kernel_rfl) ?_
    refine seqR (by kernel_rfl) ?_
    refine blockR 1 (by kernel_rfl) (by kernel_rfl) ?_
    refine seqR (by kernel_rfl) ?_
    refine seqR (by kernel_rfl) ?_
    refine regionR 13 (by kernel_rfl) (by kernel_rfl) ?_
    refine (run0 (z := 11) 2 [0, 1, 2, 6, 7, 8, 27, 28] [(0, .int .i64 frame), (1, .slice s.a s.l.length s.c), (2, .slice (some ⟨tb, to_, none⟩) t.l.length t.c), (6, .bool false), (7, .int .i64 (wsum (t.l.take u))), (8, .int .i64 (u : Int)), (27, .slice (some ⟨tb, to_, none⟩) t.l.length t.c), (28, .int .i64 (u : Int))] (fun _ => by kernel_rfl) ?_ : RT _ _ _ _ _ _ 13 _)
    refine (stepR (z := 10) (yldS (idxY 26 (.tmp 27) (.tmp 28) tb to_ t.l.length t.c u 1 3 (u : Int) .i64 (some 29) (fun _ => by kernel_rfl) (by kernel_rfl) (by kernel_rfl) (fun _ => by kernel_rfl) (fun _ => by kernel_rfl) Try.underlying26 (by kernel_rfl) (by first | rfl | assumption | simp) (by first | omega | (simp; done) | (simp; omega) | (simp at *; omega)))) (fun _ => ?_) : RT _ _ _ _ _ _ 11 _)
    refine (runR (H := (H)) (z := 7) 3 [0, 1, 2, 6, 7, 8, 32] [(0, .int .i64 frame), (1, .slice s.a s.l.length s.c), (2, .slice (some ⟨tb, to_, none⟩) t.l.length t.c), (6, .bool false), (7, .int .i64 (wsum (t.l.take u))), (8, .int .i64 (u : Int)), (32, .bool (decide (x < 0)))] [(⟨tb, to_ + u * 1, none⟩, .int .i64 x)] (hasC (hk2.cell hB (i := u) (x := x) hxu (j := 0) rfl) has0) (fun _ => by kernel_rfl) ?_ : RT _ _ _ _ _ _ 10 _)
    refine (segR (ι := Unit) (z := 0) 7 (fun _ => [(0, .int .i64 frame), (1, .slice s.a s.l.length s.c), (2, .slice (some ⟨tb, to_, none⟩) t.l.length t.c), (6, .bool false), (7, .int .i64 (wsum (t.l.take u))), (8, .int .i64 (u : Int)), (39, .bool ((decide (x < 0)) || (decide (x > frame))))]) (fun _ => (H)) ?_ (fun _ => ?_) : RT _ _ _ _ _ _ 7 _)
    · cases hg6 : (decide (x < 0)) with
      | true =>
        refine (run0 (z := 0) 7 [0, 1, 2, 6, 7, 8, 39] [(0, .int .i64 frame), (1, .slice s.a s.l.length s.c), (2, .slice (some ⟨tb, to_, none⟩) t.l.length t.c), (6, .bool false), (7, .int .i64 (wsum (t.l.take u))), (8, .int .i64 (u : Int)), (39, .bool true)] (fun _ => by kernel_rfl) (endR ?_) : RT _ _ _ _ _ _ 7 _)
        refine PT.keep (L' := [(0, .int .i64 frame), (1, .slice s.a s.l.length s.c), (2, .slice (some ⟨tb, to_, none⟩) t.l.length t.c), (6, .bool false), (7, .int .i64 (wsum (t.l.take u))), (8, .int .i64 (u : Int)), (39, .bool (true || (decide (x > frame))))]) [0, 1, 2, 6, 7, 8, 39] rfl ?_
        exact midR () rfl rfl
      | false =>
        refine (run0 (z := 5) 2 [0, 1, 2, 6, 7, 8, 32, 33, 34] [(0, .int .i64 frame), (1, .slice s.a s.l.length s.c), (2, .slice (some ⟨tb, to_, none⟩) t.l.length t.c), (6, .bool false), (7, .int .i64 (wsum (t.l.take u))), (8, .int .i64 (u : Int)), (32, .bool false), (33, .slice (some ⟨tb, to_, none⟩) t.l.length t.c), (34, .int .i64 (u : Int))] (fun _ => by kernel_rfl) ?_ : RT _ _ _ _ _ _ 7 _)
        refine (stepR (z := 4) (yldS (idxY 26 (.tmp 33) (.tmp 34) tb to_ t.l.length t.c u 1 3 (u : Int) .i64 (some 35) (fun _ => by kernel_rfl) (by kernel_rfl) (by kernel_rfl) (fun _ => by kernel_rfl) (fun _ => by kernel_rfl) Try.underlying26 (by kernel_rfl) (by first | rfl | assumption | simp) (by first | omega | (simp; done) | (simp; omega) | (simp at *; omega)))) (fun _ => ?_) : RT _ _ _ _ _ _ 5 _)
        refine (runR (H := (H)) (z := 0) 4 [0, 1, 2, 6, 7, 8, 39] [(0, .int .i64 frame), (1, .slice s.a s.l.length s.c), (2, .slice (some ⟨tb, to_, none⟩) t.l.length t.c), (6, .bool false), (7, .int .i64 (wsum (t.l.take u))), (8, .int .i64 (u : Int)), (39, .bool (decide (x > frame)))] [(⟨tb, to_ + u * 1, none⟩, .int .i64 x)] (hasC (hk2.cell hB (i := u) (x := x) hxu (j := 0) rfl) has0) (fun _ => by kernel_rfl) (endR ?_) : RT _ _ _ _ _ _ 4 _)
        refine PT.keep (L' := [(0, .int .i64 frame), (1, .slice s.a s.l.length s.c), (2, .slice (some ⟨tb, to_, none⟩) t.l.length t.c), (6, .bool false), (7, .int .i64 (wsum (t.l.take u))), (8, .int .i64 (u : Int)), (39, .bool (false || (decide (x > frame))))]) [0, 1, 2, 6, 7, 8, 39] rfl ?_
        exact midR () rfl rfl
    refine endR ?_
    rw [show (decide (x < 0) || decide (x > frame)) = false by simp only [Bool.or_eq_false_iff, decide_eq_false_iff_not]; omega]
    refine PT.know ((hk).isSome (List.ne_nil_of_length_pos (by omega))) ?_
    rintro ⟨sb, so, hA⟩
    try rw [hA]
    refine condR (b := false) (by kernel_rfl) (fun _ => by kernel_rfl) (fun h => by cases h) (fun _ => ?_)
    refine skipR (by kernel_rfl) ?_
    refine seqR (by kernel_rfl) ?_
    refine drawR (fun w => Sat w (H)) [] 15 (by kernel_rfl) (by kernel_rfl) (by kernel_rfl) (fun _ h => by first | exact h | exact h.tail | exact h.tail.tail | exact h.tail.tail.tail | exact h.tail.tail.tail.tail) ?_
    refine takesR [0, 1, 4, 7, 8, 9] [0, 1, 2, 6, 7, 8, 40, 41, 44, 47, 48, 49] 9 [true, true, false, false, true, false, false, true, true, true, false, false, false, false, false] [(0, .int .i64 frame), (1, .slice (some ⟨sb, so, none⟩) s.l.length s.c), (2, .slice (some ⟨tb, to_, none⟩) t.l.length t.c), (6, .bool false), (7, .int .i64 (wsum (t.l.take u))), (8, .int .i64 (u : Int)), (40, .slice (some ⟨tb, to_, none⟩) t.l.length t.c), (41, .int .i64 (u : Int)), (44, .slice (some ⟨sb, so, none⟩) s.l.length s.c), (47, .int .i64 frame), (48, .slice (some ⟨sb, so, none⟩) s.l.length s.c), (49, .int .i64 (u : Int))] [] rfl (fun _ d _ _ _ h => by cases d <;> exact h) (fun _ h => by first | exact h | exact h.tail | exact h.tail.tail | exact h.tail.tail.tail | exact h.tail.tail.tail.tail) has0 (fun _ => by kernel_rfl) ?_
    refine takeR1 2 8 [true, true, true, false, true, false, false, true, true, true, false, false, false, false, false] rfl rfl (by kernel_rfl) (fun _ d _ _ _ h => by cases d <;> exact h) (fun _ h => by first | exact h | exact h.tail | exact h.tail.tail | exact h.tail.tail.tail | exact h.tail.tail.tail.tail) (idxY 26 (.tmp 40) (.tmp 41) tb to_ t.l.length t.c u 1 3 (u : Int) .i64 (some 42) (fun _ => by kernel_rfl) (by kernel_rfl) (by kernel_rfl) (fun _ => by kernel_rfl) (fun _ => by kernel_rfl) Try.underlying26 (by kernel_rfl) (by first | rfl | assumption | simp) (by first | omega | (simp; done) | (simp; omega) | (simp at *; omega))) ?_
    refine takesR [3] [0, 1, 2, 6, 7, 8, 44, 47, 48, 49, 43] 7 [true, true, true, true, true, false, false, true, true, true, false, false, false, false, false] [(0, .int .i64 frame), (1, .slice (some ⟨sb, so, none⟩) s.l.length s.c), (2, .slice (some ⟨tb, to_, none⟩) t.l.length t.c), (6, .bool false), (7, .int .i64 (wsum (t.l.take u))), (8, .int .i64 (u : Int)), (44, .slice (some ⟨sb, so, none⟩) s.l.length s.c), (47, .int .i64 frame), (48, .slice (some ⟨sb, so, none⟩) s.l.length s.c), (49, .int .i64 (u : Int)), (43, .int .i64 x)] [(⟨tb, to_ + u * 1, none⟩, .int .i64 x)] rfl (fun _ d _ _ _ h => by cases d <;> exact h) (fun _ h => by first | exact h | exact h.tail | exact h.tail.tail | exact h.tail.tail.tail | exact h.tail.tail.tail.tail) (hasC (hk2.cell hB (i := u) (x := x) hxu (j := 0) rfl) has0) (fun _ => by kernel_rfl) ?_
    refine takeR1 10 6 [true, true, true, true, true, false, false, true, true, true, true, false, false, false, false] rfl rfl (by kernel_rfl) (fun _ d _ _ _ h => by cases d <;> exact h) (fun _ h => by first | exact h | exact h.tail | exact h.tail.tail | exact h.tail.tail.tail | exact h.tail.tail.tail.tail) (idxY 26 (.tmp 48) (.tmp 49) sb so s.l.length s.c u 1 3 (u : Int) .i64 (some 50) (fun _ => by kernel_rfl) (by kernel_rfl) (by kernel_rfl) (fun _ => by kernel_rfl) (fun _ => by kernel_rfl) Try.underlying26 (by kernel_rfl) (by first | rfl | assumption | simp) (by first | omega | (simp; done) | (simp; omega) | (simp at *; omega))) ?_
    refine takesR [11, 12] [0, 1, 2, 6, 7, 8, 44, 43, 52] 4 [true, true, true, true, true, false, false, true, true, true, true, true, true, false, false] [(0, .int .i64 frame), (1, .slice (some ⟨sb, so, none⟩) s.l.length s.c), (2, .slice (some ⟨tb, to_, none⟩) t.l.length t.c), (6, .bool false), (7, .int .i64 (wsum (t.l.take u))), (8, .int .i64 (u : Int)), (44, .slice (some ⟨sb, so, none⟩) s.l.length s.c), (43, .int .i64 x), (52, .int .i64 (IntKind.i64.wrap (frame * y)))] [(⟨sb, so + u * 1, none⟩, .int .i64 y)] rfl (fun _ d _ _ _ h => by cases d <;> exact h) (fun _ h => by first | exact h | exact h.tail | exact h.tail.tail | exact h.tail.tail.tail | exact h.tail.tail.tail.tail) (hasC (hk.cell hA (i := u) (x := y) hyu (j := 0) rfl) has0) (fun _ => by kernel_rfl) ?_
    try rw [← hA]
    refine oneR 5 3 [true, true, true, true, true, true, false, true, true, true, true, true, true, false, false] rfl rfl (by kernel_rfl) (callS 32 [.slice s.a s.l.length s.c] (some 45) (fun _ => .int .i64 (wsum s.l)) (fun _ => (H)) (fun _ => by kernel_rfl) (total_walk _ s hk (by omega))) (fun _ _ h _ => by first | exact h | exact h.tail | exact h.tail.tail | exact h.tail.tail.tail | exact h.tail.tail.tail.tail) (fun _ => ?_)
    rw [hws]
    refine takesR [6, 13, 14] [0, 1, 2, 6, 7, 8, 9] 0 [true, true, true, true, true, true, true, true, true, true, true, true, true, true, true] [(0, .int .i64 frame), (1, .slice s.a s.l.length s.c), (2, .slice (some ⟨tb, to_, none⟩) t.l.length t.c), (6, .bool false), (7, .int .i64 (wsum (t.l.take u))), (8, .int .i64 (u : Int)), (9, .int .i64 (IntKind.i64.wrap ((IntKind.i64.wrap (x * s.l.sum)) - (IntKind.i64.wrap (frame * y)))))] [] rfl (fun _ d _ _ _ h => by cases d <;> exact h) (fun _ h => by first | exact h | exact h.tail | exact h.tail.tail | exact h.tail.tail.tail | exact h.tail.tail.tail.tail) has0 (fun _ => by kernel_rfl) ?_
    refine drawnR (by kernel_rfl) ?_
    refine seqR (by kernel_rfl) ?_
    refine seqR (by kernel_rfl) ?_
    refine regionR 11 (by kernel_rfl) (by kernel_rfl) ?_
    refine (run0 (z := 9) 2 [0, 1, 2, 6, 7, 8, 9, 54, 55] [(0, .int .i64 frame), (1, .slice s.a s.l.length s.c), (2, .slice (some ⟨tb, to_, none⟩) t.l.length t.c), (6, .bool false), (7, .int .i64 (wsum (t.l.take u))), (8, .int .i64 (u : Int)), (9, .int .i64 (IntKind.i64.wrap ((IntKind.i64.wrap (x * s.l.sum)) - (IntKind.i64.wrap (frame * y))))), (54, .int .i64 (IntKind.i64.wrap ((IntKind.i64.wrap (x * s.l.sum)) - (IntKind.i64.wrap (frame * y))))), (55, .slice s.a s.l.length s.c)] (fun _ => by kernel_rfl) ?_ : RT _ _ _ _ _ _ 11 _)
    have hd : IntKind.i64.wrap (IntKind.i64.wrap (x * s.l.sum) - IntKind.i64.wrap (frame * y)) = x * s.l.sum - frame * y := by
      rw [show IntKind.i64.wrap (x * s.l.sum) = x * s.l.sum by rw [IntKind.wrap_i64]; omega, show IntKind.i64.wrap (frame * y) = frame * y by rw [IntKind.wrap_i64]; omega, IntKind.wrap_i64]; omega
    obtain ⟨D, hD⟩ : ∃ D, D = x * s.l.sum - frame * y := ⟨_, rfl⟩
    rw [hd, ← hD]
    rw [← hD] at x3 x4
    refine (stepR (z := 8) (callS 32 [.slice s.a s.l.length s.c] (some 56) (fun _ => .int .i64 (wsum s.l)) (fun _ => (H)) (fun _ => by kernel_rfl) (total_walk _ s hk (by omega))) (fun _ => ?_) : RT _ _ _ _ _ _ 9 _)
    rw [hws]
    refine (run0 (z := 6) 2 [0, 1, 2, 6, 7, 8, 9, 58] [(0, .int .i64 frame), (1, .slice s.a s.l.length s.c), (2, .slice (some ⟨tb, to_, none⟩) t.l.length t.c), (6, .bool false), (7, .int .i64 (wsum (t.l.take u))), (8, .int .i64 (u : Int)), (9, .int .i64 D), (58, .bool (decide (D ≥ s.l.sum)))] (fun _ => by kernel_rfl) ?_ : RT _ _ _ _ _ _ 8 _)
    rw [show decide (D ≥ s.l.sum) = false from decide_eq_false (by omega)]
    refine (run0 (z := 3) 3 [0, 1, 2, 6, 7, 8, 58, 60, 61] [(0, .int .i64 frame), (1, .slice s.a s.l.length s.c), (2, .slice (some ⟨tb, to_, none⟩) t.l.length t.c), (6, .bool false), (7, .int .i64 (wsum (t.l.take u))), (8, .int .i64 (u : Int)), (58, .bool false), (60, .int .i64 (IntKind.i64.wrap (0 - D))), (61, .slice s.a s.l.length s.c)] (fun _ => by kernel_rfl) ?_ : RT _ _ _ _ _ _ 6 _)
    refine (stepR (z := 2) (callS 32 [.slice s.a s.l.length s.c] (some 62) (fun _ => .int .i64 (wsum s.l)) (fun _ => (H)) (fun _ => by kernel_rfl) (total_walk _ s hk (by omega))) (fun _ => ?_) : RT _ _ _ _ _ _ 3 _)
    rw [hws]
    refine (run0 (z := 0) 2 [0, 1, 2, 6, 7, 8, 64] [(0, .int .i64 frame), (1, .slice s.a s.l.length s.c), (2, .slice (some ⟨tb, to_, none⟩) t.l.length t.c), (6, .bool false), (7, .int .i64 (wsum (t.l.take u))), (8, .int .i64 (u : Int)), (64, .bool (decide ((IntKind.i64.wrap (0 - D)) ≥ s.l.sum)))] (fun _ => by kernel_rfl) (endR ?_) : RT _ _ _ _ _ _ 2 _)
    rw [show decide (IntKind.i64.wrap (0 - D) ≥ s.l.sum) = false from decide_eq_false (by rw [IntKind.wrap_i64]; omega)]
    refine condR (b := false) (by kernel_rfl) (fun _ => by kernel_rfl) (fun h => by cases h) (fun _ => ?_)
    refine skipR (by kernel_rfl) ?_
    refine regionR 7 (by kernel_rfl) (by kernel_rfl) ?_
    refine (run0 (z := 4) 3 [0, 1, 2, 6, 7, 8, 65, 66, 67] [(0, .int .i64 frame), (1, .slice s.a s.l.length s.c), (2, .slice (some ⟨tb, to_, none⟩) t.l.length t.c), (6, .bool false), (7, .int .i64 (wsum (t.l.take u))), (8, .int .i64 (u : Int)), (65, .int .i64 (wsum (t.l.take u))), (66, .slice (some ⟨tb, to_, none⟩) t.l.length t.c), (67, .int .i64 (u : Int))] (fun _ => by kernel_rfl) ?_ : RT _ _ _ _ _ _ 7 _)
    refine (stepR (z := 3) (yldS (idxY 26 (.tmp 66) (.tmp 67) tb to_ t.l.length t.c u 1 3 (u : Int) .i64 (some 68) (fun _ => by kernel_rfl) (by kernel_rfl) (by kernel_rfl) (fun _ => by kernel_rfl) (fun _ => by kernel_rfl) Try.underlying26 (by kernel_rfl) (by first | rfl | assumption | simp) (by first | omega | (simp; done) | (simp; omega) | (simp at *; omega)))) (fun _ => ?_) : RT _ _ _ _ _ _ 4 _)
    refine (runR (H := (H)) (z := 0) 3 [0, 1, 2, 6, 7, 8] [(0, .int .i64 frame), (1, .slice s.a s.l.length s.c), (2, .slice (some ⟨tb, to_, none⟩) t.l.length t.c), (6, .bool false), (7, .int .i64 (IntKind.i64.wrap ((wsum (t.l.take u)) + x))), (8, .int .i64 (u : Int))] [(⟨tb, to_ + u * 1, none⟩, .int .i64 x)] (hasC (hk2.cell hB (i := u) (x := x) hxu (j := 0) rfl) has0) (fun _ => by kernel_rfl) (endR ?_) : RT _ _ _ _ _ _ 3 _)
    refine regionR 3 (by kernel_rfl) (by kernel_rfl) ?_
    refine (run0 (z := 0) 3 [0, 1, 2, 6, 7, 8] [(0, .int .i64 frame), (1, .slice s.a s.l.length s.c), (2, .slice (some ⟨tb, to_, none⟩) t.l.length t.c), (6, .bool false), (7, .int .i64 (IntKind.i64.wrap ((wsum (t.l.take u)) + x))), (8, .int .i64 (IntKind.i64.wrap ((u : Int) + 1)))] (fun _ => by kernel_rfl) (endR ?_) : RT _ _ _ _ _ _ 3 _)
    try rw [← hB]
    refine PT.keep (L' := [(0, .int .i64 frame), (1, .slice s.a s.l.length s.c), (2, .slice t.a t.l.length t.c), (6, .bool false), (7, .int .i64 (IntKind.i64.wrap ((wsum (t.l.take u)) + x))), (8, .int .i64 (IntKind.i64.wrap ((u : Int) + 1)))]) [0, 1, 2, 6, 7, 8] rfl ?_
    exact againG (k - 1) (u + 1) (by rw [hw, ht, wsum_snoc]) rfl (by omega) (by omega)
  · skip
    have hu : u = t.l.length := by have := of_decide_eq_false h1; omega
    refine exitR 0 (by kernel_rfl) (by kernel_rfl) ?_
    refine thenX ?_
    refine thenX ?_
    refine leaveR ?_
    refine seqR (by kernel_rfl) ?_
    refine regionR 4 (by kernel_rfl) (by kernel_rfl) ?_
    refine (run0 (z := 0) 4 [6] [(6, .bool ((wsum (t.l.take u)) == frame))] (fun _ => by kernel_rfl) (endR ?_) : RT _ _ _ _ _ _ 4 _)
    refine retR (by kernel_rfl) ?_
    refine done0 (.bool ((wsum (t.l.take u)) == frame)) (fun _ => by kernel_rfl) (fun w hs => ?_) .ret (.inr rfl)
    exact ⟨(), by rw [hu, List.take_length, hwt]; simp, hs⟩
end Go.Proofs.Ytjjbnmlhbbnhcaa
