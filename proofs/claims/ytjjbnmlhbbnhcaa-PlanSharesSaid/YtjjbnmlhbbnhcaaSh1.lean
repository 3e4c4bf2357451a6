/- share.sum, share.parts, share.greatest: their walks. Conditions: none. -/
import Derived.Test.YtjjbnmlhbbnhcaaFlg
import Derived.Test.YtjjbnmlhbbnhcaaPl2
set_option linter.unusedVariables false
set_option linter.unusedSimpArgs false
namespace Go.Proofs.Ytjjbnmlhbbnhcaa
open Go.RowKit G
def shBadF (frame : Int) (l : List Int) : Bool := (((decide (frame < 1)) || (decide (frame > 64))) || (decide ((l.length : Int) < 1))) || (decide ((l.length : Int) > 6))
def shBad (s : Int) : Bool := (decide (s < 0)) || (decide (s > 1000))
def sumI (l : List Int) : Int := l.foldl (fun a b => a + b) 0
def shSum (frame : Int) (l : List Int) : Int := if shBadF frame l = true then 0 else if (l.all fun s => !shBad s) = false then 0 else sumI l
theorem sumI_snoc (l : List Int) (x : Int) : sumI (l ++ [x]) = sumI l + x := by simp [sumI, List.foldl_append]
theorem foldl_bounds : ∀ (l : List Int) (a : Int), (l.all fun s => !shBad s) = true → a ≤ l.foldl (fun a b => a + b) a ∧ l.foldl (fun a b => a + b) a ≤ a + 1000 * l.length
  | [], a, _ => by simp
  | x :: l, a, h => by
    rw [List.all_cons, Bool.and_eq_true] at h
    have h2 := h.1
    simp only [Bool.not_eq_true', shBad, Bool.or_eq_false_iff, decide_eq_false_iff_not] at h2
    have h1 := foldl_bounds l (a + x) h.2
    rw [List.foldl_cons, List.length_cons]
    omega
theorem sumI_bounds (l : List Int) (h : (l.all fun s => !shBad s) = true) : 0 ≤ sumI l ∧ sumI l ≤ 1000 * l.length := by
  have := foldl_bounds l 0 h
  unfold sumI
  omega
theorem tdiv_bounds {a b : Int} (ha : 0 ≤ a) (hb : 0 < b) : 0 ≤ a.tdiv b ∧ a.tdiv b ≤ a ∧ 0 ≤ a.tmod b ∧ a.tmod b < b := by
  rw [Int.tdiv_eq_ediv_of_nonneg ha, Int.tmod_eq_emod_of_nonneg ha]
  exact ⟨Int.ediv_nonneg ha (by omega), Int.ediv_le_self _ ha, Int.emod_nonneg _ (by omega), Int.emod_lt_of_pos _ hb⟩
set_option maxRecDepth 100000 in
theorem shSum_walk (H : List SP) (frame : Int) (s : SV Int) (hk : KR H (kE .i64) s) : ∀ w, Sat w H → Calls Try.prog 40 #[.int .i64 frame, .slice s.a s.l.length s.c] w (Ret (ι := Unit) (fun _ => .int .i64 (shSum frame s.l)) fun _ => H) := by
  refine enterG (fn := Try.f40) 41 [.int .i64 frame, .slice s.a s.l.length s.c] Try.func40 (by kernel_rfl) (by kernel_rfl) (by kernel_rfl) ?_
  refine seqR (by kernel_rfl) ?_
  refine regionR 1 (by kernel_rfl) (by kernel_rfl) ?_
  refine (run0 (z := 0) 1 [0, 1, 4] [(0, .int .i64 frame), (1, .slice s.a s.l.length s.c), (4, .int .i64 0)] (fun _ => by kernel_rfl) (endR ?_) : RT _ _ _ _ _ _ 1 _)
  refine seqR (by kernel_rfl) ?_
  refine seqR (by kernel_rfl) ?_
  refine regionR 16 (by kernel_rfl) (by kernel_rfl) ?_
  refine (run0 (z := 13) 3 [0, 1, 4, 10] [(0, .int .i64 frame), (1, .slice s.a s.l.length s.c), (4, .int .i64 0), (10, .bool (decide (frame < 1)))] (fun _ => by kernel_rfl) ?_ : RT _ _ _ _ _ _ 16 _)
  refine (segR (ι := Unit) (z := 10) 3 (fun _ => [(1, .slice s.a s.l.length s.c), (4, .int .i64 0), (13, .bool ((decide (frame < 1)) || (decide (frame > 64))))]) (fun _ => (H)) ?_ (fun _ => ?_) : RT _ _ _ _ _ _ 13 _)
  · cases hg3 : (decide (frame < 1)) with
    | true =>
      refine (run0 (z := 0) 3 [1, 4, 13] [(1, .slice s.a s.l.length s.c), (4, .int .i64 0), (13, .bool true)] (fun _ => by kernel_rfl) (endR ?_) : RT _ _ _ _ _ _ 3 _)
      refine PT.keep (L' := [(1, .slice s.a s.l.length s.c), (4, .int .i64 0), (13, .bool (true || (decide (frame > 64))))]) [1, 4, 13] rfl ?_
      exact midR () rfl rfl
    | false =>
      refine (run0 (z := 0) 3 [1, 4, 13] [(1, .slice s.a s.l.length s.c), (4, .int .i64 0), (13, .bool (decide (frame > 64)))] (fun _ => by kernel_rfl) (endR ?_) : RT _ _ _ _ _ _ 3 _)
      refine PT.keep (L' := [(1, .slice s.a s.l.length s.c), (4, .int .i64 0), (13, .bool (false || (decide (frame > 64))))]) [1, 4, 13] rfl ?_
      exact midR () rfl rfl
  refine (run0 (z := 9) 1 [1, 4, 14] [(1, .slice s.a s.l.length s.c), (4, .int .i64 0), (14, .bool ((decide (frame < 1)) || (decide (frame > 64))))] (fun _ => by kernel_rfl) ?_ : RT _ _ _ _ _ _ 10 _)
  refine (segR (ι := Unit) (z := 5) 4 (fun _ => [(1, .slice s.a s.l.length s.c), (4, .int .i64 0), (18, .bool (((decide (frame < 1)) || (decide (frame > 64))) || (decide ((s.l.length : Int) < 1))))]) (fun _ => (H)) ?_ (fun _ => ?_) : RT _ _ _ _ _ _ 9 _)
  · cases hg7 : ((decide (frame < 1)) || (decide (frame > 64))) with
    | true =>
      refine (run0 (z := 0) 4 [1, 4, 18] [(1, .slice s.a s.l.length s.c), (4, .int .i64 0), (18, .bool true)] (fun _ => by kernel_rfl) (endR ?_) : RT _ _ _ _ _ _ 4 _)
      refine PT.keep (L' := [(1, .slice s.a s.l.length s.c), (4, .int .i64 0), (18, .bool (true || (decide ((s.l.length : Int) < 1))))]) [1, 4, 18] rfl ?_
      exact midR () rfl rfl
    | false =>
      refine (run0 (z := 0) 4 [1, 4, 18] [(1, .slice s.a s.l.length s.c), (4, .int .i64 0), (18, .bool (decide ((s.l.length : Int) < 1)))] (fun _ => by kernel_rfl) (endR ?_) : RT _ _ _ _ _ _ 4 _)
      refine PT.keep (L' := [(1, .slice s.a s.l.length s.c), (4, .int .i64 0), (18, .bool (false || (decide ((s.l.length : Int) < 1))))]) [1, 4, 18] rfl ?_
      exact midR () rfl rfl
  refine (run0 (z := 4) 1 [1, 4, 19] [(1, .slice s.a s.l.length s.c), (4, .int .i64 0), (19, .bool (((decide (frame < 1)) || (decide (frame > 64))) || (decide ((s.l.length : Int) < 1))))] (fun _ => by kernel_rfl) ?_ : RT _ _ _ _ _ _ 5 _)
  refine (segR (ι := Unit) (z := 0) 4 (fun _ => [(1, .slice s.a s.l.length s.c), (4, .int .i64 0), (23, .bool ((((decide (frame < 1)) || (decide (frame > 64))) || (decide ((s.l.length : Int) < 1))) || (decide ((s.l.length : Int) > 6))))]) (fun _ => (H)) ?_ (fun _ => ?_) : RT _ _ _ _ _ _ 4 _)
  · cases hg12 : (((decide (frame < 1)) || (decide (frame > 64))) || (decide ((s.l.length : Int) < 1))) with
    | true =>
      refine (run0 (z := 0) 4 [1, 4, 23] [(1, .slice s.a s.l.length s.c), (4, .int .i64 0), (23, .bool true)] (fun _ => by kernel_rfl) (endR ?_) : RT _ _ _ _ _ _ 4 _)
      refine PT.keep (L' := [(1, .slice s.a s.l.length s.c), (4, .int .i64 0), (23, .bool (true || (decide ((s.l.length : Int) > 6))))]) [1, 4, 23] rfl ?_
      exact midR () rfl rfl
    | false =>
      refine (run0 (z := 0) 4 [1, 4, 23] [(1, .slice s.a s.l.length s.c), (4, .int .i64 0), (23, .bool (decide ((s.l.length : Int) > 6)))] (fun _ => by kernel_rfl) (endR ?_) : RT _ _ _ _ _ _ 4 _)
      refine PT.keep (L' := [(1, .slice s.a s.l.length s.c), (4, .int .i64 0), (23, .bool (false || (decide ((s.l.length : Int) > 6))))]) [1, 4, 23] rfl ?_
      exact midR () rfl rfl
  refine endR ?_
  refine condR (b := (((decide (frame < 1)) || (decide (frame > 64))) || (decide ((s.l.length : Int) < 1))) || (decide ((s.l.length : Int) > 6))) (by kernel_rfl) (fun _ => by kernel_rfl) (fun hb => ?_) (fun hb => ?_)
  · skip
    refine seqR (by kernel_rfl) ?_
    refine regionR 1 (by kernel_rfl) (by kernel_rfl) ?_
    refine (run0 (z := 0) 1 [1, 4] [(1, .slice s.a s.l.length s.c), (4, .int .i64 0)] (fun _ => by kernel_rfl) (endR ?_) : RT _ _ _ _ _ _ 1 _)
    refine retR (by kernel_rfl) ?_
    refine thenV ?_
    refine done0 (.int .i64 0) (fun _ => by kernel_rfl) (fun w hs => ?_) .ret (.inr rfl)
    exact ⟨(), by rw [shSum, if_pos (show shBadF frame s.l = true from hb)], hs⟩
  · skip
    have hb1 : ¬ shBadF frame s.l = true := by rw [show shBadF frame s.l = false from hb]; simp
    have hlen : s.l.length ≤ 6 := by have h1 : shBadF frame s.l = false := hb; simp only [shBadF, Bool.or_eq_false_iff, decide_eq_false_iff_not] at h1; omega
    refine skipR (by kernel_rfl) ?_
    refine seqR (by kernel_rfl) ?_
    refine regionR 1 (by kernel_rfl) (by kernel_rfl) ?_
    refine (run0 (z := 0) 1 [1, 4, 5] [(1, .slice s.a s.l.length s.c), (4, .int .i64 0), (5, .int .i64 0)] (fun _ => by kernel_rfl) (endR ?_) : RT _ _ _ _ _ _ 1 _)
    refine seqR (by kernel_rfl) ?_
    refine seqR (by kernel_rfl) ?_
    refine regionR 3 (by kernel_rfl) (by kernel_rfl) ?_
    refine (run0 (z := 0) 3 [4, 5, 24, 25, 26] [(4, .int .i64 0), (5, .int .i64 0), (24, .slice s.a s.l.length s.c), (25, .int .i64 (s.l.length : Int)), (26, .int .i64 0)] (fun _ => by kernel_rfl) (endR ?_) : RT _ _ _ _ _ _ 3 _)
    refine blockR 0 (by kernel_rfl) (by kernel_rfl) ?_
    refine PT.keep (L' := [(4, .int .i64 0), (5, .int .i64 0), (24, .slice s.a s.l.length s.c), (25, .int .i64 (s.l.length : Int)), (26, .int .i64 0)]) [4, 5, 24, 25, 26] rfl ?_
    refine loopG (fun (i : Nat) => [(4, .int .i64 0), (5, .int .i64 (sumI (s.l.take i))), (24, .slice s.a s.l.length s.c), (25, .int .i64 (s.l.length : Int)), (26, .int .i64 (i : Int))]) (fun (i : Nat) => (H)) (fun k (i : Nat) => k + i = s.l.length ∧ ((s.l.take i).all fun x => !shBad x) = true) s.l.length 0 (by kernel_rfl) ⟨by omega, rfl⟩ ?_
    rintro k i ⟨hki, hall⟩
    have hw : IntKind.i64.wrap ((i : Int) + 1) = ((i + 1 : Nat) : Int) := by rw [IntKind.wrap_i64]; omega
    refine seqR (by kernel_rfl) ?_
    refine regionR 1 (by kernel_rfl) (by kernel_rfl) ?_
    refine (run0 (z := 0) 1 [4, 5, 24, 25, 26, 27] [(4, .int .i64 0), (5, .int .i64 (sumI (s.l.take i))), (24, .slice s.a s.l.length s.c), (25, .int .i64 (s.l.length : Int)), (26, .int .i64 (i : Int)), (27, .bool (decide ((i : Int) < (s.l.length : Int))))] (fun _ => by kernel_rfl) (endR ?_) : RT _ _ _ _ _ _ 1 _)
    refine seqR (by kernel_rfl) ?_
    refine condR (b := decide ((i : Int) < (s.l.length : Int))) (by kernel_rfl) (fun _ => by kernel_rfl) (fun h => ?_) (fun h => ?_)
    · skip
      have hi : i < s.l.length := by have := of_decide_eq_true h; omega
      obtain ⟨y, hy⟩ : ∃ y, s.l[i]? = some y := ⟨_, by simp [hi]; rfl⟩
      have hym : y ∈ s.l := List.mem_of_getElem? hy
      have ht : s.l.take (i + 1) = s.l.take i ++ [y] := by rw [List.take_add_one, hy]; rfl
      refine PT.know ((hk).isSome (List.ne_nil_of_length_pos (by omega))) ?_
      rintro ⟨sb, so, hA⟩
      try rw [hA]
      refine skipR (by kernel_rfl) ?_
      refine seqR (by kernel_rfl) ?_
      refine blockR 1 (by kernel_rfl) (by kernel_rfl) ?_
      refine seqR (by kernel_rfl) ?_
      refine regionR 3 (by kernel_rfl) (by kernel_rfl) ?_
      refine (stepR (z := 2) (yldS (idxY 26 (.tmp 24) (.tmp 26) sb so s.l.length s.c i 1 3 (i : Int) .i64 (some 28) (fun _ => by kernel_rfl) (by kernel_rfl) (by kernel_rfl) (fun _ => by kernel_rfl) (fun _ => by kernel_rfl) Try.underlying26 (by kernel_rfl) (by first | rfl | assumption | simp) (by first | omega | (simp; done) | (simp; omega) | (simp at *; omega)))) (fun _ => ?_) : RT _ _ _ _ _ _ 3 _)
      refine (runR (H := (H)) (z := 0) 2 [4, 5, 24, 25, 26, 7] [(4, .int .i64 0), (5, .int .i64 (sumI (s.l.take i))), (24, .slice (some ⟨sb, so, none⟩) s.l.length s.c), (25, .int .i64 (s.l.length : Int)), (26, .int .i64 (i : Int)), (7, .int .i64 y)] [(⟨sb, so + i * 1, none⟩, .int .i64 y)] (hasC (hk.cell hA (i := i) (x := y) hy (j := 0) rfl) has0) (fun _ => by kernel_rfl) (endR ?_) : RT _ _ _ _ _ _ 2 _)
      refine seqR (by kernel_rfl) ?_
      refine seqR (by kernel_rfl) ?_
      refine regionR 6 (by kernel_rfl) (by kernel_rfl) ?_
      refine (run0 (z := 3) 3 [4, 5, 24, 25, 26, 7, 32] [(4, .int .i64 0), (5, .int .i64 (sumI (s.l.take i))), (24, .slice (some ⟨sb, so, none⟩) s.l.length s.c), (25, .int .i64 (s.l.length : Int)), (26, .int .i64 (i : Int)), (7, .int .i64 y), (32, .bool (decide (y < 0)))] (fun _ => by kernel_rfl) ?_ : RT _ _ _ _ _ _ 6 _)
      refine (segR (ι := Unit) (z := 0) 3 (fun _ => [(4, .int .i64 0), (5, .int .i64 (sumI (s.l.take i))), (24, .slice (some ⟨sb, so, none⟩) s.l.length s.c), (25, .int .i64 (s.l.length : Int)), (26, .int .i64 (i : Int)), (7, .int .i64 y), (35, .bool ((decide (y < 0)) || (decide (y > 1000))))]) (fun _ => (H)) ?_ (fun _ => ?_) : RT _ _ _ _ _ _ 3 _)
      · cases hg3 : (decide (y < 0)) with
        | true =>
          refine (run0 (z := 0) 3 [4, 5, 24, 25, 26, 7, 35] [(4, .int .i64 0), (5, .int .i64 (sumI (s.l.take i))), (24, .slice (some ⟨sb, so, none⟩) s.l.length s.c), (25, .int .i64 (s.l.length : Int)), (26, .int .i64 (i : Int)), (7, .int .i64 y), (35, .bool true)] (fun _ => by kernel_rfl) (endR ?_) : RT _ _ _ _ _ _ 3 _)
          refine PT.keep (L' := [(4, .int .i64 0), (5, .int .i64 (sumI (s.l.take i))), (24, .slice (some ⟨sb, so, none⟩) s.l.length s.c), (25, .int .i64 (s.l.length : Int)), (26, .int .i64 (i : Int)), (7, .int .i64 y), (35, .bool (true || (decide (y > 1000))))]) [4, 5, 24, 25, 26, 7, 35] rfl ?_
          exact midR () rfl rfl
        | false =>
          refine (run0 (z := 0) 3 [4, 5, 24, 25, 26, 7, 35] [(4, .int .i64 0), (5, .int .i64 (sumI (s.l.take i))), (24, .slice (some ⟨sb, so, none⟩) s.l.length s.c), (25, .int .i64 (s.l.length : Int)), (26, .int .i64 (i : Int)), (7, .int .i64 y), (35, .bool (decide (y > 1000)))] (fun _ => by kernel_rfl) (endR ?_) : RT _ _ _ _ _ _ 3 _)
          refine PT.keep (L' := [(4, .int .i64 0), (5, .int .i64 (sumI (s.l.take i))), (24, .slice (some ⟨sb, so, none⟩) s.l.length s.c), (25, .int .i64 (s.l.length : Int)), (26, .int .i64 (i : Int)), (7, .int .i64 y), (35, .bool (false || (decide (y > 1000))))]) [4, 5, 24, 25, 26, 7, 35] rfl ?_
          exact midR () rfl rfl
      refine endR ?_
      try rw [← hA]
      refine condR (b := (decide (y < 0)) || (decide (y > 1000))) (by kernel_rfl) (fun _ => by kernel_rfl) (fun h2 => ?_) (fun h2 => ?_)
      · skip
        refine seqR (by kernel_rfl) ?_
        refine regionR 1 (by kernel_rfl) (by kernel_rfl) ?_
        refine (run0 (z := 0) 1 [4, 5, 24, 25, 26, 7] [(4, .int .i64 0), (5, .int .i64 (sumI (s.l.take i))), (24, .slice s.a s.l.length s.c), (25, .int .i64 (s.l.length : Int)), (26, .int .i64 (i : Int)), (7, .int .i64 y)] (fun _ => by kernel_rfl) (endR ?_) : RT _ _ _ _ _ _ 1 _)
        refine retR (by kernel_rfl) ?_
        refine thenV ?_
        refine blockV ?_
        refine thenV ?_
        refine thenV ?_
        refine blockV ?_
        refine thenV ?_
        have h0 : (s.l.all fun x => !shBad x) = false := by
          rw [← Bool.not_eq_true]
          intro h1
          have := List.all_eq_true.1 h1 y hym
          rw [show shBad y = true from h2] at this
          simp at this
        refine done0 (.int .i64 0) (fun _ => by kernel_rfl) (fun w hs => ?_) .ret (.inr rfl)
        exact ⟨(), by rw [shSum, if_neg hb1, if_pos h0], hs⟩
      · skip
        refine skipR (by kernel_rfl) ?_
        refine regionR 4 (by kernel_rfl) (by kernel_rfl) ?_
        refine (run0 (z := 0) 4 [4, 5, 24, 25, 26] [(4, .int .i64 0), (5, .int .i64 (IntKind.i64.wrap ((sumI (s.l.take i)) + y))), (24, .slice s.a s.l.length s.c), (25, .int .i64 (s.l.length : Int)), (26, .int .i64 (i : Int))] (fun _ => by kernel_rfl) (endR ?_) : RT _ _ _ _ _ _ 4 _)
        refine regionR 2 (by kernel_rfl) (by kernel_rfl) ?_
        refine (run0 (z := 0) 2 [4, 5, 24, 25, 26] [(4, .int .i64 0), (5, .int .i64 (IntKind.i64.wrap ((sumI (s.l.take i)) + y))), (24, .slice s.a s.l.length s.c), (25, .int .i64 (s.l.length : Int)), (26, .int .i64 (IntKind.i64.wrap ((i : Int) + 1)))] (fun _ => by kernel_rfl) (endR ?_) : RT _ _ _ _ _ _ 2 _)
        have hal1 : ((s.l.take (i + 1)).all fun x => !shBad x) = true := by rw [ht, List.all_append, hall]; simp only [List.all_cons, List.all_nil, show shBad y = false from h2]; rfl
        have hsb := sumI_bounds _ hal1
        have hln : (s.l.take (i + 1)).length ≤ 6 := by rw [List.length_take]; omega
        have hw1 : IntKind.i64.wrap (sumI (s.l.take i) + y) = sumI (s.l.take (i + 1)) := by rw [IntKind.wrap_i64]; rw [ht, sumI_snoc] at hsb ⊢; rw [← ht] at hsb; omega
        refine PT.keep (L' := [(4, .int .i64 0), (5, .int .i64 (IntKind.i64.wrap ((sumI (s.l.take i)) + y))), (24, .slice s.a s.l.length s.c), (25, .int .i64 (s.l.length : Int)), (26, .int .i64 (IntKind.i64.wrap ((i : Int) + 1)))]) [4, 5, 24, 25, 26] rfl ?_
        exact againG (k - 1) (i + 1) (by rw [hw, hw1]) rfl (by omega) ⟨by omega, hal1⟩
    · skip
      have hi : i = s.l.length := by have := of_decide_eq_false h; omega
      rw [hi, List.take_length] at hall
      rw [hi, List.take_length]
      refine exitR 0 (by kernel_rfl) (by kernel_rfl) ?_
      refine thenX ?_
      refine thenX ?_
      refine leaveR ?_
      refine seqR (by kernel_rfl) ?_
      refine regionR 2 (by kernel_rfl) (by kernel_rfl) ?_
      refine (run0 (z := 0) 2 [4] [(4, .int .i64 (sumI (s.l)))] (fun _ => by kernel_rfl) (endR ?_) : RT _ _ _ _ _ _ 2 _)
      refine retR (by kernel_rfl) ?_
      refine done0 (.int .i64 (sumI (s.l))) (fun _ => by kernel_rfl) (fun w hs => ?_) .ret (.inr rfl)
      exact ⟨(), by rw [shSum, if_neg hb1, if_neg (by rw [hall]; simp)], hs⟩
def pE : Enc (Int × Int) := ⟨1, by decide, fun p => [.complex .f64 (floatOfInt .f64 p.1) (floatOfInt .f64 p.2)], fun _ => rfl, by intro a u hu; simp at hu; subst hu; rfl⟩
theorem pE_ety : Ety Try.prog pE 59 (.complex .f64 0 0) := G.Ety.of (b := 16) (by kernel_rfl) (by decide) (by kernel_rfl)
/-- What falls to each, and what remains. -/
def partsOf (frame all : Int) (l : List Int) : List (Int × Int) := l.map fun s => ((frame * s).tdiv all, (frame * s).tmod all)
set_option maxRecDepth 100000 in
theorem parts_walk (H : List SP) (frame all : Int) (s : SV Int) (hk : KR H (kE .i64) s) (hf : 1 ≤ frame ∧ frame ≤ 64) (ha : 0 < all) (hl : s.l.length ≤ 6) (hs : (s.l.all fun x => !shBad x) = true) : ∀ w, Sat w H → Calls Try.prog 41 #[.int .i64 frame, .slice s.a s.l.length s.c, .int .i64 all] w (Ret (ι := Option Addr × Nat) (fun p => .slice p.1 (partsOf frame all s.l).length p.2) fun p => row pE 59 (.slice p.1 (partsOf frame all s.l).length p.2) (partsOf frame all s.l) :: H) := by
  refine enterG (fn := Try.f41) 34 [.int .i64 frame, .slice s.a s.l.length s.c, .int .i64 all] Try.func41 (by kernel_rfl) (by kernel_rfl) (by kernel_rfl) ?_
  refine seqR (by kernel_rfl) ?_
  refine regionR 1 (by kernel_rfl) (by kernel_rfl) ?_
  refine (run0 (z := 0) 1 [0, 1, 2, 6] [(0, .int .i64 frame), (1, .slice s.a s.l.length s.c), (2, .int .i64 all), (6, .slice none 0 0)] (fun _ => by kernel_rfl) (endR ?_) : RT _ _ _ _ _ _ 1 _)
  refine seqR (by kernel_rfl) ?_
  refine regionR 1 (by kernel_rfl) (by kernel_rfl) ?_
  refine (run0 (z := 0) 1 [0, 1, 2, 6, 7] [(0, .int .i64 frame), (1, .slice s.a s.l.length s.c), (2, .int .i64 all), (6, .slice none 0 0), (7, .slice none 0 0)] (fun _ => by kernel_rfl) (endR ?_) : RT _ _ _ _ _ _ 1 _)
  refine seqR (by kernel_rfl) ?_
  refine seqR (by kernel_rfl) ?_
  refine regionR 3 (by kernel_rfl) (by kernel_rfl) ?_
  refine (run0 (z := 0) 3 [0, 2, 6, 7, 10, 11, 12] [(0, .int .i64 frame), (2, .int .i64 all), (6, .slice none 0 0), (7, .slice none 0 0), (10, .slice s.a s.l.length s.c), (11, .int .i64 (s.l.length : Int)), (12, .int .i64 0)] (fun _ => by kernel_rfl) (endR ?_) : RT _ _ _ _ _ _ 3 _)
  refine blockR 0 (by kernel_rfl) (by kernel_rfl) ?_
  refine PT.rowNil pE 59 ?_
  refine PT.keep (L' := [(0, .int .i64 frame), (2, .int .i64 all), (7, .slice none 0 0), (10, .slice s.a s.l.length s.c), (11, .int .i64 (s.l.length : Int)), (12, .int .i64 0)]) [0, 2, 7, 10, 11, 12] rfl ?_
  refine loopG (fun (x : (Option Addr × Nat) × Nat) => [(0, .int .i64 frame), (2, .int .i64 all), (7, .slice x.1.1 ((partsOf frame all (s.l.take x.2)).length) x.1.2), (10, .slice s.a s.l.length s.c), (11, .int .i64 (s.l.length : Int)), (12, .int .i64 (x.2 : Int))]) (fun (x : (Option Addr × Nat) × Nat) => (row pE 59 (.slice x.1.1 (partsOf frame all (s.l.take x.2)).length x.1.2) (partsOf frame all (s.l.take x.2)) :: H)) (fun k (x : (Option Addr × Nat) × Nat) => k + x.2 = s.l.length) s.l.length ((none, 0), 0) (by kernel_rfl) (by simp) ?_
  rintro k ⟨⟨A, cap⟩, i⟩ hki
  dsimp only at hki ⊢
  have hw : IntKind.i64.wrap ((i : Int) + 1) = ((i + 1 : Nat) : Int) := by rw [IntKind.wrap_i64]; omega
  refine seqR (by kernel_rfl) ?_
  refine regionR 1 (by kernel_rfl) (by kernel_rfl) ?_
  refine (run0 (z := 0) 1 [0, 2, 7, 10, 11, 12, 13] [(0, .int .i64 frame), (2, .int .i64 all), (7, .slice A ((partsOf frame all (s.l.take i)).length) cap), (10, .slice s.a s.l.length s.c), (11, .int .i64 (s.l.length : Int)), (12, .int .i64 (i : Int)), (13, .bool (decide ((i : Int) < (s.l.length : Int))))] (fun _ => by kernel_rfl) (endR ?_) : RT _ _ _ _ _ _ 1 _)
  refine seqR (by kernel_rfl) ?_
  refine condR (b := decide ((i : Int) < (s.l.length : Int))) (by kernel_rfl) (fun _ => by kernel_rfl) (fun h => ?_) (fun h => ?_)
  · skip
    have hi : i < s.l.length := by have := of_decide_eq_true h; omega
    obtain ⟨y, hy⟩ : ∃ y, s.l[i]? = some y := ⟨_, by simp [hi]; rfl⟩
    have hym : y ∈ s.l := List.mem_of_getElem? hy
    have ht : s.l.take (i + 1) = s.l.take i ++ [y] := by rw [List.take_add_one, hy]; rfl
    have hyb : 0 ≤ y ∧ y ≤ 1000 := by have := List.all_eq_true.1 hs y hym; simp only [shBad, Bool.not_eq_true', Bool.or_eq_false_iff, decide_eq_false_iff_not] at this; omega
    have hm1 : 0 ≤ frame * y := Int.mul_nonneg (by omega) hyb.1
    have hm2 : frame * y ≤ 64 * 1000 := Int.mul_le_mul hf.2 hyb.2 hyb.1 (by omega)
    have hwm : IntKind.i64.wrap (frame * y) = frame * y := by rw [IntKind.wrap_i64]; omega
    refine PT.know ((hk).up.isSome (List.ne_nil_of_length_pos (by omega))) ?_
    rintro ⟨sb, so, hA⟩
    try rw [hA]
    refine skipR (by kernel_rfl) ?_
    refine seqR (by kernel_rfl) ?_
    refine blockR 1 (by kernel_rfl) (by kernel_rfl) ?_
    refine seqR (by kernel_rfl) ?_
    refine regionR 3 (by kernel_rfl) (by kernel_rfl) ?_
    refine (stepR (z := 2) (yldS (idxY 26 (.tmp 10) (.tmp 12) sb so s.l.length s.c i 1 3 (i : Int) .i64 (some 14) (fun _ => by kernel_rfl) (by kernel_rfl) (by kernel_rfl) (fun _ => by kernel_rfl) (fun _ => by kernel_rfl) Try.underlying26 (by kernel_rfl) (by first | rfl | assumption | simp) (by first | omega | (simp; done) | (simp; omega) | (simp at *; omega)))) (fun _ => ?_) : RT _ _ _ _ _ _ 3 _)
    refine (runR (H := (row pE 59 (.slice A (partsOf frame all (s.l.take i)).length cap) (partsOf frame all (s.l.take i)) :: H)) (z := 0) 2 [0, 2, 7, 10, 11, 12, 9] [(0, .int .i64 frame), (2, .int .i64 all), (7, .slice A ((partsOf frame all (s.l.take i)).length) cap), (10, .slice (some ⟨sb, so, none⟩) s.l.length s.c), (11, .int .i64 (s.l.length : Int)), (12, .int .i64 (i : Int)), (9, .int .i64 y)] [(⟨sb, so + i * 1, none⟩, .int .i64 y)] (hasC (up (hk.cell hA (i := i) (x := y) hy (j := 0) rfl)) has0) (fun _ => by kernel_rfl) (endR ?_) : RT _ _ _ _ _ _ 2 _)
    refine drawR (fun w => Sat w (H)) [] 17 (by kernel_rfl) (by kernel_rfl) (by kernel_rfl) (fun _ h => by first | exact h | exact h.tail | exact h.tail.tail | exact h.tail.tail.tail | exact h.tail.tail.tail.tail) ?_
    refine takesR [0, 1, 2, 3, 4, 7, 8, 9, 10] [0, 2, 7, 10, 11, 12, 16, 19, 20, 25, 26] 8 [true, true, true, true, true, false, false, true, true, true, true, false, false, false, false, false, false] [(0, .int .i64 frame), (2, .int .i64 all), (7, .slice A ((partsOf frame all (s.l.take i)).length) cap), (10, .slice (some ⟨sb, so, none⟩) s.l.length s.c), (11, .int .i64 (s.l.length : Int)), (12, .int .i64 (i : Int)), (16, .slice A ((partsOf frame all (s.l.take i)).length) cap), (19, .int .i64 (IntKind.i64.wrap (frame * y))), (20, .int .i64 all), (25, .int .i64 (IntKind.i64.wrap (frame * y))), (26, .int .i64 all)] [] rfl (fun _ d _ _ _ h => by cases d <;> exact h) (fun _ h => by first | exact h | exact h.tail | exact h.tail.tail | exact h.tail.tail.tail | exact h.tail.tail.tail.tail) has0 (fun _ => by kernel_rfl) ?_
    try rw [← hA]
    rw [hwm]
    have hdb := tdiv_bounds hm1 ha
    have hq : IntKind.i64.wrap ((frame * y).tdiv all) = (frame * y).tdiv all := by rw [IntKind.wrap_i64]; omega
    refine takeR1 5 7 [true, true, true, true, true, true, false, true, true, true, true, false, false, false, false, false, false] rfl rfl (by kernel_rfl) (fun _ d _ _ _ h => by cases d <;> exact h) (fun _ h => by first | exact h | exact h.tail | exact h.tail.tail | exact h.tail.tail.tail | exact h.tail.tail.tail.tail) (binY .quo 3 3 (.tmp 19) (.tmp 20) (.int .i64 (frame * y)) (.int .i64 all) (.int .i64 (IntKind.i64.wrap ((frame * y : Int).tdiv all))) (some 21) (fun _ => by kernel_rfl) (by kernel_rfl) (by kernel_rfl) (fun _ => by kernel_rfl) (fun _ => by kernel_rfl) (quoR (t' := 0) (by omega))) ?_
    refine takeR1 11 6 [true, true, true, true, true, true, false, true, true, true, true, true, false, false, false, false, false] rfl rfl (by kernel_rfl) (fun _ d _ _ _ h => by cases d <;> exact h) (fun _ h => by first | exact h | exact h.tail | exact h.tail.tail | exact h.tail.tail.tail | exact h.tail.tail.tail.tail) (binY .rem 3 3 (.tmp 25) (.tmp 26) (.int .i64 (frame * y)) (.int .i64 all) (.int .i64 ((frame * y : Int).tmod all)) (some 27) (fun _ => by kernel_rfl) (by kernel_rfl) (by kernel_rfl) (fun _ => by kernel_rfl) (fun _ => by kernel_rfl) (remR (t' := 0) (by omega))) ?_
    rw [hq]
    refine takesR [6, 12, 13] [0, 2, 7, 10, 11, 12, 16, 29] 3 [true, true, true, true, true, true, true, true, true, true, true, true, true, true, false, false, false] [(0, .int .i64 frame), (2, .int .i64 all), (7, .slice A ((partsOf frame all (s.l.take i)).length) cap), (10, .slice s.a s.l.length s.c), (11, .int .i64 (s.l.length : Int)), (12, .int .i64 (i : Int)), (16, .slice A ((partsOf frame all (s.l.take i)).length) cap), (29, .complex .f64 (floatOfInt .f64 ((frame * y : Int).tdiv all)) (floatOfInt .f64 ((frame * y : Int).tmod all)))] [] rfl (fun _ d _ _ _ h => by cases d <;> exact h) (fun _ h => by first | exact h | exact h.tail | exact h.tail.tail | exact h.tail.tail.tail | exact h.tail.tail.tail.tail) has0 (fun _ => by kernel_rfl) ?_
    refine oneR 14 2 [true, true, true, true, true, true, true, true, true, true, true, true, true, true, true, false, false] rfl rfl (by kernel_rfl) (newS 59 [.complex .f64 (floatOfInt .f64 ((frame * y : Int).tdiv all)) (floatOfInt .f64 ((frame * y : Int).tmod all))] (some 30) (fun b => .slice (some ⟨b, 0, none⟩) 1 1) (fun _ _ => by kernel_rfl)) (fun _ _ h _ => by first | exact h | exact h.tail | exact h.tail.tail | exact h.tail.tail.tail | exact h.tail.tail.tail.tail) (fun b1 => ?_)
    refine DT.pick 1 rfl ?_
    refine oneR 15 1 [true, true, true, true, true, true, true, true, true, true, true, true, true, true, true, true, false] rfl rfl (by kernel_rfl) (appS (E := pE) 58 (.tmp 16) (.tmp 30) A cap (partsOf frame all (s.l.take i)) [((frame * y : Int).tdiv all, (frame * y : Int).tmod all)] (.slice (some ⟨b1, 0, none⟩) 1 1) (some 31) (fun _ => by kernel_rfl) (by kernel_rfl) (by kernel_rfl) (fun _ => by kernel_rfl) (fun _ => by kernel_rfl) Try.underlying58 (pE_ety) (blkRd 1 rfl) (by simp only [partsOf, List.length_cons, List.length_map, List.length_take, List.length_nil]; omega)) (fun _ _ h _ => by first | exact h | exact h.tail | exact h.tail.tail | exact h.tail.tail.tail | exact h.tail.tail.tail.tail) (fun r2 => ?_)
    refine takesR [16] [0, 2, 7, 10, 11, 12] 0 [true, true, true, true, true, true, true, true, true, true, true, true, true, true, true, true, true] [(0, .int .i64 frame), (2, .int .i64 all), (7, .slice r2.1 (((partsOf frame all (s.l.take i)) ++ [((frame * y : Int).tdiv all, (frame * y : Int).tmod all)]).length) r2.2), (10, .slice s.a s.l.length s.c), (11, .int .i64 (s.l.length : Int)), (12, .int .i64 (i : Int))] [] rfl (fun _ d _ _ _ h => by cases d <;> exact h) (fun _ h => by first | exact h | exact h.tail | exact h.tail.tail | exact h.tail.tail.tail | exact h.tail.tail.tail.tail) has0 (fun _ => by kernel_rfl) ?_
    refine drawnR (by kernel_rfl) ?_
    refine regionR 2 (by kernel_rfl) (by kernel_rfl) ?_
    refine (run0 (z := 0) 2 [0, 2, 7, 10, 11, 12] [(0, .int .i64 frame), (2, .int .i64 all), (7, .slice r2.1 (((partsOf frame all (s.l.take i)) ++ [((frame * y : Int).tdiv all, (frame * y : Int).tmod all)]).length) r2.2), (10, .slice s.a s.l.length s.c), (11, .int .i64 (s.l.length : Int)), (12, .int .i64 (IntKind.i64.wrap ((i : Int) + 1)))] (fun _ => by kernel_rfl) (endR ?_) : RT _ _ _ _ _ _ 2 _)
    have hpt : partsOf frame all (s.l.take i) ++ [((frame * y).tdiv all, (frame * y).tmod all)] = partsOf frame all (s.l.take (i + 1)) := by rw [ht]; simp [partsOf]
    rw [hpt, hw]
    refine PT.pick 1 rfl ?_
    refine PT.drop ?_
    refine PT.keep (L' := [(0, .int .i64 frame), (2, .int .i64 all), (7, .slice r2.1 ((partsOf frame all (s.l.take (i + 1))).length) r2.2), (10, .slice s.a s.l.length s.c), (11, .int .i64 (s.l.length : Int)), (12, .int .i64 ((i + 1 : Nat) : Int))]) [0, 2, 7, 10, 11, 12] rfl ?_
    exact againG (k - 1) (r2, i + 1) rfl rfl (by omega) (by simp only; omega)
  · skip
    have hi : i = s.l.length := by have := of_decide_eq_false h; omega
    rw [hi, List.take_length]
    refine exitR 0 (by kernel_rfl) (by kernel_rfl) ?_
    refine thenX ?_
    refine thenX ?_
    refine leaveR ?_
    refine seqR (by kernel_rfl) ?_
    refine regionR 2 (by kernel_rfl) (by kernel_rfl) ?_
    refine (run0 (z := 0) 2 [6] [(6, .slice A ((partsOf frame all (s.l)).length) cap)] (fun _ => by kernel_rfl) (endR ?_) : RT _ _ _ _ _ _ 2 _)
    refine retR (by kernel_rfl) ?_
    refine done0 (.slice A ((partsOf frame all (s.l)).length) cap) (fun _ => by kernel_rfl) (fun w hs => ?_) .ret (.inr rfl)
    exact ⟨(A, cap), rfl, hs⟩
/-- Who has the greatest rest, of the first n. -/
def grAt (l : List (Int × Int)) : Nat → Nat
  | 0 => 0
  | i + 1 => if ((l.getD i (0, 0)).2 > (l.getD (grAt l i) (0, 0)).2) then i else grAt l i
theorem grAt_lt (l : List (Int × Int)) (hl : 0 < l.length) : ∀ n, n ≤ l.length → grAt l n < l.length
  | 0, _ => hl
  | i + 1, h => by unfold grAt; split; omega; exact grAt_lt l hl i (by omega)
set_option maxRecDepth 100000 in
theorem greatest_walk (H : List SP) (s : SV (Int × Int)) (hk : KR H pE s) (hl : s.l.length < 1000000) (hb : ∀ p ∈ s.l, p.2.natAbs < 2 ^ 53) : ∀ w, Sat w H → Calls Try.prog 42 #[.slice s.a s.l.length s.c] w (Ret (ι := Unit) (fun _ => .int .i64 (grAt s.l s.l.length : Nat)) fun _ => H) := by
  refine enterG (fn := Try.f42) 24 [.slice s.a s.l.length s.c] Try.func42 (by kernel_rfl) (by kernel_rfl) (by kernel_rfl) ?_
  refine seqR (by kernel_rfl) ?_
  refine regionR 1 (by kernel_rfl) (by kernel_rfl) ?_
  refine (run0 (z := 0) 1 [0, 2] [(0, .slice s.a s.l.length s.c), (2, .int .i64 0)] (fun _ => by kernel_rfl) (endR ?_) : RT _ _ _ _ _ _ 1 _)
  refine seqR (by kernel_rfl) ?_
  refine regionR 1 (by kernel_rfl) (by kernel_rfl) ?_
  refine (run0 (z := 0) 1 [0, 2, 3] [(0, .slice s.a s.l.length s.c), (2, .int .i64 0), (3, .int .i64 0)] (fun _ => by kernel_rfl) (endR ?_) : RT _ _ _ _ _ _ 1 _)
  refine seqR (by kernel_rfl) ?_
  refine seqR (by kernel_rfl) ?_
  refine regionR 3 (by kernel_rfl) (by kernel_rfl) ?_
  refine (run0 (z := 0) 3 [0, 2, 3, 6, 7, 8] [(0, .slice s.a s.l.length s.c), (2, .int .i64 0), (3, .int .i64 0), (6, .slice s.a s.l.length s.c), (7, .int .i64 (s.l.length : Int)), (8, .int .i64 0)] (fun _ => by kernel_rfl) (endR ?_) : RT _ _ _ _ _ _ 3 _)
  refine blockR 0 (by kernel_rfl) (by kernel_rfl) ?_
  refine PT.keep (L' := [(0, .slice s.a s.l.length s.c), (3, .int .i64 0), (6, .slice s.a s.l.length s.c), (7, .int .i64 (s.l.length : Int)), (8, .int .i64 0)]) [0, 3, 6, 7, 8] rfl ?_
  refine loopG (fun (i : Nat) => [(0, .slice s.a s.l.length s.c), (3, .int .i64 (grAt s.l i : Nat)), (6, .slice s.a s.l.length s.c), (7, .int .i64 (s.l.length : Int)), (8, .int .i64 (i : Int))]) (fun (i : Nat) => (H)) (fun k (i : Nat) => k + i = s.l.length) s.l.length 0 (by kernel_rfl) (by omega) ?_
  rintro k i hki
  have hw : IntKind.i64.wrap ((i : Int) + 1) = ((i + 1 : Nat) : Int) := by rw [IntKind.wrap_i64]; omega
  refine seqR (by kernel_rfl) ?_
  refine regionR 1 (by kernel_rfl) (by kernel_rfl) ?_
  refine (run0 (z := 0) 1 [0, 3, 6, 7, 8, 9] [(0, .slice s.a s.l.length s.c), (3, .int .i64 (grAt s.l i : Nat)), (6, .slice s.a s.l.length s.c), (7, .int .i64 (s.l.length : Int)), (8, .int .i64 (i : Int)), (9, .bool (decide ((i : Int) < (s.l.length : Int))))] (fun _ => by kernel_rfl) (endR ?_) : RT _ _ _ _ _ _ 1 _)
  refine seqR (by kernel_rfl) ?_
  refine condR (b := decide ((i : Int) < (s.l.length : Int))) (by kernel_rfl) (fun _ => by kernel_rfl) (fun h => ?_) (fun h => ?_)
  · skip
    have hi : i < s.l.length := by have := of_decide_eq_true h; omega
    obtain ⟨p, hp⟩ : ∃ p, s.l[i]? = some p := ⟨_, by simp [hi]; rfl⟩
    have hg := grAt_lt s.l (by omega) i (by omega)
    have hgr : grAt s.l (i + 1) = if ((s.l.getD i (0, 0)).2 > (s.l.getD (grAt s.l i) (0, 0)).2) then i else grAt s.l i := rfl
    obtain ⟨g, hgd⟩ : ∃ g, g = grAt s.l i := ⟨_, rfl⟩
    rw [← hgd] at hg hgr ⊢
    obtain ⟨q, hq⟩ : ∃ q, s.l[g]? = some q := ⟨_, by simp [hg]; rfl⟩
    have hpm : p ∈ s.l := List.mem_of_getElem? hp
    have hqm : q ∈ s.l := List.mem_of_getElem? hq
    rw [List.getD_eq_getElem?_getD, List.getD_eq_getElem?_getD, hp, hq, Option.getD_some, Option.getD_some] at hgr
    refine PT.know ((hk).isSome (List.ne_nil_of_length_pos (by omega))) ?_
    rintro ⟨sb, so, hA⟩
    try rw [hA]
    refine skipR (by kernel_rfl) ?_
    refine seqR (by kernel_rfl) ?_
    refine blockR 1 (by kernel_rfl) (by kernel_rfl) ?_
    refine seqR (by kernel_rfl) ?_
    refine regionR 5 (by kernel_rfl) (by kernel_rfl) ?_
    refine (run0 (z := 4) 1 [0, 3, 6, 7, 8, 10] [(0, .slice (some ⟨sb, so, none⟩) s.l.length s.c), (3, .int .i64 (g : Int)), (6, .slice (some ⟨sb, so, none⟩) s.l.length s.c), (7, .int .i64 (s.l.length : Int)), (8, .int .i64 (i : Int)), (10, .int .i64 (i : Int))] (fun _ => by kernel_rfl) ?_ : RT _ _ _ _ _ _ 5 _)
    refine (stepR (z := 3) (yldS (idxY 58 (.tmp 6) (.tmp 8) sb so s.l.length s.c i 1 59 (i : Int) .i64 (some 11) (fun _ => by kernel_rfl) (by kernel_rfl) (by kernel_rfl) (fun _ => by kernel_rfl) (fun _ => by kernel_rfl) Try.underlying58 (by kernel_rfl) (by first | rfl | assumption | simp) (by first | omega | (simp; done) | (simp; omega) | (simp at *; omega)))) (fun _ => ?_) : RT _ _ _ _ _ _ 4 _)
    refine (runR (H := (H)) (z := 0) 3 [0, 3, 6, 7, 8, 4, 5] [(0, .slice (some ⟨sb, so, none⟩) s.l.length s.c), (3, .int .i64 (g : Int)), (6, .slice (some ⟨sb, so, none⟩) s.l.length s.c), (7, .int .i64 (s.l.length : Int)), (8, .int .i64 (i : Int)), (4, .int .i64 (i : Int)), (5, .complex .f64 (floatOfInt .f64 p.1) (floatOfInt .f64 p.2))] [(⟨sb, so + i * 1, none⟩, .complex .f64 (floatOfInt .f64 p.1) (floatOfInt .f64 p.2))] (hasC (hk.cell hA (i := i) (x := p) hp (j := 0) rfl) has0) (fun _ => by kernel_rfl) (endR ?_) : RT _ _ _ _ _ _ 3 _)
    refine seqR (by kernel_rfl) ?_
    refine regionR 8 (by kernel_rfl) (by kernel_rfl) ?_
    refine (run0 (z := 4) 4 [0, 3, 6, 7, 8, 4, 14, 15, 16] [(0, .slice (some ⟨sb, so, none⟩) s.l.length s.c), (3, .int .i64 (g : Int)), (6, .slice (some ⟨sb, so, none⟩) s.l.length s.c), (7, .int .i64 (s.l.length : Int)), (8, .int .i64 (i : Int)), (4, .int .i64 (i : Int)), (14, .float .f64 (floatOfInt .f64 p.2)), (15, .slice (some ⟨sb, so, none⟩) s.l.length s.c), (16, .int .i64 (g : Int))] (fun _ => by kernel_rfl) ?_ : RT _ _ _ _ _ _ 8 _)
    refine (stepR (z := 3) (yldS (idxY 58 (.tmp 15) (.tmp 16) sb so s.l.length s.c g 1 59 (g : Int) .i64 (some 17) (fun _ => by kernel_rfl) (by kernel_rfl) (by kernel_rfl) (fun _ => by kernel_rfl) (fun _ => by kernel_rfl) Try.underlying58 (by kernel_rfl) (by first | rfl | assumption | simp) (by first | omega | (simp; done) | (simp; omega) | (simp at *; omega)))) (fun _ => ?_) : RT _ _ _ _ _ _ 4 _)
    refine (runR (H := (H)) (z := 1) 2 [0, 3, 6, 7, 8, 4, 14, 19] [(0, .slice (some ⟨sb, so, none⟩) s.l.length s.c), (3, .int .i64 (g : Int)), (6, .slice (some ⟨sb, so, none⟩) s.l.length s.c), (7, .int .i64 (s.l.length : Int)), (8, .int .i64 (i : Int)), (4, .int .i64 (i : Int)), (14, .float .f64 (floatOfInt .f64 p.2)), (19, .float .f64 (floatOfInt .f64 q.2))] [(⟨sb, so + g * 1, none⟩, .complex .f64 (floatOfInt .f64 q.1) (floatOfInt .f64 q.2))] (hasC (hk.cell hA (i := g) (x := q) hq (j := 0) rfl) has0) (fun _ => by kernel_rfl) ?_ : RT _ _ _ _ _ _ 3 _)
    refine (stepR (z := 0) (yldS (binY .gtr 60 60 (.tmp 14) (.tmp 19) (.float .f64 (floatOfInt .f64 p.2)) (.float .f64 (floatOfInt .f64 q.2)) (.bool (decide (p.2 > q.2))) (some 20) (fun _ => by kernel_rfl) (by kernel_rfl) (by kernel_rfl) (fun _ => by kernel_rfl) (fun _ => by kernel_rfl) (flt_gt (t' := 0) (hb p hpm) (hb q hqm)))) (fun _ => ?_) : RT _ _ _ _ _ _ 1 _)
    refine endR ?_
    try rw [← hA]
    refine condR (b := decide (p.2 > q.2)) (by kernel_rfl) (fun _ => by kernel_rfl) (fun h2 => ?_) (fun h2 => ?_)
    · skip
      refine regionR 2 (by kernel_rfl) (by kernel_rfl) ?_
      refine (run0 (z := 0) 2 [0, 3, 6, 7, 8] [(0, .slice s.a s.l.length s.c), (3, .int .i64 (i : Int)), (6, .slice s.a s.l.length s.c), (7, .int .i64 (s.l.length : Int)), (8, .int .i64 (i : Int))] (fun _ => by kernel_rfl) (endR ?_) : RT _ _ _ _ _ _ 2 _)
      refine regionR 2 (by kernel_rfl) (by kernel_rfl) ?_
      refine (run0 (z := 0) 2 [0, 3, 6, 7, 8] [(0, .slice s.a s.l.length s.c), (3, .int .i64 (i : Int)), (6, .slice s.a s.l.length s.c), (7, .int .i64 (s.l.length : Int)), (8, .int .i64 (IntKind.i64.wrap ((i : Int) + 1)))] (fun _ => by kernel_rfl) (endR ?_) : RT _ _ _ _ _ _ 2 _)
      refine PT.keep (L' := [(0, .slice s.a s.l.length s.c), (3, .int .i64 (i : Int)), (6, .slice s.a s.l.length s.c), (7, .int .i64 (s.l.length : Int)), (8, .int .i64 (IntKind.i64.wrap ((i : Int) + 1)))]) [0, 3, 6, 7, 8] rfl ?_
      exact againG (k - 1) (i + 1) (by rw [hw, hgr, if_pos (of_decide_eq_true h2)]) rfl (by omega) (by omega)
    · skip
      refine skipR (by kernel_rfl) ?_
      refine regionR 2 (by kernel_rfl) (by kernel_rfl) ?_
      refine (run0 (z := 0) 2 [0, 3, 6, 7, 8] [(0, .slice s.a s.l.length s.c), (3, .int .i64 (g : Int)), (6, .slice s.a s.l.length s.c), (7, .int .i64 (s.l.length : Int)), (8, .int .i64 (IntKind.i64.wrap ((i : Int) + 1)))] (fun _ => by kernel_rfl) (endR ?_) : RT _ _ _ _ _ _ 2 _)
      refine PT.keep (L' := [(0, .slice s.a s.l.length s.c), (3, .int .i64 (g : Int)), (6, .slice s.a s.l.length s.c), (7, .int .i64 (s.l.length : Int)), (8, .int .i64 (IntKind.i64.wrap ((i : Int) + 1)))]) [0, 3, 6, 7, 8] rfl ?_
      exact againG (k - 1) (i + 1) (by rw [hw, hgr, if_neg (of_decide_eq_false h2)]) rfl (by omega) (by omega)
  · skip
    have hi : i = s.l.length := by have := of_decide_eq_false h; omega
    rw [hi]
    refine exitR 0 (by kernel_rfl) (by kernel_rfl) ?_
    refine thenX ?_
    refine thenX ?_
    refine leaveR ?_
    refine seqR (by kernel_rfl) ?_
    refine regionR 2 (by kernel_rfl) (by kernel_rfl) ?_
    refine (run0 (z := 0) 2 [2] [(2, .int .i64 (grAt s.l (s.l.length) : Nat))] (fun _ => by kernel_rfl) (endR ?_) : RT _ _ _ _ _ _ 2 _)
    refine retR (by kernel_rfl) ?_
    refine done0 (.int .i64 (grAt s.l (s.l.length) : Nat)) (fun _ => by kernel_rfl) (fun w hs => ?_) .ret (.inr rfl)
    exact ⟨(), rfl, hs⟩
end Go.Proofs.Ytjjbnmlhbbnhcaa
