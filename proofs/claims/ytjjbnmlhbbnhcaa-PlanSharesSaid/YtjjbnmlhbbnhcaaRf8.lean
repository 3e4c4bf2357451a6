/- tontineref11.Slots: its walk. Conditions: none. -/
import Derived.Test.YtjjbnmlhbbnhcaaSlc
import Derived.Test.YtjjbnmlhbbnhcaaRf7
set_option linter.unusedVariables false
set_option linter.unusedSimpArgs false
namespace Go.Proofs.Ytjjbnmlhbbnhcaa
open Go.RowKit G
def outL (l : List Int) (m : Nat) : List Int := ((qsort l).take m).map fun x => (x.2 : Int)
theorem outL_len {l : List Int} {m : Nat} (h : m ≤ (qsort l).length) : (outL l m).length = m := by unfold outL; rw [List.length_map, List.length_take]; omega
theorem hadOf_step {l : List Int} {m : Nat} (hm : m < (qsort l).length) (e : Nat) : hadOf l (m + 1) e = hadOf l m e + if (qsort l)[m].2 = e then 1 else 0 := by
  have htk : (qsort l).take (m + 1) = (qsort l).take m ++ [(qsort l)[m]] := by simp
  simp only [hadOf, htk, List.filter_append, List.length_append, List.filter_cons, List.filter_nil]
  by_cases c : (qsort l)[m].2 = e <;> simp [c]
theorem wrapQ {g n : Nat} {z : Int} (hz : (n : Int) = z) (hg : g ≤ 64) (hn : n ≤ 64) : IntKind.i64.wrap (IntKind.i64.wrap (IntKind.i64.wrap (2 * (g : Int)) + 1) * z) = (((2 * g + 1) * n : Nat) : Int) := by
  have h1 : IntKind.i64.wrap (2 * (g : Int)) = 2 * (g : Int) := by rw [IntKind.wrap_i64]; omega
  have h2 : IntKind.i64.wrap (2 * (g : Int) + 1) = 2 * (g : Int) + 1 := by rw [IntKind.wrap_i64]; omega
  have b1 : (2 * g + 1) * n ≤ 129 * 64 := Nat.mul_le_mul (by omega) hn
  have m1 : (2 * (g : Int) + 1) * z = (((2 * g + 1) * n : Nat) : Int) := by rw [← hz]; simp
  rw [h1, h2, m1, IntKind.wrap_i64]
  omega
set_option maxHeartbeats 1000000 in
set_option maxRecDepth 100000 in
theorem rslots_walk (H : List SP) (s : SV Int) (hk : KR H (kE .i64) s) : ∀ w, Sat w H → Calls Try.prog 24 #[.slice s.a s.l.length s.c] w (Ret (ι := Option Addr × Nat) (fun p => .slice p.1 (slotsOf s.l).length p.2) fun p => row (kE .i64) 3 (.slice p.1 (slotsOf s.l).length p.2) (slotsOf s.l) :: H) := by
  refine enterG (fn := Try.f24) 74 [.slice s.a s.l.length s.c] Try.func24 (by kernel_rfl) (by kernel_rfl) (by kernel_rfl) ?_
  refine seqR (by kernel_rfl) ?_
  refine regionR 1 (by kernel_rfl) (by kernel_rfl) ?_
  refine (run0 (z := 0) 1 [0, 2] [(0, .slice s.a s.l.length s.c), (2, .slice none 0 0)] (fun _ => by kernel_rfl) (endR ?_) : RT _ _ _ _ _ _ 1 _)
  refine seqR (by kernel_rfl) ?_
  refine seqR (by kernel_rfl) ?_
  refine regionR 3 (by kernel_rfl) (by kernel_rfl) ?_
  refine (run0 (z := 2) 1 [0, 2, 7] [(0, .slice s.a s.l.length s.c), (2, .slice none 0 0), (7, .slice s.a s.l.length s.c)] (fun _ => by kernel_rfl) ?_ : RT _ _ _ _ _ _ 3 _)
  refine (stepR (z := 1) (callS 43 [.slice s.a s.l.length s.c] (some 8) (fun _ => .bool (mayCountsB s.l)) (fun _ => (H)) (fun _ => by kernel_rfl) (mayCounts_walk _ s hk)) (fun _ => ?_) : RT _ _ _ _ _ _ 2 _)
  refine (run0 (z := 0) 1 [0, 2, 9] [(0, .slice s.a s.l.length s.c), (2, .slice none 0 0), (9, .bool (!(mayCountsB s.l)))] (fun _ => by kernel_rfl) (endR ?_) : RT _ _ _ _ _ _ 1 _)
  cases hm : (mayCountsB s.l) with
  | true =>
    have hs0 : sumOf s.l ≠ 0 := by rw [mayCounts_eq] at hm; simpa using hm
    obtain ⟨s1, s2, s3, s4, s5⟩ := (sumOf_ne s.l).1 hs0
    have hM := may_mem s3
    have hql := qsort_length (l := s.l) (fun x hx => (hM x hx).1)
    have hws := (wsum_sum (l := s.l) (fun x hx => by have := hM x hx; omega) (by omega)).1
    have hcb : ∀ e, cnt s.l e ≤ 64 := fun e => by
      unfold cnt
      cases h : s.l[e]? with
      | none => simp [List.getD, h]
      | some x => have := hM x (List.mem_of_getElem? h); simp [List.getD, h]; omega
    refine condR (b := false) (by kernel_rfl) (fun _ => by kernel_rfl) (fun h => by cases h) (fun _ => ?_)
    refine skipR (by kernel_rfl) ?_
    refine seqR (by kernel_rfl) ?_
    refine regionR 1 (by kernel_rfl) (by kernel_rfl) ?_
    refine (run0 (z := 0) 1 [0, 2, 3] [(0, .slice s.a s.l.length s.c), (2, .slice none 0 0), (3, .slice none 0 0)] (fun _ => by kernel_rfl) (endR ?_) : RT _ _ _ _ _ _ 1 _)
    refine seqR (by kernel_rfl) ?_
    refine regionR 4 (by kernel_rfl) (by kernel_rfl) ?_
    refine (run0 (z := 2) 2 [0, 2, 3, 11] [(0, .slice s.a s.l.length s.c), (2, .slice none 0 0), (3, .slice none 0 0), (11, .int .i64 (s.l.length : Int))] (fun _ => by kernel_rfl) ?_ : RT _ _ _ _ _ _ 4 _)
    refine (stepR (z := 1) (mkS (E := (kE .i64)) (T := 3) 26 (.tmp 11) (.tmp 11) s.l.length 0 (.int .i64 0) 8 (some 12) (fun _ => by kernel_rfl) (by kernel_rfl) (by kernel_rfl) (fun _ => by kernel_rfl) (fun _ => by kernel_rfl) Try.underlying26 (by kernel_rfl) (by kernel_rfl) rfl (by decide) (by omega)) (fun b1 => ?_) : RT _ _ _ _ _ _ 2 _)
    refine (run0 (z := 0) 1 [0, 2, 3, 4] [(0, .slice s.a s.l.length s.c), (2, .slice none 0 0), (3, .slice none 0 0), (4, .slice (some ⟨b1, 0, none⟩) s.l.length s.l.length)] (fun _ => by kernel_rfl) (endR ?_) : RT _ _ _ _ _ _ 1 _)
    refine seqR (by kernel_rfl) ?_
    refine blockR 0 (by kernel_rfl) (by kernel_rfl) ?_
    refine PT.rowNil (kE .i64) 3 ?_
    refine PT.keep (L' := [(0, .slice s.a s.l.length s.c), (2, .slice none 0 0), (3, .slice none 0 0), (4, .slice (some ⟨b1, 0, none⟩) s.l.length s.l.length)]) [0, 2, 3, 4] rfl ?_
    refine loopG (fun (x : (Option Addr × Nat) × List Int × Nat) => [(0, .slice s.a s.l.length s.c), (2, .slice none 0 0), (3, .slice x.1.1 ((outL s.l x.2.2).length) x.1.2), (4, .slice (some ⟨b1, 0, none⟩) s.l.length s.l.length)]) (fun (x : (Option Addr × Nat) × List Int × Nat) => (row (kE .i64) 3 (.slice x.1.1 (outL s.l x.2.2).length x.1.2) (outL s.l x.2.2) :: row (kE .i64) 3 (.slice (some ⟨b1, 0, none⟩) s.l.length s.l.length) x.2.1 :: H)) (fun k (x : (Option Addr × Nat) × List Int × Nat) => k + x.2.2 = (qsort s.l).length ∧ x.2.1.length = s.l.length ∧ ∀ e, e < s.l.length → x.2.1[e]? = some (hadOf s.l x.2.2 e : Int)) (qsort s.l).length ((none, 0), List.replicate s.l.length 0, 0) (by kernel_rfl) ⟨by simp, by simp, fun e he => by simp [he, hadOf]⟩ ?_
    rintro k ⟨⟨A, cap⟩, gl, m⟩ ⟨hkm, hgl, hg⟩
    dsimp only at hkm hgl hg ⊢
    have hol := outL_len (l := s.l) (m := m) (by omega)
    refine seqR (by kernel_rfl) ?_
    refine seqR (by kernel_rfl) ?_
    refine regionR 5 (by kernel_rfl) (by kernel_rfl) ?_
    refine (run0 (z := 2) 3 [0, 2, 3, 4, 14, 15] [(0, .slice s.a s.l.length s.c), (2, .slice none 0 0), (3, .slice A ((outL s.l m).length) cap), (4, .slice (some ⟨b1, 0, none⟩) s.l.length s.l.length), (14, .int .i64 ((outL s.l m).length : Int)), (15, .slice s.a s.l.length s.c)] (fun _ => by kernel_rfl) ?_ : RT _ _ _ _ _ _ 5 _)
    refine (stepR (z := 1) (callS 32 [.slice s.a s.l.length s.c] (some 16) (fun _ => .int .i64 (wsum s.l)) (fun _ => (row (kE .i64) 3 (.slice A (outL s.l m).length cap) (outL s.l m) :: row (kE .i64) 3 (.slice (some ⟨b1, 0, none⟩) s.l.length s.l.length) gl :: H)) (fun _ => by kernel_rfl) (total_walk (row (kE .i64) 3 (.slice A (outL s.l m).length cap) (outL s.l m) :: row (kE .i64) 3 (.slice (some ⟨b1, 0, none⟩) s.l.length s.l.length) gl :: H) s hk.up.up (by omega))) (fun _ => ?_) : RT _ _ _ _ _ _ 2 _)
    refine (run0 (z := 0) 1 [0, 2, 3, 4, 17] [(0, .slice s.a s.l.length s.c), (2, .slice none 0 0), (3, .slice A ((outL s.l m).length) cap), (4, .slice (some ⟨b1, 0, none⟩) s.l.length s.l.length), (17, .bool (decide (((outL s.l m).length : Int) < (wsum s.l))))] (fun _ => by kernel_rfl) (endR ?_) : RT _ _ _ _ _ _ 1 _)
    refine condR (b := decide (((outL s.l m).length : Int) < (wsum s.l))) (by kernel_rfl) (fun _ => by kernel_rfl) (fun h1 => ?_) (fun h1 => ?_)
    · skip
      have hml : m < (qsort s.l).length := by have := of_decide_eq_true h1; rw [hol, hws] at this; omega
      have hgb : ∀ e, e < s.l.length → hadOf s.l m e ≤ 64 := fun e he => Nat.le_trans (hadOf_le (by omega) he) (hcb e)
      refine skipR (by kernel_rfl) ?_
      refine blockR 1 (by kernel_rfl) (by kernel_rfl) ?_
      refine seqR (by kernel_rfl) ?_
      refine regionR 1 (by kernel_rfl) (by kernel_rfl) ?_
      refine (run0 (z := 0) 1 [0, 2, 3, 4, 5] [(0, .slice s.a s.l.length s.c), (2, .slice none 0 0), (3, .slice A ((outL s.l m).length) cap), (4, .slice (some ⟨b1, 0, none⟩) s.l.length s.l.length), (5, .int .i64 (-1))] (fun _ => by kernel_rfl) (endR ?_) : RT _ _ _ _ _ _ 1 _)
      refine seqR (by kernel_rfl) ?_
      refine seqR (by kernel_rfl) ?_
      refine regionR 1 (by kernel_rfl) (by kernel_rfl) ?_
      refine (run0 (z := 0) 1 [0, 2, 3, 4, 5, 6] [(0, .slice s.a s.l.length s.c), (2, .slice none 0 0), (3, .slice A ((outL s.l m).length) cap), (4, .slice (some ⟨b1, 0, none⟩) s.l.length s.l.length), (5, .int .i64 (-1)), (6, .int .i64 0)] (fun _ => by kernel_rfl) (endR ?_) : RT _ _ _ _ _ _ 1 _)
      refine blockR 2 (by kernel_rfl) (by kernel_rfl) ?_
      refine PT.keep (L' := [(0, .slice s.a s.l.length s.c), (2, .slice none 0 0), (3, .slice A ((outL s.l m).length) cap), (4, .slice (some ⟨b1, 0, none⟩) s.l.length s.l.length), (5, .int .i64 (-1)), (6, .int .i64 0)]) [0, 2, 3, 4, 5, 6] rfl ?_
      refine loopG (fun (y : Int × Nat) => [(0, .slice s.a s.l.length s.c), (2, .slice none 0 0), (3, .slice A ((outL s.l m).length) cap), (4, .slice (some ⟨b1, 0, none⟩) s.l.length s.l.length), (5, .int .i64 y.1), (6, .int .i64 (y.2 : Int))]) (fun (y : Int × Nat) => (row (kE .i64) 3 (.slice A (outL s.l m).length cap) (outL s.l m) :: row (kE .i64) 3 (.slice (some ⟨b1, 0, none⟩) s.l.length s.l.length) gl :: H)) (fun k (y : Int × Nat) => k + y.2 = s.l.length ∧ Best s.l (hadOf s.l m) y.2 y.1) s.l.length (-1, 0) (by kernel_rfl) ⟨by simp, best_none⟩ ?_
      rintro k2 ⟨bb, v⟩ ⟨hkv, hbest⟩
      dsimp only at hkv hbest ⊢
      have hw : IntKind.i64.wrap ((v : Int) + 1) = ((v + 1 : Nat) : Int) := by rw [IntKind.wrap_i64]; omega
      refine seqR (by kernel_rfl) ?_
      refine seqR (by kernel_rfl) ?_
      refine regionR 4 (by kernel_rfl) (by kernel_rfl) ?_
      refine (run0 (z := 0) 4 [0, 2, 3, 4, 5, 6, 21] [(0, .slice s.a s.l.length s.c), (2, .slice none 0 0), (3, .slice A ((outL s.l m).length) cap), (4, .slice (some ⟨b1, 0, none⟩) s.l.length s.l.length), (5, .int .i64 bb), (6, .int .i64 (v : Int)), (21, .bool (decide ((v : Int) < (s.l.length : Int))))] (fun _ => by kernel_rfl) (endR ?_) : RT _ _ _ _ _ _ 4 _)
      refine condR (b := decide ((v : Int) < (s.l.length : Int))) (by kernel_rfl) (fun _ => by kernel_rfl) (fun h2 => ?_) (fun h2 => ?_)
      · skip
        have hv : v < s.l.length := by have := of_decide_eq_true h2; omega
        obtain ⟨y, hy⟩ : ∃ y, s.l[v]? = some y := ⟨_, by simp [hv]; rfl⟩
        have hyb := hM y (List.mem_of_getElem? hy)
        have hcy : (cnt s.l v : Int) = y := by simp [cnt, List.getD, hy]; omega
        refine PT.know ((hk).up.up.isSome (List.ne_nil_of_length_pos (by omega))) ?_
        rintro ⟨sb, so, hS⟩
        try rw [hS]
        refine skipR (by kernel_rfl) ?_
        refine seqR (by kernel_rfl) ?_
        refine blockR 3 (by kernel_rfl) (by kernel_rfl) ?_
        refine seqR (by kernel_rfl) ?_
        refine seqR (by kernel_rfl) ?_
        refine drawR (fun w => Sat w (row (kE .i64) 3 (.slice A (outL s.l m).length cap) (outL s.l m) :: row (kE .i64) 3 (.slice (some ⟨b1, 0, none⟩) s.l.length s.l.length) gl :: H)) [] 9 (by kernel_rfl) (by kernel_rfl) (by kernel_rfl) (fun _ h => by first | exact h | exact h.tail | exact h.tail.tail | exact h.tail.tail.tail | exact h.tail.tail.tail.tail) ?_
        refine takesR [0, 1, 4, 5] [0, 2, 3, 4, 5, 6, 24, 25, 28, 29] 5 [true, true, false, false, true, true, false, false, false] [(0, .slice (some ⟨sb, so, none⟩) s.l.length s.c), (2, .slice none 0 0), (3, .slice A ((outL s.l m).length) cap), (4, .slice (some ⟨b1, 0, none⟩) s.l.length s.l.length), (5, .int .i64 bb), (6, .int .i64 (v : Int)), (24, .slice (some ⟨b1, 0, none⟩) s.l.length s.l.length), (25, .int .i64 (v : Int)), (28, .slice (some ⟨sb, so, none⟩) s.l.length s.c), (29, .int .i64 (v : Int))] [] rfl (fun _ d _ _ _ h => by cases d <;> exact h) (fun _ h => by first | exact h | exact h.tail | exact h.tail.tail | exact h.tail.tail.tail | exact h.tail.tail.tail.tail) has0 (fun _ => by kernel_rfl) ?_
        refine takeR1 2 4 [true, true, true, false, true, true, false, false, false] rfl rfl (by kernel_rfl) (fun _ d _ _ _ h => by cases d <;> exact h) (fun _ h => by first | exact h | exact h.tail | exact h.tail.tail | exact h.tail.tail.tail | exact h.tail.tail.tail.tail) (idxY 26 (.tmp 24) (.tmp 25) b1 0 s.l.length s.l.length v 1 3 (v : Int) .i64 (some 26) (fun _ => by kernel_rfl) (by kernel_rfl) (by kernel_rfl) (fun _ => by kernel_rfl) (fun _ => by kernel_rfl) Try.underlying26 (by kernel_rfl) (by first | rfl | assumption | simp) (by first | omega | (simp; done) | (simp; omega) | (simp at *; omega))) ?_
        refine takesR [3] [0, 2, 3, 4, 5, 6, 28, 29, 27] 3 [true, true, true, true, true, true, false, false, false] [(0, .slice (some ⟨sb, so, none⟩) s.l.length s.c), (2, .slice none 0 0), (3, .slice A ((outL s.l m).length) cap), (4, .slice (some ⟨b1, 0, none⟩) s.l.length s.l.length), (5, .int .i64 bb), (6, .int .i64 (v : Int)), (28, .slice (some ⟨sb, so, none⟩) s.l.length s.c), (29, .int .i64 (v : Int)), (27, .int .i64 (hadOf s.l m v : Int))] [(⟨b1, 0 + v * 1, none⟩, .int .i64 (hadOf s.l m v : Int))] rfl (fun _ d _ _ _ h => by cases d <;> exact h) (fun _ h => by first | exact h | exact h.tail | exact h.tail.tail | exact h.tail.tail.tail | exact h.tail.tail.tail.tail) (hasC ((rowKRm (E := kE .i64) (T := 3) (A := some ⟨b1, 0, none⟩) (k := s.l.length) (m := s.l.length) (xs := gl) 1 rfl hgl.symm).cell rfl (i := v) (x := (hadOf s.l m v : Int)) (hg v hv) (j := 0) rfl) has0) (fun _ => by kernel_rfl) ?_
        refine takeR1 6 2 [true, true, true, true, true, true, true, false, false] rfl rfl (by kernel_rfl) (fun _ d _ _ _ h => by cases d <;> exact h) (fun _ h => by first | exact h | exact h.tail | exact h.tail.tail | exact h.tail.tail.tail | exact h.tail.tail.tail.tail) (idxY 26 (.tmp 28) (.tmp 29) sb so s.l.length s.c v 1 3 (v : Int) .i64 (some 30) (fun _ => by kernel_rfl) (by kernel_rfl) (by kernel_rfl) (fun _ => by kernel_rfl) (fun _ => by kernel_rfl) Try.underlying26 (by kernel_rfl) (by first | rfl | assumption | simp) (by first | omega | (simp; done) | (simp; omega) | (simp at *; omega))) ?_
        refine takesR [7, 8] [0, 2, 3, 4, 5, 6, 32] 0 [true, true, true, true, true, true, true, true, true] [(0, .slice (some ⟨sb, so, none⟩) s.l.length s.c), (2, .slice none 0 0), (3, .slice A ((outL s.l m).length) cap), (4, .slice (some ⟨b1, 0, none⟩) s.l.length s.l.length), (5, .int .i64 bb), (6, .int .i64 (v : Int)), (32, .bool (decide ((hadOf s.l m v : Int) ≥ y)))] [(⟨sb, so + v * 1, none⟩, .int .i64 y)] rfl (fun _ d _ _ _ h => by cases d <;> exact h) (fun _ h => by first | exact h | exact h.tail | exact h.tail.tail | exact h.tail.tail.tail | exact h.tail.tail.tail.tail) (hasC (up (up (hk.cell hS (i := v) (x := y) hy (j := 0) rfl))) has0) (fun _ => by kernel_rfl) ?_
        refine drawnR (by kernel_rfl) ?_
        refine condR (b := decide ((hadOf s.l m v : Int) ≥ y)) (by kernel_rfl) (fun _ => by kernel_rfl) (fun h3 => ?_) (fun h3 => ?_)
        · skip
          refine exitR 3 (by kernel_rfl) (by kernel_rfl) ?_
          refine thenX ?_
          refine leaveR ?_
          refine regionR 3 (by kernel_rfl) (by kernel_rfl) ?_
          refine (run0 (z := 0) 3 [0, 2, 3, 4, 5, 6] [(0, .slice (some ⟨sb, so, none⟩) s.l.length s.c), (2, .slice none 0 0), (3, .slice A ((outL s.l m).length) cap), (4, .slice (some ⟨b1, 0, none⟩) s.l.length s.l.length), (5, .int .i64 bb), (6, .int .i64 (IntKind.i64.wrap ((v : Int) + 1)))] (fun _ => by kernel_rfl) (endR ?_) : RT _ _ _ _ _ _ 3 _)
          try rw [← hS]
          refine PT.keep (L' := [(0, .slice s.a s.l.length s.c), (2, .slice none 0 0), (3, .slice A ((outL s.l m).length) cap), (4, .slice (some ⟨b1, 0, none⟩) s.l.length s.l.length), (5, .int .i64 bb), (6, .int .i64 (IntKind.i64.wrap ((v : Int) + 1)))]) [0, 2, 3, 4, 5, 6] rfl ?_
          exact againG (k2 - 1) (bb, v + 1) (by rw [hw]) rfl (by omega) ⟨by simp only; omega, best_skip hbest (by have := of_decide_eq_true h3; omega)⟩
        · skip
          have hlt : hadOf s.l m v < cnt s.l v := by have := of_decide_eq_false h3; omega
          refine skipR (by kernel_rfl) ?_
          refine seqR (by kernel_rfl) ?_
          refine drawR (fun w => Sat w (row (kE .i64) 3 (.slice A (outL s.l m).length cap) (outL s.l m) :: row (kE .i64) 3 (.slice (some ⟨b1, 0, none⟩) s.l.length s.l.length) gl :: H)) [] 27 (by kernel_rfl) (by kernel_rfl) (by kernel_rfl) (fun _ h => by first | exact h | exact h.tail | exact h.tail.tail | exact h.tail.tail.tail | exact h.tail.tail.tail.tail) ?_
          refine takesR [0, 1, 2] [0, 2, 3, 4, 5, 6, 35] 24 [true, true, true, false, false, false, false, false, false, false, false, false, false, false, false, false, false, false, false, false, false, false, false, false, false, false, false] [(0, .slice (some ⟨sb, so, none⟩) s.l.length s.c), (2, .slice none 0 0), (3, .slice A ((outL s.l m).length) cap), (4, .slice (some ⟨b1, 0, none⟩) s.l.length s.l.length), (5, .int .i64 bb), (6, .int .i64 (v : Int)), (35, .bool (decide (bb < 0)))] [] rfl (fun _ d _ _ _ h => by cases d <;> exact h) (fun _ h => by first | exact h | exact h.tail | exact h.tail.tail | exact h.tail.tail.tail | exact h.tail.tail.tail.tail) has0 (fun _ => by kernel_rfl) ?_
          cases hneg : (decide (bb < 0)) with
          | true =>
            refine takesR [3, 4, 5, 6, 7, 8, 9, 10, 11, 12, 13, 14, 15, 16, 17, 18, 19, 20, 21, 22, 23, 24, 25, 26] [0, 2, 3, 4, 5, 6, 59] 0 [true, true, true, true, true, true, true, true, true, true, true, true, true, true, true, true, true, true, true, true, true, true, true, true, true, true, true] [(0, .slice (some ⟨sb, so, none⟩) s.l.length s.c), (2, .slice none 0 0), (3, .slice A ((outL s.l m).length) cap), (4, .slice (some ⟨b1, 0, none⟩) s.l.length s.l.length), (5, .int .i64 bb), (6, .int .i64 (v : Int)), (59, .bool true)] [] rfl (fun _ d _ _ _ h => by cases d <;> exact h) (fun _ h => by first | exact h | exact h.tail | exact h.tail.tail | exact h.tail.tail.tail | exact h.tail.tail.tail.tail) has0 (fun _ => by kernel_rfl) ?_
            refine drawnR (by kernel_rfl) ?_
            refine condR (b := true) (by kernel_rfl) (fun _ => by kernel_rfl) (fun _ => ?_) (fun h => by cases h)
            refine regionR 2 (by kernel_rfl) (by kernel_rfl) ?_
            refine (run0 (z := 0) 2 [0, 2, 3, 4, 5, 6] [(0, .slice (some ⟨sb, so, none⟩) s.l.length s.c), (2, .slice none 0 0), (3, .slice A ((outL s.l m).length) cap), (4, .slice (some ⟨b1, 0, none⟩) s.l.length s.l.length), (5, .int .i64 (v : Int)), (6, .int .i64 (v : Int))] (fun _ => by kernel_rfl) (endR ?_) : RT _ _ _ _ _ _ 2 _)
            refine regionR 3 (by kernel_rfl) (by kernel_rfl) ?_
            refine (run0 (z := 0) 3 [0, 2, 3, 4, 5, 6] [(0, .slice (some ⟨sb, so, none⟩) s.l.length s.c), (2, .slice none 0 0), (3, .slice A ((outL s.l m).length) cap), (4, .slice (some ⟨b1, 0, none⟩) s.l.length s.l.length), (5, .int .i64 (v : Int)), (6, .int .i64 (IntKind.i64.wrap ((v : Int) + 1)))] (fun _ => by kernel_rfl) (endR ?_) : RT _ _ _ _ _ _ 3 _)
            try rw [← hS]
            refine PT.keep (L' := [(0, .slice s.a s.l.length s.c), (2, .slice none 0 0), (3, .slice A ((outL s.l m).length) cap), (4, .slice (some ⟨b1, 0, none⟩) s.l.length s.l.length), (5, .int .i64 (v : Int)), (6, .int .i64 (IntKind.i64.wrap ((v : Int) + 1)))]) [0, 2, 3, 4, 5, 6] rfl ?_
            exact againG (k2 - 1) ((v : Int), v + 1) (by rw [hw]) rfl (by omega) ⟨by simp only; omega, best_first hbest (of_decide_eq_true hneg) hlt⟩
          | false =>
            have hbn : ¬ bb < 0 := of_decide_eq_false hneg
            have hb2 := hbest
            rcases hb2 with ⟨hb2, _⟩ | ⟨e, he, hev, hge, _⟩
            · exfalso; omega
            subst he
            have hel : e < s.l.length := by omega
            obtain ⟨z, hz⟩ : ∃ z, s.l[e]? = some z := ⟨_, by simp [hel]; rfl⟩
            have hzb := hM z (List.mem_of_getElem? hz)
            have hcz : (cnt s.l e : Int) = z := by simp [cnt, List.getD, hz]; omega
            have hq1 := wrapQ hcz (hgb v hv) (hcb e)
            have hq2 := wrapQ hcy (hgb e hel) (hcb v)
            refine takesR [3, 4, 9, 10, 14, 15, 20, 21] [0, 2, 3, 4, 5, 6, 35, 36, 37, 42, 43, 47, 48, 53, 54] 16 [true, true, true, true, true, false, false, false, false, true, true, false, false, false, true, true, false, false, false, false, true, true, false, false, false, false, false] [(0, .slice (some ⟨sb, so, none⟩) s.l.length s.c), (2, .slice none 0 0), (3, .slice A ((outL s.l m).length) cap), (4, .slice (some ⟨b1, 0, none⟩) s.l.length s.l.length), (5, .int .i64 (e : Int)), (6, .int .i64 (v : Int)), (35, .bool false), (36, .slice (some ⟨b1, 0, none⟩) s.l.length s.l.length), (37, .int .i64 (v : Int)), (42, .slice (some ⟨sb, so, none⟩) s.l.length s.c), (43, .int .i64 (e : Int)), (47, .slice (some ⟨b1, 0, none⟩) s.l.length s.l.length), (48, .int .i64 (e : Int)), (53, .slice (some ⟨sb, so, none⟩) s.l.length s.c), (54, .int .i64 (v : Int))] [] rfl (fun _ d _ _ _ h => by cases d <;> exact h) (fun _ h => by first | exact h | exact h.tail | exact h.tail.tail | exact h.tail.tail.tail | exact h.tail.tail.tail.tail) has0 (fun _ => by kernel_rfl) ?_
            refine takeR1 5 15 [true, true, true, true, true, true, false, false, false, true, true, false, false, false, true, true, false, false, false, false, true, true, false, false, false, false, false] rfl rfl (by kernel_rfl) (fun _ d _ _ _ h => by cases d <;> exact h) (fun _ h => by first | exact h | exact h.tail | exact h.tail.tail | exact h.tail.tail.tail | exact h.tail.tail.tail.tail) (idxY 26 (.tmp 36) (.tmp 37) b1 0 s.l.length s.l.length v 1 3 (v : Int) .i64 (some 38) (fun _ => by kernel_rfl) (by kernel_rfl) (by kernel_rfl) (fun _ => by kernel_rfl) (fun _ => by kernel_rfl) Try.underlying26 (by kernel_rfl) (by first | rfl | assumption | simp) (by first | omega | (simp; done) | (simp; omega) | (simp at *; omega))) ?_
            refine takesR [6, 7, 8] [0, 2, 3, 4, 5, 6, 35, 42, 43, 47, 48, 53, 54, 41] 12 [true, true, true, true, true, true, true, true, true, true, true, false, false, false, true, true, false, false, false, false, true, true, false, false, false, false, false] [(0, .slice (some ⟨sb, so, none⟩) s.l.length s.c), (2, .slice none 0 0), (3, .slice A ((outL s.l m).length) cap), (4, .slice (some ⟨b1, 0, none⟩) s.l.length s.l.length), (5, .int .i64 (e : Int)), (6, .int .i64 (v : Int)), (35, .bool false), (42, .slice (some ⟨sb, so, none⟩) s.l.length s.c), (43, .int .i64 (e : Int)), (47, .slice (some ⟨b1, 0, none⟩) s.l.length s.l.length), (48, .int .i64 (e : Int)), (53, .slice (some ⟨sb, so, none⟩) s.l.length s.c), (54, .int .i64 (v : Int)), (41, .int .i64 (IntKind.i64.wrap ((IntKind.i64.wrap (2 * (hadOf s.l m v : Int))) + 1)))] [(⟨b1, 0 + v * 1, none⟩, .int .i64 (hadOf s.l m v : Int))] rfl (fun _ d _ _ _ h => by cases d <;> exact h) (fun _ h => by first | exact h | exact h.tail | exact h.tail.tail | exact h.tail.tail.tail | exact h.tail.tail.tail.tail) (hasC ((rowKRm (E := kE .i64) (T := 3) (A := some ⟨b1, 0, none⟩) (k := s.l.length) (m := s.l.length) (xs := gl) 1 rfl hgl.symm).cell rfl (i := v) (x := (hadOf s.l m v : Int)) (hg v hv) (j := 0) rfl) has0) (fun _ => by kernel_rfl) ?_
            refine takeR1 11 11 [true, true, true, true, true, true, true, true, true, true, true, true, false, false, true, true, false, false, false, false, true, true, false, false, false, false, false] rfl rfl (by kernel_rfl) (fun _ d _ _ _ h => by cases d <;> exact h) (fun _ h => by first | exact h | exact h.tail | exact h.tail.tail | exact h.tail.tail.tail | exact h.tail.tail.tail.tail) (idxY 26 (.tmp 42) (.tmp 43) sb so s.l.length s.c e 1 3 (e : Int) .i64 (some 44) (fun _ => by kernel_rfl) (by kernel_rfl) (by kernel_rfl) (fun _ => by kernel_rfl) (fun _ => by kernel_rfl) Try.underlying26 (by kernel_rfl) (by first | rfl | assumption | simp) (by first | omega | (simp; done) | (simp; omega) | (simp at *; omega))) ?_
            refine takesR [12, 13] [0, 2, 3, 4, 5, 6, 35, 47, 48, 53, 54, 46] 9 [true, true, true, true, true, true, true, true, true, true, true, true, true, true, true, true, false, false, false, false, true, true, false, false, false, false, false] [(0, .slice (some ⟨sb, so, none⟩) s.l.length s.c), (2, .slice none 0 0), (3, .slice A ((outL s.l m).length) cap), (4, .slice (some ⟨b1, 0, none⟩) s.l.length s.l.length), (5, .int .i64 (e : Int)), (6, .int .i64 (v : Int)), (35, .bool false), (47, .slice (some ⟨b1, 0, none⟩) s.l.length s.l.length), (48, .int .i64 (e : Int)), (53, .slice (some ⟨sb, so, none⟩) s.l.length s.c), (54, .int .i64 (v : Int)), (46, .int .i64 (IntKind.i64.wrap ((IntKind.i64.wrap ((IntKind.i64.wrap (2 * (hadOf s.l m v : Int))) + 1)) * z)))] [(⟨sb, so + e * 1, none⟩, .int .i64 z)] rfl (fun _ d _ _ _ h => by cases d <;> exact h) (fun _ h => by first | exact h | exact h.tail | exact h.tail.tail | exact h.tail.tail.tail | exact h.tail.tail.tail.tail) (hasC (up (up (hk.cell hS (i := e) (x := z) hz (j := 0) rfl))) has0) (fun _ => by kernel_rfl) ?_
            refine takeR1 16 8 [true, true, true, true, true, true, true, true, true, true, true, true, true, true, true, true, true, false, false, false, true, true, false, false, false, false, false] rfl rfl (by kernel_rfl) (fun _ d _ _ _ h => by cases d <;> exact h) (fun _ h => by first | exact h | exact h.tail | exact h.tail.tail | exact h.tail.tail.tail | exact h.tail.tail.tail.tail) (idxY 26 (.tmp 47) (.tmp 48) b1 0 s.l.length s.l.length e 1 3 (e : Int) .i64 (some 49) (fun _ => by kernel_rfl) (by kernel_rfl) (by kernel_rfl) (fun _ => by kernel_rfl) (fun _ => by kernel_rfl) Try.underlying26 (by kernel_rfl) (by first | rfl | assumption | simp) (by first | omega | (simp; done) | (simp; omega) | (simp at *; omega))) ?_
            refine takesR [17, 18, 19] [0, 2, 3, 4, 5, 6, 35, 53, 54, 46, 52] 5 [true, true, true, true, true, true, true, true, true, true, true, true, true, true, true, true, true, true, true, true, true, true, false, false, false, false, false] [(0, .slice (some ⟨sb, so, none⟩) s.l.length s.c), (2, .slice none 0 0), (3, .slice A ((outL s.l m).length) cap), (4, .slice (some ⟨b1, 0, none⟩) s.l.length s.l.length), (5, .int .i64 (e : Int)), (6, .int .i64 (v : Int)), (35, .bool false), (53, .slice (some ⟨sb, so, none⟩) s.l.length s.c), (54, .int .i64 (v : Int)), (46, .int .i64 (IntKind.i64.wrap ((IntKind.i64.wrap ((IntKind.i64.wrap (2 * (hadOf s.l m v : Int))) + 1)) * z))), (52, .int .i64 (IntKind.i64.wrap ((IntKind.i64.wrap (2 * (hadOf s.l m e : Int))) + 1)))] [(⟨b1, 0 + e * 1, none⟩, .int .i64 (hadOf s.l m e : Int))] rfl (fun _ d _ _ _ h => by cases d <;> exact h) (fun _ h => by first | exact h | exact h.tail | exact h.tail.tail | exact h.tail.tail.tail | exact h.tail.tail.tail.tail) (hasC ((rowKRm (E := kE .i64) (T := 3) (A := some ⟨b1, 0, none⟩) (k := s.l.length) (m := s.l.length) (xs := gl) 1 rfl hgl.symm).cell rfl (i := e) (x := (hadOf s.l m e : Int)) (hg e hel) (j := 0) rfl) has0) (fun _ => by kernel_rfl) ?_
            refine takeR1 22 4 [true, true, true, true, true, true, true, true, true, true, true, true, true, true, true, true, true, true, true, true, true, true, true, false, false, false, false] rfl rfl (by kernel_rfl) (fun _ d _ _ _ h => by cases d <;> exact h) (fun _ h => by first | exact h | exact h.tail | exact h.tail.tail | exact h.tail.tail.tail | exact h.tail.tail.tail.tail) (idxY 26 (.tmp 53) (.tmp 54) sb so s.l.length s.c v 1 3 (v : Int) .i64 (some 55) (fun _ => by kernel_rfl) (by kernel_rfl) (by kernel_rfl) (fun _ => by kernel_rfl) (fun _ => by kernel_rfl) Try.underlying26 (by kernel_rfl) (by first | rfl | assumption | simp) (by first | omega | (simp; done) | (simp; omega) | (simp at *; omega))) ?_
            refine takesR [23, 24, 25, 26] [0, 2, 3, 4, 5, 6, 59] 0 [true, true, true, true, true, true, true, true, true, true, true, true, true, true, true, true, true, true, true, true, true, true, true, true, true, true, true] [(0, .slice (some ⟨sb, so, none⟩) s.l.length s.c), (2, .slice none 0 0), (3, .slice A ((outL s.l m).length) cap), (4, .slice (some ⟨b1, 0, none⟩) s.l.length s.l.length), (5, .int .i64 (e : Int)), (6, .int .i64 (v : Int)), (59, .bool (decide ((IntKind.i64.wrap ((IntKind.i64.wrap ((IntKind.i64.wrap (2 * (hadOf s.l m v : Int))) + 1)) * z)) < (IntKind.i64.wrap ((IntKind.i64.wrap ((IntKind.i64.wrap (2 * (hadOf s.l m e : Int))) + 1)) * y)))))] [(⟨sb, so + v * 1, none⟩, .int .i64 y)] rfl (fun _ d _ _ _ h => by cases d <;> exact h) (fun _ h => by first | exact h | exact h.tail | exact h.tail.tail | exact h.tail.tail.tail | exact h.tail.tail.tail.tail) (hasC (up (up (hk.cell hS (i := v) (x := y) hy (j := 0) rfl))) has0) (fun _ => by kernel_rfl) ?_
            refine drawnR (by kernel_rfl) ?_
            refine condR (b := decide ((IntKind.i64.wrap ((IntKind.i64.wrap ((IntKind.i64.wrap (2 * (hadOf s.l m v : Int))) + 1)) * z)) < (IntKind.i64.wrap ((IntKind.i64.wrap ((IntKind.i64.wrap (2 * (hadOf s.l m e : Int))) + 1)) * y)))) (by kernel_rfl) (fun _ => by kernel_rfl) (fun h4 => ?_) (fun h4 => ?_)
            · skip
              have h4' := of_decide_eq_true h4
              rw [hq1, hq2] at h4'
              refine regionR 2 (by kernel_rfl) (by kernel_rfl) ?_
              refine (run0 (z := 0) 2 [0, 2, 3, 4, 5, 6] [(0, .slice (some ⟨sb, so, none⟩) s.l.length s.c), (2, .slice none 0 0), (3, .slice A ((outL s.l m).length) cap), (4, .slice (some ⟨b1, 0, none⟩) s.l.length s.l.length), (5, .int .i64 (v : Int)), (6, .int .i64 (v : Int))] (fun _ => by kernel_rfl) (endR ?_) : RT _ _ _ _ _ _ 2 _)
              refine regionR 3 (by kernel_rfl) (by kernel_rfl) ?_
              refine (run0 (z := 0) 3 [0, 2, 3, 4, 5, 6] [(0, .slice (some ⟨sb, so, none⟩) s.l.length s.c), (2, .slice none 0 0), (3, .slice A ((outL s.l m).length) cap), (4, .slice (some ⟨b1, 0, none⟩) s.l.length s.l.length), (5, .int .i64 (v : Int)), (6, .int .i64 (IntKind.i64.wrap ((v : Int) + 1)))] (fun _ => by kernel_rfl) (endR ?_) : RT _ _ _ _ _ _ 3 _)
              try rw [← hS]
              refine PT.keep (L' := [(0, .slice s.a s.l.length s.c), (2, .slice none 0 0), (3, .slice A ((outL s.l m).length) cap), (4, .slice (some ⟨b1, 0, none⟩) s.l.length s.l.length), (5, .int .i64 (v : Int)), (6, .int .i64 (IntKind.i64.wrap ((v : Int) + 1)))]) [0, 2, 3, 4, 5, 6] rfl ?_
              exact againG (k2 - 1) ((v : Int), v + 1) (by rw [hw]) rfl (by omega) ⟨by simp only; omega, best_take hbest hlt (by omega)⟩
            · skip
              have h4' := of_decide_eq_false h4
              rw [hq1, hq2] at h4'
              refine skipR (by kernel_rfl) ?_
              refine regionR 3 (by kernel_rfl) (by kernel_rfl) ?_
              refine (run0 (z := 0) 3 [0, 2, 3, 4, 5, 6] [(0, .slice (some ⟨sb, so, none⟩) s.l.length s.c), (2, .slice none 0 0), (3, .slice A ((outL s.l m).length) cap), (4, .slice (some ⟨b1, 0, none⟩) s.l.length s.l.length), (5, .int .i64 (e : Int)), (6, .int .i64 (IntKind.i64.wrap ((v : Int) + 1)))] (fun _ => by kernel_rfl) (endR ?_) : RT _ _ _ _ _ _ 3 _)
              try rw [← hS]
              refine PT.keep (L' := [(0, .slice s.a s.l.length s.c), (2, .slice none 0 0), (3, .slice A ((outL s.l m).length) cap), (4, .slice (some ⟨b1, 0, none⟩) s.l.length s.l.length), (5, .int .i64 (e : Int)), (6, .int .i64 (IntKind.i64.wrap ((v : Int) + 1)))]) [0, 2, 3, 4, 5, 6] rfl ?_
              exact againG (k2 - 1) ((e : Int), v + 1) (by rw [hw]) rfl (by omega) ⟨by simp only; omega, best_leave hbest (by omega)⟩
      · skip
        have hv : v = s.l.length := by have := of_decide_eq_false h2; omega
        rw [hv] at hbest
        have hbi := best_is hml hbest
        obtain ⟨n1, n2, n3, n4⟩ := next_is hml
        obtain ⟨e, he⟩ : ∃ e, e = (qsort s.l)[m].2 := ⟨_, rfl⟩
        rw [← he] at hbi n1
        subst hbi
        have hge := hgb e n1
        have hwe : IntKind.i64.wrap ((hadOf s.l m e : Int) + 1) = (hadOf s.l m e : Int) + 1 := by rw [IntKind.wrap_i64]; omega
        have hout : outL s.l m ++ [(e : Int)] = outL s.l (m + 1) := by rw [he, outL, outL, List.take_add_one, List.getElem?_eq_getElem hml, List.map_append]; rfl
        refine exitR 2 (by kernel_rfl) (by kernel_rfl) ?_
        refine thenX ?_
        refine thenX ?_
        refine leaveR ?_
        refine seqR (by kernel_rfl) ?_
        refine regionR 9 (by kernel_rfl) (by kernel_rfl) ?_
        refine (run0 (z := 5) 4 [0, 2, 3, 4, 5, 61, 62, 63, 64] [(0, .slice s.a s.l.length s.c), (2, .slice none 0 0), (3, .slice A ((outL s.l m).length) cap), (4, .slice (some ⟨b1, 0, none⟩) s.l.length s.l.length), (5, .int .i64 (e : Int)), (61, .slice (some ⟨b1, 0, none⟩) s.l.length s.l.length), (62, .int .i64 (e : Int)), (63, .slice (some ⟨b1, 0, none⟩) s.l.length s.l.length), (64, .int .i64 (e : Int))] (fun _ => by kernel_rfl) ?_ : RT _ _ _ _ _ _ 9 _)
        refine (stepR (z := 4) (yldS (idxY 26 (.tmp 63) (.tmp 64) b1 0 s.l.length s.l.length e 1 3 (e : Int) .i64 (some 65) (fun _ => by kernel_rfl) (by kernel_rfl) (by kernel_rfl) (fun _ => by kernel_rfl) (fun _ => by kernel_rfl) Try.underlying26 (by kernel_rfl) (by first | rfl | assumption | simp) (by first | omega | (simp; done) | (simp; omega) | (simp at *; omega)))) (fun _ => ?_) : RT _ _ _ _ _ _ 5 _)
        refine (runR (H := (row (kE .i64) 3 (.slice A (outL s.l m).length cap) (outL s.l m) :: row (kE .i64) 3 (.slice (some ⟨b1, 0, none⟩) s.l.length s.l.length) gl :: H)) (z := 2) 2 [0, 2, 3, 4, 5, 61, 62, 67] [(0, .slice s.a s.l.length s.c), (2, .slice none 0 0), (3, .slice A ((outL s.l m).length) cap), (4, .slice (some ⟨b1, 0, none⟩) s.l.length s.l.length), (5, .int .i64 (e : Int)), (61, .slice (some ⟨b1, 0, none⟩) s.l.length s.l.length), (62, .int .i64 (e : Int)), (67, .int .i64 (IntKind.i64.wrap ((hadOf s.l m e : Int) + 1)))] [(⟨b1, 0 + e * 1, none⟩, .int .i64 (hadOf s.l m e : Int))] (hasC ((rowKRm (E := kE .i64) (T := 3) (A := some ⟨b1, 0, none⟩) (k := s.l.length) (m := s.l.length) (xs := gl) 1 rfl hgl.symm).cell rfl (i := e) (x := (hadOf s.l m e : Int)) (hg e n1) (j := 0) rfl) has0) (fun _ => by kernel_rfl) ?_ : RT _ _ _ _ _ _ 4 _)
        refine (stepR (z := 1) (yldS (idxY 26 (.tmp 61) (.tmp 62) b1 0 s.l.length s.l.length e 1 3 (e : Int) .i64 (some 68) (fun _ => by kernel_rfl) (by kernel_rfl) (by kernel_rfl) (fun _ => by kernel_rfl) (fun _ => by kernel_rfl) Try.underlying26 (by kernel_rfl) (by first | rfl | assumption | simp) (by first | omega | (simp; done) | (simp; omega) | (simp at *; omega)))) (fun _ => ?_) : RT _ _ _ _ _ _ 2 _)
        rw [hwe]
        refine RT.pick 1 rfl ?_
        refine (stepR (z := 0) (setS (E := (kE .i64)) (J := e) (j := 0) (hadOf s.l m e : Int) ((hadOf s.l m e : Int) + 1) (.int .i64 ((hadOf s.l m e : Int) + 1)) ⟨b1, 0 + e * 1, none⟩ (fun _ => by kernel_rfl) (by first | rfl | simp) ((hg e n1)) (rfl) (by decide)) (fun _ => ?_) : RT _ _ _ (row (kE .i64) 3 (.slice (some ⟨b1, 0, none⟩) s.l.length s.l.length) gl :: row (kE .i64) 3 (.slice A (outL s.l m).length cap) (outL s.l m) :: H) _ _ 1 _)
        refine endR ?_
        refine regionR 5 (by kernel_rfl) (by kernel_rfl) ?_
        refine (run0 (z := 3) 2 [0, 2, 3, 4, 69, 70] [(0, .slice s.a s.l.length s.c), (2, .slice none 0 0), (3, .slice A ((outL s.l m).length) cap), (4, .slice (some ⟨b1, 0, none⟩) s.l.length s.l.length), (69, .slice A ((outL s.l m).length) cap), (70, .int .i64 (e : Int))] (fun _ => by kernel_rfl) ?_ : RT _ _ _ _ _ _ 5 _)
        refine (stepR (z := 2) (newS 3 [.int .i64 (e : Int)] (some 71) (fun b => .slice (some ⟨b, 0, none⟩) 1 1) (fun _ _ => by kernel_rfl)) (fun b2 => ?_) : RT _ _ _ _ _ _ 3 _)
        refine RT.pick 2 rfl ?_
        refine (stepR (z := 1) (appS (E := (kE .i64)) 26 (.tmp 69) (.tmp 71) A cap (outL s.l m) [(e : Int)] (.slice (some ⟨b2, 0, none⟩) 1 1) (some 72) (fun _ => by kernel_rfl) (by kernel_rfl) (by kernel_rfl) (fun _ => by kernel_rfl) (fun _ => by kernel_rfl) Try.underlying26 (kE_ety) (blkRd 1 rfl) (by rw [hol]; simp only [List.length_cons, List.length_nil]; omega)) (fun r3 => ?_) : RT _ _ _ (row (kE .i64) 3 (.slice A (outL s.l m).length cap) (outL s.l m) :: blk b2 3 [.int .i64 (e : Int)] :: row (kE .i64) 3 (.slice (some ⟨b1, 0, none⟩) s.l.length s.l.length) (gl.set e ((hadOf s.l m e : Int) + 1)) :: H) _ _ 2 _)
        refine (run0 (z := 0) 1 [0, 2, 3, 4] [(0, .slice s.a s.l.length s.c), (2, .slice none 0 0), (3, .slice r3.1 (((outL s.l m) ++ [(e : Int)]).length) r3.2), (4, .slice (some ⟨b1, 0, none⟩) s.l.length s.l.length)] (fun _ => by kernel_rfl) (endR ?_) : RT _ _ _ _ _ _ 1 _)
        rw [hout]
        refine PT.pick 1 rfl ?_
        refine PT.drop ?_
        refine PT.keep (L' := [(0, .slice s.a s.l.length s.c), (2, .slice none 0 0), (3, .slice r3.1 ((outL s.l (m + 1)).length) r3.2), (4, .slice (some ⟨b1, 0, none⟩) s.l.length s.l.length)]) [0, 2, 3, 4] rfl ?_
        exact againG (k - 1) (r3, gl.set e ((hadOf s.l m e : Int) + 1), m + 1) rfl rfl (by omega) ⟨by simp only; omega, by simp only [List.length_set]; exact hgl, fun d hd => by
          simp only
          rw [List.getElem?_set, hadOf_step hml, ← he]
          by_cases c : e = d
          · subst c; rw [if_pos rfl, if_pos (by omega), if_pos rfl]; simp
          · rw [if_neg c, if_neg c, hg d hd]; simp⟩
    · skip
      have hml : m = (qsort s.l).length := by have := of_decide_eq_false h1; rw [hol, hws] at this; omega
      have hfin : outL s.l m = slotsOf s.l := by rw [outL, hml, List.take_length, slotsOf, if_neg hs0]
      refine exitR 0 (by kernel_rfl) (by kernel_rfl) ?_
      refine thenX ?_
      refine thenX ?_
      refine leaveR ?_
      refine seqR (by kernel_rfl) ?_
      refine regionR 2 (by kernel_rfl) (by kernel_rfl) ?_
      refine (run0 (z := 0) 2 [2] [(2, .slice A ((outL s.l m).length) cap)] (fun _ => by kernel_rfl) (endR ?_) : RT _ _ _ _ _ _ 2 _)
      refine retR (by kernel_rfl) ?_
      rw [hfin]
      refine done0 (.slice A (((slotsOf s.l)).length) cap) (fun _ => by kernel_rfl) (fun w hs => ?_) .ret (.inr rfl)
      exact ⟨(A, cap), rfl, (hs.pick 1 rfl).tail⟩
  | false =>
    have h0 : slotsOf s.l = [] := by rw [mayCounts_eq] at hm; exact slots_none (by simpa using hm)
    refine condR (b := true) (by kernel_rfl) (fun _ => by kernel_rfl) (fun _ => ?_) (fun h => by cases h)
    refine seqR (by kernel_rfl) ?_
    refine regionR 1 (by kernel_rfl) (by kernel_rfl) ?_
    refine (run0 (z := 0) 1 [0, 2] [(0, .slice s.a s.l.length s.c), (2, .slice none 0 0)] (fun _ => by kernel_rfl) (endR ?_) : RT _ _ _ _ _ _ 1 _)
    refine retR (by kernel_rfl) ?_
    refine thenV ?_
    refine PT.rowNil (kE .i64) 3 ?_
    refine done0 (.slice none 0 0) (fun _ => by kernel_rfl) (fun w hs => ?_) .ret (.inr rfl)
    rw [h0]; exact ⟨(none, 0), rfl, hs⟩
end Go.Proofs.Ytjjbnmlhbbnhcaa
