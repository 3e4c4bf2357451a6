/- passq: the search for a place; insert. Conditions: none. -/
import Derived.Test.YtjbjngikaiggdaaGreatPq2
set_option linter.unusedVariables false
set_option linter.unusedSimpArgs false
namespace Go.Proofs.YtjbjngikaiggdaaGreat
open Go.RowKit G
def eLt (a b : Int × Int) : Prop := a.1 < b.1 ∨ a.1 = b.1 ∧ a.2 < b.2
instance (a b : Int × Int) : Decidable (eLt a b) := by unfold eLt; infer_instance
theorem byI_lt (a b : Int × Int) : byI a b < 0 ↔ eLt a b := by
  unfold byI orI cmpI eLt
  by_cases h1 : a.1 < b.1
  · simp [h1]
  · by_cases h2 : a.1 > b.1
    · simp [h1, h2]; omega
    · have h3 : a.1 = b.1 := by omega
      by_cases h4 : a.2 < b.2
      · simp [h3, h4]
      · by_cases h5 : a.2 > b.2 <;> simp [h3, h4, h5]
theorem eLt_trans {a b c : Int × Int} (h : eLt a b) (g : eLt b c) : eLt a c := by unfold eLt at *; omega
theorem eLt_irrefl (a : Int × Int) : ¬ eLt a a := by unfold eLt; omega
theorem eLt_total {a b : Int × Int} (h : ¬ eLt a b) : a = b ∨ eLt b a := by
  unfold eLt at *
  by_cases h1 : a.1 = b.1
  · by_cases h2 : a.2 = b.2
    · exact .inl (Prod.ext h1 h2)
    · exact .inr (by omega)
  · exact .inr (by omega)
def SrtE (l : List (Int × Int)) : Prop := l.Pairwise eLt
theorem SrtE.at {l : List (Int × Int)} (h : SrtE l) {u v : Nat} {x y : Int × Int} (hu : l[u]? = some x) (hv : l[v]? = some y) (huv : u < v) : eLt x y := by
  obtain ⟨hu1, rfl⟩ := List.getElem?_eq_some_iff.1 hu
  obtain ⟨hv1, rfl⟩ := List.getElem?_eq_some_iff.1 hv
  exact List.pairwise_iff_getElem.1 h u v hu1 hv1 huv
/-- Where an entry belongs. -/
def CutE (l : List (Int × Int)) (e : Int × Int) (i : Nat) : Prop := i ≤ l.length ∧ (∀ v x, v < i → l[v]? = some x → eLt x e) ∧ ∀ v x, i ≤ v → l[v]? = some x → ¬ eLt x e
theorem half_of {i j : Nat} (h : i < 1000000) (h2 : j < 1000000) : IntKind.i64.wrap (Int.fdiv (IntKind.u64.wrap (IntKind.i64.wrap ((i : Int) + (j : Int)))) 2) = (((i + j) / 2 : Nat) : Int) := by
  have h3 : IntKind.i64.wrap ((i : Int) + (j : Int)) = ((i + j : Nat) : Int) := by rw [IntKind.wrap_i64]; omega
  have h4 : IntKind.u64.wrap ((i + j : Nat) : Int) = ((i + j : Nat) : Int) := by rw [IntKind.wrap_u64]; omega
  rw [h3, h4, Int.fdiv_eq_ediv_of_nonneg _ (by omega), IntKind.wrap_i64]
  omega
set_option maxHeartbeats 1000000 in
set_option maxRecDepth 100000 in
theorem bs_walk (H : List SP) (s : SV (Int × Int)) (p i : Int) (hk : KR H slE s) (hsr : SrtE s.l) (hl : s.l.length < 1000000) : ∀ w, Sat w H → Calls Tryz.prog 53 #[.slice s.a s.l.length s.c, .agg #[.int .i64 p, .int .i64 i], .func (.func 49) #[] #[]] w (Ret (ι := {x : Nat × Bool // CutE s.l (p, i) x.1}) (fun x => .tuple #[.int .i64 (x.1.1 : Int), .bool x.1.2]) fun _ => H) := by
  refine enterG (fn := Tryz.f53) 49 [.slice s.a s.l.length s.c, .agg #[.int .i64 p, .int .i64 i], .func (.func 49) #[] #[]] Tryz.func53 (by kernel_rfl) (by kernel_rfl) (by kernel_rfl) ?_
  refine seqR (by kernel_rfl) ?_
  refine regionR 3 (by kernel_rfl) (by kernel_rfl) ?_
  refine (stepR (z := 2) (newS 65 [.int .i64 p, .int .i64 i] (some 4) (fun b => .pointer (some ⟨b, 0, none⟩)) (fun _ _ => by kernel_rfl)) (fun b1 => ?_) : RT _ _ _ _ _ _ 3 _)
  refine (run0 (z := 0) 2 [4, 0, 2, 6, 7] [(4, .pointer (some ⟨b1, 0, none⟩)), (0, .slice s.a s.l.length s.c), (2, .func (.func 49) #[] #[]), (6, .int .i64 0), (7, .bool false)] (fun _ => by kernel_rfl) (endR ?_) : RT _ _ _ _ _ _ 2 _)
  refine seqR (by kernel_rfl) ?_
  refine regionR 3 (by kernel_rfl) (by kernel_rfl) ?_
  refine (run0 (z := 0) 3 [4, 0, 2, 6, 7, 8] [(4, .pointer (some ⟨b1, 0, none⟩)), (0, .slice s.a s.l.length s.c), (2, .func (.func 49) #[] #[]), (6, .int .i64 0), (7, .bool false), (8, .int .i64 (s.l.length : Int))] (fun _ => by kernel_rfl) (endR ?_) : RT _ _ _ _ _ _ 3 _)
  refine seqR (by kernel_rfl) ?_
  refine regionR 3 (by kernel_rfl) (by kernel_rfl) ?_
  refine (run0 (z := 0) 3 [4, 0, 2, 6, 7, 8, 9, 10] [(4, .pointer (some ⟨b1, 0, none⟩)), (0, .slice s.a s.l.length s.c), (2, .func (.func 49) #[] #[]), (6, .int .i64 0), (7, .bool false), (8, .int .i64 (s.l.length : Int)), (9, .int .i64 0), (10, .int .i64 (s.l.length : Int))] (fun _ => by kernel_rfl) (endR ?_) : RT _ _ _ _ _ _ 3 _)
  refine seqR (by kernel_rfl) ?_
  refine blockR 0 (by kernel_rfl) (by kernel_rfl) ?_
  refine PT.keep (L' := [(0, .slice s.a s.l.length s.c), (2, .func (.func 49) #[] #[]), (4, .pointer (some ⟨b1, 0, none⟩)), (6, .int .i64 0), (7, .bool false), (8, .int .i64 (s.l.length : Int)), (9, .int .i64 0), (10, .int .i64 (s.l.length : Int))]) [0, 2, 4, 6, 7, 8, 9, 10] rfl ?_
  refine loopG (fun (x : Nat × Nat) => [(0, .slice s.a s.l.length s.c), (2, .func (.func 49) #[] #[]), (4, .pointer (some ⟨b1, 0, none⟩)), (6, .int .i64 0), (7, .bool false), (8, .int .i64 (s.l.length : Int)), (9, .int .i64 (x.1 : Int)), (10, .int .i64 (x.2 : Int))]) (fun (x : Nat × Nat) => (blk b1 65 [.int .i64 p, .int .i64 i] :: H)) (fun k (x : Nat × Nat) => k = x.2 - x.1 ∧ x.1 ≤ x.2 ∧ x.2 ≤ s.l.length ∧ (∀ v y, v < x.1 → s.l[v]? = some y → eLt y (p, i)) ∧ (∀ v y, x.2 ≤ v → s.l[v]? = some y → ¬ eLt y (p, i))) s.l.length (0, s.l.length) (by kernel_rfl) ⟨by simp, by simp, by simp, fun v y hv => by simp at hv, fun v y hv hy => by have := (List.getElem?_eq_some_iff.1 hy).1; simp at hv; omega⟩ ?_
  rintro k ⟨a, z⟩ ⟨hk1, haz, hzl, hlo, hhi⟩
  dsimp only at hk1 haz hzl hlo hhi ⊢
  refine seqR (by kernel_rfl) ?_
  refine seqR (by kernel_rfl) ?_
  refine regionR 3 (by kernel_rfl) (by kernel_rfl) ?_
  refine (run0 (z := 0) 3 [0, 2, 4, 6, 7, 8, 9, 10, 17] [(0, .slice s.a s.l.length s.c), (2, .func (.func 49) #[] #[]), (4, .pointer (some ⟨b1, 0, none⟩)), (6, .int .i64 0), (7, .bool false), (8, .int .i64 (s.l.length : Int)), (9, .int .i64 (a : Int)), (10, .int .i64 (z : Int)), (17, .bool (decide ((a : Int) < (z : Int))))] (fun _ => by kernel_rfl) (endR ?_) : RT _ _ _ _ _ _ 3 _)
  refine condR (b := decide ((a : Int) < (z : Int))) (by kernel_rfl) (fun _ => by kernel_rfl) (fun h1 => ?_) (fun h1 => ?_)
  · skip
    have h1' : a < z := by have := of_decide_eq_true h1; omega
    refine skipR (by kernel_rfl) ?_
    refine blockR 1 (by kernel_rfl) (by kernel_rfl) ?_
    refine seqR (by kernel_rfl) ?_
    refine regionR 7 (by kernel_rfl) (by kernel_rfl) ?_
    refine (run0 (z := 0) 7 [0, 2, 4, 6, 7, 8, 9, 10, 11] [(0, .slice s.a s.l.length s.c), (2, .func (.func 49) #[] #[]), (4, .pointer (some ⟨b1, 0, none⟩)), (6, .int .i64 0), (7, .bool false), (8, .int .i64 (s.l.length : Int)), (9, .int .i64 (a : Int)), (10, .int .i64 (z : Int)), (11, .int .i64 (IntKind.i64.wrap (Int.fdiv (IntKind.u64.wrap (IntKind.i64.wrap ((a : Int) + (z : Int)))) 2)))] (fun _ => by kernel_rfl) (endR ?_) : RT _ _ _ _ _ _ 7 _)
    refine seqR (by kernel_rfl) ?_
    refine drawR (fun w => Sat w (blk b1 65 [.int .i64 p, .int .i64 i] :: H)) [] 8 (by kernel_rfl) (by kernel_rfl) (by kernel_rfl) (fun _ h => by first | exact h | exact h.tail | exact h.tail.tail | exact h.tail.tail.tail | exact h.tail.tail.tail.tail) ?_
    refine takesR [0, 1, 2, 5] [0, 2, 4, 6, 7, 8, 9, 10, 11, 24, 25, 26, 29] 4 [true, true, true, false, false, true, false, false] [(0, .slice s.a s.l.length s.c), (2, .func (.func 49) #[] #[]), (4, .pointer (some ⟨b1, 0, none⟩)), (6, .int .i64 0), (7, .bool false), (8, .int .i64 (s.l.length : Int)), (9, .int .i64 (a : Int)), (10, .int .i64 (z : Int)), (11, .int .i64 (IntKind.i64.wrap (Int.fdiv (IntKind.u64.wrap (IntKind.i64.wrap ((a : Int) + (z : Int)))) 2))), (24, .func (.func 49) #[] #[]), (25, .slice s.a s.l.length s.c), (26, .int .i64 (IntKind.i64.wrap (Int.fdiv (IntKind.u64.wrap (IntKind.i64.wrap ((a : Int) + (z : Int)))) 2))), (29, .agg #[.int .i64 p, .int .i64 i])] [(⟨b1, 0, none⟩, .int .i64 p), (⟨b1, 1, none⟩, .int .i64 i)] rfl (fun _ d _ _ _ h => by cases d <;> exact h) (fun _ h => by first | exact h | exact h.tail | exact h.tail.tail | exact h.tail.tail.tail | exact h.tail.tail.tail.tail) (hasC (blkAt (T := 65) (cs := [.int .i64 p, .int .i64 i]) 0 rfl rfl) (hasC (blkAt (T := 65) (cs := [.int .i64 p, .int .i64 i]) 0 rfl rfl) has0)) (fun _ => by kernel_rfl) ?_
    rw [half_of (by omega) (by omega)]
    obtain ⟨h, hh⟩ : ∃ h, h = (a + z) / 2 := ⟨_, rfl⟩
    rw [← hh]
    have hhl : h < s.l.length := by omega
    obtain ⟨y, hy⟩ : ∃ y, s.l[h]? = some y := ⟨_, by simp [hhl]; rfl⟩
    refine PT.know ((hk).up.isSome (List.ne_nil_of_length_pos (by omega))) ?_
    rintro ⟨sb, so, hA⟩
    try rw [hA]
    refine takeR1 3 3 [true, true, true, true, false, true, false, false] rfl rfl (by kernel_rfl) (fun _ d _ _ _ h => by cases d <;> exact h) (fun _ h => by first | exact h | exact h.tail | exact h.tail.tail | exact h.tail.tail.tail | exact h.tail.tail.tail.tail) (idxY 79 (.tmp 25) (.tmp 26) sb so s.l.length s.c h 2 65 (h : Int) .i64 (some 27) (fun _ => by kernel_rfl) (by kernel_rfl) (by kernel_rfl) (fun _ => by kernel_rfl) (fun _ => by kernel_rfl) Tryz.underlying79 (by kernel_rfl) (by first | rfl | assumption | simp) (by first | omega | (simp; done) | (simp; omega) | (simp at *; omega))) ?_
    refine takesR [4] [0, 2, 4, 6, 7, 8, 9, 10, 11, 24, 29, 28] 2 [true, true, true, true, true, true, false, false] [(0, .slice (some ⟨sb, so, none⟩) s.l.length s.c), (2, .func (.func 49) #[] #[]), (4, .pointer (some ⟨b1, 0, none⟩)), (6, .int .i64 0), (7, .bool false), (8, .int .i64 (s.l.length : Int)), (9, .int .i64 (a : Int)), (10, .int .i64 (z : Int)), (11, .int .i64 (h : Int)), (24, .func (.func 49) #[] #[]), (29, .agg #[.int .i64 p, .int .i64 i]), (28, .agg #[.int .i64 y.1, .int .i64 y.2])] [(⟨sb, so + h * 2, none⟩, .int .i64 y.1), (⟨sb, so + h * 2 + 1, none⟩, .int .i64 y.2)] rfl (fun _ d _ _ _ h => by cases d <;> exact h) (fun _ h => by first | exact h | exact h.tail | exact h.tail.tail | exact h.tail.tail.tail | exact h.tail.tail.tail.tail) (hasC (up (hk.cell hA (i := h) (x := y) hy (j := 0) rfl)) (hasC (up (hk.cell hA (i := h) (x := y) hy (j := 1) rfl)) has0)) (fun _ => by kernel_rfl) ?_
    refine oneR 6 1 [true, true, true, true, true, true, true, false] rfl rfl (by kernel_rfl) (callS 49 [.agg #[.int .i64 y.1, .int .i64 y.2], .agg #[.int .i64 p, .int .i64 i]] (some 30) (fun _ => .int .i64 (byI (y.1, y.2) (p, i))) (fun (_ : Unit) => (blk b1 65 [.int .i64 p, .int .i64 i] :: H)) (fun _ => by kernel_rfl) (by_walk _ y.1 y.2 p i)) (fun _ _ h hn => by first | exact h | exact h.tail | exact h.tail.tail | exact h.tail.tail.tail | exact h.tail.tail.tail.tail | exact absurd hn (by decide)) (fun _ => ?_)
    refine takesR [7] [0, 2, 4, 6, 7, 8, 9, 10, 11, 31] 0 [true, true, true, true, true, true, true, true] [(0, .slice (some ⟨sb, so, none⟩) s.l.length s.c), (2, .func (.func 49) #[] #[]), (4, .pointer (some ⟨b1, 0, none⟩)), (6, .int .i64 0), (7, .bool false), (8, .int .i64 (s.l.length : Int)), (9, .int .i64 (a : Int)), (10, .int .i64 (z : Int)), (11, .int .i64 (h : Int)), (31, .bool (decide ((byI (y.1, y.2) (p, i)) < 0)))] [] rfl (fun _ d _ _ _ h => by cases d <;> exact h) (fun _ h => by first | exact h | exact h.tail | exact h.tail.tail | exact h.tail.tail.tail | exact h.tail.tail.tail.tail) has0 (fun _ => by kernel_rfl) ?_
    refine drawnR (by kernel_rfl) ?_
    try rw [← hA]
    refine condR (b := decide ((byI (y.1, y.2) (p, i)) < 0)) (by kernel_rfl) (fun _ => by kernel_rfl) (fun h2 => ?_) (fun h2 => ?_)
    · skip
      have h2' : eLt y (p, i) := (byI_lt y (p, i)).1 (of_decide_eq_true h2)
      have hw : IntKind.i64.wrap ((h : Int) + 1) = ((h + 1 : Nat) : Int) := by rw [IntKind.wrap_i64]; omega
      have hlo2 : ∀ v y', v < h + 1 → s.l[v]? = some y' → eLt y' (p, i) := by
        intro v y' hv hy'
        by_cases c : v = h
        · subst c; rw [hy] at hy'; cases hy'; exact h2'
        · exact eLt_trans (hsr.at hy' hy (by omega)) h2'
      refine regionR 3 (by kernel_rfl) (by kernel_rfl) ?_
      refine (run0 (z := 0) 3 [0, 2, 4, 6, 7, 8, 9, 10] [(0, .slice s.a s.l.length s.c), (2, .func (.func 49) #[] #[]), (4, .pointer (some ⟨b1, 0, none⟩)), (6, .int .i64 0), (7, .bool false), (8, .int .i64 (s.l.length : Int)), (9, .int .i64 (IntKind.i64.wrap ((h : Int) + 1))), (10, .int .i64 (z : Int))] (fun _ => by kernel_rfl) (endR ?_) : RT _ _ _ _ _ _ 3 _)
      refine PT.keep (L' := [(0, .slice s.a s.l.length s.c), (2, .func (.func 49) #[] #[]), (4, .pointer (some ⟨b1, 0, none⟩)), (6, .int .i64 0), (7, .bool false), (8, .int .i64 (s.l.length : Int)), (9, .int .i64 (IntKind.i64.wrap ((h : Int) + 1))), (10, .int .i64 (z : Int))]) [0, 2, 4, 6, 7, 8, 9, 10] rfl ?_
      exact againG (z - (h + 1)) (h + 1, z) (by rw [hw]) rfl (by omega) ⟨rfl, by simp only; omega, hzl, hlo2, hhi⟩
    · skip
      have h2' : ¬ eLt y (p, i) := fun h => of_decide_eq_false h2 ((byI_lt y (p, i)).2 h)
      have hhi2 : ∀ v y', h ≤ v → s.l[v]? = some y' → ¬ eLt y' (p, i) := by
        intro v y' hv hy'
        by_cases c : v = h
        · subst c; rw [hy] at hy'; cases hy'; exact h2'
        · exact fun h3 => h2' (eLt_trans (hsr.at hy hy' (by omega)) h3)
      refine regionR 2 (by kernel_rfl) (by kernel_rfl) ?_
      refine (run0 (z := 0) 2 [0, 2, 4, 6, 7, 8, 9, 10] [(0, .slice s.a s.l.length s.c), (2, .func (.func 49) #[] #[]), (4, .pointer (some ⟨b1, 0, none⟩)), (6, .int .i64 0), (7, .bool false), (8, .int .i64 (s.l.length : Int)), (9, .int .i64 (a : Int)), (10, .int .i64 (h : Int))] (fun _ => by kernel_rfl) (endR ?_) : RT _ _ _ _ _ _ 2 _)
      refine PT.keep (L' := [(0, .slice s.a s.l.length s.c), (2, .func (.func 49) #[] #[]), (4, .pointer (some ⟨b1, 0, none⟩)), (6, .int .i64 0), (7, .bool false), (8, .int .i64 (s.l.length : Int)), (9, .int .i64 (a : Int)), (10, .int .i64 (h : Int))]) [0, 2, 4, 6, 7, 8, 9, 10] rfl ?_
      exact againG (h - a) (a, h) rfl rfl (by omega) ⟨rfl, by simp only; omega, by simp only; omega, hlo, hhi2⟩
  · skip
    have h1' : a = z := by have := of_decide_eq_false h1; omega
    subst h1'
    refine exitR 0 (by kernel_rfl) (by kernel_rfl) ?_
    refine thenX ?_
    refine thenX ?_
    refine leaveR ?_
    refine seqR (by kernel_rfl) ?_
    refine drawR (fun w => Sat w (blk b1 65 [.int .i64 p, .int .i64 i] :: H)) [] 16 (by kernel_rfl) (by kernel_rfl) (by kernel_rfl) (fun _ h => by first | exact h | exact h.tail | exact h.tail.tail | exact h.tail.tail.tail | exact h.tail.tail.tail.tail) ?_
    refine takesR [0, 1, 2, 3, 4] [0, 2, 4, 6, 7, 9, 35, 39] 11 [true, true, true, true, true, false, false, false, false, false, false, false, false, false, false, false] [(0, .slice s.a s.l.length s.c), (2, .func (.func 49) #[] #[]), (4, .pointer (some ⟨b1, 0, none⟩)), (6, .int .i64 0), (7, .bool false), (9, .int .i64 (a : Int)), (35, .int .i64 (a : Int)), (39, .bool (decide ((a : Int) < (s.l.length : Int))))] [] rfl (fun _ d _ _ _ h => by cases d <;> exact h) (fun _ h => by first | exact h | exact h.tail | exact h.tail.tail | exact h.tail.tail.tail | exact h.tail.tail.tail.tail) has0 (fun _ => by kernel_rfl) ?_
    cases h2 : (decide ((a : Int) < (s.l.length : Int))) with
    | true =>
      have hal : a < s.l.length := by have := of_decide_eq_true h2; omega
      obtain ⟨y, hy⟩ : ∃ y, s.l[a]? = some y := ⟨_, by simp [hal]; rfl⟩
      refine PT.know ((hk).up.isSome (List.ne_nil_of_length_pos (by omega))) ?_
      rintro ⟨sb, so, hA⟩
      try rw [hA]
      refine takesR [5, 6, 7, 10] [6, 7, 35, 39, 40, 41, 42, 45] 7 [true, true, true, true, true, true, true, true, false, false, true, false, false, false, false, false] [(6, .int .i64 0), (7, .bool false), (35, .int .i64 (a : Int)), (39, .bool true), (40, .func (.func 49) #[] #[]), (41, .slice (some ⟨sb, so, none⟩) s.l.length s.c), (42, .int .i64 (a : Int)), (45, .agg #[.int .i64 p, .int .i64 i])] [(⟨b1, 0, none⟩, .int .i64 p), (⟨b1, 1, none⟩, .int .i64 i)] rfl (fun _ d _ _ _ h => by cases d <;> exact h) (fun _ h => by first | exact h | exact h.tail | exact h.tail.tail | exact h.tail.tail.tail | exact h.tail.tail.tail.tail) (hasC (blkAt (T := 65) (cs := [.int .i64 p, .int .i64 i]) 0 rfl rfl) (hasC (blkAt (T := 65) (cs := [.int .i64 p, .int .i64 i]) 0 rfl rfl) has0)) (fun _ => by kernel_rfl) ?_
      refine takeR1 8 6 [true, true, true, true, true, true, true, true, true, false, true, false, false, false, false, false] rfl rfl (by kernel_rfl) (fun _ d _ _ _ h => by cases d <;> exact h) (fun _ h => by first | exact h | exact h.tail | exact h.tail.tail | exact h.tail.tail.tail | exact h.tail.tail.tail.tail) (idxY 79 (.tmp 41) (.tmp 42) sb so s.l.length s.c a 2 65 (a : Int) .i64 (some 43) (fun _ => by kernel_rfl) (by kernel_rfl) (by kernel_rfl) (fun _ => by kernel_rfl) (fun _ => by kernel_rfl) Tryz.underlying79 (by kernel_rfl) (by first | rfl | assumption | simp) (by first | omega | (simp; done) | (simp; omega) | (simp at *; omega))) ?_
      refine takesR [9] [6, 7, 35, 39, 40, 45, 44] 5 [true, true, true, true, true, true, true, true, true, true, true, false, false, false, false, false] [(6, .int .i64 0), (7, .bool false), (35, .int .i64 (a : Int)), (39, .bool true), (40, .func (.func 49) #[] #[]), (45, .agg #[.int .i64 p, .int .i64 i]), (44, .agg #[.int .i64 y.1, .int .i64 y.2])] [(⟨sb, so + a * 2, none⟩, .int .i64 y.1), (⟨sb, so + a * 2 + 1, none⟩, .int .i64 y.2)] rfl (fun _ d _ _ _ h => by cases d <;> exact h) (fun _ h => by first | exact h | exact h.tail | exact h.tail.tail | exact h.tail.tail.tail | exact h.tail.tail.tail.tail) (hasC (up (hk.cell hA (i := a) (x := y) hy (j := 0) rfl)) (hasC (up (hk.cell hA (i := a) (x := y) hy (j := 1) rfl)) has0)) (fun _ => by kernel_rfl) ?_
      refine oneR 11 4 [true, true, true, true, true, true, true, true, true, true, true, true, false, false, false, false] rfl rfl (by kernel_rfl) (callS 49 [.agg #[.int .i64 y.1, .int .i64 y.2], .agg #[.int .i64 p, .int .i64 i]] (some 46) (fun _ => .int .i64 (byI (y.1, y.2) (p, i))) (fun (_ : Unit) => (blk b1 65 [.int .i64 p, .int .i64 i] :: H)) (fun _ => by kernel_rfl) (by_walk _ y.1 y.2 p i)) (fun _ _ h hn => by first | exact h | exact h.tail | exact h.tail.tail | exact h.tail.tail.tail | exact h.tail.tail.tail.tail | exact absurd hn (by decide)) (fun _ => ?_)
      refine takesR [12, 13, 14, 15] [6, 7] 0 [true, true, true, true, true, true, true, true, true, true, true, true, true, true, true, true] [(6, .int .i64 (a : Int)), (7, .bool ((byI (y.1, y.2) (p, i)) == 0))] [] rfl (fun _ d _ _ _ h => by cases d <;> exact h) (fun _ h => by first | exact h | exact h.tail | exact h.tail.tail | exact h.tail.tail.tail | exact h.tail.tail.tail.tail) has0 (fun _ => by kernel_rfl) ?_
      refine drawnR (by kernel_rfl) ?_
      refine retR (by kernel_rfl) ?_
      refine done0 (.tuple #[.int .i64 (a : Int), .bool ((byI (y.1, y.2) (p, i)) == 0)]) (fun _ => by kernel_rfl) (fun w hs => ?_) .ret (.inr rfl)
      exact ⟨⟨(a, byI (y.1, y.2) (p, i) == 0), hzl, hlo, hhi⟩, rfl, hs.tail⟩
    | false =>
      refine takesR [5, 6, 7, 8, 9, 10, 11, 12, 13, 14, 15] [6, 7] 0 [true, true, true, true, true, true, true, true, true, true, true, true, true, true, true, true] [(6, .int .i64 (a : Int)), (7, .bool false)] [] rfl (fun _ d _ _ _ h => by cases d <;> exact h) (fun _ h => by first | exact h | exact h.tail | exact h.tail.tail | exact h.tail.tail.tail | exact h.tail.tail.tail.tail) has0 (fun _ => by kernel_rfl) ?_
      refine drawnR (by kernel_rfl) ?_
      refine retR (by kernel_rfl) ?_
      refine done0 (.tuple #[.int .i64 (a : Int), .bool false]) (fun _ => by kernel_rfl) (fun w hs => ?_) .ret (.inr rfl)
      exact ⟨⟨(a, false), hzl, hlo, hhi⟩, rfl, hs.tail⟩
end Go.Proofs.YtjbjngikaiggdaaGreat
