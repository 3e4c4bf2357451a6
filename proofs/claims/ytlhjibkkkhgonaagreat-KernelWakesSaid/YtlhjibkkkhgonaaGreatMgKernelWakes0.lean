/- Texts put together: KernelWakes: its walk. Conditions: none. -/
import Derived.Test.YtlhjibkkkhgonaaGreatMgKb6
set_option linter.unusedVariables false
set_option linter.unusedSimpArgs false
namespace Go.Proofs.YtlhjibkkkhgonaaGreat
open Go.RowKit G
theorem dF_len (g t : Int) : ∀ (l : List Int) (i : Int), (dF g t l i).length ≤ l.length
  | [], _ => Nat.le_refl _
  | a :: r, i => by
    have := dF_len g t r (i + 1)
    rw [dF]
    split <;> simp only [List.length_cons] <;> omega
set_option maxHeartbeats 1000000 in
set_option maxRecDepth 100000 in
theorem wakes10_walk (H : List SP) (l : SV Int) (g t : Int) (hg : 0 ≤ g ∧ g < 256) (ht : 0 ≤ t ∧ t < 256) (hk : KR H (kE .u8) l) (hw8 : ∀ x ∈ l.l, 0 ≤ x ∧ x < 256) : ∀ w, Sat w H → Calls Tryz.prog 7 #[.slice l.a l.l.length l.c, .int .u8 g, .int .u8 t] w (Ret (ι := Unit) (fun _ => .bool true) fun _ => H) := by
  refine enterG (fn := Tryz.f7) 121 [.slice l.a l.l.length l.c, .int .u8 g, .int .u8 t] Tryz.func7 (by kernel_rfl) (by kernel_rfl) (by kernel_rfl) ?_
  refine seqR (by kernel_rfl) ?_
  refine regionR 1 (by kernel_rfl) (by kernel_rfl) ?_
  refine (run0 (z := 0) 1 [0, 1, 2, 6] [(0, .slice l.a l.l.length l.c), (1, .int .u8 g), (2, .int .u8 t), (6, .bool false)] (fun _ => by kernel_rfl) (endR ?_) : RT _ _ _ _ _ _ 1 _)
  refine seqR (by kernel_rfl) ?_
  refine seqR (by kernel_rfl) ?_
  refine regionR 2 (by kernel_rfl) (by kernel_rfl) ?_
  refine (stepR (z := 1) (callS 10 [] (some 15) (fun _ => .bool true) (fun (_ : Unit) => (H)) (fun _ => by kernel_rfl) (known10 _)) (fun _ => ?_) : RT _ _ _ _ _ _ 2 _)
  refine (run0 (z := 0) 1 [0, 1, 2, 6, 16] [(0, .slice l.a l.l.length l.c), (1, .int .u8 g), (2, .int .u8 t), (6, .bool false), (16, .bool false)] (fun _ => by kernel_rfl) (endR ?_) : RT _ _ _ _ _ _ 1 _)
  refine condR (b := false) (by kernel_rfl) (fun _ => by kernel_rfl) (fun h => by cases h) (fun _ => ?_)
  refine skipR (by kernel_rfl) ?_
  refine seqR (by kernel_rfl) ?_
  refine seqR (by kernel_rfl) ?_
  refine regionR 8 (by kernel_rfl) (by kernel_rfl) ?_
  refine (run0 (z := 4) 4 [0, 1, 2, 6, 20] [(0, .slice l.a l.l.length l.c), (1, .int .u8 g), (2, .int .u8 t), (6, .bool false), (20, .bool (decide ((l.l.length : Int) < 1)))] (fun _ => by kernel_rfl) ?_ : RT _ _ _ _ _ _ 8 _)
  refine (segR (ι := Unit) (z := 0) 4 (fun _ => [(0, .slice l.a l.l.length l.c), (1, .int .u8 g), (2, .int .u8 t), (6, .bool false), (24, .bool ((decide ((l.l.length : Int) < 1)) || (decide ((l.l.length : Int) > 7))))]) (fun _ => (H)) ?_ (fun _ => ?_) : RT _ _ _ _ _ _ 4 _)
  · cases hg4 : (decide ((l.l.length : Int) < 1)) with
    | true =>
      refine (run0 (z := 0) 4 [0, 1, 2, 6, 24] [(0, .slice l.a l.l.length l.c), (1, .int .u8 g), (2, .int .u8 t), (6, .bool false), (24, .bool true)] (fun _ => by kernel_rfl) (endR ?_) : RT _ _ _ _ _ _ 4 _)
      refine PT.keep (L' := [(0, .slice l.a l.l.length l.c), (1, .int .u8 g), (2, .int .u8 t), (6, .bool false), (24, .bool (true || (decide ((l.l.length : Int) > 7))))]) [0, 1, 2, 6, 24] rfl ?_
      exact midR () rfl rfl
    | false =>
      refine (run0 (z := 0) 4 [0, 1, 2, 6, 24] [(0, .slice l.a l.l.length l.c), (1, .int .u8 g), (2, .int .u8 t), (6, .bool false), (24, .bool (decide ((l.l.length : Int) > 7)))] (fun _ => by kernel_rfl) (endR ?_) : RT _ _ _ _ _ _ 4 _)
      refine PT.keep (L' := [(0, .slice l.a l.l.length l.c), (1, .int .u8 g), (2, .int .u8 t), (6, .bool false), (24, .bool (false || (decide ((l.l.length : Int) > 7))))]) [0, 1, 2, 6, 24] rfl ?_
      exact midR () rfl rfl
  refine endR ?_
  refine condR (b := (decide ((l.l.length : Int) < 1)) || (decide ((l.l.length : Int) > 7))) (by kernel_rfl) (fun _ => by kernel_rfl) (fun h0 => ?_) (fun h0 => ?_)
  · skip
    refine seqR (by kernel_rfl) ?_
    refine regionR 1 (by kernel_rfl) (by kernel_rfl) ?_
    refine (run0 (z := 0) 1 [0, 1, 2, 6] [(0, .slice l.a l.l.length l.c), (1, .int .u8 g), (2, .int .u8 t), (6, .bool true)] (fun _ => by kernel_rfl) (endR ?_) : RT _ _ _ _ _ _ 1 _)
    refine retR (by kernel_rfl) ?_
    refine thenV ?_
    refine done0 (.bool true) (fun _ => by kernel_rfl) (fun w hs => ?_) .ret (.inr rfl)
    exact ⟨(), rfl, hs⟩
  · skip
    have hl : 1 ≤ l.l.length ∧ l.l.length ≤ 7 := by simp only [Bool.or_eq_false_iff, decide_eq_false_iff_not] at h0; omega
    refine skipR (by kernel_rfl) ?_
    refine seqR (by kernel_rfl) ?_
    refine regionR 2 (by kernel_rfl) (by kernel_rfl) ?_
    refine (stepR (z := 1) (callS 11 [.int .i64 8, .int .i64 0] (some 25) (fun (k : Nat) => .pointer (some ⟨k, 0, none⟩)) (fun (k : Nat) => (kerS k (k0 (mtOf 8) (mgOf 0)) :: H)) (fun _ => by kernel_rfl) (knew_walk _ 8 0)) (fun (k : Nat) => ?_) : RT _ _ _ _ _ _ 2 _)
    refine (run0 (z := 0) 1 [0, 1, 2, 6, 7] [(0, .slice l.a l.l.length l.c), (1, .int .u8 g), (2, .int .u8 t), (6, .bool false), (7, .pointer (some ⟨k, 0, none⟩))] (fun _ => by kernel_rfl) (endR ?_) : RT _ _ _ _ _ _ 1 _)
    refine seqR (by kernel_rfl) ?_
    refine seqR (by kernel_rfl) ?_
    refine regionR 1 (by kernel_rfl) (by kernel_rfl) ?_
    refine (run0 (z := 0) 1 [0, 1, 2, 6, 7, 8] [(0, .slice l.a l.l.length l.c), (1, .int .u8 g), (2, .int .u8 t), (6, .bool false), (7, .pointer (some ⟨k, 0, none⟩)), (8, .int .i64 0)] (fun _ => by kernel_rfl) (endR ?_) : RT _ _ _ _ _ _ 1 _)
    refine blockR 0 (by kernel_rfl) (by kernel_rfl) ?_
    refine PT.keep (L' := [(0, .slice l.a l.l.length l.c), (1, .int .u8 g), (2, .int .u8 t), (7, .pointer (some ⟨k, 0, none⟩)), (8, .int .i64 0)]) [0, 1, 2, 7, 8] rfl ?_
    refine loopG (fun (q : KS × Nat) => [(0, .slice l.a l.l.length l.c), (1, .int .u8 g), (2, .int .u8 t), (7, .pointer (some ⟨k, 0, none⟩)), (8, .int .i64 (q.2 : Int))]) (fun (q : KS × Nat) => (kerS k q.1 :: H)) (fun k (q : KS × Nat) => k + q.2 = l.l.length ∧ WkI q.1 l.l q.2) l.l.length (k0 (mtOf 8) (mgOf 0), 0) (by kernel_rfl) ⟨by simp, WkI.start l.l⟩ ?_
    rintro j ⟨s, u⟩ ⟨hju, hI⟩
    simp only at hju hI
    refine seqR (by kernel_rfl) ?_
    refine seqR (by kernel_rfl) ?_
    refine regionR 4 (by kernel_rfl) (by kernel_rfl) ?_
    refine (run0 (z := 0) 4 [0, 1, 2, 7, 8, 29] [(0, .slice l.a l.l.length l.c), (1, .int .u8 g), (2, .int .u8 t), (7, .pointer (some ⟨k, 0, none⟩)), (8, .int .i64 (u : Int)), (29, .bool (decide ((u : Int) < (l.l.length : Int))))] (fun _ => by kernel_rfl) (endR ?_) : RT _ _ _ _ _ _ 4 _)
    refine condR (b := decide ((u : Int) < (l.l.length : Int))) (by kernel_rfl) (fun _ => by kernel_rfl) (fun h1 => ?_) (fun h1 => ?_)
    · skip
      have hu : u < l.l.length := by have := of_decide_eq_true h1; omega
      obtain ⟨a, ha⟩ : ∃ v, l.l[u]? = some v := ⟨_, List.getElem?_eq_getElem hu⟩
      have hab := hw8 a (List.mem_of_getElem? ha)
      obtain ⟨s1, s2, e1, e2, hI'⟩ := hI.add (by omega) ha
      refine PT.know ((hk).up.isSome (List.ne_nil_of_length_pos (by omega))) ?_
      rintro ⟨sb, so, hA'⟩
      try rw [hA']
      refine skipR (by kernel_rfl) ?_
      refine seqR (by kernel_rfl) ?_
      refine blockR 1 (by kernel_rfl) (by kernel_rfl) ?_
      refine seqR (by kernel_rfl) ?_
      refine regionR 7 (by kernel_rfl) (by kernel_rfl) ?_
      refine (run0 (z := 6) 1 [0, 1, 2, 7, 8, 33] [(0, .slice (some ⟨sb, so, none⟩) l.l.length l.c), (1, .int .u8 g), (2, .int .u8 t), (7, .pointer (some ⟨k, 0, none⟩)), (8, .int .i64 (u : Int)), (33, .pointer (some ⟨k, 0, none⟩))] (fun _ => by kernel_rfl) ?_ : RT _ _ _ _ _ _ 7 _)
      refine (stepR (z := 5) (callS 12 [.pointer (some ⟨k, 0, none⟩), .int .i64 0, .int .i64 1] (some 34) (fun _ => .tuple #[.int .i64 ((u : Int) + 2), .nilIface]) (fun _ => (kerS k s1 :: H)) (fun _ => by kernel_rfl) ((by have h := krSpawn H k s (by have := hI.nx; omega) 0 1; rw [e1] at h; exact h))) (fun _ => ?_) : RT _ _ _ _ _ _ 6 _)
      refine (run0 (z := 0) 5 [0, 1, 2, 7, 8, 9, 10] [(0, .slice (some ⟨sb, so, none⟩) l.l.length l.c), (1, .int .u8 g), (2, .int .u8 t), (7, .pointer (some ⟨k, 0, none⟩)), (8, .int .i64 (u : Int)), (9, .int .i64 ((u : Int) + 2)), (10, .nilIface)] (fun _ => by kernel_rfl) (endR ?_) : RT _ _ _ _ _ _ 5 _)
      refine seqR (by kernel_rfl) ?_
      refine regionR 19 (by kernel_rfl) (by kernel_rfl) ?_
      refine (run0 (z := 10) 9 [0, 1, 2, 7, 8, 9, 45] [(0, .slice (some ⟨sb, so, none⟩) l.l.length l.c), (1, .int .u8 g), (2, .int .u8 t), (7, .pointer (some ⟨k, 0, none⟩)), (8, .int .i64 (u : Int)), (9, .int .i64 ((u : Int) + 2)), (45, .bool (((u : Int) + 2) != (IntKind.i64.wrap ((u : Int) + 2))))] (fun _ => by kernel_rfl) ?_ : RT _ _ _ _ _ _ 19 _)
      rw [show IntKind.i64.wrap ((u : Int) + 2) = ((u : Int) + 2) by rw [w64 (by omega) (by omega)]]
      rw [show (((u : Int) + 2) != ((u : Int) + 2)) = false by simp]
      refine (run0 (z := 6) 4 [0, 1, 2, 7, 8, 45, 46, 47, 48, 49] [(0, .slice (some ⟨sb, so, none⟩) l.l.length l.c), (1, .int .u8 g), (2, .int .u8 t), (7, .pointer (some ⟨k, 0, none⟩)), (8, .int .i64 (u : Int)), (45, .bool false), (46, .pointer (some ⟨k, 0, none⟩)), (47, .int .i64 ((u : Int) + 2)), (48, .slice (some ⟨sb, so, none⟩) l.l.length l.c), (49, .int .i64 (u : Int))] (fun _ => by kernel_rfl) ?_ : RT _ _ _ _ _ _ 10 _)
      refine (stepR (z := 5) (yldS (idxY 48 (.tmp 48) (.tmp 49) sb so l.l.length l.c u 1 5 (u : Int) .i64 (some 50) (fun _ => by kernel_rfl) (by kernel_rfl) (by kernel_rfl) (fun _ => by kernel_rfl) (fun _ => by kernel_rfl) Tryz.underlying48 (by kernel_rfl) (by first | rfl | assumption | simp) (by first | omega | (simp; done) | (simp; omega) | (simp at *; omega)))) (fun _ => ?_) : RT _ _ _ _ _ _ 6 _)
      refine (runR (H := (kerS k s1 :: H)) (z := 3) 2 [0, 1, 2, 7, 8, 45, 46, 47, 52] [(0, .slice (some ⟨sb, so, none⟩) l.l.length l.c), (1, .int .u8 g), (2, .int .u8 t), (7, .pointer (some ⟨k, 0, none⟩)), (8, .int .i64 (u : Int)), (45, .bool false), (46, .pointer (some ⟨k, 0, none⟩)), (47, .int .i64 ((u : Int) + 2)), (52, .int .i64 (IntKind.i64.wrap a))] [(⟨sb, so + u * 1, none⟩, .int .u8 a)] (hasC (up (hk.cell hA' (i := u) (x := a) ha (j := 0) rfl)) has0) (fun _ => by kernel_rfl) ?_ : RT _ _ _ _ _ _ 5 _)
      rw [show IntKind.i64.wrap a = a by rw [w64 (by omega) (by omega)]]
      refine (stepR (z := 2) (callS 16 [.pointer (some ⟨k, 0, none⟩), .int .i64 ((u : Int) + 2), .int .i64 a] (some 53) (fun _ => .nilIface) (fun _ => (kerS k s2 :: H)) (fun _ => by kernel_rfl) ((by have h := krSleep H k s1 ((u : Int) + 2) a; rw [e2] at h; exact h))) (fun _ => ?_) : RT _ _ _ _ _ _ 3 _)
      refine (run0 (z := 0) 2 [0, 1, 2, 7, 8, 55] [(0, .slice (some ⟨sb, so, none⟩) l.l.length l.c), (1, .int .u8 g), (2, .int .u8 t), (7, .pointer (some ⟨k, 0, none⟩)), (8, .int .i64 (u : Int)), (55, .bool false)] (fun _ => by kernel_rfl) (endR ?_) : RT _ _ _ _ _ _ 2 _)
      refine condR (b := false) (by kernel_rfl) (fun _ => by kernel_rfl) (fun h => by cases h) (fun _ => ?_)
      refine skipR (by kernel_rfl) ?_
      refine regionR 3 (by kernel_rfl) (by kernel_rfl) ?_
      refine (run0 (z := 0) 3 [0, 1, 2, 7, 8] [(0, .slice (some ⟨sb, so, none⟩) l.l.length l.c), (1, .int .u8 g), (2, .int .u8 t), (7, .pointer (some ⟨k, 0, none⟩)), (8, .int .i64 (IntKind.i64.wrap ((u : Int) + 1)))] (fun _ => by kernel_rfl) (endR ?_) : RT _ _ _ _ _ _ 3 _)
      try rw [← hA']
      rw [show IntKind.i64.wrap ((u : Int) + 1) = ((u : Int) + 1) by rw [w64 (by omega) (by omega)]]
      refine PT.keep (L' := [(0, .slice l.a l.l.length l.c), (1, .int .u8 g), (2, .int .u8 t), (7, .pointer (some ⟨k, 0, none⟩)), (8, .int .i64 ((u : Int) + 1))]) [0, 1, 2, 7, 8] rfl ?_
      exact againG (j - 1) (s2, u + 1) rfl rfl (by omega) ⟨by simp only; omega, hI'⟩
    · skip
      have hu : u = l.l.length := by have := of_decide_eq_false h1; omega
      rw [hu] at hI
      obtain ⟨y, hy⟩ : ∃ y : Nat, g.tmod (l.l.length : Int) = (y : Int) := ⟨(g.tmod (l.l.length : Int)).toNat, by have := tmod_range hg.1 (m := (l.l.length : Int)) (by omega); omega⟩
      have hyl : y < l.l.length := by have := tmod_range hg.1 (m := (l.l.length : Int)) (by omega); omega
      obtain ⟨s1, s2, s3, e1, e2, e3, n2, k2, hrd⟩ := hI.wake hyl t
      obtain ⟨D, hD⟩ : ∃ D, dF ((y : Int) + 2) t l.l 2 = D := ⟨_, rfl⟩
      have hDl := dF_len ((y : Int) + 2) t l.l 2
      rw [hD] at e2 hrd hDl
      refine exitR 0 (by kernel_rfl) (by kernel_rfl) ?_
      refine thenX ?_
      refine thenX ?_
      refine leaveR ?_
      refine seqR (by kernel_rfl) ?_
      refine regionR 6 (by kernel_rfl) (by kernel_rfl) ?_
      refine (run0 (z := 2) 4 [0, 2, 7, 57, 59] [(0, .slice l.a l.l.length l.c), (2, .int .u8 t), (7, .pointer (some ⟨k, 0, none⟩)), (57, .int .i64 (IntKind.i64.wrap g)), (59, .int .i64 (l.l.length : Int))] (fun _ => by kernel_rfl) ?_ : RT _ _ _ _ _ _ 6 _)
      rw [show IntKind.i64.wrap g = g by rw [w64 (by omega) (by omega)]]
      refine (stepR (z := 1) (yldS (binY .rem 3 3 (.tmp 57) (.tmp 59) (.int .i64 g) (.int .i64 (l.l.length : Int)) (.int .i64 ((g : Int).tmod (l.l.length : Int))) (some 60) (fun _ => by kernel_rfl) (by kernel_rfl) (by kernel_rfl) (fun _ => by kernel_rfl) (fun _ => by kernel_rfl) (remR (t' := 0) (by omega)))) (fun _ => ?_) : RT _ _ _ _ _ _ 2 _)
      rw [show ((g : Int).tmod (l.l.length : Int)) = (y : Int) by exact hy]
      refine (run0 (z := 0) 1 [0, 2, 7, 11] [(0, .slice l.a l.l.length l.c), (2, .int .u8 t), (7, .pointer (some ⟨k, 0, none⟩)), (11, .int .i64 (y : Int))] (fun _ => by kernel_rfl) (endR ?_) : RT _ _ _ _ _ _ 1 _)
      refine seqR (by kernel_rfl) ?_
      refine seqR (by kernel_rfl) ?_
      refine regionR 5 (by kernel_rfl) (by kernel_rfl) ?_
      refine (run0 (z := 2) 3 [0, 2, 7, 11, 61, 63] [(0, .slice l.a l.l.length l.c), (2, .int .u8 t), (7, .pointer (some ⟨k, 0, none⟩)), (11, .int .i64 (y : Int)), (61, .pointer (some ⟨k, 0, none⟩)), (63, .int .i64 (IntKind.i64.wrap ((y : Int) + 2)))] (fun _ => by kernel_rfl) ?_ : RT _ _ _ _ _ _ 5 _)
      rw [show IntKind.i64.wrap ((y : Int) + 2) = ((y : Int) + 2) by rw [w64 (by omega) (by omega)]]
      refine (stepR (z := 1) (callS 14 [.pointer (some ⟨k, 0, none⟩), .int .i64 ((y : Int) + 2)] (some 64) (fun _ => .nilIface) (fun _ => (kerS k s1 :: H)) (fun _ => by kernel_rfl) ((by have h := krExit H k s ((y : Int) + 2); rw [e1] at h; exact h))) (fun _ => ?_) : RT _ _ _ _ _ _ 2 _)
      refine (run0 (z := 0) 1 [0, 2, 7, 11, 65] [(0, .slice l.a l.l.length l.c), (2, .int .u8 t), (7, .pointer (some ⟨k, 0, none⟩)), (11, .int .i64 (y : Int)), (65, .bool false)] (fun _ => by kernel_rfl) (endR ?_) : RT _ _ _ _ _ _ 1 _)
      refine condR (b := false) (by kernel_rfl) (fun _ => by kernel_rfl) (fun h => by cases h) (fun _ => ?_)
      refine skipR (by kernel_rfl) ?_
      refine seqR (by kernel_rfl) ?_
      refine regionR 5 (by kernel_rfl) (by kernel_rfl) ?_
      refine (run0 (z := 2) 3 [0, 2, 7, 11, 66, 68] [(0, .slice l.a l.l.length l.c), (2, .int .u8 t), (7, .pointer (some ⟨k, 0, none⟩)), (11, .int .i64 (y : Int)), (66, .pointer (some ⟨k, 0, none⟩)), (68, .int .i64 (IntKind.i64.wrap t))] (fun _ => by kernel_rfl) ?_ : RT _ _ _ _ _ _ 5 _)
      rw [show IntKind.i64.wrap t = t by rw [w64 (by omega) (by omega)]]
      refine (stepR (z := 1) (callS 20 [.pointer (some ⟨k, 0, none⟩), .int .i64 t] (some 69) (fun (p : Option Addr × Nat) => .slice p.1 D.length p.2) (fun (p : Option Addr × Nat) => row (kE .i64) 3 (.slice p.1 D.length p.2) D :: kerS k s2 :: H) (fun _ => by kernel_rfl) ((by have h := krWake H k s1 t; rw [e2] at h; exact h))) (fun (p : Option Addr × Nat) => ?_) : RT _ _ _ _ _ _ 2 _)
      refine (run0 (z := 0) 1 [0, 2, 7, 11, 12] [(0, .slice l.a l.l.length l.c), (2, .int .u8 t), (7, .pointer (some ⟨k, 0, none⟩)), (11, .int .i64 (y : Int)), (12, .slice p.1 D.length p.2)] (fun _ => by kernel_rfl) (endR ?_) : RT _ _ _ _ _ _ 1 _)
      refine seqR (by kernel_rfl) ?_
      refine regionR 1 (by kernel_rfl) (by kernel_rfl) ?_
      refine (run0 (z := 0) 1 [0, 2, 7, 11, 12, 13] [(0, .slice l.a l.l.length l.c), (2, .int .u8 t), (7, .pointer (some ⟨k, 0, none⟩)), (11, .int .i64 (y : Int)), (12, .slice p.1 D.length p.2), (13, .int .i64 0)] (fun _ => by kernel_rfl) (endR ?_) : RT _ _ _ _ _ _ 1 _)
      refine seqR (by kernel_rfl) ?_
      refine seqR (by kernel_rfl) ?_
      refine regionR 1 (by kernel_rfl) (by kernel_rfl) ?_
      refine (run0 (z := 0) 1 [0, 2, 7, 11, 12, 13, 14] [(0, .slice l.a l.l.length l.c), (2, .int .u8 t), (7, .pointer (some ⟨k, 0, none⟩)), (11, .int .i64 (y : Int)), (12, .slice p.1 D.length p.2), (13, .int .i64 0), (14, .int .i64 0)] (fun _ => by kernel_rfl) (endR ?_) : RT _ _ _ _ _ _ 1 _)
      refine blockR 2 (by kernel_rfl) (by kernel_rfl) ?_
      refine PT.keep (L' := [(0, .slice l.a l.l.length l.c), (2, .int .u8 t), (7, .pointer (some ⟨k, 0, none⟩)), (11, .int .i64 (y : Int)), (12, .slice p.1 D.length p.2), (13, .int .i64 0), (14, .int .i64 0)]) [0, 2, 7, 11, 12, 13, 14] rfl ?_
      refine loopG (fun (q : Nat × Nat) => [(0, .slice l.a l.l.length l.c), (2, .int .u8 t), (7, .pointer (some ⟨k, 0, none⟩)), (11, .int .i64 (y : Int)), (12, .slice p.1 D.length p.2), (13, .int .i64 (q.2 : Int)), (14, .int .i64 (q.1 : Int))]) (fun (q : Nat × Nat) => (row (kE .i64) 3 (.slice p.1 D.length p.2) D :: kerS k s2 :: H)) (fun k (q : Nat × Nat) => k + q.1 = l.l.length ∧ q.2 ≤ D.length ∧ D.drop q.2 = dF ((y : Int) + 2) t (l.l.drop q.1) ((q.1 : Int) + 2)) l.l.length (0, 0) (by kernel_rfl) ⟨by simp only; omega, by simp only; omega, by rw [← hD]; rfl⟩ ?_
      rintro j2 ⟨i, m⟩ ⟨hji, hm, hdr⟩
      simp only at hji hm hdr
      refine seqR (by kernel_rfl) ?_
      refine seqR (by kernel_rfl) ?_
      refine regionR 4 (by kernel_rfl) (by kernel_rfl) ?_
      refine (run0 (z := 0) 4 [0, 2, 7, 11, 12, 13, 14, 73] [(0, .slice l.a l.l.length l.c), (2, .int .u8 t), (7, .pointer (some ⟨k, 0, none⟩)), (11, .int .i64 (y : Int)), (12, .slice p.1 D.length p.2), (13, .int .i64 (m : Int)), (14, .int .i64 (i : Int)), (73, .bool (decide ((i : Int) < (l.l.length : Int))))] (fun _ => by kernel_rfl) (endR ?_) : RT _ _ _ _ _ _ 4 _)
      refine condR (b := decide ((i : Int) < (l.l.length : Int))) (by kernel_rfl) (fun _ => by kernel_rfl) (fun h2 => ?_) (fun h2 => ?_)
      · skip
        have hi : i < l.l.length := by have := of_decide_eq_true h2; omega
        obtain ⟨a, ha⟩ : ∃ v, l.l[i]? = some v := ⟨_, List.getElem?_eq_getElem hi⟩
        rw [dF_cons ha] at hdr
        refine PT.know ((hk).up.up.isSome (List.ne_nil_of_length_pos (by omega))) ?_
        rintro ⟨sb, so, hA'⟩
        try rw [hA']
        refine skipR (by kernel_rfl) ?_
        refine seqR (by kernel_rfl) ?_
        refine blockR 3 (by kernel_rfl) (by kernel_rfl) ?_
        refine seqR (by kernel_rfl) ?_
        refine seqR (by kernel_rfl) ?_
        refine regionR 11 (by kernel_rfl) (by kernel_rfl) ?_
        refine (run0 (z := 7) 4 [0, 2, 7, 11, 12, 13, 14, 79] [(0, .slice (some ⟨sb, so, none⟩) l.l.length l.c), (2, .int .u8 t), (7, .pointer (some ⟨k, 0, none⟩)), (11, .int .i64 (y : Int)), (12, .slice p.1 D.length p.2), (13, .int .i64 (m : Int)), (14, .int .i64 (i : Int)), (79, .bool ((i : Int) == (y : Int)))] (fun _ => by kernel_rfl) ?_ : RT _ _ _ _ _ _ 11 _)
        refine (segR (ι := Unit) (z := 0) 7 (fun _ => [(0, .slice (some ⟨sb, so, none⟩) l.l.length l.c), (2, .int .u8 t), (7, .pointer (some ⟨k, 0, none⟩)), (11, .int .i64 (y : Int)), (12, .slice p.1 D.length p.2), (13, .int .i64 (m : Int)), (14, .int .i64 (i : Int)), (86, .bool (((i : Int) == (y : Int)) || (decide (a > t))))]) (fun _ => (row (kE .i64) 3 (.slice p.1 D.length p.2) D :: kerS k s2 :: H)) ?_ (fun _ => ?_) : RT _ _ _ _ _ _ 7 _)
        · cases hg4 : ((i : Int) == (y : Int)) with
          | true =>
            refine (run0 (z := 0) 7 [0, 2, 7, 11, 12, 13, 14, 86] [(0, .slice (some ⟨sb, so, none⟩) l.l.length l.c), (2, .int .u8 t), (7, .pointer (some ⟨k, 0, none⟩)), (11, .int .i64 (y : Int)), (12, .slice p.1 D.length p.2), (13, .int .i64 (m : Int)), (14, .int .i64 (i : Int)), (86, .bool true)] (fun _ => by kernel_rfl) (endR ?_) : RT _ _ _ _ _ _ 7 _)
            refine PT.keep (L' := [(0, .slice (some ⟨sb, so, none⟩) l.l.length l.c), (2, .int .u8 t), (7, .pointer (some ⟨k, 0, none⟩)), (11, .int .i64 (y : Int)), (12, .slice p.1 D.length p.2), (13, .int .i64 (m : Int)), (14, .int .i64 (i : Int)), (86, .bool (true || (decide (a > t))))]) [0, 2, 7, 11, 12, 13, 14, 86] rfl ?_
            exact midR () rfl rfl
          | false =>
            refine (run0 (z := 5) 2 [0, 2, 7, 11, 12, 13, 14, 79, 80, 81] [(0, .slice (some ⟨sb, so, none⟩) l.l.length l.c), (2, .int .u8 t), (7, .pointer (some ⟨k, 0, none⟩)), (11, .int .i64 (y : Int)), (12, .slice p.1 D.length p.2), (13, .int .i64 (m : Int)), (14, .int .i64 (i : Int)), (79, .bool false), (80, .slice (some ⟨sb, so, none⟩) l.l.length l.c), (81, .int .i64 (i : Int))] (fun _ => by kernel_rfl) ?_ : RT _ _ _ _ _ _ 7 _)
            refine (stepR (z := 4) (yldS (idxY 48 (.tmp 80) (.tmp 81) sb so l.l.length l.c i 1 5 (i : Int) .i64 (some 82) (fun _ => by kernel_rfl) (by kernel_rfl) (by kernel_rfl) (fun _ => by kernel_rfl) (fun _ => by kernel_rfl) Tryz.underlying48 (by kernel_rfl) (by first | rfl | assumption | simp) (by first | omega | (simp; done) | (simp; omega) | (simp at *; omega)))) (fun _ => ?_) : RT _ _ _ _ _ _ 5 _)
            refine (runR (H := (row (kE .i64) 3 (.slice p.1 D.length p.2) D :: kerS k s2 :: H)) (z := 0) 4 [0, 2, 7, 11, 12, 13, 14, 86] [(0, .slice (some ⟨sb, so, none⟩) l.l.length l.c), (2, .int .u8 t), (7, .pointer (some ⟨k, 0, none⟩)), (11, .int .i64 (y : Int)), (12, .slice p.1 D.length p.2), (13, .int .i64 (m : Int)), (14, .int .i64 (i : Int)), (86, .bool (decide (a > t)))] [(⟨sb, so + i * 1, none⟩, .int .u8 a)] (hasC (up (up (hk.cell hA' (i := i) (x := a) ha (j := 0) rfl))) has0) (fun _ => by kernel_rfl) (endR ?_) : RT _ _ _ _ _ _ 4 _)
            refine PT.keep (L' := [(0, .slice (some ⟨sb, so, none⟩) l.l.length l.c), (2, .int .u8 t), (7, .pointer (some ⟨k, 0, none⟩)), (11, .int .i64 (y : Int)), (12, .slice p.1 D.length p.2), (13, .int .i64 (m : Int)), (14, .int .i64 (i : Int)), (86, .bool (false || (decide (a > t))))]) [0, 2, 7, 11, 12, 13, 14, 86] rfl ?_
            exact midR () rfl rfl
        refine endR ?_
        refine condR (b := ((i : Int) == (y : Int)) || (decide (a > t))) (by kernel_rfl) (fun _ => by kernel_rfl) (fun h3 => ?_) (fun h3 => ?_)
        · skip
          have hsk : (i : Int) + 2 = (y : Int) + 2 ∨ t < a := by simpa using h3
          rw [if_pos hsk] at hdr
          refine exitR 3 (by kernel_rfl) (by kernel_rfl) ?_
          refine thenX ?_
          refine leaveR ?_
          refine regionR 3 (by kernel_rfl) (by kernel_rfl) ?_
          refine (run0 (z := 0) 3 [0, 2, 7, 11, 12, 13, 14] [(0, .slice (some ⟨sb, so, none⟩) l.l.length l.c), (2, .int .u8 t), (7, .pointer (some ⟨k, 0, none⟩)), (11, .int .i64 (y : Int)), (12, .slice p.1 D.length p.2), (13, .int .i64 (m : Int)), (14, .int .i64 (IntKind.i64.wrap ((i : Int) + 1)))] (fun _ => by kernel_rfl) (endR ?_) : RT _ _ _ _ _ _ 3 _)
          try rw [← hA']
          rw [show IntKind.i64.wrap ((i : Int) + 1) = ((i : Int) + 1) by rw [w64 (by omega) (by omega)]]
          refine PT.keep (L' := [(0, .slice l.a l.l.length l.c), (2, .int .u8 t), (7, .pointer (some ⟨k, 0, none⟩)), (11, .int .i64 (y : Int)), (12, .slice p.1 D.length p.2), (13, .int .i64 (m : Int)), (14, .int .i64 ((i : Int) + 1))]) [0, 2, 7, 11, 12, 13, 14] rfl ?_
          exact againG (j2 - 1) (i + 1, m) rfl rfl (by omega) ⟨by simp only; omega, hm, by simp only; rw [hdr]; congr 1⟩
        · skip
          have hsk : ¬ ((i : Int) + 2 = (y : Int) + 2 ∨ t < a) := by simpa using h3
          rw [if_neg hsk] at hdr
          have hmD : m < D.length := by rcases Nat.lt_or_ge m D.length with h | h; exact h; rw [List.drop_eq_nil_of_le h] at hdr; cases hdr
          have hm0 : D[m]? = some ((i : Int) + 2) := by rw [← List.head?_drop, hdr]; rfl
          have hm1 : D.drop (m + 1) = dF ((y : Int) + 2) t (l.l.drop (i + 1)) (((i + 1 : Nat) : Int) + 2) := by rw [← List.tail_drop, hdr, List.tail_cons]; congr 1
          have hrm := hrd _ (List.mem_of_getElem? hm0)
          try rw [← hA']
          refine PT.know (KR.isSome (s := ⟨p.1, p.2, D⟩) (rowKRat 0 rfl) (List.ne_nil_of_length_pos (by show 0 < D.length; omega))) ?_
          rintro ⟨nb, no, hnA⟩
          dsimp only at hnA
          rw [hnA]
          refine skipR (by kernel_rfl) ?_
          refine seqR (by kernel_rfl) ?_
          refine seqR (by kernel_rfl) ?_
          refine regionR 20 (by kernel_rfl) (by kernel_rfl) ?_
          refine (run0 (z := 15) 5 [0, 2, 7, 11, 12, 13, 14, 91] [(0, .slice l.a l.l.length l.c), (2, .int .u8 t), (7, .pointer (some ⟨k, 0, none⟩)), (11, .int .i64 (y : Int)), (12, .slice (some ⟨nb, no, none⟩) D.length p.2), (13, .int .i64 (m : Int)), (14, .int .i64 (i : Int)), (91, .bool (decide ((m : Int) ≥ (D.length : Int))))] (fun _ => by kernel_rfl) ?_ : RT _ _ _ _ _ _ 20 _)
          refine (segR (ι := Unit) (z := 7) 8 (fun _ => [(0, .slice l.a l.l.length l.c), (2, .int .u8 t), (7, .pointer (some ⟨k, 0, none⟩)), (11, .int .i64 (y : Int)), (12, .slice (some ⟨nb, no, none⟩) D.length p.2), (13, .int .i64 (m : Int)), (14, .int .i64 (i : Int)), (99, .bool ((decide ((m : Int) ≥ (D.length : Int))) || (((i : Int) + 2) != (IntKind.i64.wrap ((i : Int) + 2)))))]) (fun _ => (row (kE .i64) 3 (.slice (some ⟨nb, no, none⟩) D.length p.2) D :: kerS k s2 :: H)) ?_ (fun _ => ?_) : RT _ _ _ _ _ _ 15 _)
          · cases hg5 : (decide ((m : Int) ≥ (D.length : Int))) with
            | true =>
              refine (run0 (z := 0) 8 [0, 2, 7, 11, 12, 13, 14, 99] [(0, .slice l.a l.l.length l.c), (2, .int .u8 t), (7, .pointer (some ⟨k, 0, none⟩)), (11, .int .i64 (y : Int)), (12, .slice (some ⟨nb, no, none⟩) D.length p.2), (13, .int .i64 (m : Int)), (14, .int .i64 (i : Int)), (99, .bool true)] (fun _ => by kernel_rfl) (endR ?_) : RT _ _ _ _ _ _ 8 _)
              refine PT.keep (L' := [(0, .slice l.a l.l.length l.c), (2, .int .u8 t), (7, .pointer (some ⟨k, 0, none⟩)), (11, .int .i64 (y : Int)), (12, .slice (some ⟨nb, no, none⟩) D.length p.2), (13, .int .i64 (m : Int)), (14, .int .i64 (i : Int)), (99, .bool (true || (((i : Int) + 2) != (IntKind.i64.wrap ((i : Int) + 2)))))]) [0, 2, 7, 11, 12, 13, 14, 99] rfl ?_
              exact midR () rfl rfl
            | false =>
              refine (run0 (z := 6) 2 [0, 2, 7, 11, 12, 13, 14, 91, 92, 93] [(0, .slice l.a l.l.length l.c), (2, .int .u8 t), (7, .pointer (some ⟨k, 0, none⟩)), (11, .int .i64 (y : Int)), (12, .slice (some ⟨nb, no, none⟩) D.length p.2), (13, .int .i64 (m : Int)), (14, .int .i64 (i : Int)), (91, .bool false), (92, .slice (some ⟨nb, no, none⟩) D.length p.2), (93, .int .i64 (m : Int))] (fun _ => by kernel_rfl) ?_ : RT _ _ _ _ _ _ 8 _)
              refine (stepR (z := 5) (yldS (idxY 42 (.tmp 92) (.tmp 93) nb no D.length p.2 m 1 3 (m : Int) .i64 (some 94) (fun _ => by kernel_rfl) (by kernel_rfl) (by kernel_rfl) (fun _ => by kernel_rfl) (fun _ => by kernel_rfl) Tryz.underlying42 (by kernel_rfl) (by first | rfl | assumption | simp) (by first | omega | (simp; done) | (simp; omega) | (simp at *; omega)))) (fun _ => ?_) : RT _ _ _ _ _ _ 6 _)
              refine (runR (H := (row (kE .i64) 3 (.slice (some ⟨nb, no, none⟩) D.length p.2) D :: kerS k s2 :: H)) (z := 0) 5 [0, 2, 7, 11, 12, 13, 14, 99] [(0, .slice l.a l.l.length l.c), (2, .int .u8 t), (7, .pointer (some ⟨k, 0, none⟩)), (11, .int .i64 (y : Int)), (12, .slice (some ⟨nb, no, none⟩) D.length p.2), (13, .int .i64 (m : Int)), (14, .int .i64 (i : Int)), (99, .bool (((i : Int) + 2) != (IntKind.i64.wrap ((i : Int) + 2))))] [(⟨nb, no + m * 1, none⟩, .int .i64 ((i : Int) + 2))] (hasC (rowCell (E := kE .i64) (xs := D) 0 rfl (x := ((i : Int) + 2)) hm0 (j := 0) rfl) has0) (fun _ => by kernel_rfl) (endR ?_) : RT _ _ _ _ _ _ 5 _)
              refine PT.keep (L' := [(0, .slice l.a l.l.length l.c), (2, .int .u8 t), (7, .pointer (some ⟨k, 0, none⟩)), (11, .int .i64 (y : Int)), (12, .slice (some ⟨nb, no, none⟩) D.length p.2), (13, .int .i64 (m : Int)), (14, .int .i64 (i : Int)), (99, .bool (false || (((i : Int) + 2) != (IntKind.i64.wrap ((i : Int) + 2)))))]) [0, 2, 7, 11, 12, 13, 14, 99] rfl ?_
              exact midR () rfl rfl
          refine (run0 (z := 6) 1 [0, 2, 7, 11, 12, 13, 14, 100] [(0, .slice l.a l.l.length l.c), (2, .int .u8 t), (7, .pointer (some ⟨k, 0, none⟩)), (11, .int .i64 (y : Int)), (12, .slice (some ⟨nb, no, none⟩) D.length p.2), (13, .int .i64 (m : Int)), (14, .int .i64 (i : Int)), (100, .bool ((decide ((m : Int) ≥ (D.length : Int))) || (((i : Int) + 2) != (IntKind.i64.wrap ((i : Int) + 2)))))] (fun _ => by kernel_rfl) ?_ : RT _ _ _ _ _ _ 7 _)
          rw [show IntKind.i64.wrap ((i : Int) + 2) = ((i : Int) + 2) by rw [w64 (by omega) (by omega)]]
          rw [show ((decide ((m : Int) ≥ (D.length : Int))) || (((i : Int) + 2) != ((i : Int) + 2))) = false by simp; omega]
          refine (run0 (z := 3) 3 [0, 2, 7, 11, 12, 13, 14, 100, 101, 103] [(0, .slice l.a l.l.length l.c), (2, .int .u8 t), (7, .pointer (some ⟨k, 0, none⟩)), (11, .int .i64 (y : Int)), (12, .slice (some ⟨nb, no, none⟩) D.length p.2), (13, .int .i64 (m : Int)), (14, .int .i64 (i : Int)), (100, .bool false), (101, .pointer (some ⟨k, 0, none⟩)), (103, .int .i64 (IntKind.i64.wrap ((i : Int) + 2)))] (fun _ => by kernel_rfl) ?_ : RT _ _ _ _ _ _ 6 _)
          rw [show IntKind.i64.wrap ((i : Int) + 2) = ((i : Int) + 2) by rw [w64 (by omega) (by omega)]]
          refine (RT.pick 0 rfl ?_ : RT _ _ _ (row (kE .i64) 3 (.slice (some ⟨nb, no, none⟩) D.length p.2) D :: kerS k s2 :: H) _ _ 3 _)
          refine (RT.pick 1 rfl ?_ : RT _ _ _ (row (kE .i64) 3 (.slice (some ⟨nb, no, none⟩) D.length p.2) D :: kerS k s2 :: H) _ _ 3 _)
          refine (stepR (z := 2) (callS 19 [.pointer (some ⟨k, 0, none⟩), .int .i64 ((i : Int) + 2)] (some 104) (fun _ => .bool true) (fun _ => (kerS k s2 :: row (kE .i64) 3 (.slice (some ⟨nb, no, none⟩) D.length p.2) D :: H)) (fun _ => by kernel_rfl) ((by have h := ready10_walk (row (kE .i64) 3 (.slice (some ⟨nb, no, none⟩) D.length p.2) D :: H) k s2 k2 (by omega) ((i : Int) + 2); rw [hrm] at h; exact h))) (fun _ => ?_) : RT _ _ _ _ _ _ 3 _)
          refine (run0 (z := 0) 2 [0, 2, 7, 11, 12, 13, 14, 106] [(0, .slice l.a l.l.length l.c), (2, .int .u8 t), (7, .pointer (some ⟨k, 0, none⟩)), (11, .int .i64 (y : Int)), (12, .slice (some ⟨nb, no, none⟩) D.length p.2), (13, .int .i64 (m : Int)), (14, .int .i64 (i : Int)), (106, .bool false)] (fun _ => by kernel_rfl) (endR ?_) : RT _ _ _ _ _ _ 2 _)
          refine condR (b := false) (by kernel_rfl) (fun _ => by kernel_rfl) (fun h => by cases h) (fun _ => ?_)
          refine skipR (by kernel_rfl) ?_
          refine regionR 3 (by kernel_rfl) (by kernel_rfl) ?_
          refine (run0 (z := 0) 3 [0, 2, 7, 11, 12, 13, 14] [(0, .slice l.a l.l.length l.c), (2, .int .u8 t), (7, .pointer (some ⟨k, 0, none⟩)), (11, .int .i64 (y : Int)), (12, .slice (some ⟨nb, no, none⟩) D.length p.2), (13, .int .i64 (IntKind.i64.wrap ((m : Int) + 1))), (14, .int .i64 (i : Int))] (fun _ => by kernel_rfl) (endR ?_) : RT _ _ _ _ _ _ 3 _)
          refine regionR 3 (by kernel_rfl) (by kernel_rfl) ?_
          refine (run0 (z := 0) 3 [0, 2, 7, 11, 12, 13, 14] [(0, .slice l.a l.l.length l.c), (2, .int .u8 t), (7, .pointer (some ⟨k, 0, none⟩)), (11, .int .i64 (y : Int)), (12, .slice (some ⟨nb, no, none⟩) D.length p.2), (13, .int .i64 (IntKind.i64.wrap ((m : Int) + 1))), (14, .int .i64 (IntKind.i64.wrap ((i : Int) + 1)))] (fun _ => by kernel_rfl) (endR ?_) : RT _ _ _ _ _ _ 3 _)
          refine PT.pick 0 rfl ?_
          refine PT.pick 1 rfl ?_
          rw [show IntKind.i64.wrap ((m : Int) + 1) = ((m : Int) + 1) by rw [w64 (by omega) (by omega)]]
          rw [show IntKind.i64.wrap ((i : Int) + 1) = ((i : Int) + 1) by rw [w64 (by omega) (by omega)]]
          rw [← hnA]
          refine PT.keep (L' := [(0, .slice l.a l.l.length l.c), (2, .int .u8 t), (7, .pointer (some ⟨k, 0, none⟩)), (11, .int .i64 (y : Int)), (12, .slice p.1 D.length p.2), (13, .int .i64 ((m : Int) + 1)), (14, .int .i64 ((i : Int) + 1))]) [0, 2, 7, 11, 12, 13, 14] rfl ?_
          exact againG (j2 - 1) (i + 1, m + 1) rfl rfl (by omega) ⟨by simp only; omega, by simp only; omega, hm1⟩
      · skip
        have hi : i = l.l.length := by have := of_decide_eq_false h2; omega
        have hmD : m = D.length := by rw [hi, List.drop_length] at hdr; have := List.drop_eq_nil_iff.1 hdr; omega
        refine exitR 2 (by kernel_rfl) (by kernel_rfl) ?_
        refine thenX ?_
        refine thenX ?_
        refine leaveR ?_
        refine seqR (by kernel_rfl) ?_
        refine regionR 13 (by kernel_rfl) (by kernel_rfl) ?_
        refine (run0 (z := 8) 5 [2, 7, 113] [(2, .int .u8 t), (7, .pointer (some ⟨k, 0, none⟩)), (113, .bool ((m : Int) == (D.length : Int)))] (fun _ => by kernel_rfl) ?_ : RT _ _ _ _ _ _ 13 _)
        rw [show ((m : Int) == (D.length : Int)) = true by simp; omega]
        refine (run0 (z := 5) 3 [113, 114, 116] [(113, .bool true), (114, .pointer (some ⟨k, 0, none⟩)), (116, .int .i64 (IntKind.i64.wrap t))] (fun _ => by kernel_rfl) ?_ : RT _ _ _ _ _ _ 8 _)
        rw [show IntKind.i64.wrap t = t by rw [w64 (by omega) (by omega)]]
        refine (RT.pick 0 rfl ?_ : RT _ _ _ (row (kE .i64) 3 (.slice p.1 D.length p.2) D :: kerS k s2 :: H) _ _ 5 _)
        refine (RT.pick 1 rfl ?_ : RT _ _ _ (row (kE .i64) 3 (.slice p.1 D.length p.2) D :: kerS k s2 :: H) _ _ 5 _)
        refine (stepR (z := 4) (callS 20 [.pointer (some ⟨k, 0, none⟩), .int .i64 t] (some 117) (fun (p2 : Option Addr × Nat) => .slice p2.1 0 p2.2) (fun (p2 : Option Addr × Nat) => row (kE .i64) 3 (.slice p2.1 0 p2.2) [] :: kerS k s3 :: row (kE .i64) 3 (.slice p.1 D.length p.2) D :: H) (fun _ => by kernel_rfl) ((by have h := krWake (row (kE .i64) 3 (.slice p.1 D.length p.2) D :: H) k s2 t; rw [e3] at h; exact h))) (fun (p2 : Option Addr × Nat) => ?_) : RT _ _ _ _ _ _ 5 _)
        refine (run0 (z := 0) 4 [6] [(6, .bool true)] (fun _ => by kernel_rfl) (endR ?_) : RT _ _ _ _ _ _ 4 _)
        refine retR (by kernel_rfl) ?_
        refine done0 (.bool true) (fun _ => by kernel_rfl) (fun w hs => ?_) .ret (.inr rfl)
        exact ⟨(), rfl, hs.tail.tail.tail⟩
theorem wakes_row (W : World) (ao : Option Addr) (c : Nat) (l : List Int) (g t : Int) (hrd : Rd (kE .u8) W (.slice ao l.length c) l) (hl : ∀ x ∈ l, (Lit.int .u8 x).wf = true) (hg : (Lit.int .u8 g).wf = true) (ht : (Lit.int .u8 t).wf = true) : Calls Tryz.prog 7 #[.slice ao l.length c, .int .u8 g, .int .u8 t] W (LawPost W) :=
  lawPost (fun _ _ h => h) (wakes10_walk [old W] ⟨ao, c, l⟩ g t (u8_wf hg) (u8_wf ht) (KR.old hrd 0 rfl) (fun x hx => u8_wf (hl x hx)) W (Sat.start W))
end Go.Proofs.YtlhjibkkkhgonaaGreat
