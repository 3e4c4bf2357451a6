/- TreeFair: its walk. Conditions: none. -/
import Derived.Test.YtjbjngikaiggdaaGreatTfq
set_option linter.unusedVariables false
set_option linter.unusedSimpArgs false
namespace Go.Proofs.YtjbjngikaiggdaaGreat
open Go.RowKit G
theorem bit_one : ∀ n : Fin 256, IntKind.u8.wrap ((BitVec.ofInt 8 (n.val : Int) &&& BitVec.ofInt 8 1).toNat : Int) = 0 ∨ IntKind.u8.wrap ((BitVec.ofInt 8 (n.val : Int) &&& BitVec.ofInt 8 1).toNat : Int) = 1 := by decide +kernel
theorem bit_id {o : Int} (h : 0 ≤ o ∧ o < 256) : ∃ d, IntKind.i64.wrap (20 + (IntKind.i64.wrap (2 * (IntKind.i64.wrap (IntKind.u8.wrap ((BitVec.ofInt 8 o &&& BitVec.ofInt 8 1).toNat : Int)))))) = d ∧ (d = 20 ∨ d = 22) := by
  refine ⟨_, rfl, ?_⟩
  have := bit_one ⟨o.toNat, by omega⟩
  rw [show (((⟨o.toNat, by omega⟩ : Fin 256).val : Nat) : Int) = o by show (o.toNat : Int) = o; omega] at this
  rcases this with e | e <;> rw [e] <;> decide
set_option maxHeartbeats 1000000 in
set_option maxRecDepth 100000 in
theorem tfair_walk (H : List SP) (s s2 : SV Int) (n : Int) (hn : 0 ≤ n ∧ n < 65536) (hk : KR H (kE .u8) s) (hw8 : ∀ x ∈ s.l, 0 ≤ x ∧ x < 256) (hk2 : KR H (kE .u8) s2) (hw82 : ∀ x ∈ s2.l, 0 ≤ x ∧ x < 256) : ∀ w, Sat w H → Calls Tryz.prog 3 #[.slice s.a s.l.length s.c, .slice s2.a s2.l.length s2.c, .int .u16 n] w (Ret (ι := Unit) (fun _ => .bool true) fun _ => H) := by
  have hnm := tmod_range hn.1 (m := 400) (by omega)
  obtain ⟨W, hW⟩ : ∃ W : Nat → Int, W = fun j => wOf (s.l.getD j 0) := ⟨_, rfl⟩
  have hWa : ∀ (j : Nat) v, s.l[j]? = some v → W j = wOf v := fun j v h => by rw [hW]; simp [List.getD_eq_getElem?_getD, h]
  have hWi : ∀ j, j < s.l.length → isW (W j) = true := fun j hj => by rw [hWa j _ (List.getElem?_eq_getElem hj)]; exact wOf_isW (hw8 _ (List.getElem_mem hj)).1
  clear hW
  refine enterG (fn := Tryz.f3) 157 [.slice s.a s.l.length s.c, .slice s2.a s2.l.length s2.c, .int .u16 n] Tryz.func3 (by kernel_rfl) (by kernel_rfl) (by kernel_rfl) ?_
  refine seqR (by kernel_rfl) ?_
  refine regionR 1 (by kernel_rfl) (by kernel_rfl) ?_
  refine (run0 (z := 0) 1 [0, 1, 2, 6] [(0, .slice s.a s.l.length s.c), (1, .slice s2.a s2.l.length s2.c), (2, .int .u16 n), (6, .bool false)] (fun _ => by kernel_rfl) (endR ?_) : RT _ _ _ _ _ _ 1 _)
  refine seqR (by kernel_rfl) ?_
  refine seqR (by kernel_rfl) ?_
  refine regionR 2 (by kernel_rfl) (by kernel_rfl) ?_
  refine (stepR (z := 1) (callS 5 [] (some 17) (fun _ => .bool true) (fun (_ : Unit) => (H)) (fun _ => by kernel_rfl) (known_true _)) (fun _ => ?_) : RT _ _ _ _ _ _ 2 _)
  refine (run0 (z := 0) 1 [0, 1, 2, 6, 18] [(0, .slice s.a s.l.length s.c), (1, .slice s2.a s2.l.length s2.c), (2, .int .u16 n), (6, .bool false), (18, .bool false)] (fun _ => by kernel_rfl) (endR ?_) : RT _ _ _ _ _ _ 1 _)
  refine condR (b := false) (by kernel_rfl) (fun _ => by kernel_rfl) (fun h => by cases h) (fun _ => ?_)
  refine skipR (by kernel_rfl) ?_
  refine seqR (by kernel_rfl) ?_
  refine seqR (by kernel_rfl) ?_
  refine regionR 13 (by kernel_rfl) (by kernel_rfl) ?_
  refine (run0 (z := 9) 4 [0, 1, 2, 6, 22] [(0, .slice s.a s.l.length s.c), (1, .slice s2.a s2.l.length s2.c), (2, .int .u16 n), (6, .bool false), (22, .bool (decide ((s.l.length : Int) < 1)))] (fun _ => by kernel_rfl) ?_ : RT _ _ _ _ _ _ 13 _)
  refine (segR (ι := Unit) (z := 5) 4 (fun _ => [(0, .slice s.a s.l.length s.c), (1, .slice s2.a s2.l.length s2.c), (2, .int .u16 n), (6, .bool false), (26, .bool ((decide ((s.l.length : Int) < 1)) || (decide ((s.l.length : Int) > 6))))]) (fun _ => (H)) ?_ (fun _ => ?_) : RT _ _ _ _ _ _ 9 _)
  · cases hg4 : (decide ((s.l.length : Int) < 1)) with
    | true =>
      refine (run0 (z := 0) 4 [0, 1, 2, 6, 26] [(0, .slice s.a s.l.length s.c), (1, .slice s2.a s2.l.length s2.c), (2, .int .u16 n), (6, .bool false), (26, .bool true)] (fun _ => by kernel_rfl) (endR ?_) : RT _ _ _ _ _ _ 4 _)
      refine PT.keep (L' := [(0, .slice s.a s.l.length s.c), (1, .slice s2.a s2.l.length s2.c), (2, .int .u16 n), (6, .bool false), (26, .bool (true || (decide ((s.l.length : Int) > 6))))]) [0, 1, 2, 6, 26] rfl ?_
      exact midR () rfl rfl
    | false =>
      refine (run0 (z := 0) 4 [0, 1, 2, 6, 26] [(0, .slice s.a s.l.length s.c), (1, .slice s2.a s2.l.length s2.c), (2, .int .u16 n), (6, .bool false), (26, .bool (decide ((s.l.length : Int) > 6)))] (fun _ => by kernel_rfl) (endR ?_) : RT _ _ _ _ _ _ 4 _)
      refine PT.keep (L' := [(0, .slice s.a s.l.length s.c), (1, .slice s2.a s2.l.length s2.c), (2, .int .u16 n), (6, .bool false), (26, .bool (false || (decide ((s.l.length : Int) > 6))))]) [0, 1, 2, 6, 26] rfl ?_
      exact midR () rfl rfl
  refine (run0 (z := 4) 1 [0, 1, 2, 6, 27] [(0, .slice s.a s.l.length s.c), (1, .slice s2.a s2.l.length s2.c), (2, .int .u16 n), (6, .bool false), (27, .bool ((decide ((s.l.length : Int) < 1)) || (decide ((s.l.length : Int) > 6))))] (fun _ => by kernel_rfl) ?_ : RT _ _ _ _ _ _ 5 _)
  refine (segR (ι := Unit) (z := 0) 4 (fun _ => [(0, .slice s.a s.l.length s.c), (1, .slice s2.a s2.l.length s2.c), (2, .int .u16 n), (6, .bool false), (31, .bool (((decide ((s.l.length : Int) < 1)) || (decide ((s.l.length : Int) > 6))) || (decide ((s2.l.length : Int) > 60))))]) (fun _ => (H)) ?_ (fun _ => ?_) : RT _ _ _ _ _ _ 4 _)
  · cases hg9 : ((decide ((s.l.length : Int) < 1)) || (decide ((s.l.length : Int) > 6))) with
    | true =>
      refine (run0 (z := 0) 4 [0, 1, 2, 6, 31] [(0, .slice s.a s.l.length s.c), (1, .slice s2.a s2.l.length s2.c), (2, .int .u16 n), (6, .bool false), (31, .bool true)] (fun _ => by kernel_rfl) (endR ?_) : RT _ _ _ _ _ _ 4 _)
      refine PT.keep (L' := [(0, .slice s.a s.l.length s.c), (1, .slice s2.a s2.l.length s2.c), (2, .int .u16 n), (6, .bool false), (31, .bool (true || (decide ((s2.l.length : Int) > 60))))]) [0, 1, 2, 6, 31] rfl ?_
      exact midR () rfl rfl
    | false =>
      refine (run0 (z := 0) 4 [0, 1, 2, 6, 31] [(0, .slice s.a s.l.length s.c), (1, .slice s2.a s2.l.length s2.c), (2, .int .u16 n), (6, .bool false), (31, .bool (decide ((s2.l.length : Int) > 60)))] (fun _ => by kernel_rfl) (endR ?_) : RT _ _ _ _ _ _ 4 _)
      refine PT.keep (L' := [(0, .slice s.a s.l.length s.c), (1, .slice s2.a s2.l.length s2.c), (2, .int .u16 n), (6, .bool false), (31, .bool (false || (decide ((s2.l.length : Int) > 60))))]) [0, 1, 2, 6, 31] rfl ?_
      exact midR () rfl rfl
  refine endR ?_
  refine condR (b := ((decide ((s.l.length : Int) < 1)) || (decide ((s.l.length : Int) > 6))) || (decide ((s2.l.length : Int) > 60))) (by kernel_rfl) (fun _ => by kernel_rfl) (fun h0 => ?_) (fun h0 => ?_)
  · skip
    refine seqR (by kernel_rfl) ?_
    refine regionR 1 (by kernel_rfl) (by kernel_rfl) ?_
    refine (run0 (z := 0) 1 [0, 1, 2, 6] [(0, .slice s.a s.l.length s.c), (1, .slice s2.a s2.l.length s2.c), (2, .int .u16 n), (6, .bool true)] (fun _ => by kernel_rfl) (endR ?_) : RT _ _ _ _ _ _ 1 _)
    refine retR (by kernel_rfl) ?_
    refine thenV ?_
    refine done0 (.bool true) (fun _ => by kernel_rfl) (fun w hs => ?_) .ret (.inr rfl)
    exact ⟨(), rfl, hs⟩
  · skip
    have hl : 1 ≤ s.l.length ∧ s.l.length ≤ 6 ∧ s2.l.length ≤ 60 := by simp only [Bool.or_eq_false_iff, decide_eq_false_iff_not] at h0; omega
    refine skipR (by kernel_rfl) ?_
    refine seqR (by kernel_rfl) ?_
    refine regionR 2 (by kernel_rfl) (by kernel_rfl) ?_
    refine (stepR (z := 1) (callS 6 [] (some 32) (fun (t : Nat) => .pointer (some ⟨t, 0, none⟩)) (fun (t : Nat) => (treeS t [rootN] :: H)) (fun _ => by kernel_rfl) (trNew _)) (fun (t : Nat) => ?_) : RT _ _ _ _ _ _ 2 _)
    refine (run0 (z := 0) 1 [0, 1, 2, 6, 7] [(0, .slice s.a s.l.length s.c), (1, .slice s2.a s2.l.length s2.c), (2, .int .u16 n), (6, .bool false), (7, .pointer (some ⟨t, 0, none⟩))] (fun _ => by kernel_rfl) (endR ?_) : RT _ _ _ _ _ _ 1 _)
    refine seqR (by kernel_rfl) ?_
    refine regionR 3 (by kernel_rfl) (by kernel_rfl) ?_
    refine (run0 (z := 0) 3 [0, 1, 2, 6, 7, 8] [(0, .slice s.a s.l.length s.c), (1, .slice s2.a s2.l.length s2.c), (2, .int .u16 n), (6, .bool false), (7, .pointer (some ⟨t, 0, none⟩)), (8, .int .i64 (s.l.length : Int))] (fun _ => by kernel_rfl) (endR ?_) : RT _ _ _ _ _ _ 3 _)
    refine seqR (by kernel_rfl) ?_
    refine regionR 1 (by kernel_rfl) (by kernel_rfl) ?_
    refine (stepR (z := 0) (newS 27 [.int .i64 0, .int .i64 0, .int .i64 0, .int .i64 0, .int .i64 0, .int .i64 0, .int .i64 0, .int .i64 0] (some 9) (fun b => .pointer (some ⟨b, 0, none⟩)) (fun _ _ => by kernel_rfl)) (fun b1 => ?_) : RT _ _ _ _ _ _ 1 _)
    refine endR ?_
    refine seqR (by kernel_rfl) ?_
    refine seqR (by kernel_rfl) ?_
    refine regionR 1 (by kernel_rfl) (by kernel_rfl) ?_
    refine (run0 (z := 0) 1 [9, 0, 1, 2, 6, 7, 8, 10] [(9, .pointer (some ⟨b1, 0, none⟩)), (0, .slice s.a s.l.length s.c), (1, .slice s2.a s2.l.length s2.c), (2, .int .u16 n), (6, .bool false), (7, .pointer (some ⟨t, 0, none⟩)), (8, .int .i64 (s.l.length : Int)), (10, .int .i64 0)] (fun _ => by kernel_rfl) (endR ?_) : RT _ _ _ _ _ _ 1 _)
    refine blockR 0 (by kernel_rfl) (by kernel_rfl) ?_
    refine PT.blkRows (E := kE .i64) [0, 0, 0, 0, 0, 0, 0, 0] (by decide) rfl ?_
    refine PT.keep (L' := [(0, .slice s.a s.l.length s.c), (1, .slice s2.a s2.l.length s2.c), (2, .int .u16 n), (7, .pointer (some ⟨t, 0, none⟩)), (8, .int .i64 (s.l.length : Int)), (9, .pointer (some ⟨b1, 0, none⟩)), (10, .int .i64 0)]) [0, 1, 2, 7, 8, 9, 10] rfl ?_
    refine loopG (fun (q : List Nr × Nat) => [(0, .slice s.a s.l.length s.c), (1, .slice s2.a s2.l.length s2.c), (2, .int .u16 n), (7, .pointer (some ⟨t, 0, none⟩)), (8, .int .i64 (s.l.length : Int)), (9, .pointer (some ⟨b1, 0, none⟩)), (10, .int .i64 (q.2 : Int))]) (fun (q : List Nr × Nat) => (row (kE .i64) 27 (.slice (some ⟨b1, 0, none⟩) 8 8) [0, 0, 0, 0, 0, 0, 0, 0] :: treeS t q.1 :: H)) (fun k (q : List Nr × Nat) => (k : Int) + q.2 = s.l.length ∧ ThI W q.2 q.1) s.l.length ([rootN], 0) (by kernel_rfl) ⟨by simp, ThI.start W⟩ ?_
    rintro k ⟨N, u⟩ ⟨hku, hI⟩
    simp only at hku hI
    refine seqR (by kernel_rfl) ?_
    refine seqR (by kernel_rfl) ?_
    refine regionR 3 (by kernel_rfl) (by kernel_rfl) ?_
    refine (run0 (z := 0) 3 [0, 1, 2, 7, 8, 9, 10, 37] [(0, .slice s.a s.l.length s.c), (1, .slice s2.a s2.l.length s2.c), (2, .int .u16 n), (7, .pointer (some ⟨t, 0, none⟩)), (8, .int .i64 (s.l.length : Int)), (9, .pointer (some ⟨b1, 0, none⟩)), (10, .int .i64 (u : Int)), (37, .bool (decide ((u : Int) < (s.l.length : Int))))] (fun _ => by kernel_rfl) (endR ?_) : RT _ _ _ _ _ _ 3 _)
    refine condR (b := decide ((u : Int) < (s.l.length : Int))) (by kernel_rfl) (fun _ => by kernel_rfl) (fun h1 => ?_) (fun h1 => ?_)
    · skip
      have hu : u < s.l.length := by have := of_decide_eq_true h1; omega
      obtain ⟨v, hv⟩ : ∃ v, s.l[u]? = some v := ⟨_, List.getElem?_eq_getElem hu⟩
      have hvb := hw8 v (List.mem_of_getElem? hv)
      have hWu := hWa u v hv
      obtain ⟨N1, N2, hA, hR, hI2⟩ := hI.add (by omega) (hWi u hu) rfl
      refine PT.know ((hk).up.up.isSome (List.ne_nil_of_length_pos (by omega))) ?_
      rintro ⟨sb, so, hA'⟩
      try rw [hA']
      refine skipR (by kernel_rfl) ?_
      refine seqR (by kernel_rfl) ?_
      refine blockR 1 (by kernel_rfl) (by kernel_rfl) ?_
      refine seqR (by kernel_rfl) ?_
      refine regionR 19 (by kernel_rfl) (by kernel_rfl) ?_
      refine (run0 (z := 14) 5 [0, 1, 2, 7, 8, 9, 10, 40, 42, 43, 44] [(0, .slice (some ⟨sb, so, none⟩) s.l.length s.c), (1, .slice s2.a s2.l.length s2.c), (2, .int .u16 n), (7, .pointer (some ⟨t, 0, none⟩)), (8, .int .i64 (s.l.length : Int)), (9, .pointer (some ⟨b1, 0, none⟩)), (10, .int .i64 (u : Int)), (40, .pointer (some ⟨t, 0, none⟩)), (42, .int .i64 (IntKind.i64.wrap ((u : Int) + 1))), (43, .slice (some ⟨sb, so, none⟩) s.l.length s.c), (44, .int .i64 (u : Int))] (fun _ => by kernel_rfl) ?_ : RT _ _ _ _ _ _ 19 _)
      refine (stepR (z := 13) (yldS (idxY 22 (.tmp 43) (.tmp 44) sb so s.l.length s.c u 1 5 (u : Int) .i64 (some 45) (fun _ => by kernel_rfl) (by kernel_rfl) (by kernel_rfl) (fun _ => by kernel_rfl) (fun _ => by kernel_rfl) Tryz.underlying22 (by kernel_rfl) (by first | rfl | assumption | simp) (by first | omega | (simp; done) | (simp; omega) | (simp at *; omega)))) (fun _ => ?_) : RT _ _ _ _ _ _ 14 _)
      refine (runR (H := (row (kE .i64) 27 (.slice (some ⟨b1, 0, none⟩) 8 8) [0, 0, 0, 0, 0, 0, 0, 0] :: treeS t N :: H)) (z := 9) 4 [0, 1, 2, 7, 8, 9, 10, 40, 42, 49] [(0, .slice (some ⟨sb, so, none⟩) s.l.length s.c), (1, .slice s2.a s2.l.length s2.c), (2, .int .u16 n), (7, .pointer (some ⟨t, 0, none⟩)), (8, .int .i64 (s.l.length : Int)), (9, .pointer (some ⟨b1, 0, none⟩)), (10, .int .i64 (u : Int)), (40, .pointer (some ⟨t, 0, none⟩)), (42, .int .i64 (IntKind.i64.wrap ((u : Int) + 1))), (49, .int .i64 (IntKind.i64.wrap ((IntKind.i64.wrap (Int.tmod v 16)) + 1)))] [(⟨sb, so + u * 1, none⟩, .int .u8 v)] (hasC (up (up (hk.cell hA' (i := u) (x := v) hv (j := 0) rfl))) has0) (fun _ => by kernel_rfl) ?_ : RT _ _ _ _ _ _ 13 _)
      try rw [← hA']
      rw [show IntKind.i64.wrap ((IntKind.i64.wrap (Int.tmod v 16)) + 1) = (W u) by rw [wOf_wrap hvb.1, hWu]]
      rw [show IntKind.i64.wrap ((u : Int) + 1) = ((u : Int) + 1) by rw [w64 (by omega) (by omega)]]
      refine (stepR (z := 8) (callS 7 [.pointer (some ⟨t, 0, none⟩), .int .i64 0, .int .i64 ((u : Int) + 1), .int .i64 (W u), .bool true] (some 50) (fun _ => .nilIface) (fun _ => (row (kE .i64) 27 (.slice (some ⟨b1, 0, none⟩) 8 8) [0, 0, 0, 0, 0, 0, 0, 0] :: treeS t N1 :: H)) (fun _ => by kernel_rfl) (chg_at (H := (row (kE .i64) 27 (.slice (some ⟨b1, 0, none⟩) 8 8) [0, 0, 0, 0, 0, 0, 0, 0] :: treeS t N :: H)) 1 rfl (trAdd_ok _ t hA))) (fun _ => ?_) : RT _ _ _ _ _ _ 9 _)
      refine (run0 (z := 3) 5 [0, 1, 2, 7, 8, 9, 10, 52, 53, 55] [(0, .slice s.a s.l.length s.c), (1, .slice s2.a s2.l.length s2.c), (2, .int .u16 n), (7, .pointer (some ⟨t, 0, none⟩)), (8, .int .i64 (s.l.length : Int)), (9, .pointer (some ⟨b1, 0, none⟩)), (10, .int .i64 (u : Int)), (52, .bool false), (53, .pointer (some ⟨t, 0, none⟩)), (55, .int .i64 (IntKind.i64.wrap ((u : Int) + 1)))] (fun _ => by kernel_rfl) ?_ : RT _ _ _ _ _ _ 8 _)
      rw [show IntKind.i64.wrap ((u : Int) + 1) = ((u : Int) + 1) by rw [w64 (by omega) (by omega)]]
      refine (stepR (z := 2) (callS 8 [.pointer (some ⟨t, 0, none⟩), .int .i64 ((u : Int) + 1), .bool true] (some 56) (fun _ => .nilIface) (fun _ => (row (kE .i64) 27 (.slice (some ⟨b1, 0, none⟩) 8 8) [0, 0, 0, 0, 0, 0, 0, 0] :: treeS t N2 :: H)) (fun _ => by kernel_rfl) (chg_at (H := (row (kE .i64) 27 (.slice (some ⟨b1, 0, none⟩) 8 8) [0, 0, 0, 0, 0, 0, 0, 0] :: treeS t N1 :: H)) 1 rfl (trReady_ok _ t hR))) (fun _ => ?_) : RT _ _ _ _ _ _ 3 _)
      refine (run0 (z := 0) 2 [0, 1, 2, 7, 8, 9, 10, 58] [(0, .slice s.a s.l.length s.c), (1, .slice s2.a s2.l.length s2.c), (2, .int .u16 n), (7, .pointer (some ⟨t, 0, none⟩)), (8, .int .i64 (s.l.length : Int)), (9, .pointer (some ⟨b1, 0, none⟩)), (10, .int .i64 (u : Int)), (58, .bool false)] (fun _ => by kernel_rfl) (endR ?_) : RT _ _ _ _ _ _ 2 _)
      refine condR (b := false) (by kernel_rfl) (fun _ => by kernel_rfl) (fun h => by cases h) (fun _ => ?_)
      refine skipR (by kernel_rfl) ?_
      refine regionR 3 (by kernel_rfl) (by kernel_rfl) ?_
      refine (run0 (z := 0) 3 [0, 1, 2, 7, 8, 9, 10] [(0, .slice s.a s.l.length s.c), (1, .slice s2.a s2.l.length s2.c), (2, .int .u16 n), (7, .pointer (some ⟨t, 0, none⟩)), (8, .int .i64 (s.l.length : Int)), (9, .pointer (some ⟨b1, 0, none⟩)), (10, .int .i64 (IntKind.i64.wrap ((u : Int) + 1)))] (fun _ => by kernel_rfl) (endR ?_) : RT _ _ _ _ _ _ 3 _)
      rw [show IntKind.i64.wrap ((u : Int) + 1) = ((u : Int) + 1) by rw [w64 (by omega) (by omega)]]
      refine PT.keep (L' := [(0, .slice s.a s.l.length s.c), (1, .slice s2.a s2.l.length s2.c), (2, .int .u16 n), (7, .pointer (some ⟨t, 0, none⟩)), (8, .int .i64 (s.l.length : Int)), (9, .pointer (some ⟨b1, 0, none⟩)), (10, .int .i64 ((u : Int) + 1))]) [0, 1, 2, 7, 8, 9, 10] rfl ?_
      exact againG (k - 1) (N2, u + 1) rfl rfl (by omega) ⟨by simp only; omega, hI2⟩
    · skip
      have hu : u = s.l.length := by have := of_decide_eq_false h1; omega
      rw [hu] at hI
      clear hku hu h1
      obtain ⟨Na, Nb, Nc, hAa, hAb, hAc, hI0, hR0⟩ := fa_start hI (by omega)
      clear hI
      refine exitR 0 (by kernel_rfl) (by kernel_rfl) ?_
      refine thenX ?_
      refine thenX ?_
      refine leaveR ?_
      refine seqR (by kernel_rfl) ?_
      refine seqR (by kernel_rfl) ?_
      refine regionR 13 (by kernel_rfl) (by kernel_rfl) ?_
      refine (run0 (z := 12) 1 [0, 1, 2, 7, 8, 9, 59] [(0, .slice s.a s.l.length s.c), (1, .slice s2.a s2.l.length s2.c), (2, .int .u16 n), (7, .pointer (some ⟨t, 0, none⟩)), (8, .int .i64 (s.l.length : Int)), (9, .pointer (some ⟨b1, 0, none⟩)), (59, .pointer (some ⟨t, 0, none⟩))] (fun _ => by kernel_rfl) ?_ : RT _ _ _ _ _ _ 13 _)
      refine (stepR (z := 11) (callS 7 [.pointer (some ⟨t, 0, none⟩), .int .i64 0, .int .i64 20, .int .i64 7, .bool true] (some 60) (fun _ => .nilIface) (fun _ => (row (kE .i64) 27 (.slice (some ⟨b1, 0, none⟩) 8 8) [0, 0, 0, 0, 0, 0, 0, 0] :: treeS t Na :: H)) (fun _ => by kernel_rfl) (chg_at (H := (row (kE .i64) 27 (.slice (some ⟨b1, 0, none⟩) 8 8) [0, 0, 0, 0, 0, 0, 0, 0] :: treeS t N :: H)) 1 rfl (trAdd_ok _ t hAa))) (fun _ => ?_) : RT _ _ _ _ _ _ 12 _)
      refine (run0 (z := 8) 3 [0, 1, 2, 7, 8, 9, 62, 63] [(0, .slice s.a s.l.length s.c), (1, .slice s2.a s2.l.length s2.c), (2, .int .u16 n), (7, .pointer (some ⟨t, 0, none⟩)), (8, .int .i64 (s.l.length : Int)), (9, .pointer (some ⟨b1, 0, none⟩)), (62, .bool false), (63, .pointer (some ⟨t, 0, none⟩))] (fun _ => by kernel_rfl) ?_ : RT _ _ _ _ _ _ 11 _)
      refine (stepR (z := 7) (callS 7 [.pointer (some ⟨t, 0, none⟩), .int .i64 0, .int .i64 21, .int .i64 3, .bool false] (some 64) (fun _ => .nilIface) (fun _ => (row (kE .i64) 27 (.slice (some ⟨b1, 0, none⟩) 8 8) [0, 0, 0, 0, 0, 0, 0, 0] :: treeS t Nb :: H)) (fun _ => by kernel_rfl) (chg_at (H := (row (kE .i64) 27 (.slice (some ⟨b1, 0, none⟩) 8 8) [0, 0, 0, 0, 0, 0, 0, 0] :: treeS t Na :: H)) 1 rfl (trAdd_ok _ t hAb))) (fun _ => ?_) : RT _ _ _ _ _ _ 8 _)
      refine (run0 (z := 3) 4 [0, 1, 2, 7, 8, 9, 67, 68] [(0, .slice s.a s.l.length s.c), (1, .slice s2.a s2.l.length s2.c), (2, .int .u16 n), (7, .pointer (some ⟨t, 0, none⟩)), (8, .int .i64 (s.l.length : Int)), (9, .pointer (some ⟨b1, 0, none⟩)), (67, .bool false), (68, .pointer (some ⟨t, 0, none⟩))] (fun _ => by kernel_rfl) ?_ : RT _ _ _ _ _ _ 7 _)
      refine (stepR (z := 2) (callS 7 [.pointer (some ⟨t, 0, none⟩), .int .i64 21, .int .i64 22, .int .i64 5, .bool true] (some 69) (fun _ => .nilIface) (fun _ => (row (kE .i64) 27 (.slice (some ⟨b1, 0, none⟩) 8 8) [0, 0, 0, 0, 0, 0, 0, 0] :: treeS t Nc :: H)) (fun _ => by kernel_rfl) (chg_at (H := (row (kE .i64) 27 (.slice (some ⟨b1, 0, none⟩) 8 8) [0, 0, 0, 0, 0, 0, 0, 0] :: treeS t Nb :: H)) 1 rfl (trAdd_ok _ t hAc))) (fun _ => ?_) : RT _ _ _ _ _ _ 3 _)
      refine (run0 (z := 0) 2 [0, 1, 2, 7, 8, 9, 71] [(0, .slice s.a s.l.length s.c), (1, .slice s2.a s2.l.length s2.c), (2, .int .u16 n), (7, .pointer (some ⟨t, 0, none⟩)), (8, .int .i64 (s.l.length : Int)), (9, .pointer (some ⟨b1, 0, none⟩)), (71, .bool false)] (fun _ => by kernel_rfl) (endR ?_) : RT _ _ _ _ _ _ 2 _)
      refine condR (b := false) (by kernel_rfl) (fun _ => by kernel_rfl) (fun h => by cases h) (fun _ => ?_)
      refine skipR (by kernel_rfl) ?_
      refine seqR (by kernel_rfl) ?_
      refine seqR (by kernel_rfl) ?_
      refine regionR 1 (by kernel_rfl) (by kernel_rfl) ?_
      refine (run0 (z := 0) 1 [0, 1, 2, 7, 8, 9, 11] [(0, .slice s.a s.l.length s.c), (1, .slice s2.a s2.l.length s2.c), (2, .int .u16 n), (7, .pointer (some ⟨t, 0, none⟩)), (8, .int .i64 (s.l.length : Int)), (9, .pointer (some ⟨b1, 0, none⟩)), (11, .int .i64 0)] (fun _ => by kernel_rfl) (endR ?_) : RT _ _ _ _ _ _ 1 _)
      refine blockR 2 (by kernel_rfl) (by kernel_rfl) ?_
      refine PT.keep (L' := [(0, .slice s.a s.l.length s.c), (1, .slice s2.a s2.l.length s2.c), (2, .int .u16 n), (7, .pointer (some ⟨t, 0, none⟩)), (8, .int .i64 (s.l.length : Int)), (9, .pointer (some ⟨b1, 0, none⟩)), (11, .int .i64 0)]) [0, 1, 2, 7, 8, 9, 11] rfl ?_
      refine loopG (fun (q : List Nr × List Int × Nat) => [(0, .slice s.a s.l.length s.c), (1, .slice s2.a s2.l.length s2.c), (2, .int .u16 n), (7, .pointer (some ⟨t, 0, none⟩)), (8, .int .i64 (s.l.length : Int)), (9, .pointer (some ⟨b1, 0, none⟩)), (11, .int .i64 (q.2.2 : Int))]) (fun (q : List Nr × List Int × Nat) => (row (kE .i64) 27 (.slice (some ⟨b1, 0, none⟩) 8 8) q.2.1 :: treeS t q.1 :: H)) (fun k (q : List Nr × List Int × Nat) => (k : Int) + q.2.2 = n.tmod 400 ∧ FaI W s.l.length q.1 ∧ FaR W s.l.length q.1 q.2.1 q.2.2) (n.tmod 400).toNat (Nc, [0, 0, 0, 0, 0, 0, 0, 0], 0) (by kernel_rfl) ⟨by simp only; omega, hI0, hR0⟩ ?_
      rintro k2 ⟨N3, xs, v⟩ ⟨hkv, hI3, hR3⟩
      simp only at hkv hI3 hR3
      refine seqR (by kernel_rfl) ?_
      refine seqR (by kernel_rfl) ?_
      refine regionR 5 (by kernel_rfl) (by kernel_rfl) ?_
      refine (run0 (z := 0) 5 [0, 1, 2, 7, 8, 9, 11, 76] [(0, .slice s.a s.l.length s.c), (1, .slice s2.a s2.l.length s2.c), (2, .int .u16 n), (7, .pointer (some ⟨t, 0, none⟩)), (8, .int .i64 (s.l.length : Int)), (9, .pointer (some ⟨b1, 0, none⟩)), (11, .int .i64 (v : Int)), (76, .bool (decide ((v : Int) < (IntKind.i64.wrap (Int.tmod n 400)))))] (fun _ => by kernel_rfl) (endR ?_) : RT _ _ _ _ _ _ 5 _)
      rw [show IntKind.i64.wrap (Int.tmod n 400) = (Int.tmod n 400) by rw [w64 (by omega) (by omega)]]
      refine condR (b := decide ((v : Int) < (Int.tmod n 400))) (by kernel_rfl) (fun _ => by kernel_rfl) (fun h2 => ?_) (fun h2 => ?_)
      · skip
        have hv := of_decide_eq_true h2
        refine skipR (by kernel_rfl) ?_
        refine seqR (by kernel_rfl) ?_
        refine blockR 3 (by kernel_rfl) (by kernel_rfl) ?_
        refine seqR (by kernel_rfl) ?_
        refine seqR (by kernel_rfl) ?_
        refine regionR 3 (by kernel_rfl) (by kernel_rfl) ?_
        refine (run0 (z := 0) 3 [0, 1, 2, 7, 8, 9, 11, 81] [(0, .slice s.a s.l.length s.c), (1, .slice s2.a s2.l.length s2.c), (2, .int .u16 n), (7, .pointer (some ⟨t, 0, none⟩)), (8, .int .i64 (s.l.length : Int)), (9, .pointer (some ⟨b1, 0, none⟩)), (11, .int .i64 (v : Int)), (81, .bool (decide ((s2.l.length : Int) > 0)))] (fun _ => by kernel_rfl) (endR ?_) : RT _ _ _ _ _ _ 3 _)
        refine joinR (fun (Nq : { N' : List Nr // FaI W s.l.length N' ∧ FaR W s.l.length N' xs v }) => [(0, .slice s.a s.l.length s.c), (1, .slice s2.a s2.l.length s2.c), (2, .int .u16 n), (7, .pointer (some ⟨t, 0, none⟩)), (8, .int .i64 (s.l.length : Int)), (9, .pointer (some ⟨b1, 0, none⟩)), (11, .int .i64 (v : Int)), (81, .bool (decide ((s2.l.length : Int) > 0)))]) (fun (Nq : { N' : List Nr // FaI W s.l.length N' ∧ FaR W s.l.length N' xs v }) => (row (kE .i64) 27 (.slice (some ⟨b1, 0, none⟩) 8 8) xs :: treeS t Nq.1 :: H)) ?_ (fun Nq => ?_)
        · skip
          refine condR (b := decide ((s2.l.length : Int) > 0)) (by kernel_rfl) (fun _ => by kernel_rfl) (fun c1 => ?_) (fun c1 => ?_)
          · skip
            have hl2 : 0 < s2.l.length := by have := of_decide_eq_true c1; omega
            refine seqR (by kernel_rfl) ?_
            refine regionR 8 (by kernel_rfl) (by kernel_rfl) ?_
            refine (run0 (z := 4) 4 [0, 1, 2, 7, 8, 9, 11, 81, 82, 83, 85] [(0, .slice s.a s.l.length s.c), (1, .slice s2.a s2.l.length s2.c), (2, .int .u16 n), (7, .pointer (some ⟨t, 0, none⟩)), (8, .int .i64 (s.l.length : Int)), (9, .pointer (some ⟨b1, 0, none⟩)), (11, .int .i64 (v : Int)), (81, .bool (decide ((s2.l.length : Int) > 0))), (82, .slice s2.a s2.l.length s2.c), (83, .int .i64 (v : Int)), (85, .int .i64 (s2.l.length : Int))] (fun _ => by kernel_rfl) ?_ : RT _ _ _ _ _ _ 8 _)
            refine (stepR (z := 3) (yldS (binY .rem 3 3 (.tmp 83) (.tmp 85) (.int .i64 (v : Int)) (.int .i64 (s2.l.length : Int)) (.int .i64 ((v : Int).tmod (s2.l.length : Int))) (some 86) (fun _ => by kernel_rfl) (by kernel_rfl) (by kernel_rfl) (fun _ => by kernel_rfl) (fun _ => by kernel_rfl) (remR (t' := 0) (by omega)))) (fun _ => ?_) : RT _ _ _ _ _ _ 4 _)
            obtain ⟨m2, hm2⟩ : ∃ m2, m2 = v % s2.l.length := ⟨_, rfl⟩
            have hm2l : m2 < s2.l.length := by rw [hm2]; exact Nat.mod_lt _ hl2
            rw [show (v : Int).tmod (s2.l.length : Int) = (m2 : Int) by rw [Int.tmod_eq_emod_of_nonneg (by omega), hm2, Int.natCast_emod]]
            obtain ⟨o, ho⟩ : ∃ o, s2.l[m2]? = some o := ⟨_, List.getElem?_eq_getElem hm2l⟩
            have hob := hw82 o (List.mem_of_getElem? ho)
            refine PT.know ((hk2).up.up.isSome (List.ne_nil_of_length_pos (by omega))) ?_
            rintro ⟨sb, so, hA'⟩
            try rw [hA']
            refine (stepR (z := 2) (yldS (idxY 22 (.tmp 82) (.tmp 86) sb so s2.l.length s2.c m2 1 5 (m2 : Int) .i64 (some 87) (fun _ => by kernel_rfl) (by kernel_rfl) (by kernel_rfl) (fun _ => by kernel_rfl) (fun _ => by kernel_rfl) Tryz.underlying22 (by kernel_rfl) (by first | rfl | assumption | simp) (by first | omega | (simp; done) | (simp; omega) | (simp at *; omega)))) (fun _ => ?_) : RT _ _ _ _ _ _ 3 _)
            refine (runR (H := (row (kE .i64) 27 (.slice (some ⟨b1, 0, none⟩) 8 8) xs :: treeS t N3 :: H)) (z := 0) 2 [0, 1, 2, 7, 8, 9, 11, 81, 12] [(0, .slice s.a s.l.length s.c), (1, .slice (some ⟨sb, so, none⟩) s2.l.length s2.c), (2, .int .u16 n), (7, .pointer (some ⟨t, 0, none⟩)), (8, .int .i64 (s.l.length : Int)), (9, .pointer (some ⟨b1, 0, none⟩)), (11, .int .i64 (v : Int)), (81, .bool (decide ((s2.l.length : Int) > 0))), (12, .int .u8 o)] [(⟨sb, so + m2 * 1, none⟩, .int .u8 o)] (hasC (up (up (hk2.cell hA' (i := m2) (x := o) ho (j := 0) rfl))) has0) (fun _ => by kernel_rfl) (endR ?_) : RT _ _ _ _ _ _ 2 _)
            refine seqR (by kernel_rfl) ?_
            refine regionR 10 (by kernel_rfl) (by kernel_rfl) ?_
            refine (run0 (z := 1) 9 [0, 1, 2, 7, 8, 9, 11, 81, 12, 89, 94, 97] [(0, .slice s.a s.l.length s.c), (1, .slice (some ⟨sb, so, none⟩) s2.l.length s2.c), (2, .int .u16 n), (7, .pointer (some ⟨t, 0, none⟩)), (8, .int .i64 (s.l.length : Int)), (9, .pointer (some ⟨b1, 0, none⟩)), (11, .int .i64 (v : Int)), (81, .bool (decide ((s2.l.length : Int) > 0))), (12, .int .u8 o), (89, .pointer (some ⟨t, 0, none⟩)), (94, .int .i64 (IntKind.i64.wrap (20 + (IntKind.i64.wrap (2 * (IntKind.i64.wrap (IntKind.u8.wrap ((BitVec.ofInt 8 o &&& BitVec.ofInt 8 1).toNat : Int)))))))), (97, .bool (decide ((IntKind.u8.wrap ((BitVec.ofInt 8 o &&& BitVec.ofInt 8 2).toNat : Int)) > 0)))] (fun _ => by kernel_rfl) ?_ : RT _ _ _ _ _ _ 10 _)
            try rw [← hA']
            obtain ⟨d, hd, hd2⟩ := bit_id hob
            rw [show IntKind.i64.wrap (20 + (IntKind.i64.wrap (2 * (IntKind.i64.wrap (IntKind.u8.wrap ((BitVec.ofInt 8 o &&& BitVec.ofInt 8 1).toNat : Int)))))) = d by exact hd]
            obtain ⟨r, hr⟩ : ∃ r, decide ((IntKind.u8.wrap ((BitVec.ofInt 8 o &&& BitVec.ofInt 8 2).toNat : Int)) > 0) = r := ⟨_, rfl⟩
            rw [show decide ((IntKind.u8.wrap ((BitVec.ofInt 8 o &&& BitVec.ofInt 8 2).toNat : Int)) > 0) = r by exact hr]
            obtain ⟨hIr, hps⟩ := hI3.ready (by omega) hd2 r
            refine (stepR (z := 0) (callS 8 [.pointer (some ⟨t, 0, none⟩), .int .i64 d, .bool r] (some 98) (fun _ => pqErr (readyN N3 d r).1) (fun _ => (row (kE .i64) 27 (.slice (some ⟨b1, 0, none⟩) 8 8) xs :: treeS t (readyN N3 d r).2 :: H)) (fun _ => by kernel_rfl) (chg_at (H := (row (kE .i64) 27 (.slice (some ⟨b1, 0, none⟩) 8 8) xs :: treeS t N3 :: H)) 1 rfl (trReady _ t N3 d r))) (fun _ => ?_) : RT _ _ _ _ _ _ 1 _)
            refine endR ?_
            refine seqR (by kernel_rfl) ?_
            refine regionR 3 (by kernel_rfl) (by kernel_rfl) ?_
            refine (run0 (z := 0) 3 [0, 1, 2, 7, 8, 9, 11, 81, 12, 101] [(0, .slice s.a s.l.length s.c), (1, .slice s2.a s2.l.length s2.c), (2, .int .u16 n), (7, .pointer (some ⟨t, 0, none⟩)), (8, .int .i64 (s.l.length : Int)), (9, .pointer (some ⟨b1, 0, none⟩)), (11, .int .i64 (v : Int)), (81, .bool (decide ((s2.l.length : Int) > 0))), (12, .int .u8 o), (101, .bool ((IntKind.u8.wrap ((BitVec.ofInt 8 o &&& BitVec.ofInt 8 12).toNat : Int)) == 12))] (fun _ => by kernel_rfl) (endR ?_) : RT _ _ _ _ _ _ 3 _)
            refine condR (b := (IntKind.u8.wrap ((BitVec.ofInt 8 o &&& BitVec.ofInt 8 12).toNat : Int)) == 12) (by kernel_rfl) (fun _ => by kernel_rfl) (fun c2 => ?_) (fun c2 => ?_)
            · skip
              obtain ⟨V, hV⟩ : ∃ V, IntKind.i64.wrap ((IntKind.i64.wrap (Int.fdiv o 16)) + 1) = V := ⟨_, rfl⟩
              obtain ⟨hIw, hpw⟩ := hIr.weight (by omega) V
              refine regionR 6 (by kernel_rfl) (by kernel_rfl) ?_
              refine (run0 (z := 1) 5 [0, 1, 2, 7, 8, 9, 11, 81, 102, 106] [(0, .slice s.a s.l.length s.c), (1, .slice s2.a s2.l.length s2.c), (2, .int .u16 n), (7, .pointer (some ⟨t, 0, none⟩)), (8, .int .i64 (s.l.length : Int)), (9, .pointer (some ⟨b1, 0, none⟩)), (11, .int .i64 (v : Int)), (81, .bool (decide ((s2.l.length : Int) > 0))), (102, .pointer (some ⟨t, 0, none⟩)), (106, .int .i64 (IntKind.i64.wrap ((IntKind.i64.wrap (Int.fdiv o 16)) + 1)))] (fun _ => by kernel_rfl) ?_ : RT _ _ _ _ _ _ 6 _)
              rw [show IntKind.i64.wrap ((IntKind.i64.wrap (Int.fdiv o 16)) + 1) = V by exact hV]
              refine (stepR (z := 0) (callS 9 [.pointer (some ⟨t, 0, none⟩), .int .i64 20, .int .i64 V] (some 107) (fun _ => pqErr (weightN (readyN N3 d r).2 20 V).1) (fun _ => (row (kE .i64) 27 (.slice (some ⟨b1, 0, none⟩) 8 8) xs :: treeS t (weightN (readyN N3 d r).2 20 V).2 :: H)) (fun _ => by kernel_rfl) (chg_at (H := (row (kE .i64) 27 (.slice (some ⟨b1, 0, none⟩) 8 8) xs :: treeS t (readyN N3 d r).2 :: H)) 1 rfl (trWeight _ t (readyN N3 d r).2 20 V))) (fun _ => ?_) : RT _ _ _ _ _ _ 1 _)
              refine endR ?_
              refine PT.keep (L' := [(0, .slice s.a s.l.length s.c), (1, .slice s2.a s2.l.length s2.c), (2, .int .u16 n), (7, .pointer (some ⟨t, 0, none⟩)), (8, .int .i64 (s.l.length : Int)), (9, .pointer (some ⟨b1, 0, none⟩)), (11, .int .i64 (v : Int)), (81, .bool (decide ((s2.l.length : Int) > 0)))]) [0, 1, 2, 7, 8, 9, 11, 81] rfl ?_
              exact midR (⟨(weightN (readyN N3 d r).2 20 V).2, hIw, (hR3.same hps).same hpw⟩) rfl rfl
            · skip
              refine skipR (by kernel_rfl) ?_
              refine PT.keep (L' := [(0, .slice s.a s.l.length s.c), (1, .slice s2.a s2.l.length s2.c), (2, .int .u16 n), (7, .pointer (some ⟨t, 0, none⟩)), (8, .int .i64 (s.l.length : Int)), (9, .pointer (some ⟨b1, 0, none⟩)), (11, .int .i64 (v : Int)), (81, .bool (decide ((s2.l.length : Int) > 0)))]) [0, 1, 2, 7, 8, 9, 11, 81] rfl ?_
              exact midR (⟨(readyN N3 d r).2, hIr, hR3.same hps⟩) rfl rfl
          · skip
            refine skipR (by kernel_rfl) ?_
            refine PT.keep (L' := [(0, .slice s.a s.l.length s.c), (1, .slice s2.a s2.l.length s2.c), (2, .int .u16 n), (7, .pointer (some ⟨t, 0, none⟩)), (8, .int .i64 (s.l.length : Int)), (9, .pointer (some ⟨b1, 0, none⟩)), (11, .int .i64 (v : Int)), (81, .bool (decide ((s2.l.length : Int) > 0)))]) [0, 1, 2, 7, 8, 9, 11, 81] rfl ?_
            exact midR (⟨N3, hI3, hR3⟩) rfl rfl
        obtain ⟨N4, hI4, hR4⟩ := Nq
        obtain ⟨id, N5, hrun, hI5, hor⟩ := fa_run hI4 (by omega)
        refine seqR (by kernel_rfl) ?_
        refine regionR 7 (by kernel_rfl) (by kernel_rfl) ?_
        refine (run0 (z := 6) 1 [0, 1, 2, 7, 8, 9, 11, 109] [(0, .slice s.a s.l.length s.c), (1, .slice s2.a s2.l.length s2.c), (2, .int .u16 n), (7, .pointer (some ⟨t, 0, none⟩)), (8, .int .i64 (s.l.length : Int)), (9, .pointer (some ⟨b1, 0, none⟩)), (11, .int .i64 (v : Int)), (109, .pointer (some ⟨t, 0, none⟩))] (fun _ => by kernel_rfl) ?_ : RT _ _ _ _ _ _ 7 _)
        refine (stepR (z := 5) (callS 10 [.pointer (some ⟨t, 0, none⟩)] (some 110) (fun _ => .tuple #[.int .i64 id, .bool true]) (fun _ => (row (kE .i64) 27 (.slice (some ⟨b1, 0, none⟩) 8 8) xs :: treeS t N5 :: H)) (fun _ => by kernel_rfl) (chg_at (H := (row (kE .i64) 27 (.slice (some ⟨b1, 0, none⟩) 8 8) xs :: treeS t N4 :: H)) 1 rfl (trRun_is _ t hrun))) (fun _ => ?_) : RT _ _ _ _ _ _ 6 _)
        refine (run0 (z := 0) 5 [0, 1, 2, 7, 8, 9, 11, 13, 14] [(0, .slice s.a s.l.length s.c), (1, .slice s2.a s2.l.length s2.c), (2, .int .u16 n), (7, .pointer (some ⟨t, 0, none⟩)), (8, .int .i64 (s.l.length : Int)), (9, .pointer (some ⟨b1, 0, none⟩)), (11, .int .i64 (v : Int)), (13, .int .i64 id), (14, .bool true)] (fun _ => by kernel_rfl) (endR ?_) : RT _ _ _ _ _ _ 5 _)
        refine seqR (by kernel_rfl) ?_
        refine seqR (by kernel_rfl) ?_
        refine regionR 2 (by kernel_rfl) (by kernel_rfl) ?_
        refine (run0 (z := 0) 2 [0, 1, 2, 7, 8, 9, 11, 13, 114] [(0, .slice s.a s.l.length s.c), (1, .slice s2.a s2.l.length s2.c), (2, .int .u16 n), (7, .pointer (some ⟨t, 0, none⟩)), (8, .int .i64 (s.l.length : Int)), (9, .pointer (some ⟨b1, 0, none⟩)), (11, .int .i64 (v : Int)), (13, .int .i64 id), (114, .bool false)] (fun _ => by kernel_rfl) (endR ?_) : RT _ _ _ _ _ _ 2 _)
        refine condR (b := false) (by kernel_rfl) (fun _ => by kernel_rfl) (fun h => by cases h) (fun _ => ?_)
        refine skipR (by kernel_rfl) ?_
        refine seqR (by kernel_rfl) ?_
        refine seqR (by kernel_rfl) ?_
        refine regionR 3 (by kernel_rfl) (by kernel_rfl) ?_
        refine (run0 (z := 0) 3 [0, 1, 2, 7, 8, 9, 11, 13, 117] [(0, .slice s.a s.l.length s.c), (1, .slice s2.a s2.l.length s2.c), (2, .int .u16 n), (7, .pointer (some ⟨t, 0, none⟩)), (8, .int .i64 (s.l.length : Int)), (9, .pointer (some ⟨b1, 0, none⟩)), (11, .int .i64 (v : Int)), (13, .int .i64 id), (117, .bool (decide (id ≤ (s.l.length : Int))))] (fun _ => by kernel_rfl) (endR ?_) : RT _ _ _ _ _ _ 3 _)
        refine joinR (fun (xq : { xs' : List Int // FaR W s.l.length N5 xs' ((v + 1 : Nat) : Int) }) => [(0, .slice s.a s.l.length s.c), (1, .slice s2.a s2.l.length s2.c), (2, .int .u16 n), (7, .pointer (some ⟨t, 0, none⟩)), (8, .int .i64 (s.l.length : Int)), (9, .pointer (some ⟨b1, 0, none⟩)), (11, .int .i64 (v : Int)), (13, .int .i64 id), (117, .bool (decide (id ≤ (s.l.length : Int))))]) (fun (xq : { xs' : List Int // FaR W s.l.length N5 xs' ((v + 1 : Nat) : Int) }) => (row (kE .i64) 27 (.slice (some ⟨b1, 0, none⟩) 8 8) xq.1 :: treeS t N5 :: H)) ?_ (fun xq => ?_)
        · skip
          rcases hor with ⟨j, hj, rfl, δ, hd⟩ | ⟨hlt, δ, hd⟩
          · skip
            have hxj := cntL_at (xs := xs) (j := j) (by rw [hR4.len]; omega)
            have hcj := hR4.le j hj
            rw [show (decide (((j + 1 : Nat) : Int) ≤ (s.l.length : Int))) = true from by first | exact decide_eq_true (by omega) | (simp; done) | (simp; omega)]
            refine condR (b := true) (by kernel_rfl) (fun _ => by kernel_rfl) (fun _ => ?_) (fun h => by cases h)
            refine regionR 6 (by kernel_rfl) (by kernel_rfl) ?_
            refine (run0 (z := 5) 1 [0, 1, 2, 7, 8, 9, 11, 13, 117, 118] [(0, .slice s.a s.l.length s.c), (1, .slice s2.a s2.l.length s2.c), (2, .int .u16 n), (7, .pointer (some ⟨t, 0, none⟩)), (8, .int .i64 (s.l.length : Int)), (9, .pointer (some ⟨b1, 0, none⟩)), (11, .int .i64 (v : Int)), (13, .int .i64 ((j + 1 : Nat) : Int)), (117, .bool true), (118, .int .i64 ((j + 1 : Nat) : Int))] (fun _ => by kernel_rfl) ?_ : RT _ _ _ _ _ _ 6 _)
            refine (stepR (z := 4) (yldS (aidxY 27 (.tmp 9) (.tmp 118) b1 0 8 (j + 1) 1 3 ((j + 1 : Nat) : Int) .i64 (some 119) (fun _ => by kernel_rfl) (by kernel_rfl) (by kernel_rfl) (fun _ => by kernel_rfl) (fun _ => by kernel_rfl) Tryz.underlying27 (by kernel_rfl) (by first | rfl | assumption | simp | omega) (by first | omega | decide | (simp; done) | (simp; omega) | (simp at *; omega)))) (fun _ => ?_) : RT _ _ _ _ _ _ 5 _)
            refine (runR (H := (row (kE .i64) 27 (.slice (some ⟨b1, 0, none⟩) 8 8) xs :: treeS t N5 :: H)) (z := 2) 2 [0, 1, 2, 7, 8, 9, 11, 13, 117, 118, 121] [(0, .slice s.a s.l.length s.c), (1, .slice s2.a s2.l.length s2.c), (2, .int .u16 n), (7, .pointer (some ⟨t, 0, none⟩)), (8, .int .i64 (s.l.length : Int)), (9, .pointer (some ⟨b1, 0, none⟩)), (11, .int .i64 (v : Int)), (13, .int .i64 ((j + 1 : Nat) : Int)), (117, .bool true), (118, .int .i64 ((j + 1 : Nat) : Int)), (121, .int .i64 (IntKind.i64.wrap ((cntL xs j) + 1)))] [(⟨b1, 0 + (j + 1) * 1, none⟩, .int .i64 (cntL xs j))] (hasC (rowCell (E := kE .i64) (xs := xs) 0 rfl (x := cntL xs j) hxj (j := 0) rfl) has0) (fun _ => by kernel_rfl) ?_ : RT _ _ _ _ _ _ 4 _)
            refine (stepR (z := 1) (yldS (aidxY 27 (.tmp 9) (.tmp 118) b1 0 8 (j + 1) 1 3 ((j + 1 : Nat) : Int) .i64 (some 122) (fun _ => by kernel_rfl) (by kernel_rfl) (by kernel_rfl) (fun _ => by kernel_rfl) (fun _ => by kernel_rfl) Tryz.underlying27 (by kernel_rfl) (by first | rfl | assumption | simp | omega) (by first | omega | decide | (simp; done) | (simp; omega) | (simp at *; omega)))) (fun _ => ?_) : RT _ _ _ _ _ _ 2 _)
            rw [show IntKind.i64.wrap ((cntL xs j) + 1) = ((cntL xs j) + 1) by rw [w64 (by omega) (by omega)]]
            refine (stepR (z := 0) (setS (E := (kE .i64)) (J := (j + 1)) (j := 0) (cntL xs j) (cntL xs j + 1) (.int .i64 ((cntL xs j) + 1)) ⟨b1, 0 + (j + 1) * 1, none⟩ (fun _ => by kernel_rfl) (by first | rfl | simp) (hxj) (rfl) (by decide)) (fun _ => ?_) : RT _ _ _ (row (kE .i64) 27 (.slice (some ⟨b1, 0, none⟩) 8 8) xs :: treeS t N5 :: H) _ _ 1 _)
            refine endR ?_
            refine PT.keep (L' := [(0, .slice s.a s.l.length s.c), (1, .slice s2.a s2.l.length s2.c), (2, .int .u16 n), (7, .pointer (some ⟨t, 0, none⟩)), (8, .int .i64 (s.l.length : Int)), (9, .pointer (some ⟨b1, 0, none⟩)), (11, .int .i64 (v : Int)), (13, .int .i64 ((j + 1 : Nat) : Int)), (117, .bool true)]) [0, 1, 2, 7, 8, 9, 11, 13, 117] rfl ?_
            exact midR (⟨xs.set (j + 1) (cntL xs j + 1), hR4.step (by omega) hj hd⟩) rfl rfl
          · skip
            rw [show (decide (id ≤ (s.l.length : Int))) = false from by first | exact decide_eq_false (by omega) | (simp; done) | (simp; omega)]
            refine condR (b := false) (by kernel_rfl) (fun _ => by kernel_rfl) (fun h => by cases h) (fun _ => ?_)
            refine skipR (by kernel_rfl) ?_
            refine PT.keep (L' := [(0, .slice s.a s.l.length s.c), (1, .slice s2.a s2.l.length s2.c), (2, .int .u16 n), (7, .pointer (some ⟨t, 0, none⟩)), (8, .int .i64 (s.l.length : Int)), (9, .pointer (some ⟨b1, 0, none⟩)), (11, .int .i64 (v : Int)), (13, .int .i64 id), (117, .bool false)]) [0, 1, 2, 7, 8, 9, 11, 13, 117] rfl ?_
            exact midR (⟨xs, hR4.more hd⟩) rfl rfl
        obtain ⟨ys, hR5⟩ := xq
        refine seqR (by kernel_rfl) ?_
        refine regionR 1 (by kernel_rfl) (by kernel_rfl) ?_
        refine (run0 (z := 0) 1 [0, 1, 2, 7, 8, 9, 11, 15] [(0, .slice s.a s.l.length s.c), (1, .slice s2.a s2.l.length s2.c), (2, .int .u16 n), (7, .pointer (some ⟨t, 0, none⟩)), (8, .int .i64 (s.l.length : Int)), (9, .pointer (some ⟨b1, 0, none⟩)), (11, .int .i64 (v : Int)), (15, .int .i64 1)] (fun _ => by kernel_rfl) (endR ?_) : RT _ _ _ _ _ _ 1 _)
        refine blockR 4 (by kernel_rfl) (by kernel_rfl) ?_
        refine PT.keep (L' := [(0, .slice s.a s.l.length s.c), (1, .slice s2.a s2.l.length s2.c), (2, .int .u16 n), (7, .pointer (some ⟨t, 0, none⟩)), (8, .int .i64 (s.l.length : Int)), (9, .pointer (some ⟨b1, 0, none⟩)), (11, .int .i64 (v : Int)), (15, .int .i64 1)]) [0, 1, 2, 7, 8, 9, 11, 15] rfl ?_
        refine loopG (fun (a : Nat) => [(0, .slice s.a s.l.length s.c), (1, .slice s2.a s2.l.length s2.c), (2, .int .u16 n), (7, .pointer (some ⟨t, 0, none⟩)), (8, .int .i64 (s.l.length : Int)), (9, .pointer (some ⟨b1, 0, none⟩)), (11, .int .i64 (v : Int)), (15, .int .i64 ((a + 1 : Nat) : Int))]) (fun (a : Nat) => (row (kE .i64) 27 (.slice (some ⟨b1, 0, none⟩) 8 8) ys :: treeS t N5 :: H)) (fun k (a : Nat) => k + a = s.l.length) s.l.length 0 (by kernel_rfl) (by simp) ?_
        rintro k3 a hka
        refine seqR (by kernel_rfl) ?_
        refine seqR (by kernel_rfl) ?_
        refine regionR 3 (by kernel_rfl) (by kernel_rfl) ?_
        refine (run0 (z := 0) 3 [0, 1, 2, 7, 8, 9, 11, 15, 125] [(0, .slice s.a s.l.length s.c), (1, .slice s2.a s2.l.length s2.c), (2, .int .u16 n), (7, .pointer (some ⟨t, 0, none⟩)), (8, .int .i64 (s.l.length : Int)), (9, .pointer (some ⟨b1, 0, none⟩)), (11, .int .i64 (v : Int)), (15, .int .i64 ((a + 1 : Nat) : Int)), (125, .bool (decide (((a + 1 : Nat) : Int) ≤ (s.l.length : Int))))] (fun _ => by kernel_rfl) (endR ?_) : RT _ _ _ _ _ _ 3 _)
        refine condR (b := decide (((a + 1 : Nat) : Int) ≤ (s.l.length : Int))) (by kernel_rfl) (fun _ => by kernel_rfl) (fun h3 => ?_) (fun h3 => ?_)
        · skip
          have ha : a < s.l.length := by have := of_decide_eq_true h3; omega
          refine skipR (by kernel_rfl) ?_
          refine seqR (by kernel_rfl) ?_
          refine blockR 5 (by kernel_rfl) (by kernel_rfl) ?_
          refine seqR (by kernel_rfl) ?_
          refine regionR 1 (by kernel_rfl) (by kernel_rfl) ?_
          refine (run0 (z := 0) 1 [0, 1, 2, 7, 8, 9, 11, 15, 16] [(0, .slice s.a s.l.length s.c), (1, .slice s2.a s2.l.length s2.c), (2, .int .u16 n), (7, .pointer (some ⟨t, 0, none⟩)), (8, .int .i64 (s.l.length : Int)), (9, .pointer (some ⟨b1, 0, none⟩)), (11, .int .i64 (v : Int)), (15, .int .i64 ((a + 1 : Nat) : Int)), (16, .int .i64 1)] (fun _ => by kernel_rfl) (endR ?_) : RT _ _ _ _ _ _ 1 _)
          refine blockR 6 (by kernel_rfl) (by kernel_rfl) ?_
          refine PT.keep (L' := [(0, .slice s.a s.l.length s.c), (1, .slice s2.a s2.l.length s2.c), (2, .int .u16 n), (7, .pointer (some ⟨t, 0, none⟩)), (8, .int .i64 (s.l.length : Int)), (9, .pointer (some ⟨b1, 0, none⟩)), (11, .int .i64 (v : Int)), (15, .int .i64 ((a + 1 : Nat) : Int)), (16, .int .i64 1)]) [0, 1, 2, 7, 8, 9, 11, 15, 16] rfl ?_
          refine loopG (fun (b : Nat) => [(0, .slice s.a s.l.length s.c), (1, .slice s2.a s2.l.length s2.c), (2, .int .u16 n), (7, .pointer (some ⟨t, 0, none⟩)), (8, .int .i64 (s.l.length : Int)), (9, .pointer (some ⟨b1, 0, none⟩)), (11, .int .i64 (v : Int)), (15, .int .i64 ((a + 1 : Nat) : Int)), (16, .int .i64 ((b + 1 : Nat) : Int))]) (fun (b : Nat) => (row (kE .i64) 27 (.slice (some ⟨b1, 0, none⟩) 8 8) ys :: treeS t N5 :: H)) (fun k (b : Nat) => k + b = a) a 0 (by kernel_rfl) (by simp) ?_
          rintro k4 b hkb
          refine seqR (by kernel_rfl) ?_
          refine seqR (by kernel_rfl) ?_
          refine regionR 3 (by kernel_rfl) (by kernel_rfl) ?_
          refine (run0 (z := 0) 3 [0, 1, 2, 7, 8, 9, 11, 15, 16, 130] [(0, .slice s.a s.l.length s.c), (1, .slice s2.a s2.l.length s2.c), (2, .int .u16 n), (7, .pointer (some ⟨t, 0, none⟩)), (8, .int .i64 (s.l.length : Int)), (9, .pointer (some ⟨b1, 0, none⟩)), (11, .int .i64 (v : Int)), (15, .int .i64 ((a + 1 : Nat) : Int)), (16, .int .i64 ((b + 1 : Nat) : Int)), (130, .bool (decide (((b + 1 : Nat) : Int) < ((a + 1 : Nat) : Int))))] (fun _ => by kernel_rfl) (endR ?_) : RT _ _ _ _ _ _ 3 _)
          refine condR (b := decide (((b + 1 : Nat) : Int) < ((a + 1 : Nat) : Int))) (by kernel_rfl) (fun _ => by kernel_rfl) (fun h4 => ?_) (fun h4 => ?_)
          · skip
            have hb : b < a := by have := of_decide_eq_true h4; omega
            obtain ⟨x, hx⟩ : ∃ x, s.l[a]? = some x := ⟨_, List.getElem?_eq_getElem (by omega)⟩
            obtain ⟨y, hy⟩ : ∃ y, s.l[b]? = some y := ⟨_, List.getElem?_eq_getElem (by omega)⟩
            have hxb := hw8 x (List.mem_of_getElem? hx)
            have hyb := hw8 y (List.mem_of_getElem? hy)
            have hWx := hWa a x hx
            have hWy := hWa b y hy
            have hxv := cntL_at (xs := ys) (j := a) (by rw [hR5.len]; omega)
            have hyv := cntL_at (xs := ys) (j := b) (by rw [hR5.len]; omega)
            have hca := hR5.le a (by omega)
            have hcb := hR5.le b (by omega)
            refine PT.know ((hk).up.up.isSome (List.ne_nil_of_length_pos (by omega))) ?_
            rintro ⟨sb, so, hA'⟩
            try rw [hA']
            refine skipR (by kernel_rfl) ?_
            refine seqR (by kernel_rfl) ?_
            refine blockR 7 (by kernel_rfl) (by kernel_rfl) ?_
            refine seqR (by kernel_rfl) ?_
            refine drawR (fun w => Sat w (row (kE .i64) 27 (.slice (some ⟨b1, 0, none⟩) 8 8) ys :: treeS t N5 :: H)) [] 24 (by kernel_rfl) (by kernel_rfl) (by kernel_rfl) (fun _ h => by first | exact h | exact h.tail | exact h.tail.tail | exact h.tail.tail.tail | exact h.tail.tail.tail.tail) ?_
            refine takesR [0, 3, 4, 5, 11, 14, 15, 16] [0, 1, 2, 7, 8, 9, 11, 15, 16, 133, 136, 138, 144, 147, 149] 16 [true, false, false, true, true, true, false, false, false, false, false, true, false, false, true, true, true, false, false, false, false, false, false, false] [(0, .slice (some ⟨sb, so, none⟩) s.l.length s.c), (1, .slice s2.a s2.l.length s2.c), (2, .int .u16 n), (7, .pointer (some ⟨t, 0, none⟩)), (8, .int .i64 (s.l.length : Int)), (9, .pointer (some ⟨b1, 0, none⟩)), (11, .int .i64 (v : Int)), (15, .int .i64 ((a + 1 : Nat) : Int)), (16, .int .i64 ((b + 1 : Nat) : Int)), (133, .int .i64 ((a + 1 : Nat) : Int)), (136, .slice (some ⟨sb, so, none⟩) s.l.length s.c), (138, .int .i64 (IntKind.i64.wrap (((a + 1 : Nat) : Int) - 1))), (144, .int .i64 ((b + 1 : Nat) : Int)), (147, .slice (some ⟨sb, so, none⟩) s.l.length s.c), (149, .int .i64 (IntKind.i64.wrap (((b + 1 : Nat) : Int) - 1)))] [] rfl (fun _ d _ _ _ h => by cases d <;> exact h) (fun _ h => by first | exact h | exact h.tail | exact h.tail.tail | exact h.tail.tail.tail | exact h.tail.tail.tail.tail) has0 (fun _ => by kernel_rfl) ?_
            refine takeR1 1 15 [true, true, false, true, true, true, false, false, false, false, false, true, false, false, true, true, true, false, false, false, false, false, false, false] rfl rfl (by kernel_rfl) (fun _ d _ _ _ h => by cases d <;> exact h) (fun _ h => by first | exact h | exact h.tail | exact h.tail.tail | exact h.tail.tail.tail | exact h.tail.tail.tail.tail) (aidxY 27 (.tmp 9) (.tmp 133) b1 0 8 (a + 1) 1 3 ((a + 1 : Nat) : Int) .i64 (some 134) (fun _ => by kernel_rfl) (by kernel_rfl) (by kernel_rfl) (fun _ => by kernel_rfl) (fun _ => by kernel_rfl) Tryz.underlying27 (by kernel_rfl) (by first | rfl | assumption | simp | omega) (by first | omega | decide | (simp; done) | (simp; omega) | (simp at *; omega))) ?_
            refine takesR [2] [0, 1, 2, 7, 8, 9, 11, 15, 16, 136, 138, 144, 147, 149, 135] 14 [true, true, true, true, true, true, false, false, false, false, false, true, false, false, true, true, true, false, false, false, false, false, false, false] [(0, .slice (some ⟨sb, so, none⟩) s.l.length s.c), (1, .slice s2.a s2.l.length s2.c), (2, .int .u16 n), (7, .pointer (some ⟨t, 0, none⟩)), (8, .int .i64 (s.l.length : Int)), (9, .pointer (some ⟨b1, 0, none⟩)), (11, .int .i64 (v : Int)), (15, .int .i64 ((a + 1 : Nat) : Int)), (16, .int .i64 ((b + 1 : Nat) : Int)), (136, .slice (some ⟨sb, so, none⟩) s.l.length s.c), (138, .int .i64 (IntKind.i64.wrap (((a + 1 : Nat) : Int) - 1))), (144, .int .i64 ((b + 1 : Nat) : Int)), (147, .slice (some ⟨sb, so, none⟩) s.l.length s.c), (149, .int .i64 (IntKind.i64.wrap (((b + 1 : Nat) : Int) - 1))), (135, .int .i64 (cntL ys a))] [(⟨b1, 0 + (a + 1) * 1, none⟩, .int .i64 (cntL ys a))] rfl (fun _ d _ _ _ h => by cases d <;> exact h) (fun _ h => by first | exact h | exact h.tail | exact h.tail.tail | exact h.tail.tail.tail | exact h.tail.tail.tail.tail) (hasC (rowCell (E := kE .i64) (xs := ys) 0 rfl (x := cntL ys a) hxv (j := 0) rfl) has0) (fun _ => by kernel_rfl) ?_
            refine takeR1 12 13 [true, true, true, true, true, true, false, false, false, false, false, true, true, false, true, true, true, false, false, false, false, false, false, false] rfl rfl (by kernel_rfl) (fun _ d _ _ _ h => by cases d <;> exact h) (fun _ h => by first | exact h | exact h.tail | exact h.tail.tail | exact h.tail.tail.tail | exact h.tail.tail.tail.tail) (aidxY 27 (.tmp 9) (.tmp 144) b1 0 8 (b + 1) 1 3 ((b + 1 : Nat) : Int) .i64 (some 145) (fun _ => by kernel_rfl) (by kernel_rfl) (by kernel_rfl) (fun _ => by kernel_rfl) (fun _ => by kernel_rfl) Tryz.underlying27 (by kernel_rfl) (by first | rfl | assumption | simp | omega) (by first | omega | decide | (simp; done) | (simp; omega) | (simp at *; omega))) ?_
            refine takesR [13] [0, 1, 2, 7, 8, 9, 11, 15, 16, 136, 138, 147, 149, 135, 146] 12 [true, true, true, true, true, true, false, false, false, false, false, true, true, true, true, true, true, false, false, false, false, false, false, false] [(0, .slice (some ⟨sb, so, none⟩) s.l.length s.c), (1, .slice s2.a s2.l.length s2.c), (2, .int .u16 n), (7, .pointer (some ⟨t, 0, none⟩)), (8, .int .i64 (s.l.length : Int)), (9, .pointer (some ⟨b1, 0, none⟩)), (11, .int .i64 (v : Int)), (15, .int .i64 ((a + 1 : Nat) : Int)), (16, .int .i64 ((b + 1 : Nat) : Int)), (136, .slice (some ⟨sb, so, none⟩) s.l.length s.c), (138, .int .i64 (IntKind.i64.wrap (((a + 1 : Nat) : Int) - 1))), (147, .slice (some ⟨sb, so, none⟩) s.l.length s.c), (149, .int .i64 (IntKind.i64.wrap (((b + 1 : Nat) : Int) - 1))), (135, .int .i64 (cntL ys a)), (146, .int .i64 (cntL ys b))] [(⟨b1, 0 + (b + 1) * 1, none⟩, .int .i64 (cntL ys b))] rfl (fun _ d _ _ _ h => by cases d <;> exact h) (fun _ h => by first | exact h | exact h.tail | exact h.tail.tail | exact h.tail.tail.tail | exact h.tail.tail.tail.tail) (hasC (rowCell (E := kE .i64) (xs := ys) 0 rfl (x := cntL ys b) hyv (j := 0) rfl) has0) (fun _ => by kernel_rfl) ?_
            rw [show IntKind.i64.wrap (((a + 1 : Nat) : Int) - 1) = (a : Int) by rw [w64 (by omega) (by omega)]; omega]
            rw [show IntKind.i64.wrap (((b + 1 : Nat) : Int) - 1) = (b : Int) by rw [w64 (by omega) (by omega)]; omega]
            refine takeR1 6 11 [true, true, true, true, true, true, true, false, false, false, false, true, true, true, true, true, true, false, false, false, false, false, false, false] rfl rfl (by kernel_rfl) (fun _ d _ _ _ h => by cases d <;> exact h) (fun _ h => by first | exact h | exact h.tail | exact h.tail.tail | exact h.tail.tail.tail | exact h.tail.tail.tail.tail) (idxY 22 (.tmp 136) (.tmp 138) sb so s.l.length s.c a 1 5 (a : Int) .i64 (some 139) (fun _ => by kernel_rfl) (by kernel_rfl) (by kernel_rfl) (fun _ => by kernel_rfl) (fun _ => by kernel_rfl) Tryz.underlying22 (by kernel_rfl) (by first | rfl | assumption | simp) (by first | omega | (simp; done) | (simp; omega) | (simp at *; omega))) ?_
            refine takesR [7, 8, 9, 10] [0, 1, 2, 7, 8, 9, 11, 15, 16, 147, 149, 135, 146, 143] 7 [true, true, true, true, true, true, true, true, true, true, true, true, true, true, true, true, true, false, false, false, false, false, false, false] [(0, .slice (some ⟨sb, so, none⟩) s.l.length s.c), (1, .slice s2.a s2.l.length s2.c), (2, .int .u16 n), (7, .pointer (some ⟨t, 0, none⟩)), (8, .int .i64 (s.l.length : Int)), (9, .pointer (some ⟨b1, 0, none⟩)), (11, .int .i64 (v : Int)), (15, .int .i64 ((a + 1 : Nat) : Int)), (16, .int .i64 ((b + 1 : Nat) : Int)), (147, .slice (some ⟨sb, so, none⟩) s.l.length s.c), (149, .int .i64 (b : Int)), (135, .int .i64 (cntL ys a)), (146, .int .i64 (cntL ys b)), (143, .int .i64 (IntKind.i64.wrap ((IntKind.i64.wrap (Int.tmod x 16)) + 1)))] [(⟨sb, so + a * 1, none⟩, .int .u8 x)] rfl (fun _ d _ _ _ h => by cases d <;> exact h) (fun _ h => by first | exact h | exact h.tail | exact h.tail.tail | exact h.tail.tail.tail | exact h.tail.tail.tail.tail) (hasC (up (up (hk.cell hA' (i := a) (x := x) hx (j := 0) rfl))) has0) (fun _ => by kernel_rfl) ?_
            refine takeR1 17 6 [true, true, true, true, true, true, true, true, true, true, true, true, true, true, true, true, true, true, false, false, false, false, false, false] rfl rfl (by kernel_rfl) (fun _ d _ _ _ h => by cases d <;> exact h) (fun _ h => by first | exact h | exact h.tail | exact h.tail.tail | exact h.tail.tail.tail | exact h.tail.tail.tail.tail) (idxY 22 (.tmp 147) (.tmp 149) sb so s.l.length s.c b 1 5 (b : Int) .i64 (some 150) (fun _ => by kernel_rfl) (by kernel_rfl) (by kernel_rfl) (fun _ => by kernel_rfl) (fun _ => by kernel_rfl) Tryz.underlying22 (by kernel_rfl) (by first | rfl | assumption | simp) (by first | omega | (simp; done) | (simp; omega) | (simp at *; omega))) ?_
            refine takesR [18, 19, 20, 21] [0, 1, 2, 7, 8, 9, 11, 15, 16, 135, 146, 143, 154] 2 [true, true, true, true, true, true, true, true, true, true, true, true, true, true, true, true, true, true, true, true, true, true, false, false] [(0, .slice (some ⟨sb, so, none⟩) s.l.length s.c), (1, .slice s2.a s2.l.length s2.c), (2, .int .u16 n), (7, .pointer (some ⟨t, 0, none⟩)), (8, .int .i64 (s.l.length : Int)), (9, .pointer (some ⟨b1, 0, none⟩)), (11, .int .i64 (v : Int)), (15, .int .i64 ((a + 1 : Nat) : Int)), (16, .int .i64 ((b + 1 : Nat) : Int)), (135, .int .i64 (cntL ys a)), (146, .int .i64 (cntL ys b)), (143, .int .i64 (IntKind.i64.wrap ((IntKind.i64.wrap (Int.tmod x 16)) + 1))), (154, .int .i64 (IntKind.i64.wrap ((IntKind.i64.wrap (Int.tmod y 16)) + 1)))] [(⟨sb, so + b * 1, none⟩, .int .u8 y)] rfl (fun _ d _ _ _ h => by cases d <;> exact h) (fun _ h => by first | exact h | exact h.tail | exact h.tail.tail | exact h.tail.tail.tail | exact h.tail.tail.tail.tail) (hasC (up (up (hk.cell hA' (i := b) (x := y) hy (j := 0) rfl))) has0) (fun _ => by kernel_rfl) ?_
            rw [show IntKind.i64.wrap ((IntKind.i64.wrap (Int.tmod x 16)) + 1) = (W a) by rw [wOf_wrap hxb.1, hWx]]
            rw [show IntKind.i64.wrap ((IntKind.i64.wrap (Int.tmod y 16)) + 1) = (W b) by rw [wOf_wrap hyb.1, hWy]]
            refine oneR 22 1 [true, true, true, true, true, true, true, true, true, true, true, true, true, true, true, true, true, true, true, true, true, true, true, false] rfl rfl (by kernel_rfl) (callS 11 [.int .i64 (cntL ys a), .int .i64 (W a), .int .i64 (cntL ys b), .int .i64 (W b)] (some 155) (fun _ => .bool true) (fun _ => (row (kE .i64) 27 (.slice (some ⟨b1, 0, none⟩) 8 8) ys :: treeS t N5 :: H)) (fun _ => by kernel_rfl) (fair_ok (hR5.fair hI5 (a := a) (b := b) (by omega) (by omega)) (by omega) (by omega) (hWi a (by omega)) (hWi b (by omega)))) (fun _ _ h hn => by first | exact h | exact h.tail | exact h.tail.tail | exact h.tail.tail.tail | exact h.tail.tail.tail.tail | exact absurd hn (by decide)) (fun _ => ?_)
            refine takesR [23] [0, 1, 2, 7, 8, 9, 11, 15, 16, 156] 0 [true, true, true, true, true, true, true, true, true, true, true, true, true, true, true, true, true, true, true, true, true, true, true, true] [(0, .slice (some ⟨sb, so, none⟩) s.l.length s.c), (1, .slice s2.a s2.l.length s2.c), (2, .int .u16 n), (7, .pointer (some ⟨t, 0, none⟩)), (8, .int .i64 (s.l.length : Int)), (9, .pointer (some ⟨b1, 0, none⟩)), (11, .int .i64 (v : Int)), (15, .int .i64 ((a + 1 : Nat) : Int)), (16, .int .i64 ((b + 1 : Nat) : Int)), (156, .bool false)] [] rfl (fun _ d _ _ _ h => by cases d <;> exact h) (fun _ h => by first | exact h | exact h.tail | exact h.tail.tail | exact h.tail.tail.tail | exact h.tail.tail.tail.tail) has0 (fun _ => by kernel_rfl) ?_
            refine drawnR (by kernel_rfl) ?_
            refine condR (b := false) (by kernel_rfl) (fun _ => by kernel_rfl) (fun h => by cases h) (fun _ => ?_)
            refine skipR (by kernel_rfl) ?_
            refine regionR 3 (by kernel_rfl) (by kernel_rfl) ?_
            refine (run0 (z := 0) 3 [0, 1, 2, 7, 8, 9, 11, 15, 16] [(0, .slice (some ⟨sb, so, none⟩) s.l.length s.c), (1, .slice s2.a s2.l.length s2.c), (2, .int .u16 n), (7, .pointer (some ⟨t, 0, none⟩)), (8, .int .i64 (s.l.length : Int)), (9, .pointer (some ⟨b1, 0, none⟩)), (11, .int .i64 (v : Int)), (15, .int .i64 ((a + 1 : Nat) : Int)), (16, .int .i64 (IntKind.i64.wrap (((b + 1 : Nat) : Int) + 1)))] (fun _ => by kernel_rfl) (endR ?_) : RT _ _ _ _ _ _ 3 _)
            try rw [← hA']
            rw [show IntKind.i64.wrap (((b + 1 : Nat) : Int) + 1) = (((b + 1 : Nat) : Int) + 1) by rw [w64 (by omega) (by omega)]]
            refine PT.keep (L' := [(0, .slice s.a s.l.length s.c), (1, .slice s2.a s2.l.length s2.c), (2, .int .u16 n), (7, .pointer (some ⟨t, 0, none⟩)), (8, .int .i64 (s.l.length : Int)), (9, .pointer (some ⟨b1, 0, none⟩)), (11, .int .i64 (v : Int)), (15, .int .i64 ((a + 1 : Nat) : Int)), (16, .int .i64 (((b + 1 : Nat) : Int) + 1))]) [0, 1, 2, 7, 8, 9, 11, 15, 16] rfl ?_
            exact againG (k4 - 1) (b + 1) rfl rfl (by omega) (by omega)
          · skip
            refine exitR 6 (by kernel_rfl) (by kernel_rfl) ?_
            refine thenX ?_
            refine thenX ?_
            refine leaveR ?_
            refine regionR 3 (by kernel_rfl) (by kernel_rfl) ?_
            refine (run0 (z := 0) 3 [0, 1, 2, 7, 8, 9, 11, 15] [(0, .slice s.a s.l.length s.c), (1, .slice s2.a s2.l.length s2.c), (2, .int .u16 n), (7, .pointer (some ⟨t, 0, none⟩)), (8, .int .i64 (s.l.length : Int)), (9, .pointer (some ⟨b1, 0, none⟩)), (11, .int .i64 (v : Int)), (15, .int .i64 (IntKind.i64.wrap (((a + 1 : Nat) : Int) + 1)))] (fun _ => by kernel_rfl) (endR ?_) : RT _ _ _ _ _ _ 3 _)
            rw [show IntKind.i64.wrap (((a + 1 : Nat) : Int) + 1) = (((a + 1 : Nat) : Int) + 1) by rw [w64 (by omega) (by omega)]]
            refine PT.keep (L' := [(0, .slice s.a s.l.length s.c), (1, .slice s2.a s2.l.length s2.c), (2, .int .u16 n), (7, .pointer (some ⟨t, 0, none⟩)), (8, .int .i64 (s.l.length : Int)), (9, .pointer (some ⟨b1, 0, none⟩)), (11, .int .i64 (v : Int)), (15, .int .i64 (((a + 1 : Nat) : Int) + 1))]) [0, 1, 2, 7, 8, 9, 11, 15] rfl ?_
            exact againG (k3 - 1) (a + 1) rfl rfl (by omega) (by omega)
        · skip
          refine exitR 4 (by kernel_rfl) (by kernel_rfl) ?_
          refine thenX ?_
          refine thenX ?_
          refine leaveR ?_
          refine regionR 3 (by kernel_rfl) (by kernel_rfl) ?_
          refine (run0 (z := 0) 3 [0, 1, 2, 7, 8, 9, 11] [(0, .slice s.a s.l.length s.c), (1, .slice s2.a s2.l.length s2.c), (2, .int .u16 n), (7, .pointer (some ⟨t, 0, none⟩)), (8, .int .i64 (s.l.length : Int)), (9, .pointer (some ⟨b1, 0, none⟩)), (11, .int .i64 (IntKind.i64.wrap ((v : Int) + 1)))] (fun _ => by kernel_rfl) (endR ?_) : RT _ _ _ _ _ _ 3 _)
          rw [show IntKind.i64.wrap ((v : Int) + 1) = ((v : Int) + 1) by rw [w64 (by omega) (by omega)]]
          refine PT.keep (L' := [(0, .slice s.a s.l.length s.c), (1, .slice s2.a s2.l.length s2.c), (2, .int .u16 n), (7, .pointer (some ⟨t, 0, none⟩)), (8, .int .i64 (s.l.length : Int)), (9, .pointer (some ⟨b1, 0, none⟩)), (11, .int .i64 ((v : Int) + 1))]) [0, 1, 2, 7, 8, 9, 11] rfl ?_
          exact againG (k2 - 1) (N5, ys, v + 1) rfl rfl (by omega) ⟨by simp only; omega, hI5, hR5⟩
      · skip
        refine exitR 2 (by kernel_rfl) (by kernel_rfl) ?_
        refine thenX ?_
        refine thenX ?_
        refine leaveR ?_
        refine seqR (by kernel_rfl) ?_
        refine regionR 1 (by kernel_rfl) (by kernel_rfl) ?_
        refine (run0 (z := 0) 1 [6] [(6, .bool true)] (fun _ => by kernel_rfl) (endR ?_) : RT _ _ _ _ _ _ 1 _)
        refine retR (by kernel_rfl) ?_
        refine done0 (.bool true) (fun _ => by kernel_rfl) (fun w hs => ?_) .ret (.inr rfl)
        exact ⟨(), rfl, hs.tail.tail⟩
theorem tfair_row (W : World) (ao : Option Addr) (c : Nat) (l : List Int) (ao2 : Option Addr) (c2 : Nat) (l2 : List Int) (n : Int) (hrd : Rd (kE .u8) W (.slice ao l.length c) l) (hl : ∀ x ∈ l, (Lit.int .u8 x).wf = true) (hrd2 : Rd (kE .u8) W (.slice ao2 l2.length c2) l2) (hl2 : ∀ x ∈ l2, (Lit.int .u8 x).wf = true) (hn : (Lit.int .u16 n).wf = true) : Calls Tryz.prog 3 #[.slice ao l.length c, .slice ao2 l2.length c2, .int .u16 n] W (LawPost W) :=
  lawPost (fun _ _ h => h) (tfair_walk [old W] ⟨ao, c, l⟩ ⟨ao2, c2, l2⟩ n (u16_wf hn) (KR.old hrd 0 rfl) (fun x hx => u8_wf (hl x hx)) (KR.old hrd2 0 rfl) (fun x hx => u8_wf (hl2 x hx)) W (Sat.start W))
end Go.Proofs.YtjbjngikaiggdaaGreat
