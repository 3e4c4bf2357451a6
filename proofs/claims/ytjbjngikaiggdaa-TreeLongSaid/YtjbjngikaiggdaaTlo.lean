/- TreeLong: its walk. Conditions: none. -/
import Derived.Test.YtjbjngikaiggdaaTlq
set_option linter.unusedVariables false
set_option linter.unusedSimpArgs false
namespace Go.Proofs.Ytjbjngikaiggdaa
open Go.RowKit G
theorem rowCell {α : Type} {E : Enc α} {T : TypeId} {H : List SP} (i : Nat) {b o m k : Nat} {xs : List α} (hi : H[i]? = some (row E T (.slice (some ⟨b, o, none⟩) m k) xs)) {J j : Nat} {x : α} {u : Value} (hx : xs[J]? = some x) (hu : (E.enc x)[j]? = some u) : ∀ w, Sat w H → w.cell? ⟨b, o + J * E.k + j, none⟩ = some u := by
  intro w hs
  obtain ⟨G, hG⟩ := (Sat.pick i hi hs).head
  have hme : m = xs.length := hG.lenEq
  subst hme
  exact (rowKRat (A := some ⟨b, o, none⟩) (k := k) (E := E) (T := T) (xs := xs) i hi).cell rfl hx hu w hs
theorem cntL_at {xs : List Int} {j : Nat} (h : j + 1 < xs.length) : xs[j + 1]? = some (cntL xs j) := by
  unfold cntL
  rw [List.getD_eq_getElem?_getD, List.getElem?_eq_getElem h]; rfl
set_option maxHeartbeats 1000000 in
set_option maxRecDepth 100000 in
theorem long_walk (H : List SP) (s : SV Int) (n : Int) (hn : 0 ≤ n ∧ n < 256) (hk : KR H (kE .u8) s) (hw8 : ∀ x ∈ s.l, 0 ≤ x ∧ x < 256) : ∀ w, Sat w H → Calls Try.prog 5 #[.slice s.a s.l.length s.c, .int .u8 n] w (Ret (ι := Unit) (fun _ => .bool true) fun _ => H) := by
  have hnm := tmod_range hn.1 (m := 20) (by omega)
  obtain ⟨W, hW⟩ : ∃ W : Nat → Int, W = fun j => wOf (s.l.getD j 0) := ⟨_, rfl⟩
  have hWa : ∀ (j : Nat) v, s.l[j]? = some v → W j = wOf v := fun j v h => by rw [hW]; simp [List.getD_eq_getElem?_getD, h]
  have hWi : ∀ j, j < s.l.length → isW (W j) = true := fun j hj => by rw [hWa j _ (List.getElem?_eq_getElem hj)]; exact wOf_isW (hw8 _ (List.getElem_mem hj)).1
  clear hW
  refine enterG (fn := Try.f5) 107 [.slice s.a s.l.length s.c, .int .u8 n] Try.func5 (by kernel_rfl) (by kernel_rfl) (by kernel_rfl) ?_
  refine seqR (by kernel_rfl) ?_
  refine regionR 1 (by kernel_rfl) (by kernel_rfl) ?_
  refine (run0 (z := 0) 1 [0, 1, 4] [(0, .slice s.a s.l.length s.c), (1, .int .u8 n), (4, .bool false)] (fun _ => by kernel_rfl) (endR ?_) : RT _ _ _ _ _ _ 1 _)
  refine seqR (by kernel_rfl) ?_
  refine seqR (by kernel_rfl) ?_
  refine regionR 2 (by kernel_rfl) (by kernel_rfl) ?_
  refine (stepR (z := 1) (callS 9 [] (some 15) (fun _ => .bool true) (fun (_ : Unit) => (H)) (fun _ => by kernel_rfl) (known_true _)) (fun _ => ?_) : RT _ _ _ _ _ _ 2 _)
  refine (run0 (z := 0) 1 [0, 1, 4, 16] [(0, .slice s.a s.l.length s.c), (1, .int .u8 n), (4, .bool false), (16, .bool false)] (fun _ => by kernel_rfl) (endR ?_) : RT _ _ _ _ _ _ 1 _)
  refine condR (b := false) (by kernel_rfl) (fun _ => by kernel_rfl) (fun h => by cases h) (fun _ => ?_)
  refine skipR (by kernel_rfl) ?_
  refine seqR (by kernel_rfl) ?_
  refine seqR (by kernel_rfl) ?_
  refine regionR 8 (by kernel_rfl) (by kernel_rfl) ?_
  refine (run0 (z := 4) 4 [0, 1, 4, 20] [(0, .slice s.a s.l.length s.c), (1, .int .u8 n), (4, .bool false), (20, .bool (decide ((s.l.length : Int) < 1)))] (fun _ => by kernel_rfl) ?_ : RT _ _ _ _ _ _ 8 _)
  refine (segR (ι := Unit) (z := 0) 4 (fun _ => [(0, .slice s.a s.l.length s.c), (1, .int .u8 n), (4, .bool false), (24, .bool ((decide ((s.l.length : Int) < 1)) || (decide ((s.l.length : Int) > 5))))]) (fun _ => (H)) ?_ (fun _ => ?_) : RT _ _ _ _ _ _ 4 _)
  · cases hg4 : (decide ((s.l.length : Int) < 1)) with
    | true =>
      refine (run0 (z := 0) 4 [0, 1, 4, 24] [(0, .slice s.a s.l.length s.c), (1, .int .u8 n), (4, .bool false), (24, .bool true)] (fun _ => by kernel_rfl) (endR ?_) : RT _ _ _ _ _ _ 4 _)
      refine PT.keep (L' := [(0, .slice s.a s.l.length s.c), (1, .int .u8 n), (4, .bool false), (24, .bool (true || (decide ((s.l.length : Int) > 5))))]) [0, 1, 4, 24] rfl ?_
      exact midR () rfl rfl
    | false =>
      refine (run0 (z := 0) 4 [0, 1, 4, 24] [(0, .slice s.a s.l.length s.c), (1, .int .u8 n), (4, .bool false), (24, .bool (decide ((s.l.length : Int) > 5)))] (fun _ => by kernel_rfl) (endR ?_) : RT _ _ _ _ _ _ 4 _)
      refine PT.keep (L' := [(0, .slice s.a s.l.length s.c), (1, .int .u8 n), (4, .bool false), (24, .bool (false || (decide ((s.l.length : Int) > 5))))]) [0, 1, 4, 24] rfl ?_
      exact midR () rfl rfl
  refine endR ?_
  refine condR (b := (decide ((s.l.length : Int) < 1)) || (decide ((s.l.length : Int) > 5))) (by kernel_rfl) (fun _ => by kernel_rfl) (fun h0 => ?_) (fun h0 => ?_)
  · skip
    refine seqR (by kernel_rfl) ?_
    refine regionR 1 (by kernel_rfl) (by kernel_rfl) ?_
    refine (run0 (z := 0) 1 [0, 1, 4] [(0, .slice s.a s.l.length s.c), (1, .int .u8 n), (4, .bool true)] (fun _ => by kernel_rfl) (endR ?_) : RT _ _ _ _ _ _ 1 _)
    refine retR (by kernel_rfl) ?_
    refine thenV ?_
    refine done0 (.bool true) (fun _ => by kernel_rfl) (fun w hs => ?_) .ret (.inr rfl)
    exact ⟨(), rfl, hs⟩
  · skip
    have hl : 1 ≤ s.l.length ∧ s.l.length ≤ 5 := by simp only [Bool.or_eq_false_iff, decide_eq_false_iff_not] at h0; omega
    refine skipR (by kernel_rfl) ?_
    refine seqR (by kernel_rfl) ?_
    refine regionR 2 (by kernel_rfl) (by kernel_rfl) ?_
    refine (stepR (z := 1) (callS 10 [] (some 25) (fun (t : Nat) => .pointer (some ⟨t, 0, none⟩)) (fun (t : Nat) => (treeS t [rootN] :: H)) (fun _ => by kernel_rfl) (trNew _)) (fun (t : Nat) => ?_) : RT _ _ _ _ _ _ 2 _)
    refine (run0 (z := 0) 1 [0, 1, 4, 5] [(0, .slice s.a s.l.length s.c), (1, .int .u8 n), (4, .bool false), (5, .pointer (some ⟨t, 0, none⟩))] (fun _ => by kernel_rfl) (endR ?_) : RT _ _ _ _ _ _ 1 _)
    refine seqR (by kernel_rfl) ?_
    refine regionR 1 (by kernel_rfl) (by kernel_rfl) ?_
    refine (run0 (z := 0) 1 [0, 1, 4, 5, 6] [(0, .slice s.a s.l.length s.c), (1, .int .u8 n), (4, .bool false), (5, .pointer (some ⟨t, 0, none⟩)), (6, .int .i64 0)] (fun _ => by kernel_rfl) (endR ?_) : RT _ _ _ _ _ _ 1 _)
    refine seqR (by kernel_rfl) ?_
    refine seqR (by kernel_rfl) ?_
    refine regionR 1 (by kernel_rfl) (by kernel_rfl) ?_
    refine (run0 (z := 0) 1 [0, 1, 4, 5, 6, 7] [(0, .slice s.a s.l.length s.c), (1, .int .u8 n), (4, .bool false), (5, .pointer (some ⟨t, 0, none⟩)), (6, .int .i64 0), (7, .int .i64 0)] (fun _ => by kernel_rfl) (endR ?_) : RT _ _ _ _ _ _ 1 _)
    refine blockR 0 (by kernel_rfl) (by kernel_rfl) ?_
    refine PT.keep (L' := [(0, .slice s.a s.l.length s.c), (1, .int .u8 n), (5, .pointer (some ⟨t, 0, none⟩)), (6, .int .i64 0), (7, .int .i64 0)]) [0, 1, 5, 6, 7] rfl ?_
    refine loopG (fun (q : List Nr × Nat) => [(0, .slice s.a s.l.length s.c), (1, .int .u8 n), (5, .pointer (some ⟨t, 0, none⟩)), (6, .int .i64 (sumW W q.2)), (7, .int .i64 (q.2 : Int))]) (fun (q : List Nr × Nat) => (treeS t q.1 :: H)) (fun k (q : List Nr × Nat) => (k : Int) + q.2 = s.l.length ∧ ThI W q.2 q.1) s.l.length ([rootN], 0) (by kernel_rfl) ⟨by simp, ThI.start W⟩ ?_
    rintro k ⟨N, u⟩ ⟨hku, hI⟩
    simp only at hku hI
    refine seqR (by kernel_rfl) ?_
    refine seqR (by kernel_rfl) ?_
    refine regionR 4 (by kernel_rfl) (by kernel_rfl) ?_
    refine (run0 (z := 0) 4 [0, 1, 5, 6, 7, 29] [(0, .slice s.a s.l.length s.c), (1, .int .u8 n), (5, .pointer (some ⟨t, 0, none⟩)), (6, .int .i64 (sumW W u)), (7, .int .i64 (u : Int)), (29, .bool (decide ((u : Int) < (s.l.length : Int))))] (fun _ => by kernel_rfl) (endR ?_) : RT _ _ _ _ _ _ 4 _)
    refine condR (b := decide ((u : Int) < (s.l.length : Int))) (by kernel_rfl) (fun _ => by kernel_rfl) (fun h1 => ?_) (fun h1 => ?_)
    · skip
      have hu : u < s.l.length := by have := of_decide_eq_true h1; omega
      obtain ⟨v, hv⟩ : ∃ v, s.l[u]? = some v := ⟨_, List.getElem?_eq_getElem hu⟩
      have hvb := hw8 v (List.mem_of_getElem? hv)
      have hWu := hWa u v hv
      have hWv := isW_cases (hWi u hu)
      have hsw := sumW_pos (m := u) fun j hj => hWi j (by omega)
      obtain ⟨N1, N2, hA, hR, hI2⟩ := hI.add (by omega) (hWi u hu) rfl
      refine PT.know ((hk).up.isSome (List.ne_nil_of_length_pos (by omega))) ?_
      rintro ⟨sb, so, hA'⟩
      try rw [hA']
      refine skipR (by kernel_rfl) ?_
      refine seqR (by kernel_rfl) ?_
      refine blockR 1 (by kernel_rfl) (by kernel_rfl) ?_
      refine seqR (by kernel_rfl) ?_
      refine regionR 8 (by kernel_rfl) (by kernel_rfl) ?_
      refine (run0 (z := 6) 2 [0, 1, 5, 6, 7, 32, 33] [(0, .slice (some ⟨sb, so, none⟩) s.l.length s.c), (1, .int .u8 n), (5, .pointer (some ⟨t, 0, none⟩)), (6, .int .i64 (sumW W u)), (7, .int .i64 (u : Int)), (32, .slice (some ⟨sb, so, none⟩) s.l.length s.c), (33, .int .i64 (u : Int))] (fun _ => by kernel_rfl) ?_ : RT _ _ _ _ _ _ 8 _)
      refine (stepR (z := 5) (yldS (idxY 22 (.tmp 32) (.tmp 33) sb so s.l.length s.c u 1 5 (u : Int) .i64 (some 34) (fun _ => by kernel_rfl) (by kernel_rfl) (by kernel_rfl) (fun _ => by kernel_rfl) (fun _ => by kernel_rfl) Try.underlying22 (by kernel_rfl) (by first | rfl | assumption | simp) (by first | omega | (simp; done) | (simp; omega) | (simp at *; omega)))) (fun _ => ?_) : RT _ _ _ _ _ _ 6 _)
      refine (runR (H := (treeS t N :: H)) (z := 0) 5 [0, 1, 5, 6, 7, 8] [(0, .slice (some ⟨sb, so, none⟩) s.l.length s.c), (1, .int .u8 n), (5, .pointer (some ⟨t, 0, none⟩)), (6, .int .i64 (sumW W u)), (7, .int .i64 (u : Int)), (8, .int .i64 (IntKind.i64.wrap ((IntKind.i64.wrap (Int.tmod v 16)) + 1)))] [(⟨sb, so + u * 1, none⟩, .int .u8 v)] (hasC (up (hk.cell hA' (i := u) (x := v) hv (j := 0) rfl)) has0) (fun _ => by kernel_rfl) (endR ?_) : RT _ _ _ _ _ _ 5 _)
      refine seqR (by kernel_rfl) ?_
      refine regionR 4 (by kernel_rfl) (by kernel_rfl) ?_
      refine (run0 (z := 0) 4 [0, 1, 5, 6, 7, 8] [(0, .slice (some ⟨sb, so, none⟩) s.l.length s.c), (1, .int .u8 n), (5, .pointer (some ⟨t, 0, none⟩)), (6, .int .i64 (IntKind.i64.wrap ((sumW W u) + (IntKind.i64.wrap ((IntKind.i64.wrap (Int.tmod v 16)) + 1))))), (7, .int .i64 (u : Int)), (8, .int .i64 (IntKind.i64.wrap ((IntKind.i64.wrap (Int.tmod v 16)) + 1)))] (fun _ => by kernel_rfl) (endR ?_) : RT _ _ _ _ _ _ 4 _)
      refine seqR (by kernel_rfl) ?_
      refine regionR 13 (by kernel_rfl) (by kernel_rfl) ?_
      refine (run0 (z := 9) 4 [0, 1, 5, 6, 7, 42, 44, 45] [(0, .slice (some ⟨sb, so, none⟩) s.l.length s.c), (1, .int .u8 n), (5, .pointer (some ⟨t, 0, none⟩)), (6, .int .i64 (IntKind.i64.wrap ((sumW W u) + (IntKind.i64.wrap ((IntKind.i64.wrap (Int.tmod v 16)) + 1))))), (7, .int .i64 (u : Int)), (42, .pointer (some ⟨t, 0, none⟩)), (44, .int .i64 (IntKind.i64.wrap ((u : Int) + 1))), (45, .int .i64 (IntKind.i64.wrap ((IntKind.i64.wrap (Int.tmod v 16)) + 1)))] (fun _ => by kernel_rfl) ?_ : RT _ _ _ _ _ _ 13 _)
      try rw [← hA']
      rw [show IntKind.i64.wrap ((IntKind.i64.wrap (Int.tmod v 16)) + 1) = (W u) by rw [wOf_wrap hvb.1, hWu]]
      rw [show IntKind.i64.wrap ((sumW W u) + (W u)) = ((sumW W u) + (W u)) by rw [w64 (by omega) (by omega)]]
      rw [show IntKind.i64.wrap ((u : Int) + 1) = ((u : Int) + 1) by rw [w64 (by omega) (by omega)]]
      refine (stepR (z := 8) (callS 11 [.pointer (some ⟨t, 0, none⟩), .int .i64 0, .int .i64 ((u : Int) + 1), .int .i64 (W u), .bool true] (some 46) (fun _ => .nilIface) (fun _ => (treeS t N1 :: H)) (fun _ => by kernel_rfl) (trAdd_ok _ t hA)) (fun _ => ?_) : RT _ _ _ _ _ _ 9 _)
      refine (run0 (z := 3) 5 [0, 1, 5, 6, 7, 48, 49, 51] [(0, .slice s.a s.l.length s.c), (1, .int .u8 n), (5, .pointer (some ⟨t, 0, none⟩)), (6, .int .i64 ((sumW W u) + (W u))), (7, .int .i64 (u : Int)), (48, .bool false), (49, .pointer (some ⟨t, 0, none⟩)), (51, .int .i64 (IntKind.i64.wrap ((u : Int) + 1)))] (fun _ => by kernel_rfl) ?_ : RT _ _ _ _ _ _ 8 _)
      rw [show IntKind.i64.wrap ((u : Int) + 1) = ((u : Int) + 1) by rw [w64 (by omega) (by omega)]]
      refine (stepR (z := 2) (callS 12 [.pointer (some ⟨t, 0, none⟩), .int .i64 ((u : Int) + 1), .bool true] (some 52) (fun _ => .nilIface) (fun _ => (treeS t N2 :: H)) (fun _ => by kernel_rfl) (trReady_ok _ t hR)) (fun _ => ?_) : RT _ _ _ _ _ _ 3 _)
      refine (run0 (z := 0) 2 [0, 1, 5, 6, 7, 54] [(0, .slice s.a s.l.length s.c), (1, .int .u8 n), (5, .pointer (some ⟨t, 0, none⟩)), (6, .int .i64 ((sumW W u) + (W u))), (7, .int .i64 (u : Int)), (54, .bool false)] (fun _ => by kernel_rfl) (endR ?_) : RT _ _ _ _ _ _ 2 _)
      refine condR (b := false) (by kernel_rfl) (fun _ => by kernel_rfl) (fun h => by cases h) (fun _ => ?_)
      refine skipR (by kernel_rfl) ?_
      refine regionR 3 (by kernel_rfl) (by kernel_rfl) ?_
      refine (run0 (z := 0) 3 [0, 1, 5, 6, 7] [(0, .slice s.a s.l.length s.c), (1, .int .u8 n), (5, .pointer (some ⟨t, 0, none⟩)), (6, .int .i64 ((sumW W u) + (W u))), (7, .int .i64 (IntKind.i64.wrap ((u : Int) + 1)))] (fun _ => by kernel_rfl) (endR ?_) : RT _ _ _ _ _ _ 3 _)
      rw [show IntKind.i64.wrap ((u : Int) + 1) = ((u : Int) + 1) by rw [w64 (by omega) (by omega)]]
      refine PT.keep (L' := [(0, .slice s.a s.l.length s.c), (1, .int .u8 n), (5, .pointer (some ⟨t, 0, none⟩)), (6, .int .i64 ((sumW W u) + (W u))), (7, .int .i64 ((u : Int) + 1))]) [0, 1, 5, 6, 7] rfl ?_
      exact againG (k - 1) (N2, u + 1) rfl rfl (by omega) ⟨by simp only; omega, hI2⟩
    · skip
      have hu : u = s.l.length := by have := of_decide_eq_false h1; omega
      rw [hu] at hI
      subst hu
      have hJ := hI.done hl.1
      obtain ⟨S, hS⟩ : ∃ S, N.map skr = S := ⟨_, rfl⟩
      rw [hS] at hJ
      have hsw := sumW_pos (m := s.l.length) hWi
      have hp0 : ∀ j : Nat, j < s.l.length → ps N ((j : Int) + 1) = 0 := fun j hj => by
        obtain ⟨z, hz, e1, _⟩ := skr_get hS (hJ.has j hj)
        rw [← e1, ps_of hI.wf.sk.nd hz]; exact (hI.zero z hz).1
      refine exitR 0 (by kernel_rfl) (by kernel_rfl) ?_
      refine thenX ?_
      refine thenX ?_
      refine leaveR ?_
      refine seqR (by kernel_rfl) ?_
      refine seqR (by kernel_rfl) ?_
      refine regionR 1 (by kernel_rfl) (by kernel_rfl) ?_
      refine (run0 (z := 0) 1 [0, 1, 5, 6, 9] [(0, .slice s.a s.l.length s.c), (1, .int .u8 n), (5, .pointer (some ⟨t, 0, none⟩)), (6, .int .i64 (sumW W s.l.length)), (9, .int .i64 0)] (fun _ => by kernel_rfl) (endR ?_) : RT _ _ _ _ _ _ 1 _)
      refine blockR 2 (by kernel_rfl) (by kernel_rfl) ?_
      refine PT.keep (L' := [(0, .slice s.a s.l.length s.c), (1, .int .u8 n), (5, .pointer (some ⟨t, 0, none⟩)), (6, .int .i64 (sumW W s.l.length)), (9, .int .i64 0)]) [0, 1, 5, 6, 9] rfl ?_
      refine loopG (fun (q : List Nr × Nat) => [(0, .slice s.a s.l.length s.c), (1, .int .u8 n), (5, .pointer (some ⟨t, 0, none⟩)), (6, .int .i64 (sumW W s.l.length)), (9, .int .i64 (q.2 : Int))]) (fun (q : List Nr × Nat) => (treeS t q.1 :: H)) (fun k (q : List Nr × Nat) => (k : Int) + q.2 = n.tmod 20 ∧ WFN q.1 ∧ q.1.map skr = S ∧ ∃ Q, ∀ j : Nat, j < s.l.length → ps q.1 ((j : Int) + 1) = Q) (n.tmod 20).toNat (N, 0) (by kernel_rfl) ⟨by simp only; omega, hI.wf, hS, 0, hp0⟩ ?_
      rintro k2 ⟨N3, r⟩ ⟨hkr, hw3, hsk3, Q, hQ⟩
      simp only at hkr hw3 hsk3 hQ
      refine seqR (by kernel_rfl) ?_
      refine seqR (by kernel_rfl) ?_
      refine regionR 5 (by kernel_rfl) (by kernel_rfl) ?_
      refine (run0 (z := 0) 5 [0, 1, 5, 6, 9, 59] [(0, .slice s.a s.l.length s.c), (1, .int .u8 n), (5, .pointer (some ⟨t, 0, none⟩)), (6, .int .i64 (sumW W s.l.length)), (9, .int .i64 (r : Int)), (59, .bool (decide ((r : Int) < (IntKind.i64.wrap (Int.tmod n 20)))))] (fun _ => by kernel_rfl) (endR ?_) : RT _ _ _ _ _ _ 5 _)
      rw [show IntKind.i64.wrap (Int.tmod n 20) = (Int.tmod n 20) by rw [w64 (by omega) (by omega)]]
      refine condR (b := decide ((r : Int) < (Int.tmod n 20))) (by kernel_rfl) (fun _ => by kernel_rfl) (fun h2 => ?_) (fun h2 => ?_)
      · skip
        have hr := of_decide_eq_true h2
        obtain ⟨hfr, hft⟩ := Rnd.fresh (by omega) hWi hQ
        refine skipR (by kernel_rfl) ?_
        refine seqR (by kernel_rfl) ?_
        refine blockR 3 (by kernel_rfl) (by kernel_rfl) ?_
        refine seqR (by kernel_rfl) ?_
        refine regionR 1 (by kernel_rfl) (by kernel_rfl) ?_
        refine (stepR (z := 0) (newS 42 [.int .i64 0, .int .i64 0, .int .i64 0, .int .i64 0, .int .i64 0, .int .i64 0, .int .i64 0, .int .i64 0] (some 10) (fun b => .pointer (some ⟨b, 0, none⟩)) (fun _ _ => by kernel_rfl)) (fun b1 => ?_) : RT _ _ _ _ _ _ 1 _)
        refine endR ?_
        refine seqR (by kernel_rfl) ?_
        refine seqR (by kernel_rfl) ?_
        refine regionR 1 (by kernel_rfl) (by kernel_rfl) ?_
        refine (run0 (z := 0) 1 [10, 0, 1, 5, 6, 9, 11] [(10, .pointer (some ⟨b1, 0, none⟩)), (0, .slice s.a s.l.length s.c), (1, .int .u8 n), (5, .pointer (some ⟨t, 0, none⟩)), (6, .int .i64 (sumW W s.l.length)), (9, .int .i64 (r : Int)), (11, .int .i64 0)] (fun _ => by kernel_rfl) (endR ?_) : RT _ _ _ _ _ _ 1 _)
        refine blockR 4 (by kernel_rfl) (by kernel_rfl) ?_
        refine PT.blkRows (E := kE .i64) [0, 0, 0, 0, 0, 0, 0, 0] (by decide) rfl ?_
        refine PT.keep (L' := [(0, .slice s.a s.l.length s.c), (1, .int .u8 n), (5, .pointer (some ⟨t, 0, none⟩)), (6, .int .i64 (sumW W s.l.length)), (9, .int .i64 (r : Int)), (10, .pointer (some ⟨b1, 0, none⟩)), (11, .int .i64 0)]) [0, 1, 5, 6, 9, 10, 11] rfl ?_
        refine loopG (fun (q : List Nr × List Int × Nat) => [(0, .slice s.a s.l.length s.c), (1, .int .u8 n), (5, .pointer (some ⟨t, 0, none⟩)), (6, .int .i64 (sumW W s.l.length)), (9, .int .i64 (r : Int)), (10, .pointer (some ⟨b1, 0, none⟩)), (11, .int .i64 (q.2.2 : Int))]) (fun (q : List Nr × List Int × Nat) => (row (kE .i64) 42 (.slice (some ⟨b1, 0, none⟩) 8 8) q.2.1 :: treeS t q.1 :: H)) (fun k (q : List Nr × List Int × Nat) => (k : Int) + q.2.2 = sumW W s.l.length ∧ WFN q.1 ∧ q.1.map skr = S ∧ Rnd W s.l.length q.1 q.2.1 ∧ totL q.2.1 s.l.length = q.2.2) (sumW W s.l.length).toNat (N3, [0, 0, 0, 0, 0, 0, 0, 0], 0) (by kernel_rfl) ⟨by simp only; omega, hw3, hsk3, hfr, hft⟩ ?_
        rintro k3 ⟨N4, xs, i⟩ ⟨hki, hw4, hsk4, hrn, htt⟩
        simp only at hki hw4 hsk4 hrn htt
        refine seqR (by kernel_rfl) ?_
        refine seqR (by kernel_rfl) ?_
        refine regionR 3 (by kernel_rfl) (by kernel_rfl) ?_
        refine (run0 (z := 0) 3 [0, 1, 5, 6, 9, 10, 11, 64] [(0, .slice s.a s.l.length s.c), (1, .int .u8 n), (5, .pointer (some ⟨t, 0, none⟩)), (6, .int .i64 (sumW W s.l.length)), (9, .int .i64 (r : Int)), (10, .pointer (some ⟨b1, 0, none⟩)), (11, .int .i64 (i : Int)), (64, .bool (decide ((i : Int) < (sumW W s.l.length))))] (fun _ => by kernel_rfl) (endR ?_) : RT _ _ _ _ _ _ 3 _)
        refine condR (b := decide ((i : Int) < (sumW W s.l.length))) (by kernel_rfl) (fun _ => by kernel_rfl) (fun h3 => ?_) (fun h3 => ?_)
        · skip
          have hi := of_decide_eq_true h3
          obtain ⟨j, N5, hj, hrun, hw5, hsk5, hmin, δ, hd⟩ := th_run hw4 hsk4 hJ
          obtain ⟨hrn5, htt5⟩ := hrn.step (by omega) hWi (by omega) hj hmin hd
          have hxj := cntL_at (xs := xs) (j := j) (by rw [hrn.len]; omega)
          have hcj := hrn.le j hj
          have hWj := isW_cases (hWi j hj)
          have hrun' : runN N4 = ((((j + 1 : Nat) : Int), true), N5) := hrun
          refine skipR (by kernel_rfl) ?_
          refine seqR (by kernel_rfl) ?_
          refine blockR 5 (by kernel_rfl) (by kernel_rfl) ?_
          refine seqR (by kernel_rfl) ?_
          refine regionR 7 (by kernel_rfl) (by kernel_rfl) ?_
          refine (run0 (z := 6) 1 [0, 1, 5, 6, 9, 10, 11, 68] [(0, .slice s.a s.l.length s.c), (1, .int .u8 n), (5, .pointer (some ⟨t, 0, none⟩)), (6, .int .i64 (sumW W s.l.length)), (9, .int .i64 (r : Int)), (10, .pointer (some ⟨b1, 0, none⟩)), (11, .int .i64 (i : Int)), (68, .pointer (some ⟨t, 0, none⟩))] (fun _ => by kernel_rfl) ?_ : RT _ _ _ _ _ _ 7 _)
          refine (stepR (z := 5) (callS 13 [.pointer (some ⟨t, 0, none⟩)] (some 69) (fun _ => .tuple #[.int .i64 ((j + 1 : Nat) : Int), .bool true]) (fun _ => (row (kE .i64) 42 (.slice (some ⟨b1, 0, none⟩) 8 8) xs :: treeS t N5 :: H)) (fun _ => by kernel_rfl) (chg_at (H := (row (kE .i64) 42 (.slice (some ⟨b1, 0, none⟩) 8 8) xs :: treeS t N4 :: H)) 1 rfl (trRun_is _ t hrun'))) (fun _ => ?_) : RT _ _ _ _ _ _ 6 _)
          refine (run0 (z := 0) 5 [0, 1, 5, 6, 9, 10, 11, 12, 13] [(0, .slice s.a s.l.length s.c), (1, .int .u8 n), (5, .pointer (some ⟨t, 0, none⟩)), (6, .int .i64 (sumW W s.l.length)), (9, .int .i64 (r : Int)), (10, .pointer (some ⟨b1, 0, none⟩)), (11, .int .i64 (i : Int)), (12, .int .i64 ((j + 1 : Nat) : Int)), (13, .bool true)] (fun _ => by kernel_rfl) (endR ?_) : RT _ _ _ _ _ _ 5 _)
          refine seqR (by kernel_rfl) ?_
          refine seqR (by kernel_rfl) ?_
          refine regionR 12 (by kernel_rfl) (by kernel_rfl) ?_
          refine (run0 (z := 5) 7 [0, 1, 5, 6, 9, 10, 11, 12, 78] [(0, .slice s.a s.l.length s.c), (1, .int .u8 n), (5, .pointer (some ⟨t, 0, none⟩)), (6, .int .i64 (sumW W s.l.length)), (9, .int .i64 (r : Int)), (10, .pointer (some ⟨b1, 0, none⟩)), (11, .int .i64 (i : Int)), (12, .int .i64 ((j + 1 : Nat) : Int)), (78, .bool (decide (((j + 1 : Nat) : Int) < 1)))] (fun _ => by kernel_rfl) ?_ : RT _ _ _ _ _ _ 12 _)
          refine (segR (ι := Unit) (z := 0) 5 (fun _ => [(0, .slice s.a s.l.length s.c), (1, .int .u8 n), (5, .pointer (some ⟨t, 0, none⟩)), (6, .int .i64 (sumW W s.l.length)), (9, .int .i64 (r : Int)), (10, .pointer (some ⟨b1, 0, none⟩)), (11, .int .i64 (i : Int)), (12, .int .i64 ((j + 1 : Nat) : Int)), (83, .bool ((decide (((j + 1 : Nat) : Int) < 1)) || (decide (((j + 1 : Nat) : Int) > (s.l.length : Int)))))]) (fun _ => (row (kE .i64) 42 (.slice (some ⟨b1, 0, none⟩) 8 8) xs :: treeS t N5 :: H)) ?_ (fun _ => ?_) : RT _ _ _ _ _ _ 5 _)
          · cases hg7 : (decide (((j + 1 : Nat) : Int) < 1)) with
            | true =>
              refine (run0 (z := 0) 5 [0, 1, 5, 6, 9, 10, 11, 12, 83] [(0, .slice s.a s.l.length s.c), (1, .int .u8 n), (5, .pointer (some ⟨t, 0, none⟩)), (6, .int .i64 (sumW W s.l.length)), (9, .int .i64 (r : Int)), (10, .pointer (some ⟨b1, 0, none⟩)), (11, .int .i64 (i : Int)), (12, .int .i64 ((j + 1 : Nat) : Int)), (83, .bool true)] (fun _ => by kernel_rfl) (endR ?_) : RT _ _ _ _ _ _ 5 _)
              refine PT.keep (L' := [(0, .slice s.a s.l.length s.c), (1, .int .u8 n), (5, .pointer (some ⟨t, 0, none⟩)), (6, .int .i64 (sumW W s.l.length)), (9, .int .i64 (r : Int)), (10, .pointer (some ⟨b1, 0, none⟩)), (11, .int .i64 (i : Int)), (12, .int .i64 ((j + 1 : Nat) : Int)), (83, .bool (true || (decide (((j + 1 : Nat) : Int) > (s.l.length : Int)))))]) [0, 1, 5, 6, 9, 10, 11, 12, 83] rfl ?_
              exact midR () rfl rfl
            | false =>
              refine (run0 (z := 0) 5 [0, 1, 5, 6, 9, 10, 11, 12, 83] [(0, .slice s.a s.l.length s.c), (1, .int .u8 n), (5, .pointer (some ⟨t, 0, none⟩)), (6, .int .i64 (sumW W s.l.length)), (9, .int .i64 (r : Int)), (10, .pointer (some ⟨b1, 0, none⟩)), (11, .int .i64 (i : Int)), (12, .int .i64 ((j + 1 : Nat) : Int)), (83, .bool (decide (((j + 1 : Nat) : Int) > (s.l.length : Int))))] (fun _ => by kernel_rfl) (endR ?_) : RT _ _ _ _ _ _ 5 _)
              refine PT.keep (L' := [(0, .slice s.a s.l.length s.c), (1, .int .u8 n), (5, .pointer (some ⟨t, 0, none⟩)), (6, .int .i64 (sumW W s.l.length)), (9, .int .i64 (r : Int)), (10, .pointer (some ⟨b1, 0, none⟩)), (11, .int .i64 (i : Int)), (12, .int .i64 ((j + 1 : Nat) : Int)), (83, .bool (false || (decide (((j + 1 : Nat) : Int) > (s.l.length : Int)))))]) [0, 1, 5, 6, 9, 10, 11, 12, 83] rfl ?_
              exact midR () rfl rfl
          refine endR ?_
          rw [show ((decide (((j + 1 : Nat) : Int) < 1)) || (decide (((j + 1 : Nat) : Int) > (s.l.length : Int)))) = false from by first | exact decide_eq_false (by omega) | (simp; done) | (simp; omega)]
          refine condR (b := false) (by kernel_rfl) (fun _ => by kernel_rfl) (fun h => by cases h) (fun _ => ?_)
          refine skipR (by kernel_rfl) ?_
          refine regionR 6 (by kernel_rfl) (by kernel_rfl) ?_
          refine (run0 (z := 5) 1 [0, 1, 5, 6, 9, 10, 11, 84] [(0, .slice s.a s.l.length s.c), (1, .int .u8 n), (5, .pointer (some ⟨t, 0, none⟩)), (6, .int .i64 (sumW W s.l.length)), (9, .int .i64 (r : Int)), (10, .pointer (some ⟨b1, 0, none⟩)), (11, .int .i64 (i : Int)), (84, .int .i64 ((j + 1 : Nat) : Int))] (fun _ => by kernel_rfl) ?_ : RT _ _ _ _ _ _ 6 _)
          refine (stepR (z := 4) (yldS (aidxY 42 (.tmp 10) (.tmp 84) b1 0 8 (j + 1) 1 3 ((j + 1 : Nat) : Int) .i64 (some 85) (fun _ => by kernel_rfl) (by kernel_rfl) (by kernel_rfl) (fun _ => by kernel_rfl) (fun _ => by kernel_rfl) Try.underlying42 (by kernel_rfl) (by first | rfl | assumption | simp | omega) (by first | omega | decide | (simp; done) | (simp; omega) | (simp at *; omega)))) (fun _ => ?_) : RT _ _ _ _ _ _ 5 _)
          refine (runR (H := (row (kE .i64) 42 (.slice (some ⟨b1, 0, none⟩) 8 8) xs :: treeS t N5 :: H)) (z := 2) 2 [0, 1, 5, 6, 9, 10, 11, 84, 87] [(0, .slice s.a s.l.length s.c), (1, .int .u8 n), (5, .pointer (some ⟨t, 0, none⟩)), (6, .int .i64 (sumW W s.l.length)), (9, .int .i64 (r : Int)), (10, .pointer (some ⟨b1, 0, none⟩)), (11, .int .i64 (i : Int)), (84, .int .i64 ((j + 1 : Nat) : Int)), (87, .int .i64 (IntKind.i64.wrap ((cntL xs j) + 1)))] [(⟨b1, 0 + (j + 1) * 1, none⟩, .int .i64 (cntL xs j))] (hasC (rowCell (E := kE .i64) (xs := xs) 0 rfl (x := cntL xs j) hxj (j := 0) rfl) has0) (fun _ => by kernel_rfl) ?_ : RT _ _ _ _ _ _ 4 _)
          refine (stepR (z := 1) (yldS (aidxY 42 (.tmp 10) (.tmp 84) b1 0 8 (j + 1) 1 3 ((j + 1 : Nat) : Int) .i64 (some 88) (fun _ => by kernel_rfl) (by kernel_rfl) (by kernel_rfl) (fun _ => by kernel_rfl) (fun _ => by kernel_rfl) Try.underlying42 (by kernel_rfl) (by first | rfl | assumption | simp | omega) (by first | omega | decide | (simp; done) | (simp; omega) | (simp at *; omega)))) (fun _ => ?_) : RT _ _ _ _ _ _ 2 _)
          rw [show IntKind.i64.wrap ((cntL xs j) + 1) = ((cntL xs j) + 1) by rw [w64 (by omega) (by omega)]]
          refine (stepR (z := 0) (setS (E := (kE .i64)) (J := (j + 1)) (j := 0) (cntL xs j) (cntL xs j + 1) (.int .i64 ((cntL xs j) + 1)) ⟨b1, 0 + (j + 1) * 1, none⟩ (fun _ => by kernel_rfl) (by first | rfl | simp) (hxj) (rfl) (by decide)) (fun _ => ?_) : RT _ _ _ (row (kE .i64) 42 (.slice (some ⟨b1, 0, none⟩) 8 8) xs :: treeS t N5 :: H) _ _ 1 _)
          refine endR ?_
          refine regionR 3 (by kernel_rfl) (by kernel_rfl) ?_
          refine (run0 (z := 0) 3 [0, 1, 5, 6, 9, 10, 11] [(0, .slice s.a s.l.length s.c), (1, .int .u8 n), (5, .pointer (some ⟨t, 0, none⟩)), (6, .int .i64 (sumW W s.l.length)), (9, .int .i64 (r : Int)), (10, .pointer (some ⟨b1, 0, none⟩)), (11, .int .i64 (IntKind.i64.wrap ((i : Int) + 1)))] (fun _ => by kernel_rfl) (endR ?_) : RT _ _ _ _ _ _ 3 _)
          rw [show IntKind.i64.wrap ((i : Int) + 1) = ((i : Int) + 1) by rw [w64 (by omega) (by omega)]]
          refine PT.keep (L' := [(0, .slice s.a s.l.length s.c), (1, .int .u8 n), (5, .pointer (some ⟨t, 0, none⟩)), (6, .int .i64 (sumW W s.l.length)), (9, .int .i64 (r : Int)), (10, .pointer (some ⟨b1, 0, none⟩)), (11, .int .i64 ((i : Int) + 1))]) [0, 1, 5, 6, 9, 10, 11] rfl ?_
          exact againG (k3 - 1) (N5, xs.set (j + 1) (cntL xs j + 1), i + 1) rfl rfl (by omega) ⟨by simp only; omega, hw5, hsk5, hrn5, by rw [htt5, htt]; rfl⟩
        · skip
          have hi : totL xs s.l.length = sumW W s.l.length := by have := of_decide_eq_false h3; omega
          obtain ⟨hcs, Q5, hQ5⟩ := hrn.done hWi hi
          refine exitR 4 (by kernel_rfl) (by kernel_rfl) ?_
          refine thenX ?_
          refine thenX ?_
          refine leaveR ?_
          refine seqR (by kernel_rfl) ?_
          refine regionR 1 (by kernel_rfl) (by kernel_rfl) ?_
          refine (run0 (z := 0) 1 [0, 1, 5, 6, 9, 10, 14] [(0, .slice s.a s.l.length s.c), (1, .int .u8 n), (5, .pointer (some ⟨t, 0, none⟩)), (6, .int .i64 (sumW W s.l.length)), (9, .int .i64 (r : Int)), (10, .pointer (some ⟨b1, 0, none⟩)), (14, .int .i64 0)] (fun _ => by kernel_rfl) (endR ?_) : RT _ _ _ _ _ _ 1 _)
          refine blockR 6 (by kernel_rfl) (by kernel_rfl) ?_
          refine PT.keep (L' := [(0, .slice s.a s.l.length s.c), (1, .int .u8 n), (5, .pointer (some ⟨t, 0, none⟩)), (6, .int .i64 (sumW W s.l.length)), (9, .int .i64 (r : Int)), (10, .pointer (some ⟨b1, 0, none⟩)), (14, .int .i64 0)]) [0, 1, 5, 6, 9, 10, 14] rfl ?_
          refine loopG (fun (v : Nat) => [(0, .slice s.a s.l.length s.c), (1, .int .u8 n), (5, .pointer (some ⟨t, 0, none⟩)), (6, .int .i64 (sumW W s.l.length)), (9, .int .i64 (r : Int)), (10, .pointer (some ⟨b1, 0, none⟩)), (14, .int .i64 (v : Int))]) (fun (v : Nat) => (row (kE .i64) 42 (.slice (some ⟨b1, 0, none⟩) 8 8) xs :: treeS t N4 :: H)) (fun k (v : Nat) => k + v = s.l.length) s.l.length 0 (by kernel_rfl) (by simp) ?_
          rintro k4 v hkv
          refine seqR (by kernel_rfl) ?_
          refine seqR (by kernel_rfl) ?_
          refine regionR 4 (by kernel_rfl) (by kernel_rfl) ?_
          refine (run0 (z := 0) 4 [0, 1, 5, 6, 9, 10, 14, 92] [(0, .slice s.a s.l.length s.c), (1, .int .u8 n), (5, .pointer (some ⟨t, 0, none⟩)), (6, .int .i64 (sumW W s.l.length)), (9, .int .i64 (r : Int)), (10, .pointer (some ⟨b1, 0, none⟩)), (14, .int .i64 (v : Int)), (92, .bool (decide ((v : Int) < (s.l.length : Int))))] (fun _ => by kernel_rfl) (endR ?_) : RT _ _ _ _ _ _ 4 _)
          refine condR (b := decide ((v : Int) < (s.l.length : Int))) (by kernel_rfl) (fun _ => by kernel_rfl) (fun h4 => ?_) (fun h4 => ?_)
          · skip
            have hv := of_decide_eq_true h4
            obtain ⟨x, hx⟩ : ∃ x, s.l[v]? = some x := ⟨_, List.getElem?_eq_getElem (by omega)⟩
            have hxb := hw8 x (List.mem_of_getElem? hx)
            have hWx := hWa v x hx
            have hxv := cntL_at (xs := xs) (j := v) (by rw [hrn.len]; omega)
            rw [hcs v (by omega)] at hxv
            refine PT.know ((hk).up.up.isSome (List.ne_nil_of_length_pos (by omega))) ?_
            rintro ⟨sb, so, hA'⟩
            try rw [hA']
            refine skipR (by kernel_rfl) ?_
            refine seqR (by kernel_rfl) ?_
            refine blockR 7 (by kernel_rfl) (by kernel_rfl) ?_
            refine seqR (by kernel_rfl) ?_
            refine drawR (fun w => Sat w (row (kE .i64) 42 (.slice (some ⟨b1, 0, none⟩) 8 8) xs :: treeS t N4 :: H)) [] 12 (by kernel_rfl) (by kernel_rfl) (by kernel_rfl) (fun _ h => by first | exact h | exact h.tail | exact h.tail.tail | exact h.tail.tail.tail | exact h.tail.tail.tail.tail) ?_
            refine takesR [0, 1, 4, 5] [0, 1, 5, 6, 9, 10, 14, 96, 99, 100] 8 [true, true, false, false, true, true, false, false, false, false, false, false] [(0, .slice (some ⟨sb, so, none⟩) s.l.length s.c), (1, .int .u8 n), (5, .pointer (some ⟨t, 0, none⟩)), (6, .int .i64 (sumW W s.l.length)), (9, .int .i64 (r : Int)), (10, .pointer (some ⟨b1, 0, none⟩)), (14, .int .i64 (v : Int)), (96, .int .i64 (IntKind.i64.wrap ((v : Int) + 1))), (99, .slice (some ⟨sb, so, none⟩) s.l.length s.c), (100, .int .i64 (v : Int))] [] rfl (fun _ d _ _ _ h => by cases d <;> exact h) (fun _ h => by first | exact h | exact h.tail | exact h.tail.tail | exact h.tail.tail.tail | exact h.tail.tail.tail.tail) has0 (fun _ => by kernel_rfl) ?_
            refine takeR1 6 7 [true, true, false, false, true, true, true, false, false, false, false, false] rfl rfl (by kernel_rfl) (fun _ d _ _ _ h => by cases d <;> exact h) (fun _ h => by first | exact h | exact h.tail | exact h.tail.tail | exact h.tail.tail.tail | exact h.tail.tail.tail.tail) (idxY 22 (.tmp 99) (.tmp 100) sb so s.l.length s.c v 1 5 (v : Int) .i64 (some 101) (fun _ => by kernel_rfl) (by kernel_rfl) (by kernel_rfl) (fun _ => by kernel_rfl) (fun _ => by kernel_rfl) Try.underlying22 (by kernel_rfl) (by first | rfl | assumption | simp) (by first | omega | (simp; done) | (simp; omega) | (simp at *; omega))) ?_
            refine takesR [7, 8, 9, 10] [0, 1, 5, 6, 9, 10, 14, 96, 105] 3 [true, true, false, false, true, true, true, true, true, true, true, false] [(0, .slice (some ⟨sb, so, none⟩) s.l.length s.c), (1, .int .u8 n), (5, .pointer (some ⟨t, 0, none⟩)), (6, .int .i64 (sumW W s.l.length)), (9, .int .i64 (r : Int)), (10, .pointer (some ⟨b1, 0, none⟩)), (14, .int .i64 (v : Int)), (96, .int .i64 (IntKind.i64.wrap ((v : Int) + 1))), (105, .int .i64 (IntKind.i64.wrap ((IntKind.i64.wrap (Int.tmod x 16)) + 1)))] [(⟨sb, so + v * 1, none⟩, .int .u8 x)] rfl (fun _ d _ _ _ h => by cases d <;> exact h) (fun _ h => by first | exact h | exact h.tail | exact h.tail.tail | exact h.tail.tail.tail | exact h.tail.tail.tail.tail) (hasC (up (up (hk.cell hA' (i := v) (x := x) hx (j := 0) rfl))) has0) (fun _ => by kernel_rfl) ?_
            rw [show IntKind.i64.wrap ((v : Int) + 1) = ((v + 1 : Nat) : Int) by rw [w64 (by omega) (by omega)]; rfl]
            refine takeR1 2 2 [true, true, true, false, true, true, true, true, true, true, true, false] rfl rfl (by kernel_rfl) (fun _ d _ _ _ h => by cases d <;> exact h) (fun _ h => by first | exact h | exact h.tail | exact h.tail.tail | exact h.tail.tail.tail | exact h.tail.tail.tail.tail) (aidxY 42 (.tmp 10) (.tmp 96) b1 0 8 (v + 1) 1 3 ((v + 1 : Nat) : Int) .i64 (some 97) (fun _ => by kernel_rfl) (by kernel_rfl) (by kernel_rfl) (fun _ => by kernel_rfl) (fun _ => by kernel_rfl) Try.underlying42 (by kernel_rfl) (by first | rfl | assumption | simp | omega) (by first | omega | decide | (simp; done) | (simp; omega) | (simp at *; omega))) ?_
            refine takesR [3, 11] [0, 1, 5, 6, 9, 10, 14, 106] 0 [true, true, true, true, true, true, true, true, true, true, true, true] [(0, .slice (some ⟨sb, so, none⟩) s.l.length s.c), (1, .int .u8 n), (5, .pointer (some ⟨t, 0, none⟩)), (6, .int .i64 (sumW W s.l.length)), (9, .int .i64 (r : Int)), (10, .pointer (some ⟨b1, 0, none⟩)), (14, .int .i64 (v : Int)), (106, .bool ((W v) != (IntKind.i64.wrap ((IntKind.i64.wrap (Int.tmod x 16)) + 1))))] [(⟨b1, 0 + (v + 1) * 1, none⟩, .int .i64 (W v))] rfl (fun _ d _ _ _ h => by cases d <;> exact h) (fun _ h => by first | exact h | exact h.tail | exact h.tail.tail | exact h.tail.tail.tail | exact h.tail.tail.tail.tail) (hasC (rowCell (E := kE .i64) (xs := xs) 0 rfl (x := W v) hxv (j := 0) rfl) has0) (fun _ => by kernel_rfl) ?_
            refine drawnR (by kernel_rfl) ?_
            rw [show IntKind.i64.wrap ((IntKind.i64.wrap (Int.tmod x 16)) + 1) = (W v) by rw [wOf_wrap hxb.1, hWx]]
            rw [show ((W v) != (W v)) = false from by simp]
            refine condR (b := false) (by kernel_rfl) (fun _ => by kernel_rfl) (fun h => by cases h) (fun _ => ?_)
            refine skipR (by kernel_rfl) ?_
            refine regionR 3 (by kernel_rfl) (by kernel_rfl) ?_
            refine (run0 (z := 0) 3 [0, 1, 5, 6, 9, 10, 14] [(0, .slice (some ⟨sb, so, none⟩) s.l.length s.c), (1, .int .u8 n), (5, .pointer (some ⟨t, 0, none⟩)), (6, .int .i64 (sumW W s.l.length)), (9, .int .i64 (r : Int)), (10, .pointer (some ⟨b1, 0, none⟩)), (14, .int .i64 (IntKind.i64.wrap ((v : Int) + 1)))] (fun _ => by kernel_rfl) (endR ?_) : RT _ _ _ _ _ _ 3 _)
            try rw [← hA']
            rw [show IntKind.i64.wrap ((v : Int) + 1) = ((v : Int) + 1) by rw [w64 (by omega) (by omega)]]
            refine PT.keep (L' := [(0, .slice s.a s.l.length s.c), (1, .int .u8 n), (5, .pointer (some ⟨t, 0, none⟩)), (6, .int .i64 (sumW W s.l.length)), (9, .int .i64 (r : Int)), (10, .pointer (some ⟨b1, 0, none⟩)), (14, .int .i64 ((v : Int) + 1))]) [0, 1, 5, 6, 9, 10, 14] rfl ?_
            exact againG (k4 - 1) (v + 1) rfl rfl (by omega) (by omega)
          · skip
            refine exitR 6 (by kernel_rfl) (by kernel_rfl) ?_
            refine thenX ?_
            refine thenX ?_
            refine leaveR ?_
            refine regionR 3 (by kernel_rfl) (by kernel_rfl) ?_
            refine (run0 (z := 0) 3 [0, 1, 5, 6, 9] [(0, .slice s.a s.l.length s.c), (1, .int .u8 n), (5, .pointer (some ⟨t, 0, none⟩)), (6, .int .i64 (sumW W s.l.length)), (9, .int .i64 (IntKind.i64.wrap ((r : Int) + 1)))] (fun _ => by kernel_rfl) (endR ?_) : RT _ _ _ _ _ _ 3 _)
            refine PT.drop ?_
            rw [show IntKind.i64.wrap ((r : Int) + 1) = ((r : Int) + 1) by rw [w64 (by omega) (by omega)]]
            refine PT.keep (L' := [(0, .slice s.a s.l.length s.c), (1, .int .u8 n), (5, .pointer (some ⟨t, 0, none⟩)), (6, .int .i64 (sumW W s.l.length)), (9, .int .i64 ((r : Int) + 1))]) [0, 1, 5, 6, 9] rfl ?_
            exact againG (k2 - 1) (N4, r + 1) rfl rfl (by omega) ⟨by simp only; omega, hw4, hsk4, Q5, hQ5⟩
      · skip
        refine exitR 2 (by kernel_rfl) (by kernel_rfl) ?_
        refine thenX ?_
        refine thenX ?_
        refine leaveR ?_
        refine seqR (by kernel_rfl) ?_
        refine regionR 1 (by kernel_rfl) (by kernel_rfl) ?_
        refine (run0 (z := 0) 1 [4] [(4, .bool true)] (fun _ => by kernel_rfl) (endR ?_) : RT _ _ _ _ _ _ 1 _)
        refine retR (by kernel_rfl) ?_
        refine done0 (.bool true) (fun _ => by kernel_rfl) (fun w hs => ?_) .ret (.inr rfl)
        exact ⟨(), rfl, hs.tail⟩
theorem long_row (W : World) (ao : Option Addr) (c : Nat) (l : List Int) (n : Int) (hrd : Rd (kE .u8) W (.slice ao l.length c) l) (hl : ∀ x ∈ l, (Lit.int .u8 x).wf = true) (hn : (Lit.int .u8 n).wf = true) : Calls Try.prog 5 #[.slice ao l.length c, .int .u8 n] W (LawPost W) :=
  lawPost (fun _ _ h => h) (long_walk [old W] ⟨ao, c, l⟩ n (u8_wf hn) (KR.old hrd 0 rfl) (fun x hx => u8_wf (hl x hx)) W (Sat.start W))
end Go.Proofs.Ytjbjngikaiggdaa
