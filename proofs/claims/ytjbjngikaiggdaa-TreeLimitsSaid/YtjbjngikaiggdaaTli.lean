/- TreeLimits: its walk. Conditions: none. -/
import Derived.Test.YtjbjngikaiggdaaTsl
set_option linter.unusedVariables false
set_option linter.unusedSimpArgs false
namespace Go.Proofs.Ytjbjngikaiggdaa
open Go.RowKit G
theorem deep_ok {N : List Nr} {T : List Nd} (hT : OkT N T) (hw : WFN N) {k : Int} {d : Nat} (h : deepN 6 N k = d) (H : List SP) (t mb : Nat) : ∀ w, Sat w (blk t 64 [.map (some mb)] :: mapS mb (T.map kp) :: (nodesL T ++ H)) → Calls Try.prog 15 #[.pointer (some ⟨t, 0, none⟩), .int .i64 k] w (Ret (ι := Unit) (fun _ => .int .i64 (d : Int)) fun _ => blk t 64 [.map (some mb)] :: mapS mb (T.map kp) :: (nodesL T ++ H)) := by
  have := deep_walk hT hw.sk H t mb k
  rw [h] at this
  exact this
def gD : Nat → List Nr
  | 0 => [rootN]
  | 1 => [rootN, ⟨1, 0, 1, 0, false, false, 0⟩]
  | 2 => [rootN, ⟨1, 0, 1, 0, false, false, 0⟩, ⟨2, 1, 1, 0, false, false, 0⟩]
  | _ => [rootN, ⟨1, 0, 1, 0, false, false, 0⟩, ⟨2, 1, 1, 0, false, false, 0⟩, ⟨3, 2, 1, 0, false, false, 0⟩]
theorem gD_add {u : Nat} (hu : u < 3) : addN (gD u) (u : Int) ((u + 1 : Nat) : Int) 1 false = (0, gD (u + 1)) ∧ deepN 6 (gD (u + 1)) ((u + 1 : Nat) : Int) = u + 2 := by
  have h : u = 0 ∨ u = 1 ∨ u = 2 := by omega
  rcases h with rfl | rfl | rfl <;> exact ⟨by kernel_rfl, by kernel_rfl⟩
theorem gD_four : addN (gD 3) 3 4 1 false = (12, gD 3) := by kernel_rfl
theorem gD_none {i : Int} (hi : 4 < i) : addN (gD 3) (i - 1) i 1 false = (13, gD 3) := by
  have hg : gt (gD 3) (i - 1) = none := gt_none.2 fun x hx => by
    simp only [gD, rootN, List.mem_cons, List.not_mem_nil, or_false] at hx
    rcases hx with rfl | rfl | rfl | rfl <;> simp only <;> omega
  rw [addN, if_neg (by simp [isW]; omega), hg]
def wN (u : Nat) : List Nr := rootN :: (List.range u).map fun j : Nat => ⟨(j : Int) + 1, 0, 1, 0, true, false, 0⟩
theorem wN_len (u : Nat) : (wN u).length = u + 1 := by simp [wN]
theorem wN_add {u : Nat} (hu : u < 59) : addN (wN u) 0 ((u + 1 : Nat) : Int) 1 true = (0, wN (u + 1)) := by
  have h := addN_is (N := wN u) (par := 0) (id := ((u + 1 : Nat) : Int)) (wt := 1) (thr := true) (p := rootN) rfl (by omega) rfl rfl (gt_none.2 fun x hx => by
    simp only [wN, List.mem_cons, List.mem_map, List.mem_range] at hx
    rcases hx with rfl | ⟨j, hj, rfl⟩
    · simp only [rootN]; omega
    · simp only; omega) (.inl rfl) (by rw [wN_len]; omega)
  rw [h]
  simp only [wN, List.range_succ, List.map_append, List.map_cons, List.map_nil, List.cons_append]
  rfl
theorem wN_full {i : Int} (hi : 60 ≤ i) : addN (wN 59) 0 i 1 true = (14, wN 59) := by
  have hg : gt (wN 59) i = none := gt_none.2 fun x hx => by
    simp only [wN, List.mem_cons, List.mem_map, List.mem_range] at hx
    rcases hx with rfl | ⟨j, hj, rfl⟩
    · simp only [rootN]; omega
    · simp only; omega
  have hp : gt (wN 59) 0 = some rootN := rfl
  rw [addN, if_neg (by simp [isW]; omega), hp]
  simp only
  rw [if_neg (by decide), if_neg (by rw [hg]; simp), if_neg (by simp), if_pos (by rw [wN_len]; omega)]
theorem wN_ids {u : Nat} (hu : u < 60) : ∀ x ∈ wN u, x.id ≤ 9223372036854775807 := by
  intro x hx
  simp only [wN, List.mem_cons, List.mem_map, List.mem_range] at hx
  rcases hx with rfl | ⟨j, hj, rfl⟩
  · decide
  · simp only; omega
set_option maxHeartbeats 1000000 in
set_option maxRecDepth 100000 in
theorem limits_walk (H : List SP) (n : Int) (deep : Bool) (hn : 0 ≤ n ∧ n < 256) : ∀ w, Sat w H → Calls Try.prog 4 #[.int .u8 n, .bool deep] w (Ret (ι := Unit) (fun _ => .bool true) fun _ => H) := by
  have hnm := tmod_range hn.1 (m := 8) (by omega)
  refine enterG (fn := Try.f4) 91 [.int .u8 n, .bool deep] Try.func4 (by kernel_rfl) (by kernel_rfl) (by kernel_rfl) ?_
  refine seqR (by kernel_rfl) ?_
  refine regionR 1 (by kernel_rfl) (by kernel_rfl) ?_
  refine (run0 (z := 0) 1 [0, 1, 4] [(0, .int .u8 n), (1, .bool deep), (4, .bool false)] (fun _ => by kernel_rfl) (endR ?_) : RT _ _ _ _ _ _ 1 _)
  refine seqR (by kernel_rfl) ?_
  refine seqR (by kernel_rfl) ?_
  refine regionR 2 (by kernel_rfl) (by kernel_rfl) ?_
  refine (stepR (z := 1) (callS 9 [] (some 11) (fun _ => .bool true) (fun (_ : Unit) => (H)) (fun _ => by kernel_rfl) (known_true _)) (fun _ => ?_) : RT _ _ _ _ _ _ 2 _)
  refine (run0 (z := 0) 1 [0, 1, 4, 12] [(0, .int .u8 n), (1, .bool deep), (4, .bool false), (12, .bool false)] (fun _ => by kernel_rfl) (endR ?_) : RT _ _ _ _ _ _ 1 _)
  refine condR (b := false) (by kernel_rfl) (fun _ => by kernel_rfl) (fun h => by cases h) (fun _ => ?_)
  refine skipR (by kernel_rfl) ?_
  refine seqR (by kernel_rfl) ?_
  refine regionR 2 (by kernel_rfl) (by kernel_rfl) ?_
  refine (stepR (z := 1) (callS 10 [] (some 13) (fun (q : Nat × Nat × Nat × Nat) => .pointer (some ⟨q.1, 0, none⟩)) (fun (q : Nat × Nat × Nat × Nat) => blk q.1 64 [.map (some q.2.1)] :: mapS q.2.1 ([rootT q.2.2.1 q.2.2.2].map kp) :: (nodesL [rootT q.2.2.1 q.2.2.2] ++ H)) (fun _ => by kernel_rfl) (tnew_walk H)) (fun (q : Nat × Nat × Nat × Nat) => ?_) : RT _ _ _ _ _ _ 2 _)
  obtain ⟨t, mb, tb, tib⟩ := q
  refine (run0 (z := 0) 1 [0, 1, 4, 5] [(0, .int .u8 n), (1, .bool deep), (4, .bool false), (5, .pointer (some ⟨t, 0, none⟩))] (fun _ => by kernel_rfl) (endR ?_) : RT _ _ _ _ _ _ 1 _)
  refine seqR (by kernel_rfl) ?_
  refine seqR (by kernel_rfl) ?_
  refine regionR 1 (by kernel_rfl) (by kernel_rfl) ?_
  refine (run0 (z := 0) 1 [0, 4, 5, 14] [(0, .int .u8 n), (4, .bool false), (5, .pointer (some ⟨t, 0, none⟩)), (14, .bool deep)] (fun _ => by kernel_rfl) (endR ?_) : RT _ _ _ _ _ _ 1 _)
  refine condR (b := deep) (by kernel_rfl) (fun _ => by kernel_rfl) (fun h0 => ?_) (fun h0 => ?_)
  · skip
    refine seqR (by kernel_rfl) ?_
    refine seqR (by kernel_rfl) ?_
    refine regionR 1 (by kernel_rfl) (by kernel_rfl) ?_
    refine (run0 (z := 0) 1 [0, 4, 5, 6] [(0, .int .u8 n), (4, .bool false), (5, .pointer (some ⟨t, 0, none⟩)), (6, .int .i64 1)] (fun _ => by kernel_rfl) (endR ?_) : RT _ _ _ _ _ _ 1 _)
    refine blockR 0 (by kernel_rfl) (by kernel_rfl) ?_
    refine PT.keep (L' := [(0, .int .u8 n), (4, .bool false), (5, .pointer (some ⟨t, 0, none⟩)), (6, .int .i64 1)]) [0, 4, 5, 6] rfl ?_
    refine loopG (fun (s : Nat × List Nd) => [(0, .int .u8 n), (4, .bool false), (5, .pointer (some ⟨t, 0, none⟩)), (6, .int .i64 ((s.1 + 1 : Nat) : Int))]) (fun (s : Nat × List Nd) => (blk t 64 [.map (some mb)] :: mapS mb (s.2.map kp) :: (nodesL s.2 ++ H))) (fun k (s : Nat × List Nd) => (k : Int) + s.1 = n.tmod 8 ∧ OkT (gD (min s.1 3)) s.2 ∧ WFN (gD (min s.1 3))) (n.tmod 8).toNat (0, [rootT tb tib]) (by kernel_rfl) ⟨by simp only; omega, root_ok tb tib, root_wf⟩ ?_
    rintro k ⟨u, T⟩ ⟨hku, hT, hw⟩
    simp only at hku hT hw
    refine seqR (by kernel_rfl) ?_
    refine seqR (by kernel_rfl) ?_
    refine regionR 5 (by kernel_rfl) (by kernel_rfl) ?_
    refine (run0 (z := 0) 5 [0, 4, 5, 6, 19] [(0, .int .u8 n), (4, .bool false), (5, .pointer (some ⟨t, 0, none⟩)), (6, .int .i64 ((u + 1 : Nat) : Int)), (19, .bool (decide (((u + 1 : Nat) : Int) ≤ (IntKind.i64.wrap (Int.tmod n 8)))))] (fun _ => by kernel_rfl) (endR ?_) : RT _ _ _ _ _ _ 5 _)
    rw [show IntKind.i64.wrap (Int.tmod n 8) = (Int.tmod n 8) by rw [w64 (by omega) (by omega)]]
    refine condR (b := decide (((u + 1 : Nat) : Int) ≤ (Int.tmod n 8))) (by kernel_rfl) (fun _ => by kernel_rfl) (fun h1 => ?_) (fun h1 => ?_)
    · skip
      have hu := of_decide_eq_true h1
      refine skipR (by kernel_rfl) ?_
      refine seqR (by kernel_rfl) ?_
      refine blockR 1 (by kernel_rfl) (by kernel_rfl) ?_
      refine seqR (by kernel_rfl) ?_
      refine regionR 6 (by kernel_rfl) (by kernel_rfl) ?_
      refine (run0 (z := 2) 4 [0, 4, 5, 6, 22, 24, 25] [(0, .int .u8 n), (4, .bool false), (5, .pointer (some ⟨t, 0, none⟩)), (6, .int .i64 ((u + 1 : Nat) : Int)), (22, .pointer (some ⟨t, 0, none⟩)), (24, .int .i64 (IntKind.i64.wrap (((u + 1 : Nat) : Int) - 1))), (25, .int .i64 ((u + 1 : Nat) : Int))] (fun _ => by kernel_rfl) ?_ : RT _ _ _ _ _ _ 6 _)
      rw [show IntKind.i64.wrap (((u + 1 : Nat) : Int) - 1) = (u : Int) by rw [w64 (by omega) (by omega)]; omega]
      rcases (show u < 3 ∨ u = 3 ∨ 3 < u by omega) with hu3 | hu3 | hu3
      · skip
        obtain ⟨hA, hD⟩ := gD_add hu3
        rw [Nat.min_eq_left (show u ≤ 3 by omega)] at hT hw
        refine (stepR (z := 1) (callS 11 [.pointer (some ⟨t, 0, none⟩), .int .i64 (u : Int), .int .i64 ((u + 1 : Nat) : Int), .int .i64 1, .bool false] (some 26) (fun (Ta : { T' : List Nd // OkT (gD (u + 1)) T' ∧ WFN (gD (u + 1)) }) => .nilIface) (fun (Ta : { T' : List Nd // OkT (gD (u + 1)) T' ∧ WFN (gD (u + 1)) }) => blk t 64 [.map (some mb)] :: mapS mb (Ta.1.map kp) :: (nodesL Ta.1 ++ H)) (fun _ => by kernel_rfl) (add_ok hT hw hA H t mb)) (fun (Ta : { T' : List Nd // OkT (gD (u + 1)) T' ∧ WFN (gD (u + 1)) }) => ?_) : RT _ _ _ _ _ _ 2 _)
        refine (run0 (z := 0) 1 [0, 4, 5, 6, 7] [(0, .int .u8 n), (4, .bool false), (5, .pointer (some ⟨t, 0, none⟩)), (6, .int .i64 ((u + 1 : Nat) : Int)), (7, .nilIface)] (fun _ => by kernel_rfl) (endR ?_) : RT _ _ _ _ _ _ 1 _)
        refine seqR (by kernel_rfl) ?_
        refine seqR (by kernel_rfl) ?_
        refine regionR 2 (by kernel_rfl) (by kernel_rfl) ?_
        refine (run0 (z := 0) 2 [0, 4, 5, 6, 7, 28] [(0, .int .u8 n), (4, .bool false), (5, .pointer (some ⟨t, 0, none⟩)), (6, .int .i64 ((u + 1 : Nat) : Int)), (7, .nilIface), (28, .bool (decide (((u + 1 : Nat) : Int) < 4)))] (fun _ => by kernel_rfl) (endR ?_) : RT _ _ _ _ _ _ 2 _)
        rw [show (decide (((u + 1 : Nat) : Int) < 4)) = true by exact decide_eq_true (by omega)]
        refine condR (b := true) (by kernel_rfl) (fun _ => by kernel_rfl) (fun _ => ?_) (fun h => by cases h)
        refine seqR (by kernel_rfl) ?_
        refine seqR (by kernel_rfl) ?_
        refine regionR 10 (by kernel_rfl) (by kernel_rfl) ?_
        refine (run0 (z := 5) 5 [0, 4, 5, 6, 7, 31, 32, 33] [(0, .int .u8 n), (4, .bool false), (5, .pointer (some ⟨t, 0, none⟩)), (6, .int .i64 ((u + 1 : Nat) : Int)), (7, .nilIface), (31, .bool false), (32, .pointer (some ⟨t, 0, none⟩)), (33, .int .i64 ((u + 1 : Nat) : Int))] (fun _ => by kernel_rfl) ?_ : RT _ _ _ _ _ _ 10 _)
        refine (stepR (z := 4) (callS 15 [.pointer (some ⟨t, 0, none⟩), .int .i64 ((u + 1 : Nat) : Int)] (some 34) (fun _ => .int .i64 ((u + 2 : Nat) : Int)) (fun _ => (blk t 64 [.map (some mb)] :: mapS mb (Ta.1.map kp) :: (nodesL Ta.1 ++ H))) (fun _ => by kernel_rfl) (deep_ok Ta.2.1 Ta.2.2 hD H t mb)) (fun _ => ?_) : RT _ _ _ _ _ _ 5 _)
        refine (run0 (z := 0) 4 [0, 4, 5, 6, 7, 38] [(0, .int .u8 n), (4, .bool false), (5, .pointer (some ⟨t, 0, none⟩)), (6, .int .i64 ((u + 1 : Nat) : Int)), (7, .nilIface), (38, .bool (((u + 2 : Nat) : Int) != (IntKind.i64.wrap (((u + 1 : Nat) : Int) + 1))))] (fun _ => by kernel_rfl) (endR ?_) : RT _ _ _ _ _ _ 4 _)
        rw [show IntKind.i64.wrap (((u + 1 : Nat) : Int) + 1) = ((u + 2 : Nat) : Int) by rw [w64 (by omega) (by omega)]; omega]
        rw [show (((u + 2 : Nat) : Int) != ((u + 2 : Nat) : Int)) = false by simp]
        refine condR (b := false) (by kernel_rfl) (fun _ => by kernel_rfl) (fun h => by cases h) (fun _ => ?_)
        refine skipR (by kernel_rfl) ?_
        refine exitR 1 (by kernel_rfl) (by kernel_rfl) ?_
        refine thenX ?_
        refine leaveR ?_
        refine regionR 3 (by kernel_rfl) (by kernel_rfl) ?_
        refine (run0 (z := 0) 3 [0, 4, 5, 6] [(0, .int .u8 n), (4, .bool false), (5, .pointer (some ⟨t, 0, none⟩)), (6, .int .i64 (IntKind.i64.wrap (((u + 1 : Nat) : Int) + 1)))] (fun _ => by kernel_rfl) (endR ?_) : RT _ _ _ _ _ _ 3 _)
        rw [show IntKind.i64.wrap (((u + 1 : Nat) : Int) + 1) = ((u + 1 + 1 : Nat) : Int) by rw [w64 (by omega) (by omega)]; omega]
        refine PT.keep (L' := [(0, .int .u8 n), (4, .bool false), (5, .pointer (some ⟨t, 0, none⟩)), (6, .int .i64 ((u + 1 + 1 : Nat) : Int))]) [0, 4, 5, 6] rfl ?_
        exact againG (k - 1) (u + 1, Ta.1) rfl rfl (by omega) ⟨by simp only; omega, by show OkT (gD (min (u + 1) 3)) Ta.1; rw [Nat.min_eq_left (show u + 1 ≤ 3 by omega)]; exact Ta.2.1, by show WFN (gD (min (u + 1) 3)); rw [Nat.min_eq_left (show u + 1 ≤ 3 by omega)]; exact Ta.2.2⟩
      · skip
        rw [Nat.min_eq_right (show 3 ≤ u by omega)] at hT hw
        rw [show ((u + 1 : Nat) : Int) = 4 by omega]
        rw [show (u : Int) = 3 by omega]
        refine (stepR (z := 1) (callS 11 [.pointer (some ⟨t, 0, none⟩), .int .i64 3, .int .i64 4, .int .i64 1, .bool false] (some 26) (fun (Ta : { T' : List Nd // OkT (gD 3) T' }) => .iface 38 (.int .i64 12)) (fun (Ta : { T' : List Nd // OkT (gD 3) T' }) => blk t 64 [.map (some mb)] :: mapS mb (Ta.1.map kp) :: (nodesL Ta.1 ++ H)) (fun _ => by kernel_rfl) (add_no hT hw gD_four (by decide) H t mb)) (fun (Ta : { T' : List Nd // OkT (gD 3) T' }) => ?_) : RT _ _ _ _ _ _ 2 _)
        refine (run0 (z := 0) 1 [0, 4, 5, 6, 7] [(0, .int .u8 n), (4, .bool false), (5, .pointer (some ⟨t, 0, none⟩)), (6, .int .i64 4), (7, .iface 38 (.int .i64 12))] (fun _ => by kernel_rfl) (endR ?_) : RT _ _ _ _ _ _ 1 _)
        refine seqR (by kernel_rfl) ?_
        refine seqR (by kernel_rfl) ?_
        refine regionR 2 (by kernel_rfl) (by kernel_rfl) ?_
        refine (run0 (z := 0) 2 [0, 4, 5, 6, 7, 28] [(0, .int .u8 n), (4, .bool false), (5, .pointer (some ⟨t, 0, none⟩)), (6, .int .i64 4), (7, .iface 38 (.int .i64 12)), (28, .bool false)] (fun _ => by kernel_rfl) (endR ?_) : RT _ _ _ _ _ _ 2 _)
        refine condR (b := false) (by kernel_rfl) (fun _ => by kernel_rfl) (fun h => by cases h) (fun _ => ?_)
        refine skipR (by kernel_rfl) ?_
        refine seqR (by kernel_rfl) ?_
        refine regionR 18 (by kernel_rfl) (by kernel_rfl) ?_
        refine (run0 (z := 13) 5 [0, 4, 5, 6, 7, 41, 42, 43] [(0, .int .u8 n), (4, .bool false), (5, .pointer (some ⟨t, 0, none⟩)), (6, .int .i64 4), (7, .iface 38 (.int .i64 12)), (41, .bool true), (42, .iface 38 (.int .i64 12)), (43, .iface 38 (.int .i64 12))] (fun _ => by kernel_rfl) ?_ : RT _ _ _ _ _ _ 18 _)
        refine (stepR (z := 12) (callS 16 [.iface 38 (.int .i64 12), .iface 38 (.int .i64 12)] (some 44) (fun _ => .bool (12 == 12)) (fun (_ : Unit) => (blk t 64 [.map (some mb)] :: mapS mb (Ta.1.map kp) :: (nodesL Ta.1 ++ H))) (fun _ => by kernel_rfl) (isErr_walk _ 12 12)) (fun _ => ?_) : RT _ _ _ _ _ _ 13 _)
        refine (run0 (z := 0) 12 [0, 4, 5, 6, 56] [(0, .int .u8 n), (4, .bool false), (5, .pointer (some ⟨t, 0, none⟩)), (6, .int .i64 4), (56, .bool false)] (fun _ => by kernel_rfl) (endR ?_) : RT _ _ _ _ _ _ 12 _)
        refine condR (b := false) (by kernel_rfl) (fun _ => by kernel_rfl) (fun h => by cases h) (fun _ => ?_)
        refine skipR (by kernel_rfl) ?_
        refine regionR 3 (by kernel_rfl) (by kernel_rfl) ?_
        refine (run0 (z := 0) 3 [0, 4, 5, 6] [(0, .int .u8 n), (4, .bool false), (5, .pointer (some ⟨t, 0, none⟩)), (6, .int .i64 (IntKind.i64.wrap (4 + 1)))] (fun _ => by kernel_rfl) (endR ?_) : RT _ _ _ _ _ _ 3 _)
        rw [show IntKind.i64.wrap (4 + 1) = ((u + 1 + 1 : Nat) : Int) by rw [w64 (by omega) (by omega)]; omega]
        refine PT.keep (L' := [(0, .int .u8 n), (4, .bool false), (5, .pointer (some ⟨t, 0, none⟩)), (6, .int .i64 ((u + 1 + 1 : Nat) : Int))]) [0, 4, 5, 6] rfl ?_
        exact againG (k - 1) (u + 1, Ta.1) rfl rfl (by omega) ⟨by simp only; omega, by show OkT (gD (min (u + 1) 3)) Ta.1; rw [Nat.min_eq_right (show 3 ≤ u + 1 by omega)]; exact Ta.2, by show WFN (gD (min (u + 1) 3)); rw [Nat.min_eq_right (show 3 ≤ u + 1 by omega)]; exact hw⟩
      · skip
        rw [Nat.min_eq_right (show 3 ≤ u by omega)] at hT hw
        have hA : addN (gD 3) (u : Int) ((u + 1 : Nat) : Int) 1 false = (13, gD 3) := by have := gD_none (i := ((u + 1 : Nat) : Int)) (by omega); rw [show ((u + 1 : Nat) : Int) - 1 = (u : Int) by omega] at this; exact this
        refine (stepR (z := 1) (callS 11 [.pointer (some ⟨t, 0, none⟩), .int .i64 (u : Int), .int .i64 ((u + 1 : Nat) : Int), .int .i64 1, .bool false] (some 26) (fun (Ta : { T' : List Nd // OkT (gD 3) T' }) => .iface 38 (.int .i64 13)) (fun (Ta : { T' : List Nd // OkT (gD 3) T' }) => blk t 64 [.map (some mb)] :: mapS mb (Ta.1.map kp) :: (nodesL Ta.1 ++ H)) (fun _ => by kernel_rfl) (add_no hT hw hA (by decide) H t mb)) (fun (Ta : { T' : List Nd // OkT (gD 3) T' }) => ?_) : RT _ _ _ _ _ _ 2 _)
        refine (run0 (z := 0) 1 [0, 4, 5, 6, 7] [(0, .int .u8 n), (4, .bool false), (5, .pointer (some ⟨t, 0, none⟩)), (6, .int .i64 ((u + 1 : Nat) : Int)), (7, .iface 38 (.int .i64 13))] (fun _ => by kernel_rfl) (endR ?_) : RT _ _ _ _ _ _ 1 _)
        refine seqR (by kernel_rfl) ?_
        refine seqR (by kernel_rfl) ?_
        refine regionR 2 (by kernel_rfl) (by kernel_rfl) ?_
        refine (run0 (z := 0) 2 [0, 4, 5, 6, 7, 28] [(0, .int .u8 n), (4, .bool false), (5, .pointer (some ⟨t, 0, none⟩)), (6, .int .i64 ((u + 1 : Nat) : Int)), (7, .iface 38 (.int .i64 13)), (28, .bool (decide (((u + 1 : Nat) : Int) < 4)))] (fun _ => by kernel_rfl) (endR ?_) : RT _ _ _ _ _ _ 2 _)
        rw [show (decide (((u + 1 : Nat) : Int) < 4)) = false by exact decide_eq_false (by omega)]
        refine condR (b := false) (by kernel_rfl) (fun _ => by kernel_rfl) (fun h => by cases h) (fun _ => ?_)
        refine skipR (by kernel_rfl) ?_
        refine seqR (by kernel_rfl) ?_
        refine regionR 18 (by kernel_rfl) (by kernel_rfl) ?_
        refine (run0 (z := 15) 3 [0, 4, 5, 6, 7, 41] [(0, .int .u8 n), (4, .bool false), (5, .pointer (some ⟨t, 0, none⟩)), (6, .int .i64 ((u + 1 : Nat) : Int)), (7, .iface 38 (.int .i64 13)), (41, .bool (((u + 1 : Nat) : Int) == 4))] (fun _ => by kernel_rfl) ?_ : RT _ _ _ _ _ _ 18 _)
        refine (segR (ι := Unit) (z := 10) 5 (fun _ => [(0, .int .u8 n), (4, .bool false), (5, .pointer (some ⟨t, 0, none⟩)), (6, .int .i64 ((u + 1 : Nat) : Int)), (7, .iface 38 (.int .i64 13)), (46, .bool ((((u + 1 : Nat) : Int) == 4) && true))]) (fun _ => (blk t 64 [.map (some mb)] :: mapS mb (Ta.1.map kp) :: (nodesL Ta.1 ++ H))) ?_ (fun _ => ?_) : RT _ _ _ _ _ _ 15 _)
        · cases hg3 : (((u + 1 : Nat) : Int) == 4) with
          | true =>
            refine (run0 (z := 3) 2 [0, 4, 5, 6, 7, 41, 42, 43] [(0, .int .u8 n), (4, .bool false), (5, .pointer (some ⟨t, 0, none⟩)), (6, .int .i64 ((u + 1 : Nat) : Int)), (7, .iface 38 (.int .i64 13)), (41, .bool true), (42, .iface 38 (.int .i64 13)), (43, .iface 38 (.int .i64 12))] (fun _ => by kernel_rfl) ?_ : RT _ _ _ _ _ _ 5 _)
            refine (stepR (z := 2) (callS 16 [.iface 38 (.int .i64 13), .iface 38 (.int .i64 12)] (some 44) (fun _ => .bool (13 == 12)) (fun (_ : Unit) => (blk t 64 [.map (some mb)] :: mapS mb (Ta.1.map kp) :: (nodesL Ta.1 ++ H))) (fun _ => by kernel_rfl) (isErr_walk _ 13 12)) (fun _ => ?_) : RT _ _ _ _ _ _ 3 _)
            refine (run0 (z := 0) 2 [0, 4, 5, 6, 7, 46] [(0, .int .u8 n), (4, .bool false), (5, .pointer (some ⟨t, 0, none⟩)), (6, .int .i64 ((u + 1 : Nat) : Int)), (7, .iface 38 (.int .i64 13)), (46, .bool true)] (fun _ => by kernel_rfl) (endR ?_) : RT _ _ _ _ _ _ 2 _)
            refine PT.keep (L' := [(0, .int .u8 n), (4, .bool false), (5, .pointer (some ⟨t, 0, none⟩)), (6, .int .i64 ((u + 1 : Nat) : Int)), (7, .iface 38 (.int .i64 13)), (46, .bool (true && true))]) [0, 4, 5, 6, 7, 46] rfl ?_
            exact midR () rfl rfl
          | false =>
            refine (run0 (z := 0) 5 [0, 4, 5, 6, 7, 46] [(0, .int .u8 n), (4, .bool false), (5, .pointer (some ⟨t, 0, none⟩)), (6, .int .i64 ((u + 1 : Nat) : Int)), (7, .iface 38 (.int .i64 13)), (46, .bool false)] (fun _ => by kernel_rfl) (endR ?_) : RT _ _ _ _ _ _ 5 _)
            refine PT.keep (L' := [(0, .int .u8 n), (4, .bool false), (5, .pointer (some ⟨t, 0, none⟩)), (6, .int .i64 ((u + 1 : Nat) : Int)), (7, .iface 38 (.int .i64 13)), (46, .bool (false && true))]) [0, 4, 5, 6, 7, 46] rfl ?_
            exact midR () rfl rfl
        refine (run0 (z := 9) 1 [0, 4, 5, 6, 7, 47] [(0, .int .u8 n), (4, .bool false), (5, .pointer (some ⟨t, 0, none⟩)), (6, .int .i64 ((u + 1 : Nat) : Int)), (7, .iface 38 (.int .i64 13)), (47, .bool ((((u + 1 : Nat) : Int) == 4) && true))] (fun _ => by kernel_rfl) ?_ : RT _ _ _ _ _ _ 10 _)
        refine (segR (ι := Unit) (z := 0) 9 (fun _ => [(0, .int .u8 n), (4, .bool false), (5, .pointer (some ⟨t, 0, none⟩)), (6, .int .i64 ((u + 1 : Nat) : Int)), (56, .bool (((((u + 1 : Nat) : Int) == 4) && true) || ((decide (((u + 1 : Nat) : Int) > 4)) && false)))]) (fun _ => (blk t 64 [.map (some mb)] :: mapS mb (Ta.1.map kp) :: (nodesL Ta.1 ++ H))) ?_ (fun _ => ?_) : RT _ _ _ _ _ _ 9 _)
        · cases hg9 : ((((u + 1 : Nat) : Int) == 4) && true) with
          | true =>
            refine (run0 (z := 0) 9 [0, 4, 5, 6, 56] [(0, .int .u8 n), (4, .bool false), (5, .pointer (some ⟨t, 0, none⟩)), (6, .int .i64 ((u + 1 : Nat) : Int)), (56, .bool true)] (fun _ => by kernel_rfl) (endR ?_) : RT _ _ _ _ _ _ 9 _)
            refine PT.keep (L' := [(0, .int .u8 n), (4, .bool false), (5, .pointer (some ⟨t, 0, none⟩)), (6, .int .i64 ((u + 1 : Nat) : Int)), (56, .bool (true || ((decide (((u + 1 : Nat) : Int) > 4)) && false)))]) [0, 4, 5, 6, 56] rfl ?_
            exact midR () rfl rfl
          | false =>
            refine (run0 (z := 6) 3 [0, 4, 5, 6, 7, 47, 50] [(0, .int .u8 n), (4, .bool false), (5, .pointer (some ⟨t, 0, none⟩)), (6, .int .i64 ((u + 1 : Nat) : Int)), (7, .iface 38 (.int .i64 13)), (47, .bool false), (50, .bool (decide (((u + 1 : Nat) : Int) > 4)))] (fun _ => by kernel_rfl) ?_ : RT _ _ _ _ _ _ 9 _)
            refine (segR (ι := Unit) (z := 1) 5 (fun _ => [(0, .int .u8 n), (4, .bool false), (5, .pointer (some ⟨t, 0, none⟩)), (6, .int .i64 ((u + 1 : Nat) : Int)), (47, .bool false), (55, .bool ((decide (((u + 1 : Nat) : Int) > 4)) && false))]) (fun _ => (blk t 64 [.map (some mb)] :: mapS mb (Ta.1.map kp) :: (nodesL Ta.1 ++ H))) ?_ (fun _ => ?_) : RT _ _ _ _ _ _ 6 _)
            · cases hg12 : (decide (((u + 1 : Nat) : Int) > 4)) with
              | true =>
                refine (run0 (z := 3) 2 [0, 4, 5, 6, 47, 50, 51, 52] [(0, .int .u8 n), (4, .bool false), (5, .pointer (some ⟨t, 0, none⟩)), (6, .int .i64 ((u + 1 : Nat) : Int)), (47, .bool false), (50, .bool true), (51, .iface 38 (.int .i64 13)), (52, .iface 38 (.int .i64 13))] (fun _ => by kernel_rfl) ?_ : RT _ _ _ _ _ _ 5 _)
                refine (stepR (z := 2) (callS 16 [.iface 38 (.int .i64 13), .iface 38 (.int .i64 13)] (some 53) (fun _ => .bool (13 == 13)) (fun (_ : Unit) => (blk t 64 [.map (some mb)] :: mapS mb (Ta.1.map kp) :: (nodesL Ta.1 ++ H))) (fun _ => by kernel_rfl) (isErr_walk _ 13 13)) (fun _ => ?_) : RT _ _ _ _ _ _ 3 _)
                refine (run0 (z := 0) 2 [0, 4, 5, 6, 47, 55] [(0, .int .u8 n), (4, .bool false), (5, .pointer (some ⟨t, 0, none⟩)), (6, .int .i64 ((u + 1 : Nat) : Int)), (47, .bool false), (55, .bool false)] (fun _ => by kernel_rfl) (endR ?_) : RT _ _ _ _ _ _ 2 _)
                refine PT.keep (L' := [(0, .int .u8 n), (4, .bool false), (5, .pointer (some ⟨t, 0, none⟩)), (6, .int .i64 ((u + 1 : Nat) : Int)), (47, .bool false), (55, .bool (true && false))]) [0, 4, 5, 6, 47, 55] rfl ?_
                exact midR () rfl rfl
              | false =>
                refine (run0 (z := 0) 5 [0, 4, 5, 6, 47, 55] [(0, .int .u8 n), (4, .bool false), (5, .pointer (some ⟨t, 0, none⟩)), (6, .int .i64 ((u + 1 : Nat) : Int)), (47, .bool false), (55, .bool false)] (fun _ => by kernel_rfl) (endR ?_) : RT _ _ _ _ _ _ 5 _)
                refine PT.keep (L' := [(0, .int .u8 n), (4, .bool false), (5, .pointer (some ⟨t, 0, none⟩)), (6, .int .i64 ((u + 1 : Nat) : Int)), (47, .bool false), (55, .bool (false && false))]) [0, 4, 5, 6, 47, 55] rfl ?_
                exact midR () rfl rfl
            refine (run0 (z := 0) 1 [0, 4, 5, 6, 56] [(0, .int .u8 n), (4, .bool false), (5, .pointer (some ⟨t, 0, none⟩)), (6, .int .i64 ((u + 1 : Nat) : Int)), (56, .bool ((decide (((u + 1 : Nat) : Int) > 4)) && false))] (fun _ => by kernel_rfl) (endR ?_) : RT _ _ _ _ _ _ 1 _)
            refine PT.keep (L' := [(0, .int .u8 n), (4, .bool false), (5, .pointer (some ⟨t, 0, none⟩)), (6, .int .i64 ((u + 1 : Nat) : Int)), (56, .bool (false || ((decide (((u + 1 : Nat) : Int) > 4)) && false)))]) [0, 4, 5, 6, 56] rfl ?_
            exact midR () rfl rfl
        refine endR ?_
        refine condR (b := ((((u + 1 : Nat) : Int) == 4) && true) || ((decide (((u + 1 : Nat) : Int) > 4)) && false)) (by kernel_rfl) (fun _ => by kernel_rfl) (fun h5 => ?_) (fun h5 => ?_)
        · skip
          exact absurd h5 (by have h6 : ((((u + 1 : Nat) : Int)) == 4) = false := by simp; omega
                              rw [h6]; simp)
        · skip
          refine skipR (by kernel_rfl) ?_
          refine regionR 3 (by kernel_rfl) (by kernel_rfl) ?_
          refine (run0 (z := 0) 3 [0, 4, 5, 6] [(0, .int .u8 n), (4, .bool false), (5, .pointer (some ⟨t, 0, none⟩)), (6, .int .i64 (IntKind.i64.wrap (((u + 1 : Nat) : Int) + 1)))] (fun _ => by kernel_rfl) (endR ?_) : RT _ _ _ _ _ _ 3 _)
          rw [show IntKind.i64.wrap (((u + 1 : Nat) : Int) + 1) = ((u + 1 + 1 : Nat) : Int) by rw [w64 (by omega) (by omega)]; omega]
          refine PT.keep (L' := [(0, .int .u8 n), (4, .bool false), (5, .pointer (some ⟨t, 0, none⟩)), (6, .int .i64 ((u + 1 + 1 : Nat) : Int))]) [0, 4, 5, 6] rfl ?_
          exact againG (k - 1) (u + 1, Ta.1) rfl rfl (by omega) ⟨by simp only; omega, by show OkT (gD (min (u + 1) 3)) Ta.1; rw [Nat.min_eq_right (show 3 ≤ u + 1 by omega)]; exact Ta.2, by show WFN (gD (min (u + 1) 3)); rw [Nat.min_eq_right (show 3 ≤ u + 1 by omega)]; exact hw⟩
    · skip
      refine exitR 0 (by kernel_rfl) (by kernel_rfl) ?_
      refine thenX ?_
      refine thenX ?_
      refine leaveR ?_
      refine seqR (by kernel_rfl) ?_
      refine regionR 1 (by kernel_rfl) (by kernel_rfl) ?_
      refine (run0 (z := 0) 1 [0, 4, 5] [(0, .int .u8 n), (4, .bool true), (5, .pointer (some ⟨t, 0, none⟩))] (fun _ => by kernel_rfl) (endR ?_) : RT _ _ _ _ _ _ 1 _)
      refine retR (by kernel_rfl) ?_
      refine thenV ?_
      refine done0 (.bool true) (fun _ => by kernel_rfl) (fun w hs => ?_) .ret (.inr rfl)
      exact ⟨(), rfl, Sat.behind hs.tail.tail⟩
  · skip
    refine skipR (by kernel_rfl) ?_
    refine seqR (by kernel_rfl) ?_
    refine regionR 5 (by kernel_rfl) (by kernel_rfl) ?_
    refine (run0 (z := 0) 5 [4, 5, 8] [(4, .bool false), (5, .pointer (some ⟨t, 0, none⟩)), (8, .int .i64 (IntKind.i64.wrap (56 + (IntKind.i64.wrap (Int.tmod n 8)))))] (fun _ => by kernel_rfl) (endR ?_) : RT _ _ _ _ _ _ 5 _)
    refine seqR (by kernel_rfl) ?_
    refine seqR (by kernel_rfl) ?_
    refine regionR 1 (by kernel_rfl) (by kernel_rfl) ?_
    refine (run0 (z := 0) 1 [4, 5, 8, 9] [(4, .bool false), (5, .pointer (some ⟨t, 0, none⟩)), (8, .int .i64 (IntKind.i64.wrap (56 + (IntKind.i64.wrap (Int.tmod n 8))))), (9, .int .i64 1)] (fun _ => by kernel_rfl) (endR ?_) : RT _ _ _ _ _ _ 1 _)
    refine blockR 2 (by kernel_rfl) (by kernel_rfl) ?_
    obtain ⟨kk, hkk⟩ : ∃ kk : Int, kk = 56 + Int.tmod n 8 := ⟨_, rfl⟩
    rw [show IntKind.i64.wrap (56 + (IntKind.i64.wrap (Int.tmod n 8))) = kk by rw [w64 (n := Int.tmod n 8) (by omega) (by omega), w64 (n := 56 + Int.tmod n 8) (by omega) (by omega), hkk]]
    refine PT.keep (L' := [(4, .bool false), (5, .pointer (some ⟨t, 0, none⟩)), (8, .int .i64 kk), (9, .int .i64 1)]) [4, 5, 8, 9] rfl ?_
    refine loopG (fun (s : Nat × List Nd) => [(4, .bool false), (5, .pointer (some ⟨t, 0, none⟩)), (8, .int .i64 kk), (9, .int .i64 ((s.1 + 1 : Nat) : Int))]) (fun (s : Nat × List Nd) => (blk t 64 [.map (some mb)] :: mapS mb (s.2.map kp) :: (nodesL s.2 ++ H))) (fun k (s : Nat × List Nd) => (k : Int) + s.1 = kk ∧ OkT (wN (min s.1 59)) s.2 ∧ WFN (wN (min s.1 59))) kk.toNat (0, [rootT tb tib]) (by kernel_rfl) ⟨by simp only; omega, root_ok tb tib, root_wf⟩ ?_
    rintro k ⟨u, T⟩ ⟨hku, hT, hw⟩
    simp only at hku hT hw
    refine seqR (by kernel_rfl) ?_
    refine seqR (by kernel_rfl) ?_
    refine regionR 3 (by kernel_rfl) (by kernel_rfl) ?_
    refine (run0 (z := 0) 3 [4, 5, 8, 9, 63] [(4, .bool false), (5, .pointer (some ⟨t, 0, none⟩)), (8, .int .i64 kk), (9, .int .i64 ((u + 1 : Nat) : Int)), (63, .bool (decide (((u + 1 : Nat) : Int) ≤ kk)))] (fun _ => by kernel_rfl) (endR ?_) : RT _ _ _ _ _ _ 3 _)
    refine condR (b := decide (((u + 1 : Nat) : Int) ≤ kk)) (by kernel_rfl) (fun _ => by kernel_rfl) (fun h1 => ?_) (fun h1 => ?_)
    · skip
      have hu := of_decide_eq_true h1
      refine skipR (by kernel_rfl) ?_
      refine seqR (by kernel_rfl) ?_
      refine blockR 3 (by kernel_rfl) (by kernel_rfl) ?_
      refine seqR (by kernel_rfl) ?_
      refine regionR 4 (by kernel_rfl) (by kernel_rfl) ?_
      refine (run0 (z := 2) 2 [4, 5, 8, 9, 66, 67] [(4, .bool false), (5, .pointer (some ⟨t, 0, none⟩)), (8, .int .i64 kk), (9, .int .i64 ((u + 1 : Nat) : Int)), (66, .pointer (some ⟨t, 0, none⟩)), (67, .int .i64 ((u + 1 : Nat) : Int))] (fun _ => by kernel_rfl) ?_ : RT _ _ _ _ _ _ 4 _)
      rcases (show u < 59 ∨ 59 ≤ u by omega) with hu3 | hu3
      · skip
        rw [Nat.min_eq_left (show u ≤ 59 by omega)] at hT hw
        refine (stepR (z := 1) (callS 11 [.pointer (some ⟨t, 0, none⟩), .int .i64 0, .int .i64 ((u + 1 : Nat) : Int), .int .i64 1, .bool true] (some 68) (fun (Ta : { T' : List Nd // OkT (wN (u + 1)) T' ∧ WFN (wN (u + 1)) }) => .nilIface) (fun (Ta : { T' : List Nd // OkT (wN (u + 1)) T' ∧ WFN (wN (u + 1)) }) => blk t 64 [.map (some mb)] :: mapS mb (Ta.1.map kp) :: (nodesL Ta.1 ++ H)) (fun _ => by kernel_rfl) (add_ok hT hw (wN_add hu3) H t mb)) (fun (Ta : { T' : List Nd // OkT (wN (u + 1)) T' ∧ WFN (wN (u + 1)) }) => ?_) : RT _ _ _ _ _ _ 2 _)
        refine (run0 (z := 0) 1 [4, 5, 8, 9, 10] [(4, .bool false), (5, .pointer (some ⟨t, 0, none⟩)), (8, .int .i64 kk), (9, .int .i64 ((u + 1 : Nat) : Int)), (10, .nilIface)] (fun _ => by kernel_rfl) (endR ?_) : RT _ _ _ _ _ _ 1 _)
        refine seqR (by kernel_rfl) ?_
        refine regionR 15 (by kernel_rfl) (by kernel_rfl) ?_
        refine (run0 (z := 9) 6 [4, 5, 8, 9, 10, 74] [(4, .bool false), (5, .pointer (some ⟨t, 0, none⟩)), (8, .int .i64 kk), (9, .int .i64 ((u + 1 : Nat) : Int)), (10, .nilIface), (74, .bool (true != (decide (((u + 1 : Nat) : Int) < 60))))] (fun _ => by kernel_rfl) ?_ : RT _ _ _ _ _ _ 15 _)
        refine (segR (ι := Unit) (z := 0) 9 (fun _ => [(4, .bool false), (5, .pointer (some ⟨t, 0, none⟩)), (8, .int .i64 kk), (9, .int .i64 ((u + 1 : Nat) : Int)), (83, .bool ((true != (decide (((u + 1 : Nat) : Int) < 60))) || false))]) (fun _ => (blk t 64 [.map (some mb)] :: mapS mb (Ta.1.map kp) :: (nodesL Ta.1 ++ H))) ?_ (fun _ => ?_) : RT _ _ _ _ _ _ 9 _)
        · cases hg6 : (true != (decide (((u + 1 : Nat) : Int) < 60))) with
          | true =>
            refine (run0 (z := 0) 9 [4, 5, 8, 9, 83] [(4, .bool false), (5, .pointer (some ⟨t, 0, none⟩)), (8, .int .i64 kk), (9, .int .i64 ((u + 1 : Nat) : Int)), (83, .bool true)] (fun _ => by kernel_rfl) (endR ?_) : RT _ _ _ _ _ _ 9 _)
            refine PT.keep (L' := [(4, .bool false), (5, .pointer (some ⟨t, 0, none⟩)), (8, .int .i64 kk), (9, .int .i64 ((u + 1 : Nat) : Int)), (83, .bool (true || false))]) [4, 5, 8, 9, 83] rfl ?_
            exact midR () rfl rfl
          | false =>
            refine (run0 (z := 0) 9 [4, 5, 8, 9, 83] [(4, .bool false), (5, .pointer (some ⟨t, 0, none⟩)), (8, .int .i64 kk), (9, .int .i64 ((u + 1 : Nat) : Int)), (83, .bool false)] (fun _ => by kernel_rfl) (endR ?_) : RT _ _ _ _ _ _ 9 _)
            refine PT.keep (L' := [(4, .bool false), (5, .pointer (some ⟨t, 0, none⟩)), (8, .int .i64 kk), (9, .int .i64 ((u + 1 : Nat) : Int)), (83, .bool (false || false))]) [4, 5, 8, 9, 83] rfl ?_
            exact midR () rfl rfl
        refine endR ?_
        refine condR (b := (true != (decide (((u + 1 : Nat) : Int) < 60))) || false) (by kernel_rfl) (fun _ => by kernel_rfl) (fun h5 => ?_) (fun h5 => ?_)
        · skip
          exact absurd h5 (by rw [show decide (((u + 1 : Nat) : Int) < 60) = true from decide_eq_true (by omega)]; simp)
        · skip
          refine skipR (by kernel_rfl) ?_
          refine regionR 3 (by kernel_rfl) (by kernel_rfl) ?_
          refine (run0 (z := 0) 3 [4, 5, 8, 9] [(4, .bool false), (5, .pointer (some ⟨t, 0, none⟩)), (8, .int .i64 kk), (9, .int .i64 (IntKind.i64.wrap (((u + 1 : Nat) : Int) + 1)))] (fun _ => by kernel_rfl) (endR ?_) : RT _ _ _ _ _ _ 3 _)
          rw [show IntKind.i64.wrap (((u + 1 : Nat) : Int) + 1) = ((u + 1 + 1 : Nat) : Int) by rw [w64 (by omega) (by omega)]; omega]
          refine PT.keep (L' := [(4, .bool false), (5, .pointer (some ⟨t, 0, none⟩)), (8, .int .i64 kk), (9, .int .i64 ((u + 1 + 1 : Nat) : Int))]) [4, 5, 8, 9] rfl ?_
          exact againG (k - 1) (u + 1, Ta.1) rfl rfl (by omega) ⟨by simp only; omega, by show OkT (wN (min (u + 1) 59)) Ta.1; rw [Nat.min_eq_left (show u + 1 ≤ 59 by omega)]; exact Ta.2.1, by show WFN (wN (min (u + 1) 59)); rw [Nat.min_eq_left (show u + 1 ≤ 59 by omega)]; exact Ta.2.2⟩
      · skip
        rw [Nat.min_eq_right (show 59 ≤ u by omega)] at hT hw
        refine (stepR (z := 1) (callS 11 [.pointer (some ⟨t, 0, none⟩), .int .i64 0, .int .i64 ((u + 1 : Nat) : Int), .int .i64 1, .bool true] (some 68) (fun (Ta : { T' : List Nd // OkT (wN 59) T' }) => .iface 38 (.int .i64 14)) (fun (Ta : { T' : List Nd // OkT (wN 59) T' }) => blk t 64 [.map (some mb)] :: mapS mb (Ta.1.map kp) :: (nodesL Ta.1 ++ H)) (fun _ => by kernel_rfl) (add_no hT hw (wN_full (i := ((u + 1 : Nat) : Int)) (by omega)) (by decide) H t mb)) (fun (Ta : { T' : List Nd // OkT (wN 59) T' }) => ?_) : RT _ _ _ _ _ _ 2 _)
        refine (run0 (z := 0) 1 [4, 5, 8, 9, 10] [(4, .bool false), (5, .pointer (some ⟨t, 0, none⟩)), (8, .int .i64 kk), (9, .int .i64 ((u + 1 : Nat) : Int)), (10, .iface 38 (.int .i64 14))] (fun _ => by kernel_rfl) (endR ?_) : RT _ _ _ _ _ _ 1 _)
        refine seqR (by kernel_rfl) ?_
        refine regionR 15 (by kernel_rfl) (by kernel_rfl) ?_
        refine (run0 (z := 9) 6 [4, 5, 8, 9, 10, 74] [(4, .bool false), (5, .pointer (some ⟨t, 0, none⟩)), (8, .int .i64 kk), (9, .int .i64 ((u + 1 : Nat) : Int)), (10, .iface 38 (.int .i64 14)), (74, .bool (false != (decide (((u + 1 : Nat) : Int) < 60))))] (fun _ => by kernel_rfl) ?_ : RT _ _ _ _ _ _ 15 _)
        refine (segR (ι := Unit) (z := 0) 9 (fun _ => [(4, .bool false), (5, .pointer (some ⟨t, 0, none⟩)), (8, .int .i64 kk), (9, .int .i64 ((u + 1 : Nat) : Int)), (83, .bool ((false != (decide (((u + 1 : Nat) : Int) < 60))) || false))]) (fun _ => (blk t 64 [.map (some mb)] :: mapS mb (Ta.1.map kp) :: (nodesL Ta.1 ++ H))) ?_ (fun _ => ?_) : RT _ _ _ _ _ _ 9 _)
        · cases hg6 : (false != (decide (((u + 1 : Nat) : Int) < 60))) with
          | true =>
            refine (run0 (z := 0) 9 [4, 5, 8, 9, 83] [(4, .bool false), (5, .pointer (some ⟨t, 0, none⟩)), (8, .int .i64 kk), (9, .int .i64 ((u + 1 : Nat) : Int)), (83, .bool true)] (fun _ => by kernel_rfl) (endR ?_) : RT _ _ _ _ _ _ 9 _)
            refine PT.keep (L' := [(4, .bool false), (5, .pointer (some ⟨t, 0, none⟩)), (8, .int .i64 kk), (9, .int .i64 ((u + 1 : Nat) : Int)), (83, .bool (true || false))]) [4, 5, 8, 9, 83] rfl ?_
            exact midR () rfl rfl
          | false =>
            refine (run0 (z := 4) 5 [4, 5, 8, 9, 74, 77, 78, 79] [(4, .bool false), (5, .pointer (some ⟨t, 0, none⟩)), (8, .int .i64 kk), (9, .int .i64 ((u + 1 : Nat) : Int)), (74, .bool false), (77, .bool true), (78, .iface 38 (.int .i64 14)), (79, .iface 38 (.int .i64 14))] (fun _ => by kernel_rfl) ?_ : RT _ _ _ _ _ _ 9 _)
            refine (stepR (z := 3) (callS 16 [.iface 38 (.int .i64 14), .iface 38 (.int .i64 14)] (some 80) (fun _ => .bool (14 == 14)) (fun (_ : Unit) => (blk t 64 [.map (some mb)] :: mapS mb (Ta.1.map kp) :: (nodesL Ta.1 ++ H))) (fun _ => by kernel_rfl) (isErr_walk _ 14 14)) (fun _ => ?_) : RT _ _ _ _ _ _ 4 _)
            refine (run0 (z := 0) 3 [4, 5, 8, 9, 83] [(4, .bool false), (5, .pointer (some ⟨t, 0, none⟩)), (8, .int .i64 kk), (9, .int .i64 ((u + 1 : Nat) : Int)), (83, .bool false)] (fun _ => by kernel_rfl) (endR ?_) : RT _ _ _ _ _ _ 3 _)
            refine PT.keep (L' := [(4, .bool false), (5, .pointer (some ⟨t, 0, none⟩)), (8, .int .i64 kk), (9, .int .i64 ((u + 1 : Nat) : Int)), (83, .bool (false || false))]) [4, 5, 8, 9, 83] rfl ?_
            exact midR () rfl rfl
        refine endR ?_
        refine condR (b := (false != (decide (((u + 1 : Nat) : Int) < 60))) || false) (by kernel_rfl) (fun _ => by kernel_rfl) (fun h5 => ?_) (fun h5 => ?_)
        · skip
          exact absurd h5 (by rw [show decide (((u + 1 : Nat) : Int) < 60) = false from decide_eq_false (by omega)]; simp)
        · skip
          refine skipR (by kernel_rfl) ?_
          refine regionR 3 (by kernel_rfl) (by kernel_rfl) ?_
          refine (run0 (z := 0) 3 [4, 5, 8, 9] [(4, .bool false), (5, .pointer (some ⟨t, 0, none⟩)), (8, .int .i64 kk), (9, .int .i64 (IntKind.i64.wrap (((u + 1 : Nat) : Int) + 1)))] (fun _ => by kernel_rfl) (endR ?_) : RT _ _ _ _ _ _ 3 _)
          rw [show IntKind.i64.wrap (((u + 1 : Nat) : Int) + 1) = ((u + 1 + 1 : Nat) : Int) by rw [w64 (by omega) (by omega)]; omega]
          refine PT.keep (L' := [(4, .bool false), (5, .pointer (some ⟨t, 0, none⟩)), (8, .int .i64 kk), (9, .int .i64 ((u + 1 + 1 : Nat) : Int))]) [4, 5, 8, 9] rfl ?_
          exact againG (k - 1) (u + 1, Ta.1) rfl rfl (by omega) ⟨by simp only; omega, by show OkT (wN (min (u + 1) 59)) Ta.1; rw [Nat.min_eq_right (show 59 ≤ u + 1 by omega)]; exact Ta.2, by show WFN (wN (min (u + 1) 59)); rw [Nat.min_eq_right (show 59 ≤ u + 1 by omega)]; exact hw⟩
    · skip
      have hu := of_decide_eq_false h1
      refine exitR 2 (by kernel_rfl) (by kernel_rfl) ?_
      refine thenX ?_
      refine thenX ?_
      refine leaveR ?_
      refine seqR (by kernel_rfl) ?_
      refine regionR 8 (by kernel_rfl) (by kernel_rfl) ?_
      refine (run0 (z := 7) 1 [4, 8, 84] [(4, .bool false), (8, .int .i64 kk), (84, .pointer (some ⟨t, 0, none⟩))] (fun _ => by kernel_rfl) ?_ : RT _ _ _ _ _ _ 8 _)
      refine (stepR (z := 6) (callS 17 [.pointer (some ⟨t, 0, none⟩)] (some 85) (fun (na : Option Addr × Nat) => .slice na.1 (nodesN (wN (min u 59))).length na.2) (fun (na : Option Addr × Nat) => row nE 53 (.slice na.1 (nodesN (wN (min u 59))).length na.2) (nodesN (wN (min u 59))) :: blk t 64 [.map (some mb)] :: mapS mb (T.map kp) :: (nodesL T ++ H)) (fun _ => by kernel_rfl) (nodes_walk hT hw.sk (wN_ids (by omega)) H t mb)) (fun (na : Option Addr × Nat) => ?_) : RT _ _ _ _ _ _ 7 _)
      rw [show (nodesN (wN (min u 59))).length = (min u 59 + 1) by rw [nodesN_len, wN_len]]
      refine (run0 (z := 0) 6 [4] [(4, .bool ((min u 59 + 1 : Int) == (mnI (IntKind.i64.wrap (kk + 1)) 60)))] (fun _ => by kernel_rfl) (endR ?_) : RT _ _ _ _ _ _ 6 _)
      refine retR (by kernel_rfl) ?_
      have hfin : (((min u 59 : Nat) : Int) + 1 == mnI (IntKind.i64.wrap (kk + 1)) 60) = true := by rw [w64 (by omega) (by omega)]; unfold mnI; split <;> simp <;> omega
      refine done0 (.bool ((min u 59 + 1 : Int) == (mnI (IntKind.i64.wrap (kk + 1)) 60))) (fun _ => by kernel_rfl) (fun w hs => ?_) .ret (.inr rfl)
      exact ⟨(), by rw [hfin], Sat.behind hs.tail.tail.tail⟩
theorem limits_row (W : World) (n : Int) (deep : Bool) (hn : (Lit.int .u8 n).wf = true) : Calls Try.prog 4 #[.int .u8 n, .bool deep] W (LawPost W) :=
  lawPost (fun _ _ h => h) (limits_walk [old W] n deep (u8_wf hn) W (Sat.start W))
end Go.Proofs.Ytjbjngikaiggdaa
