/- TreeNone: its walk. Conditions: none. -/
import Derived.Test.YtjbjngikaiggdaaTsl
import Derived.Test.YtjbjngikaiggdaaTnq
set_option linter.unusedVariables false
set_option linter.unusedSimpArgs false
namespace Go.Proofs.Ytjbjngikaiggdaa
open Go.RowKit G
def gN (x : Int) : Nat → List Nr
  | 0 => [rootN]
  | 1 => [rootN, ⟨1, 0, x, 0, false, false, 0⟩]
  | _ => [rootN, ⟨1, 0, x, 0, false, false, 0⟩, ⟨2, 1, x, 0, false, false, 0⟩]
def gS (x : Int) : Nat → SR
  | 0 => [(0, -1, 1, false, true), (9, 0, 3, true, true)]
  | 1 => [(0, -1, 1, false, true), (1, 0, x, false, true), (9, 1, 3, true, true)]
  | _ => [(0, -1, 1, false, true), (1, 0, x, false, true), (2, 1, x, false, true), (9, 2, 3, true, true)]
theorem gN_add {x : Int} (hx : isW x = true) {u : Nat} (hu : u < 2) : addN (gN x u) u ((u + 1 : Nat) : Int) x false = (0, gN x (u + 1)) := by
  have h : u = 0 ∨ u = 1 := by omega
  rcases h with rfl | rfl
  · have hd : deepN 6 (gN x 0) ((0 : Nat) : Int) = 1 := by kernel_rfl
    exact addN_is (p := rootN) hx (by decide) rfl rfl rfl (.inr (by omega)) (by simp [gN])
  · have hd : deepN 6 (gN x 1) ((1 : Nat) : Int) = 2 := by kernel_rfl
    exact addN_is (p := ⟨1, 0, x, 0, false, false, 0⟩) hx (by decide) rfl rfl rfl (.inr (by omega)) (by simp [gN])
theorem gN_nine {x : Int} {u : Nat} (hu : u < 3) : addN (gN x u) u 9 3 true = (0, gN x u ++ [⟨9, u, 3, 0, true, false, 0⟩]) ∧ readyN (gN x u ++ [⟨9, u, 3, 0, true, false, 0⟩]) 9 true = (0, (readyN (gN x u ++ [⟨9, u, 3, 0, true, false, 0⟩]) 9 true).2) ∧
    ((readyN (gN x u ++ [⟨9, u, 3, 0, true, false, 0⟩]) 9 true).2).map skr = gS x u ∧ (∀ t ∈ gN x u ++ [⟨9, u, 3, 0, true, false, 0⟩], t.rdy = false ∧ t.id ≤ 9) ∧ (∀ s ∈ gS x u, s.2.2.2.1 = true → s.1 = 9) ∧ (9, (u : Int), 3, true, true) ∈ gS x u ∧ (0, -1, 1, false, true) ∈ gS x u ∧ ∀ s ∈ gS x u, s.2.1 ≠ 9 := by
  have h : u = 0 ∨ u = 1 ∨ u = 2 := by omega
  rcases h with rfl | rfl | rfl
  · exact ⟨addN_is (p := rootN) rfl (by decide) rfl rfl rfl (.inl rfl) (by simp [gN]), by kernel_rfl, by kernel_rfl, by simp [gN, rootN], by simp [gS], by simp [gS], by simp [gS], by simp [gS]⟩
  · exact ⟨addN_is (p := ⟨1, 0, x, 0, false, false, 0⟩) rfl (by decide) rfl rfl rfl (.inl rfl) (by simp [gN]), by kernel_rfl, by kernel_rfl, by simp [gN, rootN], by simp [gS], by simp [gS], by simp [gS], by simp [gS]⟩
  · exact ⟨addN_is (p := ⟨2, 1, x, 0, false, false, 0⟩) rfl (by decide) rfl rfl rfl (.inl rfl) (by simp [gN]), by kernel_rfl, by kernel_rfl, by simp [gN, rootN], by simp [gS], by simp [gS], by simp [gS], by simp [gS]⟩
/-- The one thread that is ready runs. -/
theorem nine_run {N : List Nr} {x : Int} {u : Nat} (hu : u < 3) (hw : WFN N) (h : N.map skr = gS x u) : ∃ N', runN N = ((9, true), N') ∧ WFN N' ∧ N'.map skr = gS x u := by
  obtain ⟨_, _, _, _, hth, _, h0, _⟩ := gN_nine (x := x) hu
  obtain ⟨r0, hr0, hr1, _, _, _, hr5⟩ := skr_get h h0
  obtain ⟨v, id, N', h1, h2, h3, _, _, _, ⟨t, ht, hti, htt, _⟩, _⟩ := run_ps hw hr0 hr1 hr5
  have := hth _ (skr_mem h ht) htt
  simp only at this
  exact ⟨N', by rw [h1, ← hti, this], h2, h3.trans h⟩
theorem nine_rest {N : List Nr} {x : Int} {u : Nat} (hu : u < 3) (hw : WFN N) (h : N.map skr = gS x u) : readyN N 9 false = (0, restN 6 N 9) ∧ runN (restN 6 N 9) = ((0, false), restN 6 N 9) := by
  obtain ⟨_, _, _, _, hth, h9, _, hnp⟩ := gN_nine (x := x) hu
  obtain ⟨z, hz, z1, z2, z3, z4, z5⟩ := skr_get h h9
  have hg : gt N 9 = some z := z1 ▸ gt_of hw.sk.nd hz
  have e : readyN N 9 false = (0, restN 6 N 9) := by rw [readyN, hg]; simp only [z4, if_true]; rfl
  have hw2 : WFN (restN 6 N 9) := by have := ready_wf hw 9 false; rw [e] at this; exact this
  refine ⟨e, no_run hw2 fun t ht htt => ?_⟩
  have hkd : kidR N 9 = [] := by
    rw [kidR, List.filter_eq_nil_iff]
    intro y hy
    have := hnp _ (skr_mem h hy)
    simp only at this
    simp [this]
  obtain ⟨g, hg1, _, hg3⟩ := restN_map 6 N 9
  have ht' := ht
  rw [hg3] at ht'
  obtain ⟨y, hy, rfl⟩ := List.mem_map.1 ht'
  have := hth _ (skr_mem h hy) (by show y.thr = true; rw [← hg1.thr]; exact htt)
  exact rest_off hw.sk hg hkd _ ht (by rw [hg1.id]; exact this)
set_option maxHeartbeats 1000000 in
set_option maxRecDepth 100000 in
theorem none_walk (H : List SP) (w0 dp n : Int) (hw0 : 0 ≤ w0 ∧ w0 < 256) (hdp : 0 ≤ dp ∧ dp < 256) (hn : 0 ≤ n ∧ n < 256) : ∀ w, Sat w H → Calls Try.prog 7 #[.int .u8 w0, .int .u8 dp, .int .u8 n] w (Ret (ι := Unit) (fun _ => .bool true) fun _ => H) := by
  have hx := wOf_isW hw0.1
  obtain ⟨x, hxe⟩ : ∃ x, wOf w0 = x := ⟨_, rfl⟩
  rw [hxe] at hx
  have hdm := tmod_range hdp.1 (m := 3) (by omega)
  refine enterG (fn := Try.f7) 91 [.int .u8 w0, .int .u8 dp, .int .u8 n] Try.func7 (by kernel_rfl) (by kernel_rfl) (by kernel_rfl) ?_
  refine seqR (by kernel_rfl) ?_
  refine regionR 1 (by kernel_rfl) (by kernel_rfl) ?_
  refine (run0 (z := 0) 1 [0, 1, 2, 6] [(0, .int .u8 w0), (1, .int .u8 dp), (2, .int .u8 n), (6, .bool false)] (fun _ => by kernel_rfl) (endR ?_) : RT _ _ _ _ _ _ 1 _)
  refine seqR (by kernel_rfl) ?_
  refine seqR (by kernel_rfl) ?_
  refine regionR 2 (by kernel_rfl) (by kernel_rfl) ?_
  refine (stepR (z := 1) (callS 9 [] (some 18) (fun _ => .bool true) (fun (_ : Unit) => (H)) (fun _ => by kernel_rfl) (known_true _)) (fun _ => ?_) : RT _ _ _ _ _ _ 2 _)
  refine (run0 (z := 0) 1 [0, 1, 2, 6, 19] [(0, .int .u8 w0), (1, .int .u8 dp), (2, .int .u8 n), (6, .bool false), (19, .bool false)] (fun _ => by kernel_rfl) (endR ?_) : RT _ _ _ _ _ _ 1 _)
  refine condR (b := false) (by kernel_rfl) (fun _ => by kernel_rfl) (fun h => by cases h) (fun _ => ?_)
  refine skipR (by kernel_rfl) ?_
  refine seqR (by kernel_rfl) ?_
  refine regionR 2 (by kernel_rfl) (by kernel_rfl) ?_
  refine (stepR (z := 1) (callS 10 [] (some 20) (fun (q : Nat × Nat × Nat × Nat) => .pointer (some ⟨q.1, 0, none⟩)) (fun (q : Nat × Nat × Nat × Nat) => blk q.1 64 [.map (some q.2.1)] :: mapS q.2.1 ([rootT q.2.2.1 q.2.2.2].map kp) :: (nodesL [rootT q.2.2.1 q.2.2.2] ++ H)) (fun _ => by kernel_rfl) (tnew_walk H)) (fun (q : Nat × Nat × Nat × Nat) => ?_) : RT _ _ _ _ _ _ 2 _)
  obtain ⟨t, mb, tb, tib⟩ := q
  refine (run0 (z := 0) 1 [0, 1, 2, 6, 7] [(0, .int .u8 w0), (1, .int .u8 dp), (2, .int .u8 n), (6, .bool false), (7, .pointer (some ⟨t, 0, none⟩))] (fun _ => by kernel_rfl) (endR ?_) : RT _ _ _ _ _ _ 1 _)
  refine seqR (by kernel_rfl) ?_
  refine regionR 1 (by kernel_rfl) (by kernel_rfl) ?_
  refine (run0 (z := 0) 1 [0, 1, 2, 6, 7, 8] [(0, .int .u8 w0), (1, .int .u8 dp), (2, .int .u8 n), (6, .bool false), (7, .pointer (some ⟨t, 0, none⟩)), (8, .int .i64 0)] (fun _ => by kernel_rfl) (endR ?_) : RT _ _ _ _ _ _ 1 _)
  refine seqR (by kernel_rfl) ?_
  refine seqR (by kernel_rfl) ?_
  refine regionR 1 (by kernel_rfl) (by kernel_rfl) ?_
  refine (run0 (z := 0) 1 [0, 1, 2, 6, 7, 8, 9] [(0, .int .u8 w0), (1, .int .u8 dp), (2, .int .u8 n), (6, .bool false), (7, .pointer (some ⟨t, 0, none⟩)), (8, .int .i64 0), (9, .int .i64 0)] (fun _ => by kernel_rfl) (endR ?_) : RT _ _ _ _ _ _ 1 _)
  refine blockR 0 (by kernel_rfl) (by kernel_rfl) ?_
  refine PT.keep (L' := [(0, .int .u8 w0), (1, .int .u8 dp), (2, .int .u8 n), (6, .bool false), (7, .pointer (some ⟨t, 0, none⟩)), (8, .int .i64 0), (9, .int .i64 0)]) [0, 1, 2, 6, 7, 8, 9] rfl ?_
  refine loopG (fun (s : Nat × List Nd) => [(0, .int .u8 w0), (1, .int .u8 dp), (2, .int .u8 n), (6, .bool false), (7, .pointer (some ⟨t, 0, none⟩)), (8, .int .i64 (s.1 : Int)), (9, .int .i64 (s.1 : Int))]) (fun (s : Nat × List Nd) => (blk t 64 [.map (some mb)] :: mapS mb (s.2.map kp) :: (nodesL s.2 ++ H))) (fun k (s : Nat × List Nd) => (k : Int) + s.1 = dp.tmod 3 ∧ OkT (gN x s.1) s.2 ∧ WFN (gN x s.1)) (dp.tmod 3).toNat (0, [rootT tb tib]) (by kernel_rfl) ⟨by simp only; omega, root_ok tb tib, root_wf⟩ ?_
  rintro k ⟨u, T⟩ ⟨hku, hT, hw⟩
  simp only at hku hT hw
  refine seqR (by kernel_rfl) ?_
  refine seqR (by kernel_rfl) ?_
  refine regionR 5 (by kernel_rfl) (by kernel_rfl) ?_
  refine (run0 (z := 0) 5 [0, 1, 2, 6, 7, 8, 9, 25] [(0, .int .u8 w0), (1, .int .u8 dp), (2, .int .u8 n), (6, .bool false), (7, .pointer (some ⟨t, 0, none⟩)), (8, .int .i64 (u : Int)), (9, .int .i64 (u : Int)), (25, .bool (decide ((u : Int) < (IntKind.i64.wrap (Int.tmod dp 3)))))] (fun _ => by kernel_rfl) (endR ?_) : RT _ _ _ _ _ _ 5 _)
  rw [show IntKind.i64.wrap (Int.tmod dp 3) = (Int.tmod dp 3) by rw [w64 (by omega) (by omega)]]
  refine condR (b := decide ((u : Int) < (Int.tmod dp 3))) (by kernel_rfl) (fun _ => by kernel_rfl) (fun h1 => ?_) (fun h1 => ?_)
  · skip
    have hu := of_decide_eq_true h1
    have hAd := gN_add hx (u := u) (by omega)
    refine skipR (by kernel_rfl) ?_
    refine seqR (by kernel_rfl) ?_
    refine blockR 1 (by kernel_rfl) (by kernel_rfl) ?_
    refine seqR (by kernel_rfl) ?_
    refine seqR (by kernel_rfl) ?_
    refine regionR 10 (by kernel_rfl) (by kernel_rfl) ?_
    refine (run0 (z := 2) 8 [0, 1, 2, 6, 7, 8, 9, 28, 29, 31, 35] [(0, .int .u8 w0), (1, .int .u8 dp), (2, .int .u8 n), (6, .bool false), (7, .pointer (some ⟨t, 0, none⟩)), (8, .int .i64 (u : Int)), (9, .int .i64 (u : Int)), (28, .pointer (some ⟨t, 0, none⟩)), (29, .int .i64 (u : Int)), (31, .int .i64 (IntKind.i64.wrap ((u : Int) + 1))), (35, .int .i64 (IntKind.i64.wrap ((IntKind.i64.wrap (Int.tmod w0 16)) + 1)))] (fun _ => by kernel_rfl) ?_ : RT _ _ _ _ _ _ 10 _)
    rw [show IntKind.i64.wrap ((IntKind.i64.wrap (Int.tmod w0 16)) + 1) = x by rw [wOf_wrap hw0.1, hxe]]
    rw [show IntKind.i64.wrap ((u : Int) + 1) = ((u + 1 : Nat) : Int) by rw [w64 (by omega) (by omega)]; rfl]
    refine (stepR (z := 1) (callS 11 [.pointer (some ⟨t, 0, none⟩), .int .i64 (u : Int), .int .i64 ((u + 1 : Nat) : Int), .int .i64 x, .bool false] (some 36) (fun (Ta : { T' : List Nd // OkT (gN x (u + 1)) T' ∧ WFN (gN x (u + 1)) }) => .nilIface) (fun (Ta : { T' : List Nd // OkT (gN x (u + 1)) T' ∧ WFN (gN x (u + 1)) }) => blk t 64 [.map (some mb)] :: mapS mb (Ta.1.map kp) :: (nodesL Ta.1 ++ H)) (fun _ => by kernel_rfl) (add_ok hT hw hAd H t mb)) (fun (Ta : { T' : List Nd // OkT (gN x (u + 1)) T' ∧ WFN (gN x (u + 1)) }) => ?_) : RT _ _ _ _ _ _ 2 _)
    refine (run0 (z := 0) 1 [0, 1, 2, 6, 7, 8, 9, 37] [(0, .int .u8 w0), (1, .int .u8 dp), (2, .int .u8 n), (6, .bool false), (7, .pointer (some ⟨t, 0, none⟩)), (8, .int .i64 (u : Int)), (9, .int .i64 (u : Int)), (37, .bool false)] (fun _ => by kernel_rfl) (endR ?_) : RT _ _ _ _ _ _ 1 _)
    refine condR (b := false) (by kernel_rfl) (fun _ => by kernel_rfl) (fun h => by cases h) (fun _ => ?_)
    refine skipR (by kernel_rfl) ?_
    refine regionR 3 (by kernel_rfl) (by kernel_rfl) ?_
    refine (run0 (z := 0) 3 [0, 1, 2, 6, 7, 8, 9] [(0, .int .u8 w0), (1, .int .u8 dp), (2, .int .u8 n), (6, .bool false), (7, .pointer (some ⟨t, 0, none⟩)), (8, .int .i64 (IntKind.i64.wrap ((u : Int) + 1))), (9, .int .i64 (u : Int))] (fun _ => by kernel_rfl) (endR ?_) : RT _ _ _ _ _ _ 3 _)
    refine regionR 3 (by kernel_rfl) (by kernel_rfl) ?_
    refine (run0 (z := 0) 3 [0, 1, 2, 6, 7, 8, 9] [(0, .int .u8 w0), (1, .int .u8 dp), (2, .int .u8 n), (6, .bool false), (7, .pointer (some ⟨t, 0, none⟩)), (8, .int .i64 (IntKind.i64.wrap ((u : Int) + 1))), (9, .int .i64 (IntKind.i64.wrap ((u : Int) + 1)))] (fun _ => by kernel_rfl) (endR ?_) : RT _ _ _ _ _ _ 3 _)
    rw [show IntKind.i64.wrap ((u : Int) + 1) = ((u + 1 : Nat) : Int) by rw [w64 (by omega) (by omega)]; rfl]
    refine PT.keep (L' := [(0, .int .u8 w0), (1, .int .u8 dp), (2, .int .u8 n), (6, .bool false), (7, .pointer (some ⟨t, 0, none⟩)), (8, .int .i64 ((u + 1 : Nat) : Int)), (9, .int .i64 ((u + 1 : Nat) : Int))]) [0, 1, 2, 6, 7, 8, 9] rfl ?_
    exact againG (k - 1) (u + 1, Ta.1) rfl rfl (by omega) ⟨by simp only; omega, Ta.2.1, Ta.2.2⟩
  · skip
    have hu3 : u < 3 := by omega
    obtain ⟨hA9, hR9, hS9, hoff, hth, h9m, h0m, hnp⟩ := gN_nine (x := x) hu3
    obtain ⟨F, hF⟩ : ∃ F, F = gN x u ++ [⟨9, (u : Int), 3, 0, true, false, 0⟩] := ⟨_, rfl⟩
    rw [← hF] at hA9 hR9 hS9 hoff
    obtain ⟨F2, hF2⟩ : ∃ F2, F2 = (readyN F 9 true).2 := ⟨_, rfl⟩
    rw [← hF2] at hR9 hS9
    clear hF hF2
    refine exitR 0 (by kernel_rfl) (by kernel_rfl) ?_
    refine thenX ?_
    refine thenX ?_
    refine leaveR ?_
    refine seqR (by kernel_rfl) ?_
    refine seqR (by kernel_rfl) ?_
    refine regionR 4 (by kernel_rfl) (by kernel_rfl) ?_
    refine (run0 (z := 2) 2 [2, 6, 7, 40, 41] [(2, .int .u8 n), (6, .bool false), (7, .pointer (some ⟨t, 0, none⟩)), (40, .pointer (some ⟨t, 0, none⟩)), (41, .int .i64 (u : Int))] (fun _ => by kernel_rfl) ?_ : RT _ _ _ _ _ _ 4 _)
    refine (stepR (z := 1) (callS 11 [.pointer (some ⟨t, 0, none⟩), .int .i64 (u : Int), .int .i64 9, .int .i64 3, .bool true] (some 42) (fun (Ta : { T' : List Nd // OkT F T' ∧ WFN F }) => .nilIface) (fun (Ta : { T' : List Nd // OkT F T' ∧ WFN F }) => blk t 64 [.map (some mb)] :: mapS mb (Ta.1.map kp) :: (nodesL Ta.1 ++ H)) (fun _ => by kernel_rfl) (add_ok hT hw hA9 H t mb)) (fun (Ta : { T' : List Nd // OkT F T' ∧ WFN F }) => ?_) : RT _ _ _ _ _ _ 2 _)
    refine (run0 (z := 0) 1 [2, 6, 7, 43] [(2, .int .u8 n), (6, .bool false), (7, .pointer (some ⟨t, 0, none⟩)), (43, .bool false)] (fun _ => by kernel_rfl) (endR ?_) : RT _ _ _ _ _ _ 1 _)
    refine condR (b := false) (by kernel_rfl) (fun _ => by kernel_rfl) (fun h => by cases h) (fun _ => ?_)
    refine skipR (by kernel_rfl) ?_
    refine seqR (by kernel_rfl) ?_
    refine regionR 3 (by kernel_rfl) (by kernel_rfl) ?_
    refine (run0 (z := 2) 1 [2, 6, 7, 44] [(2, .int .u8 n), (6, .bool false), (7, .pointer (some ⟨t, 0, none⟩)), (44, .pointer (some ⟨t, 0, none⟩))] (fun _ => by kernel_rfl) ?_ : RT _ _ _ _ _ _ 3 _)
    refine (stepR (z := 1) (callS 17 [.pointer (some ⟨t, 0, none⟩)] (some 45) (fun (na : Option Addr × Nat) => .slice na.1 (nodesN F).length na.2) (fun (na : Option Addr × Nat) => row nE 53 (.slice na.1 (nodesN F).length na.2) (nodesN F) :: blk t 64 [.map (some mb)] :: mapS mb (Ta.1.map kp) :: (nodesL Ta.1 ++ H)) (fun _ => by kernel_rfl) (nodes_walk Ta.2.1 Ta.2.2.sk (fun z hz => Int.le_trans (hoff z hz).2 (by decide)) H t mb)) (fun (na : Option Addr × Nat) => ?_) : RT _ _ _ _ _ _ 2 _)
    refine (run0 (z := 0) 1 [2, 6, 7, 10] [(2, .int .u8 n), (6, .bool false), (7, .pointer (some ⟨t, 0, none⟩)), (10, .slice na.1 ((nodesN F).length) na.2)] (fun _ => by kernel_rfl) (endR ?_) : RT _ _ _ _ _ _ 1 _)
    refine PT.sink ?_
    refine seqR (by kernel_rfl) ?_
    refine seqR (by kernel_rfl) ?_
    refine regionR 7 (by kernel_rfl) (by kernel_rfl) ?_
    refine (run0 (z := 6) 1 [2, 6, 7, 10, 47] [(2, .int .u8 n), (6, .bool false), (7, .pointer (some ⟨t, 0, none⟩)), (10, .slice na.1 ((nodesN F).length) na.2), (47, .pointer (some ⟨t, 0, none⟩))] (fun _ => by kernel_rfl) ?_ : RT _ _ _ _ _ _ 7 _)
    refine (stepR (z := 5) (callS 13 [.pointer (some ⟨t, 0, none⟩)] (some 48) (fun (Tb : { T' : List Nd // OkT F T' ∧ WFN F }) => .tuple #[.int .i64 0, .bool false]) (fun (Tb : { T' : List Nd // OkT F T' ∧ WFN F }) => blk t 64 [.map (some mb)] :: mapS mb (Tb.1.map kp) :: (nodesL Tb.1 ++ (row nE 53 (.slice na.1 (nodesN F).length na.2) (nodesN F) :: H))) (fun _ => by kernel_rfl) (run_ok Ta.2.1 Ta.2.2 (no_run Ta.2.2 fun t ht _ => (hoff t ht).1) Ta.2.2 (row nE 53 (.slice na.1 (nodesN F).length na.2) (nodesN F) :: H) t mb)) (fun (Tb : { T' : List Nd // OkT F T' ∧ WFN F }) => ?_) : RT _ _ _ _ _ _ 6 _)
    refine (run0 (z := 0) 5 [2, 6, 7, 10, 12] [(2, .int .u8 n), (6, .bool false), (7, .pointer (some ⟨t, 0, none⟩)), (10, .slice na.1 ((nodesN F).length) na.2), (12, .bool false)] (fun _ => by kernel_rfl) (endR ?_) : RT _ _ _ _ _ _ 5 _)
    refine seqR (by kernel_rfl) ?_
    refine regionR 13 (by kernel_rfl) (by kernel_rfl) ?_
    refine (run0 (z := 9) 4 [2, 6, 7, 52, 53, 54] [(2, .int .u8 n), (6, .bool false), (7, .pointer (some ⟨t, 0, none⟩)), (52, .bool false), (53, .slice na.1 ((nodesN F).length) na.2), (54, .pointer (some ⟨t, 0, none⟩))] (fun _ => by kernel_rfl) ?_ : RT _ _ _ _ _ _ 13 _)
    refine (stepR (z := 8) (callS 17 [.pointer (some ⟨t, 0, none⟩)] (some 55) (fun (nb : Option Addr × Nat) => .slice nb.1 (nodesN F).length nb.2) (fun (nb : Option Addr × Nat) => row nE 53 (.slice nb.1 (nodesN F).length nb.2) (nodesN F) :: blk t 64 [.map (some mb)] :: mapS mb (Tb.1.map kp) :: (nodesL Tb.1 ++ (row nE 53 (.slice na.1 (nodesN F).length na.2) (nodesN F) :: H))) (fun _ => by kernel_rfl) (nodes_walk Tb.2.1 Tb.2.2.sk (fun z hz => Int.le_trans (hoff z hz).2 (by decide)) (row nE 53 (.slice na.1 (nodesN F).length na.2) (nodesN F) :: H) t mb)) (fun (nb : Option Addr × Nat) => ?_) : RT _ _ _ _ _ _ 9 _)
    refine (stepR (z := 7) (callS 18 [.slice na.1 ((nodesN F).length) na.2, .slice nb.1 ((nodesN F).length) nb.2] (some 56) (fun _ => .bool true) (fun _ => (row nE 53 (.slice nb.1 (nodesN F).length nb.2) (nodesN F) :: blk t 64 [.map (some mb)] :: mapS mb (Tb.1.map kp) :: (nodesL Tb.1 ++ (row nE 53 (.slice na.1 (nodesN F).length na.2) (nodesN F) :: H)))) (fun _ => by kernel_rfl) (sameNodes_walk (row nE 53 (.slice nb.1 (nodesN F).length nb.2) (nodesN F) :: blk t 64 [.map (some mb)] :: mapS mb (Tb.1.map kp) :: (nodesL Tb.1 ++ (row nE 53 (.slice na.1 (nodesN F).length na.2) (nodesN F) :: H))) ⟨na.1, na.2, nodesN F⟩ ⟨nb.1, nb.2, nodesN F⟩ (KR.tails (H := row nE 53 (.slice na.1 (nodesN F).length na.2) (nodesN F) :: H) (rowKRat 0 rfl) (fun w h => Sat.behind h.tail.tail.tail)) (rowKRat 0 rfl) (by rw [nodesN_len, ← Tb.2.1.len, Tb.2.1.len]; have := Tb.2.2.sk.len; omega) rfl (fun i x y hx hy => by rw [hx] at hy; cases hy; exact ndEq_self _))) (fun _ => ?_) : RT _ _ _ _ _ _ 8 _)
    refine (run0 (z := 3) 4 [2, 6, 7, 59, 60] [(2, .int .u8 n), (6, .bool false), (7, .pointer (some ⟨t, 0, none⟩)), (59, .bool false), (60, .pointer (some ⟨t, 0, none⟩))] (fun _ => by kernel_rfl) ?_ : RT _ _ _ _ _ _ 7 _)
    refine PT.drop ?_
    refine (stepR (z := 2) (callS 12 [.pointer (some ⟨t, 0, none⟩), .int .i64 9, .bool true] (some 61) (fun (Tc : { T' : List Nd // OkT F2 T' ∧ WFN F2 }) => .nilIface) (fun (Tc : { T' : List Nd // OkT F2 T' ∧ WFN F2 }) => blk t 64 [.map (some mb)] :: mapS mb (Tc.1.map kp) :: (nodesL Tc.1 ++ (row nE 53 (.slice na.1 (nodesN F).length na.2) (nodesN F) :: H))) (fun _ => by kernel_rfl) (ready_ok Tb.2.1 Tb.2.2 hR9 (row nE 53 (.slice na.1 (nodesN F).length na.2) (nodesN F) :: H) t mb)) (fun (Tc : { T' : List Nd // OkT F2 T' ∧ WFN F2 }) => ?_) : RT _ _ _ _ _ _ 3 _)
    refine (run0 (z := 0) 2 [2, 6, 7, 63] [(2, .int .u8 n), (6, .bool false), (7, .pointer (some ⟨t, 0, none⟩)), (63, .bool false)] (fun _ => by kernel_rfl) (endR ?_) : RT _ _ _ _ _ _ 2 _)
    refine condR (b := false) (by kernel_rfl) (fun _ => by kernel_rfl) (fun h => by cases h) (fun _ => ?_)
    refine skipR (by kernel_rfl) ?_
    refine seqR (by kernel_rfl) ?_
    refine seqR (by kernel_rfl) ?_
    refine regionR 1 (by kernel_rfl) (by kernel_rfl) ?_
    refine (run0 (z := 0) 1 [2, 6, 7, 13] [(2, .int .u8 n), (6, .bool false), (7, .pointer (some ⟨t, 0, none⟩)), (13, .int .i64 0)] (fun _ => by kernel_rfl) (endR ?_) : RT _ _ _ _ _ _ 1 _)
    refine blockR 2 (by kernel_rfl) (by kernel_rfl) ?_
    refine PT.keep (L' := [(2, .int .u8 n), (6, .bool false), (7, .pointer (some ⟨t, 0, none⟩)), (13, .int .i64 0)]) [2, 6, 7, 13] rfl ?_
    refine loopG (fun (s : (List Nr × Nat) × List Nd) => [(2, .int .u8 n), (6, .bool false), (7, .pointer (some ⟨t, 0, none⟩)), (13, .int .i64 (s.1.2 : Int))]) (fun (s : (List Nr × Nat) × List Nd) => (blk t 64 [.map (some mb)] :: mapS mb (s.2.map kp) :: (nodesL s.2 ++ (row nE 53 (.slice na.1 (nodesN F).length na.2) (nodesN F) :: H)))) (fun k (s : (List Nr × Nat) × List Nd) => (k : Int) + s.1.2 = n ∧ OkT s.1.1 s.2 ∧ WFN s.1.1 ∧ s.1.1.map skr = gS x u) n.toNat ((F2, 0), Tc.1) (by kernel_rfl) ⟨by simp only; omega, Tc.2.1, Tc.2.2, hS9⟩ ?_
    rintro k2 ⟨⟨N, v⟩, T2⟩ ⟨hkv, hT2, hw2, hsk2⟩
    simp only at hkv hT2 hw2 hsk2
    refine seqR (by kernel_rfl) ?_
    refine seqR (by kernel_rfl) ?_
    refine regionR 4 (by kernel_rfl) (by kernel_rfl) ?_
    refine (run0 (z := 0) 4 [2, 6, 7, 13, 67] [(2, .int .u8 n), (6, .bool false), (7, .pointer (some ⟨t, 0, none⟩)), (13, .int .i64 (v : Int)), (67, .bool (decide ((v : Int) < (IntKind.i64.wrap n))))] (fun _ => by kernel_rfl) (endR ?_) : RT _ _ _ _ _ _ 4 _)
    rw [show IntKind.i64.wrap n = n by rw [w64 (by omega) (by omega)]]
    refine condR (b := decide ((v : Int) < n)) (by kernel_rfl) (fun _ => by kernel_rfl) (fun h2 => ?_) (fun h2 => ?_)
    · skip
      obtain ⟨N3, hrun, hw3, hsk3⟩ := nine_run hu3 hw2 hsk2
      refine skipR (by kernel_rfl) ?_
      refine seqR (by kernel_rfl) ?_
      refine blockR 3 (by kernel_rfl) (by kernel_rfl) ?_
      refine seqR (by kernel_rfl) ?_
      refine regionR 7 (by kernel_rfl) (by kernel_rfl) ?_
      refine (run0 (z := 6) 1 [2, 6, 7, 13, 71] [(2, .int .u8 n), (6, .bool false), (7, .pointer (some ⟨t, 0, none⟩)), (13, .int .i64 (v : Int)), (71, .pointer (some ⟨t, 0, none⟩))] (fun _ => by kernel_rfl) ?_ : RT _ _ _ _ _ _ 7 _)
      refine (stepR (z := 5) (callS 13 [.pointer (some ⟨t, 0, none⟩)] (some 72) (fun (Td : { T' : List Nd // OkT N3 T' ∧ WFN N3 }) => .tuple #[.int .i64 9, .bool true]) (fun (Td : { T' : List Nd // OkT N3 T' ∧ WFN N3 }) => blk t 64 [.map (some mb)] :: mapS mb (Td.1.map kp) :: (nodesL Td.1 ++ (row nE 53 (.slice na.1 (nodesN F).length na.2) (nodesN F) :: H))) (fun _ => by kernel_rfl) (run_ok hT2 hw2 hrun hw3 (row nE 53 (.slice na.1 (nodesN F).length na.2) (nodesN F) :: H) t mb)) (fun (Td : { T' : List Nd // OkT N3 T' ∧ WFN N3 }) => ?_) : RT _ _ _ _ _ _ 6 _)
      refine (run0 (z := 0) 5 [2, 6, 7, 13, 14, 15] [(2, .int .u8 n), (6, .bool false), (7, .pointer (some ⟨t, 0, none⟩)), (13, .int .i64 (v : Int)), (14, .int .i64 9), (15, .bool true)] (fun _ => by kernel_rfl) (endR ?_) : RT _ _ _ _ _ _ 5 _)
      refine seqR (by kernel_rfl) ?_
      refine regionR 6 (by kernel_rfl) (by kernel_rfl) ?_
      refine (run0 (z := 0) 6 [2, 6, 7, 13, 80] [(2, .int .u8 n), (6, .bool false), (7, .pointer (some ⟨t, 0, none⟩)), (13, .int .i64 (v : Int)), (80, .bool false)] (fun _ => by kernel_rfl) (endR ?_) : RT _ _ _ _ _ _ 6 _)
      refine condR (b := false) (by kernel_rfl) (fun _ => by kernel_rfl) (fun h => by cases h) (fun _ => ?_)
      refine skipR (by kernel_rfl) ?_
      refine regionR 3 (by kernel_rfl) (by kernel_rfl) ?_
      refine (run0 (z := 0) 3 [2, 6, 7, 13] [(2, .int .u8 n), (6, .bool false), (7, .pointer (some ⟨t, 0, none⟩)), (13, .int .i64 (IntKind.i64.wrap ((v : Int) + 1)))] (fun _ => by kernel_rfl) (endR ?_) : RT _ _ _ _ _ _ 3 _)
      rw [show IntKind.i64.wrap ((v : Int) + 1) = ((v + 1 : Nat) : Int) by rw [w64 (by omega) (by omega)]; rfl]
      have hv := of_decide_eq_true h2
      refine PT.keep (L' := [(2, .int .u8 n), (6, .bool false), (7, .pointer (some ⟨t, 0, none⟩)), (13, .int .i64 ((v + 1 : Nat) : Int))]) [2, 6, 7, 13] rfl ?_
      exact againG (k2 - 1) ((N3, v + 1), Td.1) rfl rfl (by omega) ⟨by simp only; omega, Td.2.1, Td.2.2, hsk3⟩
    · skip
      obtain ⟨hrd, hno⟩ := nine_rest hu3 hw2 hsk2
      refine exitR 2 (by kernel_rfl) (by kernel_rfl) ?_
      refine thenX ?_
      refine thenX ?_
      refine leaveR ?_
      refine seqR (by kernel_rfl) ?_
      refine seqR (by kernel_rfl) ?_
      refine regionR 3 (by kernel_rfl) (by kernel_rfl) ?_
      refine (run0 (z := 2) 1 [6, 7, 81] [(6, .bool false), (7, .pointer (some ⟨t, 0, none⟩)), (81, .pointer (some ⟨t, 0, none⟩))] (fun _ => by kernel_rfl) ?_ : RT _ _ _ _ _ _ 3 _)
      refine (stepR (z := 1) (callS 12 [.pointer (some ⟨t, 0, none⟩), .int .i64 9, .bool false] (some 82) (fun (Td : { T' : List Nd // OkT (restN 6 N 9) T' ∧ WFN (restN 6 N 9) }) => .nilIface) (fun (Td : { T' : List Nd // OkT (restN 6 N 9) T' ∧ WFN (restN 6 N 9) }) => blk t 64 [.map (some mb)] :: mapS mb (Td.1.map kp) :: (nodesL Td.1 ++ (row nE 53 (.slice na.1 (nodesN F).length na.2) (nodesN F) :: H))) (fun _ => by kernel_rfl) (ready_ok hT2 hw2 hrd (row nE 53 (.slice na.1 (nodesN F).length na.2) (nodesN F) :: H) t mb)) (fun (Td : { T' : List Nd // OkT (restN 6 N 9) T' ∧ WFN (restN 6 N 9) }) => ?_) : RT _ _ _ _ _ _ 2 _)
      refine (run0 (z := 0) 1 [6, 7, 83] [(6, .bool false), (7, .pointer (some ⟨t, 0, none⟩)), (83, .bool false)] (fun _ => by kernel_rfl) (endR ?_) : RT _ _ _ _ _ _ 1 _)
      refine condR (b := false) (by kernel_rfl) (fun _ => by kernel_rfl) (fun h => by cases h) (fun _ => ?_)
      refine skipR (by kernel_rfl) ?_
      refine seqR (by kernel_rfl) ?_
      refine regionR 7 (by kernel_rfl) (by kernel_rfl) ?_
      refine (run0 (z := 6) 1 [6, 85] [(6, .bool false), (85, .pointer (some ⟨t, 0, none⟩))] (fun _ => by kernel_rfl) ?_ : RT _ _ _ _ _ _ 7 _)
      refine (stepR (z := 5) (callS 13 [.pointer (some ⟨t, 0, none⟩)] (some 86) (fun (Te : { T' : List Nd // OkT (restN 6 N 9) T' ∧ WFN (restN 6 N 9) }) => .tuple #[.int .i64 0, .bool false]) (fun (Te : { T' : List Nd // OkT (restN 6 N 9) T' ∧ WFN (restN 6 N 9) }) => blk t 64 [.map (some mb)] :: mapS mb (Te.1.map kp) :: (nodesL Te.1 ++ (row nE 53 (.slice na.1 (nodesN F).length na.2) (nodesN F) :: H))) (fun _ => by kernel_rfl) (run_ok Td.2.1 Td.2.2 hno Td.2.2 (row nE 53 (.slice na.1 (nodesN F).length na.2) (nodesN F) :: H) t mb)) (fun (Te : { T' : List Nd // OkT (restN 6 N 9) T' ∧ WFN (restN 6 N 9) }) => ?_) : RT _ _ _ _ _ _ 6 _)
      refine (run0 (z := 0) 5 [6, 17] [(6, .bool false), (17, .bool false)] (fun _ => by kernel_rfl) (endR ?_) : RT _ _ _ _ _ _ 5 _)
      refine seqR (by kernel_rfl) ?_
      refine regionR 3 (by kernel_rfl) (by kernel_rfl) ?_
      refine (run0 (z := 0) 3 [6] [(6, .bool true)] (fun _ => by kernel_rfl) (endR ?_) : RT _ _ _ _ _ _ 3 _)
      refine retR (by kernel_rfl) ?_
      refine done0 (.bool true) (fun _ => by kernel_rfl) (fun w hs => ?_) .ret (.inr rfl)
      exact ⟨(), rfl, (Sat.behind hs.tail.tail).tail⟩
theorem none_row (W : World) (a b n : Int) (ha : (Lit.int .u8 a).wf = true) (hb : (Lit.int .u8 b).wf = true) (hn : (Lit.int .u8 n).wf = true) : Calls Try.prog 7 #[.int .u8 a, .int .u8 b, .int .u8 n] W (LawPost W) :=
  lawPost (fun _ _ h => h) (none_walk [old W] a b n (u8_wf ha) (u8_wf hb) (u8_wf hn) W (Sat.start W))
end Go.Proofs.Ytjbjngikaiggdaa
