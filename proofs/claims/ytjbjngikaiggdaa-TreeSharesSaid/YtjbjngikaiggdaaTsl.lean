/- TreeSleeps: its walk. Conditions: none. -/
import Derived.Test.YtjbjngikaiggdaaTy1
set_option linter.unusedVariables false
set_option linter.unusedSimpArgs false
namespace Go.Proofs.Ytjbjngikaiggdaa
open Go.RowKit G
abbrev SR := List (Int × Int × Int × Bool × Bool)
def slS (x y : Int) (r : Bool) : SR := [(0, -1, 1, false, true), (1, 0, x, true, true), (2, 0, y, true, r)]
theorem sl_pars {N : List Nr} {x y : Int} {r : Bool} (h : N.map skr = slS x y r) {k : Int} (hk : k = 1 ∨ k = 2) : ∀ z ∈ N, z.par ≠ k := by
  intro z hz e
  have := skr_mem h hz
  simp only [slS, List.mem_cons, Prod.mk.injEq, List.not_mem_nil, or_false] at this
  omega
/-- A run of two, one of them or both ready. -/
theorem sl_run {N : List Nr} {x y : Int} {r : Bool} (hw : WFN N) (h : N.map skr = slS x y r) : ∃ (id : Int) (N' : List Nr), runN N = ((id, true), N') ∧ WFN N' ∧ N'.map skr = slS x y r ∧ (id = 1 ∨ (id = 2 ∧ r = true)) ∧
    (r = true → ps N' 1 - ps N' 2 = ps N 1 - ps N 2 + (if id = 1 then strd x else 0) - (if id = 2 then strd y else 0)) := by
  obtain ⟨r0, hr0, hr1, _, _, _, hr5⟩ := skr_get h (i := 0) (p := -1) (w := 1) (t := false) (r := true) (by simp [slS])
  obtain ⟨v, id, N', h1, h2, h3, hv, hvp, hvr, _, hb, δ, hd⟩ := run_ps hw hr0 hr1 hr5
  have hvs := skr_mem h hv
  simp only [slS, List.mem_cons, Prod.mk.injEq, List.not_mem_nil, or_false] at hvs
  have hvid : (v.id = 1 ∧ v.wt = x) ∨ (v.id = 2 ∧ v.wt = y ∧ r = true) := by
    rcases hvs with h | h | h
    · omega
    · exact .inl ⟨h.1, h.2.2.1⟩
    · exact .inr ⟨h.1, h.2.2.1, by rw [← h.2.2.2.2, hvr]⟩
  have hid : id = v.id := bel_leaf hb (sl_pars h (by omega))
  obtain ⟨z1, hz1, e1, p1, _, _, rd1⟩ := skr_get h (i := 1) (p := 0) (w := x) (t := true) (r := true) (by simp [slS])
  obtain ⟨z2, hz2, e2, p2, _, _, rd2⟩ := skr_get h (i := 2) (p := 0) (w := y) (t := true) (r := r) (by simp [slS])
  refine ⟨id, N', h1, h2, h3.trans h, by rcases hvid with h | h; exact .inl (by omega); exact .inr ⟨by omega, h.2.2⟩, fun hr => ?_⟩
  have d1 := hd z1 hz1 p1 rd1
  have d2 := hd z2 hz2 p2 (by rw [rd2, hr])
  rw [e1] at d1
  rw [e2] at d2
  rw [d1, d2, hid]
  rcases hvid with ⟨h4, h5⟩ | ⟨h4, h5, _⟩ <;> rw [h4, h5] <;> simp <;> omega
theorem sl_in {N : List Nr} {x y : Int} (hw : WFN N) (h : N.map skr = slS x y true) : ps N 1 - ps N 2 ≤ strd x ∧ ps N 2 - ps N 1 ≤ strd y := by
  obtain ⟨r0, hr0, hr1, _⟩ := skr_get h (i := 0) (p := -1) (w := 1) (t := false) (r := true) (by simp [slS])
  obtain ⟨z1, hz1, e1, p1, w1, _, rd1⟩ := skr_get h (i := 1) (p := 0) (w := x) (t := true) (r := true) (by simp [slS])
  obtain ⟨z2, hz2, e2, p2, w2, _, rd2⟩ := skr_get h (i := 2) (p := 0) (w := y) (t := true) (r := true) (by simp [slS])
  have := two_in hw hz1 hz2 hr0 (by omega) (by omega) rd1 rd2
  rw [e1, e2, w1, w2] at this
  exact this
theorem sl_ready {N : List Nr} {x y : Int} (hw : WFN N) (h : N.map skr = slS x y false) : ∃ N', readyN N 2 true = (0, N') ∧ N'.map skr = slS x y true := by
  obtain ⟨r0, hr0, hr1, _, _, _, hr5⟩ := skr_get h (i := 0) (p := -1) (w := 1) (t := false) (r := true) (by simp [slS])
  obtain ⟨z2, hz2, e2, p2, w2, t2, rd2⟩ := skr_get h (i := 2) (p := 0) (w := y) (t := true) (r := false) (by simp [slS])
  have hg : gt N 2 = some z2 := e2 ▸ gt_of hw.sk.nd hz2
  have hg0 : gt N z2.par = some r0 := by rw [p2, ← hr1]; exact gt_of hw.sk.nd hr0
  refine ⟨upN N 2 (wkF r0.now), by rw [readyN, hg]; simp only [t2, if_true]; rw [wake_up hg rd2 hg0 hr5 (by omega)], ?_⟩
  rw [up_skr, h]; rfl
def slN2 (x y : Int) : List Nr := [rootN, ⟨1, 0, x, 0, true, false, 0⟩, ⟨2, 0, y, 0, true, false, 0⟩]
def slN3 (x y : Int) : List Nr := [⟨0, -1, 1, 0, false, true, 0⟩, ⟨1, 0, x, 0, true, true, 0⟩, ⟨2, 0, y, 0, true, false, 0⟩]
set_option maxHeartbeats 1000000 in
set_option maxRecDepth 100000 in
theorem sleeps_walk (H : List SP) (a b sl n : Int) (ha : 0 ≤ a ∧ a < 256) (hb : 0 ≤ b ∧ b < 256) (hsl : 0 ≤ sl ∧ sl < 65536) (hn : 0 ≤ n ∧ n < 256) : ∀ w, Sat w H → Calls Try.prog 6 #[.int .u8 a, .int .u8 b, .int .u16 sl, .int .u8 n] w (Ret (ι := Unit) (fun _ => .bool true) fun _ => H) := by
  have hx := wOf_isW ha.1
  have hy := wOf_isW hb.1
  obtain ⟨x, hxe⟩ : ∃ x, wOf a = x := ⟨_, rfl⟩
  obtain ⟨y, hye⟩ : ∃ y, wOf b = y := ⟨_, rfl⟩
  rw [hxe] at hx
  rw [hye] at hy
  have hsm := tmod_range hsl.1 (m := 2000) (by omega)
  have hA1 : addN [rootN] 0 1 x true = (0, [rootN, ⟨1, 0, x, 0, true, false, 0⟩]) := addN_is (p := rootN) hx (by omega) rfl rfl rfl (.inl rfl) (by decide)
  have hA2 : addN [rootN, ⟨1, 0, x, 0, true, false, 0⟩] 0 2 y true = (0, slN2 x y) := addN_is (p := rootN) hy (by omega) rfl rfl rfl (.inl rfl) (by simp)
  have hR1 : readyN (slN2 x y) 1 true = (0, slN3 x y) := by kernel_rfl
  refine enterG (fn := Try.f6) 100 [.int .u8 a, .int .u8 b, .int .u16 sl, .int .u8 n] Try.func6 (by kernel_rfl) (by kernel_rfl) (by kernel_rfl) ?_
  refine seqR (by kernel_rfl) ?_
  refine regionR 1 (by kernel_rfl) (by kernel_rfl) ?_
  refine (run0 (z := 0) 1 [0, 1, 2, 3, 8] [(0, .int .u8 a), (1, .int .u8 b), (2, .int .u16 sl), (3, .int .u8 n), (8, .bool false)] (fun _ => by kernel_rfl) (endR ?_) : RT _ _ _ _ _ _ 1 _)
  refine seqR (by kernel_rfl) ?_
  refine seqR (by kernel_rfl) ?_
  refine regionR 2 (by kernel_rfl) (by kernel_rfl) ?_
  refine (stepR (z := 1) (callS 9 [] (some 19) (fun _ => .bool true) (fun (_ : Unit) => (H)) (fun _ => by kernel_rfl) (known_true _)) (fun _ => ?_) : RT _ _ _ _ _ _ 2 _)
  refine (run0 (z := 0) 1 [0, 1, 2, 3, 8, 20] [(0, .int .u8 a), (1, .int .u8 b), (2, .int .u16 sl), (3, .int .u8 n), (8, .bool false), (20, .bool false)] (fun _ => by kernel_rfl) (endR ?_) : RT _ _ _ _ _ _ 1 _)
  refine condR (b := false) (by kernel_rfl) (fun _ => by kernel_rfl) (fun h => by cases h) (fun _ => ?_)
  refine skipR (by kernel_rfl) ?_
  refine seqR (by kernel_rfl) ?_
  refine regionR 10 (by kernel_rfl) (by kernel_rfl) ?_
  refine (run0 (z := 0) 10 [2, 3, 8, 9, 10] [(2, .int .u16 sl), (3, .int .u8 n), (8, .bool false), (9, .int .i64 (IntKind.i64.wrap ((IntKind.i64.wrap (Int.tmod a 16)) + 1))), (10, .int .i64 (IntKind.i64.wrap ((IntKind.i64.wrap (Int.tmod b 16)) + 1)))] (fun _ => by kernel_rfl) (endR ?_) : RT _ _ _ _ _ _ 10 _)
  refine seqR (by kernel_rfl) ?_
  refine regionR 2 (by kernel_rfl) (by kernel_rfl) ?_
  rw [show IntKind.i64.wrap ((IntKind.i64.wrap (Int.tmod a 16)) + 1) = x by rw [wOf_wrap ha.1, hxe]]
  rw [show IntKind.i64.wrap ((IntKind.i64.wrap (Int.tmod b 16)) + 1) = y by rw [wOf_wrap hb.1, hye]]
  refine (stepR (z := 1) (callS 10 [] (some 29) (fun (q : Nat × Nat × Nat × Nat) => .pointer (some ⟨q.1, 0, none⟩)) (fun (q : Nat × Nat × Nat × Nat) => blk q.1 64 [.map (some q.2.1)] :: mapS q.2.1 ([rootT q.2.2.1 q.2.2.2].map kp) :: (nodesL [rootT q.2.2.1 q.2.2.2] ++ H)) (fun _ => by kernel_rfl) (tnew_walk H)) (fun (q : Nat × Nat × Nat × Nat) => ?_) : RT _ _ _ _ _ _ 2 _)
  obtain ⟨t, mb, tb, tib⟩ := q
  refine (run0 (z := 0) 1 [2, 3, 8, 9, 10, 11] [(2, .int .u16 sl), (3, .int .u8 n), (8, .bool false), (9, .int .i64 x), (10, .int .i64 y), (11, .pointer (some ⟨t, 0, none⟩))] (fun _ => by kernel_rfl) (endR ?_) : RT _ _ _ _ _ _ 1 _)
  refine seqR (by kernel_rfl) ?_
  refine seqR (by kernel_rfl) ?_
  refine regionR 15 (by kernel_rfl) (by kernel_rfl) ?_
  refine (run0 (z := 13) 2 [2, 3, 8, 9, 10, 11, 30, 31] [(2, .int .u16 sl), (3, .int .u8 n), (8, .bool false), (9, .int .i64 x), (10, .int .i64 y), (11, .pointer (some ⟨t, 0, none⟩)), (30, .pointer (some ⟨t, 0, none⟩)), (31, .int .i64 x)] (fun _ => by kernel_rfl) ?_ : RT _ _ _ _ _ _ 15 _)
  refine (stepR (z := 12) (callS 11 [.pointer (some ⟨t, 0, none⟩), .int .i64 0, .int .i64 1, .int .i64 x, .bool true] (some 32) (fun (Ta : { T' : List Nd // OkT [rootN, ⟨1, 0, x, 0, true, false, 0⟩] T' ∧ WFN [rootN, ⟨1, 0, x, 0, true, false, 0⟩] }) => .nilIface) (fun (Ta : { T' : List Nd // OkT [rootN, ⟨1, 0, x, 0, true, false, 0⟩] T' ∧ WFN [rootN, ⟨1, 0, x, 0, true, false, 0⟩] }) => blk t 64 [.map (some mb)] :: mapS mb (Ta.1.map kp) :: (nodesL Ta.1 ++ H)) (fun _ => by kernel_rfl) (add_ok (root_ok tb tib) root_wf hA1 H t mb)) (fun (Ta : { T' : List Nd // OkT [rootN, ⟨1, 0, x, 0, true, false, 0⟩] T' ∧ WFN [rootN, ⟨1, 0, x, 0, true, false, 0⟩] }) => ?_) : RT _ _ _ _ _ _ 13 _)
  refine (run0 (z := 8) 4 [2, 3, 8, 9, 10, 11, 34, 35, 36] [(2, .int .u16 sl), (3, .int .u8 n), (8, .bool false), (9, .int .i64 x), (10, .int .i64 y), (11, .pointer (some ⟨t, 0, none⟩)), (34, .bool false), (35, .pointer (some ⟨t, 0, none⟩)), (36, .int .i64 y)] (fun _ => by kernel_rfl) ?_ : RT _ _ _ _ _ _ 12 _)
  refine (stepR (z := 7) (callS 11 [.pointer (some ⟨t, 0, none⟩), .int .i64 0, .int .i64 2, .int .i64 y, .bool true] (some 37) (fun (Tb : { T' : List Nd // OkT (slN2 x y) T' ∧ WFN (slN2 x y) }) => .nilIface) (fun (Tb : { T' : List Nd // OkT (slN2 x y) T' ∧ WFN (slN2 x y) }) => blk t 64 [.map (some mb)] :: mapS mb (Tb.1.map kp) :: (nodesL Tb.1 ++ H)) (fun _ => by kernel_rfl) (add_ok Ta.2.1 Ta.2.2 hA2 H t mb)) (fun (Tb : { T' : List Nd // OkT (slN2 x y) T' ∧ WFN (slN2 x y) }) => ?_) : RT _ _ _ _ _ _ 8 _)
  refine (run0 (z := 3) 4 [2, 3, 8, 9, 10, 11, 40, 41] [(2, .int .u16 sl), (3, .int .u8 n), (8, .bool false), (9, .int .i64 x), (10, .int .i64 y), (11, .pointer (some ⟨t, 0, none⟩)), (40, .bool false), (41, .pointer (some ⟨t, 0, none⟩))] (fun _ => by kernel_rfl) ?_ : RT _ _ _ _ _ _ 7 _)
  refine (stepR (z := 2) (callS 12 [.pointer (some ⟨t, 0, none⟩), .int .i64 1, .bool true] (some 42) (fun (Tc : { T' : List Nd // OkT (slN3 x y) T' ∧ WFN (slN3 x y) }) => .nilIface) (fun (Tc : { T' : List Nd // OkT (slN3 x y) T' ∧ WFN (slN3 x y) }) => blk t 64 [.map (some mb)] :: mapS mb (Tc.1.map kp) :: (nodesL Tc.1 ++ H)) (fun _ => by kernel_rfl) (ready_ok Tb.2.1 Tb.2.2 hR1 H t mb)) (fun (Tc : { T' : List Nd // OkT (slN3 x y) T' ∧ WFN (slN3 x y) }) => ?_) : RT _ _ _ _ _ _ 3 _)
  refine (run0 (z := 0) 2 [2, 3, 8, 9, 10, 11, 44] [(2, .int .u16 sl), (3, .int .u8 n), (8, .bool false), (9, .int .i64 x), (10, .int .i64 y), (11, .pointer (some ⟨t, 0, none⟩)), (44, .bool false)] (fun _ => by kernel_rfl) (endR ?_) : RT _ _ _ _ _ _ 2 _)
  refine condR (b := false) (by kernel_rfl) (fun _ => by kernel_rfl) (fun h => by cases h) (fun _ => ?_)
  refine skipR (by kernel_rfl) ?_
  refine seqR (by kernel_rfl) ?_
  refine seqR (by kernel_rfl) ?_
  refine regionR 1 (by kernel_rfl) (by kernel_rfl) ?_
  refine (run0 (z := 0) 1 [2, 3, 8, 9, 10, 11, 12] [(2, .int .u16 sl), (3, .int .u8 n), (8, .bool false), (9, .int .i64 x), (10, .int .i64 y), (11, .pointer (some ⟨t, 0, none⟩)), (12, .int .i64 0)] (fun _ => by kernel_rfl) (endR ?_) : RT _ _ _ _ _ _ 1 _)
  refine blockR 0 (by kernel_rfl) (by kernel_rfl) ?_
  refine PT.keep (L' := [(2, .int .u16 sl), (3, .int .u8 n), (8, .bool false), (9, .int .i64 x), (10, .int .i64 y), (11, .pointer (some ⟨t, 0, none⟩)), (12, .int .i64 0)]) [2, 3, 8, 9, 10, 11, 12] rfl ?_
  refine loopG (fun (s : (List Nr × Nat) × List Nd) => [(2, .int .u16 sl), (3, .int .u8 n), (8, .bool false), (9, .int .i64 x), (10, .int .i64 y), (11, .pointer (some ⟨t, 0, none⟩)), (12, .int .i64 (s.1.2 : Int))]) (fun (s : (List Nr × Nat) × List Nd) => (blk t 64 [.map (some mb)] :: mapS mb (s.2.map kp) :: (nodesL s.2 ++ H))) (fun k (s : (List Nr × Nat) × List Nd) => (k : Int) + s.1.2 = sl.tmod 2000 ∧ OkT s.1.1 s.2 ∧ WFN s.1.1 ∧ s.1.1.map skr = slS x y false) (sl.tmod 2000).toNat ((slN3 x y, 0), Tc.1) (by kernel_rfl) ⟨by simp only; omega, Tc.2.1, Tc.2.2, rfl⟩ ?_
  rintro k ⟨⟨N, u⟩, T⟩ ⟨hku, hT, hw, hsk⟩
  simp only at hku hT hw hsk
  refine seqR (by kernel_rfl) ?_
  refine seqR (by kernel_rfl) ?_
  refine regionR 5 (by kernel_rfl) (by kernel_rfl) ?_
  refine (run0 (z := 0) 5 [2, 3, 8, 9, 10, 11, 12, 49] [(2, .int .u16 sl), (3, .int .u8 n), (8, .bool false), (9, .int .i64 x), (10, .int .i64 y), (11, .pointer (some ⟨t, 0, none⟩)), (12, .int .i64 (u : Int)), (49, .bool (decide ((u : Int) < (IntKind.i64.wrap (Int.tmod sl 2000)))))] (fun _ => by kernel_rfl) (endR ?_) : RT _ _ _ _ _ _ 5 _)
  rw [show IntKind.i64.wrap (Int.tmod sl 2000) = (Int.tmod sl 2000) by rw [w64 (by omega) (by omega)]]
  refine condR (b := decide ((u : Int) < (Int.tmod sl 2000))) (by kernel_rfl) (fun _ => by kernel_rfl) (fun h1 => ?_) (fun h1 => ?_)
  · skip
    obtain ⟨id, N', hrun, hw', hsk', hid, _⟩ := sl_run hw hsk
    have hid1 : id = 1 := by rcases hid with h | h; exact h; cases h.2
    subst hid1
    refine skipR (by kernel_rfl) ?_
    refine seqR (by kernel_rfl) ?_
    refine blockR 1 (by kernel_rfl) (by kernel_rfl) ?_
    refine seqR (by kernel_rfl) ?_
    refine regionR 7 (by kernel_rfl) (by kernel_rfl) ?_
    refine (run0 (z := 6) 1 [2, 3, 8, 9, 10, 11, 12, 53] [(2, .int .u16 sl), (3, .int .u8 n), (8, .bool false), (9, .int .i64 x), (10, .int .i64 y), (11, .pointer (some ⟨t, 0, none⟩)), (12, .int .i64 (u : Int)), (53, .pointer (some ⟨t, 0, none⟩))] (fun _ => by kernel_rfl) ?_ : RT _ _ _ _ _ _ 7 _)
    refine (stepR (z := 5) (callS 13 [.pointer (some ⟨t, 0, none⟩)] (some 54) (fun (Td : { T' : List Nd // OkT N' T' ∧ WFN N' }) => .tuple #[.int .i64 1, .bool true]) (fun (Td : { T' : List Nd // OkT N' T' ∧ WFN N' }) => blk t 64 [.map (some mb)] :: mapS mb (Td.1.map kp) :: (nodesL Td.1 ++ H)) (fun _ => by kernel_rfl) (run_ok hT hw hrun hw' H t mb)) (fun (Td : { T' : List Nd // OkT N' T' ∧ WFN N' }) => ?_) : RT _ _ _ _ _ _ 6 _)
    refine (run0 (z := 0) 5 [2, 3, 8, 9, 10, 11, 12, 13, 14] [(2, .int .u16 sl), (3, .int .u8 n), (8, .bool false), (9, .int .i64 x), (10, .int .i64 y), (11, .pointer (some ⟨t, 0, none⟩)), (12, .int .i64 (u : Int)), (13, .int .i64 1), (14, .bool true)] (fun _ => by kernel_rfl) (endR ?_) : RT _ _ _ _ _ _ 5 _)
    refine seqR (by kernel_rfl) ?_
    refine regionR 6 (by kernel_rfl) (by kernel_rfl) ?_
    refine (run0 (z := 0) 6 [2, 3, 8, 9, 10, 11, 12, 62] [(2, .int .u16 sl), (3, .int .u8 n), (8, .bool false), (9, .int .i64 x), (10, .int .i64 y), (11, .pointer (some ⟨t, 0, none⟩)), (12, .int .i64 (u : Int)), (62, .bool false)] (fun _ => by kernel_rfl) (endR ?_) : RT _ _ _ _ _ _ 6 _)
    refine condR (b := false) (by kernel_rfl) (fun _ => by kernel_rfl) (fun h => by cases h) (fun _ => ?_)
    refine skipR (by kernel_rfl) ?_
    refine regionR 3 (by kernel_rfl) (by kernel_rfl) ?_
    refine (run0 (z := 0) 3 [2, 3, 8, 9, 10, 11, 12] [(2, .int .u16 sl), (3, .int .u8 n), (8, .bool false), (9, .int .i64 x), (10, .int .i64 y), (11, .pointer (some ⟨t, 0, none⟩)), (12, .int .i64 (IntKind.i64.wrap ((u : Int) + 1)))] (fun _ => by kernel_rfl) (endR ?_) : RT _ _ _ _ _ _ 3 _)
    rw [show IntKind.i64.wrap ((u : Int) + 1) = ((u + 1 : Nat) : Int) by rw [w64 (by omega) (by omega)]; rfl]
    have hu := of_decide_eq_true h1
    refine PT.keep (L' := [(2, .int .u16 sl), (3, .int .u8 n), (8, .bool false), (9, .int .i64 x), (10, .int .i64 y), (11, .pointer (some ⟨t, 0, none⟩)), (12, .int .i64 ((u + 1 : Nat) : Int))]) [2, 3, 8, 9, 10, 11, 12] rfl ?_
    exact againG (k - 1) ((N', u + 1), Td.1) rfl rfl (by omega) ⟨by simp only; omega, Td.2.1, Td.2.2, hsk'⟩
  · skip
    obtain ⟨N2, hrd, hsk2⟩ := sl_ready hw hsk
    refine exitR 0 (by kernel_rfl) (by kernel_rfl) ?_
    refine thenX ?_
    refine thenX ?_
    refine leaveR ?_
    refine seqR (by kernel_rfl) ?_
    refine seqR (by kernel_rfl) ?_
    refine regionR 3 (by kernel_rfl) (by kernel_rfl) ?_
    refine (run0 (z := 2) 1 [3, 8, 9, 10, 11, 63] [(3, .int .u8 n), (8, .bool false), (9, .int .i64 x), (10, .int .i64 y), (11, .pointer (some ⟨t, 0, none⟩)), (63, .pointer (some ⟨t, 0, none⟩))] (fun _ => by kernel_rfl) ?_ : RT _ _ _ _ _ _ 3 _)
    refine (stepR (z := 1) (callS 12 [.pointer (some ⟨t, 0, none⟩), .int .i64 2, .bool true] (some 64) (fun (Td : { T' : List Nd // OkT N2 T' ∧ WFN N2 }) => .nilIface) (fun (Td : { T' : List Nd // OkT N2 T' ∧ WFN N2 }) => blk t 64 [.map (some mb)] :: mapS mb (Td.1.map kp) :: (nodesL Td.1 ++ H)) (fun _ => by kernel_rfl) (ready_ok hT hw hrd H t mb)) (fun (Td : { T' : List Nd // OkT N2 T' ∧ WFN N2 }) => ?_) : RT _ _ _ _ _ _ 2 _)
    refine (run0 (z := 0) 1 [3, 8, 9, 10, 11, 65] [(3, .int .u8 n), (8, .bool false), (9, .int .i64 x), (10, .int .i64 y), (11, .pointer (some ⟨t, 0, none⟩)), (65, .bool false)] (fun _ => by kernel_rfl) (endR ?_) : RT _ _ _ _ _ _ 1 _)
    refine condR (b := false) (by kernel_rfl) (fun _ => by kernel_rfl) (fun h => by cases h) (fun _ => ?_)
    refine skipR (by kernel_rfl) ?_
    refine seqR (by kernel_rfl) ?_
    refine regionR 1 (by kernel_rfl) (by kernel_rfl) ?_
    refine (stepR (z := 0) (newS 31 [.int .i64 0, .int .i64 0, .int .i64 0] (some 15) (fun b => .pointer (some ⟨b, 0, none⟩)) (fun _ _ => by kernel_rfl)) (fun b1 => ?_) : RT _ _ _ _ _ _ 1 _)
    refine endR ?_
    refine seqR (by kernel_rfl) ?_
    refine seqR (by kernel_rfl) ?_
    refine regionR 1 (by kernel_rfl) (by kernel_rfl) ?_
    refine (run0 (z := 0) 1 [15, 3, 8, 9, 10, 11, 16] [(15, .pointer (some ⟨b1, 0, none⟩)), (3, .int .u8 n), (8, .bool false), (9, .int .i64 x), (10, .int .i64 y), (11, .pointer (some ⟨t, 0, none⟩)), (16, .int .i64 0)] (fun _ => by kernel_rfl) (endR ?_) : RT _ _ _ _ _ _ 1 _)
    refine blockR 2 (by kernel_rfl) (by kernel_rfl) ?_
    have hin2 := sl_in Td.2.2 hsk2
    obtain ⟨D, hD⟩ : ∃ D, ps N2 1 - ps N2 2 = D := ⟨_, rfl⟩
    refine PT.keep (L' := [(3, .int .u8 n), (8, .bool false), (9, .int .i64 x), (10, .int .i64 y), (11, .pointer (some ⟨t, 0, none⟩)), (15, .pointer (some ⟨b1, 0, none⟩)), (16, .int .i64 0)]) [3, 8, 9, 10, 11, 15, 16] rfl ?_
    refine loopG (fun (s : (List Nr × Nat × Int × Int) × List Nd) => [(3, .int .u8 n), (8, .bool false), (9, .int .i64 x), (10, .int .i64 y), (11, .pointer (some ⟨t, 0, none⟩)), (15, .pointer (some ⟨b1, 0, none⟩)), (16, .int .i64 (s.1.2.1 : Int))]) (fun (s : (List Nr × Nat × Int × Int) × List Nd) => (blk b1 31 [.int .i64 0, .int .i64 s.1.2.2.1, .int .i64 s.1.2.2.2] :: blk t 64 [.map (some mb)] :: mapS mb (s.2.map kp) :: (nodesL s.2 ++ H))) (fun k (s : (List Nr × Nat × Int × Int) × List Nd) => (k : Int) + s.1.2.1 = n ∧ OkT s.1.1 s.2 ∧ WFN s.1.1 ∧ s.1.1.map skr = slS x y true ∧ ps s.1.1 1 - ps s.1.1 2 = D + (s.1.2.2.1 * strd x - s.1.2.2.2 * strd y) ∧ 0 ≤ s.1.2.2.1 ∧ 0 ≤ s.1.2.2.2 ∧ s.1.2.2.1 + s.1.2.2.2 = s.1.2.1) n.toNat ((N2, 0, 0, 0), Td.1) (by kernel_rfl) ⟨by simp only; omega, Td.2.1, Td.2.2, hsk2, by simp only; rw [hD]; simp, by simp only; omega, by simp only; omega, by simp only; omega⟩ ?_
    rintro k2 ⟨⟨N3, v, p, q⟩, T3⟩ ⟨hkv, hT3, hw3, hsk3, hdf, hp0, hq0, hpq⟩
    simp only at hkv hT3 hw3 hsk3 hdf hp0 hq0 hpq
    refine seqR (by kernel_rfl) ?_
    refine seqR (by kernel_rfl) ?_
    refine regionR 4 (by kernel_rfl) (by kernel_rfl) ?_
    refine (run0 (z := 0) 4 [3, 8, 9, 10, 11, 15, 16, 69] [(3, .int .u8 n), (8, .bool false), (9, .int .i64 x), (10, .int .i64 y), (11, .pointer (some ⟨t, 0, none⟩)), (15, .pointer (some ⟨b1, 0, none⟩)), (16, .int .i64 (v : Int)), (69, .bool (decide ((v : Int) < (IntKind.i64.wrap n))))] (fun _ => by kernel_rfl) (endR ?_) : RT _ _ _ _ _ _ 4 _)
    rw [show IntKind.i64.wrap n = n by rw [w64 (by omega) (by omega)]]
    refine condR (b := decide ((v : Int) < n)) (by kernel_rfl) (fun _ => by kernel_rfl) (fun h2 => ?_) (fun h2 => ?_)
    · skip
      have hv := of_decide_eq_true h2
      obtain ⟨id, N4, hrun, hw4, hsk4, hid, hps⟩ := sl_run hw3 hsk3
      have hps := hps rfl
      have hin4 := sl_in hw4 hsk4
      rcases hid with rfl | ⟨rfl, _⟩
      · skip
        refine skipR (by kernel_rfl) ?_
        refine seqR (by kernel_rfl) ?_
        refine blockR 3 (by kernel_rfl) (by kernel_rfl) ?_
        refine seqR (by kernel_rfl) ?_
        refine regionR 7 (by kernel_rfl) (by kernel_rfl) ?_
        refine (run0 (z := 6) 1 [3, 8, 9, 10, 11, 15, 16, 73] [(3, .int .u8 n), (8, .bool false), (9, .int .i64 x), (10, .int .i64 y), (11, .pointer (some ⟨t, 0, none⟩)), (15, .pointer (some ⟨b1, 0, none⟩)), (16, .int .i64 (v : Int)), (73, .pointer (some ⟨t, 0, none⟩))] (fun _ => by kernel_rfl) ?_ : RT _ _ _ _ _ _ 7 _)
        refine (stepR (z := 5) (callS 13 [.pointer (some ⟨t, 0, none⟩)] (some 74) (fun (Te : { T' : List Nd // OkT N4 T' ∧ WFN N4 }) => .tuple #[.int .i64 1, .bool true]) (fun (Te : { T' : List Nd // OkT N4 T' ∧ WFN N4 }) => blk b1 31 [.int .i64 0, .int .i64 p, .int .i64 q] :: blk t 64 [.map (some mb)] :: mapS mb (Te.1.map kp) :: (nodesL Te.1 ++ H)) (fun _ => by kernel_rfl) (frameT (fun H w => run_ok hT3 hw3 hrun hw4 H t mb w))) (fun (Te : { T' : List Nd // OkT N4 T' ∧ WFN N4 }) => ?_) : RT _ _ _ _ _ _ 6 _)
        refine (run0 (z := 0) 5 [3, 8, 9, 10, 11, 15, 16, 17, 18] [(3, .int .u8 n), (8, .bool false), (9, .int .i64 x), (10, .int .i64 y), (11, .pointer (some ⟨t, 0, none⟩)), (15, .pointer (some ⟨b1, 0, none⟩)), (16, .int .i64 (v : Int)), (17, .int .i64 1), (18, .bool true)] (fun _ => by kernel_rfl) (endR ?_) : RT _ _ _ _ _ _ 5 _)
        refine seqR (by kernel_rfl) ?_
        refine seqR (by kernel_rfl) ?_
        refine regionR 10 (by kernel_rfl) (by kernel_rfl) ?_
        refine (run0 (z := 0) 10 [3, 8, 9, 10, 11, 15, 16, 17, 86] [(3, .int .u8 n), (8, .bool false), (9, .int .i64 x), (10, .int .i64 y), (11, .pointer (some ⟨t, 0, none⟩)), (15, .pointer (some ⟨b1, 0, none⟩)), (16, .int .i64 (v : Int)), (17, .int .i64 1), (86, .bool false)] (fun _ => by kernel_rfl) (endR ?_) : RT _ _ _ _ _ _ 10 _)
        refine condR (b := false) (by kernel_rfl) (fun _ => by kernel_rfl) (fun h => by cases h) (fun _ => ?_)
        refine skipR (by kernel_rfl) ?_
        refine seqR (by kernel_rfl) ?_
        refine regionR 6 (by kernel_rfl) (by kernel_rfl) ?_
        refine (run0 (z := 5) 1 [3, 8, 9, 10, 11, 15, 16, 87] [(3, .int .u8 n), (8, .bool false), (9, .int .i64 x), (10, .int .i64 y), (11, .pointer (some ⟨t, 0, none⟩)), (15, .pointer (some ⟨b1, 0, none⟩)), (16, .int .i64 (v : Int)), (87, .int .i64 1)] (fun _ => by kernel_rfl) ?_ : RT _ _ _ _ _ _ 6 _)
        refine (stepR (z := 4) (yldS (aidxY 31 (.tmp 15) (.tmp 87) b1 0 3 1 1 3 1 .i64 (some 88) (fun _ => by kernel_rfl) (by kernel_rfl) (by kernel_rfl) (fun _ => by kernel_rfl) (fun _ => by kernel_rfl) Try.underlying31 (by kernel_rfl) (by first | rfl | assumption | simp | omega) (by first | omega | decide | (simp; done) | (simp; omega) | (simp at *; omega)))) (fun _ => ?_) : RT _ _ _ _ _ _ 5 _)
        refine (runR (H := (blk b1 31 [.int .i64 0, .int .i64 p, .int .i64 q] :: blk t 64 [.map (some mb)] :: mapS mb (Te.1.map kp) :: (nodesL Te.1 ++ H))) (z := 2) 2 [3, 8, 9, 10, 11, 15, 16, 87, 90] [(3, .int .u8 n), (8, .bool false), (9, .int .i64 x), (10, .int .i64 y), (11, .pointer (some ⟨t, 0, none⟩)), (15, .pointer (some ⟨b1, 0, none⟩)), (16, .int .i64 (v : Int)), (87, .int .i64 1), (90, .int .i64 (IntKind.i64.wrap (p + 1)))] [(⟨b1, 1, none⟩, .int .i64 p)] (hasC (blkAt (T := 31) (cs := [.int .i64 0, .int .i64 p, .int .i64 q]) 0 rfl rfl) has0) (fun _ => by kernel_rfl) ?_ : RT _ _ _ _ _ _ 4 _)
        refine (stepR (z := 1) (yldS (aidxY 31 (.tmp 15) (.tmp 87) b1 0 3 1 1 3 1 .i64 (some 91) (fun _ => by kernel_rfl) (by kernel_rfl) (by kernel_rfl) (fun _ => by kernel_rfl) (fun _ => by kernel_rfl) Try.underlying31 (by kernel_rfl) (by first | rfl | assumption | simp | omega) (by first | omega | decide | (simp; done) | (simp; omega) | (simp at *; omega)))) (fun _ => ?_) : RT _ _ _ _ _ _ 2 _)
        refine (stepR (z := 0) (storeS [(1, .int .i64 (IntKind.i64.wrap (p + 1)))] [.int .i64 0, .int .i64 (IntKind.i64.wrap (p + 1)), .int .i64 q] (fun _ => by kernel_rfl) (by kernel_rfl) (by kernel_rfl)) (fun _ => ?_) : RT _ _ _ _ _ _ 1 _)
        refine endR ?_
        refine seqR (by kernel_rfl) ?_
        refine regionR 8 (by kernel_rfl) (by kernel_rfl) ?_
        refine (stepR (z := 7) (yldS (aidxY 31 (.tmp 15) (.const (.int .i64 1)) b1 0 3 1 1 3 1 .i64 (some 92) (fun _ => by kernel_rfl) (by kernel_rfl) (by kernel_rfl) (fun _ => by kernel_rfl) (fun _ => by kernel_rfl) Try.underlying31 (by kernel_rfl) (by first | rfl | assumption | simp | omega) (by first | omega | decide | (simp; done) | (simp; omega) | (simp at *; omega)))) (fun _ => ?_) : RT _ _ _ _ _ _ 8 _)
        refine (runR (H := (blk b1 31 [.int .i64 0, .int .i64 (IntKind.i64.wrap (p + 1)), .int .i64 q] :: blk t 64 [.map (some mb)] :: mapS mb (Te.1.map kp) :: (nodesL Te.1 ++ H))) (z := 5) 2 [3, 8, 9, 10, 11, 15, 16, 93, 94] [(3, .int .u8 n), (8, .bool false), (9, .int .i64 x), (10, .int .i64 y), (11, .pointer (some ⟨t, 0, none⟩)), (15, .pointer (some ⟨b1, 0, none⟩)), (16, .int .i64 (v : Int)), (93, .int .i64 (IntKind.i64.wrap (p + 1))), (94, .int .i64 x)] [(⟨b1, 1, none⟩, .int .i64 (IntKind.i64.wrap (p + 1)))] (hasC (blkAt (T := 31) (cs := [.int .i64 0, .int .i64 (IntKind.i64.wrap (p + 1)), .int .i64 q]) 0 rfl rfl) has0) (fun _ => by kernel_rfl) ?_ : RT _ _ _ _ _ _ 7 _)
        refine (stepR (z := 4) (yldS (aidxY 31 (.tmp 15) (.const (.int .i64 2)) b1 0 3 2 1 3 2 .i64 (some 95) (fun _ => by kernel_rfl) (by kernel_rfl) (by kernel_rfl) (fun _ => by kernel_rfl) (fun _ => by kernel_rfl) Try.underlying31 (by kernel_rfl) (by first | rfl | assumption | simp | omega) (by first | omega | decide | (simp; done) | (simp; omega) | (simp at *; omega)))) (fun _ => ?_) : RT _ _ _ _ _ _ 5 _)
        refine (runR (H := (blk b1 31 [.int .i64 0, .int .i64 (IntKind.i64.wrap (p + 1)), .int .i64 q] :: blk t 64 [.map (some mb)] :: mapS mb (Te.1.map kp) :: (nodesL Te.1 ++ H))) (z := 2) 2 [3, 8, 9, 10, 11, 15, 16, 93, 94, 96, 97] [(3, .int .u8 n), (8, .bool false), (9, .int .i64 x), (10, .int .i64 y), (11, .pointer (some ⟨t, 0, none⟩)), (15, .pointer (some ⟨b1, 0, none⟩)), (16, .int .i64 (v : Int)), (93, .int .i64 (IntKind.i64.wrap (p + 1))), (94, .int .i64 x), (96, .int .i64 q), (97, .int .i64 y)] [(⟨b1, 2, none⟩, .int .i64 q)] (hasC (blkAt (T := 31) (cs := [.int .i64 0, .int .i64 (IntKind.i64.wrap (p + 1)), .int .i64 q]) 0 rfl rfl) has0) (fun _ => by kernel_rfl) ?_ : RT _ _ _ _ _ _ 4 _)
        rw [show IntKind.i64.wrap (p + 1) = (p + 1) by rw [w64 (by omega) (by omega)]]
        have hdf4 : ps N4 1 - ps N4 2 = D + ((p + 1) * strd x - q * strd y) := by rw [hps, hdf, Int.add_mul]; simp; omega
        refine (stepR (z := 1) (callS 14 [.int .i64 (p + 1), .int .i64 x, .int .i64 q, .int .i64 y] (some 98) (fun _ => .bool true) (fun _ => (blk b1 31 [.int .i64 0, .int .i64 (p + 1), .int .i64 q] :: blk t 64 [.map (some mb)] :: mapS mb (Te.1.map kp) :: (nodesL Te.1 ++ H))) (fun _ => by kernel_rfl) (fair_ok (fair_by hdf4 (by omega) (by omega)) (by omega) (by omega) hx hy)) (fun _ => ?_) : RT _ _ _ _ _ _ 2 _)
        refine (run0 (z := 0) 1 [3, 8, 9, 10, 11, 15, 16, 99] [(3, .int .u8 n), (8, .bool false), (9, .int .i64 x), (10, .int .i64 y), (11, .pointer (some ⟨t, 0, none⟩)), (15, .pointer (some ⟨b1, 0, none⟩)), (16, .int .i64 (v : Int)), (99, .bool false)] (fun _ => by kernel_rfl) (endR ?_) : RT _ _ _ _ _ _ 1 _)
        refine condR (b := false) (by kernel_rfl) (fun _ => by kernel_rfl) (fun h => by cases h) (fun _ => ?_)
        refine skipR (by kernel_rfl) ?_
        refine regionR 3 (by kernel_rfl) (by kernel_rfl) ?_
        refine (run0 (z := 0) 3 [3, 8, 9, 10, 11, 15, 16] [(3, .int .u8 n), (8, .bool false), (9, .int .i64 x), (10, .int .i64 y), (11, .pointer (some ⟨t, 0, none⟩)), (15, .pointer (some ⟨b1, 0, none⟩)), (16, .int .i64 (IntKind.i64.wrap ((v : Int) + 1)))] (fun _ => by kernel_rfl) (endR ?_) : RT _ _ _ _ _ _ 3 _)
        rw [show IntKind.i64.wrap ((v : Int) + 1) = ((v + 1 : Nat) : Int) by rw [w64 (by omega) (by omega)]; rfl]
        refine PT.keep (L' := [(3, .int .u8 n), (8, .bool false), (9, .int .i64 x), (10, .int .i64 y), (11, .pointer (some ⟨t, 0, none⟩)), (15, .pointer (some ⟨b1, 0, none⟩)), (16, .int .i64 ((v + 1 : Nat) : Int))]) [3, 8, 9, 10, 11, 15, 16] rfl ?_
        exact againG (k2 - 1) ((N4, v + 1, (p + 1), q), Te.1) rfl rfl (by omega) ⟨by simp only; omega, Te.2.1, Te.2.2, hsk4, hdf4, by simp only; omega, by simp only; omega, by simp only; omega⟩
      · skip
        refine skipR (by kernel_rfl) ?_
        refine seqR (by kernel_rfl) ?_
        refine blockR 3 (by kernel_rfl) (by kernel_rfl) ?_
        refine seqR (by kernel_rfl) ?_
        refine regionR 7 (by kernel_rfl) (by kernel_rfl) ?_
        refine (run0 (z := 6) 1 [3, 8, 9, 10, 11, 15, 16, 73] [(3, .int .u8 n), (8, .bool false), (9, .int .i64 x), (10, .int .i64 y), (11, .pointer (some ⟨t, 0, none⟩)), (15, .pointer (some ⟨b1, 0, none⟩)), (16, .int .i64 (v : Int)), (73, .pointer (some ⟨t, 0, none⟩))] (fun _ => by kernel_rfl) ?_ : RT _ _ _ _ _ _ 7 _)
        refine (stepR (z := 5) (callS 13 [.pointer (some ⟨t, 0, none⟩)] (some 74) (fun (Te : { T' : List Nd // OkT N4 T' ∧ WFN N4 }) => .tuple #[.int .i64 2, .bool true]) (fun (Te : { T' : List Nd // OkT N4 T' ∧ WFN N4 }) => blk b1 31 [.int .i64 0, .int .i64 p, .int .i64 q] :: blk t 64 [.map (some mb)] :: mapS mb (Te.1.map kp) :: (nodesL Te.1 ++ H)) (fun _ => by kernel_rfl) (frameT (fun H w => run_ok hT3 hw3 hrun hw4 H t mb w))) (fun (Te : { T' : List Nd // OkT N4 T' ∧ WFN N4 }) => ?_) : RT _ _ _ _ _ _ 6 _)
        refine (run0 (z := 0) 5 [3, 8, 9, 10, 11, 15, 16, 17, 18] [(3, .int .u8 n), (8, .bool false), (9, .int .i64 x), (10, .int .i64 y), (11, .pointer (some ⟨t, 0, none⟩)), (15, .pointer (some ⟨b1, 0, none⟩)), (16, .int .i64 (v : Int)), (17, .int .i64 2), (18, .bool true)] (fun _ => by kernel_rfl) (endR ?_) : RT _ _ _ _ _ _ 5 _)
        refine seqR (by kernel_rfl) ?_
        refine seqR (by kernel_rfl) ?_
        refine regionR 10 (by kernel_rfl) (by kernel_rfl) ?_
        refine (run0 (z := 0) 10 [3, 8, 9, 10, 11, 15, 16, 17, 86] [(3, .int .u8 n), (8, .bool false), (9, .int .i64 x), (10, .int .i64 y), (11, .pointer (some ⟨t, 0, none⟩)), (15, .pointer (some ⟨b1, 0, none⟩)), (16, .int .i64 (v : Int)), (17, .int .i64 2), (86, .bool false)] (fun _ => by kernel_rfl) (endR ?_) : RT _ _ _ _ _ _ 10 _)
        refine condR (b := false) (by kernel_rfl) (fun _ => by kernel_rfl) (fun h => by cases h) (fun _ => ?_)
        refine skipR (by kernel_rfl) ?_
        refine seqR (by kernel_rfl) ?_
        refine regionR 6 (by kernel_rfl) (by kernel_rfl) ?_
        refine (run0 (z := 5) 1 [3, 8, 9, 10, 11, 15, 16, 87] [(3, .int .u8 n), (8, .bool false), (9, .int .i64 x), (10, .int .i64 y), (11, .pointer (some ⟨t, 0, none⟩)), (15, .pointer (some ⟨b1, 0, none⟩)), (16, .int .i64 (v : Int)), (87, .int .i64 2)] (fun _ => by kernel_rfl) ?_ : RT _ _ _ _ _ _ 6 _)
        refine (stepR (z := 4) (yldS (aidxY 31 (.tmp 15) (.tmp 87) b1 0 3 2 1 3 2 .i64 (some 88) (fun _ => by kernel_rfl) (by kernel_rfl) (by kernel_rfl) (fun _ => by kernel_rfl) (fun _ => by kernel_rfl) Try.underlying31 (by kernel_rfl) (by first | rfl | assumption | simp | omega) (by first | omega | decide | (simp; done) | (simp; omega) | (simp at *; omega)))) (fun _ => ?_) : RT _ _ _ _ _ _ 5 _)
        refine (runR (H := (blk b1 31 [.int .i64 0, .int .i64 p, .int .i64 q] :: blk t 64 [.map (some mb)] :: mapS mb (Te.1.map kp) :: (nodesL Te.1 ++ H))) (z := 2) 2 [3, 8, 9, 10, 11, 15, 16, 87, 90] [(3, .int .u8 n), (8, .bool false), (9, .int .i64 x), (10, .int .i64 y), (11, .pointer (some ⟨t, 0, none⟩)), (15, .pointer (some ⟨b1, 0, none⟩)), (16, .int .i64 (v : Int)), (87, .int .i64 2), (90, .int .i64 (IntKind.i64.wrap (q + 1)))] [(⟨b1, 2, none⟩, .int .i64 q)] (hasC (blkAt (T := 31) (cs := [.int .i64 0, .int .i64 p, .int .i64 q]) 0 rfl rfl) has0) (fun _ => by kernel_rfl) ?_ : RT _ _ _ _ _ _ 4 _)
        refine (stepR (z := 1) (yldS (aidxY 31 (.tmp 15) (.tmp 87) b1 0 3 2 1 3 2 .i64 (some 91) (fun _ => by kernel_rfl) (by kernel_rfl) (by kernel_rfl) (fun _ => by kernel_rfl) (fun _ => by kernel_rfl) Try.underlying31 (by kernel_rfl) (by first | rfl | assumption | simp | omega) (by first | omega | decide | (simp; done) | (simp; omega) | (simp at *; omega)))) (fun _ => ?_) : RT _ _ _ _ _ _ 2 _)
        refine (stepR (z := 0) (storeS [(2, .int .i64 (IntKind.i64.wrap (q + 1)))] [.int .i64 0, .int .i64 p, .int .i64 (IntKind.i64.wrap (q + 1))] (fun _ => by kernel_rfl) (by kernel_rfl) (by kernel_rfl)) (fun _ => ?_) : RT _ _ _ _ _ _ 1 _)
        refine endR ?_
        refine seqR (by kernel_rfl) ?_
        refine regionR 8 (by kernel_rfl) (by kernel_rfl) ?_
        refine (stepR (z := 7) (yldS (aidxY 31 (.tmp 15) (.const (.int .i64 1)) b1 0 3 1 1 3 1 .i64 (some 92) (fun _ => by kernel_rfl) (by kernel_rfl) (by kernel_rfl) (fun _ => by kernel_rfl) (fun _ => by kernel_rfl) Try.underlying31 (by kernel_rfl) (by first | rfl | assumption | simp | omega) (by first | omega | decide | (simp; done) | (simp; omega) | (simp at *; omega)))) (fun _ => ?_) : RT _ _ _ _ _ _ 8 _)
        refine (runR (H := (blk b1 31 [.int .i64 0, .int .i64 p, .int .i64 (IntKind.i64.wrap (q + 1))] :: blk t 64 [.map (some mb)] :: mapS mb (Te.1.map kp) :: (nodesL Te.1 ++ H))) (z := 5) 2 [3, 8, 9, 10, 11, 15, 16, 93, 94] [(3, .int .u8 n), (8, .bool false), (9, .int .i64 x), (10, .int .i64 y), (11, .pointer (some ⟨t, 0, none⟩)), (15, .pointer (some ⟨b1, 0, none⟩)), (16, .int .i64 (v : Int)), (93, .int .i64 p), (94, .int .i64 x)] [(⟨b1, 1, none⟩, .int .i64 p)] (hasC (blkAt (T := 31) (cs := [.int .i64 0, .int .i64 p, .int .i64 (IntKind.i64.wrap (q + 1))]) 0 rfl rfl) has0) (fun _ => by kernel_rfl) ?_ : RT _ _ _ _ _ _ 7 _)
        refine (stepR (z := 4) (yldS (aidxY 31 (.tmp 15) (.const (.int .i64 2)) b1 0 3 2 1 3 2 .i64 (some 95) (fun _ => by kernel_rfl) (by kernel_rfl) (by kernel_rfl) (fun _ => by kernel_rfl) (fun _ => by kernel_rfl) Try.underlying31 (by kernel_rfl) (by first | rfl | assumption | simp | omega) (by first | omega | decide | (simp; done) | (simp; omega) | (simp at *; omega)))) (fun _ => ?_) : RT _ _ _ _ _ _ 5 _)
        refine (runR (H := (blk b1 31 [.int .i64 0, .int .i64 p, .int .i64 (IntKind.i64.wrap (q + 1))] :: blk t 64 [.map (some mb)] :: mapS mb (Te.1.map kp) :: (nodesL Te.1 ++ H))) (z := 2) 2 [3, 8, 9, 10, 11, 15, 16, 93, 94, 96, 97] [(3, .int .u8 n), (8, .bool false), (9, .int .i64 x), (10, .int .i64 y), (11, .pointer (some ⟨t, 0, none⟩)), (15, .pointer (some ⟨b1, 0, none⟩)), (16, .int .i64 (v : Int)), (93, .int .i64 p), (94, .int .i64 x), (96, .int .i64 (IntKind.i64.wrap (q + 1))), (97, .int .i64 y)] [(⟨b1, 2, none⟩, .int .i64 (IntKind.i64.wrap (q + 1)))] (hasC (blkAt (T := 31) (cs := [.int .i64 0, .int .i64 p, .int .i64 (IntKind.i64.wrap (q + 1))]) 0 rfl rfl) has0) (fun _ => by kernel_rfl) ?_ : RT _ _ _ _ _ _ 4 _)
        rw [show IntKind.i64.wrap (q + 1) = (q + 1) by rw [w64 (by omega) (by omega)]]
        have hdf4 : ps N4 1 - ps N4 2 = D + (p * strd x - (q + 1) * strd y) := by rw [hps, hdf, Int.add_mul]; simp; omega
        refine (stepR (z := 1) (callS 14 [.int .i64 p, .int .i64 x, .int .i64 (q + 1), .int .i64 y] (some 98) (fun _ => .bool true) (fun _ => (blk b1 31 [.int .i64 0, .int .i64 p, .int .i64 (q + 1)] :: blk t 64 [.map (some mb)] :: mapS mb (Te.1.map kp) :: (nodesL Te.1 ++ H))) (fun _ => by kernel_rfl) (fair_ok (fair_by hdf4 (by omega) (by omega)) (by omega) (by omega) hx hy)) (fun _ => ?_) : RT _ _ _ _ _ _ 2 _)
        refine (run0 (z := 0) 1 [3, 8, 9, 10, 11, 15, 16, 99] [(3, .int .u8 n), (8, .bool false), (9, .int .i64 x), (10, .int .i64 y), (11, .pointer (some ⟨t, 0, none⟩)), (15, .pointer (some ⟨b1, 0, none⟩)), (16, .int .i64 (v : Int)), (99, .bool false)] (fun _ => by kernel_rfl) (endR ?_) : RT _ _ _ _ _ _ 1 _)
        refine condR (b := false) (by kernel_rfl) (fun _ => by kernel_rfl) (fun h => by cases h) (fun _ => ?_)
        refine skipR (by kernel_rfl) ?_
        refine regionR 3 (by kernel_rfl) (by kernel_rfl) ?_
        refine (run0 (z := 0) 3 [3, 8, 9, 10, 11, 15, 16] [(3, .int .u8 n), (8, .bool false), (9, .int .i64 x), (10, .int .i64 y), (11, .pointer (some ⟨t, 0, none⟩)), (15, .pointer (some ⟨b1, 0, none⟩)), (16, .int .i64 (IntKind.i64.wrap ((v : Int) + 1)))] (fun _ => by kernel_rfl) (endR ?_) : RT _ _ _ _ _ _ 3 _)
        rw [show IntKind.i64.wrap ((v : Int) + 1) = ((v + 1 : Nat) : Int) by rw [w64 (by omega) (by omega)]; rfl]
        refine PT.keep (L' := [(3, .int .u8 n), (8, .bool false), (9, .int .i64 x), (10, .int .i64 y), (11, .pointer (some ⟨t, 0, none⟩)), (15, .pointer (some ⟨b1, 0, none⟩)), (16, .int .i64 ((v + 1 : Nat) : Int))]) [3, 8, 9, 10, 11, 15, 16] rfl ?_
        exact againG (k2 - 1) ((N4, v + 1, p, (q + 1)), Te.1) rfl rfl (by omega) ⟨by simp only; omega, Te.2.1, Te.2.2, hsk4, hdf4, by simp only; omega, by simp only; omega, by simp only; omega⟩
    · skip
      refine exitR 2 (by kernel_rfl) (by kernel_rfl) ?_
      refine thenX ?_
      refine thenX ?_
      refine leaveR ?_
      refine seqR (by kernel_rfl) ?_
      refine regionR 1 (by kernel_rfl) (by kernel_rfl) ?_
      refine (run0 (z := 0) 1 [8] [(8, .bool true)] (fun _ => by kernel_rfl) (endR ?_) : RT _ _ _ _ _ _ 1 _)
      refine retR (by kernel_rfl) ?_
      refine done0 (.bool true) (fun _ => by kernel_rfl) (fun w hs => ?_) .ret (.inr rfl)
      exact ⟨(), rfl, Sat.behind hs.tail.tail.tail⟩
theorem sleeps_row (W : World) (a b sl n : Int) (ha : (Lit.int .u8 a).wf = true) (hb : (Lit.int .u8 b).wf = true) (hsl : (Lit.int .u16 sl).wf = true) (hn : (Lit.int .u8 n).wf = true) : Calls Try.prog 6 #[.int .u8 a, .int .u8 b, .int .u16 sl, .int .u8 n] W (LawPost W) :=
  lawPost (fun _ _ h => h) (sleeps_walk [old W] a b sl n (u8_wf ha) (u8_wf hb) (u16_wf hsl) (u8_wf hn) W (Sat.start W))
end Go.Proofs.Ytjbjngikaiggdaa
