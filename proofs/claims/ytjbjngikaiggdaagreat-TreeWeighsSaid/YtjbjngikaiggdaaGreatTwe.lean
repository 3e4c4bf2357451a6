/- TreeWeighs: its walk. Conditions: none. -/
import Derived.Test.YtjbjngikaiggdaaGreatTsl
import Derived.Test.YtjbjngikaiggdaaGreatTss
set_option linter.unusedVariables false
set_option linter.unusedSimpArgs false
namespace Go.Proofs.YtjbjngikaiggdaaGreat
open Go.RowKit G
theorem sl_weight {N : List Nr} {x y z : Int} (hw : WFN N) (h : N.map skr = slS x y true) (hz : isW z = true) : ∃ N', weightN N 1 z = (0, N') ∧ N'.map skr = slS z y true := by
  obtain ⟨r, hr, r0, _⟩ := skr_get h (i := 0) (p := -1) (w := 1) (t := false) (r := true) (by simp [slS])
  obtain ⟨v, hv, v1, v2, _⟩ := skr_get h (i := 1) (p := 0) (w := x) (t := true) (r := true) (by simp [slS])
  have g1 : gt N 1 = some v := v1 ▸ gt_of hw.sk.nd hv
  have g0 : gt N v.par = some r := by rw [v2]; exact r0 ▸ gt_of hw.sk.nd hr
  refine ⟨_, by rw [weightN, if_neg (by rw [hz]; simp), g1]; simp only; rw [if_neg (by decide), g0], ?_⟩
  have e : (upN N 1 (fun q => { q with pass := scaleN q.pass r.now q.wt z, wt := z })).map skr = (N.map skr).map (fun s => if s.1 == 1 then (s.1, s.2.1, z, s.2.2.2.1, s.2.2.2.2) else s) := by
    rw [upN, List.map_map, List.map_map]
    refine List.map_congr_left fun q _ => ?_
    simp only [Function.comp, skr]
    split <;> simp_all [skr]
  rw [e, h]; rfl
def slN4 (x y : Int) : List Nr := [⟨0, -1, 1, 0, false, true, 0⟩, ⟨1, 0, x, 0, true, true, 0⟩, ⟨2, 0, y, 0, true, true, 0⟩]
set_option maxHeartbeats 1000000 in
set_option maxRecDepth 100000 in
theorem weighs_walk (H : List SP) (a b c n m : Int) (ha : 0 ≤ a ∧ a < 256) (hb : 0 ≤ b ∧ b < 256) (hc : 0 ≤ c ∧ c < 256) (hn : 0 ≤ n ∧ n < 256) (hm : 0 ≤ m ∧ m < 256) : ∀ w, Sat w H → Calls Tryz.prog 4 #[.int .u8 a, .int .u8 b, .int .u8 c, .int .u8 n, .int .u8 m] w (Ret (ι := Unit) (fun _ => .bool true) fun _ => H) := by
  have hx := wOf_isW ha.1
  have hy := wOf_isW hb.1
  have hz := wOf_isW hc.1
  obtain ⟨x, hxe⟩ : ∃ x, wOf a = x := ⟨_, rfl⟩
  obtain ⟨y, hye⟩ : ∃ y, wOf b = y := ⟨_, rfl⟩
  obtain ⟨z, hze⟩ : ∃ z, wOf c = z := ⟨_, rfl⟩
  rw [hxe] at hx
  rw [hye] at hy
  rw [hze] at hz
  have hA1 : addN [rootN] 0 1 x true = (0, [rootN, ⟨1, 0, x, 0, true, false, 0⟩]) := addN_is (p := rootN) hx (by omega) rfl rfl rfl (.inl rfl) (by decide)
  have hA2 : addN [rootN, ⟨1, 0, x, 0, true, false, 0⟩] 0 2 y true = (0, slN2 x y) := addN_is (p := rootN) hy (by omega) rfl rfl rfl (.inl rfl) (by simp)
  have hR1 : readyN (slN2 x y) 1 true = (0, slN3 x y) := by kernel_rfl
  have hR2 : readyN (slN3 x y) 2 true = (0, slN4 x y) := by kernel_rfl
  have w1 := add_wf root_wf 0 1 x true
  rw [hA1] at w1
  have w2 := add_wf w1 0 2 y true
  rw [hA2] at w2
  have w3 := ready_wf w2 1 true
  rw [hR1] at w3
  have w4 := ready_wf w3 2 true
  rw [hR2] at w4
  refine enterG (fn := Tryz.f4) 101 [.int .u8 a, .int .u8 b, .int .u8 c, .int .u8 n, .int .u8 m] Tryz.func4 (by kernel_rfl) (by kernel_rfl) (by kernel_rfl) ?_
  refine seqR (by kernel_rfl) ?_
  refine regionR 1 (by kernel_rfl) (by kernel_rfl) ?_
  refine (run0 (z := 0) 1 [0, 1, 2, 3, 4, 10] [(0, .int .u8 a), (1, .int .u8 b), (2, .int .u8 c), (3, .int .u8 n), (4, .int .u8 m), (10, .bool false)] (fun _ => by kernel_rfl) (endR ?_) : RT _ _ _ _ _ _ 1 _)
  refine seqR (by kernel_rfl) ?_
  refine seqR (by kernel_rfl) ?_
  refine regionR 2 (by kernel_rfl) (by kernel_rfl) ?_
  refine (stepR (z := 1) (callS 5 [] (some 20) (fun _ => .bool true) (fun (_ : Unit) => (H)) (fun _ => by kernel_rfl) (known_true _)) (fun _ => ?_) : RT _ _ _ _ _ _ 2 _)
  refine (run0 (z := 0) 1 [0, 1, 2, 3, 4, 10, 21] [(0, .int .u8 a), (1, .int .u8 b), (2, .int .u8 c), (3, .int .u8 n), (4, .int .u8 m), (10, .bool false), (21, .bool false)] (fun _ => by kernel_rfl) (endR ?_) : RT _ _ _ _ _ _ 1 _)
  refine condR (b := false) (by kernel_rfl) (fun _ => by kernel_rfl) (fun h => by cases h) (fun _ => ?_)
  refine skipR (by kernel_rfl) ?_
  refine seqR (by kernel_rfl) ?_
  refine regionR 15 (by kernel_rfl) (by kernel_rfl) ?_
  refine (run0 (z := 0) 15 [3, 4, 10, 11, 12, 13] [(3, .int .u8 n), (4, .int .u8 m), (10, .bool false), (11, .int .i64 (IntKind.i64.wrap ((IntKind.i64.wrap (Int.tmod a 16)) + 1))), (12, .int .i64 (IntKind.i64.wrap ((IntKind.i64.wrap (Int.tmod b 16)) + 1))), (13, .int .i64 (IntKind.i64.wrap ((IntKind.i64.wrap (Int.tmod c 16)) + 1)))] (fun _ => by kernel_rfl) (endR ?_) : RT _ _ _ _ _ _ 15 _)
  refine seqR (by kernel_rfl) ?_
  refine regionR 2 (by kernel_rfl) (by kernel_rfl) ?_
  rw [show IntKind.i64.wrap ((IntKind.i64.wrap (Int.tmod a 16)) + 1) = x by rw [wOf_wrap ha.1, hxe]]
  rw [show IntKind.i64.wrap ((IntKind.i64.wrap (Int.tmod b 16)) + 1) = y by rw [wOf_wrap hb.1, hye]]
  rw [show IntKind.i64.wrap ((IntKind.i64.wrap (Int.tmod c 16)) + 1) = z by rw [wOf_wrap hc.1, hze]]
  refine (stepR (z := 1) (callS 6 [] (some 34) (fun (t : Nat) => .pointer (some ⟨t, 0, none⟩)) (fun (t : Nat) => (treeS t [rootN] :: H)) (fun _ => by kernel_rfl) (trNew _)) (fun (t : Nat) => ?_) : RT _ _ _ _ _ _ 2 _)
  refine (run0 (z := 0) 1 [3, 4, 10, 11, 12, 13, 14] [(3, .int .u8 n), (4, .int .u8 m), (10, .bool false), (11, .int .i64 x), (12, .int .i64 y), (13, .int .i64 z), (14, .pointer (some ⟨t, 0, none⟩))] (fun _ => by kernel_rfl) (endR ?_) : RT _ _ _ _ _ _ 1 _)
  refine seqR (by kernel_rfl) ?_
  refine seqR (by kernel_rfl) ?_
  refine regionR 20 (by kernel_rfl) (by kernel_rfl) ?_
  refine (run0 (z := 18) 2 [3, 4, 10, 12, 13, 14, 35, 36] [(3, .int .u8 n), (4, .int .u8 m), (10, .bool false), (12, .int .i64 y), (13, .int .i64 z), (14, .pointer (some ⟨t, 0, none⟩)), (35, .pointer (some ⟨t, 0, none⟩)), (36, .int .i64 x)] (fun _ => by kernel_rfl) ?_ : RT _ _ _ _ _ _ 20 _)
  refine (stepR (z := 17) (callS 7 [.pointer (some ⟨t, 0, none⟩), .int .i64 0, .int .i64 1, .int .i64 x, .bool true] (some 37) (fun _ => .nilIface) (fun _ => (treeS t [rootN, ⟨1, 0, x, 0, true, false, 0⟩] :: H)) (fun _ => by kernel_rfl) (trAdd_ok _ t hA1)) (fun _ => ?_) : RT _ _ _ _ _ _ 18 _)
  refine (run0 (z := 13) 4 [3, 4, 10, 12, 13, 14, 39, 40, 41] [(3, .int .u8 n), (4, .int .u8 m), (10, .bool false), (12, .int .i64 y), (13, .int .i64 z), (14, .pointer (some ⟨t, 0, none⟩)), (39, .bool false), (40, .pointer (some ⟨t, 0, none⟩)), (41, .int .i64 y)] (fun _ => by kernel_rfl) ?_ : RT _ _ _ _ _ _ 17 _)
  refine (stepR (z := 12) (callS 7 [.pointer (some ⟨t, 0, none⟩), .int .i64 0, .int .i64 2, .int .i64 y, .bool true] (some 42) (fun _ => .nilIface) (fun _ => (treeS t (slN2 x y) :: H)) (fun _ => by kernel_rfl) (trAdd_ok _ t hA2)) (fun _ => ?_) : RT _ _ _ _ _ _ 13 _)
  refine (run0 (z := 8) 4 [3, 4, 10, 12, 13, 14, 45, 46] [(3, .int .u8 n), (4, .int .u8 m), (10, .bool false), (12, .int .i64 y), (13, .int .i64 z), (14, .pointer (some ⟨t, 0, none⟩)), (45, .bool false), (46, .pointer (some ⟨t, 0, none⟩))] (fun _ => by kernel_rfl) ?_ : RT _ _ _ _ _ _ 12 _)
  refine (stepR (z := 7) (callS 8 [.pointer (some ⟨t, 0, none⟩), .int .i64 1, .bool true] (some 47) (fun _ => .nilIface) (fun _ => (treeS t (slN3 x y) :: H)) (fun _ => by kernel_rfl) (trReady_ok _ t hR1)) (fun _ => ?_) : RT _ _ _ _ _ _ 8 _)
  refine (run0 (z := 3) 4 [3, 4, 10, 12, 13, 14, 50, 51] [(3, .int .u8 n), (4, .int .u8 m), (10, .bool false), (12, .int .i64 y), (13, .int .i64 z), (14, .pointer (some ⟨t, 0, none⟩)), (50, .bool false), (51, .pointer (some ⟨t, 0, none⟩))] (fun _ => by kernel_rfl) ?_ : RT _ _ _ _ _ _ 7 _)
  refine (stepR (z := 2) (callS 8 [.pointer (some ⟨t, 0, none⟩), .int .i64 2, .bool true] (some 52) (fun _ => .nilIface) (fun _ => (treeS t (slN4 x y) :: H)) (fun _ => by kernel_rfl) (trReady_ok _ t hR2)) (fun _ => ?_) : RT _ _ _ _ _ _ 3 _)
  refine (run0 (z := 0) 2 [3, 4, 10, 12, 13, 14, 54] [(3, .int .u8 n), (4, .int .u8 m), (10, .bool false), (12, .int .i64 y), (13, .int .i64 z), (14, .pointer (some ⟨t, 0, none⟩)), (54, .bool false)] (fun _ => by kernel_rfl) (endR ?_) : RT _ _ _ _ _ _ 2 _)
  refine condR (b := false) (by kernel_rfl) (fun _ => by kernel_rfl) (fun h => by cases h) (fun _ => ?_)
  refine skipR (by kernel_rfl) ?_
  refine seqR (by kernel_rfl) ?_
  refine seqR (by kernel_rfl) ?_
  refine regionR 1 (by kernel_rfl) (by kernel_rfl) ?_
  refine (run0 (z := 0) 1 [3, 4, 10, 12, 13, 14, 15] [(3, .int .u8 n), (4, .int .u8 m), (10, .bool false), (12, .int .i64 y), (13, .int .i64 z), (14, .pointer (some ⟨t, 0, none⟩)), (15, .int .i64 0)] (fun _ => by kernel_rfl) (endR ?_) : RT _ _ _ _ _ _ 1 _)
  refine blockR 0 (by kernel_rfl) (by kernel_rfl) ?_
  refine PT.keep (L' := [(3, .int .u8 n), (4, .int .u8 m), (10, .bool false), (12, .int .i64 y), (13, .int .i64 z), (14, .pointer (some ⟨t, 0, none⟩)), (15, .int .i64 0)]) [3, 4, 10, 12, 13, 14, 15] rfl ?_
  refine loopG (fun (q : List Nr × Nat) => [(3, .int .u8 n), (4, .int .u8 m), (10, .bool false), (12, .int .i64 y), (13, .int .i64 z), (14, .pointer (some ⟨t, 0, none⟩)), (15, .int .i64 (q.2 : Int))]) (fun (q : List Nr × Nat) => (treeS t q.1 :: H)) (fun k (q : List Nr × Nat) => (k : Int) + q.2 = n ∧ WFN q.1 ∧ q.1.map skr = slS x y true) n.toNat (slN4 x y, 0) (by kernel_rfl) ⟨by simp only; omega, w4, rfl⟩ ?_
  rintro k ⟨N, u⟩ ⟨hku, hw, hsk⟩
  simp only at hku hw hsk
  refine seqR (by kernel_rfl) ?_
  refine seqR (by kernel_rfl) ?_
  refine regionR 4 (by kernel_rfl) (by kernel_rfl) ?_
  refine (run0 (z := 0) 4 [3, 4, 10, 12, 13, 14, 15, 58] [(3, .int .u8 n), (4, .int .u8 m), (10, .bool false), (12, .int .i64 y), (13, .int .i64 z), (14, .pointer (some ⟨t, 0, none⟩)), (15, .int .i64 (u : Int)), (58, .bool (decide ((u : Int) < (IntKind.i64.wrap n))))] (fun _ => by kernel_rfl) (endR ?_) : RT _ _ _ _ _ _ 4 _)
  rw [show IntKind.i64.wrap n = n by rw [w64 (by omega) (by omega)]]
  refine condR (b := decide ((u : Int) < n)) (by kernel_rfl) (fun _ => by kernel_rfl) (fun h1 => ?_) (fun h1 => ?_)
  · skip
    obtain ⟨id, N', hrun, hw', hsk', _⟩ := sl_run hw hsk
    have hu := of_decide_eq_true h1
    refine skipR (by kernel_rfl) ?_
    refine seqR (by kernel_rfl) ?_
    refine blockR 1 (by kernel_rfl) (by kernel_rfl) ?_
    refine regionR 2 (by kernel_rfl) (by kernel_rfl) ?_
    refine (run0 (z := 1) 1 [3, 4, 10, 12, 13, 14, 15, 61] [(3, .int .u8 n), (4, .int .u8 m), (10, .bool false), (12, .int .i64 y), (13, .int .i64 z), (14, .pointer (some ⟨t, 0, none⟩)), (15, .int .i64 (u : Int)), (61, .pointer (some ⟨t, 0, none⟩))] (fun _ => by kernel_rfl) ?_ : RT _ _ _ _ _ _ 2 _)
    refine (stepR (z := 0) (callS 10 [.pointer (some ⟨t, 0, none⟩)] (some 62) (fun _ => .tuple #[.int .i64 id, .bool true]) (fun _ => (treeS t N' :: H)) (fun _ => by kernel_rfl) (trRun_is _ t hrun)) (fun _ => ?_) : RT _ _ _ _ _ _ 1 _)
    refine endR ?_
    refine regionR 3 (by kernel_rfl) (by kernel_rfl) ?_
    refine (run0 (z := 0) 3 [3, 4, 10, 12, 13, 14, 15] [(3, .int .u8 n), (4, .int .u8 m), (10, .bool false), (12, .int .i64 y), (13, .int .i64 z), (14, .pointer (some ⟨t, 0, none⟩)), (15, .int .i64 (IntKind.i64.wrap ((u : Int) + 1)))] (fun _ => by kernel_rfl) (endR ?_) : RT _ _ _ _ _ _ 3 _)
    rw [show IntKind.i64.wrap ((u : Int) + 1) = ((u : Int) + 1) by rw [w64 (by omega) (by omega)]]
    refine PT.keep (L' := [(3, .int .u8 n), (4, .int .u8 m), (10, .bool false), (12, .int .i64 y), (13, .int .i64 z), (14, .pointer (some ⟨t, 0, none⟩)), (15, .int .i64 ((u : Int) + 1))]) [3, 4, 10, 12, 13, 14, 15] rfl ?_
    exact againG (k - 1) (N', u + 1) rfl rfl (by omega) ⟨by simp only; omega, hw', hsk'⟩
  · skip
    obtain ⟨N2, hwt, hsk2⟩ := sl_weight hw hsk hz
    have hw2 : WFN N2 := by have := weight_wf hw 1 z; rw [hwt] at this; exact this
    have hin2 := sl_in hw2 hsk2
    obtain ⟨D, hD⟩ : ∃ D, ps N2 1 - ps N2 2 = D := ⟨_, rfl⟩
    refine exitR 0 (by kernel_rfl) (by kernel_rfl) ?_
    refine thenX ?_
    refine thenX ?_
    refine leaveR ?_
    refine seqR (by kernel_rfl) ?_
    refine seqR (by kernel_rfl) ?_
    refine regionR 4 (by kernel_rfl) (by kernel_rfl) ?_
    refine (run0 (z := 2) 2 [4, 10, 12, 13, 14, 63, 64] [(4, .int .u8 m), (10, .bool false), (12, .int .i64 y), (13, .int .i64 z), (14, .pointer (some ⟨t, 0, none⟩)), (63, .pointer (some ⟨t, 0, none⟩)), (64, .int .i64 z)] (fun _ => by kernel_rfl) ?_ : RT _ _ _ _ _ _ 4 _)
    refine (stepR (z := 1) (callS 9 [.pointer (some ⟨t, 0, none⟩), .int .i64 1, .int .i64 z] (some 65) (fun _ => .nilIface) (fun _ => (treeS t N2 :: H)) (fun _ => by kernel_rfl) (trWeight_ok _ t hwt)) (fun _ => ?_) : RT _ _ _ _ _ _ 2 _)
    refine (run0 (z := 0) 1 [4, 10, 12, 13, 14, 66] [(4, .int .u8 m), (10, .bool false), (12, .int .i64 y), (13, .int .i64 z), (14, .pointer (some ⟨t, 0, none⟩)), (66, .bool false)] (fun _ => by kernel_rfl) (endR ?_) : RT _ _ _ _ _ _ 1 _)
    refine condR (b := false) (by kernel_rfl) (fun _ => by kernel_rfl) (fun h => by cases h) (fun _ => ?_)
    refine skipR (by kernel_rfl) ?_
    refine seqR (by kernel_rfl) ?_
    refine regionR 1 (by kernel_rfl) (by kernel_rfl) ?_
    refine (stepR (z := 0) (newS 38 [.int .i64 0, .int .i64 0, .int .i64 0] (some 16) (fun b => .pointer (some ⟨b, 0, none⟩)) (fun _ _ => by kernel_rfl)) (fun b1 => ?_) : RT _ _ _ _ _ _ 1 _)
    refine endR ?_
    refine seqR (by kernel_rfl) ?_
    refine seqR (by kernel_rfl) ?_
    refine regionR 1 (by kernel_rfl) (by kernel_rfl) ?_
    refine (run0 (z := 0) 1 [16, 4, 10, 12, 13, 14, 17] [(16, .pointer (some ⟨b1, 0, none⟩)), (4, .int .u8 m), (10, .bool false), (12, .int .i64 y), (13, .int .i64 z), (14, .pointer (some ⟨t, 0, none⟩)), (17, .int .i64 0)] (fun _ => by kernel_rfl) (endR ?_) : RT _ _ _ _ _ _ 1 _)
    refine blockR 2 (by kernel_rfl) (by kernel_rfl) ?_
    refine PT.keep (L' := [(4, .int .u8 m), (12, .int .i64 y), (13, .int .i64 z), (14, .pointer (some ⟨t, 0, none⟩)), (16, .pointer (some ⟨b1, 0, none⟩)), (17, .int .i64 0)]) [4, 12, 13, 14, 16, 17] rfl ?_
    refine loopG (fun (q : List Nr × Nat × Int × Int) => [(4, .int .u8 m), (12, .int .i64 y), (13, .int .i64 z), (14, .pointer (some ⟨t, 0, none⟩)), (16, .pointer (some ⟨b1, 0, none⟩)), (17, .int .i64 (q.2.1 : Int))]) (fun (q : List Nr × Nat × Int × Int) => (blk b1 38 [.int .i64 0, .int .i64 q.2.2.1, .int .i64 q.2.2.2] :: treeS t q.1 :: H)) (fun k (q : List Nr × Nat × Int × Int) => (k : Int) + q.2.1 = m ∧ WFN q.1 ∧ q.1.map skr = slS z y true ∧ ps q.1 1 - ps q.1 2 = D + (q.2.2.1 * strd z - q.2.2.2 * strd y) ∧ 0 ≤ q.2.2.1 ∧ 0 ≤ q.2.2.2 ∧ q.2.2.1 + q.2.2.2 = q.2.1) m.toNat (N2, 0, 0, 0) (by kernel_rfl) ⟨by simp only; omega, hw2, hsk2, by simp only; rw [hD]; simp, by simp only; omega, by simp only; omega, by simp only; omega⟩ ?_
    rintro k2 ⟨N3, v, p, q⟩ ⟨hkv, hw3, hsk3, hdf, hp0, hq0, hpq⟩
    simp only at hkv hw3 hsk3 hdf hp0 hq0 hpq
    refine seqR (by kernel_rfl) ?_
    refine seqR (by kernel_rfl) ?_
    refine regionR 4 (by kernel_rfl) (by kernel_rfl) ?_
    refine (run0 (z := 0) 4 [4, 12, 13, 14, 16, 17, 70] [(4, .int .u8 m), (12, .int .i64 y), (13, .int .i64 z), (14, .pointer (some ⟨t, 0, none⟩)), (16, .pointer (some ⟨b1, 0, none⟩)), (17, .int .i64 (v : Int)), (70, .bool (decide ((v : Int) < (IntKind.i64.wrap m))))] (fun _ => by kernel_rfl) (endR ?_) : RT _ _ _ _ _ _ 4 _)
    rw [show IntKind.i64.wrap m = m by rw [w64 (by omega) (by omega)]]
    refine condR (b := decide ((v : Int) < m)) (by kernel_rfl) (fun _ => by kernel_rfl) (fun h2 => ?_) (fun h2 => ?_)
    · skip
      have hv := of_decide_eq_true h2
      obtain ⟨id, N4, hrun, hw4, hsk4, hid, hps⟩ := sl_run hw3 hsk3
      have hps := hps rfl
      have hin4 := sl_in hw4 hsk4
      rcases hid with rfl | ⟨rfl, _⟩
      · skip
        refine skipR (by kernel_rfl) ?_
        refine seqR (by kernel_rfl) ?_
        refine blockR 3 (by kernel_rfl) (by kernel_rfl) ?_
        refine seqR (by kernel_rfl) ?_
        refine regionR 7 (by kernel_rfl) (by kernel_rfl) ?_
        refine (run0 (z := 6) 1 [4, 12, 13, 14, 16, 17, 74] [(4, .int .u8 m), (12, .int .i64 y), (13, .int .i64 z), (14, .pointer (some ⟨t, 0, none⟩)), (16, .pointer (some ⟨b1, 0, none⟩)), (17, .int .i64 (v : Int)), (74, .pointer (some ⟨t, 0, none⟩))] (fun _ => by kernel_rfl) ?_ : RT _ _ _ _ _ _ 7 _)
        refine (stepR (z := 5) (callS 10 [.pointer (some ⟨t, 0, none⟩)] (some 75) (fun _ => .tuple #[.int .i64 1, .bool true]) (fun _ => (blk b1 38 [.int .i64 0, .int .i64 p, .int .i64 q] :: treeS t N4 :: H)) (fun _ => by kernel_rfl) (chg_at (H := (blk b1 38 [.int .i64 0, .int .i64 p, .int .i64 q] :: treeS t N3 :: H)) 1 rfl (trRun_is _ t hrun))) (fun _ => ?_) : RT _ _ _ _ _ _ 6 _)
        refine (run0 (z := 0) 5 [4, 12, 13, 14, 16, 17, 18, 19] [(4, .int .u8 m), (12, .int .i64 y), (13, .int .i64 z), (14, .pointer (some ⟨t, 0, none⟩)), (16, .pointer (some ⟨b1, 0, none⟩)), (17, .int .i64 (v : Int)), (18, .int .i64 1), (19, .bool true)] (fun _ => by kernel_rfl) (endR ?_) : RT _ _ _ _ _ _ 5 _)
        refine seqR (by kernel_rfl) ?_
        refine seqR (by kernel_rfl) ?_
        refine regionR 10 (by kernel_rfl) (by kernel_rfl) ?_
        refine (run0 (z := 0) 10 [4, 12, 13, 14, 16, 17, 18, 87] [(4, .int .u8 m), (12, .int .i64 y), (13, .int .i64 z), (14, .pointer (some ⟨t, 0, none⟩)), (16, .pointer (some ⟨b1, 0, none⟩)), (17, .int .i64 (v : Int)), (18, .int .i64 1), (87, .bool false)] (fun _ => by kernel_rfl) (endR ?_) : RT _ _ _ _ _ _ 10 _)
        refine condR (b := false) (by kernel_rfl) (fun _ => by kernel_rfl) (fun h => by cases h) (fun _ => ?_)
        refine skipR (by kernel_rfl) ?_
        refine seqR (by kernel_rfl) ?_
        refine regionR 6 (by kernel_rfl) (by kernel_rfl) ?_
        refine (run0 (z := 5) 1 [4, 12, 13, 14, 16, 17, 88] [(4, .int .u8 m), (12, .int .i64 y), (13, .int .i64 z), (14, .pointer (some ⟨t, 0, none⟩)), (16, .pointer (some ⟨b1, 0, none⟩)), (17, .int .i64 (v : Int)), (88, .int .i64 1)] (fun _ => by kernel_rfl) ?_ : RT _ _ _ _ _ _ 6 _)
        refine (stepR (z := 4) (yldS (aidxY 38 (.tmp 16) (.tmp 88) b1 0 3 1 1 3 1 .i64 (some 89) (fun _ => by kernel_rfl) (by kernel_rfl) (by kernel_rfl) (fun _ => by kernel_rfl) (fun _ => by kernel_rfl) Tryz.underlying38 (by kernel_rfl) (by first | rfl | assumption | simp | omega) (by first | omega | decide | (simp; done) | (simp; omega) | (simp at *; omega)))) (fun _ => ?_) : RT _ _ _ _ _ _ 5 _)
        refine (runR (H := (blk b1 38 [.int .i64 0, .int .i64 p, .int .i64 q] :: treeS t N4 :: H)) (z := 2) 2 [4, 12, 13, 14, 16, 17, 88, 91] [(4, .int .u8 m), (12, .int .i64 y), (13, .int .i64 z), (14, .pointer (some ⟨t, 0, none⟩)), (16, .pointer (some ⟨b1, 0, none⟩)), (17, .int .i64 (v : Int)), (88, .int .i64 1), (91, .int .i64 (IntKind.i64.wrap (p + 1)))] [(⟨b1, 1, none⟩, .int .i64 p)] (hasC (blkAt (T := 38) (cs := [.int .i64 0, .int .i64 p, .int .i64 q]) 0 rfl rfl) has0) (fun _ => by kernel_rfl) ?_ : RT _ _ _ _ _ _ 4 _)
        refine (stepR (z := 1) (yldS (aidxY 38 (.tmp 16) (.tmp 88) b1 0 3 1 1 3 1 .i64 (some 92) (fun _ => by kernel_rfl) (by kernel_rfl) (by kernel_rfl) (fun _ => by kernel_rfl) (fun _ => by kernel_rfl) Tryz.underlying38 (by kernel_rfl) (by first | rfl | assumption | simp | omega) (by first | omega | decide | (simp; done) | (simp; omega) | (simp at *; omega)))) (fun _ => ?_) : RT _ _ _ _ _ _ 2 _)
        refine (stepR (z := 0) (storeS [(1, .int .i64 (IntKind.i64.wrap (p + 1)))] [.int .i64 0, .int .i64 (IntKind.i64.wrap (p + 1)), .int .i64 q] (fun _ => by kernel_rfl) (by kernel_rfl) (by kernel_rfl)) (fun _ => ?_) : RT _ _ _ _ _ _ 1 _)
        refine endR ?_
        refine seqR (by kernel_rfl) ?_
        refine regionR 8 (by kernel_rfl) (by kernel_rfl) ?_
        refine (stepR (z := 7) (yldS (aidxY 38 (.tmp 16) (.const (.int .i64 1)) b1 0 3 1 1 3 1 .i64 (some 93) (fun _ => by kernel_rfl) (by kernel_rfl) (by kernel_rfl) (fun _ => by kernel_rfl) (fun _ => by kernel_rfl) Tryz.underlying38 (by kernel_rfl) (by first | rfl | assumption | simp | omega) (by first | omega | decide | (simp; done) | (simp; omega) | (simp at *; omega)))) (fun _ => ?_) : RT _ _ _ _ _ _ 8 _)
        refine (runR (H := (blk b1 38 [.int .i64 0, .int .i64 (IntKind.i64.wrap (p + 1)), .int .i64 q] :: treeS t N4 :: H)) (z := 5) 2 [4, 12, 13, 14, 16, 17, 94, 95] [(4, .int .u8 m), (12, .int .i64 y), (13, .int .i64 z), (14, .pointer (some ⟨t, 0, none⟩)), (16, .pointer (some ⟨b1, 0, none⟩)), (17, .int .i64 (v : Int)), (94, .int .i64 (IntKind.i64.wrap (p + 1))), (95, .int .i64 z)] [(⟨b1, 1, none⟩, .int .i64 (IntKind.i64.wrap (p + 1)))] (hasC (blkAt (T := 38) (cs := [.int .i64 0, .int .i64 (IntKind.i64.wrap (p + 1)), .int .i64 q]) 0 rfl rfl) has0) (fun _ => by kernel_rfl) ?_ : RT _ _ _ _ _ _ 7 _)
        refine (stepR (z := 4) (yldS (aidxY 38 (.tmp 16) (.const (.int .i64 2)) b1 0 3 2 1 3 2 .i64 (some 96) (fun _ => by kernel_rfl) (by kernel_rfl) (by kernel_rfl) (fun _ => by kernel_rfl) (fun _ => by kernel_rfl) Tryz.underlying38 (by kernel_rfl) (by first | rfl | assumption | simp | omega) (by first | omega | decide | (simp; done) | (simp; omega) | (simp at *; omega)))) (fun _ => ?_) : RT _ _ _ _ _ _ 5 _)
        refine (runR (H := (blk b1 38 [.int .i64 0, .int .i64 (IntKind.i64.wrap (p + 1)), .int .i64 q] :: treeS t N4 :: H)) (z := 2) 2 [4, 12, 13, 14, 16, 17, 94, 95, 97, 98] [(4, .int .u8 m), (12, .int .i64 y), (13, .int .i64 z), (14, .pointer (some ⟨t, 0, none⟩)), (16, .pointer (some ⟨b1, 0, none⟩)), (17, .int .i64 (v : Int)), (94, .int .i64 (IntKind.i64.wrap (p + 1))), (95, .int .i64 z), (97, .int .i64 q), (98, .int .i64 y)] [(⟨b1, 2, none⟩, .int .i64 q)] (hasC (blkAt (T := 38) (cs := [.int .i64 0, .int .i64 (IntKind.i64.wrap (p + 1)), .int .i64 q]) 0 rfl rfl) has0) (fun _ => by kernel_rfl) ?_ : RT _ _ _ _ _ _ 4 _)
        rw [show IntKind.i64.wrap (p + 1) = (p + 1) by rw [w64 (by omega) (by omega)]]
        have hdf4 : ps N4 1 - ps N4 2 = D + ((p + 1) * strd z - q * strd y) := by rw [hps, hdf, Int.add_mul]; simp; omega
        refine (stepR (z := 1) (callS 11 [.int .i64 (p + 1), .int .i64 z, .int .i64 q, .int .i64 y] (some 99) (fun _ => .bool true) (fun _ => (blk b1 38 [.int .i64 0, .int .i64 (p + 1), .int .i64 q] :: treeS t N4 :: H)) (fun _ => by kernel_rfl) (fair_ok (fair_by hdf4 (by omega) (by omega)) (by omega) (by omega) hz hy)) (fun _ => ?_) : RT _ _ _ _ _ _ 2 _)
        refine (run0 (z := 0) 1 [4, 12, 13, 14, 16, 17, 100] [(4, .int .u8 m), (12, .int .i64 y), (13, .int .i64 z), (14, .pointer (some ⟨t, 0, none⟩)), (16, .pointer (some ⟨b1, 0, none⟩)), (17, .int .i64 (v : Int)), (100, .bool false)] (fun _ => by kernel_rfl) (endR ?_) : RT _ _ _ _ _ _ 1 _)
        refine condR (b := false) (by kernel_rfl) (fun _ => by kernel_rfl) (fun h => by cases h) (fun _ => ?_)
        refine skipR (by kernel_rfl) ?_
        refine regionR 3 (by kernel_rfl) (by kernel_rfl) ?_
        refine (run0 (z := 0) 3 [4, 12, 13, 14, 16, 17] [(4, .int .u8 m), (12, .int .i64 y), (13, .int .i64 z), (14, .pointer (some ⟨t, 0, none⟩)), (16, .pointer (some ⟨b1, 0, none⟩)), (17, .int .i64 (IntKind.i64.wrap ((v : Int) + 1)))] (fun _ => by kernel_rfl) (endR ?_) : RT _ _ _ _ _ _ 3 _)
        rw [show IntKind.i64.wrap ((v : Int) + 1) = ((v : Int) + 1) by rw [w64 (by omega) (by omega)]]
        refine PT.keep (L' := [(4, .int .u8 m), (12, .int .i64 y), (13, .int .i64 z), (14, .pointer (some ⟨t, 0, none⟩)), (16, .pointer (some ⟨b1, 0, none⟩)), (17, .int .i64 ((v : Int) + 1))]) [4, 12, 13, 14, 16, 17] rfl ?_
        exact againG (k2 - 1) (N4, v + 1, (p + 1), q) rfl rfl (by omega) ⟨by simp only; omega, hw4, hsk4, hdf4, by simp only; omega, by simp only; omega, by simp only; omega⟩
      · skip
        refine skipR (by kernel_rfl) ?_
        refine seqR (by kernel_rfl) ?_
        refine blockR 3 (by kernel_rfl) (by kernel_rfl) ?_
        refine seqR (by kernel_rfl) ?_
        refine regionR 7 (by kernel_rfl) (by kernel_rfl) ?_
        refine (run0 (z := 6) 1 [4, 12, 13, 14, 16, 17, 74] [(4, .int .u8 m), (12, .int .i64 y), (13, .int .i64 z), (14, .pointer (some ⟨t, 0, none⟩)), (16, .pointer (some ⟨b1, 0, none⟩)), (17, .int .i64 (v : Int)), (74, .pointer (some ⟨t, 0, none⟩))] (fun _ => by kernel_rfl) ?_ : RT _ _ _ _ _ _ 7 _)
        refine (stepR (z := 5) (callS 10 [.pointer (some ⟨t, 0, none⟩)] (some 75) (fun _ => .tuple #[.int .i64 2, .bool true]) (fun _ => (blk b1 38 [.int .i64 0, .int .i64 p, .int .i64 q] :: treeS t N4 :: H)) (fun _ => by kernel_rfl) (chg_at (H := (blk b1 38 [.int .i64 0, .int .i64 p, .int .i64 q] :: treeS t N3 :: H)) 1 rfl (trRun_is _ t hrun))) (fun _ => ?_) : RT _ _ _ _ _ _ 6 _)
        refine (run0 (z := 0) 5 [4, 12, 13, 14, 16, 17, 18, 19] [(4, .int .u8 m), (12, .int .i64 y), (13, .int .i64 z), (14, .pointer (some ⟨t, 0, none⟩)), (16, .pointer (some ⟨b1, 0, none⟩)), (17, .int .i64 (v : Int)), (18, .int .i64 2), (19, .bool true)] (fun _ => by kernel_rfl) (endR ?_) : RT _ _ _ _ _ _ 5 _)
        refine seqR (by kernel_rfl) ?_
        refine seqR (by kernel_rfl) ?_
        refine regionR 10 (by kernel_rfl) (by kernel_rfl) ?_
        refine (run0 (z := 0) 10 [4, 12, 13, 14, 16, 17, 18, 87] [(4, .int .u8 m), (12, .int .i64 y), (13, .int .i64 z), (14, .pointer (some ⟨t, 0, none⟩)), (16, .pointer (some ⟨b1, 0, none⟩)), (17, .int .i64 (v : Int)), (18, .int .i64 2), (87, .bool false)] (fun _ => by kernel_rfl) (endR ?_) : RT _ _ _ _ _ _ 10 _)
        refine condR (b := false) (by kernel_rfl) (fun _ => by kernel_rfl) (fun h => by cases h) (fun _ => ?_)
        refine skipR (by kernel_rfl) ?_
        refine seqR (by kernel_rfl) ?_
        refine regionR 6 (by kernel_rfl) (by kernel_rfl) ?_
        refine (run0 (z := 5) 1 [4, 12, 13, 14, 16, 17, 88] [(4, .int .u8 m), (12, .int .i64 y), (13, .int .i64 z), (14, .pointer (some ⟨t, 0, none⟩)), (16, .pointer (some ⟨b1, 0, none⟩)), (17, .int .i64 (v : Int)), (88, .int .i64 2)] (fun _ => by kernel_rfl) ?_ : RT _ _ _ _ _ _ 6 _)
        refine (stepR (z := 4) (yldS (aidxY 38 (.tmp 16) (.tmp 88) b1 0 3 2 1 3 2 .i64 (some 89) (fun _ => by kernel_rfl) (by kernel_rfl) (by kernel_rfl) (fun _ => by kernel_rfl) (fun _ => by kernel_rfl) Tryz.underlying38 (by kernel_rfl) (by first | rfl | assumption | simp | omega) (by first | omega | decide | (simp; done) | (simp; omega) | (simp at *; omega)))) (fun _ => ?_) : RT _ _ _ _ _ _ 5 _)
        refine (runR (H := (blk b1 38 [.int .i64 0, .int .i64 p, .int .i64 q] :: treeS t N4 :: H)) (z := 2) 2 [4, 12, 13, 14, 16, 17, 88, 91] [(4, .int .u8 m), (12, .int .i64 y), (13, .int .i64 z), (14, .pointer (some ⟨t, 0, none⟩)), (16, .pointer (some ⟨b1, 0, none⟩)), (17, .int .i64 (v : Int)), (88, .int .i64 2), (91, .int .i64 (IntKind.i64.wrap (q + 1)))] [(⟨b1, 2, none⟩, .int .i64 q)] (hasC (blkAt (T := 38) (cs := [.int .i64 0, .int .i64 p, .int .i64 q]) 0 rfl rfl) has0) (fun _ => by kernel_rfl) ?_ : RT _ _ _ _ _ _ 4 _)
        refine (stepR (z := 1) (yldS (aidxY 38 (.tmp 16) (.tmp 88) b1 0 3 2 1 3 2 .i64 (some 92) (fun _ => by kernel_rfl) (by kernel_rfl) (by kernel_rfl) (fun _ => by kernel_rfl) (fun _ => by kernel_rfl) Tryz.underlying38 (by kernel_rfl) (by first | rfl | assumption | simp | omega) (by first | omega | decide | (simp; done) | (simp; omega) | (simp at *; omega)))) (fun _ => ?_) : RT _ _ _ _ _ _ 2 _)
        refine (stepR (z := 0) (storeS [(2, .int .i64 (IntKind.i64.wrap (q + 1)))] [.int .i64 0, .int .i64 p, .int .i64 (IntKind.i64.wrap (q + 1))] (fun _ => by kernel_rfl) (by kernel_rfl) (by kernel_rfl)) (fun _ => ?_) : RT _ _ _ _ _ _ 1 _)
        refine endR ?_
        refine seqR (by kernel_rfl) ?_
        refine regionR 8 (by kernel_rfl) (by kernel_rfl) ?_
        refine (stepR (z := 7) (yldS (aidxY 38 (.tmp 16) (.const (.int .i64 1)) b1 0 3 1 1 3 1 .i64 (some 93) (fun _ => by kernel_rfl) (by kernel_rfl) (by kernel_rfl) (fun _ => by kernel_rfl) (fun _ => by kernel_rfl) Tryz.underlying38 (by kernel_rfl) (by first | rfl | assumption | simp | omega) (by first | omega | decide | (simp; done) | (simp; omega) | (simp at *; omega)))) (fun _ => ?_) : RT _ _ _ _ _ _ 8 _)
        refine (runR (H := (blk b1 38 [.int .i64 0, .int .i64 p, .int .i64 (IntKind.i64.wrap (q + 1))] :: treeS t N4 :: H)) (z := 5) 2 [4, 12, 13, 14, 16, 17, 94, 95] [(4, .int .u8 m), (12, .int .i64 y), (13, .int .i64 z), (14, .pointer (some ⟨t, 0, none⟩)), (16, .pointer (some ⟨b1, 0, none⟩)), (17, .int .i64 (v : Int)), (94, .int .i64 p), (95, .int .i64 z)] [(⟨b1, 1, none⟩, .int .i64 p)] (hasC (blkAt (T := 38) (cs := [.int .i64 0, .int .i64 p, .int .i64 (IntKind.i64.wrap (q + 1))]) 0 rfl rfl) has0) (fun _ => by kernel_rfl) ?_ : RT _ _ _ _ _ _ 7 _)
        refine (stepR (z := 4) (yldS (aidxY 38 (.tmp 16) (.const (.int .i64 2)) b1 0 3 2 1 3 2 .i64 (some 96) (fun _ => by kernel_rfl) (by kernel_rfl) (by kernel_rfl) (fun _ => by kernel_rfl) (fun _ => by kernel_rfl) Tryz.underlying38 (by kernel_rfl) (by first | rfl | assumption | simp | omega) (by first | omega | decide | (simp; done) | (simp; omega) | (simp at *; omega)))) (fun _ => ?_) : RT _ _ _ _ _ _ 5 _)
        refine (runR (H := (blk b1 38 [.int .i64 0, .int .i64 p, .int .i64 (IntKind.i64.wrap (q + 1))] :: treeS t N4 :: H)) (z := 2) 2 [4, 12, 13, 14, 16, 17, 94, 95, 97, 98] [(4, .int .u8 m), (12, .int .i64 y), (13, .int .i64 z), (14, .pointer (some ⟨t, 0, none⟩)), (16, .pointer (some ⟨b1, 0, none⟩)), (17, .int .i64 (v : Int)), (94, .int .i64 p), (95, .int .i64 z), (97, .int .i64 (IntKind.i64.wrap (q + 1))), (98, .int .i64 y)] [(⟨b1, 2, none⟩, .int .i64 (IntKind.i64.wrap (q + 1)))] (hasC (blkAt (T := 38) (cs := [.int .i64 0, .int .i64 p, .int .i64 (IntKind.i64.wrap (q + 1))]) 0 rfl rfl) has0) (fun _ => by kernel_rfl) ?_ : RT _ _ _ _ _ _ 4 _)
        rw [show IntKind.i64.wrap (q + 1) = (q + 1) by rw [w64 (by omega) (by omega)]]
        have hdf4 : ps N4 1 - ps N4 2 = D + (p * strd z - (q + 1) * strd y) := by rw [hps, hdf, Int.add_mul]; simp; omega
        refine (stepR (z := 1) (callS 11 [.int .i64 p, .int .i64 z, .int .i64 (q + 1), .int .i64 y] (some 99) (fun _ => .bool true) (fun _ => (blk b1 38 [.int .i64 0, .int .i64 p, .int .i64 (q + 1)] :: treeS t N4 :: H)) (fun _ => by kernel_rfl) (fair_ok (fair_by hdf4 (by omega) (by omega)) (by omega) (by omega) hz hy)) (fun _ => ?_) : RT _ _ _ _ _ _ 2 _)
        refine (run0 (z := 0) 1 [4, 12, 13, 14, 16, 17, 100] [(4, .int .u8 m), (12, .int .i64 y), (13, .int .i64 z), (14, .pointer (some ⟨t, 0, none⟩)), (16, .pointer (some ⟨b1, 0, none⟩)), (17, .int .i64 (v : Int)), (100, .bool false)] (fun _ => by kernel_rfl) (endR ?_) : RT _ _ _ _ _ _ 1 _)
        refine condR (b := false) (by kernel_rfl) (fun _ => by kernel_rfl) (fun h => by cases h) (fun _ => ?_)
        refine skipR (by kernel_rfl) ?_
        refine regionR 3 (by kernel_rfl) (by kernel_rfl) ?_
        refine (run0 (z := 0) 3 [4, 12, 13, 14, 16, 17] [(4, .int .u8 m), (12, .int .i64 y), (13, .int .i64 z), (14, .pointer (some ⟨t, 0, none⟩)), (16, .pointer (some ⟨b1, 0, none⟩)), (17, .int .i64 (IntKind.i64.wrap ((v : Int) + 1)))] (fun _ => by kernel_rfl) (endR ?_) : RT _ _ _ _ _ _ 3 _)
        rw [show IntKind.i64.wrap ((v : Int) + 1) = ((v : Int) + 1) by rw [w64 (by omega) (by omega)]]
        refine PT.keep (L' := [(4, .int .u8 m), (12, .int .i64 y), (13, .int .i64 z), (14, .pointer (some ⟨t, 0, none⟩)), (16, .pointer (some ⟨b1, 0, none⟩)), (17, .int .i64 ((v : Int) + 1))]) [4, 12, 13, 14, 16, 17] rfl ?_
        exact againG (k2 - 1) (N4, v + 1, p, (q + 1)) rfl rfl (by omega) ⟨by simp only; omega, hw4, hsk4, hdf4, by simp only; omega, by simp only; omega, by simp only; omega⟩
    · skip
      refine exitR 2 (by kernel_rfl) (by kernel_rfl) ?_
      refine thenX ?_
      refine thenX ?_
      refine leaveR ?_
      refine seqR (by kernel_rfl) ?_
      refine regionR 1 (by kernel_rfl) (by kernel_rfl) ?_
      refine (run0 (z := 0) 1 [10] [(10, .bool true)] (fun _ => by kernel_rfl) (endR ?_) : RT _ _ _ _ _ _ 1 _)
      refine retR (by kernel_rfl) ?_
      refine done0 (.bool true) (fun _ => by kernel_rfl) (fun w hs => ?_) .ret (.inr rfl)
      exact ⟨(), rfl, hs.tail.tail⟩
theorem weighs_row (W : World) (a b c n m : Int) (ha : (Lit.int .u8 a).wf = true) (hb : (Lit.int .u8 b).wf = true) (hc : (Lit.int .u8 c).wf = true) (hn : (Lit.int .u8 n).wf = true) (hm : (Lit.int .u8 m).wf = true) : Calls Tryz.prog 4 #[.int .u8 a, .int .u8 b, .int .u8 c, .int .u8 n, .int .u8 m] W (LawPost W) :=
  lawPost (fun _ _ h => h) (weighs_walk [old W] a b c n m (u8_wf ha) (u8_wf hb) (u8_wf hc) (u8_wf hn) (u8_wf hm) W (Sat.start W))
end Go.Proofs.YtjbjngikaiggdaaGreat
