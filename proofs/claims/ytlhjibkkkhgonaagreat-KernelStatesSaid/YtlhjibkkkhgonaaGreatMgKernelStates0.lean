/- Texts put together: KernelStates: its walk. Conditions: none. -/
import Derived.Test.YtlhjibkkkhgonaaGreatMgKb6
set_option linter.unusedVariables false
set_option linter.unusedSimpArgs false
namespace Go.Proofs.YtlhjibkkkhgonaaGreat
open Go.RowKit G
set_option maxHeartbeats 1000000 in
set_option maxRecDepth 100000 in
theorem states10_walk (H : List SP) (how byy ob n : Int) (hh : 0 ≤ how ∧ how < 256) (hby : 0 ≤ byy ∧ byy < 256) (hob : 0 ≤ ob ∧ ob < 256) (hn : 0 ≤ n ∧ n < 256) : ∀ w, Sat w H → Calls Tryz.prog 4 #[.int .u8 how, .int .u8 byy, .int .u8 ob, .int .u8 n] w (Ret (ι := Unit) (fun _ => .bool true) fun _ => H) := by
  have hh1 := tmod_range hh.1 (m := 2) (by omega)
  have hby1 := tmod_range hby.1 (m := 4) (by omega)
  have hob1 := tmod_range hob.1 (m := 4) (by omega)
  obtain ⟨x, hx⟩ : ∃ x : Int, Int.tmod ob 4 = x := ⟨_, rfl⟩
  have hxo : isOb x = true := by simp [isOb]; omega
  obtain ⟨y, hy⟩ : ∃ y : Int, Int.tmod (x + 1) 4 = y := ⟨_, rfl⟩
  have hyr : y = (x + 1) % 4 := by rw [← hy, Int.tmod_eq_emod_of_nonneg (by omega)]
  have hyo : isOb y = true := by simp [isOb]; omega
  have hxy : x ≠ y := by omega
  obtain ⟨s, es, hk, hnx, htm, hoo, hct, hR, hT⟩ := st_first
  refine enterG (fn := Tryz.f4) 148 [.int .u8 how, .int .u8 byy, .int .u8 ob, .int .u8 n] Tryz.func4 (by kernel_rfl) (by kernel_rfl) (by kernel_rfl) ?_
  refine seqR (by kernel_rfl) ?_
  refine regionR 1 (by kernel_rfl) (by kernel_rfl) ?_
  refine (run0 (z := 0) 1 [0, 1, 2, 3, 8] [(0, .int .u8 how), (1, .int .u8 byy), (2, .int .u8 ob), (3, .int .u8 n), (8, .bool false)] (fun _ => by kernel_rfl) (endR ?_) : RT _ _ _ _ _ _ 1 _)
  refine seqR (by kernel_rfl) ?_
  refine seqR (by kernel_rfl) ?_
  refine regionR 2 (by kernel_rfl) (by kernel_rfl) ?_
  refine (stepR (z := 1) (callS 10 [] (some 18) (fun _ => .bool true) (fun (_ : Unit) => (H)) (fun _ => by kernel_rfl) (known10 _)) (fun _ => ?_) : RT _ _ _ _ _ _ 2 _)
  refine (run0 (z := 0) 1 [0, 1, 2, 3, 8, 19] [(0, .int .u8 how), (1, .int .u8 byy), (2, .int .u8 ob), (3, .int .u8 n), (8, .bool false), (19, .bool false)] (fun _ => by kernel_rfl) (endR ?_) : RT _ _ _ _ _ _ 1 _)
  refine condR (b := false) (by kernel_rfl) (fun _ => by kernel_rfl) (fun h => by cases h) (fun _ => ?_)
  refine skipR (by kernel_rfl) ?_
  refine seqR (by kernel_rfl) ?_
  refine regionR 2 (by kernel_rfl) (by kernel_rfl) ?_
  refine (stepR (z := 1) (callS 11 [.int .i64 3, .int .i64 0] (some 20) (fun (k : Nat) => .pointer (some ⟨k, 0, none⟩)) (fun (k : Nat) => (kerS k (k0 (mtOf 3) (mgOf 0)) :: H)) (fun _ => by kernel_rfl) (knew_walk _ 3 0)) (fun (k : Nat) => ?_) : RT _ _ _ _ _ _ 2 _)
  refine (run0 (z := 0) 1 [0, 1, 2, 3, 8, 9] [(0, .int .u8 how), (1, .int .u8 byy), (2, .int .u8 ob), (3, .int .u8 n), (8, .bool false), (9, .pointer (some ⟨k, 0, none⟩))] (fun _ => by kernel_rfl) (endR ?_) : RT _ _ _ _ _ _ 1 _)
  refine seqR (by kernel_rfl) ?_
  refine regionR 7 (by kernel_rfl) (by kernel_rfl) ?_
  refine (run0 (z := 6) 1 [0, 1, 2, 3, 8, 9, 22] [(0, .int .u8 how), (1, .int .u8 byy), (2, .int .u8 ob), (3, .int .u8 n), (8, .bool false), (9, .pointer (some ⟨k, 0, none⟩)), (22, .pointer (some ⟨k, 0, none⟩))] (fun _ => by kernel_rfl) ?_ : RT _ _ _ _ _ _ 7 _)
  refine (stepR (z := 5) (callS 12 [.pointer (some ⟨k, 0, none⟩), .int .i64 0, .int .i64 3] (some 23) (fun _ => .tuple #[.int .i64 2, .nilIface]) (fun _ => (kerS k s :: H)) (fun _ => by kernel_rfl) ((by have h := krSpawn H k (k0 (mtOf 3) (mgOf 0)) (by rw [k0_is (by decide)]; decide) 0 3; rw [es] at h; exact h))) (fun _ => ?_) : RT _ _ _ _ _ _ 6 _)
  refine (run0 (z := 0) 5 [0, 1, 2, 3, 8, 9, 10, 11] [(0, .int .u8 how), (1, .int .u8 byy), (2, .int .u8 ob), (3, .int .u8 n), (8, .bool false), (9, .pointer (some ⟨k, 0, none⟩)), (10, .int .i64 2), (11, .nilIface)] (fun _ => by kernel_rfl) (endR ?_) : RT _ _ _ _ _ _ 5 _)
  refine seqR (by kernel_rfl) ?_
  refine seqR (by kernel_rfl) ?_
  refine regionR 2 (by kernel_rfl) (by kernel_rfl) ?_
  refine (run0 (z := 0) 2 [0, 1, 2, 3, 8, 9, 10, 27] [(0, .int .u8 how), (1, .int .u8 byy), (2, .int .u8 ob), (3, .int .u8 n), (8, .bool false), (9, .pointer (some ⟨k, 0, none⟩)), (10, .int .i64 2), (27, .bool false)] (fun _ => by kernel_rfl) (endR ?_) : RT _ _ _ _ _ _ 2 _)
  refine condR (b := false) (by kernel_rfl) (fun _ => by kernel_rfl) (fun h => by cases h) (fun _ => ?_)
  refine skipR (by kernel_rfl) ?_
  refine seqR (by kernel_rfl) ?_
  refine regionR 7 (by kernel_rfl) (by kernel_rfl) ?_
  refine (run0 (z := 0) 7 [0, 1, 8, 9, 10, 12, 13] [(0, .int .u8 how), (1, .int .u8 byy), (8, .bool false), (9, .pointer (some ⟨k, 0, none⟩)), (10, .int .i64 2), (12, .int .i64 (IntKind.i64.wrap (Int.tmod ob 4))), (13, .int .i64 (IntKind.i64.wrap n))] (fun _ => by kernel_rfl) (endR ?_) : RT _ _ _ _ _ _ 7 _)
  refine seqR (by kernel_rfl) ?_
  refine seqR (by kernel_rfl) ?_
  refine regionR 3 (by kernel_rfl) (by kernel_rfl) ?_
  refine (run0 (z := 0) 3 [0, 1, 8, 9, 10, 12, 13, 35] [(0, .int .u8 how), (1, .int .u8 byy), (8, .bool false), (9, .pointer (some ⟨k, 0, none⟩)), (10, .int .i64 2), (12, .int .i64 (IntKind.i64.wrap (Int.tmod ob 4))), (13, .int .i64 (IntKind.i64.wrap n)), (35, .bool ((Int.tmod how 2) == 0))] (fun _ => by kernel_rfl) (endR ?_) : RT _ _ _ _ _ _ 3 _)
  rw [show IntKind.i64.wrap (Int.tmod ob 4) = x by rw [w64 (by omega) (by omega)]; exact hx]
  rw [show IntKind.i64.wrap n = n by rw [w64 (by omega) (by omega)]]
  refine condR (b := (Int.tmod how 2) == 0) (by kernel_rfl) (fun _ => by kernel_rfl) (fun h1 => ?_) (fun h1 => ?_)
  · skip
    have hh0 : Int.tmod how 2 = 0 := eq_of_beq h1
    obtain ⟨s2, e2, hI⟩ := st_sleep hk hnx htm hoo hct hR hT n x
    refine seqR (by kernel_rfl) ?_
    refine regionR 5 (by kernel_rfl) (by kernel_rfl) ?_
    refine (run0 (z := 2) 3 [0, 1, 8, 9, 10, 12, 13, 36, 37, 38] [(0, .int .u8 how), (1, .int .u8 byy), (8, .bool false), (9, .pointer (some ⟨k, 0, none⟩)), (10, .int .i64 2), (12, .int .i64 x), (13, .int .i64 n), (36, .pointer (some ⟨k, 0, none⟩)), (37, .int .i64 2), (38, .int .i64 n)] (fun _ => by kernel_rfl) ?_ : RT _ _ _ _ _ _ 5 _)
    refine (stepR (z := 1) (callS 16 [.pointer (some ⟨k, 0, none⟩), .int .i64 2, .int .i64 n] (some 39) (fun _ => .nilIface) (fun _ => (kerS k s2 :: H)) (fun _ => by kernel_rfl) ((by have h := krSleep H k s 2 n; rw [e2] at h; exact h))) (fun _ => ?_) : RT _ _ _ _ _ _ 2 _)
    refine (run0 (z := 0) 1 [0, 1, 8, 9, 10, 12, 13, 40] [(0, .int .u8 how), (1, .int .u8 byy), (8, .bool false), (9, .pointer (some ⟨k, 0, none⟩)), (10, .int .i64 2), (12, .int .i64 x), (13, .int .i64 n), (40, .bool false)] (fun _ => by kernel_rfl) (endR ?_) : RT _ _ _ _ _ _ 1 _)
    refine condR (b := false) (by kernel_rfl) (fun _ => by kernel_rfl) (fun h => by cases h) (fun _ => ?_)
    refine skipR (by kernel_rfl) ?_
    refine seqR (by kernel_rfl) ?_
    refine regionR 9 (by kernel_rfl) (by kernel_rfl) ?_
    refine (run0 (z := 6) 3 [0, 1, 8, 9, 10, 12, 13, 54, 55, 56] [(0, .int .u8 how), (1, .int .u8 byy), (8, .bool false), (9, .pointer (some ⟨k, 0, none⟩)), (10, .int .i64 2), (12, .int .i64 x), (13, .int .i64 n), (54, .pointer (some ⟨k, 0, none⟩)), (55, .int .i64 2), (56, .int .i64 x)] (fun _ => by kernel_rfl) ?_ : RT _ _ _ _ _ _ 9 _)
    obtain ⟨hr2, hrd⟩ := hI.off
    refine (stepR (z := 5) (callS 17 [.pointer (some ⟨k, 0, none⟩), .int .i64 2, .int .i64 x] (some 57) (fun _ => .tuple #[.bool false, .iface 40 (.int .i64 13)]) (fun _ => (kerS k s2 :: H)) (fun _ => by kernel_rfl) ((by have h := krWait H k s2 2 x; rw [kwait_off hr2] at h; exact h))) (fun _ => ?_) : RT _ _ _ _ _ _ 6 _)
    refine (run0 (z := 0) 5 [0, 1, 8, 9, 10, 12, 13, 17] [(0, .int .u8 how), (1, .int .u8 byy), (8, .bool false), (9, .pointer (some ⟨k, 0, none⟩)), (10, .int .i64 2), (12, .int .i64 x), (13, .int .i64 n), (17, .iface 40 (.int .i64 13))] (fun _ => by kernel_rfl) (endR ?_) : RT _ _ _ _ _ _ 5 _)
    refine seqR (by kernel_rfl) ?_
    refine seqR (by kernel_rfl) ?_
    refine regionR 18 (by kernel_rfl) (by kernel_rfl) ?_
    refine (run0 (z := 15) 3 [0, 1, 8, 9, 10, 12, 13, 17, 60, 61, 62] [(0, .int .u8 how), (1, .int .u8 byy), (8, .bool false), (9, .pointer (some ⟨k, 0, none⟩)), (10, .int .i64 2), (12, .int .i64 x), (13, .int .i64 n), (17, .iface 40 (.int .i64 13)), (60, .pointer (some ⟨k, 0, none⟩)), (61, .int .i64 2), (62, .int .i64 n)] (fun _ => by kernel_rfl) ?_ : RT _ _ _ _ _ _ 18 _)
    refine (stepR (z := 14) (callS 16 [.pointer (some ⟨k, 0, none⟩), .int .i64 2, .int .i64 n] (some 63) (fun _ => .iface 40 (.int .i64 13)) (fun _ => (kerS k s2 :: H)) (fun _ => by kernel_rfl) ((by have h := krSleep H k s2 2 n; rw [ksleep_off hr2] at h; exact h))) (fun _ => ?_) : RT _ _ _ _ _ _ 15 _)
    refine (run0 (z := 13) 1 [63, 0, 1, 8, 9, 10, 12, 13, 17, 64] [(63, .iface 40 (.int .i64 13)), (0, .int .u8 how), (1, .int .u8 byy), (8, .bool false), (9, .pointer (some ⟨k, 0, none⟩)), (10, .int .i64 2), (12, .int .i64 x), (13, .int .i64 n), (17, .iface 40 (.int .i64 13)), (64, .iface 40 (.int .i64 13))] (fun _ => by kernel_rfl) ?_ : RT _ _ _ _ _ _ 14 _)
    refine (stepR (z := 12) (callS 18 [.iface 40 (.int .i64 13), .iface 40 (.int .i64 13)] (some 65) (fun _ => .bool (13 == 13)) (fun (_ : Unit) => (kerS k s2 :: H)) (fun _ => by kernel_rfl) (isErr_walk _ 13 13)) (fun _ => ?_) : RT _ _ _ _ _ _ 13 _)
    refine (run0 (z := 8) 4 [0, 1, 8, 9, 10, 12, 13, 67, 68, 69] [(0, .int .u8 how), (1, .int .u8 byy), (8, .bool false), (9, .pointer (some ⟨k, 0, none⟩)), (10, .int .i64 2), (12, .int .i64 x), (13, .int .i64 n), (67, .bool false), (68, .iface 40 (.int .i64 13)), (69, .iface 40 (.int .i64 13))] (fun _ => by kernel_rfl) ?_ : RT _ _ _ _ _ _ 12 _)
    refine (stepR (z := 7) (callS 18 [.iface 40 (.int .i64 13), .iface 40 (.int .i64 13)] (some 70) (fun _ => .bool (13 == 13)) (fun (_ : Unit) => (kerS k s2 :: H)) (fun _ => by kernel_rfl) (isErr_walk _ 13 13)) (fun _ => ?_) : RT _ _ _ _ _ _ 8 _)
    refine (run0 (z := 2) 5 [0, 1, 8, 9, 10, 12, 13, 73, 74, 75] [(0, .int .u8 how), (1, .int .u8 byy), (8, .bool false), (9, .pointer (some ⟨k, 0, none⟩)), (10, .int .i64 2), (12, .int .i64 x), (13, .int .i64 n), (73, .bool false), (74, .pointer (some ⟨k, 0, none⟩)), (75, .int .i64 2)] (fun _ => by kernel_rfl) ?_ : RT _ _ _ _ _ _ 7 _)
    refine (stepR (z := 1) (callS 19 [.pointer (some ⟨k, 0, none⟩), .int .i64 2] (some 76) (fun _ => .bool false) (fun _ => (kerS k s2 :: H)) (fun _ => by kernel_rfl) ((by have h := ready10_walk H k s2 hI.ok (by rw [hI.nx]; decide) 2; rw [hrd] at h; exact h))) (fun _ => ?_) : RT _ _ _ _ _ _ 2 _)
    refine (run0 (z := 0) 1 [0, 1, 8, 9, 10, 12, 13, 77] [(0, .int .u8 how), (1, .int .u8 byy), (8, .bool false), (9, .pointer (some ⟨k, 0, none⟩)), (10, .int .i64 2), (12, .int .i64 x), (13, .int .i64 n), (77, .bool false)] (fun _ => by kernel_rfl) (endR ?_) : RT _ _ _ _ _ _ 1 _)
    refine condR (b := false) (by kernel_rfl) (fun _ => by kernel_rfl) (fun h => by cases h) (fun _ => ?_)
    refine skipR (by kernel_rfl) ?_
    refine seqR (by kernel_rfl) ?_
    refine seqR (by kernel_rfl) ?_
    refine regionR 2 (by kernel_rfl) (by kernel_rfl) ?_
    refine (run0 (z := 0) 2 [0, 8, 9, 10, 12, 13, 79] [(0, .int .u8 how), (8, .bool false), (9, .pointer (some ⟨k, 0, none⟩)), (10, .int .i64 2), (12, .int .i64 x), (13, .int .i64 n), (79, .int .u8 (Int.tmod byy 4))] (fun _ => by kernel_rfl) (endR ?_) : RT _ _ _ _ _ _ 2 _)
    refine blockR 0 (by kernel_rfl) (by kernel_rfl) ?_
    refine seqR (by kernel_rfl) ?_
    refine regionR 2 (by kernel_rfl) (by kernel_rfl) ?_
    refine (run0 (z := 0) 2 [0, 8, 9, 10, 12, 13, 79, 80] [(0, .int .u8 how), (8, .bool false), (9, .pointer (some ⟨k, 0, none⟩)), (10, .int .i64 2), (12, .int .i64 x), (13, .int .i64 n), (79, .int .u8 (Int.tmod byy 4)), (80, .bool ((Int.tmod byy 4) == 0))] (fun _ => by kernel_rfl) (endR ?_) : RT _ _ _ _ _ _ 2 _)
    refine condR (b := (Int.tmod byy 4) == 0) (by kernel_rfl) (fun _ => by kernel_rfl) (fun c0 => ?_) (fun c0 => ?_)
    · skip
      obtain ⟨l, s3, e3, n3, k3, hr3⟩ := hI.wake
      refine seqR (by kernel_rfl) ?_
      refine regionR 3 (by kernel_rfl) (by kernel_rfl) ?_
      refine (run0 (z := 1) 2 [0, 8, 9, 10, 12, 13, 82, 83] [(0, .int .u8 how), (8, .bool false), (9, .pointer (some ⟨k, 0, none⟩)), (10, .int .i64 2), (12, .int .i64 x), (13, .int .i64 n), (82, .pointer (some ⟨k, 0, none⟩)), (83, .int .i64 n)] (fun _ => by kernel_rfl) ?_ : RT _ _ _ _ _ _ 3 _)
      refine (stepR (z := 0) (callS 20 [.pointer (some ⟨k, 0, none⟩), .int .i64 n] (some 84) (fun (p : Option Addr × Nat) => .slice p.1 l.length p.2) (fun (p : Option Addr × Nat) => row (kE .i64) 3 (.slice p.1 l.length p.2) l :: kerS k s3 :: H) (fun _ => by kernel_rfl) ((by have h := krWake H k s2 n; rw [e3] at h; exact h))) (fun (p : Option Addr × Nat) => ?_) : RT _ _ _ _ _ _ 1 _)
      refine endR ?_
      refine seqR (by kernel_rfl) ?_
      refine regionR 8 (by kernel_rfl) (by kernel_rfl) ?_
      refine (run0 (z := 6) 2 [0, 8, 9, 10, 12, 13, 85, 86] [(0, .int .u8 how), (8, .bool false), (9, .pointer (some ⟨k, 0, none⟩)), (10, .int .i64 2), (12, .int .i64 x), (13, .int .i64 n), (85, .pointer (some ⟨k, 0, none⟩)), (86, .int .i64 2)] (fun _ => by kernel_rfl) ?_ : RT _ _ _ _ _ _ 8 _)
      refine (RT.pick 0 rfl ?_ : RT _ _ _ (row (kE .i64) 3 (.slice p.1 l.length p.2) l :: kerS k s3 :: H) _ _ 6 _)
      refine (RT.pick 1 rfl ?_ : RT _ _ _ (row (kE .i64) 3 (.slice p.1 l.length p.2) l :: kerS k s3 :: H) _ _ 6 _)
      refine (stepR (z := 5) (callS 19 [.pointer (some ⟨k, 0, none⟩), .int .i64 2] (some 87) (fun _ => .bool true) (fun _ => (kerS k s3 :: row (kE .i64) 3 (.slice p.1 l.length p.2) l :: H)) (fun _ => by kernel_rfl) ((by have h := ready10_walk (row (kE .i64) 3 (.slice p.1 l.length p.2) l :: H) k s3 k3 (by omega) 2; rw [hr3] at h; exact h))) (fun _ => ?_) : RT _ _ _ _ _ _ 6 _)
      refine (run0 (z := 0) 5 [8, 9, 10, 12, 13] [(8, .bool (true == ((Int.tmod how 2) == 0))), (9, .pointer (some ⟨k, 0, none⟩)), (10, .int .i64 2), (12, .int .i64 x), (13, .int .i64 n)] (fun _ => by kernel_rfl) (endR ?_) : RT _ _ _ _ _ _ 5 _)
      refine retR (by kernel_rfl) ?_
      refine blockV ?_
      refine thenV ?_
      refine done0 (.bool (true == ((Int.tmod how 2) == 0))) (fun _ => by kernel_rfl) (fun w hs => ?_) .ret (.inr rfl)
      exact ⟨(), by rw [hh0]; rfl, hs.tail.tail⟩
    · skip
      refine seqR (by kernel_rfl) ?_
      refine regionR 2 (by kernel_rfl) (by kernel_rfl) ?_
      refine (run0 (z := 0) 2 [0, 8, 9, 10, 12, 13, 79, 92] [(0, .int .u8 how), (8, .bool false), (9, .pointer (some ⟨k, 0, none⟩)), (10, .int .i64 2), (12, .int .i64 x), (13, .int .i64 n), (79, .int .u8 (Int.tmod byy 4)), (92, .bool ((Int.tmod byy 4) == 1))] (fun _ => by kernel_rfl) (endR ?_) : RT _ _ _ _ _ _ 2 _)
      refine condR (b := (Int.tmod byy 4) == 1) (by kernel_rfl) (fun _ => by kernel_rfl) (fun c1 => ?_) (fun c1 => ?_)
      · skip
        obtain ⟨s3, e3, n3, k3, hr3⟩ := hI.signal hxo
        refine seqR (by kernel_rfl) ?_
        refine regionR 14 (by kernel_rfl) (by kernel_rfl) ?_
        refine (run0 (z := 12) 2 [0, 8, 9, 10, 12, 13, 94, 95] [(0, .int .u8 how), (8, .bool false), (9, .pointer (some ⟨k, 0, none⟩)), (10, .int .i64 2), (12, .int .i64 x), (13, .int .i64 n), (94, .pointer (some ⟨k, 0, none⟩)), (95, .int .i64 x)] (fun _ => by kernel_rfl) ?_ : RT _ _ _ _ _ _ 14 _)
        refine (stepR (z := 11) (callS 21 [.pointer (some ⟨k, 0, none⟩), .int .i64 x] (some 96) (fun _ => .nilIface) (fun _ => (kerS k s3 :: H)) (fun _ => by kernel_rfl) ((by have h := krSignal H k s2 x; rw [e3] at h; exact h))) (fun _ => ?_) : RT _ _ _ _ _ _ 12 _)
        refine (run0 (z := 7) 4 [0, 8, 9, 10, 12, 13, 98, 99, 100] [(0, .int .u8 how), (8, .bool false), (9, .pointer (some ⟨k, 0, none⟩)), (10, .int .i64 2), (12, .int .i64 x), (13, .int .i64 n), (98, .bool true), (99, .pointer (some ⟨k, 0, none⟩)), (100, .int .i64 2)] (fun _ => by kernel_rfl) ?_ : RT _ _ _ _ _ _ 11 _)
        refine (stepR (z := 6) (callS 19 [.pointer (some ⟨k, 0, none⟩), .int .i64 2] (some 101) (fun _ => .bool false) (fun _ => (kerS k s3 :: H)) (fun _ => by kernel_rfl) ((by have h := ready10_walk H k s3 k3 (by omega) 2; rw [hr3] at h; exact h))) (fun _ => ?_) : RT _ _ _ _ _ _ 7 _)
        refine (run0 (z := 0) 6 [8, 9, 10, 12, 13] [(8, .bool (false == ((Int.tmod how 2) == 1))), (9, .pointer (some ⟨k, 0, none⟩)), (10, .int .i64 2), (12, .int .i64 x), (13, .int .i64 n)] (fun _ => by kernel_rfl) (endR ?_) : RT _ _ _ _ _ _ 6 _)
        refine retR (by kernel_rfl) ?_
        refine blockV ?_
        refine thenV ?_
        refine done0 (.bool (false == ((Int.tmod how 2) == 1))) (fun _ => by kernel_rfl) (fun w hs => ?_) .ret (.inr rfl)
        exact ⟨(), by rw [hh0]; rfl, hs.tail⟩
      · skip
        refine seqR (by kernel_rfl) ?_
        refine regionR 2 (by kernel_rfl) (by kernel_rfl) ?_
        refine (run0 (z := 0) 2 [8, 9, 10, 12, 13, 107] [(8, .bool false), (9, .pointer (some ⟨k, 0, none⟩)), (10, .int .i64 2), (12, .int .i64 x), (13, .int .i64 n), (107, .bool ((Int.tmod byy 4) == 2))] (fun _ => by kernel_rfl) (endR ?_) : RT _ _ _ _ _ _ 2 _)
        refine condR (b := (Int.tmod byy 4) == 2) (by kernel_rfl) (fun _ => by kernel_rfl) (fun c2 => ?_) (fun c2 => ?_)
        · skip
          obtain ⟨l, s3, s4, e3, n3, e4, n4, k4, hr4⟩ := hI.other hxo hyo hxy
          refine seqR (by kernel_rfl) ?_
          refine regionR 4 (by kernel_rfl) (by kernel_rfl) ?_
          refine (run0 (z := 1) 3 [8, 9, 10, 12, 13, 109, 111] [(8, .bool false), (9, .pointer (some ⟨k, 0, none⟩)), (10, .int .i64 2), (12, .int .i64 x), (13, .int .i64 n), (109, .pointer (some ⟨k, 0, none⟩)), (111, .int .i64 (IntKind.i64.wrap (n - 1)))] (fun _ => by kernel_rfl) ?_ : RT _ _ _ _ _ _ 4 _)
          rw [show IntKind.i64.wrap (n - 1) = (n - 1) by rw [w64 (by omega) (by omega)]]
          refine (stepR (z := 0) (callS 20 [.pointer (some ⟨k, 0, none⟩), .int .i64 (n - 1)] (some 112) (fun (p : Option Addr × Nat) => .slice p.1 l.length p.2) (fun (p : Option Addr × Nat) => row (kE .i64) 3 (.slice p.1 l.length p.2) l :: kerS k s3 :: H) (fun _ => by kernel_rfl) ((by have h := krWake H k s2 (n - 1); rw [e3] at h; exact h))) (fun (p : Option Addr × Nat) => ?_) : RT _ _ _ _ _ _ 1 _)
          refine endR ?_
          refine seqR (by kernel_rfl) ?_
          refine regionR 13 (by kernel_rfl) (by kernel_rfl) ?_
          refine (run0 (z := 9) 4 [8, 9, 10, 12, 13, 113, 116] [(8, .bool false), (9, .pointer (some ⟨k, 0, none⟩)), (10, .int .i64 2), (12, .int .i64 x), (13, .int .i64 n), (113, .pointer (some ⟨k, 0, none⟩)), (116, .int .i64 (Int.tmod (IntKind.i64.wrap (x + 1)) 4))] (fun _ => by kernel_rfl) ?_ : RT _ _ _ _ _ _ 13 _)
          rw [show IntKind.i64.wrap (x + 1) = (x + 1) by rw [w64 (by omega) (by omega)]]
          rw [show (Int.tmod (x + 1) 4) = y by exact hy]
          refine (RT.pick 0 rfl ?_ : RT _ _ _ (row (kE .i64) 3 (.slice p.1 l.length p.2) l :: kerS k s3 :: H) _ _ 9 _)
          refine (RT.pick 1 rfl ?_ : RT _ _ _ (row (kE .i64) 3 (.slice p.1 l.length p.2) l :: kerS k s3 :: H) _ _ 9 _)
          refine (stepR (z := 8) (callS 21 [.pointer (some ⟨k, 0, none⟩), .int .i64 y] (some 117) (fun _ => .nilIface) (fun _ => (kerS k s4 :: row (kE .i64) 3 (.slice p.1 l.length p.2) l :: H)) (fun _ => by kernel_rfl) ((by have h := krSignal (row (kE .i64) 3 (.slice p.1 l.length p.2) l :: H) k s3 y; rw [e4] at h; exact h))) (fun _ => ?_) : RT _ _ _ _ _ _ 9 _)
          refine (run0 (z := 4) 4 [8, 9, 10, 12, 13, 119, 120, 121] [(8, .bool false), (9, .pointer (some ⟨k, 0, none⟩)), (10, .int .i64 2), (12, .int .i64 x), (13, .int .i64 n), (119, .bool true), (120, .pointer (some ⟨k, 0, none⟩)), (121, .int .i64 2)] (fun _ => by kernel_rfl) ?_ : RT _ _ _ _ _ _ 8 _)
          refine (stepR (z := 3) (callS 19 [.pointer (some ⟨k, 0, none⟩), .int .i64 2] (some 122) (fun _ => .bool false) (fun _ => (kerS k s4 :: row (kE .i64) 3 (.slice p.1 l.length p.2) l :: H)) (fun _ => by kernel_rfl) ((by have h := ready10_walk (row (kE .i64) 3 (.slice p.1 l.length p.2) l :: H) k s4 k4 (by omega) 2; rw [hr4] at h; exact h))) (fun _ => ?_) : RT _ _ _ _ _ _ 4 _)
          refine (run0 (z := 0) 3 [8, 9, 10, 12, 13] [(8, .bool true), (9, .pointer (some ⟨k, 0, none⟩)), (10, .int .i64 2), (12, .int .i64 x), (13, .int .i64 n)] (fun _ => by kernel_rfl) (endR ?_) : RT _ _ _ _ _ _ 3 _)
          refine retR (by kernel_rfl) ?_
          refine blockV ?_
          refine thenV ?_
          refine done0 (.bool true) (fun _ => by kernel_rfl) (fun w hs => ?_) .ret (.inr rfl)
          exact ⟨(), rfl, hs.tail.tail⟩
        · skip
          obtain ⟨s3, s4, s5, e3, n3, e4, n4, e5, n5, hl5⟩ := hI.exit hxo
          refine skipR (by kernel_rfl) ?_
          refine seqR (by kernel_rfl) ?_
          refine regionR 24 (by kernel_rfl) (by kernel_rfl) ?_
          refine (run0 (z := 22) 2 [8, 9, 12, 13, 125, 126] [(8, .bool false), (9, .pointer (some ⟨k, 0, none⟩)), (12, .int .i64 x), (13, .int .i64 n), (125, .pointer (some ⟨k, 0, none⟩)), (126, .int .i64 2)] (fun _ => by kernel_rfl) ?_ : RT _ _ _ _ _ _ 24 _)
          refine (stepR (z := 21) (callS 14 [.pointer (some ⟨k, 0, none⟩), .int .i64 2] (some 127) (fun _ => .nilIface) (fun _ => (kerS k s3 :: H)) (fun _ => by kernel_rfl) ((by have h := krExit H k s2 2; rw [e3] at h; exact h))) (fun _ => ?_) : RT _ _ _ _ _ _ 22 _)
          refine (run0 (z := 17) 4 [8, 9, 13, 129, 130, 131] [(8, .bool false), (9, .pointer (some ⟨k, 0, none⟩)), (13, .int .i64 n), (129, .bool true), (130, .pointer (some ⟨k, 0, none⟩)), (131, .int .i64 x)] (fun _ => by kernel_rfl) ?_ : RT _ _ _ _ _ _ 21 _)
          refine (stepR (z := 16) (callS 21 [.pointer (some ⟨k, 0, none⟩), .int .i64 x] (some 132) (fun _ => .nilIface) (fun _ => (kerS k s4 :: H)) (fun _ => by kernel_rfl) ((by have h := krSignal H k s3 x; rw [e4] at h; exact h))) (fun _ => ?_) : RT _ _ _ _ _ _ 17 _)
          refine (run0 (z := 11) 5 [8, 9, 135, 136, 137] [(8, .bool false), (9, .pointer (some ⟨k, 0, none⟩)), (135, .bool true), (136, .pointer (some ⟨k, 0, none⟩)), (137, .int .i64 n)] (fun _ => by kernel_rfl) ?_ : RT _ _ _ _ _ _ 16 _)
          refine (stepR (z := 10) (callS 20 [.pointer (some ⟨k, 0, none⟩), .int .i64 n] (some 138) (fun (p : Option Addr × Nat) => .slice p.1 0 p.2) (fun (p : Option Addr × Nat) => row (kE .i64) 3 (.slice p.1 0 p.2) [] :: kerS k s5 :: H) (fun _ => by kernel_rfl) ((by have h := krWake H k s4 n; rw [e5] at h; exact h))) (fun (p : Option Addr × Nat) => ?_) : RT _ _ _ _ _ _ 11 _)
          refine (run0 (z := 5) 5 [8, 142, 143] [(8, .bool false), (142, .bool true), (143, .pointer (some ⟨k, 0, none⟩))] (fun _ => by kernel_rfl) ?_ : RT _ _ _ _ _ _ 10 _)
          refine (RT.pick 0 rfl ?_ : RT _ _ _ (row (kE .i64) 3 (.slice p.1 0 p.2) [] :: kerS k s5 :: H) _ _ 5 _)
          refine (RT.pick 1 rfl ?_ : RT _ _ _ (row (kE .i64) 3 (.slice p.1 0 p.2) [] :: kerS k s5 :: H) _ _ 5 _)
          refine (stepR (z := 4) (callS 22 [.pointer (some ⟨k, 0, none⟩)] (some 144) (fun (q : Option Addr × Nat) => .slice q.1 1 q.2) (fun (q : Option Addr × Nat) => row (kE .i64) 3 (.slice q.1 1 q.2) (kthreads s5) :: kerS k s5 :: row (kE .i64) 3 (.slice p.1 0 p.2) [] :: H) (fun _ => by kernel_rfl) ((by have h := krThreads (row (kE .i64) 3 (.slice p.1 0 p.2) [] :: H) k s5 (by omega); rw [hl5] at h; exact h))) (fun (q : Option Addr × Nat) => ?_) : RT _ _ _ _ _ _ 5 _)
          refine (run0 (z := 0) 4 [8] [(8, .bool true)] (fun _ => by kernel_rfl) (endR ?_) : RT _ _ _ _ _ _ 4 _)
          refine retR (by kernel_rfl) ?_
          refine done0 (.bool true) (fun _ => by kernel_rfl) (fun w hs => ?_) .ret (.inr rfl)
          exact ⟨(), rfl, hs.tail.tail.tail⟩
  · skip
    have hh0 : Int.tmod how 2 = 1 := by have := beq_eq_false_iff_ne.1 h1; omega
    obtain ⟨s2, e2, hI⟩ := st_wait hk hnx htm hoo hct hR hT n hxo
    refine seqR (by kernel_rfl) ?_
    refine regionR 9 (by kernel_rfl) (by kernel_rfl) ?_
    refine (run0 (z := 6) 3 [0, 1, 8, 9, 10, 12, 13, 42, 43, 44] [(0, .int .u8 how), (1, .int .u8 byy), (8, .bool false), (9, .pointer (some ⟨k, 0, none⟩)), (10, .int .i64 2), (12, .int .i64 x), (13, .int .i64 n), (42, .pointer (some ⟨k, 0, none⟩)), (43, .int .i64 2), (44, .int .i64 x)] (fun _ => by kernel_rfl) ?_ : RT _ _ _ _ _ _ 9 _)
    refine (stepR (z := 5) (callS 17 [.pointer (some ⟨k, 0, none⟩), .int .i64 2, .int .i64 x] (some 45) (fun _ => .tuple #[.bool false, .nilIface]) (fun _ => (kerS k s2 :: H)) (fun _ => by kernel_rfl) ((by have h := krWait H k s 2 x; rw [e2] at h; exact h))) (fun _ => ?_) : RT _ _ _ _ _ _ 6 _)
    refine (run0 (z := 0) 5 [0, 1, 8, 9, 10, 12, 13, 14, 15] [(0, .int .u8 how), (1, .int .u8 byy), (8, .bool false), (9, .pointer (some ⟨k, 0, none⟩)), (10, .int .i64 2), (12, .int .i64 x), (13, .int .i64 n), (14, .bool false), (15, .nilIface)] (fun _ => by kernel_rfl) (endR ?_) : RT _ _ _ _ _ _ 5 _)
    refine seqR (by kernel_rfl) ?_
    refine regionR 5 (by kernel_rfl) (by kernel_rfl) ?_
    refine (run0 (z := 0) 5 [0, 1, 8, 9, 10, 12, 13, 52] [(0, .int .u8 how), (1, .int .u8 byy), (8, .bool false), (9, .pointer (some ⟨k, 0, none⟩)), (10, .int .i64 2), (12, .int .i64 x), (13, .int .i64 n), (52, .bool false)] (fun _ => by kernel_rfl) (endR ?_) : RT _ _ _ _ _ _ 5 _)
    refine condR (b := false) (by kernel_rfl) (fun _ => by kernel_rfl) (fun h => by cases h) (fun _ => ?_)
    refine skipR (by kernel_rfl) ?_
    refine seqR (by kernel_rfl) ?_
    refine regionR 9 (by kernel_rfl) (by kernel_rfl) ?_
    refine (run0 (z := 6) 3 [0, 1, 8, 9, 10, 12, 13, 54, 55, 56] [(0, .int .u8 how), (1, .int .u8 byy), (8, .bool false), (9, .pointer (some ⟨k, 0, none⟩)), (10, .int .i64 2), (12, .int .i64 x), (13, .int .i64 n), (54, .pointer (some ⟨k, 0, none⟩)), (55, .int .i64 2), (56, .int .i64 x)] (fun _ => by kernel_rfl) ?_ : RT _ _ _ _ _ _ 9 _)
    obtain ⟨hr2, hrd⟩ := hI.off
    refine (stepR (z := 5) (callS 17 [.pointer (some ⟨k, 0, none⟩), .int .i64 2, .int .i64 x] (some 57) (fun _ => .tuple #[.bool false, .iface 40 (.int .i64 13)]) (fun _ => (kerS k s2 :: H)) (fun _ => by kernel_rfl) ((by have h := krWait H k s2 2 x; rw [kwait_off hr2] at h; exact h))) (fun _ => ?_) : RT _ _ _ _ _ _ 6 _)
    refine (run0 (z := 0) 5 [0, 1, 8, 9, 10, 12, 13, 17] [(0, .int .u8 how), (1, .int .u8 byy), (8, .bool false), (9, .pointer (some ⟨k, 0, none⟩)), (10, .int .i64 2), (12, .int .i64 x), (13, .int .i64 n), (17, .iface 40 (.int .i64 13))] (fun _ => by kernel_rfl) (endR ?_) : RT _ _ _ _ _ _ 5 _)
    refine seqR (by kernel_rfl) ?_
    refine seqR (by kernel_rfl) ?_
    refine regionR 18 (by kernel_rfl) (by kernel_rfl) ?_
    refine (run0 (z := 15) 3 [0, 1, 8, 9, 10, 12, 13, 17, 60, 61, 62] [(0, .int .u8 how), (1, .int .u8 byy), (8, .bool false), (9, .pointer (some ⟨k, 0, none⟩)), (10, .int .i64 2), (12, .int .i64 x), (13, .int .i64 n), (17, .iface 40 (.int .i64 13)), (60, .pointer (some ⟨k, 0, none⟩)), (61, .int .i64 2), (62, .int .i64 n)] (fun _ => by kernel_rfl) ?_ : RT _ _ _ _ _ _ 18 _)
    refine (stepR (z := 14) (callS 16 [.pointer (some ⟨k, 0, none⟩), .int .i64 2, .int .i64 n] (some 63) (fun _ => .iface 40 (.int .i64 13)) (fun _ => (kerS k s2 :: H)) (fun _ => by kernel_rfl) ((by have h := krSleep H k s2 2 n; rw [ksleep_off hr2] at h; exact h))) (fun _ => ?_) : RT _ _ _ _ _ _ 15 _)
    refine (run0 (z := 13) 1 [63, 0, 1, 8, 9, 10, 12, 13, 17, 64] [(63, .iface 40 (.int .i64 13)), (0, .int .u8 how), (1, .int .u8 byy), (8, .bool false), (9, .pointer (some ⟨k, 0, none⟩)), (10, .int .i64 2), (12, .int .i64 x), (13, .int .i64 n), (17, .iface 40 (.int .i64 13)), (64, .iface 40 (.int .i64 13))] (fun _ => by kernel_rfl) ?_ : RT _ _ _ _ _ _ 14 _)
    refine (stepR (z := 12) (callS 18 [.iface 40 (.int .i64 13), .iface 40 (.int .i64 13)] (some 65) (fun _ => .bool (13 == 13)) (fun (_ : Unit) => (kerS k s2 :: H)) (fun _ => by kernel_rfl) (isErr_walk _ 13 13)) (fun _ => ?_) : RT _ _ _ _ _ _ 13 _)
    refine (run0 (z := 8) 4 [0, 1, 8, 9, 10, 12, 13, 67, 68, 69] [(0, .int .u8 how), (1, .int .u8 byy), (8, .bool false), (9, .pointer (some ⟨k, 0, none⟩)), (10, .int .i64 2), (12, .int .i64 x), (13, .int .i64 n), (67, .bool false), (68, .iface 40 (.int .i64 13)), (69, .iface 40 (.int .i64 13))] (fun _ => by kernel_rfl) ?_ : RT _ _ _ _ _ _ 12 _)
    refine (stepR (z := 7) (callS 18 [.iface 40 (.int .i64 13), .iface 40 (.int .i64 13)] (some 70) (fun _ => .bool (13 == 13)) (fun (_ : Unit) => (kerS k s2 :: H)) (fun _ => by kernel_rfl) (isErr_walk _ 13 13)) (fun _ => ?_) : RT _ _ _ _ _ _ 8 _)
    refine (run0 (z := 2) 5 [0, 1, 8, 9, 10, 12, 13, 73, 74, 75] [(0, .int .u8 how), (1, .int .u8 byy), (8, .bool false), (9, .pointer (some ⟨k, 0, none⟩)), (10, .int .i64 2), (12, .int .i64 x), (13, .int .i64 n), (73, .bool false), (74, .pointer (some ⟨k, 0, none⟩)), (75, .int .i64 2)] (fun _ => by kernel_rfl) ?_ : RT _ _ _ _ _ _ 7 _)
    refine (stepR (z := 1) (callS 19 [.pointer (some ⟨k, 0, none⟩), .int .i64 2] (some 76) (fun _ => .bool false) (fun _ => (kerS k s2 :: H)) (fun _ => by kernel_rfl) ((by have h := ready10_walk H k s2 hI.ok (by rw [hI.nx]; decide) 2; rw [hrd] at h; exact h))) (fun _ => ?_) : RT _ _ _ _ _ _ 2 _)
    refine (run0 (z := 0) 1 [0, 1, 8, 9, 10, 12, 13, 77] [(0, .int .u8 how), (1, .int .u8 byy), (8, .bool false), (9, .pointer (some ⟨k, 0, none⟩)), (10, .int .i64 2), (12, .int .i64 x), (13, .int .i64 n), (77, .bool false)] (fun _ => by kernel_rfl) (endR ?_) : RT _ _ _ _ _ _ 1 _)
    refine condR (b := false) (by kernel_rfl) (fun _ => by kernel_rfl) (fun h => by cases h) (fun _ => ?_)
    refine skipR (by kernel_rfl) ?_
    refine seqR (by kernel_rfl) ?_
    refine seqR (by kernel_rfl) ?_
    refine regionR 2 (by kernel_rfl) (by kernel_rfl) ?_
    refine (run0 (z := 0) 2 [0, 8, 9, 10, 12, 13, 79] [(0, .int .u8 how), (8, .bool false), (9, .pointer (some ⟨k, 0, none⟩)), (10, .int .i64 2), (12, .int .i64 x), (13, .int .i64 n), (79, .int .u8 (Int.tmod byy 4))] (fun _ => by kernel_rfl) (endR ?_) : RT _ _ _ _ _ _ 2 _)
    refine blockR 0 (by kernel_rfl) (by kernel_rfl) ?_
    refine seqR (by kernel_rfl) ?_
    refine regionR 2 (by kernel_rfl) (by kernel_rfl) ?_
    refine (run0 (z := 0) 2 [0, 8, 9, 10, 12, 13, 79, 80] [(0, .int .u8 how), (8, .bool false), (9, .pointer (some ⟨k, 0, none⟩)), (10, .int .i64 2), (12, .int .i64 x), (13, .int .i64 n), (79, .int .u8 (Int.tmod byy 4)), (80, .bool ((Int.tmod byy 4) == 0))] (fun _ => by kernel_rfl) (endR ?_) : RT _ _ _ _ _ _ 2 _)
    refine condR (b := (Int.tmod byy 4) == 0) (by kernel_rfl) (fun _ => by kernel_rfl) (fun c0 => ?_) (fun c0 => ?_)
    · skip
      obtain ⟨l, s3, e3, n3, k3, hr3⟩ := hI.wake
      refine seqR (by kernel_rfl) ?_
      refine regionR 3 (by kernel_rfl) (by kernel_rfl) ?_
      refine (run0 (z := 1) 2 [0, 8, 9, 10, 12, 13, 82, 83] [(0, .int .u8 how), (8, .bool false), (9, .pointer (some ⟨k, 0, none⟩)), (10, .int .i64 2), (12, .int .i64 x), (13, .int .i64 n), (82, .pointer (some ⟨k, 0, none⟩)), (83, .int .i64 n)] (fun _ => by kernel_rfl) ?_ : RT _ _ _ _ _ _ 3 _)
      refine (stepR (z := 0) (callS 20 [.pointer (some ⟨k, 0, none⟩), .int .i64 n] (some 84) (fun (p : Option Addr × Nat) => .slice p.1 l.length p.2) (fun (p : Option Addr × Nat) => row (kE .i64) 3 (.slice p.1 l.length p.2) l :: kerS k s3 :: H) (fun _ => by kernel_rfl) ((by have h := krWake H k s2 n; rw [e3] at h; exact h))) (fun (p : Option Addr × Nat) => ?_) : RT _ _ _ _ _ _ 1 _)
      refine endR ?_
      refine seqR (by kernel_rfl) ?_
      refine regionR 8 (by kernel_rfl) (by kernel_rfl) ?_
      refine (run0 (z := 6) 2 [0, 8, 9, 10, 12, 13, 85, 86] [(0, .int .u8 how), (8, .bool false), (9, .pointer (some ⟨k, 0, none⟩)), (10, .int .i64 2), (12, .int .i64 x), (13, .int .i64 n), (85, .pointer (some ⟨k, 0, none⟩)), (86, .int .i64 2)] (fun _ => by kernel_rfl) ?_ : RT _ _ _ _ _ _ 8 _)
      refine (RT.pick 0 rfl ?_ : RT _ _ _ (row (kE .i64) 3 (.slice p.1 l.length p.2) l :: kerS k s3 :: H) _ _ 6 _)
      refine (RT.pick 1 rfl ?_ : RT _ _ _ (row (kE .i64) 3 (.slice p.1 l.length p.2) l :: kerS k s3 :: H) _ _ 6 _)
      refine (stepR (z := 5) (callS 19 [.pointer (some ⟨k, 0, none⟩), .int .i64 2] (some 87) (fun _ => .bool false) (fun _ => (kerS k s3 :: row (kE .i64) 3 (.slice p.1 l.length p.2) l :: H)) (fun _ => by kernel_rfl) ((by have h := ready10_walk (row (kE .i64) 3 (.slice p.1 l.length p.2) l :: H) k s3 k3 (by omega) 2; rw [hr3] at h; exact h))) (fun _ => ?_) : RT _ _ _ _ _ _ 6 _)
      refine (run0 (z := 0) 5 [8, 9, 10, 12, 13] [(8, .bool (false == ((Int.tmod how 2) == 0))), (9, .pointer (some ⟨k, 0, none⟩)), (10, .int .i64 2), (12, .int .i64 x), (13, .int .i64 n)] (fun _ => by kernel_rfl) (endR ?_) : RT _ _ _ _ _ _ 5 _)
      refine retR (by kernel_rfl) ?_
      refine blockV ?_
      refine thenV ?_
      refine done0 (.bool (false == ((Int.tmod how 2) == 0))) (fun _ => by kernel_rfl) (fun w hs => ?_) .ret (.inr rfl)
      exact ⟨(), by rw [hh0]; rfl, hs.tail.tail⟩
    · skip
      refine seqR (by kernel_rfl) ?_
      refine regionR 2 (by kernel_rfl) (by kernel_rfl) ?_
      refine (run0 (z := 0) 2 [0, 8, 9, 10, 12, 13, 79, 92] [(0, .int .u8 how), (8, .bool false), (9, .pointer (some ⟨k, 0, none⟩)), (10, .int .i64 2), (12, .int .i64 x), (13, .int .i64 n), (79, .int .u8 (Int.tmod byy 4)), (92, .bool ((Int.tmod byy 4) == 1))] (fun _ => by kernel_rfl) (endR ?_) : RT _ _ _ _ _ _ 2 _)
      refine condR (b := (Int.tmod byy 4) == 1) (by kernel_rfl) (fun _ => by kernel_rfl) (fun c1 => ?_) (fun c1 => ?_)
      · skip
        obtain ⟨s3, e3, n3, k3, hr3⟩ := hI.signal hxo
        refine seqR (by kernel_rfl) ?_
        refine regionR 14 (by kernel_rfl) (by kernel_rfl) ?_
        refine (run0 (z := 12) 2 [0, 8, 9, 10, 12, 13, 94, 95] [(0, .int .u8 how), (8, .bool false), (9, .pointer (some ⟨k, 0, none⟩)), (10, .int .i64 2), (12, .int .i64 x), (13, .int .i64 n), (94, .pointer (some ⟨k, 0, none⟩)), (95, .int .i64 x)] (fun _ => by kernel_rfl) ?_ : RT _ _ _ _ _ _ 14 _)
        refine (stepR (z := 11) (callS 21 [.pointer (some ⟨k, 0, none⟩), .int .i64 x] (some 96) (fun _ => .nilIface) (fun _ => (kerS k s3 :: H)) (fun _ => by kernel_rfl) ((by have h := krSignal H k s2 x; rw [e3] at h; exact h))) (fun _ => ?_) : RT _ _ _ _ _ _ 12 _)
        refine (run0 (z := 7) 4 [0, 8, 9, 10, 12, 13, 98, 99, 100] [(0, .int .u8 how), (8, .bool false), (9, .pointer (some ⟨k, 0, none⟩)), (10, .int .i64 2), (12, .int .i64 x), (13, .int .i64 n), (98, .bool true), (99, .pointer (some ⟨k, 0, none⟩)), (100, .int .i64 2)] (fun _ => by kernel_rfl) ?_ : RT _ _ _ _ _ _ 11 _)
        refine (stepR (z := 6) (callS 19 [.pointer (some ⟨k, 0, none⟩), .int .i64 2] (some 101) (fun _ => .bool true) (fun _ => (kerS k s3 :: H)) (fun _ => by kernel_rfl) ((by have h := ready10_walk H k s3 k3 (by omega) 2; rw [hr3] at h; exact h))) (fun _ => ?_) : RT _ _ _ _ _ _ 7 _)
        refine (run0 (z := 0) 6 [8, 9, 10, 12, 13] [(8, .bool (true == ((Int.tmod how 2) == 1))), (9, .pointer (some ⟨k, 0, none⟩)), (10, .int .i64 2), (12, .int .i64 x), (13, .int .i64 n)] (fun _ => by kernel_rfl) (endR ?_) : RT _ _ _ _ _ _ 6 _)
        refine retR (by kernel_rfl) ?_
        refine blockV ?_
        refine thenV ?_
        refine done0 (.bool (true == ((Int.tmod how 2) == 1))) (fun _ => by kernel_rfl) (fun w hs => ?_) .ret (.inr rfl)
        exact ⟨(), by rw [hh0]; rfl, hs.tail⟩
      · skip
        refine seqR (by kernel_rfl) ?_
        refine regionR 2 (by kernel_rfl) (by kernel_rfl) ?_
        refine (run0 (z := 0) 2 [8, 9, 10, 12, 13, 107] [(8, .bool false), (9, .pointer (some ⟨k, 0, none⟩)), (10, .int .i64 2), (12, .int .i64 x), (13, .int .i64 n), (107, .bool ((Int.tmod byy 4) == 2))] (fun _ => by kernel_rfl) (endR ?_) : RT _ _ _ _ _ _ 2 _)
        refine condR (b := (Int.tmod byy 4) == 2) (by kernel_rfl) (fun _ => by kernel_rfl) (fun c2 => ?_) (fun c2 => ?_)
        · skip
          obtain ⟨l, s3, s4, e3, n3, e4, n4, k4, hr4⟩ := hI.other hxo hyo hxy
          refine seqR (by kernel_rfl) ?_
          refine regionR 4 (by kernel_rfl) (by kernel_rfl) ?_
          refine (run0 (z := 1) 3 [8, 9, 10, 12, 13, 109, 111] [(8, .bool false), (9, .pointer (some ⟨k, 0, none⟩)), (10, .int .i64 2), (12, .int .i64 x), (13, .int .i64 n), (109, .pointer (some ⟨k, 0, none⟩)), (111, .int .i64 (IntKind.i64.wrap (n - 1)))] (fun _ => by kernel_rfl) ?_ : RT _ _ _ _ _ _ 4 _)
          rw [show IntKind.i64.wrap (n - 1) = (n - 1) by rw [w64 (by omega) (by omega)]]
          refine (stepR (z := 0) (callS 20 [.pointer (some ⟨k, 0, none⟩), .int .i64 (n - 1)] (some 112) (fun (p : Option Addr × Nat) => .slice p.1 l.length p.2) (fun (p : Option Addr × Nat) => row (kE .i64) 3 (.slice p.1 l.length p.2) l :: kerS k s3 :: H) (fun _ => by kernel_rfl) ((by have h := krWake H k s2 (n - 1); rw [e3] at h; exact h))) (fun (p : Option Addr × Nat) => ?_) : RT _ _ _ _ _ _ 1 _)
          refine endR ?_
          refine seqR (by kernel_rfl) ?_
          refine regionR 13 (by kernel_rfl) (by kernel_rfl) ?_
          refine (run0 (z := 9) 4 [8, 9, 10, 12, 13, 113, 116] [(8, .bool false), (9, .pointer (some ⟨k, 0, none⟩)), (10, .int .i64 2), (12, .int .i64 x), (13, .int .i64 n), (113, .pointer (some ⟨k, 0, none⟩)), (116, .int .i64 (Int.tmod (IntKind.i64.wrap (x + 1)) 4))] (fun _ => by kernel_rfl) ?_ : RT _ _ _ _ _ _ 13 _)
          rw [show IntKind.i64.wrap (x + 1) = (x + 1) by rw [w64 (by omega) (by omega)]]
          rw [show (Int.tmod (x + 1) 4) = y by exact hy]
          refine (RT.pick 0 rfl ?_ : RT _ _ _ (row (kE .i64) 3 (.slice p.1 l.length p.2) l :: kerS k s3 :: H) _ _ 9 _)
          refine (RT.pick 1 rfl ?_ : RT _ _ _ (row (kE .i64) 3 (.slice p.1 l.length p.2) l :: kerS k s3 :: H) _ _ 9 _)
          refine (stepR (z := 8) (callS 21 [.pointer (some ⟨k, 0, none⟩), .int .i64 y] (some 117) (fun _ => .nilIface) (fun _ => (kerS k s4 :: row (kE .i64) 3 (.slice p.1 l.length p.2) l :: H)) (fun _ => by kernel_rfl) ((by have h := krSignal (row (kE .i64) 3 (.slice p.1 l.length p.2) l :: H) k s3 y; rw [e4] at h; exact h))) (fun _ => ?_) : RT _ _ _ _ _ _ 9 _)
          refine (run0 (z := 4) 4 [8, 9, 10, 12, 13, 119, 120, 121] [(8, .bool false), (9, .pointer (some ⟨k, 0, none⟩)), (10, .int .i64 2), (12, .int .i64 x), (13, .int .i64 n), (119, .bool true), (120, .pointer (some ⟨k, 0, none⟩)), (121, .int .i64 2)] (fun _ => by kernel_rfl) ?_ : RT _ _ _ _ _ _ 8 _)
          refine (stepR (z := 3) (callS 19 [.pointer (some ⟨k, 0, none⟩), .int .i64 2] (some 122) (fun _ => .bool false) (fun _ => (kerS k s4 :: row (kE .i64) 3 (.slice p.1 l.length p.2) l :: H)) (fun _ => by kernel_rfl) ((by have h := ready10_walk (row (kE .i64) 3 (.slice p.1 l.length p.2) l :: H) k s4 k4 (by omega) 2; rw [hr4] at h; exact h))) (fun _ => ?_) : RT _ _ _ _ _ _ 4 _)
          refine (run0 (z := 0) 3 [8, 9, 10, 12, 13] [(8, .bool true), (9, .pointer (some ⟨k, 0, none⟩)), (10, .int .i64 2), (12, .int .i64 x), (13, .int .i64 n)] (fun _ => by kernel_rfl) (endR ?_) : RT _ _ _ _ _ _ 3 _)
          refine retR (by kernel_rfl) ?_
          refine blockV ?_
          refine thenV ?_
          refine done0 (.bool true) (fun _ => by kernel_rfl) (fun w hs => ?_) .ret (.inr rfl)
          exact ⟨(), rfl, hs.tail.tail⟩
        · skip
          obtain ⟨s3, s4, s5, e3, n3, e4, n4, e5, n5, hl5⟩ := hI.exit hxo
          refine skipR (by kernel_rfl) ?_
          refine seqR (by kernel_rfl) ?_
          refine regionR 24 (by kernel_rfl) (by kernel_rfl) ?_
          refine (run0 (z := 22) 2 [8, 9, 12, 13, 125, 126] [(8, .bool false), (9, .pointer (some ⟨k, 0, none⟩)), (12, .int .i64 x), (13, .int .i64 n), (125, .pointer (some ⟨k, 0, none⟩)), (126, .int .i64 2)] (fun _ => by kernel_rfl) ?_ : RT _ _ _ _ _ _ 24 _)
          refine (stepR (z := 21) (callS 14 [.pointer (some ⟨k, 0, none⟩), .int .i64 2] (some 127) (fun _ => .nilIface) (fun _ => (kerS k s3 :: H)) (fun _ => by kernel_rfl) ((by have h := krExit H k s2 2; rw [e3] at h; exact h))) (fun _ => ?_) : RT _ _ _ _ _ _ 22 _)
          refine (run0 (z := 17) 4 [8, 9, 13, 129, 130, 131] [(8, .bool false), (9, .pointer (some ⟨k, 0, none⟩)), (13, .int .i64 n), (129, .bool true), (130, .pointer (some ⟨k, 0, none⟩)), (131, .int .i64 x)] (fun _ => by kernel_rfl) ?_ : RT _ _ _ _ _ _ 21 _)
          refine (stepR (z := 16) (callS 21 [.pointer (some ⟨k, 0, none⟩), .int .i64 x] (some 132) (fun _ => .nilIface) (fun _ => (kerS k s4 :: H)) (fun _ => by kernel_rfl) ((by have h := krSignal H k s3 x; rw [e4] at h; exact h))) (fun _ => ?_) : RT _ _ _ _ _ _ 17 _)
          refine (run0 (z := 11) 5 [8, 9, 135, 136, 137] [(8, .bool false), (9, .pointer (some ⟨k, 0, none⟩)), (135, .bool true), (136, .pointer (some ⟨k, 0, none⟩)), (137, .int .i64 n)] (fun _ => by kernel_rfl) ?_ : RT _ _ _ _ _ _ 16 _)
          refine (stepR (z := 10) (callS 20 [.pointer (some ⟨k, 0, none⟩), .int .i64 n] (some 138) (fun (p : Option Addr × Nat) => .slice p.1 0 p.2) (fun (p : Option Addr × Nat) => row (kE .i64) 3 (.slice p.1 0 p.2) [] :: kerS k s5 :: H) (fun _ => by kernel_rfl) ((by have h := krWake H k s4 n; rw [e5] at h; exact h))) (fun (p : Option Addr × Nat) => ?_) : RT _ _ _ _ _ _ 11 _)
          refine (run0 (z := 5) 5 [8, 142, 143] [(8, .bool false), (142, .bool true), (143, .pointer (some ⟨k, 0, none⟩))] (fun _ => by kernel_rfl) ?_ : RT _ _ _ _ _ _ 10 _)
          refine (RT.pick 0 rfl ?_ : RT _ _ _ (row (kE .i64) 3 (.slice p.1 0 p.2) [] :: kerS k s5 :: H) _ _ 5 _)
          refine (RT.pick 1 rfl ?_ : RT _ _ _ (row (kE .i64) 3 (.slice p.1 0 p.2) [] :: kerS k s5 :: H) _ _ 5 _)
          refine (stepR (z := 4) (callS 22 [.pointer (some ⟨k, 0, none⟩)] (some 144) (fun (q : Option Addr × Nat) => .slice q.1 1 q.2) (fun (q : Option Addr × Nat) => row (kE .i64) 3 (.slice q.1 1 q.2) (kthreads s5) :: kerS k s5 :: row (kE .i64) 3 (.slice p.1 0 p.2) [] :: H) (fun _ => by kernel_rfl) ((by have h := krThreads (row (kE .i64) 3 (.slice p.1 0 p.2) [] :: H) k s5 (by omega); rw [hl5] at h; exact h))) (fun (q : Option Addr × Nat) => ?_) : RT _ _ _ _ _ _ 5 _)
          refine (run0 (z := 0) 4 [8] [(8, .bool true)] (fun _ => by kernel_rfl) (endR ?_) : RT _ _ _ _ _ _ 4 _)
          refine retR (by kernel_rfl) ?_
          refine done0 (.bool true) (fun _ => by kernel_rfl) (fun w hs => ?_) .ret (.inr rfl)
          exact ⟨(), rfl, hs.tail.tail.tail⟩
theorem states_row (W : World) (a b o n : Int) (ha : (Lit.int .u8 a).wf = true) (hb : (Lit.int .u8 b).wf = true) (ho : (Lit.int .u8 o).wf = true) (hn : (Lit.int .u8 n).wf = true) : Calls Tryz.prog 4 #[.int .u8 a, .int .u8 b, .int .u8 o, .int .u8 n] W (LawPost W) :=
  lawPost (fun _ _ h => h) (states10_walk [old W] a b o n (u8_wf ha) (u8_wf hb) (u8_wf ho) (u8_wf hn) W (Sat.start W))
end Go.Proofs.YtlhjibkkkhgonaaGreat
