/- Texts put together: KernelGroups: its walk. Conditions: none. -/
import Derived.Test.YtlhjibkkkhgonaaGreatMgKb6
set_option linter.unusedVariables false
set_option linter.unusedSimpArgs false
namespace Go.Proofs.YtlhjibkkkhgonaaGreat
open Go.RowKit G
set_option maxHeartbeats 1000000 in
set_option maxRecDepth 100000 in
theorem groups10_walk (H : List SP) (n w0 : Int) (hn : 0 ≤ n ∧ n < 256) (hw0 : 0 ≤ w0 ∧ w0 < 256) : ∀ w, Sat w H → Calls Tryz.prog 6 #[.int .u8 n, .int .u8 w0] w (Ret (ι := Unit) (fun _ => .bool true) fun _ => H) := by
  have hn1 := tmod_range hn.1 (m := 5) (by omega)
  have hx := wOf_isW hw0.1
  have hxw := wOf_wrap hw0.1
  obtain ⟨x, hxe⟩ : ∃ x, wOf w0 = x := ⟨_, rfl⟩
  rw [hxe] at hx hxw
  have hxb : 1 ≤ x ∧ x ≤ 16 := by simpa [isW] using hx
  obtain ⟨d, hd⟩ : ∃ d : Nat, Int.tmod n 5 = (d : Int) := ⟨(Int.tmod n 5).toNat, by omega⟩
  refine enterG (fn := Tryz.f6) 120 [.int .u8 n, .int .u8 w0] Tryz.func6 (by kernel_rfl) (by kernel_rfl) (by kernel_rfl) ?_
  refine seqR (by kernel_rfl) ?_
  refine regionR 1 (by kernel_rfl) (by kernel_rfl) ?_
  refine (run0 (z := 0) 1 [0, 1, 4] [(0, .int .u8 n), (1, .int .u8 w0), (4, .bool false)] (fun _ => by kernel_rfl) (endR ?_) : RT _ _ _ _ _ _ 1 _)
  refine seqR (by kernel_rfl) ?_
  refine seqR (by kernel_rfl) ?_
  refine regionR 2 (by kernel_rfl) (by kernel_rfl) ?_
  refine (stepR (z := 1) (callS 10 [] (some 18) (fun _ => .bool true) (fun (_ : Unit) => (H)) (fun _ => by kernel_rfl) (known10 _)) (fun _ => ?_) : RT _ _ _ _ _ _ 2 _)
  refine (run0 (z := 0) 1 [0, 1, 4, 19] [(0, .int .u8 n), (1, .int .u8 w0), (4, .bool false), (19, .bool false)] (fun _ => by kernel_rfl) (endR ?_) : RT _ _ _ _ _ _ 1 _)
  refine condR (b := false) (by kernel_rfl) (fun _ => by kernel_rfl) (fun h => by cases h) (fun _ => ?_)
  refine skipR (by kernel_rfl) ?_
  refine seqR (by kernel_rfl) ?_
  refine regionR 2 (by kernel_rfl) (by kernel_rfl) ?_
  refine (stepR (z := 1) (callS 11 [.int .i64 8, .int .i64 4] (some 20) (fun (k : Nat) => .pointer (some ⟨k, 0, none⟩)) (fun (k : Nat) => (kerS k (chS x 0) :: H)) (fun _ => by kernel_rfl) ((ch_start x ▸ knew_walk _ 8 4))) (fun (k : Nat) => ?_) : RT _ _ _ _ _ _ 2 _)
  refine (run0 (z := 0) 1 [0, 1, 4, 5] [(0, .int .u8 n), (1, .int .u8 w0), (4, .bool false), (5, .pointer (some ⟨k, 0, none⟩))] (fun _ => by kernel_rfl) (endR ?_) : RT _ _ _ _ _ _ 1 _)
  refine seqR (by kernel_rfl) ?_
  refine regionR 5 (by kernel_rfl) (by kernel_rfl) ?_
  refine (run0 (z := 0) 5 [1, 4, 5, 6, 7] [(1, .int .u8 w0), (4, .bool false), (5, .pointer (some ⟨k, 0, none⟩)), (6, .int .i64 0), (7, .int .i64 (IntKind.i64.wrap (Int.tmod n 5)))] (fun _ => by kernel_rfl) (endR ?_) : RT _ _ _ _ _ _ 5 _)
  refine seqR (by kernel_rfl) ?_
  refine seqR (by kernel_rfl) ?_
  refine regionR 1 (by kernel_rfl) (by kernel_rfl) ?_
  refine (run0 (z := 0) 1 [1, 4, 5, 6, 7, 8] [(1, .int .u8 w0), (4, .bool false), (5, .pointer (some ⟨k, 0, none⟩)), (6, .int .i64 0), (7, .int .i64 (IntKind.i64.wrap (Int.tmod n 5))), (8, .int .i64 0)] (fun _ => by kernel_rfl) (endR ?_) : RT _ _ _ _ _ _ 1 _)
  refine blockR 0 (by kernel_rfl) (by kernel_rfl) ?_
  rw [show IntKind.i64.wrap (Int.tmod n 5) = (d : Int) by rw [w64 (by omega) (by omega)]; exact hd]
  refine PT.keep (L' := [(1, .int .u8 w0), (5, .pointer (some ⟨k, 0, none⟩)), (6, .int .i64 0), (7, .int .i64 (d : Int)), (8, .int .i64 0)]) [1, 5, 6, 7, 8] rfl ?_
  refine loopG (fun (u : Nat) => [(1, .int .u8 w0), (5, .pointer (some ⟨k, 0, none⟩)), (6, .int .i64 (grPar u)), (7, .int .i64 (d : Int)), (8, .int .i64 (u : Int))]) (fun (u : Nat) => (kerS k (chS x u) :: H)) (fun k (u : Nat) => k + u = d ∧ u ≤ 3 ∧ KOk (chS x u)) d 0 (by kernel_rfl) ⟨by omega, by omega, by rw [← ch_start x]; exact k0_ok (by decide) (by decide)⟩ ?_
  rintro j u ⟨hju, hu3, hk⟩
  refine seqR (by kernel_rfl) ?_
  refine seqR (by kernel_rfl) ?_
  refine regionR 3 (by kernel_rfl) (by kernel_rfl) ?_
  refine (run0 (z := 0) 3 [1, 5, 6, 7, 8, 26] [(1, .int .u8 w0), (5, .pointer (some ⟨k, 0, none⟩)), (6, .int .i64 (grPar u)), (7, .int .i64 (d : Int)), (8, .int .i64 (u : Int)), (26, .bool (decide ((u : Int) < (d : Int))))] (fun _ => by kernel_rfl) (endR ?_) : RT _ _ _ _ _ _ 3 _)
  refine condR (b := decide ((u : Int) < (d : Int))) (by kernel_rfl) (fun _ => by kernel_rfl) (fun h1 => ?_) (fun h1 => ?_)
  · skip
    have hu : u < d := by have := of_decide_eq_true h1; omega
    refine skipR (by kernel_rfl) ?_
    refine seqR (by kernel_rfl) ?_
    refine blockR 1 (by kernel_rfl) (by kernel_rfl) ?_
    refine seqR (by kernel_rfl) ?_
    refine regionR 12 (by kernel_rfl) (by kernel_rfl) ?_
    refine (run0 (z := 6) 6 [1, 5, 6, 7, 8, 30, 31, 35] [(1, .int .u8 w0), (5, .pointer (some ⟨k, 0, none⟩)), (6, .int .i64 (grPar u)), (7, .int .i64 (d : Int)), (8, .int .i64 (u : Int)), (30, .pointer (some ⟨k, 0, none⟩)), (31, .int .i64 (grPar u)), (35, .int .i64 (IntKind.i64.wrap ((IntKind.i64.wrap (Int.tmod w0 16)) + 1)))] (fun _ => by kernel_rfl) ?_ : RT _ _ _ _ _ _ 12 _)
    rw [show IntKind.i64.wrap ((IntKind.i64.wrap (Int.tmod w0 16)) + 1) = x by exact hxw]
    rcases Nat.lt_or_ge u 3 with hu3' | hu3'
    · skip
      have e := ch_group hx hu3' hk
      have hk' := kgroup_ok hk (grPar u) x
      rw [e] at hk'
      refine (stepR (z := 5) (callS 13 [.pointer (some ⟨k, 0, none⟩), .int .i64 (grPar u), .int .i64 x] (some 36) (fun _ => .tuple #[.int .i64 ((u : Int) + 2), .nilIface]) (fun _ => (kerS k (chS x (u + 1)) :: H)) (fun _ => by kernel_rfl) ((by have h := krGroup H k (chS x u) (by show (u : Int) + 2 ≤ _; omega) (grPar u) x; rw [e] at h; exact h))) (fun _ => ?_) : RT _ _ _ _ _ _ 6 _)
      refine (run0 (z := 0) 5 [1, 5, 6, 7, 8, 9, 10] [(1, .int .u8 w0), (5, .pointer (some ⟨k, 0, none⟩)), (6, .int .i64 (grPar u)), (7, .int .i64 (d : Int)), (8, .int .i64 (u : Int)), (9, .int .i64 ((u : Int) + 2)), (10, .nilIface)] (fun _ => by kernel_rfl) (endR ?_) : RT _ _ _ _ _ _ 5 _)
      refine seqR (by kernel_rfl) ?_
      refine seqR (by kernel_rfl) ?_
      refine regionR 2 (by kernel_rfl) (by kernel_rfl) ?_
      refine (run0 (z := 0) 2 [1, 5, 6, 7, 8, 9, 10, 40] [(1, .int .u8 w0), (5, .pointer (some ⟨k, 0, none⟩)), (6, .int .i64 (grPar u)), (7, .int .i64 (d : Int)), (8, .int .i64 (u : Int)), (9, .int .i64 ((u : Int) + 2)), (10, .nilIface), (40, .bool (decide ((u : Int) ≥ 3)))] (fun _ => by kernel_rfl) (endR ?_) : RT _ _ _ _ _ _ 2 _)
      rw [show (decide ((u : Int) ≥ 3)) = false from by simp; omega]
      refine condR (b := false) (by kernel_rfl) (fun _ => by kernel_rfl) (fun h => by cases h) (fun _ => ?_)
      refine skipR (by kernel_rfl) ?_
      refine seqR (by kernel_rfl) ?_
      refine seqR (by kernel_rfl) ?_
      refine regionR 2 (by kernel_rfl) (by kernel_rfl) ?_
      refine (run0 (z := 0) 2 [1, 5, 6, 7, 8, 9, 49] [(1, .int .u8 w0), (5, .pointer (some ⟨k, 0, none⟩)), (6, .int .i64 (grPar u)), (7, .int .i64 (d : Int)), (8, .int .i64 (u : Int)), (9, .int .i64 ((u : Int) + 2)), (49, .bool false)] (fun _ => by kernel_rfl) (endR ?_) : RT _ _ _ _ _ _ 2 _)
      refine condR (b := false) (by kernel_rfl) (fun _ => by kernel_rfl) (fun h => by cases h) (fun _ => ?_)
      refine skipR (by kernel_rfl) ?_
      refine regionR 2 (by kernel_rfl) (by kernel_rfl) ?_
      refine (run0 (z := 0) 2 [1, 5, 6, 7, 8] [(1, .int .u8 w0), (5, .pointer (some ⟨k, 0, none⟩)), (6, .int .i64 ((u : Int) + 2)), (7, .int .i64 (d : Int)), (8, .int .i64 (u : Int))] (fun _ => by kernel_rfl) (endR ?_) : RT _ _ _ _ _ _ 2 _)
      refine regionR 3 (by kernel_rfl) (by kernel_rfl) ?_
      refine (run0 (z := 0) 3 [1, 5, 6, 7, 8] [(1, .int .u8 w0), (5, .pointer (some ⟨k, 0, none⟩)), (6, .int .i64 ((u : Int) + 2)), (7, .int .i64 (d : Int)), (8, .int .i64 (IntKind.i64.wrap ((u : Int) + 1)))] (fun _ => by kernel_rfl) (endR ?_) : RT _ _ _ _ _ _ 3 _)
      rw [show IntKind.i64.wrap ((u : Int) + 1) = ((u : Int) + 1) by rw [w64 (by omega) (by omega)]]
      refine PT.keep (L' := [(1, .int .u8 w0), (5, .pointer (some ⟨k, 0, none⟩)), (6, .int .i64 ((u : Int) + 2)), (7, .int .i64 (d : Int)), (8, .int .i64 ((u : Int) + 1))]) [1, 5, 6, 7, 8] rfl ?_
      exact againG (j - 1) (u + 1) rfl rfl (by omega) ⟨by omega, by omega, hk'⟩
    · skip
      have hu4 : u = 3 := by omega
      have e := ch_deep hx
      rw [← hu4] at e
      refine (stepR (z := 5) (callS 13 [.pointer (some ⟨k, 0, none⟩), .int .i64 (grPar u), .int .i64 x] (some 36) (fun _ => .tuple #[.int .i64 0, .iface 40 (.int .i64 12)]) (fun _ => (kerS k (chS x u) :: H)) (fun _ => by kernel_rfl) ((by have h := krGroup H k (chS x u) (by show (u : Int) + 2 ≤ _; omega) (grPar u) x; rw [e] at h; exact h))) (fun _ => ?_) : RT _ _ _ _ _ _ 6 _)
      refine (run0 (z := 0) 5 [1, 5, 6, 7, 8, 9, 10] [(1, .int .u8 w0), (5, .pointer (some ⟨k, 0, none⟩)), (6, .int .i64 (grPar u)), (7, .int .i64 (d : Int)), (8, .int .i64 (u : Int)), (9, .int .i64 0), (10, .iface 40 (.int .i64 12))] (fun _ => by kernel_rfl) (endR ?_) : RT _ _ _ _ _ _ 5 _)
      refine seqR (by kernel_rfl) ?_
      refine seqR (by kernel_rfl) ?_
      refine regionR 2 (by kernel_rfl) (by kernel_rfl) ?_
      refine (run0 (z := 0) 2 [1, 5, 6, 7, 8, 9, 10, 40] [(1, .int .u8 w0), (5, .pointer (some ⟨k, 0, none⟩)), (6, .int .i64 (grPar u)), (7, .int .i64 (d : Int)), (8, .int .i64 (u : Int)), (9, .int .i64 0), (10, .iface 40 (.int .i64 12)), (40, .bool (decide ((u : Int) ≥ 3)))] (fun _ => by kernel_rfl) (endR ?_) : RT _ _ _ _ _ _ 2 _)
      rw [show (decide ((u : Int) ≥ 3)) = true from by simp; omega]
      refine condR (b := true) (by kernel_rfl) (fun _ => by kernel_rfl) (fun _ => ?_) (fun h => by cases h)
      refine seqR (by kernel_rfl) ?_
      refine regionR 8 (by kernel_rfl) (by kernel_rfl) ?_
      refine (run0 (z := 6) 2 [1, 5, 6, 7, 8, 9, 10, 41, 42] [(1, .int .u8 w0), (5, .pointer (some ⟨k, 0, none⟩)), (6, .int .i64 (grPar u)), (7, .int .i64 (d : Int)), (8, .int .i64 (u : Int)), (9, .int .i64 0), (10, .iface 40 (.int .i64 12)), (41, .iface 40 (.int .i64 12)), (42, .iface 40 (.int .i64 12))] (fun _ => by kernel_rfl) ?_ : RT _ _ _ _ _ _ 8 _)
      refine (stepR (z := 5) (callS 18 [.iface 40 (.int .i64 12), .iface 40 (.int .i64 12)] (some 43) (fun _ => .bool (12 == 12)) (fun (_ : Unit) => (kerS k (chS x u) :: H)) (fun _ => by kernel_rfl) (isErr_walk _ 12 12)) (fun _ => ?_) : RT _ _ _ _ _ _ 6 _)
      refine (run0 (z := 0) 5 [1, 5, 6, 7, 8, 9, 10, 4] [(1, .int .u8 w0), (5, .pointer (some ⟨k, 0, none⟩)), (6, .int .i64 (grPar u)), (7, .int .i64 (d : Int)), (8, .int .i64 (u : Int)), (9, .int .i64 0), (10, .iface 40 (.int .i64 12)), (4, .bool true)] (fun _ => by kernel_rfl) (endR ?_) : RT _ _ _ _ _ _ 5 _)
      refine retR (by kernel_rfl) ?_
      refine thenV ?_
      refine blockV ?_
      refine thenV ?_
      refine thenV ?_
      refine blockV ?_
      refine thenV ?_
      refine done0 (.bool true) (fun _ => by kernel_rfl) (fun w hs => ?_) .ret (.inr rfl)
      exact ⟨(), rfl, hs.tail⟩
  · skip
    have hu : u = d := by have := of_decide_eq_false h1; omega
    subst hu
    have hd4 : u < 4 := by omega
    have e := ch_spawn x hd4
    have hk' := kspawn_ok hk (grPar u) 2
    rw [e] at hk'
    refine exitR 0 (by kernel_rfl) (by kernel_rfl) ?_
    refine thenX ?_
    refine thenX ?_
    refine leaveR ?_
    refine seqR (by kernel_rfl) ?_
    refine regionR 8 (by kernel_rfl) (by kernel_rfl) ?_
    refine (run0 (z := 6) 2 [1, 5, 7, 52, 53] [(1, .int .u8 w0), (5, .pointer (some ⟨k, 0, none⟩)), (7, .int .i64 (u : Int)), (52, .pointer (some ⟨k, 0, none⟩)), (53, .int .i64 (grPar u))] (fun _ => by kernel_rfl) ?_ : RT _ _ _ _ _ _ 8 _)
    refine (stepR (z := 5) (callS 12 [.pointer (some ⟨k, 0, none⟩), .int .i64 (grPar u), .int .i64 2] (some 54) (fun _ => .tuple #[.int .i64 ((u : Int) + 2), .nilIface]) (fun _ => (kerS k (chT x u) :: H)) (fun _ => by kernel_rfl) ((by have h := krSpawn H k (chS x u) (by show (u : Int) + 2 ≤ _; omega) (grPar u) 2; rw [e] at h; exact h))) (fun _ => ?_) : RT _ _ _ _ _ _ 6 _)
    refine (run0 (z := 0) 5 [1, 5, 7, 11, 12] [(1, .int .u8 w0), (5, .pointer (some ⟨k, 0, none⟩)), (7, .int .i64 (u : Int)), (11, .int .i64 ((u : Int) + 2)), (12, .nilIface)] (fun _ => by kernel_rfl) (endR ?_) : RT _ _ _ _ _ _ 5 _)
    refine seqR (by kernel_rfl) ?_
    refine seqR (by kernel_rfl) ?_
    refine regionR 8 (by kernel_rfl) (by kernel_rfl) ?_
    refine (run0 (z := 0) 8 [1, 5, 7, 11, 64] [(1, .int .u8 w0), (5, .pointer (some ⟨k, 0, none⟩)), (7, .int .i64 (u : Int)), (11, .int .i64 ((u : Int) + 2)), (64, .bool (((u : Int) + 2) != (IntKind.i64.wrap ((u : Int) + 2))))] (fun _ => by kernel_rfl) (endR ?_) : RT _ _ _ _ _ _ 8 _)
    rw [show IntKind.i64.wrap ((u : Int) + 2) = ((u : Int) + 2) by rw [w64 (by omega) (by omega)]]
    rw [show (((u : Int) + 2) != ((u : Int) + 2)) = false by simp]
    refine condR (b := false) (by kernel_rfl) (fun _ => by kernel_rfl) (fun h => by cases h) (fun _ => ?_)
    refine skipR (by kernel_rfl) ?_
    refine seqR (by kernel_rfl) ?_
    refine regionR 1 (by kernel_rfl) (by kernel_rfl) ?_
    refine (run0 (z := 0) 1 [1, 5, 7, 11, 13] [(1, .int .u8 w0), (5, .pointer (some ⟨k, 0, none⟩)), (7, .int .i64 (u : Int)), (11, .int .i64 ((u : Int) + 2)), (13, .int .i64 0)] (fun _ => by kernel_rfl) (endR ?_) : RT _ _ _ _ _ _ 1 _)
    refine seqR (by kernel_rfl) ?_
    refine seqR (by kernel_rfl) ?_
    refine regionR 1 (by kernel_rfl) (by kernel_rfl) ?_
    refine (run0 (z := 0) 1 [1, 5, 7, 11, 13, 14] [(1, .int .u8 w0), (5, .pointer (some ⟨k, 0, none⟩)), (7, .int .i64 (u : Int)), (11, .int .i64 ((u : Int) + 2)), (13, .int .i64 0), (14, .int .i64 0)] (fun _ => by kernel_rfl) (endR ?_) : RT _ _ _ _ _ _ 1 _)
    refine blockR 2 (by kernel_rfl) (by kernel_rfl) ?_
    refine PT.keep (L' := [(1, .int .u8 w0), (5, .pointer (some ⟨k, 0, none⟩)), (7, .int .i64 (u : Int)), (11, .int .i64 ((u : Int) + 2)), (13, .int .i64 0), (14, .int .i64 0)]) [1, 5, 7, 11, 13, 14] rfl ?_
    refine loopG (fun (q : KS × Nat × Nat) => [(1, .int .u8 w0), (5, .pointer (some ⟨k, 0, none⟩)), (7, .int .i64 (u : Int)), (11, .int .i64 ((u : Int) + 2)), (13, .int .i64 (q.2.2 : Int)), (14, .int .i64 (q.2.1 : Int))]) (fun (q : KS × Nat × Nat) => (kerS k q.1 :: H)) (fun k (q : KS × Nat × Nat) => k + q.2.1 = 34 ∧ GrI q.1 (grY x u) u q.2.1 q.2.2) 34 (chT x u, 0, 0) (by kernel_rfl) ⟨by simp only, ch_I x hd4 hk'⟩ ?_
    rintro j2 ⟨s2, v, hd2⟩ ⟨hjv, hI2⟩
    simp only at hjv hI2
    refine seqR (by kernel_rfl) ?_
    refine seqR (by kernel_rfl) ?_
    refine regionR 2 (by kernel_rfl) (by kernel_rfl) ?_
    refine (run0 (z := 0) 2 [1, 5, 7, 11, 13, 14, 66] [(1, .int .u8 w0), (5, .pointer (some ⟨k, 0, none⟩)), (7, .int .i64 (u : Int)), (11, .int .i64 ((u : Int) + 2)), (13, .int .i64 (hd2 : Int)), (14, .int .i64 (v : Int)), (66, .bool (decide ((v : Int) < 34)))] (fun _ => by kernel_rfl) (endR ?_) : RT _ _ _ _ _ _ 2 _)
    refine condR (b := decide ((v : Int) < 34)) (by kernel_rfl) (fun _ => by kernel_rfl) (fun h2 => ?_) (fun h2 => ?_)
    · skip
      have hv : v < 34 := by have := of_decide_eq_true h2; omega
      have hle := hI2.le
      obtain ⟨b, s3, e3, hI3⟩ := hI2.run
      cases b with
      | true =>
        simp only [if_true] at e3 hI3
        refine skipR (by kernel_rfl) ?_
        refine seqR (by kernel_rfl) ?_
        refine blockR 3 (by kernel_rfl) (by kernel_rfl) ?_
        refine seqR (by kernel_rfl) ?_
        refine regionR 7 (by kernel_rfl) (by kernel_rfl) ?_
        refine (run0 (z := 6) 1 [1, 5, 7, 11, 13, 14, 70] [(1, .int .u8 w0), (5, .pointer (some ⟨k, 0, none⟩)), (7, .int .i64 (u : Int)), (11, .int .i64 ((u : Int) + 2)), (13, .int .i64 (hd2 : Int)), (14, .int .i64 (v : Int)), (70, .pointer (some ⟨k, 0, none⟩))] (fun _ => by kernel_rfl) ?_ : RT _ _ _ _ _ _ 7 _)
        refine (stepR (z := 5) (callS 15 [.pointer (some ⟨k, 0, none⟩)] (some 71) (fun _ => .tuple #[.int .i64 ((u : Int) + 2), .bool true]) (fun _ => (kerS k s3 :: H)) (fun _ => by kernel_rfl) ((by have h := krRun H k s2; rw [e3] at h; exact h))) (fun _ => ?_) : RT _ _ _ _ _ _ 6 _)
        refine (run0 (z := 0) 5 [1, 5, 7, 11, 13, 14, 15, 16] [(1, .int .u8 w0), (5, .pointer (some ⟨k, 0, none⟩)), (7, .int .i64 (u : Int)), (11, .int .i64 ((u : Int) + 2)), (13, .int .i64 (hd2 : Int)), (14, .int .i64 (v : Int)), (15, .int .i64 ((u : Int) + 2)), (16, .bool true)] (fun _ => by kernel_rfl) (endR ?_) : RT _ _ _ _ _ _ 5 _)
        refine seqR (by kernel_rfl) ?_
        refine seqR (by kernel_rfl) ?_
        refine regionR 11 (by kernel_rfl) (by kernel_rfl) ?_
        refine (run0 (z := 5) 6 [1, 5, 7, 11, 13, 14, 15, 76, 79] [(1, .int .u8 w0), (5, .pointer (some ⟨k, 0, none⟩)), (7, .int .i64 (u : Int)), (11, .int .i64 ((u : Int) + 2)), (13, .int .i64 (hd2 : Int)), (14, .int .i64 (v : Int)), (15, .int .i64 ((u : Int) + 2)), (76, .bool false), (79, .bool (((u : Int) + 2) != 1))] (fun _ => by kernel_rfl) ?_ : RT _ _ _ _ _ _ 11 _)
        refine (segR (ι := Unit) (z := 1) 4 (fun _ => [(1, .int .u8 w0), (5, .pointer (some ⟨k, 0, none⟩)), (7, .int .i64 (u : Int)), (11, .int .i64 ((u : Int) + 2)), (13, .int .i64 (hd2 : Int)), (14, .int .i64 (v : Int)), (15, .int .i64 ((u : Int) + 2)), (76, .bool false), (83, .bool ((((u : Int) + 2) != 1) && (((u : Int) + 2) != ((u : Int) + 2))))]) (fun _ => (kerS k s3 :: H)) ?_ (fun _ => ?_) : RT _ _ _ _ _ _ 5 _)
        · cases hg6 : (((u : Int) + 2) != 1) with
          | true =>
            refine (run0 (z := 0) 4 [1, 5, 7, 11, 13, 14, 15, 76, 83] [(1, .int .u8 w0), (5, .pointer (some ⟨k, 0, none⟩)), (7, .int .i64 (u : Int)), (11, .int .i64 ((u : Int) + 2)), (13, .int .i64 (hd2 : Int)), (14, .int .i64 (v : Int)), (15, .int .i64 ((u : Int) + 2)), (76, .bool false), (83, .bool (((u : Int) + 2) != ((u : Int) + 2)))] (fun _ => by kernel_rfl) (endR ?_) : RT _ _ _ _ _ _ 4 _)
            refine PT.keep (L' := [(1, .int .u8 w0), (5, .pointer (some ⟨k, 0, none⟩)), (7, .int .i64 (u : Int)), (11, .int .i64 ((u : Int) + 2)), (13, .int .i64 (hd2 : Int)), (14, .int .i64 (v : Int)), (15, .int .i64 ((u : Int) + 2)), (76, .bool false), (83, .bool (true && (((u : Int) + 2) != ((u : Int) + 2))))]) [1, 5, 7, 11, 13, 14, 15, 76, 83] rfl ?_
            exact midR () rfl rfl
          | false =>
            refine (run0 (z := 0) 4 [1, 5, 7, 11, 13, 14, 15, 76, 83] [(1, .int .u8 w0), (5, .pointer (some ⟨k, 0, none⟩)), (7, .int .i64 (u : Int)), (11, .int .i64 ((u : Int) + 2)), (13, .int .i64 (hd2 : Int)), (14, .int .i64 (v : Int)), (15, .int .i64 ((u : Int) + 2)), (76, .bool false), (83, .bool false)] (fun _ => by kernel_rfl) (endR ?_) : RT _ _ _ _ _ _ 4 _)
            refine PT.keep (L' := [(1, .int .u8 w0), (5, .pointer (some ⟨k, 0, none⟩)), (7, .int .i64 (u : Int)), (11, .int .i64 ((u : Int) + 2)), (13, .int .i64 (hd2 : Int)), (14, .int .i64 (v : Int)), (15, .int .i64 ((u : Int) + 2)), (76, .bool false), (83, .bool (false && (((u : Int) + 2) != ((u : Int) + 2))))]) [1, 5, 7, 11, 13, 14, 15, 76, 83] rfl ?_
            exact midR () rfl rfl
        refine (run0 (z := 0) 1 [1, 5, 7, 11, 13, 14, 15, 84] [(1, .int .u8 w0), (5, .pointer (some ⟨k, 0, none⟩)), (7, .int .i64 (u : Int)), (11, .int .i64 ((u : Int) + 2)), (13, .int .i64 (hd2 : Int)), (14, .int .i64 (v : Int)), (15, .int .i64 ((u : Int) + 2)), (84, .bool ((((u : Int) + 2) != 1) && (((u : Int) + 2) != ((u : Int) + 2))))] (fun _ => by kernel_rfl) (endR ?_) : RT _ _ _ _ _ _ 1 _)
        rw [show ((((u : Int) + 2) != 1) && (((u : Int) + 2) != ((u : Int) + 2))) = false from by simp]
        refine condR (b := false) (by kernel_rfl) (fun _ => by kernel_rfl) (fun h => by cases h) (fun _ => ?_)
        refine skipR (by kernel_rfl) ?_
        refine seqR (by kernel_rfl) ?_
        refine regionR 3 (by kernel_rfl) (by kernel_rfl) ?_
        refine (run0 (z := 0) 3 [1, 5, 7, 11, 13, 14, 87] [(1, .int .u8 w0), (5, .pointer (some ⟨k, 0, none⟩)), (7, .int .i64 (u : Int)), (11, .int .i64 ((u : Int) + 2)), (13, .int .i64 (hd2 : Int)), (14, .int .i64 (v : Int)), (87, .bool (((u : Int) + 2) == ((u : Int) + 2)))] (fun _ => by kernel_rfl) (endR ?_) : RT _ _ _ _ _ _ 3 _)
        rw [show (((u : Int) + 2) == ((u : Int) + 2)) = true from by simp]
        refine condR (b := true) (by kernel_rfl) (fun _ => by kernel_rfl) (fun _ => ?_) (fun h => by cases h)
        refine regionR 3 (by kernel_rfl) (by kernel_rfl) ?_
        refine (run0 (z := 0) 3 [1, 5, 7, 11, 13, 14] [(1, .int .u8 w0), (5, .pointer (some ⟨k, 0, none⟩)), (7, .int .i64 (u : Int)), (11, .int .i64 ((u : Int) + 2)), (13, .int .i64 (IntKind.i64.wrap ((hd2 : Int) + 1))), (14, .int .i64 (v : Int))] (fun _ => by kernel_rfl) (endR ?_) : RT _ _ _ _ _ _ 3 _)
        refine regionR 3 (by kernel_rfl) (by kernel_rfl) ?_
        refine (run0 (z := 0) 3 [1, 5, 7, 11, 13, 14] [(1, .int .u8 w0), (5, .pointer (some ⟨k, 0, none⟩)), (7, .int .i64 (u : Int)), (11, .int .i64 ((u : Int) + 2)), (13, .int .i64 (IntKind.i64.wrap ((hd2 : Int) + 1))), (14, .int .i64 (IntKind.i64.wrap ((v : Int) + 1)))] (fun _ => by kernel_rfl) (endR ?_) : RT _ _ _ _ _ _ 3 _)
        rw [show IntKind.i64.wrap ((hd2 : Int) + 1) = ((hd2 : Int) + 1) by rw [w64 (by omega) (by omega)]]
        rw [show IntKind.i64.wrap ((v : Int) + 1) = ((v : Int) + 1) by rw [w64 (by omega) (by omega)]]
        refine PT.keep (L' := [(1, .int .u8 w0), (5, .pointer (some ⟨k, 0, none⟩)), (7, .int .i64 (u : Int)), (11, .int .i64 ((u : Int) + 2)), (13, .int .i64 ((hd2 : Int) + 1)), (14, .int .i64 ((v : Int) + 1))]) [1, 5, 7, 11, 13, 14] rfl ?_
        exact againG (j2 - 1) (s3, v + 1, hd2 + 1) rfl rfl (by omega) ⟨by simp only; omega, hI3⟩
      | false =>
        simp only [Bool.false_eq_true, if_false] at e3 hI3
        refine skipR (by kernel_rfl) ?_
        refine seqR (by kernel_rfl) ?_
        refine blockR 3 (by kernel_rfl) (by kernel_rfl) ?_
        refine seqR (by kernel_rfl) ?_
        refine regionR 7 (by kernel_rfl) (by kernel_rfl) ?_
        refine (run0 (z := 6) 1 [1, 5, 7, 11, 13, 14, 70] [(1, .int .u8 w0), (5, .pointer (some ⟨k, 0, none⟩)), (7, .int .i64 (u : Int)), (11, .int .i64 ((u : Int) + 2)), (13, .int .i64 (hd2 : Int)), (14, .int .i64 (v : Int)), (70, .pointer (some ⟨k, 0, none⟩))] (fun _ => by kernel_rfl) ?_ : RT _ _ _ _ _ _ 7 _)
        refine (stepR (z := 5) (callS 15 [.pointer (some ⟨k, 0, none⟩)] (some 71) (fun _ => .tuple #[.int .i64 1, .bool true]) (fun _ => (kerS k s3 :: H)) (fun _ => by kernel_rfl) ((by have h := krRun H k s2; rw [e3] at h; exact h))) (fun _ => ?_) : RT _ _ _ _ _ _ 6 _)
        refine (run0 (z := 0) 5 [1, 5, 7, 11, 13, 14, 15, 16] [(1, .int .u8 w0), (5, .pointer (some ⟨k, 0, none⟩)), (7, .int .i64 (u : Int)), (11, .int .i64 ((u : Int) + 2)), (13, .int .i64 (hd2 : Int)), (14, .int .i64 (v : Int)), (15, .int .i64 1), (16, .bool true)] (fun _ => by kernel_rfl) (endR ?_) : RT _ _ _ _ _ _ 5 _)
        refine seqR (by kernel_rfl) ?_
        refine seqR (by kernel_rfl) ?_
        refine regionR 11 (by kernel_rfl) (by kernel_rfl) ?_
        refine (run0 (z := 0) 11 [1, 5, 7, 11, 13, 14, 15, 84] [(1, .int .u8 w0), (5, .pointer (some ⟨k, 0, none⟩)), (7, .int .i64 (u : Int)), (11, .int .i64 ((u : Int) + 2)), (13, .int .i64 (hd2 : Int)), (14, .int .i64 (v : Int)), (15, .int .i64 1), (84, .bool false)] (fun _ => by kernel_rfl) (endR ?_) : RT _ _ _ _ _ _ 11 _)
        refine condR (b := false) (by kernel_rfl) (fun _ => by kernel_rfl) (fun h => by cases h) (fun _ => ?_)
        refine skipR (by kernel_rfl) ?_
        refine seqR (by kernel_rfl) ?_
        refine regionR 3 (by kernel_rfl) (by kernel_rfl) ?_
        refine (run0 (z := 0) 3 [1, 5, 7, 11, 13, 14, 87] [(1, .int .u8 w0), (5, .pointer (some ⟨k, 0, none⟩)), (7, .int .i64 (u : Int)), (11, .int .i64 ((u : Int) + 2)), (13, .int .i64 (hd2 : Int)), (14, .int .i64 (v : Int)), (87, .bool (1 == ((u : Int) + 2)))] (fun _ => by kernel_rfl) (endR ?_) : RT _ _ _ _ _ _ 3 _)
        rw [show (1 == ((u : Int) + 2)) = false from by simp; omega]
        refine condR (b := false) (by kernel_rfl) (fun _ => by kernel_rfl) (fun h => by cases h) (fun _ => ?_)
        refine skipR (by kernel_rfl) ?_
        refine regionR 3 (by kernel_rfl) (by kernel_rfl) ?_
        refine (run0 (z := 0) 3 [1, 5, 7, 11, 13, 14] [(1, .int .u8 w0), (5, .pointer (some ⟨k, 0, none⟩)), (7, .int .i64 (u : Int)), (11, .int .i64 ((u : Int) + 2)), (13, .int .i64 (hd2 : Int)), (14, .int .i64 (IntKind.i64.wrap ((v : Int) + 1)))] (fun _ => by kernel_rfl) (endR ?_) : RT _ _ _ _ _ _ 3 _)
        rw [show IntKind.i64.wrap ((v : Int) + 1) = ((v : Int) + 1) by rw [w64 (by omega) (by omega)]]
        refine PT.keep (L' := [(1, .int .u8 w0), (5, .pointer (some ⟨k, 0, none⟩)), (7, .int .i64 (u : Int)), (11, .int .i64 ((u : Int) + 2)), (13, .int .i64 (hd2 : Int)), (14, .int .i64 ((v : Int) + 1))]) [1, 5, 7, 11, 13, 14] rfl ?_
        exact againG (j2 - 1) (s3, v + 1, hd2) rfl rfl (by omega) ⟨by simp only; omega, hI3⟩
    · skip
      have hv : v = 34 := by have := of_decide_eq_false h2; omega
      rw [hv] at hI2
      refine exitR 2 (by kernel_rfl) (by kernel_rfl) ?_
      refine thenX ?_
      refine thenX ?_
      refine leaveR ?_
      refine seqR (by kernel_rfl) ?_
      refine regionR 1 (by kernel_rfl) (by kernel_rfl) ?_
      refine (run0 (z := 0) 1 [1, 7, 13, 17] [(1, .int .u8 w0), (7, .int .i64 (u : Int)), (13, .int .i64 (hd2 : Int)), (17, .int .i64 2)] (fun _ => by kernel_rfl) (endR ?_) : RT _ _ _ _ _ _ 1 _)
      refine seqR (by kernel_rfl) ?_
      refine seqR (by kernel_rfl) ?_
      refine regionR 2 (by kernel_rfl) (by kernel_rfl) ?_
      refine (run0 (z := 0) 2 [1, 13, 17, 91] [(1, .int .u8 w0), (13, .int .i64 (hd2 : Int)), (17, .int .i64 2), (91, .bool (decide ((u : Int) > 0)))] (fun _ => by kernel_rfl) (endR ?_) : RT _ _ _ _ _ _ 2 _)
      refine condR (b := decide ((u : Int) > 0)) (by kernel_rfl) (fun _ => by kernel_rfl) (fun h3 => ?_) (fun h3 => ?_)
      · skip
        have hy : grY x u = x := by rw [grY, if_neg (by have := of_decide_eq_true h3; omega)]
        rw [hy] at hI2
        have hdn := hI2.done hx
        refine regionR 5 (by kernel_rfl) (by kernel_rfl) ?_
        refine (run0 (z := 0) 5 [13, 17] [(13, .int .i64 (hd2 : Int)), (17, .int .i64 (IntKind.i64.wrap ((IntKind.i64.wrap (Int.tmod w0 16)) + 1)))] (fun _ => by kernel_rfl) (endR ?_) : RT _ _ _ _ _ _ 5 _)
        refine seqR (by kernel_rfl) ?_
        refine regionR 25 (by kernel_rfl) (by kernel_rfl) ?_
        refine (run0 (z := 13) 12 [13, 17, 107] [(13, .int .i64 (hd2 : Int)), (17, .int .i64 (IntKind.i64.wrap ((IntKind.i64.wrap (Int.tmod w0 16)) + 1))), (107, .bool (decide ((IntKind.i64.wrap ((hd2 : Int) * (IntKind.i64.wrap ((IntKind.i64.wrap ((IntKind.i64.wrap (Int.tmod w0 16)) + 1)) + 1)))) ≥ (IntKind.i64.wrap ((IntKind.i64.wrap (34 * (IntKind.i64.wrap ((IntKind.i64.wrap (Int.tmod w0 16)) + 1)))) - (IntKind.i64.wrap (2 * (IntKind.i64.wrap ((IntKind.i64.wrap ((IntKind.i64.wrap (Int.tmod w0 16)) + 1)) + 1)))))))))] (fun _ => by kernel_rfl) ?_ : RT _ _ _ _ _ _ 25 _)
        refine (segR (ι := Unit) (z := 1) 12 (fun _ => [(119, .bool ((decide ((IntKind.i64.wrap ((hd2 : Int) * (IntKind.i64.wrap ((IntKind.i64.wrap ((IntKind.i64.wrap (Int.tmod w0 16)) + 1)) + 1)))) ≥ (IntKind.i64.wrap ((IntKind.i64.wrap (34 * (IntKind.i64.wrap ((IntKind.i64.wrap (Int.tmod w0 16)) + 1)))) - (IntKind.i64.wrap (2 * (IntKind.i64.wrap ((IntKind.i64.wrap ((IntKind.i64.wrap (Int.tmod w0 16)) + 1)) + 1)))))))) && (decide ((IntKind.i64.wrap ((hd2 : Int) * (IntKind.i64.wrap ((IntKind.i64.wrap ((IntKind.i64.wrap (Int.tmod w0 16)) + 1)) + 1)))) ≤ (IntKind.i64.wrap ((IntKind.i64.wrap (34 * (IntKind.i64.wrap ((IntKind.i64.wrap (Int.tmod w0 16)) + 1)))) + (IntKind.i64.wrap (2 * (IntKind.i64.wrap ((IntKind.i64.wrap ((IntKind.i64.wrap (Int.tmod w0 16)) + 1)) + 1))))))))))]) (fun _ => (kerS k s2 :: H)) ?_ (fun _ => ?_) : RT _ _ _ _ _ _ 13 _)
        · cases hg12 : (decide ((IntKind.i64.wrap ((hd2 : Int) * (IntKind.i64.wrap ((IntKind.i64.wrap ((IntKind.i64.wrap (Int.tmod w0 16)) + 1)) + 1)))) ≥ (IntKind.i64.wrap ((IntKind.i64.wrap (34 * (IntKind.i64.wrap ((IntKind.i64.wrap (Int.tmod w0 16)) + 1)))) - (IntKind.i64.wrap (2 * (IntKind.i64.wrap ((IntKind.i64.wrap ((IntKind.i64.wrap (Int.tmod w0 16)) + 1)) + 1)))))))) with
          | true =>
            refine (run0 (z := 0) 12 [119] [(119, .bool (decide ((IntKind.i64.wrap ((hd2 : Int) * (IntKind.i64.wrap ((IntKind.i64.wrap ((IntKind.i64.wrap (Int.tmod w0 16)) + 1)) + 1)))) ≤ (IntKind.i64.wrap ((IntKind.i64.wrap (34 * (IntKind.i64.wrap ((IntKind.i64.wrap (Int.tmod w0 16)) + 1)))) + (IntKind.i64.wrap (2 * (IntKind.i64.wrap ((IntKind.i64.wrap ((IntKind.i64.wrap (Int.tmod w0 16)) + 1)) + 1)))))))))] (fun _ => by kernel_rfl) (endR ?_) : RT _ _ _ _ _ _ 12 _)
            refine PT.keep (L' := [(119, .bool (true && (decide ((IntKind.i64.wrap ((hd2 : Int) * (IntKind.i64.wrap ((IntKind.i64.wrap ((IntKind.i64.wrap (Int.tmod w0 16)) + 1)) + 1)))) ≤ (IntKind.i64.wrap ((IntKind.i64.wrap (34 * (IntKind.i64.wrap ((IntKind.i64.wrap (Int.tmod w0 16)) + 1)))) + (IntKind.i64.wrap (2 * (IntKind.i64.wrap ((IntKind.i64.wrap ((IntKind.i64.wrap (Int.tmod w0 16)) + 1)) + 1))))))))))]) [119] rfl ?_
            exact midR () rfl rfl
          | false =>
            refine (run0 (z := 0) 12 [119] [(119, .bool false)] (fun _ => by kernel_rfl) (endR ?_) : RT _ _ _ _ _ _ 12 _)
            refine PT.keep (L' := [(119, .bool (false && (decide ((IntKind.i64.wrap ((hd2 : Int) * (IntKind.i64.wrap ((IntKind.i64.wrap ((IntKind.i64.wrap (Int.tmod w0 16)) + 1)) + 1)))) ≤ (IntKind.i64.wrap ((IntKind.i64.wrap (34 * (IntKind.i64.wrap ((IntKind.i64.wrap (Int.tmod w0 16)) + 1)))) + (IntKind.i64.wrap (2 * (IntKind.i64.wrap ((IntKind.i64.wrap ((IntKind.i64.wrap (Int.tmod w0 16)) + 1)) + 1))))))))))]) [119] rfl ?_
            exact midR () rfl rfl
        refine (run0 (z := 0) 1 [4] [(4, .bool ((decide ((IntKind.i64.wrap ((hd2 : Int) * (IntKind.i64.wrap ((IntKind.i64.wrap ((IntKind.i64.wrap (Int.tmod w0 16)) + 1)) + 1)))) ≥ (IntKind.i64.wrap ((IntKind.i64.wrap (34 * (IntKind.i64.wrap ((IntKind.i64.wrap (Int.tmod w0 16)) + 1)))) - (IntKind.i64.wrap (2 * (IntKind.i64.wrap ((IntKind.i64.wrap ((IntKind.i64.wrap (Int.tmod w0 16)) + 1)) + 1)))))))) && (decide ((IntKind.i64.wrap ((hd2 : Int) * (IntKind.i64.wrap ((IntKind.i64.wrap ((IntKind.i64.wrap (Int.tmod w0 16)) + 1)) + 1)))) ≤ (IntKind.i64.wrap ((IntKind.i64.wrap (34 * (IntKind.i64.wrap ((IntKind.i64.wrap (Int.tmod w0 16)) + 1)))) + (IntKind.i64.wrap (2 * (IntKind.i64.wrap ((IntKind.i64.wrap ((IntKind.i64.wrap (Int.tmod w0 16)) + 1)) + 1))))))))))] (fun _ => by kernel_rfl) (endR ?_) : RT _ _ _ _ _ _ 1 _)
        refine retR (by kernel_rfl) ?_
        rw [show IntKind.i64.wrap ((IntKind.i64.wrap (Int.tmod w0 16)) + 1) = x by exact hxw]
        rw [show IntKind.i64.wrap ((x) + 1) = ((x) + 1) by rw [w64 (by omega) (by omega)]]
        rw [show IntKind.i64.wrap ((hd2 : Int) * ((x) + 1)) = ((hd2 : Int) * ((x) + 1)) by rw [w64 (by omega) (by omega)]]
        rw [show IntKind.i64.wrap (34 * x) = (34 * x) by rw [w64 (by omega) (by omega)]]
        rw [show IntKind.i64.wrap (2 * ((x) + 1)) = (2 * ((x) + 1)) by rw [w64 (by omega) (by omega)]]
        rw [show IntKind.i64.wrap ((34 * x) - (2 * ((x) + 1))) = ((34 * x) - (2 * ((x) + 1))) by rw [w64 (by omega) (by omega)]]
        rw [show IntKind.i64.wrap ((34 * x) + (2 * ((x) + 1))) = ((34 * x) + (2 * ((x) + 1))) by rw [w64 (by omega) (by omega)]]
        refine done0 (.bool ((decide (((hd2 : Int) * ((x) + 1)) ≥ ((34 * x) - (2 * ((x) + 1))))) && (decide (((hd2 : Int) * ((x) + 1)) ≤ ((34 * x) + (2 * ((x) + 1))))))) (fun _ => by kernel_rfl) (fun w hs => ?_) .ret (.inr rfl)
        exact ⟨(), by rw [decide_eq_true (by omega), decide_eq_true (by omega)]; rfl, hs.tail⟩
      · skip
        have hu0 : u = 0 := by have := of_decide_eq_false h3; omega
        have hy : grY x u = 2 := by rw [grY, if_pos hu0]
        rw [hy] at hI2
        have hdn := hI2.done (by decide)
        refine skipR (by kernel_rfl) ?_
        refine seqR (by kernel_rfl) ?_
        refine regionR 25 (by kernel_rfl) (by kernel_rfl) ?_
        refine (run0 (z := 13) 12 [13, 17, 107] [(13, .int .i64 (hd2 : Int)), (17, .int .i64 2), (107, .bool (decide ((IntKind.i64.wrap ((hd2 : Int) * (IntKind.i64.wrap (2 + 1)))) ≥ (IntKind.i64.wrap ((IntKind.i64.wrap (34 * 2)) - (IntKind.i64.wrap (2 * (IntKind.i64.wrap (2 + 1)))))))))] (fun _ => by kernel_rfl) ?_ : RT _ _ _ _ _ _ 25 _)
        refine (segR (ι := Unit) (z := 1) 12 (fun _ => [(119, .bool ((decide ((IntKind.i64.wrap ((hd2 : Int) * (IntKind.i64.wrap (2 + 1)))) ≥ (IntKind.i64.wrap ((IntKind.i64.wrap (34 * 2)) - (IntKind.i64.wrap (2 * (IntKind.i64.wrap (2 + 1)))))))) && (decide ((IntKind.i64.wrap ((hd2 : Int) * (IntKind.i64.wrap (2 + 1)))) ≤ (IntKind.i64.wrap ((IntKind.i64.wrap (34 * 2)) + (IntKind.i64.wrap (2 * (IntKind.i64.wrap (2 + 1))))))))))]) (fun _ => (kerS k s2 :: H)) ?_ (fun _ => ?_) : RT _ _ _ _ _ _ 13 _)
        · cases hg12 : (decide ((IntKind.i64.wrap ((hd2 : Int) * (IntKind.i64.wrap (2 + 1)))) ≥ (IntKind.i64.wrap ((IntKind.i64.wrap (34 * 2)) - (IntKind.i64.wrap (2 * (IntKind.i64.wrap (2 + 1)))))))) with
          | true =>
            refine (run0 (z := 0) 12 [119] [(119, .bool (decide ((IntKind.i64.wrap ((hd2 : Int) * (IntKind.i64.wrap (2 + 1)))) ≤ (IntKind.i64.wrap ((IntKind.i64.wrap (34 * 2)) + (IntKind.i64.wrap (2 * (IntKind.i64.wrap (2 + 1)))))))))] (fun _ => by kernel_rfl) (endR ?_) : RT _ _ _ _ _ _ 12 _)
            refine PT.keep (L' := [(119, .bool (true && (decide ((IntKind.i64.wrap ((hd2 : Int) * (IntKind.i64.wrap (2 + 1)))) ≤ (IntKind.i64.wrap ((IntKind.i64.wrap (34 * 2)) + (IntKind.i64.wrap (2 * (IntKind.i64.wrap (2 + 1))))))))))]) [119] rfl ?_
            exact midR () rfl rfl
          | false =>
            refine (run0 (z := 0) 12 [119] [(119, .bool false)] (fun _ => by kernel_rfl) (endR ?_) : RT _ _ _ _ _ _ 12 _)
            refine PT.keep (L' := [(119, .bool (false && (decide ((IntKind.i64.wrap ((hd2 : Int) * (IntKind.i64.wrap (2 + 1)))) ≤ (IntKind.i64.wrap ((IntKind.i64.wrap (34 * 2)) + (IntKind.i64.wrap (2 * (IntKind.i64.wrap (2 + 1))))))))))]) [119] rfl ?_
            exact midR () rfl rfl
        refine (run0 (z := 0) 1 [4] [(4, .bool ((decide ((IntKind.i64.wrap ((hd2 : Int) * (IntKind.i64.wrap (2 + 1)))) ≥ (IntKind.i64.wrap ((IntKind.i64.wrap (34 * 2)) - (IntKind.i64.wrap (2 * (IntKind.i64.wrap (2 + 1)))))))) && (decide ((IntKind.i64.wrap ((hd2 : Int) * (IntKind.i64.wrap (2 + 1)))) ≤ (IntKind.i64.wrap ((IntKind.i64.wrap (34 * 2)) + (IntKind.i64.wrap (2 * (IntKind.i64.wrap (2 + 1))))))))))] (fun _ => by kernel_rfl) (endR ?_) : RT _ _ _ _ _ _ 1 _)
        refine retR (by kernel_rfl) ?_
        rw [show IntKind.i64.wrap (2 + 1) = (2 + 1) by rw [w64 (by omega) (by omega)]]
        rw [show IntKind.i64.wrap ((hd2 : Int) * (2 + 1)) = ((hd2 : Int) * (2 + 1)) by rw [w64 (by omega) (by omega)]]
        rw [show IntKind.i64.wrap (34 * 2) = (34 * 2) by rw [w64 (by omega) (by omega)]]
        rw [show IntKind.i64.wrap (2 * (2 + 1)) = (2 * (2 + 1)) by rw [w64 (by omega) (by omega)]]
        rw [show IntKind.i64.wrap ((34 * 2) - (2 * (2 + 1))) = ((34 * 2) - (2 * (2 + 1))) by rw [w64 (by omega) (by omega)]]
        rw [show IntKind.i64.wrap ((34 * 2) + (2 * (2 + 1))) = ((34 * 2) + (2 * (2 + 1))) by rw [w64 (by omega) (by omega)]]
        refine done0 (.bool ((decide (((hd2 : Int) * (2 + 1)) ≥ ((34 * 2) - (2 * (2 + 1))))) && (decide (((hd2 : Int) * (2 + 1)) ≤ ((34 * 2) + (2 * (2 + 1))))))) (fun _ => by kernel_rfl) (fun w hs => ?_) .ret (.inr rfl)
        exact ⟨(), by rw [decide_eq_true (by omega), decide_eq_true (by omega)]; rfl, hs.tail⟩
theorem groups_row (W : World) (n v : Int) (hn : (Lit.int .u8 n).wf = true) (hv : (Lit.int .u8 v).wf = true) : Calls Tryz.prog 6 #[.int .u8 n, .int .u8 v] W (LawPost W) :=
  lawPost (fun _ _ h => h) (groups10_walk [old W] n v (u8_wf hn) (u8_wf hv) W (Sat.start W))
end Go.Proofs.YtlhjibkkkhgonaaGreat
