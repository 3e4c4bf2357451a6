/- Texts put together: KernelAlone: its walk. Conditions: none. -/
import Derived.Test.YtlhjibkkkhgonaaGreatMgKb6
set_option linter.unusedVariables false
set_option linter.unusedSimpArgs false
namespace Go.Proofs.YtlhjibkkkhgonaaGreat
open Go.RowKit G
set_option maxHeartbeats 1000000 in
set_option maxRecDepth 100000 in
theorem alone10_walk (H : List SP) (n tu : Int) (hn : 0 ≤ n ∧ n < 256) (ht : 0 ≤ tu ∧ tu < 256) : ∀ w, Sat w H → Calls Tryz.prog 8 #[.int .u8 n, .int .u8 tu] w (Ret (ι := Unit) (fun _ => .bool true) fun _ => H) := by
  have hnm := tmod_range hn.1 (m := 3) (by omega)
  obtain ⟨m, hm⟩ : ∃ m : Nat, Int.tmod n 3 + 2 = (m : Int) := ⟨(Int.tmod n 3 + 2).toNat, by omega⟩
  refine enterG (fn := Tryz.f8) 105 [.int .u8 n, .int .u8 tu] Tryz.func8 (by kernel_rfl) (by kernel_rfl) (by kernel_rfl) ?_
  refine seqR (by kernel_rfl) ?_
  refine regionR 1 (by kernel_rfl) (by kernel_rfl) ?_
  refine (run0 (z := 0) 1 [0, 1, 4] [(0, .int .u8 n), (1, .int .u8 tu), (4, .bool false)] (fun _ => by kernel_rfl) (endR ?_) : RT _ _ _ _ _ _ 1 _)
  refine seqR (by kernel_rfl) ?_
  refine seqR (by kernel_rfl) ?_
  refine regionR 2 (by kernel_rfl) (by kernel_rfl) ?_
  refine (stepR (z := 1) (callS 10 [] (some 19) (fun _ => .bool true) (fun (_ : Unit) => (H)) (fun _ => by kernel_rfl) (known10 _)) (fun _ => ?_) : RT _ _ _ _ _ _ 2 _)
  refine (run0 (z := 0) 1 [0, 1, 4, 20] [(0, .int .u8 n), (1, .int .u8 tu), (4, .bool false), (20, .bool false)] (fun _ => by kernel_rfl) (endR ?_) : RT _ _ _ _ _ _ 1 _)
  refine condR (b := false) (by kernel_rfl) (fun _ => by kernel_rfl) (fun h => by cases h) (fun _ => ?_)
  refine skipR (by kernel_rfl) ?_
  refine seqR (by kernel_rfl) ?_
  refine regionR 2 (by kernel_rfl) (by kernel_rfl) ?_
  refine (stepR (z := 1) (callS 11 [.int .i64 8, .int .i64 0] (some 21) (fun (k : Nat) => .pointer (some ⟨k, 0, none⟩)) (fun (k : Nat) => (kerS k (k0 (mtOf 8) (mgOf 0)) :: H)) (fun _ => by kernel_rfl) (knew_walk _ 8 0)) (fun (k : Nat) => ?_) : RT _ _ _ _ _ _ 2 _)
  refine (run0 (z := 0) 1 [0, 1, 4, 5] [(0, .int .u8 n), (1, .int .u8 tu), (4, .bool false), (5, .pointer (some ⟨k, 0, none⟩))] (fun _ => by kernel_rfl) (endR ?_) : RT _ _ _ _ _ _ 1 _)
  refine seqR (by kernel_rfl) ?_
  refine regionR 5 (by kernel_rfl) (by kernel_rfl) ?_
  refine (run0 (z := 0) 5 [1, 4, 5, 6] [(1, .int .u8 tu), (4, .bool false), (5, .pointer (some ⟨k, 0, none⟩)), (6, .int .i64 (IntKind.i64.wrap ((IntKind.i64.wrap (Int.tmod n 3)) + 2)))] (fun _ => by kernel_rfl) (endR ?_) : RT _ _ _ _ _ _ 5 _)
  refine seqR (by kernel_rfl) ?_
  refine seqR (by kernel_rfl) ?_
  refine regionR 1 (by kernel_rfl) (by kernel_rfl) ?_
  refine (run0 (z := 0) 1 [1, 4, 5, 6, 7] [(1, .int .u8 tu), (4, .bool false), (5, .pointer (some ⟨k, 0, none⟩)), (6, .int .i64 (IntKind.i64.wrap ((IntKind.i64.wrap (Int.tmod n 3)) + 2))), (7, .int .i64 2)] (fun _ => by kernel_rfl) (endR ?_) : RT _ _ _ _ _ _ 1 _)
  refine blockR 0 (by kernel_rfl) (by kernel_rfl) ?_
  rw [show IntKind.i64.wrap ((IntKind.i64.wrap (Int.tmod n 3)) + 2) = (m : Int) by rw [w64 (n := Int.tmod n 3) (by omega) (by omega), w64 (by omega) (by omega)]; exact hm]
  refine PT.keep (L' := [(1, .int .u8 tu), (5, .pointer (some ⟨k, 0, none⟩)), (6, .int .i64 (m : Int)), (7, .int .i64 2)]) [1, 5, 6, 7] rfl ?_
  refine loopG (fun (q : KS × Nat) => [(1, .int .u8 tu), (5, .pointer (some ⟨k, 0, none⟩)), (6, .int .i64 (m : Int)), (7, .int .i64 ((q.2 : Int) + 2))]) (fun (q : KS × Nat) => (kerS k q.1 :: H)) (fun k (q : KS × Nat) => k + q.2 + 1 = m ∧ SpI q.1 q.2) (m - 1) (k0 (mtOf 8) (mgOf 0), 0) (by kernel_rfl) ⟨by simp only; omega, SpI.start⟩ ?_
  rintro j ⟨s, u⟩ ⟨hju, hI⟩
  simp only at hju hI
  refine seqR (by kernel_rfl) ?_
  refine seqR (by kernel_rfl) ?_
  refine regionR 3 (by kernel_rfl) (by kernel_rfl) ?_
  refine (run0 (z := 0) 3 [1, 5, 6, 7, 28] [(1, .int .u8 tu), (5, .pointer (some ⟨k, 0, none⟩)), (6, .int .i64 (m : Int)), (7, .int .i64 ((u : Int) + 2)), (28, .bool (decide (((u : Int) + 2) ≤ (m : Int))))] (fun _ => by kernel_rfl) (endR ?_) : RT _ _ _ _ _ _ 3 _)
  refine condR (b := decide (((u : Int) + 2) ≤ (m : Int))) (by kernel_rfl) (fun _ => by kernel_rfl) (fun h1 => ?_) (fun h1 => ?_)
  · skip
    have hu : u + 1 < m := by have := of_decide_eq_true h1; omega
    obtain ⟨s', e, hI'⟩ := hI.add (by omega)
    refine skipR (by kernel_rfl) ?_
    refine seqR (by kernel_rfl) ?_
    refine blockR 1 (by kernel_rfl) (by kernel_rfl) ?_
    refine seqR (by kernel_rfl) ?_
    refine regionR 7 (by kernel_rfl) (by kernel_rfl) ?_
    refine (run0 (z := 6) 1 [1, 5, 6, 7, 32] [(1, .int .u8 tu), (5, .pointer (some ⟨k, 0, none⟩)), (6, .int .i64 (m : Int)), (7, .int .i64 ((u : Int) + 2)), (32, .pointer (some ⟨k, 0, none⟩))] (fun _ => by kernel_rfl) ?_ : RT _ _ _ _ _ _ 7 _)
    refine (stepR (z := 5) (callS 12 [.pointer (some ⟨k, 0, none⟩), .int .i64 0, .int .i64 1] (some 33) (fun _ => .tuple #[.int .i64 ((u : Int) + 2), .nilIface]) (fun _ => (kerS k s' :: H)) (fun _ => by kernel_rfl) ((by have h := krSpawn H k s (by have := hI.nx; omega) 0 1; rw [e] at h; exact h))) (fun _ => ?_) : RT _ _ _ _ _ _ 6 _)
    refine (run0 (z := 0) 5 [1, 5, 6, 7, 8, 9] [(1, .int .u8 tu), (5, .pointer (some ⟨k, 0, none⟩)), (6, .int .i64 (m : Int)), (7, .int .i64 ((u : Int) + 2)), (8, .int .i64 ((u : Int) + 2)), (9, .nilIface)] (fun _ => by kernel_rfl) (endR ?_) : RT _ _ _ _ _ _ 5 _)
    refine seqR (by kernel_rfl) ?_
    refine regionR 7 (by kernel_rfl) (by kernel_rfl) ?_
    refine (run0 (z := 0) 7 [1, 5, 6, 7, 42] [(1, .int .u8 tu), (5, .pointer (some ⟨k, 0, none⟩)), (6, .int .i64 (m : Int)), (7, .int .i64 ((u : Int) + 2)), (42, .bool (((u : Int) + 2) != ((u : Int) + 2)))] (fun _ => by kernel_rfl) (endR ?_) : RT _ _ _ _ _ _ 7 _)
    rw [show (((u : Int) + 2) != ((u : Int) + 2)) = false from by simp]
    refine condR (b := false) (by kernel_rfl) (fun _ => by kernel_rfl) (fun h => by cases h) (fun _ => ?_)
    refine skipR (by kernel_rfl) ?_
    refine regionR 3 (by kernel_rfl) (by kernel_rfl) ?_
    refine (run0 (z := 0) 3 [1, 5, 6, 7] [(1, .int .u8 tu), (5, .pointer (some ⟨k, 0, none⟩)), (6, .int .i64 (m : Int)), (7, .int .i64 (IntKind.i64.wrap (((u : Int) + 2) + 1)))] (fun _ => by kernel_rfl) (endR ?_) : RT _ _ _ _ _ _ 3 _)
    rw [show IntKind.i64.wrap (((u : Int) + 2) + 1) = (((u : Int) + 2) + 1) by rw [w64 (by omega) (by omega)]]
    rw [show (((u : Int) + 2) + 1) = (((u + 1 : Nat) : Int) + 2) by omega]
    refine PT.keep (L' := [(1, .int .u8 tu), (5, .pointer (some ⟨k, 0, none⟩)), (6, .int .i64 (m : Int)), (7, .int .i64 (((u + 1 : Nat) : Int) + 2))]) [1, 5, 6, 7] rfl ?_
    exact againG (j - 1) (s', u + 1) rfl rfl (by omega) ⟨by simp only; omega, hI'⟩
  · skip
    have hu : u + 1 = m := by have := of_decide_eq_false h1; omega
    have hA := hI.al
    rw [hu] at hA
    refine exitR 0 (by kernel_rfl) (by kernel_rfl) ?_
    refine thenX ?_
    refine thenX ?_
    refine leaveR ?_
    refine seqR (by kernel_rfl) ?_
    refine seqR (by kernel_rfl) ?_
    refine regionR 1 (by kernel_rfl) (by kernel_rfl) ?_
    refine (run0 (z := 0) 1 [1, 5, 6, 10] [(1, .int .u8 tu), (5, .pointer (some ⟨k, 0, none⟩)), (6, .int .i64 (m : Int)), (10, .int .i64 1)] (fun _ => by kernel_rfl) (endR ?_) : RT _ _ _ _ _ _ 1 _)
    refine blockR 2 (by kernel_rfl) (by kernel_rfl) ?_
    refine PT.keep (L' := [(1, .int .u8 tu), (5, .pointer (some ⟨k, 0, none⟩)), (6, .int .i64 (m : Int)), (10, .int .i64 1)]) [1, 5, 6, 10] rfl ?_
    refine loopG (fun (q : KS × Nat) => [(1, .int .u8 tu), (5, .pointer (some ⟨k, 0, none⟩)), (6, .int .i64 (m : Int)), (10, .int .i64 ((q.2 : Int) + 1))]) (fun (q : KS × Nat) => (kerS k q.1 :: H)) (fun k (q : KS × Nat) => k + q.2 = m ∧ AlI q.1 m q.2) m (s, 0) (by kernel_rfl) ⟨by simp only; omega, hA⟩ ?_
    rintro j2 ⟨s2, v⟩ ⟨hjv, hI2⟩
    simp only at hjv hI2
    refine seqR (by kernel_rfl) ?_
    refine seqR (by kernel_rfl) ?_
    refine regionR 3 (by kernel_rfl) (by kernel_rfl) ?_
    refine (run0 (z := 0) 3 [1, 5, 6, 10, 45] [(1, .int .u8 tu), (5, .pointer (some ⟨k, 0, none⟩)), (6, .int .i64 (m : Int)), (10, .int .i64 ((v : Int) + 1)), (45, .bool (decide (((v : Int) + 1) ≤ (m : Int))))] (fun _ => by kernel_rfl) (endR ?_) : RT _ _ _ _ _ _ 3 _)
    refine condR (b := decide (((v : Int) + 1) ≤ (m : Int))) (by kernel_rfl) (fun _ => by kernel_rfl) (fun h2 => ?_) (fun h2 => ?_)
    · skip
      have hv : v < m := by have := of_decide_eq_true h2; omega
      obtain ⟨s', e, hI'⟩ := hI2.wait hv (by omega)
      refine skipR (by kernel_rfl) ?_
      refine seqR (by kernel_rfl) ?_
      refine blockR 3 (by kernel_rfl) (by kernel_rfl) ?_
      refine seqR (by kernel_rfl) ?_
      refine regionR 10 (by kernel_rfl) (by kernel_rfl) ?_
      refine (run0 (z := 6) 4 [1, 5, 6, 10, 49, 50, 52] [(1, .int .u8 tu), (5, .pointer (some ⟨k, 0, none⟩)), (6, .int .i64 (m : Int)), (10, .int .i64 ((v : Int) + 1)), (49, .pointer (some ⟨k, 0, none⟩)), (50, .int .i64 ((v : Int) + 1)), (52, .int .i64 (IntKind.i64.wrap (((v : Int) + 1) - 1)))] (fun _ => by kernel_rfl) ?_ : RT _ _ _ _ _ _ 10 _)
      rw [show IntKind.i64.wrap (((v : Int) + 1) - 1) = (((v : Int) + 1) - 1) by rw [w64 (by omega) (by omega)]]
      rw [show (((v : Int) + 1) - 1) = (v : Int) by omega]
      refine (stepR (z := 5) (callS 17 [.pointer (some ⟨k, 0, none⟩), .int .i64 ((v : Int) + 1), .int .i64 (v : Int)] (some 53) (fun _ => .tuple #[.bool false, .nilIface]) (fun _ => (kerS k s' :: H)) (fun _ => by kernel_rfl) ((by have h := krWait H k s2 ((v : Int) + 1) (v : Int); rw [e] at h; exact h))) (fun _ => ?_) : RT _ _ _ _ _ _ 6 _)
      refine (run0 (z := 0) 5 [1, 5, 6, 10, 11, 12] [(1, .int .u8 tu), (5, .pointer (some ⟨k, 0, none⟩)), (6, .int .i64 (m : Int)), (10, .int .i64 ((v : Int) + 1)), (11, .bool false), (12, .nilIface)] (fun _ => by kernel_rfl) (endR ?_) : RT _ _ _ _ _ _ 5 _)
      refine seqR (by kernel_rfl) ?_
      refine regionR 5 (by kernel_rfl) (by kernel_rfl) ?_
      refine (run0 (z := 0) 5 [1, 5, 6, 10, 60] [(1, .int .u8 tu), (5, .pointer (some ⟨k, 0, none⟩)), (6, .int .i64 (m : Int)), (10, .int .i64 ((v : Int) + 1)), (60, .bool false)] (fun _ => by kernel_rfl) (endR ?_) : RT _ _ _ _ _ _ 5 _)
      refine condR (b := false) (by kernel_rfl) (fun _ => by kernel_rfl) (fun h => by cases h) (fun _ => ?_)
      refine skipR (by kernel_rfl) ?_
      refine regionR 3 (by kernel_rfl) (by kernel_rfl) ?_
      refine (run0 (z := 0) 3 [1, 5, 6, 10] [(1, .int .u8 tu), (5, .pointer (some ⟨k, 0, none⟩)), (6, .int .i64 (m : Int)), (10, .int .i64 (IntKind.i64.wrap (((v : Int) + 1) + 1)))] (fun _ => by kernel_rfl) (endR ?_) : RT _ _ _ _ _ _ 3 _)
      rw [show IntKind.i64.wrap (((v : Int) + 1) + 1) = (((v : Int) + 1) + 1) by rw [w64 (by omega) (by omega)]]
      rw [show (((v : Int) + 1) + 1) = (((v + 1 : Nat) : Int) + 1) by omega]
      refine PT.keep (L' := [(1, .int .u8 tu), (5, .pointer (some ⟨k, 0, none⟩)), (6, .int .i64 (m : Int)), (10, .int .i64 (((v + 1 : Nat) : Int) + 1))]) [1, 5, 6, 10] rfl ?_
      exact againG (j2 - 1) (s', v + 1) rfl rfl (by omega) ⟨by simp only; omega, hI'⟩
    · skip
      have hv : v = m := by have := of_decide_eq_false h2; omega
      rw [hv] at hI2
      refine exitR 2 (by kernel_rfl) (by kernel_rfl) ?_
      refine thenX ?_
      refine thenX ?_
      refine leaveR ?_
      refine seqR (by kernel_rfl) ?_
      refine seqR (by kernel_rfl) ?_
      refine regionR 2 (by kernel_rfl) (by kernel_rfl) ?_
      refine (run0 (z := 1) 1 [1, 5, 6, 61] [(1, .int .u8 tu), (5, .pointer (some ⟨k, 0, none⟩)), (6, .int .i64 (m : Int)), (61, .pointer (some ⟨k, 0, none⟩))] (fun _ => by kernel_rfl) ?_ : RT _ _ _ _ _ _ 2 _)
      refine (stepR (z := 0) (callS 23 [.pointer (some ⟨k, 0, none⟩)] (some 62) (fun _ => .bool false) (fun _ => (kerS k s2 :: H)) (fun _ => by kernel_rfl) ((by have h := krRunnable H k s2; rw [hI2.still] at h; exact h))) (fun _ => ?_) : RT _ _ _ _ _ _ 1 _)
      refine endR ?_
      refine condR (b := false) (by kernel_rfl) (fun _ => by kernel_rfl) (fun h => by cases h) (fun _ => ?_)
      refine skipR (by kernel_rfl) ?_
      refine seqR (by kernel_rfl) ?_
      refine seqR (by kernel_rfl) ?_
      refine regionR 1 (by kernel_rfl) (by kernel_rfl) ?_
      refine (run0 (z := 0) 1 [1, 5, 6, 13] [(1, .int .u8 tu), (5, .pointer (some ⟨k, 0, none⟩)), (6, .int .i64 (m : Int)), (13, .int .i64 0)] (fun _ => by kernel_rfl) (endR ?_) : RT _ _ _ _ _ _ 1 _)
      refine blockR 4 (by kernel_rfl) (by kernel_rfl) ?_
      refine PT.keep (L' := [(1, .int .u8 tu), (5, .pointer (some ⟨k, 0, none⟩)), (6, .int .i64 (m : Int)), (13, .int .i64 0)]) [1, 5, 6, 13] rfl ?_
      refine loopG (fun (q : KS × Nat) => [(1, .int .u8 tu), (5, .pointer (some ⟨k, 0, none⟩)), (6, .int .i64 (m : Int)), (13, .int .i64 (q.2 : Int))]) (fun (q : KS × Nat) => (kerS k q.1 :: H)) (fun k (q : KS × Nat) => (k : Int) + q.2 = tu ∧ AlI q.1 m m) tu.toNat (s2, 0) (by kernel_rfl) ⟨by simp only; omega, hI2⟩ ?_
      rintro j3 ⟨s3, x⟩ ⟨hjx, hI3⟩
      simp only at hjx hI3
      refine seqR (by kernel_rfl) ?_
      refine seqR (by kernel_rfl) ?_
      refine regionR 4 (by kernel_rfl) (by kernel_rfl) ?_
      refine (run0 (z := 0) 4 [1, 5, 6, 13, 66] [(1, .int .u8 tu), (5, .pointer (some ⟨k, 0, none⟩)), (6, .int .i64 (m : Int)), (13, .int .i64 (x : Int)), (66, .bool (decide ((x : Int) < (IntKind.i64.wrap tu))))] (fun _ => by kernel_rfl) (endR ?_) : RT _ _ _ _ _ _ 4 _)
      rw [show IntKind.i64.wrap tu = tu by rw [w64 (by omega) (by omega)]]
      refine condR (b := decide ((x : Int) < tu)) (by kernel_rfl) (fun _ => by kernel_rfl) (fun h3 => ?_) (fun h3 => ?_)
      · skip
        have hx : (x : Int) < tu := of_decide_eq_true h3
        obtain ⟨t, htm⟩ : ∃ t, x % m = t := ⟨_, rfl⟩
        have htl : t < m := by rw [← htm]; exact Nat.mod_lt _ (by omega)
        obtain ⟨a1, a2, a3, e1, e2, e3, hI4⟩ := hI3.turn htl (by omega)
        refine skipR (by kernel_rfl) ?_
        refine seqR (by kernel_rfl) ?_
        refine blockR 5 (by kernel_rfl) (by kernel_rfl) ?_
        refine seqR (by kernel_rfl) ?_
        refine regionR 4 (by kernel_rfl) (by kernel_rfl) ?_
        refine (run0 (z := 2) 2 [1, 5, 6, 13, 69, 70] [(1, .int .u8 tu), (5, .pointer (some ⟨k, 0, none⟩)), (6, .int .i64 (m : Int)), (13, .int .i64 (x : Int)), (69, .int .i64 (x : Int)), (70, .int .i64 (m : Int))] (fun _ => by kernel_rfl) ?_ : RT _ _ _ _ _ _ 4 _)
        refine (stepR (z := 1) (yldS (binY .rem 3 3 (.tmp 69) (.tmp 70) (.int .i64 (x : Int)) (.int .i64 (m : Int)) (.int .i64 ((x : Int).tmod (m : Int))) (some 71) (fun _ => by kernel_rfl) (by kernel_rfl) (by kernel_rfl) (fun _ => by kernel_rfl) (fun _ => by kernel_rfl) (remR (t' := 0) (by omega)))) (fun _ => ?_) : RT _ _ _ _ _ _ 2 _)
        rw [show ((x : Int).tmod (m : Int)) = (t : Int) by rw [Int.tmod_eq_emod_of_nonneg (by omega)]; omega]
        refine (run0 (z := 0) 1 [1, 5, 6, 13, 14] [(1, .int .u8 tu), (5, .pointer (some ⟨k, 0, none⟩)), (6, .int .i64 (m : Int)), (13, .int .i64 (x : Int)), (14, .int .i64 (t : Int))] (fun _ => by kernel_rfl) (endR ?_) : RT _ _ _ _ _ _ 1 _)
        refine seqR (by kernel_rfl) ?_
        refine seqR (by kernel_rfl) ?_
        refine regionR 4 (by kernel_rfl) (by kernel_rfl) ?_
        refine (run0 (z := 2) 2 [1, 5, 6, 13, 14, 72, 73] [(1, .int .u8 tu), (5, .pointer (some ⟨k, 0, none⟩)), (6, .int .i64 (m : Int)), (13, .int .i64 (x : Int)), (14, .int .i64 (t : Int)), (72, .pointer (some ⟨k, 0, none⟩)), (73, .int .i64 (t : Int))] (fun _ => by kernel_rfl) ?_ : RT _ _ _ _ _ _ 4 _)
        refine (stepR (z := 1) (callS 21 [.pointer (some ⟨k, 0, none⟩), .int .i64 (t : Int)] (some 74) (fun _ => .nilIface) (fun _ => (kerS k a1 :: H)) (fun _ => by kernel_rfl) ((by have h := krSignal H k s3 (t : Int); rw [e1] at h; exact h))) (fun _ => ?_) : RT _ _ _ _ _ _ 2 _)
        refine (run0 (z := 0) 1 [1, 5, 6, 13, 14, 75] [(1, .int .u8 tu), (5, .pointer (some ⟨k, 0, none⟩)), (6, .int .i64 (m : Int)), (13, .int .i64 (x : Int)), (14, .int .i64 (t : Int)), (75, .bool false)] (fun _ => by kernel_rfl) (endR ?_) : RT _ _ _ _ _ _ 1 _)
        refine condR (b := false) (by kernel_rfl) (fun _ => by kernel_rfl) (fun h => by cases h) (fun _ => ?_)
        refine skipR (by kernel_rfl) ?_
        refine seqR (by kernel_rfl) ?_
        refine regionR 7 (by kernel_rfl) (by kernel_rfl) ?_
        refine (run0 (z := 6) 1 [1, 5, 6, 13, 14, 77] [(1, .int .u8 tu), (5, .pointer (some ⟨k, 0, none⟩)), (6, .int .i64 (m : Int)), (13, .int .i64 (x : Int)), (14, .int .i64 (t : Int)), (77, .pointer (some ⟨k, 0, none⟩))] (fun _ => by kernel_rfl) ?_ : RT _ _ _ _ _ _ 7 _)
        refine (stepR (z := 5) (callS 15 [.pointer (some ⟨k, 0, none⟩)] (some 78) (fun _ => .tuple #[.int .i64 ((t : Int) + 1), .bool true]) (fun _ => (kerS k a2 :: H)) (fun _ => by kernel_rfl) ((by have h := krRun H k a1; rw [e2] at h; exact h))) (fun _ => ?_) : RT _ _ _ _ _ _ 6 _)
        refine (run0 (z := 0) 5 [1, 5, 6, 13, 14, 15, 16] [(1, .int .u8 tu), (5, .pointer (some ⟨k, 0, none⟩)), (6, .int .i64 (m : Int)), (13, .int .i64 (x : Int)), (14, .int .i64 (t : Int)), (15, .int .i64 ((t : Int) + 1)), (16, .bool true)] (fun _ => by kernel_rfl) (endR ?_) : RT _ _ _ _ _ _ 5 _)
        refine seqR (by kernel_rfl) ?_
        refine seqR (by kernel_rfl) ?_
        refine regionR 8 (by kernel_rfl) (by kernel_rfl) ?_
        refine (run0 (z := 0) 8 [1, 5, 6, 13, 14, 15, 88] [(1, .int .u8 tu), (5, .pointer (some ⟨k, 0, none⟩)), (6, .int .i64 (m : Int)), (13, .int .i64 (x : Int)), (14, .int .i64 (t : Int)), (15, .int .i64 ((t : Int) + 1)), (88, .bool (((t : Int) + 1) != (IntKind.i64.wrap ((t : Int) + 1))))] (fun _ => by kernel_rfl) (endR ?_) : RT _ _ _ _ _ _ 8 _)
        rw [show IntKind.i64.wrap ((t : Int) + 1) = ((t : Int) + 1) by rw [w64 (by omega) (by omega)]]
        rw [show (((t : Int) + 1) != ((t : Int) + 1)) = false from by simp]
        refine condR (b := false) (by kernel_rfl) (fun _ => by kernel_rfl) (fun h => by cases h) (fun _ => ?_)
        refine skipR (by kernel_rfl) ?_
        refine seqR (by kernel_rfl) ?_
        refine regionR 9 (by kernel_rfl) (by kernel_rfl) ?_
        refine (run0 (z := 6) 3 [1, 5, 6, 13, 90, 91, 92] [(1, .int .u8 tu), (5, .pointer (some ⟨k, 0, none⟩)), (6, .int .i64 (m : Int)), (13, .int .i64 (x : Int)), (90, .pointer (some ⟨k, 0, none⟩)), (91, .int .i64 ((t : Int) + 1)), (92, .int .i64 (t : Int))] (fun _ => by kernel_rfl) ?_ : RT _ _ _ _ _ _ 9 _)
        refine (stepR (z := 5) (callS 17 [.pointer (some ⟨k, 0, none⟩), .int .i64 ((t : Int) + 1), .int .i64 (t : Int)] (some 93) (fun _ => .tuple #[.bool false, .nilIface]) (fun _ => (kerS k a3 :: H)) (fun _ => by kernel_rfl) ((by have h := krWait H k a2 ((t : Int) + 1) (t : Int); rw [e3] at h; exact h))) (fun _ => ?_) : RT _ _ _ _ _ _ 6 _)
        refine (run0 (z := 0) 5 [1, 5, 6, 13, 17, 18] [(1, .int .u8 tu), (5, .pointer (some ⟨k, 0, none⟩)), (6, .int .i64 (m : Int)), (13, .int .i64 (x : Int)), (17, .bool false), (18, .nilIface)] (fun _ => by kernel_rfl) (endR ?_) : RT _ _ _ _ _ _ 5 _)
        refine seqR (by kernel_rfl) ?_
        refine regionR 9 (by kernel_rfl) (by kernel_rfl) ?_
        refine (run0 (z := 2) 7 [1, 5, 6, 13, 101, 102] [(1, .int .u8 tu), (5, .pointer (some ⟨k, 0, none⟩)), (6, .int .i64 (m : Int)), (13, .int .i64 (x : Int)), (101, .bool false), (102, .pointer (some ⟨k, 0, none⟩))] (fun _ => by kernel_rfl) ?_ : RT _ _ _ _ _ _ 9 _)
        refine (stepR (z := 1) (callS 23 [.pointer (some ⟨k, 0, none⟩)] (some 103) (fun _ => .bool false) (fun _ => (kerS k a3 :: H)) (fun _ => by kernel_rfl) ((by have h := krRunnable H k a3; rw [hI4.still] at h; exact h))) (fun _ => ?_) : RT _ _ _ _ _ _ 2 _)
        refine (run0 (z := 0) 1 [1, 5, 6, 13, 104] [(1, .int .u8 tu), (5, .pointer (some ⟨k, 0, none⟩)), (6, .int .i64 (m : Int)), (13, .int .i64 (x : Int)), (104, .bool false)] (fun _ => by kernel_rfl) (endR ?_) : RT _ _ _ _ _ _ 1 _)
        refine condR (b := false) (by kernel_rfl) (fun _ => by kernel_rfl) (fun h => by cases h) (fun _ => ?_)
        refine skipR (by kernel_rfl) ?_
        refine regionR 3 (by kernel_rfl) (by kernel_rfl) ?_
        refine (run0 (z := 0) 3 [1, 5, 6, 13] [(1, .int .u8 tu), (5, .pointer (some ⟨k, 0, none⟩)), (6, .int .i64 (m : Int)), (13, .int .i64 (IntKind.i64.wrap ((x : Int) + 1)))] (fun _ => by kernel_rfl) (endR ?_) : RT _ _ _ _ _ _ 3 _)
        rw [show IntKind.i64.wrap ((x : Int) + 1) = ((x : Int) + 1) by rw [w64 (by omega) (by omega)]]
        refine PT.keep (L' := [(1, .int .u8 tu), (5, .pointer (some ⟨k, 0, none⟩)), (6, .int .i64 (m : Int)), (13, .int .i64 ((x : Int) + 1))]) [1, 5, 6, 13] rfl ?_
        exact againG (j3 - 1) (a3, x + 1) rfl rfl (by omega) ⟨by simp only; omega, hI4⟩
      · skip
        refine exitR 4 (by kernel_rfl) (by kernel_rfl) ?_
        refine thenX ?_
        refine thenX ?_
        refine leaveR ?_
        refine seqR (by kernel_rfl) ?_
        refine regionR 1 (by kernel_rfl) (by kernel_rfl) ?_
        refine (run0 (z := 0) 1 [4] [(4, .bool true)] (fun _ => by kernel_rfl) (endR ?_) : RT _ _ _ _ _ _ 1 _)
        refine retR (by kernel_rfl) ?_
        refine done0 (.bool true) (fun _ => by kernel_rfl) (fun w hs => ?_) .ret (.inr rfl)
        exact ⟨(), rfl, hs.tail⟩
theorem alone_row (W : World) (n t : Int) (hn : (Lit.int .u8 n).wf = true) (ht : (Lit.int .u8 t).wf = true) : Calls Tryz.prog 8 #[.int .u8 n, .int .u8 t] W (LawPost W) :=
  lawPost (fun _ _ h => h) (alone10_walk [old W] n t (u8_wf hn) (u8_wf ht) W (Sat.start W))
end Go.Proofs.YtlhjibkkkhgonaaGreat
