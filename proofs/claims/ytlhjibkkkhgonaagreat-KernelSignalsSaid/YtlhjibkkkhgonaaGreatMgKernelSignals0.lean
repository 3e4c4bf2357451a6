/- Texts put together: KernelSignals: its walk. Conditions: none. -/
import Derived.Test.YtlhjibkkkhgonaaGreatMgKb6
set_option linter.unusedVariables false
set_option linter.unusedSimpArgs false
namespace Go.Proofs.YtlhjibkkkhgonaaGreat
open Go.RowKit G
set_option maxHeartbeats 1000000 in
set_option maxRecDepth 100000 in
theorem signals10_walk (H : List SP) (n m mo ob : Int) (hn : 0 ≤ n ∧ n < 256) (hm : 0 ≤ m ∧ m < 256) (hmo : 0 ≤ mo ∧ mo < 256) (hob : 0 ≤ ob ∧ ob < 256) : ∀ w, Sat w H → Calls Tryz.prog 9 #[.int .u8 n, .int .u8 m, .int .u8 mo, .int .u8 ob] w (Ret (ι := Unit) (fun _ => .bool true) fun _ => H) := by
  have hn1 := tmod_range hn.1 (m := 7) (by omega)
  have hm1 := tmod_range hm.1 (m := 12) (by omega)
  have hmo1 := tmod_range hmo.1 (m := 6) (by omega)
  have hob1 := tmod_range hob.1 (m := 4) (by omega)
  obtain ⟨c, hc⟩ : ∃ c : Nat, Int.tmod n 7 + 1 = (c : Int) := ⟨(Int.tmod n 7 + 1).toNat, by omega⟩
  obtain ⟨g, hg⟩ : ∃ g : Nat, Int.tmod m 12 = (g : Int) := ⟨(Int.tmod m 12).toNat, by omega⟩
  obtain ⟨x, hx⟩ : ∃ x : Int, Int.tmod ob 4 = x := ⟨_, rfl⟩
  have hxo : isOb x = true := by simp [isOb]; omega
  refine enterG (fn := Tryz.f9) 132 [.int .u8 n, .int .u8 m, .int .u8 mo, .int .u8 ob] Tryz.func9 (by kernel_rfl) (by kernel_rfl) (by kernel_rfl) ?_
  refine seqR (by kernel_rfl) ?_
  refine regionR 1 (by kernel_rfl) (by kernel_rfl) ?_
  refine (run0 (z := 0) 1 [0, 1, 2, 3, 8] [(0, .int .u8 n), (1, .int .u8 m), (2, .int .u8 mo), (3, .int .u8 ob), (8, .bool false)] (fun _ => by kernel_rfl) (endR ?_) : RT _ _ _ _ _ _ 1 _)
  refine seqR (by kernel_rfl) ?_
  refine seqR (by kernel_rfl) ?_
  refine regionR 2 (by kernel_rfl) (by kernel_rfl) ?_
  refine (stepR (z := 1) (callS 10 [] (some 25) (fun _ => .bool true) (fun (_ : Unit) => (H)) (fun _ => by kernel_rfl) (known10 _)) (fun _ => ?_) : RT _ _ _ _ _ _ 2 _)
  refine (run0 (z := 0) 1 [0, 1, 2, 3, 8, 26] [(0, .int .u8 n), (1, .int .u8 m), (2, .int .u8 mo), (3, .int .u8 ob), (8, .bool false), (26, .bool false)] (fun _ => by kernel_rfl) (endR ?_) : RT _ _ _ _ _ _ 1 _)
  refine condR (b := false) (by kernel_rfl) (fun _ => by kernel_rfl) (fun h => by cases h) (fun _ => ?_)
  refine skipR (by kernel_rfl) ?_
  refine seqR (by kernel_rfl) ?_
  refine regionR 2 (by kernel_rfl) (by kernel_rfl) ?_
  refine (stepR (z := 1) (callS 11 [.int .i64 8, .int .i64 0] (some 27) (fun (k : Nat) => .pointer (some ⟨k, 0, none⟩)) (fun (k : Nat) => (kerS k (k0 (mtOf 8) (mgOf 0)) :: H)) (fun _ => by kernel_rfl) (knew_walk _ 8 0)) (fun (k : Nat) => ?_) : RT _ _ _ _ _ _ 2 _)
  refine (run0 (z := 0) 1 [0, 1, 2, 3, 8, 9] [(0, .int .u8 n), (1, .int .u8 m), (2, .int .u8 mo), (3, .int .u8 ob), (8, .bool false), (9, .pointer (some ⟨k, 0, none⟩))] (fun _ => by kernel_rfl) (endR ?_) : RT _ _ _ _ _ _ 1 _)
  refine seqR (by kernel_rfl) ?_
  refine regionR 13 (by kernel_rfl) (by kernel_rfl) ?_
  refine (run0 (z := 0) 13 [2, 8, 9, 10, 11, 12] [(2, .int .u8 mo), (8, .bool false), (9, .pointer (some ⟨k, 0, none⟩)), (10, .int .i64 (IntKind.i64.wrap ((IntKind.i64.wrap (Int.tmod n 7)) + 1))), (11, .int .i64 (IntKind.i64.wrap (Int.tmod m 12))), (12, .int .i64 (IntKind.i64.wrap (Int.tmod ob 4)))] (fun _ => by kernel_rfl) (endR ?_) : RT _ _ _ _ _ _ 13 _)
  refine seqR (by kernel_rfl) ?_
  refine seqR (by kernel_rfl) ?_
  refine regionR 1 (by kernel_rfl) (by kernel_rfl) ?_
  refine (run0 (z := 0) 1 [2, 8, 9, 10, 11, 12, 13] [(2, .int .u8 mo), (8, .bool false), (9, .pointer (some ⟨k, 0, none⟩)), (10, .int .i64 (IntKind.i64.wrap ((IntKind.i64.wrap (Int.tmod n 7)) + 1))), (11, .int .i64 (IntKind.i64.wrap (Int.tmod m 12))), (12, .int .i64 (IntKind.i64.wrap (Int.tmod ob 4))), (13, .int .i64 0)] (fun _ => by kernel_rfl) (endR ?_) : RT _ _ _ _ _ _ 1 _)
  refine blockR 0 (by kernel_rfl) (by kernel_rfl) ?_
  rw [show IntKind.i64.wrap ((IntKind.i64.wrap (Int.tmod n 7)) + 1) = (c : Int) by rw [w64 (n := Int.tmod n 7) (by omega) (by omega), w64 (by omega) (by omega)]; exact hc]
  rw [show IntKind.i64.wrap (Int.tmod m 12) = (g : Int) by rw [w64 (by omega) (by omega)]; exact hg]
  rw [show IntKind.i64.wrap (Int.tmod ob 4) = x by rw [w64 (by omega) (by omega)]; exact hx]
  refine PT.keep (L' := [(2, .int .u8 mo), (9, .pointer (some ⟨k, 0, none⟩)), (10, .int .i64 (c : Int)), (11, .int .i64 (g : Int)), (12, .int .i64 x), (13, .int .i64 0)]) [2, 9, 10, 11, 12, 13] rfl ?_
  refine loopG (fun (q : KS × Nat) => [(2, .int .u8 mo), (9, .pointer (some ⟨k, 0, none⟩)), (10, .int .i64 (c : Int)), (11, .int .i64 (g : Int)), (12, .int .i64 x), (13, .int .i64 (q.2 : Int))]) (fun (q : KS × Nat) => (kerS k q.1 :: H)) (fun k (q : KS × Nat) => k + q.2 = c ∧ SpI q.1 q.2) c (k0 (mtOf 8) (mgOf 0), 0) (by kernel_rfl) ⟨by simp only; omega, SpI.start⟩ ?_
  rintro j ⟨s, u⟩ ⟨hju, hI⟩
  simp only at hju hI
  refine seqR (by kernel_rfl) ?_
  refine seqR (by kernel_rfl) ?_
  refine regionR 3 (by kernel_rfl) (by kernel_rfl) ?_
  refine (run0 (z := 0) 3 [2, 9, 10, 11, 12, 13, 40] [(2, .int .u8 mo), (9, .pointer (some ⟨k, 0, none⟩)), (10, .int .i64 (c : Int)), (11, .int .i64 (g : Int)), (12, .int .i64 x), (13, .int .i64 (u : Int)), (40, .bool (decide ((u : Int) < (c : Int))))] (fun _ => by kernel_rfl) (endR ?_) : RT _ _ _ _ _ _ 3 _)
  refine condR (b := decide ((u : Int) < (c : Int))) (by kernel_rfl) (fun _ => by kernel_rfl) (fun h1 => ?_) (fun h1 => ?_)
  · skip
    have hu : u < c := by have := of_decide_eq_true h1; omega
    obtain ⟨s', e, hI'⟩ := hI.add (by omega)
    refine skipR (by kernel_rfl) ?_
    refine seqR (by kernel_rfl) ?_
    refine blockR 1 (by kernel_rfl) (by kernel_rfl) ?_
    refine seqR (by kernel_rfl) ?_
    refine regionR 7 (by kernel_rfl) (by kernel_rfl) ?_
    refine (run0 (z := 6) 1 [2, 9, 10, 11, 12, 13, 44] [(2, .int .u8 mo), (9, .pointer (some ⟨k, 0, none⟩)), (10, .int .i64 (c : Int)), (11, .int .i64 (g : Int)), (12, .int .i64 x), (13, .int .i64 (u : Int)), (44, .pointer (some ⟨k, 0, none⟩))] (fun _ => by kernel_rfl) ?_ : RT _ _ _ _ _ _ 7 _)
    refine (stepR (z := 5) (callS 12 [.pointer (some ⟨k, 0, none⟩), .int .i64 0, .int .i64 1] (some 45) (fun _ => .tuple #[.int .i64 ((u : Int) + 2), .nilIface]) (fun _ => (kerS k s' :: H)) (fun _ => by kernel_rfl) ((by have h := krSpawn H k s (by have := hI.nx; omega) 0 1; rw [e] at h; exact h))) (fun _ => ?_) : RT _ _ _ _ _ _ 6 _)
    refine (run0 (z := 0) 5 [2, 9, 10, 11, 12, 13, 14, 15] [(2, .int .u8 mo), (9, .pointer (some ⟨k, 0, none⟩)), (10, .int .i64 (c : Int)), (11, .int .i64 (g : Int)), (12, .int .i64 x), (13, .int .i64 (u : Int)), (14, .int .i64 ((u : Int) + 2)), (15, .nilIface)] (fun _ => by kernel_rfl) (endR ?_) : RT _ _ _ _ _ _ 5 _)
    refine seqR (by kernel_rfl) ?_
    refine regionR 8 (by kernel_rfl) (by kernel_rfl) ?_
    refine (run0 (z := 0) 8 [2, 9, 10, 11, 12, 13, 55] [(2, .int .u8 mo), (9, .pointer (some ⟨k, 0, none⟩)), (10, .int .i64 (c : Int)), (11, .int .i64 (g : Int)), (12, .int .i64 x), (13, .int .i64 (u : Int)), (55, .bool (((u : Int) + 2) != (IntKind.i64.wrap ((u : Int) + 2))))] (fun _ => by kernel_rfl) (endR ?_) : RT _ _ _ _ _ _ 8 _)
    rw [show IntKind.i64.wrap ((u : Int) + 2) = ((u : Int) + 2) by rw [w64 (by omega) (by omega)]]
    rw [show (((u : Int) + 2) != ((u : Int) + 2)) = false from by simp]
    refine condR (b := false) (by kernel_rfl) (fun _ => by kernel_rfl) (fun h => by cases h) (fun _ => ?_)
    refine skipR (by kernel_rfl) ?_
    refine regionR 3 (by kernel_rfl) (by kernel_rfl) ?_
    refine (run0 (z := 0) 3 [2, 9, 10, 11, 12, 13] [(2, .int .u8 mo), (9, .pointer (some ⟨k, 0, none⟩)), (10, .int .i64 (c : Int)), (11, .int .i64 (g : Int)), (12, .int .i64 x), (13, .int .i64 (IntKind.i64.wrap ((u : Int) + 1)))] (fun _ => by kernel_rfl) (endR ?_) : RT _ _ _ _ _ _ 3 _)
    rw [show IntKind.i64.wrap ((u : Int) + 1) = ((u : Int) + 1) by rw [w64 (by omega) (by omega)]]
    refine PT.keep (L' := [(2, .int .u8 mo), (9, .pointer (some ⟨k, 0, none⟩)), (10, .int .i64 (c : Int)), (11, .int .i64 (g : Int)), (12, .int .i64 x), (13, .int .i64 ((u : Int) + 1))]) [2, 9, 10, 11, 12, 13] rfl ?_
    exact againG (j - 1) (s', u + 1) rfl rfl (by omega) ⟨by simp only; omega, hI'⟩
  · skip
    have hu : u = c := by have := of_decide_eq_false h1; omega
    have hW := hI.sg hxo
    rw [hu] at hW
    refine exitR 0 (by kernel_rfl) (by kernel_rfl) ?_
    refine thenX ?_
    refine thenX ?_
    refine leaveR ?_
    refine seqR (by kernel_rfl) ?_
    refine seqR (by kernel_rfl) ?_
    refine regionR 2 (by kernel_rfl) (by kernel_rfl) ?_
    refine (run0 (z := 0) 2 [2, 9, 10, 11, 12, 16] [(2, .int .u8 mo), (9, .pointer (some ⟨k, 0, none⟩)), (10, .int .i64 (c : Int)), (11, .int .i64 (g : Int)), (12, .int .i64 x), (16, .int .i64 (c : Int))] (fun _ => by kernel_rfl) (endR ?_) : RT _ _ _ _ _ _ 2 _)
    refine blockR 2 (by kernel_rfl) (by kernel_rfl) ?_
    refine PT.keep (L' := [(2, .int .u8 mo), (9, .pointer (some ⟨k, 0, none⟩)), (10, .int .i64 (c : Int)), (11, .int .i64 (g : Int)), (12, .int .i64 x), (16, .int .i64 (c : Int))]) [2, 9, 10, 11, 12, 16] rfl ?_
    refine loopG (fun (q : KS × Nat) => [(2, .int .u8 mo), (9, .pointer (some ⟨k, 0, none⟩)), (10, .int .i64 (c : Int)), (11, .int .i64 (g : Int)), (12, .int .i64 x), (16, .int .i64 (q.2 : Int))]) (fun (q : KS × Nat) => (kerS k q.1 :: H)) (fun k (q : KS × Nat) => k = q.2 ∧ q.2 ≤ c ∧ SgW q.1 x c q.2) c (s, c) (by kernel_rfl) ⟨by simp only, by simp only; omega, hW⟩ ?_
    rintro j2 ⟨s2, v⟩ ⟨hjv, hvc, hI2⟩
    simp only at hjv hvc hI2
    refine seqR (by kernel_rfl) ?_
    refine seqR (by kernel_rfl) ?_
    refine regionR 2 (by kernel_rfl) (by kernel_rfl) ?_
    refine (run0 (z := 0) 2 [2, 9, 10, 11, 12, 16, 58] [(2, .int .u8 mo), (9, .pointer (some ⟨k, 0, none⟩)), (10, .int .i64 (c : Int)), (11, .int .i64 (g : Int)), (12, .int .i64 x), (16, .int .i64 (v : Int)), (58, .bool (decide ((v : Int) > 0)))] (fun _ => by kernel_rfl) (endR ?_) : RT _ _ _ _ _ _ 2 _)
    refine condR (b := decide ((v : Int) > 0)) (by kernel_rfl) (fun _ => by kernel_rfl) (fun h2 => ?_) (fun h2 => ?_)
    · skip
      have hv : 0 < v := by have := of_decide_eq_true h2; omega
      obtain ⟨v1, rfl⟩ : ∃ v1, v = v1 + 1 := ⟨v - 1, by omega⟩
      obtain ⟨s', e, hI'⟩ := hI2.wait hxo (by omega)
      refine skipR (by kernel_rfl) ?_
      refine seqR (by kernel_rfl) ?_
      refine blockR 3 (by kernel_rfl) (by kernel_rfl) ?_
      refine seqR (by kernel_rfl) ?_
      refine regionR 10 (by kernel_rfl) (by kernel_rfl) ?_
      refine (run0 (z := 6) 4 [2, 9, 10, 11, 12, 16, 62, 64, 65] [(2, .int .u8 mo), (9, .pointer (some ⟨k, 0, none⟩)), (10, .int .i64 (c : Int)), (11, .int .i64 (g : Int)), (12, .int .i64 x), (16, .int .i64 ((v1 + 1 : Nat) : Int)), (62, .pointer (some ⟨k, 0, none⟩)), (64, .int .i64 (IntKind.i64.wrap (((v1 + 1 : Nat) : Int) + 1))), (65, .int .i64 x)] (fun _ => by kernel_rfl) ?_ : RT _ _ _ _ _ _ 10 _)
      rw [show IntKind.i64.wrap (((v1 + 1 : Nat) : Int) + 1) = (((v1 + 1 : Nat) : Int) + 1) by rw [w64 (by omega) (by omega)]]
      rw [show (((v1 + 1 : Nat) : Int) + 1) = ((v1 : Int) + 2) by omega]
      refine (stepR (z := 5) (callS 17 [.pointer (some ⟨k, 0, none⟩), .int .i64 ((v1 : Int) + 2), .int .i64 x] (some 66) (fun _ => .tuple #[.bool false, .nilIface]) (fun _ => (kerS k s' :: H)) (fun _ => by kernel_rfl) ((by have h := krWait H k s2 ((v1 : Int) + 2) x; rw [e] at h; exact h))) (fun _ => ?_) : RT _ _ _ _ _ _ 6 _)
      refine (run0 (z := 0) 5 [2, 9, 10, 11, 12, 16, 17, 18] [(2, .int .u8 mo), (9, .pointer (some ⟨k, 0, none⟩)), (10, .int .i64 (c : Int)), (11, .int .i64 (g : Int)), (12, .int .i64 x), (16, .int .i64 ((v1 + 1 : Nat) : Int)), (17, .bool false), (18, .nilIface)] (fun _ => by kernel_rfl) (endR ?_) : RT _ _ _ _ _ _ 5 _)
      refine seqR (by kernel_rfl) ?_
      refine regionR 5 (by kernel_rfl) (by kernel_rfl) ?_
      refine (run0 (z := 0) 5 [2, 9, 10, 11, 12, 16, 73] [(2, .int .u8 mo), (9, .pointer (some ⟨k, 0, none⟩)), (10, .int .i64 (c : Int)), (11, .int .i64 (g : Int)), (12, .int .i64 x), (16, .int .i64 ((v1 + 1 : Nat) : Int)), (73, .bool false)] (fun _ => by kernel_rfl) (endR ?_) : RT _ _ _ _ _ _ 5 _)
      refine condR (b := false) (by kernel_rfl) (fun _ => by kernel_rfl) (fun h => by cases h) (fun _ => ?_)
      refine skipR (by kernel_rfl) ?_
      refine regionR 3 (by kernel_rfl) (by kernel_rfl) ?_
      refine (run0 (z := 0) 3 [2, 9, 10, 11, 12, 16] [(2, .int .u8 mo), (9, .pointer (some ⟨k, 0, none⟩)), (10, .int .i64 (c : Int)), (11, .int .i64 (g : Int)), (12, .int .i64 x), (16, .int .i64 (IntKind.i64.wrap (((v1 + 1 : Nat) : Int) - 1)))] (fun _ => by kernel_rfl) (endR ?_) : RT _ _ _ _ _ _ 3 _)
      rw [show IntKind.i64.wrap (((v1 + 1 : Nat) : Int) - 1) = (((v1 + 1 : Nat) : Int) - 1) by rw [w64 (by omega) (by omega)]]
      rw [show (((v1 + 1 : Nat) : Int) - 1) = (v1 : Int) by omega]
      refine PT.keep (L' := [(2, .int .u8 mo), (9, .pointer (some ⟨k, 0, none⟩)), (10, .int .i64 (c : Int)), (11, .int .i64 (g : Int)), (12, .int .i64 x), (16, .int .i64 (v1 : Int))]) [2, 9, 10, 11, 12, 16] rfl ?_
      exact againG (j2 - 1) (s', v1) rfl rfl (by omega) ⟨by simp only; omega, by simp only; omega, hI'⟩
    · skip
      have hv : v = 0 := by have := of_decide_eq_false h2; omega
      rw [hv] at hI2
      refine exitR 2 (by kernel_rfl) (by kernel_rfl) ?_
      refine thenX ?_
      refine thenX ?_
      refine leaveR ?_
      refine seqR (by kernel_rfl) ?_
      refine seqR (by kernel_rfl) ?_
      refine regionR 1 (by kernel_rfl) (by kernel_rfl) ?_
      refine (run0 (z := 0) 1 [2, 9, 10, 11, 12, 19] [(2, .int .u8 mo), (9, .pointer (some ⟨k, 0, none⟩)), (10, .int .i64 (c : Int)), (11, .int .i64 (g : Int)), (12, .int .i64 x), (19, .int .i64 0)] (fun _ => by kernel_rfl) (endR ?_) : RT _ _ _ _ _ _ 1 _)
      refine blockR 4 (by kernel_rfl) (by kernel_rfl) ?_
      refine PT.keep (L' := [(2, .int .u8 mo), (9, .pointer (some ⟨k, 0, none⟩)), (10, .int .i64 (c : Int)), (11, .int .i64 (g : Int)), (12, .int .i64 x), (19, .int .i64 0)]) [2, 9, 10, 11, 12, 19] rfl ?_
      refine loopG (fun (q : KS × Nat) => [(2, .int .u8 mo), (9, .pointer (some ⟨k, 0, none⟩)), (10, .int .i64 (c : Int)), (11, .int .i64 (g : Int)), (12, .int .i64 x), (19, .int .i64 (q.2 : Int))]) (fun (q : KS × Nat) => (kerS k q.1 :: H)) (fun k (q : KS × Nat) => k + q.2 = g ∧ SgS q.1 x c q.2) g (s2, 0) (by kernel_rfl) ⟨by simp only; omega, hI2.sg⟩ ?_
      rintro j3 ⟨s3, y⟩ ⟨hjy, hI3⟩
      simp only at hjy hI3
      refine seqR (by kernel_rfl) ?_
      refine seqR (by kernel_rfl) ?_
      refine regionR 3 (by kernel_rfl) (by kernel_rfl) ?_
      refine (run0 (z := 0) 3 [2, 9, 10, 11, 12, 19, 76] [(2, .int .u8 mo), (9, .pointer (some ⟨k, 0, none⟩)), (10, .int .i64 (c : Int)), (11, .int .i64 (g : Int)), (12, .int .i64 x), (19, .int .i64 (y : Int)), (76, .bool (decide ((y : Int) < (g : Int))))] (fun _ => by kernel_rfl) (endR ?_) : RT _ _ _ _ _ _ 3 _)
      refine condR (b := decide ((y : Int) < (g : Int))) (by kernel_rfl) (fun _ => by kernel_rfl) (fun h3 => ?_) (fun h3 => ?_)
      · skip
        have hy : y < g := by have := of_decide_eq_true h3; omega
        obtain ⟨s', e, hI'⟩ := hI3.sig hxo (by omega)
        refine skipR (by kernel_rfl) ?_
        refine seqR (by kernel_rfl) ?_
        refine blockR 5 (by kernel_rfl) (by kernel_rfl) ?_
        refine seqR (by kernel_rfl) ?_
        refine regionR 4 (by kernel_rfl) (by kernel_rfl) ?_
        refine (run0 (z := 2) 2 [2, 9, 10, 11, 12, 19, 79, 80] [(2, .int .u8 mo), (9, .pointer (some ⟨k, 0, none⟩)), (10, .int .i64 (c : Int)), (11, .int .i64 (g : Int)), (12, .int .i64 x), (19, .int .i64 (y : Int)), (79, .pointer (some ⟨k, 0, none⟩)), (80, .int .i64 x)] (fun _ => by kernel_rfl) ?_ : RT _ _ _ _ _ _ 4 _)
        refine (stepR (z := 1) (callS 21 [.pointer (some ⟨k, 0, none⟩), .int .i64 x] (some 81) (fun _ => .nilIface) (fun _ => (kerS k s' :: H)) (fun _ => by kernel_rfl) ((by have h := krSignal H k s3 x; rw [e] at h; exact h))) (fun _ => ?_) : RT _ _ _ _ _ _ 2 _)
        refine (run0 (z := 0) 1 [2, 9, 10, 11, 12, 19, 82] [(2, .int .u8 mo), (9, .pointer (some ⟨k, 0, none⟩)), (10, .int .i64 (c : Int)), (11, .int .i64 (g : Int)), (12, .int .i64 x), (19, .int .i64 (y : Int)), (82, .bool false)] (fun _ => by kernel_rfl) (endR ?_) : RT _ _ _ _ _ _ 1 _)
        refine condR (b := false) (by kernel_rfl) (fun _ => by kernel_rfl) (fun h => by cases h) (fun _ => ?_)
        refine skipR (by kernel_rfl) ?_
        refine regionR 3 (by kernel_rfl) (by kernel_rfl) ?_
        refine (run0 (z := 0) 3 [2, 9, 10, 11, 12, 19] [(2, .int .u8 mo), (9, .pointer (some ⟨k, 0, none⟩)), (10, .int .i64 (c : Int)), (11, .int .i64 (g : Int)), (12, .int .i64 x), (19, .int .i64 (IntKind.i64.wrap ((y : Int) + 1)))] (fun _ => by kernel_rfl) (endR ?_) : RT _ _ _ _ _ _ 3 _)
        rw [show IntKind.i64.wrap ((y : Int) + 1) = ((y : Int) + 1) by rw [w64 (by omega) (by omega)]]
        refine PT.keep (L' := [(2, .int .u8 mo), (9, .pointer (some ⟨k, 0, none⟩)), (10, .int .i64 (c : Int)), (11, .int .i64 (g : Int)), (12, .int .i64 x), (19, .int .i64 ((y : Int) + 1))]) [2, 9, 10, 11, 12, 19] rfl ?_
        exact againG (j3 - 1) (s', y + 1) rfl rfl (by omega) ⟨by simp only; omega, hI'⟩
      · skip
        have hy : y = g := by have := of_decide_eq_false h3; omega
        rw [hy] at hI3
        have hrd : ∀ i : Nat, i < c → rdyOf s3.N ((c : Int) + 1 - i) = decide ((i : Int) < g) := fun i hi => by rw [rdyOf_T (by rw [hI3.T]; simp; omega), hI3.R, Bool.eq_iff_iff]; simp; omega
        have hr1 : rdyOf s3.N 1 = true := by rw [rdyOf_T (by rw [hI3.T]; simp; omega), hI3.R]; simp
        refine exitR 4 (by kernel_rfl) (by kernel_rfl) ?_
        refine thenX ?_
        refine thenX ?_
        refine leaveR ?_
        refine seqR (by kernel_rfl) ?_
        refine seqR (by kernel_rfl) ?_
        refine regionR 1 (by kernel_rfl) (by kernel_rfl) ?_
        refine (run0 (z := 0) 1 [2, 9, 10, 11, 12, 20] [(2, .int .u8 mo), (9, .pointer (some ⟨k, 0, none⟩)), (10, .int .i64 (c : Int)), (11, .int .i64 (g : Int)), (12, .int .i64 x), (20, .int .i64 0)] (fun _ => by kernel_rfl) (endR ?_) : RT _ _ _ _ _ _ 1 _)
        refine blockR 6 (by kernel_rfl) (by kernel_rfl) ?_
        refine PT.keep (L' := [(2, .int .u8 mo), (9, .pointer (some ⟨k, 0, none⟩)), (10, .int .i64 (c : Int)), (11, .int .i64 (g : Int)), (12, .int .i64 x), (20, .int .i64 0)]) [2, 9, 10, 11, 12, 20] rfl ?_
        refine loopG (fun (i : Nat) => [(2, .int .u8 mo), (9, .pointer (some ⟨k, 0, none⟩)), (10, .int .i64 (c : Int)), (11, .int .i64 (g : Int)), (12, .int .i64 x), (20, .int .i64 (i : Int))]) (fun (i : Nat) => (kerS k s3 :: H)) (fun k (i : Nat) => k + i = c) c 0 (by kernel_rfl) (by omega) ?_
        rintro j4 i hji
        refine seqR (by kernel_rfl) ?_
        refine seqR (by kernel_rfl) ?_
        refine regionR 3 (by kernel_rfl) (by kernel_rfl) ?_
        refine (run0 (z := 0) 3 [2, 9, 10, 11, 12, 20, 85] [(2, .int .u8 mo), (9, .pointer (some ⟨k, 0, none⟩)), (10, .int .i64 (c : Int)), (11, .int .i64 (g : Int)), (12, .int .i64 x), (20, .int .i64 (i : Int)), (85, .bool (decide ((i : Int) < (c : Int))))] (fun _ => by kernel_rfl) (endR ?_) : RT _ _ _ _ _ _ 3 _)
        refine condR (b := decide ((i : Int) < (c : Int))) (by kernel_rfl) (fun _ => by kernel_rfl) (fun h4 => ?_) (fun h4 => ?_)
        · skip
          have hi : i < c := by have := of_decide_eq_true h4; omega
          refine skipR (by kernel_rfl) ?_
          refine seqR (by kernel_rfl) ?_
          refine blockR 7 (by kernel_rfl) (by kernel_rfl) ?_
          refine seqR (by kernel_rfl) ?_
          refine regionR 10 (by kernel_rfl) (by kernel_rfl) ?_
          refine (run0 (z := 5) 5 [2, 9, 10, 11, 12, 20, 88, 92] [(2, .int .u8 mo), (9, .pointer (some ⟨k, 0, none⟩)), (10, .int .i64 (c : Int)), (11, .int .i64 (g : Int)), (12, .int .i64 x), (20, .int .i64 (i : Int)), (88, .pointer (some ⟨k, 0, none⟩)), (92, .int .i64 (IntKind.i64.wrap ((IntKind.i64.wrap ((c : Int) + 1)) - (i : Int))))] (fun _ => by kernel_rfl) ?_ : RT _ _ _ _ _ _ 10 _)
          rw [show IntKind.i64.wrap ((c : Int) + 1) = ((c : Int) + 1) by rw [w64 (by omega) (by omega)]]
          rw [show IntKind.i64.wrap (((c : Int) + 1) - (i : Int)) = (((c : Int) + 1) - (i : Int)) by rw [w64 (by omega) (by omega)]]
          refine (stepR (z := 4) (callS 19 [.pointer (some ⟨k, 0, none⟩), .int .i64 (((c : Int) + 1) - (i : Int))] (some 93) (fun _ => .bool (decide ((i : Int) < (g : Int)))) (fun _ => (kerS k s3 :: H)) (fun _ => by kernel_rfl) ((by have h := ready10_walk H k s3 hI3.ok (by have := hI3.nx; omega) ((c : Int) + 1 - (i : Int)); rw [hrd i hi] at h; exact h))) (fun _ => ?_) : RT _ _ _ _ _ _ 5 _)
          refine (run0 (z := 0) 4 [2, 9, 10, 11, 12, 20, 97] [(2, .int .u8 mo), (9, .pointer (some ⟨k, 0, none⟩)), (10, .int .i64 (c : Int)), (11, .int .i64 (g : Int)), (12, .int .i64 x), (20, .int .i64 (i : Int)), (97, .bool ((decide ((i : Int) < (g : Int))) != (decide ((i : Int) < (g : Int)))))] (fun _ => by kernel_rfl) (endR ?_) : RT _ _ _ _ _ _ 4 _)
          rw [show ((decide ((i : Int) < (g : Int))) != (decide ((i : Int) < (g : Int)))) = false from by simp]
          refine condR (b := false) (by kernel_rfl) (fun _ => by kernel_rfl) (fun h => by cases h) (fun _ => ?_)
          refine skipR (by kernel_rfl) ?_
          refine regionR 3 (by kernel_rfl) (by kernel_rfl) ?_
          refine (run0 (z := 0) 3 [2, 9, 10, 11, 12, 20] [(2, .int .u8 mo), (9, .pointer (some ⟨k, 0, none⟩)), (10, .int .i64 (c : Int)), (11, .int .i64 (g : Int)), (12, .int .i64 x), (20, .int .i64 (IntKind.i64.wrap ((i : Int) + 1)))] (fun _ => by kernel_rfl) (endR ?_) : RT _ _ _ _ _ _ 3 _)
          rw [show IntKind.i64.wrap ((i : Int) + 1) = ((i : Int) + 1) by rw [w64 (by omega) (by omega)]]
          refine PT.keep (L' := [(2, .int .u8 mo), (9, .pointer (some ⟨k, 0, none⟩)), (10, .int .i64 (c : Int)), (11, .int .i64 (g : Int)), (12, .int .i64 x), (20, .int .i64 ((i : Int) + 1))]) [2, 9, 10, 11, 12, 20] rfl ?_
          exact againG (j4 - 1) (i + 1) rfl rfl (by omega) (by omega)
        · skip
          refine exitR 6 (by kernel_rfl) (by kernel_rfl) ?_
          refine thenX ?_
          refine thenX ?_
          refine leaveR ?_
          refine seqR (by kernel_rfl) ?_
          refine regionR 5 (by kernel_rfl) (by kernel_rfl) ?_
          refine (run0 (z := 0) 5 [2, 9, 12, 21] [(2, .int .u8 mo), (9, .pointer (some ⟨k, 0, none⟩)), (12, .int .i64 x), (21, .int .i64 (mxI 0 (IntKind.i64.wrap ((g : Int) - (c : Int)))))] (fun _ => by kernel_rfl) (endR ?_) : RT _ _ _ _ _ _ 5 _)
          refine seqR (by kernel_rfl) ?_
          refine seqR (by kernel_rfl) ?_
          refine regionR 1 (by kernel_rfl) (by kernel_rfl) ?_
          refine (run0 (z := 0) 1 [2, 9, 12, 21, 22] [(2, .int .u8 mo), (9, .pointer (some ⟨k, 0, none⟩)), (12, .int .i64 x), (21, .int .i64 (mxI 0 (IntKind.i64.wrap ((g : Int) - (c : Int))))), (22, .int .i64 0)] (fun _ => by kernel_rfl) (endR ?_) : RT _ _ _ _ _ _ 1 _)
          refine blockR 8 (by kernel_rfl) (by kernel_rfl) ?_
          rw [show IntKind.i64.wrap ((g : Int) - (c : Int)) = ((g : Int) - (c : Int)) by rw [w64 (by omega) (by omega)]]
          rw [show (mxI 0 ((g : Int) - (c : Int))) = (((g - c : Nat)) : Int) by unfold mxI; split <;> omega]
          refine PT.keep (L' := [(2, .int .u8 mo), (9, .pointer (some ⟨k, 0, none⟩)), (12, .int .i64 x), (21, .int .i64 ((g - c : Nat) : Int)), (22, .int .i64 0)]) [2, 9, 12, 21, 22] rfl ?_
          refine loopG (fun (q : KS × Nat × Nat) => [(2, .int .u8 mo), (9, .pointer (some ⟨k, 0, none⟩)), (12, .int .i64 x), (21, .int .i64 (q.2.1 : Int)), (22, .int .i64 (q.2.2 : Int))]) (fun (q : KS × Nat × Nat) => (kerS k q.1 :: H)) (fun k (q : KS × Nat × Nat) => (k : Int) + q.2.2 = mo.tmod 6 ∧ q.2.1 ≤ 12 ∧ SgL q.1 x c q.2.1) (mo.tmod 6).toNat (s3, g - c, 0) (by kernel_rfl) ⟨by simp only; omega, by simp only; omega, hI3.left hxo⟩ ?_
          rintro j5 ⟨s5, lf, v5⟩ ⟨hj5, hlf12, hI5⟩
          simp only at hj5 hlf12 hI5
          refine seqR (by kernel_rfl) ?_
          refine seqR (by kernel_rfl) ?_
          refine regionR 5 (by kernel_rfl) (by kernel_rfl) ?_
          refine (run0 (z := 0) 5 [2, 9, 12, 21, 22, 106] [(2, .int .u8 mo), (9, .pointer (some ⟨k, 0, none⟩)), (12, .int .i64 x), (21, .int .i64 (lf : Int)), (22, .int .i64 (v5 : Int)), (106, .bool (decide ((v5 : Int) < (IntKind.i64.wrap (Int.tmod mo 6)))))] (fun _ => by kernel_rfl) (endR ?_) : RT _ _ _ _ _ _ 5 _)
          rw [show IntKind.i64.wrap (Int.tmod mo 6) = (Int.tmod mo 6) by rw [w64 (by omega) (by omega)]]
          refine condR (b := decide ((v5 : Int) < (Int.tmod mo 6))) (by kernel_rfl) (fun _ => by kernel_rfl) (fun h5 => ?_) (fun h5 => ?_)
          · skip
            have hv5 := of_decide_eq_true h5
            rcases Nat.eq_zero_or_pos lf with hlf | hlf
            · skip
              subst hlf
              obtain ⟨s', e, hk', hn', hrr⟩ := hI5.stop hxo
              refine skipR (by kernel_rfl) ?_
              refine seqR (by kernel_rfl) ?_
              refine blockR 9 (by kernel_rfl) (by kernel_rfl) ?_
              refine seqR (by kernel_rfl) ?_
              refine regionR 8 (by kernel_rfl) (by kernel_rfl) ?_
              refine (run0 (z := 6) 2 [2, 9, 12, 21, 22, 110, 111] [(2, .int .u8 mo), (9, .pointer (some ⟨k, 0, none⟩)), (12, .int .i64 x), (21, .int .i64 0), (22, .int .i64 (v5 : Int)), (110, .pointer (some ⟨k, 0, none⟩)), (111, .int .i64 x)] (fun _ => by kernel_rfl) ?_ : RT _ _ _ _ _ _ 8 _)
              refine (stepR (z := 5) (callS 17 [.pointer (some ⟨k, 0, none⟩), .int .i64 1, .int .i64 x] (some 112) (fun _ => .tuple #[.bool false, .nilIface]) (fun _ => (kerS k s' :: H)) (fun _ => by kernel_rfl) ((by have h := krWait H k s5 1 x; rw [e] at h; exact h))) (fun _ => ?_) : RT _ _ _ _ _ _ 6 _)
              refine (run0 (z := 0) 5 [2, 9, 12, 21, 22, 23, 24] [(2, .int .u8 mo), (9, .pointer (some ⟨k, 0, none⟩)), (12, .int .i64 x), (21, .int .i64 0), (22, .int .i64 (v5 : Int)), (23, .bool false), (24, .nilIface)] (fun _ => by kernel_rfl) (endR ?_) : RT _ _ _ _ _ _ 5 _)
              refine seqR (by kernel_rfl) ?_
              refine seqR (by kernel_rfl) ?_
              refine regionR 8 (by kernel_rfl) (by kernel_rfl) ?_
              refine (run0 (z := 0) 8 [2, 9, 12, 21, 22, 23, 122] [(2, .int .u8 mo), (9, .pointer (some ⟨k, 0, none⟩)), (12, .int .i64 x), (21, .int .i64 0), (22, .int .i64 (v5 : Int)), (23, .bool false), (122, .bool (false != false))] (fun _ => by kernel_rfl) (endR ?_) : RT _ _ _ _ _ _ 8 _)
              rw [show (false != false) = false from by simp]
              refine condR (b := false) (by kernel_rfl) (fun _ => by kernel_rfl) (fun h => by cases h) (fun _ => ?_)
              refine skipR (by kernel_rfl) ?_
              refine seqR (by kernel_rfl) ?_
              refine seqR (by kernel_rfl) ?_
              refine regionR 2 (by kernel_rfl) (by kernel_rfl) ?_
              refine (run0 (z := 0) 2 [2, 9, 12, 21, 22, 124] [(2, .int .u8 mo), (9, .pointer (some ⟨k, 0, none⟩)), (12, .int .i64 x), (21, .int .i64 0), (22, .int .i64 (v5 : Int)), (124, .bool true)] (fun _ => by kernel_rfl) (endR ?_) : RT _ _ _ _ _ _ 2 _)
              refine condR (b := true) (by kernel_rfl) (fun _ => by kernel_rfl) (fun _ => ?_) (fun h => by cases h)
              refine seqR (by kernel_rfl) ?_
              refine regionR 4 (by kernel_rfl) (by kernel_rfl) ?_
              refine (run0 (z := 3) 1 [2, 9, 12, 21, 22, 125] [(2, .int .u8 mo), (9, .pointer (some ⟨k, 0, none⟩)), (12, .int .i64 x), (21, .int .i64 0), (22, .int .i64 (v5 : Int)), (125, .pointer (some ⟨k, 0, none⟩))] (fun _ => by kernel_rfl) ?_ : RT _ _ _ _ _ _ 4 _)
              refine (stepR (z := 2) (callS 19 [.pointer (some ⟨k, 0, none⟩), .int .i64 1] (some 126) (fun _ => .bool false) (fun _ => (kerS k s' :: H)) (fun _ => by kernel_rfl) ((by have h := ready10_walk H k s' hk' (by omega) 1; rw [hrr] at h; exact h))) (fun _ => ?_) : RT _ _ _ _ _ _ 3 _)
              refine (run0 (z := 0) 2 [2, 9, 12, 21, 22, 8] [(2, .int .u8 mo), (9, .pointer (some ⟨k, 0, none⟩)), (12, .int .i64 x), (21, .int .i64 0), (22, .int .i64 (v5 : Int)), (8, .bool true)] (fun _ => by kernel_rfl) (endR ?_) : RT _ _ _ _ _ _ 2 _)
              refine retR (by kernel_rfl) ?_
              refine thenV ?_
              refine blockV ?_
              refine thenV ?_
              refine thenV ?_
              refine blockV ?_
              refine thenV ?_
              refine done0 (.bool true) (fun _ => by kernel_rfl) (fun w hs => ?_) .ret (.inr rfl)
              exact ⟨(), rfl, hs.tail⟩
            · skip
              obtain ⟨lg, rfl⟩ : ∃ lg, lf = lg + 1 := ⟨lf - 1, by omega⟩
              obtain ⟨s', e, hI'⟩ := hI5.go hxo
              refine skipR (by kernel_rfl) ?_
              refine seqR (by kernel_rfl) ?_
              refine blockR 9 (by kernel_rfl) (by kernel_rfl) ?_
              refine seqR (by kernel_rfl) ?_
              refine regionR 8 (by kernel_rfl) (by kernel_rfl) ?_
              refine (run0 (z := 6) 2 [2, 9, 12, 21, 22, 110, 111] [(2, .int .u8 mo), (9, .pointer (some ⟨k, 0, none⟩)), (12, .int .i64 x), (21, .int .i64 ((lg + 1 : Nat) : Int)), (22, .int .i64 (v5 : Int)), (110, .pointer (some ⟨k, 0, none⟩)), (111, .int .i64 x)] (fun _ => by kernel_rfl) ?_ : RT _ _ _ _ _ _ 8 _)
              refine (stepR (z := 5) (callS 17 [.pointer (some ⟨k, 0, none⟩), .int .i64 1, .int .i64 x] (some 112) (fun _ => .tuple #[.bool true, .nilIface]) (fun _ => (kerS k s' :: H)) (fun _ => by kernel_rfl) ((by have h := krWait H k s5 1 x; rw [e] at h; exact h))) (fun _ => ?_) : RT _ _ _ _ _ _ 6 _)
              refine (run0 (z := 0) 5 [2, 9, 12, 21, 22, 23, 24] [(2, .int .u8 mo), (9, .pointer (some ⟨k, 0, none⟩)), (12, .int .i64 x), (21, .int .i64 ((lg + 1 : Nat) : Int)), (22, .int .i64 (v5 : Int)), (23, .bool true), (24, .nilIface)] (fun _ => by kernel_rfl) (endR ?_) : RT _ _ _ _ _ _ 5 _)
              refine seqR (by kernel_rfl) ?_
              refine seqR (by kernel_rfl) ?_
              refine regionR 8 (by kernel_rfl) (by kernel_rfl) ?_
              refine (run0 (z := 0) 8 [2, 9, 12, 21, 22, 23, 122] [(2, .int .u8 mo), (9, .pointer (some ⟨k, 0, none⟩)), (12, .int .i64 x), (21, .int .i64 ((lg + 1 : Nat) : Int)), (22, .int .i64 (v5 : Int)), (23, .bool true), (122, .bool (true != (decide (((lg + 1 : Nat) : Int) > 0))))] (fun _ => by kernel_rfl) (endR ?_) : RT _ _ _ _ _ _ 8 _)
              rw [show (true != (decide (((lg + 1 : Nat) : Int) > 0))) = false from by simp]
              refine condR (b := false) (by kernel_rfl) (fun _ => by kernel_rfl) (fun h => by cases h) (fun _ => ?_)
              refine skipR (by kernel_rfl) ?_
              refine seqR (by kernel_rfl) ?_
              refine seqR (by kernel_rfl) ?_
              refine regionR 2 (by kernel_rfl) (by kernel_rfl) ?_
              refine (run0 (z := 0) 2 [2, 9, 12, 21, 22, 124] [(2, .int .u8 mo), (9, .pointer (some ⟨k, 0, none⟩)), (12, .int .i64 x), (21, .int .i64 ((lg + 1 : Nat) : Int)), (22, .int .i64 (v5 : Int)), (124, .bool false)] (fun _ => by kernel_rfl) (endR ?_) : RT _ _ _ _ _ _ 2 _)
              refine condR (b := false) (by kernel_rfl) (fun _ => by kernel_rfl) (fun h => by cases h) (fun _ => ?_)
              refine skipR (by kernel_rfl) ?_
              refine regionR 3 (by kernel_rfl) (by kernel_rfl) ?_
              refine (run0 (z := 0) 3 [2, 9, 12, 21, 22] [(2, .int .u8 mo), (9, .pointer (some ⟨k, 0, none⟩)), (12, .int .i64 x), (21, .int .i64 (IntKind.i64.wrap (((lg + 1 : Nat) : Int) - 1))), (22, .int .i64 (v5 : Int))] (fun _ => by kernel_rfl) (endR ?_) : RT _ _ _ _ _ _ 3 _)
              refine regionR 3 (by kernel_rfl) (by kernel_rfl) ?_
              refine (run0 (z := 0) 3 [2, 9, 12, 21, 22] [(2, .int .u8 mo), (9, .pointer (some ⟨k, 0, none⟩)), (12, .int .i64 x), (21, .int .i64 (IntKind.i64.wrap (((lg + 1 : Nat) : Int) - 1))), (22, .int .i64 (IntKind.i64.wrap ((v5 : Int) + 1)))] (fun _ => by kernel_rfl) (endR ?_) : RT _ _ _ _ _ _ 3 _)
              rw [show IntKind.i64.wrap (((lg + 1 : Nat) : Int) - 1) = (((lg + 1 : Nat) : Int) - 1) by rw [w64 (by omega) (by omega)]]
              rw [show IntKind.i64.wrap ((v5 : Int) + 1) = ((v5 : Int) + 1) by rw [w64 (by omega) (by omega)]]
              rw [show (((lg + 1 : Nat) : Int) - 1) = (lg : Int) by omega]
              refine PT.keep (L' := [(2, .int .u8 mo), (9, .pointer (some ⟨k, 0, none⟩)), (12, .int .i64 x), (21, .int .i64 (lg : Int)), (22, .int .i64 ((v5 : Int) + 1))]) [2, 9, 12, 21, 22] rfl ?_
              exact againG (j5 - 1) (s', lg, v5 + 1) rfl rfl (by omega) ⟨by simp only; omega, by simp only; omega, hI'⟩
          · skip
            refine exitR 8 (by kernel_rfl) (by kernel_rfl) ?_
            refine thenX ?_
            refine thenX ?_
            refine leaveR ?_
            refine seqR (by kernel_rfl) ?_
            refine regionR 3 (by kernel_rfl) (by kernel_rfl) ?_
            refine (run0 (z := 2) 1 [130] [(130, .pointer (some ⟨k, 0, none⟩))] (fun _ => by kernel_rfl) ?_ : RT _ _ _ _ _ _ 3 _)
            have hr5 : rdyOf s5.N 1 = true := by rw [rdyOf_T (isR_isT hI5.R), hI5.R]
            refine (stepR (z := 1) (callS 19 [.pointer (some ⟨k, 0, none⟩), .int .i64 1] (some 131) (fun _ => .bool true) (fun _ => (kerS k s5 :: H)) (fun _ => by kernel_rfl) ((by have h := ready10_walk H k s5 hI5.ok (by have := hI5.nx; omega) 1; rw [hr5] at h; exact h))) (fun _ => ?_) : RT _ _ _ _ _ _ 2 _)
            refine (run0 (z := 0) 1 [8] [(8, .bool true)] (fun _ => by kernel_rfl) (endR ?_) : RT _ _ _ _ _ _ 1 _)
            refine retR (by kernel_rfl) ?_
            refine done0 (.bool true) (fun _ => by kernel_rfl) (fun w hs => ?_) .ret (.inr rfl)
            exact ⟨(), rfl, hs.tail⟩
theorem signals_row (W : World) (n m r o : Int) (hn : (Lit.int .u8 n).wf = true) (hm : (Lit.int .u8 m).wf = true) (hr : (Lit.int .u8 r).wf = true) (ho : (Lit.int .u8 o).wf = true) : Calls Tryz.prog 9 #[.int .u8 n, .int .u8 m, .int .u8 r, .int .u8 o] W (LawPost W) :=
  lawPost (fun _ _ h => h) (signals10_walk [old W] n m r o (u8_wf hn) (u8_wf hm) (u8_wf hr) (u8_wf ho) W (Sat.start W))
end Go.Proofs.YtlhjibkkkhgonaaGreat
