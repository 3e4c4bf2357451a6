/- Texts put together: KernelQuotas: its walk. Conditions: none. -/
import Derived.Test.YtlhjibkkkhgonaaGreatMgKb6
set_option linter.unusedVariables false
set_option linter.unusedSimpArgs false
namespace Go.Proofs.YtlhjibkkkhgonaaGreat
open Go.RowKit G
set_option maxHeartbeats 1000000 in
set_option maxRecDepth 100000 in
theorem quotas10_walk (H : List SP) (th gr n : Int) (hn : 0 ≤ n ∧ n < 256) : ∀ w, Sat w H → Calls Tryz.prog 5 #[.int .i64 th, .int .i64 gr, .int .u8 n] w (Ret (ι := Unit) (fun _ => .bool true) fun _ => H) := by
  obtain ⟨t, ht⟩ : ∃ t, mtOf th = t := ⟨_, rfl⟩
  obtain ⟨g, hg⟩ : ∃ g, mgOf gr = g := ⟨_, rfl⟩
  have htb := mtOf_in th
  have hgb := mgOf_in gr
  have hst := QtI.start th gr
  rw [ht, hg] at hst
  rw [ht] at htb
  rw [hg] at hgb
  refine enterG (fn := Tryz.f5) 118 [.int .i64 th, .int .i64 gr, .int .u8 n] Tryz.func5 (by kernel_rfl) (by kernel_rfl) (by kernel_rfl) ?_
  refine seqR (by kernel_rfl) ?_
  refine regionR 1 (by kernel_rfl) (by kernel_rfl) ?_
  refine (run0 (z := 0) 1 [0, 1, 2, 6] [(0, .int .i64 th), (1, .int .i64 gr), (2, .int .u8 n), (6, .bool false)] (fun _ => by kernel_rfl) (endR ?_) : RT _ _ _ _ _ _ 1 _)
  refine seqR (by kernel_rfl) ?_
  refine seqR (by kernel_rfl) ?_
  refine regionR 2 (by kernel_rfl) (by kernel_rfl) ?_
  refine (stepR (z := 1) (callS 10 [] (some 21) (fun _ => .bool true) (fun (_ : Unit) => (H)) (fun _ => by kernel_rfl) (known10 _)) (fun _ => ?_) : RT _ _ _ _ _ _ 2 _)
  refine (run0 (z := 0) 1 [0, 1, 2, 6, 22] [(0, .int .i64 th), (1, .int .i64 gr), (2, .int .u8 n), (6, .bool false), (22, .bool false)] (fun _ => by kernel_rfl) (endR ?_) : RT _ _ _ _ _ _ 1 _)
  refine condR (b := false) (by kernel_rfl) (fun _ => by kernel_rfl) (fun h => by cases h) (fun _ => ?_)
  refine skipR (by kernel_rfl) ?_
  refine seqR (by kernel_rfl) ?_
  refine regionR 4 (by kernel_rfl) (by kernel_rfl) ?_
  refine (run0 (z := 2) 2 [0, 1, 2, 6, 23, 24] [(0, .int .i64 th), (1, .int .i64 gr), (2, .int .u8 n), (6, .bool false), (23, .int .i64 th), (24, .int .i64 gr)] (fun _ => by kernel_rfl) ?_ : RT _ _ _ _ _ _ 4 _)
  refine (stepR (z := 1) (callS 11 [.int .i64 th, .int .i64 gr] (some 25) (fun (k : Nat) => .pointer (some ⟨k, 0, none⟩)) (fun (k : Nat) => (kerS k (k0 (mtOf th) (mgOf gr)) :: H)) (fun _ => by kernel_rfl) (knew_walk _ th gr)) (fun (k : Nat) => ?_) : RT _ _ _ _ _ _ 2 _)
  refine (run0 (z := 0) 1 [0, 1, 2, 6, 7] [(0, .int .i64 th), (1, .int .i64 gr), (2, .int .u8 n), (6, .bool false), (7, .pointer (some ⟨k, 0, none⟩))] (fun _ => by kernel_rfl) (endR ?_) : RT _ _ _ _ _ _ 1 _)
  refine seqR (by kernel_rfl) ?_
  refine regionR 8 (by kernel_rfl) (by kernel_rfl) ?_
  refine (run0 (z := 0) 8 [2, 6, 7, 8, 9] [(2, .int .u8 n), (6, .bool false), (7, .pointer (some ⟨k, 0, none⟩)), (8, .int .i64 (mxI 1 (mnI th 8))), (9, .int .i64 (mxI 0 (mnI gr 4)))] (fun _ => by kernel_rfl) (endR ?_) : RT _ _ _ _ _ _ 8 _)
  refine seqR (by kernel_rfl) ?_
  refine seqR (by kernel_rfl) ?_
  refine regionR 1 (by kernel_rfl) (by kernel_rfl) ?_
  refine (run0 (z := 0) 1 [2, 6, 7, 8, 9, 10] [(2, .int .u8 n), (6, .bool false), (7, .pointer (some ⟨k, 0, none⟩)), (8, .int .i64 (mxI 1 (mnI th 8))), (9, .int .i64 (mxI 0 (mnI gr 4))), (10, .int .i64 1)] (fun _ => by kernel_rfl) (endR ?_) : RT _ _ _ _ _ _ 1 _)
  refine blockR 0 (by kernel_rfl) (by kernel_rfl) ?_
  rw [show (mxI 1 (mnI th 8)) = t by rw [mtOf_eq]; exact ht]
  rw [show (mxI 0 (mnI gr 4)) = g by rw [mgOf_eq]; exact hg]
  rw [show (k0 (mtOf th) (mgOf gr)) = (k0 t g) by rw [ht, hg]]
  refine PT.keep (L' := [(2, .int .u8 n), (7, .pointer (some ⟨k, 0, none⟩)), (8, .int .i64 t), (9, .int .i64 g), (10, .int .i64 1)]) [2, 7, 8, 9, 10] rfl ?_
  refine loopG (fun (q : KS × Nat) => [(2, .int .u8 n), (7, .pointer (some ⟨k, 0, none⟩)), (8, .int .i64 t), (9, .int .i64 g), (10, .int .i64 (q.2 : Int))]) (fun (q : KS × Nat) => (kerS k q.1 :: H)) (fun k (q : KS × Nat) => k + q.2 = 10 ∧ QtI q.1 t g q.2 0) 9 (k0 t g, 1) (by kernel_rfl) ⟨by simp only, hst⟩ ?_
  rintro j ⟨s, u⟩ ⟨hju, hI⟩
  simp only at hju hI
  refine seqR (by kernel_rfl) ?_
  refine seqR (by kernel_rfl) ?_
  refine regionR 2 (by kernel_rfl) (by kernel_rfl) ?_
  refine (run0 (z := 0) 2 [2, 7, 8, 9, 10, 33] [(2, .int .u8 n), (7, .pointer (some ⟨k, 0, none⟩)), (8, .int .i64 t), (9, .int .i64 g), (10, .int .i64 (u : Int)), (33, .bool (decide ((u : Int) < 10)))] (fun _ => by kernel_rfl) (endR ?_) : RT _ _ _ _ _ _ 2 _)
  refine condR (b := decide ((u : Int) < 10)) (by kernel_rfl) (fun _ => by kernel_rfl) (fun h1 => ?_) (fun h1 => ?_)
  · skip
    have hu : u < 10 := by have := of_decide_eq_true h1; omega
    have hnx : s.nx ≤ 1099511627776 := by have := hI.nx; omega
    rcases Int.lt_or_le (u : Int) t with hut | hut
    · skip
      obtain ⟨s', e, hI'⟩ := hI.spawn hut
      refine skipR (by kernel_rfl) ?_
      refine seqR (by kernel_rfl) ?_
      refine blockR 1 (by kernel_rfl) (by kernel_rfl) ?_
      refine seqR (by kernel_rfl) ?_
      refine regionR 7 (by kernel_rfl) (by kernel_rfl) ?_
      refine (run0 (z := 6) 1 [2, 7, 8, 9, 10, 37] [(2, .int .u8 n), (7, .pointer (some ⟨k, 0, none⟩)), (8, .int .i64 t), (9, .int .i64 g), (10, .int .i64 (u : Int)), (37, .pointer (some ⟨k, 0, none⟩))] (fun _ => by kernel_rfl) ?_ : RT _ _ _ _ _ _ 7 _)
      refine (stepR (z := 5) (callS 12 [.pointer (some ⟨k, 0, none⟩), .int .i64 0, .int .i64 1] (some 38) (fun _ => .tuple #[.int .i64 s.nx, .nilIface]) (fun _ => (kerS k s' :: H)) (fun _ => by kernel_rfl) ((by have h := krSpawn H k s hnx 0 1; rw [e] at h; exact h))) (fun _ => ?_) : RT _ _ _ _ _ _ 6 _)
      refine (run0 (z := 0) 5 [2, 7, 8, 9, 10, 12] [(2, .int .u8 n), (7, .pointer (some ⟨k, 0, none⟩)), (8, .int .i64 t), (9, .int .i64 g), (10, .int .i64 (u : Int)), (12, .nilIface)] (fun _ => by kernel_rfl) (endR ?_) : RT _ _ _ _ _ _ 5 _)
      refine seqR (by kernel_rfl) ?_
      refine regionR 16 (by kernel_rfl) (by kernel_rfl) ?_
      refine (run0 (z := 9) 7 [2, 7, 8, 9, 10, 12, 47] [(2, .int .u8 n), (7, .pointer (some ⟨k, 0, none⟩)), (8, .int .i64 t), (9, .int .i64 g), (10, .int .i64 (u : Int)), (12, .nilIface), (47, .bool (true != (decide ((u : Int) < t))))] (fun _ => by kernel_rfl) ?_ : RT _ _ _ _ _ _ 16 _)
      refine (segR (ι := Unit) (z := 0) 9 (fun _ => [(2, .int .u8 n), (7, .pointer (some ⟨k, 0, none⟩)), (8, .int .i64 t), (9, .int .i64 g), (10, .int .i64 (u : Int)), (56, .bool ((true != (decide ((u : Int) < t))) || false))]) (fun _ => (kerS k s' :: H)) ?_ (fun _ => ?_) : RT _ _ _ _ _ _ 9 _)
      · cases hg7 : (true != (decide ((u : Int) < t))) with
        | true =>
          refine (run0 (z := 0) 9 [2, 7, 8, 9, 10, 56] [(2, .int .u8 n), (7, .pointer (some ⟨k, 0, none⟩)), (8, .int .i64 t), (9, .int .i64 g), (10, .int .i64 (u : Int)), (56, .bool true)] (fun _ => by kernel_rfl) (endR ?_) : RT _ _ _ _ _ _ 9 _)
          refine PT.keep (L' := [(2, .int .u8 n), (7, .pointer (some ⟨k, 0, none⟩)), (8, .int .i64 t), (9, .int .i64 g), (10, .int .i64 (u : Int)), (56, .bool (true || false))]) [2, 7, 8, 9, 10, 56] rfl ?_
          exact midR () rfl rfl
        | false =>
          refine (run0 (z := 0) 9 [2, 7, 8, 9, 10, 56] [(2, .int .u8 n), (7, .pointer (some ⟨k, 0, none⟩)), (8, .int .i64 t), (9, .int .i64 g), (10, .int .i64 (u : Int)), (56, .bool false)] (fun _ => by kernel_rfl) (endR ?_) : RT _ _ _ _ _ _ 9 _)
          refine PT.keep (L' := [(2, .int .u8 n), (7, .pointer (some ⟨k, 0, none⟩)), (8, .int .i64 t), (9, .int .i64 g), (10, .int .i64 (u : Int)), (56, .bool (false || false))]) [2, 7, 8, 9, 10, 56] rfl ?_
          exact midR () rfl rfl
      refine endR ?_
      rw [show ((true != (decide ((u : Int) < t))) || false) = false from by simp; omega]
      refine condR (b := false) (by kernel_rfl) (fun _ => by kernel_rfl) (fun h => by cases h) (fun _ => ?_)
      refine skipR (by kernel_rfl) ?_
      refine regionR 3 (by kernel_rfl) (by kernel_rfl) ?_
      refine (run0 (z := 0) 3 [2, 7, 8, 9, 10] [(2, .int .u8 n), (7, .pointer (some ⟨k, 0, none⟩)), (8, .int .i64 t), (9, .int .i64 g), (10, .int .i64 (IntKind.i64.wrap ((u : Int) + 1)))] (fun _ => by kernel_rfl) (endR ?_) : RT _ _ _ _ _ _ 3 _)
      rw [show IntKind.i64.wrap ((u : Int) + 1) = ((u : Int) + 1) by rw [w64 (by omega) (by omega)]]
      refine PT.keep (L' := [(2, .int .u8 n), (7, .pointer (some ⟨k, 0, none⟩)), (8, .int .i64 t), (9, .int .i64 g), (10, .int .i64 ((u : Int) + 1))]) [2, 7, 8, 9, 10] rfl ?_
      exact againG (j - 1) (s', u + 1) rfl rfl (by omega) ⟨by simp only; omega, hI'⟩
    · skip
      obtain ⟨e, hI'⟩ := hI.spawnF hut
      refine skipR (by kernel_rfl) ?_
      refine seqR (by kernel_rfl) ?_
      refine blockR 1 (by kernel_rfl) (by kernel_rfl) ?_
      refine seqR (by kernel_rfl) ?_
      refine regionR 7 (by kernel_rfl) (by kernel_rfl) ?_
      refine (run0 (z := 6) 1 [2, 7, 8, 9, 10, 37] [(2, .int .u8 n), (7, .pointer (some ⟨k, 0, none⟩)), (8, .int .i64 t), (9, .int .i64 g), (10, .int .i64 (u : Int)), (37, .pointer (some ⟨k, 0, none⟩))] (fun _ => by kernel_rfl) ?_ : RT _ _ _ _ _ _ 7 _)
      refine (stepR (z := 5) (callS 12 [.pointer (some ⟨k, 0, none⟩), .int .i64 0, .int .i64 1] (some 38) (fun _ => .tuple #[.int .i64 0, .iface 40 (.int .i64 14)]) (fun _ => (kerS k s :: H)) (fun _ => by kernel_rfl) ((by have h := krSpawn H k s hnx 0 1; rw [e] at h; exact h))) (fun _ => ?_) : RT _ _ _ _ _ _ 6 _)
      refine (run0 (z := 0) 5 [2, 7, 8, 9, 10, 12] [(2, .int .u8 n), (7, .pointer (some ⟨k, 0, none⟩)), (8, .int .i64 t), (9, .int .i64 g), (10, .int .i64 (u : Int)), (12, .iface 40 (.int .i64 14))] (fun _ => by kernel_rfl) (endR ?_) : RT _ _ _ _ _ _ 5 _)
      refine seqR (by kernel_rfl) ?_
      refine regionR 16 (by kernel_rfl) (by kernel_rfl) ?_
      refine (run0 (z := 9) 7 [2, 7, 8, 9, 10, 12, 47] [(2, .int .u8 n), (7, .pointer (some ⟨k, 0, none⟩)), (8, .int .i64 t), (9, .int .i64 g), (10, .int .i64 (u : Int)), (12, .iface 40 (.int .i64 14)), (47, .bool (false != (decide ((u : Int) < t))))] (fun _ => by kernel_rfl) ?_ : RT _ _ _ _ _ _ 16 _)
      refine (segR (ι := Unit) (z := 0) 9 (fun _ => [(2, .int .u8 n), (7, .pointer (some ⟨k, 0, none⟩)), (8, .int .i64 t), (9, .int .i64 g), (10, .int .i64 (u : Int)), (56, .bool ((false != (decide ((u : Int) < t))) || false))]) (fun _ => (kerS k s :: H)) ?_ (fun _ => ?_) : RT _ _ _ _ _ _ 9 _)
      · cases hg7 : (false != (decide ((u : Int) < t))) with
        | true =>
          refine (run0 (z := 0) 9 [2, 7, 8, 9, 10, 56] [(2, .int .u8 n), (7, .pointer (some ⟨k, 0, none⟩)), (8, .int .i64 t), (9, .int .i64 g), (10, .int .i64 (u : Int)), (56, .bool true)] (fun _ => by kernel_rfl) (endR ?_) : RT _ _ _ _ _ _ 9 _)
          refine PT.keep (L' := [(2, .int .u8 n), (7, .pointer (some ⟨k, 0, none⟩)), (8, .int .i64 t), (9, .int .i64 g), (10, .int .i64 (u : Int)), (56, .bool (true || false))]) [2, 7, 8, 9, 10, 56] rfl ?_
          exact midR () rfl rfl
        | false =>
          refine (run0 (z := 4) 5 [2, 7, 8, 9, 10, 47, 50, 51, 52] [(2, .int .u8 n), (7, .pointer (some ⟨k, 0, none⟩)), (8, .int .i64 t), (9, .int .i64 g), (10, .int .i64 (u : Int)), (47, .bool false), (50, .bool true), (51, .iface 40 (.int .i64 14)), (52, .iface 40 (.int .i64 14))] (fun _ => by kernel_rfl) ?_ : RT _ _ _ _ _ _ 9 _)
          refine (stepR (z := 3) (callS 18 [.iface 40 (.int .i64 14), .iface 40 (.int .i64 14)] (some 53) (fun _ => .bool (14 == 14)) (fun (_ : Unit) => (kerS k s :: H)) (fun _ => by kernel_rfl) (isErr_walk _ 14 14)) (fun _ => ?_) : RT _ _ _ _ _ _ 4 _)
          refine (run0 (z := 0) 3 [2, 7, 8, 9, 10, 56] [(2, .int .u8 n), (7, .pointer (some ⟨k, 0, none⟩)), (8, .int .i64 t), (9, .int .i64 g), (10, .int .i64 (u : Int)), (56, .bool false)] (fun _ => by kernel_rfl) (endR ?_) : RT _ _ _ _ _ _ 3 _)
          refine PT.keep (L' := [(2, .int .u8 n), (7, .pointer (some ⟨k, 0, none⟩)), (8, .int .i64 t), (9, .int .i64 g), (10, .int .i64 (u : Int)), (56, .bool (false || false))]) [2, 7, 8, 9, 10, 56] rfl ?_
          exact midR () rfl rfl
      refine endR ?_
      rw [show ((false != (decide ((u : Int) < t))) || false) = false from by simp; omega]
      refine condR (b := false) (by kernel_rfl) (fun _ => by kernel_rfl) (fun h => by cases h) (fun _ => ?_)
      refine skipR (by kernel_rfl) ?_
      refine regionR 3 (by kernel_rfl) (by kernel_rfl) ?_
      refine (run0 (z := 0) 3 [2, 7, 8, 9, 10] [(2, .int .u8 n), (7, .pointer (some ⟨k, 0, none⟩)), (8, .int .i64 t), (9, .int .i64 g), (10, .int .i64 (IntKind.i64.wrap ((u : Int) + 1)))] (fun _ => by kernel_rfl) (endR ?_) : RT _ _ _ _ _ _ 3 _)
      rw [show IntKind.i64.wrap ((u : Int) + 1) = ((u : Int) + 1) by rw [w64 (by omega) (by omega)]]
      refine PT.keep (L' := [(2, .int .u8 n), (7, .pointer (some ⟨k, 0, none⟩)), (8, .int .i64 t), (9, .int .i64 g), (10, .int .i64 ((u : Int) + 1))]) [2, 7, 8, 9, 10] rfl ?_
      exact againG (j - 1) (s, u + 1) rfl rfl (by omega) ⟨by simp only; omega, hI'⟩
  · skip
    have hu : u = 10 := by have := of_decide_eq_false h1; omega
    rw [hu] at hI
    refine exitR 0 (by kernel_rfl) (by kernel_rfl) ?_
    refine thenX ?_
    refine thenX ?_
    refine leaveR ?_
    refine seqR (by kernel_rfl) ?_
    refine seqR (by kernel_rfl) ?_
    refine regionR 1 (by kernel_rfl) (by kernel_rfl) ?_
    refine (run0 (z := 0) 1 [2, 7, 8, 9, 13] [(2, .int .u8 n), (7, .pointer (some ⟨k, 0, none⟩)), (8, .int .i64 t), (9, .int .i64 g), (13, .int .i64 0)] (fun _ => by kernel_rfl) (endR ?_) : RT _ _ _ _ _ _ 1 _)
    refine blockR 2 (by kernel_rfl) (by kernel_rfl) ?_
    refine PT.keep (L' := [(2, .int .u8 n), (7, .pointer (some ⟨k, 0, none⟩)), (8, .int .i64 t), (9, .int .i64 g), (13, .int .i64 0)]) [2, 7, 8, 9, 13] rfl ?_
    refine loopG (fun (q : KS × Nat) => [(2, .int .u8 n), (7, .pointer (some ⟨k, 0, none⟩)), (8, .int .i64 t), (9, .int .i64 g), (13, .int .i64 (q.2 : Int))]) (fun (q : KS × Nat) => (kerS k q.1 :: H)) (fun k (q : KS × Nat) => k + q.2 = 6 ∧ QtI q.1 t g (10 : Nat) q.2) 6 (s, 0) (by kernel_rfl) ⟨by simp only, hI⟩ ?_
    rintro j2 ⟨s2, v⟩ ⟨hjv, hI2⟩
    simp only at hjv hI2
    refine seqR (by kernel_rfl) ?_
    refine seqR (by kernel_rfl) ?_
    refine regionR 2 (by kernel_rfl) (by kernel_rfl) ?_
    refine (run0 (z := 0) 2 [2, 7, 8, 9, 13, 58] [(2, .int .u8 n), (7, .pointer (some ⟨k, 0, none⟩)), (8, .int .i64 t), (9, .int .i64 g), (13, .int .i64 (v : Int)), (58, .bool (decide ((v : Int) < 6)))] (fun _ => by kernel_rfl) (endR ?_) : RT _ _ _ _ _ _ 2 _)
    refine condR (b := decide ((v : Int) < 6)) (by kernel_rfl) (fun _ => by kernel_rfl) (fun h2 => ?_) (fun h2 => ?_)
    · skip
      have hv : v < 6 := by have := of_decide_eq_true h2; omega
      have hnx : s2.nx ≤ 1099511627776 := by have := hI2.nx; omega
      rcases Int.lt_or_le (v : Int) g with hvg | hvg
      · skip
        obtain ⟨s', e, hI'⟩ := hI2.group hvg
        refine skipR (by kernel_rfl) ?_
        refine seqR (by kernel_rfl) ?_
        refine blockR 3 (by kernel_rfl) (by kernel_rfl) ?_
        refine seqR (by kernel_rfl) ?_
        refine regionR 7 (by kernel_rfl) (by kernel_rfl) ?_
        refine (run0 (z := 6) 1 [2, 7, 8, 9, 13, 62] [(2, .int .u8 n), (7, .pointer (some ⟨k, 0, none⟩)), (8, .int .i64 t), (9, .int .i64 g), (13, .int .i64 (v : Int)), (62, .pointer (some ⟨k, 0, none⟩))] (fun _ => by kernel_rfl) ?_ : RT _ _ _ _ _ _ 7 _)
        refine (stepR (z := 5) (callS 13 [.pointer (some ⟨k, 0, none⟩), .int .i64 0, .int .i64 1] (some 63) (fun _ => .tuple #[.int .i64 s2.nx, .nilIface]) (fun _ => (kerS k s' :: H)) (fun _ => by kernel_rfl) ((by have h := krGroup H k s2 hnx 0 1; rw [e] at h; exact h))) (fun _ => ?_) : RT _ _ _ _ _ _ 6 _)
        refine (run0 (z := 0) 5 [2, 7, 8, 9, 13, 15] [(2, .int .u8 n), (7, .pointer (some ⟨k, 0, none⟩)), (8, .int .i64 t), (9, .int .i64 g), (13, .int .i64 (v : Int)), (15, .nilIface)] (fun _ => by kernel_rfl) (endR ?_) : RT _ _ _ _ _ _ 5 _)
        refine seqR (by kernel_rfl) ?_
        refine regionR 16 (by kernel_rfl) (by kernel_rfl) ?_
        refine (run0 (z := 9) 7 [2, 7, 8, 9, 13, 15, 72] [(2, .int .u8 n), (7, .pointer (some ⟨k, 0, none⟩)), (8, .int .i64 t), (9, .int .i64 g), (13, .int .i64 (v : Int)), (15, .nilIface), (72, .bool (true != (decide ((v : Int) < g))))] (fun _ => by kernel_rfl) ?_ : RT _ _ _ _ _ _ 16 _)
        refine (segR (ι := Unit) (z := 0) 9 (fun _ => [(2, .int .u8 n), (7, .pointer (some ⟨k, 0, none⟩)), (8, .int .i64 t), (9, .int .i64 g), (13, .int .i64 (v : Int)), (81, .bool ((true != (decide ((v : Int) < g))) || false))]) (fun _ => (kerS k s' :: H)) ?_ (fun _ => ?_) : RT _ _ _ _ _ _ 9 _)
        · cases hg7 : (true != (decide ((v : Int) < g))) with
          | true =>
            refine (run0 (z := 0) 9 [2, 7, 8, 9, 13, 81] [(2, .int .u8 n), (7, .pointer (some ⟨k, 0, none⟩)), (8, .int .i64 t), (9, .int .i64 g), (13, .int .i64 (v : Int)), (81, .bool true)] (fun _ => by kernel_rfl) (endR ?_) : RT _ _ _ _ _ _ 9 _)
            refine PT.keep (L' := [(2, .int .u8 n), (7, .pointer (some ⟨k, 0, none⟩)), (8, .int .i64 t), (9, .int .i64 g), (13, .int .i64 (v : Int)), (81, .bool (true || false))]) [2, 7, 8, 9, 13, 81] rfl ?_
            exact midR () rfl rfl
          | false =>
            refine (run0 (z := 0) 9 [2, 7, 8, 9, 13, 81] [(2, .int .u8 n), (7, .pointer (some ⟨k, 0, none⟩)), (8, .int .i64 t), (9, .int .i64 g), (13, .int .i64 (v : Int)), (81, .bool false)] (fun _ => by kernel_rfl) (endR ?_) : RT _ _ _ _ _ _ 9 _)
            refine PT.keep (L' := [(2, .int .u8 n), (7, .pointer (some ⟨k, 0, none⟩)), (8, .int .i64 t), (9, .int .i64 g), (13, .int .i64 (v : Int)), (81, .bool (false || false))]) [2, 7, 8, 9, 13, 81] rfl ?_
            exact midR () rfl rfl
        refine endR ?_
        rw [show ((true != (decide ((v : Int) < g))) || false) = false from by simp; omega]
        refine condR (b := false) (by kernel_rfl) (fun _ => by kernel_rfl) (fun h => by cases h) (fun _ => ?_)
        refine skipR (by kernel_rfl) ?_
        refine regionR 3 (by kernel_rfl) (by kernel_rfl) ?_
        refine (run0 (z := 0) 3 [2, 7, 8, 9, 13] [(2, .int .u8 n), (7, .pointer (some ⟨k, 0, none⟩)), (8, .int .i64 t), (9, .int .i64 g), (13, .int .i64 (IntKind.i64.wrap ((v : Int) + 1)))] (fun _ => by kernel_rfl) (endR ?_) : RT _ _ _ _ _ _ 3 _)
        rw [show IntKind.i64.wrap ((v : Int) + 1) = ((v : Int) + 1) by rw [w64 (by omega) (by omega)]]
        refine PT.keep (L' := [(2, .int .u8 n), (7, .pointer (some ⟨k, 0, none⟩)), (8, .int .i64 t), (9, .int .i64 g), (13, .int .i64 ((v : Int) + 1))]) [2, 7, 8, 9, 13] rfl ?_
        exact againG (j2 - 1) (s', v + 1) rfl rfl (by omega) ⟨by simp only; omega, hI'⟩
      · skip
        obtain ⟨e, hI'⟩ := hI2.groupF hvg
        refine skipR (by kernel_rfl) ?_
        refine seqR (by kernel_rfl) ?_
        refine blockR 3 (by kernel_rfl) (by kernel_rfl) ?_
        refine seqR (by kernel_rfl) ?_
        refine regionR 7 (by kernel_rfl) (by kernel_rfl) ?_
        refine (run0 (z := 6) 1 [2, 7, 8, 9, 13, 62] [(2, .int .u8 n), (7, .pointer (some ⟨k, 0, none⟩)), (8, .int .i64 t), (9, .int .i64 g), (13, .int .i64 (v : Int)), (62, .pointer (some ⟨k, 0, none⟩))] (fun _ => by kernel_rfl) ?_ : RT _ _ _ _ _ _ 7 _)
        refine (stepR (z := 5) (callS 13 [.pointer (some ⟨k, 0, none⟩), .int .i64 0, .int .i64 1] (some 63) (fun _ => .tuple #[.int .i64 0, .iface 40 (.int .i64 14)]) (fun _ => (kerS k s2 :: H)) (fun _ => by kernel_rfl) ((by have h := krGroup H k s2 hnx 0 1; rw [e] at h; exact h))) (fun _ => ?_) : RT _ _ _ _ _ _ 6 _)
        refine (run0 (z := 0) 5 [2, 7, 8, 9, 13, 15] [(2, .int .u8 n), (7, .pointer (some ⟨k, 0, none⟩)), (8, .int .i64 t), (9, .int .i64 g), (13, .int .i64 (v : Int)), (15, .iface 40 (.int .i64 14))] (fun _ => by kernel_rfl) (endR ?_) : RT _ _ _ _ _ _ 5 _)
        refine seqR (by kernel_rfl) ?_
        refine regionR 16 (by kernel_rfl) (by kernel_rfl) ?_
        refine (run0 (z := 9) 7 [2, 7, 8, 9, 13, 15, 72] [(2, .int .u8 n), (7, .pointer (some ⟨k, 0, none⟩)), (8, .int .i64 t), (9, .int .i64 g), (13, .int .i64 (v : Int)), (15, .iface 40 (.int .i64 14)), (72, .bool (false != (decide ((v : Int) < g))))] (fun _ => by kernel_rfl) ?_ : RT _ _ _ _ _ _ 16 _)
        refine (segR (ι := Unit) (z := 0) 9 (fun _ => [(2, .int .u8 n), (7, .pointer (some ⟨k, 0, none⟩)), (8, .int .i64 t), (9, .int .i64 g), (13, .int .i64 (v : Int)), (81, .bool ((false != (decide ((v : Int) < g))) || false))]) (fun _ => (kerS k s2 :: H)) ?_ (fun _ => ?_) : RT _ _ _ _ _ _ 9 _)
        · cases hg7 : (false != (decide ((v : Int) < g))) with
          | true =>
            refine (run0 (z := 0) 9 [2, 7, 8, 9, 13, 81] [(2, .int .u8 n), (7, .pointer (some ⟨k, 0, none⟩)), (8, .int .i64 t), (9, .int .i64 g), (13, .int .i64 (v : Int)), (81, .bool true)] (fun _ => by kernel_rfl) (endR ?_) : RT _ _ _ _ _ _ 9 _)
            refine PT.keep (L' := [(2, .int .u8 n), (7, .pointer (some ⟨k, 0, none⟩)), (8, .int .i64 t), (9, .int .i64 g), (13, .int .i64 (v : Int)), (81, .bool (true || false))]) [2, 7, 8, 9, 13, 81] rfl ?_
            exact midR () rfl rfl
          | false =>
            refine (run0 (z := 4) 5 [2, 7, 8, 9, 13, 72, 75, 76, 77] [(2, .int .u8 n), (7, .pointer (some ⟨k, 0, none⟩)), (8, .int .i64 t), (9, .int .i64 g), (13, .int .i64 (v : Int)), (72, .bool false), (75, .bool true), (76, .iface 40 (.int .i64 14)), (77, .iface 40 (.int .i64 14))] (fun _ => by kernel_rfl) ?_ : RT _ _ _ _ _ _ 9 _)
            refine (stepR (z := 3) (callS 18 [.iface 40 (.int .i64 14), .iface 40 (.int .i64 14)] (some 78) (fun _ => .bool (14 == 14)) (fun (_ : Unit) => (kerS k s2 :: H)) (fun _ => by kernel_rfl) (isErr_walk _ 14 14)) (fun _ => ?_) : RT _ _ _ _ _ _ 4 _)
            refine (run0 (z := 0) 3 [2, 7, 8, 9, 13, 81] [(2, .int .u8 n), (7, .pointer (some ⟨k, 0, none⟩)), (8, .int .i64 t), (9, .int .i64 g), (13, .int .i64 (v : Int)), (81, .bool false)] (fun _ => by kernel_rfl) (endR ?_) : RT _ _ _ _ _ _ 3 _)
            refine PT.keep (L' := [(2, .int .u8 n), (7, .pointer (some ⟨k, 0, none⟩)), (8, .int .i64 t), (9, .int .i64 g), (13, .int .i64 (v : Int)), (81, .bool (false || false))]) [2, 7, 8, 9, 13, 81] rfl ?_
            exact midR () rfl rfl
        refine endR ?_
        rw [show ((false != (decide ((v : Int) < g))) || false) = false from by simp; omega]
        refine condR (b := false) (by kernel_rfl) (fun _ => by kernel_rfl) (fun h => by cases h) (fun _ => ?_)
        refine skipR (by kernel_rfl) ?_
        refine regionR 3 (by kernel_rfl) (by kernel_rfl) ?_
        refine (run0 (z := 0) 3 [2, 7, 8, 9, 13] [(2, .int .u8 n), (7, .pointer (some ⟨k, 0, none⟩)), (8, .int .i64 t), (9, .int .i64 g), (13, .int .i64 (IntKind.i64.wrap ((v : Int) + 1)))] (fun _ => by kernel_rfl) (endR ?_) : RT _ _ _ _ _ _ 3 _)
        rw [show IntKind.i64.wrap ((v : Int) + 1) = ((v : Int) + 1) by rw [w64 (by omega) (by omega)]]
        refine PT.keep (L' := [(2, .int .u8 n), (7, .pointer (some ⟨k, 0, none⟩)), (8, .int .i64 t), (9, .int .i64 g), (13, .int .i64 ((v : Int) + 1))]) [2, 7, 8, 9, 13] rfl ?_
        exact againG (j2 - 1) (s2, v + 1) rfl rfl (by omega) ⟨by simp only; omega, hI'⟩
    · skip
      have hv : v = 6 := by have := of_decide_eq_false h2; omega
      have hnx2 := hI2.nx
      have hlen := hI2.len (by omega)
      obtain ⟨L, hL⟩ : ∃ L, kthreads s2 = L := ⟨_, rfl⟩
      rw [hL] at hlen
      have hLl : 1 ≤ L.length ∧ L.length ≤ 8 := by omega
      obtain ⟨y, hy⟩ : ∃ y : Nat, n.tmod (L.length : Int) = (y : Int) := ⟨(n.tmod (L.length : Int)).toNat, by have := tmod_range hn.1 (m := (L.length : Int)) (by omega); omega⟩
      have hyl : y < L.length := by have := tmod_range hn.1 (m := (L.length : Int)) (by omega); omega
      obtain ⟨id, hid⟩ : ∃ id, L[y]? = some id := ⟨_, List.getElem?_eq_getElem hyl⟩
      obtain ⟨s3, s4, e3, n3, e4, n4, e5⟩ := hI2.exit (by omega) htb.1 (by rw [hL]; exact List.mem_of_getElem? hid)
      refine exitR 2 (by kernel_rfl) (by kernel_rfl) ?_
      refine thenX ?_
      refine thenX ?_
      refine leaveR ?_
      refine seqR (by kernel_rfl) ?_
      refine regionR 3 (by kernel_rfl) (by kernel_rfl) ?_
      refine (run0 (z := 2) 1 [2, 7, 8, 82] [(2, .int .u8 n), (7, .pointer (some ⟨k, 0, none⟩)), (8, .int .i64 t), (82, .pointer (some ⟨k, 0, none⟩))] (fun _ => by kernel_rfl) ?_ : RT _ _ _ _ _ _ 3 _)
      refine (stepR (z := 1) (callS 22 [.pointer (some ⟨k, 0, none⟩)] (some 83) (fun (p : Option Addr × Nat) => .slice p.1 L.length p.2) (fun (p : Option Addr × Nat) => (row (kE .i64) 3 (.slice p.1 L.length p.2) L :: kerS k s2 :: H)) (fun _ => by kernel_rfl) ((by have h := krThreads H k s2 (by omega); rw [hL] at h; exact h))) (fun (p : Option Addr × Nat) => ?_) : RT _ _ _ _ _ _ 2 _)
      refine PT.know (KR.isSome (s := ⟨p.1, p.2, L⟩) (rowKRat 0 rfl) (List.ne_nil_of_length_pos (by show 0 < L.length; omega))) ?_
      rintro ⟨nb, no, hnA⟩
      dsimp only at hnA
      rw [hnA]
      refine (run0 (z := 0) 1 [2, 7, 8, 16] [(2, .int .u8 n), (7, .pointer (some ⟨k, 0, none⟩)), (8, .int .i64 t), (16, .slice (some ⟨nb, no, none⟩) L.length p.2)] (fun _ => by kernel_rfl) (endR ?_) : RT _ _ _ _ _ _ 1 _)
      refine seqR (by kernel_rfl) ?_
      refine seqR (by kernel_rfl) ?_
      refine regionR 17 (by kernel_rfl) (by kernel_rfl) ?_
      refine (run0 (z := 12) 5 [2, 7, 16, 88] [(2, .int .u8 n), (7, .pointer (some ⟨k, 0, none⟩)), (16, .slice (some ⟨nb, no, none⟩) L.length p.2), (88, .bool ((L.length : Int) != t))] (fun _ => by kernel_rfl) ?_ : RT _ _ _ _ _ _ 17 _)
      rw [show ((L.length : Int) != t) = false by simp; omega]
      refine (run0 (z := 6) 6 [7, 88, 89, 90, 92, 94] [(7, .pointer (some ⟨k, 0, none⟩)), (88, .bool false), (89, .pointer (some ⟨k, 0, none⟩)), (90, .slice (some ⟨nb, no, none⟩) L.length p.2), (92, .int .i64 (IntKind.i64.wrap n)), (94, .int .i64 (L.length : Int))] (fun _ => by kernel_rfl) ?_ : RT _ _ _ _ _ _ 12 _)
      rw [show IntKind.i64.wrap n = n by rw [w64 (by omega) (by omega)]]
      refine (stepR (z := 5) (yldS (binY .rem 3 3 (.tmp 92) (.tmp 94) (.int .i64 n) (.int .i64 (L.length : Int)) (.int .i64 ((n : Int).tmod (L.length : Int))) (some 95) (fun _ => by kernel_rfl) (by kernel_rfl) (by kernel_rfl) (fun _ => by kernel_rfl) (fun _ => by kernel_rfl) (remR (t' := 0) (by omega)))) (fun _ => ?_) : RT _ _ _ _ _ _ 6 _)
      rw [show ((n : Int).tmod (L.length : Int)) = (y : Int) by exact hy]
      refine (stepR (z := 4) (yldS (idxY 42 (.tmp 90) (.tmp 95) nb no L.length p.2 y 1 3 (y : Int) .i64 (some 96) (fun _ => by kernel_rfl) (by kernel_rfl) (by kernel_rfl) (fun _ => by kernel_rfl) (fun _ => by kernel_rfl) Tryz.underlying42 (by kernel_rfl) (by first | rfl | assumption | simp) (by first | omega | (simp; done) | (simp; omega) | (simp at *; omega)))) (fun _ => ?_) : RT _ _ _ _ _ _ 5 _)
      refine (runR (H := (row (kE .i64) 3 (.slice (some ⟨nb, no, none⟩) L.length p.2) L :: kerS k s2 :: H)) (z := 3) 1 [7, 88, 89, 97] [(7, .pointer (some ⟨k, 0, none⟩)), (88, .bool false), (89, .pointer (some ⟨k, 0, none⟩)), (97, .int .i64 id)] [(⟨nb, no + y * 1, none⟩, .int .i64 id)] (hasC (rowCell (E := kE .i64) (xs := L) 0 rfl (x := id) hid (j := 0) rfl) has0) (fun _ => by kernel_rfl) ?_ : RT _ _ _ _ _ _ 4 _)
      refine (RT.pick 0 rfl ?_ : RT _ _ _ (row (kE .i64) 3 (.slice (some ⟨nb, no, none⟩) L.length p.2) L :: kerS k s2 :: H) _ _ 3 _)
      refine (RT.pick 1 rfl ?_ : RT _ _ _ (row (kE .i64) 3 (.slice (some ⟨nb, no, none⟩) L.length p.2) L :: kerS k s2 :: H) _ _ 3 _)
      refine (stepR (z := 2) (callS 14 [.pointer (some ⟨k, 0, none⟩), .int .i64 id] (some 98) (fun _ => .nilIface) (fun _ => (kerS k s3 :: row (kE .i64) 3 (.slice (some ⟨nb, no, none⟩) L.length p.2) L :: H)) (fun _ => by kernel_rfl) ((by have h := krExit (row (kE .i64) 3 (.slice (some ⟨nb, no, none⟩) L.length p.2) L :: H) k s2 id; rw [e3] at h; exact h))) (fun _ => ?_) : RT _ _ _ _ _ _ 3 _)
      refine (run0 (z := 0) 2 [7, 100] [(7, .pointer (some ⟨k, 0, none⟩)), (100, .bool false)] (fun _ => by kernel_rfl) (endR ?_) : RT _ _ _ _ _ _ 2 _)
      refine condR (b := false) (by kernel_rfl) (fun _ => by kernel_rfl) (fun h => by cases h) (fun _ => ?_)
      refine skipR (by kernel_rfl) ?_
      refine seqR (by kernel_rfl) ?_
      refine regionR 7 (by kernel_rfl) (by kernel_rfl) ?_
      refine (run0 (z := 6) 1 [7, 102] [(7, .pointer (some ⟨k, 0, none⟩)), (102, .pointer (some ⟨k, 0, none⟩))] (fun _ => by kernel_rfl) ?_ : RT _ _ _ _ _ _ 7 _)
      refine (stepR (z := 5) (callS 12 [.pointer (some ⟨k, 0, none⟩), .int .i64 0, .int .i64 1] (some 103) (fun _ => .tuple #[.int .i64 s2.nx, .nilIface]) (fun _ => (kerS k s4 :: row (kE .i64) 3 (.slice (some ⟨nb, no, none⟩) L.length p.2) L :: H)) (fun _ => by kernel_rfl) ((by have h := krSpawn (row (kE .i64) 3 (.slice (some ⟨nb, no, none⟩) L.length p.2) L :: H) k s3 (by omega) 0 1; rw [e4] at h; exact h))) (fun _ => ?_) : RT _ _ _ _ _ _ 6 _)
      refine (run0 (z := 0) 5 [7, 18] [(7, .pointer (some ⟨k, 0, none⟩)), (18, .nilIface)] (fun _ => by kernel_rfl) (endR ?_) : RT _ _ _ _ _ _ 5 _)
      refine seqR (by kernel_rfl) ?_
      refine regionR 7 (by kernel_rfl) (by kernel_rfl) ?_
      refine (run0 (z := 6) 1 [18, 107] [(18, .nilIface), (107, .pointer (some ⟨k, 0, none⟩))] (fun _ => by kernel_rfl) ?_ : RT _ _ _ _ _ _ 7 _)
      refine (stepR (z := 5) (callS 12 [.pointer (some ⟨k, 0, none⟩), .int .i64 0, .int .i64 1] (some 108) (fun _ => .tuple #[.int .i64 0, .iface 40 (.int .i64 14)]) (fun _ => (kerS k s4 :: row (kE .i64) 3 (.slice (some ⟨nb, no, none⟩) L.length p.2) L :: H)) (fun _ => by kernel_rfl) ((by have h := krSpawn (row (kE .i64) 3 (.slice (some ⟨nb, no, none⟩) L.length p.2) L :: H) k s4 (by omega) 0 1; rw [e5] at h; exact h))) (fun _ => ?_) : RT _ _ _ _ _ _ 6 _)
      refine (run0 (z := 0) 5 [18, 20] [(18, .nilIface), (20, .iface 40 (.int .i64 14))] (fun _ => by kernel_rfl) (endR ?_) : RT _ _ _ _ _ _ 5 _)
      refine seqR (by kernel_rfl) ?_
      refine regionR 8 (by kernel_rfl) (by kernel_rfl) ?_
      refine (run0 (z := 3) 5 [113, 114, 115] [(113, .bool true), (114, .iface 40 (.int .i64 14)), (115, .iface 40 (.int .i64 14))] (fun _ => by kernel_rfl) ?_ : RT _ _ _ _ _ _ 8 _)
      refine (stepR (z := 2) (callS 18 [.iface 40 (.int .i64 14), .iface 40 (.int .i64 14)] (some 116) (fun _ => .bool (14 == 14)) (fun (_ : Unit) => (kerS k s4 :: row (kE .i64) 3 (.slice (some ⟨nb, no, none⟩) L.length p.2) L :: H)) (fun _ => by kernel_rfl) (isErr_walk _ 14 14)) (fun _ => ?_) : RT _ _ _ _ _ _ 3 _)
      refine (run0 (z := 0) 2 [6] [(6, .bool true)] (fun _ => by kernel_rfl) (endR ?_) : RT _ _ _ _ _ _ 2 _)
      refine retR (by kernel_rfl) ?_
      refine done0 (.bool true) (fun _ => by kernel_rfl) (fun w hs => ?_) .ret (.inr rfl)
      exact ⟨(), rfl, hs.tail.tail⟩
theorem quotas_row (W : World) (a b n : Int) (ha : (Lit.int .i64 a).wf = true) (hb : (Lit.int .i64 b).wf = true) (hn : (Lit.int .u8 n).wf = true) : Calls Tryz.prog 5 #[.int .i64 a, .int .i64 b, .int .u8 n] W (LawPost W) :=
  lawPost (fun _ _ h => h) (quotas10_walk [old W] a b n (u8_wf hn) W (Sat.start W))
end Go.Proofs.YtlhjibkkkhgonaaGreat
