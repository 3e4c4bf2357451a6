/- PassqShifts: its walk. Conditions: none. -/
import Derived.Test.YtpojhpmhcjiidaaPqs
set_option linter.unusedVariables false
set_option linter.unusedSimpArgs false
namespace Go.Proofs.Ytpojhpmhcjiidaa
open Go.RowKit G
def lessE (xs : List (Int × Int)) (k : Int) : List (Int × Int) := xs.map fun e => (e.1 - k, e.2)
theorem shift_less {xs : List (Int × Int)} {k : Int} (hk : 0 ≤ k ∧ k ≤ 1048576) (h : ∀ e ∈ xs, k ≤ e.1 ∧ e.1 < 65536) : shiftE xs k = lessE xs k := by
  unfold shiftE lessE
  refine List.map_congr_left fun e he => ?_
  have hb := h e he
  have h1 : shN k = k := by unfold shN mnI mxI; (repeat' split) <;> omega
  have h2 : IntKind.i64.wrap (e.1 - k) = e.1 - k := by rw [IntKind.wrap_i64]; omega
  rw [h1, h2]
  unfold mxI
  split
  · rfl
  · have : e.1 - k = 0 := by omega
    rw [this]
theorem less_srt {xs : List (Int × Int)} (k : Int) (h : SrtE xs) : SrtE (lessE xs k) := by
  unfold SrtE lessE
  rw [List.pairwise_map]
  exact h.imp fun {a b} hab => by unfold eLt at *; simp only; omega
set_option maxHeartbeats 1000000 in
set_option maxRecDepth 100000 in
theorem shifts_walk (H : List SP) (s : SV Int) (n : Int) (hk : KR H (kE .u16) s) (hw16 : ∀ x ∈ s.l, 0 ≤ x ∧ x < 65536) (hn : 0 ≤ n ∧ n < 65536) : ∀ w, Sat w H → Calls Try.prog 4 #[.slice s.a s.l.length s.c, .int .u16 n] w (Ret (ι := Unit) (fun _ => .bool true) fun _ => H) := by
  refine enterG (fn := Try.f4) 94 [.slice s.a s.l.length s.c, .int .u16 n] Try.func4 (by kernel_rfl) (by kernel_rfl) (by kernel_rfl) ?_
  refine seqR (by kernel_rfl) ?_
  refine regionR 1 (by kernel_rfl) (by kernel_rfl) ?_
  refine (run0 (z := 0) 1 [0, 1, 4] [(0, .slice s.a s.l.length s.c), (1, .int .u16 n), (4, .bool false)] (fun _ => by kernel_rfl) (endR ?_) : RT _ _ _ _ _ _ 1 _)
  refine seqR (by kernel_rfl) ?_
  refine seqR (by kernel_rfl) ?_
  refine regionR 2 (by kernel_rfl) (by kernel_rfl) ?_
  refine (stepR (z := 1) (callS 7 [] (some 12) (fun _ => .bool true) (fun (_ : Unit) => (H)) (fun _ => by kernel_rfl) (known_true _)) (fun _ => ?_) : RT _ _ _ _ _ _ 2 _)
  refine (run0 (z := 0) 1 [0, 1, 4, 13] [(0, .slice s.a s.l.length s.c), (1, .int .u16 n), (4, .bool false), (13, .bool false)] (fun _ => by kernel_rfl) (endR ?_) : RT _ _ _ _ _ _ 1 _)
  refine condR (b := false) (by kernel_rfl) (fun _ => by kernel_rfl) (fun h => by cases h) (fun _ => ?_)
  refine skipR (by kernel_rfl) ?_
  refine seqR (by kernel_rfl) ?_
  refine seqR (by kernel_rfl) ?_
  refine regionR 8 (by kernel_rfl) (by kernel_rfl) ?_
  refine (run0 (z := 4) 4 [0, 1, 4, 17] [(0, .slice s.a s.l.length s.c), (1, .int .u16 n), (4, .bool false), (17, .bool (decide ((s.l.length : Int) > 60)))] (fun _ => by kernel_rfl) ?_ : RT _ _ _ _ _ _ 8 _)
  refine (segR (ι := Unit) (z := 0) 4 (fun _ => [(0, .slice s.a s.l.length s.c), (1, .int .u16 n), (4, .bool false), (21, .bool ((decide ((s.l.length : Int) > 60)) || ((s.l.length : Int) == 0)))]) (fun _ => (H)) ?_ (fun _ => ?_) : RT _ _ _ _ _ _ 4 _)
  · cases hg4 : (decide ((s.l.length : Int) > 60)) with
    | true =>
      refine (run0 (z := 0) 4 [0, 1, 4, 21] [(0, .slice s.a s.l.length s.c), (1, .int .u16 n), (4, .bool false), (21, .bool true)] (fun _ => by kernel_rfl) (endR ?_) : RT _ _ _ _ _ _ 4 _)
      refine PT.keep (L' := [(0, .slice s.a s.l.length s.c), (1, .int .u16 n), (4, .bool false), (21, .bool (true || ((s.l.length : Int) == 0)))]) [0, 1, 4, 21] rfl ?_
      exact midR () rfl rfl
    | false =>
      refine (run0 (z := 0) 4 [0, 1, 4, 21] [(0, .slice s.a s.l.length s.c), (1, .int .u16 n), (4, .bool false), (21, .bool ((s.l.length : Int) == 0))] (fun _ => by kernel_rfl) (endR ?_) : RT _ _ _ _ _ _ 4 _)
      refine PT.keep (L' := [(0, .slice s.a s.l.length s.c), (1, .int .u16 n), (4, .bool false), (21, .bool (false || ((s.l.length : Int) == 0)))]) [0, 1, 4, 21] rfl ?_
      exact midR () rfl rfl
  refine endR ?_
  refine condR (b := (decide ((s.l.length : Int) > 60)) || ((s.l.length : Int) == 0)) (by kernel_rfl) (fun _ => by kernel_rfl) (fun h0 => ?_) (fun h0 => ?_)
  · skip
    refine seqR (by kernel_rfl) ?_
    refine regionR 1 (by kernel_rfl) (by kernel_rfl) ?_
    refine (run0 (z := 0) 1 [0, 1, 4] [(0, .slice s.a s.l.length s.c), (1, .int .u16 n), (4, .bool true)] (fun _ => by kernel_rfl) (endR ?_) : RT _ _ _ _ _ _ 1 _)
    refine retR (by kernel_rfl) ?_
    refine thenV ?_
    refine done0 (.bool true) (fun _ => by kernel_rfl) (fun w hs => ?_) .ret (.inr rfl)
    exact ⟨(), rfl, hs⟩
  · skip
    have h0' := h0
    simp only [Bool.or_eq_false_iff, decide_eq_false_iff_not, beq_eq_false_iff_ne, ne_eq] at h0'
    have hl : s.l.length ≤ 60 := by omega
    have hl0 : 0 < s.l.length := by omega
    refine skipR (by kernel_rfl) ?_
    refine seqR (by kernel_rfl) ?_
    refine regionR 2 (by kernel_rfl) (by kernel_rfl) ?_
    refine (stepR (z := 1) (callS 8 [.int .i64 64] (some 22) (fun (b : Nat) => .pointer (some ⟨b, 0, none⟩)) (fun (b : Nat) => idxS b 64 ([] : List (Int × Int)) :: H) (fun _ => by kernel_rfl) (new_walk _ 64)) (fun (b : Nat) => ?_) : RT _ _ _ _ _ _ 2 _)
    refine (run0 (z := 0) 1 [0, 1, 4, 5] [(0, .slice s.a s.l.length s.c), (1, .int .u16 n), (4, .bool false), (5, .pointer (some ⟨b, 0, none⟩))] (fun _ => by kernel_rfl) (endR ?_) : RT _ _ _ _ _ _ 1 _)
    refine seqR (by kernel_rfl) ?_
    refine regionR 1 (by kernel_rfl) (by kernel_rfl) ?_
    refine (run0 (z := 0) 1 [0, 1, 4, 5, 6] [(0, .slice s.a s.l.length s.c), (1, .int .u16 n), (4, .bool false), (5, .pointer (some ⟨b, 0, none⟩)), (6, .int .i64 1048576)] (fun _ => by kernel_rfl) (endR ?_) : RT _ _ _ _ _ _ 1 _)
    refine seqR (by kernel_rfl) ?_
    refine seqR (by kernel_rfl) ?_
    refine regionR 1 (by kernel_rfl) (by kernel_rfl) ?_
    refine (run0 (z := 0) 1 [0, 1, 4, 5, 6, 7] [(0, .slice s.a s.l.length s.c), (1, .int .u16 n), (4, .bool false), (5, .pointer (some ⟨b, 0, none⟩)), (6, .int .i64 1048576), (7, .int .i64 0)] (fun _ => by kernel_rfl) (endR ?_) : RT _ _ _ _ _ _ 1 _)
    refine blockR 0 (by kernel_rfl) (by kernel_rfl) ?_
    refine PT.keep (L' := [(0, .slice s.a s.l.length s.c), (1, .int .u16 n), (4, .bool false), (5, .pointer (some ⟨b, 0, none⟩)), (6, .int .i64 1048576), (7, .int .i64 0)]) [0, 1, 4, 5, 6, 7] rfl ?_
    refine loopG (fun (x : List (Int × Int) × Int × Nat) => [(0, .slice s.a s.l.length s.c), (1, .int .u16 n), (4, .bool false), (5, .pointer (some ⟨b, 0, none⟩)), (6, .int .i64 x.2.1), (7, .int .i64 (x.2.2 : Int))]) (fun (x : List (Int × Int) × Int × Nat) => (idxS b 64 x.1 :: H)) (fun k (x : List (Int × Int) × Int × Nat) => k + x.2.2 = s.l.length ∧ InP s.l 0 x.2.2 x.1 ∧ 0 ≤ x.2.1 ∧ x.2.1 ≤ 1048576 ∧ ∀ e ∈ x.1, x.2.1 ≤ e.1) s.l.length ([], 1048576, 0) (by kernel_rfl) ⟨by simp, ⟨rfl, List.Pairwise.nil, fun x hx => by simp at hx⟩, by decide, by decide, fun e he => by simp at he⟩ ?_
    rintro k ⟨xs, le, u⟩ ⟨hku, hin, hle0, hle1, hle⟩
    dsimp only at hku hin hle0 hle1 hle ⊢
    refine seqR (by kernel_rfl) ?_
    refine seqR (by kernel_rfl) ?_
    refine regionR 4 (by kernel_rfl) (by kernel_rfl) ?_
    refine (run0 (z := 0) 4 [0, 1, 4, 5, 6, 7, 26] [(0, .slice s.a s.l.length s.c), (1, .int .u16 n), (4, .bool false), (5, .pointer (some ⟨b, 0, none⟩)), (6, .int .i64 le), (7, .int .i64 (u : Int)), (26, .bool (decide ((u : Int) < (s.l.length : Int))))] (fun _ => by kernel_rfl) (endR ?_) : RT _ _ _ _ _ _ 4 _)
    refine condR (b := decide ((u : Int) < (s.l.length : Int))) (by kernel_rfl) (fun _ => by kernel_rfl) (fun h1 => ?_) (fun h1 => ?_)
    · skip
      have hu : u < s.l.length := by have := of_decide_eq_true h1; omega
      obtain ⟨y, hy⟩ : ∃ y, s.l[u]? = some y := ⟨_, by simp [hu]; rfl⟩
      have hyb := hw16 y (List.mem_of_getElem? hy)
      have hum : (u + 0) % s.l.length = u := Nat.mod_eq_of_lt hu
      obtain ⟨q1, q2⟩ := inP_put hin hu (by rw [hum]; exact hy)
      rw [hum] at q1 q2
      refine PT.know ((hk).up.isSome (List.ne_nil_of_length_pos (by omega))) ?_
      rintro ⟨sb, so, hA⟩
      try rw [hA]
      refine skipR (by kernel_rfl) ?_
      refine seqR (by kernel_rfl) ?_
      refine blockR 1 (by kernel_rfl) (by kernel_rfl) ?_
      refine seqR (by kernel_rfl) ?_
      refine seqR (by kernel_rfl) ?_
      refine regionR 9 (by kernel_rfl) (by kernel_rfl) ?_
      refine (run0 (z := 6) 3 [0, 1, 4, 5, 6, 7, 29, 30, 31] [(0, .slice (some ⟨sb, so, none⟩) s.l.length s.c), (1, .int .u16 n), (4, .bool false), (5, .pointer (some ⟨b, 0, none⟩)), (6, .int .i64 le), (7, .int .i64 (u : Int)), (29, .pointer (some ⟨b, 0, none⟩)), (30, .slice (some ⟨sb, so, none⟩) s.l.length s.c), (31, .int .i64 (u : Int))] (fun _ => by kernel_rfl) ?_ : RT _ _ _ _ _ _ 9 _)
      refine (stepR (z := 5) (yldS (idxY 22 (.tmp 30) (.tmp 31) sb so s.l.length s.c u 1 29 (u : Int) .i64 (some 32) (fun _ => by kernel_rfl) (by kernel_rfl) (by kernel_rfl) (fun _ => by kernel_rfl) (fun _ => by kernel_rfl) Try.underlying22 (by kernel_rfl) (by first | rfl | assumption | simp) (by first | omega | (simp; done) | (simp; omega) | (simp at *; omega)))) (fun _ => ?_) : RT _ _ _ _ _ _ 6 _)
      refine (runR (H := (idxS b 64 xs :: H)) (z := 2) 3 [0, 1, 4, 5, 6, 7, 29, 34, 35] [(0, .slice (some ⟨sb, so, none⟩) s.l.length s.c), (1, .int .u16 n), (4, .bool false), (5, .pointer (some ⟨b, 0, none⟩)), (6, .int .i64 le), (7, .int .i64 (u : Int)), (29, .pointer (some ⟨b, 0, none⟩)), (34, .int .i64 (IntKind.i64.wrap y)), (35, .int .i64 (u : Int))] [(⟨sb, so + u * 1, none⟩, .int .u16 y)] (hasC (up (hk.cell hA (i := u) (x := y) hy (j := 0) rfl)) has0) (fun _ => by kernel_rfl) ?_ : RT _ _ _ _ _ _ 5 _)
      rw [show IntKind.i64.wrap y = y by rw [IntKind.wrap_i64]; omega]
      refine (stepR (z := 1) (callS 9 [.pointer (some ⟨b, 0, none⟩), .int .i64 y, .int .i64 (u : Int)] (some 36) (fun _ => .nilIface) (fun _ => (idxS b 64 (insE (y, (u : Int)) xs) :: H)) (fun _ => by kernel_rfl) (put_ok (l' := insE (y, (u : Int)) xs) (putE_ok (by omega) (by omega) q1 (by have := hin.1; omega)) hin.2.1 (by have := hin.1; omega) _ b)) (fun _ => ?_) : RT _ _ _ _ _ _ 2 _)
      refine (run0 (z := 0) 1 [0, 1, 4, 5, 6, 7, 37] [(0, .slice (some ⟨sb, so, none⟩) s.l.length s.c), (1, .int .u16 n), (4, .bool false), (5, .pointer (some ⟨b, 0, none⟩)), (6, .int .i64 le), (7, .int .i64 (u : Int)), (37, .bool false)] (fun _ => by kernel_rfl) (endR ?_) : RT _ _ _ _ _ _ 1 _)
      refine condR (b := false) (by kernel_rfl) (fun _ => by kernel_rfl) (fun h => by cases h) (fun _ => ?_)
      refine skipR (by kernel_rfl) ?_
      refine regionR 8 (by kernel_rfl) (by kernel_rfl) ?_
      refine (run0 (z := 5) 3 [0, 1, 4, 5, 6, 7, 38, 39, 40] [(0, .slice (some ⟨sb, so, none⟩) s.l.length s.c), (1, .int .u16 n), (4, .bool false), (5, .pointer (some ⟨b, 0, none⟩)), (6, .int .i64 le), (7, .int .i64 (u : Int)), (38, .int .i64 le), (39, .slice (some ⟨sb, so, none⟩) s.l.length s.c), (40, .int .i64 (u : Int))] (fun _ => by kernel_rfl) ?_ : RT _ _ _ _ _ _ 8 _)
      refine (stepR (z := 4) (yldS (idxY 22 (.tmp 39) (.tmp 40) sb so s.l.length s.c u 1 29 (u : Int) .i64 (some 41) (fun _ => by kernel_rfl) (by kernel_rfl) (by kernel_rfl) (fun _ => by kernel_rfl) (fun _ => by kernel_rfl) Try.underlying22 (by kernel_rfl) (by first | rfl | assumption | simp) (by first | omega | (simp; done) | (simp; omega) | (simp at *; omega)))) (fun _ => ?_) : RT _ _ _ _ _ _ 5 _)
      refine (runR (H := (idxS b 64 (insE (y, (u : Int)) xs) :: H)) (z := 0) 4 [0, 1, 4, 5, 6, 7] [(0, .slice (some ⟨sb, so, none⟩) s.l.length s.c), (1, .int .u16 n), (4, .bool false), (5, .pointer (some ⟨b, 0, none⟩)), (6, .int .i64 (mnI le (IntKind.i64.wrap y))), (7, .int .i64 (u : Int))] [(⟨sb, so + u * 1, none⟩, .int .u16 y)] (hasC (up (hk.cell hA (i := u) (x := y) hy (j := 0) rfl)) has0) (fun _ => by kernel_rfl) (endR ?_) : RT _ _ _ _ _ _ 4 _)
      refine regionR 3 (by kernel_rfl) (by kernel_rfl) ?_
      refine (run0 (z := 0) 3 [0, 1, 4, 5, 6, 7] [(0, .slice (some ⟨sb, so, none⟩) s.l.length s.c), (1, .int .u16 n), (4, .bool false), (5, .pointer (some ⟨b, 0, none⟩)), (6, .int .i64 (mnI le (IntKind.i64.wrap y))), (7, .int .i64 (IntKind.i64.wrap ((u : Int) + 1)))] (fun _ => by kernel_rfl) (endR ?_) : RT _ _ _ _ _ _ 3 _)
      try rw [← hA]
      rw [show IntKind.i64.wrap y = y by rw [IntKind.wrap_i64]; omega]
      rw [show IntKind.i64.wrap ((u : Int) + 1) = ((u + 1 : Nat) : Int) by rw [IntKind.wrap_i64]; omega]
      have hmn : mnI le y ≤ le ∧ mnI le y ≤ y ∧ (mnI le y = le ∨ mnI le y = y) := by unfold mnI; split <;> omega
      refine PT.keep (L' := [(0, .slice s.a s.l.length s.c), (1, .int .u16 n), (4, .bool false), (5, .pointer (some ⟨b, 0, none⟩)), (6, .int .i64 (mnI le y)), (7, .int .i64 ((u + 1 : Nat) : Int))]) [0, 1, 4, 5, 6, 7] rfl ?_
      exact againG (k - 1) (insE (y, (u : Int)) xs, mnI le y, u + 1) rfl rfl (by omega) ⟨by simp only; omega, q2, by simp only; omega, by simp only; omega, fun e he => by
        simp only at he ⊢
        rcases mem_insE.1 he with rfl | he
        · exact hmn.2.1
        · have := hle e he; omega⟩
    · skip
      have hu : u = s.l.length := by have := of_decide_eq_false h1; omega
      rw [hu] at hin
      have hxl := hin.1
      refine exitR 0 (by kernel_rfl) (by kernel_rfl) ?_
      refine thenX ?_
      refine thenX ?_
      refine leaveR ?_
      refine seqR (by kernel_rfl) ?_
      refine regionR 3 (by kernel_rfl) (by kernel_rfl) ?_
      refine (run0 (z := 2) 1 [1, 4, 5, 6, 45] [(1, .int .u16 n), (4, .bool false), (5, .pointer (some ⟨b, 0, none⟩)), (6, .int .i64 le), (45, .pointer (some ⟨b, 0, none⟩))] (fun _ => by kernel_rfl) ?_ : RT _ _ _ _ _ _ 3 _)
      refine (stepR (z := 1) (callS 13 [.pointer (some ⟨b, 0, none⟩)] (some 46) (fun (q : Nat × Nat × Nat) => .slice (some ⟨q.1, q.2.1, none⟩) xs.length q.2.2) (fun (q : Nat × Nat × Nat) => (row slE 31 (.slice (some ⟨q.1, q.2.1, none⟩) xs.length q.2.2) xs :: idxS b 64 xs :: H)) (fun _ => by kernel_rfl) (all_some (idxS b 64 xs :: H) 0 b 64 xs rfl (by omega) (by intro h; rw [h] at hxl; simp at hxl; omega))) (fun (q : Nat × Nat × Nat) => ?_) : RT _ _ _ _ _ _ 2 _)
      obtain ⟨ab, ao, ac⟩ := q
      dsimp only
      refine (run0 (z := 0) 1 [1, 4, 5, 6, 8] [(1, .int .u16 n), (4, .bool false), (5, .pointer (some ⟨b, 0, none⟩)), (6, .int .i64 le), (8, .slice (some ⟨ab, ao, none⟩) xs.length ac)] (fun _ => by kernel_rfl) (endR ?_) : RT _ _ _ _ _ _ 1 _)
      refine seqR (by kernel_rfl) ?_
      refine regionR 6 (by kernel_rfl) (by kernel_rfl) ?_
      refine (run0 (z := 2) 4 [4, 5, 8, 48, 50] [(4, .bool false), (5, .pointer (some ⟨b, 0, none⟩)), (8, .slice (some ⟨ab, ao, none⟩) xs.length ac), (48, .int .i64 (IntKind.i64.wrap n)), (50, .int .i64 (IntKind.i64.wrap (le + 1)))] (fun _ => by kernel_rfl) ?_ : RT _ _ _ _ _ _ 6 _)
      rw [show IntKind.i64.wrap n = n by rw [IntKind.wrap_i64]; omega]
      rw [show IntKind.i64.wrap (le + 1) = (le + 1) by rw [IntKind.wrap_i64]; omega]
      refine (stepR (z := 1) (yldS (binY .rem 3 3 (.tmp 48) (.tmp 50) (.int .i64 n) (.int .i64 (le + 1)) (.int .i64 ((n : Int).tmod (le + 1))) (some 51) (fun _ => by kernel_rfl) (by kernel_rfl) (by kernel_rfl) (fun _ => by kernel_rfl) (fun _ => by kernel_rfl) (remR (t' := 0) (by omega)))) (fun _ => ?_) : RT _ _ _ _ _ _ 2 _)
      obtain ⟨kk, hkk, hk0, hk1⟩ : ∃ kk, n.tmod (le + 1) = kk ∧ 0 ≤ kk ∧ kk ≤ le := by
        have e := Int.tmod_eq_emod_of_nonneg (b := le + 1) hn.1
        have h1 := Int.emod_nonneg n (show le + 1 ≠ 0 by omega)
        have h2 := Int.emod_lt_of_pos n (show 0 < le + 1 by omega)
        exact ⟨_, rfl, by omega, by omega⟩
      rw [hkk]
      refine (run0 (z := 0) 1 [4, 5, 8, 9] [(4, .bool false), (5, .pointer (some ⟨b, 0, none⟩)), (8, .slice (some ⟨ab, ao, none⟩) xs.length ac), (9, .int .i64 kk)] (fun _ => by kernel_rfl) (endR ?_) : RT _ _ _ _ _ _ 1 _)
      refine seqR (by kernel_rfl) ?_
      refine regionR 3 (by kernel_rfl) (by kernel_rfl) ?_
      refine (run0 (z := 1) 2 [4, 5, 8, 9, 52, 53] [(4, .bool false), (5, .pointer (some ⟨b, 0, none⟩)), (8, .slice (some ⟨ab, ao, none⟩) xs.length ac), (9, .int .i64 kk), (52, .pointer (some ⟨b, 0, none⟩)), (53, .int .i64 kk)] (fun _ => by kernel_rfl) ?_ : RT _ _ _ _ _ _ 3 _)
      have hxs : ∀ e ∈ xs, kk ≤ e.1 ∧ e.1 < 65536 := fun e he => by
        obtain ⟨i, y, _, _, hy, hy2⟩ := hin.2.2 e he
        have h1 := hle e he
        have h2 := hw16 y (List.mem_of_getElem? hy)
        omega
      obtain ⟨zs, hzs⟩ : ∃ zs, zs = lessE xs kk := ⟨_, rfl⟩
      have hsh : shiftE xs kk = zs := by rw [hzs]; exact shift_less (by omega) hxs
      have hzsrt : SrtE zs := by rw [hzs]; exact less_srt kk hin.2.1
      have hzl : zs.length = xs.length := by rw [hzs]; simp [lessE]
      refine (stepR (z := 0) (callS 14 [.pointer (some ⟨b, 0, none⟩), .int .i64 kk] (some 54) (fun _ => .tuple #[]) (fun _ => (row slE 31 (.slice (some ⟨ab, ao, none⟩) xs.length ac) xs :: idxS b 64 zs :: H)) (fun _ => by kernel_rfl) (chg_at (H := (row slE 31 (.slice (some ⟨ab, ao, none⟩) xs.length ac) xs :: idxS b 64 xs :: H)) 1 rfl (shift_is hsh hzsrt (by omega) _ b))) (fun _ => ?_) : RT _ _ _ _ _ _ 1 _)
      refine endR ?_
      refine seqR (by kernel_rfl) ?_
      refine regionR 3 (by kernel_rfl) (by kernel_rfl) ?_
      refine (run0 (z := 2) 1 [4, 8, 9, 55] [(4, .bool false), (8, .slice (some ⟨ab, ao, none⟩) xs.length ac), (9, .int .i64 kk), (55, .pointer (some ⟨b, 0, none⟩))] (fun _ => by kernel_rfl) ?_ : RT _ _ _ _ _ _ 3 _)
      refine (stepR (z := 1) (callS 13 [.pointer (some ⟨b, 0, none⟩)] (some 56) (fun (q : Nat × Nat × Nat) => .slice (some ⟨q.1, q.2.1, none⟩) zs.length q.2.2) (fun (q : Nat × Nat × Nat) => (row slE 31 (.slice (some ⟨q.1, q.2.1, none⟩) zs.length q.2.2) zs :: row slE 31 (.slice (some ⟨ab, ao, none⟩) xs.length ac) xs :: idxS b 64 zs :: H)) (fun _ => by kernel_rfl) (all_some (row slE 31 (.slice (some ⟨ab, ao, none⟩) xs.length ac) xs :: idxS b 64 zs :: H) 1 b 64 zs rfl (by omega) (by intro h; rw [h] at hzl; simp at hzl; omega))) (fun (q : Nat × Nat × Nat) => ?_) : RT _ _ _ _ _ _ 2 _)
      obtain ⟨nb, no, nc⟩ := q
      dsimp only
      refine (run0 (z := 0) 1 [4, 8, 9, 10] [(4, .bool false), (8, .slice (some ⟨ab, ao, none⟩) xs.length ac), (9, .int .i64 kk), (10, .slice (some ⟨nb, no, none⟩) zs.length nc)] (fun _ => by kernel_rfl) (endR ?_) : RT _ _ _ _ _ _ 1 _)
      refine seqR (by kernel_rfl) ?_
      refine seqR (by kernel_rfl) ?_
      refine regionR 5 (by kernel_rfl) (by kernel_rfl) ?_
      refine (run0 (z := 0) 5 [4, 8, 9, 10, 61] [(4, .bool false), (8, .slice (some ⟨ab, ao, none⟩) xs.length ac), (9, .int .i64 kk), (10, .slice (some ⟨nb, no, none⟩) zs.length nc), (61, .bool ((xs.length : Int) != (zs.length : Int)))] (fun _ => by kernel_rfl) (endR ?_) : RT _ _ _ _ _ _ 5 _)
      rw [show ((xs.length : Int) != (zs.length : Int)) = false by rw [hzl]; simp]
      refine condR (b := false) (by kernel_rfl) (fun _ => by kernel_rfl) (fun h => by cases h) (fun _ => ?_)
      refine skipR (by kernel_rfl) ?_
      refine seqR (by kernel_rfl) ?_
      refine seqR (by kernel_rfl) ?_
      refine regionR 1 (by kernel_rfl) (by kernel_rfl) ?_
      refine (run0 (z := 0) 1 [4, 8, 9, 10, 11] [(4, .bool false), (8, .slice (some ⟨ab, ao, none⟩) xs.length ac), (9, .int .i64 kk), (10, .slice (some ⟨nb, no, none⟩) zs.length nc), (11, .int .i64 0)] (fun _ => by kernel_rfl) (endR ?_) : RT _ _ _ _ _ _ 1 _)
      refine blockR 2 (by kernel_rfl) (by kernel_rfl) ?_
      refine PT.keep (L' := [(4, .bool false), (8, .slice (some ⟨ab, ao, none⟩) xs.length ac), (9, .int .i64 kk), (10, .slice (some ⟨nb, no, none⟩) zs.length nc), (11, .int .i64 0)]) [4, 8, 9, 10, 11] rfl ?_
      refine loopG (fun (v : Nat) => [(4, .bool false), (8, .slice (some ⟨ab, ao, none⟩) xs.length ac), (9, .int .i64 kk), (10, .slice (some ⟨nb, no, none⟩) zs.length nc), (11, .int .i64 (v : Int))]) (fun (v : Nat) => (row slE 31 (.slice (some ⟨nb, no, none⟩) zs.length nc) zs :: row slE 31 (.slice (some ⟨ab, ao, none⟩) xs.length ac) xs :: idxS b 64 zs :: H)) (fun k (v : Nat) => k + v = xs.length) xs.length 0 (by kernel_rfl) (by simp) ?_
      rintro k2 v hkv
      refine seqR (by kernel_rfl) ?_
      refine seqR (by kernel_rfl) ?_
      refine regionR 4 (by kernel_rfl) (by kernel_rfl) ?_
      refine (run0 (z := 0) 4 [4, 8, 9, 10, 11, 65] [(4, .bool false), (8, .slice (some ⟨ab, ao, none⟩) xs.length ac), (9, .int .i64 kk), (10, .slice (some ⟨nb, no, none⟩) zs.length nc), (11, .int .i64 (v : Int)), (65, .bool (decide ((v : Int) < (xs.length : Int))))] (fun _ => by kernel_rfl) (endR ?_) : RT _ _ _ _ _ _ 4 _)
      refine condR (b := decide ((v : Int) < (xs.length : Int))) (by kernel_rfl) (fun _ => by kernel_rfl) (fun h2 => ?_) (fun h2 => ?_)
      · skip
        have hv : v < xs.length := by have := of_decide_eq_true h2; omega
        obtain ⟨e, he⟩ : ∃ e, xs[v]? = some e := ⟨_, by simp [hv]; rfl⟩
        have hb := hxs e (List.mem_of_getElem? he)
        have hz : zs[v]? = some (e.1 - kk, e.2) := by rw [hzs, lessE, List.getElem?_map, he]; rfl
        refine skipR (by kernel_rfl) ?_
        refine seqR (by kernel_rfl) ?_
        refine blockR 3 (by kernel_rfl) (by kernel_rfl) ?_
        refine seqR (by kernel_rfl) ?_
        refine drawR (fun w => Sat w (row slE 31 (.slice (some ⟨nb, no, none⟩) zs.length nc) zs :: row slE 31 (.slice (some ⟨ab, ao, none⟩) xs.length ac) xs :: idxS b 64 zs :: H)) [] 26 (by kernel_rfl) (by kernel_rfl) (by kernel_rfl) (fun _ h => by first | exact h | exact h.tail | exact h.tail.tail | exact h.tail.tail.tail | exact h.tail.tail.tail.tail) ?_
        refine takesR [0, 1, 5, 6] [4, 8, 9, 10, 11, 68, 69, 73, 74] 22 [true, true, false, false, false, true, true, false, false, false, false, false, false, false, false, false, false, false, false, false, false, false, false, false, false, false] [(4, .bool false), (8, .slice (some ⟨ab, ao, none⟩) xs.length ac), (9, .int .i64 kk), (10, .slice (some ⟨nb, no, none⟩) zs.length nc), (11, .int .i64 (v : Int)), (68, .slice (some ⟨ab, ao, none⟩) xs.length ac), (69, .int .i64 (v : Int)), (73, .slice (some ⟨nb, no, none⟩) zs.length nc), (74, .int .i64 (v : Int))] [] rfl (fun _ d _ _ _ h => by cases d <;> exact h) (fun _ h => by first | exact h | exact h.tail | exact h.tail.tail | exact h.tail.tail.tail | exact h.tail.tail.tail.tail) has0 (fun _ => by kernel_rfl) ?_
        refine takeR1 2 21 [true, true, true, false, false, true, true, false, false, false, false, false, false, false, false, false, false, false, false, false, false, false, false, false, false, false] rfl rfl (by kernel_rfl) (fun _ d _ _ _ h => by cases d <;> exact h) (fun _ h => by first | exact h | exact h.tail | exact h.tail.tail | exact h.tail.tail.tail | exact h.tail.tail.tail.tail) (idxY 37 (.tmp 68) (.tmp 69) ab ao xs.length ac v 2 31 (v : Int) .i64 (some 70) (fun _ => by kernel_rfl) (by kernel_rfl) (by kernel_rfl) (fun _ => by kernel_rfl) (fun _ => by kernel_rfl) Try.underlying37 (by kernel_rfl) (by first | rfl | assumption | simp) (by first | omega | (simp; done) | (simp; omega) | (simp at *; omega))) ?_
        refine takesR [3, 4] [4, 8, 9, 10, 11, 73, 74, 72] 19 [true, true, true, true, true, true, true, false, false, false, false, false, false, false, false, false, false, false, false, false, false, false, false, false, false, false] [(4, .bool false), (8, .slice (some ⟨ab, ao, none⟩) xs.length ac), (9, .int .i64 kk), (10, .slice (some ⟨nb, no, none⟩) zs.length nc), (11, .int .i64 (v : Int)), (73, .slice (some ⟨nb, no, none⟩) zs.length nc), (74, .int .i64 (v : Int)), (72, .int .i64 e.2)] [(⟨ab, ao + v * 2 + 1, none⟩, .int .i64 e.2)] rfl (fun _ d _ _ _ h => by cases d <;> exact h) (fun _ h => by first | exact h | exact h.tail | exact h.tail.tail | exact h.tail.tail.tail | exact h.tail.tail.tail.tail) (hasC ((rowKRat (xs := xs) (A := some ⟨ab, ao, none⟩) (k := ac) (E := slE) (T := 31) 1 rfl).cell rfl (i := v) (x := e) he (j := 1) rfl) has0) (fun _ => by kernel_rfl) ?_
        refine takeR1 7 18 [true, true, true, true, true, true, true, true, false, false, false, false, false, false, false, false, false, false, false, false, false, false, false, false, false, false] rfl rfl (by kernel_rfl) (fun _ d _ _ _ h => by cases d <;> exact h) (fun _ h => by first | exact h | exact h.tail | exact h.tail.tail | exact h.tail.tail.tail | exact h.tail.tail.tail.tail) (idxY 37 (.tmp 73) (.tmp 74) nb no zs.length nc v 2 31 (v : Int) .i64 (some 75) (fun _ => by kernel_rfl) (by kernel_rfl) (by kernel_rfl) (fun _ => by kernel_rfl) (fun _ => by kernel_rfl) Try.underlying37 (by kernel_rfl) (by first | rfl | assumption | simp) (by first | omega | (simp; done) | (simp; omega) | (simp at *; omega))) ?_
        refine takesR [8, 9, 10, 11] [4, 8, 9, 10, 11, 79] 14 [true, true, true, true, true, true, true, true, true, true, true, true, false, false, false, false, false, false, false, false, false, false, false, false, false, false] [(4, .bool false), (8, .slice (some ⟨ab, ao, none⟩) xs.length ac), (9, .int .i64 kk), (10, .slice (some ⟨nb, no, none⟩) zs.length nc), (11, .int .i64 (v : Int)), (79, .bool (e.2 != e.2))] [(⟨nb, no + v * 2 + 1, none⟩, .int .i64 e.2)] rfl (fun _ d _ _ _ h => by cases d <;> exact h) (fun _ h => by first | exact h | exact h.tail | exact h.tail.tail | exact h.tail.tail.tail | exact h.tail.tail.tail.tail) (hasC ((rowKRat (xs := zs) (A := some ⟨nb, no, none⟩) (k := nc) (E := slE) (T := 31) 0 rfl).cell rfl (i := v) (x := (e.1 - kk, e.2)) hz (j := 1) rfl) has0) (fun _ => by kernel_rfl) ?_
        rw [show (e.2 != e.2) = false by simp]
        refine takesR [12, 13, 17, 19, 20] [4, 8, 9, 10, 11, 79, 80, 81, 85, 87, 88] 9 [true, true, true, true, true, true, true, true, true, true, true, true, true, true, false, false, false, true, false, true, true, false, false, false, false, false] [(4, .bool false), (8, .slice (some ⟨ab, ao, none⟩) xs.length ac), (9, .int .i64 kk), (10, .slice (some ⟨nb, no, none⟩) zs.length nc), (11, .int .i64 (v : Int)), (79, .bool false), (80, .slice (some ⟨ab, ao, none⟩) xs.length ac), (81, .int .i64 (v : Int)), (85, .int .i64 kk), (87, .slice (some ⟨nb, no, none⟩) zs.length nc), (88, .int .i64 (v : Int))] [] rfl (fun _ d _ _ _ h => by cases d <;> exact h) (fun _ h => by first | exact h | exact h.tail | exact h.tail.tail | exact h.tail.tail.tail | exact h.tail.tail.tail.tail) has0 (fun _ => by kernel_rfl) ?_
        refine takeR1 14 8 [true, true, true, true, true, true, true, true, true, true, true, true, true, true, true, false, false, true, false, true, true, false, false, false, false, false] rfl rfl (by kernel_rfl) (fun _ d _ _ _ h => by cases d <;> exact h) (fun _ h => by first | exact h | exact h.tail | exact h.tail.tail | exact h.tail.tail.tail | exact h.tail.tail.tail.tail) (idxY 37 (.tmp 80) (.tmp 81) ab ao xs.length ac v 2 31 (v : Int) .i64 (some 82) (fun _ => by kernel_rfl) (by kernel_rfl) (by kernel_rfl) (fun _ => by kernel_rfl) (fun _ => by kernel_rfl) Try.underlying37 (by kernel_rfl) (by first | rfl | assumption | simp) (by first | omega | (simp; done) | (simp; omega) | (simp at *; omega))) ?_
        refine takesR [15, 16, 18] [4, 8, 9, 10, 11, 79, 87, 88, 86] 5 [true, true, true, true, true, true, true, true, true, true, true, true, true, true, true, true, true, true, true, true, true, false, false, false, false, false] [(4, .bool false), (8, .slice (some ⟨ab, ao, none⟩) xs.length ac), (9, .int .i64 kk), (10, .slice (some ⟨nb, no, none⟩) zs.length nc), (11, .int .i64 (v : Int)), (79, .bool false), (87, .slice (some ⟨nb, no, none⟩) zs.length nc), (88, .int .i64 (v : Int)), (86, .int .i64 (IntKind.i64.wrap (e.1 - kk)))] [(⟨ab, ao + v * 2, none⟩, .int .i64 e.1)] rfl (fun _ d _ _ _ h => by cases d <;> exact h) (fun _ h => by first | exact h | exact h.tail | exact h.tail.tail | exact h.tail.tail.tail | exact h.tail.tail.tail.tail) (hasC ((rowKRat (xs := xs) (A := some ⟨ab, ao, none⟩) (k := ac) (E := slE) (T := 31) 1 rfl).cell rfl (i := v) (x := e) he (j := 0) rfl) has0) (fun _ => by kernel_rfl) ?_
        refine takeR1 21 4 [true, true, true, true, true, true, true, true, true, true, true, true, true, true, true, true, true, true, true, true, true, true, false, false, false, false] rfl rfl (by kernel_rfl) (fun _ d _ _ _ h => by cases d <;> exact h) (fun _ h => by first | exact h | exact h.tail | exact h.tail.tail | exact h.tail.tail.tail | exact h.tail.tail.tail.tail) (idxY 37 (.tmp 87) (.tmp 88) nb no zs.length nc v 2 31 (v : Int) .i64 (some 89) (fun _ => by kernel_rfl) (by kernel_rfl) (by kernel_rfl) (fun _ => by kernel_rfl) (fun _ => by kernel_rfl) Try.underlying37 (by kernel_rfl) (by first | rfl | assumption | simp) (by first | omega | (simp; done) | (simp; omega) | (simp at *; omega))) ?_
        refine takesR [22, 23, 24, 25] [4, 8, 9, 10, 11, 93] 0 [true, true, true, true, true, true, true, true, true, true, true, true, true, true, true, true, true, true, true, true, true, true, true, true, true, true] [(4, .bool false), (8, .slice (some ⟨ab, ao, none⟩) xs.length ac), (9, .int .i64 kk), (10, .slice (some ⟨nb, no, none⟩) zs.length nc), (11, .int .i64 (v : Int)), (93, .bool ((IntKind.i64.wrap (e.1 - kk)) != (e.1 - kk)))] [(⟨nb, no + v * 2, none⟩, .int .i64 (e.1 - kk))] rfl (fun _ d _ _ _ h => by cases d <;> exact h) (fun _ h => by first | exact h | exact h.tail | exact h.tail.tail | exact h.tail.tail.tail | exact h.tail.tail.tail.tail) (hasC ((rowKRat (xs := zs) (A := some ⟨nb, no, none⟩) (k := nc) (E := slE) (T := 31) 0 rfl).cell rfl (i := v) (x := (e.1 - kk, e.2)) hz (j := 0) rfl) has0) (fun _ => by kernel_rfl) ?_
        refine drawnR (by kernel_rfl) ?_
        rw [show IntKind.i64.wrap (e.1 - kk) = (e.1 - kk) by rw [IntKind.wrap_i64]; omega]
        rw [show ((e.1 - kk) != (e.1 - kk)) = false by simp]
        refine condR (b := false) (by kernel_rfl) (fun _ => by kernel_rfl) (fun h => by cases h) (fun _ => ?_)
        refine skipR (by kernel_rfl) ?_
        refine regionR 3 (by kernel_rfl) (by kernel_rfl) ?_
        refine (run0 (z := 0) 3 [4, 8, 9, 10, 11] [(4, .bool false), (8, .slice (some ⟨ab, ao, none⟩) xs.length ac), (9, .int .i64 kk), (10, .slice (some ⟨nb, no, none⟩) zs.length nc), (11, .int .i64 (IntKind.i64.wrap ((v : Int) + 1)))] (fun _ => by kernel_rfl) (endR ?_) : RT _ _ _ _ _ _ 3 _)
        rw [show IntKind.i64.wrap ((v : Int) + 1) = ((v + 1 : Nat) : Int) by rw [IntKind.wrap_i64]; omega]
        refine PT.keep (L' := [(4, .bool false), (8, .slice (some ⟨ab, ao, none⟩) xs.length ac), (9, .int .i64 kk), (10, .slice (some ⟨nb, no, none⟩) zs.length nc), (11, .int .i64 ((v + 1 : Nat) : Int))]) [4, 8, 9, 10, 11] rfl ?_
        exact againG (k2 - 1) (v + 1) rfl rfl (by omega) (by omega)
      · skip
        refine exitR 2 (by kernel_rfl) (by kernel_rfl) ?_
        refine thenX ?_
        refine thenX ?_
        refine leaveR ?_
        refine seqR (by kernel_rfl) ?_
        refine regionR 1 (by kernel_rfl) (by kernel_rfl) ?_
        refine (run0 (z := 0) 1 [4] [(4, .bool true)] (fun _ => by kernel_rfl) (endR ?_) : RT _ _ _ _ _ _ 1 _)
        refine retR (by kernel_rfl) ?_
        refine done0 (.bool true) (fun _ => by kernel_rfl) (fun w hs => ?_) .ret (.inr rfl)
        exact ⟨(), rfl, hs.tail.tail.tail⟩
theorem shifts_row (W : World) (ao : Option Addr) (c : Nat) (l : List Int) (n : Int) (hrd : Rd (kE .u16) W (.slice ao l.length c) l) (hl : ∀ x ∈ l, (Lit.int .u16 x).wf = true) (hn : (Lit.int .u16 n).wf = true) : Calls Try.prog 4 #[.slice ao l.length c, .int .u16 n] W (LawPost W) :=
  lawPost (fun _ _ h => h) (shifts_walk [old W] ⟨ao, c, l⟩ n (KR.old hrd 0 rfl) (fun x hx => u16_wf (hl x hx)) (u16_wf hn) W (Sat.start W))
end Go.Proofs.Ytpojhpmhcjiidaa
