/- tree: Nodes. Conditions: none. -/
import Derived.Test.YtjbjngikaiggdaaGreatKys
import Derived.Test.YtjbjngikaiggdaaGreatTx
set_option linter.unusedVariables false
set_option linter.unusedSimpArgs false
namespace Go.Proofs.YtjbjngikaiggdaaGreat
open Go.RowKit G
/-- A node as it is told. -/
def nE : Enc Nr := ⟨6, by decide, fun x => [.int .i64 x.id, .int .i64 x.par, .int .i64 x.wt, .int .i64 x.pass, .bool x.thr, .bool x.rdy], fun _ => rfl, by intro a u hu; simp at hu; rcases hu with rfl | rfl | rfl | rfl | rfl | rfl <;> rfl⟩
theorem nE_ety : Ety Tryz.prog nE 41 (.agg #[.int .i64 0, .int .i64 0, .int .i64 0, .int .i64 0, .bool false, .bool false]) := by
  obtain ⟨i, hi, hz, hs, hb⟩ := info_parts (P := Tryz.prog) (e := 41) (z := .agg #[.int .i64 0, .int .i64 0, .int .i64 0, .int .i64 0, .bool false, .bool false]) (size := 6) (bytes := 40) (by kernel_rfl)
  exact ⟨⟨i, hi, hz, hs, by omega⟩, rfl⟩
def nodesN (N : List Nr) : List Nr := (sortI (N.map (·.id))).map fun k => (gt N k).getD zeroN
theorem nodesN_len (N : List Nr) : (nodesN N).length = N.length := by rw [nodesN, List.length_map, sortI_len, List.length_map]
theorem nodesN_at {N : List Nr} (hn : (N.map (·.id)).Nodup) {u : Nat} {k : Int} (h : (sortI (N.map (·.id)))[u]? = some k) : ∃ y, gt N k = some y ∧ (nodesN N)[u]? = some y := by
  have hk : k ∈ N.map (·.id) := sortI_mem.1 (List.mem_of_getElem? h)
  obtain ⟨y, hy, rfl⟩ := List.mem_map.1 hk
  refine ⟨y, gt_of hn hy, ?_⟩
  rw [nodesN, List.getElem?_map, h, Option.map_some, gt_of hn hy]; rfl
theorem wf64 {x : Int} (h0 : 0 ≤ x) (h1 : x ≤ 9223372036854775807) : (Lit.int .i64 x).wf = true := by
  simp only [Lit.wf, Bool.and_eq_true, decide_eq_true_eq]
  have e1 : IntKind.i64.min = -9223372036854775808 := by decide
  have e2 : IntKind.i64.max = 9223372036854775807 := by decide
  omega
theorem kp_ids {N : List Nr} {T : List Nd} (hT : OkT N T) : (T.map kp).map (·.1) = N.map (·.id) := by
  rw [List.map_map, ← hT.n, List.map_map]; rfl
set_option maxHeartbeats 1000000 in
set_option maxRecDepth 100000 in
theorem nodes_walk {N : List Nr} {T : List Nd} (hT : OkT N T) (hsk : SK N) (hid : ∀ x ∈ N, x.id ≤ 9223372036854775807) (H : List SP) (t mb : Nat) : ∀ w, Sat w (blk t 57 [.map (some mb)] :: mapS mb (T.map kp) :: (nodesL T ++ H)) → Calls Tryz.prog 15 #[.pointer (some ⟨t, 0, none⟩)] w (Ret (ι := Option Addr × Nat) (fun x => .slice x.1 (nodesN N).length x.2) fun x => row nE 41 (.slice x.1 (nodesN N).length x.2) (nodesN N) :: blk t 57 [.map (some mb)] :: mapS mb (T.map kp) :: (nodesL T ++ H)) := by
  have hK := kp_ids hT
  have hlen : (sortI (N.map (·.id))).length = N.length := by rw [sortI_len, List.length_map]
  have hN60 := hsk.len
  refine enterG (fn := Tryz.f15) 31 [.pointer (some ⟨t, 0, none⟩)] Tryz.func15 (by kernel_rfl) (by kernel_rfl) (by kernel_rfl) ?_
  refine seqR (by kernel_rfl) ?_
  refine regionR 1 (by kernel_rfl) (by kernel_rfl) ?_
  refine (run0 (z := 0) 1 [0, 2] [(0, .pointer (some ⟨t, 0, none⟩)), (2, .slice none 0 0)] (fun _ => by kernel_rfl) (endR ?_) : RT _ _ _ _ _ _ 1 _)
  refine seqR (by kernel_rfl) ?_
  refine regionR 1 (by kernel_rfl) (by kernel_rfl) ?_
  refine (run0 (z := 0) 1 [0, 2, 3] [(0, .pointer (some ⟨t, 0, none⟩)), (2, .slice none 0 0), (3, .slice none 0 0)] (fun _ => by kernel_rfl) (endR ?_) : RT _ _ _ _ _ _ 1 _)
  refine seqR (by kernel_rfl) ?_
  refine seqR (by kernel_rfl) ?_
  refine regionR 8 (by kernel_rfl) (by kernel_rfl) ?_
  refine (runR (H := (blk t 57 [.map (some mb)] :: mapS mb (T.map kp) :: (nodesL T ++ H))) (z := 4) 4 [0, 2, 3, 9] [(0, .pointer (some ⟨t, 0, none⟩)), (2, .slice none 0 0), (3, .slice none 0 0), (9, .map (some mb))] [(⟨t, 0, none⟩, .map (some mb))] (hasC (blkAt (T := 57) (cs := [.map (some mb)]) 0 rfl rfl) has0) (fun _ => by kernel_rfl) ?_ : RT _ _ _ _ _ _ 8 _)
  refine (stepR (z := 3) (callS 31 [.map (some mb)] (some 10) (fun (kb : Nat) => .func (.func 43) #[] #[.pointer (some ⟨kb, 0, none⟩)]) (fun (kb : Nat) => (blk kb 55 [.map (some mb)] :: blk t 57 [.map (some mb)] :: mapS mb (T.map kp) :: (nodesL T ++ H))) (fun _ => by kernel_rfl) (keys_walk _ mb)) (fun (kb : Nat) => ?_) : RT _ _ _ _ _ _ 4 _)
  refine (RT.pick 1 rfl ?_ : RT _ _ _ (blk kb 55 [.map (some mb)] :: blk t 57 [.map (some mb)] :: mapS mb (T.map kp) :: (nodesL T ++ H)) _ _ 3 _)
  refine (RT.pick 2 rfl ?_ : RT _ _ _ (blk t 57 [.map (some mb)] :: blk kb 55 [.map (some mb)] :: mapS mb (T.map kp) :: (nodesL T ++ H)) _ _ 3 _)
  refine (RT.pick 2 rfl ?_ : RT _ _ _ (mapS mb (T.map kp) :: blk t 57 [.map (some mb)] :: blk kb 55 [.map (some mb)] :: (nodesL T ++ H)) _ _ 3 _)
  refine (stepR (z := 2) (callS 30 [.func (.func 43) #[] #[.pointer (some ⟨kb, 0, none⟩)]] (some 11) (fun (ks : Option Addr × Nat) => .slice ks.1 (sortI (N.map (·.id))).length ks.2) (fun (ks : Option Addr × Nat) => (row intE 3 (.slice ks.1 (sortI (N.map (·.id))).length ks.2) (sortI (N.map (·.id))) :: blk kb 55 [.map (some mb)] :: mapS mb (T.map kp) :: blk t 57 [.map (some mb)] :: (nodesL T ++ H))) (fun _ => by kernel_rfl) ((by have h := sorted_walk (blk t 57 [.map (some mb)] :: (nodesL T ++ H)) kb mb (T.map kp) (by rw [List.length_map, hT.len]; omega) (fun p hp => by obtain ⟨z, hz, rfl⟩ := List.mem_map.1 hp; exact wf64 (hsk.pos (hT.mem_n hz)) (hid _ (hT.mem_n hz))); rw [hK] at h; exact h))) (fun (ks : Option Addr × Nat) => ?_) : RT _ _ _ _ _ _ 3 _)
  refine (run0 (z := 0) 2 [11, 0, 2, 3, 12, 13] [(11, .slice ks.1 ((sortI (N.map (·.id))).length) ks.2), (0, .pointer (some ⟨t, 0, none⟩)), (2, .slice none 0 0), (3, .slice none 0 0), (12, .int .i64 ((sortI (N.map (·.id))).length : Int)), (13, .int .i64 0)] (fun _ => by kernel_rfl) (endR ?_) : RT _ _ _ _ _ _ 2 _)
  refine blockR 0 (by kernel_rfl) (by kernel_rfl) ?_
  obtain ⟨ka, kc⟩ := ks
  refine PT.pick 1 rfl ?_
  refine PT.drop ?_
  refine PT.pick 1 rfl ?_
  refine PT.pick 2 rfl ?_
  refine PT.pick 2 rfl ?_
  refine PT.rowNil nE 41 ?_
  refine PT.keep (L' := [(0, .pointer (some ⟨t, 0, none⟩)), (3, .slice none 0 0), (11, .slice ka ((sortI (N.map (·.id))).length) kc), (12, .int .i64 ((sortI (N.map (·.id))).length : Int)), (13, .int .i64 0)]) [0, 3, 11, 12, 13] rfl ?_
  refine loopG (fun (s : (Option Addr × Nat) × Nat) => [(0, .pointer (some ⟨t, 0, none⟩)), (3, .slice s.1.1 (((nodesN N).take s.2).length) s.1.2), (11, .slice ka ((sortI (N.map (·.id))).length) kc), (12, .int .i64 ((sortI (N.map (·.id))).length : Int)), (13, .int .i64 (s.2 : Int))]) (fun (s : (Option Addr × Nat) × Nat) => (row nE 41 (.slice s.1.1 ((nodesN N).take s.2).length s.1.2) ((nodesN N).take s.2) :: row intE 3 (.slice ka (sortI (N.map (·.id))).length kc) (sortI (N.map (·.id))) :: blk t 57 [.map (some mb)] :: mapS mb (T.map kp) :: (nodesL T ++ H))) (fun k (s : (Option Addr × Nat) × Nat) => k + s.2 = N.length) N.length ((none, 0), 0) (by kernel_rfl) rfl ?_
  rintro k ⟨⟨qa, qc⟩, u⟩ hku
  simp only at hku
  refine seqR (by kernel_rfl) ?_
  refine regionR 1 (by kernel_rfl) (by kernel_rfl) ?_
  refine (run0 (z := 0) 1 [0, 3, 11, 12, 13, 14] [(0, .pointer (some ⟨t, 0, none⟩)), (3, .slice qa (((nodesN N).take u).length) qc), (11, .slice ka ((sortI (N.map (·.id))).length) kc), (12, .int .i64 ((sortI (N.map (·.id))).length : Int)), (13, .int .i64 (u : Int)), (14, .bool (decide ((u : Int) < ((sortI (N.map (·.id))).length : Int))))] (fun _ => by kernel_rfl) (endR ?_) : RT _ _ _ _ _ _ 1 _)
  refine seqR (by kernel_rfl) ?_
  refine condR (b := decide ((u : Int) < ((sortI (N.map (·.id))).length : Int))) (by kernel_rfl) (fun _ => by kernel_rfl) (fun h1 => ?_) (fun h1 => ?_)
  · skip
    have hu : u < N.length := by have := of_decide_eq_true h1; omega
    obtain ⟨kk, hkk⟩ : ∃ kk, (sortI (N.map (·.id)))[u]? = some kk := ⟨_, List.getElem?_eq_getElem (by omega)⟩
    obtain ⟨y, hy, hny⟩ := nodesN_at hsk.nd hkk
    obtain ⟨i, z, hi, hzn, hzk⟩ := hT.get hy
    subst hzn
    have hsn : (nodesN N).take u ++ [z.n] = (nodesN N).take (u + 1) := by rw [List.take_add_one, hny]; rfl
    refine PT.know (KR.isSome (s := ⟨ka, kc, sortI (N.map (·.id))⟩) (rowKRat 1 rfl) (List.ne_nil_of_length_pos (by show 0 < (sortI _).length; omega))) ?_
    rintro ⟨sb, so, hA⟩
    dsimp only at hA
    subst hA
    refine skipR (by kernel_rfl) ?_
    refine seqR (by kernel_rfl) ?_
    refine blockR 1 (by kernel_rfl) (by kernel_rfl) ?_
    refine seqR (by kernel_rfl) ?_
    refine regionR 3 (by kernel_rfl) (by kernel_rfl) ?_
    refine (stepR (z := 2) (yldS (idxY 74 (.tmp 11) (.tmp 13) sb so ((sortI (N.map (·.id))).length) kc u 1 3 (u : Int) .i64 (some 15) (fun _ => by kernel_rfl) (by kernel_rfl) (by kernel_rfl) (fun _ => by kernel_rfl) (fun _ => by kernel_rfl) Tryz.underlying74 (by kernel_rfl) (by first | rfl | assumption | simp) (by first | omega | (simp; done) | (simp; omega) | (simp at *; omega)))) (fun _ => ?_) : RT _ _ _ _ _ _ 3 _)
    refine (runR (H := (row nE 41 (.slice qa ((nodesN N).take u).length qc) ((nodesN N).take u) :: row intE 3 (.slice (some ⟨sb, so, none⟩) (sortI (N.map (·.id))).length kc) (sortI (N.map (·.id))) :: blk t 57 [.map (some mb)] :: mapS mb (T.map kp) :: (nodesL T ++ H))) (z := 0) 2 [0, 3, 11, 12, 13, 5] [(0, .pointer (some ⟨t, 0, none⟩)), (3, .slice qa (((nodesN N).take u).length) qc), (11, .slice (some ⟨sb, so, none⟩) ((sortI (N.map (·.id))).length) kc), (12, .int .i64 ((sortI (N.map (·.id))).length : Int)), (13, .int .i64 (u : Int)), (5, .int .i64 kk)] [(⟨sb, so + u * 1, none⟩, .int .i64 kk)] (hasC ((rowKRat (xs := sortI (N.map (·.id))) (A := some ⟨sb, so, none⟩) (k := kc) (E := intE) (T := 3) 1 rfl).cell rfl (i := u) (x := kk) hkk (j := 0) rfl) has0) (fun _ => by kernel_rfl) (endR ?_) : RT _ _ _ _ _ _ 2 _)
    refine regionR 13 (by kernel_rfl) (by kernel_rfl) ?_
    refine (runR (H := (row nE 41 (.slice qa ((nodesN N).take u).length qc) ((nodesN N).take u) :: row intE 3 (.slice (some ⟨sb, so, none⟩) (sortI (N.map (·.id))).length kc) (sortI (N.map (·.id))) :: blk t 57 [.map (some mb)] :: mapS mb (T.map kp) :: (nodesL T ++ H))) (z := 7) 6 [0, 3, 11, 12, 13, 17, 21, 22] [(0, .pointer (some ⟨t, 0, none⟩)), (3, .slice qa (((nodesN N).take u).length) qc), (11, .slice (some ⟨sb, so, none⟩) ((sortI (N.map (·.id))).length) kc), (12, .int .i64 ((sortI (N.map (·.id))).length : Int)), (13, .int .i64 (u : Int)), (17, .slice qa (((nodesN N).take u).length) qc), (21, .map (some mb)), (22, .int .i64 kk)] [(⟨t, 0, none⟩, .map (some mb))] (hasC (blkAt (T := 57) (cs := [.map (some mb)]) 2 rfl rfl) has0) (fun _ => by kernel_rfl) ?_ : RT _ _ _ _ _ _ 13 _)
    refine (stepR (z := 6) (yldS (lookY 55 (.tmp 21) (.tmp 22) false mb kk (T.map kp) (.pointer none) (.pointer (some ⟨z.b, 0, none⟩)) 3 50 (some 23) (fun _ => by kernel_rfl) (by kernel_rfl) (by kernel_rfl) (fun _ => by kernel_rfl) (fun _ => by kernel_rfl) Tryz.underlying55 (by kernel_rfl) (fun _ => by kernel_rfl) (mapAt (H := (row nE 41 (.slice qa ((nodesN N).take u).length qc) ((nodesN N).take u) :: row intE 3 (.slice (some ⟨sb, so, none⟩) (sortI (N.map (·.id))).length kc) (sortI (N.map (·.id))) :: blk t 57 [.map (some mb)] :: mapS mb (T.map kp) :: (nodesL T ++ H))) (i := 3) rfl) (by rw [lk_some hT hsk.nd hi hzk]; rfl))) (fun _ => ?_) : RT _ _ _ _ _ _ 7 _)
    refine (runR (H := (row nE 41 (.slice qa ((nodesN N).take u).length qc) ((nodesN N).take u) :: row intE 3 (.slice (some ⟨sb, so, none⟩) (sortI (N.map (·.id))).length kc) (sortI (N.map (·.id))) :: blk t 57 [.map (some mb)] :: mapS mb (T.map kp) :: (nodesL T ++ H))) (z := 3) 3 [0, 3, 11, 12, 13, 17, 26] [(0, .pointer (some ⟨t, 0, none⟩)), (3, .slice qa (((nodesN N).take u).length) qc), (11, .slice (some ⟨sb, so, none⟩) ((sortI (N.map (·.id))).length) kc), (12, .int .i64 ((sortI (N.map (·.id))).length : Int)), (13, .int .i64 (u : Int)), (17, .slice qa (((nodesN N).take u).length) qc), (26, .agg #[.int .i64 z.n.id, .int .i64 z.n.par, .int .i64 z.n.wt, .int .i64 z.n.pass, .bool z.n.thr, .bool z.n.rdy])] [(⟨z.b, 0, none⟩, .int .i64 z.n.id), (⟨z.b, 1, none⟩, .int .i64 z.n.par), (⟨z.b, 2, none⟩, .int .i64 z.n.wt), (⟨z.b, 3, none⟩, .int .i64 z.n.pass), (⟨z.b, 4, none⟩, .bool z.n.thr), (⟨z.b, 5, none⟩, .bool z.n.rdy)] (hasC (up (up (up (up (nodeAt (T := T) (List.mem_of_getElem? hi) (j := 0) rfl))))) (hasC (up (up (up (up (nodeAt (T := T) (List.mem_of_getElem? hi) (j := 1) rfl))))) (hasC (up (up (up (up (nodeAt (T := T) (List.mem_of_getElem? hi) (j := 2) rfl))))) (hasC (up (up (up (up (nodeAt (T := T) (List.mem_of_getElem? hi) (j := 3) rfl))))) (hasC (up (up (up (up (nodeAt (T := T) (List.mem_of_getElem? hi) (j := 4) rfl))))) (hasC (up (up (up (up (nodeAt (T := T) (List.mem_of_getElem? hi) (j := 5) rfl))))) has0)))))) (fun _ => by kernel_rfl) ?_ : RT _ _ _ _ _ _ 6 _)
    refine (stepR (z := 2) (newS 41 [.int .i64 z.n.id, .int .i64 z.n.par, .int .i64 z.n.wt, .int .i64 z.n.pass, .bool z.n.thr, .bool z.n.rdy] (some 27) (fun b => .slice (some ⟨b, 0, none⟩) 1 1) (fun _ _ => by kernel_rfl)) (fun b1 => ?_) : RT _ _ _ _ _ _ 3 _)
    refine (RT.pick 1 rfl ?_ : RT _ _ _ (blk b1 41 [.int .i64 z.n.id, .int .i64 z.n.par, .int .i64 z.n.wt, .int .i64 z.n.pass, .bool z.n.thr, .bool z.n.rdy] :: row nE 41 (.slice qa ((nodesN N).take u).length qc) ((nodesN N).take u) :: row intE 3 (.slice (some ⟨sb, so, none⟩) (sortI (N.map (·.id))).length kc) (sortI (N.map (·.id))) :: blk t 57 [.map (some mb)] :: mapS mb (T.map kp) :: (nodesL T ++ H)) _ _ 2 _)
    refine (stepR (z := 1) (appS (E := nE) 47 (.tmp 17) (.tmp 27) qa qc ((nodesN N).take u) [z.n] (.slice (some ⟨b1, 0, none⟩) 1 1) (some 28) (fun _ => by kernel_rfl) (by kernel_rfl) (by kernel_rfl) (fun _ => by kernel_rfl) (fun _ => by kernel_rfl) Tryz.underlying47 (nE_ety) (blkRd 1 rfl) (by simp only [List.length_take, List.length_cons, List.length_nil]; omega)) (fun r2 => ?_) : RT _ _ _ (row nE 41 (.slice qa ((nodesN N).take u).length qc) ((nodesN N).take u) :: blk b1 41 [.int .i64 z.n.id, .int .i64 z.n.par, .int .i64 z.n.wt, .int .i64 z.n.pass, .bool z.n.thr, .bool z.n.rdy] :: row intE 3 (.slice (some ⟨sb, so, none⟩) (sortI (N.map (·.id))).length kc) (sortI (N.map (·.id))) :: blk t 57 [.map (some mb)] :: mapS mb (T.map kp) :: (nodesL T ++ H)) _ _ 2 _)
    refine (run0 (z := 0) 1 [0, 3, 11, 12, 13] [(0, .pointer (some ⟨t, 0, none⟩)), (3, .slice r2.1 ((((nodesN N).take u) ++ [z.n]).length) r2.2), (11, .slice (some ⟨sb, so, none⟩) ((sortI (N.map (·.id))).length) kc), (12, .int .i64 ((sortI (N.map (·.id))).length : Int)), (13, .int .i64 (u : Int))] (fun _ => by kernel_rfl) (endR ?_) : RT _ _ _ _ _ _ 1 _)
    refine regionR 2 (by kernel_rfl) (by kernel_rfl) ?_
    refine (run0 (z := 0) 2 [0, 3, 11, 12, 13] [(0, .pointer (some ⟨t, 0, none⟩)), (3, .slice r2.1 ((((nodesN N).take u) ++ [z.n]).length) r2.2), (11, .slice (some ⟨sb, so, none⟩) ((sortI (N.map (·.id))).length) kc), (12, .int .i64 ((sortI (N.map (·.id))).length : Int)), (13, .int .i64 (IntKind.i64.wrap ((u : Int) + 1)))] (fun _ => by kernel_rfl) (endR ?_) : RT _ _ _ _ _ _ 2 _)
    rw [show IntKind.i64.wrap ((u : Int) + 1) = ((u + 1 : Nat) : Int) by rw [w64 (by omega) (by omega)]; rfl]
    rw [hsn]
    refine PT.pick 1 rfl ?_
    refine PT.drop ?_
    refine PT.keep (L' := [(0, .pointer (some ⟨t, 0, none⟩)), (3, .slice r2.1 (((nodesN N).take (u + 1)).length) r2.2), (11, .slice (some ⟨sb, so, none⟩) ((sortI (N.map (·.id))).length) kc), (12, .int .i64 ((sortI (N.map (·.id))).length : Int)), (13, .int .i64 ((u + 1 : Nat) : Int))]) [0, 3, 11, 12, 13] rfl ?_
    exact againG (k - 1) (r2, u + 1) rfl rfl (by omega) (by simp only; omega)
  · skip
    have hu : u = N.length := by have := of_decide_eq_false h1; omega
    have htk : (nodesN N).take u = nodesN N := List.take_of_length_le (by rw [nodesN_len]; omega)
    refine exitR 0 (by kernel_rfl) (by kernel_rfl) ?_
    refine thenX ?_
    refine thenX ?_
    refine leaveR ?_
    refine seqR (by kernel_rfl) ?_
    refine regionR 2 (by kernel_rfl) (by kernel_rfl) ?_
    refine (run0 (z := 0) 2 [2] [(2, .slice qa (((nodesN N).take u).length) qc)] (fun _ => by kernel_rfl) (endR ?_) : RT _ _ _ _ _ _ 2 _)
    refine retR (by kernel_rfl) ?_
    rw [htk]
    refine PT.pick 1 rfl ?_
    refine PT.drop ?_
    refine done0 (.slice qa ((nodesN N).length) qc) (fun _ => by kernel_rfl) (fun w hs => ?_) .ret (.inr rfl)
    exact ⟨(qa, qc), rfl, hs⟩
end Go.Proofs.YtjbjngikaiggdaaGreat
