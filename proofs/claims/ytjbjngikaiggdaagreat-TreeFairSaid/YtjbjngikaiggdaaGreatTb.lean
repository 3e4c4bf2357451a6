/- tree: New, Deep, Node. Conditions: none. -/
import Derived.Test.YtjbjngikaiggdaaGreatTa
set_option linter.unusedVariables false
set_option linter.unusedSimpArgs false
namespace Go.Proofs.YtjbjngikaiggdaaGreat
open Go.RowKit G
def rootN : Nr := ⟨0, -1, 1, 0, false, false, 0⟩
def rootT (b ib : Nat) : Nd := ⟨rootN, [], b, ib⟩
set_option maxRecDepth 100000 in
theorem tnew_walk (H : List SP) : ∀ w, Sat w H → Calls Tryz.prog 6 #[] w (Ret (ι := Nat × Nat × Nat × Nat) (fun x => .pointer (some ⟨x.1, 0, none⟩)) fun x => blk x.1 57 [.map (some x.2.1)] :: mapS x.2.1 ([rootT x.2.2.1 x.2.2.2].map kp) :: (nodesL [rootT x.2.2.1 x.2.2.2] ++ H)) := by
  refine enterG (fn := Tryz.f6) 11 [] Tryz.func6 (by kernel_rfl) (by kernel_rfl) (by kernel_rfl) ?_
  refine seqR (by kernel_rfl) ?_
  refine regionR 1 (by kernel_rfl) (by kernel_rfl) ?_
  refine (run0 (z := 0) 1 [0] [(0, .pointer none)] (fun _ => by kernel_rfl) (endR ?_) : RT _ _ _ _ _ _ 1 _)
  refine seqR (by kernel_rfl) ?_
  refine regionR 5 (by kernel_rfl) (by kernel_rfl) ?_
  refine (run0 (z := 4) 1 [0, 2] [(0, .pointer none), (2, .agg #[.int .i64 0, .int .i64 (-1), .int .i64 1, .int .i64 0, .bool false, .bool false])] (fun _ => by kernel_rfl) ?_ : RT _ _ _ _ _ _ 5 _)
  refine (stepR (z := 3) (callS 17 [.int .i64 60] (some 3) (fun (ib : Nat) => .pointer (some ⟨ib, 0, none⟩)) (fun (ib : Nat) => (idxS ib 60 ([] : List (Int × Int)) :: H)) (fun _ => by kernel_rfl) (new_walk _ 60)) (fun (ib : Nat) => ?_) : RT _ _ _ _ _ _ 4 _)
  refine (run0 (z := 2) 1 [0, 4] [(0, .pointer none), (4, .agg #[.int .i64 0, .int .i64 (-1), .int .i64 1, .int .i64 0, .bool false, .bool false, .int .i64 0, .pointer (some ⟨ib, 0, none⟩)])] (fun _ => by kernel_rfl) ?_ : RT _ _ _ _ _ _ 3 _)
  refine (stepR (z := 1) (newS 54 [.int .i64 0, .int .i64 (-1), .int .i64 1, .int .i64 0, .bool false, .bool false, .int .i64 0, .pointer (some ⟨ib, 0, none⟩)] (some 5) (fun b => .pointer (some ⟨b, 0, none⟩)) (fun _ _ => by kernel_rfl)) (fun b1 => ?_) : RT _ _ _ _ _ _ 2 _)
  refine (run0 (z := 0) 1 [0, 1] [(0, .pointer none), (1, .pointer (some ⟨b1, 0, none⟩))] (fun _ => by kernel_rfl) (endR ?_) : RT _ _ _ _ _ _ 1 _)
  refine seqR (by kernel_rfl) ?_
  refine regionR 7 (by kernel_rfl) (by kernel_rfl) ?_
  refine (stepR (z := 6) (newMapS (some 6) (fun b => .map (some b)) (fun _ _ => by kernel_rfl)) (fun b2 => ?_) : RT _ _ _ _ _ _ 7 _)
  refine (run0 (z := 5) 1 [6, 0, 7] [(6, .map (some b2)), (0, .pointer none), (7, .pointer (some ⟨b1, 0, none⟩))] (fun _ => by kernel_rfl) ?_ : RT _ _ _ _ _ _ 6 _)
  refine (stepR (z := 4) (updS 55 (.tmp 6) (.const (.int .i64 0)) (.tmp 7) b2 0 [] (.pointer (some ⟨b1, 0, none⟩)) 3 50 (fun _ => by kernel_rfl) (by kernel_rfl) (.inr (by kernel_rfl)) (fun _ => by kernel_rfl) (fun _ => by kernel_rfl) (fun _ => by kernel_rfl) Tryz.underlying55 (by kernel_rfl) (rfl)) (fun _ => ?_) : RT _ _ _ _ _ _ 5 _)
  refine (run0 (z := 2) 2 [0, 9] [(0, .pointer none), (9, .agg #[.map (some b2)])] (fun _ => by kernel_rfl) ?_ : RT _ _ _ _ _ _ 4 _)
  refine (stepR (z := 1) (newS 57 [.map (some b2)] (some 10) (fun b => .pointer (some ⟨b, 0, none⟩)) (fun _ _ => by kernel_rfl)) (fun b3 => ?_) : RT _ _ _ _ _ _ 2 _)
  refine (run0 (z := 0) 1 [0] [(0, .pointer (some ⟨b3, 0, none⟩))] (fun _ => by kernel_rfl) (endR ?_) : RT _ _ _ _ _ _ 1 _)
  refine retR (by kernel_rfl) ?_
  refine done0 (.pointer (some ⟨b3, 0, none⟩)) (fun _ => by kernel_rfl) (fun w hs => ?_) .ret (.inr rfl)
  exact ⟨(b3, b2, b1, ib), rfl, hs⟩
theorem deepN_rk {N : List Nr} (h : SK N) {rk : Int → Nat} (hr : ∀ x ∈ N, (x.id = 0 → rk x.id = 1) ∧ (x.id ≠ 0 → rk x.id = rk x.par + 1) ∧ rk x.id ≤ 5 ∧ (x.thr = false → rk x.id ≤ 4)) :
    ∀ (f : Nat) (x : Nr), x ∈ N → rk x.id ≤ f → deepN f N x.id = rk x.id
  | 0, x, hx, hf => by
    by_cases c : x.id = 0
    · have := (hr x hx).1 c; omega
    · have := (hr x hx).2.1 c; omega
  | f + 1, x, hx, hf => by
    rw [deepN, gt_of h.nd hx]
    simp only
    by_cases c : x.id = 0
    · rw [(hr x hx).1 c, (h.rt x hx c).1]
      have : gt N (-1) = none := gt_none.2 fun y hy e => by
        by_cases c2 : y.id = 0
        · omega
        · have := (h.pa y hy c2).1; omega
      cases f with
      | zero => rfl
      | succ f => rw [deepN, this]
    · obtain ⟨_, p, hp, hpi, _⟩ := h.pa x hx c
      have h1 := (hr x hx).2.1 c
      rw [← hpi, deepN_rk h hr f p hp (by rw [hpi]; omega), h1, hpi]
theorem SK.neg {N : List Nr} (h : SK N) {k : Int} (hk : k < 0) : gt N k = none := gt_none.2 fun y hy e => by
  by_cases c2 : y.id = 0
  · omega
  · have := (h.pa y hy c2).1; omega
set_option maxRecDepth 100000 in
theorem deep_walk {N : List Nr} {T : List Nd} (hT : OkT N T) (hsk : SK N) (H : List SP) (t mb : Nat) (k0 : Int) : ∀ w, Sat w (blk t 57 [.map (some mb)] :: mapS mb (T.map kp) :: (nodesL T ++ H)) → Calls Tryz.prog 16 #[.pointer (some ⟨t, 0, none⟩), .int .i64 k0] w (Ret (ι := Unit) (fun _ => .int .i64 (deepN 6 N k0 : Int)) fun _ => blk t 57 [.map (some mb)] :: mapS mb (T.map kp) :: (nodesL T ++ H)) := by
  obtain ⟨rk, hrk⟩ := hsk.rk
  have hnd := hsk.nd
  refine enterG (fn := Tryz.f16) 27 [.pointer (some ⟨t, 0, none⟩), .int .i64 k0] Tryz.func16 (by kernel_rfl) (by kernel_rfl) (by kernel_rfl) ?_
  refine seqR (by kernel_rfl) ?_
  refine regionR 1 (by kernel_rfl) (by kernel_rfl) ?_
  refine (run0 (z := 0) 1 [0, 1, 4] [(0, .pointer (some ⟨t, 0, none⟩)), (1, .int .i64 k0), (4, .int .i64 0)] (fun _ => by kernel_rfl) (endR ?_) : RT _ _ _ _ _ _ 1 _)
  refine scopeG 0 (fun (x : Int × Nat) => [(0, .pointer (some ⟨t, 0, none⟩)), (1, .int .i64 x.1), (5, .int .i64 (x.2 : Int))]) (fun _ => (blk t 57 [.map (some mb)] :: mapS mb (T.map kp) :: (nodesL T ++ H))) (fun k (x : Int × Nat) => k + x.2 = 6 ∧ deepN 6 N k0 = x.2 + deepN k N x.1 ∧ ∀ y ∈ N, y.id = x.1 → rk y.id + x.2 ≤ 5) (by kernel_rfl) (by kernel_rfl) (by kernel_rfl) (by kernel_rfl) ?_ ?_
  · skip
    rintro k ⟨id, n⟩ ⟨hkn, hd, hb⟩ K hK
    simp only at hkn hd hb
    cases hg : gt N id with
    | none =>
      refine seqR (by kernel_rfl) ?_
      refine regionR 11 (by kernel_rfl) (by kernel_rfl) ?_
      refine (runR (H := (blk t 57 [.map (some mb)] :: mapS mb (T.map kp) :: (nodesL T ++ H))) (z := 6) 5 [0, 1, 5, 12, 13] [(0, .pointer (some ⟨t, 0, none⟩)), (1, .int .i64 id), (5, .int .i64 (n : Int)), (12, .map (some mb)), (13, .int .i64 id)] [(⟨t, 0, none⟩, .map (some mb))] (hasC (blkAt (T := 57) (cs := [.map (some mb)]) 0 rfl rfl) has0) (fun _ => by kernel_rfl) ?_ : RT _ _ _ _ _ _ 11 _)
      refine (stepR (z := 5) (yldS (lookY 55 (.tmp 12) (.tmp 13) true mb id (T.map kp) (.pointer none) (.tuple #[.pointer none, .bool false]) 3 50 (some 14) (fun _ => by kernel_rfl) (by kernel_rfl) (by kernel_rfl) (fun _ => by kernel_rfl) (fun _ => by kernel_rfl) Tryz.underlying55 (by kernel_rfl) (fun _ => by kernel_rfl) (mapAt (H := (blk t 57 [.map (some mb)] :: mapS mb (T.map kp) :: (nodesL T ++ H))) (i := 1) rfl) (by rw [lk_none hT hg]; rfl))) (fun _ => ?_) : RT _ _ _ _ _ _ 6 _)
      refine (run0 (z := 0) 5 [0, 1, 5, 6, 7] [(0, .pointer (some ⟨t, 0, none⟩)), (1, .int .i64 id), (5, .int .i64 (n : Int)), (6, .pointer none), (7, .bool false)] (fun _ => by kernel_rfl) (endR ?_) : RT _ _ _ _ _ _ 5 _)
      refine seqR (by kernel_rfl) ?_
      refine seqR (by kernel_rfl) ?_
      refine regionR 2 (by kernel_rfl) (by kernel_rfl) ?_
      refine (run0 (z := 0) 2 [0, 1, 5, 6, 18] [(0, .pointer (some ⟨t, 0, none⟩)), (1, .int .i64 id), (5, .int .i64 (n : Int)), (6, .pointer none), (18, .bool true)] (fun _ => by kernel_rfl) (endR ?_) : RT _ _ _ _ _ _ 2 _)
      refine condR (b := true) (by kernel_rfl) (fun _ => by kernel_rfl) (fun _ => ?_) (fun h => by cases h)
      refine seqR (by kernel_rfl) ?_
      refine regionR 2 (by kernel_rfl) (by kernel_rfl) ?_
      refine (run0 (z := 0) 2 [0, 1, 5, 6, 4] [(0, .pointer (some ⟨t, 0, none⟩)), (1, .int .i64 id), (5, .int .i64 (n : Int)), (6, .pointer none), (4, .int .i64 (n : Int))] (fun _ => by kernel_rfl) (endR ?_) : RT _ _ _ _ _ _ 2 _)
      refine retR (by kernel_rfl) ?_
      refine thenV ?_
      refine jumpV ?_
      have hz : deepN k N id = 0 := by cases k <;> simp [deepN, hg]
      refine done0 (.int .i64 (n : Int)) (fun _ => by kernel_rfl) (fun w hs => ?_) .ret (.inr rfl)
      exact ⟨(), by rw [hd, hz]; rfl, hs⟩
    | some y =>
      obtain ⟨i, z, hi, hzn, hzk⟩ := hT.get hg
      have hy := gt_mem hg
      have hr1 := hrk y hy.1
      have hb1 := hb y hy.1 hy.2
      refine seqR (by kernel_rfl) ?_
      refine regionR 11 (by kernel_rfl) (by kernel_rfl) ?_
      refine (runR (H := (blk t 57 [.map (some mb)] :: mapS mb (T.map kp) :: (nodesL T ++ H))) (z := 6) 5 [0, 1, 5, 12, 13] [(0, .pointer (some ⟨t, 0, none⟩)), (1, .int .i64 id), (5, .int .i64 (n : Int)), (12, .map (some mb)), (13, .int .i64 id)] [(⟨t, 0, none⟩, .map (some mb))] (hasC (blkAt (T := 57) (cs := [.map (some mb)]) 0 rfl rfl) has0) (fun _ => by kernel_rfl) ?_ : RT _ _ _ _ _ _ 11 _)
      refine (stepR (z := 5) (yldS (lookY 55 (.tmp 12) (.tmp 13) true mb id (T.map kp) (.pointer none) (.tuple #[.pointer (some ⟨z.b, 0, none⟩), .bool true]) 3 50 (some 14) (fun _ => by kernel_rfl) (by kernel_rfl) (by kernel_rfl) (fun _ => by kernel_rfl) (fun _ => by kernel_rfl) Tryz.underlying55 (by kernel_rfl) (fun _ => by kernel_rfl) (mapAt (H := (blk t 57 [.map (some mb)] :: mapS mb (T.map kp) :: (nodesL T ++ H))) (i := 1) rfl) (by rw [lk_some hT hnd hi hzk]; rfl))) (fun _ => ?_) : RT _ _ _ _ _ _ 6 _)
      refine (run0 (z := 0) 5 [0, 1, 5, 6, 7] [(0, .pointer (some ⟨t, 0, none⟩)), (1, .int .i64 id), (5, .int .i64 (n : Int)), (6, .pointer (some ⟨z.b, 0, none⟩)), (7, .bool true)] (fun _ => by kernel_rfl) (endR ?_) : RT _ _ _ _ _ _ 5 _)
      refine seqR (by kernel_rfl) ?_
      refine seqR (by kernel_rfl) ?_
      refine regionR 2 (by kernel_rfl) (by kernel_rfl) ?_
      refine (run0 (z := 0) 2 [0, 1, 5, 6, 18] [(0, .pointer (some ⟨t, 0, none⟩)), (1, .int .i64 id), (5, .int .i64 (n : Int)), (6, .pointer (some ⟨z.b, 0, none⟩)), (18, .bool false)] (fun _ => by kernel_rfl) (endR ?_) : RT _ _ _ _ _ _ 2 _)
      refine condR (b := false) (by kernel_rfl) (fun _ => by kernel_rfl) (fun h => by cases h) (fun _ => ?_)
      refine skipR (by kernel_rfl) ?_
      refine seqR (by kernel_rfl) ?_
      refine regionR 3 (by kernel_rfl) (by kernel_rfl) ?_
      refine (run0 (z := 0) 3 [0, 1, 5, 6] [(0, .pointer (some ⟨t, 0, none⟩)), (1, .int .i64 id), (5, .int .i64 (IntKind.i64.wrap ((n : Int) + 1))), (6, .pointer (some ⟨z.b, 0, none⟩))] (fun _ => by kernel_rfl) (endR ?_) : RT _ _ _ _ _ _ 3 _)
      refine seqR (by kernel_rfl) ?_
      refine regionR 6 (by kernel_rfl) (by kernel_rfl) ?_
      refine (runR (H := (blk t 57 [.map (some mb)] :: mapS mb (T.map kp) :: (nodesL T ++ H))) (z := 0) 6 [0, 1, 5] [(0, .pointer (some ⟨t, 0, none⟩)), (1, .int .i64 z.n.par), (5, .int .i64 (IntKind.i64.wrap ((n : Int) + 1)))] [(⟨z.b, 1, none⟩, .int .i64 z.n.par)] (hasC (up (up (nodeAt (T := T) (List.mem_of_getElem? hi) (j := 1) rfl))) has0) (fun _ => by kernel_rfl) (endR ?_) : RT _ _ _ _ _ _ 6 _)
      refine gotoR 0 (by kernel_rfl) (by kernel_rfl) ?_
      obtain ⟨k, rfl⟩ : ∃ k', k = k' + 1 := ⟨k - 1, by omega⟩
      have hd2 : deepN (k + 1) N id = deepN k N z.n.par + 1 := by rw [deepN, hg, hzn]
      rw [show IntKind.i64.wrap ((n : Int) + 1) = ((n + 1 : Nat) : Int) by rw [w64 (by omega) (by omega)]; rfl]
      refine PT.keep (L' := [(0, .pointer (some ⟨t, 0, none⟩)), (1, .int .i64 z.n.par), (5, .int .i64 ((n + 1 : Nat) : Int))]) [0, 1, 5] rfl ?_
      exact jumpR (hK k (z.n.par, n + 1) (by omega) ⟨by simp only; omega, by simp only; rw [hd, hd2]; omega, fun p hp hpi => by simp only at hpi ⊢; rw [hzn] at hpi; by_cases c : y.id = 0; (have := (hsk.rt y hy.1 c).1; have h3 : gt N p.id = none := hsk.neg (by omega); rw [gt_of hnd hp] at h3; cases h3); (have := hr1.2.1 c; rw [hpi]; omega)⟩)
  · skip
    intro K hK
    refine seqR (by kernel_rfl) ?_
    refine regionR 1 (by kernel_rfl) (by kernel_rfl) ?_
    refine (run0 (z := 0) 1 [0, 1, 4, 5] [(0, .pointer (some ⟨t, 0, none⟩)), (1, .int .i64 k0), (4, .int .i64 0), (5, .int .i64 0)] (fun _ => by kernel_rfl) (endR ?_) : RT _ _ _ _ _ _ 1 _)
    refine seqR (by kernel_rfl) ?_
    refine labelR (by kernel_rfl) ?_
    refine PT.keep (L' := [(0, .pointer (some ⟨t, 0, none⟩)), (1, .int .i64 k0), (5, .int .i64 0)]) [0, 1, 5] rfl ?_
    refine codeR (by kernel_rfl) (hK 6 (k0, 0) ⟨rfl, by simp, fun y hy _ => by have := (hrk y hy).2.2.1; simpa using this⟩)
def ndV (x : Nr) : Value := .agg #[.int .i64 x.id, .int .i64 x.par, .int .i64 x.wt, .int .i64 x.pass, .bool x.thr, .bool x.rdy]
def zeroN : Nr := ⟨0, 0, 0, 0, false, false, 0⟩
set_option maxRecDepth 100000 in
theorem node_walk {N : List Nr} {T : List Nd} (hT : OkT N T) (hnd : (N.map (·.id)).Nodup) (H : List SP) (t mb : Nat) (id : Int) : ∀ w, Sat w (blk t 57 [.map (some mb)] :: mapS mb (T.map kp) :: (nodesL T ++ H)) → Calls Tryz.prog 12 #[.pointer (some ⟨t, 0, none⟩), .int .i64 id] w (Ret (ι := Unit) (fun _ => .tuple #[ndV ((gt N id).getD zeroN), .bool (gt N id).isSome]) fun _ => blk t 57 [.map (some mb)] :: mapS mb (T.map kp) :: (nodesL T ++ H)) := by
  refine enterG (fn := Tryz.f12) 24 [.pointer (some ⟨t, 0, none⟩), .int .i64 id] Tryz.func12 (by kernel_rfl) (by kernel_rfl) (by kernel_rfl) ?_
  cases hg : gt N id with
  | none =>
    refine seqR (by kernel_rfl) ?_
    refine regionR 2 (by kernel_rfl) (by kernel_rfl) ?_
    refine (stepR (z := 1) (newS 41 [.int .i64 0, .int .i64 0, .int .i64 0, .int .i64 0, .bool false, .bool false] (some 4) (fun b => .pointer (some ⟨b, 0, none⟩)) (fun _ _ => by kernel_rfl)) (fun b1 => ?_) : RT _ _ _ _ _ _ 2 _)
    refine (run0 (z := 0) 1 [4, 0, 1, 5] [(4, .pointer (some ⟨b1, 0, none⟩)), (0, .pointer (some ⟨t, 0, none⟩)), (1, .int .i64 id), (5, .bool false)] (fun _ => by kernel_rfl) (endR ?_) : RT _ _ _ _ _ _ 1 _)
    refine seqR (by kernel_rfl) ?_
    refine regionR 11 (by kernel_rfl) (by kernel_rfl) ?_
    refine (runR (H := (blk b1 41 [.int .i64 0, .int .i64 0, .int .i64 0, .int .i64 0, .bool false, .bool false] :: blk t 57 [.map (some mb)] :: mapS mb (T.map kp) :: (nodesL T ++ H))) (z := 6) 5 [4, 5, 12, 13] [(4, .pointer (some ⟨b1, 0, none⟩)), (5, .bool false), (12, .map (some mb)), (13, .int .i64 id)] [(⟨t, 0, none⟩, .map (some mb))] (hasC (blkAt (T := 57) (cs := [.map (some mb)]) 1 rfl rfl) has0) (fun _ => by kernel_rfl) ?_ : RT _ _ _ _ _ _ 11 _)
    refine (stepR (z := 5) (yldS (lookY 55 (.tmp 12) (.tmp 13) true mb id (T.map kp) (.pointer none) (.tuple #[.pointer none, .bool false]) 3 50 (some 14) (fun _ => by kernel_rfl) (by kernel_rfl) (by kernel_rfl) (fun _ => by kernel_rfl) (fun _ => by kernel_rfl) Tryz.underlying55 (by kernel_rfl) (fun _ => by kernel_rfl) (mapAt (H := (blk b1 41 [.int .i64 0, .int .i64 0, .int .i64 0, .int .i64 0, .bool false, .bool false] :: blk t 57 [.map (some mb)] :: mapS mb (T.map kp) :: (nodesL T ++ H))) (i := 2) rfl) (by rw [lk_none hT hg]; rfl))) (fun _ => ?_) : RT _ _ _ _ _ _ 6 _)
    refine (run0 (z := 0) 5 [4, 5, 6, 7] [(4, .pointer (some ⟨b1, 0, none⟩)), (5, .bool false), (6, .pointer none), (7, .bool false)] (fun _ => by kernel_rfl) (endR ?_) : RT _ _ _ _ _ _ 5 _)
    refine seqR (by kernel_rfl) ?_
    refine seqR (by kernel_rfl) ?_
    refine regionR 2 (by kernel_rfl) (by kernel_rfl) ?_
    refine (run0 (z := 0) 2 [4, 5, 6, 18] [(4, .pointer (some ⟨b1, 0, none⟩)), (5, .bool false), (6, .pointer none), (18, .bool true)] (fun _ => by kernel_rfl) (endR ?_) : RT _ _ _ _ _ _ 2 _)
    refine condR (b := true) (by kernel_rfl) (fun _ => by kernel_rfl) (fun _ => ?_) (fun h => by cases h)
    refine seqR (by kernel_rfl) ?_
    refine regionR 3 (by kernel_rfl) (by kernel_rfl) ?_
    refine (run0 (z := 2) 1 [4, 5, 6, 19] [(4, .pointer (some ⟨b1, 0, none⟩)), (5, .bool false), (6, .pointer none), (19, .agg #[.int .i64 0, .int .i64 0, .int .i64 0, .int .i64 0, .bool false, .bool false])] (fun _ => by kernel_rfl) ?_ : RT _ _ _ _ _ _ 3 _)
    refine (stepR (z := 1) (storeS [(0, .int .i64 0), (1, .int .i64 0), (2, .int .i64 0), (3, .int .i64 0), (4, .bool false), (5, .bool false)] [.int .i64 0, .int .i64 0, .int .i64 0, .int .i64 0, .bool false, .bool false] (fun _ => by kernel_rfl) (by kernel_rfl) (by kernel_rfl)) (fun _ => ?_) : RT _ _ _ _ _ _ 2 _)
    refine (run0 (z := 0) 1 [4, 5, 6] [(4, .pointer (some ⟨b1, 0, none⟩)), (5, .bool false), (6, .pointer none)] (fun _ => by kernel_rfl) (endR ?_) : RT _ _ _ _ _ _ 1 _)
    refine retR (by kernel_rfl) ?_
    refine thenV ?_
    refine doneG (.tuple #[.agg #[.int .i64 0, .int .i64 0, .int .i64 0, .int .i64 0, .bool false, .bool false], .bool false]) [(⟨b1, 0, none⟩, .int .i64 0), (⟨b1, 1, none⟩, .int .i64 0), (⟨b1, 2, none⟩, .int .i64 0), (⟨b1, 3, none⟩, .int .i64 0), (⟨b1, 4, none⟩, .bool false), (⟨b1, 5, none⟩, .bool false)] (hasC (blkAt (T := 41) (cs := [.int .i64 0, .int .i64 0, .int .i64 0, .int .i64 0, .bool false, .bool false]) 0 rfl rfl) (hasC (blkAt (T := 41) (cs := [.int .i64 0, .int .i64 0, .int .i64 0, .int .i64 0, .bool false, .bool false]) 0 rfl rfl) (hasC (blkAt (T := 41) (cs := [.int .i64 0, .int .i64 0, .int .i64 0, .int .i64 0, .bool false, .bool false]) 0 rfl rfl) (hasC (blkAt (T := 41) (cs := [.int .i64 0, .int .i64 0, .int .i64 0, .int .i64 0, .bool false, .bool false]) 0 rfl rfl) (hasC (blkAt (T := 41) (cs := [.int .i64 0, .int .i64 0, .int .i64 0, .int .i64 0, .bool false, .bool false]) 0 rfl rfl) (hasC (blkAt (T := 41) (cs := [.int .i64 0, .int .i64 0, .int .i64 0, .int .i64 0, .bool false, .bool false]) 0 rfl rfl) has0)))))) (fun _ => by kernel_rfl) (fun w hs => ?_) .ret (.inr rfl)
    exact ⟨(), rfl, hs.tail⟩
  | some y =>
    obtain ⟨i, z, hi, hzn, hzk⟩ := hT.get hg
    refine seqR (by kernel_rfl) ?_
    refine regionR 2 (by kernel_rfl) (by kernel_rfl) ?_
    refine (stepR (z := 1) (newS 41 [.int .i64 0, .int .i64 0, .int .i64 0, .int .i64 0, .bool false, .bool false] (some 4) (fun b => .pointer (some ⟨b, 0, none⟩)) (fun _ _ => by kernel_rfl)) (fun b1 => ?_) : RT _ _ _ _ _ _ 2 _)
    refine (run0 (z := 0) 1 [4, 0, 1, 5] [(4, .pointer (some ⟨b1, 0, none⟩)), (0, .pointer (some ⟨t, 0, none⟩)), (1, .int .i64 id), (5, .bool false)] (fun _ => by kernel_rfl) (endR ?_) : RT _ _ _ _ _ _ 1 _)
    refine seqR (by kernel_rfl) ?_
    refine regionR 11 (by kernel_rfl) (by kernel_rfl) ?_
    refine (runR (H := (blk b1 41 [.int .i64 0, .int .i64 0, .int .i64 0, .int .i64 0, .bool false, .bool false] :: blk t 57 [.map (some mb)] :: mapS mb (T.map kp) :: (nodesL T ++ H))) (z := 6) 5 [4, 5, 12, 13] [(4, .pointer (some ⟨b1, 0, none⟩)), (5, .bool false), (12, .map (some mb)), (13, .int .i64 id)] [(⟨t, 0, none⟩, .map (some mb))] (hasC (blkAt (T := 57) (cs := [.map (some mb)]) 1 rfl rfl) has0) (fun _ => by kernel_rfl) ?_ : RT _ _ _ _ _ _ 11 _)
    refine (stepR (z := 5) (yldS (lookY 55 (.tmp 12) (.tmp 13) true mb id (T.map kp) (.pointer none) (.tuple #[.pointer (some ⟨z.b, 0, none⟩), .bool true]) 3 50 (some 14) (fun _ => by kernel_rfl) (by kernel_rfl) (by kernel_rfl) (fun _ => by kernel_rfl) (fun _ => by kernel_rfl) Tryz.underlying55 (by kernel_rfl) (fun _ => by kernel_rfl) (mapAt (H := (blk b1 41 [.int .i64 0, .int .i64 0, .int .i64 0, .int .i64 0, .bool false, .bool false] :: blk t 57 [.map (some mb)] :: mapS mb (T.map kp) :: (nodesL T ++ H))) (i := 2) rfl) (by rw [lk_some hT hnd hi hzk]; rfl))) (fun _ => ?_) : RT _ _ _ _ _ _ 6 _)
    refine (run0 (z := 0) 5 [4, 5, 6, 7] [(4, .pointer (some ⟨b1, 0, none⟩)), (5, .bool false), (6, .pointer (some ⟨z.b, 0, none⟩)), (7, .bool true)] (fun _ => by kernel_rfl) (endR ?_) : RT _ _ _ _ _ _ 5 _)
    refine seqR (by kernel_rfl) ?_
    refine seqR (by kernel_rfl) ?_
    refine regionR 2 (by kernel_rfl) (by kernel_rfl) ?_
    refine (run0 (z := 0) 2 [4, 5, 6, 18] [(4, .pointer (some ⟨b1, 0, none⟩)), (5, .bool false), (6, .pointer (some ⟨z.b, 0, none⟩)), (18, .bool false)] (fun _ => by kernel_rfl) (endR ?_) : RT _ _ _ _ _ _ 2 _)
    refine condR (b := false) (by kernel_rfl) (fun _ => by kernel_rfl) (fun h => by cases h) (fun _ => ?_)
    refine skipR (by kernel_rfl) ?_
    refine seqR (by kernel_rfl) ?_
    refine regionR 6 (by kernel_rfl) (by kernel_rfl) ?_
    refine (runR (H := (blk b1 41 [.int .i64 0, .int .i64 0, .int .i64 0, .int .i64 0, .bool false, .bool false] :: blk t 57 [.map (some mb)] :: mapS mb (T.map kp) :: (nodesL T ++ H))) (z := 2) 4 [4, 5, 23] [(4, .pointer (some ⟨b1, 0, none⟩)), (5, .bool false), (23, .agg #[.int .i64 z.n.id, .int .i64 z.n.par, .int .i64 z.n.wt, .int .i64 z.n.pass, .bool z.n.thr, .bool z.n.rdy])] [(⟨z.b, 0, none⟩, .int .i64 z.n.id), (⟨z.b, 1, none⟩, .int .i64 z.n.par), (⟨z.b, 2, none⟩, .int .i64 z.n.wt), (⟨z.b, 3, none⟩, .int .i64 z.n.pass), (⟨z.b, 4, none⟩, .bool z.n.thr), (⟨z.b, 5, none⟩, .bool z.n.rdy)] (hasC (up (up (up (nodeAt (T := T) (List.mem_of_getElem? hi) (j := 0) rfl)))) (hasC (up (up (up (nodeAt (T := T) (List.mem_of_getElem? hi) (j := 1) rfl)))) (hasC (up (up (up (nodeAt (T := T) (List.mem_of_getElem? hi) (j := 2) rfl)))) (hasC (up (up (up (nodeAt (T := T) (List.mem_of_getElem? hi) (j := 3) rfl)))) (hasC (up (up (up (nodeAt (T := T) (List.mem_of_getElem? hi) (j := 4) rfl)))) (hasC (up (up (up (nodeAt (T := T) (List.mem_of_getElem? hi) (j := 5) rfl)))) has0)))))) (fun _ => by kernel_rfl) ?_ : RT _ _ _ _ _ _ 6 _)
    refine (stepR (z := 1) (storeS [(0, .int .i64 z.n.id), (1, .int .i64 z.n.par), (2, .int .i64 z.n.wt), (3, .int .i64 z.n.pass), (4, .bool z.n.thr), (5, .bool z.n.rdy)] [.int .i64 z.n.id, .int .i64 z.n.par, .int .i64 z.n.wt, .int .i64 z.n.pass, .bool z.n.thr, .bool z.n.rdy] (fun _ => by kernel_rfl) (by kernel_rfl) (by kernel_rfl)) (fun _ => ?_) : RT _ _ _ _ _ _ 2 _)
    refine (run0 (z := 0) 1 [4, 5] [(4, .pointer (some ⟨b1, 0, none⟩)), (5, .bool true)] (fun _ => by kernel_rfl) (endR ?_) : RT _ _ _ _ _ _ 1 _)
    refine retR (by kernel_rfl) ?_
    subst hzn
    refine doneG (.tuple #[.agg #[.int .i64 z.n.id, .int .i64 z.n.par, .int .i64 z.n.wt, .int .i64 z.n.pass, .bool z.n.thr, .bool z.n.rdy], .bool true]) [(⟨b1, 0, none⟩, .int .i64 z.n.id), (⟨b1, 1, none⟩, .int .i64 z.n.par), (⟨b1, 2, none⟩, .int .i64 z.n.wt), (⟨b1, 3, none⟩, .int .i64 z.n.pass), (⟨b1, 4, none⟩, .bool z.n.thr), (⟨b1, 5, none⟩, .bool z.n.rdy)] (hasC (blkAt (T := 41) (cs := [.int .i64 z.n.id, .int .i64 z.n.par, .int .i64 z.n.wt, .int .i64 z.n.pass, .bool z.n.thr, .bool z.n.rdy]) 0 rfl rfl) (hasC (blkAt (T := 41) (cs := [.int .i64 z.n.id, .int .i64 z.n.par, .int .i64 z.n.wt, .int .i64 z.n.pass, .bool z.n.thr, .bool z.n.rdy]) 0 rfl rfl) (hasC (blkAt (T := 41) (cs := [.int .i64 z.n.id, .int .i64 z.n.par, .int .i64 z.n.wt, .int .i64 z.n.pass, .bool z.n.thr, .bool z.n.rdy]) 0 rfl rfl) (hasC (blkAt (T := 41) (cs := [.int .i64 z.n.id, .int .i64 z.n.par, .int .i64 z.n.wt, .int .i64 z.n.pass, .bool z.n.thr, .bool z.n.rdy]) 0 rfl rfl) (hasC (blkAt (T := 41) (cs := [.int .i64 z.n.id, .int .i64 z.n.par, .int .i64 z.n.wt, .int .i64 z.n.pass, .bool z.n.thr, .bool z.n.rdy]) 0 rfl rfl) (hasC (blkAt (T := 41) (cs := [.int .i64 z.n.id, .int .i64 z.n.par, .int .i64 z.n.wt, .int .i64 z.n.pass, .bool z.n.thr, .bool z.n.rdy]) 0 rfl rfl) has0)))))) (fun _ => by kernel_rfl) (fun w hs => ?_) .ret (.inr rfl)
    exact ⟨(), rfl, hs.tail⟩
end Go.Proofs.YtjbjngikaiggdaaGreat
