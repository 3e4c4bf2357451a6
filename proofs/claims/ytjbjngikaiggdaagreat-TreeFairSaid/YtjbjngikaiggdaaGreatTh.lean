/- tree: Run. Conditions: none. -/
import Derived.Test.YtjbjngikaiggdaaGreatTg
set_option linter.unusedVariables false
set_option linter.unusedSimpArgs false
namespace Go.Proofs.YtjbjngikaiggdaaGreat
open Go.RowKit G
theorem frameT {ι : Type} {P : Program} {f : FuncId} {vs : Array Value} {rv : ι → Value} {X A B : SP} {T : List Nd} {H : List SP} {A' B' : ι → SP} {T' : ι → List Nd}
    (h : ∀ (H : List SP) w, Sat w (A :: B :: (nodesL T ++ H)) → Calls P f vs w (Ret rv fun x => A' x :: B' x :: (nodesL (T' x) ++ H))) : ∀ w, Sat w (X :: A :: B :: (nodesL T ++ H)) → Calls P f vs w (Ret rv fun x => X :: A' x :: B' x :: (nodesL (T' x) ++ H)) := fun w hs =>
  (h (X :: H) w (Sat.perm (List.perm_middle (a := X) (l₁ := A :: B :: nodesL T) (l₂ := H)).symm hs)).mono fun e w' ⟨x, he, hx⟩ => ⟨x, he, Sat.perm (List.perm_middle (a := X) (l₁ := A' x :: B' x :: nodesL (T' x)) (l₂ := H)) hx⟩
theorem idx_at {A B C : SP} {T : List Nd} {H : List SP} {x : Nd} (hx : x ∈ T) : ∃ j : Nat, (A :: B :: C :: (nodesL T ++ H))[j]? = some (idxS x.ib 60 x.q) := by
  have h1 : idxS x.ib 60 x.q ∈ nodesL T := by
    induction T with
    | nil => cases hx
    | cons a T ih =>
      rcases List.mem_cons.1 hx with rfl | hx
      · exact .tail _ (.head _)
      · exact .tail _ (.tail _ (ih hx))
  exact List.mem_iff_getElem?.1 (.tail _ (.tail _ (.tail _ (List.mem_append_left H h1))))
theorem wE_ety : Ety Tryz.prog wE 50 (.pointer none) := by
  obtain ⟨i, hi, hz, hs, hb⟩ := info_parts (P := Tryz.prog) (e := 50) (z := .pointer none) (size := 1) (bytes := 8) (by kernel_rfl)
  exact ⟨⟨i, hi, hz, hs, by omega⟩, rfl⟩
structure RnX where
  T : List Nd
  x : Nd
  wy : List (Int × Nat)
  a : Option Addr
  c : Nat
structure RunI (N : List Nr) (T : List Nd) (rk : Int → Nat) (k : Nat) (s : RnX) : Prop where
  ex : ∃ N1, OkT N1 s.T ∧ SK N1 ∧ RK N1 rk ∧ DN rk (rk s.x.n.id) N1 ∧ downN 6 N 0 [] = downN k N1 s.x.n.id (s.wy.map (·.1))
  same : SameT T s.T
  on : OnT s.T s.wy
  mem : ∃ i : Nat, s.T[i]? = some s.x
  rank : k + rk s.x.n.id = 7
  len : s.wy.length + 1 = rk s.x.n.id
set_option maxHeartbeats 1000000 in
set_option maxRecDepth 100000 in
theorem run_walk {N : List Nr} {T : List Nd} (hT : OkT N T) (hw : WFN N) (H : List SP) (t mb : Nat) : ∀ w, Sat w (blk t 57 [.map (some mb)] :: mapS mb (T.map kp) :: (nodesL T ++ H)) → Calls Tryz.prog 10 #[.pointer (some ⟨t, 0, none⟩)] w (Ret (ι := { T' : List Nd // OkT (runN N).2 T' ∧ SameT T T' }) (fun _ => .tuple #[.int .i64 (runN N).1.1, .bool (runN N).1.2]) fun T' => blk t 57 [.map (some mb)] :: mapS mb (T'.1.map kp) :: (nodesL T'.1 ++ H)) := by
  have hsk := hw.sk
  obtain ⟨rk, hrk⟩ := hsk.rk
  obtain ⟨r0, hr0, hr00⟩ := hsk.root
  have hg0 : gt N 0 = some r0 := hr00 ▸ gt_of hsk.nd hr0
  obtain ⟨i0, z0, hi0, hz0, hz0k⟩ := hT.get hg0
  have hz0m := List.mem_of_getElem? hi0
  refine enterG (fn := Tryz.f10) 68 [.pointer (some ⟨t, 0, none⟩)] Tryz.func10 (by kernel_rfl) (by kernel_rfl) (by kernel_rfl) ?_
  refine seqR (by kernel_rfl) ?_
  refine regionR 2 (by kernel_rfl) (by kernel_rfl) ?_
  refine (run0 (z := 0) 2 [0, 2, 3] [(0, .pointer (some ⟨t, 0, none⟩)), (2, .int .i64 0), (3, .bool false)] (fun _ => by kernel_rfl) (endR ?_) : RT _ _ _ _ _ _ 2 _)
  refine scopeG 0 (fun (s : RnX) => [(0, .pointer (some ⟨t, 0, none⟩)), (4, .pointer (some ⟨s.x.b, 0, none⟩)), (5, .slice s.a s.wy.length s.c)]) (fun (s : RnX) => (row wE 50 (.slice s.a s.wy.length s.c) s.wy :: blk t 57 [.map (some mb)] :: mapS mb (s.T.map kp) :: (nodesL s.T ++ H))) (fun k (s : RnX) => RunI N T rk k s ∧ r0.rdy = true) (by kernel_rfl) (by kernel_rfl) (by kernel_rfl) (by kernel_rfl) ?_ ?_
  · skip
    rintro k ⟨T1, x1, wy, A, cap⟩ ⟨⟨⟨N1, hT1, hs1, hr1, hd1, hdn⟩, hsm, hon, ⟨i, hi⟩, hkr, hwl⟩, hrdy⟩ K hK
    simp only at hT1 hd1 hdn hsm hon hi hkr hwl
    have hm := List.mem_of_getElem? hi
    have hxN := hT1.mem_n hm
    have hrx := (hr1 _ hxN).2.2.1
    obtain ⟨jx, hjx⟩ := idx_at (A := row wE 50 (.slice A wy.length cap) wy) (B := blk t 57 [.map (some mb)]) (C := mapS mb (T1.map kp)) (H := H) hm
    obtain ⟨k, rfl⟩ : ∃ k', k = k' + 1 := ⟨k - 1, by omega⟩
    cases hq : x1.q with
    | nil =>
      refine seqR (by kernel_rfl) ?_
      refine regionR 11 (by kernel_rfl) (by kernel_rfl) ?_
      refine (runR (H := (row wE 50 (.slice A wy.length cap) wy :: blk t 57 [.map (some mb)] :: mapS mb (T1.map kp) :: (nodesL T1 ++ H))) (z := 7) 4 [0, 4, 5, 23] [(0, .pointer (some ⟨t, 0, none⟩)), (4, .pointer (some ⟨x1.b, 0, none⟩)), (5, .slice A wy.length cap), (23, .pointer (some ⟨x1.ib, 0, none⟩))] [(⟨x1.b, 7, none⟩, .pointer (some ⟨x1.ib, 0, none⟩))] (hasC (up (up (up (nodeAt (T := T1) hm (j := 7) rfl)))) has0) (fun _ => by kernel_rfl) ?_ : RT _ _ _ _ _ _ 11 _)
      refine (stepR (z := 6) (callS 23 [.pointer (some ⟨x1.ib, 0, none⟩)] (some 24) (fun _ => .tuple #[.agg #[.int .i64 0, .int .i64 0], .bool false]) (fun _ => (row wE 50 (.slice A wy.length cap) wy :: blk t 57 [.map (some mb)] :: mapS mb (T1.map kp) :: (nodesL T1 ++ H))) (fun _ => by kernel_rfl) (same_at jx hjx (by rw [hq]; exact min_idx _ x1.ib 60 []))) (fun _ => ?_) : RT _ _ _ _ _ _ 7 _)
      refine (run0 (z := 3) 3 [0, 4, 5, 25, 26] [(0, .pointer (some ⟨t, 0, none⟩)), (4, .pointer (some ⟨x1.b, 0, none⟩)), (5, .slice A wy.length cap), (25, .agg #[.int .i64 0, .int .i64 0]), (26, .bool false)] (fun _ => by kernel_rfl) ?_ : RT _ _ _ _ _ _ 6 _)
      refine (stepR (z := 2) (newS 65 [.int .i64 0, .int .i64 0] (some 6) (fun b => .pointer (some ⟨b, 0, none⟩)) (fun _ _ => by kernel_rfl)) (fun b1 => ?_) : RT _ _ _ _ _ _ 3 _)
      refine (stepR (z := 1) (storeS [(0, .int .i64 0), (1, .int .i64 0)] [.int .i64 0, .int .i64 0] (fun _ => by kernel_rfl) (by kernel_rfl) (by kernel_rfl)) (fun _ => ?_) : RT _ _ _ _ _ _ 2 _)
      refine (run0 (z := 0) 1 [6, 0, 4, 5, 7] [(6, .pointer (some ⟨b1, 0, none⟩)), (0, .pointer (some ⟨t, 0, none⟩)), (4, .pointer (some ⟨x1.b, 0, none⟩)), (5, .slice A wy.length cap), (7, .bool false)] (fun _ => by kernel_rfl) (endR ?_) : RT _ _ _ _ _ _ 1 _)
      refine PT.drop ?_
      refine seqR (by kernel_rfl) ?_
      refine seqR (by kernel_rfl) ?_
      refine regionR 2 (by kernel_rfl) (by kernel_rfl) ?_
      refine (run0 (z := 0) 2 [6, 0, 4, 5, 28] [(6, .pointer (some ⟨b1, 0, none⟩)), (0, .pointer (some ⟨t, 0, none⟩)), (4, .pointer (some ⟨x1.b, 0, none⟩)), (5, .slice A wy.length cap), (28, .bool true)] (fun _ => by kernel_rfl) (endR ?_) : RT _ _ _ _ _ _ 2 _)
      refine condR (b := true) (by kernel_rfl) (fun _ => by kernel_rfl) (fun _ => ?_) (fun h => by cases h)
      refine seqR (by kernel_rfl) ?_
      refine regionR 3 (by kernel_rfl) (by kernel_rfl) ?_
      refine (run0 (z := 1) 2 [6, 0, 4, 5, 29, 30] [(6, .pointer (some ⟨b1, 0, none⟩)), (0, .pointer (some ⟨t, 0, none⟩)), (4, .pointer (some ⟨x1.b, 0, none⟩)), (5, .slice A wy.length cap), (29, .pointer (some ⟨t, 0, none⟩)), (30, .slice A wy.length cap)] (fun _ => by kernel_rfl) ?_ : RT _ _ _ _ _ _ 3 _)
      refine (stepR (z := 0) (callS 24 [.pointer (some ⟨t, 0, none⟩), .slice A wy.length cap] (some 31) (fun (T' : { T' : List Nd // OkT ((wy.map (·.1)).foldl shiftN N1) T' ∧ SameT T1 T' }) => .tuple #[]) (fun (T' : { T' : List Nd // OkT ((wy.map (·.1)).foldl shiftN N1) T' ∧ SameT T1 T' }) => row wE 50 (.slice A wy.length cap) wy :: blk t 57 [.map (some mb)] :: mapS mb (T'.1.map kp) :: (nodesL T'.1 ++ H)) (fun _ => by kernel_rfl) (shifts_walk hT1 hs1 hd1 (by omega) hon H t mb A cap)) (fun (T' : { T' : List Nd // OkT ((wy.map (·.1)).foldl shiftN N1) T' ∧ SameT T1 T' }) => ?_) : RT _ _ _ _ _ _ 1 _)
      obtain ⟨T2, hT2, hsm2⟩ := T'
      obtain ⟨x2, hx2, hx2k, hx2b, _⟩ := hsm2.at hi
      refine endR ?_
      refine seqR (by kernel_rfl) ?_
      refine regionR 7 (by kernel_rfl) (by kernel_rfl) ?_
      refine (runR (H := (row wE 50 (.slice A wy.length cap) wy :: blk t 57 [.map (some mb)] :: mapS mb (T2.map kp) :: (nodesL T2 ++ H))) (z := 0) 7 [6, 0, 4, 5, 2, 3] [(6, .pointer (some ⟨b1, 0, none⟩)), (0, .pointer (some ⟨t, 0, none⟩)), (4, .pointer (some ⟨x1.b, 0, none⟩)), (5, .slice A wy.length cap), (2, .int .i64 x1.n.id), (3, .bool true)] [(⟨x1.b, 0, none⟩, .int .i64 x1.n.id)] (hasC (up (up (up (by rw [← hx2b, ← hx2k]; exact nodeAt (T := T2) (List.mem_of_getElem? hx2) (j := 0) rfl)))) has0) (fun _ => by kernel_rfl) (endR ?_) : RT _ _ _ _ _ _ 7 _)
      refine retR (by kernel_rfl) ?_
      refine thenV ?_
      refine jumpV ?_
      have hfin : downN 6 N 0 [] = (x1.n.id, (wy.map (·.1)).foldl shiftN N1) := by rw [hdn, downN, least_nil hT1 hm hq]
      have hrn : runN N = ((x1.n.id, true), (wy.map (·.1)).foldl shiftN N1) := by rw [runN, hg0]; simp only [hrdy, if_true, hfin]
      refine done0 (.tuple #[.int .i64 x1.n.id, .bool true]) (fun _ => by kernel_rfl) (fun w hs => ?_) .ret (.inr rfl)
      exact ⟨⟨T2, by rw [hrn]; exact hT2, hsm.trans hsm2⟩, by show _ = Ending.returned (.tuple #[.int .i64 (runN N).1.1, .bool (runN N).1.2]); rw [hrn], hs.tail⟩
    | cons e r =>
      obtain ⟨y, hly, hyN, hyp, hyr, hye, hyi⟩ := least_q hT1 hs1 hm hq
      obtain ⟨j, yz, hj, hyz⟩ := hT1.of_n hyN
      obtain ⟨hd2, hyb, hyx⟩ := hd1.step hs1 hr1 hxN hyN hyp hyr (least_some hly).2
      have hry := RK.up hs1 hr1 hyN hxN hyp.symm
      have hij : i ≠ j := fun e => by subst e; rw [hi] at hj; cases hj; rw [hyz] at hry; omega
      have hyk : yz.n.id = e.2 := by rw [hyz, hyi]
      have hypar : yz.n.par = x1.n.id := by rw [hyz, hyp]
      have hyps : yz.n.pass = e.1 := by rw [hyz, hye]
      have hyw := hd1.wt y hyN
      have hst := strd_pos hyw
      have hyp0 := hd1.pass y hyN
      have hT2 : OkT (upN N1 x1.n.id (nwF e.1)) (T1.set i { x1 with n := nwF e.1 x1.n }) := hT1.one hs1.nd hi (nwF_skel e.1) (.inr ⟨rfl, .inl rfl⟩)
      have hs2 : SK (upN N1 x1.n.id (nwF e.1)) := hs1.upN (nwF_skel e.1)
      have hsm2 : SameT T1 (T1.set i { x1 with n := nwF e.1 x1.n }) := SameT.set hi ⟨rfl, rfl, rfl⟩
      have hl2 : LB (upN N1 x1.n.id (nwF e.1)) := hd1.lb.ups hs1.nd hxN (hd1.wt x1.n hxN) (hd1.lb.pass x1.n hxN) (by show 0 ≤ e.1 ∧ e.1 ≤ 1099511627776; omega)
      have hj2 : (T1.set i { x1 with n := nwF e.1 x1.n })[j]? = some yz := by rw [List.getElem?_set_ne hij]; exact hj
      have hg2 : gt (upN N1 x1.n.id (nwF e.1)) yz.n.par = some (nwF e.1 x1.n) := by rw [gt_upN (f := nwF e.1) (fun _ => rfl), if_pos hypar, hypar, gt_of hs1.nd hxN]; rfl
      obtain ⟨R, hR, hR2⟩ := perm1 hi
      refine seqR (by kernel_rfl) ?_
      refine regionR 11 (by kernel_rfl) (by kernel_rfl) ?_
      refine (runR (H := (row wE 50 (.slice A wy.length cap) wy :: blk t 57 [.map (some mb)] :: mapS mb (T1.map kp) :: (nodesL T1 ++ H))) (z := 7) 4 [0, 4, 5, 23] [(0, .pointer (some ⟨t, 0, none⟩)), (4, .pointer (some ⟨x1.b, 0, none⟩)), (5, .slice A wy.length cap), (23, .pointer (some ⟨x1.ib, 0, none⟩))] [(⟨x1.b, 7, none⟩, .pointer (some ⟨x1.ib, 0, none⟩))] (hasC (up (up (up (nodeAt (T := T1) hm (j := 7) rfl)))) has0) (fun _ => by kernel_rfl) ?_ : RT _ _ _ _ _ _ 11 _)
      refine (stepR (z := 6) (callS 23 [.pointer (some ⟨x1.ib, 0, none⟩)] (some 24) (fun _ => .tuple #[.agg #[.int .i64 e.1, .int .i64 e.2], .bool true]) (fun _ => (row wE 50 (.slice A wy.length cap) wy :: blk t 57 [.map (some mb)] :: mapS mb (T1.map kp) :: (nodesL T1 ++ H))) (fun _ => by kernel_rfl) (same_at jx hjx (by rw [hq]; exact min_idx _ x1.ib 60 (e :: r)))) (fun _ => ?_) : RT _ _ _ _ _ _ 7 _)
      refine (run0 (z := 3) 3 [0, 4, 5, 25, 26] [(0, .pointer (some ⟨t, 0, none⟩)), (4, .pointer (some ⟨x1.b, 0, none⟩)), (5, .slice A wy.length cap), (25, .agg #[.int .i64 e.1, .int .i64 e.2]), (26, .bool true)] (fun _ => by kernel_rfl) ?_ : RT _ _ _ _ _ _ 6 _)
      refine (stepR (z := 2) (newS 65 [.int .i64 0, .int .i64 0] (some 6) (fun b => .pointer (some ⟨b, 0, none⟩)) (fun _ _ => by kernel_rfl)) (fun b1 => ?_) : RT _ _ _ _ _ _ 3 _)
      refine (stepR (z := 1) (storeS [(0, .int .i64 e.1), (1, .int .i64 e.2)] [.int .i64 e.1, .int .i64 e.2] (fun _ => by kernel_rfl) (by kernel_rfl) (by kernel_rfl)) (fun _ => ?_) : RT _ _ _ _ _ _ 2 _)
      refine (run0 (z := 0) 1 [6, 0, 4, 5, 7] [(6, .pointer (some ⟨b1, 0, none⟩)), (0, .pointer (some ⟨t, 0, none⟩)), (4, .pointer (some ⟨x1.b, 0, none⟩)), (5, .slice A wy.length cap), (7, .bool true)] (fun _ => by kernel_rfl) (endR ?_) : RT _ _ _ _ _ _ 1 _)
      refine seqR (by kernel_rfl) ?_
      refine seqR (by kernel_rfl) ?_
      refine regionR 2 (by kernel_rfl) (by kernel_rfl) ?_
      refine (run0 (z := 0) 2 [6, 0, 4, 5, 28] [(6, .pointer (some ⟨b1, 0, none⟩)), (0, .pointer (some ⟨t, 0, none⟩)), (4, .pointer (some ⟨x1.b, 0, none⟩)), (5, .slice A wy.length cap), (28, .bool false)] (fun _ => by kernel_rfl) (endR ?_) : RT _ _ _ _ _ _ 2 _)
      refine condR (b := false) (by kernel_rfl) (fun _ => by kernel_rfl) (fun h => by cases h) (fun _ => ?_)
      refine skipR (by kernel_rfl) ?_
      refine seqR (by kernel_rfl) ?_
      refine regionR 5 (by kernel_rfl) (by kernel_rfl) ?_
      refine (run0 (z := 3) 2 [6, 0, 4, 5, 37, 38] [(6, .pointer (some ⟨b1, 0, none⟩)), (0, .pointer (some ⟨t, 0, none⟩)), (4, .pointer (some ⟨x1.b, 0, none⟩)), (5, .slice A wy.length cap), (37, .slice A wy.length cap), (38, .pointer (some ⟨x1.b, 0, none⟩))] (fun _ => by kernel_rfl) ?_ : RT _ _ _ _ _ _ 5 _)
      refine (stepR (z := 2) (newS 50 [.pointer (some ⟨x1.b, 0, none⟩)] (some 39) (fun b => .slice (some ⟨b, 0, none⟩) 1 1) (fun _ _ => by kernel_rfl)) (fun b2 => ?_) : RT _ _ _ _ _ _ 3 _)
      refine (RT.pick 2 rfl ?_ : RT _ _ _ (blk b2 50 [.pointer (some ⟨x1.b, 0, none⟩)] :: blk b1 65 [.int .i64 e.1, .int .i64 e.2] :: row wE 50 (.slice A wy.length cap) wy :: blk t 57 [.map (some mb)] :: mapS mb (T1.map kp) :: (nodesL T1 ++ H)) _ _ 2 _)
      refine (stepR (z := 1) (appS (E := wE) 63 (.tmp 37) (.tmp 39) A cap wy [(x1.n.id, x1.b)] (.slice (some ⟨b2, 0, none⟩) 1 1) (some 40) (fun _ => by kernel_rfl) (by kernel_rfl) (by kernel_rfl) (fun _ => by kernel_rfl) (fun _ => by kernel_rfl) Tryz.underlying63 (wE_ety) (blkRd 1 rfl) (by simp only [List.length_cons, List.length_nil]; omega)) (fun r3 => ?_) : RT _ _ _ (row wE 50 (.slice A wy.length cap) wy :: blk b2 50 [.pointer (some ⟨x1.b, 0, none⟩)] :: blk b1 65 [.int .i64 e.1, .int .i64 e.2] :: blk t 57 [.map (some mb)] :: mapS mb (T1.map kp) :: (nodesL T1 ++ H)) _ _ 2 _)
      refine (run0 (z := 0) 1 [6, 0, 4, 5] [(6, .pointer (some ⟨b1, 0, none⟩)), (0, .pointer (some ⟨t, 0, none⟩)), (4, .pointer (some ⟨x1.b, 0, none⟩)), (5, .slice r3.1 ((wy ++ [(x1.n.id, x1.b)]).length) r3.2)] (fun _ => by kernel_rfl) (endR ?_) : RT _ _ _ _ _ _ 1 _)
      refine PT.pick 1 rfl ?_
      refine PT.drop ?_
      refine PT.pick 1 rfl ?_
      refine PT.pick 3 rfl ?_
      refine PT.pick 3 rfl ?_
      refine PT.pick 3 rfl ?_
      refine PT.open1d (hR) ?_
      refine seqR (by kernel_rfl) ?_
      refine regionR 6 (by kernel_rfl) (by kernel_rfl) ?_
      refine (runR (H := (row wE 50 (.slice r3.1 (wy ++ [(x1.n.id, x1.b)]).length r3.2) (wy ++ [(x1.n.id, x1.b)]) :: blk t 57 [.map (some mb)] :: mapS mb (T1.map kp) :: blk b1 65 [.int .i64 e.1, .int .i64 e.2] :: blk x1.b 54 [.int .i64 x1.n.id, .int .i64 x1.n.par, .int .i64 x1.n.wt, .int .i64 x1.n.pass, .bool x1.n.thr, .bool x1.n.rdy, .int .i64 x1.n.now, .pointer (some ⟨x1.ib, 0, none⟩)] :: idxS x1.ib 60 x1.q :: (nodesL R ++ H))) (z := 1) 5 [6, 0, 4, 5, 43, 45] [(6, .pointer (some ⟨b1, 0, none⟩)), (0, .pointer (some ⟨t, 0, none⟩)), (4, .pointer (some ⟨x1.b, 0, none⟩)), (5, .slice r3.1 ((wy ++ [(x1.n.id, x1.b)]).length) r3.2), (43, .int .i64 e.1), (45, .pointer (some ⟨x1.b, 6, none⟩))] [(⟨b1, 0, none⟩, .int .i64 e.1)] (hasC (blkAt (T := 65) (cs := [.int .i64 e.1, .int .i64 e.2]) 3 rfl rfl) has0) (fun _ => by kernel_rfl) ?_ : RT _ _ _ _ _ _ 6 _)
      refine (RT.pick 4 rfl ?_ : RT _ _ _ (row wE 50 (.slice r3.1 (wy ++ [(x1.n.id, x1.b)]).length r3.2) (wy ++ [(x1.n.id, x1.b)]) :: blk t 57 [.map (some mb)] :: mapS mb (T1.map kp) :: blk b1 65 [.int .i64 e.1, .int .i64 e.2] :: blk x1.b 54 [.int .i64 x1.n.id, .int .i64 x1.n.par, .int .i64 x1.n.wt, .int .i64 x1.n.pass, .bool x1.n.thr, .bool x1.n.rdy, .int .i64 x1.n.now, .pointer (some ⟨x1.ib, 0, none⟩)] :: idxS x1.ib 60 x1.q :: (nodesL R ++ H)) _ _ 1 _)
      refine (stepR (z := 0) (storeS [(6, .int .i64 e.1)] [.int .i64 x1.n.id, .int .i64 x1.n.par, .int .i64 x1.n.wt, .int .i64 x1.n.pass, .bool x1.n.thr, .bool x1.n.rdy, .int .i64 e.1, .pointer (some ⟨x1.ib, 0, none⟩)] (fun _ => by kernel_rfl) (by kernel_rfl) (by kernel_rfl)) (fun _ => ?_) : RT _ _ _ _ _ _ 1 _)
      refine endR ?_
      refine PT.pick 0 rfl ?_
      refine PT.pick 4 rfl ?_
      refine PT.pick 4 rfl ?_
      refine PT.pick 4 rfl ?_
      refine PT.pick 4 rfl ?_
      refine PT.close1d ({ x1 with n := nwF e.1 x1.n }) (hR2 _) ?_
      rw [← hsm2.kp]
      refine seqR (by kernel_rfl) ?_
      refine drawR (fun w => Sat w (row wE 50 (.slice r3.1 (wy ++ [(x1.n.id, x1.b)]).length r3.2) (wy ++ [(x1.n.id, x1.b)]) :: blk t 57 [.map (some mb)] :: mapS mb ((T1.set i { x1 with n := nwF e.1 x1.n }).map kp) :: blk b1 65 [.int .i64 e.1, .int .i64 e.2] :: (nodesL (T1.set i { x1 with n := nwF e.1 x1.n }) ++ H))) [] 8 (by kernel_rfl) (by kernel_rfl) (by kernel_rfl) (fun _ h => by first | exact h | exact h.tail | exact h.tail.tail | exact h.tail.tail.tail | exact h.tail.tail.tail.tail) ?_
      refine takesR [0, 1, 2, 3, 4, 5] [0, 4, 5, 49, 51] 2 [true, true, true, true, true, true, false, false] [(0, .pointer (some ⟨t, 0, none⟩)), (4, .pointer (some ⟨x1.b, 0, none⟩)), (5, .slice r3.1 ((wy ++ [(x1.n.id, x1.b)]).length) r3.2), (49, .map (some mb)), (51, .int .i64 e.2)] [(⟨t, 0, none⟩, .map (some mb)), (⟨b1, 1, none⟩, .int .i64 e.2)] rfl (fun _ d _ _ _ h => by cases d <;> exact h) (fun _ h => by first | exact h | exact h.tail | exact h.tail.tail | exact h.tail.tail.tail | exact h.tail.tail.tail.tail) (hasC (blkAt (T := 57) (cs := [.map (some mb)]) 1 rfl rfl) (hasC (blkAt (T := 65) (cs := [.int .i64 e.1, .int .i64 e.2]) 3 rfl rfl) has0)) (fun _ => by kernel_rfl) ?_
      refine takeR1 6 1 [true, true, true, true, true, true, true, false] rfl rfl (by kernel_rfl) (fun _ d _ _ _ h => by cases d <;> exact h) (fun _ h => by first | exact h | exact h.tail | exact h.tail.tail | exact h.tail.tail.tail | exact h.tail.tail.tail.tail) (lookY 55 (.tmp 49) (.tmp 51) false mb e.2 ((T1.set i { x1 with n := nwF e.1 x1.n }).map kp) (.pointer none) (.pointer (some ⟨yz.b, 0, none⟩)) 3 50 (some 52) (fun _ => by kernel_rfl) (by kernel_rfl) (by kernel_rfl) (fun _ => by kernel_rfl) (fun _ => by kernel_rfl) Tryz.underlying55 (by kernel_rfl) (fun _ => by kernel_rfl) (mapAt (H := (row wE 50 (.slice r3.1 (wy ++ [(x1.n.id, x1.b)]).length r3.2) (wy ++ [(x1.n.id, x1.b)]) :: blk t 57 [.map (some mb)] :: mapS mb ((T1.set i { x1 with n := nwF e.1 x1.n }).map kp) :: blk b1 65 [.int .i64 e.1, .int .i64 e.2] :: (nodesL (T1.set i { x1 with n := nwF e.1 x1.n }) ++ H))) (i := 2) rfl) (by rw [lk_some hT2 hs2.nd hj2 hyk]; rfl)) ?_
      refine takesR [7] [0, 4, 5] 0 [true, true, true, true, true, true, true, true] [(0, .pointer (some ⟨t, 0, none⟩)), (4, .pointer (some ⟨yz.b, 0, none⟩)), (5, .slice r3.1 ((wy ++ [(x1.n.id, x1.b)]).length) r3.2)] [] rfl (fun _ d _ _ _ h => by cases d <;> exact h) (fun _ h => by first | exact h | exact h.tail | exact h.tail.tail | exact h.tail.tail.tail | exact h.tail.tail.tail.tail) has0 (fun _ => by kernel_rfl) ?_
      refine drawnR (by kernel_rfl) ?_
      refine PT.pick 3 rfl ?_
      refine PT.drop ?_
      refine seqR (by kernel_rfl) ?_
      refine seqR (by kernel_rfl) ?_
      refine drawR (fun w => Sat w (row wE 50 (.slice r3.1 (wy ++ [(x1.n.id, x1.b)]).length r3.2) (wy ++ [(x1.n.id, x1.b)]) :: blk t 57 [.map (some mb)] :: mapS mb ((T1.set i { x1 with n := nwF e.1 x1.n }).map kp) :: (nodesL (T1.set i { x1 with n := nwF e.1 x1.n }) ++ H))) [13, 14] 15 (by kernel_rfl) (by kernel_rfl) (by kernel_rfl) (fun _ h => by first | exact h | exact h.tail | exact h.tail.tail | exact h.tail.tail.tail | exact h.tail.tail.tail.tail) ?_
      refine takesR [0, 1, 2, 3, 4, 5, 6, 7, 8, 9, 10, 11] [0, 4, 5, 53, 54, 59, 64] 3 [true, true, true, true, true, true, true, true, true, true, true, true, false, false, false] [(0, .pointer (some ⟨t, 0, none⟩)), (4, .pointer (some ⟨yz.b, 0, none⟩)), (5, .slice r3.1 ((wy ++ [(x1.n.id, x1.b)]).length) r3.2), (53, .pointer (some ⟨t, 0, none⟩)), (54, .pointer (some ⟨yz.b, 0, none⟩)), (59, .int .i64 yz.n.pass), (64, .int .i64 yz.n.wt)] [(⟨yz.b, 3, none⟩, .int .i64 yz.n.pass), (⟨yz.b, 2, none⟩, .int .i64 yz.n.wt)] rfl (fun _ d _ _ _ h => by cases d <;> exact h) (fun _ h => by first | exact h | exact h.tail | exact h.tail.tail | exact h.tail.tail.tail | exact h.tail.tail.tail.tail) (hasC (up (up (up (nodeAt (T := T1.set i { x1 with n := nwF e.1 x1.n }) (List.mem_of_getElem? hj2) (j := 3) rfl)))) (hasC (up (up (up (nodeAt (T := T1.set i { x1 with n := nwF e.1 x1.n }) (List.mem_of_getElem? hj2) (j := 2) rfl)))) has0)) (fun _ => by kernel_rfl) ?_
      refine oneR 12 2 [true, true, true, true, true, true, true, true, true, true, true, true, true, false, false] rfl rfl (by kernel_rfl) (callS 25 [.int .i64 yz.n.pass, .int .i64 yz.n.wt] (some 65) (fun _ => .int .i64 (yz.n.pass + strd yz.n.wt)) (fun _ => (row wE 50 (.slice r3.1 (wy ++ [(x1.n.id, x1.b)]).length r3.2) (wy ++ [(x1.n.id, x1.b)]) :: blk t 57 [.map (some mb)] :: mapS mb ((T1.set i { x1 with n := nwF e.1 x1.n }).map kp) :: (nodesL (T1.set i { x1 with n := nwF e.1 x1.n }) ++ H))) (fun _ => by kernel_rfl) (strNext_walk _ yz.n.pass yz.n.wt (by rw [hyps]; omega) (by rw [hyz]; exact hyw))) (fun _ _ h hn => by first | exact h | exact h.tail | exact h.tail.tail | exact h.tail.tail.tail | exact h.tail.tail.tail.tail | exact absurd hn (by decide)) (fun _ => ?_)
      refine oneR 13 1 [true, true, true, true, true, true, true, true, true, true, true, true, true, true, false] rfl rfl (by kernel_rfl) (callS 22 [.pointer (some ⟨t, 0, none⟩), .pointer (some ⟨yz.b, 0, none⟩), .int .i64 (yz.n.pass + strd yz.n.wt)] (some 66) (fun (T' : { T' : List Nd // OkT (upN (upN N1 x1.n.id (nwF e.1)) yz.n.id (psF (yz.n.pass + strd yz.n.wt))) T' ∧ SameT (T1.set i { x1 with n := nwF e.1 x1.n }) T' ∧ SK (upN (upN N1 x1.n.id (nwF e.1)) yz.n.id (psF (yz.n.pass + strd yz.n.wt))) ∧ LB (upN (upN N1 x1.n.id (nwF e.1)) yz.n.id (psF (yz.n.pass + strd yz.n.wt))) }) => .nilIface) (fun (T' : { T' : List Nd // OkT (upN (upN N1 x1.n.id (nwF e.1)) yz.n.id (psF (yz.n.pass + strd yz.n.wt))) T' ∧ SameT (T1.set i { x1 with n := nwF e.1 x1.n }) T' ∧ SK (upN (upN N1 x1.n.id (nwF e.1)) yz.n.id (psF (yz.n.pass + strd yz.n.wt))) ∧ LB (upN (upN N1 x1.n.id (nwF e.1)) yz.n.id (psF (yz.n.pass + strd yz.n.wt))) }) => row wE 50 (.slice r3.1 (wy ++ [(x1.n.id, x1.b)]).length r3.2) (wy ++ [(x1.n.id, x1.b)]) :: blk t 57 [.map (some mb)] :: mapS mb (T'.1.map kp) :: (nodesL T'.1 ++ H)) (fun _ => by kernel_rfl) (frameT (fun H w => sets_walk hT2 hs2 hl2 hj2 hg2 (P := yz.n.pass + strd yz.n.wt) (by rw [hyps, hyz]; omega) H t mb w))) (fun _ _ h hn => by first | exact h | exact h.tail | exact h.tail.tail | exact h.tail.tail.tail | exact h.tail.tail.tail.tail | exact absurd hn (by decide)) (fun (T' : { T' : List Nd // OkT (upN (upN N1 x1.n.id (nwF e.1)) yz.n.id (psF (yz.n.pass + strd yz.n.wt))) T' ∧ SameT (T1.set i { x1 with n := nwF e.1 x1.n }) T' ∧ SK (upN (upN N1 x1.n.id (nwF e.1)) yz.n.id (psF (yz.n.pass + strd yz.n.wt))) ∧ LB (upN (upN N1 x1.n.id (nwF e.1)) yz.n.id (psF (yz.n.pass + strd yz.n.wt))) }) => ?_)
      refine oneR 14 0 [true, true, true, true, true, true, true, true, true, true, true, true, true, true, true] rfl rfl (by kernel_rfl) (calmS (.bool false) (some 67) (fun _ => by kernel_rfl)) (fun _ _ h hn => by first | exact h | exact h.tail | exact h.tail.tail | exact h.tail.tail.tail | exact h.tail.tail.tail.tail | exact absurd hn (by decide)) (fun _ => ?_)
      refine drawnR (by kernel_rfl) ?_
      refine condR (b := false) (by kernel_rfl) (fun _ => by kernel_rfl) (fun h => by cases h) (fun _ => ?_)
      refine skipR (by kernel_rfl) ?_
      refine gotoR 0 (by kernel_rfl) (by kernel_rfl) ?_
      obtain ⟨T3, hT3, hsm3, hs3, hl3⟩ := T'
      obtain ⟨y3, hy3, hy3k, hy3b, _⟩ := hsm3.at hj2
      rw [show yz.b = y3.b by rw [hy3b]]
      refine PT.keep (L' := [(0, .pointer (some ⟨t, 0, none⟩)), (4, .pointer (some ⟨y3.b, 0, none⟩)), (5, .slice r3.1 ((wy ++ [(x1.n.id, x1.b)]).length) r3.2)]) [0, 4, 5] rfl ?_
      exact jumpR (hK k ⟨T3, y3, wy ++ [(x1.n.id, x1.b)], r3.1, r3.2⟩ (by omega) ⟨⟨⟨_, hT3, hs3, (hr1.ups (nwF_skel e.1)).ups (psF_skel _), by simp only; rw [hy3k, hyz, hye] at *; exact hd2, by simp only; rw [hdn, downN, hly]; simp only [List.map_append]; rw [hy3k, hyz, hye]; rfl⟩, (hsm.trans hsm2).trans hsm3, by simp only; intro e' he'; rcases List.mem_append.1 he' with he' | he'; exact (hon.same (hsm2.trans hsm3)) e' he'; (simp at he'; subst he'; exact (OnT.same (T := T1) (wy := [(x1.n.id, x1.b)]) (fun e he => by simp at he; subst he; exact ⟨i, x1, hi, rfl, rfl⟩) (hsm2.trans hsm3)) _ (by simp)), ⟨j, hy3⟩, by simp only; rw [hy3k, hyz]; omega, by simp only; rw [hy3k, hyz, List.length_append, List.length_singleton]; omega⟩, hrdy⟩)
  · skip
    intro K hK
    refine seqR (by kernel_rfl) ?_
    refine regionR 6 (by kernel_rfl) (by kernel_rfl) ?_
    refine (runR (H := (blk t 57 [.map (some mb)] :: mapS mb (T.map kp) :: (nodesL T ++ H))) (z := 2) 4 [0, 2, 3, 11] [(0, .pointer (some ⟨t, 0, none⟩)), (2, .int .i64 0), (3, .bool false), (11, .map (some mb))] [(⟨t, 0, none⟩, .map (some mb))] (hasC (blkAt (T := 57) (cs := [.map (some mb)]) 0 rfl rfl) has0) (fun _ => by kernel_rfl) ?_ : RT _ _ _ _ _ _ 6 _)
    refine (stepR (z := 1) (yldS (lookY 55 (.tmp 11) (.const (.int .i64 0)) false mb 0 (T.map kp) (.pointer none) (.pointer (some ⟨z0.b, 0, none⟩)) 3 50 (some 12) (fun _ => by kernel_rfl) (by kernel_rfl) (by kernel_rfl) (fun _ => by kernel_rfl) (fun _ => by kernel_rfl) Tryz.underlying55 (by kernel_rfl) (fun _ => by kernel_rfl) (mapAt (H := (blk t 57 [.map (some mb)] :: mapS mb (T.map kp) :: (nodesL T ++ H))) (i := 1) rfl) (by rw [lk_some hT hsk.nd hi0 hz0k]; rfl))) (fun _ => ?_) : RT _ _ _ _ _ _ 2 _)
    refine (run0 (z := 0) 1 [0, 2, 3, 4] [(0, .pointer (some ⟨t, 0, none⟩)), (2, .int .i64 0), (3, .bool false), (4, .pointer (some ⟨z0.b, 0, none⟩))] (fun _ => by kernel_rfl) (endR ?_) : RT _ _ _ _ _ _ 1 _)
    refine seqR (by kernel_rfl) ?_
    refine seqR (by kernel_rfl) ?_
    refine regionR 6 (by kernel_rfl) (by kernel_rfl) ?_
    refine (runR (H := (blk t 57 [.map (some mb)] :: mapS mb (T.map kp) :: (nodesL T ++ H))) (z := 0) 6 [0, 2, 3, 4, 18] [(0, .pointer (some ⟨t, 0, none⟩)), (2, .int .i64 0), (3, .bool false), (4, .pointer (some ⟨z0.b, 0, none⟩)), (18, .bool (!z0.n.rdy))] [(⟨z0.b, 5, none⟩, .bool z0.n.rdy)] (hasC (up (up (nodeAt (T := T) hz0m (j := 5) rfl))) has0) (fun _ => by kernel_rfl) (endR ?_) : RT _ _ _ _ _ _ 6 _)
    refine condR (b := !z0.n.rdy) (by kernel_rfl) (fun _ => by kernel_rfl) (fun h1 => ?_) (fun h1 => ?_)
    · skip
      have hrdy : r0.rdy = false := by rw [← hz0]; simpa using h1
      have hrn : runN N = ((0, false), N) := by rw [runN, hg0]; simp only [hrdy, Bool.false_eq_true, if_false]
      refine seqR (by kernel_rfl) ?_
      refine regionR 2 (by kernel_rfl) (by kernel_rfl) ?_
      refine (run0 (z := 0) 2 [0, 2, 3, 4] [(0, .pointer (some ⟨t, 0, none⟩)), (2, .int .i64 0), (3, .bool false), (4, .pointer (some ⟨z0.b, 0, none⟩))] (fun _ => by kernel_rfl) (endR ?_) : RT _ _ _ _ _ _ 2 _)
      refine retR (by kernel_rfl) ?_
      refine thenV ?_
      refine jumpV ?_
      refine done0 (.tuple #[.int .i64 0, .bool false]) (fun _ => by kernel_rfl) (fun w hs => ?_) .ret (.inr rfl)
      exact ⟨⟨T, by rw [hrn]; exact hT, SameT.refl T⟩, by show _ = Ending.returned (.tuple #[.int .i64 (runN N).1.1, .bool (runN N).1.2]); rw [hrn], hs⟩
    · skip
      have hrdy : r0.rdy = true := by rw [← hz0]; simpa using h1
      refine skipR (by kernel_rfl) ?_
      refine seqR (by kernel_rfl) ?_
      refine regionR 1 (by kernel_rfl) (by kernel_rfl) ?_
      refine (run0 (z := 0) 1 [0, 2, 3, 4, 5] [(0, .pointer (some ⟨t, 0, none⟩)), (2, .int .i64 0), (3, .bool false), (4, .pointer (some ⟨z0.b, 0, none⟩)), (5, .slice none 0 0)] (fun _ => by kernel_rfl) (endR ?_) : RT _ _ _ _ _ _ 1 _)
      refine seqR (by kernel_rfl) ?_
      refine labelR (by kernel_rfl) ?_
      refine PT.rowNil wE 50 ?_
      refine PT.keep (L' := [(0, .pointer (some ⟨t, 0, none⟩)), (4, .pointer (some ⟨z0.b, 0, none⟩)), (5, .slice none 0 0)]) [0, 4, 5] rfl ?_
      refine codeR (by kernel_rfl) (hK 6 ⟨T, z0, [], none, 0⟩ ⟨⟨⟨N, hT, hsk, hrk, hw.dn rk _, by simp only [hz0k]; rfl⟩, SameT.refl T, fun _ h => by simp at h, ⟨i0, hi0⟩, by simp only; rw [hz0k, ← hr00, (hrk _ hr0).1 hr00], by simp only; rw [hz0k, ← hr00, (hrk _ hr0).1 hr00]; rfl⟩, hrdy⟩)
end Go.Proofs.YtjbjngikaiggdaaGreat
