/- Texts put together: A world: New. A kernel's next number, behind each operation. A world's bounds; its actions as contracts. tontinehelp.Base. Comparing structs of whole numbers and bools. tontinelaw21.known. tontinelaw10.ready. Conditions: none. -/
import Derived.Test.YtfhkgohokbkgiaaGreatDoorMgWb5
import Derived.ChangeKeysEq
set_option linter.unusedVariables false
set_option linter.unusedSimpArgs false
namespace Go.Proofs.YtfhkgohokbkgiaaGreatDoor
open Go.RowKit G
theorem bp_ety : Ety Tryz.prog bpE 110 (.pointer none) := Ety.of (b := 8) (by kernel_rfl) (by decide) rfl
theorem close_side {sb kb rb xb pb : Nat} {y : DomV} {H : List SP} {v : World} (h : Sat v (blk sb 120 [.pointer (some ⟨kb, 0, none⟩), .pointer (some ⟨rb, 0, none⟩), .pointer (some ⟨xb, 0, none⟩), .pointer (some ⟨pb, 0, none⟩), .int .i64 0, .int .i64 0, .int .i64 0, .int .i64 0, .int .i64 0, .int .i64 0] :: kerS kb (k0 (mtOf y.threads) (mgOf y.groups)) :: rgS rb (rg0 y.ring) :: bxS xb (bx0 y.box) :: puS pb (sends y.sends) (sends y.sends) :: H)) : Sat v (sdS ⟨sb, kb, rb, xb, pb⟩ (sdOf y) :: H) := by
 have h1 := Sat.blkRows (E := scE) (T := 120) (xs := [.inl kb, .inl rb, .inl xb, .inl pb, .inr 0, .inr 0, .inr 0, .inr 0, .inr 0, .inr 0]) (by show 10 ≤ maxLen; decide) h
 have hok : SdOk (sdOf y) := ⟨rfl, sends_in _, sends_in _⟩
 exact Sat.closeMany (l := sdL ⟨sb, kb, rb, xb, pb⟩ (sdOf y)) (Sat.closePure hok h1)
theorem zip_snoc {P : List SdP} {s : List SdS} (h : P.length = s.length) (p : SdP) (x : SdS) : sdsL (P ++ [p]) (s ++ [x]) = sdsL P s ++ [sdS p x] := by
 unfold sdsL
 rw [List.zipWith_append h]
 rfl
theorem add_side {P : List SdP} {s : List SdS} (hl : P.length = s.length) {p : SdP} {x : SdS} {H : List SP} {v : World} (h : Sat v (sdS p x :: manyS (sdsL P s) :: H)) : Sat v (manyS (sdsL (P ++ [p]) (s ++ [x])) :: H) := by
 rw [zip_snoc hl]
 refine Sat.closeMany ?_
 have h1 := Sat.openMany (SatF.swap h)
 refine Sat.perm ?_ h1
 rw [List.append_assoc]
 exact (List.Perm.refl _)
def sds0 (c : ConfV) (u : Nat) : List SdS := (c.domains.l.take u).map sdOf
theorem sds0_succ {c : ConfV} {u : Nat} {y : DomV} (h : c.domains.l[u]? = some y) : sds0 c (u + 1) = sds0 c u ++ [sdOf y] := by
 unfold sds0
 rw [List.take_add_one, h, List.map_append]; rfl
theorem close_world {wb : Nat} {c : ConfV} {P : WP} {z : WS} {H : List SP} {v : World} (hp : P.s.length = z.s.length ∧ z.s.length = c.domains.l.length ∧ z.s.length ≤ 6) (h : Sat v (blk wb 109 [.int .i64 c.frame, .int .i64 c.epoch, .slice c.plans.a c.plans.l.length c.plans.c, .slice c.domains.a c.domains.l.length c.domains.c, .slice P.a P.s.length P.n, .pointer (some ⟨P.l, 0, none⟩), .pointer (some ⟨P.t, 0, none⟩)] :: row bpE 110 (.slice P.a P.s.length P.n) (P.s.map (·.b)) :: manyS (sdsL P.s z.s) :: ltS P.t c z.t :: ldS P.l z.l :: H)) : Sat v (wdS wb c P z :: H) := by
 refine Sat.closeMany (l := wdL wb c P z) ?_
 refine Sat.perm ?_ (Sat.closePure hp h)
 have e1 : ∀ (a b m t l p : SP), List.Perm (p :: a :: b :: m :: t :: l :: H) ([a, b, l, t, m, p] ++ H) := fun a b m t l p => by
  have h1 : List.Perm (p :: a :: b :: m :: t :: l :: H) ([a, b, m, t, l] ++ p :: H) := (List.perm_middle (a := p) (l₁ := [a, b, m, t, l]) (l₂ := H)).symm
  have h2 : List.Perm (m :: t :: l :: p :: H) (l :: t :: m :: p :: H) := (List.Perm.cons m (.swap l t _)).trans ((List.Perm.swap l m _).trans (.cons l (.swap t m _)))
  exact h1.trans ((h2.cons b).cons a)
 exact e1 _ _ _ _ _ _
set_option maxHeartbeats 2000000 in
set_option maxRecDepth 100000 in
theorem wnew_walk (H : List SP) (c : ConfV) (hk : KC H c) (hcl : c.domains.l.length ≤ 6) : ∀ v, Sat v H → Calls Tryz.prog 13 #[.agg #[vi c.frame, vi c.epoch, .slice c.plans.a c.plans.l.length c.plans.c, .slice c.domains.a c.domains.l.length c.domains.c]] v (Ret (ι := Nat × WP) (fun q => .pointer (some ⟨q.1, 0, none⟩)) fun q => wdS q.1 c q.2 (w0 c) :: H) := by
 refine enterG (fn := Tryz.f13) 49 [.agg #[vi c.frame, vi c.epoch, .slice c.plans.a c.plans.l.length c.plans.c, .slice c.domains.a c.domains.l.length c.domains.c]] Tryz.func13 (by kernel_rfl) (by kernel_rfl) (by kernel_rfl) ?_
 refine Xq (Xg 2 (Xs (Xn 26 [vi c.frame, vi c.epoch, .slice c.plans.a c.plans.l.length c.plans.c, .slice c.domains.a c.domains.l.length c.domains.c] (some 1) (fun b => vp b)) (fun b1 => ?_) 1))
 refine Xe [(1,vp b1), (2,.pointer none)] ?_ 1
 refine Xq (Xy0 0 [] 10 ?_)
 refine Xt [0, 1, 2, 3, 5] [(1,vp b1), (2,.pointer none), (6,.agg #[vi c.frame, vi c.epoch, .slice c.plans.a c.plans.l.length c.plans.c, .slice c.domains.a c.domains.l.length c.domains.c]), (9,vi (c.domains.l.length : Int)), (11,.agg #[vi c.frame, vi c.epoch, .slice c.plans.a c.plans.l.length c.plans.c, .slice c.domains.a c.domains.l.length c.domains.c])] [(⟨b1, 0, none⟩, vi c.frame), (⟨b1, 1, none⟩, vi c.epoch), (⟨b1, 2, none⟩, .slice c.plans.a c.plans.l.length c.plans.c), (⟨b1, 3, none⟩, .slice c.domains.a c.domains.l.length c.domains.c), (⟨b1, 3, none⟩, .slice c.domains.a c.domains.l.length c.domains.c), (⟨b1, 0, none⟩, vi c.frame), (⟨b1, 1, none⟩, vi c.epoch), (⟨b1, 2, none⟩, .slice c.plans.a c.plans.l.length c.plans.c), (⟨b1, 3, none⟩, .slice c.domains.a c.domains.l.length c.domains.c)] (hasC (ba 0) (hasC (ba 0) (hasC (ba 0) (hasC (ba 0) (hasC (ba 0) (hasC (ba 0) (hasC (ba 0) (hasC (ba 0) (hasC (ba 0) has0))))))))) ?_
 refine Xo 4 (Xa (some 10) (fun (lb : Nat) => vp lb) (ldnew_walk _ (c.domains.l.length : Int))) (fun (lb : Nat) => ?_)
 refine Xo 6 (Xa (some 12) (fun (tb : Nat) => vp tb) (ltnew_walk _ c (by omega))) (fun (tb : Nat) => ?_)
 refine Xt [7] [(1,vp b1), (2,.pointer none), (13,.agg #[vi c.frame, vi c.epoch, .slice c.plans.a c.plans.l.length c.plans.c, .slice c.domains.a c.domains.l.length c.domains.c, .slice none 0 0, vp lb, vp tb])] [] has0 ?_
 refine Xo 8 (Xn 109 [vi c.frame, vi c.epoch, .slice c.plans.a c.plans.l.length c.plans.c, .slice c.domains.a c.domains.l.length c.domains.c, .slice none 0 0, vp lb, vp tb] (some 14) (fun b => vp b)) (fun b2 => ?_)
 refine Xt [9] [(1,vp b1), (2,.pointer none), (3,vp b2)] [] has0 ?_
 refine Xd (Xq (Xq (Xg 4 (Xm [(2,.pointer none), (3,vp b2), (16,.slice c.domains.a c.domains.l.length c.domains.c), (17,vi (c.domains.l.length : Int)), (18,vi 0)] [(⟨b1, 3, none⟩, .slice c.domains.a c.domains.l.length c.domains.c)] (hasC (ba 3) has0) ?_ 4))))
 refine Xb 0 ?_
 refine PT.rowNil bpE 110 ?_
 refine PT.sat (fun w hs => Sat.closeMany (l := sdsL [] (sds0 c 0)) hs) ?_
 refine PT.pick 0 rfl ?_
 refine PT.pick 1 rfl ?_
 refine PT.pick 2 rfl ?_
 refine Xp [(2,.pointer none), (3,vp b2), (16,.slice c.domains.a c.domains.l.length c.domains.c), (17,vi (c.domains.l.length : Int)), (18,vi 0)] ?_
 refine loopG (fun (q : Option Addr × Nat × List SdP) => [(2, .pointer none), (3, vp b2), (16, .slice c.domains.a c.domains.l.length c.domains.c), (17, vi (c.domains.l.length : Int)), (18, vi (q.2.2.length : Int))]) (fun (q : Option Addr × Nat × List SdP) => (blk b2 109 [vi c.frame, vi c.epoch, .slice c.plans.a c.plans.l.length c.plans.c, .slice c.domains.a c.domains.l.length c.domains.c, .slice q.1 ((q.2.2.map (·.b)).length) q.2.1, vp lb, vp tb] :: row bpE 110 (.slice q.1 (q.2.2.map (·.b)).length q.2.1) (q.2.2.map (·.b)) :: manyS (sdsL q.2.2 (sds0 c q.2.2.length)) :: ltS tb c (lt0 c.domains.l.length) :: ldS lb (List.replicate (mnI (mxI (c.domains.l.length : Int) 1) 6).toNat ⟨0, 0, 0, 0⟩) :: blk b1 26 [vi c.frame, vi c.epoch, .slice c.plans.a c.plans.l.length c.plans.c, .slice c.domains.a c.domains.l.length c.domains.c] :: H)) (fun k (q : Option Addr × Nat × List SdP) => k + q.2.2.length = c.domains.l.length) c.domains.l.length (none, 0, []) (by kernel_rfl) (by simp) ?_
 rintro k ⟨qa, qc, P⟩ hku
 dsimp only at hku
 refine Xq (Xg 1 (Xe [(2,.pointer none), (3,vp b2), (16,.slice c.domains.a c.domains.l.length c.domains.c), (17,vi (c.domains.l.length : Int)), (18,vi (P.length : Int)), (19,.bool (decide ((P.length : Int) < (c.domains.l.length : Int))))] ?_ 1))
 refine Xq (Xc (decide ((P.length : Int) < (c.domains.l.length : Int))) (fun h1 => ?_) (fun h1 => ?_))
 ·skip
  have hu : P.length < c.domains.l.length := by have := of_decide_eq_true h1; omega
  obtain ⟨y, hy⟩ : ∃ y, c.domains.l[P.length]? = some y := ⟨_, List.getElem?_eq_getElem hu⟩
  have hs1 := sds0_succ hy
  have hs2 : (sds0 c P.length).length = P.length := by rw [sds0, List.length_map, List.length_take]; omega
  refine PT.know ((hk.domains).up.up.up.up.up.up.isSome ((by intro h9; rw [h9] at hu; simp at hu))) ?_
  rintro ⟨db, dd, hA⟩
  try rw [hA]
  refine Xk (Xq (Xb 1 (Xq (Xg 4 (Xs (yldS (Xi 24 (.tmp 16) (.tmp 18) db dd c.domains.l.length c.domains.c P.length 10 44 (P.length : Int) 20 Tryz.underlying24)) (fun _ => ?_) 3)))))
  refine Xl [(2,.pointer none), (3,vp b2), (16,.slice (some ⟨db, dd, none⟩) c.domains.l.length c.domains.c), (17,vi (c.domains.l.length : Int)), (18,vi (P.length : Int)), (21,.agg #[vi y.lab.level, .int .u64 y.lab.cats, .slice y.routes.a y.routes.l.length y.routes.c, .slice y.release.a y.release.l.length y.release.c, vi y.to, vi y.threads, vi y.groups, vi y.ring, vi y.sends, vi y.box])] [(⟨db, dd + P.length * 10, none⟩, vi y.lab.level), (⟨db, dd + P.length * 10 + 1, none⟩, .int .u64 y.lab.cats), (⟨db, dd + P.length * 10 + 2, none⟩, .slice y.routes.a y.routes.l.length y.routes.c), (⟨db, dd + P.length * 10 + 3, none⟩, .slice y.release.a y.release.l.length y.release.c), (⟨db, dd + P.length * 10 + 4, none⟩, vi y.to), (⟨db, dd + P.length * 10 + 5, none⟩, vi y.threads), (⟨db, dd + P.length * 10 + 6, none⟩, vi y.groups), (⟨db, dd + P.length * 10 + 7, none⟩, vi y.ring), (⟨db, dd + P.length * 10 + 8, none⟩, vi y.sends), (⟨db, dd + P.length * 10 + 9, none⟩, vi y.box)] (hasC (up (up (up (up (up (up (hk.domains.cell hA (i := P.length) (x := y) hy (j := 0) rfl))))))) (hasC (up (up (up (up (up (up (hk.domains.cell hA (i := P.length) (x := y) hy (j := 1) rfl))))))) (hasC (up (up (up (up (up (up (hk.domains.cell hA (i := P.length) (x := y) hy (j := 2) rfl))))))) (hasC (up (up (up (up (up (up (hk.domains.cell hA (i := P.length) (x := y) hy (j := 3) rfl))))))) (hasC (up (up (up (up (up (up (hk.domains.cell hA (i := P.length) (x := y) hy (j := 4) rfl))))))) (hasC (up (up (up (up (up (up (hk.domains.cell hA (i := P.length) (x := y) hy (j := 5) rfl))))))) (hasC (up (up (up (up (up (up (hk.domains.cell hA (i := P.length) (x := y) hy (j := 6) rfl))))))) (hasC (up (up (up (up (up (up (hk.domains.cell hA (i := P.length) (x := y) hy (j := 7) rfl))))))) (hasC (up (up (up (up (up (up (hk.domains.cell hA (i := P.length) (x := y) hy (j := 8) rfl))))))) (hasC (up (up (up (up (up (up (hk.domains.cell hA (i := P.length) (x := y) hy (j := 9) rfl))))))) has0)))))))))) ?_ 2 1
  refine Xs (Xn 44 [vi 0, .int .u64 0, .slice none 0 0, .slice none 0 0, vi 0, vi 0, vi 0, vi 0, vi 0, vi 0] (some 5) (fun b => vp b)) (fun b3 => ?_) 1
  refine Xs (Xz [(0,vi y.lab.level), (1,.int .u64 y.lab.cats), (2,.slice y.routes.a y.routes.l.length y.routes.c), (3,.slice y.release.a y.release.l.length y.release.c), (4,vi y.to), (5,vi y.threads), (6,vi y.groups), (7,vi y.ring), (8,vi y.sends), (9,vi y.box)]) (fun _ => ?_) 0
  refine endR ?_
  try rw [← hA]
  refine PT.pick 2 rfl ?_
  refine drawR (fun w => Sat w (blk b3 44 [.int .i64 y.lab.level, .int .u64 y.lab.cats, .slice y.routes.a y.routes.l.length y.routes.c, .slice y.release.a y.release.l.length y.release.c, .int .i64 y.to, .int .i64 y.threads, .int .i64 y.groups, .int .i64 y.ring, .int .i64 y.sends, .int .i64 y.box] :: blk b2 109 [.int .i64 c.frame, .int .i64 c.epoch, .slice c.plans.a c.plans.l.length c.plans.c, .slice c.domains.a c.domains.l.length c.domains.c, .slice qa ((P.map (·.b)).length) qc, .pointer (some ⟨lb, 0, none⟩), .pointer (some ⟨tb, 0, none⟩)] :: manyS (sdsL P (sds0 c P.length)) :: ltS tb c (lt0 c.domains.l.length) :: ldS lb (List.replicate (mnI (mxI (c.domains.l.length : Int) 1) 6).toNat ⟨0, 0, 0, 0⟩) :: blk b1 26 [.int .i64 c.frame, .int .i64 c.epoch, .slice c.plans.a c.plans.l.length c.plans.c, .slice c.domains.a c.domains.l.length c.domains.c] :: H)) [25] 26 (by kernel_rfl) (by kernel_rfl) (by kernel_rfl) (fun _ h => by first | exact h | exact h.tail | exact h.tail.tail | exact h.tail.tail.tail | exact h.tail.tail.tail.tail | exact h.tail.tail.tail.tail.tail | exact h.tail.tail.tail.tail.tail.tail | exact h.tail.tail.tail.tail.tail.tail.tail | exact h.tail.tail.tail.tail.tail.tail.tail.tail | exact h.tail.tail.tail.tail.tail.tail.tail.tail.tail | exact h.tail.tail.tail.tail.tail.tail.tail.tail.tail.tail | exact h.tail.tail.tail.tail.tail.tail.tail.tail.tail.tail.tail) ?_
  refine takesR [0, 1, 2, 3, 4, 5, 6, 7, 8, 10, 11, 13, 14, 16, 17] [2, 3, 16, 17, 18, 22, 26, 28, 30, 33, 36, 39] 11 [true, true, true, true, true, true, true, true, true, false, true, true, false, true, true, false, true, true, false, false, false, false, false, false, false, false] [(2, .pointer none), (3, .pointer (some ⟨b2, 0, none⟩)), (16, .slice c.domains.a c.domains.l.length c.domains.c), (17, .int .i64 (c.domains.l.length : Int)), (18, .int .i64 (P.length : Int)), (22, .pointer (some ⟨b2, 0, none⟩)), (26, .slice qa ((P.map (·.b)).length) qc), (28, .int .i64 y.threads), (30, .int .i64 y.groups), (33, .int .i64 y.ring), (36, .int .i64 y.box), (39, .int .i64 y.sends)] [(⟨b2, 4, none⟩, .slice qa ((P.map (·.b)).length) qc), (⟨b3, 5, none⟩, .int .i64 y.threads), (⟨b3, 6, none⟩, .int .i64 y.groups), (⟨b3, 7, none⟩, .int .i64 y.ring), (⟨b3, 9, none⟩, .int .i64 y.box), (⟨b3, 8, none⟩, .int .i64 y.sends)] rfl (fun _ d _ _ _ h => by cases d <;> exact h) (fun _ h => by first | exact h | exact h.tail | exact h.tail.tail | exact h.tail.tail.tail | exact h.tail.tail.tail.tail | exact h.tail.tail.tail.tail.tail | exact h.tail.tail.tail.tail.tail.tail | exact h.tail.tail.tail.tail.tail.tail.tail | exact h.tail.tail.tail.tail.tail.tail.tail.tail | exact h.tail.tail.tail.tail.tail.tail.tail.tail.tail | exact h.tail.tail.tail.tail.tail.tail.tail.tail.tail.tail | exact h.tail.tail.tail.tail.tail.tail.tail.tail.tail.tail.tail) (hasC (blkAt (T := 109) (cs := [.int .i64 c.frame, .int .i64 c.epoch, .slice c.plans.a c.plans.l.length c.plans.c, .slice c.domains.a c.domains.l.length c.domains.c, .slice qa ((P.map (·.b)).length) qc, .pointer (some ⟨lb, 0, none⟩), .pointer (some ⟨tb, 0, none⟩)]) 1 rfl rfl) (hasC (blkAt (T := 44) (cs := [.int .i64 y.lab.level, .int .u64 y.lab.cats, .slice y.routes.a y.routes.l.length y.routes.c, .slice y.release.a y.release.l.length y.release.c, .int .i64 y.to, .int .i64 y.threads, .int .i64 y.groups, .int .i64 y.ring, .int .i64 y.sends, .int .i64 y.box]) 0 rfl rfl) (hasC (blkAt (T := 44) (cs := [.int .i64 y.lab.level, .int .u64 y.lab.cats, .slice y.routes.a y.routes.l.length y.routes.c, .slice y.release.a y.release.l.length y.release.c, .int .i64 y.to, .int .i64 y.threads, .int .i64 y.groups, .int .i64 y.ring, .int .i64 y.sends, .int .i64 y.box]) 0 rfl rfl) (hasC (blkAt (T := 44) (cs := [.int .i64 y.lab.level, .int .u64 y.lab.cats, .slice y.routes.a y.routes.l.length y.routes.c, .slice y.release.a y.release.l.length y.release.c, .int .i64 y.to, .int .i64 y.threads, .int .i64 y.groups, .int .i64 y.ring, .int .i64 y.sends, .int .i64 y.box]) 0 rfl rfl) (hasC (blkAt (T := 44) (cs := [.int .i64 y.lab.level, .int .u64 y.lab.cats, .slice y.routes.a y.routes.l.length y.routes.c, .slice y.release.a y.release.l.length y.release.c, .int .i64 y.to, .int .i64 y.threads, .int .i64 y.groups, .int .i64 y.ring, .int .i64 y.sends, .int .i64 y.box]) 0 rfl rfl) (hasC (blkAt (T := 44) (cs := [.int .i64 y.lab.level, .int .u64 y.lab.cats, .slice y.routes.a y.routes.l.length y.routes.c, .slice y.release.a y.release.l.length y.release.c, .int .i64 y.to, .int .i64 y.threads, .int .i64 y.groups, .int .i64 y.ring, .int .i64 y.sends, .int .i64 y.box]) 0 rfl rfl) has0)))))) (fun _ => by kernel_rfl) ?_
  refine oneR 9 10 [true, true, true, true, true, true, true, true, true, true, true, true, false, true, true, false, true, true, false, false, false, false, false, false, false, false] rfl rfl (by kernel_rfl) (callS 43 [.int .i64 y.threads, .int .i64 y.groups] (some 31) (fun (kb : Nat) => .pointer (some ⟨kb, 0, none⟩)) (fun (kb : Nat) => (kerS kb (k0 (mtOf y.threads) (mgOf y.groups)) :: row bpE 110 (.slice qa (P.map (·.b)).length qc) (P.map (·.b)) :: blk b3 44 [.int .i64 y.lab.level, .int .u64 y.lab.cats, .slice y.routes.a y.routes.l.length y.routes.c, .slice y.release.a y.release.l.length y.release.c, .int .i64 y.to, .int .i64 y.threads, .int .i64 y.groups, .int .i64 y.ring, .int .i64 y.sends, .int .i64 y.box] :: blk b2 109 [.int .i64 c.frame, .int .i64 c.epoch, .slice c.plans.a c.plans.l.length c.plans.c, .slice c.domains.a c.domains.l.length c.domains.c, .slice qa ((P.map (·.b)).length) qc, .pointer (some ⟨lb, 0, none⟩), .pointer (some ⟨tb, 0, none⟩)] :: manyS (sdsL P (sds0 c P.length)) :: ltS tb c (lt0 c.domains.l.length) :: ldS lb (List.replicate (mnI (mxI (c.domains.l.length : Int) 1) 6).toNat ⟨0, 0, 0, 0⟩) :: blk b1 26 [.int .i64 c.frame, .int .i64 c.epoch, .slice c.plans.a c.plans.l.length c.plans.c, .slice c.domains.a c.domains.l.length c.domains.c] :: H)) (fun _ => by kernel_rfl) (knew_walk _ y.threads y.groups)) (fun _ _ h hn => by first | exact h | exact h.tail | exact h.tail.tail | exact h.tail.tail.tail | exact h.tail.tail.tail.tail | exact h.tail.tail.tail.tail.tail | exact h.tail.tail.tail.tail.tail.tail | exact h.tail.tail.tail.tail.tail.tail.tail | exact h.tail.tail.tail.tail.tail.tail.tail.tail | exact h.tail.tail.tail.tail.tail.tail.tail.tail.tail | exact h.tail.tail.tail.tail.tail.tail.tail.tail.tail.tail | exact h.tail.tail.tail.tail.tail.tail.tail.tail.tail.tail.tail | exact absurd hn (by decide)) (fun (kb : Nat) => ?_)
  refine oneR 12 9 [true, true, true, true, true, true, true, true, true, true, true, true, true, true, true, false, true, true, false, false, false, false, false, false, false, false] rfl rfl (by kernel_rfl) (callS 44 [.int .i64 y.ring] (some 34) (fun (rb : Nat) => .pointer (some ⟨rb, 0, none⟩)) (fun (rb : Nat) => (rgS rb (rg0 y.ring) :: kerS kb (k0 (mtOf y.threads) (mgOf y.groups)) :: row bpE 110 (.slice qa (P.map (·.b)).length qc) (P.map (·.b)) :: blk b3 44 [.int .i64 y.lab.level, .int .u64 y.lab.cats, .slice y.routes.a y.routes.l.length y.routes.c, .slice y.release.a y.release.l.length y.release.c, .int .i64 y.to, .int .i64 y.threads, .int .i64 y.groups, .int .i64 y.ring, .int .i64 y.sends, .int .i64 y.box] :: blk b2 109 [.int .i64 c.frame, .int .i64 c.epoch, .slice c.plans.a c.plans.l.length c.plans.c, .slice c.domains.a c.domains.l.length c.domains.c, .slice qa ((P.map (·.b)).length) qc, .pointer (some ⟨lb, 0, none⟩), .pointer (some ⟨tb, 0, none⟩)] :: manyS (sdsL P (sds0 c P.length)) :: ltS tb c (lt0 c.domains.l.length) :: ldS lb (List.replicate (mnI (mxI (c.domains.l.length : Int) 1) 6).toNat ⟨0, 0, 0, 0⟩) :: blk b1 26 [.int .i64 c.frame, .int .i64 c.epoch, .slice c.plans.a c.plans.l.length c.plans.c, .slice c.domains.a c.domains.l.length c.domains.c] :: H)) (fun _ => by kernel_rfl) (rgnew_walk _ y.ring)) (fun _ _ h hn => by first | exact h | exact h.tail | exact h.tail.tail | exact h.tail.tail.tail | exact h.tail.tail.tail.tail | exact h.tail.tail.tail.tail.tail | exact h.tail.tail.tail.tail.tail.tail | exact h.tail.tail.tail.tail.tail.tail.tail | exact h.tail.tail.tail.tail.tail.tail.tail.tail | exact h.tail.tail.tail.tail.tail.tail.tail.tail.tail | exact h.tail.tail.tail.tail.tail.tail.tail.tail.tail.tail | exact h.tail.tail.tail.tail.tail.tail.tail.tail.tail.tail.tail | exact absurd hn (by decide)) (fun (rb : Nat) => ?_)
  refine oneR 15 8 [true, true, true, true, true, true, true, true, true, true, true, true, true, true, true, true, true, true, false, false, false, false, false, false, false, false] rfl rfl (by kernel_rfl) (callS 45 [.int .i64 y.box] (some 37) (fun (xb : Nat) => .pointer (some ⟨xb, 0, none⟩)) (fun (xb : Nat) => (bxS xb (bx0 y.box) :: rgS rb (rg0 y.ring) :: kerS kb (k0 (mtOf y.threads) (mgOf y.groups)) :: row bpE 110 (.slice qa (P.map (·.b)).length qc) (P.map (·.b)) :: blk b3 44 [.int .i64 y.lab.level, .int .u64 y.lab.cats, .slice y.routes.a y.routes.l.length y.routes.c, .slice y.release.a y.release.l.length y.release.c, .int .i64 y.to, .int .i64 y.threads, .int .i64 y.groups, .int .i64 y.ring, .int .i64 y.sends, .int .i64 y.box] :: blk b2 109 [.int .i64 c.frame, .int .i64 c.epoch, .slice c.plans.a c.plans.l.length c.plans.c, .slice c.domains.a c.domains.l.length c.domains.c, .slice qa ((P.map (·.b)).length) qc, .pointer (some ⟨lb, 0, none⟩), .pointer (some ⟨tb, 0, none⟩)] :: manyS (sdsL P (sds0 c P.length)) :: ltS tb c (lt0 c.domains.l.length) :: ldS lb (List.replicate (mnI (mxI (c.domains.l.length : Int) 1) 6).toNat ⟨0, 0, 0, 0⟩) :: blk b1 26 [.int .i64 c.frame, .int .i64 c.epoch, .slice c.plans.a c.plans.l.length c.plans.c, .slice c.domains.a c.domains.l.length c.domains.c] :: H)) (fun _ => by kernel_rfl) (bxnew_walk _ y.box)) (fun _ _ h hn => by first | exact h | exact h.tail | exact h.tail.tail | exact h.tail.tail.tail | exact h.tail.tail.tail.tail | exact h.tail.tail.tail.tail.tail | exact h.tail.tail.tail.tail.tail.tail | exact h.tail.tail.tail.tail.tail.tail.tail | exact h.tail.tail.tail.tail.tail.tail.tail.tail | exact h.tail.tail.tail.tail.tail.tail.tail.tail.tail | exact h.tail.tail.tail.tail.tail.tail.tail.tail.tail.tail | exact h.tail.tail.tail.tail.tail.tail.tail.tail.tail.tail.tail | exact absurd hn (by decide)) (fun (xb : Nat) => ?_)
  refine oneR 18 7 [true, true, true, true, true, true, true, true, true, true, true, true, true, true, true, true, true, true, true, false, false, false, false, false, false, false] rfl rfl (by kernel_rfl) (callS 46 [.int .i64 y.sends] (some 40) (fun (pb : Nat) => .pointer (some ⟨pb, 0, none⟩)) (fun (pb : Nat) => (puS pb (sends y.sends) (sends y.sends) :: bxS xb (bx0 y.box) :: rgS rb (rg0 y.ring) :: kerS kb (k0 (mtOf y.threads) (mgOf y.groups)) :: row bpE 110 (.slice qa (P.map (·.b)).length qc) (P.map (·.b)) :: blk b3 44 [.int .i64 y.lab.level, .int .u64 y.lab.cats, .slice y.routes.a y.routes.l.length y.routes.c, .slice y.release.a y.release.l.length y.release.c, .int .i64 y.to, .int .i64 y.threads, .int .i64 y.groups, .int .i64 y.ring, .int .i64 y.sends, .int .i64 y.box] :: blk b2 109 [.int .i64 c.frame, .int .i64 c.epoch, .slice c.plans.a c.plans.l.length c.plans.c, .slice c.domains.a c.domains.l.length c.domains.c, .slice qa ((P.map (·.b)).length) qc, .pointer (some ⟨lb, 0, none⟩), .pointer (some ⟨tb, 0, none⟩)] :: manyS (sdsL P (sds0 c P.length)) :: ltS tb c (lt0 c.domains.l.length) :: ldS lb (List.replicate (mnI (mxI (c.domains.l.length : Int) 1) 6).toNat ⟨0, 0, 0, 0⟩) :: blk b1 26 [.int .i64 c.frame, .int .i64 c.epoch, .slice c.plans.a c.plans.l.length c.plans.c, .slice c.domains.a c.domains.l.length c.domains.c] :: H)) (fun _ => by kernel_rfl) (punew_walk _ y.sends)) (fun _ _ h hn => by first | exact h | exact h.tail | exact h.tail.tail | exact h.tail.tail.tail | exact h.tail.tail.tail.tail | exact h.tail.tail.tail.tail.tail | exact h.tail.tail.tail.tail.tail.tail | exact h.tail.tail.tail.tail.tail.tail.tail | exact h.tail.tail.tail.tail.tail.tail.tail.tail | exact h.tail.tail.tail.tail.tail.tail.tail.tail.tail | exact h.tail.tail.tail.tail.tail.tail.tail.tail.tail.tail | exact h.tail.tail.tail.tail.tail.tail.tail.tail.tail.tail.tail | exact absurd hn (by decide)) (fun (pb : Nat) => ?_)
  refine takesR [19] [2, 3, 16, 17, 18, 22, 26, 41] 6 [true, true, true, true, true, true, true, true, true, true, true, true, true, true, true, true, true, true, true, true, false, false, false, false, false, false] [(2, .pointer none), (3, .pointer (some ⟨b2, 0, none⟩)), (16, .slice c.domains.a c.domains.l.length c.domains.c), (17, .int .i64 (c.domains.l.length : Int)), (18, .int .i64 (P.length : Int)), (22, .pointer (some ⟨b2, 0, none⟩)), (26, .slice qa ((P.map (·.b)).length) qc), (41, .agg #[.pointer (some ⟨kb, 0, none⟩), .pointer (some ⟨rb, 0, none⟩), .pointer (some ⟨xb, 0, none⟩), .pointer (some ⟨pb, 0, none⟩), .int .i64 0, .int .i64 0, .int .i64 0, .int .i64 0, .int .i64 0, .int .i64 0])] [] rfl (fun _ d _ _ _ h => by cases d <;> exact h) (fun _ h => by first | exact h | exact h.tail | exact h.tail.tail | exact h.tail.tail.tail | exact h.tail.tail.tail.tail | exact h.tail.tail.tail.tail.tail | exact h.tail.tail.tail.tail.tail.tail | exact h.tail.tail.tail.tail.tail.tail.tail | exact h.tail.tail.tail.tail.tail.tail.tail.tail | exact h.tail.tail.tail.tail.tail.tail.tail.tail.tail | exact h.tail.tail.tail.tail.tail.tail.tail.tail.tail.tail | exact h.tail.tail.tail.tail.tail.tail.tail.tail.tail.tail.tail) has0 (fun _ => by kernel_rfl) ?_
  refine oneR 20 5 [true, true, true, true, true, true, true, true, true, true, true, true, true, true, true, true, true, true, true, true, true, false, false, false, false, false] rfl rfl (by kernel_rfl) (newS 120 [.pointer (some ⟨kb, 0, none⟩), .pointer (some ⟨rb, 0, none⟩), .pointer (some ⟨xb, 0, none⟩), .pointer (some ⟨pb, 0, none⟩), .int .i64 0, .int .i64 0, .int .i64 0, .int .i64 0, .int .i64 0, .int .i64 0] (some 42) (fun b => .pointer (some ⟨b, 0, none⟩)) (fun _ _ => by kernel_rfl)) (fun _ _ h hn => by first | exact h | exact h.tail | exact h.tail.tail | exact h.tail.tail.tail | exact h.tail.tail.tail.tail | exact h.tail.tail.tail.tail.tail | exact h.tail.tail.tail.tail.tail.tail | exact h.tail.tail.tail.tail.tail.tail.tail | exact h.tail.tail.tail.tail.tail.tail.tail.tail | exact h.tail.tail.tail.tail.tail.tail.tail.tail.tail | exact h.tail.tail.tail.tail.tail.tail.tail.tail.tail.tail | exact h.tail.tail.tail.tail.tail.tail.tail.tail.tail.tail.tail | exact absurd hn (by decide)) (fun b4 => ?_)
  refine oneR 21 4 [true, true, true, true, true, true, true, true, true, true, true, true, true, true, true, true, true, true, true, true, true, true, false, false, false, false] rfl rfl (by kernel_rfl) (newS 110 [.pointer (some ⟨b4, 0, none⟩)] (some 43) (fun b => .slice (some ⟨b, 0, none⟩) 1 1) (fun _ _ => by kernel_rfl)) (fun _ _ h hn => by first | exact h | exact h.tail | exact h.tail.tail | exact h.tail.tail.tail | exact h.tail.tail.tail.tail | exact h.tail.tail.tail.tail.tail | exact h.tail.tail.tail.tail.tail.tail | exact h.tail.tail.tail.tail.tail.tail.tail | exact h.tail.tail.tail.tail.tail.tail.tail.tail | exact h.tail.tail.tail.tail.tail.tail.tail.tail.tail | exact h.tail.tail.tail.tail.tail.tail.tail.tail.tail.tail | exact h.tail.tail.tail.tail.tail.tail.tail.tail.tail.tail.tail | exact absurd hn (by decide)) (fun b5 => ?_)
  refine DT.pick 6 rfl ?_
  refine oneR 22 3 [true, true, true, true, true, true, true, true, true, true, true, true, true, true, true, true, true, true, true, true, true, true, true, false, false, false] rfl rfl (by kernel_rfl) (appS (E := bpE) 107 (.tmp 26) (.tmp 43) qa qc (P.map (·.b)) [b4] (.slice (some ⟨b5, 0, none⟩) 1 1) (some 44) (fun _ => by kernel_rfl) (by kernel_rfl) (by kernel_rfl) (fun _ => by kernel_rfl) (fun _ => by kernel_rfl) Tryz.underlying107 (bp_ety) (blkRd (x := b4) 1 rfl) (by simp; omega)) (fun _ _ h hn => by first | exact h | exact h.tail | exact h.tail.tail | exact h.tail.tail.tail | exact h.tail.tail.tail.tail | exact h.tail.tail.tail.tail.tail | exact h.tail.tail.tail.tail.tail.tail | exact h.tail.tail.tail.tail.tail.tail.tail | exact h.tail.tail.tail.tail.tail.tail.tail.tail | exact h.tail.tail.tail.tail.tail.tail.tail.tail.tail | exact h.tail.tail.tail.tail.tail.tail.tail.tail.tail.tail | exact h.tail.tail.tail.tail.tail.tail.tail.tail.tail.tail.tail | exact absurd hn (by decide)) (fun r6 => ?_)
  refine takesR [23, 24] [44, 2, 3, 16, 17, 18, 46] 1 [true, true, true, true, true, true, true, true, true, true, true, true, true, true, true, true, true, true, true, true, true, true, true, true, true, false] [(44, .slice r6.1 (((P.map (·.b)) ++ [b4]).length) r6.2), (2, .pointer none), (3, .pointer (some ⟨b2, 0, none⟩)), (16, .slice c.domains.a c.domains.l.length c.domains.c), (17, .int .i64 (c.domains.l.length : Int)), (18, .int .i64 (P.length : Int)), (46, .pointer (some ⟨b2, 4, none⟩))] [] rfl (fun _ d _ _ _ h => by cases d <;> exact h) (fun _ h => by first | exact h | exact h.tail | exact h.tail.tail | exact h.tail.tail.tail | exact h.tail.tail.tail.tail | exact h.tail.tail.tail.tail.tail | exact h.tail.tail.tail.tail.tail.tail | exact h.tail.tail.tail.tail.tail.tail.tail | exact h.tail.tail.tail.tail.tail.tail.tail.tail | exact h.tail.tail.tail.tail.tail.tail.tail.tail.tail | exact h.tail.tail.tail.tail.tail.tail.tail.tail.tail.tail | exact h.tail.tail.tail.tail.tail.tail.tail.tail.tail.tail.tail) has0 (fun _ => by kernel_rfl) ?_
  refine DT.pick 8 rfl ?_
  refine oneR 25 0 [true, true, true, true, true, true, true, true, true, true, true, true, true, true, true, true, true, true, true, true, true, true, true, true, true, true] rfl rfl (by kernel_rfl) (storeS [(4, .slice r6.1 (((P.map (·.b)) ++ [b4]).length) r6.2)] [.int .i64 c.frame, .int .i64 c.epoch, .slice c.plans.a c.plans.l.length c.plans.c, .slice c.domains.a c.domains.l.length c.domains.c, .slice r6.1 (((P.map (·.b)) ++ [b4]).length) r6.2, .pointer (some ⟨lb, 0, none⟩), .pointer (some ⟨tb, 0, none⟩)] (fun _ => by kernel_rfl) (by kernel_rfl) (by kernel_rfl)) (fun _ _ h hn => by first | exact h | exact h.tail | exact h.tail.tail | exact h.tail.tail.tail | exact h.tail.tail.tail.tail | exact h.tail.tail.tail.tail.tail | exact h.tail.tail.tail.tail.tail.tail | exact h.tail.tail.tail.tail.tail.tail.tail | exact h.tail.tail.tail.tail.tail.tail.tail.tail | exact h.tail.tail.tail.tail.tail.tail.tail.tail.tail | exact h.tail.tail.tail.tail.tail.tail.tail.tail.tail.tail | exact h.tail.tail.tail.tail.tail.tail.tail.tail.tail.tail.tail | exact absurd hn (by decide)) (fun _ => ?_)
  refine Xd (Xg 2 (Xe [(2,.pointer none), (3,vp b2), (16,.slice c.domains.a c.domains.l.length c.domains.c), (17,vi (c.domains.l.length : Int)), (18,vi (IntKind.i64.wrap ((P.length : Int) + 1)))] ?_ 2))
  rw [show IntKind.i64.wrap ((P.length : Int) + 1) = ((P.length + 1 : Nat) : Int) by rw [IntKind.wrap_i64]; omega]
  rw [show ((P.map (·.b)) ++ [b4]) = ((P ++ [(⟨b4, kb, rb, xb, pb⟩ : SdP)]).map (·.b)) by simp]
  refine PT.pick 8 rfl ?_
  refine PT.drop ?_
  refine PT.pick 2 rfl ?_
  refine PT.drop ?_
  refine PT.pick 1 rfl ?_
  refine PT.pick 1 rfl ?_
  refine PT.pick 7 rfl ?_
  refine PT.pick 4 rfl ?_
  refine PT.pick 5 rfl ?_
  refine PT.pick 6 rfl ?_
  refine PT.pick 7 rfl ?_
  refine PT.pick 7 rfl ?_
  refine PT.sat (fun w hs => add_side hs2.symm (close_side hs)) ?_
  rw [← hs1]
  refine PT.pick 0 rfl ?_
  refine PT.pick 2 rfl ?_
  refine PT.pick 2 rfl ?_
  refine Xp [(2,.pointer none), (3,vp b2), (16,.slice c.domains.a c.domains.l.length c.domains.c), (17,vi (c.domains.l.length : Int)), (18,vi ((P.length + 1 : Nat) : Int))] ?_
  exact againG (k - 1) (r6.1, r6.2, P ++ [(⟨b4, kb, rb, xb, pb⟩ : SdP)]) (by simp) (by simp) (by omega) (by simp; omega)
 ·skip
  have hu : P.length = c.domains.l.length := by have := of_decide_eq_false h1; omega
  refine Xx 0 (thenX (thenX (leaveR (Xq (Xg 2 (Xe [(2,vp b2)] ?_ 2))))))
  refine Xv (Y0 (vp b2) (fun w hs => ?_))
  exact ⟨(b2, ⟨lb, tb, qa, qc, P⟩), rfl, by
   have h9 : sds0 c P.length = (w0 c).s := by rw [sds0, hu, List.take_length]; rfl
   rw [h9, List.length_map] at hs
   have h8 := Sat.erase 5 rfl hs
   exact close_world (P := ⟨lb, tb, qa, qc, P⟩) (z := w0 c) ⟨by simp [w0, hu], by simp [w0], by simp [w0]; omega⟩ h8⟩
end Go.Proofs.YtfhkgohokbkgiaaGreatDoor
set_option linter.unusedVariables false
set_option linter.unusedSimpArgs false
namespace Go.Proofs.YtfhkgohokbkgiaaGreatDoor
open Go.RowKit G
theorem kwait_nx (s : KS) (id j : Int) : (kwait s id j).2.nx = s.nx := by unfold kwait; split; rfl; split <;> rfl
theorem ksleep_nx (s : KS) (id j : Int) : (ksleep s id j).2.nx = s.nx := by unfold ksleep; split <;> rfl
theorem ksignal_nx (s : KS) (j : Int) : (ksignal s j).2.nx = s.nx := by unfold ksignal; split <;> rfl
theorem kexit_nx (s : KS) (id : Int) : (kexit s id).2.nx = s.nx := by unfold kexit; split <;> rfl
theorem kadds_nx (s : KS) (par wt most : Int) (thr : Bool) : (kadds s par wt most thr).2.nx ≤ s.nx + 1 := by
  unfold kadds
  split
  · show s.nx ≤ _; omega
  · split
    · show s.nx ≤ _; omega
    · split
      · show s.nx ≤ _; omega
      · split
        · show s.nx ≤ _; omega
        · exact Int.le_refl _
theorem kspawn_nx (s : KS) (par wt : Int) : (kspawn s par wt).2.nx ≤ s.nx + 1 := by
  have := kadds_nx s par wt s.mt true
  unfold kspawn
  split
  · exact this
  · exact this
end Go.Proofs.YtfhkgohokbkgiaaGreatDoor
set_option linter.unusedVariables false
set_option linter.unusedSimpArgs false
namespace Go.Proofs.YtfhkgohokbkgiaaGreatDoor
open Go.RowKit G
def SdB (m : Int) (x : SdS) : Prop := (x.b.l.length : Int) ≤ m ∧ x.k.nx ≤ m
def WdB (z : WS) (m : Int) : Prop := ∀ x ∈ z.s, SdB m x
theorem SdB.mono {x : SdS} {m n : Int} (h : SdB m x) (hm : m ≤ n) : SdB n x := ⟨by have := h.1; omega, by have := h.2; omega⟩
theorem WdB.mono {z : WS} {m n : Int} (h : WdB z m) (hm : m ≤ n) : WdB z n := fun x hx => (h x hx).mono hm
theorem WdB.up {z : WS} {m : Int} (h : WdB z m) (d : Nat) {x : SdS} (hx : SdB m x) : WdB (wUp z d x) m := fun y hy => by
  rcases List.mem_or_eq_of_mem_set hy with h1 | rfl
  · exact h y h1
  · exact hx
theorem sdAt_B {z : WS} {m : Int} (h : WdB z m) (hm : 0 ≤ m) (d : Nat) : SdB m (sdAt z d) := by
  unfold sdAt
  rw [List.getD_eq_getElem?_getD]
  by_cases c : d < z.s.length
  · rw [List.getElem?_eq_getElem c]; exact h _ (List.getElem_mem c)
  · rw [List.getElem?_eq_none (by omega)]; exact ⟨hm, hm⟩
theorem w0_B (c : ConfV) : WdB (w0 c) 2 := fun x hx => by
  simp only [w0, List.mem_map] at hx
  obtain ⟨y, _, rfl⟩ := hx
  exact ⟨by simp [sdOf, bx0], kspawn_nx _ 0 1⟩
theorem kgroup_nx (s : KS) (par wt : Int) : (kgroup s par wt).2.nx ≤ s.nx + 1 := kadds_nx s par wt s.mg false
theorem kweight_nx (s : KS) (id W : Int) : (kweight s id W).2.nx = s.nx := rfl
theorem kAct_nx (k : KS) (tick th op a b : Int) : (kAct k tick th op a b).2.nx ≤ k.nx + 1 := by
  unfold kAct
  split
  · exact kspawn_nx k a b
  split
  · exact kgroup_nx k a b
  split
  · show (kexit k th).2.nx ≤ _; rw [kexit_nx]; omega
  split
  · split
    · show k.nx ≤ _; omega
    · show (ksleep k th _).2.nx ≤ _; rw [ksleep_nx]; omega
  split
  · show (kwait k th a).2.nx ≤ _; rw [kwait_nx]; omega
  split
  · show (ksignal k a).2.nx ≤ _; rw [ksignal_nx]; omega
  split
  · show (kweight k a b).2.nx ≤ _; rw [kweight_nx]; omega
  · show k.nx ≤ _; omega
theorem bxPut_up (x : BxS) (d v : Int) : ((bxPut x d v).l.length : Int) ≤ x.l.length + 1 := by
  unfold bxPut
  split
  · omega
  · simp
theorem wDoes_B {c : ConfV} {z : WS} {m : Int} (h : WdB z m) (hm : 0 ≤ m) (tick : Int) (d : Nat) (th op a b : Int) : WdB (wDoes c z tick d th op a b).2 (m + 1) := by
  have hx := sdAt_B h hm d
  have h1 : WdB z (m + 1) := h.mono (by omega)
  have hx1 : SdB (m + 1) (sdAt z d) := hx.mono (by omega)
  unfold wDoes
  split
  · exact h1
  split
  · exact h1
  split
  · unfold wAudit; split
    · split
      · exact h1.up d ⟨hx1.1, hx1.2⟩
      · exact h1
    · exact h1
  split
  · unfold wSend; split
    · split
      · exact h1
      · have h2 : WdB (wPay z d) m := h.up d ⟨hx.1, hx.2⟩
        have h3 := sdAt_B h2 hm a.toNat
        refine (h2.mono (by omega : m ≤ m + 1)).up a.toNat ⟨?_, by have := h3.2; show (sdAt (wPay z d) a.toNat).k.nx ≤ m + 1; omega⟩
        have := bxPut_up (sdAt (wPay z d) a.toNat).b d b
        have := h3.1
        show (((bxPut (sdAt (wPay z d) a.toNat).b d b).l.length : Nat) : Int) ≤ m + 1
        omega
    · exact h1
  split
  · unfold wRecv; split
    · refine h1.up d ⟨?_, hx1.2⟩
      have := hx1.1
      show (((sdAt z d).b.l.drop 1).length : Int) ≤ m + 1
      rw [List.length_drop]; omega
    · exact h1
  split
  · unfold wLevel; split <;> exact h1
  split
  · unfold wPlan; split <;> exact h1
  · refine h1.up d ⟨hx1.1, ?_⟩
    have := kAct_nx (sdAt z d).k tick th op a b
    have := hx.2
    show (kAct (sdAt z d).k tick th op a b).2.nx ≤ m + 1
    omega
theorem wAct_B {c : ConfV} {z : WS} {m : Int} (h : WdB z m) (hm : 0 ≤ m) (tick : Int) (d : Nat) (th op a b : Int) : WdB (wAct c z tick d th op a b).2 (m + 1) := by
  unfold wAct
  split
  · exact h.mono (by omega)
  · have h1 := wDoes_B (c := c) h hm tick d th op a b
    show WdB (wKeep _ _ _ _ _) _
    unfold wKeep
    split
    · have h2 := sdAt_B h1 (by omega) d
      exact h1.up d ⟨h2.1, h2.2⟩
    · exact h1
theorem wEpoch_B {z : WS} {m : Int} (h : WdB z m) : WdB (wEpoch z) m := fun x hx => by
  simp only [wEpoch, List.mem_map] at hx
  obtain ⟨y, hy, rfl⟩ := hx
  exact ⟨(h y hy).1, (h y hy).2⟩
theorem wAct_len (c : ConfV) (z : WS) (tick : Int) (d : Nat) (th op a b : Int) : (wAct c z tick d th op a b).2.s.length = z.s.length := by
  unfold wAct
  split
  · rfl
  · show (wKeep _ _ _ _ _).s.length = _
    unfold wKeep
    split
    · rw [wUp_len, wDoes_len]
    · exact wDoes_len _ _ _ _ _ _ _ _
section
variable (H : List SP) (wb : Nat) (c : ConfV) (P : WP) (z : WS)
theorem wAct_c (hE : EK H) (hk : KC H c) (m : Int) (hB : WdB z m) (hm : m < 100000) (tick th op a b : Int) (d : Nat) (hd : d < c.domains.l.length) : ∀ v, Sat v (wdS wb c P z :: H) → Calls Tryz.prog 14 #[.pointer (some ⟨wb, 0, none⟩), .int .i64 tick, .int .i64 (d : Int), .int .i64 th, .agg #[.int .i64 op, .int .i64 a, .int .i64 b]] v (Ret (ι := Unit) (fun _ => .tuple #[.agg #[.int .i64 (wAct c z tick d th op a b).1.1.1, .int .i64 (wAct c z tick d th op a b).1.1.2.1, .int .i64 (wAct c z tick d th op a b).1.1.2.2], .bool (wAct c z tick d th op a b).1.2]) fun _ => wdS wb c P (wAct c z tick d th op a b).2 :: H) := fun v hs => by
  obtain ⟨p, x, hp, hx⟩ := wd_get 0 rfl hd v hs
  obtain ⟨h1, h2, h3⟩ := wd_len 0 rfl v hs
  have hxB := hB x (List.mem_of_getElem? hx)
  exact wact_walk H hE wb c P z hk (by omega) (fun y hy => by have := (hB y hy).1; omega) d p x hp hx (by omega) (by have := hxB.2; omega) tick th op a b v hs
theorem wEpoch_c : ∀ v, Sat v (wdS wb c P z :: H) → Calls Tryz.prog 20 #[.pointer (some ⟨wb, 0, none⟩)] v (Ret (ι := Unit) (fun _ => .tuple #[]) fun _ => wdS wb c P (wEpoch z) :: H) := fun v hs => by
  obtain ⟨h1, h2, h3⟩ := wd_len 0 rfl v hs
  exact wepoch_walk H wb c P z (by omega) v hs
theorem wRecords_c (d : Nat) (hd : d < c.domains.l.length) : ∀ v, Sat v (wdS wb c P z :: H) → Calls Tryz.prog 15 #[.pointer (some ⟨wb, 0, none⟩), .int .i64 (d : Int)] v (Ret (ι := Option Addr × Nat) (fun q => .slice q.1 (sdAt z d).r.l.length q.2) fun q => row reE 48 (.slice q.1 (sdAt z d).r.l.length q.2) (sdAt z d).r.l :: wdS wb c P z :: H) := fun v hs => by
  obtain ⟨p, x, hp, hx⟩ := wd_get 0 rfl hd v hs
  obtain ⟨h1, h2, h3⟩ := wd_len 0 rfl v hs
  rw [sdAt_of hx]
  exact wrecords_walk H wb c P z d p x hp hx (by omega) v hs
theorem wKernel_c (d : Nat) (p : SdP) (hp : P.s[d]? = some p) : ∀ v, Sat v (wdS wb c P z :: H) → Calls Tryz.prog 25 #[.pointer (some ⟨wb, 0, none⟩), .int .i64 (d : Int)] v (Ret (ι := Unit) (fun _ => .pointer (some ⟨p.k, 0, none⟩)) fun _ => wdS wb c P z :: H) := fun v hs => by
  obtain ⟨h1, h2, h3⟩ := wd_len 0 rfl v hs
  have hd := (List.getElem?_eq_some_iff.1 hp).1
  exact wkernel_walk H wb c P z d p z.s[d] hp (List.getElem?_eq_getElem (by omega)) (by omega) v hs
end
end Go.Proofs.YtfhkgohokbkgiaaGreatDoor
set_option linter.unusedVariables false
set_option linter.unusedSimpArgs false
namespace Go.Proofs.YtfhkgohokbkgiaaGreatDoor
open Go.RowKit G
structure BA where
 p0 : Nat
 p1 : Nat
 ps : Nat
 r00 : Nat
 r01 : Nat
 r0 : Nat
 r10 : Nat
 r1 : Nat
 e1 : Nat
 r20 : Nat
 r2 : Nat
 e3 : Nat
 ds : Nat
def svI (b : Nat) (l : List Int) : SV Int := ⟨some ⟨b, 0, none⟩, l.length, l⟩
def bD0 (q : BA) : DomV := ⟨⟨0, 0⟩, ⟨some ⟨q.r0, 0, none⟩, 2, [svI q.r00 [1, 3], svI q.r01 [2, 3]]⟩, ⟨none, 0, []⟩, -1, 4, 2, 4, 3, 2⟩
def bD1 (q : BA) : DomV := ⟨⟨1, 1⟩, ⟨some ⟨q.r1, 0, none⟩, 1, [svI q.r10 [3]]⟩, svI q.e1 [0, 1], 0, 4, 2, 4, 3, 2⟩
def bD2 (q : BA) : DomV := ⟨⟨1, 2⟩, ⟨some ⟨q.r2, 0, none⟩, 1, [svI q.r20 [3]]⟩, ⟨none, 0, []⟩, -1, 4, 2, 4, 3, 2⟩
def bD3 (q : BA) : DomV := ⟨⟨2, 3⟩, ⟨none, 0, []⟩, svI q.e3 [0, 1, 2], 1, 4, 2, 4, 3, 2⟩
def bC (q : BA) : ConfV := ⟨8, 2, ⟨some ⟨q.ps, 0, none⟩, 2, [svI q.p0 [2, 2, 2, 2], svI q.p1 [5, 1, 1, 1]]⟩, ⟨some ⟨q.ds, 0, none⟩, 4, [bD0 q, bD1 q, bD2 q, bD3 q]⟩⟩
def bL (q : BA) : List SP := [row (kE .i64) 3 (.slice (some ⟨q.p0, 0, none⟩) ([2, 2, 2, 2] : List Int).length ([2, 2, 2, 2] : List Int).length) ([2, 2, 2, 2] : List Int), row (kE .i64) 3 (.slice (some ⟨q.p1, 0, none⟩) ([5, 1, 1, 1] : List Int).length ([5, 1, 1, 1] : List Int).length) ([5, 1, 1, 1] : List Int), row (svE Int) 42 (.slice (some ⟨q.ps, 0, none⟩) [svI q.p0 [2, 2, 2, 2], svI q.p1 [5, 1, 1, 1]].length [svI q.p0 [2, 2, 2, 2], svI q.p1 [5, 1, 1, 1]].length) [svI q.p0 [2, 2, 2, 2], svI q.p1 [5, 1, 1, 1]], row (kE .i64) 3 (.slice (some ⟨q.r00, 0, none⟩) ([1, 3] : List Int).length ([1, 3] : List Int).length) ([1, 3] : List Int), row (kE .i64) 3 (.slice (some ⟨q.r01, 0, none⟩) ([2, 3] : List Int).length ([2, 3] : List Int).length) ([2, 3] : List Int), row (svE Int) 42 (.slice (some ⟨q.r0, 0, none⟩) [svI q.r00 [1, 3], svI q.r01 [2, 3]].length [svI q.r00 [1, 3], svI q.r01 [2, 3]].length) [svI q.r00 [1, 3], svI q.r01 [2, 3]], row (kE .i64) 3 (.slice (some ⟨q.r10, 0, none⟩) ([3] : List Int).length ([3] : List Int).length) ([3] : List Int), row (svE Int) 42 (.slice (some ⟨q.r1, 0, none⟩) [svI q.r10 [3]].length [svI q.r10 [3]].length) [svI q.r10 [3]], row (kE .i64) 3 (.slice (some ⟨q.e1, 0, none⟩) ([0, 1] : List Int).length ([0, 1] : List Int).length) ([0, 1] : List Int), row (kE .i64) 3 (.slice (some ⟨q.r20, 0, none⟩) ([3] : List Int).length ([3] : List Int).length) ([3] : List Int), row (svE Int) 42 (.slice (some ⟨q.r2, 0, none⟩) [svI q.r20 [3]].length [svI q.r20 [3]].length) [svI q.r20 [3]], row (kE .i64) 3 (.slice (some ⟨q.e3, 0, none⟩) ([0, 1, 2] : List Int).length ([0, 1, 2] : List Int).length) ([0, 1, 2] : List Int), row domE 44 (.slice (some ⟨q.ds, 0, none⟩) 4 4) [bD0 q, bD1 q, bD2 q, bD3 q]]
def bS (q : BA) : SP := manyS (bL q)
theorem KR.nil {α : Type} {E : Enc α} {H : List SP} : KR H E ⟨none, 0, []⟩ := fun w _ => ⟨none, 0, rfl, Nat.le_refl _, Nat.zero_le _, fun _ => ⟨rfl, rfl⟩, fun a h => by cases h⟩
theorem bKR {α : Type} {E : Enc α} {T : TypeId} {H : List SP} {q : BA} {A : Option Addr} {m k : Nat} {xs : List α} (i : Nat) (hi : (bL q)[i]? = some (row E T (.slice A m k) xs)) (hm : m = xs.length) : KR (bS q :: H) E ⟨A, k, xs⟩ := fun w hs => by
 have h := Sat.openMany hs
 have hl : i < (bL q).length := (List.getElem?_eq_some_iff.1 hi).1
 exact rowKRm (H := bL q ++ H) i (by rw [List.getElem?_append_left hl]; exact hi) hm w h
theorem bKC (q : BA) (H : List SP) : KC (bS q :: H) (bC q) where
 plans := bKR 2 rfl rfl
 plan := fun p hp => by
  simp only [bC, List.mem_cons, List.not_mem_nil, or_false] at hp
  rcases hp with rfl | rfl
  ·exact bKR (T := 3) (m := 4) 0 rfl rfl
  ·exact bKR (T := 3) (m := 4) 1 rfl rfl
 domains := bKR 12 rfl rfl
 routes := fun d hd => by
  simp only [bC, List.mem_cons, List.not_mem_nil, or_false] at hd
  rcases hd with rfl | rfl | rfl | rfl
  ·exact bKR 5 rfl rfl
  ·exact bKR 7 rfl rfl
  ·exact bKR 10 rfl rfl
  ·exact KR.nil
 route := fun d hd r hr => by
  simp only [bC, List.mem_cons, List.not_mem_nil, or_false] at hd
  rcases hd with rfl | rfl | rfl | rfl
  ·simp only [bD0, List.mem_cons, List.not_mem_nil, or_false] at hr
   rcases hr with rfl | rfl
   ·exact bKR (T := 3) (m := 2) 3 rfl rfl
   ·exact bKR (T := 3) (m := 2) 4 rfl rfl
  ·simp only [bD1, List.mem_cons, List.not_mem_nil, or_false] at hr
   subst hr
   exact bKR (T := 3) (m := 1) 6 rfl rfl
  ·simp only [bD2, List.mem_cons, List.not_mem_nil, or_false] at hr
   subst hr
   exact bKR (T := 3) (m := 1) 9 rfl rfl
  ·simp only [bD3, List.not_mem_nil] at hr
 release := fun d hd => by
  simp only [bC, List.mem_cons, List.not_mem_nil, or_false] at hd
  rcases hd with rfl | rfl | rfl | rfl
  ·exact KR.nil
  ·exact bKR (T := 3) (m := 2) 8 rfl rfl
  ·exact KR.nil
  ·exact bKR (T := 3) (m := 3) 11 rfl rfl
theorem close_base {q : BA} {H : List SP} {w : World} (h : Sat w (blk q.ds 44 (domE.flat [bD0 q, bD1 q, bD2 q, bD3 q]) :: blk q.e3 3 ((kE .i64).flat [0, 1, 2]) :: blk q.r2 42 ((svE Int).flat [svI q.r20 [3]]) :: blk q.r20 3 ((kE .i64).flat [3]) :: blk q.e1 3 ((kE .i64).flat [0, 1]) :: blk q.r1 42 ((svE Int).flat [svI q.r10 [3]]) :: blk q.r10 3 ((kE .i64).flat [3]) :: blk q.r0 42 ((svE Int).flat [svI q.r00 [1, 3], svI q.r01 [2, 3]]) :: blk q.r01 3 ((kE .i64).flat [2, 3]) :: blk q.r00 3 ((kE .i64).flat [1, 3]) :: blk q.ps 42 ((svE Int).flat [svI q.p0 [2, 2, 2, 2], svI q.p1 [5, 1, 1, 1]]) :: blk q.p1 3 ((kE .i64).flat [5, 1, 1, 1]) :: blk q.p0 3 ((kE .i64).flat [2, 2, 2, 2]) :: H)) : Sat w (bS q :: H) := by
 refine Sat.closeMany (l := bL q) ?_
 have s : ∀ {α : Type} {E : Enc α} {T : TypeId} {H : List SP} {b : Nat} (xs : List α) (R : List SP), xs.length ≤ maxLen → Sat w (blk b T (E.flat xs) :: (H ++ R)) → Sat w (H ++ (row E T (.slice (some ⟨b, 0, none⟩) xs.length xs.length) xs :: R)) := fun xs R hl h => Sat.perm List.perm_middle.symm (Sat.blkRows hl h)
 have h1 := s (H := [_, _, _, _, _, _, _, _, _, _, _, _]) [bD0 q, bD1 q, bD2 q, bD3 q] H (by show 4 ≤ maxLen; decide) h
 have h2 := s (H := [_, _, _, _, _, _, _, _, _, _, _]) ([0, 1, 2] : List Int) (_ :: H) (by show 3 ≤ maxLen; decide) h1
 have h3 := s (H := [_, _, _, _, _, _, _, _, _, _]) [svI q.r20 [3]] (_ :: _ :: H) (by show 1 ≤ maxLen; decide) h2
 have h4 := s (H := [_, _, _, _, _, _, _, _, _]) ([3] : List Int) (_ :: _ :: _ :: H) (by show 1 ≤ maxLen; decide) h3
 have h5 := s (H := [_, _, _, _, _, _, _, _]) ([0, 1] : List Int) (_ :: _ :: _ :: _ :: H) (by show 2 ≤ maxLen; decide) h4
 have h6 := s (H := [_, _, _, _, _, _, _]) [svI q.r10 [3]] (_ :: _ :: _ :: _ :: _ :: H) (by show 1 ≤ maxLen; decide) h5
 have h7 := s (H := [_, _, _, _, _, _]) ([3] : List Int) (_ :: _ :: _ :: _ :: _ :: _ :: H) (by show 1 ≤ maxLen; decide) h6
 have h8 := s (H := [_, _, _, _, _]) [svI q.r00 [1, 3], svI q.r01 [2, 3]] (_ :: _ :: _ :: _ :: _ :: _ :: _ :: H) (by show 2 ≤ maxLen; decide) h7
 have h9 := s (H := [_, _, _, _]) ([2, 3] : List Int) (_ :: _ :: _ :: _ :: _ :: _ :: _ :: _ :: H) (by show 2 ≤ maxLen; decide) h8
 have h10 := s (H := [_, _, _]) ([1, 3] : List Int) (_ :: _ :: _ :: _ :: _ :: _ :: _ :: _ :: _ :: H) (by show 2 ≤ maxLen; decide) h9
 have h11 := s (H := [_, _]) [svI q.p0 [2, 2, 2, 2], svI q.p1 [5, 1, 1, 1]] (_ :: _ :: _ :: _ :: _ :: _ :: _ :: _ :: _ :: _ :: H) (by show 2 ≤ maxLen; decide) h10
 have h12 := s (H := [_]) ([5, 1, 1, 1] : List Int) (_ :: _ :: _ :: _ :: _ :: _ :: _ :: _ :: _ :: _ :: _ :: H) (by show 4 ≤ maxLen; decide) h11
 exact s (H := []) ([2, 2, 2, 2] : List Int) (_ :: _ :: _ :: _ :: _ :: _ :: _ :: _ :: _ :: _ :: _ :: _ :: H) (by show 4 ≤ maxLen; decide) h12
set_option maxRecDepth 100000 in
theorem base_walk (H : List SP) : ∀ v, Sat v H → Calls Tryz.prog 12 #[] v (Ret (ι := BA) (fun q => .agg #[vi 8, vi 2, .slice (some ⟨q.ps, 0, none⟩) 2 2, .slice (some ⟨q.ds, 0, none⟩) 4 4]) fun q => bS q :: H) := by
 refine enterG (fn := Tryz.f12) 23 [] Tryz.func12 (by kernel_rfl) (by kernel_rfl) (by kernel_rfl) ?_
 refine Xq (Xg 1 (Xs (Xn 26 [vi 0, vi 0, .slice none 0 0, .slice none 0 0] (some 0) (fun b => vp b)) (fun b1 => ?_) 0))
 refine endR ?_
 refine Xq (Xg 23 (Xs (Xn 3 [vi 2, vi 2, vi 2, vi 2] (some 1) (fun b => .slice (some ⟨b, 0, none⟩) 4 4)) (fun b2 => ?_) 22))
 refine Xs (Xn 3 [vi 5, vi 1, vi 1, vi 1] (some 2) (fun b => .slice (some ⟨b, 0, none⟩) 4 4)) (fun b3 => ?_) 21
 refine Xs (Xn 42 [.slice (some ⟨b2, 0, none⟩) 4 4, .slice (some ⟨b3, 0, none⟩) 4 4] (some 3) (fun b => .slice (some ⟨b, 0, none⟩) 2 2)) (fun b4 => ?_) 20
 refine Xr [(3,.slice (some ⟨b4, 0, none⟩) 2 2), (0,vp b1), (4,.agg #[vi 0, .int .u64 0])] ?_ 19 1
 refine Xs (Xn 3 [vi 1, vi 3] (some 5) (fun b => .slice (some ⟨b, 0, none⟩) 2 2)) (fun b5 => ?_) 18
 refine Xs (Xn 3 [vi 2, vi 3] (some 6) (fun b => .slice (some ⟨b, 0, none⟩) 2 2)) (fun b6 => ?_) 17
 refine Xs (Xn 42 [.slice (some ⟨b5, 0, none⟩) 2 2, .slice (some ⟨b6, 0, none⟩) 2 2] (some 7) (fun b => .slice (some ⟨b, 0, none⟩) 2 2)) (fun b7 => ?_) 16
 refine Xr [(3,.slice (some ⟨b4, 0, none⟩) 2 2), (0,vp b1), (8,.agg #[vi 0, .int .u64 0, .slice (some ⟨b7, 0, none⟩) 2 2, .slice none 0 0, vi (-1), vi 4, vi 2, vi 4, vi 3, vi 2]), (9,.agg #[vi 1, .int .u64 1])] ?_ 14 2
 refine Xs (Xn 3 [vi 3] (some 10) (fun b => .slice (some ⟨b, 0, none⟩) 1 1)) (fun b8 => ?_) 13
 refine Xs (Xn 42 [.slice (some ⟨b8, 0, none⟩) 1 1] (some 11) (fun b => .slice (some ⟨b, 0, none⟩) 1 1)) (fun b9 => ?_) 12
 refine Xs (Xn 3 [vi 0, vi 1] (some 12) (fun b => .slice (some ⟨b, 0, none⟩) 2 2)) (fun b10 => ?_) 11
 refine Xr [(3,.slice (some ⟨b4, 0, none⟩) 2 2), (0,vp b1), (8,.agg #[vi 0, .int .u64 0, .slice (some ⟨b7, 0, none⟩) 2 2, .slice none 0 0, vi (-1), vi 4, vi 2, vi 4, vi 3, vi 2]), (13,.agg #[vi 1, .int .u64 1, .slice (some ⟨b9, 0, none⟩) 1 1, .slice (some ⟨b10, 0, none⟩) 2 2, vi 0, vi 4, vi 2, vi 4, vi 3, vi 2]), (14,.agg #[vi 1, .int .u64 2])] ?_ 9 2
 refine Xs (Xn 3 [vi 3] (some 15) (fun b => .slice (some ⟨b, 0, none⟩) 1 1)) (fun b11 => ?_) 8
 refine Xs (Xn 42 [.slice (some ⟨b11, 0, none⟩) 1 1] (some 16) (fun b => .slice (some ⟨b, 0, none⟩) 1 1)) (fun b12 => ?_) 7
 refine Xr [(3,.slice (some ⟨b4, 0, none⟩) 2 2), (0,vp b1), (8,.agg #[vi 0, .int .u64 0, .slice (some ⟨b7, 0, none⟩) 2 2, .slice none 0 0, vi (-1), vi 4, vi 2, vi 4, vi 3, vi 2]), (13,.agg #[vi 1, .int .u64 1, .slice (some ⟨b9, 0, none⟩) 1 1, .slice (some ⟨b10, 0, none⟩) 2 2, vi 0, vi 4, vi 2, vi 4, vi 3, vi 2]), (17,.agg #[vi 1, .int .u64 2, .slice (some ⟨b12, 0, none⟩) 1 1, .slice none 0 0, vi (-1), vi 4, vi 2, vi 4, vi 3, vi 2]), (18,.agg #[vi 2, .int .u64 3])] ?_ 5 2
 refine Xs (Xn 3 [vi 0, vi 1, vi 2] (some 19) (fun b => .slice (some ⟨b, 0, none⟩) 3 3)) (fun b13 => ?_) 4
 refine Xr [(3,.slice (some ⟨b4, 0, none⟩) 2 2), (0,vp b1), (8,.agg #[vi 0, .int .u64 0, .slice (some ⟨b7, 0, none⟩) 2 2, .slice none 0 0, vi (-1), vi 4, vi 2, vi 4, vi 3, vi 2]), (13,.agg #[vi 1, .int .u64 1, .slice (some ⟨b9, 0, none⟩) 1 1, .slice (some ⟨b10, 0, none⟩) 2 2, vi 0, vi 4, vi 2, vi 4, vi 3, vi 2]), (17,.agg #[vi 1, .int .u64 2, .slice (some ⟨b12, 0, none⟩) 1 1, .slice none 0 0, vi (-1), vi 4, vi 2, vi 4, vi 3, vi 2]), (20,.agg #[vi 2, .int .u64 3, .slice none 0 0, .slice (some ⟨b13, 0, none⟩) 3 3, vi 1, vi 4, vi 2, vi 4, vi 3, vi 2])] ?_ 3 1
 refine Xs (Xn 44 [vi 0, .int .u64 0, .slice (some ⟨b7, 0, none⟩) 2 2, .slice none 0 0, vi (-1), vi 4, vi 2, vi 4, vi 3, vi 2, vi 1, .int .u64 1, .slice (some ⟨b9, 0, none⟩) 1 1, .slice (some ⟨b10, 0, none⟩) 2 2, vi 0, vi 4, vi 2, vi 4, vi 3, vi 2, vi 1, .int .u64 2, .slice (some ⟨b12, 0, none⟩) 1 1, .slice none 0 0, vi (-1), vi 4, vi 2, vi 4, vi 3, vi 2, vi 2, .int .u64 3, .slice none 0 0, .slice (some ⟨b13, 0, none⟩) 3 3, vi 1, vi 4, vi 2, vi 4, vi 3, vi 2] (some 21) (fun b => .slice (some ⟨b, 0, none⟩) 4 4)) (fun b14 => ?_) 2
 refine Xr [(0,vp b1), (22,.agg #[vi 8, vi 2, .slice (some ⟨b4, 0, none⟩) 2 2, .slice (some ⟨b14, 0, none⟩) 4 4])] ?_ 1 1
 refine Xh0 ?_ 13 1
 refine Xs (Xz [(0,vi 8), (1,vi 2), (2,.slice (some ⟨b4, 0, none⟩) 2 2), (3,.slice (some ⟨b14, 0, none⟩) 4 4)]) (fun _ => ?_) 0
 refine endR ?_
 refine Xv ?_
 refine doneG (.agg #[.int .i64 8, .int .i64 2, .slice (some ⟨b4, 0, none⟩) 2 2, .slice (some ⟨b14, 0, none⟩) 4 4]) [(⟨b1, 0, none⟩, .int .i64 8), (⟨b1, 1, none⟩, .int .i64 2), (⟨b1, 2, none⟩, .slice (some ⟨b4, 0, none⟩) 2 2), (⟨b1, 3, none⟩, .slice (some ⟨b14, 0, none⟩) 4 4)] (hasC (blkAt (T := 26) (cs := [.int .i64 8, .int .i64 2, .slice (some ⟨b4, 0, none⟩) 2 2, .slice (some ⟨b14, 0, none⟩) 4 4]) 0 rfl rfl) (hasC (blkAt (T := 26) (cs := [.int .i64 8, .int .i64 2, .slice (some ⟨b4, 0, none⟩) 2 2, .slice (some ⟨b14, 0, none⟩) 4 4]) 0 rfl rfl) (hasC (blkAt (T := 26) (cs := [.int .i64 8, .int .i64 2, .slice (some ⟨b4, 0, none⟩) 2 2, .slice (some ⟨b14, 0, none⟩) 4 4]) 0 rfl rfl) (hasC (blkAt (T := 26) (cs := [.int .i64 8, .int .i64 2, .slice (some ⟨b4, 0, none⟩) 2 2, .slice (some ⟨b14, 0, none⟩) 4 4]) 0 rfl rfl) has0)))) (fun _ => by kernel_rfl) (fun w hs => ?_) .ret (.inr rfl)
 exact ⟨⟨b2, b3, b4, b5, b6, b7, b8, b9, b10, b11, b12, b13, b14⟩, rfl, close_base hs.tail⟩
end Go.Proofs.YtfhkgohokbkgiaaGreatDoor
set_option linter.unusedVariables false
set_option linter.unusedSimpArgs false
namespace Go.Proofs.YtfhkgohokbkgiaaGreatDoor.G
open Go.RowKit Go.Proofs.YtfhkgohokbkgiaaGreatDoor
/-- Are two cells alike? -/
def eqC : Value → Value → Bool
  | .int _ a, .int _ b => a == b
  | .bool a, .bool b => a == b
  | _, _ => false
/-- Are all? -/
def eqCs : List Value → List Value → Bool
  | [a], [b] => eqC a b
  | a :: us, b :: vs => eqC a b && eqCs us vs
  | _, _ => true
def okC (P : Program) (t : TypeId) : Value → Value → Bool
  | .int k _, .int k' _ => match P.underlying t with | some (.int _) => decide (k = k') | _ => false
  | .bool _, .bool _ => match P.underlying t with | some .bool => true | _ => false
  | _, _ => false
/-- The fields are cells, one behind the other. -/
def okCs (P : Program) : Nat → List Field → List Value → List Value → Bool
  | _, [], [], [] => true
  | i, f :: fs, a :: us, b :: vs => !(f.name == "_") && Nat.beq f.offset i && P.plainKey f.type && okC P f.type a b && okCs P (i + 1) fs us vs
  | _, _, _, _ => false
theorem eqFields_cells {P : Program} (w : World) (d : Nat) (xs ys : Array Value) : ∀ (fs : List Field) (i : Nat) (us vs : List Value), okCs P i fs us vs = true → (∀ j v, us[j]? = some v → xs[i + j]? = some v) → (∀ j v, vs[j]? = some v → ys[i + j]? = some v) →
    (Op.eqFields (d + 1) xs ys fs).run P w = .ok (eqCs us vs) w
  | [], _, [], [], _, _, _ => by simp [Op.eqFields, eqCs]
  | [], _, [], _ :: _, h, _, _ => by simp [okCs] at h
  | [], _, _ :: _, _, h, _, _ => by simp [okCs] at h
  | _ :: _, _, [], _, h, _, _ => by simp [okCs] at h
  | _ :: _, _, _ :: _, [], h, _, _ => by simp [okCs] at h
  | f :: fs, i, a :: us, b :: vs, h, hx, hy => by
    simp only [okCs, Bool.and_eq_true, Bool.not_eq_true'] at h
    obtain ⟨⟨⟨⟨h1, h2⟩, h3⟩, h4⟩, h5⟩ := h
    have hn : f.name ≠ "_" := by simpa using h1
    have ho : f.offset = i := Nat.eq_of_beq_eq_true h2
    have ih := eqFields_cells w d xs ys fs (i + 1) us vs h5 (fun j v hj => by have := hx (j + 1) v (by simpa using hj); rwa [show i + 1 + j = i + (j + 1) by omega]) (fun j v hj => by have := hy (j + 1) v (by simpa using hj); rwa [show i + 1 + j = i + (j + 1) by omega])
    have ha := hx 0 a rfl
    have hb := hy 0 b rfl
    rw [Nat.add_zero, ← ho] at ha hb
    have hc : (Op.equalIn (d + 1) f.type a b).run P w = .ok (eqC a b) w := by
      unfold okC at h4
      split at h4
      · split at h4
        · rename_i hu; obtain rfl := of_decide_eq_true h4; rw [run_equalIn_int w d f.type _ _ _ _ hu]; rfl
        · cases h4
      · split at h4
        · rename_i hu; rw [run_equalIn_bool' w d f.type _ _ hu]; rfl
        · cases h4
      · cases h4
    have he : eqCs (a :: us) (b :: vs) = (eqC a b && eqCs us vs) := by
      cases us with
      | nil => cases vs with
        | nil => simp [eqCs]
        | cons b' vs => cases fs <;> simp [okCs] at h5
      | cons a' us => cases vs <;> simp [eqCs]
    rw [Op.eqFields, if_pos hn, he]
    simp only [Sem.run_bind, run_part_plain w h3 ha, run_part_plain w h3 hb, Result.andThen_ok, hc]
    cases eqC a b
    · simp
    · simp [ih]
theorem structEq_run {P : Program} (w : World) (t : TypeId) (x y : Operand) (us vs : List Value) (n : Bool) (b : Bool) (hg : P.eqGuardType P.depth t = false) (hu : P.underlying t = some (.struct (P.fieldsOf t))) (hs : P.stoodInHeld t = false) (hok : okCs P 0 (P.fieldsOf t).toList us vs = true) (hb : eqCs us vs = b) :
    (do eqGuard (if n then .neq else .eql) t x y (.agg us.toArray) (.agg vs.toArray); binOp (if n then .neq else .eql) t (.agg us.toArray) (.agg vs.toArray) : Sem Value).run P w = .ok (.bool (if n then !b else b)) w := by
  have h : (Op.equalIn 10000 t (.agg us.toArray) (.agg vs.toArray)).run P w = .ok b w := by
    rw [run_equalIn_struct w 9999 _ _ _ hu hs, ← hb]
    exact eqFields_cells w 9998 _ _ _ 0 us vs hok (fun j v hj => by simpa using hj) (fun j v hj => by simpa using hj)
  rw [Sem.run_bind, run_eqGuard_agg w _ _ _ _ _ _ hg]
  simp only [Result.andThen_ok]
  cases n
  · simp only [Bool.false_eq_true, if_false]; rw [run_eql_struct, h]; rfl
  · simp only [if_true]; rw [run_neq_struct, h]; rfl
section
variable {P : Program} {n : Nat} {L : List (Nat × Value)} {c : Code}
theorem eqY {S : World → Prop} {i : Nat} (ng : Bool) (t t' : TypeId) (x y : Operand) (us vs : List Value) (b : Bool) (d : Nat) (hg : ∀ rest, goes n c i L rest = true := by intro _; kernel_rfl) (hd : (opAt c i).dst = some d := by kernel_rfl) (hop : (opAt c i).op = .binOp (if ng then .neq else .eql) t x y t' := by kernel_rfl)
    (hx : ∀ rest, evalL L rest x = .agg us.toArray := by intro _; kernel_rfl) (hy : ∀ rest, evalL L rest y = .agg vs.toArray := by intro _; kernel_rfl) (h1 : P.eqGuardType P.depth t = false := by kernel_rfl) (hu : P.underlying t = some (.struct (P.fieldsOf t)) := by kernel_rfl) (hs : P.stoodInHeld t = false := by kernel_rfl) (hok : okCs P 0 (P.fieldsOf t).toList us vs = true := by kernel_rfl) (hb : eqCs us vs = b := by kernel_rfl) : Yld P n L S c i (some d) (.bool (if ng then !b else b)) :=
  binY _ t t' x y _ _ _ (some d) hg hd hop hx hy fun w => structEq_run w t x y us vs ng b h1 hu hs hok hb
theorem eqY0 {S : World → Prop} {i : Nat} (t t' : TypeId) (x y : Operand) (us vs : List Value) (b : Bool) (d : Nat) (hg : ∀ rest, goes n c i L rest = true := by intro _; kernel_rfl) (hd : (opAt c i).dst = some d := by kernel_rfl) (hop : (opAt c i).op = .binOp .eql t x y t' := by kernel_rfl)
    (hx : ∀ rest, evalL L rest x = .agg us.toArray := by intro _; kernel_rfl) (hy : ∀ rest, evalL L rest y = .agg vs.toArray := by intro _; kernel_rfl) (h1 : P.eqGuardType P.depth t = false := by kernel_rfl) (hu : P.underlying t = some (.struct (P.fieldsOf t)) := by kernel_rfl) (hs : P.stoodInHeld t = false := by kernel_rfl) (hok : okCs P 0 (P.fieldsOf t).toList us vs = true := by kernel_rfl) (hb : eqCs us vs = b := by kernel_rfl) : Yld P n L S c i (some d) (.bool b) := eqY false t t' x y us vs b d hg hd hop hx hy h1 hu hs hok hb
theorem eqY1 {S : World → Prop} {i : Nat} (t t' : TypeId) (x y : Operand) (us vs : List Value) (b : Bool) (d : Nat) (hg : ∀ rest, goes n c i L rest = true := by intro _; kernel_rfl) (hd : (opAt c i).dst = some d := by kernel_rfl) (hop : (opAt c i).op = .binOp .neq t x y t' := by kernel_rfl)
    (hx : ∀ rest, evalL L rest x = .agg us.toArray := by intro _; kernel_rfl) (hy : ∀ rest, evalL L rest y = .agg vs.toArray := by intro _; kernel_rfl) (h1 : P.eqGuardType P.depth t = false := by kernel_rfl) (hu : P.underlying t = some (.struct (P.fieldsOf t)) := by kernel_rfl) (hs : P.stoodInHeld t = false := by kernel_rfl) (hok : okCs P 0 (P.fieldsOf t).toList us vs = true := by kernel_rfl) (hb : eqCs us vs = b := by kernel_rfl) : Yld P n L S c i (some d) (.bool (!b)) := eqY true t t' x y us vs b d hg hd hop hx hy h1 hu hs hok hb
end
end Go.Proofs.YtfhkgohokbkgiaaGreatDoor.G
set_option linter.unusedVariables false
set_option linter.unusedSimpArgs false
namespace Go.Proofs.YtfhkgohokbkgiaaGreatDoor
open Go.RowKit G
theorem new_at {ι : Type} {P : Program} {f : FuncId} {vs : Array Value} {rv : ι → Value} {X : SP} {Z : ι → SP} {H : List SP} (j : Nat) (hj : H[j]? = some X) (h : ∀ w, Sat w (X :: H.eraseIdx j) → Calls P f vs w (Ret rv fun x => Z x :: X :: H.eraseIdx j)) : ∀ w, Sat w H → Calls P f vs w (Ret rv fun x => Z x :: H) := fun w hs =>
 (h w (hs.pick j hj)).mono fun e w' ⟨p, he, G, h1, h2, h3⟩ => ⟨p, he, G, h1, h2, SatF.unpick j hj h3⟩
theorem four {x : Nat} (h : x < 4) : x = 0 ∨ x = 1 ∨ x = 2 ∨ x = 3 := by omega
/-- Base's world, at its start. -/
def wz (q : BA) : WS := w0 (bC q)
def act (q : BA) (z : WS) (tick : Int) (d : Nat) (op a b : Int) : WS := (wAct (bC q) z tick d 1 op a b).2
def allN (n : Nat) (f : Nat → Bool) : Bool := (List.range n).all f
theorem allN_at {n : Nat} {f : Nat → Bool} (h : allN n f = true) {i : Nat} (hi : i < n) : f i = true := List.all_eq_true.1 h i (List.mem_range.2 hi)
/-- A reply, as told. -/
def says (q : BA) (z : WS) (tick : Int) (d : Nat) (op a b : Int) (r : Int × Int × Int) : Bool := (wAct (bC q) z tick d 1 op a b).1 == (r, true)
theorem says_is {q : BA} {z : WS} {tick : Int} {d : Nat} {op a b : Int} {r : Int × Int × Int} (h : says q z tick d op a b r = true) : wAct (bC q) z tick d 1 op a b = ((r, true), act q z tick d op a b) := Prod.ext (eq_of_beq h) rfl
def kw1 (q : BA) : WS := act q (wz q) 0 0 1 0 3
def kw2 (q : BA) : WS := act q (kw1 q) 1 0 11 3 77
def kw3 (q : BA) : WS := act q (kw2 q) 2 3 12 0 0
def kw4 (q : BA) : WS := act q (kw3 q) 3 3 10 0 0
def kw5 (q : BA) : WS := act q (kw4 q) 4 0 10 3 0
def kw6 (q : BA) : WS := act q (kw5 q) 5 0 99 0 0
theorem kwt_0 (q : BA) : wAct (bC q) (wz q) 0 0 1 0 0 0 = (((0, 0, 0), false), wz q) := rfl
theorem kwt_1 (q : BA) : wAct (bC q) (wz q) 0 0 1 1 0 3 = (((0, 2, 0), true), kw1 q) := by kernel_rfl
theorem kwt_2 (q : BA) : wAct (bC q) (kw1 q) 1 0 1 11 3 77 = (((0, 0, 0), true), kw2 q) := by kernel_rfl
theorem kwt_3 (q : BA) : wAct (bC q) (kw2 q) 2 3 1 12 0 0 = (((0, 0, 77), true), kw3 q) := by kernel_rfl
theorem kwt_4 (q : BA) : wAct (bC q) (kw3 q) 3 3 1 10 0 0 = (((0, 1, 100), true), kw4 q) := by kernel_rfl
theorem kwt_5 (q : BA) : wAct (bC q) (kw4 q) 4 0 1 10 3 0 = (((15, 0, 0), true), kw5 q) := by kernel_rfl
theorem kwt_6 (q : BA) : wAct (bC q) (kw5 q) 5 0 1 99 0 0 = (((16, 0, 0), true), kw6 q) := by kernel_rfl
theorem kwt_7 (q : BA) : (sdAt (kw6 q) 0).r.l.length = 2 := by kernel_rfl
theorem act_B {q : BA} {z : WS} {m : Int} (h : WdB z m) (hm : 0 ≤ m) (tick : Int) (d : Nat) (op a b : Int) : WdB (act q z tick d op a b) (m + 1) := wAct_B h hm tick d 1 op a b
theorem wz_B (q : BA) : WdB (wz q) 2 := w0_B (bC q)
theorem lab4 (q : BA) {x : Nat} (h : x < 4) : ∃ y : DomV, (bC q).domains.l[x]? = some y ∧ labOf (bC q) x = y.lab := ⟨_, List.getElem?_eq_getElem (show x < 4 from h), by unfold labOf; rw [Int.toNat_natCast, List.getElem?_eq_getElem (show x < 4 from h)]; rfl⟩
section
variable (H : List SP) (wb : Nat) (q : BA) (P : WP) (z : WS)
/-- An action in Base's world. -/
theorem bAct (hE : EK H) (hk : KC H (bC q)) (m : Int) (hB : WdB z m) (hm : m < 100000) (tick : Int) (d : Nat) (hd : d < 4) (th op a b : Int) {r : Int × Int × Int} {t : Bool} {z' : WS} (hr : wAct (bC q) z tick d th op a b = ((r, t), z')) : ∀ v, Sat v (wdS wb (bC q) P z :: H) → Calls Tryz.prog 14 #[vp wb, vi tick, vi d, vi th, .agg #[vi op, vi a, vi b]] v (Ret (ι := Unit) (fun _ => .tuple #[.agg #[vi r.1, vi r.2.1, vi r.2.2], .bool t]) fun _ => wdS wb (bC q) P z' :: H) := by
 have h := wAct_c H wb (bC q) P z hE hk m hB hm tick th op a b d hd
 rw [hr] at h; exact h
abbrev ansV (x : (Int × Int × Int) × Bool) : Value := .tuple #[.agg #[.int .i64 x.1.1, .int .i64 x.1.2.1, .int .i64 x.1.2.2], .bool x.2]
/-- An action whose reply isn't looked at. -/
theorem bDoes (hE : EK H) (hk : KC H (bC q)) (m : Int) (hB : WdB z m) (hm : m < 100000) (tick : Int) (d : Nat) (hd : d < 4) (op a b : Int) : ∀ v, Sat v (wdS wb (bC q) P z :: H) → Calls Tryz.prog 14 #[vp wb, vi tick, vi d, vi 1, .agg #[vi op, vi a, vi b]] v (Ret (ι := Unit) (fun _ => ansV (wAct (bC q) z tick d 1 op a b).1) fun _ => wdS wb (bC q) P (act q z tick d op a b) :: H) := wAct_c H wb (bC q) P z hE hk m hB hm tick 1 op a b d hd
theorem bNew (hk : KC H (bC q)) : ∀ v, Sat v H → Calls Tryz.prog 13 #[.agg #[vi 8, vi 2, .slice (some ⟨q.ps, 0, none⟩) 2 2, .slice (some ⟨q.ds, 0, none⟩) 4 4]] v (Ret (ι := Nat × WP) (fun p => .pointer (some ⟨p.1, 0, none⟩)) fun p => wdS p.1 (bC q) p.2 (wz q) :: H) := wnew_walk H (bC q) hk (by show 4 ≤ 6; omega)
theorem bGet (d : Nat) (hd : d < 4) : ∀ v, Sat v (wdS wb (bC q) P z :: H) → ∃ p x, P.s[d]? = some p ∧ z.s[d]? = some x := wd_get (wb := wb) (c := bC q) (P := P) (w := z) 0 rfl hd
end
set_option maxHeartbeats 1000000 in
set_option maxRecDepth 100000 in
theorem known21 (H : List SP) (hE : EK H) : ∀ w, Sat w H → Calls Tryz.prog 11 #[] w (Ret (ι := Unit) (fun _ => .bool true) fun _ => H) := by
 refine enterG (fn := Tryz.f11) 118 [] Tryz.func11 (by kernel_rfl) (by kernel_rfl) (by kernel_rfl) ?_
 refine Xq (Xg 1 (Xe [(0,.bool false)] ?_ 1))
 refine Xq (Xg 3 (Xs (Xa (some 16) (fun (q : BA) => .agg #[vi 8, vi 2, .slice (some ⟨q.ps, 0, none⟩) 2 2, .slice (some ⟨q.ds, 0, none⟩) 4 4]) (base_walk _)) (fun (q : BA) => ?_) 2))
 refine Xs (Xa (some 17) (fun (p : Nat × WP) => .pointer (some ⟨p.1, 0, none⟩)) (wnew_walk _ (bC q) (bKC q _) (by show 4 ≤ 6; omega))) (fun (p : Nat × WP) => ?_) 1
 refine PT.know (bGet (bS q :: H) p.1 q p.2 (wz q) 1 (by omega)) ?_
 rintro ⟨p1, x1, hp1, hx1⟩
 refine Xe [(0,.bool false), (1,.pointer (some ⟨p.1, 0, none⟩))] ?_ 1
 refine Xq (Xq (Xg 17 (Xr [(0,.bool false), (1,.pointer (some ⟨p.1, 0, none⟩)), (20,.bool false), (21,.pointer (some ⟨p.1, 0, none⟩))] ?_ 13 4)))
 refine Xs (Xa (some 22) (fun _ => .pointer (some ⟨p1.k, 0, none⟩)) (wKernel_c _ p.1 (bC q) p.2 (wz q) 1 p1 hp1)) (fun _ => ?_) 12
 refine Xr [(0,.bool false), (1,.pointer (some ⟨p.1, 0, none⟩)), (25,.bool false), (26,.pointer (some ⟨p.1, 0, none⟩))] ?_ 8 4
 refine Xs (Xa (some 27) (fun _ => .pointer (some ⟨p.2.l, 0, none⟩)) (wledger_walk _ p.1 (bC q) p.2 (wz q))) (fun _ => ?_) 7
 refine Xr [(0,.bool false), (1,.pointer (some ⟨p.1, 0, none⟩)), (30,.bool false), (31,.pointer (some ⟨p.1, 0, none⟩))] ?_ 3 4
 refine Xs (Xa (some 32) (fun _ => .pointer (some ⟨p.2.t, 0, none⟩)) (wlatch_walk _ p.1 (bC q) p.2 (wz q))) (fun _ => ?_) 2
 refine Xe [(0,.bool false), (1,.pointer (some ⟨p.1, 0, none⟩)), (34,.bool false)] ?_ 2
 refine Xc false (fun h => by cases h) (fun _ => ?_)
 refine Xk (Xq (Xg 9 (Xr [(0,.bool false), (1,.pointer (some ⟨p.1, 0, none⟩)), (36,.pointer (some ⟨p.1, 0, none⟩)), (37,.agg #[vi 0, vi 0, vi 0])] ?_ 7 2)))
 refine Xs (Xa (some 38) (fun _ => .tuple #[.agg #[vi 0, vi 0, vi 0], .bool false]) (bAct _ p.1 q p.2 (wz q) hE.up (bKC q _) 2 (wz_B q) (by omega) 0 0 (by omega) 1 0 0 0 (kwt_0 q))) (fun _ => ?_) 6
 refine Xr [(0,.bool false), (1,.pointer (some ⟨p.1, 0, none⟩)), (39,.agg #[vi 0, vi 0, vi 0]), (40,.bool false)] ?_ 3 3
 refine Xs (Xn 31 [vi 0, vi 0, vi 0] (some 2) (fun b => vp b)) (fun b1 => ?_) 2
 refine Xs (Xz [(0,vi 0), (1,vi 0), (2,vi 0)]) (fun _ => ?_) 1
 refine Xe [(0,.bool false), (1,.pointer (some ⟨p.1, 0, none⟩)), (3,.bool false)] ?_ 1
 refine Xq (Xg 9 (Xr [(0,.bool false), (1,.pointer (some ⟨p.1, 0, none⟩)), (3,.bool false), (42,.pointer (some ⟨p.1, 0, none⟩)), (43,.agg #[vi 1, vi 0, vi 3])] ?_ 7 2))
 refine Xs (Xa (some 44) (fun _ => .tuple #[.agg #[vi 0, vi 2, vi 0], .bool true]) (chg_at 1 rfl (bAct _ p.1 q p.2 (wz q) (by repeat' first | exact hE | apply EK.up) (by repeat' first | exact bKC q _ | apply KC.up) 2 (wz_B q) (by omega) 0 0 (by omega) 1 1 0 3 (kwt_1 q)))) (fun _ => ?_) 6
 refine Xr [(0,.bool false), (1,.pointer (some ⟨p.1, 0, none⟩)), (3,.bool false), (45,.agg #[vi 0, vi 2, vi 0]), (46,.bool true)] ?_ 3 3
 refine Xs (Xn 31 [vi 0, vi 0, vi 0] (some 4) (fun b => vp b)) (fun b2 => ?_) 2
 refine Xs (Xz [(0,vi 0), (1,vi 2), (2,vi 0)]) (fun _ => ?_) 1
 refine Xe [(4,vp b2), (0,.bool false), (1,.pointer (some ⟨p.1, 0, none⟩)), (3,.bool false), (5,.bool true)] ?_ 1
 refine Xq (Xg 9 (Xr [(4,vp b2), (0,.bool false), (1,.pointer (some ⟨p.1, 0, none⟩)), (3,.bool false), (5,.bool true), (48,.pointer (some ⟨p.1, 0, none⟩)), (49,.agg #[vi 11, vi 3, vi 77])] ?_ 7 2))
 refine Xs (Xa (some 50) (fun _ => .tuple #[.agg #[vi 0, vi 0, vi 0], .bool true]) (chg_at 2 rfl (bAct _ p.1 q p.2 (kw1 q) (by repeat' first | exact hE | apply EK.up) (by repeat' first | exact bKC q _ | apply KC.up) 3 (act_B (wz_B q) (by omega) 0 0 1 0 3) (by omega) 1 0 (by omega) 1 11 3 77 (kwt_2 q)))) (fun _ => ?_) 6
 refine Xr [(4,vp b2), (0,.bool false), (1,.pointer (some ⟨p.1, 0, none⟩)), (3,.bool false), (5,.bool true), (51,.agg #[vi 0, vi 0, vi 0]), (52,.bool true)] ?_ 3 3
 refine Xs (Xn 31 [vi 0, vi 0, vi 0] (some 6) (fun b => vp b)) (fun b3 => ?_) 2
 refine Xs (Xz [(0,vi 0), (1,vi 0), (2,vi 0)]) (fun _ => ?_) 1
 refine Xe [(6,vp b3), (4,vp b2), (0,.bool false), (1,.pointer (some ⟨p.1, 0, none⟩)), (3,.bool false), (5,.bool true)] ?_ 1
 refine Xq (Xg 9 (Xr [(6,vp b3), (4,vp b2), (0,.bool false), (1,.pointer (some ⟨p.1, 0, none⟩)), (3,.bool false), (5,.bool true), (54,.pointer (some ⟨p.1, 0, none⟩)), (55,.agg #[vi 12, vi 0, vi 0])] ?_ 7 2))
 refine Xs (Xa (some 56) (fun _ => .tuple #[.agg #[vi 0, vi 0, vi 77], .bool true]) (chg_at 3 rfl (bAct _ p.1 q p.2 (kw2 q) (by repeat' first | exact hE | apply EK.up) (by repeat' first | exact bKC q _ | apply KC.up) 4 (act_B (act_B (wz_B q) (by omega) 0 0 1 0 3) (by omega) 1 0 11 3 77) (by omega) 2 3 (by omega) 1 12 0 0 (kwt_3 q)))) (fun _ => ?_) 6
 refine Xr [(6,vp b3), (4,vp b2), (0,.bool false), (1,.pointer (some ⟨p.1, 0, none⟩)), (3,.bool false), (5,.bool true), (57,.agg #[vi 0, vi 0, vi 77]), (58,.bool true)] ?_ 3 3
 refine Xs (Xn 31 [vi 0, vi 0, vi 0] (some 8) (fun b => vp b)) (fun b4 => ?_) 2
 refine Xs (Xz [(0,vi 0), (1,vi 0), (2,vi 77)]) (fun _ => ?_) 1
 refine Xe [(8,vp b4), (6,vp b3), (4,vp b2), (0,.bool false), (1,.pointer (some ⟨p.1, 0, none⟩)), (3,.bool false), (5,.bool true)] ?_ 1
 refine Xq (Xg 9 (Xr [(8,vp b4), (6,vp b3), (4,vp b2), (0,.bool false), (1,.pointer (some ⟨p.1, 0, none⟩)), (3,.bool false), (5,.bool true), (60,.pointer (some ⟨p.1, 0, none⟩)), (61,.agg #[vi 10, vi 0, vi 0])] ?_ 7 2))
 refine Xs (Xa (some 62) (fun _ => .tuple #[.agg #[vi 0, vi 1, vi 100], .bool true]) (chg_at 4 rfl (bAct _ p.1 q p.2 (kw3 q) (by repeat' first | exact hE | apply EK.up) (by repeat' first | exact bKC q _ | apply KC.up) 5 (act_B (act_B (act_B (wz_B q) (by omega) 0 0 1 0 3) (by omega) 1 0 11 3 77) (by omega) 2 3 12 0 0) (by omega) 3 3 (by omega) 1 10 0 0 (kwt_4 q)))) (fun _ => ?_) 6
 refine Xr [(8,vp b4), (6,vp b3), (4,vp b2), (0,.bool false), (1,.pointer (some ⟨p.1, 0, none⟩)), (3,.bool false), (5,.bool true), (63,.agg #[vi 0, vi 1, vi 100]), (64,.bool true)] ?_ 3 3
 refine Xs (Xn 31 [vi 0, vi 0, vi 0] (some 10) (fun b => vp b)) (fun b5 => ?_) 2
 refine Xs (Xz [(0,vi 0), (1,vi 1), (2,vi 100)]) (fun _ => ?_) 1
 refine Xe [(10,vp b5), (8,vp b4), (6,vp b3), (4,vp b2), (0,.bool false), (1,.pointer (some ⟨p.1, 0, none⟩)), (3,.bool false), (5,.bool true)] ?_ 1
 refine Xq (Xg 9 (Xr [(10,vp b5), (8,vp b4), (6,vp b3), (4,vp b2), (0,.bool false), (1,.pointer (some ⟨p.1, 0, none⟩)), (3,.bool false), (5,.bool true), (66,.pointer (some ⟨p.1, 0, none⟩)), (67,.agg #[vi 10, vi 3, vi 0])] ?_ 7 2))
 refine Xs (Xa (some 68) (fun _ => .tuple #[.agg #[vi 15, vi 0, vi 0], .bool true]) (chg_at 5 rfl (bAct _ p.1 q p.2 (kw4 q) (by repeat' first | exact hE | apply EK.up) (by repeat' first | exact bKC q _ | apply KC.up) 6 (act_B (act_B (act_B (act_B (wz_B q) (by omega) 0 0 1 0 3) (by omega) 1 0 11 3 77) (by omega) 2 3 12 0 0) (by omega) 3 3 10 0 0) (by omega) 4 0 (by omega) 1 10 3 0 (kwt_5 q)))) (fun _ => ?_) 6
 refine Xr [(10,vp b5), (8,vp b4), (6,vp b3), (4,vp b2), (0,.bool false), (1,.pointer (some ⟨p.1, 0, none⟩)), (3,.bool false), (5,.bool true), (69,.agg #[vi 15, vi 0, vi 0]), (70,.bool true)] ?_ 3 3
 refine Xs (Xn 31 [vi 0, vi 0, vi 0] (some 12) (fun b => vp b)) (fun b6 => ?_) 2
 refine Xs (Xz [(0,vi 15), (1,vi 0), (2,vi 0)]) (fun _ => ?_) 1
 refine Xe [(12,vp b6), (10,vp b5), (8,vp b4), (6,vp b3), (4,vp b2), (0,.bool false), (1,.pointer (some ⟨p.1, 0, none⟩)), (3,.bool false), (5,.bool true)] ?_ 1
 refine Xq (Xg 9 (Xr [(12,vp b6), (10,vp b5), (8,vp b4), (6,vp b3), (4,vp b2), (0,.bool false), (1,.pointer (some ⟨p.1, 0, none⟩)), (3,.bool false), (5,.bool true), (72,.pointer (some ⟨p.1, 0, none⟩)), (73,.agg #[vi 99, vi 0, vi 0])] ?_ 7 2))
 refine Xs (Xa (some 74) (fun _ => .tuple #[.agg #[vi 16, vi 0, vi 0], .bool true]) (chg_at 6 rfl (bAct _ p.1 q p.2 (kw5 q) (by repeat' first | exact hE | apply EK.up) (by repeat' first | exact bKC q _ | apply KC.up) 7 (act_B (act_B (act_B (act_B (act_B (wz_B q) (by omega) 0 0 1 0 3) (by omega) 1 0 11 3 77) (by omega) 2 3 12 0 0) (by omega) 3 3 10 0 0) (by omega) 4 0 10 3 0) (by omega) 5 0 (by omega) 1 99 0 0 (kwt_6 q)))) (fun _ => ?_) 6
 refine Xr [(12,vp b6), (10,vp b5), (8,vp b4), (6,vp b3), (4,vp b2), (0,.bool false), (1,.pointer (some ⟨p.1, 0, none⟩)), (3,.bool false), (5,.bool true), (75,.agg #[vi 16, vi 0, vi 0]), (76,.bool true)] ?_ 3 3
 refine Xs (Xn 31 [vi 0, vi 0, vi 0] (some 14) (fun b => vp b)) (fun b7 => ?_) 2
 refine Xs (Xz [(0,vi 16), (1,vi 0), (2,vi 0)]) (fun _ => ?_) 1
 refine Xe [(14,vp b7), (12,vp b6), (10,vp b5), (8,vp b4), (6,vp b3), (4,vp b2), (0,.bool false), (1,.pointer (some ⟨p.1, 0, none⟩)), (3,.bool false), (5,.bool true)] ?_ 1
 refine Xq (Xg 42 (Xl [(14,vp b7), (12,vp b6), (10,vp b5), (8,vp b4), (6,vp b3), (0,.bool false), (1,.pointer (some ⟨p.1, 0, none⟩)), (82,.bool true), (83,.agg #[vi 0, vi 2, vi 0]), (84,.agg #[vi 0, vi 2, vi 0])] [(⟨b2, 0, none⟩, vi 0), (⟨b2, 1, none⟩, vi 2), (⟨b2, 2, none⟩, vi 0)] (hasC (ba 5) (hasC (ba 5) (hasC (ba 5) has0))) ?_ 34 8))
 refine Xs (yldS (eqY0 31 31 (.tmp 83) (.tmp 84) [.int .i64 0, .int .i64 2, .int .i64 0] [.int .i64 0, .int .i64 2, .int .i64 0] true 85)) (fun _ => ?_) 33
 refine Xl [(14,vp b7), (12,vp b6), (10,vp b5), (8,vp b4), (0,.bool false), (1,.pointer (some ⟨p.1, 0, none⟩)), (87,.bool true), (88,.agg #[vi 0, vi 0, vi 0]), (89,.agg #[vi 0, vi 0, vi 0])] [(⟨b3, 0, none⟩, vi 0), (⟨b3, 1, none⟩, vi 0), (⟨b3, 2, none⟩, vi 0)] (hasC (ba 4) (hasC (ba 4) (hasC (ba 4) has0))) ?_ 29 4
 refine Xs (yldS (eqY0 31 31 (.tmp 88) (.tmp 89) [.int .i64 0, .int .i64 0, .int .i64 0] [.int .i64 0, .int .i64 0, .int .i64 0] true 90)) (fun _ => ?_) 28
 refine Xl [(14,vp b7), (12,vp b6), (10,vp b5), (0,.bool false), (1,.pointer (some ⟨p.1, 0, none⟩)), (92,.bool true), (93,.agg #[vi 0, vi 0, vi 77]), (94,.agg #[vi 0, vi 0, vi 77])] [(⟨b4, 0, none⟩, vi 0), (⟨b4, 1, none⟩, vi 0), (⟨b4, 2, none⟩, vi 77)] (hasC (ba 3) (hasC (ba 3) (hasC (ba 3) has0))) ?_ 24 4
 refine Xs (yldS (eqY0 31 31 (.tmp 93) (.tmp 94) [.int .i64 0, .int .i64 0, .int .i64 77] [.int .i64 0, .int .i64 0, .int .i64 77] true 95)) (fun _ => ?_) 23
 refine Xl [(14,vp b7), (12,vp b6), (0,.bool false), (1,.pointer (some ⟨p.1, 0, none⟩)), (97,.bool true), (98,.agg #[vi 0, vi 1, vi 100]), (99,.agg #[vi 0, vi 1, vi 100])] [(⟨b5, 0, none⟩, vi 0), (⟨b5, 1, none⟩, vi 1), (⟨b5, 2, none⟩, vi 100)] (hasC (ba 2) (hasC (ba 2) (hasC (ba 2) has0))) ?_ 19 4
 refine Xs (yldS (eqY0 31 31 (.tmp 98) (.tmp 99) [.int .i64 0, .int .i64 1, .int .i64 100] [.int .i64 0, .int .i64 1, .int .i64 100] true 100)) (fun _ => ?_) 18
 refine Xl [(14,vp b7), (0,.bool false), (1,.pointer (some ⟨p.1, 0, none⟩)), (102,.bool true), (103,.agg #[vi 15, vi 0, vi 0]), (104,.agg #[vi 15, vi 0, vi 0])] [(⟨b6, 0, none⟩, vi 15), (⟨b6, 1, none⟩, vi 0), (⟨b6, 2, none⟩, vi 0)] (hasC (ba 1) (hasC (ba 1) (hasC (ba 1) has0))) ?_ 14 4
 refine Xs (yldS (eqY0 31 31 (.tmp 103) (.tmp 104) [.int .i64 15, .int .i64 0, .int .i64 0] [.int .i64 15, .int .i64 0, .int .i64 0] true 105)) (fun _ => ?_) 13
 refine Xl [(0,.bool false), (1,.pointer (some ⟨p.1, 0, none⟩)), (107,.bool true), (108,.agg #[vi 16, vi 0, vi 0]), (109,.agg #[vi 16, vi 0, vi 0])] [(⟨b7, 0, none⟩, vi 16), (⟨b7, 1, none⟩, vi 0), (⟨b7, 2, none⟩, vi 0)] (hasC (ba 0) (hasC (ba 0) (hasC (ba 0) has0))) ?_ 9 4
 refine Xs (yldS (eqY0 31 31 (.tmp 108) (.tmp 109) [.int .i64 16, .int .i64 0, .int .i64 0] [.int .i64 16, .int .i64 0, .int .i64 0] true 110)) (fun _ => ?_) 8
 refine Xr [(0,.bool false), (112,.bool true), (113,.pointer (some ⟨p.1, 0, none⟩))] ?_ 5 3
 refine Xs (Xa (some 114) (fun (r : Option Addr × Nat) => .slice r.1 2 r.2) ((by have h := new_at (H := (blk b7 31 [.int .i64 16, .int .i64 0, .int .i64 0] :: blk b6 31 [.int .i64 15, .int .i64 0, .int .i64 0] :: blk b5 31 [.int .i64 0, .int .i64 1, .int .i64 100] :: blk b4 31 [.int .i64 0, .int .i64 0, .int .i64 77] :: blk b3 31 [.int .i64 0, .int .i64 0, .int .i64 0] :: blk b2 31 [.int .i64 0, .int .i64 2, .int .i64 0] :: blk b1 31 [.int .i64 0, .int .i64 0, .int .i64 0] :: wdS p.1 (bC q) p.2 (kw6 q) :: bS q :: H)) 7 rfl (wRecords_c _ p.1 (bC q) p.2 (kw6 q) 0 (by show 0 < 4; omega)); rw [kwt_7] at h; exact h))) (fun (r : Option Addr × Nat) => ?_) 4
 refine Xe [(0,.bool true)] ?_ 4
 refine Xv (Y0 (.bool true) (fun w hs => ?_))
 exact ⟨(), rfl, Sat.right (R := [_, _, _, _, _, _, _, _, _, _]) hs⟩
end Go.Proofs.YtfhkgohokbkgiaaGreatDoor
set_option linter.unusedVariables false
set_option linter.unusedSimpArgs false
namespace Go.Proofs.YtfhkgohokbkgiaaGreatDoor
open Go.RowKit G
def rdyOf (N : List Nr) (id : Int) : Bool := ((gt N id).getD zeroN).rdy
theorem rdyOf_at {N : List Nr} (hn : (N.map (·.id)).Nodup) {u : Nat} {x : Nr} (h : (nodesN N)[u]? = some x) : rdyOf N x.id = x.rdy := by
 rw [rdyOf, gt_of hn (nodesN_mem hn h)]; rfl
theorem rdyOf_none {N : List Nr} (hn : (N.map (·.id)).Nodup) {id : Int} (h : ∀ x ∈ nodesN N, x.id ≠ id) : rdyOf N id = false := by
 have : gt N id = none := gt_none.2 fun x hx => h x ((nodesN_perm hn).mem_iff.2 hx)
 rw [rdyOf, this]; rfl
end Go.Proofs.YtfhkgohokbkgiaaGreatDoor
