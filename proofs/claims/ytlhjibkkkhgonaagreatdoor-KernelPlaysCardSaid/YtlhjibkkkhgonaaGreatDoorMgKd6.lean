/- Texts put together: The document's kernel as one part of memory: Exit, Sleep, Wait, Signal. The document's kernel as one part of memory: Wake, Runnable, Live, NewKernel. tontineref1.SameInts. errors.As of numbered errors, at a variable of their type: its walk. The document's kernel as one part of memory: what its operations make of it; a kernel's Weight. Nodes compared; SameNodes. Conditions: none. -/
import Derived.Test.YtlhjibkkkhgonaaGreatDoorMgKd5
import Derived.LaidEql
import Derived.Stop.Asserts
import Derived.RowKitTokens
import Derived.LaidHandle
set_option linter.unusedVariables false
set_option linter.unusedSimpArgs false
namespace Go.Proofs.YtlhjibkkkhgonaaGreatDoor
open Go.RowKit G
theorem kexit_is {s : KS} (h : KOk s) {k : Int} (ht : isT s.N k = true) : kexit s k = (0, { s with N := (removeN s.N k).2, tm := tmDrop k s.tm, ob := obCut s.ob k }) := by
 obtain ⟨N', e, _⟩ := kexit_see h ht
 have e2 : kexit s k = ((removeN s.N k).1, { s with N := (removeN s.N k).2, tm := tmDrop k s.tm, ob := obCut s.ob k }) := by rw [kexit, if_neg (by rw [ht]; simp)]
 rw [e2] at e ⊢
 rw [(Prod.ext_iff.1 e).1]
theorem ksleep_is {s : KS} (h : KOk s) {k : Int} (hr : isR s.N k = true) (u : Int) : ksleep s k u = (0, { s with N := (readyN s.N k false).2, tm := tmSet k u s.tm }) := by
 rw [ksleep, if_neg (by rw [hr]; simp), (ready_see h.wf.sk (isR_isT hr) false).1]
theorem obSig_met {s : KS} (h : KOk s) {j : Int} (hm : (obSig s.ob j).1.2.1 = true) : (obSig s.ob j).1.2.2 = 0 ∧ isT s.N (obSig s.ob j).1.1 = true := by
 unfold obSig at hm ⊢
 by_cases hj : isOb j = false
 ·rw [if_pos hj] at hm; cases hm
 ·rw [if_neg hj] at hm ⊢
  have hj : isOb j = true := by simpa using hj
  obtain ⟨a1, a2, a3⟩ := obAt_some h.ob hj
  cases hl : (obAt s.ob j).2 with
  | nil => rw [hl] at hm; cases hm
  | cons x r => exact ⟨rfl, ((off_iff h.wf.sk).1 (h.obo _ a2 x (by rw [hl]; simp))).1⟩
theorem obSig_not {s : KS} {j : Int} (hm : (obSig s.ob j).1.2.1 = false) : ksignal s j = ((obSig s.ob j).1.2.2, { s with ob := (obSig s.ob j).2 }) := by rw [ksignal, if_pos (.inr hm)]
set_option maxHeartbeats 1000000 in
set_option maxRecDepth 100000 in
theorem rkexit_walk (H : List SP) (k t : Nat) (L : List Nr) (a : Option Addr) (c : Nat) (Z : O4) (s : KS) (hk : KOk s) (hT : TRel s.N L) (hZ : Z.ob = s.ob) (id : Int) : ∀ w, Sat w (blk k 55 [vp t, .slice a s.tm.length c, vi Z.z0.c, vi Z.z1.c, vi Z.z2.c, vi Z.z3.c, .slice Z.z0.a Z.z0.l.length Z.z0.k, .slice Z.z1.a Z.z1.l.length Z.z1.k, .slice Z.z2.a Z.z2.l.length Z.z2.k, .slice Z.z3.a Z.z3.l.length Z.z3.k, vi s.mt, vi s.mg, vi (s.nx - 1)] :: rtS t L :: row tmE 141 (.slice a s.tm.length c) s.tm :: row (kE .i64) 3 (.slice Z.z0.a Z.z0.l.length Z.z0.k) Z.z0.l :: row (kE .i64) 3 (.slice Z.z1.a Z.z1.l.length Z.z1.k) Z.z1.l :: row (kE .i64) 3 (.slice Z.z2.a Z.z2.l.length Z.z2.k) Z.z2.l :: row (kE .i64) 3 (.slice Z.z3.a Z.z3.l.length Z.z3.k) Z.z3.l :: H) → Calls Tryz.prog 13 #[vp k, vi id] w (Ret (ι := Unit) (fun _ => vi (kexit s id).1) fun _ => rkS k (kexit s id).2 :: H) := by
 have hw := hk.wf
 have hwL := hT.wf hw
 refine enterG (fn := Tryz.f13) 25 [vp k, vi id] Tryz.func13 (by kernel_rfl) (by kernel_rfl) (by kernel_rfl) ?_
 refine Xq (Xg 1 (Xe [(0,vp k), (1,vi id), (4,vi 0)] ?_ 1))
 refine Xq (Xq (Xg 4 (Xr [(0,vp k), (1,vi id), (4,vi 0), (5,vp k), (6,vi id)] ?_ 2 2)))
 refine Xs (Xa (some 7) (fun _ => .bool (isT s.N id)) ((by have h := rkthr_walk (row tmE 141 (.slice a s.tm.length c) s.tm :: row (kE .i64) 3 (.slice Z.z0.a Z.z0.l.length Z.z0.k) Z.z0.l :: row (kE .i64) 3 (.slice Z.z1.a Z.z1.l.length Z.z1.k) Z.z1.l :: row (kE .i64) 3 (.slice Z.z2.a Z.z2.l.length Z.z2.k) Z.z2.l :: row (kE .i64) 3 (.slice Z.z3.a Z.z3.l.length Z.z3.k) Z.z3.l :: H) k t L a c s.tm Z s.mt s.mg (s.nx - 1) hwL id; rw [hT.isT hw] at h; exact h))) (fun _ => ?_) 1
 cases ht : isT s.N id with
 | false =>
  refine Xe [(0,vp k), (1,vi id), (4,vi 0), (8,.bool true)] ?_ 1
  refine Xc true (fun _ => ?_) (fun h => by cases h)
  refine Xq (Xg 1 (Xe [(0,vp k), (1,vi id), (4,vi 13)] ?_ 1))
  refine Xv (thenV ?_)
  have e : kexit s id = (13, s) := by rw [kexit, if_pos ht]
  refine Y0 (vi 13) (fun w hs => ?_)
  exact ⟨(), by rw [e], by rw [e]; exact Sat.closeRk hk hT hZ hs⟩
 | true =>
  have e := kexit_is hk ht
  have e2 := kexit_ok hk id
  rw [e] at e2
  have hf : s.tm.filter (nId id) = tmDrop id s.tm := (tmDrop_filter id s.tm hk.tm).symm
  have hR := hT.remove hw id
  refine Xe [(0,vp k), (1,vi id), (4,vi 0), (8,.bool false)] ?_ 1
  refine Xc false (fun h => by cases h) (fun _ => ?_)
  refine Xk (Xq (Xg 5 (Xr [(0,vp k), (1,vi id), (4,vi 0), (11,vq k 1), (12,vi id)] ?_ 1 4)))
  refine Xh0 ?_ 1 1
  refine Xh0 ?_ 2 1
  refine Xh0 ?_ 2 1
  refine Xs (Xa (some 13) (fun (q : Option Addr × Nat) => .bool (decide (((tmDrop id s.tm).length : Int) < s.tm.length))) ((by have h := rtdrop_walk (rtS t L :: row (kE .i64) 3 (.slice Z.z0.a Z.z0.l.length Z.z0.k) Z.z0.l :: row (kE .i64) 3 (.slice Z.z1.a Z.z1.l.length Z.z1.k) Z.z1.l :: row (kE .i64) 3 (.slice Z.z2.a Z.z2.l.length Z.z2.k) Z.z2.l :: row (kE .i64) 3 (.slice Z.z3.a Z.z3.l.length Z.z3.k) Z.z3.l :: H) k t c a s.tm Z.z0 Z.z1 Z.z2 Z.z3 s.mt s.mg (s.nx - 1) id (by have := hk.tml; omega); rw [hf] at h; exact h))) (fun (q : Option Addr × Nat) => ?_) 0
  refine endR ?_
  refine Xq (Xg 5 (Xr [(0,vp k), (1,vi id), (4,vi 0), (16,vq k 2), (17,vi id)] ?_ 1 4))
  refine Xh0 ?_ 2 1
  refine Xh0 ?_ 2 1
  refine Xh0 ?_ 6 1
  refine Xh0 ?_ 6 1
  refine Xh0 ?_ 6 1
  refine Xh0 ?_ 6 1
  refine Xh0 ?_ 6 1
  refine Xs (Xa (some 18) (fun (Y : { Y : O4 × Bool // Y.1.ob = obCut s.ob id }) => .bool Y.1.2) ((by have h := rodrop_walk (row tmE 141 (.slice q.1 (tmDrop id s.tm).length q.2) (tmDrop id s.tm) :: rtS t L :: H) k t q.2 q.1 (tmDrop id s.tm) Z s.mt s.mg (s.nx - 1) id (by rw [hZ]; exact hk.obh); rw [hZ] at h; exact h))) (fun (Y : { Y : O4 × Bool // Y.1.ob = obCut s.ob id }) => ?_) 0
  refine endR ?_
  refine Xq (Xg 6 (Xl [(4,vi 0), (22,vp t), (23,vi id)] [(⟨k, 0, none⟩, vp t)] (hasC (ba 0) has0) ?_ 1 5))
  refine Xs (Xa (some 24) (fun _ => vi (removeN L id).1) (chg_at 6 rfl (rremove_walk _ t L hwL id))) (fun _ => ?_) 0
  refine endR ?_
  refine Xq (Xg 1 (Xe [(4,vi 0)] ?_ 1))
  refine Xv ?_
  refine PT.pick 4 rfl ?_
  refine PT.pick 4 rfl ?_
  refine PT.pick 4 rfl ?_
  refine PT.pick 4 rfl ?_
  refine PT.pick 5 rfl ?_
  refine PT.pick 6 rfl ?_
  refine PT.pick 6 rfl ?_
  refine Y0 (vi 0) (fun w hs => ?_)
  exact ⟨(), by rw [e], by rw [e]; exact Sat.closeRl e2 hR.2 Y.2 rfl hs⟩
set_option maxHeartbeats 1000000 in
set_option maxRecDepth 100000 in
theorem rksleep_walk (H : List SP) (k t : Nat) (L : List Nr) (a : Option Addr) (c : Nat) (Z : O4) (s : KS) (hk : KOk s) (hT : TRel s.N L) (hZ : Z.ob = s.ob) (id un : Int) : ∀ w, Sat w (blk k 55 [vp t, .slice a s.tm.length c, vi Z.z0.c, vi Z.z1.c, vi Z.z2.c, vi Z.z3.c, .slice Z.z0.a Z.z0.l.length Z.z0.k, .slice Z.z1.a Z.z1.l.length Z.z1.k, .slice Z.z2.a Z.z2.l.length Z.z2.k, .slice Z.z3.a Z.z3.l.length Z.z3.k, vi s.mt, vi s.mg, vi (s.nx - 1)] :: rtS t L :: row tmE 141 (.slice a s.tm.length c) s.tm :: row (kE .i64) 3 (.slice Z.z0.a Z.z0.l.length Z.z0.k) Z.z0.l :: row (kE .i64) 3 (.slice Z.z1.a Z.z1.l.length Z.z1.k) Z.z1.l :: row (kE .i64) 3 (.slice Z.z2.a Z.z2.l.length Z.z2.k) Z.z2.l :: row (kE .i64) 3 (.slice Z.z3.a Z.z3.l.length Z.z3.k) Z.z3.l :: H) → Calls Tryz.prog 15 #[vp k, vi id, vi un] w (Ret (ι := Unit) (fun _ => vi (ksleep s id un).1) fun _ => rkS k (ksleep s id un).2 :: H) := by
 have hw := hk.wf
 have hwL := hT.wf hw
 refine enterG (fn := Tryz.f15) 23 [vp k, vi id, vi un] Tryz.func15 (by kernel_rfl) (by kernel_rfl) (by kernel_rfl) ?_
 refine Xq (Xg 1 (Xe [(0,vp k), (1,vi id), (2,vi un), (6,vi 0)] ?_ 1))
 refine Xq (Xq (Xg 4 (Xr [(0,vp k), (1,vi id), (2,vi un), (6,vi 0), (7,vp k), (8,vi id)] ?_ 2 2)))
 refine Xs (Xa (some 9) (fun _ => .bool (isR s.N id)) ((by have h := rkrdy_walk (row tmE 141 (.slice a s.tm.length c) s.tm :: row (kE .i64) 3 (.slice Z.z0.a Z.z0.l.length Z.z0.k) Z.z0.l :: row (kE .i64) 3 (.slice Z.z1.a Z.z1.l.length Z.z1.k) Z.z1.l :: row (kE .i64) 3 (.slice Z.z2.a Z.z2.l.length Z.z2.k) Z.z2.l :: row (kE .i64) 3 (.slice Z.z3.a Z.z3.l.length Z.z3.k) Z.z3.l :: H) k t L a c s.tm Z s.mt s.mg (s.nx - 1) hwL id; rw [hT.isR hw] at h; exact h))) (fun _ => ?_) 1
 cases ht : isR s.N id with
 | false =>
  refine Xe [(0,vp k), (1,vi id), (2,vi un), (6,vi 0), (10,.bool true)] ?_ 1
  refine Xc true (fun _ => ?_) (fun h => by cases h)
  refine Xq (Xg 1 (Xe [(0,vp k), (1,vi id), (2,vi un), (6,vi 13)] ?_ 1))
  refine Xv (thenV ?_)
  have e := ksleep_off (u := un) ht
  refine Y0 (vi 13) (fun w hs => ?_)
  exact ⟨(), by rw [e], by rw [e]; exact Sat.closeRk hk hT hZ hs⟩
 | true =>
  have e := ksleep_is hk ht un
  have e2 := ksleep_ok hk id un
  rw [e] at e2
  have hR := hT.ready hw id false
  refine Xe [(0,vp k), (1,vi id), (2,vi un), (6,vi 0), (10,.bool false)] ?_ 1
  refine Xc false (fun h => by cases h) (fun _ => ?_)
  refine Xk (Xq (Xg 6 (Xr [(0,vp k), (1,vi id), (6,vi 0), (13,vq k 1), (14,vi id), (15,vi un)] ?_ 1 5)))
  refine Xh0 ?_ 1 1
  refine Xh0 ?_ 2 1
  refine Xh0 ?_ 2 1
  refine Xs (Xa (some 16) (fun (q : Option Addr × Nat) => .tuple #[]) ((rtset_walk (rtS t L :: row (kE .i64) 3 (.slice Z.z0.a Z.z0.l.length Z.z0.k) Z.z0.l :: row (kE .i64) 3 (.slice Z.z1.a Z.z1.l.length Z.z1.k) Z.z1.l :: row (kE .i64) 3 (.slice Z.z2.a Z.z2.l.length Z.z2.k) Z.z2.l :: row (kE .i64) 3 (.slice Z.z3.a Z.z3.l.length Z.z3.k) Z.z3.l :: H) k t c a s.tm Z.z0 Z.z1 Z.z2 Z.z3 s.mt s.mg (s.nx - 1) id un (by have := hk.tml; omega) hk.tm))) (fun (q : Option Addr × Nat) => ?_) 0
  refine endR ?_
  refine Xq (Xg 6 (Xl [(6,vi 0), (20,vp t), (21,vi id)] [(⟨k, 0, none⟩, vp t)] (hasC (ba 0) has0) ?_ 1 5))
  refine Xs (Xa (some 22) (fun _ => vi (readyN L id false).1) (chg_at 2 rfl (rready_walk _ t L hwL id false))) (fun _ => ?_) 0
  refine endR ?_
  refine Xq (Xg 1 (Xe [(6,vi 0)] ?_ 1))
  refine Xv ?_
  refine PT.pick 1 rfl ?_
  refine PT.pick 2 rfl ?_
  refine PT.pick 2 rfl ?_
  refine Y0 (vi 0) (fun w hs => ?_)
  exact ⟨(), by rw [e], by rw [e]; exact Sat.closeRl e2 hR.2 hZ rfl hs⟩
set_option maxHeartbeats 1000000 in
set_option maxRecDepth 100000 in
theorem rkwait_walk (H : List SP) (k t : Nat) (L : List Nr) (a : Option Addr) (c : Nat) (Z : O4) (s : KS) (hk : KOk s) (hT : TRel s.N L) (hZ : Z.ob = s.ob) (id j : Int) : ∀ w, Sat w (blk k 55 [vp t, .slice a s.tm.length c, vi Z.z0.c, vi Z.z1.c, vi Z.z2.c, vi Z.z3.c, .slice Z.z0.a Z.z0.l.length Z.z0.k, .slice Z.z1.a Z.z1.l.length Z.z1.k, .slice Z.z2.a Z.z2.l.length Z.z2.k, .slice Z.z3.a Z.z3.l.length Z.z3.k, vi s.mt, vi s.mg, vi (s.nx - 1)] :: rtS t L :: row tmE 141 (.slice a s.tm.length c) s.tm :: row (kE .i64) 3 (.slice Z.z0.a Z.z0.l.length Z.z0.k) Z.z0.l :: row (kE .i64) 3 (.slice Z.z1.a Z.z1.l.length Z.z1.k) Z.z1.l :: row (kE .i64) 3 (.slice Z.z2.a Z.z2.l.length Z.z2.k) Z.z2.l :: row (kE .i64) 3 (.slice Z.z3.a Z.z3.l.length Z.z3.k) Z.z3.l :: H) → Calls Tryz.prog 17 #[vp k, vi id, vi j] w (Ret (ι := Unit) (fun _ => .tuple #[.bool (kwait s id j).1.1, vi (kwait s id j).1.2]) fun _ => rkS k (kwait s id j).2 :: H) := by
 have hw := hk.wf
 have hwL := hT.wf hw
 refine enterG (fn := Tryz.f17) 37 [vp k, vi id, vi j] Tryz.func17 (by kernel_rfl) (by kernel_rfl) (by kernel_rfl) ?_
 refine Xq (Xg 2 (Xe [(0,vp k), (1,vi id), (2,vi j), (6,.bool false), (7,vi 0)] ?_ 2))
 refine Xq (Xq (Xg 4 (Xr [(0,vp k), (1,vi id), (2,vi j), (6,.bool false), (7,vi 0), (10,vp k), (11,vi id)] ?_ 2 2)))
 refine Xs (Xa (some 12) (fun _ => .bool (isR s.N id)) ((by have h := rkrdy_walk (row tmE 141 (.slice a s.tm.length c) s.tm :: row (kE .i64) 3 (.slice Z.z0.a Z.z0.l.length Z.z0.k) Z.z0.l :: row (kE .i64) 3 (.slice Z.z1.a Z.z1.l.length Z.z1.k) Z.z1.l :: row (kE .i64) 3 (.slice Z.z2.a Z.z2.l.length Z.z2.k) Z.z2.l :: row (kE .i64) 3 (.slice Z.z3.a Z.z3.l.length Z.z3.k) Z.z3.l :: H) k t L a c s.tm Z s.mt s.mg (s.nx - 1) hwL id; rw [hT.isR hw] at h; exact h))) (fun _ => ?_) 1
 cases ht : isR s.N id with
 | false =>
  refine Xe [(0,vp k), (1,vi id), (2,vi j), (6,.bool false), (7,vi 0), (13,.bool true)] ?_ 1
  refine Xc true (fun _ => ?_) (fun h => by cases h)
  refine Xq (Xg 2 (Xe [(0,vp k), (1,vi id), (2,vi j), (6,.bool false), (7,vi 13)] ?_ 2))
  refine Xv (thenV ?_)
  have e := kwait_off (j := j) ht
  refine Y0 (.tuple #[.bool false, vi 13]) (fun w hs => ?_)
  exact ⟨(), by rw [e], by rw [e]; exact Sat.closeRk hk hT hZ hs⟩
 | true =>
  have e2 := kwait_ok hk id j
  have hR := hT.ready hw id false
  refine Xe [(0,vp k), (1,vi id), (2,vi j), (6,.bool false), (7,vi 0), (13,.bool false)] ?_ 1
  refine Xc false (fun h => by cases h) (fun _ => ?_)
  refine Xk (Xq (Xg 11 (Xr [(0,vp k), (1,vi id), (6,.bool false), (7,vi 0), (17,vq k 2), (18,vi id), (19,vi j)] ?_ 6 5)))
  refine Xh0 ?_ 2 6
  refine Xh0 ?_ 2 6
  refine Xh0 ?_ 6 6
  refine Xh0 ?_ 6 6
  refine Xh0 ?_ 6 6
  refine Xh0 ?_ 6 6
  refine Xh0 ?_ 6 6
  refine Xs (Xa (some 20) (fun (Y : { Y : O4 // Y.ob = (obWait s.ob id j).2 }) => .tuple #[.bool (obWait s.ob id j).1.1, vi (obWait s.ob id j).1.2]) ((by have h := rowait_walk (rtS t L :: row tmE 141 (.slice a s.tm.length c) s.tm :: H) k t c a s.tm Z s.mt s.mg (s.nx - 1) id j (by rw [hZ]; exact hk.obh); rw [hZ] at h; exact h))) (fun (Y : { Y : O4 // Y.ob = (obWait s.ob id j).2 }) => ?_) 5
  refine Xe [(0,vp k), (1,vi id), (6,.bool false), (7,vi 0), (8,.bool ((obWait s.ob id j).1.1)), (9,vi ((obWait s.ob id j).1.2))] ?_ 5
  refine Xq (Xq (Xg 6 (Xr [(0,vp k), (1,vi id), (6,.bool false), (7,vi 0), (8,.bool ((obWait s.ob id j).1.1)), (9,vi ((obWait s.ob id j).1.2)), (25,.bool (((obWait s.ob id j).1.2) == 0))] ?_ 3 3)))
  refine (Xs0 0 3 [(0,vp k), (1,vi id), (6,.bool false), (7,vi 0), (8,.bool ((obWait s.ob id j).1.1)), (9,vi ((obWait s.ob id j).1.2)), (28,.bool ((((obWait s.ob id j).1.2) == 0) && (!((obWait s.ob id j).1.1))))] ?_ ?_ : RT _ _ _ _ _ _ 3 _)
  ·cases hg3 : (((obWait s.ob id j).1.2) == 0) with
   | true =>
    refine Xe [(0,vp k), (1,vi id), (6,.bool false), (7,vi 0), (8,.bool ((obWait s.ob id j).1.1)), (9,vi ((obWait s.ob id j).1.2)), (28,.bool (!((obWait s.ob id j).1.1)))] ?_ 3
    refine Xp [(0,vp k), (1,vi id), (6,.bool false), (7,vi 0), (8,.bool ((obWait s.ob id j).1.1)), (9,vi ((obWait s.ob id j).1.2)), (28,.bool (true && (!((obWait s.ob id j).1.1))))] ?_
    exact midR () rfl rfl
   | false =>
    refine Xe [(0,vp k), (1,vi id), (6,.bool false), (7,vi 0), (8,.bool ((obWait s.ob id j).1.1)), (9,vi ((obWait s.ob id j).1.2)), (28,.bool false)] ?_ 3
    refine Xp [(0,vp k), (1,vi id), (6,.bool false), (7,vi 0), (8,.bool ((obWait s.ob id j).1.1)), (9,vi ((obWait s.ob id j).1.2)), (28,.bool (false && (!((obWait s.ob id j).1.1))))] ?_
    exact midR () rfl rfl
  refine endR ?_
  refine Xc ((((obWait s.ob id j).1.2) == 0) && (!((obWait s.ob id j).1.1))) (fun h1 => ?_) (fun h1 => ?_)
  ·skip
   have h1' : (obWait s.ob id j).1.2 = 0 ∧ (obWait s.ob id j).1.1 = false := by simpa using h1
   have e : kwait s id j = ((false, 0), { s with N := (readyN s.N id false).2, ob := (obWait s.ob id j).2 }) := by rw [kwait, if_neg (by rw [ht]; simp), if_neg (by simp [h1'.1, h1'.2]), (ready_see hk.wf.sk (isR_isT ht) false).1]
   rw [e] at e2
   refine Xg 6 (Xl [(6,.bool false), (7,vi 0), (8,.bool ((obWait s.ob id j).1.1)), (9,vi ((obWait s.ob id j).1.2)), (32,vp t), (33,vi id)] [(⟨k, 0, none⟩, vp t)] (hasC (ba 0) has0) ?_ 1 5)
   refine Xs (Xa (some 34) (fun _ => vi (readyN L id false).1) (chg_at 5 rfl (rready_walk _ t L hwL id false))) (fun _ => ?_) 0
   refine endR ?_
   refine Xq (Xg 4 (Xe [(6,.bool ((obWait s.ob id j).1.1)), (7,vi ((obWait s.ob id j).1.2))] ?_ 4))
   refine Xv ?_
   refine PT.pick 4 rfl ?_
   refine PT.pick 4 rfl ?_
   refine PT.pick 4 rfl ?_
   refine PT.pick 4 rfl ?_
   refine PT.pick 6 rfl ?_
   refine PT.pick 6 rfl ?_
   refine PT.pick 6 rfl ?_
   refine Y0 (.tuple #[.bool ((obWait s.ob id j).1.1), vi ((obWait s.ob id j).1.2)]) (fun w hs => ?_)
   exact ⟨(), by rw [e, h1'.1, h1'.2], by rw [e]; exact Sat.closeRl e2 hR.2 Y.2 rfl hs⟩
  ·skip
   have h1' : (obWait s.ob id j).1.2 ≠ 0 ∨ (obWait s.ob id j).1.1 = true := by simp only [Bool.and_eq_false_iff] at h1; rcases h1 with h1 | h1; exact .inl (by simpa using h1); exact .inr (by simpa using h1)
   have e : kwait s id j = ((obWait s.ob id j).1, { s with ob := (obWait s.ob id j).2 }) := by rw [kwait, if_neg (by rw [ht]; simp), if_pos h1']
   rw [e] at e2
   refine Xk (Xq (Xg 4 (Xe [(6,.bool ((obWait s.ob id j).1.1)), (7,vi ((obWait s.ob id j).1.2))] ?_ 4)))
   refine Xv ?_
   refine PT.pick 4 rfl ?_
   refine PT.pick 4 rfl ?_
   refine PT.pick 4 rfl ?_
   refine PT.pick 4 rfl ?_
   refine PT.pick 6 rfl ?_
   refine PT.pick 6 rfl ?_
   refine PT.pick 6 rfl ?_
   refine Y0 (.tuple #[.bool ((obWait s.ob id j).1.1), vi ((obWait s.ob id j).1.2)]) (fun w hs => ?_)
   exact ⟨(), by rw [e], by rw [e]; exact Sat.closeRl e2 hT Y.2 rfl hs⟩
set_option maxHeartbeats 1000000 in
set_option maxRecDepth 100000 in
theorem rksignal_walk (H : List SP) (k t : Nat) (L : List Nr) (a : Option Addr) (c : Nat) (Z : O4) (s : KS) (hk : KOk s) (hT : TRel s.N L) (hZ : Z.ob = s.ob) (j : Int) : ∀ w, Sat w (blk k 55 [vp t, .slice a s.tm.length c, vi Z.z0.c, vi Z.z1.c, vi Z.z2.c, vi Z.z3.c, .slice Z.z0.a Z.z0.l.length Z.z0.k, .slice Z.z1.a Z.z1.l.length Z.z1.k, .slice Z.z2.a Z.z2.l.length Z.z2.k, .slice Z.z3.a Z.z3.l.length Z.z3.k, vi s.mt, vi s.mg, vi (s.nx - 1)] :: rtS t L :: row tmE 141 (.slice a s.tm.length c) s.tm :: row (kE .i64) 3 (.slice Z.z0.a Z.z0.l.length Z.z0.k) Z.z0.l :: row (kE .i64) 3 (.slice Z.z1.a Z.z1.l.length Z.z1.k) Z.z1.l :: row (kE .i64) 3 (.slice Z.z2.a Z.z2.l.length Z.z2.k) Z.z2.l :: row (kE .i64) 3 (.slice Z.z3.a Z.z3.l.length Z.z3.k) Z.z3.l :: H) → Calls Tryz.prog 19 #[vp k, vi j] w (Ret (ι := Unit) (fun _ => vi (ksignal s j).1) fun _ => rkS k (ksignal s j).2 :: H) := by
 have hw := hk.wf
 have hwL := hT.wf hw
 refine enterG (fn := Tryz.f19) 25 [vp k, vi j] Tryz.func19 (by kernel_rfl) (by kernel_rfl) (by kernel_rfl) ?_
 refine Xq (Xg 1 (Xe [(0,vp k), (1,vi j), (4,vi 0)] ?_ 1))
 refine Xq (Xg 12 (Xr [(0,vp k), (4,vi 0), (11,vq k 2), (12,vi j)] ?_ 8 4))
 refine Xh0 ?_ 2 8
 refine Xh0 ?_ 2 8
 refine Xh0 ?_ 6 8
 refine Xh0 ?_ 6 8
 refine Xh0 ?_ 6 8
 refine Xh0 ?_ 6 8
 refine Xh0 ?_ 6 8
 refine Xs (Xa (some 13) (fun (Y : { Y : O4 // Y.ob = (obSig s.ob j).2 }) => .tuple #[vi (obSig s.ob j).1.1, .bool (obSig s.ob j).1.2.1, vi (obSig s.ob j).1.2.2]) ((by have h := rosig_walk (rtS t L :: row tmE 141 (.slice a s.tm.length c) s.tm :: H) k t c a s.tm Z s.mt s.mg (s.nx - 1) j (by rw [hZ]; exact hk.obh); rw [hZ] at h; exact h))) (fun (Y : { Y : O4 // Y.ob = (obSig s.ob j).2 }) => ?_) 7
 have e2 := ksignal_ok hk j
 refine Xe [(0,vp k), (4,vi 0), (5,vi ((obSig s.ob j).1.1)), (6,.bool ((obSig s.ob j).1.2.1)), (7,vi ((obSig s.ob j).1.2.2))] ?_ 7
 refine Xq (Xq (Xg 1 (Xe [(0,vp k), (4,vi 0), (5,vi ((obSig s.ob j).1.1)), (7,vi ((obSig s.ob j).1.2.2)), (17,.bool ((obSig s.ob j).1.2.1))] ?_ 1)))
 cases hm : (obSig s.ob j).1.2.1 with
 | true =>
  obtain ⟨m1, m2⟩ := obSig_met hk hm
  have e : ksignal s j = (0, { s with N := (readyN s.N (obSig s.ob j).1.1 true).2, ob := (obSig s.ob j).2 }) := by rw [ksignal, if_neg (by rw [m1, hm]; simp), (ready_see hk.wf.sk m2 true).1]
  rw [e] at e2
  have hR := hT.ready hw (obSig s.ob j).1.1 true
  refine Xc true (fun _ => ?_) (fun h => by cases h)
  refine Xg 6 (Xl [(4,vi 0), (7,vi ((obSig s.ob j).1.2.2)), (21,vp t), (22,vi ((obSig s.ob j).1.1))] [(⟨k, 0, none⟩, vp t)] (hasC (ba 0) has0) ?_ 1 5)
  refine Xs (Xa (some 23) (fun _ => vi (readyN L (obSig s.ob j).1.1 true).1) (chg_at 5 rfl (rready_walk _ t L hwL (obSig s.ob j).1.1 true))) (fun _ => ?_) 0
  refine endR ?_
  refine Xq (Xg 2 (Xe [(4,vi ((obSig s.ob j).1.2.2))] ?_ 2))
  refine Xv ?_
  refine PT.pick 4 rfl ?_
  refine PT.pick 4 rfl ?_
  refine PT.pick 4 rfl ?_
  refine PT.pick 4 rfl ?_
  refine PT.pick 6 rfl ?_
  refine PT.pick 6 rfl ?_
  refine PT.pick 6 rfl ?_
  refine Y0 (vi ((obSig s.ob j).1.2.2)) (fun w hs => ?_)
  exact ⟨(), by rw [e, m1], by rw [e]; exact Sat.closeRl e2 hR.2 Y.2 rfl hs⟩
 | false =>
  have e := obSig_not hm
  rw [e] at e2
  refine Xc false (fun h => by cases h) (fun _ => ?_)
  refine Xk (Xq (Xg 2 (Xe [(4,vi ((obSig s.ob j).1.2.2))] ?_ 2)))
  refine Xv ?_
  refine PT.pick 4 rfl ?_
  refine PT.pick 4 rfl ?_
  refine PT.pick 4 rfl ?_
  refine PT.pick 4 rfl ?_
  refine PT.pick 6 rfl ?_
  refine PT.pick 6 rfl ?_
  refine PT.pick 6 rfl ?_
  refine Y0 (vi ((obSig s.ob j).1.2.2)) (fun w hs => ?_)
  exact ⟨(), by rw [e], by rw [e]; exact Sat.closeRl e2 hT Y.2 rfl hs⟩
end Go.Proofs.YtlhjibkkkhgonaaGreatDoor
set_option linter.unusedVariables false
set_option linter.unusedSimpArgs false
namespace Go.Proofs.YtlhjibkkkhgonaaGreatDoor
open Go.RowKit G
set_option maxHeartbeats 1000000 in
set_option maxRecDepth 100000 in
theorem rkwake_walk (H : List SP) (k t : Nat) (L : List Nr) (a : Option Addr) (c : Nat) (Z : O4) (s : KS) (hk : KOk s) (hT : TRel s.N L) (hZ : Z.ob = s.ob) (tk : Int) : ∀ w, Sat w (blk k 55 [vp t, .slice a s.tm.length c, vi Z.z0.c, vi Z.z1.c, vi Z.z2.c, vi Z.z3.c, .slice Z.z0.a Z.z0.l.length Z.z0.k, .slice Z.z1.a Z.z1.l.length Z.z1.k, .slice Z.z2.a Z.z2.l.length Z.z2.k, .slice Z.z3.a Z.z3.l.length Z.z3.k, vi s.mt, vi s.mg, vi (s.nx - 1)] :: rtS t L :: row tmE 141 (.slice a s.tm.length c) s.tm :: row (kE .i64) 3 (.slice Z.z0.a Z.z0.l.length Z.z0.k) Z.z0.l :: row (kE .i64) 3 (.slice Z.z1.a Z.z1.l.length Z.z1.k) Z.z1.l :: row (kE .i64) 3 (.slice Z.z2.a Z.z2.l.length Z.z2.k) Z.z2.l :: row (kE .i64) 3 (.slice Z.z3.a Z.z3.l.length Z.z3.k) Z.z3.l :: H) → Calls Tryz.prog 24 #[vp k, vi tk] w (Ret (ι := Option Addr × Nat) (fun x => .slice x.1 (kwake s tk).1.length x.2) fun x => row (kE .i64) 3 (.slice x.1 (kwake s tk).1.length x.2) (kwake s tk).1 :: rkS k (kwake s tk).2 :: H) := by
 have hw := hk.wf
 have hwL := hT.wf hw
 have e2 := kwake_ok hk tk
 obtain ⟨D, hD⟩ : ∃ D, dueOf tk s.tm = D := ⟨_, rfl⟩
 have hDl : D.length ≤ 60 := by have := due_length tk s.tm; have := hk.tml; rw [hD] at *; omega
 have hkw : kwake s tk = (D, { s with N := wakeL s.N D, tm := restOf tk s.tm }) := by rw [kwake, hD]
 rw [hkw] at e2 ⊢
 refine enterG (fn := Tryz.f24) 28 [vp k, vi tk] Tryz.func24 (by kernel_rfl) (by kernel_rfl) (by kernel_rfl) ?_
 refine Xq (Xg 1 (Xe [(0,vp k), (1,vi tk), (4,.slice none 0 0)] ?_ 1))
 refine Xq (Xg 6 (Xr [(0,vp k), (4,.slice none 0 0), (9,vq k 1), (10,vi tk)] ?_ 2 4))
 refine Xh0 ?_ 1 2
 refine Xh0 ?_ 2 2
 refine Xh0 ?_ 2 2
 refine Xs (Xa (some 11) (fun (q : (Option Addr × Nat) × (Option Addr × Nat)) => .slice q.1.1 D.length q.1.2) ((by have h := rtdue_walk (rtS t L :: row (kE .i64) 3 (.slice Z.z0.a Z.z0.l.length Z.z0.k) Z.z0.l :: row (kE .i64) 3 (.slice Z.z1.a Z.z1.l.length Z.z1.k) Z.z1.l :: row (kE .i64) 3 (.slice Z.z2.a Z.z2.l.length Z.z2.k) Z.z2.l :: row (kE .i64) 3 (.slice Z.z3.a Z.z3.l.length Z.z3.k) Z.z3.l :: H) k t c a s.tm Z.z0 Z.z1 Z.z2 Z.z3 s.mt s.mg (s.nx - 1) tk (by have := hk.tml; omega); rw [hD] at h; exact h))) (fun (q : (Option Addr × Nat) × (Option Addr × Nat)) => ?_) 1
 obtain ⟨⟨qa, qc⟩, ⟨ra, rc⟩⟩ := q
 dsimp only
 refine Xe [(0,vp k), (4,.slice none 0 0), (5,.slice qa D.length qc)] ?_ 1
 refine Xq (Xq (Xg 1 (Xe [(0,vp k), (4,.slice none 0 0), (5,.slice qa D.length qc), (6,vi 0)] ?_ 1)))
 refine Xb 0 (Xp [(0,vp k), (4,.slice none 0 0), (5,.slice qa D.length qc), (6,vi 0)] ?_)
 refine loopG (fun (v : List Nr × Nat) => [(0, vp k), (4, .slice none 0 0), (5, .slice qa D.length qc), (6, vi (v.2 : Int))]) (fun (v : List Nr × Nat) => (row (kE .i64) 3 (.slice qa D.length qc) D :: blk k 55 [vp t, .slice ra ((restOf tk s.tm).length) rc, vi Z.z0.c, vi Z.z1.c, vi Z.z2.c, vi Z.z3.c, .slice Z.z0.a Z.z0.l.length Z.z0.k, .slice Z.z1.a Z.z1.l.length Z.z1.k, .slice Z.z2.a Z.z2.l.length Z.z2.k, .slice Z.z3.a Z.z3.l.length Z.z3.k, vi s.mt, vi s.mg, vi (s.nx - 1)] :: row tmE 141 (.slice ra (restOf tk s.tm).length rc) (restOf tk s.tm) :: rtS t v.1 :: row (kE .i64) 3 (.slice Z.z0.a Z.z0.l.length Z.z0.k) Z.z0.l :: row (kE .i64) 3 (.slice Z.z1.a Z.z1.l.length Z.z1.k) Z.z1.l :: row (kE .i64) 3 (.slice Z.z2.a Z.z2.l.length Z.z2.k) Z.z2.l :: row (kE .i64) 3 (.slice Z.z3.a Z.z3.l.length Z.z3.k) Z.z3.l :: H)) (fun k (v : List Nr × Nat) => k + v.2 = D.length ∧ TRel (wakeL s.N (D.take v.2)) v.1) D.length (L, 0) (by kernel_rfl) ⟨by simp, hT⟩ ?_
 rintro j ⟨M, u⟩ ⟨hku, hI⟩
 simp only at hku hI
 refine Xq (Xq (Xg 4 (Xe [(0,vp k), (4,.slice none 0 0), (5,.slice qa D.length qc), (6,vi u), (15,.bool (decide ((u : Int) < (D.length : Int))))] ?_ 4)))
 refine Xc (decide ((u : Int) < (D.length : Int))) (fun h1 => ?_) (fun h1 => ?_)
 ·skip
  have hu : u < D.length := by have := of_decide_eq_true h1; omega
  obtain ⟨x, hx⟩ : ∃ x, D[u]? = some x := ⟨_, List.getElem?_eq_getElem hu⟩
  have htk : wakeL s.N (D.take (u + 1)) = (readyN (wakeL s.N (D.take u)) x true).2 := by rw [List.take_add_one, hx]; exact wakeL_snoc _ _ _
  have hwu := (wakeL_ok (D.take u) hw).1
  have hR := hI.ready hwu x true
  rw [← htk] at hR
  refine PT.know (KR.isSome (s := ⟨qa, qc, D⟩) (rowKRat 0 rfl) (List.ne_nil_of_length_pos (by show 0 < D.length; omega))) ?_
  rintro ⟨sb, so, hA⟩
  dsimp only at hA
  rw [hA]
  refine Xk (Xq (Xb 1 (Xy0 0 [8] 9 ?_)))
  refine Xt [0, 1, 2, 3, 4, 5] [(0,vp k), (4,.slice none 0 0), (5,.slice (some ⟨sb, so, none⟩) D.length qc), (6,vi u), (21,vp t), (22,.slice (some ⟨sb, so, none⟩) D.length qc), (23,vi u)] [(⟨k, 0, none⟩, vp t)] (hasC (ba 1) has0) ?_
  refine Xu 6 (Xi 50 (.tmp 22) (.tmp 23) sb so D.length qc u 1 3 (u : Int) 24 Tryz.underlying50) ?_
  refine Xt [7] [(0,vp k), (4,.slice none 0 0), (5,.slice (some ⟨sb, so, none⟩) D.length qc), (6,vi u), (21,vp t), (25,vi x)] [(⟨sb, so + u * 1, none⟩, vi x)] (hasC (rowCell (E := kE .i64) (xs := D) 0 rfl (x := x) hx (j := 0) rfl) has0) ?_
  refine Xo 8 (Xa (some 26) (fun _ => vi (readyN M x true).1) (chg_at 3 rfl (rready_walk _ t M (hI.wf hwu) x true))) (fun _ => ?_)
  refine Xd (Xg 3 (Xe [(0,vp k), (4,.slice none 0 0), (5,.slice (some ⟨sb, so, none⟩) D.length qc), (6,vi (IntKind.i64.wrap ((u : Int) + 1)))] ?_ 3))
  rw [show IntKind.i64.wrap ((u : Int) + 1) = ((u : Int) + 1) by rw [w64 (by omega) (by omega)]]
  rw [← hA]
  refine Xp [(0,vp k), (4,.slice none 0 0), (5,.slice qa D.length qc), (6,vi ((u : Int) + 1))] ?_
  exact againG (j - 1) ((readyN M x true).2, u + 1) rfl rfl (by omega) ⟨by simp only; omega, hR.2⟩
 ·skip
  have hu : u = D.length := by have := of_decide_eq_false h1; omega
  have htk : D.take u = D := List.take_of_length_le (by omega)
  rw [htk] at hI
  refine Xx 0 (thenX (thenX (leaveR (Xq (Xg 2 (Xe [(4,.slice qa D.length qc)] ?_ 2))))))
  refine Xv ?_
  refine PT.pick 0 rfl ?_
  refine PT.pick 7 rfl ?_
  refine PT.pick 7 rfl ?_
  refine PT.pick 7 rfl ?_
  refine PT.pick 7 rfl ?_
  refine PT.pick 6 rfl ?_
  refine PT.pick 7 rfl ?_
  refine PT.pick 7 rfl ?_
  refine Y0 (.slice qa D.length qc) (fun w hs => ?_)
  exact ⟨(qa, qc), rfl, by have h := Sat.pick 7 rfl hs; exact SatF.swap (Sat.closeRl (H := row (kE .i64) 3 (.slice qa D.length qc) D :: H) e2 hI hZ rfl hs)⟩
set_option maxHeartbeats 1000000 in
set_option maxRecDepth 100000 in
theorem rkrunnable_walk (H : List SP) (k t : Nat) (L : List Nr) (a : Option Addr) (c : Nat) (Z : O4) (s : KS) (hk : KOk s) (hT : TRel s.N L) (hZ : Z.ob = s.ob) : ∀ w, Sat w (blk k 55 [vp t, .slice a s.tm.length c, vi Z.z0.c, vi Z.z1.c, vi Z.z2.c, vi Z.z3.c, .slice Z.z0.a Z.z0.l.length Z.z0.k, .slice Z.z1.a Z.z1.l.length Z.z1.k, .slice Z.z2.a Z.z2.l.length Z.z2.k, .slice Z.z3.a Z.z3.l.length Z.z3.k, vi s.mt, vi s.mg, vi (s.nx - 1)] :: rtS t L :: row tmE 141 (.slice a s.tm.length c) s.tm :: row (kE .i64) 3 (.slice Z.z0.a Z.z0.l.length Z.z0.k) Z.z0.l :: row (kE .i64) 3 (.slice Z.z1.a Z.z1.l.length Z.z1.k) Z.z1.l :: row (kE .i64) 3 (.slice Z.z2.a Z.z2.l.length Z.z2.k) Z.z2.l :: row (kE .i64) 3 (.slice Z.z3.a Z.z3.l.length Z.z3.k) Z.z3.l :: H) → Calls Tryz.prog 28 #[vp k] w (Ret (ι := Unit) (fun _ => .bool (krunnable s)) fun _ => blk k 55 [vp t, .slice a s.tm.length c, vi Z.z0.c, vi Z.z1.c, vi Z.z2.c, vi Z.z3.c, .slice Z.z0.a Z.z0.l.length Z.z0.k, .slice Z.z1.a Z.z1.l.length Z.z1.k, .slice Z.z2.a Z.z2.l.length Z.z2.k, .slice Z.z3.a Z.z3.l.length Z.z3.k, vi s.mt, vi s.mg, vi (s.nx - 1)] :: rtS t L :: row tmE 141 (.slice a s.tm.length c) s.tm :: row (kE .i64) 3 (.slice Z.z0.a Z.z0.l.length Z.z0.k) Z.z0.l :: row (kE .i64) 3 (.slice Z.z1.a Z.z1.l.length Z.z1.k) Z.z1.l :: row (kE .i64) 3 (.slice Z.z2.a Z.z2.l.length Z.z2.k) Z.z2.l :: row (kE .i64) 3 (.slice Z.z3.a Z.z3.l.length Z.z3.k) Z.z3.l :: H) := by
 have hw := hk.wf
 have hwL := hT.wf hw
 have hne : L ≠ [] := by obtain ⟨r, hr, _⟩ := hwL.sk.root; exact List.ne_nil_of_mem hr
 obtain ⟨r, hr, hr0⟩ := root_first hwL.sk hT.srt
 have hL0 : 0 < L.length := List.length_pos_iff.2 hne
 have hkr : krunnable s = r.rdy := by rw [krunnable, hT.gt hw, ← hr0, gt_of hwL.sk.nd (List.mem_of_getElem? hr)]; rfl
 refine enterG (fn := Tryz.f28) 14 [vp k] Tryz.func28 (by kernel_rfl) (by kernel_rfl) (by kernel_rfl) ?_
 refine PT.pick 0 rfl ?_
 refine PT.pick 1 rfl ?_
 refine PT.openRt fun b o q => ?_
 refine Xq (Xg 1 (Xe [(0,vp k), (2,.bool false)] ?_ 1))
 refine Xq (Xg 12 (Xl [(2,.bool false), (9,.slice (some ⟨b, o, none⟩) L.length q)] [(⟨k, 0, none⟩, vp t), (⟨t, 0, none⟩, .slice (some ⟨b, o, none⟩) L.length q)] (hasC (ba 2) (hasC (ba 0) has0)) ?_ 5 7))
 refine Xs (yldS (Xi 91 (.tmp 9) (.const (.int .i64 0)) b o L.length q 0 7 97 0 10 Tryz.underlying91)) (fun _ => ?_) 4
 refine Xm [(2,.bool r.rdy)] [(⟨b, o + 0 * 7 + 5, none⟩, .bool r.rdy)] (hasC (rowCell (E := rnE) (xs := L) 1 rfl (J := 0) (x := r) hr (j := 5) rfl) has0) ?_ 4
 refine Xv (Y0 (.bool r.rdy) (fun w hs => ?_))
 exact ⟨(), by rw [hkr], SatF.swap (Sat.closeRt hne hs)⟩
theorem mtOf_eq8 (a : Int) : mxI 1 (mnI a 8) = mtOf a := by unfold mtOf mnI mxI; repeat' split <;> omega
theorem mgOf_eq8 (a : Int) : mxI 0 (mnI a 4) = mgOf a := by unfold mgOf mnI mxI; repeat' split <;> omega
set_option maxHeartbeats 1000000 in
set_option maxRecDepth 100000 in
theorem rklive_walk (H : List SP) (k t : Nat) (L : List Nr) (a : Option Addr) (c : Nat) (Z : O4) (s : KS) (hk : KOk s) (hT : TRel s.N L) (hZ : Z.ob = s.ob) : ∀ w, Sat w (blk k 55 [vp t, .slice a s.tm.length c, vi Z.z0.c, vi Z.z1.c, vi Z.z2.c, vi Z.z3.c, .slice Z.z0.a Z.z0.l.length Z.z0.k, .slice Z.z1.a Z.z1.l.length Z.z1.k, .slice Z.z2.a Z.z2.l.length Z.z2.k, .slice Z.z3.a Z.z3.l.length Z.z3.k, vi s.mt, vi s.mg, vi (s.nx - 1)] :: rtS t L :: row tmE 141 (.slice a s.tm.length c) s.tm :: row (kE .i64) 3 (.slice Z.z0.a Z.z0.l.length Z.z0.k) Z.z0.l :: row (kE .i64) 3 (.slice Z.z1.a Z.z1.l.length Z.z1.k) Z.z1.l :: row (kE .i64) 3 (.slice Z.z2.a Z.z2.l.length Z.z2.k) Z.z2.l :: row (kE .i64) 3 (.slice Z.z3.a Z.z3.l.length Z.z3.k) Z.z3.l :: H) → Calls Tryz.prog 30 #[vp k] w (Ret (ι := Option Addr × Nat) (fun x => .slice x.1 (kthreads s).length x.2) fun x => row (kE .i64) 3 (.slice x.1 (kthreads s).length x.2) (kthreads s) :: blk k 55 [vp t, .slice a s.tm.length c, vi Z.z0.c, vi Z.z1.c, vi Z.z2.c, vi Z.z3.c, .slice Z.z0.a Z.z0.l.length Z.z0.k, .slice Z.z1.a Z.z1.l.length Z.z1.k, .slice Z.z2.a Z.z2.l.length Z.z2.k, .slice Z.z3.a Z.z3.l.length Z.z3.k, vi s.mt, vi s.mg, vi (s.nx - 1)] :: rtS t L :: row tmE 141 (.slice a s.tm.length c) s.tm :: row (kE .i64) 3 (.slice Z.z0.a Z.z0.l.length Z.z0.k) Z.z0.l :: row (kE .i64) 3 (.slice Z.z1.a Z.z1.l.length Z.z1.k) Z.z1.l :: row (kE .i64) 3 (.slice Z.z2.a Z.z2.l.length Z.z2.k) Z.z2.l :: row (kE .i64) 3 (.slice Z.z3.a Z.z3.l.length Z.z3.k) Z.z3.l :: H) := by
 have hw := hk.wf
 have hwL := hT.wf hw
 have hl := hwL.sk.len
 have hne : L ≠ [] := by obtain ⟨r, hr, _⟩ := hwL.sk.root; exact List.ne_nil_of_mem hr
 have hkt : kthreads s = thrL L := by rw [kthreads, hT.nodes hw]; rfl
 rw [hkt]
 refine enterG (fn := Tryz.f30) 45 [vp k] Tryz.func30 (by kernel_rfl) (by kernel_rfl) (by kernel_rfl) ?_
 refine PT.pick 0 rfl ?_
 refine PT.pick 1 rfl ?_
 refine PT.openRt fun b o q => ?_
 refine Xq (Xg 1 (Xe [(0,vp k), (2,.slice none 0 0)] ?_ 1))
 refine Xq (Xg 1 (Xe [(0,vp k), (2,.slice none 0 0), (3,.slice none 0 0)] ?_ 1))
 refine Xq (Xq (Xg 1 (Xe [(0,vp k), (2,.slice none 0 0), (3,.slice none 0 0), (4,vi 0)] ?_ 1)))
 refine Xb 0 ?_
 refine PT.rowNil (kE .i64) 3 ?_
 refine Xp [(0,vp k), (2,.slice none 0 0), (3,.slice none 0 0), (4,vi 0)] ?_
 refine loopG (fun (v : (Option Addr × Nat) × Nat) => [(0, vp k), (2, .slice none 0 0), (3, .slice v.1.1 ((thrL (L.take v.2)).length) v.1.2), (4, vi (v.2 : Int))]) (fun (v : (Option Addr × Nat) × Nat) => (row (kE .i64) 3 (.slice v.1.1 (thrL (L.take v.2)).length v.1.2) (thrL (L.take v.2)) :: blk t 93 [.slice (some ⟨b, o, none⟩) L.length q] :: row rnE 97 (.slice (some ⟨b, o, none⟩) L.length q) L :: blk k 55 [vp t, .slice a s.tm.length c, vi Z.z0.c, vi Z.z1.c, vi Z.z2.c, vi Z.z3.c, .slice Z.z0.a Z.z0.l.length Z.z0.k, .slice Z.z1.a Z.z1.l.length Z.z1.k, .slice Z.z2.a Z.z2.l.length Z.z2.k, .slice Z.z3.a Z.z3.l.length Z.z3.k, vi s.mt, vi s.mg, vi (s.nx - 1)] :: row tmE 141 (.slice a s.tm.length c) s.tm :: row (kE .i64) 3 (.slice Z.z0.a Z.z0.l.length Z.z0.k) Z.z0.l :: row (kE .i64) 3 (.slice Z.z1.a Z.z1.l.length Z.z1.k) Z.z1.l :: row (kE .i64) 3 (.slice Z.z2.a Z.z2.l.length Z.z2.k) Z.z2.l :: row (kE .i64) 3 (.slice Z.z3.a Z.z3.l.length Z.z3.k) Z.z3.l :: H)) (fun k (v : (Option Addr × Nat) × Nat) => k + v.2 = L.length) L.length ((none, 0), 0) (by kernel_rfl) (by simp only; omega) ?_
 rintro j ⟨⟨qa, qc⟩, u⟩ hku
 simp only at hku
 refine Xq (Xq (Xg 10 (Xm [(0,vp k), (2,.slice none 0 0), (3,.slice qa ((thrL (L.take u)).length) qc), (4,vi u), (14,.bool (decide ((u : Int) < (L.length : Int))))] [(⟨k, 0, none⟩, vp t), (⟨t, 0, none⟩, .slice (some ⟨b, o, none⟩) L.length q)] (hasC (ba 3) (hasC (ba 1) has0)) ?_ 10)))
 refine Xc (decide ((u : Int) < (L.length : Int))) (fun h1 => ?_) (fun h1 => ?_)
 ·skip
  have hu : u < L.length := by have := of_decide_eq_true h1; omega
  obtain ⟨x, hx⟩ : ∃ x, L[u]? = some x := ⟨_, List.getElem?_eq_getElem hu⟩
  have hf := thrL_take hx
  have hfl : (thrL (L.take u)).length ≤ 60 := by rw [thrL, List.length_map]; have := List.length_filter_le (·.thr) (L.take u); simp only [List.length_take] at this; omega
  refine Xk (Xq (Xb 1 (Xq (Xg 12 (Xl [(0,vp k), (2,.slice none 0 0), (3,.slice qa ((thrL (L.take u)).length) qc), (4,vi u), (23,.slice (some ⟨b, o, none⟩) L.length q), (24,vi u)] [(⟨k, 0, none⟩, vp t), (⟨t, 0, none⟩, .slice (some ⟨b, o, none⟩) L.length q)] (hasC (ba 3) (hasC (ba 1) has0)) ?_ 4 8)))))
  refine Xs (yldS (Xi 91 (.tmp 23) (.tmp 24) b o L.length q u 7 97 (u : Int) 25 Tryz.underlying91)) (fun _ => ?_) 3
  refine Xm [(0,vp k), (2,.slice none 0 0), (3,.slice qa ((thrL (L.take u)).length) qc), (4,vi u), (28,.bool x.thr)] [(⟨b, o + u * 7 + 4, none⟩, .bool x.thr)] (hasC (rowCell (E := rnE) (xs := L) 2 rfl (x := x) hx (j := 4) rfl) has0) ?_ 3
  refine Xc (x.thr) (fun h2 => ?_) (fun h2 => ?_)
  ·skip
   rw [if_pos h2] at hf
   refine Xg 16 (Xl [(0,vp k), (2,.slice none 0 0), (3,.slice qa ((thrL (L.take u)).length) qc), (4,vi u), (29,.slice qa ((thrL (L.take u)).length) qc), (36,.slice (some ⟨b, o, none⟩) L.length q), (37,vi u)] [(⟨k, 0, none⟩, vp t), (⟨t, 0, none⟩, .slice (some ⟨b, o, none⟩) L.length q)] (hasC (ba 3) (hasC (ba 1) has0)) ?_ 7 9)
   refine Xs (yldS (Xi 91 (.tmp 36) (.tmp 37) b o L.length q u 7 97 (u : Int) 38 Tryz.underlying91)) (fun _ => ?_) 6
   refine Xl [(0,vp k), (2,.slice none 0 0), (3,.slice qa ((thrL (L.take u)).length) qc), (4,vi u), (29,.slice qa ((thrL (L.take u)).length) qc), (41,vi x.id)] [(⟨b, o + u * 7, none⟩, vi x.id)] (hasC (rowCell (E := rnE) (xs := L) 2 rfl (x := x) hx (j := 0) rfl) has0) ?_ 3 3
   refine Xs (Xn 3 [vi x.id] (some 42) (fun b => .slice (some ⟨b, 0, none⟩) 1 1)) (fun b1 => ?_) 2
   refine Xh0 ?_ 1 2
   refine Xs (Xf (E := (kE .i64)) 50 (.tmp 29) (.tmp 42) qa qc (thrL (L.take u)) [x.id] (.slice (some ⟨b1, 0, none⟩) 1 1) 43 Tryz.underlying50 (kI_ety8) (blkRd (x := x.id) 1 rfl) (by simp only [List.length_cons, List.length_nil]; omega)) (fun r2 => ?_) 1
   refine Xe [(0,vp k), (2,.slice none 0 0), (3,.slice r2.1 (((thrL (L.take u)) ++ [x.id]).length) r2.2), (4,vi u)] ?_ 1
   refine Xg 3 (Xe [(0,vp k), (2,.slice none 0 0), (3,.slice r2.1 (((thrL (L.take u)) ++ [x.id]).length) r2.2), (4,vi (IntKind.i64.wrap ((u : Int) + 1)))] ?_ 3)
   rw [show IntKind.i64.wrap ((u : Int) + 1) = ((u : Int) + 1) by rw [w64 (by omega) (by omega)]]
   refine PT.pick 1 rfl ?_
   refine PT.drop ?_
   rw [← hf]
   refine Xp [(0,vp k), (2,.slice none 0 0), (3,.slice r2.1 ((thrL (L.take (u + 1))).length) r2.2), (4,vi ((u : Int) + 1))] ?_
   exact againG (j - 1) (r2, u + 1) rfl rfl (by omega) (by simp only; omega)
  ·skip
   rw [if_neg (by rw [h2]; simp)] at hf
   refine Xk (Xg 3 (Xe [(0,vp k), (2,.slice none 0 0), (3,.slice qa ((thrL (L.take u)).length) qc), (4,vi (IntKind.i64.wrap ((u : Int) + 1)))] ?_ 3))
   rw [show IntKind.i64.wrap ((u : Int) + 1) = ((u : Int) + 1) by rw [w64 (by omega) (by omega)]]
   rw [← hf]
   refine Xp [(0,vp k), (2,.slice none 0 0), (3,.slice qa ((thrL (L.take (u + 1))).length) qc), (4,vi ((u : Int) + 1))] ?_
   exact againG (j - 1) ((qa, qc), u + 1) rfl rfl (by omega) (by simp only; omega)
 ·skip
  have hu : u = L.length := by have := of_decide_eq_false h1; omega
  have htk : L.take u = L := List.take_of_length_le (by omega)
  rw [htk]
  refine Xx 0 (thenX (thenX (leaveR (Xq (Xg 2 (Xe [(2,.slice qa ((thrL L).length) qc)] ?_ 2))))))
  refine Xv ?_
  refine PT.pick 0 rfl ?_
  refine PT.pick 8 rfl ?_
  refine PT.pick 8 rfl ?_
  refine PT.pick 8 rfl ?_
  refine PT.pick 8 rfl ?_
  refine PT.pick 8 rfl ?_
  refine PT.pick 8 rfl ?_
  refine PT.pick 8 rfl ?_
  refine PT.pick 8 rfl ?_
  refine Y0 (.slice qa ((thrL L).length) qc) (fun w hs => ?_)
  exact ⟨(qa, qc), rfl, Sat.pick 7 rfl (SatF.swap (Sat.closeRt hne hs))⟩
set_option maxHeartbeats 1000000 in
set_option maxRecDepth 100000 in
theorem rknew_walk (H : List SP) (th gr : Int) : ∀ w, Sat w H → Calls Tryz.prog 6 #[vi th, vi gr] w (Ret (ι := Nat) (fun k => vp k) fun k => rkS k (k0 (mtOf th) (mgOf gr)) :: H) := by
 have hm := mtOf_in th
 have hg := mgOf_in gr
 refine enterG (fn := Tryz.f6) 26 [vi th, vi gr] Tryz.func6 (by kernel_rfl) (by kernel_rfl) (by kernel_rfl) ?_
 refine Xq (Xg 1 (Xe [(0,vi th), (1,vi gr), (4,.pointer none)] ?_ 1))
 refine Xq (Xg 10 (Xs (Xa (some 6) (fun (t : Nat) => vp t) (rnew_walk _)) (fun (t : Nat) => ?_) 9))
 have hr1 : raddN [rootN] 0 1 1 true = (0, [rootN, ⟨1, 0, 1, 0, true, false, 0⟩]) := rfl
 have hr2 : readyN [rootN, ⟨1, 0, 1, 0, true, false, 0⟩] 1 true = (0, kn01) := rfl
 have hw1 : WFN [rootN, ⟨1, 0, 1, 0, true, false, 0⟩] := by have := add_wf root_wf 0 1 1 true; exact this
 refine Xr [(4,.pointer none), (13,.agg #[vp t, .slice none 0 0, vi 0, vi 0, vi 0, vi 0, .slice none 0 0, .slice none 0 0, .slice none 0 0, .slice none 0 0, vi (mxI 1 (mnI th 8)), vi (mxI 0 (mnI gr 4)), vi 1])] ?_ 2 7
 refine Xs (Xn 55 [vp t, .slice none 0 0, vi 0, vi 0, vi 0, vi 0, .slice none 0 0, .slice none 0 0, .slice none 0 0, .slice none 0 0, vi (mxI 1 (mnI th 8)), vi (mxI 0 (mnI gr 4)), vi 1] (some 14) (fun b => vp b)) (fun b1 => ?_) 1
 refine Xe [(4,.pointer none), (5,vp b1)] ?_ 1
 refine Xq (Xg 5 (Xl [(4,.pointer none), (5,vp b1), (18,vp t)] [(⟨b1, 0, none⟩, vp t)] (hasC (ba 0) has0) ?_ 1 4))
 rw [show (mxI 1 (mnI th 8)) = (mtOf th) by exact mtOf_eq8 th]
 rw [show (mxI 0 (mnI gr 4)) = (mgOf gr) by exact mgOf_eq8 gr]
 refine Xs (Xa (some 19) (fun _ => vi 0) (chg_at 1 rfl (by have h := fun H' => radd_walk H' t [rootN] root_wf 0 1 1 true; rw [hr1] at h; exact h _))) (fun _ => ?_) 0
 refine endR ?_
 refine Xq (Xg 5 (Xl [(4,.pointer none), (5,vp b1), (23,vp t)] [(⟨b1, 0, none⟩, vp t)] (hasC (ba 0) has0) ?_ 1 4))
 refine Xs (Xa (some 24) (fun _ => vi 0) (chg_at 1 rfl (by have h := fun H' => rready_walk H' t [rootN, ⟨1, 0, 1, 0, true, false, 0⟩] hw1 1 true; rw [hr2] at h; exact h _))) (fun _ => ?_) 0
 refine endR ?_
 refine Xq (Xg 2 (Xe [(4,vp b1)] ?_ 2))
 refine Xv ?_
 refine PT.rowNil (kE .i64) 3 ?_
 refine PT.rowNil (kE .i64) 3 ?_
 refine PT.rowNil (kE .i64) 3 ?_
 refine PT.rowNil (kE .i64) 3 ?_
 refine PT.rowNil tmE 141 ?_
 refine PT.pick 4 rfl ?_
 refine PT.pick 4 rfl ?_
 refine PT.pick 4 rfl ?_
 refine PT.pick 4 rfl ?_
 refine PT.pick 4 rfl ?_
 refine PT.pick 6 rfl ?_
 refine PT.pick 6 rfl ?_
 refine Y0 (vp b1) (fun w hs => ?_)
 exact ⟨b1, rfl, by rw [k0_is hm.1]; exact Sat.closeRl (Z := ⟨⟨0, none, 0, []⟩, ⟨0, none, 0, []⟩, ⟨0, none, 0, []⟩, ⟨0, none, 0, []⟩⟩) (by have := k0_ok hm hg; rw [k0_is hm.1] at this; exact this) (L := kn01) ⟨.refl _, by simp [kn01]⟩ rfl rfl hs⟩
end Go.Proofs.YtlhjibkkkhgonaaGreatDoor
set_option linter.unusedVariables false
set_option linter.unusedSimpArgs false
namespace Go.Proofs.YtlhjibkkkhgonaaGreatDoor
open Go.RowKit G
set_option maxRecDepth 100000 in
theorem sameInts_walk (H : List SP) (s t : SV Int) (hk : KR H (kE .i64) s) (hk2 : KR H (kE .i64) t) (hl : s.l.length < 1000000000) (hl2 : t.l.length < 1000000000) : ∀ w, Sat w H → Calls Tryz.prog 22 #[.slice s.a s.l.length s.c, .slice t.a t.l.length t.c] w (Ret (ι := Unit) (fun _ => .bool (decide (s.l = t.l))) fun _ => H) := by
 refine enterG (fn := Tryz.f22) 26 [.slice s.a s.l.length s.c, .slice t.a t.l.length t.c] Tryz.func22 (by kernel_rfl) (by kernel_rfl) (by kernel_rfl) ?_
 refine Xq (Xg 1 (Xe [(0,.slice s.a s.l.length s.c), (1,.slice t.a t.l.length t.c), (4,.bool false)] ?_ 1))
 refine Xq (Xq (Xg 5 (Xe [(0,.slice s.a s.l.length s.c), (1,.slice t.a t.l.length t.c), (4,.bool false), (10,.bool ((s.l.length : Int) != (t.l.length : Int)))] ?_ 5)))
 refine Xc ((s.l.length : Int) != (t.l.length : Int)) (fun hb => ?_) (fun hb => ?_)
 ·skip
  refine Xq (Xg 1 (Xe [(0,.slice s.a s.l.length s.c), (1,.slice t.a t.l.length t.c), (4,.bool false)] ?_ 1))
  refine Xv (thenV ?_)
  have hne : s.l ≠ t.l := by intro h0; rw [h0] at hb; simp at hb
  refine Y0 (.bool false) (fun w hs => ?_)
  exact ⟨(), by rw [decide_eq_false hne], hs⟩
 ·skip
  have hll : s.l.length = t.l.length := by simp at hb; omega
  refine Xk (Xq (Xq (Xg 1 (Xe [(0,.slice s.a s.l.length s.c), (1,.slice t.a t.l.length t.c), (4,.bool false), (5,vi 0)] ?_ 1))))
  refine Xb 0 (Xp [(0,.slice s.a s.l.length s.c), (1,.slice t.a t.l.length t.c), (4,.bool false), (5,vi 0)] (Xl0 (fun (u : Nat) => [(0,.slice s.a s.l.length s.c), (1,.slice t.a t.l.length t.c), (4,.bool false), (5,vi u)]) (fun k (u : Nat) => k + u = s.l.length ∧ s.l.take u = t.l.take u) s.l.length 0 (by kernel_rfl) ⟨by omega, rfl⟩ ?_))
  rintro k u ⟨hku, hsame⟩
  have hw : IntKind.i64.wrap ((u : Int) + 1) = ((u + 1 : Nat) : Int) := by rw [IntKind.wrap_i64]; omega
  refine Xq (Xq (Xg 4 (Xe [(0,.slice s.a s.l.length s.c), (1,.slice t.a t.l.length t.c), (4,.bool false), (5,vi u), (14,.bool (decide ((u : Int) < (s.l.length : Int))))] ?_ 4)))
  refine Xc (decide ((u : Int) < (s.l.length : Int))) (fun h => ?_) (fun h => ?_)
  ·skip
   have hu : u < s.l.length := by have := of_decide_eq_true h; omega
   have hu2 : u < t.l.length := by omega
   obtain ⟨y, hy⟩ : ∃ y, s.l[u]? = some y := ⟨_, by simp [hu]; rfl⟩
   obtain ⟨z, hz⟩ : ∃ z, t.l[u]? = some z := ⟨_, by simp [hu2]; rfl⟩
   have ht : s.l.take (u + 1) = s.l.take u ++ [y] := by rw [List.take_add_one, hy]; rfl
   have ht2 : t.l.take (u + 1) = t.l.take u ++ [z] := by rw [List.take_add_one, hz]; rfl
   refine PT.know ((hk).isSome (List.ne_nil_of_length_pos (by omega))) ?_
   rintro ⟨sb, so, hA⟩
   try rw [hA]
   refine PT.know ((hk2).isSome (List.ne_nil_of_length_pos (by omega))) ?_
   rintro ⟨tb, to_, hB⟩
   try rw [hB]
   refine Xk (Xq (Xb 1 (Xq (Xy0 0 [] 9 ?_))))
   refine Xt [0, 1, 4, 5] [(0,.slice (some ⟨sb, so, none⟩) s.l.length s.c), (1,.slice (some ⟨tb, to_, none⟩) t.l.length t.c), (4,.bool false), (5,vi u), (17,.slice (some ⟨sb, so, none⟩) s.l.length s.c), (18,vi u), (21,.slice (some ⟨tb, to_, none⟩) t.l.length t.c), (22,vi u)] [] has0 ?_
   refine Xu 2 (Xi 50 (.tmp 17) (.tmp 18) sb so s.l.length s.c u 1 3 (u : Int) 19 Tryz.underlying50) ?_
   refine Xt [3] [(0,.slice (some ⟨sb, so, none⟩) s.l.length s.c), (1,.slice (some ⟨tb, to_, none⟩) t.l.length t.c), (4,.bool false), (5,vi u), (21,.slice (some ⟨tb, to_, none⟩) t.l.length t.c), (22,vi u), (20,vi y)] [(⟨sb, so + u * 1, none⟩, vi y)] (hasC (hk.cell hA (i := u) (x := y) hy (j := 0) rfl) has0) ?_
   refine Xu 6 (Xi 50 (.tmp 21) (.tmp 22) tb to_ t.l.length t.c u 1 3 (u : Int) 23 Tryz.underlying50) ?_
   refine Xt [7, 8] [(0,.slice (some ⟨sb, so, none⟩) s.l.length s.c), (1,.slice (some ⟨tb, to_, none⟩) t.l.length t.c), (4,.bool false), (5,vi u), (25,.bool (y != z))] [(⟨tb, to_ + u * 1, none⟩, vi z)] (hasC (hk2.cell hB (i := u) (x := z) hz (j := 0) rfl) has0) ?_
   refine Xd ?_
   try rw [← hB]
   try rw [← hA]
   refine Xc (y != z) (fun h2 => ?_) (fun h2 => ?_)
   ·skip
    refine Xq (Xg 1 (Xe [(0,.slice s.a s.l.length s.c), (1,.slice t.a t.l.length t.c), (4,.bool false), (5,vi u)] ?_ 1))
    refine Xv (blockV (thenV (thenV (blockV (thenV ?_)))))
    have hne : s.l ≠ t.l := by intro h0; rw [h0, hz] at hy; cases hy; simp at h2
    refine Y0 (.bool false) (fun w hs => ?_)
    exact ⟨(), by rw [decide_eq_false hne], hs⟩
   ·skip
    refine Xk (Xg 3 (Xe [(0,.slice s.a s.l.length s.c), (1,.slice t.a t.l.length t.c), (4,.bool false), (5,vi (IntKind.i64.wrap ((u : Int) + 1)))] ?_ 3))
    have hyz : y = z := by simpa using h2
    refine Xp [(0,.slice s.a s.l.length s.c), (1,.slice t.a t.l.length t.c), (4,.bool false), (5,vi (IntKind.i64.wrap ((u : Int) + 1)))] ?_
    exact againG (k - 1) (u + 1) (by rw [hw]) rfl (by omega) ⟨by omega, by rw [ht, ht2, hsame, hyz]⟩
  ·skip
   have hu : u = s.l.length := by have := of_decide_eq_false h; omega
   rw [hu, List.take_length, hll, List.take_length] at hsame
   refine Xx 0 (thenX (thenX (leaveR (Xq (Xg 1 (Xe [(4,.bool true)] ?_ 1))))))
   refine Xv (Y0 (.bool true) (fun w hs => ?_))
   exact ⟨(), by rw [decide_eq_true hsame], hs⟩
end Go.Proofs.YtlhjibkkkhgonaaGreatDoor
set_option linter.unusedVariables false
set_option linter.unusedSimpArgs false
namespace Go.Proofs.YtlhjibkkkhgonaaGreatDoor
open Go.RowKit G Go.Extern.Stop Go.Stop Go.Extern
theorem asValueOfP (t : Addr) (w : World) : (ReflectliteValue.unpack (.iface 81 (.pointer (some t)))).run Tryz.prog w
    = .ok (.agg #[.pointer (some ⟨1, 81, none⟩), .pointer (some ⟨w.heap.size, 0, none⟩), .int .u64 150]) (w.alloc (.cells #[.pointer (some t)] 81)) := by kernel_rfl
theorem asTypeP (a : Addr) (w : World) : (ReflectliteValue.methodAny (ReflectliteValue.valueError "reflectlite.Value.Type" 0) (fun t _ _ _ => ReflectliteType.toType t) #[.agg #[.pointer (some ⟨1, 81, none⟩), .pointer (some a), .int .u64 150]]).run Tryz.prog w
    = .ok (.iface 159 (.agg #[.pointer (some ⟨1, 81, none⟩)])) w := by kernel_rfl
theorem asMethKind (k : Nat) (h : Value) (w : World) : (Go.method (k + 2) 159 (.agg #[h]) "Kind").run Tryz.prog w = .ok (187, h) w := by kernel_rfl
theorem asMethElem (k : Nat) (h : Value) (w : World) : (Go.method (k + 1) 159 (.agg #[h]) "Elem").run Tryz.prog w = .ok (199, .agg #[h]) w := by kernel_rfl
theorem asMethImpl (k : Nat) (h : Value) (w : World) : (Go.method (k + 1) 159 (.agg #[h]) "Implements").run Tryz.prog w = .ok (200, .agg #[h]) w := by kernel_rfl
theorem asMethAsgn (k : Nat) (h : Value) (w : World) : (Go.method (k + 1) 159 (.agg #[h]) "AssignableTo").run Tryz.prog w = .ok (197, .agg #[h]) w := by kernel_rfl
theorem asKindP (w : World) : ((ReflectliteType.abiMethod fun t => (fun a : Nat => Value.int IntKind.u8 (a : Int)) <$> Rtype.kind t) #[.pointer (some ⟨1, 81, none⟩)]).run Tryz.prog w = .ok (.int .u8 22) w := by kernel_rfl
theorem asKindE (w : World) : ((ReflectliteType.abiMethod fun t => (fun a : Nat => Value.int IntKind.u8 (a : Int)) <$> Rtype.kind t) #[.pointer (some ⟨1, 66, none⟩)]).run Tryz.prog w = .ok (.int .u8 2) w := by kernel_rfl
theorem asRlm (z : Sem Value) (f : TypeId → Addr → Nat → Nat → Sem Value) (v : Value) :
    ReflectliteValue.method z f #[v] = (do match ← ReflectliteValue.parts v with | none => z | some (t, a, fl) => f t a fl (fl % 32)) := rfl
theorem asPartsP (a : Addr) (w : World) : (ReflectliteValue.parts (.agg #[.pointer (some ⟨1, 81, none⟩), .pointer (some a), .int .u64 150])).run Tryz.prog w = .ok (some (81, a, 150)) w := by kernel_rfl
theorem asIsNilP (a p : Addr) (W : World) (ha : W.cell? a = some (.pointer (some p))) :
    (ReflectliteValue.method (ReflectliteValue.valueError "reflectlite.Value.IsNil" 0) ReflectliteValue.isNil #[.agg #[.pointer (some ⟨1, 81, none⟩), .pointer (some a), .int .u64 150]]).run Tryz.prog W = .ok (.bool false) W := by
  rw [asRlm]
  simp only [Sem.run_bind, asPartsP, Result.andThen]
  simp [ReflectliteValue.isNil, loadVar, isAgg, underlying, Tryz.underlying81, ha, Result.andThen]
theorem asElemP (w : World) : (ReflectliteType.method ReflectliteType.elem #[.agg #[.pointer (some ⟨1, 81, none⟩)]]).run Tryz.prog w = .ok (.iface 159 (.agg #[.pointer (some ⟨1, 66, none⟩)])) w := by kernel_rfl
theorem asImplE (w : World) : (ReflectliteType.relation "Implements" ReflectliteType.implements_ #[.agg #[.pointer (some ⟨1, 66, none⟩)], .iface 159 (.agg #[.pointer (some ⟨1, 31, none⟩)])]).run Tryz.prog w = .ok (.bool true) w := by kernel_rfl
theorem asTypeOfE (v : Value) (w : World) : (ReflectliteType.typeOf #[.iface 66 v]).run Tryz.prog w = .ok (.iface 159 (.agg #[.pointer (some ⟨1, 66, none⟩)])) w := by kernel_rfl
theorem asAsgnE (w : World) : (ReflectliteType.relation "AssignableTo" ReflectliteType.assignableTo #[.agg #[.pointer (some ⟨1, 66, none⟩)], .iface 159 (.agg #[.pointer (some ⟨1, 66, none⟩)])]).run Tryz.prog w = .ok (.bool true) w := by kernel_rfl
theorem asValueOfE (e : Int) (w : World) : (ReflectliteValue.unpack (.iface 66 (.int .i64 e))).run Tryz.prog w
    = .ok (.agg #[.pointer (some ⟨1, 66, none⟩), .pointer (some ⟨w.heap.size, 0, none⟩), .int .u64 130]) (w.alloc (.cells #[.int .i64 e] 66)) := by kernel_rfl
theorem asElemOfP (w : World) : (Rtype.elem? 81).run Tryz.prog w = .ok (some 66) w := by kernel_rfl
theorem asMkE (p : Addr) (w : World) : (ReflectliteValue.mk 66 p ReflectliteValue.flagAddr).run Tryz.prog w = .ok (.agg #[.pointer (some ⟨1, 66, none⟩), .pointer (some p), .int .u64 386]) w := by kernel_rfl
theorem asElemVP (a p : Addr) (W : World) (ha : W.cell? a = some (.pointer (some p))) :
    (ReflectliteValue.method (ReflectliteValue.valueError "reflectlite.Value.Elem" 0) ReflectliteValue.elem #[.agg #[.pointer (some ⟨1, 81, none⟩), .pointer (some a), .int .u64 150]]).run Tryz.prog W
      = .ok (.agg #[.pointer (some ⟨1, 66, none⟩), .pointer (some p), .int .u64 386]) W := by
  rw [asRlm]
  simp only [Sem.run_bind, asPartsP, Result.andThen]
  simp [ReflectliteValue.elem, loadVar, isAgg, underlying, Tryz.underlying81, ha, Result.andThen, asElemOfP, asMkE]
theorem asRls (v x : Value) : ReflectliteValue.set #[v, x] = (do
    let (some (dst, a, fl), some (src, b, _)) := (← ReflectliteValue.parts v, ← ReflectliteValue.parts x)
      | unsupported (.noEntry "extern/(internal/reflectlite.Value).Set.zeroValue")
    if fl / ReflectliteValue.flagAddr % 2 == 0 then unsupported (.noEntry "extern/(internal/reflectlite.Value).Set.unaddressable")
    let val ← loadVar src b
    if ← Rtype.directlyAssignable dst src then storeVar dst a val
    else if ← Rtype.implements dst src then
      if (← Rtype.kind src) == 20 then
        match val with
        | .nilIface => unsupported (.noEntry "extern/reflectlite: a nil value of one interface type handed on as a value of another")
        | _ => storeVar dst a val
      else storeVar dst a (.iface src val)
    else panicString ("reflectlite.Set: value of type " ++ (← Rtype.spelt src) ++ " is not assignable to type " ++ (← Rtype.spelt dst))
    pure (.tuple #[])) := rfl
theorem asPartsEa (a : Addr) (w : World) : (ReflectliteValue.parts (.agg #[.pointer (some ⟨1, 66, none⟩), .pointer (some a), .int .u64 386])).run Tryz.prog w = .ok (some (66, a, 386)) w := by kernel_rfl
theorem asPartsE (a : Addr) (w : World) : (ReflectliteValue.parts (.agg #[.pointer (some ⟨1, 66, none⟩), .pointer (some a), .int .u64 130])).run Tryz.prog w = .ok (some (66, a, 130)) w := by kernel_rfl
theorem asDirect (w : World) : (Rtype.directlyAssignable 66 66).run Tryz.prog w = .ok true w := by kernel_rfl
theorem asSet (ta b : Addr) (e : Int) (old : Value) (W : World) (hb : W.cell? b = some (.int .i64 e)) (ht : W.cell? ta = some old) (hf : W.frozen? ta = false) :
    (ReflectliteValue.set #[.agg #[.pointer (some ⟨1, 66, none⟩), .pointer (some ta), .int .u64 386], .agg #[.pointer (some ⟨1, 66, none⟩), .pointer (some b), .int .u64 130]]).run Tryz.prog W
      = .ok (.tuple #[]) (W.setCell ta (.int .i64 e)) := by
  rw [asRls]
  simp only [Sem.run_bind, asPartsEa, asPartsE, Result.andThen]
  simp [ReflectliteValue.flagAddr, loadVar, isAgg, underlying, Tryz.underlying66, hb, Result.andThen, asDirect, storeVar, Value.cells, storeCells, Addr.add]
  rw [run_store Tryz.prog W ta _ _ (by rfl)]
  simp [ht, hf]
/-- What the package errors keeps: the type of errors. -/
def errT : Value := .iface 159 (.agg #[.pointer (some ⟨1, 31, none⟩)])
set_option maxHeartbeats 4000000 in
set_option maxRecDepth 100000 in
theorem as_errno_w (e : Int) (t : Addr) (old : Value) (w : World) (hg : w.cell? ⟨0, 0, none⟩ = some (.iface 159 (.agg #[.pointer (some ⟨1, 31, none⟩)]))) (ht0 : w.cell? t = some old) (hf0 : w.frozen? t = false) :
    Calls Tryz.prog 43 #[.iface 66 (.int .i64 e), .iface 81 (.pointer (some t))] w fun ev w' => ev = .returned (.bool true) ∧ w' = ((((w.alloc (.cells #[.pointer (some t)] 81)).alloc (.cells #[.pointer (some ⟨1, 81, none⟩), .pointer (some ⟨w.heap.size, 0, none⟩), .int .u64 150] 127)).alloc (.cells #[.pointer (some ⟨1, 81, none⟩), .pointer (some ⟨w.heap.size, 0, none⟩), .int .u64 150] 127)).alloc (.cells #[.int .i64 e] 66)).setCell t (.int .i64 e) := by
  have h6 := @run_callFunc_extern Tryz.prog 81 _ (fun args => ReflectliteValue.unpack (args.getD 0 (.tuple #[]))) Tryz.func81 (by kernel_rfl) (by kernel_rfl) (by kernel_rfl) (by kernel_rfl)
  have h7 := @run_callFunc_extern Tryz.prog 82 _ (ReflectliteValue.methodAny (ReflectliteValue.valueError "reflectlite.Value.Type" 0) (fun t _ _ _ => ReflectliteType.toType t)) Tryz.func82 (by kernel_rfl) (by kernel_rfl) (by kernel_rfl) (by kernel_rfl)
  have h8 := @run_callFunc_extern Tryz.prog 83 _ (ReflectliteValue.method (ReflectliteValue.valueError "reflectlite.Value.IsNil" 0) ReflectliteValue.isNil) Tryz.func83 (by kernel_rfl) (by kernel_rfl) (by kernel_rfl) (by kernel_rfl)
  have h27 := @run_callFunc_extern Tryz.prog 187 _ (ReflectliteType.abiMethod fun t => do pure (.int .u8 (← Rtype.kind t))) Tryz.func187 (by kernel_rfl) (by kernel_rfl) (by kernel_rfl) (by kernel_rfl)
  have h37 := @run_callFunc_extern Tryz.prog 199 _ (ReflectliteType.method ReflectliteType.elem) Tryz.func199 (by kernel_rfl) (by kernel_rfl) (by kernel_rfl) (by kernel_rfl)
  have h38 := @run_callFunc_extern Tryz.prog 200 _ (ReflectliteType.relation "Implements" ReflectliteType.implements_) Tryz.func200 (by kernel_rfl) (by kernel_rfl) (by kernel_rfl) (by kernel_rfl)
  have h10 := @run_callFunc_extern Tryz.prog 73 _ ReflectliteType.typeOf Tryz.func73 (by kernel_rfl) (by kernel_rfl) (by kernel_rfl) (by kernel_rfl)
  have h35 := @run_callFunc_extern Tryz.prog 197 _ (ReflectliteType.relation "AssignableTo" ReflectliteType.assignableTo) Tryz.func197 (by kernel_rfl) (by kernel_rfl) (by kernel_rfl) (by kernel_rfl)
  have h11 := @run_callFunc_extern Tryz.prog 110 _ (ReflectliteValue.method (ReflectliteValue.valueError "reflectlite.Value.Elem" 0) ReflectliteValue.elem) Tryz.func110 (by kernel_rfl) (by kernel_rfl) (by kernel_rfl) (by kernel_rfl)
  have h12 := @run_callFunc_extern Tryz.prog 111 _ ReflectliteValue.set Tryz.func111 (by kernel_rfl) (by kernel_rfl) (by kernel_rfl) (by kernel_rfl)
  have tO := asTypeOfE
  have mA := asMethAsgn
  have a25 := asAsgnE
  have v25 := asValueOfE
  have f6 := asValueOfP
  have f7 := asTypeP
  have mK := asMethKind
  have mE := asMethElem
  have mI := asMethImpl
  have k27 := asKindP
  have k25 := asKindE
  have e27 := asElemP
  have i25 := asImplE
  have n8 := asIsNilP ⟨w.heap.size, 0, none⟩ t ((w.alloc (.cells #[.pointer (some t)] 81)).alloc (.cells #[.pointer (some ⟨1, 81, none⟩), .pointer (some ⟨w.heap.size, 0, none⟩), .int .u64 150] 127)) (by simp)
  have hlt : 0 < w.heap.size := by
    rcases Nat.lt_or_ge 0 w.heap.size with h | h
    · exact h
    · simp [World.cell?, Array.getElem?_eq_none h] at hg
  have hg2 : ((w.alloc (.cells #[.pointer (some t)] 81)).alloc (.cells #[.pointer (some ⟨1, 81, none⟩), .pointer (some ⟨w.heap.size, 0, none⟩), .int .u64 150] 127)).cell? ⟨0, 0, none⟩ = some (.iface 159 (.agg #[.pointer (some ⟨1, 31, none⟩)])) := by
    rw [World.cell?_alloc_lt _ _ ⟨0, 0, none⟩ (by first | (simp; done) | (simp; omega)), World.cell?_alloc_lt _ _ ⟨0, 0, none⟩ hlt]; exact hg
  have htl : t.block < w.heap.size := by
    rcases Nat.lt_or_ge t.block w.heap.size with h | h
    · exact h
    · simp [World.cell?, Array.getElem?_eq_none h] at ht0
  have el := asElemVP ⟨w.heap.size, 0, none⟩ t (((w.alloc (.cells #[.pointer (some t)] 81)).alloc (.cells #[.pointer (some ⟨1, 81, none⟩), .pointer (some ⟨w.heap.size, 0, none⟩), .int .u64 150] 127)).alloc (.cells #[.pointer (some ⟨1, 81, none⟩), .pointer (some ⟨w.heap.size, 0, none⟩), .int .u64 150] 127)) (by rw [World.cell?_alloc_lt _ _ ⟨w.heap.size, 0, none⟩ (by simp; omega)]; simp)
  have st := asSet t ⟨w.heap.size + 1 + 1 + 1, 0, none⟩ e old ((((w.alloc (.cells #[.pointer (some t)] 81)).alloc (.cells #[.pointer (some ⟨1, 81, none⟩), .pointer (some ⟨w.heap.size, 0, none⟩), .int .u64 150] 127)).alloc (.cells #[.pointer (some ⟨1, 81, none⟩), .pointer (some ⟨w.heap.size, 0, none⟩), .int .u64 150] 127)).alloc (.cells #[.int .i64 e] 66))
    (by rw [World.cell?_alloc_at _ _ _ _ (by simp)]; rfl)
    (by rw [World.cell?_alloc_lt _ _ t (by simp; omega), World.cell?_alloc_lt _ _ t (by simp; omega), World.cell?_alloc_lt _ _ t (by simp; omega), World.cell?_alloc_lt _ _ t htl]; exact ht0)
    (by rw [World.frozen?_alloc_old _ _ t (by simp; omega), World.frozen?_alloc_old _ _ t (by simp; omega), World.frozen?_alloc_old _ _ t (by simp; omega), World.frozen?_alloc_old _ _ t (Nat.ne_of_lt htl)]; exact hf0)
  go_enter Tryz.func43, Tryz.ntmps43
  go_wp2
  refine wp_loop_rounds 1 ?_
  rw [rounds_succ]
  go_wp2
  go_ret
  exact ⟨rfl, rfl⟩
/-- The memory tells what the package errors keeps. -/
def EK (H : List SP) : Prop := ∀ w, Sat w H → w.cell? ⟨0, 0, none⟩ = some errT
theorem EK.up {X : SP} {H : List SP} (h : EK H) : EK (X :: H) := fun w hs => h w hs.tail
theorem EK.old {W : World} {H : List SP} (i : Nat) (hi : H[i]? = some (old W)) (h : W.cell? ⟨0, 0, none⟩ = some errT) : EK H := fun w hs => by
  obtain ⟨G, ⟨h1, h2⟩, _⟩ := Sat.pick i hi hs
  have hlt : 0 < W.heap.size := by
    rcases Nat.lt_or_ge 0 W.heap.size with c | c
    · exact c
    · simp [World.cell?, Array.getElem?_eq_none c] at h
  rw [← h]
  have e := h1.2.2.2.2 _ hlt
  unfold World.cell?
  rw [e]
theorem as_errno (H : List SP) (hE : EK H) (e old : Int) (b : Nat) : ∀ w, Sat w (blk b 66 [.int .i64 old] :: H) → Calls Tryz.prog 43 #[.iface 66 (.int .i64 e), .iface 81 (.pointer (some ⟨b, 0, none⟩))] w (Ret (ι := Unit) (fun _ => .bool true) fun _ => blk b 66 [.int .i64 e] :: H) := fun w hs => by
  have h1 := blkAt (b := b) (T := 66) (cs := [.int .i64 old]) (H := blk b 66 [.int .i64 old] :: H) 0 rfl (j := 0) rfl w hs
  have h2 : w.frozen? ⟨b, 0, none⟩ = false := by obtain ⟨G, hG⟩ := hs.head; exact hG.1.frozen 0
  refine (as_errno_w e ⟨b, 0, none⟩ (.int .i64 old) w (hE.up w hs) h1 h2).mono ?_
  rintro ev w' ⟨rfl, rfl⟩
  refine ⟨(), rfl, ?_⟩
  exact Sat.change ((((hs.stay (Upd.alloc _ _ _)).stay (Upd.alloc _ _ _)).stay (Upd.alloc _ _ _)).stay (Upd.alloc _ _ _)) fun G hG => ⟨Upd.setCell _ ⟨b, 0, none⟩ _ ((hG.2 b).2 rfl), G, ⟨hG.1.set 0 _, hG.2⟩, fun x hx => .inl hx⟩
end Go.Proofs.YtlhjibkkkhgonaaGreatDoor
set_option linter.unusedVariables false
set_option linter.unusedSimpArgs false
namespace Go.Proofs.YtlhjibkkkhgonaaGreatDoor
open Go.RowKit G
section
variable (H : List SP) (k : Nat) (s : KS)
theorem rkOp {P : Ending → World → Prop} {f : FuncId} {vs : Array Value} (h : ∀ (t : Nat) (L : List Nr) (a : Option Addr) (c : Nat) (Z : O4), KOk s → TRel s.N L → Z.ob = s.ob → ∀ w, Sat w (blk k 55 [vp t, .slice a s.tm.length c, vi Z.z0.c, vi Z.z1.c, vi Z.z2.c, vi Z.z3.c, .slice Z.z0.a Z.z0.l.length Z.z0.k, .slice Z.z1.a Z.z1.l.length Z.z1.k, .slice Z.z2.a Z.z2.l.length Z.z2.k, .slice Z.z3.a Z.z3.l.length Z.z3.k, vi s.mt, vi s.mg, vi (s.nx - 1)] :: rtS t L :: row tmE 141 (.slice a s.tm.length c) s.tm :: row (kE .i64) 3 (.slice Z.z0.a Z.z0.l.length Z.z0.k) Z.z0.l :: row (kE .i64) 3 (.slice Z.z1.a Z.z1.l.length Z.z1.k) Z.z1.l :: row (kE .i64) 3 (.slice Z.z2.a Z.z2.l.length Z.z2.k) Z.z2.l :: row (kE .i64) 3 (.slice Z.z3.a Z.z3.l.length Z.z3.k) Z.z3.l :: H) → Calls Tryz.prog f vs w P) : ∀ w, Sat w (rkS k s :: H) → Calls Tryz.prog f vs w P := fun w hs => by
 obtain ⟨t, L, a, c, Z, h1, h2, h3, hs2⟩ := Sat.openRk hs
 exact h t L a c Z h1 h2 h3 w hs2
theorem rkSpawn (hid : s.nx ≤ 1099511627776) (par wt : Int) : ∀ w, Sat w (rkS k s :: H) → Calls Tryz.prog 9 #[vp k, vi par, vi wt] w (Ret (ι := Unit) (fun _ => .tuple #[vi (kspawn s par wt).1.1, vi (kspawn s par wt).1.2]) fun _ => rkS k (kspawn s par wt).2 :: H) :=
 rkOp H k s fun t L a c Z h1 h2 h3 => rkspawn_walk H k t L a c Z s h1 h2 h3 hid par wt
theorem rkGroup (hid : s.nx ≤ 1099511627776) (par wt : Int) : ∀ w, Sat w (rkS k s :: H) → Calls Tryz.prog 11 #[vp k, vi par, vi wt] w (Ret (ι := Unit) (fun _ => .tuple #[vi (kgroup s par wt).1.1, vi (kgroup s par wt).1.2]) fun _ => rkS k (kgroup s par wt).2 :: H) :=
 rkOp H k s fun t L a c Z h1 h2 h3 => rkgroup_walk H k t L a c Z s h1 h2 h3 hid par wt
theorem rkExit (id : Int) : ∀ w, Sat w (rkS k s :: H) → Calls Tryz.prog 13 #[vp k, vi id] w (Ret (ι := Unit) (fun _ => vi (kexit s id).1) fun _ => rkS k (kexit s id).2 :: H) :=
 rkOp H k s fun t L a c Z h1 h2 h3 => rkexit_walk H k t L a c Z s h1 h2 h3 id
theorem rkSleep (id u : Int) : ∀ w, Sat w (rkS k s :: H) → Calls Tryz.prog 15 #[vp k, vi id, vi u] w (Ret (ι := Unit) (fun _ => vi (ksleep s id u).1) fun _ => rkS k (ksleep s id u).2 :: H) :=
 rkOp H k s fun t L a c Z h1 h2 h3 => rksleep_walk H k t L a c Z s h1 h2 h3 id u
theorem rkWait (id j : Int) : ∀ w, Sat w (rkS k s :: H) → Calls Tryz.prog 17 #[vp k, vi id, vi j] w (Ret (ι := Unit) (fun _ => .tuple #[.bool (kwait s id j).1.1, vi (kwait s id j).1.2]) fun _ => rkS k (kwait s id j).2 :: H) :=
 rkOp H k s fun t L a c Z h1 h2 h3 => rkwait_walk H k t L a c Z s h1 h2 h3 id j
theorem rkSignal (j : Int) : ∀ w, Sat w (rkS k s :: H) → Calls Tryz.prog 19 #[vp k, vi j] w (Ret (ι := Unit) (fun _ => vi (ksignal s j).1) fun _ => rkS k (ksignal s j).2 :: H) :=
 rkOp H k s fun t L a c Z h1 h2 h3 => rksignal_walk H k t L a c Z s h1 h2 h3 j
theorem rkWake (t : Int) : ∀ w, Sat w (rkS k s :: H) → Calls Tryz.prog 24 #[vp k, vi t] w (Ret (ι := Option Addr × Nat) (fun x => .slice x.1 (kwake s t).1.length x.2) fun x => row (kE .i64) 3 (.slice x.1 (kwake s t).1.length x.2) (kwake s t).1 :: rkS k (kwake s t).2 :: H) :=
 rkOp H k s fun tr L a c Z h1 h2 h3 => rkwake_walk H k tr L a c Z s h1 h2 h3 t
end
theorem PT.openRk {n : Nat} {X : List (Nat × Value)} {k : Nat} {s : KS} {H : List SP} {Φ : Act → World → Prop} (h : ∀ (t : Nat) (L : List Nr) (a : Option Addr) (c : Nat) (Z : O4), KOk s → TRel s.N L → Z.ob = s.ob → PT n X (blk k 55 [.pointer (some ⟨t, 0, none⟩), .slice a s.tm.length c, .int .i64 Z.z0.c, .int .i64 Z.z1.c, .int .i64 Z.z2.c, .int .i64 Z.z3.c, .slice Z.z0.a Z.z0.l.length Z.z0.k, .slice Z.z1.a Z.z1.l.length Z.z1.k, .slice Z.z2.a Z.z2.l.length Z.z2.k, .slice Z.z3.a Z.z3.l.length Z.z3.k, .int .i64 s.mt, .int .i64 s.mg, .int .i64 (s.nx - 1)] :: rtS t L :: row tmE 141 (.slice a s.tm.length c) s.tm :: row (kE .i64) 3 (.slice Z.z0.a Z.z0.l.length Z.z0.k) Z.z0.l :: row (kE .i64) 3 (.slice Z.z1.a Z.z1.l.length Z.z1.k) Z.z1.l :: row (kE .i64) 3 (.slice Z.z2.a Z.z2.l.length Z.z2.k) Z.z2.l :: row (kE .i64) 3 (.slice Z.z3.a Z.z3.l.length Z.z3.k) Z.z3.l :: H) Φ) : PT n X (rkS k s :: H) Φ := fun rest w ho hs => by
 obtain ⟨t, L, a, c, Z, h1, h2, h3, hs⟩ := Sat.openRk hs
 exact h t L a c Z h1 h2 h3 rest w ho hs
theorem PT.closeRk {n : Nat} {X : List (Nat × Value)} {k t : Nat} {L : List Nr} {a : Option Addr} {c : Nat} {Z : O4} {s : KS} {H : List SP} {Φ : Act → World → Prop} (h1 : KOk s) (h2 : TRel s.N L) (h3 : Z.ob = s.ob) (h : PT n X (rkS k s :: H) Φ) : PT n X (blk k 55 [.pointer (some ⟨t, 0, none⟩), .slice a s.tm.length c, .int .i64 Z.z0.c, .int .i64 Z.z1.c, .int .i64 Z.z2.c, .int .i64 Z.z3.c, .slice Z.z0.a Z.z0.l.length Z.z0.k, .slice Z.z1.a Z.z1.l.length Z.z1.k, .slice Z.z2.a Z.z2.l.length Z.z2.k, .slice Z.z3.a Z.z3.l.length Z.z3.k, .int .i64 s.mt, .int .i64 s.mg, .int .i64 (s.nx - 1)] :: rtS t L :: row tmE 141 (.slice a s.tm.length c) s.tm :: row (kE .i64) 3 (.slice Z.z0.a Z.z0.l.length Z.z0.k) Z.z0.l :: row (kE .i64) 3 (.slice Z.z1.a Z.z1.l.length Z.z1.k) Z.z1.l :: row (kE .i64) 3 (.slice Z.z2.a Z.z2.l.length Z.z2.k) Z.z2.l :: row (kE .i64) 3 (.slice Z.z3.a Z.z3.l.length Z.z3.k) Z.z3.l :: H) Φ := PT.sat (fun _ hs => Sat.closeRk h1 h2 h3 hs) h
theorem rtNodes8 (H : List SP) (t : Nat) (L : List Nr) (hl : L.length ≤ 1000) (hne : L ≠ []) : ∀ w, Sat w (rtS t L :: H) → Calls Tryz.prog 33 #[vp t] w (Ret (ι := Option Addr × Nat) (fun x => .slice x.1 L.length x.2) fun x => row nE 95 (.slice x.1 L.length x.2) L :: rtS t L :: H) := fun w hs => by
 obtain ⟨b, o, c, hs⟩ := Sat.openRt hs
 refine (rnodes_walk H t b o c L hl w hs).mono fun e w' ⟨x, he, hx⟩ => ⟨x, he, ?_⟩
 exact Sat.perm (List.Perm.swap _ _ _) (Sat.closeRt hne (Sat.perm ((List.Perm.swap _ _ _).trans ((List.Perm.swap _ _ _).cons _)) hx))
theorem mvN {a b c d e : SP} {H : List SP} {w : World} (h : Sat w (a :: b :: c :: d :: e :: H)) : Sat w (a :: c :: d :: e :: b :: H) := Sat.perm (((List.perm_middle (a := b) (l₁ := [c, d, e]) (l₂ := H)).symm).cons a) h
section
variable {a b c d e f g P Q : SP} {H : List SP} {w : World}
theorem mv1 (h : Sat w (P :: a :: b :: c :: d :: e :: f :: g :: H)) : Sat w (a :: b :: c :: d :: e :: f :: g :: P :: H) := Sat.perm (List.perm_middle (a := P) (l₁ := [a, b, c, d, e, f, g]) (l₂ := H)).symm h
theorem mv1' (h : Sat w (a :: b :: c :: d :: e :: f :: g :: P :: H)) : Sat w (P :: a :: b :: c :: d :: e :: f :: g :: H) := Sat.perm (List.perm_middle (a := P) (l₁ := [a, b, c, d, e, f, g]) (l₂ := H)) h
theorem mv2 (h : Sat w (P :: Q :: a :: b :: c :: d :: e :: f :: g :: H)) : Sat w (a :: b :: c :: d :: e :: f :: g :: P :: Q :: H) := Sat.perm ((List.perm_middle (a := P) (l₁ := [a, b, c, d, e, f, g]) (l₂ := Q :: H)).symm.symm.symm) (Sat.perm ((List.perm_middle (a := Q) (l₁ := [a, b, c, d, e, f, g]) (l₂ := H)).symm.cons P) h)
theorem mv2' {R : SP} (h : Sat w (R :: a :: b :: c :: d :: e :: f :: g :: P :: Q :: H)) : Sat w (R :: P :: Q :: a :: b :: c :: d :: e :: f :: g :: H) := Sat.perm (((List.perm_middle (a := P) (l₁ := [a, b, c, d, e, f, g]) (l₂ := Q :: H)).trans ((List.perm_middle (a := Q) (l₁ := [a, b, c, d, e, f, g]) (l₂ := H)).cons P)).cons R) h
end
set_option maxRecDepth 100000 in
theorem kweight_walk (H : List SP) (k t m o : Nat) (s : KS) (id W : Int) : ∀ w, Sat w (blk k 74 [vp t, vp m, vp o, vi s.mt, vi s.mg, vi s.nx] :: treeS t s.N :: tmS m s.tm :: obsS o s.ob :: H) → Calls Tryz.prog 20 #[vp k, vi id, vi W] w (Ret (ι := Unit) (fun _ => pqErr (kweight s id W).1) fun _ => blk k 74 [vp t, vp m, vp o, vi (kweight s id W).2.mt, vi (kweight s id W).2.mg, vi (kweight s id W).2.nx] :: treeS t (kweight s id W).2.N :: tmS m (kweight s id W).2.tm :: obsS o (kweight s id W).2.ob :: H) := by
 refine enterG (fn := Tryz.f20) 14 [vp k, vi id, vi W] Tryz.func20 (by kernel_rfl) (by kernel_rfl) (by kernel_rfl) ?_
 refine Xq (Xg 1 (Xe [(0,vp k), (1,vi id), (2,vi W), (6,.nilIface)] ?_ 1))
 refine Xq (Xg 8 (Xl [(6,.nilIface), (10,vp t), (11,vi id), (12,vi W)] [(⟨k, 0, none⟩, vp t)] (hasC (ba 0) has0) ?_ 2 6))
 refine Xs (Xa (some 13) (fun _ => pqErr (weightN s.N id W).1) (chg_at 1 rfl (trWeight _ t s.N id W))) (fun _ => ?_) 1
 refine Xe [(6,pqErr (weightN s.N id W).1)] ?_ 1
 refine Xv (Y0 (pqErr (weightN s.N id W).1) (fun w hs => ?_))
 exact ⟨(), rfl, hs⟩
theorem krWeight (H : List SP) (k : Nat) (s : KS) (id W : Int) : ∀ w, Sat w (kerS k s :: H) → Calls Tryz.prog 20 #[vp k, vi id, vi W] w (Ret (ι := Unit) (fun _ => pqErr (kweight s id W).1) fun _ => kerS k (kweight s id W).2 :: H) :=
 kerOp H k s (fun t m o h => kweight_walk H k t m o s id W) (fun h => kweight_ok h id W)
end Go.Proofs.YtlhjibkkkhgonaaGreatDoor
set_option linter.unusedVariables false
set_option linter.unusedSimpArgs false
namespace Go.Proofs.YtlhjibkkkhgonaaGreatDoor
open Go.RowKit G
theorem eqFields_bool {P : Program} (w : World) (d : Nat) (xs ys : Array Value) (f : Field) (fs : List Field) (a b : Bool) (hn : (f.name == "_") = false) (hu : P.underlying f.type = some .bool) (hp : P.plainKey f.type = true) (hx : xs[f.offset]? = some (.bool a)) (hy : ys[f.offset]? = some (.bool b)) :
  (Op.eqFields (d + 1) xs ys (f :: fs)).run P w = if (a == b) = true then (Op.eqFields (d + 1) xs ys fs).run P w else .ok false w := by
 have hn' : f.name ≠ "_" := by simpa using hn
 rw [Op.eqFields, if_pos hn']
 simp only [Sem.run_bind, run_part_plain w hp hx, run_part_plain w hp hy, Result.andThen_ok, run_equalIn_bool w d f.type a b hu]
 cases h : (a == b) <;> simp
def ndEq (a b : Nr) : Bool := ((((a.id == b.id && a.par == b.par) && a.wt == b.wt) && a.pass == b.pass) && a.thr == b.thr) && a.rdy == b.rdy
theorem ndEq_self (a : Nr) : ndEq a a = true := by simp [ndEq]
theorem nd_eqv (a b : Nr) (w : World) : (Op.equalIn 10000 95 (ndV a) (ndV b)).run Tryz.prog w = .ok (ndEq a b) w := by
 unfold ndEq ndV
 rw [run_equalIn_struct w 9999 _ _ _ (by kernel_rfl) (by kernel_rfl)]
 have hl : (Tryz.prog.fieldsOf 95).toList = [(Tryz.prog.fieldsOf 95).toList.getD 0 default, (Tryz.prog.fieldsOf 95).toList.getD 1 default, (Tryz.prog.fieldsOf 95).toList.getD 2 default, (Tryz.prog.fieldsOf 95).toList.getD 3 default, (Tryz.prog.fieldsOf 95).toList.getD 4 default, (Tryz.prog.fieldsOf 95).toList.getD 5 default] := by kernel_rfl
 rw [hl, eqFields_int w 9998 _ _ _ _ .i64 .i64 a.id b.id (by kernel_rfl) (by kernel_rfl) (by kernel_rfl) (by kernel_rfl) (by kernel_rfl), eqFields_int w 9998 _ _ _ _ .i64 .i64 a.par b.par (by kernel_rfl) (by kernel_rfl) (by kernel_rfl) (by kernel_rfl) (by kernel_rfl),
  eqFields_int w 9998 _ _ _ _ .i64 .i64 a.wt b.wt (by kernel_rfl) (by kernel_rfl) (by kernel_rfl) (by kernel_rfl) (by kernel_rfl), eqFields_int w 9998 _ _ _ _ .i64 .i64 a.pass b.pass (by kernel_rfl) (by kernel_rfl) (by kernel_rfl) (by kernel_rfl) (by kernel_rfl),
  eqFields_bool w 9998 _ _ _ _ a.thr b.thr (by kernel_rfl) (by kernel_rfl) (by kernel_rfl) (by kernel_rfl) (by kernel_rfl), eqFields_bool w 9998 _ _ _ _ a.rdy b.rdy (by kernel_rfl) (by kernel_rfl) (by kernel_rfl) (by kernel_rfl) (by kernel_rfl)]
 cases a.id == b.id <;> cases a.par == b.par <;> cases a.wt == b.wt <;> cases a.pass == b.pass <;> cases a.thr == b.thr <;> cases a.rdy == b.rdy <;> simp [Op.eqFields]
theorem nd_neq (a b : Nr) (x y : Operand) (w : World) : (do eqGuard .neq 95 x y (ndV a) (ndV b); binOp .neq 95 (ndV a) (ndV b) : Sem Value).run Tryz.prog w = .ok (.bool (!ndEq a b)) w := by
 have h := nd_eqv a b w
 unfold ndV at h ⊢
 rw [Sem.run_bind, run_eqGuard_agg w _ _ _ _ _ _ (by kernel_rfl)]
 simp only [Result.andThen_ok]
 rw [run_neq_struct, h]
 rfl
set_option maxHeartbeats 1000000 in
set_option maxRecDepth 100000 in
theorem sameNodes_walk (H : List SP) (s1 s2 : SV Nr) (h1 : KR H nE s1) (h2 : KR H nE s2) (hl : s1.l.length ≤ 1000000) (hlen : s1.l.length = s2.l.length) (heq : ∀ (i : Nat) x y, s1.l[i]? = some x → s2.l[i]? = some y → ndEq x y = true) : ∀ w, Sat w H → Calls Tryz.prog 31 #[.slice s1.a s1.l.length s1.c, .slice s2.a s2.l.length s2.c] w (Ret (ι := Unit) (fun _ => .bool true) fun _ => H) := by
 refine enterG (fn := Tryz.f31) 26 [.slice s1.a s1.l.length s1.c, .slice s2.a s2.l.length s2.c] Tryz.func31 (by kernel_rfl) (by kernel_rfl) (by kernel_rfl) ?_
 refine Xq (Xg 1 (Xe [(0,.slice s1.a s1.l.length s1.c), (1,.slice s2.a s2.l.length s2.c), (4,.bool false)] ?_ 1))
 refine Xq (Xq (Xg 5 (Xe [(0,.slice s1.a s1.l.length s1.c), (1,.slice s2.a s2.l.length s2.c), (4,.bool false), (10,.bool ((s1.l.length : Int) != (s2.l.length : Int)))] ?_ 5)))
 refine Xc ((s1.l.length : Int) != (s2.l.length : Int)) (fun h0 => ?_) (fun h0 => ?_)
 ·skip
  exact absurd h0 (by rw [hlen]; simp)
 ·skip
  refine Xk (Xq (Xq (Xg 1 (Xe [(0,.slice s1.a s1.l.length s1.c), (1,.slice s2.a s2.l.length s2.c), (4,.bool false), (5,vi 0)] ?_ 1))))
  refine Xb 0 (Xp [(0,.slice s1.a s1.l.length s1.c), (1,.slice s2.a s2.l.length s2.c), (4,.bool false), (5,vi 0)] (Xl0 (fun (u : Nat) => [(0,.slice s1.a s1.l.length s1.c), (1,.slice s2.a s2.l.length s2.c), (4,.bool false), (5,vi u)]) (fun k (u : Nat) => k + u = s1.l.length) s1.l.length 0 (by kernel_rfl) rfl ?_))
  rintro k u hku
  refine Xq (Xq (Xg 4 (Xe [(0,.slice s1.a s1.l.length s1.c), (1,.slice s2.a s2.l.length s2.c), (4,.bool false), (5,vi u), (14,.bool (decide ((u : Int) < (s1.l.length : Int))))] ?_ 4)))
  refine Xc (decide ((u : Int) < (s1.l.length : Int))) (fun h3 => ?_) (fun h3 => ?_)
  ·skip
   have hu : u < s1.l.length := by have := of_decide_eq_true h3; omega
   obtain ⟨x, hx⟩ : ∃ x, s1.l[u]? = some x := ⟨_, List.getElem?_eq_getElem hu⟩
   obtain ⟨y, hy⟩ : ∃ y, s2.l[u]? = some y := ⟨_, List.getElem?_eq_getElem (by omega)⟩
   have hxy := heq u x y hx hy
   refine PT.know ((h1).isSome (List.ne_nil_of_length_pos (by omega))) ?_
   rintro ⟨b1, o1, hA1⟩
   try rw [hA1]
   refine PT.know ((h2).isSome (List.ne_nil_of_length_pos (by omega))) ?_
   rintro ⟨b2, o2, hA2⟩
   try rw [hA2]
   refine Xk (Xq (Xb 1 (Xq (Xy0 0 [] 9 ?_))))
   refine Xt [0, 1, 4, 5] [(0,.slice (some ⟨b1, o1, none⟩) s1.l.length s1.c), (1,.slice (some ⟨b2, o2, none⟩) s2.l.length s2.c), (4,.bool false), (5,vi u), (17,.slice (some ⟨b1, o1, none⟩) s1.l.length s1.c), (18,vi u), (21,.slice (some ⟨b2, o2, none⟩) s2.l.length s2.c), (22,vi u)] [] has0 ?_
   refine Xu 2 (Xi 62 (.tmp 17) (.tmp 18) b1 o1 s1.l.length s1.c u 6 95 (u : Int) 19 Tryz.underlying62) ?_
   refine Xt [3] [(0,.slice (some ⟨b1, o1, none⟩) s1.l.length s1.c), (1,.slice (some ⟨b2, o2, none⟩) s2.l.length s2.c), (4,.bool false), (5,vi u), (21,.slice (some ⟨b2, o2, none⟩) s2.l.length s2.c), (22,vi u), (20,.agg #[vi x.id, vi x.par, vi x.wt, vi x.pass, .bool x.thr, .bool x.rdy])] [(⟨b1, o1 + u * 6, none⟩, vi x.id), (⟨b1, o1 + u * 6 + 1, none⟩, vi x.par), (⟨b1, o1 + u * 6 + 2, none⟩, vi x.wt), (⟨b1, o1 + u * 6 + 3, none⟩, vi x.pass), (⟨b1, o1 + u * 6 + 4, none⟩, .bool x.thr), (⟨b1, o1 + u * 6 + 5, none⟩, .bool x.rdy)] (hasC (h1.cell hA1 (i := u) (x := x) hx (j := 0) rfl) (hasC (h1.cell hA1 (i := u) (x := x) hx (j := 1) rfl) (hasC (h1.cell hA1 (i := u) (x := x) hx (j := 2) rfl) (hasC (h1.cell hA1 (i := u) (x := x) hx (j := 3) rfl) (hasC (h1.cell hA1 (i := u) (x := x) hx (j := 4) rfl) (hasC (h1.cell hA1 (i := u) (x := x) hx (j := 5) rfl) has0)))))) ?_
   refine Xu 6 (Xi 62 (.tmp 21) (.tmp 22) b2 o2 s2.l.length s2.c u 6 95 (u : Int) 23 Tryz.underlying62) ?_
   refine Xt [7] [(0,.slice (some ⟨b1, o1, none⟩) s1.l.length s1.c), (1,.slice (some ⟨b2, o2, none⟩) s2.l.length s2.c), (4,.bool false), (5,vi u), (20,.agg #[vi x.id, vi x.par, vi x.wt, vi x.pass, .bool x.thr, .bool x.rdy]), (24,.agg #[vi y.id, vi y.par, vi y.wt, vi y.pass, .bool y.thr, .bool y.rdy])] [(⟨b2, o2 + u * 6, none⟩, vi y.id), (⟨b2, o2 + u * 6 + 1, none⟩, vi y.par), (⟨b2, o2 + u * 6 + 2, none⟩, vi y.wt), (⟨b2, o2 + u * 6 + 3, none⟩, vi y.pass), (⟨b2, o2 + u * 6 + 4, none⟩, .bool y.thr), (⟨b2, o2 + u * 6 + 5, none⟩, .bool y.rdy)] (hasC (h2.cell hA2 (i := u) (x := y) hy (j := 0) rfl) (hasC (h2.cell hA2 (i := u) (x := y) hy (j := 1) rfl) (hasC (h2.cell hA2 (i := u) (x := y) hy (j := 2) rfl) (hasC (h2.cell hA2 (i := u) (x := y) hy (j := 3) rfl) (hasC (h2.cell hA2 (i := u) (x := y) hy (j := 4) rfl) (hasC (h2.cell hA2 (i := u) (x := y) hy (j := 5) rfl) has0)))))) ?_
   refine Xu 8 (binY .neq 95 95 (.tmp 20) (.tmp 24) (.agg #[.int .i64 x.id, .int .i64 x.par, .int .i64 x.wt, .int .i64 x.pass, .bool x.thr, .bool x.rdy]) (.agg #[.int .i64 y.id, .int .i64 y.par, .int .i64 y.wt, .int .i64 y.pass, .bool y.thr, .bool y.rdy]) (.bool (!ndEq x y)) (some 25) (fun _ => by kernel_rfl) (by kernel_rfl) (by kernel_rfl) (fun _ => by kernel_rfl) (fun _ => by kernel_rfl) ((nd_neq x y _ _))) ?_
   rw [show ndEq x y = true by rw [hxy]]
   refine Xd (Xc false (fun h => by cases h) (fun _ => ?_))
   refine Xk (Xg 3 (Xe [(0,.slice (some ⟨b1, o1, none⟩) s1.l.length s1.c), (1,.slice (some ⟨b2, o2, none⟩) s2.l.length s2.c), (4,.bool false), (5,vi (IntKind.i64.wrap ((u : Int) + 1)))] ?_ 3))
   rw [show IntKind.i64.wrap ((u : Int) + 1) = ((u + 1 : Nat) : Int) by rw [w64 (by omega) (by omega)]; rfl]
   try rw [← hA1]
   try rw [← hA2]
   refine Xp [(0,.slice s1.a s1.l.length s1.c), (1,.slice s2.a s2.l.length s2.c), (4,.bool false), (5,vi ((u + 1 : Nat) : Int))] ?_
   exact againG (k - 1) (u + 1) rfl rfl (by omega) (by omega)
  ·skip
   refine Xx 0 (thenX (thenX (leaveR (Xq (Xg 1 (Xe [(4,.bool true)] ?_ 1))))))
   refine Xv (Y0 (.bool true) (fun w hs => ?_))
   exact ⟨(), rfl, hs⟩
end Go.Proofs.YtlhjibkkkhgonaaGreatDoor
