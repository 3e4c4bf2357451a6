/- Texts put together: A kernel: count, adds, Spawn, Group. A kernel: Spawn, Group, Wake. A kernel: New. A kernel: Wake. A kernel: Threads. A kernel as one part of memory: what its operations make of it. tontinelaw10.ready. tontinelaw10.known: the states. A kernel's numbers, plainly. A kernel's threads, as one sees them: which are there, which are ready, behind each operation. The document's kernel: its timers: Drop, Set, Due. The document's kernel: its objects: has, Wait, Signal, Drop. The document's kernel: its objects: Signal, Drop. Conditions: none. -/
import Derived.Test.YtlhjibkkkhgonaaGreatDoorMgKd3
set_option linter.unusedVariables false
set_option linter.unusedSimpArgs false
namespace Go.Proofs.YtlhjibkkkhgonaaGreatDoor
open Go.RowKit G
theorem nodesN_perm {N : List Nr} (hn : (N.map (·.id)).Nodup) : (nodesN N).Perm N := by
 have h1 : (sortI (N.map (·.id))).Perm (N.map (·.id)) := List.mergeSort_perm _ _
 have h2 : (N.map (·.id)).map (fun k => (gt N k).getD zeroN) = N := by
  rw [List.map_map]
  refine (List.map_congr_left (g := fun x => x) fun x hx => ?_).trans (List.map_id' N)
  show (gt N x.id).getD zeroN = x
  rw [gt_of hn hx]; rfl
 have h3 := h1.map (fun k => (gt N k).getD zeroN)
 rw [h2] at h3
 exact h3
def cntP (thr : Bool) (x : Nr) : Bool := x.thr == thr && !(x.id == 0)
theorem kcnt_nodes {N : List Nr} (hn : (N.map (·.id)).Nodup) (thr : Bool) : (((nodesN N).filter (cntP thr)).length : Int) = kcnt N thr := by
 rw [((nodesN_perm hn).filter (cntP thr)).length_eq]; rfl
theorem cnt_take {M : List Nr} {u : Nat} {x : Nr} (h : M[u]? = some x) (p : Nr → Bool) : ((M.take (u + 1)).filter p).length = ((M.take u).filter p).length + if p x = true then 1 else 0 := by
 rw [List.take_add_one, h, List.filter_append, List.length_append]
 cases c : p x <;> simp [c]
set_option maxHeartbeats 1000000 in
set_option maxRecDepth 100000 in
theorem kcount_walk (H : List SP) (k t m o : Nat) (s : KS) (hk : KOk s) (hid : s.nx ≤ 1099511627776) (thr : Bool) : ∀ w, Sat w (blk k 74 [vp t, vp m, vp o, vi s.mt, vi s.mg, vi s.nx] :: treeS t s.N :: tmS m s.tm :: obsS o s.ob :: H) → Calls Tryz.prog 77 #[vp k, .bool thr] w (Ret (ι := Unit) (fun _ => vi (kcnt s.N thr)) fun _ => blk k 74 [vp t, vp m, vp o, vi s.mt, vi s.mg, vi s.nx] :: treeS t s.N :: tmS m s.tm :: obsS o s.ob :: H) := by
 have hids : ∀ x ∈ s.N, x.id ≤ 9223372036854775807 := fun x hx => by have := hk.ids x hx; omega
 obtain ⟨M, hM⟩ : ∃ M, nodesN s.N = M := ⟨_, rfl⟩
 have hMl : 1 ≤ M.length ∧ M.length ≤ 60 := by
  rw [← hM, nodesN_len]
  obtain ⟨r, hr, _⟩ := hk.wf.sk.root
  exact ⟨List.length_pos_of_mem hr, hk.wf.sk.len⟩
 refine enterG (fn := Tryz.f77) 31 [vp k, .bool thr] Tryz.func77 (by kernel_rfl) (by kernel_rfl) (by kernel_rfl) ?_
 refine Xq (Xg 1 (Xe [(0,vp k), (1,.bool thr), (4,vi 0)] ?_ 1))
 refine Xq (Xg 1 (Xe [(0,vp k), (1,.bool thr), (4,vi 0), (5,vi 0)] ?_ 1))
 refine Xq (Xq (Xg 7 (Xl [(1,.bool thr), (4,vi 0), (5,vi 0), (11,vp t)] [(⟨k, 0, none⟩, vp t)] (hasC (ba 0) has0) ?_ 3 4)))
 refine Xh0 ?_ 0 3
 refine Xh0 ?_ 1 3
 refine Xs (Xa (some 12) (fun (na : Option Addr × Nat) => .slice na.1 M.length na.2) ((hM ▸ trNodes _ t s.N hids))) (fun (na : Option Addr × Nat) => ?_) 2
 refine PT.know (KR.isSome (s := ⟨na.1, na.2, M⟩) (rowKRat 0 rfl) (List.ne_nil_of_length_pos (by show 0 < M.length; omega))) ?_
 rintro ⟨nb, no, hnA⟩
 dsimp only at hnA
 rw [hnA]
 refine Xe [(12,.slice (some ⟨nb, no, none⟩) M.length na.2), (1,.bool thr), (4,vi 0), (5,vi 0), (13,vi (M.length : Int)), (14,vi 0)] ?_ 2
 refine Xb 0 (Xp [(1,.bool thr), (4,vi 0), (5,vi 0), (12,.slice (some ⟨nb, no, none⟩) M.length na.2), (13,vi (M.length : Int)), (14,vi 0)] (Xl0 (fun (q : Nat × Nat) => [(1,.bool thr), (4,vi 0), (5,vi (q.2 : Int)), (12,.slice (some ⟨nb, no, none⟩) M.length na.2), (13,vi (M.length : Int)), (14,vi (q.1 : Int))]) (fun k (q : Nat × Nat) => k + q.1 = M.length ∧ q.2 = ((M.take q.1).filter (cntP thr)).length) M.length (0,0) (by kernel_rfl) ⟨by simp, by simp⟩ ?_))
 rintro k1 ⟨i, n⟩ ⟨hki, hn⟩
 simp only at hki hn
 refine Xq (Xg 1 (Xe [(1,.bool thr), (4,vi 0), (5,vi n), (12,.slice (some ⟨nb, no, none⟩) M.length na.2), (13,vi (M.length : Int)), (14,vi i), (15,.bool (decide ((i : Int) < (M.length : Int))))] ?_ 1))
 refine Xq (Xc (decide ((i : Int) < (M.length : Int))) (fun h2 => ?_) (fun h2 => ?_))
 ·skip
  have hi : i < M.length := by have := of_decide_eq_true h2; omega
  obtain ⟨x, hx⟩ : ∃ x, M[i]? = some x := ⟨_, List.getElem?_eq_getElem hi⟩
  have hst := cnt_take hx (cntP thr)
  have hnl : ((M.take i).filter (cntP thr)).length ≤ i := Nat.le_trans (List.length_filter_le _ _) (by simp; omega)
  refine Xk (Xq (Xb 1 (Xq (Xg 4 (Xs (yldS (Xi 62 (.tmp 12) (.tmp 14) nb no M.length na.2 i 6 95 (i : Int) 16 Tryz.underlying62)) (fun _ => ?_) 3)))))
  refine Xl [(1,.bool thr), (4,vi 0), (5,vi n), (12,.slice (some ⟨nb, no, none⟩) M.length na.2), (13,vi (M.length : Int)), (14,vi i), (17,.agg #[vi x.id, vi x.par, vi x.wt, vi x.pass, .bool x.thr, .bool x.rdy])] [(⟨nb, no + i * 6, none⟩, vi x.id), (⟨nb, no + i * 6 + 1, none⟩, vi x.par), (⟨nb, no + i * 6 + 2, none⟩, vi x.wt), (⟨nb, no + i * 6 + 3, none⟩, vi x.pass), (⟨nb, no + i * 6 + 4, none⟩, .bool x.thr), (⟨nb, no + i * 6 + 5, none⟩, .bool x.rdy)] (hasC (rowCell (E := nE) (xs := M) 0 rfl (x := x) hx (j := 0) rfl) (hasC (rowCell (E := nE) (xs := M) 0 rfl (x := x) hx (j := 1) rfl) (hasC (rowCell (E := nE) (xs := M) 0 rfl (x := x) hx (j := 2) rfl) (hasC (rowCell (E := nE) (xs := M) 0 rfl (x := x) hx (j := 3) rfl) (hasC (rowCell (E := nE) (xs := M) 0 rfl (x := x) hx (j := 4) rfl) (hasC (rowCell (E := nE) (xs := M) 0 rfl (x := x) hx (j := 5) rfl) has0)))))) ?_ 2 1
  refine Xs (Xn 95 [vi 0, vi 0, vi 0, vi 0, .bool false, .bool false] (some 7) (fun b => vp b)) (fun b1 => ?_) 1
  refine Xs (Xz [(0,vi x.id), (1,vi x.par), (2,vi x.wt), (3,vi x.pass), (4,.bool x.thr), (5,.bool x.rdy)]) (fun _ => ?_) 0
  refine endR ?_
  refine Xq (Xg 9 (Xl [(7,vp b1), (1,.bool thr), (4,vi 0), (5,vi n), (12,.slice (some ⟨nb, no, none⟩) M.length na.2), (13,vi (M.length : Int)), (14,vi i), (22,.bool (x.thr == thr))] [(⟨b1, 4, none⟩, .bool x.thr)] (hasC (ba 0) has0) ?_ 4 5))
  refine (Xs0 0 4 [(1,.bool thr), (4,vi 0), (5,vi n), (12,.slice (some ⟨nb, no, none⟩) M.length na.2), (13,vi (M.length : Int)), (14,vi i), (26,.bool ((x.thr == thr) && (x.id != 0)))] ?_ ?_ : RT _ _ _ _ _ _ 4 _)
  ·cases hg5 : (x.thr == thr) with
   | true =>
    refine Xm [(1,.bool thr), (4,vi 0), (5,vi n), (12,.slice (some ⟨nb, no, none⟩) M.length na.2), (13,vi (M.length : Int)), (14,vi i), (26,.bool (x.id != 0))] [(⟨b1, 0, none⟩, vi x.id)] (hasC (ba 0) has0) ?_ 4
    refine Xp [(1,.bool thr), (4,vi 0), (5,vi n), (12,.slice (some ⟨nb, no, none⟩) M.length na.2), (13,vi (M.length : Int)), (14,vi i), (26,.bool (true && (x.id != 0)))] ?_
    exact midR () rfl rfl
   | false =>
    refine Xe [(1,.bool thr), (4,vi 0), (5,vi n), (12,.slice (some ⟨nb, no, none⟩) M.length na.2), (13,vi (M.length : Int)), (14,vi i), (26,.bool false)] ?_ 4
    refine Xp [(1,.bool thr), (4,vi 0), (5,vi n), (12,.slice (some ⟨nb, no, none⟩) M.length na.2), (13,vi (M.length : Int)), (14,vi i), (26,.bool (false && (x.id != 0)))] ?_
    exact midR () rfl rfl
  refine endR ?_
  refine Xc ((x.thr == thr) && (x.id != 0)) (fun h3 => ?_) (fun h3 => ?_)
  ·skip
   have h4 : cntP thr x = true := h3
   rw [if_pos h4] at hst
   refine Xg 3 (Xe [(1,.bool thr), (4,vi 0), (5,vi (IntKind.i64.wrap ((n : Int) + 1))), (12,.slice (some ⟨nb, no, none⟩) M.length na.2), (13,vi (M.length : Int)), (14,vi i)] ?_ 3)
   refine Xg 2 (Xe [(1,.bool thr), (4,vi 0), (5,vi (IntKind.i64.wrap ((n : Int) + 1))), (12,.slice (some ⟨nb, no, none⟩) M.length na.2), (13,vi (M.length : Int)), (14,vi (IntKind.i64.wrap ((i : Int) + 1)))] ?_ 2)
   rw [show IntKind.i64.wrap ((n : Int) + 1) = ((n : Int) + 1) by rw [w64 (by omega) (by omega)]]
   rw [show IntKind.i64.wrap ((i : Int) + 1) = ((i : Int) + 1) by rw [w64 (by omega) (by omega)]]
   refine PT.drop ?_
   refine Xp [(1,.bool thr), (4,vi 0), (5,vi ((n : Int) + 1)), (12,.slice (some ⟨nb, no, none⟩) M.length na.2), (13,vi (M.length : Int)), (14,vi ((i : Int) + 1))] ?_
   exact againG (k1 - 1) (i + 1, n + 1) rfl rfl (by omega) ⟨by simp only; omega, by simp only; omega⟩
  ·skip
   have h4 : ¬ cntP thr x = true := by rw [show cntP thr x = false from h3]; simp
   rw [if_neg h4] at hst
   refine Xk (Xg 2 (Xe [(1,.bool thr), (4,vi 0), (5,vi n), (12,.slice (some ⟨nb, no, none⟩) M.length na.2), (13,vi (M.length : Int)), (14,vi (IntKind.i64.wrap ((i : Int) + 1)))] ?_ 2))
   rw [show IntKind.i64.wrap ((i : Int) + 1) = ((i : Int) + 1) by rw [w64 (by omega) (by omega)]]
   refine PT.drop ?_
   refine Xp [(1,.bool thr), (4,vi 0), (5,vi n), (12,.slice (some ⟨nb, no, none⟩) M.length na.2), (13,vi (M.length : Int)), (14,vi ((i : Int) + 1))] ?_
   exact againG (k1 - 1) (i + 1, n) rfl rfl (by omega) ⟨by simp only; omega, by simp only; omega⟩
 ·skip
  have hi : i = M.length := by have := of_decide_eq_false h2; omega
  refine Xx 0 (thenX (thenX (leaveR (Xq (Xg 2 (Xe [(4,vi n)] ?_ 2))))))
  refine Xv (Y0 (vi n) (fun w hs => ?_))
  rw [hn, hi, List.take_length, ← hM, kcnt_nodes hk.wf.sk.nd]; exact ⟨(), rfl, SatF.swap hs.tail⟩
set_option maxHeartbeats 1000000 in
set_option maxRecDepth 100000 in
theorem kadds_walk (H : List SP) (k t m o : Nat) (s : KS) (hk : KOk s) (hid : s.nx ≤ 1099511627776) (par wt most : Int) (thr : Bool) : ∀ w, Sat w (blk k 74 [vp t, vp m, vp o, vi s.mt, vi s.mg, vi s.nx] :: treeS t s.N :: tmS m s.tm :: obsS o s.ob :: H) → Calls Tryz.prog 41 #[vp k, vi par, vi wt, vi most, .bool thr] w (Ret (ι := Unit) (fun _ => .tuple #[vi (kadds s par wt most thr).1.1, pqErr (kadds s par wt most thr).1.2]) fun _ => blk k 74 [vp t, vp m, vp o, vi (kadds s par wt most thr).2.mt, vi (kadds s par wt most thr).2.mg, vi (kadds s par wt most thr).2.nx] :: treeS t (kadds s par wt most thr).2.N :: tmS m (kadds s par wt most thr).2.tm :: obsS o (kadds s par wt most thr).2.ob :: H) := by
 have hnx := hk.nx
 refine enterG (fn := Tryz.f41) 71 [vp k, vi par, vi wt, vi most, .bool thr] Tryz.func41 (by kernel_rfl) (by kernel_rfl) (by kernel_rfl) ?_
 refine Xq (Xg 2 (Xe [(0,vp k), (1,vi par), (2,vi wt), (3,vi most), (4,.bool thr), (10,vi 0), (11,.nilIface)] ?_ 2))
 refine Xq (Xg 12 (Xl [(0,vp k), (1,vi par), (2,vi wt), (3,vi most), (4,.bool thr), (10,vi 0), (11,.nilIface), (19,vp t), (20,vi par)] [(⟨k, 0, none⟩, vp t)] (hasC (ba 0) has0) ?_ 7 5))
 refine Xs (Xa (some 21) (fun _ => .tuple #[.agg #[vi ((gt s.N par).getD zeroN).id, vi ((gt s.N par).getD zeroN).par, vi ((gt s.N par).getD zeroN).wt, vi ((gt s.N par).getD zeroN).pass, .bool ((gt s.N par).getD zeroN).thr, .bool ((gt s.N par).getD zeroN).rdy], .bool (gt s.N par).isSome]) (chg_at 1 rfl (trNode _ t s.N par))) (fun _ => ?_) 6
 cases hg : gt s.N par with
 | none =>
  refine Xr [(0,vp k), (1,vi par), (2,vi wt), (3,vi most), (4,.bool thr), (10,vi 0), (11,.nilIface), (22,.agg #[vi zeroN.id, vi zeroN.par, vi zeroN.wt, vi zeroN.pass, .bool zeroN.thr, .bool zeroN.rdy]), (23,.bool false)] ?_ 3 3
  refine Xs (Xn 95 [vi 0, vi 0, vi 0, vi 0, .bool false, .bool false] (some 12) (fun b => vp b)) (fun b1 => ?_) 2
  refine Xs (Xz [(0,vi zeroN.id), (1,vi zeroN.par), (2,vi zeroN.wt), (3,vi zeroN.pass), (4,.bool zeroN.thr), (5,.bool zeroN.rdy)]) (fun _ => ?_) 1
  refine Xe [(12,vp b1), (0,vp k), (1,vi par), (2,vi wt), (3,vi most), (4,.bool thr), (10,vi 0), (11,.nilIface), (13,.bool false)] ?_ 1
  refine Xq (Xb 0 (Xq (Xg 4 (Xr [(12,vp b1), (0,vp k), (1,vi par), (2,vi wt), (3,vi most), (4,.bool thr), (10,vi 0), (11,.nilIface), (13,.bool false), (25,vi wt)] ?_ 3 1))))
  refine Xs (Xa (some 26) (fun _ => .bool (isW wt)) (strIs_walk _ wt)) (fun _ => ?_) 2
  refine Xe [(12,vp b1), (0,vp k), (1,vi par), (2,vi wt), (3,vi most), (4,.bool thr), (10,vi 0), (11,.nilIface), (13,.bool false), (24,.bool (!(isW wt)))] ?_ 2
  cases hw : (isW wt) with
  | true =>
   have e : kadds s par wt most thr = ((0, 13), s) := by rw [kadds, if_neg (by rw [hw]; simp), if_pos (by rw [hg]; simp)]
   refine Xc false (fun h => by cases h) (fun _ => ?_)
   refine Xq (Xg 7 (Xe [(0,vp k), (1,vi par), (2,vi wt), (3,vi most), (4,.bool thr), (10,vi 0), (11,.nilIface), (29,.bool true)] ?_ 7))
   refine Xc true (fun _ => ?_) (fun h => by cases h)
   refine Xq (Xg 3 (Xe [(0,vp k), (1,vi par), (2,vi wt), (4,.bool thr), (10,vi 0), (11,.iface 66 (vi 13))] ?_ 3))
   refine Xv (blockV (thenV (Y0 (.tuple #[vi 0, .iface 66 (vi 13)]) (fun w hs => ?_))))
   rw [e]; exact ⟨(), rfl, hs.tail⟩
  | false =>
   have e : kadds s par wt most thr = ((0, 10), s) := by rw [kadds, if_pos hw]
   refine Xc true (fun _ => ?_) (fun h => by cases h)
   refine Xq (Xg 3 (Xe [(0,vp k), (1,vi par), (2,vi wt), (4,.bool thr), (10,vi 0), (11,.iface 66 (vi 10))] ?_ 3))
   refine Xv (blockV (thenV (Y0 (.tuple #[vi 0, .iface 66 (vi 10)]) (fun w hs => ?_))))
   rw [e]; exact ⟨(), rfl, hs.tail⟩
 | some p =>
  simp only [Option.getD_some, Option.isSome_some]
  refine Xr [(0,vp k), (1,vi par), (2,vi wt), (3,vi most), (4,.bool thr), (10,vi 0), (11,.nilIface), (22,.agg #[vi p.id, vi p.par, vi p.wt, vi p.pass, .bool p.thr, .bool p.rdy]), (23,.bool true)] ?_ 3 3
  refine Xs (Xn 95 [vi 0, vi 0, vi 0, vi 0, .bool false, .bool false] (some 12) (fun b => vp b)) (fun b1 => ?_) 2
  refine Xs (Xz [(0,vi p.id), (1,vi p.par), (2,vi p.wt), (3,vi p.pass), (4,.bool p.thr), (5,.bool p.rdy)]) (fun _ => ?_) 1
  refine Xe [(12,vp b1), (0,vp k), (1,vi par), (2,vi wt), (3,vi most), (4,.bool thr), (10,vi 0), (11,.nilIface), (13,.bool true)] ?_ 1
  refine Xq (Xb 0 (Xq (Xg 4 (Xr [(12,vp b1), (0,vp k), (1,vi par), (2,vi wt), (3,vi most), (4,.bool thr), (10,vi 0), (11,.nilIface), (13,.bool true), (25,vi wt)] ?_ 3 1))))
  refine Xs (Xa (some 26) (fun _ => .bool (isW wt)) (strIs_walk _ wt)) (fun _ => ?_) 2
  refine Xe [(12,vp b1), (0,vp k), (1,vi par), (2,vi wt), (3,vi most), (4,.bool thr), (10,vi 0), (11,.nilIface), (13,.bool true), (24,.bool (!(isW wt)))] ?_ 2
  cases hw : (isW wt) with
  | true =>
   cases ht : (p.thr) with
   | true =>
    have e : kadds s par wt most thr = ((0, 13), s) := by rw [kadds, if_neg (by rw [hw]; simp), if_pos (by rw [hg]; simp [ht])]
    refine Xc false (fun h => by cases h) (fun _ => ?_)
    refine Xq (Xg 7 (Xm [(0,vp k), (1,vi par), (2,vi wt), (3,vi most), (4,.bool thr), (10,vi 0), (11,.nilIface), (29,.bool true)] [(⟨b1, 4, none⟩, .bool true)] (hasC (ba 0) has0) ?_ 7))
    refine Xc true (fun _ => ?_) (fun h => by cases h)
    refine Xq (Xg 3 (Xe [(0,vp k), (1,vi par), (2,vi wt), (4,.bool thr), (10,vi 0), (11,.iface 66 (vi 13))] ?_ 3))
    refine Xv (blockV (thenV (Y0 (.tuple #[vi 0, .iface 66 (vi 13)]) (fun w hs => ?_))))
    rw [e]; exact ⟨(), rfl, hs.tail⟩
   | false =>
    have h13 : ¬ ((gt s.N par).isNone ∨ ((gt s.N par).getD zeroN).thr = true) := by rw [hg]; simp [ht]
    refine Xc false (fun h => by cases h) (fun _ => ?_)
    refine Xq (Xg 7 (Xm [(0,vp k), (1,vi par), (2,vi wt), (3,vi most), (4,.bool thr), (10,vi 0), (11,.nilIface), (29,.bool false)] [(⟨b1, 4, none⟩, .bool false)] (hasC (ba 0) has0) ?_ 7))
    refine Xc false (fun h => by cases h) (fun _ => ?_)
    refine Xq (Xg 6 (Xr [(0,vp k), (1,vi par), (2,vi wt), (3,vi most), (4,.bool thr), (10,vi 0), (11,.nilIface), (38,vp k), (39,.bool thr)] ?_ 4 2))
    refine PT.drop ?_
    refine Xs (Xa (some 40) (fun _ => vi (kcnt s.N thr)) (kcount_walk _ k t m o s hk hid thr)) (fun _ => ?_) 3
    refine Xe [(0,vp k), (1,vi par), (2,vi wt), (4,.bool thr), (10,vi 0), (11,.nilIface), (37,.bool (decide ((kcnt s.N thr) ≥ most)))] ?_ 3
    refine Xc (decide ((kcnt s.N thr) ≥ most)) (fun h3 => ?_) (fun h3 => ?_)
    ·skip
     have e : kadds s par wt most thr = ((0, 14), s) := by rw [kadds, if_neg (by rw [hw]; simp), if_neg h13, if_pos (of_decide_eq_true h3)]
     refine Xq (Xg 3 (Xe [(0,vp k), (1,vi par), (2,vi wt), (4,.bool thr), (10,vi 0), (11,.iface 66 (vi 14))] ?_ 3))
     refine Xv (blockV (thenV (Y0 (.tuple #[vi 0, .iface 66 (vi 14)]) (fun w hs => ?_))))
     rw [e]; exact ⟨(), rfl, hs⟩
    ·skip
     have h3' : ¬ kcnt s.N thr ≥ most := of_decide_eq_false h3
     refine PT.pick 0 rfl ?_
     refine PT.pick 1 rfl ?_
     refine Xk (Xq (Xq (Xy0 1 [] 13 ?_)))
     refine Xt [0, 1, 2, 3, 4, 5, 6, 7, 8, 9, 10] [(0,vp k), (10,vi 0), (11,.nilIface), (47,vp t), (48,vi par), (52,vi s.nx), (53,vi wt), (54,.bool thr)] [(⟨k, 0, none⟩, vp t), (⟨k, 5, none⟩, vi s.nx)] (hasC (ba 0) (hasC (ba 0) has0)) ?_
     refine Xo 11 (Xa (some 55) (fun _ => pqErr (addN s.N par s.nx wt thr).1) (trAdd _ t s.N par s.nx wt thr)) (fun _ => ?_)
     rcases Decidable.em ((addN s.N par s.nx wt thr).1 = 0) with h4 | h4
     ·rw [pqErr_0 h4]
      have e : kadds s par wt most thr = ((s.nx, 0), { s with N := (addN s.N par s.nx wt thr).2, nx := s.nx + 1 }) := by rw [kadds, if_neg (by rw [hw]; simp), if_neg h13, if_neg h3', if_neg (by rw [h4]; simp)]
      refine Xt [12] [(0,vp k), (10,vi 0), (11,.nilIface), (14,.nilIface)] [] has0 ?_
      refine Xd (Xq (Xg 2 (Xe [(0,vp k), (10,vi 0), (11,.nilIface), (14,.nilIface), (57,.bool false)] ?_ 2)))
      refine Xc false (fun h => by cases h) (fun _ => ?_)
      refine Xk (Xq (Xg 8 (Xl [(0,vp k), (10,vi 0), (11,.nilIface), (63,vi (IntKind.i64.wrap (s.nx + 1))), (65,vq k 5)] [(⟨k, 5, none⟩, vi s.nx)] (hasC (ba 1) has0) ?_ 1 7)))
      refine Xh0 ?_ 1 1
      refine Xs (Xz [(5,vi (IntKind.i64.wrap (s.nx + 1)))]) (fun _ => ?_) 0
      refine endR ?_
      refine Xq (Xg 7 (Xm [(10,vi (IntKind.i64.wrap ((IntKind.i64.wrap (s.nx + 1)) - 1))), (11,.nilIface)] [(⟨k, 5, none⟩, vi (IntKind.i64.wrap (s.nx + 1)))] (hasC (ba 0) has0) ?_ 7))
      refine Xv ?_
      rw [show IntKind.i64.wrap (s.nx + 1) = (s.nx + 1) by rw [w64 (by omega) (by omega)]]
      rw [show IntKind.i64.wrap ((s.nx + 1) - 1) = ((s.nx + 1) - 1) by rw [w64 (by omega) (by omega)]]
      refine Y1 (.tuple #[vi ((s.nx + 1) - 1), .nilIface]) (fun w hs => ?_)
      rw [e]; exact ⟨(), by simp only; rw [show s.nx + 1 - 1 = s.nx by omega]; rfl, hs⟩
     ·rw [pqErr_n h4]
      have e : kadds s par wt most thr = ((0, (addN s.N par s.nx wt thr).1), s) := by rw [kadds, if_neg (by rw [hw]; simp), if_neg h13, if_neg h3', if_pos h4]
      have hN : (addN s.N par s.nx wt thr).2 = s.N := by rcases add_cases s.N par s.nx wt thr with ⟨e, _, h5⟩ | ⟨p, _, _, h5⟩; rw [h5]; rw [h5] at h4; exact absurd rfl h4
      refine Xt [12] [(0,vp k), (10,vi 0), (11,.nilIface), (14,.iface 66 (vi ((addN s.N par s.nx wt thr).1)))] [] has0 ?_
      refine Xd (Xq (Xg 2 (Xe [(0,vp k), (10,vi 0), (11,.nilIface), (14,.iface 66 (vi ((addN s.N par s.nx wt thr).1))), (57,.bool true)] ?_ 2)))
      refine Xc true (fun _ => ?_) (fun h => by cases h)
      refine Xq (Xg 3 (Xe [(0,vp k), (10,vi 0), (11,.iface 66 (vi ((addN s.N par s.nx wt thr).1)))] ?_ 3))
      refine Xv (thenV (Y0 (.tuple #[vi 0, .iface 66 (vi ((addN s.N par s.nx wt thr).1))]) (fun w hs => ?_)))
      rw [e]; exact ⟨(), by simp only; rw [pqErr_n h4], by simp only; rw [hN] at hs; exact SatF.swap hs⟩
  | false =>
   have e : kadds s par wt most thr = ((0, 10), s) := by rw [kadds, if_pos hw]
   refine Xc true (fun _ => ?_) (fun h => by cases h)
   refine Xq (Xg 3 (Xe [(0,vp k), (1,vi par), (2,vi wt), (4,.bool thr), (10,vi 0), (11,.iface 66 (vi 10))] ?_ 3))
   refine Xv (blockV (thenV (Y0 (.tuple #[vi 0, .iface 66 (vi 10)]) (fun w hs => ?_))))
   rw [e]; exact ⟨(), rfl, hs.tail⟩
end Go.Proofs.YtlhjibkkkhgonaaGreatDoor
set_option linter.unusedVariables false
set_option linter.unusedSimpArgs false
namespace Go.Proofs.YtlhjibkkkhgonaaGreatDoor
open Go.RowKit G
set_option maxRecDepth 100000 in
theorem kgroup_walk (H : List SP) (k t m o : Nat) (s : KS) (hk : KOk s) (hid : s.nx ≤ 1099511627776) (par wt : Int) : ∀ w, Sat w (blk k 74 [vp t, vp m, vp o, vi s.mt, vi s.mg, vi s.nx] :: treeS t s.N :: tmS m s.tm :: obsS o s.ob :: H) → Calls Tryz.prog 10 #[vp k, vi par, vi wt] w (Ret (ι := Unit) (fun _ => .tuple #[vi (kgroup s par wt).1.1, pqErr (kgroup s par wt).1.2]) fun _ => blk k 74 [vp t, vp m, vp o, vi (kgroup s par wt).2.mt, vi (kgroup s par wt).2.mg, vi (kgroup s par wt).2.nx] :: treeS t (kgroup s par wt).2.N :: tmS m (kgroup s par wt).2.tm :: obsS o (kgroup s par wt).2.ob :: H) := by
 refine enterG (fn := Tryz.f10) 18 [vp k, vi par, vi wt] Tryz.func10 (by kernel_rfl) (by kernel_rfl) (by kernel_rfl) ?_
 refine Xq (Xg 2 (Xe [(0,vp k), (1,vi par), (2,vi wt), (6,vi 0), (7,.nilIface)] ?_ 2))
 refine Xq (Xg 12 (Xl [(6,vi 0), (7,.nilIface), (8,vp k), (9,vi par), (10,vi wt), (14,vi s.mg)] [(⟨k, 4, none⟩, vi s.mg)] (hasC (ba 0) has0) ?_ 5 7))
 refine Xs (Xa (some 15) (fun _ => .tuple #[vi (kadds s par wt s.mg false).1.1, pqErr (kadds s par wt s.mg false).1.2]) (kadds_walk _ k t m o s hk hid par wt s.mg false)) (fun _ => ?_) 4
 refine Xe [(6,vi ((kadds s par wt s.mg false).1.1)), (7,pqErr (kadds s par wt s.mg false).1.2)] ?_ 4
 refine Xv (Y0 (.tuple #[vi ((kadds s par wt s.mg false).1.1), pqErr (kadds s par wt s.mg false).1.2]) (fun w hs => ?_))
 exact ⟨(), rfl, hs⟩
set_option maxRecDepth 100000 in
theorem kspawn_walk (H : List SP) (k t m o : Nat) (s : KS) (hk : KOk s) (hid : s.nx ≤ 1099511627776) (par wt : Int) : ∀ w, Sat w (blk k 74 [vp t, vp m, vp o, vi s.mt, vi s.mg, vi s.nx] :: treeS t s.N :: tmS m s.tm :: obsS o s.ob :: H) → Calls Tryz.prog 7 #[vp k, vi par, vi wt] w (Ret (ι := Unit) (fun _ => .tuple #[vi (kspawn s par wt).1.1, pqErr (kspawn s par wt).1.2]) fun _ => blk k 74 [vp t, vp m, vp o, vi (kspawn s par wt).2.mt, vi (kspawn s par wt).2.mg, vi (kspawn s par wt).2.nx] :: treeS t (kspawn s par wt).2.N :: tmS m (kspawn s par wt).2.tm :: obsS o (kspawn s par wt).2.ob :: H) := by
 refine enterG (fn := Tryz.f7) 31 [vp k, vi par, vi wt] Tryz.func7 (by kernel_rfl) (by kernel_rfl) (by kernel_rfl) ?_
 refine Xq (Xg 2 (Xe [(0,vp k), (1,vi par), (2,vi wt), (6,vi 0), (7,.nilIface)] ?_ 2))
 refine Xq (Xg 13 (Xl [(0,vp k), (6,vi 0), (7,.nilIface), (11,vp k), (12,vi par), (13,vi wt), (17,vi s.mt)] [(⟨k, 3, none⟩, vi s.mt)] (hasC (ba 0) has0) ?_ 6 7))
 refine Xs (Xa (some 18) (fun _ => .tuple #[vi (kadds s par wt s.mt true).1.1, pqErr (kadds s par wt s.mt true).1.2]) (kadds_walk _ k t m o s hk hid par wt s.mt true)) (fun _ => ?_) 5
 rcases Decidable.em ((kadds s par wt s.mt true).1.2 = 0) with h4 | h4
 ·rw [pqErr_0 h4]
  have e : kspawn s par wt = (((kadds s par wt s.mt true).1.1, (readyN (kadds s par wt s.mt true).2.N (kadds s par wt s.mt true).1.1 true).1), { (kadds s par wt s.mt true).2 with N := (readyN (kadds s par wt s.mt true).2.N (kadds s par wt s.mt true).1.1 true).2 }) := by rw [kspawn, if_neg (by rw [h4]; simp)]
  refine Xe [(0,vp k), (6,vi 0), (7,.nilIface), (8,vi ((kadds s par wt s.mt true).1.1)), (9,.nilIface)] ?_ 5
  refine Xq (Xq (Xg 2 (Xe [(0,vp k), (6,vi 0), (7,.nilIface), (8,vi ((kadds s par wt s.mt true).1.1)), (9,.nilIface), (22,.bool false)] ?_ 2)))
  refine Xc false (fun h => by cases h) (fun _ => ?_)
  refine Xk (Xq (Xg 9 (Xl [(6,vi 0), (7,.nilIface), (24,vi ((kadds s par wt s.mt true).1.1)), (28,vp t), (29,vi ((kadds s par wt s.mt true).1.1))] [(⟨k, 0, none⟩, vp t)] (hasC (ba 0) has0) ?_ 3 6)))
  refine Xs (Xa (some 30) (fun _ => pqErr (readyN (kadds s par wt s.mt true).2.N (kadds s par wt s.mt true).1.1 true).1) (chg_at 1 rfl (trReady _ t (kadds s par wt s.mt true).2.N (kadds s par wt s.mt true).1.1 true))) (fun _ => ?_) 2
  refine Xe [(6,vi ((kadds s par wt s.mt true).1.1)), (7,pqErr (readyN (kadds s par wt s.mt true).2.N (kadds s par wt s.mt true).1.1 true).1)] ?_ 2
  refine Xv (Y0 (.tuple #[vi ((kadds s par wt s.mt true).1.1), pqErr (readyN (kadds s par wt s.mt true).2.N (kadds s par wt s.mt true).1.1 true).1]) (fun w hs => ?_))
  rw [e]; exact ⟨(), rfl, hs⟩
 ·rw [pqErr_n h4]
  have e : kspawn s par wt = ((0, (kadds s par wt s.mt true).1.2), (kadds s par wt s.mt true).2) := by rw [kspawn, if_pos h4]
  refine Xe [(0,vp k), (6,vi 0), (7,.nilIface), (8,vi ((kadds s par wt s.mt true).1.1)), (9,.iface 66 (vi ((kadds s par wt s.mt true).1.2)))] ?_ 5
  refine Xq (Xq (Xg 2 (Xe [(0,vp k), (6,vi 0), (7,.nilIface), (8,vi ((kadds s par wt s.mt true).1.1)), (9,.iface 66 (vi ((kadds s par wt s.mt true).1.2))), (22,.bool true)] ?_ 2)))
  refine Xc true (fun _ => ?_) (fun h => by cases h)
  refine Xq (Xg 3 (Xe [(0,vp k), (6,vi 0), (7,.iface 66 (vi ((kadds s par wt s.mt true).1.2))), (8,vi ((kadds s par wt s.mt true).1.1))] ?_ 3))
  refine Xv (thenV (Y0 (.tuple #[vi 0, .iface 66 (vi ((kadds s par wt s.mt true).1.2))]) (fun w hs => ?_)))
  rw [e]; exact ⟨(), by simp only; rw [pqErr_n h4], hs⟩
end Go.Proofs.YtlhjibkkkhgonaaGreatDoor
set_option linter.unusedVariables false
set_option linter.unusedSimpArgs false
namespace Go.Proofs.YtlhjibkkkhgonaaGreatDoor
open Go.RowKit G
def kn01 : List Nr := [⟨0, -1, 1, 0, false, true, 0⟩, ⟨1, 0, 1, 0, true, true, 0⟩]
def mtOf (a : Int) : Int := mnI (mxI a 1) 8
def mgOf (a : Int) : Int := mnI (mxI a 0) 4
theorem mtOf_in (a : Int) : 1 ≤ mtOf a ∧ mtOf a ≤ 8 := by unfold mtOf mnI mxI; repeat' split <;> omega
theorem mgOf_in (a : Int) : 0 ≤ mgOf a ∧ mgOf a ≤ 4 := by unfold mgOf mnI mxI; repeat' split <;> omega
theorem k00_adds {mt mg : Int} (h : 1 ≤ mt) : kadds ⟨[rootN], [], ob0, mt, mg, 1⟩ 0 1 mt true = ((1, 0), ⟨[rootN, ⟨1, 0, 1, 0, true, false, 0⟩], [], ob0, mt, mg, 2⟩) := by
 have h1 : kcnt [rootN] true = 0 := by decide
 have h2 : addN [rootN] 0 1 1 true = (0, [rootN, ⟨1, 0, 1, 0, true, false, 0⟩]) := by rfl
 have h3 : gt [rootN] 0 = some rootN := by rfl
 rw [kadds, if_neg (by decide), if_neg (by simp only [h3]; decide), if_neg (by simp only [h1]; omega), if_neg (by simp only [h2]; decide)]
 simp only [h2]; rfl
theorem k00_spawn {mt mg : Int} (h : 1 ≤ mt) : kspawn ⟨[rootN], [], ob0, mt, mg, 1⟩ 0 1 = ((1, 0), ⟨kn01, [], ob0, mt, mg, 2⟩) := by
 have h1 := k00_adds (mt := mt) (mg := mg) h
 have h2 : readyN [rootN, ⟨1, 0, 1, 0, true, false, 0⟩] 1 true = (0, kn01) := by rfl
 unfold kspawn
 simp only [h1]
 rw [if_neg (by decide)]
 simp only [h2]
theorem k0_is {mt mg : Int} (h : 1 ≤ mt) : k0 mt mg = ⟨kn01, [], ob0, mt, mg, 2⟩ := congrArg Prod.snd (k00_spawn h)
set_option maxHeartbeats 1000000 in
set_option maxRecDepth 100000 in
theorem knew_walk (H : List SP) (th gr : Int) : ∀ w, Sat w H → Calls Tryz.prog 5 #[vi th, vi gr] w (Ret (ι := Nat) (fun k => vp k) fun k => kerS k (k0 (mtOf th) (mgOf gr)) :: H) := by
 have hm := mtOf_in th
 have hg := mgOf_in gr
 have hsp := k00_spawn (mt := mtOf th) (mg := mgOf gr) hm.1
 have hk := k00_ok hm hg
 refine enterG (fn := Tryz.f5) 27 [vi th, vi gr] Tryz.func5 (by kernel_rfl) (by kernel_rfl) (by kernel_rfl) ?_
 refine Xq (Xg 1 (Xe [(0,vi th), (1,vi gr), (4,.pointer none)] ?_ 1))
 refine Xq (Xg 12 (Xs (Xa (some 8) (fun (t : Nat) => vp t) (trNew _)) (fun (t : Nat) => ?_) 11))
 refine Xs (Xa (some 9) (fun (m : Nat) => vp m) (tmgNew _)) (fun (m : Nat) => ?_) 10
 refine Xs (Xa (some 10) (fun (o : Nat) => vp o) (obgNew _)) (fun (o : Nat) => ?_) 9
 refine Xr [(4,.pointer none), (17,.agg #[vp t, vp m, vp o, vi (mnI (mxI th 1) 8), vi (mnI (mxI gr 0) 4), vi 1])] ?_ 2 7
 refine Xs (Xn 74 [vp t, vp m, vp o, vi (mnI (mxI th 1) 8), vi (mnI (mxI gr 0) 4), vi 1] (some 18) (fun b => vp b)) (fun b1 => ?_) 1
 refine Xe [(4,.pointer none), (5,vp b1)] ?_ 1
 refine Xq (Xq (Xg 7 (Xr [(4,.pointer none), (5,vp b1), (20,vp b1)] ?_ 6 1)))
 refine Xh0 ?_ 1 6
 refine Xh0 ?_ 2 6
 refine Xh0 ?_ 3 6
 refine Xh0 ?_ 3 6
 refine Xs (Xa (some 21) (fun _ => .tuple #[vi 1, .nilIface]) ((by have h := kspawn_walk H b1 t m o ⟨[rootN], [], ob0, mtOf th, mgOf gr, 1⟩ hk (by simp only; omega) 0 1; rw [hsp] at h; exact h))) (fun _ => ?_) 5
 refine Xe [(4,.pointer none), (5,vp b1), (7,.nilIface)] ?_ 5
 refine Xq (Xg 2 (Xe [(4,.pointer none), (5,vp b1), (25,.bool false)] ?_ 2))
 refine Xc false (fun h => by cases h) (fun _ => ?_)
 refine Xk (Xq (Xg 2 (Xe [(4,vp b1)] ?_ 2)))
 refine Xv (Y0 (vp b1) (fun w hs => ?_))
 exact ⟨b1, rfl, Sat.closeKer (k0_ok hm hg) (by rw [k0_is hm.1]; exact hs)⟩
end Go.Proofs.YtlhjibkkkhgonaaGreatDoor
set_option linter.unusedVariables false
set_option linter.unusedSimpArgs false
namespace Go.Proofs.YtlhjibkkkhgonaaGreatDoor
open Go.RowKit G
theorem wakeL_snoc (N : List Nr) (l : List Int) (i : Int) : wakeL N (l ++ [i]) = (readyN (wakeL N l) i true).2 := by simp [wakeL]
theorem wake_step {s : KS} (hk : KOk s) (t : Int) {u : Nat} {i : Int} (h : (dueOf t s.tm)[u]? = some i) : (readyN (wakeL s.N ((dueOf t s.tm).take u)) i true).1 = 0 := by
 obtain ⟨h1, h2, h3⟩ := wakeL_ok ((dueOf t s.tm).take u) hk.wf
 have hoff : Off s.N i := by
  obtain ⟨v, hv, _⟩ := (mem_due t i).1 (List.mem_of_getElem? h)
  exact hk.tmo _ hv
 have hnot : i ∉ (dueOf t s.tm).take u := fun hm => by
  obtain ⟨a, ha⟩ := List.getElem?_of_mem hm
  rw [List.getElem?_take] at ha
  split at ha
  ·obtain ⟨ha1, ha2⟩ := List.getElem?_eq_some_iff.1 ha
   obtain ⟨hu1, hu2⟩ := List.getElem?_eq_some_iff.1 h
   have := List.pairwise_iff_getElem.1 (hk.tm.due t) a u ha1 hu1 (by assumption)
   omega
  ·cases ha
 obtain ⟨x, hx, ht, _⟩ := (h3 i hnot hoff).get h1.sk
 rw [readyN, hx]; simp [ht]
set_option maxHeartbeats 1000000 in
set_option maxRecDepth 100000 in
theorem kwake_walk (H : List SP) (k t m o : Nat) (s : KS) (hk : KOk s) (tick : Int) : ∀ w, Sat w (blk k 74 [vp t, vp m, vp o, vi s.mt, vi s.mg, vi s.nx] :: treeS t s.N :: tmS m s.tm :: obsS o s.ob :: H) → Calls Tryz.prog 23 #[vp k, vi tick] w (Ret (ι := Option Addr × Nat) (fun x => .slice x.1 (kwake s tick).1.length x.2) fun x => row (kE .i64) 3 (.slice x.1 (kwake s tick).1.length x.2) (kwake s tick).1 :: blk k 74 [vp t, vp m, vp o, vi (kwake s tick).2.mt, vi (kwake s tick).2.mg, vi (kwake s tick).2.nx] :: treeS t (kwake s tick).2.N :: tmS m (kwake s tick).2.tm :: obsS o (kwake s tick).2.ob :: H) := by
 have htl := hk.tml
 obtain ⟨D, hD⟩ : ∃ D, dueOf tick s.tm = D := ⟨_, rfl⟩
 have hst := fun u i => wake_step hk tick (u := u) (i := i)
 have hDl : D.length ≤ 60 := by have := due_length tick s.tm; rw [hD] at this; omega
 have hkw : kwake s tick = (D, { s with N := wakeL s.N D, tm := restOf tick s.tm }) := by rw [kwake, hD]
 rw [hD] at hst
 rw [hkw]
 refine enterG (fn := Tryz.f23) 32 [vp k, vi tick] Tryz.func23 (by kernel_rfl) (by kernel_rfl) (by kernel_rfl) ?_
 refine Xq (Xg 1 (Xe [(0,vp k), (1,vi tick), (4,.slice none 0 0)] ?_ 1))
 refine scopeG 0 (fun (q : (Option Addr × Nat) × Nat) => [(0, vp k), (5, .slice q.1.1 D.length q.1.2), (6, vi (q.2 : Int))]) (fun (q : (Option Addr × Nat) × Nat) => (treeS t (wakeL s.N (D.take q.2)) :: row (kE .i64) 3 (.slice q.1.1 D.length q.1.2) D :: tmS m (restOf tick s.tm) :: blk k 74 [vp t, vp m, vp o, vi s.mt, vi s.mg, vi s.nx] :: obsS o s.ob :: H)) (fun k (q : (Option Addr × Nat) × Nat) => k + q.2 = D.length) (by kernel_rfl) (by kernel_rfl) (by kernel_rfl) (by kernel_rfl) ?_ ?_
 ·skip
  rintro k1 ⟨⟨ra, rk⟩, u⟩ hku K hK
  simp only at hku
  by_cases hu : u < D.length
  ·skip
   obtain ⟨x, hx⟩ : ∃ x, D[u]? = some x := ⟨_, List.getElem?_eq_getElem hu⟩
   have hok := hst u x hx
   have htk : wakeL s.N (D.take (u + 1)) = (readyN (wakeL s.N (D.take u)) x true).2 := by rw [List.take_add_one, hx]; exact wakeL_snoc _ _ _
   refine PT.know (KR.isSome (s := ⟨ra, rk, D⟩) (rowKRat 1 rfl) (List.ne_nil_of_length_pos (by show 0 < D.length; omega))) ?_
   rintro ⟨sb, so, hA⟩
   dsimp only at hA
   subst hA
   refine Xq (Xq (Xy0 1 [] 16 ?_))
   refine Xt [0, 1, 2, 3, 4] [(0,vp k), (5,.slice (some ⟨sb, so, none⟩) D.length rk), (6,vi u), (17,.bool (decide ((u : Int) < (D.length : Int))))] [] has0 ?_
   rw [show (decide ((u : Int) < (D.length : Int))) = true by simp; omega]
   refine Xt [5, 6, 7, 8, 9, 10] [(0,vp k), (5,.slice (some ⟨sb, so, none⟩) D.length rk), (6,vi u), (17,.bool true), (21,vp t), (22,.slice (some ⟨sb, so, none⟩) D.length rk), (23,vi u)] [(⟨k, 0, none⟩, vp t)] (hasC (ba 2) has0) ?_
   refine Xu 11 (Xi 50 (.tmp 22) (.tmp 23) sb so D.length rk u 1 3 (u : Int) 24 Tryz.underlying50) ?_
   refine Xt [12] [(0,vp k), (5,.slice (some ⟨sb, so, none⟩) D.length rk), (6,vi u), (17,.bool true), (21,vp t), (25,vi x)] [(⟨sb, so + u * 1, none⟩, vi x)] (hasC (rowCell (E := kE .i64) (xs := D) 0 rfl (x := x) hx (j := 0) rfl) has0) ?_
   refine Xo 13 (Xa (some 26) (fun _ => .nilIface) (trReady_ok _ t (N' := (readyN (wakeL s.N (D.take u)) x true).2) (Prod.ext hok rfl))) (fun _ => ?_)
   refine Xt [14, 15] [(0,vp k), (5,.slice (some ⟨sb, so, none⟩) D.length rk), (6,vi u), (28,.bool true)] [] has0 ?_
   refine Xd (Xc true (fun _ => ?_) (fun h => by cases h))
   refine Xq (Xg 3 (Xe [(0,vp k), (5,.slice (some ⟨sb, so, none⟩) D.length rk), (6,vi (IntKind.i64.wrap ((u : Int) + 1)))] ?_ 3))
   refine gotoR 0 (by kernel_rfl) (by kernel_rfl) ?_
   rw [show IntKind.i64.wrap ((u : Int) + 1) = ((u : Int) + 1) by rw [w64 (by omega) (by omega)]]
   rw [show (readyN (wakeL s.N (D.take u)) x true).2 = (wakeL s.N (D.take (u + 1))) by exact htk.symm]
   have hJ := fun (k2 v : Nat) (h1 : k2 < k1) (h2 : k2 + v = D.length) => hK k2 ((some ⟨sb, so, none⟩, rk), v) h1 h2
   simp only at hJ
   change PT _ _ _ (Exit.jump 0 K (fun _ _ _ => True) (.goto 0))
   refine Xp [(0,vp k), (5,.slice (some ⟨sb, so, none⟩) D.length rk), (6,vi ((u : Int) + 1))] ?_
   exact jumpR (hJ (k1 - 1) (u + 1) (by omega) (by omega))
  ·skip
   refine Xq (Xq (Xy0 1 [] 16 ?_))
   refine Xt [0, 1, 2, 3, 4] [(0,vp k), (5,.slice ra D.length rk), (6,vi u), (17,.bool (decide ((u : Int) < (D.length : Int))))] [] has0 ?_
   rw [show (decide ((u : Int) < (D.length : Int))) = false by simp; omega]
   refine Xt [5, 6, 7, 8, 9, 10, 11, 12, 13, 14, 15] [(0,vp k), (5,.slice ra D.length rk), (6,vi u), (28,.bool false)] [] has0 ?_
   refine Xd (Xc false (fun h => by cases h) (fun _ => ?_))
   refine Xk (Xq (Xg 2 (Xe [(0,vp k), (5,.slice ra D.length rk), (6,vi u), (4,.slice ra D.length rk)] ?_ 2)))
   refine Xv (jumpV ?_)
   have hue : D.take u = D := List.take_of_length_le (by omega)
   refine PT.pick 4 rfl ?_
   refine PT.pick 3 rfl ?_
   refine PT.pick 2 rfl ?_
   refine PT.pick 4 rfl ?_
   refine PT.pick 4 rfl ?_
   refine Y0 (.slice ra D.length rk) (fun w hs => ?_)
   exact ⟨(ra, rk), rfl, by simp only [hue] at hs; exact hs⟩
 ·skip
  intro K hK
  refine Xq (Xg 8 (Xl [(0,vp k), (4,.slice none 0 0), (10,vp m), (11,vi tick)] [(⟨k, 1, none⟩, vp m)] (hasC (ba 0) has0) ?_ 3 5))
  refine Xh0 ?_ 3 3
  refine Xh0 ?_ 2 3
  refine Xh0 ?_ 2 3
  refine Xh0 ?_ 3 3
  refine Xs (Xa (some 12) (fun (r : Option Addr × Nat) => .slice r.1 D.length r.2) ((hD ▸ tmgDue _ m s.tm tick (by omega)))) (fun (r : Option Addr × Nat) => ?_) 2
  refine Xe [(0,vp k), (4,.slice none 0 0), (5,.slice r.1 D.length r.2), (6,vi 0)] ?_ 2
  refine Xq ?_
  refine labelR (by kernel_rfl) ?_
  refine PT.pick 4 rfl ?_
  refine PT.pick 3 rfl ?_
  refine PT.pick 3 rfl ?_
  refine PT.pick 3 rfl ?_
  refine PT.pick 4 rfl ?_
  refine Xp [(0,vp k), (5,.slice r.1 D.length r.2), (6,vi 0)] ?_
  refine codeR (by kernel_rfl) (hK D.length (r, 0) (by simp))
end Go.Proofs.YtlhjibkkkhgonaaGreatDoor
set_option linter.unusedVariables false
set_option linter.unusedSimpArgs false
namespace Go.Proofs.YtlhjibkkkhgonaaGreatDoor
open Go.RowKit G
def thrL (M : List Nr) : List Int := (M.filter (·.thr)).map (·.id)
theorem thrL_take {M : List Nr} {u : Nat} {x : Nr} (h : M[u]? = some x) : thrL (M.take (u + 1)) = if x.thr = true then thrL (M.take u) ++ [x.id] else thrL (M.take u) := by
 unfold thrL
 rw [List.take_add_one, h, List.filter_append, List.map_append]
 cases c : x.thr <;> simp [c]
theorem thrL_len (M : List Nr) (u : Nat) : (thrL (M.take u)).length ≤ u := by
 unfold thrL
 rw [List.length_map]
 exact Nat.le_trans (List.length_filter_le _ _) (by simp; omega)
set_option maxHeartbeats 1000000 in
set_option maxRecDepth 100000 in
theorem kthreads_walk (H : List SP) (k t m o : Nat) (s : KS) (hk : KOk s) (hid : s.nx ≤ 1099511627776) : ∀ w, Sat w (blk k 74 [vp t, vp m, vp o, vi s.mt, vi s.mg, vi s.nx] :: treeS t s.N :: tmS m s.tm :: obsS o s.ob :: H) → Calls Tryz.prog 29 #[vp k] w (Ret (ι := Option Addr × Nat) (fun x => .slice x.1 (kthreads s).length x.2) fun x => row (kE .i64) 3 (.slice x.1 (kthreads s).length x.2) (kthreads s) :: blk k 74 [vp t, vp m, vp o, vi s.mt, vi s.mg, vi s.nx] :: treeS t s.N :: tmS m s.tm :: obsS o s.ob :: H) := by
 have hids : ∀ x ∈ s.N, x.id ≤ 9223372036854775807 := fun x hx => by have := hk.ids x hx; omega
 obtain ⟨M, hM⟩ : ∃ M, nodesN s.N = M := ⟨_, rfl⟩
 have hMl : 1 ≤ M.length ∧ M.length ≤ 60 := by
  rw [← hM, nodesN_len]
  obtain ⟨r, hr, _⟩ := hk.wf.sk.root
  exact ⟨List.length_pos_of_mem hr, hk.wf.sk.len⟩
 rw [show kthreads s = thrL M by rw [kthreads, hM]; rfl]
 refine enterG (fn := Tryz.f29) 25 [vp k] Tryz.func29 (by kernel_rfl) (by kernel_rfl) (by kernel_rfl) ?_
 refine Xq (Xg 1 (Xe [(0,vp k), (2,.slice none 0 0)] ?_ 1))
 refine Xq (Xg 1 (Xe [(0,vp k), (2,.slice none 0 0), (3,.slice none 0 0)] ?_ 1))
 refine Xq (Xq (Xg 7 (Xl [(2,.slice none 0 0), (3,.slice none 0 0), (9,vp t)] [(⟨k, 0, none⟩, vp t)] (hasC (ba 0) has0) ?_ 3 4)))
 refine Xh0 ?_ 0 3
 refine Xh0 ?_ 1 3
 refine Xs (Xa (some 10) (fun (na : Option Addr × Nat) => .slice na.1 M.length na.2) ((hM ▸ trNodes _ t s.N hids))) (fun (na : Option Addr × Nat) => ?_) 2
 refine PT.know (KR.isSome (s := ⟨na.1, na.2, M⟩) (rowKRat 0 rfl) (List.ne_nil_of_length_pos (by show 0 < M.length; omega))) ?_
 rintro ⟨nb, no, hnA⟩
 dsimp only at hnA
 rw [hnA]
 refine Xe [(10,.slice (some ⟨nb, no, none⟩) M.length na.2), (2,.slice none 0 0), (3,.slice none 0 0), (11,vi (M.length : Int)), (12,vi 0)] ?_ 2
 refine Xb 0 ?_
 refine PT.rowNil (kE .i64) 3 ?_
 refine Xp [(2,.slice none 0 0), (3,.slice none 0 0), (10,.slice (some ⟨nb, no, none⟩) M.length na.2), (11,vi (M.length : Int)), (12,vi 0)] ?_
 refine loopG (fun (q : (Option Addr × Nat) × Nat) => [(2, .slice none 0 0), (3, .slice q.1.1 ((thrL (M.take q.2)).length) q.1.2), (10, .slice (some ⟨nb, no, none⟩) M.length na.2), (11, vi (M.length : Int)), (12, vi (q.2 : Int))]) (fun (q : (Option Addr × Nat) × Nat) => (row (kE .i64) 3 (.slice q.1.1 (thrL (M.take q.2)).length q.1.2) (thrL (M.take q.2)) :: row nE 95 (.slice (some ⟨nb, no, none⟩) M.length na.2) M :: treeS t s.N :: blk k 74 [vp t, vp m, vp o, vi s.mt, vi s.mg, vi s.nx] :: tmS m s.tm :: obsS o s.ob :: H)) (fun k (q : (Option Addr × Nat) × Nat) => k + q.2 = M.length) M.length ((none, 0), 0) (by kernel_rfl) (by simp) ?_
 rintro k1 ⟨⟨qa, qc⟩, u⟩ hku
 simp only at hku
 refine Xq (Xg 1 (Xe [(2,.slice none 0 0), (3,.slice qa ((thrL (M.take u)).length) qc), (10,.slice (some ⟨nb, no, none⟩) M.length na.2), (11,vi (M.length : Int)), (12,vi u), (13,.bool (decide ((u : Int) < (M.length : Int))))] ?_ 1))
 refine Xq (Xc (decide ((u : Int) < (M.length : Int))) (fun h2 => ?_) (fun h2 => ?_))
 ·skip
  have hi : u < M.length := by have := of_decide_eq_true h2; omega
  obtain ⟨x, hx⟩ : ∃ x, M[u]? = some x := ⟨_, List.getElem?_eq_getElem hi⟩
  have hst := thrL_take hx
  have hnl := thrL_len M u
  refine Xk (Xq (Xb 1 (Xq (Xg 4 (Xs (yldS (Xi 62 (.tmp 10) (.tmp 12) nb no M.length na.2 u 6 95 (u : Int) 14 Tryz.underlying62)) (fun _ => ?_) 3)))))
  refine Xl [(2,.slice none 0 0), (3,.slice qa ((thrL (M.take u)).length) qc), (10,.slice (some ⟨nb, no, none⟩) M.length na.2), (11,vi (M.length : Int)), (12,vi u), (15,.agg #[vi x.id, vi x.par, vi x.wt, vi x.pass, .bool x.thr, .bool x.rdy])] [(⟨nb, no + u * 6, none⟩, vi x.id), (⟨nb, no + u * 6 + 1, none⟩, vi x.par), (⟨nb, no + u * 6 + 2, none⟩, vi x.wt), (⟨nb, no + u * 6 + 3, none⟩, vi x.pass), (⟨nb, no + u * 6 + 4, none⟩, .bool x.thr), (⟨nb, no + u * 6 + 5, none⟩, .bool x.rdy)] (hasC (rowCell (E := nE) (xs := M) 1 rfl (x := x) hx (j := 0) rfl) (hasC (rowCell (E := nE) (xs := M) 1 rfl (x := x) hx (j := 1) rfl) (hasC (rowCell (E := nE) (xs := M) 1 rfl (x := x) hx (j := 2) rfl) (hasC (rowCell (E := nE) (xs := M) 1 rfl (x := x) hx (j := 3) rfl) (hasC (rowCell (E := nE) (xs := M) 1 rfl (x := x) hx (j := 4) rfl) (hasC (rowCell (E := nE) (xs := M) 1 rfl (x := x) hx (j := 5) rfl) has0)))))) ?_ 2 1
  refine Xs (Xn 95 [vi 0, vi 0, vi 0, vi 0, .bool false, .bool false] (some 5) (fun b => vp b)) (fun b1 => ?_) 1
  refine Xs (Xz [(0,vi x.id), (1,vi x.par), (2,vi x.wt), (3,vi x.pass), (4,.bool x.thr), (5,.bool x.rdy)]) (fun _ => ?_) 0
  refine endR ?_
  refine Xq (Xg 2 (Xm [(5,vp b1), (2,.slice none 0 0), (3,.slice qa ((thrL (M.take u)).length) qc), (10,.slice (some ⟨nb, no, none⟩) M.length na.2), (11,vi (M.length : Int)), (12,vi u), (17,.bool x.thr)] [(⟨b1, 4, none⟩, .bool x.thr)] (hasC (ba 0) has0) ?_ 2))
  cases h3 : (x.thr) with
  | true =>
   rw [if_pos h3] at hst
   refine Xc true (fun _ => ?_) (fun h => by cases h)
   refine Xg 6 (Xl [(2,.slice none 0 0), (3,.slice qa ((thrL (M.take u)).length) qc), (10,.slice (some ⟨nb, no, none⟩) M.length na.2), (11,vi (M.length : Int)), (12,vi u), (18,.slice qa ((thrL (M.take u)).length) qc), (20,vi x.id)] [(⟨b1, 0, none⟩, vi x.id)] (hasC (ba 0) has0) ?_ 3 3)
   refine Xs (Xn 3 [vi x.id] (some 21) (fun b => .slice (some ⟨b, 0, none⟩) 1 1)) (fun b2 => ?_) 2
   refine Xh0 ?_ 2 2
   refine Xs (Xf (E := (kE .i64)) 50 (.tmp 18) (.tmp 21) qa qc (thrL (M.take u)) [x.id] (.slice (some ⟨b2, 0, none⟩) 1 1) 22 Tryz.underlying50 (etyIn) (blkRd (x := x.id) 1 rfl) (by simp only [List.length_cons, List.length_nil]; omega)) (fun r3 => ?_) 1
   refine Xe [(2,.slice none 0 0), (3,.slice r3.1 (((thrL (M.take u)) ++ [x.id]).length) r3.2), (10,.slice (some ⟨nb, no, none⟩) M.length na.2), (11,vi (M.length : Int)), (12,vi u)] ?_ 1
   refine Xg 2 (Xe [(2,.slice none 0 0), (3,.slice r3.1 (((thrL (M.take u)) ++ [x.id]).length) r3.2), (10,.slice (some ⟨nb, no, none⟩) M.length na.2), (11,vi (M.length : Int)), (12,vi (IntKind.i64.wrap ((u : Int) + 1)))] ?_ 2)
   rw [show IntKind.i64.wrap ((u : Int) + 1) = ((u : Int) + 1) by rw [w64 (by omega) (by omega)]]
   refine PT.pick 2 rfl ?_
   refine PT.drop ?_
   refine PT.pick 1 rfl ?_
   refine PT.drop ?_
   rw [show ((thrL (M.take u)) ++ [x.id]) = (thrL (M.take (u + 1))) by exact hst.symm]
   refine Xp [(2,.slice none 0 0), (3,.slice r3.1 ((thrL (M.take (u + 1))).length) r3.2), (10,.slice (some ⟨nb, no, none⟩) M.length na.2), (11,vi (M.length : Int)), (12,vi ((u : Int) + 1))] ?_
   exact againG (k1 - 1) (r3, u + 1) rfl rfl (by omega) (by simp only; omega)
  | false =>
   rw [if_neg (by rw [h3]; simp)] at hst
   refine Xc false (fun h => by cases h) (fun _ => ?_)
   refine Xk (Xg 2 (Xe [(2,.slice none 0 0), (3,.slice qa ((thrL (M.take u)).length) qc), (10,.slice (some ⟨nb, no, none⟩) M.length na.2), (11,vi (M.length : Int)), (12,vi (IntKind.i64.wrap ((u : Int) + 1)))] ?_ 2))
   rw [show IntKind.i64.wrap ((u : Int) + 1) = ((u : Int) + 1) by rw [w64 (by omega) (by omega)]]
   refine PT.drop ?_
   rw [show (thrL (M.take u)) = (thrL (M.take (u + 1))) by exact hst.symm]
   refine Xp [(2,.slice none 0 0), (3,.slice qa ((thrL (M.take (u + 1))).length) qc), (10,.slice (some ⟨nb, no, none⟩) M.length na.2), (11,vi (M.length : Int)), (12,vi ((u : Int) + 1))] ?_
   exact againG (k1 - 1) ((qa, qc), u + 1) rfl rfl (by omega) (by simp only; omega)
 ·skip
  have hi : u = M.length := by have := of_decide_eq_false h2; omega
  have hue : M.take u = M := List.take_of_length_le (by omega)
  refine Xx 0 (thenX (thenX (leaveR (Xq (Xg 2 (Xe [(2,.slice qa ((thrL (M.take u)).length) qc)] ?_ 2))))))
  refine Xv ?_
  rw [show (M.take u) = M by exact hue]
  refine PT.pick 1 rfl ?_
  refine PT.drop ?_
  refine PT.pick 1 rfl ?_
  refine PT.pick 2 rfl ?_
  refine PT.pick 2 rfl ?_
  refine Y0 (.slice qa ((thrL M).length) qc) (fun w hs => ?_)
  exact ⟨(qa, qc), rfl, hs⟩
end Go.Proofs.YtlhjibkkkhgonaaGreatDoor
set_option linter.unusedVariables false
set_option linter.unusedSimpArgs false
namespace Go.Proofs.YtlhjibkkkhgonaaGreatDoor
open Go.RowKit G
section
variable {α : Type} (H : List SP) (k : Nat) (s : KS)
theorem kerOp {s' : KS} {f : FuncId} {vs : Array Value} {R : Value} (h : ∀ t m o, KOk s → ∀ w, Sat w (blk k 74 [vp t, vp m, vp o, vi s.mt, vi s.mg, vi s.nx] :: treeS t s.N :: tmS m s.tm :: obsS o s.ob :: H) → Calls Tryz.prog f vs w (Ret (ι := Unit) (fun _ => R) fun _ => blk k 74 [vp t, vp m, vp o, vi s'.mt, vi s'.mg, vi s'.nx] :: treeS t s'.N :: tmS m s'.tm :: obsS o s'.ob :: H)) (hk : KOk s → KOk s') : ∀ w, Sat w (kerS k s :: H) → Calls Tryz.prog f vs w (Ret (ι := Unit) (fun _ => R) fun _ => kerS k s' :: H) := fun w hs => by
 obtain ⟨t, m, o, h1, hs2⟩ := Sat.openKer hs
 exact (h t m o h1 w hs2).mono fun e w' ⟨_, he, hx⟩ => ⟨(), he, Sat.closeKer (hk h1) hx⟩
theorem krRunnable : ∀ w, Sat w (kerS k s :: H) → Calls Tryz.prog 27 #[vp k] w (Ret (ι := Unit) (fun _ => .bool (krunnable s)) fun _ => kerS k s :: H) :=
 kerOp H k s (fun t m o _ => krunnable_walk H k t m o s) (fun h => h)
theorem krRun : ∀ w, Sat w (kerS k s :: H) → Calls Tryz.prog 25 #[vp k] w (Ret (ι := Unit) (fun _ => .tuple #[vi (krun s).1.1, .bool (krun s).1.2]) fun _ => kerS k (krun s).2 :: H) :=
 kerOp H k s (fun t m o _ => krun_walk H k t m o s) krun_ok
theorem krSleep (id u : Int) : ∀ w, Sat w (kerS k s :: H) → Calls Tryz.prog 14 #[vp k, vi id, vi u] w (Ret (ι := Unit) (fun _ => pqErr (ksleep s id u).1) fun _ => kerS k (ksleep s id u).2 :: H) :=
 kerOp H k s (fun t m o h => ksleep_walk H k t m o s h id u) (fun h => ksleep_ok h id u)
theorem krExit (id : Int) : ∀ w, Sat w (kerS k s :: H) → Calls Tryz.prog 12 #[vp k, vi id] w (Ret (ι := Unit) (fun _ => pqErr (kexit s id).1) fun _ => kerS k (kexit s id).2 :: H) :=
 kerOp H k s (fun t m o h => kexit_walk H k t m o s h id) (fun h => kexit_ok h id)
theorem krWait (id j : Int) : ∀ w, Sat w (kerS k s :: H) → Calls Tryz.prog 16 #[vp k, vi id, vi j] w (Ret (ι := Unit) (fun _ => .tuple #[.bool (kwait s id j).1.1, pqErr (kwait s id j).1.2]) fun _ => kerS k (kwait s id j).2 :: H) :=
 kerOp H k s (fun t m o h => kwait_walk H k t m o s h id j) (fun h => kwait_ok h id j)
theorem krSignal (j : Int) : ∀ w, Sat w (kerS k s :: H) → Calls Tryz.prog 18 #[vp k, vi j] w (Ret (ι := Unit) (fun _ => pqErr (ksignal s j).1) fun _ => kerS k (ksignal s j).2 :: H) :=
 kerOp H k s (fun t m o h => ksignal_walk H k t m o s h j) (fun h => ksignal_ok h j)
theorem krSpawn (hid : s.nx ≤ 1099511627776) (par wt : Int) : ∀ w, Sat w (kerS k s :: H) → Calls Tryz.prog 7 #[vp k, vi par, vi wt] w (Ret (ι := Unit) (fun _ => .tuple #[vi (kspawn s par wt).1.1, pqErr (kspawn s par wt).1.2]) fun _ => kerS k (kspawn s par wt).2 :: H) :=
 kerOp H k s (fun t m o h => kspawn_walk H k t m o s h hid par wt) (fun h => kspawn_ok h par wt)
theorem krGroup (hid : s.nx ≤ 1099511627776) (par wt : Int) : ∀ w, Sat w (kerS k s :: H) → Calls Tryz.prog 10 #[vp k, vi par, vi wt] w (Ret (ι := Unit) (fun _ => .tuple #[vi (kgroup s par wt).1.1, pqErr (kgroup s par wt).1.2]) fun _ => kerS k (kgroup s par wt).2 :: H) :=
 kerOp H k s (fun t m o h => kgroup_walk H k t m o s h hid par wt) (fun h => kgroup_ok h par wt)
theorem krWake (t : Int) : ∀ w, Sat w (kerS k s :: H) → Calls Tryz.prog 23 #[vp k, vi t] w (Ret (ι := Option Addr × Nat) (fun x => .slice x.1 (kwake s t).1.length x.2) fun x => row (kE .i64) 3 (.slice x.1 (kwake s t).1.length x.2) (kwake s t).1 :: kerS k (kwake s t).2 :: H) := fun w hs => by
 obtain ⟨tr, m, o, h1, hs2⟩ := Sat.openKer hs
 exact (kwake_walk H k tr m o s h1 t w hs2).mono fun e w' ⟨x, he, hx⟩ => ⟨x, he, SatF.swap (Sat.closeKer (H := row (kE .i64) 3 (.slice x.1 (kwake s t).1.length x.2) (kwake s t).1 :: H) (kwake_ok h1 t) (Sat.perm (List.perm_middle (a := row (kE .i64) 3 (.slice x.1 (kwake s t).1.length x.2) (kwake s t).1) (l₁ := [_, _, _, _]) (l₂ := H)).symm hx))⟩
theorem kerRow {E : Enc α} {T : TypeId} {L : List α} {f : FuncId} {vs : Array Value} (h : ∀ t m o, KOk s → ∀ w, Sat w (blk k 74 [vp t, vp m, vp o, vi s.mt, vi s.mg, vi s.nx] :: treeS t s.N :: tmS m s.tm :: obsS o s.ob :: H) → Calls Tryz.prog f vs w (Ret (ι := Option Addr × Nat) (fun x => .slice x.1 L.length x.2) fun x => row E T (.slice x.1 L.length x.2) L :: blk k 74 [vp t, vp m, vp o, vi s.mt, vi s.mg, vi s.nx] :: treeS t s.N :: tmS m s.tm :: obsS o s.ob :: H)) : ∀ w, Sat w (kerS k s :: H) → Calls Tryz.prog f vs w (Ret (ι := Option Addr × Nat) (fun x => .slice x.1 L.length x.2) fun x => row E T (.slice x.1 L.length x.2) L :: kerS k s :: H) := fun w hs => by
 obtain ⟨tr, m, o, h1, hs2⟩ := Sat.openKer hs
 exact (h tr m o h1 w hs2).mono fun e w' ⟨x, he, hx⟩ => ⟨x, he, SatF.swap (Sat.closeKer (H := row E T (.slice x.1 L.length x.2) L :: H) h1 (Sat.perm (List.perm_middle (a := row E T (.slice x.1 L.length x.2) L) (l₁ := [_, _, _, _]) (l₂ := H)).symm hx))⟩
theorem krThreads (hid : s.nx ≤ 1099511627776) : ∀ w, Sat w (kerS k s :: H) → Calls Tryz.prog 29 #[vp k] w (Ret (ι := Option Addr × Nat) (fun x => .slice x.1 (kthreads s).length x.2) fun x => row (kE .i64) 3 (.slice x.1 (kthreads s).length x.2) (kthreads s) :: kerS k s :: H) :=
 kerRow H k s fun t m o h => kthreads_walk H k t m o s h hid
theorem krNodes (hid : s.nx ≤ 1099511627776) : ∀ w, Sat w (kerS k s :: H) → Calls Tryz.prog 32 #[vp k] w (Ret (ι := Option Addr × Nat) (fun x => .slice x.1 (nodesN s.N).length x.2) fun x => row nE 95 (.slice x.1 (nodesN s.N).length x.2) (nodesN s.N) :: kerS k s :: H) :=
 kerRow H k s fun t m o h => knodes_walk H k t m o s fun x hx => by have := h.ids x hx; omega
end
end Go.Proofs.YtlhjibkkkhgonaaGreatDoor
set_option linter.unusedVariables false
set_option linter.unusedSimpArgs false
namespace Go.Proofs.YtlhjibkkkhgonaaGreatDoor
open Go.RowKit G
end Go.Proofs.YtlhjibkkkhgonaaGreatDoor
set_option linter.unusedVariables false
set_option linter.unusedSimpArgs false
namespace Go.Proofs.YtlhjibkkkhgonaaGreatDoor
open Go.RowKit G
def kq0 : KS := ⟨kn01, [], ob0, 2, 1, 2⟩
def kq1 : KS := ⟨[⟨0, -1, 1, 0, false, true, 0⟩, ⟨1, 0, 1, 720720, true, true, 0⟩], [], ob0, 2, 1, 2⟩
def kq2 : KS := ⟨[⟨0, -1, 1, 0, false, true, 0⟩, ⟨1, 0, 1, 720720, true, true, 0⟩, ⟨2, 0, 2, 0, true, true, 0⟩], [], ob0, 2, 1, 3⟩
def kq4 : KS := ⟨[⟨0, -1, 1, 0, false, true, 0⟩, ⟨1, 0, 1, 720720, true, true, 0⟩, ⟨2, 0, 2, 0, true, true, 0⟩, ⟨3, 0, 1, 0, false, false, 0⟩], [], ob0, 2, 1, 4⟩
def kq5 : KS := ⟨[⟨0, -1, 1, 0, false, true, 0⟩, ⟨1, 0, 1, 720720, true, false, 0⟩, ⟨2, 0, 2, 0, true, true, 0⟩, ⟨3, 0, 1, 0, false, false, 0⟩], [(1, 9)], ob0, 2, 1, 4⟩
def kq6 : KS := ⟨[⟨0, -1, 1, 0, false, false, 0⟩, ⟨1, 0, 1, 720720, true, false, 0⟩, ⟨2, 0, 2, 0, true, false, 0⟩, ⟨3, 0, 1, 0, false, false, 0⟩], [(1, 9)], [(0, [2]), (0, []), (0, []), (0, [])], 2, 1, 4⟩
def kq8 : KS := ⟨[⟨0, -1, 1, 0, false, true, 0⟩, ⟨1, 0, 1, 720720, true, false, 0⟩, ⟨2, 0, 2, 360360, true, true, 0⟩, ⟨3, 0, 1, 0, false, false, 0⟩], [(1, 9)], ob0, 2, 1, 4⟩
def kq9 : KS := ⟨[⟨0, -1, 1, 0, false, true, 0⟩, ⟨1, 0, 1, 720720, true, true, 0⟩, ⟨2, 0, 2, 360360, true, true, 0⟩, ⟨3, 0, 1, 0, false, false, 0⟩], [], ob0, 2, 1, 4⟩
theorem kq_1 : krun kq0 = ((1, true), kq1) := by rfl
theorem kq_2 : kspawn kq1 0 2 = ((2, 0), kq2) := by rfl
theorem kq_3 : kspawn kq2 0 2 = ((0, 14), kq2) := by rfl
theorem kq_4 : kgroup kq2 0 1 = ((3, 0), kq4) := by rfl
theorem kq_5 : ksleep kq4 1 9 = (0, kq5) := by rfl
theorem kq_6 : kwait kq5 2 0 = ((false, 0), kq6) := by rfl
theorem kq_7 : ksignal kq6 0 = (0, kq5) := by rfl
theorem kq_8 : krun kq5 = ((2, true), kq8) := by rfl
theorem kq_9 : kwake kq8 9 = ([1], kq9) := by rfl
theorem kq_10 : kexit kq9 7 = (13, kq9) := by rfl
theorem kq0_is : k0 (mtOf 2) (mgOf 1) = kq0 := k0_is (by decide)
set_option maxHeartbeats 1000000 in
set_option maxRecDepth 100000 in
theorem known10 (H : List SP) : ∀ w, Sat w H → Calls Tryz.prog 4 #[] w (Ret (ι := Unit) (fun _ => .bool true) fun _ => H) := by
 refine enterG (fn := Tryz.f4) 140 [] Tryz.func4 (by kernel_rfl) (by kernel_rfl) (by kernel_rfl) ?_
 refine Xq (Xg 1 (Xe [(0,.bool false)] ?_ 1))
 refine Xq (Xg 2 (Xs (Xa (some 19) (fun (k : Nat) => vp k) ((kq0_is ▸ knew_walk _ 2 1))) (fun (k : Nat) => ?_) 1))
 refine Xe [(0,.bool false), (1,vp k)] ?_ 1
 refine Xq (Xq (Xg 2 (Xe [(0,.bool false), (1,vp k), (21,.bool false)] ?_ 2)))
 refine Xc false (fun h => by cases h) (fun _ => ?_)
 refine Xk (Xq (Xg 7 (Xr [(0,.bool false), (1,vp k), (23,vp k)] ?_ 6 1)))
 refine Xs (Xa (some 24) (fun _ => .tuple #[vi 1, .bool true]) ((by have h := krRun H k kq0; rw [kq_1] at h; exact h))) (fun _ => ?_) 5
 refine Xe [(0,.bool false), (1,vp k), (2,vi 1), (3,.bool true)] ?_ 5
 refine Xq (Xg 7 (Xr [(0,.bool false), (1,vp k), (2,vi 1), (3,.bool true), (28,vp k)] ?_ 6 1))
 refine Xs (Xa (some 29) (fun _ => .tuple #[vi 2, .nilIface]) ((by have h := krSpawn H k kq1 (by decide) 0 2; rw [kq_2] at h; exact h))) (fun _ => ?_) 5
 refine Xe [(0,.bool false), (1,vp k), (2,vi 1), (3,.bool true), (4,vi 2), (5,.nilIface)] ?_ 5
 refine Xq (Xg 7 (Xr [(0,.bool false), (1,vp k), (2,vi 1), (3,.bool true), (4,vi 2), (5,.nilIface), (33,vp k)] ?_ 6 1))
 refine Xs (Xa (some 34) (fun _ => .tuple #[vi 0, .iface 66 (vi 14)]) ((by have h := krSpawn H k kq2 (by decide) 0 2; rw [kq_3] at h; exact h))) (fun _ => ?_) 5
 refine Xe [(0,.bool false), (1,vp k), (2,vi 1), (3,.bool true), (4,vi 2), (5,.nilIface), (7,.iface 66 (vi 14))] ?_ 5
 refine Xq (Xg 7 (Xr [(0,.bool false), (1,vp k), (2,vi 1), (3,.bool true), (4,vi 2), (5,.nilIface), (7,.iface 66 (vi 14)), (38,vp k)] ?_ 6 1))
 refine Xs (Xa (some 39) (fun _ => .tuple #[vi 3, .nilIface]) ((by have h := krGroup H k kq2 (by decide) 0 1; rw [kq_4] at h; exact h))) (fun _ => ?_) 5
 refine Xe [(0,.bool false), (1,vp k), (2,vi 1), (3,.bool true), (4,vi 2), (5,.nilIface), (7,.iface 66 (vi 14)), (8,vi 3), (9,.nilIface)] ?_ 5
 refine Xq (Xg 3 (Xr [(0,.bool false), (1,vp k), (2,vi 1), (3,.bool true), (4,vi 2), (5,.nilIface), (7,.iface 66 (vi 14)), (8,vi 3), (9,.nilIface), (42,vp k)] ?_ 2 1))
 refine Xs (Xa (some 43) (fun _ => .nilIface) ((by have h := krSleep H k kq4 1 9; rw [kq_5] at h; exact h))) (fun _ => ?_) 1
 refine Xe [(0,.bool false), (1,vp k), (2,vi 1), (3,.bool true), (4,vi 2), (5,.nilIface), (7,.iface 66 (vi 14)), (8,vi 3), (9,.nilIface), (10,.nilIface)] ?_ 1
 refine Xq (Xg 7 (Xr [(0,.bool false), (1,vp k), (2,vi 1), (3,.bool true), (4,vi 2), (5,.nilIface), (7,.iface 66 (vi 14)), (8,vi 3), (9,.nilIface), (10,.nilIface), (45,vp k)] ?_ 6 1))
 refine Xs (Xa (some 46) (fun _ => .tuple #[.bool false, .nilIface]) ((by have h := krWait H k kq5 2 0; rw [kq_6] at h; exact h))) (fun _ => ?_) 5
 refine Xe [(0,.bool false), (1,vp k), (2,vi 1), (3,.bool true), (4,vi 2), (5,.nilIface), (7,.iface 66 (vi 14)), (8,vi 3), (9,.nilIface), (10,.nilIface), (11,.bool false), (12,.nilIface)] ?_ 5
 refine Xq (Xg 3 (Xr [(0,.bool false), (1,vp k), (2,vi 1), (3,.bool true), (4,vi 2), (5,.nilIface), (7,.iface 66 (vi 14)), (8,vi 3), (9,.nilIface), (10,.nilIface), (11,.bool false), (12,.nilIface), (49,vp k)] ?_ 2 1))
 refine Xs (Xa (some 50) (fun _ => .bool false) ((krRunnable H k kq6))) (fun _ => ?_) 1
 refine Xe [(0,.bool false), (1,vp k), (2,vi 1), (3,.bool true), (4,vi 2), (5,.nilIface), (7,.iface 66 (vi 14)), (8,vi 3), (9,.nilIface), (10,.nilIface), (11,.bool false), (12,.nilIface), (13,.bool false)] ?_ 1
 refine Xq (Xg 3 (Xr [(0,.bool false), (1,vp k), (2,vi 1), (3,.bool true), (4,vi 2), (5,.nilIface), (7,.iface 66 (vi 14)), (8,vi 3), (9,.nilIface), (10,.nilIface), (11,.bool false), (12,.nilIface), (13,.bool false), (51,vp k)] ?_ 2 1))
 refine Xs (Xa (some 52) (fun _ => .nilIface) ((by have h := krSignal H k kq6 0; rw [kq_7] at h; exact h))) (fun _ => ?_) 1
 refine Xe [(0,.bool false), (1,vp k), (2,vi 1), (3,.bool true), (4,vi 2), (5,.nilIface), (7,.iface 66 (vi 14)), (8,vi 3), (9,.nilIface), (10,.nilIface), (11,.bool false), (12,.nilIface), (13,.bool false), (14,.nilIface)] ?_ 1
 refine Xq (Xg 7 (Xr [(0,.bool false), (1,vp k), (2,vi 1), (3,.bool true), (4,vi 2), (5,.nilIface), (7,.iface 66 (vi 14)), (8,vi 3), (9,.nilIface), (10,.nilIface), (11,.bool false), (12,.nilIface), (13,.bool false), (14,.nilIface), (54,vp k)] ?_ 6 1))
 refine Xs (Xa (some 55) (fun _ => .tuple #[vi 2, .bool true]) ((by have h := krRun H k kq5; rw [kq_8] at h; exact h))) (fun _ => ?_) 5
 refine Xe [(0,.bool false), (1,vp k), (2,vi 1), (3,.bool true), (4,vi 2), (5,.nilIface), (7,.iface 66 (vi 14)), (8,vi 3), (9,.nilIface), (10,.nilIface), (11,.bool false), (12,.nilIface), (13,.bool false), (14,.nilIface), (15,vi 2)] ?_ 5
 refine Xq (Xg 3 (Xr [(0,.bool false), (1,vp k), (2,vi 1), (3,.bool true), (4,vi 2), (5,.nilIface), (7,.iface 66 (vi 14)), (8,vi 3), (9,.nilIface), (10,.nilIface), (11,.bool false), (12,.nilIface), (13,.bool false), (14,.nilIface), (15,vi 2), (58,vp k)] ?_ 2 1))
 refine Xs (Xa (some 59) (fun (r : Option Addr × Nat) => .slice r.1 1 r.2) ((by have h := krWake H k kq8 9; rw [kq_9] at h; exact h))) (fun (r : Option Addr × Nat) => ?_) 1
 refine Xe [(0,.bool false), (1,vp k), (2,vi 1), (3,.bool true), (4,vi 2), (5,.nilIface), (7,.iface 66 (vi 14)), (8,vi 3), (9,.nilIface), (10,.nilIface), (11,.bool false), (12,.nilIface), (13,.bool false), (14,.nilIface), (15,vi 2), (17,.slice r.1 1 r.2)] ?_ 1
 refine Xq (Xg 3 (Xr [(0,.bool false), (1,vp k), (2,vi 1), (3,.bool true), (4,vi 2), (5,.nilIface), (7,.iface 66 (vi 14)), (8,vi 3), (9,.nilIface), (10,.nilIface), (11,.bool false), (12,.nilIface), (13,.bool false), (14,.nilIface), (15,vi 2), (17,.slice r.1 1 r.2), (60,vp k)] ?_ 2 1))
 refine Xh0 ?_ 0 2
 refine Xh0 ?_ 1 2
 refine Xs (Xa (some 61) (fun _ => .iface 66 (vi 13)) ((by have h := krExit (row (kE .i64) 3 (.slice r.1 1 r.2) [1] :: H) k kq9 7; rw [kq_10] at h; exact h))) (fun _ => ?_) 1
 refine PT.know (KR.isSome (s := ⟨r.1, r.2, [1]⟩) (rowKRat 1 rfl) (by simp)) ?_
 rintro ⟨sb, so, hA⟩
 dsimp only at hA
 rw [hA]
 refine Xe [(0,.bool false), (1,vp k), (2,vi 1), (3,.bool true), (4,vi 2), (5,.nilIface), (7,.iface 66 (vi 14)), (8,vi 3), (9,.nilIface), (10,.nilIface), (11,.bool false), (12,.nilIface), (13,.bool false), (14,.nilIface), (15,vi 2), (17,.slice (some ⟨sb, so, none⟩) 1 r.2), (18,.iface 66 (vi 13))] ?_ 1
 refine Xq (Xg 79 (Xr [(0,.bool false), (1,vp k), (8,vi 3), (9,.nilIface), (10,.nilIface), (11,.bool false), (12,.nilIface), (13,.bool false), (14,.nilIface), (15,vi 2), (17,.slice (some ⟨sb, so, none⟩) 1 r.2), (18,.iface 66 (vi 13)), (75,.bool true), (76,.iface 66 (vi 14)), (77,.iface 66 (vi 14))] ?_ 63 16))
 refine Xs (Xa (some 78) (fun _ => .bool (14 == 14)) (isErr_walk _ 14 14)) (fun _ => ?_) 62
 refine Xr [(0,.bool false), (1,vp k), (18,.iface 66 (vi 13)), (117,.bool true), (118,.slice (some ⟨sb, so, none⟩) 1 r.2)] ?_ 22 40
 refine Xs (yldS (Xi 50 (.tmp 118) (.const (.int .i64 0)) sb so 1 r.2 0 1 3 0 119 Tryz.underlying50)) (fun _ => ?_) 21
 refine Xl [(0,.bool false), (1,vp k), (123,.bool true), (124,.iface 66 (vi 13)), (125,.iface 66 (vi 13))] [(⟨sb, so + 0 * 1, none⟩, vi 1)] (hasC (rowCell (E := kE .i64) (xs := [1]) 1 rfl (J := 0) (x := (1 : Int)) rfl (j := 0) rfl) has0) ?_ 15 6
 refine Xs (Xa (some 126) (fun _ => .bool (13 == 13)) (isErr_walk _ 13 13)) (fun _ => ?_) 14
 refine Xr [(0,.bool false), (1,vp k), (128,.bool true), (129,vp k)] ?_ 11 3
 refine Xs (Xa (some 130) (fun (p : Option Addr × Nat) => .slice p.1 2 p.2) ((by have h := krThreads (row (kE .i64) 3 (.slice (some ⟨sb, so, none⟩) 1 r.2) [1] :: H) k kq9 (by decide); rw [show kthreads kq9 = [1, 2] by rw [kthreads, nodesN, sortI, List.mergeSort_of_pairwise (by decide)]; rfl] at h; exact h))) (fun (p : Option Addr × Nat) => ?_) 10
 refine Xr [(0,.bool false), (134,.bool true), (135,vp k)] ?_ 5 5
 refine Xh0 ?_ 2 5
 refine Xh0 ?_ 1 5
 refine Xh0 ?_ 2 5
 refine Xs (Xa (some 136) (fun (q : Option Addr × Nat) => .slice q.1 4 q.2) ((by have h := krNodes (row (kE .i64) 3 (.slice p.1 2 p.2) [1, 2] :: row (kE .i64) 3 (.slice (some ⟨sb, so, none⟩) 1 r.2) [1] :: H) k kq9 (by decide); rw [show (nodesN kq9.N).length = 4 by rw [nodesN_len]; rfl] at h; exact h))) (fun (q : Option Addr × Nat) => ?_) 4
 refine Xe [(0,.bool true)] ?_ 4
 refine Xv (Y0 (.bool true) (fun w hs => ?_))
 exact ⟨(), rfl, hs.tail.tail.tail.tail⟩
end Go.Proofs.YtlhjibkkkhgonaaGreatDoor
set_option linter.unusedVariables false
set_option linter.unusedSimpArgs false
namespace Go.Proofs.YtlhjibkkkhgonaaGreatDoor
open Go.RowKit G
end Go.Proofs.YtlhjibkkkhgonaaGreatDoor
set_option linter.unusedVariables false
set_option linter.unusedSimpArgs false
namespace Go.Proofs.YtlhjibkkkhgonaaGreatDoor
open Go.RowKit G
/-! ## nodes -/
theorem gt_skel {g : Nr → Nr} (hg : Skel g) (N : List Nr) (i : Int) : gt (N.map g) i = (gt N i).map g := by
  unfold gt
  rw [List.find?_map]
  have : ((fun x : Nr => x.id == i) ∘ g) = fun x => x.id == i := funext fun x => by simp [Function.comp, hg.id]
  rw [this]
theorem isT_skel {g : Nr → Nr} (hg : Skel g) (N : List Nr) (i : Int) : isT (N.map g) i = isT N i := by
  unfold isT
  rw [gt_skel hg]
  cases gt N i with
  | none => rfl
  | some x => simp [hg.thr]
theorem isR_isT {N : List Nr} {i : Int} (h : isR N i = true) : isT N i = true := by
  obtain ⟨x, h1, h2, _⟩ := isR_iff.1 h
  exact isT_iff.2 ⟨x, h1, h2⟩
theorem off_iff {N : List Nr} (hs : SK N) {i : Int} : Off N i ↔ isT N i = true ∧ isR N i = false := by
  constructor
  · intro h
    obtain ⟨x, h1, h2, h3⟩ := h.get hs
    exact ⟨isT_iff.2 ⟨x, h1, h2⟩, by simp [isR, h1, h3]⟩
  · rintro ⟨h1, h2⟩
    obtain ⟨x, h3, h4⟩ := isT_iff.1 h1
    obtain ⟨h5, h6⟩ := gt_mem h3
    exact ⟨x, h5, h6, h4, by simpa [isR, h3, h4] using h2⟩
theorem ready_see {N : List Nr} (hs : SK N) {k : Int} (ht : isT N k = true) (r : Bool) : (readyN N k r).1 = 0 ∧ (∀ i, isR (readyN N k r).2 i = if i = k then r else isR N i) ∧ (∀ i, isT (readyN N k r).2 i = isT N i) ∧ ∀ b, kcnt (readyN N k r).2 b = kcnt N b := by
  obtain ⟨x, hx, hxt⟩ := isT_iff.1 ht
  obtain ⟨g, e, hg, h1, h2⟩ := ready_thr hs hx hxt r
  rw [e]
  refine ⟨rfl, fun i => ?_, fun i => isT_skel hg N i, fun b => kcnt_skel hg N b⟩
  show isR (N.map g) i = _
  unfold isR
  rw [gt_skel hg]
  by_cases c : i = k
  · subst c
    rw [if_pos rfl, hx]
    simp [hg.thr, hxt, h2 x (gt_mem hx).1 (gt_mem hx).2]
  · rw [if_neg c]
    cases hi : gt N i with
    | none => rfl
    | some z =>
      obtain ⟨h3, h4⟩ := gt_mem hi
      cases hz : z.thr with
      | false => simp [hg.thr, hz]
      | true => simp [h1 z h3 hz (by rw [h4]; exact c)]
theorem gt_put {N : List Nr} {n : Nr} (hno : gt N n.id = none) (i : Int) : gt (N ++ [n]) i = if i = n.id then some n else gt N i := by
  unfold gt
  rw [List.find?_append]
  by_cases c : i = n.id
  · subst c
    rw [if_pos rfl]
    have : List.find? (fun x : Nr => x.id == n.id) N = none := hno
    rw [this]; simp
  · rw [if_neg c]
    have : List.find? (fun x : Nr => x.id == i) [n] = none := by simp; exact fun e => c e.symm
    rw [this]
    cases List.find? (fun x : Nr => x.id == i) N <;> rfl
theorem KOk.free {s : KS} (h : KOk s) : gt s.N s.nx = none := gt_none.2 fun x hx e => by have := h.ids x hx; omega
theorem KOk.len {s : KS} (h : KOk s) : s.N.length ≤ 13 := by
  have h1 := kcnt_len s.N h.wf.sk
  have h2 := h.ct
  have h3 := h.mt
  have h4 := h.mg
  omega
theorem KOk.root {s : KS} (h : KOk s) : ∃ p, gt s.N 0 = some p ∧ p.thr = false := by
  obtain ⟨p, hp, h0⟩ := h.wf.sk.root
  exact ⟨p, h0 ▸ gt_of h.wf.sk.nd hp, (h.wf.sk.rt p hp h0).2⟩
/-! ## Spawn, Group -/
/-- One more thread (or group, not ready) than there was; nothing else. -/
structure Spw (s s' : KS) (thr : Bool) : Prop where
  nx : s'.nx = s.nx + 1
  tm : s'.tm = s.tm
  ob : s'.ob = s.ob
  mt : s'.mt = s.mt
  mg : s'.mg = s.mg
  ct : ∀ b, kcnt s'.N b = kcnt s.N b + if thr = b then 1 else 0
  R : ∀ i, isR s'.N i = (decide (i = s.nx ∧ thr = true) || isR s.N i)
  T : ∀ i, isT s'.N i = (decide (i = s.nx ∧ thr = true) || isT s.N i)
theorem kadds_at {s : KS} (h : KOk s) {par wt most : Int} {thr : Bool} {p : Nr} (hw : isW wt = true) (hp : gt s.N par = some p) (hpt : p.thr = false) (hd : thr = true ∨ deepN 6 s.N par < 4) (hc : kcnt s.N thr < most) :
    kadds s par wt most thr = ((s.nx, 0), { s with N := s.N ++ [⟨s.nx, par, wt, p.now, thr, false, 0⟩], nx := s.nx + 1 }) := by
  have h1 := addN_is (N := s.N) (par := par) (id := s.nx) (wt := wt) (thr := thr) (p := p) hw h.nx hp hpt h.free hd (by have := h.len; omega)
  rw [kadds, if_neg (by rw [hw]; simp), if_neg (by rw [hp]; simp [hpt]), if_neg (by omega), if_neg (by rw [h1]; simp), h1]
theorem kadds_full {s : KS} {par wt most : Int} {thr : Bool} {p : Nr} (hw : isW wt = true) (hp : gt s.N par = some p) (hpt : p.thr = false) (hc : most ≤ kcnt s.N thr) : kadds s par wt most thr = ((0, 14), s) := by
  rw [kadds, if_neg (by rw [hw]; simp), if_neg (by rw [hp]; simp [hpt]), if_pos (by omega)]
theorem put_see {N : List Nr} {n : Nr} (hno : gt N n.id = none) (hr : n.rdy = false) (hn : n.id ≠ 0) : (∀ i, isR (N ++ [n]) i = isR N i) ∧ (∀ i, isT (N ++ [n]) i = (decide (i = n.id ∧ n.thr = true) || isT N i)) := by
  refine ⟨fun i => ?_, fun i => ?_⟩
  · unfold isR
    rw [gt_put hno]
    by_cases c : i = n.id
    · rw [if_pos c, c, hno]; simp [hr]
    · rw [if_neg c]
  · unfold isT
    rw [gt_put hno]
    by_cases c : i = n.id
    · rw [if_pos c, c, hno]; simp
    · rw [if_neg c]; simp [c]
theorem kspawn_at {s : KS} (h : KOk s) {par wt : Int} {p : Nr} (hw : isW wt = true) (hp : gt s.N par = some p) (hpt : p.thr = false) (hc : kcnt s.N true < s.mt) : (kspawn s par wt).1 = (s.nx, 0) ∧ KOk (kspawn s par wt).2 ∧ Spw s (kspawn s par wt).2 true := by
  have h1 := kadds_at (most := s.mt) (thr := true) h hw hp hpt (.inl rfl) hc
  have hok := (kadds_ok h par wt s.mt true rfl).1
  obtain ⟨p1, p2⟩ := put_see (N := s.N) (n := ⟨s.nx, par, wt, p.now, true, false, 0⟩) h.free rfl (by show s.nx ≠ 0; have := h.nx; omega)
  have p3 := kcnt_add s.N ⟨s.nx, par, wt, p.now, true, false, 0⟩ (by show s.nx ≠ 0; have := h.nx; omega)
  rw [h1] at hok
  simp only at hok
  have hT : isT (s.N ++ [⟨s.nx, par, wt, p.now, true, false, 0⟩]) s.nx = true := by rw [p2]; simp
  obtain ⟨q1, q2, q3, q4⟩ := ready_see hok.wf.sk hT true
  have e : kspawn s par wt = ((s.nx, 0), { s with N := (readyN (s.N ++ [⟨s.nx, par, wt, p.now, true, false, 0⟩]) s.nx true).2, nx := s.nx + 1 }) := by
    unfold kspawn
    rw [h1]
    simp only [ne_eq, not_true_eq_false, if_false]
    rw [q1]
  refine ⟨by rw [e], kspawn_ok h par wt, ?_⟩
  rw [e]
  refine ⟨rfl, rfl, rfl, rfl, rfl, fun b => by show kcnt (readyN _ _ _).2 b = _; rw [q4, p3], fun i => ?_, fun i => ?_⟩
  · show isR (readyN _ _ _).2 i = _
    rw [q2, p1]
    by_cases c : i = s.nx <;> simp [c]
  · show isT (readyN _ _ _).2 i = _
    rw [q3, p2]
theorem kspawn_full {s : KS} {par wt : Int} {p : Nr} (hw : isW wt = true) (hp : gt s.N par = some p) (hpt : p.thr = false) (hc : s.mt ≤ kcnt s.N true) : kspawn s par wt = ((0, 14), s) := by
  have h1 := kadds_full (s := s) (par := par) (most := s.mt) (thr := true) hw hp hpt hc
  unfold kspawn
  rw [h1]
  simp
theorem kgroup_full {s : KS} {par wt : Int} {p : Nr} (hw : isW wt = true) (hp : gt s.N par = some p) (hpt : p.thr = false) (hc : s.mg ≤ kcnt s.N false) : kgroup s par wt = ((0, 14), s) := kadds_full hw hp hpt hc
/-! ## Exit -/
theorem split_of {N : List Nr} (hn : (N.map (·.id)).Nodup) {k : Int} {x : Nr} (hx : gt N k = some x) : ∃ A B, N = A ++ x :: B ∧ (∀ z ∈ A, z.id ≠ k) ∧ ∀ z ∈ B, z.id ≠ k := by
  obtain ⟨h1, h2⟩ := gt_mem hx
  obtain ⟨A, B, rfl⟩ := List.append_of_mem h1
  rw [List.map_append, List.map_cons, List.nodup_append] at hn
  obtain ⟨_, n2, n3⟩ := hn
  rw [List.nodup_cons] at n2
  refine ⟨A, B, rfl, fun z hz e => n3 z.id (List.mem_map.2 ⟨z, hz, rfl⟩) x.id (by simp) (by rw [e, h2]), fun z hz e => n2.1 (by rw [h2, ← e]; exact List.mem_map.2 ⟨z, hz, rfl⟩)⟩
theorem gt_filter (L : List Nr) (k i : Int) : gt (L.filter fun x => !(x.id == k)) i = if i = k then none else gt L i := by
  induction L with
  | nil => simp [gt]
  | cons a L ih =>
    by_cases c : a.id = k
    · rw [List.filter_cons_of_neg (by simp [c]), ih]
      by_cases d : i = k
      · simp [d]
      · rw [if_neg d, if_neg d]
        unfold gt
        rw [List.find?_cons_of_neg (by simp; omega)]
    · rw [List.filter_cons_of_pos (by simp [c])]
      unfold gt at ih ⊢
      by_cases e : a.id = i
      · rw [List.find?_cons_of_pos (by simp [e]), List.find?_cons_of_pos (by simp [e]), if_neg (by omega)]
      · rw [List.find?_cons_of_neg (by simp [e]), List.find?_cons_of_neg (by simp [e]), ih]
theorem kexit_see {s : KS} (h : KOk s) {k : Int} (ht : isT s.N k = true) : ∃ N', kexit s k = (0, { s with N := N', tm := tmDrop k s.tm, ob := obCut s.ob k }) ∧ (∀ i, isR N' i = if i = k then false else isR s.N i) ∧ (∀ i, isT N' i = if i = k then false else isT s.N i) ∧ kcnt N' true = kcnt s.N true - 1 := by
  obtain ⟨x, hx, hxt⟩ := isT_iff.1 ht
  obtain ⟨hxN, hxk⟩ := gt_mem hx
  have hs := h.wf.sk
  have hk0 : k ≠ 0 := fun e => by have := (hs.rt x hxN (by omega)).2; rw [hxt] at this; cases this
  obtain ⟨g, g1, g2, g3⟩ := rest_same 6 s.N k hs
  have hany : s.N.any (fun z => z.par == k) = false := by
    rw [List.any_eq_false]
    intro z hz
    have := thr_leaf hs hxN hxt z hz
    rw [hxk] at this
    simpa using this
  have hrm : removeN s.N k = (0, (s.N.map g).filter fun x => !(x.id == k)) := by
    rw [removeN, if_neg (by rw [hx]; simp [hk0]), if_neg (by rw [hany]; simp), g3]
  refine ⟨(s.N.map g).filter fun x => !(x.id == k), by rw [kexit, if_neg (by rw [ht]; simp), hrm], fun i => ?_, fun i => ?_, ?_⟩
  · unfold isR
    rw [gt_filter]
    by_cases c : i = k
    · simp [c]
    · rw [if_neg c, if_neg c, gt_skel g1]
      cases hi : gt s.N i with
      | none => rfl
      | some z =>
        obtain ⟨h3, h4⟩ := gt_mem hi
        cases hz : z.thr with
        | false => simp [g1.thr, hz]
        | true => simp [g2 z h3 hz (by rw [h4]; exact c)]
  · unfold isT
    rw [gt_filter]
    by_cases c : i = k
    · simp [c]
    · rw [if_neg c, if_neg c, gt_skel g1]
      cases gt s.N i with
      | none => rfl
      | some z => simp [g1.thr]
  · obtain ⟨A, B, e, hA, hB⟩ := split_of hs.nd hx
    have e1 : ((s.N.map g).filter fun x => !(x.id == k)) = (A ++ B).map g := by
      rw [e, List.map_append, List.filter_append, List.map_cons, List.filter_cons_of_neg (by simp [g1.id, hxk]), List.filter_eq_self.2 (fun z hz => by obtain ⟨v, hv, rfl⟩ := List.mem_map.1 hz; simpa [g1.id] using hA v hv), List.filter_eq_self.2 (fun z hz => by obtain ⟨v, hv, rfl⟩ := List.mem_map.1 hz; simpa [g1.id] using hB v hv), List.map_append]
    rw [e1, kcnt_skel g1, e]
    unfold kcnt
    rw [List.filter_append, List.filter_append, List.filter_cons_of_pos (by simp [hxt, hxk, hk0])]
    simp only [List.length_append, List.length_cons]
    omega
/-! ## Sleep, Wait, Signal, Wake, Run -/
theorem ksleep_off {s : KS} {k : Int} (hr : isR s.N k = false) (u : Int) : ksleep s k u = (13, s) := by rw [ksleep, if_pos hr]
theorem kwait_off {s : KS} {k : Int} (hr : isR s.N k = false) (j : Int) : kwait s k j = ((false, 13), s) := by rw [kwait, if_pos hr]
/-! ## who runs -/
theorem len_kthreads {s : KS} (h : KOk s) : ((kthreads s).length : Int) = kcnt s.N true := by
  rw [← kcnt_nodes h.wf.sk.nd, kthreads, List.length_map]
  congr 2
  refine List.filter_congr fun x hx => ?_
  have hxN := (nodesN_perm h.wf.sk.nd).mem_iff.1 hx
  by_cases c : x.id = 0
  · have := (h.wf.sk.rt x hxN c).2
    simp [cntP, c, this]
  · simp [cntP, c]
/-! ## a new kernel -/
end Go.Proofs.YtlhjibkkkhgonaaGreatDoor
set_option linter.unusedVariables false
set_option linter.unusedSimpArgs false
namespace Go.Proofs.YtlhjibkkkhgonaaGreatDoor
open Go.RowKit G
theorem infoRs : (Tryz.prog.info? 141).map (fun i => (i.zero, i.size, i.bytes)) = some (some (.agg #[.int .i64 0, .int .i64 0]), 2, 16) := by kernel_rfl
theorem etyRs : Ety Tryz.prog tmE 141 (.agg #[.int .i64 0, .int .i64 0]) := by
 obtain ⟨i, hi, hz, hs, hb⟩ := info_parts infoRs
 exact ⟨⟨i, hi, hz, hs, by omega⟩, rfl⟩
theorem kI_ety8 : Ety Tryz.prog (kE .i64) 3 (.int .i64 0) := Ety.of (b := 8) (by kernel_rfl) (by decide) (by kernel_rfl)
theorem tmDrop_filter (id : Int) : ∀ (l : List (Int × Int)), Srt l → tmDrop id l = l.filter fun p => !(p.1 == id)
 | [], _ => rfl
 | y :: r, h => by
  have h1 := List.pairwise_cons.1 h
  have ih := tmDrop_filter id r h1.2
  unfold tmDrop
  by_cases hlt : id < y.1
  ·rw [if_pos hlt, List.filter_eq_self.2]
   intro p hp
   rcases List.mem_cons.1 hp with rfl | hp
   ·simp; omega
   ·have := h1.1 p hp; simp; omega
  ·rw [if_neg hlt]
   by_cases he : y.1 = id
   ·rw [if_pos he, List.filter_cons_of_neg (by simp [he]), List.filter_eq_self.2]
    intro p hp
    have := h1.1 p hp; simp; omega
   ·rw [if_neg he, List.filter_cons_of_pos (by simp [he]), ih]
theorem flt_take {α : Type} {l : List α} {u : Nat} {x : α} (h : l[u]? = some x) (p : α → Bool) : (l.take (u + 1)).filter p = (l.take u).filter p ++ if p x = true then [x] else [] := by
 rw [List.take_add_one, h, List.filter_append]
 cases c : p x <;> simp [c]
def nId (id : Int) (p : Int × Int) : Bool := !(p.1 == id)
set_option maxHeartbeats 1000000 in
set_option maxRecDepth 100000 in
theorem rtdrop_walk (H : List SP) (k t c : Nat) (a : Option Addr) (l : List (Int × Int)) (z0 z1 z2 z3 : Oz) (mt mg la : Int) (id : Int) (hl : l.length ≤ 1000) : ∀ w, Sat w (blk k 55 [vp t, .slice a l.length c, vi z0.c, vi z1.c, vi z2.c, vi z3.c, .slice z0.a z0.l.length z0.k, .slice z1.a z1.l.length z1.k, .slice z2.a z2.l.length z2.k, .slice z3.a z3.l.length z3.k, vi mt, vi mg, vi la] :: row tmE 141 (.slice a l.length c) l :: H) → Calls Tryz.prog 53 #[vq k 1, vi id] w (Ret (ι := Option Addr × Nat) (fun _ => .bool (decide (((l.filter (nId id)).length : Int) < l.length))) fun q => blk k 55 [vp t, .slice q.1 (l.filter (nId id)).length q.2, vi z0.c, vi z1.c, vi z2.c, vi z3.c, .slice z0.a z0.l.length z0.k, .slice z1.a z1.l.length z1.k, .slice z2.a z2.l.length z2.k, .slice z3.a z3.l.length z3.k, vi mt, vi mg, vi la] :: row tmE 141 (.slice q.1 (l.filter (nId id)).length q.2) (l.filter (nId id)) :: H) := by
 refine enterG (fn := Tryz.f53) 50 [vq k 1, vi id] Tryz.func53 (by kernel_rfl) (by kernel_rfl) (by kernel_rfl) ?_
 refine Xq (Xg 1 (Xe [(0,vq k 1), (1,vi id), (4,.bool false)] ?_ 1))
 refine Xq (Xg 1 (Xe [(0,vq k 1), (1,vi id), (4,.bool false), (5,.slice none 0 0)] ?_ 1))
 refine Xq (Xq (Xg 1 (Xe [(0,vq k 1), (1,vi id), (4,.bool false), (5,.slice none 0 0), (6,vi 0)] ?_ 1)))
 refine Xb 0 ?_
 refine PT.rowNil tmE 141 ?_
 refine Xp [(0,vq k 1), (1,vi id), (4,.bool false), (5,.slice none 0 0), (6,vi 0)] ?_
 refine loopG (fun (s : (Option Addr × Nat) × Nat) => [(0, vq k 1), (1, vi id), (4, .bool false), (5, .slice s.1.1 (((l.take s.2).filter (nId id)).length) s.1.2), (6, vi (s.2 : Int))]) (fun (s : (Option Addr × Nat) × Nat) => (row tmE 141 (.slice s.1.1 ((l.take s.2).filter (nId id)).length s.1.2) ((l.take s.2).filter (nId id)) :: blk k 55 [vp t, .slice a l.length c, vi z0.c, vi z1.c, vi z2.c, vi z3.c, .slice z0.a z0.l.length z0.k, .slice z1.a z1.l.length z1.k, .slice z2.a z2.l.length z2.k, .slice z3.a z3.l.length z3.k, vi mt, vi mg, vi la] :: row tmE 141 (.slice a l.length c) l :: H)) (fun k (s : (Option Addr × Nat) × Nat) => k + s.2 = l.length) l.length ((none, 0), 0) (by kernel_rfl) (by simp only; omega) ?_
 rintro j ⟨⟨qa, qc⟩, u⟩ hku
 simp only at hku
 refine Xq (Xq (Xg 7 (Xm [(0,vq k 1), (1,vi id), (4,.bool false), (5,.slice qa (((l.take u).filter (nId id)).length) qc), (6,vi u), (14,.bool (decide ((u : Int) < (l.length : Int))))] [(⟨k, 1, none⟩, .slice a l.length c)] (hasC (ba 1) has0) ?_ 7)))
 refine Xc (decide ((u : Int) < (l.length : Int))) (fun h1 => ?_) (fun h1 => ?_)
 ·skip
  have hu : u < l.length := by have := of_decide_eq_true h1; omega
  obtain ⟨x, hx⟩ : ∃ x, l[u]? = some x := ⟨_, List.getElem?_eq_getElem hu⟩
  refine PT.know (KR.isSome (s := ⟨a, c, l⟩) (rowKRat 2 rfl) (List.ne_nil_of_length_pos (by show 0 < l.length; omega))) ?_
  rintro ⟨sb, so, hA⟩
  dsimp only at hA
  rw [hA]
  have hf := flt_take hx (nId id)
  refine Xk (Xq (Xb 1 (Xq (Xg 10 (Xl [(0,vq k 1), (1,vi id), (4,.bool false), (5,.slice qa (((l.take u).filter (nId id)).length) qc), (6,vi u), (20,.slice (some ⟨sb, so, none⟩) l.length c), (21,vi u)] [(⟨k, 1, none⟩, .slice (some ⟨sb, so, none⟩) l.length c)] (hasC (ba 1) has0) ?_ 5 5)))))
  refine Xs (yldS (Xi 46 (.tmp 20) (.tmp 21) sb so l.length c u 2 141 (u : Int) 22 Tryz.underlying46)) (fun _ => ?_) 4
  refine Xm [(0,vq k 1), (1,vi id), (4,.bool false), (5,.slice qa (((l.take u).filter (nId id)).length) qc), (6,vi u), (26,.bool (x.1 != id))] [(⟨sb, so + u * 2, none⟩, vi x.1)] (hasC (rowCell (E := tmE) (xs := l) 2 rfl (x := x) hx (j := 0) rfl) has0) ?_ 4
  by_cases h2 : x.1 = id
  ·skip
   rw [show nId id x = false by simp [nId, h2]] at hf
   simp only [Bool.false_eq_true, if_false, List.append_nil] at hf
   rw [show (x.1 != id) = false from by simp [h2]]
   refine Xc false (fun h => by cases h) (fun _ => ?_)
   refine Xk (Xg 3 (Xe [(0,vq k 1), (1,vi id), (4,.bool false), (5,.slice qa (((l.take u).filter (nId id)).length) qc), (6,vi (IntKind.i64.wrap ((u : Int) + 1)))] ?_ 3))
   rw [show IntKind.i64.wrap ((u : Int) + 1) = ((u : Int) + 1) by rw [w64 (by omega) (by omega)]]
   rw [← hf, ← hA]
   refine Xp [(0,vq k 1), (1,vi id), (4,.bool false), (5,.slice qa (((l.take (u + 1)).filter (nId id)).length) qc), (6,vi ((u : Int) + 1))] ?_
   exact againG (j - 1) ((qa, qc), u + 1) rfl rfl (by omega) (by simp only; omega)
  ·skip
   rw [show nId id x = true by simp [nId, h2]] at hf
   simp only [if_true] at hf
   rw [show (x.1 != id) = true from by simp [h2]]
   refine Xc true (fun _ => ?_) (fun h => by cases h)
   refine Xg 11 (Xl [(0,vq k 1), (1,vi id), (4,.bool false), (5,.slice qa (((l.take u).filter (nId id)).length) qc), (6,vi u), (27,.slice qa (((l.take u).filter (nId id)).length) qc), (31,.slice (some ⟨sb, so, none⟩) l.length c), (32,vi u)] [(⟨k, 1, none⟩, .slice (some ⟨sb, so, none⟩) l.length c)] (hasC (ba 1) has0) ?_ 5 6)
   refine Xs (yldS (Xi 46 (.tmp 31) (.tmp 32) sb so l.length c u 2 141 (u : Int) 33 Tryz.underlying46)) (fun _ => ?_) 4
   refine Xl [(0,vq k 1), (1,vi id), (4,.bool false), (5,.slice qa (((l.take u).filter (nId id)).length) qc), (6,vi u), (27,.slice qa (((l.take u).filter (nId id)).length) qc), (34,.agg #[vi x.1, vi x.2])] [(⟨sb, so + u * 2, none⟩, vi x.1), (⟨sb, so + u * 2 + 1, none⟩, vi x.2)] (hasC (rowCell (E := tmE) (xs := l) 2 rfl (x := x) hx (j := 0) rfl) (hasC (rowCell (E := tmE) (xs := l) 2 rfl (x := x) hx (j := 1) rfl) has0)) ?_ 3 1
   refine Xs (Xn 141 [vi x.1, vi x.2] (some 35) (fun b => .slice (some ⟨b, 0, none⟩) 1 1)) (fun b1 => ?_) 2
   refine Xh0 ?_ 1 2
   refine Xs (Xf (E := tmE) 46 (.tmp 27) (.tmp 35) qa qc ((l.take u).filter (nId id)) [x] (.slice (some ⟨b1, 0, none⟩) 1 1) 36 Tryz.underlying46 (etyRs) (blkRd (x := x) 1 rfl) (by simp only [List.length_cons, List.length_nil]; have := List.length_filter_le (nId id) (l.take u); simp only [List.length_take] at this; omega)) (fun r2 => ?_) 1
   refine Xe [(0,vq k 1), (1,vi id), (4,.bool false), (5,.slice r2.1 ((((l.take u).filter (nId id)) ++ [x]).length) r2.2), (6,vi u)] ?_ 1
   refine Xg 3 (Xe [(0,vq k 1), (1,vi id), (4,.bool false), (5,.slice r2.1 ((((l.take u).filter (nId id)) ++ [x]).length) r2.2), (6,vi (IntKind.i64.wrap ((u : Int) + 1)))] ?_ 3)
   rw [show IntKind.i64.wrap ((u : Int) + 1) = ((u : Int) + 1) by rw [w64 (by omega) (by omega)]]
   refine PT.pick 1 rfl ?_
   refine PT.drop ?_
   rw [← hf, ← hA]
   refine Xp [(0,vq k 1), (1,vi id), (4,.bool false), (5,.slice r2.1 (((l.take (u + 1)).filter (nId id)).length) r2.2), (6,vi ((u : Int) + 1))] ?_
   exact againG (j - 1) (r2, u + 1) rfl rfl (by omega) (by simp only; omega)
 ·skip
  have hu : u = l.length := by have := of_decide_eq_false h1; omega
  have htk : l.take u = l := List.take_of_length_le (by omega)
  rw [htk]
  refine Xx 0 (thenX (thenX (leaveR (Xq (Xg 6 (Xm [(0,vq k 1), (4,.bool false), (5,.slice qa ((l.filter (nId id)).length) qc), (7,vi (l.length : Int))] [(⟨k, 1, none⟩, .slice a l.length c)] (hasC (ba 1) has0) ?_ 6))))))
  refine Xq (Xg 5 (Xr [(4,.bool false), (5,.slice qa ((l.filter (nId id)).length) qc), (7,vi (l.length : Int)), (43,.slice qa ((l.filter (nId id)).length) qc), (45,vq k 1)] ?_ 1 4))
  refine Xh0 ?_ 1 1
  refine Xs (Xz [(1,.slice qa ((l.filter (nId id)).length) qc)]) (fun _ => ?_) 0
  refine endR ?_
  refine Xq (Xg 5 (Xe [(4,.bool (decide (((l.filter (nId id)).length : Int) < (l.length : Int))))] ?_ 5))
  refine Xv (Y0 (.bool (decide (((l.filter (nId id)).length : Int) < (l.length : Int)))) (fun w hs => ?_))
  exact ⟨(qa, qc), rfl, Sat.erase 2 rfl hs⟩
theorem tmSet_at {id u : Int} : ∀ {l : List (Int × Int)} {k : Nat}, k ≤ l.length → (∀ (j : Nat) y, j < k → l[j]? = some y → y.1 < id) → (∀ y, l[k]? = some y → id < y.1) → l.take k ++ [(id, u)] ++ l.drop k = tmSet id u l
 | [], k, hk, _, _ => by
  have : k = 0 := by simpa using hk
  subst this; rfl
 | y :: r, 0, _, _, h => by
  have := h y rfl
  rw [tmSet, if_pos this]; rfl
 | y :: r, k + 1, hk, h1, h2 => by
  have h0 := h1 0 y (by omega) rfl
  rw [tmSet, if_neg (by omega), if_neg (by omega), ← tmSet_at (l := r) (k := k) (by simpa using hk) (fun j z hj hz => h1 (j + 1) z (by omega) (by simpa using hz)) (fun z hz => h2 z (by simpa using hz))]
  rfl
theorem tmSet_drop (id u : Int) : ∀ (l : List (Int × Int)), Srt l → tmSet id u (l.filter (nId id)) = tmSet id u l
 | [], _ => rfl
 | y :: r, h => by
  have h1 := List.pairwise_cons.1 h
  have ih := tmSet_drop id u r h1.2
  by_cases he : y.1 = id
  ·rw [List.filter_cons_of_neg (by simp [nId, he]), tmSet, if_neg (by omega), if_pos he]
   have : r.filter (nId id) = r := List.filter_eq_self.2 fun p hp => by have := h1.1 p hp; simp [nId]; omega
   rw [this]
   cases r with
   | nil => rfl
   | cons z r => have := h1.1 z (by simp); rw [tmSet, if_pos (by omega)]
  ·rw [List.filter_cons_of_pos (by simp [nId, he]), tmSet, tmSet]
   by_cases hlt : id < y.1
   ·have : r.filter (nId id) = r := List.filter_eq_self.2 fun p hp => by have := h1.1 p hp; simp [nId]; omega
    rw [if_pos hlt, if_pos hlt, this]
   ·rw [if_neg hlt, if_neg hlt, if_neg he, if_neg he, ih]
set_option maxHeartbeats 1000000 in
set_option maxRecDepth 100000 in
theorem rtset_walk (H : List SP) (k t c : Nat) (a : Option Addr) (l : List (Int × Int)) (z0 z1 z2 z3 : Oz) (mt mg la : Int) (id un : Int) (hl : l.length ≤ 1000) (hs : Srt l) : ∀ w, Sat w (blk k 55 [vp t, .slice a l.length c, vi z0.c, vi z1.c, vi z2.c, vi z3.c, .slice z0.a z0.l.length z0.k, .slice z1.a z1.l.length z1.k, .slice z2.a z2.l.length z2.k, .slice z3.a z3.l.length z3.k, vi mt, vi mg, vi la] :: row tmE 141 (.slice a l.length c) l :: H) → Calls Tryz.prog 58 #[vq k 1, vi id, vi un] w (Ret (ι := Option Addr × Nat) (fun _ => .tuple #[]) fun q => blk k 55 [vp t, .slice q.1 (tmSet id un l).length q.2, vi z0.c, vi z1.c, vi z2.c, vi z3.c, .slice z0.a z0.l.length z0.k, .slice z1.a z1.l.length z1.k, .slice z2.a z2.l.length z2.k, .slice z3.a z3.l.length z3.k, vi mt, vi mg, vi la] :: row tmE 141 (.slice q.1 (tmSet id un l).length q.2) (tmSet id un l) :: H) := by
 obtain ⟨f, hf⟩ : ∃ f, l.filter (nId id) = f := ⟨_, rfl⟩
 have hfl : f.length ≤ 1000 := by rw [← hf]; have := List.length_filter_le (nId id) l; omega
 have hts : tmSet id un f = tmSet id un l := by rw [← hf]; exact tmSet_drop id un l hs
 have hfs : ∀ y ∈ f, y.1 ≠ id := fun y hy => by rw [← hf] at hy; have := (List.mem_filter.1 hy).2; simpa [nId] using this
 refine enterG (fn := Tryz.f58) 53 [vq k 1, vi id, vi un] Tryz.func58 (by kernel_rfl) (by kernel_rfl) (by kernel_rfl) ?_
 refine Xq (Xg 3 (Xr [(0,vq k 1), (1,vi id), (2,vi un), (7,vq k 1), (8,vi id)] ?_ 1 2))
 refine Xs (Xa (some 9) (fun (q : Option Addr × Nat) => .bool (decide ((f.length : Int) < l.length))) ((hf ▸ rtdrop_walk H k t c a l z0 z1 z2 z3 mt mg la id hl))) (fun (q : Option Addr × Nat) => ?_) 0
 obtain ⟨qa, qc⟩ := q
 dsimp only
 refine endR ?_
 refine Xq (Xg 1 (Xe [(0,vq k 1), (1,vi id), (2,vi un), (6,vi 0)] ?_ 1))
 refine Xq (Xj0 (fun (v : { v : Nat // v ≤ f.length ∧ f.take v ++ [(id, un)] ++ f.drop v = tmSet id un f }) => [(0,vq k 1), (1,vi id), (2,vi un), (6,vi (v.1 : Int))]) ?_ (fun v => ?_))
 ·skip
  refine Xb 0 (Xp [(0,vq k 1), (1,vi id), (2,vi un), (6,vi 0)] (Xl0 (fun (q : Nat) => [(0,vq k 1), (1,vi id), (2,vi un), (6,vi q)]) (fun k (q : Nat) => k + q = f.length ∧ ∀ (j : Nat) y, j < q → f[j]? = some y → y.1 < id) f.length 0 (by kernel_rfl) ⟨by simp, fun j y hj => by omega⟩ ?_))
  rintro j q ⟨hkq, hlt⟩
  rcases Nat.lt_or_ge q f.length with hq | hq
  ·skip
   obtain ⟨y, hy⟩ : ∃ y, f[q]? = some y := ⟨_, List.getElem?_eq_getElem hq⟩
   have hne := hfs y (List.mem_of_getElem? hy)
   refine PT.know (KR.isSome (s := ⟨qa, qc, f⟩) (rowKRat 1 rfl) (List.ne_nil_of_length_pos (by show 0 < f.length; omega))) ?_
   rintro ⟨sb, so, hA⟩
   dsimp only at hA
   rw [hA]
   refine Xq (Xq (Xg 19 (Xl [(0,vq k 1), (1,vi id), (2,vi un), (6,vi q), (17,.bool (decide ((q : Int) < (f.length : Int))))] [(⟨k, 1, none⟩, .slice (some ⟨sb, so, none⟩) f.length qc)] (hasC (ba 0) has0) ?_ 11 8)))
   refine (Xs0 0 11 [(0,vq k 1), (1,vi id), (2,vi un), (6,vi q), (28,.bool ((decide ((q : Int) < (f.length : Int))) && (decide (y.1 < id))))] ?_ ?_ : RT _ _ _ _ _ _ 11 _)
   ·cases hg8 : (decide ((q : Int) < (f.length : Int))) with
    | true =>
     refine Xl [(0,vq k 1), (1,vi id), (2,vi un), (6,vi q), (17,.bool true), (21,.slice (some ⟨sb, so, none⟩) f.length qc), (22,vi q)] [(⟨k, 1, none⟩, .slice (some ⟨sb, so, none⟩) f.length qc)] (hasC (ba 0) has0) ?_ 6 5
     refine Xs (yldS (Xi 46 (.tmp 21) (.tmp 22) sb so f.length qc q 2 141 (q : Int) 23 Tryz.underlying46)) (fun _ => ?_) 5
     refine Xm [(0,vq k 1), (1,vi id), (2,vi un), (6,vi q), (28,.bool (decide (y.1 < id)))] [(⟨sb, so + q * 2, none⟩, vi y.1)] (hasC (rowCell (E := tmE) (xs := f) 1 rfl (x := y) hy (j := 0) rfl) has0) ?_ 5
     refine Xp [(0,vq k 1), (1,vi id), (2,vi un), (6,vi q), (28,.bool (true && (decide (y.1 < id))))] ?_
     exact midR () rfl rfl
    | false =>
     refine Xe [(0,vq k 1), (1,vi id), (2,vi un), (6,vi q), (28,.bool false)] ?_ 11
     refine Xp [(0,vq k 1), (1,vi id), (2,vi un), (6,vi q), (28,.bool (false && (decide (y.1 < id))))] ?_
     exact midR () rfl rfl
   refine endR ?_
   by_cases h6 : y.1 < id
   ·skip
    rw [show ((decide ((q : Int) < (f.length : Int))) && (decide (y.1 < id))) = true from by simp; omega]
    refine Xc true (fun _ => ?_) (fun h => by cases h)
    refine Xk (Xb 1 (Xg 3 (Xe [(0,vq k 1), (1,vi id), (2,vi un), (6,vi (IntKind.i64.wrap ((q : Int) + 1)))] ?_ 3)))
    rw [show IntKind.i64.wrap ((q : Int) + 1) = ((q : Int) + 1) by rw [w64 (by omega) (by omega)]]
    rw [← hA]
    refine Xp [(0,vq k 1), (1,vi id), (2,vi un), (6,vi ((q : Int) + 1))] ?_
    exact againG (j - 1) (q + 1) rfl rfl (by omega) ⟨by omega, fun m z hm hz => by by_cases cj : m = q; (subst cj; rw [hy] at hz; cases hz; exact h6); exact hlt m z (by omega) hz⟩
   ·skip
    rw [show ((decide ((q : Int) < (f.length : Int))) && (decide (y.1 < id))) = false from by simp; omega]
    refine Xc false (fun h => by cases h) (fun _ => ?_)
    refine Xx 0 (thenX (thenX (leaveR ?_)))
    rw [← hA]
    refine Xp [(0,vq k 1), (1,vi id), (2,vi un), (6,vi q)] ?_
    exact midR (⟨q, by omega, tmSet_at (l := f) (k := q) (by omega) (fun j y hj hy => hlt j y hj hy) (fun z hz => by rw [hy] at hz; cases hz; omega)⟩) rfl rfl
  ·skip
   refine Xq (Xq (Xg 19 (Xl [(0,vq k 1), (1,vi id), (2,vi un), (6,vi q), (17,.bool (decide ((q : Int) < (f.length : Int))))] [(⟨k, 1, none⟩, .slice qa f.length qc)] (hasC (ba 0) has0) ?_ 11 8)))
   rw [show (decide ((q : Int) < (f.length : Int))) = false from by first | exact decide_eq_false (by omega) | (simp; done) | (simp; omega)]
   refine Xe [(0,vq k 1), (1,vi id), (2,vi un), (6,vi q), (28,.bool false)] ?_ 11
   refine Xc false (fun h => by cases h) (fun _ => ?_)
   refine Xx 0 (thenX (thenX (leaveR (Xp [(0,vq k 1), (1,vi id), (2,vi un), (6,vi q)] ?_))))
   exact midR (⟨q, by omega, tmSet_at (l := f) (k := q) (by omega) (fun j y hj hy => hlt j y hj hy) (fun z hz => by rw [List.getElem?_eq_none hq] at hz; cases hz)⟩) rfl rfl
 obtain ⟨v, hv, hins⟩ := v
 refine PT.know (KR.le (s := ⟨qa, qc, f⟩) (rowKRat 1 rfl)) ?_
 rintro ⟨hcle, _⟩
 dsimp only at hcle
 refine PT.rowNil tmE 141 ?_
 refine Xy0 1 [22] 23 ?_
 refine Xt [0, 1, 2, 3, 4, 5, 8, 9, 10, 13, 14, 15, 16, 17] [(31,vq k 1), (35,.slice qa f.length qc), (36,vi v), (41,.agg #[vi id, vi un]), (47,.slice qa f.length qc), (48,vi v)] [(⟨k, 1, none⟩, .slice qa f.length qc), (⟨k, 1, none⟩, .slice qa f.length qc)] (hasC (ba 0) (hasC (ba 0) has0)) ?_
 refine Xu 6 (slcY 46 (.tmp 35) none (some (.tmp 36)) qa f.length qc 0 v 2 141 (some 37) (fun _ => by kernel_rfl) (by kernel_rfl) (by kernel_rfl) (fun _ => by kernel_rfl) (.inl ⟨rfl, rfl⟩) (.inr ⟨_, .i64, (v : Int), rfl, fun _ => by kernel_rfl, by first | rfl | omega⟩) Tryz.underlying46 (by kernel_rfl) (by omega) (by omega)) ?_
 refine Xu 18 (slcY 46 (.tmp 47) (some (.tmp 48)) none qa f.length qc v f.length 2 141 (some 49) (fun _ => by kernel_rfl) (by kernel_rfl) (by kernel_rfl) (fun _ => by kernel_rfl) (.inr ⟨_, .i64, (v : Int), rfl, fun _ => by kernel_rfl, by first | rfl | omega⟩) (.inl ⟨rfl, rfl⟩) Tryz.underlying46 (by kernel_rfl) (by omega) (by omega)) ?_
 refine Xw 7 11 ?_ ?_
 ·skip
  refine Xh 7 (Xf (E := tmE) 46 (.const (.slice none 0 0)) (.tmp 37) none 0 [] (f.take v) (.slice (cutA qa qc 0 2) (v - 0) (qc - 0)) 38 Tryz.underlying46 (etyRs) (subRd (rowKRat 2 rfl) (by omega) (by omega)) (by simp; omega)) (fun r1 => ?_)
  refine Xo 11 (Xn 141 [vi id, vi un] (some 42) (fun b => .slice (some ⟨b, 0, none⟩) 1 1)) (fun b2 => ?_)
  refine DT.pick 1 rfl ?_
  refine Xo 12 (Xf (E := tmE) 46 (.tmp 38) (.tmp 42) r1.1 r1.2 ([] ++ (f.take v)) [(id, un)] (.slice (some ⟨b2, 0, none⟩) 1 1) 43 Tryz.underlying46 (etyRs) (blkRd (x := (id, un)) 1 rfl) (by simp; omega)) (fun r3 => ?_)
  refine Xo 19 (Xf (E := tmE) 46 (.tmp 43) (.tmp 49) r3.1 r3.2 (([] ++ (f.take v)) ++ [(id, un)]) (f.drop v) (.slice (cutA qa qc v 2) (f.length - v) (qc - v)) 50 Tryz.underlying46 (etyRs) (dropRd (rowKRat 3 rfl) (by omega)) (by simp; omega)) (fun r4 => ?_)
  refine Xt [20, 21] [(50,.slice r4.1 (((([] ++ (f.take v)) ++ [(id, un)]) ++ (f.drop v)).length) r4.2), (52,vq k 1)] [] has0 ?_
  refine DT.pick 2 rfl ?_
  refine Xo 22 (Xz [(1,.slice r4.1 (((([] ++ (f.take v)) ++ [(id, un)]) ++ (f.drop v)).length) r4.2)]) (fun _ => ?_)
  refine Xd ?_
  rw [show ((([] ++ (f.take v)) ++ [(id, un)]) ++ (f.drop v)) = (tmSet id un l) by rw [← hts]; exact hins]
  refine Y1 (.tuple #[]) (fun w hs => ?_)
  exact ⟨r4, rfl, Sat.erase 2 rfl (Sat.erase 3 rfl hs)⟩
 ·skip
  refine Xh 11 (Xn 141 [vi id, vi un] (some 42) (fun b => .slice (some ⟨b, 0, none⟩) 1 1)) (fun b1 => ?_)
  refine DT.pick 1 rfl ?_
  refine Xo 7 (Xf (E := tmE) 46 (.const (.slice none 0 0)) (.tmp 37) none 0 [] (f.take v) (.slice (cutA qa qc 0 2) (v - 0) (qc - 0)) 38 Tryz.underlying46 (etyRs) (subRd (rowKRat 3 rfl) (by omega) (by omega)) (by simp; omega)) (fun r2 => ?_)
  refine Xo 12 (Xf (E := tmE) 46 (.tmp 38) (.tmp 42) r2.1 r2.2 ([] ++ (f.take v)) [(id, un)] (.slice (some ⟨b1, 0, none⟩) 1 1) 43 Tryz.underlying46 (etyRs) (blkRd (x := (id, un)) 1 rfl) (by simp; omega)) (fun r3 => ?_)
  refine Xo 19 (Xf (E := tmE) 46 (.tmp 43) (.tmp 49) r3.1 r3.2 (([] ++ (f.take v)) ++ [(id, un)]) (f.drop v) (.slice (cutA qa qc v 2) (f.length - v) (qc - v)) 50 Tryz.underlying46 (etyRs) (dropRd (rowKRat 3 rfl) (by omega)) (by simp; omega)) (fun r4 => ?_)
  refine Xt [20, 21] [(50,.slice r4.1 (((([] ++ (f.take v)) ++ [(id, un)]) ++ (f.drop v)).length) r4.2), (52,vq k 1)] [] has0 ?_
  refine DT.pick 2 rfl ?_
  refine Xo 22 (Xz [(1,.slice r4.1 (((([] ++ (f.take v)) ++ [(id, un)]) ++ (f.drop v)).length) r4.2)]) (fun _ => ?_)
  refine Xd ?_
  rw [show ((([] ++ (f.take v)) ++ [(id, un)]) ++ (f.drop v)) = (tmSet id un l) by rw [← hts]; exact hins]
  refine Y1 (.tuple #[]) (fun w hs => ?_)
  exact ⟨r4, rfl, Sat.erase 2 rfl (Sat.erase 3 rfl hs)⟩
theorem due_len2 (t : Int) (l : List (Int × Int)) (u : Nat) : (dueOf t (l.take u)).length ≤ l.length ∧ (restOf t (l.take u)).length ≤ l.length := by
 have h := due_length t (l.take u)
 have : (l.take u).length ≤ l.length := by simp [List.length_take]; omega
 omega
set_option maxHeartbeats 1000000 in
set_option maxRecDepth 100000 in
theorem rtdue_walk (H : List SP) (k t c : Nat) (a : Option Addr) (l : List (Int × Int)) (z0 z1 z2 z3 : Oz) (mt mg la : Int) (tk : Int) (hl : l.length ≤ 1000) : ∀ w, Sat w (blk k 55 [vp t, .slice a l.length c, vi z0.c, vi z1.c, vi z2.c, vi z3.c, .slice z0.a z0.l.length z0.k, .slice z1.a z1.l.length z1.k, .slice z2.a z2.l.length z2.k, .slice z3.a z3.l.length z3.k, vi mt, vi mg, vi la] :: row tmE 141 (.slice a l.length c) l :: H) → Calls Tryz.prog 67 #[vq k 1, vi tk] w (Ret (ι := (Option Addr × Nat) × (Option Addr × Nat)) (fun q => .slice q.1.1 (dueOf tk l).length q.1.2) fun q => row (kE .i64) 3 (.slice q.1.1 (dueOf tk l).length q.1.2) (dueOf tk l) :: blk k 55 [vp t, .slice q.2.1 (restOf tk l).length q.2.2, vi z0.c, vi z1.c, vi z2.c, vi z3.c, .slice z0.a z0.l.length z0.k, .slice z1.a z1.l.length z1.k, .slice z2.a z2.l.length z2.k, .slice z3.a z3.l.length z3.k, vi mt, vi mg, vi la] :: row tmE 141 (.slice q.2.1 (restOf tk l).length q.2.2) (restOf tk l) :: H) := by
 refine enterG (fn := Tryz.f67) 53 [vq k 1, vi tk] Tryz.func67 (by kernel_rfl) (by kernel_rfl) (by kernel_rfl) ?_
 refine Xq (Xg 1 (Xe [(0,vq k 1), (1,vi tk), (4,.slice none 0 0)] ?_ 1))
 refine Xq (Xg 1 (Xe [(0,vq k 1), (1,vi tk), (4,.slice none 0 0), (5,.slice none 0 0)] ?_ 1))
 refine Xq (Xg 1 (Xe [(0,vq k 1), (1,vi tk), (4,.slice none 0 0), (5,.slice none 0 0), (6,.slice none 0 0)] ?_ 1))
 refine Xq (Xq (Xg 1 (Xe [(0,vq k 1), (1,vi tk), (4,.slice none 0 0), (5,.slice none 0 0), (6,.slice none 0 0), (7,vi 0)] ?_ 1)))
 refine Xb 0 ?_
 refine PT.rowNil tmE 141 ?_
 refine PT.rowNil (kE .i64) 3 ?_
 refine Xp [(0,vq k 1), (1,vi tk), (4,.slice none 0 0), (5,.slice none 0 0), (6,.slice none 0 0), (7,vi 0)] ?_
 refine loopG (fun (s : ((Option Addr × Nat) × (Option Addr × Nat)) × Nat) => [(0, vq k 1), (1, vi tk), (4, .slice none 0 0), (5, .slice s.1.1.1 ((dueOf tk (l.take s.2)).length) s.1.1.2), (6, .slice s.1.2.1 ((restOf tk (l.take s.2)).length) s.1.2.2), (7, vi (s.2 : Int))]) (fun (s : ((Option Addr × Nat) × (Option Addr × Nat)) × Nat) => (row (kE .i64) 3 (.slice s.1.1.1 (dueOf tk (l.take s.2)).length s.1.1.2) (dueOf tk (l.take s.2)) :: row tmE 141 (.slice s.1.2.1 (restOf tk (l.take s.2)).length s.1.2.2) (restOf tk (l.take s.2)) :: blk k 55 [vp t, .slice a l.length c, vi z0.c, vi z1.c, vi z2.c, vi z3.c, .slice z0.a z0.l.length z0.k, .slice z1.a z1.l.length z1.k, .slice z2.a z2.l.length z2.k, .slice z3.a z3.l.length z3.k, vi mt, vi mg, vi la] :: row tmE 141 (.slice a l.length c) l :: H)) (fun k (s : ((Option Addr × Nat) × (Option Addr × Nat)) × Nat) => k + s.2 = l.length) l.length (((none, 0), (none, 0)), 0) (by kernel_rfl) (by simp only; omega) ?_
 rintro j ⟨⟨⟨da, dc⟩, ⟨ra, rc⟩⟩, u⟩ hku
 simp only at hku
 refine Xq (Xq (Xg 7 (Xm [(0,vq k 1), (1,vi tk), (4,.slice none 0 0), (5,.slice da ((dueOf tk (l.take u)).length) dc), (6,.slice ra ((restOf tk (l.take u)).length) rc), (7,vi u), (14,.bool (decide ((u : Int) < (l.length : Int))))] [(⟨k, 1, none⟩, .slice a l.length c)] (hasC (ba 2) has0) ?_ 7)))
 refine Xc (decide ((u : Int) < (l.length : Int))) (fun h1 => ?_) (fun h1 => ?_)
 ·skip
  have hu : u < l.length := by have := of_decide_eq_true h1; omega
  obtain ⟨x, hx⟩ : ∃ x, l[u]? = some x := ⟨_, List.getElem?_eq_getElem hu⟩
  have hd := due_take tk l u x hx
  have hdl := due_len2 tk l u
  refine PT.know (KR.isSome (s := ⟨a, c, l⟩) (rowKRat 3 rfl) (List.ne_nil_of_length_pos (by show 0 < l.length; omega))) ?_
  rintro ⟨sb, so, hA⟩
  dsimp only at hA
  rw [hA]
  refine Xk (Xq (Xb 1 (Xq (Xg 10 (Xl [(0,vq k 1), (1,vi tk), (4,.slice none 0 0), (5,.slice da ((dueOf tk (l.take u)).length) dc), (6,.slice ra ((restOf tk (l.take u)).length) rc), (7,vi u), (20,.slice (some ⟨sb, so, none⟩) l.length c), (21,vi u)] [(⟨k, 1, none⟩, .slice (some ⟨sb, so, none⟩) l.length c)] (hasC (ba 2) has0) ?_ 5 5)))))
  refine Xs (yldS (Xi 46 (.tmp 20) (.tmp 21) sb so l.length c u 2 141 (u : Int) 22 Tryz.underlying46)) (fun _ => ?_) 4
  refine Xm [(0,vq k 1), (1,vi tk), (4,.slice none 0 0), (5,.slice da ((dueOf tk (l.take u)).length) dc), (6,.slice ra ((restOf tk (l.take u)).length) rc), (7,vi u), (26,.bool (decide (x.2 ≤ tk)))] [(⟨sb, so + u * 2 + 1, none⟩, vi x.2)] (hasC (rowCell (E := tmE) (xs := l) 3 rfl (x := x) hx (j := 1) rfl) has0) ?_ 4
  refine Xc (decide (x.2 ≤ tk)) (fun h2 => ?_) (fun h2 => ?_)
  ·skip
   obtain ⟨e1, e2⟩ := hd.1 (of_decide_eq_true h2)
   refine Xg 12 (Xl [(0,vq k 1), (1,vi tk), (4,.slice none 0 0), (5,.slice da ((dueOf tk (l.take u)).length) dc), (6,.slice ra ((restOf tk (l.take u)).length) rc), (7,vi u), (27,.slice da ((dueOf tk (l.take u)).length) dc), (31,.slice (some ⟨sb, so, none⟩) l.length c), (32,vi u)] [(⟨k, 1, none⟩, .slice (some ⟨sb, so, none⟩) l.length c)] (hasC (ba 2) has0) ?_ 6 6)
   refine Xs (yldS (Xi 46 (.tmp 31) (.tmp 32) sb so l.length c u 2 141 (u : Int) 33 Tryz.underlying46)) (fun _ => ?_) 5
   refine Xl [(0,vq k 1), (1,vi tk), (4,.slice none 0 0), (5,.slice da ((dueOf tk (l.take u)).length) dc), (6,.slice ra ((restOf tk (l.take u)).length) rc), (7,vi u), (27,.slice da ((dueOf tk (l.take u)).length) dc), (35,vi x.1)] [(⟨sb, so + u * 2, none⟩, vi x.1)] (hasC (rowCell (E := tmE) (xs := l) 3 rfl (x := x) hx (j := 0) rfl) has0) ?_ 3 2
   refine Xs (Xn 3 [vi x.1] (some 36) (fun b => .slice (some ⟨b, 0, none⟩) 1 1)) (fun b1 => ?_) 2
   refine Xh0 ?_ 1 2
   refine Xs (Xf (E := (kE .i64)) 50 (.tmp 27) (.tmp 36) da dc (dueOf tk (l.take u)) [x.1] (.slice (some ⟨b1, 0, none⟩) 1 1) 37 Tryz.underlying50 (kI_ety8) (blkRd (x := x.1) 1 rfl) (by simp only [List.length_cons, List.length_nil]; omega)) (fun r2 => ?_) 1
   refine Xe [(0,vq k 1), (1,vi tk), (4,.slice none 0 0), (5,.slice r2.1 (((dueOf tk (l.take u)) ++ [x.1]).length) r2.2), (6,.slice ra ((restOf tk (l.take u)).length) rc), (7,vi u)] ?_ 1
   refine Xg 3 (Xe [(0,vq k 1), (1,vi tk), (4,.slice none 0 0), (5,.slice r2.1 (((dueOf tk (l.take u)) ++ [x.1]).length) r2.2), (6,.slice ra ((restOf tk (l.take u)).length) rc), (7,vi (IntKind.i64.wrap ((u : Int) + 1)))] ?_ 3)
   rw [show IntKind.i64.wrap ((u : Int) + 1) = ((u : Int) + 1) by rw [w64 (by omega) (by omega)]]
   refine PT.pick 1 rfl ?_
   refine PT.drop ?_
   rw [← hA, ← e1, ← e2]
   refine Xp [(0,vq k 1), (1,vi tk), (4,.slice none 0 0), (5,.slice r2.1 ((dueOf tk (l.take (u + 1))).length) r2.2), (6,.slice ra ((restOf tk (l.take (u + 1))).length) rc), (7,vi ((u : Int) + 1))] ?_
   exact againG (j - 1) ((r2, (ra, rc)), u + 1) rfl rfl (by omega) (by simp only; omega)
  ·skip
   obtain ⟨e1, e2⟩ := hd.2 (by have := of_decide_eq_false h2; omega)
   refine PT.pick 0 rfl ?_
   refine PT.pick 1 rfl ?_
   refine Xg 11 (Xl [(0,vq k 1), (1,vi tk), (4,.slice none 0 0), (5,.slice da ((dueOf tk (l.take u)).length) dc), (6,.slice ra ((restOf tk (l.take u)).length) rc), (7,vi u), (38,.slice ra ((restOf tk (l.take u)).length) rc), (42,.slice (some ⟨sb, so, none⟩) l.length c), (43,vi u)] [(⟨k, 1, none⟩, .slice (some ⟨sb, so, none⟩) l.length c)] (hasC (ba 2) has0) ?_ 5 6)
   refine Xs (yldS (Xi 46 (.tmp 42) (.tmp 43) sb so l.length c u 2 141 (u : Int) 44 Tryz.underlying46)) (fun _ => ?_) 4
   refine Xl [(0,vq k 1), (1,vi tk), (4,.slice none 0 0), (5,.slice da ((dueOf tk (l.take u)).length) dc), (6,.slice ra ((restOf tk (l.take u)).length) rc), (7,vi u), (38,.slice ra ((restOf tk (l.take u)).length) rc), (45,.agg #[vi x.1, vi x.2])] [(⟨sb, so + u * 2, none⟩, vi x.1), (⟨sb, so + u * 2 + 1, none⟩, vi x.2)] (hasC (rowCell (E := tmE) (xs := l) 3 rfl (x := x) hx (j := 0) rfl) (hasC (rowCell (E := tmE) (xs := l) 3 rfl (x := x) hx (j := 1) rfl) has0)) ?_ 3 1
   refine Xs (Xn 141 [vi x.1, vi x.2] (some 46) (fun b => .slice (some ⟨b, 0, none⟩) 1 1)) (fun b1 => ?_) 2
   refine Xh0 ?_ 1 2
   refine Xs (Xf (E := tmE) 46 (.tmp 38) (.tmp 46) ra rc (restOf tk (l.take u)) [x] (.slice (some ⟨b1, 0, none⟩) 1 1) 47 Tryz.underlying46 (etyRs) (blkRd (x := x) 1 rfl) (by simp only [List.length_cons, List.length_nil]; omega)) (fun r2 => ?_) 1
   refine Xe [(0,vq k 1), (1,vi tk), (4,.slice none 0 0), (5,.slice da ((dueOf tk (l.take u)).length) dc), (6,.slice r2.1 (((restOf tk (l.take u)) ++ [x]).length) r2.2), (7,vi u)] ?_ 1
   refine Xg 3 (Xe [(0,vq k 1), (1,vi tk), (4,.slice none 0 0), (5,.slice da ((dueOf tk (l.take u)).length) dc), (6,.slice r2.1 (((restOf tk (l.take u)) ++ [x]).length) r2.2), (7,vi (IntKind.i64.wrap ((u : Int) + 1)))] ?_ 3)
   rw [show IntKind.i64.wrap ((u : Int) + 1) = ((u : Int) + 1) by rw [w64 (by omega) (by omega)]]
   refine PT.pick 1 rfl ?_
   refine PT.drop ?_
   refine PT.pick 0 rfl ?_
   refine PT.pick 1 rfl ?_
   rw [← hA, ← e1, ← e2]
   refine Xp [(0,vq k 1), (1,vi tk), (4,.slice none 0 0), (5,.slice da ((dueOf tk (l.take (u + 1))).length) dc), (6,.slice r2.1 ((restOf tk (l.take (u + 1))).length) r2.2), (7,vi ((u : Int) + 1))] ?_
   exact againG (j - 1) (((da, dc), r2), u + 1) rfl rfl (by omega) (by simp only; omega)
 ·skip
  have hu : u = l.length := by have := of_decide_eq_false h1; omega
  have htk : l.take u = l := List.take_of_length_le (by omega)
  rw [htk]
  refine Xx 0 (thenX (thenX (leaveR (Xq (Xg 5 (Xr [(4,.slice none 0 0), (5,.slice da ((dueOf tk l).length) dc), (49,.slice ra ((restOf tk l).length) rc), (51,vq k 1)] ?_ 1 4))))))
  refine Xh0 ?_ 2 1
  refine Xs (Xz [(1,.slice ra ((restOf tk l).length) rc)]) (fun _ => ?_) 0
  refine endR ?_
  refine Xq (Xg 2 (Xe [(4,.slice da ((dueOf tk l).length) dc)] ?_ 2))
  refine Xv ?_
  refine PT.pick 0 rfl ?_
  refine PT.pick 1 rfl ?_
  refine Y0 (.slice da ((dueOf tk l).length) dc) (fun w hs => ?_)
  exact ⟨((da, dc), (ra, rc)), rfl, Sat.erase 3 rfl hs⟩
end Go.Proofs.YtlhjibkkkhgonaaGreatDoor
set_option linter.unusedVariables false
set_option linter.unusedSimpArgs false
namespace Go.Proofs.YtlhjibkkkhgonaaGreatDoor
open Go.RowKit G
/-- A row whose begin is cut off. -/
theorem Sat.cut {α : Type} {E : Enc α} {T : TypeId} {A : Option Addr} {c : Nat} {xs : List α} {H : List SP} {w : World} {J : Nat} (hJ : J ≤ xs.length) (h : Sat w (row E T (.slice A xs.length c) xs :: H)) : Sat w (row E T (.slice (cutA A c J E.k) (xs.length - J) (c - J)) (xs.drop J) :: H) := by
 refine Sat.change h fun G hG => ⟨Upd.refl _ _, ?_⟩
 rcases hG with ⟨h1, h2, h3⟩ | ⟨b, o, c', cur, h1, h2, h3, h4, h5, h6, h7⟩
 ·injection h1 with e1 e2 e3
  subst e1 e3 h2
  refine ⟨NoB, .inl ⟨by simp [cutA], by simp, rfl⟩, fun b hb => by cases hb⟩
 ·injection h1 with e1 e2 e3
  subst e1 e3
  refine ⟨G, .inr ?_, fun b hb => .inl hb⟩
  unfold cutA
  by_cases hc : c = J
  ·rw [if_pos hc]
   refine ⟨b, o, c - J, cur, by rw [List.length_drop], h2, h3, by rw [List.length_drop]; omega, by omega, ?_, ?_⟩
   ·rw [hc, Nat.sub_self, Nat.zero_mul]; omega
   ·have : xs.drop J = [] := List.drop_eq_nil_of_le (by omega)
    rw [this]; simp [Enc.flat]
  ·rw [if_neg hc]
   have hm : c * E.k = J * E.k + (c - J) * E.k := by rw [← Nat.add_mul]; congr 1; omega
   have hn : xs.length * E.k = J * E.k + (xs.length - J) * E.k := by rw [← Nat.add_mul]; congr 1; omega
   refine ⟨b, o + J * E.k, c - J, cur, by rw [List.length_drop]; simp [Addr.add], h2, h3, by rw [List.length_drop]; omega, by omega, by omega, ?_⟩
   rw [List.length_drop, ← Enc.flat_drop, ← h7, List.drop_take, List.drop_drop, hn, Nat.add_sub_cancel_left]
theorem PT.cut {α : Type} {E : Enc α} {T : TypeId} {A : Option Addr} {c : Nat} {xs : List α} {H : List SP} {n : Nat} {L : List (Nat × Value)} {Φ : Act → World → Prop} (J : Nat) (hJ : J ≤ xs.length) (h : PT n L (row E T (.slice (cutA A c J E.k) (xs.length - J) (c - J)) (xs.drop J) :: H) Φ) : PT n L (row E T (.slice A xs.length c) xs :: H) Φ := PT.sat (fun _ hs => Sat.cut hJ hs) h
set_option maxHeartbeats 1000000 in
set_option maxRecDepth 100000 in
theorem rkhas_walk (H : List SP) (s : SV Int) (hk : KR H (kE .i64) s) (hl : s.l.length ≤ 1000000) (id : Int) : ∀ w, Sat w H → Calls Tryz.prog 94 #[.slice s.a s.l.length s.c, vi id] w (Ret (ι := Unit) (fun _ => .bool (s.l.contains id)) fun _ => H) := by
 refine enterG (fn := Tryz.f94) 18 [.slice s.a s.l.length s.c, vi id] Tryz.func94 (by kernel_rfl) (by kernel_rfl) (by kernel_rfl) ?_
 refine Xq (Xg 1 (Xe [(0,.slice s.a s.l.length s.c), (1,vi id), (4,.bool false)] ?_ 1))
 refine Xq (Xq (Xg 1 (Xe [(0,.slice s.a s.l.length s.c), (1,vi id), (4,.bool false), (5,vi 0)] ?_ 1)))
 refine Xb 0 (Xp [(0,.slice s.a s.l.length s.c), (1,vi id), (5,vi 0)] (Xl0 (fun (u : Nat) => [(0,.slice s.a s.l.length s.c), (1,vi id), (5,vi u)]) (fun k (u : Nat) => k + u = s.l.length ∧ ∀ v x, v < u → s.l[v]? = some x → x ≠ id) s.l.length 0 (by kernel_rfl) ⟨by simp, fun v x hv => by omega⟩ ?_))
 rintro j u ⟨hku, hno⟩
 refine Xq (Xq (Xg 4 (Xe [(0,.slice s.a s.l.length s.c), (1,vi id), (5,vi u), (9,.bool (decide ((u : Int) < (s.l.length : Int))))] ?_ 4)))
 refine Xc (decide ((u : Int) < (s.l.length : Int))) (fun h1 => ?_) (fun h1 => ?_)
 ·skip
  have hu : u < s.l.length := by have := of_decide_eq_true h1; omega
  obtain ⟨x, hx⟩ : ∃ x, s.l[u]? = some x := ⟨_, List.getElem?_eq_getElem hu⟩
  refine PT.know ((hk).isSome (List.ne_nil_of_length_pos (by omega))) ?_
  rintro ⟨sb, so, hA'⟩
  try rw [hA']
  refine Xk (Xq (Xb 1 (Xq (Xg 6 (Xr [(0,.slice (some ⟨sb, so, none⟩) s.l.length s.c), (1,vi id), (5,vi u), (12,.slice (some ⟨sb, so, none⟩) s.l.length s.c), (13,vi u)] ?_ 4 2)))))
  refine Xs (yldS (Xi 50 (.tmp 12) (.tmp 13) sb so s.l.length s.c u 1 3 (u : Int) 14 Tryz.underlying50)) (fun _ => ?_) 3
  refine Xm [(0,.slice (some ⟨sb, so, none⟩) s.l.length s.c), (1,vi id), (5,vi u), (17,.bool (x == id))] [(⟨sb, so + u * 1, none⟩, vi x)] (hasC (hk.cell hA' (i := u) (x := x) hx (j := 0) rfl) has0) ?_ 3
  refine Xc (x == id) (fun h2 => ?_) (fun h2 => ?_)
  ·skip
   have h2' : x = id := eq_of_beq h2
   refine Xq (Xg 1 (Xe [(0,.slice (some ⟨sb, so, none⟩) s.l.length s.c), (1,vi id), (5,vi u), (4,.bool true)] ?_ 1))
   refine Xv (blockV (thenV (thenV (blockV (thenV (Y0 (.bool true) (fun w hs => ?_)))))))
   exact ⟨(), by rw [show s.l.contains id = true by rw [List.contains_iff_mem]; exact h2' ▸ List.mem_of_getElem? hx], hs⟩
  ·skip
   have h2' : x ≠ id := beq_eq_false_iff_ne.1 h2
   refine Xk (Xg 3 (Xe [(0,.slice (some ⟨sb, so, none⟩) s.l.length s.c), (1,vi id), (5,vi (IntKind.i64.wrap ((u : Int) + 1)))] ?_ 3))
   try rw [← hA']
   rw [show IntKind.i64.wrap ((u : Int) + 1) = ((u : Int) + 1) by rw [w64 (by omega) (by omega)]]
   refine Xp [(0,.slice s.a s.l.length s.c), (1,vi id), (5,vi ((u : Int) + 1))] ?_
   exact againG (j - 1) (u + 1) rfl rfl (by omega) ⟨by omega, fun v y hv hy => by rcases Nat.lt_succ_iff_lt_or_eq.1 hv with hv | rfl; exact hno v y hv hy; rw [hx] at hy; cases hy; exact h2'⟩
 ·skip
  have hu : u = s.l.length := by have := of_decide_eq_false h1; omega
  refine Xx 0 (thenX (thenX (leaveR (Xq (Xg 1 (Xe [(4,.bool false)] ?_ 1))))))
  refine Xv (Y0 (.bool false) (fun w hs => ?_))
  exact ⟨(), by rw [show s.l.contains id = false by rw [Bool.eq_false_iff]; intro h; rw [List.contains_iff_mem] at h; obtain ⟨v, hv⟩ := List.getElem?_of_mem h; exact hno v id (by have := (List.getElem?_eq_some_iff.1 hv).1; omega) hv rfl], hs⟩
structure O4 where
 z0 : Oz
 z1 : Oz
 z2 : Oz
 z3 : Oz
def O4.ob (Z : O4) : List Ob := [obF Z.z0, obF Z.z1, obF Z.z2, obF Z.z3]
theorem obHas4 (a b c d : Ob) (id : Int) : obHas [a, b, c, d] id = (a.2.contains id || (b.2.contains id || (c.2.contains id || d.2.contains id))) := by simp [obHas]
set_option maxHeartbeats 2000000 in
set_option maxRecDepth 100000 in
theorem roobj_walk (H : List SP) (n : Int) : ∀ w, Sat w H → Calls Tryz.prog 93 #[vi n] w (Ret (ι := Unit) (fun _ => .bool (isOb n)) fun _ => H) := by
 refine enterG (fn := Tryz.f93) 9 [vi n] Tryz.func93 (by kernel_rfl) (by kernel_rfl) (by kernel_rfl) ?_
 refine Xq (Xg 1 (Xe [(0,vi n), (2,.bool false)] ?_ 1))
 refine Xq (Xg 7 (Xr [(0,vi n), (2,.bool false), (5,.bool (decide (n ≥ 0)))] ?_ 4 3))
 refine (Xs0 1 3 [(2,.bool false), (8,.bool ((decide (n ≥ 0)) && (decide (n < 4))))] ?_ ?_ : RT _ _ _ _ _ _ 4 _)
 ·cases hg3 : (decide (n ≥ 0)) with
  | true =>
   refine Xe [(2,.bool false), (8,.bool (decide (n < 4)))] ?_ 3
   refine Xp [(2,.bool false), (8,.bool (true && (decide (n < 4))))] ?_
   exact midR () rfl rfl
  | false =>
   refine Xe [(2,.bool false), (8,.bool false)] ?_ 3
   refine Xp [(2,.bool false), (8,.bool (false && (decide (n < 4))))] ?_
   exact midR () rfl rfl
 refine Xe [(2,.bool ((decide (n ≥ 0)) && (decide (n < 4))))] ?_ 1
 refine Xv (Y0 (.bool ((decide (n ≥ 0)) && (decide (n < 4)))) (fun w hs => ?_))
 exact ⟨(), rfl, hs⟩
set_option maxHeartbeats 2000000 in
set_option maxRecDepth 100000 in
theorem rowait_walk (H : List SP) (k t c : Nat) (a : Option Addr) (l : List (Int × Int)) (Z : O4) (mt mg la : Int) (id n : Int) (hc : ∀ o ∈ Z.ob, 0 ≤ o.1 ∧ o.1 ≤ 255 ∧ o.2.length ≤ 1000) : ∀ w, Sat w (blk k 55 [vp t, .slice a l.length c, vi Z.z0.c, vi Z.z1.c, vi Z.z2.c, vi Z.z3.c, .slice Z.z0.a Z.z0.l.length Z.z0.k, .slice Z.z1.a Z.z1.l.length Z.z1.k, .slice Z.z2.a Z.z2.l.length Z.z2.k, .slice Z.z3.a Z.z3.l.length Z.z3.k, vi mt, vi mg, vi la] :: row (kE .i64) 3 (.slice Z.z0.a Z.z0.l.length Z.z0.k) Z.z0.l :: row (kE .i64) 3 (.slice Z.z1.a Z.z1.l.length Z.z1.k) Z.z1.l :: row (kE .i64) 3 (.slice Z.z2.a Z.z2.l.length Z.z2.k) Z.z2.l :: row (kE .i64) 3 (.slice Z.z3.a Z.z3.l.length Z.z3.k) Z.z3.l :: H) → Calls Tryz.prog 60 #[vq k 2, vi id, vi n] w (Ret (ι := { Y : O4 // Y.ob = (obWait Z.ob id n).2 }) (fun _ => .tuple #[.bool (obWait Z.ob id n).1.1, vi (obWait Z.ob id n).1.2]) fun Y => blk k 55 [vp t, .slice a l.length c, vi Y.1.z0.c, vi Y.1.z1.c, vi Y.1.z2.c, vi Y.1.z3.c, .slice Y.1.z0.a Y.1.z0.l.length Y.1.z0.k, .slice Y.1.z1.a Y.1.z1.l.length Y.1.z1.k, .slice Y.1.z2.a Y.1.z2.l.length Y.1.z2.k, .slice Y.1.z3.a Y.1.z3.l.length Y.1.z3.k, vi mt, vi mg, vi la] :: row (kE .i64) 3 (.slice Y.1.z0.a Y.1.z0.l.length Y.1.z0.k) Y.1.z0.l :: row (kE .i64) 3 (.slice Y.1.z1.a Y.1.z1.l.length Y.1.z1.k) Y.1.z1.l :: row (kE .i64) 3 (.slice Y.1.z2.a Y.1.z2.l.length Y.1.z2.k) Y.1.z2.l :: row (kE .i64) 3 (.slice Y.1.z3.a Y.1.z3.l.length Y.1.z3.k) Y.1.z3.l :: H) := by
 obtain ⟨z0, z1, z2, z3⟩ := Z
 have h0 := hc (obF z0) (by simp [O4.ob])
 have h1 := hc (obF z1) (by simp [O4.ob])
 have h2 := hc (obF z2) (by simp [O4.ob])
 have h3 := hc (obF z3) (by simp [O4.ob])
 simp only [obF] at h0 h1 h2 h3
 refine enterG (fn := Tryz.f60) 58 [vq k 2, vi id, vi n] Tryz.func60 (by kernel_rfl) (by kernel_rfl) (by kernel_rfl) ?_
 refine Xq (Xg 2 (Xe [(0,vq k 2), (1,vi id), (2,vi n), (6,.bool false), (7,vi 0)] ?_ 2))
 refine Xq (Xq (Xg 3 (Xr [(0,vq k 2), (1,vi id), (2,vi n), (6,.bool false), (7,vi 0), (9,vi n)] ?_ 2 1)))
 refine Xs (Xa (some 10) (fun _ => .bool (isOb n)) (roobj_walk _ n)) (fun _ => ?_) 1
 cases hn : isOb n with
 | false =>
  refine Xe [(0,vq k 2), (1,vi id), (2,vi n), (6,.bool false), (7,vi 0), (11,.bool true)] ?_ 1
  refine Xc true (fun _ => ?_) (fun h => by cases h)
  refine Xq (Xg 2 (Xe [(0,vq k 2), (1,vi id), (2,vi n), (6,.bool false), (7,vi 10)] ?_ 2))
  refine Xv (thenV ?_)
  have e : obWait (O4.ob ⟨z0, z1, z2, z3⟩) id n = ((false, 10), O4.ob ⟨z0, z1, z2, z3⟩) := by rw [obWait, if_pos hn]
  refine Y0 (.tuple #[.bool false, vi 10]) (fun w hs => ?_)
  exact ⟨⟨⟨z0, z1, z2, z3⟩, by rw [e]⟩, by simp only [e], hs⟩
 | true =>
  refine Xe [(0,vq k 2), (1,vi id), (2,vi n), (6,.bool false), (7,vi 0), (11,.bool false)] ?_ 1
  refine Xc false (fun h => by cases h) (fun _ => ?_)
  refine Xk (Xq (Xq (Xg 1 (Xe [(0,vq k 2), (1,vi id), (2,vi n), (6,.bool false), (7,vi 0), (8,vi 0)] ?_ 1))))
  refine Xb 0 (Xp [(0,vq k 2), (1,vi id), (2,vi n), (8,vi 0)] (Xl0 (fun (i : Nat) => [(0,vq k 2), (1,vi id), (2,vi n), (8,vi i)]) (fun k (i : Nat) => k + i = 4 ∧ i ≤ 4 ∧ (0 < i → z0.l.contains id = false) ∧ (1 < i → z1.l.contains id = false) ∧ (2 < i → z2.l.contains id = false) ∧ (3 < i → z3.l.contains id = false)) 4 0 (by kernel_rfl) ⟨by omega, by omega, fun h => by omega, fun h => by omega, fun h => by omega, fun h => by omega⟩ ?_))
  rintro j i ⟨hji, hi4, g0, g1, g2, g3⟩
  have hi5 : i = 0 ∨ i = 1 ∨ i = 2 ∨ i = 3 ∨ i = 4 := by omega
  rcases hi5 with rfl | rfl | rfl | rfl | rfl
  ·skip
   refine Xq (Xq (Xg 2 (Xe [(0,vq k 2), (1,vi id), (2,vi n), (8,vi 0), (13,.bool true)] ?_ 2)))
   refine Xc true (fun _ => ?_) (fun h => by cases h)
   refine Xk (Xq (Xb 1 (Xq (Xg 8 (Xr [(0,vq k 2), (1,vi id), (2,vi n), (8,vi 0), (17,vi 0), (19,vq k 6)] ?_ 4 4)))))
   refine Xs (yldS (Xj 51 (.tmp 19) (.tmp 17) k 6 4 0 1 50 0 20 Tryz.underlying51)) (fun _ => ?_) 3
   refine Xl [(0,vq k 2), (1,vi id), (2,vi n), (8,vi 0), (21,.slice z0.a z0.l.length z0.k), (22,vi id)] [(⟨k, 6, none⟩, .slice z0.a z0.l.length z0.k)] (hasC (ba 0) has0) ?_ 1 2
   refine Xs (Xa (some 23) (fun _ => .bool (z0.l.contains id)) (rkhas_walk _ ⟨z0.a, z0.k, z0.l⟩ (rowKRat 1 rfl) (by have := h0.2.2; simp only; omega) id)) (fun _ => ?_) 0
   cases hc0 : z0.l.contains id with
   | true =>
    have e : obWait (O4.ob ⟨z0, z1, z2, z3⟩) id n = ((false, 20), O4.ob ⟨z0, z1, z2, z3⟩) := by rw [obWait, if_neg (by rw [hn]; simp), if_pos (by rw [O4.ob, obHas4]; simp only [obF]; rw [hc0]; simp)]
    refine endR ?_
    refine Xc true (fun _ => ?_) (fun h => by cases h)
    refine Xq (Xg 2 (Xe [(0,vq k 2), (1,vi id), (2,vi n), (8,vi 0), (6,.bool false), (7,vi 20)] ?_ 2))
    refine Xv (blockV (thenV (thenV (blockV (thenV (Y0 (.tuple #[.bool false, vi 20]) (fun w hs => ?_)))))))
    exact ⟨⟨⟨z0, z1, z2, z3⟩, by rw [e]⟩, by simp only [e], hs⟩
   | false =>
    refine endR ?_
    refine Xc false (fun h => by cases h) (fun _ => ?_)
    refine Xk (Xg 3 (Xe [(0,vq k 2), (1,vi id), (2,vi n), (8,vi (IntKind.i64.wrap (0 + 1)))] ?_ 3))
    rw [show IntKind.i64.wrap (0 + 1) = (0 + 1) by rw [w64 (by omega) (by omega)]]
    refine Xp [(0,vq k 2), (1,vi id), (2,vi n), (8,vi (0 + 1))] ?_
    exact againG (j - 1) 1 rfl rfl (by omega) ⟨by omega, by omega, fun _ => by first | exact hc0 | rfl, fun h => by omega, fun h => by omega, fun h => by omega⟩
  ·skip
   refine Xq (Xq (Xg 2 (Xe [(0,vq k 2), (1,vi id), (2,vi n), (8,vi 1), (13,.bool true)] ?_ 2)))
   refine Xc true (fun _ => ?_) (fun h => by cases h)
   refine Xk (Xq (Xb 1 (Xq (Xg 8 (Xr [(0,vq k 2), (1,vi id), (2,vi n), (8,vi 1), (17,vi 1), (19,vq k 6)] ?_ 4 4)))))
   refine Xs (yldS (Xj 51 (.tmp 19) (.tmp 17) k 6 4 1 1 50 1 20 Tryz.underlying51)) (fun _ => ?_) 3
   refine Xl [(0,vq k 2), (1,vi id), (2,vi n), (8,vi 1), (21,.slice z1.a z1.l.length z1.k), (22,vi id)] [(⟨k, 7, none⟩, .slice z1.a z1.l.length z1.k)] (hasC (ba 0) has0) ?_ 1 2
   refine Xs (Xa (some 23) (fun _ => .bool (z1.l.contains id)) (rkhas_walk _ ⟨z1.a, z1.k, z1.l⟩ (rowKRat 2 rfl) (by have := h1.2.2; simp only; omega) id)) (fun _ => ?_) 0
   cases hc1 : z1.l.contains id with
   | true =>
    have e : obWait (O4.ob ⟨z0, z1, z2, z3⟩) id n = ((false, 20), O4.ob ⟨z0, z1, z2, z3⟩) := by rw [obWait, if_neg (by rw [hn]; simp), if_pos (by rw [O4.ob, obHas4]; simp only [obF]; rw [hc1]; simp)]
    refine endR ?_
    refine Xc true (fun _ => ?_) (fun h => by cases h)
    refine Xq (Xg 2 (Xe [(0,vq k 2), (1,vi id), (2,vi n), (8,vi 1), (6,.bool false), (7,vi 20)] ?_ 2))
    refine Xv (blockV (thenV (thenV (blockV (thenV (Y0 (.tuple #[.bool false, vi 20]) (fun w hs => ?_)))))))
    exact ⟨⟨⟨z0, z1, z2, z3⟩, by rw [e]⟩, by simp only [e], hs⟩
   | false =>
    refine endR ?_
    refine Xc false (fun h => by cases h) (fun _ => ?_)
    refine Xk (Xg 3 (Xe [(0,vq k 2), (1,vi id), (2,vi n), (8,vi (IntKind.i64.wrap (1 + 1)))] ?_ 3))
    rw [show IntKind.i64.wrap (1 + 1) = (1 + 1) by rw [w64 (by omega) (by omega)]]
    refine Xp [(0,vq k 2), (1,vi id), (2,vi n), (8,vi (1 + 1))] ?_
    exact againG (j - 1) 2 rfl rfl (by omega) ⟨by omega, by omega, fun h => g0 (by omega), fun _ => by first | exact hc1 | rfl, fun h => by omega, fun h => by omega⟩
  ·skip
   refine Xq (Xq (Xg 2 (Xe [(0,vq k 2), (1,vi id), (2,vi n), (8,vi 2), (13,.bool true)] ?_ 2)))
   refine Xc true (fun _ => ?_) (fun h => by cases h)
   refine Xk (Xq (Xb 1 (Xq (Xg 8 (Xr [(0,vq k 2), (1,vi id), (2,vi n), (8,vi 2), (17,vi 2), (19,vq k 6)] ?_ 4 4)))))
   refine Xs (yldS (Xj 51 (.tmp 19) (.tmp 17) k 6 4 2 1 50 2 20 Tryz.underlying51)) (fun _ => ?_) 3
   refine Xl [(0,vq k 2), (1,vi id), (2,vi n), (8,vi 2), (21,.slice z2.a z2.l.length z2.k), (22,vi id)] [(⟨k, 8, none⟩, .slice z2.a z2.l.length z2.k)] (hasC (ba 0) has0) ?_ 1 2
   refine Xs (Xa (some 23) (fun _ => .bool (z2.l.contains id)) (rkhas_walk _ ⟨z2.a, z2.k, z2.l⟩ (rowKRat 3 rfl) (by have := h2.2.2; simp only; omega) id)) (fun _ => ?_) 0
   cases hc2 : z2.l.contains id with
   | true =>
    have e : obWait (O4.ob ⟨z0, z1, z2, z3⟩) id n = ((false, 20), O4.ob ⟨z0, z1, z2, z3⟩) := by rw [obWait, if_neg (by rw [hn]; simp), if_pos (by rw [O4.ob, obHas4]; simp only [obF]; rw [hc2]; simp)]
    refine endR ?_
    refine Xc true (fun _ => ?_) (fun h => by cases h)
    refine Xq (Xg 2 (Xe [(0,vq k 2), (1,vi id), (2,vi n), (8,vi 2), (6,.bool false), (7,vi 20)] ?_ 2))
    refine Xv (blockV (thenV (thenV (blockV (thenV (Y0 (.tuple #[.bool false, vi 20]) (fun w hs => ?_)))))))
    exact ⟨⟨⟨z0, z1, z2, z3⟩, by rw [e]⟩, by simp only [e], hs⟩
   | false =>
    refine endR ?_
    refine Xc false (fun h => by cases h) (fun _ => ?_)
    refine Xk (Xg 3 (Xe [(0,vq k 2), (1,vi id), (2,vi n), (8,vi (IntKind.i64.wrap (2 + 1)))] ?_ 3))
    rw [show IntKind.i64.wrap (2 + 1) = (2 + 1) by rw [w64 (by omega) (by omega)]]
    refine Xp [(0,vq k 2), (1,vi id), (2,vi n), (8,vi (2 + 1))] ?_
    exact againG (j - 1) 3 rfl rfl (by omega) ⟨by omega, by omega, fun h => g0 (by omega), fun h => g1 (by omega), fun _ => by first | exact hc2 | rfl, fun h => by omega⟩
  ·skip
   refine Xq (Xq (Xg 2 (Xe [(0,vq k 2), (1,vi id), (2,vi n), (8,vi 3), (13,.bool true)] ?_ 2)))
   refine Xc true (fun _ => ?_) (fun h => by cases h)
   refine Xk (Xq (Xb 1 (Xq (Xg 8 (Xr [(0,vq k 2), (1,vi id), (2,vi n), (8,vi 3), (17,vi 3), (19,vq k 6)] ?_ 4 4)))))
   refine Xs (yldS (Xj 51 (.tmp 19) (.tmp 17) k 6 4 3 1 50 3 20 Tryz.underlying51)) (fun _ => ?_) 3
   refine Xl [(0,vq k 2), (1,vi id), (2,vi n), (8,vi 3), (21,.slice z3.a z3.l.length z3.k), (22,vi id)] [(⟨k, 9, none⟩, .slice z3.a z3.l.length z3.k)] (hasC (ba 0) has0) ?_ 1 2
   refine Xs (Xa (some 23) (fun _ => .bool (z3.l.contains id)) (rkhas_walk _ ⟨z3.a, z3.k, z3.l⟩ (rowKRat 4 rfl) (by have := h3.2.2; simp only; omega) id)) (fun _ => ?_) 0
   cases hc3 : z3.l.contains id with
   | true =>
    have e : obWait (O4.ob ⟨z0, z1, z2, z3⟩) id n = ((false, 20), O4.ob ⟨z0, z1, z2, z3⟩) := by rw [obWait, if_neg (by rw [hn]; simp), if_pos (by rw [O4.ob, obHas4]; simp only [obF]; rw [hc3]; simp)]
    refine endR ?_
    refine Xc true (fun _ => ?_) (fun h => by cases h)
    refine Xq (Xg 2 (Xe [(0,vq k 2), (1,vi id), (2,vi n), (8,vi 3), (6,.bool false), (7,vi 20)] ?_ 2))
    refine Xv (blockV (thenV (thenV (blockV (thenV (Y0 (.tuple #[.bool false, vi 20]) (fun w hs => ?_)))))))
    exact ⟨⟨⟨z0, z1, z2, z3⟩, by rw [e]⟩, by simp only [e], hs⟩
   | false =>
    refine endR ?_
    refine Xc false (fun h => by cases h) (fun _ => ?_)
    refine Xk (Xg 3 (Xe [(0,vq k 2), (1,vi id), (2,vi n), (8,vi (IntKind.i64.wrap (3 + 1)))] ?_ 3))
    rw [show IntKind.i64.wrap (3 + 1) = (3 + 1) by rw [w64 (by omega) (by omega)]]
    refine Xp [(0,vq k 2), (1,vi id), (2,vi n), (8,vi (3 + 1))] ?_
    exact againG (j - 1) 4 rfl rfl (by omega) ⟨by omega, by omega, fun h => g0 (by omega), fun h => g1 (by omega), fun h => g2 (by omega), fun _ => by first | exact hc3 | rfl⟩
  ·skip
   refine Xq (Xq (Xg 2 (Xe [(0,vq k 2), (1,vi id), (2,vi n), (8,vi 4), (13,.bool false)] ?_ 2)))
   refine Xc false (fun h => by cases h) (fun _ => ?_)
   refine Xx 0 (thenX (thenX (leaveR (Xq (Xq (Xg 7 (Xr [(0,vq k 2), (1,vi id), (2,vi n), (25,vi n), (27,vq k 2)] ?_ 3 4)))))))
   have ho : obHas (O4.ob ⟨z0, z1, z2, z3⟩) id = false := by rw [O4.ob, obHas4]; simp only [obF]; rw [g0 (by omega), g1 (by omega), g2 (by omega), g3 (by omega)]; rfl
   have hn4 : n = 0 ∨ n = 1 ∨ n = 2 ∨ n = 3 := by simp [isOb] at hn; omega
   clear g0 g1 g2 g3
   rcases hn4 with rfl | rfl | rfl | rfl
   ·skip
    refine Xs (yldS (Xj 49 (.tmp 27) (.tmp 25) k 2 4 0 1 3 0 28 Tryz.underlying49)) (fun _ => ?_) 2
    refine Xm [(0,vq k 2), (1,vi id), (2,vi 0), (30,.bool (decide (z0.c > 0)))] [(⟨k, 2, none⟩, vi z0.c)] (hasC (ba 0) has0) ?_ 2
    refine Xc (decide (z0.c > 0)) (fun hp => ?_) (fun hp => ?_)
    ·skip
     have hp' := of_decide_eq_true hp
     have e : obWait (O4.ob ⟨z0, z1, z2, z3⟩) id 0 = ((true, 0), O4.ob ⟨⟨z0.c - 1, z0.a, z0.k, z0.l⟩, z1, z2, z3⟩) := by rw [obWait, if_neg (by rw [hn]; simp), if_neg (by rw [ho]; simp), if_pos (show (obAt (O4.ob ⟨z0, z1, z2, z3⟩) 0).1 > 0 from hp')]; rfl
     refine Xq (Xy0 0 [12] 13 ?_)
     refine Xt [0, 1, 2, 3, 4, 5, 9, 10] [(0,vq k 2), (1,vi id), (2,vi 0), (32,vi 0), (34,vi 0), (36,vq k 2), (41,vq k 2)] [] has0 ?_
     refine Xu 6 (Xj 49 (.tmp 36) (.tmp 34) k 2 4 0 1 3 0 37 Tryz.underlying49) ?_
     refine Xt [7, 8] [(0,vq k 2), (1,vi id), (2,vi 0), (32,vi 0), (41,vq k 2), (39,vi (IntKind.i64.wrap (z0.c - 1)))] [(⟨k, 2, none⟩, vi z0.c)] (hasC (ba 0) has0) ?_
     refine Xu 11 (Xj 49 (.tmp 41) (.tmp 32) k 2 4 0 1 3 0 42 Tryz.underlying49) ?_
     refine Xo 12 (Xz [(2,vi (IntKind.i64.wrap (z0.c - 1)))]) (fun _ => ?_)
     refine Xd (Xq (Xg 2 (Xe [(0,vq k 2), (1,vi id), (2,vi 0), (6,.bool true), (7,vi 0)] ?_ 2)))
     refine Xv (thenV ?_)
     rw [show IntKind.i64.wrap (z0.c - 1) = (z0.c - 1) by rw [w64 (by omega) (by omega)]]
     refine Y0 (.tuple #[.bool true, vi 0]) (fun w hs => ?_)
     exact ⟨⟨⟨⟨z0.c - 1, z0.a, z0.k, z0.l⟩, z1, z2, z3⟩, by rw [e]⟩, by simp only [e], hs⟩
    ·skip
     have hp' := of_decide_eq_false hp
     have e : obWait (O4.ob ⟨z0, z1, z2, z3⟩) id 0 = ((false, 0), O4.ob ⟨⟨z0.c, z0.a, z0.k, z0.l ++ [id]⟩, z1, z2, z3⟩) := by rw [obWait, if_neg (by rw [hn]; simp), if_neg (by rw [ho]; simp), if_neg (show ¬ (obAt (O4.ob ⟨z0, z1, z2, z3⟩) 0).1 > 0 from hp')]; rfl
     refine PT.rowNil (kE .i64) 3 ?_
     refine Xk (Xq (Xy0 1 [15] 16 ?_))
     refine Xt [0, 1, 2, 3, 4, 5, 9, 12, 13] [(44,vi 0), (46,vi 0), (48,vq k 6), (52,vi id), (56,vq k 6)] [] has0 ?_
     refine Xu 6 (Xj 51 (.tmp 48) (.tmp 46) k 6 4 0 1 50 0 49 Tryz.underlying51) ?_
     refine Xt [7] [(44,vi 0), (52,vi id), (56,vq k 6), (50,.slice z0.a z0.l.length z0.k)] [(⟨k, 6, none⟩, .slice z0.a z0.l.length z0.k)] (hasC (ba 0) has0) ?_
     refine Xw 8 10 ?_ ?_
     ·skip
      refine Xh 8 (Xf (E := (kE .i64)) 50 (.const (.slice none 0 0)) (.tmp 50) none 0 [] z0.l (.slice z0.a z0.l.length z0.k) 51 Tryz.underlying50 (kI_ety8) (rowKRat 2 rfl) (by simp; omega)) (fun r1 => ?_)
      refine Xo 10 (Xn 3 [vi id] (some 53) (fun b => .slice (some ⟨b, 0, none⟩) 1 1)) (fun b2 => ?_)
      refine DT.pick 1 rfl ?_
      refine Xo 11 (Xf (E := (kE .i64)) 50 (.tmp 51) (.tmp 53) r1.1 r1.2 ([] ++ z0.l) [id] (.slice (some ⟨b2, 0, none⟩) 1 1) 54 Tryz.underlying50 (kI_ety8) (blkRd (x := id) 1 rfl) (by simp; omega)) (fun r3 => ?_)
      refine Xu 14 (Xj 51 (.tmp 56) (.tmp 44) k 6 4 0 1 50 0 57 Tryz.underlying51) ?_
      refine DT.pick 2 rfl ?_
      refine Xo 15 (Xz [(6,.slice r3.1 ((([] ++ z0.l) ++ [id]).length) r3.2)]) (fun _ => ?_)
      refine Xd (Xq (Xg 2 (Xe [(6,.bool false), (7,vi 0)] ?_ 2)))
      refine Xv ?_
      rw [show (([] ++ z0.l) ++ [id]) = (z0.l ++ [id]) by rfl]
      refine PT.pick 3 rfl ?_
      refine PT.drop ?_
      refine PT.pick 2 rfl ?_
      refine PT.drop ?_
      refine PT.pick 4 rfl ?_
      refine PT.pick 4 rfl ?_
      refine PT.pick 4 rfl ?_
      refine PT.pick 4 rfl ?_
      refine PT.pick 4 rfl ?_
      refine Y0 (.tuple #[.bool false, vi 0]) (fun w hs => ?_)
      exact ⟨⟨⟨⟨z0.c, r3.1, r3.2, z0.l ++ [id]⟩, z1, z2, z3⟩, by rw [e]; rfl⟩, by simp only [e], hs⟩
     ·skip
      refine Xh 10 (Xn 3 [vi id] (some 53) (fun b => .slice (some ⟨b, 0, none⟩) 1 1)) (fun b1 => ?_)
      refine DT.pick 1 rfl ?_
      refine Xo 8 (Xf (E := (kE .i64)) 50 (.const (.slice none 0 0)) (.tmp 50) none 0 [] z0.l (.slice z0.a z0.l.length z0.k) 51 Tryz.underlying50 (kI_ety8) (rowKRat 3 rfl) (by simp; omega)) (fun r2 => ?_)
      refine Xo 11 (Xf (E := (kE .i64)) 50 (.tmp 51) (.tmp 53) r2.1 r2.2 ([] ++ z0.l) [id] (.slice (some ⟨b1, 0, none⟩) 1 1) 54 Tryz.underlying50 (kI_ety8) (blkRd (x := id) 1 rfl) (by simp; omega)) (fun r3 => ?_)
      refine Xu 14 (Xj 51 (.tmp 56) (.tmp 44) k 6 4 0 1 50 0 57 Tryz.underlying51) ?_
      refine DT.pick 2 rfl ?_
      refine Xo 15 (Xz [(6,.slice r3.1 ((([] ++ z0.l) ++ [id]).length) r3.2)]) (fun _ => ?_)
      refine Xd (Xq (Xg 2 (Xe [(6,.bool false), (7,vi 0)] ?_ 2)))
      refine Xv ?_
      rw [show (([] ++ z0.l) ++ [id]) = (z0.l ++ [id]) by rfl]
      refine PT.pick 3 rfl ?_
      refine PT.drop ?_
      refine PT.pick 2 rfl ?_
      refine PT.drop ?_
      refine PT.pick 4 rfl ?_
      refine PT.pick 4 rfl ?_
      refine PT.pick 4 rfl ?_
      refine PT.pick 4 rfl ?_
      refine PT.pick 4 rfl ?_
      refine Y0 (.tuple #[.bool false, vi 0]) (fun w hs => ?_)
      exact ⟨⟨⟨⟨z0.c, r3.1, r3.2, z0.l ++ [id]⟩, z1, z2, z3⟩, by rw [e]; rfl⟩, by simp only [e], hs⟩
   ·skip
    refine Xs (yldS (Xj 49 (.tmp 27) (.tmp 25) k 2 4 1 1 3 1 28 Tryz.underlying49)) (fun _ => ?_) 2
    refine Xm [(0,vq k 2), (1,vi id), (2,vi 1), (30,.bool (decide (z1.c > 0)))] [(⟨k, 3, none⟩, vi z1.c)] (hasC (ba 0) has0) ?_ 2
    refine Xc (decide (z1.c > 0)) (fun hp => ?_) (fun hp => ?_)
    ·skip
     have hp' := of_decide_eq_true hp
     have e : obWait (O4.ob ⟨z0, z1, z2, z3⟩) id 1 = ((true, 0), O4.ob ⟨z0, ⟨z1.c - 1, z1.a, z1.k, z1.l⟩, z2, z3⟩) := by rw [obWait, if_neg (by rw [hn]; simp), if_neg (by rw [ho]; simp), if_pos (show (obAt (O4.ob ⟨z0, z1, z2, z3⟩) 1).1 > 0 from hp')]; rfl
     refine Xq (Xy0 0 [12] 13 ?_)
     refine Xt [0, 1, 2, 3, 4, 5, 9, 10] [(0,vq k 2), (1,vi id), (2,vi 1), (32,vi 1), (34,vi 1), (36,vq k 2), (41,vq k 2)] [] has0 ?_
     refine Xu 6 (Xj 49 (.tmp 36) (.tmp 34) k 2 4 1 1 3 1 37 Tryz.underlying49) ?_
     refine Xt [7, 8] [(0,vq k 2), (1,vi id), (2,vi 1), (32,vi 1), (41,vq k 2), (39,vi (IntKind.i64.wrap (z1.c - 1)))] [(⟨k, 3, none⟩, vi z1.c)] (hasC (ba 0) has0) ?_
     refine Xu 11 (Xj 49 (.tmp 41) (.tmp 32) k 2 4 1 1 3 1 42 Tryz.underlying49) ?_
     refine Xo 12 (Xz [(3,vi (IntKind.i64.wrap (z1.c - 1)))]) (fun _ => ?_)
     refine Xd (Xq (Xg 2 (Xe [(0,vq k 2), (1,vi id), (2,vi 1), (6,.bool true), (7,vi 0)] ?_ 2)))
     refine Xv (thenV ?_)
     rw [show IntKind.i64.wrap (z1.c - 1) = (z1.c - 1) by rw [w64 (by omega) (by omega)]]
     refine Y0 (.tuple #[.bool true, vi 0]) (fun w hs => ?_)
     exact ⟨⟨⟨z0, ⟨z1.c - 1, z1.a, z1.k, z1.l⟩, z2, z3⟩, by rw [e]⟩, by simp only [e], hs⟩
    ·skip
     have hp' := of_decide_eq_false hp
     have e : obWait (O4.ob ⟨z0, z1, z2, z3⟩) id 1 = ((false, 0), O4.ob ⟨z0, ⟨z1.c, z1.a, z1.k, z1.l ++ [id]⟩, z2, z3⟩) := by rw [obWait, if_neg (by rw [hn]; simp), if_neg (by rw [ho]; simp), if_neg (show ¬ (obAt (O4.ob ⟨z0, z1, z2, z3⟩) 1).1 > 0 from hp')]; rfl
     refine PT.rowNil (kE .i64) 3 ?_
     refine Xk (Xq (Xy0 1 [15] 16 ?_))
     refine Xt [0, 1, 2, 3, 4, 5, 9, 12, 13] [(44,vi 1), (46,vi 1), (48,vq k 6), (52,vi id), (56,vq k 6)] [] has0 ?_
     refine Xu 6 (Xj 51 (.tmp 48) (.tmp 46) k 6 4 1 1 50 1 49 Tryz.underlying51) ?_
     refine Xt [7] [(44,vi 1), (52,vi id), (56,vq k 6), (50,.slice z1.a z1.l.length z1.k)] [(⟨k, 7, none⟩, .slice z1.a z1.l.length z1.k)] (hasC (ba 0) has0) ?_
     refine Xw 8 10 ?_ ?_
     ·skip
      refine Xh 8 (Xf (E := (kE .i64)) 50 (.const (.slice none 0 0)) (.tmp 50) none 0 [] z1.l (.slice z1.a z1.l.length z1.k) 51 Tryz.underlying50 (kI_ety8) (rowKRat 3 rfl) (by simp; omega)) (fun r1 => ?_)
      refine Xo 10 (Xn 3 [vi id] (some 53) (fun b => .slice (some ⟨b, 0, none⟩) 1 1)) (fun b2 => ?_)
      refine DT.pick 1 rfl ?_
      refine Xo 11 (Xf (E := (kE .i64)) 50 (.tmp 51) (.tmp 53) r1.1 r1.2 ([] ++ z1.l) [id] (.slice (some ⟨b2, 0, none⟩) 1 1) 54 Tryz.underlying50 (kI_ety8) (blkRd (x := id) 1 rfl) (by simp; omega)) (fun r3 => ?_)
      refine Xu 14 (Xj 51 (.tmp 56) (.tmp 44) k 6 4 1 1 50 1 57 Tryz.underlying51) ?_
      refine DT.pick 2 rfl ?_
      refine Xo 15 (Xz [(7,.slice r3.1 ((([] ++ z1.l) ++ [id]).length) r3.2)]) (fun _ => ?_)
      refine Xd (Xq (Xg 2 (Xe [(6,.bool false), (7,vi 0)] ?_ 2)))
      refine Xv ?_
      rw [show (([] ++ z1.l) ++ [id]) = (z1.l ++ [id]) by rfl]
      refine PT.pick 4 rfl ?_
      refine PT.drop ?_
      refine PT.pick 2 rfl ?_
      refine PT.drop ?_
      refine PT.pick 4 rfl ?_
      refine PT.pick 4 rfl ?_
      refine PT.pick 3 rfl ?_
      refine PT.pick 4 rfl ?_
      refine PT.pick 4 rfl ?_
      refine Y0 (.tuple #[.bool false, vi 0]) (fun w hs => ?_)
      exact ⟨⟨⟨z0, ⟨z1.c, r3.1, r3.2, z1.l ++ [id]⟩, z2, z3⟩, by rw [e]; rfl⟩, by simp only [e], hs⟩
     ·skip
      refine Xh 10 (Xn 3 [vi id] (some 53) (fun b => .slice (some ⟨b, 0, none⟩) 1 1)) (fun b1 => ?_)
      refine DT.pick 1 rfl ?_
      refine Xo 8 (Xf (E := (kE .i64)) 50 (.const (.slice none 0 0)) (.tmp 50) none 0 [] z1.l (.slice z1.a z1.l.length z1.k) 51 Tryz.underlying50 (kI_ety8) (rowKRat 4 rfl) (by simp; omega)) (fun r2 => ?_)
      refine Xo 11 (Xf (E := (kE .i64)) 50 (.tmp 51) (.tmp 53) r2.1 r2.2 ([] ++ z1.l) [id] (.slice (some ⟨b1, 0, none⟩) 1 1) 54 Tryz.underlying50 (kI_ety8) (blkRd (x := id) 1 rfl) (by simp; omega)) (fun r3 => ?_)
      refine Xu 14 (Xj 51 (.tmp 56) (.tmp 44) k 6 4 1 1 50 1 57 Tryz.underlying51) ?_
      refine DT.pick 2 rfl ?_
      refine Xo 15 (Xz [(7,.slice r3.1 ((([] ++ z1.l) ++ [id]).length) r3.2)]) (fun _ => ?_)
      refine Xd (Xq (Xg 2 (Xe [(6,.bool false), (7,vi 0)] ?_ 2)))
      refine Xv ?_
      rw [show (([] ++ z1.l) ++ [id]) = (z1.l ++ [id]) by rfl]
      refine PT.pick 4 rfl ?_
      refine PT.drop ?_
      refine PT.pick 2 rfl ?_
      refine PT.drop ?_
      refine PT.pick 4 rfl ?_
      refine PT.pick 4 rfl ?_
      refine PT.pick 3 rfl ?_
      refine PT.pick 4 rfl ?_
      refine PT.pick 4 rfl ?_
      refine Y0 (.tuple #[.bool false, vi 0]) (fun w hs => ?_)
      exact ⟨⟨⟨z0, ⟨z1.c, r3.1, r3.2, z1.l ++ [id]⟩, z2, z3⟩, by rw [e]; rfl⟩, by simp only [e], hs⟩
   ·skip
    refine Xs (yldS (Xj 49 (.tmp 27) (.tmp 25) k 2 4 2 1 3 2 28 Tryz.underlying49)) (fun _ => ?_) 2
    refine Xm [(0,vq k 2), (1,vi id), (2,vi 2), (30,.bool (decide (z2.c > 0)))] [(⟨k, 4, none⟩, vi z2.c)] (hasC (ba 0) has0) ?_ 2
    refine Xc (decide (z2.c > 0)) (fun hp => ?_) (fun hp => ?_)
    ·skip
     have hp' := of_decide_eq_true hp
     have e : obWait (O4.ob ⟨z0, z1, z2, z3⟩) id 2 = ((true, 0), O4.ob ⟨z0, z1, ⟨z2.c - 1, z2.a, z2.k, z2.l⟩, z3⟩) := by rw [obWait, if_neg (by rw [hn]; simp), if_neg (by rw [ho]; simp), if_pos (show (obAt (O4.ob ⟨z0, z1, z2, z3⟩) 2).1 > 0 from hp')]; rfl
     refine Xq (Xy0 0 [12] 13 ?_)
     refine Xt [0, 1, 2, 3, 4, 5, 9, 10] [(0,vq k 2), (1,vi id), (2,vi 2), (32,vi 2), (34,vi 2), (36,vq k 2), (41,vq k 2)] [] has0 ?_
     refine Xu 6 (Xj 49 (.tmp 36) (.tmp 34) k 2 4 2 1 3 2 37 Tryz.underlying49) ?_
     refine Xt [7, 8] [(0,vq k 2), (1,vi id), (2,vi 2), (32,vi 2), (41,vq k 2), (39,vi (IntKind.i64.wrap (z2.c - 1)))] [(⟨k, 4, none⟩, vi z2.c)] (hasC (ba 0) has0) ?_
     refine Xu 11 (Xj 49 (.tmp 41) (.tmp 32) k 2 4 2 1 3 2 42 Tryz.underlying49) ?_
     refine Xo 12 (Xz [(4,vi (IntKind.i64.wrap (z2.c - 1)))]) (fun _ => ?_)
     refine Xd (Xq (Xg 2 (Xe [(0,vq k 2), (1,vi id), (2,vi 2), (6,.bool true), (7,vi 0)] ?_ 2)))
     refine Xv (thenV ?_)
     rw [show IntKind.i64.wrap (z2.c - 1) = (z2.c - 1) by rw [w64 (by omega) (by omega)]]
     refine Y0 (.tuple #[.bool true, vi 0]) (fun w hs => ?_)
     exact ⟨⟨⟨z0, z1, ⟨z2.c - 1, z2.a, z2.k, z2.l⟩, z3⟩, by rw [e]⟩, by simp only [e], hs⟩
    ·skip
     have hp' := of_decide_eq_false hp
     have e : obWait (O4.ob ⟨z0, z1, z2, z3⟩) id 2 = ((false, 0), O4.ob ⟨z0, z1, ⟨z2.c, z2.a, z2.k, z2.l ++ [id]⟩, z3⟩) := by rw [obWait, if_neg (by rw [hn]; simp), if_neg (by rw [ho]; simp), if_neg (show ¬ (obAt (O4.ob ⟨z0, z1, z2, z3⟩) 2).1 > 0 from hp')]; rfl
     refine PT.rowNil (kE .i64) 3 ?_
     refine Xk (Xq (Xy0 1 [15] 16 ?_))
     refine Xt [0, 1, 2, 3, 4, 5, 9, 12, 13] [(44,vi 2), (46,vi 2), (48,vq k 6), (52,vi id), (56,vq k 6)] [] has0 ?_
     refine Xu 6 (Xj 51 (.tmp 48) (.tmp 46) k 6 4 2 1 50 2 49 Tryz.underlying51) ?_
     refine Xt [7] [(44,vi 2), (52,vi id), (56,vq k 6), (50,.slice z2.a z2.l.length z2.k)] [(⟨k, 8, none⟩, .slice z2.a z2.l.length z2.k)] (hasC (ba 0) has0) ?_
     refine Xw 8 10 ?_ ?_
     ·skip
      refine Xh 8 (Xf (E := (kE .i64)) 50 (.const (.slice none 0 0)) (.tmp 50) none 0 [] z2.l (.slice z2.a z2.l.length z2.k) 51 Tryz.underlying50 (kI_ety8) (rowKRat 4 rfl) (by simp; omega)) (fun r1 => ?_)
      refine Xo 10 (Xn 3 [vi id] (some 53) (fun b => .slice (some ⟨b, 0, none⟩) 1 1)) (fun b2 => ?_)
      refine DT.pick 1 rfl ?_
      refine Xo 11 (Xf (E := (kE .i64)) 50 (.tmp 51) (.tmp 53) r1.1 r1.2 ([] ++ z2.l) [id] (.slice (some ⟨b2, 0, none⟩) 1 1) 54 Tryz.underlying50 (kI_ety8) (blkRd (x := id) 1 rfl) (by simp; omega)) (fun r3 => ?_)
      refine Xu 14 (Xj 51 (.tmp 56) (.tmp 44) k 6 4 2 1 50 2 57 Tryz.underlying51) ?_
      refine DT.pick 2 rfl ?_
      refine Xo 15 (Xz [(8,.slice r3.1 ((([] ++ z2.l) ++ [id]).length) r3.2)]) (fun _ => ?_)
      refine Xd (Xq (Xg 2 (Xe [(6,.bool false), (7,vi 0)] ?_ 2)))
      refine Xv ?_
      rw [show (([] ++ z2.l) ++ [id]) = (z2.l ++ [id]) by rfl]
      refine PT.pick 5 rfl ?_
      refine PT.drop ?_
      refine PT.pick 2 rfl ?_
      refine PT.drop ?_
      refine PT.pick 4 rfl ?_
      refine PT.pick 2 rfl ?_
      refine PT.pick 4 rfl ?_
      refine PT.pick 4 rfl ?_
      refine PT.pick 4 rfl ?_
      refine Y0 (.tuple #[.bool false, vi 0]) (fun w hs => ?_)
      exact ⟨⟨⟨z0, z1, ⟨z2.c, r3.1, r3.2, z2.l ++ [id]⟩, z3⟩, by rw [e]; rfl⟩, by simp only [e], hs⟩
     ·skip
      refine Xh 10 (Xn 3 [vi id] (some 53) (fun b => .slice (some ⟨b, 0, none⟩) 1 1)) (fun b1 => ?_)
      refine DT.pick 1 rfl ?_
      refine Xo 8 (Xf (E := (kE .i64)) 50 (.const (.slice none 0 0)) (.tmp 50) none 0 [] z2.l (.slice z2.a z2.l.length z2.k) 51 Tryz.underlying50 (kI_ety8) (rowKRat 5 rfl) (by simp; omega)) (fun r2 => ?_)
      refine Xo 11 (Xf (E := (kE .i64)) 50 (.tmp 51) (.tmp 53) r2.1 r2.2 ([] ++ z2.l) [id] (.slice (some ⟨b1, 0, none⟩) 1 1) 54 Tryz.underlying50 (kI_ety8) (blkRd (x := id) 1 rfl) (by simp; omega)) (fun r3 => ?_)
      refine Xu 14 (Xj 51 (.tmp 56) (.tmp 44) k 6 4 2 1 50 2 57 Tryz.underlying51) ?_
      refine DT.pick 2 rfl ?_
      refine Xo 15 (Xz [(8,.slice r3.1 ((([] ++ z2.l) ++ [id]).length) r3.2)]) (fun _ => ?_)
      refine Xd (Xq (Xg 2 (Xe [(6,.bool false), (7,vi 0)] ?_ 2)))
      refine Xv ?_
      rw [show (([] ++ z2.l) ++ [id]) = (z2.l ++ [id]) by rfl]
      refine PT.pick 5 rfl ?_
      refine PT.drop ?_
      refine PT.pick 2 rfl ?_
      refine PT.drop ?_
      refine PT.pick 4 rfl ?_
      refine PT.pick 2 rfl ?_
      refine PT.pick 4 rfl ?_
      refine PT.pick 4 rfl ?_
      refine PT.pick 4 rfl ?_
      refine Y0 (.tuple #[.bool false, vi 0]) (fun w hs => ?_)
      exact ⟨⟨⟨z0, z1, ⟨z2.c, r3.1, r3.2, z2.l ++ [id]⟩, z3⟩, by rw [e]; rfl⟩, by simp only [e], hs⟩
   ·skip
    refine Xs (yldS (Xj 49 (.tmp 27) (.tmp 25) k 2 4 3 1 3 3 28 Tryz.underlying49)) (fun _ => ?_) 2
    refine Xm [(0,vq k 2), (1,vi id), (2,vi 3), (30,.bool (decide (z3.c > 0)))] [(⟨k, 5, none⟩, vi z3.c)] (hasC (ba 0) has0) ?_ 2
    refine Xc (decide (z3.c > 0)) (fun hp => ?_) (fun hp => ?_)
    ·skip
     have hp' := of_decide_eq_true hp
     have e : obWait (O4.ob ⟨z0, z1, z2, z3⟩) id 3 = ((true, 0), O4.ob ⟨z0, z1, z2, ⟨z3.c - 1, z3.a, z3.k, z3.l⟩⟩) := by rw [obWait, if_neg (by rw [hn]; simp), if_neg (by rw [ho]; simp), if_pos (show (obAt (O4.ob ⟨z0, z1, z2, z3⟩) 3).1 > 0 from hp')]; rfl
     refine Xq (Xy0 0 [12] 13 ?_)
     refine Xt [0, 1, 2, 3, 4, 5, 9, 10] [(0,vq k 2), (1,vi id), (2,vi 3), (32,vi 3), (34,vi 3), (36,vq k 2), (41,vq k 2)] [] has0 ?_
     refine Xu 6 (Xj 49 (.tmp 36) (.tmp 34) k 2 4 3 1 3 3 37 Tryz.underlying49) ?_
     refine Xt [7, 8] [(0,vq k 2), (1,vi id), (2,vi 3), (32,vi 3), (41,vq k 2), (39,vi (IntKind.i64.wrap (z3.c - 1)))] [(⟨k, 5, none⟩, vi z3.c)] (hasC (ba 0) has0) ?_
     refine Xu 11 (Xj 49 (.tmp 41) (.tmp 32) k 2 4 3 1 3 3 42 Tryz.underlying49) ?_
     refine Xo 12 (Xz [(5,vi (IntKind.i64.wrap (z3.c - 1)))]) (fun _ => ?_)
     refine Xd (Xq (Xg 2 (Xe [(0,vq k 2), (1,vi id), (2,vi 3), (6,.bool true), (7,vi 0)] ?_ 2)))
     refine Xv (thenV ?_)
     rw [show IntKind.i64.wrap (z3.c - 1) = (z3.c - 1) by rw [w64 (by omega) (by omega)]]
     refine Y0 (.tuple #[.bool true, vi 0]) (fun w hs => ?_)
     exact ⟨⟨⟨z0, z1, z2, ⟨z3.c - 1, z3.a, z3.k, z3.l⟩⟩, by rw [e]⟩, by simp only [e], hs⟩
    ·skip
     have hp' := of_decide_eq_false hp
     have e : obWait (O4.ob ⟨z0, z1, z2, z3⟩) id 3 = ((false, 0), O4.ob ⟨z0, z1, z2, ⟨z3.c, z3.a, z3.k, z3.l ++ [id]⟩⟩) := by rw [obWait, if_neg (by rw [hn]; simp), if_neg (by rw [ho]; simp), if_neg (show ¬ (obAt (O4.ob ⟨z0, z1, z2, z3⟩) 3).1 > 0 from hp')]; rfl
     refine PT.rowNil (kE .i64) 3 ?_
     refine Xk (Xq (Xy0 1 [15] 16 ?_))
     refine Xt [0, 1, 2, 3, 4, 5, 9, 12, 13] [(44,vi 3), (46,vi 3), (48,vq k 6), (52,vi id), (56,vq k 6)] [] has0 ?_
     refine Xu 6 (Xj 51 (.tmp 48) (.tmp 46) k 6 4 3 1 50 3 49 Tryz.underlying51) ?_
     refine Xt [7] [(44,vi 3), (52,vi id), (56,vq k 6), (50,.slice z3.a z3.l.length z3.k)] [(⟨k, 9, none⟩, .slice z3.a z3.l.length z3.k)] (hasC (ba 0) has0) ?_
     refine Xw 8 10 ?_ ?_
     ·skip
      refine Xh 8 (Xf (E := (kE .i64)) 50 (.const (.slice none 0 0)) (.tmp 50) none 0 [] z3.l (.slice z3.a z3.l.length z3.k) 51 Tryz.underlying50 (kI_ety8) (rowKRat 5 rfl) (by simp; omega)) (fun r1 => ?_)
      refine Xo 10 (Xn 3 [vi id] (some 53) (fun b => .slice (some ⟨b, 0, none⟩) 1 1)) (fun b2 => ?_)
      refine DT.pick 1 rfl ?_
      refine Xo 11 (Xf (E := (kE .i64)) 50 (.tmp 51) (.tmp 53) r1.1 r1.2 ([] ++ z3.l) [id] (.slice (some ⟨b2, 0, none⟩) 1 1) 54 Tryz.underlying50 (kI_ety8) (blkRd (x := id) 1 rfl) (by simp; omega)) (fun r3 => ?_)
      refine Xu 14 (Xj 51 (.tmp 56) (.tmp 44) k 6 4 3 1 50 3 57 Tryz.underlying51) ?_
      refine DT.pick 2 rfl ?_
      refine Xo 15 (Xz [(9,.slice r3.1 ((([] ++ z3.l) ++ [id]).length) r3.2)]) (fun _ => ?_)
      refine Xd (Xq (Xg 2 (Xe [(6,.bool false), (7,vi 0)] ?_ 2)))
      refine Xv ?_
      rw [show (([] ++ z3.l) ++ [id]) = (z3.l ++ [id]) by rfl]
      refine PT.pick 6 rfl ?_
      refine PT.drop ?_
      refine PT.pick 2 rfl ?_
      refine PT.drop ?_
      refine PT.pick 1 rfl ?_
      refine PT.pick 4 rfl ?_
      refine PT.pick 4 rfl ?_
      refine PT.pick 4 rfl ?_
      refine PT.pick 4 rfl ?_
      refine Y0 (.tuple #[.bool false, vi 0]) (fun w hs => ?_)
      exact ⟨⟨⟨z0, z1, z2, ⟨z3.c, r3.1, r3.2, z3.l ++ [id]⟩⟩, by rw [e]; rfl⟩, by simp only [e], hs⟩
     ·skip
      refine Xh 10 (Xn 3 [vi id] (some 53) (fun b => .slice (some ⟨b, 0, none⟩) 1 1)) (fun b1 => ?_)
      refine DT.pick 1 rfl ?_
      refine Xo 8 (Xf (E := (kE .i64)) 50 (.const (.slice none 0 0)) (.tmp 50) none 0 [] z3.l (.slice z3.a z3.l.length z3.k) 51 Tryz.underlying50 (kI_ety8) (rowKRat 6 rfl) (by simp; omega)) (fun r2 => ?_)
      refine Xo 11 (Xf (E := (kE .i64)) 50 (.tmp 51) (.tmp 53) r2.1 r2.2 ([] ++ z3.l) [id] (.slice (some ⟨b1, 0, none⟩) 1 1) 54 Tryz.underlying50 (kI_ety8) (blkRd (x := id) 1 rfl) (by simp; omega)) (fun r3 => ?_)
      refine Xu 14 (Xj 51 (.tmp 56) (.tmp 44) k 6 4 3 1 50 3 57 Tryz.underlying51) ?_
      refine DT.pick 2 rfl ?_
      refine Xo 15 (Xz [(9,.slice r3.1 ((([] ++ z3.l) ++ [id]).length) r3.2)]) (fun _ => ?_)
      refine Xd (Xq (Xg 2 (Xe [(6,.bool false), (7,vi 0)] ?_ 2)))
      refine Xv ?_
      rw [show (([] ++ z3.l) ++ [id]) = (z3.l ++ [id]) by rfl]
      refine PT.pick 6 rfl ?_
      refine PT.drop ?_
      refine PT.pick 2 rfl ?_
      refine PT.drop ?_
      refine PT.pick 1 rfl ?_
      refine PT.pick 4 rfl ?_
      refine PT.pick 4 rfl ?_
      refine PT.pick 4 rfl ?_
      refine PT.pick 4 rfl ?_
      refine Y0 (.tuple #[.bool false, vi 0]) (fun w hs => ?_)
      exact ⟨⟨⟨z0, z1, z2, ⟨z3.c, r3.1, r3.2, z3.l ++ [id]⟩⟩, by rw [e]; rfl⟩, by simp only [e], hs⟩
end Go.Proofs.YtlhjibkkkhgonaaGreatDoor
set_option linter.unusedVariables false
set_option linter.unusedSimpArgs false
namespace Go.Proofs.YtlhjibkkkhgonaaGreatDoor
open Go.RowKit G
theorem Sat.cut1 {E : Enc Int} {T : TypeId} {A : Option Addr} {c : Nat} {xs : List Int} {H : List SP} {w : World} (hJ : 1 ≤ xs.length) (h : Sat w (row E T (.slice A xs.length c) xs :: H)) : Sat w (row E T (.slice (cutA A c 1 E.k) (xs.drop 1).length (c - 1)) (xs.drop 1) :: H) := by
 have := Sat.cut hJ h
 rw [List.length_drop]; exact this
theorem PT.cut1 {E : Enc Int} {T : TypeId} {A : Option Addr} {c : Nat} {xs : List Int} {H : List SP} {n : Nat} {L : List (Nat × Value)} {Φ : Act → World → Prop} (hJ : 1 ≤ xs.length) (h : PT n L (row E T (.slice (cutA A c 1 E.k) (xs.drop 1).length (c - 1)) (xs.drop 1) :: H) Φ) : PT n L (row E T (.slice A xs.length c) xs :: H) Φ :=
 PT.cut 1 hJ (by rw [List.length_drop] at h; exact h)
set_option maxHeartbeats 2000000 in
set_option maxRecDepth 100000 in
theorem rosig_walk (H : List SP) (k t c : Nat) (a : Option Addr) (l : List (Int × Int)) (Z : O4) (mt mg la : Int) (n : Int) (hc : ∀ o ∈ Z.ob, 0 ≤ o.1 ∧ o.1 ≤ 255 ∧ o.2.length ≤ 1000) : ∀ w, Sat w (blk k 55 [vp t, .slice a l.length c, vi Z.z0.c, vi Z.z1.c, vi Z.z2.c, vi Z.z3.c, .slice Z.z0.a Z.z0.l.length Z.z0.k, .slice Z.z1.a Z.z1.l.length Z.z1.k, .slice Z.z2.a Z.z2.l.length Z.z2.k, .slice Z.z3.a Z.z3.l.length Z.z3.k, vi mt, vi mg, vi la] :: row (kE .i64) 3 (.slice Z.z0.a Z.z0.l.length Z.z0.k) Z.z0.l :: row (kE .i64) 3 (.slice Z.z1.a Z.z1.l.length Z.z1.k) Z.z1.l :: row (kE .i64) 3 (.slice Z.z2.a Z.z2.l.length Z.z2.k) Z.z2.l :: row (kE .i64) 3 (.slice Z.z3.a Z.z3.l.length Z.z3.k) Z.z3.l :: H) → Calls Tryz.prog 62 #[vq k 2, vi n] w (Ret (ι := { Y : O4 // Y.ob = (obSig Z.ob n).2 }) (fun _ => .tuple #[vi (obSig Z.ob n).1.1, .bool (obSig Z.ob n).1.2.1, vi (obSig Z.ob n).1.2.2]) fun Y => blk k 55 [vp t, .slice a l.length c, vi Y.1.z0.c, vi Y.1.z1.c, vi Y.1.z2.c, vi Y.1.z3.c, .slice Y.1.z0.a Y.1.z0.l.length Y.1.z0.k, .slice Y.1.z1.a Y.1.z1.l.length Y.1.z1.k, .slice Y.1.z2.a Y.1.z2.l.length Y.1.z2.k, .slice Y.1.z3.a Y.1.z3.l.length Y.1.z3.k, vi mt, vi mg, vi la] :: row (kE .i64) 3 (.slice Y.1.z0.a Y.1.z0.l.length Y.1.z0.k) Y.1.z0.l :: row (kE .i64) 3 (.slice Y.1.z1.a Y.1.z1.l.length Y.1.z1.k) Y.1.z1.l :: row (kE .i64) 3 (.slice Y.1.z2.a Y.1.z2.l.length Y.1.z2.k) Y.1.z2.l :: row (kE .i64) 3 (.slice Y.1.z3.a Y.1.z3.l.length Y.1.z3.k) Y.1.z3.l :: H) := by
 obtain ⟨z0, z1, z2, z3⟩ := Z
 have h0 := hc (obF z0) (by simp [O4.ob])
 have h1 := hc (obF z1) (by simp [O4.ob])
 have h2 := hc (obF z2) (by simp [O4.ob])
 have h3 := hc (obF z3) (by simp [O4.ob])
 simp only [obF] at h0 h1 h2 h3
 refine enterG (fn := Tryz.f62) 53 [vq k 2, vi n] Tryz.func62 (by kernel_rfl) (by kernel_rfl) (by kernel_rfl) ?_
 refine Xq (Xg 3 (Xe [(0,vq k 2), (1,vi n), (4,vi 0), (5,.bool false), (6,vi 0)] ?_ 3))
 refine Xq (Xq (Xg 3 (Xr [(0,vq k 2), (1,vi n), (4,vi 0), (5,.bool false), (6,vi 0), (8,vi n)] ?_ 2 1)))
 refine Xs (Xa (some 9) (fun _ => .bool (isOb n)) (roobj_walk _ n)) (fun _ => ?_) 1
 cases hn : isOb n with
 | false =>
  refine Xe [(0,vq k 2), (1,vi n), (4,vi 0), (5,.bool false), (6,vi 0), (10,.bool true)] ?_ 1
  refine Xc true (fun _ => ?_) (fun h => by cases h)
  refine Xq (Xg 3 (Xe [(0,vq k 2), (1,vi n), (4,vi 0), (5,.bool false), (6,vi 10)] ?_ 3))
  refine Xv (thenV ?_)
  have e : obSig (O4.ob ⟨z0, z1, z2, z3⟩) n = ((0, false, 10), O4.ob ⟨z0, z1, z2, z3⟩) := by rw [obSig, if_pos hn]
  refine Y0 (.tuple #[vi 0, .bool false, vi 10]) (fun w hs => ?_)
  exact ⟨⟨⟨z0, z1, z2, z3⟩, by rw [e]⟩, by simp only [e], hs⟩
 | true =>
  have hn4 : n = 0 ∨ n = 1 ∨ n = 2 ∨ n = 3 := by simp [isOb] at hn; omega
  rcases hn4 with rfl | rfl | rfl | rfl
  ·skip
   refine Xe [(0,vq k 2), (1,vi 0), (4,vi 0), (5,.bool false), (6,vi 0), (10,.bool false)] ?_ 1
   refine Xc false (fun h => by cases h) (fun _ => ?_)
   refine Xk (Xq (Xq (Xg 8 (Xr [(0,vq k 2), (1,vi 0), (4,vi 0), (5,.bool false), (6,vi 0), (12,vi 0), (14,vq k 6)] ?_ 4 4))))
   refine Xs (yldS (Xj 51 (.tmp 14) (.tmp 12) k 6 4 0 1 50 0 15 Tryz.underlying51)) (fun _ => ?_) 3
   refine Xm [(0,vq k 2), (1,vi 0), (4,vi 0), (5,.bool false), (6,vi 0), (18,.bool (decide ((z0.l.length : Int) > 0)))] [(⟨k, 6, none⟩, .slice z0.a z0.l.length z0.k)] (hasC (ba 0) has0) ?_ 3
   refine Xc (decide ((z0.l.length : Int) > 0)) (fun hp => ?_) (fun hp => ?_)
   ·skip
    have hp' : 0 < z0.l.length := by have := of_decide_eq_true hp; omega
    obtain ⟨x, hx⟩ : ∃ x, z0.l[0]? = some x := ⟨_, List.getElem?_eq_getElem hp'⟩
    have hxl : z0.l = x :: z0.l.drop 1 := by have h := List.drop_eq_getElem_cons hp'; rw [List.drop_zero] at h; rw [(List.getElem?_eq_some_iff.1 hx).2] at h; exact h
    refine PT.know (KR.le (s := ⟨z0.a, z0.k, z0.l⟩) (rowKRat 1 rfl)) ?_
    rintro ⟨hcle, _⟩
    dsimp only at hcle
    refine PT.know (KR.isSome (s := ⟨z0.a, z0.k, z0.l⟩) (rowKRat 1 rfl) (List.ne_nil_of_length_pos hp')) ?_
    rintro ⟨sb, so, hA⟩
    dsimp only at hA
    rw [hA]
    refine Xq (Xg 9 (Xr [(0,vq k 2), (1,vi 0), (4,vi 0), (5,.bool false), (6,vi 0), (20,vi 0), (22,vq k 6)] ?_ 5 4))
    refine Xs (yldS (Xj 51 (.tmp 22) (.tmp 20) k 6 4 0 1 50 0 23 Tryz.underlying51)) (fun _ => ?_) 4
    refine Xl [(0,vq k 2), (1,vi 0), (4,vi 0), (5,.bool false), (6,vi 0), (24,.slice (some ⟨sb, so, none⟩) z0.l.length z0.k)] [(⟨k, 6, none⟩, .slice (some ⟨sb, so, none⟩) z0.l.length z0.k)] (hasC (ba 0) has0) ?_ 3 1
    refine Xs (yldS (Xi 50 (.tmp 24) (.const (.int .i64 0)) sb so z0.l.length z0.k 0 1 3 0 25 Tryz.underlying50)) (fun _ => ?_) 2
    refine Xm [(0,vq k 2), (1,vi 0), (4,vi 0), (5,.bool false), (6,vi 0), (7,vi x)] [(⟨sb, so + 0 * 1, none⟩, vi x)] (hasC (rowCell (E := kE .i64) (xs := z0.l) 1 rfl (J := 0) (x := x) hx (j := 0) rfl) has0) ?_ 2
    refine Xq (Xy0 0 [12] 13 ?_)
    refine Xt [0, 1, 2, 3, 4, 5, 9, 10] [(0,vq k 2), (1,vi 0), (4,vi 0), (5,.bool false), (6,vi 0), (7,vi x), (28,vi 0), (30,vi 0), (32,vq k 6), (37,vq k 6)] [] has0 ?_
    refine Xu 6 (Xj 51 (.tmp 32) (.tmp 30) k 6 4 0 1 50 0 33 Tryz.underlying51) ?_
    refine Xt [7] [(0,vq k 2), (1,vi 0), (4,vi 0), (5,.bool false), (6,vi 0), (7,vi x), (28,vi 0), (37,vq k 6), (34,.slice (some ⟨sb, so, none⟩) z0.l.length z0.k)] [(⟨k, 6, none⟩, .slice (some ⟨sb, so, none⟩) z0.l.length z0.k)] (hasC (ba 0) has0) ?_
    refine Xu 8 (slcY 50 (.tmp 34) (some (.const (.int .i64 1))) none (some ⟨sb, so, none⟩) z0.l.length z0.k 1 z0.l.length 1 3 (some 35) (fun _ => by kernel_rfl) (by kernel_rfl) (by kernel_rfl) (fun _ => by kernel_rfl) (.inr ⟨_, .i64, (1), rfl, fun _ => by kernel_rfl, by first | rfl | omega⟩) (.inl ⟨rfl, rfl⟩) Tryz.underlying50 (by kernel_rfl) (by omega) (by omega)) ?_
    refine Xu 11 (Xj 51 (.tmp 37) (.tmp 28) k 6 4 0 1 50 0 38 Tryz.underlying51) ?_
    refine Xo 12 (Xz [(6,.slice (cutA (some ⟨sb, so, none⟩) z0.k 1 1) (z0.l.length - 1) (z0.k - 1))]) (fun _ => ?_)
    refine Xd (Xq (Xg 4 (Xe [(0,vq k 2), (1,vi 0), (4,vi x), (5,.bool true), (6,vi 0)] ?_ 4)))
    refine Xv (thenV ?_)
    have e : obSig (O4.ob ⟨z0, z1, z2, z3⟩) 0 = ((x, true, 0), O4.ob ⟨⟨z0.c, cutA (some ⟨sb, so, none⟩) z0.k 1 1, z0.k - 1, z0.l.drop 1⟩, z1, z2, z3⟩) := by rw [obSig, if_neg (by rw [hn]; simp), show (obAt (O4.ob ⟨z0, z1, z2, z3⟩) 0).2 = x :: z0.l.drop 1 from hxl]; rfl
    rw [show (z0.l.length - 1) = ((z0.l.drop 1).length) by rw [List.length_drop]]
    refine Y0 (.tuple #[vi x, .bool true, vi 0]) (fun w hs => ?_)
    exact ⟨⟨⟨⟨z0.c, cutA (some ⟨sb, so, none⟩) z0.k 1 1, z0.k - 1, z0.l.drop 1⟩, z1, z2, z3⟩, by rw [e]⟩, by simp only [e], Sat.perm (by exact (List.perm_middle (l₁ := [_])).symm) (Sat.cut1 hp' (Sat.pick 1 rfl hs))⟩
   ·skip
    have hp' : z0.l = [] := by have := of_decide_eq_false hp; exact List.length_eq_zero_iff.1 (by omega)
    have e : obSig (O4.ob ⟨z0, z1, z2, z3⟩) 0 = ((0, false, 0), O4.ob ⟨⟨mnI (z0.c + 1) 255, z0.a, z0.k, z0.l⟩, z1, z2, z3⟩) := by rw [obSig, if_neg (by rw [hn]; simp), show (obAt (O4.ob ⟨z0, z1, z2, z3⟩) 0).2 = [] from hp']; simp [O4.ob, obF, obAt, hp']
    refine Xk (Xq (Xy0 0 [13] 14 ?_))
    refine Xt [0, 1, 2, 3, 4, 5, 10, 11] [(4,vi 0), (5,.bool false), (6,vi 0), (41,vi 0), (43,vi 0), (45,vq k 2), (51,vq k 2)] [] has0 ?_
    refine Xu 6 (Xj 49 (.tmp 45) (.tmp 43) k 2 4 0 1 3 0 46 Tryz.underlying49) ?_
    refine Xt [7, 8, 9] [(4,vi 0), (5,.bool false), (6,vi 0), (41,vi 0), (51,vq k 2), (49,vi (mnI (IntKind.i64.wrap (z0.c + 1)) 255))] [(⟨k, 2, none⟩, vi z0.c)] (hasC (ba 0) has0) ?_
    refine Xu 12 (Xj 49 (.tmp 51) (.tmp 41) k 2 4 0 1 3 0 52 Tryz.underlying49) ?_
    refine Xo 13 (Xz [(2,vi (mnI (IntKind.i64.wrap (z0.c + 1)) 255))]) (fun _ => ?_)
    refine Xd (Xq (Xg 3 (Xe [(4,vi 0), (5,.bool false), (6,vi 0)] ?_ 3)))
    refine Xv ?_
    rw [show IntKind.i64.wrap (z0.c + 1) = (z0.c + 1) by rw [w64 (by omega) (by omega)]]
    refine Y0 (.tuple #[vi 0, .bool false, vi 0]) (fun w hs => ?_)
    exact ⟨⟨⟨⟨mnI (z0.c + 1) 255, z0.a, z0.k, z0.l⟩, z1, z2, z3⟩, by rw [e]⟩, by simp only [e], hs⟩
  ·skip
   refine Xe [(0,vq k 2), (1,vi 1), (4,vi 0), (5,.bool false), (6,vi 0), (10,.bool false)] ?_ 1
   refine Xc false (fun h => by cases h) (fun _ => ?_)
   refine Xk (Xq (Xq (Xg 8 (Xr [(0,vq k 2), (1,vi 1), (4,vi 0), (5,.bool false), (6,vi 0), (12,vi 1), (14,vq k 6)] ?_ 4 4))))
   refine Xs (yldS (Xj 51 (.tmp 14) (.tmp 12) k 6 4 1 1 50 1 15 Tryz.underlying51)) (fun _ => ?_) 3
   refine Xm [(0,vq k 2), (1,vi 1), (4,vi 0), (5,.bool false), (6,vi 0), (18,.bool (decide ((z1.l.length : Int) > 0)))] [(⟨k, 7, none⟩, .slice z1.a z1.l.length z1.k)] (hasC (ba 0) has0) ?_ 3
   refine Xc (decide ((z1.l.length : Int) > 0)) (fun hp => ?_) (fun hp => ?_)
   ·skip
    have hp' : 0 < z1.l.length := by have := of_decide_eq_true hp; omega
    obtain ⟨x, hx⟩ : ∃ x, z1.l[0]? = some x := ⟨_, List.getElem?_eq_getElem hp'⟩
    have hxl : z1.l = x :: z1.l.drop 1 := by have h := List.drop_eq_getElem_cons hp'; rw [List.drop_zero] at h; rw [(List.getElem?_eq_some_iff.1 hx).2] at h; exact h
    refine PT.know (KR.le (s := ⟨z1.a, z1.k, z1.l⟩) (rowKRat 2 rfl)) ?_
    rintro ⟨hcle, _⟩
    dsimp only at hcle
    refine PT.know (KR.isSome (s := ⟨z1.a, z1.k, z1.l⟩) (rowKRat 2 rfl) (List.ne_nil_of_length_pos hp')) ?_
    rintro ⟨sb, so, hA⟩
    dsimp only at hA
    rw [hA]
    refine Xq (Xg 9 (Xr [(0,vq k 2), (1,vi 1), (4,vi 0), (5,.bool false), (6,vi 0), (20,vi 1), (22,vq k 6)] ?_ 5 4))
    refine Xs (yldS (Xj 51 (.tmp 22) (.tmp 20) k 6 4 1 1 50 1 23 Tryz.underlying51)) (fun _ => ?_) 4
    refine Xl [(0,vq k 2), (1,vi 1), (4,vi 0), (5,.bool false), (6,vi 0), (24,.slice (some ⟨sb, so, none⟩) z1.l.length z1.k)] [(⟨k, 7, none⟩, .slice (some ⟨sb, so, none⟩) z1.l.length z1.k)] (hasC (ba 0) has0) ?_ 3 1
    refine Xs (yldS (Xi 50 (.tmp 24) (.const (.int .i64 0)) sb so z1.l.length z1.k 0 1 3 0 25 Tryz.underlying50)) (fun _ => ?_) 2
    refine Xm [(0,vq k 2), (1,vi 1), (4,vi 0), (5,.bool false), (6,vi 0), (7,vi x)] [(⟨sb, so + 0 * 1, none⟩, vi x)] (hasC (rowCell (E := kE .i64) (xs := z1.l) 2 rfl (J := 0) (x := x) hx (j := 0) rfl) has0) ?_ 2
    refine Xq (Xy0 0 [12] 13 ?_)
    refine Xt [0, 1, 2, 3, 4, 5, 9, 10] [(0,vq k 2), (1,vi 1), (4,vi 0), (5,.bool false), (6,vi 0), (7,vi x), (28,vi 1), (30,vi 1), (32,vq k 6), (37,vq k 6)] [] has0 ?_
    refine Xu 6 (Xj 51 (.tmp 32) (.tmp 30) k 6 4 1 1 50 1 33 Tryz.underlying51) ?_
    refine Xt [7] [(0,vq k 2), (1,vi 1), (4,vi 0), (5,.bool false), (6,vi 0), (7,vi x), (28,vi 1), (37,vq k 6), (34,.slice (some ⟨sb, so, none⟩) z1.l.length z1.k)] [(⟨k, 7, none⟩, .slice (some ⟨sb, so, none⟩) z1.l.length z1.k)] (hasC (ba 0) has0) ?_
    refine Xu 8 (slcY 50 (.tmp 34) (some (.const (.int .i64 1))) none (some ⟨sb, so, none⟩) z1.l.length z1.k 1 z1.l.length 1 3 (some 35) (fun _ => by kernel_rfl) (by kernel_rfl) (by kernel_rfl) (fun _ => by kernel_rfl) (.inr ⟨_, .i64, (1), rfl, fun _ => by kernel_rfl, by first | rfl | omega⟩) (.inl ⟨rfl, rfl⟩) Tryz.underlying50 (by kernel_rfl) (by omega) (by omega)) ?_
    refine Xu 11 (Xj 51 (.tmp 37) (.tmp 28) k 6 4 1 1 50 1 38 Tryz.underlying51) ?_
    refine Xo 12 (Xz [(7,.slice (cutA (some ⟨sb, so, none⟩) z1.k 1 1) (z1.l.length - 1) (z1.k - 1))]) (fun _ => ?_)
    refine Xd (Xq (Xg 4 (Xe [(0,vq k 2), (1,vi 1), (4,vi x), (5,.bool true), (6,vi 0)] ?_ 4)))
    refine Xv (thenV ?_)
    have e : obSig (O4.ob ⟨z0, z1, z2, z3⟩) 1 = ((x, true, 0), O4.ob ⟨z0, ⟨z1.c, cutA (some ⟨sb, so, none⟩) z1.k 1 1, z1.k - 1, z1.l.drop 1⟩, z2, z3⟩) := by rw [obSig, if_neg (by rw [hn]; simp), show (obAt (O4.ob ⟨z0, z1, z2, z3⟩) 1).2 = x :: z1.l.drop 1 from hxl]; rfl
    rw [show (z1.l.length - 1) = ((z1.l.drop 1).length) by rw [List.length_drop]]
    refine Y0 (.tuple #[vi x, .bool true, vi 0]) (fun w hs => ?_)
    exact ⟨⟨⟨z0, ⟨z1.c, cutA (some ⟨sb, so, none⟩) z1.k 1 1, z1.k - 1, z1.l.drop 1⟩, z2, z3⟩, by rw [e]⟩, by simp only [e], Sat.perm (by exact (List.perm_middle (l₁ := [_, _])).symm) (Sat.cut1 hp' (Sat.pick 2 rfl hs))⟩
   ·skip
    have hp' : z1.l = [] := by have := of_decide_eq_false hp; exact List.length_eq_zero_iff.1 (by omega)
    have e : obSig (O4.ob ⟨z0, z1, z2, z3⟩) 1 = ((0, false, 0), O4.ob ⟨z0, ⟨mnI (z1.c + 1) 255, z1.a, z1.k, z1.l⟩, z2, z3⟩) := by rw [obSig, if_neg (by rw [hn]; simp), show (obAt (O4.ob ⟨z0, z1, z2, z3⟩) 1).2 = [] from hp']; simp [O4.ob, obF, obAt, hp']
    refine Xk (Xq (Xy0 0 [13] 14 ?_))
    refine Xt [0, 1, 2, 3, 4, 5, 10, 11] [(4,vi 0), (5,.bool false), (6,vi 0), (41,vi 1), (43,vi 1), (45,vq k 2), (51,vq k 2)] [] has0 ?_
    refine Xu 6 (Xj 49 (.tmp 45) (.tmp 43) k 2 4 1 1 3 1 46 Tryz.underlying49) ?_
    refine Xt [7, 8, 9] [(4,vi 0), (5,.bool false), (6,vi 0), (41,vi 1), (51,vq k 2), (49,vi (mnI (IntKind.i64.wrap (z1.c + 1)) 255))] [(⟨k, 3, none⟩, vi z1.c)] (hasC (ba 0) has0) ?_
    refine Xu 12 (Xj 49 (.tmp 51) (.tmp 41) k 2 4 1 1 3 1 52 Tryz.underlying49) ?_
    refine Xo 13 (Xz [(3,vi (mnI (IntKind.i64.wrap (z1.c + 1)) 255))]) (fun _ => ?_)
    refine Xd (Xq (Xg 3 (Xe [(4,vi 0), (5,.bool false), (6,vi 0)] ?_ 3)))
    refine Xv ?_
    rw [show IntKind.i64.wrap (z1.c + 1) = (z1.c + 1) by rw [w64 (by omega) (by omega)]]
    refine Y0 (.tuple #[vi 0, .bool false, vi 0]) (fun w hs => ?_)
    exact ⟨⟨⟨z0, ⟨mnI (z1.c + 1) 255, z1.a, z1.k, z1.l⟩, z2, z3⟩, by rw [e]⟩, by simp only [e], hs⟩
  ·skip
   refine Xe [(0,vq k 2), (1,vi 2), (4,vi 0), (5,.bool false), (6,vi 0), (10,.bool false)] ?_ 1
   refine Xc false (fun h => by cases h) (fun _ => ?_)
   refine Xk (Xq (Xq (Xg 8 (Xr [(0,vq k 2), (1,vi 2), (4,vi 0), (5,.bool false), (6,vi 0), (12,vi 2), (14,vq k 6)] ?_ 4 4))))
   refine Xs (yldS (Xj 51 (.tmp 14) (.tmp 12) k 6 4 2 1 50 2 15 Tryz.underlying51)) (fun _ => ?_) 3
   refine Xm [(0,vq k 2), (1,vi 2), (4,vi 0), (5,.bool false), (6,vi 0), (18,.bool (decide ((z2.l.length : Int) > 0)))] [(⟨k, 8, none⟩, .slice z2.a z2.l.length z2.k)] (hasC (ba 0) has0) ?_ 3
   refine Xc (decide ((z2.l.length : Int) > 0)) (fun hp => ?_) (fun hp => ?_)
   ·skip
    have hp' : 0 < z2.l.length := by have := of_decide_eq_true hp; omega
    obtain ⟨x, hx⟩ : ∃ x, z2.l[0]? = some x := ⟨_, List.getElem?_eq_getElem hp'⟩
    have hxl : z2.l = x :: z2.l.drop 1 := by have h := List.drop_eq_getElem_cons hp'; rw [List.drop_zero] at h; rw [(List.getElem?_eq_some_iff.1 hx).2] at h; exact h
    refine PT.know (KR.le (s := ⟨z2.a, z2.k, z2.l⟩) (rowKRat 3 rfl)) ?_
    rintro ⟨hcle, _⟩
    dsimp only at hcle
    refine PT.know (KR.isSome (s := ⟨z2.a, z2.k, z2.l⟩) (rowKRat 3 rfl) (List.ne_nil_of_length_pos hp')) ?_
    rintro ⟨sb, so, hA⟩
    dsimp only at hA
    rw [hA]
    refine Xq (Xg 9 (Xr [(0,vq k 2), (1,vi 2), (4,vi 0), (5,.bool false), (6,vi 0), (20,vi 2), (22,vq k 6)] ?_ 5 4))
    refine Xs (yldS (Xj 51 (.tmp 22) (.tmp 20) k 6 4 2 1 50 2 23 Tryz.underlying51)) (fun _ => ?_) 4
    refine Xl [(0,vq k 2), (1,vi 2), (4,vi 0), (5,.bool false), (6,vi 0), (24,.slice (some ⟨sb, so, none⟩) z2.l.length z2.k)] [(⟨k, 8, none⟩, .slice (some ⟨sb, so, none⟩) z2.l.length z2.k)] (hasC (ba 0) has0) ?_ 3 1
    refine Xs (yldS (Xi 50 (.tmp 24) (.const (.int .i64 0)) sb so z2.l.length z2.k 0 1 3 0 25 Tryz.underlying50)) (fun _ => ?_) 2
    refine Xm [(0,vq k 2), (1,vi 2), (4,vi 0), (5,.bool false), (6,vi 0), (7,vi x)] [(⟨sb, so + 0 * 1, none⟩, vi x)] (hasC (rowCell (E := kE .i64) (xs := z2.l) 3 rfl (J := 0) (x := x) hx (j := 0) rfl) has0) ?_ 2
    refine Xq (Xy0 0 [12] 13 ?_)
    refine Xt [0, 1, 2, 3, 4, 5, 9, 10] [(0,vq k 2), (1,vi 2), (4,vi 0), (5,.bool false), (6,vi 0), (7,vi x), (28,vi 2), (30,vi 2), (32,vq k 6), (37,vq k 6)] [] has0 ?_
    refine Xu 6 (Xj 51 (.tmp 32) (.tmp 30) k 6 4 2 1 50 2 33 Tryz.underlying51) ?_
    refine Xt [7] [(0,vq k 2), (1,vi 2), (4,vi 0), (5,.bool false), (6,vi 0), (7,vi x), (28,vi 2), (37,vq k 6), (34,.slice (some ⟨sb, so, none⟩) z2.l.length z2.k)] [(⟨k, 8, none⟩, .slice (some ⟨sb, so, none⟩) z2.l.length z2.k)] (hasC (ba 0) has0) ?_
    refine Xu 8 (slcY 50 (.tmp 34) (some (.const (.int .i64 1))) none (some ⟨sb, so, none⟩) z2.l.length z2.k 1 z2.l.length 1 3 (some 35) (fun _ => by kernel_rfl) (by kernel_rfl) (by kernel_rfl) (fun _ => by kernel_rfl) (.inr ⟨_, .i64, (1), rfl, fun _ => by kernel_rfl, by first | rfl | omega⟩) (.inl ⟨rfl, rfl⟩) Tryz.underlying50 (by kernel_rfl) (by omega) (by omega)) ?_
    refine Xu 11 (Xj 51 (.tmp 37) (.tmp 28) k 6 4 2 1 50 2 38 Tryz.underlying51) ?_
    refine Xo 12 (Xz [(8,.slice (cutA (some ⟨sb, so, none⟩) z2.k 1 1) (z2.l.length - 1) (z2.k - 1))]) (fun _ => ?_)
    refine Xd (Xq (Xg 4 (Xe [(0,vq k 2), (1,vi 2), (4,vi x), (5,.bool true), (6,vi 0)] ?_ 4)))
    refine Xv (thenV ?_)
    have e : obSig (O4.ob ⟨z0, z1, z2, z3⟩) 2 = ((x, true, 0), O4.ob ⟨z0, z1, ⟨z2.c, cutA (some ⟨sb, so, none⟩) z2.k 1 1, z2.k - 1, z2.l.drop 1⟩, z3⟩) := by rw [obSig, if_neg (by rw [hn]; simp), show (obAt (O4.ob ⟨z0, z1, z2, z3⟩) 2).2 = x :: z2.l.drop 1 from hxl]; rfl
    rw [show (z2.l.length - 1) = ((z2.l.drop 1).length) by rw [List.length_drop]]
    refine Y0 (.tuple #[vi x, .bool true, vi 0]) (fun w hs => ?_)
    exact ⟨⟨⟨z0, z1, ⟨z2.c, cutA (some ⟨sb, so, none⟩) z2.k 1 1, z2.k - 1, z2.l.drop 1⟩, z3⟩, by rw [e]⟩, by simp only [e], Sat.perm (by exact (List.perm_middle (l₁ := [_, _, _])).symm) (Sat.cut1 hp' (Sat.pick 3 rfl hs))⟩
   ·skip
    have hp' : z2.l = [] := by have := of_decide_eq_false hp; exact List.length_eq_zero_iff.1 (by omega)
    have e : obSig (O4.ob ⟨z0, z1, z2, z3⟩) 2 = ((0, false, 0), O4.ob ⟨z0, z1, ⟨mnI (z2.c + 1) 255, z2.a, z2.k, z2.l⟩, z3⟩) := by rw [obSig, if_neg (by rw [hn]; simp), show (obAt (O4.ob ⟨z0, z1, z2, z3⟩) 2).2 = [] from hp']; simp [O4.ob, obF, obAt, hp']
    refine Xk (Xq (Xy0 0 [13] 14 ?_))
    refine Xt [0, 1, 2, 3, 4, 5, 10, 11] [(4,vi 0), (5,.bool false), (6,vi 0), (41,vi 2), (43,vi 2), (45,vq k 2), (51,vq k 2)] [] has0 ?_
    refine Xu 6 (Xj 49 (.tmp 45) (.tmp 43) k 2 4 2 1 3 2 46 Tryz.underlying49) ?_
    refine Xt [7, 8, 9] [(4,vi 0), (5,.bool false), (6,vi 0), (41,vi 2), (51,vq k 2), (49,vi (mnI (IntKind.i64.wrap (z2.c + 1)) 255))] [(⟨k, 4, none⟩, vi z2.c)] (hasC (ba 0) has0) ?_
    refine Xu 12 (Xj 49 (.tmp 51) (.tmp 41) k 2 4 2 1 3 2 52 Tryz.underlying49) ?_
    refine Xo 13 (Xz [(4,vi (mnI (IntKind.i64.wrap (z2.c + 1)) 255))]) (fun _ => ?_)
    refine Xd (Xq (Xg 3 (Xe [(4,vi 0), (5,.bool false), (6,vi 0)] ?_ 3)))
    refine Xv ?_
    rw [show IntKind.i64.wrap (z2.c + 1) = (z2.c + 1) by rw [w64 (by omega) (by omega)]]
    refine Y0 (.tuple #[vi 0, .bool false, vi 0]) (fun w hs => ?_)
    exact ⟨⟨⟨z0, z1, ⟨mnI (z2.c + 1) 255, z2.a, z2.k, z2.l⟩, z3⟩, by rw [e]⟩, by simp only [e], hs⟩
  ·skip
   refine Xe [(0,vq k 2), (1,vi 3), (4,vi 0), (5,.bool false), (6,vi 0), (10,.bool false)] ?_ 1
   refine Xc false (fun h => by cases h) (fun _ => ?_)
   refine Xk (Xq (Xq (Xg 8 (Xr [(0,vq k 2), (1,vi 3), (4,vi 0), (5,.bool false), (6,vi 0), (12,vi 3), (14,vq k 6)] ?_ 4 4))))
   refine Xs (yldS (Xj 51 (.tmp 14) (.tmp 12) k 6 4 3 1 50 3 15 Tryz.underlying51)) (fun _ => ?_) 3
   refine Xm [(0,vq k 2), (1,vi 3), (4,vi 0), (5,.bool false), (6,vi 0), (18,.bool (decide ((z3.l.length : Int) > 0)))] [(⟨k, 9, none⟩, .slice z3.a z3.l.length z3.k)] (hasC (ba 0) has0) ?_ 3
   refine Xc (decide ((z3.l.length : Int) > 0)) (fun hp => ?_) (fun hp => ?_)
   ·skip
    have hp' : 0 < z3.l.length := by have := of_decide_eq_true hp; omega
    obtain ⟨x, hx⟩ : ∃ x, z3.l[0]? = some x := ⟨_, List.getElem?_eq_getElem hp'⟩
    have hxl : z3.l = x :: z3.l.drop 1 := by have h := List.drop_eq_getElem_cons hp'; rw [List.drop_zero] at h; rw [(List.getElem?_eq_some_iff.1 hx).2] at h; exact h
    refine PT.know (KR.le (s := ⟨z3.a, z3.k, z3.l⟩) (rowKRat 4 rfl)) ?_
    rintro ⟨hcle, _⟩
    dsimp only at hcle
    refine PT.know (KR.isSome (s := ⟨z3.a, z3.k, z3.l⟩) (rowKRat 4 rfl) (List.ne_nil_of_length_pos hp')) ?_
    rintro ⟨sb, so, hA⟩
    dsimp only at hA
    rw [hA]
    refine Xq (Xg 9 (Xr [(0,vq k 2), (1,vi 3), (4,vi 0), (5,.bool false), (6,vi 0), (20,vi 3), (22,vq k 6)] ?_ 5 4))
    refine Xs (yldS (Xj 51 (.tmp 22) (.tmp 20) k 6 4 3 1 50 3 23 Tryz.underlying51)) (fun _ => ?_) 4
    refine Xl [(0,vq k 2), (1,vi 3), (4,vi 0), (5,.bool false), (6,vi 0), (24,.slice (some ⟨sb, so, none⟩) z3.l.length z3.k)] [(⟨k, 9, none⟩, .slice (some ⟨sb, so, none⟩) z3.l.length z3.k)] (hasC (ba 0) has0) ?_ 3 1
    refine Xs (yldS (Xi 50 (.tmp 24) (.const (.int .i64 0)) sb so z3.l.length z3.k 0 1 3 0 25 Tryz.underlying50)) (fun _ => ?_) 2
    refine Xm [(0,vq k 2), (1,vi 3), (4,vi 0), (5,.bool false), (6,vi 0), (7,vi x)] [(⟨sb, so + 0 * 1, none⟩, vi x)] (hasC (rowCell (E := kE .i64) (xs := z3.l) 4 rfl (J := 0) (x := x) hx (j := 0) rfl) has0) ?_ 2
    refine Xq (Xy0 0 [12] 13 ?_)
    refine Xt [0, 1, 2, 3, 4, 5, 9, 10] [(0,vq k 2), (1,vi 3), (4,vi 0), (5,.bool false), (6,vi 0), (7,vi x), (28,vi 3), (30,vi 3), (32,vq k 6), (37,vq k 6)] [] has0 ?_
    refine Xu 6 (Xj 51 (.tmp 32) (.tmp 30) k 6 4 3 1 50 3 33 Tryz.underlying51) ?_
    refine Xt [7] [(0,vq k 2), (1,vi 3), (4,vi 0), (5,.bool false), (6,vi 0), (7,vi x), (28,vi 3), (37,vq k 6), (34,.slice (some ⟨sb, so, none⟩) z3.l.length z3.k)] [(⟨k, 9, none⟩, .slice (some ⟨sb, so, none⟩) z3.l.length z3.k)] (hasC (ba 0) has0) ?_
    refine Xu 8 (slcY 50 (.tmp 34) (some (.const (.int .i64 1))) none (some ⟨sb, so, none⟩) z3.l.length z3.k 1 z3.l.length 1 3 (some 35) (fun _ => by kernel_rfl) (by kernel_rfl) (by kernel_rfl) (fun _ => by kernel_rfl) (.inr ⟨_, .i64, (1), rfl, fun _ => by kernel_rfl, by first | rfl | omega⟩) (.inl ⟨rfl, rfl⟩) Tryz.underlying50 (by kernel_rfl) (by omega) (by omega)) ?_
    refine Xu 11 (Xj 51 (.tmp 37) (.tmp 28) k 6 4 3 1 50 3 38 Tryz.underlying51) ?_
    refine Xo 12 (Xz [(9,.slice (cutA (some ⟨sb, so, none⟩) z3.k 1 1) (z3.l.length - 1) (z3.k - 1))]) (fun _ => ?_)
    refine Xd (Xq (Xg 4 (Xe [(0,vq k 2), (1,vi 3), (4,vi x), (5,.bool true), (6,vi 0)] ?_ 4)))
    refine Xv (thenV ?_)
    have e : obSig (O4.ob ⟨z0, z1, z2, z3⟩) 3 = ((x, true, 0), O4.ob ⟨z0, z1, z2, ⟨z3.c, cutA (some ⟨sb, so, none⟩) z3.k 1 1, z3.k - 1, z3.l.drop 1⟩⟩) := by rw [obSig, if_neg (by rw [hn]; simp), show (obAt (O4.ob ⟨z0, z1, z2, z3⟩) 3).2 = x :: z3.l.drop 1 from hxl]; rfl
    rw [show (z3.l.length - 1) = ((z3.l.drop 1).length) by rw [List.length_drop]]
    refine Y0 (.tuple #[vi x, .bool true, vi 0]) (fun w hs => ?_)
    exact ⟨⟨⟨z0, z1, z2, ⟨z3.c, cutA (some ⟨sb, so, none⟩) z3.k 1 1, z3.k - 1, z3.l.drop 1⟩⟩, by rw [e]⟩, by simp only [e], Sat.perm (by exact (List.perm_middle (l₁ := [_, _, _, _])).symm) (Sat.cut1 hp' (Sat.pick 4 rfl hs))⟩
   ·skip
    have hp' : z3.l = [] := by have := of_decide_eq_false hp; exact List.length_eq_zero_iff.1 (by omega)
    have e : obSig (O4.ob ⟨z0, z1, z2, z3⟩) 3 = ((0, false, 0), O4.ob ⟨z0, z1, z2, ⟨mnI (z3.c + 1) 255, z3.a, z3.k, z3.l⟩⟩) := by rw [obSig, if_neg (by rw [hn]; simp), show (obAt (O4.ob ⟨z0, z1, z2, z3⟩) 3).2 = [] from hp']; simp [O4.ob, obF, obAt, hp']
    refine Xk (Xq (Xy0 0 [13] 14 ?_))
    refine Xt [0, 1, 2, 3, 4, 5, 10, 11] [(4,vi 0), (5,.bool false), (6,vi 0), (41,vi 3), (43,vi 3), (45,vq k 2), (51,vq k 2)] [] has0 ?_
    refine Xu 6 (Xj 49 (.tmp 45) (.tmp 43) k 2 4 3 1 3 3 46 Tryz.underlying49) ?_
    refine Xt [7, 8, 9] [(4,vi 0), (5,.bool false), (6,vi 0), (41,vi 3), (51,vq k 2), (49,vi (mnI (IntKind.i64.wrap (z3.c + 1)) 255))] [(⟨k, 5, none⟩, vi z3.c)] (hasC (ba 0) has0) ?_
    refine Xu 12 (Xj 49 (.tmp 51) (.tmp 41) k 2 4 3 1 3 3 52 Tryz.underlying49) ?_
    refine Xo 13 (Xz [(5,vi (mnI (IntKind.i64.wrap (z3.c + 1)) 255))]) (fun _ => ?_)
    refine Xd (Xq (Xg 3 (Xe [(4,vi 0), (5,.bool false), (6,vi 0)] ?_ 3)))
    refine Xv ?_
    rw [show IntKind.i64.wrap (z3.c + 1) = (z3.c + 1) by rw [w64 (by omega) (by omega)]]
    refine Y0 (.tuple #[vi 0, .bool false, vi 0]) (fun w hs => ?_)
    exact ⟨⟨⟨z0, z1, z2, ⟨mnI (z3.c + 1) 255, z3.a, z3.k, z3.l⟩⟩, by rw [e]⟩, by simp only [e], hs⟩
def nI (id : Int) (x : Int) : Bool := !(x == id)
/-- The first so many objects are cut, the others as they were. -/
structure CutI (z y : O4) (id : Int) (i : Nat) : Prop where
 p0 : if 0 < i then y.z0.c = z.z0.c ∧ y.z0.l = z.z0.l.filter (nI id) else y.z0 = z.z0
 p1 : if 1 < i then y.z1.c = z.z1.c ∧ y.z1.l = z.z1.l.filter (nI id) else y.z1 = z.z1
 p2 : if 2 < i then y.z2.c = z.z2.c ∧ y.z2.l = z.z2.l.filter (nI id) else y.z2 = z.z2
 p3 : if 3 < i then y.z3.c = z.z3.c ∧ y.z3.l = z.z3.l.filter (nI id) else y.z3 = z.z3
theorem CutI.start (z : O4) (id : Int) : CutI z z id 0 := ⟨by simp, by simp, by simp, by simp⟩
theorem CutI.done {z y : O4} {id : Int} (h : CutI z y id 4) : y.ob = obCut z.ob id := by
 obtain ⟨a, b⟩ := by simpa using h.p0
 obtain ⟨c, d⟩ := by simpa using h.p1
 obtain ⟨e, f⟩ := by simpa using h.p2
 obtain ⟨g, k⟩ := by simpa using h.p3
 simp only [O4.ob, obCut, obF, List.map_cons, List.map_nil, a, b, c, d, e, f, g, k]
 rfl
set_option maxHeartbeats 4000000 in
set_option maxRecDepth 100000 in
theorem rodrop_walk (H : List SP) (k t c : Nat) (a : Option Addr) (l : List (Int × Int)) (Z : O4) (mt mg la : Int) (id : Int) (hc : ∀ o ∈ Z.ob, 0 ≤ o.1 ∧ o.1 ≤ 255 ∧ o.2.length ≤ 1000) : ∀ w, Sat w (blk k 55 [vp t, .slice a l.length c, vi Z.z0.c, vi Z.z1.c, vi Z.z2.c, vi Z.z3.c, .slice Z.z0.a Z.z0.l.length Z.z0.k, .slice Z.z1.a Z.z1.l.length Z.z1.k, .slice Z.z2.a Z.z2.l.length Z.z2.k, .slice Z.z3.a Z.z3.l.length Z.z3.k, vi mt, vi mg, vi la] :: row (kE .i64) 3 (.slice Z.z0.a Z.z0.l.length Z.z0.k) Z.z0.l :: row (kE .i64) 3 (.slice Z.z1.a Z.z1.l.length Z.z1.k) Z.z1.l :: row (kE .i64) 3 (.slice Z.z2.a Z.z2.l.length Z.z2.k) Z.z2.l :: row (kE .i64) 3 (.slice Z.z3.a Z.z3.l.length Z.z3.k) Z.z3.l :: H) → Calls Tryz.prog 54 #[vq k 2, vi id] w (Ret (ι := { Y : O4 × Bool // Y.1.ob = obCut Z.ob id }) (fun Y => .bool Y.1.2) fun Y => blk k 55 [vp t, .slice a l.length c, vi Y.1.1.z0.c, vi Y.1.1.z1.c, vi Y.1.1.z2.c, vi Y.1.1.z3.c, .slice Y.1.1.z0.a Y.1.1.z0.l.length Y.1.1.z0.k, .slice Y.1.1.z1.a Y.1.1.z1.l.length Y.1.1.z1.k, .slice Y.1.1.z2.a Y.1.1.z2.l.length Y.1.1.z2.k, .slice Y.1.1.z3.a Y.1.1.z3.l.length Y.1.1.z3.k, vi mt, vi mg, vi la] :: row (kE .i64) 3 (.slice Y.1.1.z0.a Y.1.1.z0.l.length Y.1.1.z0.k) Y.1.1.z0.l :: row (kE .i64) 3 (.slice Y.1.1.z1.a Y.1.1.z1.l.length Y.1.1.z1.k) Y.1.1.z1.l :: row (kE .i64) 3 (.slice Y.1.1.z2.a Y.1.1.z2.l.length Y.1.1.z2.k) Y.1.1.z2.l :: row (kE .i64) 3 (.slice Y.1.1.z3.a Y.1.1.z3.l.length Y.1.1.z3.k) Y.1.1.z3.l :: H) := by
 have h0 := hc (obF Z.z0) (by simp [O4.ob])
 have h1 := hc (obF Z.z1) (by simp [O4.ob])
 have h2 := hc (obF Z.z2) (by simp [O4.ob])
 have h3 := hc (obF Z.z3) (by simp [O4.ob])
 simp only [obF] at h0 h1 h2 h3
 refine enterG (fn := Tryz.f54) 54 [vq k 2, vi id] Tryz.func54 (by kernel_rfl) (by kernel_rfl) (by kernel_rfl) ?_
 refine Xq (Xg 1 (Xe [(0,vq k 2), (1,vi id), (4,.bool false)] ?_ 1))
 refine Xq (Xg 1 (Xe [(0,vq k 2), (1,vi id), (4,.bool false), (5,.bool false)] ?_ 1))
 refine Xq (Xq (Xg 1 (Xe [(0,vq k 2), (1,vi id), (4,.bool false), (5,.bool false), (6,vi 0)] ?_ 1)))
 refine Xb 0 (Xp [(0,vq k 2), (1,vi id), (4,.bool false), (5,.bool false), (6,vi 0)] ?_)
 refine loopG (fun (q : O4 × Nat × Bool) => [(0, vq k 2), (1, vi id), (4, .bool false), (5, .bool q.2.2), (6, vi (q.2.1 : Int))]) (fun (q : O4 × Nat × Bool) => (blk k 55 [vp t, .slice a l.length c, vi q.1.z0.c, vi q.1.z1.c, vi q.1.z2.c, vi q.1.z3.c, .slice q.1.z0.a q.1.z0.l.length q.1.z0.k, .slice q.1.z1.a q.1.z1.l.length q.1.z1.k, .slice q.1.z2.a q.1.z2.l.length q.1.z2.k, .slice q.1.z3.a q.1.z3.l.length q.1.z3.k, vi mt, vi mg, vi la] :: row (kE .i64) 3 (.slice q.1.z0.a q.1.z0.l.length q.1.z0.k) q.1.z0.l :: row (kE .i64) 3 (.slice q.1.z1.a q.1.z1.l.length q.1.z1.k) q.1.z1.l :: row (kE .i64) 3 (.slice q.1.z2.a q.1.z2.l.length q.1.z2.k) q.1.z2.l :: row (kE .i64) 3 (.slice q.1.z3.a q.1.z3.l.length q.1.z3.k) q.1.z3.l :: H)) (fun k (q : O4 × Nat × Bool) => k + q.2.1 = 4 ∧ CutI Z q.1 id q.2.1) 4 (Z, 0, false) (by kernel_rfl) ⟨by simp, CutI.start Z id⟩ ?_
 rintro j ⟨⟨z0, z1, z2, z3⟩, i, met⟩ ⟨hji, hI⟩
 simp only at hji hI
 have hi5 : i = 0 ∨ i = 1 ∨ i = 2 ∨ i = 3 ∨ i = 4 := by omega
 rcases hi5 with rfl | rfl | rfl | rfl | rfl
 ·skip
  have hz : z0 = Z.z0 := by have := hI.p0; simpa using this
  have hzl : z0.l.length ≤ 1000 := by rw [hz]; exact h0.2.2
  refine Xq (Xq (Xg 2 (Xe [(0,vq k 2), (1,vi id), (4,.bool false), (5,.bool met), (6,vi 0), (10,.bool true)] ?_ 2)))
  refine Xc true (fun _ => ?_) (fun h => by cases h)
  refine Xk (Xq (Xb 1 (Xq (Xg 1 (Xe [(0,vq k 2), (1,vi id), (4,.bool false), (5,.bool met), (6,vi 0), (7,.slice none 0 0)] ?_ 1)))))
  refine Xq (Xq (Xg 1 (Xe [(0,vq k 2), (1,vi id), (4,.bool false), (5,.bool met), (6,vi 0), (7,.slice none 0 0), (8,vi 0)] ?_ 1)))
  refine Xb 2 ?_
  refine PT.rowNil (kE .i64) 3 ?_
  refine Xp [(0,vq k 2), (1,vi id), (4,.bool false), (5,.bool met), (6,vi 0), (7,.slice none 0 0), (8,vi 0)] ?_
  refine loopG (fun (s : (Option Addr × Nat) × Nat × Bool) => [(0, vq k 2), (1, vi id), (4, .bool false), (5, .bool s.2.2), (6, vi 0), (7, .slice s.1.1 (((z0.l.take s.2.1).filter (nI id)).length) s.1.2), (8, vi (s.2.1 : Int))]) (fun (s : (Option Addr × Nat) × Nat × Bool) => (row (kE .i64) 3 (.slice s.1.1 ((z0.l.take s.2.1).filter (nI id)).length s.1.2) ((z0.l.take s.2.1).filter (nI id)) :: blk k 55 [vp t, .slice a l.length c, vi z0.c, vi z1.c, vi z2.c, vi z3.c, .slice z0.a z0.l.length z0.k, .slice z1.a z1.l.length z1.k, .slice z2.a z2.l.length z2.k, .slice z3.a z3.l.length z3.k, vi mt, vi mg, vi la] :: row (kE .i64) 3 (.slice z0.a z0.l.length z0.k) z0.l :: row (kE .i64) 3 (.slice z1.a z1.l.length z1.k) z1.l :: row (kE .i64) 3 (.slice z2.a z2.l.length z2.k) z2.l :: row (kE .i64) 3 (.slice z3.a z3.l.length z3.k) z3.l :: H)) (fun k (s : (Option Addr × Nat) × Nat × Bool) => k + s.2.1 = z0.l.length) z0.l.length ((none, 0), 0, met) (by kernel_rfl) (by simp only; omega) ?_
  rintro j2 ⟨⟨qa, qc⟩, u, met2⟩ hku
  simp only at hku
  refine Xq (Xq (Xg 9 (Xr [(0,vq k 2), (1,vi id), (4,.bool false), (5,.bool met2), (6,vi 0), (7,.slice qa (((z0.l.take u).filter (nI id)).length) qc), (8,vi u), (13,vi u), (15,vi 0), (17,vq k 6)] ?_ 4 5)))
  refine Xs (yldS (Xj 51 (.tmp 17) (.tmp 15) k 6 4 0 1 50 0 18 Tryz.underlying51)) (fun _ => ?_) 3
  refine Xm [(0,vq k 2), (1,vi id), (4,.bool false), (5,.bool met2), (6,vi 0), (7,.slice qa (((z0.l.take u).filter (nI id)).length) qc), (8,vi u), (21,.bool (decide ((u : Int) < (z0.l.length : Int))))] [(⟨k, 6, none⟩, .slice z0.a z0.l.length z0.k)] (hasC (ba 1) has0) ?_ 3
  refine Xc (decide ((u : Int) < (z0.l.length : Int))) (fun g1 => ?_) (fun g1 => ?_)
  ·skip
   have hu : u < z0.l.length := by have := of_decide_eq_true g1; omega
   obtain ⟨x, hx⟩ : ∃ x, z0.l[u]? = some x := ⟨_, List.getElem?_eq_getElem hu⟩
   refine PT.know (KR.isSome (s := ⟨z0.a, z0.k, z0.l⟩) (rowKRat 2 rfl) (List.ne_nil_of_length_pos (by show 0 < z0.l.length; omega))) ?_
   rintro ⟨sb, so, hA⟩
   dsimp only at hA
   rw [hA]
   have hf := flt_take hx (nI id)
   have hfl : ((z0.l.take u).filter (nI id)).length ≤ 1000 := by have := List.length_filter_le (nI id) (z0.l.take u); simp only [List.length_take] at this; omega
   refine Xk (Xq (Xb 3 (Xq (Xg 11 (Xr [(0,vq k 2), (1,vi id), (4,.bool false), (5,.bool met2), (6,vi 0), (7,.slice qa (((z0.l.take u).filter (nI id)).length) qc), (8,vi u), (25,vi 0), (27,vq k 6)] ?_ 7 4)))))
   refine Xs (yldS (Xj 51 (.tmp 27) (.tmp 25) k 6 4 0 1 50 0 28 Tryz.underlying51)) (fun _ => ?_) 6
   refine Xl [(0,vq k 2), (1,vi id), (4,.bool false), (5,.bool met2), (6,vi 0), (7,.slice qa (((z0.l.take u).filter (nI id)).length) qc), (8,vi u), (29,.slice (some ⟨sb, so, none⟩) z0.l.length z0.k), (30,vi u)] [(⟨k, 6, none⟩, .slice (some ⟨sb, so, none⟩) z0.l.length z0.k)] (hasC (ba 1) has0) ?_ 4 2
   refine Xs (yldS (Xi 50 (.tmp 29) (.tmp 30) sb so z0.l.length z0.k u 1 3 (u : Int) 31 Tryz.underlying50)) (fun _ => ?_) 3
   refine Xm [(0,vq k 2), (1,vi id), (4,.bool false), (5,.bool met2), (6,vi 0), (7,.slice qa (((z0.l.take u).filter (nI id)).length) qc), (8,vi u), (34,.bool (x == id))] [(⟨sb, so + u * 1, none⟩, vi x)] (hasC (rowCell (E := kE .i64) (xs := z0.l) 2 rfl (x := x) hx (j := 0) rfl) has0) ?_ 3
   by_cases g2 : x = id
   ·skip
    rw [show nI id x = false by simp [nI, g2]] at hf
    simp only [Bool.false_eq_true, if_false, List.append_nil] at hf
    rw [show (x == id) = true from by simp [g2]]
    refine Xc true (fun _ => ?_) (fun h => by cases h)
    refine Xg 1 (Xe [(0,vq k 2), (1,vi id), (4,.bool false), (5,.bool true), (6,vi 0), (7,.slice qa (((z0.l.take u).filter (nI id)).length) qc), (8,vi u)] ?_ 1)
    refine Xg 3 (Xe [(0,vq k 2), (1,vi id), (4,.bool false), (5,.bool true), (6,vi 0), (7,.slice qa (((z0.l.take u).filter (nI id)).length) qc), (8,vi (IntKind.i64.wrap ((u : Int) + 1)))] ?_ 3)
    rw [show IntKind.i64.wrap ((u : Int) + 1) = ((u : Int) + 1) by rw [w64 (by omega) (by omega)]]
    rw [← hf, ← hA]
    refine Xp [(0,vq k 2), (1,vi id), (4,.bool false), (5,.bool true), (6,vi 0), (7,.slice qa (((z0.l.take (u + 1)).filter (nI id)).length) qc), (8,vi ((u : Int) + 1))] ?_
    exact againG (j2 - 1) ((qa, qc), u + 1, true) rfl rfl (by omega) (by simp only; omega)
   ·skip
    rw [show nI id x = true by simp [nI, g2]] at hf
    simp only [if_true] at hf
    rw [show (x == id) = false from by simp [g2]]
    refine Xc false (fun h => by cases h) (fun _ => ?_)
    refine Xg 13 (Xr [(0,vq k 2), (1,vi id), (4,.bool false), (5,.bool met2), (6,vi 0), (7,.slice qa (((z0.l.take u).filter (nI id)).length) qc), (8,vi u), (35,.slice qa (((z0.l.take u).filter (nI id)).length) qc), (37,vi 0), (39,vq k 6)] ?_ 8 5)
    refine Xs (yldS (Xj 51 (.tmp 39) (.tmp 37) k 6 4 0 1 50 0 40 Tryz.underlying51)) (fun _ => ?_) 7
    refine Xl [(0,vq k 2), (1,vi id), (4,.bool false), (5,.bool met2), (6,vi 0), (7,.slice qa (((z0.l.take u).filter (nI id)).length) qc), (8,vi u), (35,.slice qa (((z0.l.take u).filter (nI id)).length) qc), (41,.slice (some ⟨sb, so, none⟩) z0.l.length z0.k), (42,vi u)] [(⟨k, 6, none⟩, .slice (some ⟨sb, so, none⟩) z0.l.length z0.k)] (hasC (ba 1) has0) ?_ 5 2
    refine Xs (yldS (Xi 50 (.tmp 41) (.tmp 42) sb so z0.l.length z0.k u 1 3 (u : Int) 43 Tryz.underlying50)) (fun _ => ?_) 4
    refine Xl [(0,vq k 2), (1,vi id), (4,.bool false), (5,.bool met2), (6,vi 0), (7,.slice qa (((z0.l.take u).filter (nI id)).length) qc), (8,vi u), (35,.slice qa (((z0.l.take u).filter (nI id)).length) qc), (44,vi x)] [(⟨sb, so + u * 1, none⟩, vi x)] (hasC (rowCell (E := kE .i64) (xs := z0.l) 2 rfl (x := x) hx (j := 0) rfl) has0) ?_ 3 1
    refine Xs (Xn 3 [vi x] (some 45) (fun b => .slice (some ⟨b, 0, none⟩) 1 1)) (fun b1 => ?_) 2
    refine Xh0 ?_ 1 2
    refine Xs (Xf (E := (kE .i64)) 50 (.tmp 35) (.tmp 45) qa qc ((z0.l.take u).filter (nI id)) [x] (.slice (some ⟨b1, 0, none⟩) 1 1) 46 Tryz.underlying50 (kI_ety8) (blkRd (x := x) 1 rfl) (by simp only [List.length_cons, List.length_nil]; omega)) (fun r2 => ?_) 1
    refine Xe [(0,vq k 2), (1,vi id), (4,.bool false), (5,.bool met2), (6,vi 0), (7,.slice r2.1 ((((z0.l.take u).filter (nI id)) ++ [x]).length) r2.2), (8,vi u)] ?_ 1
    refine Xg 3 (Xe [(0,vq k 2), (1,vi id), (4,.bool false), (5,.bool met2), (6,vi 0), (7,.slice r2.1 ((((z0.l.take u).filter (nI id)) ++ [x]).length) r2.2), (8,vi (IntKind.i64.wrap ((u : Int) + 1)))] ?_ 3)
    rw [show IntKind.i64.wrap ((u : Int) + 1) = ((u : Int) + 1) by rw [w64 (by omega) (by omega)]]
    refine PT.pick 1 rfl ?_
    refine PT.drop ?_
    rw [← hf, ← hA]
    refine Xp [(0,vq k 2), (1,vi id), (4,.bool false), (5,.bool met2), (6,vi 0), (7,.slice r2.1 (((z0.l.take (u + 1)).filter (nI id)).length) r2.2), (8,vi ((u : Int) + 1))] ?_
    exact againG (j2 - 1) (r2, u + 1, met2) rfl rfl (by omega) (by simp only; omega)
  ·skip
   have hu : u = z0.l.length := by have := of_decide_eq_false g1; omega
   have htk : z0.l.take u = z0.l := List.take_of_length_le (by omega)
   rw [htk]
   refine Xx 2 (thenX (thenX (leaveR (Xg 7 (Xr [(0,vq k 2), (1,vi id), (4,.bool false), (5,.bool met2), (6,vi 0), (48,vi 0), (49,.slice qa ((z0.l.filter (nI id)).length) qc), (51,vq k 6)] ?_ 2 5)))))
   refine Xs (yldS (Xj 51 (.tmp 51) (.tmp 48) k 6 4 0 1 50 0 52 Tryz.underlying51)) (fun _ => ?_) 1
   refine Xh0 ?_ 1 1
   refine Xs (Xz [(6,.slice qa ((z0.l.filter (nI id)).length) qc)]) (fun _ => ?_) 0
   refine endR ?_
   refine Xg 3 (Xe [(0,vq k 2), (1,vi id), (4,.bool false), (5,.bool met2), (6,vi (IntKind.i64.wrap (0 + 1)))] ?_ 3)
   rw [show IntKind.i64.wrap (0 + 1) = (0 + 1) by rw [w64 (by omega) (by omega)]]
   refine PT.pick 2 rfl ?_
   refine PT.drop ?_
   refine PT.pick 4 rfl ?_
   refine PT.pick 4 rfl ?_
   refine PT.pick 4 rfl ?_
   refine PT.pick 4 rfl ?_
   refine PT.pick 4 rfl ?_
   refine Xp [(0,vq k 2), (1,vi id), (4,.bool false), (5,.bool met2), (6,vi (0 + 1))] ?_
   exact againG (j - 1) (⟨⟨z0.c, qa, qc, z0.l.filter (nI id)⟩, z1, z2, z3⟩, 1, met2) rfl rfl (by omega) ⟨by simp only; omega, by simp [hz], by simpa using hI.p1, by simpa using hI.p2, by simpa using hI.p3⟩
 ·skip
  have hz : z1 = Z.z1 := by have := hI.p1; simpa using this
  have hzl : z1.l.length ≤ 1000 := by rw [hz]; exact h1.2.2
  refine Xq (Xq (Xg 2 (Xe [(0,vq k 2), (1,vi id), (4,.bool false), (5,.bool met), (6,vi 1), (10,.bool true)] ?_ 2)))
  refine Xc true (fun _ => ?_) (fun h => by cases h)
  refine Xk (Xq (Xb 1 (Xq (Xg 1 (Xe [(0,vq k 2), (1,vi id), (4,.bool false), (5,.bool met), (6,vi 1), (7,.slice none 0 0)] ?_ 1)))))
  refine Xq (Xq (Xg 1 (Xe [(0,vq k 2), (1,vi id), (4,.bool false), (5,.bool met), (6,vi 1), (7,.slice none 0 0), (8,vi 0)] ?_ 1)))
  refine Xb 2 ?_
  refine PT.rowNil (kE .i64) 3 ?_
  refine Xp [(0,vq k 2), (1,vi id), (4,.bool false), (5,.bool met), (6,vi 1), (7,.slice none 0 0), (8,vi 0)] ?_
  refine loopG (fun (s : (Option Addr × Nat) × Nat × Bool) => [(0, vq k 2), (1, vi id), (4, .bool false), (5, .bool s.2.2), (6, vi 1), (7, .slice s.1.1 (((z1.l.take s.2.1).filter (nI id)).length) s.1.2), (8, vi (s.2.1 : Int))]) (fun (s : (Option Addr × Nat) × Nat × Bool) => (row (kE .i64) 3 (.slice s.1.1 ((z1.l.take s.2.1).filter (nI id)).length s.1.2) ((z1.l.take s.2.1).filter (nI id)) :: blk k 55 [vp t, .slice a l.length c, vi z0.c, vi z1.c, vi z2.c, vi z3.c, .slice z0.a z0.l.length z0.k, .slice z1.a z1.l.length z1.k, .slice z2.a z2.l.length z2.k, .slice z3.a z3.l.length z3.k, vi mt, vi mg, vi la] :: row (kE .i64) 3 (.slice z0.a z0.l.length z0.k) z0.l :: row (kE .i64) 3 (.slice z1.a z1.l.length z1.k) z1.l :: row (kE .i64) 3 (.slice z2.a z2.l.length z2.k) z2.l :: row (kE .i64) 3 (.slice z3.a z3.l.length z3.k) z3.l :: H)) (fun k (s : (Option Addr × Nat) × Nat × Bool) => k + s.2.1 = z1.l.length) z1.l.length ((none, 0), 0, met) (by kernel_rfl) (by simp only; omega) ?_
  rintro j2 ⟨⟨qa, qc⟩, u, met2⟩ hku
  simp only at hku
  refine Xq (Xq (Xg 9 (Xr [(0,vq k 2), (1,vi id), (4,.bool false), (5,.bool met2), (6,vi 1), (7,.slice qa (((z1.l.take u).filter (nI id)).length) qc), (8,vi u), (13,vi u), (15,vi 1), (17,vq k 6)] ?_ 4 5)))
  refine Xs (yldS (Xj 51 (.tmp 17) (.tmp 15) k 6 4 1 1 50 1 18 Tryz.underlying51)) (fun _ => ?_) 3
  refine Xm [(0,vq k 2), (1,vi id), (4,.bool false), (5,.bool met2), (6,vi 1), (7,.slice qa (((z1.l.take u).filter (nI id)).length) qc), (8,vi u), (21,.bool (decide ((u : Int) < (z1.l.length : Int))))] [(⟨k, 7, none⟩, .slice z1.a z1.l.length z1.k)] (hasC (ba 1) has0) ?_ 3
  refine Xc (decide ((u : Int) < (z1.l.length : Int))) (fun g1 => ?_) (fun g1 => ?_)
  ·skip
   have hu : u < z1.l.length := by have := of_decide_eq_true g1; omega
   obtain ⟨x, hx⟩ : ∃ x, z1.l[u]? = some x := ⟨_, List.getElem?_eq_getElem hu⟩
   refine PT.know (KR.isSome (s := ⟨z1.a, z1.k, z1.l⟩) (rowKRat 3 rfl) (List.ne_nil_of_length_pos (by show 0 < z1.l.length; omega))) ?_
   rintro ⟨sb, so, hA⟩
   dsimp only at hA
   rw [hA]
   have hf := flt_take hx (nI id)
   have hfl : ((z1.l.take u).filter (nI id)).length ≤ 1000 := by have := List.length_filter_le (nI id) (z1.l.take u); simp only [List.length_take] at this; omega
   refine Xk (Xq (Xb 3 (Xq (Xg 11 (Xr [(0,vq k 2), (1,vi id), (4,.bool false), (5,.bool met2), (6,vi 1), (7,.slice qa (((z1.l.take u).filter (nI id)).length) qc), (8,vi u), (25,vi 1), (27,vq k 6)] ?_ 7 4)))))
   refine Xs (yldS (Xj 51 (.tmp 27) (.tmp 25) k 6 4 1 1 50 1 28 Tryz.underlying51)) (fun _ => ?_) 6
   refine Xl [(0,vq k 2), (1,vi id), (4,.bool false), (5,.bool met2), (6,vi 1), (7,.slice qa (((z1.l.take u).filter (nI id)).length) qc), (8,vi u), (29,.slice (some ⟨sb, so, none⟩) z1.l.length z1.k), (30,vi u)] [(⟨k, 7, none⟩, .slice (some ⟨sb, so, none⟩) z1.l.length z1.k)] (hasC (ba 1) has0) ?_ 4 2
   refine Xs (yldS (Xi 50 (.tmp 29) (.tmp 30) sb so z1.l.length z1.k u 1 3 (u : Int) 31 Tryz.underlying50)) (fun _ => ?_) 3
   refine Xm [(0,vq k 2), (1,vi id), (4,.bool false), (5,.bool met2), (6,vi 1), (7,.slice qa (((z1.l.take u).filter (nI id)).length) qc), (8,vi u), (34,.bool (x == id))] [(⟨sb, so + u * 1, none⟩, vi x)] (hasC (rowCell (E := kE .i64) (xs := z1.l) 3 rfl (x := x) hx (j := 0) rfl) has0) ?_ 3
   by_cases g2 : x = id
   ·skip
    rw [show nI id x = false by simp [nI, g2]] at hf
    simp only [Bool.false_eq_true, if_false, List.append_nil] at hf
    rw [show (x == id) = true from by simp [g2]]
    refine Xc true (fun _ => ?_) (fun h => by cases h)
    refine Xg 1 (Xe [(0,vq k 2), (1,vi id), (4,.bool false), (5,.bool true), (6,vi 1), (7,.slice qa (((z1.l.take u).filter (nI id)).length) qc), (8,vi u)] ?_ 1)
    refine Xg 3 (Xe [(0,vq k 2), (1,vi id), (4,.bool false), (5,.bool true), (6,vi 1), (7,.slice qa (((z1.l.take u).filter (nI id)).length) qc), (8,vi (IntKind.i64.wrap ((u : Int) + 1)))] ?_ 3)
    rw [show IntKind.i64.wrap ((u : Int) + 1) = ((u : Int) + 1) by rw [w64 (by omega) (by omega)]]
    rw [← hf, ← hA]
    refine Xp [(0,vq k 2), (1,vi id), (4,.bool false), (5,.bool true), (6,vi 1), (7,.slice qa (((z1.l.take (u + 1)).filter (nI id)).length) qc), (8,vi ((u : Int) + 1))] ?_
    exact againG (j2 - 1) ((qa, qc), u + 1, true) rfl rfl (by omega) (by simp only; omega)
   ·skip
    rw [show nI id x = true by simp [nI, g2]] at hf
    simp only [if_true] at hf
    rw [show (x == id) = false from by simp [g2]]
    refine Xc false (fun h => by cases h) (fun _ => ?_)
    refine Xg 13 (Xr [(0,vq k 2), (1,vi id), (4,.bool false), (5,.bool met2), (6,vi 1), (7,.slice qa (((z1.l.take u).filter (nI id)).length) qc), (8,vi u), (35,.slice qa (((z1.l.take u).filter (nI id)).length) qc), (37,vi 1), (39,vq k 6)] ?_ 8 5)
    refine Xs (yldS (Xj 51 (.tmp 39) (.tmp 37) k 6 4 1 1 50 1 40 Tryz.underlying51)) (fun _ => ?_) 7
    refine Xl [(0,vq k 2), (1,vi id), (4,.bool false), (5,.bool met2), (6,vi 1), (7,.slice qa (((z1.l.take u).filter (nI id)).length) qc), (8,vi u), (35,.slice qa (((z1.l.take u).filter (nI id)).length) qc), (41,.slice (some ⟨sb, so, none⟩) z1.l.length z1.k), (42,vi u)] [(⟨k, 7, none⟩, .slice (some ⟨sb, so, none⟩) z1.l.length z1.k)] (hasC (ba 1) has0) ?_ 5 2
    refine Xs (yldS (Xi 50 (.tmp 41) (.tmp 42) sb so z1.l.length z1.k u 1 3 (u : Int) 43 Tryz.underlying50)) (fun _ => ?_) 4
    refine Xl [(0,vq k 2), (1,vi id), (4,.bool false), (5,.bool met2), (6,vi 1), (7,.slice qa (((z1.l.take u).filter (nI id)).length) qc), (8,vi u), (35,.slice qa (((z1.l.take u).filter (nI id)).length) qc), (44,vi x)] [(⟨sb, so + u * 1, none⟩, vi x)] (hasC (rowCell (E := kE .i64) (xs := z1.l) 3 rfl (x := x) hx (j := 0) rfl) has0) ?_ 3 1
    refine Xs (Xn 3 [vi x] (some 45) (fun b => .slice (some ⟨b, 0, none⟩) 1 1)) (fun b1 => ?_) 2
    refine Xh0 ?_ 1 2
    refine Xs (Xf (E := (kE .i64)) 50 (.tmp 35) (.tmp 45) qa qc ((z1.l.take u).filter (nI id)) [x] (.slice (some ⟨b1, 0, none⟩) 1 1) 46 Tryz.underlying50 (kI_ety8) (blkRd (x := x) 1 rfl) (by simp only [List.length_cons, List.length_nil]; omega)) (fun r2 => ?_) 1
    refine Xe [(0,vq k 2), (1,vi id), (4,.bool false), (5,.bool met2), (6,vi 1), (7,.slice r2.1 ((((z1.l.take u).filter (nI id)) ++ [x]).length) r2.2), (8,vi u)] ?_ 1
    refine Xg 3 (Xe [(0,vq k 2), (1,vi id), (4,.bool false), (5,.bool met2), (6,vi 1), (7,.slice r2.1 ((((z1.l.take u).filter (nI id)) ++ [x]).length) r2.2), (8,vi (IntKind.i64.wrap ((u : Int) + 1)))] ?_ 3)
    rw [show IntKind.i64.wrap ((u : Int) + 1) = ((u : Int) + 1) by rw [w64 (by omega) (by omega)]]
    refine PT.pick 1 rfl ?_
    refine PT.drop ?_
    rw [← hf, ← hA]
    refine Xp [(0,vq k 2), (1,vi id), (4,.bool false), (5,.bool met2), (6,vi 1), (7,.slice r2.1 (((z1.l.take (u + 1)).filter (nI id)).length) r2.2), (8,vi ((u : Int) + 1))] ?_
    exact againG (j2 - 1) (r2, u + 1, met2) rfl rfl (by omega) (by simp only; omega)
  ·skip
   have hu : u = z1.l.length := by have := of_decide_eq_false g1; omega
   have htk : z1.l.take u = z1.l := List.take_of_length_le (by omega)
   rw [htk]
   refine Xx 2 (thenX (thenX (leaveR (Xg 7 (Xr [(0,vq k 2), (1,vi id), (4,.bool false), (5,.bool met2), (6,vi 1), (48,vi 1), (49,.slice qa ((z1.l.filter (nI id)).length) qc), (51,vq k 6)] ?_ 2 5)))))
   refine Xs (yldS (Xj 51 (.tmp 51) (.tmp 48) k 6 4 1 1 50 1 52 Tryz.underlying51)) (fun _ => ?_) 1
   refine Xh0 ?_ 1 1
   refine Xs (Xz [(7,.slice qa ((z1.l.filter (nI id)).length) qc)]) (fun _ => ?_) 0
   refine endR ?_
   refine Xg 3 (Xe [(0,vq k 2), (1,vi id), (4,.bool false), (5,.bool met2), (6,vi (IntKind.i64.wrap (1 + 1)))] ?_ 3)
   rw [show IntKind.i64.wrap (1 + 1) = (1 + 1) by rw [w64 (by omega) (by omega)]]
   refine PT.pick 3 rfl ?_
   refine PT.drop ?_
   refine PT.pick 4 rfl ?_
   refine PT.pick 4 rfl ?_
   refine PT.pick 3 rfl ?_
   refine PT.pick 4 rfl ?_
   refine PT.pick 4 rfl ?_
   refine Xp [(0,vq k 2), (1,vi id), (4,.bool false), (5,.bool met2), (6,vi (1 + 1))] ?_
   exact againG (j - 1) (⟨z0, ⟨z1.c, qa, qc, z1.l.filter (nI id)⟩, z2, z3⟩, 2, met2) rfl rfl (by omega) ⟨by simp only; omega, by simpa using hI.p0, by simp [hz], by simpa using hI.p2, by simpa using hI.p3⟩
 ·skip
  have hz : z2 = Z.z2 := by have := hI.p2; simpa using this
  have hzl : z2.l.length ≤ 1000 := by rw [hz]; exact h2.2.2
  refine Xq (Xq (Xg 2 (Xe [(0,vq k 2), (1,vi id), (4,.bool false), (5,.bool met), (6,vi 2), (10,.bool true)] ?_ 2)))
  refine Xc true (fun _ => ?_) (fun h => by cases h)
  refine Xk (Xq (Xb 1 (Xq (Xg 1 (Xe [(0,vq k 2), (1,vi id), (4,.bool false), (5,.bool met), (6,vi 2), (7,.slice none 0 0)] ?_ 1)))))
  refine Xq (Xq (Xg 1 (Xe [(0,vq k 2), (1,vi id), (4,.bool false), (5,.bool met), (6,vi 2), (7,.slice none 0 0), (8,vi 0)] ?_ 1)))
  refine Xb 2 ?_
  refine PT.rowNil (kE .i64) 3 ?_
  refine Xp [(0,vq k 2), (1,vi id), (4,.bool false), (5,.bool met), (6,vi 2), (7,.slice none 0 0), (8,vi 0)] ?_
  refine loopG (fun (s : (Option Addr × Nat) × Nat × Bool) => [(0, vq k 2), (1, vi id), (4, .bool false), (5, .bool s.2.2), (6, vi 2), (7, .slice s.1.1 (((z2.l.take s.2.1).filter (nI id)).length) s.1.2), (8, vi (s.2.1 : Int))]) (fun (s : (Option Addr × Nat) × Nat × Bool) => (row (kE .i64) 3 (.slice s.1.1 ((z2.l.take s.2.1).filter (nI id)).length s.1.2) ((z2.l.take s.2.1).filter (nI id)) :: blk k 55 [vp t, .slice a l.length c, vi z0.c, vi z1.c, vi z2.c, vi z3.c, .slice z0.a z0.l.length z0.k, .slice z1.a z1.l.length z1.k, .slice z2.a z2.l.length z2.k, .slice z3.a z3.l.length z3.k, vi mt, vi mg, vi la] :: row (kE .i64) 3 (.slice z0.a z0.l.length z0.k) z0.l :: row (kE .i64) 3 (.slice z1.a z1.l.length z1.k) z1.l :: row (kE .i64) 3 (.slice z2.a z2.l.length z2.k) z2.l :: row (kE .i64) 3 (.slice z3.a z3.l.length z3.k) z3.l :: H)) (fun k (s : (Option Addr × Nat) × Nat × Bool) => k + s.2.1 = z2.l.length) z2.l.length ((none, 0), 0, met) (by kernel_rfl) (by simp only; omega) ?_
  rintro j2 ⟨⟨qa, qc⟩, u, met2⟩ hku
  simp only at hku
  refine Xq (Xq (Xg 9 (Xr [(0,vq k 2), (1,vi id), (4,.bool false), (5,.bool met2), (6,vi 2), (7,.slice qa (((z2.l.take u).filter (nI id)).length) qc), (8,vi u), (13,vi u), (15,vi 2), (17,vq k 6)] ?_ 4 5)))
  refine Xs (yldS (Xj 51 (.tmp 17) (.tmp 15) k 6 4 2 1 50 2 18 Tryz.underlying51)) (fun _ => ?_) 3
  refine Xm [(0,vq k 2), (1,vi id), (4,.bool false), (5,.bool met2), (6,vi 2), (7,.slice qa (((z2.l.take u).filter (nI id)).length) qc), (8,vi u), (21,.bool (decide ((u : Int) < (z2.l.length : Int))))] [(⟨k, 8, none⟩, .slice z2.a z2.l.length z2.k)] (hasC (ba 1) has0) ?_ 3
  refine Xc (decide ((u : Int) < (z2.l.length : Int))) (fun g1 => ?_) (fun g1 => ?_)
  ·skip
   have hu : u < z2.l.length := by have := of_decide_eq_true g1; omega
   obtain ⟨x, hx⟩ : ∃ x, z2.l[u]? = some x := ⟨_, List.getElem?_eq_getElem hu⟩
   refine PT.know (KR.isSome (s := ⟨z2.a, z2.k, z2.l⟩) (rowKRat 4 rfl) (List.ne_nil_of_length_pos (by show 0 < z2.l.length; omega))) ?_
   rintro ⟨sb, so, hA⟩
   dsimp only at hA
   rw [hA]
   have hf := flt_take hx (nI id)
   have hfl : ((z2.l.take u).filter (nI id)).length ≤ 1000 := by have := List.length_filter_le (nI id) (z2.l.take u); simp only [List.length_take] at this; omega
   refine Xk (Xq (Xb 3 (Xq (Xg 11 (Xr [(0,vq k 2), (1,vi id), (4,.bool false), (5,.bool met2), (6,vi 2), (7,.slice qa (((z2.l.take u).filter (nI id)).length) qc), (8,vi u), (25,vi 2), (27,vq k 6)] ?_ 7 4)))))
   refine Xs (yldS (Xj 51 (.tmp 27) (.tmp 25) k 6 4 2 1 50 2 28 Tryz.underlying51)) (fun _ => ?_) 6
   refine Xl [(0,vq k 2), (1,vi id), (4,.bool false), (5,.bool met2), (6,vi 2), (7,.slice qa (((z2.l.take u).filter (nI id)).length) qc), (8,vi u), (29,.slice (some ⟨sb, so, none⟩) z2.l.length z2.k), (30,vi u)] [(⟨k, 8, none⟩, .slice (some ⟨sb, so, none⟩) z2.l.length z2.k)] (hasC (ba 1) has0) ?_ 4 2
   refine Xs (yldS (Xi 50 (.tmp 29) (.tmp 30) sb so z2.l.length z2.k u 1 3 (u : Int) 31 Tryz.underlying50)) (fun _ => ?_) 3
   refine Xm [(0,vq k 2), (1,vi id), (4,.bool false), (5,.bool met2), (6,vi 2), (7,.slice qa (((z2.l.take u).filter (nI id)).length) qc), (8,vi u), (34,.bool (x == id))] [(⟨sb, so + u * 1, none⟩, vi x)] (hasC (rowCell (E := kE .i64) (xs := z2.l) 4 rfl (x := x) hx (j := 0) rfl) has0) ?_ 3
   by_cases g2 : x = id
   ·skip
    rw [show nI id x = false by simp [nI, g2]] at hf
    simp only [Bool.false_eq_true, if_false, List.append_nil] at hf
    rw [show (x == id) = true from by simp [g2]]
    refine Xc true (fun _ => ?_) (fun h => by cases h)
    refine Xg 1 (Xe [(0,vq k 2), (1,vi id), (4,.bool false), (5,.bool true), (6,vi 2), (7,.slice qa (((z2.l.take u).filter (nI id)).length) qc), (8,vi u)] ?_ 1)
    refine Xg 3 (Xe [(0,vq k 2), (1,vi id), (4,.bool false), (5,.bool true), (6,vi 2), (7,.slice qa (((z2.l.take u).filter (nI id)).length) qc), (8,vi (IntKind.i64.wrap ((u : Int) + 1)))] ?_ 3)
    rw [show IntKind.i64.wrap ((u : Int) + 1) = ((u : Int) + 1) by rw [w64 (by omega) (by omega)]]
    rw [← hf, ← hA]
    refine Xp [(0,vq k 2), (1,vi id), (4,.bool false), (5,.bool true), (6,vi 2), (7,.slice qa (((z2.l.take (u + 1)).filter (nI id)).length) qc), (8,vi ((u : Int) + 1))] ?_
    exact againG (j2 - 1) ((qa, qc), u + 1, true) rfl rfl (by omega) (by simp only; omega)
   ·skip
    rw [show nI id x = true by simp [nI, g2]] at hf
    simp only [if_true] at hf
    rw [show (x == id) = false from by simp [g2]]
    refine Xc false (fun h => by cases h) (fun _ => ?_)
    refine Xg 13 (Xr [(0,vq k 2), (1,vi id), (4,.bool false), (5,.bool met2), (6,vi 2), (7,.slice qa (((z2.l.take u).filter (nI id)).length) qc), (8,vi u), (35,.slice qa (((z2.l.take u).filter (nI id)).length) qc), (37,vi 2), (39,vq k 6)] ?_ 8 5)
    refine Xs (yldS (Xj 51 (.tmp 39) (.tmp 37) k 6 4 2 1 50 2 40 Tryz.underlying51)) (fun _ => ?_) 7
    refine Xl [(0,vq k 2), (1,vi id), (4,.bool false), (5,.bool met2), (6,vi 2), (7,.slice qa (((z2.l.take u).filter (nI id)).length) qc), (8,vi u), (35,.slice qa (((z2.l.take u).filter (nI id)).length) qc), (41,.slice (some ⟨sb, so, none⟩) z2.l.length z2.k), (42,vi u)] [(⟨k, 8, none⟩, .slice (some ⟨sb, so, none⟩) z2.l.length z2.k)] (hasC (ba 1) has0) ?_ 5 2
    refine Xs (yldS (Xi 50 (.tmp 41) (.tmp 42) sb so z2.l.length z2.k u 1 3 (u : Int) 43 Tryz.underlying50)) (fun _ => ?_) 4
    refine Xl [(0,vq k 2), (1,vi id), (4,.bool false), (5,.bool met2), (6,vi 2), (7,.slice qa (((z2.l.take u).filter (nI id)).length) qc), (8,vi u), (35,.slice qa (((z2.l.take u).filter (nI id)).length) qc), (44,vi x)] [(⟨sb, so + u * 1, none⟩, vi x)] (hasC (rowCell (E := kE .i64) (xs := z2.l) 4 rfl (x := x) hx (j := 0) rfl) has0) ?_ 3 1
    refine Xs (Xn 3 [vi x] (some 45) (fun b => .slice (some ⟨b, 0, none⟩) 1 1)) (fun b1 => ?_) 2
    refine Xh0 ?_ 1 2
    refine Xs (Xf (E := (kE .i64)) 50 (.tmp 35) (.tmp 45) qa qc ((z2.l.take u).filter (nI id)) [x] (.slice (some ⟨b1, 0, none⟩) 1 1) 46 Tryz.underlying50 (kI_ety8) (blkRd (x := x) 1 rfl) (by simp only [List.length_cons, List.length_nil]; omega)) (fun r2 => ?_) 1
    refine Xe [(0,vq k 2), (1,vi id), (4,.bool false), (5,.bool met2), (6,vi 2), (7,.slice r2.1 ((((z2.l.take u).filter (nI id)) ++ [x]).length) r2.2), (8,vi u)] ?_ 1
    refine Xg 3 (Xe [(0,vq k 2), (1,vi id), (4,.bool false), (5,.bool met2), (6,vi 2), (7,.slice r2.1 ((((z2.l.take u).filter (nI id)) ++ [x]).length) r2.2), (8,vi (IntKind.i64.wrap ((u : Int) + 1)))] ?_ 3)
    rw [show IntKind.i64.wrap ((u : Int) + 1) = ((u : Int) + 1) by rw [w64 (by omega) (by omega)]]
    refine PT.pick 1 rfl ?_
    refine PT.drop ?_
    rw [← hf, ← hA]
    refine Xp [(0,vq k 2), (1,vi id), (4,.bool false), (5,.bool met2), (6,vi 2), (7,.slice r2.1 (((z2.l.take (u + 1)).filter (nI id)).length) r2.2), (8,vi ((u : Int) + 1))] ?_
    exact againG (j2 - 1) (r2, u + 1, met2) rfl rfl (by omega) (by simp only; omega)
  ·skip
   have hu : u = z2.l.length := by have := of_decide_eq_false g1; omega
   have htk : z2.l.take u = z2.l := List.take_of_length_le (by omega)
   rw [htk]
   refine Xx 2 (thenX (thenX (leaveR (Xg 7 (Xr [(0,vq k 2), (1,vi id), (4,.bool false), (5,.bool met2), (6,vi 2), (48,vi 2), (49,.slice qa ((z2.l.filter (nI id)).length) qc), (51,vq k 6)] ?_ 2 5)))))
   refine Xs (yldS (Xj 51 (.tmp 51) (.tmp 48) k 6 4 2 1 50 2 52 Tryz.underlying51)) (fun _ => ?_) 1
   refine Xh0 ?_ 1 1
   refine Xs (Xz [(8,.slice qa ((z2.l.filter (nI id)).length) qc)]) (fun _ => ?_) 0
   refine endR ?_
   refine Xg 3 (Xe [(0,vq k 2), (1,vi id), (4,.bool false), (5,.bool met2), (6,vi (IntKind.i64.wrap (2 + 1)))] ?_ 3)
   rw [show IntKind.i64.wrap (2 + 1) = (2 + 1) by rw [w64 (by omega) (by omega)]]
   refine PT.pick 4 rfl ?_
   refine PT.drop ?_
   refine PT.pick 4 rfl ?_
   refine PT.pick 2 rfl ?_
   refine PT.pick 4 rfl ?_
   refine PT.pick 4 rfl ?_
   refine PT.pick 4 rfl ?_
   refine Xp [(0,vq k 2), (1,vi id), (4,.bool false), (5,.bool met2), (6,vi (2 + 1))] ?_
   exact againG (j - 1) (⟨z0, z1, ⟨z2.c, qa, qc, z2.l.filter (nI id)⟩, z3⟩, 3, met2) rfl rfl (by omega) ⟨by simp only; omega, by simpa using hI.p0, by simpa using hI.p1, by simp [hz], by simpa using hI.p3⟩
 ·skip
  have hz : z3 = Z.z3 := by have := hI.p3; simpa using this
  have hzl : z3.l.length ≤ 1000 := by rw [hz]; exact h3.2.2
  refine Xq (Xq (Xg 2 (Xe [(0,vq k 2), (1,vi id), (4,.bool false), (5,.bool met), (6,vi 3), (10,.bool true)] ?_ 2)))
  refine Xc true (fun _ => ?_) (fun h => by cases h)
  refine Xk (Xq (Xb 1 (Xq (Xg 1 (Xe [(0,vq k 2), (1,vi id), (4,.bool false), (5,.bool met), (6,vi 3), (7,.slice none 0 0)] ?_ 1)))))
  refine Xq (Xq (Xg 1 (Xe [(0,vq k 2), (1,vi id), (4,.bool false), (5,.bool met), (6,vi 3), (7,.slice none 0 0), (8,vi 0)] ?_ 1)))
  refine Xb 2 ?_
  refine PT.rowNil (kE .i64) 3 ?_
  refine Xp [(0,vq k 2), (1,vi id), (4,.bool false), (5,.bool met), (6,vi 3), (7,.slice none 0 0), (8,vi 0)] ?_
  refine loopG (fun (s : (Option Addr × Nat) × Nat × Bool) => [(0, vq k 2), (1, vi id), (4, .bool false), (5, .bool s.2.2), (6, vi 3), (7, .slice s.1.1 (((z3.l.take s.2.1).filter (nI id)).length) s.1.2), (8, vi (s.2.1 : Int))]) (fun (s : (Option Addr × Nat) × Nat × Bool) => (row (kE .i64) 3 (.slice s.1.1 ((z3.l.take s.2.1).filter (nI id)).length s.1.2) ((z3.l.take s.2.1).filter (nI id)) :: blk k 55 [vp t, .slice a l.length c, vi z0.c, vi z1.c, vi z2.c, vi z3.c, .slice z0.a z0.l.length z0.k, .slice z1.a z1.l.length z1.k, .slice z2.a z2.l.length z2.k, .slice z3.a z3.l.length z3.k, vi mt, vi mg, vi la] :: row (kE .i64) 3 (.slice z0.a z0.l.length z0.k) z0.l :: row (kE .i64) 3 (.slice z1.a z1.l.length z1.k) z1.l :: row (kE .i64) 3 (.slice z2.a z2.l.length z2.k) z2.l :: row (kE .i64) 3 (.slice z3.a z3.l.length z3.k) z3.l :: H)) (fun k (s : (Option Addr × Nat) × Nat × Bool) => k + s.2.1 = z3.l.length) z3.l.length ((none, 0), 0, met) (by kernel_rfl) (by simp only; omega) ?_
  rintro j2 ⟨⟨qa, qc⟩, u, met2⟩ hku
  simp only at hku
  refine Xq (Xq (Xg 9 (Xr [(0,vq k 2), (1,vi id), (4,.bool false), (5,.bool met2), (6,vi 3), (7,.slice qa (((z3.l.take u).filter (nI id)).length) qc), (8,vi u), (13,vi u), (15,vi 3), (17,vq k 6)] ?_ 4 5)))
  refine Xs (yldS (Xj 51 (.tmp 17) (.tmp 15) k 6 4 3 1 50 3 18 Tryz.underlying51)) (fun _ => ?_) 3
  refine Xm [(0,vq k 2), (1,vi id), (4,.bool false), (5,.bool met2), (6,vi 3), (7,.slice qa (((z3.l.take u).filter (nI id)).length) qc), (8,vi u), (21,.bool (decide ((u : Int) < (z3.l.length : Int))))] [(⟨k, 9, none⟩, .slice z3.a z3.l.length z3.k)] (hasC (ba 1) has0) ?_ 3
  refine Xc (decide ((u : Int) < (z3.l.length : Int))) (fun g1 => ?_) (fun g1 => ?_)
  ·skip
   have hu : u < z3.l.length := by have := of_decide_eq_true g1; omega
   obtain ⟨x, hx⟩ : ∃ x, z3.l[u]? = some x := ⟨_, List.getElem?_eq_getElem hu⟩
   refine PT.know (KR.isSome (s := ⟨z3.a, z3.k, z3.l⟩) (rowKRat 5 rfl) (List.ne_nil_of_length_pos (by show 0 < z3.l.length; omega))) ?_
   rintro ⟨sb, so, hA⟩
   dsimp only at hA
   rw [hA]
   have hf := flt_take hx (nI id)
   have hfl : ((z3.l.take u).filter (nI id)).length ≤ 1000 := by have := List.length_filter_le (nI id) (z3.l.take u); simp only [List.length_take] at this; omega
   refine Xk (Xq (Xb 3 (Xq (Xg 11 (Xr [(0,vq k 2), (1,vi id), (4,.bool false), (5,.bool met2), (6,vi 3), (7,.slice qa (((z3.l.take u).filter (nI id)).length) qc), (8,vi u), (25,vi 3), (27,vq k 6)] ?_ 7 4)))))
   refine Xs (yldS (Xj 51 (.tmp 27) (.tmp 25) k 6 4 3 1 50 3 28 Tryz.underlying51)) (fun _ => ?_) 6
   refine Xl [(0,vq k 2), (1,vi id), (4,.bool false), (5,.bool met2), (6,vi 3), (7,.slice qa (((z3.l.take u).filter (nI id)).length) qc), (8,vi u), (29,.slice (some ⟨sb, so, none⟩) z3.l.length z3.k), (30,vi u)] [(⟨k, 9, none⟩, .slice (some ⟨sb, so, none⟩) z3.l.length z3.k)] (hasC (ba 1) has0) ?_ 4 2
   refine Xs (yldS (Xi 50 (.tmp 29) (.tmp 30) sb so z3.l.length z3.k u 1 3 (u : Int) 31 Tryz.underlying50)) (fun _ => ?_) 3
   refine Xm [(0,vq k 2), (1,vi id), (4,.bool false), (5,.bool met2), (6,vi 3), (7,.slice qa (((z3.l.take u).filter (nI id)).length) qc), (8,vi u), (34,.bool (x == id))] [(⟨sb, so + u * 1, none⟩, vi x)] (hasC (rowCell (E := kE .i64) (xs := z3.l) 5 rfl (x := x) hx (j := 0) rfl) has0) ?_ 3
   by_cases g2 : x = id
   ·skip
    rw [show nI id x = false by simp [nI, g2]] at hf
    simp only [Bool.false_eq_true, if_false, List.append_nil] at hf
    rw [show (x == id) = true from by simp [g2]]
    refine Xc true (fun _ => ?_) (fun h => by cases h)
    refine Xg 1 (Xe [(0,vq k 2), (1,vi id), (4,.bool false), (5,.bool true), (6,vi 3), (7,.slice qa (((z3.l.take u).filter (nI id)).length) qc), (8,vi u)] ?_ 1)
    refine Xg 3 (Xe [(0,vq k 2), (1,vi id), (4,.bool false), (5,.bool true), (6,vi 3), (7,.slice qa (((z3.l.take u).filter (nI id)).length) qc), (8,vi (IntKind.i64.wrap ((u : Int) + 1)))] ?_ 3)
    rw [show IntKind.i64.wrap ((u : Int) + 1) = ((u : Int) + 1) by rw [w64 (by omega) (by omega)]]
    rw [← hf, ← hA]
    refine Xp [(0,vq k 2), (1,vi id), (4,.bool false), (5,.bool true), (6,vi 3), (7,.slice qa (((z3.l.take (u + 1)).filter (nI id)).length) qc), (8,vi ((u : Int) + 1))] ?_
    exact againG (j2 - 1) ((qa, qc), u + 1, true) rfl rfl (by omega) (by simp only; omega)
   ·skip
    rw [show nI id x = true by simp [nI, g2]] at hf
    simp only [if_true] at hf
    rw [show (x == id) = false from by simp [g2]]
    refine Xc false (fun h => by cases h) (fun _ => ?_)
    refine Xg 13 (Xr [(0,vq k 2), (1,vi id), (4,.bool false), (5,.bool met2), (6,vi 3), (7,.slice qa (((z3.l.take u).filter (nI id)).length) qc), (8,vi u), (35,.slice qa (((z3.l.take u).filter (nI id)).length) qc), (37,vi 3), (39,vq k 6)] ?_ 8 5)
    refine Xs (yldS (Xj 51 (.tmp 39) (.tmp 37) k 6 4 3 1 50 3 40 Tryz.underlying51)) (fun _ => ?_) 7
    refine Xl [(0,vq k 2), (1,vi id), (4,.bool false), (5,.bool met2), (6,vi 3), (7,.slice qa (((z3.l.take u).filter (nI id)).length) qc), (8,vi u), (35,.slice qa (((z3.l.take u).filter (nI id)).length) qc), (41,.slice (some ⟨sb, so, none⟩) z3.l.length z3.k), (42,vi u)] [(⟨k, 9, none⟩, .slice (some ⟨sb, so, none⟩) z3.l.length z3.k)] (hasC (ba 1) has0) ?_ 5 2
    refine Xs (yldS (Xi 50 (.tmp 41) (.tmp 42) sb so z3.l.length z3.k u 1 3 (u : Int) 43 Tryz.underlying50)) (fun _ => ?_) 4
    refine Xl [(0,vq k 2), (1,vi id), (4,.bool false), (5,.bool met2), (6,vi 3), (7,.slice qa (((z3.l.take u).filter (nI id)).length) qc), (8,vi u), (35,.slice qa (((z3.l.take u).filter (nI id)).length) qc), (44,vi x)] [(⟨sb, so + u * 1, none⟩, vi x)] (hasC (rowCell (E := kE .i64) (xs := z3.l) 5 rfl (x := x) hx (j := 0) rfl) has0) ?_ 3 1
    refine Xs (Xn 3 [vi x] (some 45) (fun b => .slice (some ⟨b, 0, none⟩) 1 1)) (fun b1 => ?_) 2
    refine Xh0 ?_ 1 2
    refine Xs (Xf (E := (kE .i64)) 50 (.tmp 35) (.tmp 45) qa qc ((z3.l.take u).filter (nI id)) [x] (.slice (some ⟨b1, 0, none⟩) 1 1) 46 Tryz.underlying50 (kI_ety8) (blkRd (x := x) 1 rfl) (by simp only [List.length_cons, List.length_nil]; omega)) (fun r2 => ?_) 1
    refine Xe [(0,vq k 2), (1,vi id), (4,.bool false), (5,.bool met2), (6,vi 3), (7,.slice r2.1 ((((z3.l.take u).filter (nI id)) ++ [x]).length) r2.2), (8,vi u)] ?_ 1
    refine Xg 3 (Xe [(0,vq k 2), (1,vi id), (4,.bool false), (5,.bool met2), (6,vi 3), (7,.slice r2.1 ((((z3.l.take u).filter (nI id)) ++ [x]).length) r2.2), (8,vi (IntKind.i64.wrap ((u : Int) + 1)))] ?_ 3)
    rw [show IntKind.i64.wrap ((u : Int) + 1) = ((u : Int) + 1) by rw [w64 (by omega) (by omega)]]
    refine PT.pick 1 rfl ?_
    refine PT.drop ?_
    rw [← hf, ← hA]
    refine Xp [(0,vq k 2), (1,vi id), (4,.bool false), (5,.bool met2), (6,vi 3), (7,.slice r2.1 (((z3.l.take (u + 1)).filter (nI id)).length) r2.2), (8,vi ((u : Int) + 1))] ?_
    exact againG (j2 - 1) (r2, u + 1, met2) rfl rfl (by omega) (by simp only; omega)
  ·skip
   have hu : u = z3.l.length := by have := of_decide_eq_false g1; omega
   have htk : z3.l.take u = z3.l := List.take_of_length_le (by omega)
   rw [htk]
   refine Xx 2 (thenX (thenX (leaveR (Xg 7 (Xr [(0,vq k 2), (1,vi id), (4,.bool false), (5,.bool met2), (6,vi 3), (48,vi 3), (49,.slice qa ((z3.l.filter (nI id)).length) qc), (51,vq k 6)] ?_ 2 5)))))
   refine Xs (yldS (Xj 51 (.tmp 51) (.tmp 48) k 6 4 3 1 50 3 52 Tryz.underlying51)) (fun _ => ?_) 1
   refine Xh0 ?_ 1 1
   refine Xs (Xz [(9,.slice qa ((z3.l.filter (nI id)).length) qc)]) (fun _ => ?_) 0
   refine endR ?_
   refine Xg 3 (Xe [(0,vq k 2), (1,vi id), (4,.bool false), (5,.bool met2), (6,vi (IntKind.i64.wrap (3 + 1)))] ?_ 3)
   rw [show IntKind.i64.wrap (3 + 1) = (3 + 1) by rw [w64 (by omega) (by omega)]]
   refine PT.pick 5 rfl ?_
   refine PT.drop ?_
   refine PT.pick 1 rfl ?_
   refine PT.pick 4 rfl ?_
   refine PT.pick 4 rfl ?_
   refine PT.pick 4 rfl ?_
   refine PT.pick 4 rfl ?_
   refine Xp [(0,vq k 2), (1,vi id), (4,.bool false), (5,.bool met2), (6,vi (3 + 1))] ?_
   exact againG (j - 1) (⟨z0, z1, z2, ⟨z3.c, qa, qc, z3.l.filter (nI id)⟩⟩, 4, met2) rfl rfl (by omega) ⟨by simp only; omega, by simpa using hI.p0, by simpa using hI.p1, by simpa using hI.p2, by simp [hz]⟩
 ·skip
  have hd := hI.done
  refine Xq (Xq (Xg 2 (Xe [(0,vq k 2), (1,vi id), (4,.bool false), (5,.bool met), (6,vi 4), (10,.bool false)] ?_ 2)))
  refine Xc false (fun h => by cases h) (fun _ => ?_)
  refine Xx 0 (thenX (thenX (leaveR (Xq (Xg 2 (Xe [(4,.bool met)] ?_ 2))))))
  refine Xv (Y0 (.bool met) (fun w hs => ?_))
  exact ⟨⟨(⟨z0, z1, z2, z3⟩, met), hd⟩, rfl, hs⟩
end Go.Proofs.YtlhjibkkkhgonaaGreatDoor
