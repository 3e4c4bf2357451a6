/- Texts put together: KernelPlays: its walk. Conditions: none. -/
import Derived.Test.YtlhjibkkkhgonaaGreatDoorMgKd6
set_option linter.unusedVariables false
set_option linter.unusedSimpArgs false
namespace Go.Proofs.YtlhjibkkkhgonaaGreatDoor
open Go.RowKit G
theorem code10_nil (H : List SP) : ∀ w, Sat w H → Calls Tryz.prog 8 #[.nilIface] w (Ret (ι := Unit) (fun _ => vi 0) fun _ => H) := by
 refine enterG (fn := Tryz.f8) 11 [.nilIface] Tryz.func8 (by kernel_rfl) (by kernel_rfl) (by kernel_rfl) ?_
 refine Xq (Xg 1 (Xe [(0,.nilIface), (2,vi 0)] ?_ 1))
 refine Xq (Xg 1 (Xs (Xn 66 [vi 0] (some 3) (fun b => vp b)) (fun b1 => ?_) 0))
 refine endR ?_
 refine Xq (Xq (Xg 2 (Xe [(3,vp b1), (0,.nilIface), (2,vi 0), (5,.bool true)] ?_ 2)))
 refine Xc true (fun _ => ?_) (fun h => by cases h)
 refine Xq (Xg 1 (Xe [(3,vp b1), (0,.nilIface), (2,vi 0)] ?_ 1))
 refine Xv (thenV (Y0 (vi 0) (fun w hs => ?_)))
 exact ⟨(), rfl, hs.tail⟩
set_option maxRecDepth 100000 in
theorem code10_err (H : List SP) (hE : EK H) (e : Int) : ∀ w, Sat w H → Calls Tryz.prog 8 #[.iface 66 (vi e)] w (Ret (ι := Unit) (fun _ => vi e) fun _ => H) := by
 refine enterG (fn := Tryz.f8) 11 [.iface 66 (vi e)] Tryz.func8 (by kernel_rfl) (by kernel_rfl) (by kernel_rfl) ?_
 refine Xq (Xg 1 (Xe [(0,.iface 66 (vi e)), (2,vi 0)] ?_ 1))
 refine Xq (Xg 1 (Xs (Xn 66 [vi 0] (some 3) (fun b => vp b)) (fun b1 => ?_) 0))
 refine endR ?_
 refine Xq (Xq (Xg 2 (Xe [(3,vp b1), (0,.iface 66 (vi e)), (2,vi 0), (5,.bool false)] ?_ 2)))
 refine Xc false (fun h => by cases h) (fun _ => ?_)
 refine Xk (Xq (Xq (Xg 4 (Xr [(3,vp b1), (2,vi 0), (6,.iface 66 (vi e)), (7,.iface 81 (vp b1))] ?_ 2 2))))
 refine Xs (Xa (some 8) (fun _ => .bool true) (as_errno _ hE e 0 b1)) (fun _ => ?_) 1
 refine Xe [(3,vp b1), (2,vi 0), (9,.bool false)] ?_ 1
 refine Xc false (fun h => by cases h) (fun _ => ?_)
 refine Xk (Xq (Xg 2 (Xm [(2,vi e)] [(⟨b1, 0, none⟩, vi e)] (hasC (ba 0) has0) ?_ 2)))
 refine Xv (Y0 (vi e) (fun w hs => ?_))
 exact ⟨(), rfl, hs.tail⟩
theorem code10_walk (H : List SP) (hE : EK H) (e : Int) : ∀ w, Sat w H → Calls Tryz.prog 8 #[pqErr e] w (Ret (ι := Unit) (fun _ => vi e) fun _ => H) := by
 by_cases h0 : e = 0
 ·subst h0; exact code10_nil H
 ·rw [pqErr, if_neg h0]; exact code10_err H hE e
theorem kwait_nx (s : KS) (id j : Int) : (kwait s id j).2.nx = s.nx := by unfold kwait; split; rfl; split <;> rfl
theorem ksleep_nx (s : KS) (id j : Int) : (ksleep s id j).2.nx = s.nx := by unfold ksleep; split <;> rfl
theorem ksignal_nx (s : KS) (j : Int) : (ksignal s j).2.nx = s.nx := by unfold ksignal; split <;> rfl
theorem kexit_nx (s : KS) (id : Int) : (kexit s id).2.nx = s.nx := by unfold kexit; split <;> rfl
theorem kadds_nx (s : KS) (par wt most : Int) (thr : Bool) : (kadds s par wt most thr).2.nx ≤ s.nx + 1 := by
 unfold kadds
 split
 ·show s.nx ≤ _; omega
 ·split
  ·show s.nx ≤ _; omega
  ·split
   ·show s.nx ≤ _; omega
   ·split
    ·show s.nx ≤ _; omega
    ·exact Int.le_refl _
theorem kspawn_nx (s : KS) (par wt : Int) : (kspawn s par wt).2.nx ≤ s.nx + 1 := by
 have := kadds_nx s par wt s.mt true
 unfold kspawn
 split
 ·exact this
 ·exact this
structure PyI (s : KS) (u : Nat) : Prop where
 ok : KOk s
 le : s.nx ≤ 2 + u
theorem PyI.keep {s s' : KS} {u : Nat} (h : PyI s u) (hk : KOk s') (hn : s'.nx = s.nx) : PyI s' (u + 1) := ⟨hk, by have := h.le; omega⟩
theorem PyI.kspawn {s : KS} {u : Nat} (h : PyI s u) (a b : Int) : PyI (kspawn s a b).2 (u + 1) := ⟨kspawn_ok h.ok a b, by have := h.le; have := kspawn_nx s a b; omega⟩
theorem PyI.kgroup {s : KS} {u : Nat} (h : PyI s u) (a b : Int) : PyI (kgroup s a b).2 (u + 1) := ⟨kgroup_ok h.ok a b, by have := h.le; have : (Go.Proofs.YtlhjibkkkhgonaaGreatDoor.kgroup s a b).2.nx ≤ s.nx + 1 := kadds_nx s a b s.mg false; omega⟩
def k10E : Enc (Int × Int × Int × Int) := prE (kE .i64) (prE (kE .i64) (prE (kE .i64) (kE .i64)))
theorem step10_opens (W : World) : Opens Tryz.prog W 29 k10E (fun x => x.2.1 ≤ 9223372036854775807) :=
 (Opens.struct Tryz.underlying29 (by kernel_rfl) (OpensFs.cons rfl (Opens.int (k := .i64) Tryz.underlying3 (by kernel_rfl)) (OpensFs.cons rfl (Opens.int (k := .i64) Tryz.underlying3 (by kernel_rfl)) (OpensFs.cons rfl (Opens.int (k := .i64) Tryz.underlying3 (by kernel_rfl)) (OpensFs.one rfl (Opens.int (k := .i64) Tryz.underlying3 (by kernel_rfl))))))).mono (fun x h => (wf_bounds h.2.1).2)
set_option maxHeartbeats 4000000 in
set_option maxRecDepth 100000 in
theorem plays10_walk (H : List SP) (hE : EK H) (th gr : Int) (sl : SV (Int × Int × Int × Int)) (hk : KR H k10E sl) : ∀ w, Sat w H → Calls Tryz.prog 3 #[vi th, vi gr, .slice sl.a sl.l.length sl.c] w (Ret (ι := Unit) (fun _ => .bool true) fun _ => H) := by
 refine enterG (fn := Tryz.f3) 241 [vi th, vi gr, .slice sl.a sl.l.length sl.c] Tryz.func3 (by kernel_rfl) (by kernel_rfl) (by kernel_rfl) ?_
 refine Xq (Xg 1 (Xe [(0,vi th), (1,vi gr), (2,.slice sl.a sl.l.length sl.c), (6,.bool false)] ?_ 1))
 refine Xq (Xq (Xg 2 (Xs (Xa (some 27) (fun _ => .bool true) (known10 _)) (fun _ => ?_) 1)))
 refine Xe [(0,vi th), (1,vi gr), (2,.slice sl.a sl.l.length sl.c), (6,.bool false), (28,.bool false)] ?_ 1
 refine Xc false (fun h => by cases h) (fun _ => ?_)
 refine Xk (Xq (Xq (Xg 3 (Xe [(0,vi th), (1,vi gr), (2,.slice sl.a sl.l.length sl.c), (6,.bool false), (31,.bool (decide ((sl.l.length : Int) > 80)))] ?_ 3))))
 refine Xc (decide ((sl.l.length : Int) > 80)) (fun h0 => ?_) (fun h0 => ?_)
 ·skip
  refine Xq (Xg 1 (Xe [(0,vi th), (1,vi gr), (2,.slice sl.a sl.l.length sl.c), (6,.bool true)] ?_ 1))
  refine Xv (thenV (Y0 (.bool true) (fun w hs => ?_)))
  exact ⟨(), rfl, hs⟩
 ·skip
  have hl : sl.l.length ≤ 80 := by have := of_decide_eq_false h0; omega
  obtain ⟨s0, hs0⟩ : ∃ s0, k0 (mtOf th) (mgOf gr) = s0 := ⟨_, rfl⟩
  have hI0 : PyI s0 0 := by rw [← hs0]; exact ⟨k0_ok (mtOf_in th) (mgOf_in gr), by rw [k0_is (mtOf_in th).1]; simp⟩
  refine Xk (Xq (Xg 8 (Xr [(0,vi th), (1,vi gr), (2,.slice sl.a sl.l.length sl.c), (6,.bool false), (32,vi th), (33,vi gr)] ?_ 6 2)))
  refine Xs (Xa (some 34) (fun (k : Nat) => vp k) ((hs0 ▸ knew_walk _ th gr))) (fun (k : Nat) => ?_) 5
  refine Xr [(34,vp k), (2,.slice sl.a sl.l.length sl.c), (6,.bool false), (35,vi th), (36,vi gr)] ?_ 3 2
  refine Xs (Xa (some 37) (fun (rk : Nat) => vp rk) ((hs0 ▸ rknew_walk _ th gr))) (fun (rk : Nat) => ?_) 2
  refine Xh0 ?_ 0 2
  refine Xh0 ?_ 1 2
  refine Xe [(2,.slice sl.a sl.l.length sl.c), (6,.bool false), (7,vp k), (8,vp rk)] ?_ 2
  refine Xq (Xq (Xg 1 (Xe [(2,.slice sl.a sl.l.length sl.c), (6,.bool false), (7,vp k), (8,vp rk), (9,vi 0)] ?_ 1)))
  refine Xb 0 (Xp [(2,.slice sl.a sl.l.length sl.c), (7,vp k), (8,vp rk), (9,vi 0)] ?_)
  refine loopG (fun (q : KS × Nat) => [(2, .slice sl.a sl.l.length sl.c), (7, vp k), (8, vp rk), (9, vi (q.2 : Int))]) (fun (q : KS × Nat) => (kerS k q.1 :: rkS rk q.1 :: H)) (fun k (q : KS × Nat) => k + q.2 = sl.l.length ∧ PyI q.1 q.2) sl.l.length (s0, 0) (by kernel_rfl) ⟨by simp, hI0⟩ ?_
  rintro n ⟨s, u⟩ ⟨hku, hI⟩
  simp only at hku hI
  refine Xq (Xq (Xg 4 (Xe [(2,.slice sl.a sl.l.length sl.c), (7,vp k), (8,vp rk), (9,vi u), (41,.bool (decide ((u : Int) < (sl.l.length : Int))))] ?_ 4)))
  refine Xc (decide ((u : Int) < (sl.l.length : Int))) (fun h1 => ?_) (fun h1 => ?_)
  ·skip
   have hu : u < sl.l.length := by have := of_decide_eq_true h1; omega
   obtain ⟨⟨zw, zi, za, zb⟩, hz⟩ : ∃ v, sl.l[u]? = some v := ⟨_, List.getElem?_eq_getElem hu⟩
   have hnx : s.nx ≤ 1099511627776 := by have := hI.le; omega
   refine PT.know ((hk).up.up.isSome (List.ne_nil_of_length_pos (by omega))) ?_
   rintro ⟨sb, so, hA'⟩
   try rw [hA']
   refine Xk (Xq (Xb 1 (Xq (Xg 6 (Xr [(2,.slice (some ⟨sb, so, none⟩) sl.l.length sl.c), (7,vp k), (8,vp rk), (9,vi u), (44,.slice (some ⟨sb, so, none⟩) sl.l.length sl.c), (45,vi u)] ?_ 4 2)))))
   refine Xs (yldS (Xi 22 (.tmp 44) (.tmp 45) sb so sl.l.length sl.c u 4 29 (u : Int) 46 Tryz.underlying22)) (fun _ => ?_) 3
   refine Xl [(2,.slice (some ⟨sb, so, none⟩) sl.l.length sl.c), (7,vp k), (8,vp rk), (9,vi u), (47,.agg #[vi zw, vi zi, vi za, vi zb])] [(⟨sb, so + u * 4, none⟩, vi zw), (⟨sb, so + u * 4 + 1, none⟩, vi zi), (⟨sb, so + u * 4 + 2, none⟩, vi za), (⟨sb, so + u * 4 + 3, none⟩, vi zb)] (hasC (up (up (hk.cell hA' (i := u) (x := (zw, zi, za, zb)) hz (j := 0) rfl))) (hasC (up (up (hk.cell hA' (i := u) (x := (zw, zi, za, zb)) hz (j := 1) rfl))) (hasC (up (up (hk.cell hA' (i := u) (x := (zw, zi, za, zb)) hz (j := 2) rfl))) (hasC (up (up (hk.cell hA' (i := u) (x := (zw, zi, za, zb)) hz (j := 3) rfl))) has0)))) ?_ 2 1
   refine Xs (Xn 29 [vi 0, vi 0, vi 0, vi 0] (some 10) (fun b => vp b)) (fun b1 => ?_) 1
   refine Xs (Xz [(0,vi zw), (1,vi zi), (2,vi za), (3,vi zb)]) (fun _ => ?_) 0
   refine endR ?_
   refine Xq (Xg 4 (Xe [(10,vp b1), (2,.slice (some ⟨sb, so, none⟩) sl.l.length sl.c), (7,vp k), (8,vp rk), (9,vi u), (11,vi 0), (12,vi 0), (13,vi 0), (14,vi 0)] ?_ 4))
   try rw [← hA']
   refine PT.pick 0 rfl ?_
   refine PT.pick 2 rfl ?_
   refine PT.pick 2 rfl ?_
   refine Xq ?_
   refine joinR (fun (q : { q : KS × Int × Int // PyI q.1 (u + 1) }) => [(2, .slice sl.a sl.l.length sl.c), (7, vp k), (8, vp rk), (9, vi u), (10, vp b1), (11, vi q.1.2.1), (12, vi q.1.2.1), (13, vi q.1.2.2), (14, vi q.1.2.2)]) (fun (q : { q : KS × Int × Int // PyI q.1 (u + 1) }) => (kerS k q.1.1 :: rkS rk q.1.1 :: blk b1 29 [vi zw, vi zi, vi za, vi zb] :: H)) ?_ (fun q => ?_)
   ·skip
    refine Xq (Xg 2 (Xm [(10,vp b1), (2,.slice sl.a sl.l.length sl.c), (7,vp k), (8,vp rk), (9,vi u), (11,vi 0), (12,vi 0), (13,vi 0), (14,vi 0), (49,vi zw)] [(⟨b1, 0, none⟩, vi zw)] (hasC (ba 2) has0) ?_ 2))
    refine Xb 2 (Xq (Xg 2 (Xe [(10,vp b1), (2,.slice sl.a sl.l.length sl.c), (7,vp k), (8,vp rk), (9,vi u), (11,vi 0), (12,vi 0), (13,vi 0), (14,vi 0), (49,vi zw), (68,.bool (zw == 0))] ?_ 2)))
    refine Xc (zw == 0) (fun c1 => ?_) (fun c1 => ?_)
    ·skip
     refine Xq (Xg 11 (Xl [(10,vp b1), (2,.slice sl.a sl.l.length sl.c), (7,vp k), (8,vp rk), (9,vi u), (11,vi 0), (12,vi 0), (13,vi 0), (14,vi 0), (71,vp k), (73,vi za), (75,vi zb)] [(⟨b1, 2, none⟩, vi za), (⟨b1, 3, none⟩, vi zb)] (hasC (ba 2) (hasC (ba 2) has0)) ?_ 6 5))
     refine Xs (Xa (some 76) (fun _ => .tuple #[vi (kspawn s za zb).1.1, pqErr (kspawn s za zb).1.2]) (krSpawn _ k s hnx za zb)) (fun _ => ?_) 5
     refine Xe [(10,vp b1), (2,.slice sl.a sl.l.length sl.c), (7,vp k), (8,vp rk), (9,vi u), (11,vi 0), (12,vi 0), (13,vi 0), (14,vi 0), (15,vi ((kspawn s za zb).1.1)), (16,pqErr (kspawn s za zb).1.2)] ?_ 5
     refine Xq (Xg 5 (Xr [(10,vp b1), (2,.slice sl.a sl.l.length sl.c), (7,vp k), (8,vp rk), (9,vi u), (11,vi 0), (12,vi 0), (13,vi 0), (14,vi 0), (79,vi ((kspawn s za zb).1.1)), (80,pqErr (kspawn s za zb).1.2)] ?_ 3 2))
     refine Xs (Xa (some 81) (fun _ => vi (kspawn s za zb).1.2) (code10_walk _ hE.up.up.up (kspawn s za zb).1.2)) (fun _ => ?_) 2
     refine Xe [(10,vp b1), (2,.slice sl.a sl.l.length sl.c), (7,vp k), (8,vp rk), (9,vi u), (11,vi ((kspawn s za zb).1.2)), (12,vi 0), (13,vi ((kspawn s za zb).1.1)), (14,vi 0)] ?_ 2
     refine Xg 11 (Xl [(10,vp b1), (2,.slice sl.a sl.l.length sl.c), (7,vp k), (8,vp rk), (9,vi u), (11,vi ((kspawn s za zb).1.2)), (12,vi 0), (13,vi ((kspawn s za zb).1.1)), (14,vi 0), (83,vp rk), (85,vi za), (87,vi zb)] [(⟨b1, 2, none⟩, vi za), (⟨b1, 3, none⟩, vi zb)] (hasC (ba 2) (hasC (ba 2) has0)) ?_ 6 5)
     refine Xs (Xa (some 88) (fun _ => .tuple #[vi (kspawn s za zb).1.1, vi (kspawn s za zb).1.2]) (chg_at 1 rfl (rkSpawn _ rk s hnx za zb))) (fun _ => ?_) 5
     refine Xe [(10,vp b1), (2,.slice sl.a sl.l.length sl.c), (7,vp k), (8,vp rk), (9,vi u), (11,vi ((kspawn s za zb).1.2)), (12,vi ((kspawn s za zb).1.2)), (13,vi ((kspawn s za zb).1.1)), (14,vi ((kspawn s za zb).1.1))] ?_ 5
     refine Xp [(2,.slice sl.a sl.l.length sl.c), (7,vp k), (8,vp rk), (9,vi u), (10,vp b1), (11,vi ((kspawn s za zb).1.2)), (12,vi ((kspawn s za zb).1.2)), (13,vi ((kspawn s za zb).1.1)), (14,vi ((kspawn s za zb).1.1))] ?_
     exact midR (⟨((kspawn s za zb).2, (kspawn s za zb).1.2, (kspawn s za zb).1.1), hI.kspawn za zb⟩) rfl rfl
    ·skip
     refine Xq (Xg 2 (Xe [(10,vp b1), (2,.slice sl.a sl.l.length sl.c), (7,vp k), (8,vp rk), (9,vi u), (11,vi 0), (12,vi 0), (13,vi 0), (14,vi 0), (49,vi zw), (91,.bool (zw == 1))] ?_ 2))
     refine Xc (zw == 1) (fun c2 => ?_) (fun c2 => ?_)
     ·skip
      refine Xq (Xg 11 (Xl [(10,vp b1), (2,.slice sl.a sl.l.length sl.c), (7,vp k), (8,vp rk), (9,vi u), (11,vi 0), (12,vi 0), (13,vi 0), (14,vi 0), (94,vp k), (96,vi za), (98,vi zb)] [(⟨b1, 2, none⟩, vi za), (⟨b1, 3, none⟩, vi zb)] (hasC (ba 2) (hasC (ba 2) has0)) ?_ 6 5))
      refine Xs (Xa (some 99) (fun _ => .tuple #[vi (kgroup s za zb).1.1, pqErr (kgroup s za zb).1.2]) (krGroup _ k s hnx za zb)) (fun _ => ?_) 5
      refine Xe [(10,vp b1), (2,.slice sl.a sl.l.length sl.c), (7,vp k), (8,vp rk), (9,vi u), (11,vi 0), (12,vi 0), (13,vi 0), (14,vi 0), (17,vi ((kgroup s za zb).1.1)), (18,pqErr (kgroup s za zb).1.2)] ?_ 5
      refine Xq (Xg 5 (Xr [(10,vp b1), (2,.slice sl.a sl.l.length sl.c), (7,vp k), (8,vp rk), (9,vi u), (11,vi 0), (12,vi 0), (13,vi 0), (14,vi 0), (102,vi ((kgroup s za zb).1.1)), (103,pqErr (kgroup s za zb).1.2)] ?_ 3 2))
      refine Xs (Xa (some 104) (fun _ => vi (kgroup s za zb).1.2) (code10_walk _ hE.up.up.up (kgroup s za zb).1.2)) (fun _ => ?_) 2
      refine Xe [(10,vp b1), (2,.slice sl.a sl.l.length sl.c), (7,vp k), (8,vp rk), (9,vi u), (11,vi ((kgroup s za zb).1.2)), (12,vi 0), (13,vi ((kgroup s za zb).1.1)), (14,vi 0)] ?_ 2
      refine Xg 11 (Xl [(10,vp b1), (2,.slice sl.a sl.l.length sl.c), (7,vp k), (8,vp rk), (9,vi u), (11,vi ((kgroup s za zb).1.2)), (12,vi 0), (13,vi ((kgroup s za zb).1.1)), (14,vi 0), (106,vp rk), (108,vi za), (110,vi zb)] [(⟨b1, 2, none⟩, vi za), (⟨b1, 3, none⟩, vi zb)] (hasC (ba 2) (hasC (ba 2) has0)) ?_ 6 5)
      refine Xs (Xa (some 111) (fun _ => .tuple #[vi (kgroup s za zb).1.1, vi (kgroup s za zb).1.2]) (chg_at 1 rfl (rkGroup _ rk s hnx za zb))) (fun _ => ?_) 5
      refine Xe [(10,vp b1), (2,.slice sl.a sl.l.length sl.c), (7,vp k), (8,vp rk), (9,vi u), (11,vi ((kgroup s za zb).1.2)), (12,vi ((kgroup s za zb).1.2)), (13,vi ((kgroup s za zb).1.1)), (14,vi ((kgroup s za zb).1.1))] ?_ 5
      refine Xp [(2,.slice sl.a sl.l.length sl.c), (7,vp k), (8,vp rk), (9,vi u), (10,vp b1), (11,vi ((kgroup s za zb).1.2)), (12,vi ((kgroup s za zb).1.2)), (13,vi ((kgroup s za zb).1.1)), (14,vi ((kgroup s za zb).1.1))] ?_
      exact midR (⟨((kgroup s za zb).2, (kgroup s za zb).1.2, (kgroup s za zb).1.1), hI.kgroup za zb⟩) rfl rfl
     ·skip
      refine Xq (Xg 2 (Xe [(10,vp b1), (2,.slice sl.a sl.l.length sl.c), (7,vp k), (8,vp rk), (9,vi u), (11,vi 0), (12,vi 0), (13,vi 0), (14,vi 0), (49,vi zw), (114,.bool (zw == 2))] ?_ 2))
      refine Xc (zw == 2) (fun c3 => ?_) (fun c3 => ?_)
      ·skip
       refine Xy0 2 [] 11 ?_
       refine Xt [0, 1, 2, 5, 6, 7] [(10,vp b1), (2,.slice sl.a sl.l.length sl.c), (7,vp k), (8,vp rk), (9,vi u), (11,vi 0), (12,vi 0), (13,vi 0), (14,vi 0), (116,vp k), (118,vi zi), (121,vp rk), (123,vi zi)] [(⟨b1, 1, none⟩, vi zi), (⟨b1, 1, none⟩, vi zi)] (hasC (ba 0) (hasC (ba 0) has0)) ?_
       refine Xo 3 (Xa (some 119) (fun _ => pqErr (kexit s zi).1) (krExit _ k s zi)) (fun _ => ?_)
       refine Xo 4 (Xa (some 120) (fun _ => vi (kexit s zi).1) (code10_walk _ hE.up.up.up (kexit s zi).1)) (fun _ => ?_)
       refine Xo 8 (Xa (some 124) (fun _ => vi (kexit s zi).1) (chg_at 1 rfl (rkExit _ rk s zi))) (fun _ => ?_)
       refine Xt [9, 10] [(10,vp b1), (2,.slice sl.a sl.l.length sl.c), (7,vp k), (8,vp rk), (9,vi u), (11,vi ((kexit s zi).1)), (12,vi ((kexit s zi).1)), (13,vi 0), (14,vi 0)] [] has0 ?_
       refine Xd (Xp [(2,.slice sl.a sl.l.length sl.c), (7,vp k), (8,vp rk), (9,vi u), (10,vp b1), (11,vi ((kexit s zi).1)), (12,vi ((kexit s zi).1)), (13,vi 0), (14,vi 0)] ?_)
       exact midR (⟨((kexit s zi).2, (kexit s zi).1, 0), hI.keep (kexit_ok hI.ok zi) (kexit_nx s zi)⟩) rfl rfl
      ·skip
       refine Xq (Xg 2 (Xe [(10,vp b1), (2,.slice sl.a sl.l.length sl.c), (7,vp k), (8,vp rk), (9,vi u), (11,vi 0), (12,vi 0), (13,vi 0), (14,vi 0), (49,vi zw), (125,.bool (zw == 3))] ?_ 2))
       refine Xc (zw == 3) (fun c4 => ?_) (fun c4 => ?_)
       ·skip
        refine Xy0 2 [] 15 ?_
        refine Xt [0, 1, 2, 3, 4, 7, 8, 9, 10, 11] [(10,vp b1), (2,.slice sl.a sl.l.length sl.c), (7,vp k), (8,vp rk), (9,vi u), (11,vi 0), (12,vi 0), (13,vi 0), (14,vi 0), (127,vp k), (129,vi zi), (131,vi za), (134,vp rk), (136,vi zi), (138,vi za)] [(⟨b1, 1, none⟩, vi zi), (⟨b1, 2, none⟩, vi za), (⟨b1, 1, none⟩, vi zi), (⟨b1, 2, none⟩, vi za)] (hasC (ba 0) (hasC (ba 0) (hasC (ba 0) (hasC (ba 0) has0)))) ?_
        refine Xo 5 (Xa (some 132) (fun _ => pqErr (ksleep s zi za).1) (krSleep _ k s zi za)) (fun _ => ?_)
        refine Xo 6 (Xa (some 133) (fun _ => vi (ksleep s zi za).1) (code10_walk _ hE.up.up.up (ksleep s zi za).1)) (fun _ => ?_)
        refine Xo 12 (Xa (some 139) (fun _ => vi (ksleep s zi za).1) (chg_at 1 rfl (rkSleep _ rk s zi za))) (fun _ => ?_)
        refine Xt [13, 14] [(10,vp b1), (2,.slice sl.a sl.l.length sl.c), (7,vp k), (8,vp rk), (9,vi u), (11,vi ((ksleep s zi za).1)), (12,vi ((ksleep s zi za).1)), (13,vi 0), (14,vi 0)] [] has0 ?_
        refine Xd (Xp [(2,.slice sl.a sl.l.length sl.c), (7,vp k), (8,vp rk), (9,vi u), (10,vp b1), (11,vi ((ksleep s zi za).1)), (12,vi ((ksleep s zi za).1)), (13,vi 0), (14,vi 0)] ?_)
        exact midR (⟨((ksleep s zi za).2, (ksleep s zi za).1, 0), hI.keep (ksleep_ok hI.ok zi za) (ksleep_nx s zi za)⟩) rfl rfl
       ·skip
        refine Xq (Xg 2 (Xe [(10,vp b1), (2,.slice sl.a sl.l.length sl.c), (7,vp k), (8,vp rk), (9,vi u), (11,vi 0), (12,vi 0), (13,vi 0), (14,vi 0), (49,vi zw), (140,.bool (zw == 4))] ?_ 2))
        refine Xc (zw == 4) (fun c5 => ?_) (fun c5 => ?_)
        ·skip
         refine Xq (Xg 11 (Xl [(10,vp b1), (2,.slice sl.a sl.l.length sl.c), (7,vp k), (8,vp rk), (9,vi u), (11,vi 0), (12,vi 0), (13,vi 0), (14,vi 0), (143,vp k), (145,vi zi), (147,vi za)] [(⟨b1, 1, none⟩, vi zi), (⟨b1, 2, none⟩, vi za)] (hasC (ba 2) (hasC (ba 2) has0)) ?_ 6 5))
         refine Xs (Xa (some 148) (fun _ => .tuple #[.bool (kwait s zi za).1.1, pqErr (kwait s zi za).1.2]) (krWait _ k s zi za)) (fun _ => ?_) 5
         refine Xe [(10,vp b1), (2,.slice sl.a sl.l.length sl.c), (7,vp k), (8,vp rk), (9,vi u), (11,vi 0), (12,vi 0), (13,vi 0), (14,vi 0), (19,.bool ((kwait s zi za).1.1)), (20,pqErr (kwait s zi za).1.2)] ?_ 5
         refine Xq (Xg 11 (Xl [(10,vp b1), (2,.slice sl.a sl.l.length sl.c), (7,vp k), (8,vp rk), (9,vi u), (11,vi 0), (12,vi 0), (13,vi 0), (14,vi 0), (19,.bool ((kwait s zi za).1.1)), (20,pqErr (kwait s zi za).1.2), (152,vp rk), (154,vi zi), (156,vi za)] [(⟨b1, 1, none⟩, vi zi), (⟨b1, 2, none⟩, vi za)] (hasC (ba 2) (hasC (ba 2) has0)) ?_ 6 5))
         refine Xs (Xa (some 157) (fun _ => .tuple #[.bool (kwait s zi za).1.1, vi (kwait s zi za).1.2]) (chg_at 1 rfl (rkWait _ rk s zi za))) (fun _ => ?_) 5
         refine Xe [(10,vp b1), (2,.slice sl.a sl.l.length sl.c), (7,vp k), (8,vp rk), (9,vi u), (11,vi 0), (12,vi 0), (13,vi 0), (14,vi 0), (19,.bool ((kwait s zi za).1.1)), (20,pqErr (kwait s zi za).1.2), (21,.bool ((kwait s zi za).1.1)), (22,vi ((kwait s zi za).1.2))] ?_ 5
         refine Xq (Xq (Xg 3 (Xe [(10,vp b1), (2,.slice sl.a sl.l.length sl.c), (7,vp k), (8,vp rk), (9,vi u), (11,vi 0), (12,vi 0), (13,vi 0), (14,vi 0), (20,pqErr (kwait s zi za).1.2), (22,vi ((kwait s zi za).1.2)), (162,.bool (((kwait s zi za).1.1) != ((kwait s zi za).1.1)))] ?_ 3)))
         rw [show (((kwait s zi za).1.1) != ((kwait s zi za).1.1)) = false from by simp]
         refine Xc false (fun h => by cases h) (fun _ => ?_)
         refine Xk (Xg 5 (Xr [(10,vp b1), (2,.slice sl.a sl.l.length sl.c), (7,vp k), (8,vp rk), (9,vi u), (11,vi 0), (12,vi 0), (13,vi 0), (14,vi 0), (22,vi ((kwait s zi za).1.2)), (163,pqErr (kwait s zi za).1.2)] ?_ 4 1))
         refine Xs (Xa (some 164) (fun _ => vi (kwait s zi za).1.2) (code10_walk _ hE.up.up.up (kwait s zi za).1.2)) (fun _ => ?_) 3
         refine Xe [(10,vp b1), (2,.slice sl.a sl.l.length sl.c), (7,vp k), (8,vp rk), (9,vi u), (11,vi ((kwait s zi za).1.2)), (12,vi ((kwait s zi za).1.2)), (13,vi 0), (14,vi 0)] ?_ 3
         refine Xp [(2,.slice sl.a sl.l.length sl.c), (7,vp k), (8,vp rk), (9,vi u), (10,vp b1), (11,vi ((kwait s zi za).1.2)), (12,vi ((kwait s zi za).1.2)), (13,vi 0), (14,vi 0)] ?_
         exact midR (⟨((kwait s zi za).2, (kwait s zi za).1.2, 0), hI.keep (kwait_ok hI.ok zi za) (kwait_nx s zi za)⟩) rfl rfl
        ·skip
         refine Xq (Xg 2 (Xe [(10,vp b1), (2,.slice sl.a sl.l.length sl.c), (7,vp k), (8,vp rk), (9,vi u), (11,vi 0), (12,vi 0), (13,vi 0), (14,vi 0), (49,vi zw), (166,.bool (zw == 5))] ?_ 2))
         refine Xc (zw == 5) (fun c6 => ?_) (fun c6 => ?_)
         ·skip
          refine Xy0 2 [] 11 ?_
          refine Xt [0, 1, 2, 5, 6, 7] [(10,vp b1), (2,.slice sl.a sl.l.length sl.c), (7,vp k), (8,vp rk), (9,vi u), (11,vi 0), (12,vi 0), (13,vi 0), (14,vi 0), (168,vp k), (170,vi za), (173,vp rk), (175,vi za)] [(⟨b1, 2, none⟩, vi za), (⟨b1, 2, none⟩, vi za)] (hasC (ba 0) (hasC (ba 0) has0)) ?_
          refine Xo 3 (Xa (some 171) (fun _ => pqErr (ksignal s za).1) (krSignal _ k s za)) (fun _ => ?_)
          refine Xo 4 (Xa (some 172) (fun _ => vi (ksignal s za).1) (code10_walk _ hE.up.up.up (ksignal s za).1)) (fun _ => ?_)
          refine Xo 8 (Xa (some 176) (fun _ => vi (ksignal s za).1) (chg_at 1 rfl (rkSignal _ rk s za))) (fun _ => ?_)
          refine Xt [9, 10] [(10,vp b1), (2,.slice sl.a sl.l.length sl.c), (7,vp k), (8,vp rk), (9,vi u), (11,vi ((ksignal s za).1)), (12,vi ((ksignal s za).1)), (13,vi 0), (14,vi 0)] [] has0 ?_
          refine Xd (Xp [(2,.slice sl.a sl.l.length sl.c), (7,vp k), (8,vp rk), (9,vi u), (10,vp b1), (11,vi ((ksignal s za).1)), (12,vi ((ksignal s za).1)), (13,vi 0), (14,vi 0)] ?_)
          exact midR (⟨((ksignal s za).2, (ksignal s za).1, 0), hI.keep (ksignal_ok hI.ok za) (ksignal_nx s za)⟩) rfl rfl
         ·skip
          refine Xq (Xg 2 (Xe [(10,vp b1), (2,.slice sl.a sl.l.length sl.c), (7,vp k), (8,vp rk), (9,vi u), (11,vi 0), (12,vi 0), (13,vi 0), (14,vi 0), (49,vi zw), (177,.bool (zw == 6))] ?_ 2))
          refine Xc (zw == 6) (fun c7 => ?_) (fun c7 => ?_)
          ·skip
           have hw := hI.ok.wf
           refine PT.pick 0 rfl ?_
           refine PT.pick 1 rfl ?_
           refine PT.openRk fun t L a c Z h1 h2 h3 => ?_
           refine PT.pick 8 rfl ?_
           refine PT.pick 7 rfl ?_
           refine PT.pick 7 rfl ?_
           refine PT.pick 7 rfl ?_
           refine PT.pick 7 rfl ?_
           refine PT.pick 7 rfl ?_
           refine PT.pick 6 rfl ?_
           refine PT.pick 7 rfl ?_
           refine PT.pick 8 rfl ?_
           refine Xy0 2 [] 18 ?_
           refine Xt [0, 1, 2, 3, 4, 7, 8, 9, 10, 11, 12, 13, 14] [(10,vp b1), (2,.slice sl.a sl.l.length sl.c), (7,vp k), (8,vp rk), (9,vi u), (11,vi 0), (12,vi 0), (13,vi 0), (14,vi 0), (179,vp k), (181,vi zi), (183,vi zb), (189,vp t), (191,vi zi), (193,vi zb)] [(⟨b1, 1, none⟩, vi zi), (⟨b1, 3, none⟩, vi zb), (⟨rk, 0, none⟩, vp t), (⟨b1, 1, none⟩, vi zi), (⟨b1, 3, none⟩, vi zb)] (hasC (ba 6) (hasC (ba 6) (hasC (ba 0) (hasC (ba 6) (hasC (ba 6) has0))))) ?_
           refine Xo 5 (Xa (some 184) (fun _ => pqErr (kweight s zi zb).1) (krWeight _ k s zi zb)) (fun _ => ?_)
           refine Xo 6 (Xa (some 185) (fun _ => vi (kweight s zi zb).1) (code10_walk _ hE.up.up.up.up.up.up.up.up.up (kweight s zi zb).1)) (fun _ => ?_)
           refine Xo 15 (Xa (some 194) (fun _ => vi (weightN L zi zb).1) (chg_at 1 rfl (rweight_walk _ t L (h2.wf hw) zi zb))) (fun _ => ?_)
           rw [show (weightN L zi zb).1 = (kweight s zi zb).1 by exact (h2.weight hw zi zb).1.symm]
           refine Xt [16, 17] [(10,vp b1), (2,.slice sl.a sl.l.length sl.c), (7,vp k), (8,vp rk), (9,vi u), (11,vi ((kweight s zi zb).1)), (12,vi ((kweight s zi zb).1)), (13,vi 0), (14,vi 0)] [] has0 ?_
           refine Xd ?_
           refine PT.pick 8 rfl ?_
           refine PT.pick 1 rfl ?_
           refine PT.pick 8 rfl ?_
           refine PT.pick 8 rfl ?_
           refine PT.pick 8 rfl ?_
           refine PT.pick 8 rfl ?_
           refine PT.pick 8 rfl ?_
           refine PT.pick 7 rfl ?_
           refine PT.pick 8 rfl ?_
           refine PT.closeRk (s := (kweight s zi zb).2) (kweight_ok hI.ok zi zb) (h2.weight hw zi zb).2 h3 ?_
           refine PT.pick 2 rfl ?_
           refine PT.pick 1 rfl ?_
           refine PT.pick 2 rfl ?_
           refine Xp [(2,.slice sl.a sl.l.length sl.c), (7,vp k), (8,vp rk), (9,vi u), (10,vp b1), (11,vi ((kweight s zi zb).1)), (12,vi ((kweight s zi zb).1)), (13,vi 0), (14,vi 0)] ?_
           exact midR (⟨((kweight s zi zb).2, (kweight s zi zb).1, 0), hI.keep (kweight_ok hI.ok zi zb) rfl⟩) rfl rfl
          ·skip
           refine Xq (Xg 2 (Xe [(10,vp b1), (2,.slice sl.a sl.l.length sl.c), (7,vp k), (8,vp rk), (9,vi u), (11,vi 0), (12,vi 0), (13,vi 0), (14,vi 0), (195,.bool (zw == 7))] ?_ 2))
           refine Xc (zw == 7) (fun c8 => ?_) (fun c8 => ?_)
           ·skip
            refine Xq (Xy0 2 [] 10 ?_)
            refine Xt [0, 1, 2, 4, 5, 6] [(10,vp b1), (2,.slice sl.a sl.l.length sl.c), (7,vp k), (8,vp rk), (9,vi u), (11,vi 0), (12,vi 0), (13,vi 0), (14,vi 0), (197,vp k), (199,vi za), (201,vp rk), (203,vi za)] [(⟨b1, 2, none⟩, vi za), (⟨b1, 2, none⟩, vi za)] (hasC (ba 0) (hasC (ba 0) has0)) ?_
            refine Xo 3 (Xa (some 200) (fun (p : Option Addr × Nat) => .slice p.1 (kwake s za).1.length p.2) (krWake _ k s za)) (fun (p : Option Addr × Nat) => ?_)
            have hwl : (kwake s za).1.length < 1000000000 := by have h1 := due_length za s.tm; have h2 := hI.ok.tml; show (dueOf za s.tm).length < _; omega
            refine Xo 7 (Xa (some 204) (fun (q : Option Addr × Nat) => .slice q.1 (kwake s za).1.length q.2) ((fun w hs => rkWake (row (kE .i64) 3 (.slice p.1 (kwake s za).1.length p.2) (kwake s za).1 :: kerS k (kwake s za).2 :: blk b1 29 [.int .i64 zw, .int .i64 zi, .int .i64 za, .int .i64 zb] :: H) rk s za w (Sat.pick 2 rfl hs)))) (fun (q : Option Addr × Nat) => ?_)
            refine Xo 8 (Xa (some 205) (fun _ => .bool true) ((by have h := sameInts_walk (row (kE .i64) 3 (.slice q.1 (kwake s za).1.length q.2) (kwake s za).1 :: rkS rk (kwake s za).2 :: row (kE .i64) 3 (.slice p.1 (kwake s za).1.length p.2) (kwake s za).1 :: kerS k (kwake s za).2 :: blk b1 29 [.int .i64 zw, .int .i64 zi, .int .i64 za, .int .i64 zb] :: H) ⟨p.1, p.2, (kwake s za).1⟩ ⟨q.1, q.2, (kwake s za).1⟩ (rowKRat 2 rfl) (rowKRat 0 rfl) hwl hwl; rw [decide_eq_true rfl] at h; exact h))) (fun _ => ?_)
            refine Xt [9] [(10,vp b1), (2,.slice sl.a sl.l.length sl.c), (7,vp k), (8,vp rk), (9,vi u), (11,vi 0), (12,vi 0), (13,vi 0), (14,vi 0), (206,.bool false)] [] has0 ?_
            refine Xd (Xc false (fun h => by cases h) (fun _ => ?_))
            refine Xk ?_
            refine PT.pick 2 rfl ?_
            refine PT.drop ?_
            refine PT.drop ?_
            refine PT.pick 2 rfl ?_
            refine PT.pick 1 rfl ?_
            refine PT.pick 2 rfl ?_
            refine Xp [(2,.slice sl.a sl.l.length sl.c), (7,vp k), (8,vp rk), (9,vi u), (10,vp b1), (11,vi 0), (12,vi 0), (13,vi 0), (14,vi 0)] ?_
            exact midR (⟨((kwake s za).2, 0, 0), hI.keep (kwake_ok hI.ok za) rfl⟩) rfl rfl
           ·skip
            refine Xq (Xg 7 (Xr [(10,vp b1), (2,.slice sl.a sl.l.length sl.c), (7,vp k), (8,vp rk), (9,vi u), (11,vi 0), (12,vi 0), (13,vi 0), (14,vi 0), (51,vp k)] ?_ 6 1))
            refine Xs (Xa (some 52) (fun _ => .tuple #[vi (krun s).1.1, .bool (krun s).1.2]) (krRun _ k s)) (fun _ => ?_) 5
            refine Xe [(10,vp b1), (2,.slice sl.a sl.l.length sl.c), (7,vp k), (8,vp rk), (9,vi u), (11,vi 0), (12,vi 0), (13,vi 0), (14,vi 0), (23,vi ((krun s).1.1)), (24,.bool ((krun s).1.2))] ?_ 5
            refine Xq (Xg 10 (Xr [(10,vp b1), (2,.slice sl.a sl.l.length sl.c), (7,vp k), (8,vp rk), (9,vi u), (11,vi 0), (12,vi 0), (13,vi 0), (14,vi 0), (23,vi ((krun s).1.1)), (24,.bool ((krun s).1.2)), (58,vp rk)] ?_ 7 3))
            have hw := hI.ok.wf
            refine Xh0 ?_ 2 7
            refine Xh0 ?_ 1 7
            refine Xh0 ?_ 2 7
            refine PT.openRk fun t L a c Z h1 h2 h3 => ?_
            refine Xl [(10,vp b1), (2,.slice sl.a sl.l.length sl.c), (7,vp k), (8,vp rk), (9,vi u), (11,vi 0), (12,vi 0), (13,vi 0), (14,vi 0), (23,vi ((krun s).1.1)), (24,.bool ((krun s).1.2)), (59,vp t)] [(⟨rk, 0, none⟩, vp t)] (hasC (ba 0) has0) ?_ 6 1
            refine Xs (Xa (some 60) (fun _ => .tuple #[vi (runN L).1.1, .bool (runN L).1.2]) (chg_at 1 rfl (rrun_walk _ t L (h2.wf hw) h2.srt))) (fun _ => ?_) 5
            rw [show (runN L).1 = (krun s).1 by exact (h2.run hw).1.symm]
            refine Xe [(10,vp b1), (2,.slice sl.a sl.l.length sl.c), (7,vp k), (8,vp rk), (9,vi u), (11,vi 0), (12,vi 0), (13,vi 0), (14,vi 0), (23,vi ((krun s).1.1)), (24,.bool ((krun s).1.2)), (25,vi (((krun s).1).1)), (26,.bool (((krun s).1).2))] ?_ 5
            refine Xq (Xq (Xg 3 (Xe [(10,vp b1), (2,.slice sl.a sl.l.length sl.c), (7,vp k), (8,vp rk), (9,vi u), (11,vi 0), (12,vi 0), (13,vi 0), (14,vi 0), (23,vi ((krun s).1.1)), (25,vi (((krun s).1).1)), (65,.bool (((krun s).1.2) != (((krun s).1).2)))] ?_ 3)))
            rw [show (((krun s).1.2) != (((krun s).1).2)) = false from by simp]
            refine Xc false (fun h => by cases h) (fun _ => ?_)
            refine Xk (Xg 4 (Xe [(10,vp b1), (2,.slice sl.a sl.l.length sl.c), (7,vp k), (8,vp rk), (9,vi u), (11,vi 0), (12,vi 0), (13,vi ((krun s).1.1)), (14,vi (((krun s).1).1))] ?_ 4))
            refine PT.closeRk (s := (krun s).2) (krun_ok hI.ok) (h2.run hw).2 h3 ?_
            refine PT.pick 2 rfl ?_
            refine PT.pick 1 rfl ?_
            refine PT.pick 2 rfl ?_
            refine Xp [(2,.slice sl.a sl.l.length sl.c), (7,vp k), (8,vp rk), (9,vi u), (10,vp b1), (11,vi 0), (12,vi 0), (13,vi ((krun s).1.1)), (14,vi (((krun s).1).1))] ?_
            exact midR (⟨((krun s).2, 0, (krun s).1.1), hI.keep (krun_ok hI.ok) rfl⟩) rfl rfl
   obtain ⟨⟨s', cd, xx⟩, hI'⟩ := q
   have hw' := hI'.ok.wf
   have hnx' : s'.nx ≤ 1099511627776 := by have h4 : s'.nx ≤ 2 + ((u + 1 : Nat) : Int) := hI'.le; omega
   refine PT.pick 2 rfl ?_
   refine PT.pick 1 rfl ?_
   refine PT.pick 2 rfl ?_
   refine PT.openRk fun t L a c Z h1 h2 h3 => ?_
   have hNL := h2.nodes hw'
   have hl' := (h2.wf hw').sk.len
   have hne' : L ≠ [] := by obtain ⟨r, hr, _⟩ := (h2.wf hw').sk.root; exact List.ne_nil_of_mem hr
   have hkl : (kthreads s').length < 1000000000 := by have h4 : ((kthreads s').length : Int) = kcnt s'.N true := len_kthreads h1; have h5 : kcnt s'.N true ≤ s'.mt := h1.ct.1; have h6 : s'.mt ≤ 8 := h1.mt.2; omega
   refine PT.pick 8 rfl ?_
   refine PT.pick 7 rfl ?_
   refine PT.pick 7 rfl ?_
   refine PT.pick 7 rfl ?_
   refine PT.pick 7 rfl ?_
   refine PT.pick 7 rfl ?_
   refine PT.pick 7 rfl ?_
   refine PT.pick 7 rfl ?_
   refine PT.pick 8 rfl ?_
   refine Xq (Xy0 1 [] 34 ?_)
   refine Xt [0, 1, 2, 3] [(2,.slice sl.a sl.l.length sl.c), (7,vp k), (8,vp rk), (9,vi u), (13,vi xx), (14,vi xx), (210,.bool (cd != cd))] [] has0 ?_
   rw [show (cd != cd) = false from by simp]
   refine Xt [4, 5, 6, 7, 8] [(2,.slice sl.a sl.l.length sl.c), (7,vp k), (8,vp rk), (9,vi u), (215,.bool (xx != xx))] [] has0 ?_
   rw [show (xx != xx) = false from by simp]
   refine Xt [9, 11] [(2,.slice sl.a sl.l.length sl.c), (7,vp k), (8,vp rk), (9,vi u), (215,.bool false), (216,vp k), (218,vp rk)] [] has0 ?_
   refine Xo 10 (Xa (some 217) (fun _ => .bool (krunnable s')) (krRunnable _ k s')) (fun _ => ?_)
   refine Xo 12 (Xa1 (some 219) (fun _ => .bool (krunnable s')) (fun _ => (kerS k s' :: blk rk 55 [vp t, .slice a s'.tm.length c, vi Z.z0.c, vi Z.z1.c, vi Z.z2.c, vi Z.z3.c, .slice Z.z0.a Z.z0.l.length Z.z0.k, .slice Z.z1.a Z.z1.l.length Z.z1.k, .slice Z.z2.a Z.z2.l.length Z.z2.k, .slice Z.z3.a Z.z3.l.length Z.z3.k, vi s'.mt, vi s'.mg, vi (s'.nx - 1)] :: rtS t L :: row tmE 141 (.slice a s'.tm.length c) s'.tm :: row (kE .i64) 3 (.slice Z.z0.a Z.z0.l.length Z.z0.k) Z.z0.l :: row (kE .i64) 3 (.slice Z.z1.a Z.z1.l.length Z.z1.k) Z.z1.l :: row (kE .i64) 3 (.slice Z.z2.a Z.z2.l.length Z.z2.k) Z.z2.l :: row (kE .i64) 3 (.slice Z.z3.a Z.z3.l.length Z.z3.k) Z.z3.l :: blk b1 29 [vi zw, vi zi, vi za, vi zb] :: H)) ((fun w hs => (rkrunnable_walk (kerS k s' :: blk b1 29 [.int .i64 zw, .int .i64 zi, .int .i64 za, .int .i64 zb] :: H) rk t L a c Z s' h1 h2 h3 w (mv1 hs)).mono fun e w' ⟨x, he, hx⟩ => ⟨x, he, mv1' hx⟩))) (fun _ => ?_)
   refine Xt [13, 14, 15] [(2,.slice sl.a sl.l.length sl.c), (7,vp k), (8,vp rk), (9,vi u), (222,.bool ((krunnable s') != (krunnable s')))] [] has0 ?_
   rw [show ((krunnable s') != (krunnable s')) = false from by simp]
   refine Xt [16, 18] [(2,.slice sl.a sl.l.length sl.c), (7,vp k), (8,vp rk), (9,vi u), (222,.bool false), (223,vp k), (225,vp rk)] [] has0 ?_
   refine Xo 17 (Xa (some 224) (fun (pa : Option Addr × Nat) => .slice pa.1 (kthreads s').length pa.2) (krThreads _ k s' hnx')) (fun (pa : Option Addr × Nat) => ?_)
   refine Xo 19 (Xa1 (some 226) (fun (pb : Option Addr × Nat) => .slice pb.1 (kthreads s').length pb.2) (fun (pb : Option Addr × Nat) => (row (kE .i64) 3 (.slice pb.1 (kthreads s').length pb.2) (kthreads s') :: row (kE .i64) 3 (.slice pa.1 (kthreads s').length pa.2) (kthreads s') :: kerS k s' :: blk rk 55 [vp t, .slice a s'.tm.length c, vi Z.z0.c, vi Z.z1.c, vi Z.z2.c, vi Z.z3.c, .slice Z.z0.a Z.z0.l.length Z.z0.k, .slice Z.z1.a Z.z1.l.length Z.z1.k, .slice Z.z2.a Z.z2.l.length Z.z2.k, .slice Z.z3.a Z.z3.l.length Z.z3.k, vi s'.mt, vi s'.mg, vi (s'.nx - 1)] :: rtS t L :: row tmE 141 (.slice a s'.tm.length c) s'.tm :: row (kE .i64) 3 (.slice Z.z0.a Z.z0.l.length Z.z0.k) Z.z0.l :: row (kE .i64) 3 (.slice Z.z1.a Z.z1.l.length Z.z1.k) Z.z1.l :: row (kE .i64) 3 (.slice Z.z2.a Z.z2.l.length Z.z2.k) Z.z2.l :: row (kE .i64) 3 (.slice Z.z3.a Z.z3.l.length Z.z3.k) Z.z3.l :: blk b1 29 [vi zw, vi zi, vi za, vi zb] :: H)) ((fun w hs => (rklive_walk (row (kE .i64) 3 (.slice pa.1 (kthreads s').length pa.2) (kthreads s') :: kerS k s' :: blk b1 29 [.int .i64 zw, .int .i64 zi, .int .i64 za, .int .i64 zb] :: H) rk t L a c Z s' h1 h2 h3 w (mv2 hs)).mono fun e w' ⟨x, he, hx⟩ => ⟨x, he, mv2' hx⟩))) (fun (pb : Option Addr × Nat) => ?_)
   refine Xo 20 (Xa (some 227) (fun _ => .bool true) ((by have h := sameInts_walk (row (kE .i64) 3 (.slice pb.1 (kthreads s').length pb.2) (kthreads s') :: row (kE .i64) 3 (.slice pa.1 (kthreads s').length pa.2) (kthreads s') :: kerS k s' :: blk rk 55 [.pointer (some ⟨t, 0, none⟩), .slice a s'.tm.length c, .int .i64 Z.z0.c, .int .i64 Z.z1.c, .int .i64 Z.z2.c, .int .i64 Z.z3.c, .slice Z.z0.a Z.z0.l.length Z.z0.k, .slice Z.z1.a Z.z1.l.length Z.z1.k, .slice Z.z2.a Z.z2.l.length Z.z2.k, .slice Z.z3.a Z.z3.l.length Z.z3.k, .int .i64 s'.mt, .int .i64 s'.mg, .int .i64 (s'.nx - 1)] :: rtS t L :: row tmE 141 (.slice a s'.tm.length c) s'.tm :: row (kE .i64) 3 (.slice Z.z0.a Z.z0.l.length Z.z0.k) Z.z0.l :: row (kE .i64) 3 (.slice Z.z1.a Z.z1.l.length Z.z1.k) Z.z1.l :: row (kE .i64) 3 (.slice Z.z2.a Z.z2.l.length Z.z2.k) Z.z2.l :: row (kE .i64) 3 (.slice Z.z3.a Z.z3.l.length Z.z3.k) Z.z3.l :: blk b1 29 [.int .i64 zw, .int .i64 zi, .int .i64 za, .int .i64 zb] :: H) ⟨pa.1, pa.2, (kthreads s')⟩ ⟨pb.1, pb.2, (kthreads s')⟩ (rowKRat 1 rfl) (rowKRat 0 rfl) hkl hkl; rw [decide_eq_true rfl] at h; exact h))) (fun _ => ?_)
   refine Xt [21, 22, 23, 24, 26, 27, 28, 29] [(2,.slice sl.a sl.l.length sl.c), (7,vp k), (8,vp rk), (9,vi u), (230,.bool false), (231,vp k), (236,vp t)] [(⟨rk, 0, none⟩, vp t)] (hasC (ba 0) has0) ?_
   refine DT.pick 1 rfl ?_
   refine PT.drop ?_
   refine PT.drop ?_
   refine Xo 25 (Xa (some 232) (fun (na : Option Addr × Nat) => .slice na.1 L.length na.2) ((by have h := krNodes (blk rk 55 [.pointer (some ⟨t, 0, none⟩), .slice a s'.tm.length c, .int .i64 Z.z0.c, .int .i64 Z.z1.c, .int .i64 Z.z2.c, .int .i64 Z.z3.c, .slice Z.z0.a Z.z0.l.length Z.z0.k, .slice Z.z1.a Z.z1.l.length Z.z1.k, .slice Z.z2.a Z.z2.l.length Z.z2.k, .slice Z.z3.a Z.z3.l.length Z.z3.k, .int .i64 s'.mt, .int .i64 s'.mg, .int .i64 (s'.nx - 1)] :: rtS t L :: row tmE 141 (.slice a s'.tm.length c) s'.tm :: row (kE .i64) 3 (.slice Z.z0.a Z.z0.l.length Z.z0.k) Z.z0.l :: row (kE .i64) 3 (.slice Z.z1.a Z.z1.l.length Z.z1.k) Z.z1.l :: row (kE .i64) 3 (.slice Z.z2.a Z.z2.l.length Z.z2.k) Z.z2.l :: row (kE .i64) 3 (.slice Z.z3.a Z.z3.l.length Z.z3.k) Z.z3.l :: blk b1 29 [.int .i64 zw, .int .i64 zi, .int .i64 za, .int .i64 zb] :: H) k s' hnx'; rw [hNL] at h; exact h))) (fun (na : Option Addr × Nat) => ?_)
   refine Xo 30 (Xa1 (some 237) (fun (nb : Option Addr × Nat) => .slice nb.1 L.length nb.2) (fun (nb : Option Addr × Nat) => (row nE 95 (.slice nb.1 L.length nb.2) L :: row nE 95 (.slice na.1 L.length na.2) L :: kerS k s' :: blk rk 55 [vp t, .slice a s'.tm.length c, vi Z.z0.c, vi Z.z1.c, vi Z.z2.c, vi Z.z3.c, .slice Z.z0.a Z.z0.l.length Z.z0.k, .slice Z.z1.a Z.z1.l.length Z.z1.k, .slice Z.z2.a Z.z2.l.length Z.z2.k, .slice Z.z3.a Z.z3.l.length Z.z3.k, vi s'.mt, vi s'.mg, vi (s'.nx - 1)] :: rtS t L :: row tmE 141 (.slice a s'.tm.length c) s'.tm :: row (kE .i64) 3 (.slice Z.z0.a Z.z0.l.length Z.z0.k) Z.z0.l :: row (kE .i64) 3 (.slice Z.z1.a Z.z1.l.length Z.z1.k) Z.z1.l :: row (kE .i64) 3 (.slice Z.z2.a Z.z2.l.length Z.z2.k) Z.z2.l :: row (kE .i64) 3 (.slice Z.z3.a Z.z3.l.length Z.z3.k) Z.z3.l :: blk b1 29 [vi zw, vi zi, vi za, vi zb] :: H)) ((fun w hs => (rtNodes8 (row nE 95 (.slice na.1 L.length na.2) L :: kerS k s' :: blk rk 55 [.pointer (some ⟨t, 0, none⟩), .slice a s'.tm.length c, .int .i64 Z.z0.c, .int .i64 Z.z1.c, .int .i64 Z.z2.c, .int .i64 Z.z3.c, .slice Z.z0.a Z.z0.l.length Z.z0.k, .slice Z.z1.a Z.z1.l.length Z.z1.k, .slice Z.z2.a Z.z2.l.length Z.z2.k, .slice Z.z3.a Z.z3.l.length Z.z3.k, .int .i64 s'.mt, .int .i64 s'.mg, .int .i64 (s'.nx - 1)] :: row tmE 141 (.slice a s'.tm.length c) s'.tm :: row (kE .i64) 3 (.slice Z.z0.a Z.z0.l.length Z.z0.k) Z.z0.l :: row (kE .i64) 3 (.slice Z.z1.a Z.z1.l.length Z.z1.k) Z.z1.l :: row (kE .i64) 3 (.slice Z.z2.a Z.z2.l.length Z.z2.k) Z.z2.l :: row (kE .i64) 3 (.slice Z.z3.a Z.z3.l.length Z.z3.k) Z.z3.l :: blk b1 29 [.int .i64 zw, .int .i64 zi, .int .i64 za, .int .i64 zb] :: H) t L (by omega) hne' w (Sat.pick 3 rfl hs)).mono fun e w' ⟨x, he, hx⟩ => ⟨x, he, mvN hx⟩))) (fun (nb : Option Addr × Nat) => ?_)
   refine Xo 31 (Xa (some 238) (fun _ => .bool true) (sameNodes_walk (row nE 95 (.slice nb.1 L.length nb.2) L :: row nE 95 (.slice na.1 L.length na.2) L :: kerS k s' :: blk rk 55 [.pointer (some ⟨t, 0, none⟩), .slice a s'.tm.length c, .int .i64 Z.z0.c, .int .i64 Z.z1.c, .int .i64 Z.z2.c, .int .i64 Z.z3.c, .slice Z.z0.a Z.z0.l.length Z.z0.k, .slice Z.z1.a Z.z1.l.length Z.z1.k, .slice Z.z2.a Z.z2.l.length Z.z2.k, .slice Z.z3.a Z.z3.l.length Z.z3.k, .int .i64 s'.mt, .int .i64 s'.mg, .int .i64 (s'.nx - 1)] :: rtS t L :: row tmE 141 (.slice a s'.tm.length c) s'.tm :: row (kE .i64) 3 (.slice Z.z0.a Z.z0.l.length Z.z0.k) Z.z0.l :: row (kE .i64) 3 (.slice Z.z1.a Z.z1.l.length Z.z1.k) Z.z1.l :: row (kE .i64) 3 (.slice Z.z2.a Z.z2.l.length Z.z2.k) Z.z2.l :: row (kE .i64) 3 (.slice Z.z3.a Z.z3.l.length Z.z3.k) Z.z3.l :: blk b1 29 [.int .i64 zw, .int .i64 zi, .int .i64 za, .int .i64 zb] :: H) ⟨na.1, na.2, L⟩ ⟨nb.1, nb.2, L⟩ (rowKRat 1 rfl) (rowKRat 0 rfl) (by show L.length ≤ 1000000; omega) rfl (fun i x y hx hy => by rw [hx] at hy; cases hy; exact ndEq_self _))) (fun _ => ?_)
   refine Xt [32, 33] [(2,.slice sl.a sl.l.length sl.c), (7,vp k), (8,vp rk), (9,vi u), (240,.bool false)] [] has0 ?_
   refine Xd (Xc false (fun h => by cases h) (fun _ => ?_))
   refine Xk (Xg 3 (Xe [(2,.slice sl.a sl.l.length sl.c), (7,vp k), (8,vp rk), (9,vi (IntKind.i64.wrap ((u : Int) + 1)))] ?_ 3))
   rw [show IntKind.i64.wrap ((u : Int) + 1) = ((u : Int) + 1) by rw [w64 (by omega) (by omega)]]
   refine PT.drop ?_
   refine PT.drop ?_
   refine PT.pick 8 rfl ?_
   refine PT.pick 1 rfl ?_
   refine PT.pick 8 rfl ?_
   refine PT.pick 8 rfl ?_
   refine PT.pick 8 rfl ?_
   refine PT.pick 8 rfl ?_
   refine PT.pick 8 rfl ?_
   refine PT.pick 8 rfl ?_
   refine PT.pick 8 rfl ?_
   refine PT.closeRk (s := s') h1 h2 h3 ?_
   refine PT.pick 2 rfl ?_
   refine PT.drop ?_
   refine PT.pick 0 rfl ?_
   refine PT.pick 1 rfl ?_
   refine Xp [(2,.slice sl.a sl.l.length sl.c), (7,vp k), (8,vp rk), (9,vi ((u : Int) + 1))] ?_
   exact againG (n - 1) (s', u + 1) rfl rfl (by omega) ⟨by simp only; omega, hI'⟩
  ·skip
   refine Xx 0 (thenX (thenX (leaveR (Xq (Xg 1 (Xe [(6,.bool true)] ?_ 1))))))
   refine Xv (Y0 (.bool true) (fun w hs => ?_))
   exact ⟨(), rfl, hs.tail.tail⟩
theorem plays_row (W : World) (hE : W.cell? ⟨0, 0, none⟩ = some errT) (th gr : Int) (ao : Option Addr) (c : Nat) (l : List (Int × Int × Int × Int)) (hth : (Lit.int .i64 th).wf = true) (hgr : (Lit.int .i64 gr).wf = true) (hrd : Rd k10E W (.slice ao l.length c) l) (hl : ∀ x ∈ l, x.2.1 ≤ 9223372036854775807) : Calls Tryz.prog 3 #[vi th, vi gr, .slice ao l.length c] W (LawPost W) :=
 lawPost (fun _ _ h => h) (plays10_walk [old W] (EK.old 0 rfl hE) th gr ⟨ao, c, l⟩ (KR.old hrd 0 rfl) W (Sat.start W))
end Go.Proofs.YtlhjibkkkhgonaaGreatDoor
