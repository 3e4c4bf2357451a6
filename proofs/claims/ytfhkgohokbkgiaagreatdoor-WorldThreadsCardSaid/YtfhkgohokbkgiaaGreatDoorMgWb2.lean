/- Texts put together: Trees: one round of waking, of resting; another pass. tree: wakes. tree: rests. tree: Ready, sets, has. tree: Nodes. Trees: what waking, resting leave; a node comes, a node goes. Trees: the least that is ready; the way down; passes made less. tree: has, Remove, Weight, Add. tree: Remove, Weight, Add. Trees: each operation keeps what holds of them. tree: Add. tree: shifts. tree: shifts. tree: Run. Trees: what Run makes of the nodes. What a law's walk gives; arguments. tree: what calls answer, told by equations; what the laws know first. Conditions: none. -/
import Derived.Test.YtfhkgohokbkgiaaGreatDoorMgWb1
set_option linter.unusedVariables false
set_option linter.unusedSimpArgs false
namespace Go.Proofs.YtfhkgohokbkgiaaGreatDoor
open Go.RowKit G
def RK (N : List Nr) (rk : Int → Nat) : Prop := ∀ x ∈ N, (x.id = 0 → rk x.id = 1) ∧ (x.id ≠ 0 → rk x.id = rk x.par + 1) ∧ rk x.id ≤ 5 ∧ (x.thr = false → rk x.id ≤ 4)
theorem RK.ups {N : List Nr} {rk : Int → Nat} (h : RK N rk) {k : Int} {f : Nr → Nr} (hf : Skel f) : RK (upN N k f) rk := fun x hx => by
  obtain ⟨y, hy, ⟨_, rfl⟩ | ⟨_, rfl⟩⟩ := mem_upN.1 hx
  · rw [hf.id, hf.par, hf.thr]; exact h y hy
  · exact h x hy
theorem RK.pos {N : List Nr} {rk : Int → Nat} (h : RK N rk) {x : Nr} (hx : x ∈ N) : 1 ≤ rk x.id := by
  by_cases c : x.id = 0
  · rw [(h x hx).1 c]; omega
  · rw [(h x hx).2.1 c]; omega
theorem RK.up {N : List Nr} {rk : Int → Nat} (hs : SK N) (h : RK N rk) {x p : Nr} (hx : x ∈ N) (hp : p ∈ N) (he : p.id = x.par) : rk x.id = rk p.id + 1 := by
  by_cases c : x.id = 0
  · have h1 := (hs.rt x hx c).1
    have h2 := hs.neg (k := p.id) (by omega)
    rw [gt_of hs.nd hp] at h2; cases h2
  · rw [(h x hx).2.1 c, he]
theorem SK.ne_par {N : List Nr} (hs : SK N) {x : Nr} (hx : x ∈ N) : x.id ≠ x.par := by
  obtain ⟨rk, h⟩ := hs.rk
  intro e
  have := RK.up hs h hx hx e
  omega
theorem SK.pos {N : List Nr} (hs : SK N) {x : Nr} (hx : x ∈ N) : 0 ≤ x.id := by
  by_cases c : x.id = 0
  · omega
  · have := (hs.pa x hx c).1; omega
/-- What an index holds: each number once; fewer than there may be. -/
theorem OkT.uni {N : List Nr} {T : List Nd} (h : OkT N T) (hs : SK N) {x : Nd} (hx : x ∈ T) {e e' : Int × Int} (he : e ∈ x.q) (he' : e' ∈ x.q) (hk : e.2 = e'.2) : e = e' := by
  obtain ⟨p, k⟩ := e
  obtain ⟨p', k'⟩ := e'
  simp only at hk; subst hk
  rw [KD_uni hs.nd ((h.mem x hx p k).1 he) ((h.mem x hx p' k).1 he')]
theorem OkT.qlen {N : List Nr} {T : List Nd} (h : OkT N T) (hs : SK N) {x : Nd} (hx : x ∈ T) : x.q.length < 60 := by
  have h1 : (x.n.id :: x.q.map (·.2)).Nodup := by
    refine List.nodup_cons.2 ⟨fun hm => ?_, ?_⟩
    · obtain ⟨⟨p, k⟩, he, hk⟩ := List.mem_map.1 hm
      obtain ⟨y, hy, h1, _, _, h4⟩ := (h.mem x hx p k).1 he
      simp only at hk
      have := hs.ne_par hy
      rw [h4, h1, hk] at this
      exact this rfl
    · refine List.pairwise_map.2 ((h.srt x hx).imp_of_mem fun {a b} ha hb hab e => ?_)
      have := h.uni hs hx ha hb e
      subst this
      exact eLt_irrefl _ hab
  have h2 : (x.n.id :: x.q.map (·.2)) ⊆ N.map (·.id) := by
    intro k hk
    rcases List.mem_cons.1 hk with rfl | hk
    · exact List.mem_map.2 ⟨x.n, h.mem_n hx, rfl⟩
    · obtain ⟨⟨p, k⟩, he, rfl⟩ := List.mem_map.1 hk
      obtain ⟨y, hy, _, _, _, h4⟩ := (h.mem x hx p k).1 he
      exact List.mem_map.2 ⟨y, hy, h4⟩
  have h3 := h1.length_le_of_subset h2
  have h4 := hs.len
  simp only [List.length_cons, List.length_map] at h3
  omega
theorem LB.ups {N : List Nr} (h : LB N) {x : Nr} (hn : (N.map (·.id)).Nodup) (hx : x ∈ N) {f : Nr → Nr} (h1 : isW (f x).wt = true) (h2 : 0 ≤ (f x).pass ∧ (f x).pass ≤ 1099511627776) (h3 : 0 ≤ (f x).now ∧ (f x).now ≤ 1099511627776) : LB (upN N x.id f) := by
  have key : ∀ y ∈ upN N x.id f, (y = f x) ∨ y ∈ N := fun y hy => by
    obtain ⟨z, hz, ⟨e, rfl⟩ | ⟨_, rfl⟩⟩ := mem_upN.1 hy
    · left; rw [nd_eq hn hz hx e]
    · exact .inr hz
  refine ⟨fun y hy => ?_, fun y hy => ?_, fun y hy => ?_⟩ <;> rcases key y hy with rfl | hy
  · exact h1
  · exact h.wt y hy
  · exact h2
  · exact h.pass y hy
  · exact h3
  · exact h.now y hy
def wkF (P : Int) (x : Nr) : Nr := { x with rdy := true, pass := mxI x.pass P }
def rsF (x : Nr) : Nr := { x with rdy := false }
def psF (P : Int) (x : Nr) : Nr := { x with pass := P }
theorem wkF_skel (P : Int) : Skel (wkF P) := ⟨fun _ => rfl, fun _ => rfl, fun _ => rfl⟩
theorem rsF_skel : Skel rsF := ⟨fun _ => rfl, fun _ => rfl, fun _ => rfl⟩
theorem psF_skel (P : Int) : Skel (psF P) := ⟨fun _ => rfl, fun _ => rfl, fun _ => rfl⟩
theorem same2 {T : List Nd} {i j : Nat} {x p x' p' : Nd} (hi : T[i]? = some x) (hj : T[j]? = some p) (hij : i ≠ j) (hx : x'.n.id = x.n.id ∧ x'.b = x.b ∧ x'.ib = x.ib) (hp : p'.n.id = p.n.id ∧ p'.b = p.b ∧ p'.ib = p.ib) : SameT T ((T.set i x').set j p') :=
  (SameT.set hi hx).trans (SameT.set (x := p) (by rw [List.getElem?_set, if_neg hij]; exact hj) hp)
/-- A round of waking. -/
theorem wake_round {N : List Nr} {T : List Nd} (hT : OkT N T) (hsk : SK N) (hlb : LB N) {i j : Nat} {x p : Nd} (hi : T[i]? = some x) (hj : T[j]? = some p) (hp : p.n.id = x.n.par) (hr : x.n.rdy = false) :
    i ≠ j ∧ putE 60 p.q (mxI x.n.pass p.n.now) x.n.id = (0, insE (mxI x.n.pass p.n.now, x.n.id) p.q) ∧ p.q.length < 1000000 ∧ SrtE p.q ∧ x.n.pass.natAbs < 2 ^ 53 ∧ p.n.now.natAbs < 2 ^ 53 ∧
    OkT (upN N x.n.id (wkF p.n.now)) ((T.set i { x with n := wkF p.n.now x.n }).set j { p with q := insE (mxI x.n.pass p.n.now, x.n.id) p.q }) ∧
    SameT T ((T.set i { x with n := wkF p.n.now x.n }).set j { p with q := insE (mxI x.n.pass p.n.now, x.n.id) p.q }) ∧ SK (upN N x.n.id (wkF p.n.now)) ∧ LB (upN N x.n.id (wkF p.n.now)) := by
  have hxT := List.mem_of_getElem? hi
  have hpT := List.mem_of_getElem? hj
  have hx := hT.mem_n hxT
  have hpn := hT.mem_n hpT
  have hij : i ≠ j := fun e => by subst e; rw [hi] at hj; cases hj; exact hsk.ne_par hx hp
  have hno : ∀ e ∈ p.q, e.2 ≠ x.n.id := fun e he hk => by
    obtain ⟨s, k⟩ := e
    simp only at hk; subst hk
    have := (KD_one hsk.nd hx).1 ((hT.mem p hpT s _).1 he)
    rw [hr] at this; cases this.2.1
  have hql := hT.qlen hsk hpT
  have h1 := hlb.pass x.n hx
  have h2 := hlb.now p.n hpn
  have hmx : 0 ≤ mxI x.n.pass p.n.now ∧ mxI x.n.pass p.n.now ≤ 1099511627776 := by unfold mxI; split <;> omega
  refine ⟨hij, putE_ok hmx (hsk.pos hx) hno (by omega), by omega, hT.srt p hpT, by omega, by omega, ?_, ?_, hsk.upN (wkF_skel _), hlb.ups hsk.nd hx (hlb.wt x.n hx) hmx (hlb.now x.n hx)⟩
  · refine hT.two hsk.nd hi hj hp hij (wkF_skel _) ((hT.srt p hpT).ins fun e he h => hno e he (by rw [h])) fun s k => ?_
    rw [mem_insE, KD_up hsk.nd hx (wkF_skel _), Prod.mk.injEq]
    show (s = mxI x.n.pass p.n.now ∧ k = x.n.id) ∨ (s, k) ∈ p.q ↔ (k ≠ x.n.id ∧ KD N p.n.id s k) ∨ (k = x.n.id ∧ x.n.par = p.n.id ∧ true = true ∧ mxI x.n.pass p.n.now = s)
    rw [hT.mem p hpT s k]
    show _ ∨ KD N p.n.id s k ↔ _
    constructor
    · rintro (⟨rfl, rfl⟩ | h)
      · exact .inr ⟨rfl, hp.symm, rfl, rfl⟩
      · exact .inl ⟨fun e => hno (s, k) ((hT.mem p hpT s k).2 h) e, h⟩
    · rintro (⟨_, h⟩ | ⟨h3, _, _, h4⟩)
      · exact .inr h
      · exact .inl ⟨h4.symm, h3⟩
  · exact same2 hi hj hij ⟨rfl, rfl, rfl⟩ ⟨rfl, rfl, rfl⟩
/-- A round of resting. -/
theorem rest_round {N : List Nr} {T : List Nd} (hT : OkT N T) (hsk : SK N) (hlb : LB N) {i j : Nat} {x p : Nd} (hi : T[i]? = some x) (hj : T[j]? = some p) (hp : p.n.id = x.n.par) (hr : x.n.rdy = true) :
    i ≠ j ∧ p.q.length < 1000000 ∧ ∃ q, dropE p.q x.n.id = (0, q) ∧ OkT (upN N x.n.id rsF) ((T.set i { x with n := rsF x.n }).set j { p with q := q }) ∧ SameT T ((T.set i { x with n := rsF x.n }).set j { p with q := q }) ∧ SK (upN N x.n.id rsF) ∧ LB (upN N x.n.id rsF) := by
  have hxT := List.mem_of_getElem? hi
  have hpT := List.mem_of_getElem? hj
  have hx := hT.mem_n hxT
  have hij : i ≠ j := fun e => by subst e; rw [hi] at hj; cases hj; exact hsk.ne_par hx hp
  have hin : (x.n.pass, x.n.id) ∈ p.q := (hT.mem p hpT _ _).2 ((KD_one hsk.nd hx).2 ⟨hp.symm, hr, rfl⟩)
  obtain ⟨q, h1, h2, _, h4⟩ := dropE_is (hT.srt p hpT) hin rfl (fun e' he' hk => hT.uni hsk hpT he' hin hk)
  have hql := hT.qlen hsk hpT
  refine ⟨hij, by omega, q, h1, ?_, same2 hi hj hij ⟨rfl, rfl, rfl⟩ ⟨rfl, rfl, rfl⟩, hsk.upN rsF_skel, hlb.ups hsk.nd hx (hlb.wt x.n hx) (hlb.pass x.n hx) (hlb.now x.n hx)⟩
  refine hT.two hsk.nd hi hj hp hij rsF_skel h2 fun s k => ?_
  rw [h4, KD_up hsk.nd hx rsF_skel, hT.mem p hpT s k]
  show KD N p.n.id s k ∧ k ≠ x.n.id ↔ (k ≠ x.n.id ∧ KD N p.n.id s k) ∨ (k = x.n.id ∧ x.n.par = p.n.id ∧ false = true ∧ x.n.pass = s)
  simp [And.comm]
/-- A ready node's other pass. -/
theorem sets_round {N : List Nr} {T : List Nd} (hT : OkT N T) (hsk : SK N) (hlb : LB N) {i j : Nat} {x p : Nd} (hi : T[i]? = some x) (hj : T[j]? = some p) (hp : p.n.id = x.n.par) (hr : x.n.rdy = true) {P : Int} (hP : 0 ≤ P ∧ P ≤ 1099511627776) :
    i ≠ j ∧ p.q.length < 1000000 ∧ SrtE p.q ∧ ∃ q, rekeyE p.q x.n.id P = (0, q) ∧ OkT (upN N x.n.id (psF P)) ((T.set i { x with n := psF P x.n }).set j { p with q := q }) ∧ SameT T ((T.set i { x with n := psF P x.n }).set j { p with q := q }) ∧ SK (upN N x.n.id (psF P)) ∧ LB (upN N x.n.id (psF P)) := by
  have hxT := List.mem_of_getElem? hi
  have hpT := List.mem_of_getElem? hj
  have hx := hT.mem_n hxT
  have hij : i ≠ j := fun e => by subst e; rw [hi] at hj; cases hj; exact hsk.ne_par hx hp
  have hin : (x.n.pass, x.n.id) ∈ p.q := (hT.mem p hpT _ _).2 ((KD_one hsk.nd hx).2 ⟨hp.symm, hr, rfl⟩)
  obtain ⟨q, h1, h2, _, h4⟩ := rekeyE_is (hT.srt p hpT) hin rfl (fun e' he' hk => hT.uni hsk hpT he' hin hk) hP
  have hql := hT.qlen hsk hpT
  refine ⟨hij, by omega, hT.srt p hpT, q, h1, ?_, same2 hi hj hij ⟨rfl, rfl, rfl⟩ ⟨rfl, rfl, rfl⟩, hsk.upN (psF_skel P), hlb.ups hsk.nd hx (hlb.wt x.n hx) hP (hlb.now x.n hx)⟩
  refine hT.two hsk.nd hi hj hp hij (psF_skel P) h2 fun s k => ?_
  rw [h4, KD_up hsk.nd hx (psF_skel P), hT.mem p hpT s k, Prod.mk.injEq]
  show (s = P ∧ k = x.n.id) ∨ (KD N p.n.id s k ∧ k ≠ x.n.id) ↔ (k ≠ x.n.id ∧ KD N p.n.id s k) ∨ (k = x.n.id ∧ x.n.par = p.n.id ∧ x.n.rdy = true ∧ P = s)
  rw [hr]
  constructor
  · rintro (⟨rfl, rfl⟩ | ⟨h5, h6⟩)
    · exact .inr ⟨rfl, hp.symm, rfl, rfl⟩
    · exact .inl ⟨h6, h5⟩
  · rintro (⟨h5, h6⟩ | ⟨h5, _, _, h6⟩)
    · exact .inr ⟨h6, h5⟩
    · exact .inl ⟨h6.symm, h5⟩
/-- A walk up from a node: what is still to do. -/
structure Climb (F : Nat → List Nr → Int → List Nr) (N : List Nr) (k0 : Int) (T : List Nd) (rk : Int → Nat) (k : Nat) (T1 : List Nd) (x1 : Nd) : Prop where
  ex : ∃ N1, OkT N1 T1 ∧ SK N1 ∧ LB N1 ∧ RK N1 rk ∧ F 6 N k0 = F k N1 x1.n.id
  same : SameT T T1
  mem : ∃ i : Nat, T1[i]? = some x1
  le : rk x1.n.id ≤ k
end Go.Proofs.YtfhkgohokbkgiaaGreatDoor
set_option linter.unusedVariables false
set_option linter.unusedSimpArgs false
namespace Go.Proofs.YtfhkgohokbkgiaaGreatDoor
open Go.RowKit G
set_option maxRecDepth 100000 in
theorem wakes_walk {N : List Nr} {T : List Nd} (hT : OkT N T) (hsk : SK N) (hlb : LB N) {i0 : Nat} {x : Nd} (hx : T[i0]? = some x) (H : List SP) (t mb : Nat) : ∀ w, Sat w (blk t 210 [.map (some mb)] :: mapS mb (T.map kp) :: (nodesL T ++ H)) → Calls Tryz.prog 97 #[vp t, .pointer (some ⟨x.b, 0, none⟩)] w (Ret (ι := { T' : List Nd // OkT (wakeN 6 N x.n.id) T' ∧ SameT T T' }) (fun _ => .tuple #[]) fun T' => blk t 210 [.map (some mb)] :: mapS mb (T'.1.map kp) :: (nodesL T'.1 ++ H)) := by
 obtain ⟨rk, hrk⟩ := hsk.rk
 refine enterG (fn := Tryz.f97) 58 [vp t, .pointer (some ⟨x.b, 0, none⟩)] Tryz.func97 (by kernel_rfl) (by kernel_rfl) (by kernel_rfl) ?_
 refine scopeG 0 (fun (s : List Nd × Nd) => [(0, vp t), (1, .pointer (some ⟨s.2.b, 0, none⟩))]) (fun (s : List Nd × Nd) => (blk t 210 [.map (some mb)] :: mapS mb (s.1.map kp) :: (nodesL s.1 ++ H))) (fun k (s : List Nd × Nd) => Climb wakeN N x.n.id T rk k s.1 s.2) (by kernel_rfl) (by kernel_rfl) (by kernel_rfl) (by kernel_rfl) ?_ ?_
 ·skip
  rintro k ⟨T1, x1⟩ hC K hK
  obtain ⟨⟨N1, hT1, hs1, hb1, hr1, he⟩, hsame, ⟨i, hi⟩, hle⟩ := hC
  simp only at hT1 hsame hi hle he
  have hm := List.mem_of_getElem? hi
  have hnd := hs1.nd
  have hpos := hr1.pos (hT1.mem_n hm)
  obtain ⟨k, rfl⟩ : ∃ k', k = k' + 1 := ⟨k - 1, by omega⟩
  have hgx := hT1.at hnd hi
  refine Xq (Xq (Xg 5 (Xm [(0,vp t), (1,.pointer (some ⟨x1.b, 0, none⟩)), (9,.bool x1.n.rdy)] [(⟨x1.b, 5, none⟩, .bool x1.n.rdy)] (hasC (up (up (nodeAt (T := T1) hm (j := 5) rfl))) has0) ?_ 5)))
  refine Xc (x1.n.rdy) (fun h1 => ?_) (fun h1 => ?_)
  ·skip
   refine Xv (thenV (jumpV (Y0 (.tuple #[]) (fun w hs => ?_))))
   exact ⟨⟨T1, by rw [he, wakeN, hgx]; simp only [h1, if_true]; exact hT1, hsame⟩, rfl, hs⟩
  ·skip
   cases hg : gt N1 x1.n.par with
   | none =>
    obtain ⟨R, hR, hR2⟩ := perm1 hi
    refine PT.open1 (hR) ?_
    refine Xk (Xq (Xg 5 (Xr [(0,vp t), (1,.pointer (some ⟨x1.b, 0, none⟩)), (13,.pointer (some ⟨x1.b, 5, none⟩))] ?_ 1 4)))
    refine Xh0 ?_ 2 1
    refine Xs (Xz [(5,.bool true)]) (fun _ => ?_) 0
    refine endR ?_
    refine Xq (Xy0 0 [] 11 ?_)
    refine Xt [0, 1, 2, 3, 4, 5, 6, 7, 8] [(0,vp t), (1,.pointer (some ⟨x1.b, 0, none⟩)), (17,.map (some mb)), (22,vi x1.n.par)] [(⟨t, 0, none⟩, .map (some mb)), (⟨x1.b, 1, none⟩, vi x1.n.par)] (hasC (ba 1) (hasC (ba 0) has0)) ?_
    refine Xu 9 (lookY 207 (.tmp 17) (.tmp 22) false mb x1.n.par (T1.map kp) (.pointer none) (.pointer none) 3 208 (some 23) (fun _ => by kernel_rfl) (by kernel_rfl) (by kernel_rfl) (fun _ => by kernel_rfl) (fun _ => by kernel_rfl) Tryz.underlying207 (by kernel_rfl) (fun _ => by kernel_rfl) (mapAt (H := (blk x1.b 213 [.int .i64 x1.n.id, .int .i64 x1.n.par, .int .i64 x1.n.wt, .int .i64 x1.n.pass, .bool x1.n.thr, .bool true, .int .i64 x1.n.now, .pointer (some ⟨x1.ib, 0, none⟩)] :: blk t 210 [.map (some mb)] :: mapS mb (T1.map kp) :: idxS x1.ib 60 x1.q :: (nodesL R ++ H))) (i := 2) rfl) (by rw [lk_none hT1 hg]; rfl)) ?_
    refine Xt [10] [(0,vp t), (1,.pointer (some ⟨x1.b, 0, none⟩)), (4,.pointer none)] [] has0 ?_
    refine Xd (Xq (Xq (Xg 2 (Xe [(0,vp t), (1,.pointer (some ⟨x1.b, 0, none⟩)), (4,.pointer none), (25,.bool true)] ?_ 2))))
    refine Xc true (fun _ => ?_) (fun h => by cases h)
    refine Xv (thenV (jumpV ?_))
    refine PT.pick 0 rfl ?_
    refine PT.pick 2 rfl ?_
    refine PT.pick 2 rfl ?_
    refine PT.close1 ({ x1 with n := { x1.n with rdy := true } }) (hR2 _) ?_
    have hsm : SameT T1 (T1.set i { x1 with n := { x1.n with rdy := true } }) := SameT.set hi ⟨rfl, rfl, rfl⟩
    rw [← hsm.kp]
    refine Y0 (.tuple #[]) (fun w hs => ?_)
    exact ⟨⟨_, by rw [he, wakeN, hgx]; simp only [h1, hg, Bool.false_eq_true, if_false]; exact hT1.one hnd hi (f := fun x => { x with rdy := true }) ⟨fun _ => rfl, fun _ => rfl, fun _ => rfl⟩ (.inl (gt_none.1 hg)), hsame.trans hsm⟩, rfl, hs⟩
   | some y =>
    obtain ⟨j, p, hj, hpn, hpk⟩ := hT1.get hg
    obtain ⟨hij, hput, hql, hqs, hf1, hf2, hT2, hsm, hs2, hb2⟩ := wake_round hT1 hs1 hb1 hi hj hpk h1
    obtain ⟨R, hR, hR2⟩ := perm2 hi hj hij
    refine PT.open2 (hR) ?_
    refine Xk (Xq (Xg 5 (Xr [(0,vp t), (1,.pointer (some ⟨x1.b, 0, none⟩)), (13,.pointer (some ⟨x1.b, 5, none⟩))] ?_ 1 4)))
    refine Xh0 ?_ 2 1
    refine Xs (Xz [(5,.bool true)]) (fun _ => ?_) 0
    refine endR ?_
    refine Xq (Xy0 0 [] 11 ?_)
    refine Xt [0, 1, 2, 3, 4, 5, 6, 7, 8] [(0,vp t), (1,.pointer (some ⟨x1.b, 0, none⟩)), (17,.map (some mb)), (22,vi x1.n.par)] [(⟨t, 0, none⟩, .map (some mb)), (⟨x1.b, 1, none⟩, vi x1.n.par)] (hasC (ba 1) (hasC (ba 0) has0)) ?_
    refine Xu 9 (lookY 207 (.tmp 17) (.tmp 22) false mb x1.n.par (T1.map kp) (.pointer none) (.pointer (some ⟨p.b, 0, none⟩)) 3 208 (some 23) (fun _ => by kernel_rfl) (by kernel_rfl) (by kernel_rfl) (fun _ => by kernel_rfl) (fun _ => by kernel_rfl) Tryz.underlying207 (by kernel_rfl) (fun _ => by kernel_rfl) (mapAt (H := (blk x1.b 213 [.int .i64 x1.n.id, .int .i64 x1.n.par, .int .i64 x1.n.wt, .int .i64 x1.n.pass, .bool x1.n.thr, .bool true, .int .i64 x1.n.now, .pointer (some ⟨x1.ib, 0, none⟩)] :: blk t 210 [.map (some mb)] :: mapS mb (T1.map kp) :: idxS x1.ib 60 x1.q :: blk p.b 213 [.int .i64 p.n.id, .int .i64 p.n.par, .int .i64 p.n.wt, .int .i64 p.n.pass, .bool p.n.thr, .bool p.n.rdy, .int .i64 p.n.now, .pointer (some ⟨p.ib, 0, none⟩)] :: idxS p.ib 60 p.q :: (nodesL R ++ H))) (i := 2) rfl) (by rw [lk_some hT1 hnd hj hpk]; rfl)) ?_
    refine Xt [10] [(0,vp t), (1,.pointer (some ⟨x1.b, 0, none⟩)), (4,.pointer (some ⟨p.b, 0, none⟩))] [] has0 ?_
    refine Xd (Xq (Xq (Xg 2 (Xe [(0,vp t), (1,.pointer (some ⟨x1.b, 0, none⟩)), (4,.pointer (some ⟨p.b, 0, none⟩)), (25,.bool false)] ?_ 2))))
    refine Xc false (fun h => by cases h) (fun _ => ?_)
    refine Xk (Xq (Xy0 0 [15] 16 ?_))
    refine Xt [0, 1, 2, 3, 4, 5, 6, 7, 8, 9] [(0,vp t), (1,.pointer (some ⟨x1.b, 0, none⟩)), (4,.pointer (some ⟨p.b, 0, none⟩)), (26,.pointer (some ⟨x1.b, 0, none⟩)), (31,vi x1.n.pass), (35,vi p.n.now)] [(⟨x1.b, 3, none⟩, vi x1.n.pass), (⟨p.b, 6, none⟩, vi p.n.now)] (hasC (ba 0) (hasC (ba 4) has0)) ?_
    refine Xo 10 (Xa (some 36) (fun _ => .complex .f64 (floatOfInt .f64 x1.n.pass) (floatOfInt .f64 p.n.now)) (pair_walk _ x1.n.pass p.n.now)) (fun _ => ?_)
    refine Xo 11 (Xa (some 37) (fun _ => vi (mxI x1.n.pass p.n.now)) (later_walk _ x1.n.pass p.n.now hf1 hf2)) (fun _ => ?_)
    refine Xt [12, 13, 14] [(37,vi (mxI x1.n.pass p.n.now)), (0,vp t), (1,.pointer (some ⟨x1.b, 0, none⟩)), (4,.pointer (some ⟨p.b, 0, none⟩)), (40,.pointer (some ⟨x1.b, 3, none⟩))] [] has0 ?_
    refine Xo 15 (Xz [(3,vi (mxI x1.n.pass p.n.now))]) (fun _ => ?_)
    refine Xd (Xq (Xq ?_))
    refine PT.pick 5 rfl ?_
    refine Xy0 1 [] 16 ?_
    refine Xt [0, 1, 2, 3, 4, 5, 6, 7, 8, 9, 10, 11, 12, 13] [(0,vp t), (1,.pointer (some ⟨x1.b, 0, none⟩)), (4,.pointer (some ⟨p.b, 0, none⟩)), (44,.pointer (some ⟨p.ib, 0, none⟩)), (49,vi (mxI x1.n.pass p.n.now)), (54,vi x1.n.id)] [(⟨p.b, 7, none⟩, .pointer (some ⟨p.ib, 0, none⟩)), (⟨x1.b, 3, none⟩, vi (mxI x1.n.pass p.n.now)), (⟨x1.b, 0, none⟩, vi x1.n.id)] (hasC (ba 4) (hasC (ba 0) (hasC (ba 0) has0))) ?_
    refine Xo 14 (Xa (some 55) (fun _ => .nilIface) (put_ok hput hqs hql _ _)) (fun _ => ?_)
    refine Xt [15] [(0,vp t), (1,.pointer (some ⟨x1.b, 0, none⟩)), (4,.pointer (some ⟨p.b, 0, none⟩)), (56,.bool false)] [] has0 ?_
    refine Xd (Xc false (fun h => by cases h) (fun _ => ?_))
    refine Xk (Xq (Xg 2 (Xe [(0,vp t), (1,.pointer (some ⟨p.b, 0, none⟩))] ?_ 2)))
    refine gotoR 0 (by kernel_rfl) (by kernel_rfl) ?_
    refine PT.pick 0 rfl ?_
    refine PT.pick 5 rfl ?_
    refine PT.pick 5 rfl ?_
    refine PT.pick 3 rfl ?_
    refine PT.pick 5 rfl ?_
    refine PT.pick 5 rfl ?_
    refine PT.close2 ({ x1 with n := wkF p.n.now x1.n }) ({ p with q := insE (mxI x1.n.pass p.n.now, x1.n.id) p.q }) (hR2 _ _) ?_
    rw [← hsm.kp]
    have hpj : ((T1.set i { x1 with n := wkF p.n.now x1.n }).set j { p with q := insE (mxI x1.n.pass p.n.now, x1.n.id) p.q })[j]? = some { p with q := insE (mxI x1.n.pass p.n.now, x1.n.id) p.q } := by rw [List.getElem?_set_self (by rw [List.length_set]; exact (List.getElem?_eq_some_iff.1 hj).1)]
    refine Xp [(0,vp t), (1,.pointer (some ⟨p.b, 0, none⟩))] ?_
    exact jumpR (hK k (_, { p with q := insE (mxI x1.n.pass p.n.now, x1.n.id) p.q }) (by omega) ⟨⟨_, hT2, hs2, hb2, hr1.ups (wkF_skel _), by rw [he, wakeN, hgx]; simp only [h1, hg, Bool.false_eq_true, if_false]; rw [← hpn, hpk]; rfl⟩, hsame.trans hsm, ⟨j, hpj⟩, by have := RK.up hs1 hr1 (hT1.mem_n hm) (hT1.mem_n (List.mem_of_getElem? hj)) hpk; simp only; omega⟩)
 ·skip
  intro K hK
  refine Xq ?_
  refine labelR (by kernel_rfl) ?_
  refine Xp [(0,vp t), (1,.pointer (some ⟨x.b, 0, none⟩))] ?_
  refine codeR (by kernel_rfl) (hK 6 (T, x) ⟨⟨N, hT, hsk, hlb, hrk, rfl⟩, SameT.refl T, ⟨i0, hx⟩, by have := (hrk _ (hT.mem_n (List.mem_of_getElem? hx))).2.2.1; simp only; omega⟩)
end Go.Proofs.YtfhkgohokbkgiaaGreatDoor
set_option linter.unusedVariables false
set_option linter.unusedSimpArgs false
namespace Go.Proofs.YtfhkgohokbkgiaaGreatDoor
open Go.RowKit G
theorem q_kid {N : List Nr} {T : List Nd} (h : OkT N T) {x : Nd} (hx : x ∈ T) : x.q ≠ [] ↔ kidR N x.n.id ≠ [] := by
 rw [kidR_ne]
 constructor
 ·intro hq
  obtain ⟨⟨p, k⟩, he⟩ := List.exists_mem_of_ne_nil _ hq
  exact ⟨p, k, (h.mem x hx p k).1 he⟩
 ·rintro ⟨p, k, hk⟩
  exact List.ne_nil_of_mem ((h.mem x hx p k).2 hk)
theorem rest_test {N : List Nr} {T : List Nd} (h : OkT N T) {x : Nd} (hx : x ∈ T) : (!x.n.rdy || decide ((x.q.length : Int) > 0)) = true ↔ (x.n.rdy = false ∨ kidR N x.n.id ≠ []) := by
 rw [← q_kid h hx, Bool.or_eq_true, decide_eq_true_eq, Bool.not_eq_true']
 have : ((x.q.length : Int) > 0) ↔ x.q ≠ [] := by
  constructor
  ·intro h e; rw [e] at h; simp at h
  ·intro h; have := List.length_pos_iff.2 h; omega
 rw [this]
set_option maxRecDepth 100000 in
theorem rests_walk {N : List Nr} {T : List Nd} (hT : OkT N T) (hsk : SK N) (hlb : LB N) {i0 : Nat} {x : Nd} (hx : T[i0]? = some x) (H : List SP) (t mb : Nat) : ∀ w, Sat w (blk t 210 [.map (some mb)] :: mapS mb (T.map kp) :: (nodesL T ++ H)) → Calls Tryz.prog 98 #[vp t, .pointer (some ⟨x.b, 0, none⟩)] w (Ret (ι := { T' : List Nd // OkT (restN 6 N x.n.id) T' ∧ SameT T T' }) (fun _ => .tuple #[]) fun T' => blk t 210 [.map (some mb)] :: mapS mb (T'.1.map kp) :: (nodesL T'.1 ++ H)) := by
 obtain ⟨rk, hrk⟩ := hsk.rk
 refine enterG (fn := Tryz.f98) 49 [vp t, .pointer (some ⟨x.b, 0, none⟩)] Tryz.func98 (by kernel_rfl) (by kernel_rfl) (by kernel_rfl) ?_
 refine scopeG 0 (fun (s : List Nd × Nd) => [(0, vp t), (1, .pointer (some ⟨s.2.b, 0, none⟩))]) (fun (s : List Nd × Nd) => (blk t 210 [.map (some mb)] :: mapS mb (s.1.map kp) :: (nodesL s.1 ++ H))) (fun k (s : List Nd × Nd) => Climb restN N x.n.id T rk k s.1 s.2) (by kernel_rfl) (by kernel_rfl) (by kernel_rfl) (by kernel_rfl) ?_ ?_
 ·skip
  rintro k ⟨T1, x1⟩ hC K hK
  obtain ⟨⟨N1, hT1, hs1, hb1, hr1, he⟩, hsame, ⟨i, hi⟩, hle⟩ := hC
  simp only at hT1 hsame hi hle he
  have hm := List.mem_of_getElem? hi
  have hnd := hs1.nd
  have hpos := hr1.pos (hT1.mem_n hm)
  obtain ⟨k, rfl⟩ : ∃ k', k = k' + 1 := ⟨k - 1, by omega⟩
  have hgx := hT1.at hnd hi
  have htest := rest_test hT1 hm
  cases hg : gt N1 x1.n.par with
  | none =>
   obtain ⟨R, hR, hR2⟩ := perm1 hi
   refine PT.open1 (hR) ?_
   refine Xq (Xq (Xg 14 (Xl [(0,vp t), (1,.pointer (some ⟨x1.b, 0, none⟩)), (11,.bool (!x1.n.rdy))] [(⟨x1.b, 5, none⟩, .bool x1.n.rdy)] (hasC (ba 2) has0) ?_ 7 7)))
   refine (Xs0 0 7 [(0,vp t), (1,.pointer (some ⟨x1.b, 0, none⟩)), (18,.bool ((!x1.n.rdy) || (decide ((x1.q.length : Int) > 0))))] ?_ ?_ : RT _ _ _ _ _ _ 7 _)
   ·cases hg7 : (!x1.n.rdy) with
    | true =>
     refine Xe [(0,vp t), (1,.pointer (some ⟨x1.b, 0, none⟩)), (18,.bool true)] ?_ 7
     refine Xp [(0,vp t), (1,.pointer (some ⟨x1.b, 0, none⟩)), (18,.bool (true || (decide ((x1.q.length : Int) > 0))))] ?_
     exact midR () rfl rfl
    | false =>
     refine Xl [(0,vp t), (1,.pointer (some ⟨x1.b, 0, none⟩)), (11,.bool false), (15,.pointer (some ⟨x1.ib, 0, none⟩))] [(⟨x1.b, 7, none⟩, .pointer (some ⟨x1.ib, 0, none⟩))] (hasC (ba 2) has0) ?_ 3 4
     refine Xs (Xa (some 16) (fun _ => vi (x1.q.length : Int)) (same_at 3 rfl (len_idx _ x1.ib 60 x1.q))) (fun _ => ?_) 2
     refine Xe [(0,vp t), (1,.pointer (some ⟨x1.b, 0, none⟩)), (18,.bool (decide ((x1.q.length : Int) > 0)))] ?_ 2
     refine Xp [(0,vp t), (1,.pointer (some ⟨x1.b, 0, none⟩)), (18,.bool (false || (decide ((x1.q.length : Int) > 0))))] ?_
     exact midR () rfl rfl
   refine endR ?_
   refine Xc ((!x1.n.rdy) || (decide ((x1.q.length : Int) > 0))) (fun h1 => ?_) (fun h1 => ?_)
   ·skip
    refine PT.close1 x1 (hR) ?_
    refine Xv (thenV (jumpV (Y0 (.tuple #[]) (fun w hs => ?_))))
    exact ⟨⟨T1, by rw [he, restN, hgx]; simp only [if_pos (htest.1 h1)]; exact hT1, hsame⟩, rfl, hs⟩
   ·skip
    refine Xk (Xq (Xg 5 (Xr [(0,vp t), (1,.pointer (some ⟨x1.b, 0, none⟩)), (22,.pointer (some ⟨x1.b, 5, none⟩))] ?_ 1 4)))
    refine Xh0 ?_ 2 1
    refine Xs (Xz [(5,.bool false)]) (fun _ => ?_) 0
    refine endR ?_
    refine Xq (Xy0 0 [] 11 ?_)
    refine Xt [0, 1, 2, 3, 4, 5, 6, 7, 8] [(0,vp t), (1,.pointer (some ⟨x1.b, 0, none⟩)), (26,.map (some mb)), (31,vi x1.n.par)] [(⟨t, 0, none⟩, .map (some mb)), (⟨x1.b, 1, none⟩, vi x1.n.par)] (hasC (ba 1) (hasC (ba 0) has0)) ?_
    refine Xu 9 (lookY 207 (.tmp 26) (.tmp 31) false mb x1.n.par (T1.map kp) (.pointer none) (.pointer none) 3 208 (some 32) (fun _ => by kernel_rfl) (by kernel_rfl) (by kernel_rfl) (fun _ => by kernel_rfl) (fun _ => by kernel_rfl) Tryz.underlying207 (by kernel_rfl) (fun _ => by kernel_rfl) (mapAt (H := (blk x1.b 213 [.int .i64 x1.n.id, .int .i64 x1.n.par, .int .i64 x1.n.wt, .int .i64 x1.n.pass, .bool x1.n.thr, .bool false, .int .i64 x1.n.now, .pointer (some ⟨x1.ib, 0, none⟩)] :: blk t 210 [.map (some mb)] :: mapS mb (T1.map kp) :: idxS x1.ib 60 x1.q :: (nodesL R ++ H))) (i := 2) rfl) (by rw [lk_none hT1 hg]; rfl)) ?_
    refine Xt [10] [(0,vp t), (1,.pointer (some ⟨x1.b, 0, none⟩)), (4,.pointer none)] [] has0 ?_
    refine Xd (Xq (Xq (Xy0 0 [] 15 ?_)))
    refine Xt [0, 1, 2, 3, 4, 5, 6, 7, 8, 9, 10, 11, 12, 13, 14] [(0,vp t), (1,.pointer (some ⟨x1.b, 0, none⟩)), (4,.pointer none), (47,.bool true)] [] has0 ?_
    refine Xd (Xc true (fun _ => ?_) (fun h => by cases h))
    refine Xv (thenV (jumpV ?_))
    refine PT.pick 0 rfl ?_
    refine PT.pick 2 rfl ?_
    refine PT.pick 2 rfl ?_
    refine PT.close1 ({ x1 with n := rsF x1.n }) (hR2 _) ?_
    have hsm : SameT T1 (T1.set i { x1 with n := rsF x1.n }) := SameT.set hi ⟨rfl, rfl, rfl⟩
    have h2 : ¬ (x1.n.rdy = false ∨ kidR N1 x1.n.id ≠ []) := fun h => by rw [htest.2 h] at h1; cases h1
    rw [← hsm.kp]
    refine Y0 (.tuple #[]) (fun w hs => ?_)
    exact ⟨⟨_, by rw [he, restN, hgx]; simp only [if_neg h2, hg]; exact hT1.one hnd hi rsF_skel (.inl (gt_none.1 hg)), hsame.trans hsm⟩, rfl, hs⟩
  | some y =>
   obtain ⟨j, p, hj, hpn, hpk⟩ := hT1.get hg
   have hij : i ≠ j := fun e => by subst e; rw [hi] at hj; cases hj; exact hs1.ne_par (hT1.mem_n hm) hpk
   obtain ⟨R, hR, hR2⟩ := perm2 hi hj hij
   refine PT.open2 (hR) ?_
   refine Xq (Xq (Xg 14 (Xl [(0,vp t), (1,.pointer (some ⟨x1.b, 0, none⟩)), (11,.bool (!x1.n.rdy))] [(⟨x1.b, 5, none⟩, .bool x1.n.rdy)] (hasC (ba 2) has0) ?_ 7 7)))
   refine (Xs0 0 7 [(0,vp t), (1,.pointer (some ⟨x1.b, 0, none⟩)), (18,.bool ((!x1.n.rdy) || (decide ((x1.q.length : Int) > 0))))] ?_ ?_ : RT _ _ _ _ _ _ 7 _)
   ·cases hg7 : (!x1.n.rdy) with
    | true =>
     refine Xe [(0,vp t), (1,.pointer (some ⟨x1.b, 0, none⟩)), (18,.bool true)] ?_ 7
     refine Xp [(0,vp t), (1,.pointer (some ⟨x1.b, 0, none⟩)), (18,.bool (true || (decide ((x1.q.length : Int) > 0))))] ?_
     exact midR () rfl rfl
    | false =>
     refine Xl [(0,vp t), (1,.pointer (some ⟨x1.b, 0, none⟩)), (11,.bool false), (15,.pointer (some ⟨x1.ib, 0, none⟩))] [(⟨x1.b, 7, none⟩, .pointer (some ⟨x1.ib, 0, none⟩))] (hasC (ba 2) has0) ?_ 3 4
     refine Xs (Xa (some 16) (fun _ => vi (x1.q.length : Int)) (same_at 3 rfl (len_idx _ x1.ib 60 x1.q))) (fun _ => ?_) 2
     refine Xe [(0,vp t), (1,.pointer (some ⟨x1.b, 0, none⟩)), (18,.bool (decide ((x1.q.length : Int) > 0)))] ?_ 2
     refine Xp [(0,vp t), (1,.pointer (some ⟨x1.b, 0, none⟩)), (18,.bool (false || (decide ((x1.q.length : Int) > 0))))] ?_
     exact midR () rfl rfl
   refine endR ?_
   refine Xc ((!x1.n.rdy) || (decide ((x1.q.length : Int) > 0))) (fun h1 => ?_) (fun h1 => ?_)
   ·skip
    refine PT.close2 x1 p (hR) ?_
    refine Xv (thenV (jumpV (Y0 (.tuple #[]) (fun w hs => ?_))))
    exact ⟨⟨T1, by rw [he, restN, hgx]; simp only [if_pos (htest.1 h1)]; exact hT1, hsame⟩, rfl, hs⟩
   ·skip
    have h2 : ¬ (x1.n.rdy = false ∨ kidR N1 x1.n.id ≠ []) := fun h => by rw [htest.2 h] at h1; cases h1
    have hrd : x1.n.rdy = true := by cases hc : x1.n.rdy with | true => rfl | false => exact absurd (.inl hc) h2
    obtain ⟨_, hql, q, hdr, hT2, hsm, hs2, hb2⟩ := rest_round hT1 hs1 hb1 hi hj hpk hrd
    refine Xk (Xq (Xg 5 (Xr [(0,vp t), (1,.pointer (some ⟨x1.b, 0, none⟩)), (22,.pointer (some ⟨x1.b, 5, none⟩))] ?_ 1 4)))
    refine Xh0 ?_ 2 1
    refine Xs (Xz [(5,.bool false)]) (fun _ => ?_) 0
    refine endR ?_
    refine Xq (Xy0 0 [] 11 ?_)
    refine Xt [0, 1, 2, 3, 4, 5, 6, 7, 8] [(0,vp t), (1,.pointer (some ⟨x1.b, 0, none⟩)), (26,.map (some mb)), (31,vi x1.n.par)] [(⟨t, 0, none⟩, .map (some mb)), (⟨x1.b, 1, none⟩, vi x1.n.par)] (hasC (ba 1) (hasC (ba 0) has0)) ?_
    refine Xu 9 (lookY 207 (.tmp 26) (.tmp 31) false mb x1.n.par (T1.map kp) (.pointer none) (.pointer (some ⟨p.b, 0, none⟩)) 3 208 (some 32) (fun _ => by kernel_rfl) (by kernel_rfl) (by kernel_rfl) (fun _ => by kernel_rfl) (fun _ => by kernel_rfl) Tryz.underlying207 (by kernel_rfl) (fun _ => by kernel_rfl) (mapAt (H := (blk x1.b 213 [.int .i64 x1.n.id, .int .i64 x1.n.par, .int .i64 x1.n.wt, .int .i64 x1.n.pass, .bool x1.n.thr, .bool false, .int .i64 x1.n.now, .pointer (some ⟨x1.ib, 0, none⟩)] :: blk t 210 [.map (some mb)] :: mapS mb (T1.map kp) :: idxS x1.ib 60 x1.q :: blk p.b 213 [.int .i64 p.n.id, .int .i64 p.n.par, .int .i64 p.n.wt, .int .i64 p.n.pass, .bool p.n.thr, .bool p.n.rdy, .int .i64 p.n.now, .pointer (some ⟨p.ib, 0, none⟩)] :: idxS p.ib 60 p.q :: (nodesL R ++ H))) (i := 2) rfl) (by rw [lk_some hT1 hnd hj hpk]; rfl)) ?_
    refine Xt [10] [(0,vp t), (1,.pointer (some ⟨x1.b, 0, none⟩)), (4,.pointer (some ⟨p.b, 0, none⟩))] [] has0 ?_
    refine Xd (Xq (Xq ?_))
    refine PT.pick 5 rfl ?_
    refine Xy0 1 [] 15 ?_
    refine Xt [0, 1, 2, 3, 4, 5, 6, 7, 8, 9, 10, 11] [(0,vp t), (1,.pointer (some ⟨x1.b, 0, none⟩)), (4,.pointer (some ⟨p.b, 0, none⟩)), (35,.bool false), (39,.pointer (some ⟨p.ib, 0, none⟩)), (44,vi x1.n.id)] [(⟨p.b, 7, none⟩, .pointer (some ⟨p.ib, 0, none⟩)), (⟨x1.b, 0, none⟩, vi x1.n.id)] (hasC (ba 4) (hasC (ba 0) has0)) ?_
    refine Xo 12 (Xa (some 45) (fun _ => .nilIface) (drop_ok hdr hql _ _)) (fun _ => ?_)
    refine Xt [13, 14] [(0,vp t), (1,.pointer (some ⟨x1.b, 0, none⟩)), (4,.pointer (some ⟨p.b, 0, none⟩)), (47,.bool false)] [] has0 ?_
    refine Xd (Xc false (fun h => by cases h) (fun _ => ?_))
    refine Xk (Xq (Xg 2 (Xe [(0,vp t), (1,.pointer (some ⟨p.b, 0, none⟩))] ?_ 2)))
    refine gotoR 0 (by kernel_rfl) (by kernel_rfl) ?_
    refine PT.pick 0 rfl ?_
    refine PT.pick 5 rfl ?_
    refine PT.pick 5 rfl ?_
    refine PT.pick 3 rfl ?_
    refine PT.pick 5 rfl ?_
    refine PT.pick 5 rfl ?_
    refine PT.close2 ({ x1 with n := rsF x1.n }) ({ p with q := q }) (hR2 _ _) ?_
    rw [← hsm.kp]
    have hpj : ((T1.set i { x1 with n := rsF x1.n }).set j { p with q := q })[j]? = some { p with q := q } := by rw [List.getElem?_set_self (by rw [List.length_set]; exact (List.getElem?_eq_some_iff.1 hj).1)]
    refine Xp [(0,vp t), (1,.pointer (some ⟨p.b, 0, none⟩))] ?_
    exact jumpR (hK k (_, { p with q := q }) (by omega) ⟨⟨_, hT2, hs2, hb2, hr1.ups rsF_skel, by rw [he, restN, hgx]; simp only [if_neg h2, hg]; rw [hpk]; rfl⟩, hsame.trans hsm, ⟨j, hpj⟩, by have := RK.up hs1 hr1 (hT1.mem_n hm) (hT1.mem_n (List.mem_of_getElem? hj)) hpk; simp only; omega⟩)
 ·skip
  intro K hK
  refine Xq ?_
  refine labelR (by kernel_rfl) ?_
  refine Xp [(0,vp t), (1,.pointer (some ⟨x.b, 0, none⟩))] ?_
  refine codeR (by kernel_rfl) (hK 6 (T, x) ⟨⟨N, hT, hsk, hlb, hrk, rfl⟩, SameT.refl T, ⟨i0, hx⟩, by have := (hrk _ (hT.mem_n (List.mem_of_getElem? hx))).2.2.1; simp only; omega⟩)
end Go.Proofs.YtfhkgohokbkgiaaGreatDoor
set_option linter.unusedVariables false
set_option linter.unusedSimpArgs false
namespace Go.Proofs.YtfhkgohokbkgiaaGreatDoor
open Go.RowKit G
set_option maxRecDepth 100000 in
theorem ready_walk {N : List Nr} {T : List Nd} (hT : OkT N T) (hsk : SK N) (hlb : LB N) (H : List SP) (t mb : Nat) (id : Int) (r : Bool) : ∀ w, Sat w (blk t 210 [.map (some mb)] :: mapS mb (T.map kp) :: (nodesL T ++ H)) → Calls Tryz.prog 60 #[vp t, vi id, .bool r] w (Ret (ι := { T' : List Nd // OkT (readyN N id r).2 T' ∧ SameT T T' }) (fun _ => pqErr (readyN N id r).1) fun T' => blk t 210 [.map (some mb)] :: mapS mb (T'.1.map kp) :: (nodesL T'.1 ++ H)) := by
 refine enterG (fn := Tryz.f60) 38 [vp t, vi id, .bool r] Tryz.func60 (by kernel_rfl) (by kernel_rfl) (by kernel_rfl) ?_
 cases hg : gt N id with
 | none =>
  refine Xq (Xg 1 (Xe [(0,vp t), (1,vi id), (2,.bool r), (6,.nilIface)] ?_ 1))
  refine Xq (Xg 11 (Xl [(0,vp t), (2,.bool r), (6,.nilIface), (13,.map (some mb)), (14,vi id)] [(⟨t, 0, none⟩, .map (some mb))] (hasC (ba 0) has0) ?_ 6 5))
  refine Xs (yldS (lookY 207 (.tmp 13) (.tmp 14) true mb id (T.map kp) (.pointer none) (.tuple #[.pointer none, .bool false]) 3 208 (some 15) (fun _ => by kernel_rfl) (by kernel_rfl) (by kernel_rfl) (fun _ => by kernel_rfl) (fun _ => by kernel_rfl) Tryz.underlying207 (by kernel_rfl) (fun _ => by kernel_rfl) (mapAt (H := (blk t 210 [.map (some mb)] :: mapS mb (T.map kp) :: (nodesL T ++ H))) (i := 1) rfl) (by rw [lk_none hT hg]; rfl))) (fun _ => ?_) 5
  refine Xe [(0,vp t), (2,.bool r), (6,.nilIface), (7,.pointer none), (8,.bool false)] ?_ 5
  refine Xq (Xb 0 (Xq (Xg 11 (Xe [(0,vp t), (2,.bool r), (6,.nilIface), (7,.pointer none), (21,.bool true)] ?_ 11))))
  refine Xc true (fun _ => ?_) (fun h => by cases h)
  refine Xq (Xg 2 (Xe [(6,.iface 126 (vi 13))] ?_ 2))
  refine Xv (blockV (thenV ?_))
  have hrn : readyN N id r = (13, N) := by rw [readyN, hg]
  refine Y0 (.iface 126 (vi 13)) (fun w hs => ?_)
  exact ⟨⟨T, by rw [hrn]; exact hT, SameT.refl T⟩, by show _ = Ending.returned (pqErr (readyN N id r).1); rw [hrn]; rfl, hs⟩
 | some y =>
  obtain ⟨i, z, hi, hzn, hzk⟩ := hT.get hg
  have hm := List.mem_of_getElem? hi
  refine Xq (Xg 1 (Xe [(0,vp t), (1,vi id), (2,.bool r), (6,.nilIface)] ?_ 1))
  refine Xq (Xg 11 (Xl [(0,vp t), (2,.bool r), (6,.nilIface), (13,.map (some mb)), (14,vi id)] [(⟨t, 0, none⟩, .map (some mb))] (hasC (ba 0) has0) ?_ 6 5))
  refine Xs (yldS (lookY 207 (.tmp 13) (.tmp 14) true mb id (T.map kp) (.pointer none) (.tuple #[.pointer (some ⟨z.b, 0, none⟩), .bool true]) 3 208 (some 15) (fun _ => by kernel_rfl) (by kernel_rfl) (by kernel_rfl) (fun _ => by kernel_rfl) (fun _ => by kernel_rfl) Tryz.underlying207 (by kernel_rfl) (fun _ => by kernel_rfl) (mapAt (H := (blk t 210 [.map (some mb)] :: mapS mb (T.map kp) :: (nodesL T ++ H))) (i := 1) rfl) (by rw [lk_some hT hsk.nd hi hzk]; rfl))) (fun _ => ?_) 5
  refine Xe [(0,vp t), (2,.bool r), (6,.nilIface), (7,.pointer (some ⟨z.b, 0, none⟩)), (8,.bool true)] ?_ 5
  refine Xq (Xb 0 (Xq (Xg 11 (Xm [(0,vp t), (2,.bool r), (6,.nilIface), (7,.pointer (some ⟨z.b, 0, none⟩)), (21,.bool (!z.n.thr))] [(⟨z.b, 4, none⟩, .bool z.n.thr)] (hasC (up (up (nodeAt (T := T) hm (j := 4) rfl))) has0) ?_ 11))))
  refine Xc (!z.n.thr) (fun h1 => ?_) (fun h1 => ?_)
  ·skip
   have hth : y.thr = false := by rw [← hzn]; simpa using h1
   refine Xq (Xg 2 (Xe [(6,.iface 126 (vi 13))] ?_ 2))
   refine Xv (blockV (thenV ?_))
   have hrn : readyN N id r = (13, N) := by rw [readyN, hg]; simp only [hth]; rfl
   refine Y0 (.iface 126 (vi 13)) (fun w hs => ?_)
   exact ⟨⟨T, by rw [hrn]; exact hT, SameT.refl T⟩, by show _ = Ending.returned (pqErr (readyN N id r).1); rw [hrn]; rfl, hs⟩
  ·skip
   have hth : y.thr = true := by rw [← hzn]; simpa using h1
   refine Xq (Xg 2 (Xe [(0,vp t), (6,.nilIface), (7,.pointer (some ⟨z.b, 0, none⟩)), (33,.bool r)] ?_ 2))
   refine Xc r (fun h2 => ?_) (fun h2 => ?_)
   ·skip
    refine Xg 3 (Xr [(6,.nilIface), (35,vp t), (36,.pointer (some ⟨z.b, 0, none⟩))] ?_ 1 2)
    refine Xs (Xa (some 37) (fun (T' : { T' : List Nd // OkT (wakeN 6 N z.n.id) T' ∧ SameT T T' }) => .tuple #[]) (wakes_walk hT hsk hlb hi H t mb)) (fun (T' : { T' : List Nd // OkT (wakeN 6 N z.n.id) T' ∧ SameT T T' }) => ?_) 0
    refine endR ?_
    refine Xq (Xg 1 (Xe [(6,.nilIface)] ?_ 1))
    refine Xv ?_
    have hrn : readyN N id r = (0, wakeN 6 N z.n.id) := by rw [readyN, hg]; simp only [hth, h2, if_true]; rw [← hzk]
    refine Y0 (.nilIface) (fun w hs => ?_)
    exact ⟨⟨T'.1, by rw [hrn]; exact T'.2.1, T'.2.2⟩, by show _ = Ending.returned (pqErr (readyN N id r).1); rw [hrn]; rfl, hs⟩
   ·skip
    refine Xg 3 (Xr [(6,.nilIface), (18,vp t), (19,.pointer (some ⟨z.b, 0, none⟩))] ?_ 1 2)
    refine Xs (Xa (some 20) (fun (T' : { T' : List Nd // OkT (restN 6 N z.n.id) T' ∧ SameT T T' }) => .tuple #[]) (rests_walk hT hsk hlb hi H t mb)) (fun (T' : { T' : List Nd // OkT (restN 6 N z.n.id) T' ∧ SameT T T' }) => ?_) 0
    refine endR ?_
    refine Xq (Xg 1 (Xe [(6,.nilIface)] ?_ 1))
    refine Xv ?_
    have hrn : readyN N id r = (0, restN 6 N z.n.id) := by rw [readyN, hg]; simp only [hth, h2, if_true, Bool.false_eq_true, if_false]; rw [← hzk]
    refine Y0 (.nilIface) (fun w hs => ?_)
    exact ⟨⟨T'.1, by rw [hrn]; exact T'.2.1, T'.2.2⟩, by show _ = Ending.returned (pqErr (readyN N id r).1); rw [hrn]; rfl, hs⟩
theorem set_same {α : Type} {l : List α} {i : Nat} {x : α} (h : l[i]? = some x) : l.set i x = l := by
 apply List.ext_getElem?
 intro j
 rw [List.getElem?_set]
 split
 ·rename_i e; subst e; rw [if_pos (List.getElem?_eq_some_iff.1 h).1, h]
 ·rfl
set_option maxRecDepth 100000 in
theorem sets_walk {N : List Nr} {T : List Nd} (hT : OkT N T) (hsk : SK N) (hlb : LB N) {i : Nat} {x : Nd} (hi : T[i]? = some x) {y : Nr} (hg : gt N x.n.par = some y) {P : Int} (hP : 0 ≤ P ∧ P ≤ 1099511627776) (H : List SP) (t mb : Nat) : ∀ w, Sat w (blk t 210 [.map (some mb)] :: mapS mb (T.map kp) :: (nodesL T ++ H)) → Calls Tryz.prog 104 #[vp t, .pointer (some ⟨x.b, 0, none⟩), vi P] w (Ret (ι := { T' : List Nd // OkT (upN N x.n.id (psF P)) T' ∧ SameT T T' ∧ SK (upN N x.n.id (psF P)) ∧ LB (upN N x.n.id (psF P)) }) (fun _ => .nilIface) fun T' => blk t 210 [.map (some mb)] :: mapS mb (T'.1.map kp) :: (nodesL T'.1 ++ H)) := by
 have hm := List.mem_of_getElem? hi
 obtain ⟨j, p, hj, hpn, hpk⟩ := hT.get hg
 have hij : i ≠ j := fun e => by subst e; rw [hi] at hj; cases hj; exact hsk.ne_par (hT.mem_n hm) hpk
 obtain ⟨R, hR, hR2⟩ := perm2 hi hj hij
 refine enterG (fn := Tryz.f104) 43 [vp t, .pointer (some ⟨x.b, 0, none⟩), vi P] Tryz.func104 (by kernel_rfl) (by kernel_rfl) (by kernel_rfl) ?_
 refine PT.open2 (hR) ?_
 refine Xq (Xg 1 (Xe [(0,vp t), (1,.pointer (some ⟨x.b, 0, none⟩)), (2,vi P), (6,.nilIface)] ?_ 1))
 refine Xq (Xg 6 (Xr [(0,vp t), (1,.pointer (some ⟨x.b, 0, none⟩)), (2,vi P), (6,.nilIface), (9,vi P), (12,.pointer (some ⟨x.b, 3, none⟩))] ?_ 1 5))
 refine Xh0 ?_ 2 1
 refine Xs (Xz [(3,vi P)]) (fun _ => ?_) 0
 refine endR ?_
 refine Xq (Xq (Xy0 0 [] 11 ?_))
 refine Xt [0, 1, 2, 3, 4, 5, 6, 7, 8] [(1,.pointer (some ⟨x.b, 0, none⟩)), (2,vi P), (6,.nilIface), (16,.map (some mb)), (21,vi x.n.par)] [(⟨t, 0, none⟩, .map (some mb)), (⟨x.b, 1, none⟩, vi x.n.par)] (hasC (ba 1) (hasC (ba 0) has0)) ?_
 refine Xu 9 (lookY 207 (.tmp 16) (.tmp 21) false mb x.n.par (T.map kp) (.pointer none) (.pointer (some ⟨p.b, 0, none⟩)) 3 208 (some 22) (fun _ => by kernel_rfl) (by kernel_rfl) (by kernel_rfl) (fun _ => by kernel_rfl) (fun _ => by kernel_rfl) Tryz.underlying207 (by kernel_rfl) (fun _ => by kernel_rfl) (mapAt (H := (blk x.b 213 [.int .i64 x.n.id, .int .i64 x.n.par, .int .i64 x.n.wt, .int .i64 P, .bool x.n.thr, .bool x.n.rdy, .int .i64 x.n.now, .pointer (some ⟨x.ib, 0, none⟩)] :: blk t 210 [.map (some mb)] :: mapS mb (T.map kp) :: idxS x.ib 60 x.q :: blk p.b 213 [.int .i64 p.n.id, .int .i64 p.n.par, .int .i64 p.n.wt, .int .i64 p.n.pass, .bool p.n.thr, .bool p.n.rdy, .int .i64 p.n.now, .pointer (some ⟨p.ib, 0, none⟩)] :: idxS p.ib 60 p.q :: (nodesL R ++ H))) (i := 2) rfl) (by rw [lk_some hT hsk.nd hj hpk]; rfl)) ?_
 refine Xt [10] [(1,.pointer (some ⟨x.b, 0, none⟩)), (2,vi P), (6,.nilIface), (7,.pointer (some ⟨p.b, 0, none⟩))] [] has0 ?_
 refine Xd (Xq (Xg 9 (Xm [(1,.pointer (some ⟨x.b, 0, none⟩)), (2,vi P), (6,.nilIface), (7,.pointer (some ⟨p.b, 0, none⟩)), (31,.bool x.n.rdy)] [(⟨x.b, 5, none⟩, .bool x.n.rdy)] (hasC (ba 0) has0) ?_ 9)))
 refine Xc (x.n.rdy) (fun h1 => ?_) (fun h1 => ?_)
 ·skip
  obtain ⟨_, hql, hqs, q, hrk, hT2, hsm, hs2, hb2⟩ := sets_round hT hsk hlb hi hj hpk h1 hP
  refine Xq ?_
  refine PT.pick 5 rfl ?_
  refine Xy0 1 [] 12 ?_
  refine Xt [0, 1, 2, 3, 4, 5, 6, 7, 8, 9] [(6,.nilIface), (35,.pointer (some ⟨p.ib, 0, none⟩)), (40,vi x.n.id), (41,vi P)] [(⟨p.b, 7, none⟩, .pointer (some ⟨p.ib, 0, none⟩)), (⟨x.b, 0, none⟩, vi x.n.id)] (hasC (ba 4) (hasC (ba 0) has0)) ?_
  refine Xo 10 (Xa (some 42) (fun _ => .nilIface) (rekey_ok hrk hqs hql _ _)) (fun _ => ?_)
  refine Xt [11] [(6,.nilIface)] [] has0 ?_
  refine Xd (Xv (thenV ?_))
  refine PT.pick 0 rfl ?_
  refine PT.pick 5 rfl ?_
  refine PT.pick 5 rfl ?_
  refine PT.pick 3 rfl ?_
  refine PT.pick 5 rfl ?_
  refine PT.pick 5 rfl ?_
  refine PT.close2 ({ x with n := psF P x.n }) ({ p with q := q }) (hR2 _ _) ?_
  rw [← hsm.kp]
  refine Y0 (.nilIface) (fun w hs => ?_)
  exact ⟨⟨_, hT2, hsm, hs2, hb2⟩, rfl, hs⟩
 ·skip
  refine Xk (Xq (Xg 1 (Xe [(6,.nilIface)] ?_ 1)))
  refine Xv ?_
  refine PT.pick 0 rfl ?_
  refine PT.pick 2 rfl ?_
  refine PT.pick 2 rfl ?_
  refine PT.close2 ({ x with n := psF P x.n }) p (hR2 _ p) ?_
  have hsm : SameT T ((T.set i { x with n := psF P x.n }).set j p) := same2 hi hj hij ⟨rfl, rfl, rfl⟩ ⟨rfl, rfl, rfl⟩
  have hpj : (T.set i { x with n := psF P x.n })[j]? = some p := by rw [List.getElem?_set_ne hij]; exact hj
  have hsj : (T.set i { x with n := psF P x.n }).set j p = T.set i { x with n := psF P x.n } := set_same hpj
  rw [← hsm.kp]
  refine Y0 (.nilIface) (fun w hs => ?_)
  exact ⟨⟨(T.set i { x with n := psF P x.n }).set j p, by rw [hsj]; exact hT.one hsk.nd hi (psF_skel P) (.inr ⟨rfl, .inr h1⟩), hsm, hsk.upN (psF_skel P), hlb.ups hsk.nd (hT.mem_n hm) (hlb.wt x.n (hT.mem_n hm)) hP (hlb.now x.n (hT.mem_n hm))⟩, rfl, hs⟩
end Go.Proofs.YtfhkgohokbkgiaaGreatDoor
set_option linter.unusedVariables false
set_option linter.unusedSimpArgs false
namespace Go.Proofs.YtfhkgohokbkgiaaGreatDoor
open Go.RowKit G
/-- A node as it is told. -/
def nE : Enc Nr := ⟨6, by decide, fun x => [.int .i64 x.id, .int .i64 x.par, .int .i64 x.wt, .int .i64 x.pass, .bool x.thr, .bool x.rdy], fun _ => rfl, by intro a u hu; simp at hu; rcases hu with rfl | rfl | rfl | rfl | rfl | rfl <;> rfl⟩
theorem nE_ety : Ety Tryz.prog nE 147 (.agg #[.int .i64 0, .int .i64 0, .int .i64 0, .int .i64 0, .bool false, .bool false]) := by
 obtain ⟨i, hi, hz, hs, hb⟩ := info_parts (P := Tryz.prog) (e := 147) (z := .agg #[.int .i64 0, .int .i64 0, .int .i64 0, .int .i64 0, .bool false, .bool false]) (size := 6) (bytes := 40) (by kernel_rfl)
 exact ⟨⟨i, hi, hz, hs, by omega⟩, rfl⟩
def nodesN (N : List Nr) : List Nr := (sortI (N.map (·.id))).map fun k => (gt N k).getD zeroN
theorem nodesN_len (N : List Nr) : (nodesN N).length = N.length := by rw [nodesN, List.length_map, sortI_len, List.length_map]
theorem nodesN_at {N : List Nr} (hn : (N.map (·.id)).Nodup) {u : Nat} {k : Int} (h : (sortI (N.map (·.id)))[u]? = some k) : ∃ y, gt N k = some y ∧ (nodesN N)[u]? = some y := by
 have hk : k ∈ N.map (·.id) := sortI_mem.1 (List.mem_of_getElem? h)
 obtain ⟨y, hy, rfl⟩ := List.mem_map.1 hk
 refine ⟨y, gt_of hn hy, ?_⟩
 rw [nodesN, List.getElem?_map, h, Option.map_some, gt_of hn hy]; rfl
theorem wf64 {x : Int} (h0 : 0 ≤ x) (h1 : x ≤ 9223372036854775807) : (Lit.int .i64 x).wf = true := by
 simp only [Lit.wf, Bool.and_eq_true, decide_eq_true_eq]
 have e1 : IntKind.i64.min = -9223372036854775808 := by decide
 have e2 : IntKind.i64.max = 9223372036854775807 := by decide
 omega
theorem kp_ids {N : List Nr} {T : List Nd} (hT : OkT N T) : (T.map kp).map (·.1) = N.map (·.id) := by
 rw [List.map_map, ← hT.n, List.map_map]; rfl
set_option maxHeartbeats 1000000 in
set_option maxRecDepth 100000 in
theorem nodes_walk {N : List Nr} {T : List Nd} (hT : OkT N T) (hsk : SK N) (hid : ∀ x ∈ N, x.id ≤ 9223372036854775807) (H : List SP) (t mb : Nat) : ∀ w, Sat w (blk t 210 [.map (some mb)] :: mapS mb (T.map kp) :: (nodesL T ++ H)) → Calls Tryz.prog 57 #[vp t] w (Ret (ι := Option Addr × Nat) (fun x => .slice x.1 (nodesN N).length x.2) fun x => row nE 147 (.slice x.1 (nodesN N).length x.2) (nodesN N) :: blk t 210 [.map (some mb)] :: mapS mb (T.map kp) :: (nodesL T ++ H)) := by
 have hK := kp_ids hT
 have hlen : (sortI (N.map (·.id))).length = N.length := by rw [sortI_len, List.length_map]
 have hN60 := hsk.len
 refine enterG (fn := Tryz.f57) 31 [vp t] Tryz.func57 (by kernel_rfl) (by kernel_rfl) (by kernel_rfl) ?_
 refine Xq (Xg 1 (Xe [(0,vp t), (2,.slice none 0 0)] ?_ 1))
 refine Xq (Xg 1 (Xe [(0,vp t), (2,.slice none 0 0), (3,.slice none 0 0)] ?_ 1))
 refine Xq (Xq (Xg 8 (Xl [(0,vp t), (2,.slice none 0 0), (3,.slice none 0 0), (9,.map (some mb))] [(⟨t, 0, none⟩, .map (some mb))] (hasC (ba 0) has0) ?_ 4 4)))
 refine Xs (Xa (some 10) (fun (kb : Nat) => .func (.func 140) #[] #[vp kb]) (keys_walk _ mb)) (fun (kb : Nat) => ?_) 3
 refine Xh0 ?_ 1 3
 refine Xh0 ?_ 2 3
 refine Xh0 ?_ 2 3
 refine Xs (Xa (some 11) (fun (ks : Option Addr × Nat) => .slice ks.1 (sortI (N.map (·.id))).length ks.2) ((by have h := sorted_walk (blk t 210 [.map (some mb)] :: (nodesL T ++ H)) kb mb (T.map kp) (by rw [List.length_map, hT.len]; omega) (fun p hp => by obtain ⟨z, hz, rfl⟩ := List.mem_map.1 hp; exact wf64 (hsk.pos (hT.mem_n hz)) (hid _ (hT.mem_n hz))); rw [hK] at h; exact h))) (fun (ks : Option Addr × Nat) => ?_) 2
 refine Xe [(11,.slice ks.1 ((sortI (N.map (·.id))).length) ks.2), (0,vp t), (2,.slice none 0 0), (3,.slice none 0 0), (12,vi ((sortI (N.map (·.id))).length : Int)), (13,vi 0)] ?_ 2
 refine Xb 0 ?_
 obtain ⟨ka, kc⟩ := ks
 refine PT.pick 1 rfl ?_
 refine PT.drop ?_
 refine PT.pick 1 rfl ?_
 refine PT.pick 2 rfl ?_
 refine PT.pick 2 rfl ?_
 refine PT.rowNil nE 147 ?_
 refine Xp [(0,vp t), (3,.slice none 0 0), (11,.slice ka ((sortI (N.map (·.id))).length) kc), (12,vi ((sortI (N.map (·.id))).length : Int)), (13,vi 0)] ?_
 refine loopG (fun (s : (Option Addr × Nat) × Nat) => [(0, vp t), (3, .slice s.1.1 (((nodesN N).take s.2).length) s.1.2), (11, .slice ka ((sortI (N.map (·.id))).length) kc), (12, vi ((sortI (N.map (·.id))).length : Int)), (13, vi (s.2 : Int))]) (fun (s : (Option Addr × Nat) × Nat) => (row nE 147 (.slice s.1.1 ((nodesN N).take s.2).length s.1.2) ((nodesN N).take s.2) :: row intE 3 (.slice ka (sortI (N.map (·.id))).length kc) (sortI (N.map (·.id))) :: blk t 210 [.map (some mb)] :: mapS mb (T.map kp) :: (nodesL T ++ H))) (fun k (s : (Option Addr × Nat) × Nat) => k + s.2 = N.length) N.length ((none, 0), 0) (by kernel_rfl) rfl ?_
 rintro k ⟨⟨qa, qc⟩, u⟩ hku
 simp only at hku
 refine Xq (Xg 1 (Xe [(0,vp t), (3,.slice qa (((nodesN N).take u).length) qc), (11,.slice ka ((sortI (N.map (·.id))).length) kc), (12,vi ((sortI (N.map (·.id))).length : Int)), (13,vi u), (14,.bool (decide ((u : Int) < ((sortI (N.map (·.id))).length : Int))))] ?_ 1))
 refine Xq (Xc (decide ((u : Int) < ((sortI (N.map (·.id))).length : Int))) (fun h1 => ?_) (fun h1 => ?_))
 ·skip
  have hu : u < N.length := by have := of_decide_eq_true h1; omega
  obtain ⟨kk, hkk⟩ : ∃ kk, (sortI (N.map (·.id)))[u]? = some kk := ⟨_, List.getElem?_eq_getElem (by omega)⟩
  obtain ⟨y, hy, hny⟩ := nodesN_at hsk.nd hkk
  obtain ⟨i, z, hi, hzn, hzk⟩ := hT.get hy
  subst hzn
  have hsn : (nodesN N).take u ++ [z.n] = (nodesN N).take (u + 1) := by rw [List.take_add_one, hny]; rfl
  refine PT.know (KR.isSome (s := ⟨ka, kc, sortI (N.map (·.id))⟩) (rowKRat 1 rfl) (List.ne_nil_of_length_pos (by show 0 < (sortI _).length; omega))) ?_
  rintro ⟨sb, so, hA⟩
  dsimp only at hA
  subst hA
  refine Xk (Xq (Xb 1 (Xq (Xg 3 (Xs (yldS (Xi 42 (.tmp 11) (.tmp 13) sb so ((sortI (N.map (·.id))).length) kc u 1 3 (u : Int) 15 Tryz.underlying42)) (fun _ => ?_) 2)))))
  refine Xm [(0,vp t), (3,.slice qa (((nodesN N).take u).length) qc), (11,.slice (some ⟨sb, so, none⟩) ((sortI (N.map (·.id))).length) kc), (12,vi ((sortI (N.map (·.id))).length : Int)), (13,vi u), (5,vi kk)] [(⟨sb, so + u * 1, none⟩, vi kk)] (hasC ((rowKRat (xs := sortI (N.map (·.id))) (A := some ⟨sb, so, none⟩) (k := kc) (E := intE) (T := 3) 1 rfl).cell rfl (i := u) (x := kk) hkk (j := 0) rfl) has0) ?_ 2
  refine Xg 13 (Xl [(0,vp t), (3,.slice qa (((nodesN N).take u).length) qc), (11,.slice (some ⟨sb, so, none⟩) ((sortI (N.map (·.id))).length) kc), (12,vi ((sortI (N.map (·.id))).length : Int)), (13,vi u), (17,.slice qa (((nodesN N).take u).length) qc), (21,.map (some mb)), (22,vi kk)] [(⟨t, 0, none⟩, .map (some mb))] (hasC (ba 2) has0) ?_ 7 6)
  refine Xs (yldS (lookY 207 (.tmp 21) (.tmp 22) false mb kk (T.map kp) (.pointer none) (.pointer (some ⟨z.b, 0, none⟩)) 3 208 (some 23) (fun _ => by kernel_rfl) (by kernel_rfl) (by kernel_rfl) (fun _ => by kernel_rfl) (fun _ => by kernel_rfl) Tryz.underlying207 (by kernel_rfl) (fun _ => by kernel_rfl) (mapAt (H := (row nE 147 (.slice qa ((nodesN N).take u).length qc) ((nodesN N).take u) :: row intE 3 (.slice (some ⟨sb, so, none⟩) (sortI (N.map (·.id))).length kc) (sortI (N.map (·.id))) :: blk t 210 [.map (some mb)] :: mapS mb (T.map kp) :: (nodesL T ++ H))) (i := 3) rfl) (by rw [lk_some hT hsk.nd hi hzk]; rfl))) (fun _ => ?_) 6
  refine Xl [(0,vp t), (3,.slice qa (((nodesN N).take u).length) qc), (11,.slice (some ⟨sb, so, none⟩) ((sortI (N.map (·.id))).length) kc), (12,vi ((sortI (N.map (·.id))).length : Int)), (13,vi u), (17,.slice qa (((nodesN N).take u).length) qc), (26,.agg #[vi z.n.id, vi z.n.par, vi z.n.wt, vi z.n.pass, .bool z.n.thr, .bool z.n.rdy])] [(⟨z.b, 0, none⟩, vi z.n.id), (⟨z.b, 1, none⟩, vi z.n.par), (⟨z.b, 2, none⟩, vi z.n.wt), (⟨z.b, 3, none⟩, vi z.n.pass), (⟨z.b, 4, none⟩, .bool z.n.thr), (⟨z.b, 5, none⟩, .bool z.n.rdy)] (hasC (up (up (up (up (nodeAt (T := T) (List.mem_of_getElem? hi) (j := 0) rfl))))) (hasC (up (up (up (up (nodeAt (T := T) (List.mem_of_getElem? hi) (j := 1) rfl))))) (hasC (up (up (up (up (nodeAt (T := T) (List.mem_of_getElem? hi) (j := 2) rfl))))) (hasC (up (up (up (up (nodeAt (T := T) (List.mem_of_getElem? hi) (j := 3) rfl))))) (hasC (up (up (up (up (nodeAt (T := T) (List.mem_of_getElem? hi) (j := 4) rfl))))) (hasC (up (up (up (up (nodeAt (T := T) (List.mem_of_getElem? hi) (j := 5) rfl))))) has0)))))) ?_ 3 3
  refine Xs (Xn 147 [vi z.n.id, vi z.n.par, vi z.n.wt, vi z.n.pass, .bool z.n.thr, .bool z.n.rdy] (some 27) (fun b => .slice (some ⟨b, 0, none⟩) 1 1)) (fun b1 => ?_) 2
  refine Xh0 ?_ 1 2
  refine Xs (Xf (E := nE) 63 (.tmp 17) (.tmp 27) qa qc ((nodesN N).take u) [z.n] (.slice (some ⟨b1, 0, none⟩) 1 1) 28 Tryz.underlying63 (nE_ety) (blkRd 1 rfl) (by simp only [List.length_take, List.length_cons, List.length_nil]; omega)) (fun r2 => ?_) 1
  refine Xe [(0,vp t), (3,.slice r2.1 ((((nodesN N).take u) ++ [z.n]).length) r2.2), (11,.slice (some ⟨sb, so, none⟩) ((sortI (N.map (·.id))).length) kc), (12,vi ((sortI (N.map (·.id))).length : Int)), (13,vi u)] ?_ 1
  refine Xg 2 (Xe [(0,vp t), (3,.slice r2.1 ((((nodesN N).take u) ++ [z.n]).length) r2.2), (11,.slice (some ⟨sb, so, none⟩) ((sortI (N.map (·.id))).length) kc), (12,vi ((sortI (N.map (·.id))).length : Int)), (13,vi (IntKind.i64.wrap ((u : Int) + 1)))] ?_ 2)
  rw [show IntKind.i64.wrap ((u : Int) + 1) = ((u + 1 : Nat) : Int) by rw [w64 (by omega) (by omega)]; rfl]
  rw [hsn]
  refine PT.pick 1 rfl ?_
  refine PT.drop ?_
  refine Xp [(0,vp t), (3,.slice r2.1 (((nodesN N).take (u + 1)).length) r2.2), (11,.slice (some ⟨sb, so, none⟩) ((sortI (N.map (·.id))).length) kc), (12,vi ((sortI (N.map (·.id))).length : Int)), (13,vi ((u + 1 : Nat) : Int))] ?_
  exact againG (k - 1) (r2, u + 1) rfl rfl (by omega) (by simp only; omega)
 ·skip
  have hu : u = N.length := by have := of_decide_eq_false h1; omega
  have htk : (nodesN N).take u = nodesN N := List.take_of_length_le (by rw [nodesN_len]; omega)
  refine Xx 0 (thenX (thenX (leaveR (Xq (Xg 2 (Xe [(2,.slice qa (((nodesN N).take u).length) qc)] ?_ 2))))))
  refine Xv ?_
  rw [htk]
  refine PT.pick 1 rfl ?_
  refine PT.drop ?_
  refine Y0 (.slice qa ((nodesN N).length) qc) (fun w hs => ?_)
  exact ⟨(qa, qc), rfl, hs⟩
end Go.Proofs.YtfhkgohokbkgiaaGreatDoor
set_option linter.unusedVariables false
set_option linter.unusedSimpArgs false
namespace Go.Proofs.YtfhkgohokbkgiaaGreatDoor
open Go.RowKit G
theorem Skel.comp {f g : Nr → Nr} (hf : Skel f) (hg : Skel g) : Skel (fun x => g (f x)) := ⟨fun x => by rw [hg.id, hf.id], fun x => by rw [hg.par, hf.par], fun x => by rw [hg.thr, hf.thr]⟩
theorem Skel.same : Skel (fun x => x) := ⟨fun _ => rfl, fun _ => rfl, fun _ => rfl⟩
/-- Resting: nodes are ready no more. -/
theorem restN_map : ∀ (f : Nat) (N : List Nr) (k : Int), ∃ g, Skel g ∧ (∀ x, (g x).pass = x.pass ∧ (g x).wt = x.wt ∧ (g x).now = x.now ∧ ((g x).rdy = true → x.rdy = true)) ∧ restN f N k = N.map g
  | 0, N, k => ⟨fun x => x, Skel.same, fun x => ⟨rfl, rfl, rfl, id⟩, by simp [restN]⟩
  | f + 1, N, k => by
    have h0 : ∃ g, Skel g ∧ (∀ x, (g x).pass = x.pass ∧ (g x).wt = x.wt ∧ (g x).now = x.now ∧ ((g x).rdy = true → x.rdy = true)) ∧ N = N.map g := ⟨fun x => x, Skel.same, fun x => ⟨rfl, rfl, rfl, id⟩, by simp⟩
    have h1 : ∃ g, Skel g ∧ (∀ x, (g x).pass = x.pass ∧ (g x).wt = x.wt ∧ (g x).now = x.now ∧ ((g x).rdy = true → x.rdy = true)) ∧ upN N k rsF = N.map g := ⟨_, skel_ite (k := k) rsF_skel, fun x => by by_cases c : (x.id == k) = true <;> simp [c, rsF], rfl⟩
    rw [restN]
    split
    · exact h0
    · split
      · exact h0
      · split
        · exact h1
        · obtain ⟨g, hg, hg2, hg3⟩ := h1
          rename_i x0 _ _ _ _ _
          obtain ⟨g', k1, k2, k3⟩ := restN_map f (upN N k rsF) x0.par
          refine ⟨fun x => g' (g x), hg.comp k1, fun x => ?_, ?_⟩
          · obtain ⟨a1, a2, a3, a4⟩ := k2 (g x)
            obtain ⟨b1, b2, b3, b4⟩ := hg2 x
            exact ⟨by rw [a1, b1], by rw [a2, b2], by rw [a3, b3], fun h => b4 (a4 h)⟩
          · have e : restN f (upN N k fun x => { x with rdy := false }) x0.par = _ := k3
            rw [e, hg3, List.map_map]; rfl
theorem wakeN_map : ∀ (f : Nat) (N : List Nr) (k : Int), ∃ g, Skel g ∧ (∀ x, (g x).wt = x.wt ∧ (g x).now = x.now) ∧ wakeN f N k = N.map g
  | 0, N, k => ⟨fun x => x, Skel.same, fun x => ⟨rfl, rfl⟩, by simp [wakeN]⟩
  | f + 1, N, k => by
    have h0 : ∃ g, Skel g ∧ (∀ x, (g x).wt = x.wt ∧ (g x).now = x.now) ∧ N = N.map g := ⟨fun x => x, Skel.same, fun x => ⟨rfl, rfl⟩, by simp⟩
    rw [wakeN]
    split
    · exact h0
    · split
      · exact h0
      · split
        · refine ⟨_, skel_ite (k := k) (f := fun x => { x with rdy := true }) ⟨fun _ => rfl, fun _ => rfl, fun _ => rfl⟩, fun x => by by_cases c : (x.id == k) = true <;> simp [c], rfl⟩
        · rename_i x0 _ _ _ p _
          have h1 : ∃ g, Skel g ∧ (∀ x, (g x).wt = x.wt ∧ (g x).now = x.now) ∧ upN N k (wkF p.now) = N.map g := ⟨_, skel_ite (k := k) (wkF_skel p.now), fun x => by by_cases c : (x.id == k) = true <;> simp [c, wkF], rfl⟩
          obtain ⟨g, hg, hg2, hg3⟩ := h1
          obtain ⟨g', k1, k2, k3⟩ := wakeN_map f (upN N k (wkF p.now)) x0.par
          refine ⟨fun x => g' (g x), hg.comp k1, fun x => ?_, ?_⟩
          · rw [(k2 (g x)).1, (hg2 x).1, (k2 (g x)).2, (hg2 x).2]; exact ⟨rfl, rfl⟩
          · have e : wakeN f (upN N k fun x => { x with rdy := true, pass := mxI x.pass p.now }) x0.par = _ := k3
            rw [e, hg3, List.map_map]; rfl
theorem rest_off {N : List Nr} (hs : SK N) {k : Int} {x : Nr} (hg : gt N k = some x) (hk : kidR N k = []) : ∀ y ∈ restN 6 N k, y.id = k → y.rdy = false := by
  intro y hy hyk
  have hx := gt_mem hg
  rw [restN, hg] at hy
  simp only at hy
  by_cases c : x.rdy = false
  · rw [if_pos (.inl c)] at hy
    rw [nd_eq hs.nd hy hx.1 (by rw [hyk, hx.2])]; exact c
  · rw [if_neg (by simp [c, hk])] at hy
    have h1 : ∀ z ∈ upN N k rsF, z.id = k → z.rdy = false := by
      intro z hz hzk
      obtain ⟨v, hv, ⟨_, rfl⟩ | ⟨h, rfl⟩⟩ := mem_upN.1 hz
      · rfl
      · exact absurd hzk h
    split at hy
    · exact h1 y hy hyk
    · obtain ⟨g, hg1, hg2, hg3⟩ := restN_map 5 (upN N k rsF) x.par
      have e : restN 5 (upN N k fun x => { x with rdy := false }) x.par = _ := hg3
      rw [e] at hy
      obtain ⟨z, hz, rfl⟩ := List.mem_map.1 hy
      rw [hg1.id] at hyk
      cases hr : (g z).rdy with
      | false => rfl
      | true => rw [← (hg2 z).2.2.2 hr, h1 z hz hyk]
/-! ### a node goes -/
theorem del_kp (T : List Nd) (k : Int) : delE (T.map kp) k = (T.eraseP (fun x => x.n.id == k)).map kp := by
  induction T with
  | nil => rfl
  | cons a T ih =>
    simp only [delE, List.map_cons, List.eraseP_cons, kp] at ih ⊢
    cases a.n.id == k with
    | true => rfl
    | false => simpa [kp] using ih
theorem erase_n {T : List Nd} (k : Int) (hn : ((T.map (·.n)).map (·.id)).Nodup) : (T.eraseP (fun x => x.n.id == k)).map (·.n) = (T.map (·.n)).filter (fun x => !(x.id == k)) := by
  induction T with
  | nil => rfl
  | cons a T ih =>
    simp only [List.map_cons, List.nodup_cons] at hn
    simp only [List.eraseP_cons, List.map_cons, List.filter_cons]
    by_cases c : a.n.id = k
    · have c' : (a.n.id == k) = true := by simpa using c
      rw [c']
      simp only [cond_true, Bool.not_true, Bool.false_eq_true, if_false]
      symm
      rw [List.filter_eq_self]
      intro y hy
      have : y.id ≠ k := fun e => hn.1 (by rw [c, ← e]; exact List.mem_map.2 ⟨y, hy, rfl⟩)
      simpa using this
    · have c' : (a.n.id == k) = false := by simpa using c
      rw [c']
      simp only [cond_false, Bool.not_false, if_true, List.map_cons, ih hn.2]
theorem erase_perm {T : List Nd} {k : Int} {z : Nd} (h : T.find? (fun x => x.n.id == k) = some z) : T.Perm (z :: T.eraseP (fun x => x.n.id == k)) := by
  induction T with
  | nil => simp at h
  | cons a T ih =>
    simp only [List.find?_cons] at h
    simp only [List.eraseP_cons]
    cases hc : a.n.id == k with
    | true => rw [hc] at h; cases h; exact .refl _
    | false => rw [hc] at h; exact ((ih h).cons a).trans (.swap _ _ _)
theorem SK.erase {N : List Nr} (hs : SK N) {k : Int} (hk : k ≠ 0) (hno : ∀ x ∈ N, x.par ≠ k) : SK (N.filter (fun x => !(x.id == k))) := by
  have hm : ∀ x, x ∈ N.filter (fun x => !(x.id == k)) ↔ x ∈ N ∧ x.id ≠ k := fun x => by simp
  refine ⟨(List.filter_sublist.map _).nodup hs.nd, ?_, fun x hx => hs.rt x ((hm x).1 hx).1, fun x hx h0 => ?_, Nat.le_trans (List.length_filter_le _ _) hs.len, ?_⟩
  · obtain ⟨r, hr, h0⟩ := hs.root; exact ⟨r, (hm r).2 ⟨hr, by omega⟩, h0⟩
  · obtain ⟨h1, p, hp, h2, h3⟩ := hs.pa x ((hm x).1 hx).1 h0
    exact ⟨h1, p, (hm p).2 ⟨hp, fun e => hno x ((hm x).1 hx).1 (by rw [← h2, e])⟩, h2, h3⟩
  · obtain ⟨rk, h⟩ := hs.rk; exact ⟨rk, fun x hx => h x ((hm x).1 hx).1⟩
/-- A node that isn't ready, and has nobody, goes. -/
theorem OkT.erase {N : List Nr} {T : List Nd} (h : OkT N T) (hs : SK N) {k : Int} (hoff : ∀ y ∈ N, y.id = k → y.rdy = false) : OkT (N.filter (fun x => !(x.id == k))) (T.eraseP (fun x => x.n.id == k)) := by
  have hsub : ∀ x ∈ T.eraseP (fun x => x.n.id == k), x ∈ T := fun x hx => List.mem_of_mem_eraseP hx
  refine ⟨?_, fun x hx => h.srt x (hsub x hx), fun x hx p j => ?_⟩
  · rw [erase_n k (by rw [h.n]; exact hs.nd), h.n]
  · rw [h.mem x (hsub x hx) p j]
    constructor
    · rintro ⟨y, hy, h1, h2, h3, h4⟩
      refine ⟨y, ?_, h1, h2, h3, h4⟩
      rw [List.mem_filter]
      refine ⟨hy, ?_⟩
      have : y.id ≠ k := fun e => by rw [hoff y hy e] at h2; cases h2
      simpa using this
    · rintro ⟨y, hy, h1⟩
      exact ⟨y, (List.mem_filter.1 hy).1, h1⟩
/-! ### a node comes -/
theorem SK.add {N : List Nr} (hs : SK N) {n p : Nr} (hp : p ∈ N) (hpi : p.id = n.par) (hpt : p.thr = false) (h1 : 1 ≤ n.id) (hno : ∀ x ∈ N, x.id ≠ n.id) (hd : n.thr = true ∨ deepN 6 N n.par < 4) (hl : N.length < 60) : SK (N ++ [n]) := by
  obtain ⟨rk, hr⟩ := hs.rk
  have hm : ∀ x, x ∈ N ++ [n] ↔ x ∈ N ∨ x = n := fun x => by simp
  refine ⟨?_, ?_, ?_, ?_, by simp; omega, fun k => if k = n.id then rk n.par + 1 else rk k, fun x hx => ?_⟩
  · rw [List.map_append]
    refine List.nodup_append.2 ⟨hs.nd, by simp, ?_⟩
    intro a ha b hb
    obtain ⟨x, hx, rfl⟩ := List.mem_map.1 ha
    simp only [List.map_cons, List.map_nil, List.mem_singleton] at hb
    subst hb
    exact hno x hx
  · obtain ⟨r, hr, h0⟩ := hs.root; exact ⟨r, (hm r).2 (.inl hr), h0⟩
  · intro x hx h0
    rcases (hm x).1 hx with hx | rfl
    · exact hs.rt x hx h0
    · omega
  · intro x hx h0
    rcases (hm x).1 hx with hx | rfl
    · obtain ⟨g1, q, hq, g2, g3⟩ := hs.pa x hx h0
      exact ⟨g1, q, (hm q).2 (.inl hq), g2, g3⟩
    · exact ⟨h1, p, (hm p).2 (.inl hp), hpi, hpt⟩
  · rcases (hm x).1 hx with hx | rfl
    · simp only [if_neg (hno x hx)]
      have hpar : x.id ≠ 0 → x.par ≠ n.id := fun h0 e => by
        obtain ⟨_, q, hq, g2, _⟩ := hs.pa x hx h0
        exact hno q hq (by rw [g2, e])
      refine ⟨(hr x hx).1, fun h0 => ?_, (hr x hx).2.2⟩
      rw [if_neg (hpar h0)]; exact (hr x hx).2.1 h0
    · have hpr := (hr p hp).2.2.2 hpt
      have hne : x.par ≠ x.id := fun e => hno p hp (by rw [hpi, e])
      simp only [if_true, if_neg hne]
      rw [hpi] at hpr
      refine ⟨fun h0 => by omega, fun _ => trivial, by omega, fun ht => ?_⟩
      rcases hd with hd | hd
      · rw [ht] at hd; cases hd
      · rw [← hpi, deepN_rk hs hr 6 p hp (by have := (hr p hp).2.2.1; omega), hpi] at hd; omega
theorem OkT.add {N : List Nr} {T : List Nd} (h : OkT N T) (hs : SK N) {n p : Nr} (hp : p ∈ N) (hpi : p.id = n.par) (h1 : 1 ≤ n.id) (hno : ∀ x ∈ N, x.id ≠ n.id) (hr : n.rdy = false) (b ib : Nat) : OkT (N ++ [n]) (T ++ [⟨n, [], b, ib⟩]) := by
  have key : ∀ g s k, KD (N ++ [n]) g s k ↔ KD N g s k := fun g s k => by
    constructor
    · rintro ⟨y, hy, g1, g2, g3⟩
      rcases List.mem_append.1 hy with hy | hy
      · exact ⟨y, hy, g1, g2, g3⟩
      · simp only [List.mem_singleton] at hy; subst hy; rw [hr] at g2; cases g2
    · rintro ⟨y, hy, g1⟩; exact ⟨y, List.mem_append_left _ hy, g1⟩
  refine ⟨by rw [List.map_append, h.n]; rfl, fun x hx => ?_, fun x hx s k => ?_⟩
  · rcases List.mem_append.1 hx with hx | hx
    · exact h.srt x hx
    · simp only [List.mem_singleton] at hx; subst hx; exact List.Pairwise.nil
  · show _ ↔ KD (N ++ [n]) x.n.id s k
    rw [key]
    rcases List.mem_append.1 hx with hx | hx
    · exact h.mem x hx s k
    · simp only [List.mem_singleton] at hx; subst hx
      constructor
      · intro hh; cases hh
      · rintro ⟨y, hy, g1, _⟩
        by_cases c : y.id = 0
        · have := (hs.rt y hy c).1
          simp only at g1; omega
        · obtain ⟨_, q, hq, g2, _⟩ := hs.pa y hy c
          exact absurd (by rw [g2, g1]) (hno q hq)
end Go.Proofs.YtfhkgohokbkgiaaGreatDoor
set_option linter.unusedVariables false
set_option linter.unusedSimpArgs false
namespace Go.Proofs.YtfhkgohokbkgiaaGreatDoor
open Go.RowKit G
theorem lessN_iff {a b : Nr} : lessN a b = true ↔ eLt (a.pass, a.id) (b.pass, b.id) := by
  simp only [lessN, eLt, Bool.or_eq_true, Bool.and_eq_true, decide_eq_true_eq]
theorem least_none {l : List Nr} : least l = none ↔ l = [] := by
  cases l with
  | nil => simp [least]
  | cons x r =>
    simp only [least]
    constructor
    · intro h; split at h; cases h; split at h <;> cases h
    · intro h; cases h
theorem least_some : ∀ {l : List Nr} {m : Nr}, least l = some m → m ∈ l ∧ ∀ z ∈ l, lessN z m = false
  | [], m, h => by simp [least] at h
  | x :: r, m, h => by
    simp only [least] at h
    have irr : ∀ a : Nr, lessN a a = false := fun a => by
      cases hc : lessN a a with
      | false => rfl
      | true => exact absurd (lessN_iff.1 hc) (eLt_irrefl _)
    split at h
    · rename_i hn
      cases h
      rw [least_none.1 hn]
      exact ⟨by simp, fun z hz => by simp at hz; subst hz; exact irr _⟩
    · rename_i y hy
      obtain ⟨h1, h2⟩ := least_some hy
      by_cases hl : lessN y x = true
      · rw [if_pos hl] at h
        have e := Option.some.inj h
        rw [← e]
        refine ⟨.tail _ h1, fun z hz => ?_⟩
        rcases List.mem_cons.1 hz with ez | hz
        · rw [ez]
          cases hc : lessN x y with
          | false => rfl
          | true => exact absurd (eLt_trans (lessN_iff.1 hc) (lessN_iff.1 hl)) (eLt_irrefl _)
        · exact h2 z hz
      · rw [if_neg hl] at h
        have e := Option.some.inj h
        rw [← e]
        refine ⟨.head _, fun z hz => ?_⟩
        rcases List.mem_cons.1 hz with ez | hz
        · rw [ez]; exact irr _
        · cases hc : lessN z x with
          | false => rfl
          | true =>
            have hz2 := h2 z hz
            have hne : ¬ eLt (z.pass, z.id) (y.pass, y.id) := fun e => by rw [lessN_iff.2 e] at hz2; cases hz2
            rcases eLt_total hne with e | e
            · have e1 := lessN_iff.1 hc
              rw [e] at e1
              exact absurd (lessN_iff.2 e1) hl
            · exact absurd (lessN_iff.2 (eLt_trans e (lessN_iff.1 hc))) hl
theorem mem_kidR {N : List Nr} {k : Int} {y : Nr} : y ∈ kidR N k ↔ y ∈ N ∧ y.par = k ∧ y.rdy = true := by
  simp only [kidR, List.mem_filter, Bool.and_eq_true, beq_iff_eq]
/-- The first of an index is the least that is ready. -/
theorem least_q {N : List Nr} {T : List Nd} (h : OkT N T) (hs : SK N) {x : Nd} (hx : x ∈ T) {e : Int × Int} {r : List (Int × Int)} (hq : x.q = e :: r) : ∃ y, least (kidR N x.n.id) = some y ∧ y ∈ N ∧ y.par = x.n.id ∧ y.rdy = true ∧ y.pass = e.1 ∧ y.id = e.2 := by
  obtain ⟨p, k⟩ := e
  obtain ⟨y, hy, h1, h2, h3, h4⟩ := (h.mem x hx p k).1 (by rw [hq]; simp)
  cases hl : least (kidR N x.n.id) with
  | none =>
    have : y ∈ kidR N x.n.id := mem_kidR.2 ⟨hy, h1, h2⟩
    rw [least_none.1 hl] at this; cases this
  | some m =>
    obtain ⟨hm, hmin⟩ := least_some hl
    obtain ⟨hm1, hm2, hm3⟩ := mem_kidR.1 hm
    have hmq : (m.pass, m.id) ∈ x.q := (h.mem x hx _ _).2 ⟨m, hm1, hm2, hm3, rfl, rfl⟩
    have : m = y := by
      have h5 := hmin y (mem_kidR.2 ⟨hy, h1, h2⟩)
      rw [hq] at hmq
      rcases List.mem_cons.1 hmq with e | e
      · simp only [Prod.mk.injEq] at e
        exact nd_eq hs.nd hm1 hy (by rw [e.2, h4])
      · have hsr := h.srt x hx
        rw [hq] at hsr
        have h6 := (List.pairwise_cons.1 hsr).1 _ e
        rw [← h3, ← h4] at h6
        rw [lessN_iff.2 h6] at h5; cases h5
    subst this
    exact ⟨m, rfl, hy, h1, h2, h3, h4⟩
theorem least_nil {N : List Nr} {T : List Nd} (h : OkT N T) {x : Nd} (hx : x ∈ T) (hq : x.q = []) : least (kidR N x.n.id) = none := by
  rw [least_none]
  cases hk : kidR N x.n.id with
  | nil => rfl
  | cons a l => exact absurd hq ((q_kid h hx).2 (by rw [hk]; simp))
/-! ## passes within their bounds, on the way down -/
def PU (N : List Nr) : Prop := ∀ x ∈ N, ∀ p ∈ N, p.id = x.par → x.pass ≤ p.now + strd x.wt
def PN (N : List Nr) : Prop := ∀ x ∈ N, ∀ p ∈ N, p.id = x.par → x.rdy = true → p.now ≤ x.pass
structure DN (rk : Int → Nat) (r : Nat) (N : List Nr) : Prop where
  wt : ∀ x ∈ N, isW x.wt = true
  now : ∀ x ∈ N, 0 ≤ x.now ∧ x.now ≤ 16777216 + 720720
  low : ∀ x ∈ N, r ≤ rk x.id → x.now ≤ 16777216
  pass : ∀ x ∈ N, 0 ≤ x.pass ∧ x.pass ≤ 16777216 + 1441440
  pu : PU N
  pn : PN N
theorem DN.lb {rk : Int → Nat} {r : Nat} {N : List Nr} (h : DN rk r N) : LB N := ⟨h.wt, fun x hx => by have := h.pass x hx; omega, fun x hx => by have := h.now x hx; omega⟩
theorem WFN.dn {N : List Nr} (h : WFN N) (rk : Int → Nat) (r : Nat) : DN rk r N :=
  ⟨h.wt, fun x hx => by have := h.now x hx; omega, fun x hx _ => (h.now x hx).2, fun x hx => by have := h.pass x hx; omega, fun x hx p hp e => (h.pn x hx p hp e).1, fun x hx p hp e => (h.pn x hx p hp e).2⟩
def nwF (P : Int) (x : Nr) : Nr := { x with now := P }
theorem nwF_skel (P : Int) : Skel (nwF P) := ⟨fun _ => rfl, fun _ => rfl, fun _ => rfl⟩
/-- A step down: the group's now, the chosen one's pass. -/
theorem DN.step {rk : Int → Nat} {N : List Nr} (hs : SK N) (hr : RK N rk) {x y : Nr} (h : DN rk (rk x.id) N) (hx : x ∈ N) (hy : y ∈ N) (hyp : y.par = x.id) (hyr : y.rdy = true) (hmin : ∀ z ∈ kidR N x.id, lessN z y = false) :
    DN rk (rk y.id) (upN (upN N x.id (nwF y.pass)) y.id (psF (y.pass + strd y.wt))) ∧ y.pass ≤ 16777216 + 720720 ∧ x.now ≤ y.pass := by
  have hru := RK.up hs hr hy hx hyp.symm
  have hxl := h.low x hx (Nat.le_refl _)
  have hyw := strd_pos (h.wt y hy)
  have hyu := h.pu y hy x hx hyp.symm
  have hyn := h.pn y hy x hx hyp.symm hyr
  have hyp0 := h.pass y hy
  have hx0 := h.now x hx
  have hxy : x.id ≠ y.id := fun e => hs.ne_par hy (by rw [hyp, e])
  have key : ∀ z ∈ upN (upN N x.id (nwF y.pass)) y.id (psF (y.pass + strd y.wt)), ∃ v ∈ N, z.id = v.id ∧ z.par = v.par ∧ z.wt = v.wt ∧ z.rdy = v.rdy ∧ ((v = x ∧ z.now = y.pass) ∨ (v ≠ x ∧ z.now = v.now)) ∧ ((v = y ∧ z.pass = y.pass + strd y.wt) ∨ (v ≠ y ∧ z.pass = v.pass)) := by
    intro z hz
    obtain ⟨u, hu, hz2⟩ := mem_upN.1 hz
    obtain ⟨v, hv, hu2⟩ := mem_upN.1 hu
    refine ⟨v, hv, ?_⟩
    have evx : v.id = x.id ↔ v = x := ⟨fun e => nd_eq hs.nd hv hx e, fun e => e ▸ rfl⟩
    have evy : v.id = y.id ↔ v = y := ⟨fun e => nd_eq hs.nd hv hy e, fun e => e ▸ rfl⟩
    rcases hu2 with ⟨e1, rfl⟩ | ⟨e1, rfl⟩ <;> rcases hz2 with ⟨e2, rfl⟩ | ⟨e2, rfl⟩
    · exact absurd (e1.symm.trans e2) hxy
    · exact ⟨rfl, rfl, rfl, rfl, .inl ⟨evx.1 e1, rfl⟩, .inr ⟨fun e => e2 (evy.2 e), rfl⟩⟩
    · exact ⟨rfl, rfl, rfl, rfl, .inr ⟨fun e => e1 (evx.2 e), rfl⟩, .inl ⟨evy.1 e2, rfl⟩⟩
    · exact ⟨rfl, rfl, rfl, rfl, .inr ⟨fun e => e1 (evx.2 e), rfl⟩, .inr ⟨fun e => e2 (evy.2 e), rfl⟩⟩
  refine ⟨⟨fun z hz => ?_, fun z hz => ?_, fun z hz hzr => ?_, fun z hz => ?_, fun z hz p hp e => ?_, fun z hz p hp e hzr => ?_⟩, by omega, hyn⟩
  · obtain ⟨v, hv, _, _, e3, _⟩ := key z hz; rw [e3]; exact h.wt v hv
  · obtain ⟨v, hv, _, _, _, _, e5, _⟩ := key z hz
    have := h.now v hv
    rcases e5 with ⟨_, e5⟩ | ⟨_, e5⟩ <;> omega
  · obtain ⟨v, hv, e1, _, _, _, e5, _⟩ := key z hz
    rcases e5 with ⟨rfl, e5⟩ | ⟨_, e5⟩
    · rw [e1] at hzr; omega
    · rw [e5]; exact h.low v hv (by rw [← e1]; omega)
  · obtain ⟨v, hv, _, _, _, _, _, e6⟩ := key z hz
    have := h.pass v hv
    rcases e6 with ⟨_, e6⟩ | ⟨_, e6⟩ <;> omega
  · obtain ⟨v, hv, e1, e2, e3, _, _, e6⟩ := key z hz
    obtain ⟨q, hq, g1, _, _, _, g5, _⟩ := key p hp
    have hqv : q.id = v.par := by rw [← g1, e, e2]
    have hvu := h.pu v hv q hq hqv
    rw [e3]
    rcases g5 with ⟨rfl, g5⟩ | ⟨gn, g5⟩
    · rcases e6 with ⟨rfl, e6⟩ | ⟨_, e6⟩ <;> omega
    · rcases e6 with ⟨rfl, e6⟩ | ⟨_, e6⟩
      · exact absurd (nd_eq hs.nd hq hx (by rw [hqv, hyp])) gn
      · omega
  · obtain ⟨v, hv, e1, e2, _, e4, _, e6⟩ := key z hz
    obtain ⟨q, hq, g1, _, _, _, g5, _⟩ := key p hp
    have hqv : q.id = v.par := by rw [← g1, e, e2]
    rw [e4] at hzr
    have hvn := h.pn v hv q hq hqv hzr
    rcases g5 with ⟨rfl, g5⟩ | ⟨gn, g5⟩
    · rw [g5]
      rcases e6 with ⟨rfl, e6⟩ | ⟨_, e6⟩
      · omega
      · have hl := hmin v (mem_kidR.2 ⟨hv, hqv.symm, hzr⟩)
        have : ¬ v.pass < y.pass := fun c => by
          have : lessN v y = true := by simp [lessN, c]
          rw [this] at hl; cases hl
        omega
    · rcases e6 with ⟨rfl, e6⟩ | ⟨_, e6⟩ <;> omega
/-! ## passes made less -/
def shG (k P : Int) (x : Nr) : Nr := if x.par == k then { x with pass := mxI 0 (x.pass - P) } else x
theorem shG_skel (k P : Int) : Skel (shG k P) := ⟨fun x => by unfold shG; split <;> rfl, fun x => by unfold shG; split <;> rfl, fun x => by unfold shG; split <;> rfl⟩
theorem shiftN_eq {N : List Nr} {g : Nr} (hn : (N.map (·.id)).Nodup) (hg : g ∈ N) (hb : 16777216 < g.now) : shiftN N g.id = upN (N.map (shG g.id g.now)) g.id (nwF 0) := by
  rw [shiftN, gt_of hn hg]
  simp only
  rw [if_neg (by omega)]
  rfl
theorem shiftN_no {N : List Nr} {g : Nr} (hn : (N.map (·.id)).Nodup) (hg : g ∈ N) (hb : ¬ 16777216 < g.now) : shiftN N g.id = N := by
  rw [shiftN, gt_of hn hg]
  simp only
  rw [if_pos (by omega)]
theorem mem_shift {N : List Nr} {g : Nr} (hs : SK N) (hg : g ∈ N) {z : Nr} (hz : z ∈ upN (N.map (shG g.id g.now)) g.id (nwF 0)) : ∃ v ∈ N, z.id = v.id ∧ z.par = v.par ∧ z.wt = v.wt ∧ z.rdy = v.rdy ∧ z.thr = v.thr ∧ ((v = g ∧ z.now = 0) ∨ (v ≠ g ∧ z.now = v.now)) ∧ ((v.par = g.id ∧ z.pass = mxI 0 (v.pass - g.now)) ∨ (v.par ≠ g.id ∧ z.pass = v.pass)) := by
  obtain ⟨u, hu, hz2⟩ := mem_upN.1 hz
  obtain ⟨v, hv, rfl⟩ := List.mem_map.1 hu
  rw [(shG_skel _ _).id] at hz2
  have e0 : ((v.par = g.id ∧ (shG g.id g.now v).pass = mxI 0 (v.pass - g.now)) ∨ (v.par ≠ g.id ∧ (shG g.id g.now v).pass = v.pass)) ∧ (shG g.id g.now v).wt = v.wt ∧ (shG g.id g.now v).rdy = v.rdy ∧ (shG g.id g.now v).now = v.now := by
    unfold shG
    by_cases c : v.par = g.id <;> simp [c]
  have e1 := shG_skel g.id g.now
  have evg : v.id = g.id ↔ v = g := ⟨fun e => nd_eq hs.nd hv hg e, fun e => e ▸ rfl⟩
  refine ⟨v, hv, ?_⟩
  rcases hz2 with ⟨e2, rfl⟩ | ⟨e2, rfl⟩
  · exact ⟨e1.id v, e1.par v, e0.2.1, e0.2.2.1, e1.thr v, .inl ⟨evg.1 e2, rfl⟩, e0.1⟩
  · exact ⟨e1.id v, e1.par v, e0.2.1, e0.2.2.1, e1.thr v, .inr ⟨fun e => e2 (evg.2 e), e0.2.2.2⟩, e0.1⟩
theorem DN.shift {rk : Int → Nat} {r : Nat} {N : List Nr} (hs : SK N) {g : Nr} (h : DN rk r N) (hg : g ∈ N) : DN rk r (shiftN N g.id) := by
  by_cases hb : 16777216 < g.now
  · rw [shiftN_eq hs.nd hg hb]
    have key := fun {z} hz => mem_shift (z := z) hs hg hz
    refine ⟨fun z hz => ?_, fun z hz => ?_, fun z hz hzr => ?_, fun z hz => ?_, fun z hz p hp e => ?_, fun z hz p hp e hzr => ?_⟩
    · obtain ⟨v, hv, _, _, e3, _⟩ := key hz; rw [e3]; exact h.wt v hv
    · obtain ⟨v, hv, _, _, _, _, _, e5, _⟩ := key hz
      have := h.now v hv
      rcases e5 with ⟨_, e5⟩ | ⟨_, e5⟩ <;> omega
    · obtain ⟨v, hv, e1, _, _, _, _, e5, _⟩ := key hz
      rcases e5 with ⟨_, e5⟩ | ⟨_, e5⟩
      · omega
      · rw [e5]; exact h.low v hv (by rw [← e1]; exact hzr)
    · obtain ⟨v, hv, _, _, _, _, _, _, e6⟩ := key hz
      have := h.pass v hv
      have h2 := h.now g hg
      rcases e6 with ⟨_, e6⟩ | ⟨_, e6⟩
      · rw [e6]; unfold mxI; split <;> omega
      · omega
    · obtain ⟨v, hv, e1, e2, e3, _, _, _, e6⟩ := key hz
      obtain ⟨q, hq, g1, _, _, _, _, g5, _⟩ := key hp
      have hqv : q.id = v.par := by rw [← g1, e, e2]
      have hvu := h.pu v hv q hq hqv
      have hst := strd_pos (h.wt v hv)
      rw [e3]
      rcases g5 with ⟨rfl, g5⟩ | ⟨gn, g5⟩
      · rcases e6 with ⟨_, e6⟩ | ⟨e6, _⟩
        · rw [e6, g5]; unfold mxI; split <;> omega
        · exact absurd hqv.symm e6
      · rcases e6 with ⟨e6, _⟩ | ⟨_, e6⟩
        · exact absurd (nd_eq hs.nd hq hg (by rw [hqv, e6])) gn
        · omega
    · obtain ⟨v, hv, e1, e2, _, e4, _, _, e6⟩ := key hz
      obtain ⟨q, hq, g1, _, _, _, _, g5, _⟩ := key hp
      have hqv : q.id = v.par := by rw [← g1, e, e2]
      rw [e4] at hzr
      have hvn := h.pn v hv q hq hqv hzr
      rcases g5 with ⟨rfl, g5⟩ | ⟨gn, g5⟩
      · rcases e6 with ⟨_, e6⟩ | ⟨e6, _⟩
        · rw [e6, g5]; unfold mxI; split <;> omega
        · exact absurd hqv.symm e6
      · rcases e6 with ⟨e6, _⟩ | ⟨_, e6⟩
        · exact absurd (nd_eq hs.nd hq hg (by rw [hqv, e6])) gn
        · omega
  · rw [shiftN_no hs.nd hg hb]; exact h
theorem SK.shift {N : List Nr} (hs : SK N) {g : Nr} (hg : g ∈ N) : SK (shiftN N g.id) := by
  by_cases hb : 16777216 < g.now
  · rw [shiftN_eq hs.nd hg hb]
    exact (hs.map _ (shG_skel _ _)).upN (nwF_skel 0)
  · rw [shiftN_no hs.nd hg hb]; exact hs
end Go.Proofs.YtfhkgohokbkgiaaGreatDoor
set_option linter.unusedVariables false
set_option linter.unusedSimpArgs false
namespace Go.Proofs.YtfhkgohokbkgiaaGreatDoor
open Go.RowKit G
theorem nodup_len {l : List Nat} {n : Nat} (h : l.Nodup) (hb : ∀ j ∈ l, j < n) : l.length ≤ n := by
 have := h.length_le_of_subset (l₂ := List.range n) (fun j hj => List.mem_range.2 (hb j hj))
 simpa using this
theorem kp_at {T : List Nd} {j : Nat} {k : Int} {v : Value} (h : (T.map kp)[j]? = some (k, v)) : ∃ z, T[j]? = some z ∧ k = z.n.id ∧ v = .pointer (some ⟨z.b, 0, none⟩) := by
 rw [List.getElem?_map] at h
 obtain ⟨z, h1, h2⟩ := Option.map_eq_some_iff.1 h
 simp only [kp, Prod.mk.injEq] at h2
 exact ⟨z, h1, h2.1.symm, h2.2.symm⟩
set_option maxRecDepth 100000 in
theorem has_walk {N : List Nr} {T : List Nd} (hT : OkT N T) (H : List SP) (t mb : Nat) (g : Int) : ∀ w, Sat w (blk t 210 [.map (some mb)] :: mapS mb (T.map kp) :: (nodesL T ++ H)) → Calls Tryz.prog 206 #[vp t, vi g] w (Ret (ι := Unit) (fun _ => .bool (N.any (fun x => x.par == g))) fun _ => blk t 210 [.map (some mb)] :: mapS mb (T.map kp) :: (nodesL T ++ H)) := by
 refine enterG (fn := Tryz.f206) 23 [vp t, vi g] Tryz.func206 (by kernel_rfl) (by kernel_rfl) (by kernel_rfl) ?_
 refine Xq (Xg 1 (Xe [(0,vp t), (1,vi g), (4,.bool false)] ?_ 1))
 refine Xq (Xq (Xg 5 (Xl [(1,vi g), (4,.bool false), (10,.map (some mb))] [(⟨t, 0, none⟩, .map (some mb))] (hasC (ba 0) has0) ?_ 1 4)))
 refine Xh0 ?_ 1 1
 refine Xs (rangeS 207 (.tmp 10) mb (T.map kp) 3 208 (some 11) (fun _ => by kernel_rfl) (by kernel_rfl) (by kernel_rfl) (fun _ => by kernel_rfl) Tryz.underlying207) (fun it1 => ?_) 0
 refine endR ?_
 refine Xb 0 (Xp [(1,vi g), (4,.bool false), (11,vp it1)] ?_)
 refine loopG (fun (dn : List Nat) => [(1, vi g), (4, .bool false), (11, vp it1)]) (fun (dn : List Nat) => (rngS it1 mb (T.map kp) dn :: blk t 210 [.map (some mb)] :: (nodesL T ++ H))) (fun k (dn : List Nat) => k + dn.length = T.length ∧ dn.Nodup ∧ ∀ j ∈ dn, ∃ z, T[j]? = some z ∧ z.n.par ≠ g) T.length [] (by kernel_rfl) ⟨rfl, List.nodup_nil, fun _ h => by cases h⟩ ?_
 rintro k dn ⟨hk, hnd, hno⟩
 refine Xq (Xg 2 ?_)
 refine nextR (z := 1) (.tmp 11) it1 mb (T.map kp) dn (some 12) (fun _ => by kernel_rfl) (by kernel_rfl) (by kernel_rfl) (fun _ => by kernel_rfl) (fun h0  => ?_) (fun j kk vv hj hnj => ?_)
 ·skip
  refine Xe [(1,vi g), (4,.bool false), (11,vp it1), (13,.bool false)] ?_ 1
  refine Xq (Xc false (fun h => by cases h) (fun _ => ?_))
  refine Xx 0 (thenX (thenX (leaveR (Xq (Xg 1 (Xe [(4,.bool false)] ?_ 1))))))
  refine Xv ?_
  refine PT.rngEnd ?_
  refine PT.pick 1 rfl ?_
  refine Y0 (.bool false) (fun w hs => ?_)
  exact ⟨(), by rw [List.any_eq_false.2 fun y hy => by obtain ⟨i, z, hi, hz⟩ := hT.of_n hy; obtain ⟨z', h1, h2⟩ := hno i (h0 i (by rw [List.length_map]; exact (List.getElem?_eq_some_iff.1 hi).1)); rw [hi] at h1; cases h1; rw [← hz]; simpa using h2], hs⟩
 ·skip
  obtain ⟨z, hz, rfl, rfl⟩ := kp_at hj
  refine Xe [(1,vi g), (4,.bool false), (11,vp it1), (13,.bool true)] ?_ 1
  refine Xq (Xc true (fun _ => ?_) (fun h => by cases h))
  refine Xk (Xb 1 (Xq (Xg 3 (Xs (yldS (entryY (H := (rngS it1 mb (T.map kp) (dn ++ [j]) :: blk t 210 [.map (some mb)] :: (nodesL T ++ H))) (.tmp 11) it1 mb (T.map kp) dn j z.n.id (.pointer (some ⟨z.b, 0, none⟩)) 0 (some 14) (fun _ => by kernel_rfl) (by kernel_rfl) (by kernel_rfl) (fun _ => by kernel_rfl) rfl hj)) (fun _ => ?_) 2))))
  refine Xe [(1,vi g), (4,.bool false), (11,vp it1), (6,.pointer (some ⟨z.b, 0, none⟩))] ?_ 2
  refine Xq (Xg 7 (Xm [(1,vi g), (4,.bool false), (11,vp it1), (22,.bool (z.n.par == g))] [(⟨z.b, 1, none⟩, vi z.n.par)] (hasC (up (up (nodeAt (T := T) (List.mem_of_getElem? hz) (j := 1) rfl))) has0) ?_ 7))
  refine Xc (z.n.par == g) (fun h1 => ?_) (fun h1 => ?_)
  ·skip
   refine Xq (Xg 1 (Xe [(1,vi g), (4,.bool true), (11,vp it1)] ?_ 1))
   refine Xv (blockV (thenV (blockV (thenV ?_))))
   refine PT.rngEnd ?_
   refine PT.pick 1 rfl ?_
   refine Y0 (.bool true) (fun w hs => ?_)
   exact ⟨(), by rw [List.any_eq_true.2 ⟨z.n, hT.mem_n (List.mem_of_getElem? hz), h1⟩], hs⟩
  ·skip
   refine Xk ?_
   have hl := nodup_len (l := dn ++ [j]) (n := T.length) (List.nodup_append.2 ⟨hnd, by simp, by intro a ha b hb; simp at hb; subst hb; exact fun e => hnj (e ▸ ha)⟩) (by intro a ha; rcases List.mem_append.1 ha with ha | ha; (obtain ⟨z', h1, _⟩ := hno a ha; exact (List.getElem?_eq_some_iff.1 h1).1); (simp at ha; subst ha; exact (List.getElem?_eq_some_iff.1 hz).1))
   rw [List.length_append, List.length_singleton] at hl
   refine Xp [(1,vi g), (4,.bool false), (11,vp it1)] ?_
   exact againG (k - 1) (dn ++ [j]) rfl rfl (by omega) ⟨by rw [List.length_append, List.length_singleton]; omega, List.nodup_append.2 ⟨hnd, by simp, by intro a ha b hb; simp at hb; subst hb; exact fun e => hnj (e ▸ ha)⟩, by intro a ha; rcases List.mem_append.1 ha with ha | ha; exact hno a ha; (simp at ha; subst ha; exact ⟨z, hz, by simpa using h1⟩)⟩
end Go.Proofs.YtfhkgohokbkgiaaGreatDoor
set_option linter.unusedVariables false
set_option linter.unusedSimpArgs false
namespace Go.Proofs.YtfhkgohokbkgiaaGreatDoor
open Go.RowKit G
theorem kid_none {N : List Nr} {k : Int} (h : N.any (fun x => x.par == k) = false) : kidR N k = [] ∧ ∀ x ∈ N, x.par ≠ k := by
 have h1 : ∀ x ∈ N, x.par ≠ k := fun x hx => by simpa using List.any_eq_false.1 h x hx
 refine ⟨?_, h1⟩
 rw [kidR, List.filter_eq_nil_iff]
 intro x hx
 simp [h1 x hx]
set_option maxRecDepth 100000 in
theorem remove_walk {N : List Nr} {T : List Nd} (hT : OkT N T) (hsk : SK N) (hlb : LB N) (H : List SP) (t mb : Nat) (id : Int) : ∀ w, Sat w (blk t 210 [.map (some mb)] :: mapS mb (T.map kp) :: (nodesL T ++ H)) → Calls Tryz.prog 181 #[vp t, vi id] w (Ret (ι := { T' : List Nd // OkT (removeN N id).2 T' }) (fun _ => pqErr (removeN N id).1) fun T' => blk t 210 [.map (some mb)] :: mapS mb (T'.1.map kp) :: (nodesL T'.1 ++ H)) := by
 refine enterG (fn := Tryz.f181) 37 [vp t, vi id] Tryz.func181 (by kernel_rfl) (by kernel_rfl) (by kernel_rfl) ?_
 cases hg : gt N id with
 | none =>
  refine Xq (Xg 1 (Xe [(0,vp t), (1,vi id), (4,.nilIface)] ?_ 1))
  refine Xq (Xg 11 (Xl [(0,vp t), (1,vi id), (4,.nilIface), (11,.map (some mb)), (12,vi id)] [(⟨t, 0, none⟩, .map (some mb))] (hasC (ba 0) has0) ?_ 6 5))
  refine Xs (yldS (lookY 207 (.tmp 11) (.tmp 12) true mb id (T.map kp) (.pointer none) (.tuple #[.pointer none, .bool false]) 3 208 (some 13) (fun _ => by kernel_rfl) (by kernel_rfl) (by kernel_rfl) (fun _ => by kernel_rfl) (fun _ => by kernel_rfl) Tryz.underlying207 (by kernel_rfl) (fun _ => by kernel_rfl) (mapAt (H := (blk t 210 [.map (some mb)] :: mapS mb (T.map kp) :: (nodesL T ++ H))) (i := 1) rfl) (by rw [lk_none hT hg]; rfl))) (fun _ => ?_) 5
  refine Xe [(0,vp t), (1,vi id), (4,.nilIface), (5,.pointer none), (6,.bool false)] ?_ 5
  refine Xq (Xb 0 (Xq (Xg 7 (Xe [(0,vp t), (1,vi id), (4,.nilIface), (5,.pointer none), (16,.bool true)] ?_ 7))))
  refine Xc true (fun _ => ?_) (fun h => by cases h)
  refine Xq (Xg 2 (Xe [(0,vp t), (1,vi id), (4,.iface 126 (vi 13)), (5,.pointer none)] ?_ 2))
  refine Xv (blockV (thenV ?_))
  have hrn : removeN N id = (13, N) := by rw [removeN, if_pos (.inl (by rw [hg]; rfl))]
  refine Y0 (.iface 126 (vi 13)) (fun w hs => ?_)
  exact ⟨⟨T, by rw [hrn]; exact hT⟩, by show _ = Ending.returned (pqErr (removeN N id).1); rw [hrn]; rfl, hs⟩
 | some y =>
  obtain ⟨i, z, hi, hzn, hzk⟩ := hT.get hg
  refine Xq (Xg 1 (Xe [(0,vp t), (1,vi id), (4,.nilIface)] ?_ 1))
  refine Xq (Xg 11 (Xl [(0,vp t), (1,vi id), (4,.nilIface), (11,.map (some mb)), (12,vi id)] [(⟨t, 0, none⟩, .map (some mb))] (hasC (ba 0) has0) ?_ 6 5))
  refine Xs (yldS (lookY 207 (.tmp 11) (.tmp 12) true mb id (T.map kp) (.pointer none) (.tuple #[.pointer (some ⟨z.b, 0, none⟩), .bool true]) 3 208 (some 13) (fun _ => by kernel_rfl) (by kernel_rfl) (by kernel_rfl) (fun _ => by kernel_rfl) (fun _ => by kernel_rfl) Tryz.underlying207 (by kernel_rfl) (fun _ => by kernel_rfl) (mapAt (H := (blk t 210 [.map (some mb)] :: mapS mb (T.map kp) :: (nodesL T ++ H))) (i := 1) rfl) (by rw [lk_some hT hsk.nd hi hzk]; rfl))) (fun _ => ?_) 5
  refine Xe [(0,vp t), (1,vi id), (4,.nilIface), (5,.pointer (some ⟨z.b, 0, none⟩)), (6,.bool true)] ?_ 5
  refine Xq (Xb 0 (Xq (Xg 7 (Xe [(0,vp t), (1,vi id), (4,.nilIface), (5,.pointer (some ⟨z.b, 0, none⟩)), (16,.bool (id == 0))] ?_ 7))))
  refine Xc (id == 0) (fun h1 => ?_) (fun h1 => ?_)
  ·skip
   have h0 : id = 0 := by simpa using h1
   have hrn : removeN N id = (13, N) := by rw [removeN, if_pos (.inr h0)]
   refine Xq (Xg 2 (Xe [(0,vp t), (1,vi id), (4,.iface 126 (vi 13)), (5,.pointer (some ⟨z.b, 0, none⟩))] ?_ 2))
   refine Xv (blockV (thenV (Y0 (.iface 126 (vi 13)) (fun w hs => ?_))))
   exact ⟨⟨T, by rw [hrn]; exact hT⟩, by show _ = Ending.returned (pqErr (removeN N id).1); rw [hrn]; rfl, hs⟩
  ·skip
   have h0 : ¬ id = 0 := by simpa using h1
   have hn0 : ¬ ((gt N id).isNone = true ∨ id = 0) := by rw [hg]; simpa using h0
   refine Xq (Xg 4 (Xr [(0,vp t), (1,vi id), (4,.nilIface), (5,.pointer (some ⟨z.b, 0, none⟩)), (25,vp t), (26,vi id)] ?_ 2 2))
   refine Xs (Xa (some 27) (fun _ => .bool (N.any (fun x => x.par == id))) (has_walk hT H t mb id)) (fun _ => ?_) 1
   refine Xe [(0,vp t), (1,vi id), (4,.nilIface), (5,.pointer (some ⟨z.b, 0, none⟩)), (24,.bool (N.any (fun x => x.par == id)))] ?_ 1
   refine Xc (N.any (fun x => x.par == id)) (fun h2 => ?_) (fun h2 => ?_)
   ·skip
    have hrn : removeN N id = (10, N) := by rw [removeN, if_neg hn0, if_pos h2]
    refine Xq (Xg 2 (Xe [(0,vp t), (1,vi id), (4,.iface 126 (vi 10)), (5,.pointer (some ⟨z.b, 0, none⟩))] ?_ 2))
    refine Xv (blockV (thenV (Y0 (.iface 126 (vi 10)) (fun w hs => ?_))))
    exact ⟨⟨T, by rw [hrn]; exact hT⟩, by show _ = Ending.returned (pqErr (removeN N id).1); rw [hrn]; rfl, hs⟩
   ·skip
    have hrn : removeN N id = (0, (restN 6 N id).filter (fun x => !(x.id == id))) := by rw [removeN, if_neg hn0, if_neg (by rw [h2]; simp)]
    obtain ⟨hkd, hnp⟩ := kid_none h2
    refine Xk (Xq (Xg 3 (Xr [(0,vp t), (1,vi id), (4,.nilIface), (29,vp t), (30,.pointer (some ⟨z.b, 0, none⟩))] ?_ 1 2)))
    refine Xs (Xa (some 31) (fun (T' : { T' : List Nd // OkT (restN 6 N z.n.id) T' ∧ SameT T T' }) => .tuple #[]) (rests_walk hT hsk hlb hi H t mb)) (fun (T' : { T' : List Nd // OkT (restN 6 N z.n.id) T' ∧ SameT T T' }) => ?_) 0
    obtain ⟨T1, hT1, hsm⟩ := T'
    rw [hzk] at hT1
    obtain ⟨g, hg1, hg2, hg3⟩ := restN_map 6 N id
    have hs1 : SK (restN 6 N id) := hg3 ▸ hsk.map g hg1
    have hoff := rest_off hsk hg hkd
    obtain ⟨z1, hz1, hz1k, _⟩ := hsm.at hi
    obtain ⟨v, hv⟩ : ∃ v, T1.find? (fun x => x.n.id == id) = some v := Option.isSome_iff_exists.1 (List.find?_isSome.2 ⟨z1, List.mem_of_getElem? hz1, by simp [hz1k, hzk]⟩)
    refine PT.sat (fun _ hs => Sat.nds (erase_perm hv) hs) ?_
    refine endR ?_
    refine Xq (Xg 6 (Xl [(4,.nilIface), (35,.map (some mb)), (36,vi id)] [(⟨t, 0, none⟩, .map (some mb))] (hasC (ba 0) has0) ?_ 1 5))
    refine Xh0 ?_ 1 1
    refine Xs (delS 207 3 208 (.tmp 35) (.tmp 36) mb id (T1.map kp) #[207, 3] rfl (fun _ => by kernel_rfl) (by kernel_rfl) (by kernel_rfl) (fun _ => by kernel_rfl) (fun _ => by kernel_rfl) Tryz.underlying207 (by kernel_rfl)) (fun _ => ?_) 0
    refine endR ?_
    refine Xq (Xg 1 (Xe [(4,.nilIface)] ?_ 1))
    refine Xv (Y0 (.nilIface) (fun w hs => ?_))
    exact ⟨⟨T1.eraseP (fun x => x.n.id == id), by rw [hrn]; exact hT1.erase hs1 hoff⟩, by show _ = Ending.returned (pqErr (removeN N id).1); rw [hrn]; rfl, by show Sat _ (blk t 210 [.map (some mb)] :: mapS mb ((T1.eraseP (fun x => x.n.id == id)).map kp) :: (nodesL (T1.eraseP (fun x => x.n.id == id)) ++ H)); rw [← del_kp]; exact ((((hs.pick 2 rfl).tail).pick 2 rfl).tail).pick 1 rfl⟩
theorem scale_range {p n f t : Int} (hp : 0 ≤ p) (hn : 0 ≤ n ∧ n ≤ 16777216) (hf : isW f = true) (ht : isW t = true) (hpn : p ≤ n + strd f) : 0 ≤ scaleN p n f t ∧ scaleN p n f t ≤ n + strd t ∧ (n ≤ p → n ≤ scaleN p n f t) := by
 have h1 := strd_pos hf
 have h2 := strd_pos ht
 unfold scaleN
 split
 ·omega
 ·rename_i hc
  have hc : ¬ p ≤ n := fun h => hc (.inl h)
  have hm : 0 ≤ (p - n) * strd t := Int.mul_nonneg (by omega) (by omega)
  have hd := tdiv_le hm h1.1
  have hle : ((p - n) * strd t).tdiv (strd f) ≤ strd t := by
   rw [Int.tdiv_eq_ediv_of_nonneg hm]
   refine Int.ediv_le_of_le_mul h1.1 ?_
   rw [Int.mul_comm (strd t)]
   exact Int.mul_le_mul_of_nonneg_right (by omega) (by omega)
  omega
def wtF (W : Int) (x : Nr) : Nr := { x with wt := W }
theorem wtF_skel (W : Int) : Skel (wtF W) := ⟨fun _ => rfl, fun _ => rfl, fun _ => rfl⟩
set_option maxRecDepth 100000 in
theorem weight_walk {N : List Nr} {T : List Nd} (hT : OkT N T) (hw : WFN N) (H : List SP) (t mb : Nat) (id W : Int) : ∀ w, Sat w (blk t 210 [.map (some mb)] :: mapS mb (T.map kp) :: (nodesL T ++ H)) → Calls Tryz.prog 185 #[vp t, vi id, vi W] w (Ret (ι := { T' : List Nd // OkT (weightN N id W).2 T' ∧ SameT T T' }) (fun _ => pqErr (weightN N id W).1) fun T' => blk t 210 [.map (some mb)] :: mapS mb (T'.1.map kp) :: (nodesL T'.1 ++ H)) := by
 have hsk := hw.sk
 have hlb := hw.lb
 refine enterG (fn := Tryz.f185) 66 [vp t, vi id, vi W] Tryz.func185 (by kernel_rfl) (by kernel_rfl) (by kernel_rfl) ?_
 cases hg : gt N id with
 | none =>
  refine Xq (Xg 1 (Xe [(0,vp t), (1,vi id), (2,vi W), (6,.nilIface)] ?_ 1))
  refine Xq (Xg 11 (Xl [(0,vp t), (1,vi id), (2,vi W), (6,.nilIface), (14,.map (some mb)), (15,vi id)] [(⟨t, 0, none⟩, .map (some mb))] (hasC (ba 0) has0) ?_ 6 5))
  refine Xs (yldS (lookY 207 (.tmp 14) (.tmp 15) true mb id (T.map kp) (.pointer none) (.tuple #[.pointer none, .bool false]) 3 208 (some 16) (fun _ => by kernel_rfl) (by kernel_rfl) (by kernel_rfl) (fun _ => by kernel_rfl) (fun _ => by kernel_rfl) Tryz.underlying207 (by kernel_rfl) (fun _ => by kernel_rfl) (mapAt (H := (blk t 210 [.map (some mb)] :: mapS mb (T.map kp) :: (nodesL T ++ H))) (i := 1) rfl) (by rw [lk_none hT hg]; rfl))) (fun _ => ?_) 5
  refine Xe [(0,vp t), (1,vi id), (2,vi W), (6,.nilIface), (7,.pointer none), (8,.bool false)] ?_ 5
  refine Xq (Xb 0 (Xq (Xg 4 (Xr [(0,vp t), (1,vi id), (2,vi W), (6,.nilIface), (7,.pointer none), (8,.bool false), (20,vi W)] ?_ 3 1))))
  refine Xs (Xa (some 21) (fun _ => .bool (isW W)) (strIs_walk _ W)) (fun _ => ?_) 2
  refine Xe [(0,vp t), (1,vi id), (2,vi W), (6,.nilIface), (7,.pointer none), (8,.bool false), (19,.bool (!(isW W)))] ?_ 2
  refine Xc (!(isW W)) (fun h1 => ?_) (fun h1 => ?_)
  ·skip
   have hwf : isW W = false := by simpa using h1
   have hrn : weightN N id W = (10, N) := by rw [weightN, if_pos hwf]
   refine Xq (Xg 2 (Xe [(0,vp t), (2,vi W), (6,.iface 126 (vi 10)), (7,.pointer none)] ?_ 2))
   refine Xv (blockV (thenV (Y0 (.iface 126 (vi 10)) (fun w hs => ?_))))
   exact ⟨⟨T, by rw [hrn]; exact hT, SameT.refl T⟩, by show _ = Ending.returned (pqErr (weightN N id W).1); rw [hrn]; rfl, hs⟩
  ·skip
   have hwf : ¬ isW W = false := by simpa using h1
   have hrn : weightN N id W = (13, N) := by rw [weightN, if_neg hwf, hg]
   refine Xq (Xg 7 (Xe [(0,vp t), (2,vi W), (6,.nilIface), (7,.pointer none), (24,.bool true)] ?_ 7))
   refine Xc true (fun _ => ?_) (fun h => by cases h)
   refine Xq (Xg 2 (Xe [(0,vp t), (2,vi W), (6,.iface 126 (vi 13)), (7,.pointer none)] ?_ 2))
   refine Xv (blockV (thenV (Y0 (.iface 126 (vi 13)) (fun w hs => ?_))))
   exact ⟨⟨T, by rw [hrn]; exact hT, SameT.refl T⟩, by show _ = Ending.returned (pqErr (weightN N id W).1); rw [hrn]; rfl, hs⟩
 | some y =>
  obtain ⟨i, z, hi, hzn, hzk⟩ := hT.get hg
  have hm := List.mem_of_getElem? hi
  refine Xq (Xg 1 (Xe [(0,vp t), (1,vi id), (2,vi W), (6,.nilIface)] ?_ 1))
  refine Xq (Xg 11 (Xl [(0,vp t), (1,vi id), (2,vi W), (6,.nilIface), (14,.map (some mb)), (15,vi id)] [(⟨t, 0, none⟩, .map (some mb))] (hasC (ba 0) has0) ?_ 6 5))
  refine Xs (yldS (lookY 207 (.tmp 14) (.tmp 15) true mb id (T.map kp) (.pointer none) (.tuple #[.pointer (some ⟨z.b, 0, none⟩), .bool true]) 3 208 (some 16) (fun _ => by kernel_rfl) (by kernel_rfl) (by kernel_rfl) (fun _ => by kernel_rfl) (fun _ => by kernel_rfl) Tryz.underlying207 (by kernel_rfl) (fun _ => by kernel_rfl) (mapAt (H := (blk t 210 [.map (some mb)] :: mapS mb (T.map kp) :: (nodesL T ++ H))) (i := 1) rfl) (by rw [lk_some hT hsk.nd hi hzk]; rfl))) (fun _ => ?_) 5
  refine Xe [(0,vp t), (1,vi id), (2,vi W), (6,.nilIface), (7,.pointer (some ⟨z.b, 0, none⟩)), (8,.bool true)] ?_ 5
  refine Xq (Xb 0 (Xq (Xg 4 (Xr [(0,vp t), (1,vi id), (2,vi W), (6,.nilIface), (7,.pointer (some ⟨z.b, 0, none⟩)), (8,.bool true), (20,vi W)] ?_ 3 1))))
  refine Xs (Xa (some 21) (fun _ => .bool (isW W)) (strIs_walk _ W)) (fun _ => ?_) 2
  refine Xe [(0,vp t), (1,vi id), (2,vi W), (6,.nilIface), (7,.pointer (some ⟨z.b, 0, none⟩)), (8,.bool true), (19,.bool (!(isW W)))] ?_ 2
  refine Xc (!(isW W)) (fun h1 => ?_) (fun h1 => ?_)
  ·skip
   have hwf : isW W = false := by simpa using h1
   have hrn : weightN N id W = (10, N) := by rw [weightN, if_pos hwf]
   refine Xq (Xg 2 (Xe [(0,vp t), (2,vi W), (6,.iface 126 (vi 10)), (7,.pointer (some ⟨z.b, 0, none⟩))] ?_ 2))
   refine Xv (blockV (thenV (Y0 (.iface 126 (vi 10)) (fun w hs => ?_))))
   exact ⟨⟨T, by rw [hrn]; exact hT, SameT.refl T⟩, by show _ = Ending.returned (pqErr (weightN N id W).1); rw [hrn]; rfl, hs⟩
  ·skip
   have hwf : ¬ isW W = false := by simpa using h1
   have hwt : isW W = true := by simpa using hwf
   refine Xq (Xg 7 (Xe [(0,vp t), (2,vi W), (6,.nilIface), (7,.pointer (some ⟨z.b, 0, none⟩)), (24,.bool (id == 0))] ?_ 7))
   refine Xc (id == 0) (fun h2 => ?_) (fun h2 => ?_)
   ·skip
    have h0 : id = 0 := by simpa using h2
    have hrn : weightN N id W = (13, N) := by rw [weightN, if_neg hwf, hg]; simp only [if_pos h0]
    refine Xq (Xg 2 (Xe [(0,vp t), (2,vi W), (6,.iface 126 (vi 13)), (7,.pointer (some ⟨z.b, 0, none⟩))] ?_ 2))
    refine Xv (blockV (thenV (Y0 (.iface 126 (vi 13)) (fun w hs => ?_))))
    exact ⟨⟨T, by rw [hrn]; exact hT, SameT.refl T⟩, by show _ = Ending.returned (pqErr (weightN N id W).1); rw [hrn]; rfl, hs⟩
   ·skip
    have h0 : ¬ id = 0 := by simpa using h2
    have hyN := gt_mem hg
    obtain ⟨_, p0, hp0, hp0i, _⟩ := hsk.pa y hyN.1 (by rw [hyN.2]; exact h0)
    have hgp : gt N z.n.par = some p0 := by rw [hzn, ← hp0i]; exact gt_of hsk.nd hp0
    obtain ⟨j, p, hj, hpn, hpk⟩ := hT.get hgp
    have hij : i ≠ j := fun e => by subst e; rw [hi] at hj; cases hj; exact hsk.ne_par (hT.mem_n hm) hpk
    obtain ⟨R, hR, hR2⟩ := perm2 hi hj hij
    have hpm := hT.mem_n (List.mem_of_getElem? hj)
    have hzm := hT.mem_n hm
    have hb1 := hw.pass z.n hzm
    have hb2 := hw.now p.n hpm
    have hb3 := hw.pn z.n hzm p.n hpm hpk
    have hsc := scale_range hb1.1 hb2 (hw.wt z.n hzm) hwt hb3.1
    have hst := strd_pos hwt
    have hN1 : OkT (upN N z.n.id (wtF W)) (T.set i { z with n := wtF W z.n }) := hT.one hsk.nd hi (wtF_skel W) (.inr ⟨rfl, .inl rfl⟩)
    have hs1 : SK (upN N z.n.id (wtF W)) := hsk.upN (wtF_skel W)
    have hl1 : LB (upN N z.n.id (wtF W)) := hlb.ups hsk.nd hzm hwt (hlb.pass z.n hzm) (hlb.now z.n hzm)
    have hi1 : (T.set i { z with n := wtF W z.n })[i]? = some { z with n := wtF W z.n } := by rw [List.getElem?_set_self (List.getElem?_eq_some_iff.1 hi).1]
    have hg1 : gt (upN N z.n.id (wtF W)) z.n.par = some p0 := by rw [gt_upN (f := wtF W) (fun _ => rfl), if_neg (fun e => hsk.ne_par hzm e.symm), hgp]
    refine PT.open2 (hR) ?_
    refine Xk (Xq (Xy0 0 [] 26 ?_))
    refine Xt [0, 1, 2, 3, 4, 5, 6, 7, 8, 9, 10, 11, 12, 13, 18, 19, 20, 21, 22, 23] [(0,vp t), (2,vi W), (6,.nilIface), (7,.pointer (some ⟨z.b, 0, none⟩)), (36,vi z.n.pass), (40,.map (some mb)), (45,vi z.n.par), (54,vi z.n.wt), (55,vi W)] [(⟨z.b, 3, none⟩, vi z.n.pass), (⟨t, 0, none⟩, .map (some mb)), (⟨z.b, 1, none⟩, vi z.n.par), (⟨z.b, 2, none⟩, vi z.n.wt)] (hasC (ba 2) (hasC (ba 0) (hasC (ba 2) (hasC (ba 2) has0)))) ?_
    refine Xu 14 (lookY 207 (.tmp 40) (.tmp 45) false mb z.n.par (T.map kp) (.pointer none) (.pointer (some ⟨p.b, 0, none⟩)) 3 208 (some 46) (fun _ => by kernel_rfl) (by kernel_rfl) (by kernel_rfl) (fun _ => by kernel_rfl) (fun _ => by kernel_rfl) Tryz.underlying207 (by kernel_rfl) (fun _ => by kernel_rfl) (mapAt (H := (blk t 210 [.map (some mb)] :: mapS mb (T.map kp) :: blk z.b 213 [.int .i64 z.n.id, .int .i64 z.n.par, .int .i64 z.n.wt, .int .i64 z.n.pass, .bool z.n.thr, .bool z.n.rdy, .int .i64 z.n.now, .pointer (some ⟨z.ib, 0, none⟩)] :: idxS z.ib 60 z.q :: blk p.b 213 [.int .i64 p.n.id, .int .i64 p.n.par, .int .i64 p.n.wt, .int .i64 p.n.pass, .bool p.n.thr, .bool p.n.rdy, .int .i64 p.n.now, .pointer (some ⟨p.ib, 0, none⟩)] :: idxS p.ib 60 p.q :: (nodesL R ++ H))) (i := 1) rfl) (by rw [lk_some hT hsk.nd hj hpk]; rfl)) ?_
    refine Xt [15, 16, 17] [(0,vp t), (2,vi W), (6,.nilIface), (7,.pointer (some ⟨z.b, 0, none⟩)), (36,vi z.n.pass), (54,vi z.n.wt), (55,vi W), (49,vi p.n.now)] [(⟨p.b, 6, none⟩, vi p.n.now)] (hasC (ba 4) has0) ?_
    refine Xo 24 (Xa (some 56) (fun _ => vi (scaleN z.n.pass p.n.now z.n.wt W)) (scale_walk _ z.n.pass p.n.now z.n.wt W ⟨hb1.1, by omega⟩ ⟨hb2.1, by omega⟩ (hw.wt z.n hzm) hwt)) (fun _ => ?_)
    have hR3 : (T.set i { z with n := wtF W z.n }).Perm ({ z with n := wtF W z.n } :: p :: R) := by have := hR2 { z with n := wtF W z.n } p; rw [set_same (by rw [List.getElem?_set_ne hij]; exact hj)] at this; exact this
    refine Xt [25] [(0,vp t), (2,vi W), (6,.nilIface), (7,.pointer (some ⟨z.b, 0, none⟩)), (9,vi (scaleN z.n.pass p.n.now z.n.wt W))] [] has0 ?_
    refine Xd (Xq (Xg 6 (Xr [(0,vp t), (6,.nilIface), (7,.pointer (some ⟨z.b, 0, none⟩)), (9,vi (scaleN z.n.pass p.n.now z.n.wt W)), (58,vi W), (61,.pointer (some ⟨z.b, 2, none⟩))] ?_ 1 5)))
    refine Xh0 ?_ 2 1
    refine Xs (Xz [(2,vi W)]) (fun _ => ?_) 0
    refine endR ?_
    refine PT.pick 0 rfl ?_
    refine PT.pick 2 rfl ?_
    refine PT.pick 2 rfl ?_
    refine PT.close2 ({ z with n := wtF W z.n }) p (hR3) ?_
    have hsm : SameT T (T.set i { z with n := wtF W z.n }) := SameT.set hi ⟨rfl, rfl, rfl⟩
    rw [← hsm.kp]
    have hrn : weightN N id W = (0, upN (upN N z.n.id (wtF W)) z.n.id (psF (scaleN z.n.pass p.n.now z.n.wt W))) := by
     rw [weightN, if_neg hwf, hg]; simp only [if_neg h0]; rw [← hzn, hgp, ← hpn, hzk]
     refine Prod.ext rfl ?_
     simp only [upN, List.map_map]
     refine List.map_congr_left fun x hx => ?_
     simp only [Function.comp]
     by_cases c : x.id = id
     ·have := nd_eq hsk.nd hx hyN.1 (by rw [c, hyN.2]); subst this
      simp [c, hzn, psF, wtF]
     ·simp [c]
    refine Xq (Xg 5 (Xr [(6,.nilIface), (62,vp t), (63,.pointer (some ⟨z.b, 0, none⟩)), (64,vi (scaleN z.n.pass p.n.now z.n.wt W))] ?_ 2 3))
    refine Xs (Xa (some 65) (fun (T' : { T' : List Nd // OkT (upN (upN N z.n.id (wtF W)) z.n.id (psF (scaleN z.n.pass p.n.now z.n.wt W))) T' ∧ SameT (T.set i { z with n := wtF W z.n }) T' ∧ SK (upN (upN N z.n.id (wtF W)) z.n.id (psF (scaleN z.n.pass p.n.now z.n.wt W))) ∧ LB (upN (upN N z.n.id (wtF W)) z.n.id (psF (scaleN z.n.pass p.n.now z.n.wt W))) }) => .nilIface) (sets_walk hN1 hs1 hl1 hi1 hg1 (P := scaleN z.n.pass p.n.now z.n.wt W) ⟨hsc.1, by omega⟩ H t mb)) (fun (T' : { T' : List Nd // OkT (upN (upN N z.n.id (wtF W)) z.n.id (psF (scaleN z.n.pass p.n.now z.n.wt W))) T' ∧ SameT (T.set i { z with n := wtF W z.n }) T' ∧ SK (upN (upN N z.n.id (wtF W)) z.n.id (psF (scaleN z.n.pass p.n.now z.n.wt W))) ∧ LB (upN (upN N z.n.id (wtF W)) z.n.id (psF (scaleN z.n.pass p.n.now z.n.wt W))) }) => ?_) 1
    refine Xe [(6,.nilIface)] ?_ 1
    refine Xv (Y0 (.nilIface) (fun w hs => ?_))
    exact ⟨⟨T'.1, by rw [hrn]; exact T'.2.1, hsm.trans T'.2.2.1⟩, by show _ = Ending.returned (pqErr (weightN N id W).1); rw [hrn]; rfl, hs⟩
end Go.Proofs.YtfhkgohokbkgiaaGreatDoor
set_option linter.unusedVariables false
set_option linter.unusedSimpArgs false
namespace Go.Proofs.YtfhkgohokbkgiaaGreatDoor
open Go.RowKit G
/-- All but the groups' readiness. -/
structure WB (N : List Nr) : Prop where
  sk : SK N
  wt : ∀ x ∈ N, isW x.wt = true
  now : ∀ x ∈ N, 0 ≤ x.now ∧ x.now ≤ 16777216
  pass : ∀ x ∈ N, 0 ≤ x.pass ∧ x.pass ≤ 16777216 + 1441440
  pn : ∀ x ∈ N, ∀ p ∈ N, p.id = x.par → x.pass ≤ p.now + strd x.wt ∧ (x.rdy = true → p.now ≤ x.pass)
def KX (N : List Nr) (g : Int) : Prop := ∃ y ∈ N, y.par = g ∧ y.rdy = true
/-- Groups are ready as something in them is, but for one. -/
def RDx (N : List Nr) (k : Int) : Prop := ∀ x ∈ N, x.thr = false → x.id ≠ k → (x.rdy = true ↔ KX N x.id)
theorem WFN.wb {N : List Nr} (h : WFN N) : WB N := ⟨h.sk, h.wt, h.now, h.pass, h.pn⟩
theorem WFN.rdx {N : List Nr} (h : WFN N) (k : Int) : RDx N k := fun x hx ht _ => h.rd x hx ht
theorem WB.wf {N : List Nr} (h : WB N) (hr : ∀ x ∈ N, x.thr = false → (x.rdy = true ↔ KX N x.id)) : WFN N := ⟨h.sk, h.wt, h.now, h.pass, h.pn, hr⟩
theorem kidR_KX {N : List Nr} {g : Int} : kidR N g ≠ [] ↔ KX N g := by
  rw [kidR_ne]
  constructor
  · rintro ⟨p, k, y, hy, h1, h2, _⟩; exact ⟨y, hy, h1, h2⟩
  · rintro ⟨y, hy, h1, h2⟩; exact ⟨y.pass, y.id, y, hy, h1, h2, rfl, rfl⟩
theorem KX_up {N : List Nr} (hs : SK N) {x : Nr} (hx : x ∈ N) {f : Nr → Nr} (hf : Skel f) {g : Int} : KX (upN N x.id f) g ↔ (∃ y ∈ N, y.id ≠ x.id ∧ y.par = g ∧ y.rdy = true) ∨ (x.par = g ∧ (f x).rdy = true) := by
  constructor
  · rintro ⟨z, hz, h1, h2⟩
    obtain ⟨y, hy, ⟨e, rfl⟩ | ⟨e, rfl⟩⟩ := mem_upN.1 hz
    · have := nd_eq hs.nd hy hx e; subst this
      rw [hf.par] at h1; exact .inr ⟨h1, h2⟩
    · exact .inl ⟨_, hy, e, h1, h2⟩
  · rintro (⟨y, hy, e, h1, h2⟩ | ⟨h1, h2⟩)
    · exact ⟨y, mem_upN.2 ⟨y, hy, .inr ⟨e, rfl⟩⟩, h1, h2⟩
    · exact ⟨f x, mem_upN.2 ⟨x, hx, .inl ⟨rfl, rfl⟩⟩, by rw [hf.par, h1], h2⟩
theorem KX_ne {N : List Nr} (hs : SK N) {x : Nr} (hx : x ∈ N) {f : Nr → Nr} (hf : Skel f) {g : Int} (hg : x.par ≠ g) : KX (upN N x.id f) g ↔ KX N g := by
  rw [KX_up hs hx hf]
  constructor
  · rintro (⟨y, hy, _, h1, h2⟩ | ⟨h1, _⟩)
    · exact ⟨y, hy, h1, h2⟩
    · exact absurd h1 hg
  · rintro ⟨y, hy, h1, h2⟩
    refine .inl ⟨y, hy, fun e => ?_, h1, h2⟩
    have := nd_eq hs.nd hy hx e; subst this
    exact hg h1
/-- What a change of one node leaves of bounds. -/
theorem WB.up {N : List Nr} (h : WB N) {x : Nr} (hx : x ∈ N) {f : Nr → Nr} (hf : Skel f) (hw : isW (f x).wt = true) (hn : (f x).now = x.now) (hp : 0 ≤ (f x).pass ∧ (f x).pass ≤ 16777216 + 1441440)
    (hpn : ∀ p ∈ N, p.id = x.par → (f x).pass ≤ p.now + strd (f x).wt ∧ ((f x).rdy = true → p.now ≤ (f x).pass)) : WB (upN N x.id f) := by
  have hs := h.sk
  have key : ∀ z ∈ upN N x.id f, z.now = z.now ∧ ((z = f x) ∨ (z ∈ N ∧ z.id ≠ x.id)) := fun z hz => by
    obtain ⟨y, hy, ⟨e, rfl⟩ | ⟨e, rfl⟩⟩ := mem_upN.1 hz
    · have := nd_eq hs.nd hy hx e; subst this
      exact ⟨rfl, .inl rfl⟩
    · exact ⟨rfl, .inr ⟨hy, e⟩⟩
  have parent : ∀ p ∈ upN N x.id f, ∃ q ∈ N, q.id = p.id ∧ q.now = p.now := fun p hp => by
    rcases (key p hp).2 with rfl | ⟨hp, _⟩
    · exact ⟨x, hx, (hf.id x).symm, hn.symm⟩
    · exact ⟨p, hp, rfl, rfl⟩
  refine ⟨hs.upN hf, fun z hz => ?_, fun z hz => ?_, fun z hz => ?_, fun z hz p hp' e => ?_⟩
  · rcases (key z hz).2 with rfl | ⟨hz, _⟩
    · exact hw
    · exact h.wt z hz
  · rcases (key z hz).2 with rfl | ⟨hz, _⟩
    · rw [hn]; exact h.now x hx
    · exact h.now z hz
  · rcases (key z hz).2 with rfl | ⟨hz, _⟩
    · exact hp
    · exact h.pass z hz
  · obtain ⟨q, hq, hqi, hqn⟩ := parent p hp'
    rw [← hqn]
    rcases (key z hz).2 with rfl | ⟨hz, _⟩
    · exact hpn q hq (by rw [hqi, e, hf.par])
    · exact h.pn z hz q hq (by rw [hqi, e])
theorem skF {r : Bool} : Skel (fun x : Nr => { x with rdy := r }) := ⟨fun _ => rfl, fun _ => rfl, fun _ => rfl⟩
theorem wake_wf {rk : Int → Nat} : ∀ (f : Nat) {N : List Nr} {x : Nr}, WB N → RK N rk → x ∈ N → rk x.id ≤ f → RDx N x.id → (x.thr = true ∨ KX N x.id) → WFN (wakeN f N x.id)
  | 0, N, x, h, hr, hx, hf, _, _ => by have := hr.pos hx; omega
  | f + 1, N, x, h, hr, hx, hf, hrd, hk => by
    have hs := h.sk
    rw [wakeN, gt_of hs.nd hx]
    simp only
    by_cases c : x.rdy = true
    · rw [if_pos c]
      refine h.wf fun z hz ht => ?_
      by_cases e : z.id = x.id
      · have := nd_eq hs.nd hz hx e; subst this
        rcases hk with hk | hk
        · rw [ht] at hk; cases hk
        · exact ⟨fun _ => hk, fun _ => c⟩
      · exact hrd z hz ht e
    · rw [if_neg c]
      have c' : x.rdy = false := by simpa using c
      cases hg : gt N x.par with
      | none =>
        simp only
        have hnp := gt_none.1 hg
        refine (h.up hx (f := fun x => { x with rdy := true }) skF (h.wt x hx) rfl (h.pass x hx) (fun p hp e => absurd e (hnp p hp))).wf fun z hz ht => ?_
        obtain ⟨y, hy, ⟨e, rfl⟩ | ⟨e, rfl⟩⟩ := mem_upN.1 hz
        · have := nd_eq hs.nd hy hx e; subst this
          show true = true ↔ KX _ y.id
          rw [KX_ne hs hy skF (hs.ne_par hy).symm]
          rcases hk with hk | hk
          · have ht' : y.thr = false := ht
            rw [hk] at ht'; cases ht'
          · exact ⟨fun _ => hk, fun _ => rfl⟩
        · rw [KX_ne hs hx skF (fun e' => hnp z hy e'.symm)]
          exact hrd z hy ht e
      | some p =>
        simp only
        obtain ⟨hp, hpi⟩ := gt_mem hg
        have h1 := h.pass x hx
        have h2 := h.pn x hx p hp hpi
        have h3 := h.now p hp
        have h4 := strd_pos (h.wt x hx)
        have hmx : mxI x.pass p.now = x.pass ∨ mxI x.pass p.now = p.now := by unfold mxI; split <;> simp
        have hmg : x.pass ≤ mxI x.pass p.now ∧ p.now ≤ mxI x.pass p.now := by unfold mxI; split <;> omega
        have hb : WB (upN N x.id (wkF p.now)) := h.up hx (wkF_skel _) (h.wt x hx) rfl (by show 0 ≤ mxI x.pass p.now ∧ mxI x.pass p.now ≤ _; rcases hmx with e | e <;> rw [e] <;> omega)
          (fun q hq e => by
            have := nd_eq hs.nd hq hp (by rw [e, hpi]); subst this
            show mxI x.pass q.now ≤ q.now + strd x.wt ∧ (true = true → q.now ≤ mxI x.pass q.now)
            exact ⟨by rcases hmx with e | e <;> rw [e] <;> omega, fun _ => hmg.2⟩)
        have hpx : p.id ≠ x.id := fun e => hs.ne_par hx (by rw [← hpi, e])
        have hp' : p ∈ upN N x.id (wkF p.now) := mem_upN.2 ⟨p, hp, .inr ⟨hpx, rfl⟩⟩
        have hu := RK.up hs hr hx hp hpi
        have hrec := wake_wf f (x := p) hb (hr.ups (wkF_skel p.now)) hp' (by omega) (fun z hz ht e => by
          obtain ⟨y, hy, ⟨e2, rfl⟩ | ⟨e2, rfl⟩⟩ := mem_upN.1 hz
          · have := nd_eq hs.nd hy hx e2; subst this
            show true = true ↔ KX _ y.id
            rw [KX_ne hs hy (wkF_skel _) (hs.ne_par hy).symm]
            rcases hk with hk | hk
            · have ht' : y.thr = false := ht
              rw [hk] at ht'; cases ht'
            · exact ⟨fun _ => hk, fun _ => rfl⟩
          · rw [KX_ne hs hx (wkF_skel _) (fun e' => e (by rw [← e', hpi]))]
            exact hrd z hy ht e2) (.inr ((KX_up hs hx (wkF_skel _)).2 (.inr ⟨hpi.symm, rfl⟩)))
        rw [← hpi]
        exact hrec
theorem rest_wf {rk : Int → Nat} : ∀ (f : Nat) {N : List Nr} {x : Nr}, WB N → RK N rk → x ∈ N → rk x.id ≤ f → RDx N x.id → (x.thr = false → x.rdy = true) → WFN (restN f N x.id)
  | 0, N, x, h, hr, hx, hf, _, _ => by have := hr.pos hx; omega
  | f + 1, N, x, h, hr, hx, hf, hrd, hk => by
    have hs := h.sk
    rw [restN, gt_of hs.nd hx]
    simp only
    by_cases c : x.rdy = false ∨ kidR N x.id ≠ []
    · rw [if_pos c]
      refine h.wf fun z hz ht => ?_
      by_cases e : z.id = x.id
      · have := nd_eq hs.nd hz hx e; subst this
        rcases c with c | c
        · rw [hk ht] at c; cases c
        · exact ⟨fun _ => kidR_KX.1 c, fun _ => hk ht⟩
      · exact hrd z hz ht e
    · rw [if_neg c]
      have c1 : x.rdy = true := by cases hc : x.rdy with | true => rfl | false => exact absurd (.inl hc) c
      have c2 : ¬ KX N x.id := fun hh => c (.inr (kidR_KX.2 hh))
      cases hg : gt N x.par with
      | none =>
        simp only
        have hnp := gt_none.1 hg
        refine (h.up hx rsF_skel (h.wt x hx) rfl (h.pass x hx) (fun p hp e => absurd e (hnp p hp))).wf fun z hz ht => ?_
        obtain ⟨y, hy, ⟨e, rfl⟩ | ⟨e, rfl⟩⟩ := mem_upN.1 hz
        · have := nd_eq hs.nd hy hx e; subst this
          show false = true ↔ KX _ y.id
          rw [KX_ne hs hy rsF_skel (hs.ne_par hy).symm]
          exact ⟨fun hh => (by cases hh), fun hh => absurd hh c2⟩
        · rw [KX_ne hs hx rsF_skel (fun e' => hnp z hy e'.symm)]
          exact hrd z hy ht e
      | some p =>
        simp only
        obtain ⟨hp, hpi⟩ := gt_mem hg
        have hb : WB (upN N x.id rsF) := h.up hx rsF_skel (h.wt x hx) rfl (h.pass x hx) (fun q hq e => ⟨(h.pn x hx q hq e).1, fun hh => (by cases hh)⟩)
        have hpx : p.id ≠ x.id := fun e => hs.ne_par hx (by rw [← hpi, e])
        have hp' : p ∈ upN N x.id rsF := mem_upN.2 ⟨p, hp, .inr ⟨hpx, rfl⟩⟩
        have hu := RK.up hs hr hx hp hpi
        have hrec := rest_wf f (x := p) hb (hr.ups rsF_skel) hp' (by omega) (fun z hz ht e => by
          obtain ⟨y, hy, ⟨e2, rfl⟩ | ⟨e2, rfl⟩⟩ := mem_upN.1 hz
          · have := nd_eq hs.nd hy hx e2; subst this
            show false = true ↔ KX _ y.id
            rw [KX_ne hs hy rsF_skel (hs.ne_par hy).symm]
            exact ⟨fun hh => (by cases hh), fun hh => absurd hh c2⟩
          · rw [KX_ne hs hx rsF_skel (fun e' => e (by rw [← e', hpi]))]
            exact hrd z hy ht e2) (fun ht => (hrd p hp ht hpx).2 ⟨x, hx, hpi.symm, c1⟩)
        rw [← hpi]
        exact hrec
theorem root_wf : WFN [rootN] := by
  have hm : ∀ x ∈ [rootN], x = rootN := fun x hx => by simpa using hx
  have hno : ¬ ∃ y ∈ [rootN], y.par = rootN.id ∧ y.rdy = true := fun ⟨y, hy, h, _⟩ => by rw [hm y hy] at h; cases h
  refine ⟨⟨by simp, ⟨rootN, by simp, rfl⟩, fun x hx _ => by rw [hm x hx]; exact ⟨rfl, rfl⟩, fun x hx h => by rw [hm x hx] at h; exact absurd rfl h, by simp, fun _ => 1, fun x hx => by rw [hm x hx]; exact ⟨fun _ => rfl, fun h => absurd rfl h, by show 1 ≤ 5; omega, fun _ => by show 1 ≤ 4; omega⟩⟩, fun x hx => by rw [hm x hx]; rfl, fun x hx => by rw [hm x hx]; decide, fun x hx => by rw [hm x hx]; decide, fun x hx p hp h => ?_, fun x hx _ => ?_⟩
  · rw [hm x hx, hm p hp] at h; cases h
  · rw [hm x hx]
    constructor
    · intro h; cases h
    · intro h; exact absurd h hno
theorem ready_wf {N : List Nr} (h : WFN N) (k : Int) (r : Bool) : WFN (readyN N k r).2 := by
  obtain ⟨rk, hr⟩ := h.sk.rk
  unfold readyN
  split
  · exact h
  · rename_i x hg
    obtain ⟨hx, rfl⟩ := gt_mem hg
    split
    · rename_i ht
      have hle := (hr x hx).2.2.1
      cases r with
      | true => exact wake_wf 6 h.wb hr hx (by omega) (h.rdx _) (.inl ht)
      | false => exact rest_wf 6 h.wb hr hx (by omega) (h.rdx _) (fun hf => by rw [ht] at hf; cases hf)
    · exact h
theorem add_wf {N : List Nr} (h : WFN N) (par id wt : Int) (thr : Bool) : WFN (addN N par id wt thr).2 := by
  unfold addN
  split
  · exact h
  · rename_i c1
    have hw : isW wt = true := by cases hc : isW wt with | true => rfl | false => exact absurd (.inl hc) c1
    have hid : 1 ≤ id := by have : ¬ id < 1 := fun hh => c1 (.inr hh); omega
    split
    · exact h
    · rename_i p hp
      obtain ⟨hpN, hpi⟩ := gt_mem hp
      split
      · exact h
      · rename_i hth
        split
        · exact h
        · rename_i hcl
          split
          · exact h
          · rename_i hdp
            split
            · exact h
            · rename_i hln
              have hno : ∀ x ∈ N, x.id ≠ id := gt_none.1 (by cases hc : gt N id with | none => rfl | some y => rw [hc] at hcl; simp at hcl)
              have hpt : p.thr = false := by simpa using hth
              have hst := strd_pos hw
              have hpn := h.now p hpN
              have hsk : SK (N ++ [{ id := id, par := par, wt := wt, pass := p.now, thr := thr, rdy := false, now := 0 }]) := h.sk.add hpN hpi hpt hid hno (by
                cases thr with
                | true => exact .inl rfl
                | false => right; have : ¬ 4 ≤ deepN 6 N par := fun hh => hdp ⟨rfl, hh⟩; show deepN 6 N par < 4; omega) (by omega)
              have hm : ∀ x, x ∈ N ++ [{ id := id, par := par, wt := wt, pass := p.now, thr := thr, rdy := false, now := (0 : Int) }] → x ∈ N ∨ x = { id := id, par := par, wt := wt, pass := p.now, thr := thr, rdy := false, now := (0 : Int) } := fun x hx => by simpa using hx
              have hkx : ∀ g, KX (N ++ [{ id := id, par := par, wt := wt, pass := p.now, thr := thr, rdy := false, now := (0 : Int) }]) g ↔ KX N g := fun g => by
                constructor
                · rintro ⟨y, hy, g1, g2⟩
                  rcases hm y hy with hy | rfl
                  · exact ⟨y, hy, g1, g2⟩
                  · cases g2
                · rintro ⟨y, hy, g1⟩; exact ⟨y, List.mem_append_left _ hy, g1⟩
              refine ⟨hsk, fun x hx => ?_, fun x hx => ?_, fun x hx => ?_, fun x hx q hq e => ?_, fun x hx ht => ?_⟩
              · rcases hm x hx with hx | rfl
                · exact h.wt x hx
                · exact hw
              · rcases hm x hx with hx | rfl
                · exact h.now x hx
                · exact ⟨Int.le_refl _, by show (0 : Int) ≤ _; omega⟩
              · rcases hm x hx with hx | rfl
                · exact h.pass x hx
                · show 0 ≤ p.now ∧ p.now ≤ _; omega
              · rcases hm x hx with hx | rfl
                · rcases hm q hq with hq | rfl
                  · exact h.pn x hx q hq e
                  · by_cases c : x.id = 0
                    · have := (h.sk.rt x hx c).1; simp only at e; omega
                    · obtain ⟨_, v, hv, g2, _⟩ := h.sk.pa x hx c
                      exact absurd (by rw [g2, ← e]) (hno v hv)
                · refine ⟨?_, fun hh => by cases hh⟩
                  show p.now ≤ q.now + strd wt
                  rcases hm q hq with hq | rfl
                  · have := nd_eq h.sk.nd hq hpN (by rw [hpi]; exact e); subst this; omega
                  · have e' : id = par := e
                    exact absurd (by rw [hpi, e']) (hno p hpN)
              · show x.rdy = true ↔ KX _ x.id
                rw [hkx]
                rcases hm x hx with hx | rfl
                · exact h.rd x hx ht
                · constructor
                  · intro hh; cases hh
                  · rintro ⟨y, hy, g1, _⟩
                    by_cases c : y.id = 0
                    · have := (h.sk.rt y hy c).1
                      have e' : y.par = id := g1
                      omega
                    · obtain ⟨_, v, hv, g2, _⟩ := h.sk.pa y hy c
                      exact absurd (by rw [g2]; exact g1) (hno v hv)
theorem weight_wf {N : List Nr} (h : WFN N) (k W : Int) : WFN (weightN N k W).2 := by
  unfold weightN
  split
  · exact h
  · rename_i hwf
    have hw : isW W = true := by simpa using hwf
    split
    · exact h
    · rename_i x hg
      obtain ⟨hx, rfl⟩ := gt_mem hg
      split
      · exact h
      · split
        · exact h
        · rename_i p hgp
          obtain ⟨hp, hpi⟩ := gt_mem hgp
          have hb2 := h.now p hp
          have hb3 := h.pn x hx p hp hpi
          have hsc := scale_range (h.pass x hx).1 hb2 (h.wt x hx) hw hb3.1
          have hst := strd_pos hw
          have hskel : Skel (fun x : Nr => { x with pass := scaleN x.pass p.now x.wt W, wt := W }) := ⟨fun _ => rfl, fun _ => rfl, fun _ => rfl⟩
          refine (h.wb.up hx hskel hw rfl ?_ fun q hq e => ?_).wf fun z hz ht => ?_
          · show 0 ≤ scaleN x.pass p.now x.wt W ∧ scaleN x.pass p.now x.wt W ≤ _; omega
          · have := nd_eq h.sk.nd hq hp (by rw [e, hpi]); subst this
            show scaleN x.pass q.now x.wt W ≤ q.now + strd W ∧ (x.rdy = true → q.now ≤ scaleN x.pass q.now x.wt W)
            exact ⟨hsc.2.1, fun hr => hsc.2.2 (hb3.2 hr)⟩
          · have hkx : ∀ g, KX (upN N x.id fun x => { x with pass := scaleN x.pass p.now x.wt W, wt := W }) g ↔ KX N g := fun g => by
              rw [KX_up h.sk hx hskel]
              constructor
              · rintro (⟨y, hy, _, h1⟩ | h1)
                · exact ⟨y, hy, h1⟩
                · exact ⟨x, hx, h1⟩
              · rintro ⟨y, hy, h1⟩
                by_cases e : y.id = x.id
                · have := nd_eq h.sk.nd hy hx e; subst this; exact .inr h1
                · exact .inl ⟨y, hy, e, h1⟩
            rw [hkx]
            obtain ⟨y, hy, ⟨e, rfl⟩ | ⟨e, rfl⟩⟩ := mem_upN.1 hz
            · exact h.rd y hy ht
            · exact h.rd _ hy ht
theorem remove_wf {N : List Nr} (h : WFN N) (k : Int) : WFN (removeN N k).2 := by
  unfold removeN
  split
  · exact h
  · rename_i c1
    split
    · exact h
    · rename_i c2
      obtain ⟨rk, hr⟩ := h.sk.rk
      have hk0 : k ≠ 0 := fun e => c1 (.inr e)
      obtain ⟨x, hg⟩ : ∃ x, gt N k = some x := by cases hc : gt N k with | none => exact absurd (.inl (by rw [hc]; rfl)) c1 | some x => exact ⟨x, rfl⟩
      obtain ⟨hx, rfl⟩ := gt_mem hg
      obtain ⟨hkd, hnp⟩ := kid_none (N := N) (k := x.id) (by simpa using c2)
      have hle := (hr x hx).2.2.1
      have hwf : WFN (restN 6 N x.id) := by
        by_cases hc : x.thr = false → x.rdy = true
        · exact rest_wf 6 h.wb hr hx (by omega) (h.rdx _) hc
        · have hrf : x.rdy = false := by cases hrd : x.rdy with | false => rfl | true => exact absurd (fun _ => hrd) hc
          rw [restN, hg]
          simp only
          rw [if_pos (.inl hrf)]
          exact h
      obtain ⟨g, hg1, hg2, hg3⟩ := restN_map 6 N x.id
      have hoff := rest_off h.sk hg hkd
      have hnp2 : ∀ y ∈ restN 6 N x.id, y.par ≠ x.id := fun y hy => by
        rw [hg3] at hy
        obtain ⟨v, hv, rfl⟩ := List.mem_map.1 hy
        rw [hg1.par]; exact hnp v hv
      generalize restN 6 N x.id = M at hwf hoff hnp2
      have hm : ∀ y, y ∈ M.filter (fun y => !(y.id == x.id)) ↔ y ∈ M ∧ y.id ≠ x.id := fun y => by simp
      show WFN (M.filter (fun y => !(y.id == x.id)))
      refine ⟨hwf.sk.erase hk0 hnp2, fun y hy => hwf.wt y ((hm y).1 hy).1, fun y hy => hwf.now y ((hm y).1 hy).1, fun y hy => hwf.pass y ((hm y).1 hy).1, fun y hy p hp => hwf.pn y ((hm y).1 hy).1 p ((hm p).1 hp).1, fun y hy ht => ?_⟩
      rw [hwf.rd y ((hm y).1 hy).1 ht]
      constructor
      · rintro ⟨z, hz, h1, h2⟩
        exact ⟨z, (hm z).2 ⟨hz, fun e => by rw [hoff z hz e] at h2; cases h2⟩, h1, h2⟩
      · rintro ⟨z, hz, h1⟩; exact ⟨z, ((hm z).1 hz).1, h1⟩
end Go.Proofs.YtfhkgohokbkgiaaGreatDoor
set_option linter.unusedVariables false
set_option linter.unusedSimpArgs false
namespace Go.Proofs.YtfhkgohokbkgiaaGreatDoor
open Go.RowKit G
theorem Sat.addT {t mb : Nat} {T : List Nd} {H : List SP} {x : Nd} {w : World} (h : Sat w (mapS mb (T.map kp ++ [kp x]) :: blk x.b 213 (ndc x) :: idxS x.ib 60 x.q :: blk t 210 [.map (some mb)] :: (nodesL T ++ H))) : Sat w (blk t 210 [.map (some mb)] :: mapS mb ((T ++ [x]).map kp) :: (nodesL (T ++ [x]) ++ H)) := by
 have h1 : Sat w (blk t 210 [.map (some mb)] :: mapS mb (T.map kp ++ [kp x]) :: (nodesL (x :: T) ++ H)) := h.pick 3 rfl
 have h2 : (T ++ [x]).map kp = T.map kp ++ [kp x] := by rw [List.map_append]; rfl
 rw [h2]
 exact Sat.nds (List.perm_append_comm (l₁ := [x]) (l₂ := T)) h1
set_option maxRecDepth 100000 in
theorem add_walk {N : List Nr} {T : List Nd} (hT : OkT N T) (hsk : SK N) (H : List SP) (t mb : Nat) (par id wt : Int) (thr : Bool) : ∀ w, Sat w (blk t 210 [.map (some mb)] :: mapS mb (T.map kp) :: (nodesL T ++ H)) → Calls Tryz.prog 173 #[vp t, vi par, vi id, vi wt, .bool thr] w (Ret (ι := { T' : List Nd // OkT (addN N par id wt thr).2 T' }) (fun _ => pqErr (addN N par id wt thr).1) fun T' => blk t 210 [.map (some mb)] :: mapS mb (T'.1.map kp) :: (nodesL T'.1 ++ H)) := by
 refine enterG (fn := Tryz.f173) 91 [vp t, vi par, vi id, vi wt, .bool thr] Tryz.func173 (by kernel_rfl) (by kernel_rfl) (by kernel_rfl) ?_
 cases hp : gt N par with
 | none =>
  cases hg : gt N id with
  | none =>
   refine Xq (Xg 1 (Xe [(0,vp t), (1,vi par), (2,vi id), (3,vi wt), (4,.bool thr), (10,.nilIface)] ?_ 1))
   refine Xq (Xg 11 (Xl [(0,vp t), (1,vi par), (2,vi id), (3,vi wt), (4,.bool thr), (10,.nilIface), (19,.map (some mb)), (20,vi par)] [(⟨t, 0, none⟩, .map (some mb))] (hasC (ba 0) has0) ?_ 6 5))
   refine Xs (yldS (lookY 207 (.tmp 19) (.tmp 20) true mb par (T.map kp) (.pointer none) (.tuple #[.pointer none, .bool false]) 3 208 (some 21) (fun _ => by kernel_rfl) (by kernel_rfl) (by kernel_rfl) (fun _ => by kernel_rfl) (fun _ => by kernel_rfl) Tryz.underlying207 (by kernel_rfl) (fun _ => by kernel_rfl) (mapAt (H := (blk t 210 [.map (some mb)] :: mapS mb (T.map kp) :: (nodesL T ++ H))) (i := 1) rfl) (by rw [lk_none hT hp]; rfl))) (fun _ => ?_) 5
   refine Xe [(0,vp t), (1,vi par), (2,vi id), (3,vi wt), (4,.bool thr), (10,.nilIface), (11,.pointer none), (12,.bool false)] ?_ 5
   refine Xq (Xg 11 (Xl [(0,vp t), (1,vi par), (2,vi id), (3,vi wt), (4,.bool thr), (10,.nilIface), (11,.pointer none), (12,.bool false), (28,.map (some mb)), (29,vi id)] [(⟨t, 0, none⟩, .map (some mb))] (hasC (ba 0) has0) ?_ 6 5))
   refine Xs (yldS (lookY 207 (.tmp 28) (.tmp 29) true mb id (T.map kp) (.pointer none) (.tuple #[.pointer none, .bool false]) 3 208 (some 30) (fun _ => by kernel_rfl) (by kernel_rfl) (by kernel_rfl) (fun _ => by kernel_rfl) (fun _ => by kernel_rfl) Tryz.underlying207 (by kernel_rfl) (fun _ => by kernel_rfl) (mapAt (H := (blk t 210 [.map (some mb)] :: mapS mb (T.map kp) :: (nodesL T ++ H))) (i := 1) rfl) (by rw [lk_none hT hg]; rfl))) (fun _ => ?_) 5
   refine Xe [(0,vp t), (1,vi par), (2,vi id), (3,vi wt), (4,.bool thr), (10,.nilIface), (11,.pointer none), (12,.bool false), (14,.bool false)] ?_ 5
   refine Xq (Xb 0 (Xq (Xg 8 (Xr [(0,vp t), (1,vi par), (2,vi id), (3,vi wt), (4,.bool thr), (10,.nilIface), (11,.pointer none), (12,.bool false), (14,.bool false), (34,vi wt)] ?_ 7 1))))
   refine Xs (Xa (some 35) (fun _ => .bool (isW wt)) (strIs_walk _ wt)) (fun _ => ?_) 6
   refine Xr [(0,vp t), (1,vi par), (2,vi id), (3,vi wt), (4,.bool thr), (10,.nilIface), (11,.pointer none), (12,.bool false), (14,.bool false), (37,.bool (!(isW wt)))] ?_ 4 2
   refine (Xs0 1 3 [(0,vp t), (1,vi par), (2,vi id), (3,vi wt), (4,.bool thr), (10,.nilIface), (11,.pointer none), (12,.bool false), (14,.bool false), (40,.bool ((!(isW wt)) || (decide (id < 1))))] ?_ ?_ : RT _ _ _ _ _ _ 4 _)
   ·cases hg4 : (!(isW wt)) with
    | true =>
     refine Xe [(0,vp t), (1,vi par), (2,vi id), (3,vi wt), (4,.bool thr), (10,.nilIface), (11,.pointer none), (12,.bool false), (14,.bool false), (40,.bool true)] ?_ 3
     refine Xp [(0,vp t), (1,vi par), (2,vi id), (3,vi wt), (4,.bool thr), (10,.nilIface), (11,.pointer none), (12,.bool false), (14,.bool false), (40,.bool (true || (decide (id < 1))))] ?_
     exact midR () rfl rfl
    | false =>
     refine Xe [(0,vp t), (1,vi par), (2,vi id), (3,vi wt), (4,.bool thr), (10,.nilIface), (11,.pointer none), (12,.bool false), (14,.bool false), (40,.bool (decide (id < 1)))] ?_ 3
     refine Xp [(0,vp t), (1,vi par), (2,vi id), (3,vi wt), (4,.bool thr), (10,.nilIface), (11,.pointer none), (12,.bool false), (14,.bool false), (40,.bool (false || (decide (id < 1))))] ?_
     exact midR () rfl rfl
   refine Xe [(0,vp t), (1,vi par), (2,vi id), (3,vi wt), (4,.bool thr), (10,.nilIface), (11,.pointer none), (12,.bool false), (14,.bool false), (33,.bool ((!(isW wt)) || (decide (id < 1))))] ?_ 1
   refine Xc ((!(isW wt)) || (decide (id < 1))) (fun h1 => ?_) (fun h1 => ?_)
   ·skip
    have hc1 : isW wt = false ∨ id < 1 := by simpa using h1
    have hrn : addN N par id wt thr = (10, N) := by rw [addN, if_pos hc1]
    refine Xq (Xg 2 (Xe [(0,vp t), (1,vi par), (2,vi id), (3,vi wt), (4,.bool thr), (10,.iface 126 (vi 10)), (11,.pointer none)] ?_ 2))
    refine Xv (blockV (thenV (Y0 (.iface 126 (vi 10)) (fun w hs => ?_))))
    exact ⟨⟨T, by rw [hrn]; exact hT⟩, by show _ = Ending.returned (pqErr (addN N par id wt thr).1); rw [hrn]; rfl, hs⟩
   ·skip
    have hc1 : ¬ (isW wt = false ∨ id < 1) := by simpa using h1
    have hrn : addN N par id wt thr = (13, N) := by rw [addN, if_neg hc1, hp]
    refine Xq (Xg 10 (Xe [(0,vp t), (1,vi par), (2,vi id), (3,vi wt), (4,.bool thr), (10,.nilIface), (11,.pointer none), (14,.bool false), (42,.bool true)] ?_ 10))
    refine Xc true (fun _ => ?_) (fun h => by cases h)
    refine Xq (Xg 2 (Xe [(0,vp t), (1,vi par), (2,vi id), (3,vi wt), (4,.bool thr), (10,.iface 126 (vi 13)), (11,.pointer none)] ?_ 2))
    refine Xv (blockV (thenV (Y0 (.iface 126 (vi 13)) (fun w hs => ?_))))
    exact ⟨⟨T, by rw [hrn]; exact hT⟩, by show _ = Ending.returned (pqErr (addN N par id wt thr).1); rw [hrn]; rfl, hs⟩
  | some y =>
   obtain ⟨i, z, hi, hzn, hzk⟩ := hT.get hg
   refine Xq (Xg 1 (Xe [(0,vp t), (1,vi par), (2,vi id), (3,vi wt), (4,.bool thr), (10,.nilIface)] ?_ 1))
   refine Xq (Xg 11 (Xl [(0,vp t), (1,vi par), (2,vi id), (3,vi wt), (4,.bool thr), (10,.nilIface), (19,.map (some mb)), (20,vi par)] [(⟨t, 0, none⟩, .map (some mb))] (hasC (ba 0) has0) ?_ 6 5))
   refine Xs (yldS (lookY 207 (.tmp 19) (.tmp 20) true mb par (T.map kp) (.pointer none) (.tuple #[.pointer none, .bool false]) 3 208 (some 21) (fun _ => by kernel_rfl) (by kernel_rfl) (by kernel_rfl) (fun _ => by kernel_rfl) (fun _ => by kernel_rfl) Tryz.underlying207 (by kernel_rfl) (fun _ => by kernel_rfl) (mapAt (H := (blk t 210 [.map (some mb)] :: mapS mb (T.map kp) :: (nodesL T ++ H))) (i := 1) rfl) (by rw [lk_none hT hp]; rfl))) (fun _ => ?_) 5
   refine Xe [(0,vp t), (1,vi par), (2,vi id), (3,vi wt), (4,.bool thr), (10,.nilIface), (11,.pointer none), (12,.bool false)] ?_ 5
   refine Xq (Xg 11 (Xl [(0,vp t), (1,vi par), (2,vi id), (3,vi wt), (4,.bool thr), (10,.nilIface), (11,.pointer none), (12,.bool false), (28,.map (some mb)), (29,vi id)] [(⟨t, 0, none⟩, .map (some mb))] (hasC (ba 0) has0) ?_ 6 5))
   refine Xs (yldS (lookY 207 (.tmp 28) (.tmp 29) true mb id (T.map kp) (.pointer none) (.tuple #[.pointer (some ⟨z.b, 0, none⟩), .bool true]) 3 208 (some 30) (fun _ => by kernel_rfl) (by kernel_rfl) (by kernel_rfl) (fun _ => by kernel_rfl) (fun _ => by kernel_rfl) Tryz.underlying207 (by kernel_rfl) (fun _ => by kernel_rfl) (mapAt (H := (blk t 210 [.map (some mb)] :: mapS mb (T.map kp) :: (nodesL T ++ H))) (i := 1) rfl) (by rw [lk_some hT hsk.nd hi hzk]; rfl))) (fun _ => ?_) 5
   refine Xe [(0,vp t), (1,vi par), (2,vi id), (3,vi wt), (4,.bool thr), (10,.nilIface), (11,.pointer none), (12,.bool false), (14,.bool true)] ?_ 5
   refine Xq (Xb 0 (Xq (Xg 8 (Xr [(0,vp t), (1,vi par), (2,vi id), (3,vi wt), (4,.bool thr), (10,.nilIface), (11,.pointer none), (12,.bool false), (14,.bool true), (34,vi wt)] ?_ 7 1))))
   refine Xs (Xa (some 35) (fun _ => .bool (isW wt)) (strIs_walk _ wt)) (fun _ => ?_) 6
   refine Xr [(0,vp t), (1,vi par), (2,vi id), (3,vi wt), (4,.bool thr), (10,.nilIface), (11,.pointer none), (12,.bool false), (14,.bool true), (37,.bool (!(isW wt)))] ?_ 4 2
   refine (Xs0 1 3 [(0,vp t), (1,vi par), (2,vi id), (3,vi wt), (4,.bool thr), (10,.nilIface), (11,.pointer none), (12,.bool false), (14,.bool true), (40,.bool ((!(isW wt)) || (decide (id < 1))))] ?_ ?_ : RT _ _ _ _ _ _ 4 _)
   ·cases hg4 : (!(isW wt)) with
    | true =>
     refine Xe [(0,vp t), (1,vi par), (2,vi id), (3,vi wt), (4,.bool thr), (10,.nilIface), (11,.pointer none), (12,.bool false), (14,.bool true), (40,.bool true)] ?_ 3
     refine Xp [(0,vp t), (1,vi par), (2,vi id), (3,vi wt), (4,.bool thr), (10,.nilIface), (11,.pointer none), (12,.bool false), (14,.bool true), (40,.bool (true || (decide (id < 1))))] ?_
     exact midR () rfl rfl
    | false =>
     refine Xe [(0,vp t), (1,vi par), (2,vi id), (3,vi wt), (4,.bool thr), (10,.nilIface), (11,.pointer none), (12,.bool false), (14,.bool true), (40,.bool (decide (id < 1)))] ?_ 3
     refine Xp [(0,vp t), (1,vi par), (2,vi id), (3,vi wt), (4,.bool thr), (10,.nilIface), (11,.pointer none), (12,.bool false), (14,.bool true), (40,.bool (false || (decide (id < 1))))] ?_
     exact midR () rfl rfl
   refine Xe [(0,vp t), (1,vi par), (2,vi id), (3,vi wt), (4,.bool thr), (10,.nilIface), (11,.pointer none), (12,.bool false), (14,.bool true), (33,.bool ((!(isW wt)) || (decide (id < 1))))] ?_ 1
   refine Xc ((!(isW wt)) || (decide (id < 1))) (fun h1 => ?_) (fun h1 => ?_)
   ·skip
    have hc1 : isW wt = false ∨ id < 1 := by simpa using h1
    have hrn : addN N par id wt thr = (10, N) := by rw [addN, if_pos hc1]
    refine Xq (Xg 2 (Xe [(0,vp t), (1,vi par), (2,vi id), (3,vi wt), (4,.bool thr), (10,.iface 126 (vi 10)), (11,.pointer none)] ?_ 2))
    refine Xv (blockV (thenV (Y0 (.iface 126 (vi 10)) (fun w hs => ?_))))
    exact ⟨⟨T, by rw [hrn]; exact hT⟩, by show _ = Ending.returned (pqErr (addN N par id wt thr).1); rw [hrn]; rfl, hs⟩
   ·skip
    have hc1 : ¬ (isW wt = false ∨ id < 1) := by simpa using h1
    have hrn : addN N par id wt thr = (13, N) := by rw [addN, if_neg hc1, hp]
    refine Xq (Xg 10 (Xe [(0,vp t), (1,vi par), (2,vi id), (3,vi wt), (4,.bool thr), (10,.nilIface), (11,.pointer none), (14,.bool true), (42,.bool true)] ?_ 10))
    refine Xc true (fun _ => ?_) (fun h => by cases h)
    refine Xq (Xg 2 (Xe [(0,vp t), (1,vi par), (2,vi id), (3,vi wt), (4,.bool thr), (10,.iface 126 (vi 13)), (11,.pointer none)] ?_ 2))
    refine Xv (blockV (thenV (Y0 (.iface 126 (vi 13)) (fun w hs => ?_))))
    exact ⟨⟨T, by rw [hrn]; exact hT⟩, by show _ = Ending.returned (pqErr (addN N par id wt thr).1); rw [hrn]; rfl, hs⟩
 | some p0 =>
  obtain ⟨j, p, hj, hpn, hpk⟩ := hT.get hp
  cases hg : gt N id with
  | none =>
   refine Xq (Xg 1 (Xe [(0,vp t), (1,vi par), (2,vi id), (3,vi wt), (4,.bool thr), (10,.nilIface)] ?_ 1))
   refine Xq (Xg 11 (Xl [(0,vp t), (1,vi par), (2,vi id), (3,vi wt), (4,.bool thr), (10,.nilIface), (19,.map (some mb)), (20,vi par)] [(⟨t, 0, none⟩, .map (some mb))] (hasC (ba 0) has0) ?_ 6 5))
   refine Xs (yldS (lookY 207 (.tmp 19) (.tmp 20) true mb par (T.map kp) (.pointer none) (.tuple #[.pointer (some ⟨p.b, 0, none⟩), .bool true]) 3 208 (some 21) (fun _ => by kernel_rfl) (by kernel_rfl) (by kernel_rfl) (fun _ => by kernel_rfl) (fun _ => by kernel_rfl) Tryz.underlying207 (by kernel_rfl) (fun _ => by kernel_rfl) (mapAt (H := (blk t 210 [.map (some mb)] :: mapS mb (T.map kp) :: (nodesL T ++ H))) (i := 1) rfl) (by rw [lk_some hT hsk.nd hj hpk]; rfl))) (fun _ => ?_) 5
   refine Xe [(0,vp t), (1,vi par), (2,vi id), (3,vi wt), (4,.bool thr), (10,.nilIface), (11,.pointer (some ⟨p.b, 0, none⟩)), (12,.bool true)] ?_ 5
   refine Xq (Xg 11 (Xl [(0,vp t), (1,vi par), (2,vi id), (3,vi wt), (4,.bool thr), (10,.nilIface), (11,.pointer (some ⟨p.b, 0, none⟩)), (12,.bool true), (28,.map (some mb)), (29,vi id)] [(⟨t, 0, none⟩, .map (some mb))] (hasC (ba 0) has0) ?_ 6 5))
   refine Xs (yldS (lookY 207 (.tmp 28) (.tmp 29) true mb id (T.map kp) (.pointer none) (.tuple #[.pointer none, .bool false]) 3 208 (some 30) (fun _ => by kernel_rfl) (by kernel_rfl) (by kernel_rfl) (fun _ => by kernel_rfl) (fun _ => by kernel_rfl) Tryz.underlying207 (by kernel_rfl) (fun _ => by kernel_rfl) (mapAt (H := (blk t 210 [.map (some mb)] :: mapS mb (T.map kp) :: (nodesL T ++ H))) (i := 1) rfl) (by rw [lk_none hT hg]; rfl))) (fun _ => ?_) 5
   refine Xe [(0,vp t), (1,vi par), (2,vi id), (3,vi wt), (4,.bool thr), (10,.nilIface), (11,.pointer (some ⟨p.b, 0, none⟩)), (12,.bool true), (14,.bool false)] ?_ 5
   refine Xq (Xb 0 (Xq (Xg 8 (Xr [(0,vp t), (1,vi par), (2,vi id), (3,vi wt), (4,.bool thr), (10,.nilIface), (11,.pointer (some ⟨p.b, 0, none⟩)), (12,.bool true), (14,.bool false), (34,vi wt)] ?_ 7 1))))
   refine Xs (Xa (some 35) (fun _ => .bool (isW wt)) (strIs_walk _ wt)) (fun _ => ?_) 6
   refine Xr [(0,vp t), (1,vi par), (2,vi id), (3,vi wt), (4,.bool thr), (10,.nilIface), (11,.pointer (some ⟨p.b, 0, none⟩)), (12,.bool true), (14,.bool false), (37,.bool (!(isW wt)))] ?_ 4 2
   refine (Xs0 1 3 [(0,vp t), (1,vi par), (2,vi id), (3,vi wt), (4,.bool thr), (10,.nilIface), (11,.pointer (some ⟨p.b, 0, none⟩)), (12,.bool true), (14,.bool false), (40,.bool ((!(isW wt)) || (decide (id < 1))))] ?_ ?_ : RT _ _ _ _ _ _ 4 _)
   ·cases hg4 : (!(isW wt)) with
    | true =>
     refine Xe [(0,vp t), (1,vi par), (2,vi id), (3,vi wt), (4,.bool thr), (10,.nilIface), (11,.pointer (some ⟨p.b, 0, none⟩)), (12,.bool true), (14,.bool false), (40,.bool true)] ?_ 3
     refine Xp [(0,vp t), (1,vi par), (2,vi id), (3,vi wt), (4,.bool thr), (10,.nilIface), (11,.pointer (some ⟨p.b, 0, none⟩)), (12,.bool true), (14,.bool false), (40,.bool (true || (decide (id < 1))))] ?_
     exact midR () rfl rfl
    | false =>
     refine Xe [(0,vp t), (1,vi par), (2,vi id), (3,vi wt), (4,.bool thr), (10,.nilIface), (11,.pointer (some ⟨p.b, 0, none⟩)), (12,.bool true), (14,.bool false), (40,.bool (decide (id < 1)))] ?_ 3
     refine Xp [(0,vp t), (1,vi par), (2,vi id), (3,vi wt), (4,.bool thr), (10,.nilIface), (11,.pointer (some ⟨p.b, 0, none⟩)), (12,.bool true), (14,.bool false), (40,.bool (false || (decide (id < 1))))] ?_
     exact midR () rfl rfl
   refine Xe [(0,vp t), (1,vi par), (2,vi id), (3,vi wt), (4,.bool thr), (10,.nilIface), (11,.pointer (some ⟨p.b, 0, none⟩)), (12,.bool true), (14,.bool false), (33,.bool ((!(isW wt)) || (decide (id < 1))))] ?_ 1
   refine Xc ((!(isW wt)) || (decide (id < 1))) (fun h1 => ?_) (fun h1 => ?_)
   ·skip
    have hc1 : isW wt = false ∨ id < 1 := by simpa using h1
    have hrn : addN N par id wt thr = (10, N) := by rw [addN, if_pos hc1]
    refine Xq (Xg 2 (Xe [(0,vp t), (1,vi par), (2,vi id), (3,vi wt), (4,.bool thr), (10,.iface 126 (vi 10)), (11,.pointer (some ⟨p.b, 0, none⟩))] ?_ 2))
    refine Xv (blockV (thenV (Y0 (.iface 126 (vi 10)) (fun w hs => ?_))))
    exact ⟨⟨T, by rw [hrn]; exact hT⟩, by show _ = Ending.returned (pqErr (addN N par id wt thr).1); rw [hrn]; rfl, hs⟩
   ·skip
    have hc1 : ¬ (isW wt = false ∨ id < 1) := by simpa using h1
    refine Xq (Xg 10 (Xm [(0,vp t), (1,vi par), (2,vi id), (3,vi wt), (4,.bool thr), (10,.nilIface), (11,.pointer (some ⟨p.b, 0, none⟩)), (14,.bool false), (42,.bool p.n.thr)] [(⟨p.b, 4, none⟩, .bool p.n.thr)] (hasC (up (up (nodeAt (T := T) (List.mem_of_getElem? hj) (j := 4) rfl))) has0) ?_ 10))
    refine Xc (p.n.thr) (fun h2 => ?_) (fun h2 => ?_)
    ·skip
     have hth : p0.thr = true := by rw [← hpn]; simpa using h2
     have hrn : addN N par id wt thr = (13, N) := by rw [addN, if_neg hc1, hp]; simp only [if_pos hth]
     refine Xq (Xg 2 (Xe [(0,vp t), (1,vi par), (2,vi id), (3,vi wt), (4,.bool thr), (10,.iface 126 (vi 13)), (11,.pointer (some ⟨p.b, 0, none⟩))] ?_ 2))
     refine Xv (blockV (thenV (Y0 (.iface 126 (vi 13)) (fun w hs => ?_))))
     exact ⟨⟨T, by rw [hrn]; exact hT⟩, by show _ = Ending.returned (pqErr (addN N par id wt thr).1); rw [hrn]; rfl, hs⟩
    ·skip
     have hth : ¬ p0.thr = true := by rw [← hpn]; simpa using h2
     refine Xq (Xg 2 (Xe [(0,vp t), (1,vi par), (2,vi id), (3,vi wt), (4,.bool thr), (10,.nilIface), (11,.pointer (some ⟨p.b, 0, none⟩)), (53,.bool false)] ?_ 2))
     refine Xc false (fun h => by cases h) (fun _ => ?_)
     refine Xq (Xg 9 (Xr [(0,vp t), (1,vi par), (2,vi id), (3,vi wt), (4,.bool thr), (10,.nilIface), (11,.pointer (some ⟨p.b, 0, none⟩)), (59,.bool (!thr))] ?_ 6 3))
     refine (Xs0 1 5 [(0,vp t), (1,vi par), (2,vi id), (3,vi wt), (4,.bool thr), (10,.nilIface), (11,.pointer (some ⟨p.b, 0, none⟩)), (64,.bool ((!thr) && (decide ((deepN 6 N par : Int) ≥ 4))))] ?_ ?_ : RT _ _ _ _ _ _ 6 _)
     ·cases hg3 : (!thr) with
      | true =>
       refine Xr [(0,vp t), (1,vi par), (2,vi id), (3,vi wt), (4,.bool thr), (10,.nilIface), (11,.pointer (some ⟨p.b, 0, none⟩)), (59,.bool true), (60,vp t), (61,vi par)] ?_ 3 2
       refine Xs (Xa (some 62) (fun _ => vi (deepN 6 N par : Int)) (deep_walk hT hsk H t mb par)) (fun _ => ?_) 2
       refine Xe [(0,vp t), (1,vi par), (2,vi id), (3,vi wt), (4,.bool thr), (10,.nilIface), (11,.pointer (some ⟨p.b, 0, none⟩)), (64,.bool (decide ((deepN 6 N par : Int) ≥ 4)))] ?_ 2
       refine Xp [(0,vp t), (1,vi par), (2,vi id), (3,vi wt), (4,.bool thr), (10,.nilIface), (11,.pointer (some ⟨p.b, 0, none⟩)), (64,.bool (true && (decide ((deepN 6 N par : Int) ≥ 4))))] ?_
       exact midR () rfl rfl
      | false =>
       refine Xe [(0,vp t), (1,vi par), (2,vi id), (3,vi wt), (4,.bool thr), (10,.nilIface), (11,.pointer (some ⟨p.b, 0, none⟩)), (64,.bool false)] ?_ 5
       refine Xp [(0,vp t), (1,vi par), (2,vi id), (3,vi wt), (4,.bool thr), (10,.nilIface), (11,.pointer (some ⟨p.b, 0, none⟩)), (64,.bool (false && (decide ((deepN 6 N par : Int) ≥ 4))))] ?_
       exact midR () rfl rfl
     refine Xe [(0,vp t), (1,vi par), (2,vi id), (3,vi wt), (4,.bool thr), (10,.nilIface), (11,.pointer (some ⟨p.b, 0, none⟩)), (56,.bool ((!thr) && (decide ((deepN 6 N par : Int) ≥ 4))))] ?_ 1
     refine Xc ((!thr) && (decide ((deepN 6 N par : Int) ≥ 4))) (fun h3 => ?_) (fun h3 => ?_)
     ·skip
      have hc3 : thr = false ∧ 4 ≤ deepN 6 N par := by simp at h3; exact ⟨h3.1, by omega⟩
      have hrn : addN N par id wt thr = (12, N) := by rw [addN, if_neg hc1, hp]; simp only [if_neg hth]; rw [if_neg (by rw [hg]; simp), if_pos hc3]
      refine Xq (Xg 2 (Xe [(0,vp t), (1,vi par), (2,vi id), (3,vi wt), (4,.bool thr), (10,.iface 126 (vi 12)), (11,.pointer (some ⟨p.b, 0, none⟩))] ?_ 2))
      refine Xv (blockV (thenV (Y0 (.iface 126 (vi 12)) (fun w hs => ?_))))
      exact ⟨⟨T, by rw [hrn]; exact hT⟩, by show _ = Ending.returned (pqErr (addN N par id wt thr).1); rw [hrn]; rfl, hs⟩
     ·skip
      have hc3 : ¬ (thr = false ∧ 4 ≤ deepN 6 N par) := fun hc => by rw [hc.1] at h3; simp at h3; omega
      refine Xq (Xg 7 (Xl [(0,vp t), (1,vi par), (2,vi id), (3,vi wt), (4,.bool thr), (10,.nilIface), (11,.pointer (some ⟨p.b, 0, none⟩)), (70,.map (some mb))] [(⟨t, 0, none⟩, .map (some mb))] (hasC (ba 0) has0) ?_ 3 4))
      refine Xs (yldS (mlenY 207 3 208 (.tmp 70) mb (T.map kp) (some 71) (fun _ => by kernel_rfl) (by kernel_rfl) (by kernel_rfl) (fun _ => by kernel_rfl) Tryz.underlying207 (mapAt (H := (blk t 210 [.map (some mb)] :: mapS mb (T.map kp) :: (nodesL T ++ H))) (i := 1) rfl))) (fun _ => ?_) 2
      refine Xe [(0,vp t), (1,vi par), (2,vi id), (3,vi wt), (4,.bool thr), (10,.nilIface), (11,.pointer (some ⟨p.b, 0, none⟩)), (66,.bool (decide (((T.map kp).length : Int) ≥ 60)))] ?_ 2
      refine Xc (decide (((T.map kp).length : Int) ≥ 60)) (fun h4 => ?_) (fun h4 => ?_)
      ·skip
       have hc4 : 60 ≤ N.length := by have := hT.len; simp at h4; omega
       have hrn : addN N par id wt thr = (14, N) := by rw [addN, if_neg hc1, hp]; simp only [if_neg hth]; rw [if_neg (by rw [hg]; simp), if_neg hc3, if_pos hc4]
       refine Xq (Xg 2 (Xe [(0,vp t), (1,vi par), (2,vi id), (3,vi wt), (4,.bool thr), (10,.iface 126 (vi 14)), (11,.pointer (some ⟨p.b, 0, none⟩))] ?_ 2))
       refine Xv (blockV (thenV (Y0 (.iface 126 (vi 14)) (fun w hs => ?_))))
       exact ⟨⟨T, by rw [hrn]; exact hT⟩, by show _ = Ending.returned (pqErr (addN N par id wt thr).1); rw [hrn]; rfl, hs⟩
      ·skip
       have hc4 : ¬ 60 ≤ N.length := by have := hT.len; simp at h4; omega
       have hrn : addN N par id wt thr = (0, N ++ [{ id := id, par := par, wt := wt, pass := p0.now, thr := thr, rdy := false, now := 0 }]) := by rw [addN, if_neg hc1, hp]; simp only [if_neg hth]; rw [if_neg (by rw [hg]; simp), if_neg hc3, if_neg hc4]
       refine Xk (Xq (Xy0 0 [17] 18 ?_))
       refine Xt [0, 1, 2, 3, 4, 5, 6, 7, 8, 9, 10, 11, 12, 13] [(10,.nilIface), (77,.map (some mb)), (78,vi id), (87,.agg #[vi id, vi par, vi wt, vi p.n.now, .bool thr, .bool false])] [(⟨t, 0, none⟩, .map (some mb)), (⟨p.b, 6, none⟩, vi p.n.now)] (hasC (ba 0) (hasC (up (up (nodeAt (T := T) (List.mem_of_getElem? hj) (j := 6) rfl))) has0)) ?_
       refine Xo 14 (Xa (some 88) (fun (ib : Nat) => vp ib) (new_walk _ 60)) (fun (ib : Nat) => ?_)
       refine Xt [15] [(10,.nilIface), (77,.map (some mb)), (78,vi id), (89,.agg #[vi id, vi par, vi wt, vi p.n.now, .bool thr, .bool false, vi 0, vp ib])] [] has0 ?_
       refine Xo 16 (Xn 213 [vi id, vi par, vi wt, vi p.n.now, .bool thr, .bool false, vi 0, vp ib] (some 90) (fun b => vp b)) (fun b1 => ?_)
       refine DT.pick 3 rfl ?_
       refine Xo 17 (updS 207 (.tmp 77) (.tmp 78) (.tmp 90) mb id (T.map kp) (.pointer (some ⟨b1, 0, none⟩)) 3 208 (fun _ => by kernel_rfl) (by kernel_rfl) (.inl (by kernel_rfl)) (fun _ => by kernel_rfl) (fun _ => by kernel_rfl) (fun _ => by kernel_rfl) Tryz.underlying207 (by kernel_rfl) (lk_none hT hg)) (fun _ => ?_)
       refine Xd (Xq (Xg 1 (Xe [(10,.nilIface)] ?_ 1)))
       refine Xv ?_
       have hpm := gt_mem hp
       have hno := gt_none.1 hg
       have hid : 1 ≤ id := by have : ¬ id < 1 := fun h => hc1 (.inr h); omega
       refine Y0 (.nilIface) (fun w hs => ?_)
       exact ⟨⟨T ++ [⟨{ id := id, par := par, wt := wt, pass := p0.now, thr := thr, rdy := false, now := 0 }, [], b1, ib⟩], by rw [hrn]; exact hT.add hsk hpm.1 hpm.2 hid hno rfl b1 ib⟩, by show _ = Ending.returned (pqErr (addN N par id wt thr).1); rw [hrn]; rfl, Sat.addT (x := ⟨{ id := id, par := par, wt := wt, pass := p0.now, thr := thr, rdy := false, now := 0 }, [], b1, ib⟩) (by rw [← hpn]; exact hs)⟩
  | some y =>
   obtain ⟨i, z, hi, hzn, hzk⟩ := hT.get hg
   refine Xq (Xg 1 (Xe [(0,vp t), (1,vi par), (2,vi id), (3,vi wt), (4,.bool thr), (10,.nilIface)] ?_ 1))
   refine Xq (Xg 11 (Xl [(0,vp t), (1,vi par), (2,vi id), (3,vi wt), (4,.bool thr), (10,.nilIface), (19,.map (some mb)), (20,vi par)] [(⟨t, 0, none⟩, .map (some mb))] (hasC (ba 0) has0) ?_ 6 5))
   refine Xs (yldS (lookY 207 (.tmp 19) (.tmp 20) true mb par (T.map kp) (.pointer none) (.tuple #[.pointer (some ⟨p.b, 0, none⟩), .bool true]) 3 208 (some 21) (fun _ => by kernel_rfl) (by kernel_rfl) (by kernel_rfl) (fun _ => by kernel_rfl) (fun _ => by kernel_rfl) Tryz.underlying207 (by kernel_rfl) (fun _ => by kernel_rfl) (mapAt (H := (blk t 210 [.map (some mb)] :: mapS mb (T.map kp) :: (nodesL T ++ H))) (i := 1) rfl) (by rw [lk_some hT hsk.nd hj hpk]; rfl))) (fun _ => ?_) 5
   refine Xe [(0,vp t), (1,vi par), (2,vi id), (3,vi wt), (4,.bool thr), (10,.nilIface), (11,.pointer (some ⟨p.b, 0, none⟩)), (12,.bool true)] ?_ 5
   refine Xq (Xg 11 (Xl [(0,vp t), (1,vi par), (2,vi id), (3,vi wt), (4,.bool thr), (10,.nilIface), (11,.pointer (some ⟨p.b, 0, none⟩)), (12,.bool true), (28,.map (some mb)), (29,vi id)] [(⟨t, 0, none⟩, .map (some mb))] (hasC (ba 0) has0) ?_ 6 5))
   refine Xs (yldS (lookY 207 (.tmp 28) (.tmp 29) true mb id (T.map kp) (.pointer none) (.tuple #[.pointer (some ⟨z.b, 0, none⟩), .bool true]) 3 208 (some 30) (fun _ => by kernel_rfl) (by kernel_rfl) (by kernel_rfl) (fun _ => by kernel_rfl) (fun _ => by kernel_rfl) Tryz.underlying207 (by kernel_rfl) (fun _ => by kernel_rfl) (mapAt (H := (blk t 210 [.map (some mb)] :: mapS mb (T.map kp) :: (nodesL T ++ H))) (i := 1) rfl) (by rw [lk_some hT hsk.nd hi hzk]; rfl))) (fun _ => ?_) 5
   refine Xe [(0,vp t), (1,vi par), (2,vi id), (3,vi wt), (4,.bool thr), (10,.nilIface), (11,.pointer (some ⟨p.b, 0, none⟩)), (12,.bool true), (14,.bool true)] ?_ 5
   refine Xq (Xb 0 (Xq (Xg 8 (Xr [(0,vp t), (1,vi par), (2,vi id), (3,vi wt), (4,.bool thr), (10,.nilIface), (11,.pointer (some ⟨p.b, 0, none⟩)), (12,.bool true), (14,.bool true), (34,vi wt)] ?_ 7 1))))
   refine Xs (Xa (some 35) (fun _ => .bool (isW wt)) (strIs_walk _ wt)) (fun _ => ?_) 6
   refine Xr [(0,vp t), (1,vi par), (2,vi id), (3,vi wt), (4,.bool thr), (10,.nilIface), (11,.pointer (some ⟨p.b, 0, none⟩)), (12,.bool true), (14,.bool true), (37,.bool (!(isW wt)))] ?_ 4 2
   refine (Xs0 1 3 [(0,vp t), (1,vi par), (2,vi id), (3,vi wt), (4,.bool thr), (10,.nilIface), (11,.pointer (some ⟨p.b, 0, none⟩)), (12,.bool true), (14,.bool true), (40,.bool ((!(isW wt)) || (decide (id < 1))))] ?_ ?_ : RT _ _ _ _ _ _ 4 _)
   ·cases hg4 : (!(isW wt)) with
    | true =>
     refine Xe [(0,vp t), (1,vi par), (2,vi id), (3,vi wt), (4,.bool thr), (10,.nilIface), (11,.pointer (some ⟨p.b, 0, none⟩)), (12,.bool true), (14,.bool true), (40,.bool true)] ?_ 3
     refine Xp [(0,vp t), (1,vi par), (2,vi id), (3,vi wt), (4,.bool thr), (10,.nilIface), (11,.pointer (some ⟨p.b, 0, none⟩)), (12,.bool true), (14,.bool true), (40,.bool (true || (decide (id < 1))))] ?_
     exact midR () rfl rfl
    | false =>
     refine Xe [(0,vp t), (1,vi par), (2,vi id), (3,vi wt), (4,.bool thr), (10,.nilIface), (11,.pointer (some ⟨p.b, 0, none⟩)), (12,.bool true), (14,.bool true), (40,.bool (decide (id < 1)))] ?_ 3
     refine Xp [(0,vp t), (1,vi par), (2,vi id), (3,vi wt), (4,.bool thr), (10,.nilIface), (11,.pointer (some ⟨p.b, 0, none⟩)), (12,.bool true), (14,.bool true), (40,.bool (false || (decide (id < 1))))] ?_
     exact midR () rfl rfl
   refine Xe [(0,vp t), (1,vi par), (2,vi id), (3,vi wt), (4,.bool thr), (10,.nilIface), (11,.pointer (some ⟨p.b, 0, none⟩)), (12,.bool true), (14,.bool true), (33,.bool ((!(isW wt)) || (decide (id < 1))))] ?_ 1
   refine Xc ((!(isW wt)) || (decide (id < 1))) (fun h1 => ?_) (fun h1 => ?_)
   ·skip
    have hc1 : isW wt = false ∨ id < 1 := by simpa using h1
    have hrn : addN N par id wt thr = (10, N) := by rw [addN, if_pos hc1]
    refine Xq (Xg 2 (Xe [(0,vp t), (1,vi par), (2,vi id), (3,vi wt), (4,.bool thr), (10,.iface 126 (vi 10)), (11,.pointer (some ⟨p.b, 0, none⟩))] ?_ 2))
    refine Xv (blockV (thenV (Y0 (.iface 126 (vi 10)) (fun w hs => ?_))))
    exact ⟨⟨T, by rw [hrn]; exact hT⟩, by show _ = Ending.returned (pqErr (addN N par id wt thr).1); rw [hrn]; rfl, hs⟩
   ·skip
    have hc1 : ¬ (isW wt = false ∨ id < 1) := by simpa using h1
    refine Xq (Xg 10 (Xm [(0,vp t), (1,vi par), (2,vi id), (3,vi wt), (4,.bool thr), (10,.nilIface), (11,.pointer (some ⟨p.b, 0, none⟩)), (14,.bool true), (42,.bool p.n.thr)] [(⟨p.b, 4, none⟩, .bool p.n.thr)] (hasC (up (up (nodeAt (T := T) (List.mem_of_getElem? hj) (j := 4) rfl))) has0) ?_ 10))
    refine Xc (p.n.thr) (fun h2 => ?_) (fun h2 => ?_)
    ·skip
     have hth : p0.thr = true := by rw [← hpn]; simpa using h2
     have hrn : addN N par id wt thr = (13, N) := by rw [addN, if_neg hc1, hp]; simp only [if_pos hth]
     refine Xq (Xg 2 (Xe [(0,vp t), (1,vi par), (2,vi id), (3,vi wt), (4,.bool thr), (10,.iface 126 (vi 13)), (11,.pointer (some ⟨p.b, 0, none⟩))] ?_ 2))
     refine Xv (blockV (thenV (Y0 (.iface 126 (vi 13)) (fun w hs => ?_))))
     exact ⟨⟨T, by rw [hrn]; exact hT⟩, by show _ = Ending.returned (pqErr (addN N par id wt thr).1); rw [hrn]; rfl, hs⟩
    ·skip
     have hth : ¬ p0.thr = true := by rw [← hpn]; simpa using h2
     have hrn : addN N par id wt thr = (20, N) := by rw [addN, if_neg hc1, hp]; simp only [if_neg hth]; rw [if_pos (by rw [hg]; rfl)]
     refine Xq (Xg 2 (Xe [(0,vp t), (1,vi par), (2,vi id), (3,vi wt), (4,.bool thr), (10,.nilIface), (11,.pointer (some ⟨p.b, 0, none⟩)), (53,.bool true)] ?_ 2))
     refine Xc true (fun _ => ?_) (fun h => by cases h)
     refine Xq (Xg 2 (Xe [(0,vp t), (1,vi par), (2,vi id), (3,vi wt), (4,.bool thr), (10,.iface 126 (vi 20)), (11,.pointer (some ⟨p.b, 0, none⟩))] ?_ 2))
     refine Xv (blockV (thenV (Y0 (.iface 126 (vi 20)) (fun w hs => ?_))))
     exact ⟨⟨T, by rw [hrn]; exact hT⟩, by show _ = Ending.returned (pqErr (addN N par id wt thr).1); rw [hrn]; rfl, hs⟩
end Go.Proofs.YtfhkgohokbkgiaaGreatDoor
set_option linter.unusedVariables false
set_option linter.unusedSimpArgs false
namespace Go.Proofs.YtfhkgohokbkgiaaGreatDoor
open Go.RowKit G
def shT (k P : Int) (z : Nd) : Nd := { z with n := shG k P z.n }
theorem shG_no {k P : Int} {x : Nr} (h : x.par ≠ k) : shG k P x = x := by unfold shG; rw [if_neg (by simpa using h)]
theorem shT_no {k P : Int} {z : Nd} (h : z.n.par ≠ k) : shT k P z = z := by unfold shT; rw [shG_no h]
def shQ (q : List (Int × Int)) (P : Int) : List (Int × Int) := q.map fun e => (mxI 0 (e.1 - P), e.2)
theorem KD_shift {N : List Nr} (hs : SK N) {g : Nr} (hg : g ∈ N) {j p k : Int} : KD (upN (N.map (shG g.id g.now)) g.id (nwF 0)) j p k ↔ ∃ v ∈ N, v.par = j ∧ v.rdy = true ∧ ((v.par = g.id ∧ p = mxI 0 (v.pass - g.now)) ∨ (v.par ≠ g.id ∧ p = v.pass)) ∧ v.id = k := by
 constructor
 ·rintro ⟨z, hz, h1, h2, h3, h4⟩
  obtain ⟨v, hv, e1, e2, _, e4, _, _, e6⟩ := mem_shift hs hg hz
  exact ⟨v, hv, by rw [← e2, h1], by rw [← e4, h2], by rw [← h3]; exact e6, by rw [← e1, h4]⟩
 ·rintro ⟨v, hv, h1, h2, h3, h4⟩
  have e0 : (shG g.id g.now v).rdy = v.rdy ∧ (shG g.id g.now v).pass = p := by
   unfold shG
   rcases h3 with ⟨c, h3⟩ | ⟨c, h3⟩
   ·rw [if_pos (by simpa using c)]; exact ⟨rfl, h3.symm⟩
   ·rw [if_neg (by simpa using c)]; exact ⟨rfl, h3.symm⟩
  have e1 := shG_skel g.id g.now
  by_cases c : v.id = g.id
  ·exact ⟨nwF 0 (shG g.id g.now v), mem_upN.2 ⟨_, List.mem_map.2 ⟨v, hv, rfl⟩, .inl ⟨by rw [e1.id, c], rfl⟩⟩, by show (shG g.id g.now v).par = j; rw [e1.par, h1], by show (shG g.id g.now v).rdy = true; rw [e0.1, h2], e0.2, by show (shG g.id g.now v).id = k; rw [e1.id, h4]⟩
  ·exact ⟨shG g.id g.now v, mem_upN.2 ⟨_, List.mem_map.2 ⟨v, hv, rfl⟩, .inr ⟨by rw [e1.id]; exact c, rfl⟩⟩, by rw [e1.par, h1], by rw [e0.1, h2], e0.2, by rw [e1.id, h4]⟩
theorem shift_round {N : List Nr} {T : List Nd} (hT : OkT N T) (hs : SK N) (hb : LB N) (hpn : PN N) {i : Nat} {g : Nd} (hi : T[i]? = some g) (hbig : 16777216 < g.n.now) :
  shiftE g.q g.n.now = shQ g.q g.n.now ∧ SrtE (shQ g.q g.n.now) ∧ g.q.length ≤ 64 ∧ (T.map (shT g.n.id g.n.now))[i]? = some g ∧
  OkT (shiftN N g.n.id) ((T.map (shT g.n.id g.n.now)).set i { g with n := nwF 0 g.n, q := shQ g.q g.n.now }) ∧ SameT T ((T.map (shT g.n.id g.n.now)).set i { g with n := nwF 0 g.n, q := shQ g.q g.n.now }) := by
 have hm := List.mem_of_getElem? hi
 have hgN := hT.mem_n hm
 have hgn := hb.now g.n hgN
 have hq : ∀ e ∈ g.q, g.n.now ≤ e.1 ∧ e.1 ≤ 1099511627776 := fun e he => by
  obtain ⟨p, k⟩ := e
  obtain ⟨y, hy, h1, h2, h3, _⟩ := (hT.mem g hm p k).1 he
  have a1 := hpn y hy g.n hgN h1.symm h2
  have a2 := hb.pass y hy
  simp only; omega
 have hgi : (T.map (shT g.n.id g.n.now))[i]? = some g := by
  rw [List.getElem?_map, hi, Option.map_some, shT_no (fun e => hs.ne_par hgN e.symm)]
 have hsame : SameT T (T.map (shT g.n.id g.n.now)) := by
  unfold SameT
  rw [List.map_map]
  refine List.map_congr_left fun z _ => ?_
  simp only [Function.comp, shT]
  rw [(shG_skel _ _).id]
 refine ⟨?_, ?_, by have := hT.qlen hs hm; omega, hgi, ?_, hsame.trans (SameT.set hgi ⟨rfl, rfl, rfl⟩)⟩
 ·refine List.map_congr_left fun e he => ?_
  have := hq e he
  have e1 : shN g.n.now = g.n.now := by unfold shN mnI mxI; repeat' split <;> omega
  rw [e1, w64 (by omega) (by omega)]
 ·unfold shQ SrtE
  rw [List.pairwise_map]
  refine (hT.srt g hm).imp_of_mem fun {a b} ha hb h => ?_
  have h1 := hq a ha
  have h2 := hq b hb
  have e1 : mxI 0 (a.1 - g.n.now) = a.1 - g.n.now := by unfold mxI; split <;> omega
  have e2 : mxI 0 (b.1 - g.n.now) = b.1 - g.n.now := by unfold mxI; split <;> omega
  unfold eLt at h ⊢
  simp only [e1, e2]
  omega
 ·rw [shiftN_eq hs.nd hgN hbig]
  have hsk := hs.map _ (shG_skel g.n.id g.n.now)
  refine ⟨set_up (N := N.map (shG g.n.id g.n.now)) (by rw [← hT.n, List.map_map, List.map_map]; rfl) hsk.nd hgi (nwF 0) _ rfl, fun z hz => ?_, fun z hz p k => ?_⟩
  ·rcases List.mem_or_eq_of_mem_set hz with hz | rfl
   ·obtain ⟨v, hv, rfl⟩ := List.mem_map.1 hz
    exact hT.srt v hv
   ·unfold shQ SrtE
    rw [List.pairwise_map]
    refine (hT.srt g hm).imp_of_mem fun {a b} ha hb h => ?_
    have h1 := hq a ha
    have h2 := hq b hb
    have e1 : mxI 0 (a.1 - g.n.now) = a.1 - g.n.now := by unfold mxI; split <;> omega
    have e2 : mxI 0 (b.1 - g.n.now) = b.1 - g.n.now := by unfold mxI; split <;> omega
    unfold eLt at h ⊢
    simp only [e1, e2]
    omega
  ·show (p, k) ∈ z.q ↔ KD _ z.n.id p k
   rw [KD_shift hs hgN]
   obtain ⟨l, hl⟩ := List.mem_iff_getElem?.1 hz
   rw [List.getElem?_set] at hl
   by_cases c : i = l
   ·subst c
    rw [if_pos rfl] at hl
    split at hl
    ·cases hl
     show (p, k) ∈ shQ g.q g.n.now ↔ ∃ v ∈ N, v.par = g.n.id ∧ _
     simp only [shQ, List.mem_map, Prod.mk.injEq]
     constructor
     ·rintro ⟨⟨p0, k0⟩, he, h1, h2⟩
      obtain ⟨y, hy, g1, g2, g3, g4⟩ := (hT.mem g hm p0 k0).1 he
      exact ⟨y, hy, g1, g2, .inl ⟨g1, by rw [g3]; exact h1.symm⟩, by rw [g4]; exact h2⟩
     ·rintro ⟨v, hv, g1, g2, g3, g4⟩
      rcases g3 with ⟨_, g3⟩ | ⟨g3, _⟩
      ·exact ⟨(v.pass, v.id), (hT.mem g hm _ _).2 ⟨v, hv, g1, g2, rfl, rfl⟩, g3.symm, g4⟩
      ·exact absurd g1 g3
    ·cases hl
   ·rw [if_neg c, List.getElem?_map] at hl
    obtain ⟨z0, hz0, rfl⟩ := Option.map_eq_some_iff.1 hl
    have hne : z0.n.id ≠ g.n.id := fun e => c (hT.ix hs.nd hi hz0 e.symm)
    show (p, k) ∈ z0.q ↔ ∃ v ∈ N, v.par = (shG g.n.id g.n.now z0.n).id ∧ _
    rw [(shG_skel _ _).id, hT.mem z0 (List.mem_of_getElem? hz0) p k]
    constructor
    ·rintro ⟨y, hy, g1, g2, g3, g4⟩
     exact ⟨y, hy, g1, g2, .inr ⟨by rw [g1]; exact hne, g3.symm⟩, g4⟩
    ·rintro ⟨v, hv, g1, g2, g3, g4⟩
     rcases g3 with ⟨g3, _⟩ | ⟨_, g3⟩
     ·exact absurd (g1.symm.trans g3) hne
     ·exact ⟨v, hv, g1, g2, g3.symm, g4⟩
/-! ### while a map is gone through -/
def shD (k P : Int) (dn : List Nat) (T : List Nd) : List Nd := T.mapIdx fun i z => if i ∈ dn then shT k P z else z
theorem shD_at {k P : Int} {dn : List Nat} {T : List Nd} (j : Nat) : (shD k P dn T)[j]? = (T[j]?).map (fun z => if j ∈ dn then shT k P z else z) := by
 rw [shD, List.getElem?_mapIdx]
theorem shD_set {k P : Int} {dn : List Nat} {T : List Nd} {j : Nat} {z : Nd} (hz : T[j]? = some z) : (shD k P dn T).set j (shT k P z) = shD k P (dn ++ [j]) T := by
 apply List.ext_getElem?
 intro i
 rw [List.getElem?_set, shD_at, shD_at]
 by_cases c : j = i
 ·subst c
  have := (List.getElem?_eq_some_iff.1 hz).1
  rw [if_pos rfl, if_pos (by simpa [shD] using this), hz]
  simp
 ·rw [if_neg c]
  cases T[i]? with
  | none => rfl
  | some v => simp [Ne.symm c]
theorem shD_skip {k P : Int} {dn : List Nat} {T : List Nd} {j : Nat} {z : Nd} (hz : T[j]? = some z) (hp : z.n.par ≠ k) : shD k P (dn ++ [j]) T = shD k P dn T := by
 rw [← shD_set hz, shT_no hp]
 refine set_same ?_
 rw [shD_at, hz, Option.map_some, shT_no hp]
 simp
theorem shD_all {k P : Int} {dn : List Nat} {T : List Nd} (h : ∀ j, j < T.length → j ∈ dn) : shD k P dn T = T.map (shT k P) := by
 apply List.ext_getElem?
 intro i
 rw [shD_at, List.getElem?_map]
 cases hi : T[i]? with
 | none => rfl
 | some v => simp [h i (List.getElem?_eq_some_iff.1 hi).1]
theorem shD_nil {k P : Int} {T : List Nd} : shD k P [] T = T := by
 apply List.ext_getElem?
 intro i
 rw [shD_at]
 cases T[i]? <;> simp
/-- A way down: numbers, blocks. -/
def wE : Enc (Int × Nat) := ⟨1, by decide, fun e => [.pointer (some ⟨e.2, 0, none⟩)], fun _ => rfl, by intro a u hu; simp at hu; subst hu; rfl⟩
def OnT (T : List Nd) (wy : List (Int × Nat)) : Prop := ∀ e ∈ wy, ∃ (i : Nat) (z : Nd), T[i]? = some z ∧ z.n.id = e.1 ∧ z.b = e.2
theorem OnT.same {T T' : List Nd} {wy : List (Int × Nat)} (h : OnT T wy) (hs : SameT T T') : OnT T' wy := fun e he => by
 obtain ⟨i, z, h1, h2, h3⟩ := h e he
 obtain ⟨z', g1, g2, g3, _⟩ := hs.at h1
 exact ⟨i, z', g1, by rw [g2, h2], by rw [g3, h3]⟩
end Go.Proofs.YtfhkgohokbkgiaaGreatDoor
set_option linter.unusedVariables false
set_option linter.unusedSimpArgs false
namespace Go.Proofs.YtfhkgohokbkgiaaGreatDoor
open Go.RowKit G
set_option maxHeartbeats 1000000 in
set_option maxRecDepth 100000 in
theorem shifts_walk {N : List Nr} {T : List Nd} (hT : OkT N T) (hsk : SK N) {rk : Int → Nat} {r : Nat} (hdn : DN rk r N) {wy : List (Int × Nat)} (hl : wy.length ≤ 1000000) (hon : OnT T wy) (H : List SP) (t mb : Nat) (A : Option Addr) (cap : Nat) : ∀ w, Sat w (row wE 208 (.slice A wy.length cap) wy :: blk t 210 [.map (some mb)] :: mapS mb (T.map kp) :: (nodesL T ++ H)) → Calls Tryz.prog 103 #[vp t, .slice A wy.length cap] w (Ret (ι := { T' : List Nd // OkT ((wy.map (·.1)).foldl shiftN N) T' ∧ SameT T T' }) (fun _ => .tuple #[]) fun T' => row wE 208 (.slice A wy.length cap) wy :: blk t 210 [.map (some mb)] :: mapS mb (T'.1.map kp) :: (nodesL T'.1 ++ H)) := by
 refine enterG (fn := Tryz.f103) 68 [vp t, .slice A wy.length cap] Tryz.func103 (by kernel_rfl) (by kernel_rfl) (by kernel_rfl) ?_
 refine Xq (Xg 3 (Xe [(0,vp t), (8,.slice A wy.length cap), (9,vi (wy.length : Int)), (10,vi 0)] ?_ 3))
 refine Xb 0 (Xp [(0,vp t), (8,.slice A wy.length cap), (9,vi (wy.length : Int)), (10,vi 0)] ?_)
 refine loopG (fun (s : List Nd × Nat) => [(0, vp t), (8, .slice A wy.length cap), (9, vi (wy.length : Int)), (10, vi (s.2 : Int))]) (fun (s : List Nd × Nat) => (row wE 208 (.slice A wy.length cap) wy :: blk t 210 [.map (some mb)] :: mapS mb (s.1.map kp) :: (nodesL s.1 ++ H))) (fun k (s : List Nd × Nat) => k + s.2 = wy.length ∧ ∃ N1, OkT N1 s.1 ∧ SK N1 ∧ DN rk r N1 ∧ SameT T s.1 ∧ (wy.map (·.1)).foldl shiftN N = ((wy.drop s.2).map (·.1)).foldl shiftN N1) wy.length (T, 0) (by kernel_rfl) ⟨rfl, N, hT, hsk, hdn, SameT.refl T, rfl⟩ ?_
 rintro k ⟨T1, u⟩ ⟨hku, N1, hT1, hs1, hd1, hsm, hfold⟩
 simp only at hku hT1 hsm hfold
 refine Xq (Xg 1 (Xe [(0,vp t), (8,.slice A wy.length cap), (9,vi (wy.length : Int)), (10,vi u), (11,.bool (decide ((u : Int) < (wy.length : Int))))] ?_ 1))
 refine Xq (Xc (decide ((u : Int) < (wy.length : Int))) (fun h1 => ?_) (fun h1 => ?_))
 ·skip
  have hu : u < wy.length := by have := of_decide_eq_true h1; omega
  obtain ⟨e, he⟩ : ∃ e, wy[u]? = some e := ⟨_, List.getElem?_eq_getElem hu⟩
  obtain ⟨i, g, hi, hgid, hgb⟩ := (hon.same hsm) e (List.mem_of_getElem? he)
  have hgm := List.mem_of_getElem? hi
  have hgN := hT1.mem_n hgm
  have hdrop : (wy.drop u).map (·.1) = e.1 :: (wy.drop (u + 1)).map (·.1) := by rw [List.drop_eq_getElem_cons hu, List.map_cons, (List.getElem?_eq_some_iff.1 he).2]
  refine PT.know (KR.isSome (s := ⟨A, cap, wy⟩) (rowKRat 0 rfl) (List.ne_nil_of_length_pos (by show 0 < wy.length; omega))) ?_
  rintro ⟨sb, so, hA⟩
  dsimp only at hA
  subst hA
  refine Xk (Xq (Xb 1 (Xq (Xg 3 (Xs (yldS (Xi 228 (.tmp 8) (.tmp 10) sb so wy.length cap u 1 208 (u : Int) 12 Tryz.underlying228)) (fun _ => ?_) 2)))))
  refine Xm [(0,vp t), (8,.slice (some ⟨sb, so, none⟩) wy.length cap), (9,vi (wy.length : Int)), (10,vi u), (5,.pointer (some ⟨e.2, 0, none⟩))] [(⟨sb, so + u * 1, none⟩, .pointer (some ⟨e.2, 0, none⟩))] (hasC ((rowKRat (xs := wy) (A := some ⟨sb, so, none⟩) (k := cap) (E := wE) (T := 208) 0 rfl).cell rfl (i := u) (x := e) he (j := 0) rfl) has0) ?_ 2
  refine Xq (Xq (Xg 5 (Xr [(0,vp t), (8,.slice (some ⟨sb, so, none⟩) wy.length cap), (9,vi (wy.length : Int)), (10,vi u), (5,.pointer (some ⟨e.2, 0, none⟩)), (16,.pointer (some ⟨e.2, 6, none⟩))] ?_ 2 3)))
  rw [show e.2 = g.b by rw [hgb]]
  refine Xm [(0,vp t), (8,.slice (some ⟨sb, so, none⟩) wy.length cap), (9,vi (wy.length : Int)), (10,vi u), (5,.pointer (some ⟨g.b, 0, none⟩)), (18,.bool (decide (g.n.now ≤ 16777216)))] [(⟨g.b, 6, none⟩, vi g.n.now)] (hasC (up (up (up (nodeAt (T := T1) hgm (j := 6) rfl)))) has0) ?_ 2
  refine Xc (decide (g.n.now ≤ 16777216)) (fun h2 => ?_) (fun h2 => ?_)
  ·skip
   have hnb : ¬ 16777216 < g.n.now := by have := of_decide_eq_true h2; omega
   refine Xx 1 (thenX (leaveR (Xg 2 (Xe [(0,vp t), (8,.slice (some ⟨sb, so, none⟩) wy.length cap), (9,vi (wy.length : Int)), (10,vi (IntKind.i64.wrap ((u : Int) + 1)))] ?_ 2))))
   rw [show IntKind.i64.wrap ((u : Int) + 1) = ((u + 1 : Nat) : Int) by rw [w64 (by omega) (by omega)]; rfl]
   refine Xp [(0,vp t), (8,.slice (some ⟨sb, so, none⟩) wy.length cap), (9,vi (wy.length : Int)), (10,vi ((u + 1 : Nat) : Int))] ?_
   exact againG (k - 1) (T1, u + 1) rfl rfl (by omega) ⟨by simp only; omega, N1, hT1, hs1, hd1, hsm, by simp only; rw [hfold, hdrop, List.foldl_cons, ← hgid, shiftN_no hs1.nd hgN hnb]⟩
  ·skip
   have hbig : 16777216 < g.n.now := by have := of_decide_eq_false h2; omega
   obtain ⟨hsh, hsq, hql, hgi, hT2, hsm2⟩ := shift_round hT1 hs1 hd1.lb hd1.pn hi hbig
   have hgn := hd1.now g.n hgN
   refine Xk (Xq (Xq (Xg 5 (Xl [(0,vp t), (8,.slice (some ⟨sb, so, none⟩) wy.length cap), (9,vi (wy.length : Int)), (10,vi u), (5,.pointer (some ⟨g.b, 0, none⟩)), (22,.map (some mb))] [(⟨t, 0, none⟩, .map (some mb))] (hasC (ba 1) has0) ?_ 1 4))))
   refine Xh0 ?_ 2 1
   refine Xs (rangeS 207 (.tmp 22) mb (T1.map kp) 3 208 (some 23) (fun _ => by kernel_rfl) (by kernel_rfl) (by kernel_rfl) (fun _ => by kernel_rfl) Tryz.underlying207) (fun it1 => ?_) 0
   refine endR ?_
   refine Xb 2 ?_
   refine PT.sat (H' := rngS it1 mb (T1.map kp) [] :: row wE 208 (.slice (some ⟨sb, so, none⟩) wy.length cap) wy :: blk t 210 [.map (some mb)] :: (nodesL (shD g.n.id g.n.now [] T1) ++ H)) (fun _ hs => by rw [shD_nil]; exact hs) ?_
   refine Xp [(0,vp t), (5,.pointer (some ⟨g.b, 0, none⟩)), (8,.slice (some ⟨sb, so, none⟩) wy.length cap), (9,vi (wy.length : Int)), (10,vi u), (23,vp it1)] ?_
   refine loopG (fun (dn : List Nat) => [(0, vp t), (5, .pointer (some ⟨g.b, 0, none⟩)), (8, .slice (some ⟨sb, so, none⟩) wy.length cap), (9, vi (wy.length : Int)), (10, vi u), (23, vp it1)]) (fun (dn : List Nat) => (rngS it1 mb (T1.map kp) dn :: row wE 208 (.slice (some ⟨sb, so, none⟩) wy.length cap) wy :: blk t 210 [.map (some mb)] :: (nodesL (shD g.n.id g.n.now dn T1) ++ H))) (fun k (dn : List Nat) => k + dn.length = T1.length ∧ dn.Nodup ∧ ∀ j ∈ dn, j < T1.length) T1.length [] (by kernel_rfl) ⟨rfl, List.nodup_nil, fun _ h => by cases h⟩ ?_
   rintro k2 dn ⟨hk2, hdnd, hdl⟩
   refine Xq (Xg 2 ?_)
   refine nextR (z := 1) (.tmp 23) it1 mb (T1.map kp) dn (some 24) (fun _ => by kernel_rfl) (by kernel_rfl) (by kernel_rfl) (fun _ => by kernel_rfl) (fun h0  => ?_) (fun j kk vv hj hnj => ?_)
   ·skip
    refine Xe [(0,vp t), (5,.pointer (some ⟨g.b, 0, none⟩)), (8,.slice (some ⟨sb, so, none⟩) wy.length cap), (9,vi (wy.length : Int)), (10,vi u), (23,vp it1), (25,.bool false)] ?_ 1
    refine Xq (Xc false (fun h => by cases h) (fun _ => ?_))
    refine Xx 2 (thenX (thenX (leaveR (Xq ?_))))
    refine PT.rngEnd ?_
    rw [shD_all (fun j hj' => h0 j (by simpa using hj'))]
    obtain ⟨R, hR, hR2⟩ := perm1 hgi
    refine PT.pick 0 rfl ?_
    refine PT.pick 2 rfl ?_
    refine PT.pick 2 rfl ?_
    refine PT.open1c (hR) ?_
    refine PT.pick 4 rfl ?_
    refine Xy0 1 [] 9 ?_
    refine Xt [0, 1, 2, 3, 4, 5, 6, 7] [(0,vp t), (5,.pointer (some ⟨g.b, 0, none⟩)), (8,.slice (some ⟨sb, so, none⟩) wy.length cap), (9,vi (wy.length : Int)), (10,vi u), (58,.pointer (some ⟨g.ib, 0, none⟩)), (62,vi g.n.now)] [(⟨g.b, 7, none⟩, .pointer (some ⟨g.ib, 0, none⟩)), (⟨g.b, 6, none⟩, vi g.n.now)] (hasC (ba 3) (hasC (ba 3) has0)) ?_
    refine Xo 8 (Xa (some 63) (fun _ => .tuple #[]) (shift_is hsh hsq hql _ _)) (fun _ => ?_)
    refine Xd (Xg 4 (Xr [(0,vp t), (8,.slice (some ⟨sb, so, none⟩) wy.length cap), (9,vi (wy.length : Int)), (10,vi u), (66,.pointer (some ⟨g.b, 6, none⟩))] ?_ 1 3))
    refine Xh0 ?_ 4 1
    refine Xs (Xz [(6,vi 0)]) (fun _ => ?_) 0
    refine endR ?_
    refine PT.pick 1 rfl ?_
    refine PT.pick 1 rfl ?_
    refine PT.pick 4 rfl ?_
    refine PT.pick 4 rfl ?_
    refine PT.pick 4 rfl ?_
    refine PT.close1c ({ g with n := nwF 0 g.n, q := shQ g.q g.n.now }) (hR2 _) ?_
    rw [← hsm2.kp]
    refine Xg 2 (Xe [(0,vp t), (8,.slice (some ⟨sb, so, none⟩) wy.length cap), (9,vi (wy.length : Int)), (10,vi (IntKind.i64.wrap ((u : Int) + 1)))] ?_ 2)
    rw [show IntKind.i64.wrap ((u : Int) + 1) = ((u + 1 : Nat) : Int) by rw [w64 (by omega) (by omega)]; rfl]
    refine Xp [(0,vp t), (8,.slice (some ⟨sb, so, none⟩) wy.length cap), (9,vi (wy.length : Int)), (10,vi ((u + 1 : Nat) : Int))] ?_
    exact againG (k - 1) (_, u + 1) rfl rfl (by omega) ⟨by simp only; omega, _, hT2, hs1.shift hgN, hd1.shift hs1 hgN, hsm.trans hsm2, by simp only; rw [hfold, hdrop, List.foldl_cons, ← hgid]⟩
   ·skip
    obtain ⟨z, hz, rfl, rfl⟩ := kp_at hj
    have hzD : (shD g.n.id g.n.now dn T1)[j]? = some z := by rw [shD_at, hz]; simp [hnj]
    have hgD : (shD g.n.id g.n.now dn T1)[i]? = some g := by rw [shD_at, hi, Option.map_some, shT_no (fun e => hs1.ne_par hgN e.symm)]; simp
    have hl2 := nodup_len (l := dn ++ [j]) (n := T1.length) (List.nodup_append.2 ⟨hdnd, by simp, by intro a ha b hb; simp at hb; subst hb; exact fun e => hnj (e ▸ ha)⟩) (by intro a ha; rcases List.mem_append.1 ha with ha | ha; exact hdl a ha; (simp at ha; subst ha; exact (List.getElem?_eq_some_iff.1 hz).1))
    rw [List.length_append, List.length_singleton] at hl2
    refine Xe [(0,vp t), (5,.pointer (some ⟨g.b, 0, none⟩)), (8,.slice (some ⟨sb, so, none⟩) wy.length cap), (9,vi (wy.length : Int)), (10,vi u), (23,vp it1), (25,.bool true)] ?_ 1
    refine Xq (Xc true (fun _ => ?_) (fun h => by cases h))
    refine Xk (Xb 3 (Xq (Xg 3 (Xs (yldS (entryY (H := (rngS it1 mb (T1.map kp) (dn ++ [j]) :: row wE 208 (.slice (some ⟨sb, so, none⟩) wy.length cap) wy :: blk t 210 [.map (some mb)] :: (nodesL (shD g.n.id g.n.now dn T1) ++ H))) (.tmp 23) it1 mb (T1.map kp) dn j z.n.id (.pointer (some ⟨z.b, 0, none⟩)) 0 (some 26) (fun _ => by kernel_rfl) (by kernel_rfl) (by kernel_rfl) (fun _ => by kernel_rfl) rfl hj)) (fun _ => ?_) 2))))
    refine Xe [(0,vp t), (5,.pointer (some ⟨g.b, 0, none⟩)), (8,.slice (some ⟨sb, so, none⟩) wy.length cap), (9,vi (wy.length : Int)), (10,vi u), (23,vp it1), (7,.pointer (some ⟨z.b, 0, none⟩))] ?_ 2
    refine Xq (Xy0 0 [] 11 ?_)
    refine Xt [0, 1, 2, 3, 4, 5, 6, 7, 8, 9, 10] [(0,vp t), (5,.pointer (some ⟨g.b, 0, none⟩)), (8,.slice (some ⟨sb, so, none⟩) wy.length cap), (9,vi (wy.length : Int)), (10,vi u), (23,vp it1), (7,.pointer (some ⟨z.b, 0, none⟩)), (38,.bool (z.n.par == g.n.id))] [(⟨z.b, 1, none⟩, vi z.n.par), (⟨g.b, 0, none⟩, vi g.n.id)] (hasC (up (up (up (nodeAt (T := shD g.n.id g.n.now dn T1) (List.mem_of_getElem? hzD) (j := 1) rfl)))) (hasC (up (up (up (nodeAt (T := shD g.n.id g.n.now dn T1) (List.mem_of_getElem? hgD) (j := 0) rfl)))) has0)) ?_
    refine Xd (Xc (z.n.par == g.n.id) (fun h3 => ?_) (fun h3 => ?_))
    ·skip
     have hpar : z.n.par = g.n.id := by simpa using h3
     have hzN := hT1.mem_n (List.mem_of_getElem? hz)
     have hzp := hd1.pass z.n hzN
     obtain ⟨R, hR, hR2⟩ := perm1 hzD
     have hgR : g ∈ R := by rcases List.mem_cons.1 (hR.mem_iff.1 (List.mem_of_getElem? hgD)) with e | e; (subst e; exact absurd hpar.symm (hs1.ne_par hzN)); exact e
     have hz' : shT g.n.id g.n.now z = { z with n := { z.n with pass := mxI 0 (z.n.pass - g.n.now) } } := by unfold shT shG; rw [if_pos (by simpa using hpar)]
     have hR3 : (shD g.n.id g.n.now (dn ++ [j]) T1).Perm ({ z with n := { z.n with pass := mxI 0 (z.n.pass - g.n.now) } } :: R) := by rw [← shD_set hz, hz']; exact hR2 _
     refine PT.open1c (hR) ?_
     refine Xy0 0 [16] 17 ?_
     refine Xt [0, 1, 2, 3, 4, 5, 6, 7, 8, 9, 10] [(0,vp t), (5,.pointer (some ⟨g.b, 0, none⟩)), (8,.slice (some ⟨sb, so, none⟩) wy.length cap), (9,vi (wy.length : Int)), (10,vi u), (23,vp it1), (39,.pointer (some ⟨z.b, 0, none⟩)), (49,vi (IntKind.i64.wrap (z.n.pass - g.n.now)))] [(⟨z.b, 3, none⟩, vi z.n.pass), (⟨g.b, 6, none⟩, vi g.n.now)] (hasC (ba 3) (hasC (up (up (up (up (up (nodeAt (T := R) hgR (j := 6) rfl)))))) has0)) ?_
     refine Xo 11 (Xa (some 50) (fun _ => .complex .f64 (floatOfInt .f64 0) (floatOfInt .f64 (IntKind.i64.wrap (z.n.pass - g.n.now)))) (pair_walk _ 0 (IntKind.i64.wrap (z.n.pass - g.n.now)))) (fun _ => ?_)
     rw [show IntKind.i64.wrap (z.n.pass - g.n.now) = (z.n.pass - g.n.now) by rw [w64 (by omega) (by omega)]]
     refine Xo 12 (Xa (some 51) (fun _ => vi (mxI 0 (z.n.pass - g.n.now))) (later_walk _ 0 (z.n.pass - g.n.now) (by decide) (by omega))) (fun _ => ?_)
     refine Xt [13, 14, 15] [(51,vi (mxI 0 (z.n.pass - g.n.now))), (0,vp t), (5,.pointer (some ⟨g.b, 0, none⟩)), (8,.slice (some ⟨sb, so, none⟩) wy.length cap), (9,vi (wy.length : Int)), (10,vi u), (23,vp it1), (54,.pointer (some ⟨z.b, 3, none⟩))] [] has0 ?_
     refine DT.pick 3 rfl ?_
     refine Xo 16 (Xz [(3,vi (mxI 0 (z.n.pass - g.n.now)))]) (fun _ => ?_)
     refine Xd ?_
     refine PT.pick 0 rfl ?_
     refine PT.pick 3 rfl ?_
     refine PT.pick 3 rfl ?_
     refine PT.pick 3 rfl ?_
     refine PT.close1c ({ z with n := { z.n with pass := mxI 0 (z.n.pass - g.n.now) } }) (hR3) ?_
     refine Xp [(0,vp t), (5,.pointer (some ⟨g.b, 0, none⟩)), (8,.slice (some ⟨sb, so, none⟩) wy.length cap), (9,vi (wy.length : Int)), (10,vi u), (23,vp it1)] ?_
     exact againG (k2 - 1) (dn ++ [j]) rfl rfl (by omega) ⟨by rw [List.length_append, List.length_singleton]; omega, List.nodup_append.2 ⟨hdnd, by simp, by intro a ha b hb; simp at hb; subst hb; exact fun e => hnj (e ▸ ha)⟩, by intro a ha; rcases List.mem_append.1 ha with ha | ha; exact hdl a ha; (simp at ha; subst ha; exact (List.getElem?_eq_some_iff.1 hz).1)⟩
    ·skip
     have hpar : z.n.par ≠ g.n.id := by simpa using h3
     refine Xk ?_
     rw [← shD_skip hz hpar]
     refine Xp [(0,vp t), (5,.pointer (some ⟨g.b, 0, none⟩)), (8,.slice (some ⟨sb, so, none⟩) wy.length cap), (9,vi (wy.length : Int)), (10,vi u), (23,vp it1)] ?_
     exact againG (k2 - 1) (dn ++ [j]) rfl rfl (by omega) ⟨by rw [List.length_append, List.length_singleton]; omega, List.nodup_append.2 ⟨hdnd, by simp, by intro a ha b hb; simp at hb; subst hb; exact fun e => hnj (e ▸ ha)⟩, by intro a ha; rcases List.mem_append.1 ha with ha | ha; exact hdl a ha; (simp at ha; subst ha; exact (List.getElem?_eq_some_iff.1 hz).1)⟩
 ·skip
  have hu : ¬ u < wy.length := by have := of_decide_eq_false h1; omega
  refine Xx 0 (thenX (thenX (leaveR (Y1 (.tuple #[]) (fun w hs => ?_)))))
  exact ⟨⟨T1, by rw [hfold, List.drop_eq_nil_of_le (by omega)]; exact hT1, hsm⟩, rfl, hs⟩
end Go.Proofs.YtfhkgohokbkgiaaGreatDoor
set_option linter.unusedVariables false
set_option linter.unusedSimpArgs false
namespace Go.Proofs.YtfhkgohokbkgiaaGreatDoor
open Go.RowKit G
theorem frameT {ι : Type} {P : Program} {f : FuncId} {vs : Array Value} {rv : ι → Value} {X A B : SP} {T : List Nd} {H : List SP} {A' B' : ι → SP} {T' : ι → List Nd}
  (h : ∀ (H : List SP) w, Sat w (A :: B :: (nodesL T ++ H)) → Calls P f vs w (Ret rv fun x => A' x :: B' x :: (nodesL (T' x) ++ H))) : ∀ w, Sat w (X :: A :: B :: (nodesL T ++ H)) → Calls P f vs w (Ret rv fun x => X :: A' x :: B' x :: (nodesL (T' x) ++ H)) := fun w hs =>
 (h (X :: H) w (Sat.perm (List.perm_middle (a := X) (l₁ := A :: B :: nodesL T) (l₂ := H)).symm hs)).mono fun e w' ⟨x, he, hx⟩ => ⟨x, he, Sat.perm (List.perm_middle (a := X) (l₁ := A' x :: B' x :: nodesL (T' x)) (l₂ := H)) hx⟩
theorem idx_at {A B C : SP} {T : List Nd} {H : List SP} {x : Nd} (hx : x ∈ T) : ∃ j : Nat, (A :: B :: C :: (nodesL T ++ H))[j]? = some (idxS x.ib 60 x.q) := by
 have h1 : idxS x.ib 60 x.q ∈ nodesL T := by
  induction T with
  | nil => cases hx
  | cons a T ih =>
   rcases List.mem_cons.1 hx with rfl | hx
   ·exact .tail _ (.head _)
   ·exact .tail _ (.tail _ (ih hx))
 exact List.mem_iff_getElem?.1 (.tail _ (.tail _ (.tail _ (List.mem_append_left H h1))))
theorem wE_ety : Ety Tryz.prog wE 208 (.pointer none) := by
 obtain ⟨i, hi, hz, hs, hb⟩ := info_parts (P := Tryz.prog) (e := 208) (z := .pointer none) (size := 1) (bytes := 8) (by kernel_rfl)
 exact ⟨⟨i, hi, hz, hs, by omega⟩, rfl⟩
structure RnX where
 T : List Nd
 x : Nd
 wy : List (Int × Nat)
 a : Option Addr
 c : Nat
structure RunI (N : List Nr) (T : List Nd) (rk : Int → Nat) (k : Nat) (s : RnX) : Prop where
 ex : ∃ N1, OkT N1 s.T ∧ SK N1 ∧ RK N1 rk ∧ DN rk (rk s.x.n.id) N1 ∧ downN 6 N 0 [] = downN k N1 s.x.n.id (s.wy.map (·.1))
 same : SameT T s.T
 on : OnT s.T s.wy
 mem : ∃ i : Nat, s.T[i]? = some s.x
 rank : k + rk s.x.n.id = 7
 len : s.wy.length + 1 = rk s.x.n.id
set_option maxHeartbeats 1000000 in
set_option maxRecDepth 100000 in
theorem run_walk {N : List Nr} {T : List Nd} (hT : OkT N T) (hw : WFN N) (H : List SP) (t mb : Nat) : ∀ w, Sat w (blk t 210 [.map (some mb)] :: mapS mb (T.map kp) :: (nodesL T ++ H)) → Calls Tryz.prog 70 #[vp t] w (Ret (ι := { T' : List Nd // OkT (runN N).2 T' ∧ SameT T T' }) (fun _ => .tuple #[vi (runN N).1.1, .bool (runN N).1.2]) fun T' => blk t 210 [.map (some mb)] :: mapS mb (T'.1.map kp) :: (nodesL T'.1 ++ H)) := by
 have hsk := hw.sk
 obtain ⟨rk, hrk⟩ := hsk.rk
 obtain ⟨r0, hr0, hr00⟩ := hsk.root
 have hg0 : gt N 0 = some r0 := hr00 ▸ gt_of hsk.nd hr0
 obtain ⟨i0, z0, hi0, hz0, hz0k⟩ := hT.get hg0
 have hz0m := List.mem_of_getElem? hi0
 refine enterG (fn := Tryz.f70) 68 [vp t] Tryz.func70 (by kernel_rfl) (by kernel_rfl) (by kernel_rfl) ?_
 refine Xq (Xg 2 (Xe [(0,vp t), (2,vi 0), (3,.bool false)] ?_ 2))
 refine scopeG 0 (fun (s : RnX) => [(0, vp t), (4, .pointer (some ⟨s.x.b, 0, none⟩)), (5, .slice s.a s.wy.length s.c)]) (fun (s : RnX) => (row wE 208 (.slice s.a s.wy.length s.c) s.wy :: blk t 210 [.map (some mb)] :: mapS mb (s.T.map kp) :: (nodesL s.T ++ H))) (fun k (s : RnX) => RunI N T rk k s ∧ r0.rdy = true) (by kernel_rfl) (by kernel_rfl) (by kernel_rfl) (by kernel_rfl) ?_ ?_
 ·skip
  rintro k ⟨T1, x1, wy, A, cap⟩ ⟨⟨⟨N1, hT1, hs1, hr1, hd1, hdn⟩, hsm, hon, ⟨i, hi⟩, hkr, hwl⟩, hrdy⟩ K hK
  simp only at hT1 hd1 hdn hsm hon hi hkr hwl
  have hm := List.mem_of_getElem? hi
  have hxN := hT1.mem_n hm
  have hrx := (hr1 _ hxN).2.2.1
  obtain ⟨jx, hjx⟩ := idx_at (A := row wE 208 (.slice A wy.length cap) wy) (B := blk t 210 [.map (some mb)]) (C := mapS mb (T1.map kp)) (H := H) hm
  obtain ⟨k, rfl⟩ : ∃ k', k = k' + 1 := ⟨k - 1, by omega⟩
  cases hq : x1.q with
  | nil =>
   refine Xq (Xg 11 (Xl [(0,vp t), (4,.pointer (some ⟨x1.b, 0, none⟩)), (5,.slice A wy.length cap), (23,.pointer (some ⟨x1.ib, 0, none⟩))] [(⟨x1.b, 7, none⟩, .pointer (some ⟨x1.ib, 0, none⟩))] (hasC (up (up (up (nodeAt (T := T1) hm (j := 7) rfl)))) has0) ?_ 7 4))
   refine Xs (Xa (some 24) (fun _ => .tuple #[.agg #[vi 0, vi 0], .bool false]) (same_at jx hjx (by rw [hq]; exact min_idx _ x1.ib 60 []))) (fun _ => ?_) 6
   refine Xr [(0,vp t), (4,.pointer (some ⟨x1.b, 0, none⟩)), (5,.slice A wy.length cap), (25,.agg #[vi 0, vi 0]), (26,.bool false)] ?_ 3 3
   refine Xs (Xn 230 [vi 0, vi 0] (some 6) (fun b => vp b)) (fun b1 => ?_) 2
   refine Xs (Xz [(0,vi 0), (1,vi 0)]) (fun _ => ?_) 1
   refine Xe [(6,vp b1), (0,vp t), (4,.pointer (some ⟨x1.b, 0, none⟩)), (5,.slice A wy.length cap), (7,.bool false)] ?_ 1
   refine PT.drop ?_
   refine Xq (Xq (Xg 2 (Xe [(6,vp b1), (0,vp t), (4,.pointer (some ⟨x1.b, 0, none⟩)), (5,.slice A wy.length cap), (28,.bool true)] ?_ 2)))
   refine Xc true (fun _ => ?_) (fun h => by cases h)
   refine Xq (Xg 3 (Xr [(6,vp b1), (0,vp t), (4,.pointer (some ⟨x1.b, 0, none⟩)), (5,.slice A wy.length cap), (29,vp t), (30,.slice A wy.length cap)] ?_ 1 2))
   refine Xs (Xa (some 31) (fun (T' : { T' : List Nd // OkT ((wy.map (·.1)).foldl shiftN N1) T' ∧ SameT T1 T' }) => .tuple #[]) (shifts_walk hT1 hs1 hd1 (by omega) hon H t mb A cap)) (fun (T' : { T' : List Nd // OkT ((wy.map (·.1)).foldl shiftN N1) T' ∧ SameT T1 T' }) => ?_) 0
   obtain ⟨T2, hT2, hsm2⟩ := T'
   obtain ⟨x2, hx2, hx2k, hx2b, _⟩ := hsm2.at hi
   refine endR ?_
   refine Xq (Xg 7 (Xm [(6,vp b1), (0,vp t), (4,.pointer (some ⟨x1.b, 0, none⟩)), (5,.slice A wy.length cap), (2,vi x1.n.id), (3,.bool true)] [(⟨x1.b, 0, none⟩, vi x1.n.id)] (hasC (up (up (up (by rw [← hx2b, ← hx2k]; exact nodeAt (T := T2) (List.mem_of_getElem? hx2) (j := 0) rfl)))) has0) ?_ 7))
   refine Xv (thenV (jumpV ?_))
   have hfin : downN 6 N 0 [] = (x1.n.id, (wy.map (·.1)).foldl shiftN N1) := by rw [hdn, downN, least_nil hT1 hm hq]
   have hrn : runN N = ((x1.n.id, true), (wy.map (·.1)).foldl shiftN N1) := by rw [runN, hg0]; simp only [hrdy, if_true, hfin]
   refine Y0 (.tuple #[vi x1.n.id, .bool true]) (fun w hs => ?_)
   exact ⟨⟨T2, by rw [hrn]; exact hT2, hsm.trans hsm2⟩, by show _ = Ending.returned (.tuple #[.int .i64 (runN N).1.1, .bool (runN N).1.2]); rw [hrn], hs.tail⟩
  | cons e r =>
   obtain ⟨y, hly, hyN, hyp, hyr, hye, hyi⟩ := least_q hT1 hs1 hm hq
   obtain ⟨j, yz, hj, hyz⟩ := hT1.of_n hyN
   obtain ⟨hd2, hyb, hyx⟩ := hd1.step hs1 hr1 hxN hyN hyp hyr (least_some hly).2
   have hry := RK.up hs1 hr1 hyN hxN hyp.symm
   have hij : i ≠ j := fun e => by subst e; rw [hi] at hj; cases hj; rw [hyz] at hry; omega
   have hyk : yz.n.id = e.2 := by rw [hyz, hyi]
   have hypar : yz.n.par = x1.n.id := by rw [hyz, hyp]
   have hyps : yz.n.pass = e.1 := by rw [hyz, hye]
   have hyw := hd1.wt y hyN
   have hst := strd_pos hyw
   have hyp0 := hd1.pass y hyN
   have hT2 : OkT (upN N1 x1.n.id (nwF e.1)) (T1.set i { x1 with n := nwF e.1 x1.n }) := hT1.one hs1.nd hi (nwF_skel e.1) (.inr ⟨rfl, .inl rfl⟩)
   have hs2 : SK (upN N1 x1.n.id (nwF e.1)) := hs1.upN (nwF_skel e.1)
   have hsm2 : SameT T1 (T1.set i { x1 with n := nwF e.1 x1.n }) := SameT.set hi ⟨rfl, rfl, rfl⟩
   have hl2 : LB (upN N1 x1.n.id (nwF e.1)) := hd1.lb.ups hs1.nd hxN (hd1.wt x1.n hxN) (hd1.lb.pass x1.n hxN) (by show 0 ≤ e.1 ∧ e.1 ≤ 1099511627776; omega)
   have hj2 : (T1.set i { x1 with n := nwF e.1 x1.n })[j]? = some yz := by rw [List.getElem?_set_ne hij]; exact hj
   have hg2 : gt (upN N1 x1.n.id (nwF e.1)) yz.n.par = some (nwF e.1 x1.n) := by rw [gt_upN (f := nwF e.1) (fun _ => rfl), if_pos hypar, hypar, gt_of hs1.nd hxN]; rfl
   obtain ⟨R, hR, hR2⟩ := perm1 hi
   refine Xq (Xg 11 (Xl [(0,vp t), (4,.pointer (some ⟨x1.b, 0, none⟩)), (5,.slice A wy.length cap), (23,.pointer (some ⟨x1.ib, 0, none⟩))] [(⟨x1.b, 7, none⟩, .pointer (some ⟨x1.ib, 0, none⟩))] (hasC (up (up (up (nodeAt (T := T1) hm (j := 7) rfl)))) has0) ?_ 7 4))
   refine Xs (Xa (some 24) (fun _ => .tuple #[.agg #[vi e.1, vi e.2], .bool true]) (same_at jx hjx (by rw [hq]; exact min_idx _ x1.ib 60 (e :: r)))) (fun _ => ?_) 6
   refine Xr [(0,vp t), (4,.pointer (some ⟨x1.b, 0, none⟩)), (5,.slice A wy.length cap), (25,.agg #[vi e.1, vi e.2]), (26,.bool true)] ?_ 3 3
   refine Xs (Xn 230 [vi 0, vi 0] (some 6) (fun b => vp b)) (fun b1 => ?_) 2
   refine Xs (Xz [(0,vi e.1), (1,vi e.2)]) (fun _ => ?_) 1
   refine Xe [(6,vp b1), (0,vp t), (4,.pointer (some ⟨x1.b, 0, none⟩)), (5,.slice A wy.length cap), (7,.bool true)] ?_ 1
   refine Xq (Xq (Xg 2 (Xe [(6,vp b1), (0,vp t), (4,.pointer (some ⟨x1.b, 0, none⟩)), (5,.slice A wy.length cap), (28,.bool false)] ?_ 2)))
   refine Xc false (fun h => by cases h) (fun _ => ?_)
   refine Xk (Xq (Xg 5 (Xr [(6,vp b1), (0,vp t), (4,.pointer (some ⟨x1.b, 0, none⟩)), (5,.slice A wy.length cap), (37,.slice A wy.length cap), (38,.pointer (some ⟨x1.b, 0, none⟩))] ?_ 3 2)))
   refine Xs (Xn 208 [.pointer (some ⟨x1.b, 0, none⟩)] (some 39) (fun b => .slice (some ⟨b, 0, none⟩) 1 1)) (fun b2 => ?_) 2
   refine Xh0 ?_ 2 2
   refine Xs (Xf (E := wE) 228 (.tmp 37) (.tmp 39) A cap wy [(x1.n.id, x1.b)] (.slice (some ⟨b2, 0, none⟩) 1 1) 40 Tryz.underlying228 (wE_ety) (blkRd 1 rfl) (by simp only [List.length_cons, List.length_nil]; omega)) (fun r3 => ?_) 1
   refine Xe [(6,vp b1), (0,vp t), (4,.pointer (some ⟨x1.b, 0, none⟩)), (5,.slice r3.1 ((wy ++ [(x1.n.id, x1.b)]).length) r3.2)] ?_ 1
   refine PT.pick 1 rfl ?_
   refine PT.drop ?_
   refine PT.pick 1 rfl ?_
   refine PT.pick 3 rfl ?_
   refine PT.pick 3 rfl ?_
   refine PT.pick 3 rfl ?_
   refine PT.open1d (hR) ?_
   refine Xq (Xg 6 (Xl [(6,vp b1), (0,vp t), (4,.pointer (some ⟨x1.b, 0, none⟩)), (5,.slice r3.1 ((wy ++ [(x1.n.id, x1.b)]).length) r3.2), (43,vi e.1), (45,.pointer (some ⟨x1.b, 6, none⟩))] [(⟨b1, 0, none⟩, vi e.1)] (hasC (ba 3) has0) ?_ 1 5))
   refine Xh0 ?_ 4 1
   refine Xs (Xz [(6,vi e.1)]) (fun _ => ?_) 0
   refine endR ?_
   refine PT.pick 0 rfl ?_
   refine PT.pick 4 rfl ?_
   refine PT.pick 4 rfl ?_
   refine PT.pick 4 rfl ?_
   refine PT.pick 4 rfl ?_
   refine PT.close1d ({ x1 with n := nwF e.1 x1.n }) (hR2 _) ?_
   rw [← hsm2.kp]
   refine Xq (Xy0 0 [] 8 ?_)
   refine Xt [0, 1, 2, 3, 4, 5] [(0,vp t), (4,.pointer (some ⟨x1.b, 0, none⟩)), (5,.slice r3.1 ((wy ++ [(x1.n.id, x1.b)]).length) r3.2), (49,.map (some mb)), (51,vi e.2)] [(⟨t, 0, none⟩, .map (some mb)), (⟨b1, 1, none⟩, vi e.2)] (hasC (ba 1) (hasC (ba 3) has0)) ?_
   refine Xu 6 (lookY 207 (.tmp 49) (.tmp 51) false mb e.2 ((T1.set i { x1 with n := nwF e.1 x1.n }).map kp) (.pointer none) (.pointer (some ⟨yz.b, 0, none⟩)) 3 208 (some 52) (fun _ => by kernel_rfl) (by kernel_rfl) (by kernel_rfl) (fun _ => by kernel_rfl) (fun _ => by kernel_rfl) Tryz.underlying207 (by kernel_rfl) (fun _ => by kernel_rfl) (mapAt (H := (row wE 208 (.slice r3.1 (wy ++ [(x1.n.id, x1.b)]).length r3.2) (wy ++ [(x1.n.id, x1.b)]) :: blk t 210 [.map (some mb)] :: mapS mb ((T1.set i { x1 with n := nwF e.1 x1.n }).map kp) :: blk b1 230 [.int .i64 e.1, .int .i64 e.2] :: (nodesL (T1.set i { x1 with n := nwF e.1 x1.n }) ++ H))) (i := 2) rfl) (by rw [lk_some hT2 hs2.nd hj2 hyk]; rfl)) ?_
   refine Xt [7] [(0,vp t), (4,.pointer (some ⟨yz.b, 0, none⟩)), (5,.slice r3.1 ((wy ++ [(x1.n.id, x1.b)]).length) r3.2)] [] has0 ?_
   refine Xd ?_
   refine PT.pick 3 rfl ?_
   refine PT.drop ?_
   refine Xq (Xq (Xy0 0 [13, 14] 15 ?_))
   refine Xt [0, 1, 2, 3, 4, 5, 6, 7, 8, 9, 10, 11] [(0,vp t), (4,.pointer (some ⟨yz.b, 0, none⟩)), (5,.slice r3.1 ((wy ++ [(x1.n.id, x1.b)]).length) r3.2), (53,vp t), (54,.pointer (some ⟨yz.b, 0, none⟩)), (59,vi yz.n.pass), (64,vi yz.n.wt)] [(⟨yz.b, 3, none⟩, vi yz.n.pass), (⟨yz.b, 2, none⟩, vi yz.n.wt)] (hasC (up (up (up (nodeAt (T := T1.set i { x1 with n := nwF e.1 x1.n }) (List.mem_of_getElem? hj2) (j := 3) rfl)))) (hasC (up (up (up (nodeAt (T := T1.set i { x1 with n := nwF e.1 x1.n }) (List.mem_of_getElem? hj2) (j := 2) rfl)))) has0)) ?_
   refine Xo 12 (Xa (some 65) (fun _ => vi (yz.n.pass + strd yz.n.wt)) (strNext_walk _ yz.n.pass yz.n.wt (by rw [hyps]; omega) (by rw [hyz]; exact hyw))) (fun _ => ?_)
   refine Xo 13 (Xa (some 66) (fun (T' : { T' : List Nd // OkT (upN (upN N1 x1.n.id (nwF e.1)) yz.n.id (psF (yz.n.pass + strd yz.n.wt))) T' ∧ SameT (T1.set i { x1 with n := nwF e.1 x1.n }) T' ∧ SK (upN (upN N1 x1.n.id (nwF e.1)) yz.n.id (psF (yz.n.pass + strd yz.n.wt))) ∧ LB (upN (upN N1 x1.n.id (nwF e.1)) yz.n.id (psF (yz.n.pass + strd yz.n.wt))) }) => .nilIface) (frameT (fun H w => sets_walk hT2 hs2 hl2 hj2 hg2 (P := yz.n.pass + strd yz.n.wt) (by rw [hyps, hyz]; omega) H t mb w))) (fun (T' : { T' : List Nd // OkT (upN (upN N1 x1.n.id (nwF e.1)) yz.n.id (psF (yz.n.pass + strd yz.n.wt))) T' ∧ SameT (T1.set i { x1 with n := nwF e.1 x1.n }) T' ∧ SK (upN (upN N1 x1.n.id (nwF e.1)) yz.n.id (psF (yz.n.pass + strd yz.n.wt))) ∧ LB (upN (upN N1 x1.n.id (nwF e.1)) yz.n.id (psF (yz.n.pass + strd yz.n.wt))) }) => ?_)
   refine Xo 14 (calmS (.bool false) (some 67) (fun _ => by kernel_rfl)) (fun _ => ?_)
   refine Xd (Xc false (fun h => by cases h) (fun _ => ?_))
   refine Xk ?_
   refine gotoR 0 (by kernel_rfl) (by kernel_rfl) ?_
   obtain ⟨T3, hT3, hsm3, hs3, hl3⟩ := T'
   obtain ⟨y3, hy3, hy3k, hy3b, _⟩ := hsm3.at hj2
   rw [show yz.b = y3.b by rw [hy3b]]
   refine Xp [(0,vp t), (4,.pointer (some ⟨y3.b, 0, none⟩)), (5,.slice r3.1 ((wy ++ [(x1.n.id, x1.b)]).length) r3.2)] ?_
   exact jumpR (hK k ⟨T3, y3, wy ++ [(x1.n.id, x1.b)], r3.1, r3.2⟩ (by omega) ⟨⟨⟨_, hT3, hs3, (hr1.ups (nwF_skel e.1)).ups (psF_skel _), by simp only; rw [hy3k, hyz, hye] at *; exact hd2, by simp only; rw [hdn, downN, hly]; simp only [List.map_append]; rw [hy3k, hyz, hye]; rfl⟩, (hsm.trans hsm2).trans hsm3, by simp only; intro e' he'; rcases List.mem_append.1 he' with he' | he'; exact (hon.same (hsm2.trans hsm3)) e' he'; (simp at he'; subst he'; exact (OnT.same (T := T1) (wy := [(x1.n.id, x1.b)]) (fun e he => by simp at he; subst he; exact ⟨i, x1, hi, rfl, rfl⟩) (hsm2.trans hsm3)) _ (by simp)), ⟨j, hy3⟩, by simp only; rw [hy3k, hyz]; omega, by simp only; rw [hy3k, hyz, List.length_append, List.length_singleton]; omega⟩, hrdy⟩)
 ·skip
  intro K hK
  refine Xq (Xg 6 (Xl [(0,vp t), (2,vi 0), (3,.bool false), (11,.map (some mb))] [(⟨t, 0, none⟩, .map (some mb))] (hasC (ba 0) has0) ?_ 2 4))
  refine Xs (yldS (lookY 207 (.tmp 11) (.const (.int .i64 0)) false mb 0 (T.map kp) (.pointer none) (.pointer (some ⟨z0.b, 0, none⟩)) 3 208 (some 12) (fun _ => by kernel_rfl) (by kernel_rfl) (by kernel_rfl) (fun _ => by kernel_rfl) (fun _ => by kernel_rfl) Tryz.underlying207 (by kernel_rfl) (fun _ => by kernel_rfl) (mapAt (H := (blk t 210 [.map (some mb)] :: mapS mb (T.map kp) :: (nodesL T ++ H))) (i := 1) rfl) (by rw [lk_some hT hsk.nd hi0 hz0k]; rfl))) (fun _ => ?_) 1
  refine Xe [(0,vp t), (2,vi 0), (3,.bool false), (4,.pointer (some ⟨z0.b, 0, none⟩))] ?_ 1
  refine Xq (Xq (Xg 6 (Xm [(0,vp t), (2,vi 0), (3,.bool false), (4,.pointer (some ⟨z0.b, 0, none⟩)), (18,.bool (!z0.n.rdy))] [(⟨z0.b, 5, none⟩, .bool z0.n.rdy)] (hasC (up (up (nodeAt (T := T) hz0m (j := 5) rfl))) has0) ?_ 6)))
  refine Xc (!z0.n.rdy) (fun h1 => ?_) (fun h1 => ?_)
  ·skip
   have hrdy : r0.rdy = false := by rw [← hz0]; simpa using h1
   have hrn : runN N = ((0, false), N) := by rw [runN, hg0]; simp only [hrdy, Bool.false_eq_true, if_false]
   refine Xq (Xg 2 (Xe [(0,vp t), (2,vi 0), (3,.bool false), (4,.pointer (some ⟨z0.b, 0, none⟩))] ?_ 2))
   refine Xv (thenV (jumpV (Y0 (.tuple #[vi 0, .bool false]) (fun w hs => ?_))))
   exact ⟨⟨T, by rw [hrn]; exact hT, SameT.refl T⟩, by show _ = Ending.returned (.tuple #[.int .i64 (runN N).1.1, .bool (runN N).1.2]); rw [hrn], hs⟩
  ·skip
   have hrdy : r0.rdy = true := by rw [← hz0]; simpa using h1
   refine Xk (Xq (Xg 1 (Xe [(0,vp t), (2,vi 0), (3,.bool false), (4,.pointer (some ⟨z0.b, 0, none⟩)), (5,.slice none 0 0)] ?_ 1)))
   refine Xq ?_
   refine labelR (by kernel_rfl) ?_
   refine PT.rowNil wE 208 ?_
   refine Xp [(0,vp t), (4,.pointer (some ⟨z0.b, 0, none⟩)), (5,.slice none 0 0)] ?_
   refine codeR (by kernel_rfl) (hK 6 ⟨T, z0, [], none, 0⟩ ⟨⟨⟨N, hT, hsk, hrk, hw.dn rk _, by simp only [hz0k]; rfl⟩, SameT.refl T, fun _ h => by simp at h, ⟨i0, hi0⟩, by simp only; rw [hz0k, ← hr00, (hrk _ hr0).1 hr00], by simp only; rw [hz0k, ← hr00, (hrk _ hr0).1 hr00]; rfl⟩, hrdy⟩)
end Go.Proofs.YtfhkgohokbkgiaaGreatDoor
set_option linter.unusedVariables false
set_option linter.unusedSimpArgs false
namespace Go.Proofs.YtfhkgohokbkgiaaGreatDoor
open Go.RowKit G
/-- Below a node, or it itself. -/
inductive Bel (N : List Nr) : Int → Int → Prop
  | refl (k : Int) : Bel N k k
  | step {k t : Int} {y : Nr} : y ∈ N → y.par = k → Bel N y.id t → Bel N k t
/-- A change of nodes that leaves who they are, whether they are ready, what they weigh. -/
structure Still (g : Nr → Nr) : Prop where
  sk : Skel g
  rdy : ∀ x, (g x).rdy = x.rdy
  wt : ∀ x, (g x).wt = x.wt
theorem Still.same : Still (fun x => x) := ⟨Skel.same, fun _ => rfl, fun _ => rfl⟩
theorem Still.comp {f g : Nr → Nr} (hf : Still f) (hg : Still g) : Still (fun x => g (f x)) := ⟨hf.sk.comp hg.sk, fun x => by rw [hg.rdy, hf.rdy], fun x => by rw [hg.wt, hf.wt]⟩
theorem Still.ite {k : Int} {f : Nr → Nr} (hf : Still f) : Still (fun x => if x.id == k then f x else x) := ⟨skel_ite hf.sk, fun x => by split; exact hf.rdy x; rfl, fun x => by split; exact hf.wt x; rfl⟩
theorem nwF_still (P : Int) : Still (nwF P) := ⟨nwF_skel P, fun _ => rfl, fun _ => rfl⟩
theorem psF_still (P : Int) : Still (psF P) := ⟨psF_skel P, fun _ => rfl, fun _ => rfl⟩
theorem shG_still (k P : Int) : Still (shG k P) := ⟨shG_skel k P, fun x => by unfold shG; split <;> rfl, fun x => by unfold shG; split <;> rfl⟩
theorem Bel.still {N : List Nr} {g : Nr → Nr} (hg : Skel g) {k t : Int} (h : Bel (N.map g) k t) : Bel N k t := by
  induction h with
  | refl k => exact .refl k
  | step hy hp _ ih =>
    obtain ⟨v, hv, rfl⟩ := List.mem_map.1 hy
    rw [hg.id] at ih
    rw [hg.par] at hp
    exact .step hv hp ih
theorem KX.still {N : List Nr} {g : Nr → Nr} (hg : Still g) {k : Int} : KX (N.map g) k ↔ KX N k := by
  constructor
  · rintro ⟨z, hz, h1, h2⟩
    obtain ⟨v, hv, rfl⟩ := List.mem_map.1 hz
    exact ⟨v, hv, by rw [← hg.sk.par, h1], by rw [← hg.rdy, h2]⟩
  · rintro ⟨v, hv, h1, h2⟩
    exact ⟨g v, List.mem_map.2 ⟨v, hv, rfl⟩, by rw [hg.sk.par, h1], by rw [hg.rdy, h2]⟩
/-- One group's passes are made less: a map. -/
theorem shift_map {N : List Nr} (hs : SK N) {j : Int} {v : Nr} (hv : v ∈ N) (hj : v.id = j) : ∃ g, Still g ∧ shiftN N j = N.map g ∧ (∀ z, z.id ≠ j → (g z).now = z.now) ∧ (g v).now ≤ 16777216 ∧
    (∀ z, z.par ≠ j → (g z).pass = z.pass) ∧ (∀ z, z.par = j → (g z).pass = if 16777216 < v.now then mxI 0 (z.pass - v.now) else z.pass) := by
  subst hj
  by_cases hb : 16777216 < v.now
  · refine ⟨fun x => if (shG v.id v.now x).id == v.id then nwF 0 (shG v.id v.now x) else shG v.id v.now x, ?_, ?_, ?_, ?_, ?_, ?_⟩
    · exact (shG_still _ _).comp (Still.ite (nwF_still 0))
    · rw [shiftN_eq hs.nd hv hb, upN, List.map_map]; rfl
    · intro z hz
      have : (shG v.id v.now z).now = z.now := by unfold shG; split <;> rfl
      have h2 : (shG v.id v.now z).id = z.id := (shG_skel _ _).id z
      dsimp only
      rw [if_neg (by rw [h2]; simpa using hz), this]
    · have h2 : (shG v.id v.now v).id = v.id := (shG_skel _ _).id v
      dsimp only
      rw [if_pos (by rw [h2]; simp)]
      show (0 : Int) ≤ _; omega
    · intro z hz
      have : (shG v.id v.now z).pass = z.pass := by rw [shG_no hz]
      dsimp only
      split
      · exact this
      · exact this
    · intro z hz
      have : (shG v.id v.now z).pass = mxI 0 (z.pass - v.now) := by unfold shG; rw [if_pos (by simpa using hz)]
      rw [if_pos hb]
      dsimp only
      split
      · exact this
      · exact this
  · refine ⟨fun x => x, Still.same, by rw [shiftN_no hs.nd hv hb]; simp, fun _ _ => rfl, ?_, fun _ _ => rfl, fun _ _ => by rw [if_neg hb]⟩
    show v.now ≤ _; omega
theorem fold_shift {rk : Int → Nat} {r : Nat} : ∀ (way : List Int) {N : List Nr}, SK N → DN rk r N → way.Nodup → (∀ j ∈ way, ∃ v ∈ N, v.id = j) → (∀ z ∈ N, 16777216 < z.now → z.id ∈ way) →
    ∃ g, Still g ∧ way.foldl shiftN N = N.map g ∧ DN rk r (N.map g) ∧ (∀ v ∈ N.map g, v.now ≤ 16777216) ∧ (∀ k, k ∉ way → ∀ z ∈ N, z.par = k → (g z).pass = z.pass) ∧
      ∀ k ∈ way, ∀ v ∈ N, v.id = k → ∀ z ∈ N, z.par = k → (g z).pass = if 16777216 < v.now then mxI 0 (z.pass - v.now) else z.pass
  | [], N, hs, hd, _, _, hb => ⟨fun x => x, Still.same, by simp, by simpa using hd, fun v hv => by
      have hv' : v ∈ N := by simpa using hv
      have : ¬ 16777216 < v.now := fun h => by simpa using hb v hv' h
      omega, fun _ _ _ _ _ => rfl, fun k hk => by simp at hk⟩
  | j :: ws, N, hs, hd, hnd, hin, hb => by
    obtain ⟨hj, hnd'⟩ := List.nodup_cons.1 hnd
    obtain ⟨v, hv, hvj⟩ := hin j (by simp)
    obtain ⟨g1, s1, e1, n1, n2, p1, p2⟩ := shift_map hs hv hvj
    have hs1 : SK (N.map g1) := hs.map g1 s1.sk
    have hd1 : DN rk r (N.map g1) := e1 ▸ (hvj ▸ hd.shift hs hv)
    obtain ⟨g2, s2, e2, d2, b2, q1, q2⟩ := fold_shift ws hs1 hd1 hnd' (fun i hi => by
      obtain ⟨u, hu, hui⟩ := hin i (by simp [hi])
      exact ⟨g1 u, List.mem_map.2 ⟨u, hu, rfl⟩, by rw [s1.sk.id, hui]⟩) (fun z hz hzb => by
      obtain ⟨u, hu, rfl⟩ := List.mem_map.1 hz
      rw [s1.sk.id]
      by_cases c : u.id = j
      · have := nd_eq hs.nd hu hv (by rw [c, hvj]); subst this
        omega
      · rw [n1 u c] at hzb
        rcases List.mem_cons.1 (hb u hu hzb) with h | h
        · exact absurd h c
        · exact h)
    refine ⟨fun x => g2 (g1 x), s1.comp s2, ?_, ?_, ?_, ?_, ?_⟩
    · rw [List.foldl_cons, e1, e2, List.map_map]; rfl
    · rw [show (N.map fun x => g2 (g1 x)) = (N.map g1).map g2 by rw [List.map_map]; rfl]; exact d2
    · rw [show (N.map fun x => g2 (g1 x)) = (N.map g1).map g2 by rw [List.map_map]; rfl]; exact b2
    · intro k hk z hz hzk
      have hkj : z.par ≠ j := fun e => hk (by rw [← hzk, e]; simp)
      rw [q1 k (fun h => hk (by simp [h])) (g1 z) (List.mem_map.2 ⟨z, hz, rfl⟩) (by rw [s1.sk.par, hzk]), p1 z hkj]
    · intro k hk u hu huk z hz hzk
      rcases List.mem_cons.1 hk with rfl | hk
      · have := nd_eq hs.nd hu hv (by rw [huk, hvj]); subst this
        rw [q1 k hj (g1 z) (List.mem_map.2 ⟨z, hz, rfl⟩) (by rw [s1.sk.par, hzk]), p2 z hzk]
      · have hkj : k ≠ j := fun e => hj (e ▸ hk)
        rw [q2 k hk (g1 u) (List.mem_map.2 ⟨u, hu, rfl⟩) (by rw [s1.sk.id, huk]) (g1 z) (List.mem_map.2 ⟨z, hz, rfl⟩) (by rw [s1.sk.par, hzk]), n1 u (by rw [huk]; exact hkj), p1 z (by rw [hzk]; exact hkj)]
theorem down_all {rk : Int → Nat} : ∀ (f : Nat) {N : List Nr} {x : Nr} {way : List Int}, SK N → RK N rk → DN rk (rk x.id) N → x ∈ N → f + rk x.id = 7 → (x.thr = true ∨ KX N x.id) → x.rdy = true → (∀ z ∈ N, z.thr = false → (z.rdy = true ↔ KX N z.id)) →
    way.Nodup → (∀ j ∈ way, (∃ v ∈ N, v.id = j) ∧ rk j < rk x.id) → (∀ z ∈ N, 16777216 < z.now → z.id ∈ way) →
    ∃ g, Still g ∧ (downN f N x.id way).2 = N.map g ∧ DN rk 7 (N.map g) ∧ (∀ v ∈ N.map g, v.now ≤ 16777216) ∧ (∃ t ∈ N, t.id = (downN f N x.id way).1 ∧ t.thr = true ∧ t.rdy = true ∧ Bel N x.id t.id) ∧
      ∀ k ∈ way, ∀ v ∈ N, v.id = k → ∀ z ∈ N, z.par = k → (g z).pass = if 16777216 < v.now then mxI 0 (z.pass - v.now) else z.pass
  | 0, N, x, way, hs, hr, hd, hx, hf, _, _, _, _, _, _ => by have := (hr x hx).2.2.1; omega
  | f + 1, N, x, way, hs, hr, hd, hx, hf, hk, hxr, hrd, hnd, hin, hb => by
    rw [downN]
    cases hl : least (kidR N x.id) with
    | none =>
      simp only
      have hno : ¬ KX N x.id := fun h => (kidR_KX.2 h) (least_none.1 hl)
      have ht : x.thr = true := by rcases hk with h | h; exact h; exact absurd h hno
      obtain ⟨g, s1, e1, d1, b1, _, q2⟩ := fold_shift way hs hd hnd (fun j hj => (hin j hj).1) hb
      refine ⟨g, s1, e1, ⟨d1.wt, d1.now, fun z hz hz7 => ?_, d1.pass, d1.pu, d1.pn⟩, b1, ⟨x, hx, rfl, ht, hxr, .refl _⟩, q2⟩
      exact b1 z hz
    | some y =>
      simp only
      obtain ⟨hy, hmin⟩ := least_some hl
      obtain ⟨hyN, hyp, hyr⟩ := mem_kidR.1 hy
      obtain ⟨hd2, hyb, hyx⟩ := hd.step hs hr hx hyN hyp hyr hmin
      have hry := RK.up hs hr hyN hx hyp.symm
      have hxy : x.id ≠ y.id := fun e => by rw [e] at hry; omega
      have e0 : upN (upN N x.id fun x => { x with now := y.pass }) y.id (fun x => { x with pass := y.pass + strd y.wt }) = N.map (fun z => (fun z => if z.id == y.id then psF (y.pass + strd y.wt) z else z) ((fun z => if z.id == x.id then nwF y.pass z else z) z)) := by
        rw [upN, upN, List.map_map]; rfl
      have s0 : Still (fun z => (fun z => if z.id == y.id then psF (y.pass + strd y.wt) z else z) ((fun z => if z.id == x.id then nwF y.pass z else z) z)) := (Still.ite (nwF_still _)).comp (Still.ite (psF_still _))
      have hd3 : DN rk (rk y.id) (N.map (fun z => (fun z => if z.id == y.id then psF (y.pass + strd y.wt) z else z) ((fun z => if z.id == x.id then nwF y.pass z else z) z))) := e0 ▸ hd2
      have fy : (fun z => (fun z => if z.id == y.id then psF (y.pass + strd y.wt) z else z) ((fun z => if z.id == x.id then nwF y.pass z else z) z)) y = psF (y.pass + strd y.wt) y := by
        simp [Ne.symm hxy]
      have fo : ∀ z : Nr, z.id ≠ x.id → z.id ≠ y.id → (fun z => (fun z => if z.id == y.id then psF (y.pass + strd y.wt) z else z) ((fun z => if z.id == x.id then nwF y.pass z else z) z)) z = z := by
        intro z h1 h2; simp [h1, h2]
      have fx : (fun z => (fun z => if z.id == y.id then psF (y.pass + strd y.wt) z else z) ((fun z => if z.id == x.id then nwF y.pass z else z) z)) x = nwF y.pass x := by
        simp [nwF, hxy]
      rw [e0]
      generalize (fun z => (fun z => if z.id == y.id then psF (y.pass + strd y.wt) z else z) ((fun z => if z.id == x.id then nwF y.pass z else z) z)) = g0 at s0 hd3 fy fo fx
      have hs3 : SK (N.map g0) := hs.map g0 s0.sk
      have hr3 : RK (N.map g0) rk := fun z hz => by
        obtain ⟨v, hv, rfl⟩ := List.mem_map.1 hz
        rw [s0.sk.id, s0.sk.par, s0.sk.thr]; exact hr v hv
      have hy3 : psF (y.pass + strd y.wt) y ∈ N.map g0 := fy ▸ List.mem_map.2 ⟨y, hyN, rfl⟩
      obtain ⟨g, s1, e1, d1, b1, ⟨t, ht, hti, htt, htr, htb⟩, q⟩ := down_all f (N := N.map g0) (x := psF (y.pass + strd y.wt) y) (way := way ++ [x.id]) hs3 hr3 hd3 hy3 (by show f + rk y.id = 7; omega)
        (by
          show y.thr = true ∨ KX (N.map g0) y.id
          rw [KX.still s0]
          by_cases c : y.thr = true
          · exact .inl c
          · exact .inr ((hrd y hyN (by simpa using c)).1 hyr))
        hyr
        (fun z hz ht => by
          obtain ⟨v, hv, rfl⟩ := List.mem_map.1 hz
          rw [s0.rdy, s0.sk.id, KX.still s0]
          exact hrd v hv (by rw [← s0.sk.thr]; exact ht))
        (List.nodup_append.2 ⟨hnd, by simp, by
          intro a ha b hb' e
          simp at hb'; subst hb'; subst e
          have := (hin _ ha).2; omega⟩)
        (fun j hj => by
          show (∃ v ∈ N.map g0, v.id = j) ∧ rk j < rk y.id
          rcases List.mem_append.1 hj with hj | hj
          · obtain ⟨⟨v, hv, hvj⟩, hlt⟩ := hin j hj
            exact ⟨⟨g0 v, List.mem_map.2 ⟨v, hv, rfl⟩, by rw [s0.sk.id, hvj]⟩, by omega⟩
          · simp at hj; subst hj
            exact ⟨⟨g0 x, List.mem_map.2 ⟨x, hx, rfl⟩, s0.sk.id x⟩, by omega⟩)
        (fun z hz hzb => by
          obtain ⟨v, hv, rfl⟩ := List.mem_map.1 hz
          rw [s0.sk.id]
          by_cases c1 : v.id = x.id
          · simp [c1]
          · by_cases c2 : v.id = y.id
            · have := nd_eq hs.nd hv hyN c2; subst this
              rw [fy] at hzb
              exact List.mem_append_left _ (hb v hv hzb)
            · rw [fo v c1 c2] at hzb
              exact List.mem_append_left _ (hb v hv hzb))
      have ei : downN f (N.map g0) y.id (way ++ [x.id]) = downN f (N.map g0) (psF (y.pass + strd y.wt) y).id (way ++ [x.id]) := rfl
      rw [ei]
      obtain ⟨u, hu, rfl⟩ := List.mem_map.1 ht
      refine ⟨fun z => g (g0 z), s0.comp s1, ?_, ?_, ?_, ⟨u, hu, by rw [← s0.sk.id u]; exact hti, by rw [← s0.sk.thr u]; exact htt, by rw [← s0.rdy u]; exact htr, ?_⟩, ?_⟩
      · rw [e1, List.map_map]; rfl
      · rw [show (N.map fun z => g (g0 z)) = (N.map g0).map g by rw [List.map_map]; rfl]; exact d1
      · rw [show (N.map fun z => g (g0 z)) = (N.map g0).map g by rw [List.map_map]; rfl]; exact b1
      · have := htb.still s0.sk
        rw [s0.sk.id] at this
        exact .step hyN hyp this
      · intro k hk' v hv hvk z hz hzk
        have hkr := (hin k hk').2
        have hkx : k ≠ x.id := fun e => by rw [e] at hkr; omega
        have hky : k ≠ y.id := fun e => by rw [e] at hkr; omega
        have hzy : z.id ≠ y.id := fun e => by
          have := nd_eq hs.nd hz hyN e; subst this
          exact hkx (by rw [← hzk, hyp])
        have hgv : g0 v = v := fo v (by rw [hvk]; exact hkx) (by rw [hvk]; exact hky)
        have hgz : (g0 z).pass = z.pass := by
          by_cases c : z.id = x.id
          · have := nd_eq hs.nd hz hx c; subst this
            rw [fx]; rfl
          · rw [fo z c hzy]
        have := q k (List.mem_append_left _ hk') (g0 v) (List.mem_map.2 ⟨v, hv, rfl⟩) (by rw [s0.sk.id, hvk]) (g0 z) (List.mem_map.2 ⟨z, hz, rfl⟩) (by rw [s0.sk.par, hzk])
        rw [this, hgv, hgz]
/-- What Run makes of the nodes, as the root sees it. -/
theorem run_root {N : List Nr} (hw : WFN N) {r : Nr} (hr0 : gt N 0 = some r) (hrd : r.rdy = true) : ∃ (y : Nr) (id : Int) (g : Nr → Nr), runN N = ((id, true), N.map g) ∧ Still g ∧ WFN (N.map g) ∧ least (kidR N 0) = some y ∧
    (∃ t ∈ N, t.id = id ∧ t.thr = true ∧ t.rdy = true ∧ Bel N y.id id) ∧ ∃ δ : Int, ∀ z ∈ N, z.par = 0 → z.rdy = true → (g z).pass = z.pass + (if z.id = y.id then strd y.wt else 0) - δ := by
  have hs := hw.sk
  obtain ⟨rk, hr⟩ := hs.rk
  obtain ⟨hrN, hri⟩ := gt_mem hr0
  have hrt := hs.rt r hrN hri
  have hkx : KX N 0 := hri ▸ (hw.rd r hrN hrt.2).1 hrd
  have hrk : rk r.id = 1 := (hr r hrN).1 hri
  cases hl : least (kidR N 0) with
  | none => exact absurd (least_none.1 hl) (kidR_KX.2 hkx)
  | some y =>
    obtain ⟨hy, hmin⟩ := least_some hl
    obtain ⟨hyN, hyp, hyr⟩ := mem_kidR.1 hy
    have hd : DN rk (rk r.id) N := hw.dn rk _
    obtain ⟨hd2, hyb, hyx⟩ := hd.step hs hr hrN hyN (by rw [hyp, hri]) hyr (by rw [hri]; exact hmin)
    have hry := RK.up hs hr hyN hrN (by rw [hri, hyp])
    have hxy : r.id ≠ y.id := fun e => by rw [e] at hry; omega
    have e0 : upN (upN N 0 fun x => { x with now := y.pass }) y.id (fun x => { x with pass := y.pass + strd y.wt }) = N.map (fun z => (fun z => if z.id == y.id then psF (y.pass + strd y.wt) z else z) ((fun z => if z.id == r.id then nwF y.pass z else z) z)) := by
      rw [upN, upN, List.map_map, hri]; rfl
    have s0 : Still (fun z => (fun z => if z.id == y.id then psF (y.pass + strd y.wt) z else z) ((fun z => if z.id == r.id then nwF y.pass z else z) z)) := (Still.ite (nwF_still _)).comp (Still.ite (psF_still _))
    have hd3 : DN rk (rk y.id) (N.map (fun z => (fun z => if z.id == y.id then psF (y.pass + strd y.wt) z else z) ((fun z => if z.id == r.id then nwF y.pass z else z) z))) := by
      rw [← e0, ← hri]; exact hd2
    have fy : (fun z => (fun z => if z.id == y.id then psF (y.pass + strd y.wt) z else z) ((fun z => if z.id == r.id then nwF y.pass z else z) z)) y = psF (y.pass + strd y.wt) y := by simp [Ne.symm hxy]
    have fo : ∀ z : Nr, z.id ≠ r.id → z.id ≠ y.id → (fun z => (fun z => if z.id == y.id then psF (y.pass + strd y.wt) z else z) ((fun z => if z.id == r.id then nwF y.pass z else z) z)) z = z := by
      intro z h1 h2; simp [h1, h2]
    have fx : (fun z => (fun z => if z.id == y.id then psF (y.pass + strd y.wt) z else z) ((fun z => if z.id == r.id then nwF y.pass z else z) z)) r = nwF y.pass r := by simp [nwF, hxy]
    have hrun : runN N = (((downN 5 (N.map (fun z => (fun z => if z.id == y.id then psF (y.pass + strd y.wt) z else z) ((fun z => if z.id == r.id then nwF y.pass z else z) z))) y.id [0]).1, true), (downN 5 (N.map (fun z => (fun z => if z.id == y.id then psF (y.pass + strd y.wt) z else z) ((fun z => if z.id == r.id then nwF y.pass z else z) z))) y.id [0]).2) := by
      rw [runN, hr0]; simp only [hrd, if_true]; rw [downN, hl]; simp only; rw [e0]; rfl
    rw [hrun]
    generalize (fun z => (fun z => if z.id == y.id then psF (y.pass + strd y.wt) z else z) ((fun z => if z.id == r.id then nwF y.pass z else z) z)) = g0 at s0 hd3 fy fo fx
    have hs3 : SK (N.map g0) := hs.map g0 s0.sk
    have hr3 : RK (N.map g0) rk := fun z hz => by
      obtain ⟨v, hv, rfl⟩ := List.mem_map.1 hz
      rw [s0.sk.id, s0.sk.par, s0.sk.thr]; exact hr v hv
    have hy3 : psF (y.pass + strd y.wt) y ∈ N.map g0 := fy ▸ List.mem_map.2 ⟨y, hyN, rfl⟩
    have hrd3 : ∀ z ∈ N.map g0, z.thr = false → (z.rdy = true ↔ KX (N.map g0) z.id) := fun z hz ht => by
      obtain ⟨v, hv, rfl⟩ := List.mem_map.1 hz
      rw [s0.rdy, s0.sk.id, KX.still s0]
      exact hw.rd v hv (by rw [← s0.sk.thr]; exact ht)
    obtain ⟨g, s1, e1, d1, b1, ⟨t, ht, hti, htt, htr, htb⟩, q⟩ := down_all 5 (N := N.map g0) (x := psF (y.pass + strd y.wt) y) (way := [0]) hs3 hr3 hd3 hy3 (by show 5 + rk y.id = 7; omega)
      (by
        show y.thr = true ∨ KX (N.map g0) y.id
        rw [KX.still s0]
        by_cases c : y.thr = true
        · exact .inl c
        · exact .inr ((hw.rd y hyN (by simpa using c)).1 hyr)) hyr hrd3 (by simp)
      (fun j hj => by
        simp at hj; subst hj
        exact ⟨⟨g0 r, List.mem_map.2 ⟨r, hrN, rfl⟩, by rw [s0.sk.id, hri]⟩, by show rk 0 < rk y.id; rw [← hri]; omega⟩)
      (fun z hz hzb => by
        obtain ⟨v, hv, rfl⟩ := List.mem_map.1 hz
        rw [s0.sk.id]
        have hvn := (hw.now v hv).2
        by_cases c1 : v.id = r.id
        · simp [c1, hri]
        · by_cases c2 : v.id = y.id
          · have := nd_eq hs.nd hv hyN c2; subst this
            rw [fy] at hzb
            have : v.now ≤ 16777216 := hvn
            have : 16777216 < v.now := hzb
            omega
          · rw [fo v c1 c2] at hzb; omega)
    obtain ⟨u, hu, rfl⟩ := List.mem_map.1 ht
    have ei : downN 5 (N.map g0) y.id [0] = downN 5 (N.map g0) (psF (y.pass + strd y.wt) y).id [0] := rfl
    have sA : Still (fun z => g (g0 z)) := s0.comp s1
    have eA : (N.map fun z => g (g0 z)) = (N.map g0).map g := by rw [List.map_map]; rfl
    refine ⟨y, (downN 5 (N.map g0) y.id [0]).1, fun z => g (g0 z), by rw [eA, ← e1, ei], sA, ?_, rfl, ⟨u, hu, by rw [← s0.sk.id u]; exact hti, by rw [← s0.sk.thr u]; exact htt, by rw [← s0.rdy u]; exact htr, ?_⟩, ?_⟩
    · rw [eA]
      refine ⟨hs3.map g s1.sk, d1.wt, fun x hx => ⟨(d1.now x hx).1, b1 x hx⟩, d1.pass, fun x hx p hp e => ⟨d1.pu x hx p hp e, d1.pn x hx p hp e⟩, fun x hx ht => ?_⟩
      obtain ⟨v, hv, rfl⟩ := List.mem_map.1 hx
      show (g v).rdy = true ↔ KX ((N.map g0).map g) (g v).id
      rw [s1.rdy, s1.sk.id, KX.still s1]
      exact hrd3 v hv (by rw [← s1.sk.thr]; exact ht)
    · have := htb.still s0.sk
      rw [show (psF (y.pass + strd y.wt) y).id = y.id from rfl, hti] at this
      exact this
    · refine ⟨if 16777216 < y.pass then y.pass else 0, fun z hz hzp hzr => ?_⟩
      have hq := q 0 (by simp) (g0 r) (List.mem_map.2 ⟨r, hrN, rfl⟩) (by rw [s0.sk.id, hri]) (g0 z) (List.mem_map.2 ⟨z, hz, rfl⟩) (by rw [s0.sk.par, hzp])
      have hnow : (g0 r).now = y.pass := by rw [fx]; rfl
      rw [hnow] at hq
      have hzr0 : z.id ≠ r.id := fun e => by
        have := nd_eq hs.nd hz hrN e; subst this
        rw [hrt.1] at hzp; omega
      have hzl : y.pass ≤ z.pass := by
        have hl2 := hmin z (mem_kidR.2 ⟨hz, hzp, hzr⟩)
        have : ¬ z.pass < y.pass := fun c => by
          have : lessN z y = true := by simp [lessN, c]
          rw [this] at hl2; cases hl2
        omega
      have hst := strd_pos (hw.wt y hyN)
      have hgz : (g0 z).pass = z.pass + (if z.id = y.id then strd y.wt else 0) := by
        by_cases c : z.id = y.id
        · have := nd_eq hs.nd hz hyN c; subst this
          rw [fy, if_pos rfl]; rfl
        · rw [fo z hzr0 c, if_neg c]; omega
      show (g (g0 z)).pass = _
      rw [hq, hgz]
      by_cases c : 16777216 < y.pass
      · rw [if_pos c, if_pos c]
        unfold mxI
        split <;> split <;> omega
      · rw [if_neg c, if_neg c]; omega
end Go.Proofs.YtfhkgohokbkgiaaGreatDoor
namespace Go.Proofs.YtfhkgohokbkgiaaGreatDoor
open Go.RowKit Go.ChangeShapes Go.WideShapes G
/-- What a law's walk gives. -/
def LawPost (W : World) (e : Ending) (w' : World) : Prop := e = .returned (.bool true) ∧ Below W.heap.size W w'
theorem lawPost {ι : Type} {P : Program} {f : FuncId} {vs : Array Value} {W : World} {Hx : ι → List SP} (hs : ∀ x w, Sat w (Hx x) → Sat w [old W]) (h : Calls P f vs W (Ret (fun _ : ι => .bool true) Hx)) : Calls P f vs W (LawPost W) :=
  h.mono fun _ w' ⟨x, he, hx⟩ => ⟨he, (hs x w' hx).below (i := 0) rfl⟩
theorem wf_bounds {k : IntKind} {x : Int} (h : (Lit.int k x).wf = true) : k.min ≤ x ∧ x ≤ k.max := by
  have h2 : (decide (k.min ≤ x) && decide (x ≤ k.max)) = true := h
  rw [Bool.and_eq_true, decide_eq_true_eq, decide_eq_true_eq] at h2
  exact h2
theorem u8_wf {x : Int} (h : (Lit.int .u8 x).wf = true) : 0 ≤ x ∧ x < 256 := by
  have := wf_bounds h
  have h3 : IntKind.u8.min = 0 := rfl
  have h4 : IntKind.u8.max = 255 := rfl
  omega
theorem u16_wf {x : Int} (h : (Lit.int .u16 x).wf = true) : 0 ≤ x ∧ x < 65536 := by
  have := wf_bounds h
  have h3 : IntKind.u16.min = 0 := rfl
  have h4 : IntKind.u16.max = 65535 := rfl
  omega
end Go.Proofs.YtfhkgohokbkgiaaGreatDoor
set_option linter.unusedVariables false
set_option linter.unusedSimpArgs false
namespace Go.Proofs.YtfhkgohokbkgiaaGreatDoor
open Go.RowKit G
theorem root_ok (b ib : Nat) : OkT [rootN] [rootT b ib] := by
 refine ⟨rfl, fun x hx => ?_, fun x hx p k => ?_⟩
 ·simp at hx; subst hx; exact List.Pairwise.nil
 ·simp at hx; subst hx
  constructor
  ·intro h; cases h
  ·rintro ⟨y, hy, h, _⟩
   simp at hy; subst hy
   cases h
section
variable {N N' : List Nr} {T : List Nd}
theorem add_ok (hT : OkT N T) (hw : WFN N) {par id wt : Int} {thr : Bool} (h : addN N par id wt thr = (0, N')) (H : List SP) (t mb : Nat) : ∀ w, Sat w (blk t 210 [.map (some mb)] :: mapS mb (T.map kp) :: (nodesL T ++ H)) → Calls Tryz.prog 173 #[vp t, vi par, vi id, vi wt, .bool thr] w (Ret (ι := { T' : List Nd // OkT N' T' ∧ WFN N' }) (fun _ => .nilIface) fun T' => blk t 210 [.map (some mb)] :: mapS mb (T'.1.map kp) :: (nodesL T'.1 ++ H)) := fun w hs =>
 (add_walk hT hw.sk H t mb par id wt thr w hs).mono fun e w' ⟨⟨T', hT'⟩, he, hx⟩ => ⟨⟨T', by have := hT'; rw [h] at this; exact this, by have := add_wf hw par id wt thr; rw [h] at this; exact this⟩, he.trans (by show Ending.returned (pqErr _) = Ending.returned .nilIface; rw [h]; rfl), hx⟩
theorem add_no (hT : OkT N T) (hw : WFN N) {par id wt : Int} {thr : Bool} {e : Int} (h : addN N par id wt thr = (e, N)) (he : e ≠ 0) (H : List SP) (t mb : Nat) : ∀ w, Sat w (blk t 210 [.map (some mb)] :: mapS mb (T.map kp) :: (nodesL T ++ H)) → Calls Tryz.prog 173 #[vp t, vi par, vi id, vi wt, .bool thr] w (Ret (ι := { T' : List Nd // OkT N T' }) (fun _ => .iface 126 (vi e)) fun T' => blk t 210 [.map (some mb)] :: mapS mb (T'.1.map kp) :: (nodesL T'.1 ++ H)) := fun w hs =>
 (add_walk hT hw.sk H t mb par id wt thr w hs).mono fun e w' ⟨⟨T', hT'⟩, he', hx⟩ => ⟨⟨T', by have := hT'; rw [h] at this; exact this⟩, he'.trans (by show Ending.returned (pqErr _) = Ending.returned (.iface 126 (.int .i64 _)); rw [h, pqErr, if_neg he]), hx⟩
theorem ready_ok (hT : OkT N T) (hw : WFN N) {id : Int} {r : Bool} (h : readyN N id r = (0, N')) (H : List SP) (t mb : Nat) : ∀ w, Sat w (blk t 210 [.map (some mb)] :: mapS mb (T.map kp) :: (nodesL T ++ H)) → Calls Tryz.prog 60 #[vp t, vi id, .bool r] w (Ret (ι := { T' : List Nd // OkT N' T' ∧ WFN N' }) (fun _ => .nilIface) fun T' => blk t 210 [.map (some mb)] :: mapS mb (T'.1.map kp) :: (nodesL T'.1 ++ H)) := fun w hs =>
 (ready_walk hT hw.sk hw.lb H t mb id r w hs).mono fun e w' ⟨⟨T', hT', _⟩, he, hx⟩ => ⟨⟨T', by have := hT'; rw [h] at this; exact this, by have := ready_wf hw id r; rw [h] at this; exact this⟩, he.trans (by show Ending.returned (pqErr _) = Ending.returned .nilIface; rw [h]; rfl), hx⟩
theorem weight_ok (hT : OkT N T) (hw : WFN N) {id W : Int} (h : weightN N id W = (0, N')) (H : List SP) (t mb : Nat) : ∀ w, Sat w (blk t 210 [.map (some mb)] :: mapS mb (T.map kp) :: (nodesL T ++ H)) → Calls Tryz.prog 185 #[vp t, vi id, vi W] w (Ret (ι := { T' : List Nd // OkT N' T' ∧ WFN N' }) (fun _ => .nilIface) fun T' => blk t 210 [.map (some mb)] :: mapS mb (T'.1.map kp) :: (nodesL T'.1 ++ H)) := fun w hs =>
 (weight_walk hT hw H t mb id W w hs).mono fun e w' ⟨⟨T', hT', _⟩, he, hx⟩ => ⟨⟨T', by have := hT'; rw [h] at this; exact this, by have := weight_wf hw id W; rw [h] at this; exact this⟩, he.trans (by show Ending.returned (pqErr _) = Ending.returned .nilIface; rw [h]; rfl), hx⟩
theorem remove_no (hT : OkT N T) (hw : WFN N) {id : Int} {e : Int} (h : removeN N id = (e, N)) (he : e ≠ 0) (H : List SP) (t mb : Nat) : ∀ w, Sat w (blk t 210 [.map (some mb)] :: mapS mb (T.map kp) :: (nodesL T ++ H)) → Calls Tryz.prog 181 #[vp t, vi id] w (Ret (ι := { T' : List Nd // OkT N T' }) (fun _ => .iface 126 (vi e)) fun T' => blk t 210 [.map (some mb)] :: mapS mb (T'.1.map kp) :: (nodesL T'.1 ++ H)) := fun w hs =>
 (remove_walk hT hw.sk hw.lb H t mb id w hs).mono fun e w' ⟨⟨T', hT'⟩, he', hx⟩ => ⟨⟨T', by have := hT'; rw [h] at this; exact this⟩, he'.trans (by show Ending.returned (pqErr _) = Ending.returned (.iface 126 (.int .i64 _)); rw [h, pqErr, if_neg he]), hx⟩
theorem run_ok (hT : OkT N T) (hw : WFN N) {z : Int × Bool} (h : runN N = (z, N')) (hw' : WFN N') (H : List SP) (t mb : Nat) : ∀ w, Sat w (blk t 210 [.map (some mb)] :: mapS mb (T.map kp) :: (nodesL T ++ H)) → Calls Tryz.prog 70 #[vp t] w (Ret (ι := { T' : List Nd // OkT N' T' ∧ WFN N' }) (fun _ => .tuple #[vi z.1, .bool z.2]) fun T' => blk t 210 [.map (some mb)] :: mapS mb (T'.1.map kp) :: (nodesL T'.1 ++ H)) := fun w hs =>
 (run_walk hT hw H t mb w hs).mono fun e w' ⟨⟨T', hT', _⟩, he, hx⟩ => ⟨⟨T', by have := hT'; rw [h] at this; exact this, hw'⟩, he.trans (by show Ending.returned (.tuple #[.int .i64 (runN N).1.1, .bool (runN N).1.2]) = Ending.returned (.tuple #[.int .i64 z.1, .bool z.2]); rw [h]), hx⟩
end
theorem run_wf {N : List Nr} (hw : WFN N) : WFN (runN N).2 := by
 cases hg : gt N 0 with
 | none => rw [runN, hg]; exact hw
 | some r =>
  cases hr : r.rdy with
  | true => obtain ⟨y, id, g, h1, _, h3, _⟩ := run_root hw hg hr; rw [h1]; exact h3
  | false => rw [runN, hg]; simp only [hr, Bool.false_eq_true, if_false]; exact hw
theorem Sat.behind {l H : List SP} {w : World} (h : Sat w (l ++ H)) : Sat w H := by
 induction l with
 | nil => exact h
 | cons P l ih => exact ih h.tail
theorem behindAt {Tn : List Nd} {H : List SP} {b : Nat} {T : TypeId} {cs : List Value} {j : Nat} {v : Value} (hj : cs[j]? = some v) : ∀ w, Sat w (nodesL Tn ++ (blk b T cs :: H)) → w.cell? ⟨b, j, none⟩ = some v := fun w hs => blkAt (b := b) (T := T) (cs := cs) 0 rfl hj w (Sat.behind hs)
theorem PT.sink {n : Nat} {L : List (Nat × Value)} {X A B : SP} {T : List Nd} {H : List SP} {Φ : Act → World → Prop} (h : PT n L (A :: B :: (nodesL T ++ (X :: H))) Φ) : PT n L (X :: A :: B :: (nodesL T ++ H)) Φ :=
 PT.sat (fun _ hs => Sat.perm (List.perm_middle (a := X) (l₁ := A :: B :: nodesL T) (l₂ := H)).symm hs) h
/-! ### what the laws know first -/
def kn3 : List Nr := [rootN, ⟨1, 0, 1, 0, true, false, 0⟩, ⟨2, 0, 2, 0, true, false, 0⟩, ⟨3, 0, 1, 0, false, false, 0⟩]
def kn5 : List Nr := [⟨0, -1, 1, 0, false, true, 0⟩, ⟨1, 0, 1, 0, true, true, 0⟩, ⟨2, 0, 2, 0, true, true, 0⟩, ⟨3, 0, 1, 0, false, false, 0⟩]
def kn8 : List Nr := [⟨0, -1, 1, 0, false, true, 360360⟩, ⟨1, 0, 1, 720720, true, true, 0⟩, ⟨2, 0, 2, 720720, true, true, 0⟩, ⟨3, 0, 1, 0, false, false, 0⟩]
end Go.Proofs.YtfhkgohokbkgiaaGreatDoor
