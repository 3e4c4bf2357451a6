/- Trees: one round of waking, of resting; another pass. Conditions: none. -/
import Derived.Test.YtjbjngikaiggdaaGreatTb
set_option linter.unusedVariables false
set_option linter.unusedSimpArgs false
namespace Go.Proofs.YtjbjngikaiggdaaGreat
open Go.RowKit G
def RK (N : List Nr) (rk : Int → Nat) : Prop := ∀ x ∈ N, (x.id = 0 → rk x.id = 1) ∧ (x.id ≠ 0 → rk x.id = rk x.par + 1) ∧ rk x.id ≤ 5 ∧ (x.thr = false → rk x.id ≤ 4)
theorem RK.ups {N : List Nr} {rk : Int → Nat} (h : RK N rk) {k : Int} {f : Nr → Nr} (hf : Skel f) : RK (upN N k f) rk := fun x hx => by
  obtain ⟨y, hy, ⟨_, rfl⟩ | ⟨_, rfl⟩⟩ := mem_upN.1 hx
  · rw [hf.id, hf.par, hf.thr]; exact h y hy
  · exact h x hy
theorem RK.pos {N : List Nr} {rk : Int → Nat} (h : RK N rk) {x : Nr} (hx : x ∈ N) : 1 ≤ rk x.id := by
  by_cases c : x.id = 0
  · rw [(h x hx).1 c]; omega
  · rw [(h x hx).2.1 c]; omega
theorem RK.up {N : List Nr} {rk : Int → Nat} (hs : SK N) (h : RK N rk) {x p : Nr} (hx : x ∈ N) (hp : p ∈ N) (he : p.id = x.par) : rk x.id = rk p.id + 1 := by
  by_cases c : x.id = 0
  · have h1 := (hs.rt x hx c).1
    have h2 := hs.neg (k := p.id) (by omega)
    rw [gt_of hs.nd hp] at h2; cases h2
  · rw [(h x hx).2.1 c, he]
theorem SK.ne_par {N : List Nr} (hs : SK N) {x : Nr} (hx : x ∈ N) : x.id ≠ x.par := by
  obtain ⟨rk, h⟩ := hs.rk
  intro e
  have := RK.up hs h hx hx e
  omega
theorem SK.pos {N : List Nr} (hs : SK N) {x : Nr} (hx : x ∈ N) : 0 ≤ x.id := by
  by_cases c : x.id = 0
  · omega
  · have := (hs.pa x hx c).1; omega
/-- What an index holds: each number once; fewer than there may be. -/
theorem OkT.uni {N : List Nr} {T : List Nd} (h : OkT N T) (hs : SK N) {x : Nd} (hx : x ∈ T) {e e' : Int × Int} (he : e ∈ x.q) (he' : e' ∈ x.q) (hk : e.2 = e'.2) : e = e' := by
  obtain ⟨p, k⟩ := e
  obtain ⟨p', k'⟩ := e'
  simp only at hk; subst hk
  rw [KD_uni hs.nd ((h.mem x hx p k).1 he) ((h.mem x hx p' k).1 he')]
theorem OkT.qlen {N : List Nr} {T : List Nd} (h : OkT N T) (hs : SK N) {x : Nd} (hx : x ∈ T) : x.q.length < 60 := by
  have h1 : (x.n.id :: x.q.map (·.2)).Nodup := by
    refine List.nodup_cons.2 ⟨fun hm => ?_, ?_⟩
    · obtain ⟨⟨p, k⟩, he, hk⟩ := List.mem_map.1 hm
      obtain ⟨y, hy, h1, _, _, h4⟩ := (h.mem x hx p k).1 he
      simp only at hk
      have := hs.ne_par hy
      rw [h4, h1, hk] at this
      exact this rfl
    · refine List.pairwise_map.2 ((h.srt x hx).imp_of_mem fun {a b} ha hb hab e => ?_)
      have := h.uni hs hx ha hb e
      subst this
      exact eLt_irrefl _ hab
  have h2 : (x.n.id :: x.q.map (·.2)) ⊆ N.map (·.id) := by
    intro k hk
    rcases List.mem_cons.1 hk with rfl | hk
    · exact List.mem_map.2 ⟨x.n, h.mem_n hx, rfl⟩
    · obtain ⟨⟨p, k⟩, he, rfl⟩ := List.mem_map.1 hk
      obtain ⟨y, hy, _, _, _, h4⟩ := (h.mem x hx p k).1 he
      exact List.mem_map.2 ⟨y, hy, h4⟩
  have h3 := h1.length_le_of_subset h2
  have h4 := hs.len
  simp only [List.length_cons, List.length_map] at h3
  omega
theorem LB.ups {N : List Nr} (h : LB N) {x : Nr} (hn : (N.map (·.id)).Nodup) (hx : x ∈ N) {f : Nr → Nr} (h1 : isW (f x).wt = true) (h2 : 0 ≤ (f x).pass ∧ (f x).pass ≤ 1099511627776) (h3 : 0 ≤ (f x).now ∧ (f x).now ≤ 1099511627776) : LB (upN N x.id f) := by
  have key : ∀ y ∈ upN N x.id f, (y = f x) ∨ y ∈ N := fun y hy => by
    obtain ⟨z, hz, ⟨e, rfl⟩ | ⟨_, rfl⟩⟩ := mem_upN.1 hy
    · left; rw [nd_eq hn hz hx e]
    · exact .inr hz
  refine ⟨fun y hy => ?_, fun y hy => ?_, fun y hy => ?_⟩ <;> rcases key y hy with rfl | hy
  · exact h1
  · exact h.wt y hy
  · exact h2
  · exact h.pass y hy
  · exact h3
  · exact h.now y hy
def wkF (P : Int) (x : Nr) : Nr := { x with rdy := true, pass := mxI x.pass P }
def rsF (x : Nr) : Nr := { x with rdy := false }
def psF (P : Int) (x : Nr) : Nr := { x with pass := P }
theorem wkF_skel (P : Int) : Skel (wkF P) := ⟨fun _ => rfl, fun _ => rfl, fun _ => rfl⟩
theorem rsF_skel : Skel rsF := ⟨fun _ => rfl, fun _ => rfl, fun _ => rfl⟩
theorem psF_skel (P : Int) : Skel (psF P) := ⟨fun _ => rfl, fun _ => rfl, fun _ => rfl⟩
theorem same2 {T : List Nd} {i j : Nat} {x p x' p' : Nd} (hi : T[i]? = some x) (hj : T[j]? = some p) (hij : i ≠ j) (hx : x'.n.id = x.n.id ∧ x'.b = x.b ∧ x'.ib = x.ib) (hp : p'.n.id = p.n.id ∧ p'.b = p.b ∧ p'.ib = p.ib) : SameT T ((T.set i x').set j p') :=
  (SameT.set hi hx).trans (SameT.set (x := p) (by rw [List.getElem?_set, if_neg hij]; exact hj) hp)
/-- A round of waking. -/
theorem wake_round {N : List Nr} {T : List Nd} (hT : OkT N T) (hsk : SK N) (hlb : LB N) {i j : Nat} {x p : Nd} (hi : T[i]? = some x) (hj : T[j]? = some p) (hp : p.n.id = x.n.par) (hr : x.n.rdy = false) :
    i ≠ j ∧ putE 60 p.q (mxI x.n.pass p.n.now) x.n.id = (0, insE (mxI x.n.pass p.n.now, x.n.id) p.q) ∧ p.q.length < 1000000 ∧ SrtE p.q ∧ x.n.pass.natAbs < 2 ^ 53 ∧ p.n.now.natAbs < 2 ^ 53 ∧
    OkT (upN N x.n.id (wkF p.n.now)) ((T.set i { x with n := wkF p.n.now x.n }).set j { p with q := insE (mxI x.n.pass p.n.now, x.n.id) p.q }) ∧
    SameT T ((T.set i { x with n := wkF p.n.now x.n }).set j { p with q := insE (mxI x.n.pass p.n.now, x.n.id) p.q }) ∧ SK (upN N x.n.id (wkF p.n.now)) ∧ LB (upN N x.n.id (wkF p.n.now)) := by
  have hxT := List.mem_of_getElem? hi
  have hpT := List.mem_of_getElem? hj
  have hx := hT.mem_n hxT
  have hpn := hT.mem_n hpT
  have hij : i ≠ j := fun e => by subst e; rw [hi] at hj; cases hj; exact hsk.ne_par hx hp
  have hno : ∀ e ∈ p.q, e.2 ≠ x.n.id := fun e he hk => by
    obtain ⟨s, k⟩ := e
    simp only at hk; subst hk
    have := (KD_one hsk.nd hx).1 ((hT.mem p hpT s _).1 he)
    rw [hr] at this; cases this.2.1
  have hql := hT.qlen hsk hpT
  have h1 := hlb.pass x.n hx
  have h2 := hlb.now p.n hpn
  have hmx : 0 ≤ mxI x.n.pass p.n.now ∧ mxI x.n.pass p.n.now ≤ 1099511627776 := by unfold mxI; split <;> omega
  refine ⟨hij, putE_ok hmx (hsk.pos hx) hno (by omega), by omega, hT.srt p hpT, by omega, by omega, ?_, ?_, hsk.upN (wkF_skel _), hlb.ups hsk.nd hx (hlb.wt x.n hx) hmx (hlb.now x.n hx)⟩
  · refine hT.two hsk.nd hi hj hp hij (wkF_skel _) ((hT.srt p hpT).ins fun e he h => hno e he (by rw [h])) fun s k => ?_
    rw [mem_insE, KD_up hsk.nd hx (wkF_skel _), Prod.mk.injEq]
    show (s = mxI x.n.pass p.n.now ∧ k = x.n.id) ∨ (s, k) ∈ p.q ↔ (k ≠ x.n.id ∧ KD N p.n.id s k) ∨ (k = x.n.id ∧ x.n.par = p.n.id ∧ true = true ∧ mxI x.n.pass p.n.now = s)
    rw [hT.mem p hpT s k]
    show _ ∨ KD N p.n.id s k ↔ _
    constructor
    · rintro (⟨rfl, rfl⟩ | h)
      · exact .inr ⟨rfl, hp.symm, rfl, rfl⟩
      · exact .inl ⟨fun e => hno (s, k) ((hT.mem p hpT s k).2 h) e, h⟩
    · rintro (⟨_, h⟩ | ⟨h3, _, _, h4⟩)
      · exact .inr h
      · exact .inl ⟨h4.symm, h3⟩
  · exact same2 hi hj hij ⟨rfl, rfl, rfl⟩ ⟨rfl, rfl, rfl⟩
/-- A round of resting. -/
theorem rest_round {N : List Nr} {T : List Nd} (hT : OkT N T) (hsk : SK N) (hlb : LB N) {i j : Nat} {x p : Nd} (hi : T[i]? = some x) (hj : T[j]? = some p) (hp : p.n.id = x.n.par) (hr : x.n.rdy = true) :
    i ≠ j ∧ p.q.length < 1000000 ∧ ∃ q, dropE p.q x.n.id = (0, q) ∧ OkT (upN N x.n.id rsF) ((T.set i { x with n := rsF x.n }).set j { p with q := q }) ∧ SameT T ((T.set i { x with n := rsF x.n }).set j { p with q := q }) ∧ SK (upN N x.n.id rsF) ∧ LB (upN N x.n.id rsF) := by
  have hxT := List.mem_of_getElem? hi
  have hpT := List.mem_of_getElem? hj
  have hx := hT.mem_n hxT
  have hij : i ≠ j := fun e => by subst e; rw [hi] at hj; cases hj; exact hsk.ne_par hx hp
  have hin : (x.n.pass, x.n.id) ∈ p.q := (hT.mem p hpT _ _).2 ((KD_one hsk.nd hx).2 ⟨hp.symm, hr, rfl⟩)
  obtain ⟨q, h1, h2, _, h4⟩ := dropE_is (hT.srt p hpT) hin rfl (fun e' he' hk => hT.uni hsk hpT he' hin hk)
  have hql := hT.qlen hsk hpT
  refine ⟨hij, by omega, q, h1, ?_, same2 hi hj hij ⟨rfl, rfl, rfl⟩ ⟨rfl, rfl, rfl⟩, hsk.upN rsF_skel, hlb.ups hsk.nd hx (hlb.wt x.n hx) (hlb.pass x.n hx) (hlb.now x.n hx)⟩
  refine hT.two hsk.nd hi hj hp hij rsF_skel h2 fun s k => ?_
  rw [h4, KD_up hsk.nd hx rsF_skel, hT.mem p hpT s k]
  show KD N p.n.id s k ∧ k ≠ x.n.id ↔ (k ≠ x.n.id ∧ KD N p.n.id s k) ∨ (k = x.n.id ∧ x.n.par = p.n.id ∧ false = true ∧ x.n.pass = s)
  simp [And.comm]
/-- A ready node's other pass. -/
theorem sets_round {N : List Nr} {T : List Nd} (hT : OkT N T) (hsk : SK N) (hlb : LB N) {i j : Nat} {x p : Nd} (hi : T[i]? = some x) (hj : T[j]? = some p) (hp : p.n.id = x.n.par) (hr : x.n.rdy = true) {P : Int} (hP : 0 ≤ P ∧ P ≤ 1099511627776) :
    i ≠ j ∧ p.q.length < 1000000 ∧ SrtE p.q ∧ ∃ q, rekeyE p.q x.n.id P = (0, q) ∧ OkT (upN N x.n.id (psF P)) ((T.set i { x with n := psF P x.n }).set j { p with q := q }) ∧ SameT T ((T.set i { x with n := psF P x.n }).set j { p with q := q }) ∧ SK (upN N x.n.id (psF P)) ∧ LB (upN N x.n.id (psF P)) := by
  have hxT := List.mem_of_getElem? hi
  have hpT := List.mem_of_getElem? hj
  have hx := hT.mem_n hxT
  have hij : i ≠ j := fun e => by subst e; rw [hi] at hj; cases hj; exact hsk.ne_par hx hp
  have hin : (x.n.pass, x.n.id) ∈ p.q := (hT.mem p hpT _ _).2 ((KD_one hsk.nd hx).2 ⟨hp.symm, hr, rfl⟩)
  obtain ⟨q, h1, h2, _, h4⟩ := rekeyE_is (hT.srt p hpT) hin rfl (fun e' he' hk => hT.uni hsk hpT he' hin hk) hP
  have hql := hT.qlen hsk hpT
  refine ⟨hij, by omega, hT.srt p hpT, q, h1, ?_, same2 hi hj hij ⟨rfl, rfl, rfl⟩ ⟨rfl, rfl, rfl⟩, hsk.upN (psF_skel P), hlb.ups hsk.nd hx (hlb.wt x.n hx) hP (hlb.now x.n hx)⟩
  refine hT.two hsk.nd hi hj hp hij (psF_skel P) h2 fun s k => ?_
  rw [h4, KD_up hsk.nd hx (psF_skel P), hT.mem p hpT s k, Prod.mk.injEq]
  show (s = P ∧ k = x.n.id) ∨ (KD N p.n.id s k ∧ k ≠ x.n.id) ↔ (k ≠ x.n.id ∧ KD N p.n.id s k) ∨ (k = x.n.id ∧ x.n.par = p.n.id ∧ x.n.rdy = true ∧ P = s)
  rw [hr]
  constructor
  · rintro (⟨rfl, rfl⟩ | ⟨h5, h6⟩)
    · exact .inr ⟨rfl, hp.symm, rfl, rfl⟩
    · exact .inl ⟨h6, h5⟩
  · rintro (⟨h5, h6⟩ | ⟨h5, _, _, h6⟩)
    · exact .inr ⟨h6, h5⟩
    · exact .inl ⟨h6.symm, h5⟩
/-- A walk up from a node: what is still to do. -/
structure Climb (F : Nat → List Nr → Int → List Nr) (N : List Nr) (k0 : Int) (T : List Nd) (rk : Int → Nat) (k : Nat) (T1 : List Nd) (x1 : Nd) : Prop where
  ex : ∃ N1, OkT N1 T1 ∧ SK N1 ∧ LB N1 ∧ RK N1 rk ∧ F 6 N k0 = F k N1 x1.n.id
  same : SameT T T1
  mem : ∃ i : Nat, T1[i]? = some x1
  le : rk x1.n.id ≤ k
end Go.Proofs.YtjbjngikaiggdaaGreat
