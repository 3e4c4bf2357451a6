/- Trees: the least that is ready; the way down; passes made less. Conditions: none. -/
import Derived.Test.YtjbjngikaiggdaaGreatTs
import Derived.Test.YtjbjngikaiggdaaGreatTz
set_option linter.unusedVariables false
set_option linter.unusedSimpArgs false
namespace Go.Proofs.YtjbjngikaiggdaaGreat
open Go.RowKit G
theorem lessN_iff {a b : Nr} : lessN a b = true ↔ eLt (a.pass, a.id) (b.pass, b.id) := by
  simp only [lessN, eLt, Bool.or_eq_true, Bool.and_eq_true, decide_eq_true_eq]
theorem least_none {l : List Nr} : least l = none ↔ l = [] := by
  cases l with
  | nil => simp [least]
  | cons x r =>
    simp only [least]
    constructor
    · intro h; split at h; cases h; split at h <;> cases h
    · intro h; cases h
theorem least_some : ∀ {l : List Nr} {m : Nr}, least l = some m → m ∈ l ∧ ∀ z ∈ l, lessN z m = false
  | [], m, h => by simp [least] at h
  | x :: r, m, h => by
    simp only [least] at h
    have irr : ∀ a : Nr, lessN a a = false := fun a => by
      cases hc : lessN a a with
      | false => rfl
      | true => exact absurd (lessN_iff.1 hc) (eLt_irrefl _)
    split at h
    · rename_i hn
      cases h
      rw [least_none.1 hn]
      exact ⟨by simp, fun z hz => by simp at hz; subst hz; exact irr _⟩
    · rename_i y hy
      obtain ⟨h1, h2⟩ := least_some hy
      by_cases hl : lessN y x = true
      · rw [if_pos hl] at h
        have e := Option.some.inj h
        rw [← e]
        refine ⟨.tail _ h1, fun z hz => ?_⟩
        rcases List.mem_cons.1 hz with ez | hz
        · rw [ez]
          cases hc : lessN x y with
          | false => rfl
          | true => exact absurd (eLt_trans (lessN_iff.1 hc) (lessN_iff.1 hl)) (eLt_irrefl _)
        · exact h2 z hz
      · rw [if_neg hl] at h
        have e := Option.some.inj h
        rw [← e]
        refine ⟨.head _, fun z hz => ?_⟩
        rcases List.mem_cons.1 hz with ez | hz
        · rw [ez]; exact irr _
        · cases hc : lessN z x with
          | false => rfl
          | true =>
            have hz2 := h2 z hz
            have hne : ¬ eLt (z.pass, z.id) (y.pass, y.id) := fun e => by rw [lessN_iff.2 e] at hz2; cases hz2
            rcases eLt_total hne with e | e
            · have e1 := lessN_iff.1 hc
              rw [e] at e1
              exact absurd (lessN_iff.2 e1) hl
            · exact absurd (lessN_iff.2 (eLt_trans e (lessN_iff.1 hc))) hl
theorem mem_kidR {N : List Nr} {k : Int} {y : Nr} : y ∈ kidR N k ↔ y ∈ N ∧ y.par = k ∧ y.rdy = true := by
  simp only [kidR, List.mem_filter, Bool.and_eq_true, beq_iff_eq]
/-- The first of an index is the least that is ready. -/
theorem least_q {N : List Nr} {T : List Nd} (h : OkT N T) (hs : SK N) {x : Nd} (hx : x ∈ T) {e : Int × Int} {r : List (Int × Int)} (hq : x.q = e :: r) : ∃ y, least (kidR N x.n.id) = some y ∧ y ∈ N ∧ y.par = x.n.id ∧ y.rdy = true ∧ y.pass = e.1 ∧ y.id = e.2 := by
  obtain ⟨p, k⟩ := e
  obtain ⟨y, hy, h1, h2, h3, h4⟩ := (h.mem x hx p k).1 (by rw [hq]; simp)
  cases hl : least (kidR N x.n.id) with
  | none =>
    have : y ∈ kidR N x.n.id := mem_kidR.2 ⟨hy, h1, h2⟩
    rw [least_none.1 hl] at this; cases this
  | some m =>
    obtain ⟨hm, hmin⟩ := least_some hl
    obtain ⟨hm1, hm2, hm3⟩ := mem_kidR.1 hm
    have hmq : (m.pass, m.id) ∈ x.q := (h.mem x hx _ _).2 ⟨m, hm1, hm2, hm3, rfl, rfl⟩
    have : m = y := by
      have h5 := hmin y (mem_kidR.2 ⟨hy, h1, h2⟩)
      rw [hq] at hmq
      rcases List.mem_cons.1 hmq with e | e
      · simp only [Prod.mk.injEq] at e
        exact nd_eq hs.nd hm1 hy (by rw [e.2, h4])
      · have hsr := h.srt x hx
        rw [hq] at hsr
        have h6 := (List.pairwise_cons.1 hsr).1 _ e
        rw [← h3, ← h4] at h6
        rw [lessN_iff.2 h6] at h5; cases h5
    subst this
    exact ⟨m, rfl, hy, h1, h2, h3, h4⟩
theorem least_nil {N : List Nr} {T : List Nd} (h : OkT N T) {x : Nd} (hx : x ∈ T) (hq : x.q = []) : least (kidR N x.n.id) = none := by
  rw [least_none]
  cases hk : kidR N x.n.id with
  | nil => rfl
  | cons a l => exact absurd hq ((q_kid h hx).2 (by rw [hk]; simp))
/-! ## passes within their bounds, on the way down -/
def PU (N : List Nr) : Prop := ∀ x ∈ N, ∀ p ∈ N, p.id = x.par → x.pass ≤ p.now + strd x.wt
def PN (N : List Nr) : Prop := ∀ x ∈ N, ∀ p ∈ N, p.id = x.par → x.rdy = true → p.now ≤ x.pass
structure DN (rk : Int → Nat) (r : Nat) (N : List Nr) : Prop where
  wt : ∀ x ∈ N, isW x.wt = true
  now : ∀ x ∈ N, 0 ≤ x.now ∧ x.now ≤ 16777216 + 720720
  low : ∀ x ∈ N, r ≤ rk x.id → x.now ≤ 16777216
  pass : ∀ x ∈ N, 0 ≤ x.pass ∧ x.pass ≤ 16777216 + 1441440
  pu : PU N
  pn : PN N
theorem DN.lb {rk : Int → Nat} {r : Nat} {N : List Nr} (h : DN rk r N) : LB N := ⟨h.wt, fun x hx => by have := h.pass x hx; omega, fun x hx => by have := h.now x hx; omega⟩
theorem WFN.dn {N : List Nr} (h : WFN N) (rk : Int → Nat) (r : Nat) : DN rk r N :=
  ⟨h.wt, fun x hx => by have := h.now x hx; omega, fun x hx _ => (h.now x hx).2, fun x hx => by have := h.pass x hx; omega, fun x hx p hp e => (h.pn x hx p hp e).1, fun x hx p hp e => (h.pn x hx p hp e).2⟩
def nwF (P : Int) (x : Nr) : Nr := { x with now := P }
theorem nwF_skel (P : Int) : Skel (nwF P) := ⟨fun _ => rfl, fun _ => rfl, fun _ => rfl⟩
/-- A step down: the group's now, the chosen one's pass. -/
theorem DN.step {rk : Int → Nat} {N : List Nr} (hs : SK N) (hr : RK N rk) {x y : Nr} (h : DN rk (rk x.id) N) (hx : x ∈ N) (hy : y ∈ N) (hyp : y.par = x.id) (hyr : y.rdy = true) (hmin : ∀ z ∈ kidR N x.id, lessN z y = false) :
    DN rk (rk y.id) (upN (upN N x.id (nwF y.pass)) y.id (psF (y.pass + strd y.wt))) ∧ y.pass ≤ 16777216 + 720720 ∧ x.now ≤ y.pass := by
  have hru := RK.up hs hr hy hx hyp.symm
  have hxl := h.low x hx (Nat.le_refl _)
  have hyw := strd_pos (h.wt y hy)
  have hyu := h.pu y hy x hx hyp.symm
  have hyn := h.pn y hy x hx hyp.symm hyr
  have hyp0 := h.pass y hy
  have hx0 := h.now x hx
  have hxy : x.id ≠ y.id := fun e => hs.ne_par hy (by rw [hyp, e])
  have key : ∀ z ∈ upN (upN N x.id (nwF y.pass)) y.id (psF (y.pass + strd y.wt)), ∃ v ∈ N, z.id = v.id ∧ z.par = v.par ∧ z.wt = v.wt ∧ z.rdy = v.rdy ∧ ((v = x ∧ z.now = y.pass) ∨ (v ≠ x ∧ z.now = v.now)) ∧ ((v = y ∧ z.pass = y.pass + strd y.wt) ∨ (v ≠ y ∧ z.pass = v.pass)) := by
    intro z hz
    obtain ⟨u, hu, hz2⟩ := mem_upN.1 hz
    obtain ⟨v, hv, hu2⟩ := mem_upN.1 hu
    refine ⟨v, hv, ?_⟩
    have evx : v.id = x.id ↔ v = x := ⟨fun e => nd_eq hs.nd hv hx e, fun e => e ▸ rfl⟩
    have evy : v.id = y.id ↔ v = y := ⟨fun e => nd_eq hs.nd hv hy e, fun e => e ▸ rfl⟩
    rcases hu2 with ⟨e1, rfl⟩ | ⟨e1, rfl⟩ <;> rcases hz2 with ⟨e2, rfl⟩ | ⟨e2, rfl⟩
    · exact absurd (e1.symm.trans e2) hxy
    · exact ⟨rfl, rfl, rfl, rfl, .inl ⟨evx.1 e1, rfl⟩, .inr ⟨fun e => e2 (evy.2 e), rfl⟩⟩
    · exact ⟨rfl, rfl, rfl, rfl, .inr ⟨fun e => e1 (evx.2 e), rfl⟩, .inl ⟨evy.1 e2, rfl⟩⟩
    · exact ⟨rfl, rfl, rfl, rfl, .inr ⟨fun e => e1 (evx.2 e), rfl⟩, .inr ⟨fun e => e2 (evy.2 e), rfl⟩⟩
  refine ⟨⟨fun z hz => ?_, fun z hz => ?_, fun z hz hzr => ?_, fun z hz => ?_, fun z hz p hp e => ?_, fun z hz p hp e hzr => ?_⟩, by omega, hyn⟩
  · obtain ⟨v, hv, _, _, e3, _⟩ := key z hz; rw [e3]; exact h.wt v hv
  · obtain ⟨v, hv, _, _, _, _, e5, _⟩ := key z hz
    have := h.now v hv
    rcases e5 with ⟨_, e5⟩ | ⟨_, e5⟩ <;> omega
  · obtain ⟨v, hv, e1, _, _, _, e5, _⟩ := key z hz
    rcases e5 with ⟨rfl, e5⟩ | ⟨_, e5⟩
    · rw [e1] at hzr; omega
    · rw [e5]; exact h.low v hv (by rw [← e1]; omega)
  · obtain ⟨v, hv, _, _, _, _, _, e6⟩ := key z hz
    have := h.pass v hv
    rcases e6 with ⟨_, e6⟩ | ⟨_, e6⟩ <;> omega
  · obtain ⟨v, hv, e1, e2, e3, _, _, e6⟩ := key z hz
    obtain ⟨q, hq, g1, _, _, _, g5, _⟩ := key p hp
    have hqv : q.id = v.par := by rw [← g1, e, e2]
    have hvu := h.pu v hv q hq hqv
    rw [e3]
    rcases g5 with ⟨rfl, g5⟩ | ⟨gn, g5⟩
    · rcases e6 with ⟨rfl, e6⟩ | ⟨_, e6⟩ <;> omega
    · rcases e6 with ⟨rfl, e6⟩ | ⟨_, e6⟩
      · exact absurd (nd_eq hs.nd hq hx (by rw [hqv, hyp])) gn
      · omega
  · obtain ⟨v, hv, e1, e2, _, e4, _, e6⟩ := key z hz
    obtain ⟨q, hq, g1, _, _, _, g5, _⟩ := key p hp
    have hqv : q.id = v.par := by rw [← g1, e, e2]
    rw [e4] at hzr
    have hvn := h.pn v hv q hq hqv hzr
    rcases g5 with ⟨rfl, g5⟩ | ⟨gn, g5⟩
    · rw [g5]
      rcases e6 with ⟨rfl, e6⟩ | ⟨_, e6⟩
      · omega
      · have hl := hmin v (mem_kidR.2 ⟨hv, hqv.symm, hzr⟩)
        have : ¬ v.pass < y.pass := fun c => by
          have : lessN v y = true := by simp [lessN, c]
          rw [this] at hl; cases hl
        omega
    · rcases e6 with ⟨rfl, e6⟩ | ⟨_, e6⟩ <;> omega
/-! ## passes made less -/
def shG (k P : Int) (x : Nr) : Nr := if x.par == k then { x with pass := mxI 0 (x.pass - P) } else x
theorem shG_skel (k P : Int) : Skel (shG k P) := ⟨fun x => by unfold shG; split <;> rfl, fun x => by unfold shG; split <;> rfl, fun x => by unfold shG; split <;> rfl⟩
theorem shiftN_eq {N : List Nr} {g : Nr} (hn : (N.map (·.id)).Nodup) (hg : g ∈ N) (hb : 16777216 < g.now) : shiftN N g.id = upN (N.map (shG g.id g.now)) g.id (nwF 0) := by
  rw [shiftN, gt_of hn hg]
  simp only
  rw [if_neg (by omega)]
  rfl
theorem shiftN_no {N : List Nr} {g : Nr} (hn : (N.map (·.id)).Nodup) (hg : g ∈ N) (hb : ¬ 16777216 < g.now) : shiftN N g.id = N := by
  rw [shiftN, gt_of hn hg]
  simp only
  rw [if_pos (by omega)]
theorem mem_shift {N : List Nr} {g : Nr} (hs : SK N) (hg : g ∈ N) {z : Nr} (hz : z ∈ upN (N.map (shG g.id g.now)) g.id (nwF 0)) : ∃ v ∈ N, z.id = v.id ∧ z.par = v.par ∧ z.wt = v.wt ∧ z.rdy = v.rdy ∧ z.thr = v.thr ∧ ((v = g ∧ z.now = 0) ∨ (v ≠ g ∧ z.now = v.now)) ∧ ((v.par = g.id ∧ z.pass = mxI 0 (v.pass - g.now)) ∨ (v.par ≠ g.id ∧ z.pass = v.pass)) := by
  obtain ⟨u, hu, hz2⟩ := mem_upN.1 hz
  obtain ⟨v, hv, rfl⟩ := List.mem_map.1 hu
  rw [(shG_skel _ _).id] at hz2
  have e0 : ((v.par = g.id ∧ (shG g.id g.now v).pass = mxI 0 (v.pass - g.now)) ∨ (v.par ≠ g.id ∧ (shG g.id g.now v).pass = v.pass)) ∧ (shG g.id g.now v).wt = v.wt ∧ (shG g.id g.now v).rdy = v.rdy ∧ (shG g.id g.now v).now = v.now := by
    unfold shG
    by_cases c : v.par = g.id <;> simp [c]
  have e1 := shG_skel g.id g.now
  have evg : v.id = g.id ↔ v = g := ⟨fun e => nd_eq hs.nd hv hg e, fun e => e ▸ rfl⟩
  refine ⟨v, hv, ?_⟩
  rcases hz2 with ⟨e2, rfl⟩ | ⟨e2, rfl⟩
  · exact ⟨e1.id v, e1.par v, e0.2.1, e0.2.2.1, e1.thr v, .inl ⟨evg.1 e2, rfl⟩, e0.1⟩
  · exact ⟨e1.id v, e1.par v, e0.2.1, e0.2.2.1, e1.thr v, .inr ⟨fun e => e2 (evg.2 e), e0.2.2.2⟩, e0.1⟩
theorem DN.shift {rk : Int → Nat} {r : Nat} {N : List Nr} (hs : SK N) {g : Nr} (h : DN rk r N) (hg : g ∈ N) : DN rk r (shiftN N g.id) := by
  by_cases hb : 16777216 < g.now
  · rw [shiftN_eq hs.nd hg hb]
    have key := fun {z} hz => mem_shift (z := z) hs hg hz
    refine ⟨fun z hz => ?_, fun z hz => ?_, fun z hz hzr => ?_, fun z hz => ?_, fun z hz p hp e => ?_, fun z hz p hp e hzr => ?_⟩
    · obtain ⟨v, hv, _, _, e3, _⟩ := key hz; rw [e3]; exact h.wt v hv
    · obtain ⟨v, hv, _, _, _, _, _, e5, _⟩ := key hz
      have := h.now v hv
      rcases e5 with ⟨_, e5⟩ | ⟨_, e5⟩ <;> omega
    · obtain ⟨v, hv, e1, _, _, _, _, e5, _⟩ := key hz
      rcases e5 with ⟨_, e5⟩ | ⟨_, e5⟩
      · omega
      · rw [e5]; exact h.low v hv (by rw [← e1]; exact hzr)
    · obtain ⟨v, hv, _, _, _, _, _, _, e6⟩ := key hz
      have := h.pass v hv
      have h2 := h.now g hg
      rcases e6 with ⟨_, e6⟩ | ⟨_, e6⟩
      · rw [e6]; unfold mxI; split <;> omega
      · omega
    · obtain ⟨v, hv, e1, e2, e3, _, _, _, e6⟩ := key hz
      obtain ⟨q, hq, g1, _, _, _, _, g5, _⟩ := key hp
      have hqv : q.id = v.par := by rw [← g1, e, e2]
      have hvu := h.pu v hv q hq hqv
      have hst := strd_pos (h.wt v hv)
      rw [e3]
      rcases g5 with ⟨rfl, g5⟩ | ⟨gn, g5⟩
      · rcases e6 with ⟨_, e6⟩ | ⟨e6, _⟩
        · rw [e6, g5]; unfold mxI; split <;> omega
        · exact absurd hqv.symm e6
      · rcases e6 with ⟨e6, _⟩ | ⟨_, e6⟩
        · exact absurd (nd_eq hs.nd hq hg (by rw [hqv, e6])) gn
        · omega
    · obtain ⟨v, hv, e1, e2, _, e4, _, _, e6⟩ := key hz
      obtain ⟨q, hq, g1, _, _, _, _, g5, _⟩ := key hp
      have hqv : q.id = v.par := by rw [← g1, e, e2]
      rw [e4] at hzr
      have hvn := h.pn v hv q hq hqv hzr
      rcases g5 with ⟨rfl, g5⟩ | ⟨gn, g5⟩
      · rcases e6 with ⟨_, e6⟩ | ⟨e6, _⟩
        · rw [e6, g5]; unfold mxI; split <;> omega
        · exact absurd hqv.symm e6
      · rcases e6 with ⟨e6, _⟩ | ⟨_, e6⟩
        · exact absurd (nd_eq hs.nd hq hg (by rw [hqv, e6])) gn
        · omega
  · rw [shiftN_no hs.nd hg hb]; exact h
theorem SK.shift {N : List Nr} (hs : SK N) {g : Nr} (hg : g ∈ N) : SK (shiftN N g.id) := by
  by_cases hb : 16777216 < g.now
  · rw [shiftN_eq hs.nd hg hb]
    exact (hs.map _ (shG_skel _ _)).upN (nwF_skel 0)
  · rw [shiftN_no hs.nd hg hb]; exact hs
end Go.Proofs.YtjbjngikaiggdaaGreat
