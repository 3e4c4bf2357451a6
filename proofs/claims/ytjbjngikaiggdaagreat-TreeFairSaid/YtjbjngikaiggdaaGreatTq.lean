/- Trees: each operation keeps what holds of them. Conditions: none. -/
import Derived.Test.YtjbjngikaiggdaaGreatTd
import Derived.Test.YtjbjngikaiggdaaGreatTv
set_option linter.unusedVariables false
set_option linter.unusedSimpArgs false
namespace Go.Proofs.YtjbjngikaiggdaaGreat
open Go.RowKit G
/-- All but the groups' readiness. -/
structure WB (N : List Nr) : Prop where
  sk : SK N
  wt : ∀ x ∈ N, isW x.wt = true
  now : ∀ x ∈ N, 0 ≤ x.now ∧ x.now ≤ 16777216
  pass : ∀ x ∈ N, 0 ≤ x.pass ∧ x.pass ≤ 16777216 + 1441440
  pn : ∀ x ∈ N, ∀ p ∈ N, p.id = x.par → x.pass ≤ p.now + strd x.wt ∧ (x.rdy = true → p.now ≤ x.pass)
def KX (N : List Nr) (g : Int) : Prop := ∃ y ∈ N, y.par = g ∧ y.rdy = true
/-- Groups are ready as something in them is, but for one. -/
def RDx (N : List Nr) (k : Int) : Prop := ∀ x ∈ N, x.thr = false → x.id ≠ k → (x.rdy = true ↔ KX N x.id)
theorem WFN.wb {N : List Nr} (h : WFN N) : WB N := ⟨h.sk, h.wt, h.now, h.pass, h.pn⟩
theorem WFN.rdx {N : List Nr} (h : WFN N) (k : Int) : RDx N k := fun x hx ht _ => h.rd x hx ht
theorem WB.wf {N : List Nr} (h : WB N) (hr : ∀ x ∈ N, x.thr = false → (x.rdy = true ↔ KX N x.id)) : WFN N := ⟨h.sk, h.wt, h.now, h.pass, h.pn, hr⟩
theorem kidR_KX {N : List Nr} {g : Int} : kidR N g ≠ [] ↔ KX N g := by
  rw [kidR_ne]
  constructor
  · rintro ⟨p, k, y, hy, h1, h2, _⟩; exact ⟨y, hy, h1, h2⟩
  · rintro ⟨y, hy, h1, h2⟩; exact ⟨y.pass, y.id, y, hy, h1, h2, rfl, rfl⟩
theorem KX_up {N : List Nr} (hs : SK N) {x : Nr} (hx : x ∈ N) {f : Nr → Nr} (hf : Skel f) {g : Int} : KX (upN N x.id f) g ↔ (∃ y ∈ N, y.id ≠ x.id ∧ y.par = g ∧ y.rdy = true) ∨ (x.par = g ∧ (f x).rdy = true) := by
  constructor
  · rintro ⟨z, hz, h1, h2⟩
    obtain ⟨y, hy, ⟨e, rfl⟩ | ⟨e, rfl⟩⟩ := mem_upN.1 hz
    · have := nd_eq hs.nd hy hx e; subst this
      rw [hf.par] at h1; exact .inr ⟨h1, h2⟩
    · exact .inl ⟨_, hy, e, h1, h2⟩
  · rintro (⟨y, hy, e, h1, h2⟩ | ⟨h1, h2⟩)
    · exact ⟨y, mem_upN.2 ⟨y, hy, .inr ⟨e, rfl⟩⟩, h1, h2⟩
    · exact ⟨f x, mem_upN.2 ⟨x, hx, .inl ⟨rfl, rfl⟩⟩, by rw [hf.par, h1], h2⟩
theorem KX_ne {N : List Nr} (hs : SK N) {x : Nr} (hx : x ∈ N) {f : Nr → Nr} (hf : Skel f) {g : Int} (hg : x.par ≠ g) : KX (upN N x.id f) g ↔ KX N g := by
  rw [KX_up hs hx hf]
  constructor
  · rintro (⟨y, hy, _, h1, h2⟩ | ⟨h1, _⟩)
    · exact ⟨y, hy, h1, h2⟩
    · exact absurd h1 hg
  · rintro ⟨y, hy, h1, h2⟩
    refine .inl ⟨y, hy, fun e => ?_, h1, h2⟩
    have := nd_eq hs.nd hy hx e; subst this
    exact hg h1
/-- What a change of one node leaves of bounds. -/
theorem WB.up {N : List Nr} (h : WB N) {x : Nr} (hx : x ∈ N) {f : Nr → Nr} (hf : Skel f) (hw : isW (f x).wt = true) (hn : (f x).now = x.now) (hp : 0 ≤ (f x).pass ∧ (f x).pass ≤ 16777216 + 1441440)
    (hpn : ∀ p ∈ N, p.id = x.par → (f x).pass ≤ p.now + strd (f x).wt ∧ ((f x).rdy = true → p.now ≤ (f x).pass)) : WB (upN N x.id f) := by
  have hs := h.sk
  have key : ∀ z ∈ upN N x.id f, z.now = z.now ∧ ((z = f x) ∨ (z ∈ N ∧ z.id ≠ x.id)) := fun z hz => by
    obtain ⟨y, hy, ⟨e, rfl⟩ | ⟨e, rfl⟩⟩ := mem_upN.1 hz
    · have := nd_eq hs.nd hy hx e; subst this
      exact ⟨rfl, .inl rfl⟩
    · exact ⟨rfl, .inr ⟨hy, e⟩⟩
  have parent : ∀ p ∈ upN N x.id f, ∃ q ∈ N, q.id = p.id ∧ q.now = p.now := fun p hp => by
    rcases (key p hp).2 with rfl | ⟨hp, _⟩
    · exact ⟨x, hx, (hf.id x).symm, hn.symm⟩
    · exact ⟨p, hp, rfl, rfl⟩
  refine ⟨hs.upN hf, fun z hz => ?_, fun z hz => ?_, fun z hz => ?_, fun z hz p hp' e => ?_⟩
  · rcases (key z hz).2 with rfl | ⟨hz, _⟩
    · exact hw
    · exact h.wt z hz
  · rcases (key z hz).2 with rfl | ⟨hz, _⟩
    · rw [hn]; exact h.now x hx
    · exact h.now z hz
  · rcases (key z hz).2 with rfl | ⟨hz, _⟩
    · exact hp
    · exact h.pass z hz
  · obtain ⟨q, hq, hqi, hqn⟩ := parent p hp'
    rw [← hqn]
    rcases (key z hz).2 with rfl | ⟨hz, _⟩
    · exact hpn q hq (by rw [hqi, e, hf.par])
    · exact h.pn z hz q hq (by rw [hqi, e])
theorem skF {r : Bool} : Skel (fun x : Nr => { x with rdy := r }) := ⟨fun _ => rfl, fun _ => rfl, fun _ => rfl⟩
theorem wake_wf {rk : Int → Nat} : ∀ (f : Nat) {N : List Nr} {x : Nr}, WB N → RK N rk → x ∈ N → rk x.id ≤ f → RDx N x.id → (x.thr = true ∨ KX N x.id) → WFN (wakeN f N x.id)
  | 0, N, x, h, hr, hx, hf, _, _ => by have := hr.pos hx; omega
  | f + 1, N, x, h, hr, hx, hf, hrd, hk => by
    have hs := h.sk
    rw [wakeN, gt_of hs.nd hx]
    simp only
    by_cases c : x.rdy = true
    · rw [if_pos c]
      refine h.wf fun z hz ht => ?_
      by_cases e : z.id = x.id
      · have := nd_eq hs.nd hz hx e; subst this
        rcases hk with hk | hk
        · rw [ht] at hk; cases hk
        · exact ⟨fun _ => hk, fun _ => c⟩
      · exact hrd z hz ht e
    · rw [if_neg c]
      have c' : x.rdy = false := by simpa using c
      cases hg : gt N x.par with
      | none =>
        simp only
        have hnp := gt_none.1 hg
        refine (h.up hx (f := fun x => { x with rdy := true }) skF (h.wt x hx) rfl (h.pass x hx) (fun p hp e => absurd e (hnp p hp))).wf fun z hz ht => ?_
        obtain ⟨y, hy, ⟨e, rfl⟩ | ⟨e, rfl⟩⟩ := mem_upN.1 hz
        · have := nd_eq hs.nd hy hx e; subst this
          show true = true ↔ KX _ y.id
          rw [KX_ne hs hy skF (hs.ne_par hy).symm]
          rcases hk with hk | hk
          · have ht' : y.thr = false := ht
            rw [hk] at ht'; cases ht'
          · exact ⟨fun _ => hk, fun _ => rfl⟩
        · rw [KX_ne hs hx skF (fun e' => hnp z hy e'.symm)]
          exact hrd z hy ht e
      | some p =>
        simp only
        obtain ⟨hp, hpi⟩ := gt_mem hg
        have h1 := h.pass x hx
        have h2 := h.pn x hx p hp hpi
        have h3 := h.now p hp
        have h4 := strd_pos (h.wt x hx)
        have hmx : mxI x.pass p.now = x.pass ∨ mxI x.pass p.now = p.now := by unfold mxI; split <;> simp
        have hmg : x.pass ≤ mxI x.pass p.now ∧ p.now ≤ mxI x.pass p.now := by unfold mxI; split <;> omega
        have hb : WB (upN N x.id (wkF p.now)) := h.up hx (wkF_skel _) (h.wt x hx) rfl (by show 0 ≤ mxI x.pass p.now ∧ mxI x.pass p.now ≤ _; rcases hmx with e | e <;> rw [e] <;> omega)
          (fun q hq e => by
            have := nd_eq hs.nd hq hp (by rw [e, hpi]); subst this
            show mxI x.pass q.now ≤ q.now + strd x.wt ∧ (true = true → q.now ≤ mxI x.pass q.now)
            exact ⟨by rcases hmx with e | e <;> rw [e] <;> omega, fun _ => hmg.2⟩)
        have hpx : p.id ≠ x.id := fun e => hs.ne_par hx (by rw [← hpi, e])
        have hp' : p ∈ upN N x.id (wkF p.now) := mem_upN.2 ⟨p, hp, .inr ⟨hpx, rfl⟩⟩
        have hu := RK.up hs hr hx hp hpi
        have hrec := wake_wf f (x := p) hb (hr.ups (wkF_skel p.now)) hp' (by omega) (fun z hz ht e => by
          obtain ⟨y, hy, ⟨e2, rfl⟩ | ⟨e2, rfl⟩⟩ := mem_upN.1 hz
          · have := nd_eq hs.nd hy hx e2; subst this
            show true = true ↔ KX _ y.id
            rw [KX_ne hs hy (wkF_skel _) (hs.ne_par hy).symm]
            rcases hk with hk | hk
            · have ht' : y.thr = false := ht
              rw [hk] at ht'; cases ht'
            · exact ⟨fun _ => hk, fun _ => rfl⟩
          · rw [KX_ne hs hx (wkF_skel _) (fun e' => e (by rw [← e', hpi]))]
            exact hrd z hy ht e2) (.inr ((KX_up hs hx (wkF_skel _)).2 (.inr ⟨hpi.symm, rfl⟩)))
        rw [← hpi]
        exact hrec
theorem rest_wf {rk : Int → Nat} : ∀ (f : Nat) {N : List Nr} {x : Nr}, WB N → RK N rk → x ∈ N → rk x.id ≤ f → RDx N x.id → (x.thr = false → x.rdy = true) → WFN (restN f N x.id)
  | 0, N, x, h, hr, hx, hf, _, _ => by have := hr.pos hx; omega
  | f + 1, N, x, h, hr, hx, hf, hrd, hk => by
    have hs := h.sk
    rw [restN, gt_of hs.nd hx]
    simp only
    by_cases c : x.rdy = false ∨ kidR N x.id ≠ []
    · rw [if_pos c]
      refine h.wf fun z hz ht => ?_
      by_cases e : z.id = x.id
      · have := nd_eq hs.nd hz hx e; subst this
        rcases c with c | c
        · rw [hk ht] at c; cases c
        · exact ⟨fun _ => kidR_KX.1 c, fun _ => hk ht⟩
      · exact hrd z hz ht e
    · rw [if_neg c]
      have c1 : x.rdy = true := by cases hc : x.rdy with | true => rfl | false => exact absurd (.inl hc) c
      have c2 : ¬ KX N x.id := fun hh => c (.inr (kidR_KX.2 hh))
      cases hg : gt N x.par with
      | none =>
        simp only
        have hnp := gt_none.1 hg
        refine (h.up hx rsF_skel (h.wt x hx) rfl (h.pass x hx) (fun p hp e => absurd e (hnp p hp))).wf fun z hz ht => ?_
        obtain ⟨y, hy, ⟨e, rfl⟩ | ⟨e, rfl⟩⟩ := mem_upN.1 hz
        · have := nd_eq hs.nd hy hx e; subst this
          show false = true ↔ KX _ y.id
          rw [KX_ne hs hy rsF_skel (hs.ne_par hy).symm]
          exact ⟨fun hh => (by cases hh), fun hh => absurd hh c2⟩
        · rw [KX_ne hs hx rsF_skel (fun e' => hnp z hy e'.symm)]
          exact hrd z hy ht e
      | some p =>
        simp only
        obtain ⟨hp, hpi⟩ := gt_mem hg
        have hb : WB (upN N x.id rsF) := h.up hx rsF_skel (h.wt x hx) rfl (h.pass x hx) (fun q hq e => ⟨(h.pn x hx q hq e).1, fun hh => (by cases hh)⟩)
        have hpx : p.id ≠ x.id := fun e => hs.ne_par hx (by rw [← hpi, e])
        have hp' : p ∈ upN N x.id rsF := mem_upN.2 ⟨p, hp, .inr ⟨hpx, rfl⟩⟩
        have hu := RK.up hs hr hx hp hpi
        have hrec := rest_wf f (x := p) hb (hr.ups rsF_skel) hp' (by omega) (fun z hz ht e => by
          obtain ⟨y, hy, ⟨e2, rfl⟩ | ⟨e2, rfl⟩⟩ := mem_upN.1 hz
          · have := nd_eq hs.nd hy hx e2; subst this
            show false = true ↔ KX _ y.id
            rw [KX_ne hs hy rsF_skel (hs.ne_par hy).symm]
            exact ⟨fun hh => (by cases hh), fun hh => absurd hh c2⟩
          · rw [KX_ne hs hx rsF_skel (fun e' => e (by rw [← e', hpi]))]
            exact hrd z hy ht e2) (fun ht => (hrd p hp ht hpx).2 ⟨x, hx, hpi.symm, c1⟩)
        rw [← hpi]
        exact hrec
theorem root_wf : WFN [rootN] := by
  have hm : ∀ x ∈ [rootN], x = rootN := fun x hx => by simpa using hx
  have hno : ¬ ∃ y ∈ [rootN], y.par = rootN.id ∧ y.rdy = true := fun ⟨y, hy, h, _⟩ => by rw [hm y hy] at h; cases h
  refine ⟨⟨by simp, ⟨rootN, by simp, rfl⟩, fun x hx _ => by rw [hm x hx]; exact ⟨rfl, rfl⟩, fun x hx h => by rw [hm x hx] at h; exact absurd rfl h, by simp, fun _ => 1, fun x hx => by rw [hm x hx]; exact ⟨fun _ => rfl, fun h => absurd rfl h, by show 1 ≤ 5; omega, fun _ => by show 1 ≤ 4; omega⟩⟩, fun x hx => by rw [hm x hx]; rfl, fun x hx => by rw [hm x hx]; decide, fun x hx => by rw [hm x hx]; decide, fun x hx p hp h => ?_, fun x hx _ => ?_⟩
  · rw [hm x hx, hm p hp] at h; cases h
  · rw [hm x hx]
    constructor
    · intro h; cases h
    · intro h; exact absurd h hno
theorem ready_wf {N : List Nr} (h : WFN N) (k : Int) (r : Bool) : WFN (readyN N k r).2 := by
  obtain ⟨rk, hr⟩ := h.sk.rk
  unfold readyN
  split
  · exact h
  · rename_i x hg
    obtain ⟨hx, rfl⟩ := gt_mem hg
    split
    · rename_i ht
      have hle := (hr x hx).2.2.1
      cases r with
      | true => exact wake_wf 6 h.wb hr hx (by omega) (h.rdx _) (.inl ht)
      | false => exact rest_wf 6 h.wb hr hx (by omega) (h.rdx _) (fun hf => by rw [ht] at hf; cases hf)
    · exact h
theorem add_wf {N : List Nr} (h : WFN N) (par id wt : Int) (thr : Bool) : WFN (addN N par id wt thr).2 := by
  unfold addN
  split
  · exact h
  · rename_i c1
    have hw : isW wt = true := by cases hc : isW wt with | true => rfl | false => exact absurd (.inl hc) c1
    have hid : 1 ≤ id := by have : ¬ id < 1 := fun hh => c1 (.inr hh); omega
    split
    · exact h
    · rename_i p hp
      obtain ⟨hpN, hpi⟩ := gt_mem hp
      split
      · exact h
      · rename_i hth
        split
        · exact h
        · rename_i hcl
          split
          · exact h
          · rename_i hdp
            split
            · exact h
            · rename_i hln
              have hno : ∀ x ∈ N, x.id ≠ id := gt_none.1 (by cases hc : gt N id with | none => rfl | some y => rw [hc] at hcl; simp at hcl)
              have hpt : p.thr = false := by simpa using hth
              have hst := strd_pos hw
              have hpn := h.now p hpN
              have hsk : SK (N ++ [{ id := id, par := par, wt := wt, pass := p.now, thr := thr, rdy := false, now := 0 }]) := h.sk.add hpN hpi hpt hid hno (by
                cases thr with
                | true => exact .inl rfl
                | false => right; have : ¬ 4 ≤ deepN 6 N par := fun hh => hdp ⟨rfl, hh⟩; show deepN 6 N par < 4; omega) (by omega)
              have hm : ∀ x, x ∈ N ++ [{ id := id, par := par, wt := wt, pass := p.now, thr := thr, rdy := false, now := (0 : Int) }] → x ∈ N ∨ x = { id := id, par := par, wt := wt, pass := p.now, thr := thr, rdy := false, now := (0 : Int) } := fun x hx => by simpa using hx
              have hkx : ∀ g, KX (N ++ [{ id := id, par := par, wt := wt, pass := p.now, thr := thr, rdy := false, now := (0 : Int) }]) g ↔ KX N g := fun g => by
                constructor
                · rintro ⟨y, hy, g1, g2⟩
                  rcases hm y hy with hy | rfl
                  · exact ⟨y, hy, g1, g2⟩
                  · cases g2
                · rintro ⟨y, hy, g1⟩; exact ⟨y, List.mem_append_left _ hy, g1⟩
              refine ⟨hsk, fun x hx => ?_, fun x hx => ?_, fun x hx => ?_, fun x hx q hq e => ?_, fun x hx ht => ?_⟩
              · rcases hm x hx with hx | rfl
                · exact h.wt x hx
                · exact hw
              · rcases hm x hx with hx | rfl
                · exact h.now x hx
                · exact ⟨Int.le_refl _, by show (0 : Int) ≤ _; omega⟩
              · rcases hm x hx with hx | rfl
                · exact h.pass x hx
                · show 0 ≤ p.now ∧ p.now ≤ _; omega
              · rcases hm x hx with hx | rfl
                · rcases hm q hq with hq | rfl
                  · exact h.pn x hx q hq e
                  · by_cases c : x.id = 0
                    · have := (h.sk.rt x hx c).1; simp only at e; omega
                    · obtain ⟨_, v, hv, g2, _⟩ := h.sk.pa x hx c
                      exact absurd (by rw [g2, ← e]) (hno v hv)
                · refine ⟨?_, fun hh => by cases hh⟩
                  show p.now ≤ q.now + strd wt
                  rcases hm q hq with hq | rfl
                  · have := nd_eq h.sk.nd hq hpN (by rw [hpi]; exact e); subst this; omega
                  · have e' : id = par := e
                    exact absurd (by rw [hpi, e']) (hno p hpN)
              · show x.rdy = true ↔ KX _ x.id
                rw [hkx]
                rcases hm x hx with hx | rfl
                · exact h.rd x hx ht
                · constructor
                  · intro hh; cases hh
                  · rintro ⟨y, hy, g1, _⟩
                    by_cases c : y.id = 0
                    · have := (h.sk.rt y hy c).1
                      have e' : y.par = id := g1
                      omega
                    · obtain ⟨_, v, hv, g2, _⟩ := h.sk.pa y hy c
                      exact absurd (by rw [g2]; exact g1) (hno v hv)
theorem weight_wf {N : List Nr} (h : WFN N) (k W : Int) : WFN (weightN N k W).2 := by
  unfold weightN
  split
  · exact h
  · rename_i hwf
    have hw : isW W = true := by simpa using hwf
    split
    · exact h
    · rename_i x hg
      obtain ⟨hx, rfl⟩ := gt_mem hg
      split
      · exact h
      · split
        · exact h
        · rename_i p hgp
          obtain ⟨hp, hpi⟩ := gt_mem hgp
          have hb2 := h.now p hp
          have hb3 := h.pn x hx p hp hpi
          have hsc := scale_range (h.pass x hx).1 hb2 (h.wt x hx) hw hb3.1
          have hst := strd_pos hw
          have hskel : Skel (fun x : Nr => { x with pass := scaleN x.pass p.now x.wt W, wt := W }) := ⟨fun _ => rfl, fun _ => rfl, fun _ => rfl⟩
          refine (h.wb.up hx hskel hw rfl ?_ fun q hq e => ?_).wf fun z hz ht => ?_
          · show 0 ≤ scaleN x.pass p.now x.wt W ∧ scaleN x.pass p.now x.wt W ≤ _; omega
          · have := nd_eq h.sk.nd hq hp (by rw [e, hpi]); subst this
            show scaleN x.pass q.now x.wt W ≤ q.now + strd W ∧ (x.rdy = true → q.now ≤ scaleN x.pass q.now x.wt W)
            exact ⟨hsc.2.1, fun hr => hsc.2.2 (hb3.2 hr)⟩
          · have hkx : ∀ g, KX (upN N x.id fun x => { x with pass := scaleN x.pass p.now x.wt W, wt := W }) g ↔ KX N g := fun g => by
              rw [KX_up h.sk hx hskel]
              constructor
              · rintro (⟨y, hy, _, h1⟩ | h1)
                · exact ⟨y, hy, h1⟩
                · exact ⟨x, hx, h1⟩
              · rintro ⟨y, hy, h1⟩
                by_cases e : y.id = x.id
                · have := nd_eq h.sk.nd hy hx e; subst this; exact .inr h1
                · exact .inl ⟨y, hy, e, h1⟩
            rw [hkx]
            obtain ⟨y, hy, ⟨e, rfl⟩ | ⟨e, rfl⟩⟩ := mem_upN.1 hz
            · exact h.rd y hy ht
            · exact h.rd _ hy ht
theorem remove_wf {N : List Nr} (h : WFN N) (k : Int) : WFN (removeN N k).2 := by
  unfold removeN
  split
  · exact h
  · rename_i c1
    split
    · exact h
    · rename_i c2
      obtain ⟨rk, hr⟩ := h.sk.rk
      have hk0 : k ≠ 0 := fun e => c1 (.inr e)
      obtain ⟨x, hg⟩ : ∃ x, gt N k = some x := by cases hc : gt N k with | none => exact absurd (.inl (by rw [hc]; rfl)) c1 | some x => exact ⟨x, rfl⟩
      obtain ⟨hx, rfl⟩ := gt_mem hg
      obtain ⟨hkd, hnp⟩ := kid_none (N := N) (k := x.id) (by simpa using c2)
      have hle := (hr x hx).2.2.1
      have hwf : WFN (restN 6 N x.id) := by
        by_cases hc : x.thr = false → x.rdy = true
        · exact rest_wf 6 h.wb hr hx (by omega) (h.rdx _) hc
        · have hrf : x.rdy = false := by cases hrd : x.rdy with | false => rfl | true => exact absurd (fun _ => hrd) hc
          rw [restN, hg]
          simp only
          rw [if_pos (.inl hrf)]
          exact h
      obtain ⟨g, hg1, hg2, hg3⟩ := restN_map 6 N x.id
      have hoff := rest_off h.sk hg hkd
      have hnp2 : ∀ y ∈ restN 6 N x.id, y.par ≠ x.id := fun y hy => by
        rw [hg3] at hy
        obtain ⟨v, hv, rfl⟩ := List.mem_map.1 hy
        rw [hg1.par]; exact hnp v hv
      generalize restN 6 N x.id = M at hwf hoff hnp2
      have hm : ∀ y, y ∈ M.filter (fun y => !(y.id == x.id)) ↔ y ∈ M ∧ y.id ≠ x.id := fun y => by simp
      show WFN (M.filter (fun y => !(y.id == x.id)))
      refine ⟨hwf.sk.erase hk0 hnp2, fun y hy => hwf.wt y ((hm y).1 hy).1, fun y hy => hwf.now y ((hm y).1 hy).1, fun y hy => hwf.pass y ((hm y).1 hy).1, fun y hy p hp => hwf.pn y ((hm y).1 hy).1 p ((hm p).1 hp).1, fun y hy ht => ?_⟩
      rw [hwf.rd y ((hm y).1 hy).1 ht]
      constructor
      · rintro ⟨z, hz, h1, h2⟩
        exact ⟨z, (hm z).2 ⟨hz, fun e => by rw [hoff z hz e] at h2; cases h2⟩, h1, h2⟩
      · rintro ⟨z, hz, h1⟩; exact ⟨z, ((hm z).1 hz).1, h1⟩
end Go.Proofs.YtjbjngikaiggdaaGreat
