/- Trees: what waking, resting leave; a node comes, a node goes. Conditions: none. -/
import Derived.Test.YtjbjngikaiggdaaGreatTr
set_option linter.unusedVariables false
set_option linter.unusedSimpArgs false
namespace Go.Proofs.YtjbjngikaiggdaaGreat
open Go.RowKit G
theorem Skel.comp {f g : Nr → Nr} (hf : Skel f) (hg : Skel g) : Skel (fun x => g (f x)) := ⟨fun x => by rw [hg.id, hf.id], fun x => by rw [hg.par, hf.par], fun x => by rw [hg.thr, hf.thr]⟩
theorem Skel.same : Skel (fun x => x) := ⟨fun _ => rfl, fun _ => rfl, fun _ => rfl⟩
/-- Resting: nodes are ready no more. -/
theorem restN_map : ∀ (f : Nat) (N : List Nr) (k : Int), ∃ g, Skel g ∧ (∀ x, (g x).pass = x.pass ∧ (g x).wt = x.wt ∧ (g x).now = x.now ∧ ((g x).rdy = true → x.rdy = true)) ∧ restN f N k = N.map g
  | 0, N, k => ⟨fun x => x, Skel.same, fun x => ⟨rfl, rfl, rfl, id⟩, by simp [restN]⟩
  | f + 1, N, k => by
    have h0 : ∃ g, Skel g ∧ (∀ x, (g x).pass = x.pass ∧ (g x).wt = x.wt ∧ (g x).now = x.now ∧ ((g x).rdy = true → x.rdy = true)) ∧ N = N.map g := ⟨fun x => x, Skel.same, fun x => ⟨rfl, rfl, rfl, id⟩, by simp⟩
    have h1 : ∃ g, Skel g ∧ (∀ x, (g x).pass = x.pass ∧ (g x).wt = x.wt ∧ (g x).now = x.now ∧ ((g x).rdy = true → x.rdy = true)) ∧ upN N k rsF = N.map g := ⟨_, skel_ite (k := k) rsF_skel, fun x => by by_cases c : (x.id == k) = true <;> simp [c, rsF], rfl⟩
    rw [restN]
    split
    · exact h0
    · split
      · exact h0
      · split
        · exact h1
        · obtain ⟨g, hg, hg2, hg3⟩ := h1
          rename_i x0 _ _ _ _ _
          obtain ⟨g', k1, k2, k3⟩ := restN_map f (upN N k rsF) x0.par
          refine ⟨fun x => g' (g x), hg.comp k1, fun x => ?_, ?_⟩
          · obtain ⟨a1, a2, a3, a4⟩ := k2 (g x)
            obtain ⟨b1, b2, b3, b4⟩ := hg2 x
            exact ⟨by rw [a1, b1], by rw [a2, b2], by rw [a3, b3], fun h => b4 (a4 h)⟩
          · have e : restN f (upN N k fun x => { x with rdy := false }) x0.par = _ := k3
            rw [e, hg3, List.map_map]; rfl
theorem wakeN_map : ∀ (f : Nat) (N : List Nr) (k : Int), ∃ g, Skel g ∧ (∀ x, (g x).wt = x.wt ∧ (g x).now = x.now) ∧ wakeN f N k = N.map g
  | 0, N, k => ⟨fun x => x, Skel.same, fun x => ⟨rfl, rfl⟩, by simp [wakeN]⟩
  | f + 1, N, k => by
    have h0 : ∃ g, Skel g ∧ (∀ x, (g x).wt = x.wt ∧ (g x).now = x.now) ∧ N = N.map g := ⟨fun x => x, Skel.same, fun x => ⟨rfl, rfl⟩, by simp⟩
    rw [wakeN]
    split
    · exact h0
    · split
      · exact h0
      · split
        · refine ⟨_, skel_ite (k := k) (f := fun x => { x with rdy := true }) ⟨fun _ => rfl, fun _ => rfl, fun _ => rfl⟩, fun x => by by_cases c : (x.id == k) = true <;> simp [c], rfl⟩
        · rename_i x0 _ _ _ p _
          have h1 : ∃ g, Skel g ∧ (∀ x, (g x).wt = x.wt ∧ (g x).now = x.now) ∧ upN N k (wkF p.now) = N.map g := ⟨_, skel_ite (k := k) (wkF_skel p.now), fun x => by by_cases c : (x.id == k) = true <;> simp [c, wkF], rfl⟩
          obtain ⟨g, hg, hg2, hg3⟩ := h1
          obtain ⟨g', k1, k2, k3⟩ := wakeN_map f (upN N k (wkF p.now)) x0.par
          refine ⟨fun x => g' (g x), hg.comp k1, fun x => ?_, ?_⟩
          · rw [(k2 (g x)).1, (hg2 x).1, (k2 (g x)).2, (hg2 x).2]; exact ⟨rfl, rfl⟩
          · have e : wakeN f (upN N k fun x => { x with rdy := true, pass := mxI x.pass p.now }) x0.par = _ := k3
            rw [e, hg3, List.map_map]; rfl
theorem rest_off {N : List Nr} (hs : SK N) {k : Int} {x : Nr} (hg : gt N k = some x) (hk : kidR N k = []) : ∀ y ∈ restN 6 N k, y.id = k → y.rdy = false := by
  intro y hy hyk
  have hx := gt_mem hg
  rw [restN, hg] at hy
  simp only at hy
  by_cases c : x.rdy = false
  · rw [if_pos (.inl c)] at hy
    rw [nd_eq hs.nd hy hx.1 (by rw [hyk, hx.2])]; exact c
  · rw [if_neg (by simp [c, hk])] at hy
    have h1 : ∀ z ∈ upN N k rsF, z.id = k → z.rdy = false := by
      intro z hz hzk
      obtain ⟨v, hv, ⟨_, rfl⟩ | ⟨h, rfl⟩⟩ := mem_upN.1 hz
      · rfl
      · exact absurd hzk h
    split at hy
    · exact h1 y hy hyk
    · obtain ⟨g, hg1, hg2, hg3⟩ := restN_map 5 (upN N k rsF) x.par
      have e : restN 5 (upN N k fun x => { x with rdy := false }) x.par = _ := hg3
      rw [e] at hy
      obtain ⟨z, hz, rfl⟩ := List.mem_map.1 hy
      rw [hg1.id] at hyk
      cases hr : (g z).rdy with
      | false => rfl
      | true => rw [← (hg2 z).2.2.2 hr, h1 z hz hyk]
/-! ### a node goes -/
theorem del_kp (T : List Nd) (k : Int) : delE (T.map kp) k = (T.eraseP (fun x => x.n.id == k)).map kp := by
  induction T with
  | nil => rfl
  | cons a T ih =>
    simp only [delE, List.map_cons, List.eraseP_cons, kp] at ih ⊢
    cases a.n.id == k with
    | true => rfl
    | false => simpa [kp] using ih
theorem erase_n {T : List Nd} (k : Int) (hn : ((T.map (·.n)).map (·.id)).Nodup) : (T.eraseP (fun x => x.n.id == k)).map (·.n) = (T.map (·.n)).filter (fun x => !(x.id == k)) := by
  induction T with
  | nil => rfl
  | cons a T ih =>
    simp only [List.map_cons, List.nodup_cons] at hn
    simp only [List.eraseP_cons, List.map_cons, List.filter_cons]
    by_cases c : a.n.id = k
    · have c' : (a.n.id == k) = true := by simpa using c
      rw [c']
      simp only [cond_true, Bool.not_true, Bool.false_eq_true, if_false]
      symm
      rw [List.filter_eq_self]
      intro y hy
      have : y.id ≠ k := fun e => hn.1 (by rw [c, ← e]; exact List.mem_map.2 ⟨y, hy, rfl⟩)
      simpa using this
    · have c' : (a.n.id == k) = false := by simpa using c
      rw [c']
      simp only [cond_false, Bool.not_false, if_true, List.map_cons, ih hn.2]
theorem erase_perm {T : List Nd} {k : Int} {z : Nd} (h : T.find? (fun x => x.n.id == k) = some z) : T.Perm (z :: T.eraseP (fun x => x.n.id == k)) := by
  induction T with
  | nil => simp at h
  | cons a T ih =>
    simp only [List.find?_cons] at h
    simp only [List.eraseP_cons]
    cases hc : a.n.id == k with
    | true => rw [hc] at h; cases h; exact .refl _
    | false => rw [hc] at h; exact ((ih h).cons a).trans (.swap _ _ _)
theorem SK.erase {N : List Nr} (hs : SK N) {k : Int} (hk : k ≠ 0) (hno : ∀ x ∈ N, x.par ≠ k) : SK (N.filter (fun x => !(x.id == k))) := by
  have hm : ∀ x, x ∈ N.filter (fun x => !(x.id == k)) ↔ x ∈ N ∧ x.id ≠ k := fun x => by simp
  refine ⟨(List.filter_sublist.map _).nodup hs.nd, ?_, fun x hx => hs.rt x ((hm x).1 hx).1, fun x hx h0 => ?_, Nat.le_trans (List.length_filter_le _ _) hs.len, ?_⟩
  · obtain ⟨r, hr, h0⟩ := hs.root; exact ⟨r, (hm r).2 ⟨hr, by omega⟩, h0⟩
  · obtain ⟨h1, p, hp, h2, h3⟩ := hs.pa x ((hm x).1 hx).1 h0
    exact ⟨h1, p, (hm p).2 ⟨hp, fun e => hno x ((hm x).1 hx).1 (by rw [← h2, e])⟩, h2, h3⟩
  · obtain ⟨rk, h⟩ := hs.rk; exact ⟨rk, fun x hx => h x ((hm x).1 hx).1⟩
/-- A node that isn't ready, and has nobody, goes. -/
theorem OkT.erase {N : List Nr} {T : List Nd} (h : OkT N T) (hs : SK N) {k : Int} (hoff : ∀ y ∈ N, y.id = k → y.rdy = false) : OkT (N.filter (fun x => !(x.id == k))) (T.eraseP (fun x => x.n.id == k)) := by
  have hsub : ∀ x ∈ T.eraseP (fun x => x.n.id == k), x ∈ T := fun x hx => List.mem_of_mem_eraseP hx
  refine ⟨?_, fun x hx => h.srt x (hsub x hx), fun x hx p j => ?_⟩
  · rw [erase_n k (by rw [h.n]; exact hs.nd), h.n]
  · rw [h.mem x (hsub x hx) p j]
    constructor
    · rintro ⟨y, hy, h1, h2, h3, h4⟩
      refine ⟨y, ?_, h1, h2, h3, h4⟩
      rw [List.mem_filter]
      refine ⟨hy, ?_⟩
      have : y.id ≠ k := fun e => by rw [hoff y hy e] at h2; cases h2
      simpa using this
    · rintro ⟨y, hy, h1⟩
      exact ⟨y, (List.mem_filter.1 hy).1, h1⟩
/-! ### a node comes -/
theorem SK.add {N : List Nr} (hs : SK N) {n p : Nr} (hp : p ∈ N) (hpi : p.id = n.par) (hpt : p.thr = false) (h1 : 1 ≤ n.id) (hno : ∀ x ∈ N, x.id ≠ n.id) (hd : n.thr = true ∨ deepN 6 N n.par < 4) (hl : N.length < 60) : SK (N ++ [n]) := by
  obtain ⟨rk, hr⟩ := hs.rk
  have hm : ∀ x, x ∈ N ++ [n] ↔ x ∈ N ∨ x = n := fun x => by simp
  refine ⟨?_, ?_, ?_, ?_, by simp; omega, fun k => if k = n.id then rk n.par + 1 else rk k, fun x hx => ?_⟩
  · rw [List.map_append]
    refine List.nodup_append.2 ⟨hs.nd, by simp, ?_⟩
    intro a ha b hb
    obtain ⟨x, hx, rfl⟩ := List.mem_map.1 ha
    simp only [List.map_cons, List.map_nil, List.mem_singleton] at hb
    subst hb
    exact hno x hx
  · obtain ⟨r, hr, h0⟩ := hs.root; exact ⟨r, (hm r).2 (.inl hr), h0⟩
  · intro x hx h0
    rcases (hm x).1 hx with hx | rfl
    · exact hs.rt x hx h0
    · omega
  · intro x hx h0
    rcases (hm x).1 hx with hx | rfl
    · obtain ⟨g1, q, hq, g2, g3⟩ := hs.pa x hx h0
      exact ⟨g1, q, (hm q).2 (.inl hq), g2, g3⟩
    · exact ⟨h1, p, (hm p).2 (.inl hp), hpi, hpt⟩
  · rcases (hm x).1 hx with hx | rfl
    · simp only [if_neg (hno x hx)]
      have hpar : x.id ≠ 0 → x.par ≠ n.id := fun h0 e => by
        obtain ⟨_, q, hq, g2, _⟩ := hs.pa x hx h0
        exact hno q hq (by rw [g2, e])
      refine ⟨(hr x hx).1, fun h0 => ?_, (hr x hx).2.2⟩
      rw [if_neg (hpar h0)]; exact (hr x hx).2.1 h0
    · have hpr := (hr p hp).2.2.2 hpt
      have hne : x.par ≠ x.id := fun e => hno p hp (by rw [hpi, e])
      simp only [if_true, if_neg hne]
      rw [hpi] at hpr
      refine ⟨fun h0 => by omega, fun _ => trivial, by omega, fun ht => ?_⟩
      rcases hd with hd | hd
      · rw [ht] at hd; cases hd
      · rw [← hpi, deepN_rk hs hr 6 p hp (by have := (hr p hp).2.2.1; omega), hpi] at hd; omega
theorem OkT.add {N : List Nr} {T : List Nd} (h : OkT N T) (hs : SK N) {n p : Nr} (hp : p ∈ N) (hpi : p.id = n.par) (h1 : 1 ≤ n.id) (hno : ∀ x ∈ N, x.id ≠ n.id) (hr : n.rdy = false) (b ib : Nat) : OkT (N ++ [n]) (T ++ [⟨n, [], b, ib⟩]) := by
  have key : ∀ g s k, KD (N ++ [n]) g s k ↔ KD N g s k := fun g s k => by
    constructor
    · rintro ⟨y, hy, g1, g2, g3⟩
      rcases List.mem_append.1 hy with hy | hy
      · exact ⟨y, hy, g1, g2, g3⟩
      · simp only [List.mem_singleton] at hy; subst hy; rw [hr] at g2; cases g2
    · rintro ⟨y, hy, g1⟩; exact ⟨y, List.mem_append_left _ hy, g1⟩
  refine ⟨by rw [List.map_append, h.n]; rfl, fun x hx => ?_, fun x hx s k => ?_⟩
  · rcases List.mem_append.1 hx with hx | hx
    · exact h.srt x hx
    · simp only [List.mem_singleton] at hx; subst hx; exact List.Pairwise.nil
  · show _ ↔ KD (N ++ [n]) x.n.id s k
    rw [key]
    rcases List.mem_append.1 hx with hx | hx
    · exact h.mem x hx s k
    · simp only [List.mem_singleton] at hx; subst hx
      constructor
      · intro hh; cases hh
      · rintro ⟨y, hy, g1, _⟩
        by_cases c : y.id = 0
        · have := (hs.rt y hy c).1
          simp only at g1; omega
        · obtain ⟨_, q, hq, g2, _⟩ := hs.pa y hy c
          exact absurd (by rw [g2, g1]) (hno q hq)
end Go.Proofs.YtjbjngikaiggdaaGreat
