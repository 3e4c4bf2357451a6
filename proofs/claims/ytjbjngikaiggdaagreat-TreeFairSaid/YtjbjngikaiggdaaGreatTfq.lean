/- Trees: threads of the root that are ready all along, whatever others do. Conditions: none. -/
import Derived.Test.YtjbjngikaiggdaaGreatTlq
set_option linter.unusedVariables false
set_option linter.unusedSimpArgs false
namespace Go.Proofs.YtjbjngikaiggdaaGreat
open Go.RowKit G
theorem wake_same : ∀ (f : Nat) (N : List Nr) (k : Int), (N.map (·.id)).Nodup → ∃ g, Skel g ∧ (∀ x ∈ N, x.rdy = true → g x = x) ∧ wakeN f N k = N.map g
  | 0, N, k, _ => ⟨fun x => x, Skel.same, fun _ _ _ => rfl, by simp [wakeN]⟩
  | f + 1, N, k, hn => by
    rw [wakeN]
    cases hg : gt N k with
    | none => exact ⟨fun x => x, Skel.same, fun _ _ _ => rfl, by simp⟩
    | some x0 =>
      obtain ⟨hx0, hk0⟩ := gt_mem hg
      simp only
      by_cases hr : x0.rdy = true
      · rw [if_pos hr]; exact ⟨fun x => x, Skel.same, fun _ _ _ => rfl, by simp⟩
      · rw [if_neg hr]
        have hne : ∀ x ∈ N, x.rdy = true → x.id ≠ k := fun x hx h e => hr (by rw [← nd_eq hn hx hx0 (by rw [e, hk0])]; exact h)
        cases hp : gt N x0.par with
        | none => exact ⟨fun x => if x.id == k then { x with rdy := true } else x, skel_ite (f := fun x => { x with rdy := true }) skF, fun x hx h => by simp [hne x hx h], rfl⟩
        | some p =>
          simp only
          obtain ⟨g, h1, h2, h3⟩ := wake_same f (upN N k (wkF p.now)) x0.par (by rw [upN_id (f := wkF p.now) (fun _ => rfl)]; exact hn)
          refine ⟨fun x => g (if x.id == k then wkF p.now x else x), (skel_ite (wkF_skel p.now)).comp h1, fun x hx h => ?_, ?_⟩
          · have e : (if x.id == k then wkF p.now x else x) = x := by simp [hne x hx h]
            show g (if x.id == k then wkF p.now x else x) = x
            rw [e]
            exact h2 x (List.mem_map.2 ⟨x, hx, e⟩) h
          · have e : wakeN f (upN N k fun x => { x with rdy := true, pass := mxI x.pass p.now }) x0.par = _ := h3
            rw [e, upN, List.map_map]; rfl
theorem par_thr {N : List Nr} (hs : SK N) {x p : Nr} (hx : x ∈ N) (hp : p ∈ N) (e : p.id = x.par) : p.thr = false := by
  by_cases c : x.id = 0
  · have h1 := (hs.rt x hx c).1
    have h2 := hs.neg (k := p.id) (by omega)
    rw [gt_of hs.nd hp] at h2; cases h2
  · obtain ⟨_, p', hp', h1, h2⟩ := hs.pa x hx c
    rw [nd_eq hs.nd hp hp' (by rw [e, h1])]; exact h2
theorem rest_same : ∀ (f : Nat) (N : List Nr) (k : Int), SK N → ∃ g, Skel g ∧ (∀ x ∈ N, x.thr = true → x.id ≠ k → g x = x) ∧ restN f N k = N.map g
  | 0, N, k, _ => ⟨fun x => x, Skel.same, fun _ _ _ _ => rfl, by simp [restN]⟩
  | f + 1, N, k, hs => by
    rw [restN]
    cases hg : gt N k with
    | none => exact ⟨fun x => x, Skel.same, fun _ _ _ _ => rfl, by simp⟩
    | some x0 =>
      obtain ⟨hx0, hk0⟩ := gt_mem hg
      simp only
      by_cases hr : x0.rdy = false ∨ kidR N k ≠ []
      · rw [if_pos hr]; exact ⟨fun x => x, Skel.same, fun _ _ _ _ => rfl, by simp⟩
      · rw [if_neg hr]
        cases hp : gt N x0.par with
        | none => exact ⟨fun x => if x.id == k then { x with rdy := false } else x, skel_ite (f := fun x => { x with rdy := false }) skF, fun x hx _ h => by simp [h], rfl⟩
        | some p =>
          obtain ⟨hpN, hpi⟩ := gt_mem hp
          have hpt := par_thr hs hx0 hpN hpi
          simp only
          obtain ⟨g, h1, h2, h3⟩ := rest_same f (upN N k rsF) x0.par (hs.upN rsF_skel)
          refine ⟨fun x => g (if x.id == k then rsF x else x), (skel_ite rsF_skel).comp h1, fun x hx ht h => ?_, ?_⟩
          · have e : (if x.id == k then rsF x else x) = x := by simp [h]
            show g (if x.id == k then rsF x else x) = x
            rw [e]
            refine h2 x (List.mem_map.2 ⟨x, hx, e⟩) ht fun e2 => ?_
            have := nd_eq hs.nd hx hpN (by rw [e2, hpi])
            subst this; rw [hpt] at ht; cases ht
          · have e : restN f (upN N k fun x => { x with rdy := false }) x0.par = _ := h3
            rw [e, upN, List.map_map]; rfl
/-- Who else is made ready, or not: threads that are ready stay as they are. -/
theorem ready_keep {N : List Nr} (hs : SK N) (k : Int) (r : Bool) : (∀ z ∈ N, z.thr = true → z.rdy = true → z.id ≠ k → z ∈ (readyN N k r).2) ∧ ∀ z ∈ (readyN N k r).2, ∃ v ∈ N, v.id = z.id ∧ v.thr = z.thr := by
  have same : (∀ z ∈ N, z.thr = true → z.rdy = true → z.id ≠ k → z ∈ N) ∧ ∀ z ∈ N, ∃ v ∈ N, v.id = z.id ∧ v.thr = z.thr := ⟨fun z h _ _ _ => h, fun z h => ⟨z, h, rfl, rfl⟩⟩
  have mp : ∀ g, Skel g → (∀ x ∈ N, x.thr = true → x.rdy = true → x.id ≠ k → g x = x) → (∀ z ∈ N, z.thr = true → z.rdy = true → z.id ≠ k → z ∈ N.map g) ∧ ∀ z ∈ N.map g, ∃ v ∈ N, v.id = z.id ∧ v.thr = z.thr := fun g hg h =>
    ⟨fun z hz h1 h2 h3 => List.mem_map.2 ⟨z, hz, h z hz h1 h2 h3⟩, fun z hz => by obtain ⟨v, hv, rfl⟩ := List.mem_map.1 hz; exact ⟨v, hv, (hg.id v).symm, (hg.thr v).symm⟩⟩
  rw [readyN]
  cases gt N k with
  | none => exact same
  | some x =>
    simp only
    split
    · split
      · obtain ⟨g, h1, h2, h3⟩ := wake_same 6 N k hs.nd
        simp only [h3]; exact mp g h1 fun x hx _ hr _ => h2 x hx hr
      · obtain ⟨g, h1, h2, h3⟩ := rest_same 6 N k hs
        simp only [h3]; exact mp g h1 fun x hx ht _ hk => h2 x hx ht hk
    · exact same
theorem weight_keep {N : List Nr} (k W : Int) : (∀ z ∈ N, z.id ≠ k → z ∈ (weightN N k W).2) ∧ ∀ z ∈ (weightN N k W).2, ∃ v ∈ N, v.id = z.id ∧ v.thr = z.thr := by
  have same : (∀ z ∈ N, z.id ≠ k → z ∈ N) ∧ ∀ z ∈ N, ∃ v ∈ N, v.id = z.id ∧ v.thr = z.thr := ⟨fun z h _ => h, fun z h => ⟨z, h, rfl, rfl⟩⟩
  rw [weightN]
  split
  · exact same
  · split
    · exact same
    · split
      · exact same
      · split
        · exact same
        · refine ⟨fun z hz h => mem_upN.2 ⟨z, hz, .inr ⟨h, rfl⟩⟩, fun z hz => ?_⟩
          obtain ⟨v, hv, ⟨_, rfl⟩ | ⟨_, rfl⟩⟩ := mem_upN.1 hz
          · exact ⟨v, hv, rfl, rfl⟩
          · exact ⟨z, hv, rfl, rfl⟩
theorem thr_leaf {N : List Nr} (hs : SK N) {y : Nr} (hy : y ∈ N) (ht : y.thr = true) : ∀ z ∈ N, z.par ≠ y.id := fun z hz e => by
  have := par_thr hs hz hy e.symm
  rw [ht] at this; cases this
theorem bel_par0 {N : List Nr} (hs : SK N) {z : Nr} (hz : z ∈ N) (hzp : z.par = 0) {k t : Int} (h : Bel N k t) : 1 ≤ k → z.id = t → k = t := by
  induction h with
  | refl k => intro _ _; rfl
  | step hy hp hb ih =>
    rename_i k t y
    intro h1 h2
    have hy0 : y.id ≠ 0 := fun e => by have := (hs.rt y hy e).1; omega
    have h3 := ih (hs.pa y hy hy0).1 h2
    have h4 := nd_eq hs.nd hy hz (by rw [h3, h2])
    subst h4
    omega
/-- Threads 1 to m of the root, ready all along; of other threads there are 20, 22 alone. -/
structure FaI (W : Nat → Int) (m : Nat) (N : List Nr) : Prop where
  wf : WFN N
  has : ∀ j : Nat, j < m → ∃ z ∈ N, z.id = (j : Int) + 1 ∧ z.par = 0 ∧ z.wt = W j ∧ z.thr = true ∧ z.rdy = true
  thr : ∀ z ∈ N, z.thr = true → (∃ j : Nat, j < m ∧ z.id = (j : Int) + 1) ∨ z.id = 20 ∨ z.id = 22
/-- What each has had, as passes tell. -/
structure FaR (W : Nat → Int) (m : Nat) (N : List Nr) (xs : List Int) (n : Int) : Prop where
  len : xs.length = 8
  le : ∀ j, j < m → 0 ≤ cntL xs j ∧ cntL xs j ≤ n
  ps : ∃ Q : Int, ∀ j : Nat, j < m → ps N ((j : Int) + 1) = Q + cntL xs j * strd (W j)
theorem FaI.keep {W : Nat → Int} {m : Nat} {N N' : List Nr} (h : FaI W m N) (hw : WFN N') {k : Int} (hk : k = 20 ∨ k = 22) (hm : m ≤ 8) (h1 : ∀ z ∈ N, z.thr = true → z.rdy = true → z.id ≠ k → z ∈ N') (h2 : ∀ z ∈ N', ∃ v ∈ N, v.id = z.id ∧ v.thr = z.thr) :
    FaI W m N' ∧ ∀ j : Nat, j < m → ps N' ((j : Int) + 1) = ps N ((j : Int) + 1) := by
  have g : ∀ j : Nat, j < m → ∃ z ∈ N, z ∈ N' ∧ z.id = (j : Int) + 1 ∧ z.par = 0 ∧ z.wt = W j ∧ z.thr = true ∧ z.rdy = true := fun j hj => by
    obtain ⟨z, hz, e1, e2, e3, e4, e5⟩ := h.has j hj
    exact ⟨z, hz, h1 z hz e4 e5 (by omega), e1, e2, e3, e4, e5⟩
  refine ⟨⟨hw, fun j hj => ?_, fun z hz ht => ?_⟩, fun j hj => ?_⟩
  · obtain ⟨z, _, hz', e⟩ := g j hj; exact ⟨z, hz', e⟩
  · obtain ⟨v, hv, e1, e2⟩ := h2 z hz
    rw [← e1]; exact h.thr v hv (by rw [e2, ht])
  · obtain ⟨z, hz, hz', e, _⟩ := g j hj
    rw [← e, ps_of hw.sk.nd hz', ps_of h.wf.sk.nd hz]
theorem FaI.ready {W : Nat → Int} {m : Nat} {N : List Nr} (h : FaI W m N) (hm : m ≤ 8) {k : Int} (hk : k = 20 ∨ k = 22) (r : Bool) : FaI W m (readyN N k r).2 ∧ ∀ j : Nat, j < m → ps (readyN N k r).2 ((j : Int) + 1) = ps N ((j : Int) + 1) :=
  h.keep (ready_wf h.wf k r) hk hm (ready_keep h.wf.sk k r).1 (ready_keep h.wf.sk k r).2
theorem FaI.weight {W : Nat → Int} {m : Nat} {N : List Nr} (h : FaI W m N) (hm : m ≤ 8) (V : Int) : FaI W m (weightN N 20 V).2 ∧ ∀ j : Nat, j < m → ps (weightN N 20 V).2 ((j : Int) + 1) = ps N ((j : Int) + 1) :=
  h.keep (weight_wf h.wf 20 V) (.inl rfl) hm (fun z hz _ _ hk => (weight_keep 20 V).1 z hz hk) (weight_keep 20 V).2
theorem fa_run {W : Nat → Int} {m : Nat} {N : List Nr} (h : FaI W m N) (hm : 1 ≤ m ∧ m ≤ 8) : ∃ (id : Int) (N' : List Nr), runN N = ((id, true), N') ∧ FaI W m N' ∧
    ((∃ j : Nat, j < m ∧ id = ((j + 1 : Nat) : Int) ∧ ∃ δ : Int, ∀ i : Nat, i < m → ps N' ((i : Int) + 1) = ps N ((i : Int) + 1) + (if i = j then strd (W j) else 0) - δ) ∨ ((m : Int) < id ∧ ∃ δ : Int, ∀ i : Nat, i < m → ps N' ((i : Int) + 1) = ps N ((i : Int) + 1) - δ)) := by
  obtain ⟨r, hr, e0⟩ := h.wf.sk.root
  have hrt := h.wf.sk.rt r hr e0
  have g0 : r.rdy = true := by
    obtain ⟨z, hz, h1, h2, _, _, h5⟩ := h.has 0 (by omega)
    exact (h.wf.rd r hr hrt.2).2 ⟨z, hz, by rw [h2, e0], h5⟩
  obtain ⟨v, id, N', h1, h2, h3, hv, hvp, hvr, ⟨t, ht, hti, htt, _⟩, hb, δ, hd⟩ := run_ps h.wf hr e0 g0
  have hv0 : v.id ≠ 0 := fun e => by have := (h.wf.sk.rt v hv e).1; omega
  have hv1 := (h.wf.sk.pa v hv hv0).1
  refine ⟨id, N', h1, ⟨h2, fun j hj => ?_, fun z hz hzt => ?_⟩, ?_⟩
  · obtain ⟨z, hz, e1, e2, e3, e4, e5⟩ := h.has j hj
    exact skr_get h3 (by rw [← e1, ← e3, ← e2]; have := skr_mem (N := N) rfl hz; rw [e4, e5] at this; exact this)
  · obtain ⟨u, hu, e1, _, _, e4, _⟩ := skr_get (N := N) rfl (by rw [← h3]; exact skr_mem rfl hz)
    rw [← e1]; exact h.thr u hu (by rw [e4, hzt])
  · rcases h.thr t ht htt with ⟨j, hj, hjt⟩ | hjt
    · obtain ⟨z, hz, e1, e2, e3, e4, e5⟩ := h.has j hj
      have hvi := bel_par0 h.wf.sk hz e2 hb hv1 (by omega)
      have hvz := nd_eq h.wf.sk.nd hv hz (by omega)
      subst hvz
      refine .inl ⟨j, hj, by omega, δ, fun i hi => ?_⟩
      obtain ⟨u, hu, f1, f2, _, _, f5⟩ := h.has i hi
      have := hd u hu f2 f5
      rw [f1, e1, e3] at this
      rw [this]
      by_cases c : i = j
      · subst c; simp
      · rw [if_neg (by omega), if_neg c]
    · refine .inr ⟨by omega, δ, fun i hi => ?_⟩
      obtain ⟨u, hu, f1, f2, _, f4, f5⟩ := h.has i hi
      have := hd u hu f2 f5
      rw [f1] at this
      rw [this, if_neg, Int.add_zero]
      intro e
      have hvu := nd_eq h.wf.sk.nd hv hu (by omega)
      subst hvu
      have := bel_leaf hb (thr_leaf h.wf.sk hv f4)
      omega
theorem FaR.step {W : Nat → Int} {m : Nat} {N N' : List Nr} {xs : List Int} {n : Int} (h : FaR W m N xs n) (hm : m ≤ 7) {j : Nat} (hj : j < m) {δ : Int} (hd : ∀ i : Nat, i < m → Go.Proofs.YtjbjngikaiggdaaGreat.ps N' ((i : Int) + 1) = Go.Proofs.YtjbjngikaiggdaaGreat.ps N ((i : Int) + 1) + (if i = j then strd (W j) else 0) - δ) : FaR W m N' (xs.set (j + 1) (cntL xs j + 1)) (n + 1) := by
  have hl := h.len
  obtain ⟨Q, hQ⟩ := h.ps
  refine ⟨by rw [List.length_set]; exact hl, fun k hk => ?_, Q - δ, fun k hk => ?_⟩
  · rw [cnt_set (by omega)]
    have := h.le k hk
    by_cases c : k = j
    · subst c; rw [if_pos rfl]; omega
    · rw [if_neg c]; omega
  · rw [hd k hk, hQ k hk, cnt_set (by omega)]
    by_cases c : k = j
    · subst c; rw [if_pos rfl, if_pos rfl, Int.add_mul]; omega
    · rw [if_neg c, if_neg c]; omega
theorem FaR.more {W : Nat → Int} {m : Nat} {N N' : List Nr} {xs : List Int} {n : Int} (h : FaR W m N xs n) {δ : Int} (hd : ∀ i : Nat, i < m → Go.Proofs.YtjbjngikaiggdaaGreat.ps N' ((i : Int) + 1) = Go.Proofs.YtjbjngikaiggdaaGreat.ps N ((i : Int) + 1) - δ) : FaR W m N' xs (n + 1) := by
  obtain ⟨Q, hQ⟩ := h.ps
  exact ⟨h.len, fun k hk => by have := h.le k hk; omega, Q - δ, fun k hk => by rw [hd k hk, hQ k hk]; omega⟩
theorem FaR.same {W : Nat → Int} {m : Nat} {N N' : List Nr} {xs : List Int} {n : Int} (h : FaR W m N xs n) (hd : ∀ i : Nat, i < m → Go.Proofs.YtjbjngikaiggdaaGreat.ps N' ((i : Int) + 1) = Go.Proofs.YtjbjngikaiggdaaGreat.ps N ((i : Int) + 1)) : FaR W m N' xs n := by
  obtain ⟨Q, hQ⟩ := h.ps
  exact ⟨h.len, h.le, Q, fun k hk => by rw [hd k hk, hQ k hk]⟩
theorem FaR.fair {W : Nat → Int} {m : Nat} {N : List Nr} {xs : List Int} {n : Int} (h : FaR W m N xs n) (hI : FaI W m N) {a b : Nat} (ha : a < m) (hb : b < m) : fairB (cntL xs a) (W a) (cntL xs b) (W b) = true := by
  obtain ⟨x, hx, x1, x2, x3, _, x5⟩ := hI.has a ha
  obtain ⟨y, hy, y1, y2, y3, _, y5⟩ := hI.has b hb
  obtain ⟨r, hr, r0⟩ := hI.wf.sk.root
  have h1 := two_in hI.wf hx hy hr (by omega) (by omega) x5 y5
  obtain ⟨Q, hQ⟩ := h.ps
  rw [x1, y1, x3, y3, hQ a ha, hQ b hb] at h1
  have h3 := strd_pos (hI.wf.wt x hx)
  have h4 := strd_pos (hI.wf.wt y hy)
  rw [x3] at h3
  rw [y3] at h4
  simp only [fairB, Bool.and_eq_true, decide_eq_true_eq]
  omega
theorem fa_start {W : Nat → Int} {m : Nat} {N : List Nr} (h : ThI W m N) (hm : m ≤ 6) : ∃ N1 N2 N3, addN N 0 20 7 true = (0, N1) ∧ addN N1 0 21 3 false = (0, N2) ∧ addN N2 21 22 5 true = (0, N3) ∧ FaI W m N3 ∧ FaR W m N3 [0, 0, 0, 0, 0, 0, 0, 0] 0 := by
  obtain ⟨r, hr, r0⟩ := h.wf.sk.root
  have hrt := (h.wf.sk.rt r hr r0).2
  have no : ∀ k : Int, 20 ≤ k → ∀ z ∈ N, z.id ≠ k := fun k hk z hz e => by
    rcases h.all z hz with h1 | ⟨j, hj, h1, _⟩ <;> omega
  have hA := addN_is (N := N) (par := 0) (id := 20) (wt := 7) (thr := true) (p := r) rfl (by omega) (r0 ▸ gt_of h.wf.sk.nd hr) hrt (gt_none.2 (no 20 (by omega))) (.inl rfl) (by rw [h.len]; omega)
  rw [(h.zero r hr).2] at hA
  have w1 := add_wf h.wf 0 20 7 true
  rw [hA] at w1
  have m1 : ∀ z, z ∈ N ++ [⟨20, 0, 7, 0, true, false, 0⟩] ↔ z ∈ N ∨ z = ⟨20, 0, 7, 0, true, false, 0⟩ := fun z => by simp
  have hr1 := (m1 r).2 (.inl hr)
  have no1 : ∀ k : Int, 21 ≤ k → ∀ z ∈ N ++ [⟨20, 0, 7, 0, true, false, 0⟩], z.id ≠ k := fun k hk z hz e => by
    rcases (m1 z).1 hz with h1 | rfl
    · exact no k (by omega) z h1 e
    · simp only at e; omega
  have hd1 : deepN 6 (N ++ [⟨20, 0, 7, 0, true, false, 0⟩]) 0 < 4 := by
    have hg : gt (N ++ [⟨20, 0, 7, 0, true, false, 0⟩]) 0 = some r := r0 ▸ gt_of w1.sk.nd hr1
    have hg2 : gt (N ++ [⟨20, 0, 7, 0, true, false, 0⟩]) r.par = none := by rw [(h.wf.sk.rt r hr r0).1]; exact w1.sk.neg (by omega)
    rw [deepN, hg]; simp only; rw [deepN, hg2]; simp
  have hB := addN_is (N := N ++ [⟨20, 0, 7, 0, true, false, 0⟩]) (par := 0) (id := 21) (wt := 3) (thr := false) (p := r) rfl (by omega) (r0 ▸ gt_of w1.sk.nd hr1) hrt (gt_none.2 (no1 21 (by omega))) (.inr hd1) (by rw [List.length_append, h.len]; simp; omega)
  rw [(h.zero r hr).2] at hB
  have w2 := add_wf w1 0 21 3 false
  rw [hB] at w2
  have m2 : ∀ z, z ∈ (N ++ [⟨20, 0, 7, 0, true, false, 0⟩]) ++ [⟨21, 0, 3, 0, false, false, 0⟩] ↔ (z ∈ N ∨ z = ⟨20, 0, 7, 0, true, false, 0⟩) ∨ z = ⟨21, 0, 3, 0, false, false, 0⟩ := fun z => by rw [List.mem_append, m1]; simp
  have hC := addN_is (N := (N ++ [⟨20, 0, 7, 0, true, false, 0⟩]) ++ [⟨21, 0, 3, 0, false, false, 0⟩]) (par := 21) (id := 22) (wt := 5) (thr := true) (p := ⟨21, 0, 3, 0, false, false, 0⟩) rfl (by omega) (gt_of w2.sk.nd ((m2 _).2 (.inr rfl))) rfl (gt_none.2 fun z hz e => by
    rcases (m2 z).1 hz with (h1 | rfl) | rfl
    · exact no 22 (by omega) z h1 e
    · simp only at e; omega
    · simp only at e; omega) (.inl rfl) (by rw [List.length_append, List.length_append, h.len]; simp; omega)
  have w3 := add_wf w2 21 22 5 true
  rw [hC] at w3
  have m3 : ∀ z, z ∈ ((N ++ [⟨20, 0, 7, 0, true, false, 0⟩]) ++ [⟨21, 0, 3, 0, false, false, 0⟩]) ++ [⟨22, 21, 5, 0, true, false, 0⟩] ↔ ((z ∈ N ∨ z = ⟨20, 0, 7, 0, true, false, 0⟩) ∨ z = ⟨21, 0, 3, 0, false, false, 0⟩) ∨ z = ⟨22, 21, 5, 0, true, false, 0⟩ := fun z => by rw [List.mem_append, m2]; simp
  have get : ∀ j : Nat, j < m → ∃ z ∈ N, z.id = (j : Int) + 1 ∧ z.par = 0 ∧ z.wt = W j ∧ z.thr = true ∧ z.rdy = true := fun j hj => by
    obtain ⟨z, hz, e⟩ := h.has j hj
    rcases h.all z hz with h1 | ⟨i, _, h1, h2⟩
    · omega
    · have : i = j := by omega
      subst this; exact ⟨z, hz, e, h2⟩
  have zc : ∀ j, j < 7 → cntL [0, 0, 0, 0, 0, 0, 0, 0] j = 0 := fun j hj => by
    have : j = 0 ∨ j = 1 ∨ j = 2 ∨ j = 3 ∨ j = 4 ∨ j = 5 ∨ j = 6 := by omega
    rcases this with rfl | rfl | rfl | rfl | rfl | rfl | rfl <;> rfl
  refine ⟨_, _, _, hA, hB, hC, ⟨w3, fun j hj => ?_, fun z hz ht => ?_⟩, rfl, fun j hj => by rw [zc j (by omega)]; omega, 0, fun j hj => ?_⟩
  · obtain ⟨z, hz, e⟩ := get j hj
    exact ⟨z, (m3 z).2 (.inl (.inl (.inl hz))), e⟩
  · rcases (m3 z).1 hz with ((h1 | rfl) | rfl) | rfl
    · rcases h.all z h1 with h2 | ⟨j, hj, h2, _⟩
      · have := (h.wf.sk.rt z h1 h2).2; rw [ht] at this; cases this
      · exact .inl ⟨j, hj, h2⟩
    · exact .inr (.inl rfl)
    · cases ht
    · exact .inr (.inr rfl)
  · obtain ⟨z, hz, e, _⟩ := get j hj
    rw [zc j (by omega), ← e, ps_of w3.sk.nd ((m3 z).2 (.inl (.inl (.inl hz)))), (h.zero z hz).1]; simp
end Go.Proofs.YtjbjngikaiggdaaGreat
