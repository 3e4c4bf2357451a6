/- Texts put together: A kernel's threads, as one sees them: which are there, which are ready, behind each operation. Kernels of some threads, plainly: what KernelStates, Signals, Wakes, Alone do with them. Kernels, plainly: what KernelQuotas, KernelStates do with them. Kernels, plainly: what KernelGroups does with one. Conditions: none. -/
import Derived.Test.YtlhjibkkkhgonaaGreatMgKb5
set_option linter.unusedVariables false
set_option linter.unusedSimpArgs false
namespace Go.Proofs.YtlhjibkkkhgonaaGreat
open Go.RowKit G
/-! ## nodes -/
theorem gt_skel {g : Nr → Nr} (hg : Skel g) (N : List Nr) (i : Int) : gt (N.map g) i = (gt N i).map g := by
  unfold gt
  rw [List.find?_map]
  have : ((fun x : Nr => x.id == i) ∘ g) = fun x => x.id == i := funext fun x => by simp [Function.comp, hg.id]
  rw [this]
theorem isT_skel {g : Nr → Nr} (hg : Skel g) (N : List Nr) (i : Int) : isT (N.map g) i = isT N i := by
  unfold isT
  rw [gt_skel hg]
  cases gt N i with
  | none => rfl
  | some x => simp [hg.thr]
theorem isR_still {g : Nr → Nr} (hg : Still g) (N : List Nr) (i : Int) : isR (N.map g) i = isR N i := by
  unfold isR
  rw [gt_skel hg.sk]
  cases gt N i with
  | none => rfl
  | some x => simp [hg.sk.thr, hg.rdy]
theorem isR_isT {N : List Nr} {i : Int} (h : isR N i = true) : isT N i = true := by
  obtain ⟨x, h1, h2, _⟩ := isR_iff.1 h
  exact isT_iff.2 ⟨x, h1, h2⟩
theorem rdyOf_T {N : List Nr} {i : Int} (h : isT N i = true) : rdyOf N i = isR N i := by
  obtain ⟨x, h1, h2⟩ := isT_iff.1 h
  simp [rdyOf, isR, h1, h2]
theorem off_iff {N : List Nr} (hs : SK N) {i : Int} : Off N i ↔ isT N i = true ∧ isR N i = false := by
  constructor
  · intro h
    obtain ⟨x, h1, h2, h3⟩ := h.get hs
    exact ⟨isT_iff.2 ⟨x, h1, h2⟩, by simp [isR, h1, h3]⟩
  · rintro ⟨h1, h2⟩
    obtain ⟨x, h3, h4⟩ := isT_iff.1 h1
    obtain ⟨h5, h6⟩ := gt_mem h3
    exact ⟨x, h5, h6, h4, by simpa [isR, h3, h4] using h2⟩
theorem ready_see {N : List Nr} (hs : SK N) {k : Int} (ht : isT N k = true) (r : Bool) : (readyN N k r).1 = 0 ∧ (∀ i, isR (readyN N k r).2 i = if i = k then r else isR N i) ∧ (∀ i, isT (readyN N k r).2 i = isT N i) ∧ ∀ b, kcnt (readyN N k r).2 b = kcnt N b := by
  obtain ⟨x, hx, hxt⟩ := isT_iff.1 ht
  obtain ⟨g, e, hg, h1, h2⟩ := ready_thr hs hx hxt r
  rw [e]
  refine ⟨rfl, fun i => ?_, fun i => isT_skel hg N i, fun b => kcnt_skel hg N b⟩
  show isR (N.map g) i = _
  unfold isR
  rw [gt_skel hg]
  by_cases c : i = k
  · subst c
    rw [if_pos rfl, hx]
    simp [hg.thr, hxt, h2 x (gt_mem hx).1 (gt_mem hx).2]
  · rw [if_neg c]
    cases hi : gt N i with
    | none => rfl
    | some z =>
      obtain ⟨h3, h4⟩ := gt_mem hi
      cases hz : z.thr with
      | false => simp [hg.thr, hz]
      | true => simp [h1 z h3 hz (by rw [h4]; exact c)]
theorem gt_put {N : List Nr} {n : Nr} (hno : gt N n.id = none) (i : Int) : gt (N ++ [n]) i = if i = n.id then some n else gt N i := by
  unfold gt
  rw [List.find?_append]
  by_cases c : i = n.id
  · subst c
    rw [if_pos rfl]
    have : List.find? (fun x : Nr => x.id == n.id) N = none := hno
    rw [this]; simp
  · rw [if_neg c]
    have : List.find? (fun x : Nr => x.id == i) [n] = none := by simp; exact fun e => c e.symm
    rw [this]
    cases List.find? (fun x : Nr => x.id == i) N <;> rfl
theorem KOk.free {s : KS} (h : KOk s) : gt s.N s.nx = none := gt_none.2 fun x hx e => by have := h.ids x hx; omega
theorem KOk.len {s : KS} (h : KOk s) : s.N.length ≤ 13 := by
  have h1 := kcnt_len s.N h.wf.sk
  have h2 := h.ct
  have h3 := h.mt
  have h4 := h.mg
  omega
theorem KOk.root {s : KS} (h : KOk s) : ∃ p, gt s.N 0 = some p ∧ p.thr = false := by
  obtain ⟨p, hp, h0⟩ := h.wf.sk.root
  exact ⟨p, h0 ▸ gt_of h.wf.sk.nd hp, (h.wf.sk.rt p hp h0).2⟩
theorem deep_root {N : List Nr} (hw : WFN N) : deepN 6 N 0 < 4 := by
  obtain ⟨p, hp, h0⟩ := hw.sk.root
  have h1 := h0 ▸ gt_of hw.sk.nd hp
  have h2 := (hw.sk.rt p hp h0).1
  have h3 : gt N (-1) = none := gt_none.2 fun x hx e => by
    by_cases c : x.id = 0
    · omega
    · have := (hw.sk.pa x hx c).1; omega
  rw [deepN, h1]; simp only
  rw [h2, deepN, h3]; simp
/-! ## Spawn, Group -/
/-- One more thread (or group, not ready) than there was; nothing else. -/
structure Spw (s s' : KS) (thr : Bool) : Prop where
  nx : s'.nx = s.nx + 1
  tm : s'.tm = s.tm
  ob : s'.ob = s.ob
  mt : s'.mt = s.mt
  mg : s'.mg = s.mg
  ct : ∀ b, kcnt s'.N b = kcnt s.N b + if thr = b then 1 else 0
  R : ∀ i, isR s'.N i = (decide (i = s.nx ∧ thr = true) || isR s.N i)
  T : ∀ i, isT s'.N i = (decide (i = s.nx ∧ thr = true) || isT s.N i)
theorem kadds_at {s : KS} (h : KOk s) {par wt most : Int} {thr : Bool} {p : Nr} (hw : isW wt = true) (hp : gt s.N par = some p) (hpt : p.thr = false) (hd : thr = true ∨ deepN 6 s.N par < 4) (hc : kcnt s.N thr < most) :
    kadds s par wt most thr = ((s.nx, 0), { s with N := s.N ++ [⟨s.nx, par, wt, p.now, thr, false, 0⟩], nx := s.nx + 1 }) := by
  have h1 := addN_is (N := s.N) (par := par) (id := s.nx) (wt := wt) (thr := thr) (p := p) hw h.nx hp hpt h.free hd (by have := h.len; omega)
  rw [kadds, if_neg (by rw [hw]; simp), if_neg (by rw [hp]; simp [hpt]), if_neg (by omega), if_neg (by rw [h1]; simp), h1]
theorem kadds_full {s : KS} {par wt most : Int} {thr : Bool} {p : Nr} (hw : isW wt = true) (hp : gt s.N par = some p) (hpt : p.thr = false) (hc : most ≤ kcnt s.N thr) : kadds s par wt most thr = ((0, 14), s) := by
  rw [kadds, if_neg (by rw [hw]; simp), if_neg (by rw [hp]; simp [hpt]), if_pos (by omega)]
theorem put_see {N : List Nr} {n : Nr} (hno : gt N n.id = none) (hr : n.rdy = false) (hn : n.id ≠ 0) : (∀ i, isR (N ++ [n]) i = isR N i) ∧ (∀ i, isT (N ++ [n]) i = (decide (i = n.id ∧ n.thr = true) || isT N i)) := by
  refine ⟨fun i => ?_, fun i => ?_⟩
  · unfold isR
    rw [gt_put hno]
    by_cases c : i = n.id
    · rw [if_pos c, c, hno]; simp [hr]
    · rw [if_neg c]
  · unfold isT
    rw [gt_put hno]
    by_cases c : i = n.id
    · rw [if_pos c, c, hno]; simp
    · rw [if_neg c]; simp [c]
theorem kspawn_at {s : KS} (h : KOk s) {par wt : Int} {p : Nr} (hw : isW wt = true) (hp : gt s.N par = some p) (hpt : p.thr = false) (hc : kcnt s.N true < s.mt) : (kspawn s par wt).1 = (s.nx, 0) ∧ KOk (kspawn s par wt).2 ∧ Spw s (kspawn s par wt).2 true := by
  have h1 := kadds_at (most := s.mt) (thr := true) h hw hp hpt (.inl rfl) hc
  have hok := (kadds_ok h par wt s.mt true rfl).1
  obtain ⟨p1, p2⟩ := put_see (N := s.N) (n := ⟨s.nx, par, wt, p.now, true, false, 0⟩) h.free rfl (by show s.nx ≠ 0; have := h.nx; omega)
  have p3 := kcnt_add s.N ⟨s.nx, par, wt, p.now, true, false, 0⟩ (by show s.nx ≠ 0; have := h.nx; omega)
  rw [h1] at hok
  simp only at hok
  have hT : isT (s.N ++ [⟨s.nx, par, wt, p.now, true, false, 0⟩]) s.nx = true := by rw [p2]; simp
  obtain ⟨q1, q2, q3, q4⟩ := ready_see hok.wf.sk hT true
  have e : kspawn s par wt = ((s.nx, 0), { s with N := (readyN (s.N ++ [⟨s.nx, par, wt, p.now, true, false, 0⟩]) s.nx true).2, nx := s.nx + 1 }) := by
    unfold kspawn
    rw [h1]
    simp only [ne_eq, not_true_eq_false, if_false]
    rw [q1]
  refine ⟨by rw [e], kspawn_ok h par wt, ?_⟩
  rw [e]
  refine ⟨rfl, rfl, rfl, rfl, rfl, fun b => by show kcnt (readyN _ _ _).2 b = _; rw [q4, p3], fun i => ?_, fun i => ?_⟩
  · show isR (readyN _ _ _).2 i = _
    rw [q2, p1]
    by_cases c : i = s.nx <;> simp [c]
  · show isT (readyN _ _ _).2 i = _
    rw [q3, p2]
theorem kspawn_full {s : KS} {par wt : Int} {p : Nr} (hw : isW wt = true) (hp : gt s.N par = some p) (hpt : p.thr = false) (hc : s.mt ≤ kcnt s.N true) : kspawn s par wt = ((0, 14), s) := by
  have h1 := kadds_full (s := s) (par := par) (most := s.mt) (thr := true) hw hp hpt hc
  unfold kspawn
  rw [h1]
  simp
theorem kgroup_at {s : KS} (h : KOk s) {par wt : Int} {p : Nr} (hw : isW wt = true) (hp : gt s.N par = some p) (hpt : p.thr = false) (hd : deepN 6 s.N par < 4) (hc : kcnt s.N false < s.mg) : (kgroup s par wt).1 = (s.nx, 0) ∧ KOk (kgroup s par wt).2 ∧ Spw s (kgroup s par wt).2 false := by
  have h1 := kadds_at (most := s.mg) (thr := false) h hw hp hpt (.inr hd) hc
  obtain ⟨p1, p2⟩ := put_see (N := s.N) (n := ⟨s.nx, par, wt, p.now, false, false, 0⟩) h.free rfl (by show s.nx ≠ 0; have := h.nx; omega)
  have p3 := kcnt_add s.N ⟨s.nx, par, wt, p.now, false, false, 0⟩ (by show s.nx ≠ 0; have := h.nx; omega)
  refine ⟨by rw [kgroup, h1], kgroup_ok h par wt, ?_⟩
  rw [kgroup, h1]
  exact ⟨rfl, rfl, rfl, rfl, rfl, fun b => p3 b, fun i => by rw [p1]; simp, fun i => by rw [p2]⟩
theorem kgroup_full {s : KS} {par wt : Int} {p : Nr} (hw : isW wt = true) (hp : gt s.N par = some p) (hpt : p.thr = false) (hc : s.mg ≤ kcnt s.N false) : kgroup s par wt = ((0, 14), s) := kadds_full hw hp hpt hc
theorem kspawn_0 {s : KS} (h : KOk s) {wt : Int} (hw : isW wt = true) (hc : kcnt s.N true < s.mt) : (kspawn s 0 wt).1 = (s.nx, 0) ∧ KOk (kspawn s 0 wt).2 ∧ Spw s (kspawn s 0 wt).2 true := by
  obtain ⟨p, hp, hpt⟩ := h.root
  exact kspawn_at h hw hp hpt hc
theorem kgroup_0 {s : KS} (h : KOk s) {wt : Int} (hw : isW wt = true) (hc : kcnt s.N false < s.mg) : (kgroup s 0 wt).1 = (s.nx, 0) ∧ KOk (kgroup s 0 wt).2 ∧ Spw s (kgroup s 0 wt).2 false := by
  obtain ⟨p, hp, hpt⟩ := h.root
  exact kgroup_at h hw hp hpt (deep_root h.wf) hc
theorem kspawn_f0 {s : KS} (h : KOk s) {wt : Int} (hw : isW wt = true) (hc : s.mt ≤ kcnt s.N true) : kspawn s 0 wt = ((0, 14), s) := by
  obtain ⟨p, hp, hpt⟩ := h.root
  exact kspawn_full hw hp hpt hc
theorem kgroup_f0 {s : KS} (h : KOk s) {wt : Int} (hw : isW wt = true) (hc : s.mg ≤ kcnt s.N false) : kgroup s 0 wt = ((0, 14), s) := by
  obtain ⟨p, hp, hpt⟩ := h.root
  exact kgroup_full hw hp hpt hc
/-! ## Exit -/
theorem split_of {N : List Nr} (hn : (N.map (·.id)).Nodup) {k : Int} {x : Nr} (hx : gt N k = some x) : ∃ A B, N = A ++ x :: B ∧ (∀ z ∈ A, z.id ≠ k) ∧ ∀ z ∈ B, z.id ≠ k := by
  obtain ⟨h1, h2⟩ := gt_mem hx
  obtain ⟨A, B, rfl⟩ := List.append_of_mem h1
  rw [List.map_append, List.map_cons, List.nodup_append] at hn
  obtain ⟨_, n2, n3⟩ := hn
  rw [List.nodup_cons] at n2
  refine ⟨A, B, rfl, fun z hz e => n3 z.id (List.mem_map.2 ⟨z, hz, rfl⟩) x.id (by simp) (by rw [e, h2]), fun z hz e => n2.1 (by rw [h2, ← e]; exact List.mem_map.2 ⟨z, hz, rfl⟩)⟩
theorem gt_filter (L : List Nr) (k i : Int) : gt (L.filter fun x => !(x.id == k)) i = if i = k then none else gt L i := by
  induction L with
  | nil => simp [gt]
  | cons a L ih =>
    by_cases c : a.id = k
    · rw [List.filter_cons_of_neg (by simp [c]), ih]
      by_cases d : i = k
      · simp [d]
      · rw [if_neg d, if_neg d]
        unfold gt
        rw [List.find?_cons_of_neg (by simp; omega)]
    · rw [List.filter_cons_of_pos (by simp [c])]
      unfold gt at ih ⊢
      by_cases e : a.id = i
      · rw [List.find?_cons_of_pos (by simp [e]), List.find?_cons_of_pos (by simp [e]), if_neg (by omega)]
      · rw [List.find?_cons_of_neg (by simp [e]), List.find?_cons_of_neg (by simp [e]), ih]
theorem kexit_see {s : KS} (h : KOk s) {k : Int} (ht : isT s.N k = true) : ∃ N', kexit s k = (0, { s with N := N', tm := tmDrop k s.tm, ob := obCut s.ob k }) ∧ (∀ i, isR N' i = if i = k then false else isR s.N i) ∧ (∀ i, isT N' i = if i = k then false else isT s.N i) ∧ kcnt N' true = kcnt s.N true - 1 := by
  obtain ⟨x, hx, hxt⟩ := isT_iff.1 ht
  obtain ⟨hxN, hxk⟩ := gt_mem hx
  have hs := h.wf.sk
  have hk0 : k ≠ 0 := fun e => by have := (hs.rt x hxN (by omega)).2; rw [hxt] at this; cases this
  obtain ⟨g, g1, g2, g3⟩ := rest_same 6 s.N k hs
  have hany : s.N.any (fun z => z.par == k) = false := by
    rw [List.any_eq_false]
    intro z hz
    have := thr_leaf hs hxN hxt z hz
    rw [hxk] at this
    simpa using this
  have hrm : removeN s.N k = (0, (s.N.map g).filter fun x => !(x.id == k)) := by
    rw [removeN, if_neg (by rw [hx]; simp [hk0]), if_neg (by rw [hany]; simp), g3]
  refine ⟨(s.N.map g).filter fun x => !(x.id == k), by rw [kexit, if_neg (by rw [ht]; simp), hrm], fun i => ?_, fun i => ?_, ?_⟩
  · unfold isR
    rw [gt_filter]
    by_cases c : i = k
    · simp [c]
    · rw [if_neg c, if_neg c, gt_skel g1]
      cases hi : gt s.N i with
      | none => rfl
      | some z =>
        obtain ⟨h3, h4⟩ := gt_mem hi
        cases hz : z.thr with
        | false => simp [g1.thr, hz]
        | true => simp [g2 z h3 hz (by rw [h4]; exact c)]
  · unfold isT
    rw [gt_filter]
    by_cases c : i = k
    · simp [c]
    · rw [if_neg c, if_neg c, gt_skel g1]
      cases gt s.N i with
      | none => rfl
      | some z => simp [g1.thr]
  · obtain ⟨A, B, e, hA, hB⟩ := split_of hs.nd hx
    have e1 : ((s.N.map g).filter fun x => !(x.id == k)) = (A ++ B).map g := by
      rw [e, List.map_append, List.filter_append, List.map_cons, List.filter_cons_of_neg (by simp [g1.id, hxk]), List.filter_eq_self.2 (fun z hz => by obtain ⟨v, hv, rfl⟩ := List.mem_map.1 hz; simpa [g1.id] using hA v hv), List.filter_eq_self.2 (fun z hz => by obtain ⟨v, hv, rfl⟩ := List.mem_map.1 hz; simpa [g1.id] using hB v hv), List.map_append]
    rw [e1, kcnt_skel g1, e]
    unfold kcnt
    rw [List.filter_append, List.filter_append, List.filter_cons_of_pos (by simp [hxt, hxk, hk0])]
    simp only [List.length_append, List.length_cons]
    omega
/-! ## Sleep, Wait, Signal, Wake, Run -/
theorem ksleep_see {s : KS} (h : KOk s) {k : Int} (hr : isR s.N k = true) (u : Int) : ∃ N', ksleep s k u = (0, { s with N := N', tm := tmSet k u s.tm }) ∧ (∀ i, isR N' i = if i = k then false else isR s.N i) ∧ (∀ i, isT N' i = isT s.N i) ∧ ∀ b, kcnt N' b = kcnt s.N b := by
  obtain ⟨q1, q2, q3, q4⟩ := ready_see h.wf.sk (isR_isT hr) false
  exact ⟨(readyN s.N k false).2, by rw [ksleep, if_neg (by rw [hr]; simp), q1], q2, q3, q4⟩
theorem ksleep_off {s : KS} {k : Int} (hr : isR s.N k = false) (u : Int) : ksleep s k u = (13, s) := by rw [ksleep, if_pos hr]
theorem kwait_off {s : KS} {k : Int} (hr : isR s.N k = false) (j : Int) : kwait s k j = ((false, 13), s) := by rw [kwait, if_pos hr]
theorem KOk.hasNot {s : KS} (h : KOk s) {k : Int} (hr : isR s.N k = true) : obHas s.ob k = false := by
  rw [obHas, List.any_eq_false]
  intro o ho hc
  exact (h.obo o ho k (by simpa using hc)).ne h.wf.sk hr rfl
/-- A wait that there is a signal for. -/
theorem kwait_on {s : KS} (h : KOk s) {k j : Int} (hr : isR s.N k = true) (hj : isOb j = true) (hc : (obAt s.ob j).1 > 0) : kwait s k j = ((true, 0), { s with ob := s.ob.set j.toNat ((obAt s.ob j).1 - 1, (obAt s.ob j).2) }) := by
  have e : obWait s.ob k j = ((true, 0), s.ob.set j.toNat ((obAt s.ob j).1 - 1, (obAt s.ob j).2)) := by rw [obWait, if_neg (by rw [hj]; simp), if_neg (by rw [h.hasNot hr]; simp), if_pos hc]
  rw [kwait, if_neg (by rw [hr]; simp), e, if_pos (.inr rfl)]
/-- A wait that there's none for. -/
theorem kwait_see {s : KS} (h : KOk s) {k j : Int} (hr : isR s.N k = true) (hj : isOb j = true) (hc : (obAt s.ob j).1 = 0) : ∃ N', kwait s k j = ((false, 0), { s with N := N', ob := s.ob.set j.toNat (0, (obAt s.ob j).2 ++ [k]) }) ∧ (∀ i, isR N' i = if i = k then false else isR s.N i) ∧ (∀ i, isT N' i = isT s.N i) ∧ ∀ b, kcnt N' b = kcnt s.N b := by
  obtain ⟨q1, q2, q3, q4⟩ := ready_see h.wf.sk (isR_isT hr) false
  have e : obWait s.ob k j = ((false, 0), s.ob.set j.toNat (0, (obAt s.ob j).2 ++ [k])) := by rw [obWait, if_neg (by rw [hj]; simp), if_neg (by rw [h.hasNot hr]; simp), if_neg (by omega), hc]
  exact ⟨(readyN s.N k false).2, by rw [kwait, if_neg (by rw [hr]; simp), e, if_neg (by simp), q1], q2, q3, q4⟩
/-- A signal that nobody waits for. -/
theorem ksignal_none {s : KS} {j : Int} (hj : isOb j = true) (hl : (obAt s.ob j).2 = []) : ksignal s j = (0, { s with ob := s.ob.set j.toNat (mnI ((obAt s.ob j).1 + 1) 255, []) }) := by
  have e : obSig s.ob j = ((0, false, 0), s.ob.set j.toNat (mnI ((obAt s.ob j).1 + 1) 255, [])) := by rw [obSig, if_neg (by rw [hj]; simp), hl]
  rw [ksignal, e, if_pos (.inr rfl)]
theorem ksignal_see {s : KS} (h : KOk s) {j k : Int} {r : List Int} (hj : isOb j = true) (hl : (obAt s.ob j).2 = k :: r) : ∃ N', ksignal s j = (0, { s with N := N', ob := s.ob.set j.toNat ((obAt s.ob j).1, r) }) ∧ (∀ i, isR N' i = if i = k then true else isR s.N i) ∧ (∀ i, isT N' i = isT s.N i) ∧ ∀ b, kcnt N' b = kcnt s.N b := by
  obtain ⟨a1, a2, a3⟩ := obAt_some h.ob hj
  have hT := ((off_iff h.wf.sk).1 (h.obo _ a2 k (by rw [hl]; simp))).1
  obtain ⟨q1, q2, q3, q4⟩ := ready_see h.wf.sk hT true
  have e : obSig s.ob j = ((k, true, 0), s.ob.set j.toNat ((obAt s.ob j).1, r)) := by rw [obSig, if_neg (by rw [hj]; simp), hl]
  exact ⟨(readyN s.N k true).2, by rw [ksignal, e, if_neg (by simp), q1], q2, q3, q4⟩
theorem wakeL_see : ∀ (l : List Int) {N : List Nr}, WFN N → (∀ i ∈ l, isT N i = true) → (∀ i, isR (wakeL N l) i = (decide (i ∈ l) || isR N i)) ∧ (∀ i, isT (wakeL N l) i = isT N i)
  | [], N, _, _ => ⟨fun i => by simp [wakeL], fun i => rfl⟩
  | k :: l, N, hw, ht => by
    obtain ⟨q1, q2, q3, q4⟩ := ready_see hw.sk (ht k (by simp)) true
    obtain ⟨h1, h2⟩ := wakeL_see l (ready_wf hw k true) (fun i hi => by rw [q3]; exact ht i (by simp [hi]))
    refine ⟨fun i => ?_, fun i => ?_⟩
    · show isR (wakeL (readyN N k true).2 l) i = _
      rw [h1, q2]
      by_cases c : i = k <;> by_cases d : i ∈ l <;> simp [c, d]
    · show isT (wakeL (readyN N k true).2 l) i = _
      rw [h2, q3]
theorem kwake_see {s : KS} (h : KOk s) (t : Int) : (∀ i, isR (kwake s t).2.N i = (decide (i ∈ dueOf t s.tm) || isR s.N i)) ∧ (∀ i, isT (kwake s t).2.N i = isT s.N i) := by
  refine wakeL_see (dueOf t s.tm) h.wf fun i hi => ?_
  obtain ⟨u, hu, _⟩ := (mem_due t i).1 hi
  exact ((off_iff h.wf.sk).1 (h.tmo _ hu)).1
theorem krun_see {s : KS} (h : KOk s) : (∀ i, isR (krun s).2.N i = isR s.N i) ∧ (∀ i, isT (krun s).2.N i = isT s.N i) ∧ ∀ b, kcnt (krun s).2.N b = kcnt s.N b := by
  obtain ⟨g, hg, e⟩ := run_still h.wf
  refine ⟨fun i => ?_, fun i => ?_, fun b => ?_⟩
  · show isR (runN s.N).2 i = _; rw [e]; exact isR_still hg _ _
  · show isT (runN s.N).2 i = _; rw [e]; exact isT_skel hg.sk _ _
  · show kcnt (runN s.N).2 b = _; rw [e]; exact kcnt_skel hg.sk _ _
/-! ## who runs -/
theorem root_rdy {N : List Nr} (hw : WFN N) {x : Nr} (hx : x ∈ N) (hr : x.rdy = true) : ∃ r, gt N 0 = some r ∧ r.rdy = true := by
  obtain ⟨rk, hrk⟩ := hw.sk.rk
  have : ∀ n (x : Nr), x ∈ N → rk x.id ≤ n → x.rdy = true → ∃ r, gt N 0 = some r ∧ r.rdy = true := by
    intro n
    induction n with
    | zero =>
      intro x hx hn hr
      have := hrk x hx
      by_cases c : x.id = 0
      · have := this.1 c; omega
      · have := this.2.1 c; omega
    | succ n ih =>
      intro x hx hn hr
      by_cases c : x.id = 0
      · exact ⟨x, c ▸ gt_of hw.sk.nd hx, hr⟩
      · obtain ⟨_, p, hp, hpi, hpt⟩ := hw.sk.pa x hx c
        have h1 := (hrk x hx).2.1 c
        exact ih p hp (by rw [hpi]; omega) ((hw.rd p hp hpt).2 ⟨x, hx, hpi.symm, hr⟩)
  exact this _ x hx (Nat.le_refl _) hr
theorem runnable_of {s : KS} (h : KOk s) {i : Int} (hi : isR s.N i = true) : krunnable s = true := by
  obtain ⟨x, h1, _, h2⟩ := isR_iff.1 hi
  obtain ⟨r, h3, h4⟩ := root_rdy h.wf (gt_mem h1).1 h2
  rw [krunnable, h3]; exact h4
theorem runnable_not {s : KS} (h : KOk s) (hi : ∀ i, isR s.N i = false) : krunnable s = false := by
  cases hc : krunnable s with
  | false => rfl
  | true =>
    exfalso
    obtain ⟨p, hp, _⟩ := h.root
    have hr : p.rdy = true := by rw [krunnable, hp] at hc; exact hc
    obtain ⟨y, id, g, _, _, _, _, ⟨t, ht, hti, htt, htr, _⟩, _⟩ := run_root h.wf hp hr
    have := hi t.id
    rw [isR, gt_of h.wf.sk.nd ht] at this
    simp [htt, htr] at this
theorem krun_one {s : KS} (h : KOk s) {k : Int} (hR : ∀ i, isR s.N i = decide (i = k)) : (krun s).1 = (k, true) := by
  obtain ⟨x, h1, _, h2⟩ := isR_iff.1 (by rw [hR]; simp : isR s.N k = true)
  obtain ⟨r, h3, h4⟩ := root_rdy h.wf (gt_mem h1).1 h2
  obtain ⟨y, id, g, e, _, _, _, ⟨t, ht, hti, htt, htr, _⟩, _⟩ := run_root h.wf h3 h4
  have h5 : isR s.N t.id = true := by rw [isR, gt_of h.wf.sk.nd ht]; simp [htt, htr]
  rw [hR] at h5
  have : t.id = k := by simpa using h5
  rw [krun, e, ← hti, this]
theorem mem_kthreads {s : KS} (h : KOk s) {i : Int} : i ∈ kthreads s ↔ isT s.N i = true := by
  unfold kthreads
  rw [List.mem_map]
  constructor
  · rintro ⟨x, hx, rfl⟩
    obtain ⟨h1, h2⟩ := List.mem_filter.1 hx
    exact isT_iff.2 ⟨x, gt_of h.wf.sk.nd ((nodesN_perm h.wf.sk.nd).mem_iff.1 h1), h2⟩
  · intro hi
    obtain ⟨x, h1, h2⟩ := isT_iff.1 hi
    obtain ⟨h3, h4⟩ := gt_mem h1
    exact ⟨x, List.mem_filter.2 ⟨(nodesN_perm h.wf.sk.nd).mem_iff.2 h3, h2⟩, h4⟩
theorem len_kthreads {s : KS} (h : KOk s) : ((kthreads s).length : Int) = kcnt s.N true := by
  rw [← kcnt_nodes h.wf.sk.nd, kthreads, List.length_map]
  congr 2
  refine List.filter_congr fun x hx => ?_
  have hxN := (nodesN_perm h.wf.sk.nd).mem_iff.1 hx
  by_cases c : x.id = 0
  · have := (h.wf.sk.rt x hxN c).2
    simp [cntP, c, this]
  · simp [cntP, c]
/-! ## a new kernel -/
theorem k0_see {mt mg : Int} (h : 1 ≤ mt) : (k0 mt mg).nx = 2 ∧ (k0 mt mg).tm = [] ∧ (k0 mt mg).ob = ob0 ∧ (k0 mt mg).mt = mt ∧ (k0 mt mg).mg = mg ∧ kcnt (k0 mt mg).N true = 1 ∧ kcnt (k0 mt mg).N false = 0 ∧ (∀ i, isR (k0 mt mg).N i = decide (i = 1)) ∧ ∀ i, isT (k0 mt mg).N i = decide (i = 1) := by
  rw [k0_is h]
  have hg : ∀ i, gt kn01 i = if i = 0 then some ⟨0, -1, 1, 0, false, true, 0⟩ else if i = 1 then some ⟨1, 0, 1, 0, true, true, 0⟩ else none := fun i => by
    unfold gt kn01
    by_cases c : i = 0
    · subst c; rfl
    · rw [if_neg c, List.find?_cons_of_neg (by simp; omega)]
      by_cases d : i = 1
      · subst d; rfl
      · rw [if_neg d, List.find?_cons_of_neg (by simp; omega)]; rfl
  refine ⟨rfl, rfl, rfl, rfl, rfl, rfl, rfl, fun i => ?_, fun i => ?_⟩
  · show isR kn01 i = _
    rw [isR, hg]
    by_cases c : i = 0
    · simp [c]
    · by_cases d : i = 1 <;> simp [c, d]
  · show isT kn01 i = _
    rw [isT, hg]
    by_cases c : i = 0
    · simp [c]
    · by_cases d : i = 1 <;> simp [c, d]
end Go.Proofs.YtlhjibkkkhgonaaGreat
set_option linter.unusedVariables false
set_option linter.unusedSimpArgs false
namespace Go.Proofs.YtlhjibkkkhgonaaGreat
open Go.RowKit G
theorem one_isW : isW 1 = true := by decide
theorem obAt_set {O : List Ob} {x : Int} {o : Ob} (hl : O.length = 4) (hx : isOb x = true) : obAt (O.set x.toNat o) x = o := by
  have h : x.toNat < O.length := by simp [isOb] at hx; omega
  simp [obAt, List.getD_eq_getElem?_getD, h]
theorem obAt_other {O : List Ob} {x y : Int} {o : Ob} (hx : isOb x = true) (hy : isOb y = true) (hne : x ≠ y) : obAt (O.set x.toNat o) y = obAt O y := by
  simp [isOb] at hx hy
  have : x.toNat ≠ y.toNat := by omega
  simp [obAt, List.getD_eq_getElem?_getD, List.getElem?_set, this]
theorem ob0_at {x : Int} (hx : isOb x = true) : obAt ob0 x = (0, []) := by
  simp [isOb] at hx
  have : x = 0 ∨ x = 1 ∨ x = 2 ∨ x = 3 := by omega
  rcases this with rfl | rfl | rfl | rfl <;> rfl
/-- The first thread, and so many more: all ready. -/
structure SpI (s : KS) (u : Nat) : Prop where
  ok : KOk s
  nx : s.nx = u + 2
  mt : s.mt = 8
  tm : s.tm = []
  ob : s.ob = ob0
  ct : kcnt s.N true = u + 1
  R : ∀ i, isR s.N i = decide (1 ≤ i ∧ i ≤ u + 1)
  T : ∀ i, isT s.N i = decide (1 ≤ i ∧ i ≤ u + 1)
theorem SpI.start : SpI (k0 (mtOf 8) (mgOf 0)) 0 := by
  obtain ⟨h1, h2, h3, h4, h5, h6, h7, h8, h9⟩ := k0_see (mt := mtOf 8) (mg := mgOf 0) (by decide)
  refine ⟨k0_ok (by decide) (by decide), by rw [h1]; rfl, by rw [h4]; rfl, h2, h3, by rw [h6]; rfl, fun i => ?_, fun i => ?_⟩
  · rw [h8]; congr 1; simp; omega
  · rw [h9]; congr 1; simp; omega
theorem SpI.add {s : KS} {u : Nat} (h : SpI s u) (hu : u < 7) : ∃ s', kspawn s 0 1 = (((u : Int) + 2, 0), s') ∧ SpI s' (u + 1) := by
  obtain ⟨h1, h2, h3⟩ := kspawn_0 h.ok one_isW (by rw [h.ct, h.mt]; omega)
  refine ⟨(kspawn s 0 1).2, Prod.ext (by rw [h1, h.nx]) rfl, h2, by rw [h3.nx, h.nx]; omega, h3.mt.trans h.mt, h3.tm.trans h.tm, h3.ob.trans h.ob, by rw [h3.ct, h.ct]; simp, fun i => ?_, fun i => ?_⟩
  · rw [h3.R, h.R, h.nx, Bool.eq_iff_iff]; simp; omega
  · rw [h3.T, h.T, h.nx, Bool.eq_iff_iff]; simp; omega
/-! ## KernelSignals -/
def dn (w i : Nat) : List Int := (List.range (w - i)).map fun j : Nat => (w : Int) + 1 - (j : Int)
theorem dn_step {w i : Nat} (hi : i < w) : dn w i = dn w (i + 1) ++ [(i : Int) + 2] := by
  unfold dn
  rw [show w - i = w - (i + 1) + 1 by omega, List.range_succ, List.map_append]
  congr 1
  simp only [List.map_cons, List.map_nil, List.cons.injEq, and_true]
  omega
theorem dn_drop {w q : Nat} (hq : q < w) : (dn w 0).drop q = ((w : Int) + 1 - q) :: (dn w 0).drop (q + 1) := by
  have hl : q < (dn w 0).length := by simp [dn]; omega
  rw [List.drop_eq_getElem_cons hl]
  congr 1
  simp [dn]
theorem dn_done {w q : Nat} (hq : w ≤ q) : (dn w 0).drop q = [] := by
  apply List.drop_eq_nil_of_le
  simp [dn]; omega
/-- Those from i + 2 on wait, the last one first. -/
structure SgW (s : KS) (x : Int) (w i : Nat) : Prop where
  ok : KOk s
  nx : s.nx = w + 2
  tm : s.tm = []
  ob : s.ob = ob0.set x.toNat (0, dn w i)
  R : ∀ v, isR s.N v = decide (1 ≤ v ∧ v ≤ i + 1)
  T : ∀ v, isT s.N v = decide (1 ≤ v ∧ v ≤ w + 1)
theorem ob0_set {x : Int} (hx : isOb x = true) : ob0.set x.toNat (0, []) = ob0 := by
  simp [isOb] at hx
  have : x = 0 ∨ x = 1 ∨ x = 2 ∨ x = 3 := by omega
  rcases this with rfl | rfl | rfl | rfl <;> rfl
theorem SpI.sg {s : KS} {w : Nat} (h : SpI s w) {x : Int} (hx : isOb x = true) : SgW s x w w :=
  ⟨h.ok, h.nx, h.tm, by rw [show dn w w = [] by simp [dn], ob0_set hx]; exact h.ob, h.R, h.T⟩
theorem SgW.wait {s : KS} {x : Int} {w i : Nat} (h : SgW s x w (i + 1)) (hx : isOb x = true) (hi : i < w) : ∃ s', kwait s ((i : Int) + 2) x = ((false, 0), s') ∧ SgW s' x w i := by
  have ha : obAt s.ob x = (0, dn w (i + 1)) := by rw [h.ob, obAt_set rfl hx]
  have hr : isR s.N ((i : Int) + 2) = true := by rw [h.R]; simp; omega
  obtain ⟨N', e, h1, h2, _⟩ := kwait_see h.ok hr hx (by rw [ha])
  have hok := kwait_ok h.ok ((i : Int) + 2) x
  rw [e] at hok
  refine ⟨_, e, hok, h.nx, h.tm, ?_, fun v => ?_, fun v => ?_⟩
  · show s.ob.set _ _ = _
    rw [ha, h.ob, List.set_set, dn_step hi]
  · rw [h1, h.R, Bool.eq_iff_iff]
    by_cases c : v = (i : Int) + 2
    · first | (simp [c]; done) | (simp [c]; omega)
    · rw [if_neg c]; simp; omega
  · rw [h2, h.T]
/-- So many signals. -/
structure SgS (s : KS) (x : Int) (w q : Nat) : Prop where
  ok : KOk s
  nx : s.nx = w + 2
  ob : s.ob = ob0.set x.toNat (((q - w : Nat) : Int), (dn w 0).drop q)
  R : ∀ v, isR s.N v = decide (v = 1 ∨ (2 ≤ v ∧ (w : Int) + 1 - q < v ∧ v ≤ w + 1))
  T : ∀ v, isT s.N v = decide (1 ≤ v ∧ v ≤ w + 1)
theorem SgW.sg {s : KS} {x : Int} {w : Nat} (h : SgW s x w 0) : SgS s x w 0 :=
  ⟨h.ok, h.nx, by rw [h.ob]; simp, fun v => by rw [h.R, Bool.eq_iff_iff]; simp; omega, h.T⟩
theorem SgS.sig {s : KS} {x : Int} {w q : Nat} (h : SgS s x w q) (hx : isOb x = true) (hq : q < 100) : ∃ s', ksignal s x = (0, s') ∧ SgS s' x w (q + 1) := by
  have ha : obAt s.ob x = (((q - w : Nat) : Int), (dn w 0).drop q) := by rw [h.ob, obAt_set rfl hx]
  have hok := ksignal_ok h.ok x
  by_cases c : q < w
  · obtain ⟨N', e, h1, h2, _⟩ := ksignal_see (k := (w : Int) + 1 - q) (r := (dn w 0).drop (q + 1)) h.ok hx (by rw [ha]; exact dn_drop c)
    rw [e] at hok
    refine ⟨_, e, hok, h.nx, ?_, fun v => ?_, fun v => ?_⟩
    · show s.ob.set _ _ = _
      rw [ha, h.ob, List.set_set, show q - w = 0 by omega, show q + 1 - w = 0 by omega]
    · rw [h1, h.R, Bool.eq_iff_iff]
      by_cases d : v = (w : Int) + 1 - q
      · rw [if_pos d]; simp [d]; omega
      · rw [if_neg d]; first | (simp; done) | (simp; omega)
    · rw [h2, h.T]
  · have e := ksignal_none (s := s) hx (by rw [ha]; exact dn_done (by omega))
    rw [e] at hok
    refine ⟨_, e, hok, h.nx, ?_, fun v => ?_, h.T⟩
    · show s.ob.set _ _ = _
      rw [ha, h.ob, List.set_set, dn_done (q := q + 1) (by omega)]
      simp only
      rw [show mnI (((q - w : Nat) : Int) + 1) 255 = ((q + 1 - w : Nat) : Int) by unfold mnI; split <;> omega]
    · show isR s.N v = _
      rw [h.R, Bool.eq_iff_iff]; simp; omega
/-- So many are left. -/
structure SgL (s : KS) (x : Int) (w left : Nat) : Prop where
  ok : KOk s
  nx : s.nx = w + 2
  ob : (obAt s.ob x).1 = (left : Int)
  R : isR s.N 1 = true
theorem SgS.left {s : KS} {x : Int} {w q : Nat} (h : SgS s x w q) (hx : isOb x = true) : SgL s x w (q - w) :=
  ⟨h.ok, h.nx, by rw [h.ob, obAt_set rfl hx], by rw [h.R]; simp⟩
theorem SgL.go {s : KS} {x : Int} {w left : Nat} (h : SgL s x w (left + 1)) (hx : isOb x = true) : ∃ s', kwait s 1 x = ((true, 0), s') ∧ SgL s' x w left := by
  have e := kwait_on h.ok h.R hx (by rw [h.ob]; omega)
  have hok := kwait_ok h.ok 1 x
  rw [e] at hok
  refine ⟨_, e, hok, h.nx, ?_, h.R⟩
  show (obAt (s.ob.set _ _) x).1 = _
  rw [obAt_set h.ok.ob hx, h.ob]; simp only; omega
theorem SgL.stop {s : KS} {x : Int} {w : Nat} (h : SgL s x w 0) (hx : isOb x = true) : ∃ s', kwait s 1 x = ((false, 0), s') ∧ KOk s' ∧ s'.nx = w + 2 ∧ rdyOf s'.N 1 = false := by
  obtain ⟨N', e, h1, h2, _⟩ := kwait_see h.ok h.R hx (by rw [h.ob]; rfl)
  have hok := kwait_ok h.ok 1 x
  rw [e] at hok
  refine ⟨_, e, hok, h.nx, ?_⟩
  show rdyOf N' 1 = false
  rw [rdyOf_T (by rw [h2]; exact isR_isT h.R), h1]; simp
/-! ## KernelAlone -/
def alOb (i : Nat) : List Ob := (List.range 4).map fun v => (0, if v < i then [(v : Int) + 1] else [])
theorem alOb_set {i : Nat} (hi : i < 4) : (alOb i).set i (0, [(i : Int) + 1]) = alOb (i + 1) := by
  have : i = 0 ∨ i = 1 ∨ i = 2 ∨ i = 3 := by omega
  rcases this with rfl | rfl | rfl | rfl <;> rfl
theorem alOb_at {i t : Nat} (ht : t < 4) : obAt (alOb i) (t : Int) = (0, if t < i then [(t : Int) + 1] else []) := by
  simp [obAt, alOb, List.getD_eq_getElem?_getD, ht]
theorem alOb_put {m t : Nat} (hm : m ≤ 4) (ht : t < m) : (alOb m).set t (0, [(t : Int) + 1]) = alOb m := by
  refine List.ext_getElem? fun v => ?_
  rw [List.getElem?_set]
  by_cases c : t = v
  · subst c
    rw [if_pos rfl, if_pos (by simp [alOb]; omega)]
    have : t < 4 := by omega
    simp [alOb, this, ht]
  · rw [if_neg c]
/-- Threads 1 to m; those up to i wait, each for an object of its own. -/
structure AlI (s : KS) (m i : Nat) : Prop where
  ok : KOk s
  nx : s.nx = m + 1
  ob : s.ob = alOb i
  R : ∀ v, isR s.N v = decide ((i : Int) < v ∧ v ≤ m)
  T : ∀ v, isT s.N v = decide (1 ≤ v ∧ v ≤ m)
theorem SpI.al {s : KS} {u : Nat} (h : SpI s u) : AlI s (u + 1) 0 :=
  ⟨h.ok, by rw [h.nx]; omega, h.ob, fun v => by rw [h.R, Bool.eq_iff_iff]; simp; omega, fun v => by rw [h.T, Bool.eq_iff_iff]; simp⟩
theorem isOb_nat10 {i : Nat} (hi : i < 4) : isOb (i : Int) = true := by simp [isOb]; omega
theorem AlI.wait {s : KS} {m i : Nat} (h : AlI s m i) (hi : i < m) (hm : m ≤ 4) : ∃ s', kwait s ((i : Int) + 1) (i : Int) = ((false, 0), s') ∧ AlI s' m (i + 1) := by
  have ha : obAt s.ob (i : Int) = (0, []) := by rw [h.ob, alOb_at (by omega), if_neg (by omega)]
  obtain ⟨N', e, h1, h2, _⟩ := kwait_see (k := (i : Int) + 1) (j := (i : Int)) h.ok (by rw [h.R]; simp; omega) (isOb_nat10 (by omega)) (by rw [ha])
  have hok := kwait_ok h.ok ((i : Int) + 1) (i : Int)
  rw [e] at hok
  refine ⟨_, e, hok, h.nx, ?_, fun v => ?_, fun v => ?_⟩
  · show s.ob.set _ _ = _
    rw [ha, h.ob, Int.toNat_natCast]; exact alOb_set (by omega)
  · rw [h1, h.R, Bool.eq_iff_iff]
    by_cases c : v = (i : Int) + 1
    · simp [c]
    · rw [if_neg c]; simp; omega
  · rw [h2, h.T]
theorem AlI.still {s : KS} {m : Nat} (h : AlI s m m) : krunnable s = false := runnable_not h.ok fun i => by rw [h.R]; first | (simp; done) | (simp; omega)
theorem AlI.turn {s : KS} {m t : Nat} (h : AlI s m m) (ht : t < m) (hm : m ≤ 4) : ∃ s1 s2 s3, ksignal s (t : Int) = (0, s1) ∧ krun s1 = (((t : Int) + 1, true), s2) ∧ kwait s2 ((t : Int) + 1) (t : Int) = ((false, 0), s3) ∧ AlI s3 m m := by
  have hx := isOb_nat10 (i := t) (by omega)
  obtain ⟨N1, e1, r1, t1, _⟩ := ksignal_see (j := (t : Int)) (k := (t : Int) + 1) (r := []) h.ok hx (by rw [h.ob, alOb_at (by omega), if_pos ht])
  have k1 := ksignal_ok h.ok (t : Int)
  rw [e1] at k1
  obtain ⟨s1, hs1⟩ : ∃ s1 : KS, s1 = { s with N := N1, ob := s.ob.set (t : Int).toNat ((obAt s.ob (t : Int)).1, []) } := ⟨_, rfl⟩
  rw [← hs1] at e1 k1
  have R1 : ∀ v, isR s1.N v = decide (v = (t : Int) + 1) := fun v => by
    rw [hs1]; show isR N1 v = _
    rw [r1, h.R, Bool.eq_iff_iff]
    by_cases c : v = (t : Int) + 1
    · simp [c]
    · rw [if_neg c]; first | (simp [c]; done) | (simp [c]; omega)
  have T1 : ∀ v, isT s1.N v = isT s.N v := fun v => by rw [hs1]; exact t1 v
  have O1 : s1.ob = (alOb m).set t (0, []) := by
    rw [hs1]; show s.ob.set _ _ = _
    rw [h.ob, alOb_at (by omega), Int.toNat_natCast]
  have hn1 : s1.nx = s.nx := by rw [hs1]
  obtain ⟨r2, t2, _⟩ := krun_see k1
  have k2 := krun_ok k1
  have e2 := krun_one k1 R1
  obtain ⟨s2, hs2⟩ : ∃ s2, (krun s1).2 = s2 := ⟨_, rfl⟩
  rw [hs2] at r2 t2 k2
  have O2 : s2.ob = (alOb m).set t (0, []) := by rw [← hs2]; exact O1
  have hl : (alOb m).length = 4 := rfl
  have ha : obAt s2.ob (t : Int) = (0, []) := by
    have := obAt_set (O := alOb m) (x := (t : Int)) (o := (0, [])) hl hx
    rw [Int.toNat_natCast] at this
    rw [O2]; exact this
  obtain ⟨N3, e3, r3, t3, _⟩ := kwait_see (k := (t : Int) + 1) (j := (t : Int)) k2 (by rw [r2, R1]; simp) hx (by rw [ha])
  have k3 := kwait_ok k2 ((t : Int) + 1) (t : Int)
  rw [e3] at k3
  refine ⟨s1, s2, _, e1, Prod.ext e2 hs2, e3, k3, ?_, ?_, fun v => ?_, fun v => ?_⟩
  · show s2.nx = _
    rw [← hs2]; show s1.nx = _
    rw [hn1]; exact h.nx
  · show s2.ob.set _ _ = _
    rw [ha, O2, Int.toNat_natCast, List.set_set]
    exact alOb_put hm ht
  · show isR N3 v = _
    rw [r3, r2, R1, Bool.eq_iff_iff]
    by_cases c : v = (t : Int) + 1
    · first | (simp [c]; done) | (simp [c]; omega)
    · rw [if_neg c]; first | (simp [c]; done) | (simp [c]; omega)
  · show isT N3 v = _
    rw [t3, t2, T1, h.T]
/-! ## KernelWakes -/
def prs : List Int → Int → List (Int × Int)
  | [], _ => []
  | a :: r, i => (i, a) :: prs r (i + 1)
theorem tmSet_prs (u : Int) : ∀ (l : List Int) (i : Int), tmSet (i + l.length) u (prs l i) = prs (l ++ [u]) i
  | [], i => by simp [prs, tmSet]
  | a :: r, i => by
    have := tmSet_prs u r (i + 1)
    rw [prs, tmSet, if_neg (by simp only [List.length_cons]; omega), if_neg (by simp only [List.length_cons]; omega), List.cons_append, prs, ← this]
    simp only [List.length_cons, List.cons.injEq, true_and]
    congr 1
    omega
/-- Whose time has come, but for the one who's gone. -/
def dF (g t : Int) : List Int → Int → List Int
  | [], _ => []
  | a :: r, i => if i = g ∨ t < a then dF g t r (i + 1) else i :: dF g t r (i + 1)
theorem due_prs (g t : Int) : ∀ (l : List Int) (i : Int), g < i → dueOf t (prs l i) = dF g t l i
  | [], i, _ => rfl
  | a :: r, i, h => by
    have ih := due_prs g t r (i + 1) (by omega)
    unfold dueOf at ih ⊢
    rw [prs, dF]
    by_cases c : t < a
    · rw [List.filter_cons_of_neg (by simp; omega), if_pos (.inr c), ih]
    · rw [List.filter_cons_of_pos (by simp; omega), if_neg (by omega), List.map_cons, ih]
theorem due_drop (g t : Int) : ∀ (l : List Int) (i : Int), dueOf t (tmDrop g (prs l i)) = dF g t l i
  | [], i => rfl
  | a :: r, i => by
    by_cases c : g < i
    · rw [← due_prs g t (a :: r) i c, prs, tmDrop, if_pos c]
    · by_cases d : i = g
      · rw [prs, tmDrop, if_neg c, if_pos d, dF, if_pos (.inl d)]
        exact due_prs g t r (i + 1) (by omega)
      · have ih := due_drop g t r (i + 1)
        rw [prs, tmDrop, if_neg c, if_neg d, dF, ← ih]
        unfold dueOf
        by_cases e : t < a
        · rw [List.filter_cons_of_neg (by simp; omega), if_pos (.inr e)]
        · rw [List.filter_cons_of_pos (by simp; omega), if_neg (by omega), List.map_cons]
theorem due_rest (t : Int) (l : List (Int × Int)) : dueOf t (restOf t l) = [] := by
  unfold dueOf restOf
  rw [List.filter_filter, List.map_eq_nil_iff, List.filter_eq_nil_iff]
  intro a _
  simp
/-- So many threads came, and sleep. -/
structure WkI (s : KS) (l : List Int) (u : Nat) : Prop where
  ok : KOk s
  nx : s.nx = u + 2
  mt : s.mt = 8
  ct : kcnt s.N true = u + 1
  tm : s.tm = prs (l.take u) 2
  R : ∀ v, isR s.N v = decide (v = 1)
  T : ∀ v, isT s.N v = decide (1 ≤ v ∧ v ≤ u + 1)
theorem WkI.start (l : List Int) : WkI (k0 (mtOf 8) (mgOf 0)) l 0 := by
  obtain ⟨h1, h2, h3, h4, h5, h6, h7, h8, h9⟩ := k0_see (mt := mtOf 8) (mg := mgOf 0) (by decide)
  refine ⟨k0_ok (by decide) (by decide), by rw [h1]; rfl, by rw [h4]; rfl, by rw [h6]; rfl, by rw [h2]; rfl, h8, fun i => ?_⟩
  rw [h9]; congr 1; simp; omega
theorem WkI.add {s : KS} {l : List Int} {u : Nat} (h : WkI s l u) (hu : u < 7) {a : Int} (ha : l[u]? = some a) : ∃ s1 s2, kspawn s 0 1 = (((u : Int) + 2, 0), s1) ∧ ksleep s1 ((u : Int) + 2) a = (0, s2) ∧ WkI s2 l (u + 1) := by
  obtain ⟨h1, h2, h3⟩ := kspawn_0 h.ok one_isW (by rw [h.ct, h.mt]; omega)
  obtain ⟨s1, hs1⟩ : ∃ s1, (kspawn s 0 1).2 = s1 := ⟨_, rfl⟩
  rw [hs1] at h2 h3
  have hr : isR s1.N ((u : Int) + 2) = true := by rw [h3.R, h.nx]; simp
  obtain ⟨N', e, q1, q2, q3⟩ := ksleep_see h2 hr a
  have hok := ksleep_ok h2 ((u : Int) + 2) a
  rw [e] at hok
  have hul : u < l.length := (List.getElem?_eq_some_iff.1 ha).1
  refine ⟨s1, _, Prod.ext (by rw [h1, h.nx]) hs1, e, hok, ?_, ?_, ?_, ?_, fun v => ?_, fun v => ?_⟩
  · show s1.nx = _; rw [h3.nx, h.nx]; omega
  · show s1.mt = _; rw [h3.mt, h.mt]
  · show kcnt N' true = _; rw [q3, h3.ct, h.ct]; simp
  · show tmSet _ _ s1.tm = _
    have := tmSet_prs a (l.take u) 2
    rw [List.length_take, Nat.min_eq_left (by omega), show (2 : Int) + (u : Nat) = (u : Int) + 2 by omega] at this
    rw [h3.tm, h.tm, this, List.take_add_one, ha]; rfl
  · show isR N' v = _
    rw [q1, h3.R, h.R, h.nx, Bool.eq_iff_iff]
    by_cases c : v = (u : Int) + 2
    · first | (simp [c]; done) | (simp [c]; omega)
    · rw [if_neg c]; simp [c]
  · show isT N' v = _
    rw [q2, h3.T, h.T, h.nx, Bool.eq_iff_iff]; simp; omega
/-- One is gone, all whose time has come are awake. -/
theorem WkI.wake {s : KS} {l : List Int} (h : WkI s l l.length) {j : Nat} (hj : j < l.length) (t : Int) : ∃ s1 s2 s3, kexit s ((j : Int) + 2) = (0, s1) ∧ kwake s1 t = (dF ((j : Int) + 2) t l 2, s2) ∧ kwake s2 t = ([], s3) ∧ s2.nx = l.length + 2 ∧ KOk s2 ∧ ∀ v ∈ dF ((j : Int) + 2) t l 2, rdyOf s2.N v = true := by
  obtain ⟨N1, e1, r1, t1, _⟩ := kexit_see (k := (j : Int) + 2) h.ok (by rw [h.T]; simp; omega)
  have k1 := kexit_ok h.ok ((j : Int) + 2)
  rw [e1] at k1
  obtain ⟨s1, hs1⟩ : ∃ s1 : KS, s1 = { s with N := N1, tm := tmDrop ((j : Int) + 2) s.tm, ob := obCut s.ob ((j : Int) + 2) } := ⟨_, rfl⟩
  rw [← hs1] at e1 k1
  have hD : dueOf t s1.tm = dF ((j : Int) + 2) t l 2 := by
    rw [hs1]; show dueOf t (tmDrop _ s.tm) = _
    rw [h.tm, List.take_length, due_drop]
  obtain ⟨r2, t2⟩ := kwake_see k1 t
  have k2 := kwake_ok k1 t
  refine ⟨s1, (kwake s1 t).2, (kwake (kwake s1 t).2 t).2, e1, Prod.ext hD rfl, Prod.ext (due_rest t s1.tm) rfl, ?_, k2, fun v hv => ?_⟩
  · show s1.nx = _; rw [hs1]; exact h.nx
  · rw [← hD] at hv
    have hR : isR (kwake s1 t).2.N v = true := by rw [r2]; simp [hv]
    rw [rdyOf_T (isR_isT hR), hR]
theorem dF_cons {g t : Int} {l : List Int} {i : Nat} {a : Int} (ha : l[i]? = some a) (k : Int) : dF g t (l.drop i) k = if k = g ∨ t < a then dF g t (l.drop (i + 1)) (k + 1) else k :: dF g t (l.drop (i + 1)) (k + 1) := by
  have h : i < l.length := (List.getElem?_eq_some_iff.1 ha).1
  have e : l.drop i = a :: l.drop (i + 1) := by
    rw [List.drop_eq_getElem_cons h]; congr 1; exact (List.getElem?_eq_some_iff.1 ha).2
  rw [e, dF]
end Go.Proofs.YtlhjibkkkhgonaaGreat
set_option linter.unusedVariables false
set_option linter.unusedSimpArgs false
namespace Go.Proofs.YtlhjibkkkhgonaaGreat
open Go.RowKit G
/-! ## KernelQuotas -/
theorem mtOf_eq (a : Int) : mxI 1 (mnI a 8) = mtOf a := by unfold mtOf mnI mxI; repeat' split <;> omega
theorem mgOf_eq (a : Int) : mxI 0 (mnI a 4) = mgOf a := by unfold mgOf mnI mxI; repeat' split <;> omega
structure QtI (s : KS) (t g i j : Int) : Prop where
  ok : KOk s
  nx : s.nx ≤ 1 + i + j
  mt : s.mt = t
  mg : s.mg = g
  ct : (kcnt s.N true = i ∧ i ≤ t) ∨ (kcnt s.N true = t ∧ t ≤ i)
  cg : (kcnt s.N false = j ∧ j ≤ g) ∨ (kcnt s.N false = g ∧ g ≤ j)
theorem QtI.start (th gr : Int) : QtI (k0 (mtOf th) (mgOf gr)) (mtOf th) (mgOf gr) 1 0 := by
  have hm := mtOf_in th
  have hg := mgOf_in gr
  obtain ⟨h1, h2, h3, h4, h5, h6, h7, h8, h9⟩ := k0_see (mt := mtOf th) (mg := mgOf gr) hm.1
  exact ⟨k0_ok hm hg, by rw [h1]; omega, h4, h5, .inl ⟨h6, hm.1⟩, .inl ⟨h7, hg.1⟩⟩
theorem QtI.spawn {s : KS} {t g i j : Int} (h : QtI s t g i j) (hi : i < t) : ∃ s', kspawn s 0 1 = ((s.nx, 0), s') ∧ QtI s' t g (i + 1) j := by
  have hc := h.ct
  obtain ⟨h1, h2, h3⟩ := kspawn_0 h.ok one_isW (by rw [h.mt]; omega)
  have c1 := h3.ct true
  have c0 := h3.ct false
  simp at c1 c0
  exact ⟨_, Prod.ext h1 rfl, h2, by have := h.nx; rw [h3.nx]; omega, h3.mt.trans h.mt, h3.mg.trans h.mg, by rw [c1]; omega, by rw [c0]; exact h.cg⟩
theorem QtI.spawnF {s : KS} {t g i j : Int} (h : QtI s t g i j) (hi : t ≤ i) : kspawn s 0 1 = ((0, 14), s) ∧ QtI s t g (i + 1) j := by
  have hc := h.ct
  exact ⟨kspawn_f0 h.ok one_isW (by rw [h.mt]; omega), h.ok, by have := h.nx; omega, h.mt, h.mg, by omega, h.cg⟩
theorem QtI.group {s : KS} {t g i j : Int} (h : QtI s t g i j) (hi : j < g) : ∃ s', kgroup s 0 1 = ((s.nx, 0), s') ∧ QtI s' t g i (j + 1) := by
  have hc := h.cg
  obtain ⟨h1, h2, h3⟩ := kgroup_0 h.ok one_isW (by rw [h.mg]; omega)
  have c1 := h3.ct true
  have c0 := h3.ct false
  simp at c1 c0
  exact ⟨_, Prod.ext h1 rfl, h2, by have := h.nx; rw [h3.nx]; omega, h3.mt.trans h.mt, h3.mg.trans h.mg, by rw [c1]; exact h.ct, by rw [c0]; omega⟩
theorem QtI.groupF {s : KS} {t g i j : Int} (h : QtI s t g i j) (hi : g ≤ j) : kgroup s 0 1 = ((0, 14), s) ∧ QtI s t g i (j + 1) := by
  have hc := h.cg
  exact ⟨kgroup_f0 h.ok one_isW (by rw [h.mg]; omega), h.ok, by have := h.nx; omega, h.mt, h.mg, h.ct, by omega⟩
theorem QtI.exit {s : KS} {t g i j : Int} (h : QtI s t g i j) (hi : t ≤ i) (ht : 1 ≤ t) {k : Int} (hk : k ∈ kthreads s) : ∃ s1 s2, kexit s k = (0, s1) ∧ s1.nx = s.nx ∧ kspawn s1 0 1 = ((s.nx, 0), s2) ∧ s2.nx = s.nx + 1 ∧ kspawn s2 0 1 = ((0, 14), s2) := by
  have hc : kcnt s.N true = t := by have := h.ct; omega
  obtain ⟨N', e, h1, h2, h3⟩ := kexit_see h.ok ((mem_kthreads h.ok).1 hk)
  have k1 := kexit_ok h.ok k
  rw [e] at k1
  obtain ⟨s1, hs1⟩ : ∃ s1 : KS, s1 = { s with N := N', tm := tmDrop k s.tm, ob := obCut s.ob k } := ⟨_, rfl⟩
  rw [← hs1] at e k1
  have k1 : KOk s1 := k1
  have c1 : kcnt s1.N true = t - 1 := by rw [hs1]; show kcnt N' true = _; omega
  have m1 : s1.mt = t := by rw [hs1]; exact h.mt
  have n1 : s1.nx = s.nx := by rw [hs1]
  obtain ⟨q1, q2, q3⟩ := kspawn_0 k1 one_isW (by omega)
  have c2 := q3.ct true
  simp at c2
  exact ⟨s1, (kspawn s1 0 1).2, e, n1, Prod.ext (by rw [q1, n1]) rfl, by rw [q3.nx, n1], kspawn_f0 q2 one_isW (by rw [q3.mt]; omega)⟩
theorem QtI.len {s : KS} {t g i j : Int} (h : QtI s t g i j) (hi : t ≤ i) : ((kthreads s).length : Int) = t := by
  rw [len_kthreads h.ok]; have := h.ct; omega
/-! ## KernelStates -/
structure StI (s : KS) (a : Bool) (t x : Int) : Prop where
  ok : KOk s
  nx : s.nx = 3
  ct : kcnt s.N true = 2
  tm : s.tm = if a then [(2, t)] else []
  ob : s.ob = if a then ob0 else ob0.set x.toNat (0, [2])
  R : ∀ v, isR s.N v = decide (v = 1)
  T : ∀ v, isT s.N v = decide (v = 1 ∨ v = 2)
theorem st_first : ∃ s, kspawn (k0 (mtOf 3) (mgOf 0)) 0 3 = ((2, 0), s) ∧ KOk s ∧ s.nx = 3 ∧ s.tm = [] ∧ s.ob = ob0 ∧ kcnt s.N true = 2 ∧ (∀ v, isR s.N v = decide (v = 1 ∨ v = 2)) ∧ ∀ v, isT s.N v = decide (v = 1 ∨ v = 2) := by
  obtain ⟨h1, h2, h3, h4, h5, h6, h7, h8, h9⟩ := k0_see (mt := mtOf 3) (mg := mgOf 0) (by decide)
  have hk : KOk (k0 (mtOf 3) (mgOf 0)) := k0_ok (by decide) (by decide)
  obtain ⟨q1, q2, q3⟩ := kspawn_0 (wt := 3) hk (by decide) (by rw [h6, h4]; decide)
  refine ⟨(kspawn (k0 (mtOf 3) (mgOf 0)) 0 3).2, Prod.ext (by rw [q1, h1]) rfl, q2, by rw [q3.nx, h1]; rfl, q3.tm.trans h2, q3.ob.trans h3, by rw [q3.ct, h6]; rfl, fun v => ?_, fun v => ?_⟩
  · rw [q3.R, h8, h1, Bool.eq_iff_iff]; simp; omega
  · rw [q3.T, h9, h1, Bool.eq_iff_iff]; simp; omega
theorem st_sleep {s : KS} (hk : KOk s) (hn : s.nx = 3) (htm : s.tm = []) (hob : s.ob = ob0) (hc : kcnt s.N true = 2) (hR : ∀ v, isR s.N v = decide (v = 1 ∨ v = 2)) (hT : ∀ v, isT s.N v = decide (v = 1 ∨ v = 2)) (t x : Int) : ∃ s', ksleep s 2 t = (0, s') ∧ StI s' true t x := by
  obtain ⟨N', e, q1, q2, q3⟩ := ksleep_see hk (k := 2) (by rw [hR]; rfl) t
  have hok := ksleep_ok hk 2 t
  rw [e] at hok
  refine ⟨_, e, hok, hn, by show kcnt N' true = 2; rw [q3, hc], by show tmSet 2 t s.tm = _; rw [htm]; rfl, hob, fun v => ?_, fun v => ?_⟩
  · show isR N' v = _
    rw [q1, hR]
    by_cases c : v = 2
    · simp [c]
    · simp [c]
  · show isT N' v = _
    rw [q2, hT]
theorem st_wait {s : KS} (hk : KOk s) (hn : s.nx = 3) (htm : s.tm = []) (hob : s.ob = ob0) (hc : kcnt s.N true = 2) (hR : ∀ v, isR s.N v = decide (v = 1 ∨ v = 2)) (hT : ∀ v, isT s.N v = decide (v = 1 ∨ v = 2)) (t : Int) {x : Int} (hx : isOb x = true) : ∃ s', kwait s 2 x = ((false, 0), s') ∧ StI s' false t x := by
  obtain ⟨N', e, q1, q2, q3⟩ := kwait_see hk (k := 2) (j := x) (by rw [hR]; rfl) hx (by rw [hob, ob0_at hx])
  have hok := kwait_ok hk 2 x
  rw [e] at hok
  refine ⟨_, e, hok, hn, by show kcnt N' true = 2; rw [q3, hc], htm, ?_, fun v => ?_, fun v => ?_⟩
  · show s.ob.set _ _ = _
    rw [hob, ob0_at hx]; rfl
  · show isR N' v = _
    rw [q1, hR]
    by_cases c : v = 2
    · simp [c]
    · simp [c]
  · show isT N' v = _
    rw [q2, hT]
theorem StI.off {s : KS} {a : Bool} {t x : Int} (h : StI s a t x) : isR s.N 2 = false ∧ rdyOf s.N 2 = false := by
  have h1 : isR s.N 2 = false := by rw [h.R]; rfl
  exact ⟨h1, by rw [rdyOf_T (by rw [h.T]; rfl), h1]⟩
theorem StI.wake {s : KS} {a : Bool} {t x : Int} (h : StI s a t x) : ∃ l s', kwake s t = (l, s') ∧ s'.nx = 3 ∧ KOk s' ∧ rdyOf s'.N 2 = a := by
  obtain ⟨q1, q2⟩ := kwake_see h.ok t
  refine ⟨(kwake s t).1, (kwake s t).2, rfl, h.nx, kwake_ok h.ok t, ?_⟩
  rw [rdyOf_T (by rw [q2, h.T]; rfl), q1, h.R, h.tm]
  cases a with
  | true => simp [dueOf]
  | false => simp [dueOf]
theorem StI.obx {s : KS} {a : Bool} {t x : Int} (h : StI s a t x) (hx : isOb x = true) : obAt s.ob x = (0, if a then [] else [2]) := by
  rw [h.ob]
  cases a with
  | true => exact ob0_at hx
  | false => exact obAt_set rfl hx
theorem StI.signal {s : KS} {a : Bool} {t x : Int} (h : StI s a t x) (hx : isOb x = true) : ∃ s', ksignal s x = (0, s') ∧ s'.nx = 3 ∧ KOk s' ∧ rdyOf s'.N 2 = !a := by
  have ha := h.obx hx
  have hok := ksignal_ok h.ok x
  cases a with
  | true =>
    have e := ksignal_none (s := s) hx (by rw [ha]; rfl)
    rw [e] at hok
    exact ⟨_, e, h.nx, hok, h.off.2⟩
  | false =>
    obtain ⟨N', e, q1, q2, _⟩ := ksignal_see (k := 2) (r := []) h.ok hx (by rw [ha]; rfl)
    rw [e] at hok
    refine ⟨_, e, h.nx, hok, ?_⟩
    show rdyOf N' 2 = _
    rw [rdyOf_T (by rw [q2, h.T]; rfl), q1]; rfl
theorem StI.other {s : KS} {a : Bool} {t x y : Int} (h : StI s a t x) (hx : isOb x = true) (hy : isOb y = true) (hne : x ≠ y) : ∃ l s1 s2, kwake s (t - 1) = (l, s1) ∧ s1.nx = 3 ∧ ksignal s1 y = (0, s2) ∧ s2.nx = 3 ∧ KOk s2 ∧ rdyOf s2.N 2 = false := by
  obtain ⟨q1, q2⟩ := kwake_see h.ok (t - 1)
  have k1 := kwake_ok h.ok (t - 1)
  obtain ⟨s1, hs1⟩ : ∃ s1, (kwake s (t - 1)).2 = s1 := ⟨_, rfl⟩
  rw [hs1] at q1 q2 k1
  have n1 : s1.nx = 3 := by rw [← hs1]; exact h.nx
  have o1 : s1.ob = s.ob := by rw [← hs1]; rfl
  have ha : obAt s1.ob y = (0, []) := by
    rw [o1, h.ob]
    cases a with
    | true => exact ob0_at hy
    | false => exact (obAt_other hx hy hne).trans (ob0_at hy)
  have e := ksignal_none (s := s1) hy (by rw [ha])
  have hok := ksignal_ok k1 y
  rw [e] at hok
  refine ⟨_, s1, _, Prod.ext rfl hs1, n1, e, n1, hok, ?_⟩
  show rdyOf s1.N 2 = false
  rw [rdyOf_T (by rw [q2, h.T]; rfl), q1, h.R, h.tm]
  cases a with
  | true => simp [dueOf]; omega
  | false => simp [dueOf]
theorem StI.exit {s : KS} {a : Bool} {t x : Int} (h : StI s a t x) (hx : isOb x = true) : ∃ s1 s2 s3, kexit s 2 = (0, s1) ∧ s1.nx = 3 ∧ ksignal s1 x = (0, s2) ∧ s2.nx = 3 ∧ kwake s2 t = ([], s3) ∧ s3.nx = 3 ∧ (kthreads s3).length = 1 := by
  obtain ⟨N', e, q1, q2, q3⟩ := kexit_see h.ok (k := 2) (by rw [h.T]; rfl)
  have k1 := kexit_ok h.ok 2
  rw [e] at k1
  obtain ⟨s1, hs1⟩ : ∃ s1 : KS, s1 = { s with N := N', tm := tmDrop 2 s.tm, ob := obCut s.ob 2 } := ⟨_, rfl⟩
  rw [← hs1] at e k1
  have t1 : s1.tm = [] := by rw [hs1]; show tmDrop 2 s.tm = []; rw [h.tm]; cases a <;> simp [tmDrop]
  have o1 : obAt s1.ob x = (0, []) := by
    rw [hs1]; show obAt (obCut s.ob 2) x = _
    rw [h.ob]
    have : x = 0 ∨ x = 1 ∨ x = 2 ∨ x = 3 := by simp [isOb] at hx; omega
    rcases this with rfl | rfl | rfl | rfl <;> cases a <;> rfl
  have n1 : s1.nx = 3 := by rw [hs1]; exact h.nx
  have e2 := ksignal_none (s := s1) hx (by rw [o1])
  have k2 := ksignal_ok k1 x
  rw [e2] at k2
  obtain ⟨s2, hs2⟩ : ∃ s2 : KS, s2 = { s1 with ob := s1.ob.set x.toNat (mnI ((obAt s1.ob x).1 + 1) 255, []) } := ⟨_, rfl⟩
  rw [← hs2] at e2 k2
  have k3 := kwake_ok k2 t
  have d2 : dueOf t s2.tm = [] := by rw [hs2]; show dueOf t s1.tm = []; rw [t1]; rfl
  refine ⟨s1, s2, (kwake s2 t).2, e, n1, e2, by rw [hs2]; exact n1, Prod.ext d2 rfl, by show s2.nx = 3; rw [hs2]; exact n1, ?_⟩
  have k3 : KOk (kwake s2 t).2 := k3
  have := len_kthreads k3
  have h5 : kcnt (kwake s2 t).2.N true = 1 := by
    show kcnt (wakeL s2.N (dueOf t s2.tm)) true = 1
    rw [d2, hs2]; show kcnt s1.N true = 1
    rw [hs1]; show kcnt N' true = 1
    rw [q3, h.ct]; rfl
  omega
end Go.Proofs.YtlhjibkkkhgonaaGreat
set_option linter.unusedVariables false
set_option linter.unusedSimpArgs false
namespace Go.Proofs.YtlhjibkkkhgonaaGreat
open Go.RowKit G
abbrev SR10 := List (Int × Int × Int × Bool × Bool)
def grPar (i : Nat) : Int := if i = 0 then 0 else (i : Int) + 1
def chN (x : Int) : Nat → List Nr
  | 0 => kn01
  | i + 1 => chN x i ++ [⟨(i : Int) + 2, grPar i, x, 0, false, false, 0⟩]
def chS (x : Int) (i : Nat) : KS := ⟨chN x i, [], ob0, 8, 4, (i : Int) + 2⟩
def chR (x : Int) (i : Nat) : List Nr := (chN x i).map (fun z => { z with rdy := true }) ++ [⟨(i : Int) + 2, grPar i, 2, 0, true, true, 0⟩]
def chT (x : Int) (i : Nat) : KS := ⟨chR x i, [], ob0, 8, 4, (i : Int) + 3⟩
theorem ch_start (x : Int) : k0 (mtOf 8) (mgOf 4) = chS x 0 := k0_is (by decide)
theorem ch_at (x : Int) {i : Nat} (hi : i < 4) : ∃ p, gt (chN x i) (grPar i) = some p ∧ p.thr = false ∧ p.now = 0 ∧ deepN 6 (chN x i) (grPar i) = i + 1 ∧ kcnt (chN x i) false = i := by
  have : i = 0 ∨ i = 1 ∨ i = 2 ∨ i = 3 := by omega
  rcases this with rfl | rfl | rfl | rfl <;> exact ⟨_, rfl, rfl, rfl, rfl, rfl⟩
theorem ch_group {x : Int} {i : Nat} (hx : isW x = true) (hi : i < 3) (hk : KOk (chS x i)) : kgroup (chS x i) (grPar i) x = (((i : Int) + 2, 0), chS x (i + 1)) := by
  obtain ⟨p, h1, h2, h3, h4, h5⟩ := ch_at x (i := i) (by omega)
  have := kadds_at (s := chS x i) (par := grPar i) (most := 4) (thr := false) hk hx h1 h2 (.inr (by show deepN 6 (chN x i) _ < 4; omega)) (by show kcnt (chN x i) false < 4; omega)
  rw [h3] at this
  rw [kgroup]
  refine this.trans ?_
  show (((i : Int) + 2, (0 : Int)), KS.mk (chN x i ++ [⟨(i : Int) + 2, grPar i, x, 0, false, false, 0⟩]) [] ob0 8 4 ((i : Int) + 2 + 1)) = (((i : Int) + 2, 0), chS x (i + 1))
  rw [chS, chN]
  have : (i : Int) + 2 + 1 = ((i + 1 : Nat) : Int) + 2 := by omega
  rw [this]
theorem ch_deep {x : Int} (hx : isW x = true) : kgroup (chS x 3) (grPar 3) x = ((0, 12), chS x 3) := by
  obtain ⟨p, h1, h2, h3, h4, h5⟩ := ch_at x (i := 3) (by omega)
  have hn : gt (chN x 3) 5 = none := rfl
  have ha : addN (chN x 3) (grPar 3) 5 x false = (12, chN x 3) := by
    rw [addN, if_neg (by rw [hx]; simp), h1]
    simp only
    rw [if_neg (by rw [h2]; simp), if_neg (by rw [hn]; simp), if_pos (by rw [h4]; simp)]
  rw [kgroup, kadds, if_neg (by rw [hx]; simp), if_neg (by show ¬ ((gt (chN x 3) (grPar 3)).isNone ∨ _); rw [show gt (chS x 3).N (grPar 3) = some p from h1, h1]; simp [h2]), if_neg (by show ¬ kcnt (chN x 3) false ≥ 4; omega)]
  have hb : addN (chS x 3).N (grPar 3) (chS x 3).nx x false = (12, chN x 3) := ha
  rw [if_pos (by rw [hb]; simp), hb]
theorem ch_spawn (x : Int) {i : Nat} (hi : i < 4) : kspawn (chS x i) (grPar i) 2 = (((i : Int) + 2, 0), chT x i) := by
  have : i = 0 ∨ i = 1 ∨ i = 2 ∨ i = 3 := by omega
  rcases this with rfl | rfl | rfl | rfl <;> rfl
def grY (x : Int) (i : Nat) : Int := if i = 0 then 2 else x
/-- The root has thread 1 and node 2; what's in node 2 is one below the other, the last of them a thread. -/
structure GrJ (y : Int) (d : Nat) (S : SR10) : Prop where
  all : ∀ s ∈ S, (s.1 = 0 ∧ s.2.1 = -1 ∧ s.2.2.2.1 = false) ∨ (s.1 = 1 ∧ s.2.1 = 0 ∧ s.2.2.1 = 1 ∧ s.2.2.2.1 = true) ∨ (s.1 = 2 ∧ s.2.1 = 0 ∧ s.2.2.1 = y ∧ (s.2.2.2.1 = true → s.1 = (d : Int) + 2)) ∨ (3 ≤ s.1 ∧ s.2.1 = s.1 - 1 ∧ (s.2.2.2.1 = true → s.1 = (d : Int) + 2))
  r0 : ∃ w, (0, -1, w, false, true) ∈ S
  r1 : ∃ t, (1, 0, 1, t, true) ∈ S
  r2 : ∃ t, (2, 0, y, t, true) ∈ S
theorem ch_J (x : Int) {i : Nat} (hi : i < 4) : GrJ (grY x i) i ((chR x i).map skr) := by
  have : i = 0 ∨ i = 1 ∨ i = 2 ∨ i = 3 := by omega
  rcases this with rfl | rfl | rfl | rfl
  · refine ⟨fun s hs => ?_, ⟨1, by simp [chR, chN, kn01, skr]⟩, ⟨true, by simp [chR, chN, kn01, skr]⟩, ⟨true, by simp [chR, chN, kn01, skr, grPar, grY]⟩⟩
    simp [chR, chN, kn01, skr, grPar] at hs
    rcases hs with rfl | rfl | rfl <;> simp [grY]
  · refine ⟨fun s hs => ?_, ⟨1, by simp [chR, chN, kn01, skr]⟩, ⟨true, by simp [chR, chN, kn01, skr]⟩, ⟨false, by simp [chR, chN, kn01, skr, grPar, grY]⟩⟩
    simp [chR, chN, kn01, skr, grPar] at hs
    rcases hs with rfl | rfl | rfl | rfl <;> simp [grY]
  · refine ⟨fun s hs => ?_, ⟨1, by simp [chR, chN, kn01, skr]⟩, ⟨true, by simp [chR, chN, kn01, skr]⟩, ⟨false, by simp [chR, chN, kn01, skr, grPar, grY]⟩⟩
    simp [chR, chN, kn01, skr, grPar] at hs
    rcases hs with rfl | rfl | rfl | rfl | rfl <;> simp [grY]
  · refine ⟨fun s hs => ?_, ⟨1, by simp [chR, chN, kn01, skr]⟩, ⟨true, by simp [chR, chN, kn01, skr]⟩, ⟨false, by simp [chR, chN, kn01, skr, grPar, grY]⟩⟩
    simp [chR, chN, kn01, skr, grPar] at hs
    rcases hs with rfl | rfl | rfl | rfl | rfl | rfl <;> simp [grY]
theorem bel_ge {N : List Nr} (hn : ∀ z ∈ N, 2 ≤ z.par → 2 ≤ z.id) {k t : Int} (h : Bel N k t) : 2 ≤ k → 2 ≤ t := by
  induction h with
  | refl => exact fun h => h
  | step hy hp _ ih => exact fun hk => ih (hn _ hy (by omega))
theorem gr_run {N : List Nr} {y : Int} {d : Nat} {S : SR10} (hw : WFN N) (h : N.map skr = S) (hJ : GrJ y d S) : ∃ (b : Bool) (N' : List Nr), runN N = ((if b then (d : Int) + 2 else 1, true), N') ∧ WFN N' ∧ N'.map skr = S ∧
    ps N' 2 - ps N' 1 = ps N 2 - ps N 1 + (if b then strd y else 0 - strd 1) := by
  obtain ⟨w, h0⟩ := hJ.r0
  obtain ⟨t1, h1⟩ := hJ.r1
  obtain ⟨t2, h2⟩ := hJ.r2
  obtain ⟨r0, hr0, hr1, _, _, _, hr5⟩ := skr_get h h0
  obtain ⟨v, id, N', e1, e2, e3, hv, hvp, hvr, ⟨t, ht, hti, htt, _⟩, hb, δ, hd⟩ := run_ps hw hr0 hr1 hr5
  obtain ⟨z1, hz1, f1, p1, _, _, rd1⟩ := skr_get h h1
  obtain ⟨z2, hz2, f2, p2, _, _, rd2⟩ := skr_get h h2
  have d1 := hd z1 hz1 p1 rd1
  have d2 := hd z2 hz2 p2 rd2
  rw [f1] at d1
  rw [f2] at d2
  rcases hJ.all _ (skr_mem h hv) with h4 | h4 | h4 | h4 <;> simp only at h4
  · omega
  · have : id = v.id := bel_leaf hb fun z hz e => by
      rcases hJ.all _ (skr_mem h hz) with h6 | h6 | h6 | h6 <;> simp only at h6 <;> omega
    refine ⟨false, N', by rw [e1, this, h4.1]; rfl, e2, e3.trans h, ?_⟩
    rw [d1, d2, h4.1, h4.2.2.1]; simp; omega
  · have h7 : 2 ≤ id := bel_ge (fun z hz hp => by rcases hJ.all _ (skr_mem h hz) with h6 | h6 | h6 | h6 <;> simp only at h6 <;> omega) hb (by omega)
    have h8 : id = (d : Int) + 2 := by
      rcases hJ.all _ (skr_mem h ht) with h6 | h6 | h6 | h6 <;> simp only at h6
      · omega
      · omega
      · have := h6.2.2.2 htt; omega
      · have := h6.2.2 htt; omega
    refine ⟨true, N', by rw [e1, h8]; rfl, e2, e3.trans h, ?_⟩
    rw [d1, d2, h4.1, h4.2.2.1]; simp; omega
  · omega
theorem gr_in {N : List Nr} {y : Int} {d : Nat} {S : SR10} (hw : WFN N) (h : N.map skr = S) (hJ : GrJ y d S) : ps N 2 - ps N 1 ≤ strd y ∧ ps N 1 - ps N 2 ≤ strd 1 := by
  obtain ⟨w, h0⟩ := hJ.r0
  obtain ⟨t1, h1⟩ := hJ.r1
  obtain ⟨t2, h2⟩ := hJ.r2
  obtain ⟨r0, hr0, hr1, _⟩ := skr_get h h0
  obtain ⟨z1, hz1, f1, p1, w1, _, rd1⟩ := skr_get h h1
  obtain ⟨z2, hz2, f2, p2, w2, _, rd2⟩ := skr_get h h2
  have := two_in hw hz2 hz1 hr0 (by omega) (by omega) rd2 rd1
  rw [f1, f2, w1, w2] at this
  exact this
/-- So many quanta, so many of them node 2's. -/
structure GrI (s : KS) (y : Int) (d : Nat) (n had : Nat) : Prop where
  ok : KOk s
  J : GrJ y d (s.N.map skr)
  le : had ≤ n
  df : ps s.N 2 - ps s.N 1 = (had : Int) * strd y - ((n : Int) - had) * strd 1
theorem ch_I (x : Int) {i : Nat} (hi : i < 4) (hk : KOk (chT x i)) : GrI (chT x i) (grY x i) i 0 0 := by
  refine ⟨hk, ch_J x hi, Nat.le_refl _, ?_⟩
  have : i = 0 ∨ i = 1 ∨ i = 2 ∨ i = 3 := by omega
  simp only [Int.natCast_zero, Int.zero_mul, Int.sub_self]
  rcases this with rfl | rfl | rfl | rfl <;> rfl
theorem GrI.run {s : KS} {y : Int} {d n had : Nat} (h : GrI s y d n had) : ∃ (b : Bool) (s' : KS), krun s = ((if b then (d : Int) + 2 else 1, true), s') ∧ GrI s' y d (n + 1) (if b then had + 1 else had) := by
  obtain ⟨b, N', e, h1, h2, h3⟩ := gr_run h.ok.wf rfl h.J
  have hok := krun_ok h.ok
  have hle := h.le
  have e' : krun s = ((if b then (d : Int) + 2 else 1, true), { s with N := N' }) := by rw [krun, e]
  rw [e'] at hok
  refine ⟨b, _, e', hok, by show GrJ y d (N'.map skr); rw [h2]; exact h.J, by cases b <;> simp <;> omega, ?_⟩
  show ps N' 2 - ps N' 1 = _
  rw [h3, h.df]
  cases b with
  | true =>
    simp only [if_true]
    rw [show ((had + 1 : Nat) : Int) = (had : Int) + 1 by omega, Int.add_mul, show (((n + 1 : Nat) : Int) - ((had : Int) + 1)) = (n : Int) - had by omega]
    omega
  | false =>
    simp only [Bool.false_eq_true, if_false]
    rw [show (((n + 1 : Nat) : Int) - (had : Int)) = ((n : Int) - had) + 1 by omega, Int.add_mul]
    omega
theorem GrI.done {s : KS} {y : Int} {d had : Nat} (h : GrI s y d 34 had) (hy : isW y = true) : (had : Int) * (y + 1) ≥ 34 * y - 2 * (y + 1) ∧ (had : Int) * (y + 1) ≤ 34 * y + 2 * (y + 1) := by
  have h1 := gr_in h.ok.wf rfl h.J
  have h2 := h.df
  have h3 := h.le
  have h4 : 1 ≤ y ∧ y ≤ 16 := by simpa [isW] using hy
  have s1 : strd 1 = 720720 := rfl
  have e34 : ((34 : Nat) : Int) = 34 := rfl
  rw [s1, e34] at h2
  rw [s1] at h1
  obtain ⟨a1, a2⟩ := h1
  have g1 : (had : Int) * strd y - (34 - (had : Int)) * 720720 ≤ strd y := by omega
  have g2 : 0 - 720720 ≤ (had : Int) * strd y - (34 - (had : Int)) * 720720 := by omega
  clear h2 a1 a2
  have h5 : y = 1 ∨ y = 2 ∨ y = 3 ∨ y = 4 ∨ y = 5 ∨ y = 6 ∨ y = 7 ∨ y = 8 ∨ y = 9 ∨ y = 10 ∨ y = 11 ∨ y = 12 ∨ y = 13 ∨ y = 14 ∨ y = 15 ∨ y = 16 := by omega
  rcases h5 with rfl | rfl | rfl | rfl | rfl | rfl | rfl | rfl | rfl | rfl | rfl | rfl | rfl | rfl | rfl | rfl
  · rw [show strd 1 = 720720 from rfl] at g1 g2; omega
  · rw [show strd 2 = 360360 from rfl] at g1 g2; omega
  · rw [show strd 3 = 240240 from rfl] at g1 g2; omega
  · rw [show strd 4 = 180180 from rfl] at g1 g2; omega
  · rw [show strd 5 = 144144 from rfl] at g1 g2; omega
  · rw [show strd 6 = 120120 from rfl] at g1 g2; omega
  · rw [show strd 7 = 102960 from rfl] at g1 g2; omega
  · rw [show strd 8 = 90090 from rfl] at g1 g2; omega
  · rw [show strd 9 = 80080 from rfl] at g1 g2; omega
  · rw [show strd 10 = 72072 from rfl] at g1 g2; omega
  · rw [show strd 11 = 65520 from rfl] at g1 g2; omega
  · rw [show strd 12 = 60060 from rfl] at g1 g2; omega
  · rw [show strd 13 = 55440 from rfl] at g1 g2; omega
  · rw [show strd 14 = 51480 from rfl] at g1 g2; omega
  · rw [show strd 15 = 48048 from rfl] at g1 g2; omega
  · rw [show strd 16 = 45045 from rfl] at g1 g2; omega
end Go.Proofs.YtlhjibkkkhgonaaGreat
