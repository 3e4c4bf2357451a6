/- Trees: threads in the root, by turns, by counting. Conditions: none. -/
import Derived.Test.YtjbjngikaiggdaaGreatTwk
import Derived.Test.YtjbjngikaiggdaaGreatTss
set_option linter.unusedVariables false
set_option linter.unusedSimpArgs false
namespace Go.Proofs.YtjbjngikaiggdaaGreat
open Go.RowKit G
/-- While threads come into the root: so many, of weights W; nothing has run. -/
structure ThI (W : Nat → Int) (u : Nat) (N : List Nr) : Prop where
  wf : WFN N
  all : ∀ z ∈ N, z.id = 0 ∨ ∃ j : Nat, j < u ∧ z.id = (j : Int) + 1 ∧ z.par = 0 ∧ z.wt = W j ∧ z.thr = true ∧ z.rdy = true
  has : ∀ j : Nat, j < u → ∃ z ∈ N, z.id = (j : Int) + 1
  zero : ∀ z ∈ N, z.pass = 0 ∧ z.now = 0
  len : N.length = 1 + u
theorem ThI.start (W : Nat → Int) : ThI W 0 [rootN] :=
  ⟨root_wf, fun z hz => by simp at hz; subst hz; exact .inl rfl, fun j hj => by omega, fun z hz => by simp at hz; subst hz; exact ⟨rfl, rfl⟩, rfl⟩
theorem ThI.add {W : Nat → Int} {u : Nat} {N : List Nr} (h : ThI W u N) (hu : u < 8) {w : Int} (hw : isW w = true) (hWu : W u = w) : ∃ N1 N2, addN N 0 ((u : Int) + 1) w true = (0, N1) ∧ readyN N1 ((u : Int) + 1) true = (0, N2) ∧ ThI W (u + 1) N2 := by
  obtain ⟨p, hp, hpi⟩ := h.wf.sk.root
  have hpt := (h.wf.sk.rt p hp hpi).2
  have hno : ∀ z ∈ N, z.id ≠ (u : Int) + 1 := fun z hz e => by
    rcases h.all z hz with h1 | ⟨j, hj, h1, _⟩ <;> omega
  have hA := addN_is (N := N) (par := 0) (id := (u : Int) + 1) (wt := w) (thr := true) (p := p) hw (by omega) (hpi ▸ gt_of h.wf.sk.nd hp) hpt (gt_none.2 hno) (.inl rfl) (by rw [h.len]; omega)
  rw [(h.zero p hp).2] at hA
  have hw1 : WFN (N ++ [⟨(u : Int) + 1, 0, w, 0, true, false, 0⟩]) := by
    have := add_wf h.wf 0 ((u : Int) + 1) w true
    rw [hA] at this; exact this
  have hm : ∀ z, z ∈ N ++ [⟨(u : Int) + 1, 0, w, 0, true, false, 0⟩] ↔ z ∈ N ∨ z = ⟨(u : Int) + 1, 0, w, 0, true, false, 0⟩ := fun z => by simp
  have hgn : gt (N ++ [⟨(u : Int) + 1, 0, w, 0, true, false, 0⟩]) ((u : Int) + 1) = some ⟨(u : Int) + 1, 0, w, 0, true, false, 0⟩ := gt_of hw1.sk.nd ((hm _).2 (.inr rfl))
  obtain ⟨g, hk, he, hr⟩ := wake_wk 6 (N ++ [⟨(u : Int) + 1, 0, w, 0, true, false, 0⟩]) ((u : Int) + 1)
  have hR : readyN (N ++ [⟨(u : Int) + 1, 0, w, 0, true, false, 0⟩]) ((u : Int) + 1) true = (0, List.map g (N ++ [⟨(u : Int) + 1, 0, w, 0, true, false, 0⟩] : List Nr)) := by
    rw [readyN, hgn]; simp only [if_true]; rw [he]
  have hw2 : WFN (List.map g (N ++ [⟨(u : Int) + 1, 0, w, 0, true, false, 0⟩] : List Nr)) := by
    have := ready_wf hw1 ((u : Int) + 1) true
    rw [hR] at this; exact this
  refine ⟨_, _, hA, hR, ?_⟩
  have hz0 : ∀ z ∈ N ++ [⟨(u : Int) + 1, 0, w, 0, true, false, 0⟩], z.pass = 0 ∧ z.now = 0 := fun z hz => by
    rcases (hm z).1 hz with hz | rfl
    · exact h.zero z hz
    · exact ⟨rfl, rfl⟩
  refine ⟨hw2, fun z hz => ?_, fun j hj => ?_, fun z hz => ?_, by rw [List.length_map, List.length_append, h.len]; simp; omega⟩
  · obtain ⟨v, hv, rfl⟩ := List.mem_map.1 hz
    rw [hk.sk.id, hk.sk.par, hk.sk.thr, (hk.wt v).1]
    rcases (hm v).1 hv with hv' | rfl
    · rcases h.all v hv' with h1 | ⟨j, hj, h1, h2, h3, h4, h5⟩
      · exact .inl h1
      · exact .inr ⟨j, by omega, h1, h2, h3, h4, hk.rdy v h5⟩
    · exact .inr ⟨u, by omega, rfl, rfl, hWu.symm, rfl, hr (by omega) _ hv hw1.sk.nd rfl⟩
  · by_cases c : j = u
    · subst c; exact ⟨_, List.mem_map.2 ⟨_, (hm _).2 (.inr rfl), rfl⟩, hk.sk.id _⟩
    · obtain ⟨z, hz, e⟩ := h.has j (by omega)
      exact ⟨g z, List.mem_map.2 ⟨z, (hm z).2 (.inl hz), rfl⟩, by rw [hk.sk.id, e]⟩
  · obtain ⟨v, hv, rfl⟩ := List.mem_map.1 hz
    exact ⟨hk.zero hz0 v hv, by rw [(hk.wt v).2]; exact (hz0 v hv).2⟩
/-- All are there, and ready. -/
structure ThJ (W : Nat → Int) (m : Nat) (S : List (Int × Int × Int × Bool × Bool)) : Prop where
  all : ∀ s ∈ S, (s.1 = 0 ∧ s.2.1 = -1 ∧ s.2.2.2.1 = false) ∨ ∃ j : Nat, j < m ∧ s = ((j : Int) + 1, 0, W j, true, true)
  has : ∀ j : Nat, j < m → ((j : Int) + 1, 0, W j, true, true) ∈ S
  r0 : ∃ w, (0, -1, w, false, true) ∈ S
theorem ThI.done {W : Nat → Int} {m : Nat} {N : List Nr} (h : ThI W m N) (hm : 1 ≤ m) : ThJ W m (N.map skr) := by
  have get : ∀ j : Nat, j < m → ∃ z ∈ N, z.id = (j : Int) + 1 ∧ z.par = 0 ∧ z.wt = W j ∧ z.thr = true ∧ z.rdy = true := fun j hj => by
    obtain ⟨z, hz, e⟩ := h.has j hj
    rcases h.all z hz with h1 | ⟨i, _, h1, h2⟩
    · omega
    · have : i = j := by omega
      subst this; exact ⟨z, hz, e, h2⟩
  obtain ⟨r, hr, e0⟩ := h.wf.sk.root
  have hrt := h.wf.sk.rt r hr e0
  have g0 : r.rdy = true := by
    obtain ⟨z, hz, h1, h2, _, _, h5⟩ := get 0 (by omega)
    exact (h.wf.rd r hr hrt.2).2 ⟨z, hz, by rw [h2, e0], h5⟩
  refine ⟨fun s hs => ?_, fun j hj => ?_, ⟨r.wt, List.mem_map.2 ⟨r, hr, by simp [skr, e0, hrt.1, hrt.2, g0]⟩⟩⟩
  · obtain ⟨z, hz, rfl⟩ := List.mem_map.1 hs
    rcases h.all z hz with h1 | ⟨j, hj, h1, h2, h3, h4, h5⟩
    · exact .inl ⟨h1, h.wf.sk.rt z hz h1⟩
    · exact .inr ⟨j, hj, by simp [skr, h1, h2, h3, h4, h5]⟩
  · obtain ⟨z, hz, h1, h2, h3, h4, h5⟩ := get j hj
    exact List.mem_map.2 ⟨z, hz, by simp [skr, h1, h2, h3, h4, h5]⟩
/-- A run, as the root sees it; the one that is chosen has the least pass. -/
theorem run_min {N : List Nr} (hw : WFN N) {r : Nr} (hr : r ∈ N) (hri : r.id = 0) (hrd : r.rdy = true) : ∃ (y : Nr) (id : Int) (N' : List Nr), runN N = ((id, true), N') ∧ WFN N' ∧ N'.map skr = N.map skr ∧ y ∈ N ∧ y.par = 0 ∧ y.rdy = true ∧ (∃ t ∈ N, t.id = id ∧ t.thr = true ∧ t.rdy = true) ∧ Bel N y.id id ∧
    (∀ z ∈ N, z.par = 0 → z.rdy = true → ps N y.id ≤ ps N z.id) ∧ ∃ δ : Int, ∀ z ∈ N, z.par = 0 → z.rdy = true → ps N' z.id = ps N z.id + (if z.id = y.id then strd y.wt else 0) - δ := by
  obtain ⟨y, id, g, h1, h2, h3, h4, ⟨t, ht, hti, htt, htr, hb⟩, δ, hd⟩ := run_root hw (hri ▸ gt_of hw.sk.nd hr) hrd
  obtain ⟨hy, hmin⟩ := least_some h4
  obtain ⟨hyN, hyp, hyr⟩ := mem_kidR.1 hy
  refine ⟨y, id, N.map g, h1, h3, h2.skr N, hyN, hyp, hyr, ⟨t, ht, hti, htt, htr⟩, hb, fun z hz hzp hzr => ?_, δ, fun z hz hzp hzr => ?_⟩
  · rw [ps_of hw.sk.nd hyN, ps_of hw.sk.nd hz]
    have h5 := hmin z (mem_kidR.2 ⟨hz, hzp, hzr⟩)
    have : ¬ z.pass < y.pass := fun c => by
      have : lessN z y = true := by simp [lessN, c]
      rw [this] at h5; cases h5
    omega
  · have e1 : ps (N.map g) z.id = (g z).pass := by
      have := ps_of h3.sk.nd (z := g z) (List.mem_map.2 ⟨z, hz, rfl⟩)
      rw [h2.sk.id] at this; exact this
    rw [e1, ps_of hw.sk.nd hz]
    exact hd z hz hzp hzr
theorem th_run {N : List Nr} {W : Nat → Int} {m : Nat} {S : List (Int × Int × Int × Bool × Bool)} (hw : WFN N) (h : N.map skr = S) (hJ : ThJ W m S) : ∃ (j : Nat) (N' : List Nr), j < m ∧ runN N = (((j : Int) + 1, true), N') ∧ WFN N' ∧ N'.map skr = S ∧
    (∀ i : Nat, i < m → ps N ((j : Int) + 1) ≤ ps N ((i : Int) + 1)) ∧ ∃ δ : Int, ∀ i : Nat, i < m → ps N' ((i : Int) + 1) = ps N ((i : Int) + 1) + (if i = j then strd (W j) else 0) - δ := by
  obtain ⟨w, h0⟩ := hJ.r0
  obtain ⟨r0, hr0, hr1, _, _, _, hr5⟩ := skr_get h h0
  obtain ⟨v, id, N', h1, h2, h3, hv, hvp, hvr, ⟨t, ht, hti, htt, _⟩, hb, hmin, δ, hd⟩ := run_min hw hr0 hr1 hr5
  obtain ⟨j, hj, hvj⟩ : ∃ j : Nat, j < m ∧ v.id = (j : Int) + 1 ∧ v.wt = W j := by
    rcases hJ.all _ (skr_mem h hv) with h4 | ⟨j, hj, h4⟩
    · simp only at h4; omega
    · simp only [Prod.mk.injEq] at h4; exact ⟨j, hj, h4.1, h4.2.2.1⟩
  have hid : id = v.id := bel_leaf hb fun z hz e => by
    rcases hJ.all _ (skr_mem h hz) with h4 | ⟨i, hi, h4⟩ <;> simp only [Prod.mk.injEq] at h4 <;> omega
  subst hid
  have get : ∀ i : Nat, i < m → ∃ z ∈ N, z.id = (i : Int) + 1 ∧ z.par = 0 ∧ z.rdy = true := fun i hi => by
    obtain ⟨z, hz, e1, e2, _, _, e5⟩ := skr_get h (hJ.has i hi)
    exact ⟨z, hz, e1, e2, e5⟩
  refine ⟨j, N', hj, by rw [h1, hvj.1], h2, h3.trans h, fun i hi => ?_, δ, fun i hi => ?_⟩
  · obtain ⟨z, hz, e1, e2, e3⟩ := get i hi
    have := hmin z hz e2 e3
    rw [hvj.1, e1] at this; exact this
  · obtain ⟨z, hz, e1, e2, e3⟩ := get i hi
    have := hd z hz e2 e3
    rw [e1, hvj.1, hvj.2] at this
    rw [this]
    by_cases c : i = j
    · subst c; simp
    · rw [if_neg (by omega), if_neg c]
/-! ## a round -/
def cntL (xs : List Int) (j : Nat) : Int := xs.getD (j + 1) 0
def totL (xs : List Int) : Nat → Int
  | 0 => 0
  | m + 1 => totL xs m + cntL xs m
def sumW (W : Nat → Int) : Nat → Int
  | 0 => 0
  | m + 1 => sumW W m + W m
theorem cnt_set {xs : List Int} {j i : Nat} {v : Int} (hj : j + 1 < xs.length) : cntL (xs.set (j + 1) v) i = if i = j then v else cntL xs i := by
  unfold cntL
  rw [List.getD_eq_getElem?_getD, List.getElem?_set, List.getD_eq_getElem?_getD]
  by_cases c : i = j
  · subst c; simp [hj]
  · rw [if_neg (by omega), if_neg c]
theorem cntL_at {xs : List Int} {j : Nat} (h : j + 1 < xs.length) : xs[j + 1]? = some (cntL xs j) := by
  unfold cntL
  rw [List.getD_eq_getElem?_getD, List.getElem?_eq_getElem h]; rfl
theorem tot_set {xs : List Int} {j : Nat} (hj : j + 1 < xs.length) : ∀ m, totL (xs.set (j + 1) (cntL xs j + 1)) m = totL xs m + if j < m then 1 else 0
  | 0 => by simp [totL]
  | m + 1 => by
    rw [totL, totL, tot_set hj m, cnt_set hj]
    by_cases c : m = j
    · subst c; simp; omega
    · rw [if_neg c]
      by_cases d : j < m
      · rw [if_pos d, if_pos (by omega)]; omega
      · rw [if_neg d, if_neg (by omega)]; omega
theorem tot_lt {xs : List Int} {W : Nat → Int} : ∀ {m : Nat}, (∀ j, j < m → cntL xs j ≤ W j) → totL xs m < sumW W m → ∃ j, j < m ∧ cntL xs j < W j
  | 0, _, h => by simp [totL, sumW] at h
  | m + 1, hc, h => by
    by_cases c : cntL xs m < W m
    · exact ⟨m, by omega, c⟩
    · have h1 := hc m (by omega)
      rw [totL, sumW] at h
      obtain ⟨j, hj, h2⟩ := tot_lt (m := m) (fun j hj => hc j (by omega)) (by omega)
      exact ⟨j, by omega, h2⟩
theorem tot_le {xs : List Int} {W : Nat → Int} : ∀ {m : Nat}, (∀ j, j < m → cntL xs j ≤ W j) → totL xs m ≤ sumW W m
  | 0, _ => by simp [totL, sumW]
  | m + 1, hc => by
    have h1 := hc m (by omega)
    have h2 := tot_le (m := m) (fun j hj => hc j (by omega))
    rw [totL, sumW]; omega
theorem tot_eq {xs : List Int} {W : Nat → Int} : ∀ {m : Nat}, (∀ j, j < m → cntL xs j ≤ W j) → totL xs m = sumW W m → ∀ j, j < m → cntL xs j = W j
  | 0, _, _, j, hj => by omega
  | m + 1, hc, h, j, hj => by
    have h1 := hc m (by omega)
    have h2 := tot_le (m := m) (fun j hj => hc j (by omega))
    rw [totL, sumW] at h
    by_cases c : j = m
    · subst c; omega
    · exact tot_eq (m := m) (fun j hj => hc j (by omega)) (by omega) j (by omega)
theorem strd_whole {w : Int} (h : isW w = true) : w * strd w = 720720 := by
  obtain ⟨h1, h2⟩ := isW_cases h
  have : w = 1 ∨ w = 2 ∨ w = 3 ∨ w = 4 ∨ w = 5 ∨ w = 6 ∨ w = 7 ∨ w = 8 ∨ w = 9 ∨ w = 10 ∨ w = 11 ∨ w = 12 ∨ w = 13 ∨ w = 14 ∨ w = 15 ∨ w = 16 := by omega
  rcases this with rfl | rfl | rfl | rfl | rfl | rfl | rfl | rfl | rfl | rfl | rfl | rfl | rfl | rfl | rfl | rfl <;> decide
/-- So far in a round: each has had no more than it weighs. -/
structure Rnd (W : Nat → Int) (m : Nat) (N : List Nr) (xs : List Int) : Prop where
  len : xs.length = 8
  le : ∀ j, j < m → 0 ≤ cntL xs j ∧ cntL xs j ≤ W j
  ps : ∃ Q : Int, ∀ j : Nat, j < m → ps N ((j : Int) + 1) = Q + cntL xs j * strd (W j)
theorem Rnd.step {W : Nat → Int} {m : Nat} {N N' : List Nr} {xs : List Int} (h : Rnd W m N xs) (hm : m ≤ 7) (hW : ∀ j, j < m → isW (W j) = true) (ht : totL xs m < sumW W m) {j : Nat} (hj : j < m)
    (hmin : ∀ i : Nat, i < m → Go.Proofs.YtjbjngikaiggdaaGreat.ps N ((j : Int) + 1) ≤ Go.Proofs.YtjbjngikaiggdaaGreat.ps N ((i : Int) + 1)) {δ : Int} (hd : ∀ i : Nat, i < m → Go.Proofs.YtjbjngikaiggdaaGreat.ps N' ((i : Int) + 1) = Go.Proofs.YtjbjngikaiggdaaGreat.ps N ((i : Int) + 1) + (if i = j then strd (W j) else 0) - δ) :
    Rnd W m N' (xs.set (j + 1) (cntL xs j + 1)) ∧ totL (xs.set (j + 1) (cntL xs j + 1)) m = totL xs m + 1 := by
  have hl := h.len
  obtain ⟨Q, hQ⟩ := h.ps
  obtain ⟨i, hi, hlt⟩ := tot_lt (fun j hj => (h.le j hj).2) ht
  have key : cntL xs j < W j := by
    have h1 := hmin i hi
    rw [hQ j hj, hQ i hi] at h1
    have h2 := strd_whole (hW i hi)
    have h3 := strd_whole (hW j hj)
    have h4 := (strd_pos (hW i hi)).1
    have h5 := (strd_pos (hW j hj)).1
    have h6 : (cntL xs i + 1) * strd (W i) ≤ W i * strd (W i) := Int.mul_le_mul_of_nonneg_right (by omega) (by omega)
    rw [Int.add_mul] at h6
    have h7 : ¬ W j ≤ cntL xs j := fun c => by
      have := Int.mul_le_mul_of_nonneg_right (c := strd (W j)) c (by omega)
      omega
    omega
  refine ⟨⟨by rw [List.length_set]; exact hl, fun k hk => ?_, Q - δ, fun k hk => ?_⟩, by rw [tot_set (by omega), if_pos hj]⟩
  · rw [cnt_set (by omega)]
    by_cases c : k = j
    · subst c; rw [if_pos rfl]; have := h.le k hk; omega
    · rw [if_neg c]; exact h.le k hk
  · rw [hd k hk, hQ k hk, cnt_set (by omega)]
    by_cases c : k = j
    · subst c; rw [if_pos rfl, if_pos rfl, Int.add_mul]; omega
    · rw [if_neg c, if_neg c]; omega
theorem Rnd.done {W : Nat → Int} {m : Nat} {N : List Nr} {xs : List Int} (h : Rnd W m N xs) (hW : ∀ j, j < m → isW (W j) = true) (ht : totL xs m = sumW W m) : (∀ j, j < m → cntL xs j = W j) ∧ ∃ Q, ∀ j : Nat, j < m → Go.Proofs.YtjbjngikaiggdaaGreat.ps N ((j : Int) + 1) = Q := by
  have hc := tot_eq (fun j hj => (h.le j hj).2) ht
  obtain ⟨Q, hQ⟩ := h.ps
  exact ⟨hc, Q + 720720, fun j hj => by rw [hQ j hj, hc j hj, strd_whole (hW j hj)]⟩
theorem Rnd.fresh {W : Nat → Int} {m : Nat} {N : List Nr} (hm : m ≤ 7) (hW : ∀ j, j < m → isW (W j) = true) {Q : Int} (h : ∀ j : Nat, j < m → Go.Proofs.YtjbjngikaiggdaaGreat.ps N ((j : Int) + 1) = Q) : Rnd W m N [0, 0, 0, 0, 0, 0, 0, 0] ∧ totL [0, 0, 0, 0, 0, 0, 0, 0] m = 0 := by
  have z : ∀ j, j < 7 → cntL [0, 0, 0, 0, 0, 0, 0, 0] j = 0 := fun j hj => by
    have : j = 0 ∨ j = 1 ∨ j = 2 ∨ j = 3 ∨ j = 4 ∨ j = 5 ∨ j = 6 := by omega
    rcases this with rfl | rfl | rfl | rfl | rfl | rfl | rfl <;> rfl
  refine ⟨⟨rfl, fun j hj => ?_, Q, fun j hj => by rw [h j hj, z j (by omega)]; simp⟩, ?_⟩
  · rw [z j (by omega)]; have := isW_cases (hW j hj); omega
  · have : ∀ k, k ≤ m → totL [0, 0, 0, 0, 0, 0, 0, 0] k = 0 := fun k => by
      induction k with
      | zero => intro _; rfl
      | succ k ih => intro hk; rw [totL, ih (by omega), z k (by omega)]; rfl
    exact this m (Nat.le_refl _)
theorem sumW_pos {W : Nat → Int} : ∀ {m : Nat}, (∀ j, j < m → isW (W j) = true) → 0 ≤ sumW W m ∧ sumW W m ≤ 16 * m
  | 0, _ => by simp [sumW]
  | m + 1, h => by
    have h1 := sumW_pos (m := m) fun j hj => h j (by omega)
    have h2 := isW_cases (h m (by omega))
    rw [sumW]; omega
end Go.Proofs.YtjbjngikaiggdaaGreat
