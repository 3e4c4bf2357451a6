/- Texts put together: Trees: threads in the root, by turns, by counting. Trees: threads of the root that are ready all along, whatever others do. Trees: numbers of nodes stay below a bound; the told nodes. Timers, plainly. A kernel's state, plainly: what its operations make of it; what holds of it all the time. Objects as one part of memory: their operations. Objects: New, Wait. Objects: Signal, New. G: slices of slices; stores of whole elements. G: clear of a row's end. Rows of numbers: slices.IndexFunc, DeleteFunc of one number. Objects: Drop. Objects as one part of memory: what its operations make of it. slices.Insert, slices.Delete of one element at rows of timer.sleeper. The program's timers at rows of sleepers (tmE): walks. Timers as one part of memory: their operations. A kernel as one part of memory; thread, Runnable, Run, Sleep, Exit, Wait, Signal. A kernel: Wait, Signal, Weight, Nodes, count. Conditions: none. -/
import Derived.Test.YtlhjibkkkhgonaaGreatDoorMgKd2
set_option linter.unusedVariables false
set_option linter.unusedSimpArgs false
namespace Go.Proofs.YtlhjibkkkhgonaaGreatDoor
open Go.RowKit G
/-- While threads come into the root: so many, of weights W; nothing has run. -/
structure ThI (W : Nat → Int) (u : Nat) (N : List Nr) : Prop where
  wf : WFN N
  all : ∀ z ∈ N, z.id = 0 ∨ ∃ j : Nat, j < u ∧ z.id = (j : Int) + 1 ∧ z.par = 0 ∧ z.wt = W j ∧ z.thr = true ∧ z.rdy = true
  has : ∀ j : Nat, j < u → ∃ z ∈ N, z.id = (j : Int) + 1
  zero : ∀ z ∈ N, z.pass = 0 ∧ z.now = 0
  len : N.length = 1 + u
theorem ThI.start (W : Nat → Int) : ThI W 0 [rootN] :=
  ⟨root_wf, fun z hz => by simp at hz; subst hz; exact .inl rfl, fun j hj => by omega, fun z hz => by simp at hz; subst hz; exact ⟨rfl, rfl⟩, rfl⟩
theorem ThI.add {W : Nat → Int} {u : Nat} {N : List Nr} (h : ThI W u N) (hu : u < 8) {w : Int} (hw : isW w = true) (hWu : W u = w) : ∃ N1 N2, addN N 0 ((u : Int) + 1) w true = (0, N1) ∧ readyN N1 ((u : Int) + 1) true = (0, N2) ∧ ThI W (u + 1) N2 := by
  obtain ⟨p, hp, hpi⟩ := h.wf.sk.root
  have hpt := (h.wf.sk.rt p hp hpi).2
  have hno : ∀ z ∈ N, z.id ≠ (u : Int) + 1 := fun z hz e => by
    rcases h.all z hz with h1 | ⟨j, hj, h1, _⟩ <;> omega
  have hA := addN_is (N := N) (par := 0) (id := (u : Int) + 1) (wt := w) (thr := true) (p := p) hw (by omega) (hpi ▸ gt_of h.wf.sk.nd hp) hpt (gt_none.2 hno) (.inl rfl) (by rw [h.len]; omega)
  rw [(h.zero p hp).2] at hA
  have hw1 : WFN (N ++ [⟨(u : Int) + 1, 0, w, 0, true, false, 0⟩]) := by
    have := add_wf h.wf 0 ((u : Int) + 1) w true
    rw [hA] at this; exact this
  have hm : ∀ z, z ∈ N ++ [⟨(u : Int) + 1, 0, w, 0, true, false, 0⟩] ↔ z ∈ N ∨ z = ⟨(u : Int) + 1, 0, w, 0, true, false, 0⟩ := fun z => by simp
  have hgn : gt (N ++ [⟨(u : Int) + 1, 0, w, 0, true, false, 0⟩]) ((u : Int) + 1) = some ⟨(u : Int) + 1, 0, w, 0, true, false, 0⟩ := gt_of hw1.sk.nd ((hm _).2 (.inr rfl))
  obtain ⟨g, hk, he, hr⟩ := wake_wk 6 (N ++ [⟨(u : Int) + 1, 0, w, 0, true, false, 0⟩]) ((u : Int) + 1)
  have hR : readyN (N ++ [⟨(u : Int) + 1, 0, w, 0, true, false, 0⟩]) ((u : Int) + 1) true = (0, List.map g (N ++ [⟨(u : Int) + 1, 0, w, 0, true, false, 0⟩] : List Nr)) := by
    rw [readyN, hgn]; simp only [if_true]; rw [he]
  have hw2 : WFN (List.map g (N ++ [⟨(u : Int) + 1, 0, w, 0, true, false, 0⟩] : List Nr)) := by
    have := ready_wf hw1 ((u : Int) + 1) true
    rw [hR] at this; exact this
  refine ⟨_, _, hA, hR, ?_⟩
  have hz0 : ∀ z ∈ N ++ [⟨(u : Int) + 1, 0, w, 0, true, false, 0⟩], z.pass = 0 ∧ z.now = 0 := fun z hz => by
    rcases (hm z).1 hz with hz | rfl
    · exact h.zero z hz
    · exact ⟨rfl, rfl⟩
  refine ⟨hw2, fun z hz => ?_, fun j hj => ?_, fun z hz => ?_, by rw [List.length_map, List.length_append, h.len]; simp; omega⟩
  · obtain ⟨v, hv, rfl⟩ := List.mem_map.1 hz
    rw [hk.sk.id, hk.sk.par, hk.sk.thr, (hk.wt v).1]
    rcases (hm v).1 hv with hv' | rfl
    · rcases h.all v hv' with h1 | ⟨j, hj, h1, h2, h3, h4, h5⟩
      · exact .inl h1
      · exact .inr ⟨j, by omega, h1, h2, h3, h4, hk.rdy v h5⟩
    · exact .inr ⟨u, by omega, rfl, rfl, hWu.symm, rfl, hr (by omega) _ hv hw1.sk.nd rfl⟩
  · by_cases c : j = u
    · subst c; exact ⟨_, List.mem_map.2 ⟨_, (hm _).2 (.inr rfl), rfl⟩, hk.sk.id _⟩
    · obtain ⟨z, hz, e⟩ := h.has j (by omega)
      exact ⟨g z, List.mem_map.2 ⟨z, (hm z).2 (.inl hz), rfl⟩, by rw [hk.sk.id, e]⟩
  · obtain ⟨v, hv, rfl⟩ := List.mem_map.1 hz
    exact ⟨hk.zero hz0 v hv, by rw [(hk.wt v).2]; exact (hz0 v hv).2⟩
/-- All are there, and ready. -/
structure ThJ (W : Nat → Int) (m : Nat) (S : List (Int × Int × Int × Bool × Bool)) : Prop where
  all : ∀ s ∈ S, (s.1 = 0 ∧ s.2.1 = -1 ∧ s.2.2.2.1 = false) ∨ ∃ j : Nat, j < m ∧ s = ((j : Int) + 1, 0, W j, true, true)
  has : ∀ j : Nat, j < m → ((j : Int) + 1, 0, W j, true, true) ∈ S
  r0 : ∃ w, (0, -1, w, false, true) ∈ S
theorem ThI.done {W : Nat → Int} {m : Nat} {N : List Nr} (h : ThI W m N) (hm : 1 ≤ m) : ThJ W m (N.map skr) := by
  have get : ∀ j : Nat, j < m → ∃ z ∈ N, z.id = (j : Int) + 1 ∧ z.par = 0 ∧ z.wt = W j ∧ z.thr = true ∧ z.rdy = true := fun j hj => by
    obtain ⟨z, hz, e⟩ := h.has j hj
    rcases h.all z hz with h1 | ⟨i, _, h1, h2⟩
    · omega
    · have : i = j := by omega
      subst this; exact ⟨z, hz, e, h2⟩
  obtain ⟨r, hr, e0⟩ := h.wf.sk.root
  have hrt := h.wf.sk.rt r hr e0
  have g0 : r.rdy = true := by
    obtain ⟨z, hz, h1, h2, _, _, h5⟩ := get 0 (by omega)
    exact (h.wf.rd r hr hrt.2).2 ⟨z, hz, by rw [h2, e0], h5⟩
  refine ⟨fun s hs => ?_, fun j hj => ?_, ⟨r.wt, List.mem_map.2 ⟨r, hr, by simp [skr, e0, hrt.1, hrt.2, g0]⟩⟩⟩
  · obtain ⟨z, hz, rfl⟩ := List.mem_map.1 hs
    rcases h.all z hz with h1 | ⟨j, hj, h1, h2, h3, h4, h5⟩
    · exact .inl ⟨h1, h.wf.sk.rt z hz h1⟩
    · exact .inr ⟨j, hj, by simp [skr, h1, h2, h3, h4, h5]⟩
  · obtain ⟨z, hz, h1, h2, h3, h4, h5⟩ := get j hj
    exact List.mem_map.2 ⟨z, hz, by simp [skr, h1, h2, h3, h4, h5]⟩
/-! ## a round -/
def cntL (xs : List Int) (j : Nat) : Int := xs.getD (j + 1) 0
def totL (xs : List Int) : Nat → Int
  | 0 => 0
  | m + 1 => totL xs m + cntL xs m
def sumW (W : Nat → Int) : Nat → Int
  | 0 => 0
  | m + 1 => sumW W m + W m
theorem cnt_set {xs : List Int} {j i : Nat} {v : Int} (hj : j + 1 < xs.length) : cntL (xs.set (j + 1) v) i = if i = j then v else cntL xs i := by
  unfold cntL
  rw [List.getD_eq_getElem?_getD, List.getElem?_set, List.getD_eq_getElem?_getD]
  by_cases c : i = j
  · subst c; simp [hj]
  · rw [if_neg (by omega), if_neg c]
theorem tot_set {xs : List Int} {j : Nat} (hj : j + 1 < xs.length) : ∀ m, totL (xs.set (j + 1) (cntL xs j + 1)) m = totL xs m + if j < m then 1 else 0
  | 0 => by simp [totL]
  | m + 1 => by
    rw [totL, totL, tot_set hj m, cnt_set hj]
    by_cases c : m = j
    · subst c; simp; omega
    · rw [if_neg c]
      by_cases d : j < m
      · rw [if_pos d, if_pos (by omega)]; omega
      · rw [if_neg d, if_neg (by omega)]; omega
theorem tot_lt {xs : List Int} {W : Nat → Int} : ∀ {m : Nat}, (∀ j, j < m → cntL xs j ≤ W j) → totL xs m < sumW W m → ∃ j, j < m ∧ cntL xs j < W j
  | 0, _, h => by simp [totL, sumW] at h
  | m + 1, hc, h => by
    by_cases c : cntL xs m < W m
    · exact ⟨m, by omega, c⟩
    · have h1 := hc m (by omega)
      rw [totL, sumW] at h
      obtain ⟨j, hj, h2⟩ := tot_lt (m := m) (fun j hj => hc j (by omega)) (by omega)
      exact ⟨j, by omega, h2⟩
theorem tot_le {xs : List Int} {W : Nat → Int} : ∀ {m : Nat}, (∀ j, j < m → cntL xs j ≤ W j) → totL xs m ≤ sumW W m
  | 0, _ => by simp [totL, sumW]
  | m + 1, hc => by
    have h1 := hc m (by omega)
    have h2 := tot_le (m := m) (fun j hj => hc j (by omega))
    rw [totL, sumW]; omega
theorem tot_eq {xs : List Int} {W : Nat → Int} : ∀ {m : Nat}, (∀ j, j < m → cntL xs j ≤ W j) → totL xs m = sumW W m → ∀ j, j < m → cntL xs j = W j
  | 0, _, _, j, hj => by omega
  | m + 1, hc, h, j, hj => by
    have h1 := hc m (by omega)
    have h2 := tot_le (m := m) (fun j hj => hc j (by omega))
    rw [totL, sumW] at h
    by_cases c : j = m
    · subst c; omega
    · exact tot_eq (m := m) (fun j hj => hc j (by omega)) (by omega) j (by omega)
theorem strd_whole {w : Int} (h : isW w = true) : w * strd w = 720720 := by
  obtain ⟨h1, h2⟩ := isW_cases h
  have : w = 1 ∨ w = 2 ∨ w = 3 ∨ w = 4 ∨ w = 5 ∨ w = 6 ∨ w = 7 ∨ w = 8 ∨ w = 9 ∨ w = 10 ∨ w = 11 ∨ w = 12 ∨ w = 13 ∨ w = 14 ∨ w = 15 ∨ w = 16 := by omega
  rcases this with rfl | rfl | rfl | rfl | rfl | rfl | rfl | rfl | rfl | rfl | rfl | rfl | rfl | rfl | rfl | rfl <;> decide
/-- So far in a round: each has had no more than it weighs. -/
structure Rnd (W : Nat → Int) (m : Nat) (N : List Nr) (xs : List Int) : Prop where
  len : xs.length = 8
  le : ∀ j, j < m → 0 ≤ cntL xs j ∧ cntL xs j ≤ W j
  ps : ∃ Q : Int, ∀ j : Nat, j < m → ps N ((j : Int) + 1) = Q + cntL xs j * strd (W j)
theorem Rnd.step {W : Nat → Int} {m : Nat} {N N' : List Nr} {xs : List Int} (h : Rnd W m N xs) (hm : m ≤ 7) (hW : ∀ j, j < m → isW (W j) = true) (ht : totL xs m < sumW W m) {j : Nat} (hj : j < m)
    (hmin : ∀ i : Nat, i < m → Go.Proofs.YtlhjibkkkhgonaaGreatDoor.ps N ((j : Int) + 1) ≤ Go.Proofs.YtlhjibkkkhgonaaGreatDoor.ps N ((i : Int) + 1)) {δ : Int} (hd : ∀ i : Nat, i < m → Go.Proofs.YtlhjibkkkhgonaaGreatDoor.ps N' ((i : Int) + 1) = Go.Proofs.YtlhjibkkkhgonaaGreatDoor.ps N ((i : Int) + 1) + (if i = j then strd (W j) else 0) - δ) :
    Rnd W m N' (xs.set (j + 1) (cntL xs j + 1)) ∧ totL (xs.set (j + 1) (cntL xs j + 1)) m = totL xs m + 1 := by
  have hl := h.len
  obtain ⟨Q, hQ⟩ := h.ps
  obtain ⟨i, hi, hlt⟩ := tot_lt (fun j hj => (h.le j hj).2) ht
  have key : cntL xs j < W j := by
    have h1 := hmin i hi
    rw [hQ j hj, hQ i hi] at h1
    have h2 := strd_whole (hW i hi)
    have h3 := strd_whole (hW j hj)
    have h4 := (strd_pos (hW i hi)).1
    have h5 := (strd_pos (hW j hj)).1
    have h6 : (cntL xs i + 1) * strd (W i) ≤ W i * strd (W i) := Int.mul_le_mul_of_nonneg_right (by omega) (by omega)
    rw [Int.add_mul] at h6
    have h7 : ¬ W j ≤ cntL xs j := fun c => by
      have := Int.mul_le_mul_of_nonneg_right (c := strd (W j)) c (by omega)
      omega
    omega
  refine ⟨⟨by rw [List.length_set]; exact hl, fun k hk => ?_, Q - δ, fun k hk => ?_⟩, by rw [tot_set (by omega), if_pos hj]⟩
  · rw [cnt_set (by omega)]
    by_cases c : k = j
    · subst c; rw [if_pos rfl]; have := h.le k hk; omega
    · rw [if_neg c]; exact h.le k hk
  · rw [hd k hk, hQ k hk, cnt_set (by omega)]
    by_cases c : k = j
    · subst c; rw [if_pos rfl, if_pos rfl, Int.add_mul]; omega
    · rw [if_neg c, if_neg c]; omega
theorem Rnd.done {W : Nat → Int} {m : Nat} {N : List Nr} {xs : List Int} (h : Rnd W m N xs) (hW : ∀ j, j < m → isW (W j) = true) (ht : totL xs m = sumW W m) : (∀ j, j < m → cntL xs j = W j) ∧ ∃ Q, ∀ j : Nat, j < m → Go.Proofs.YtlhjibkkkhgonaaGreatDoor.ps N ((j : Int) + 1) = Q := by
  have hc := tot_eq (fun j hj => (h.le j hj).2) ht
  obtain ⟨Q, hQ⟩ := h.ps
  exact ⟨hc, Q + 720720, fun j hj => by rw [hQ j hj, hc j hj, strd_whole (hW j hj)]⟩
theorem Rnd.fresh {W : Nat → Int} {m : Nat} {N : List Nr} (hm : m ≤ 7) (hW : ∀ j, j < m → isW (W j) = true) {Q : Int} (h : ∀ j : Nat, j < m → Go.Proofs.YtlhjibkkkhgonaaGreatDoor.ps N ((j : Int) + 1) = Q) : Rnd W m N [0, 0, 0, 0, 0, 0, 0, 0] ∧ totL [0, 0, 0, 0, 0, 0, 0, 0] m = 0 := by
  have z : ∀ j, j < 7 → cntL [0, 0, 0, 0, 0, 0, 0, 0] j = 0 := fun j hj => by
    have : j = 0 ∨ j = 1 ∨ j = 2 ∨ j = 3 ∨ j = 4 ∨ j = 5 ∨ j = 6 := by omega
    rcases this with rfl | rfl | rfl | rfl | rfl | rfl | rfl <;> rfl
  refine ⟨⟨rfl, fun j hj => ?_, Q, fun j hj => by rw [h j hj, z j (by omega)]; simp⟩, ?_⟩
  · rw [z j (by omega)]; have := isW_cases (hW j hj); omega
  · have : ∀ k, k ≤ m → totL [0, 0, 0, 0, 0, 0, 0, 0] k = 0 := fun k => by
      induction k with
      | zero => intro _; rfl
      | succ k ih => intro hk; rw [totL, ih (by omega), z k (by omega)]; rfl
    exact this m (Nat.le_refl _)
end Go.Proofs.YtlhjibkkkhgonaaGreatDoor
set_option linter.unusedVariables false
set_option linter.unusedSimpArgs false
namespace Go.Proofs.YtlhjibkkkhgonaaGreatDoor
open Go.RowKit G
theorem wake_same : ∀ (f : Nat) (N : List Nr) (k : Int), (N.map (·.id)).Nodup → ∃ g, Skel g ∧ (∀ x ∈ N, x.rdy = true → g x = x) ∧ wakeN f N k = N.map g
  | 0, N, k, _ => ⟨fun x => x, Skel.same, fun _ _ _ => rfl, by simp [wakeN]⟩
  | f + 1, N, k, hn => by
    rw [wakeN]
    cases hg : gt N k with
    | none => exact ⟨fun x => x, Skel.same, fun _ _ _ => rfl, by simp⟩
    | some x0 =>
      obtain ⟨hx0, hk0⟩ := gt_mem hg
      simp only
      by_cases hr : x0.rdy = true
      · rw [if_pos hr]; exact ⟨fun x => x, Skel.same, fun _ _ _ => rfl, by simp⟩
      · rw [if_neg hr]
        have hne : ∀ x ∈ N, x.rdy = true → x.id ≠ k := fun x hx h e => hr (by rw [← nd_eq hn hx hx0 (by rw [e, hk0])]; exact h)
        cases hp : gt N x0.par with
        | none => exact ⟨fun x => if x.id == k then { x with rdy := true } else x, skel_ite (f := fun x => { x with rdy := true }) skF, fun x hx h => by simp [hne x hx h], rfl⟩
        | some p =>
          simp only
          obtain ⟨g, h1, h2, h3⟩ := wake_same f (upN N k (wkF p.now)) x0.par (by rw [upN_id (f := wkF p.now) (fun _ => rfl)]; exact hn)
          refine ⟨fun x => g (if x.id == k then wkF p.now x else x), (skel_ite (wkF_skel p.now)).comp h1, fun x hx h => ?_, ?_⟩
          · have e : (if x.id == k then wkF p.now x else x) = x := by simp [hne x hx h]
            show g (if x.id == k then wkF p.now x else x) = x
            rw [e]
            exact h2 x (List.mem_map.2 ⟨x, hx, e⟩) h
          · have e : wakeN f (upN N k fun x => { x with rdy := true, pass := mxI x.pass p.now }) x0.par = _ := h3
            rw [e, upN, List.map_map]; rfl
theorem par_thr {N : List Nr} (hs : SK N) {x p : Nr} (hx : x ∈ N) (hp : p ∈ N) (e : p.id = x.par) : p.thr = false := by
  by_cases c : x.id = 0
  · have h1 := (hs.rt x hx c).1
    have h2 := hs.neg (k := p.id) (by omega)
    rw [gt_of hs.nd hp] at h2; cases h2
  · obtain ⟨_, p', hp', h1, h2⟩ := hs.pa x hx c
    rw [nd_eq hs.nd hp hp' (by rw [e, h1])]; exact h2
theorem rest_same : ∀ (f : Nat) (N : List Nr) (k : Int), SK N → ∃ g, Skel g ∧ (∀ x ∈ N, x.thr = true → x.id ≠ k → g x = x) ∧ restN f N k = N.map g
  | 0, N, k, _ => ⟨fun x => x, Skel.same, fun _ _ _ _ => rfl, by simp [restN]⟩
  | f + 1, N, k, hs => by
    rw [restN]
    cases hg : gt N k with
    | none => exact ⟨fun x => x, Skel.same, fun _ _ _ _ => rfl, by simp⟩
    | some x0 =>
      obtain ⟨hx0, hk0⟩ := gt_mem hg
      simp only
      by_cases hr : x0.rdy = false ∨ kidR N k ≠ []
      · rw [if_pos hr]; exact ⟨fun x => x, Skel.same, fun _ _ _ _ => rfl, by simp⟩
      · rw [if_neg hr]
        cases hp : gt N x0.par with
        | none => exact ⟨fun x => if x.id == k then { x with rdy := false } else x, skel_ite (f := fun x => { x with rdy := false }) skF, fun x hx _ h => by simp [h], rfl⟩
        | some p =>
          obtain ⟨hpN, hpi⟩ := gt_mem hp
          have hpt := par_thr hs hx0 hpN hpi
          simp only
          obtain ⟨g, h1, h2, h3⟩ := rest_same f (upN N k rsF) x0.par (hs.upN rsF_skel)
          refine ⟨fun x => g (if x.id == k then rsF x else x), (skel_ite rsF_skel).comp h1, fun x hx ht h => ?_, ?_⟩
          · have e : (if x.id == k then rsF x else x) = x := by simp [h]
            show g (if x.id == k then rsF x else x) = x
            rw [e]
            refine h2 x (List.mem_map.2 ⟨x, hx, e⟩) ht fun e2 => ?_
            have := nd_eq hs.nd hx hpN (by rw [e2, hpi])
            subst this; rw [hpt] at ht; cases ht
          · have e : restN f (upN N k fun x => { x with rdy := false }) x0.par = _ := h3
            rw [e, upN, List.map_map]; rfl
/-- Who else is made ready, or not: threads that are ready stay as they are. -/
theorem ready_keep {N : List Nr} (hs : SK N) (k : Int) (r : Bool) : (∀ z ∈ N, z.thr = true → z.rdy = true → z.id ≠ k → z ∈ (readyN N k r).2) ∧ ∀ z ∈ (readyN N k r).2, ∃ v ∈ N, v.id = z.id ∧ v.thr = z.thr := by
  have same : (∀ z ∈ N, z.thr = true → z.rdy = true → z.id ≠ k → z ∈ N) ∧ ∀ z ∈ N, ∃ v ∈ N, v.id = z.id ∧ v.thr = z.thr := ⟨fun z h _ _ _ => h, fun z h => ⟨z, h, rfl, rfl⟩⟩
  have mp : ∀ g, Skel g → (∀ x ∈ N, x.thr = true → x.rdy = true → x.id ≠ k → g x = x) → (∀ z ∈ N, z.thr = true → z.rdy = true → z.id ≠ k → z ∈ N.map g) ∧ ∀ z ∈ N.map g, ∃ v ∈ N, v.id = z.id ∧ v.thr = z.thr := fun g hg h =>
    ⟨fun z hz h1 h2 h3 => List.mem_map.2 ⟨z, hz, h z hz h1 h2 h3⟩, fun z hz => by obtain ⟨v, hv, rfl⟩ := List.mem_map.1 hz; exact ⟨v, hv, (hg.id v).symm, (hg.thr v).symm⟩⟩
  rw [readyN]
  cases gt N k with
  | none => exact same
  | some x =>
    simp only
    split
    · split
      · obtain ⟨g, h1, h2, h3⟩ := wake_same 6 N k hs.nd
        simp only [h3]; exact mp g h1 fun x hx _ hr _ => h2 x hx hr
      · obtain ⟨g, h1, h2, h3⟩ := rest_same 6 N k hs
        simp only [h3]; exact mp g h1 fun x hx ht _ hk => h2 x hx ht hk
    · exact same
theorem weight_keep {N : List Nr} (k W : Int) : (∀ z ∈ N, z.id ≠ k → z ∈ (weightN N k W).2) ∧ ∀ z ∈ (weightN N k W).2, ∃ v ∈ N, v.id = z.id ∧ v.thr = z.thr := by
  have same : (∀ z ∈ N, z.id ≠ k → z ∈ N) ∧ ∀ z ∈ N, ∃ v ∈ N, v.id = z.id ∧ v.thr = z.thr := ⟨fun z h _ => h, fun z h => ⟨z, h, rfl, rfl⟩⟩
  rw [weightN]
  split
  · exact same
  · split
    · exact same
    · split
      · exact same
      · split
        · exact same
        · refine ⟨fun z hz h => mem_upN.2 ⟨z, hz, .inr ⟨h, rfl⟩⟩, fun z hz => ?_⟩
          obtain ⟨v, hv, ⟨_, rfl⟩ | ⟨_, rfl⟩⟩ := mem_upN.1 hz
          · exact ⟨v, hv, rfl, rfl⟩
          · exact ⟨z, hv, rfl, rfl⟩
theorem thr_leaf {N : List Nr} (hs : SK N) {y : Nr} (hy : y ∈ N) (ht : y.thr = true) : ∀ z ∈ N, z.par ≠ y.id := fun z hz e => by
  have := par_thr hs hz hy e.symm
  rw [ht] at this; cases this
/-- Threads 1 to m of the root, ready all along; of other threads there are 20, 22 alone. -/
structure FaI (W : Nat → Int) (m : Nat) (N : List Nr) : Prop where
  wf : WFN N
  has : ∀ j : Nat, j < m → ∃ z ∈ N, z.id = (j : Int) + 1 ∧ z.par = 0 ∧ z.wt = W j ∧ z.thr = true ∧ z.rdy = true
  thr : ∀ z ∈ N, z.thr = true → (∃ j : Nat, j < m ∧ z.id = (j : Int) + 1) ∨ z.id = 20 ∨ z.id = 22
/-- What each has had, as passes tell. -/
structure FaR (W : Nat → Int) (m : Nat) (N : List Nr) (xs : List Int) (n : Int) : Prop where
  len : xs.length = 8
  le : ∀ j, j < m → 0 ≤ cntL xs j ∧ cntL xs j ≤ n
  ps : ∃ Q : Int, ∀ j : Nat, j < m → ps N ((j : Int) + 1) = Q + cntL xs j * strd (W j)
theorem FaI.keep {W : Nat → Int} {m : Nat} {N N' : List Nr} (h : FaI W m N) (hw : WFN N') {k : Int} (hk : k = 20 ∨ k = 22) (hm : m ≤ 8) (h1 : ∀ z ∈ N, z.thr = true → z.rdy = true → z.id ≠ k → z ∈ N') (h2 : ∀ z ∈ N', ∃ v ∈ N, v.id = z.id ∧ v.thr = z.thr) :
    FaI W m N' ∧ ∀ j : Nat, j < m → ps N' ((j : Int) + 1) = ps N ((j : Int) + 1) := by
  have g : ∀ j : Nat, j < m → ∃ z ∈ N, z ∈ N' ∧ z.id = (j : Int) + 1 ∧ z.par = 0 ∧ z.wt = W j ∧ z.thr = true ∧ z.rdy = true := fun j hj => by
    obtain ⟨z, hz, e1, e2, e3, e4, e5⟩ := h.has j hj
    exact ⟨z, hz, h1 z hz e4 e5 (by omega), e1, e2, e3, e4, e5⟩
  refine ⟨⟨hw, fun j hj => ?_, fun z hz ht => ?_⟩, fun j hj => ?_⟩
  · obtain ⟨z, _, hz', e⟩ := g j hj; exact ⟨z, hz', e⟩
  · obtain ⟨v, hv, e1, e2⟩ := h2 z hz
    rw [← e1]; exact h.thr v hv (by rw [e2, ht])
  · obtain ⟨z, hz, hz', e, _⟩ := g j hj
    rw [← e, ps_of hw.sk.nd hz', ps_of h.wf.sk.nd hz]
theorem FaI.ready {W : Nat → Int} {m : Nat} {N : List Nr} (h : FaI W m N) (hm : m ≤ 8) {k : Int} (hk : k = 20 ∨ k = 22) (r : Bool) : FaI W m (readyN N k r).2 ∧ ∀ j : Nat, j < m → ps (readyN N k r).2 ((j : Int) + 1) = ps N ((j : Int) + 1) :=
  h.keep (ready_wf h.wf k r) hk hm (ready_keep h.wf.sk k r).1 (ready_keep h.wf.sk k r).2
theorem FaI.weight {W : Nat → Int} {m : Nat} {N : List Nr} (h : FaI W m N) (hm : m ≤ 8) (V : Int) : FaI W m (weightN N 20 V).2 ∧ ∀ j : Nat, j < m → ps (weightN N 20 V).2 ((j : Int) + 1) = ps N ((j : Int) + 1) :=
  h.keep (weight_wf h.wf 20 V) (.inl rfl) hm (fun z hz _ _ hk => (weight_keep 20 V).1 z hz hk) (weight_keep 20 V).2
theorem FaR.step {W : Nat → Int} {m : Nat} {N N' : List Nr} {xs : List Int} {n : Int} (h : FaR W m N xs n) (hm : m ≤ 7) {j : Nat} (hj : j < m) {δ : Int} (hd : ∀ i : Nat, i < m → Go.Proofs.YtlhjibkkkhgonaaGreatDoor.ps N' ((i : Int) + 1) = Go.Proofs.YtlhjibkkkhgonaaGreatDoor.ps N ((i : Int) + 1) + (if i = j then strd (W j) else 0) - δ) : FaR W m N' (xs.set (j + 1) (cntL xs j + 1)) (n + 1) := by
  have hl := h.len
  obtain ⟨Q, hQ⟩ := h.ps
  refine ⟨by rw [List.length_set]; exact hl, fun k hk => ?_, Q - δ, fun k hk => ?_⟩
  · rw [cnt_set (by omega)]
    have := h.le k hk
    by_cases c : k = j
    · subst c; rw [if_pos rfl]; omega
    · rw [if_neg c]; omega
  · rw [hd k hk, hQ k hk, cnt_set (by omega)]
    by_cases c : k = j
    · subst c; rw [if_pos rfl, if_pos rfl, Int.add_mul]; omega
    · rw [if_neg c, if_neg c]; omega
theorem FaR.same {W : Nat → Int} {m : Nat} {N N' : List Nr} {xs : List Int} {n : Int} (h : FaR W m N xs n) (hd : ∀ i : Nat, i < m → Go.Proofs.YtlhjibkkkhgonaaGreatDoor.ps N' ((i : Int) + 1) = Go.Proofs.YtlhjibkkkhgonaaGreatDoor.ps N ((i : Int) + 1)) : FaR W m N' xs n := by
  obtain ⟨Q, hQ⟩ := h.ps
  exact ⟨h.len, h.le, Q, fun k hk => by rw [hd k hk, hQ k hk]⟩
end Go.Proofs.YtlhjibkkkhgonaaGreatDoor
set_option linter.unusedVariables false
set_option linter.unusedSimpArgs false
namespace Go.Proofs.YtlhjibkkkhgonaaGreatDoor
open Go.RowKit G
def IdB (N : List Nr) : Prop := ∀ x ∈ N, x.id ≤ 9223372036854775807
theorem IdB.map {N : List Nr} (h : IdB N) {g : Nr → Nr} (hg : Skel g) : IdB (N.map g) := fun x hx => by
  obtain ⟨y, hy, rfl⟩ := List.mem_map.1 hx
  rw [hg.id]; exact h y hy
theorem readyN_map (N : List Nr) (k : Int) (r : Bool) : ∃ g, Skel g ∧ (readyN N k r).2 = N.map g := by
  have same : ∃ g, Skel g ∧ N = N.map g := ⟨fun x => x, Skel.same, by simp⟩
  rw [readyN]
  cases gt N k with
  | none => exact same
  | some x =>
    simp only
    split
    · split
      · obtain ⟨g, h1, _, h3⟩ := wakeN_map 6 N k; exact ⟨g, h1, h3⟩
      · obtain ⟨g, h1, _, h3⟩ := restN_map 6 N k; exact ⟨g, h1, h3⟩
    · exact same
theorem IdB.ready {N : List Nr} (h : IdB N) (k : Int) (r : Bool) : IdB (readyN N k r).2 := by
  obtain ⟨g, h1, h2⟩ := readyN_map N k r
  rw [h2]; exact h.map h1
theorem IdB.add {N : List Nr} (h : IdB N) (par id wt : Int) (thr : Bool) (hi : id ≤ 9223372036854775807) : IdB (addN N par id wt thr).2 := by
  rw [addN]
  split
  · exact h
  · split
    · exact h
    · split
      · exact h
      · split
        · exact h
        · split
          · exact h
          · split
            · exact h
            · intro x hx
              rcases List.mem_append.1 hx with hx | hx
              · exact h x hx
              · simp at hx; subst hx; exact hi
theorem IdB.remove {N : List Nr} (h : IdB N) (k : Int) : IdB (removeN N k).2 := by
  rw [removeN]
  split
  · exact h
  · split
    · exact h
    · obtain ⟨g, h1, _, h3⟩ := restN_map 6 N k
      intro x hx
      have hx := (List.mem_filter.1 hx).1
      rw [h3] at hx
      exact h.map h1 x hx
theorem IdB.weight {N : List Nr} (h : IdB N) (k W : Int) : IdB (weightN N k W).2 := by
  rw [weightN]
  split
  · exact h
  · split
    · exact h
    · split
      · exact h
      · split
        · exact h
        · exact h.map (skel_ite ⟨fun _ => rfl, fun _ => rfl, fun _ => rfl⟩)
theorem IdB.run {N : List Nr} (h : IdB N) (hw : WFN N) : IdB (runN N).2 := by
  cases hg : gt N 0 with
  | none => rw [runN, hg]; exact h
  | some r =>
    cases hr : r.rdy with
    | true => obtain ⟨y, id, g, h1, h2, _⟩ := run_root hw hg hr; rw [h1]; exact h.map h2.sk
    | false => rw [runN, hg]; simp only [hr, Bool.false_eq_true, if_false]; exact h
end Go.Proofs.YtlhjibkkkhgonaaGreatDoor
set_option linter.unusedVariables false
set_option linter.unusedSimpArgs false
namespace Go.Proofs.YtlhjibkkkhgonaaGreatDoor
open Go.RowKit
def tmPlace (id : Int) : List (Int × Int) → Nat × Bool
  | [] => (0, false)
  | x :: r => if id < x.1 then (0, false) else if x.1 = id then (0, true) else ((tmPlace id r).1 + 1, (tmPlace id r).2)
def tmSet (id u : Int) : List (Int × Int) → List (Int × Int)
  | [] => [(id, u)]
  | x :: r => if id < x.1 then (id, u) :: x :: r else if x.1 = id then (id, u) :: r else x :: tmSet id u r
def tmDrop (id : Int) : List (Int × Int) → List (Int × Int)
  | [] => []
  | x :: r => if id < x.1 then x :: r else if x.1 = id then r else x :: tmDrop id r

theorem tmPlace_le (id : Int) : ∀ l, (tmPlace id l).1 ≤ l.length
  | [] => Nat.le_refl _
  | x :: r => by
    have := tmPlace_le id r
    simp only [tmPlace]; split
    · simp
    · split
      · simp
      · simp; omega
theorem tmPlace_there (id u : Int) : ∀ l, (tmPlace id l).2 = true → ∃ x, l[(tmPlace id l).1]? = some x ∧ x.1 = id ∧ tmSet id u l = l.set (tmPlace id l).1 (id, u) ∧ tmDrop id l = l.take (tmPlace id l).1 ++ l.drop ((tmPlace id l).1 + 1)
  | [], h => by simp [tmPlace] at h
  | x :: r, h => by
    simp only [tmPlace] at h ⊢
    by_cases h1 : id < x.1
    · simp [h1] at h
    · by_cases h2 : x.1 = id
      · simp only [if_neg h1, if_pos h2, tmSet, tmDrop]
        exact ⟨x, by simp, h2, by simp, by simp⟩
      · simp only [if_neg h1, if_neg h2, tmSet, tmDrop] at h ⊢
        obtain ⟨y, hy, he, hs, hd⟩ := tmPlace_there id u r h
        exact ⟨y, by simpa using hy, he, by simp [hs], by simp [hd]⟩
theorem tmPlace_not (id u : Int) : ∀ l, (tmPlace id l).2 = false → tmSet id u l = l.take (tmPlace id l).1 ++ (id, u) :: l.drop (tmPlace id l).1 ∧ tmDrop id l = l
  | [], h => by simp [tmPlace, tmSet, tmDrop]
  | x :: r, h => by
    simp only [tmPlace] at h ⊢
    by_cases h1 : id < x.1
    · simp [h1, tmSet, tmDrop]
    · by_cases h2 : x.1 = id
      · simp [h1, h2] at h
      · simp only [if_neg h1, if_neg h2, tmSet, tmDrop] at h ⊢
        obtain ⟨hs, hd⟩ := tmPlace_not id u r h
        exact ⟨by simp [hs], by rw [hd]⟩

def dueOf (t : Int) (l : List (Int × Int)) : List Int := (l.filter (fun p => decide (p.2 ≤ t))).map (·.1)
def restOf (t : Int) (l : List (Int × Int)) : List (Int × Int) := l.filter (fun p => !decide (p.2 ≤ t))
theorem due_take (t : Int) (l : List (Int × Int)) (k : Nat) (y : Int × Int) (hy : l[k]? = some y) : (y.2 ≤ t → dueOf t (l.take (k + 1)) = dueOf t (l.take k) ++ [y.1] ∧ restOf t (l.take (k + 1)) = restOf t (l.take k)) ∧ (t < y.2 → dueOf t (l.take (k + 1)) = dueOf t (l.take k) ∧ restOf t (l.take (k + 1)) = restOf t (l.take k) ++ [y]) := by
  have ht : l.take (k + 1) = l.take k ++ [y] := by rw [List.take_add_one, hy]; rfl
  rw [ht]
  constructor
  · intro h; simp [dueOf, restOf, List.filter_append, h]
  · intro h
    have : ¬ y.2 ≤ t := by omega
    simp [dueOf, restOf, List.filter_append, this]

theorem due_len (t : Int) (l : List (Int × Int)) (k : Nat) : (dueOf t (l.take k)).length ≤ k ∧ (restOf t (l.take k)).length ≤ k := by
  have := List.length_take_le k l
  constructor
  · simp only [dueOf, List.length_map]; exact Nat.le_trans (List.length_filter_le _ _) this
  · exact Nat.le_trans (List.length_filter_le _ _) this

def Srt (l : List (Int × Int)) : Prop := l.Pairwise (fun a b => a.1 < b.1)
theorem Srt.nil : Srt [] := List.Pairwise.nil
theorem mem_tmSet (id u : Int) : ∀ (l : List (Int × Int)), Srt l → ∀ x, x ∈ tmSet id u l ↔ x = (id, u) ∨ (x.1 ≠ id ∧ x ∈ l)
  | [], _, x => by simp [tmSet]
  | y :: r, h, x => by
    have h1 := List.pairwise_cons.1 h
    unfold tmSet
    by_cases hlt : id < y.1
    · rw [if_pos hlt]
      constructor
      · intro hx
        rcases List.mem_cons.1 hx with h | h
        · exact .inl h
        · refine .inr ⟨?_, h⟩
          rcases List.mem_cons.1 h with rfl | h
          · omega
          · have := h1.1 x h; omega
      · rintro (h | ⟨_, h⟩)
        · simp [h]
        · simp [List.mem_cons.1 h]
    · rw [if_neg hlt]
      by_cases he : y.1 = id
      · rw [if_pos he]
        constructor
        · intro hx
          rcases List.mem_cons.1 hx with h | h
          · exact .inl h
          · exact .inr ⟨by have := h1.1 x h; omega, by simp [h]⟩
        · rintro (h | ⟨hn, h⟩)
          · simp [h]
          · rcases List.mem_cons.1 h with rfl | h
            · exact absurd he hn
            · simp [h]
      · rw [if_neg he, List.mem_cons, mem_tmSet id u r h1.2 x, List.mem_cons]
        constructor
        · rintro (rfl | h | ⟨h1, h2⟩)
          · exact .inr ⟨he, .inl rfl⟩
          · exact .inl h
          · exact .inr ⟨h1, .inr h2⟩
        · rintro (h | ⟨h1, rfl | h2⟩)
          · exact .inr (.inl h)
          · exact .inl rfl
          · exact .inr (.inr ⟨h1, h2⟩)
theorem Srt.set {l : List (Int × Int)} (id u : Int) (h : Srt l) : Srt (tmSet id u l) := by
  induction l with
  | nil => exact List.pairwise_singleton _ _
  | cons y r ih =>
    have h1 := List.pairwise_cons.1 h
    unfold tmSet
    by_cases hlt : id < y.1
    · rw [if_pos hlt]
      exact List.pairwise_cons.2 ⟨fun x hx => by
        rcases List.mem_cons.1 hx with rfl | hx
        · exact hlt
        · have := h1.1 x hx; show id < x.1; omega, h⟩
    · rw [if_neg hlt]
      by_cases he : y.1 = id
      · rw [if_pos he]
        exact List.pairwise_cons.2 ⟨fun x hx => by have := h1.1 x hx; show id < x.1; omega, h1.2⟩
      · rw [if_neg he]
        refine List.pairwise_cons.2 ⟨fun x hx => ?_, ih h1.2⟩
        rcases (mem_tmSet id u r h1.2 x).1 hx with rfl | ⟨_, hx⟩
        · show y.1 < id; omega
        · exact h1.1 x hx
theorem Srt.rest {l : List (Int × Int)} (t : Int) (h : Srt l) : Srt (restOf t l) := List.Pairwise.filter _ h
theorem Srt.due {l : List (Int × Int)} (t : Int) (h : Srt l) : (dueOf t l).Pairwise (· < ·) := by
  unfold dueOf
  exact List.pairwise_map.2 (List.Pairwise.filter _ h)
theorem mem_due {l : List (Int × Int)} (t id : Int) : id ∈ dueOf t l ↔ ∃ u, (id, u) ∈ l ∧ u ≤ t := by
  simp [dueOf]
theorem mem_rest {l : List (Int × Int)} (t : Int) (x : Int × Int) : x ∈ restOf t l ↔ x ∈ l ∧ t < x.2 := by
  simp [restOf]
theorem due_length (t : Int) (l : List (Int × Int)) : (dueOf t l).length + (restOf t l).length = l.length := by
  unfold dueOf restOf
  rw [List.length_map]
  induction l with
  | nil => rfl
  | cons x r ih =>
    rw [List.filter_cons, List.filter_cons]
    cases hd : decide (x.2 ≤ t) <;> simp <;> omega

end Go.Proofs.YtlhjibkkkhgonaaGreatDoor
set_option linter.unusedVariables false
set_option linter.unusedSimpArgs false
namespace Go.Proofs.YtlhjibkkkhgonaaGreatDoor
open Go.RowKit G
/-! ## nodes: who else is made ready, or not -/
theorem wake_thr : ∀ (f : Nat) (N : List Nr) (k : Int), SK N → ∃ g, Skel g ∧ (∀ x ∈ N, x.thr = true → x.id ≠ k → g x = x) ∧ wakeN f N k = N.map g
  | 0, N, k, _ => ⟨fun x => x, Skel.same, fun _ _ _ _ => rfl, by simp [wakeN]⟩
  | f + 1, N, k, hs => by
    rw [wakeN]
    cases hg : gt N k with
    | none => exact ⟨fun x => x, Skel.same, fun _ _ _ _ => rfl, by simp⟩
    | some x0 =>
      obtain ⟨hx0, hk0⟩ := gt_mem hg
      simp only
      by_cases hr : x0.rdy = true
      · rw [if_pos hr]; exact ⟨fun x => x, Skel.same, fun _ _ _ _ => rfl, by simp⟩
      · rw [if_neg hr]
        cases hp : gt N x0.par with
        | none => exact ⟨fun x => if x.id == k then { x with rdy := true } else x, skel_ite (f := fun x => { x with rdy := true }) skF, fun x hx _ h => by simp [h], rfl⟩
        | some p =>
          obtain ⟨hpN, hpi⟩ := gt_mem hp
          have hpt := par_thr hs hx0 hpN hpi
          simp only
          obtain ⟨g, h1, h2, h3⟩ := wake_thr f (upN N k (wkF p.now)) x0.par (hs.upN (wkF_skel _))
          refine ⟨fun x => g (if x.id == k then wkF p.now x else x), (skel_ite (wkF_skel _)).comp h1, fun x hx ht h => ?_, ?_⟩
          · have e : (if x.id == k then wkF p.now x else x) = x := by simp [h]
            show g (if x.id == k then wkF p.now x else x) = x
            rw [e]
            refine h2 x (List.mem_map.2 ⟨x, hx, e⟩) ht fun e2 => ?_
            have := nd_eq hs.nd hx hpN (by rw [e2, hpi])
            subst this; rw [hpt] at ht; cases ht
          · have e : wakeN f (upN N k fun x => { x with rdy := true, pass := mxI x.pass p.now }) x0.par = _ := h3
            rw [e, upN, List.map_map]; rfl
/-- A thread is made ready, or not: it alone of all threads. -/
theorem ready_thr {N : List Nr} (hs : SK N) {k : Int} {x : Nr} (hx : gt N k = some x) (ht : x.thr = true) (r : Bool) :
    ∃ g, readyN N k r = (0, N.map g) ∧ Skel g ∧ (∀ z ∈ N, z.thr = true → z.id ≠ k → g z = z) ∧ ∀ z ∈ N, z.id = k → (g z).rdy = r := by
  rw [readyN, hx]
  simp only [ht, if_true]
  obtain ⟨hxN, hxk⟩ := gt_mem hx
  cases r with
  | false =>
    obtain ⟨g, h1, h2, h3⟩ := rest_same 6 N k hs
    refine ⟨g, by simp [h3], h1, h2, fun z hz hk => ?_⟩
    refine rest_off hs hx ?_ (g z) (by rw [h3]; exact List.mem_map.2 ⟨z, hz, rfl⟩) (by rw [h1.id, hk])
    rw [kidR, List.filter_eq_nil_iff]
    intro a ha
    have := thr_leaf hs hxN ht a ha
    rw [hxk] at this
    simp [this]
  | true =>
    obtain ⟨g, h1, h2, h3⟩ := wake_thr 6 N k hs
    obtain ⟨g', w1, w2, w3⟩ := wake_wk 6 N k
    refine ⟨g, by simp [h3], h1, h2, fun z hz hk => ?_⟩
    have e : g z = g' z := List.map_inj_left.1 (h3.symm.trans w2) z hz
    rw [e]
    exact w3 (by omega) z hz hs.nd hk
/-- A thread that isn't ready. -/
def Off (N : List Nr) (i : Int) : Prop := ∃ x ∈ N, x.id = i ∧ x.thr = true ∧ x.rdy = false
/-- Of N's numbers alone. -/
def Sub (N' N : List Nr) : Prop := ∀ z ∈ N', ∃ v ∈ N, v.id = z.id ∧ v.thr = z.thr
theorem Sub.refl (N : List Nr) : Sub N N := fun z h => ⟨z, h, rfl, rfl⟩
theorem Sub.trans {A B C : List Nr} (h : Sub A B) (k : Sub B C) : Sub A C := fun z hz => by
  obtain ⟨v, hv, e1, e2⟩ := h z hz
  obtain ⟨u, hu, e3, e4⟩ := k v hv
  exact ⟨u, hu, e3.trans e1, e4.trans e2⟩
theorem Sub.map {N : List Nr} {g : Nr → Nr} (hg : Skel g) : Sub (N.map g) N := fun z hz => by
  obtain ⟨v, hv, rfl⟩ := List.mem_map.1 hz
  exact ⟨v, hv, (hg.id v).symm, (hg.thr v).symm⟩
theorem Off.get {N : List Nr} (hs : SK N) {i : Int} (h : Off N i) : ∃ x, gt N i = some x ∧ x.thr = true ∧ x.rdy = false := by
  obtain ⟨x, hx, rfl, h1, h2⟩ := h
  exact ⟨x, gt_of hs.nd hx, h1, h2⟩
theorem ready_sub {N : List Nr} (k : Int) (r : Bool) : Sub (readyN N k r).2 N := by
  obtain ⟨g, hg, e⟩ := readyN_map N k r
  rw [e]; exact Sub.map hg
theorem Off.ready {N : List Nr} (hs : SK N) {i k : Int} {r : Bool} (h : Off N i) (hne : i ≠ k) : Off (readyN N k r).2 i := by
  cases hg : gt N k with
  | none => rw [readyN, hg]; exact h
  | some x =>
    cases ht : x.thr with
    | false => rw [readyN, hg]; simp only [ht]; exact h
    | true =>
      obtain ⟨g, e, hsk, h1, _⟩ := ready_thr hs hg ht r
      obtain ⟨z, hz, rfl, h2, h3⟩ := h
      rw [e]
      refine ⟨z, List.mem_map.2 ⟨z, hz, h1 z hz h2 hne⟩, rfl, h2, h3⟩
theorem Off.self {N : List Nr} (hs : SK N) {k : Int} {x : Nr} (hx : gt N k = some x) (ht : x.thr = true) : Off (readyN N k false).2 k := by
  obtain ⟨g, e, hsk, _, h1⟩ := ready_thr hs hx ht false
  obtain ⟨hxN, hxk⟩ := gt_mem hx
  rw [e]
  exact ⟨g x, List.mem_map.2 ⟨x, hxN, rfl⟩, by rw [hsk.id, hxk], by rw [hsk.thr, ht], h1 x hxN hxk⟩
theorem add_cases (N : List Nr) (par id wt : Int) (thr : Bool) : (∃ e, e ≠ 0 ∧ addN N par id wt thr = (e, N)) ∨ ∃ p, gt N par = some p ∧ gt N id = none ∧ addN N par id wt thr = (0, N ++ [{ id, par, wt, pass := p.now, thr, rdy := false, now := 0 }]) := by
  unfold addN
  split
  · exact .inl ⟨10, by decide, rfl⟩
  · split
    · exact .inl ⟨13, by decide, rfl⟩
    · rename_i p hp
      split
      · exact .inl ⟨13, by decide, rfl⟩
      · split
        · exact .inl ⟨20, by decide, rfl⟩
        · rename_i hn
          split
          · exact .inl ⟨12, by decide, rfl⟩
          · split
            · exact .inl ⟨14, by decide, rfl⟩
            · exact .inr ⟨p, hp, by cases hc : gt N id with | none => rfl | some y => exact absurd (by rw [hc]; rfl) hn, rfl⟩
theorem Off.add {N : List Nr} {i : Int} (h : Off N i) (par id wt : Int) (thr : Bool) : Off (addN N par id wt thr).2 i := by
  rcases add_cases N par id wt thr with ⟨e, _, h1⟩ | ⟨p, _, _, h1⟩
  · rw [h1]; exact h
  · rw [h1]
    obtain ⟨x, hx, r⟩ := h
    exact ⟨x, List.mem_append_left _ hx, r⟩
theorem remove_sub {N : List Nr} (k : Int) : Sub (removeN N k).2 N := by
  unfold removeN
  split
  · exact Sub.refl N
  · split
    · exact Sub.refl N
    · obtain ⟨g, hg1, _, hg3⟩ := restN_map 6 N k
      rw [hg3]
      exact fun z hz => Sub.map hg1 z (List.mem_filter.1 hz).1
theorem Off.remove {N : List Nr} (hs : SK N) {i : Int} (h : Off N i) {k : Int} (hne : i ≠ k) : Off (removeN N k).2 i := by
  unfold removeN
  split
  · exact h
  · split
    · exact h
    · obtain ⟨g, h1, h2, h3⟩ := rest_same 6 N k hs
      obtain ⟨x, hx, rfl, h4, h5⟩ := h
      rw [h3]
      exact ⟨x, List.mem_filter.2 ⟨List.mem_map.2 ⟨x, hx, h2 x hx h4 hne⟩, by simpa using hne⟩, rfl, h4, h5⟩
theorem weight_sub {N : List Nr} (k W : Int) : Sub (weightN N k W).2 N := (weight_keep k W).2
theorem Off.weight {N : List Nr} {i : Int} (h : Off N i) (k W : Int) : Off (weightN N k W).2 i := by
  obtain ⟨x, hx, rfl, h1, h2⟩ := h
  rw [weightN]
  split
  · exact ⟨x, hx, rfl, h1, h2⟩
  · split
    · exact ⟨x, hx, rfl, h1, h2⟩
    · split
      · exact ⟨x, hx, rfl, h1, h2⟩
      · split
        · exact ⟨x, hx, rfl, h1, h2⟩
        · by_cases c : x.id = k
          · exact ⟨_, mem_upN.2 ⟨x, hx, .inl ⟨c, rfl⟩⟩, rfl, h1, h2⟩
          · exact ⟨_, mem_upN.2 ⟨x, hx, .inr ⟨c, rfl⟩⟩, rfl, h1, h2⟩
theorem run_still {N : List Nr} (hw : WFN N) : ∃ g, Still g ∧ (runN N).2 = N.map g := by
  cases hg : gt N 0 with
  | none => exact ⟨fun x => x, Still.same, by rw [runN, hg]; simp⟩
  | some r =>
    cases hr : r.rdy with
    | true => obtain ⟨y, id, g, h1, h2, _⟩ := run_root hw hg hr; exact ⟨g, h2, by rw [h1]⟩
    | false => exact ⟨fun x => x, Still.same, by rw [runN, hg]; simp [hr]⟩
theorem Off.still {N : List Nr} {i : Int} (h : Off N i) {g : Nr → Nr} (hg : Still g) : Off (N.map g) i := by
  obtain ⟨x, hx, rfl, h1, h2⟩ := h
  exact ⟨g x, List.mem_map.2 ⟨x, hx, rfl⟩, hg.sk.id x, (hg.sk.thr x).trans h1, (hg.rdy x).trans h2⟩
/-! ## timers -/
theorem mem_tmDrop (id : Int) : ∀ (l : List (Int × Int)), Srt l → ∀ x, x ∈ tmDrop id l ↔ x.1 ≠ id ∧ x ∈ l
  | [], _, x => by simp [tmDrop]
  | y :: r, h, x => by
    have h1 := List.pairwise_cons.1 h
    unfold tmDrop
    by_cases hlt : id < y.1
    · rw [if_pos hlt]
      refine ⟨fun hx => ⟨?_, hx⟩, fun hx => hx.2⟩
      rcases List.mem_cons.1 hx with rfl | hx
      · omega
      · have := h1.1 x hx; omega
    · rw [if_neg hlt]
      by_cases he : y.1 = id
      · rw [if_pos he]
        refine ⟨fun hx => ⟨by have := h1.1 x hx; omega, by simp [hx]⟩, fun ⟨h2, h3⟩ => ?_⟩
        rcases List.mem_cons.1 h3 with rfl | h3
        · exact absurd he h2
        · exact h3
      · rw [if_neg he, List.mem_cons, mem_tmDrop id r h1.2 x, List.mem_cons]
        constructor
        · rintro (rfl | ⟨h2, h3⟩)
          · exact ⟨he, .inl rfl⟩
          · exact ⟨h2, .inr h3⟩
        · rintro ⟨h2, rfl | h3⟩
          · exact .inl rfl
          · exact .inr ⟨h2, h3⟩
theorem tmDrop_sub (id : Int) : ∀ (l : List (Int × Int)), (tmDrop id l).Sublist l
  | [] => List.Sublist.refl _
  | y :: r => by
    unfold tmDrop
    split
    · exact List.Sublist.refl _
    · split
      · exact List.sublist_cons_self _ _
      · exact (tmDrop_sub id r).cons_cons _
theorem Srt.drop {l : List (Int × Int)} (id : Int) (h : Srt l) : Srt (tmDrop id l) := List.Pairwise.sublist (tmDrop_sub id l) h
/-! ## objects -/
abbrev Ob := Int × List Int
def isOb (j : Int) : Bool := decide (j ≥ 0) && decide (j < 4)
def obHas (O : List Ob) (id : Int) : Bool := O.any fun o => o.2.contains id
def obAt (O : List Ob) (j : Int) : Ob := O.getD j.toNat (0, [])
def obWait (O : List Ob) (id j : Int) : (Bool × Int) × List Ob :=
  if isOb j = false then ((false, 10), O) else if obHas O id then ((false, 20), O)
  else if (obAt O j).1 > 0 then ((true, 0), O.set j.toNat ((obAt O j).1 - 1, (obAt O j).2)) else ((false, 0), O.set j.toNat ((obAt O j).1, (obAt O j).2 ++ [id]))
def obSig (O : List Ob) (j : Int) : (Int × Bool × Int) × List Ob :=
  if isOb j = false then ((0, false, 10), O) else match (obAt O j).2 with
    | [] => ((0, false, 0), O.set j.toNat (mnI ((obAt O j).1 + 1) 255, []))
    | x :: r => ((x, true, 0), O.set j.toNat ((obAt O j).1, r))
def obCut (O : List Ob) (id : Int) : List Ob := O.map fun o => (o.1, o.2.filter fun n => !(n == id))
/-! ## a kernel -/
structure KS where
  N : List Nr
  tm : List (Int × Int)
  ob : List Ob
  mt : Int
  mg : Int
  nx : Int
def isT (N : List Nr) (k : Int) : Bool := (gt N k).isSome && ((gt N k).getD zeroN).thr
def isR (N : List Nr) (k : Int) : Bool := (gt N k).isSome && ((gt N k).getD zeroN).thr && ((gt N k).getD zeroN).rdy
def kcnt (N : List Nr) (thr : Bool) : Int := ((N.filter fun x => x.thr == thr && !(x.id == 0)).length : Int)
def kadds (s : KS) (par wt most : Int) (thr : Bool) : (Int × Int) × KS :=
  if isW wt = false then ((0, 10), s) else if (gt s.N par).isNone ∨ ((gt s.N par).getD zeroN).thr = true then ((0, 13), s) else if kcnt s.N thr ≥ most then ((0, 14), s)
  else if (addN s.N par s.nx wt thr).1 ≠ 0 then ((0, (addN s.N par s.nx wt thr).1), s) else ((s.nx, 0), { s with N := (addN s.N par s.nx wt thr).2, nx := s.nx + 1 })
def kspawn (s : KS) (par wt : Int) : (Int × Int) × KS :=
  if (kadds s par wt s.mt true).1.2 ≠ 0 then ((0, (kadds s par wt s.mt true).1.2), (kadds s par wt s.mt true).2)
  else (((kadds s par wt s.mt true).1.1, (readyN (kadds s par wt s.mt true).2.N (kadds s par wt s.mt true).1.1 true).1), { (kadds s par wt s.mt true).2 with N := (readyN (kadds s par wt s.mt true).2.N (kadds s par wt s.mt true).1.1 true).2 })
def kgroup (s : KS) (par wt : Int) : (Int × Int) × KS := kadds s par wt s.mg false
def kexit (s : KS) (id : Int) : Int × KS := if isT s.N id = false then (13, s) else ((removeN s.N id).1, { s with N := (removeN s.N id).2, tm := tmDrop id s.tm, ob := obCut s.ob id })
def ksleep (s : KS) (id u : Int) : Int × KS := if isR s.N id = false then (13, s) else ((readyN s.N id false).1, { s with N := (readyN s.N id false).2, tm := tmSet id u s.tm })
def kwait (s : KS) (id j : Int) : (Bool × Int) × KS :=
  if isR s.N id = false then ((false, 13), s) else if (obWait s.ob id j).1.2 ≠ 0 ∨ (obWait s.ob id j).1.1 = true then ((obWait s.ob id j).1, { s with ob := (obWait s.ob id j).2 })
  else ((false, (readyN s.N id false).1), { s with N := (readyN s.N id false).2, ob := (obWait s.ob id j).2 })
def ksignal (s : KS) (j : Int) : Int × KS :=
  if (obSig s.ob j).1.2.2 ≠ 0 ∨ (obSig s.ob j).1.2.1 = false then ((obSig s.ob j).1.2.2, { s with ob := (obSig s.ob j).2 })
  else ((readyN s.N (obSig s.ob j).1.1 true).1, { s with N := (readyN s.N (obSig s.ob j).1.1 true).2, ob := (obSig s.ob j).2 })
def kweight (s : KS) (id W : Int) : Int × KS := ((weightN s.N id W).1, { s with N := (weightN s.N id W).2 })
def wakeL (N : List Nr) (l : List Int) : List Nr := l.foldl (fun N i => (readyN N i true).2) N
def kwake (s : KS) (t : Int) : List Int × KS := (dueOf t s.tm, { s with N := wakeL s.N (dueOf t s.tm), tm := restOf t s.tm })
def krun (s : KS) : (Int × Bool) × KS := ((runN s.N).1, { s with N := (runN s.N).2 })
def krunnable (s : KS) : Bool := ((gt s.N 0).getD zeroN).rdy
def kthreads (s : KS) : List Int := ((nodesN s.N).filter (·.thr)).map (·.id)
/-- What holds of a kernel all the time. -/
structure KOk (s : KS) : Prop where
  wf : WFN s.N
  ids : ∀ x ∈ s.N, x.id < s.nx
  nx : 1 ≤ s.nx
  mt : 1 ≤ s.mt ∧ s.mt ≤ 8
  mg : 0 ≤ s.mg ∧ s.mg ≤ 4
  ct : kcnt s.N true ≤ s.mt ∧ kcnt s.N false ≤ s.mg
  tm : Srt s.tm
  tmo : ∀ p ∈ s.tm, Off s.N p.1
  ob : s.ob.length = 4
  obc : ∀ o ∈ s.ob, 0 ≤ o.1 ∧ o.1 ≤ 255
  obo : ∀ o ∈ s.ob, ∀ i ∈ o.2, Off s.N i
  obn : ∀ o ∈ s.ob, o.2.Nodup
  obd : ∀ (i j : Nat) (a b : Ob), i ≠ j → s.ob[i]? = some a → s.ob[j]? = some b → ∀ x ∈ a.2, x ∉ b.2
  dis : ∀ p ∈ s.tm, ∀ o ∈ s.ob, p.1 ∉ o.2
theorem isT_iff {N : List Nr} {k : Int} : isT N k = true ↔ ∃ x, gt N k = some x ∧ x.thr = true := by
  unfold isT
  cases gt N k with
  | none => simp
  | some x => simp
theorem isR_iff {N : List Nr} {k : Int} : isR N k = true ↔ ∃ x, gt N k = some x ∧ x.thr = true ∧ x.rdy = true := by
  unfold isR
  cases gt N k with
  | none => simp
  | some x => simp
theorem Off.ne {N : List Nr} (hs : SK N) {i k : Int} (h : Off N i) (hk : isR N k = true) : i ≠ k := by
  rintro rfl
  obtain ⟨x, h1, _, h2⟩ := h.get hs
  obtain ⟨y, h3, _, h4⟩ := isR_iff.1 hk
  rw [h1] at h3; cases h3; rw [h2] at h4; cases h4
theorem ids_sub {N' N : List Nr} {n : Int} (h : Sub N' N) (hi : ∀ x ∈ N, x.id < n) : ∀ x ∈ N', x.id < n := fun x hx => by
  obtain ⟨v, hv, e, _⟩ := h x hx
  have := hi v hv
  omega
def CtLe (N' N : List Nr) : Prop := ∀ b, kcnt N' b ≤ kcnt N b
theorem CtLe.le {N' N : List Nr} (h : CtLe N' N) {a b : Int} (k : kcnt N true ≤ a ∧ kcnt N false ≤ b) : kcnt N' true ≤ a ∧ kcnt N' false ≤ b := ⟨Int.le_trans (h true) k.1, Int.le_trans (h false) k.2⟩
theorem kcnt_skel {g : Nr → Nr} (hg : Skel g) (N : List Nr) (b : Bool) : kcnt (N.map g) b = kcnt N b := by
  unfold kcnt
  rw [List.filter_map, List.length_map]
  congr 2
  exact List.filter_congr fun x _ => by simp [Function.comp, hg.thr, hg.id]
theorem CtLe.map {g : Nr → Nr} (hg : Skel g) (N : List Nr) : CtLe (N.map g) N := fun b => Int.le_of_eq (kcnt_skel hg N b)
theorem kcnt_add (N : List Nr) (n : Nr) (hn : n.id ≠ 0) (b : Bool) : kcnt (N ++ [n]) b = kcnt N b + if n.thr = b then 1 else 0 := by
  unfold kcnt
  rw [List.filter_append, List.length_append]
  have h0 : (n.id == 0) = false := by simpa using hn
  by_cases c : n.thr = b
  · have : (n.thr == b) = true := by simpa using c
    simp [this, h0, c]
  · have : (n.thr == b) = false := by simpa using c
    simp [this, c]
theorem ready_ct {N : List Nr} (k : Int) (r : Bool) : CtLe (readyN N k r).2 N := by
  obtain ⟨g, hg, e⟩ := readyN_map N k r
  rw [e]; exact CtLe.map hg N
theorem remove_ct {N : List Nr} (k : Int) : CtLe (removeN N k).2 N := by
  unfold removeN
  split
  · exact fun b => Int.le_refl _
  · split
    · exact fun b => Int.le_refl _
    · obtain ⟨g, hg1, _, hg3⟩ := restN_map 6 N k
      rw [hg3]
      intro b
      rw [← kcnt_skel hg1 N b]
      unfold kcnt
      exact Int.ofNat_le.2 ((List.filter_sublist.filter _).length_le)
theorem weight_ct {N : List Nr} (k W : Int) : CtLe (weightN N k W).2 N := by
  rw [weightN]
  split
  · exact fun b => Int.le_refl _
  · split
    · exact fun b => Int.le_refl _
    · split
      · exact fun b => Int.le_refl _
      · split
        · exact fun b => Int.le_refl _
        · rename_i x _ _ p _
          exact CtLe.map (skel_ite (k := k) (f := fun x => { x with pass := scaleN x.pass p.now x.wt W, wt := W }) ⟨fun _ => rfl, fun _ => rfl, fun _ => rfl⟩) N
theorem wakeL_ct : ∀ (l : List Int) (N : List Nr), CtLe (wakeL N l) N
  | [], N => fun b => Int.le_refl _
  | k :: l, N => fun b => Int.le_trans (wakeL_ct l _ b) (ready_ct k true b)
theorem kcnt_len (N : List Nr) (hs : SK N) : (N.length : Int) = 1 + kcnt N true + kcnt N false := by
  have h1 : N.length = (N.filter fun x => x.id == 0).length + (N.filter fun x => !(x.id == 0)).length := by
    rw [← List.countP_eq_length_filter, ← List.countP_eq_length_filter]
    have h0 := List.length_eq_countP_add_countP (fun x : Nr => x.id == 0) (l := N)
    rw [h0]; congr 2; funext a; cases c : (a.id == 0) <;> simp_all
  have h2 : (N.filter fun x => !(x.id == 0)).length = (N.filter fun x => x.thr == true && !(x.id == 0)).length + (N.filter fun x => x.thr == false && !(x.id == 0)).length := by
    have h3 := List.length_eq_countP_add_countP (fun x : Nr => x.thr == true) (l := N.filter fun x => !(x.id == 0))
    rw [h3, List.countP_eq_length_filter, List.countP_eq_length_filter, List.filter_filter, List.filter_filter]
    congr 2
    exact List.filter_congr fun x _ => by cases x.thr <;> simp
  have h4 : (N.filter fun x => x.id == 0).length = 1 := by
    obtain ⟨r, hr, hr0⟩ := hs.root
    have hn : ((N.filter fun x => x.id == 0).map (·.id)).Nodup := (List.filter_sublist.map _).nodup hs.nd
    cases hl : N.filter fun x => x.id == 0 with
    | nil => exact absurd (List.mem_filter (p := fun x : Nr => x.id == 0).2 ⟨hr, by simpa using hr0⟩) (by rw [hl]; simp)
    | cons a t =>
      cases t with
      | nil => rfl
      | cons b t =>
        exfalso
        have ha : a.id = 0 := by have : a ∈ N.filter fun x => x.id == 0 := by rw [hl]; simp
                                 simpa using (List.mem_filter.1 this).2
        have hb : b.id = 0 := by have : b ∈ N.filter fun x => x.id == 0 := by rw [hl]; simp
                                 simpa using (List.mem_filter.1 this).2
        rw [hl] at hn
        simp [ha, hb] at hn
  unfold kcnt
  omega
/-- Other nodes, where those who aren't ready still aren't. -/
theorem KOk.node {s : KS} (h : KOk s) {N' : List Nr} {n : Int} (hw : WFN N') (hn : s.nx ≤ n) (hi : ∀ x ∈ N', x.id < n) (hc : kcnt N' true ≤ s.mt ∧ kcnt N' false ≤ s.mg) (ho : ∀ i, Off s.N i → Off N' i) : KOk { s with N := N', nx := n } :=
  ⟨hw, hi, by have := h.nx; show 1 ≤ n; omega, h.mt, h.mg, hc, h.tm, fun p hp => ho _ (h.tmo p hp), h.ob, h.obc, fun o hx i hi => ho _ (h.obo o hx i hi), h.obn, h.obd, h.dis⟩
theorem kadds_ok {s : KS} (h : KOk s) (par wt most : Int) (thr : Bool) (hm : most = if thr then s.mt else s.mg) : KOk (kadds s par wt most thr).2 ∧ ∀ i, Off s.N i → Off (kadds s par wt most thr).2.N i ∧ i < s.nx := by
  have hlt : ∀ i, Off s.N i → i < s.nx := fun i hi => by obtain ⟨x, hx, e, _⟩ := hi; rw [← e]; exact h.ids x hx
  have same : KOk s ∧ ∀ i, Off s.N i → Off s.N i ∧ i < s.nx := ⟨h, fun i hi => ⟨hi, hlt i hi⟩⟩
  unfold kadds
  split
  · exact same
  · split
    · exact same
    · split
      · exact same
      · rename_i hct
        split
        · exact same
        · rename_i hz
          rcases add_cases s.N par s.nx wt thr with ⟨e, he, h1⟩ | ⟨p, _, _, h1⟩
          · exact absurd (by rw [h1]; exact he) hz
          · have h1' : (addN s.N par s.nx wt thr).2 = _ := congrArg Prod.snd h1
            refine ⟨h.node (add_wf h.wf _ _ _ _) (by omega) ?_ ?_ (fun i hi => hi.add _ _ _ _), fun i hi => ⟨hi.add _ _ _ _, hlt i hi⟩⟩
            · rw [h1']
              intro x hx
              rcases List.mem_append.1 hx with hx | hx
              · have := h.ids x hx; omega
              · simp at hx; subst hx; show s.nx < s.nx + 1; omega
            · have hnx := h.nx
              have hc1 := h.ct.1
              have hc2 := h.ct.2
              rw [h1', kcnt_add _ _ (by show s.nx ≠ 0; omega), kcnt_add _ _ (by show s.nx ≠ 0; omega)]
              cases thr with
              | true => simp at hm ⊢; omega
              | false => simp at hm ⊢; omega
theorem kadds_id {s : KS} {par wt most : Int} {thr : Bool} (h : (kadds s par wt most thr).1.2 = 0) : (kadds s par wt most thr).1.1 = s.nx ∧ (kadds s par wt most thr).2 = { s with N := (addN s.N par s.nx wt thr).2, nx := s.nx + 1 } ∧ (addN s.N par s.nx wt thr).1 = 0 ∧ isW wt = true ∧ kcnt s.N thr < most := by
  unfold kadds at h ⊢
  split at h
  · cases h
  · split at h
    · cases h
    · split at h
      · cases h
      · split at h
        · rename_i c; exact absurd h c
        · rename_i c1 c2 c3 c4
          rw [if_neg c1, if_neg c2, if_neg c3, if_neg c4]
          exact ⟨rfl, rfl, by simpa using c4, by simpa using c1, by omega⟩
theorem kspawn_ok {s : KS} (h : KOk s) (par wt : Int) : KOk (kspawn s par wt).2 := by
  obtain ⟨h1, h2⟩ := kadds_ok h par wt s.mt true rfl
  unfold kspawn
  split
  · exact h1
  · rename_i c
    obtain ⟨e1, e2, _⟩ := kadds_id (by simpa using c : (kadds s par wt s.mt true).1.2 = 0)
    rw [e1]
    rw [e2] at h1 ⊢
    refine ⟨ready_wf h1.wf _ _, ids_sub (ready_sub _ _) h1.ids, h1.nx, h1.mt, h1.mg, (ready_ct _ _).le h1.ct, h1.tm, fun p hp => ?_, h1.ob, h1.obc, fun o ho i hi => ?_, h1.obn, h1.obd, h1.dis⟩
    · have h3 := h2 _ (h.tmo p hp)
      exact (h1.tmo p hp).ready h1.wf.sk (by have := h3.2; omega)
    · have h3 := h2 _ (h.obo o ho i hi)
      exact (h1.obo o ho i hi).ready h1.wf.sk (by have := h3.2; omega)
theorem kgroup_ok {s : KS} (h : KOk s) (par wt : Int) : KOk (kgroup s par wt).2 := (kadds_ok h par wt s.mg false rfl).1
theorem mem_obCut {O : List Ob} {id : Int} {o : Ob} : o ∈ obCut O id → ∃ a ∈ O, o = (a.1, a.2.filter fun n => !(n == id)) := fun h => by
  obtain ⟨a, ha, rfl⟩ := List.mem_map.1 h
  exact ⟨a, ha, rfl⟩
theorem kexit_ok {s : KS} (h : KOk s) (id : Int) : KOk (kexit s id).2 := by
  unfold kexit
  split
  · exact h
  · refine ⟨remove_wf h.wf id, ids_sub (remove_sub id) h.ids, h.nx, h.mt, h.mg, (remove_ct _).le h.ct, h.tm.drop id, fun p hp => ?_, by show (obCut s.ob id).length = 4; rw [obCut, List.length_map]; exact h.ob, fun o ho => ?_, fun o ho i hi => ?_, fun o ho => ?_, fun i j a b hij ha hb x hxa hxb => ?_, fun p hp o ho hx => ?_⟩
    · obtain ⟨h1, h2⟩ := (mem_tmDrop id s.tm h.tm p).1 hp
      exact (h.tmo p h2).remove h.wf.sk h1
    · obtain ⟨a, ha, rfl⟩ := mem_obCut ho
      exact h.obc a ha
    · obtain ⟨a, ha, rfl⟩ := mem_obCut ho
      obtain ⟨h1, h2⟩ := List.mem_filter.1 hi
      exact (h.obo a ha i h1).remove h.wf.sk (by simpa using h2)
    · obtain ⟨a, ha, rfl⟩ := mem_obCut ho
      exact (h.obn a ha).filter _
    · simp only [obCut, List.getElem?_map, Option.map_eq_some_iff] at ha hb
      obtain ⟨a', ha', rfl⟩ := ha
      obtain ⟨b', hb', rfl⟩ := hb
      exact h.obd i j a' b' hij ha' hb' x (List.mem_filter.1 hxa).1 (List.mem_filter.1 hxb).1
    · obtain ⟨a, ha, rfl⟩ := mem_obCut ho
      exact h.dis p ((mem_tmDrop id s.tm h.tm p).1 hp).2 a ha (List.mem_filter.1 hx).1
theorem ksleep_ok {s : KS} (h : KOk s) (id u : Int) : KOk (ksleep s id u).2 := by
  unfold ksleep
  split
  · exact h
  · rename_i c
    have hr : isR s.N id = true := by simpa using c
    obtain ⟨x, hx, ht, _⟩ := isR_iff.1 hr
    refine ⟨ready_wf h.wf _ _, ids_sub (ready_sub _ _) h.ids, h.nx, h.mt, h.mg, (ready_ct _ _).le h.ct, h.tm.set id u, fun p hp => ?_, h.ob, h.obc, fun o ho i hi => ?_, h.obn, h.obd, fun p hp o ho hx => ?_⟩
    · rcases (mem_tmSet id u s.tm h.tm p).1 hp with rfl | ⟨h1, h2⟩
      · exact Off.self h.wf.sk hx ht
      · exact (h.tmo p h2).ready h.wf.sk h1
    · have := h.obo o ho i hi
      exact this.ready h.wf.sk (this.ne h.wf.sk hr)
    · rcases (mem_tmSet id u s.tm h.tm p).1 hp with rfl | ⟨h1, h2⟩
      · exact (h.obo o ho id hx).ne h.wf.sk hr rfl
      · exact h.dis p h2 o ho hx
theorem obAt_some {O : List Ob} (hl : O.length = 4) {j : Int} (hj : isOb j = true) : O[j.toNat]? = some (obAt O j) ∧ (obAt O j) ∈ O ∧ j.toNat < O.length := by
  simp [isOb] at hj
  have h : j.toNat < O.length := by omega
  have e : O[j.toNat]? = some (obAt O j) := by rw [obAt, List.getD_eq_getElem?_getD, List.getElem?_eq_getElem h]; rfl
  exact ⟨e, List.mem_of_getElem? e, h⟩
theorem mem_set {O : List Ob} {j : Nat} {o a : Ob} (h : o ∈ O.set j a) : o = a ∨ o ∈ O := by
  rcases List.mem_or_eq_of_mem_set h with h | h
  · exact .inr h
  · exact .inl h
/-- Another object, of whose waiters none waits elsewhere. -/
theorem obd_set {O : List Ob} (hd : ∀ (i j : Nat) (a b : Ob), i ≠ j → O[i]? = some a → O[j]? = some b → ∀ x ∈ a.2, x ∉ b.2) {j : Nat} {o : Ob} (hn : ∀ (i : Nat) (a : Ob), i ≠ j → O[i]? = some a → ∀ x ∈ a.2, x ∉ o.2) :
    ∀ (i k : Nat) (a b : Ob), i ≠ k → (O.set j o)[i]? = some a → (O.set j o)[k]? = some b → ∀ x ∈ a.2, x ∉ b.2 := by
  intro i k a b hik ha hb x hxa hxb
  rw [List.getElem?_set] at ha hb
  by_cases ci : j = i
  · by_cases ck : j = k
    · exact hik (ci.symm.trans ck)
    · rw [if_pos ci] at ha
      rw [if_neg ck] at hb
      split at ha
      · cases ha
        exact hn k b (fun e => ck e.symm) hb x hxb hxa
      · cases ha
  · rw [if_neg ci] at ha
    by_cases ck : j = k
    · rw [if_pos ck] at hb
      split at hb
      · cases hb
        exact hn i a (fun e => ci e.symm) ha x hxa hxb
      · cases hb
    · rw [if_neg ck] at hb
      exact hd i k a b hik ha hb x hxa hxb
theorem obHas_no {O : List Ob} {id : Int} (h : ¬ obHas O id = true) : ∀ o ∈ O, id ∉ o.2 := fun o ho hi => h (by
  rw [obHas, List.any_eq_true]; exact ⟨o, ho, by simpa using hi⟩)
theorem kwait_ok {s : KS} (h : KOk s) (id j : Int) : KOk (kwait s id j).2 := by
  have put : ∀ o : Ob, isOb j = true → 0 ≤ o.1 → o.1 ≤ 255 → o.2 = (obAt s.ob j).2 → KOk { s with ob := s.ob.set j.toNat o } := fun o hj h0 h1 he => by
    obtain ⟨a1, a2, a3⟩ := obAt_some h.ob hj
    refine ⟨h.wf, h.ids, h.nx, h.mt, h.mg, h.ct, h.tm, h.tmo, by simp [h.ob], fun p hp => ?_, fun p hp i hi => ?_, fun p hp => ?_, obd_set h.obd fun i a hi ha x hx hxo => ?_, fun p hp q hq => ?_⟩
    · rcases mem_set hp with rfl | hp
      · exact ⟨h0, h1⟩
      · exact h.obc p hp
    · rcases mem_set hp with rfl | hp
      · exact h.obo _ a2 i (he ▸ hi)
      · exact h.obo p hp i hi
    · rcases mem_set hp with rfl | hp
      · rw [he]; exact h.obn _ a2
      · exact h.obn p hp
    · exact h.obd i _ a _ hi ha a1 x hx (he ▸ hxo)
    · rcases mem_set hq with rfl | hq
      · rw [he]; exact h.dis p hp _ a2
      · exact h.dis p hp q hq
  unfold kwait
  split
  · exact h
  · rename_i c
    have hr : isR s.N id = true := by simpa using c
    obtain ⟨x, hx, ht, _⟩ := isR_iff.1 hr
    unfold obWait
    by_cases hj : isOb j = false
    · rw [if_pos hj]; simp; exact h
    · rw [if_neg hj]
      have hj : isOb j = true := by simpa using hj
      obtain ⟨a1, a2, a3⟩ := obAt_some h.ob hj
      by_cases hh : obHas s.ob id = true
      · rw [if_pos hh]; simp; exact h
      · rw [if_neg hh]
        by_cases hc : (obAt s.ob j).1 > 0
        · rw [if_pos hc]; simp only [or_true, if_true]
          exact put _ hj (by have := h.obc _ a2; simp only; omega) (by have := h.obc _ a2; simp only; omega) rfl
        · rw [if_neg hc]; simp
          have hno := obHas_no hh
          refine ⟨ready_wf h.wf _ _, ids_sub (ready_sub _ _) h.ids, h.nx, h.mt, h.mg, (ready_ct _ _).le h.ct, h.tm, fun p hp => ?_, by simp [h.ob], fun p hp => ?_, fun p hp i hi => ?_, fun p hp => ?_, obd_set h.obd fun i a hi ha y hy hxo => ?_, fun p hp q hq => ?_⟩
          · have := h.tmo p hp
            exact this.ready h.wf.sk (this.ne h.wf.sk hr)
          · rcases mem_set hp with rfl | hp
            · show 0 ≤ (obAt s.ob j).1 ∧ (obAt s.ob j).1 ≤ 255; exact h.obc _ a2
            · exact h.obc p hp
          · rcases mem_set hp with rfl | hp
            · rcases List.mem_append.1 hi with hi | hi
              · have := h.obo _ a2 i hi
                exact this.ready h.wf.sk (this.ne h.wf.sk hr)
              · simp at hi; subst hi; exact Off.self h.wf.sk hx ht
            · have := h.obo p hp i hi
              exact this.ready h.wf.sk (this.ne h.wf.sk hr)
          · rcases mem_set hp with rfl | hp
            · refine List.nodup_append.2 ⟨h.obn _ a2, by simp, fun a ha b hb => ?_⟩
              simp at hb; subst hb
              rintro rfl; exact hno _ a2 ha
            · exact h.obn p hp
          · rcases List.mem_append.1 hxo with hxo | hxo
            · exact h.obd i _ a _ hi ha a1 y hy hxo
            · simp at hxo; subst hxo; exact hno _ (List.mem_of_getElem? ha) hy
          · rcases mem_set hq with rfl | hq
            · intro hm
              rcases List.mem_append.1 hm with hm | hm
              · exact h.dis p hp _ a2 hm
              · simp at hm; exact (h.tmo p hp).ne h.wf.sk hr hm
            · exact h.dis p hp q hq
theorem mnI_le (a : Int) : mnI a 255 ≤ 255 ∧ (0 ≤ a → 0 ≤ mnI a 255) := by
  unfold mnI; split <;> constructor <;> omega
theorem ksignal_ok {s : KS} (h : KOk s) (j : Int) : KOk (ksignal s j).2 := by
  unfold ksignal obSig
  by_cases hj : isOb j = false
  · rw [if_pos hj]; simp; exact h
  · rw [if_neg hj]
    have hj : isOb j = true := by simpa using hj
    obtain ⟨a1, a2, a3⟩ := obAt_some h.ob hj
    cases hl : (obAt s.ob j).2 with
    | nil =>
      simp
      refine ⟨h.wf, h.ids, h.nx, h.mt, h.mg, h.ct, h.tm, h.tmo, by simp [h.ob], fun p hp => ?_, fun p hp i hi => ?_, fun p hp => ?_, obd_set h.obd fun i a hi ha x hx hxo => by simp at hxo, fun p hp q hq => ?_⟩
      · rcases mem_set hp with rfl | hp
        · exact ⟨(mnI_le _).2 (by have := h.obc _ a2; omega), (mnI_le _).1⟩
        · exact h.obc p hp
      · rcases mem_set hp with rfl | hp
        · simp at hi
        · exact h.obo p hp i hi
      · rcases mem_set hp with rfl | hp
        · simp
        · exact h.obn p hp
      · rcases mem_set hq with rfl | hq
        · simp
        · exact h.dis p hp q hq
    | cons x r =>
      simp
      have hxr := h.obn _ a2
      rw [hl] at hxr
      obtain ⟨hx, hr⟩ := List.nodup_cons.1 hxr
      have hm : ∀ y ∈ r, y ∈ (obAt s.ob j).2 := fun y hy => by rw [hl]; simp [hy]
      have hxm : x ∈ (obAt s.ob j).2 := by rw [hl]; simp
      refine ⟨ready_wf h.wf _ _, ids_sub (ready_sub _ _) h.ids, h.nx, h.mt, h.mg, (ready_ct _ _).le h.ct, h.tm, fun p hp => ?_, by simp [h.ob], fun p hp => ?_, fun p hp i hi => ?_, fun p hp => ?_, obd_set h.obd fun i a hi ha y hy hyo => ?_, fun p hp q hq => ?_⟩
      · exact (h.tmo p hp).ready h.wf.sk (fun e => h.dis p hp _ a2 (e ▸ hxm))
      · rcases mem_set hp with rfl | hp
        · show 0 ≤ (obAt s.ob j).1 ∧ (obAt s.ob j).1 ≤ 255; exact h.obc _ a2
        · exact h.obc p hp
      · obtain ⟨m, hmm, he⟩ := List.mem_iff_getElem.1 hp
        have hg : (s.ob.set j.toNat ((obAt s.ob j).1, r))[m]? = some p := by rw [← he]; exact List.getElem?_eq_getElem hmm
        rw [List.getElem?_set] at hg
        by_cases c : j.toNat = m
        · rw [if_pos c, if_pos a3] at hg
          cases hg
          exact (h.obo _ a2 i (hm i hi)).ready h.wf.sk (by rintro rfl; exact hx hi)
        · rw [if_neg c] at hg
          exact (h.obo p (List.mem_of_getElem? hg) i hi).ready h.wf.sk (by rintro rfl; exact h.obd m _ p _ (fun e => c e.symm) hg a1 i hi hxm)
      · rcases mem_set hp with rfl | hp
        · exact hr
        · exact h.obn p hp
      · exact h.obd i _ a _ hi ha a1 y hy (hm y hyo)
      · rcases mem_set hq with rfl | hq
        · exact fun hmm => h.dis p hp _ a2 (hm _ hmm)
        · exact h.dis p hp q hq
theorem kweight_ok {s : KS} (h : KOk s) (id W : Int) : KOk (kweight s id W).2 := h.node (weight_wf h.wf id W) (Int.le_refl _) (ids_sub (weight_sub id W) h.ids) ((weight_ct _ _).le h.ct) fun i hi => hi.weight id W
theorem krun_ok {s : KS} (h : KOk s) : KOk (krun s).2 := by
  obtain ⟨g, hg, e⟩ := run_still h.wf
  exact h.node (run_wf h.wf) (Int.le_refl _) (by rw [e]; exact ids_sub (Sub.map hg.sk) h.ids) (by rw [e]; exact (CtLe.map hg.sk s.N).le h.ct) fun i hi => by rw [e]; exact hi.still hg
theorem wakeL_ok : ∀ (l : List Int) {N : List Nr}, WFN N → WFN (wakeL N l) ∧ Sub (wakeL N l) N ∧ ∀ i, i ∉ l → Off N i → Off (wakeL N l) i
  | [], N, h => ⟨h, Sub.refl N, fun _ _ h => h⟩
  | k :: l, N, h => by
    obtain ⟨h1, h2, h3⟩ := wakeL_ok l (ready_wf h k true)
    exact ⟨h1, h2.trans (ready_sub k true), fun i hi ho => h3 i (fun e => hi (by simp [e])) (ho.ready h.sk (fun e => hi (by simp [e])))⟩
theorem kwake_ok {s : KS} (h : KOk s) (t : Int) : KOk (kwake s t).2 := by
  obtain ⟨h1, h2, h3⟩ := wakeL_ok (dueOf t s.tm) h.wf
  have hin : ∀ i ∈ dueOf t s.tm, ∃ p ∈ s.tm, p.1 = i ∧ p.2 ≤ t := fun i hi => by
    obtain ⟨u, hu, ht⟩ := (mem_due t i).1 hi
    exact ⟨_, hu, rfl, ht⟩
  refine ⟨h1, ids_sub h2 h.ids, h.nx, h.mt, h.mg, (wakeL_ct _ _).le h.ct, h.tm.rest t, fun p hp => ?_, h.ob, h.obc, fun o ho i hi => ?_, h.obn, h.obd, fun p hp o ho => h.dis p ((mem_rest t p).1 hp).1 o ho⟩
  · obtain ⟨hp1, hp2⟩ := (mem_rest t p).1 hp
    refine h3 _ (fun e => ?_) (h.tmo p hp1)
    obtain ⟨q, hq, he, hqt⟩ := hin _ e
    have : q = p := by
      by_cases c : q = p
      · exact c
      · have hpw := h.tm
        exact absurd he (fun e => by
          have hd : s.tm.Pairwise (fun a b => a.1 ≠ b.1) := hpw.imp (fun hab => by omega)
          exact (List.Pairwise.forall_of_forall_of_flip (R := fun a b : Int × Int => a = b ∨ a.1 ≠ b.1) (fun x _ => .inl rfl) (hd.imp fun hab => .inr hab) (hd.imp fun hab => .inr fun e => hab e.symm) hq hp1).elim c (fun hne => hne e))
    subst this; omega
  · refine h3 _ (fun e => ?_) (h.obo o ho i hi)
    obtain ⟨q, hq, he, _⟩ := hin _ e
    exact h.dis q hq o ho (he ▸ hi)
def k0 (mt mg : Int) : KS := (kspawn ⟨[rootN], [], [(0, []), (0, []), (0, []), (0, [])], mt, mg, 1⟩ 0 1).2
theorem k00_ok {mt mg : Int} (h1 : 1 ≤ mt ∧ mt ≤ 8) (h2 : 0 ≤ mg ∧ mg ≤ 4) : KOk ⟨[rootN], [], [(0, []), (0, []), (0, []), (0, [])], mt, mg, 1⟩ := by
  have hob : ∀ o ∈ ([(0, []), (0, []), (0, []), (0, [])] : List Ob), o = (0, []) := fun o ho => by simpa using ho
  refine ⟨root_wf, fun x hx => ?_, Int.le_refl _, h1, h2, ⟨by rw [show kcnt [rootN] true = 0 by decide]; show (0 : Int) ≤ mt; omega, by rw [show kcnt [rootN] false = 0 by decide]; show (0 : Int) ≤ mg; omega⟩, List.Pairwise.nil, fun _ h => absurd h List.not_mem_nil, rfl, fun o ho => ?_, fun o ho i hi => ?_, fun o ho => ?_, fun i j a b hij ha hb x hxa => ?_, fun _ h => absurd h List.not_mem_nil⟩
  · rcases List.mem_singleton.1 hx with rfl; show (0 : Int) < 1; omega
  · rw [hob o ho]; exact ⟨by decide, by decide⟩
  · rw [hob o ho] at hi; cases hi
  · rw [hob o ho]; exact List.nodup_nil
  · rw [hob a (List.mem_of_getElem? ha)] at hxa; cases hxa
theorem k0_ok {mt mg : Int} (h1 : 1 ≤ mt ∧ mt ≤ 8) (h2 : 0 ≤ mg ∧ mg ≤ 4) : KOk (k0 mt mg) := kspawn_ok (k00_ok h1 h2) 0 1
end Go.Proofs.YtlhjibkkkhgonaaGreatDoor
set_option linter.unusedVariables false
set_option linter.unusedSimpArgs false
namespace Go.Proofs.YtlhjibkkkhgonaaGreatDoor
open Go.RowKit G
/-- An object in memory: its count, where its row lies, how much room that has; who waits. -/
structure Oz where
 c : Int
 a : Option Addr
 k : Nat
 l : List Int
def obE : Enc Oz := ⟨2, by decide, fun z => [.int .i64 z.c, .slice z.a z.l.length z.k], fun _ => rfl, by intro a u hu; simp at hu; rcases hu with rfl | rfl <;> rfl⟩
def obF (z : Oz) : Ob := (z.c, z.l)
def ozR (z : Oz) : SP := row (kE .i64) 3 (.slice z.a z.l.length z.k) z.l
def obL (Z : List Oz) : List SP := Z.map ozR
def obX (Z : List Oz) (j : Nat) : List SP := (obL Z).eraseIdx j
def obsS (b : Nat) (O : List Ob) : SP := exS fun Z : List Oz => two (pureS (Z.map obF = O ∧ Z.length = 4)) (manyS (row obE 120 (.slice (some ⟨b, 0, none⟩) 4 4) Z :: obL Z))
theorem Sat.openObs {b : Nat} {O : List Ob} {H : List SP} {w : World} (h : Sat w (obsS b O :: H)) : ∃ Z : List Oz, Z.map obF = O ∧ Z.length = 4 ∧ Sat w (row obE 120 (.slice (some ⟨b, 0, none⟩) 4 4) Z :: (obL Z ++ H)) := by
 obtain ⟨Z, h⟩ := Sat.openEx h
 obtain ⟨⟨h1, h2⟩, h⟩ := Sat.openPure (Sat.openTwo h)
 exact ⟨Z, h1, h2, Sat.openMany h⟩
theorem Sat.closeObs {b : Nat} {O : List Ob} {Z : List Oz} {H : List SP} {w : World} (h1 : Z.map obF = O) (h2 : Z.length = 4) (h : Sat w (row obE 120 (.slice (some ⟨b, 0, none⟩) 4 4) Z :: (obL Z ++ H))) : Sat w (obsS b O :: H) :=
 Sat.closeEx Z (Sat.closeTwo (Sat.closePure ⟨h1, h2⟩ (Sat.closeMany (l := row obE 120 (.slice (some ⟨b, 0, none⟩) 4 4) Z :: obL Z) h)))
theorem idx_perm {α : Type} {a : α} : ∀ {l : List α} {i : Nat}, l[i]? = some a → (a :: l.eraseIdx i).Perm l
 | [], i, h => by simp at h
 | x :: l, 0, h => by simp at h; subst h; exact List.Perm.refl _
 | x :: l, i + 1, h => (List.Perm.swap _ _ _).trans ((idx_perm (l := l) (i := i) (by simpa using h)).cons x)
theorem obL_at {Z : List Oz} {j : Nat} {z : Oz} (hz : Z[j]? = some z) (H : List SP) : (obL Z ++ H)[j]? = some (ozR z) := by
 have h1 : (obL Z)[j]? = some (ozR z) := by rw [obL, List.getElem?_map, hz]; rfl
 obtain ⟨h2, _⟩ := List.getElem?_eq_some_iff.1 h1
 rw [List.getElem?_append_left h2, h1]
theorem obL_kr {Z : List Oz} {j : Nat} {z : Oz} (hz : Z[j]? = some z) (P : SP) (H : List SP) : KR (P :: (obL Z ++ H)) (kE .i64) ⟨z.a, z.k, z.l⟩ := rowKRat (j + 1) (by rw [List.getElem?_cons_succ]; exact obL_at hz H)
theorem obX_set (Z : List Oz) (j : Nat) (z : Oz) : obX (Z.set j z) j = obX Z j := by
 rw [obX, obX, obL, obL, List.map_set, List.eraseIdx_set_eq]
theorem obPick {Z : List Oz} {j : Nat} {z : Oz} (hz : Z[j]? = some z) {P : SP} {H : List SP} {w : World} (h : Sat w (P :: (obL Z ++ H))) : Sat w (ozR z :: P :: (obX Z j ++ H)) := by
 have h1 := Sat.pick (j + 1) (P := ozR z) (by rw [List.getElem?_cons_succ]; exact obL_at hz H) h
 have h2 : (obL Z)[j]? = some (ozR z) := by rw [obL, List.getElem?_map, hz]; rfl
 obtain ⟨h3, _⟩ := List.getElem?_eq_some_iff.1 h2
 rw [List.eraseIdx_cons_succ, List.eraseIdx_append_of_lt_length h3] at h1
 exact h1
theorem obPut {Z : List Oz} {j : Nat} (hj : j < Z.length) (z : Oz) {P : SP} {H : List SP} {w : World} (h : Sat w (ozR z :: P :: (obX Z j ++ H))) : Sat w (P :: (obL (Z.set j z) ++ H)) := by
 have hz : (obL (Z.set j z))[j]? = some (ozR z) := by rw [obL, List.getElem?_map, List.getElem?_set_self hj]; rfl
 obtain ⟨h3, h4⟩ := List.getElem?_eq_some_iff.1 hz
 have hp : (ozR z :: P :: (obX Z j ++ H)).Perm (P :: (obL (Z.set j z) ++ H)) := by
  refine (List.Perm.swap _ _ _).trans (List.Perm.cons _ ?_)
  rw [← List.cons_append]
  refine List.Perm.append_right _ ?_
  rw [← obX_set Z j z, obX]
  exact idx_perm hz
 exact Sat.perm hp h
def wtsZ (Z : List Oz) (id : Int) : Int := match Z.findIdx? (fun z => z.l.contains id) with | none => -1 | some i => (i : Int)
theorem wtsZ_none {Z : List Oz} {id : Int} (h : ∀ z ∈ Z, z.l.contains id = false) : wtsZ Z id = -1 := by
 rw [wtsZ, List.findIdx?_eq_none_iff.2 h]
theorem wtsZ_some {Z : List Oz} {id : Int} {i : Nat} {z : Oz} (hz : Z[i]? = some z) (hc : z.l.contains id = true) (hno : ∀ v z, v < i → Z[v]? = some z → z.l.contains id = false) : wtsZ Z id = i := by
 have : Z.findIdx? (fun z => z.l.contains id) = some i := by
  obtain ⟨hi, rfl⟩ := List.getElem?_eq_some_iff.1 hz
  refine List.findIdx?_eq_some_iff_getElem.2 ⟨hi, hc, fun j hj => ?_⟩
  rw [hno j Z[j] hj (List.getElem?_eq_getElem _)]; decide
 rw [wtsZ, this]
theorem wtsZ_cases (Z : List Oz) (id : Int) : (wtsZ Z id = -1 ∧ obHas (Z.map obF) id = false) ∨ ∃ (i : Nat) (z : Oz), wtsZ Z id = i ∧ Z[i]? = some z ∧ z.l.contains id = true ∧ obHas (Z.map obF) id = true := by
 have hany : obHas (Z.map obF) id = Z.any fun z => z.l.contains id := by rw [obHas, List.any_map]; rfl
 rw [hany]
 unfold wtsZ
 cases h : Z.findIdx? (fun z => z.l.contains id) with
 | none =>
  refine .inl ⟨rfl, ?_⟩
  rw [List.any_eq_false]
  intro z hz
  rw [List.findIdx?_eq_none_iff.1 h z hz]; decide
 | some i =>
  obtain ⟨h1, h2, _⟩ := List.findIdx?_eq_some_iff_getElem.1 h
  exact .inr ⟨i, Z[i], rfl, List.getElem?_eq_getElem h1, h2, List.any_eq_true.2 ⟨Z[i], List.getElem_mem h1, h2⟩⟩
set_option maxRecDepth 100000 in
theorem waits_walk (H : List SP) (b : Nat) (Z : List Oz) (id : Int) (hZ : Z.length = 4) (hl : ∀ z ∈ Z, z.l.length ≤ 1000000) : ∀ w, Sat w (row obE 120 (.slice (some ⟨b, 0, none⟩) 4 4) Z :: (obL Z ++ H)) → Calls Tryz.prog 87 #[vp b, vi id] w (Ret (ι := Unit) (fun _ => vi (wtsZ Z id)) fun _ => row obE 120 (.slice (some ⟨b, 0, none⟩) 4 4) Z :: (obL Z ++ H)) := by
 refine enterG (fn := Tryz.f87) 20 [vp b, vi id] Tryz.func87 (by kernel_rfl) (by kernel_rfl) (by kernel_rfl) ?_
 refine Xq (Xg 1 (Xe [(0,vp b), (1,vi id), (4,vi 0)] ?_ 1))
 refine scopeG 0 (fun (u : Nat) => [(0, vp b), (1, vi id), (5, vi u)]) (fun _ => (row obE 120 (.slice (some ⟨b, 0, none⟩) 4 4) Z :: (obL Z ++ H))) (fun k (u : Nat) => k + u = 4 ∧ ∀ v z, v < u → Z[v]? = some z → z.l.contains id = false) (by kernel_rfl) (by kernel_rfl) (by kernel_rfl) (by kernel_rfl) ?_ ?_
 ·skip
  rintro k u ⟨hku, hno⟩ K hK
  refine Xq (Xq (Xg 2 (Xe [(0,vp b), (1,vi id), (5,vi u), (7,.bool ((u : Int) == 4))] ?_ 2)))
  refine Xc ((u : Int) == 4) (fun h1 => ?_) (fun h1 => ?_)
  ·skip
   have hu0 : (u : Int) = 4 := eq_of_beq h1
   refine Xq (Xg 1 (Xe [(0,vp b), (1,vi id), (5,vi u), (4,vi (-1))] ?_ 1))
   refine Xv (thenV (jumpV (Y0 (vi (-1)) (fun w hs => ?_))))
   exact ⟨(), by rw [wtsZ_none fun z hz => by obtain ⟨v, hv⟩ := List.getElem?_of_mem hz; exact hno v z (by have := (List.getElem?_eq_some_iff.1 hv).1; omega) hv], hs⟩
  ·skip
   have hu0 : ¬ (u : Int) = 4 := beq_eq_false_iff_ne.1 h1
   obtain ⟨z, hz⟩ : ∃ z, Z[u]? = some z := ⟨_, List.getElem?_eq_getElem (by omega)⟩
   refine Xk (Xq (Xq (Xg 9 (Xr [(0,vp b), (1,vi id), (5,vi u), (9,vi u), (11,vp b)] ?_ 5 4))))
   refine Xs (yldS (Xj 118 (.tmp 11) (.tmp 9) b 0 4 u 2 117 (u : Int) 12 Tryz.underlying118)) (fun _ => ?_) 4
   refine Xl [(0,vp b), (1,vi id), (5,vi u), (14,.slice z.a z.l.length z.k), (15,vi id)] [(⟨b, 0 + u * 2 + 1, none⟩, .slice z.a z.l.length z.k)] (hasC (rowCell (E := obE) (xs := Z) 0 rfl (x := z) hz (j := 1) rfl) has0) ?_ 1 3
   refine Xs (Xa (some 16) (fun _ => .bool (z.l.contains id)) (contains_walk (row obE 120 (.slice (some ⟨b, 0, none⟩) 4 4) Z :: (obL Z ++ H)) ⟨z.a, z.k, z.l⟩ (obL_kr hz _ _) (hl z (List.mem_of_getElem? hz)) id)) (fun _ => ?_) 0
   refine endR ?_
   refine Xc (z.l.contains id) (fun h2 => ?_) (fun h2 => ?_)
   ·skip
    refine Xq (Xg 2 (Xe [(0,vp b), (1,vi id), (5,vi u), (4,vi u)] ?_ 2))
    refine Xv (thenV (jumpV (Y0 (vi u) (fun w hs => ?_))))
    exact ⟨(), by rw [wtsZ_some hz h2 hno], hs⟩
   ·skip
    refine Xk (Xq (Xg 3 (Xe [(0,vp b), (1,vi id), (5,vi (IntKind.i64.wrap ((u : Int) + 1)))] ?_ 3)))
    refine gotoR 0 (by kernel_rfl) (by kernel_rfl) ?_
    rw [show IntKind.i64.wrap ((u : Int) + 1) = ((u : Int) + 1) by rw [w64 (by omega) (by omega)]]
    refine Xp [(0,vp b), (1,vi id), (5,vi ((u : Int) + 1))] ?_
    exact jumpR (hK (k - 1) (u + 1) (by omega) ⟨by omega, fun v y hv hy => by rcases Nat.lt_succ_iff_lt_or_eq.1 hv with hv | rfl; exact hno v y hv hy; rw [hz] at hy; cases hy; exact h2⟩)
 ·skip
  intro K hK
  refine Xq (Xg 1 (Xe [(0,vp b), (1,vi id), (4,vi 0), (5,vi 0)] ?_ 1))
  refine Xq ?_
  refine labelR (by kernel_rfl) ?_
  refine Xp [(0,vp b), (1,vi id), (5,vi 0)] ?_
  refine codeR (by kernel_rfl) (hK 4 0 ⟨by omega, fun v z h => by omega⟩)
end Go.Proofs.YtlhjibkkkhgonaaGreatDoor
set_option linter.unusedVariables false
set_option linter.unusedSimpArgs false
namespace Go.Proofs.YtlhjibkkkhgonaaGreatDoor
open Go.RowKit G
set_option maxRecDepth 100000 in
theorem obis_walk (H : List SP) (j : Int) : ∀ w, Sat w H → Calls Tryz.prog 92 #[vi j] w (Ret (ι := Unit) (fun _ => .bool (isOb j)) fun _ => H) := by
 refine enterG (fn := Tryz.f92) 9 [vi j] Tryz.func92 (by kernel_rfl) (by kernel_rfl) (by kernel_rfl) ?_
 refine Xq (Xg 1 (Xe [(0,vi j), (2,.bool false)] ?_ 1))
 refine Xq (Xg 7 (Xr [(0,vi j), (2,.bool false), (5,.bool (decide (j ≥ 0)))] ?_ 4 3))
 refine (Xs0 1 3 [(2,.bool false), (8,.bool ((decide (j ≥ 0)) && (decide (j < 4))))] ?_ ?_ : RT _ _ _ _ _ _ 4 _)
 ·cases hg3 : (decide (j ≥ 0)) with
  | true =>
   refine Xe [(2,.bool false), (8,.bool (decide (j < 4)))] ?_ 3
   refine Xp [(2,.bool false), (8,.bool (true && (decide (j < 4))))] ?_
   exact midR () rfl rfl
  | false =>
   refine Xe [(2,.bool false), (8,.bool false)] ?_ 3
   refine Xp [(2,.bool false), (8,.bool (false && (decide (j < 4))))] ?_
   exact midR () rfl rfl
 refine Xe [(2,.bool ((decide (j ≥ 0)) && (decide (j < 4))))] ?_ 1
 refine Xv (Y0 (.bool ((decide (j ≥ 0)) && (decide (j < 4)))) (fun w hs => ?_))
 exact ⟨(), rfl, hs⟩
theorem isOb_nat {j : Int} (h : isOb j = true) : ∃ u : Nat, u < 4 ∧ j = (u : Int) := by
 simp [isOb] at h
 exact ⟨j.toNat, by omega, by omega⟩
theorem obL_c {Z : List Oz} {u : Nat} {z : Oz} (hz : Z[u]? = some z) (c : Int) : obL (Z.set u { z with c := c }) = obL Z := by
 refine List.ext_getElem? fun i => ?_
 rw [obL, obL, List.getElem?_map, List.getElem?_map, List.getElem?_set]
 split
 ·rename_i h
  subst h
  obtain ⟨h1, h2⟩ := List.getElem?_eq_some_iff.1 hz
  rw [if_pos h1, hz]; rfl
 ·rfl
theorem obAt_Z {Z : List Oz} {u : Nat} {z : Oz} (hz : Z[u]? = some z) : obAt (Z.map obF) (u : Int) = (z.c, z.l) := by
 rw [obAt, List.getD_eq_getElem?_getD, Int.toNat_natCast, List.getElem?_map, hz]; rfl
set_option maxHeartbeats 1000000 in
set_option maxRecDepth 100000 in
theorem wait_walk (H : List SP) (b : Nat) (Z : List Oz) (id j : Int) (hZ : Z.length = 4) (hl : ∀ z ∈ Z, z.l.length ≤ 1000000) (hc : ∀ z ∈ Z, 0 ≤ z.c ∧ z.c ≤ 255) : ∀ w, Sat w (row obE 120 (.slice (some ⟨b, 0, none⟩) 4 4) Z :: (obL Z ++ H)) → Calls Tryz.prog 59 #[vp b, vi id, vi j] w (Ret (ι := { Z' : List Oz // Z'.map obF = (obWait (Z.map obF) id j).2 ∧ Z'.length = 4 }) (fun _ => .tuple #[.bool (obWait (Z.map obF) id j).1.1, pqErr (obWait (Z.map obF) id j).1.2]) fun x => row obE 120 (.slice (some ⟨b, 0, none⟩) 4 4) x.1 :: (obL x.1 ++ H)) := by
 refine enterG (fn := Tryz.f59) 56 [vp b, vi id, vi j] Tryz.func59 (by kernel_rfl) (by kernel_rfl) (by kernel_rfl) ?_
 refine Xq (Xg 2 (Xe [(0,vp b), (1,vi id), (2,vi j), (6,.bool false), (7,.nilIface)] ?_ 2))
 refine Xq (Xb 0 (Xq (Xg 4 (Xr [(0,vp b), (1,vi id), (2,vi j), (6,.bool false), (7,.nilIface), (9,vi j)] ?_ 3 1))))
 refine Xs (Xa (some 10) (fun _ => .bool (isOb j)) (obis_walk _ j)) (fun _ => ?_) 2
 refine Xe [(0,vp b), (1,vi id), (2,vi j), (6,.bool false), (7,.nilIface), (8,.bool (!(isOb j)))] ?_ 2
 cases hj : (isOb j) with
 | true =>
  refine Xc false (fun h => by cases h) (fun _ => ?_)
  refine Xq (Xg 5 (Xr [(0,vp b), (1,vi id), (2,vi j), (6,.bool false), (7,.nilIface), (14,vp b), (15,vi id)] ?_ 3 2))
  refine Xs (Xa (some 16) (fun _ => vi (wtsZ Z id)) (waits_walk _ b Z id hZ hl)) (fun _ => ?_) 2
  refine Xe [(0,vp b), (1,vi id), (2,vi j), (6,.bool false), (7,.nilIface), (13,.bool (decide ((wtsZ Z id) ≥ 0)))] ?_ 2
  obtain ⟨u, hu4, rfl⟩ := isOb_nat hj
  obtain ⟨z, hz⟩ : ∃ z, Z[u]? = some z := ⟨_, List.getElem?_eq_getElem (by omega)⟩
  have hzm := List.mem_of_getElem? hz
  have hat := obAt_Z hz
  refine Xc (decide ((wtsZ Z id) ≥ 0)) (fun h2 => ?_) (fun h2 => ?_)
  ·skip
   have hh : obHas (Z.map obF) id = true := by rcases wtsZ_cases Z id with ⟨e, _⟩ | ⟨i, y, e, _, _, r⟩; rw [e] at h2; simp at h2; exact r
   have he : obWait (Z.map obF) id (u : Int) = ((false, 20), Z.map obF) := by rw [obWait, if_neg (by rw [hj]; simp), if_pos hh]
   refine Xq (Xg 3 (Xe [(0,vp b), (1,vi id), (2,vi u), (6,.bool false), (7,.iface 66 (vi 20))] ?_ 3))
   refine Xv (blockV (thenV (Y0 (.tuple #[.bool false, .iface 66 (vi 20)]) (fun w hs => ?_))))
   exact ⟨⟨Z, by rw [he], hZ⟩, by show Ending.returned _ = Ending.returned (.tuple #[.bool (obWait (Z.map obF) id (u : Int)).1.1, pqErr (obWait (Z.map obF) id (u : Int)).1.2]); rw [he]; rfl, hs⟩
  ·skip
   have hh : ¬ obHas (Z.map obF) id = true := by rcases wtsZ_cases Z id with ⟨_, r⟩ | ⟨i, y, e, _⟩; rw [r]; simp; rw [e] at h2; simp at h2
   refine Xq (Xg 9 (Xr [(0,vp b), (1,vi id), (2,vi u), (6,.bool false), (7,.nilIface), (21,vi u), (23,vp b)] ?_ 5 4))
   refine Xs (yldS (Xj 118 (.tmp 23) (.tmp 21) b 0 4 u 2 117 (u : Int) 24 Tryz.underlying118)) (fun _ => ?_) 4
   refine Xm [(0,vp b), (1,vi id), (2,vi u), (6,.bool false), (7,.nilIface), (19,.bool (decide (z.c > 0)))] [(⟨b, 0 + u * 2, none⟩, vi z.c)] (hasC (rowCell (E := obE) (xs := Z) 0 rfl (x := z) hz (j := 0) rfl) has0) ?_ 4
   refine Xc (decide (z.c > 0)) (fun h3 => ?_) (fun h3 => ?_)
   ·skip
    have hcz := hc z hzm
    have h3' : z.c > 0 := by simpa using h3
    have he : obWait (Z.map obF) id (u : Int) = ((true, 0), (Z.map obF).set u (z.c - 1, z.l)) := by rw [obWait, if_neg (by rw [hj]; simp), if_neg hh, hat, if_pos h3', Int.toNat_natCast]
    refine Xq (Xy0 0 [12] 13 ?_)
    refine Xt [0, 1, 2, 3, 8, 9] [(0,vp b), (1,vi id), (2,vi u), (6,.bool false), (7,.nilIface), (29,vi u), (31,vp b), (37,vp b)] [] has0 ?_
    refine Xu 4 (Xj 118 (.tmp 31) (.tmp 29) b 0 4 u 2 117 (u : Int) 32 Tryz.underlying118) ?_
    refine Xt [5, 6, 7] [(0,vp b), (1,vi id), (2,vi u), (6,.bool false), (7,.nilIface), (29,vi u), (37,vp b), (35,vi (IntKind.i64.wrap (z.c - 1)))] [(⟨b, 0 + u * 2, none⟩, vi z.c)] (hasC (rowCell (E := obE) (xs := Z) 0 rfl (x := z) hz (j := 0) rfl) has0) ?_
    refine Xu 10 (Xj 118 (.tmp 37) (.tmp 29) b 0 4 u 2 117 (u : Int) 38 Tryz.underlying118) ?_
    refine Xt [11] [(0,vp b), (1,vi id), (2,vi u), (6,.bool false), (7,.nilIface), (35,vi (IntKind.i64.wrap (z.c - 1))), (39,.pointer (some ⟨b, 0 + u * 2, none⟩))] [] has0 ?_
    rw [show IntKind.i64.wrap (z.c - 1) = (z.c - 1) by rw [w64 (by omega) (by omega)]]
    refine Xo 12 (setS (E := obE) (J := u) (j := 0) z ({ z with c := z.c - 1 }) (.int .i64 (z.c - 1)) ⟨b, 0 + u * 2, none⟩ (fun _ => by kernel_rfl) (by first | rfl | simp) (hz) (rfl) (by decide)) (fun _ => ?_)
    refine Xd (Xq (Xg 2 (Xe [(0,vp b), (1,vi id), (2,vi u), (6,.bool true), (7,.nilIface)] ?_ 2)))
    refine Xv (blockV (thenV (Y0 (.tuple #[.bool true, .nilIface]) (fun w hs => ?_))))
    exact ⟨⟨Z.set u { z with c := z.c - 1 }, by rw [he, List.map_set]; rfl, by rw [List.length_set, hZ]⟩, by show Ending.returned _ = Ending.returned (.tuple #[.bool (obWait (Z.map obF) id (u : Int)).1.1, pqErr (obWait (Z.map obF) id (u : Int)).1.2]); rw [he]; rfl, by simp only; rw [obL_c hz]; exact hs⟩
   ·skip
    have h3' : ¬ z.c > 0 := by simpa using h3
    have he : obWait (Z.map obF) id (u : Int) = ((false, 0), (Z.map obF).set u (z.c, z.l ++ [id])) := by rw [obWait, if_neg (by rw [hj]; simp), if_neg hh, hat, if_neg h3', Int.toNat_natCast]
    refine PT.sat (fun w hs => obPick hz hs) ?_
    refine Xk (Xq (Xy0 1 [16] 17 ?_))
    refine Xt [0, 1, 2, 3, 4, 5, 9, 12, 13] [(6,.bool false), (7,.nilIface), (41,vi u), (43,vi u), (45,vp b), (49,vi id), (53,vp b)] [] has0 ?_
    refine Xu 6 (Xj 118 (.tmp 45) (.tmp 43) b 0 4 u 2 117 (u : Int) 46 Tryz.underlying118) ?_
    refine Xt [7, 8] [(6,.bool false), (7,.nilIface), (41,vi u), (49,vi id), (53,vp b), (48,.slice z.a z.l.length z.k)] [(⟨b, 0 + u * 2 + 1, none⟩, .slice z.a z.l.length z.k)] (hasC (rowCell (E := obE) (xs := Z) 0 rfl (x := z) hz (j := 1) rfl) has0) ?_
    refine Xo 10 (Xn 3 [vi id] (some 50) (fun b => .slice (some ⟨b, 0, none⟩) 1 1)) (fun b1 => ?_)
    refine DT.pick 1 rfl ?_
    refine Xo 11 (Xf (E := (kE .i64)) 50 (.tmp 48) (.tmp 50) z.a z.k z.l [id] (.slice (some ⟨b1, 0, none⟩) 1 1) 51 Tryz.underlying50 (etyIn) (blkRd (x := id) 1 rfl) (by have := hl z hzm; simp; omega)) (fun r2 => ?_)
    refine Xu 14 (Xj 118 (.tmp 53) (.tmp 41) b 0 4 u 2 117 (u : Int) 54 Tryz.underlying118) ?_
    refine Xt [15] [(51,.slice r2.1 ((z.l ++ [id]).length) r2.2), (6,.bool false), (7,.nilIface), (55,.pointer (some ⟨b, 0 + u * 2 + 1, none⟩))] [] has0 ?_
    refine DT.pick 2 rfl ?_
    refine Xo 16 (setS (E := obE) (J := u) (j := 1) z ({ z with a := r2.1, k := r2.2, l := z.l ++ [id] }) (.slice r2.1 ((z.l ++ [id]).length) r2.2) ⟨b, 0 + u * 2 + 1, none⟩ (fun _ => by kernel_rfl) (by first | rfl | simp) (hz) (rfl) (by decide)) (fun _ => ?_)
    refine Xd (Xq (Xg 2 (Xe [(6,.bool false), (7,.nilIface)] ?_ 2)))
    refine Xv (Y0 (.tuple #[.bool false, .nilIface]) (fun w hs => ?_))
    exact ⟨⟨Z.set u { z with a := r2.1, k := r2.2, l := z.l ++ [id] }, by rw [he, List.map_set]; rfl, by rw [List.length_set, hZ]⟩, by show Ending.returned _ = Ending.returned (.tuple #[.bool (obWait (Z.map obF) id (u : Int)).1.1, pqErr (obWait (Z.map obF) id (u : Int)).1.2]); rw [he]; rfl, obPut (Z := Z) (j := u) (by omega) { z with a := r2.1, k := r2.2, l := z.l ++ [id] } (P := row obE 120 (.slice (some ⟨b, 0, none⟩) 4 4) (Z.set u { z with a := r2.1, k := r2.2, l := z.l ++ [id] })) (H := H) (SatF.swap (Sat.erase 2 rfl hs))⟩
 | false =>
  have he : obWait (Z.map obF) id j = ((false, 10), Z.map obF) := by rw [obWait, if_pos hj]
  refine Xc true (fun _ => ?_) (fun h => by cases h)
  refine Xq (Xg 3 (Xe [(0,vp b), (1,vi id), (2,vi j), (6,.bool false), (7,.iface 66 (vi 10))] ?_ 3))
  refine Xv (blockV (thenV (Y0 (.tuple #[.bool false, .iface 66 (vi 10)]) (fun w hs => ?_))))
  exact ⟨⟨Z, by rw [he], hZ⟩, by show Ending.returned _ = Ending.returned (.tuple #[.bool (obWait (Z.map obF) id j).1.1, pqErr (obWait (Z.map obF) id j).1.2]); rw [he]; rfl, hs⟩
end Go.Proofs.YtlhjibkkkhgonaaGreatDoor
set_option linter.unusedVariables false
set_option linter.unusedSimpArgs false
namespace Go.Proofs.YtlhjibkkkhgonaaGreatDoor
open Go.RowKit G
set_option maxHeartbeats 1000000 in
set_option maxRecDepth 100000 in
theorem signal_walk (H : List SP) (b : Nat) (Z : List Oz) (j : Int) (hZ : Z.length = 4) (hl : ∀ z ∈ Z, z.l.length ≤ 1000000) (hc : ∀ z ∈ Z, 0 ≤ z.c ∧ z.c ≤ 255) : ∀ w, Sat w (row obE 120 (.slice (some ⟨b, 0, none⟩) 4 4) Z :: (obL Z ++ H)) → Calls Tryz.prog 61 #[vp b, vi j] w (Ret (ι := { Z' : List Oz // Z'.map obF = (obSig (Z.map obF) j).2 ∧ Z'.length = 4 }) (fun _ => .tuple #[vi (obSig (Z.map obF) j).1.1, .bool (obSig (Z.map obF) j).1.2.1, pqErr (obSig (Z.map obF) j).1.2.2]) fun x => row obE 120 (.slice (some ⟨b, 0, none⟩) 4 4) x.1 :: (obL x.1 ++ H)) := by
 refine enterG (fn := Tryz.f61) 48 [vp b, vi j] Tryz.func61 (by kernel_rfl) (by kernel_rfl) (by kernel_rfl) ?_
 refine Xq (Xg 3 (Xe [(0,vp b), (1,vi j), (4,vi 0), (5,.bool false), (6,.nilIface)] ?_ 3))
 refine Xq (Xq (Xg 3 (Xr [(0,vp b), (1,vi j), (4,vi 0), (5,.bool false), (6,.nilIface), (9,vi j)] ?_ 2 1)))
 refine Xs (Xa (some 10) (fun _ => .bool (isOb j)) (obis_walk _ j)) (fun _ => ?_) 1
 refine Xe [(0,vp b), (1,vi j), (4,vi 0), (5,.bool false), (6,.nilIface), (11,.bool (!(isOb j)))] ?_ 1
 cases hj : (isOb j) with
 | true =>
  obtain ⟨u, hu4, rfl⟩ := isOb_nat hj
  obtain ⟨z, hz⟩ : ∃ z, Z[u]? = some z := ⟨_, List.getElem?_eq_getElem (by omega)⟩
  have hzm := List.mem_of_getElem? hz
  have hat := obAt_Z hz
  have hcz := hc z hzm
  refine Xc false (fun h => by cases h) (fun _ => ?_)
  refine Xk (Xq (Xg 6 (Xr [(4,vi 0), (5,.bool false), (6,.nilIface), (14,vi u), (16,vp b)] ?_ 2 4)))
  refine Xs (yldS (Xj 118 (.tmp 16) (.tmp 14) b 0 4 u 2 117 (u : Int) 17 Tryz.underlying118)) (fun _ => ?_) 1
  refine Xe [(4,vi 0), (5,.bool false), (6,.nilIface), (7,.pointer (some ⟨b, 0 + u * 2, none⟩))] ?_ 1
  refine Xq (Xq (Xg 6 (Xm [(4,vi 0), (5,.bool false), (6,.nilIface), (7,.pointer (some ⟨b, 0 + u * 2, none⟩)), (23,.bool ((z.l.length : Int) == 0))] [(⟨b, 0 + u * 2 + 1, none⟩, .slice z.a z.l.length z.k)] (hasC (rowCell (E := obE) (xs := Z) 0 rfl (x := z) hz (j := 1) rfl) has0) ?_ 6)))
  refine Xc ((z.l.length : Int) == 0) (fun h2 => ?_) (fun h2 => ?_)
  ·skip
   have hl0 : z.l = [] := List.eq_nil_of_length_eq_zero (by have := eq_of_beq h2; omega)
   have he : obSig (Z.map obF) (u : Int) = ((0, false, 0), (Z.map obF).set u (mnI (z.c + 1) 255, [])) := by rw [obSig, if_neg (by rw [hj]; simp), hat, hl0]; simp
   refine Xq (Xg 10 (Xl [(4,vi 0), (5,.bool false), (6,.nilIface), (7,.pointer (some ⟨b, 0 + u * 2, none⟩)), (30,vi (mnI (IntKind.i64.wrap (z.c + 1)) 255)), (32,.pointer (some ⟨b, 0 + u * 2, none⟩))] [(⟨b, 0 + u * 2, none⟩, vi z.c)] (hasC (rowCell (E := obE) (xs := Z) 0 rfl (x := z) hz (j := 0) rfl) has0) ?_ 1 9))
   rw [show IntKind.i64.wrap (z.c + 1) = (z.c + 1) by rw [w64 (by omega) (by omega)]]
   refine Xs (setS (E := obE) (J := u) (j := 0) z ({ z with c := mnI (z.c + 1) 255 }) (.int .i64 (mnI (z.c + 1) 255)) ⟨b, 0 + u * 2, none⟩ (fun _ => by kernel_rfl) (by first | rfl | simp) (hz) (rfl) (by decide)) (fun _ => ?_) 0
   refine endR ?_
   refine Xq (Xg 3 (Xe [(4,vi 0), (5,.bool false), (6,.nilIface), (7,.pointer (some ⟨b, 0 + u * 2, none⟩))] ?_ 3))
   refine Xv (thenV (Y0 (.tuple #[vi 0, .bool false, .nilIface]) (fun w hs => ?_)))
   exact ⟨⟨Z.set u { z with c := mnI (z.c + 1) 255 }, by rw [he, List.map_set]; simp [obF, hl0], by rw [List.length_set, hZ]⟩, by show Ending.returned _ = Ending.returned (.tuple #[.int .i64 (obSig (Z.map obF) (u : Int)).1.1, .bool (obSig (Z.map obF) (u : Int)).1.2.1, pqErr (obSig (Z.map obF) (u : Int)).1.2.2]); rw [he]; rfl, by simp only; rw [obL_c hz]; exact hs⟩
  ·skip
   have hl0 : ¬ (z.l.length : Int) = 0 := beq_eq_false_iff_ne.1 h2
   have hlz := hl z hzm
   obtain ⟨zc, za, zk, zl⟩ := z
   dsimp only at hl0 hlz hat
   dsimp only
   obtain ⟨x, r, hxr⟩ : ∃ x r, zl = x :: r := List.exists_cons_of_length_pos (by omega)
   have hx0 : zl[0]? = some x := by rw [hxr]; rfl
   have he : obSig (Z.map obF) (u : Int) = ((x, true, 0), (Z.map obF).set u (zc, zl.take 0 ++ zl.drop (0 + 1))) := by rw [obSig, if_neg (by rw [hj]; simp), hat, hxr]; simp
   refine PT.know (KR.isSome (obL_kr hz _ _) (List.ne_nil_of_length_pos (by show 0 < zl.length; omega))) ?_
   rintro ⟨sb, so, hA⟩
   dsimp only at hA
   subst hA
   refine PT.sat (fun w hs => obPick hz hs) ?_
   refine Xk (Xq (Xg 7 (Xl [(4,vi 0), (5,.bool false), (6,.nilIface), (7,.pointer (some ⟨b, 0 + u * 2, none⟩)), (36,.slice (some ⟨sb, so, none⟩) zl.length zk)] [(⟨b, 0 + u * 2 + 1, none⟩, .slice (some ⟨sb, so, none⟩) zl.length zk)] (hasC (rowCell (E := obE) (xs := Z) 1 rfl (x := ⟨zc, some ⟨sb, so, none⟩, zk, zl⟩) hz (j := 1) rfl) has0) ?_ 3 4)))
   refine Xs (yldS (Xi 50 (.tmp 36) (.const (.int .i64 0)) sb so zl.length zk 0 1 3 0 37 Tryz.underlying50)) (fun _ => ?_) 2
   refine Xm [(4,vi 0), (5,.bool false), (6,.nilIface), (7,.pointer (some ⟨b, 0 + u * 2, none⟩)), (8,vi x)] [(⟨sb, so + 0 * 1, none⟩, vi x)] (hasC ((rowKRat (xs := zl) (A := some ⟨sb, so, none⟩) (k := zk) (E := kE .i64) (T := 3) 0 rfl).cell rfl (i := 0) (x := x) hx0 (j := 0) rfl) has0) ?_ 2
   refine Xq (Xg 9 (Xl [(4,vi 0), (5,.bool false), (6,.nilIface), (8,vi x), (39,.pointer (some ⟨b, 0 + u * 2, none⟩)), (43,.slice (some ⟨sb, so, none⟩) zl.length zk)] [(⟨b, 0 + u * 2 + 1, none⟩, .slice (some ⟨sb, so, none⟩) zl.length zk)] (hasC (rowCell (E := obE) (xs := Z) 1 rfl (x := ⟨zc, some ⟨sb, so, none⟩, zk, zl⟩) hz (j := 1) rfl) has0) ?_ 4 5))
   refine Xs (Xa (some 44) (fun (r : Option Addr × Nat) => .slice r.1 (zl.take 0 ++ zl.drop (0 + 1)).length r.2) (delI_walk (row obE 120 (.slice (some ⟨b, 0, none⟩) 4 4) Z :: (obX Z u ++ H)) (.slice (some ⟨sb, so, none⟩) zl.length zk) zl 0 (by omega) (by omega))) (fun (r : Option Addr × Nat) => ?_) 3
   refine Xr [(44,.slice r.1 ((zl.take 0 ++ zl.drop (0 + 1)).length) r.2), (4,vi 0), (5,.bool false), (6,.nilIface), (8,vi x), (46,.pointer (some ⟨b, 0 + u * 2 + 1, none⟩))] ?_ 1 2
   refine Xh0 ?_ 1 1
   refine Xs (setS (E := obE) (J := u) (j := 1) ⟨zc, some ⟨sb, so, none⟩, zk, zl⟩ ⟨zc, r.1, r.2, zl.take 0 ++ zl.drop (0 + 1)⟩ (.slice r.1 ((zl.take 0 ++ zl.drop (0 + 1)).length) r.2) ⟨b, 0 + u * 2 + 1, none⟩ (fun _ => by kernel_rfl) (by first | rfl | simp) (hz) (rfl) (by decide)) (fun _ => ?_) 0
   refine endR ?_
   refine Xq (Xg 4 (Xe [(4,vi x), (5,.bool true), (6,.nilIface)] ?_ 4))
   refine Xv (Y0 (.tuple #[vi x, .bool true, .nilIface]) (fun w hs => ?_))
   exact ⟨⟨Z.set u ⟨zc, r.1, r.2, zl.take 0 ++ zl.drop (0 + 1)⟩, by rw [he, List.map_set]; rfl, by rw [List.length_set, hZ]⟩, by show Ending.returned _ = Ending.returned (.tuple #[.int .i64 (obSig (Z.map obF) (u : Int)).1.1, .bool (obSig (Z.map obF) (u : Int)).1.2.1, pqErr (obSig (Z.map obF) (u : Int)).1.2.2]); rw [he]; rfl, obPut (Z := Z) (j := u) (by omega) ⟨zc, r.1, r.2, zl.take 0 ++ zl.drop (0 + 1)⟩ (P := row obE 120 (.slice (some ⟨b, 0, none⟩) 4 4) (Z.set u ⟨zc, r.1, r.2, zl.take 0 ++ zl.drop (0 + 1)⟩)) (H := H) (SatF.swap hs)⟩
 | false =>
  have he : obSig (Z.map obF) j = ((0, false, 10), Z.map obF) := by rw [obSig, if_pos hj]
  refine Xc true (fun _ => ?_) (fun h => by cases h)
  refine Xq (Xg 4 (Xe [(0,vp b), (1,vi j), (4,vi 0), (5,.bool false), (6,.iface 66 (vi 10))] ?_ 4))
  refine Xv (thenV (Y0 (.tuple #[vi 0, .bool false, .iface 66 (vi 10)]) (fun w hs => ?_)))
  exact ⟨⟨Z, by rw [he], hZ⟩, by show Ending.returned _ = Ending.returned (.tuple #[.int .i64 (obSig (Z.map obF) j).1.1, .bool (obSig (Z.map obF) j).1.2.1, pqErr (obSig (Z.map obF) j).1.2.2]); rw [he]; rfl, hs⟩
end Go.Proofs.YtlhjibkkkhgonaaGreatDoor
set_option linter.unusedVariables false
set_option linter.unusedSimpArgs false
namespace Go.Proofs.YtlhjibkkkhgonaaGreatDoor
open Go.RowKit G
namespace G
section
variable {α : Type} {E : Enc α} {T : TypeId} {H : List SP} {P : Program} {n : Nat} {L : List (Nat × Value)} {c : Code}
/-- x[l:h]. -/
theorem slcY {S : World → Prop} {i : Nat} (t : TypeId) (x : Operand) (lo hi : Option Operand) (A : Option Addr) (len cap l h sz : Nat) (e : TypeId) (d : Option Tmp) (hg : ∀ rest, goes n c i L rest = true) (hd : (opAt c i).dst = d) (hop : (opAt c i).op = .slice t x lo hi none)
    (hx : ∀ rest, evalL L rest x = .slice A len cap) (hl : (lo = none ∧ l = 0) ∨ ∃ o k j, lo = some o ∧ (∀ rest, evalL L rest o = .int k j) ∧ j = (l : Int)) (hh : (hi = none ∧ h = len) ∨ ∃ o k j, hi = some o ∧ (∀ rest, evalL L rest o = .int k j) ∧ j = (h : Int))
    (hu : P.underlying t = some (.slice e)) (hsz : (P.info? e).map (·.size) = some sz) (h1 : l ≤ h) (h2 : h ≤ cap) : Yld P n L S c i d (.slice (cutA A cap l sz) (h - l) (cap - l)) := by
  refine ⟨hg, hd, fun rest w _ _ => ?_⟩
  have hi' : ∃ q, P.info? e = some q ∧ q.size = sz := by
    cases hq : P.info? e with
    | none => rw [hq] at hsz; cases hsz
    | some q => rw [hq] at hsz; exact ⟨q, rfl, by simpa using hsz⟩
  obtain ⟨q, hq, hqs⟩ := hi'
  unfold execOp
  rcases hl with ⟨rfl, rfl⟩ | ⟨o, k, j, rfl, ho, rfl⟩ <;> rcases hh with ⟨rfl, rfl⟩ | ⟨o', k', j', rfl, ho', rfl⟩
  · simp only [hop, Option.map_none, hx rest]
    simp [cutA, Instr.sliceAt, Instr.slice, Instr.sliceBounds, Instr.sliceBound, asIntOf, run_underlying hu, sizeOf, typeInfo, hq, hqs, h1, h2]
  · simp only [hop, Option.map_none, Option.map_some, hx rest, ho' rest]
    simp [cutA, Instr.sliceAt, Instr.slice, Instr.sliceBounds, Instr.sliceBound, asIntOf, run_underlying hu, sizeOf, typeInfo, hq, hqs, h1, h2]
  · simp only [hop, Option.map_none, Option.map_some, hx rest, ho rest]
    simp [cutA, Instr.sliceAt, Instr.slice, Instr.sliceBounds, Instr.sliceBound, asIntOf, run_underlying hu, sizeOf, typeInfo, hq, hqs, h1, h2]
  · simp only [hop, Option.map_none, Option.map_some, hx rest, ho rest, ho' rest]
    simp [cutA, Instr.sliceAt, Instr.slice, Instr.sliceBounds, Instr.sliceBound, asIntOf, run_underlying hu, sizeOf, typeInfo, hq, hqs, h1, h2]
theorem subRd {A : Option Addr} {cap : Nat} {xs : List α} (h : KR H E ⟨A, cap, xs⟩) {l hh : Nat} (h1 : l ≤ hh) (h2 : hh ≤ xs.length) : ∀ w, Sat w H → Rd E w (.slice (cutA A cap l E.k) (hh - l) (cap - l)) ((xs.take hh).drop l) := by
  intro w hs
  obtain ⟨ao, c', hv, a1, a2, a3, a4⟩ := h w hs
  unfold SV.v at hv
  simp only at hv
  injection hv with e1 _ e3
  subst e1 e3
  have hlen : ((xs.take hh).drop l).length = hh - l := by simp; omega
  refine ⟨cutA A cap l E.k, cap - l, by rw [hlen], by rw [hlen]; simp only at a1; omega, by omega, fun hn => ?_, fun a ha j u hu => ?_⟩
  · cases A with
    | none => obtain ⟨b1, b2⟩ := a3 rfl; simp only at b1; subst b1; exact ⟨by simp, by omega⟩
    | some a => unfold cutA at hn; split at hn <;> cases hn
  · cases A with
    | none => unfold cutA at ha; split at ha <;> cases ha
    | some a0 =>
      have hlt : j < (E.flat ((xs.take hh).drop l)).length := (List.getElem?_eq_some_iff.1 hu).1
      rw [E.flat_length, hlen] at hlt
      have hne : cap ≠ l := fun e => by
        simp only at a1
        have : hh - l = 0 := by omega
        rw [this] at hlt; omega
      unfold cutA at ha
      rw [if_neg hne] at ha
      simp only [Option.map_some, Option.some.injEq] at ha
      subst ha
      rw [add_add]
      refine a4 a0 rfl _ u ?_
      simp only
      rw [← Enc.flat_drop, List.getElem?_drop, ← Enc.flat_take, List.getElem?_take] at hu
      split at hu
      · exact hu
      · cases hu
theorem dropRd {A : Option Addr} {cap : Nat} {xs : List α} (h : KR H E ⟨A, cap, xs⟩) {l : Nat} (h1 : l ≤ xs.length) : ∀ w, Sat w H → Rd E w (.slice (cutA A cap l E.k) (xs.length - l) (cap - l)) (xs.drop l) := by
  have := subRd h h1 (Nat.le_refl _)
  rwa [List.take_length] at this
/-- Cell by cell. -/
def Chain (E : Enc α) : α → List (Nat × Value) → α → Prop
  | x, [], x' => x = x'
  | x, q :: ws, x' => ∃ y, (E.enc y = (E.enc x).set q.1 q.2 ∧ Nat.ble (q.1 + 1) E.k = true) ∧ Chain E y ws x'
/-- Cells of an element of a row are stored. -/
theorem setsS {i b o m k J : Nat} {xs : List α} (x x' : α) (ws : List (Nat × Value)) (h : ∀ rest, storesOk P n c i L rest = some (ws.map fun q => (⟨b, o + J * E.k + q.1, none⟩, q.2))) (hx : xs[J]? = some x) (he : Chain E x ws x') :
    Step (ι := Unit) P n L (row E T (.slice (some ⟨b, o, none⟩) m k) xs :: H) c i none (fun _ => undef) (fun _ => row E T (.slice (some ⟨b, o, none⟩) m k) (xs.set J x') :: H) := by
  refine skipS _ (fun rest => (storesOk_spec (h rest)).1) (storesOk_spec (h fun _ => undef)).2.1 ?_
  intro rest w _ hs
  obtain ⟨G, hG⟩ := hs.head
  have hme : m = xs.length := hG.lenEq
  subst hme
  have hlx : J < xs.length := (List.getElem?_eq_some_iff.1 hx).1
  have hks : ∀ (ws : List (Nat × Value)) (x : α), Chain E x ws x' → ∀ q ∈ ws, q.1 < E.k := by
    intro ws
    induction ws with
    | nil => intro x _ q hq; cases hq
    | cons z ws ih =>
      rintro x ⟨y, ⟨_, h2⟩, h3⟩ q hq
      rcases List.mem_cons.1 hq with rfl | hq
      · exact Nat.le_of_ble_eq_true h2
      · exact ih y h3 q hq
  refine ⟨_, writesL_run _ (storesOk_spec (h rest)).2.2 ?_, ?_⟩
  · intro q hq
    obtain ⟨z, hz, rfl⟩ := List.mem_map.1 hq
    refine ⟨?_, hG.frozen rfl _⟩
    have hr : Rd E w _ xs := hG.rd
    obtain ⟨b', o', k', hv, _, _, hc⟩ := hr.at (i := J) hlx
    cases hv
    have hjl : z.1 < (E.enc x).length := by rw [E.len]; exact hks ws x he z hz
    simp only
    rw [hc J z.1 x _ hx (List.getElem?_eq_getElem hjl)]
    rfl
  · have key : ∀ (ws : List (Nat × Value)) (w : World) (x : α) (ys : List α), Sat w (row E T (.slice (some ⟨b, o, none⟩) ys.length k) ys :: H) → ys[J]? = some x → Chain E x ws x' → Sat (setAll w (ws.map fun q => (⟨b, o + J * E.k + q.1, none⟩, q.2))) (row E T (.slice (some ⟨b, o, none⟩) ys.length k) (ys.set J x') :: H) := by
      intro ws
      induction ws with
      | nil =>
        intro w x ys hs hy he
        have e : x = x' := he
        subst e
        have : ys.set J x = ys := by
          apply List.ext_getElem?
          intro i
          rw [List.getElem?_set]
          split
          · rename_i e; subst e; rw [if_pos (List.getElem?_eq_some_iff.1 hy).1, hy]
          · rfl
        rw [this]; exact hs
      | cons q ws ih =>
        rintro w x ys hs hy ⟨y, ⟨h1, h2⟩, h3⟩
        have hjl : J < ys.length := (List.getElem?_eq_some_iff.1 hy).1
        have hs2 : Sat (w.setCell ⟨b, o + J * E.k + q.1, none⟩ q.2) (row E T (.slice (some ⟨b, o, none⟩) ys.length k) (ys.set J y) :: H) := by
          refine Sat.change hs fun G' hG' => ?_
          refine ⟨?_, G', Row.set hG' hy h1 (Nat.le_of_ble_eq_true h2), fun x hx => .inl hx⟩
          rcases hG' with ⟨hv, _, _⟩ | ⟨b', o', c', cur, hv, hF, _⟩
          · cases hv
          · cases hv
            exact Upd.setCell w _ _ (by rw [hF]; rfl)
        have hl : ys.length = (ys.set J y).length := by rw [List.length_set]
        have := ih (w.setCell ⟨b, o + J * E.k + q.1, none⟩ q.2) y (ys.set J y) (by rw [← hl]; exact hs2) (by rw [List.getElem?_set_self hjl]) h3
        rw [List.set_set, ← hl] at this
        exact this
    exact key ws w x xs hs hx he
end
end G
end Go.Proofs.YtlhjibkkkhgonaaGreatDoor
set_option linter.unusedVariables false
set_option linter.unusedSimpArgs false
namespace Go.Proofs.YtlhjibkkkhgonaaGreatDoor
open Go.RowKit G
namespace G
section
variable {α : Type} {E : Enc α} {T : TypeId} {H : List SP} {P : Program} {n : Nat} {L : List (Nat × Value)} {c : Code}
theorem row_cleared {w : World} {b o k : Nat} {cur : Array Value} {xs : List α} {zs : List Value} (hb : w.heap[b]? = some (.cells cur T (0, 0))) (hk : xs.length ≤ k) (hm : k ≤ maxLen) (hfit : o + k * E.k ≤ cur.size) (hcur : (cur.toList.drop o).take (xs.length * E.k) = E.flat xs)
    {j : Nat} (hj : j ≤ xs.length) (hz : zs.length = (xs.length - j) * E.k) : Row E T (w.setRow b (cur.toList.take (o + j * E.k) ++ zs ++ cur.toList.drop (o + j * E.k + (xs.length - j) * E.k)).toArray) (OneB b) (.slice (some ⟨b, o, none⟩) j k) (xs.take j) := by
  have hl : (xs.take j).length = j := by simp; omega
  have hjk : j * E.k ≤ xs.length * E.k := Nat.mul_le_mul_right _ hj
  have hkk : xs.length * E.k ≤ k * E.k := Nat.mul_le_mul_right _ hk
  have hsub : (xs.length - j) * E.k = xs.length * E.k - j * E.k := Nat.sub_mul _ _ _
  have hcl : cur.toList.length = cur.size := by simp
  refine .inr ⟨b, o, k, _, by rw [hl], rfl, setRow_heap w b cur _ _ _ hb, by rw [hl]; omega, hm, ?_, ?_⟩
  · simp only [List.size_toArray, List.length_append, List.length_take, List.length_drop, hcl, hz]; omega
  · rw [hl]
    show List.take (j * E.k) (List.drop o (List.take (o + j * E.k) cur.toList ++ zs ++ List.drop (o + j * E.k + (xs.length - j) * E.k) cur.toList)) = _
    rw [List.append_assoc, List.drop_append, List.length_take, hcl, show o - min (o + j * E.k) cur.size = 0 by omega, List.drop_zero, List.drop_take, show o + j * E.k - o = j * E.k by omega]
    rw [List.take_left' (by simp only [List.length_take, List.length_drop, hcl]; omega), ← E.flat_take, ← hcur, List.take_take]
    congr 1; omega
theorem clrS {z : Value} {i : Nat} (t : TypeId) (s : Operand) (b o cap j : Nat) (xs : List α) (hg : ∀ rest, goes n c i L rest = true) (hd : (opAt c i).dst = none) (hop : (opAt c i).op = .call { callee := .builtin .clear, args := #[s], argTypes := #[t] })
    (hs : ∀ rest, evalL L rest s = .slice (cutA (some ⟨b, o, none⟩) cap j E.k) (xs.length - j) (cap - j)) (ht : P.underlying t = some (.slice T)) (hE : Ety P E T z) (hj : j < xs.length)
    (h1 : ∀ u ∈ (Builtin.zeroCells z.cells (xs.length - j)).toList, u.oneCell' = true) :
    Step (ι := Unit) P n L (row E T (.slice (some ⟨b, o, none⟩) xs.length cap) xs :: H) c i none (fun _ => .tuple #[]) (fun _ => row E T (.slice (some ⟨b, o, none⟩) j cap) (xs.take j) :: H) := by
  refine valueS none _ _ hg hd ?_
  intro rest w _ hsat
  obtain ⟨G, hG⟩ := hsat.head
  have hG' := hG
  rcases hG with ⟨h0, h0', _⟩ | ⟨b', o', k', cur, hv, rfl, hb, hk, hm, hfit, hcur⟩
  · cases h0
  cases hv
  have hjk : j * E.k ≤ xs.length * E.k := Nat.mul_le_mul_right _ (by omega)
  have hkk : xs.length * E.k ≤ cap * E.k := Nat.mul_le_mul_right _ hk
  have hsub : (xs.length - j) * E.k = xs.length * E.k - j * E.k := Nat.sub_mul _ _ _
  have hzl : (Builtin.zeroCells z.cells (xs.length - j)).toList.length = (xs.length - j) * E.k := by rw [Array.length_toList, size_zeroCells, hE.zero]
  have hcl : cur.toList.length = cur.size := by simp
  have hrun := run_clear_at (P := P) (w := w) (ty := (opAt c i).type) (o := o + j * E.k) (n := xs.length - j) (c := cap - j) ht hE hb (by omega) (by omega) h1
  refine ⟨(), w.setRow b (cur.toList.take (o + j * E.k) ++ (Builtin.zeroCells z.cells (xs.length - j)).toList ++ cur.toList.drop (o + j * E.k + (xs.length - j) * E.k)).toArray, ?_, Sat.change hsat fun G' hG2 => ?_⟩
  rotate_left
  · have := Row.uniq hG2 hG'
    subst this
    exact ⟨⟨rfl, rfl, rfl, by simp [World.setRow], fun x _ hx => setRow_other w b x _ (fun e => hx e)⟩, OneB b, row_cleared hb hk hm hfit hcur (by omega) hzl, fun x hx => .inl hx⟩
  · rw [show execOp (evalL L rest) (opAt c i) = _ from rfl]
    unfold execOp
    have hc : cutA (some ⟨b, o, none⟩) cap j E.k = some ⟨b, o + j * E.k, none⟩ := by
      unfold cutA
      rw [if_neg (by omega)]
      simp [Addr.add_lit]
    simp only [hop, resolve, invoke, builtin, Sem.run_bind, Sem.run_pure, Result.andThen_ok, List.map_toArray, List.map_cons, List.map_nil, hs, hc, hrun]
end
end G
end Go.Proofs.YtlhjibkkkhgonaaGreatDoor
set_option linter.unusedVariables false
set_option linter.unusedSimpArgs false
namespace Go.Proofs.YtlhjibkkkhgonaaGreatDoor
open Go.RowKit G
set_option maxRecDepth 100000 in
theorem isid_walk (H : List SP) (n id : Int) (tb j : Nat) (hj : H[j]? = some (blk tb 3 [vi id])) : ∀ w, Sat w H → Calls Tryz.prog 89 #[vi n, vp tb] w (Ret (ι := Unit) (fun _ => .bool (n == id)) fun _ => H) := by
 refine enterG (fn := Tryz.f89) 7 [vi n, vp tb] Tryz.func89 (by kernel_rfl) (by kernel_rfl) (by kernel_rfl) ?_
 refine Xq (Xg 1 (Xe [(0,vi n), (1,vp tb), (3,.bool false)] ?_ 1))
 refine Xq (Xg 4 (Xm [(3,.bool (n == id))] [(⟨tb, 0, none⟩, vi id)] (hasC ((blkAt j hj (j := 0) rfl)) has0) ?_ 4))
 refine Xv (Y0 (.bool (n == id)) (fun w hs => ?_))
 exact ⟨(), rfl, hs⟩
set_option maxRecDepth 100000 in
theorem ixf_walk (H : List SP) (s : SV Int) (hk : KR H (kE .i64) s) (hl : s.l.length ≤ 1000000) (id : Int) (tb j : Nat) (hj : H[j]? = some (blk tb 3 [vi id])) : ∀ w, Sat w H → Calls Tryz.prog 113 #[.slice s.a s.l.length s.c, .func (.func 89) #[] #[vp tb]] w (Ret (ι := Unit) (fun _ => vi (idxL s.l id)) fun _ => H) := by
 refine enterG (fn := Tryz.f113) 19 [.slice s.a s.l.length s.c, .func (.func 89) #[] #[vp tb]] Tryz.func113 (by kernel_rfl) (by kernel_rfl) (by kernel_rfl) ?_
 refine Xq (Xg 1 (Xe [(0,.slice s.a s.l.length s.c), (1,.func (.func 89) #[] #[vp tb]), (4,vi 0)] ?_ 1))
 refine Xq (Xq (Xg 3 (Xe [(0,.slice s.a s.l.length s.c), (1,.func (.func 89) #[] #[vp tb]), (4,vi 0), (7,vi (s.l.length : Int)), (8,vi 0)] ?_ 3)))
 refine Xb 0 (Xp [(0,.slice s.a s.l.length s.c), (1,.func (.func 89) #[] #[vp tb]), (7,vi (s.l.length : Int)), (8,vi 0)] (Xl0 (fun (v : Nat) => [(0,.slice s.a s.l.length s.c), (1,.func (.func 89) #[] #[vp tb]), (7,vi (s.l.length : Int)), (8,vi v)]) (fun k (v : Nat) => k + v = s.l.length ∧ ∀ u e, u < v → s.l[u]? = some e → e ≠ id) s.l.length 0 (by kernel_rfl) ⟨by simp, fun u e h => by omega⟩ ?_))
 rintro k v ⟨hkv, hno⟩
 refine Xq (Xg 1 (Xe [(0,.slice s.a s.l.length s.c), (1,.func (.func 89) #[] #[vp tb]), (7,vi (s.l.length : Int)), (8,vi v), (9,.bool (decide ((v : Int) < (s.l.length : Int))))] ?_ 1))
 refine Xq (Xc (decide ((v : Int) < (s.l.length : Int))) (fun h1 => ?_) (fun h1 => ?_))
 ·skip
  have hv := of_decide_eq_true h1
  obtain ⟨x, hx⟩ : ∃ x, s.l[v]? = some x := ⟨_, List.getElem?_eq_getElem (by omega)⟩
  refine PT.know ((hk).isSome (List.ne_nil_of_length_pos (by omega))) ?_
  rintro ⟨sb, so, hA'⟩
  try rw [hA']
  refine Xk (Xq (Xb 1 (Xq (Xg 2 (Xe [(0,.slice (some ⟨sb, so, none⟩) s.l.length s.c), (1,.func (.func 89) #[] #[vp tb]), (7,vi (s.l.length : Int)), (8,vi v), (5,vi v)] ?_ 2)))))
  refine Xq (Xg 6 (Xr [(0,.slice (some ⟨sb, so, none⟩) s.l.length s.c), (1,.func (.func 89) #[] #[vp tb]), (7,vi (s.l.length : Int)), (8,vi v), (5,vi v), (11,.func (.func 89) #[] #[vp tb]), (12,.slice (some ⟨sb, so, none⟩) s.l.length s.c), (13,vi v)] ?_ 3 3))
  refine Xs (yldS (Xi 50 (.tmp 12) (.tmp 13) sb so s.l.length s.c v 1 3 (v : Int) 14 Tryz.underlying50)) (fun _ => ?_) 2
  refine Xl [(0,.slice (some ⟨sb, so, none⟩) s.l.length s.c), (1,.func (.func 89) #[] #[vp tb]), (7,vi (s.l.length : Int)), (8,vi v), (5,vi v), (11,.func (.func 89) #[] #[vp tb]), (15,vi x)] [(⟨sb, so + v * 1, none⟩, vi x)] (hasC (hk.cell hA' (i := v) (x := x) hx (j := 0) rfl) has0) ?_ 1 1
  refine Xs (Xa (some 16) (fun _ => .bool (x == id)) (isid_walk (H) x id tb j hj)) (fun _ => ?_) 0
  refine endR ?_
  refine Xc (x == id) (fun h2 => ?_) (fun h2 => ?_)
  ·skip
   have e2 : x = id := by simpa using h2
   refine Xq (Xg 2 (Xe [(0,.slice (some ⟨sb, so, none⟩) s.l.length s.c), (1,.func (.func 89) #[] #[vp tb]), (7,vi (s.l.length : Int)), (8,vi v), (4,vi v)] ?_ 2))
   refine Xv (blockV (thenV (thenV (blockV (thenV ?_)))))
   try rw [← hA']
   refine Y0 (vi v) (fun w hs => ?_)
   exact ⟨(), by rw [idxL_some (i := v) (by rw [hx, e2]) hno], hs⟩
  ·skip
   have e2 : ¬ x = id := by simpa using h2
   refine Xk (Xg 2 (Xe [(0,.slice (some ⟨sb, so, none⟩) s.l.length s.c), (1,.func (.func 89) #[] #[vp tb]), (7,vi (s.l.length : Int)), (8,vi (IntKind.i64.wrap ((v : Int) + 1)))] ?_ 2))
   try rw [← hA']
   rw [show IntKind.i64.wrap ((v : Int) + 1) = ((v : Int) + 1) by rw [w64 (by omega) (by omega)]]
   refine Xp [(0,.slice s.a s.l.length s.c), (1,.func (.func 89) #[] #[vp tb]), (7,vi (s.l.length : Int)), (8,vi ((v : Int) + 1))] ?_
   exact againG (k - 1) (v + 1) rfl rfl (by omega) ⟨by omega, fun u e hu he => by rcases Nat.lt_succ_iff_lt_or_eq.1 hu with hu | rfl; exact hno u e hu he; rw [hx] at he; cases he; exact e2⟩
 ·skip
  have hv : ¬ (v : Int) < s.l.length := of_decide_eq_false h1
  refine Xx 0 (thenX (thenX (leaveR (Xq (Xg 1 (Xe [(4,vi (-1))] ?_ 1))))))
  refine Xv (Y0 (vi (-1)) (fun w hs => ?_))
  exact ⟨(), by rw [idxL_none fun e he => by obtain ⟨u, hu⟩ := List.getElem?_of_mem he; exact hno u e (by have := (List.getElem?_eq_some_iff.1 hu).1; omega) hu], hs⟩
def cutId (xs : List Int) (id : Int) : List Int := xs.filter fun n => !(n == id)
theorem cutId_snoc (xs : List Int) (id x : Int) : cutId (xs ++ [x]) id = if x = id then cutId xs id else cutId xs id ++ [x] := by
 unfold cutId
 rw [List.filter_append]
 by_cases c : x = id <;> simp [c]
theorem cutId_none {xs : List Int} {id : Int} (h : ∀ e ∈ xs, e ≠ id) : cutId xs id = xs := List.filter_eq_self.2 fun e he => by simpa using h e he
theorem idxL_at {xs : List Int} {id : Int} (h : id ∈ xs) : ∃ i : Nat, idxL xs id = i ∧ xs[i]? = some id ∧ ∀ u e, u < i → xs[u]? = some e → e ≠ id := by
 unfold idxL
 cases hf : xs.findIdx? (fun e => e == id) with
 | none => have := List.findIdx?_eq_none_iff.1 hf id h; simp at this
 | some i =>
  obtain ⟨h1, h2, h3⟩ := List.findIdx?_eq_some_iff_getElem.1 hf
  refine ⟨i, rfl, by rw [List.getElem?_eq_getElem h1]; simpa using h2, fun u e hu he => ?_⟩
  obtain ⟨h4, rfl⟩ := List.getElem?_eq_some_iff.1 he
  have := h3 u hu
  simpa using this
theorem cutA_zero (b o c k : Nat) : cutA (some ⟨b, o, none⟩) c 0 k = some ⟨b, o, none⟩ := by
 unfold cutA; split <;> simp [Addr.add_lit]
theorem row_cap {α : Type} {E : Enc α} {T : TypeId} {H : List SP} {A : Option Addr} {m k : Nat} {xs : List α} : ∀ w, Sat w (row E T (.slice A m k) xs :: H) → xs.length ≤ k := fun w hs => by
 obtain ⟨G, hG⟩ := hs.head
 rcases hG with ⟨h1, rfl, _⟩ | ⟨b, o, c, cur, h1, _, _, h2, _⟩
 ·simp
 ·cases h1; exact h2
theorem take_snoc {xs : List Int} {j : Nat} {x : Int} (h : xs[j]? = some x) : xs.take (j + 1) = xs.take j ++ [x] := by rw [List.take_add_one, h]; rfl
set_option maxHeartbeats 1000000 in
set_option maxRecDepth 100000 in
theorem delf_walk (H : List SP) (sb so cap : Nat) (xs : List Int) (id : Int) (tb : Nat) (hin : id ∈ xs) (hl : xs.length ≤ 1000000) : ∀ w, Sat w (row (kE .i64) 3 (.slice (some ⟨sb, so, none⟩) xs.length cap) xs :: blk tb 3 [vi id] :: H) → Calls Tryz.prog 88 #[.slice (some ⟨sb, so, none⟩) xs.length cap, .func (.func 89) #[] #[vp tb]] w (Ret (ι := Unit) (fun _ => .slice (some ⟨sb, so, none⟩) (cutId xs id).length cap) fun _ => row (kE .i64) 3 (.slice (some ⟨sb, so, none⟩) (cutId xs id).length cap) (cutId xs id) :: blk tb 3 [vi id] :: H) := by
 obtain ⟨i0, hi0, hx0, hno⟩ := idxL_at hin
 have hi0l := (List.getElem?_eq_some_iff.1 hx0).1
 have hpre : ∀ e ∈ xs.take i0, e ≠ id := fun e he => by
  obtain ⟨u, hu⟩ := List.getElem?_of_mem he
  rw [List.getElem?_take] at hu
  split at hu
  ·exact hno u e (by assumption) hu
  ·cases hu
 refine enterG (fn := Tryz.f88) 42 [.slice (some ⟨sb, so, none⟩) xs.length cap, .func (.func 89) #[] #[vp tb]] Tryz.func88 (by kernel_rfl) (by kernel_rfl) (by kernel_rfl) ?_
 refine PT.know (p := xs.length ≤ cap) row_cap ?_
 intro hcap
 refine Xq (Xg 1 (Xe [(0,.slice (some ⟨sb, so, none⟩) xs.length cap), (1,.func (.func 89) #[] #[vp tb]), (4,.slice none 0 0)] ?_ 1))
 refine Xq (Xg 4 (Xr [(0,.slice (some ⟨sb, so, none⟩) xs.length cap), (1,.func (.func 89) #[] #[vp tb]), (4,.slice none 0 0), (8,.slice (some ⟨sb, so, none⟩) xs.length cap), (9,.func (.func 89) #[] #[vp tb])] ?_ 2 2))
 refine Xs (Xa (some 10) (fun _ => vi (idxL xs id)) (ixf_walk (row (kE .i64) 3 (.slice (some ⟨sb, so, none⟩) xs.length cap) xs :: blk tb 3 [.int .i64 id] :: H) ⟨some ⟨sb, so, none⟩, cap, xs⟩ (rowKRat 0 rfl) hl id tb 1 rfl)) (fun _ => ?_) 1
 rw [show idxL xs id = (i0 : Int) by exact hi0]
 refine Xe [(0,.slice (some ⟨sb, so, none⟩) xs.length cap), (1,.func (.func 89) #[] #[vp tb]), (4,.slice none 0 0), (5,vi i0)] ?_ 1
 refine Xq (Xq (Xg 2 (Xe [(0,.slice (some ⟨sb, so, none⟩) xs.length cap), (1,.func (.func 89) #[] #[vp tb]), (4,.slice none 0 0), (5,vi i0), (12,.bool ((i0 : Int) == (-1)))] ?_ 2)))
 rw [show ((i0 : Int) == (-1)) = false from by simp]
 refine Xc false (fun h => by cases h) (fun _ => ?_)
 refine Xk (Xq (Xq (Xg 3 (Xe [(0,.slice (some ⟨sb, so, none⟩) xs.length cap), (1,.func (.func 89) #[] #[vp tb]), (4,.slice none 0 0), (5,vi i0), (6,vi (IntKind.i64.wrap ((i0 : Int) + 1)))] ?_ 3))))
 refine Xb 0 ?_
 rw [show IntKind.i64.wrap ((i0 : Int) + 1) = ((i0 : Int) + 1) by rw [w64 (by omega) (by omega)]]
 refine Xp [(0,.slice (some ⟨sb, so, none⟩) xs.length cap), (1,.func (.func 89) #[] #[vp tb]), (4,.slice none 0 0), (5,vi i0), (6,vi ((i0 : Int) + 1))] ?_
 refine loopG (fun (q : List Int × Nat × Nat) => [(0, .slice (some ⟨sb, so, none⟩) xs.length cap), (1, .func (.func 89) #[] #[vp tb]), (4, .slice none 0 0), (5, vi (q.2.1 : Int)), (6, vi (q.2.2 : Int))]) (fun (q : List Int × Nat × Nat) => (row (kE .i64) 3 (.slice (some ⟨sb, so, none⟩) xs.length cap) q.1 :: blk tb 3 [vi id] :: H)) (fun k (q : List Int × Nat × Nat) => k + q.2.2 = xs.length ∧ q.1.length = xs.length ∧ q.2.1 < q.2.2 ∧ q.1.take q.2.1 = cutId (xs.take q.2.2) id ∧ q.1.drop q.2.2 = xs.drop q.2.2) (xs.length - (i0 + 1)) (xs, i0, i0 + 1) (by kernel_rfl) ⟨by simp only; omega, rfl, by simp, by simp only; rw [take_snoc hx0, cutId_snoc, if_pos rfl, cutId_none hpre], rfl⟩ ?_
 rintro k ⟨ys, i, j⟩ ⟨hkj, hyl, hij, hyt, hyd⟩
 simp only at hkj hyl hij hyt hyd
 refine Xq (Xq (Xg 4 (Xe [(0,.slice (some ⟨sb, so, none⟩) xs.length cap), (1,.func (.func 89) #[] #[vp tb]), (4,.slice none 0 0), (5,vi i), (6,vi j), (19,.bool (decide ((j : Int) < (xs.length : Int))))] ?_ 4)))
 refine Xc (decide ((j : Int) < (xs.length : Int))) (fun h1 => ?_) (fun h1 => ?_)
 ·skip
  have hj := of_decide_eq_true h1
  obtain ⟨x, hx⟩ : ∃ x, xs[j]? = some x := ⟨_, List.getElem?_eq_getElem (by omega)⟩
  have hyj : ys[j]? = some x := by have h := congrArg (fun l => l[0]?) hyd; simp only [List.getElem?_drop, Nat.add_zero] at h; rw [h, hx]
  obtain ⟨y, hyi⟩ : ∃ y, ys[i]? = some y := ⟨_, List.getElem?_eq_getElem (by omega)⟩
  refine Xk (Xq (Xb 1 (Xq (Xg 5 (Xr [(0,.slice (some ⟨sb, so, none⟩) xs.length cap), (1,.func (.func 89) #[] #[vp tb]), (4,.slice none 0 0), (5,vi i), (6,vi j), (22,.slice (some ⟨sb, so, none⟩) xs.length cap), (23,vi j)] ?_ 3 2)))))
  refine Xs (yldS (Xi 50 (.tmp 22) (.tmp 23) sb so xs.length cap j 1 3 (j : Int) 24 Tryz.underlying50)) (fun _ => ?_) 2
  refine Xm [(0,.slice (some ⟨sb, so, none⟩) xs.length cap), (1,.func (.func 89) #[] #[vp tb]), (4,.slice none 0 0), (5,vi i), (6,vi j), (7,vi x)] [(⟨sb, so + j * 1, none⟩, vi x)] (hasC (rowCell (E := kE .i64) (xs := ys) 0 rfl (x := x) hyj (j := 0) rfl) has0) ?_ 2
  refine Xq (Xg 4 (Xr [(0,.slice (some ⟨sb, so, none⟩) xs.length cap), (1,.func (.func 89) #[] #[vp tb]), (4,.slice none 0 0), (5,vi i), (6,vi j), (7,vi x), (26,.func (.func 89) #[] #[vp tb]), (27,vi x)] ?_ 2 2))
  refine Xs (Xa (some 28) (fun _ => .bool (x == id)) (isid_walk (row (kE .i64) 3 (.slice (some ⟨sb, so, none⟩) xs.length cap) ys :: blk tb 3 [.int .i64 id] :: H) x id tb 1 rfl)) (fun _ => ?_) 1
  refine Xe [(0,.slice (some ⟨sb, so, none⟩) xs.length cap), (1,.func (.func 89) #[] #[vp tb]), (4,.slice none 0 0), (5,vi i), (6,vi j), (7,vi x), (29,.bool (!(x == id)))] ?_ 1
  cases h2 : ((x == id)) with
  | true =>
   have e2 : x = id := by simpa using h2
   refine Xc false (fun h => by cases h) (fun _ => ?_)
   refine Xk (Xg 3 (Xe [(0,.slice (some ⟨sb, so, none⟩) xs.length cap), (1,.func (.func 89) #[] #[vp tb]), (4,.slice none 0 0), (5,vi i), (6,vi (IntKind.i64.wrap ((j : Int) + 1)))] ?_ 3))
   rw [show IntKind.i64.wrap ((j : Int) + 1) = ((j : Int) + 1) by rw [w64 (by omega) (by omega)]]
   refine Xp [(0,.slice (some ⟨sb, so, none⟩) xs.length cap), (1,.func (.func 89) #[] #[vp tb]), (4,.slice none 0 0), (5,vi i), (6,vi ((j : Int) + 1))] ?_
   exact againG (k - 1) (ys, i, j + 1) rfl rfl (by omega) ⟨by simp only; omega, hyl, by simp only; omega, by simp only; rw [take_snoc hx, cutId_snoc, if_pos e2, hyt], by simp only; rw [← List.drop_drop, ← List.drop_drop, hyd]⟩
  | false =>
   have e2 : ¬ x = id := by simpa using h2
   refine Xc true (fun _ => ?_) (fun h => by cases h)
   refine Xq (Xg 5 (Xr [(0,.slice (some ⟨sb, so, none⟩) xs.length cap), (1,.func (.func 89) #[] #[vp tb]), (4,.slice none 0 0), (5,vi i), (6,vi j), (30,.slice (some ⟨sb, so, none⟩) xs.length cap), (31,vi i), (32,vi x)] ?_ 2 3))
   refine Xs (yldS (Xi 50 (.tmp 30) (.tmp 31) sb so xs.length cap i 1 3 (i : Int) 33 Tryz.underlying50)) (fun _ => ?_) 1
   refine Xs (setS (E := (kE .i64)) (J := i) (j := 0) y x (.int .i64 x) ⟨sb, so + i * 1, none⟩ (fun _ => by kernel_rfl) (by first | rfl | simp) (hyi) (rfl) (by decide)) (fun _ => ?_) 0
   refine endR ?_
   refine Xg 3 (Xe [(0,.slice (some ⟨sb, so, none⟩) xs.length cap), (1,.func (.func 89) #[] #[vp tb]), (4,.slice none 0 0), (5,vi (IntKind.i64.wrap ((i : Int) + 1))), (6,vi j)] ?_ 3)
   refine Xg 3 (Xe [(0,.slice (some ⟨sb, so, none⟩) xs.length cap), (1,.func (.func 89) #[] #[vp tb]), (4,.slice none 0 0), (5,vi (IntKind.i64.wrap ((i : Int) + 1))), (6,vi (IntKind.i64.wrap ((j : Int) + 1)))] ?_ 3)
   rw [show IntKind.i64.wrap ((i : Int) + 1) = ((i : Int) + 1) by rw [w64 (by omega) (by omega)]]
   rw [show IntKind.i64.wrap ((j : Int) + 1) = ((j : Int) + 1) by rw [w64 (by omega) (by omega)]]
   refine Xp [(0,.slice (some ⟨sb, so, none⟩) xs.length cap), (1,.func (.func 89) #[] #[vp tb]), (4,.slice none 0 0), (5,vi ((i : Int) + 1)), (6,vi ((j : Int) + 1))] ?_
   exact againG (k - 1) (ys.set i x, i + 1, j + 1) rfl rfl (by omega) ⟨by simp only; omega, by simp only [List.length_set]; exact hyl, by simp only; omega, by simp only; rw [take_snoc hx, cutId_snoc, if_neg e2, ← hyt, take_snoc (x := x) (by rw [List.getElem?_set_self (by omega)]), List.take_set_of_le (by omega)], by simp only; rw [List.drop_set_of_lt (by omega), ← List.drop_drop, ← List.drop_drop, hyd]⟩
 ·skip
  have hj : j = xs.length := by have := of_decide_eq_false h1; omega
  have hres : ys.take i = cutId xs id := by rw [hyt, hj, List.take_length]
  have hlen : i = (cutId xs id).length := by rw [← hres, List.length_take]; omega
  rw [show xs.length = ys.length by exact hyl.symm]
  refine Xx 0 (thenX (thenX (leaveR (Xq (Xg 4 (Xr [(0,.slice (some ⟨sb, so, none⟩) ys.length cap), (4,.slice none 0 0), (5,vi i), (36,.slice (some ⟨sb, so, none⟩) ys.length cap), (37,vi i)] ?_ 2 2))))))
  refine Xs (yldS (slcY 50 (.tmp 36) (some (.tmp 37)) none (some ⟨sb, so, none⟩) ys.length cap i ys.length 1 3 (some 38) (fun _ => by kernel_rfl) (by kernel_rfl) (by kernel_rfl) (fun _ => by kernel_rfl) (.inr ⟨_, .i64, (i : Int), rfl, fun _ => by kernel_rfl, by first | rfl | omega⟩) (.inl ⟨rfl, rfl⟩) Tryz.underlying50 (by kernel_rfl) (by omega) (by omega))) (fun _ => ?_) 1
  refine Xs (clrS (E := (kE .i64)) 50 (.tmp 38) sb so cap i ys (fun _ => by kernel_rfl) (by kernel_rfl) (by kernel_rfl) (fun _ => by kernel_rfl) Tryz.underlying50 (etyIn) (by omega) (zero_cells_in _)) (fun _ => ?_) 0
  refine endR ?_
  refine Xq (Xg 4 (Xr [(4,.slice none 0 0), (39,.slice (some ⟨sb, so, none⟩) ys.length cap), (40,vi i)] ?_ 2 2))
  refine Xs (yldS (slcY 50 (.tmp 39) none (some (.tmp 40)) (some ⟨sb, so, none⟩) ys.length cap 0 i 1 3 (some 41) (fun _ => by kernel_rfl) (by kernel_rfl) (by kernel_rfl) (fun _ => by kernel_rfl) (.inl ⟨rfl, rfl⟩) (.inr ⟨_, .i64, (i : Int), rfl, fun _ => by kernel_rfl, by first | rfl | omega⟩) Tryz.underlying50 (by kernel_rfl) (by omega) (by omega))) (fun _ => ?_) 1
  refine Xe [(4,.slice (cutA (some ⟨sb, so, none⟩) cap 0 1) (i - 0) (cap - 0))] ?_ 1
  refine Xv (Y0 (.slice (cutA (some ⟨sb, so, none⟩) cap 0 1) (i - 0) (cap - 0)) (fun w hs => ?_))
  rw [cutA_zero, hlen.symm, ← hres]; exact ⟨(), rfl, hs⟩
end Go.Proofs.YtlhjibkkkhgonaaGreatDoor
set_option linter.unusedVariables false
set_option linter.unusedSimpArgs false
namespace Go.Proofs.YtlhjibkkkhgonaaGreatDoor
open Go.RowKit G
theorem obPick2 {Z : List Oz} {j : Nat} {z : Oz} (hz : Z[j]? = some z) {B P : SP} {H : List SP} {w : World} (h : Sat w (B :: P :: (obL Z ++ H))) : Sat w (ozR z :: B :: P :: (obX Z j ++ H)) := by
 have h1 := Sat.pick (j + 2) (P := ozR z) (by rw [List.getElem?_cons_succ, List.getElem?_cons_succ]; exact obL_at hz H) h
 have h2 : (obL Z)[j]? = some (ozR z) := by rw [obL, List.getElem?_map, hz]; rfl
 obtain ⟨h3, _⟩ := List.getElem?_eq_some_iff.1 h2
 rw [List.eraseIdx_cons_succ, List.eraseIdx_cons_succ, List.eraseIdx_append_of_lt_length h3] at h1
 exact h1
def ObD (O : List Ob) : Prop := ∀ (i j : Nat) (a b : Ob), i ≠ j → O[i]? = some a → O[j]? = some b → ∀ x ∈ a.2, x ∉ b.2
theorem obCut_no {O : List Ob} {id : Int} (h : obHas O id = false) : obCut O id = O := by
 have hno := obHas_no (O := O) (id := id) (by rw [h]; simp)
 unfold obCut
 refine (List.map_congr_left (g := fun o => o) fun o ho => ?_).trans (List.map_id' O)
 have : o.2.filter (fun n => !(n == id)) = o.2 := List.filter_eq_self.2 fun e he => by
  have : e ≠ id := fun c => hno o ho (c ▸ he)
  simpa using this
 rw [this]
theorem obCut_at {O : List Ob} {id : Int} {u : Nat} {o : Ob} (hd : ObD O) (ho : O[u]? = some o) (hm : id ∈ o.2) : obCut O id = O.set u (o.1, cutId o.2 id) := by
 refine List.ext_getElem? fun i => ?_
 rw [obCut, List.getElem?_map, List.getElem?_set]
 split
 ·rename_i h
  subst h
  obtain ⟨h1, _⟩ := List.getElem?_eq_some_iff.1 ho
  rw [if_pos h1, ho]; rfl
 ·rename_i h
  cases hg : O[i]? with
  | none => rfl
  | some a =>
   have hno := hd u i o a h ho hg id hm
   have : a.2.filter (fun n => !(n == id)) = a.2 := List.filter_eq_self.2 fun e he => by
    have : e ≠ id := fun c => hno (c ▸ he)
    simpa using this
   show some (a.1, a.2.filter _) = some a
   rw [this]
set_option maxHeartbeats 1000000 in
set_option maxRecDepth 100000 in
theorem odrop_walk (H : List SP) (b : Nat) (Z : List Oz) (id : Int) (hZ : Z.length = 4) (hl : ∀ z ∈ Z, z.l.length ≤ 1000000) (hd : ObD (Z.map obF)) : ∀ w, Sat w (row obE 120 (.slice (some ⟨b, 0, none⟩) 4 4) Z :: (obL Z ++ H)) → Calls Tryz.prog 50 #[vp b, vi id] w (Ret (ι := { Z' : List Oz // Z'.map obF = obCut (Z.map obF) id ∧ Z'.length = 4 }) (fun _ => .bool (obHas (Z.map obF) id)) fun x => row obE 120 (.slice (some ⟨b, 0, none⟩) 4 4) x.1 :: (obL x.1 ++ H)) := by
 refine enterG (fn := Tryz.f50) 26 [vp b, vi id] Tryz.func50 (by kernel_rfl) (by kernel_rfl) (by kernel_rfl) ?_
 refine Xq (Xg 2 (Xs (Xn 3 [vi id] (some 3) (fun b => vp b)) (fun b1 => ?_) 1))
 refine Xe [(3,vp b1), (0,vp b), (4,.bool false)] ?_ 1
 refine Xq (Xg 4 (Xl [(3,vp b1), (0,vp b), (4,.bool false), (6,vp b), (7,vi id)] [(⟨b1, 0, none⟩, vi id)] (hasC (ba 0) has0) ?_ 2 2))
 refine Xh0 ?_ 0 2
 refine Xh0 ?_ 1 2
 refine Xs (Xa1 (some 8) (fun _ => vi (wtsZ Z id)) (fun _ => (row obE 120 (.slice (some ⟨b, 0, none⟩) 4 4) Z :: blk b1 3 [vi id] :: (obL Z ++ H))) ((by have h := waits_walk (blk b1 3 [.int .i64 id] :: H) b Z id hZ hl; exact fun w hs => (h w (Sat.perm (by exact ((List.perm_middle (a := blk b1 3 [.int .i64 id]) (l₁ := row obE 120 (.slice (some ⟨b, 0, none⟩) 4 4) Z :: obL Z) (l₂ := H)).trans (List.Perm.swap _ _ _)).symm) hs)).mono fun e w' ⟨_, he, hx⟩ => ⟨(), he, Sat.perm (by exact ((List.perm_middle (a := blk b1 3 [.int .i64 id]) (l₁ := row obE 120 (.slice (some ⟨b, 0, none⟩) 4 4) Z :: obL Z) (l₂ := H)).trans (List.Perm.swap _ _ _))) hx⟩))) (fun _ => ?_) 1
 refine Xe [(3,vp b1), (0,vp b), (4,.bool false), (5,vi (wtsZ Z id))] ?_ 1
 refine Xq (Xq (Xg 2 (Xe [(3,vp b1), (0,vp b), (4,.bool false), (5,vi (wtsZ Z id)), (10,.bool (decide ((wtsZ Z id) < 0)))] ?_ 2)))
 refine Xc (decide ((wtsZ Z id) < 0)) (fun h2 => ?_) (fun h2 => ?_)
 ·skip
  have hh : obHas (Z.map obF) id = false := by rcases wtsZ_cases Z id with ⟨_, r⟩ | ⟨i, y, e, _⟩; exact r; rw [e] at h2; have := of_decide_eq_true h2; omega
  refine Xq (Xg 1 (Xe [(3,vp b1), (0,vp b), (4,.bool false), (5,vi (wtsZ Z id))] ?_ 1))
  refine Xv (thenV (Y0 (.bool false) (fun w hs => ?_)))
  exact ⟨⟨Z, (obCut_no hh).symm, hZ⟩, by simp only; rw [hh], Sat.erase 1 rfl hs⟩
 ·skip
  obtain ⟨u, z, hu, hz, hzc, hh⟩ : ∃ (i : Nat) (z : Oz), wtsZ Z id = i ∧ Z[i]? = some z ∧ z.l.contains id = true ∧ obHas (Z.map obF) id = true := by rcases wtsZ_cases Z id with ⟨e, _⟩ | h; rw [e] at h2; simp at h2; exact h
  have hul := (List.getElem?_eq_some_iff.1 hz).1
  have hzm := List.mem_of_getElem? hz
  have hlz := hl z hzm
  have hin : id ∈ z.l := by simpa using hzc
  have hcut := obCut_at hd (u := u) (o := (z.c, z.l)) (by rw [List.getElem?_map, hz]; rfl) hin
  rw [show wtsZ Z id = (u : Int) by exact hu]
  obtain ⟨zc, za, zk, zl⟩ := z
  dsimp only at hlz hin hcut
  refine PT.know (KR.isSome (KR.up (obL_kr hz _ _)) (List.ne_nil_of_mem hin)) ?_
  rintro ⟨sb, so, hA⟩
  dsimp only at hA
  subst hA
  refine PT.pick 0 rfl ?_
  refine PT.pick 1 rfl ?_
  refine PT.sat (fun w hs => obPick2 hz hs) ?_
  refine Xk (Xq (Xy0 2 [15] 16 ?_))
  refine Xt [0, 1, 2, 3, 4, 5, 9, 11, 12] [(4,.bool false), (12,vi u), (14,vi u), (16,vp b), (20,.func (.func 89) #[] #[vp b1]), (23,vp b)] [] has0 ?_
  refine Xu 6 (Xj 118 (.tmp 16) (.tmp 14) b 0 4 u 2 117 (u : Int) 17 Tryz.underlying118) ?_
  refine Xt [7, 8] [(4,.bool false), (12,vi u), (20,.func (.func 89) #[] #[vp b1]), (23,vp b), (19,.slice (some ⟨sb, so, none⟩) zl.length zk)] [(⟨b, 0 + u * 2 + 1, none⟩, .slice (some ⟨sb, so, none⟩) zl.length zk)] (hasC (rowCell (E := obE) (xs := Z) 0 rfl (x := ⟨zc, some ⟨sb, so, none⟩, zk, zl⟩) hz (j := 1) rfl) has0) ?_
  refine Xo 10 (Xa (some 21) (fun _ => .slice (some ⟨sb, so, none⟩) (cutId zl id).length zk) (delf_walk _ sb so zk zl id b1 hin hlz)) (fun _ => ?_)
  refine Xu 13 (Xj 118 (.tmp 23) (.tmp 12) b 0 4 u 2 117 (u : Int) 24 Tryz.underlying118) ?_
  refine Xt [14] [(21,.slice (some ⟨sb, so, none⟩) ((cutId zl id).length) zk), (4,.bool false), (25,.pointer (some ⟨b, 0 + u * 2 + 1, none⟩))] [] has0 ?_
  refine DT.pick 2 rfl ?_
  refine Xo 15 (setS (E := obE) (J := u) (j := 1) ⟨zc, some ⟨sb, so, none⟩, zk, zl⟩ ⟨zc, some ⟨sb, so, none⟩, zk, cutId zl id⟩ (.slice (some ⟨sb, so, none⟩) ((cutId zl id).length) zk) ⟨b, 0 + u * 2 + 1, none⟩ (fun _ => by kernel_rfl) (by first | rfl | simp) (hz) (rfl) (by decide)) (fun _ => ?_)
  refine Xd (Xq (Xg 1 (Xe [(4,.bool true)] ?_ 1)))
  refine Xv (Y0 (.bool true) (fun w hs => ?_))
  exact ⟨⟨Z.set u ⟨zc, some ⟨sb, so, none⟩, zk, cutId zl id⟩, by rw [hcut, List.map_set]; rfl, by rw [List.length_set, hZ]⟩, by simp only; rw [hh], obPut (Z := Z) (j := u) (by omega) ⟨zc, some ⟨sb, so, none⟩, zk, cutId zl id⟩ (P := row obE 120 (.slice (some ⟨b, 0, none⟩) 4 4) (Z.set u ⟨zc, some ⟨sb, so, none⟩, zk, cutId zl id⟩)) (H := H) (SatF.swap (Sat.erase 2 rfl hs))⟩
end Go.Proofs.YtlhjibkkkhgonaaGreatDoor
set_option linter.unusedVariables false
set_option linter.unusedSimpArgs false
namespace Go.Proofs.YtlhjibkkkhgonaaGreatDoor
open Go.RowKit G
def ObB (O : List Ob) : Prop := ∀ o ∈ O, 0 ≤ o.1 ∧ o.1 ≤ 255 ∧ o.2.length ≤ 1000000
theorem ObB.of {O : List Ob} (h : ObB O) {Z : List Oz} (hZ : Z.map obF = O) : (∀ z ∈ Z, z.l.length ≤ 1000000) ∧ ∀ z ∈ Z, 0 ≤ z.c ∧ z.c ≤ 255 := by
 subst hZ
 exact ⟨fun z hz => (h _ (List.mem_map.2 ⟨z, hz, rfl⟩)).2.2, fun z hz => ⟨(h _ (List.mem_map.2 ⟨z, hz, rfl⟩)).1, (h _ (List.mem_map.2 ⟨z, hz, rfl⟩)).2.1⟩⟩
section
variable (H : List SP) (b : Nat) (O : List Ob)
theorem obgWait (hO : ObB O) (id j : Int) : ∀ w, Sat w (obsS b O :: H) → Calls Tryz.prog 59 #[vp b, vi id, vi j] w (Ret (ι := Unit) (fun _ => .tuple #[.bool (obWait O id j).1.1, pqErr (obWait O id j).1.2]) fun _ => obsS b (obWait O id j).2 :: H) := fun w hs => by
 obtain ⟨Z, hZ, h4, hs2⟩ := Sat.openObs hs
 obtain ⟨h1, h2⟩ := hO.of hZ
 subst hZ
 exact (wait_walk H b Z id j h4 h1 h2 w hs2).mono fun e w' ⟨x, he, hx⟩ => ⟨(), he, Sat.closeObs x.2.1 x.2.2 hx⟩
theorem obgSig (hO : ObB O) (j : Int) : ∀ w, Sat w (obsS b O :: H) → Calls Tryz.prog 61 #[vp b, vi j] w (Ret (ι := Unit) (fun _ => .tuple #[vi (obSig O j).1.1, .bool (obSig O j).1.2.1, pqErr (obSig O j).1.2.2]) fun _ => obsS b (obSig O j).2 :: H) := fun w hs => by
 obtain ⟨Z, hZ, h4, hs2⟩ := Sat.openObs hs
 obtain ⟨h1, h2⟩ := hO.of hZ
 subst hZ
 exact (signal_walk H b Z j h4 h1 h2 w hs2).mono fun e w' ⟨x, he, hx⟩ => ⟨(), he, Sat.closeObs x.2.1 x.2.2 hx⟩
theorem obgDrop (hO : ObB O) (hd : ObD O) (id : Int) : ∀ w, Sat w (obsS b O :: H) → Calls Tryz.prog 50 #[vp b, vi id] w (Ret (ι := Unit) (fun _ => .bool (obHas O id)) fun _ => obsS b (obCut O id) :: H) := fun w hs => by
 obtain ⟨Z, hZ, h4, hs2⟩ := Sat.openObs hs
 obtain ⟨h1, h2⟩ := hO.of hZ
 subst hZ
 exact (odrop_walk H b Z id h4 h1 hd w hs2).mono fun e w' ⟨x, he, hx⟩ => ⟨(), he, Sat.closeObs x.2.1 x.2.2 hx⟩
end
def oz0 : Oz := ⟨0, none, 0, []⟩
def ob0 : List Ob := [(0, []), (0, []), (0, []), (0, [])]
set_option maxRecDepth 100000 in
theorem obgNew (H : List SP) : ∀ w, Sat w H → Calls Tryz.prog 37 #[] w (Ret (ι := Nat) (fun b => vp b) fun b => obsS b ob0 :: H) := by
 refine enterG (fn := Tryz.f37) 3 [] Tryz.func37 (by kernel_rfl) (by kernel_rfl) (by kernel_rfl) ?_
 refine Xq (Xg 1 (Xe [(0,.pointer none)] ?_ 1))
 refine Xq (Xg 3 (Xr [(0,.pointer none), (1,.agg #[vi 0, .slice none 0 0, vi 0, .slice none 0 0, vi 0, .slice none 0 0, vi 0, .slice none 0 0])] ?_ 2 1))
 refine Xs (Xn 120 [vi 0, .slice none 0 0, vi 0, .slice none 0 0, vi 0, .slice none 0 0, vi 0, .slice none 0 0] (some 2) (fun b => vp b)) (fun b1 => ?_) 1
 refine Xe [(0,vp b1)] ?_ 1
 refine Xv (Y0 (vp b1) (fun w hs => ?_))
 exact ⟨b1, rfl, Sat.closeObs (Z := [oz0, oz0, oz0, oz0]) rfl rfl (by
  have h1 := Sat.blkRows (E := obE) (T := 120) (xs := [oz0, oz0, oz0, oz0]) (by decide) hs
  have r := fun (H : List SP) (w : World) (h : Sat w H) => (Sat.rowNil (E := kE .i64) (T := 3) h : Sat w (ozR oz0 :: H))
  have h2 := r _ _ (r _ _ (r _ _ (r _ _ h1)))
  exact Sat.perm (by exact ((List.perm_middle (a := row obE 120 (.slice (some ⟨b1, 0, none⟩) 4 4) [oz0, oz0, oz0, oz0]) (l₁ := [ozR oz0, ozR oz0, ozR oz0, ozR oz0]) (l₂ := H)))) h2)⟩
end Go.Proofs.YtlhjibkkkhgonaaGreatDoor
set_option linter.unusedVariables false
set_option linter.unusedSimpArgs false
namespace Go.Proofs.YtlhjibkkkhgonaaGreatDoor
open Go.RowKit
def tmE : Enc (Int × Int) := ⟨2, by decide, fun p => [.int .i64 p.1, .int .i64 p.2], fun _ => rfl, by intro a u hu; simp at hu; rcases hu with rfl | rfl <;> rfl⟩
theorem infoTm : (Tryz.prog.info? 137).map (fun i => (i.zero, i.size, i.bytes)) = some (some (.agg #[.int .i64 0, .int .i64 0]), 2, 16) := by kernel_rfl
theorem etyTm : Ety Tryz.prog tmE 137 (.agg #[.int .i64 0, .int .i64 0]) := by
  obtain ⟨i, hi, hz, hs, hb⟩ := info_parts infoTm
  exact ⟨⟨i, hi, hz, hs, by omega⟩, rfl⟩
set_option maxHeartbeats 1000000 in
set_option maxRecDepth 100000 in
theorem ins_tm_end (w : World) (F : Nat → Prop) (v : Value) (xs zs : List (Int × Int)) (x : Int × Int) (hz : zs = xs ++ [x]) (hrow : Row tmE 137 w F v xs) (yb : Nat) (T' : TypeId) (hyb : Blk w yb T' (tmE.enc x)) (hn : xs.length ≤ 1000000000) :
    Calls Tryz.prog 91 #[v, .int .i64 xs.length, .slice (some ⟨yb, 0, none⟩) 1 1] w (RowPost tmE 137 F w zs) := by
  obtain ⟨v', w', F', hr, h1, h2, h3, _⟩ := run_append_row (ty := 113) Tryz.underlying113 etyTm hrow (Rd.one hyb) (by simp; omega)
  have hpost : RowPost tmE 137 F w zs (.returned v') w' := ⟨v', F', rfl, by rw [hz]; exact h1, h2, h3⟩
  have hp := Lib.hid hpost
  have hrr := Lib.hid hr
  clear hr h1 h2 h3 hpost hz
  rcases hrow with ⟨rfl, rfl, rfl⟩ | ⟨b, o, c, cur, rfl, rfl, hb, hc1, hc2, hc3, hcur⟩
  · go_enter Tryz.func91, Tryz.ntmps91
    go_wp2_with (at_builtin; refine wpList_append_by ⟨rfl, rfl, rfl, rfl⟩ hrr.out ?_)
    go_ret
    exact hp.out
  · generalize xs.length = n at *
    clear hb hc3 hcur
    have hc : (n : Int) ≤ (c : Int) := by omega
    go_enter Tryz.func91, Tryz.ntmps91
    go_wp2_with (at_builtin; refine wpList_append_by ⟨rfl, rfl, rfl, rfl⟩ hrr.out ?_)
    all_goals (go_ret; exact hp.out)

set_option maxHeartbeats 1000000 in
set_option maxRecDepth 100000 in
theorem ins_tm_shift (w : World) (b o c n : Nat) (cur : Array Value) (xs zs : List (Int × Int)) (x : Int × Int) (i : Nat) (hz : zs = xs.take i ++ x :: xs.drop i) (hx : xs.length = n) (hb : w.heap[b]? = some (.cells cur 137 (0, 0))) (hc2 : c ≤ maxLen) (hc3 : o + c * 2 ≤ cur.size) (hcur : (cur.toList.drop o).take (n * 2) = tmE.flat xs)
    (yb : Nat) (T' : TypeId) (hyb : Blk w yb T' (tmE.enc x)) (hyF : yb ≠ b) (hi : i < n) (hroom : n + 1 ≤ c) (hn : n ≤ 1000000000) :
    Calls Tryz.prog 91 #[.slice (some ⟨b, o, none⟩) n c, .int .i64 i, .slice (some ⟨yb, 0, none⟩) 1 1] w (RowPost tmE 137 (OneB b) w zs) := by
  have hov : ∀ (o2 l2 c2 : Nat), (callFunc 114 #[.slice (some ⟨yb, 0, none⟩) 1 1, .slice (some ⟨b, o2, none⟩) l2 c2]).run Tryz.prog w = .ok (.value (.bool false)) w := fun o2 l2 c2 => by
    rw [run_callFunc_extern Tryz.func114 (by kernel_rfl) (by kernel_rfl) (by kernel_rfl) (e := Extern.SlicesOverlaps.overlaps #[113, 113] #[4]) (by kernel_rfl), run_overlaps_no Tryz.underlying113 (ety_size etyTm) hyb hb hyF (by omega)]
    rfl
  have hne : ((i : Int) == (n : Int)) = false := by simp; omega
  have hg : decide ((c : Int) < (n : Int) + 1) = false := by simp; omega
  have hw0 : IntKind.i64.wrap ((n : Int) + 1) = (n : Int) + 1 := by rw [IntKind.wrap_i64]; omega
  have hw1 : IntKind.i64.wrap ((i : Int) + 1) = (i : Int) + 1 := by rw [IntKind.wrap_i64]; omega
  have hb1 : (0 : Int) ≤ (i : Int) + 1 := by omega
  have htn : ((i : Int) + 1).toNat = i + 1 := by omega
  have hb2 : ¬ (c = i + 1) := by omega
  have hb3 : (i : Int) ≤ (n : Int) + 1 := by omega
  have hb4 : ¬ (c = i) := by omega
  have hb5 : i ≤ n := by omega
  -- the two copies
  have hlen : cur.toList.length = cur.size := by simp
  have hcp1 := fun dc sc => run_copy_at (P := Tryz.prog) (w := w.drew) (dT := 113) (sT := 113) (ty := 3) Tryz.underlying113 (ety_size etyTm) (b := b) (o := o + (i + 1) * 2) (dl := n - i) (dc := dc) (sl := n + 1 - i) (sc := sc) hb (ao := some ⟨b, o + i * 2, none⟩) (cs := tmE.flat (xs.drop i))
    (m := n - i) (by show min _ _ = _; omega) (by rw [tmE.flat_length, List.length_drop, hx]) (by intro h; cases h)
    (by
      intro a ha j u hu
      cases ha
      rw [Addr.add_lit, cell_of_row w.drew b _ cur 137 (0, 0) hb]
      rw [← tmE.flat_drop, ← hcur] at hu
      rw [List.getElem?_drop, List.getElem?_take] at hu
      split at hu
      · rw [List.getElem?_drop] at hu
        rw [← Array.getElem?_toList, ← hu]
        show _ = cur.toList[o + (i * 2 + j)]?
        congr 1; omega
      · cases hu)
    (tmE.flat_one' _) (by rw [tmE.flat_length, List.length_drop, hx]; show _ + (n - i) * 2 ≤ _; omega)
  obtain ⟨cur1, hcur1⟩ : ∃ cur1, cur1 = (cur.toList.take (o + (i + 1) * 2) ++ tmE.flat (xs.drop i) ++ cur.toList.drop (o + (i + 1) * 2 + (tmE.flat (xs.drop i)).length)).toArray := ⟨_, rfl⟩
  rw [← hcur1] at hcp1
  have hfl1 : (tmE.flat (xs.take i)).length = i * 2 := by rw [tmE.flat_length, List.length_take, hx, Nat.min_eq_left (by omega)]; rfl
  have hfl2 : (tmE.flat (xs.drop i)).length = (n - i) * 2 := by rw [tmE.flat_length, List.length_drop, hx]; rfl
  have hsplit : (cur.toList.drop o).take (i * 2 + (n - i) * 2) = tmE.flat (xs.take i) ++ tmE.flat (xs.drop i) := by
    rw [← Enc.flat_append, List.take_append_drop, ← hcur]; congr 1; omega
  have hsh := shift_list cur.toList (tmE.flat (xs.take i)) (tmE.flat (xs.drop i)) (tmE.enc x) o (i * 2) ((n - i) * 2) 2 hfl1 hfl2 rfl (by rw [hlen]; omega) hsplit
  have eo : o + i * 2 + 2 = o + (i + 1) * 2 := by omega
  simp only [eo] at hsh
  rw [← hfl2] at hsh
  have hc1l : cur1.toList = cur.toList.take (o + (i + 1) * 2) ++ tmE.flat (xs.drop i) ++ cur.toList.drop (o + (i + 1) * 2 + (tmE.flat (xs.drop i)).length) := by rw [hcur1]
  rw [← hc1l] at hsh
  have hb1' : (w.drew.setRow b cur1).heap[b]? = some (.cells cur1 137 (0, 0)) := setRow_heap w.drew b cur cur1 _ _ hb
  have hyb1 : Blk (w.drew.setRow b cur1) yb T' (tmE.enc x) := (setRow_other w.drew b yb cur1 hyF).trans hyb
  have hsz1 : cur1.size = cur.size := by rw [hcur1]; simp only [List.size_toArray, List.length_append, List.length_take, List.length_drop, hlen, hfl2]; omega
  obtain ⟨W1, hW1⟩ : ∃ W1, W1 = w.drew.setRow b cur1 := ⟨_, rfl⟩
  rw [← hW1] at hcp1 hb1' hyb1
  have hcp2 := fun dc => run_copy_at (P := Tryz.prog) (w := W1) (dT := 113) (sT := 113) (ty := 3) Tryz.underlying113 (ety_size etyTm) (b := b) (o := o + i * 2) (dl := n + 1 - i) (dc := dc) (sl := 1) (sc := 1) hb1' (ao := some ⟨yb, 0, none⟩) (cs := tmE.enc x) (m := 1)
    (by show min _ _ = _; omega) rfl (by intro h; cases h)
    (by intro a ha j u hu; cases ha; rw [Addr.add_lit, Nat.zero_add, hyb1.cell]; exact hu) (tmE.one _) (by rw [hsz1]; show _ + 2 ≤ _; omega)
  obtain ⟨cur2, hcur2⟩ : ∃ cur2, cur2 = (cur1.toList.take (o + i * 2) ++ tmE.enc x ++ cur1.toList.drop (o + i * 2 + (tmE.enc x).length)).toArray := ⟨_, rfl⟩
  rw [← hcur2] at hcp2
  have hc2l : cur2.toList = cur1.toList.take (o + i * 2) ++ tmE.enc x ++ cur1.toList.drop (o + (i + 1) * 2) := by rw [hcur2, show o + i * 2 + (tmE.enc x).length = o + (i + 1) * 2 by show _ + 2 = _; omega]
  rw [← hc2l] at hsh
  have hpost : RowPost tmE 137 (OneB b) w zs (.returned (.slice (some ⟨b, o, none⟩) (n + 1) c)) (W1.setRow b cur2) := by
    refine ⟨_, OneB b, rfl, .inr ⟨b, o, c, cur2, ?_, rfl, setRow_heap W1 b cur1 cur2 _ _ hb1', ?_, hc2, ?_, ?_⟩, ?_, fun b hb => .inl hb⟩
    · congr 1; rw [hz]; simp; omega
    · rw [hz]; simp; omega
    · have := hsh.1; simp only [Array.length_toList] at this; rw [this]; exact hc3
    · rw [hz]
      have := hsh.2
      rw [Enc.flat_append, Enc.flat_cons, ← List.append_assoc, ← this]
      congr 1
      simp; show (_ + (_ + 1)) * 2 = _; omega
    · rw [hW1]
      exact ⟨rfl, rfl, rfl, by simp [World.setRow], fun k _ hk => (setRow_other _ b k _ (fun e => hk e)).trans (setRow_other w.drew b k _ (fun e => hk e))⟩
  subst hW1
  have hp := Lib.hid hpost
  have HC1 := Lib.hid hcp1
  have HC2 := Lib.hid hcp2
  clear hpost hcp1 hcp2 hsh hc1l hc2l hcur1 hcur2 hsplit hfl1 hfl2 hb1' hyb1 hcur hb hsz1 hz hx hlen eo hc3 hyb
  go_enter Tryz.func91, Tryz.ntmps91
  go_wp2_with (simp only [hov])
  go_region_law (refine step_copy_by rfl _ _ _ _ rfl (by simp [Act.eval, Act.put]; rfl) (by simp [Act.eval, Act.put]; rfl) (HC1.out _ _) ?_)
  have hcp2 := HC2.out
  go_wp2
  go_ret
  exact hp.out

set_option maxHeartbeats 1000000 in
set_option maxRecDepth 100000 in
theorem ins_tm_grow (w : World) (b o c n : Nat) (cur : Array Value) (xs zs : List (Int × Int)) (x : Int × Int) (i : Nat) (hz : zs = xs.take i ++ x :: xs.drop i) (hx : xs.length = n) (hb : w.heap[b]? = some (.cells cur 137 (0, 0))) (hc1 : n ≤ c) (hc3 : o + c * 2 ≤ cur.size) (hcur : (cur.toList.drop o).take (n * 2) = tmE.flat xs)
    (yb : Nat) (T' : TypeId) (hyb : Blk w yb T' (tmE.enc x)) (hi : i < n) (hroom : c < n + 1) (hn : n ≤ 1000000000) :
    Calls Tryz.prog 91 #[.slice (some ⟨b, o, none⟩) n c, .int .i64 i, .slice (some ⟨yb, 0, none⟩) 1 1] w (RowPost tmE 137 (OneB b) w zs) := by
  have hne : ((i : Int) == (n : Int)) = false := by simp; omega
  have hg : decide ((c : Int) < (n : Int) + 1) = true := by simp; omega
  have hfl1 : (tmE.flat (xs.take i)).length = i * 2 := by rw [tmE.flat_length, List.length_take, hx, Nat.min_eq_left (by omega)]; rfl
  have hfl2 : (tmE.flat (xs.drop i)).length = (n - i) * 2 := by rw [tmE.flat_length, List.length_drop, hx]; rfl
  have hsrc : ∀ k j u, (tmE.flat (xs.drop k))[j]? = some u → w.cell? ⟨b, o + k * 2 + j, none⟩ = some u := by
    intro k j u hu
    rw [cell_of_row w b _ cur 137 (0, 0) hb]
    rw [← tmE.flat_drop, ← hcur] at hu
    rw [List.getElem?_drop, List.getElem?_take] at hu
    split at hu
    · rw [List.getElem?_drop] at hu
      rw [← Array.getElem?_toList, ← hu]
      show _ = cur.toList[o + (k * 2 + j)]?
      congr 1; omega
    · cases hu
  obtain ⟨cap, hcap1, hcap2, hr⟩ := run_append_zeros (P := Tryz.prog) (w := w) (ty := 113) (tn := 3) Tryz.underlying113 Tryz.underlying3 etyTm (xs := xs.take i) (ao := some ⟨b, o, none⟩) (n := i) (c := c) (l := n + 1 - i) (by rw [List.length_take, hx]; omega)
    (by
      intro a ha j u hu
      cases ha
      have h0 := hsrc 0 j u
      rw [Nat.zero_mul, Nat.add_zero, List.drop_zero] at h0
      rw [Addr.add_lit]
      refine h0 ?_
      rw [← tmE.flat_take, List.getElem?_take] at hu
      split at hu
      · exact hu
      · cases hu)
    (by intro h; cases h) (by omega) (by omega) (by omega) (L := (n : Int) + 1 - (i : Int)) (by omega)
  have e1 : i + (n + 1 - i) = n + 1 := by omega
  rw [e1] at hr hcap1
  obtain ⟨cur0, hcur0⟩ : ∃ cur0, cur0 = (tmE.flat (xs.take i)).toArray ++ Builtin.zeroCells (Value.agg #[.int .i64 0, .int .i64 0]).cells (n + 1 - i) ++ Builtin.zeroCells (Value.agg #[.int .i64 0, .int .i64 0]).cells (cap - (n + 1)) := ⟨_, rfl⟩
  rw [← hcur0] at hr
  have hs0 : cur0.size = cap * 2 := by
    rw [hcur0]; simp only [Array.size_append, List.size_toArray, size_zeroCells, hfl1]
    show _ + _ * 2 + _ * 2 = _
    omega
  have ht0 : cur0.toList.take (i * 2) = tmE.flat (xs.take i) := by
    rw [hcur0]; simp only [Array.toList_append, List.append_assoc]
    exact List.take_left' hfl1
  obtain ⟨W0, hW0⟩ : ∃ W0, W0 = w.drew.alloc (.cells cur0 137) := ⟨_, rfl⟩
  have hb0 : W0.heap[w.heap.size]? = some (.cells cur0 137 (0, 0)) := by rw [hW0]; exact heap_alloc_new w.drew _
  have hold : ∀ k, k < w.heap.size → W0.heap[k]? = w.heap[k]? := by intro k hk; rw [hW0]; exact Below.heap_alloc w.drew _ k hk
  have hcp1 := fun dc => run_copy_at (P := Tryz.prog) (w := W0) (dT := 113) (sT := 113) (ty := 3) Tryz.underlying113 (ety_size etyTm) (b := w.heap.size) (o := i * 2) (dl := n + 1 - i) (dc := dc) (sl := 1) (sc := 1) hb0 (ao := some ⟨yb, 0, none⟩) (cs := tmE.enc x) (m := 1)
    (by show min _ _ = _; omega) rfl (by intro h; cases h)
    (by intro a ha j u hu; cases ha; rw [Addr.add_lit, Nat.zero_add, World.cell?_of_block (w := w) (hold _ hyb.lt), hyb.cell]; exact hu) (tmE.one _) (by rw [hs0]; show _ + 2 ≤ _; omega)
  obtain ⟨cur1, hcur1⟩ : ∃ cur1, cur1 = (cur0.toList.take (i * 2) ++ tmE.enc x ++ cur0.toList.drop (i * 2 + (tmE.enc x).length)).toArray := ⟨_, rfl⟩
  rw [← hcur1] at hcp1
  have hs1 : cur1.size = cap * 2 := by
    rw [hcur1]; simp only [List.size_toArray, List.length_append, List.length_take, List.length_drop, Array.length_toList, hs0]
    show _ + 2 + (_ - (_ + 2)) = _
    omega
  have ht1 : cur1.toList.take (i * 2 + 2) = tmE.flat (xs.take i) ++ tmE.enc x := by
    rw [hcur1]; simp only []
    rw [ht0]
    exact List.take_left' (by rw [List.length_append, hfl1]; rfl)
  have hb1 : (W0.setRow w.heap.size cur1).heap[w.heap.size]? = some (.cells cur1 137 (0, 0)) := setRow_heap W0 _ cur0 cur1 _ _ hb0
  have hlb := lt_of_block hb
  have hold1 : ∀ k, k < w.heap.size → (W0.setRow w.heap.size cur1).drew.heap[k]? = w.heap[k]? := by intro k hk; exact (setRow_other W0 _ k cur1 (by omega)).trans (hold k hk)
  have hcp2 := fun dc sc => run_copy_at (P := Tryz.prog) (w := (W0.setRow w.heap.size cur1).drew) (dT := 113) (sT := 113) (ty := 3) Tryz.underlying113 (ety_size etyTm) (b := w.heap.size) (o := (i + 1) * 2) (dl := n - i) (dc := dc) (sl := n - i) (sc := sc) hb1 (ao := some ⟨b, o + i * 2, none⟩) (cs := tmE.flat (xs.drop i)) (m := n - i)
    (by show min _ _ = _; omega) hfl2 (by intro h; cases h)
    (by intro a ha j u hu; cases ha; rw [Addr.add_lit, World.cell?_of_block (w := w) (hold1 _ hlb)]; exact hsrc i j u hu) (tmE.flat_one' _) (by rw [hs1, hfl2]; omega)
  obtain ⟨cur2, hcur2⟩ : ∃ cur2, cur2 = (cur1.toList.take ((i + 1) * 2) ++ tmE.flat (xs.drop i) ++ cur1.toList.drop ((i + 1) * 2 + (tmE.flat (xs.drop i)).length)).toArray := ⟨_, rfl⟩
  rw [← hcur2] at hcp2
  have hpost : RowPost tmE 137 (OneB b) w zs (.returned (.slice (some ⟨w.heap.size, 0, none⟩) (n + 1) cap)) ((W0.setRow w.heap.size cur1).drew.setRow w.heap.size cur2) := by
    refine ⟨_, OneB w.heap.size, rfl, .inr ⟨w.heap.size, 0, cap, cur2, ?_, rfl, setRow_heap _ _ cur1 cur2 _ _ hb1, ?_, hcap2, ?_, ?_⟩, ⟨?_, ?_, ?_, ?_, ?_⟩, fun b hb => .inr (by cases hb; exact Nat.le_refl _)⟩
    · congr 1; rw [hz]; simp; omega
    · rw [hz]; simp; omega
    · rw [hcur2]; simp only [List.size_toArray, List.length_append, List.length_take, List.length_drop, Array.length_toList, hs1, hfl2]
      show 0 + cap * 2 ≤ _; omega
    · rw [hz, List.drop_zero]
      have e : (i + 1) * 2 = i * 2 + 2 := by omega
      rw [hcur2]
      simp only []
      rw [e, ht1, Enc.flat_append, Enc.flat_cons, ← List.append_assoc]
      exact List.take_left' (by simp only [List.length_append, hfl1, hfl2, List.length_take, List.length_cons, List.length_drop, hx]; show _ + 2 + _ = (_ + (_ + 1)) * 2; omega)
    · rw [hW0]; rfl
    · rw [hW0]; rfl
    · rw [hW0]; rfl
    · rw [hW0]; simp [World.setRow]
    · intro k hk _; exact (setRow_other _ _ k cur2 (by omega)).trans (hold1 k hk)
  obtain rfl : W0 = (w.alloc (.cells cur0 137)).drew := hW0
  have hp := Lib.hid hpost
  have HR := Lib.hid hr
  have HC1 := Lib.hid hcp1
  have HC2 := Lib.hid hcp2
  have hb2 : ¬ (cap = i + 1) := by omega
  have hb4 : ¬ (cap = i) := by omega
  have hb5 : i ≤ n := by omega
  have hb6 : ¬ (c = i) := by omega
  have hb7 : i ≤ c := by omega
  have hw0 : IntKind.i64.wrap ((n : Int) + 1) = (n : Int) + 1 := by rw [IntKind.wrap_i64]; omega
  have hw1 : IntKind.i64.wrap ((i : Int) + 1) = (i : Int) + 1 := by rw [IntKind.wrap_i64]; omega
  have hb1 : (0 : Int) ≤ (i : Int) + 1 := by omega
  have htn : ((i : Int) + 1).toNat = i + 1 := by omega
  clear hpost hr hcp1 hcp2 hcur0 hcur1 hcur2 hfl1 hfl2 hb0 hs0 hs1 ht0 ht1 hold hold1 hsrc hcur hb hz hx e1 hc3 hyb
  go_enter Tryz.func91, Tryz.ntmps91
  have hcp1 := HC1.out
  go_wp2_with (at_builtin; refine wpList_append_by ⟨rfl, rfl, rfl, rfl⟩ HR.out ?_)
  go_region_law (refine step_copy_by rfl _ _ _ _ rfl (by simp [Act.eval, Act.put]; rfl) (by simp [Act.eval, Act.put]; rfl) (HC2.out _ _) ?_)
  go_wp2
  go_ret
  exact hp.out

/-- slices.Insert of one element at a row of sleepers. -/
theorem ins_tm (w : World) (F : Nat → Prop) (v : Value) (xs : List (Int × Int)) (x : Int × Int) (hrow : Row tmE 137 w F v xs) (yb : Nat) (T' : TypeId) (hyb : Blk w yb T' (tmE.enc x)) (hyF : ¬ F yb) (i : Nat) (hi : i ≤ xs.length) (hn : xs.length ≤ 1000000000) :
    Calls Tryz.prog 91 #[v, .int .i64 i, .slice (some ⟨yb, 0, none⟩) 1 1] w (RowPost tmE 137 F w (xs.take i ++ x :: xs.drop i)) := by
  by_cases hin : i = xs.length
  · subst hin
    exact ins_tm_end w F v xs _ x (by simp) hrow yb T' hyb hn
  · rcases hrow with ⟨rfl, rfl, rfl⟩ | ⟨b, o, c, cur, rfl, rfl, hb, hc1, hc2, hc3, hcur⟩
    · simp at hi hin; omega
    · by_cases hroom : xs.length + 1 ≤ c
      · exact ins_tm_shift w b o c _ cur xs _ x i rfl rfl hb hc2 hc3 hcur yb T' hyb hyF (by omega) hroom hn
      · exact ins_tm_grow w b o c _ cur xs _ x i rfl rfl hb hc1 hc3 hcur yb T' hyb (by omega) (by omega) hn
theorem zero_cells_tm (n : Nat) : ∀ u ∈ (Builtin.zeroCells (Value.agg #[.int .i64 0, .int .i64 0]).cells n).toList, u.oneCell' = true := by
  intro u hu
  simp only [Builtin.zeroCells, Value.cells, List.size_toArray, List.length_cons, List.length_nil, Array.toList_map, List.mem_map] at hu
  obtain ⟨k, _, rfl⟩ := hu
  rcases (show k % 2 = 0 ∨ k % 2 = 1 by omega) with h | h <;> simp [h, Value.oneCell']

set_option maxHeartbeats 1000000 in
set_option maxRecDepth 100000 in
theorem del_tm_at (w : World) (b o c n : Nat) (cur : Array Value) (xs zs : List (Int × Int)) (i : Nat) (hz : zs = xs.take i ++ xs.drop (i + 1)) (hx : xs.length = n) (hb : w.heap[b]? = some (.cells cur 137 (0, 0))) (hc1 : n ≤ c) (hc2 : c ≤ maxLen) (hc3 : o + c * 2 ≤ cur.size) (hcur : (cur.toList.drop o).take (n * 2) = tmE.flat xs)
    (hi : i < n) (hn : n ≤ 1000000000) :
    Calls Tryz.prog 86 #[.slice (some ⟨b, o, none⟩) n c, .int .i64 i, .int .i64 (i + 1)] w (RowPost tmE 137 (OneB b) w zs) := by
  have hne : ((i : Int) == (i : Int) + 1) = false := by simp; omega
  have hlen : cur.toList.length = cur.size := by simp
  -- the append in place
  have hrow : Row tmE 137 w.drew (OneB b) (.slice (some ⟨b, o, none⟩) (xs.take i).length c) (xs.take i) := by
    refine .inr ⟨b, o, c, cur, rfl, rfl, hb, by simp; omega, hc2, hc3, ?_⟩
    rw [List.length_take, hx, Nat.min_eq_left (by omega)]
    rw [← tmE.flat_take, ← hcur, List.take_take]
    congr 1
    show i * 2 = min (i * 2) (n * 2); omega
  have hil : (xs.take i).length = i := by rw [List.length_take, hx]; omega
  have hdl : (xs.drop (i + 1)).length = n - (i + 1) := by rw [List.length_drop, hx]
  have hcell : ∀ j u, (tmE.flat (xs.drop (i + 1)))[j]? = some u → w.drew.cell? ⟨b, o + (i + 1) * 2 + j, none⟩ = some u := by
    intro j u hu
    rw [cell_of_row w.drew b _ cur 137 (0, 0) hb]
    rw [← tmE.flat_drop, ← hcur] at hu
    rw [List.getElem?_drop, List.getElem?_take] at hu
    split at hu
    · rw [List.getElem?_drop] at hu
      rw [← Array.getElem?_toList, ← hu]
      show _ = cur.toList[o + ((i + 1) * 2 + j)]?
      congr 1; omega
    · cases hu
  have hap : ∀ (X : Option Addr) (m dc : Nat), m = n - (i + 1) → (¬ c = i + 1 → X = some ⟨b, o + (i + 1) * 2, none⟩ ∧ dc = c - (i + 1)) → (c = i + 1 → X = some ⟨b, o, none⟩ ∧ dc = 0) → ∃ cur1, cur1.size = cur.size ∧ (cur1.toList.drop o).take ((n - 1) * 2) = tmE.flat zs ∧
      (Builtin.append_ #[113, 113] 113 #[.slice (some ⟨b, o, none⟩) i c, .slice X m dc]).run Tryz.prog w.drew = .ok (.slice (some ⟨b, o, none⟩) (n - 1) c) (w.drew.setRow b cur1) := by
    intro X m dc hm hX1 hX2
    subst hm
    obtain ⟨ii, hii, hzz, hss, hbb⟩ := info_parts infoTm
    have hfl : (tmE.flat (xs.drop (i + 1))).length = (n - (i + 1)) * 2 := by rw [tmE.flat_length, hdl]; rfl
    have hfl0 : (tmE.flat (xs.take i)).length = i * 2 := by rw [tmE.flat_length, hil]; rfl
    have hf : (Builtin.firstCells 2 (n - (i + 1)) (.slice X (n - (i + 1)) dc)).run Tryz.prog w.drew = .ok (tmE.flat (xs.drop (i + 1))).toArray w.drew := by
      by_cases hcc : c = i + 1
      · obtain ⟨rfl, rfl⟩ := hX2 hcc
        have e0 : n - (i + 1) = 0 := by omega
        rw [e0] at hfl ⊢
        have : tmE.flat (xs.drop (i + 1)) = [] := List.eq_nil_of_length_eq_zero (by simpa using hfl)
        rw [this]
        exact run_firstCells_some (P := Tryz.prog) w.drew 2 0 _ _ _ [] rfl (by intro j u h; simp at h)
      · obtain ⟨rfl, rfl⟩ := hX1 hcc
        exact run_firstCells_some (P := Tryz.prog) w.drew 2 _ _ _ _ _ hfl (fun j u hu => by rw [Addr.add_lit]; exact hcell j u hu)
    have hst := run_storeCells_at Tryz.prog b (o + i * 2) 137 (tmE.flat (xs.drop (i + 1))) 0 cur w.drew hb (by rw [hfl]; omega) (tmE.flat_one' _)
    simp only [Nat.add_zero] at hst
    refine ⟨(cur.toList.take (o + i * 2) ++ tmE.flat (xs.drop (i + 1)) ++ cur.toList.drop (o + i * 2 + (tmE.flat (xs.drop (i + 1))).length)).toArray, ?_, ?_, ?_⟩
    rotate_left 2
    · have hroom : i + (n - (i + 1)) ≤ c := by omega
      have e1 : i + (n - (i + 1)) = n - 1 := by omega
      simp [Builtin.append_, run_underlying Tryz.underlying113, sizeOf, typeInfo, hii, hss, Builtin.lenOf, hf, Addr.add_lit, hst, e1]
      intro h; omega
    · simp only [List.size_toArray, List.length_append, List.length_take, List.length_drop, hlen, hfl]; omega
    · have htm := take_mid cur.toList o (i * 2) (tmE.flat (xs.drop (i + 1))).length (tmE.flat (xs.drop (i + 1))) rfl (by rw [hlen, hfl]; omega)
      have e2 : (n - 1) * 2 = i * 2 + (tmE.flat (xs.drop (i + 1))).length := by rw [hfl]; omega
      rw [e2]
      show List.take _ (List.drop o (List.take (o + i * 2) cur.toList ++ tmE.flat (xs.drop (i + 1)) ++ List.drop (o + i * 2 + (tmE.flat (xs.drop (i + 1))).length) cur.toList)) = _
      rw [htm, hz, Enc.flat_append]
      congr 1
      rw [← tmE.flat_take, ← hcur, List.take_take]
      congr 1
      show i * 2 = min (i * 2) (n * 2); omega
  -- the clear
  have hclr : ∀ cur1 : Array Value, cur1.size = cur.size → (cur1.toList.drop o).take ((n - 1) * 2) = tmE.flat zs → ∃ cur2, (∀ dc, (Builtin.clear_ #[113] 0 #[.slice (some ⟨b, o + (n - 1) * 2, none⟩) 1 dc]).run Tryz.prog (w.drew.setRow b cur1) = .ok (.tuple #[]) ((w.drew.setRow b cur1).setRow b cur2)) ∧
      RowPost tmE 137 (OneB b) w zs (.returned (.slice (some ⟨b, o, none⟩) (n - 1) c)) ((w.drew.setRow b cur1).setRow b cur2) := by
    intro cur1 hs1 ht1
    have hb1 : (w.drew.setRow b cur1).heap[b]? = some (.cells cur1 137 (0, 0)) := setRow_heap w.drew b cur cur1 _ _ hb
    have hl1 : cur1.toList.length = cur.size := by simp [hs1]
    have hzl : (Builtin.zeroCells (Value.agg #[.int .i64 0, .int .i64 0]).cells 1).toList.length = 2 := by rw [Array.length_toList, size_zeroCells]; rfl
    refine ⟨_, fun dc => run_clear_at (P := Tryz.prog) Tryz.underlying113 etyTm hb1 (by omega) (by rw [hs1]; show _ + 1 * 2 ≤ _; omega) (zero_cells_tm 1), ?_⟩
    refine ⟨_, OneB b, rfl, .inr ⟨b, o, c, _, ?_, rfl, setRow_heap _ b cur1 _ _ _ hb1, ?_, hc2, ?_, ?_⟩, ⟨rfl, rfl, rfl, by simp [World.setRow], fun k _ hk => (setRow_other _ b k _ (fun e => hk e)).trans (setRow_other w.drew b k _ (fun e => hk e))⟩, fun b hb => .inl hb⟩
    · congr 1; rw [hz]; simp; omega
    · rw [hz]; simp; omega
    · simp only [List.size_toArray, List.length_append, List.length_take, List.length_drop, hl1, hzl]
      show o + c * 2 ≤ _ + (_ - (_ + 1 * 2)); omega
    · have hzn : zs.length = n - 1 := by rw [hz]; simp; omega
      rw [hzn, ← ht1]
      show List.take ((n - 1) * 2) (List.drop o (List.take (o + (n - 1) * 2) cur1.toList ++ (Builtin.zeroCells (Value.agg #[.int .i64 0, .int .i64 0]).cells 1).toList ++ List.drop (o + (n - 1) * 2 + 1 * 2) cur1.toList)) = _
      rw [List.append_assoc, List.drop_append, List.length_take, hl1, show o - min (o + (n - 1) * 2) cur.size = 0 by omega, List.drop_zero, List.drop_take]
      have e3 : o + (n - 1) * 2 - o = (n - 1) * 2 := by omega
      rw [e3]
      exact List.take_left' (by simp only [List.length_take, List.length_drop, hl1]; omega)
  have HAP := Lib.hid hap
  have HCL := Lib.hid hclr
  clear hap hclr hrow hil hdl hcell hcur hb hx hz hlen hc3
  have hb2 : ¬ (c = i) := by omega
  have hb3 : ¬ (c = n - 1) := by omega
  have hb4 : i + 1 ≤ n := by omega
  have hb5 : (0 : Int) ≤ (i : Int) + 1 := by omega
  have hw1 : IntKind.i64.wrap ((i : Int) + 1) = (i : Int) + 1 := by rw [IntKind.wrap_i64]; omega
  have htn : ((i : Int) + 1).toNat = i + 1 := by omega
  have hb6 : n - (n - 1) = 1 := by omega
  have hb7 : i ≤ n := by omega
  have hb8 : n - 1 ≤ n := by omega
  have hb9 : i ≤ c := by omega
  have hb11 : (i : Int) + 1 ≤ (n : Int) := by omega
  have hb10 : (i : Int) ≤ (i : Int) + 1 := by omega
  by_cases hcc : c = i + 1
  · subst hcc
    obtain ⟨cur1, hs1, ht1, hr1⟩ := HAP.out (some ⟨b, o, none⟩) 0 0 (by omega) (by intro h; exact absurd rfl h) (by intro _; exact ⟨rfl, rfl⟩)
    obtain ⟨cur2, hr2, hp0⟩ := HCL.out cur1 hs1 ht1
    have hp := Lib.hid hp0
    have HR := Lib.hid hr1
    clear hs1 ht1 hp0 hr1 HAP HCL
    go_enter Tryz.func86, Tryz.ntmps86
    go_wp2
    go_region_law (refine step_append_by rfl _ _ _ _ rfl (by simp [Act.eval, Act.put]) (by simp [Act.eval, Act.put]) HR.out ?_)
    go_wp2
    go_ret
    exact hp.out
  · obtain ⟨cur1, hs1, ht1, hr1⟩ := HAP.out (some ⟨b, o + (i + 1) * 2, none⟩) (n - (i + 1)) (c - (i + 1)) rfl (by intro _; exact ⟨rfl, rfl⟩) (by intro h; exact absurd h hcc)
    obtain ⟨cur2, hr2, hp0⟩ := HCL.out cur1 hs1 ht1
    have hp := Lib.hid hp0
    have HR := Lib.hid hr1
    clear hs1 ht1 hp0 hr1 HAP HCL
    go_enter Tryz.func86, Tryz.ntmps86
    go_wp2
    go_region_law (refine step_append_by rfl _ _ _ _ rfl (by simp [Act.eval, Act.put]) (by simp [Act.eval, Act.put]) HR.out ?_)
    go_wp2
    go_ret
    exact hp.out

/-- slices.Delete of one element at a row of sleepers. -/
theorem del_tm (w : World) (F : Nat → Prop) (v : Value) (xs : List (Int × Int)) (hrow : Row tmE 137 w F v xs) (i : Nat) (hi : i < xs.length) (hn : xs.length ≤ 1000000000) :
    Calls Tryz.prog 86 #[v, .int .i64 i, .int .i64 (i + 1)] w (RowPost tmE 137 F w (xs.take i ++ xs.drop (i + 1))) := by
  rcases hrow with ⟨rfl, rfl, rfl⟩ | ⟨b, o, c, cur, rfl, rfl, hb, hc1, hc2, hc3, hcur⟩
  · simp at hi
  · exact del_tm_at w b o c _ cur xs _ i rfl rfl hb hc1 hc2 hc3 hcur hi hn
end Go.Proofs.YtlhjibkkkhgonaaGreatDoor
set_option linter.unusedVariables false
set_option linter.unusedSimpArgs false
namespace Go.Proofs.YtlhjibkkkhgonaaGreatDoor
open Go.RowKit
def TmAt (w : World) (F : Nat → Prop) (p : Value) (l : List (Int × Int)) : Prop := PsAt tmE 115 137 w F p l
def TmPost (F : Nat → Prop) (w : World) (p R : Value) (l : List (Int × Int)) (e : Ending) (w' : World) : Prop := PsPost tmE 115 137 F w p R l e w'

set_option maxHeartbeats 1000000 in
set_option maxRecDepth 100000 in
theorem place_any (w : World) (b : Nat) (ao : Option Addr) (c : Nat) (l : List (Int × Int)) (id : Int) (h : w.cell? ⟨b, 0, none⟩ = some (.slice ao l.length c)) (hr : Rd tmE w (.slice ao l.length c) l) (hn : l.length ≤ 1000000000) :
    Calls Tryz.prog 85 #[.pointer (some ⟨b, 0, none⟩), .int .i64 id] w fun e w' => e = .returned (.tuple #[.int .i64 (tmPlace id l).1, .bool (tmPlace id l).2]) ∧ w = w' := by
  go_enter Tryz.func85, Tryz.ntmps85
  go_wp2
  refine wp_scope_g 0 (fun n a' w' => w = w' ∧ ∃ (k : Nat), k ≤ l.length ∧ n = l.length - k ∧ Hid ((tmPlace id l).1 = (tmPlace id (l.drop k)).1 + k ∧ (tmPlace id l).2 = (tmPlace id (l.drop k)).2) ∧ ∃ (u2 u3 u7 u8 u9 u10 u11 u12 u13 u14 u15 u16 u17 u18 u19 u20 u21 u22 u23 u24 u25 u26 u27 u28 u29 u30 u31 u32 u33 u34 u35 u36 u37 u38 u39 : Value), a' = { tmps := #[.pointer (some ⟨b, 0, none⟩), .int .i64 id, u2, u3, .int .i64 0, .bool false, .int .i64 k, u7, u8, u9, u10, u11, u12, u13, u14, u15, u16, u17, u18, u19, u20, u21, u22, u23, u24, u25, u26, u27, u28, u29, u30, u31, u32, u33, u34, u35, u36, u37, u38, u39], defers := [] }) rfl ?_ ?_
  · rintro n a' w' ⟨rfl, k, hk, rfl, hH, _, _, _, _, _, _, _, _, _, _, _, _, _, _, _, _, _, _, _, _, _, _, _, _, _, _, _, _, _, _, _, _, _, _, _, rfl⟩ K hK
    by_cases hlt : k < l.length
    · obtain ⟨sb, o, c', hv, _, _, hcell⟩ := hr.at hlt
      cases hv
      have hx : l[k]? = some l[k] := by simp [hlt]
      have h0 : w.cell? ⟨sb, o + k * 2, none⟩ = some (.int .i64 l[k].1) := hcell k 0 l[k] _ hx rfl
      have hne : ((k : Int) == (l.length : Int)) = false := by simp; omega
      have hd : l.drop k = l[k] :: l.drop (k + 1) := List.drop_eq_getElem_cons hlt
      rw [hd] at hH
      have HD := Lib.hid hd
      clear hd hcell
      go_wp2
      · have hlt' : id < l[k].1 := by assumption
        simp only [Exit.jump]
        go_wp2
        go_ret2
        have := hH.out
        simp only [tmPlace, if_pos hlt'] at this
        exact ⟨by rw [this.1, this.2]; simp, rfl⟩
      · have hle : l[k].1 ≤ id := by assumption
        have heq : (l[k].1 == id) = true := by assumption
        simp only [Exit.jump]
        go_wp2
        go_ret2
        have := hH.out
        simp only [tmPlace, if_neg (show ¬ id < l[k].1 by omega), if_pos (beq_iff_eq.1 heq)] at this
        exact ⟨by rw [this.1, this.2]; simp, rfl⟩
      · have hle : l[k].1 ≤ id := by assumption
        have heq : (l[k].1 == id) = false := by assumption
        have := hH.out
        simp only [tmPlace, if_neg (show ¬ id < l[k].1 by omega), if_neg (beq_eq_false_iff_ne.1 heq)] at this
        go_step3
        refine ⟨rfl, hK _ _ ⟨l.length - (k + 1), by omega, rfl, k + 1, hlt, rfl, ⟨by rw [this.1]; omega, this.2⟩, ?_⟩⟩
        (repeat apply Exists.intro)
        rfl
    · have hke : k = l.length := by omega
      subst hke
      have hH' := hH.out
      simp only [List.drop_length, tmPlace, Nat.zero_add] at hH'
      have HH := Lib.hid hH'
      clear hH'
      go_wp2
      simp only [Exit.jump]
      go_wp2
      go_ret2
      exact ⟨by rw [HH.out.1, HH.out.2]; simp, rfl⟩
  · intro K hK
    go_wp2
    go_step3
    go_step
    go_step
    refine hK _ _ _ ⟨rfl, 0, Nat.zero_le _, rfl, ⟨by simp, by simp⟩, ?_⟩
    (repeat apply Exists.intro)
    rfl

set_option maxHeartbeats 1000000 in
set_option maxRecDepth 100000 in
theorem tm_set (w : World) (F : Nat → Prop) (p : Value) (l : List (Int × Int)) (id u : Int) (h : TmAt w F p l) (hn : l.length ≤ 1000000000) :
    Calls Tryz.prog 56 #[p, .int .i64 id, .int .i64 u] w (TmPost F w p (.tuple #[]) (tmSet id u l)) := by
  obtain ⟨b, sv, G, rfl, hb, hr, hnb, rfl⟩ := h
  obtain ⟨ao, c, rfl, hlc⟩ := row_form hr
  have h0 : w.cell? ⟨b, 0, none⟩ = some (.slice ao l.length c) := hb.cell 0
  have hf0 := hb.frozen 0
  have hplace := place_any w b ao c l id h0 hr.rd hn
  obtain ⟨r, hR⟩ : ∃ r, r = tmPlace id l := ⟨_, rfl⟩
  have hle := tmPlace_le id l
  rw [← hR] at hplace hle
  by_cases ht : r.2 = true
  · obtain ⟨x, hx, hxe, hset, _⟩ := tmPlace_there id u l (hR ▸ ht)
    rw [← hR] at hx hset
    have hi : r.1 < l.length := (List.getElem?_eq_some_iff.1 hx).1
    obtain ⟨sb, o, c', hv, _, _, hcell⟩ := hr.rd.at hi
    cases hv
    have h1 : w.cell? ⟨sb, o + r.1 * 2 + 1, none⟩ = some (.int .i64 x.2) := hcell r.1 1 x _ hx rfl
    have hf1 : w.frozen? ⟨sb, o + r.1 * 2 + 1, none⟩ = false := hr.frozen rfl _
    have hnew : TmPost (OrB (OneB b) G) w (.pointer (some ⟨b, 0, none⟩)) (.tuple #[]) (tmSet id u l) (.returned (.tuple #[])) (w.setCell ⟨sb, o + r.1 * 2 + 1, none⟩ (.int .i64 u)) := by
      have hG : G sb := by
        rcases hr with ⟨h, _⟩ | ⟨b', o', c', cur, h, rfl, _⟩
        · cases h
        · cases h; rfl
      have hup : Upd G w (w.setCell ⟨sb, o + r.1 * 2 + 1, none⟩ (.int .i64 u)) := Upd.setCell w _ _ hG
      refine ⟨OrB (OneB b) G, rfl, ⟨b, .slice (some ⟨sb, o, none⟩) l.length c, G, rfl, hb.upd hup hnb, ?_, hnb, rfl⟩, hup.mono (fun x _ hx => .inr hx), fun x hx => .inl hx⟩
      rw [hset]
      exact Row.set (E := tmE) (x' := (id, u)) hr hx (by show [Value.int .i64 id, .int .i64 u] = [Value.int .i64 x.1, .int .i64 u]; rw [hxe]) (by decide)
    have hp := Lib.hid hnew
    have HP := Lib.hid hplace
    have HT := Lib.hid ht
    have hi' : (r.1 : Int) < (l.length : Int) := by omega
    clear hnew hplace hset hx hxe hR hcell hr ht
    go_enter Tryz.func56, Tryz.ntmps56
    go_wp2_with (go_at_call 85; refine HP.out.mono ?_; rintro e w' ⟨rfl, rfl⟩; rw [HT.out])
    go_end0
    exact hp.out
  · have ht' : r.2 = false := by simpa using ht
    obtain ⟨hset, _⟩ := tmPlace_not id u l (hR ▸ ht')
    rw [← hR] at hset
    have hins := fun (W : World) (hW : Upd NoB w W) (yb : Nat) (hyb : Blk W yb 137 (tmE.enc (id, u))) (hlt : w.heap.size ≤ yb) => ins_tm W G (.slice ao l.length c) l (id, u) (hr.upd hW (fun x _ hx => hx)) yb _ hyb (fun hx => by have := hr.lt _ hx; omega) r.1 hle hn
    rw [← hset] at hins
    have HP := Lib.hid hplace
    have HT := Lib.hid ht'
    have HI := Lib.hid hins
    have HB := Lib.hid hb
    have hbl := hb.lt
    have hnb' := Lib.hid hnb
    have HGl := Lib.hid hr.lt
    clear hplace hset hR hr ht ht' hb hnb hins
    go_enter Tryz.func56, Tryz.ntmps56
    go_wp2_with (first
      | (go_at_call 85; refine HP.out.mono ?_; rintro e w' ⟨rfl, rfl⟩; rw [HT.out])
      | (go_at_call 91; refine (HI.out _ (Upd.alloc _ _ _) _ (Blk.new _ _ _) (Nat.le_refl _)).mono ?_; rintro e w' ⟨v', F', rfl, hr', hu', hF'⟩; obtain ⟨ao', c', rfl, _⟩ := row_form hr'; have hb2 := (HB.out.upd (Upd.alloc NoB _ _) (fun x => x)).upd hu' hnb'.out; have hc2 : w'.cell? ⟨b, 0, none⟩ = some (.slice ao l.length c) := hb2.cell 0; have hf2 := hb2.frozen 0; have HR' := Lib.hid hr'; have HU' := Lib.hid hu'; have HF' := Lib.hid hF'; have HB2 := Lib.hid hb2; clear hr' hu' hF' hb2))
    go_end0
    have hup : Upd G w w' := (Upd.alloc NoB w _ |>.mono (fun x _ hx => hx.elim)).trans HU'.out
    have hFb : ¬ F' b := fun hx => by
      rcases HF'.out b hx with h | h
      · exact hnb'.out h
      · simp at h; omega
    refine ⟨OrB (OneB b) F', rfl, ⟨b, _, F', rfl, HB2.out.set 0 _, HR'.out.upd (Upd.setCell (F := OneB b) w' _ _ rfl) (fun x hx hxb => hFb (by cases hxb; exact hx)), hFb, rfl⟩, (hup.mono (fun x _ hx => .inr hx)).trans (Upd.setCell w' _ _ (.inl rfl)), ?_⟩
    rintro x (rfl | hx)
    · exact .inl (.inl rfl)
    · rcases HF'.out x hx with h | h
      · exact .inl (.inr h)
      · exact .inr (by simp at h; omega)
set_option maxHeartbeats 1000000 in
set_option maxRecDepth 100000 in
theorem tm_drop (w : World) (F : Nat → Prop) (p : Value) (l : List (Int × Int)) (id : Int) (h : TmAt w F p l) (hn : l.length ≤ 1000000000) :
    Calls Tryz.prog 49 #[p, .int .i64 id] w (TmPost F w p (.bool (tmPlace id l).2) (tmDrop id l)) := by
  have h' := h
  obtain ⟨b, sv, G, rfl, hb, hr, hnb, rfl⟩ := h
  obtain ⟨ao, c, rfl, hlc⟩ := row_form hr
  have h0 : w.cell? ⟨b, 0, none⟩ = some (.slice ao l.length c) := hb.cell 0
  have hf0 := hb.frozen 0
  have hplace := place_any w b ao c l id h0 hr.rd hn
  obtain ⟨r, hR⟩ : ∃ r, r = tmPlace id l := ⟨_, rfl⟩
  have hle := tmPlace_le id l
  rw [← hR] at hplace hle ⊢
  by_cases ht : r.2 = true
  · obtain ⟨x, hx, hxe, _, hdr⟩ := tmPlace_there id 0 l (hR ▸ ht)
    rw [← hR] at hx hdr
    have hi : r.1 < l.length := (List.getElem?_eq_some_iff.1 hx).1
    have hdel := del_tm w G (.slice ao l.length c) l hr r.1 hi hn
    rw [← hdr] at hdel
    have HP := Lib.hid hplace
    have HT := Lib.hid ht
    have HD := Lib.hid hdel
    have HB := Lib.hid hb
    have hnb' := Lib.hid hnb
    clear hplace hdr hx hxe hR hr ht hdel hb hnb h'
    go_enter Tryz.func49, Tryz.ntmps49
    go_wp2_with (first
      | (go_at_call 85; refine HP.out.mono ?_; rintro e w' ⟨rfl, rfl⟩; rw [HT.out])
      | (go_at_call 86; refine HD.out.mono ?_; rintro e w' ⟨v', F', rfl, hr', hu', hF'⟩; obtain ⟨ao', c', rfl, _⟩ := row_form hr'; have hb2 := HB.out.upd hu' hnb'.out; have hc2 : w'.cell? ⟨b, 0, none⟩ = some (.slice ao l.length c) := hb2.cell 0; have hf2 := hb2.frozen 0; have HN := Lib.hid (fun R => PsAt.put HB.out hnb'.out hu' hr' hF' R); clear hr' hu' hF' hb2))
    go_ret
    rw [HT.out]
    exact HN.out _
  · have ht' : r.2 = false := by simpa using ht
    obtain ⟨_, hdr⟩ := tmPlace_not id 0 l (hR ▸ ht')
    rw [hdr]
    have HP := Lib.hid hplace
    have HT := Lib.hid ht'
    have HH := Lib.hid h'
    clear hplace hdr hR hr ht ht' hb hnb h'
    go_enter Tryz.func49, Tryz.ntmps49
    go_wp2_with (go_at_call 85; refine HP.out.mono ?_; rintro e w' ⟨rfl, rfl⟩; rw [HT.out])
    go_ret
    rw [HT.out]
    exact ⟨_, rfl, HH.out, Upd.refl _ _, fun x hx => .inl hx⟩

theorem tm_new (w : World) : Calls Tryz.prog 36 #[] w fun e w' => e = .returned (.pointer (some ⟨w.heap.size, 0, none⟩)) ∧ w' = w.alloc (.cells #[.slice none 0 0] 115 (0,0)) := by
  go_enter Tryz.func36, Tryz.ntmps36
  go_wp2
  go_ret
  exact ⟨rfl, rfl⟩
theorem tm_new_at (w : World) : TmAt (w.alloc (.cells #[.slice none 0 0] 115 (0,0))) (OrB (OneB w.heap.size) NoB) (.pointer (some ⟨w.heap.size, 0, none⟩)) [] :=
  ⟨w.heap.size, _, NoB, rfl, Blk.new w _ [_], Row.nil _ _ _, fun h => h, rfl⟩

theorem infoIntT : (Tryz.prog.info? 3).map (fun i => (i.zero, i.size, i.bytes)) = some (some (.int .i64 0), 1, 8) := by kernel_rfl
theorem etyIntT : Ety Tryz.prog intE 3 (.int .i64 0) := by
  obtain ⟨i, hi, hz, hs, hb⟩ := info_parts infoIntT
  exact ⟨⟨i, hi, hz, hs, by omega⟩, rfl⟩

/-- What has been found so far. -/
def DueRel (w : World) (l : List (Int × Int)) (t : Int) (n : Nat) (v r i : Value) (wr : World) : Prop :=
  ∃ (k : Nat) (F1 F2 : Nat → Prop), k ≤ n ∧ i = .int .i64 k ∧ Row intE 3 wr F1 v (dueOf t (l.take k)) ∧ Row tmE 137 wr F2 r (restOf t (l.take k)) ∧ (∀ x, F1 x → w.heap.size ≤ x ∧ ¬ F2 x) ∧ (∀ x, F2 x → w.heap.size ≤ x) ∧ Upd NoB w wr

theorem new_two (w : World) (o : Obj) (T' : TypeId) (cs : List Value) : Blk ((w.alloc o).alloc (.cells cs.toArray T')) (w.heap.size + 1) T' cs := by
  have := Blk.new (w.alloc o) T' cs
  simpa using this
theorem upd_two (w : World) (o o' : Obj) : Upd NoB w ((w.alloc o).alloc o') := (Upd.alloc _ _ _).trans (Upd.alloc _ _ _)

set_option maxHeartbeats 1000000 in
set_option maxRecDepth 100000 in
theorem tm_due (w : World) (F : Nat → Prop) (p : Value) (l : List (Int × Int)) (t : Int) (h : TmAt w F p l) (hn : l.length ≤ 1000000000) :
    Calls Tryz.prog 66 #[p, .int .i64 t] w fun e w' => ∃ v F' G, e = .returned v ∧ TmAt w' F' p (restOf t l) ∧ Upd F w w' ∧ (∀ b, F' b → F b ∨ w.heap.size ≤ b) ∧ Row intE 3 w' G v (dueOf t l) ∧ ∀ x, G x → w.heap.size ≤ x ∧ ¬ F' x := by
  obtain ⟨b, sv, G, rfl, hb, hr, hnb, rfl⟩ := h
  obtain ⟨ao, c, rfl, hlc⟩ := row_form hr
  have h0 : w.cell? ⟨b, 0, none⟩ = some (.slice ao l.length c) := hb.cell 0
  have hf0 := hb.frozen 0
  have hbl := hb.lt
  have hrd := hr.rd
  have hgl := hr.lt
  obtain ⟨n, hN⟩ : ∃ n, n = l.length := ⟨_, rfl⟩
  rw [← hN] at h0 hlc hn hrd hr
  have HB := Lib.hid hb
  have HR := Lib.hid hr
  have HNB := Lib.hid hnb
  have HRD := Lib.hid hrd
  have HN := Lib.hid hN
  have HGL := Lib.hid hgl
  clear hb hr hnb hrd hN hgl
  go_enter Tryz.func66, Tryz.ntmps66
  go_wp2
  go_loopw [5, 6, 14] (DueRel w l t n) (fun _ _ i _ => n - (intOf i).toNat)
  case atStart => exact ⟨0, NoB, NoB, Nat.zero_le _, rfl, Row.nil _ _ _, Row.nil _ _ _, fun _ h => h.elim, fun _ h => h.elim, Upd.refl _ _⟩
  case round =>
    obtain ⟨k, F1, F2, hk, rfl, hr1, hr2, hd1, hd2, hU⟩ := hrel
    by_cases hlt : k < n
    · obtain ⟨y, hy⟩ : ∃ y, l[k]? = some y := ⟨l[k]'(by rw [← HN.out]; exact hlt), by simp⟩
      obtain ⟨sb, o, c', hv, _, _, hcell⟩ := Rd.at (E := tmE) (xs := l) (v := .slice ao n c) (w := w) (by have := HRD.out; exact this) (i := k) (by rw [← HN.out]; exact hlt)
      rw [← HN.out] at hv
      cases hv
      have hsb : sb < w.heap.size := HGL.out sb (by
        have hr := HR.out
        rcases hr with ⟨h, _⟩ | ⟨b', o', c', cur, h, rfl, hh, _⟩
        · cases h
        · cases h; rfl)
      have g0 : wr.cell? ⟨sb, o + k * 2, none⟩ = some (.int .i64 y.1) := (World.cell?_of_block (w := w) (a := ⟨sb, _, none⟩) (hU.keep sb hsb (fun x => x))).trans (hcell k 0 y _ hy rfl)
      have g1 : wr.cell? ⟨sb, o + k * 2 + 1, none⟩ = some (.int .i64 y.2) := (World.cell?_of_block (w := w) (a := ⟨sb, _, none⟩) (hU.keep sb hsb (fun x => x))).trans (hcell k 1 y _ hy rfl)
      obtain ⟨hs1, hs2⟩ := due_take t l k y hy
      have hlen := due_len t l k
      have hl1 := hlen.1
      have hl2 := hlen.2
      obtain ⟨v1, w1, G1, ha1, hb1, hc1, hd1'⟩ := app_new (ty := 50) (x := y.1) Tryz.underlying50 etyIntT hr1 (by omega) (upd_two wr (.cells #[.int .i64 y.1, .int .i64 y.2] 137) _) (new_two _ _ 3 (intE.enc y.1))
      obtain ⟨v2, w2, G2, ha2, hb2, hc2, hd2'⟩ := app_new (ty := 113) (x := y) Tryz.underlying113 etyTm hr2 (by omega) (upd_two wr (.cells #[.int .i64 y.1, .int .i64 y.2] 137) _) (new_two _ _ 137 (tmE.enc y))
      have hsz := hU.size
      by_cases hyt : y.2 ≤ t
      · obtain ⟨e1, e2⟩ := hs1 hyt
        have hfin : DueRel w l t n v1 u6 (.int .i64 ((k : Int) + 1)) w1 := by
          refine ⟨k + 1, G1, F2, hlt, by go_num, by rw [e1]; exact hb1, by rw [e2]; exact hr2.upd hc1 (fun x hx hx' => (hd1 x hx').2 hx), ?_, hd2, hU.then hc1 (fun x hx hx' => by have := (hd1 x hx').1; omega)⟩
          intro x hx
          rcases hd1' x hx with h | h
          · exact hd1 x h
          · exact ⟨by omega, fun h2 => by have := hr2.lt x h2; omega⟩
        have HA := Lib.hid ha1
        have HFIN := Lib.hid hfin
        clear hs1 hs2 hlen ha1 ha2 hb1 hb2 hc1 hc2 hd1' hd2' hr1 hr2 hd1 hd2 hU hy hcell e1 e2 hfin hl1 hl2
        go_wp2_with (at_builtin; refine wpList_append_by ⟨rfl, rfl, rfl, rfl⟩ HA.out ?_)
        exact ⟨HFIN.out, by simp [intOf]; omega⟩
      · obtain ⟨e1, e2⟩ := hs2 (by omega)
        have hfin : DueRel w l t n u5 v2 (.int .i64 ((k : Int) + 1)) w2 := by
          refine ⟨k + 1, F1, G2, hlt, by go_num, by rw [e1]; exact hr1.upd hc2 (fun x hx hx' => (hd1 x hx).2 hx'), by rw [e2]; exact hb2, ?_, ?_, hU.then hc2 (fun x hx hx' => by have := hd2 x hx'; omega)⟩
          · intro x hx
            refine ⟨(hd1 x hx).1, fun h2 => ?_⟩
            rcases hd2' x h2 with h | h
            · exact (hd1 x hx).2 h
            · have := hr1.lt x hx; omega
          · intro x hx
            rcases hd2' x hx with h | h
            · exact hd2 x h
            · omega
        have HA := Lib.hid ha2
        have HFIN := Lib.hid hfin
        clear hs1 hs2 hlen ha1 ha2 hb1 hb2 hc1 hc2 hd1' hd2' hr1 hr2 hd1 hd2 hU hy hcell e1 e2 hfin hl1 hl2
        go_wp2_with (at_builtin; refine wpList_append_by ⟨rfl, rfl, rfl, rfl⟩ HA.out ?_)
        exact ⟨HFIN.out, by simp [intOf]; omega⟩
    · have hke : k = n := by omega
      subst hke
      have hbb := (HB.out.upd hU (fun x => x))
      have gc : wr.cell? ⟨b, 0, none⟩ = some (.slice ao k c) := by rw [HN.out]; exact hbb.cell 0
      have gf := hbb.frozen 0
      rw [List.take_of_length_le (by rw [HN.out]; exact Nat.le_refl _)] at hr1 hr2
      obtain ⟨ao2, c2, rfl, _⟩ := row_form hr2
      have hfin : ∃ F', TmAt (wr.setCell ⟨b, 0, none⟩ (.slice ao2 (restOf t l).length c2)) F' (.pointer (some ⟨b, 0, none⟩)) (restOf t l) ∧ Upd (OrB (OneB b) G) w (wr.setCell ⟨b, 0, none⟩ (.slice ao2 (restOf t l).length c2)) ∧ (∀ x, F' x → OrB (OneB b) G x ∨ w.heap.size ≤ x) ∧ ∃ H, Row intE 3 (wr.setCell ⟨b, 0, none⟩ (.slice ao2 (restOf t l).length c2)) H u5 (dueOf t l) ∧ ∀ x, H x → w.heap.size ≤ x ∧ ¬ F' x := by
        have hF2 : ¬ F2 b := fun h => by have := hd2 b h; omega
        refine ⟨OrB (OneB b) F2, ⟨b, _, F2, rfl, (HB.out.upd hU (fun x => x)).set 0 _, hr2.upd (Upd.setCell (F := OneB b) wr _ _ rfl) (fun x hx hxb => hF2 (by cases hxb; exact hx)), hF2, rfl⟩, (hU.mono (fun x _ hx => hx.elim)).trans (Upd.setCell wr _ _ (.inl rfl)), ?_, F1, hr1.upd (Upd.setCell (F := OneB b) wr _ _ rfl) (fun x hx hxb => by cases hxb; have := (hd1 _ hx).1; omega), fun x hx => ⟨(hd1 x hx).1, ?_⟩⟩
        · rintro x (rfl | hx)
          · exact .inl (.inl rfl)
          · exact .inr (hd2 x hx)
        · rintro (rfl | hx')
          · have := (hd1 _ hx).1; omega
          · exact (hd1 x hx).2 hx'
      have HFIN := Lib.hid hfin
      clear hfin hr1 hr2 hd1 hd2 hU hbb
      go_wp2
      go_ret
      obtain ⟨F', h1, h2, h3, H, h4, h5⟩ := HFIN.out
      exact ⟨_, F', H, rfl, h1, h2, h3, h4, h5⟩
end Go.Proofs.YtlhjibkkkhgonaaGreatDoor
set_option linter.unusedVariables false
set_option linter.unusedSimpArgs false
namespace Go.Proofs.YtlhjibkkkhgonaaGreatDoor
open Go.RowKit G
/-- Timers at b: sleepers by number. -/
def tmS (b : Nat) (l : List (Int × Int)) : SP := ⟨fun w F => TmAt w F (.pointer (some ⟨b, 0, none⟩)) l, fun h => PsAt.lt h, fun {w w' F} h a => by
  obtain ⟨b', sv, G, hp, hb, hr, hn, rfl⟩ := h
  refine ⟨b', sv, G, hp, (a.keep b' (.inl rfl)).trans hb, ?_, hn, rfl⟩
  rcases hr with hr | ⟨b2, o, c, cur, h1, rfl, hb2, r⟩
  · exact .inl hr
  · exact .inr ⟨b2, o, c, cur, h1, rfl, (a.keep b2 (.inr rfl)).trans hb2, r⟩⟩
section
variable (H : List SP) (b : Nat) (l : List (Int × Int))
theorem tmgNew : ∀ w, Sat w H → Calls Tryz.prog 36 #[] w (Ret (ι := Nat) (fun b => .pointer (some ⟨b, 0, none⟩)) fun b => tmS b [] :: H) := fun w hs =>
  (tm_new w).mono fun e w' ⟨he, hw⟩ => by
    subst hw
    exact ⟨w.heap.size, he, hs.fresh (Upd.alloc _ _ _) (G' := OrB (OneB w.heap.size) NoB) (tm_new_at w) (by
      rintro x (rfl | h)
      · exact Nat.le_refl _
      · exact h.elim)⟩
theorem tmCall {zs : List (Int × Int)} {f : FuncId} {vs : Array Value} {R : Value} (h : ∀ w F, TmAt w F (.pointer (some ⟨b, 0, none⟩)) l → Calls Tryz.prog f vs w (TmPost F w (.pointer (some ⟨b, 0, none⟩)) R zs)) :
    ∀ w, Sat w (tmS b l :: H) → Calls Tryz.prog f vs w (Ret (ι := Unit) (fun _ => R) fun _ => tmS b zs :: H) := by
  rintro w ⟨G, hG, _, h3⟩
  refine (h w G hG).mono ?_
  rintro e w' ⟨F', rfl, hr, hu, hf⟩
  have hp : Sat w (pinS (tmS b l) G :: H) := ⟨G, ⟨hG, rfl⟩, fun _ _ => trivial, h3⟩
  exact ⟨(), rfl, hp.change fun G' hG' => by
    obtain ⟨_, rfl⟩ := hG'
    exact ⟨hu, F', hr, hf⟩⟩
theorem tmgSet (id u : Int) (hn : l.length ≤ 1000000000) : ∀ w, Sat w (tmS b l :: H) → Calls Tryz.prog 56 #[.pointer (some ⟨b, 0, none⟩), .int .i64 id, .int .i64 u] w (Ret (ι := Unit) (fun _ => .tuple #[]) fun _ => tmS b (tmSet id u l) :: H) :=
  tmCall H b l fun w F h => tm_set w F _ l id u h hn
theorem tmgDrop (id : Int) (hn : l.length ≤ 1000000000) : ∀ w, Sat w (tmS b l :: H) → Calls Tryz.prog 49 #[.pointer (some ⟨b, 0, none⟩), .int .i64 id] w (Ret (ι := Unit) (fun _ => .bool (tmPlace id l).2) fun _ => tmS b (tmDrop id l) :: H) :=
  tmCall H b l fun w F h => tm_drop w F _ l id h hn
theorem tmgDue (t : Int) (hn : l.length ≤ 1000000000) : ∀ w, Sat w (tmS b l :: H) → Calls Tryz.prog 66 #[.pointer (some ⟨b, 0, none⟩), .int .i64 t] w (Ret (ι := Option Addr × Nat) (fun x => .slice x.1 (dueOf t l).length x.2) fun x => row (kE .i64) 3 (.slice x.1 (dueOf t l).length x.2) (dueOf t l) :: tmS b (restOf t l) :: H) := by
  rintro w ⟨G, hG, _, h3⟩
  refine (tm_due w G _ l t hG hn).mono ?_
  rintro e w' ⟨v, F', K, rfl, g1, g2, g3, g4, g5⟩
  have hp : Sat w (pinS (tmS b l) G :: H) := ⟨G, ⟨hG, rfl⟩, fun _ _ => trivial, h3⟩
  obtain ⟨ao, c, rfl, _⟩ := row_form g4
  refine ⟨(ao, c), rfl, Sat.openTwo (hp.change fun G' hG' => ?_)⟩
  obtain ⟨_, rfl⟩ := hG'
  refine ⟨g2, fun x => K x ∨ F' x, ⟨K, F', g4, g1, fun x hx => (g5 x hx).2, fun x => Iff.rfl⟩, ?_⟩
  rintro x (hx | hx)
  · exact .inr (g5 x hx).1
  · exact g3 x hx
end
end Go.Proofs.YtlhjibkkkhgonaaGreatDoor
set_option linter.unusedVariables false
set_option linter.unusedSimpArgs false
namespace Go.Proofs.YtlhjibkkkhgonaaGreatDoor
open Go.RowKit G
def kerS (k : Nat) (s : KS) : SP := exS fun p : Nat × Nat × Nat => two (pureS (KOk s)) (manyS [blk k 74 [.pointer (some ⟨p.1, 0, none⟩), .pointer (some ⟨p.2.1, 0, none⟩), .pointer (some ⟨p.2.2, 0, none⟩), .int .i64 s.mt, .int .i64 s.mg, .int .i64 s.nx], treeS p.1 s.N, tmS p.2.1 s.tm, obsS p.2.2 s.ob])
theorem Sat.openKer {k : Nat} {s : KS} {H : List SP} {w : World} (h : Sat w (kerS k s :: H)) : ∃ t m o, KOk s ∧ Sat w (blk k 74 [.pointer (some ⟨t, 0, none⟩), .pointer (some ⟨m, 0, none⟩), .pointer (some ⟨o, 0, none⟩), .int .i64 s.mt, .int .i64 s.mg, .int .i64 s.nx] :: treeS t s.N :: tmS m s.tm :: obsS o s.ob :: H) := by
 obtain ⟨⟨t, m, o⟩, h⟩ := Sat.openEx h
 obtain ⟨h1, h⟩ := Sat.openPure (Sat.openTwo h)
 exact ⟨t, m, o, h1, Sat.openMany h⟩
theorem Sat.closeKer {k t m o : Nat} {s : KS} {H : List SP} {w : World} (h1 : KOk s) (h : Sat w (blk k 74 [.pointer (some ⟨t, 0, none⟩), .pointer (some ⟨m, 0, none⟩), .pointer (some ⟨o, 0, none⟩), .int .i64 s.mt, .int .i64 s.mg, .int .i64 s.nx] :: treeS t s.N :: tmS m s.tm :: obsS o s.ob :: H)) : Sat w (kerS k s :: H) :=
 Sat.closeEx (t, m, o) (Sat.closeTwo (Sat.closePure h1 (Sat.closeMany (l := [blk k 74 [.pointer (some ⟨t, 0, none⟩), .pointer (some ⟨m, 0, none⟩), .pointer (some ⟨o, 0, none⟩), .int .i64 s.mt, .int .i64 s.mg, .int .i64 s.nx], treeS t s.N, tmS m s.tm, obsS o s.ob]) h)))
theorem nodup_le : ∀ {l m : List Int}, l.Nodup → (∀ x ∈ l, x ∈ m) → l.length ≤ m.length
 | [], m, _, _ => by simp
 | a :: l, m, h, hs => by
  obtain ⟨h1, h2⟩ := List.nodup_cons.1 h
  have ha : a ∈ m := hs a (by simp)
  have := nodup_le (l := l) (m := m.erase a) h2 fun x hx => (List.mem_erase_of_ne (by rintro rfl; exact h1 hx)).2 (hs x (by simp [hx]))
  rw [List.length_erase_of_mem ha] at this
  have h3 : 0 < m.length := List.length_pos_of_mem ha
  simp only [List.length_cons]; omega
theorem Off.mem {N : List Nr} {i : Int} (h : Off N i) : i ∈ N.map (·.id) := by
 obtain ⟨x, hx, e, _⟩ := h
 exact List.mem_map.2 ⟨x, hx, e⟩
theorem KOk.obb {s : KS} (h : KOk s) : ObB s.ob := fun o ho => ⟨(h.obc o ho).1, (h.obc o ho).2, by
 have h1 := nodup_le (h.obn o ho) (m := s.N.map (·.id)) fun i hi => (h.obo o ho i hi).mem
 have := h.wf.sk.len
 rw [List.length_map] at h1; omega⟩
theorem KOk.tml {s : KS} (h : KOk s) : s.tm.length ≤ 60 := by
 have h1 := nodup_le (l := s.tm.map (·.1)) (m := s.N.map (·.id)) (List.pairwise_map.2 (h.tm.imp fun {a b} hab => by omega)) fun i hi => by
  obtain ⟨p, hp, rfl⟩ := List.mem_map.1 hi
  exact (h.tmo p hp).mem
 have := h.wf.sk.len
 rw [List.length_map, List.length_map] at h1; omega
set_option maxRecDepth 100000 in
theorem thread_walk (H : List SP) (k t m o : Nat) (s : KS) (id : Int) : ∀ w, Sat w (blk k 74 [vp t, vp m, vp o, vi s.mt, vi s.mg, vi s.nx] :: treeS t s.N :: tmS m s.tm :: obsS o s.ob :: H) → Calls Tryz.prog 48 #[vp k, vi id] w (Ret (ι := Unit) (fun _ => .tuple #[.bool (isT s.N id), .bool (isR s.N id)]) fun _ => blk k 74 [vp t, vp m, vp o, vi s.mt, vi s.mg, vi s.nx] :: treeS t s.N :: tmS m s.tm :: obsS o s.ob :: H) := by
 refine enterG (fn := Tryz.f48) 31 [vp k, vi id] Tryz.func48 (by kernel_rfl) (by kernel_rfl) (by kernel_rfl) ?_
 refine Xq (Xg 2 (Xe [(0,vp k), (1,vi id), (4,.bool false), (5,.bool false)] ?_ 2))
 refine Xq (Xg 12 (Xl [(4,.bool false), (5,.bool false), (12,vp t), (13,vi id)] [(⟨k, 0, none⟩, vp t)] (hasC (ba 0) has0) ?_ 7 5))
 refine Xs (Xa (some 14) (fun _ => .tuple #[.agg #[vi ((gt s.N id).getD zeroN).id, vi ((gt s.N id).getD zeroN).par, vi ((gt s.N id).getD zeroN).wt, vi ((gt s.N id).getD zeroN).pass, .bool ((gt s.N id).getD zeroN).thr, .bool ((gt s.N id).getD zeroN).rdy], .bool (gt s.N id).isSome]) (chg_at 1 rfl (trNode _ t s.N id))) (fun _ => ?_) 6
 cases hg : gt s.N id with
 | none =>
  refine Xr [(4,.bool false), (5,.bool false), (15,.agg #[vi zeroN.id, vi zeroN.par, vi zeroN.wt, vi zeroN.pass, .bool zeroN.thr, .bool zeroN.rdy]), (16,.bool false)] ?_ 3 3
  refine Xs (Xn 95 [vi 0, vi 0, vi 0, vi 0, .bool false, .bool false] (some 6) (fun b => vp b)) (fun b1 => ?_) 2
  refine Xs (Xz [(0,vi zeroN.id), (1,vi zeroN.par), (2,vi zeroN.wt), (3,vi zeroN.pass), (4,.bool zeroN.thr), (5,.bool zeroN.rdy)]) (fun _ => ?_) 1
  refine Xe [(6,vp b1), (4,.bool false), (5,.bool false), (7,.bool false)] ?_ 1
  refine Xq (Xy0 0 [] 16 ?_)
  refine Xt [0, 1, 2, 3, 4, 5, 6, 7, 8, 9, 10, 11, 12, 13, 14, 15] [(4,.bool false), (5,.bool false)] [] has0 ?_
  refine Xd (Xv (Y0 (.tuple #[.bool false, .bool false]) (fun w hs => ?_)))
  exact ⟨(), by simp only [isT, isR, hg]; rfl, hs.tail⟩
 | some x =>
  simp only [Option.getD_some, Option.isSome_some]
  cases ht : (x.thr) with
  | true =>
   refine Xr [(4,.bool false), (5,.bool false), (15,.agg #[vi x.id, vi x.par, vi x.wt, vi x.pass, .bool true, .bool x.rdy]), (16,.bool true)] ?_ 3 3
   refine Xs (Xn 95 [vi 0, vi 0, vi 0, vi 0, .bool false, .bool false] (some 6) (fun b => vp b)) (fun b1 => ?_) 2
   refine Xs (Xz [(0,vi x.id), (1,vi x.par), (2,vi x.wt), (3,vi x.pass), (4,.bool true), (5,.bool x.rdy)]) (fun _ => ?_) 1
   refine Xe [(6,vp b1), (4,.bool false), (5,.bool false), (7,.bool true)] ?_ 1
   refine Xq (Xy0 0 [] 16 ?_)
   refine Xt [0, 1, 2, 3, 4, 5, 6, 7, 8, 9, 10, 11, 12, 13, 14, 15] [(4,.bool true), (5,.bool x.rdy)] [(⟨b1, 4, none⟩, .bool true), (⟨b1, 4, none⟩, .bool true), (⟨b1, 5, none⟩, .bool x.rdy)] (hasC (ba 0) (hasC (ba 0) (hasC (ba 0) has0))) ?_
   refine Xd (Xv (Y0 (.tuple #[.bool true, .bool x.rdy]) (fun w hs => ?_)))
   exact ⟨(), by simp only [isT, isR, hg]; simp [ht], hs.tail⟩
  | false =>
   refine Xr [(4,.bool false), (5,.bool false), (15,.agg #[vi x.id, vi x.par, vi x.wt, vi x.pass, .bool false, .bool x.rdy]), (16,.bool true)] ?_ 3 3
   refine Xs (Xn 95 [vi 0, vi 0, vi 0, vi 0, .bool false, .bool false] (some 6) (fun b => vp b)) (fun b1 => ?_) 2
   refine Xs (Xz [(0,vi x.id), (1,vi x.par), (2,vi x.wt), (3,vi x.pass), (4,.bool false), (5,.bool x.rdy)]) (fun _ => ?_) 1
   refine Xe [(6,vp b1), (4,.bool false), (5,.bool false), (7,.bool true)] ?_ 1
   refine Xq (Xy0 0 [] 16 ?_)
   refine Xt [0, 1, 2, 3, 4, 5, 6, 7, 8, 9, 10, 11, 12, 13, 14, 15] [(4,.bool false), (5,.bool false)] [(⟨b1, 4, none⟩, .bool false), (⟨b1, 4, none⟩, .bool false)] (hasC (ba 0) (hasC (ba 0) has0)) ?_
   refine Xd (Xv (Y0 (.tuple #[.bool false, .bool false]) (fun w hs => ?_)))
   exact ⟨(), by simp only [isT, isR, hg]; simp [ht], hs.tail⟩
set_option maxRecDepth 100000 in
theorem krunnable_walk (H : List SP) (k t m o : Nat) (s : KS) : ∀ w, Sat w (blk k 74 [vp t, vp m, vp o, vi s.mt, vi s.mg, vi s.nx] :: treeS t s.N :: tmS m s.tm :: obsS o s.ob :: H) → Calls Tryz.prog 27 #[vp k] w (Ret (ι := Unit) (fun _ => .bool (krunnable s)) fun _ => blk k 74 [vp t, vp m, vp o, vi s.mt, vi s.mg, vi s.nx] :: treeS t s.N :: tmS m s.tm :: obsS o s.ob :: H) := by
 refine enterG (fn := Tryz.f27) 15 [vp k] Tryz.func27 (by kernel_rfl) (by kernel_rfl) (by kernel_rfl) ?_
 refine Xq (Xg 1 (Xe [(0,vp k), (2,.bool false)] ?_ 1))
 refine Xq (Xg 11 (Xl [(2,.bool false), (9,vp t)] [(⟨k, 0, none⟩, vp t)] (hasC (ba 0) has0) ?_ 7 4))
 refine Xs (Xa (some 10) (fun _ => .tuple #[.agg #[vi ((gt s.N 0).getD zeroN).id, vi ((gt s.N 0).getD zeroN).par, vi ((gt s.N 0).getD zeroN).wt, vi ((gt s.N 0).getD zeroN).pass, .bool ((gt s.N 0).getD zeroN).thr, .bool ((gt s.N 0).getD zeroN).rdy], .bool (gt s.N 0).isSome]) (chg_at 1 rfl (trNode _ t s.N 0))) (fun _ => ?_) 6
 refine Xr [(2,.bool false), (11,.agg #[vi (((gt s.N 0).getD zeroN).id), vi (((gt s.N 0).getD zeroN).par), vi (((gt s.N 0).getD zeroN).wt), vi (((gt s.N 0).getD zeroN).pass), .bool (((gt s.N 0).getD zeroN).thr), .bool (((gt s.N 0).getD zeroN).rdy)]), (12,.bool ((gt s.N 0).isSome))] ?_ 3 3
 refine Xs (Xn 95 [vi 0, vi 0, vi 0, vi 0, .bool false, .bool false] (some 3) (fun b => vp b)) (fun b1 => ?_) 2
 refine Xs (Xz [(0,vi (((gt s.N 0).getD zeroN).id)), (1,vi (((gt s.N 0).getD zeroN).par)), (2,vi (((gt s.N 0).getD zeroN).wt)), (3,vi (((gt s.N 0).getD zeroN).pass)), (4,.bool (((gt s.N 0).getD zeroN).thr)), (5,.bool (((gt s.N 0).getD zeroN).rdy))]) (fun _ => ?_) 1
 refine Xe [(3,vp b1), (2,.bool false)] ?_ 1
 refine Xq (Xg 3 (Xm [(2,.bool (((gt s.N 0).getD zeroN).rdy))] [(⟨b1, 5, none⟩, .bool (((gt s.N 0).getD zeroN).rdy))] (hasC (ba 0) has0) ?_ 3))
 refine Xv (Y0 (.bool (((gt s.N 0).getD zeroN).rdy)) (fun w hs => ?_))
 exact ⟨(), rfl, hs.tail⟩
set_option maxRecDepth 100000 in
theorem krun_walk (H : List SP) (k t m o : Nat) (s : KS) : ∀ w, Sat w (blk k 74 [vp t, vp m, vp o, vi s.mt, vi s.mg, vi s.nx] :: treeS t s.N :: tmS m s.tm :: obsS o s.ob :: H) → Calls Tryz.prog 25 #[vp k] w (Ret (ι := Unit) (fun _ => .tuple #[vi (krun s).1.1, .bool (krun s).1.2]) fun _ => blk k 74 [vp t, vp m, vp o, vi (krun s).2.mt, vi (krun s).2.mg, vi (krun s).2.nx] :: treeS t (krun s).2.N :: tmS m (krun s).2.tm :: obsS o (krun s).2.ob :: H) := by
 refine enterG (fn := Tryz.f25) 11 [vp k] Tryz.func25 (by kernel_rfl) (by kernel_rfl) (by kernel_rfl) ?_
 refine Xq (Xg 2 (Xe [(0,vp k), (2,vi 0), (3,.bool false)] ?_ 2))
 refine Xq (Xg 9 (Xl [(2,vi 0), (3,.bool false), (7,vp t)] [(⟨k, 0, none⟩, vp t)] (hasC (ba 0) has0) ?_ 5 4))
 refine Xs (Xa (some 8) (fun _ => .tuple #[vi (runN s.N).1.1, .bool (runN s.N).1.2]) (chg_at 1 rfl (trRun _ t s.N))) (fun _ => ?_) 4
 refine Xe [(2,vi ((runN s.N).1.1)), (3,.bool ((runN s.N).1.2))] ?_ 4
 refine Xv (Y0 (.tuple #[vi ((runN s.N).1.1), .bool ((runN s.N).1.2)]) (fun w hs => ?_))
 exact ⟨(), rfl, hs⟩
set_option maxRecDepth 100000 in
theorem ksleep_walk (H : List SP) (k t m o : Nat) (s : KS) (hk : KOk s) (id u : Int) : ∀ w, Sat w (blk k 74 [vp t, vp m, vp o, vi s.mt, vi s.mg, vi s.nx] :: treeS t s.N :: tmS m s.tm :: obsS o s.ob :: H) → Calls Tryz.prog 14 #[vp k, vi id, vi u] w (Ret (ι := Unit) (fun _ => pqErr (ksleep s id u).1) fun _ => blk k 74 [vp t, vp m, vp o, vi (ksleep s id u).2.mt, vi (ksleep s id u).2.mg, vi (ksleep s id u).2.nx] :: treeS t (ksleep s id u).2.N :: tmS m (ksleep s id u).2.tm :: obsS o (ksleep s id u).2.ob :: H) := by
 have htl := hk.tml
 refine enterG (fn := Tryz.f14) 31 [vp k, vi id, vi u] Tryz.func14 (by kernel_rfl) (by kernel_rfl) (by kernel_rfl) ?_
 refine Xq (Xg 1 (Xe [(0,vp k), (1,vi id), (2,vi u), (6,.nilIface)] ?_ 1))
 refine Xq (Xq (Xg 8 (Xr [(0,vp k), (1,vi id), (2,vi u), (6,.nilIface), (10,vp k), (11,vi id)] ?_ 6 2)))
 refine Xs (Xa (some 12) (fun _ => .tuple #[.bool (isT s.N id), .bool (isR s.N id)]) (thread_walk _ k t m o s id)) (fun _ => ?_) 5
 cases hr : (isR s.N id) with
 | true =>
  have e : ksleep s id u = ((readyN s.N id false).1, { s with N := (readyN s.N id false).2, tm := tmSet id u s.tm }) := by rw [ksleep, if_neg (by rw [hr]; simp)]
  refine Xe [(0,vp k), (1,vi id), (2,vi u), (6,.nilIface), (8,.bool true)] ?_ 5
  refine Xq (Xg 2 (Xe [(0,vp k), (1,vi id), (2,vi u), (6,.nilIface), (16,.bool false)] ?_ 2))
  refine Xc false (fun h => by cases h) (fun _ => ?_)
  refine Xk (Xq (Xg 7 (Xl [(0,vp k), (1,vi id), (6,.nilIface), (21,vp m), (22,vi id), (23,vi u)] [(⟨k, 1, none⟩, vp m)] (hasC (ba 0) has0) ?_ 1 6)))
  refine Xs (Xa (some 24) (fun _ => .tuple #[]) (chg_at 2 rfl (tmgSet _ m s.tm id u (by omega)))) (fun _ => ?_) 0
  refine endR ?_
  refine Xq (Xg 7 (Xl [(6,.nilIface), (28,vp t), (29,vi id)] [(⟨k, 0, none⟩, vp t)] (hasC (ba 0) has0) ?_ 2 5))
  refine Xs (Xa (some 30) (fun _ => pqErr (readyN s.N id false).1) (chg_at 1 rfl (trReady _ t s.N id false))) (fun _ => ?_) 1
  refine Xe [(6,pqErr (readyN s.N id false).1)] ?_ 1
  refine Xv (Y0 (pqErr (readyN s.N id false).1) (fun w hs => ?_))
  rw [e]; exact ⟨(), rfl, hs⟩
 | false =>
  have e : ksleep s id u = (13, s) := by rw [ksleep, if_pos hr]
  refine Xe [(0,vp k), (1,vi id), (2,vi u), (6,.nilIface), (8,.bool false)] ?_ 5
  refine Xq (Xg 2 (Xe [(0,vp k), (1,vi id), (2,vi u), (6,.nilIface), (16,.bool true)] ?_ 2))
  refine Xc true (fun _ => ?_) (fun h => by cases h)
  refine Xq (Xg 2 (Xe [(0,vp k), (1,vi id), (2,vi u), (6,.iface 66 (vi 13))] ?_ 2))
  refine Xv (thenV (Y0 (.iface 66 (vi 13)) (fun w hs => ?_)))
  rw [e]; exact ⟨(), rfl, hs⟩
set_option maxRecDepth 100000 in
theorem kexit_walk (H : List SP) (k t m o : Nat) (s : KS) (hk : KOk s) (id : Int) : ∀ w, Sat w (blk k 74 [vp t, vp m, vp o, vi s.mt, vi s.mg, vi s.nx] :: treeS t s.N :: tmS m s.tm :: obsS o s.ob :: H) → Calls Tryz.prog 12 #[vp k, vi id] w (Ret (ι := Unit) (fun _ => pqErr (kexit s id).1) fun _ => blk k 74 [vp t, vp m, vp o, vi (kexit s id).2.mt, vi (kexit s id).2.mg, vi (kexit s id).2.nx] :: treeS t (kexit s id).2.N :: tmS m (kexit s id).2.tm :: obsS o (kexit s id).2.ob :: H) := by
 have htl := hk.tml
 refine enterG (fn := Tryz.f12) 34 [vp k, vi id] Tryz.func12 (by kernel_rfl) (by kernel_rfl) (by kernel_rfl) ?_
 refine Xq (Xg 1 (Xe [(0,vp k), (1,vi id), (4,.nilIface)] ?_ 1))
 refine Xq (Xq (Xg 8 (Xr [(0,vp k), (1,vi id), (4,.nilIface), (8,vp k), (9,vi id)] ?_ 6 2)))
 refine Xs (Xa (some 10) (fun _ => .tuple #[.bool (isT s.N id), .bool (isR s.N id)]) (thread_walk _ k t m o s id)) (fun _ => ?_) 5
 cases hr : (isT s.N id) with
 | true =>
  have e : kexit s id = ((removeN s.N id).1, { s with N := (removeN s.N id).2, tm := tmDrop id s.tm, ob := obCut s.ob id }) := by rw [kexit, if_neg (by rw [hr]; simp)]
  refine Xe [(0,vp k), (1,vi id), (4,.nilIface), (5,.bool true)] ?_ 5
  refine Xq (Xg 2 (Xe [(0,vp k), (1,vi id), (4,.nilIface), (14,.bool false)] ?_ 2))
  refine Xc false (fun h => by cases h) (fun _ => ?_)
  refine Xk (Xq (Xg 6 (Xl [(0,vp k), (1,vi id), (4,.nilIface), (19,vp m), (20,vi id)] [(⟨k, 1, none⟩, vp m)] (hasC (ba 0) has0) ?_ 1 5)))
  refine Xs (Xa (some 21) (fun _ => .bool (tmPlace id s.tm).2) (chg_at 2 rfl (tmgDrop _ m s.tm id (by omega)))) (fun _ => ?_) 0
  refine endR ?_
  refine Xq (Xg 6 (Xl [(0,vp k), (1,vi id), (4,.nilIface), (25,vp o), (26,vi id)] [(⟨k, 2, none⟩, vp o)] (hasC (ba 0) has0) ?_ 1 5))
  refine Xs (Xa (some 27) (fun _ => .bool (obHas s.ob id)) (chg_at 3 rfl (obgDrop _ o s.ob hk.obb hk.obd id))) (fun _ => ?_) 0
  refine endR ?_
  refine Xq (Xg 7 (Xl [(4,.nilIface), (31,vp t), (32,vi id)] [(⟨k, 0, none⟩, vp t)] (hasC (ba 0) has0) ?_ 2 5))
  refine Xs (Xa (some 33) (fun _ => pqErr (removeN s.N id).1) (chg_at 1 rfl (trRemove _ t s.N id))) (fun _ => ?_) 1
  refine Xe [(4,pqErr (removeN s.N id).1)] ?_ 1
  refine Xv (Y0 (pqErr (removeN s.N id).1) (fun w hs => ?_))
  rw [e]; exact ⟨(), rfl, hs⟩
 | false =>
  have e : kexit s id = (13, s) := by rw [kexit, if_pos hr]
  refine Xe [(0,vp k), (1,vi id), (4,.nilIface), (5,.bool false)] ?_ 5
  refine Xq (Xg 2 (Xe [(0,vp k), (1,vi id), (4,.nilIface), (14,.bool true)] ?_ 2))
  refine Xc true (fun _ => ?_) (fun h => by cases h)
  refine Xq (Xg 2 (Xe [(0,vp k), (1,vi id), (4,.iface 66 (vi 13))] ?_ 2))
  refine Xv (thenV (Y0 (.iface 66 (vi 13)) (fun w hs => ?_)))
  rw [e]; exact ⟨(), rfl, hs⟩
end Go.Proofs.YtlhjibkkkhgonaaGreatDoor
set_option linter.unusedVariables false
set_option linter.unusedSimpArgs false
namespace Go.Proofs.YtlhjibkkkhgonaaGreatDoor
open Go.RowKit G
theorem pqErr_0 {e : Int} (h : e = 0) : pqErr e = .nilIface := by rw [pqErr, if_pos h]
theorem pqErr_n {e : Int} (h : ¬ e = 0) : pqErr e = .iface 66 (.int .i64 e) := by rw [pqErr, if_neg h]
set_option maxRecDepth 100000 in
theorem kwait_walk (H : List SP) (k t m o : Nat) (s : KS) (hk : KOk s) (id j : Int) : ∀ w, Sat w (blk k 74 [vp t, vp m, vp o, vi s.mt, vi s.mg, vi s.nx] :: treeS t s.N :: tmS m s.tm :: obsS o s.ob :: H) → Calls Tryz.prog 16 #[vp k, vi id, vi j] w (Ret (ι := Unit) (fun _ => .tuple #[.bool (kwait s id j).1.1, pqErr (kwait s id j).1.2]) fun _ => blk k 74 [vp t, vp m, vp o, vi (kwait s id j).2.mt, vi (kwait s id j).2.mg, vi (kwait s id j).2.nx] :: treeS t (kwait s id j).2.N :: tmS m (kwait s id j).2.tm :: obsS o (kwait s id j).2.ob :: H) := by
 refine enterG (fn := Tryz.f16) 44 [vp k, vi id, vi j] Tryz.func16 (by kernel_rfl) (by kernel_rfl) (by kernel_rfl) ?_
 refine Xq (Xg 2 (Xe [(0,vp k), (1,vi id), (2,vi j), (6,.bool false), (7,.nilIface)] ?_ 2))
 refine Xq (Xq (Xg 8 (Xr [(0,vp k), (1,vi id), (2,vi j), (6,.bool false), (7,.nilIface), (13,vp k), (14,vi id)] ?_ 6 2)))
 refine Xs (Xa (some 15) (fun _ => .tuple #[.bool (isT s.N id), .bool (isR s.N id)]) (thread_walk _ k t m o s id)) (fun _ => ?_) 5
 cases hr : (isR s.N id) with
 | true =>
  refine Xe [(0,vp k), (1,vi id), (2,vi j), (6,.bool false), (7,.nilIface), (9,.bool true)] ?_ 5
  refine Xq (Xg 2 (Xe [(0,vp k), (1,vi id), (2,vi j), (6,.bool false), (7,.nilIface), (19,.bool false)] ?_ 2))
  refine Xc false (fun h => by cases h) (fun _ => ?_)
  refine Xk (Xq (Xg 12 (Xl [(0,vp k), (1,vi id), (6,.bool false), (7,.nilIface), (25,vp o), (26,vi id), (27,vi j)] [(⟨k, 2, none⟩, vp o)] (hasC (ba 0) has0) ?_ 6 6)))
  refine Xs (Xa (some 28) (fun _ => .tuple #[.bool (obWait s.ob id j).1.1, pqErr (obWait s.ob id j).1.2]) (chg_at 3 rfl (obgWait _ o s.ob hk.obb id j))) (fun _ => ?_) 5
  rcases Decidable.em ((obWait s.ob id j).1.2 = 0) with h2 | h2
  ·rw [pqErr_0 h2]
   cases h3 : ((obWait s.ob id j).1.1) with
   | true =>
    have e : kwait s id j = ((obWait s.ob id j).1, { s with ob := (obWait s.ob id j).2 }) := by rw [kwait, if_neg (by rw [hr]; simp), if_pos (.inr h3)]
    refine Xe [(0,vp k), (1,vi id), (6,.bool false), (7,.nilIface), (10,.bool true), (11,.nilIface)] ?_ 5
    refine Xq (Xq (Xg 5 (Xe [(0,vp k), (1,vi id), (6,.bool false), (7,.nilIface), (10,.bool true), (11,.nilIface), (35,.bool true)] ?_ 5)))
    refine Xc true (fun _ => ?_) (fun h => by cases h)
    refine Xq (Xg 4 (Xe [(0,vp k), (1,vi id), (6,.bool true), (7,.nilIface)] ?_ 4))
    refine Xv (thenV (Y0 (.tuple #[.bool true, .nilIface]) (fun w hs => ?_)))
    rw [e]; exact ⟨(), by simp only; rw [h3, pqErr_0 h2], hs⟩
   | false =>
    have e : kwait s id j = ((false, (readyN s.N id false).1), { s with N := (readyN s.N id false).2, ob := (obWait s.ob id j).2 }) := by rw [kwait, if_neg (by rw [hr]; simp), if_neg (by rw [h2, h3]; simp)]
    refine Xe [(0,vp k), (1,vi id), (6,.bool false), (7,.nilIface), (10,.bool false), (11,.nilIface)] ?_ 5
    refine Xq (Xq (Xg 5 (Xe [(0,vp k), (1,vi id), (6,.bool false), (7,.nilIface), (10,.bool false), (11,.nilIface), (35,.bool false)] ?_ 5)))
    refine Xc false (fun h => by cases h) (fun _ => ?_)
    refine Xk (Xq (Xg 8 (Xl [(6,.bool false), (7,.nilIface), (41,vp t), (42,vi id)] [(⟨k, 0, none⟩, vp t)] (hasC (ba 0) has0) ?_ 3 5)))
    refine Xs (Xa (some 43) (fun _ => pqErr (readyN s.N id false).1) (chg_at 1 rfl (trReady _ t s.N id false))) (fun _ => ?_) 2
    refine Xe [(6,.bool false), (7,pqErr (readyN s.N id false).1)] ?_ 2
    refine Xv (Y0 (.tuple #[.bool false, pqErr (readyN s.N id false).1]) (fun w hs => ?_))
    rw [e]; exact ⟨(), rfl, hs⟩
  ·rw [pqErr_n h2]
   have e : kwait s id j = ((obWait s.ob id j).1, { s with ob := (obWait s.ob id j).2 }) := by rw [kwait, if_neg (by rw [hr]; simp), if_pos (.inl h2)]
   refine Xe [(0,vp k), (1,vi id), (6,.bool false), (7,.nilIface), (10,.bool ((obWait s.ob id j).1.1)), (11,.iface 66 (vi ((obWait s.ob id j).1.2)))] ?_ 5
   refine Xq (Xq (Xg 5 (Xe [(0,vp k), (1,vi id), (6,.bool false), (7,.nilIface), (10,.bool ((obWait s.ob id j).1.1)), (11,.iface 66 (vi ((obWait s.ob id j).1.2))), (35,.bool true)] ?_ 5)))
   refine Xc true (fun _ => ?_) (fun h => by cases h)
   refine Xq (Xg 4 (Xe [(0,vp k), (1,vi id), (6,.bool ((obWait s.ob id j).1.1)), (7,.iface 66 (vi ((obWait s.ob id j).1.2)))] ?_ 4))
   refine Xv (thenV (Y0 (.tuple #[.bool ((obWait s.ob id j).1.1), .iface 66 (vi ((obWait s.ob id j).1.2))]) (fun w hs => ?_)))
   rw [e]; exact ⟨(), by simp only; rw [pqErr_n h2], hs⟩
 | false =>
  have e : kwait s id j = ((false, 13), s) := by rw [kwait, if_pos hr]
  refine Xe [(0,vp k), (1,vi id), (2,vi j), (6,.bool false), (7,.nilIface), (9,.bool false)] ?_ 5
  refine Xq (Xg 2 (Xe [(0,vp k), (1,vi id), (2,vi j), (6,.bool false), (7,.nilIface), (19,.bool true)] ?_ 2))
  refine Xc true (fun _ => ?_) (fun h => by cases h)
  refine Xq (Xg 3 (Xe [(0,vp k), (1,vi id), (2,vi j), (6,.bool false), (7,.iface 66 (vi 13))] ?_ 3))
  refine Xv (thenV (Y0 (.tuple #[.bool false, .iface 66 (vi 13)]) (fun w hs => ?_)))
  rw [e]; exact ⟨(), rfl, hs⟩
set_option maxRecDepth 100000 in
theorem ksignal_walk (H : List SP) (k t m o : Nat) (s : KS) (hk : KOk s) (j : Int) : ∀ w, Sat w (blk k 74 [vp t, vp m, vp o, vi s.mt, vi s.mg, vi s.nx] :: treeS t s.N :: tmS m s.tm :: obsS o s.ob :: H) → Calls Tryz.prog 18 #[vp k, vi j] w (Ret (ι := Unit) (fun _ => pqErr (ksignal s j).1) fun _ => blk k 74 [vp t, vp m, vp o, vi (ksignal s j).2.mt, vi (ksignal s j).2.mg, vi (ksignal s j).2.nx] :: treeS t (ksignal s j).2.N :: tmS m (ksignal s j).2.tm :: obsS o (ksignal s j).2.ob :: H) := by
 refine enterG (fn := Tryz.f18) 31 [vp k, vi j] Tryz.func18 (by kernel_rfl) (by kernel_rfl) (by kernel_rfl) ?_
 refine Xq (Xg 1 (Xe [(0,vp k), (1,vi j), (4,.nilIface)] ?_ 1))
 refine Xq (Xg 13 (Xl [(0,vp k), (4,.nilIface), (12,vp o), (13,vi j)] [(⟨k, 2, none⟩, vp o)] (hasC (ba 0) has0) ?_ 8 5))
 refine Xs (Xa (some 14) (fun _ => .tuple #[vi (obSig s.ob j).1.1, .bool (obSig s.ob j).1.2.1, pqErr (obSig s.ob j).1.2.2]) (chg_at 3 rfl (obgSig _ o s.ob hk.obb j))) (fun _ => ?_) 7
 rcases Decidable.em ((obSig s.ob j).1.2.2 = 0) with h2 | h2
 ·rw [pqErr_0 h2]
  cases h3 : ((obSig s.ob j).1.2.1) with
  | true =>
   have e : ksignal s j = ((readyN s.N (obSig s.ob j).1.1 true).1, { s with N := (readyN s.N (obSig s.ob j).1.1 true).2, ob := (obSig s.ob j).2 }) := by rw [ksignal, if_neg (by rw [h2, h3]; simp)]
   refine Xe [(0,vp k), (4,.nilIface), (5,vi ((obSig s.ob j).1.1)), (6,.bool true), (7,.nilIface)] ?_ 7
   refine Xq (Xq (Xg 6 (Xe [(0,vp k), (4,.nilIface), (5,vi ((obSig s.ob j).1.1)), (7,.nilIface), (23,.bool false)] ?_ 6)))
   refine Xc false (fun h => by cases h) (fun _ => ?_)
   refine Xk (Xq (Xg 7 (Xl [(4,.nilIface), (28,vp t), (29,vi ((obSig s.ob j).1.1))] [(⟨k, 0, none⟩, vp t)] (hasC (ba 0) has0) ?_ 2 5)))
   refine Xs (Xa (some 30) (fun _ => pqErr (readyN s.N (obSig s.ob j).1.1 true).1) (chg_at 1 rfl (trReady _ t s.N (obSig s.ob j).1.1 true))) (fun _ => ?_) 1
   refine Xe [(4,pqErr (readyN s.N (obSig s.ob j).1.1 true).1)] ?_ 1
   refine Xv (Y0 (pqErr (readyN s.N (obSig s.ob j).1.1 true).1) (fun w hs => ?_))
   rw [e]; exact ⟨(), rfl, hs⟩
  | false =>
   have e : ksignal s j = ((obSig s.ob j).1.2.2, { s with ob := (obSig s.ob j).2 }) := by rw [ksignal, if_pos (.inr h3)]
   refine Xe [(0,vp k), (4,.nilIface), (5,vi ((obSig s.ob j).1.1)), (6,.bool false), (7,.nilIface)] ?_ 7
   refine Xq (Xq (Xg 6 (Xe [(0,vp k), (4,.nilIface), (5,vi ((obSig s.ob j).1.1)), (7,.nilIface), (23,.bool true)] ?_ 6)))
   refine Xc true (fun _ => ?_) (fun h => by cases h)
   refine Xq (Xg 2 (Xe [(0,vp k), (4,.nilIface), (5,vi ((obSig s.ob j).1.1))] ?_ 2))
   refine Xv (thenV (Y0 (.nilIface) (fun w hs => ?_)))
   rw [e]; exact ⟨(), by simp only; rw [pqErr_0 h2], hs⟩
 ·rw [pqErr_n h2]
  have e : ksignal s j = ((obSig s.ob j).1.2.2, { s with ob := (obSig s.ob j).2 }) := by rw [ksignal, if_pos (.inl h2)]
  refine Xe [(0,vp k), (4,.nilIface), (5,vi ((obSig s.ob j).1.1)), (6,.bool ((obSig s.ob j).1.2.1)), (7,.iface 66 (vi ((obSig s.ob j).1.2.2)))] ?_ 7
  refine Xq (Xq (Xg 6 (Xe [(0,vp k), (4,.nilIface), (5,vi ((obSig s.ob j).1.1)), (7,.iface 66 (vi ((obSig s.ob j).1.2.2))), (23,.bool true)] ?_ 6)))
  refine Xc true (fun _ => ?_) (fun h => by cases h)
  refine Xq (Xg 2 (Xe [(0,vp k), (4,.iface 66 (vi ((obSig s.ob j).1.2.2))), (5,vi ((obSig s.ob j).1.1))] ?_ 2))
  refine Xv (thenV (Y0 (.iface 66 (vi ((obSig s.ob j).1.2.2))) (fun w hs => ?_)))
  rw [e]; exact ⟨(), by simp only; rw [pqErr_n h2], hs⟩
set_option maxRecDepth 100000 in
theorem knodes_walk (H : List SP) (k t m o : Nat) (s : KS) (hid : ∀ x ∈ s.N, x.id ≤ 9223372036854775807) : ∀ w, Sat w (blk k 74 [vp t, vp m, vp o, vi s.mt, vi s.mg, vi s.nx] :: treeS t s.N :: tmS m s.tm :: obsS o s.ob :: H) → Calls Tryz.prog 32 #[vp k] w (Ret (ι := Option Addr × Nat) (fun x => .slice x.1 (nodesN s.N).length x.2) fun x => row nE 95 (.slice x.1 (nodesN s.N).length x.2) (nodesN s.N) :: blk k 74 [vp t, vp m, vp o, vi s.mt, vi s.mg, vi s.nx] :: treeS t s.N :: tmS m s.tm :: obsS o s.ob :: H) := by
 refine enterG (fn := Tryz.f32) 8 [vp k] Tryz.func32 (by kernel_rfl) (by kernel_rfl) (by kernel_rfl) ?_
 refine Xq (Xg 1 (Xe [(0,vp k), (2,.slice none 0 0)] ?_ 1))
 refine Xq (Xg 6 (Xl [(2,.slice none 0 0), (6,vp t)] [(⟨k, 0, none⟩, vp t)] (hasC (ba 0) has0) ?_ 2 4))
 refine Xh0 ?_ 0 2
 refine Xh0 ?_ 1 2
 refine Xs (Xa (some 7) (fun (x : Option Addr × Nat) => .slice x.1 (nodesN s.N).length x.2) (trNodes _ t s.N hid)) (fun (x : Option Addr × Nat) => ?_) 1
 refine Xe [(2,.slice x.1 ((nodesN s.N).length) x.2)] ?_ 1
 refine Xv ?_
 refine PT.pick 1 rfl ?_
 refine PT.pick 2 rfl ?_
 refine PT.pick 2 rfl ?_
 refine Y0 (.slice x.1 ((nodesN s.N).length) x.2) (fun w hs => ?_)
 exact ⟨x, rfl, hs⟩
end Go.Proofs.YtlhjibkkkhgonaaGreatDoor
