/- Trees: what Run makes of the nodes. Conditions: none. -/
import Derived.Test.YtjbjngikaiggdaaGreatTq
import Derived.Test.YtjbjngikaiggdaaGreatTh
set_option linter.unusedVariables false
set_option linter.unusedSimpArgs false
namespace Go.Proofs.YtjbjngikaiggdaaGreat
open Go.RowKit G
/-- Below a node, or it itself. -/
inductive Bel (N : List Nr) : Int → Int → Prop
  | refl (k : Int) : Bel N k k
  | step {k t : Int} {y : Nr} : y ∈ N → y.par = k → Bel N y.id t → Bel N k t
/-- A change of nodes that leaves who they are, whether they are ready, what they weigh. -/
structure Still (g : Nr → Nr) : Prop where
  sk : Skel g
  rdy : ∀ x, (g x).rdy = x.rdy
  wt : ∀ x, (g x).wt = x.wt
theorem Still.same : Still (fun x => x) := ⟨Skel.same, fun _ => rfl, fun _ => rfl⟩
theorem Still.comp {f g : Nr → Nr} (hf : Still f) (hg : Still g) : Still (fun x => g (f x)) := ⟨hf.sk.comp hg.sk, fun x => by rw [hg.rdy, hf.rdy], fun x => by rw [hg.wt, hf.wt]⟩
theorem Still.ite {k : Int} {f : Nr → Nr} (hf : Still f) : Still (fun x => if x.id == k then f x else x) := ⟨skel_ite hf.sk, fun x => by split; exact hf.rdy x; rfl, fun x => by split; exact hf.wt x; rfl⟩
theorem nwF_still (P : Int) : Still (nwF P) := ⟨nwF_skel P, fun _ => rfl, fun _ => rfl⟩
theorem psF_still (P : Int) : Still (psF P) := ⟨psF_skel P, fun _ => rfl, fun _ => rfl⟩
theorem shG_still (k P : Int) : Still (shG k P) := ⟨shG_skel k P, fun x => by unfold shG; split <;> rfl, fun x => by unfold shG; split <;> rfl⟩
theorem Bel.still {N : List Nr} {g : Nr → Nr} (hg : Skel g) {k t : Int} (h : Bel (N.map g) k t) : Bel N k t := by
  induction h with
  | refl k => exact .refl k
  | step hy hp _ ih =>
    obtain ⟨v, hv, rfl⟩ := List.mem_map.1 hy
    rw [hg.id] at ih
    rw [hg.par] at hp
    exact .step hv hp ih
theorem KX.still {N : List Nr} {g : Nr → Nr} (hg : Still g) {k : Int} : KX (N.map g) k ↔ KX N k := by
  constructor
  · rintro ⟨z, hz, h1, h2⟩
    obtain ⟨v, hv, rfl⟩ := List.mem_map.1 hz
    exact ⟨v, hv, by rw [← hg.sk.par, h1], by rw [← hg.rdy, h2]⟩
  · rintro ⟨v, hv, h1, h2⟩
    exact ⟨g v, List.mem_map.2 ⟨v, hv, rfl⟩, by rw [hg.sk.par, h1], by rw [hg.rdy, h2]⟩
/-- One group's passes are made less: a map. -/
theorem shift_map {N : List Nr} (hs : SK N) {j : Int} {v : Nr} (hv : v ∈ N) (hj : v.id = j) : ∃ g, Still g ∧ shiftN N j = N.map g ∧ (∀ z, z.id ≠ j → (g z).now = z.now) ∧ (g v).now ≤ 16777216 ∧
    (∀ z, z.par ≠ j → (g z).pass = z.pass) ∧ (∀ z, z.par = j → (g z).pass = if 16777216 < v.now then mxI 0 (z.pass - v.now) else z.pass) := by
  subst hj
  by_cases hb : 16777216 < v.now
  · refine ⟨fun x => if (shG v.id v.now x).id == v.id then nwF 0 (shG v.id v.now x) else shG v.id v.now x, ?_, ?_, ?_, ?_, ?_, ?_⟩
    · exact (shG_still _ _).comp (Still.ite (nwF_still 0))
    · rw [shiftN_eq hs.nd hv hb, upN, List.map_map]; rfl
    · intro z hz
      have : (shG v.id v.now z).now = z.now := by unfold shG; split <;> rfl
      have h2 : (shG v.id v.now z).id = z.id := (shG_skel _ _).id z
      dsimp only
      rw [if_neg (by rw [h2]; simpa using hz), this]
    · have h2 : (shG v.id v.now v).id = v.id := (shG_skel _ _).id v
      dsimp only
      rw [if_pos (by rw [h2]; simp)]
      show (0 : Int) ≤ _; omega
    · intro z hz
      have : (shG v.id v.now z).pass = z.pass := by rw [shG_no hz]
      dsimp only
      split
      · exact this
      · exact this
    · intro z hz
      have : (shG v.id v.now z).pass = mxI 0 (z.pass - v.now) := by unfold shG; rw [if_pos (by simpa using hz)]
      rw [if_pos hb]
      dsimp only
      split
      · exact this
      · exact this
  · refine ⟨fun x => x, Still.same, by rw [shiftN_no hs.nd hv hb]; simp, fun _ _ => rfl, ?_, fun _ _ => rfl, fun _ _ => by rw [if_neg hb]⟩
    show v.now ≤ _; omega
theorem fold_shift {rk : Int → Nat} {r : Nat} : ∀ (way : List Int) {N : List Nr}, SK N → DN rk r N → way.Nodup → (∀ j ∈ way, ∃ v ∈ N, v.id = j) → (∀ z ∈ N, 16777216 < z.now → z.id ∈ way) →
    ∃ g, Still g ∧ way.foldl shiftN N = N.map g ∧ DN rk r (N.map g) ∧ (∀ v ∈ N.map g, v.now ≤ 16777216) ∧ (∀ k, k ∉ way → ∀ z ∈ N, z.par = k → (g z).pass = z.pass) ∧
      ∀ k ∈ way, ∀ v ∈ N, v.id = k → ∀ z ∈ N, z.par = k → (g z).pass = if 16777216 < v.now then mxI 0 (z.pass - v.now) else z.pass
  | [], N, hs, hd, _, _, hb => ⟨fun x => x, Still.same, by simp, by simpa using hd, fun v hv => by
      have hv' : v ∈ N := by simpa using hv
      have : ¬ 16777216 < v.now := fun h => by simpa using hb v hv' h
      omega, fun _ _ _ _ _ => rfl, fun k hk => by simp at hk⟩
  | j :: ws, N, hs, hd, hnd, hin, hb => by
    obtain ⟨hj, hnd'⟩ := List.nodup_cons.1 hnd
    obtain ⟨v, hv, hvj⟩ := hin j (by simp)
    obtain ⟨g1, s1, e1, n1, n2, p1, p2⟩ := shift_map hs hv hvj
    have hs1 : SK (N.map g1) := hs.map g1 s1.sk
    have hd1 : DN rk r (N.map g1) := e1 ▸ (hvj ▸ hd.shift hs hv)
    obtain ⟨g2, s2, e2, d2, b2, q1, q2⟩ := fold_shift ws hs1 hd1 hnd' (fun i hi => by
      obtain ⟨u, hu, hui⟩ := hin i (by simp [hi])
      exact ⟨g1 u, List.mem_map.2 ⟨u, hu, rfl⟩, by rw [s1.sk.id, hui]⟩) (fun z hz hzb => by
      obtain ⟨u, hu, rfl⟩ := List.mem_map.1 hz
      rw [s1.sk.id]
      by_cases c : u.id = j
      · have := nd_eq hs.nd hu hv (by rw [c, hvj]); subst this
        omega
      · rw [n1 u c] at hzb
        rcases List.mem_cons.1 (hb u hu hzb) with h | h
        · exact absurd h c
        · exact h)
    refine ⟨fun x => g2 (g1 x), s1.comp s2, ?_, ?_, ?_, ?_, ?_⟩
    · rw [List.foldl_cons, e1, e2, List.map_map]; rfl
    · rw [show (N.map fun x => g2 (g1 x)) = (N.map g1).map g2 by rw [List.map_map]; rfl]; exact d2
    · rw [show (N.map fun x => g2 (g1 x)) = (N.map g1).map g2 by rw [List.map_map]; rfl]; exact b2
    · intro k hk z hz hzk
      have hkj : z.par ≠ j := fun e => hk (by rw [← hzk, e]; simp)
      rw [q1 k (fun h => hk (by simp [h])) (g1 z) (List.mem_map.2 ⟨z, hz, rfl⟩) (by rw [s1.sk.par, hzk]), p1 z hkj]
    · intro k hk u hu huk z hz hzk
      rcases List.mem_cons.1 hk with rfl | hk
      · have := nd_eq hs.nd hu hv (by rw [huk, hvj]); subst this
        rw [q1 k hj (g1 z) (List.mem_map.2 ⟨z, hz, rfl⟩) (by rw [s1.sk.par, hzk]), p2 z hzk]
      · have hkj : k ≠ j := fun e => hj (e ▸ hk)
        rw [q2 k hk (g1 u) (List.mem_map.2 ⟨u, hu, rfl⟩) (by rw [s1.sk.id, huk]) (g1 z) (List.mem_map.2 ⟨z, hz, rfl⟩) (by rw [s1.sk.par, hzk]), n1 u (by rw [huk]; exact hkj), p1 z (by rw [hzk]; exact hkj)]
theorem down_all {rk : Int → Nat} : ∀ (f : Nat) {N : List Nr} {x : Nr} {way : List Int}, SK N → RK N rk → DN rk (rk x.id) N → x ∈ N → f + rk x.id = 7 → (x.thr = true ∨ KX N x.id) → x.rdy = true → (∀ z ∈ N, z.thr = false → (z.rdy = true ↔ KX N z.id)) →
    way.Nodup → (∀ j ∈ way, (∃ v ∈ N, v.id = j) ∧ rk j < rk x.id) → (∀ z ∈ N, 16777216 < z.now → z.id ∈ way) →
    ∃ g, Still g ∧ (downN f N x.id way).2 = N.map g ∧ DN rk 7 (N.map g) ∧ (∀ v ∈ N.map g, v.now ≤ 16777216) ∧ (∃ t ∈ N, t.id = (downN f N x.id way).1 ∧ t.thr = true ∧ t.rdy = true ∧ Bel N x.id t.id) ∧
      ∀ k ∈ way, ∀ v ∈ N, v.id = k → ∀ z ∈ N, z.par = k → (g z).pass = if 16777216 < v.now then mxI 0 (z.pass - v.now) else z.pass
  | 0, N, x, way, hs, hr, hd, hx, hf, _, _, _, _, _, _ => by have := (hr x hx).2.2.1; omega
  | f + 1, N, x, way, hs, hr, hd, hx, hf, hk, hxr, hrd, hnd, hin, hb => by
    rw [downN]
    cases hl : least (kidR N x.id) with
    | none =>
      simp only
      have hno : ¬ KX N x.id := fun h => (kidR_KX.2 h) (least_none.1 hl)
      have ht : x.thr = true := by rcases hk with h | h; exact h; exact absurd h hno
      obtain ⟨g, s1, e1, d1, b1, _, q2⟩ := fold_shift way hs hd hnd (fun j hj => (hin j hj).1) hb
      refine ⟨g, s1, e1, ⟨d1.wt, d1.now, fun z hz hz7 => ?_, d1.pass, d1.pu, d1.pn⟩, b1, ⟨x, hx, rfl, ht, hxr, .refl _⟩, q2⟩
      exact b1 z hz
    | some y =>
      simp only
      obtain ⟨hy, hmin⟩ := least_some hl
      obtain ⟨hyN, hyp, hyr⟩ := mem_kidR.1 hy
      obtain ⟨hd2, hyb, hyx⟩ := hd.step hs hr hx hyN hyp hyr hmin
      have hry := RK.up hs hr hyN hx hyp.symm
      have hxy : x.id ≠ y.id := fun e => by rw [e] at hry; omega
      have e0 : upN (upN N x.id fun x => { x with now := y.pass }) y.id (fun x => { x with pass := y.pass + strd y.wt }) = N.map (fun z => (fun z => if z.id == y.id then psF (y.pass + strd y.wt) z else z) ((fun z => if z.id == x.id then nwF y.pass z else z) z)) := by
        rw [upN, upN, List.map_map]; rfl
      have s0 : Still (fun z => (fun z => if z.id == y.id then psF (y.pass + strd y.wt) z else z) ((fun z => if z.id == x.id then nwF y.pass z else z) z)) := (Still.ite (nwF_still _)).comp (Still.ite (psF_still _))
      have hd3 : DN rk (rk y.id) (N.map (fun z => (fun z => if z.id == y.id then psF (y.pass + strd y.wt) z else z) ((fun z => if z.id == x.id then nwF y.pass z else z) z))) := e0 ▸ hd2
      have fy : (fun z => (fun z => if z.id == y.id then psF (y.pass + strd y.wt) z else z) ((fun z => if z.id == x.id then nwF y.pass z else z) z)) y = psF (y.pass + strd y.wt) y := by
        simp [Ne.symm hxy]
      have fo : ∀ z : Nr, z.id ≠ x.id → z.id ≠ y.id → (fun z => (fun z => if z.id == y.id then psF (y.pass + strd y.wt) z else z) ((fun z => if z.id == x.id then nwF y.pass z else z) z)) z = z := by
        intro z h1 h2; simp [h1, h2]
      have fx : (fun z => (fun z => if z.id == y.id then psF (y.pass + strd y.wt) z else z) ((fun z => if z.id == x.id then nwF y.pass z else z) z)) x = nwF y.pass x := by
        simp [nwF, hxy]
      rw [e0]
      generalize (fun z => (fun z => if z.id == y.id then psF (y.pass + strd y.wt) z else z) ((fun z => if z.id == x.id then nwF y.pass z else z) z)) = g0 at s0 hd3 fy fo fx
      have hs3 : SK (N.map g0) := hs.map g0 s0.sk
      have hr3 : RK (N.map g0) rk := fun z hz => by
        obtain ⟨v, hv, rfl⟩ := List.mem_map.1 hz
        rw [s0.sk.id, s0.sk.par, s0.sk.thr]; exact hr v hv
      have hy3 : psF (y.pass + strd y.wt) y ∈ N.map g0 := fy ▸ List.mem_map.2 ⟨y, hyN, rfl⟩
      obtain ⟨g, s1, e1, d1, b1, ⟨t, ht, hti, htt, htr, htb⟩, q⟩ := down_all f (N := N.map g0) (x := psF (y.pass + strd y.wt) y) (way := way ++ [x.id]) hs3 hr3 hd3 hy3 (by show f + rk y.id = 7; omega)
        (by
          show y.thr = true ∨ KX (N.map g0) y.id
          rw [KX.still s0]
          by_cases c : y.thr = true
          · exact .inl c
          · exact .inr ((hrd y hyN (by simpa using c)).1 hyr))
        hyr
        (fun z hz ht => by
          obtain ⟨v, hv, rfl⟩ := List.mem_map.1 hz
          rw [s0.rdy, s0.sk.id, KX.still s0]
          exact hrd v hv (by rw [← s0.sk.thr]; exact ht))
        (List.nodup_append.2 ⟨hnd, by simp, by
          intro a ha b hb' e
          simp at hb'; subst hb'; subst e
          have := (hin _ ha).2; omega⟩)
        (fun j hj => by
          show (∃ v ∈ N.map g0, v.id = j) ∧ rk j < rk y.id
          rcases List.mem_append.1 hj with hj | hj
          · obtain ⟨⟨v, hv, hvj⟩, hlt⟩ := hin j hj
            exact ⟨⟨g0 v, List.mem_map.2 ⟨v, hv, rfl⟩, by rw [s0.sk.id, hvj]⟩, by omega⟩
          · simp at hj; subst hj
            exact ⟨⟨g0 x, List.mem_map.2 ⟨x, hx, rfl⟩, s0.sk.id x⟩, by omega⟩)
        (fun z hz hzb => by
          obtain ⟨v, hv, rfl⟩ := List.mem_map.1 hz
          rw [s0.sk.id]
          by_cases c1 : v.id = x.id
          · simp [c1]
          · by_cases c2 : v.id = y.id
            · have := nd_eq hs.nd hv hyN c2; subst this
              rw [fy] at hzb
              exact List.mem_append_left _ (hb v hv hzb)
            · rw [fo v c1 c2] at hzb
              exact List.mem_append_left _ (hb v hv hzb))
      have ei : downN f (N.map g0) y.id (way ++ [x.id]) = downN f (N.map g0) (psF (y.pass + strd y.wt) y).id (way ++ [x.id]) := rfl
      rw [ei]
      obtain ⟨u, hu, rfl⟩ := List.mem_map.1 ht
      refine ⟨fun z => g (g0 z), s0.comp s1, ?_, ?_, ?_, ⟨u, hu, by rw [← s0.sk.id u]; exact hti, by rw [← s0.sk.thr u]; exact htt, by rw [← s0.rdy u]; exact htr, ?_⟩, ?_⟩
      · rw [e1, List.map_map]; rfl
      · rw [show (N.map fun z => g (g0 z)) = (N.map g0).map g by rw [List.map_map]; rfl]; exact d1
      · rw [show (N.map fun z => g (g0 z)) = (N.map g0).map g by rw [List.map_map]; rfl]; exact b1
      · have := htb.still s0.sk
        rw [s0.sk.id] at this
        exact .step hyN hyp this
      · intro k hk' v hv hvk z hz hzk
        have hkr := (hin k hk').2
        have hkx : k ≠ x.id := fun e => by rw [e] at hkr; omega
        have hky : k ≠ y.id := fun e => by rw [e] at hkr; omega
        have hzy : z.id ≠ y.id := fun e => by
          have := nd_eq hs.nd hz hyN e; subst this
          exact hkx (by rw [← hzk, hyp])
        have hgv : g0 v = v := fo v (by rw [hvk]; exact hkx) (by rw [hvk]; exact hky)
        have hgz : (g0 z).pass = z.pass := by
          by_cases c : z.id = x.id
          · have := nd_eq hs.nd hz hx c; subst this
            rw [fx]; rfl
          · rw [fo z c hzy]
        have := q k (List.mem_append_left _ hk') (g0 v) (List.mem_map.2 ⟨v, hv, rfl⟩) (by rw [s0.sk.id, hvk]) (g0 z) (List.mem_map.2 ⟨z, hz, rfl⟩) (by rw [s0.sk.par, hzk])
        rw [this, hgv, hgz]
/-- What Run makes of the nodes, as the root sees it. -/
theorem run_root {N : List Nr} (hw : WFN N) {r : Nr} (hr0 : gt N 0 = some r) (hrd : r.rdy = true) : ∃ (y : Nr) (id : Int) (g : Nr → Nr), runN N = ((id, true), N.map g) ∧ Still g ∧ WFN (N.map g) ∧ least (kidR N 0) = some y ∧
    (∃ t ∈ N, t.id = id ∧ t.thr = true ∧ t.rdy = true ∧ Bel N y.id id) ∧ ∃ δ : Int, ∀ z ∈ N, z.par = 0 → z.rdy = true → (g z).pass = z.pass + (if z.id = y.id then strd y.wt else 0) - δ := by
  have hs := hw.sk
  obtain ⟨rk, hr⟩ := hs.rk
  obtain ⟨hrN, hri⟩ := gt_mem hr0
  have hrt := hs.rt r hrN hri
  have hkx : KX N 0 := hri ▸ (hw.rd r hrN hrt.2).1 hrd
  have hrk : rk r.id = 1 := (hr r hrN).1 hri
  cases hl : least (kidR N 0) with
  | none => exact absurd (least_none.1 hl) (kidR_KX.2 hkx)
  | some y =>
    obtain ⟨hy, hmin⟩ := least_some hl
    obtain ⟨hyN, hyp, hyr⟩ := mem_kidR.1 hy
    have hd : DN rk (rk r.id) N := hw.dn rk _
    obtain ⟨hd2, hyb, hyx⟩ := hd.step hs hr hrN hyN (by rw [hyp, hri]) hyr (by rw [hri]; exact hmin)
    have hry := RK.up hs hr hyN hrN (by rw [hri, hyp])
    have hxy : r.id ≠ y.id := fun e => by rw [e] at hry; omega
    have e0 : upN (upN N 0 fun x => { x with now := y.pass }) y.id (fun x => { x with pass := y.pass + strd y.wt }) = N.map (fun z => (fun z => if z.id == y.id then psF (y.pass + strd y.wt) z else z) ((fun z => if z.id == r.id then nwF y.pass z else z) z)) := by
      rw [upN, upN, List.map_map, hri]; rfl
    have s0 : Still (fun z => (fun z => if z.id == y.id then psF (y.pass + strd y.wt) z else z) ((fun z => if z.id == r.id then nwF y.pass z else z) z)) := (Still.ite (nwF_still _)).comp (Still.ite (psF_still _))
    have hd3 : DN rk (rk y.id) (N.map (fun z => (fun z => if z.id == y.id then psF (y.pass + strd y.wt) z else z) ((fun z => if z.id == r.id then nwF y.pass z else z) z))) := by
      rw [← e0, ← hri]; exact hd2
    have fy : (fun z => (fun z => if z.id == y.id then psF (y.pass + strd y.wt) z else z) ((fun z => if z.id == r.id then nwF y.pass z else z) z)) y = psF (y.pass + strd y.wt) y := by simp [Ne.symm hxy]
    have fo : ∀ z : Nr, z.id ≠ r.id → z.id ≠ y.id → (fun z => (fun z => if z.id == y.id then psF (y.pass + strd y.wt) z else z) ((fun z => if z.id == r.id then nwF y.pass z else z) z)) z = z := by
      intro z h1 h2; simp [h1, h2]
    have fx : (fun z => (fun z => if z.id == y.id then psF (y.pass + strd y.wt) z else z) ((fun z => if z.id == r.id then nwF y.pass z else z) z)) r = nwF y.pass r := by simp [nwF, hxy]
    have hrun : runN N = (((downN 5 (N.map (fun z => (fun z => if z.id == y.id then psF (y.pass + strd y.wt) z else z) ((fun z => if z.id == r.id then nwF y.pass z else z) z))) y.id [0]).1, true), (downN 5 (N.map (fun z => (fun z => if z.id == y.id then psF (y.pass + strd y.wt) z else z) ((fun z => if z.id == r.id then nwF y.pass z else z) z))) y.id [0]).2) := by
      rw [runN, hr0]; simp only [hrd, if_true]; rw [downN, hl]; simp only; rw [e0]; rfl
    rw [hrun]
    generalize (fun z => (fun z => if z.id == y.id then psF (y.pass + strd y.wt) z else z) ((fun z => if z.id == r.id then nwF y.pass z else z) z)) = g0 at s0 hd3 fy fo fx
    have hs3 : SK (N.map g0) := hs.map g0 s0.sk
    have hr3 : RK (N.map g0) rk := fun z hz => by
      obtain ⟨v, hv, rfl⟩ := List.mem_map.1 hz
      rw [s0.sk.id, s0.sk.par, s0.sk.thr]; exact hr v hv
    have hy3 : psF (y.pass + strd y.wt) y ∈ N.map g0 := fy ▸ List.mem_map.2 ⟨y, hyN, rfl⟩
    have hrd3 : ∀ z ∈ N.map g0, z.thr = false → (z.rdy = true ↔ KX (N.map g0) z.id) := fun z hz ht => by
      obtain ⟨v, hv, rfl⟩ := List.mem_map.1 hz
      rw [s0.rdy, s0.sk.id, KX.still s0]
      exact hw.rd v hv (by rw [← s0.sk.thr]; exact ht)
    obtain ⟨g, s1, e1, d1, b1, ⟨t, ht, hti, htt, htr, htb⟩, q⟩ := down_all 5 (N := N.map g0) (x := psF (y.pass + strd y.wt) y) (way := [0]) hs3 hr3 hd3 hy3 (by show 5 + rk y.id = 7; omega)
      (by
        show y.thr = true ∨ KX (N.map g0) y.id
        rw [KX.still s0]
        by_cases c : y.thr = true
        · exact .inl c
        · exact .inr ((hw.rd y hyN (by simpa using c)).1 hyr)) hyr hrd3 (by simp)
      (fun j hj => by
        simp at hj; subst hj
        exact ⟨⟨g0 r, List.mem_map.2 ⟨r, hrN, rfl⟩, by rw [s0.sk.id, hri]⟩, by show rk 0 < rk y.id; rw [← hri]; omega⟩)
      (fun z hz hzb => by
        obtain ⟨v, hv, rfl⟩ := List.mem_map.1 hz
        rw [s0.sk.id]
        have hvn := (hw.now v hv).2
        by_cases c1 : v.id = r.id
        · simp [c1, hri]
        · by_cases c2 : v.id = y.id
          · have := nd_eq hs.nd hv hyN c2; subst this
            rw [fy] at hzb
            have : v.now ≤ 16777216 := hvn
            have : 16777216 < v.now := hzb
            omega
          · rw [fo v c1 c2] at hzb; omega)
    obtain ⟨u, hu, rfl⟩ := List.mem_map.1 ht
    have ei : downN 5 (N.map g0) y.id [0] = downN 5 (N.map g0) (psF (y.pass + strd y.wt) y).id [0] := rfl
    have sA : Still (fun z => g (g0 z)) := s0.comp s1
    have eA : (N.map fun z => g (g0 z)) = (N.map g0).map g := by rw [List.map_map]; rfl
    refine ⟨y, (downN 5 (N.map g0) y.id [0]).1, fun z => g (g0 z), by rw [eA, ← e1, ei], sA, ?_, rfl, ⟨u, hu, by rw [← s0.sk.id u]; exact hti, by rw [← s0.sk.thr u]; exact htt, by rw [← s0.rdy u]; exact htr, ?_⟩, ?_⟩
    · rw [eA]
      refine ⟨hs3.map g s1.sk, d1.wt, fun x hx => ⟨(d1.now x hx).1, b1 x hx⟩, d1.pass, fun x hx p hp e => ⟨d1.pu x hx p hp e, d1.pn x hx p hp e⟩, fun x hx ht => ?_⟩
      obtain ⟨v, hv, rfl⟩ := List.mem_map.1 hx
      show (g v).rdy = true ↔ KX ((N.map g0).map g) (g v).id
      rw [s1.rdy, s1.sk.id, KX.still s1]
      exact hrd3 v hv (by rw [← s1.sk.thr]; exact ht)
    · have := htb.still s0.sk
      rw [show (psF (y.pass + strd y.wt) y).id = y.id from rfl, hti] at this
      exact this
    · refine ⟨if 16777216 < y.pass then y.pass else 0, fun z hz hzp hzr => ?_⟩
      have hq := q 0 (by simp) (g0 r) (List.mem_map.2 ⟨r, hrN, rfl⟩) (by rw [s0.sk.id, hri]) (g0 z) (List.mem_map.2 ⟨z, hz, rfl⟩) (by rw [s0.sk.par, hzp])
      have hnow : (g0 r).now = y.pass := by rw [fx]; rfl
      rw [hnow] at hq
      have hzr0 : z.id ≠ r.id := fun e => by
        have := nd_eq hs.nd hz hrN e; subst this
        rw [hrt.1] at hzp; omega
      have hzl : y.pass ≤ z.pass := by
        have hl2 := hmin z (mem_kidR.2 ⟨hz, hzp, hzr⟩)
        have : ¬ z.pass < y.pass := fun c => by
          have : lessN z y = true := by simp [lessN, c]
          rw [this] at hl2; cases hl2
        omega
      have hst := strd_pos (hw.wt y hyN)
      have hgz : (g0 z).pass = z.pass + (if z.id = y.id then strd y.wt else 0) := by
        by_cases c : z.id = y.id
        · have := nd_eq hs.nd hz hyN c; subst this
          rw [fy, if_pos rfl]; rfl
        · rw [fo z hzr0 c, if_neg c]; omega
      show (g (g0 z)).pass = _
      rw [hq, hgz]
      by_cases c : 16777216 < y.pass
      · rw [if_pos c, if_pos c]
        unfold mxI
        split <;> split <;> omega
      · rw [if_neg c, if_neg c]; omega
end Go.Proofs.YtjbjngikaiggdaaGreat
