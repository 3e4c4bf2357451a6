/- tree: shifts. Conditions: none. -/
import Derived.Test.YtjbjngikaiggdaaGreatTd
import Derived.Test.YtjbjngikaiggdaaGreatTu
set_option linter.unusedVariables false
set_option linter.unusedSimpArgs false
namespace Go.Proofs.YtjbjngikaiggdaaGreat
open Go.RowKit G
def shT (k P : Int) (z : Nd) : Nd := { z with n := shG k P z.n }
theorem shG_no {k P : Int} {x : Nr} (h : x.par ≠ k) : shG k P x = x := by unfold shG; rw [if_neg (by simpa using h)]
theorem shT_no {k P : Int} {z : Nd} (h : z.n.par ≠ k) : shT k P z = z := by unfold shT; rw [shG_no h]
def shQ (q : List (Int × Int)) (P : Int) : List (Int × Int) := q.map fun e => (mxI 0 (e.1 - P), e.2)
theorem KD_shift {N : List Nr} (hs : SK N) {g : Nr} (hg : g ∈ N) {j p k : Int} : KD (upN (N.map (shG g.id g.now)) g.id (nwF 0)) j p k ↔ ∃ v ∈ N, v.par = j ∧ v.rdy = true ∧ ((v.par = g.id ∧ p = mxI 0 (v.pass - g.now)) ∨ (v.par ≠ g.id ∧ p = v.pass)) ∧ v.id = k := by
  constructor
  · rintro ⟨z, hz, h1, h2, h3, h4⟩
    obtain ⟨v, hv, e1, e2, _, e4, _, _, e6⟩ := mem_shift hs hg hz
    exact ⟨v, hv, by rw [← e2, h1], by rw [← e4, h2], by rw [← h3]; exact e6, by rw [← e1, h4]⟩
  · rintro ⟨v, hv, h1, h2, h3, h4⟩
    have e0 : (shG g.id g.now v).rdy = v.rdy ∧ (shG g.id g.now v).pass = p := by
      unfold shG
      rcases h3 with ⟨c, h3⟩ | ⟨c, h3⟩
      · rw [if_pos (by simpa using c)]; exact ⟨rfl, h3.symm⟩
      · rw [if_neg (by simpa using c)]; exact ⟨rfl, h3.symm⟩
    have e1 := shG_skel g.id g.now
    by_cases c : v.id = g.id
    · exact ⟨nwF 0 (shG g.id g.now v), mem_upN.2 ⟨_, List.mem_map.2 ⟨v, hv, rfl⟩, .inl ⟨by rw [e1.id, c], rfl⟩⟩, by show (shG g.id g.now v).par = j; rw [e1.par, h1], by show (shG g.id g.now v).rdy = true; rw [e0.1, h2], e0.2, by show (shG g.id g.now v).id = k; rw [e1.id, h4]⟩
    · exact ⟨shG g.id g.now v, mem_upN.2 ⟨_, List.mem_map.2 ⟨v, hv, rfl⟩, .inr ⟨by rw [e1.id]; exact c, rfl⟩⟩, by rw [e1.par, h1], by rw [e0.1, h2], e0.2, by rw [e1.id, h4]⟩
theorem shift_round {N : List Nr} {T : List Nd} (hT : OkT N T) (hs : SK N) (hb : LB N) (hpn : PN N) {i : Nat} {g : Nd} (hi : T[i]? = some g) (hbig : 16777216 < g.n.now) :
    shiftE g.q g.n.now = shQ g.q g.n.now ∧ SrtE (shQ g.q g.n.now) ∧ g.q.length ≤ 64 ∧ (T.map (shT g.n.id g.n.now))[i]? = some g ∧
    OkT (shiftN N g.n.id) ((T.map (shT g.n.id g.n.now)).set i { g with n := nwF 0 g.n, q := shQ g.q g.n.now }) ∧ SameT T ((T.map (shT g.n.id g.n.now)).set i { g with n := nwF 0 g.n, q := shQ g.q g.n.now }) := by
  have hm := List.mem_of_getElem? hi
  have hgN := hT.mem_n hm
  have hgn := hb.now g.n hgN
  have hq : ∀ e ∈ g.q, g.n.now ≤ e.1 ∧ e.1 ≤ 1099511627776 := fun e he => by
    obtain ⟨p, k⟩ := e
    obtain ⟨y, hy, h1, h2, h3, _⟩ := (hT.mem g hm p k).1 he
    have a1 := hpn y hy g.n hgN h1.symm h2
    have a2 := hb.pass y hy
    simp only; omega
  have hgi : (T.map (shT g.n.id g.n.now))[i]? = some g := by
    rw [List.getElem?_map, hi, Option.map_some, shT_no (fun e => hs.ne_par hgN e.symm)]
  have hsame : SameT T (T.map (shT g.n.id g.n.now)) := by
    unfold SameT
    rw [List.map_map]
    refine List.map_congr_left fun z _ => ?_
    simp only [Function.comp, shT]
    rw [(shG_skel _ _).id]
  refine ⟨?_, ?_, by have := hT.qlen hs hm; omega, hgi, ?_, hsame.trans (SameT.set hgi ⟨rfl, rfl, rfl⟩)⟩
  · refine List.map_congr_left fun e he => ?_
    have := hq e he
    have e1 : shN g.n.now = g.n.now := by unfold shN mnI mxI; repeat' split <;> omega
    rw [e1, w64 (by omega) (by omega)]
  · unfold shQ SrtE
    rw [List.pairwise_map]
    refine (hT.srt g hm).imp_of_mem fun {a b} ha hb h => ?_
    have h1 := hq a ha
    have h2 := hq b hb
    have e1 : mxI 0 (a.1 - g.n.now) = a.1 - g.n.now := by unfold mxI; split <;> omega
    have e2 : mxI 0 (b.1 - g.n.now) = b.1 - g.n.now := by unfold mxI; split <;> omega
    unfold eLt at h ⊢
    simp only [e1, e2]
    omega
  · rw [shiftN_eq hs.nd hgN hbig]
    have hsk := hs.map _ (shG_skel g.n.id g.n.now)
    refine ⟨set_up (N := N.map (shG g.n.id g.n.now)) (by rw [← hT.n, List.map_map, List.map_map]; rfl) hsk.nd hgi (nwF 0) _ rfl, fun z hz => ?_, fun z hz p k => ?_⟩
    · rcases List.mem_or_eq_of_mem_set hz with hz | rfl
      · obtain ⟨v, hv, rfl⟩ := List.mem_map.1 hz
        exact hT.srt v hv
      · unfold shQ SrtE
        rw [List.pairwise_map]
        refine (hT.srt g hm).imp_of_mem fun {a b} ha hb h => ?_
        have h1 := hq a ha
        have h2 := hq b hb
        have e1 : mxI 0 (a.1 - g.n.now) = a.1 - g.n.now := by unfold mxI; split <;> omega
        have e2 : mxI 0 (b.1 - g.n.now) = b.1 - g.n.now := by unfold mxI; split <;> omega
        unfold eLt at h ⊢
        simp only [e1, e2]
        omega
    · show (p, k) ∈ z.q ↔ KD _ z.n.id p k
      rw [KD_shift hs hgN]
      obtain ⟨l, hl⟩ := List.mem_iff_getElem?.1 hz
      rw [List.getElem?_set] at hl
      by_cases c : i = l
      · subst c
        rw [if_pos rfl] at hl
        split at hl
        · cases hl
          show (p, k) ∈ shQ g.q g.n.now ↔ ∃ v ∈ N, v.par = g.n.id ∧ _
          simp only [shQ, List.mem_map, Prod.mk.injEq]
          constructor
          · rintro ⟨⟨p0, k0⟩, he, h1, h2⟩
            obtain ⟨y, hy, g1, g2, g3, g4⟩ := (hT.mem g hm p0 k0).1 he
            exact ⟨y, hy, g1, g2, .inl ⟨g1, by rw [g3]; exact h1.symm⟩, by rw [g4]; exact h2⟩
          · rintro ⟨v, hv, g1, g2, g3, g4⟩
            rcases g3 with ⟨_, g3⟩ | ⟨g3, _⟩
            · exact ⟨(v.pass, v.id), (hT.mem g hm _ _).2 ⟨v, hv, g1, g2, rfl, rfl⟩, g3.symm, g4⟩
            · exact absurd g1 g3
        · cases hl
      · rw [if_neg c, List.getElem?_map] at hl
        obtain ⟨z0, hz0, rfl⟩ := Option.map_eq_some_iff.1 hl
        have hne : z0.n.id ≠ g.n.id := fun e => c (hT.ix hs.nd hi hz0 e.symm)
        show (p, k) ∈ z0.q ↔ ∃ v ∈ N, v.par = (shG g.n.id g.n.now z0.n).id ∧ _
        rw [(shG_skel _ _).id, hT.mem z0 (List.mem_of_getElem? hz0) p k]
        constructor
        · rintro ⟨y, hy, g1, g2, g3, g4⟩
          exact ⟨y, hy, g1, g2, .inr ⟨by rw [g1]; exact hne, g3.symm⟩, g4⟩
        · rintro ⟨v, hv, g1, g2, g3, g4⟩
          rcases g3 with ⟨g3, _⟩ | ⟨_, g3⟩
          · exact absurd (g1.symm.trans g3) hne
          · exact ⟨v, hv, g1, g2, g3.symm, g4⟩
/-! ### while a map is gone through -/
def shD (k P : Int) (dn : List Nat) (T : List Nd) : List Nd := T.mapIdx fun i z => if i ∈ dn then shT k P z else z
theorem shD_at {k P : Int} {dn : List Nat} {T : List Nd} (j : Nat) : (shD k P dn T)[j]? = (T[j]?).map (fun z => if j ∈ dn then shT k P z else z) := by
  rw [shD, List.getElem?_mapIdx]
theorem shD_set {k P : Int} {dn : List Nat} {T : List Nd} {j : Nat} {z : Nd} (hz : T[j]? = some z) : (shD k P dn T).set j (shT k P z) = shD k P (dn ++ [j]) T := by
  apply List.ext_getElem?
  intro i
  rw [List.getElem?_set, shD_at, shD_at]
  by_cases c : j = i
  · subst c
    have := (List.getElem?_eq_some_iff.1 hz).1
    rw [if_pos rfl, if_pos (by simpa [shD] using this), hz]
    simp
  · rw [if_neg c]
    cases T[i]? with
    | none => rfl
    | some v => simp [Ne.symm c]
theorem shD_skip {k P : Int} {dn : List Nat} {T : List Nd} {j : Nat} {z : Nd} (hz : T[j]? = some z) (hp : z.n.par ≠ k) : shD k P (dn ++ [j]) T = shD k P dn T := by
  rw [← shD_set hz, shT_no hp]
  refine set_same ?_
  rw [shD_at, hz, Option.map_some, shT_no hp]
  simp
theorem shD_all {k P : Int} {dn : List Nat} {T : List Nd} (h : ∀ j, j < T.length → j ∈ dn) : shD k P dn T = T.map (shT k P) := by
  apply List.ext_getElem?
  intro i
  rw [shD_at, List.getElem?_map]
  cases hi : T[i]? with
  | none => rfl
  | some v => simp [h i (List.getElem?_eq_some_iff.1 hi).1]
theorem shD_nil {k P : Int} {T : List Nd} : shD k P [] T = T := by
  apply List.ext_getElem?
  intro i
  rw [shD_at]
  cases T[i]? <;> simp
/-- A way down: numbers, blocks. -/
def wE : Enc (Int × Nat) := ⟨1, by decide, fun e => [.pointer (some ⟨e.2, 0, none⟩)], fun _ => rfl, by intro a u hu; simp at hu; subst hu; rfl⟩
def OnT (T : List Nd) (wy : List (Int × Nat)) : Prop := ∀ e ∈ wy, ∃ (i : Nat) (z : Nd), T[i]? = some z ∧ z.n.id = e.1 ∧ z.b = e.2
theorem OnT.same {T T' : List Nd} {wy : List (Int × Nat)} (h : OnT T wy) (hs : SameT T T') : OnT T' wy := fun e he => by
  obtain ⟨i, z, h1, h2, h3⟩ := h e he
  obtain ⟨z', g1, g2, g3, _⟩ := hs.at h1
  exact ⟨i, z', g1, by rw [g2, h2], by rw [g3, h3]⟩
end Go.Proofs.YtjbjngikaiggdaaGreat
