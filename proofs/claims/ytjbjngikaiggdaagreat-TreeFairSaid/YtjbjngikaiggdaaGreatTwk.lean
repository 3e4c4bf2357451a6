/- Trees: waking, when nothing has run yet. Conditions: none. -/
import Derived.Test.YtjbjngikaiggdaaGreatTy1
set_option linter.unusedVariables false
set_option linter.unusedSimpArgs false
namespace Go.Proofs.YtjbjngikaiggdaaGreat
open Go.RowKit G
/-- What waking leaves: who is ready stays so; passes that are none stay so. -/
structure Wk (N : List Nr) (g : Nr → Nr) : Prop where
  sk : Skel g
  wt : ∀ x, (g x).wt = x.wt ∧ (g x).now = x.now
  rdy : ∀ x, x.rdy = true → (g x).rdy = true
  zero : (∀ z ∈ N, z.pass = 0 ∧ z.now = 0) → ∀ z ∈ N, (g z).pass = 0
theorem Wk.same (N : List Nr) : Wk N (fun x => x) := ⟨Skel.same, fun _ => ⟨rfl, rfl⟩, fun _ h => h, fun h z hz => (h z hz).1⟩
theorem wake_wk : ∀ (f : Nat) (N : List Nr) (k : Int), ∃ g, Wk N g ∧ wakeN f N k = N.map g ∧ (0 < f → ∀ z ∈ N, (N.map (·.id)).Nodup → z.id = k → (g z).rdy = true)
  | 0, N, k => ⟨fun x => x, Wk.same N, by simp [wakeN], fun h => by omega⟩
  | f + 1, N, k => by
    rw [wakeN]
    cases hg : gt N k with
    | none => exact ⟨fun x => x, Wk.same N, by simp, fun _ z hz _ e => absurd e (gt_none.1 hg z hz)⟩
    | some x0 =>
      obtain ⟨hx0, hk0⟩ := gt_mem hg
      simp only
      by_cases hr : x0.rdy = true
      · rw [if_pos hr]
        exact ⟨fun x => x, Wk.same N, by simp, fun _ z hz hn e => by have := nd_eq hn hz hx0 (by rw [e, hk0]); subst this; exact hr⟩
      · rw [if_neg hr]
        cases hp : gt N x0.par with
        | none =>
          refine ⟨fun x => if x.id == k then { x with rdy := true } else x, ⟨skel_ite (f := fun x => { x with rdy := true }) skF, fun x => by by_cases c : (x.id == k) = true <;> simp [c], fun x h => by by_cases c : (x.id == k) = true <;> simp [c, h], fun h z hz => by have := (h z hz).1; by_cases c : (z.id == k) = true <;> simp [c, this]⟩, rfl, fun _ z hz _ e => by simp [e]⟩
        | some p =>
          obtain ⟨hpN, _⟩ := gt_mem hp
          simp only
          have w0 : Wk N (fun x => if x.id == k then wkF p.now x else x) := ⟨skel_ite (wkF_skel p.now), fun x => by by_cases c : (x.id == k) = true <;> simp [c, wkF], fun x h => by by_cases c : (x.id == k) = true <;> simp [c, wkF, h], fun h z hz => by
            have h1 := (h z hz).1
            have h2 := (h p hpN).2
            by_cases c : (z.id == k) = true
            · simp only [c, if_true, wkF, h1, h2]; rfl
            · simp [c, h1]⟩
          obtain ⟨g, hw, he, _⟩ := wake_wk f (upN N k (wkF p.now)) x0.par
          refine ⟨fun x => g (if x.id == k then wkF p.now x else x), ⟨w0.sk.comp hw.sk, fun x => by rw [(hw.wt _).1, (hw.wt _).2]; exact w0.wt x, fun x h => hw.rdy _ (w0.rdy x h), fun h z hz => ?_⟩, ?_, fun _ z hz _ e => ?_⟩
          · refine hw.zero (fun v hv => ?_) _ (List.mem_map.2 ⟨z, hz, rfl⟩)
            obtain ⟨u, hu, rfl⟩ := List.mem_map.1 hv
            exact ⟨w0.zero h u hu, by rw [(w0.wt u).2]; exact (h u hu).2⟩
          · have e : wakeN f (upN N k fun x => { x with rdy := true, pass := mxI x.pass p.now }) x0.par = _ := he
            rw [e, upN, List.map_map]; rfl
          · exact hw.rdy _ (by simp [e, wkF])
end Go.Proofs.YtjbjngikaiggdaaGreat
