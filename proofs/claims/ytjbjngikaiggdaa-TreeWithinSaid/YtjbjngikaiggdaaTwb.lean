/- Trees: numbers of nodes stay below a bound; the told nodes. Conditions: none. -/
import Derived.Test.YtjbjngikaiggdaaTss
set_option linter.unusedVariables false
set_option linter.unusedSimpArgs false
namespace Go.Proofs.Ytjbjngikaiggdaa
open Go.RowKit G
def IdB (N : List Nr) : Prop := ∀ x ∈ N, x.id ≤ 9223372036854775807
theorem IdB.map {N : List Nr} (h : IdB N) {g : Nr → Nr} (hg : Skel g) : IdB (N.map g) := fun x hx => by
  obtain ⟨y, hy, rfl⟩ := List.mem_map.1 hx
  rw [hg.id]; exact h y hy
theorem readyN_map (N : List Nr) (k : Int) (r : Bool) : ∃ g, Skel g ∧ (readyN N k r).2 = N.map g := by
  have same : ∃ g, Skel g ∧ N = N.map g := ⟨fun x => x, Skel.same, by simp⟩
  rw [readyN]
  cases gt N k with
  | none => exact same
  | some x =>
    simp only
    split
    · split
      · obtain ⟨g, h1, _, h3⟩ := wakeN_map 6 N k; exact ⟨g, h1, h3⟩
      · obtain ⟨g, h1, _, h3⟩ := restN_map 6 N k; exact ⟨g, h1, h3⟩
    · exact same
theorem IdB.ready {N : List Nr} (h : IdB N) (k : Int) (r : Bool) : IdB (readyN N k r).2 := by
  obtain ⟨g, h1, h2⟩ := readyN_map N k r
  rw [h2]; exact h.map h1
theorem IdB.add {N : List Nr} (h : IdB N) (par id wt : Int) (thr : Bool) (hi : id ≤ 9223372036854775807) : IdB (addN N par id wt thr).2 := by
  rw [addN]
  split
  · exact h
  · split
    · exact h
    · split
      · exact h
      · split
        · exact h
        · split
          · exact h
          · split
            · exact h
            · intro x hx
              rcases List.mem_append.1 hx with hx | hx
              · exact h x hx
              · simp at hx; subst hx; exact hi
theorem IdB.remove {N : List Nr} (h : IdB N) (k : Int) : IdB (removeN N k).2 := by
  rw [removeN]
  split
  · exact h
  · split
    · exact h
    · obtain ⟨g, h1, _, h3⟩ := restN_map 6 N k
      intro x hx
      have hx := (List.mem_filter.1 hx).1
      rw [h3] at hx
      exact h.map h1 x hx
theorem IdB.weight {N : List Nr} (h : IdB N) (k W : Int) : IdB (weightN N k W).2 := by
  rw [weightN]
  split
  · exact h
  · split
    · exact h
    · split
      · exact h
      · split
        · exact h
        · exact h.map (skel_ite ⟨fun _ => rfl, fun _ => rfl, fun _ => rfl⟩)
theorem IdB.run {N : List Nr} (h : IdB N) (hw : WFN N) : IdB (runN N).2 := by
  cases hg : gt N 0 with
  | none => rw [runN, hg]; exact h
  | some r =>
    cases hr : r.rdy with
    | true => obtain ⟨y, id, g, h1, h2, _⟩ := run_root hw hg hr; rw [h1]; exact h.map h2.sk
    | false => rw [runN, hg]; simp only [hr, Bool.false_eq_true, if_false]; exact h
theorem nodesN_mem {N : List Nr} (hn : (N.map (·.id)).Nodup) {u : Nat} {y : Nr} (h : (nodesN N)[u]? = some y) : y ∈ N := by
  have hm := List.mem_of_getElem? h
  rw [nodesN] at hm
  obtain ⟨k, hk, rfl⟩ := List.mem_map.1 hm
  obtain ⟨z, hz, rfl⟩ := List.mem_map.1 (sortI_mem.1 hk)
  rw [gt_of hn hz]; exact hz
theorem two_pass {N : List Nr} (hw : WFN N) {x y : Nr} (hx : x ∈ N) (hy : y ∈ N) (h0 : x.id ≠ 0) (hp : x.par = y.par) (hrx : x.rdy = true) (hry : y.rdy = true) : x.pass - y.pass ≤ strd x.wt ∧ y.pass - x.pass ≤ strd y.wt ∧ (0 ≤ x.pass ∧ x.pass ≤ 33554432) ∧ 0 ≤ y.pass ∧ y.pass ≤ 33554432 := by
  obtain ⟨_, p, hpm, hpi, _⟩ := hw.sk.pa x hx h0
  have h1 := hw.pn x hx p hpm hpi
  have h2 := hw.pn y hy p hpm (by rw [hpi, hp])
  have h3 := h1.2 hrx
  have h4 := h2.2 hry
  have h5 := hw.pass x hx
  have h6 := hw.pass y hy
  omega
end Go.Proofs.Ytjbjngikaiggdaa
