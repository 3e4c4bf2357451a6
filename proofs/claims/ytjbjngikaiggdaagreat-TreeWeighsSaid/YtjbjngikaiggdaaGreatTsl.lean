/- TreeSleeps: its walk. Conditions: none. -/
import Derived.Test.YtjbjngikaiggdaaGreatTy1
set_option linter.unusedVariables false
set_option linter.unusedSimpArgs false
namespace Go.Proofs.YtjbjngikaiggdaaGreat
open Go.RowKit G
abbrev SR := List (Int × Int × Int × Bool × Bool)
def slS (x y : Int) (r : Bool) : SR := [(0, -1, 1, false, true), (1, 0, x, true, true), (2, 0, y, true, r)]
theorem sl_pars {N : List Nr} {x y : Int} {r : Bool} (h : N.map skr = slS x y r) {k : Int} (hk : k = 1 ∨ k = 2) : ∀ z ∈ N, z.par ≠ k := by
  intro z hz e
  have := skr_mem h hz
  simp only [slS, List.mem_cons, Prod.mk.injEq, List.not_mem_nil, or_false] at this
  omega
/-- A run of two, one of them or both ready. -/
theorem sl_run {N : List Nr} {x y : Int} {r : Bool} (hw : WFN N) (h : N.map skr = slS x y r) : ∃ (id : Int) (N' : List Nr), runN N = ((id, true), N') ∧ WFN N' ∧ N'.map skr = slS x y r ∧ (id = 1 ∨ (id = 2 ∧ r = true)) ∧
    (r = true → ps N' 1 - ps N' 2 = ps N 1 - ps N 2 + (if id = 1 then strd x else 0) - (if id = 2 then strd y else 0)) := by
  obtain ⟨r0, hr0, hr1, _, _, _, hr5⟩ := skr_get h (i := 0) (p := -1) (w := 1) (t := false) (r := true) (by simp [slS])
  obtain ⟨v, id, N', h1, h2, h3, hv, hvp, hvr, _, hb, δ, hd⟩ := run_ps hw hr0 hr1 hr5
  have hvs := skr_mem h hv
  simp only [slS, List.mem_cons, Prod.mk.injEq, List.not_mem_nil, or_false] at hvs
  have hvid : (v.id = 1 ∧ v.wt = x) ∨ (v.id = 2 ∧ v.wt = y ∧ r = true) := by
    rcases hvs with h | h | h
    · omega
    · exact .inl ⟨h.1, h.2.2.1⟩
    · exact .inr ⟨h.1, h.2.2.1, by rw [← h.2.2.2.2, hvr]⟩
  have hid : id = v.id := bel_leaf hb (sl_pars h (by omega))
  obtain ⟨z1, hz1, e1, p1, _, _, rd1⟩ := skr_get h (i := 1) (p := 0) (w := x) (t := true) (r := true) (by simp [slS])
  obtain ⟨z2, hz2, e2, p2, _, _, rd2⟩ := skr_get h (i := 2) (p := 0) (w := y) (t := true) (r := r) (by simp [slS])
  refine ⟨id, N', h1, h2, h3.trans h, by rcases hvid with h | h; exact .inl (by omega); exact .inr ⟨by omega, h.2.2⟩, fun hr => ?_⟩
  have d1 := hd z1 hz1 p1 rd1
  have d2 := hd z2 hz2 p2 (by rw [rd2, hr])
  rw [e1] at d1
  rw [e2] at d2
  rw [d1, d2, hid]
  rcases hvid with ⟨h4, h5⟩ | ⟨h4, h5, _⟩ <;> rw [h4, h5] <;> simp <;> omega
theorem sl_in {N : List Nr} {x y : Int} (hw : WFN N) (h : N.map skr = slS x y true) : ps N 1 - ps N 2 ≤ strd x ∧ ps N 2 - ps N 1 ≤ strd y := by
  obtain ⟨r0, hr0, hr1, _⟩ := skr_get h (i := 0) (p := -1) (w := 1) (t := false) (r := true) (by simp [slS])
  obtain ⟨z1, hz1, e1, p1, w1, _, rd1⟩ := skr_get h (i := 1) (p := 0) (w := x) (t := true) (r := true) (by simp [slS])
  obtain ⟨z2, hz2, e2, p2, w2, _, rd2⟩ := skr_get h (i := 2) (p := 0) (w := y) (t := true) (r := true) (by simp [slS])
  have := two_in hw hz1 hz2 hr0 (by omega) (by omega) rd1 rd2
  rw [e1, e2, w1, w2] at this
  exact this
theorem sl_ready {N : List Nr} {x y : Int} (hw : WFN N) (h : N.map skr = slS x y false) : ∃ N', readyN N 2 true = (0, N') ∧ N'.map skr = slS x y true := by
  obtain ⟨r0, hr0, hr1, _, _, _, hr5⟩ := skr_get h (i := 0) (p := -1) (w := 1) (t := false) (r := true) (by simp [slS])
  obtain ⟨z2, hz2, e2, p2, w2, t2, rd2⟩ := skr_get h (i := 2) (p := 0) (w := y) (t := true) (r := false) (by simp [slS])
  have hg : gt N 2 = some z2 := e2 ▸ gt_of hw.sk.nd hz2
  have hg0 : gt N z2.par = some r0 := by rw [p2, ← hr1]; exact gt_of hw.sk.nd hr0
  refine ⟨upN N 2 (wkF r0.now), by rw [readyN, hg]; simp only [t2, if_true]; rw [wake_up hg rd2 hg0 hr5 (by omega)], ?_⟩
  rw [up_skr, h]; rfl
def slN2 (x y : Int) : List Nr := [rootN, ⟨1, 0, x, 0, true, false, 0⟩, ⟨2, 0, y, 0, true, false, 0⟩]
def slN3 (x y : Int) : List Nr := [⟨0, -1, 1, 0, false, true, 0⟩, ⟨1, 0, x, 0, true, true, 0⟩, ⟨2, 0, y, 0, true, false, 0⟩]
end Go.Proofs.YtjbjngikaiggdaaGreat
