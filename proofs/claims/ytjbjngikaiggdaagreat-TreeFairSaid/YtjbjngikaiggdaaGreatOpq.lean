/- What a law's walk gives; arguments. Conditions: none. -/
import Derived.Test.YtjbjngikaiggdaaGreatOpen
import Derived.Test.YtjbjngikaiggdaaGreatKc
namespace Go.Proofs.YtjbjngikaiggdaaGreat
open Go.RowKit Go.ChangeShapes Go.WideShapes G
/-- What a law's walk gives. -/
def LawPost (W : World) (e : Ending) (w' : World) : Prop := e = .returned (.bool true) ∧ Below W.heap.size W w'
theorem lawPost {ι : Type} {P : Program} {f : FuncId} {vs : Array Value} {W : World} {Hx : ι → List SP} (hs : ∀ x w, Sat w (Hx x) → Sat w [old W]) (h : Calls P f vs W (Ret (fun _ : ι => .bool true) Hx)) : Calls P f vs W (LawPost W) :=
  h.mono fun _ w' ⟨x, he, hx⟩ => ⟨he, (hs x w' hx).below (i := 0) rfl⟩
theorem wf_bounds {k : IntKind} {x : Int} (h : (Lit.int k x).wf = true) : k.min ≤ x ∧ x ≤ k.max := by
  have h2 : (decide (k.min ≤ x) && decide (x ≤ k.max)) = true := h
  rw [Bool.and_eq_true, decide_eq_true_eq, decide_eq_true_eq] at h2
  exact h2
theorem u8_wf {x : Int} (h : (Lit.int .u8 x).wf = true) : 0 ≤ x ∧ x < 256 := by
  have := wf_bounds h
  have h3 : IntKind.u8.min = 0 := rfl
  have h4 : IntKind.u8.max = 255 := rfl
  omega
theorem u16_wf {x : Int} (h : (Lit.int .u16 x).wf = true) : 0 ≤ x ∧ x < 65536 := by
  have := wf_bounds h
  have h3 : IntKind.u16.min = 0 := rfl
  have h4 : IntKind.u16.max = 65535 := rfl
  omega
end Go.Proofs.YtjbjngikaiggdaaGreat
