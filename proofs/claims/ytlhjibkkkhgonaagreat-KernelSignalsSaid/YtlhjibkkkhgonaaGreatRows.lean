/-
  No cell of these rows narrows 'for every input' (looked for: loops, veiled, ifaces, maps, wideKeys, modest, calm, conditions, laid).
  DERIVED. THE GIVEN ROWS OF THIS SEAT. 7 by the template 'for every input the law returns true; each argument reads behind the call as it read before'; 0 by the template 'total and deterministic' (their statements: YtlhjibkkkhgonaaGreatTotals.lean).
  GIVEN WITH THE SEED: the statements are not yours to turn. If you find one false, say at which input.
  Laid BY PROGRAM, IN A SANDBOX (cutbox-rows.mjs): the forced cells as the released guide's own fill.sh prints them over the translation bf6ff18e93849a8f… (all of the seat's roots in one cut). By AI agents, Wed Nov 11 2026. No macro, syntax, notation, axiom, sorry.
-/
import Derived.Test.YtlhjibkkkhgonaaGreatChecked
import GoSem.Claim
import GoSem.ClaimJoined
import GoSem.ClaimMapViews
import Derived.JoinedTies
import Derived.KernelRfl
namespace Go.Proofs.YtlhjibkkkhgonaaGreat
/- THE CELL 'sum', in the pinned program and in every row, IS THE sha256 OF THE DUMP (.gsa) THAT YtlhjibkkkhgonaaGreatProg.lean LOADS. Nothing in Lean hashes anything: it is a label: what it is worth is what the hold of that sum in a sandbox is worth. -/
noncomputable def Tryz.pinned : Pinned := { name := "ytlhjibkkkhgonaagreat", sum := "bf6ff18e93849a8f679e064462e010ee551465860056bc50f815eebc7c6a49c6", checked := Tryz.checked }
namespace Rows
def none {H : Type} : Left H := { results := [], args := [] }

/-- 'tontinelaw10.KernelIDs': WHATEVER THE INPUT: true; the input reads as it did. -/
def kernelIDsSpec : ChangeSpec := { name := "kernelIDs", fn := fun _ => fun
  | [d] => { results := [.lit (.bool true)], args := [d] }
  | _ => none }
def kernelIDsRow : OpenClaim := { program := "ytlhjibkkkhgonaagreat", sum := "bf6ff18e93849a8f679e064462e010ee551465860056bc50f815eebc7c6a49c6", func := "tontine/tontinelaw10.KernelIDs", spec := "kernelIDs", inPlace := ["slices.overlaps[tontine/api.Entry]", "slices.overlaps[tontine/timer.sleeper]", "internal/reflectlite.TypeOf"], unfollowed := true, recurses := true, apart := false }
def KernelIDsSaid : Prop := kernelIDsRow.holds Tryz.pinned (OpenSpec.ofChange kernelIDsSpec)

/-- ITS FALSE NEIGHBOUR: 'it returns false'. Refute it at one input. -/
def kernelIDsWrong : ChangeSpec := { name := "kernelIDs", fn := fun _ => fun
  | [d] => { results := [.lit (.bool false)], args := [d] }
  | _ => none }
def KernelIDsWrongFalsely : Prop := kernelIDsRow.holds Tryz.pinned (OpenSpec.ofChange kernelIDsWrong)

/-- 'tontinelaw10.KernelStates': WHATEVER THE INPUT: true; the input reads as it did. -/
def kernelStatesSpec : ChangeSpec := { name := "kernelStates", fn := fun _ => fun
  | [d1, d2, d3, d4] => { results := [.lit (.bool true)], args := [d1, d2, d3, d4] }
  | _ => none }
def kernelStatesRow : OpenClaim := { program := "ytlhjibkkkhgonaagreat", sum := "bf6ff18e93849a8f679e064462e010ee551465860056bc50f815eebc7c6a49c6", func := "tontine/tontinelaw10.KernelStates", spec := "kernelStates", inPlace := ["slices.overlaps[tontine/api.Entry]", "slices.overlaps[tontine/timer.sleeper]", "internal/reflectlite.TypeOf"], unfollowed := true, recurses := true, apart := false }
def KernelStatesSaid : Prop := kernelStatesRow.holds Tryz.pinned (OpenSpec.ofChange kernelStatesSpec)

/-- ITS FALSE NEIGHBOUR: 'it returns false'. Refute it at one input. -/
def kernelStatesWrong : ChangeSpec := { name := "kernelStates", fn := fun _ => fun
  | [d1, d2, d3, d4] => { results := [.lit (.bool false)], args := [d1, d2, d3, d4] }
  | _ => none }
def KernelStatesWrongFalsely : Prop := kernelStatesRow.holds Tryz.pinned (OpenSpec.ofChange kernelStatesWrong)

/-- 'tontinelaw10.KernelQuotas': WHATEVER THE INPUT: true; the input reads as it did. -/
def kernelQuotasSpec : ChangeSpec := { name := "kernelQuotas", fn := fun _ => fun
  | [d1, d2, d3] => { results := [.lit (.bool true)], args := [d1, d2, d3] }
  | _ => none }
def kernelQuotasRow : OpenClaim := { program := "ytlhjibkkkhgonaagreat", sum := "bf6ff18e93849a8f679e064462e010ee551465860056bc50f815eebc7c6a49c6", func := "tontine/tontinelaw10.KernelQuotas", spec := "kernelQuotas", inPlace := ["slices.overlaps[tontine/api.Entry]", "slices.overlaps[tontine/timer.sleeper]", "internal/reflectlite.TypeOf"], unfollowed := true, recurses := true, apart := false }
def KernelQuotasSaid : Prop := kernelQuotasRow.holds Tryz.pinned (OpenSpec.ofChange kernelQuotasSpec)

/-- ITS FALSE NEIGHBOUR: 'it returns false'. Refute it at one input. -/
def kernelQuotasWrong : ChangeSpec := { name := "kernelQuotas", fn := fun _ => fun
  | [d1, d2, d3] => { results := [.lit (.bool false)], args := [d1, d2, d3] }
  | _ => none }
def KernelQuotasWrongFalsely : Prop := kernelQuotasRow.holds Tryz.pinned (OpenSpec.ofChange kernelQuotasWrong)

/-- 'tontinelaw10.KernelGroups': WHATEVER THE INPUT: true; the input reads as it did. -/
def kernelGroupsSpec : ChangeSpec := { name := "kernelGroups", fn := fun _ => fun
  | [d1, d2] => { results := [.lit (.bool true)], args := [d1, d2] }
  | _ => none }
def kernelGroupsRow : OpenClaim := { program := "ytlhjibkkkhgonaagreat", sum := "bf6ff18e93849a8f679e064462e010ee551465860056bc50f815eebc7c6a49c6", func := "tontine/tontinelaw10.KernelGroups", spec := "kernelGroups", inPlace := ["slices.overlaps[tontine/api.Entry]", "slices.overlaps[tontine/timer.sleeper]", "internal/reflectlite.TypeOf"], unfollowed := true, recurses := true, apart := false }
def KernelGroupsSaid : Prop := kernelGroupsRow.holds Tryz.pinned (OpenSpec.ofChange kernelGroupsSpec)

/-- ITS FALSE NEIGHBOUR: 'it returns false'. Refute it at one input. -/
def kernelGroupsWrong : ChangeSpec := { name := "kernelGroups", fn := fun _ => fun
  | [d1, d2] => { results := [.lit (.bool false)], args := [d1, d2] }
  | _ => none }
def KernelGroupsWrongFalsely : Prop := kernelGroupsRow.holds Tryz.pinned (OpenSpec.ofChange kernelGroupsWrong)

/-- 'tontinelaw10.KernelWakes': WHATEVER THE INPUT: true; the input reads as it did. -/
def kernelWakesSpec : ChangeSpec := { name := "kernelWakes", fn := fun _ => fun
  | [d1, d2, d3] => { results := [.lit (.bool true)], args := [d1, d2, d3] }
  | _ => none }
def kernelWakesRow : OpenClaim := { program := "ytlhjibkkkhgonaagreat", sum := "bf6ff18e93849a8f679e064462e010ee551465860056bc50f815eebc7c6a49c6", func := "tontine/tontinelaw10.KernelWakes", spec := "kernelWakes", inPlace := ["slices.overlaps[tontine/api.Entry]", "slices.overlaps[tontine/timer.sleeper]", "internal/reflectlite.TypeOf"], unfollowed := true, recurses := true, apart := false }
def KernelWakesSaid : Prop := kernelWakesRow.holds Tryz.pinned (OpenSpec.ofChange kernelWakesSpec)

/-- ITS FALSE NEIGHBOUR: 'it returns false'. Refute it at one input. -/
def kernelWakesWrong : ChangeSpec := { name := "kernelWakes", fn := fun _ => fun
  | [d1, d2, d3] => { results := [.lit (.bool false)], args := [d1, d2, d3] }
  | _ => none }
def KernelWakesWrongFalsely : Prop := kernelWakesRow.holds Tryz.pinned (OpenSpec.ofChange kernelWakesWrong)

/-- 'tontinelaw10.KernelAlone': WHATEVER THE INPUT: true; the input reads as it did. -/
def kernelAloneSpec : ChangeSpec := { name := "kernelAlone", fn := fun _ => fun
  | [d1, d2] => { results := [.lit (.bool true)], args := [d1, d2] }
  | _ => none }
def kernelAloneRow : OpenClaim := { program := "ytlhjibkkkhgonaagreat", sum := "bf6ff18e93849a8f679e064462e010ee551465860056bc50f815eebc7c6a49c6", func := "tontine/tontinelaw10.KernelAlone", spec := "kernelAlone", inPlace := ["slices.overlaps[tontine/api.Entry]", "slices.overlaps[tontine/timer.sleeper]", "internal/reflectlite.TypeOf"], unfollowed := true, recurses := true, apart := false }
def KernelAloneSaid : Prop := kernelAloneRow.holds Tryz.pinned (OpenSpec.ofChange kernelAloneSpec)

/-- ITS FALSE NEIGHBOUR: 'it returns false'. Refute it at one input. -/
def kernelAloneWrong : ChangeSpec := { name := "kernelAlone", fn := fun _ => fun
  | [d1, d2] => { results := [.lit (.bool false)], args := [d1, d2] }
  | _ => none }
def KernelAloneWrongFalsely : Prop := kernelAloneRow.holds Tryz.pinned (OpenSpec.ofChange kernelAloneWrong)

/-- 'tontinelaw10.KernelSignals': WHATEVER THE INPUT: true; the input reads as it did. -/
def kernelSignalsSpec : ChangeSpec := { name := "kernelSignals", fn := fun _ => fun
  | [d1, d2, d3, d4] => { results := [.lit (.bool true)], args := [d1, d2, d3, d4] }
  | _ => none }
def kernelSignalsRow : OpenClaim := { program := "ytlhjibkkkhgonaagreat", sum := "bf6ff18e93849a8f679e064462e010ee551465860056bc50f815eebc7c6a49c6", func := "tontine/tontinelaw10.KernelSignals", spec := "kernelSignals", inPlace := ["slices.overlaps[tontine/api.Entry]", "slices.overlaps[tontine/timer.sleeper]", "internal/reflectlite.TypeOf"], unfollowed := true, recurses := true, apart := false }
def KernelSignalsSaid : Prop := kernelSignalsRow.holds Tryz.pinned (OpenSpec.ofChange kernelSignalsSpec)

/-- ITS FALSE NEIGHBOUR: 'it returns false'. Refute it at one input. -/
def kernelSignalsWrong : ChangeSpec := { name := "kernelSignals", fn := fun _ => fun
  | [d1, d2, d3, d4] => { results := [.lit (.bool false)], args := [d1, d2, d3, d4] }
  | _ => none }
def KernelSignalsWrongFalsely : Prop := kernelSignalsRow.holds Tryz.pinned (OpenSpec.ofChange kernelSignalsWrong)

/- THE SECOND FORM. 'bulk': how many values and letters a reading holds, each counted each time it is reached (what is shared counts as often as it is met; a slice's spare places count too). A statement '..UptoSaid' is the law's where the arguments, and the package variables that the reading takes, are together of bulk at most 1048576: NARROWER than '..Said'. Prove '..Said' where nothing that the law and all that it calls make is longer than what came in: it says more and counts as full. Else prove '..UptoSaid'. A law counts once. -/
mutual
def uptoBulk {H : Type} : DataW H → Nat
  | .lit (.string bytes) => bytes.length + 1
  | .lit _ => 1
  | .nil => 1
  | .ptr d => uptoBulk d + 1
  | .slice elems spare => uptoBulkAll elems + uptoBulkAll spare + 1
  | .agg parts => uptoBulkAll parts + 1
  | .iface _ d => uptoBulk d + 1
  | .map entries => uptoBulkEntries entries + 1
  | .held _ => 1
def uptoBulkAll {H : Type} : List (DataW H) → Nat
  | [] => 0
  | d :: r => uptoBulk d + uptoBulkAll r
def uptoBulkEntries {H : Type} : List (Lit × DataW H) → Nat
  | [] => 0
  | x :: r => uptoBulkEntry x + uptoBulkEntries r
def uptoBulkEntry {H : Type} : Lit × DataW H → Nat
  | (.string bytes, d) => bytes.length + uptoBulk d + 1
  | (_, d) => uptoBulk d + 1
 end
def uptoSmall : (H : Type) → List (DataW H) → Bool := fun _ ds => decide (uptoBulkAll ds ≤ 1048576)
def OpenSpec.upto (s : _root_.Go.ChangeSpec) : _root_.Go.OpenSpec := { _root_.Go.OpenSpec.ofChange s with cond := some uptoSmall }

/-- 'tontinelaw10.KernelIDs', WHERE WHAT IT READS IS OF BULK AT MOST 1048576: true; the input reads as it did. -/
def kernelIDsUptoRow : OpenClaim := { program := "ytlhjibkkkhgonaagreat", sum := "bf6ff18e93849a8f679e064462e010ee551465860056bc50f815eebc7c6a49c6", func := "tontine/tontinelaw10.KernelIDs", spec := "kernelIDs", inPlace := ["slices.overlaps[tontine/api.Entry]", "slices.overlaps[tontine/timer.sleeper]", "internal/reflectlite.TypeOf"], unfollowed := true, recurses := true, apart := false, narrowed := true }
def KernelIDsUptoSaid : Prop := kernelIDsUptoRow.holds Tryz.pinned (OpenSpec.upto kernelIDsSpec)

/-- 'tontinelaw10.KernelStates', WHERE WHAT IT READS IS OF BULK AT MOST 1048576: true; the input reads as it did. -/
def kernelStatesUptoRow : OpenClaim := { program := "ytlhjibkkkhgonaagreat", sum := "bf6ff18e93849a8f679e064462e010ee551465860056bc50f815eebc7c6a49c6", func := "tontine/tontinelaw10.KernelStates", spec := "kernelStates", inPlace := ["slices.overlaps[tontine/api.Entry]", "slices.overlaps[tontine/timer.sleeper]", "internal/reflectlite.TypeOf"], unfollowed := true, recurses := true, apart := false, narrowed := true }
def KernelStatesUptoSaid : Prop := kernelStatesUptoRow.holds Tryz.pinned (OpenSpec.upto kernelStatesSpec)

/-- 'tontinelaw10.KernelQuotas', WHERE WHAT IT READS IS OF BULK AT MOST 1048576: true; the input reads as it did. -/
def kernelQuotasUptoRow : OpenClaim := { program := "ytlhjibkkkhgonaagreat", sum := "bf6ff18e93849a8f679e064462e010ee551465860056bc50f815eebc7c6a49c6", func := "tontine/tontinelaw10.KernelQuotas", spec := "kernelQuotas", inPlace := ["slices.overlaps[tontine/api.Entry]", "slices.overlaps[tontine/timer.sleeper]", "internal/reflectlite.TypeOf"], unfollowed := true, recurses := true, apart := false, narrowed := true }
def KernelQuotasUptoSaid : Prop := kernelQuotasUptoRow.holds Tryz.pinned (OpenSpec.upto kernelQuotasSpec)

/-- 'tontinelaw10.KernelGroups', WHERE WHAT IT READS IS OF BULK AT MOST 1048576: true; the input reads as it did. -/
def kernelGroupsUptoRow : OpenClaim := { program := "ytlhjibkkkhgonaagreat", sum := "bf6ff18e93849a8f679e064462e010ee551465860056bc50f815eebc7c6a49c6", func := "tontine/tontinelaw10.KernelGroups", spec := "kernelGroups", inPlace := ["slices.overlaps[tontine/api.Entry]", "slices.overlaps[tontine/timer.sleeper]", "internal/reflectlite.TypeOf"], unfollowed := true, recurses := true, apart := false, narrowed := true }
def KernelGroupsUptoSaid : Prop := kernelGroupsUptoRow.holds Tryz.pinned (OpenSpec.upto kernelGroupsSpec)

/-- 'tontinelaw10.KernelWakes', WHERE WHAT IT READS IS OF BULK AT MOST 1048576: true; the input reads as it did. -/
def kernelWakesUptoRow : OpenClaim := { program := "ytlhjibkkkhgonaagreat", sum := "bf6ff18e93849a8f679e064462e010ee551465860056bc50f815eebc7c6a49c6", func := "tontine/tontinelaw10.KernelWakes", spec := "kernelWakes", inPlace := ["slices.overlaps[tontine/api.Entry]", "slices.overlaps[tontine/timer.sleeper]", "internal/reflectlite.TypeOf"], unfollowed := true, recurses := true, apart := false, narrowed := true }
def KernelWakesUptoSaid : Prop := kernelWakesUptoRow.holds Tryz.pinned (OpenSpec.upto kernelWakesSpec)

/-- 'tontinelaw10.KernelAlone', WHERE WHAT IT READS IS OF BULK AT MOST 1048576: true; the input reads as it did. -/
def kernelAloneUptoRow : OpenClaim := { program := "ytlhjibkkkhgonaagreat", sum := "bf6ff18e93849a8f679e064462e010ee551465860056bc50f815eebc7c6a49c6", func := "tontine/tontinelaw10.KernelAlone", spec := "kernelAlone", inPlace := ["slices.overlaps[tontine/api.Entry]", "slices.overlaps[tontine/timer.sleeper]", "internal/reflectlite.TypeOf"], unfollowed := true, recurses := true, apart := false, narrowed := true }
def KernelAloneUptoSaid : Prop := kernelAloneUptoRow.holds Tryz.pinned (OpenSpec.upto kernelAloneSpec)

/-- 'tontinelaw10.KernelSignals', WHERE WHAT IT READS IS OF BULK AT MOST 1048576: true; the input reads as it did. -/
def kernelSignalsUptoRow : OpenClaim := { program := "ytlhjibkkkhgonaagreat", sum := "bf6ff18e93849a8f679e064462e010ee551465860056bc50f815eebc7c6a49c6", func := "tontine/tontinelaw10.KernelSignals", spec := "kernelSignals", inPlace := ["slices.overlaps[tontine/api.Entry]", "slices.overlaps[tontine/timer.sleeper]", "internal/reflectlite.TypeOf"], unfollowed := true, recurses := true, apart := false, narrowed := true }
def KernelSignalsUptoSaid : Prop := kernelSignalsUptoRow.holds Tryz.pinned (OpenSpec.upto kernelSignalsSpec)

end Rows
end Go.Proofs.YtlhjibkkkhgonaaGreat
