/-
  No cell of these rows narrows 'for every input' (looked for: loops, veiled, ifaces, maps, wideKeys, modest, calm, conditions, laid).
  DERIVED. THE GIVEN ROWS OF THIS SEAT. 4 by the template 'for every input the law returns true; each argument reads behind the call as it read before'; 0 by the template 'total and deterministic' (their statements: YtjjbnmlhbbnhcaaTotals.lean).
  GIVEN WITH THE SEED: the statements are not yours to turn. If you find one false, say at which input.
  Laid BY PROGRAM, IN A SANDBOX (cutbox-rows.mjs): the forced cells as the released guide's own fill.sh prints them over the translation 3dff83e19ecbc066… (all of the seat's roots in one cut). By AI agents, Wed Nov 11 2026. No macro, syntax, notation, axiom, sorry.
-/
import Derived.Test.YtjjbnmlhbbnhcaaChecked
import GoSem.Claim
import GoSem.ClaimJoined
import GoSem.ClaimMapViews
import Derived.JoinedTies
import Derived.KernelRfl
namespace Go.Proofs.Ytjjbnmlhbbnhcaa
/- THE CELL 'sum', in the pinned program and in every row, IS THE sha256 OF THE DUMP (.gsa) THAT YtjjbnmlhbbnhcaaProg.lean LOADS. Nothing in Lean hashes anything: it is a label: what it is worth is what the hold of that sum in a sandbox is worth. -/
noncomputable def Try.pinned : Pinned := { name := "ytjjbnmlhbbnhcaa", sum := "3dff83e19ecbc066500213f648da183a7ed10b00c49fe702186f868e6149076f", checked := Try.checked }
namespace Rows
def none {H : Type} : Left H := { results := [], args := [] }

/-- 'tontinelaw13.PlanTells': WHATEVER THE INPUT: true; the input reads as it did. -/
def planTellsSpec : ChangeSpec := { name := "planTells", fn := fun _ => fun
  | [d1, d2, d3, d4, d5] => { results := [.lit (.bool true)], args := [d1, d2, d3, d4, d5] }
  | _ => none }
def planTellsRow : OpenClaim := { program := "ytjjbnmlhbbnhcaa", sum := "3dff83e19ecbc066500213f648da183a7ed10b00c49fe702186f868e6149076f", func := "tontine/tontinelaw13.PlanTells", spec := "planTells", unfollowed := true, recurses := true, apart := false }
def PlanTellsSaid : Prop := planTellsRow.holds Try.pinned (OpenSpec.ofChange planTellsSpec)

/-- ITS FALSE NEIGHBOUR: 'it returns false'. Refute it at one input. -/
def planTellsWrong : ChangeSpec := { name := "planTells", fn := fun _ => fun
  | [d1, d2, d3, d4, d5] => { results := [.lit (.bool false)], args := [d1, d2, d3, d4, d5] }
  | _ => none }
def PlanTellsWrongFalsely : Prop := planTellsRow.holds Try.pinned (OpenSpec.ofChange planTellsWrong)

/-- 'tontinelaw13.PlanShares': WHATEVER THE INPUT: true; the input reads as it did. -/
def planSharesSpec : ChangeSpec := { name := "planShares", fn := fun _ => fun
  | [d1, d2] => { results := [.lit (.bool true)], args := [d1, d2] }
  | _ => none }
def planSharesRow : OpenClaim := { program := "ytjjbnmlhbbnhcaa", sum := "3dff83e19ecbc066500213f648da183a7ed10b00c49fe702186f868e6149076f", func := "tontine/tontinelaw13.PlanShares", spec := "planShares", unfollowed := true, recurses := true, apart := false }
def PlanSharesSaid : Prop := planSharesRow.holds Try.pinned (OpenSpec.ofChange planSharesSpec)

/-- ITS FALSE NEIGHBOUR: 'it returns false'. Refute it at one input. -/
def planSharesWrong : ChangeSpec := { name := "planShares", fn := fun _ => fun
  | [d1, d2] => { results := [.lit (.bool false)], args := [d1, d2] }
  | _ => none }
def PlanSharesWrongFalsely : Prop := planSharesRow.holds Try.pinned (OpenSpec.ofChange planSharesWrong)

/-- 'tontinelaw13.PlanTime': WHATEVER THE INPUT: true; the input reads as it did. -/
def planTimeSpec : ChangeSpec := { name := "planTime", fn := fun _ => fun
  | [d1, d2] => { results := [.lit (.bool true)], args := [d1, d2] }
  | _ => none }
def planTimeRow : OpenClaim := { program := "ytjjbnmlhbbnhcaa", sum := "3dff83e19ecbc066500213f648da183a7ed10b00c49fe702186f868e6149076f", func := "tontine/tontinelaw13.PlanTime", spec := "planTime", unfollowed := true, recurses := true, apart := false }
def PlanTimeSaid : Prop := planTimeRow.holds Try.pinned (OpenSpec.ofChange planTimeSpec)

/-- ITS FALSE NEIGHBOUR: 'it returns false'. Refute it at one input. -/
def planTimeWrong : ChangeSpec := { name := "planTime", fn := fun _ => fun
  | [d1, d2] => { results := [.lit (.bool false)], args := [d1, d2] }
  | _ => none }
def PlanTimeWrongFalsely : Prop := planTimeRow.holds Try.pinned (OpenSpec.ofChange planTimeWrong)

/-- 'tontinelaw13.PlanPlans': WHATEVER THE INPUT: true; the input reads as it did. -/
def planPlansSpec : ChangeSpec := { name := "planPlans", fn := fun _ => fun
  | [d1, d2] => { results := [.lit (.bool true)], args := [d1, d2] }
  | _ => none }
def planPlansRow : OpenClaim := { program := "ytjjbnmlhbbnhcaa", sum := "3dff83e19ecbc066500213f648da183a7ed10b00c49fe702186f868e6149076f", func := "tontine/tontinelaw13.PlanPlans", spec := "planPlans", unfollowed := true, recurses := true, apart := false }
def PlanPlansSaid : Prop := planPlansRow.holds Try.pinned (OpenSpec.ofChange planPlansSpec)

/-- ITS FALSE NEIGHBOUR: 'it returns false'. Refute it at one input. -/
def planPlansWrong : ChangeSpec := { name := "planPlans", fn := fun _ => fun
  | [d1, d2] => { results := [.lit (.bool false)], args := [d1, d2] }
  | _ => none }
def PlanPlansWrongFalsely : Prop := planPlansRow.holds Try.pinned (OpenSpec.ofChange planPlansWrong)

/- THE SECOND FORM. 'bulk': how many values and letters a reading holds, each counted each time it is reached (what is shared counts as often as it is met; a slice's spare places count too). A statement '..UptoSaid' is the law's where the arguments, and the package variables that the reading takes, are together of bulk at most 1048576: NARROWER than '..Said'. Prove '..Said' where nothing that the law and all that it calls make is longer than what came in: it says more and counts as full. Else prove '..UptoSaid'. A law counts once. -/
mutual
def uptoBulk {H : Type} : DataW H → Nat
  | .lit (.string bytes) => bytes.length + 1
  | .lit _ => 1
  | .nil => 1
  | .ptr d => uptoBulk d + 1
  | .slice elems spare => uptoBulkAll elems + uptoBulkAll spare + 1
  | .agg parts => uptoBulkAll parts + 1
  | .iface _ d => uptoBulk d + 1
  | .map entries => uptoBulkEntries entries + 1
  | .held _ => 1
def uptoBulkAll {H : Type} : List (DataW H) → Nat
  | [] => 0
  | d :: r => uptoBulk d + uptoBulkAll r
def uptoBulkEntries {H : Type} : List (Lit × DataW H) → Nat
  | [] => 0
  | x :: r => uptoBulkEntry x + uptoBulkEntries r
def uptoBulkEntry {H : Type} : Lit × DataW H → Nat
  | (.string bytes, d) => bytes.length + uptoBulk d + 1
  | (_, d) => uptoBulk d + 1
 end
def uptoSmall : (H : Type) → List (DataW H) → Bool := fun _ ds => decide (uptoBulkAll ds ≤ 1048576)
def OpenSpec.upto (s : _root_.Go.ChangeSpec) : _root_.Go.OpenSpec := { _root_.Go.OpenSpec.ofChange s with cond := some uptoSmall }

/-- 'tontinelaw13.PlanTells', WHERE WHAT IT READS IS OF BULK AT MOST 1048576: true; the input reads as it did. -/
def planTellsUptoRow : OpenClaim := { program := "ytjjbnmlhbbnhcaa", sum := "3dff83e19ecbc066500213f648da183a7ed10b00c49fe702186f868e6149076f", func := "tontine/tontinelaw13.PlanTells", spec := "planTells", unfollowed := true, recurses := true, apart := false, narrowed := true }
def PlanTellsUptoSaid : Prop := planTellsUptoRow.holds Try.pinned (OpenSpec.upto planTellsSpec)

/-- 'tontinelaw13.PlanShares', WHERE WHAT IT READS IS OF BULK AT MOST 1048576: true; the input reads as it did. -/
def planSharesUptoRow : OpenClaim := { program := "ytjjbnmlhbbnhcaa", sum := "3dff83e19ecbc066500213f648da183a7ed10b00c49fe702186f868e6149076f", func := "tontine/tontinelaw13.PlanShares", spec := "planShares", unfollowed := true, recurses := true, apart := false, narrowed := true }
def PlanSharesUptoSaid : Prop := planSharesUptoRow.holds Try.pinned (OpenSpec.upto planSharesSpec)

/-- 'tontinelaw13.PlanTime', WHERE WHAT IT READS IS OF BULK AT MOST 1048576: true; the input reads as it did. -/
def planTimeUptoRow : OpenClaim := { program := "ytjjbnmlhbbnhcaa", sum := "3dff83e19ecbc066500213f648da183a7ed10b00c49fe702186f868e6149076f", func := "tontine/tontinelaw13.PlanTime", spec := "planTime", unfollowed := true, recurses := true, apart := false, narrowed := true }
def PlanTimeUptoSaid : Prop := planTimeUptoRow.holds Try.pinned (OpenSpec.upto planTimeSpec)

/-- 'tontinelaw13.PlanPlans', WHERE WHAT IT READS IS OF BULK AT MOST 1048576: true; the input reads as it did. -/
def planPlansUptoRow : OpenClaim := { program := "ytjjbnmlhbbnhcaa", sum := "3dff83e19ecbc066500213f648da183a7ed10b00c49fe702186f868e6149076f", func := "tontine/tontinelaw13.PlanPlans", spec := "planPlans", unfollowed := true, recurses := true, apart := false, narrowed := true }
def PlanPlansUptoSaid : Prop := planPlansUptoRow.holds Try.pinned (OpenSpec.upto planPlansSpec)

end Rows
end Go.Proofs.Ytjjbnmlhbbnhcaa
