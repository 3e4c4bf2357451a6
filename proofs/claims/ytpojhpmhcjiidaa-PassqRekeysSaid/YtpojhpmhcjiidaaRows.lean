/-
  No cell of these rows narrows 'for every input' (looked for: loops, veiled, ifaces, maps, wideKeys, modest, calm, conditions, laid).
  DERIVED. THE GIVEN ROWS OF THIS SEAT. 4 by the template 'for every input the law returns true; each argument reads behind the call as it read before'; 0 by the template 'total and deterministic' (their statements: YtpojhpmhcjiidaaTotals.lean).
  GIVEN WITH THE SEED: the statements are not yours to turn. If you find one false, say at which input.
  Laid BY PROGRAM, IN A SANDBOX (cutbox-rows.mjs): the forced cells as the released guide's own fill.sh prints them over the translation 0599a5c01a0d2643… (all of the seat's roots in one cut). By AI agents, Wed Nov 11 2026. No macro, syntax, notation, axiom, sorry.
-/
import Derived.Test.YtpojhpmhcjiidaaChecked
import GoSem.Claim
import GoSem.ClaimJoined
import GoSem.ClaimMapViews
import Derived.JoinedTies
import Derived.KernelRfl
namespace Go.Proofs.Ytpojhpmhcjiidaa
/- THE CELL 'sum', in the pinned program and in every row, IS THE sha256 OF THE DUMP (.gsa) THAT YtpojhpmhcjiidaaProg.lean LOADS. Nothing in Lean hashes anything: it is a label: what it is worth is what the hold of that sum in a sandbox is worth. -/
noncomputable def Try.pinned : Pinned := { name := "ytpojhpmhcjiidaa", sum := "0599a5c01a0d2643d79322a2deddb00584647d3ee4343e038fe55019d8c62f6f", checked := Try.checked }
namespace Rows
def none {H : Type} : Left H := { results := [], args := [] }

/-- 'tontinelaw5.PassqSorts': WHATEVER THE INPUT: true; the input reads as it did. -/
def passqSortsSpec : ChangeSpec := { name := "passqSorts", fn := fun _ => fun
  | [d1, d2] => { results := [.lit (.bool true)], args := [d1, d2] }
  | _ => none }
def passqSortsRow : OpenClaim := { program := "ytpojhpmhcjiidaa", sum := "0599a5c01a0d2643d79322a2deddb00584647d3ee4343e038fe55019d8c62f6f", func := "tontine/tontinelaw5.PassqSorts", spec := "passqSorts", inPlace := ["slices.overlaps[tontine/api.Entry]", "internal/reflectlite.TypeOf"], unfollowed := true, recurses := true, apart := false }
def PassqSortsSaid : Prop := passqSortsRow.holds Try.pinned (OpenSpec.ofChange passqSortsSpec)

/-- ITS FALSE NEIGHBOUR: 'it returns false'. Refute it at one input. -/
def passqSortsWrong : ChangeSpec := { name := "passqSorts", fn := fun _ => fun
  | [d1, d2] => { results := [.lit (.bool false)], args := [d1, d2] }
  | _ => none }
def PassqSortsWrongFalsely : Prop := passqSortsRow.holds Try.pinned (OpenSpec.ofChange passqSortsWrong)

/-- 'tontinelaw5.PassqShifts': WHATEVER THE INPUT: true; the input reads as it did. -/
def passqShiftsSpec : ChangeSpec := { name := "passqShifts", fn := fun _ => fun
  | [d1, d2] => { results := [.lit (.bool true)], args := [d1, d2] }
  | _ => none }
def passqShiftsRow : OpenClaim := { program := "ytpojhpmhcjiidaa", sum := "0599a5c01a0d2643d79322a2deddb00584647d3ee4343e038fe55019d8c62f6f", func := "tontine/tontinelaw5.PassqShifts", spec := "passqShifts", inPlace := ["slices.overlaps[tontine/api.Entry]", "internal/reflectlite.TypeOf"], unfollowed := true, recurses := true, apart := false }
def PassqShiftsSaid : Prop := passqShiftsRow.holds Try.pinned (OpenSpec.ofChange passqShiftsSpec)

/-- ITS FALSE NEIGHBOUR: 'it returns false'. Refute it at one input. -/
def passqShiftsWrong : ChangeSpec := { name := "passqShifts", fn := fun _ => fun
  | [d1, d2] => { results := [.lit (.bool false)], args := [d1, d2] }
  | _ => none }
def PassqShiftsWrongFalsely : Prop := passqShiftsRow.holds Try.pinned (OpenSpec.ofChange passqShiftsWrong)

/-- 'tontinelaw5.PassqRoom': WHATEVER THE INPUT: true; the input reads as it did. -/
def passqRoomSpec : ChangeSpec := { name := "passqRoom", fn := fun _ => fun
  | [d1, d2] => { results := [.lit (.bool true)], args := [d1, d2] }
  | _ => none }
def passqRoomRow : OpenClaim := { program := "ytpojhpmhcjiidaa", sum := "0599a5c01a0d2643d79322a2deddb00584647d3ee4343e038fe55019d8c62f6f", func := "tontine/tontinelaw5.PassqRoom", spec := "passqRoom", inPlace := ["slices.overlaps[tontine/api.Entry]", "internal/reflectlite.TypeOf"], unfollowed := true, recurses := true, apart := false }
def PassqRoomSaid : Prop := passqRoomRow.holds Try.pinned (OpenSpec.ofChange passqRoomSpec)

/-- ITS FALSE NEIGHBOUR: 'it returns false'. Refute it at one input. -/
def passqRoomWrong : ChangeSpec := { name := "passqRoom", fn := fun _ => fun
  | [d1, d2] => { results := [.lit (.bool false)], args := [d1, d2] }
  | _ => none }
def PassqRoomWrongFalsely : Prop := passqRoomRow.holds Try.pinned (OpenSpec.ofChange passqRoomWrong)

/-- 'tontinelaw5.PassqRekeys': WHATEVER THE INPUT: true; the input reads as it did. -/
def passqRekeysSpec : ChangeSpec := { name := "passqRekeys", fn := fun _ => fun
  | [d1, d2] => { results := [.lit (.bool true)], args := [d1, d2] }
  | _ => none }
def passqRekeysRow : OpenClaim := { program := "ytpojhpmhcjiidaa", sum := "0599a5c01a0d2643d79322a2deddb00584647d3ee4343e038fe55019d8c62f6f", func := "tontine/tontinelaw5.PassqRekeys", spec := "passqRekeys", inPlace := ["slices.overlaps[tontine/api.Entry]", "internal/reflectlite.TypeOf"], unfollowed := true, recurses := true, apart := false }
def PassqRekeysSaid : Prop := passqRekeysRow.holds Try.pinned (OpenSpec.ofChange passqRekeysSpec)

/-- ITS FALSE NEIGHBOUR: 'it returns false'. Refute it at one input. -/
def passqRekeysWrong : ChangeSpec := { name := "passqRekeys", fn := fun _ => fun
  | [d1, d2] => { results := [.lit (.bool false)], args := [d1, d2] }
  | _ => none }
def PassqRekeysWrongFalsely : Prop := passqRekeysRow.holds Try.pinned (OpenSpec.ofChange passqRekeysWrong)

/- THE SECOND FORM. 'bulk': how many values and letters a reading holds, each counted each time it is reached (what is shared counts as often as it is met; a slice's spare places count too). A statement '..UptoSaid' is the law's where the arguments, and the package variables that the reading takes, are together of bulk at most 1048576: NARROWER than '..Said'. Prove '..Said' where nothing that the law and all that it calls make is longer than what came in: it says more and counts as full. Else prove '..UptoSaid'. A law counts once. -/
mutual
def uptoBulk {H : Type} : DataW H → Nat
  | .lit (.string bytes) => bytes.length + 1
  | .lit _ => 1
  | .nil => 1
  | .ptr d => uptoBulk d + 1
  | .slice elems spare => uptoBulkAll elems + uptoBulkAll spare + 1
  | .agg parts => uptoBulkAll parts + 1
  | .iface _ d => uptoBulk d + 1
  | .map entries => uptoBulkEntries entries + 1
  | .held _ => 1
def uptoBulkAll {H : Type} : List (DataW H) → Nat
  | [] => 0
  | d :: r => uptoBulk d + uptoBulkAll r
def uptoBulkEntries {H : Type} : List (Lit × DataW H) → Nat
  | [] => 0
  | x :: r => uptoBulkEntry x + uptoBulkEntries r
def uptoBulkEntry {H : Type} : Lit × DataW H → Nat
  | (.string bytes, d) => bytes.length + uptoBulk d + 1
  | (_, d) => uptoBulk d + 1
 end
def uptoSmall : (H : Type) → List (DataW H) → Bool := fun _ ds => decide (uptoBulkAll ds ≤ 1048576)
def OpenSpec.upto (s : _root_.Go.ChangeSpec) : _root_.Go.OpenSpec := { _root_.Go.OpenSpec.ofChange s with cond := some uptoSmall }

/-- 'tontinelaw5.PassqSorts', WHERE WHAT IT READS IS OF BULK AT MOST 1048576: true; the input reads as it did. -/
def passqSortsUptoRow : OpenClaim := { program := "ytpojhpmhcjiidaa", sum := "0599a5c01a0d2643d79322a2deddb00584647d3ee4343e038fe55019d8c62f6f", func := "tontine/tontinelaw5.PassqSorts", spec := "passqSorts", inPlace := ["slices.overlaps[tontine/api.Entry]", "internal/reflectlite.TypeOf"], unfollowed := true, recurses := true, apart := false, narrowed := true }
def PassqSortsUptoSaid : Prop := passqSortsUptoRow.holds Try.pinned (OpenSpec.upto passqSortsSpec)

/-- 'tontinelaw5.PassqShifts', WHERE WHAT IT READS IS OF BULK AT MOST 1048576: true; the input reads as it did. -/
def passqShiftsUptoRow : OpenClaim := { program := "ytpojhpmhcjiidaa", sum := "0599a5c01a0d2643d79322a2deddb00584647d3ee4343e038fe55019d8c62f6f", func := "tontine/tontinelaw5.PassqShifts", spec := "passqShifts", inPlace := ["slices.overlaps[tontine/api.Entry]", "internal/reflectlite.TypeOf"], unfollowed := true, recurses := true, apart := false, narrowed := true }
def PassqShiftsUptoSaid : Prop := passqShiftsUptoRow.holds Try.pinned (OpenSpec.upto passqShiftsSpec)

/-- 'tontinelaw5.PassqRoom', WHERE WHAT IT READS IS OF BULK AT MOST 1048576: true; the input reads as it did. -/
def passqRoomUptoRow : OpenClaim := { program := "ytpojhpmhcjiidaa", sum := "0599a5c01a0d2643d79322a2deddb00584647d3ee4343e038fe55019d8c62f6f", func := "tontine/tontinelaw5.PassqRoom", spec := "passqRoom", inPlace := ["slices.overlaps[tontine/api.Entry]", "internal/reflectlite.TypeOf"], unfollowed := true, recurses := true, apart := false, narrowed := true }
def PassqRoomUptoSaid : Prop := passqRoomUptoRow.holds Try.pinned (OpenSpec.upto passqRoomSpec)

/-- 'tontinelaw5.PassqRekeys', WHERE WHAT IT READS IS OF BULK AT MOST 1048576: true; the input reads as it did. -/
def passqRekeysUptoRow : OpenClaim := { program := "ytpojhpmhcjiidaa", sum := "0599a5c01a0d2643d79322a2deddb00584647d3ee4343e038fe55019d8c62f6f", func := "tontine/tontinelaw5.PassqRekeys", spec := "passqRekeys", inPlace := ["slices.overlaps[tontine/api.Entry]", "internal/reflectlite.TypeOf"], unfollowed := true, recurses := true, apart := false, narrowed := true }
def PassqRekeysUptoSaid : Prop := passqRekeysUptoRow.holds Try.pinned (OpenSpec.upto passqRekeysSpec)

end Rows
end Go.Proofs.Ytpojhpmhcjiidaa
