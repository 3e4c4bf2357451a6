/-
  No cell of these rows narrows 'for every input' (looked for: loops, veiled, ifaces, maps, wideKeys, modest, calm, conditions, laid).
  DERIVED. THE GIVEN ROWS OF THIS SEAT. 6 by the template 'for every input the law returns true; each argument reads behind the call as it read before'; 0 by the template 'total and deterministic' (their statements: YtjbjngikaiggdaaTotals.lean).
  GIVEN WITH THE SEED: the statements are not yours to turn. If you find one false, say at which input.
  Laid BY PROGRAM, IN A SANDBOX (cutbox-rows.mjs): the forced cells as the released guide's own fill.sh prints them over the translation aa051bc93cb5bad4… (all of the seat's roots in one cut). By AI agents, Wed Nov 11 2026. No macro, syntax, notation, axiom, sorry.
-/
import Derived.Test.YtjbjngikaiggdaaChecked
import GoSem.Claim
import GoSem.ClaimJoined
import GoSem.ClaimMapViews
import Derived.JoinedTies
import Derived.KernelRfl
namespace Go.Proofs.Ytjbjngikaiggdaa
/- THE CELL 'sum', in the pinned program and in every row, IS THE sha256 OF THE DUMP (.gsa) THAT YtjbjngikaiggdaaProg.lean LOADS. Nothing in Lean hashes anything: it is a label: what it is worth is what the hold of that sum in a sandbox is worth. -/
noncomputable def Try.pinned : Pinned := { name := "ytjbjngikaiggdaa", sum := "aa051bc93cb5bad406ffe1cdee47f9c583f646bbe3f9d1626f7a3a1ebb3e2a13", checked := Try.checked }
namespace Rows
def none {H : Type} : Left H := { results := [], args := [] }

/-- 'tontinelaw7.TreeShares': WHATEVER THE INPUT: true; the input reads as it did. -/
def treeSharesSpec : ChangeSpec := { name := "treeShares", fn := fun _ => fun
  | [d1, d2, d3, d4] => { results := [.lit (.bool true)], args := [d1, d2, d3, d4] }
  | _ => none }
def treeSharesRow : OpenClaim := { program := "ytjbjngikaiggdaa", sum := "aa051bc93cb5bad406ffe1cdee47f9c583f646bbe3f9d1626f7a3a1ebb3e2a13", func := "tontine/tontinelaw7.TreeShares", spec := "treeShares", inPlace := ["slices.overlaps[tontine/api.Entry]", "internal/reflectlite.TypeOf"], unfollowed := true, recurses := true, apart := false }
def TreeSharesSaid : Prop := treeSharesRow.holds Try.pinned (OpenSpec.ofChange treeSharesSpec)

/-- ITS FALSE NEIGHBOUR: 'it returns false'. Refute it at one input. -/
def treeSharesWrong : ChangeSpec := { name := "treeShares", fn := fun _ => fun
  | [d1, d2, d3, d4] => { results := [.lit (.bool false)], args := [d1, d2, d3, d4] }
  | _ => none }
def TreeSharesWrongFalsely : Prop := treeSharesRow.holds Try.pinned (OpenSpec.ofChange treeSharesWrong)

/-- 'tontinelaw7.TreeLimits': WHATEVER THE INPUT: true; the input reads as it did. -/
def treeLimitsSpec : ChangeSpec := { name := "treeLimits", fn := fun _ => fun
  | [d1, d2] => { results := [.lit (.bool true)], args := [d1, d2] }
  | _ => none }
def treeLimitsRow : OpenClaim := { program := "ytjbjngikaiggdaa", sum := "aa051bc93cb5bad406ffe1cdee47f9c583f646bbe3f9d1626f7a3a1ebb3e2a13", func := "tontine/tontinelaw7.TreeLimits", spec := "treeLimits", inPlace := ["slices.overlaps[tontine/api.Entry]", "internal/reflectlite.TypeOf"], unfollowed := true, recurses := true, apart := false }
def TreeLimitsSaid : Prop := treeLimitsRow.holds Try.pinned (OpenSpec.ofChange treeLimitsSpec)

/-- ITS FALSE NEIGHBOUR: 'it returns false'. Refute it at one input. -/
def treeLimitsWrong : ChangeSpec := { name := "treeLimits", fn := fun _ => fun
  | [d1, d2] => { results := [.lit (.bool false)], args := [d1, d2] }
  | _ => none }
def TreeLimitsWrongFalsely : Prop := treeLimitsRow.holds Try.pinned (OpenSpec.ofChange treeLimitsWrong)

/-- 'tontinelaw7.TreeLong': WHATEVER THE INPUT: true; the input reads as it did. -/
def treeLongSpec : ChangeSpec := { name := "treeLong", fn := fun _ => fun
  | [d1, d2] => { results := [.lit (.bool true)], args := [d1, d2] }
  | _ => none }
def treeLongRow : OpenClaim := { program := "ytjbjngikaiggdaa", sum := "aa051bc93cb5bad406ffe1cdee47f9c583f646bbe3f9d1626f7a3a1ebb3e2a13", func := "tontine/tontinelaw7.TreeLong", spec := "treeLong", inPlace := ["slices.overlaps[tontine/api.Entry]", "internal/reflectlite.TypeOf"], unfollowed := true, recurses := true, apart := false }
def TreeLongSaid : Prop := treeLongRow.holds Try.pinned (OpenSpec.ofChange treeLongSpec)

/-- ITS FALSE NEIGHBOUR: 'it returns false'. Refute it at one input. -/
def treeLongWrong : ChangeSpec := { name := "treeLong", fn := fun _ => fun
  | [d1, d2] => { results := [.lit (.bool false)], args := [d1, d2] }
  | _ => none }
def TreeLongWrongFalsely : Prop := treeLongRow.holds Try.pinned (OpenSpec.ofChange treeLongWrong)

/-- 'tontinelaw7.TreeSleeps': WHATEVER THE INPUT: true; the input reads as it did. -/
def treeSleepsSpec : ChangeSpec := { name := "treeSleeps", fn := fun _ => fun
  | [d1, d2, d3, d4] => { results := [.lit (.bool true)], args := [d1, d2, d3, d4] }
  | _ => none }
def treeSleepsRow : OpenClaim := { program := "ytjbjngikaiggdaa", sum := "aa051bc93cb5bad406ffe1cdee47f9c583f646bbe3f9d1626f7a3a1ebb3e2a13", func := "tontine/tontinelaw7.TreeSleeps", spec := "treeSleeps", inPlace := ["slices.overlaps[tontine/api.Entry]", "internal/reflectlite.TypeOf"], unfollowed := true, recurses := true, apart := false }
def TreeSleepsSaid : Prop := treeSleepsRow.holds Try.pinned (OpenSpec.ofChange treeSleepsSpec)

/-- ITS FALSE NEIGHBOUR: 'it returns false'. Refute it at one input. -/
def treeSleepsWrong : ChangeSpec := { name := "treeSleeps", fn := fun _ => fun
  | [d1, d2, d3, d4] => { results := [.lit (.bool false)], args := [d1, d2, d3, d4] }
  | _ => none }
def TreeSleepsWrongFalsely : Prop := treeSleepsRow.holds Try.pinned (OpenSpec.ofChange treeSleepsWrong)

/-- 'tontinelaw7.TreeNone': WHATEVER THE INPUT: true; the input reads as it did. -/
def treeNoneSpec : ChangeSpec := { name := "treeNone", fn := fun _ => fun
  | [d1, d2, d3] => { results := [.lit (.bool true)], args := [d1, d2, d3] }
  | _ => none }
def treeNoneRow : OpenClaim := { program := "ytjbjngikaiggdaa", sum := "aa051bc93cb5bad406ffe1cdee47f9c583f646bbe3f9d1626f7a3a1ebb3e2a13", func := "tontine/tontinelaw7.TreeNone", spec := "treeNone", inPlace := ["slices.overlaps[tontine/api.Entry]", "internal/reflectlite.TypeOf"], unfollowed := true, recurses := true, apart := false }
def TreeNoneSaid : Prop := treeNoneRow.holds Try.pinned (OpenSpec.ofChange treeNoneSpec)

/-- ITS FALSE NEIGHBOUR: 'it returns false'. Refute it at one input. -/
def treeNoneWrong : ChangeSpec := { name := "treeNone", fn := fun _ => fun
  | [d1, d2, d3] => { results := [.lit (.bool false)], args := [d1, d2, d3] }
  | _ => none }
def TreeNoneWrongFalsely : Prop := treeNoneRow.holds Try.pinned (OpenSpec.ofChange treeNoneWrong)

/-- 'tontinelaw7.TreeWithin': WHATEVER THE INPUT: true; the input reads as it did. -/
def treeWithinSpec : ChangeSpec := { name := "treeWithin", fn := fun _ => fun
  | [d] => { results := [.lit (.bool true)], args := [d] }
  | _ => none }
def treeWithinRow : OpenClaim := { program := "ytjbjngikaiggdaa", sum := "aa051bc93cb5bad406ffe1cdee47f9c583f646bbe3f9d1626f7a3a1ebb3e2a13", func := "tontine/tontinelaw7.TreeWithin", spec := "treeWithin", inPlace := ["slices.overlaps[tontine/api.Entry]", "internal/reflectlite.TypeOf"], unfollowed := true, recurses := true, apart := false }
def TreeWithinSaid : Prop := treeWithinRow.holds Try.pinned (OpenSpec.ofChange treeWithinSpec)

/-- ITS FALSE NEIGHBOUR: 'it returns false'. Refute it at one input. -/
def treeWithinWrong : ChangeSpec := { name := "treeWithin", fn := fun _ => fun
  | [d] => { results := [.lit (.bool false)], args := [d] }
  | _ => none }
def TreeWithinWrongFalsely : Prop := treeWithinRow.holds Try.pinned (OpenSpec.ofChange treeWithinWrong)

/- THE SECOND FORM. 'bulk': how many values and letters a reading holds, each counted each time it is reached (what is shared counts as often as it is met; a slice's spare places count too). A statement '..UptoSaid' is the law's where the arguments, and the package variables that the reading takes, are together of bulk at most 1048576: NARROWER than '..Said'. Prove '..Said' where nothing that the law and all that it calls make is longer than what came in: it says more and counts as full. Else prove '..UptoSaid'. A law counts once. -/
mutual
def uptoBulk {H : Type} : DataW H → Nat
  | .lit (.string bytes) => bytes.length + 1
  | .lit _ => 1
  | .nil => 1
  | .ptr d => uptoBulk d + 1
  | .slice elems spare => uptoBulkAll elems + uptoBulkAll spare + 1
  | .agg parts => uptoBulkAll parts + 1
  | .iface _ d => uptoBulk d + 1
  | .map entries => uptoBulkEntries entries + 1
  | .held _ => 1
def uptoBulkAll {H : Type} : List (DataW H) → Nat
  | [] => 0
  | d :: r => uptoBulk d + uptoBulkAll r
def uptoBulkEntries {H : Type} : List (Lit × DataW H) → Nat
  | [] => 0
  | x :: r => uptoBulkEntry x + uptoBulkEntries r
def uptoBulkEntry {H : Type} : Lit × DataW H → Nat
  | (.string bytes, d) => bytes.length + uptoBulk d + 1
  | (_, d) => uptoBulk d + 1
 end
def uptoSmall : (H : Type) → List (DataW H) → Bool := fun _ ds => decide (uptoBulkAll ds ≤ 1048576)
def OpenSpec.upto (s : _root_.Go.ChangeSpec) : _root_.Go.OpenSpec := { _root_.Go.OpenSpec.ofChange s with cond := some uptoSmall }

/-- 'tontinelaw7.TreeShares', WHERE WHAT IT READS IS OF BULK AT MOST 1048576: true; the input reads as it did. -/
def treeSharesUptoRow : OpenClaim := { program := "ytjbjngikaiggdaa", sum := "aa051bc93cb5bad406ffe1cdee47f9c583f646bbe3f9d1626f7a3a1ebb3e2a13", func := "tontine/tontinelaw7.TreeShares", spec := "treeShares", inPlace := ["slices.overlaps[tontine/api.Entry]", "internal/reflectlite.TypeOf"], unfollowed := true, recurses := true, apart := false, narrowed := true }
def TreeSharesUptoSaid : Prop := treeSharesUptoRow.holds Try.pinned (OpenSpec.upto treeSharesSpec)

/-- 'tontinelaw7.TreeLimits', WHERE WHAT IT READS IS OF BULK AT MOST 1048576: true; the input reads as it did. -/
def treeLimitsUptoRow : OpenClaim := { program := "ytjbjngikaiggdaa", sum := "aa051bc93cb5bad406ffe1cdee47f9c583f646bbe3f9d1626f7a3a1ebb3e2a13", func := "tontine/tontinelaw7.TreeLimits", spec := "treeLimits", inPlace := ["slices.overlaps[tontine/api.Entry]", "internal/reflectlite.TypeOf"], unfollowed := true, recurses := true, apart := false, narrowed := true }
def TreeLimitsUptoSaid : Prop := treeLimitsUptoRow.holds Try.pinned (OpenSpec.upto treeLimitsSpec)

/-- 'tontinelaw7.TreeLong', WHERE WHAT IT READS IS OF BULK AT MOST 1048576: true; the input reads as it did. -/
def treeLongUptoRow : OpenClaim := { program := "ytjbjngikaiggdaa", sum := "aa051bc93cb5bad406ffe1cdee47f9c583f646bbe3f9d1626f7a3a1ebb3e2a13", func := "tontine/tontinelaw7.TreeLong", spec := "treeLong", inPlace := ["slices.overlaps[tontine/api.Entry]", "internal/reflectlite.TypeOf"], unfollowed := true, recurses := true, apart := false, narrowed := true }
def TreeLongUptoSaid : Prop := treeLongUptoRow.holds Try.pinned (OpenSpec.upto treeLongSpec)

/-- 'tontinelaw7.TreeSleeps', WHERE WHAT IT READS IS OF BULK AT MOST 1048576: true; the input reads as it did. -/
def treeSleepsUptoRow : OpenClaim := { program := "ytjbjngikaiggdaa", sum := "aa051bc93cb5bad406ffe1cdee47f9c583f646bbe3f9d1626f7a3a1ebb3e2a13", func := "tontine/tontinelaw7.TreeSleeps", spec := "treeSleeps", inPlace := ["slices.overlaps[tontine/api.Entry]", "internal/reflectlite.TypeOf"], unfollowed := true, recurses := true, apart := false, narrowed := true }
def TreeSleepsUptoSaid : Prop := treeSleepsUptoRow.holds Try.pinned (OpenSpec.upto treeSleepsSpec)

/-- 'tontinelaw7.TreeNone', WHERE WHAT IT READS IS OF BULK AT MOST 1048576: true; the input reads as it did. -/
def treeNoneUptoRow : OpenClaim := { program := "ytjbjngikaiggdaa", sum := "aa051bc93cb5bad406ffe1cdee47f9c583f646bbe3f9d1626f7a3a1ebb3e2a13", func := "tontine/tontinelaw7.TreeNone", spec := "treeNone", inPlace := ["slices.overlaps[tontine/api.Entry]", "internal/reflectlite.TypeOf"], unfollowed := true, recurses := true, apart := false, narrowed := true }
def TreeNoneUptoSaid : Prop := treeNoneUptoRow.holds Try.pinned (OpenSpec.upto treeNoneSpec)

/-- 'tontinelaw7.TreeWithin', WHERE WHAT IT READS IS OF BULK AT MOST 1048576: true; the input reads as it did. -/
def treeWithinUptoRow : OpenClaim := { program := "ytjbjngikaiggdaa", sum := "aa051bc93cb5bad406ffe1cdee47f9c583f646bbe3f9d1626f7a3a1ebb3e2a13", func := "tontine/tontinelaw7.TreeWithin", spec := "treeWithin", inPlace := ["slices.overlaps[tontine/api.Entry]", "internal/reflectlite.TypeOf"], unfollowed := true, recurses := true, apart := false, narrowed := true }
def TreeWithinUptoSaid : Prop := treeWithinUptoRow.holds Try.pinned (OpenSpec.upto treeWithinSpec)

end Rows
end Go.Proofs.Ytjbjngikaiggdaa
