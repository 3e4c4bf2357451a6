/-
  No cell of these rows narrows 'for every input' (looked for: loops, veiled, ifaces, maps, wideKeys, modest, calm, conditions, laid).
  DERIVED. THE GIVEN ROWS OF THIS SEAT. 2 by the template 'for every input the law returns true; each argument reads behind the call as it read before'; 0 by the template 'total and deterministic' (their statements: YtjbjngikaiggdaaGreatTotals.lean).
  GIVEN WITH THE SEED: the statements are not yours to turn. If you find one false, say at which input.
  Laid BY PROGRAM, IN A SANDBOX (cutbox-rows.mjs): the forced cells as the released guide's own fill.sh prints them over the translation d92366d92eef0a2a… (all of the seat's roots in one cut). By AI agents, Wed Nov 11 2026. No macro, syntax, notation, axiom, sorry.
-/
import Derived.Test.YtjbjngikaiggdaaGreatChecked
import GoSem.Claim
import GoSem.ClaimJoined
import GoSem.ClaimMapViews
import Derived.JoinedTies
import Derived.KernelRfl
namespace Go.Proofs.YtjbjngikaiggdaaGreat
/- THE CELL 'sum', in the pinned program and in every row, IS THE sha256 OF THE DUMP (.gsa) THAT YtjbjngikaiggdaaGreatProg.lean LOADS. Nothing in Lean hashes anything: it is a label: what it is worth is what the hold of that sum in a sandbox is worth. -/
noncomputable def Tryz.pinned : Pinned := { name := "ytjbjngikaiggdaagreat", sum := "d92366d92eef0a2aa377bb165b823d0aa3450e542adea480ed6c40dae53a1de5", checked := Tryz.checked }
namespace Rows
def none {H : Type} : Left H := { results := [], args := [] }

/-- 'tontinelaw7.TreeFair': WHATEVER THE INPUT: true; the input reads as it did. -/
def treeFairSpec : ChangeSpec := { name := "treeFair", fn := fun _ => fun
  | [d1, d2, d3] => { results := [.lit (.bool true)], args := [d1, d2, d3] }
  | _ => none }
def treeFairRow : OpenClaim := { program := "ytjbjngikaiggdaagreat", sum := "d92366d92eef0a2aa377bb165b823d0aa3450e542adea480ed6c40dae53a1de5", func := "tontine/tontinelaw7.TreeFair", spec := "treeFair", inPlace := ["slices.overlaps[tontine/api.Entry]", "internal/reflectlite.TypeOf"], unfollowed := true, recurses := true, apart := false }
def TreeFairSaid : Prop := treeFairRow.holds Tryz.pinned (OpenSpec.ofChange treeFairSpec)

/-- ITS FALSE NEIGHBOUR: 'it returns false'. Refute it at one input. -/
def treeFairWrong : ChangeSpec := { name := "treeFair", fn := fun _ => fun
  | [d1, d2, d3] => { results := [.lit (.bool false)], args := [d1, d2, d3] }
  | _ => none }
def TreeFairWrongFalsely : Prop := treeFairRow.holds Tryz.pinned (OpenSpec.ofChange treeFairWrong)

/-- 'tontinelaw7.TreeWeighs': WHATEVER THE INPUT: true; the input reads as it did. -/
def treeWeighsSpec : ChangeSpec := { name := "treeWeighs", fn := fun _ => fun
  | [d1, d2, d3, d4, d5] => { results := [.lit (.bool true)], args := [d1, d2, d3, d4, d5] }
  | _ => none }
def treeWeighsRow : OpenClaim := { program := "ytjbjngikaiggdaagreat", sum := "d92366d92eef0a2aa377bb165b823d0aa3450e542adea480ed6c40dae53a1de5", func := "tontine/tontinelaw7.TreeWeighs", spec := "treeWeighs", inPlace := ["slices.overlaps[tontine/api.Entry]", "internal/reflectlite.TypeOf"], unfollowed := true, recurses := true, apart := false }
def TreeWeighsSaid : Prop := treeWeighsRow.holds Tryz.pinned (OpenSpec.ofChange treeWeighsSpec)

/-- ITS FALSE NEIGHBOUR: 'it returns false'. Refute it at one input. -/
def treeWeighsWrong : ChangeSpec := { name := "treeWeighs", fn := fun _ => fun
  | [d1, d2, d3, d4, d5] => { results := [.lit (.bool false)], args := [d1, d2, d3, d4, d5] }
  | _ => none }
def TreeWeighsWrongFalsely : Prop := treeWeighsRow.holds Tryz.pinned (OpenSpec.ofChange treeWeighsWrong)

/- THE SECOND FORM. 'bulk': how many values and letters a reading holds, each counted each time it is reached (what is shared counts as often as it is met; a slice's spare places count too). A statement '..UptoSaid' is the law's where the arguments, and the package variables that the reading takes, are together of bulk at most 1048576: NARROWER than '..Said'. Prove '..Said' where nothing that the law and all that it calls make is longer than what came in: it says more and counts as full. Else prove '..UptoSaid'. A law counts once. -/
mutual
def uptoBulk {H : Type} : DataW H → Nat
  | .lit (.string bytes) => bytes.length + 1
  | .lit _ => 1
  | .nil => 1
  | .ptr d => uptoBulk d + 1
  | .slice elems spare => uptoBulkAll elems + uptoBulkAll spare + 1
  | .agg parts => uptoBulkAll parts + 1
  | .iface _ d => uptoBulk d + 1
  | .map entries => uptoBulkEntries entries + 1
  | .held _ => 1
def uptoBulkAll {H : Type} : List (DataW H) → Nat
  | [] => 0
  | d :: r => uptoBulk d + uptoBulkAll r
def uptoBulkEntries {H : Type} : List (Lit × DataW H) → Nat
  | [] => 0
  | x :: r => uptoBulkEntry x + uptoBulkEntries r
def uptoBulkEntry {H : Type} : Lit × DataW H → Nat
  | (.string bytes, d) => bytes.length + uptoBulk d + 1
  | (_, d) => uptoBulk d + 1
 end
def uptoSmall : (H : Type) → List (DataW H) → Bool := fun _ ds => decide (uptoBulkAll ds ≤ 1048576)
def OpenSpec.upto (s : _root_.Go.ChangeSpec) : _root_.Go.OpenSpec := { _root_.Go.OpenSpec.ofChange s with cond := some uptoSmall }

/-- 'tontinelaw7.TreeFair', WHERE WHAT IT READS IS OF BULK AT MOST 1048576: true; the input reads as it did. -/
def treeFairUptoRow : OpenClaim := { program := "ytjbjngikaiggdaagreat", sum := "d92366d92eef0a2aa377bb165b823d0aa3450e542adea480ed6c40dae53a1de5", func := "tontine/tontinelaw7.TreeFair", spec := "treeFair", inPlace := ["slices.overlaps[tontine/api.Entry]", "internal/reflectlite.TypeOf"], unfollowed := true, recurses := true, apart := false, narrowed := true }
def TreeFairUptoSaid : Prop := treeFairUptoRow.holds Tryz.pinned (OpenSpec.upto treeFairSpec)

/-- 'tontinelaw7.TreeWeighs', WHERE WHAT IT READS IS OF BULK AT MOST 1048576: true; the input reads as it did. -/
def treeWeighsUptoRow : OpenClaim := { program := "ytjbjngikaiggdaagreat", sum := "d92366d92eef0a2aa377bb165b823d0aa3450e542adea480ed6c40dae53a1de5", func := "tontine/tontinelaw7.TreeWeighs", spec := "treeWeighs", inPlace := ["slices.overlaps[tontine/api.Entry]", "internal/reflectlite.TypeOf"], unfollowed := true, recurses := true, apart := false, narrowed := true }
def TreeWeighsUptoSaid : Prop := treeWeighsUptoRow.holds Tryz.pinned (OpenSpec.upto treeWeighsSpec)

end Rows
end Go.Proofs.YtjbjngikaiggdaaGreat
