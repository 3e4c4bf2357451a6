-- Printed for this claim by myprint.py: Go functions as functions of lists and numbers, and that the Go code tells the same.
import Derived.Test.YtgkhnmeemiloaaaProg
import Derived.Below
import Derived.Deep.Draws
import Derived.Deep.AppendLies
import Derived.Maps.AppendAt
import Derived.OwnWalk
import Derived.Laws.BytesArg
import Derived.Laws.MakeOwn
import Derived.Laws.OwnMore
import Derived.Deep.OwnRows
import Derived.Tactics
import Derived.Lib.ConvBytes
import Derived.Laws.Slices
import Derived.WalkKit
import Derived.KernelRfl
import Derived.RowKit3
import Derived.Deep.LoopGhost
import Derived.Deep.QuietTactic
import Derived.BigQuiet
import Derived.WideLaws
import Derived.Deep.DeepCutAuto
import Derived.Deep.CutBlock
import Derived.Deep.RegionHeld3
import Derived.Laws.Rows
import Derived.Lib.AppendStr
import Derived.ArgAppend
import Derived.Laws.IdiomCopy
import Derived.OrdersHeld
import Derived.Laws.BitsLemmas
import Derived.RowKit
import Derived.Test.YtgkhnmeemiloaaaWWords
import Derived.Test.YtgkhnmeemiloaaaWLast
import Derived.Test.YtgkhnmeemiloaaaWTab
import Derived.Test.YtgkhnmeemiloaaaWFour
import Derived.Test.YtgkhnmeemiloaaaWQPut
import Derived.Test.YtgkhnmeemiloaaaWApart
import Derived.Test.YtgkhnmeemiloaaaWArr
import Derived.Test.YtgkhnmeemiloaaaWZeros
import Derived.Test.YtgkhnmeemiloaaaWFoot
import Derived.Test.YtgkhnmeemiloaaaWKept
import Derived.Test.YtgkhnmeemiloaaaWShare
import Derived.Test.YtgkhnmeemiloaaaWN
import Derived.Test.YtgkhnmeemiloaaaWFootNe
import Derived.Test.YtgkhnmeemiloaaaWAt
import Derived.Test.YtgkhnmeemiloaaaWEqStruct
import Derived.Test.YtgkhnmeemiloaaaWRepsOne
import Derived.Test.YtgkhnmeemiloaaaWInv
import Derived.Test.YtgkhnmeemiloaaaWInvWords
import Derived.Test.YtgkhnmeemiloaaaWGuard
import Derived.Test.YtgkhnmeemiloaaaWNEv
import Derived.Test.YtgkhnmeemiloaaaWMore
import Derived.Test.YtgkhnmeemiloaaaSlots
namespace Go.Proofs.Ytgkhnmeemiloaaa.PS
open Go.RowKit Go.Proofs.YtgkhnmeemiloaaaW.PrintWords Go.Proofs.YtgkhnmeemiloaaaW.PrintLast Go.Proofs.YtgkhnmeemiloaaaW.PrintMore
attribute [local go_sem] max2_int min2_int max_two min_two max_three min_three max_four min_four   -- for this text's walks alone
set_option linter.unusedVariables false
set_option linter.unusedSimpArgs false



def errW : Option Int → Value
  | none => .nilIface
  | some c => .iface 0 (.int .i64 c)
theorem errW_none : errW none = .nilIface := rfl
theorem errW_some (c : Int) : errW (some c) = .iface 0 (.int .i64 c) := rfl

theorem info3 : (Try.prog.info? 3).map (fun i => (i.zero, i.size, i.bytes)) = some (some (.int .i64 0), 1, 8) := by kernel_rfl
-- the values' own types

end Go.Proofs.Ytgkhnmeemiloaaa.PS
