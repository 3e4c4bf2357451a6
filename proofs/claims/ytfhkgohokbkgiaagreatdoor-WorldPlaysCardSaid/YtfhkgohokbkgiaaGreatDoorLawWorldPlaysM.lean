/- The row of WorldPlays. Conditions: none. -/
import Derived.Test.YtfhkgohokbkgiaaGreatDoorMgWorldPlays7
import Derived.Test.YtfhkgohokbkgiaaGreatDoorRows
import Derived.WalkKit
import Derived.ProofKit
import Derived.OpenShut
import Derived.ShutString
import Derived.ChangeOld
import Derived.Below
import Derived.SizedLaws
import Derived.ChangeSame
import Derived.ChangeVars
import Derived.JoinedOf
import Derived.RowKit
import Derived.RowKitTokens
import Derived.LaidLaws
import Derived.LaidHandle
import Derived.Stop.Joined
import Derived.SevenTiedAt
import Derived.Test.YtfhkgohokbkgiaaGreatDoorCards
import Derived.Test.YtfhkgohokbkgiaaGreatDoorTie

namespace Go.Proofs.YtfhkgohokbkgiaaGreatDoor.worldPlays
open Go.ChangeShapes Go.WideShapes Go.ChangeAt Go.RowKit Go.Proofs.YtfhkgohokbkgiaaGreatDoor
set_option linter.unusedVariables false
set_option maxRecDepth 100000 in
theorem closed : joinedFacts Tryz.pinned.checked.prog 10 Tryz.f10 Rows.worldPlaysSpec Rows.worldPlaysRow = true := by
  unfold joinedFacts
  rw [ZrS, Zpm, Zq7, ZsX]
  kernel_rfl
set_option maxRecDepth 100000 in
theorem over : Rows.worldPlaysRow.holds Tryz.pinned (OpenSpec.ofChange Rows.worldPlaysSpec) :=
  OpenClaim.holds_of_wide 10 Tryz.f10 rfl rfl rfl rfl rfl rfl rfl ⟨rfl, rfl, rfl, rfl, rfl⟩ rfl rfl rfl rfl rfl (by kernel_rfl) Tryz.func10 closed
    (of_decide_eq_true (by kernel_rfl)) (by unfold Func.isWrapper; first | (rw [if_pos (by decide +kernel)]; kernel_rfl) | (rw [if_neg (by decide +kernel)]; exact ⟨rfl, rfl⟩))
    (fun os started H enc _ => Ztd os started H enc)
theorem proved : Rows.WorldPlaysCardSaid :=
  Claim7.holds_tied_plain_at .later [] [.handle] true Rows.worldPlaysCard.stood.harness true over (fun _ h => by cases h) (by kernel_rfl) (fun _ h => by cases h) worldPlays_row_tie rfl ⟨rfl, rfl⟩ (by kernel_rfl) rfl
    (fun f fn hf hfn => by
      obtain rfl : f = 10 := Option.some.inj ((show Tryz.prog.funcNamed "tontine/tontinelaw21.WorldPlays" = some 10 by kernel_rfl).symm.trans hf) |>.symm
      obtain rfl : fn = Tryz.f10 := (Option.some.inj (Tryz.func10.symm.trans hfn)).symm
      exact ⟨by kernel_rfl, fun j t ht => by
        rw [Tryz.params10] at ht
        rcases j with _ | j
        · obtain rfl := Option.some.inj ht; kernel_rfl
        cases ht⟩)
    (by kernel_rfl)
#print axioms proved
end Go.Proofs.YtfhkgohokbkgiaaGreatDoor.worldPlays
namespace Go.Proofs.YtfhkgohokbkgiaaGreatDoor
/-- The row of the law, whole. -/
theorem worldPlays_holds : Rows.WorldPlaysCardSaid := worldPlays.proved
end Go.Proofs.YtfhkgohokbkgiaaGreatDoor
