/- Texts put together: A fact of WorldPlays' row. Conditions: none. -/
import Derived.Test.YtfhkgohokbkgiaaGreatDoorMgWorldPlays3
import Derived.Test.YtfhkgohokbkgiaaGreatDoorRows
import Derived.WalkKit
import Derived.ProofKit
import Derived.OpenShut
import Derived.ShutString
import Derived.ChangeOld
import Derived.Below
import Derived.SizedLaws
import Derived.ChangeSame
import Derived.ChangeVars
import Derived.JoinedOf
import Derived.RowKit
import Derived.RowKitTokens
import Derived.LaidLaws
import Derived.LaidHandle
import Derived.Stop.Joined
import Derived.SevenTiedAt
import Derived.Test.YtfhkgohokbkgiaaGreatDoorCards
import Derived.Test.YtfhkgohokbkgiaaGreatDoorTie
set_option maxRecDepth 100000
namespace Go.Proofs.YtfhkgohokbkgiaaGreatDoor.worldPlays
open Go.ChangeShapes Go.WideShapes Go.ChangeAt Go.RowKit Go.Proofs.YtfhkgohokbkgiaaGreatDoor
theorem ZrS :(Rows.worldPlaysRow.inPlace==Tryz.pinned.checked.prog.inPlace 10)=true:=by kernel_rfl
end Go.Proofs.YtfhkgohokbkgiaaGreatDoor.worldPlays
