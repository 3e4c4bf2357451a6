/-
  DERIVED. GIVEN WITH THE SEED: THE CARDS: each row of YtlhjibkkkhgonaaGreatDoorRows.lean that lists a variable, with what it lists TIED to the program's text (the seventh form; the later family's looks); each row that meets fmt, with fmt's text TOLD by the authors' own Lean function (tested against real Go, not proved from fmt's source: count such statements apart). THE CARD IS WHAT COUNTS. Prove the row's statement (the work); the ties are given (YtlhjibkkkhgonaaGreatDoorTie.lean); close each card by the builder's one call (the guide's Derived/Test/ToyasCard.lean, 'card_holds'). Laid BY PROGRAM, IN A SANDBOX (cutbox-door.mjs). By AI agents, Wed Nov 11 2026. No macro, syntax, notation, axiom, sorry.
-/
import Derived.Test.YtlhjibkkkhgonaaGreatDoorRows
import GoSem.ClaimSeven
namespace Go.Proofs.YtlhjibkkkhgonaaGreatDoor
namespace Rows

/-- THE TIED CARD OF 'tontinelaw10.KernelPlays'. -/
def kernelPlaysCard : Claim7 := { stood := { row := kernelPlaysRow, standIns := [], harness := (true, "69c30d0c2438329d9bc404986f452035eda2b378dec7b54032a25c2704993dd5"), looks := true }, kinds := [], alts := [], laidByText := true, laidKinds := [.handle], laidTests := true, laidLooks := .later }
def KernelPlaysCardSaid : Prop := Claim7.holds Tryz.pinned (.plain (OpenSpec.ofChange kernelPlaysSpec)) kernelPlaysCard

/-- THE SECOND FORM's CARD OF 'tontinelaw10.KernelPlays'. -/
def kernelPlaysUptoCard : Claim7 := { stood := { row := kernelPlaysUptoRow, standIns := [], harness := (true, "69c30d0c2438329d9bc404986f452035eda2b378dec7b54032a25c2704993dd5"), looks := true }, kinds := [], alts := [], laidByText := true, laidKinds := [.handle], laidTests := true, laidLooks := .later }
def KernelPlaysUptoCardSaid : Prop := Claim7.holds Tryz.pinned (.plain (OpenSpec.upto kernelPlaysSpec)) kernelPlaysUptoCard
end Rows
end Go.Proofs.YtlhjibkkkhgonaaGreatDoor
