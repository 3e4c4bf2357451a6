/-
  DERIVED. GIVEN WITH THE SEED: THE CARDS: each row of YtfhkgohokbkgiaaGreatDoorRows.lean that lists a variable, with what it lists TIED to the program's text (the seventh form; the later family's looks); each row that meets fmt, with fmt's text TOLD by the authors' own Lean function (tested against real Go, not proved from fmt's source: count such statements apart). THE CARD IS WHAT COUNTS. Prove the row's statement (the work); the ties are given (YtfhkgohokbkgiaaGreatDoorTie.lean); close each card by the builder's one call (the guide's Derived/Test/ToyasCard.lean, 'card_holds'). Laid BY PROGRAM, IN A SANDBOX (cutbox-door.mjs). By AI agents, Wed Nov 11 2026. No macro, syntax, notation, axiom, sorry.
-/
import Derived.Test.YtfhkgohokbkgiaaGreatDoorRows
import GoSem.ClaimSeven
namespace Go.Proofs.YtfhkgohokbkgiaaGreatDoor
namespace Rows

/-- THE TIED CARD OF 'tontinelaw21.WorldReads'. -/
def worldReadsCard : Claim7 := { stood := { row := worldReadsRow, standIns := [], harness := (true, "134c55e5ec1dafbe891efb38ad87608c952bb376e52872e9bf5e0bb3b7d85f84"), looks := true }, kinds := [], alts := [], laidByText := true, laidKinds := [.handle], laidTests := true, laidLooks := .later }
def WorldReadsCardSaid : Prop := Claim7.holds Tryz.pinned (.plain (OpenSpec.ofChange worldReadsSpec)) worldReadsCard

/-- THE TIED CARD OF 'tontinelaw21.WorldRecords'. -/
def worldRecordsCard : Claim7 := { stood := { row := worldRecordsRow, standIns := [], harness := (true, "134c55e5ec1dafbe891efb38ad87608c952bb376e52872e9bf5e0bb3b7d85f84"), looks := true }, kinds := [], alts := [], laidByText := true, laidKinds := [.handle], laidTests := true, laidLooks := .later }
def WorldRecordsCardSaid : Prop := Claim7.holds Tryz.pinned (.plain (OpenSpec.ofChange worldRecordsSpec)) worldRecordsCard

/-- THE TIED CARD OF 'tontinelaw21.WorldLetters'. -/
def worldLettersCard : Claim7 := { stood := { row := worldLettersRow, standIns := [], harness := (true, "134c55e5ec1dafbe891efb38ad87608c952bb376e52872e9bf5e0bb3b7d85f84"), looks := true }, kinds := [], alts := [], laidByText := true, laidKinds := [.handle], laidTests := true, laidLooks := .later }
def WorldLettersCardSaid : Prop := Claim7.holds Tryz.pinned (.plain (OpenSpec.ofChange worldLettersSpec)) worldLettersCard

/-- THE TIED CARD OF 'tontinelaw21.WorldStats'. -/
def worldStatsCard : Claim7 := { stood := { row := worldStatsRow, standIns := [], harness := (true, "134c55e5ec1dafbe891efb38ad87608c952bb376e52872e9bf5e0bb3b7d85f84"), looks := true }, kinds := [], alts := [], laidByText := true, laidKinds := [.handle], laidTests := true, laidLooks := .later }
def WorldStatsCardSaid : Prop := Claim7.holds Tryz.pinned (.plain (OpenSpec.ofChange worldStatsSpec)) worldStatsCard

/-- THE TIED CARD OF 'tontinelaw21.WorldBlind'. -/
def worldBlindCard : Claim7 := { stood := { row := worldBlindRow, standIns := [], harness := (true, "134c55e5ec1dafbe891efb38ad87608c952bb376e52872e9bf5e0bb3b7d85f84"), looks := true }, kinds := [], alts := [], laidByText := true, laidKinds := [.handle], laidTests := true, laidLooks := .later }
def WorldBlindCardSaid : Prop := Claim7.holds Tryz.pinned (.plain (OpenSpec.ofChange worldBlindSpec)) worldBlindCard

/-- THE TIED CARD OF 'tontinelaw21.WorldEpochs'. -/
def worldEpochsCard : Claim7 := { stood := { row := worldEpochsRow, standIns := [], harness := (true, "134c55e5ec1dafbe891efb38ad87608c952bb376e52872e9bf5e0bb3b7d85f84"), looks := true }, kinds := [], alts := [], laidByText := true, laidKinds := [.handle], laidTests := true, laidLooks := .later }
def WorldEpochsCardSaid : Prop := Claim7.holds Tryz.pinned (.plain (OpenSpec.ofChange worldEpochsSpec)) worldEpochsCard

/-- THE TIED CARD OF 'tontinelaw21.WorldThreads'. -/
def worldThreadsCard : Claim7 := { stood := { row := worldThreadsRow, standIns := [], harness := (true, "134c55e5ec1dafbe891efb38ad87608c952bb376e52872e9bf5e0bb3b7d85f84"), looks := true }, kinds := [], alts := [], laidByText := true, laidKinds := [.handle], laidTests := true, laidLooks := .later }
def WorldThreadsCardSaid : Prop := Claim7.holds Tryz.pinned (.plain (OpenSpec.ofChange worldThreadsSpec)) worldThreadsCard

/-- THE TIED CARD OF 'tontinelaw21.WorldPlays'. -/
def worldPlaysCard : Claim7 := { stood := { row := worldPlaysRow, standIns := [], harness := (true, "134c55e5ec1dafbe891efb38ad87608c952bb376e52872e9bf5e0bb3b7d85f84"), looks := true }, kinds := [], alts := [], laidByText := true, laidKinds := [.handle], laidTests := true, laidLooks := .later }
def WorldPlaysCardSaid : Prop := Claim7.holds Tryz.pinned (.plain (OpenSpec.ofChange worldPlaysSpec)) worldPlaysCard

/-- THE SECOND FORM's CARD OF 'tontinelaw21.WorldReads'. -/
def worldReadsUptoCard : Claim7 := { stood := { row := worldReadsUptoRow, standIns := [], harness := (true, "134c55e5ec1dafbe891efb38ad87608c952bb376e52872e9bf5e0bb3b7d85f84"), looks := true }, kinds := [], alts := [], laidByText := true, laidKinds := [.handle], laidTests := true, laidLooks := .later }
def WorldReadsUptoCardSaid : Prop := Claim7.holds Tryz.pinned (.plain (OpenSpec.upto worldReadsSpec)) worldReadsUptoCard

/-- THE SECOND FORM's CARD OF 'tontinelaw21.WorldRecords'. -/
def worldRecordsUptoCard : Claim7 := { stood := { row := worldRecordsUptoRow, standIns := [], harness := (true, "134c55e5ec1dafbe891efb38ad87608c952bb376e52872e9bf5e0bb3b7d85f84"), looks := true }, kinds := [], alts := [], laidByText := true, laidKinds := [.handle], laidTests := true, laidLooks := .later }
def WorldRecordsUptoCardSaid : Prop := Claim7.holds Tryz.pinned (.plain (OpenSpec.upto worldRecordsSpec)) worldRecordsUptoCard

/-- THE SECOND FORM's CARD OF 'tontinelaw21.WorldLetters'. -/
def worldLettersUptoCard : Claim7 := { stood := { row := worldLettersUptoRow, standIns := [], harness := (true, "134c55e5ec1dafbe891efb38ad87608c952bb376e52872e9bf5e0bb3b7d85f84"), looks := true }, kinds := [], alts := [], laidByText := true, laidKinds := [.handle], laidTests := true, laidLooks := .later }
def WorldLettersUptoCardSaid : Prop := Claim7.holds Tryz.pinned (.plain (OpenSpec.upto worldLettersSpec)) worldLettersUptoCard

/-- THE SECOND FORM's CARD OF 'tontinelaw21.WorldStats'. -/
def worldStatsUptoCard : Claim7 := { stood := { row := worldStatsUptoRow, standIns := [], harness := (true, "134c55e5ec1dafbe891efb38ad87608c952bb376e52872e9bf5e0bb3b7d85f84"), looks := true }, kinds := [], alts := [], laidByText := true, laidKinds := [.handle], laidTests := true, laidLooks := .later }
def WorldStatsUptoCardSaid : Prop := Claim7.holds Tryz.pinned (.plain (OpenSpec.upto worldStatsSpec)) worldStatsUptoCard

/-- THE SECOND FORM's CARD OF 'tontinelaw21.WorldBlind'. -/
def worldBlindUptoCard : Claim7 := { stood := { row := worldBlindUptoRow, standIns := [], harness := (true, "134c55e5ec1dafbe891efb38ad87608c952bb376e52872e9bf5e0bb3b7d85f84"), looks := true }, kinds := [], alts := [], laidByText := true, laidKinds := [.handle], laidTests := true, laidLooks := .later }
def WorldBlindUptoCardSaid : Prop := Claim7.holds Tryz.pinned (.plain (OpenSpec.upto worldBlindSpec)) worldBlindUptoCard

/-- THE SECOND FORM's CARD OF 'tontinelaw21.WorldEpochs'. -/
def worldEpochsUptoCard : Claim7 := { stood := { row := worldEpochsUptoRow, standIns := [], harness := (true, "134c55e5ec1dafbe891efb38ad87608c952bb376e52872e9bf5e0bb3b7d85f84"), looks := true }, kinds := [], alts := [], laidByText := true, laidKinds := [.handle], laidTests := true, laidLooks := .later }
def WorldEpochsUptoCardSaid : Prop := Claim7.holds Tryz.pinned (.plain (OpenSpec.upto worldEpochsSpec)) worldEpochsUptoCard

/-- THE SECOND FORM's CARD OF 'tontinelaw21.WorldThreads'. -/
def worldThreadsUptoCard : Claim7 := { stood := { row := worldThreadsUptoRow, standIns := [], harness := (true, "134c55e5ec1dafbe891efb38ad87608c952bb376e52872e9bf5e0bb3b7d85f84"), looks := true }, kinds := [], alts := [], laidByText := true, laidKinds := [.handle], laidTests := true, laidLooks := .later }
def WorldThreadsUptoCardSaid : Prop := Claim7.holds Tryz.pinned (.plain (OpenSpec.upto worldThreadsSpec)) worldThreadsUptoCard

/-- THE SECOND FORM's CARD OF 'tontinelaw21.WorldPlays'. -/
def worldPlaysUptoCard : Claim7 := { stood := { row := worldPlaysUptoRow, standIns := [], harness := (true, "134c55e5ec1dafbe891efb38ad87608c952bb376e52872e9bf5e0bb3b7d85f84"), looks := true }, kinds := [], alts := [], laidByText := true, laidKinds := [.handle], laidTests := true, laidLooks := .later }
def WorldPlaysUptoCardSaid : Prop := Claim7.holds Tryz.pinned (.plain (OpenSpec.upto worldPlaysSpec)) worldPlaysUptoCard
end Rows
end Go.Proofs.YtfhkgohokbkgiaaGreatDoor
