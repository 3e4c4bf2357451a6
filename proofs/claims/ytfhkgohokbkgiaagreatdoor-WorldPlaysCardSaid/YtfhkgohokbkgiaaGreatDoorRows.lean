/-
  NARROWER THAN 'FOR EVERY INPUT', by the rows' own cells (each row's printed sentence says how): WorldReads: laid · WorldRecords: laid · WorldLetters: laid · WorldStats: laid · WorldBlind: laid · WorldEpochs: laid · WorldThreads: laid · WorldPlays: laid.
  DERIVED. THE GIVEN ROWS OF THIS SEAT. 8 by the template 'for every input the law returns true; each argument reads behind the call as it read before'; 0 by the template 'total and deterministic' (their statements: YtfhkgohokbkgiaaGreatDoorTotals.lean).
  GIVEN WITH THE SEED: the statements are not yours to turn. If you find one false, say at which input.
  Laid BY PROGRAM, IN A SANDBOX (cutbox-rows.mjs): the forced cells as the released guide's own fill.sh prints them over the translation 14cdda5c9eb18d55… (all of the seat's roots in one cut). By AI agents, Wed Nov 11 2026. No macro, syntax, notation, axiom, sorry.
-/
import Derived.Test.YtfhkgohokbkgiaaGreatDoorChecked
import GoSem.Claim
import GoSem.ClaimJoined
import GoSem.ClaimMapViews
import Derived.JoinedTies
import Derived.KernelRfl
namespace Go.Proofs.YtfhkgohokbkgiaaGreatDoor
/- THE CELL 'sum', in the pinned program and in every row, IS THE sha256 OF THE DUMP (.gsa) THAT YtfhkgohokbkgiaaGreatDoorProg.lean LOADS. Nothing in Lean hashes anything: it is a label: what it is worth is what the hold of that sum in a sandbox is worth. -/
noncomputable def Tryz.pinned : Pinned := { name := "ytfhkgohokbkgiaagreatdoor", sum := "14cdda5c9eb18d55fab1234151acd42d1b741206943046d05221da6a1b37a814", checked := Tryz.checked }
namespace Rows
def none {H : Type} : Left H := { results := [], args := [] }

/- WHAT THE LISTED PACKAGE-LEVEL VARIABLES READ AS WHEN THE CALL BEGINS. Each datum BY PROGRAM (the guide's laid-datum.mjs) off the statement by which the dump's own 'gosem.cut.vars' lays the variable. In a bare row this is a premise. The card (YtfhkgohokbkgiaaGreatDoorCards.lean) ties it to the program's text. -/
def laid_errors_errorType {H : Type} : DataW H := .iface "internal/reflectlite.rtype" (.agg [.ptr (.lit (.string [101, 114, 114, 111, 114]))])

/-- 'tontinelaw21.WorldReads': WHATEVER THE INPUT: true; the input reads as it did. -/
def worldReadsSpec : ChangeSpec := { name := "worldReads", fn := fun _ => fun
  | [d1, d2, d3, d4] => { results := [.lit (.bool true)], args := [d1, d2, d3, d4] }
  | _ => none }
def worldReadsRow : OpenClaim := { program := "ytfhkgohokbkgiaagreatdoor", sum := "14cdda5c9eb18d55fab1234151acd42d1b741206943046d05221da6a1b37a814", func := "tontine/tontinelaw21.WorldReads", spec := "worldReads", inPlace := ["slices.overlaps[tontine/api.Entry]", "slices.overlaps[tontine/timer.sleeper]", "internal/reflectlite.ValueOf", "(internal/reflectlite.Value).Type", "(internal/reflectlite.Value).IsNil", "internal/reflectlite.TypeOf", "(internal/reflectlite.Value).Elem", "(internal/reflectlite.Value).Set"], unfollowed := true, recurses := true, named := ["errors.errorType"], apart := false, laid := [("errors.errorType", laid_errors_errorType)] }
def WorldReadsSaid : Prop := worldReadsRow.holds Tryz.pinned (OpenSpec.ofChange worldReadsSpec)

/-- ITS FALSE NEIGHBOUR: 'it returns false'. Refute it at one input. -/
def worldReadsWrong : ChangeSpec := { name := "worldReads", fn := fun _ => fun
  | [d1, d2, d3, d4] => { results := [.lit (.bool false)], args := [d1, d2, d3, d4] }
  | _ => none }
def WorldReadsWrongFalsely : Prop := worldReadsRow.holds Tryz.pinned (OpenSpec.ofChange worldReadsWrong)

/-- 'tontinelaw21.WorldRecords': WHATEVER THE INPUT: true; the input reads as it did. -/
def worldRecordsSpec : ChangeSpec := { name := "worldRecords", fn := fun _ => fun
  | [d1, d2, d3, d4] => { results := [.lit (.bool true)], args := [d1, d2, d3, d4] }
  | _ => none }
def worldRecordsRow : OpenClaim := { program := "ytfhkgohokbkgiaagreatdoor", sum := "14cdda5c9eb18d55fab1234151acd42d1b741206943046d05221da6a1b37a814", func := "tontine/tontinelaw21.WorldRecords", spec := "worldRecords", inPlace := ["slices.overlaps[tontine/api.Entry]", "slices.overlaps[tontine/timer.sleeper]", "internal/reflectlite.ValueOf", "(internal/reflectlite.Value).Type", "(internal/reflectlite.Value).IsNil", "internal/reflectlite.TypeOf", "(internal/reflectlite.Value).Elem", "(internal/reflectlite.Value).Set"], unfollowed := true, recurses := true, named := ["errors.errorType"], apart := false, laid := [("errors.errorType", laid_errors_errorType)] }
def WorldRecordsSaid : Prop := worldRecordsRow.holds Tryz.pinned (OpenSpec.ofChange worldRecordsSpec)

/-- ITS FALSE NEIGHBOUR: 'it returns false'. Refute it at one input. -/
def worldRecordsWrong : ChangeSpec := { name := "worldRecords", fn := fun _ => fun
  | [d1, d2, d3, d4] => { results := [.lit (.bool false)], args := [d1, d2, d3, d4] }
  | _ => none }
def WorldRecordsWrongFalsely : Prop := worldRecordsRow.holds Tryz.pinned (OpenSpec.ofChange worldRecordsWrong)

/-- 'tontinelaw21.WorldLetters': WHATEVER THE INPUT: true; the input reads as it did. -/
def worldLettersSpec : ChangeSpec := { name := "worldLetters", fn := fun _ => fun
  | [d1, d2] => { results := [.lit (.bool true)], args := [d1, d2] }
  | _ => none }
def worldLettersRow : OpenClaim := { program := "ytfhkgohokbkgiaagreatdoor", sum := "14cdda5c9eb18d55fab1234151acd42d1b741206943046d05221da6a1b37a814", func := "tontine/tontinelaw21.WorldLetters", spec := "worldLetters", inPlace := ["slices.overlaps[tontine/api.Entry]", "slices.overlaps[tontine/timer.sleeper]", "internal/reflectlite.ValueOf", "(internal/reflectlite.Value).Type", "(internal/reflectlite.Value).IsNil", "internal/reflectlite.TypeOf", "(internal/reflectlite.Value).Elem", "(internal/reflectlite.Value).Set"], unfollowed := true, recurses := true, named := ["errors.errorType"], apart := false, laid := [("errors.errorType", laid_errors_errorType)] }
def WorldLettersSaid : Prop := worldLettersRow.holds Tryz.pinned (OpenSpec.ofChange worldLettersSpec)

/-- ITS FALSE NEIGHBOUR: 'it returns false'. Refute it at one input. -/
def worldLettersWrong : ChangeSpec := { name := "worldLetters", fn := fun _ => fun
  | [d1, d2] => { results := [.lit (.bool false)], args := [d1, d2] }
  | _ => none }
def WorldLettersWrongFalsely : Prop := worldLettersRow.holds Tryz.pinned (OpenSpec.ofChange worldLettersWrong)

/-- 'tontinelaw21.WorldStats': WHATEVER THE INPUT: true; the input reads as it did. -/
def worldStatsSpec : ChangeSpec := { name := "worldStats", fn := fun _ => fun
  | [d1, d2, d3, d4, d5] => { results := [.lit (.bool true)], args := [d1, d2, d3, d4, d5] }
  | _ => none }
def worldStatsRow : OpenClaim := { program := "ytfhkgohokbkgiaagreatdoor", sum := "14cdda5c9eb18d55fab1234151acd42d1b741206943046d05221da6a1b37a814", func := "tontine/tontinelaw21.WorldStats", spec := "worldStats", inPlace := ["slices.overlaps[tontine/api.Entry]", "slices.overlaps[tontine/timer.sleeper]", "internal/reflectlite.ValueOf", "(internal/reflectlite.Value).Type", "(internal/reflectlite.Value).IsNil", "internal/reflectlite.TypeOf", "(internal/reflectlite.Value).Elem", "(internal/reflectlite.Value).Set"], unfollowed := true, recurses := true, named := ["errors.errorType"], apart := false, laid := [("errors.errorType", laid_errors_errorType)] }
def WorldStatsSaid : Prop := worldStatsRow.holds Tryz.pinned (OpenSpec.ofChange worldStatsSpec)

/-- ITS FALSE NEIGHBOUR: 'it returns false'. Refute it at one input. -/
def worldStatsWrong : ChangeSpec := { name := "worldStats", fn := fun _ => fun
  | [d1, d2, d3, d4, d5] => { results := [.lit (.bool false)], args := [d1, d2, d3, d4, d5] }
  | _ => none }
def WorldStatsWrongFalsely : Prop := worldStatsRow.holds Tryz.pinned (OpenSpec.ofChange worldStatsWrong)

/-- 'tontinelaw21.WorldBlind': WHATEVER THE INPUT: true; the input reads as it did. -/
def worldBlindSpec : ChangeSpec := { name := "worldBlind", fn := fun _ => fun
  | [d1, d2, d3] => { results := [.lit (.bool true)], args := [d1, d2, d3] }
  | _ => none }
def worldBlindRow : OpenClaim := { program := "ytfhkgohokbkgiaagreatdoor", sum := "14cdda5c9eb18d55fab1234151acd42d1b741206943046d05221da6a1b37a814", func := "tontine/tontinelaw21.WorldBlind", spec := "worldBlind", inPlace := ["slices.overlaps[tontine/api.Entry]", "slices.overlaps[tontine/timer.sleeper]", "internal/reflectlite.ValueOf", "(internal/reflectlite.Value).Type", "(internal/reflectlite.Value).IsNil", "internal/reflectlite.TypeOf", "(internal/reflectlite.Value).Elem", "(internal/reflectlite.Value).Set"], unfollowed := true, recurses := true, named := ["errors.errorType"], apart := false, laid := [("errors.errorType", laid_errors_errorType)] }
def WorldBlindSaid : Prop := worldBlindRow.holds Tryz.pinned (OpenSpec.ofChange worldBlindSpec)

/-- ITS FALSE NEIGHBOUR: 'it returns false'. Refute it at one input. -/
def worldBlindWrong : ChangeSpec := { name := "worldBlind", fn := fun _ => fun
  | [d1, d2, d3] => { results := [.lit (.bool false)], args := [d1, d2, d3] }
  | _ => none }
def WorldBlindWrongFalsely : Prop := worldBlindRow.holds Tryz.pinned (OpenSpec.ofChange worldBlindWrong)

/-- 'tontinelaw21.WorldEpochs': WHATEVER THE INPUT: true; the input reads as it did. -/
def worldEpochsSpec : ChangeSpec := { name := "worldEpochs", fn := fun _ => fun
  | [d1, d2, d3] => { results := [.lit (.bool true)], args := [d1, d2, d3] }
  | _ => none }
def worldEpochsRow : OpenClaim := { program := "ytfhkgohokbkgiaagreatdoor", sum := "14cdda5c9eb18d55fab1234151acd42d1b741206943046d05221da6a1b37a814", func := "tontine/tontinelaw21.WorldEpochs", spec := "worldEpochs", inPlace := ["slices.overlaps[tontine/api.Entry]", "slices.overlaps[tontine/timer.sleeper]", "internal/reflectlite.ValueOf", "(internal/reflectlite.Value).Type", "(internal/reflectlite.Value).IsNil", "internal/reflectlite.TypeOf", "(internal/reflectlite.Value).Elem", "(internal/reflectlite.Value).Set"], unfollowed := true, recurses := true, named := ["errors.errorType"], apart := false, laid := [("errors.errorType", laid_errors_errorType)] }
def WorldEpochsSaid : Prop := worldEpochsRow.holds Tryz.pinned (OpenSpec.ofChange worldEpochsSpec)

/-- ITS FALSE NEIGHBOUR: 'it returns false'. Refute it at one input. -/
def worldEpochsWrong : ChangeSpec := { name := "worldEpochs", fn := fun _ => fun
  | [d1, d2, d3] => { results := [.lit (.bool false)], args := [d1, d2, d3] }
  | _ => none }
def WorldEpochsWrongFalsely : Prop := worldEpochsRow.holds Tryz.pinned (OpenSpec.ofChange worldEpochsWrong)

/-- 'tontinelaw21.WorldThreads': WHATEVER THE INPUT: true; the input reads as it did. -/
def worldThreadsSpec : ChangeSpec := { name := "worldThreads", fn := fun _ => fun
  | [d1, d2] => { results := [.lit (.bool true)], args := [d1, d2] }
  | _ => none }
def worldThreadsRow : OpenClaim := { program := "ytfhkgohokbkgiaagreatdoor", sum := "14cdda5c9eb18d55fab1234151acd42d1b741206943046d05221da6a1b37a814", func := "tontine/tontinelaw21.WorldThreads", spec := "worldThreads", inPlace := ["slices.overlaps[tontine/api.Entry]", "slices.overlaps[tontine/timer.sleeper]", "internal/reflectlite.ValueOf", "(internal/reflectlite.Value).Type", "(internal/reflectlite.Value).IsNil", "internal/reflectlite.TypeOf", "(internal/reflectlite.Value).Elem", "(internal/reflectlite.Value).Set"], unfollowed := true, recurses := true, named := ["errors.errorType"], apart := false, laid := [("errors.errorType", laid_errors_errorType)] }
def WorldThreadsSaid : Prop := worldThreadsRow.holds Tryz.pinned (OpenSpec.ofChange worldThreadsSpec)

/-- ITS FALSE NEIGHBOUR: 'it returns false'. Refute it at one input. -/
def worldThreadsWrong : ChangeSpec := { name := "worldThreads", fn := fun _ => fun
  | [d1, d2] => { results := [.lit (.bool false)], args := [d1, d2] }
  | _ => none }
def WorldThreadsWrongFalsely : Prop := worldThreadsRow.holds Tryz.pinned (OpenSpec.ofChange worldThreadsWrong)

/-- 'tontinelaw21.WorldPlays': WHATEVER THE INPUT: true; the input reads as it did. -/
def worldPlaysSpec : ChangeSpec := { name := "worldPlays", fn := fun _ => fun
  | [d] => { results := [.lit (.bool true)], args := [d] }
  | _ => none }
def worldPlaysRow : OpenClaim := { program := "ytfhkgohokbkgiaagreatdoor", sum := "14cdda5c9eb18d55fab1234151acd42d1b741206943046d05221da6a1b37a814", func := "tontine/tontinelaw21.WorldPlays", spec := "worldPlays", inPlace := ["slices.overlaps[tontine/api.Entry]", "slices.overlaps[tontine/timer.sleeper]", "internal/reflectlite.ValueOf", "(internal/reflectlite.Value).Type", "(internal/reflectlite.Value).IsNil", "internal/reflectlite.TypeOf", "(internal/reflectlite.Value).Elem", "(internal/reflectlite.Value).Set"], unfollowed := true, recurses := true, named := ["errors.errorType"], apart := false, laid := [("errors.errorType", laid_errors_errorType)] }
def WorldPlaysSaid : Prop := worldPlaysRow.holds Tryz.pinned (OpenSpec.ofChange worldPlaysSpec)

/-- ITS FALSE NEIGHBOUR: 'it returns false'. Refute it at one input. -/
def worldPlaysWrong : ChangeSpec := { name := "worldPlays", fn := fun _ => fun
  | [d] => { results := [.lit (.bool false)], args := [d] }
  | _ => none }
def WorldPlaysWrongFalsely : Prop := worldPlaysRow.holds Tryz.pinned (OpenSpec.ofChange worldPlaysWrong)

/- THE SECOND FORM. 'bulk': how many values and letters a reading holds, each counted each time it is reached (what is shared counts as often as it is met; a slice's spare places count too). A statement '..UptoSaid' is the law's where the arguments, and the package variables that the reading takes, are together of bulk at most 1048576: NARROWER than '..Said'. Prove '..Said' where nothing that the law and all that it calls make is longer than what came in: it says more and counts as full. Else prove '..UptoSaid'. A law counts once. -/
mutual
def uptoBulk {H : Type} : DataW H → Nat
  | .lit (.string bytes) => bytes.length + 1
  | .lit _ => 1
  | .nil => 1
  | .ptr d => uptoBulk d + 1
  | .slice elems spare => uptoBulkAll elems + uptoBulkAll spare + 1
  | .agg parts => uptoBulkAll parts + 1
  | .iface _ d => uptoBulk d + 1
  | .map entries => uptoBulkEntries entries + 1
  | .held _ => 1
def uptoBulkAll {H : Type} : List (DataW H) → Nat
  | [] => 0
  | d :: r => uptoBulk d + uptoBulkAll r
def uptoBulkEntries {H : Type} : List (Lit × DataW H) → Nat
  | [] => 0
  | x :: r => uptoBulkEntry x + uptoBulkEntries r
def uptoBulkEntry {H : Type} : Lit × DataW H → Nat
  | (.string bytes, d) => bytes.length + uptoBulk d + 1
  | (_, d) => uptoBulk d + 1
 end
def uptoSmall : (H : Type) → List (DataW H) → Bool := fun _ ds => decide (uptoBulkAll ds ≤ 1048576)
def OpenSpec.upto (s : _root_.Go.ChangeSpec) : _root_.Go.OpenSpec := { _root_.Go.OpenSpec.ofChange s with cond := some uptoSmall }

/-- 'tontinelaw21.WorldReads', WHERE WHAT IT READS IS OF BULK AT MOST 1048576: true; the input reads as it did. -/
def worldReadsUptoRow : OpenClaim := { program := "ytfhkgohokbkgiaagreatdoor", sum := "14cdda5c9eb18d55fab1234151acd42d1b741206943046d05221da6a1b37a814", func := "tontine/tontinelaw21.WorldReads", spec := "worldReads", inPlace := ["slices.overlaps[tontine/api.Entry]", "slices.overlaps[tontine/timer.sleeper]", "internal/reflectlite.ValueOf", "(internal/reflectlite.Value).Type", "(internal/reflectlite.Value).IsNil", "internal/reflectlite.TypeOf", "(internal/reflectlite.Value).Elem", "(internal/reflectlite.Value).Set"], unfollowed := true, recurses := true, named := ["errors.errorType"], apart := false, laid := [("errors.errorType", laid_errors_errorType)], narrowed := true }
def WorldReadsUptoSaid : Prop := worldReadsUptoRow.holds Tryz.pinned (OpenSpec.upto worldReadsSpec)

/-- 'tontinelaw21.WorldRecords', WHERE WHAT IT READS IS OF BULK AT MOST 1048576: true; the input reads as it did. -/
def worldRecordsUptoRow : OpenClaim := { program := "ytfhkgohokbkgiaagreatdoor", sum := "14cdda5c9eb18d55fab1234151acd42d1b741206943046d05221da6a1b37a814", func := "tontine/tontinelaw21.WorldRecords", spec := "worldRecords", inPlace := ["slices.overlaps[tontine/api.Entry]", "slices.overlaps[tontine/timer.sleeper]", "internal/reflectlite.ValueOf", "(internal/reflectlite.Value).Type", "(internal/reflectlite.Value).IsNil", "internal/reflectlite.TypeOf", "(internal/reflectlite.Value).Elem", "(internal/reflectlite.Value).Set"], unfollowed := true, recurses := true, named := ["errors.errorType"], apart := false, laid := [("errors.errorType", laid_errors_errorType)], narrowed := true }
def WorldRecordsUptoSaid : Prop := worldRecordsUptoRow.holds Tryz.pinned (OpenSpec.upto worldRecordsSpec)

/-- 'tontinelaw21.WorldLetters', WHERE WHAT IT READS IS OF BULK AT MOST 1048576: true; the input reads as it did. -/
def worldLettersUptoRow : OpenClaim := { program := "ytfhkgohokbkgiaagreatdoor", sum := "14cdda5c9eb18d55fab1234151acd42d1b741206943046d05221da6a1b37a814", func := "tontine/tontinelaw21.WorldLetters", spec := "worldLetters", inPlace := ["slices.overlaps[tontine/api.Entry]", "slices.overlaps[tontine/timer.sleeper]", "internal/reflectlite.ValueOf", "(internal/reflectlite.Value).Type", "(internal/reflectlite.Value).IsNil", "internal/reflectlite.TypeOf", "(internal/reflectlite.Value).Elem", "(internal/reflectlite.Value).Set"], unfollowed := true, recurses := true, named := ["errors.errorType"], apart := false, laid := [("errors.errorType", laid_errors_errorType)], narrowed := true }
def WorldLettersUptoSaid : Prop := worldLettersUptoRow.holds Tryz.pinned (OpenSpec.upto worldLettersSpec)

/-- 'tontinelaw21.WorldStats', WHERE WHAT IT READS IS OF BULK AT MOST 1048576: true; the input reads as it did. -/
def worldStatsUptoRow : OpenClaim := { program := "ytfhkgohokbkgiaagreatdoor", sum := "14cdda5c9eb18d55fab1234151acd42d1b741206943046d05221da6a1b37a814", func := "tontine/tontinelaw21.WorldStats", spec := "worldStats", inPlace := ["slices.overlaps[tontine/api.Entry]", "slices.overlaps[tontine/timer.sleeper]", "internal/reflectlite.ValueOf", "(internal/reflectlite.Value).Type", "(internal/reflectlite.Value).IsNil", "internal/reflectlite.TypeOf", "(internal/reflectlite.Value).Elem", "(internal/reflectlite.Value).Set"], unfollowed := true, recurses := true, named := ["errors.errorType"], apart := false, laid := [("errors.errorType", laid_errors_errorType)], narrowed := true }
def WorldStatsUptoSaid : Prop := worldStatsUptoRow.holds Tryz.pinned (OpenSpec.upto worldStatsSpec)

/-- 'tontinelaw21.WorldBlind', WHERE WHAT IT READS IS OF BULK AT MOST 1048576: true; the input reads as it did. -/
def worldBlindUptoRow : OpenClaim := { program := "ytfhkgohokbkgiaagreatdoor", sum := "14cdda5c9eb18d55fab1234151acd42d1b741206943046d05221da6a1b37a814", func := "tontine/tontinelaw21.WorldBlind", spec := "worldBlind", inPlace := ["slices.overlaps[tontine/api.Entry]", "slices.overlaps[tontine/timer.sleeper]", "internal/reflectlite.ValueOf", "(internal/reflectlite.Value).Type", "(internal/reflectlite.Value).IsNil", "internal/reflectlite.TypeOf", "(internal/reflectlite.Value).Elem", "(internal/reflectlite.Value).Set"], unfollowed := true, recurses := true, named := ["errors.errorType"], apart := false, laid := [("errors.errorType", laid_errors_errorType)], narrowed := true }
def WorldBlindUptoSaid : Prop := worldBlindUptoRow.holds Tryz.pinned (OpenSpec.upto worldBlindSpec)

/-- 'tontinelaw21.WorldEpochs', WHERE WHAT IT READS IS OF BULK AT MOST 1048576: true; the input reads as it did. -/
def worldEpochsUptoRow : OpenClaim := { program := "ytfhkgohokbkgiaagreatdoor", sum := "14cdda5c9eb18d55fab1234151acd42d1b741206943046d05221da6a1b37a814", func := "tontine/tontinelaw21.WorldEpochs", spec := "worldEpochs", inPlace := ["slices.overlaps[tontine/api.Entry]", "slices.overlaps[tontine/timer.sleeper]", "internal/reflectlite.ValueOf", "(internal/reflectlite.Value).Type", "(internal/reflectlite.Value).IsNil", "internal/reflectlite.TypeOf", "(internal/reflectlite.Value).Elem", "(internal/reflectlite.Value).Set"], unfollowed := true, recurses := true, named := ["errors.errorType"], apart := false, laid := [("errors.errorType", laid_errors_errorType)], narrowed := true }
def WorldEpochsUptoSaid : Prop := worldEpochsUptoRow.holds Tryz.pinned (OpenSpec.upto worldEpochsSpec)

/-- 'tontinelaw21.WorldThreads', WHERE WHAT IT READS IS OF BULK AT MOST 1048576: true; the input reads as it did. -/
def worldThreadsUptoRow : OpenClaim := { program := "ytfhkgohokbkgiaagreatdoor", sum := "14cdda5c9eb18d55fab1234151acd42d1b741206943046d05221da6a1b37a814", func := "tontine/tontinelaw21.WorldThreads", spec := "worldThreads", inPlace := ["slices.overlaps[tontine/api.Entry]", "slices.overlaps[tontine/timer.sleeper]", "internal/reflectlite.ValueOf", "(internal/reflectlite.Value).Type", "(internal/reflectlite.Value).IsNil", "internal/reflectlite.TypeOf", "(internal/reflectlite.Value).Elem", "(internal/reflectlite.Value).Set"], unfollowed := true, recurses := true, named := ["errors.errorType"], apart := false, laid := [("errors.errorType", laid_errors_errorType)], narrowed := true }
def WorldThreadsUptoSaid : Prop := worldThreadsUptoRow.holds Tryz.pinned (OpenSpec.upto worldThreadsSpec)

/-- 'tontinelaw21.WorldPlays', WHERE WHAT IT READS IS OF BULK AT MOST 1048576: true; the input reads as it did. -/
def worldPlaysUptoRow : OpenClaim := { program := "ytfhkgohokbkgiaagreatdoor", sum := "14cdda5c9eb18d55fab1234151acd42d1b741206943046d05221da6a1b37a814", func := "tontine/tontinelaw21.WorldPlays", spec := "worldPlays", inPlace := ["slices.overlaps[tontine/api.Entry]", "slices.overlaps[tontine/timer.sleeper]", "internal/reflectlite.ValueOf", "(internal/reflectlite.Value).Type", "(internal/reflectlite.Value).IsNil", "internal/reflectlite.TypeOf", "(internal/reflectlite.Value).Elem", "(internal/reflectlite.Value).Set"], unfollowed := true, recurses := true, named := ["errors.errorType"], apart := false, laid := [("errors.errorType", laid_errors_errorType)], narrowed := true }
def WorldPlaysUptoSaid : Prop := worldPlaysUptoRow.holds Tryz.pinned (OpenSpec.upto worldPlaysSpec)

end Rows
end Go.Proofs.YtfhkgohokbkgiaaGreatDoor
