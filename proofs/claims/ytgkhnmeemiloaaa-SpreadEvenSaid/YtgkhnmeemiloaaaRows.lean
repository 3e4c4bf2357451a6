/-
  No cell of these rows narrows 'for every input' (looked for: loops, veiled, ifaces, maps, wideKeys, modest, calm, conditions, laid).
  DERIVED. THE GIVEN ROWS OF THIS SEAT. 9 by the template 'for every input the law returns true; each argument reads behind the call as it read before'; 0 by the template 'total and deterministic' (their statements: YtgkhnmeemiloaaaTotals.lean).
  GIVEN WITH THE SEED: the statements are not yours to turn. If you find one false, say at which input.
  Laid BY PROGRAM, IN A SANDBOX (cutbox-rows.mjs): the forced cells as the released guide's own fill.sh prints them over the translation c4343a86690b8ea7… (all of the seat's roots in one cut). By AI agents, Wed Nov 11 2026. No macro, syntax, notation, axiom, sorry.
-/
import Derived.Test.YtgkhnmeemiloaaaChecked
import GoSem.Claim
import GoSem.ClaimJoined
import GoSem.ClaimMapViews
import Derived.JoinedTies
import Derived.KernelRfl
namespace Go.Proofs.Ytgkhnmeemiloaaa
/- THE CELL 'sum', in the pinned program and in every row, IS THE sha256 OF THE DUMP (.gsa) THAT YtgkhnmeemiloaaaProg.lean LOADS. Nothing in Lean hashes anything: it is a label: what it is worth is what the hold of that sum in a sandbox is worth. -/
noncomputable def Try.pinned : Pinned := { name := "ytgkhnmeemiloaaa", sum := "c4343a86690b8ea72859d01724926a9c685aa26ccecbe7fe0798f717a8f2bfbb", checked := Try.checked }
namespace Rows
def none {H : Type} : Left H := { results := [], args := [] }

/-- 'tontinelaw8.TimerPlays': WHATEVER THE INPUT: true; the input reads as it did. -/
def timerPlaysSpec : ChangeSpec := { name := "timerPlays", fn := fun _ => fun
  | [d] => { results := [.lit (.bool true)], args := [d] }
  | _ => none }
def timerPlaysRow : OpenClaim := { program := "ytgkhnmeemiloaaa", sum := "c4343a86690b8ea72859d01724926a9c685aa26ccecbe7fe0798f717a8f2bfbb", func := "tontine/tontinelaw8.TimerPlays", spec := "timerPlays", inPlace := ["slices.overlaps[tontine/timer.sleeper]"], apart := false }
def TimerPlaysSaid : Prop := timerPlaysRow.holds Try.pinned (OpenSpec.ofChange timerPlaysSpec)

/-- ITS FALSE NEIGHBOUR: 'it returns false'. Refute it at one input. -/
def timerPlaysWrong : ChangeSpec := { name := "timerPlays", fn := fun _ => fun
  | [d] => { results := [.lit (.bool false)], args := [d] }
  | _ => none }
def TimerPlaysWrongFalsely : Prop := timerPlaysRow.holds Try.pinned (OpenSpec.ofChange timerPlaysWrong)

/-- 'tontinelaw8.TimerOnce': WHATEVER THE INPUT: true; the input reads as it did. -/
def timerOnceSpec : ChangeSpec := { name := "timerOnce", fn := fun _ => fun
  | [d] => { results := [.lit (.bool true)], args := [d] }
  | _ => none }
def timerOnceRow : OpenClaim := { program := "ytgkhnmeemiloaaa", sum := "c4343a86690b8ea72859d01724926a9c685aa26ccecbe7fe0798f717a8f2bfbb", func := "tontine/tontinelaw8.TimerOnce", spec := "timerOnce", inPlace := ["slices.overlaps[tontine/timer.sleeper]"], apart := false }
def TimerOnceSaid : Prop := timerOnceRow.holds Try.pinned (OpenSpec.ofChange timerOnceSpec)

/-- ITS FALSE NEIGHBOUR: 'it returns false'. Refute it at one input. -/
def timerOnceWrong : ChangeSpec := { name := "timerOnce", fn := fun _ => fun
  | [d] => { results := [.lit (.bool false)], args := [d] }
  | _ => none }
def TimerOnceWrongFalsely : Prop := timerOnceRow.holds Try.pinned (OpenSpec.ofChange timerOnceWrong)

/-- 'tontinelaw8.TimerLast': WHATEVER THE INPUT: true; the input reads as it did. -/
def timerLastSpec : ChangeSpec := { name := "timerLast", fn := fun _ => fun
  | [d1, d2, d3] => { results := [.lit (.bool true)], args := [d1, d2, d3] }
  | _ => none }
def timerLastRow : OpenClaim := { program := "ytgkhnmeemiloaaa", sum := "c4343a86690b8ea72859d01724926a9c685aa26ccecbe7fe0798f717a8f2bfbb", func := "tontine/tontinelaw8.TimerLast", spec := "timerLast", inPlace := ["slices.overlaps[tontine/timer.sleeper]"], apart := false }
def TimerLastSaid : Prop := timerLastRow.holds Try.pinned (OpenSpec.ofChange timerLastSpec)

/-- ITS FALSE NEIGHBOUR: 'it returns false'. Refute it at one input. -/
def timerLastWrong : ChangeSpec := { name := "timerLast", fn := fun _ => fun
  | [d1, d2, d3] => { results := [.lit (.bool false)], args := [d1, d2, d3] }
  | _ => none }
def TimerLastWrongFalsely : Prop := timerLastRow.holds Try.pinned (OpenSpec.ofChange timerLastWrong)

/-- 'tontinelaw8.TimerApart': WHATEVER THE INPUT: true; the input reads as it did. -/
def timerApartSpec : ChangeSpec := { name := "timerApart", fn := fun _ => fun
  | [d1, d2, d3, d4] => { results := [.lit (.bool true)], args := [d1, d2, d3, d4] }
  | _ => none }
def timerApartRow : OpenClaim := { program := "ytgkhnmeemiloaaa", sum := "c4343a86690b8ea72859d01724926a9c685aa26ccecbe7fe0798f717a8f2bfbb", func := "tontine/tontinelaw8.TimerApart", spec := "timerApart", inPlace := ["slices.overlaps[tontine/timer.sleeper]"], apart := false }
def TimerApartSaid : Prop := timerApartRow.holds Try.pinned (OpenSpec.ofChange timerApartSpec)

/-- ITS FALSE NEIGHBOUR: 'it returns false'. Refute it at one input. -/
def timerApartWrong : ChangeSpec := { name := "timerApart", fn := fun _ => fun
  | [d1, d2, d3, d4] => { results := [.lit (.bool false)], args := [d1, d2, d3, d4] }
  | _ => none }
def TimerApartWrongFalsely : Prop := timerApartRow.holds Try.pinned (OpenSpec.ofChange timerApartWrong)

/-- 'tontinelaw12.SpreadTells': WHATEVER THE INPUT: true; the input reads as it did. -/
def spreadTellsSpec : ChangeSpec := { name := "spreadTells", fn := fun _ => fun
  | [d1, d2, d3] => { results := [.lit (.bool true)], args := [d1, d2, d3] }
  | _ => none }
def spreadTellsRow : OpenClaim := { program := "ytgkhnmeemiloaaa", sum := "c4343a86690b8ea72859d01724926a9c685aa26ccecbe7fe0798f717a8f2bfbb", func := "tontine/tontinelaw12.SpreadTells", spec := "spreadTells", unfollowed := true, recurses := true, apart := false }
def SpreadTellsSaid : Prop := spreadTellsRow.holds Try.pinned (OpenSpec.ofChange spreadTellsSpec)

/-- ITS FALSE NEIGHBOUR: 'it returns false'. Refute it at one input. -/
def spreadTellsWrong : ChangeSpec := { name := "spreadTells", fn := fun _ => fun
  | [d1, d2, d3] => { results := [.lit (.bool false)], args := [d1, d2, d3] }
  | _ => none }
def SpreadTellsWrongFalsely : Prop := spreadTellsRow.holds Try.pinned (OpenSpec.ofChange spreadTellsWrong)

/-- 'tontinelaw12.SpreadCounts': WHATEVER THE INPUT: true; the input reads as it did. -/
def spreadCountsSpec : ChangeSpec := { name := "spreadCounts", fn := fun _ => fun
  | [d] => { results := [.lit (.bool true)], args := [d] }
  | _ => none }
def spreadCountsRow : OpenClaim := { program := "ytgkhnmeemiloaaa", sum := "c4343a86690b8ea72859d01724926a9c685aa26ccecbe7fe0798f717a8f2bfbb", func := "tontine/tontinelaw12.SpreadCounts", spec := "spreadCounts", unfollowed := true, recurses := true, apart := false }
def SpreadCountsSaid : Prop := spreadCountsRow.holds Try.pinned (OpenSpec.ofChange spreadCountsSpec)

/-- ITS FALSE NEIGHBOUR: 'it returns false'. Refute it at one input. -/
def spreadCountsWrong : ChangeSpec := { name := "spreadCounts", fn := fun _ => fun
  | [d] => { results := [.lit (.bool false)], args := [d] }
  | _ => none }
def SpreadCountsWrongFalsely : Prop := spreadCountsRow.holds Try.pinned (OpenSpec.ofChange spreadCountsWrong)

/-- 'tontinelaw12.SpreadEven': WHATEVER THE INPUT: true; the input reads as it did. -/
def spreadEvenSpec : ChangeSpec := { name := "spreadEven", fn := fun _ => fun
  | [d] => { results := [.lit (.bool true)], args := [d] }
  | _ => none }
def spreadEvenRow : OpenClaim := { program := "ytgkhnmeemiloaaa", sum := "c4343a86690b8ea72859d01724926a9c685aa26ccecbe7fe0798f717a8f2bfbb", func := "tontine/tontinelaw12.SpreadEven", spec := "spreadEven", unfollowed := true, recurses := true, apart := false }
def SpreadEvenSaid : Prop := spreadEvenRow.holds Try.pinned (OpenSpec.ofChange spreadEvenSpec)

/-- ITS FALSE NEIGHBOUR: 'it returns false'. Refute it at one input. -/
def spreadEvenWrong : ChangeSpec := { name := "spreadEven", fn := fun _ => fun
  | [d] => { results := [.lit (.bool false)], args := [d] }
  | _ => none }
def SpreadEvenWrongFalsely : Prop := spreadEvenRow.holds Try.pinned (OpenSpec.ofChange spreadEvenWrong)

/-- 'tontinelaw12.SpreadAlike': WHATEVER THE INPUT: true; the input reads as it did. -/
def spreadAlikeSpec : ChangeSpec := { name := "spreadAlike", fn := fun _ => fun
  | [d1, d2] => { results := [.lit (.bool true)], args := [d1, d2] }
  | _ => none }
def spreadAlikeRow : OpenClaim := { program := "ytgkhnmeemiloaaa", sum := "c4343a86690b8ea72859d01724926a9c685aa26ccecbe7fe0798f717a8f2bfbb", func := "tontine/tontinelaw12.SpreadAlike", spec := "spreadAlike", unfollowed := true, recurses := true, apart := false }
def SpreadAlikeSaid : Prop := spreadAlikeRow.holds Try.pinned (OpenSpec.ofChange spreadAlikeSpec)

/-- ITS FALSE NEIGHBOUR: 'it returns false'. Refute it at one input. -/
def spreadAlikeWrong : ChangeSpec := { name := "spreadAlike", fn := fun _ => fun
  | [d1, d2] => { results := [.lit (.bool false)], args := [d1, d2] }
  | _ => none }
def SpreadAlikeWrongFalsely : Prop := spreadAlikeRow.holds Try.pinned (OpenSpec.ofChange spreadAlikeWrong)

/-- 'tontinelaw12.SpreadGaps': WHATEVER THE INPUT: true; the input reads as it did. -/
def spreadGapsSpec : ChangeSpec := { name := "spreadGaps", fn := fun _ => fun
  | [d1, d2] => { results := [.lit (.bool true)], args := [d1, d2] }
  | _ => none }
def spreadGapsRow : OpenClaim := { program := "ytgkhnmeemiloaaa", sum := "c4343a86690b8ea72859d01724926a9c685aa26ccecbe7fe0798f717a8f2bfbb", func := "tontine/tontinelaw12.SpreadGaps", spec := "spreadGaps", unfollowed := true, recurses := true, apart := false }
def SpreadGapsSaid : Prop := spreadGapsRow.holds Try.pinned (OpenSpec.ofChange spreadGapsSpec)

/-- ITS FALSE NEIGHBOUR: 'it returns false'. Refute it at one input. -/
def spreadGapsWrong : ChangeSpec := { name := "spreadGaps", fn := fun _ => fun
  | [d1, d2] => { results := [.lit (.bool false)], args := [d1, d2] }
  | _ => none }
def SpreadGapsWrongFalsely : Prop := spreadGapsRow.holds Try.pinned (OpenSpec.ofChange spreadGapsWrong)

/- THE SECOND FORM. 'bulk': how many values and letters a reading holds, each counted each time it is reached (what is shared counts as often as it is met; a slice's spare places count too). A statement '..UptoSaid' is the law's where the arguments, and the package variables that the reading takes, are together of bulk at most 1048576: NARROWER than '..Said'. Prove '..Said' where nothing that the law and all that it calls make is longer than what came in: it says more and counts as full. Else prove '..UptoSaid'. A law counts once. -/
mutual
def uptoBulk {H : Type} : DataW H → Nat
  | .lit (.string bytes) => bytes.length + 1
  | .lit _ => 1
  | .nil => 1
  | .ptr d => uptoBulk d + 1
  | .slice elems spare => uptoBulkAll elems + uptoBulkAll spare + 1
  | .agg parts => uptoBulkAll parts + 1
  | .iface _ d => uptoBulk d + 1
  | .map entries => uptoBulkEntries entries + 1
  | .held _ => 1
def uptoBulkAll {H : Type} : List (DataW H) → Nat
  | [] => 0
  | d :: r => uptoBulk d + uptoBulkAll r
def uptoBulkEntries {H : Type} : List (Lit × DataW H) → Nat
  | [] => 0
  | x :: r => uptoBulkEntry x + uptoBulkEntries r
def uptoBulkEntry {H : Type} : Lit × DataW H → Nat
  | (.string bytes, d) => bytes.length + uptoBulk d + 1
  | (_, d) => uptoBulk d + 1
 end
def uptoSmall : (H : Type) → List (DataW H) → Bool := fun _ ds => decide (uptoBulkAll ds ≤ 1048576)
def OpenSpec.upto (s : _root_.Go.ChangeSpec) : _root_.Go.OpenSpec := { _root_.Go.OpenSpec.ofChange s with cond := some uptoSmall }

/-- 'tontinelaw8.TimerPlays', WHERE WHAT IT READS IS OF BULK AT MOST 1048576: true; the input reads as it did. -/
def timerPlaysUptoRow : OpenClaim := { program := "ytgkhnmeemiloaaa", sum := "c4343a86690b8ea72859d01724926a9c685aa26ccecbe7fe0798f717a8f2bfbb", func := "tontine/tontinelaw8.TimerPlays", spec := "timerPlays", inPlace := ["slices.overlaps[tontine/timer.sleeper]"], apart := false, narrowed := true }
def TimerPlaysUptoSaid : Prop := timerPlaysUptoRow.holds Try.pinned (OpenSpec.upto timerPlaysSpec)

/-- 'tontinelaw8.TimerOnce', WHERE WHAT IT READS IS OF BULK AT MOST 1048576: true; the input reads as it did. -/
def timerOnceUptoRow : OpenClaim := { program := "ytgkhnmeemiloaaa", sum := "c4343a86690b8ea72859d01724926a9c685aa26ccecbe7fe0798f717a8f2bfbb", func := "tontine/tontinelaw8.TimerOnce", spec := "timerOnce", inPlace := ["slices.overlaps[tontine/timer.sleeper]"], apart := false, narrowed := true }
def TimerOnceUptoSaid : Prop := timerOnceUptoRow.holds Try.pinned (OpenSpec.upto timerOnceSpec)

/-- 'tontinelaw8.TimerLast', WHERE WHAT IT READS IS OF BULK AT MOST 1048576: true; the input reads as it did. -/
def timerLastUptoRow : OpenClaim := { program := "ytgkhnmeemiloaaa", sum := "c4343a86690b8ea72859d01724926a9c685aa26ccecbe7fe0798f717a8f2bfbb", func := "tontine/tontinelaw8.TimerLast", spec := "timerLast", inPlace := ["slices.overlaps[tontine/timer.sleeper]"], apart := false, narrowed := true }
def TimerLastUptoSaid : Prop := timerLastUptoRow.holds Try.pinned (OpenSpec.upto timerLastSpec)

/-- 'tontinelaw8.TimerApart', WHERE WHAT IT READS IS OF BULK AT MOST 1048576: true; the input reads as it did. -/
def timerApartUptoRow : OpenClaim := { program := "ytgkhnmeemiloaaa", sum := "c4343a86690b8ea72859d01724926a9c685aa26ccecbe7fe0798f717a8f2bfbb", func := "tontine/tontinelaw8.TimerApart", spec := "timerApart", inPlace := ["slices.overlaps[tontine/timer.sleeper]"], apart := false, narrowed := true }
def TimerApartUptoSaid : Prop := timerApartUptoRow.holds Try.pinned (OpenSpec.upto timerApartSpec)

/-- 'tontinelaw12.SpreadTells', WHERE WHAT IT READS IS OF BULK AT MOST 1048576: true; the input reads as it did. -/
def spreadTellsUptoRow : OpenClaim := { program := "ytgkhnmeemiloaaa", sum := "c4343a86690b8ea72859d01724926a9c685aa26ccecbe7fe0798f717a8f2bfbb", func := "tontine/tontinelaw12.SpreadTells", spec := "spreadTells", unfollowed := true, recurses := true, apart := false, narrowed := true }
def SpreadTellsUptoSaid : Prop := spreadTellsUptoRow.holds Try.pinned (OpenSpec.upto spreadTellsSpec)

/-- 'tontinelaw12.SpreadCounts', WHERE WHAT IT READS IS OF BULK AT MOST 1048576: true; the input reads as it did. -/
def spreadCountsUptoRow : OpenClaim := { program := "ytgkhnmeemiloaaa", sum := "c4343a86690b8ea72859d01724926a9c685aa26ccecbe7fe0798f717a8f2bfbb", func := "tontine/tontinelaw12.SpreadCounts", spec := "spreadCounts", unfollowed := true, recurses := true, apart := false, narrowed := true }
def SpreadCountsUptoSaid : Prop := spreadCountsUptoRow.holds Try.pinned (OpenSpec.upto spreadCountsSpec)

/-- 'tontinelaw12.SpreadEven', WHERE WHAT IT READS IS OF BULK AT MOST 1048576: true; the input reads as it did. -/
def spreadEvenUptoRow : OpenClaim := { program := "ytgkhnmeemiloaaa", sum := "c4343a86690b8ea72859d01724926a9c685aa26ccecbe7fe0798f717a8f2bfbb", func := "tontine/tontinelaw12.SpreadEven", spec := "spreadEven", unfollowed := true, recurses := true, apart := false, narrowed := true }
def SpreadEvenUptoSaid : Prop := spreadEvenUptoRow.holds Try.pinned (OpenSpec.upto spreadEvenSpec)

/-- 'tontinelaw12.SpreadAlike', WHERE WHAT IT READS IS OF BULK AT MOST 1048576: true; the input reads as it did. -/
def spreadAlikeUptoRow : OpenClaim := { program := "ytgkhnmeemiloaaa", sum := "c4343a86690b8ea72859d01724926a9c685aa26ccecbe7fe0798f717a8f2bfbb", func := "tontine/tontinelaw12.SpreadAlike", spec := "spreadAlike", unfollowed := true, recurses := true, apart := false, narrowed := true }
def SpreadAlikeUptoSaid : Prop := spreadAlikeUptoRow.holds Try.pinned (OpenSpec.upto spreadAlikeSpec)

/-- 'tontinelaw12.SpreadGaps', WHERE WHAT IT READS IS OF BULK AT MOST 1048576: true; the input reads as it did. -/
def spreadGapsUptoRow : OpenClaim := { program := "ytgkhnmeemiloaaa", sum := "c4343a86690b8ea72859d01724926a9c685aa26ccecbe7fe0798f717a8f2bfbb", func := "tontine/tontinelaw12.SpreadGaps", spec := "spreadGaps", unfollowed := true, recurses := true, apart := false, narrowed := true }
def SpreadGapsUptoSaid : Prop := spreadGapsUptoRow.holds Try.pinned (OpenSpec.upto spreadGapsSpec)

end Rows
end Go.Proofs.Ytgkhnmeemiloaaa
