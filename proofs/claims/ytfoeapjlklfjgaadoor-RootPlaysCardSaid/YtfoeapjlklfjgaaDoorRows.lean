/-
  NARROWER THAN 'FOR EVERY INPUT', by the rows' own cells (each row's printed sentence says how): CellCodes: laid · CellSplits: laid · CellApart: laid · CellTurned: laid · CellNeeds: laid · CellOrder: laid · CellLast: laid · RootSlots: laid · RootOnly: laid · RootFlips: laid · RootQuiet: laid · RootPlays: laid.
  DERIVED. THE GIVEN ROWS OF THIS SEAT. 12 by the template 'for every input the law returns true; each argument reads behind the call as it read before'; 0 by the template 'total and deterministic' (their statements: YtfoeapjlklfjgaaDoorTotals.lean).
  GIVEN WITH THE SEED: the statements are not yours to turn. If you find one false, say at which input.
  Laid BY PROGRAM, IN A SANDBOX (cutbox-rows.mjs): the forced cells as the released guide's own fill.sh prints them over the translation 11f35fde556f4c60… (all of the seat's roots in one cut). By AI agents, Wed Nov 11 2026. No macro, syntax, notation, axiom, sorry.
-/
import Derived.Test.YtfoeapjlklfjgaaDoorChecked
import GoSem.PinnedTables
import GoSem.Claim
import GoSem.ClaimJoined
import GoSem.ClaimMapViews
import Derived.JoinedTies
import Derived.KernelRfl
namespace Go.Proofs.YtfoeapjlklfjgaaDoor
/- THE CELL 'sum', in the pinned program and in every row, IS THE sha256 OF THE DUMP (.gsa) THAT YtfoeapjlklfjgaaDoorProg.lean LOADS. Nothing in Lean hashes anything: it is a label: what it is worth is what the hold of that sum in a sandbox is worth. -/
noncomputable def Tryd.pinned : Pinned := { name := "ytfoeapjlklfjgaadoor", sum := "11f35fde556f4c60f976ddbaee8a8d28fb3c025ef6163bcbd10df5357b46411b", checked := Tryd.checked }
namespace Rows
def none {H : Type} : Left H := { results := [], args := [] }

/- WHAT THE LISTED PACKAGE-LEVEL VARIABLES READ AS WHEN THE CALL BEGINS. Each datum BY PROGRAM (the guide's laid-datum.mjs) off the statement by which the dump's own 'gosem.cut.vars' lays the variable. In a bare row this is a premise. The card (YtfoeapjlklfjgaaDoorCards.lean) ties it to the program's text. -/
def laid_unicode_utf8_acceptRanges {H : Type} : DataW H := .agg [.agg [.lit (.int .u8 128), .lit (.int .u8 191)], .agg [.lit (.int .u8 160), .lit (.int .u8 191)], .agg [.lit (.int .u8 128), .lit (.int .u8 159)], .agg [.lit (.int .u8 144), .lit (.int .u8 191)], .agg [.lit (.int .u8 128), .lit (.int .u8 143)], .agg [.lit (.int .u8 0), .lit (.int .u8 0)], .agg [.lit (.int .u8 0), .lit (.int .u8 0)], .agg [.lit (.int .u8 0), .lit (.int .u8 0)], .agg [.lit (.int .u8 0), .lit (.int .u8 0)], .agg [.lit (.int .u8 0), .lit (.int .u8 0)], .agg [.lit (.int .u8 0), .lit (.int .u8 0)], .agg [.lit (.int .u8 0), .lit (.int .u8 0)], .agg [.lit (.int .u8 0), .lit (.int .u8 0)], .agg [.lit (.int .u8 0), .lit (.int .u8 0)], .agg [.lit (.int .u8 0), .lit (.int .u8 0)], .agg [.lit (.int .u8 0), .lit (.int .u8 0)]]
/-- One of Go's own tables, pinned by name: the form's constant. -/
def laid_unicode_utf8_first : DataW Unit := Go.Pinned.utf8First

/-- 'heijunkalaw06.CellCodes': WHATEVER THE INPUT: true; the input reads as it did. -/
def cellCodesSpec : ChangeSpec := { name := "cellCodes", fn := fun _ => fun
  | [d1, d2] => { results := [.lit (.bool true)], args := [d1, d2] }
  | _ => none }
def cellCodesRow : OpenClaim := { program := "ytfoeapjlklfjgaadoor", sum := "11f35fde556f4c60f976ddbaee8a8d28fb3c025ef6163bcbd10df5357b46411b", func := "heijunka/heijunkalaw06.CellCodes", spec := "cellCodes", unfollowed := true, recurses := true, named := ["unicode/utf8.first", "unicode/utf8.acceptRanges"], apart := false, laid := [("unicode/utf8.acceptRanges", laid_unicode_utf8_acceptRanges), ("unicode/utf8.first", laid_unicode_utf8_first)] }
def CellCodesSaid : Prop := cellCodesRow.holds Tryd.pinned (OpenSpec.ofChange cellCodesSpec)

/-- ITS FALSE NEIGHBOUR: 'it returns false'. Refute it at one input. -/
def cellCodesWrong : ChangeSpec := { name := "cellCodes", fn := fun _ => fun
  | [d1, d2] => { results := [.lit (.bool false)], args := [d1, d2] }
  | _ => none }
def CellCodesWrongFalsely : Prop := cellCodesRow.holds Tryd.pinned (OpenSpec.ofChange cellCodesWrong)

/-- 'heijunkalaw06.CellSplits': WHATEVER THE INPUT: true; the input reads as it did. -/
def cellSplitsSpec : ChangeSpec := { name := "cellSplits", fn := fun _ => fun
  | [d1, d2, d3] => { results := [.lit (.bool true)], args := [d1, d2, d3] }
  | _ => none }
def cellSplitsRow : OpenClaim := { program := "ytfoeapjlklfjgaadoor", sum := "11f35fde556f4c60f976ddbaee8a8d28fb3c025ef6163bcbd10df5357b46411b", func := "heijunka/heijunkalaw06.CellSplits", spec := "cellSplits", unfollowed := true, recurses := true, named := ["unicode/utf8.first", "unicode/utf8.acceptRanges"], apart := false, laid := [("unicode/utf8.acceptRanges", laid_unicode_utf8_acceptRanges), ("unicode/utf8.first", laid_unicode_utf8_first)] }
def CellSplitsSaid : Prop := cellSplitsRow.holds Tryd.pinned (OpenSpec.ofChange cellSplitsSpec)

/-- ITS FALSE NEIGHBOUR: 'it returns false'. Refute it at one input. -/
def cellSplitsWrong : ChangeSpec := { name := "cellSplits", fn := fun _ => fun
  | [d1, d2, d3] => { results := [.lit (.bool false)], args := [d1, d2, d3] }
  | _ => none }
def CellSplitsWrongFalsely : Prop := cellSplitsRow.holds Tryd.pinned (OpenSpec.ofChange cellSplitsWrong)

/-- 'heijunkalaw06.CellApart': WHATEVER THE INPUT: true; the input reads as it did. -/
def cellApartSpec : ChangeSpec := { name := "cellApart", fn := fun _ => fun
  | [d1, d2, d3] => { results := [.lit (.bool true)], args := [d1, d2, d3] }
  | _ => none }
def cellApartRow : OpenClaim := { program := "ytfoeapjlklfjgaadoor", sum := "11f35fde556f4c60f976ddbaee8a8d28fb3c025ef6163bcbd10df5357b46411b", func := "heijunka/heijunkalaw06.CellApart", spec := "cellApart", unfollowed := true, recurses := true, named := ["unicode/utf8.first", "unicode/utf8.acceptRanges"], apart := false, laid := [("unicode/utf8.acceptRanges", laid_unicode_utf8_acceptRanges), ("unicode/utf8.first", laid_unicode_utf8_first)] }
def CellApartSaid : Prop := cellApartRow.holds Tryd.pinned (OpenSpec.ofChange cellApartSpec)

/-- ITS FALSE NEIGHBOUR: 'it returns false'. Refute it at one input. -/
def cellApartWrong : ChangeSpec := { name := "cellApart", fn := fun _ => fun
  | [d1, d2, d3] => { results := [.lit (.bool false)], args := [d1, d2, d3] }
  | _ => none }
def CellApartWrongFalsely : Prop := cellApartRow.holds Tryd.pinned (OpenSpec.ofChange cellApartWrong)

/-- 'heijunkalaw06.CellTurned': WHATEVER THE INPUT: true; the input reads as it did. -/
def cellTurnedSpec : ChangeSpec := { name := "cellTurned", fn := fun _ => fun
  | [d1, d2, d3] => { results := [.lit (.bool true)], args := [d1, d2, d3] }
  | _ => none }
def cellTurnedRow : OpenClaim := { program := "ytfoeapjlklfjgaadoor", sum := "11f35fde556f4c60f976ddbaee8a8d28fb3c025ef6163bcbd10df5357b46411b", func := "heijunka/heijunkalaw06.CellTurned", spec := "cellTurned", unfollowed := true, recurses := true, named := ["unicode/utf8.first", "unicode/utf8.acceptRanges"], apart := false, laid := [("unicode/utf8.acceptRanges", laid_unicode_utf8_acceptRanges), ("unicode/utf8.first", laid_unicode_utf8_first)] }
def CellTurnedSaid : Prop := cellTurnedRow.holds Tryd.pinned (OpenSpec.ofChange cellTurnedSpec)

/-- ITS FALSE NEIGHBOUR: 'it returns false'. Refute it at one input. -/
def cellTurnedWrong : ChangeSpec := { name := "cellTurned", fn := fun _ => fun
  | [d1, d2, d3] => { results := [.lit (.bool false)], args := [d1, d2, d3] }
  | _ => none }
def CellTurnedWrongFalsely : Prop := cellTurnedRow.holds Tryd.pinned (OpenSpec.ofChange cellTurnedWrong)

/-- 'heijunkalaw06.CellNeeds': WHATEVER THE INPUT: true; the input reads as it did. -/
def cellNeedsSpec : ChangeSpec := { name := "cellNeeds", fn := fun _ => fun
  | [d1, d2] => { results := [.lit (.bool true)], args := [d1, d2] }
  | _ => none }
def cellNeedsRow : OpenClaim := { program := "ytfoeapjlklfjgaadoor", sum := "11f35fde556f4c60f976ddbaee8a8d28fb3c025ef6163bcbd10df5357b46411b", func := "heijunka/heijunkalaw06.CellNeeds", spec := "cellNeeds", unfollowed := true, recurses := true, named := ["unicode/utf8.first", "unicode/utf8.acceptRanges"], apart := false, laid := [("unicode/utf8.acceptRanges", laid_unicode_utf8_acceptRanges), ("unicode/utf8.first", laid_unicode_utf8_first)] }
def CellNeedsSaid : Prop := cellNeedsRow.holds Tryd.pinned (OpenSpec.ofChange cellNeedsSpec)

/-- ITS FALSE NEIGHBOUR: 'it returns false'. Refute it at one input. -/
def cellNeedsWrong : ChangeSpec := { name := "cellNeeds", fn := fun _ => fun
  | [d1, d2] => { results := [.lit (.bool false)], args := [d1, d2] }
  | _ => none }
def CellNeedsWrongFalsely : Prop := cellNeedsRow.holds Tryd.pinned (OpenSpec.ofChange cellNeedsWrong)

/-- 'heijunkalaw06.CellOrder': WHATEVER THE INPUT: true; the input reads as it did. -/
def cellOrderSpec : ChangeSpec := { name := "cellOrder", fn := fun _ => fun
  | [d1, d2, d3] => { results := [.lit (.bool true)], args := [d1, d2, d3] }
  | _ => none }
def cellOrderRow : OpenClaim := { program := "ytfoeapjlklfjgaadoor", sum := "11f35fde556f4c60f976ddbaee8a8d28fb3c025ef6163bcbd10df5357b46411b", func := "heijunka/heijunkalaw06.CellOrder", spec := "cellOrder", unfollowed := true, recurses := true, named := ["unicode/utf8.first", "unicode/utf8.acceptRanges"], apart := false, laid := [("unicode/utf8.acceptRanges", laid_unicode_utf8_acceptRanges), ("unicode/utf8.first", laid_unicode_utf8_first)] }
def CellOrderSaid : Prop := cellOrderRow.holds Tryd.pinned (OpenSpec.ofChange cellOrderSpec)

/-- ITS FALSE NEIGHBOUR: 'it returns false'. Refute it at one input. -/
def cellOrderWrong : ChangeSpec := { name := "cellOrder", fn := fun _ => fun
  | [d1, d2, d3] => { results := [.lit (.bool false)], args := [d1, d2, d3] }
  | _ => none }
def CellOrderWrongFalsely : Prop := cellOrderRow.holds Tryd.pinned (OpenSpec.ofChange cellOrderWrong)

/-- 'heijunkalaw06.CellLast': WHATEVER THE INPUT: true; the input reads as it did. -/
def cellLastSpec : ChangeSpec := { name := "cellLast", fn := fun _ => fun
  | [d1, d2, d3] => { results := [.lit (.bool true)], args := [d1, d2, d3] }
  | _ => none }
def cellLastRow : OpenClaim := { program := "ytfoeapjlklfjgaadoor", sum := "11f35fde556f4c60f976ddbaee8a8d28fb3c025ef6163bcbd10df5357b46411b", func := "heijunka/heijunkalaw06.CellLast", spec := "cellLast", unfollowed := true, recurses := true, named := ["unicode/utf8.first", "unicode/utf8.acceptRanges"], apart := false, laid := [("unicode/utf8.acceptRanges", laid_unicode_utf8_acceptRanges), ("unicode/utf8.first", laid_unicode_utf8_first)] }
def CellLastSaid : Prop := cellLastRow.holds Tryd.pinned (OpenSpec.ofChange cellLastSpec)

/-- ITS FALSE NEIGHBOUR: 'it returns false'. Refute it at one input. -/
def cellLastWrong : ChangeSpec := { name := "cellLast", fn := fun _ => fun
  | [d1, d2, d3] => { results := [.lit (.bool false)], args := [d1, d2, d3] }
  | _ => none }
def CellLastWrongFalsely : Prop := cellLastRow.holds Tryd.pinned (OpenSpec.ofChange cellLastWrong)

/-- 'heijunkalaw08.RootSlots': WHATEVER THE INPUT: true; the input reads as it did. -/
def rootSlotsSpec : ChangeSpec := { name := "rootSlots", fn := fun _ => fun
  | [d1, d2, d3] => { results := [.lit (.bool true)], args := [d1, d2, d3] }
  | _ => none }
def rootSlotsRow : OpenClaim := { program := "ytfoeapjlklfjgaadoor", sum := "11f35fde556f4c60f976ddbaee8a8d28fb3c025ef6163bcbd10df5357b46411b", func := "heijunka/heijunkalaw08.RootSlots", spec := "rootSlots", named := ["unicode/utf8.first", "unicode/utf8.acceptRanges"], apart := false, laid := [("unicode/utf8.acceptRanges", laid_unicode_utf8_acceptRanges), ("unicode/utf8.first", laid_unicode_utf8_first)] }
def RootSlotsSaid : Prop := rootSlotsRow.holds Tryd.pinned (OpenSpec.ofChange rootSlotsSpec)

/-- ITS FALSE NEIGHBOUR: 'it returns false'. Refute it at one input. -/
def rootSlotsWrong : ChangeSpec := { name := "rootSlots", fn := fun _ => fun
  | [d1, d2, d3] => { results := [.lit (.bool false)], args := [d1, d2, d3] }
  | _ => none }
def RootSlotsWrongFalsely : Prop := rootSlotsRow.holds Tryd.pinned (OpenSpec.ofChange rootSlotsWrong)

/-- 'heijunkalaw08.RootOnly': WHATEVER THE INPUT: true; the input reads as it did. -/
def rootOnlySpec : ChangeSpec := { name := "rootOnly", fn := fun _ => fun
  | [d] => { results := [.lit (.bool true)], args := [d] }
  | _ => none }
def rootOnlyRow : OpenClaim := { program := "ytfoeapjlklfjgaadoor", sum := "11f35fde556f4c60f976ddbaee8a8d28fb3c025ef6163bcbd10df5357b46411b", func := "heijunka/heijunkalaw08.RootOnly", spec := "rootOnly", named := ["unicode/utf8.first", "unicode/utf8.acceptRanges"], apart := false, laid := [("unicode/utf8.acceptRanges", laid_unicode_utf8_acceptRanges), ("unicode/utf8.first", laid_unicode_utf8_first)] }
def RootOnlySaid : Prop := rootOnlyRow.holds Tryd.pinned (OpenSpec.ofChange rootOnlySpec)

/-- ITS FALSE NEIGHBOUR: 'it returns false'. Refute it at one input. -/
def rootOnlyWrong : ChangeSpec := { name := "rootOnly", fn := fun _ => fun
  | [d] => { results := [.lit (.bool false)], args := [d] }
  | _ => none }
def RootOnlyWrongFalsely : Prop := rootOnlyRow.holds Tryd.pinned (OpenSpec.ofChange rootOnlyWrong)

/-- 'heijunkalaw08.RootFlips': WHATEVER THE INPUT: true; the input reads as it did. -/
def rootFlipsSpec : ChangeSpec := { name := "rootFlips", fn := fun _ => fun
  | [d1, d2, d3] => { results := [.lit (.bool true)], args := [d1, d2, d3] }
  | _ => none }
def rootFlipsRow : OpenClaim := { program := "ytfoeapjlklfjgaadoor", sum := "11f35fde556f4c60f976ddbaee8a8d28fb3c025ef6163bcbd10df5357b46411b", func := "heijunka/heijunkalaw08.RootFlips", spec := "rootFlips", named := ["unicode/utf8.first", "unicode/utf8.acceptRanges"], apart := false, laid := [("unicode/utf8.acceptRanges", laid_unicode_utf8_acceptRanges), ("unicode/utf8.first", laid_unicode_utf8_first)] }
def RootFlipsSaid : Prop := rootFlipsRow.holds Tryd.pinned (OpenSpec.ofChange rootFlipsSpec)

/-- ITS FALSE NEIGHBOUR: 'it returns false'. Refute it at one input. -/
def rootFlipsWrong : ChangeSpec := { name := "rootFlips", fn := fun _ => fun
  | [d1, d2, d3] => { results := [.lit (.bool false)], args := [d1, d2, d3] }
  | _ => none }
def RootFlipsWrongFalsely : Prop := rootFlipsRow.holds Tryd.pinned (OpenSpec.ofChange rootFlipsWrong)

/-- 'heijunkalaw08.RootQuiet': WHATEVER THE INPUT: true; the input reads as it did. -/
def rootQuietSpec : ChangeSpec := { name := "rootQuiet", fn := fun _ => fun
  | [d1, d2] => { results := [.lit (.bool true)], args := [d1, d2] }
  | _ => none }
def rootQuietRow : OpenClaim := { program := "ytfoeapjlklfjgaadoor", sum := "11f35fde556f4c60f976ddbaee8a8d28fb3c025ef6163bcbd10df5357b46411b", func := "heijunka/heijunkalaw08.RootQuiet", spec := "rootQuiet", named := ["unicode/utf8.first", "unicode/utf8.acceptRanges"], apart := false, laid := [("unicode/utf8.acceptRanges", laid_unicode_utf8_acceptRanges), ("unicode/utf8.first", laid_unicode_utf8_first)] }
def RootQuietSaid : Prop := rootQuietRow.holds Tryd.pinned (OpenSpec.ofChange rootQuietSpec)

/-- ITS FALSE NEIGHBOUR: 'it returns false'. Refute it at one input. -/
def rootQuietWrong : ChangeSpec := { name := "rootQuiet", fn := fun _ => fun
  | [d1, d2] => { results := [.lit (.bool false)], args := [d1, d2] }
  | _ => none }
def RootQuietWrongFalsely : Prop := rootQuietRow.holds Tryd.pinned (OpenSpec.ofChange rootQuietWrong)

/-- 'heijunkalaw08.RootPlays': WHATEVER THE INPUT: true; the input reads as it did. -/
def rootPlaysSpec : ChangeSpec := { name := "rootPlays", fn := fun _ => fun
  | [d1, d2] => { results := [.lit (.bool true)], args := [d1, d2] }
  | _ => none }
def rootPlaysRow : OpenClaim := { program := "ytfoeapjlklfjgaadoor", sum := "11f35fde556f4c60f976ddbaee8a8d28fb3c025ef6163bcbd10df5357b46411b", func := "heijunka/heijunkalaw08.RootPlays", spec := "rootPlays", named := ["unicode/utf8.first", "unicode/utf8.acceptRanges"], apart := false, laid := [("unicode/utf8.acceptRanges", laid_unicode_utf8_acceptRanges), ("unicode/utf8.first", laid_unicode_utf8_first)] }
def RootPlaysSaid : Prop := rootPlaysRow.holds Tryd.pinned (OpenSpec.ofChange rootPlaysSpec)

/-- ITS FALSE NEIGHBOUR: 'it returns false'. Refute it at one input. -/
def rootPlaysWrong : ChangeSpec := { name := "rootPlays", fn := fun _ => fun
  | [d1, d2] => { results := [.lit (.bool false)], args := [d1, d2] }
  | _ => none }
def RootPlaysWrongFalsely : Prop := rootPlaysRow.holds Tryd.pinned (OpenSpec.ofChange rootPlaysWrong)

/- THE SECOND FORM. 'bulk': how many values and letters a reading holds, each counted each time it is reached (what is shared counts as often as it is met; a slice's spare places count too). A statement '..UptoSaid' is the law's where the arguments, and the package variables that the reading takes, are together of bulk at most 1048576: NARROWER than '..Said'. Prove '..Said' where nothing that the law and all that it calls make is longer than what came in: it says more and counts as full. Else prove '..UptoSaid'. A law counts once. -/
mutual
def uptoBulk {H : Type} : DataW H → Nat
  | .lit (.string bytes) => bytes.length + 1
  | .lit _ => 1
  | .nil => 1
  | .ptr d => uptoBulk d + 1
  | .slice elems spare => uptoBulkAll elems + uptoBulkAll spare + 1
  | .agg parts => uptoBulkAll parts + 1
  | .iface _ d => uptoBulk d + 1
  | .map entries => uptoBulkEntries entries + 1
  | .held _ => 1
def uptoBulkAll {H : Type} : List (DataW H) → Nat
  | [] => 0
  | d :: r => uptoBulk d + uptoBulkAll r
def uptoBulkEntries {H : Type} : List (Lit × DataW H) → Nat
  | [] => 0
  | x :: r => uptoBulkEntry x + uptoBulkEntries r
def uptoBulkEntry {H : Type} : Lit × DataW H → Nat
  | (.string bytes, d) => bytes.length + uptoBulk d + 1
  | (_, d) => uptoBulk d + 1
 end
def uptoSmall : (H : Type) → List (DataW H) → Bool := fun _ ds => decide (uptoBulkAll ds ≤ 1048576)
def OpenSpec.upto (s : _root_.Go.ChangeSpec) : _root_.Go.OpenSpec := { _root_.Go.OpenSpec.ofChange s with cond := some uptoSmall }

/-- 'heijunkalaw06.CellCodes', WHERE WHAT IT READS IS OF BULK AT MOST 1048576: true; the input reads as it did. -/
def cellCodesUptoRow : OpenClaim := { program := "ytfoeapjlklfjgaadoor", sum := "11f35fde556f4c60f976ddbaee8a8d28fb3c025ef6163bcbd10df5357b46411b", func := "heijunka/heijunkalaw06.CellCodes", spec := "cellCodes", unfollowed := true, recurses := true, named := ["unicode/utf8.first", "unicode/utf8.acceptRanges"], apart := false, laid := [("unicode/utf8.acceptRanges", laid_unicode_utf8_acceptRanges), ("unicode/utf8.first", laid_unicode_utf8_first)], narrowed := true }
def CellCodesUptoSaid : Prop := cellCodesUptoRow.holds Tryd.pinned (OpenSpec.upto cellCodesSpec)

/-- 'heijunkalaw06.CellSplits', WHERE WHAT IT READS IS OF BULK AT MOST 1048576: true; the input reads as it did. -/
def cellSplitsUptoRow : OpenClaim := { program := "ytfoeapjlklfjgaadoor", sum := "11f35fde556f4c60f976ddbaee8a8d28fb3c025ef6163bcbd10df5357b46411b", func := "heijunka/heijunkalaw06.CellSplits", spec := "cellSplits", unfollowed := true, recurses := true, named := ["unicode/utf8.first", "unicode/utf8.acceptRanges"], apart := false, laid := [("unicode/utf8.acceptRanges", laid_unicode_utf8_acceptRanges), ("unicode/utf8.first", laid_unicode_utf8_first)], narrowed := true }
def CellSplitsUptoSaid : Prop := cellSplitsUptoRow.holds Tryd.pinned (OpenSpec.upto cellSplitsSpec)

/-- 'heijunkalaw06.CellApart', WHERE WHAT IT READS IS OF BULK AT MOST 1048576: true; the input reads as it did. -/
def cellApartUptoRow : OpenClaim := { program := "ytfoeapjlklfjgaadoor", sum := "11f35fde556f4c60f976ddbaee8a8d28fb3c025ef6163bcbd10df5357b46411b", func := "heijunka/heijunkalaw06.CellApart", spec := "cellApart", unfollowed := true, recurses := true, named := ["unicode/utf8.first", "unicode/utf8.acceptRanges"], apart := false, laid := [("unicode/utf8.acceptRanges", laid_unicode_utf8_acceptRanges), ("unicode/utf8.first", laid_unicode_utf8_first)], narrowed := true }
def CellApartUptoSaid : Prop := cellApartUptoRow.holds Tryd.pinned (OpenSpec.upto cellApartSpec)

/-- 'heijunkalaw06.CellTurned', WHERE WHAT IT READS IS OF BULK AT MOST 1048576: true; the input reads as it did. -/
def cellTurnedUptoRow : OpenClaim := { program := "ytfoeapjlklfjgaadoor", sum := "11f35fde556f4c60f976ddbaee8a8d28fb3c025ef6163bcbd10df5357b46411b", func := "heijunka/heijunkalaw06.CellTurned", spec := "cellTurned", unfollowed := true, recurses := true, named := ["unicode/utf8.first", "unicode/utf8.acceptRanges"], apart := false, laid := [("unicode/utf8.acceptRanges", laid_unicode_utf8_acceptRanges), ("unicode/utf8.first", laid_unicode_utf8_first)], narrowed := true }
def CellTurnedUptoSaid : Prop := cellTurnedUptoRow.holds Tryd.pinned (OpenSpec.upto cellTurnedSpec)

/-- 'heijunkalaw06.CellNeeds', WHERE WHAT IT READS IS OF BULK AT MOST 1048576: true; the input reads as it did. -/
def cellNeedsUptoRow : OpenClaim := { program := "ytfoeapjlklfjgaadoor", sum := "11f35fde556f4c60f976ddbaee8a8d28fb3c025ef6163bcbd10df5357b46411b", func := "heijunka/heijunkalaw06.CellNeeds", spec := "cellNeeds", unfollowed := true, recurses := true, named := ["unicode/utf8.first", "unicode/utf8.acceptRanges"], apart := false, laid := [("unicode/utf8.acceptRanges", laid_unicode_utf8_acceptRanges), ("unicode/utf8.first", laid_unicode_utf8_first)], narrowed := true }
def CellNeedsUptoSaid : Prop := cellNeedsUptoRow.holds Tryd.pinned (OpenSpec.upto cellNeedsSpec)

/-- 'heijunkalaw06.CellOrder', WHERE WHAT IT READS IS OF BULK AT MOST 1048576: true; the input reads as it did. -/
def cellOrderUptoRow : OpenClaim := { program := "ytfoeapjlklfjgaadoor", sum := "11f35fde556f4c60f976ddbaee8a8d28fb3c025ef6163bcbd10df5357b46411b", func := "heijunka/heijunkalaw06.CellOrder", spec := "cellOrder", unfollowed := true, recurses := true, named := ["unicode/utf8.first", "unicode/utf8.acceptRanges"], apart := false, laid := [("unicode/utf8.acceptRanges", laid_unicode_utf8_acceptRanges), ("unicode/utf8.first", laid_unicode_utf8_first)], narrowed := true }
def CellOrderUptoSaid : Prop := cellOrderUptoRow.holds Tryd.pinned (OpenSpec.upto cellOrderSpec)

/-- 'heijunkalaw06.CellLast', WHERE WHAT IT READS IS OF BULK AT MOST 1048576: true; the input reads as it did. -/
def cellLastUptoRow : OpenClaim := { program := "ytfoeapjlklfjgaadoor", sum := "11f35fde556f4c60f976ddbaee8a8d28fb3c025ef6163bcbd10df5357b46411b", func := "heijunka/heijunkalaw06.CellLast", spec := "cellLast", unfollowed := true, recurses := true, named := ["unicode/utf8.first", "unicode/utf8.acceptRanges"], apart := false, laid := [("unicode/utf8.acceptRanges", laid_unicode_utf8_acceptRanges), ("unicode/utf8.first", laid_unicode_utf8_first)], narrowed := true }
def CellLastUptoSaid : Prop := cellLastUptoRow.holds Tryd.pinned (OpenSpec.upto cellLastSpec)

/-- 'heijunkalaw08.RootSlots', WHERE WHAT IT READS IS OF BULK AT MOST 1048576: true; the input reads as it did. -/
def rootSlotsUptoRow : OpenClaim := { program := "ytfoeapjlklfjgaadoor", sum := "11f35fde556f4c60f976ddbaee8a8d28fb3c025ef6163bcbd10df5357b46411b", func := "heijunka/heijunkalaw08.RootSlots", spec := "rootSlots", named := ["unicode/utf8.first", "unicode/utf8.acceptRanges"], apart := false, laid := [("unicode/utf8.acceptRanges", laid_unicode_utf8_acceptRanges), ("unicode/utf8.first", laid_unicode_utf8_first)], narrowed := true }
def RootSlotsUptoSaid : Prop := rootSlotsUptoRow.holds Tryd.pinned (OpenSpec.upto rootSlotsSpec)

/-- 'heijunkalaw08.RootOnly', WHERE WHAT IT READS IS OF BULK AT MOST 1048576: true; the input reads as it did. -/
def rootOnlyUptoRow : OpenClaim := { program := "ytfoeapjlklfjgaadoor", sum := "11f35fde556f4c60f976ddbaee8a8d28fb3c025ef6163bcbd10df5357b46411b", func := "heijunka/heijunkalaw08.RootOnly", spec := "rootOnly", named := ["unicode/utf8.first", "unicode/utf8.acceptRanges"], apart := false, laid := [("unicode/utf8.acceptRanges", laid_unicode_utf8_acceptRanges), ("unicode/utf8.first", laid_unicode_utf8_first)], narrowed := true }
def RootOnlyUptoSaid : Prop := rootOnlyUptoRow.holds Tryd.pinned (OpenSpec.upto rootOnlySpec)

/-- 'heijunkalaw08.RootFlips', WHERE WHAT IT READS IS OF BULK AT MOST 1048576: true; the input reads as it did. -/
def rootFlipsUptoRow : OpenClaim := { program := "ytfoeapjlklfjgaadoor", sum := "11f35fde556f4c60f976ddbaee8a8d28fb3c025ef6163bcbd10df5357b46411b", func := "heijunka/heijunkalaw08.RootFlips", spec := "rootFlips", named := ["unicode/utf8.first", "unicode/utf8.acceptRanges"], apart := false, laid := [("unicode/utf8.acceptRanges", laid_unicode_utf8_acceptRanges), ("unicode/utf8.first", laid_unicode_utf8_first)], narrowed := true }
def RootFlipsUptoSaid : Prop := rootFlipsUptoRow.holds Tryd.pinned (OpenSpec.upto rootFlipsSpec)

/-- 'heijunkalaw08.RootQuiet', WHERE WHAT IT READS IS OF BULK AT MOST 1048576: true; the input reads as it did. -/
def rootQuietUptoRow : OpenClaim := { program := "ytfoeapjlklfjgaadoor", sum := "11f35fde556f4c60f976ddbaee8a8d28fb3c025ef6163bcbd10df5357b46411b", func := "heijunka/heijunkalaw08.RootQuiet", spec := "rootQuiet", named := ["unicode/utf8.first", "unicode/utf8.acceptRanges"], apart := false, laid := [("unicode/utf8.acceptRanges", laid_unicode_utf8_acceptRanges), ("unicode/utf8.first", laid_unicode_utf8_first)], narrowed := true }
def RootQuietUptoSaid : Prop := rootQuietUptoRow.holds Tryd.pinned (OpenSpec.upto rootQuietSpec)

/-- 'heijunkalaw08.RootPlays', WHERE WHAT IT READS IS OF BULK AT MOST 1048576: true; the input reads as it did. -/
def rootPlaysUptoRow : OpenClaim := { program := "ytfoeapjlklfjgaadoor", sum := "11f35fde556f4c60f976ddbaee8a8d28fb3c025ef6163bcbd10df5357b46411b", func := "heijunka/heijunkalaw08.RootPlays", spec := "rootPlays", named := ["unicode/utf8.first", "unicode/utf8.acceptRanges"], apart := false, laid := [("unicode/utf8.acceptRanges", laid_unicode_utf8_acceptRanges), ("unicode/utf8.first", laid_unicode_utf8_first)], narrowed := true }
def RootPlaysUptoSaid : Prop := rootPlaysUptoRow.holds Tryd.pinned (OpenSpec.upto rootPlaysSpec)

end Rows
end Go.Proofs.YtfoeapjlklfjgaaDoor
