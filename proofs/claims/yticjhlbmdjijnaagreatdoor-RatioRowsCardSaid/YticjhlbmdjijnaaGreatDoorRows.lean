/-
  NARROWER THAN 'FOR EVERY INPUT', by the rows' own cells (each row's printed sentence says how): RatioRounds: laid · RatioDecimals: laid · RatioWhole: laid · RatioOrder: laid · RatioReckons: laid · RatioField: laid · RatioBetween: laid · RatioWrites: laid · RatioRows: laid.
  DERIVED. THE GIVEN ROWS OF THIS SEAT. 9 by the template 'for every input the law returns true; each argument reads behind the call as it read before'; 0 by the template 'total and deterministic' (their statements: YticjhlbmdjijnaaGreatDoorTotals.lean).
  GIVEN WITH THE SEED: the statements are not yours to turn. If you find one false, say at which input.
  Laid BY PROGRAM, IN A SANDBOX (cutbox-rows.mjs): the forced cells as the released guide's own fill.sh prints them over the translation a19453741b772628… (all of the seat's roots in one cut). By AI agents, Wed Nov 11 2026. No macro, syntax, notation, axiom, sorry.
-/
import Derived.Test.YticjhlbmdjijnaaGreatDoorChecked
import GoSem.PinnedTables
import GoSem.Claim
import GoSem.ClaimJoined
import GoSem.ClaimMapViews
import Derived.JoinedTies
import Derived.KernelRfl
namespace Go.Proofs.YticjhlbmdjijnaaGreatDoor
/- THE CELL 'sum', in the pinned program and in every row, IS THE sha256 OF THE DUMP (.gsa) THAT YticjhlbmdjijnaaGreatDoorProg.lean LOADS. Nothing in Lean hashes anything: it is a label: what it is worth is what the hold of that sum in a sandbox is worth. -/
noncomputable def Tryz.pinned : Pinned := { name := "yticjhlbmdjijnaagreatdoor", sum := "a19453741b77262826767b3a5210514c3101ab27461de20f4ab0973b05f5139d", checked := Tryz.checked }
namespace Rows
def none {H : Type} : Left H := { results := [], args := [] }

/- WHAT THE LISTED PACKAGE-LEVEL VARIABLES READ AS WHEN THE CALL BEGINS. Each datum BY PROGRAM (the guide's laid-datum.mjs) off the statement by which the dump's own 'gosem.cut.vars' lays the variable. In a bare row this is a premise. The card (YticjhlbmdjijnaaGreatDoorCards.lean) ties it to the program's text. -/
def laid_unicode_utf8_acceptRanges {H : Type} : DataW H := .agg [.agg [.lit (.int .u8 128), .lit (.int .u8 191)], .agg [.lit (.int .u8 160), .lit (.int .u8 191)], .agg [.lit (.int .u8 128), .lit (.int .u8 159)], .agg [.lit (.int .u8 144), .lit (.int .u8 191)], .agg [.lit (.int .u8 128), .lit (.int .u8 143)], .agg [.lit (.int .u8 0), .lit (.int .u8 0)], .agg [.lit (.int .u8 0), .lit (.int .u8 0)], .agg [.lit (.int .u8 0), .lit (.int .u8 0)], .agg [.lit (.int .u8 0), .lit (.int .u8 0)], .agg [.lit (.int .u8 0), .lit (.int .u8 0)], .agg [.lit (.int .u8 0), .lit (.int .u8 0)], .agg [.lit (.int .u8 0), .lit (.int .u8 0)], .agg [.lit (.int .u8 0), .lit (.int .u8 0)], .agg [.lit (.int .u8 0), .lit (.int .u8 0)], .agg [.lit (.int .u8 0), .lit (.int .u8 0)], .agg [.lit (.int .u8 0), .lit (.int .u8 0)]]
/-- One of Go's own tables, pinned by name: the form's constant. -/
def laid_unicode_utf8_first : DataW Unit := Go.Pinned.utf8First

/-- 'heijunkalaw03.RatioRounds': WHATEVER THE INPUT: true; the input reads as it did. -/
def ratioRoundsSpec : ChangeSpec := { name := "ratioRounds", fn := fun _ => fun
  | [d1, d2, d3] => { results := [.lit (.bool true)], args := [d1, d2, d3] }
  | _ => none }
def ratioRoundsRow : OpenClaim := { program := "yticjhlbmdjijnaagreatdoor", sum := "a19453741b77262826767b3a5210514c3101ab27461de20f4ab0973b05f5139d", func := "heijunka/heijunkalaw03.RatioRounds", spec := "ratioRounds", inPlace := ["internal/bytealg.IndexByteString", "internal/bytealg.IndexString"], unfollowed := true, recurses := true, named := ["math/bits.overflowError", "internal/bytealg.MaxLen", "unicode/utf8.first", "unicode/utf8.acceptRanges"], apart := false, laid := [("unicode/utf8.acceptRanges", laid_unicode_utf8_acceptRanges), ("unicode/utf8.first", laid_unicode_utf8_first)] }
def RatioRoundsSaid : Prop := ratioRoundsRow.holds Tryz.pinned (OpenSpec.ofChange ratioRoundsSpec)

/-- ITS FALSE NEIGHBOUR: 'it returns false'. Refute it at one input. -/
def ratioRoundsWrong : ChangeSpec := { name := "ratioRounds", fn := fun _ => fun
  | [d1, d2, d3] => { results := [.lit (.bool false)], args := [d1, d2, d3] }
  | _ => none }
def RatioRoundsWrongFalsely : Prop := ratioRoundsRow.holds Tryz.pinned (OpenSpec.ofChange ratioRoundsWrong)

/-- 'heijunkalaw03.RatioDecimals': WHATEVER THE INPUT: true; the input reads as it did. -/
def ratioDecimalsSpec : ChangeSpec := { name := "ratioDecimals", fn := fun _ => fun
  | [d1, d2] => { results := [.lit (.bool true)], args := [d1, d2] }
  | _ => none }
def ratioDecimalsRow : OpenClaim := { program := "yticjhlbmdjijnaagreatdoor", sum := "a19453741b77262826767b3a5210514c3101ab27461de20f4ab0973b05f5139d", func := "heijunka/heijunkalaw03.RatioDecimals", spec := "ratioDecimals", inPlace := ["internal/bytealg.IndexByteString", "internal/bytealg.IndexString"], unfollowed := true, recurses := true, named := ["math/bits.overflowError", "internal/bytealg.MaxLen", "unicode/utf8.first", "unicode/utf8.acceptRanges"], apart := false, laid := [("unicode/utf8.acceptRanges", laid_unicode_utf8_acceptRanges), ("unicode/utf8.first", laid_unicode_utf8_first)] }
def RatioDecimalsSaid : Prop := ratioDecimalsRow.holds Tryz.pinned (OpenSpec.ofChange ratioDecimalsSpec)

/-- ITS FALSE NEIGHBOUR: 'it returns false'. Refute it at one input. -/
def ratioDecimalsWrong : ChangeSpec := { name := "ratioDecimals", fn := fun _ => fun
  | [d1, d2] => { results := [.lit (.bool false)], args := [d1, d2] }
  | _ => none }
def RatioDecimalsWrongFalsely : Prop := ratioDecimalsRow.holds Tryz.pinned (OpenSpec.ofChange ratioDecimalsWrong)

/-- 'heijunkalaw03.RatioWhole': WHATEVER THE INPUT: true; the input reads as it did. -/
def ratioWholeSpec : ChangeSpec := { name := "ratioWhole", fn := fun _ => fun
  | [d] => { results := [.lit (.bool true)], args := [d] }
  | _ => none }
def ratioWholeRow : OpenClaim := { program := "yticjhlbmdjijnaagreatdoor", sum := "a19453741b77262826767b3a5210514c3101ab27461de20f4ab0973b05f5139d", func := "heijunka/heijunkalaw03.RatioWhole", spec := "ratioWhole", inPlace := ["internal/bytealg.IndexByteString", "internal/bytealg.IndexString"], unfollowed := true, recurses := true, named := ["math/bits.overflowError", "internal/bytealg.MaxLen", "unicode/utf8.first", "unicode/utf8.acceptRanges"], apart := false, laid := [("unicode/utf8.acceptRanges", laid_unicode_utf8_acceptRanges), ("unicode/utf8.first", laid_unicode_utf8_first)] }
def RatioWholeSaid : Prop := ratioWholeRow.holds Tryz.pinned (OpenSpec.ofChange ratioWholeSpec)

/-- ITS FALSE NEIGHBOUR: 'it returns false'. Refute it at one input. -/
def ratioWholeWrong : ChangeSpec := { name := "ratioWhole", fn := fun _ => fun
  | [d] => { results := [.lit (.bool false)], args := [d] }
  | _ => none }
def RatioWholeWrongFalsely : Prop := ratioWholeRow.holds Tryz.pinned (OpenSpec.ofChange ratioWholeWrong)

/-- 'heijunkalaw03.RatioOrder': WHATEVER THE INPUT: true; the input reads as it did. -/
def ratioOrderSpec : ChangeSpec := { name := "ratioOrder", fn := fun _ => fun
  | [d1, d2, d3] => { results := [.lit (.bool true)], args := [d1, d2, d3] }
  | _ => none }
def ratioOrderRow : OpenClaim := { program := "yticjhlbmdjijnaagreatdoor", sum := "a19453741b77262826767b3a5210514c3101ab27461de20f4ab0973b05f5139d", func := "heijunka/heijunkalaw03.RatioOrder", spec := "ratioOrder", inPlace := ["internal/bytealg.IndexByteString", "internal/bytealg.IndexString"], unfollowed := true, recurses := true, named := ["math/bits.overflowError", "internal/bytealg.MaxLen", "unicode/utf8.first", "unicode/utf8.acceptRanges"], apart := false, laid := [("unicode/utf8.acceptRanges", laid_unicode_utf8_acceptRanges), ("unicode/utf8.first", laid_unicode_utf8_first)] }
def RatioOrderSaid : Prop := ratioOrderRow.holds Tryz.pinned (OpenSpec.ofChange ratioOrderSpec)

/-- ITS FALSE NEIGHBOUR: 'it returns false'. Refute it at one input. -/
def ratioOrderWrong : ChangeSpec := { name := "ratioOrder", fn := fun _ => fun
  | [d1, d2, d3] => { results := [.lit (.bool false)], args := [d1, d2, d3] }
  | _ => none }
def RatioOrderWrongFalsely : Prop := ratioOrderRow.holds Tryz.pinned (OpenSpec.ofChange ratioOrderWrong)

/-- 'heijunkalaw03.RatioReckons': WHATEVER THE INPUT: true; the input reads as it did. -/
def ratioReckonsSpec : ChangeSpec := { name := "ratioReckons", fn := fun _ => fun
  | [d1, d2] => { results := [.lit (.bool true)], args := [d1, d2] }
  | _ => none }
def ratioReckonsRow : OpenClaim := { program := "yticjhlbmdjijnaagreatdoor", sum := "a19453741b77262826767b3a5210514c3101ab27461de20f4ab0973b05f5139d", func := "heijunka/heijunkalaw03.RatioReckons", spec := "ratioReckons", inPlace := ["internal/bytealg.IndexByteString", "internal/bytealg.IndexString"], unfollowed := true, recurses := true, named := ["math/bits.overflowError", "internal/bytealg.MaxLen", "unicode/utf8.first", "unicode/utf8.acceptRanges"], apart := false, laid := [("unicode/utf8.acceptRanges", laid_unicode_utf8_acceptRanges), ("unicode/utf8.first", laid_unicode_utf8_first)] }
def RatioReckonsSaid : Prop := ratioReckonsRow.holds Tryz.pinned (OpenSpec.ofChange ratioReckonsSpec)

/-- ITS FALSE NEIGHBOUR: 'it returns false'. Refute it at one input. -/
def ratioReckonsWrong : ChangeSpec := { name := "ratioReckons", fn := fun _ => fun
  | [d1, d2] => { results := [.lit (.bool false)], args := [d1, d2] }
  | _ => none }
def RatioReckonsWrongFalsely : Prop := ratioReckonsRow.holds Tryz.pinned (OpenSpec.ofChange ratioReckonsWrong)

/-- 'heijunkalaw03.RatioField': WHATEVER THE INPUT: true; the input reads as it did. -/
def ratioFieldSpec : ChangeSpec := { name := "ratioField", fn := fun _ => fun
  | [d1, d2, d3] => { results := [.lit (.bool true)], args := [d1, d2, d3] }
  | _ => none }
def ratioFieldRow : OpenClaim := { program := "yticjhlbmdjijnaagreatdoor", sum := "a19453741b77262826767b3a5210514c3101ab27461de20f4ab0973b05f5139d", func := "heijunka/heijunkalaw03.RatioField", spec := "ratioField", inPlace := ["internal/bytealg.IndexByteString", "internal/bytealg.IndexString"], unfollowed := true, recurses := true, named := ["math/bits.overflowError", "internal/bytealg.MaxLen", "unicode/utf8.first", "unicode/utf8.acceptRanges"], apart := false, laid := [("unicode/utf8.acceptRanges", laid_unicode_utf8_acceptRanges), ("unicode/utf8.first", laid_unicode_utf8_first)] }
def RatioFieldSaid : Prop := ratioFieldRow.holds Tryz.pinned (OpenSpec.ofChange ratioFieldSpec)

/-- ITS FALSE NEIGHBOUR: 'it returns false'. Refute it at one input. -/
def ratioFieldWrong : ChangeSpec := { name := "ratioField", fn := fun _ => fun
  | [d1, d2, d3] => { results := [.lit (.bool false)], args := [d1, d2, d3] }
  | _ => none }
def RatioFieldWrongFalsely : Prop := ratioFieldRow.holds Tryz.pinned (OpenSpec.ofChange ratioFieldWrong)

/-- 'heijunkalaw03.RatioBetween': WHATEVER THE INPUT: true; the input reads as it did. -/
def ratioBetweenSpec : ChangeSpec := { name := "ratioBetween", fn := fun _ => fun
  | [d1, d2] => { results := [.lit (.bool true)], args := [d1, d2] }
  | _ => none }
def ratioBetweenRow : OpenClaim := { program := "yticjhlbmdjijnaagreatdoor", sum := "a19453741b77262826767b3a5210514c3101ab27461de20f4ab0973b05f5139d", func := "heijunka/heijunkalaw03.RatioBetween", spec := "ratioBetween", inPlace := ["internal/bytealg.IndexByteString", "internal/bytealg.IndexString"], unfollowed := true, recurses := true, named := ["math/bits.overflowError", "internal/bytealg.MaxLen", "unicode/utf8.first", "unicode/utf8.acceptRanges"], apart := false, laid := [("unicode/utf8.acceptRanges", laid_unicode_utf8_acceptRanges), ("unicode/utf8.first", laid_unicode_utf8_first)] }
def RatioBetweenSaid : Prop := ratioBetweenRow.holds Tryz.pinned (OpenSpec.ofChange ratioBetweenSpec)

/-- ITS FALSE NEIGHBOUR: 'it returns false'. Refute it at one input. -/
def ratioBetweenWrong : ChangeSpec := { name := "ratioBetween", fn := fun _ => fun
  | [d1, d2] => { results := [.lit (.bool false)], args := [d1, d2] }
  | _ => none }
def RatioBetweenWrongFalsely : Prop := ratioBetweenRow.holds Tryz.pinned (OpenSpec.ofChange ratioBetweenWrong)

/-- 'heijunkalaw03.RatioWrites': WHATEVER THE INPUT: true; the input reads as it did. -/
def ratioWritesSpec : ChangeSpec := { name := "ratioWrites", fn := fun _ => fun
  | [d1, d2, d3] => { results := [.lit (.bool true)], args := [d1, d2, d3] }
  | _ => none }
def ratioWritesRow : OpenClaim := { program := "yticjhlbmdjijnaagreatdoor", sum := "a19453741b77262826767b3a5210514c3101ab27461de20f4ab0973b05f5139d", func := "heijunka/heijunkalaw03.RatioWrites", spec := "ratioWrites", inPlace := ["internal/bytealg.IndexByteString", "internal/bytealg.IndexString"], unfollowed := true, recurses := true, named := ["math/bits.overflowError", "internal/bytealg.MaxLen", "unicode/utf8.first", "unicode/utf8.acceptRanges"], apart := false, laid := [("unicode/utf8.acceptRanges", laid_unicode_utf8_acceptRanges), ("unicode/utf8.first", laid_unicode_utf8_first)] }
def RatioWritesSaid : Prop := ratioWritesRow.holds Tryz.pinned (OpenSpec.ofChange ratioWritesSpec)

/-- ITS FALSE NEIGHBOUR: 'it returns false'. Refute it at one input. -/
def ratioWritesWrong : ChangeSpec := { name := "ratioWrites", fn := fun _ => fun
  | [d1, d2, d3] => { results := [.lit (.bool false)], args := [d1, d2, d3] }
  | _ => none }
def RatioWritesWrongFalsely : Prop := ratioWritesRow.holds Tryz.pinned (OpenSpec.ofChange ratioWritesWrong)

/-- 'heijunkalaw03.RatioRows': WHATEVER THE INPUT: true; the input reads as it did. -/
def ratioRowsSpec : ChangeSpec := { name := "ratioRows", fn := fun _ => fun
  | [d] => { results := [.lit (.bool true)], args := [d] }
  | _ => none }
def ratioRowsRow : OpenClaim := { program := "yticjhlbmdjijnaagreatdoor", sum := "a19453741b77262826767b3a5210514c3101ab27461de20f4ab0973b05f5139d", func := "heijunka/heijunkalaw03.RatioRows", spec := "ratioRows", inPlace := ["internal/bytealg.IndexByteString", "internal/bytealg.IndexString"], unfollowed := true, recurses := true, named := ["math/bits.overflowError", "internal/bytealg.MaxLen", "unicode/utf8.first", "unicode/utf8.acceptRanges"], apart := false, laid := [("unicode/utf8.acceptRanges", laid_unicode_utf8_acceptRanges), ("unicode/utf8.first", laid_unicode_utf8_first)] }
def RatioRowsSaid : Prop := ratioRowsRow.holds Tryz.pinned (OpenSpec.ofChange ratioRowsSpec)

/-- ITS FALSE NEIGHBOUR: 'it returns false'. Refute it at one input. -/
def ratioRowsWrong : ChangeSpec := { name := "ratioRows", fn := fun _ => fun
  | [d] => { results := [.lit (.bool false)], args := [d] }
  | _ => none }
def RatioRowsWrongFalsely : Prop := ratioRowsRow.holds Tryz.pinned (OpenSpec.ofChange ratioRowsWrong)

/- THE SECOND FORM. 'bulk': how many values and letters a reading holds, each counted each time it is reached (what is shared counts as often as it is met; a slice's spare places count too). A statement '..UptoSaid' is the law's where the arguments, and the package variables that the reading takes, are together of bulk at most 1048576: NARROWER than '..Said'. Prove '..Said' where nothing that the law and all that it calls make is longer than what came in: it says more and counts as full. Else prove '..UptoSaid'. A law counts once. -/
mutual
def uptoBulk {H : Type} : DataW H → Nat
  | .lit (.string bytes) => bytes.length + 1
  | .lit _ => 1
  | .nil => 1
  | .ptr d => uptoBulk d + 1
  | .slice elems spare => uptoBulkAll elems + uptoBulkAll spare + 1
  | .agg parts => uptoBulkAll parts + 1
  | .iface _ d => uptoBulk d + 1
  | .map entries => uptoBulkEntries entries + 1
  | .held _ => 1
def uptoBulkAll {H : Type} : List (DataW H) → Nat
  | [] => 0
  | d :: r => uptoBulk d + uptoBulkAll r
def uptoBulkEntries {H : Type} : List (Lit × DataW H) → Nat
  | [] => 0
  | x :: r => uptoBulkEntry x + uptoBulkEntries r
def uptoBulkEntry {H : Type} : Lit × DataW H → Nat
  | (.string bytes, d) => bytes.length + uptoBulk d + 1
  | (_, d) => uptoBulk d + 1
 end
def uptoSmall : (H : Type) → List (DataW H) → Bool := fun _ ds => decide (uptoBulkAll ds ≤ 1048576)
def OpenSpec.upto (s : _root_.Go.ChangeSpec) : _root_.Go.OpenSpec := { _root_.Go.OpenSpec.ofChange s with cond := some uptoSmall }

/-- 'heijunkalaw03.RatioRounds', WHERE WHAT IT READS IS OF BULK AT MOST 1048576: true; the input reads as it did. -/
def ratioRoundsUptoRow : OpenClaim := { program := "yticjhlbmdjijnaagreatdoor", sum := "a19453741b77262826767b3a5210514c3101ab27461de20f4ab0973b05f5139d", func := "heijunka/heijunkalaw03.RatioRounds", spec := "ratioRounds", inPlace := ["internal/bytealg.IndexByteString", "internal/bytealg.IndexString"], unfollowed := true, recurses := true, named := ["math/bits.overflowError", "internal/bytealg.MaxLen", "unicode/utf8.first", "unicode/utf8.acceptRanges"], apart := false, laid := [("unicode/utf8.acceptRanges", laid_unicode_utf8_acceptRanges), ("unicode/utf8.first", laid_unicode_utf8_first)], narrowed := true }
def RatioRoundsUptoSaid : Prop := ratioRoundsUptoRow.holds Tryz.pinned (OpenSpec.upto ratioRoundsSpec)

/-- 'heijunkalaw03.RatioDecimals', WHERE WHAT IT READS IS OF BULK AT MOST 1048576: true; the input reads as it did. -/
def ratioDecimalsUptoRow : OpenClaim := { program := "yticjhlbmdjijnaagreatdoor", sum := "a19453741b77262826767b3a5210514c3101ab27461de20f4ab0973b05f5139d", func := "heijunka/heijunkalaw03.RatioDecimals", spec := "ratioDecimals", inPlace := ["internal/bytealg.IndexByteString", "internal/bytealg.IndexString"], unfollowed := true, recurses := true, named := ["math/bits.overflowError", "internal/bytealg.MaxLen", "unicode/utf8.first", "unicode/utf8.acceptRanges"], apart := false, laid := [("unicode/utf8.acceptRanges", laid_unicode_utf8_acceptRanges), ("unicode/utf8.first", laid_unicode_utf8_first)], narrowed := true }
def RatioDecimalsUptoSaid : Prop := ratioDecimalsUptoRow.holds Tryz.pinned (OpenSpec.upto ratioDecimalsSpec)

/-- 'heijunkalaw03.RatioWhole', WHERE WHAT IT READS IS OF BULK AT MOST 1048576: true; the input reads as it did. -/
def ratioWholeUptoRow : OpenClaim := { program := "yticjhlbmdjijnaagreatdoor", sum := "a19453741b77262826767b3a5210514c3101ab27461de20f4ab0973b05f5139d", func := "heijunka/heijunkalaw03.RatioWhole", spec := "ratioWhole", inPlace := ["internal/bytealg.IndexByteString", "internal/bytealg.IndexString"], unfollowed := true, recurses := true, named := ["math/bits.overflowError", "internal/bytealg.MaxLen", "unicode/utf8.first", "unicode/utf8.acceptRanges"], apart := false, laid := [("unicode/utf8.acceptRanges", laid_unicode_utf8_acceptRanges), ("unicode/utf8.first", laid_unicode_utf8_first)], narrowed := true }
def RatioWholeUptoSaid : Prop := ratioWholeUptoRow.holds Tryz.pinned (OpenSpec.upto ratioWholeSpec)

/-- 'heijunkalaw03.RatioOrder', WHERE WHAT IT READS IS OF BULK AT MOST 1048576: true; the input reads as it did. -/
def ratioOrderUptoRow : OpenClaim := { program := "yticjhlbmdjijnaagreatdoor", sum := "a19453741b77262826767b3a5210514c3101ab27461de20f4ab0973b05f5139d", func := "heijunka/heijunkalaw03.RatioOrder", spec := "ratioOrder", inPlace := ["internal/bytealg.IndexByteString", "internal/bytealg.IndexString"], unfollowed := true, recurses := true, named := ["math/bits.overflowError", "internal/bytealg.MaxLen", "unicode/utf8.first", "unicode/utf8.acceptRanges"], apart := false, laid := [("unicode/utf8.acceptRanges", laid_unicode_utf8_acceptRanges), ("unicode/utf8.first", laid_unicode_utf8_first)], narrowed := true }
def RatioOrderUptoSaid : Prop := ratioOrderUptoRow.holds Tryz.pinned (OpenSpec.upto ratioOrderSpec)

/-- 'heijunkalaw03.RatioReckons', WHERE WHAT IT READS IS OF BULK AT MOST 1048576: true; the input reads as it did. -/
def ratioReckonsUptoRow : OpenClaim := { program := "yticjhlbmdjijnaagreatdoor", sum := "a19453741b77262826767b3a5210514c3101ab27461de20f4ab0973b05f5139d", func := "heijunka/heijunkalaw03.RatioReckons", spec := "ratioReckons", inPlace := ["internal/bytealg.IndexByteString", "internal/bytealg.IndexString"], unfollowed := true, recurses := true, named := ["math/bits.overflowError", "internal/bytealg.MaxLen", "unicode/utf8.first", "unicode/utf8.acceptRanges"], apart := false, laid := [("unicode/utf8.acceptRanges", laid_unicode_utf8_acceptRanges), ("unicode/utf8.first", laid_unicode_utf8_first)], narrowed := true }
def RatioReckonsUptoSaid : Prop := ratioReckonsUptoRow.holds Tryz.pinned (OpenSpec.upto ratioReckonsSpec)

/-- 'heijunkalaw03.RatioField', WHERE WHAT IT READS IS OF BULK AT MOST 1048576: true; the input reads as it did. -/
def ratioFieldUptoRow : OpenClaim := { program := "yticjhlbmdjijnaagreatdoor", sum := "a19453741b77262826767b3a5210514c3101ab27461de20f4ab0973b05f5139d", func := "heijunka/heijunkalaw03.RatioField", spec := "ratioField", inPlace := ["internal/bytealg.IndexByteString", "internal/bytealg.IndexString"], unfollowed := true, recurses := true, named := ["math/bits.overflowError", "internal/bytealg.MaxLen", "unicode/utf8.first", "unicode/utf8.acceptRanges"], apart := false, laid := [("unicode/utf8.acceptRanges", laid_unicode_utf8_acceptRanges), ("unicode/utf8.first", laid_unicode_utf8_first)], narrowed := true }
def RatioFieldUptoSaid : Prop := ratioFieldUptoRow.holds Tryz.pinned (OpenSpec.upto ratioFieldSpec)

/-- 'heijunkalaw03.RatioBetween', WHERE WHAT IT READS IS OF BULK AT MOST 1048576: true; the input reads as it did. -/
def ratioBetweenUptoRow : OpenClaim := { program := "yticjhlbmdjijnaagreatdoor", sum := "a19453741b77262826767b3a5210514c3101ab27461de20f4ab0973b05f5139d", func := "heijunka/heijunkalaw03.RatioBetween", spec := "ratioBetween", inPlace := ["internal/bytealg.IndexByteString", "internal/bytealg.IndexString"], unfollowed := true, recurses := true, named := ["math/bits.overflowError", "internal/bytealg.MaxLen", "unicode/utf8.first", "unicode/utf8.acceptRanges"], apart := false, laid := [("unicode/utf8.acceptRanges", laid_unicode_utf8_acceptRanges), ("unicode/utf8.first", laid_unicode_utf8_first)], narrowed := true }
def RatioBetweenUptoSaid : Prop := ratioBetweenUptoRow.holds Tryz.pinned (OpenSpec.upto ratioBetweenSpec)

/-- 'heijunkalaw03.RatioWrites', WHERE WHAT IT READS IS OF BULK AT MOST 1048576: true; the input reads as it did. -/
def ratioWritesUptoRow : OpenClaim := { program := "yticjhlbmdjijnaagreatdoor", sum := "a19453741b77262826767b3a5210514c3101ab27461de20f4ab0973b05f5139d", func := "heijunka/heijunkalaw03.RatioWrites", spec := "ratioWrites", inPlace := ["internal/bytealg.IndexByteString", "internal/bytealg.IndexString"], unfollowed := true, recurses := true, named := ["math/bits.overflowError", "internal/bytealg.MaxLen", "unicode/utf8.first", "unicode/utf8.acceptRanges"], apart := false, laid := [("unicode/utf8.acceptRanges", laid_unicode_utf8_acceptRanges), ("unicode/utf8.first", laid_unicode_utf8_first)], narrowed := true }
def RatioWritesUptoSaid : Prop := ratioWritesUptoRow.holds Tryz.pinned (OpenSpec.upto ratioWritesSpec)

/-- 'heijunkalaw03.RatioRows', WHERE WHAT IT READS IS OF BULK AT MOST 1048576: true; the input reads as it did. -/
def ratioRowsUptoRow : OpenClaim := { program := "yticjhlbmdjijnaagreatdoor", sum := "a19453741b77262826767b3a5210514c3101ab27461de20f4ab0973b05f5139d", func := "heijunka/heijunkalaw03.RatioRows", spec := "ratioRows", inPlace := ["internal/bytealg.IndexByteString", "internal/bytealg.IndexString"], unfollowed := true, recurses := true, named := ["math/bits.overflowError", "internal/bytealg.MaxLen", "unicode/utf8.first", "unicode/utf8.acceptRanges"], apart := false, laid := [("unicode/utf8.acceptRanges", laid_unicode_utf8_acceptRanges), ("unicode/utf8.first", laid_unicode_utf8_first)], narrowed := true }
def RatioRowsUptoSaid : Prop := ratioRowsUptoRow.holds Tryz.pinned (OpenSpec.upto ratioRowsSpec)

end Rows
end Go.Proofs.YticjhlbmdjijnaaGreatDoor
