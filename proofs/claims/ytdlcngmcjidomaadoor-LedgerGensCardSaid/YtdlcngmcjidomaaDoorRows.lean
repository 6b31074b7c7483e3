/-
  NARROWER THAN 'FOR EVERY INPUT', by the rows' own cells (each row's printed sentence says how): SegFills: laid · SegTorn: laid · SegKeeps: laid · LedgerMost: laid · LedgerHalves: laid · LedgerGens: laid · LedgerLost: laid.
  DERIVED. THE GIVEN ROWS OF THIS SEAT. 7 by the template 'for every input the law returns true; each argument reads behind the call as it read before'; 0 by the template 'total and deterministic' (their statements: YtdlcngmcjidomaaDoorTotals.lean).
  GIVEN WITH THE SEED: the statements are not yours to turn. If you find one false, say at which input.
  Laid BY PROGRAM, IN A SANDBOX (cutbox-rows.mjs): the forced cells as the released guide's own fill.sh prints them over the translation a9f31410d7e058ef… (all of the seat's roots in one cut). By AI agents, Wed Nov 11 2026. No macro, syntax, notation, axiom, sorry.
-/
import Derived.Test.YtdlcngmcjidomaaDoorChecked
import GoSem.PinnedTables
import GoSem.Claim
import GoSem.ClaimJoined
import GoSem.ClaimMapViews
import Derived.JoinedTies
import Derived.KernelRfl
namespace Go.Proofs.YtdlcngmcjidomaaDoor
/- THE CELL 'sum', in the pinned program and in every row, IS THE sha256 OF THE DUMP (.gsa) THAT YtdlcngmcjidomaaDoorProg.lean LOADS. Nothing in Lean hashes anything: it is a label: what it is worth is what the hold of that sum in a sandbox is worth. -/
noncomputable def Tryd.pinned : Pinned := { name := "ytdlcngmcjidomaadoor", sum := "a9f31410d7e058efbe90b447bd18be0f9facd8c2a9ff7a4f39d11455915bdb6f", checked := Tryd.checked }
namespace Rows
def none {H : Type} : Left H := { results := [], args := [] }

/- WHAT THE LISTED PACKAGE-LEVEL VARIABLES READ AS WHEN THE CALL BEGINS. Each datum BY PROGRAM (the guide's laid-datum.mjs) off the statement by which the dump's own 'gosem.cut.vars' lays the variable. In a bare row this is a premise. The card (YtdlcngmcjidomaaDoorCards.lean) ties it to the program's text. -/
def laid_unicode_utf8_acceptRanges {H : Type} : DataW H := .agg [.agg [.lit (.int .u8 128), .lit (.int .u8 191)], .agg [.lit (.int .u8 160), .lit (.int .u8 191)], .agg [.lit (.int .u8 128), .lit (.int .u8 159)], .agg [.lit (.int .u8 144), .lit (.int .u8 191)], .agg [.lit (.int .u8 128), .lit (.int .u8 143)], .agg [.lit (.int .u8 0), .lit (.int .u8 0)], .agg [.lit (.int .u8 0), .lit (.int .u8 0)], .agg [.lit (.int .u8 0), .lit (.int .u8 0)], .agg [.lit (.int .u8 0), .lit (.int .u8 0)], .agg [.lit (.int .u8 0), .lit (.int .u8 0)], .agg [.lit (.int .u8 0), .lit (.int .u8 0)], .agg [.lit (.int .u8 0), .lit (.int .u8 0)], .agg [.lit (.int .u8 0), .lit (.int .u8 0)], .agg [.lit (.int .u8 0), .lit (.int .u8 0)], .agg [.lit (.int .u8 0), .lit (.int .u8 0)], .agg [.lit (.int .u8 0), .lit (.int .u8 0)]]
/-- One of Go's own tables, pinned by name: the form's constant. -/
def laid_unicode_utf8_first : DataW Unit := Go.Pinned.utf8First

/-- 'heijunkalaw07.SegFills': WHATEVER THE INPUT: true; the input reads as it did. -/
def segFillsSpec : ChangeSpec := { name := "segFills", fn := fun _ => fun
  | [d1, d2] => { results := [.lit (.bool true)], args := [d1, d2] }
  | _ => none }
def segFillsRow : OpenClaim := { program := "ytdlcngmcjidomaadoor", sum := "a9f31410d7e058efbe90b447bd18be0f9facd8c2a9ff7a4f39d11455915bdb6f", func := "heijunka/heijunkalaw07.SegFills", spec := "segFills", unfollowed := true, recurses := true, named := ["unicode/utf8.first", "unicode/utf8.acceptRanges"], apart := false, laid := [("unicode/utf8.acceptRanges", laid_unicode_utf8_acceptRanges), ("unicode/utf8.first", laid_unicode_utf8_first)] }
def SegFillsSaid : Prop := segFillsRow.holds Tryd.pinned (OpenSpec.ofChange segFillsSpec)

/-- ITS FALSE NEIGHBOUR: 'it returns false'. Refute it at one input. -/
def segFillsWrong : ChangeSpec := { name := "segFills", fn := fun _ => fun
  | [d1, d2] => { results := [.lit (.bool false)], args := [d1, d2] }
  | _ => none }
def SegFillsWrongFalsely : Prop := segFillsRow.holds Tryd.pinned (OpenSpec.ofChange segFillsWrong)

/-- 'heijunkalaw07.SegTorn': WHATEVER THE INPUT: true; the input reads as it did. -/
def segTornSpec : ChangeSpec := { name := "segTorn", fn := fun _ => fun
  | [d1, d2] => { results := [.lit (.bool true)], args := [d1, d2] }
  | _ => none }
def segTornRow : OpenClaim := { program := "ytdlcngmcjidomaadoor", sum := "a9f31410d7e058efbe90b447bd18be0f9facd8c2a9ff7a4f39d11455915bdb6f", func := "heijunka/heijunkalaw07.SegTorn", spec := "segTorn", unfollowed := true, recurses := true, named := ["unicode/utf8.first", "unicode/utf8.acceptRanges"], apart := false, laid := [("unicode/utf8.acceptRanges", laid_unicode_utf8_acceptRanges), ("unicode/utf8.first", laid_unicode_utf8_first)] }
def SegTornSaid : Prop := segTornRow.holds Tryd.pinned (OpenSpec.ofChange segTornSpec)

/-- ITS FALSE NEIGHBOUR: 'it returns false'. Refute it at one input. -/
def segTornWrong : ChangeSpec := { name := "segTorn", fn := fun _ => fun
  | [d1, d2] => { results := [.lit (.bool false)], args := [d1, d2] }
  | _ => none }
def SegTornWrongFalsely : Prop := segTornRow.holds Tryd.pinned (OpenSpec.ofChange segTornWrong)

/-- 'heijunkalaw07.SegKeeps': WHATEVER THE INPUT: true; the input reads as it did. -/
def segKeepsSpec : ChangeSpec := { name := "segKeeps", fn := fun _ => fun
  | [d] => { results := [.lit (.bool true)], args := [d] }
  | _ => none }
def segKeepsRow : OpenClaim := { program := "ytdlcngmcjidomaadoor", sum := "a9f31410d7e058efbe90b447bd18be0f9facd8c2a9ff7a4f39d11455915bdb6f", func := "heijunka/heijunkalaw07.SegKeeps", spec := "segKeeps", unfollowed := true, recurses := true, named := ["unicode/utf8.first", "unicode/utf8.acceptRanges"], apart := false, laid := [("unicode/utf8.acceptRanges", laid_unicode_utf8_acceptRanges), ("unicode/utf8.first", laid_unicode_utf8_first)] }
def SegKeepsSaid : Prop := segKeepsRow.holds Tryd.pinned (OpenSpec.ofChange segKeepsSpec)

/-- ITS FALSE NEIGHBOUR: 'it returns false'. Refute it at one input. -/
def segKeepsWrong : ChangeSpec := { name := "segKeeps", fn := fun _ => fun
  | [d] => { results := [.lit (.bool false)], args := [d] }
  | _ => none }
def SegKeepsWrongFalsely : Prop := segKeepsRow.holds Tryd.pinned (OpenSpec.ofChange segKeepsWrong)

/-- 'heijunkalaw09.LedgerMost': WHATEVER THE INPUT: true; the input reads as it did. -/
def ledgerMostSpec : ChangeSpec := { name := "ledgerMost", fn := fun _ => fun
  | [d] => { results := [.lit (.bool true)], args := [d] }
  | _ => none }
def ledgerMostRow : OpenClaim := { program := "ytdlcngmcjidomaadoor", sum := "a9f31410d7e058efbe90b447bd18be0f9facd8c2a9ff7a4f39d11455915bdb6f", func := "heijunka/heijunkalaw09.LedgerMost", spec := "ledgerMost", unfollowed := true, recurses := true, named := ["unicode/utf8.first", "unicode/utf8.acceptRanges"], apart := false, laid := [("unicode/utf8.acceptRanges", laid_unicode_utf8_acceptRanges), ("unicode/utf8.first", laid_unicode_utf8_first)] }
def LedgerMostSaid : Prop := ledgerMostRow.holds Tryd.pinned (OpenSpec.ofChange ledgerMostSpec)

/-- ITS FALSE NEIGHBOUR: 'it returns false'. Refute it at one input. -/
def ledgerMostWrong : ChangeSpec := { name := "ledgerMost", fn := fun _ => fun
  | [d] => { results := [.lit (.bool false)], args := [d] }
  | _ => none }
def LedgerMostWrongFalsely : Prop := ledgerMostRow.holds Tryd.pinned (OpenSpec.ofChange ledgerMostWrong)

/-- 'heijunkalaw09.LedgerHalves': WHATEVER THE INPUT: true; the input reads as it did. -/
def ledgerHalvesSpec : ChangeSpec := { name := "ledgerHalves", fn := fun _ => fun
  | [d] => { results := [.lit (.bool true)], args := [d] }
  | _ => none }
def ledgerHalvesRow : OpenClaim := { program := "ytdlcngmcjidomaadoor", sum := "a9f31410d7e058efbe90b447bd18be0f9facd8c2a9ff7a4f39d11455915bdb6f", func := "heijunka/heijunkalaw09.LedgerHalves", spec := "ledgerHalves", unfollowed := true, recurses := true, named := ["unicode/utf8.first", "unicode/utf8.acceptRanges"], apart := false, laid := [("unicode/utf8.acceptRanges", laid_unicode_utf8_acceptRanges), ("unicode/utf8.first", laid_unicode_utf8_first)] }
def LedgerHalvesSaid : Prop := ledgerHalvesRow.holds Tryd.pinned (OpenSpec.ofChange ledgerHalvesSpec)

/-- ITS FALSE NEIGHBOUR: 'it returns false'. Refute it at one input. -/
def ledgerHalvesWrong : ChangeSpec := { name := "ledgerHalves", fn := fun _ => fun
  | [d] => { results := [.lit (.bool false)], args := [d] }
  | _ => none }
def LedgerHalvesWrongFalsely : Prop := ledgerHalvesRow.holds Tryd.pinned (OpenSpec.ofChange ledgerHalvesWrong)

/-- 'heijunkalaw09.LedgerGens': WHATEVER THE INPUT: true; the input reads as it did. -/
def ledgerGensSpec : ChangeSpec := { name := "ledgerGens", fn := fun _ => fun
  | [d] => { results := [.lit (.bool true)], args := [d] }
  | _ => none }
def ledgerGensRow : OpenClaim := { program := "ytdlcngmcjidomaadoor", sum := "a9f31410d7e058efbe90b447bd18be0f9facd8c2a9ff7a4f39d11455915bdb6f", func := "heijunka/heijunkalaw09.LedgerGens", spec := "ledgerGens", unfollowed := true, recurses := true, named := ["unicode/utf8.first", "unicode/utf8.acceptRanges"], apart := false, laid := [("unicode/utf8.acceptRanges", laid_unicode_utf8_acceptRanges), ("unicode/utf8.first", laid_unicode_utf8_first)] }
def LedgerGensSaid : Prop := ledgerGensRow.holds Tryd.pinned (OpenSpec.ofChange ledgerGensSpec)

/-- ITS FALSE NEIGHBOUR: 'it returns false'. Refute it at one input. -/
def ledgerGensWrong : ChangeSpec := { name := "ledgerGens", fn := fun _ => fun
  | [d] => { results := [.lit (.bool false)], args := [d] }
  | _ => none }
def LedgerGensWrongFalsely : Prop := ledgerGensRow.holds Tryd.pinned (OpenSpec.ofChange ledgerGensWrong)

/-- 'heijunkalaw09.LedgerLost': WHATEVER THE INPUT: true; the input reads as it did. -/
def ledgerLostSpec : ChangeSpec := { name := "ledgerLost", fn := fun _ => fun
  | [d1, d2] => { results := [.lit (.bool true)], args := [d1, d2] }
  | _ => none }
def ledgerLostRow : OpenClaim := { program := "ytdlcngmcjidomaadoor", sum := "a9f31410d7e058efbe90b447bd18be0f9facd8c2a9ff7a4f39d11455915bdb6f", func := "heijunka/heijunkalaw09.LedgerLost", spec := "ledgerLost", unfollowed := true, recurses := true, named := ["unicode/utf8.first", "unicode/utf8.acceptRanges"], apart := false, laid := [("unicode/utf8.acceptRanges", laid_unicode_utf8_acceptRanges), ("unicode/utf8.first", laid_unicode_utf8_first)] }
def LedgerLostSaid : Prop := ledgerLostRow.holds Tryd.pinned (OpenSpec.ofChange ledgerLostSpec)

/-- ITS FALSE NEIGHBOUR: 'it returns false'. Refute it at one input. -/
def ledgerLostWrong : ChangeSpec := { name := "ledgerLost", fn := fun _ => fun
  | [d1, d2] => { results := [.lit (.bool false)], args := [d1, d2] }
  | _ => none }
def LedgerLostWrongFalsely : Prop := ledgerLostRow.holds Tryd.pinned (OpenSpec.ofChange ledgerLostWrong)

/- THE SECOND FORM. 'bulk': how many values and letters a reading holds, each counted each time it is reached (what is shared counts as often as it is met; a slice's spare places count too). A statement '..UptoSaid' is the law's where the arguments, and the package variables that the reading takes, are together of bulk at most 1048576: NARROWER than '..Said'. Prove '..Said' where nothing that the law and all that it calls make is longer than what came in: it says more and counts as full. Else prove '..UptoSaid'. A law counts once. -/
mutual
def uptoBulk {H : Type} : DataW H → Nat
  | .lit (.string bytes) => bytes.length + 1
  | .lit _ => 1
  | .nil => 1
  | .ptr d => uptoBulk d + 1
  | .slice elems spare => uptoBulkAll elems + uptoBulkAll spare + 1
  | .agg parts => uptoBulkAll parts + 1
  | .iface _ d => uptoBulk d + 1
  | .map entries => uptoBulkEntries entries + 1
  | .held _ => 1
def uptoBulkAll {H : Type} : List (DataW H) → Nat
  | [] => 0
  | d :: r => uptoBulk d + uptoBulkAll r
def uptoBulkEntries {H : Type} : List (Lit × DataW H) → Nat
  | [] => 0
  | x :: r => uptoBulkEntry x + uptoBulkEntries r
def uptoBulkEntry {H : Type} : Lit × DataW H → Nat
  | (.string bytes, d) => bytes.length + uptoBulk d + 1
  | (_, d) => uptoBulk d + 1
 end
def uptoSmall : (H : Type) → List (DataW H) → Bool := fun _ ds => decide (uptoBulkAll ds ≤ 1048576)
def OpenSpec.upto (s : _root_.Go.ChangeSpec) : _root_.Go.OpenSpec := { _root_.Go.OpenSpec.ofChange s with cond := some uptoSmall }

/-- 'heijunkalaw07.SegFills', WHERE WHAT IT READS IS OF BULK AT MOST 1048576: true; the input reads as it did. -/
def segFillsUptoRow : OpenClaim := { program := "ytdlcngmcjidomaadoor", sum := "a9f31410d7e058efbe90b447bd18be0f9facd8c2a9ff7a4f39d11455915bdb6f", func := "heijunka/heijunkalaw07.SegFills", spec := "segFills", unfollowed := true, recurses := true, named := ["unicode/utf8.first", "unicode/utf8.acceptRanges"], apart := false, laid := [("unicode/utf8.acceptRanges", laid_unicode_utf8_acceptRanges), ("unicode/utf8.first", laid_unicode_utf8_first)], narrowed := true }
def SegFillsUptoSaid : Prop := segFillsUptoRow.holds Tryd.pinned (OpenSpec.upto segFillsSpec)

/-- 'heijunkalaw07.SegTorn', WHERE WHAT IT READS IS OF BULK AT MOST 1048576: true; the input reads as it did. -/
def segTornUptoRow : OpenClaim := { program := "ytdlcngmcjidomaadoor", sum := "a9f31410d7e058efbe90b447bd18be0f9facd8c2a9ff7a4f39d11455915bdb6f", func := "heijunka/heijunkalaw07.SegTorn", spec := "segTorn", unfollowed := true, recurses := true, named := ["unicode/utf8.first", "unicode/utf8.acceptRanges"], apart := false, laid := [("unicode/utf8.acceptRanges", laid_unicode_utf8_acceptRanges), ("unicode/utf8.first", laid_unicode_utf8_first)], narrowed := true }
def SegTornUptoSaid : Prop := segTornUptoRow.holds Tryd.pinned (OpenSpec.upto segTornSpec)

/-- 'heijunkalaw07.SegKeeps', WHERE WHAT IT READS IS OF BULK AT MOST 1048576: true; the input reads as it did. -/
def segKeepsUptoRow : OpenClaim := { program := "ytdlcngmcjidomaadoor", sum := "a9f31410d7e058efbe90b447bd18be0f9facd8c2a9ff7a4f39d11455915bdb6f", func := "heijunka/heijunkalaw07.SegKeeps", spec := "segKeeps", unfollowed := true, recurses := true, named := ["unicode/utf8.first", "unicode/utf8.acceptRanges"], apart := false, laid := [("unicode/utf8.acceptRanges", laid_unicode_utf8_acceptRanges), ("unicode/utf8.first", laid_unicode_utf8_first)], narrowed := true }
def SegKeepsUptoSaid : Prop := segKeepsUptoRow.holds Tryd.pinned (OpenSpec.upto segKeepsSpec)

/-- 'heijunkalaw09.LedgerMost', WHERE WHAT IT READS IS OF BULK AT MOST 1048576: true; the input reads as it did. -/
def ledgerMostUptoRow : OpenClaim := { program := "ytdlcngmcjidomaadoor", sum := "a9f31410d7e058efbe90b447bd18be0f9facd8c2a9ff7a4f39d11455915bdb6f", func := "heijunka/heijunkalaw09.LedgerMost", spec := "ledgerMost", unfollowed := true, recurses := true, named := ["unicode/utf8.first", "unicode/utf8.acceptRanges"], apart := false, laid := [("unicode/utf8.acceptRanges", laid_unicode_utf8_acceptRanges), ("unicode/utf8.first", laid_unicode_utf8_first)], narrowed := true }
def LedgerMostUptoSaid : Prop := ledgerMostUptoRow.holds Tryd.pinned (OpenSpec.upto ledgerMostSpec)

/-- 'heijunkalaw09.LedgerHalves', WHERE WHAT IT READS IS OF BULK AT MOST 1048576: true; the input reads as it did. -/
def ledgerHalvesUptoRow : OpenClaim := { program := "ytdlcngmcjidomaadoor", sum := "a9f31410d7e058efbe90b447bd18be0f9facd8c2a9ff7a4f39d11455915bdb6f", func := "heijunka/heijunkalaw09.LedgerHalves", spec := "ledgerHalves", unfollowed := true, recurses := true, named := ["unicode/utf8.first", "unicode/utf8.acceptRanges"], apart := false, laid := [("unicode/utf8.acceptRanges", laid_unicode_utf8_acceptRanges), ("unicode/utf8.first", laid_unicode_utf8_first)], narrowed := true }
def LedgerHalvesUptoSaid : Prop := ledgerHalvesUptoRow.holds Tryd.pinned (OpenSpec.upto ledgerHalvesSpec)

/-- 'heijunkalaw09.LedgerGens', WHERE WHAT IT READS IS OF BULK AT MOST 1048576: true; the input reads as it did. -/
def ledgerGensUptoRow : OpenClaim := { program := "ytdlcngmcjidomaadoor", sum := "a9f31410d7e058efbe90b447bd18be0f9facd8c2a9ff7a4f39d11455915bdb6f", func := "heijunka/heijunkalaw09.LedgerGens", spec := "ledgerGens", unfollowed := true, recurses := true, named := ["unicode/utf8.first", "unicode/utf8.acceptRanges"], apart := false, laid := [("unicode/utf8.acceptRanges", laid_unicode_utf8_acceptRanges), ("unicode/utf8.first", laid_unicode_utf8_first)], narrowed := true }
def LedgerGensUptoSaid : Prop := ledgerGensUptoRow.holds Tryd.pinned (OpenSpec.upto ledgerGensSpec)

/-- 'heijunkalaw09.LedgerLost', WHERE WHAT IT READS IS OF BULK AT MOST 1048576: true; the input reads as it did. -/
def ledgerLostUptoRow : OpenClaim := { program := "ytdlcngmcjidomaadoor", sum := "a9f31410d7e058efbe90b447bd18be0f9facd8c2a9ff7a4f39d11455915bdb6f", func := "heijunka/heijunkalaw09.LedgerLost", spec := "ledgerLost", unfollowed := true, recurses := true, named := ["unicode/utf8.first", "unicode/utf8.acceptRanges"], apart := false, laid := [("unicode/utf8.acceptRanges", laid_unicode_utf8_acceptRanges), ("unicode/utf8.first", laid_unicode_utf8_first)], narrowed := true }
def LedgerLostUptoSaid : Prop := ledgerLostUptoRow.holds Tryd.pinned (OpenSpec.upto ledgerLostSpec)

end Rows
end Go.Proofs.YtdlcngmcjidomaaDoor
