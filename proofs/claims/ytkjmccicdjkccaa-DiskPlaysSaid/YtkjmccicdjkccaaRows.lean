/-
  No cell of these rows narrows 'for every input' (looked for: loops, veiled, ifaces, maps, wideKeys, modest, calm, conditions, laid).
  DERIVED. THE GIVEN ROWS OF THIS SEAT. 6 by the template 'for every input the law returns true; each argument reads behind the call as it read before'; 0 by the template 'total and deterministic' (their statements: YtkjmccicdjkccaaTotals.lean).
  GIVEN WITH THE SEED: the statements are not yours to turn. If you find one false, say at which input.
  Laid BY PROGRAM, IN A SANDBOX (cutbox-rows.mjs): the forced cells as the released guide's own fill.sh prints them over the translation f2d14a924eb370c8… (all of the seat's roots in one cut). By AI agents, Wed Nov 11 2026. No macro, syntax, notation, axiom, sorry.
-/
import Derived.Test.YtkjmccicdjkccaaChecked
import GoSem.Claim
import GoSem.ClaimJoined
import GoSem.ClaimMapViews
import Derived.JoinedTies
import Derived.KernelRfl
namespace Go.Proofs.Ytkjmccicdjkccaa
/- THE CELL 'sum', in the pinned program and in every row, IS THE sha256 OF THE DUMP (.gsa) THAT YtkjmccicdjkccaaProg.lean LOADS. Nothing in Lean hashes anything: it is a label: what it is worth is what the hold of that sum in a sandbox is worth. -/
noncomputable def Try.pinned : Pinned := { name := "ytkjmccicdjkccaa", sum := "f2d14a924eb370c883e48a9a910a10857f08b792fbd1880fa33841fadb0c2bda", checked := Try.checked }
namespace Rows
def none {H : Type} : Left H := { results := [], args := [] }

/-- 'heijunkalaw05.DiskSeen': WHATEVER THE INPUT: true; the input reads as it did. -/
def diskSeenSpec : ChangeSpec := { name := "diskSeen", fn := fun _ => fun
  | [d] => { results := [.lit (.bool true)], args := [d] }
  | _ => none }
def diskSeenRow : OpenClaim := { program := "ytkjmccicdjkccaa", sum := "f2d14a924eb370c883e48a9a910a10857f08b792fbd1880fa33841fadb0c2bda", func := "heijunka/heijunkalaw05.DiskSeen", spec := "diskSeen", apart := false }
def DiskSeenSaid : Prop := diskSeenRow.holds Try.pinned (OpenSpec.ofChange diskSeenSpec)

/-- ITS FALSE NEIGHBOUR: 'it returns false'. Refute it at one input. -/
def diskSeenWrong : ChangeSpec := { name := "diskSeen", fn := fun _ => fun
  | [d] => { results := [.lit (.bool false)], args := [d] }
  | _ => none }
def DiskSeenWrongFalsely : Prop := diskSeenRow.holds Try.pinned (OpenSpec.ofChange diskSeenWrong)

/-- 'heijunkalaw05.DiskTorn': WHATEVER THE INPUT: true; the input reads as it did. -/
def diskTornSpec : ChangeSpec := { name := "diskTorn", fn := fun _ => fun
  | [d1, d2, d3] => { results := [.lit (.bool true)], args := [d1, d2, d3] }
  | _ => none }
def diskTornRow : OpenClaim := { program := "ytkjmccicdjkccaa", sum := "f2d14a924eb370c883e48a9a910a10857f08b792fbd1880fa33841fadb0c2bda", func := "heijunka/heijunkalaw05.DiskTorn", spec := "diskTorn", apart := false }
def DiskTornSaid : Prop := diskTornRow.holds Try.pinned (OpenSpec.ofChange diskTornSpec)

/-- ITS FALSE NEIGHBOUR: 'it returns false'. Refute it at one input. -/
def diskTornWrong : ChangeSpec := { name := "diskTorn", fn := fun _ => fun
  | [d1, d2, d3] => { results := [.lit (.bool false)], args := [d1, d2, d3] }
  | _ => none }
def DiskTornWrongFalsely : Prop := diskTornRow.holds Try.pinned (OpenSpec.ofChange diskTornWrong)

/-- 'heijunkalaw05.DiskStops': WHATEVER THE INPUT: true; the input reads as it did. -/
def diskStopsSpec : ChangeSpec := { name := "diskStops", fn := fun _ => fun
  | [d1, d2] => { results := [.lit (.bool true)], args := [d1, d2] }
  | _ => none }
def diskStopsRow : OpenClaim := { program := "ytkjmccicdjkccaa", sum := "f2d14a924eb370c883e48a9a910a10857f08b792fbd1880fa33841fadb0c2bda", func := "heijunka/heijunkalaw05.DiskStops", spec := "diskStops", apart := false }
def DiskStopsSaid : Prop := diskStopsRow.holds Try.pinned (OpenSpec.ofChange diskStopsSpec)

/-- ITS FALSE NEIGHBOUR: 'it returns false'. Refute it at one input. -/
def diskStopsWrong : ChangeSpec := { name := "diskStops", fn := fun _ => fun
  | [d1, d2] => { results := [.lit (.bool false)], args := [d1, d2] }
  | _ => none }
def DiskStopsWrongFalsely : Prop := diskStopsRow.holds Try.pinned (OpenSpec.ofChange diskStopsWrong)

/-- 'heijunkalaw05.DiskStays': WHATEVER THE INPUT: true; the input reads as it did. -/
def diskStaysSpec : ChangeSpec := { name := "diskStays", fn := fun _ => fun
  | [d1, d2, d3] => { results := [.lit (.bool true)], args := [d1, d2, d3] }
  | _ => none }
def diskStaysRow : OpenClaim := { program := "ytkjmccicdjkccaa", sum := "f2d14a924eb370c883e48a9a910a10857f08b792fbd1880fa33841fadb0c2bda", func := "heijunka/heijunkalaw05.DiskStays", spec := "diskStays", apart := false }
def DiskStaysSaid : Prop := diskStaysRow.holds Try.pinned (OpenSpec.ofChange diskStaysSpec)

/-- ITS FALSE NEIGHBOUR: 'it returns false'. Refute it at one input. -/
def diskStaysWrong : ChangeSpec := { name := "diskStays", fn := fun _ => fun
  | [d1, d2, d3] => { results := [.lit (.bool false)], args := [d1, d2, d3] }
  | _ => none }
def DiskStaysWrongFalsely : Prop := diskStaysRow.holds Try.pinned (OpenSpec.ofChange diskStaysWrong)

/-- 'heijunkalaw05.DiskPlays': WHATEVER THE INPUT: true; the input reads as it did. -/
def diskPlaysSpec : ChangeSpec := { name := "diskPlays", fn := fun _ => fun
  | [d1, d2] => { results := [.lit (.bool true)], args := [d1, d2] }
  | _ => none }
def diskPlaysRow : OpenClaim := { program := "ytkjmccicdjkccaa", sum := "f2d14a924eb370c883e48a9a910a10857f08b792fbd1880fa33841fadb0c2bda", func := "heijunka/heijunkalaw05.DiskPlays", spec := "diskPlays", apart := false }
def DiskPlaysSaid : Prop := diskPlaysRow.holds Try.pinned (OpenSpec.ofChange diskPlaysSpec)

/-- ITS FALSE NEIGHBOUR: 'it returns false'. Refute it at one input. -/
def diskPlaysWrong : ChangeSpec := { name := "diskPlays", fn := fun _ => fun
  | [d1, d2] => { results := [.lit (.bool false)], args := [d1, d2] }
  | _ => none }
def DiskPlaysWrongFalsely : Prop := diskPlaysRow.holds Try.pinned (OpenSpec.ofChange diskPlaysWrong)

/-- 'heijunkalaw05.DiskQuiet': WHATEVER THE INPUT: true; the input reads as it did. -/
def diskQuietSpec : ChangeSpec := { name := "diskQuiet", fn := fun _ => fun
  | [d1, d2] => { results := [.lit (.bool true)], args := [d1, d2] }
  | _ => none }
def diskQuietRow : OpenClaim := { program := "ytkjmccicdjkccaa", sum := "f2d14a924eb370c883e48a9a910a10857f08b792fbd1880fa33841fadb0c2bda", func := "heijunka/heijunkalaw05.DiskQuiet", spec := "diskQuiet", apart := false }
def DiskQuietSaid : Prop := diskQuietRow.holds Try.pinned (OpenSpec.ofChange diskQuietSpec)

/-- ITS FALSE NEIGHBOUR: 'it returns false'. Refute it at one input. -/
def diskQuietWrong : ChangeSpec := { name := "diskQuiet", fn := fun _ => fun
  | [d1, d2] => { results := [.lit (.bool false)], args := [d1, d2] }
  | _ => none }
def DiskQuietWrongFalsely : Prop := diskQuietRow.holds Try.pinned (OpenSpec.ofChange diskQuietWrong)

/- THE SECOND FORM. 'bulk': how many values and letters a reading holds, each counted each time it is reached (what is shared counts as often as it is met; a slice's spare places count too). A statement '..UptoSaid' is the law's where the arguments, and the package variables that the reading takes, are together of bulk at most 1048576: NARROWER than '..Said'. Prove '..Said' where nothing that the law and all that it calls make is longer than what came in: it says more and counts as full. Else prove '..UptoSaid'. A law counts once. -/
mutual
def uptoBulk {H : Type} : DataW H → Nat
  | .lit (.string bytes) => bytes.length + 1
  | .lit _ => 1
  | .nil => 1
  | .ptr d => uptoBulk d + 1
  | .slice elems spare => uptoBulkAll elems + uptoBulkAll spare + 1
  | .agg parts => uptoBulkAll parts + 1
  | .iface _ d => uptoBulk d + 1
  | .map entries => uptoBulkEntries entries + 1
  | .held _ => 1
def uptoBulkAll {H : Type} : List (DataW H) → Nat
  | [] => 0
  | d :: r => uptoBulk d + uptoBulkAll r
def uptoBulkEntries {H : Type} : List (Lit × DataW H) → Nat
  | [] => 0
  | x :: r => uptoBulkEntry x + uptoBulkEntries r
def uptoBulkEntry {H : Type} : Lit × DataW H → Nat
  | (.string bytes, d) => bytes.length + uptoBulk d + 1
  | (_, d) => uptoBulk d + 1
 end
def uptoSmall : (H : Type) → List (DataW H) → Bool := fun _ ds => decide (uptoBulkAll ds ≤ 1048576)
def OpenSpec.upto (s : _root_.Go.ChangeSpec) : _root_.Go.OpenSpec := { _root_.Go.OpenSpec.ofChange s with cond := some uptoSmall }

/-- 'heijunkalaw05.DiskSeen', WHERE WHAT IT READS IS OF BULK AT MOST 1048576: true; the input reads as it did. -/
def diskSeenUptoRow : OpenClaim := { program := "ytkjmccicdjkccaa", sum := "f2d14a924eb370c883e48a9a910a10857f08b792fbd1880fa33841fadb0c2bda", func := "heijunka/heijunkalaw05.DiskSeen", spec := "diskSeen", apart := false, narrowed := true }
def DiskSeenUptoSaid : Prop := diskSeenUptoRow.holds Try.pinned (OpenSpec.upto diskSeenSpec)

/-- 'heijunkalaw05.DiskTorn', WHERE WHAT IT READS IS OF BULK AT MOST 1048576: true; the input reads as it did. -/
def diskTornUptoRow : OpenClaim := { program := "ytkjmccicdjkccaa", sum := "f2d14a924eb370c883e48a9a910a10857f08b792fbd1880fa33841fadb0c2bda", func := "heijunka/heijunkalaw05.DiskTorn", spec := "diskTorn", apart := false, narrowed := true }
def DiskTornUptoSaid : Prop := diskTornUptoRow.holds Try.pinned (OpenSpec.upto diskTornSpec)

/-- 'heijunkalaw05.DiskStops', WHERE WHAT IT READS IS OF BULK AT MOST 1048576: true; the input reads as it did. -/
def diskStopsUptoRow : OpenClaim := { program := "ytkjmccicdjkccaa", sum := "f2d14a924eb370c883e48a9a910a10857f08b792fbd1880fa33841fadb0c2bda", func := "heijunka/heijunkalaw05.DiskStops", spec := "diskStops", apart := false, narrowed := true }
def DiskStopsUptoSaid : Prop := diskStopsUptoRow.holds Try.pinned (OpenSpec.upto diskStopsSpec)

/-- 'heijunkalaw05.DiskStays', WHERE WHAT IT READS IS OF BULK AT MOST 1048576: true; the input reads as it did. -/
def diskStaysUptoRow : OpenClaim := { program := "ytkjmccicdjkccaa", sum := "f2d14a924eb370c883e48a9a910a10857f08b792fbd1880fa33841fadb0c2bda", func := "heijunka/heijunkalaw05.DiskStays", spec := "diskStays", apart := false, narrowed := true }
def DiskStaysUptoSaid : Prop := diskStaysUptoRow.holds Try.pinned (OpenSpec.upto diskStaysSpec)

/-- 'heijunkalaw05.DiskPlays', WHERE WHAT IT READS IS OF BULK AT MOST 1048576: true; the input reads as it did. -/
def diskPlaysUptoRow : OpenClaim := { program := "ytkjmccicdjkccaa", sum := "f2d14a924eb370c883e48a9a910a10857f08b792fbd1880fa33841fadb0c2bda", func := "heijunka/heijunkalaw05.DiskPlays", spec := "diskPlays", apart := false, narrowed := true }
def DiskPlaysUptoSaid : Prop := diskPlaysUptoRow.holds Try.pinned (OpenSpec.upto diskPlaysSpec)

/-- 'heijunkalaw05.DiskQuiet', WHERE WHAT IT READS IS OF BULK AT MOST 1048576: true; the input reads as it did. -/
def diskQuietUptoRow : OpenClaim := { program := "ytkjmccicdjkccaa", sum := "f2d14a924eb370c883e48a9a910a10857f08b792fbd1880fa33841fadb0c2bda", func := "heijunka/heijunkalaw05.DiskQuiet", spec := "diskQuiet", apart := false, narrowed := true }
def DiskQuietUptoSaid : Prop := diskQuietUptoRow.holds Try.pinned (OpenSpec.upto diskQuietSpec)

end Rows
end Go.Proofs.Ytkjmccicdjkccaa
