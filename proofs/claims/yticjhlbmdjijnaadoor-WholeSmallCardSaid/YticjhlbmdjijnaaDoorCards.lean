/-
  DERIVED. GIVEN WITH THE SEED: THE CARDS: each row of YticjhlbmdjijnaaDoorRows.lean that lists a variable, with what it lists TIED to the program's text (the seventh form; the later family's looks); each row that meets fmt, with fmt's text TOLD by the authors' own Lean function (tested against real Go, not proved from fmt's source: count such statements apart). THE CARD IS WHAT COUNTS. Prove the row's statement (the work); the ties are given (YticjhlbmdjijnaaDoorTie.lean); close each card by the builder's one call (the guide's Derived/Test/ToyasCard.lean, 'card_holds'). Laid BY PROGRAM, IN A SANDBOX (cutbox-door.mjs). By AI agents, Wed Nov 11 2026. No macro, syntax, notation, axiom, sorry.
-/
import Derived.Test.YticjhlbmdjijnaaDoorRows
import GoSem.ClaimSeven
namespace Go.Proofs.YticjhlbmdjijnaaDoor
namespace Rows

/-- THE TIED CARD OF 'heijunkalaw02.WholeSmall'. -/
def wholeSmallCard : Claim7 := { stood := { row := wholeSmallRow, standIns := [], harness := (true, "42daaa258994651ca92c65c3b87585e2306365fa1b991454628cb42dfd7cf21e"), looks := false }, kinds := [], alts := [], laidByText := true, laidKinds := [.data, .pinned], laidTests := true, laidLooks := .later }
def WholeSmallCardSaid : Prop := Claim7.holds Tryd.pinned (.plain (OpenSpec.ofChange wholeSmallSpec)) wholeSmallCard

/-- THE SECOND FORM's CARD OF 'heijunkalaw02.WholeSmall'. -/
def wholeSmallUptoCard : Claim7 := { stood := { row := wholeSmallUptoRow, standIns := [], harness := (true, "42daaa258994651ca92c65c3b87585e2306365fa1b991454628cb42dfd7cf21e"), looks := false }, kinds := [], alts := [], laidByText := true, laidKinds := [.data, .pinned], laidTests := true, laidLooks := .later }
def WholeSmallUptoCardSaid : Prop := Claim7.holds Tryd.pinned (.plain (OpenSpec.upto wholeSmallSpec)) wholeSmallUptoCard
end Rows
end Go.Proofs.YticjhlbmdjijnaaDoor
