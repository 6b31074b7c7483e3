/-
  DERIVED. GIVEN WITH THE SEED: THE CARDS: each row of YtodgchflhimjfaaDoorRows.lean that lists a variable, with what it lists TIED to the program's text (the seventh form; the later family's looks); each row that meets fmt, with fmt's text TOLD by the authors' own Lean function (tested against real Go, not proved from fmt's source: count such statements apart). THE CARD IS WHAT COUNTS. Prove the row's statement (the work); the ties are given (YtodgchflhimjfaaDoorTie.lean); close each card by the builder's one call (the guide's Derived/Test/ToyasCard.lean, 'card_holds'). Laid BY PROGRAM, IN A SANDBOX (cutbox-door.mjs). By AI agents, Wed Nov 11 2026. No macro, syntax, notation, axiom, sorry.
-/
import Derived.Test.YtodgchflhimjfaaDoorRows
import GoSem.ClaimSeven
namespace Go.Proofs.YtodgchflhimjfaaDoor
namespace Rows

/-- THE TIED CARD OF 'heijunkalaw02.WholeReckons'. -/
def wholeReckonsCard : Claim7 := { stood := { row := wholeReckonsRow, standIns := [], harness := (true, "2bbe56de81d037d1e375e5935c81305ea2734f5f773343996ed12ef6d7e46f0d"), looks := false }, kinds := [], alts := [], laidByText := true, laidKinds := [.data, .pinned], laidTests := true, laidLooks := .later }
def WholeReckonsCardSaid : Prop := Claim7.holds Tryd.pinned (.plain (OpenSpec.ofChange wholeReckonsSpec)) wholeReckonsCard

/-- THE TIED CARD OF 'heijunkalaw02.WholeSmall'. -/
def wholeSmallCard : Claim7 := { stood := { row := wholeSmallRow, standIns := [], harness := (true, "2bbe56de81d037d1e375e5935c81305ea2734f5f773343996ed12ef6d7e46f0d"), looks := false }, kinds := [], alts := [], laidByText := true, laidKinds := [.data, .pinned], laidTests := true, laidLooks := .later }
def WholeSmallCardSaid : Prop := Claim7.holds Tryd.pinned (.plain (OpenSpec.ofChange wholeSmallSpec)) wholeSmallCard

/-- THE TIED CARD OF 'heijunkalaw02.WholeSigns'. -/
def wholeSignsCard : Claim7 := { stood := { row := wholeSignsRow, standIns := [], harness := (true, "2bbe56de81d037d1e375e5935c81305ea2734f5f773343996ed12ef6d7e46f0d"), looks := false }, kinds := [], alts := [], laidByText := true, laidKinds := [.data, .pinned], laidTests := true, laidLooks := .later }
def WholeSignsCardSaid : Prop := Claim7.holds Tryd.pinned (.plain (OpenSpec.ofChange wholeSignsSpec)) wholeSignsCard

/-- THE TIED CARD OF 'heijunkalaw02.WholeOrder'. -/
def wholeOrderCard : Claim7 := { stood := { row := wholeOrderRow, standIns := [], harness := (true, "2bbe56de81d037d1e375e5935c81305ea2734f5f773343996ed12ef6d7e46f0d"), looks := false }, kinds := [], alts := [], laidByText := true, laidKinds := [.data, .pinned], laidTests := true, laidLooks := .later }
def WholeOrderCardSaid : Prop := Claim7.holds Tryd.pinned (.plain (OpenSpec.ofChange wholeOrderSpec)) wholeOrderCard

/-- THE TIED CARD OF 'heijunkalaw02.WholeNumbers'. -/
def wholeNumbersCard : Claim7 := { stood := { row := wholeNumbersRow, standIns := [], harness := (true, "2bbe56de81d037d1e375e5935c81305ea2734f5f773343996ed12ef6d7e46f0d"), looks := false }, kinds := [], alts := [], laidByText := true, laidKinds := [.data, .pinned], laidTests := true, laidLooks := .later }
def WholeNumbersCardSaid : Prop := Claim7.holds Tryd.pinned (.plain (OpenSpec.ofChange wholeNumbersSpec)) wholeNumbersCard

/-- THE TIED CARD OF 'heijunkalaw02.WholeWrites'. -/
def wholeWritesCard : Claim7 := { stood := { row := wholeWritesRow, standIns := [], harness := (true, "2bbe56de81d037d1e375e5935c81305ea2734f5f773343996ed12ef6d7e46f0d"), looks := false }, kinds := [], alts := [], laidByText := true, laidKinds := [.data, .pinned], laidTests := true, laidLooks := .later }
def WholeWritesCardSaid : Prop := Claim7.holds Tryd.pinned (.plain (OpenSpec.ofChange wholeWritesSpec)) wholeWritesCard

/-- THE TIED CARD OF 'heijunkalaw02.WholeBytes'. -/
def wholeBytesCard : Claim7 := { stood := { row := wholeBytesRow, standIns := [], harness := (true, "2bbe56de81d037d1e375e5935c81305ea2734f5f773343996ed12ef6d7e46f0d"), looks := false }, kinds := [], alts := [], laidByText := true, laidKinds := [.data, .pinned], laidTests := true, laidLooks := .later }
def WholeBytesCardSaid : Prop := Claim7.holds Tryd.pinned (.plain (OpenSpec.ofChange wholeBytesSpec)) wholeBytesCard

/-- THE SECOND FORM's CARD OF 'heijunkalaw02.WholeReckons'. -/
def wholeReckonsUptoCard : Claim7 := { stood := { row := wholeReckonsUptoRow, standIns := [], harness := (true, "2bbe56de81d037d1e375e5935c81305ea2734f5f773343996ed12ef6d7e46f0d"), looks := false }, kinds := [], alts := [], laidByText := true, laidKinds := [.data, .pinned], laidTests := true, laidLooks := .later }
def WholeReckonsUptoCardSaid : Prop := Claim7.holds Tryd.pinned (.plain (OpenSpec.upto wholeReckonsSpec)) wholeReckonsUptoCard

/-- THE SECOND FORM's CARD OF 'heijunkalaw02.WholeSmall'. -/
def wholeSmallUptoCard : Claim7 := { stood := { row := wholeSmallUptoRow, standIns := [], harness := (true, "2bbe56de81d037d1e375e5935c81305ea2734f5f773343996ed12ef6d7e46f0d"), looks := false }, kinds := [], alts := [], laidByText := true, laidKinds := [.data, .pinned], laidTests := true, laidLooks := .later }
def WholeSmallUptoCardSaid : Prop := Claim7.holds Tryd.pinned (.plain (OpenSpec.upto wholeSmallSpec)) wholeSmallUptoCard

/-- THE SECOND FORM's CARD OF 'heijunkalaw02.WholeSigns'. -/
def wholeSignsUptoCard : Claim7 := { stood := { row := wholeSignsUptoRow, standIns := [], harness := (true, "2bbe56de81d037d1e375e5935c81305ea2734f5f773343996ed12ef6d7e46f0d"), looks := false }, kinds := [], alts := [], laidByText := true, laidKinds := [.data, .pinned], laidTests := true, laidLooks := .later }
def WholeSignsUptoCardSaid : Prop := Claim7.holds Tryd.pinned (.plain (OpenSpec.upto wholeSignsSpec)) wholeSignsUptoCard

/-- THE SECOND FORM's CARD OF 'heijunkalaw02.WholeOrder'. -/
def wholeOrderUptoCard : Claim7 := { stood := { row := wholeOrderUptoRow, standIns := [], harness := (true, "2bbe56de81d037d1e375e5935c81305ea2734f5f773343996ed12ef6d7e46f0d"), looks := false }, kinds := [], alts := [], laidByText := true, laidKinds := [.data, .pinned], laidTests := true, laidLooks := .later }
def WholeOrderUptoCardSaid : Prop := Claim7.holds Tryd.pinned (.plain (OpenSpec.upto wholeOrderSpec)) wholeOrderUptoCard

/-- THE SECOND FORM's CARD OF 'heijunkalaw02.WholeNumbers'. -/
def wholeNumbersUptoCard : Claim7 := { stood := { row := wholeNumbersUptoRow, standIns := [], harness := (true, "2bbe56de81d037d1e375e5935c81305ea2734f5f773343996ed12ef6d7e46f0d"), looks := false }, kinds := [], alts := [], laidByText := true, laidKinds := [.data, .pinned], laidTests := true, laidLooks := .later }
def WholeNumbersUptoCardSaid : Prop := Claim7.holds Tryd.pinned (.plain (OpenSpec.upto wholeNumbersSpec)) wholeNumbersUptoCard

/-- THE SECOND FORM's CARD OF 'heijunkalaw02.WholeWrites'. -/
def wholeWritesUptoCard : Claim7 := { stood := { row := wholeWritesUptoRow, standIns := [], harness := (true, "2bbe56de81d037d1e375e5935c81305ea2734f5f773343996ed12ef6d7e46f0d"), looks := false }, kinds := [], alts := [], laidByText := true, laidKinds := [.data, .pinned], laidTests := true, laidLooks := .later }
def WholeWritesUptoCardSaid : Prop := Claim7.holds Tryd.pinned (.plain (OpenSpec.upto wholeWritesSpec)) wholeWritesUptoCard

/-- THE SECOND FORM's CARD OF 'heijunkalaw02.WholeBytes'. -/
def wholeBytesUptoCard : Claim7 := { stood := { row := wholeBytesUptoRow, standIns := [], harness := (true, "2bbe56de81d037d1e375e5935c81305ea2734f5f773343996ed12ef6d7e46f0d"), looks := false }, kinds := [], alts := [], laidByText := true, laidKinds := [.data, .pinned], laidTests := true, laidLooks := .later }
def WholeBytesUptoCardSaid : Prop := Claim7.holds Tryd.pinned (.plain (OpenSpec.upto wholeBytesSpec)) wholeBytesUptoCard
end Rows
end Go.Proofs.YtodgchflhimjfaaDoor
