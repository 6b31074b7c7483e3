/-
  DERIVED. GIVEN WITH THE SEED: THE CARDS: each row of YtfoeapjlklfjgaaDoorRows.lean that lists a variable, with what it lists TIED to the program's text (the seventh form; the later family's looks); each row that meets fmt, with fmt's text TOLD by the authors' own Lean function (tested against real Go, not proved from fmt's source: count such statements apart). THE CARD IS WHAT COUNTS. Prove the row's statement (the work); the ties are given (YtfoeapjlklfjgaaDoorTie.lean); close each card by the builder's one call (the guide's Derived/Test/ToyasCard.lean, 'card_holds'). Laid BY PROGRAM, IN A SANDBOX (cutbox-door.mjs). By AI agents, Wed Nov 11 2026. No macro, syntax, notation, axiom, sorry.
-/
import Derived.Test.YtfoeapjlklfjgaaDoorRows
import GoSem.ClaimSeven
namespace Go.Proofs.YtfoeapjlklfjgaaDoor
namespace Rows

/-- THE TIED CARD OF 'heijunkalaw06.CellCodes'. -/
def cellCodesCard : Claim7 := { stood := { row := cellCodesRow, standIns := [], harness := (true, "21d5d5ae8a876f93d756d75c3c57f67dd610f1eba9f57c83dc6b7248bc7787d7"), looks := false }, kinds := [], alts := [], laidByText := true, laidKinds := [.data, .pinned], laidTests := true, laidLooks := .later }
def CellCodesCardSaid : Prop := Claim7.holds Tryd.pinned (.plain (OpenSpec.ofChange cellCodesSpec)) cellCodesCard

/-- THE TIED CARD OF 'heijunkalaw06.CellSplits'. -/
def cellSplitsCard : Claim7 := { stood := { row := cellSplitsRow, standIns := [], harness := (true, "21d5d5ae8a876f93d756d75c3c57f67dd610f1eba9f57c83dc6b7248bc7787d7"), looks := false }, kinds := [], alts := [], laidByText := true, laidKinds := [.data, .pinned], laidTests := true, laidLooks := .later }
def CellSplitsCardSaid : Prop := Claim7.holds Tryd.pinned (.plain (OpenSpec.ofChange cellSplitsSpec)) cellSplitsCard

/-- THE TIED CARD OF 'heijunkalaw06.CellApart'. -/
def cellApartCard : Claim7 := { stood := { row := cellApartRow, standIns := [], harness := (true, "21d5d5ae8a876f93d756d75c3c57f67dd610f1eba9f57c83dc6b7248bc7787d7"), looks := false }, kinds := [], alts := [], laidByText := true, laidKinds := [.data, .pinned], laidTests := true, laidLooks := .later }
def CellApartCardSaid : Prop := Claim7.holds Tryd.pinned (.plain (OpenSpec.ofChange cellApartSpec)) cellApartCard

/-- THE TIED CARD OF 'heijunkalaw06.CellTurned'. -/
def cellTurnedCard : Claim7 := { stood := { row := cellTurnedRow, standIns := [], harness := (true, "21d5d5ae8a876f93d756d75c3c57f67dd610f1eba9f57c83dc6b7248bc7787d7"), looks := false }, kinds := [], alts := [], laidByText := true, laidKinds := [.data, .pinned], laidTests := true, laidLooks := .later }
def CellTurnedCardSaid : Prop := Claim7.holds Tryd.pinned (.plain (OpenSpec.ofChange cellTurnedSpec)) cellTurnedCard

/-- THE TIED CARD OF 'heijunkalaw06.CellNeeds'. -/
def cellNeedsCard : Claim7 := { stood := { row := cellNeedsRow, standIns := [], harness := (true, "21d5d5ae8a876f93d756d75c3c57f67dd610f1eba9f57c83dc6b7248bc7787d7"), looks := false }, kinds := [], alts := [], laidByText := true, laidKinds := [.data, .pinned], laidTests := true, laidLooks := .later }
def CellNeedsCardSaid : Prop := Claim7.holds Tryd.pinned (.plain (OpenSpec.ofChange cellNeedsSpec)) cellNeedsCard

/-- THE TIED CARD OF 'heijunkalaw06.CellOrder'. -/
def cellOrderCard : Claim7 := { stood := { row := cellOrderRow, standIns := [], harness := (true, "21d5d5ae8a876f93d756d75c3c57f67dd610f1eba9f57c83dc6b7248bc7787d7"), looks := false }, kinds := [], alts := [], laidByText := true, laidKinds := [.data, .pinned], laidTests := true, laidLooks := .later }
def CellOrderCardSaid : Prop := Claim7.holds Tryd.pinned (.plain (OpenSpec.ofChange cellOrderSpec)) cellOrderCard

/-- THE TIED CARD OF 'heijunkalaw06.CellLast'. -/
def cellLastCard : Claim7 := { stood := { row := cellLastRow, standIns := [], harness := (true, "21d5d5ae8a876f93d756d75c3c57f67dd610f1eba9f57c83dc6b7248bc7787d7"), looks := false }, kinds := [], alts := [], laidByText := true, laidKinds := [.data, .pinned], laidTests := true, laidLooks := .later }
def CellLastCardSaid : Prop := Claim7.holds Tryd.pinned (.plain (OpenSpec.ofChange cellLastSpec)) cellLastCard

/-- THE TIED CARD OF 'heijunkalaw08.RootSlots'. -/
def rootSlotsCard : Claim7 := { stood := { row := rootSlotsRow, standIns := [], harness := (true, "21d5d5ae8a876f93d756d75c3c57f67dd610f1eba9f57c83dc6b7248bc7787d7"), looks := false }, kinds := [], alts := [], laidByText := true, laidKinds := [.data, .pinned], laidTests := true, laidLooks := .later }
def RootSlotsCardSaid : Prop := Claim7.holds Tryd.pinned (.plain (OpenSpec.ofChange rootSlotsSpec)) rootSlotsCard

/-- THE TIED CARD OF 'heijunkalaw08.RootOnly'. -/
def rootOnlyCard : Claim7 := { stood := { row := rootOnlyRow, standIns := [], harness := (true, "21d5d5ae8a876f93d756d75c3c57f67dd610f1eba9f57c83dc6b7248bc7787d7"), looks := false }, kinds := [], alts := [], laidByText := true, laidKinds := [.data, .pinned], laidTests := true, laidLooks := .later }
def RootOnlyCardSaid : Prop := Claim7.holds Tryd.pinned (.plain (OpenSpec.ofChange rootOnlySpec)) rootOnlyCard

/-- THE TIED CARD OF 'heijunkalaw08.RootFlips'. -/
def rootFlipsCard : Claim7 := { stood := { row := rootFlipsRow, standIns := [], harness := (true, "21d5d5ae8a876f93d756d75c3c57f67dd610f1eba9f57c83dc6b7248bc7787d7"), looks := false }, kinds := [], alts := [], laidByText := true, laidKinds := [.data, .pinned], laidTests := true, laidLooks := .later }
def RootFlipsCardSaid : Prop := Claim7.holds Tryd.pinned (.plain (OpenSpec.ofChange rootFlipsSpec)) rootFlipsCard

/-- THE TIED CARD OF 'heijunkalaw08.RootQuiet'. -/
def rootQuietCard : Claim7 := { stood := { row := rootQuietRow, standIns := [], harness := (true, "21d5d5ae8a876f93d756d75c3c57f67dd610f1eba9f57c83dc6b7248bc7787d7"), looks := false }, kinds := [], alts := [], laidByText := true, laidKinds := [.data, .pinned], laidTests := true, laidLooks := .later }
def RootQuietCardSaid : Prop := Claim7.holds Tryd.pinned (.plain (OpenSpec.ofChange rootQuietSpec)) rootQuietCard

/-- THE TIED CARD OF 'heijunkalaw08.RootPlays'. -/
def rootPlaysCard : Claim7 := { stood := { row := rootPlaysRow, standIns := [], harness := (true, "21d5d5ae8a876f93d756d75c3c57f67dd610f1eba9f57c83dc6b7248bc7787d7"), looks := false }, kinds := [], alts := [], laidByText := true, laidKinds := [.data, .pinned], laidTests := true, laidLooks := .later }
def RootPlaysCardSaid : Prop := Claim7.holds Tryd.pinned (.plain (OpenSpec.ofChange rootPlaysSpec)) rootPlaysCard

/-- THE SECOND FORM's CARD OF 'heijunkalaw06.CellCodes'. -/
def cellCodesUptoCard : Claim7 := { stood := { row := cellCodesUptoRow, standIns := [], harness := (true, "21d5d5ae8a876f93d756d75c3c57f67dd610f1eba9f57c83dc6b7248bc7787d7"), looks := false }, kinds := [], alts := [], laidByText := true, laidKinds := [.data, .pinned], laidTests := true, laidLooks := .later }
def CellCodesUptoCardSaid : Prop := Claim7.holds Tryd.pinned (.plain (OpenSpec.upto cellCodesSpec)) cellCodesUptoCard

/-- THE SECOND FORM's CARD OF 'heijunkalaw06.CellSplits'. -/
def cellSplitsUptoCard : Claim7 := { stood := { row := cellSplitsUptoRow, standIns := [], harness := (true, "21d5d5ae8a876f93d756d75c3c57f67dd610f1eba9f57c83dc6b7248bc7787d7"), looks := false }, kinds := [], alts := [], laidByText := true, laidKinds := [.data, .pinned], laidTests := true, laidLooks := .later }
def CellSplitsUptoCardSaid : Prop := Claim7.holds Tryd.pinned (.plain (OpenSpec.upto cellSplitsSpec)) cellSplitsUptoCard

/-- THE SECOND FORM's CARD OF 'heijunkalaw06.CellApart'. -/
def cellApartUptoCard : Claim7 := { stood := { row := cellApartUptoRow, standIns := [], harness := (true, "21d5d5ae8a876f93d756d75c3c57f67dd610f1eba9f57c83dc6b7248bc7787d7"), looks := false }, kinds := [], alts := [], laidByText := true, laidKinds := [.data, .pinned], laidTests := true, laidLooks := .later }
def CellApartUptoCardSaid : Prop := Claim7.holds Tryd.pinned (.plain (OpenSpec.upto cellApartSpec)) cellApartUptoCard

/-- THE SECOND FORM's CARD OF 'heijunkalaw06.CellTurned'. -/
def cellTurnedUptoCard : Claim7 := { stood := { row := cellTurnedUptoRow, standIns := [], harness := (true, "21d5d5ae8a876f93d756d75c3c57f67dd610f1eba9f57c83dc6b7248bc7787d7"), looks := false }, kinds := [], alts := [], laidByText := true, laidKinds := [.data, .pinned], laidTests := true, laidLooks := .later }
def CellTurnedUptoCardSaid : Prop := Claim7.holds Tryd.pinned (.plain (OpenSpec.upto cellTurnedSpec)) cellTurnedUptoCard

/-- THE SECOND FORM's CARD OF 'heijunkalaw06.CellNeeds'. -/
def cellNeedsUptoCard : Claim7 := { stood := { row := cellNeedsUptoRow, standIns := [], harness := (true, "21d5d5ae8a876f93d756d75c3c57f67dd610f1eba9f57c83dc6b7248bc7787d7"), looks := false }, kinds := [], alts := [], laidByText := true, laidKinds := [.data, .pinned], laidTests := true, laidLooks := .later }
def CellNeedsUptoCardSaid : Prop := Claim7.holds Tryd.pinned (.plain (OpenSpec.upto cellNeedsSpec)) cellNeedsUptoCard

/-- THE SECOND FORM's CARD OF 'heijunkalaw06.CellOrder'. -/
def cellOrderUptoCard : Claim7 := { stood := { row := cellOrderUptoRow, standIns := [], harness := (true, "21d5d5ae8a876f93d756d75c3c57f67dd610f1eba9f57c83dc6b7248bc7787d7"), looks := false }, kinds := [], alts := [], laidByText := true, laidKinds := [.data, .pinned], laidTests := true, laidLooks := .later }
def CellOrderUptoCardSaid : Prop := Claim7.holds Tryd.pinned (.plain (OpenSpec.upto cellOrderSpec)) cellOrderUptoCard

/-- THE SECOND FORM's CARD OF 'heijunkalaw06.CellLast'. -/
def cellLastUptoCard : Claim7 := { stood := { row := cellLastUptoRow, standIns := [], harness := (true, "21d5d5ae8a876f93d756d75c3c57f67dd610f1eba9f57c83dc6b7248bc7787d7"), looks := false }, kinds := [], alts := [], laidByText := true, laidKinds := [.data, .pinned], laidTests := true, laidLooks := .later }
def CellLastUptoCardSaid : Prop := Claim7.holds Tryd.pinned (.plain (OpenSpec.upto cellLastSpec)) cellLastUptoCard

/-- THE SECOND FORM's CARD OF 'heijunkalaw08.RootSlots'. -/
def rootSlotsUptoCard : Claim7 := { stood := { row := rootSlotsUptoRow, standIns := [], harness := (true, "21d5d5ae8a876f93d756d75c3c57f67dd610f1eba9f57c83dc6b7248bc7787d7"), looks := false }, kinds := [], alts := [], laidByText := true, laidKinds := [.data, .pinned], laidTests := true, laidLooks := .later }
def RootSlotsUptoCardSaid : Prop := Claim7.holds Tryd.pinned (.plain (OpenSpec.upto rootSlotsSpec)) rootSlotsUptoCard

/-- THE SECOND FORM's CARD OF 'heijunkalaw08.RootOnly'. -/
def rootOnlyUptoCard : Claim7 := { stood := { row := rootOnlyUptoRow, standIns := [], harness := (true, "21d5d5ae8a876f93d756d75c3c57f67dd610f1eba9f57c83dc6b7248bc7787d7"), looks := false }, kinds := [], alts := [], laidByText := true, laidKinds := [.data, .pinned], laidTests := true, laidLooks := .later }
def RootOnlyUptoCardSaid : Prop := Claim7.holds Tryd.pinned (.plain (OpenSpec.upto rootOnlySpec)) rootOnlyUptoCard

/-- THE SECOND FORM's CARD OF 'heijunkalaw08.RootFlips'. -/
def rootFlipsUptoCard : Claim7 := { stood := { row := rootFlipsUptoRow, standIns := [], harness := (true, "21d5d5ae8a876f93d756d75c3c57f67dd610f1eba9f57c83dc6b7248bc7787d7"), looks := false }, kinds := [], alts := [], laidByText := true, laidKinds := [.data, .pinned], laidTests := true, laidLooks := .later }
def RootFlipsUptoCardSaid : Prop := Claim7.holds Tryd.pinned (.plain (OpenSpec.upto rootFlipsSpec)) rootFlipsUptoCard

/-- THE SECOND FORM's CARD OF 'heijunkalaw08.RootQuiet'. -/
def rootQuietUptoCard : Claim7 := { stood := { row := rootQuietUptoRow, standIns := [], harness := (true, "21d5d5ae8a876f93d756d75c3c57f67dd610f1eba9f57c83dc6b7248bc7787d7"), looks := false }, kinds := [], alts := [], laidByText := true, laidKinds := [.data, .pinned], laidTests := true, laidLooks := .later }
def RootQuietUptoCardSaid : Prop := Claim7.holds Tryd.pinned (.plain (OpenSpec.upto rootQuietSpec)) rootQuietUptoCard

/-- THE SECOND FORM's CARD OF 'heijunkalaw08.RootPlays'. -/
def rootPlaysUptoCard : Claim7 := { stood := { row := rootPlaysUptoRow, standIns := [], harness := (true, "21d5d5ae8a876f93d756d75c3c57f67dd610f1eba9f57c83dc6b7248bc7787d7"), looks := false }, kinds := [], alts := [], laidByText := true, laidKinds := [.data, .pinned], laidTests := true, laidLooks := .later }
def RootPlaysUptoCardSaid : Prop := Claim7.holds Tryd.pinned (.plain (OpenSpec.upto rootPlaysSpec)) rootPlaysUptoCard
end Rows
end Go.Proofs.YtfoeapjlklfjgaaDoor
