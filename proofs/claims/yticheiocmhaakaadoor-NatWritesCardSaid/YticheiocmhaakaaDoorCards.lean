/-
  DERIVED. GIVEN WITH THE SEED: THE CARDS: each row of YticheiocmhaakaaDoorRows.lean that lists a variable, with what it lists TIED to the program's text (the seventh form; the later family's looks); each row that meets fmt, with fmt's text TOLD by the authors' own Lean function (tested against real Go, not proved from fmt's source: count such statements apart). THE CARD IS WHAT COUNTS. Prove the row's statement (the work); the ties are given (YticheiocmhaakaaDoorTie.lean); close each card by the builder's one call (the guide's Derived/Test/ToyasCard.lean, 'card_holds'). Laid BY PROGRAM, IN A SANDBOX (cutbox-door.mjs). By AI agents, Wed Nov 11 2026. No macro, syntax, notation, axiom, sorry.
-/
import Derived.Test.YticheiocmhaakaaDoorRows
import GoSem.ClaimSeven
namespace Go.Proofs.YticheiocmhaakaaDoor
namespace Rows

/-- THE TIED CARD OF 'heijunkalaw01.NatReckons'. -/
def natReckonsCard : Claim7 := { stood := { row := natReckonsRow, standIns := [], harness := (true, "9b519f94bd26710fbc97fbe137bb38ed69a20304b411be0bb1c6d6ef14a43fe5"), looks := false }, kinds := [], alts := [], laidByText := true, laidKinds := [.data, .pinned], laidTests := true, laidLooks := .later }
def NatReckonsCardSaid : Prop := Claim7.holds Tryd.pinned (.plain (OpenSpec.ofChange natReckonsSpec)) natReckonsCard

/-- THE TIED CARD OF 'heijunkalaw01.NatSums'. -/
def natSumsCard : Claim7 := { stood := { row := natSumsRow, standIns := [], harness := (true, "9b519f94bd26710fbc97fbe137bb38ed69a20304b411be0bb1c6d6ef14a43fe5"), looks := false }, kinds := [], alts := [], laidByText := true, laidKinds := [.data, .pinned], laidTests := true, laidLooks := .later }
def NatSumsCardSaid : Prop := Claim7.holds Tryd.pinned (.plain (OpenSpec.ofChange natSumsSpec)) natSumsCard

/-- THE TIED CARD OF 'heijunkalaw01.NatBack'. -/
def natBackCard : Claim7 := { stood := { row := natBackRow, standIns := [], harness := (true, "9b519f94bd26710fbc97fbe137bb38ed69a20304b411be0bb1c6d6ef14a43fe5"), looks := false }, kinds := [], alts := [], laidByText := true, laidKinds := [.data, .pinned], laidTests := true, laidLooks := .later }
def NatBackCardSaid : Prop := Claim7.holds Tryd.pinned (.plain (OpenSpec.ofChange natBackSpec)) natBackCard

/-- THE TIED CARD OF 'heijunkalaw01.NatTexts'. -/
def natTextsCard : Claim7 := { stood := { row := natTextsRow, standIns := [], harness := (true, "9b519f94bd26710fbc97fbe137bb38ed69a20304b411be0bb1c6d6ef14a43fe5"), looks := false }, kinds := [], alts := [], laidByText := true, laidKinds := [.data, .pinned], laidTests := true, laidLooks := .later }
def NatTextsCardSaid : Prop := Claim7.holds Tryd.pinned (.plain (OpenSpec.ofChange natTextsSpec)) natTextsCard

/-- THE TIED CARD OF 'heijunkalaw01.NatOrder'. -/
def natOrderCard : Claim7 := { stood := { row := natOrderRow, standIns := [], harness := (true, "9b519f94bd26710fbc97fbe137bb38ed69a20304b411be0bb1c6d6ef14a43fe5"), looks := false }, kinds := [], alts := [], laidByText := true, laidKinds := [.data, .pinned], laidTests := true, laidLooks := .later }
def NatOrderCardSaid : Prop := Claim7.holds Tryd.pinned (.plain (OpenSpec.ofChange natOrderSpec)) natOrderCard

/-- THE TIED CARD OF 'heijunkalaw01.NatDivides'. -/
def natDividesCard : Claim7 := { stood := { row := natDividesRow, standIns := [], harness := (true, "9b519f94bd26710fbc97fbe137bb38ed69a20304b411be0bb1c6d6ef14a43fe5"), looks := false }, kinds := [], alts := [], laidByText := true, laidKinds := [.data, .pinned], laidTests := true, laidLooks := .later }
def NatDividesCardSaid : Prop := Claim7.holds Tryd.pinned (.plain (OpenSpec.ofChange natDividesSpec)) natDividesCard

/-- THE TIED CARD OF 'heijunkalaw01.NatGcd'. -/
def natGcdCard : Claim7 := { stood := { row := natGcdRow, standIns := [], harness := (true, "9b519f94bd26710fbc97fbe137bb38ed69a20304b411be0bb1c6d6ef14a43fe5"), looks := false }, kinds := [], alts := [], laidByText := true, laidKinds := [.data, .pinned], laidTests := true, laidLooks := .later }
def NatGcdCardSaid : Prop := Claim7.holds Tryd.pinned (.plain (OpenSpec.ofChange natGcdSpec)) natGcdCard

/-- THE TIED CARD OF 'heijunkalaw01.NatLimbs'. -/
def natLimbsCard : Claim7 := { stood := { row := natLimbsRow, standIns := [], harness := (true, "9b519f94bd26710fbc97fbe137bb38ed69a20304b411be0bb1c6d6ef14a43fe5"), looks := false }, kinds := [], alts := [], laidByText := true, laidKinds := [.data, .pinned], laidTests := true, laidLooks := .later }
def NatLimbsCardSaid : Prop := Claim7.holds Tryd.pinned (.plain (OpenSpec.ofChange natLimbsSpec)) natLimbsCard

/-- THE TIED CARD OF 'heijunkalaw01.NatWrites'. -/
def natWritesCard : Claim7 := { stood := { row := natWritesRow, standIns := [], harness := (true, "9b519f94bd26710fbc97fbe137bb38ed69a20304b411be0bb1c6d6ef14a43fe5"), looks := false }, kinds := [], alts := [], laidByText := true, laidKinds := [.data, .pinned], laidTests := true, laidLooks := .later }
def NatWritesCardSaid : Prop := Claim7.holds Tryd.pinned (.plain (OpenSpec.ofChange natWritesSpec)) natWritesCard

/-- THE SECOND FORM's CARD OF 'heijunkalaw01.NatReckons'. -/
def natReckonsUptoCard : Claim7 := { stood := { row := natReckonsUptoRow, standIns := [], harness := (true, "9b519f94bd26710fbc97fbe137bb38ed69a20304b411be0bb1c6d6ef14a43fe5"), looks := false }, kinds := [], alts := [], laidByText := true, laidKinds := [.data, .pinned], laidTests := true, laidLooks := .later }
def NatReckonsUptoCardSaid : Prop := Claim7.holds Tryd.pinned (.plain (OpenSpec.upto natReckonsSpec)) natReckonsUptoCard

/-- THE SECOND FORM's CARD OF 'heijunkalaw01.NatSums'. -/
def natSumsUptoCard : Claim7 := { stood := { row := natSumsUptoRow, standIns := [], harness := (true, "9b519f94bd26710fbc97fbe137bb38ed69a20304b411be0bb1c6d6ef14a43fe5"), looks := false }, kinds := [], alts := [], laidByText := true, laidKinds := [.data, .pinned], laidTests := true, laidLooks := .later }
def NatSumsUptoCardSaid : Prop := Claim7.holds Tryd.pinned (.plain (OpenSpec.upto natSumsSpec)) natSumsUptoCard

/-- THE SECOND FORM's CARD OF 'heijunkalaw01.NatBack'. -/
def natBackUptoCard : Claim7 := { stood := { row := natBackUptoRow, standIns := [], harness := (true, "9b519f94bd26710fbc97fbe137bb38ed69a20304b411be0bb1c6d6ef14a43fe5"), looks := false }, kinds := [], alts := [], laidByText := true, laidKinds := [.data, .pinned], laidTests := true, laidLooks := .later }
def NatBackUptoCardSaid : Prop := Claim7.holds Tryd.pinned (.plain (OpenSpec.upto natBackSpec)) natBackUptoCard

/-- THE SECOND FORM's CARD OF 'heijunkalaw01.NatTexts'. -/
def natTextsUptoCard : Claim7 := { stood := { row := natTextsUptoRow, standIns := [], harness := (true, "9b519f94bd26710fbc97fbe137bb38ed69a20304b411be0bb1c6d6ef14a43fe5"), looks := false }, kinds := [], alts := [], laidByText := true, laidKinds := [.data, .pinned], laidTests := true, laidLooks := .later }
def NatTextsUptoCardSaid : Prop := Claim7.holds Tryd.pinned (.plain (OpenSpec.upto natTextsSpec)) natTextsUptoCard

/-- THE SECOND FORM's CARD OF 'heijunkalaw01.NatOrder'. -/
def natOrderUptoCard : Claim7 := { stood := { row := natOrderUptoRow, standIns := [], harness := (true, "9b519f94bd26710fbc97fbe137bb38ed69a20304b411be0bb1c6d6ef14a43fe5"), looks := false }, kinds := [], alts := [], laidByText := true, laidKinds := [.data, .pinned], laidTests := true, laidLooks := .later }
def NatOrderUptoCardSaid : Prop := Claim7.holds Tryd.pinned (.plain (OpenSpec.upto natOrderSpec)) natOrderUptoCard

/-- THE SECOND FORM's CARD OF 'heijunkalaw01.NatDivides'. -/
def natDividesUptoCard : Claim7 := { stood := { row := natDividesUptoRow, standIns := [], harness := (true, "9b519f94bd26710fbc97fbe137bb38ed69a20304b411be0bb1c6d6ef14a43fe5"), looks := false }, kinds := [], alts := [], laidByText := true, laidKinds := [.data, .pinned], laidTests := true, laidLooks := .later }
def NatDividesUptoCardSaid : Prop := Claim7.holds Tryd.pinned (.plain (OpenSpec.upto natDividesSpec)) natDividesUptoCard

/-- THE SECOND FORM's CARD OF 'heijunkalaw01.NatGcd'. -/
def natGcdUptoCard : Claim7 := { stood := { row := natGcdUptoRow, standIns := [], harness := (true, "9b519f94bd26710fbc97fbe137bb38ed69a20304b411be0bb1c6d6ef14a43fe5"), looks := false }, kinds := [], alts := [], laidByText := true, laidKinds := [.data, .pinned], laidTests := true, laidLooks := .later }
def NatGcdUptoCardSaid : Prop := Claim7.holds Tryd.pinned (.plain (OpenSpec.upto natGcdSpec)) natGcdUptoCard

/-- THE SECOND FORM's CARD OF 'heijunkalaw01.NatLimbs'. -/
def natLimbsUptoCard : Claim7 := { stood := { row := natLimbsUptoRow, standIns := [], harness := (true, "9b519f94bd26710fbc97fbe137bb38ed69a20304b411be0bb1c6d6ef14a43fe5"), looks := false }, kinds := [], alts := [], laidByText := true, laidKinds := [.data, .pinned], laidTests := true, laidLooks := .later }
def NatLimbsUptoCardSaid : Prop := Claim7.holds Tryd.pinned (.plain (OpenSpec.upto natLimbsSpec)) natLimbsUptoCard

/-- THE SECOND FORM's CARD OF 'heijunkalaw01.NatWrites'. -/
def natWritesUptoCard : Claim7 := { stood := { row := natWritesUptoRow, standIns := [], harness := (true, "9b519f94bd26710fbc97fbe137bb38ed69a20304b411be0bb1c6d6ef14a43fe5"), looks := false }, kinds := [], alts := [], laidByText := true, laidKinds := [.data, .pinned], laidTests := true, laidLooks := .later }
def NatWritesUptoCardSaid : Prop := Claim7.holds Tryd.pinned (.plain (OpenSpec.upto natWritesSpec)) natWritesUptoCard
end Rows
end Go.Proofs.YticheiocmhaakaaDoor
