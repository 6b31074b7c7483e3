/-
  DERIVED. GIVEN WITH THE SEED: THE CARDS: each row of YtdlcngmcjidomaaDoorRows.lean that lists a variable, with what it lists TIED to the program's text (the seventh form; the later family's looks); each row that meets fmt, with fmt's text TOLD by the authors' own Lean function (tested against real Go, not proved from fmt's source: count such statements apart). THE CARD IS WHAT COUNTS. Prove the row's statement (the work); the ties are given (YtdlcngmcjidomaaDoorTie.lean); close each card by the builder's one call (the guide's Derived/Test/ToyasCard.lean, 'card_holds'). Laid BY PROGRAM, IN A SANDBOX (cutbox-door.mjs). By AI agents, Wed Nov 11 2026. No macro, syntax, notation, axiom, sorry.
-/
import Derived.Test.YtdlcngmcjidomaaDoorRows
import GoSem.ClaimSeven
namespace Go.Proofs.YtdlcngmcjidomaaDoor
namespace Rows

/-- THE TIED CARD OF 'heijunkalaw07.SegFills'. -/
def segFillsCard : Claim7 := { stood := { row := segFillsRow, standIns := [], harness := (true, "9a967ac29d5e51fc1f0e37e65b06e89bad24b78c246ca10f96ff75f414d26364"), looks := true }, kinds := [], alts := [], laidByText := true, laidKinds := [.data, .pinned], laidTests := true, laidLooks := .later }
def SegFillsCardSaid : Prop := Claim7.holds Tryd.pinned (.plain (OpenSpec.ofChange segFillsSpec)) segFillsCard

/-- THE TIED CARD OF 'heijunkalaw07.SegTorn'. -/
def segTornCard : Claim7 := { stood := { row := segTornRow, standIns := [], harness := (true, "9a967ac29d5e51fc1f0e37e65b06e89bad24b78c246ca10f96ff75f414d26364"), looks := true }, kinds := [], alts := [], laidByText := true, laidKinds := [.data, .pinned], laidTests := true, laidLooks := .later }
def SegTornCardSaid : Prop := Claim7.holds Tryd.pinned (.plain (OpenSpec.ofChange segTornSpec)) segTornCard

/-- THE TIED CARD OF 'heijunkalaw07.SegKeeps'. -/
def segKeepsCard : Claim7 := { stood := { row := segKeepsRow, standIns := [], harness := (true, "9a967ac29d5e51fc1f0e37e65b06e89bad24b78c246ca10f96ff75f414d26364"), looks := true }, kinds := [], alts := [], laidByText := true, laidKinds := [.data, .pinned], laidTests := true, laidLooks := .later }
def SegKeepsCardSaid : Prop := Claim7.holds Tryd.pinned (.plain (OpenSpec.ofChange segKeepsSpec)) segKeepsCard

/-- THE TIED CARD OF 'heijunkalaw09.LedgerMost'. -/
def ledgerMostCard : Claim7 := { stood := { row := ledgerMostRow, standIns := [], harness := (true, "9a967ac29d5e51fc1f0e37e65b06e89bad24b78c246ca10f96ff75f414d26364"), looks := true }, kinds := [], alts := [], laidByText := true, laidKinds := [.data, .pinned], laidTests := true, laidLooks := .later }
def LedgerMostCardSaid : Prop := Claim7.holds Tryd.pinned (.plain (OpenSpec.ofChange ledgerMostSpec)) ledgerMostCard

/-- THE TIED CARD OF 'heijunkalaw09.LedgerHalves'. -/
def ledgerHalvesCard : Claim7 := { stood := { row := ledgerHalvesRow, standIns := [], harness := (true, "9a967ac29d5e51fc1f0e37e65b06e89bad24b78c246ca10f96ff75f414d26364"), looks := true }, kinds := [], alts := [], laidByText := true, laidKinds := [.data, .pinned], laidTests := true, laidLooks := .later }
def LedgerHalvesCardSaid : Prop := Claim7.holds Tryd.pinned (.plain (OpenSpec.ofChange ledgerHalvesSpec)) ledgerHalvesCard

/-- THE TIED CARD OF 'heijunkalaw09.LedgerGens'. -/
def ledgerGensCard : Claim7 := { stood := { row := ledgerGensRow, standIns := [], harness := (true, "9a967ac29d5e51fc1f0e37e65b06e89bad24b78c246ca10f96ff75f414d26364"), looks := true }, kinds := [], alts := [], laidByText := true, laidKinds := [.data, .pinned], laidTests := true, laidLooks := .later }
def LedgerGensCardSaid : Prop := Claim7.holds Tryd.pinned (.plain (OpenSpec.ofChange ledgerGensSpec)) ledgerGensCard

/-- THE TIED CARD OF 'heijunkalaw09.LedgerLost'. -/
def ledgerLostCard : Claim7 := { stood := { row := ledgerLostRow, standIns := [], harness := (true, "9a967ac29d5e51fc1f0e37e65b06e89bad24b78c246ca10f96ff75f414d26364"), looks := true }, kinds := [], alts := [], laidByText := true, laidKinds := [.data, .pinned], laidTests := true, laidLooks := .later }
def LedgerLostCardSaid : Prop := Claim7.holds Tryd.pinned (.plain (OpenSpec.ofChange ledgerLostSpec)) ledgerLostCard

/-- THE SECOND FORM's CARD OF 'heijunkalaw07.SegFills'. -/
def segFillsUptoCard : Claim7 := { stood := { row := segFillsUptoRow, standIns := [], harness := (true, "9a967ac29d5e51fc1f0e37e65b06e89bad24b78c246ca10f96ff75f414d26364"), looks := true }, kinds := [], alts := [], laidByText := true, laidKinds := [.data, .pinned], laidTests := true, laidLooks := .later }
def SegFillsUptoCardSaid : Prop := Claim7.holds Tryd.pinned (.plain (OpenSpec.upto segFillsSpec)) segFillsUptoCard

/-- THE SECOND FORM's CARD OF 'heijunkalaw07.SegTorn'. -/
def segTornUptoCard : Claim7 := { stood := { row := segTornUptoRow, standIns := [], harness := (true, "9a967ac29d5e51fc1f0e37e65b06e89bad24b78c246ca10f96ff75f414d26364"), looks := true }, kinds := [], alts := [], laidByText := true, laidKinds := [.data, .pinned], laidTests := true, laidLooks := .later }
def SegTornUptoCardSaid : Prop := Claim7.holds Tryd.pinned (.plain (OpenSpec.upto segTornSpec)) segTornUptoCard

/-- THE SECOND FORM's CARD OF 'heijunkalaw07.SegKeeps'. -/
def segKeepsUptoCard : Claim7 := { stood := { row := segKeepsUptoRow, standIns := [], harness := (true, "9a967ac29d5e51fc1f0e37e65b06e89bad24b78c246ca10f96ff75f414d26364"), looks := true }, kinds := [], alts := [], laidByText := true, laidKinds := [.data, .pinned], laidTests := true, laidLooks := .later }
def SegKeepsUptoCardSaid : Prop := Claim7.holds Tryd.pinned (.plain (OpenSpec.upto segKeepsSpec)) segKeepsUptoCard

/-- THE SECOND FORM's CARD OF 'heijunkalaw09.LedgerMost'. -/
def ledgerMostUptoCard : Claim7 := { stood := { row := ledgerMostUptoRow, standIns := [], harness := (true, "9a967ac29d5e51fc1f0e37e65b06e89bad24b78c246ca10f96ff75f414d26364"), looks := true }, kinds := [], alts := [], laidByText := true, laidKinds := [.data, .pinned], laidTests := true, laidLooks := .later }
def LedgerMostUptoCardSaid : Prop := Claim7.holds Tryd.pinned (.plain (OpenSpec.upto ledgerMostSpec)) ledgerMostUptoCard

/-- THE SECOND FORM's CARD OF 'heijunkalaw09.LedgerHalves'. -/
def ledgerHalvesUptoCard : Claim7 := { stood := { row := ledgerHalvesUptoRow, standIns := [], harness := (true, "9a967ac29d5e51fc1f0e37e65b06e89bad24b78c246ca10f96ff75f414d26364"), looks := true }, kinds := [], alts := [], laidByText := true, laidKinds := [.data, .pinned], laidTests := true, laidLooks := .later }
def LedgerHalvesUptoCardSaid : Prop := Claim7.holds Tryd.pinned (.plain (OpenSpec.upto ledgerHalvesSpec)) ledgerHalvesUptoCard

/-- THE SECOND FORM's CARD OF 'heijunkalaw09.LedgerGens'. -/
def ledgerGensUptoCard : Claim7 := { stood := { row := ledgerGensUptoRow, standIns := [], harness := (true, "9a967ac29d5e51fc1f0e37e65b06e89bad24b78c246ca10f96ff75f414d26364"), looks := true }, kinds := [], alts := [], laidByText := true, laidKinds := [.data, .pinned], laidTests := true, laidLooks := .later }
def LedgerGensUptoCardSaid : Prop := Claim7.holds Tryd.pinned (.plain (OpenSpec.upto ledgerGensSpec)) ledgerGensUptoCard

/-- THE SECOND FORM's CARD OF 'heijunkalaw09.LedgerLost'. -/
def ledgerLostUptoCard : Claim7 := { stood := { row := ledgerLostUptoRow, standIns := [], harness := (true, "9a967ac29d5e51fc1f0e37e65b06e89bad24b78c246ca10f96ff75f414d26364"), looks := true }, kinds := [], alts := [], laidByText := true, laidKinds := [.data, .pinned], laidTests := true, laidLooks := .later }
def LedgerLostUptoCardSaid : Prop := Claim7.holds Tryd.pinned (.plain (OpenSpec.upto ledgerLostSpec)) ledgerLostUptoCard
end Rows
end Go.Proofs.YtdlcngmcjidomaaDoor
