/-
  DERIVED. GIVEN WITH THE SEED: THE CARDS: each row of YticjhlbmdjijnaaGreatDoorRows.lean that lists a variable, with what it lists TIED to the program's text (the seventh form; the later family's looks); each row that meets fmt, with fmt's text TOLD by the authors' own Lean function (tested against real Go, not proved from fmt's source: count such statements apart). THE CARD IS WHAT COUNTS. Prove the row's statement (the work); the ties are given (YticjhlbmdjijnaaGreatDoorTie.lean); close each card by the builder's one call (the guide's Derived/Test/ToyasCard.lean, 'card_holds'). Laid BY PROGRAM, IN A SANDBOX (cutbox-door.mjs). By AI agents, Wed Nov 11 2026. No macro, syntax, notation, axiom, sorry.
-/
import Derived.Test.YticjhlbmdjijnaaGreatDoorRows
import GoSem.ClaimSeven
namespace Go.Proofs.YticjhlbmdjijnaaGreatDoor
namespace Rows

/-- THE TIED CARD OF 'heijunkalaw03.RatioRounds'. -/
def ratioRoundsCard : Claim7 := { stood := { row := ratioRoundsRow, standIns := [], harness := (true, "7fab516207673339f57aa13ed3288d8c937f3b73d5ca46b92871cb276140962e"), looks := false }, kinds := [], alts := [], laidByText := true, laidKinds := [.data, .pinned], laidTests := true, laidLooks := .later }
def RatioRoundsCardSaid : Prop := Claim7.holds Tryz.pinned (.plain (OpenSpec.ofChange ratioRoundsSpec)) ratioRoundsCard

/-- THE TIED CARD OF 'heijunkalaw03.RatioDecimals'. -/
def ratioDecimalsCard : Claim7 := { stood := { row := ratioDecimalsRow, standIns := [], harness := (true, "7fab516207673339f57aa13ed3288d8c937f3b73d5ca46b92871cb276140962e"), looks := false }, kinds := [], alts := [], laidByText := true, laidKinds := [.data, .pinned], laidTests := true, laidLooks := .later }
def RatioDecimalsCardSaid : Prop := Claim7.holds Tryz.pinned (.plain (OpenSpec.ofChange ratioDecimalsSpec)) ratioDecimalsCard

/-- THE TIED CARD OF 'heijunkalaw03.RatioWhole'. -/
def ratioWholeCard : Claim7 := { stood := { row := ratioWholeRow, standIns := [], harness := (true, "7fab516207673339f57aa13ed3288d8c937f3b73d5ca46b92871cb276140962e"), looks := false }, kinds := [], alts := [], laidByText := true, laidKinds := [.data, .pinned], laidTests := true, laidLooks := .later }
def RatioWholeCardSaid : Prop := Claim7.holds Tryz.pinned (.plain (OpenSpec.ofChange ratioWholeSpec)) ratioWholeCard

/-- THE TIED CARD OF 'heijunkalaw03.RatioOrder'. -/
def ratioOrderCard : Claim7 := { stood := { row := ratioOrderRow, standIns := [], harness := (true, "7fab516207673339f57aa13ed3288d8c937f3b73d5ca46b92871cb276140962e"), looks := false }, kinds := [], alts := [], laidByText := true, laidKinds := [.data, .pinned], laidTests := true, laidLooks := .later }
def RatioOrderCardSaid : Prop := Claim7.holds Tryz.pinned (.plain (OpenSpec.ofChange ratioOrderSpec)) ratioOrderCard

/-- THE TIED CARD OF 'heijunkalaw03.RatioReckons'. -/
def ratioReckonsCard : Claim7 := { stood := { row := ratioReckonsRow, standIns := [], harness := (true, "7fab516207673339f57aa13ed3288d8c937f3b73d5ca46b92871cb276140962e"), looks := false }, kinds := [], alts := [], laidByText := true, laidKinds := [.data, .pinned], laidTests := true, laidLooks := .later }
def RatioReckonsCardSaid : Prop := Claim7.holds Tryz.pinned (.plain (OpenSpec.ofChange ratioReckonsSpec)) ratioReckonsCard

/-- THE TIED CARD OF 'heijunkalaw03.RatioField'. -/
def ratioFieldCard : Claim7 := { stood := { row := ratioFieldRow, standIns := [], harness := (true, "7fab516207673339f57aa13ed3288d8c937f3b73d5ca46b92871cb276140962e"), looks := false }, kinds := [], alts := [], laidByText := true, laidKinds := [.data, .pinned], laidTests := true, laidLooks := .later }
def RatioFieldCardSaid : Prop := Claim7.holds Tryz.pinned (.plain (OpenSpec.ofChange ratioFieldSpec)) ratioFieldCard

/-- THE TIED CARD OF 'heijunkalaw03.RatioBetween'. -/
def ratioBetweenCard : Claim7 := { stood := { row := ratioBetweenRow, standIns := [], harness := (true, "7fab516207673339f57aa13ed3288d8c937f3b73d5ca46b92871cb276140962e"), looks := false }, kinds := [], alts := [], laidByText := true, laidKinds := [.data, .pinned], laidTests := true, laidLooks := .later }
def RatioBetweenCardSaid : Prop := Claim7.holds Tryz.pinned (.plain (OpenSpec.ofChange ratioBetweenSpec)) ratioBetweenCard

/-- THE TIED CARD OF 'heijunkalaw03.RatioWrites'. -/
def ratioWritesCard : Claim7 := { stood := { row := ratioWritesRow, standIns := [], harness := (true, "7fab516207673339f57aa13ed3288d8c937f3b73d5ca46b92871cb276140962e"), looks := false }, kinds := [], alts := [], laidByText := true, laidKinds := [.data, .pinned], laidTests := true, laidLooks := .later }
def RatioWritesCardSaid : Prop := Claim7.holds Tryz.pinned (.plain (OpenSpec.ofChange ratioWritesSpec)) ratioWritesCard

/-- THE TIED CARD OF 'heijunkalaw03.RatioRows'. -/
def ratioRowsCard : Claim7 := { stood := { row := ratioRowsRow, standIns := [], harness := (true, "7fab516207673339f57aa13ed3288d8c937f3b73d5ca46b92871cb276140962e"), looks := false }, kinds := [], alts := [], laidByText := true, laidKinds := [.data, .pinned], laidTests := true, laidLooks := .later }
def RatioRowsCardSaid : Prop := Claim7.holds Tryz.pinned (.plain (OpenSpec.ofChange ratioRowsSpec)) ratioRowsCard

/-- THE SECOND FORM's CARD OF 'heijunkalaw03.RatioRounds'. -/
def ratioRoundsUptoCard : Claim7 := { stood := { row := ratioRoundsUptoRow, standIns := [], harness := (true, "7fab516207673339f57aa13ed3288d8c937f3b73d5ca46b92871cb276140962e"), looks := false }, kinds := [], alts := [], laidByText := true, laidKinds := [.data, .pinned], laidTests := true, laidLooks := .later }
def RatioRoundsUptoCardSaid : Prop := Claim7.holds Tryz.pinned (.plain (OpenSpec.upto ratioRoundsSpec)) ratioRoundsUptoCard

/-- THE SECOND FORM's CARD OF 'heijunkalaw03.RatioDecimals'. -/
def ratioDecimalsUptoCard : Claim7 := { stood := { row := ratioDecimalsUptoRow, standIns := [], harness := (true, "7fab516207673339f57aa13ed3288d8c937f3b73d5ca46b92871cb276140962e"), looks := false }, kinds := [], alts := [], laidByText := true, laidKinds := [.data, .pinned], laidTests := true, laidLooks := .later }
def RatioDecimalsUptoCardSaid : Prop := Claim7.holds Tryz.pinned (.plain (OpenSpec.upto ratioDecimalsSpec)) ratioDecimalsUptoCard

/-- THE SECOND FORM's CARD OF 'heijunkalaw03.RatioWhole'. -/
def ratioWholeUptoCard : Claim7 := { stood := { row := ratioWholeUptoRow, standIns := [], harness := (true, "7fab516207673339f57aa13ed3288d8c937f3b73d5ca46b92871cb276140962e"), looks := false }, kinds := [], alts := [], laidByText := true, laidKinds := [.data, .pinned], laidTests := true, laidLooks := .later }
def RatioWholeUptoCardSaid : Prop := Claim7.holds Tryz.pinned (.plain (OpenSpec.upto ratioWholeSpec)) ratioWholeUptoCard

/-- THE SECOND FORM's CARD OF 'heijunkalaw03.RatioOrder'. -/
def ratioOrderUptoCard : Claim7 := { stood := { row := ratioOrderUptoRow, standIns := [], harness := (true, "7fab516207673339f57aa13ed3288d8c937f3b73d5ca46b92871cb276140962e"), looks := false }, kinds := [], alts := [], laidByText := true, laidKinds := [.data, .pinned], laidTests := true, laidLooks := .later }
def RatioOrderUptoCardSaid : Prop := Claim7.holds Tryz.pinned (.plain (OpenSpec.upto ratioOrderSpec)) ratioOrderUptoCard

/-- THE SECOND FORM's CARD OF 'heijunkalaw03.RatioReckons'. -/
def ratioReckonsUptoCard : Claim7 := { stood := { row := ratioReckonsUptoRow, standIns := [], harness := (true, "7fab516207673339f57aa13ed3288d8c937f3b73d5ca46b92871cb276140962e"), looks := false }, kinds := [], alts := [], laidByText := true, laidKinds := [.data, .pinned], laidTests := true, laidLooks := .later }
def RatioReckonsUptoCardSaid : Prop := Claim7.holds Tryz.pinned (.plain (OpenSpec.upto ratioReckonsSpec)) ratioReckonsUptoCard

/-- THE SECOND FORM's CARD OF 'heijunkalaw03.RatioField'. -/
def ratioFieldUptoCard : Claim7 := { stood := { row := ratioFieldUptoRow, standIns := [], harness := (true, "7fab516207673339f57aa13ed3288d8c937f3b73d5ca46b92871cb276140962e"), looks := false }, kinds := [], alts := [], laidByText := true, laidKinds := [.data, .pinned], laidTests := true, laidLooks := .later }
def RatioFieldUptoCardSaid : Prop := Claim7.holds Tryz.pinned (.plain (OpenSpec.upto ratioFieldSpec)) ratioFieldUptoCard

/-- THE SECOND FORM's CARD OF 'heijunkalaw03.RatioBetween'. -/
def ratioBetweenUptoCard : Claim7 := { stood := { row := ratioBetweenUptoRow, standIns := [], harness := (true, "7fab516207673339f57aa13ed3288d8c937f3b73d5ca46b92871cb276140962e"), looks := false }, kinds := [], alts := [], laidByText := true, laidKinds := [.data, .pinned], laidTests := true, laidLooks := .later }
def RatioBetweenUptoCardSaid : Prop := Claim7.holds Tryz.pinned (.plain (OpenSpec.upto ratioBetweenSpec)) ratioBetweenUptoCard

/-- THE SECOND FORM's CARD OF 'heijunkalaw03.RatioWrites'. -/
def ratioWritesUptoCard : Claim7 := { stood := { row := ratioWritesUptoRow, standIns := [], harness := (true, "7fab516207673339f57aa13ed3288d8c937f3b73d5ca46b92871cb276140962e"), looks := false }, kinds := [], alts := [], laidByText := true, laidKinds := [.data, .pinned], laidTests := true, laidLooks := .later }
def RatioWritesUptoCardSaid : Prop := Claim7.holds Tryz.pinned (.plain (OpenSpec.upto ratioWritesSpec)) ratioWritesUptoCard

/-- THE SECOND FORM's CARD OF 'heijunkalaw03.RatioRows'. -/
def ratioRowsUptoCard : Claim7 := { stood := { row := ratioRowsUptoRow, standIns := [], harness := (true, "7fab516207673339f57aa13ed3288d8c937f3b73d5ca46b92871cb276140962e"), looks := false }, kinds := [], alts := [], laidByText := true, laidKinds := [.data, .pinned], laidTests := true, laidLooks := .later }
def RatioRowsUptoCardSaid : Prop := Claim7.holds Tryz.pinned (.plain (OpenSpec.upto ratioRowsSpec)) ratioRowsUptoCard
end Rows
end Go.Proofs.YticjhlbmdjijnaaGreatDoor
