/-
  DERIVED. GIVEN WITH THE SEED: THE CARDS: each row of YtefbgdnobnemkaaDoorRows.lean that lists a variable, with what it lists TIED to the program's text (the seventh form; the later family's looks); each row that meets fmt, with fmt's text TOLD by the authors' own Lean function (tested against real Go, not proved from fmt's source: count such statements apart). THE CARD IS WHAT COUNTS. Prove the row's statement (the work); the ties are given (YtefbgdnobnemkaaDoorTie.lean); close each card by the builder's one call (the guide's Derived/Test/ToyasCard.lean, 'card_holds'). Laid BY PROGRAM, IN A SANDBOX (cutbox-door.mjs). By AI agents, Wed Nov 11 2026. No macro, syntax, notation, axiom, sorry.
-/
import Derived.Test.YtefbgdnobnemkaaDoorRows
import GoSem.ClaimSeven
namespace Go.Proofs.YtefbgdnobnemkaaDoor
namespace Rows

/-- THE TIED CARD OF 'foolscaplaw20.EditWrites'. -/
def editWritesCard : Claim7 := { stood := { row := editWritesRow, standIns := [], harness := (true, "e22b2544ff578f8cbf994da1adc23e9913e9d2c338c8f44a48dd1244a448294e"), looks := false }, kinds := [], alts := [], laidByText := true, laidKinds := [.data, .pinned], laidTests := true, laidLooks := .later }
def EditWritesCardSaid : Prop := Claim7.holds Tryd.pinned (.plain (OpenSpec.ofChange editWritesSpec)) editWritesCard

/-- THE TIED CARD OF 'foolscaplaw20.EditJoins'. -/
def editJoinsCard : Claim7 := { stood := { row := editJoinsRow, standIns := [], harness := (true, "e22b2544ff578f8cbf994da1adc23e9913e9d2c338c8f44a48dd1244a448294e"), looks := false }, kinds := [], alts := [], laidByText := true, laidKinds := [.data, .pinned], laidTests := true, laidLooks := .later }
def EditJoinsCardSaid : Prop := Claim7.holds Tryd.pinned (.plain (OpenSpec.ofChange editJoinsSpec)) editJoinsCard

/-- THE TIED CARD OF 'foolscaplaw20.EditParts'. -/
def editPartsCard : Claim7 := { stood := { row := editPartsRow, standIns := [], harness := (true, "e22b2544ff578f8cbf994da1adc23e9913e9d2c338c8f44a48dd1244a448294e"), looks := false }, kinds := [], alts := [], laidByText := true, laidKinds := [.data, .pinned], laidTests := true, laidLooks := .later }
def EditPartsCardSaid : Prop := Claim7.holds Tryd.pinned (.plain (OpenSpec.ofChange editPartsSpec)) editPartsCard

/-- THE TIED CARD OF 'foolscaplaw20.EditBlocks'. -/
def editBlocksCard : Claim7 := { stood := { row := editBlocksRow, standIns := [], harness := (true, "e22b2544ff578f8cbf994da1adc23e9913e9d2c338c8f44a48dd1244a448294e"), looks := false }, kinds := [], alts := [], laidByText := true, laidKinds := [.data, .pinned], laidTests := true, laidLooks := .later }
def EditBlocksCardSaid : Prop := Claim7.holds Tryd.pinned (.plain (OpenSpec.ofChange editBlocksSpec)) editBlocksCard

/-- THE TIED CARD OF 'foolscaplaw20.EditShifts'. -/
def editShiftsCard : Claim7 := { stood := { row := editShiftsRow, standIns := [], harness := (true, "e22b2544ff578f8cbf994da1adc23e9913e9d2c338c8f44a48dd1244a448294e"), looks := false }, kinds := [], alts := [], laidByText := true, laidKinds := [.data, .pinned], laidTests := true, laidLooks := .later }
def EditShiftsCardSaid : Prop := Claim7.holds Tryd.pinned (.plain (OpenSpec.ofChange editShiftsSpec)) editShiftsCard

/-- THE TIED CARD OF 'foolscaplaw20.EditBack'. -/
def editBackCard : Claim7 := { stood := { row := editBackRow, standIns := [], harness := (true, "e22b2544ff578f8cbf994da1adc23e9913e9d2c338c8f44a48dd1244a448294e"), looks := false }, kinds := [], alts := [], laidByText := true, laidKinds := [.data, .pinned], laidTests := true, laidLooks := .later }
def EditBackCardSaid : Prop := Claim7.holds Tryd.pinned (.plain (OpenSpec.ofChange editBackSpec)) editBackCard

/-- THE SECOND FORM's CARD OF 'foolscaplaw20.EditWrites'. -/
def editWritesUptoCard : Claim7 := { stood := { row := editWritesUptoRow, standIns := [], harness := (true, "e22b2544ff578f8cbf994da1adc23e9913e9d2c338c8f44a48dd1244a448294e"), looks := false }, kinds := [], alts := [], laidByText := true, laidKinds := [.data, .pinned], laidTests := true, laidLooks := .later }
def EditWritesUptoCardSaid : Prop := Claim7.holds Tryd.pinned (.plain (OpenSpec.upto editWritesSpec)) editWritesUptoCard

/-- THE SECOND FORM's CARD OF 'foolscaplaw20.EditJoins'. -/
def editJoinsUptoCard : Claim7 := { stood := { row := editJoinsUptoRow, standIns := [], harness := (true, "e22b2544ff578f8cbf994da1adc23e9913e9d2c338c8f44a48dd1244a448294e"), looks := false }, kinds := [], alts := [], laidByText := true, laidKinds := [.data, .pinned], laidTests := true, laidLooks := .later }
def EditJoinsUptoCardSaid : Prop := Claim7.holds Tryd.pinned (.plain (OpenSpec.upto editJoinsSpec)) editJoinsUptoCard

/-- THE SECOND FORM's CARD OF 'foolscaplaw20.EditParts'. -/
def editPartsUptoCard : Claim7 := { stood := { row := editPartsUptoRow, standIns := [], harness := (true, "e22b2544ff578f8cbf994da1adc23e9913e9d2c338c8f44a48dd1244a448294e"), looks := false }, kinds := [], alts := [], laidByText := true, laidKinds := [.data, .pinned], laidTests := true, laidLooks := .later }
def EditPartsUptoCardSaid : Prop := Claim7.holds Tryd.pinned (.plain (OpenSpec.upto editPartsSpec)) editPartsUptoCard

/-- THE SECOND FORM's CARD OF 'foolscaplaw20.EditBlocks'. -/
def editBlocksUptoCard : Claim7 := { stood := { row := editBlocksUptoRow, standIns := [], harness := (true, "e22b2544ff578f8cbf994da1adc23e9913e9d2c338c8f44a48dd1244a448294e"), looks := false }, kinds := [], alts := [], laidByText := true, laidKinds := [.data, .pinned], laidTests := true, laidLooks := .later }
def EditBlocksUptoCardSaid : Prop := Claim7.holds Tryd.pinned (.plain (OpenSpec.upto editBlocksSpec)) editBlocksUptoCard

/-- THE SECOND FORM's CARD OF 'foolscaplaw20.EditShifts'. -/
def editShiftsUptoCard : Claim7 := { stood := { row := editShiftsUptoRow, standIns := [], harness := (true, "e22b2544ff578f8cbf994da1adc23e9913e9d2c338c8f44a48dd1244a448294e"), looks := false }, kinds := [], alts := [], laidByText := true, laidKinds := [.data, .pinned], laidTests := true, laidLooks := .later }
def EditShiftsUptoCardSaid : Prop := Claim7.holds Tryd.pinned (.plain (OpenSpec.upto editShiftsSpec)) editShiftsUptoCard

/-- THE SECOND FORM's CARD OF 'foolscaplaw20.EditBack'. -/
def editBackUptoCard : Claim7 := { stood := { row := editBackUptoRow, standIns := [], harness := (true, "e22b2544ff578f8cbf994da1adc23e9913e9d2c338c8f44a48dd1244a448294e"), looks := false }, kinds := [], alts := [], laidByText := true, laidKinds := [.data, .pinned], laidTests := true, laidLooks := .later }
def EditBackUptoCardSaid : Prop := Claim7.holds Tryd.pinned (.plain (OpenSpec.upto editBackSpec)) editBackUptoCard
end Rows
end Go.Proofs.YtefbgdnobnemkaaDoor
