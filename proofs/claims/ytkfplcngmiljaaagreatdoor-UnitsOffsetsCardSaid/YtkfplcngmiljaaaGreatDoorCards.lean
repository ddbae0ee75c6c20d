/-
  DERIVED. GIVEN WITH THE SEED: THE CARDS: each row of YtkfplcngmiljaaaGreatDoorRows.lean that lists a variable, with what it lists TIED to the program's text (the seventh form; the later family's looks); each row that meets fmt, with fmt's text TOLD by the authors' own Lean function (tested against real Go, not proved from fmt's source: count such statements apart). THE CARD IS WHAT COUNTS. Prove the row's statement (the work); the ties are given (YtkfplcngmiljaaaGreatDoorTie.lean); close each card by the builder's one call (the guide's Derived/Test/ToyasCard.lean, 'card_holds'). Laid BY PROGRAM, IN A SANDBOX (cutbox-door.mjs). By AI agents, Wed Nov 11 2026. No macro, syntax, notation, axiom, sorry.
-/
import Derived.Test.YtkfplcngmiljaaaGreatDoorRows
import GoSem.ClaimSeven
namespace Go.Proofs.YtkfplcngmiljaaaGreatDoor
namespace Rows

/-- THE TIED CARD OF 'wageofficelaw09.UnitsMatchesReference'. -/
def unitsMatchesReferenceCard : Claim7 := { stood := { row := unitsMatchesReferenceRow, standIns := [], harness := (true, "db3dbb7ac5c7cee9768900cf1489db22aa13c78a358e1d91fefdf61df04e515e"), looks := true }, kinds := [], alts := [], laidByText := true, laidKinds := [.data, .data, .data, .data, .sentinel, .sentinel, .data, .data, .data, .data, .data, .pinned], laidTests := true, laidLooks := .later }
def UnitsMatchesReferenceCardSaid : Prop := Claim7.holds Tryz.pinned (.plain (OpenSpec.ofChange unitsMatchesReferenceSpec)) unitsMatchesReferenceCard

/-- THE TIED CARD OF 'wageofficelaw09.UnitsOperands'. -/
def unitsOperandsCard : Claim7 := { stood := { row := unitsOperandsRow, standIns := [], harness := (true, "db3dbb7ac5c7cee9768900cf1489db22aa13c78a358e1d91fefdf61df04e515e"), looks := true }, kinds := [], alts := [], laidByText := true, laidKinds := [.data, .data, .data, .data, .sentinel, .sentinel, .data, .data, .data, .data, .data, .pinned], laidTests := true, laidLooks := .later }
def UnitsOperandsCardSaid : Prop := Claim7.holds Tryz.pinned (.plain (OpenSpec.ofChange unitsOperandsSpec)) unitsOperandsCard

/-- THE TIED CARD OF 'wageofficelaw09.UnitsNames'. -/
def unitsNamesCard : Claim7 := { stood := { row := unitsNamesRow, standIns := [], harness := (true, "db3dbb7ac5c7cee9768900cf1489db22aa13c78a358e1d91fefdf61df04e515e"), looks := true }, kinds := [], alts := [], laidByText := true, laidKinds := [.data, .data, .data, .data, .sentinel, .sentinel, .data, .data, .data, .data, .data, .pinned], laidTests := true, laidLooks := .later }
def UnitsNamesCardSaid : Prop := Claim7.holds Tryz.pinned (.plain (OpenSpec.ofChange unitsNamesSpec)) unitsNamesCard

/-- THE TIED CARD OF 'wageofficelaw09.UnitsCurrencies'. -/
def unitsCurrenciesCard : Claim7 := { stood := { row := unitsCurrenciesRow, standIns := [], harness := (true, "db3dbb7ac5c7cee9768900cf1489db22aa13c78a358e1d91fefdf61df04e515e"), looks := true }, kinds := [], alts := [], laidByText := true, laidKinds := [.data, .data, .data, .data, .sentinel, .sentinel, .data, .data, .data, .data, .data, .pinned], laidTests := true, laidLooks := .later }
def UnitsCurrenciesCardSaid : Prop := Claim7.holds Tryz.pinned (.plain (OpenSpec.ofChange unitsCurrenciesSpec)) unitsCurrenciesCard

/-- THE TIED CARD OF 'wageofficelaw09.UnitsLocality'. -/
def unitsLocalityCard : Claim7 := { stood := { row := unitsLocalityRow, standIns := [], harness := (true, "db3dbb7ac5c7cee9768900cf1489db22aa13c78a358e1d91fefdf61df04e515e"), looks := true }, kinds := [], alts := [], laidByText := true, laidKinds := [.data, .data, .data, .data, .sentinel, .sentinel, .data, .data, .data, .data, .data, .pinned], laidTests := true, laidLooks := .later }
def UnitsLocalityCardSaid : Prop := Claim7.holds Tryz.pinned (.plain (OpenSpec.ofChange unitsLocalitySpec)) unitsLocalityCard

/-- THE TIED CARD OF 'wageofficelaw09.UnitsClauses'. -/
def unitsClausesCard : Claim7 := { stood := { row := unitsClausesRow, standIns := [], harness := (true, "db3dbb7ac5c7cee9768900cf1489db22aa13c78a358e1d91fefdf61df04e515e"), looks := true }, kinds := [], alts := [], laidByText := true, laidKinds := [.data, .data, .data, .data, .sentinel, .sentinel, .data, .data, .data, .data, .data, .pinned], laidTests := true, laidLooks := .later }
def UnitsClausesCardSaid : Prop := Claim7.holds Tryz.pinned (.plain (OpenSpec.ofChange unitsClausesSpec)) unitsClausesCard

/-- THE TIED CARD OF 'wageofficelaw09.UnitsParts'. -/
def unitsPartsCard : Claim7 := { stood := { row := unitsPartsRow, standIns := [], harness := (true, "db3dbb7ac5c7cee9768900cf1489db22aa13c78a358e1d91fefdf61df04e515e"), looks := true }, kinds := [], alts := [], laidByText := true, laidKinds := [.data, .data, .data, .data, .sentinel, .sentinel, .data, .data, .data, .data, .data, .pinned], laidTests := true, laidLooks := .later }
def UnitsPartsCardSaid : Prop := Claim7.holds Tryz.pinned (.plain (OpenSpec.ofChange unitsPartsSpec)) unitsPartsCard

/-- THE TIED CARD OF 'wageofficelaw09.UnitsOffsets'. -/
def unitsOffsetsCard : Claim7 := { stood := { row := unitsOffsetsRow, standIns := [], harness := (true, "db3dbb7ac5c7cee9768900cf1489db22aa13c78a358e1d91fefdf61df04e515e"), looks := true }, kinds := [], alts := [], laidByText := true, laidKinds := [.data, .data, .data, .data, .sentinel, .sentinel, .data, .data, .data, .data, .data, .pinned], laidTests := true, laidLooks := .later }
def UnitsOffsetsCardSaid : Prop := Claim7.holds Tryz.pinned (.plain (OpenSpec.ofChange unitsOffsetsSpec)) unitsOffsetsCard

/-- THE SECOND FORM's CARD OF 'wageofficelaw09.UnitsMatchesReference'. -/
def unitsMatchesReferenceUptoCard : Claim7 := { stood := { row := unitsMatchesReferenceUptoRow, standIns := [], harness := (true, "db3dbb7ac5c7cee9768900cf1489db22aa13c78a358e1d91fefdf61df04e515e"), looks := true }, kinds := [], alts := [], laidByText := true, laidKinds := [.data, .data, .data, .data, .sentinel, .sentinel, .data, .data, .data, .data, .data, .pinned], laidTests := true, laidLooks := .later }
def UnitsMatchesReferenceUptoCardSaid : Prop := Claim7.holds Tryz.pinned (.plain (OpenSpec.upto unitsMatchesReferenceSpec)) unitsMatchesReferenceUptoCard

/-- THE SECOND FORM's CARD OF 'wageofficelaw09.UnitsOperands'. -/
def unitsOperandsUptoCard : Claim7 := { stood := { row := unitsOperandsUptoRow, standIns := [], harness := (true, "db3dbb7ac5c7cee9768900cf1489db22aa13c78a358e1d91fefdf61df04e515e"), looks := true }, kinds := [], alts := [], laidByText := true, laidKinds := [.data, .data, .data, .data, .sentinel, .sentinel, .data, .data, .data, .data, .data, .pinned], laidTests := true, laidLooks := .later }
def UnitsOperandsUptoCardSaid : Prop := Claim7.holds Tryz.pinned (.plain (OpenSpec.upto unitsOperandsSpec)) unitsOperandsUptoCard

/-- THE SECOND FORM's CARD OF 'wageofficelaw09.UnitsNames'. -/
def unitsNamesUptoCard : Claim7 := { stood := { row := unitsNamesUptoRow, standIns := [], harness := (true, "db3dbb7ac5c7cee9768900cf1489db22aa13c78a358e1d91fefdf61df04e515e"), looks := true }, kinds := [], alts := [], laidByText := true, laidKinds := [.data, .data, .data, .data, .sentinel, .sentinel, .data, .data, .data, .data, .data, .pinned], laidTests := true, laidLooks := .later }
def UnitsNamesUptoCardSaid : Prop := Claim7.holds Tryz.pinned (.plain (OpenSpec.upto unitsNamesSpec)) unitsNamesUptoCard

/-- THE SECOND FORM's CARD OF 'wageofficelaw09.UnitsCurrencies'. -/
def unitsCurrenciesUptoCard : Claim7 := { stood := { row := unitsCurrenciesUptoRow, standIns := [], harness := (true, "db3dbb7ac5c7cee9768900cf1489db22aa13c78a358e1d91fefdf61df04e515e"), looks := true }, kinds := [], alts := [], laidByText := true, laidKinds := [.data, .data, .data, .data, .sentinel, .sentinel, .data, .data, .data, .data, .data, .pinned], laidTests := true, laidLooks := .later }
def UnitsCurrenciesUptoCardSaid : Prop := Claim7.holds Tryz.pinned (.plain (OpenSpec.upto unitsCurrenciesSpec)) unitsCurrenciesUptoCard

/-- THE SECOND FORM's CARD OF 'wageofficelaw09.UnitsLocality'. -/
def unitsLocalityUptoCard : Claim7 := { stood := { row := unitsLocalityUptoRow, standIns := [], harness := (true, "db3dbb7ac5c7cee9768900cf1489db22aa13c78a358e1d91fefdf61df04e515e"), looks := true }, kinds := [], alts := [], laidByText := true, laidKinds := [.data, .data, .data, .data, .sentinel, .sentinel, .data, .data, .data, .data, .data, .pinned], laidTests := true, laidLooks := .later }
def UnitsLocalityUptoCardSaid : Prop := Claim7.holds Tryz.pinned (.plain (OpenSpec.upto unitsLocalitySpec)) unitsLocalityUptoCard

/-- THE SECOND FORM's CARD OF 'wageofficelaw09.UnitsClauses'. -/
def unitsClausesUptoCard : Claim7 := { stood := { row := unitsClausesUptoRow, standIns := [], harness := (true, "db3dbb7ac5c7cee9768900cf1489db22aa13c78a358e1d91fefdf61df04e515e"), looks := true }, kinds := [], alts := [], laidByText := true, laidKinds := [.data, .data, .data, .data, .sentinel, .sentinel, .data, .data, .data, .data, .data, .pinned], laidTests := true, laidLooks := .later }
def UnitsClausesUptoCardSaid : Prop := Claim7.holds Tryz.pinned (.plain (OpenSpec.upto unitsClausesSpec)) unitsClausesUptoCard

/-- THE SECOND FORM's CARD OF 'wageofficelaw09.UnitsParts'. -/
def unitsPartsUptoCard : Claim7 := { stood := { row := unitsPartsUptoRow, standIns := [], harness := (true, "db3dbb7ac5c7cee9768900cf1489db22aa13c78a358e1d91fefdf61df04e515e"), looks := true }, kinds := [], alts := [], laidByText := true, laidKinds := [.data, .data, .data, .data, .sentinel, .sentinel, .data, .data, .data, .data, .data, .pinned], laidTests := true, laidLooks := .later }
def UnitsPartsUptoCardSaid : Prop := Claim7.holds Tryz.pinned (.plain (OpenSpec.upto unitsPartsSpec)) unitsPartsUptoCard

/-- THE SECOND FORM's CARD OF 'wageofficelaw09.UnitsOffsets'. -/
def unitsOffsetsUptoCard : Claim7 := { stood := { row := unitsOffsetsUptoRow, standIns := [], harness := (true, "db3dbb7ac5c7cee9768900cf1489db22aa13c78a358e1d91fefdf61df04e515e"), looks := true }, kinds := [], alts := [], laidByText := true, laidKinds := [.data, .data, .data, .data, .sentinel, .sentinel, .data, .data, .data, .data, .data, .pinned], laidTests := true, laidLooks := .later }
def UnitsOffsetsUptoCardSaid : Prop := Claim7.holds Tryz.pinned (.plain (OpenSpec.upto unitsOffsetsSpec)) unitsOffsetsUptoCard
end Rows
end Go.Proofs.YtkfplcngmiljaaaGreatDoor
