/-
  DERIVED. GIVEN WITH THE SEED: THE CARDS: each row of YtkcimienkafhmaaGreatDoorRows.lean that lists a variable, with what it lists TIED to the program's text (the seventh form; the later family's looks); each row that meets fmt, with fmt's text TOLD by the authors' own Lean function (tested against real Go, not proved from fmt's source: count such statements apart). THE CARD IS WHAT COUNTS. Prove the row's statement (the work); the ties are given (YtkcimienkafhmaaGreatDoorTie.lean); close each card by the builder's one call (the guide's Derived/Test/ToyasCard.lean, 'card_holds'). Laid BY PROGRAM, IN A SANDBOX (cutbox-door.mjs). By AI agents, Wed Nov 11 2026. No macro, syntax, notation, axiom, sorry.
-/
import Derived.Test.YtkcimienkafhmaaGreatDoorRows
import GoSem.ClaimSeven
namespace Go.Proofs.YtkcimienkafhmaaGreatDoor
namespace Rows

/-- THE TIED CARD OF 'wageofficelaw08.PrinterMatchesReference'. -/
def printerMatchesReferenceCard : Claim7 := { stood := { row := printerMatchesReferenceRow, standIns := [], harness := (true, "5bd70a0b19f8308bf76b38ad47079f8f873ad1634d290b2cbea2e7271fca78da"), looks := true }, kinds := [], alts := [], laidByText := true, laidKinds := [.data, .data, .data, .data, .sentinel, .sentinel, .data, .data, .data, .data, .data, .data, .pinned], laidTests := true, laidLooks := .later }
def PrinterMatchesReferenceCardSaid : Prop := Claim7.holds Tryz.pinned (.plain (OpenSpec.ofChange printerMatchesReferenceSpec)) printerMatchesReferenceCard

/-- THE TIED CARD OF 'wageofficelaw08.PrinterParentheses'. -/
def printerParenthesesCard : Claim7 := { stood := { row := printerParenthesesRow, standIns := [], harness := (true, "5bd70a0b19f8308bf76b38ad47079f8f873ad1634d290b2cbea2e7271fca78da"), looks := true }, kinds := [], alts := [], laidByText := true, laidKinds := [.data, .data, .data, .data, .sentinel, .sentinel, .data, .data, .data, .data, .data, .data, .pinned], laidTests := true, laidLooks := .later }
def PrinterParenthesesCardSaid : Prop := Claim7.holds Tryz.pinned (.plain (OpenSpec.ofChange printerParenthesesSpec)) printerParenthesesCard

/-- THE TIED CARD OF 'wageofficelaw08.PrinterShortest'. -/
def printerShortestCard : Claim7 := { stood := { row := printerShortestRow, standIns := [], harness := (true, "5bd70a0b19f8308bf76b38ad47079f8f873ad1634d290b2cbea2e7271fca78da"), looks := true }, kinds := [], alts := [], laidByText := true, laidKinds := [.data, .data, .data, .data, .sentinel, .sentinel, .data, .data, .data, .data, .data, .data, .pinned], laidTests := true, laidLooks := .later }
def PrinterShortestCardSaid : Prop := Claim7.holds Tryz.pinned (.plain (OpenSpec.ofChange printerShortestSpec)) printerShortestCard

/-- THE TIED CARD OF 'wageofficelaw08.PrinterItems'. -/
def printerItemsCard : Claim7 := { stood := { row := printerItemsRow, standIns := [], harness := (true, "5bd70a0b19f8308bf76b38ad47079f8f873ad1634d290b2cbea2e7271fca78da"), looks := true }, kinds := [], alts := [], laidByText := true, laidKinds := [.data, .data, .data, .data, .sentinel, .sentinel, .data, .data, .data, .data, .data, .data, .pinned], laidTests := true, laidLooks := .later }
def PrinterItemsCardSaid : Prop := Claim7.holds Tryz.pinned (.plain (OpenSpec.ofChange printerItemsSpec)) printerItemsCard

/-- THE TIED CARD OF 'wageofficelaw08.PrinterInverse'. -/
def printerInverseCard : Claim7 := { stood := { row := printerInverseRow, standIns := [], harness := (true, "5bd70a0b19f8308bf76b38ad47079f8f873ad1634d290b2cbea2e7271fca78da"), looks := true }, kinds := [], alts := [], laidByText := true, laidKinds := [.data, .data, .data, .data, .sentinel, .sentinel, .data, .data, .data, .data, .data, .data, .pinned], laidTests := true, laidLooks := .later }
def PrinterInverseCardSaid : Prop := Claim7.holds Tryz.pinned (.plain (OpenSpec.ofChange printerInverseSpec)) printerInverseCard

/-- THE TIED CARD OF 'wageofficelaw08.PrinterCanonical'. -/
def printerCanonicalCard : Claim7 := { stood := { row := printerCanonicalRow, standIns := [], harness := (true, "5bd70a0b19f8308bf76b38ad47079f8f873ad1634d290b2cbea2e7271fca78da"), looks := true }, kinds := [], alts := [], laidByText := true, laidKinds := [.data, .data, .data, .data, .sentinel, .sentinel, .data, .data, .data, .data, .data, .data, .pinned], laidTests := true, laidLooks := .later }
def PrinterCanonicalCardSaid : Prop := Claim7.holds Tryz.pinned (.plain (OpenSpec.ofChange printerCanonicalSpec)) printerCanonicalCard

/-- THE SECOND FORM's CARD OF 'wageofficelaw08.PrinterMatchesReference'. -/
def printerMatchesReferenceUptoCard : Claim7 := { stood := { row := printerMatchesReferenceUptoRow, standIns := [], harness := (true, "5bd70a0b19f8308bf76b38ad47079f8f873ad1634d290b2cbea2e7271fca78da"), looks := true }, kinds := [], alts := [], laidByText := true, laidKinds := [.data, .data, .data, .data, .sentinel, .sentinel, .data, .data, .data, .data, .data, .data, .pinned], laidTests := true, laidLooks := .later }
def PrinterMatchesReferenceUptoCardSaid : Prop := Claim7.holds Tryz.pinned (.plain (OpenSpec.upto printerMatchesReferenceSpec)) printerMatchesReferenceUptoCard

/-- THE SECOND FORM's CARD OF 'wageofficelaw08.PrinterParentheses'. -/
def printerParenthesesUptoCard : Claim7 := { stood := { row := printerParenthesesUptoRow, standIns := [], harness := (true, "5bd70a0b19f8308bf76b38ad47079f8f873ad1634d290b2cbea2e7271fca78da"), looks := true }, kinds := [], alts := [], laidByText := true, laidKinds := [.data, .data, .data, .data, .sentinel, .sentinel, .data, .data, .data, .data, .data, .data, .pinned], laidTests := true, laidLooks := .later }
def PrinterParenthesesUptoCardSaid : Prop := Claim7.holds Tryz.pinned (.plain (OpenSpec.upto printerParenthesesSpec)) printerParenthesesUptoCard

/-- THE SECOND FORM's CARD OF 'wageofficelaw08.PrinterShortest'. -/
def printerShortestUptoCard : Claim7 := { stood := { row := printerShortestUptoRow, standIns := [], harness := (true, "5bd70a0b19f8308bf76b38ad47079f8f873ad1634d290b2cbea2e7271fca78da"), looks := true }, kinds := [], alts := [], laidByText := true, laidKinds := [.data, .data, .data, .data, .sentinel, .sentinel, .data, .data, .data, .data, .data, .data, .pinned], laidTests := true, laidLooks := .later }
def PrinterShortestUptoCardSaid : Prop := Claim7.holds Tryz.pinned (.plain (OpenSpec.upto printerShortestSpec)) printerShortestUptoCard

/-- THE SECOND FORM's CARD OF 'wageofficelaw08.PrinterItems'. -/
def printerItemsUptoCard : Claim7 := { stood := { row := printerItemsUptoRow, standIns := [], harness := (true, "5bd70a0b19f8308bf76b38ad47079f8f873ad1634d290b2cbea2e7271fca78da"), looks := true }, kinds := [], alts := [], laidByText := true, laidKinds := [.data, .data, .data, .data, .sentinel, .sentinel, .data, .data, .data, .data, .data, .data, .pinned], laidTests := true, laidLooks := .later }
def PrinterItemsUptoCardSaid : Prop := Claim7.holds Tryz.pinned (.plain (OpenSpec.upto printerItemsSpec)) printerItemsUptoCard

/-- THE SECOND FORM's CARD OF 'wageofficelaw08.PrinterInverse'. -/
def printerInverseUptoCard : Claim7 := { stood := { row := printerInverseUptoRow, standIns := [], harness := (true, "5bd70a0b19f8308bf76b38ad47079f8f873ad1634d290b2cbea2e7271fca78da"), looks := true }, kinds := [], alts := [], laidByText := true, laidKinds := [.data, .data, .data, .data, .sentinel, .sentinel, .data, .data, .data, .data, .data, .data, .pinned], laidTests := true, laidLooks := .later }
def PrinterInverseUptoCardSaid : Prop := Claim7.holds Tryz.pinned (.plain (OpenSpec.upto printerInverseSpec)) printerInverseUptoCard

/-- THE SECOND FORM's CARD OF 'wageofficelaw08.PrinterCanonical'. -/
def printerCanonicalUptoCard : Claim7 := { stood := { row := printerCanonicalUptoRow, standIns := [], harness := (true, "5bd70a0b19f8308bf76b38ad47079f8f873ad1634d290b2cbea2e7271fca78da"), looks := true }, kinds := [], alts := [], laidByText := true, laidKinds := [.data, .data, .data, .data, .sentinel, .sentinel, .data, .data, .data, .data, .data, .data, .pinned], laidTests := true, laidLooks := .later }
def PrinterCanonicalUptoCardSaid : Prop := Claim7.holds Tryz.pinned (.plain (OpenSpec.upto printerCanonicalSpec)) printerCanonicalUptoCard
end Rows
end Go.Proofs.YtkcimienkafhmaaGreatDoor
