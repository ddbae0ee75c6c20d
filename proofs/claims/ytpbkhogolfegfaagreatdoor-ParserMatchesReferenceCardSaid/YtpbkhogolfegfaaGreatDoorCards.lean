/-
  DERIVED. GIVEN WITH THE SEED: THE CARDS: each row of YtpbkhogolfegfaaGreatDoorRows.lean that lists a variable, with what it lists TIED to the program's text (the seventh form; the later family's looks); each row that meets fmt, with fmt's text TOLD by the authors' own Lean function (tested against real Go, not proved from fmt's source: count such statements apart). THE CARD IS WHAT COUNTS. Prove the row's statement (the work); the ties are given (YtpbkhogolfegfaaGreatDoorTie.lean); close each card by the builder's one call (the guide's Derived/Test/ToyasCard.lean, 'card_holds'). Laid BY PROGRAM, IN A SANDBOX (cutbox-door.mjs). By AI agents, Wed Nov 11 2026. No macro, syntax, notation, axiom, sorry.
-/
import Derived.Test.YtpbkhogolfegfaaGreatDoorRows
import GoSem.ClaimSeven
namespace Go.Proofs.YtpbkhogolfegfaaGreatDoor
namespace Rows

/-- THE TIED CARD OF 'wageofficelaw07.ParserItems'. -/
def parserItemsCard : Claim7 := { stood := { row := parserItemsRow, standIns := [], harness := (true, "a5fc807bc477db8e72515f88f6893b90d14f13fe833402c2037b0358fceb6f4c"), looks := true }, kinds := [], alts := [], laidByText := true, laidKinds := [.data, .data, .data, .data, .sentinel, .sentinel, .data, .data, .data, .data, .data, .pinned], laidTests := true, laidLooks := .later }
def ParserItemsCardSaid : Prop := Claim7.holds Tryz.pinned (.plain (OpenSpec.ofChange parserItemsSpec)) parserItemsCard

/-- THE TIED CARD OF 'wageofficelaw07.ParserPrefixes'. -/
def parserPrefixesCard : Claim7 := { stood := { row := parserPrefixesRow, standIns := [], harness := (true, "a5fc807bc477db8e72515f88f6893b90d14f13fe833402c2037b0358fceb6f4c"), looks := true }, kinds := [], alts := [], laidByText := true, laidKinds := [.data, .data, .data, .data, .sentinel, .sentinel, .data, .data, .data, .data, .data, .pinned], laidTests := true, laidLooks := .later }
def ParserPrefixesCardSaid : Prop := Claim7.holds Tryz.pinned (.plain (OpenSpec.ofChange parserPrefixesSpec)) parserPrefixesCard

/-- THE TIED CARD OF 'wageofficelaw07.ParserMatchesReference'. -/
def parserMatchesReferenceCard : Claim7 := { stood := { row := parserMatchesReferenceRow, standIns := [], harness := (true, "a5fc807bc477db8e72515f88f6893b90d14f13fe833402c2037b0358fceb6f4c"), looks := true }, kinds := [], alts := [], laidByText := true, laidKinds := [.data, .data, .data, .data, .sentinel, .sentinel, .data, .data, .data, .data, .data, .pinned], laidTests := true, laidLooks := .later }
def ParserMatchesReferenceCardSaid : Prop := Claim7.holds Tryz.pinned (.plain (OpenSpec.ofChange parserMatchesReferenceSpec)) parserMatchesReferenceCard

/-- THE TIED CARD OF 'wageofficelaw07.ParserTrees'. -/
def parserTreesCard : Claim7 := { stood := { row := parserTreesRow, standIns := [], harness := (true, "a5fc807bc477db8e72515f88f6893b90d14f13fe833402c2037b0358fceb6f4c"), looks := true }, kinds := [], alts := [], laidByText := true, laidKinds := [.data, .data, .data, .data, .sentinel, .sentinel, .data, .data, .data, .data, .data, .pinned], laidTests := true, laidLooks := .later }
def ParserTreesCardSaid : Prop := Claim7.holds Tryz.pinned (.plain (OpenSpec.ofChange parserTreesSpec)) parserTreesCard

/-- THE TIED CARD OF 'wageofficelaw07.ParserGaps'. -/
def parserGapsCard : Claim7 := { stood := { row := parserGapsRow, standIns := [], harness := (true, "a5fc807bc477db8e72515f88f6893b90d14f13fe833402c2037b0358fceb6f4c"), looks := true }, kinds := [], alts := [], laidByText := true, laidKinds := [.data, .data, .data, .data, .sentinel, .sentinel, .data, .data, .data, .data, .data, .pinned], laidTests := true, laidLooks := .later }
def ParserGapsCardSaid : Prop := Claim7.holds Tryz.pinned (.plain (OpenSpec.ofChange parserGapsSpec)) parserGapsCard

/-- THE TIED CARD OF 'wageofficelaw07.ParserParentheses'. -/
def parserParenthesesCard : Claim7 := { stood := { row := parserParenthesesRow, standIns := [], harness := (true, "a5fc807bc477db8e72515f88f6893b90d14f13fe833402c2037b0358fceb6f4c"), looks := true }, kinds := [], alts := [], laidByText := true, laidKinds := [.data, .data, .data, .data, .sentinel, .sentinel, .data, .data, .data, .data, .data, .pinned], laidTests := true, laidLooks := .later }
def ParserParenthesesCardSaid : Prop := Claim7.holds Tryz.pinned (.plain (OpenSpec.ofChange parserParenthesesSpec)) parserParenthesesCard

/-- THE TIED CARD OF 'wageofficelaw07.ParserLevels'. -/
def parserLevelsCard : Claim7 := { stood := { row := parserLevelsRow, standIns := [], harness := (true, "a5fc807bc477db8e72515f88f6893b90d14f13fe833402c2037b0358fceb6f4c"), looks := true }, kinds := [], alts := [], laidByText := true, laidKinds := [.data, .data, .data, .data, .sentinel, .sentinel, .data, .data, .data, .data, .data, .pinned], laidTests := true, laidLooks := .later }
def ParserLevelsCardSaid : Prop := Claim7.holds Tryz.pinned (.plain (OpenSpec.ofChange parserLevelsSpec)) parserLevelsCard

/-- THE SECOND FORM's CARD OF 'wageofficelaw07.ParserItems'. -/
def parserItemsUptoCard : Claim7 := { stood := { row := parserItemsUptoRow, standIns := [], harness := (true, "a5fc807bc477db8e72515f88f6893b90d14f13fe833402c2037b0358fceb6f4c"), looks := true }, kinds := [], alts := [], laidByText := true, laidKinds := [.data, .data, .data, .data, .sentinel, .sentinel, .data, .data, .data, .data, .data, .pinned], laidTests := true, laidLooks := .later }
def ParserItemsUptoCardSaid : Prop := Claim7.holds Tryz.pinned (.plain (OpenSpec.upto parserItemsSpec)) parserItemsUptoCard

/-- THE SECOND FORM's CARD OF 'wageofficelaw07.ParserPrefixes'. -/
def parserPrefixesUptoCard : Claim7 := { stood := { row := parserPrefixesUptoRow, standIns := [], harness := (true, "a5fc807bc477db8e72515f88f6893b90d14f13fe833402c2037b0358fceb6f4c"), looks := true }, kinds := [], alts := [], laidByText := true, laidKinds := [.data, .data, .data, .data, .sentinel, .sentinel, .data, .data, .data, .data, .data, .pinned], laidTests := true, laidLooks := .later }
def ParserPrefixesUptoCardSaid : Prop := Claim7.holds Tryz.pinned (.plain (OpenSpec.upto parserPrefixesSpec)) parserPrefixesUptoCard

/-- THE SECOND FORM's CARD OF 'wageofficelaw07.ParserMatchesReference'. -/
def parserMatchesReferenceUptoCard : Claim7 := { stood := { row := parserMatchesReferenceUptoRow, standIns := [], harness := (true, "a5fc807bc477db8e72515f88f6893b90d14f13fe833402c2037b0358fceb6f4c"), looks := true }, kinds := [], alts := [], laidByText := true, laidKinds := [.data, .data, .data, .data, .sentinel, .sentinel, .data, .data, .data, .data, .data, .pinned], laidTests := true, laidLooks := .later }
def ParserMatchesReferenceUptoCardSaid : Prop := Claim7.holds Tryz.pinned (.plain (OpenSpec.upto parserMatchesReferenceSpec)) parserMatchesReferenceUptoCard

/-- THE SECOND FORM's CARD OF 'wageofficelaw07.ParserTrees'. -/
def parserTreesUptoCard : Claim7 := { stood := { row := parserTreesUptoRow, standIns := [], harness := (true, "a5fc807bc477db8e72515f88f6893b90d14f13fe833402c2037b0358fceb6f4c"), looks := true }, kinds := [], alts := [], laidByText := true, laidKinds := [.data, .data, .data, .data, .sentinel, .sentinel, .data, .data, .data, .data, .data, .pinned], laidTests := true, laidLooks := .later }
def ParserTreesUptoCardSaid : Prop := Claim7.holds Tryz.pinned (.plain (OpenSpec.upto parserTreesSpec)) parserTreesUptoCard

/-- THE SECOND FORM's CARD OF 'wageofficelaw07.ParserGaps'. -/
def parserGapsUptoCard : Claim7 := { stood := { row := parserGapsUptoRow, standIns := [], harness := (true, "a5fc807bc477db8e72515f88f6893b90d14f13fe833402c2037b0358fceb6f4c"), looks := true }, kinds := [], alts := [], laidByText := true, laidKinds := [.data, .data, .data, .data, .sentinel, .sentinel, .data, .data, .data, .data, .data, .pinned], laidTests := true, laidLooks := .later }
def ParserGapsUptoCardSaid : Prop := Claim7.holds Tryz.pinned (.plain (OpenSpec.upto parserGapsSpec)) parserGapsUptoCard

/-- THE SECOND FORM's CARD OF 'wageofficelaw07.ParserParentheses'. -/
def parserParenthesesUptoCard : Claim7 := { stood := { row := parserParenthesesUptoRow, standIns := [], harness := (true, "a5fc807bc477db8e72515f88f6893b90d14f13fe833402c2037b0358fceb6f4c"), looks := true }, kinds := [], alts := [], laidByText := true, laidKinds := [.data, .data, .data, .data, .sentinel, .sentinel, .data, .data, .data, .data, .data, .pinned], laidTests := true, laidLooks := .later }
def ParserParenthesesUptoCardSaid : Prop := Claim7.holds Tryz.pinned (.plain (OpenSpec.upto parserParenthesesSpec)) parserParenthesesUptoCard

/-- THE SECOND FORM's CARD OF 'wageofficelaw07.ParserLevels'. -/
def parserLevelsUptoCard : Claim7 := { stood := { row := parserLevelsUptoRow, standIns := [], harness := (true, "a5fc807bc477db8e72515f88f6893b90d14f13fe833402c2037b0358fceb6f4c"), looks := true }, kinds := [], alts := [], laidByText := true, laidKinds := [.data, .data, .data, .data, .sentinel, .sentinel, .data, .data, .data, .data, .data, .pinned], laidTests := true, laidLooks := .later }
def ParserLevelsUptoCardSaid : Prop := Claim7.holds Tryz.pinned (.plain (OpenSpec.upto parserLevelsSpec)) parserLevelsUptoCard
end Rows
end Go.Proofs.YtpbkhogolfegfaaGreatDoor
