/-
  DERIVED. GIVEN WITH THE SEED: THE CARDS: each row of YtibgibjmpcajkaaGreatDoorRows.lean that lists a variable, with what it lists TIED to the program's text (the seventh form; the later family's looks); each row that meets fmt, with fmt's text TOLD by the authors' own Lean function (tested against real Go, not proved from fmt's source: count such statements apart). THE CARD IS WHAT COUNTS. Prove the row's statement (the work); the ties are given (YtibgibjmpcajkaaGreatDoorTie.lean); close each card by the builder's one call (the guide's Derived/Test/ToyasCard.lean, 'card_holds'). Laid BY PROGRAM, IN A SANDBOX (cutbox-door.mjs). By AI agents, Wed Nov 11 2026. No macro, syntax, notation, axiom, sorry.
-/
import Derived.Test.YtibgibjmpcajkaaGreatDoorRows
import GoSem.ClaimSeven
namespace Go.Proofs.YtibgibjmpcajkaaGreatDoor
namespace Rows

/-- THE TIED CARD OF 'wageofficelaw38.BankfileMatchesReference'. -/
def bankfileMatchesReferenceCard : Claim7 := { stood := { row := bankfileMatchesReferenceRow, standIns := [], harness := (true, "b0017278f4b73e5ea318662629dde285a107b9eb147038362007a21eb56d04c3"), looks := true }, kinds := [], alts := [], laidByText := true, laidKinds := [.data, .data, .data, .data, .sentinel, .sentinel, .data, .data, .pinned], laidTests := true, laidLooks := .later }
def BankfileMatchesReferenceCardSaid : Prop := Claim7.holds Tryz.pinned (.plain (OpenSpec.ofChange bankfileMatchesReferenceSpec)) bankfileMatchesReferenceCard

/-- THE TIED CARD OF 'wageofficelaw38.BankfileInverse'. -/
def bankfileInverseCard : Claim7 := { stood := { row := bankfileInverseRow, standIns := [], harness := (true, "b0017278f4b73e5ea318662629dde285a107b9eb147038362007a21eb56d04c3"), looks := true }, kinds := [], alts := [], laidByText := true, laidKinds := [.data, .data, .data, .data, .sentinel, .sentinel, .data, .data, .pinned], laidTests := true, laidLooks := .later }
def BankfileInverseCardSaid : Prop := Claim7.holds Tryz.pinned (.plain (OpenSpec.ofChange bankfileInverseSpec)) bankfileInverseCard

/-- THE TIED CARD OF 'wageofficelaw38.BankfileDamaged'. -/
def bankfileDamagedCard : Claim7 := { stood := { row := bankfileDamagedRow, standIns := [], harness := (true, "b0017278f4b73e5ea318662629dde285a107b9eb147038362007a21eb56d04c3"), looks := true }, kinds := [], alts := [], laidByText := true, laidKinds := [.data, .data, .data, .data, .sentinel, .sentinel, .data, .data, .pinned], laidTests := true, laidLooks := .later }
def BankfileDamagedCardSaid : Prop := Claim7.holds Tryz.pinned (.plain (OpenSpec.ofChange bankfileDamagedSpec)) bankfileDamagedCard

/-- THE TIED CARD OF 'wageofficelaw38.BankfileAccounts'. -/
def bankfileAccountsCard : Claim7 := { stood := { row := bankfileAccountsRow, standIns := [], harness := (true, "b0017278f4b73e5ea318662629dde285a107b9eb147038362007a21eb56d04c3"), looks := true }, kinds := [], alts := [], laidByText := true, laidKinds := [.data, .data, .data, .data, .sentinel, .sentinel, .data, .data, .pinned], laidTests := true, laidLooks := .later }
def BankfileAccountsCardSaid : Prop := Claim7.holds Tryz.pinned (.plain (OpenSpec.ofChange bankfileAccountsSpec)) bankfileAccountsCard

/-- THE TIED CARD OF 'wageofficelaw38.BankfileDiffers'. -/
def bankfileDiffersCard : Claim7 := { stood := { row := bankfileDiffersRow, standIns := [], harness := (true, "b0017278f4b73e5ea318662629dde285a107b9eb147038362007a21eb56d04c3"), looks := true }, kinds := [], alts := [], laidByText := true, laidKinds := [.data, .data, .data, .data, .sentinel, .sentinel, .data, .data, .pinned], laidTests := true, laidLooks := .later }
def BankfileDiffersCardSaid : Prop := Claim7.holds Tryz.pinned (.plain (OpenSpec.ofChange bankfileDiffersSpec)) bankfileDiffersCard

/-- THE TIED CARD OF 'wageofficelaw38.BankfileRefuses'. -/
def bankfileRefusesCard : Claim7 := { stood := { row := bankfileRefusesRow, standIns := [], harness := (true, "b0017278f4b73e5ea318662629dde285a107b9eb147038362007a21eb56d04c3"), looks := true }, kinds := [], alts := [], laidByText := true, laidKinds := [.data, .data, .data, .data, .sentinel, .sentinel, .data, .data, .pinned], laidTests := true, laidLooks := .later }
def BankfileRefusesCardSaid : Prop := Claim7.holds Tryz.pinned (.plain (OpenSpec.ofChange bankfileRefusesSpec)) bankfileRefusesCard

/-- THE SECOND FORM's CARD OF 'wageofficelaw38.BankfileMatchesReference'. -/
def bankfileMatchesReferenceUptoCard : Claim7 := { stood := { row := bankfileMatchesReferenceUptoRow, standIns := [], harness := (true, "b0017278f4b73e5ea318662629dde285a107b9eb147038362007a21eb56d04c3"), looks := true }, kinds := [], alts := [], laidByText := true, laidKinds := [.data, .data, .data, .data, .sentinel, .sentinel, .data, .data, .pinned], laidTests := true, laidLooks := .later }
def BankfileMatchesReferenceUptoCardSaid : Prop := Claim7.holds Tryz.pinned (.plain (OpenSpec.upto bankfileMatchesReferenceSpec)) bankfileMatchesReferenceUptoCard

/-- THE SECOND FORM's CARD OF 'wageofficelaw38.BankfileInverse'. -/
def bankfileInverseUptoCard : Claim7 := { stood := { row := bankfileInverseUptoRow, standIns := [], harness := (true, "b0017278f4b73e5ea318662629dde285a107b9eb147038362007a21eb56d04c3"), looks := true }, kinds := [], alts := [], laidByText := true, laidKinds := [.data, .data, .data, .data, .sentinel, .sentinel, .data, .data, .pinned], laidTests := true, laidLooks := .later }
def BankfileInverseUptoCardSaid : Prop := Claim7.holds Tryz.pinned (.plain (OpenSpec.upto bankfileInverseSpec)) bankfileInverseUptoCard

/-- THE SECOND FORM's CARD OF 'wageofficelaw38.BankfileDamaged'. -/
def bankfileDamagedUptoCard : Claim7 := { stood := { row := bankfileDamagedUptoRow, standIns := [], harness := (true, "b0017278f4b73e5ea318662629dde285a107b9eb147038362007a21eb56d04c3"), looks := true }, kinds := [], alts := [], laidByText := true, laidKinds := [.data, .data, .data, .data, .sentinel, .sentinel, .data, .data, .pinned], laidTests := true, laidLooks := .later }
def BankfileDamagedUptoCardSaid : Prop := Claim7.holds Tryz.pinned (.plain (OpenSpec.upto bankfileDamagedSpec)) bankfileDamagedUptoCard

/-- THE SECOND FORM's CARD OF 'wageofficelaw38.BankfileAccounts'. -/
def bankfileAccountsUptoCard : Claim7 := { stood := { row := bankfileAccountsUptoRow, standIns := [], harness := (true, "b0017278f4b73e5ea318662629dde285a107b9eb147038362007a21eb56d04c3"), looks := true }, kinds := [], alts := [], laidByText := true, laidKinds := [.data, .data, .data, .data, .sentinel, .sentinel, .data, .data, .pinned], laidTests := true, laidLooks := .later }
def BankfileAccountsUptoCardSaid : Prop := Claim7.holds Tryz.pinned (.plain (OpenSpec.upto bankfileAccountsSpec)) bankfileAccountsUptoCard

/-- THE SECOND FORM's CARD OF 'wageofficelaw38.BankfileDiffers'. -/
def bankfileDiffersUptoCard : Claim7 := { stood := { row := bankfileDiffersUptoRow, standIns := [], harness := (true, "b0017278f4b73e5ea318662629dde285a107b9eb147038362007a21eb56d04c3"), looks := true }, kinds := [], alts := [], laidByText := true, laidKinds := [.data, .data, .data, .data, .sentinel, .sentinel, .data, .data, .pinned], laidTests := true, laidLooks := .later }
def BankfileDiffersUptoCardSaid : Prop := Claim7.holds Tryz.pinned (.plain (OpenSpec.upto bankfileDiffersSpec)) bankfileDiffersUptoCard

/-- THE SECOND FORM's CARD OF 'wageofficelaw38.BankfileRefuses'. -/
def bankfileRefusesUptoCard : Claim7 := { stood := { row := bankfileRefusesUptoRow, standIns := [], harness := (true, "b0017278f4b73e5ea318662629dde285a107b9eb147038362007a21eb56d04c3"), looks := true }, kinds := [], alts := [], laidByText := true, laidKinds := [.data, .data, .data, .data, .sentinel, .sentinel, .data, .data, .pinned], laidTests := true, laidLooks := .later }
def BankfileRefusesUptoCardSaid : Prop := Claim7.holds Tryz.pinned (.plain (OpenSpec.upto bankfileRefusesSpec)) bankfileRefusesUptoCard
end Rows
end Go.Proofs.YtibgibjmpcajkaaGreatDoor
