/-
  NARROWER THAN 'FOR EVERY INPUT', by the rows' own cells (each row's printed sentence says how): CodexMatchesReference: loops · CodexCompiles: loops · CodexVersions: loops · CodexPriority: loops · CodexNeeds: loops · CodexOrder: loops · CodexAdding: loops · CodexNumbers: loops.
  DERIVED. THE GIVEN ROWS OF THIS SEAT. 8 by the template 'for every input the law returns true; each argument reads behind the call as it read before'; 0 by the template 'total and deterministic' (their statements: YtnijkdknnmgoeaaGreatTotals.lean).
  GIVEN WITH THE SEED: the statements are not yours to turn. If you find one false, say at which input.
  Laid BY PROGRAM, IN A SANDBOX (cutbox-rows.mjs): the forced cells as the released guide's own fill.sh prints them over the translation fc063f1dfbe5b579… (all of the seat's roots in one cut). By AI agents, Wed Nov 11 2026. No macro, syntax, notation, axiom, sorry.
-/
import Derived.Test.YtnijkdknnmgoeaaGreatChecked
import GoSem.Claim
import GoSem.ClaimJoined
import GoSem.ClaimMapViews
import Derived.JoinedTies
import Derived.KernelRfl
namespace Go.Proofs.YtnijkdknnmgoeaaGreat
/- THE CELL 'sum', in the pinned program and in every row, IS THE sha256 OF THE DUMP (.gsa) THAT YtnijkdknnmgoeaaGreatProg.lean LOADS. Nothing in Lean hashes anything: it is a label: what it is worth is what the hold of that sum in a sandbox is worth. -/
noncomputable def Tryz.pinned : Pinned := { name := "ytnijkdknnmgoeaagreat", sum := "fc063f1dfbe5b579953686321c03441003ea6bb8568e9a718fcd53c4ff94b93b", checked := Tryz.checked }
namespace Rows
def none {H : Type} : Left H := { results := [], args := [] }

/-- 'wageofficelaw10.CodexMatchesReference': WHATEVER THE INPUT: true; the input reads as it did. -/
def codexMatchesReferenceSpec : ChangeSpec := { name := "codexMatchesReference", fn := fun _ => fun
  | [d1, d2, d3, d4, d5, d6, d7] => { results := [.lit (.bool true)], args := [d1, d2, d3, d4, d5, d6, d7] }
  | _ => none }
def codexMatchesReferenceRow : OpenClaim := { program := "ytnijkdknnmgoeaagreat", sum := "fc063f1dfbe5b579953686321c03441003ea6bb8568e9a718fcd53c4ff94b93b", func := "wageoffice/wageofficelaw10.CodexMatchesReference", spec := "codexMatchesReference", unfollowed := true, recurses := true, loops := true, apart := false }
def CodexMatchesReferenceSaid : Prop := codexMatchesReferenceRow.holds Tryz.pinned (OpenSpec.ofChange codexMatchesReferenceSpec)

/-- ITS FALSE NEIGHBOUR: 'it returns false'. Refute it at one input. -/
def codexMatchesReferenceWrong : ChangeSpec := { name := "codexMatchesReference", fn := fun _ => fun
  | [d1, d2, d3, d4, d5, d6, d7] => { results := [.lit (.bool false)], args := [d1, d2, d3, d4, d5, d6, d7] }
  | _ => none }
def CodexMatchesReferenceWrongFalsely : Prop := codexMatchesReferenceRow.holds Tryz.pinned (OpenSpec.ofChange codexMatchesReferenceWrong)

/-- 'wageofficelaw10.CodexCompiles': WHATEVER THE INPUT: true; the input reads as it did. -/
def codexCompilesSpec : ChangeSpec := { name := "codexCompiles", fn := fun _ => fun
  | [d] => { results := [.lit (.bool true)], args := [d] }
  | _ => none }
def codexCompilesRow : OpenClaim := { program := "ytnijkdknnmgoeaagreat", sum := "fc063f1dfbe5b579953686321c03441003ea6bb8568e9a718fcd53c4ff94b93b", func := "wageoffice/wageofficelaw10.CodexCompiles", spec := "codexCompiles", unfollowed := true, recurses := true, loops := true, apart := false }
def CodexCompilesSaid : Prop := codexCompilesRow.holds Tryz.pinned (OpenSpec.ofChange codexCompilesSpec)

/-- ITS FALSE NEIGHBOUR: 'it returns false'. Refute it at one input. -/
def codexCompilesWrong : ChangeSpec := { name := "codexCompiles", fn := fun _ => fun
  | [d] => { results := [.lit (.bool false)], args := [d] }
  | _ => none }
def CodexCompilesWrongFalsely : Prop := codexCompilesRow.holds Tryz.pinned (OpenSpec.ofChange codexCompilesWrong)

/-- 'wageofficelaw10.CodexVersions': WHATEVER THE INPUT: true; the input reads as it did. -/
def codexVersionsSpec : ChangeSpec := { name := "codexVersions", fn := fun _ => fun
  | [d1, d2, d3, d4] => { results := [.lit (.bool true)], args := [d1, d2, d3, d4] }
  | _ => none }
def codexVersionsRow : OpenClaim := { program := "ytnijkdknnmgoeaagreat", sum := "fc063f1dfbe5b579953686321c03441003ea6bb8568e9a718fcd53c4ff94b93b", func := "wageoffice/wageofficelaw10.CodexVersions", spec := "codexVersions", unfollowed := true, recurses := true, loops := true, apart := false }
def CodexVersionsSaid : Prop := codexVersionsRow.holds Tryz.pinned (OpenSpec.ofChange codexVersionsSpec)

/-- ITS FALSE NEIGHBOUR: 'it returns false'. Refute it at one input. -/
def codexVersionsWrong : ChangeSpec := { name := "codexVersions", fn := fun _ => fun
  | [d1, d2, d3, d4] => { results := [.lit (.bool false)], args := [d1, d2, d3, d4] }
  | _ => none }
def CodexVersionsWrongFalsely : Prop := codexVersionsRow.holds Tryz.pinned (OpenSpec.ofChange codexVersionsWrong)

/-- 'wageofficelaw10.CodexPriority': WHATEVER THE INPUT: true; the input reads as it did. -/
def codexPrioritySpec : ChangeSpec := { name := "codexPriority", fn := fun _ => fun
  | [d1, d2, d3] => { results := [.lit (.bool true)], args := [d1, d2, d3] }
  | _ => none }
def codexPriorityRow : OpenClaim := { program := "ytnijkdknnmgoeaagreat", sum := "fc063f1dfbe5b579953686321c03441003ea6bb8568e9a718fcd53c4ff94b93b", func := "wageoffice/wageofficelaw10.CodexPriority", spec := "codexPriority", unfollowed := true, recurses := true, loops := true, apart := false }
def CodexPrioritySaid : Prop := codexPriorityRow.holds Tryz.pinned (OpenSpec.ofChange codexPrioritySpec)

/-- ITS FALSE NEIGHBOUR: 'it returns false'. Refute it at one input. -/
def codexPriorityWrong : ChangeSpec := { name := "codexPriority", fn := fun _ => fun
  | [d1, d2, d3] => { results := [.lit (.bool false)], args := [d1, d2, d3] }
  | _ => none }
def CodexPriorityWrongFalsely : Prop := codexPriorityRow.holds Tryz.pinned (OpenSpec.ofChange codexPriorityWrong)

/-- 'wageofficelaw10.CodexNeeds': WHATEVER THE INPUT: true; the input reads as it did. -/
def codexNeedsSpec : ChangeSpec := { name := "codexNeeds", fn := fun _ => fun
  | [d1, d2] => { results := [.lit (.bool true)], args := [d1, d2] }
  | _ => none }
def codexNeedsRow : OpenClaim := { program := "ytnijkdknnmgoeaagreat", sum := "fc063f1dfbe5b579953686321c03441003ea6bb8568e9a718fcd53c4ff94b93b", func := "wageoffice/wageofficelaw10.CodexNeeds", spec := "codexNeeds", unfollowed := true, recurses := true, loops := true, apart := false }
def CodexNeedsSaid : Prop := codexNeedsRow.holds Tryz.pinned (OpenSpec.ofChange codexNeedsSpec)

/-- ITS FALSE NEIGHBOUR: 'it returns false'. Refute it at one input. -/
def codexNeedsWrong : ChangeSpec := { name := "codexNeeds", fn := fun _ => fun
  | [d1, d2] => { results := [.lit (.bool false)], args := [d1, d2] }
  | _ => none }
def CodexNeedsWrongFalsely : Prop := codexNeedsRow.holds Tryz.pinned (OpenSpec.ofChange codexNeedsWrong)

/-- 'wageofficelaw10.CodexOrder': WHATEVER THE INPUT: true; the input reads as it did. -/
def codexOrderSpec : ChangeSpec := { name := "codexOrder", fn := fun _ => fun
  | [d] => { results := [.lit (.bool true)], args := [d] }
  | _ => none }
def codexOrderRow : OpenClaim := { program := "ytnijkdknnmgoeaagreat", sum := "fc063f1dfbe5b579953686321c03441003ea6bb8568e9a718fcd53c4ff94b93b", func := "wageoffice/wageofficelaw10.CodexOrder", spec := "codexOrder", unfollowed := true, recurses := true, loops := true, apart := false }
def CodexOrderSaid : Prop := codexOrderRow.holds Tryz.pinned (OpenSpec.ofChange codexOrderSpec)

/-- ITS FALSE NEIGHBOUR: 'it returns false'. Refute it at one input. -/
def codexOrderWrong : ChangeSpec := { name := "codexOrder", fn := fun _ => fun
  | [d] => { results := [.lit (.bool false)], args := [d] }
  | _ => none }
def CodexOrderWrongFalsely : Prop := codexOrderRow.holds Tryz.pinned (OpenSpec.ofChange codexOrderWrong)

/-- 'wageofficelaw10.CodexAdding': WHATEVER THE INPUT: true; the input reads as it did. -/
def codexAddingSpec : ChangeSpec := { name := "codexAdding", fn := fun _ => fun
  | [d1, d2] => { results := [.lit (.bool true)], args := [d1, d2] }
  | _ => none }
def codexAddingRow : OpenClaim := { program := "ytnijkdknnmgoeaagreat", sum := "fc063f1dfbe5b579953686321c03441003ea6bb8568e9a718fcd53c4ff94b93b", func := "wageoffice/wageofficelaw10.CodexAdding", spec := "codexAdding", unfollowed := true, recurses := true, loops := true, apart := false }
def CodexAddingSaid : Prop := codexAddingRow.holds Tryz.pinned (OpenSpec.ofChange codexAddingSpec)

/-- ITS FALSE NEIGHBOUR: 'it returns false'. Refute it at one input. -/
def codexAddingWrong : ChangeSpec := { name := "codexAdding", fn := fun _ => fun
  | [d1, d2] => { results := [.lit (.bool false)], args := [d1, d2] }
  | _ => none }
def CodexAddingWrongFalsely : Prop := codexAddingRow.holds Tryz.pinned (OpenSpec.ofChange codexAddingWrong)

/-- 'wageofficelaw10.CodexNumbers': WHATEVER THE INPUT: true; the input reads as it did. -/
def codexNumbersSpec : ChangeSpec := { name := "codexNumbers", fn := fun _ => fun
  | [d1, d2] => { results := [.lit (.bool true)], args := [d1, d2] }
  | _ => none }
def codexNumbersRow : OpenClaim := { program := "ytnijkdknnmgoeaagreat", sum := "fc063f1dfbe5b579953686321c03441003ea6bb8568e9a718fcd53c4ff94b93b", func := "wageoffice/wageofficelaw10.CodexNumbers", spec := "codexNumbers", unfollowed := true, recurses := true, loops := true, apart := false }
def CodexNumbersSaid : Prop := codexNumbersRow.holds Tryz.pinned (OpenSpec.ofChange codexNumbersSpec)

/-- ITS FALSE NEIGHBOUR: 'it returns false'. Refute it at one input. -/
def codexNumbersWrong : ChangeSpec := { name := "codexNumbers", fn := fun _ => fun
  | [d1, d2] => { results := [.lit (.bool false)], args := [d1, d2] }
  | _ => none }
def CodexNumbersWrongFalsely : Prop := codexNumbersRow.holds Tryz.pinned (OpenSpec.ofChange codexNumbersWrong)

/- THE SECOND FORM. 'bulk': how many values and letters a reading holds, each counted each time it is reached (what is shared counts as often as it is met; a slice's spare places count too). A statement '..UptoSaid' is the law's where the arguments, and the package variables that the reading takes, are together of bulk at most 1048576: NARROWER than '..Said'. Prove '..Said' where nothing that the law and all that it calls make is longer than what came in: it says more and counts as full. Else prove '..UptoSaid'. A law counts once. -/
mutual
def uptoBulk {H : Type} : DataW H → Nat
  | .lit (.string bytes) => bytes.length + 1
  | .lit _ => 1
  | .nil => 1
  | .ptr d => uptoBulk d + 1
  | .slice elems spare => uptoBulkAll elems + uptoBulkAll spare + 1
  | .agg parts => uptoBulkAll parts + 1
  | .iface _ d => uptoBulk d + 1
  | .map entries => uptoBulkEntries entries + 1
  | .held _ => 1
def uptoBulkAll {H : Type} : List (DataW H) → Nat
  | [] => 0
  | d :: r => uptoBulk d + uptoBulkAll r
def uptoBulkEntries {H : Type} : List (Lit × DataW H) → Nat
  | [] => 0
  | x :: r => uptoBulkEntry x + uptoBulkEntries r
def uptoBulkEntry {H : Type} : Lit × DataW H → Nat
  | (.string bytes, d) => bytes.length + uptoBulk d + 1
  | (_, d) => uptoBulk d + 1
 end
def uptoSmall : (H : Type) → List (DataW H) → Bool := fun _ ds => decide (uptoBulkAll ds ≤ 1048576)
def OpenSpec.upto (s : _root_.Go.ChangeSpec) : _root_.Go.OpenSpec := { _root_.Go.OpenSpec.ofChange s with cond := some uptoSmall }

/-- 'wageofficelaw10.CodexMatchesReference', WHERE WHAT IT READS IS OF BULK AT MOST 1048576: true; the input reads as it did. -/
def codexMatchesReferenceUptoRow : OpenClaim := { program := "ytnijkdknnmgoeaagreat", sum := "fc063f1dfbe5b579953686321c03441003ea6bb8568e9a718fcd53c4ff94b93b", func := "wageoffice/wageofficelaw10.CodexMatchesReference", spec := "codexMatchesReference", unfollowed := true, recurses := true, loops := true, apart := false, narrowed := true }
def CodexMatchesReferenceUptoSaid : Prop := codexMatchesReferenceUptoRow.holds Tryz.pinned (OpenSpec.upto codexMatchesReferenceSpec)

/-- 'wageofficelaw10.CodexCompiles', WHERE WHAT IT READS IS OF BULK AT MOST 1048576: true; the input reads as it did. -/
def codexCompilesUptoRow : OpenClaim := { program := "ytnijkdknnmgoeaagreat", sum := "fc063f1dfbe5b579953686321c03441003ea6bb8568e9a718fcd53c4ff94b93b", func := "wageoffice/wageofficelaw10.CodexCompiles", spec := "codexCompiles", unfollowed := true, recurses := true, loops := true, apart := false, narrowed := true }
def CodexCompilesUptoSaid : Prop := codexCompilesUptoRow.holds Tryz.pinned (OpenSpec.upto codexCompilesSpec)

/-- 'wageofficelaw10.CodexVersions', WHERE WHAT IT READS IS OF BULK AT MOST 1048576: true; the input reads as it did. -/
def codexVersionsUptoRow : OpenClaim := { program := "ytnijkdknnmgoeaagreat", sum := "fc063f1dfbe5b579953686321c03441003ea6bb8568e9a718fcd53c4ff94b93b", func := "wageoffice/wageofficelaw10.CodexVersions", spec := "codexVersions", unfollowed := true, recurses := true, loops := true, apart := false, narrowed := true }
def CodexVersionsUptoSaid : Prop := codexVersionsUptoRow.holds Tryz.pinned (OpenSpec.upto codexVersionsSpec)

/-- 'wageofficelaw10.CodexPriority', WHERE WHAT IT READS IS OF BULK AT MOST 1048576: true; the input reads as it did. -/
def codexPriorityUptoRow : OpenClaim := { program := "ytnijkdknnmgoeaagreat", sum := "fc063f1dfbe5b579953686321c03441003ea6bb8568e9a718fcd53c4ff94b93b", func := "wageoffice/wageofficelaw10.CodexPriority", spec := "codexPriority", unfollowed := true, recurses := true, loops := true, apart := false, narrowed := true }
def CodexPriorityUptoSaid : Prop := codexPriorityUptoRow.holds Tryz.pinned (OpenSpec.upto codexPrioritySpec)

/-- 'wageofficelaw10.CodexNeeds', WHERE WHAT IT READS IS OF BULK AT MOST 1048576: true; the input reads as it did. -/
def codexNeedsUptoRow : OpenClaim := { program := "ytnijkdknnmgoeaagreat", sum := "fc063f1dfbe5b579953686321c03441003ea6bb8568e9a718fcd53c4ff94b93b", func := "wageoffice/wageofficelaw10.CodexNeeds", spec := "codexNeeds", unfollowed := true, recurses := true, loops := true, apart := false, narrowed := true }
def CodexNeedsUptoSaid : Prop := codexNeedsUptoRow.holds Tryz.pinned (OpenSpec.upto codexNeedsSpec)

/-- 'wageofficelaw10.CodexOrder', WHERE WHAT IT READS IS OF BULK AT MOST 1048576: true; the input reads as it did. -/
def codexOrderUptoRow : OpenClaim := { program := "ytnijkdknnmgoeaagreat", sum := "fc063f1dfbe5b579953686321c03441003ea6bb8568e9a718fcd53c4ff94b93b", func := "wageoffice/wageofficelaw10.CodexOrder", spec := "codexOrder", unfollowed := true, recurses := true, loops := true, apart := false, narrowed := true }
def CodexOrderUptoSaid : Prop := codexOrderUptoRow.holds Tryz.pinned (OpenSpec.upto codexOrderSpec)

/-- 'wageofficelaw10.CodexAdding', WHERE WHAT IT READS IS OF BULK AT MOST 1048576: true; the input reads as it did. -/
def codexAddingUptoRow : OpenClaim := { program := "ytnijkdknnmgoeaagreat", sum := "fc063f1dfbe5b579953686321c03441003ea6bb8568e9a718fcd53c4ff94b93b", func := "wageoffice/wageofficelaw10.CodexAdding", spec := "codexAdding", unfollowed := true, recurses := true, loops := true, apart := false, narrowed := true }
def CodexAddingUptoSaid : Prop := codexAddingUptoRow.holds Tryz.pinned (OpenSpec.upto codexAddingSpec)

/-- 'wageofficelaw10.CodexNumbers', WHERE WHAT IT READS IS OF BULK AT MOST 1048576: true; the input reads as it did. -/
def codexNumbersUptoRow : OpenClaim := { program := "ytnijkdknnmgoeaagreat", sum := "fc063f1dfbe5b579953686321c03441003ea6bb8568e9a718fcd53c4ff94b93b", func := "wageoffice/wageofficelaw10.CodexNumbers", spec := "codexNumbers", unfollowed := true, recurses := true, loops := true, apart := false, narrowed := true }
def CodexNumbersUptoSaid : Prop := codexNumbersUptoRow.holds Tryz.pinned (OpenSpec.upto codexNumbersSpec)

end Rows
end Go.Proofs.YtnijkdknnmgoeaaGreat
