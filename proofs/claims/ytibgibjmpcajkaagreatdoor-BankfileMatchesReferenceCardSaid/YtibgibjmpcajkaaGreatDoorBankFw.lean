/- A world for the witness of the laws: the settled one, the tables holding what their initialisers lay. -/
import Derived.Test.YtibgibjmpcajkaaGreatDoorBankFr
import Derived.Lib.LaidIn
namespace Go.Proofs.YtibgibjmpcajkaaGreatDoor
open Go.RowKit

theorem own : ownKnob Tryz.prog.godebug = none := by kernel_rfl
theorem laidOut : laidOutB Tryz.prog = true := by kernel_rfl
def litC : DataW Unit → List Value
  | .lit l => [l.value]
  | _ => []
def flat2 : DataW Unit → List Value
  | .agg l => l.flatMap litC
  | d => litC d
def flatC : DataW Unit → Array Value
  | .agg l => (l.flatMap flat2).toArray
  | d => (litC d).toArray
def putCells (cs : Array Value) : Obj → Obj
  | .cells _ t frozen => .cells cs t frozen
  | o => o
noncomputable def low : Nat := (World.holding Tryz.prog default ⟨#[], #[], []⟩).heap.size
abbrev textR : ByteArray := { data := #[118, 97, 108, 117, 101, 32, 111, 117, 116, 32, 111, 102, 32, 114, 97, 110, 103, 101] }
abbrev textS : ByteArray := { data := #[105, 110, 118, 97, 108, 105, 100, 32, 115, 121, 110, 116, 97, 120] }
noncomputable def laidWorld (os : Os) : World :=
  let w0 := World.holding Tryz.prog os ⟨#[.cells #[.string textR] 151, .cells #[.string textS] 151], #[], []⟩
  { w0 with heap := (((((((((w0.heap.modify 6 (putCells (flatC Rows.laid_math_bits_deBruijn32tab))).modify
      7 (putCells (flatC Rows.laid_math_bits_deBruijn64tab))).modify
      3 (putCells (flatC Rows.laid_internal_strconv_uint64pow10))).modify
      9 (putCells (flatC Rows.laid_unicode_utf8_acceptRanges))).modify
      5 (putCells #[.iface 149 (.pointer (some ⟨low, 0, none⟩))])).modify
      4 (putCells #[.iface 149 (.pointer (some ⟨low + 1, 0, none⟩))])).modify
      1 (putCells (flatC Rows.laid_wageoffice_calendar_before))).modify
      0 (putCells (flatC Rows.laid_wageoffice_bankfile_kinds))).modify
      8 (putCells (flatC Rows.laid_unicode_utf8_first))) }
theorem laid_met (os : Os) (args : Array Value) : laidMet Tryz.prog Rows.bankfileDiffersRow.laid ((laidWorld os).forCall (fun _ _ => 0) ⟨#[], args, []⟩).memory :=
  laidMet_of_run3 8 (by kernel_rfl) (by kernel_rfl) (by kernel_rfl)
end Go.Proofs.YtibgibjmpcajkaaGreatDoor
