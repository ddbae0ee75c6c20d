/- From the row's list of variables to the two tables; the frame of a law. -/
import Derived.Test.YtfgngakdhedcgaaDoorLexH2
import Derived.Test.YtfgngakdhedcgaaDoorCards
import Derived.Test.YtfgngakdhedcgaaDoorTie
import Derived.ProofKit
import Derived.OpenShut
import Derived.Deep.DeepHandedRow
import Derived.Lib.LaidTab
namespace Go.Proofs.YtfgngakdhedcgaaDoor
open Go.ChangeShapes Go.WideShapes Go.ChangeAt Go.RowKit LexS
open Go.ChangeMaps (open_string shut_string)

/-- an array of one-cell elements that reads as the data l.map D holds the cells l.map V -/
theorem cells_of_arr {α H : Type} {enc : TypeId × Value → H} {P : Program} {w : World} {base : Nat} {sp : Nat → Bool} {held : Bool} {fuel : Nat} {t e : TypeId} {n : Nat} {cs : List Value} {l : List α} {p : List MemPlace} (D : α → DataW H) (V : α → Value)
    (hread : ∀ f c y q, DataW.trod enc P w base sp held f e c = some (D y, q) → c = [V y])
    (ht : P.underlying t = some (.array n e)) (hce : P.cellsOf e = 1) (hct : P.cellsOf t = n) (h : DataW.trod enc P w base sp held fuel t cs = some (.agg (l.map D), p)) : cs = l.map V := by
  cases fuel with
  | zero => simp [DataW.trod] at h
  | succ fuel =>
    simp only [DataW.trod, ht, hce, hct, Nat.mul_one] at h
    split at h
    · rename_i hl
      obtain ⟨xs, hm, hx⟩ := Option.map_eq_some_iff.1 h
      have hxs : xs.map (·.1) = l.map D := by
        have := congrArg Prod.fst hx
        simpa using this
      have hxl : xs.length = n := by simpa using Lib.mapM_length hm
      have hll : l.length = n := by
        have := congrArg List.length hxs
        simp at this
        omega
      apply List.ext_getElem?
      intro i
      by_cases hi : i < n
      · obtain ⟨b, hb, hf⟩ := Lib.mapM_at hm i i (by simp [hi])
        have h2 : (xs.map (·.1))[i]? = some b.1 := by simp [hb]
        rw [hxs] at h2
        simp only [List.getElem?_map, Option.map_eq_some_iff] at h2
        obtain ⟨y, hy, hyb⟩ := h2
        have h3 := hread fuel _ y b.2 (by rw [hyb]; exact hf)
        have h1 := congrArg (·[0]?) h3
        have h4 : cs[i]? = some (V y) := by simpa [List.getElem?_take, List.getElem?_drop] using h1
        rw [h4, List.getElem?_map, hy]
        rfl
      · rw [List.getElem?_eq_none (by omega), List.getElem?_eq_none (by simp; omega)]
    · cases h

theorem gC : Tryd.prog.globalNamed "wageoffice/lexer.classes" = some 1 := by kernel_rfl
theorem gS : Tryd.prog.globalNamed "wageoffice/lexer.symbols" = some 0 := by kernel_rfl
theorem gCType : (Tryd.prog.globals[(1 : Nat)]?).map (·.type) = some 59 := by kernel_rfl
theorem gSType : (Tryd.prog.globals[(0 : Nat)]?).map (·.type) = some 57 := by kernel_rfl
theorem cellsC : Tryd.prog.cellsOf 59 = 128 := by kernel_rfl
theorem cellsS : Tryd.prog.cellsOf 57 = 17 := by kernel_rfl
theorem cells1 : Tryd.prog.cellsOf 5 = 1 := by kernel_rfl
theorem cells2 : Tryd.prog.cellsOf 9 = 1 := by kernel_rfl

theorem datC : (Rows.laid_wageoffice_lexer_classes : DataW Unit) = .agg ((List.range 128).map fun i => .lit (.int .u8 (cls i))) := by rfl
theorem datS : (Rows.laid_wageoffice_lexer_symbols : DataW Unit) = .agg (syms.map fun y => .lit (.string y)) := by rfl

theorem var_heap {W : World} {n : String} {g : Nat} {cs : Array Value} (hg : Tryd.prog.globalNamed n = some g) (h : W.var? Tryd.prog n = some cs) : ∃ t fr, W.heap[g]? = some (.cells cs t fr) := by
  unfold World.var? at h
  rw [hg] at h
  simp only [Option.bind_some] at h
  split at h
  · rename_i c t fr hh
    injection h with h
    subst h
    exact ⟨t, fr, hh⟩
  · cases h

/-- what the row's list gives: the two tables -/
theorem tabs_of_laid {W : World} (h : laidMetH Tryd.prog [("wageoffice/lexer.classes", Rows.laid_wageoffice_lexer_classes), ("wageoffice/lexer.symbols", Rows.laid_wageoffice_lexer_symbols)] W) : Tabs W := by
  have h : laidMet Tryd.prog [("wageoffice/lexer.classes", Rows.laid_wageoffice_lexer_classes), ("wageoffice/lexer.symbols", Rows.laid_wageoffice_lexer_symbols)] W := h
  obtain ⟨ps, ⟨g1, t1, cs1, f1, p1, q1, hg1, ht1, hv1, hd1, ⟨g2, t2, cs2, f2, p2, q2, hg2, ht2, hv2, hd2, _, _⟩, _⟩, _⟩ := h
  obtain rfl := Option.some.inj (gC.symm.trans hg1)
  obtain rfl := Option.some.inj (gS.symm.trans hg2)
  obtain rfl := Option.some.inj (gCType.symm.trans ht1)
  obtain rfl := Option.some.inj (gSType.symm.trans ht2)
  rw [datC] at hd1
  rw [datS] at hd2
  have e1 := cells_of_arr (fun i : Nat => (DataW.lit (.int .u8 (cls i)) : DataW Unit)) (fun i => Value.int .u8 (cls i))
    (fun f c y q hh => by obtain ⟨z, hc, hz, _⟩ := DataW.trod_int Tryd.underlying5 hh; simp only [Prod.mk.injEq, DataW.lit.injEq, Lit.int.injEq, true_and] at hz; rw [hc, hz.1])
    Tryd.underlying59 cells1 cellsC hd1
  have e2 := cells_of_arr (fun y : List UInt8 => (DataW.lit (.string y) : DataW Unit)) (fun y => Value.string ⟨y.toArray⟩)
    (fun f c y q hh => by
      obtain ⟨z, hc, hz, _⟩ := DataW.trod_string Tryd.underlying9 hh
      simp only [Prod.mk.injEq, DataW.lit.injEq, Lit.string.injEq] at hz
      rw [hc, hz.1])
    Tryd.underlying57 cells2 cellsS hd2
  have e1' : cs1 = clsArr := by rw [clsArr, ← e1]
  have e2' : cs2 = symArr := by rw [symArr, ← e2]
  subst e1' e2'
  exact ⟨var_heap gC hv1, var_heap gS hv2⟩

theorem own : ownKnob Tryd.prog.godebug = none := by kernel_rfl
theorem laidOut : laidOutB Tryd.prog = true := by kernel_rfl

def putCells (cs : Array Value) : Obj → Obj
  | .cells _ t frozen => .cells cs t frozen
  | o => o
/-- a world for the witness: the settled one, the two tables holding what their initialisers lay -/
noncomputable def laidWorld (os : Os) : World :=
  { World.holding Tryd.prog os ⟨#[], #[], []⟩ with heap := ((World.holding Tryd.prog os ⟨#[], #[], []⟩).heap.modify 1 (putCells clsArr)).modify 0 (putCells symArr) }
end Go.Proofs.YtfgngakdhedcgaaDoor
