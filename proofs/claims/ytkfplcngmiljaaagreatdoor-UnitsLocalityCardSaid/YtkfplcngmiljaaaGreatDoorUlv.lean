/- Part of a proof: see the last text. -/
import Derived.Test.YtkfplcngmiljaaaGreatDoorUlu
import Derived.Test.YtkfplcngmiljaaaGreatDoorCards
import Derived.Test.YtkfplcngmiljaaaGreatDoorTie
import Derived.Lib.LaidTab
import Derived.Lib.LaidIn
import Derived.Shelf.Vars
set_option linter.unusedVariables false
set_option linter.unusedSimpArgs false
namespace Go.Proofs.YtkfplcngmiljaaaGreatDoor
open AI Go Go.RowKit LexS
theorem chunks {α : Type} {V : α → List Value} {k : Nat} : ∀ {l : List α} {cs : List Value}, cs.length = l.length * k → (∀ y, (V y).length = k) → (∀ (i : Nat) y, l[i]? = some y → (cs.drop (i * k)).take k = V y) → cs = l.flatMap V
 | [], cs, h, _, _ => by
   simp only [List.length_nil, Nat.zero_mul] at h
   rw [List.eq_nil_of_length_eq_zero h]; rfl
 | a :: l, cs, h, hV, hc => by
   have h0 := hc 0 a rfl
   rw [Nat.zero_mul, List.drop_zero] at h0
   have ih := chunks (V := V) (k := k) (l := l) (cs := cs.drop k) (by rw [List.length_drop, h, List.length_cons, Nat.succ_mul]; omega) hV fun i y hy => by
     rw [List.drop_drop]
     have := hc (i + 1) y (by simpa using hy)
     rwa [Nat.succ_mul, Nat.add_comm] at this
   rw [List.flatMap_cons, ← h0, ← ih, List.take_append_drop]
theorem cells_arr {α H : Type} {enc : TypeId × Value → H} {P : Program} {w : World} {base : Nat} {sp : Nat → Bool} {held : Bool} {fuel : Nat} {t e : TypeId} {n k : Nat} {cs : List Value} {l : List α} {p : List MemPlace} (D : α → DataW H) (V : α → List Value) (hV : ∀ y, (V y).length = k)
   (hread : ∀ f c y q, DataW.trod enc P w base sp held f e c = some (D y, q) → c = V y)
   (ht : P.underlying t = some (.array n e)) (hce : P.cellsOf e = k) (hct : P.cellsOf t = n * k) (h : DataW.trod enc P w base sp held fuel t cs = some (.agg (l.map D), p)) : cs = l.flatMap V := by
 obtain ⟨xs, m, _, hx, hl, hxl, hat⟩ := DataW.trod_array ht h
 have hd : l.map D = xs.map (·.1) := by
   have := congrArg Prod.fst hx
   simpa using this
 have hll : l.length = n := by
   have := congrArg List.length hd
   simp at this
   omega
 rw [hct] at hl
 rw [hce] at hat
 refine chunks (by rw [hl, hll]) hV fun i y hy => ?_
 have hi : i < n := by have := (List.getElem?_eq_some_iff.1 hy).1; omega
 have h2 := hat i hi
 have hxi : xs[i]? = some xs[i] := List.getElem?_eq_getElem (by omega)
 rw [hxi] at h2
 have h3 : (l.map D)[i]? = (xs.map (·.1))[i]? := by rw [hd]
 rw [List.getElem?_map, List.getElem?_map, hy, hxi] at h3
 simp only [Option.map_some, Option.some.injEq] at h3
 refine hread m _ y xs[i].2 ?_
 rw [h2, h3]
theorem read_str {H : Type} {enc : TypeId × Value → H} {w : World} {base : Nat} {sp : Nat → Bool} {held : Bool} (f : Nat) (c : List Value) (y : List UInt8) (q : List MemPlace) (hh : DataW.trod enc Tryz.prog w base sp held f 9 c = some (.lit (.string y), q)) : c = [.string ⟨y.toArray⟩] := by
 obtain ⟨z, hc, hz, _⟩ := DataW.trod_string Tryz.underlying9 hh
 simp only [Prod.mk.injEq, DataW.lit.injEq, Lit.string.injEq] at hz
 rw [hc, hz.1]
theorem var_heap {W : World} {n : String} {g : Nat} {cs : Array Value} (hg : Tryz.prog.globalNamed n = some g) (h : W.var? Tryz.prog n = some cs) : ∃ t fr, W.heap[g]? = some (.cells cs t fr) := by
 unfold World.var? at h
 rw [hg] at h
 simp only [Option.bind_some] at h
 split at h
 · rename_i c t fr hh
   injection h with h
   subst h
   exact ⟨t, fr, hh⟩
 · cases h
theorem gB : Tryz.prog.globalNamed "wageoffice/calendar.before" = some 6 := by kernel_rfl
theorem gC : Tryz.prog.globalNamed "wageoffice/lexer.classes" = some 2 := by kernel_rfl
theorem gS : Tryz.prog.globalNamed "wageoffice/lexer.symbols" = some 0 := by kernel_rfl
theorem gO : Tryz.prog.globalNamed "wageoffice/parser.operators" = some 3 := by kernel_rfl
theorem gR : Tryz.prog.globalNamed "wageoffice/parser.roles" = some 1 := by kernel_rfl
theorem gBT : (Tryz.prog.globals[(6 : Nat)]?).map (·.type) = some 195 := by kernel_rfl
theorem gCT : (Tryz.prog.globals[(2 : Nat)]?).map (·.type) = some 149 := by kernel_rfl
theorem gST : (Tryz.prog.globals[(0 : Nat)]?).map (·.type) = some 142 := by kernel_rfl
theorem gOT : (Tryz.prog.globals[(3 : Nat)]?).map (·.type) = some 160 := by kernel_rfl
theorem gRT : (Tryz.prog.globals[(1 : Nat)]?).map (·.type) = some 143 := by kernel_rfl
theorem zI : Tryz.prog.cellsOf 3 = 1 := by kernel_rfl
theorem zU : Tryz.prog.cellsOf 5 = 1 := by kernel_rfl
theorem zS : Tryz.prog.cellsOf 9 = 1 := by kernel_rfl
theorem zB : Tryz.prog.cellsOf 195 = 13 * 1 := by kernel_rfl
theorem zC : Tryz.prog.cellsOf 149 = 128 * 1 := by kernel_rfl
theorem zY : Tryz.prog.cellsOf 142 = 17 * 1 := by kernel_rfl
theorem z6 : Tryz.prog.cellsOf 159 = 6 * 1 := by kernel_rfl
theorem zO : Tryz.prog.cellsOf 160 = 6 * 6 := by kernel_rfl
theorem zR : Tryz.prog.cellsOf 143 = 5 * 1 := by kernel_rfl
def befL : List Int := [0, 31, 59, 90, 120, 151, 181, 212, 243, 273, 304, 334, 365]
def rolL : List (List UInt8) := [[], [101, 97, 114, 110], [100, 101, 100, 117, 99, 116], [102, 108, 111, 111, 114], [105, 110, 102, 111]]
def opsL : List (List (List UInt8)) := [[[111, 114], [], [], [], [], []], [[97, 110, 100], [], [], [], [], []], [[], [], [], [], [], []], [[61, 61], [33, 61], [60], [60, 61], [62], [62, 61]], [[43], [45], [], [], [], []], [[42], [47], [97, 116], [], [], []]]
abbrev litS (y : List UInt8) : DataW Unit := .lit (.string y)
theorem datB : (Rows.laid_wageoffice_calendar_before : DataW Unit) = .agg (befL.map fun z => .lit (.int .i64 z)) := by rfl
theorem datC : (Rows.laid_wageoffice_lexer_classes : DataW Unit) = .agg ((List.range 128).map fun i => .lit (.int .u8 (cls i : Nat))) := by rfl
theorem datS : (Rows.laid_wageoffice_lexer_symbols : DataW Unit) = .agg (syms.map litS) := by rfl
theorem datO : (Rows.laid_wageoffice_parser_operators : DataW Unit) = .agg (opsL.map fun l => .agg (l.map litS)) := by rfl
theorem datR : (Rows.laid_wageoffice_parser_roles : DataW Unit) = .agg (rolL.map litS) := by rfl
theorem row2 : ((begin Tryz.prog (fun _ _ => 0) default).world.heap[(7 : Nat)]?).bind Obj.row? = some (#[.int .i64 0], 3) := by kernel_rfl
theorem max_of {W : World} (h : W.ShapedOpen Tryz.prog) : ∃ m, W.cell? ⟨7, 0, none⟩ = some (.int .i64 m) := by
 obtain ⟨m, hm⟩ := cell_of_shapedOpen_int h (g := 7) (by decide +kernel) row2 rfl (by kernel_rfl) (by kernel_rfl) Tryz.underlying3
 exact ⟨m, hm⟩
theorem rp_strs (c : Cx) (w : World) : ∀ l : List (List UInt8), RpL c w (l.map strL) (l.flatMap fun y => [.string ⟨y.toArray⟩])
 | [] => .nil
 | _ :: l => .cons (.sc rfl) (rp_strs c w l)
theorem rp_ints (c : Cx) (w : World) : ∀ l : List Int, RpL c w (l.map HdU.int) (l.flatMap fun y => [.int .i64 y])
 | [] => .nil
 | _ :: l => .cons (.sc rfl) (rp_ints c w l)
theorem rp_cls (c : Cx) (w : World) : ∀ l : List Nat, RpL c w (l.map fun i => .sc (.int .u8 (cls i : Nat))) (l.flatMap fun i => [.int .u8 (cls i : Nat)])
 | [] => .nil
 | _ :: l => .cons (.sc rfl) (rp_cls c w l)
theorem rp_strs2 (c : Cx) (w : World) : ∀ l : List (List (List UInt8)), RpL c w (l.flatMap fun y => y.map strL) (l.flatMap fun y => y.flatMap fun z => [.string ⟨z.toArray⟩])
 | [] => .nil
 | a :: l => (rp_strs c w a).append (rp_strs2 c w l)
theorem cellsW {W : World} {g : Nat} {l : List AV} {cs : Array Value} (h : ∃ t fr, W.heap[g]? = some (.cells cs t fr)) (hr : RpL (Mo.cxW W) W l cs.toList) : CellsAt (Mo.cxW W) W g 0 l := by
 obtain ⟨t, fr, h⟩ := h
 refine CellsAt.of_vals hr fun i v hi => Mo.visW ?_
 rw [Nat.zero_add, cell_of_row W g i cs t fr h]
 rwa [Array.getElem?_toList] at hi
theorem st_of_laid {W : World} (h : laidMetH Tryz.prog Rows.unitsOperandsRow.laid W) (hsh : W.ShapedOpen Tryz.prog) : ∃ mx, St (HdU.G mx) (Mo.cxW W) W s0 := by
 have h : laidMet Tryz.prog [("math/bits.deBruijn32tab", Rows.laid_math_bits_deBruijn32tab), ("math/bits.deBruijn64tab", Rows.laid_math_bits_deBruijn64tab), ("internal/strconv.uint64pow10", Rows.laid_internal_strconv_uint64pow10), ("unicode/utf8.acceptRanges", Rows.laid_unicode_utf8_acceptRanges), ("strconv.ErrRange", Rows.laid_strconv_ErrRange), ("strconv.ErrSyntax", Rows.laid_strconv_ErrSyntax), ("wageoffice/calendar.before", Rows.laid_wageoffice_calendar_before), ("wageoffice/lexer.classes", Rows.laid_wageoffice_lexer_classes), ("wageoffice/lexer.symbols", Rows.laid_wageoffice_lexer_symbols), ("wageoffice/parser.operators", Rows.laid_wageoffice_parser_operators), ("wageoffice/parser.roles", Rows.laid_wageoffice_parser_roles), ("unicode/utf8.first", Rows.laid_unicode_utf8_first)] W := h
 obtain ⟨ps, ⟨_, _, _, _, _, _, _, _, _, _, ⟨_, _, _, _, _, _, _, _, _, _, ⟨_, _, _, _, _, _, _, _, _, _, ⟨_, _, _, _, _, _, _, _, _, _, ⟨_, _, _, _, _, _, _, _, _, _, ⟨_, _, _, _, _, _, _, _, _, _, ⟨g7, t7, cs7, f7, p7, q7, hg7, ht7, hv7, hd7, ⟨g8, t8, cs8, f8, p8, q8, hg8, ht8, hv8, hd8, ⟨g9, t9, cs9, f9, p9, q9, hg9, ht9, hv9, hd9, ⟨g10, t10, cs10, f10, p10, q10, hg10, ht10, hv10, hd10, ⟨g11, t11, cs11, f11, p11, q11, hg11, ht11, hv11, hd11, _⟩, _⟩, _⟩, _⟩, _⟩, _⟩, _⟩, _⟩, _⟩, _⟩, _⟩, _⟩ := h
 obtain rfl := Option.some.inj (gB.symm.trans hg7)
 obtain rfl := Option.some.inj (gC.symm.trans hg8)
 obtain rfl := Option.some.inj (gS.symm.trans hg9)
 obtain rfl := Option.some.inj (gO.symm.trans hg10)
 obtain rfl := Option.some.inj (gR.symm.trans hg11)
 obtain rfl := Option.some.inj (gBT.symm.trans ht7)
 obtain rfl := Option.some.inj (gCT.symm.trans ht8)
 obtain rfl := Option.some.inj (gST.symm.trans ht9)
 obtain rfl := Option.some.inj (gOT.symm.trans ht10)
 obtain rfl := Option.some.inj (gRT.symm.trans ht11)
 rw [datB] at hd7
 rw [datC] at hd8
 rw [datS] at hd9
 rw [datO] at hd10
 rw [datR] at hd11
 have e7 := cells_arr (k := 1) (fun z : Int => (DataW.lit (.int .i64 z) : DataW Unit)) (fun z => [.int .i64 z]) (fun _ => rfl)
   (fun f c y q hh => by obtain ⟨z, hc, hz, _⟩ := DataW.trod_int Tryz.underlying3 hh; simp only [Prod.mk.injEq, DataW.lit.injEq, Lit.int.injEq, true_and] at hz; rw [hc, hz.1]) Tryz.underlying195 zI zB hd7
 have e8 := cells_arr (k := 1) (fun i : Nat => (DataW.lit (.int .u8 (cls i : Nat)) : DataW Unit)) (fun i => [.int .u8 (cls i : Nat)]) (fun _ => rfl)
   (fun f c y q hh => by obtain ⟨z, hc, hz, _⟩ := DataW.trod_int Tryz.underlying5 hh; simp only [Prod.mk.injEq, DataW.lit.injEq, Lit.int.injEq, true_and] at hz; rw [hc, hz.1]) Tryz.underlying149 zU zC hd8
 have e9 := cells_arr (k := 1) litS (fun y => [.string ⟨y.toArray⟩]) (fun _ => rfl) read_str Tryz.underlying142 zS zY hd9
 have e11 := cells_arr (k := 1) litS (fun y => [.string ⟨y.toArray⟩]) (fun _ => rfl) read_str Tryz.underlying143 zS zR hd11
 have e10 : cs10.toList = opsL.flatMap fun y => y.flatMap fun z => [.string ⟨z.toArray⟩] := by
   obtain ⟨xs, m, _, hx, hl, hxl, hat⟩ := DataW.trod_array Tryz.underlying160 hd10
   have hd : (opsL.map fun l => (DataW.agg (l.map litS) : DataW Unit)) = xs.map (·.1) := by
     have := congrArg Prod.fst hx
     simpa using this
   rw [zO] at hl
   rw [z6] at hat
   have len6 : ∀ y ∈ opsL, (y.flatMap fun z => [(Value.string ⟨z.toArray⟩ : Value)]).length = 6 := by decide
   have hget : ∀ (i : Nat) y, opsL[i]? = some y → (cs10.toList.drop (i * 6)).take 6 = y.flatMap fun z => [.string ⟨z.toArray⟩] := by
     intro i y hy
     have hi : i < 6 := (List.getElem?_eq_some_iff.1 hy).1
     have h2 := hat i hi
     have hxi : xs[i]? = some xs[i] := List.getElem?_eq_getElem (by omega)
     rw [hxi] at h2
     have h3 : (opsL.map fun l => (DataW.agg (l.map litS) : DataW Unit))[i]? = (xs.map (·.1))[i]? := by rw [hd]
     rw [List.getElem?_map, List.getElem?_map, hy, hxi] at h3
     simp only [Option.map_some, Option.some.injEq] at h3
     have h4 : xs[i] = (.agg (y.map litS), xs[i].2) := Prod.ext h3.symm rfl
     rw [h4] at h2
     exact cells_arr (k := 1) litS (fun y => [.string ⟨y.toArray⟩]) (fun _ => rfl) read_str Tryz.underlying159 zS z6 h2
   have l6 : ∀ {l : List (List (List UInt8))} {cs : List Value}, (∀ y ∈ l, (y.flatMap fun z => [(Value.string ⟨z.toArray⟩ : Value)]).length = 6) → cs.length = l.length * 6 → (∀ (i : Nat) y, l[i]? = some y → (cs.drop (i * 6)).take 6 = y.flatMap fun z => [.string ⟨z.toArray⟩]) → cs = l.flatMap fun y => y.flatMap fun z => [.string ⟨z.toArray⟩] := by
     intro l
     induction l with
     | nil => intro cs _ h _; exact List.eq_nil_of_length_eq_zero (by simpa using h)
     | cons a l ih =>
       intro cs hq h hc
       have h0 := hc 0 a rfl
       rw [Nat.zero_mul, List.drop_zero] at h0
       have := ih (cs := cs.drop 6) (fun y hy => hq y (by simp [hy])) (by rw [List.length_drop, h, List.length_cons, Nat.succ_mul]; omega) fun i y hy => by
         rw [List.drop_drop]
         have := hc (i + 1) y (by simpa using hy)
         rwa [Nat.succ_mul, Nat.add_comm] at this
       rw [List.flatMap_cons, ← h0, ← this, List.take_append_drop]
   exact l6 len6 (by rw [hl]; rfl) hget
 obtain ⟨mx, hm⟩ := max_of hsh
 have hst := Mo.stW W
 refine ⟨mx, hst.len, hst.desc, hst.nodup, hst.low, hst.box, hst.rlen, hst.row, hst.rfree, hst.plow, hst.blow, hst.rdist, fun g cs h => ?_, hst.bsz⟩
 unfold HdU.G at h
 split at h
 · rename_i hg; cases h; rw [beq_true hg]
   exact cellsW (var_heap gO hv10) (by rw [e10]; exact rp_strs2 _ _ opsL)
 · split at h
   · rename_i hg; cases h; rw [beq_true hg]
     exact cellsW (var_heap gR hv11) (by rw [e11]; exact rp_strs _ _ rolL)
   · split at h
     · rename_i hg; cases h; rw [beq_true hg]
       exact cellsW (var_heap gB hv7) (by rw [e7]; exact rp_ints _ _ befL)
     · split at h
       · rename_i hg; cases h; rw [beq_true hg]
         exact cellsW (var_heap gC hv8) (by rw [e8]; exact rp_cls _ _ _)
       · split at h
         · rename_i hg; cases h; rw [beq_true hg]
           exact cellsW (var_heap gS hv9) (by rw [e9]; exact rp_strs _ _ _)
         · split at h
           · rename_i hg; cases h; rw [beq_true hg]
             exact .cons (Mo.visW hm) (.sc rfl) .nil
           · cases h
theorem law_callsU {mx : Int} {f : FuncId} {args : List AV} {vs : List Value} {W : World} (hst : St (HdU.G mx) (Mo.cxW W) W s0) (h : Pure Tryz.prog (HdU.G mx) f args (.sc (.bool true))) (ha : RpL (Mo.cxW W) W args vs) : Calls Tryz.prog f vs.toArray W fun e W' => e = .returned (.bool true) ∧ Below W.heap.size W W' := by
 refine (h s0 (Mo.cxW W) W vs hst ha).mono ?_
 rintro e w' ⟨c', hx, _, u, rfl, hu⟩
 cases hu
 exact ⟨rfl, hx.below⟩
def litC : DataW Unit → List Value
 | .lit l => [l.value]
 | _ => []
def flat2 : DataW Unit → List Value
 | .agg l => l.flatMap litC
 | d => litC d
def flatC : DataW Unit → Array Value
 | .agg l => (l.flatMap flat2).toArray
 | d => (litC d).toArray
def putCells (cs : Array Value) : Obj → Obj
 | .cells _ t frozen => .cells cs t frozen
 | o => o
noncomputable def low : Nat := (World.holding Tryz.prog default ⟨#[], #[], []⟩).heap.size
abbrev textR : ByteArray := { data := #[118, 97, 108, 117, 101, 32, 111, 117, 116, 32, 111, 102, 32, 114, 97, 110, 103, 101] }
abbrev textS : ByteArray := { data := #[105, 110, 118, 97, 108, 105, 100, 32, 115, 121, 110, 116, 97, 120] }
noncomputable def laidWorld (os : Os) : World :=
 let w0 := World.holding Tryz.prog os ⟨#[.cells #[.string textR] 207, .cells #[.string textS] 207], #[], []⟩
 { w0 with heap := ((((((((((((w0.heap.modify 11 (putCells (flatC Rows.laid_math_bits_deBruijn32tab))).modify
     12 (putCells (flatC Rows.laid_math_bits_deBruijn64tab))).modify
     10 (putCells (flatC Rows.laid_internal_strconv_uint64pow10))).modify
     9 (putCells (flatC Rows.laid_unicode_utf8_acceptRanges))).modify
     5 (putCells #[.iface 205 (.pointer (some ⟨low, 0, none⟩))])).modify
     4 (putCells #[.iface 205 (.pointer (some ⟨low + 1, 0, none⟩))])).modify
     6 (putCells (flatC Rows.laid_wageoffice_calendar_before))).modify
     2 (putCells (flatC Rows.laid_wageoffice_lexer_classes))).modify
     0 (putCells (flatC Rows.laid_wageoffice_lexer_symbols))).modify
     3 (putCells (flatC Rows.laid_wageoffice_parser_operators))).modify
     1 (putCells (flatC Rows.laid_wageoffice_parser_roles))).modify
     8 (putCells (flatC Rows.laid_unicode_utf8_first))) }
theorem laid_met (os : Os) (args : Array Value) : laidMet Tryz.prog Rows.unitsOperandsRow.laid ((laidWorld os).forCall (fun _ _ => 0) ⟨#[], args, []⟩).memory :=
 laidMet_of_run3 8 (by kernel_rfl) (by kernel_rfl) (by kernel_rfl)
end Go.Proofs.YtkfplcngmiljaaaGreatDoor
