/- The frame of the laws: from the row's list of variables to Tabs; slices of arrays opened. -/
import Derived.Test.YtibgibjmpcajkaaGreatDoorBankSm
import Derived.Test.YtibgibjmpcajkaaGreatDoorCards
import Derived.Test.YtibgibjmpcajkaaGreatDoorTie
import Derived.ProofKit
import Derived.OpenShut
import Derived.Deep.DeepHandedRow
import Derived.Deep.Slices
import Derived.Lib.LaidTab
import Derived.Shelf.Vars
namespace Go.Proofs.YtibgibjmpcajkaaGreatDoor
open Go.ChangeShapes Go.WideShapes Go.ChangeAt Go.RowKit BankS

/-- an array of one-cell elements that reads as the data l.map D holds the cells l.map V -/
theorem cells_of_arr {α H : Type} {enc : TypeId × Value → H} {P : Program} {w : World} {base : Nat} {sp : Nat → Bool} {held : Bool} {fuel : Nat} {t e : TypeId} {n : Nat} {cs : List Value} {l : List α} {p : List MemPlace} (D : α → DataW H) (V : α → Value)
    (hread : ∀ f c y q, DataW.trod enc P w base sp held f e c = some (D y, q) → c = [V y])
    (ht : P.underlying t = some (.array n e)) (hce : P.cellsOf e = 1) (hct : P.cellsOf t = n) (h : DataW.trod enc P w base sp held fuel t cs = some (.agg (l.map D), p)) : cs = l.map V := by
  cases fuel with
  | zero => simp [DataW.trod] at h
  | succ fuel =>
    simp only [DataW.trod, ht, hce, hct, Nat.mul_one] at h
    split at h
    · rename_i hl
      obtain ⟨xs, hm, hx⟩ := Option.map_eq_some_iff.1 h
      have hxs : xs.map (·.1) = l.map D := by
        have := congrArg Prod.fst hx
        simpa using this
      have hxl : xs.length = n := by simpa using Lib.mapM_length hm
      have hll : l.length = n := by
        have := congrArg List.length hxs
        simp at this
        omega
      apply List.ext_getElem?
      intro i
      by_cases hi : i < n
      · obtain ⟨b, hb, hf⟩ := Lib.mapM_at hm i i (by simp [hi])
        have h2 : (xs.map (·.1))[i]? = some b.1 := by simp [hb]
        rw [hxs] at h2
        simp only [List.getElem?_map, Option.map_eq_some_iff] at h2
        obtain ⟨y, hy, hyb⟩ := h2
        have h3 := hread fuel _ y b.2 (by rw [hyb]; exact hf)
        have h1 := congrArg (·[0]?) h3
        have h4 : cs[i]? = some (V y) := by simpa [List.getElem?_take, List.getElem?_drop] using h1
        rw [h4, List.getElem?_map, hy]
        rfl
      · rw [List.getElem?_eq_none (by omega), List.getElem?_eq_none (by simp; omega)]
    · cases h
theorem var_heap {W : World} {n : String} {g : Nat} {cs : Array Value} (hg : Tryz.prog.globalNamed n = some g) (h : W.var? Tryz.prog n = some cs) : ∃ t fr, W.heap[g]? = some (.cells cs t fr) := by
  unfold World.var? at h
  rw [hg] at h
  simp only [Option.bind_some] at h
  split at h
  · rename_i c t fr hh
    injection h with h
    subst h
    exact ⟨t, fr, hh⟩
  · cases h
theorem gP : Tryz.prog.globalNamed "internal/strconv.uint64pow10" = some 3 := by kernel_rfl
theorem gR : Tryz.prog.globalNamed "strconv.ErrRange" = some 5 := by kernel_rfl
theorem gS : Tryz.prog.globalNamed "strconv.ErrSyntax" = some 4 := by kernel_rfl
theorem gB : Tryz.prog.globalNamed "wageoffice/calendar.before" = some 1 := by kernel_rfl
theorem gK : Tryz.prog.globalNamed "wageoffice/bankfile.kinds" = some 0 := by kernel_rfl
theorem gPT : (Tryz.prog.globals[(3 : Nat)]?).map (·.type) = some 131 := by kernel_rfl
theorem gRT : (Tryz.prog.globals[(5 : Nat)]?).map (·.type) = some 89 := by kernel_rfl
theorem gST : (Tryz.prog.globals[(4 : Nat)]?).map (·.type) = some 89 := by kernel_rfl
theorem gBT : (Tryz.prog.globals[(1 : Nat)]?).map (·.type) = some 119 := by kernel_rfl
theorem gKT : (Tryz.prog.globals[(0 : Nat)]?).map (·.type) = some 75 := by kernel_rfl
theorem cells1 : Tryz.prog.cellsOf 109 = 1 := by kernel_rfl
theorem cells2 : Tryz.prog.cellsOf 3 = 1 := by kernel_rfl
theorem cells3 : Tryz.prog.cellsOf 9 = 1 := by kernel_rfl
theorem cells4 : Tryz.prog.cellsOf 131 = 20 := by kernel_rfl
theorem cells5 : Tryz.prog.cellsOf 119 = 13 := by kernel_rfl
theorem cells6 : Tryz.prog.cellsOf 75 = 5 := by kernel_rfl
theorem datP : (Rows.laid_internal_strconv_uint64pow10 : DataW Unit) = .agg (Lib.pow10Tab.map fun z => .lit (.int .u64 z)) := by rfl
theorem datB : (Rows.laid_wageoffice_calendar_before : DataW Unit) = .agg ((List.range 13).map fun i => .lit (.int .i64 (before i))) := by rfl
theorem datK : (Rows.laid_wageoffice_bankfile_kinds : DataW Unit) = .agg ([[], kindT 1, kindT 2, kindT 3, kindT 4].map fun y => .lit (.string y)) := by rfl
theorem iface_of {W : World} {fuel : Nat} {cs : List Value} {n : String} {d : DataW Unit} {p : List MemPlace} (h : DataW.trod (fun _ => ()) Tryz.prog W 0 (fun _ => true) false fuel 89 cs = some (.iface n d, p)) : ∃ te pe, cs = [.iface te pe] := by
  have hu : ∃ ms, Tryz.prog.underlying 89 = some (.interface ms) := ⟨_, Tryz.underlying89⟩
  obtain ⟨ms, hu⟩ := hu
  cases fuel with
  | zero => simp [DataW.trod] at h
  | succ fuel =>
    simp only [DataW.trod, hu] at h
    split at h
    all_goals first
      | exact ⟨_, _, rfl⟩
      | (simp_all; done)
      | (rename_i h1 h2; cases h1; done)
      | skip
theorem row2 : ((begin Tryz.prog (fun _ _ => 0) default).world.heap[(2 : Nat)]?).bind Obj.row? = some (#[.int .i64 0], 3) := by kernel_rfl
theorem max_of {W : World} (h : W.ShapedOpen Tryz.prog) : ∃ m t fr, W.heap[(2 : Nat)]? = some (.cells #[.int .i64 m] t fr) := by
  obtain ⟨m, hm⟩ := cell_of_shapedOpen_int h (g := 2) (by decide +kernel) row2 rfl (by kernel_rfl) (by kernel_rfl) Tryz.underlying3
  obtain ⟨cs, hc, hs, _⟩ := h.1 _ _ _ (by decide +kernel) row2
  rw [cell_row hc] at hm
  have : cs = #[.int .i64 m] := by
    apply Array.ext'
    have hl : cs.toList.length = 1 := by simpa using hs
    match hcl : cs.toList, hl with
    | [x], _ =>
      have : cs[0]? = some x := by rw [← Array.getElem?_toList, hcl]; rfl
      rw [this] at hm
      injection hm with hm
      rw [hm]
  subst this
  exact ⟨m, _, _, hc⟩
theorem gA : Tryz.prog.globalNamed "unicode/utf8.acceptRanges" = some 9 := by kernel_rfl
theorem tabs_of_laid {W : World} (h : laidMetH Tryz.prog Rows.bankfileDiffersRow.laid W) (hsh : W.ShapedOpen Tryz.prog) : Tabs W := by
  have h : laidMet Tryz.prog [("math/bits.deBruijn32tab", Rows.laid_math_bits_deBruijn32tab), ("math/bits.deBruijn64tab", Rows.laid_math_bits_deBruijn64tab), ("internal/strconv.uint64pow10", Rows.laid_internal_strconv_uint64pow10), ("unicode/utf8.acceptRanges", Rows.laid_unicode_utf8_acceptRanges), ("strconv.ErrRange", Rows.laid_strconv_ErrRange), ("strconv.ErrSyntax", Rows.laid_strconv_ErrSyntax), ("wageoffice/calendar.before", Rows.laid_wageoffice_calendar_before), ("wageoffice/bankfile.kinds", Rows.laid_wageoffice_bankfile_kinds), ("unicode/utf8.first", Rows.laid_unicode_utf8_first)] W := h
  obtain ⟨ps, ⟨_, _, _, _, _, _, _, _, _, _, ⟨_, _, _, _, _, _, _, _, _, _, ⟨g3, t3, cs3, f3, p3, q3, hg3, ht3, hv3, hd3, ⟨g4, t4, cs4, f4, p4, q4, hg4, ht4, hv4, hd4, ⟨g5, t5, cs5, f5, p5, q5, hg5, ht5, hv5, hd5, ⟨g6, t6, cs6, f6, p6, q6, hg6, ht6, hv6, hd6, ⟨g7, t7, cs7, f7, p7, q7, hg7, ht7, hv7, hd7, ⟨g8, t8, cs8, f8, p8, q8, hg8, ht8, hv8, hd8, _⟩, _⟩, _⟩, _⟩, _⟩, _⟩, _⟩, _⟩, _⟩ := h
  obtain rfl := Option.some.inj (gP.symm.trans hg3)
  obtain rfl := Option.some.inj (gA.symm.trans hg4)
  obtain rfl := Option.some.inj (gR.symm.trans hg5)
  obtain rfl := Option.some.inj (gS.symm.trans hg6)
  obtain rfl := Option.some.inj (gB.symm.trans hg7)
  obtain rfl := Option.some.inj (gK.symm.trans hg8)
  obtain rfl := Option.some.inj (gPT.symm.trans ht3)
  obtain rfl := Option.some.inj (gRT.symm.trans ht5)
  obtain rfl := Option.some.inj (gST.symm.trans ht6)
  obtain rfl := Option.some.inj (gBT.symm.trans ht7)
  obtain rfl := Option.some.inj (gKT.symm.trans ht8)
  rw [datP] at hd3
  rw [datB] at hd7
  rw [datK] at hd8
  have e3 := cells_of_arr (fun z : Int => (DataW.lit (.int .u64 z) : DataW Unit)) (fun z => Value.int .u64 z)
    (fun f c y q hh => by obtain ⟨z, hc, hz, _⟩ := DataW.trod_int Tryz.underlying109 hh; simp only [Prod.mk.injEq, DataW.lit.injEq, Lit.int.injEq, true_and] at hz; rw [hc, hz.1])
    Tryz.underlying131 cells1 cells4 hd3
  have e7 := cells_of_arr (fun i : Nat => (DataW.lit (.int .i64 (before i)) : DataW Unit)) (fun i => Value.int .i64 (before i))
    (fun f c y q hh => by obtain ⟨z, hc, hz, _⟩ := DataW.trod_int Tryz.underlying3 hh; simp only [Prod.mk.injEq, DataW.lit.injEq, Lit.int.injEq, true_and] at hz; rw [hc, hz.1])
    Tryz.underlying119 cells2 cells5 hd7
  have e8 := cells_of_arr (fun y : List UInt8 => (DataW.lit (.string y) : DataW Unit)) (fun y => Value.string ⟨y.toArray⟩)
    (fun f c y q hh => by
      obtain ⟨z, hc, hz, _⟩ := DataW.trod_string Tryz.underlying9 hh
      simp only [Prod.mk.injEq, DataW.lit.injEq, Lit.string.injEq] at hz
      rw [hc, hz.1])
    Tryz.underlying75 cells3 cells6 hd8
  obtain ⟨te5, pe5, e5⟩ := iface_of hd5
  obtain ⟨te6, pe6, e6⟩ := iface_of hd6
  have e3' : cs3 = powArr := by rw [powArr, ← e3]
  have e7' : cs7 = befArr := by rw [befArr, ← e7]
  have e8' : cs8 = kindArr := Array.ext' (by rw [e8]; rfl)
  have e5' : cs5 = #[.iface te5 pe5] := Array.ext' (by rw [e5])
  have e6' : cs6 = #[.iface te6 pe6] := Array.ext' (by rw [e6])
  subst e3' e7' e8' e5' e6'
  obtain ⟨_, _, h9⟩ := var_heap gA hv4
  exact ⟨var_heap gK hv8, var_heap gB hv7, max_of hsh, var_heap gP hv3, ⟨te6, pe6, var_heap gS hv6⟩, ⟨te5, pe5, var_heap gR hv5⟩, (Array.getElem?_eq_some_iff.1 h9).1⟩

theorem cellsA : Tryz.prog.cellsOf 56 = 3 := by kernel_rfl
theorem spot_none {w : World} {a : Addr} {v : Value} (h : w.cell? a = some v) : a = ⟨a.block, a.off, none⟩ := by
  obtain ⟨b, o, s⟩ := a
  cases s with
  | none => rfl
  | some x =>
    unfold World.cell? at h
    simp at h
    split at h <;> cases h
/-- a slice of arrays of three numbers, opened -/
theorem open_tris {H : Type} {enc : TypeId × Value → H} {W : World} {v : Value} {d : DataW H} {p : List MemPlace} {fuel : Nat} (h : DataW.trod enc Tryz.prog W 0 (fun _ => true) true fuel 24 v.cells.toList = some (d, p)) (hv : ∃ A len cap, v = .slice A len cap) :
    ∃ l : List Tri, Rd triC 3 W v l ∧ (∀ x ∈ l, triOk x) ∧ l.length ≤ 9223372036854775807 := by
  obtain ⟨A, len, cap, rfl⟩ := hv
  rcases Go.Deep.open_slice Tryz.underlying24 h with ⟨hcs, _⟩ | ⟨a, len', cap', m, n, D, Pl, hcs, _, hl, hm, hmm, _, hi⟩
  · simp [Value.cells] at hcs
    obtain ⟨rfl, rfl, rfl⟩ := hcs
    exact ⟨[], ⟨none, 0, rfl, by simp, rfl, fun h0 => by simp at h0⟩, by simp, by simp⟩
  · simp [Value.cells] at hcs
    obtain ⟨rfl, rfl, rfl⟩ := hcs
    have hm' : len ≤ m := by rw [hmm]; simp; exact hl
    have hex : ∀ i : Nat, ∃ x : Tri, i < len → triOk x ∧ ∀ (j : Nat) u, (triC x)[j]? = some u → W.cell? ⟨a.block, a.off + (i * 3 + j), none⟩ = some u := by
      intro i
      by_cases hil : i < len
      · obtain ⟨cs', hc, ht⟩ := hi i (by omega)
        rw [cellsA] at hc
        obtain ⟨_, hcl, hat⟩ := World.cells?_some hc
        obtain ⟨xs, m2, _, _, _, hxl, hx⟩ := DataW.trod_array Tryz.underlying56 ht
        have hone : ∀ j, j < 3 → ∃ z : Int, cs'[j]? = some (.int .i64 z) ∧ (-9223372036854775808 ≤ z ∧ z ≤ 9223372036854775807) := by
          intro j hj
          have h1 := hx j hj
          rw [cells2, Nat.mul_one] at h1
          have hxs : xs[j]? = some (xs[j]'(by omega)) := List.getElem?_eq_getElem (by omega)
          rw [hxs] at h1
          obtain ⟨z, hcz, _, hwf⟩ := DataW.trod_int Tryz.underlying3 h1
          have h2 := congrArg (·[0]?) hcz
          refine ⟨z, by simpa [List.getElem?_take, List.getElem?_drop] using h2, ?_⟩
          exact bounds_i64 hwf
        obtain ⟨z0, c0, b0⟩ := hone 0 (by omega)
        obtain ⟨z1, c1, b1⟩ := hone 1 (by omega)
        obtain ⟨z2, c2, b2⟩ := hone 2 (by omega)
        refine ⟨(z0, z1, z2), fun _ => ⟨⟨b0, b1, b2⟩, ?_⟩⟩
        have hadd : ∀ j, j < 3 → (a.add (i * 3)).add j = ⟨a.block, a.off + (i * 3 + j), none⟩ := by
          intro j hj
          by_cases hz : i * 3 + j = 0
          · have e1 : i * 3 = 0 := by omega
            have e2 : j = 0 := by omega
            have h0 := hat 0 (by omega)
            rw [c0] at h0
            have h1 : (a.add (i * 3)).add 0 = a := by simp [Addr.add, e1]
            rw [h1] at h0
            rw [e2, h1]
            exact (spot_none h0).trans (by simp)
          · rw [Go.Deep.add_add]
            simp only [Addr.add]
            rw [if_neg hz]
        intro j u hu
        have hj : j < 3 := (List.getElem?_eq_some_iff.1 hu).1
        rw [← hadd j hj, hat j hj, ← hu]
        have : j = 0 ∨ j = 1 ∨ j = 2 := by omega
        rcases this with rfl | rfl | rfl
        · exact c0
        · exact c1
        · exact c2
      · exact ⟨(0, 0, 0), fun h => absurd h hil⟩
    obtain ⟨f, hf⟩ := Classical.axiomOfChoice hex
    have hll : ((List.range len).map f).length = len := by simp
    refine ⟨(List.range len).map f, ⟨some a, cap, by rw [hll], by rw [hll]; exact hl, by rw [cellsL_len triC 3 (fun _ => rfl)], fun h0 => ?_⟩, ?_, by rw [hll]; unfold maxLen at hm; omega⟩
    · rw [hll] at h0
      have hfl := (hf 0 h0).2 0 _ rfl
      have hblk : a.block < W.heap.size := by
        have h1 := World.block_lt_of_cell? W _ hfl
        exact h1
      have ha : a = ⟨a.block, a.off, none⟩ := by
        obtain ⟨i0, hi0⟩ : ∃ i0 : Nat, i0 = 0 := ⟨0, rfl⟩
        obtain ⟨cs', hc, _⟩ := hi i0 (by omega)
        rw [cellsA, hi0] at hc
        obtain ⟨_, hcl, hat⟩ := World.cells?_some hc
        have h1 := hat 0 (by omega)
        have h2 : ((a.add (0 * 3)).add 0) = a := by simp [Addr.add]
        rw [h2, List.getElem?_eq_getElem (by omega)] at h1
        exact spot_none h1
      refine ⟨a.block, a.off, congrArg some ha, hblk, fun idx u hu => ?_⟩
      have hlt : idx < len * 3 := by
        have := (List.getElem?_eq_some_iff.1 hu).1
        rw [cellsL_len triC 3 (fun _ => rfl), hll] at this
        exact this
      have hlt2 : idx / 3 < len := by omega
      have hx : ((List.range len).map f)[idx / 3]? = some (f (idx / 3)) := by simp [hlt2]
      have hjl : idx % 3 < (triC (f (idx / 3))).length := by show idx % 3 < 3; omega
      have hcell := cellsL_at triC 3 (fun _ => rfl) _ (idx / 3) (idx % 3) _ _ hx (List.getElem?_eq_getElem hjl)
      rw [show idx / 3 * 3 + idx % 3 = idx from by omega, hu] at hcell
      have := (hf (idx / 3) hlt2).2 (idx % 3) u (by rw [List.getElem?_eq_getElem hjl, ← hcell])
      rw [show idx / 3 * 3 + idx % 3 = idx from by omega] at this
      exact this
    · intro x hx
      obtain ⟨i, hi2, rfl⟩ := List.mem_map.1 hx
      exact (hf i (List.mem_range.1 hi2)).1
end Go.Proofs.YtibgibjmpcajkaaGreatDoor
