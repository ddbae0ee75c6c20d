/- Part of a proof: see the last text. -/
import Derived.Test.YtkfplcngmiljaaaGreatDoorUlo
import Derived.Test.YtkfplcngmiljaaaGreatDoorRows
import Derived.Test.YtkfplcngmiljaaaGreatDoorChecked
import Derived.ProofKit
import Derived.OpenShut
import Derived.Deep.DeepHandedRow
import Derived.Deep.Slices
import Derived.WalkKit
import Derived.WalkLawsBesides
import Derived.WalkSpells
import Derived.Lib.Hide
import Derived.Laws.Rows
set_option linter.unusedVariables false
set_option linter.unusedSimpArgs false
namespace Go.Proofs.YtkfplcngmiljaaaGreatDoor
open AI Go
namespace Mo
open Go.ChangeShapes Go.WideShapes Go.ChangeAt Go.RowKit
set_option maxRecDepth 100000
set_option maxHeartbeats 4000000
theorem in_rg {z : Int} (h : (Lit.int .i64 z).wf = true) : -9223372036854775808 ≤ z ∧ z ≤ 9223372036854775807 := by
 simp only [Lit.wf, Bool.and_eq_true, decide_eq_true_eq] at h
 exact h
theorem c3 : P.cellsOf 3 = 1 := by kernel_rfl
theorem c9 : P.cellsOf 9 = 1 := by kernel_rfl
theorem c22 : P.cellsOf 22 = 1 := by kernel_rfl
theorem c24 : P.cellsOf 24 = 2 := by kernel_rfl
theorem c25 : P.cellsOf 25 = 1 := by kernel_rfl
theorem c27 : P.cellsOf 27 = 11 := by kernel_rfl
theorem c80 : P.cellsOf 80 = 3 := by kernel_rfl
def cxW (W : World) : Cx := ⟨W.heap.size, [], [], fun _ _ => False⟩
theorem visW {W : World} {g i : Nat} {v : Value} (h : W.cell? ⟨g, i, none⟩ = some v) : Vis (cxW W) W g i v := by
 refine ⟨World.block_lt_of_cell? W _ h, fun hs => ?_, h⟩
 rcases hs with hs | ⟨r, n, cap, sz, hr, _⟩ | hs
 · cases hs
 · simp [cxW] at hr
 · exact hs
theorem stW (W : World) : St G (cxW W) W s0 :=
 ⟨rfl, trivial, (fun i j g h1 => by simp [cxW] at h1), (fun g hg => by cases hg), (fun id g b h1 => by simp [cxW] at h1), rfl, (fun r g n cap sz hr => by simp [cxW] at hr), (fun r n hr => by cases hr), (fun g hg => by cases hg), (fun g i hb => hb.elim), (fun r r' g n cap sz n' cap' sz' hr => by simp [cxW] at hr), (fun g cs hg => by cases hg), Nat.le_refl _⟩
theorem spot_none {w : World} {a : Addr} {v : Value} (h : w.cell? a = some v) : a = ⟨a.block, a.off, none⟩ := by
 obtain ⟨b, o, s⟩ := a
 cases s with
 | none => rfl
 | some x =>
   exfalso
   unfold World.cell? at h
   split at h <;> simp at h
section
variable {H : Type} {enc : TypeId × Value → H} {W : World}
noncomputable abbrev Td (enc : TypeId × Value → H) (W : World) (n : Nat) (t : TypeId) (cs : List Value) : Option (DataW H × List MemPlace) := DataW.trod enc P W 0 (fun _ => true) true n t cs
theorem cells_append {c : Cx} {w : World} {g o : Nat} {xs ys : List AV} (h : CellsAt c w g o xs) (k : CellsAt c w g (o + xs.length) ys) : CellsAt c w g o (xs ++ ys) := by
 induction xs generalizing o with
 | nil => exact k
 | cons a xs ih =>
   cases h with
   | cons hv h1 t => exact .cons hv h1 (ih t (by rw [List.length_cons] at k; rwa [show o + 1 + xs.length = o + (xs.length + 1) by omega]))
theorem open_rows {α : Type} (f : α → List AV) (c : Nat) (hc : 0 < c) (hf : ∀ a, (f a).length = c) (ok : α → Prop) {ts te : TypeId} (hu : P.underlying ts = some (.slice te)) (hce : P.cellsOf te = c) {fuel : Nat} {v : Value} {x : DataW H × List MemPlace}
   (helem : ∀ n cs x, n < fuel → Td enc W n te cs = some x → ∃ y : α, ok y ∧ RpL (cxW W) W (f y) cs)
   (h : Td enc W fuel ts [v] = some x) : ∃ l : List α, Rp (cxW W) W (.sl .lost l.length (rows f l)) v ∧ (∀ x ∈ l, ok x) ∧ l.length ≤ 9223372036854775807 := by
 rcases DataW.trod_slice hu h with ⟨hcs, _⟩ | ⟨a, len, cap, elems, rest, n, hn, hcs, _, _, hl, hm, hlen, hel, _, _⟩
 · obtain rfl : v = .slice none 0 0 := by simpa using hcs
   exact ⟨[], .sl0 trivial, by simp, by simp⟩
 · obtain rfl : v = .slice (some a) len cap := by simpa using hcs
   have hlenM : len ≤ 9223372036854775807 := by unfold maxLen at hm; omega
   have hex : ∀ i, i < len → ∃ y : α, ok y ∧ ∃ cs, RpL (cxW W) W (f y) cs ∧ cs.length = c ∧ ∀ j, j < c → W.cell? (a.add (i * c + j)) = cs[j]? := by
     intro i hi
     have hi' := hel i hi
     rw [List.getElem?_eq_getElem (by omega)] at hi'
     obtain ⟨cs', h1, h2⟩ := Option.bind_eq_some_iff.1 hi'
     obtain ⟨y, hy, hr⟩ := helem n cs' _ (by omega) h2
     rw [hce] at h1
     obtain ⟨_, hcl, hat⟩ := World.cells?_some h1
     refine ⟨y, hy, cs', hr, hcl, fun j hj => ?_⟩
     rw [← Go.Deep.add_add]
     exact hat j hj
   by_cases h0 : len = 0
   · subst h0; exact ⟨[], .sl0 trivial, by simp, by simp⟩
   · have ha : a = ⟨a.block, a.off, none⟩ := by
       obtain ⟨y, _, cs, _, hcl, hat⟩ := hex 0 (by omega)
       have h1 := hat 0 hc
       rw [List.getElem?_eq_getElem (by omega)] at h1
       have h2 : a.add (0 * c + 0) = a := by simp [Addr.add]
       rw [h2] at h1
       exact spot_none h1
     have hadd : ∀ k, a.add k = ⟨a.block, a.off + k, none⟩ := by
       intro k
       rw [ha]
       unfold Addr.add
       split
       · rename_i hk; subst hk; rfl
       · rfl
     have key : ∀ d k, k + d = len → ∃ l : List α, l.length = d ∧ (∀ x ∈ l, ok x) ∧ CellsAt (cxW W) W a.block (a.off + k * c) (rows f l) := by
       intro d
       induction d with
       | zero => intro k _; exact ⟨[], rfl, by simp, .nil⟩
       | succ d ih =>
         intro k hk
         obtain ⟨y, hy, cs, hr, hcl, hat⟩ := hex k (by omega)
         obtain ⟨l, h1, h2, h3⟩ := ih (k + 1) (by omega)
         refine ⟨y :: l, by simp [h1], fun x hx => ?_, ?_⟩
         · rcases List.mem_cons.1 hx with rfl | hx
           · exact hy
           · exact h2 x hx
         · rw [rows_cons]
           refine cells_append (CellsAt.of_vals hr fun j v hv => ?_) ?_
           · have hj : j < c := by have := (List.getElem?_eq_some_iff.1 hv).1; omega
             have := hat j hj
             rw [hadd, hv] at this
             rw [show a.off + k * c + j = a.off + (k * c + j) by omega]
             exact visW this
           · rw [hf y, show a.off + k * c + c = a.off + (k + 1) * c by rw [Nat.add_mul]; omega]
             exact h3
     obtain ⟨l, h1, h2, h3⟩ := key len 0 (by omega)
     rw [Nat.zero_mul, Nat.add_zero] at h3
     refine ⟨l, ?_, h2, by omega⟩
     rw [ha, h1]
     exact .sl1 hl h3 trivial
theorem o3 (n : Nat) (cs : List Value) (x : DataW H × List MemPlace) (h : Td enc W n 3 cs = some x) : ∃ y : Int, True ∧ RpL (cxW W) W (inC y) cs := by
 obtain ⟨z, q, _⟩ := DataW.trod_int Tryz.underlying3 h
 subst q
 exact ⟨z, trivial, .cons (.sc rfl) .nil⟩
theorem o9 (n : Nat) (cs : List Value) (x : DataW H × List MemPlace) (h : Td enc W n 9 cs = some x) : ∃ y : ByteArray, True ∧ RpL (cxW W) W (stC y) cs := by
 obtain ⟨z, q, _⟩ := DataW.trod_string Tryz.underlying9 h
 subst q
 exact ⟨z, trivial, .cons (.sc rfl) .nil⟩
theorem o80 : ∀ (n : Nat) (cs : List Value) (x : DataW H × List MemPlace), Td enc W n 80 cs = some x → ∃ y : Pc, okPc y ∧ RpL (cxW W) W (pcC y) cs := by
 intro n cs x h
 obtain ⟨xs, m, hm, _, hl, hlen, hf⟩ := DataW.trod_struct Tryz.underlying80 h
 rw [c80] at hl
 match cs, hl with
 | [a0, a1, a2], _ =>
   have h0 : Td enc W m 3 (List.take (P.cellsOf 3) (List.drop 0 [a0, a1, a2])) = xs[0]? := hf 0 _ rfl
   rw [c3, List.getElem?_eq_getElem (by rw [hlen]; decide)] at h0
   have h0 : Td enc W m 3 [a0] = some _ := h0
   have h1 : Td enc W m 3 (List.take (P.cellsOf 3) (List.drop 1 [a0, a1, a2])) = xs[1]? := hf 1 _ rfl
   rw [c3, List.getElem?_eq_getElem (by rw [hlen]; decide)] at h1
   have h1 : Td enc W m 3 [a1] = some _ := h1
   have h2 : Td enc W m 3 (List.take (P.cellsOf 3) (List.drop 2 [a0, a1, a2])) = xs[2]? := hf 2 _ rfl
   rw [c3, List.getElem?_eq_getElem (by rw [hlen]; decide)] at h2
   have h2 : Td enc W m 3 [a2] = some _ := h2
   obtain ⟨z0, q0, _, w0⟩ := DataW.trod_int Tryz.underlying3 h0
   obtain rfl : a0 = .int .i64 z0 := by simpa using q0
   obtain ⟨z1, q1, _, w1⟩ := DataW.trod_int Tryz.underlying3 h1
   obtain rfl : a1 = .int .i64 z1 := by simpa using q1
   obtain ⟨z2, q2, _, w2⟩ := DataW.trod_int Tryz.underlying3 h2
   obtain rfl : a2 = .int .i64 z2 := by simpa using q2
   exact ⟨⟨z0, z1, z2⟩, ⟨(in_rg w0), (in_rg w1), (in_rg w2)⟩, (.cons (.sc rfl) (.cons (.sc rfl) (.cons (.sc rfl) .nil)))⟩
theorem o24 : ∀ (n : Nat) (cs : List Value) (x : DataW H × List MemPlace), Td enc W n 24 cs = some x → ∃ y : Fn, okFn y ∧ RpL (cxW W) W (fnC y) cs := by
 intro n cs x h
 obtain ⟨xs, m, hm, _, hl, hlen, hf⟩ := DataW.trod_struct Tryz.underlying24 h
 rw [c24] at hl
 match cs, hl with
 | [a0, a1], _ =>
   have h0 : Td enc W m 3 (List.take (P.cellsOf 3) (List.drop 0 [a0, a1])) = xs[0]? := hf 0 _ rfl
   rw [c3, List.getElem?_eq_getElem (by rw [hlen]; decide)] at h0
   have h0 : Td enc W m 3 [a0] = some _ := h0
   have h1 : Td enc W m 22 (List.take (P.cellsOf 22) (List.drop 1 [a0, a1])) = xs[1]? := hf 1 _ rfl
   rw [c22, List.getElem?_eq_getElem (by rw [hlen]; decide)] at h1
   have h1 : Td enc W m 22 [a1] = some _ := h1
   obtain ⟨z0, q0, _, w0⟩ := DataW.trod_int Tryz.underlying3 h0
   obtain rfl : a0 = .int .i64 z0 := by simpa using q0
   obtain ⟨l1, r1, k1, b1⟩ := open_rows pcC 3 (by decide) (fun _ => rfl) okPc Tryz.underlying22 c80 (fun k cs x hk ht => o80 k cs x ht) h1
   exact ⟨⟨z0, l1⟩, ⟨b1, k1⟩, (.cons (.sc rfl) (.cons r1 .nil))⟩
theorem o27 : ∀ (n : Nat) (cs : List Value) (x : DataW H × List MemPlace), Td enc W n 27 cs = some x → ∃ y : Nd, okNd y ∧ RpL (cxW W) W (ndC y) cs := by
 intro n
 induction n using Nat.strongRecOn with
 | _ n ih =>
 intro cs x h
 obtain ⟨xs, m, hm, _, hl, hlen, hf⟩ := DataW.trod_struct Tryz.underlying27 h
 rw [c27] at hl
 match cs, hl with
 | [a0, a1, a2, a3, a4, a5, a6, a7, a8, a9, a10], _ =>
   have h0 : Td enc W m 3 (List.take (P.cellsOf 3) (List.drop 0 [a0, a1, a2, a3, a4, a5, a6, a7, a8, a9, a10])) = xs[0]? := hf 0 _ rfl
   rw [c3, List.getElem?_eq_getElem (by rw [hlen]; decide)] at h0
   have h0 : Td enc W m 3 [a0] = some _ := h0
   have h1 : Td enc W m 9 (List.take (P.cellsOf 9) (List.drop 1 [a0, a1, a2, a3, a4, a5, a6, a7, a8, a9, a10])) = xs[1]? := hf 1 _ rfl
   rw [c9, List.getElem?_eq_getElem (by rw [hlen]; decide)] at h1
   have h1 : Td enc W m 9 [a1] = some _ := h1
   have h2 : Td enc W m 9 (List.take (P.cellsOf 9) (List.drop 2 [a0, a1, a2, a3, a4, a5, a6, a7, a8, a9, a10])) = xs[2]? := hf 2 _ rfl
   rw [c9, List.getElem?_eq_getElem (by rw [hlen]; decide)] at h2
   have h2 : Td enc W m 9 [a2] = some _ := h2
   have h3 : Td enc W m 3 (List.take (P.cellsOf 3) (List.drop 3 [a0, a1, a2, a3, a4, a5, a6, a7, a8, a9, a10])) = xs[3]? := hf 3 _ rfl
   rw [c3, List.getElem?_eq_getElem (by rw [hlen]; decide)] at h3
   have h3 : Td enc W m 3 [a3] = some _ := h3
   have h4 : Td enc W m 3 (List.take (P.cellsOf 3) (List.drop 4 [a0, a1, a2, a3, a4, a5, a6, a7, a8, a9, a10])) = xs[4]? := hf 4 _ rfl
   rw [c3, List.getElem?_eq_getElem (by rw [hlen]; decide)] at h4
   have h4 : Td enc W m 3 [a4] = some _ := h4
   have h5 : Td enc W m 3 (List.take (P.cellsOf 3) (List.drop 5 [a0, a1, a2, a3, a4, a5, a6, a7, a8, a9, a10])) = xs[5]? := hf 5 _ rfl
   rw [c3, List.getElem?_eq_getElem (by rw [hlen]; decide)] at h5
   have h5 : Td enc W m 3 [a5] = some _ := h5
   have h6 : Td enc W m 3 (List.take (P.cellsOf 3) (List.drop 6 [a0, a1, a2, a3, a4, a5, a6, a7, a8, a9, a10])) = xs[6]? := hf 6 _ rfl
   rw [c3, List.getElem?_eq_getElem (by rw [hlen]; decide)] at h6
   have h6 : Td enc W m 3 [a6] = some _ := h6
   have h7 : Td enc W m 24 (List.take (P.cellsOf 24) (List.drop 7 [a0, a1, a2, a3, a4, a5, a6, a7, a8, a9, a10])) = xs[7]? := hf 7 _ rfl
   rw [c24, List.getElem?_eq_getElem (by rw [hlen]; decide)] at h7
   have h7 : Td enc W m 24 [a7, a8] = some _ := h7
   have h8 : Td enc W m 25 (List.take (P.cellsOf 25) (List.drop 9 [a0, a1, a2, a3, a4, a5, a6, a7, a8, a9, a10])) = xs[8]? := hf 8 _ rfl
   rw [c25, List.getElem?_eq_getElem (by rw [hlen]; decide)] at h8
   have h8 : Td enc W m 25 [a9] = some _ := h8
   have h9 : Td enc W m 3 (List.take (P.cellsOf 3) (List.drop 10 [a0, a1, a2, a3, a4, a5, a6, a7, a8, a9, a10])) = xs[9]? := hf 9 _ rfl
   rw [c3, List.getElem?_eq_getElem (by rw [hlen]; decide)] at h9
   have h9 : Td enc W m 3 [a10] = some _ := h9
   obtain ⟨z0, q0, _, w0⟩ := DataW.trod_int Tryz.underlying3 h0
   obtain rfl : a0 = .int .i64 z0 := by simpa using q0
   obtain ⟨z1, q1, _⟩ := DataW.trod_string Tryz.underlying9 h1
   obtain rfl : a1 = .string z1 := by simpa using q1
   obtain ⟨z2, q2, _⟩ := DataW.trod_string Tryz.underlying9 h2
   obtain rfl : a2 = .string z2 := by simpa using q2
   obtain ⟨z3, q3, _, w3⟩ := DataW.trod_int Tryz.underlying3 h3
   obtain rfl : a3 = .int .i64 z3 := by simpa using q3
   obtain ⟨z4, q4, _, w4⟩ := DataW.trod_int Tryz.underlying3 h4
   obtain rfl : a4 = .int .i64 z4 := by simpa using q4
   obtain ⟨z5, q5, _, w5⟩ := DataW.trod_int Tryz.underlying3 h5
   obtain rfl : a5 = .int .i64 z5 := by simpa using q5
   obtain ⟨z6, q6, _, w6⟩ := DataW.trod_int Tryz.underlying3 h6
   obtain rfl : a6 = .int .i64 z6 := by simpa using q6
   obtain ⟨y7, k7, r7⟩ := o24 m _ _ h7
   obtain ⟨l8, r8, k8, b8⟩ := open_rows ndC 11 (by decide) (fun _ => rfl) okNd Tryz.underlying25 c27 (fun k cs x hk ht => ih k (by omega) cs x ht) h8
   rw [← ndsC_eq] at r8
   obtain ⟨z9, q9, _, w9⟩ := DataW.trod_int Tryz.underlying3 h9
   obtain rfl : a10 = .int .i64 z9 := by simpa using q9
   exact ⟨⟨z0, z1, z2, z3, z4, z5, z6, y7, l8, z9⟩, by rw [okNd]; exact ⟨k7, b8, (okNds_iff.2 k8)⟩, (.cons (.sc rfl) (.cons (.sc rfl) (.cons (.sc rfl) (.cons (.sc rfl) (.cons (.sc rfl) (.cons (.sc rfl) (.cons (.sc rfl) (RpL.append r7 (.cons r8 (.cons (.sc rfl) .nil))))))))))⟩
end
theorem agg_of {c : Cx} {W : World} {v : Value} {cs : List AV} (hc : cs.length ≠ 1) (h : RpL c W cs v.cells.toList) : Rp c W (.agg cs) v := by
 have hl := h.len
 cases v with
 | agg ws => exact .agg (by simpa [Value.cells] using h)
 | _ => simp [Value.cells] at hl; omega
end Mo
theorem own : ownKnob Tryz.prog.godebug = none := by kernel_rfl
theorem laidOut : laidOutB Tryz.prog = true := by kernel_rfl
end Go.Proofs.YtkfplcngmiljaaaGreatDoor
namespace LexS
def cls (n : Nat) : Nat :=
 if n = 32 ∨ n = 9 ∨ n = 10 ∨ n = 13 then 1
 else if 97 ≤ n ∧ n ≤ 122 then 2
 else if 65 ≤ n ∧ n ≤ 90 then 4
 else if 48 ≤ n ∧ n ≤ 57 then 8
 else if n = 95 then 16
 else 0
def cin (m : Nat) (c : UInt8) : Bool := (cls c.toNat &&& m) != 0
def spanN (m : Nat) (t : List UInt8) : Nat := (t.takeWhile (cin m)).length
def isB (m : Nat) (t : List UInt8) : Bool := match t with
 | [] => false
 | c :: _ => cin m c
def gapN (b : Bool) : List UInt8 → Nat
 | [] => 0
 | c :: t =>
   if b then (if c = 10 then 1 + gapN false t else 1 + gapN true t)
   else if cin 1 c then 1 + gapN false t
   else if c = 47 ∧ t.head? = some 47 then 1 + gapN true t
   else 0
def skipN (t : List UInt8) : Nat := gapN false t
def dateAt (t : List UInt8) (i : Nat) : Bool :=
 if i = 4 ∨ i = 7 then t[i]? == some 45 else isB 8 (t.drop i)
def isDate (t : List UInt8) : Bool := decide (10 ≤ t.length) && (List.range 10).all (dateAt t)
def free (t : List UInt8) : Bool := !(isB 30 t || t.head? == some 46)
def figs (t : List UInt8) : Nat × Nat :=
 let d := spanN 8 t
 if isDate t then (if free (t.drop 10) then (5, 10) else (0, 0))
 else if t.head? = some 48 ∧ 1 < d then (0, 0)
 else if (t.drop d).head? = some 46 then
   (if 10 < d ∨ isB 8 (t.drop (d + 1)) = false ∨ isB 8 (t.drop (d + 2)) = false then (0, 0)
    else if free (t.drop (d + 3)) then (4, d + 3) else (0, 0))
 else if 12 < d then (0, 0)
 else if free (t.drop d) then (3, d) else (0, 0)
def syms : List (List UInt8) := [[61, 61], [33, 61], [60, 61], [62, 61], [60], [62], [43], [45], [42], [47], [40], [41], [123], [125], [58], [59], [44]]
def symN (t : List UInt8) : List (List UInt8) → Nat × Nat
 | [] => (0, 0)
 | y :: ys => if y.isPrefixOf t then (6, y.length) else symN t ys
def readN (t : List UInt8) : Nat × Nat :=
 if isB 2 t then (if spanN 30 t ≤ 16 ∧ spanN 26 t = spanN 30 t then (1, spanN 30 t) else (0, 0))
 else if isB 4 t then (if spanN 30 t = 3 ∧ spanN 4 t = spanN 30 t then (2, spanN 30 t) else (0, 0))
 else if isB 8 t then figs t
 else symN t syms
abbrev Tok := Nat × List UInt8 × Nat
def yieldF : Nat → Nat → List UInt8 → List Tok
 | 0, _, _ => []
 | n + 1, o, t =>
   if t = [] then []
   else if (readN t).1 = 0 then [(0, [], o)]
   else ((readN t).1, t.take (readN t).2, o) ::
     yieldF n (o + (readN t).2 + skipN (t.drop (readN t).2)) ((t.drop (readN t).2).drop (skipN (t.drop (readN t).2)))
def yields (s : List UInt8) : List Tok := yieldF s.length (skipN s) (s.drop (skipN s))
end LexS
namespace LexS
theorem spanN_cons (m : Nat) (c : UInt8) (t : List UInt8) : spanN m (c :: t) = if cin m c then 1 + spanN m t else 0 := by
 unfold spanN
 rw [List.takeWhile_cons]
 by_cases h : cin m c = true
 · simp [h]; omega
 · simp [h]
theorem span_stop (m : Nat) (t : List UInt8) : isB m (t.drop (spanN m t)) = false := by
 induction t with
 | nil => rfl
 | cons c t ih =>
   rw [spanN_cons]
   by_cases h : cin m c = true
   · rw [if_pos h, Nat.add_comm, List.drop_succ_cons]; exact ih
   · rw [if_neg h, List.drop_zero]; simp [isB, h]
theorem span_le (m : Nat) (t : List UInt8) : spanN m t ≤ t.length := by
 unfold spanN; exact (List.takeWhile_prefix _).length_le
theorem gap_white (t : List UInt8) : gapN false t = spanN 1 t + gapN false (t.drop (spanN 1 t)) := by
 induction t with
 | nil => rfl
 | cons c t ih =>
   rw [spanN_cons]
   by_cases h : cin 1 c = true
   · rw [if_pos h, Nat.add_comm 1, List.drop_succ_cons, gapN]
     simp only [h, Bool.false_eq_true, if_false, if_true]
     omega
   · rw [if_neg h]; simp
theorem gap_comment (t : List UInt8) (h : [47, 47].isPrefixOf t = true) : gapN false t = gapN true t := by
 obtain ⟨u, rfl⟩ : ∃ u, t = 47 :: 47 :: u := by
   obtain ⟨u, hu⟩ := List.isPrefixOf_iff_prefix.1 h
   exact ⟨u, by simpa using hu.symm⟩
 rw [gapN]
 conv => rhs; rw [gapN]
 simp [cin, cls]
theorem gap_none (t : List UInt8) (h1 : isB 1 t = false) (h : [47, 47].isPrefixOf t = false) : gapN false t = 0 := by
 cases t with
 | nil => rfl
 | cons c t =>
   rw [gapN]
   have h1' : cin 1 c = false := h1
   simp only [h1', Bool.false_eq_true, if_false]
   rw [if_neg]
   rintro ⟨rfl, h2⟩
   cases t with
   | nil => simp at h2
   | cons d t => simp at h2; subst h2; simp [List.isPrefixOf] at h
theorem gap_line (t : List UInt8) : gapN true (10 :: t) = gapN false (10 :: t) := by
 rw [gapN, gapN]; simp [cin, cls]
theorem gap_in (c : UInt8) (t : List UInt8) (h : c ≠ 10) : gapN true (c :: t) = 1 + gapN true t := by
 rw [gapN]; simp [h]
theorem gapN_le (b : Bool) (t : List UInt8) : gapN b t ≤ t.length := by
 induction t generalizing b with
 | nil => simp [gapN]
 | cons c t ih =>
   rw [gapN]
   have h1 := ih true
   have h2 := ih false
   repeat' split
   all_goals simp only [List.length_cons]; omega
theorem skip_le (t : List UInt8) : skipN t ≤ t.length := gapN_le _ _
theorem isPrefixOf_take (b a : List UInt8) : b.isPrefixOf a = (a.take b.length == b) := by
 rw [Bool.eq_iff_iff, List.isPrefixOf_iff_prefix, List.prefix_iff_eq_take, beq_iff_eq]
 exact eq_comm
end LexS
namespace LexS
theorem symN_pos (t : List UInt8) (ys : List (List UInt8)) (h : (symN t ys).1 ≠ 0) (hy : ∀ y ∈ ys, 1 ≤ y.length) : 1 ≤ (symN t ys).2 ∧ (symN t ys).2 ≤ t.length := by
 induction ys with
 | nil => simp [symN] at h
 | cons y ys ih =>
   rw [symN] at h ⊢
   by_cases hp : y.isPrefixOf t = true
   · rw [if_pos hp]
     exact ⟨hy y (by simp), (List.isPrefixOf_iff_prefix.1 hp).length_le⟩
   · rw [if_neg hp] at h ⊢
     exact ih h (fun y' h' => hy y' (by simp [h']))
theorem isB_span (m : Nat) (t : List UInt8) (h : isB m t = true) : 1 ≤ spanN m t := by
 cases t with
 | nil => simp [isB] at h
 | cons c t => have h' : cin m c = true := h; rw [spanN_cons, if_pos h']; omega
theorem cin_sub (c : UInt8) (m m' : Nat) (h : cin m c = true) (hs : ∀ k, k = 0 ∨ k = 1 ∨ k = 2 ∨ k = 4 ∨ k = 8 ∨ k = 16 → (k &&& m) ≠ 0 → (k &&& m') ≠ 0) : cin m' c = true := by
 unfold cin at h ⊢
 rw [bne_iff_ne] at h ⊢
 refine hs _ ?_ h
 unfold cls
 repeat (split; simp)
 simp
theorem isB_sub (t : List UInt8) (m m' : Nat) (h : isB m t = true) (hs : ∀ k, k = 0 ∨ k = 1 ∨ k = 2 ∨ k = 4 ∨ k = 8 ∨ k = 16 → (k &&& m) ≠ 0 → (k &&& m') ≠ 0) : isB m' t = true := by
 cases t with
 | nil => simp [isB] at h
 | cons c t => exact cin_sub c m m' h hs
theorem isB_len (m : Nat) (t : List UInt8) (k : Nat) (h : isB m (t.drop k) = true) : k < t.length := by
 rcases Nat.lt_or_ge k t.length with hk | hk
 · exact hk
 · rw [List.drop_eq_nil_of_le hk] at h; simp [isB] at h
theorem figs_pos (t : List UInt8) (h8 : isB 8 t = true) (h : (figs t).1 ≠ 0) : 1 ≤ (figs t).2 ∧ (figs t).2 ≤ t.length := by
 have hd := isB_span 8 t h8
 have hl := span_le 8 t
 unfold figs at h ⊢
 simp only at h ⊢
 by_cases h1 : isDate t = true
 · rw [if_pos h1] at h ⊢
   by_cases h2 : free (t.drop 10) = true
   · rw [if_pos h2]
     have : 10 ≤ t.length := by unfold isDate at h1; simp at h1; exact h1.1
     exact ⟨by simp, this⟩
   · rw [if_neg h2] at h; simp at h
 · rw [if_neg h1] at h ⊢
   by_cases h2 : t.head? = some 48 ∧ 1 < spanN 8 t
   · rw [if_pos h2] at h; simp at h
   · rw [if_neg h2] at h ⊢
     by_cases h3 : (t.drop (spanN 8 t)).head? = some 46
     · rw [if_pos h3] at h ⊢
       by_cases h4 : 10 < spanN 8 t ∨ isB 8 (t.drop (spanN 8 t + 1)) = false ∨ isB 8 (t.drop (spanN 8 t + 2)) = false
       · rw [if_pos h4] at h; simp at h
       · rw [if_neg h4] at h ⊢
         by_cases h5 : free (t.drop (spanN 8 t + 3)) = true
         · rw [if_pos h5]
           have h6 : isB 8 (t.drop (spanN 8 t + 2)) = true := by
             cases hh : isB 8 (t.drop (spanN 8 t + 2)) with
             | true => rfl
             | false => exact absurd (.inr (.inr hh)) h4
           have := isB_len 8 t _ h6
           exact ⟨by simp, by simp only; omega⟩
         · rw [if_neg h5] at h; simp at h
     · rw [if_neg h3] at h ⊢
       by_cases h4 : 12 < spanN 8 t
       · rw [if_pos h4] at h; simp at h
       · rw [if_neg h4] at h ⊢
         by_cases h5 : free (t.drop (spanN 8 t)) = true
         · rw [if_pos h5]; exact ⟨hd, hl⟩
         · rw [if_neg h5] at h; simp at h
theorem read_pos (t : List UInt8) (h : (readN t).1 ≠ 0) : 1 ≤ (readN t).2 ∧ (readN t).2 ≤ t.length := by
 have hl := span_le 30 t
 unfold readN at h ⊢
 by_cases h2 : isB 2 t = true
 · have hd := isB_span 30 t (isB_sub t 2 30 h2 (by intro k hk; rcases hk with rfl | rfl | rfl | rfl | rfl | rfl <;> decide))
   rw [if_pos h2] at h ⊢
   by_cases hc : spanN 30 t ≤ 16 ∧ spanN 26 t = spanN 30 t
   · rw [if_pos hc]; exact ⟨hd, hl⟩
   · rw [if_neg hc] at h; simp at h
 · rw [if_neg h2] at h ⊢
   by_cases h4 : isB 4 t = true
   · have hd := isB_span 30 t (isB_sub t 4 30 h4 (by intro k hk; rcases hk with rfl | rfl | rfl | rfl | rfl | rfl <;> decide))
     rw [if_pos h4] at h ⊢
     by_cases hc : spanN 30 t = 3 ∧ spanN 4 t = spanN 30 t
     · rw [if_pos hc]; exact ⟨hd, hl⟩
     · rw [if_neg hc] at h; simp at h
   · rw [if_neg h4] at h ⊢
     by_cases h8 : isB 8 t = true
     · rw [if_pos h8] at h ⊢; exact figs_pos t h8 h
     · rw [if_neg h8] at h ⊢; exact symN_pos t syms h (by decide)
def yieldAt (s : List UInt8) (k : Nat) : List Tok := yieldF (s.length - k) k (s.drop k)
theorem yieldF_fuel (n m o : Nat) (t : List UInt8) (hn : t.length ≤ n) (hm : t.length ≤ m) : yieldF n o t = yieldF m o t := by
 induction n generalizing m o t with
 | zero =>
   have : t = [] := by cases t with | nil => rfl | cons c t => simp at hn
   subst this
   cases m with
   | zero => rfl
   | succ m => simp [yieldF]
 | succ n ih =>
   cases m with
   | zero =>
     have : t = [] := by cases t with | nil => rfl | cons c t => simp at hm
     subst this; simp [yieldF]
   | succ m =>
     rw [yieldF, yieldF]
     by_cases ht : t = []
     · rw [if_pos ht, if_pos ht]
     · rw [if_neg ht, if_neg ht]
       by_cases hz : (readN t).1 = 0
       · rw [if_pos hz, if_pos hz]
       · rw [if_neg hz, if_neg hz]
         have hp := read_pos t hz
         refine congrArg _ (ih m _ _ ?_ ?_)
         · simp only [List.length_drop]; omega
         · simp only [List.length_drop]; omega
theorem yieldAt_end (s : List UInt8) (k : Nat) (h : s.length ≤ k) : yieldAt s k = [] := by
 unfold yieldAt
 rw [show s.length - k = 0 from by omega]; rfl
theorem yieldAt_err (s : List UInt8) (k : Nat) (h : k < s.length) (hz : (readN (s.drop k)).1 = 0) : yieldAt s k = [(0, [], k)] := by
 unfold yieldAt
 obtain ⟨n, hn⟩ : ∃ n, s.length - k = n + 1 := ⟨s.length - k - 1, by omega⟩
 rw [hn, yieldF, if_neg (by intro e; have := congrArg List.length e; simp at this; omega), if_pos hz]
theorem yieldAt_tok (s : List UInt8) (k : Nat) (h : k < s.length) (hz : (readN (s.drop k)).1 ≠ 0) :
   yieldAt s k = ((readN (s.drop k)).1, (s.drop k).take (readN (s.drop k)).2, k) :: yieldAt s (k + (readN (s.drop k)).2 + skipN (s.drop (k + (readN (s.drop k)).2))) := by
 have hp := read_pos _ hz
 rw [List.length_drop] at hp
 unfold yieldAt
 obtain ⟨n, hn⟩ : ∃ n, s.length - k = n + 1 := ⟨s.length - k - 1, by omega⟩
 rw [hn, yieldF, if_neg (by intro e; have := congrArg List.length e; simp at this; omega), if_neg hz]
 refine congrArg _ ?_
 rw [List.drop_drop, List.drop_drop]
 refine yieldF_fuel _ _ _ _ ?_ ?_
 · rw [List.length_drop]; omega
 · rw [List.length_drop]; omega
theorem yields_at (s : List UInt8) : yields s = yieldAt s (skipN s) := by
 unfold yields yieldAt
 exact yieldF_fuel _ _ _ _ (by rw [List.length_drop]; omega) (by rw [List.length_drop]; omega)
def lexOut : List Tok → List Tok → List Tok × Nat × Nat
 | acc, [] => (acc, 0, 0)
 | acc, x :: r => if acc.length = 2000 then ([], 2, x.2.2) else if x.1 = 0 then ([], 61, x.2.2) else lexOut (acc ++ [x]) r
def lexS (s : List UInt8) : List Tok × Nat × Nat := if 6000 < s.length then ([], 2, 0) else lexOut [] (yields s)
def GoodT (l : List Tok) : Prop := l.length ≤ 2000 ∧ ∀ x ∈ l, x.1 ≠ 0
theorem lexOut_good (acc q r : List Tok) (h : GoodT (acc ++ q)) : lexOut acc (q ++ r) = lexOut (acc ++ q) r := by
 induction q generalizing acc with
 | nil => simp
 | cons x q ih =>
   rw [List.cons_append, lexOut]
   have h1 := h.1
   rw [List.length_append, List.length_cons] at h1
   rw [if_neg (by omega), if_neg (h.2 x (by simp))]
   have := ih (acc ++ [x]) (by simpa using h)
   simpa using this
end LexS
namespace Go.Proofs.YtkfplcngmiljaaaGreatDoor
open Go.RowKit LexS
def symArr : Array Value := (syms.map fun y => Value.string ⟨y.toArray⟩).toArray
def Tabs (w : World) : Prop := (∀ i, i < 128 → w.cell? ⟨2, i, none⟩ = some (.int .u8 (cls i))) ∧ (∀ (j : Nat) v, symArr.toList[j]? = some v → w.cell? ⟨0, j, none⟩ = some v)
theorem Tabs.cls {w : World} (h : Tabs w) (i : Nat) (hi : i < 128) : w.cell? ⟨2, i, none⟩ = some (.int .u8 (cls i)) := by
 exact h.1 i hi
theorem Tabs.keep {w w' : World} (h : Tabs w) (hk : w'.heap[(2 : Nat)]? = w.heap[(2 : Nat)]? ∧ w'.heap[(0 : Nat)]? = w.heap[(0 : Nat)]?) : Tabs w' := by
 refine ⟨fun i hi => ?_, fun j v hj => ?_⟩
 · rw [World.cell?_of_block (w := w) hk.1]; exact h.1 i hi
 · rw [World.cell?_of_block (w := w) hk.2]; exact h.2 j v hj
def TB (n : Nat) : Prop := 2 < n ∧ 0 < n
theorem cell_lt {w : World} {g i : Nat} {v : Value} (h : w.cell? ⟨g, i, none⟩ = some v) : g < w.heap.size := by
 unfold World.cell? at h
 by_cases hg : g < w.heap.size
 · exact hg
 · rw [Array.getElem?_eq_none (by simpa using hg)] at h
   cases h
theorem Tabs.tb {w : World} (h : Tabs w) : TB w.heap.size := ⟨cell_lt (h.1 0 (by decide)), cell_lt (h.2 0 _ rfl)⟩
theorem wpList_load_cells {P : Program} {ops : Array Oper} {rest : List Oper} {o : Oper} {a : Act} {w : World} {Q : Exit → Act → World → Prop} (hgd : o.guard = none) (ty : TypeId) (x : Operand) (ho : o.op = .load ty x)
   (g : Nat) (hx : a.eval x = .pointer (some ⟨g, 0, none⟩)) (cs : Array Value) (d : TypeDesc) (hg : ∀ (j : Nat) v, cs.toList[j]? = some v → w.cell? ⟨g, j, none⟩ = some v)
   (hu : P.underlying ty = some d) (hd : (match d with | .struct _ | .array _ _ => true | _ => false) = true) (hi : (P.info? ty).map (·.size) = some cs.size)
   (h : wpList P ops Q rest (a.put o.dst (.agg cs)) w) : wpList P ops Q (o :: rest) a w := by
 have hl : (loadCells ⟨g, 0, none⟩ cs.toList.length).run P w = .ok cs.toList.toArray w :=
   run_loadCells_list (P := P) w ⟨g, 0, none⟩ cs.toList (fun j v hv => by
     have hadd : (⟨g, 0, none⟩ : Addr).add j = ⟨g, j, none⟩ := by unfold Addr.add; split <;> simp_all
     rw [hadd]; exact hg j v hv)
 have hrow : (loadVar ty ⟨g, 0, none⟩).run P w = .ok (.agg cs) w := by
   cases hq : P.info? ty with
   | none => simp [hq] at hi
   | some i =>
     have hs : i.size = cs.size := by simpa [hq] using hi
     have hagg : (isAgg ty).run P w = .ok true w := by
       unfold isAgg
       rw [Sem.run_bind, run_underlying hu w]
       cases d <;> simp_all
     simp only [Array.length_toList, Array.toArray_toList] at hl
     simp [loadVar, Sem.run_bind, hagg, Go.sizeOf, typeInfo, hq, hs, hl]
 refine wpList_plain hgd fun _ hK => ?_
 unfold Oper.wp execOp
 simp only [ho, hx, Instr.loadAt, Instr.sureAddr, Sem.run_bind, Sem.run_pure, Result.andThen_ok, hrow]
 exact hK _ _ h
abbrev L (s : ByteArray) : List UInt8 := s.data.toList
theorem drop_at (s : ByteArray) (k : Nat) (h : k < s.size) : (L s).drop k = s[k] :: (L s).drop (k + 1) := by
 rw [List.drop_eq_getElem_cons (by simpa using h)]; rfl
theorem drop_end (s : ByteArray) (k : Nat) (h : s.size ≤ k) : (L s).drop k = [] := by
 rw [List.drop_eq_nil_iff]; simpa using h
def okm (m : Nat) : Bool := m == 1 || m == 2 || m == 4 || m == 8 || m == 26 || m == 30
theorem cls_vals (n : Nat) : cls n = 0 ∨ cls n = 1 ∨ cls n = 2 ∨ cls n = 4 ∨ cls n = 8 ∨ cls n = 16 := by
 unfold cls; repeat (split; simp)
 simp
theorem cls_big (n : Nat) (h : 128 ≤ n) : cls n = 0 := by
 unfold cls
 rw [if_neg (by omega), if_neg (by omega), if_neg (by omega), if_neg (by omega), if_neg (by omega)]
theorem bits_cls (n m : Nat) (hm : okm m = true) : (bits BinOp.and IntKind.u8 (cls n : Int) (m : Int) != 0) = ((cls n &&& m) != 0) := by
 have hm' : m = 1 ∨ m = 2 ∨ m = 4 ∨ m = 8 ∨ m = 26 ∨ m = 30 := by simp [okm] at hm; omega
 rcases cls_vals n with h | h | h | h | h | h <;> rw [h] <;> rcases hm' with rfl | rfl | rfl | rfl | rfl | rfl <;> decide
set_option maxHeartbeats 400000 in
theorem is_any (s : ByteArray) (a : Int) (m : Nat) (w : World) (hT : Tabs w) (h0 : 0 ≤ a) (hm : okm m = true) :
   Calls Tryz.prog 124 #[.string s, .int .i64 a, .int .u8 m] w fun e w' => e = .returned (.bool (isB m ((L s).drop a.toNat))) ∧ w = w' := by
 obtain ⟨k, rfl⟩ := Int.eq_ofNat_of_zero_le h0
 rw [Int.toNat_natCast]
 by_cases ha : k < s.size
 · have e1 : isB m ((L s).drop k) = cin m s[k] := by rw [drop_at s k ha]; rfl
   have E1 := Lib.hid e1
   clear e1
   have HM := Lib.hid hm
   clear hm
   by_cases h128 : (s[k].toNat : Int) < 128
   · have hc := hT.cls s[k].toNat (by omega)
     go_enter Tryz.func124, Tryz.ntmps124
     go_wp2
     go_ret
     refine ⟨?_, rfl⟩
     rw [E1.out]
     have := bits_cls s[k].toNat m HM.out
     exact congrArg (fun b => Ending.returned (.bool b)) this
   · have e2 : cin m s[k] = false := by unfold cin; rw [cls_big _ (by omega)]; simp
     have E2 := Lib.hid e2
     clear e2
     go_enter Tryz.func124, Tryz.ntmps124
     go_wp2
     go_ret
     exact ⟨by rw [E1.out, E2.out]; rfl, rfl⟩
 · have e1 : isB m ((L s).drop k) = false := by rw [drop_end s k (by omega)]; rfl
   have E1 := Lib.hid e1
   clear e1
   go_enter Tryz.func124, Tryz.ntmps124
   go_wp2
   go_ret
   exact ⟨by rw [E1.out]; rfl, rfl⟩
theorem run_step (m : Nat) (s : ByteArray) (k : Nat) (h : isB m ((L s).drop k) = true) : k + spanN m ((L s).drop k) = k + 1 + spanN m ((L s).drop (k + 1)) ∧ k < s.size := by
 by_cases hk : k < s.size
 · rw [drop_at s k hk] at h ⊢
   have h' : cin m s[k] = true := h
   refine ⟨?_, hk⟩
   unfold spanN
   rw [List.takeWhile_cons, if_pos h']
   simp; omega
 · rw [drop_end s k (by omega)] at h; simp [isB] at h
theorem run_stop (m : Nat) (t : List UInt8) (h : isB m t = false) : spanN m t = 0 := by
 cases t with
 | nil => rfl
 | cons c t => unfold spanN; rw [List.takeWhile_cons]; have : cin m c = false := h; simp [this]
set_option maxHeartbeats 400000 in
theorem run_any (s : ByteArray) (a : Int) (m : Nat) (w : World) (hs : s.size ≤ 9223372036854775806) (hT : Tabs w) (h0 : 0 ≤ a) (hm : okm m = true) :
   Calls Tryz.prog 122 #[.string s, .int .i64 a, .int .u8 m] w fun e w' => e = .returned (.int .i64 (a + spanN m ((L s).drop a.toNat) : Int)) ∧ w = w' := by
 obtain ⟨k0, rfl⟩ := Int.eq_ofNat_of_zero_le h0
 rw [Int.toNat_natCast]
 have HM := Lib.hid hm
 clear hm
 go_enter Tryz.func122, Tryz.ntmps122
 go_wp2_with fail
 go_loop [1] (fun i => ∃ k : Nat, Hid (k + spanN m ((L s).drop k) = k0 + spanN m ((L s).drop k0)) ∧ i = .int .i64 k) (fun i => s.size - (intOf i).toNat)
 case atStart => exact ⟨k0, Lib.hid rfl, rfl⟩
 case round =>
   obtain ⟨k, HK, rfl⟩ := hrel
   cases hb : isB m ((L s).drop k) with
   | true =>
     obtain ⟨e1, hlt⟩ := run_step m s k hb
     have E1 := Lib.hid e1
     clear e1
     have HB := Lib.hid hb
     clear hb
     go_wp2_with fail
     refine (is_any s _ m _ hT (by omega) HM.out).mono ?_
     rintro e w' ⟨rfl, rfl⟩
     rw [Int.toNat_natCast, HB.out]
     go_wp2_with fail
     go_round
     case rel => exact ⟨k + 1, Lib.hid (by rw [← HK.out, E1.out]), by go_num⟩
     case measure => simp [intOf]; omega
   | false =>
     have HB := Lib.hid hb
     clear hb
     go_wp2_with fail
     refine (is_any s _ m _ hT (by omega) HM.out).mono ?_
     rintro e w' ⟨rfl, rfl⟩
     rw [Int.toNat_natCast, HB.out]
     go_wp2_with fail
     go_ret
     refine ⟨?_, rfl⟩
     have h1 := HK.out
     rw [run_stop m _ HB.out] at h1
     exact congrArg (fun n : Int => Ending.returned (.int .i64 n)) (by omega)
end Go.Proofs.YtkfplcngmiljaaaGreatDoor
