/- Plain laws for BankfileRefuses: what is refused; memory laws for make and append. -/
import Derived.Test.YtibgibjmpcajkaaGreatDoorBankIn
import Derived.Laws.MakeOwn
import Derived.Laws.OwnMore
namespace BankS
open Go
def bads : List Pay := [(-1, [97], 1, 0), (1000000000, [97], 1, 0), (1, [], 1, 0), (1, [65], 1, 0), (1, [97, 32, 98], 1, 0), (1, [97, 98, 99, 100, 101, 102, 103, 104, 105, 106, 107, 108, 109, 110, 111, 112, 113], 1, 0), (1, [97], 0, 0), (1, [97], 1000000000001, 0), (1, [97], 1, -1), (1, [97], 1, 36525)]
def odds : List Ans := [(-1, 0, 1, 0, 0), (0, -1, 1, 0, 0), (0, 0, 0, 0, 0), (0, 0, 5, 0, 0), (0, 0, 1, 1, 0), (0, 0, 3, 1, 0), (0, 0, 2, 0, 0), (0, 0, 4, -1, 0), (0, 0, 2, 1000000000001, 0), (0, 0, 1, 0, 36525)]
theorem bads_bad : ∀ b ∈ bads, payOk b = false := by decide +kernel
theorem bads_short : ∀ b ∈ bads, b.2.1.length ≤ 1000 := by decide +kernel
theorem odds_bad : ∀ b ∈ odds, ansOk b = false := by decide +kernel
theorem all_mid {α : Type} (f : α → Bool) (a c : List α) (b : α) (h : f b = false) : (a ++ [b] ++ c).all f = false := by simp [h]
theorem refP (P : List Pay) (k : Nat) (b : Pay) (hl : P.length ≤ 30) (hb : b ∈ bads) : writeP (P.take k ++ [b] ++ P.drop k) = ([], 1) := by
  unfold writeP
  rw [if_neg (by simp only [List.length_append, List.length_take, List.length_drop, List.length_cons, List.length_nil]; omega), if_pos (all_mid _ _ _ _ (bads_bad b hb))]
theorem refA (P : List Ans) (k : Nat) (b : Ans) (hl : P.length ≤ 30) (hb : b ∈ odds) : writeA (P.take k ++ [b] ++ P.drop k) = ([], 1) := by
  unfold writeA
  rw [if_neg (by simp only [List.length_append, List.length_take, List.length_drop, List.length_cons, List.length_nil]; omega), if_pos (all_mid _ _ _ _ (odds_bad b hb))]
theorem twP (P : List Pay) (x : Pay) (hl : P.length ≤ 30) (ha : P.all payOk = true) (hx : x ∈ P) : writeP (P ++ [x]) = ([], 5) := by
  unfold writeP
  rw [if_neg (by simp; omega), if_neg, if_pos]
  · rw [List.map_append, List.map_cons, List.map_nil, twice_snoc, Bool.or_eq_true]
    exact Or.inr (List.contains_iff_mem.2 (List.mem_map.2 ⟨x, hx, rfl⟩))
  · rw [List.all_append, ha]
    have := List.all_eq_true.1 ha x hx
    simp [this]
theorem twA (P : List Ans) (x : Ans) (hl : P.length ≤ 30) (ha : P.all ansOk = true) (hx : x ∈ P) : writeA (P ++ [x]) = ([], 5) := by
  unfold writeA
  rw [if_neg (by simp; omega), if_neg, if_pos]
  · rw [List.map_append, List.map_cons, List.map_nil, twice_snoc, Bool.or_eq_true]
    exact Or.inr (List.contains_iff_mem.2 (List.mem_map.2 ⟨x, hx, rfl⟩))
  · rw [List.all_append, ha]
    have := List.all_eq_true.1 ha x hx
    simp [this]
theorem muchP (x : Pay) : writeP (List.replicate 401 x) = ([], 2) := by
  unfold writeP; rw [if_pos (by rw [List.length_replicate]; omega)]
theorem muchA (x : Ans) : writeA (List.replicate 401 x) = ([], 2) := by
  unfold writeA; rw [if_pos (by rw [List.length_replicate]; omega)]
theorem pa_len (l : List Tri) : (anss l).length = (pays l).length := by unfold anss pays; rw [listOf_len, listOf_len]
theorem accs_mid (P : List Pay) (k : Nat) (b : Pay) (h : ∀ p ∈ P, p.2.1.length ≤ 1000) (hb : b.2.1.length ≤ 1000) : ∀ p ∈ P.take k ++ [b] ++ P.drop k, p.2.1.length ≤ 1000 := by
  intro p hp
  rw [List.mem_append, List.mem_append, List.mem_singleton] at hp
  rcases hp with (hp | rfl) | hp
  · exact h p (List.mem_of_mem_take hp)
  · exact hb
  · exact h p (List.mem_of_mem_drop hp)
theorem accs_end (P : List Pay) (b : Pay) (h : ∀ p ∈ P, p.2.1.length ≤ 1000) (hb : b ∈ P) : ∀ p ∈ P ++ [b], p.2.1.length ≤ 1000 := by
  intro p hp
  rw [List.mem_append, List.mem_singleton] at hp
  rcases hp with hp | rfl
  · exact h p hp
  · exact h _ hb
theorem len_mid {α : Type} (P : List α) (k : Nat) (b : α) (h : k ≤ P.length) : (P.take k ++ [b] ++ P.drop k).length = P.length + 1 := by
  simp only [List.length_append, List.length_take, List.length_drop, List.length_cons, List.length_nil]; omega
end BankS
namespace Go.Proofs.YtibgibjmpcajkaaGreatDoor
open Go.RowKit BankS
theorem cellsL_app {α : Type} (f : α → List Value) (a b : List α) : cellsL f (a ++ b) = cellsL f a ++ cellsL f b := by simp [cellsL]
theorem cellsL_one {α : Type} (f : α → List Value) (b : α) : cellsL f [b] = f b := by simp [cellsL]
theorem add_at (g o j : Nat) : (⟨g, o, none⟩ : Addr).add j = ⟨g, o + j, none⟩ := by simp [Addr.add]
/-- the cells of the first elements -/
theorem cells_take {α : Type} (f : α → List Value) (w : World) (P : List α) (k g o : Nat) (h : ∀ i u, (cellsL f P)[i]? = some u → w.cell? ⟨g, o + i, none⟩ = some u) :
    ∀ j u, (cellsL f (P.take k))[j]? = some u → w.cell? ((⟨g, o, none⟩ : Addr).add j) = some u := by
  intro j u hj
  rw [add_at]
  refine h j u ?_
  have e : cellsL f P = cellsL f (P.take k) ++ cellsL f (P.drop k) := by rw [← cellsL_app, List.take_append_drop]
  rw [e, List.getElem?_append_left (List.getElem?_eq_some_iff.1 hj).1]; exact hj
/-- the cells of the others -/
theorem cells_drop {α : Type} (f : α → List Value) (c : Nat) (hf : ∀ a, (f a).length = c) (w : World) (P : List α) (k g o : Nat) (hk : k ≤ P.length) (h : ∀ i u, (cellsL f P)[i]? = some u → w.cell? ⟨g, o + i, none⟩ = some u) (o' : Nat) (ho : o' = o + k * c) :
    ∀ j u, (cellsL f (P.drop k))[j]? = some u → w.cell? ((⟨g, o', none⟩ : Addr).add j) = some u := by
  subst ho
  intro j u hj
  rw [add_at, Nat.add_assoc]
  refine h (k * c + j) u ?_
  have e : cellsL f P = cellsL f (P.take k) ++ cellsL f (P.drop k) := by rw [← cellsL_app, List.take_append_drop]
  have el : (cellsL f (P.take k)).length = k * c := by rw [cellsL_len f c hf, List.length_take, Nat.min_eq_left hk]
  rw [e, List.getElem?_append_right (by omega), el, Nat.add_sub_cancel_left]; exact hj
theorem onesP (P : List Pay) : ∀ u ∈ cellsL payC P, u.oneCell' = true := by
  intro u hu
  obtain ⟨p, _, hp⟩ := List.mem_flatMap.1 hu
  simp only [payC, str, List.mem_cons, List.not_mem_nil, or_false] at hp
  rcases hp with rfl | rfl | rfl | rfl <;> rfl
theorem onesA (P : List Ans) : ∀ u ∈ cellsL ansC P, u.oneCell' = true := by
  intro u hu
  obtain ⟨p, _, hp⟩ := List.mem_flatMap.1 hu
  simp only [ansC, List.mem_cons, List.not_mem_nil, or_false] at hp
  rcases hp with rfl | rfl | rfl | rfl | rfl <;> rfl
theorem wp_make {P : Program} (w : World) {o : Oper} {a : Act} {K : Act → World → Prop} {Q : Exit → Act → World → Prop} (l c : Operand) (t : TypeId) (hop : o.op = Op.makeSlice t l c)
    (base : Nat) (e : TypeId) (i : TypeInfo) (z : Value) (size : Nat) (h1 : P.underlying t = some (.slice e)) (h2 : P.info? e = some i) (h3 : i.zero = some z) (h4 : i.size = size)
    (kl kc : IntKind) (n : Nat) (hl : a.eval l = .int kl 0) (hc : a.eval c = .int kc (n : Int)) (b2 : i.bytes * n ≤ 281474976710656) (b3 : n ≤ maxLen) (b4 : base ≤ w.heap.size)
    (hK : ∀ w', w'.ownsRow base e size (.slice (some ⟨w.heap.size, 0, none⟩) 0 n) 0 [] → w.grownBy w' none → K (a.put o.dst (.slice (some ⟨w.heap.size, 0, none⟩) 0 n)) w') : o.wp P a w K Q := by
  obtain ⟨w', hrun, r1, r2⟩ := run_make_own (P := P) w base t e i z size h1 h2 h3 h4 kl kc n b2 b3 b4
  unfold Oper.wp
  simp [execOp, hop, hl, hc, hrun, Result.andThen]
  exact hK w' r1 r2
theorem rd_of_own {α : Type} {f : α → List Value} {c base : Nat} {e : TypeId} {w : World} {v : Value} {n : Nat} {xs : List Value} {l : List α} (h : w.ownsRow base e c v n xs) (hn : n = l.length) (hx : xs = cellsL f l) : Rd f c w v l := by
  subst hn hx; exact Row.of_own h
theorem zl4 (m : Nat) : (List.range (m * 4)).map (fun i => (#[.int .i64 0, .string ⟨#[]⟩, .int .i64 0, .int .i64 0] : Array Value)[i % 4]!) = cellsL payC (List.replicate m (0, [], 0, 0)) := by
  induction m with
  | zero => rfl
  | succ m ih =>
    have e : List.range ((m + 1) * 4) = List.range (m * 4) ++ [m * 4, m * 4 + 1, m * 4 + 2, m * 4 + 3] := by rw [Nat.succ_mul]; simp [List.range_succ]
    rw [e, List.map_append, ih, List.replicate_succ', cellsL_snoc]
    congr 1
    simp only [List.map_cons, List.map_nil, Nat.mul_mod_left, Nat.mul_add_mod_self_right]
    rfl
theorem zeros4 : (madeCells (Value.agg #[.int .i64 0, .string ⟨#[]⟩, .int .i64 0, .int .i64 0]).cells (401 * 4)).toList = cellsL payC (List.replicate 401 (0, [], 0, 0)) := by
  rw [← zl4 401]
  unfold madeCells
  rw [Array.toList_map, Array.toList_range]
  rfl
theorem zl5 (m : Nat) : (List.range (m * 5)).map (fun i => (#[.int .i64 0, .int .i64 0, .int .i64 0, .int .i64 0, .int .i64 0] : Array Value)[i % 5]!) = cellsL ansC (List.replicate m (0, 0, 0, 0, 0)) := by
  induction m with
  | zero => rfl
  | succ m ih =>
    have e : List.range ((m + 1) * 5) = List.range (m * 5) ++ [m * 5, m * 5 + 1, m * 5 + 2, m * 5 + 3, m * 5 + 4] := by rw [Nat.succ_mul]; simp [List.range_succ]
    rw [e, List.map_append, ih, List.replicate_succ', cellsL_snoc]
    congr 1
    simp only [List.map_cons, List.map_nil, Nat.mul_mod_left, Nat.mul_add_mod_self_right]
    rfl
theorem zeros5 : (madeCells (Value.agg #[.int .i64 0, .int .i64 0, .int .i64 0, .int .i64 0, .int .i64 0]).cells (401 * 5)).toList = cellsL ansC (List.replicate 401 (0, 0, 0, 0, 0)) := by
  rw [← zl5 401]
  unfold madeCells
  rw [Array.toList_map, Array.toList_range]
  rfl
theorem rd_open {α : Type} {f : α → List Value} {c : Nat} {w : World} {v : Value} {l : List α} (h : Rd f c w v l) (n : Nat) (hn : l.length = n) (h0 : 0 < n) :
    ∃ g o cap, v = .slice (some ⟨g, o, none⟩) n cap ∧ n ≤ cap ∧ g < w.heap.size ∧ Hid (∀ i u, (cellsL f l)[i]? = some u → w.cell? ⟨g, o + i, none⟩ = some u) := by
  subst hn
  obtain ⟨A, cap, rfl, hc, _, hcell⟩ := h
  obtain ⟨g, o, rfl, hg, hx⟩ := hcell h0
  exact ⟨g, o, cap, rfl, hc, hg, Lib.hid hx⟩
theorem rd_len {α : Type} {f : α → List Value} {c : Nat} {w : World} {v : Value} {l : List α} (h : Rd f c w v l) (n : Nat) (hn : l.length = n) : ∃ A cap, v = .slice A n cap := by
  subst hn
  obtain ⟨A, cap, rfl, _⟩ := h
  exact ⟨A, cap, rfl⟩
theorem rd_lt {α : Type} {f : α → List Value} {c : Nat} {w : World} {g o m cap : Nat} {l : List α} (h : Rd f c w (.slice (some ⟨g, o, none⟩) m cap) l) (h0 : 0 < l.length) : g < w.heap.size := by
  obtain ⟨A, cap', e, _, _, hc⟩ := h
  obtain ⟨g', o', rfl, hg, _⟩ := hc h0
  injection e with e1
  injection e1 with e1
  injection e1 with e1
  rw [e1]; exact hg
theorem kept_cells {w w' : World} {row : Option Nat} {b : Nat} (gr : w.grownBy w' row) (hb : b < w.heap.size) (hne : ∀ k, row = some k → k ≠ b) {xs : List Value} (h : ∀ j u, xs[j]? = some u → w.cell? ((⟨b, 0, none⟩ : Addr).add j) = some u) :
    ∀ j u, xs[j]? = some u → w'.cell? ((⟨b, 0, none⟩ : Addr).add j) = some u := by
  intro j u hj
  have h1 := h j u hj
  rw [add_at] at h1 ⊢
  rw [← h1]
  exact World.cell?_of_block (w := w) (gr.block b hb (fun e => hne b e.symm rfl))
end Go.Proofs.YtibgibjmpcajkaaGreatDoor
