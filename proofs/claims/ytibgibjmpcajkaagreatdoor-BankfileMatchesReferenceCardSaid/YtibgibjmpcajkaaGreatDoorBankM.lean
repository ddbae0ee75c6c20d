/- Slices that read as lists; a map that reads as a set of numbers. -/
import Derived.Test.YtibgibjmpcajkaaGreatDoorBankY
import Derived.Maps.Own
import Derived.Maps.OwnOps
import Derived.Maps.OwnSet
namespace Go.Proofs.YtibgibjmpcajkaaGreatDoor
open Go.RowKit BankS Go.Maps

/-- v is a slice of n elements, of c cells each, that holds these cells -/
def Row (w : World) (v : Value) (n c : Nat) (xs : List Value) : Prop :=
  ∃ A cap, v = .slice A n cap ∧ n ≤ cap ∧ xs.length = n * c ∧ (0 < n → ∃ g o, A = some ⟨g, o, none⟩ ∧ g < w.heap.size ∧ ∀ i u, xs[i]? = some u → w.cell? ⟨g, o + i, none⟩ = some u)
theorem Row.of_own {w : World} {base n c : Nat} {e : TypeId} {v : Value} {xs : List Value} (h : w.ownsRow base e c v n xs) : Row w v n c xs := by
  rcases h.2 with ⟨rfl, h0⟩ | ⟨g, cap, cur, rfl, _, hg, hn, _, hcur, hxs⟩
  · exact ⟨none, 0, by rw [h0], by omega, h.1, fun hne => by omega⟩
  · refine ⟨_, cap, rfl, hn, h.1, fun _ => ⟨g, 0, rfl, (Array.getElem?_eq_some_iff.1 hg).1, ?_⟩⟩
    intro j u hj
    rw [Nat.zero_add, cell_of_row w g j cur _ _ hg, ← hj, ← hxs, ← Array.getElem?_toList, List.getElem?_take, if_pos]
    have := (List.getElem?_eq_some_iff.1 hj).1
    rw [h.1] at this
    exact this
theorem Row.below {w w' : World} {n c : Nat} {v : Value} {xs : List Value} (h : Row w v n c xs) (b : Below w.heap.size w w') : Row w' v n c xs := by
  obtain ⟨A, cap, rfl, hn, hl, hc⟩ := h
  refine ⟨A, cap, rfl, hn, hl, fun h0 => ?_⟩
  obtain ⟨g, o, rfl, hg, hx⟩ := hc h0
  exact ⟨g, o, rfl, Nat.lt_of_lt_of_le hg b.size, fun i u hi => by rw [b.cell hg]; exact hx i u hi⟩
theorem Row.lt {w w' : World} {n c : Nat} {v : Value} {xs : List Value} (h : Row w v n c xs) (hs : w.heap.size ≤ w'.heap.size) (b : ∀ k, k < w.heap.size → w'.heap[k]? = w.heap[k]?) : Row w' v n c xs := by
  obtain ⟨A, cap, rfl, hn, hl, hc⟩ := h
  refine ⟨A, cap, rfl, hn, hl, fun h0 => ?_⟩
  obtain ⟨g, o, rfl, hg, hx⟩ := hc h0
  exact ⟨g, o, rfl, Nat.lt_of_lt_of_le hg hs, fun i u hi => by rw [World.cell?_of_block (w := w) (b g hg)]; exact hx i u hi⟩

/-- cells of a list, element by element -/
def cellsL {α : Type} (f : α → List Value) (l : List α) : List Value := l.flatMap f
theorem cellsL_snoc {α : Type} (f : α → List Value) (l : List α) (x : α) : cellsL f (l ++ [x]) = cellsL f l ++ f x := by simp [cellsL]
theorem cellsL_len {α : Type} (f : α → List Value) (c : Nat) (hf : ∀ a, (f a).length = c) (l : List α) : (cellsL f l).length = l.length * c := by
  induction l with
  | nil => simp [cellsL]
  | cons x l ih =>
    unfold cellsL at ih ⊢
    rw [List.flatMap_cons, List.length_append, ih, hf, List.length_cons, Nat.succ_mul]; omega
theorem cellsL_at {α : Type} (f : α → List Value) (c : Nat) (hf : ∀ a, (f a).length = c) (l : List α) (i j : Nat) (x : α) (u : Value) (hx : l[i]? = some x) (hj : (f x)[j]? = some u) : (cellsL f l)[i * c + j]? = some u := by
  induction l generalizing i with
  | nil => simp at hx
  | cons y l ih =>
    unfold cellsL at ih ⊢
    rw [List.flatMap_cons]
    have hjc : j < c := by have := (List.getElem?_eq_some_iff.1 hj).1; rw [hf] at this; exact this
    cases i with
    | zero =>
      simp at hx; subst hx
      rw [Nat.zero_mul, Nat.zero_add, List.getElem?_append_left (by rw [hf]; exact hjc)]; exact hj
    | succ i =>
      rw [List.getElem?_append_right (by rw [hf, Nat.succ_mul]; omega), hf, show (i + 1) * c + j - c = i * c + j from by rw [Nat.succ_mul]; omega]
      exact ih i (by simpa using hx)
abbrev payC (p : Pay) : List Value := [.int .i64 p.1, str p.2.1, .int .i64 p.2.2.1, .int .i64 p.2.2.2]
abbrev ansC (a : Ans) : List Value := [.int .i64 a.1, .int .i64 a.2.1, .int .i64 a.2.2.1, .int .i64 a.2.2.2.1, .int .i64 a.2.2.2.2]
abbrev strC (s : ByteArray) : List Value := [.string s]
/-- v reads as the list -/
def Rd {α : Type} (f : α → List Value) (c : Nat) (w : World) (v : Value) (l : List α) : Prop := Row w v l.length c (cellsL f l)
theorem Rd.below {α : Type} {f : α → List Value} {c : Nat} {w w' : World} {v : Value} {l : List α} (h : Rd f c w v l) (b : Below w.heap.size w w') : Rd f c w' v l := Row.below h b

theorem keyedI : Keyed Tryz.prog 3 := int_keyed Tryz.underlying3
theorem zeroB (w : World) : (zeroValue 4).run Tryz.prog w = .ok (.bool false) w := by kernel_rfl
/-- block b is a map of at most n entries that holds true for just the numbers of S -/
def Seen (w : World) (b n : Nat) (S : List Int) : Prop :=
  ∃ D : DataW Unit, w.ownsMap Tryz.prog 3 (plainElem Tryz.prog 4) b n D ∧ ∀ x : Int, (Lit.int .i64 x).wf = true → D.atKey (.int .i64 x) (.lit (.bool false)) = .lit (.bool (S.contains x))
theorem plainB (x : Bool) : plainElem (H := Unit) Tryz.prog 4 (.bool x) = some (.lit (.bool x), []) := by
  simp [plainElem, Tryz.underlying4]
theorem Seen.made (w : World) : Seen (w.alloc (.map #[] 0)) w.heap.size 0 [] :=
  ⟨.map [], World.ownsMap_made _ _ _ _, fun _ _ => rfl⟩
theorem Seen.look {w : World} {b n : Nat} {S : List Int} (h : Seen w b n S) (x : Int) (hx : (Lit.int .i64 x).wf = true) :
    (Instr.lookup 58 (.map (some b)) (.int .i64 x) false).run Tryz.prog w = .ok (.bool (S.contains x)) w := by
  obtain ⟨D, hD, hat⟩ := h
  obtain ⟨v, ps, hrun, hv⟩ := hD.lookup keyedI Tryz.underlying58 (zeroB w) (plainB false) (keyOf_int_mk Tryz.underlying3 hx)
  rw [hat x hx] at hv
  rw [hrun]
  cases v <;> simp [plainElem, Tryz.underlying4] at hv
  rw [hv.1]; simp
theorem Seen.put {w : World} {b n : Nat} {S : List Int} (h : Seen w b n S) (x : Int) (hx : (Lit.int .i64 x).wf = true) (hn : n < maxLen) :
    ∃ w', (Instr.mapUpdate 58 (.map (some b)) (.int .i64 x) (.bool true)).run Tryz.prog w = .ok () w' ∧ Seen w' b (n + 1) (x :: S) ∧ w.grownBy w' (some b) := by
  obtain ⟨D, hD, hat⟩ := h
  obtain ⟨w', hrun, h1, h2⟩ := hD.update keyedI Tryz.underlying58 hn (keyOf_int_mk Tryz.underlying3 hx) (plainB true)
  refine ⟨w', hrun, ⟨_, h1, fun y hy => ?_⟩, h2⟩
  by_cases e : y = x
  · subst e
    rw [Maps.atKey_put_same hD.isMap (by trivial)]
    simp
  · rw [Maps.atKey_put_other (by simpa using e), hat y hy]
    simp [e]
theorem Seen.same {w w' : World} {b n : Nat} {S : List Int} (h : Seen w b n S) (hb : w'.heap[b]? = w.heap[b]?) : Seen w' b n S := by
  obtain ⟨D, ⟨es, clock, h1, h2⟩, hat⟩ := h
  exact ⟨D, ⟨es, clock, by rw [hb]; exact h1, h2⟩, hat⟩
theorem Seen.lt {w : World} {b n : Nat} {S : List Int} (h : Seen w b n S) : b < w.heap.size := by
  obtain ⟨D, hD, _⟩ := h
  exact hD.lt
end Go.Proofs.YtibgibjmpcajkaaGreatDoor
