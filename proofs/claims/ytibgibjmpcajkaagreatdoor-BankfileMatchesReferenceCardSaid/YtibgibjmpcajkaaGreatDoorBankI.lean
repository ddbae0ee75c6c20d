/- What lies in memory while a file is read. -/
import Derived.Test.YtibgibjmpcajkaaGreatDoorBankLn
namespace Go.Proofs.YtibgibjmpcajkaaGreatDoor
open Go.RowKit BankS

theorem fz_row {w : World} {b : Nat} {cs : Array Value} {T : TypeId} (h : w.heap[b]? = some (.cells cs T (0, 0))) (i : Nat) : w.frozen? ⟨b, i, none⟩ = false := by
  simp [World.frozen?, h]
/-- what is left of the memory where the reading fails -/
structure RdX (w0 wx : World) : Prop where
  okc : wx.heap[w0.heap.size + 4]? = some (.cells #[.bool false] 4 (0, 0))
  bel : Below w0.heap.size w0 wx
/-- the reading of t has come to p, and has collected l -/
structure RdI {α : Type} (fc : α → List Value) (c : Nat) (T LT : TypeId) (w0 : World) (t : ByteArray) (p : Nat) (l : List α) (wx : World) : Prop where
  txt : wx.heap[w0.heap.size]? = some (.cells #[.string t] 9 (0, 0))
  lst : ∃ v, wx.heap[w0.heap.size + 1]? = some (.cells #[v] LT (0, 0)) ∧ wx.ownsRow (w0.heap.size + 5) T c v l.length (cellsL fc l)
  rdr : RdrAt wx (w0.heap.size + 2) t p
  rv : wx.heap[w0.heap.size + 3]? = some (.cells #[.pointer (some ⟨w0.heap.size + 2, 0, none⟩)] 64 (0, 0))
  okc : wx.heap[w0.heap.size + 4]? = some (.cells #[.bool false] 4 (0, 0))
  bel : Below w0.heap.size w0 wx
section
variable {α : Type} {fc : α → List Value} {c : Nat} {T LT : TypeId} {w0 : World} {t : ByteArray} {p : Nat} {l : List α} {wx w' : World}
theorem RdI.out (h : RdI fc c T LT w0 t p l wx) : RdX w0 wx := ⟨h.okc, h.bel⟩
theorem RdX.size (h : RdX w0 wx) : w0.heap.size + 4 < wx.heap.size := (Array.getElem?_eq_some_iff.1 h.okc).1
theorem RdI.size (h : RdI fc c T LT w0 t p l wx) : w0.heap.size + 4 < wx.heap.size := h.out.size
theorem RdI.tabs (h : RdI fc c T LT w0 t p l wx) (hT : Tabs w0) : Tabs wx := hT.below h.bel
theorem RdX.grown (h : RdX w0 wx) {row : Option Nat} (g : wx.grownBy w' row) (hr : ∀ k, row = some k → w0.heap.size ≤ k ∧ k ≠ w0.heap.size + 4) : RdX w0 w' :=
  ⟨by rw [g.block _ h.size (fun e => (hr _ e.symm).2 rfl)]; exact h.okc, h.bel.grown g h.bel.size (fun k hk => (hr k hk).1)⟩
theorem grown_below {w w' : World} (h : Below w.heap.size w w') (row : Option Nat) : w.grownBy w' row := ⟨h.os, h.tape, h.output, h.size, fun k hk _ => h.block k hk⟩
theorem RdX.below (h : RdX w0 wx) (b : Below wx.heap.size wx w') : RdX w0 w' := h.grown (grown_below b none) (fun _ e => by cases e)
theorem grown_trans {a b d : World} {row : Option Nat} (h : a.grownBy b row) (k : b.grownBy d row) : a.grownBy d row :=
  ⟨k.os.trans h.os, k.tape.trans h.tape, k.output.trans h.output, Nat.le_trans h.size k.size, fun i hi hne => (k.block i (Nat.lt_of_lt_of_le hi h.size) hne).trans (h.block i hi hne)⟩
theorem RdI.moved (h : RdI fc c T LT w0 t p l wx) {q : Nat} (g : wx.grownBy w' (some (w0.heap.size + 2))) (r : RdrAt w' (w0.heap.size + 2) t q) : RdI fc c T LT w0 t q l w' := by
  have hs := h.size
  have hb : ∀ k, k < w0.heap.size + 5 → k ≠ w0.heap.size + 2 → w'.heap[k]? = wx.heap[k]? := fun k hk hne => g.block k (by omega) (fun e => hne (by injection e))
  obtain ⟨v, hv, ho⟩ := h.lst
  refine ⟨by rw [hb _ (by omega) (by omega)]; exact h.txt, ⟨v, by rw [hb _ (by omega) (by omega)]; exact hv, ho.kept g (Or.inr (fun e => by have := (ho.lt _ e).1; omega))⟩, r, by rw [hb _ (by omega) (by omega)]; exact h.rv, by rw [hb _ (by omega) (by omega)]; exact h.okc, h.bel.grown g h.bel.size (fun k hk => by injection hk with hk; omega)⟩
theorem RdI.below (h : RdI fc c T LT w0 t p l wx) (b : Below wx.heap.size wx w') : RdI fc c T LT w0 t p l w' := by
  have hs := h.size
  have hb : ∀ k, k < w0.heap.size + 5 → w'.heap[k]? = wx.heap[k]? := fun k hk => b.block k (by omega)
  obtain ⟨v, hv, ho⟩ := h.lst
  exact ⟨by rw [hb _ (by omega)]; exact h.txt, ⟨v, by rw [hb _ (by omega)]; exact hv, own_below ho b⟩, h.rdr.below b, by rw [hb _ (by omega)]; exact h.rv, by rw [hb _ (by omega)]; exact h.okc, h.bel.trans (b.mono h.bel.size)⟩
/-- one element more has been collected -/
theorem RdI.push (h : RdI fc c T LT w0 t p l wx) {w5 w6 : World} {u v' : Value} {o : Obj} (x : α) (hu : wx.heap[w0.heap.size + 1]? = some (.cells #[u] LT (0, 0))) (hown : wx.ownsRow (w0.heap.size + 5) T c u l.length (cellsL fc l))
    (b5 : Below wx.heap.size wx w5) (ho : w6.ownsRow (w0.heap.size + 5) T c v' (l.length + 1) (cellsL fc l ++ fc x)) (hg : (w5.alloc o).grownBy w6 u.ownBlock) :
    RdI fc c T LT w0 t p (l ++ [x]) (w6.setCell ⟨w0.heap.size + 1, 0, none⟩ v') := by
  have hs := h.size
  have hb5 := b5.size
  have hrow : ∀ k, u.ownBlock = some k → w0.heap.size + 5 ≤ k := fun k hk => (hown.lt k hk).1
  have h6 : ∀ k, k < w0.heap.size + 5 → w6.heap[k]? = wx.heap[k]? := fun k hk => by
    rw [hg.block k (by simp; omega) (fun e => by have := hrow k e.symm; omega), Below.heap_alloc _ _ _ (by omega), b5.block k (by omega)]
  have h7 : ∀ k, k < w0.heap.size + 5 → k ≠ w0.heap.size + 1 → (w6.setCell ⟨w0.heap.size + 1, 0, none⟩ v').heap[k]? = wx.heap[k]? := fun k hk hne => by
    rw [Below.heap_setCell _ _ _ _ hne, h6 k hk]
  have b6 : Below w0.heap.size w0 w6 := by
    refine ((h.bel.trans (b5.mono h.bel.size)).alloc (by omega) o).grown hg (by simp; omega) (fun k hk => by have := hrow k hk; omega)
  refine ⟨by rw [h7 _ (by omega) (by omega)]; exact h.txt, ⟨v', ?_, ?_⟩, ?_, by rw [h7 _ (by omega) (by omega)]; exact h.rv, by rw [h7 _ (by omega) (by omega)]; exact h.okc, b6.setCell (by simp) _⟩
  · show (w6.heap.modify (w0.heap.size + 1) _)[w0.heap.size + 1]? = _
    rw [Array.getElem?_modify, if_pos rfl, h6 _ (by omega), hu]
    rfl
  · have hlen : (l ++ [x]).length = l.length + 1 := by simp
    rw [hlen, cellsL_snoc]
    refine ho.kept (row := some (w0.heap.size + 1)) ⟨rfl, rfl, rfl, by simp [World.setCell], fun k _ hne => Below.heap_setCell _ _ _ _ (fun e => hne (by rw [e]))⟩ (Or.inr (fun e => by have := (ho.lt _ e).1; omega))
  · unfold RdrAt
    rw [h7 _ (by omega) (by omega)]
    exact h.rdr
end
theorem own_succ {w : World} {base e size n : Nat} {v : Value} {xs : List Value} (h : w.ownsRow base e size v (n + 1) xs) : ∃ g cap, v = .slice (some ⟨g, 0, none⟩) (n + 1) cap := by
  rcases h.2 with ⟨_, h0⟩ | ⟨g, cap, _, rfl, _⟩
  · omega
  · exact ⟨g, cap, rfl⟩
/-- the blocks of w1 are as they were, but for the list's row and its variable -/
def SX (w1 : World) (u : Value) (c : Nat) (W : World) : Prop := ∀ k, k < w1.heap.size → u.ownBlock ≠ some k → k ≠ c → W.heap[k]? = w1.heap[k]?
theorem readyL2 {P : Program} {md : Region.Mode} {Q : Exit → Act → World → Prop} {S : World → Prop} {l : List Oper} {i j : Nat} {o o2 : Oper} {fuel : Nat} {listed : Array Bool} {a : Act} {w : World} (hr : Region.ready md l.toArray listed = [i, j]) (ho : l[i]? = some o) (ho2 : l[j]? = some o2)
    (h : ∀ K' : Act → World → Prop, Shut (∀ a w, S w → (S w → wpAnyH P md l.toArray Q S fuel (listed.setIfInBounds i true) a w) → K' a w) → if Region.wanted o (yielded l.toArray a.tmps) = true then Oper.wp P o a w K' Q else K' (a.put o.dst undef) w)
    (h2 : ∀ K' : Act → World → Prop, Shut (∀ a w, S w → (S w → wpAnyH P md l.toArray Q S fuel (listed.setIfInBounds j true) a w) → K' a w) → if Region.wanted o2 (yielded l.toArray a.tmps) = true then Oper.wp P o2 a w K' Q else K' (a.put o2.dst undef) w) :
    wpAnyH P md l.toArray Q S (fuel + 1) listed a w :=
  wpAnyH_ready hr (by simp) (AllReadyH.cons (by simpa using ho) h (AllReadyH.cons (by simpa using ho2) h2 AllReadyH.nil))
end Go.Proofs.YtibgibjmpcajkaaGreatDoor
