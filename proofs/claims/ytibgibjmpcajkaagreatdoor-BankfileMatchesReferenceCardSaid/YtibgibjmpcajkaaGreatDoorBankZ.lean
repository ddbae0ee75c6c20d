/- Small laws for the walks of Write and WriteAnswers. -/
import Derived.Test.YtibgibjmpcajkaaGreatDoorBankC4
import Derived.Deep.RegionHeld3
import Derived.StillTailTactics
namespace BankS
open Go
theorem twice_snoc (l : List Int) (x : Int) : twice (l ++ [x]) = (twice l || l.contains x) := by
  induction l with
  | nil => simp [twice]
  | cons y l ih =>
    rw [List.cons_append, twice, twice, ih, List.contains_cons]
    have : (l ++ [x]).contains y = (l.contains y || x == y) := by
      rw [Bool.eq_iff_iff, List.contains_iff_mem, List.mem_append, List.mem_singleton, Bool.or_eq_true, List.contains_iff_mem, beq_iff_eq]
      constructor
      · rintro (h | h)
        · exact Or.inl h
        · exact Or.inr h.symm
      · rintro (h | h)
        · exact Or.inl h
        · exact Or.inr h.symm
    rw [this]
    cases l.contains y <;> cases (x == y) <;> cases twice l <;> cases l.contains x <;> rfl
theorem twice_left (a b : List Int) (h : twice a = true) : twice (a ++ b) = true := by
  induction a with
  | nil => cases h
  | cons y a ih =>
    rw [twice, Bool.or_eq_true] at h
    rw [List.cons_append, twice, Bool.or_eq_true]
    rcases h with h | h
    · left
      simp at h ⊢
      exact Or.inl h
    · right; exact ih h
theorem twice_take (l : List Int) (k : Nat) (h : twice (l.take k) = true) : twice l = true := by
  rw [← List.take_append_drop k l]
  exact twice_left _ _ h
theorem pay_join (a b c d : Bs) : Lib.join [a, b, c, d] [32] = a ++ 32 :: b ++ 32 :: c ++ 32 :: d := by
  simp [Lib.join, List.intercalate, List.intersperse]
theorem ans_join (a b c d e : Bs) : Lib.join [a, b, c, d, e] [32] = a ++ 32 :: b ++ 32 :: c ++ 32 :: d ++ 32 :: e := by
  simp [Lib.join, List.intercalate, List.intersperse]
theorem take_snoc {α : Type} (l : List α) (k : Nat) (x : α) (h : l[k]? = some x) : l.take (k + 1) = l.take k ++ [x] := by
  rw [List.take_add_one, h]; rfl
theorem all_take {α : Type} (l : List α) (p : α → Bool) (k : Nat) (x : α) (h : l[k]? = some x) (hp : p x = false) : l.all p = false := by
  rw [List.all_eq_false]
  exact ⟨x, List.mem_of_getElem? h, by simp [hp]⟩
theorem sum_snoc (l : List Int) (x : Int) : (l ++ [x]).sum = l.sum + x := by simp [List.sum_append]
theorem join_len (xs : List Bs) (m : Nat) (h : ∀ x ∈ xs, x.length ≤ m) : (Lib.join xs [10]).length ≤ xs.length * (m + 1) := by
  cases xs with
  | nil => simp [Lib.join, List.intercalate]
  | cons x xs =>
    have hl : Lib.lens (x :: xs) ≤ (x :: xs).length * m := by
      generalize x :: xs = ys at h
      unfold Lib.lens
      induction ys with
      | nil => simp
      | cons y ys ih =>
        have h1 := ih (fun z hz => h z (List.mem_cons_of_mem _ hz))
        have h2 := h y List.mem_cons_self
        simp only [List.map_cons, List.sum_cons, List.length_cons, Nat.succ_mul] at h1 ⊢
        omega
    rw [Lib.join_length]
    simp only [List.length_cons, List.length_nil, Nat.mul_add, Nat.add_mul] at hl ⊢
    omega
theorem isName_len (t : Bs) (h : isName t = true) : t.length ≤ 16 := by
  unfold isName at h
  cases t with
  | nil => cases h
  | cons c t => simp only [Bool.and_eq_true] at h; exact of_decide_eq_true h.1.1
theorem account_len (t : Bs) (h : t.length ≤ 16) : (account t).length ≤ 19 := by
  unfold account
  have := acc_lt t
  rw [List.length_append, List.length_cons, pad2 _ (by omega)]
  simp; omega
open Go.Proofs.YtibgibjmpcajkaaGreatDoor in
theorem payLine_len (p : Pay) (h : payOk p = true) : (payLine p).length ≤ 200 := by
  obtain ⟨h1, h2, h3, h4⟩ := payOk_parts h
  obtain ⟨h5, h6⟩ := of_decide_eq_true h4
  have a1 := dec_small p.1.toNat (by omega)
  have a2 := dec_small p.2.2.1.toNat (by omega)
  have a3 := account_len _ (isName_len _ h2)
  have a4 : (dayText p.2.2.2.toNat).length = 10 := by rw [dayText_eq _ (by omega)]; rfl
  unfold payLine
  simp only [List.length_append, List.length_cons]
  omega
end BankS
namespace Go.Proofs.YtibgibjmpcajkaaGreatDoor
open Go.RowKit BankS
theorem takeL {P : Program} {md : Region.Mode} {Q : Exit → Act → World → Prop} {S : World → Prop} {l : List Oper} {i : Nat} {oi : Oper} {v : Value} {fuel : Nat} {listed : Array Bool} {a : Act} {w : World} (hi : l[i]? = some oi)
    (hs : Region.noSelect l.toArray = true) (hf : Region.free md l.toArray listed i = true) (hr : (Region.ready md l.toArray listed).contains i = true)
    (hQ : ∀ c a w, Q (.panic c) (a.put oi.dst v) w → Q (.panic c) a w) (hy : YieldsIf P l.toArray S oi v a) (hS : S w)
    (h : wpAnyH P md l.toArray Q S fuel (listed.setIfInBounds i true) (a.put oi.dst v) w) : wpAnyH P md l.toArray Q S (fuel + 1) listed a w :=
  wpAnyH_take (by simpa using hi) hs hf hr hQ hy hS h
theorem readyL {P : Program} {md : Region.Mode} {Q : Exit → Act → World → Prop} {S : World → Prop} {l : List Oper} {i : Nat} {o : Oper} {fuel : Nat} {listed : Array Bool} {a : Act} {w : World} (hr : Region.ready md l.toArray listed = [i]) (ho : l[i]? = some o)
    (h : ∀ K' : Act → World → Prop, Shut (∀ a w, S w → (S w → wpAnyH P md l.toArray Q S fuel (listed.setIfInBounds i true) a w) → K' a w) → if Region.wanted o (yielded l.toArray a.tmps) = true then Oper.wp P o a w K' Q else K' (a.put o.dst undef) w) :
    wpAnyH P md l.toArray Q S (fuel + 1) listed a w :=
  wpAnyH_ready hr (by simp) (AllReadyH.cons (by simpa using ho) h AllReadyH.nil)
theorem mkL (s : ByteArray) : (⟨(L s).toArray⟩ : ByteArray) = s := rfl
theorem Tryz.infoPay : (Tryz.prog.info? 27).map (fun i => (i.zero, i.size, i.bytes)) = some (some (.agg #[.int .i64 0, .string ⟨#[]⟩, .int .i64 0, .int .i64 0]), 4, 40) := by kernel_rfl
theorem Tryz.infoAns : (Tryz.prog.info? 54).map (fun i => (i.zero, i.size, i.bytes)) = some (some (.agg #[.int .i64 0, .int .i64 0, .int .i64 0, .int .i64 0, .int .i64 0]), 5, 40) := by kernel_rfl
theorem Tryz.infoStr : (Tryz.prog.info? 9).map (fun i => (i.zero, i.size, i.bytes)) = some (some (.string ⟨#[]⟩), 1, 16) := by kernel_rfl
theorem own_below {w w' : World} {base e size n : Nat} {v : Value} {xs : List Value} (h : w.ownsRow base e size v n xs) (hb : Below w.heap.size w w') : w'.ownsRow base e size v n xs :=
  h.kept (row := none) ⟨hb.os, hb.tape, hb.output, hb.size, fun k hk _ => hb.block k hk⟩ (Classical.em _)
theorem Seen.below {w w' : World} {b n : Nat} {S : List Int} (h : Seen w b n S) (hb : Below w.heap.size w w') : Seen w' b n S := h.same (hb.block b h.lt)
theorem heap_new (w : World) (cs : Array Value) (T : TypeId) : (w.alloc (.cells cs T)).heap[w.heap.size]? = some (.cells cs T (0, 0)) := by
  show (w.heap.push _)[w.heap.size]? = _
  simp
theorem cells_new (w : World) (cs : Array Value) (T : TypeId) : ∀ j u, cs.toList[j]? = some u → (w.alloc (.cells cs T)).cell? ((⟨w.heap.size, 0, none⟩ : Addr).add j) = some u := by
  intro j u h
  have e : (⟨w.heap.size, 0, none⟩ : Addr).add j = ⟨w.heap.size, 0 + j, none⟩ := by simp [Addr.add]; intro h0; exact h0.symm
  rw [e, Nat.zero_add, cell_row (heap_new w cs T), ← Array.getElem?_toList]
  exact h
theorem rd_new (w : World) (xs : List ByteArray) (T : TypeId) (cs : Array Value) (hcs : cs = (cellsL strC xs).toArray) (n : Nat) (hn : n = xs.length) : Rd strC 1 (w.alloc (.cells cs T)) (.slice (some ⟨w.heap.size, 0, none⟩) n n) xs := by
  subst hcs hn
  refine ⟨_, _, rfl, Nat.le_refl _, cellsL_len strC 1 (fun _ => rfl) xs, fun _ => ⟨w.heap.size, 0, rfl, by simp, fun i u hi => ?_⟩⟩
  rw [Nat.zero_add, cell_row (heap_new w _ T)]
  simpa using hi
theorem wf_small (n : Int) (h0 : 0 ≤ n) (h1 : n ≤ 999999999) : (Lit.int .i64 n).wf = true := WalkArith.wf_i64 (by omega)
end Go.Proofs.YtibgibjmpcajkaaGreatDoor
