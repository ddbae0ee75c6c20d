/- Plain laws: reading as the reference does it. -/
import Derived.Test.YtibgibjmpcajkaaGreatDoorBankMw
import Derived.Test.YtibgibjmpcajkaaGreatDoorBankPl
import Derived.Test.YtibgibjmpcajkaaGreatDoorBankD
namespace BankS
open Go
theorem dec13 (n : Nat) (h : n < 10000000000000) : (Lib.decDigits n).length ≤ 13 := by
  rw [Lib.decDigits_length]
  have h1 : ∀ k, n < 10 ^ k → Lib.nDigits n ≤ max 1 k := by
    intro k hk
    induction n using Nat.strongRecOn generalizing k with
    | ind n ih =>
      by_cases h10 : n < 10
      · rw [Lib.nDigits_small h10]; omega
      · rw [Lib.nDigits_big h10]
        cases k with
        | zero => simp at hk; omega
        | succ k =>
          have h2 : n / 10 < 10 ^ k := by rw [Nat.pow_succ] at hk; omega
          have := ih (n / 10) (by omega) (by omega) k h2
          by_cases hk0 : k = 0
          · subst hk0; simp at h2; omega
          · omega
  exact h1 13 (by simpa using h)
theorem rnum_read (n : Int) (h0 : 0 ≤ n) (h1 : n ≤ 1000000000000) : rnumI (Lib.decDigits n.toNat) = n := by
  rw [rnumI_dec _ (dec13 _ (by omega))]; omega
theorem account_take (t : Bs) : (account t).take ((account t).length - 3) = t := by
  have e : (account t).length = t.length + 3 := by
    unfold account
    rw [List.length_append, List.length_cons, pad2 _ (by have := acc_lt t; omega)]; rfl
  rw [e, Nat.add_sub_cancel]
  unfold account
  exact List.take_left
def rPay (ln : Bs) : Pay := (rnumI ((splitL 32 ln).getD 0 []), ((splitL 32 ln).getD 1 []).take (((splitL 32 ln).getD 1 []).length - 3), rnumI ((splitL 32 ln).getD 2 []), ((dayE ((splitL 32 ln).getD 3 [])).1 : Int))
def rKd (t : Bs) : Int := (kindP t).getD 0
def rAns (ln : Bs) : Ans := (rnumI ((splitL 32 ln).getD 0 []), rnumI ((splitL 32 ln).getD 1 []), rKd ((splitL 32 ln).getD 2 []), rnumI ((splitL 32 ln).getD 3 []), ((dayE ((splitL 32 ln).getD 4 [])).1 : Int))
theorem day_val (n : Int) (h : dayOk n = true) : ((dayE (dayText n.toNat)).1 : Int) = n := by
  obtain ⟨h0, h1⟩ := of_decide_eq_true h
  rw [day_text n.toNat (by omega)]
  show ((n.toNat : Nat) : Int) = n
  omega
theorem rPay_line (p : Pay) (h : payOk p = true) : rPay (payLine p) = p := by
  obtain ⟨h1, h2, h3, h4⟩ := payOk_parts h
  unfold rPay
  rw [pay_split p h]
  simp only [payWords, List.getD_cons_zero, List.getD_cons_succ]
  rw [rnum_read _ h1.1 (by omega), account_take, rnum_read _ (by omega) h3.2, day_val _ h4]
theorem rAns_line (a : Ans) (h : ansOk a = true) : rAns (ansLine a) = a := by
  obtain ⟨h1, h2, h3, h4, h5⟩ := ansOk_parts h
  unfold rAns rKd
  rw [ans_split a]
  simp only [ansWords, List.getD_cons_zero, List.getD_cons_succ]
  rw [rnum_read _ h1.1 (by omega), rnum_read _ h2.1 (by omega), kind_read _ h3, rnum_read _ h4.1 h4.2, day_val _ h5]
  rfl
theorem split_seps (x : UInt8) (ls : List Bs) (h : ∀ l ∈ ls, x ∉ l) : splitL x (seps x ls) = ls ++ [[]] := by
  induction ls with
  | nil => rfl
  | cons l ls ih =>
    rw [seps_cons, splitL_at x _ _ (h l List.mem_cons_self), ih (fun m hm => h m (List.mem_cons_of_mem _ hm))]; rfl
theorem split_file (word : Bs) (hw : (10 : UInt8) ∉ word) (ls : List Bs) (hl : ∀ l ∈ ls, (10 : UInt8) ∉ l) (s : Nat) : (splitL 10 (file word ls s)).length = ls.length + 3 ∧ ((splitL 10 (file word ls s)).drop 1).take ls.length = ls := by
  rw [file_seps, split_seps 10 _ (all_no word hw ls hl _ _)]
  constructor
  · simp only [List.length_append, List.length_cons, List.length_nil]
  · rw [List.append_assoc, List.cons_append, List.drop_succ_cons, List.drop_zero, List.take_left]
/-- the lines that are read -/
def rows (t : Bs) (j : Nat) : List Bs := ((splitL 10 t).drop 1).take j
theorem rows_ofP {l : List Pay} {t : Bs} (h : writeP l = (t, 0)) : (splitL 10 t).length = l.length + 3 ∧ (∀ j, j ≤ l.length → rows t j = (l.take j).map payLine) ∧ l.length ≤ 400 ∧ l.all payOk = true := by
  obtain ⟨h1, h2, _, e⟩ := writeP_ok h
  obtain ⟨g1, g2⟩ := split_file payW (by decide) (l.map payLine) (fun x hx => by
    obtain ⟨p, hp, rfl⟩ := List.mem_map.1 hx
    exact pay_no p (List.all_eq_true.1 h2 p hp)) ((l.map (fun p : Pay => p.2.2.1)).sum).toNat
  rw [← e, List.length_map] at g1 g2
  refine ⟨g1, fun j hj => ?_, h1, h2⟩
  unfold rows
  rw [List.map_take, ← g2, List.take_take, Nat.min_eq_left hj]
theorem rows_ofA {l : List Ans} {t : Bs} (h : writeA l = (t, 0)) : (splitL 10 t).length = l.length + 3 ∧ (∀ j, j ≤ l.length → rows t j = (l.take j).map ansLine) ∧ l.length ≤ 400 ∧ l.all ansOk = true := by
  obtain ⟨h1, h2, _, e⟩ := writeA_ok h
  obtain ⟨g1, g2⟩ := split_file ansW (by decide) (l.map ansLine) (fun x hx => by
    obtain ⟨p, _, rfl⟩ := List.mem_map.1 hx
    exact ans_no p) ((l.map (fun p : Ans => p.2.2.2.1)).sum).toNat
  rw [← e, List.length_map] at g1 g2
  refine ⟨g1, fun j hj => ?_, h1, h2⟩
  unfold rows
  rw [List.map_take, ← g2, List.take_take, Nat.min_eq_left hj]
theorem map_backP (l : List Pay) (h : l.all payOk = true) : (l.map payLine).map rPay = l := by
  induction l with
  | nil => rfl
  | cons p l ih =>
    rw [List.all_cons, Bool.and_eq_true] at h
    rw [List.map_cons, List.map_cons, rPay_line p h.1, ih h.2]
theorem map_backA (l : List Ans) (h : l.all ansOk = true) : (l.map ansLine).map rAns = l := by
  induction l with
  | nil => rfl
  | cons p l ih =>
    rw [List.all_cons, Bool.and_eq_true] at h
    rw [List.map_cons, List.map_cons, rAns_line p h.1, ih h.2]
/-- a line with another number of words is in no file -/
theorem bad_lineP (t : Bs) (k : Nat) (ln : Bs) (hk : k + 3 < (splitL 10 t).length + 1) (hl : (splitL 10 t)[k]? = some ln) (h1 : 1 ≤ k) (h4 : (splitL 32 ln).length ≠ 4) : readP t = none := by
  cases hr : readP t with
  | none => rfl
  | some l =>
    obtain ⟨g1, g2, _, g4⟩ := rows_ofP ((readP_iff t l).1 hr)
    have hkl : k ≤ l.length := by omega
    have hm : ln ∈ rows t k := by
      unfold rows
      refine List.mem_of_getElem? (i := k - 1) ?_
      rw [List.getElem?_take, if_pos (by omega), List.getElem?_drop, show 1 + (k - 1) = k from by omega]; exact hl
    rw [g2 k hkl] at hm
    obtain ⟨p, hp, rfl⟩ := List.mem_map.1 hm
    exact (h4 (by rw [pay_split p (List.all_eq_true.1 g4 p (List.mem_of_mem_take hp))]; rfl)).elim
theorem bad_lineA (t : Bs) (k : Nat) (ln : Bs) (hk : k + 3 < (splitL 10 t).length + 1) (hl : (splitL 10 t)[k]? = some ln) (h1 : 1 ≤ k) (h4 : (splitL 32 ln).length ≠ 5) : readA t = none := by
  cases hr : readA t with
  | none => rfl
  | some l =>
    obtain ⟨g1, g2, _, g4⟩ := rows_ofA ((readA_iff t l).1 hr)
    have hkl : k ≤ l.length := by omega
    have hm : ln ∈ rows t k := by
      unfold rows
      refine List.mem_of_getElem? (i := k - 1) ?_
      rw [List.getElem?_take, if_pos (by omega), List.getElem?_drop, show 1 + (k - 1) = k from by omega]; exact hl
    rw [g2 k hkl] at hm
    obtain ⟨p, hp, rfl⟩ := List.mem_map.1 hm
    exact (h4 (by rw [ans_split p]; rfl)).elim
/-- what was read is right only if it is written as the text -/
theorem read_refP (t : Bs) (j : Nat) (hj : j = min ((splitL 10 t).length - 3) 401) (h : writeP ((rows t j).map rPay) ≠ (t, 0)) : readP t = none := by
  cases hr : readP t with
  | none => rfl
  | some l =>
    have hw := (readP_iff t l).1 hr
    obtain ⟨g1, g2, g3, g4⟩ := rows_ofP hw
    have ej : j = l.length := by omega
    rw [ej, g2 _ (Nat.le_refl _), List.take_length, map_backP l g4] at h
    exact (h hw).elim
theorem read_refA (t : Bs) (j : Nat) (hj : j = min ((splitL 10 t).length - 3) 401) (h : writeA ((rows t j).map rAns) ≠ (t, 0)) : readA t = none := by
  cases hr : readA t with
  | none => rfl
  | some l =>
    have hw := (readA_iff t l).1 hr
    obtain ⟨g1, g2, g3, g4⟩ := rows_ofA hw
    have ej : j = l.length := by omega
    rw [ej, g2 _ (Nat.le_refl _), List.take_length, map_backA l g4] at h
    exact (h hw).elim
theorem rows_snoc (t : Bs) (k : Nat) (ln : Bs) (h1 : 1 ≤ k) (hl : (splitL 10 t)[k]? = some ln) : rows t k = rows t (k - 1) ++ [ln] := by
  unfold rows
  obtain ⟨j, rfl⟩ : ∃ j, k = j + 1 := ⟨k - 1, by omega⟩
  rw [Nat.add_sub_cancel, List.take_add_one, List.getElem?_drop, Nat.add_comm 1 j, hl]; rfl
end BankS
namespace Go.Proofs.YtibgibjmpcajkaaGreatDoor
open Go.RowKit BankS
theorem own_open {w : World} {base : Nat} {e : TypeId} {v : Value} {xs : List ByteArray} (h : w.ownsRow base e 1 v xs.length (cellsL strC xs)) (n : Nat) (hn : xs.length = n) (h0 : 0 < n) :
    ∃ g cap, v = .slice (some ⟨g, 0, none⟩) n cap ∧ n ≤ cap ∧ base ≤ g ∧ g < w.heap.size ∧ ∀ j z, xs[j]? = some z → w.cell? ⟨g, j, none⟩ = some (.string z) := by
  subst hn
  obtain ⟨A, cap, e1, hc, _, hcell⟩ := Row.of_own h
  obtain ⟨g, o, rfl, hg, hx⟩ := hcell h0
  subst e1
  have hb := (h.lt g rfl).1
  have ho : o = 0 := by
    rcases h.2 with ⟨e2, _⟩ | ⟨g', cap', cur, e2, _⟩
    · cases e2
    · injection e2 with e2 _ _; injection e2 with e2; injection e2 with _ e3
  subst ho
  refine ⟨g, cap, rfl, hc, hb, hg, fun j z hz => ?_⟩
  have := hx j (.string z) (by have := cellsL_at strC 1 (fun _ => rfl) xs j 0 z (.string z) hz rfl; simpa using this)
  rw [Nat.zero_add] at this
  exact this
theorem own_nil {w : World} {base : Nat} {e : TypeId} {v : Value} {xs : List ByteArray} (h : w.ownsRow base e 1 v xs.length (cellsL strC xs)) (n : Nat) (hn : xs.length = n) : ∃ A cap, v = .slice A n cap := by
  subst hn
  obtain ⟨A, cap, e1, _⟩ := Row.of_own h
  exact ⟨A, cap, e1⟩
theorem four_of {xs : List ByteArray} (h : xs.length = 4) : ∃ a b c d, xs = [a, b, c, d] := by
  match xs, h with
  | [a, b, c, d], _ => exact ⟨a, b, c, d, rfl⟩
theorem five_of {xs : List ByteArray} (h : xs.length = 5) : ∃ a b c d e, xs = [a, b, c, d, e] := by
  match xs, h with
  | [a, b, c, d, e], _ => exact ⟨a, b, c, d, e, rfl⟩
end Go.Proofs.YtibgibjmpcajkaaGreatDoor
