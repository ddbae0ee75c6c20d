/- Reading a bank file, plainly: lines, words, numbers, days, names; and that what was written is read. -/
import Derived.Lib.SplitLaws
import Derived.Lib.AtoiAll
import Derived.Lib.AtoiAllCases
import Derived.Lib.Bytealg
import Derived.Test.YtibgibjmpcajkaaGreatDoorBankE
namespace BankS
open Go

def splitL (x : UInt8) : Bs → List Bs
  | [] => [[]]
  | c :: t => if c = x then [] :: splitL x t else match splitL x t with
    | [] => [[c]]
    | l :: ls => (c :: l) :: ls
def cutL (x : UInt8) : Bs → Option (Bs × Bs)
  | [] => none
  | c :: t => if c = x then some ([], t) else (cutL x t).map (fun p => (c :: p.1, p.2))
theorem splitL_no (x : UInt8) (t : Bs) (h : x ∉ t) : splitL x t = [t] := by
  induction t with
  | nil => rfl
  | cons c t ih =>
    rw [splitL, if_neg (fun e => h (by rw [e]; exact List.mem_cons_self)), ih (fun m => h (List.mem_cons_of_mem _ m))]
theorem splitL_at (x : UInt8) (a b : Bs) (h : x ∉ a) : splitL x (a ++ x :: b) = a :: splitL x b := by
  induction a with
  | nil => rw [List.nil_append, splitL, if_pos rfl]
  | cons c t ih =>
    rw [List.cons_append, splitL, if_neg (fun e => h (by rw [e]; exact List.mem_cons_self)), ih (fun m => h (List.mem_cons_of_mem _ m))]
theorem cutL_no (x : UInt8) (t : Bs) (h : x ∉ t) : cutL x t = none := by
  induction t with
  | nil => rfl
  | cons c t ih =>
    rw [cutL, if_neg (fun e => h (by rw [e]; exact List.mem_cons_self)), ih (fun m => h (List.mem_cons_of_mem _ m))]
    rfl
theorem cutL_at (x : UInt8) (a b : Bs) (h : x ∉ a) : cutL x (a ++ x :: b) = some (a, b) := by
  induction a with
  | nil => rw [List.nil_append, cutL, if_pos rfl]
  | cons c t ih =>
    rw [List.cons_append, cutL, if_neg (fun e => h (by rw [e]; exact List.mem_cons_self)), ih (fun m => h (List.mem_cons_of_mem _ m))]
    rfl
theorem first_of_mem (x : UInt8) (t : Bs) (h : x ∈ t) : ∃ a b, t = a ++ x :: b ∧ x ∉ a := by
  induction t with
  | nil => cases h
  | cons c t ih =>
    by_cases e : c = x
    · exact ⟨[], t, by rw [e]; rfl, by simp⟩
    · obtain ⟨a, b, rfl, hn⟩ := ih (by rcases List.mem_cons.1 h with h | h; exact absurd h.symm e; exact h)
      exact ⟨c :: a, b, rfl, by simp [Ne.symm e, hn]⟩
theorem cutL_cases (x : UInt8) (t : Bs) : (x ∉ t ∧ cutL x t = none) ∨ (∃ a b, t = a ++ x :: b ∧ x ∉ a ∧ cutL x t = some (a, b)) := by
  by_cases h : x ∈ t
  · obtain ⟨a, b, e, hn⟩ := first_of_mem x t h
    exact Or.inr ⟨a, b, e, hn, by rw [e]; exact cutL_at x a b hn⟩
  · exact Or.inl ⟨h, cutL_no x t h⟩

theorem index_first (x : UInt8) (a b : Bs) (h : x ∉ a) : Lib.index (a ++ x :: b) [x] = (a.length : Int) := by
  induction a with
  | nil => rw [List.nil_append, Lib.index]; simp [List.isPrefixOf]
  | cons c t ih =>
    have hc : c ≠ x := fun e => h (by rw [e]; exact List.mem_cons_self)
    rw [List.cons_append, Lib.index, ih (fun m => h (List.mem_cons_of_mem _ m))]
    simp [List.isPrefixOf, Ne.symm hc]
theorem index_no (x : UInt8) (t : Bs) (h : x ∉ t) : Lib.index t [x] = -1 := by
  induction t with
  | nil => simp [Lib.index]
  | cons c t ih =>
    have hc : c ≠ x := fun e => h (by rw [e]; exact List.mem_cons_self)
    rw [Lib.index, ih (fun m => h (List.mem_cons_of_mem _ m))]
    simp [List.isPrefixOf, Ne.symm hc]
theorem indexByte_first (x : UInt8) (a b : Bs) (h : x ∉ a) : Lib.indexByte (a ++ x :: b) x = (a.length : Int) := by
  induction a with
  | nil => rw [List.nil_append, Lib.indexByte]; simp
  | cons c t ih =>
    have hc : c ≠ x := fun e => h (by rw [e]; exact List.mem_cons_self)
    rw [List.cons_append, Lib.indexByte, ih (fun m => h (List.mem_cons_of_mem _ m))]
    simp [hc]
theorem indexByte_no (x : UInt8) (t : Bs) (h : x ∉ t) : Lib.indexByte t x = -1 := by
  induction t with
  | nil => rfl
  | cons c t ih =>
    have hc : c ≠ x := fun e => h (by rw [e]; exact List.mem_cons_self)
    rw [Lib.indexByte, ih (fun m => h (List.mem_cons_of_mem _ m))]
    simp [hc]
theorem splitK_eq (x : UInt8) (k : Nat) (t : Bs) (h : t.count x = k) : Lib.splitK [x] 0 k t = splitL x t := by
  induction k generalizing t with
  | zero => rw [Lib.splitK, splitL_no x t (List.count_eq_zero.1 h)]
  | succ k ih =>
    have hm : x ∈ t := List.count_pos_iff.1 (by omega)
    obtain ⟨a, b, rfl, hn⟩ := first_of_mem x t hm
    have hb : b.count x = k := by
      rw [List.count_append, List.count_cons_self, List.count_eq_zero.2 hn] at h; omega
    rw [Lib.splitK, index_first x a b hn, splitL_at x a b hn]
    have : ((a.length : Int) == -1) = false := by simp
    rw [this]
    simp only [Bool.false_eq_true, if_false, Int.toNat_natCast, Nat.add_zero, List.take_left', List.length_cons, List.length_nil, Nat.zero_add]
    rw [show (a ++ x :: b).drop (a.length + 1) = b from by rw [← List.drop_drop]; simp, ih b hb]
theorem split_eq (x : UInt8) (t : Bs) : Lib.split t [x] = splitL x t := by
  unfold Lib.split
  rw [Lib.count_one]
  exact splitK_eq x _ t rfl
theorem splitL_len (x : UInt8) (t : Bs) : (splitL x t).length = t.count x + 1 := by
  generalize hk : t.count x = k
  induction k generalizing t with
  | zero => rw [splitL_no x t (List.count_eq_zero.1 hk)]; rfl
  | succ k ih =>
    have hm : x ∈ t := List.count_pos_iff.1 (by omega)
    obtain ⟨a, b, rfl, hn⟩ := first_of_mem x t hm
    have hb : b.count x = k := by
      rw [List.count_append, List.count_cons_self, List.count_eq_zero.2 hn] at hk; omega
    rw [splitL_at x a b hn, List.length_cons, ih b hb]

/-- what stands before a byte -/
def befL (x : UInt8) (t : Bs) : Bs := t.takeWhile (fun c => c != x)
theorem bef_at (x : UInt8) (a b : Bs) (h : x ∉ a) : befL x (a ++ x :: b) = a := by
  induction a with
  | nil => simp [befL]
  | cons c t ih =>
    have hc : c ≠ x := fun e => h (by rw [e]; exact List.mem_cons_self)
    have := ih (fun m => h (List.mem_cons_of_mem _ m))
    unfold befL at this ⊢
    rw [List.cons_append, List.takeWhile_cons_of_pos (by simpa using hc), this]
theorem bef_no (x : UInt8) (t : Bs) (h : x ∉ t) : befL x t = t := by
  induction t with
  | nil => rfl
  | cons c t ih =>
    have hc : c ≠ x := fun e => h (by rw [e]; exact List.mem_cons_self)
    have := ih (fun m => h (List.mem_cons_of_mem _ m))
    unfold befL at this ⊢
    rw [List.takeWhile_cons_of_pos (by simpa using hc), this]
theorem cut_bef (x : UInt8) (t : Bs) : (Lib.cut t [x]).1 = befL x t := by
  unfold Lib.cut
  by_cases h : x ∈ t
  · obtain ⟨a, b, rfl, hn⟩ := first_of_mem x t h
    rw [index_first x a b hn, if_pos (by omega), bef_at x a b hn]
    simp
  · rw [index_no x t h, if_neg (by omega), bef_no x t h]

/-- a line of n words -/
def lineP (n : Nat) (r : Bs) : Option (List Bs × Bs) := match cutL 10 r with
  | none => none
  | some (a, b) => if (splitL 32 a).length = n then some (splitL 32 a, b) else none
def numP (w : Bs) : Option Int := match Lib.atoiAll w with
  | .ok v => some v
  | _ => none
def dayOf (y m d : Nat) : Option Nat :=
  if 2000 ≤ y ∧ y ≤ 2099 ∧ 1 ≤ m ∧ m ≤ 12 ∧ 1 ≤ d ∧ d ≤ lenM ((y - 2000) * 12 + (m - 1)) then some (firstM ((y - 2000) * 12 + (m - 1)) + (d - 1)) else none
def dv (c : UInt8) : Nat := c.toNat - 48
def dateForm (t : Bs) : Bool := t.length == 10 && digB (t.getD 0 0) && digB (t.getD 1 0) && digB (t.getD 2 0) && digB (t.getD 3 0) && t.getD 4 0 == 45 && digB (t.getD 5 0) && digB (t.getD 6 0) && t.getD 7 0 == 45 && digB (t.getD 8 0) && digB (t.getD 9 0)
def dateY (t : Bs) : Nat := 10 * (10 * (10 * dv (t.getD 0 0) + dv (t.getD 1 0)) + dv (t.getD 2 0)) + dv (t.getD 3 0)
def dateM (t : Bs) : Nat := 10 * dv (t.getD 5 0) + dv (t.getD 6 0)
def dateD (t : Bs) : Nat := 10 * dv (t.getD 8 0) + dv (t.getD 9 0)
/-- the day of a text, and the error -/
def dayE (t : Bs) : Nat × Nat := if dateForm t then (match dayOf (dateY t) (dateM t) (dateD t) with | some n => (n, 0) | none => (0, 21)) else (0, 12)
def dayP (t : Bs) : Option Int := if (dayE t).2 = 0 then some ((dayE t).1 : Int) else none
def accB (t : Bs) : Bool := isName (befL 45 t) && account (befL 45 t) == t
def nameP (t : Bs) : Option Bs := if accB t then some (befL 45 t) else none
def kindP (t : Bs) : Option Int := if t = kindT 1 then some 1 else if t = kindT 2 then some 2 else if t = kindT 3 then some 3 else if t = kindT 4 then some 4 else none
def payP (r : Bs) : Option (Pay × Bs) := (lineP 4 r).bind fun p => (numP (p.1.getD 0 [])).bind fun id => (nameP (p.1.getD 1 [])).bind fun a => (numP (p.1.getD 2 [])).bind fun c => (dayP (p.1.getD 3 [])).map fun d => ((id, a, c, d), p.2)
def ansP (r : Bs) : Option (Ans × Bs) := (lineP 5 r).bind fun p => (numP (p.1.getD 0 [])).bind fun s => (numP (p.1.getD 1 [])).bind fun id => (kindP (p.1.getD 2 [])).bind fun k => (numP (p.1.getD 3 [])).bind fun c => (dayP (p.1.getD 4 [])).map fun d => ((s, id, k, c, d), p.2)
def manyP {α : Type} (f : Bs → Option (α × Bs)) : Nat → Bs → Option (List α × Bs)
  | 0, r => some ([], r)
  | n + 1, r => (f r).bind fun p => (manyP f n p.2).map fun q => (p.1 :: q.1, q.2)
def fileP {α : Type} (word : Bs) (f : Bs → Option (α × Bs)) (t : Bs) : Option (List α) :=
  (lineP 2 t).bind fun p => if p.1.getD 0 [] = word then (numP (p.1.getD 1 [])).bind fun n => if 0 ≤ n ∧ n ≤ 400 then (manyP f n.toNat p.2).bind fun q => (lineP 4 q.2).bind fun z => if z.2 = [] then some q.1 else none else none else none
def readP (t : Bs) : Option (List Pay) := (fileP payW payP t).bind fun l => if writeP l = (t, 0) then some l else none
def readA (t : Bs) : Option (List Ans) := (fileP ansW ansP t).bind fun l => if writeA l = (t, 0) then some l else none

theorem parse_dec (t : Bs) (h : ∀ c ∈ t, 48 ≤ c.toNat ∧ c.toNat ≤ 57) (acc : Nat) (hb : numF acc t < 9223372036854775808) : Lib.parseUint10 acc t = .ok (numF acc t) := by
  induction t generalizing acc with
  | nil => rfl
  | cons c t ih =>
    have hc := h c List.mem_cons_self
    have hge := numF_ge (10 * acc + (c.toNat - 48)) t
    have hb' : numF (10 * acc + (c.toNat - 48)) t < 9223372036854775808 := hb
    rw [Lib.parseUint10, if_pos hc, if_neg (by omega), if_neg (by omega), Nat.mul_comm acc 10]
    exact ih (fun d hd => h d (List.mem_cons_of_mem _ hd)) _ hb'
theorem atoi_dec (n : Nat) (h : n < 9223372036854775808) : Lib.atoiAll (Lib.decDigits n) = .ok (n : Int) := by
  have hd := dec_digits n
  have hn := numF_dec n
  have hl := dec_pos n
  generalize Lib.decDigits n = t at hd hn hl
  cases t with
  | nil => simp at hl
  | cons c r =>
    have hc := hd c List.mem_cons_self
    have hp := parse_dec (c :: r) hd 0 (by rw [hn]; exact h)
    unfold Lib.atoiAll
    simp only []
    rw [if_neg (by omega)]
    unfold Lib.parseMag
    rw [if_neg (by simp), hp, hn]
    simp only []
    rw [if_neg (by omega), if_neg (by omega), if_neg (by omega)]
theorem num_dec (n : Nat) (h : n < 9223372036854775808) : numP (Lib.decDigits n) = some (n : Int) := by
  unfold numP
  rw [atoi_dec n h]
end BankS
