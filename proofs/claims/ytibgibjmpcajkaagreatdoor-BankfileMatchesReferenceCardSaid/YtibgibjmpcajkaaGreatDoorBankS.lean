/- The bank file's plain functions, over lists of bytes: no program in sight. -/
import Derived.Lib.ItoaNum
import Derived.Lib.Join
namespace BankS
open Go

abbrev Bs := List UInt8

def lowB (c : UInt8) : Bool := decide (97 ≤ c.toNat ∧ c.toNat ≤ 122)
def digB (c : UInt8) : Bool := decide (48 ≤ c.toNat ∧ c.toNat ≤ 57)
def nameB (c : UInt8) : Bool := lowB c || digB c || c == 95
def isName (t : Bs) : Bool := match t with
  | [] => false
  | c :: _ => decide (t.length ≤ 16) && lowB c && t.all nameB

/-- the value of a byte of a name -/
def val (c : UInt8) : Nat := if digB c then c.toNat - 48 else if lowB c then c.toNat - 97 + 10 else 36
def accStep (x : Nat) (c : UInt8) : Nat := (37 * x + val c) % 97
def acc (t : Bs) : Nat := t.foldl accStep 0
def pad (n k : Nat) : Bs := List.replicate (k - (Lib.decDigits n).length) 48 ++ Lib.decDigits n
def account (t : Bs) : Bs := t ++ 45 :: pad (acc t) 2

def chkStep (x : Nat) (c : UInt8) : Nat := (3 * x + c.toNat) % 257
def chk (t : Bs) : Nat := t.foldl chkStep 0

/-- the lines of a file before the last one -/
def body (word : Bs) (lines : List Bs) : Bs := word ++ 32 :: Lib.decDigits lines.length ++ [10] ++ (if lines = [] then [] else Lib.join lines [10] ++ [10])
/-- the last line of a file -/
def last (sum : Nat) (k : Nat) : Bs := [115, 117, 109, 32] ++ Lib.decDigits sum ++ [32, 99, 104, 101, 99, 107, 32] ++ pad k 3 ++ [10]
def file (word : Bs) (lines : List Bs) (sum : Nat) : Bs := body word lines ++ last sum (chk (body word lines))

theorem chkStep_lt (x : Nat) (c : UInt8) : chkStep x c < 257 := Nat.mod_lt _ (by decide)
theorem chkStep_inj (x y : Nat) (c : UInt8) (hx : x < 257) (hy : y < 257) (h : chkStep x c = chkStep y c) : x = y := by
  unfold chkStep at h; omega
theorem chkStep_byte (x : Nat) (c d : UInt8) (h : chkStep x c = chkStep x d) : c = d := by
  unfold chkStep at h
  have := c.toNat_lt; have := d.toNat_lt
  apply UInt8.toNat_inj.1
  omega
theorem chkStep_swap (x : Nat) (c d : UInt8) (h : chkStep (chkStep x c) d = chkStep (chkStep x d) c) : c = d := by
  unfold chkStep at h
  have := c.toNat_lt; have := d.toNat_lt
  apply UInt8.toNat_inj.1
  omega
theorem fold_lt (t : Bs) (x : Nat) (hx : x < 257) : t.foldl chkStep x < 257 := by
  induction t generalizing x with
  | nil => exact hx
  | cons c t ih => exact ih _ (chkStep_lt x c)
theorem fold_inj (t : Bs) (x y : Nat) (hx : x < 257) (hy : y < 257) (h : t.foldl chkStep x = t.foldl chkStep y) : x = y := by
  induction t generalizing x y with
  | nil => exact h
  | cons c t ih => exact chkStep_inj x y c hx hy (ih _ _ (chkStep_lt x c) (chkStep_lt y c) h)
/-- another byte gives another check number -/
theorem chk_byte (a b : Bs) (c d : UInt8) (h : chk (a ++ c :: b) = chk (a ++ d :: b)) : c = d := by
  unfold chk at h
  rw [List.foldl_append, List.foldl_append, List.foldl_cons, List.foldl_cons] at h
  exact chkStep_byte _ c d (fold_inj b _ _ (chkStep_lt _ _) (chkStep_lt _ _) h)
/-- so do two other bytes that change places -/
theorem chk_swap (a b : Bs) (c d : UInt8) (h : chk (a ++ c :: d :: b) = chk (a ++ d :: c :: b)) : c = d := by
  unfold chk at h
  rw [List.foldl_append, List.foldl_append, List.foldl_cons, List.foldl_cons, List.foldl_cons, List.foldl_cons] at h
  exact chkStep_swap _ c d (fold_inj b _ _ (chkStep_lt _ _) (chkStep_lt _ _) h)
theorem chk_lt (t : Bs) : chk t < 257 := fold_lt t 0 (by decide)

theorem accStep_lt (x : Nat) (c : UInt8) : accStep x c < 97 := Nat.mod_lt _ (by decide)
theorem acc_lt (t : Bs) : acc t < 97 := by
  unfold acc
  suffices ∀ x, x < 97 → t.foldl accStep x < 97 from this 0 (by decide)
  induction t with
  | nil => exact fun x hx => hx
  | cons c t ih => exact fun x _ => ih _ (accStep_lt x c)

/-- the number of days of month m (0: January 2000) -/
def lenM (m : Nat) : Nat :=
  if m % 12 = 1 then (if m / 12 % 4 = 0 then 29 else 28) else if m % 12 = 3 ∨ m % 12 = 5 ∨ m % 12 = 8 ∨ m % 12 = 10 then 30 else 31
/-- the first day of month m -/
def firstM : Nat → Nat
  | 0 => 0
  | m + 1 => firstM m + lenM m
/-- the month of day n, looked for from month m on -/
def monthF : Nat → Nat → Nat → Nat
  | 0, m, _ => m
  | k + 1, m, n => if n < firstM (m + 1) then m else monthF k (m + 1) n
def monthOf (n : Nat) : Nat := monthF 1200 0 n
def two (n : Nat) : Bs := pad n 2
/-- the text of day n -/
def dayText (n : Nat) : Bs := Lib.decDigits (2000 + monthOf n / 12) ++ 45 :: two (monthOf n % 12 + 1) ++ 45 :: two (n - firstM (monthOf n) + 1)

theorem lenM_le (m : Nat) : 28 ≤ lenM m ∧ lenM m ≤ 31 := by
  unfold lenM
  repeat' split
  all_goals omega
theorem firstM_le (m k : Nat) : firstM m ≤ firstM (m + k) := by
  induction k with
  | zero => exact Nat.le_refl _
  | succ k ih => exact Nat.le_trans ih (Nat.le_add_right _ _)
theorem firstM_mono {m k : Nat} (h : m ≤ k) : firstM m ≤ firstM k := by
  obtain ⟨j, rfl⟩ := Nat.exists_eq_add_of_le h
  exact firstM_le m j
theorem month_unique (n m k : Nat) (h1 : firstM m ≤ n) (h2 : n < firstM (m + 1)) (h3 : firstM k ≤ n) (h4 : n < firstM (k + 1)) : m = k := by
  rcases Nat.lt_trichotomy m k with h | h | h
  · have := firstM_mono (m := m + 1) (k := k) h; omega
  · exact h
  · have := firstM_mono (m := k + 1) (k := m) h; omega
theorem monthF_ok (k m n : Nat) (h1 : firstM m ≤ n) (h2 : n < firstM (m + k)) : firstM (monthF k m n) ≤ n ∧ n < firstM (monthF k m n + 1) ∧ m ≤ monthF k m n ∧ monthF k m n < m + k := by
  induction k generalizing m with
  | zero => rw [Nat.add_zero] at h2; omega
  | succ k ih =>
    unfold monthF
    by_cases h : n < firstM (m + 1)
    · rw [if_pos h]; exact ⟨h1, h, Nat.le_refl _, by omega⟩
    · rw [if_neg h]
      have := ih (m + 1) (by omega) (by rw [show m + 1 + k = m + (k + 1) from by omega]; exact h2)
      exact ⟨this.1, this.2.1, by omega, by omega⟩
theorem firstM_end : firstM 1200 = 36525 := by decide +kernel
theorem month_ok (n : Nat) (h : n < 36525) : firstM (monthOf n) ≤ n ∧ n < firstM (monthOf n + 1) ∧ monthOf n < 1200 := by
  have := monthF_ok 1200 0 n (Nat.zero_le _) (by rw [Nat.zero_add, firstM_end]; exact h)
  exact ⟨this.1, this.2.1, by have := this.2.2.2; unfold monthOf; omega⟩
theorem month_at (n m : Nat) (h1 : firstM m ≤ n) (h2 : n < firstM (m + 1)) (hm : m < 1200) : monthOf n = m := by
  have h : n < 36525 := by have := firstM_mono (m := m + 1) (k := 1200) hm; rw [firstM_end] at this; omega
  have := month_ok n h
  exact month_unique _ _ _ this.1 this.2.1 h1 h2
/-- the first day of a month, as the calendar's First computes it -/
def before (m : Nat) : Nat := [0, 31, 59, 90, 120, 151, 181, 212, 243, 273, 304, 334, 365].getD m 0
def firstC (m : Nat) : Nat := (m / 12) * 365 + (m / 12 + 3) / 4 + before (m % 12) + (if 1 < m % 12 ∧ m / 12 % 4 = 0 then 1 else 0)
theorem first_all : (List.range 1201).all (fun m => decide (firstC m = firstM m)) = true := by decide +kernel
theorem first_eq (m : Nat) (h : m ≤ 1200) : firstC m = firstM m := by
  have := List.all_eq_true.1 first_all m (List.mem_range.2 (by omega))
  exact of_decide_eq_true this

/-- a payment: ID, account, cents, day -/
abbrev Pay := Int × Bs × Int × Int
/-- an answer: Seq, ID, kind, cents, day -/
abbrev Ans := Int × Int × Int × Int × Int
def numOk (n : Int) : Bool := decide (0 ≤ n ∧ n ≤ 999999999)
def dayOk (n : Int) : Bool := decide (0 ≤ n ∧ n ≤ 36524)
def centsOk (n : Int) : Bool := decide (1 ≤ n ∧ n ≤ 1000000000000)
def payOk (p : Pay) : Bool := numOk p.1 && isName p.2.1 && centsOk p.2.2.1 && dayOk p.2.2.2
def ansOk (a : Ans) : Bool := numOk a.1 && numOk a.2.1 && dayOk a.2.2.2.2 &&
  (if a.2.2.1 = 2 ∨ a.2.2.1 = 4 then centsOk a.2.2.2.1 else decide ((a.2.2.1 = 1 ∨ a.2.2.1 = 3) ∧ a.2.2.2.1 = 0))
def kindT (k : Int) : Bs := if k = 1 then [116, 97, 107, 101, 110] else if k = 2 then [112, 97, 105, 100] else if k = 3 then [114, 101, 102, 117, 115, 101, 100] else [98, 97, 99, 107]
def payLine (p : Pay) : Bs := Lib.decDigits p.1.toNat ++ 32 :: account p.2.1 ++ 32 :: Lib.decDigits p.2.2.1.toNat ++ 32 :: dayText p.2.2.2.toNat
def ansLine (a : Ans) : Bs := Lib.decDigits a.1.toNat ++ 32 :: Lib.decDigits a.2.1.toNat ++ 32 :: kindT a.2.2.1 ++ 32 :: Lib.decDigits a.2.2.2.1.toNat ++ 32 :: dayText a.2.2.2.2.toNat
def twice : List Int → Bool
  | [] => false
  | x :: l => l.contains x || twice l
def payW : Bs := [112, 97, 121, 109, 101, 110, 116, 115]
def ansW : Bs := [97, 110, 115, 119, 101, 114, 115]
def writeP (l : List Pay) : Bs × Nat :=
  if 400 < l.length then ([], 2) else if l.all payOk = false then ([], 1) else if twice (l.map (·.1)) then ([], 5) else (file payW (l.map payLine) ((l.map (fun p : Pay => p.2.2.1)).sum).toNat, 0)
def writeA (l : List Ans) : Bs × Nat :=
  if 400 < l.length then ([], 2) else if l.all ansOk = false then ([], 1) else if twice (l.map (·.1)) then ([], 5) else (file ansW (l.map ansLine) ((l.map (fun a : Ans => a.2.2.2.1)).sum).toNat, 0)

end BankS
