/- Plain lemmas on rows of parts with a separator, and on decimal numerals. -/
import Derived.Test.YtibgibjmpcajkaaGreatDoorBankS
import Derived.Lib.AtoiAll
namespace BankS
open Go

/-- parts, each followed by the byte x -/
def seps (x : UInt8) (ls : List Bs) : Bs := ls.flatMap (· ++ [x])
theorem seps_nil (x : UInt8) : seps x [] = [] := rfl
theorem seps_cons (x : UInt8) (l : Bs) (ls : List Bs) : seps x (l :: ls) = l ++ x :: seps x ls := by simp [seps]
theorem seps_append (x : UInt8) (ls ms : List Bs) : seps x (ls ++ ms) = seps x ls ++ seps x ms := by simp [seps]
/-- two texts that begin with a part and its end -/
theorem part_eq (x : UInt8) (l m r s : Bs) (hl : x ∉ l) (hm : x ∉ m) (h : l ++ x :: r = m ++ x :: s) : l = m ∧ r = s := by
  induction l generalizing m with
  | nil =>
    cases m with
    | nil => simp at h; exact ⟨rfl, h⟩
    | cons c m => simp at h; exact absurd (h.1 ▸ List.mem_cons_self) hm
  | cons c l ih =>
    cases m with
    | nil => simp at h; exact absurd (h.1 ▸ List.mem_cons_self) hl
    | cons d m =>
      simp at h
      obtain ⟨e1, e2⟩ := ih m (fun hh => hl (List.mem_cons_of_mem _ hh)) (fun hh => hm (List.mem_cons_of_mem _ hh)) h.2
      exact ⟨by rw [h.1, e1], e2⟩
theorem seps_eq (x : UInt8) (ls ms : List Bs) (r s : Bs) (hl : ∀ l ∈ ls, x ∉ l) (hm : ∀ m ∈ ms, x ∉ m) (hn : ls.length = ms.length) (h : seps x ls ++ r = seps x ms ++ s) : ls = ms ∧ r = s := by
  induction ls generalizing ms with
  | nil =>
    cases ms with
    | nil => exact ⟨rfl, h⟩
    | cons m ms => simp at hn
  | cons l ls ih =>
    cases ms with
    | nil => simp at hn
    | cons m ms =>
      rw [seps_cons, seps_cons, List.append_assoc, List.append_assoc, List.cons_append, List.cons_append] at h
      obtain ⟨e1, e2⟩ := part_eq x l m _ _ (hl l List.mem_cons_self) (hm m List.mem_cons_self) h
      obtain ⟨e3, e4⟩ := ih ms (fun a ha => hl a (List.mem_cons_of_mem _ ha)) (fun a ha => hm a (List.mem_cons_of_mem _ ha)) (by simpa using hn) e2
      exact ⟨by rw [e1, e3], e4⟩
theorem seps_count (x : UInt8) (ls : List Bs) (hl : ∀ l ∈ ls, x ∉ l) : (seps x ls).count x = ls.length := by
  induction ls with
  | nil => rfl
  | cons l ls ih =>
    rw [seps_cons, List.count_append, List.count_cons_self, ih (fun a ha => hl a (List.mem_cons_of_mem _ ha)), List.count_eq_zero.2 (hl l List.mem_cons_self)]
    simp
theorem seps_inj (x : UInt8) (ls ms : List Bs) (hl : ∀ l ∈ ls, x ∉ l) (hm : ∀ m ∈ ms, x ∉ m) (h : seps x ls = seps x ms) : ls = ms := by
  have hn : ls.length = ms.length := by rw [← seps_count x ls hl, ← seps_count x ms hm, h]
  exact (seps_eq x ls ms [] [] hl hm hn (by rw [h])).1
/-- joined parts, and the separator at the end -/
theorem join_seps (x : UInt8) (l : Bs) (ls : List Bs) : Lib.join (l :: ls) [x] ++ [x] = seps x (l :: ls) := by
  induction ls generalizing l with
  | nil => simp [Lib.join, seps]
  | cons m ls ih =>
    have : Lib.join (l :: m :: ls) [x] = l ++ x :: Lib.join (m :: ls) [x] := by simp [Lib.join, List.intercalate, List.intersperse]
    rw [this, seps_cons, ← ih m]
    simp

theorem dec_digits (n : Nat) : ∀ c ∈ Lib.decDigits n, 48 ≤ c.toNat ∧ c.toNat ≤ 57 := by
  induction n using Nat.strongRecOn with
  | ind n ih =>
    intro c hc
    rw [Lib.decDigits] at hc
    split at hc
    · rw [List.mem_singleton] at hc
      rw [hc]
      have : (UInt8.ofNat (48 + n)).toNat = 48 + n := by rw [UInt8.toNat_ofNat']; omega
      omega
    · rcases List.mem_append.1 hc with h | h
      · exact ih (n / 10) (by omega) c h
      · rw [List.mem_singleton] at h
        rw [h]
        have : (UInt8.ofNat (48 + n % 10)).toNat = 48 + n % 10 := by rw [UInt8.toNat_ofNat']; omega
        omega
theorem dec_pos (n : Nat) : 1 ≤ (Lib.decDigits n).length := by
  rw [Lib.decDigits]
  split <;> simp
/-- the number that digits write -/
def numF (acc : Nat) : Bs → Nat
  | [] => acc
  | c :: t => numF (10 * acc + (c.toNat - 48)) t
theorem numF_append (acc : Nat) (t u : Bs) : numF acc (t ++ u) = numF (numF acc t) u := by
  induction t generalizing acc with
  | nil => rfl
  | cons c t ih => exact ih _
theorem numF_one (acc : Nat) (c : UInt8) : numF acc [c] = 10 * acc + (c.toNat - 48) := rfl
theorem numF_dec (n : Nat) : numF 0 (Lib.decDigits n) = n := by
  induction n using Nat.strongRecOn with
  | ind n ih =>
    have hc : ∀ k, k < 10 → (UInt8.ofNat (48 + k)).toNat = 48 + k := fun k hk => by rw [UInt8.toNat_ofNat']; omega
    by_cases hn : n < 10
    · have e : Lib.decDigits n = [UInt8.ofNat (48 + n)] := by rw [Lib.decDigits, dif_pos hn]
      have h := hc n hn
      generalize UInt8.ofNat (48 + n) = c at e h
      rw [e, numF_one, h]; omega
    · have e : Lib.decDigits n = Lib.decDigits (n / 10) ++ [UInt8.ofNat (48 + n % 10)] := by rw [Lib.decDigits, dif_neg hn]
      have h := hc (n % 10) (by omega)
      generalize UInt8.ofNat (48 + n % 10) = c at e h
      rw [e, numF_append, ih (n / 10) (by omega), numF_one, h]; omega
theorem dec_inj (n m : Nat) (h : Lib.decDigits n = Lib.decDigits m) : n = m := by
  rw [← numF_dec n, ← numF_dec m, h]
theorem numF_zeros (k : Nat) (t : Bs) : numF 0 (List.replicate k 48 ++ t) = numF 0 t := by
  induction k with
  | zero => rfl
  | succ k ih => rw [List.replicate_succ, List.cons_append]; exact ih
theorem numF_pad (n k : Nat) : numF 0 (pad n k) = n := by
  unfold pad
  rw [numF_zeros, numF_dec]
theorem pad_inj (n m k : Nat) (h : pad n k = pad m k) : n = m := by
  rw [← numF_pad n k, ← numF_pad m k, h]
theorem pad_digits (n k : Nat) : ∀ c ∈ pad n k, 48 ≤ c.toNat ∧ c.toNat ≤ 57 := by
  intro c hc
  unfold pad at hc
  rcases List.mem_append.1 hc with h | h
  · have := List.eq_of_mem_replicate h
    rw [this]; decide
  · exact dec_digits n c h
end BankS
