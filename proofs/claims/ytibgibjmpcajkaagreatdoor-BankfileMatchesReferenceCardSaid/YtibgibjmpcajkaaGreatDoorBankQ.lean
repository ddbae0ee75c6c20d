/- Plain laws on the bank file's text: its lines, what it determines. -/
import Derived.Test.YtibgibjmpcajkaaGreatDoorBankP
namespace BankS
open Go

def headL (word : Bs) (n : Nat) : Bs := word ++ 32 :: Lib.decDigits n
def lastL (sum k : Nat) : Bs := [115, 117, 109, 32] ++ Lib.decDigits sum ++ [32, 99, 104, 101, 99, 107, 32] ++ pad k 3
theorem last_line (sum k : Nat) : last sum k = lastL sum k ++ [10] := by simp [last, lastL]
theorem body_seps (word : Bs) (lines : List Bs) : body word lines = seps 10 (headL word lines.length :: lines) := by
  unfold body headL
  cases lines with
  | nil => simp [seps]
  | cons l ls =>
    rw [if_neg (by simp), join_seps, seps_cons, seps_cons, seps_cons]
    simp
theorem file_seps (word : Bs) (lines : List Bs) (sum : Nat) : file word lines sum = seps 10 (headL word lines.length :: lines ++ [lastL sum (chk (body word lines))]) := by
  unfold file
  rw [seps_append, ← body_seps, last_line]
  simp [seps]
theorem dig_not (x : UInt8) (hx : x.toNat < 48 ∨ 57 < x.toNat) (t : Bs) (h : ∀ c ∈ t, 48 ≤ c.toNat ∧ c.toNat ≤ 57) : x ∉ t := by
  intro hm
  have := h x hm
  omega
theorem head_no (word : Bs) (n : Nat) (hw : (10 : UInt8) ∉ word) : (10 : UInt8) ∉ headL word n := by
  unfold headL
  rw [List.mem_append, List.mem_cons]
  rintro (h | h | h)
  · exact hw h
  · exact absurd h (by decide)
  · exact dig_not 10 (by decide) _ (dec_digits n) h
theorem last_no (sum k : Nat) : (10 : UInt8) ∉ lastL sum k := by
  unfold lastL
  simp only [List.mem_append]
  rintro (((h | h) | h) | h)
  · revert h; decide
  · exact dig_not 10 (by decide) _ (dec_digits sum) h
  · revert h; decide
  · exact dig_not 10 (by decide) _ (pad_digits k 3) h
/-- the last line determines the sum and the check number -/
theorem lastL_inj (s k s' k' : Nat) (h : lastL s k = lastL s' k') : s = s' ∧ k = k' := by
  unfold lastL at h
  simp only [List.append_assoc, List.cons_append, List.nil_append, List.cons.injEq, true_and] at h
  obtain ⟨e1, e2⟩ := part_eq 32 _ _ _ _ (dig_not 32 (by decide) _ (dec_digits s)) (dig_not 32 (by decide) _ (dec_digits s')) h
  simp only [List.cons.injEq, true_and] at e2
  exact ⟨dec_inj _ _ e1, pad_inj _ _ _ e2⟩
theorem headL_inj (word : Bs) (n m : Nat) (h : headL word n = headL word m) : n = m := by
  unfold headL at h
  have := List.append_cancel_left h
  simp only [List.cons.injEq, true_and] at this
  exact dec_inj _ _ this
/-- a file determines its lines and its sum -/
theorem file_inj (word : Bs) (hw : (10 : UInt8) ∉ word) (ls ms : List Bs) (s s' : Nat) (hl : ∀ l ∈ ls, (10 : UInt8) ∉ l) (hm : ∀ m ∈ ms, (10 : UInt8) ∉ m) (h : file word ls s = file word ms s') : ls = ms ∧ s = s' := by
  rw [file_seps, file_seps] at h
  have hh := seps_inj 10 _ _ ?_ ?_ h
  · simp only [List.cons_append, List.cons.injEq] at hh
    have hlen := headL_inj _ _ _ hh.1
    have h2 := List.append_inj hh.2 hlen
    refine ⟨h2.1, ?_⟩
    have h3 := h2.2
    simp only [List.cons.injEq, and_true] at h3
    exact (lastL_inj _ _ _ _ h3).1
  all_goals
    intro l hmem
    simp only [List.cons_append, List.mem_cons, List.mem_append, List.not_mem_nil, or_false] at hmem
    rcases hmem with rfl | hmem | rfl
    · exact head_no _ _ hw
    · first | exact hl l hmem | exact hm l hmem
    · exact last_no _ _
end BankS
