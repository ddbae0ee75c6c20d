/- Plain lemmas on the lexer's plain functions. -/
import Derived.Test.YtfgngakdhedcgaaDoorLexS
namespace LexS

theorem spanN_nil (m : Nat) : spanN m [] = 0 := rfl
theorem spanN_cons (m : Nat) (c : UInt8) (t : List UInt8) : spanN m (c :: t) = if cin m c then 1 + spanN m t else 0 := by
  unfold spanN
  rw [List.takeWhile_cons]
  by_cases h : cin m c = true
  · simp [h]; omega
  · simp [h]
theorem span_stop (m : Nat) (t : List UInt8) : isB m (t.drop (spanN m t)) = false := by
  induction t with
  | nil => rfl
  | cons c t ih =>
    rw [spanN_cons]
    by_cases h : cin m c = true
    · rw [if_pos h, Nat.add_comm, List.drop_succ_cons]; exact ih
    · rw [if_neg h, List.drop_zero]; simp [isB, h]
theorem span_le (m : Nat) (t : List UInt8) : spanN m t ≤ t.length := by
  unfold spanN; exact (List.takeWhile_prefix _).length_le

theorem gap_white (t : List UInt8) : gapN false t = spanN 1 t + gapN false (t.drop (spanN 1 t)) := by
  induction t with
  | nil => rfl
  | cons c t ih =>
    rw [spanN_cons]
    by_cases h : cin 1 c = true
    · rw [if_pos h, Nat.add_comm 1, List.drop_succ_cons, gapN]
      simp only [h, Bool.false_eq_true, if_false, if_true]
      omega
    · rw [if_neg h]; simp
theorem gap_comment (t : List UInt8) (h : [47, 47].isPrefixOf t = true) : gapN false t = gapN true t := by
  obtain ⟨u, rfl⟩ : ∃ u, t = 47 :: 47 :: u := by
    obtain ⟨u, hu⟩ := List.isPrefixOf_iff_prefix.1 h
    exact ⟨u, by simpa using hu.symm⟩
  rw [gapN]
  conv => rhs; rw [gapN]
  simp [cin, cls]
theorem gap_none (t : List UInt8) (h1 : isB 1 t = false) (h : [47, 47].isPrefixOf t = false) : gapN false t = 0 := by
  cases t with
  | nil => rfl
  | cons c t =>
    rw [gapN]
    have h1' : cin 1 c = false := h1
    simp only [h1', Bool.false_eq_true, if_false]
    rw [if_neg]
    rintro ⟨rfl, h2⟩
    cases t with
    | nil => simp at h2
    | cons d t => simp at h2; subst h2; simp [List.isPrefixOf] at h
theorem gap_line (t : List UInt8) : gapN true (10 :: t) = gapN false (10 :: t) := by
  rw [gapN, gapN]; simp [cin, cls]
theorem gap_in (c : UInt8) (t : List UInt8) (h : c ≠ 10) : gapN true (c :: t) = 1 + gapN true t := by
  rw [gapN]; simp [h]
theorem gapN_le (b : Bool) (t : List UInt8) : gapN b t ≤ t.length := by
  induction t generalizing b with
  | nil => simp [gapN]
  | cons c t ih =>
    rw [gapN]
    have h1 := ih true
    have h2 := ih false
    repeat' split
    all_goals simp only [List.length_cons]; omega
theorem skip_le (t : List UInt8) : skipN t ≤ t.length := gapN_le _ _

theorem isPrefixOf_take (b a : List UInt8) : b.isPrefixOf a = (a.take b.length == b) := by
  rw [Bool.eq_iff_iff, List.isPrefixOf_iff_prefix, List.prefix_iff_eq_take, beq_iff_eq]
  exact eq_comm
end LexS
