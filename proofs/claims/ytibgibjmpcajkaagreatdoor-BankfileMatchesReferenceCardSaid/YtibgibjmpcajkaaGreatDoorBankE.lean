/- Plain laws on bank files with one byte replaced. -/
import Derived.Test.YtibgibjmpcajkaaGreatDoorBankD
namespace BankS
open Go

/-- where a byte that is no separator stands in a row of parts -/
theorem seps_at (x c : UInt8) (hc : c ≠ x) (X : List Bs) (a b : Bs) (h : seps x X = a ++ c :: b) :
    ∃ X1 p q X2, X = X1 ++ (p ++ c :: q) :: X2 ∧ a = seps x X1 ++ p ∧ b = q ++ x :: seps x X2 := by
  induction X generalizing a with
  | nil => simp [seps] at h
  | cons l X ih =>
    rw [seps_cons] at h
    rcases List.append_eq_append_iff.1 h with ⟨e, h1, h2⟩ | ⟨e, h1, h2⟩
    · cases e with
      | nil => simp at h2; exact absurd h2.1.symm hc
      | cons y e =>
        simp at h2
        obtain ⟨X1, p, q, X2, e1, e2, e3⟩ := ih e h2.2
        refine ⟨l :: X1, p, q, X2, by rw [e1]; simp, ?_, e3⟩
        rw [h1, seps_cons, e2, h2.1]; simp
    · cases e with
      | nil => simp at h2; exact absurd h2.1 hc
      | cons y e =>
        simp at h2
        exact ⟨[], a, e, X, by rw [h1, h2.1]; simp, by simp [seps], h2.2⟩
/-- where a separator stands -/
theorem seps_end (x : UInt8) (X : List Bs) (hX : ∀ l ∈ X, x ∉ l) (a b : Bs) (h : seps x X = a ++ x :: b) :
    ∃ X1 p X2, X = X1 ++ p :: X2 ∧ a = seps x X1 ++ p ∧ b = seps x X2 := by
  induction X generalizing a with
  | nil => simp [seps] at h
  | cons l X ih =>
    have hl := hX l List.mem_cons_self
    rw [seps_cons] at h
    rcases List.append_eq_append_iff.1 h with ⟨e, h1, h2⟩ | ⟨e, h1, h2⟩
    · cases e with
      | nil => simp at h2 h1; exact ⟨[], l, X, rfl, by rw [h1]; simp [seps], h2.symm⟩
      | cons y e =>
        simp at h2
        obtain ⟨X1, p, X2, e1, e2, e3⟩ := ih (fun m hm => hX m (List.mem_cons_of_mem _ hm)) e h2.2
        refine ⟨l :: X1, p, X2, by rw [e1]; simp, ?_, e3⟩
        rw [h1, seps_cons, e2, h2.1]; simp
    · cases e with
      | nil => simp at h2 h1; exact ⟨[], l, X, rfl, by rw [h1]; simp [seps], h2⟩
      | cons y e =>
        simp at h2
        exact absurd (by rw [h1, h2.1]; simp) hl
theorem numF_ge (acc : Nat) (t : Bs) : acc ≤ numF acc t := by
  induction t generalizing acc with
  | nil => exact Nat.le_refl _
  | cons c t ih => exact Nat.le_trans (by omega) (ih (10 * acc + (c.toNat - 48)))

/-- one byte replaced by another one, neither a line feed -/
theorem file_sub (word : Bs) (hw : (10 : UInt8) ∉ word) (ls ms : List Bs) (s s' : Nat) (hl : ∀ l ∈ ls, (10 : UInt8) ∉ l) (hm : ∀ m ∈ ms, (10 : UInt8) ∉ m) (hsum : ls = ms → s = s') (a b : Bs) (c d : UInt8) (hc : c ≠ 10) (hd : d ≠ 10)
    (h1 : file word ls s = a ++ c :: b) (h2 : file word ms s' = a ++ d :: b) : c = d := by
  have hX := all_no word hw ls hl s (chk (body word ls))
  have hY := all_no word hw ms hm s' (chk (body word ms))
  rw [file_seps] at h1 h2
  obtain ⟨X1, p, q, X2, eX, ea, eb⟩ := seps_at 10 c hc _ a b h1
  have hY2 : seps 10 (headL word ms.length :: ms ++ [lastL s' (chk (body word ms))]) = seps 10 (X1 ++ (p ++ d :: q) :: X2) := by
    rw [h2, ea, eb, seps_append, seps_cons]; simp
  have eY := seps_inj 10 _ _ hY (by
    intro l hmem
    rw [eX] at hX
    rcases List.mem_append.1 hmem with h | h
    · exact hX l (List.mem_append_left _ h)
    · rcases List.mem_cons.1 h with rfl | h
      · have := hX (p ++ c :: q) (List.mem_append_right _ List.mem_cons_self)
        rw [List.mem_append, List.mem_cons] at this ⊢
        rintro (h | h | h)
        · exact this (.inl h)
        · exact hd h.symm
        · exact this (.inr (.inr h))
      · exact hX l (List.mem_append_right _ (List.mem_cons_of_mem _ h))) hY2
  rcases List.eq_nil_or_concat X2 with rfl | ⟨X3, z, rfl⟩
  · obtain ⟨i1, i2⟩ := List.append_inj' eX rfl
    obtain ⟨j1, j2⟩ := List.append_inj' eY rfl
    rw [← i1] at j1
    simp only [List.cons.injEq] at j1 i2 j2
    have e := j1.2
    subst e
    rw [hsum rfl, j2.1] at i2
    have := List.append_cancel_left i2.1
    simp only [List.cons.injEq] at this
    exact this.1.symm
  · have eX' : (headL word ls.length :: ls) ++ [lastL s (chk (body word ls))] = (X1 ++ (p ++ c :: q) :: X3) ++ [z] := by rw [eX]; simp
    have eY' : (headL word ms.length :: ms) ++ [lastL s' (chk (body word ms))] = (X1 ++ (p ++ d :: q) :: X3) ++ [z] := by rw [eY]; simp
    obtain ⟨i1, i2⟩ := List.append_inj' eX' rfl
    obtain ⟨j1, j2⟩ := List.append_inj' eY' rfl
    have hk := (lastL_inj _ _ _ _ (by simpa using i2.trans j2.symm)).2
    rw [body_seps, body_seps, i1, j1, seps_append, seps_append, seps_cons, seps_cons] at hk
    refine chk_byte (seps 10 X1 ++ p) (q ++ 10 :: seps 10 X3) c d ?_
    simpa using hk
end BankS
