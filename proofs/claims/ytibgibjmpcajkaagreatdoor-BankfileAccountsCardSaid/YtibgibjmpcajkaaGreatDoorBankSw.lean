/- Plain laws on bank files with two neighbouring bytes exchanged, and on files of two kinds. -/
import Derived.Test.YtibgibjmpcajkaaGreatDoorBankG
namespace BankS
open Go

theorem lastL_head (s k : Nat) : ∃ r, lastL s k = 115 :: 117 :: r := by unfold lastL; exact ⟨_, rfl⟩
/-- a line feed and another byte exchanged -/
theorem file_swapN (word : Bs) (hw : (10 : UInt8) ∉ word) (ls ms : List Bs) (s s' : Nat) (hl : ∀ l ∈ ls, (10 : UInt8) ∉ l) (hm : ∀ m ∈ ms, (10 : UInt8) ∉ m) (a b : Bs) (d : UInt8) (hd : d ≠ 10)
    (h1 : file word ls s = a ++ 10 :: d :: b) (h2 : file word ms s' = a ++ d :: 10 :: b) : False := by
  have hX := all_no word hw ls hl s (chk (body word ls))
  have hY := all_no word hw ms hm s' (chk (body word ms))
  rw [file_seps] at h1 h2
  obtain ⟨X1, p, X2, eX, ea, eb⟩ := seps_end 10 _ hX a (d :: b) h1
  cases X2 with
  | nil => simp [seps] at eb
  | cons q0 X3 =>
    rw [seps_cons] at eb
    cases q0 with
    | nil => simp at eb; exact hd eb.1
    | cons d' q =>
      simp only [List.cons_append, List.cons.injEq] at eb
      obtain ⟨rfl, eb⟩ := eb
      have hY2 : seps 10 (headL word ms.length :: ms ++ [lastL s' (chk (body word ms))]) = seps 10 (X1 ++ (p ++ [d]) :: q :: X3) := by
        rw [h2, ea, eb, seps_append, seps_cons, seps_cons]; simp
      have eY := seps_inj 10 _ _ hY (by
        intro l hmem
        rw [eX] at hX
        rcases List.mem_append.1 hmem with h | h
        · exact hX l (List.mem_append_left _ h)
        · rcases List.mem_cons.1 h with rfl | h
          · have i1 := hX p (List.mem_append_right _ List.mem_cons_self)
            rw [List.mem_append, List.mem_singleton]
            rintro (h | h)
            · exact i1 h
            · exact hd h.symm
          · rcases List.mem_cons.1 h with rfl | h
            · have i2 := hX (d :: l) (List.mem_append_right _ (List.mem_cons_of_mem _ List.mem_cons_self))
              exact fun h => i2 (List.mem_cons_of_mem _ h)
            · exact hX l (List.mem_append_right _ (List.mem_cons_of_mem _ (List.mem_cons_of_mem _ h)))) hY2
      rcases List.eq_nil_or_concat X3 with rfl | ⟨X4, z, rfl⟩
      · have eX' : (headL word ls.length :: ls) ++ [lastL s (chk (body word ls))] = (X1 ++ [p]) ++ [d :: q] := by rw [eX]; simp
        have eY' : (headL word ms.length :: ms) ++ [lastL s' (chk (body word ms))] = (X1 ++ [p ++ [d]]) ++ [q] := by rw [eY]; simp
        have i2 := (List.append_inj' eX' rfl).2
        have j2 := (List.append_inj' eY' rfl).2
        simp only [List.cons.injEq, and_true] at i2 j2
        obtain ⟨r, hr⟩ := lastL_head s (chk (body word ls))
        obtain ⟨r', hr'⟩ := lastL_head s' (chk (body word ms))
        rw [hr] at i2
        rw [hr', ← (List.cons.inj i2).2] at j2
        have := (List.cons.inj j2).1
        revert this
        decide
      · have eX' : (headL word ls.length :: ls) ++ [lastL s (chk (body word ls))] = (X1 ++ p :: (d :: q) :: X4) ++ [z] := by rw [eX]; simp
        have eY' : (headL word ms.length :: ms) ++ [lastL s' (chk (body word ms))] = (X1 ++ (p ++ [d]) :: q :: X4) ++ [z] := by rw [eY]; simp
        obtain ⟨i1, i2⟩ := List.append_inj' eX' rfl
        obtain ⟨j1, j2⟩ := List.append_inj' eY' rfl
        have hk := (lastL_inj _ _ _ _ (by simpa using i2.trans j2.symm)).2
        rw [body_seps, body_seps, i1, j1, seps_append, seps_append, seps_cons, seps_cons, seps_cons, seps_cons] at hk
        refine hd (chk_swap (seps 10 X1 ++ p) (q ++ 10 :: seps 10 X4) 10 d ?_).symm
        simpa using hk
/-- two neighbouring bytes exchanged -/
theorem file_swap (word : Bs) (hw : (10 : UInt8) ∉ word) (ls ms : List Bs) (s s' : Nat) (hl : ∀ l ∈ ls, (10 : UInt8) ∉ l) (hm : ∀ m ∈ ms, (10 : UInt8) ∉ m) (hsum : ls = ms → s = s') (a b : Bs) (c d : UInt8)
    (h1 : file word ls s = a ++ c :: d :: b) (h2 : file word ms s' = a ++ d :: c :: b) : c = d := by
  by_cases hc : c = 10
  · subst hc
    by_cases hd : d = 10
    · exact hd.symm
    · exact (file_swapN word hw ls ms s s' hl hm a b d hd h1 h2).elim
  by_cases hd : d = 10
  · subst hd
    exact (file_swapN word hw ms ls s' s hm hl a b c hc h2 h1).elim
  have hX := all_no word hw ls hl s (chk (body word ls))
  have hY := all_no word hw ms hm s' (chk (body word ms))
  rw [file_seps] at h1 h2
  obtain ⟨X1, p, q0, X2, eX, ea, eb⟩ := seps_at 10 c hc _ a (d :: b) h1
  cases q0 with
  | nil => simp at eb; exact absurd eb.1 hd
  | cons d' q =>
    simp only [List.cons_append, List.cons.injEq] at eb
    obtain ⟨rfl, eb⟩ := eb
    have hY2 : seps 10 (headL word ms.length :: ms ++ [lastL s' (chk (body word ms))]) = seps 10 (X1 ++ (p ++ d :: c :: q) :: X2) := by
      rw [h2, ea, eb, seps_append, seps_cons]; simp
    have eY := seps_inj 10 _ _ hY (by
      intro l hmem
      rw [eX] at hX
      rcases List.mem_append.1 hmem with h | h
      · exact hX l (List.mem_append_left _ h)
      · rcases List.mem_cons.1 h with rfl | h
        · have := hX (p ++ c :: d :: q) (List.mem_append_right _ List.mem_cons_self)
          rw [List.mem_append, List.mem_cons, List.mem_cons] at this ⊢
          rintro (h | h | h | h)
          · exact this (.inl h)
          · exact hd h.symm
          · exact hc h.symm
          · exact this (.inr (.inr (.inr h)))
        · exact hX l (List.mem_append_right _ (List.mem_cons_of_mem _ h))) hY2
    rcases List.eq_nil_or_concat X2 with rfl | ⟨X3, z, rfl⟩
    · obtain ⟨i1, i2⟩ := List.append_inj' eX rfl
      obtain ⟨j1, j2⟩ := List.append_inj' eY rfl
      rw [← i1] at j1
      simp only [List.cons.injEq] at j1 i2 j2
      have e := j1.2
      subst e
      rw [hsum rfl, j2.1] at i2
      have := List.append_cancel_left i2.1
      simp only [List.cons.injEq] at this
      exact this.1.symm
    · have eX' : (headL word ls.length :: ls) ++ [lastL s (chk (body word ls))] = (X1 ++ (p ++ c :: d :: q) :: X3) ++ [z] := by rw [eX]; simp
      have eY' : (headL word ms.length :: ms) ++ [lastL s' (chk (body word ms))] = (X1 ++ (p ++ d :: c :: q) :: X3) ++ [z] := by rw [eY]; simp
      obtain ⟨i1, i2⟩ := List.append_inj' eX' rfl
      obtain ⟨j1, j2⟩ := List.append_inj' eY' rfl
      have hk := (lastL_inj _ _ _ _ (by simpa using i2.trans j2.symm)).2
      rw [body_seps, body_seps, i1, j1, seps_append, seps_append, seps_cons, seps_cons] at hk
      refine chk_swap (seps 10 X1 ++ p) (q ++ 10 :: seps 10 X3) c d ?_
      simpa using hk
end BankS
