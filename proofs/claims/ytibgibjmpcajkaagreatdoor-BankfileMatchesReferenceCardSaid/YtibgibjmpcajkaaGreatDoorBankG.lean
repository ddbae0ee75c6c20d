/- Plain laws on bank files with a line feed made or lost. -/
import Derived.Test.YtibgibjmpcajkaaGreatDoorBankE
namespace BankS
open Go

/-- a line feed replaced by another byte -/
theorem file_lost (word : Bs) (hw : (10 : UInt8) ∉ word) (ls ms : List Bs) (s s' : Nat) (hl : ∀ l ∈ ls, (10 : UInt8) ∉ l) (hm : ∀ m ∈ ms, (10 : UInt8) ∉ m) (a b : Bs) (d : UInt8) (hd : d ≠ 10)
    (h1 : file word ls s = a ++ 10 :: b) (h2 : file word ms s' = a ++ d :: b) : False := by
  have hcnt : ls.length = ms.length + 1 := by
    have c1 := file_count word hw ls hl s
    have c2 := file_count word hw ms hm s'
    rw [h1, List.count_append, List.count_cons_self] at c1
    rw [h2, List.count_append, List.count_cons_of_ne hd] at c2
    omega
  have hX := all_no word hw ls hl s (chk (body word ls))
  have hY := all_no word hw ms hm s' (chk (body word ms))
  rw [file_seps] at h1 h2
  obtain ⟨X1, p, X2, eX, ea, eb⟩ := seps_end 10 _ hX a b h1
  cases X2 with
  | nil =>
    obtain ⟨Y1, p', q', Y2, _, _, e⟩ := seps_at 10 d hd _ a b h2
    rw [eb] at e
    simp [seps] at e
  | cons q X3 =>
    have hY2 : seps 10 (headL word ms.length :: ms ++ [lastL s' (chk (body word ms))]) = seps 10 (X1 ++ (p ++ d :: q) :: X3) := by
      rw [h2, ea, eb, seps_append, seps_cons, seps_cons]; simp
    have eY := seps_inj 10 _ _ hY (by
      intro l hmem
      rw [eX] at hX
      rcases List.mem_append.1 hmem with h | h
      · exact hX l (List.mem_append_left _ h)
      · rcases List.mem_cons.1 h with rfl | h
        · have i1 := hX p (List.mem_append_right _ List.mem_cons_self)
          have i2 := hX q (List.mem_append_right _ (List.mem_cons_of_mem _ List.mem_cons_self))
          rw [List.mem_append, List.mem_cons]
          rintro (h | h | h)
          · exact i1 h
          · exact hd h.symm
          · exact i2 h
        · exact hX l (List.mem_append_right _ (List.mem_cons_of_mem _ (List.mem_cons_of_mem _ h)))) hY2
    cases X1 with
    | cons x X1 =>
      simp only [List.cons_append, List.cons.injEq] at eX eY
      have := headL_inj word _ _ (eX.1.trans eY.1.symm)
      omega
    | nil =>
      simp only [List.cons_append, List.nil_append, List.cons.injEq] at eX eY
      have e := eY.1
      rw [← eX.1] at e
      unfold headL at e
      rw [List.append_assoc, List.cons_append] at e
      have e2 := List.append_cancel_left e
      simp only [List.cons.injEq, true_and] at e2
      have e3 := congrArg (numF 0) e2
      rw [numF_dec, numF_append, numF_dec] at e3
      have := numF_ge ls.length (d :: q)
      omega
end BankS
