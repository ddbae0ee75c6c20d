/- Plain laws on damaged bank files. -/
import Derived.Test.YtibgibjmpcajkaaGreatDoorBankQ
namespace BankS
open Go

/-- a file's text: word, lines without line feeds, a sum -/
def IsFile (word : Bs) (t : Bs) : Prop := ∃ ls s, (∀ l ∈ ls, (10 : UInt8) ∉ l) ∧ t = file word ls s

theorem all_no (word : Bs) (hw : (10 : UInt8) ∉ word) (ls : List Bs) (hl : ∀ l ∈ ls, (10 : UInt8) ∉ l) (s k : Nat) : ∀ l ∈ headL word ls.length :: ls ++ [lastL s k], (10 : UInt8) ∉ l := by
  intro l hmem
  simp only [List.cons_append, List.mem_cons, List.mem_append, List.not_mem_nil, or_false] at hmem
  rcases hmem with rfl | hmem | rfl
  · exact head_no _ _ hw
  · exact hl l hmem
  · exact last_no _ _
theorem file_count (word : Bs) (hw : (10 : UInt8) ∉ word) (ls : List Bs) (hl : ∀ l ∈ ls, (10 : UInt8) ∉ l) (s : Nat) : (file word ls s).count 10 = ls.length + 2 := by
  rw [file_seps, seps_count 10 _ (all_no word hw ls hl _ _)]
  simp
/-- a file that continues a file is that file -/
theorem file_longer (word : Bs) (hw : (10 : UInt8) ∉ word) (ls ms : List Bs) (s s' : Nat) (hl : ∀ l ∈ ls, (10 : UInt8) ∉ l) (hm : ∀ m ∈ ms, (10 : UInt8) ∉ m) (r : Bs) (h : file word ls s ++ r = file word ms s') : r = [] := by
  rw [file_seps, file_seps] at h
  have hfirst : headL word ls.length = headL word ms.length := by
    rw [List.cons_append, List.cons_append, seps_cons, seps_cons, List.append_assoc, List.cons_append] at h
    exact (part_eq 10 _ _ _ _ (head_no _ _ hw) (head_no _ _ hw) h).1
  have hlen := headL_inj _ _ _ hfirst
  have := seps_eq 10 _ _ r [] (all_no word hw ls hl _ _) (all_no word hw ms hm _ _) (by simp [hlen]) (by rw [h, List.append_nil])
  exact this.2
/-- same body: same file -/
theorem file_body (word : Bs) (hw : (10 : UInt8) ∉ word) (ls ms : List Bs) (hl : ∀ l ∈ ls, (10 : UInt8) ∉ l) (hm : ∀ m ∈ ms, (10 : UInt8) ∉ m) (h : body word ls = body word ms) : ls = ms := by
  rw [body_seps, body_seps] at h
  have := seps_inj 10 _ _ ?_ ?_ h
  · simp only [List.cons.injEq] at this; exact this.2
  all_goals
    intro l hmem
    rcases List.mem_cons.1 hmem with rfl | hmem
    · exact head_no _ _ hw
    · first | exact hl l hmem | exact hm l hmem
end BankS
