/- Plain laws: a damaged file is no file, of either kind. -/
import Derived.Test.YtibgibjmpcajkaaGreatDoorBankPl
import Derived.Test.YtibgibjmpcajkaaGreatDoorBankSw
namespace BankS
open Go

/-- one byte replaced, two neighbours exchanged, the end cut off, something added -/
def Dmg (F D : Bs) : Prop := (∃ a b c d, F = a ++ c :: b ∧ D = a ++ d :: b) ∨ (∃ a b c d, F = a ++ c :: d :: b ∧ D = a ++ d :: c :: b) ∨ (∃ r, F = D ++ r) ∨ (∃ r, D = F ++ r)
theorem dmg_file (word : Bs) (hw : (10 : UInt8) ∉ word) (ls ms : List Bs) (s s' : Nat) (hl : ∀ l ∈ ls, (10 : UInt8) ∉ l) (hm : ∀ m ∈ ms, (10 : UInt8) ∉ m) (hsum : ls = ms → s = s') (h : Dmg (file word ls s) (file word ms s')) : file word ms s' = file word ls s := by
  rcases h with ⟨a, b, c, d, h1, h2⟩ | ⟨a, b, c, d, h1, h2⟩ | ⟨r, h1⟩ | ⟨r, h1⟩
  · have e : c = d := by
      by_cases hc : c = 10
      · subst hc
        by_cases hd : d = 10
        · exact hd.symm
        · exact (file_lost word hw ls ms s s' hl hm a b d hd h1 h2).elim
      · by_cases hd : d = 10
        · subst hd
          exact (file_lost word hw ms ls s' s hm hl a b c hc h2 h1).elim
        · exact file_sub word hw ls ms s s' hl hm hsum a b c d hc hd h1 h2
    rw [h1, h2, e]
  · have e := file_swap word hw ls ms s s' hl hm hsum a b c d h1 h2
    rw [h1, h2, e]
  · have e := file_longer word hw ms ls s' s hm hl r h1.symm
    rw [e, List.append_nil] at h1
    exact h1.symm
  · have e := file_longer word hw ls ms s s' hl hm r h1.symm
    rw [e, List.append_nil] at h1
    exact h1
theorem file_front (word : Bs) (ls : List Bs) (s : Nat) : ∃ r, file word ls s = word ++ r := by
  unfold file body
  exact ⟨32 :: Lib.decDigits ls.length ++ [10] ++ (if ls = [] then [] else Lib.join ls [10] ++ [10]) ++ last s (chk (word ++ 32 :: Lib.decDigits ls.length ++ [10] ++ (if ls = [] then [] else Lib.join ls [10] ++ [10]))), by simp⟩
theorem dmg_front (x y z x' y' z' : UInt8) (r r' : Bs) (hx : x ≠ x') (hy : y ≠ y') (hz : z ≠ z') (h : Dmg (x :: y :: z :: r) (x' :: y' :: z' :: r')) : False := by
  rcases h with ⟨a, b, c, d, h1, h2⟩ | ⟨a, b, c, d, h1, h2⟩ | ⟨r, h1⟩ | ⟨r, h1⟩
  · cases a with
    | nil =>
      simp only [List.nil_append, List.cons.injEq] at h1 h2
      obtain ⟨_, e1⟩ := h1
      obtain ⟨_, e2⟩ := h2
      rw [← e1] at e2
      exact hy (List.cons.inj e2).1.symm
    | cons u a =>
      simp only [List.cons_append, List.cons.injEq] at h1 h2
      exact hx (h1.1.trans h2.1.symm)
  · cases a with
    | nil =>
      simp only [List.nil_append, List.cons.injEq] at h1 h2
      obtain ⟨_, _, e1⟩ := h1
      obtain ⟨_, _, e2⟩ := h2
      rw [← e1] at e2
      exact hz (List.cons.inj e2).1.symm
    | cons u a =>
      simp only [List.cons_append, List.cons.injEq] at h1 h2
      exact hx (h1.1.trans h2.1.symm)
  · simp only [List.cons_append, List.cons.injEq] at h1
    exact hx h1.1
  · simp only [List.cons_append, List.cons.injEq] at h1
    exact hx h1.1.symm
theorem lines_of {l : List Pay} (h : l.all payOk = true) : ∀ x ∈ l.map payLine, (10 : UInt8) ∉ x := fun x hx => by
  obtain ⟨p, hp, rfl⟩ := List.mem_map.1 hx
  exact pay_no p (List.all_eq_true.1 h p hp)
theorem linesA_of (l : List Ans) : ∀ x ∈ l.map ansLine, (10 : UInt8) ∉ x := fun x hx => by
  obtain ⟨p, hp, rfl⟩ := List.mem_map.1 hx
  exact ans_no p
/-- a line tells the payment's sum -/
theorem dmg_PP {F D : Bs} (hF : ∃ l, writeP l = (F, 0)) (h : Dmg F D) (m : List Pay) (hm : readP D = some m) : D = F := by
  obtain ⟨l, hl⟩ := hF
  obtain ⟨a1, a2, _, a4⟩ := writeP_ok hl
  have hm' := (readP_iff _ _).1 hm
  obtain ⟨b1, b2, _, b4⟩ := writeP_ok hm'
  rw [a4, b4] at h ⊢
  refine dmg_file payW (by decide) _ _ _ _ (lines_of a2) (lines_of b2) (fun e => ?_) h
  have e2 : l = m := by
    have p1 := file_read payW (by decide) (by decide) payP payLine payOk (fun a ha r => pay_read a ha r) l a2 a1 0
    have p2 := file_read payW (by decide) (by decide) payP payLine payOk (fun a ha r => pay_read a ha r) m b2 b1 0
    rw [e, p2] at p1
    injection p1 with p1
    exact p1.symm
  rw [e2]
theorem dmg_AA {F D : Bs} (hF : ∃ l, writeA l = (F, 0)) (h : Dmg F D) (m : List Ans) (hm : readA D = some m) : D = F := by
  obtain ⟨l, hl⟩ := hF
  obtain ⟨a1, a2, _, a4⟩ := writeA_ok hl
  have hm' := (readA_iff _ _).1 hm
  obtain ⟨b1, b2, _, b4⟩ := writeA_ok hm'
  rw [a4, b4] at h ⊢
  refine dmg_file ansW (by decide) _ _ _ _ (linesA_of l) (linesA_of m) (fun e => ?_) h
  have e2 : l = m := by
    have p1 := file_read ansW (by decide) (by decide) ansP ansLine ansOk (fun a ha r => ans_read a ha r) l a2 a1 0
    have p2 := file_read ansW (by decide) (by decide) ansP ansLine ansOk (fun a ha r => ans_read a ha r) m b2 b1 0
    rw [e, p2] at p1
    injection p1 with p1
    exact p1.symm
  rw [e2]
theorem dmg_PA {F D : Bs} (hF : ∃ l, writeP l = (F, 0)) (h : Dmg F D) : readA D = none := by
  cases hr : readA D with
  | none => rfl
  | some m =>
    obtain ⟨l, hl⟩ := hF
    obtain ⟨_, _, _, a4⟩ := writeP_ok hl
    obtain ⟨_, _, _, b4⟩ := writeA_ok ((readA_iff _ _).1 hr)
    obtain ⟨r, hr1⟩ := file_front payW (l.map payLine) ((l.map (fun p : Pay => p.2.2.1)).sum).toNat
    obtain ⟨r', hr2⟩ := file_front ansW (m.map ansLine) ((m.map (fun a : Ans => a.2.2.2.1)).sum).toNat
    rw [a4, b4, hr1, hr2] at h
    exact (dmg_front 112 97 121 97 110 115 _ _ (by decide) (by decide) (by decide) h).elim
theorem dmg_AP {F D : Bs} (hF : ∃ l, writeA l = (F, 0)) (h : Dmg F D) : readP D = none := by
  cases hr : readP D with
  | none => rfl
  | some m =>
    obtain ⟨l, hl⟩ := hF
    obtain ⟨_, _, _, a4⟩ := writeA_ok hl
    obtain ⟨_, _, _, b4⟩ := writeP_ok ((readP_iff _ _).1 hr)
    obtain ⟨r, hr1⟩ := file_front ansW (l.map ansLine) ((l.map (fun a : Ans => a.2.2.2.1)).sum).toNat
    obtain ⟨r', hr2⟩ := file_front payW (m.map payLine) ((m.map (fun p : Pay => p.2.2.1)).sum).toNat
    rw [a4, b4, hr1, hr2] at h
    exact (dmg_front 97 110 115 112 97 121 _ _ (by decide) (by decide) (by decide) h).elim
end BankS
