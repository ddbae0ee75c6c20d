/- Plain laws of account numbers: damaged ones are none. -/
import Derived.Test.YtibgibjmpcajkaaGreatDoorBankDm
import Derived.Test.YtibgibjmpcajkaaGreatDoorBankPk
namespace BankS
open Go
/-- what damaged makes of a text, kind by kind -/
def DmK (y : Int) (F D : Bs) : Prop := D = F ∨ (y = 0 ∧ ∃ a b c d, F = a ++ c :: b ∧ D = a ++ d :: b) ∨ (y = 1 ∧ ∃ a b c d, F = a ++ c :: d :: b ∧ D = a ++ d :: c :: b) ∨ (y = 2 ∧ ∃ r, F = D ++ r) ∨ (y = 3 ∧ ∃ r, D = F ++ r)
theorem DmK.dmg {y : Int} {F D : Bs} (h : DmK y F D) : Dmg F D := by
  rcases h with rfl | ⟨_, h⟩ | ⟨_, h⟩ | ⟨_, h⟩ | ⟨_, h⟩
  · exact Or.inr (Or.inr (Or.inl ⟨[], by simp⟩))
  · exact Or.inl h
  · exact Or.inr (Or.inl h)
  · exact Or.inr (Or.inr (Or.inl h))
  · exact Or.inr (Or.inr (Or.inr h))
theorem split_at (F : Bs) (k : Nat) (h : k < F.length) : F = F.take k ++ F[k] :: F.drop (k + 1) := by
  rw [List.getElem_cons_drop, List.take_append_drop]
theorem split_at2 (F : Bs) (k : Nat) (h : k + 1 < F.length) : F = F.take k ++ F[k] :: F[k + 1] :: F.drop (k + 2) := by
  rw [show k + 2 = k + 1 + 1 from rfl, List.getElem_cons_drop, List.getElem_cons_drop, List.take_append_drop]
theorem one_at (F : Bs) (k : Nat) (h : k < F.length) : (F.drop k).take 1 = [F[k]] := by
  rw [← List.getElem_cons_drop h]; rfl
/-! account numbers -/
theorem val_lt (c : UInt8) : val c < 37 := by
  unfold val
  by_cases h : digB c = true
  · rw [if_pos h]; have := of_decide_eq_true h; omega
  · rw [if_neg h]
    by_cases h2 : lowB c = true
    · rw [if_pos h2]; have := of_decide_eq_true h2; omega
    · rw [if_neg h2]; omega
theorem val_inj (c d : UInt8) (hc : nameB c = true) (hd : nameB d = true) (h : val c = val d) : c = d := by
  have key : ∀ c : UInt8, nameB c = true → ((48 ≤ c.toNat ∧ c.toNat ≤ 57) ∧ val c = c.toNat - 48) ∨ ((97 ≤ c.toNat ∧ c.toNat ≤ 122) ∧ val c = c.toNat - 97 + 10) ∨ (c.toNat = 95 ∧ val c = 36) := by
    intro c h
    unfold val
    by_cases h1 : digB c = true
    · rw [if_pos h1]; exact Or.inl ⟨of_decide_eq_true h1, rfl⟩
    · rw [if_neg h1]
      by_cases h2 : lowB c = true
      · rw [if_pos h2]; exact Or.inr (Or.inl ⟨of_decide_eq_true h2, rfl⟩)
      · rw [if_neg h2]
        have : (c == 95) = true := by
          unfold nameB at h
          rw [Bool.not_eq_true] at h1 h2
          rw [h1, h2] at h
          exact h
        exact Or.inr (Or.inr ⟨by rw [eq_of_beq this]; rfl, rfl⟩)
  apply UInt8.toNat_inj.1
  have := key c hc
  have := key d hd
  omega
theorem accStep_inj (x y : Nat) (c : UInt8) (hx : x < 97) (hy : y < 97) (h : accStep x c = accStep y c) : x = y := by
  unfold accStep at h; omega
theorem accFold_inj (t : Bs) (x y : Nat) (hx : x < 97) (hy : y < 97) (h : t.foldl accStep x = t.foldl accStep y) : x = y := by
  induction t generalizing x y with
  | nil => exact h
  | cons c t ih => exact accStep_inj x y c hx hy (ih _ _ (accStep_lt x c) (accStep_lt y c) h)
theorem acc_byte (a b : Bs) (c d : UInt8) (hc : nameB c = true) (hd : nameB d = true) (h : acc (a ++ c :: b) = acc (a ++ d :: b)) : c = d := by
  unfold acc at h
  rw [List.foldl_append, List.foldl_append, List.foldl_cons, List.foldl_cons] at h
  have := accFold_inj b _ _ (accStep_lt _ _) (accStep_lt _ _) h
  have v1 := val_lt c
  have v2 := val_lt d
  unfold accStep at this
  exact val_inj c d hc hd (by omega)
theorem acc_swap (a b : Bs) (c d : UInt8) (hc : nameB c = true) (hd : nameB d = true) (h : acc (a ++ c :: d :: b) = acc (a ++ d :: c :: b)) : c = d := by
  unfold acc at h
  rw [List.foldl_append, List.foldl_append, List.foldl_cons, List.foldl_cons, List.foldl_cons, List.foldl_cons] at h
  have := accFold_inj b _ _ (accStep_lt _ _) (accStep_lt _ _) h
  have v1 := val_lt c
  have v2 := val_lt d
  unfold accStep at this
  exact val_inj c d hc hd (by omega)
theorem name_mem {t : Bs} (h : isName t = true) : ∀ c ∈ t, nameB c = true := by
  unfold isName at h
  cases t with
  | nil => cases h
  | cons c t =>
    simp only [Bool.and_eq_true] at h
    exact fun x hx => List.all_eq_true.1 h.2 x hx
theorem accB_of (n : Bs) (h : isName n = true) : accB (account n) = true := by
  have hb : befL 45 (account n) = n := bef_at 45 n _ (name_no 45 (by decide) n h)
  unfold accB
  rw [hb, h]; simp
theorem of_accB {D : Bs} (h : accB D = true) : ∃ n, isName n = true ∧ D = account n := by
  unfold accB at h
  rw [Bool.and_eq_true] at h
  exact ⟨_, h.1, (eq_of_beq h.2).symm⟩
theorem account_parts (n : Bs) : account n = n ++ 45 :: pad (acc n) 2 := rfl
/-- equal behind the names: equal numbers -/
theorem acc_tail {n m : Bs} {x : Bs} (hl : n.length = m.length) (p q : Bs) (h1 : account n = p ++ x) (h2 : account m = q ++ x) (hp : p.length ≤ n.length) (hq : p.length = q.length) : acc n = acc m := by
  have e1 : (account n).drop n.length = x.drop (n.length - p.length) := by rw [h1, List.drop_append, List.drop_eq_nil_of_le hp]; rfl
  have e2 : (account m).drop m.length = x.drop (m.length - q.length) := by rw [h2, List.drop_append, List.drop_eq_nil_of_le (by omega)]; rfl
  rw [account_parts, List.drop_left] at e1 e2
  rw [hl, hq, ← e2] at e1
  injection e1 with _ e1
  exact pad_inj _ _ _ e1
theorem acc_len (n : Bs) : (account n).length = n.length + 3 := by
  rw [account_parts, List.length_append, List.length_cons, pad2 _ (by have := acc_lt n; omega)]; rfl
theorem take_name (n a x : Bs) (h : account n = a ++ x) (hl : n.length ≤ a.length) : a.take n.length = n := by
  have := congrArg (List.take n.length) h
  rw [account_parts, List.take_left, List.take_append_of_le_length hl] at this
  exact this.symm
theorem account_dm {y : Int} {n D : Bs} (hy : y = 0 ∨ y = 1) (hn : isName n = true) (h : DmK y (account n) D) (hD : accB D = true) : D = account n := by
  obtain ⟨m, hm, rfl⟩ := of_accB hD
  rcases h with h | ⟨_, a, b, c, d, h1, h2⟩ | ⟨_, a, b, c, d, h1, h2⟩ | ⟨h, _⟩ | ⟨h, _⟩
  · exact h
  · have hl : n.length = m.length := by
      have e1 := congrArg List.length h1
      have e2 := congrArg List.length h2
      rw [acc_len] at e1 e2
      simp only [List.length_append, List.length_cons] at e1 e2
      omega
    by_cases ha : n.length ≤ a.length
    · have e1 := take_name n a _ h1 ha
      have e2 := take_name m a _ h2 (by omega)
      rw [← hl, e1] at e2
      rw [e2]
    · have ht := acc_tail hl (a ++ [c]) (a ++ [d]) (x := b) (by rw [h1]; simp) (by rw [h2]; simp) (by simp; omega) (by simp)
      have g1 : n = a ++ c :: b.take (n.length - a.length - 1) := by
        have := congrArg (List.take n.length) h1
        rw [account_parts, List.take_left, List.take_append, List.take_of_length_le (by omega), show n.length - a.length = (n.length - a.length - 1) + 1 from by omega, List.take_succ_cons] at this
        exact this
      have g2 : m = a ++ d :: b.take (n.length - a.length - 1) := by
        have := congrArg (List.take m.length) h2
        rw [account_parts, List.take_left, List.take_append, List.take_of_length_le (by omega), ← hl, show n.length - a.length = (n.length - a.length - 1) + 1 from by omega, List.take_succ_cons] at this
        exact this
      have hc : nameB c = true := name_mem hn c (by rw [g1]; simp)
      have hd : nameB d = true := name_mem hm d (by rw [g2]; simp)
      have := acc_byte a (b.take (n.length - a.length - 1)) c d hc hd (by rw [← g1, ← g2]; exact ht)
      rw [h1, h2, this]
  · have hl : n.length = m.length := by
      have e1 := congrArg List.length h1
      have e2 := congrArg List.length h2
      rw [acc_len] at e1 e2
      simp only [List.length_append, List.length_cons] at e1 e2
      omega
    by_cases ha : n.length ≤ a.length
    · have e1 := take_name n a _ h1 ha
      have e2 := take_name m a _ h2 (by omega)
      rw [← hl, e1] at e2
      rw [e2]
    · by_cases hb : n.length = a.length + 1
      · have e1 := congrArg (fun l : Bs => l[n.length]?) h1
        have e2 := congrArg (fun l : Bs => l[n.length]?) h2
        simp only [account_parts] at e1
        rw [show (account m)[n.length]? = some 45 from by rw [hl, account_parts]; simp] at e2
        rw [show (n ++ 45 :: pad (acc n) 2)[n.length]? = some 45 from by simp] at e1
        rw [show (a ++ c :: d :: b)[n.length]? = some d from by rw [hb, List.getElem?_append_right (by omega)]; simp] at e1
        rw [show (a ++ d :: c :: b)[n.length]? = some c from by rw [hb, List.getElem?_append_right (by omega)]; simp] at e2
        injection e1 with e1
        injection e2 with e2
        rw [h1, h2, ← e1, ← e2]
      · have ht := acc_tail hl (a ++ [c, d]) (a ++ [d, c]) (x := b) (by rw [h1]; simp) (by rw [h2]; simp) (by simp; omega) (by simp)
        have g1 : n = a ++ c :: d :: b.take (n.length - a.length - 2) := by
          have := congrArg (List.take n.length) h1
          rw [account_parts, List.take_left, List.take_append, List.take_of_length_le (by omega), show n.length - a.length = (n.length - a.length - 2) + 1 + 1 from by omega, List.take_succ_cons, List.take_succ_cons] at this
          exact this
        have g2 : m = a ++ d :: c :: b.take (n.length - a.length - 2) := by
          have := congrArg (List.take m.length) h2
          rw [account_parts, List.take_left, List.take_append, List.take_of_length_le (by omega), ← hl, show n.length - a.length = (n.length - a.length - 2) + 1 + 1 from by omega, List.take_succ_cons, List.take_succ_cons] at this
          exact this
        have hc : nameB c = true := name_mem hn c (by rw [g1]; simp)
        have hd : nameB d = true := name_mem hn d (by rw [g1]; simp)
        have := acc_swap a (b.take (n.length - a.length - 2)) c d hc hd (by rw [← g1, ← g2]; exact ht)
        rw [h1, h2, this]
  · omega
  · omega
/-- the six names -/
theorem nm_fits : (List.range 6).all (fun j => (List.range 100).all (fun i => accB (nmL (j : Int) ++ [45, UInt8.ofNat (48 + i / 10), UInt8.ofNat (48 + i % 10)]) == decide (i = acc (nmL (j : Int))))) = true := by decide +kernel
theorem nm_name : (List.range 6).all (fun j => isName (nmL (j : Int))) = true := by decide +kernel
theorem nm_write : (List.range 6).all (fun j => (writeP [(0, nmL (j : Int), 1, 0)]).2 == 0 && (((writeP [(0, nmL (j : Int), 1, 0)]).1.drop 13).take ((nmL (j : Int)).length + 3) == account (nmL (j : Int)))) = true := by decide +kernel
theorem fits_at (z : Int) (h0 : 0 ≤ z) (h1 : z < 6) (i : Nat) (hi : i < 100) : accB (nmL z ++ [45, UInt8.ofNat (48 + i / 10), UInt8.ofNat (48 + i % 10)]) = decide (i = acc (nmL z)) := by
  obtain ⟨j, rfl⟩ := Int.eq_ofNat_of_zero_le h0
  have := List.all_eq_true.1 nm_fits j (List.mem_range.2 (by omega))
  exact eq_of_beq (List.all_eq_true.1 this i (List.mem_range.2 hi))
theorem name_at (z : Int) (h0 : 0 ≤ z) (h1 : z < 6) : isName (nmL z) = true := by
  obtain ⟨j, rfl⟩ := Int.eq_ofNat_of_zero_le h0
  exact List.all_eq_true.1 nm_name j (List.mem_range.2 (by omega))
theorem write_at (z : Int) (h0 : 0 ≤ z) (h1 : z < 6) : (writeP [(0, nmL z, 1, 0)]).2 = 0 ∧ ((writeP [(0, nmL z, 1, 0)]).1.drop 13).take ((nmL z).length + 3) = account (nmL z) := by
  obtain ⟨j, rfl⟩ := Int.eq_ofNat_of_zero_le h0
  have := List.all_eq_true.1 nm_write j (List.mem_range.2 (by omega))
  rw [Bool.and_eq_true] at this
  exact ⟨eq_of_beq this.1, eq_of_beq this.2⟩
end BankS
