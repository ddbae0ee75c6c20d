/- What was written is read: the plain law. -/
import Derived.Test.YtibgibjmpcajkaaGreatDoorBankR
import Derived.Test.YtibgibjmpcajkaaGreatDoorBankG
namespace BankS
open Go

theorem dig_of (k : Nat) (h : k < 10) : (UInt8.ofNat (48 + k)).toNat = 48 + k := by rw [UInt8.toNat_ofNat']; omega
theorem pad2_all : (List.range 100).all (fun m => pad m 2 == [UInt8.ofNat (48 + m / 10), UInt8.ofNat (48 + m % 10)]) = true := by decide +kernel
theorem pad2 (m : Nat) (h : m < 100) : pad m 2 = [UInt8.ofNat (48 + m / 10), UInt8.ofNat (48 + m % 10)] := eq_of_beq (List.all_eq_true.1 pad2_all m (List.mem_range.2 h))
theorem year_all : (List.range 100).all (fun m => Lib.decDigits (2000 + m) == [50, 48, UInt8.ofNat (48 + m / 10), UInt8.ofNat (48 + m % 10)]) = true := by decide +kernel
theorem year4 (m : Nat) (h : m < 100) : Lib.decDigits (2000 + m) = [50, 48, UInt8.ofNat (48 + m / 10), UInt8.ofNat (48 + m % 10)] := eq_of_beq (List.all_eq_true.1 year_all m (List.mem_range.2 h))
/-- the ten bytes of a date -/
theorem dayText_eq (n : Nat) (h : n < 36525) : dayText n = [50, 48, UInt8.ofNat (48 + monthOf n / 12 / 10), UInt8.ofNat (48 + monthOf n / 12 % 10), 45, UInt8.ofNat (48 + (monthOf n % 12 + 1) / 10), UInt8.ofNat (48 + (monthOf n % 12 + 1) % 10), 45, UInt8.ofNat (48 + (n - firstM (monthOf n) + 1) / 10), UInt8.ofNat (48 + (n - firstM (monthOf n) + 1) % 10)] := by
  have hm := month_ok n h
  have hl := lenM_le (monthOf n)
  have h2 : firstM (monthOf n + 1) = firstM (monthOf n) + lenM (monthOf n) := rfl
  unfold dayText two
  rw [year4 _ (by omega), pad2 _ (by omega), pad2 _ (by omega)]
  rfl
theorem digB_of (k : Nat) (h : k < 10) : digB (UInt8.ofNat (48 + k)) = true := by
  unfold digB; rw [dig_of k h]; simp; omega
theorem dv_of (k : Nat) (h : k < 10) : dv (UInt8.ofNat (48 + k)) = k := by
  unfold dv; rw [dig_of k h]; omega
theorem day_text (n : Nat) (h : n < 36525) : dayE (dayText n) = (n, 0) := by
  have hm := month_ok n h
  have hl := lenM_le (monthOf n)
  have h2 : firstM (monthOf n + 1) = firstM (monthOf n) + lenM (monthOf n) := rfl
  rw [dayText_eq n h]
  generalize hM : monthOf n = m at *
  generalize hF : firstM m = f at *
  unfold dayE
  have e1 : dateForm [50, 48, UInt8.ofNat (48 + m / 12 / 10), UInt8.ofNat (48 + m / 12 % 10), 45, UInt8.ofNat (48 + (m % 12 + 1) / 10), UInt8.ofNat (48 + (m % 12 + 1) % 10), 45, UInt8.ofNat (48 + (n - f + 1) / 10), UInt8.ofNat (48 + (n - f + 1) % 10)] = true := by
    simp only [dateForm, List.getD_cons_zero, List.getD_cons_succ, List.length_cons, List.length_nil, digB_of _ (show m / 12 / 10 < 10 by omega), digB_of _ (show m / 12 % 10 < 10 by omega), digB_of _ (show (m % 12 + 1) / 10 < 10 by omega), digB_of _ (show (m % 12 + 1) % 10 < 10 by omega), digB_of _ (show (n - f + 1) / 10 < 10 by omega), digB_of _ (show (n - f + 1) % 10 < 10 by omega)]
    decide
  rw [if_pos e1]
  have e2 : dateY [50, 48, UInt8.ofNat (48 + m / 12 / 10), UInt8.ofNat (48 + m / 12 % 10), 45, UInt8.ofNat (48 + (m % 12 + 1) / 10), UInt8.ofNat (48 + (m % 12 + 1) % 10), 45, UInt8.ofNat (48 + (n - f + 1) / 10), UInt8.ofNat (48 + (n - f + 1) % 10)] = 2000 + m / 12 := by
    simp only [dateY, List.getD_cons_zero, List.getD_cons_succ, dv_of _ (show m / 12 / 10 < 10 by omega), dv_of _ (show m / 12 % 10 < 10 by omega), show dv 50 = 2 from rfl, show dv 48 = 0 from rfl]
    omega
  have e3 : dateM [50, 48, UInt8.ofNat (48 + m / 12 / 10), UInt8.ofNat (48 + m / 12 % 10), 45, UInt8.ofNat (48 + (m % 12 + 1) / 10), UInt8.ofNat (48 + (m % 12 + 1) % 10), 45, UInt8.ofNat (48 + (n - f + 1) / 10), UInt8.ofNat (48 + (n - f + 1) % 10)] = m % 12 + 1 := by
    simp only [dateM, List.getD_cons_zero, List.getD_cons_succ, dv_of _ (show (m % 12 + 1) / 10 < 10 by omega), dv_of _ (show (m % 12 + 1) % 10 < 10 by omega)]
    omega
  have e4 : dateD [50, 48, UInt8.ofNat (48 + m / 12 / 10), UInt8.ofNat (48 + m / 12 % 10), 45, UInt8.ofNat (48 + (m % 12 + 1) / 10), UInt8.ofNat (48 + (m % 12 + 1) % 10), 45, UInt8.ofNat (48 + (n - f + 1) / 10), UInt8.ofNat (48 + (n - f + 1) % 10)] = n - f + 1 := by
    simp only [dateD, List.getD_cons_zero, List.getD_cons_succ, dv_of _ (show (n - f + 1) / 10 < 10 by omega), dv_of _ (show (n - f + 1) % 10 < 10 by omega)]
    omega
  rw [e2, e3, e4]
  have e5 : (2000 + m / 12 - 2000) * 12 + (m % 12 + 1 - 1) = m := by omega
  unfold dayOf
  rw [e5, hF, if_pos ⟨by omega, by omega, by omega, by omega, by omega, by omega⟩]
  have : f + (n - f + 1 - 1) = n := by omega
  rw [this]
theorem day_read (n : Int) (h : dayOk n = true) : dayP (dayText n.toNat) = some n := by
  have h := of_decide_eq_true h
  unfold dayP
  rw [day_text _ (by omega)]
  simp
  omega

theorem name_no (x : UInt8) (hx : nameB x = false) (t : Bs) (h : isName t = true) : x ∉ t := by
  intro hm
  unfold isName at h
  cases t with
  | nil => cases hm
  | cons c t =>
    simp only [Bool.and_eq_true] at h
    have := List.all_eq_true.1 h.2 x hm
    rw [hx] at this
    cases this
theorem account_no (x : UInt8) (hx : nameB x = false) (h45 : x ≠ 45) (hd : x.toNat < 48 ∨ 57 < x.toNat) (t : Bs) (h : isName t = true) : x ∉ account t := by
  unfold account
  rw [List.mem_append, List.mem_cons]
  rintro (hm | hm | hm)
  · exact name_no x hx t h hm
  · exact h45 hm
  · exact dig_not x hd _ (pad_digits _ _) hm
theorem name_read (t : Bs) (h : isName t = true) : nameP (account t) = some t := by
  have hb : befL 45 (account t) = t := bef_at 45 t _ (name_no 45 (by decide) t h)
  unfold nameP accB
  rw [hb, h]
  simp
theorem day_no (x : UInt8) (h45 : x ≠ 45) (hd : x.toNat < 48 ∨ 57 < x.toNat) (n : Nat) : x ∉ dayText n := by
  unfold dayText two
  rw [List.append_assoc, List.mem_append, List.cons_append, List.mem_cons, List.mem_append, List.mem_cons]
  rintro (hm | hm | hm | hm | hm)
  · exact dig_not x hd _ (dec_digits _) hm
  · exact h45 hm
  · exact dig_not x hd _ (pad_digits _ _) hm
  · exact h45 hm
  · exact dig_not x hd _ (pad_digits _ _) hm
theorem kind_no (x : UInt8) (hx : nameB x = false) (k : Int) : x ∉ kindT k := by
  unfold kindT
  intro h
  have : ∀ t : Bs, t.all nameB = true → x ∉ t := fun t ht hm => by
    have := List.all_eq_true.1 ht x hm
    rw [hx] at this; cases this
  revert h
  repeat' split
  all_goals exact this _ (by decide)
theorem kind_read (k : Int) (h : k = 1 ∨ k = 2 ∨ k = 3 ∨ k = 4) : kindP (kindT k) = some k := by
  rcases h with rfl | rfl | rfl | rfl <;> decide

theorem payOk_parts {p : Pay} (h : payOk p = true) : (0 ≤ p.1 ∧ p.1 ≤ 999999999) ∧ isName p.2.1 = true ∧ (1 ≤ p.2.2.1 ∧ p.2.2.1 ≤ 1000000000000) ∧ dayOk p.2.2.2 = true := by
  unfold payOk at h
  simp only [Bool.and_eq_true] at h
  exact ⟨of_decide_eq_true h.1.1.1, h.1.1.2, of_decide_eq_true h.1.2, h.2⟩
theorem ansOk_parts {a : Ans} (h : ansOk a = true) : (0 ≤ a.1 ∧ a.1 ≤ 999999999) ∧ (0 ≤ a.2.1 ∧ a.2.1 ≤ 999999999) ∧ (a.2.2.1 = 1 ∨ a.2.2.1 = 2 ∨ a.2.2.1 = 3 ∨ a.2.2.1 = 4) ∧ (0 ≤ a.2.2.2.1 ∧ a.2.2.2.1 ≤ 1000000000000) ∧ dayOk a.2.2.2.2 = true := by
  unfold ansOk at h
  simp only [Bool.and_eq_true] at h
  obtain ⟨⟨⟨h1, h2⟩, h3⟩, h4⟩ := h
  refine ⟨of_decide_eq_true h1, of_decide_eq_true h2, ?_, ?_, h3⟩
  · split at h4
    · omega
    · have := of_decide_eq_true h4; omega
  · split at h4
    · have := of_decide_eq_true h4; omega
    · have := of_decide_eq_true h4; omega
theorem num_read (n : Int) (h0 : 0 ≤ n) (h1 : n ≤ 1000000000000) : numP (Lib.decDigits n.toNat) = some n := by
  rw [num_dec _ (by omega)]
  simp; omega
theorem line_read (n : Nat) (a b : Bs) (ws : List Bs) (hn : (10 : UInt8) ∉ a) (hw : splitL 32 a = ws) (hl : ws.length = n) : lineP n (a ++ 10 :: b) = some (ws, b) := by
  unfold lineP
  rw [cutL_at 10 a b hn]
  simp only []
  rw [hw, if_pos hl]
def payWords (p : Pay) : List Bs := [Lib.decDigits p.1.toNat, account p.2.1, Lib.decDigits p.2.2.1.toNat, dayText p.2.2.2.toNat]
def ansWords (a : Ans) : List Bs := [Lib.decDigits a.1.toNat, Lib.decDigits a.2.1.toNat, kindT a.2.2.1, Lib.decDigits a.2.2.2.1.toNat, dayText a.2.2.2.2.toNat]
theorem dec_no (x : UInt8) (hx : x.toNat < 48 ∨ 57 < x.toNat) (n : Nat) : x ∉ Lib.decDigits n := dig_not x hx _ (dec_digits n)
theorem pay_split (p : Pay) (h : payOk p = true) : splitL 32 (payLine p) = payWords p := by
  obtain ⟨_, h2, _, _⟩ := payOk_parts h
  unfold payLine payWords
  rw [show Lib.decDigits p.1.toNat ++ 32 :: account p.2.1 ++ 32 :: Lib.decDigits p.2.2.1.toNat ++ 32 :: dayText p.2.2.2.toNat = Lib.decDigits p.1.toNat ++ 32 :: (account p.2.1 ++ 32 :: (Lib.decDigits p.2.2.1.toNat ++ 32 :: dayText p.2.2.2.toNat)) from by simp,
    splitL_at 32 _ _ (dec_no 32 (by decide) _), splitL_at 32 _ _ (account_no 32 (by decide) (by decide) (by decide) _ h2), splitL_at 32 _ _ (dec_no 32 (by decide) _), splitL_no 32 _ (day_no 32 (by decide) (by decide) _)]
theorem pay_no (p : Pay) (h : payOk p = true) : (10 : UInt8) ∉ payLine p := by
  obtain ⟨_, h2, _, _⟩ := payOk_parts h
  unfold payLine
  simp only [List.mem_append, List.mem_cons]
  rintro (((hm | hm | hm) | hm | hm) | hm | hm)
  · exact dec_no 10 (by decide) _ hm
  · revert hm; decide
  · exact account_no 10 (by decide) (by decide) (by decide) _ h2 hm
  · revert hm; decide
  · exact dec_no 10 (by decide) _ hm
  · revert hm; decide
  · exact day_no 10 (by decide) (by decide) _ hm
theorem ans_split (a : Ans) : splitL 32 (ansLine a) = ansWords a := by
  unfold ansLine ansWords
  rw [show Lib.decDigits a.1.toNat ++ 32 :: Lib.decDigits a.2.1.toNat ++ 32 :: kindT a.2.2.1 ++ 32 :: Lib.decDigits a.2.2.2.1.toNat ++ 32 :: dayText a.2.2.2.2.toNat = Lib.decDigits a.1.toNat ++ 32 :: (Lib.decDigits a.2.1.toNat ++ 32 :: (kindT a.2.2.1 ++ 32 :: (Lib.decDigits a.2.2.2.1.toNat ++ 32 :: dayText a.2.2.2.2.toNat))) from by simp,
    splitL_at 32 _ _ (dec_no 32 (by decide) _), splitL_at 32 _ _ (dec_no 32 (by decide) _), splitL_at 32 _ _ (kind_no 32 (by decide) _), splitL_at 32 _ _ (dec_no 32 (by decide) _), splitL_no 32 _ (day_no 32 (by decide) (by decide) _)]
theorem ans_no (a : Ans) : (10 : UInt8) ∉ ansLine a := by
  unfold ansLine
  simp only [List.mem_append, List.mem_cons]
  rintro ((((hm | hm | hm) | hm | hm) | hm | hm) | hm | hm)
  · exact dec_no 10 (by decide) _ hm
  · revert hm; decide
  · exact dec_no 10 (by decide) _ hm
  · revert hm; decide
  · exact kind_no 10 (by decide) _ hm
  · revert hm; decide
  · exact dec_no 10 (by decide) _ hm
  · revert hm; decide
  · exact day_no 10 (by decide) (by decide) _ hm
theorem pay_read (p : Pay) (h : payOk p = true) (r : Bs) : payP (payLine p ++ 10 :: r) = some (p, r) := by
  obtain ⟨h1, h2, h3, h4⟩ := payOk_parts h
  unfold payP
  rw [line_read 4 _ r _ (pay_no p h) (pay_split p h) rfl]
  simp only [Option.bind_some, payWords, List.getD_cons_zero, List.getD_cons_succ]
  rw [num_read _ h1.1 (by omega), name_read _ h2, num_read _ (by omega) h3.2, day_read _ h4]
  rfl
theorem ans_read (a : Ans) (h : ansOk a = true) (r : Bs) : ansP (ansLine a ++ 10 :: r) = some (a, r) := by
  obtain ⟨h1, h2, h3, h4, h5⟩ := ansOk_parts h
  unfold ansP
  rw [line_read 5 _ r _ (ans_no a) (ans_split a) rfl]
  simp only [Option.bind_some, ansWords, List.getD_cons_zero, List.getD_cons_succ]
  rw [num_read _ h1.1 (by omega), num_read _ h2.1 (by omega), kind_read _ h3, num_read _ h4.1 h4.2, day_read _ h5]
  rfl
theorem many_read {α : Type} (f : Bs → Option (α × Bs)) (g : α → Bs) (ok : α → Bool) (hf : ∀ a, ok a = true → ∀ r, f (g a ++ 10 :: r) = some (a, r)) (l : List α) (hl : l.all ok = true) (r : Bs) : manyP f l.length (seps 10 (l.map g) ++ r) = some (l, r) := by
  induction l with
  | nil => rfl
  | cons a l ih =>
    rw [List.all_cons, Bool.and_eq_true] at hl
    rw [List.map_cons, seps_cons, List.length_cons, manyP, List.append_assoc, List.cons_append, hf a hl.1]
    simp only [Option.bind_some]
    rw [ih hl.2]
    rfl
theorem file_read {α : Type} (word : Bs) (hw10 : (10 : UInt8) ∉ word) (hw32 : (32 : UInt8) ∉ word) (f : Bs → Option (α × Bs)) (g : α → Bs) (ok : α → Bool) (hf : ∀ a, ok a = true → ∀ r, f (g a ++ 10 :: r) = some (a, r)) (l : List α) (hl : l.all ok = true) (hn : l.length ≤ 400) (s : Nat) : fileP word f (file word (l.map g) s) = some l := by
  rw [file_seps, List.cons_append, seps_cons, seps_append, List.length_map]
  unfold fileP
  rw [line_read 2 _ _ [word, Lib.decDigits l.length] (head_no _ _ hw10) (by unfold headL; rw [splitL_at 32 _ _ hw32, splitL_no 32 _ (dec_no 32 (by decide) _)]) rfl]
  simp only [Option.bind_some, List.getD_cons_zero, List.getD_cons_succ, if_true]
  rw [num_dec _ (by omega)]
  simp only [Option.bind_some]
  rw [if_pos (by omega), Int.toNat_natCast, many_read f g ok hf l hl]
  simp only [Option.bind_some]
  rw [seps_cons, seps_nil]
  generalize chk (body word (l.map g)) = k
  rw [line_read 4 _ _ [[115, 117, 109], Lib.decDigits s, [99, 104, 101, 99, 107], pad k 3] (last_no _ _) ?_ rfl]
  · simp
  · unfold lastL
    rw [show [115, 117, 109, 32] ++ Lib.decDigits s ++ [32, 99, 104, 101, 99, 107, 32] ++ pad k 3 = [115, 117, 109] ++ 32 :: (Lib.decDigits s ++ 32 :: ([99, 104, 101, 99, 107] ++ 32 :: pad k 3)) from by simp,
      splitL_at 32 _ _ (by decide), splitL_at 32 _ _ (dec_no 32 (by decide) _), splitL_at 32 _ _ (by decide), splitL_no 32 _ (dig_not 32 (by decide) _ (pad_digits _ _))]
theorem writeP_ok {l : List Pay} {t : Bs} (h : writeP l = (t, 0)) : l.length ≤ 400 ∧ l.all payOk = true ∧ twice (l.map (·.1)) = false ∧ t = file payW (l.map payLine) ((l.map (fun p : Pay => p.2.2.1)).sum).toNat := by
  unfold writeP at h
  by_cases h1 : 400 < l.length
  · rw [if_pos h1] at h; simp at h
  · rw [if_neg h1] at h
    by_cases h2 : l.all payOk = false
    · rw [if_pos h2] at h; simp at h
    · rw [if_neg h2] at h
      by_cases h3 : twice (l.map (·.1)) = true
      · rw [if_pos h3] at h; simp at h
      · rw [if_neg h3] at h
        simp only [Prod.mk.injEq, and_true] at h
        exact ⟨by omega, by simpa using h2, by simpa using h3, h.symm⟩
theorem writeA_ok {l : List Ans} {t : Bs} (h : writeA l = (t, 0)) : l.length ≤ 400 ∧ l.all ansOk = true ∧ twice (l.map (·.1)) = false ∧ t = file ansW (l.map ansLine) ((l.map (fun a : Ans => a.2.2.2.1)).sum).toNat := by
  unfold writeA at h
  by_cases h1 : 400 < l.length
  · rw [if_pos h1] at h; simp at h
  · rw [if_neg h1] at h
    by_cases h2 : l.all ansOk = false
    · rw [if_pos h2] at h; simp at h
    · rw [if_neg h2] at h
      by_cases h3 : twice (l.map (·.1)) = true
      · rw [if_pos h3] at h; simp at h
      · rw [if_neg h3] at h
        simp only [Prod.mk.injEq, and_true] at h
        exact ⟨by omega, by simpa using h2, by simpa using h3, h.symm⟩
/-- reading inverts writing -/
theorem readP_iff (t : Bs) (l : List Pay) : readP t = some l ↔ writeP l = (t, 0) := by
  unfold readP
  constructor
  · intro h
    cases hf : fileP payW payP t with
    | none => rw [hf] at h; cases h
    | some m =>
      rw [hf, Option.bind_some] at h
      by_cases hw : writeP m = (t, 0)
      · rw [if_pos hw] at h; cases h; exact hw
      · rw [if_neg hw] at h; cases h
  · intro h
    obtain ⟨h1, h2, _, h4⟩ := writeP_ok h
    have := file_read payW (by decide) (by decide) payP payLine payOk (fun a ha r => pay_read a ha r) l h2 h1 ((l.map (fun p : Pay => p.2.2.1)).sum).toNat
    rw [← h4] at this
    rw [this, Option.bind_some, if_pos h]
theorem readA_iff (t : Bs) (l : List Ans) : readA t = some l ↔ writeA l = (t, 0) := by
  unfold readA
  constructor
  · intro h
    cases hf : fileP ansW ansP t with
    | none => rw [hf] at h; cases h
    | some m =>
      rw [hf, Option.bind_some] at h
      by_cases hw : writeA m = (t, 0)
      · rw [if_pos hw] at h; cases h; exact hw
      · rw [if_neg hw] at h; cases h
  · intro h
    obtain ⟨h1, h2, _, h4⟩ := writeA_ok h
    have := file_read ansW (by decide) (by decide) ansP ansLine ansOk (fun a ha r => ans_read a ha r) l h2 h1 ((l.map (fun a : Ans => a.2.2.2.1)).sum).toNat
    rw [← h4] at this
    rw [this, Option.bind_some, if_pos h]
end BankS
