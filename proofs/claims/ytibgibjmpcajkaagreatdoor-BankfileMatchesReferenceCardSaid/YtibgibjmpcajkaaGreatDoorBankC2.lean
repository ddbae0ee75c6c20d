/- The walks of the calendar: yearStart, First, Day, two, Date, Text. -/
import Derived.Test.YtibgibjmpcajkaaGreatDoorBankC
namespace Go.Proofs.YtibgibjmpcajkaaGreatDoor
open Go.RowKit BankS

def ysI (y : Int) : Int := (y - 2000) * 365 + (y - 2000 + 3) / 4
theorem yearStart_any (y : Int) (w : World) (h0 : 2000 ≤ y) (h1 : y ≤ 2100) :
    Calls Tryz.prog 134 #[.int .i64 y] w fun e w' => e = .returned (.int .i64 (ysI y)) ∧ w' = w := by
  go_enter Tryz.func134, Tryz.ntmps134
  go_wp2_with fail
  go_ret
  exact ⟨ret_int rfl, rfl⟩
theorem bef_le (m : Nat) : before m ≤ 365 := by
  by_cases h : m < 13
  · have : ∀ i : Fin 13, before i.val ≤ 365 := by decide
    exact this ⟨m, h⟩
  · unfold before
    rw [List.getD, List.getElem?_eq_none (by simp; omega)]
    simp
theorem first_split (k : Nat) (h : k ≤ 1200) : (firstM k : Int) = ysI (2000 + (k : Int) / 12) + (before (k % 12) : Int) + (if 1 < k % 12 ∧ k / 12 % 4 = 0 then 1 else 0) := by
  rw [← first_eq k h]
  unfold firstC ysI
  split <;> omega

set_option maxHeartbeats 1000000 in
theorem First_any (m : Int) (w : World) (hT : Tabs w) (h0 : 0 ≤ m) (h1 : m ≤ 1199) :
    Calls Tryz.prog 116 #[.int .i64 m] w fun e w' => e = .returned (.int .i64 (firstM m.toNat)) ∧ ∃ n, w' = w.drewN n := by
  obtain ⟨k, rfl⟩ := Int.eq_ofNat_of_zero_le h0
  rw [Int.toNat_natCast]
  have HS := Lib.hid (first_split k (by omega))
  have c1 := hT.bef_at (k % 12) (by omega)
  have b1 := bef_le (k % 12)
  have y0 : 0 ≤ ysI (2000 + (k : Int) / 12) ∧ ysI (2000 + (k : Int) / 12) ≤ 40000 := by unfold ysI; omega
  obtain ⟨y1, y2⟩ := y0
  obtain ⟨x, hx⟩ : ∃ x, x = before (k % 12) := ⟨_, rfl⟩
  rw [← hx] at c1 b1 HS
  have w1 : IntKind.i64.wrap (ysI (2000 + (k : Int) / 12) + (x : Int)) = ysI (2000 + (k : Int) / 12) + (x : Int) := IntWalk.i64_in _ (by omega)
  clear hx
  have i1 : (0 : Int) ≤ (k : Int) % 12 := by omega
  have i2 : (k : Int) % 12 < 13 := by omega
  have i3 : ((k : Int) % 12).toNat = k % 12 := by omega
  have W1 := Lib.hid w1
  clear w1
  by_cases hr : 1 < (k : Int) % 12
  · by_cases hq : k / 12 % 4 = 0
    · have HF : Hid ((firstM k : Int) = ysI (2000 + (k : Int) / 12) + (x : Int) + 1) := Lib.hid (by rw [HS.out, if_pos ⟨by omega, hq⟩])
      have hb : ((2000 + (k : Int) / 12) % 4 == 0) = true := by rw [beq_iff_eq]; omega
      clear hq
      go_enter Tryz.func116, Tryz.ntmps116
      go_wp2_with fail
      have w1 := W1.out
      go_quiet ((go_at_call 134; exact Calls.quiet_of_same (yearStart_any _ _ (by omega) (by omega))))
      clear w1
      go_wp2_with fail
      go_ret
      refine ⟨ret_int ?_, _, rfl⟩
      rw [HF.out]
    · have HF : Hid ((firstM k : Int) = ysI (2000 + (k : Int) / 12) + (x : Int)) := Lib.hid (by rw [HS.out, if_neg (fun h => hq h.2)]; omega)
      have hb : ((2000 + (k : Int) / 12) % 4 == 0) = false := by rw [beq_eq_false_iff_ne]; omega
      clear hq
      go_enter Tryz.func116, Tryz.ntmps116
      go_wp2_with fail
      have w1 := W1.out
      go_quiet ((go_at_call 134; exact Calls.quiet_of_same (yearStart_any _ _ (by omega) (by omega))))
      clear w1
      go_wp2_with fail
      go_ret
      refine ⟨ret_int ?_, _, rfl⟩
      rw [HF.out]
  · have HF : Hid ((firstM k : Int) = ysI (2000 + (k : Int) / 12) + (x : Int)) := Lib.hid (by rw [HS.out, if_neg (by omega)]; omega)
    go_enter Tryz.func116, Tryz.ntmps116
    go_wp2_with fail
    have w1 := W1.out
    go_quiet ((go_at_call 134; exact Calls.quiet_of_same (yearStart_any _ _ (by omega) (by omega))))
    clear w1
    go_wp2_with fail
    go_ret
    refine ⟨ret_int ?_, _, rfl⟩
    rw [HF.out]

def dayOfE (y m d : Nat) : Nat × Nat := match dayOf y m d with
  | some n => (n, 0)
  | none => (0, 21)
theorem dayOfE_no (y m d : Nat) (h : ¬ (2000 ≤ y ∧ y ≤ 2099 ∧ 1 ≤ m ∧ m ≤ 12 ∧ 1 ≤ d ∧ d ≤ lenM ((y - 2000) * 12 + (m - 1)))) : dayOfE y m d = (0, 21) := by
  unfold dayOfE dayOf; rw [if_neg h]
theorem dayOfE_yes (y m d : Nat) (h : 2000 ≤ y ∧ y ≤ 2099 ∧ 1 ≤ m ∧ m ≤ 12 ∧ 1 ≤ d ∧ d ≤ lenM ((y - 2000) * 12 + (m - 1))) : dayOfE y m d = (firstM ((y - 2000) * 12 + (m - 1)) + (d - 1), 0) := by
  unfold dayOfE dayOf; rw [if_pos h]
def RetDay (p : Nat × Nat) (w : World) (e : Ending) (w' : World) : Prop := e = .returned (.tuple #[.int .i64 p.1, .int .i64 p.2]) ∧ Hid (Below w.heap.size w w')
theorem RetDay.mk {p : Nat × Nat} {a b : Int} {w w' : World} (h1 : a = p.1) (h2 : b = p.2) (hb : Below w.heap.size w w') : RetDay p w (.returned (.tuple #[.int .i64 a, .int .i64 b])) w' := ⟨by rw [h1, h2], hb⟩
theorem firstM_bd (m : Nat) (h : m ≤ 1200) : firstM m ≤ 36525 := by
  have := firstM_mono (m := m) (k := 1200) h
  rw [firstM_end] at this; exact this

set_option maxHeartbeats 2000000 in
theorem Day_any (y m d : Int) (w : World) (hT : Tabs w) (hy : 0 ≤ y) (hy2 : y ≤ 10000) (hm : 0 ≤ m) (hm2 : m ≤ 10000) (hd : 0 ≤ d) (hd2 : d ≤ 10000) :
    Calls Tryz.prog 94 #[.int .i64 y, .int .i64 m, .int .i64 d] w (RetDay (dayOfE y.toNat m.toNat d.toNat) w) := by
  by_cases h1 : 2000 ≤ y ∧ y ≤ 2099 ∧ 1 ≤ m ∧ m ≤ 12
  rotate_left
  · have HN := Lib.hid (dayOfE_no y.toNat m.toNat d.toNat (by omega))
    have hc : y < 2000 ∨ (2000 ≤ y ∧ 2099 < y) ∨ (2000 ≤ y ∧ y ≤ 2099 ∧ m < 1) ∨ (2000 ≤ y ∧ y ≤ 2099 ∧ 1 ≤ m ∧ 12 < m) := by omega
    clear h1
    rcases hc with c1 | ⟨c1, c2⟩ | ⟨c1, c2, c3⟩ | ⟨c1, c2, c3, c4⟩
    all_goals
      go_enter Tryz.func94, Tryz.ntmps94
      go_wp2_with fail
      go_ret2
      exact RetDay.mk (by rw [HN.out]; rfl) (by rw [HN.out]; rfl) (Below.refl _ _)
  obtain ⟨a1, a2, a3, a4⟩ := h1
  by_cases h2 : 1 ≤ d
  rotate_left
  · have HN := Lib.hid (dayOfE_no y.toNat m.toNat d.toNat (by omega))
    go_enter Tryz.func94, Tryz.ntmps94
    go_wp2_with fail
    go_ret2
    exact RetDay.mk (by rw [HN.out]; rfl) (by rw [HN.out]; rfl) (Below.refl _ _)
  obtain ⟨x, hx⟩ : ∃ x, x = lenM ((y.toNat - 2000) * 12 + (m.toNat - 1)) := ⟨_, rfl⟩
  have HX := Lib.hid hx
  clear hx
  go_enter Tryz.func94, Tryz.ntmps94
  go_wp2_with fail
  refine (lengthOf_any _ _ _ hT (by omega) (by omega) (by omega) (by omega)).mono ?_
  rintro e w1 ⟨rfl, n1, rfl⟩
  rw [show (m - 1).toNat = m.toNat - 1 from by omega, ← HX.out]
  by_cases h3 : d ≤ (x : Int)
  · have HY := Lib.hid (dayOfE_yes y.toNat m.toNat d.toNat (by rw [← HX.out]; omega))
    have hf := firstM_bd ((y.toNat - 2000) * 12 + (m.toNat - 1)) (by omega)
    go_wp2_with fail
    refine (First_any _ _ (hT.drewN n1) (by omega) (by omega)).mono ?_
    rintro e w2 ⟨rfl, n2, rfl⟩
    rw [show ((y - 2000) * 12 + m - 1).toNat = (y.toNat - 2000) * 12 + (m.toNat - 1) from by omega]
    go_wp2_with fail
    go_ret2
    refine RetDay.mk ?_ (by rw [HY.out]; rfl) (below_drewN w (n1 + n2))
    rw [HY.out]
    simp only []
    omega
  · have HN := Lib.hid (dayOfE_no y.toNat m.toNat d.toNat (by rw [← HX.out]; omega))
    go_wp2_with fail
    go_ret2
    exact RetDay.mk (by rw [HN.out]; rfl) (by rw [HN.out]; rfl) (below_drewN w n1)

theorem pad_one (n : Nat) (h : n < 10) : pad n 2 = 48 :: Lib.decDigits n := by
  rw [pad2 n (by omega), Lib.decDigits_one h, show n / 10 = 0 from by omega, show n % 10 = n from by omega]; rfl
theorem pad_two (n : Nat) (h : 10 ≤ n) (h1 : n < 100) : pad n 2 = Lib.decDigits n := by
  rw [pad2 n h1, Lib.decDigits_two (by omega) h1]
set_option maxHeartbeats 1000000 in
theorem two_any (n : Int) (w : World) (hT : Tabs w) (h0 : 0 ≤ n) (h1 : n < 100) :
    Calls Tryz.prog 66 #[.int .i64 n] w (RetStr (pad n.toNat 2) w) := by
  obtain ⟨k, rfl⟩ := Int.eq_ofNat_of_zero_le h0
  rw [Int.toNat_natCast]
  have hl := dec_len k (by omega)
  by_cases h10 : (k : Int) < 10
  · go_enter Tryz.func66, Tryz.ntmps66
    go_wp2_with fail
    refine (itoa_any _ _ hT (by omega) (by omega)).mono ?_
    rintro e w1 ⟨ds, rfl, HD, B1⟩
    rw [Int.toNat_natCast] at HD
    have hds : ds.size ≤ 3 := by rw [← L_len, HD.out]; exact hl
    go_wp2_with fail
    go_ret
    refine RetStr.mk ?_ B1.out
    rw [L_app, HD.out, pad_one k (by omega)]
    rfl
  · go_enter Tryz.func66, Tryz.ntmps66
    go_wp2_with fail
    refine (itoa_any _ _ hT (by omega) (by omega)).mono ?_
    rintro e w1 ⟨ds, rfl, HD, B1⟩
    rw [Int.toNat_natCast] at HD
    go_wp2_with fail
    go_ret
    refine RetStr.mk ?_ B1.out
    rw [HD.out, pad_two k (by omega) (by omega)]
end Go.Proofs.YtibgibjmpcajkaaGreatDoor
