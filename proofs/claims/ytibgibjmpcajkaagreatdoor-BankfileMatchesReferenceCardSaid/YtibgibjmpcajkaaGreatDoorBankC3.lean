/- The walks of the calendar: Date, Text. -/
import Derived.Test.YtibgibjmpcajkaaGreatDoorBankC2
import Derived.Deep.LoopGhost
namespace Go.Proofs.YtibgibjmpcajkaaGreatDoor
open Go.RowKit BankS

theorem four_all : (List.range 26).all (fun j => firstM (48 * j) == 1461 * j) = true := by decide +kernel
theorem four_years (j : Nat) (h : j < 26) : firstM (48 * j) = 1461 * j := eq_of_beq (List.all_eq_true.1 four_all j (List.mem_range.2 h))
theorem ret_date {a b c a' b' c' : Int} (h1 : a = a') (h2 : b = b') (h3 : c = c') : Ending.returned (.tuple #[.int .i64 a, .int .i64 b, .int .i64 c]) = .returned (.tuple #[.int .i64 a', .int .i64 b', .int .i64 c']) := by rw [h1, h2, h3]
set_option maxHeartbeats 2000000 in
theorem Date_any (a : Int) (w : World) (hT : Tabs w) (h0 : 0 ≤ a) (h1 : a ≤ 36524) :
    Calls Tryz.prog 65 #[.int .i64 a] w fun e w' => e = .returned (.tuple #[.int .i64 (2000 + (monthOf a.toNat / 12 : Nat) : Int), .int .i64 ((monthOf a.toNat % 12 : Nat) + 1 : Int), .int .i64 ((a.toNat - firstM (monthOf a.toNat) : Nat) + 1 : Int)]) ∧ ∃ n, w' = w.drewN n := by
  obtain ⟨n, rfl⟩ := Int.eq_ofNat_of_zero_le h0
  rw [Int.toNat_natCast]
  have H4 := Lib.hid (four_years (n / 1461) (by omega))
  have HO : Hid (dayOk (n : Int) = true) := Lib.hid (decide_eq_true ⟨h0, h1⟩)
  go_enter Tryz.func65, Tryz.ntmps65
  go_wp2_with fail
  go_step3
  go_wp2_with fail
  refine (valid_any _ _).mono ?_
  rintro e w' ⟨rfl, rfl⟩
  rw [HO.out]
  go_wp2_with fail
  go_step3
  go_wp2_with fail
  go_loopg [5, 6] 200 (fun g y r wx => ∃ q k t : Nat, w.drewN t = wx ∧ q < 100 ∧ 100 ≤ g + q ∧ Hid (firstM (q * 12) + k = n) ∧ k ≤ 36524 ∧ y = .int .i64 (2000 + (q : Int)) ∧ r = .int .i64 k)
  case atStart =>
    refine ⟨n / 1461 * 4, n % 1461, 0, rfl, by omega, by omega, Lib.hid ?_, by omega, by go_num, by go_num⟩
    rw [show n / 1461 * 4 * 12 = 48 * (n / 1461) from by omega, H4.out]; omega
  case round =>
    obtain ⟨q, k, t, rfl, hq, hg, HK, hk, rfl, rfl⟩ := hrel
    go_wp2_with fail
    go_loopg [6, 19] 12 (fun g2 r i wx => ∃ m k2 t2 : Nat, w.drewN t2 = wx ∧ m ≤ 12 ∧ g2 = 12 - m ∧ Hid (firstM (q * 12 + m) + k2 = n) ∧ k2 ≤ 36524 ∧ r = .int .i64 k2 ∧ i = .int .i64 m)
    case atStart => exact ⟨0, k, t, rfl, by omega, rfl, HK, hk, rfl, rfl⟩
    case round =>
      obtain ⟨m, k2, t2, rfl, hm, rfl, HK2, hk2, rfl, rfl⟩ := hrel
      by_cases hlt : m < 12
      · obtain ⟨x, hx⟩ : ∃ x, x = lenM (q * 12 + m) := ⟨_, rfl⟩
        have HX := Lib.hid hx
        clear hx
        have HF : Hid (firstM (q * 12 + m + 1) = firstM (q * 12 + m) + x) := Lib.hid (by rw [HX.out]; rfl)
        by_cases hr : k2 < x
        · have HM : Hid (monthOf n = q * 12 + m) := Lib.hid (month_at n _ (by have := HK2.out; omega) (by rw [HF.out]; have := HK2.out; omega) (by omega))
          go_wp2_with fail
          refine (lengthOf_any _ _ _ (hT.drewN _) (by omega) (by omega) (by omega) (by omega)).mono ?_
          rintro e w1 ⟨rfl, n1, rfl⟩
          rw [show (2000 + (q : Int)).toNat - 2000 = q from by omega, Int.toNat_natCast, ← HX.out]
          go_wp2_with fail
          try rw [Exit.noGoto_ret]
          go_ret3
          refine ⟨ret_date ?_ ?_ ?_, _, rfl⟩
          · rw [HM.out]; omega
          · rw [HM.out]; omega
          · rw [HM.out]; have := HK2.out; omega
        · go_wp2_with fail
          refine (lengthOf_any _ _ _ (hT.drewN _) (by omega) (by omega) (by omega) (by omega)).mono ?_
          rintro e w1 ⟨rfl, n1, rfl⟩
          rw [show (2000 + (q : Int)).toNat - 2000 = q from by omega, Int.toNat_natCast, ← HX.out]
          go_wp2_with fail
          go_roundg (12 - (m + 1))
          case measure => omega
          case rel => exact ⟨m + 1, k2 - x, t2 + n1, rfl, by omega, by omega, Lib.hid (by rw [← Nat.add_assoc, HF.out]; have := HK2.out; omega), by omega, by go_num, by go_num⟩
      · have hm12 : m = 12 := by omega
        have HQ : Hid (firstM ((q + 1) * 12) + k2 = n) := Lib.hid (by rw [← HK2.out, hm12, Nat.succ_mul])
        have hq1 : q + 1 < 100 := by
          by_cases hh : q + 1 < 100
          · exact hh
          · have h99 : q = 99 := by omega
            have := HQ.out
            rw [h99] at this
            have e : firstM ((99 + 1) * 12) = 36525 := firstM_end
            omega
        clear hm12
        go_wp2_with fail
        go_roundg (gk - 1)
        case measure => omega
        case rel => exact ⟨q + 1, k2, t2, rfl, hq1, by omega, HQ, hk2, by go_num, rfl⟩

theorem dayText_len (n : Nat) (h : n < 36525) : (dayText n).length = 10 := by rw [dayText_eq n h]; rfl
set_option maxHeartbeats 2000000 in
theorem Text_any (a : Int) (w : World) (hT : Tabs w) (h0 : 0 ≤ a) (h1 : a ≤ 36524) :
    Calls Tryz.prog 31 #[.int .i64 a] w (RetStr (dayText a.toNat) w) := by
  have HO : Hid (dayOk a = true) := Lib.hid (decide_eq_true ⟨h0, h1⟩)
  obtain ⟨hm1, hm2, hm3⟩ := month_ok a.toNat (by omega)
  have hl := lenM_le (monthOf a.toNat)
  have h2 : firstM (monthOf a.toNat + 1) = firstM (monthOf a.toNat) + lenM (monthOf a.toNat) := rfl
  have hd : a.toNat - firstM (monthOf a.toNat) < 31 := by omega
  have HD : Hid (dayText a.toNat = Lib.decDigits (2000 + monthOf a.toNat / 12) ++ 45 :: pad (monthOf a.toNat % 12 + 1) 2 ++ 45 :: pad (a.toNat - firstM (monthOf a.toNat) + 1) 2) := Lib.hid rfl
  obtain ⟨m, hm⟩ : ∃ m, m = monthOf a.toNat := ⟨_, rfl⟩
  have hy := dec_small (2000 + m / 12) (by omega)
  clear h2 hm1 hm2 hl
  go_enter Tryz.func31, Tryz.ntmps31
  go_wp2_with fail
  refine (valid_any _ _).mono ?_
  rintro e w' ⟨rfl, rfl⟩
  rw [HO.out]
  go_wp2_with fail
  refine (Date_any _ _ hT h0 h1).mono ?_
  rintro e w1 ⟨rfl, n1, rfl⟩
  have B1 := Lib.hid (below_drewN w n1)
  have hT1 := hT.drewN n1
  rw [← hm] at hm3 hd HD ⊢
  have HM := Lib.hid hm
  clear hm
  generalize a.toNat - firstM m = d at *
  go_wp2_with fail
  refine (itoa_any _ _ hT1 (by omega) (by omega)).mono ?_
  rintro e w2 ⟨ys, rfl, HY, b2⟩
  rw [show (2000 + (m : Int) / 12).toNat = 2000 + m / 12 from by omega] at HY
  have hys : ys.size ≤ 15 := by rw [← L_len, HY.out]; exact hy
  have B2 : Hid (Below w.heap.size w w2) := Lib.hid (B1.out.trans b2.out)
  clear b2
  have hT2 := hT.below B2.out
  have hs2 := B2.out.size
  go_wp2_with fail
  refine (two_any _ _ hT2 (by omega) (by omega)).mono ?_
  rintro e w3 ⟨ms, rfl, HS, b3⟩
  rw [show ((m : Int) % 12 + 1).toNat = m % 12 + 1 from by omega] at HS
  have hms : ms.size ≤ 2 := by rw [← L_len, HS.out, pad2 _ (by omega)]; exact Nat.le_refl _
  have B3 : Hid (Below w.heap.size w w3) := Lib.hid (B2.out.trans (b3.out.mono hs2))
  clear b3
  have hT3 := hT.below B3.out
  have hs3 := B3.out.size
  go_wp2_with fail
  refine (two_any _ _ hT3 (by omega) (by omega)).mono ?_
  rintro e w4 ⟨ds, rfl, HZ, b4⟩
  rw [show ((d : Int) + 1).toNat = d + 1 from by omega] at HZ
  have hds : ds.size ≤ 2 := by rw [← L_len, HZ.out, pad2 _ (by omega)]; exact Nat.le_refl _
  have B4 : Hid (Below w.heap.size w w4) := Lib.hid (B3.out.trans (b4.out.mono hs3))
  clear b4
  go_wp2_with fail
  go_ret
  refine RetStr.mk ?_ B4.out
  rw [HD.out, L_app, L_app, L_app, L_app, HY.out, HS.out, HZ.out]
  simp
  rfl
end Go.Proofs.YtibgibjmpcajkaaGreatDoor
