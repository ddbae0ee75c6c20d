/- The walks of the reference lexer's small functions: each comes to the same plain functions. -/
import Derived.Test.YtfgngakdhedcgaaDoorLexX
namespace Go.Proofs.YtfgngakdhedcgaaDoor
open Go.RowKit LexS

theorem cin8 (c : UInt8) : cin 8 c = decide (48 ≤ c.toNat ∧ c.toNat ≤ 57) := by
  unfold cin cls
  generalize c.toNat = n
  repeat' split
  all_goals first | exact (decide_eq_false (by omega)).symm | exact (decide_eq_true (by omega)).symm
theorem cin2 (c : UInt8) : cin 2 c = decide (97 ≤ c.toNat ∧ c.toNat ≤ 122) := by
  unfold cin cls
  generalize c.toNat = n
  repeat' split
  all_goals first | exact (decide_eq_false (by omega)).symm | exact (decide_eq_true (by omega)).symm
theorem cin4 (c : UInt8) : cin 4 c = decide (65 ≤ c.toNat ∧ c.toNat ≤ 90) := by
  unfold cin cls
  generalize c.toNat = n
  repeat' split
  all_goals first | exact (decide_eq_false (by omega)).symm | exact (decide_eq_true (by omega)).symm
theorem cin1 (c : UInt8) : cin 1 c = decide (c.toNat = 32 ∨ c.toNat = 9 ∨ c.toNat = 10 ∨ c.toNat = 13) := by
  unfold cin cls
  generalize c.toNat = n
  repeat' split
  all_goals first | exact (decide_eq_false (by omega)).symm | exact (decide_eq_true (by omega)).symm
theorem cin30 (c : UInt8) : cin 30 c = (cin 2 c || cin 4 c || cin 8 c || ((c.toNat : Int) == 95)) := by
  rw [cin2, cin4, cin8]
  unfold cin cls
  generalize c.toNat = n
  repeat' split
  all_goals (simp; try omega)

set_option maxHeartbeats 400000 in
theorem digit_any (c : UInt8) (w : World) : Calls Tryd.prog 27 #[.int .u8 c.toNat] w fun e w' => e = .returned (.bool (cin 8 c)) ∧ w = w' := by
  have HC := Lib.hid (cin8 c)
  by_cases h1 : 48 ≤ c.toNat
  · go_enter Tryd.func27, Tryd.ntmps27
    go_wp2
    go_ret
    exact ⟨ret_bool (a := decide ((c.toNat : Int) ≤ 57)) (by rw [HC.out, decide_eq_decide]; omega), rfl⟩
  · go_enter Tryd.func27, Tryd.ntmps27
    go_wp2
    go_ret
    exact ⟨ret_bool (a := false) (by rw [HC.out]; simp [h1]), rfl⟩
set_option maxHeartbeats 400000 in
theorem lower_any (c : UInt8) (w : World) : Calls Tryd.prog 29 #[.int .u8 c.toNat] w fun e w' => e = .returned (.bool (cin 2 c)) ∧ w = w' := by
  have HC := Lib.hid (cin2 c)
  by_cases h1 : 97 ≤ c.toNat
  · go_enter Tryd.func29, Tryd.ntmps29
    go_wp2
    go_ret
    exact ⟨ret_bool (a := decide ((c.toNat : Int) ≤ 122)) (by rw [HC.out, decide_eq_decide]; omega), rfl⟩
  · go_enter Tryd.func29, Tryd.ntmps29
    go_wp2
    go_ret
    exact ⟨ret_bool (a := false) (by rw [HC.out]; simp [h1]), rfl⟩
set_option maxHeartbeats 400000 in
theorem upper_any (c : UInt8) (w : World) : Calls Tryd.prog 31 #[.int .u8 c.toNat] w fun e w' => e = .returned (.bool (cin 4 c)) ∧ w = w' := by
  have HC := Lib.hid (cin4 c)
  by_cases h1 : 65 ≤ c.toNat
  · go_enter Tryd.func31, Tryd.ntmps31
    go_wp2
    go_ret
    exact ⟨ret_bool (a := decide ((c.toNat : Int) ≤ 90)) (by rw [HC.out, decide_eq_decide]; omega), rfl⟩
  · go_enter Tryd.func31, Tryd.ntmps31
    go_wp2
    go_ret
    exact ⟨ret_bool (a := false) (by rw [HC.out]; simp [h1]), rfl⟩
set_option maxHeartbeats 400000 in
theorem white_any (c : UInt8) (w : World) : Calls Tryd.prog 25 #[.int .u8 c.toNat] w fun e w' => e = .returned (.bool (cin 1 c)) ∧ w = w' := by
  have HC := Lib.hid (cin1 c)
  have hfour : ((c.toNat : Int) == 32) = true ∨ (((c.toNat : Int) == 32) = false ∧ ((c.toNat : Int) == 9) = true) ∨ (((c.toNat : Int) == 32) = false ∧ ((c.toNat : Int) == 9) = false ∧ ((c.toNat : Int) == 10) = true) ∨ (((c.toNat : Int) == 32) = false ∧ ((c.toNat : Int) == 9) = false ∧ ((c.toNat : Int) == 10) = false) := by
    cases ((c.toNat : Int) == 32) <;> cases ((c.toNat : Int) == 9) <;> cases ((c.toNat : Int) == 10) <;> simp
  rcases hfour with f1 | ⟨f1, f2⟩ | ⟨f1, f2, f3⟩ | ⟨f1, f2, f3⟩
  · have HF := Lib.hid f1
    go_enter Tryd.func25, Tryd.ntmps25
    go_wp2
    go_ret
    exact ⟨ret_bool (a := true) (by rw [HC.out]; have := beq_iff_eq.1 HF.out; exact (decide_eq_true (by omega)).symm), rfl⟩
  · have HF := Lib.hid f2
    go_enter Tryd.func25, Tryd.ntmps25
    go_wp2
    go_ret
    exact ⟨ret_bool (a := true) (by rw [HC.out]; have := beq_iff_eq.1 HF.out; exact (decide_eq_true (by omega)).symm), rfl⟩
  · have HF := Lib.hid f3
    go_enter Tryd.func25, Tryd.ntmps25
    go_wp2
    go_ret
    exact ⟨ret_bool (a := true) (by rw [HC.out]; have := beq_iff_eq.1 HF.out; exact (decide_eq_true (by omega)).symm), rfl⟩
  · have HF := Lib.hid (And.intro f1 (And.intro f2 f3))
    go_enter Tryd.func25, Tryd.ntmps25
    go_wp2
    go_ret
    refine ⟨ret_bool (a := ((c.toNat : Int) == 13)) ?_, rfl⟩
    rw [HC.out]
    obtain ⟨g1, g2, g3⟩ := HF.out
    rw [beq_eq_false_iff_ne] at g1 g2 g3
    rw [Bool.eq_iff_iff, beq_iff_eq, decide_eq_true_eq]
    omega
set_option maxHeartbeats 400000 in
theorem word_any (c : UInt8) (w : World) : Calls Tryd.prog 44 #[.int .u8 c.toNat] w fun e w' => e = .returned (.bool (cin 30 c)) ∧ w = w' := by
  have HC := Lib.hid (cin30 c)
  cases h2 : cin 2 c with
  | true =>
    have H2 := Lib.hid h2
    clear h2
    go_enter Tryd.func44, Tryd.ntmps44
    go_wp2_with fail
    refine (lower_any c _).mono ?_
    rintro e w' ⟨rfl, rfl⟩
    rw [H2.out]
    go_wp2_with fail
    go_ret
    exact ⟨ret_bool (a := true) (by rw [HC.out, H2.out]; rfl), rfl⟩
  | false =>
    have H2 := Lib.hid h2
    clear h2
    cases h4 : cin 4 c with
    | true =>
      have H4 := Lib.hid h4
      clear h4
      go_enter Tryd.func44, Tryd.ntmps44
      go_wp2_with fail
      refine (lower_any c _).mono ?_
      rintro e w' ⟨rfl, rfl⟩
      rw [H2.out]
      go_wp2_with fail
      refine (upper_any c _).mono ?_
      rintro e w' ⟨rfl, rfl⟩
      rw [H4.out]
      go_wp2_with fail
      go_ret
      exact ⟨ret_bool (a := true) (by rw [HC.out, H2.out, H4.out]; rfl), rfl⟩
    | false =>
      have H4 := Lib.hid h4
      clear h4
      cases h8 : cin 8 c with
      | true =>
        have H8 := Lib.hid h8
        clear h8
        go_enter Tryd.func44, Tryd.ntmps44
        go_wp2_with fail
        refine (lower_any c _).mono ?_
        rintro e w' ⟨rfl, rfl⟩
        rw [H2.out]
        go_wp2_with fail
        refine (upper_any c _).mono ?_
        rintro e w' ⟨rfl, rfl⟩
        rw [H4.out]
        go_wp2_with fail
        refine (digit_any c _).mono ?_
        rintro e w' ⟨rfl, rfl⟩
        rw [H8.out]
        go_wp2_with fail
        go_ret
        exact ⟨ret_bool (a := true) (by rw [HC.out, H2.out, H4.out, H8.out]; rfl), rfl⟩
      | false =>
        have H8 := Lib.hid h8
        clear h8
        go_enter Tryd.func44, Tryd.ntmps44
        go_wp2_with fail
        refine (lower_any c _).mono ?_
        rintro e w' ⟨rfl, rfl⟩
        rw [H2.out]
        go_wp2_with fail
        refine (upper_any c _).mono ?_
        rintro e w' ⟨rfl, rfl⟩
        rw [H4.out]
        go_wp2_with fail
        refine (digit_any c _).mono ?_
        rintro e w' ⟨rfl, rfl⟩
        rw [H8.out]
        go_wp2_with fail
        go_ret
        exact ⟨ret_bool (a := ((c.toNat : Int) == 95)) (by rw [HC.out, H2.out, H4.out, H8.out]; rfl), rfl⟩
set_option maxHeartbeats 1000000 in
theorem digits_any (s : ByteArray) (a : Int) (w : World) (hs : s.size ≤ 100000) (h0 : 0 ≤ a) :
    Calls Tryd.prog 40 #[.string s, .int .i64 a] w fun e w' => e = .returned (.int .i64 (a + spanN 8 ((L s).drop a.toNat) : Int)) ∧ w = w' := by
  obtain ⟨k0, rfl⟩ := Int.eq_ofNat_of_zero_le h0
  rw [Int.toNat_natCast]
  go_enter Tryd.func40, Tryd.ntmps40
  go_wp2_with fail
  go_loopg [1] (s.size - k0) (fun g i wx => ∃ k : Nat, w = wx ∧ g = s.size - k ∧ Hid (k + spanN 8 ((L s).drop k) = k0 + spanN 8 ((L s).drop k0)) ∧ i = .int .i64 k)
  case atStart => exact ⟨k0, rfl, rfl, Lib.hid rfl, rfl⟩
  case round =>
    obtain ⟨k, rfl, rfl, HK, rfl⟩ := hrel
    by_cases hlt : k < s.size
    · cases hb : cin 8 s[k] with
      | true =>
        have hi : isB 8 ((L s).drop k) = true := by rw [drop_at s k hlt]; exact hb
        obtain ⟨e1, _⟩ := run_step 8 s k hi
        have E1 := Lib.hid e1
        clear e1 hi
        have HB := Lib.hid hb
        clear hb
        go_wp2_with fail
        refine (digit_any _ _).mono ?_
        rintro e w' ⟨rfl, rfl⟩
        rw [HB.out]
        go_wp2_with fail
        go_roundg (s.size - (k + 1))
        case measure => omega
        case rel => exact ⟨k + 1, rfl, rfl, Lib.hid (by rw [← HK.out, E1.out]), by go_num⟩
      | false =>
        have hi : isB 8 ((L s).drop k) = false := by rw [drop_at s k hlt]; exact hb
        have E1 := Lib.hid (run_stop 8 _ hi)
        have HB := Lib.hid hb
        clear hb hi
        go_wp2_with fail
        refine (digit_any _ _).mono ?_
        rintro e w' ⟨rfl, rfl⟩
        rw [HB.out]
        go_wp2_with fail
        go_ret
        refine ⟨ret_int (a := (k : Int)) ?_, rfl⟩
        have h1 := HK.out
        rw [E1.out] at h1
        omega
    · have hge : s.size ≤ k := by omega
      go_wp2_with fail
      go_ret
      refine ⟨ret_int (a := (k : Int)) ?_, rfl⟩
      have h1 := HK.out
      rw [drop_end s k hge, spanN_nil] at h1
      omega
set_option maxHeartbeats 1000000 in
theorem rrun_any (s : ByteArray) (a : Int) (w : World) (hs : s.size ≤ 100000) (h0 : 0 ≤ a) :
    Calls Tryd.prog 41 #[.string s, .int .i64 a] w fun e w' => e = .returned (.int .i64 (a + spanN 30 ((L s).drop a.toNat) : Int)) ∧ w = w' := by
  obtain ⟨k0, rfl⟩ := Int.eq_ofNat_of_zero_le h0
  rw [Int.toNat_natCast]
  go_enter Tryd.func41, Tryd.ntmps41
  go_wp2_with fail
  go_loopg [1] (s.size - k0) (fun g i wx => ∃ k : Nat, w = wx ∧ g = s.size - k ∧ Hid (k + spanN 30 ((L s).drop k) = k0 + spanN 30 ((L s).drop k0)) ∧ i = .int .i64 k)
  case atStart => exact ⟨k0, rfl, rfl, Lib.hid rfl, rfl⟩
  case round =>
    obtain ⟨k, rfl, rfl, HK, rfl⟩ := hrel
    by_cases hlt : k < s.size
    · cases hb : cin 30 s[k] with
      | true =>
        have hi : isB 30 ((L s).drop k) = true := by rw [drop_at s k hlt]; exact hb
        obtain ⟨e1, _⟩ := run_step 30 s k hi
        have E1 := Lib.hid e1
        clear e1 hi
        have HB := Lib.hid hb
        clear hb
        go_wp2_with fail
        refine (word_any _ _).mono ?_
        rintro e w' ⟨rfl, rfl⟩
        rw [HB.out]
        go_wp2_with fail
        go_roundg (s.size - (k + 1))
        case measure => omega
        case rel => exact ⟨k + 1, rfl, rfl, Lib.hid (by rw [← HK.out, E1.out]), by go_num⟩
      | false =>
        have hi : isB 30 ((L s).drop k) = false := by rw [drop_at s k hlt]; exact hb
        have E1 := Lib.hid (run_stop 30 _ hi)
        have HB := Lib.hid hb
        clear hb hi
        go_wp2_with fail
        refine (word_any _ _).mono ?_
        rintro e w' ⟨rfl, rfl⟩
        rw [HB.out]
        go_wp2_with fail
        go_ret
        refine ⟨ret_int (a := (k : Int)) ?_, rfl⟩
        have h1 := HK.out
        rw [E1.out] at h1
        omega
    · have hge : s.size ≤ k := by omega
      go_wp2_with fail
      go_ret
      refine ⟨ret_int (a := (k : Int)) ?_, rfl⟩
      have h1 := HK.out
      rw [drop_end s k hge, spanN_nil] at h1
      omega
set_option maxHeartbeats 1000000 in
theorem begins_any (s t : ByteArray) (a : Int) (w : World) (hs : s.size ≤ 100000) (ht : t.size ≤ 100000) (h0 : 0 ≤ a) (ha : a ≤ s.size) :
    Calls Tryd.prog 26 #[.string s, .int .i64 a, .string t] w fun e w' => e = .returned (.bool ((L t).isPrefixOf ((L s).drop a.toNat))) ∧ w = w' := by
  obtain ⟨k, rfl⟩ := Int.eq_ofNat_of_zero_le h0
  rw [Int.toNat_natCast]
  by_cases hl : k + t.size ≤ s.size
  · have h1 : (t.size : Int) ≤ (s.size : Int) - (k : Int) := by omega
    go_enter Tryd.func26, Tryd.ntmps26
    go_wp2_with fail
    go_ret
    refine ⟨ret_bool (a := ((s.extract k (k + t.size)).toList == t.toList)) ?_, rfl⟩
    rw [ByteArray.toList_eq, ByteArray.toList_eq, Lib.extract_data, isPrefixOf_take, show k + t.size - k = t.size from by omega]
    have : t.size = (L t).length := by simp
    rw [this]
  · have h1 : ¬ (t.size : Int) ≤ (s.size : Int) - (k : Int) := by omega
    go_enter Tryd.func26, Tryd.ntmps26
    go_wp2_with fail
    go_ret
    refine ⟨ret_bool (a := false) ?_, rfl⟩
    symm
    rw [Bool.eq_false_iff]
    intro h2
    have := (List.isPrefixOf_iff_prefix.1 h2).length_le
    rw [len_drop] at this
    have h3 : (L t).length = t.size := by simp
    omega
set_option maxHeartbeats 1000000 in
theorem rskip_any (s : ByteArray) (a : Int) (w : World) (hs : s.size ≤ 100000) (h0 : 0 ≤ a) (ha : a ≤ s.size) :
    Calls Tryd.prog 20 #[.string s, .int .i64 a] w fun e w' => e = .returned (.int .i64 (a + skipN ((L s).drop a.toNat) : Int)) ∧ w = w' := by
  obtain ⟨k0, rfl⟩ := Int.eq_ofNat_of_zero_le h0
  rw [Int.toNat_natCast]
  have hk0 : k0 ≤ s.size := by omega
  clear ha
  go_enter Tryd.func20, Tryd.ntmps20
  go_wp2_with fail
  go_loopg [1] (s.size - k0) (fun g i wx => ∃ k : Nat, w = wx ∧ k ≤ s.size ∧ g = s.size - k ∧ Hid (k + skipN ((L s).drop k) = k0 + skipN ((L s).drop k0)) ∧ i = .int .i64 k)
  case atStart => exact ⟨k0, rfl, hk0, rfl, Lib.hid rfl, rfl⟩
  case round =>
    obtain ⟨k, rfl, hk, rfl, HK, rfl⟩ := hrel
    by_cases hlt : k < s.size
    · cases hw : cin 1 s[k] with
      | true =>
        have E1 : Hid (k + 1 + skipN ((L s).drop (k + 1)) = k0 + skipN ((L s).drop k0)) := by
          refine Lib.hid ?_
          have h1 := HK.out
          rw [drop_at s k hlt] at h1
          unfold skipN at h1 ⊢
          rw [gapN, if_neg (by simp), if_pos hw] at h1
          omega
        have HW := Lib.hid hw
        clear hw
        go_wp2_with fail
        refine (white_any _ _).mono ?_
        rintro e w' ⟨rfl, rfl⟩
        rw [HW.out]
        go_wp2_with fail
        go_roundg (s.size - (k + 1))
        case measure => omega
        case rel => exact ⟨k + 1, rfl, by omega, rfl, E1, by go_num⟩
      | false =>
        have HN1 : Hid (isB 1 ((L s).drop k) = false) := Lib.hid (by rw [drop_at s k hlt]; exact hw)
        have HW := Lib.hid hw
        clear hw
        cases hp : [47, 47].isPrefixOf ((L s).drop k) with
        | false =>
          have HP := Lib.hid hp
          clear hp
          go_wp2_with fail
          refine (white_any _ _).mono ?_
          rintro e w' ⟨rfl, rfl⟩
          rw [HW.out]
          go_wp2_with fail
          refine (begins_any s _ _ _ (by omega) (by decide) (by omega) (by omega)).mono ?_
          rintro e w' ⟨rfl, rfl⟩
          rw [show ((L { data := #[47, 47] }).isPrefixOf ((L s).drop (k : Int).toNat)) = false from by rw [Int.toNat_natCast, L_slash]; exact HP.out]
          go_wp2_with fail
          go_ret
          refine ⟨ret_int (a := (k : Int)) ?_, rfl⟩
          have h1 := HK.out
          have h2 := gap_none _ HN1.out HP.out
          unfold skipN at h1 ⊢
          omega
        | true =>
          have HP := Lib.hid hp
          clear hp
          have HC : Hid (k + gapN true ((L s).drop k) = k0 + skipN ((L s).drop k0)) := by
            refine Lib.hid ?_
            have h1 := HK.out
            have h2 := gap_comment _ HP.out
            unfold skipN at h1 ⊢
            omega
          have hne : Hid (s[k] ≠ 10) := by
            refine Lib.hid ?_
            have h1 := HP.out
            rw [drop_at s k hlt] at h1
            simp [List.isPrefixOf] at h1
            rw [← h1.1]; decide
          go_wp2_with fail
          refine (white_any _ _).mono ?_
          rintro e w' ⟨rfl, rfl⟩
          rw [HW.out]
          go_wp2_with fail
          refine (begins_any s _ _ _ (by omega) (by decide) (by omega) (by omega)).mono ?_
          rintro e w' ⟨rfl, rfl⟩
          rw [show ((L { data := #[47, 47] }).isPrefixOf ((L s).drop (k : Int).toNat)) = true from by rw [Int.toNat_natCast, L_slash]; exact HP.out]
          clear HN1 HP
          go_wp2_with fail
          go_loopg [1] (s.size - k) (fun g i wx => ∃ j : Nat, w = wx ∧ k ≤ j ∧ j ≤ s.size ∧ g = s.size - j ∧ Hid (j = k ∨ k < j) ∧ Hid (j + gapN true ((L s).drop j) = k0 + skipN ((L s).drop k0)) ∧ i = .int .i64 j)
          case atStart => exact ⟨k, rfl, Nat.le_refl _, by omega, rfl, Lib.hid (.inl rfl), HC, rfl⟩
          case round =>
            obtain ⟨j, rfl, hj1, hj2, rfl, HJ, HR, rfl⟩ := hrel
            by_cases hjl : j < s.size
            · by_cases hnl : s[j] = 10
              · have hb : ((s[j].toNat : Int) != 10) = false := byte_eqb hnl
                have hjk : k < j := by
                  rcases HJ.out with h | h
                  · subst h; exact absurd hnl hne.out
                  · exact h
                have HNL := Lib.hid hnl
                clear hnl
                go_wp2_with fail
                go_roundg (s.size - j)
                case measure => omega
                case rel =>
                  refine ⟨j, rfl, by omega, rfl, Lib.hid ?_, rfl⟩
                  have h1 := HR.out
                  rw [drop_at s j hjl, HNL.out, gap_line, ← HNL.out, ← drop_at s j hjl] at h1
                  exact h1
              · have hb : ((s[j].toNat : Int) != 10) = true := byte_neb hnl
                have HNL := Lib.hid hnl
                clear hnl
                go_wp2_with fail
                go_roundg (s.size - (j + 1))
                case measure => omega
                case rel =>
                  refine ⟨j + 1, rfl, by omega, by omega, rfl, Lib.hid (.inr (by omega)), Lib.hid ?_, by go_num⟩
                  have h1 := HR.out
                  rw [drop_at s j hjl, gap_in _ _ HNL.out] at h1
                  omega
            · have hge : s.size ≤ j := by omega
              go_wp2_with fail
              go_roundg (s.size - j)
              case measure => omega
              case rel =>
                refine ⟨j, rfl, by omega, rfl, Lib.hid ?_, rfl⟩
                have h1 := HR.out
                rw [drop_end s j hge] at h1 ⊢
                exact h1
    · have hge : s.size ≤ k := by omega
      go_wp2_with fail
      go_ret
      refine ⟨ret_int (a := (k : Int)) ?_, rfl⟩
      have h1 := HK.out
      rw [drop_end s k hge] at h1
      have h2 : skipN [] = 0 := rfl
      omega
theorem free_cons (c : UInt8) (t : List UInt8) : free (c :: t) = (!cin 30 c && ((c.toNat : Int) != 46)) := by
  unfold free
  rw [show isB 30 (c :: t) = cin 30 c from rfl, Bool.not_or, List.head?_cons]
  congr 1
  by_cases h : c = 46
  · rw [h]; rfl
  · rw [show ((c.toNat : Int) != 46) = true from byte_neb (d := 46) h]; simp [h]
set_option maxHeartbeats 1000000 in
theorem free_any (s : ByteArray) (a : Int) (w : World) (h0 : 0 ≤ a) :
    Calls Tryd.prog 39 #[.string s, .int .i64 a] w fun e w' => e = .returned (.bool (free ((L s).drop a.toNat))) ∧ w = w' := by
  obtain ⟨k, rfl⟩ := Int.eq_ofNat_of_zero_le h0
  rw [Int.toNat_natCast]
  by_cases hlt : k < s.size
  · have HF := Lib.hid (free_cons s[k] ((L s).drop (k + 1)))
    have HD := Lib.hid (drop_at s k hlt)
    have hdec : decide (s.size ≤ k) = false := by simp; omega
    cases hb : cin 30 s[k] with
    | true =>
      have HB := Lib.hid hb
      clear hb
      go_enter Tryd.func39, Tryd.ntmps39
      go_wp2_with fail
      refine (word_any _ _).mono ?_
      rintro e w' ⟨rfl, rfl⟩
      rw [HB.out]
      go_wp2_with fail
      go_ret
      exact ⟨ret_bool (a := false) (by rw [HD.out, HF.out, HB.out]; rfl), rfl⟩
    | false =>
      have HB := Lib.hid hb
      clear hb
      go_enter Tryd.func39, Tryd.ntmps39
      go_wp2_with fail
      refine (word_any _ _).mono ?_
      rintro e w' ⟨rfl, rfl⟩
      rw [HB.out]
      go_wp2_with fail
      go_ret
      exact ⟨ret_bool (a := ((s[k].toNat : Int) != 46)) (by rw [HD.out, HF.out, HB.out]; rfl), rfl⟩
  · have hge : s.size ≤ k := by omega
    go_enter Tryd.func39, Tryd.ntmps39
    go_wp2_with fail
    go_ret
    exact ⟨ret_bool (a := true) (by rw [drop_end s k hge]; rfl), rfl⟩
set_option maxHeartbeats 1000000 in
theorem rdate_any (s : ByteArray) (a : Int) (w : World) (hs : s.size ≤ 100000) (h0 : 0 ≤ a) (ha : a ≤ s.size) :
    Calls Tryd.prog 38 #[.string s, .int .i64 a] w fun e w' => e = .returned (.bool (isDate ((L s).drop a.toNat))) ∧ w = w' := by
  obtain ⟨k, rfl⟩ := Int.eq_ofNat_of_zero_le h0
  rw [Int.toNat_natCast]
  by_cases hl : s.size < k + 10
  · go_enter Tryd.func38, Tryd.ntmps38
    go_wp2_with fail
    go_ret
    refine ⟨ret_bool (a := false) ?_, rfl⟩
    unfold isDate
    rw [len_drop]
    simp; omega
  · have hl10 : k + 10 ≤ s.size := by omega
    clear hl
    go_enter Tryd.func38, Tryd.ntmps38
    go_wp2_with fail
    go_loopg [5] 10 (fun g x wx => ∃ i : Nat, w = wx ∧ i ≤ 10 ∧ g = 10 - i ∧ Hid (∀ j, j < i → dateAt ((L s).drop k) j = true) ∧ x = .int .i64 i)
    case atStart => exact ⟨0, rfl, by omega, rfl, Lib.hid (by omega), rfl⟩
    case round =>
      obtain ⟨i, rfl, hi, rfl, HI, rfl⟩ := hrel
      by_cases hi10 : i < 10
      · by_cases h47 : i = 4 ∨ i = 7
        · have hd : Hid (dateAt ((L s).drop k) i = (some s[k + i] == some 45)) := by
            refine Lib.hid ?_
            unfold dateAt
            rw [if_pos h47, at_get s k i (by omega)]
          have hsel : ((i : Int) == 4) = true ∨ (((i : Int) == 4) = false ∧ ((i : Int) == 7) = true) := by
            rcases h47 with rfl | rfl
            · left; rfl
            · right; exact ⟨rfl, rfl⟩
          clear h47
          by_cases hm : s[k + i] = 45
          · have hb : ((s[k + i].toNat : Int) != 45) = false := byte_eqb hm
            have HM := Lib.hid hm
            clear hm
            rcases hsel with h4 | ⟨h4, h7⟩
            all_goals
              go_wp2_with fail
              go_roundg (10 - (i + 1))
              case measure => omega
              case rel =>
                refine ⟨i + 1, rfl, by omega, rfl, Lib.hid ?_, by go_num⟩
                intro j hj
                by_cases hji : j = i
                · subst hji; rw [hd.out, HM.out]; rfl
                · exact HI.out j (by omega)
          · have hb : ((s[k + i].toNat : Int) != 45) = true := byte_neb hm
            have HM := Lib.hid hm
            clear hm
            rcases hsel with h4 | ⟨h4, h7⟩
            all_goals
              go_wp2_with fail
              go_ret
              refine ⟨ret_bool (a := false) ?_, rfl⟩
              symm
              refine date_no _ i hi10 ?_
              rw [hd.out]
              simpa using HM.out
        · have hd : Hid (dateAt ((L s).drop k) i = cin 8 s[k + i]) := by
            refine Lib.hid ?_
            unfold dateAt
            rw [if_neg h47, List.drop_drop, drop_at s (k + i) (by omega)]
            rfl
          have h4 : ((i : Int) == 4) = false := by rw [beq_eq_false_iff_ne]; omega
          have h7 : ((i : Int) == 7) = false := by rw [beq_eq_false_iff_ne]; omega
          clear h47
          cases hb : cin 8 s[k + i] with
          | true =>
            have HB := Lib.hid hb
            clear hb
            go_wp2_with fail
            refine (digit_any _ _).mono ?_
            rintro e w' ⟨rfl, rfl⟩
            rw [HB.out]
            go_wp2_with fail
            go_roundg (10 - (i + 1))
            case measure => omega
            case rel =>
              refine ⟨i + 1, rfl, by omega, rfl, Lib.hid ?_, by go_num⟩
              intro j hj
              by_cases hji : j = i
              · subst hji; rw [hd.out, HB.out]
              · exact HI.out j (by omega)
          | false =>
            have HB := Lib.hid hb
            clear hb
            go_wp2_with fail
            refine (digit_any _ _).mono ?_
            rintro e w' ⟨rfl, rfl⟩
            rw [HB.out]
            go_wp2_with fail
            go_ret
            refine ⟨ret_bool (a := false) ?_, rfl⟩
            symm
            refine date_no _ i hi10 ?_
            rw [hd.out, HB.out]
      · have hge : 10 ≤ i := by omega
        go_wp2_with fail
        go_ret
        refine ⟨ret_bool (a := true) ?_, rfl⟩
        symm
        refine date_all _ (by rw [len_drop]; omega) ?_
        intro j hj
        exact HI.out j (by omega)
end Go.Proofs.YtfgngakdhedcgaaDoor
