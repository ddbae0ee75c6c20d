/- The walks of the reference's inside, Payment, Answer, Kind, end, number, name, split. -/
import Derived.Test.YtibgibjmpcajkaaGreatDoorBankMb
import Derived.Test.YtibgibjmpcajkaaGreatDoorBankWr
namespace BankS
open Go
/-- what number makes of any bytes -/
def rfI (a : Int) : Bs → Int
  | [] => a
  | c :: t => rfI (10 * a + (c.toNat : Int) - 48) t
theorem rfI_snoc (a : Int) (t : Bs) (c : UInt8) : rfI a (t ++ [c]) = 10 * rfI a t + (c.toNat : Int) - 48 := by
  induction t generalizing a with
  | nil => rfl
  | cons d t ih => exact ih _
theorem rfI_num (a : Nat) (t : Bs) (h : ∀ c ∈ t, 48 ≤ c.toNat ∧ c.toNat ≤ 57) : rfI (a : Int) t = (numF a t : Int) := by
  induction t generalizing a with
  | nil => rfl
  | cons c t ih =>
    have hc := h c List.mem_cons_self
    have h1 : rfI (a : Int) (c :: t) = rfI (10 * (a : Int) + (c.toNat : Int) - 48) t := rfl
    have h2 : numF a (c :: t) = numF (10 * a + (c.toNat - 48)) t := rfl
    rw [h1, h2, ← ih _ (fun d hd => h d (List.mem_cons_of_mem _ hd))]
    congr 1; omega
def rnumI (t : Bs) : Int := rfI 0 (t.take 13)
theorem rnumI_dec (n : Nat) (h : (Lib.decDigits n).length ≤ 13) : rnumI (Lib.decDigits n) = (n : Int) := by
  unfold rnumI
  rw [List.take_of_length_le h]
  have := rfI_num 0 (Lib.decDigits n) (dec_digits n)
  rw [numF_dec] at this
  exact this
end BankS
namespace Go.Proofs.YtibgibjmpcajkaaGreatDoor
open Go.RowKit BankS
theorem p10_le (k : Nat) (h : k ≤ 13) : p10 k ≤ 10000000000000 := by
  have e : p10 13 = 10000000000000 := by decide
  obtain ⟨j, hj⟩ := Nat.exists_eq_add_of_le h
  have := p10_mono k j
  rw [← hj, e] at this
  exact this
theorem rInside_any (n : Int) (w : World) :
    Calls Tryz.prog 71 #[.int .i64 n] w fun e w' => e = .returned (.bool (numOk n)) ∧ w = w' := by
  go_enter Tryz.func71, Tryz.ntmps71
  by_cases h1 : 0 ≤ n
  · by_cases h2 : n ≤ 999999999
    · have HN : Hid (numOk n = true) := Lib.hid (decide_eq_true ⟨h1, h2⟩)
      go_wp2_with fail
      go_ret
      exact ⟨ret_nm HN.out.symm, rfl⟩
    · have HN : Hid (numOk n = false) := Lib.hid (decide_eq_false (by omega))
      go_wp2_with fail
      go_ret
      exact ⟨ret_nm HN.out.symm, rfl⟩
  · have HN : Hid (numOk n = false) := Lib.hid (decide_eq_false (by omega))
    go_wp2_with fail
    go_ret
    exact ⟨ret_nm HN.out.symm, rfl⟩
set_option maxHeartbeats 2000000 in
theorem rPayment_any (id : Int) (s : ByteArray) (c d : Int) (w : World) (hs : s.size ≤ 1000000) :
    Calls Tryz.prog 35 #[.agg #[.int .i64 id, .string s, .int .i64 c, .int .i64 d]] w (RetB (payOk (id, L s, c, d)) w) := by
  have B1 : Hid (Below w.heap.size w (w.alloc (.cells #[.int .i64 id, .string s, .int .i64 c, .int .i64 d] 27))) := Lib.hid ((Below.refl _ _).alloc (Nat.le_refl _) _)
  have HU : Hid (payOk (id, L s, c, d) = (numOk id && isName (L s) && centsOk c && dayOk d)) := Lib.hid rfl
  go_enter Tryz.func35, Tryz.ntmps35
  go_wp2_with fail
  refine (rName_any s _ (by omega)).mono ?_
  rintro e w' ⟨rfl, rfl⟩
  go_wp2_with fail
  refine (rInside_any id _).mono ?_
  rintro e w' ⟨rfl, rfl⟩
  cases hb : numOk id with
  | false =>
    have HO : Hid (payOk (id, L s, c, d) = false) := Lib.hid (by rw [HU.out, hb]; rfl)
    clear hb HU
    generalize isName (L s) = bn
    go_wp2_with fail
    go_ret
    exact RetB.mk (by first | exact HO.out.symm | (rw [HO.out]; exact decide_eq_false (by omega))) B1.out
  | true =>
    cases ha : isName (L s) with
    | false =>
      have HO : Hid (payOk (id, L s, c, d) = false) := Lib.hid (by rw [HU.out, hb, ha]; rfl)
      clear hb ha HU
      go_wp2_with fail
      go_ret
      exact RetB.mk (by first | exact HO.out.symm | (rw [HO.out]; exact decide_eq_false (by omega))) B1.out
    | true =>
      have HV : Hid (payOk (id, L s, c, d) = (centsOk c && dayOk d)) := Lib.hid (by rw [HU.out, hb, ha]; rfl)
      clear hb ha HU
      by_cases hc : 1 ≤ c ∧ c ≤ 1000000000000
      · obtain ⟨c1, c2⟩ := hc
        have HW : Hid (payOk (id, L s, c, d) = dayOk d) := Lib.hid (by rw [HV.out, show centsOk c = true from decide_eq_true ⟨c1, c2⟩]; rfl)
        by_cases hd : 0 ≤ d ∧ d ≤ 36524
        · obtain ⟨d1, d2⟩ := hd
          have HO : Hid (payOk (id, L s, c, d) = true) := Lib.hid (by rw [HW.out]; exact decide_eq_true ⟨d1, d2⟩)
          go_wp2_with fail
          go_ret
          exact RetB.mk (by first | exact HO.out.symm | (rw [HO.out]; exact decide_eq_false (by omega))) B1.out
        · have HO : Hid (payOk (id, L s, c, d) = false) := Lib.hid (by rw [HW.out]; exact decide_eq_false hd)
          have hx : d < 0 ∨ (0 ≤ d ∧ 36524 < d) := by omega
          clear hd
          rcases hx with x1 | ⟨x1, x2⟩
          all_goals
            go_wp2_with fail
            go_ret
            exact RetB.mk (by first | exact HO.out.symm | (rw [HO.out]; exact decide_eq_false (by omega))) B1.out
      · have HO : Hid (payOk (id, L s, c, d) = false) := Lib.hid (by rw [HV.out, show centsOk c = false from decide_eq_false hc]; rfl)
        have hx : c < 1 ∨ (1 ≤ c ∧ 1000000000000 < c) := by omega
        clear hc
        rcases hx with x1 | ⟨x1, x2⟩
        all_goals
          go_wp2_with fail
          go_ret
          exact RetB.mk (by first | exact HO.out.symm | (rw [HO.out]; exact decide_eq_false (by omega))) B1.out
set_option maxHeartbeats 4000000 in
theorem rAnswer_any (s id k c d : Int) (w : World) :
    Calls Tryz.prog 49 #[.agg #[.int .i64 s, .int .i64 id, .int .i64 k, .int .i64 c, .int .i64 d]] w (RetB (ansOk (s, id, k, c, d)) w) := by
  have B1 : Hid (Below w.heap.size w (w.alloc (.cells #[.int .i64 s, .int .i64 id, .int .i64 k, .int .i64 c, .int .i64 d] 54))) := Lib.hid ((Below.refl _ _).alloc (Nat.le_refl _) _)
  have HU : Hid (ansOk (s, id, k, c, d) = (numOk s && numOk id && dayOk d && (if k = 2 ∨ k = 4 then centsOk c else decide ((k = 1 ∨ k = 3) ∧ c = 0)))) := Lib.hid rfl
  go_enter Tryz.func49, Tryz.ntmps49
  go_wp2_with fail
  refine (rInside_any s _).mono ?_
  rintro e w' ⟨rfl, rfl⟩
  go_wp2_with fail
  refine (rInside_any id _).mono ?_
  rintro e w' ⟨rfl, rfl⟩
  cases ha : numOk s with
  | false =>
    have HO : Hid (ansOk (s, id, k, c, d) = false) := Lib.hid (by rw [HU.out, ha]; rfl)
    clear ha HU
    generalize numOk id = bn
    go_wp2_with fail
    go_ret
    exact RetB.mk (by first | exact HO.out.symm | (rw [HO.out]; exact decide_eq_false (by omega))) B1.out
  | true =>
    cases hb : numOk id with
    | false =>
      have HO : Hid (ansOk (s, id, k, c, d) = false) := Lib.hid (by rw [HU.out, ha, hb]; rfl)
      clear hb ha HU
      go_wp2_with fail
      go_ret
      exact RetB.mk (by first | exact HO.out.symm | (rw [HO.out]; exact decide_eq_false (by omega))) B1.out
    | true =>
      by_cases hd : 0 ≤ d ∧ d ≤ 36524
      rotate_left
      · have HO : Hid (ansOk (s, id, k, c, d) = false) := Lib.hid (by rw [HU.out, ha, hb, show dayOk d = false from decide_eq_false hd]; rfl)
        have hx : d < 0 ∨ (0 ≤ d ∧ 36524 < d) := by omega
        clear hd ha hb HU
        rcases hx with x1 | ⟨x1, x2⟩
        all_goals
          go_wp2_with fail
          go_ret
          exact RetB.mk (by first | exact HO.out.symm | (rw [HO.out]; exact decide_eq_false (by omega))) B1.out
      have HV : Hid (ansOk (s, id, k, c, d) = (if k = 2 ∨ k = 4 then centsOk c else decide ((k = 1 ∨ k = 3) ∧ c = 0))) := Lib.hid (by rw [HU.out, ha, hb, show dayOk d = true from decide_eq_true hd]; rfl)
      obtain ⟨d1, d2⟩ := hd
      clear ha hb HU
      by_cases hk : k = 2 ∨ k = 4
      · have HW : Hid (ansOk (s, id, k, c, d) = centsOk c) := Lib.hid (by rw [HV.out, if_pos hk])
        by_cases hc : 1 ≤ c ∧ c ≤ 1000000000000
        · obtain ⟨c1, c2⟩ := hc
          have HO : Hid (ansOk (s, id, k, c, d) = true) := Lib.hid (by rw [HW.out]; exact decide_eq_true ⟨c1, c2⟩)
          rcases hk with rfl | rfl
          all_goals
            go_wp2_with fail
            go_ret
            exact RetB.mk (by first | exact HO.out.symm | (rw [HO.out]; exact decide_eq_false (by omega))) B1.out
        · have HO : Hid (ansOk (s, id, k, c, d) = false) := Lib.hid (by rw [HW.out]; exact decide_eq_false hc)
          have hx : c < 1 ∨ (1 ≤ c ∧ 1000000000000 < c) := by omega
          clear hc
          rcases hk with rfl | rfl
          all_goals
            rcases hx with x1 | ⟨x1, x2⟩
            all_goals
              go_wp2_with fail
              go_ret
              exact RetB.mk (by first | exact HO.out.symm | (rw [HO.out]; exact decide_eq_false (by omega))) B1.out
      · have HW : Hid (ansOk (s, id, k, c, d) = decide ((k = 1 ∨ k = 3) ∧ c = 0)) := Lib.hid (by rw [HV.out, if_neg hk])
        by_cases hq : k = 1 ∨ k = 3
        · by_cases hc : c = 0
          · have HO : Hid (ansOk (s, id, k, c, d) = true) := Lib.hid (by rw [HW.out]; exact decide_eq_true ⟨hq, hc⟩)
            subst hc
            clear hk
            rcases hq with rfl | rfl
            all_goals
              go_wp2_with fail
              go_ret
              exact RetB.mk (by first | exact HO.out.symm | (rw [HO.out]; exact decide_eq_false (by omega))) B1.out
          · have HO : Hid (ansOk (s, id, k, c, d) = false) := Lib.hid (by rw [HW.out]; exact decide_eq_false (fun h => hc h.2))
            have bc : (c == 0) = false := by rw [beq_eq_false_iff_ne]; exact hc
            clear hc hk
            rcases hq with rfl | rfl
            all_goals
              go_wp2_with fail
              go_ret
              exact RetB.mk (by first | exact HO.out.symm | (rw [HO.out]; exact decide_eq_false (by omega))) B1.out
        · have HO : Hid (ansOk (s, id, k, c, d) = false) := Lib.hid (by rw [HW.out]; exact decide_eq_false (fun h => hq h.1))
          have e1 : (k == 1) = false := by rw [beq_eq_false_iff_ne]; omega
          have e2 : (k == 2) = false := by rw [beq_eq_false_iff_ne]; omega
          have e3 : (k == 3) = false := by rw [beq_eq_false_iff_ne]; omega
          have e4 : (k == 4) = false := by rw [beq_eq_false_iff_ne]; omega
          clear hq hk
          go_wp2_with fail
          go_ret
          exact RetB.mk (by first | exact HO.out.symm | (rw [HO.out]; exact decide_eq_false (by omega))) B1.out
theorem rKind_any (k : Int) (w : World) :
    Calls Tryz.prog 50 #[.int .i64 k] w fun e w' => ∃ s : ByteArray, e = .returned (.string s) ∧ s.size ≤ 7 ∧ Hid (L s = kindT k) ∧ w = w' := by
  go_enter Tryz.func50, Tryz.ntmps50
  by_cases h1 : k = 1
  · subst h1
    go_wp2_with fail
    go_ret
    exact ⟨_, rfl, by decide, Lib.hid rfl, rfl⟩
  by_cases h2 : k = 2
  · subst h2
    go_wp2_with fail
    go_ret
    exact ⟨_, rfl, by decide, Lib.hid rfl, rfl⟩
  by_cases h3 : k = 3
  · subst h3
    go_wp2_with fail
    go_ret
    exact ⟨_, rfl, by decide, Lib.hid rfl, rfl⟩
  have HK : Hid (kindT k = [98, 97, 99, 107]) := Lib.hid (by unfold kindT; rw [if_neg h1, if_neg h2, if_neg h3])
  have e1 : (k == 1) = false := by rw [beq_eq_false_iff_ne]; exact h1
  have e2 : (k == 2) = false := by rw [beq_eq_false_iff_ne]; exact h2
  have e3 : (k == 3) = false := by rw [beq_eq_false_iff_ne]; exact h3
  clear h1 h2 h3
  go_wp2_with fail
  go_ret
  exact ⟨_, rfl, by decide, Lib.hid HK.out.symm, rfl⟩
set_option maxHeartbeats 2000000 in
theorem rEnd_any (s : ByteArray) (n : Nat) (w : World) (hs : s.size ≤ 4294967200) (hn : n < 1000000000000000) :
    Calls Tryz.prog 38 #[.string s, .int .i64 n] w (RetStr (L s ++ last n (chk (L s))) w) := by
  go_enter Tryz.func38, Tryz.ntmps38
  go_wp2_with fail
  refine (rNumber_any n 1 _ (by omega) (by omega) hn).mono ?_
  rintro e w1 ⟨s1, rfl, z1, H1, B1⟩
  have t1 := B1.out.size
  go_wp2_with fail
  refine (rCheck_any s _ (by unfold maxLen; omega)).mono ?_
  rintro e w' ⟨rfl, rfl⟩
  have hc := chk_lt (L s)
  obtain ⟨ck, hck⟩ : ∃ ck, ck = chk (L s) := ⟨_, rfl⟩
  rw [← hck] at hc ⊢
  have HCK := Lib.hid hck
  clear hck
  go_wp2_with fail
  refine (rNumber_any ck 3 _ (by omega) (by omega) (by omega)).mono ?_
  rintro e w2 ⟨s2, rfl, z2, H2, b2⟩
  have B2 : Hid (Below w.heap.size w w2) := Lib.hid (B1.out.trans (b2.out.mono t1))
  go_wp2_with fail
  go_ret
  refine RetStr.mk ?_ B2.out
  unfold last
  rw [HCK.out] at H2
  simp only [L_app, H1.out, H2.out, pad_dec, List.append_assoc]
set_option maxHeartbeats 2000000 in
theorem rNumI_any (s : ByteArray) (w : World) (hs : s.size ≤ 4294967200) :
    Calls Tryz.prog 56 #[.string s] w fun e w' => ∃ n : Int, e = .returned (.int .i64 n) ∧ Hid (n = rnumI (L s)) ∧ -300000000000000 ≤ n ∧ n ≤ 300000000000000 ∧ w = w' := by
  go_enter Tryz.func56, Tryz.ntmps56
  go_wp2_with fail
  go_loop [3, 4] (fun x i => ∃ (k : Nat) (n : Int), k ≤ s.size ∧ k ≤ 13 ∧ Hid (n = rfI 0 ((L s).take k)) ∧ Hid (-(23 * (p10 k : Int) - 23) ≤ n ∧ n ≤ 23 * (p10 k : Int) - 23) ∧ i = .int .i64 k ∧ x = .int .i64 n) (fun _ i => 13 - (intOf i).toNat)
  case atStart => exact ⟨0, 0, by omega, by omega, Lib.hid rfl, Lib.hid (by have : p10 0 = 1 := rfl; omega), rfl, rfl⟩
  case round =>
    obtain ⟨k, n, hk, hk13, HN, HB, rfl, rfl⟩ := hrel
    have hp := p10_le k hk13
    have n0 : -300000000000000 ≤ n := by have := HB.out; omega
    have n1 : n ≤ 300000000000000 := by have := HB.out; omega
    by_cases hlt : k < s.size
    · by_cases h13 : k < 13
      · have hb := s[k].toNat_lt
        have HA : Hid (10 * n + (s[k].toNat : Int) - 48 = rfI 0 ((L s).take (k + 1))) := Lib.hid (by rw [take_at s k hlt, rfI_snoc, ← HN.out])
        have HB2 : Hid (-(23 * (p10 (k + 1) : Int) - 23) ≤ 10 * n + (s[k].toNat : Int) - 48 ∧ 10 * n + (s[k].toNat : Int) - 48 ≤ 23 * (p10 (k + 1) : Int) - 23) := Lib.hid (by
          have h5 : p10 (k + 1) = 10 * p10 k := rfl
          have := HB.out
          omega)
        clear hp
        go_wp2_with fail
        go_round
        case rel => exact ⟨k + 1, 10 * n + (s[k].toNat : Int) - 48, by omega, by omega, HA, HB2, by go_num, by first | rfl | exact congrArg (Value.int .i64) (by omega)⟩
        case measure => simp [intOf]; omega
      · have HE : Hid (n = rnumI (L s)) := Lib.hid (by unfold rnumI; rw [HN.out, show k = 13 from by omega])
        clear hp
        go_wp2_with fail
        go_ret
        exact ⟨n, rfl, HE, n0, n1, rfl⟩
    · have HE : Hid (n = rnumI (L s)) := Lib.hid (by unfold rnumI; rw [HN.out, List.take_of_length_le (by rw [L_len]; omega), List.take_of_length_le (by rw [L_len]; omega)])
      clear hp
      go_wp2_with fail
      go_ret
      exact ⟨n, rfl, HE, n0, n1, rfl⟩
theorem rNameI_any (s : ByteArray) (w : World) (hs : s.size ≤ 4294967200) :
    Calls Tryz.prog 57 #[.string s] w fun e w' => ∃ z : ByteArray, e = .returned (.string z) ∧ z.size ≤ s.size ∧ Hid (L z = (L s).take ((L s).length - 3)) ∧ w = w' := by
  go_enter Tryz.func57, Tryz.ntmps57
  by_cases h3 : 3 ≤ s.size
  · have e1 : ((s.size : Int) - 3).toNat = s.size - 3 := by omega
    have e2 : max (0 : Int) ((s.size : Int) - 3) = (s.size : Int) - 3 := by omega
    go_wp2_with fail
    go_ret
    refine ⟨_, rfl, by rw [ByteArray.size_extract]; omega, Lib.hid ?_, rfl⟩
    rw [L_len]
    exact Lib.extract_from_zero s _
  · have e2 : max (0 : Int) ((s.size : Int) - 3) = 0 := by omega
    go_wp2_with fail
    go_ret
    refine ⟨_, rfl, Nat.zero_le _, Lib.hid ?_, rfl⟩
    rw [L_len, show s.size - 3 = 0 from by omega]
    rfl
theorem drop_split (s : ByteArray) (a k : Nat) (ha : a ≤ k) (hk : k < s.size) : (L s).drop a = ((L s).drop a).take (k - a) ++ s[k] :: (L s).drop (k + 1) := by
  have e : ((L s).drop a).drop (k - a) = s[k] :: (L s).drop (k + 1) := by
    rw [List.drop_drop, show a + (k - a) = k from by omega, ← List.getElem_cons_drop (by rw [L_len]; exact hk)]; rfl
  rw [← e, List.take_append_drop]
theorem L_sub (s : ByteArray) (a k : Nat) : L (s.extract a k) = ((L s).drop a).take (k - a) := by
  show (s.extract a k).data.toList = _
  rw [Lib.extract_data]
theorem L_end (s : ByteArray) (a : Nat) : L (s.extract a s.size) = (L s).drop a := Lib.extract_to_end s a
set_option maxHeartbeats 4000000 in
theorem rSplit_any (s : ByteArray) (x : UInt8) (w : World) (hs : s.size ≤ 100000) :
    Calls Tryz.prog 54 #[.string s, .int .u8 x.toNat] w fun e w' => ∃ (v : Value) (xs : List ByteArray), e = .returned v ∧ Hid (xs.map L = splitL x (L s)) ∧ Hid (w'.ownsRow w.heap.size 9 1 v xs.length (cellsL strC xs)) ∧ Hid (∀ z ∈ xs, z.size ≤ s.size) ∧ xs.length ≤ s.size + 1 ∧ Hid (Below w.heap.size w w') := by
  obtain ⟨i0, hi, hz0, hz1, hz2⟩ := info_parts Tryz.infoStr
  go_enter Tryz.func54, Tryz.ntmps54
  go_wp2_with fail
  go_loopg [5, 6, 7] s.size (fun g v f i wx => ∃ (k a : Nat) (xs : List ByteArray), a ≤ k ∧ k ≤ s.size ∧ g = s.size - k ∧ xs.length ≤ a ∧ Hid (wx.ownsRow w.heap.size 9 1 v xs.length (cellsL strC xs)) ∧ Hid (splitL x (L s) = xs.map L ++ splitL x ((L s).drop a)) ∧ Hid (x ∉ ((L s).drop a).take (k - a)) ∧ Hid (∀ z ∈ xs, z.size ≤ s.size) ∧ Hid (Below w.heap.size w wx) ∧ f = .int .i64 a ∧ i = .int .i64 k)
  case atStart => exact ⟨0, 0, [], by omega, by omega, rfl, by simp, Lib.hid (World.ownsRow_nil _ _ _ _), Lib.hid rfl, Lib.hid (by simp), Lib.hid (fun z hz => by cases hz), Lib.hid (Below.refl _ _), rfl, rfl⟩
  case round =>
    obtain ⟨k, a, xs, hak, hk, rfl, hxl, HO, HSp, HNo, HSz, HB, rfl, rfl⟩ := hrel
    have hszr := HB.out.size
    by_cases hlt : k < s.size
    · have HD := Lib.hid (drop_split s a k hak hlt)
      by_cases hx : s[k] = x
      · have hb : ((s[k].toNat : Int) == (x.toNat : Int)) = true := by rw [hx]; exact beq_self_eq_true _
        have HSp2 : Hid (splitL x (L s) = (xs ++ [s.extract a k]).map L ++ splitL x ((L s).drop (k + 1))) := Lib.hid (by
          rw [HSp.out, HD.out, hx, splitL_at x _ _ HNo.out, List.map_append, List.map_cons, List.map_nil, L_sub s a k, List.append_assoc]; rfl)
        clear hx
        go_wp2_with (at_builtin; refine wpList_append_own _ rfl _ _ 59 rfl w.heap.size 9 i0 _ 1 16 Tryz.underlying59 hi hz0 hz1 hz2 rfl (by decide) _ _ _ rfl (HO.out.alloc _) ⟨wr.heap.size, 0, none⟩ 1 1 [.string (s.extract a k)] rfl rfl (cells_new wr #[.string (s.extract a k)] _) (by simp [Value.oneCell']) (by unfold maxLen; omega) (by omega) (by simp; omega) ?_; intro v6 w6 hown6 hgrow6 _)
        have HO6 := Lib.hid hown6
        have HB6 : Hid (Below w.heap.size w w6) := Lib.hid ((HB.out.alloc hszr _).grown hgrow6 (by simp; omega) (fun j hj => (HO.out.lt j hj).1))
        clear hown6 hgrow6
        go_wp2_with fail
        go_roundg (s.size - (k + 1))
        case measure => omega
        case rel =>
          refine ⟨k + 1, k + 1, xs ++ [s.extract a k], by omega, by omega, rfl, by rw [List.length_append]; show xs.length + 1 ≤ _; omega, Lib.hid ?_, HSp2, Lib.hid (by rw [Nat.sub_self]; simp), Lib.hid (fun z hz => ?_), HB6, by go_num, by go_num⟩
          · rw [cellsL_snoc, List.length_append]; exact HO6.out
          · rw [List.mem_append, List.mem_singleton] at hz
            rcases hz with hz | rfl
            · exact HSz.out z hz
            · rw [ByteArray.size_extract]; omega
      · have hb : ((s[k].toNat : Int) == (x.toNat : Int)) = false := by
          rw [beq_eq_false_iff_ne]; intro e; exact hx (UInt8.toNat_inj.1 (Int.ofNat.inj e))
        have HN2 : Hid (x ∉ ((L s).drop a).take (k + 1 - a)) := Lib.hid (by
          have e : ((L s).drop a).take (k + 1 - a) = ((L s).drop a).take (k - a) ++ [s[k]] := seg_snoc s a k hak hlt
          rw [e, List.mem_append, List.mem_singleton]
          rintro (h | h)
          · exact HNo.out h
          · exact hx h.symm)
        clear hx
        go_wp2_with fail
        go_roundg (s.size - (k + 1))
        case measure => omega
        case rel => exact ⟨k + 1, a, xs, by omega, by omega, rfl, hxl, HO, HSp, HN2, HSz, HB, rfl, by go_num⟩
    · obtain rfl : k = s.size := by omega
      have HE : Hid ((xs ++ [s.extract a s.size]).map L = splitL x (L s)) := Lib.hid (by
        rw [HSp.out, splitL_no x ((L s).drop a) (by have := HNo.out; rw [List.take_of_length_le (by rw [List.length_drop, L_len]; exact Nat.le_refl _)] at this; exact this), List.map_append, List.map_cons, List.map_nil, L_end])
      go_wp2_with (at_builtin; refine wpList_append_own _ rfl _ _ 59 rfl w.heap.size 9 i0 _ 1 16 Tryz.underlying59 hi hz0 hz1 hz2 rfl (by decide) _ _ _ rfl (HO.out.alloc _) ⟨wr.heap.size, 0, none⟩ 1 1 [.string (s.extract a s.size)] rfl rfl (cells_new wr #[.string (s.extract a s.size)] _) (by simp [Value.oneCell']) (by unfold maxLen; omega) (by omega) (by simp; omega) ?_; intro v6 w6 hown6 hgrow6 _)
      have HO6 := Lib.hid hown6
      have HB6 : Hid (Below w.heap.size w w6) := Lib.hid ((HB.out.alloc hszr _).grown hgrow6 (by simp; omega) (fun j hj => (HO.out.lt j hj).1))
      clear hown6 hgrow6
      go_wp2_with fail
      go_ret
      refine ⟨_, xs ++ [s.extract a s.size], rfl, HE, Lib.hid ?_, Lib.hid (fun z hz => ?_), by rw [List.length_append]; show xs.length + 1 ≤ _; omega, HB6⟩
      · rw [cellsL_snoc, List.length_append]; exact HO6.out
      · rw [List.mem_append, List.mem_singleton] at hz
        rcases hz with hz | rfl
        · exact HSz.out z hz
        · rw [ByteArray.size_extract]; omega
end Go.Proofs.YtibgibjmpcajkaaGreatDoor
