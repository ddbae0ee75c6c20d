/- The walks of the reference's small functions: Digit, Name, Number, Numbered, Account, Check. -/
import Derived.Test.YtibgibjmpcajkaaGreatDoorBankMp
namespace BankS
open Go
abbrev dgs : ByteArray := ⟨#[48, 49, 50, 51, 52, 53, 54, 55, 56, 57, 97, 98, 99, 100, 101, 102, 103, 104, 105, 106, 107, 108, 109, 110, 111, 112, 113, 114, 115, 116, 117, 118, 119, 120, 121, 122, 95]⟩
def digI (c : UInt8) : Int := if nameB c then (val c : Int) else -1
theorem vall : (List.range 256).all (fun n => (!nameB (UInt8.ofNat n)) || (decide (val (UInt8.ofNat n) < 37) && dgs.data.toList.getD (val (UInt8.ofNat n)) 0 == UInt8.ofNat n)) = true := by decide +kernel
theorem dall : (List.range 37).all (fun i => nameB (dgs.data.toList.getD i 0) && val (dgs.data.toList.getD i 0) == i) = true := by decide +kernel
theorem dgs_at (i : Nat) (h : i < 37) : dgs.data.toList.getD i 0 = dgs[i]'h := by
  rw [List.getD_eq_getElem?_getD, List.getElem?_eq_getElem (by exact h)]; rfl
theorem dg_yes (i : Nat) (h : i < 37) : digI (dgs[i]'h) = (i : Int) := by
  have := List.all_eq_true.1 dall i (List.mem_range.2 h)
  rw [Bool.and_eq_true, dgs_at i h] at this
  unfold digI
  rw [if_pos this.1, eq_of_beq this.2]
theorem dg_no (c : UInt8) (h : ∀ i (hi : i < 37), dgs[i]'hi ≠ c) : digI c = -1 := by
  unfold digI
  by_cases hn : nameB c = true
  · have := List.all_eq_true.1 vall c.toNat (List.mem_range.2 c.toNat_lt)
    rw [UInt8.ofNat_toNat, hn] at this
    simp only [Bool.not_true, Bool.false_or, Bool.and_eq_true, decide_eq_true_eq] at this
    exact (h _ this.1 (by rw [← dgs_at _ this.1]; exact eq_of_beq this.2)).elim
  · rw [if_neg hn]
theorem digI_name (c : UInt8) (h : nameB c = true) : digI c = (val c : Int) ∧ val c < 37 := by
  have := List.all_eq_true.1 vall c.toNat (List.mem_range.2 c.toNat_lt)
  rw [UInt8.ofNat_toNat, h] at this
  simp only [Bool.not_true, Bool.false_or, Bool.and_eq_true, decide_eq_true_eq] at this
  exact ⟨if_pos h, this.1⟩
theorem digI_bd (c : UInt8) : -1 ≤ digI c ∧ digI c ≤ 36 ∧ (digI c < 0 ↔ nameB c = false) := by
  by_cases h : nameB c = true
  · obtain ⟨h1, h2⟩ := digI_name c h
    rw [h1, h]
    exact ⟨by omega, by omega, ⟨fun h3 => by omega, fun h3 => by cases h3⟩⟩
  · have e : digI c = -1 := if_neg h
    rw [e]
    exact ⟨by omega, by omega, by simp [h]⟩
/-- digits: like pad, but nothing for no digit of 0 -/
def padZ (n k : Nat) : Bs := if n = 0 ∧ k = 0 then [] else pad n k
theorem padZ_step (n k : Nat) (h : ¬ (n = 0 ∧ k = 0)) : padZ n k = padZ (n / 10) (k - 1) ++ [UInt8.ofNat (48 + n % 10)] := by
  unfold padZ
  rw [if_neg h]
  by_cases h10 : n < 10
  · rw [show n / 10 = 0 from by omega, show n % 10 = n from by omega]
    unfold pad
    rw [Lib.decDigits_one h10, Lib.decDigits_one (by omega : 0 < 10)]
    by_cases hk : k - 1 = 0
    · rw [if_pos ⟨rfl, hk⟩]
      simp only [List.length_cons, List.length_nil]
      rw [show k - (0 + 1) = 0 from by omega]; rfl
    · rw [if_neg (by omega)]
      simp only [List.length_cons, List.length_nil]
      rw [show k - (0 + 1) = (k - 1 - (0 + 1)) + 1 from by omega, List.replicate_succ']
      rfl
  · rw [if_neg (by omega)]
    unfold pad
    have e : Lib.decDigits n = Lib.decDigits (n / 10) ++ [UInt8.ofNat (48 + n % 10)] := by
      rw [Lib.decDigits, dif_neg h10]
    rw [e, List.length_append, ← List.append_assoc]
    simp only [List.length_cons, List.length_nil]
    rw [show k - ((Lib.decDigits (n / 10)).length + (0 + 1)) = k - 1 - (Lib.decDigits (n / 10)).length from by omega]
theorem padZ_pos (n k : Nat) (h : 1 ≤ k) : padZ n k = pad n k := by unfold padZ; rw [if_neg (by omega)]
theorem pad_dec (n : Nat) : pad n 1 = Lib.decDigits n := by
  unfold pad
  rw [show 1 - (Lib.decDigits n).length = 0 from by have := dec_pos n; omega]; rfl
theorem pad_le (n k : Nat) : (pad n k).length ≤ k + (Lib.decDigits n).length := by
  unfold pad; rw [List.length_append, List.length_replicate]; omega
/-- account numbers, as the reference sees them -/
theorem accB_ref (t : Bs) : accB t = (decide (4 ≤ t.length) && isName (t.take (t.length - 3)) && (account (t.take (t.length - 3)) == t)) := by
  rw [Bool.eq_iff_iff]
  constructor
  · intro h
    unfold accB at h
    rw [Bool.and_eq_true] at h
    have e := (eq_of_beq h.2).symm
    have hl : t.length = (befL 45 t).length + 3 := by
      have := congrArg List.length e
      unfold account at this
      rw [List.length_append, List.length_cons, pad2 _ (by have := acc_lt (befL 45 t); omega)] at this
      exact this
    have ht : t.take (t.length - 3) = befL 45 t := by
      rw [show t.length - 3 = (befL 45 t).length from by omega]
      have := congrArg (List.take (befL 45 t).length) e
      unfold account at this
      rw [List.take_left] at this
      exact this
    rw [ht, h.1, h.2]
    have hp : 1 ≤ (befL 45 t).length := by
      have := h.1
      cases hq : befL 45 t with
      | nil => rw [hq] at this; cases this
      | cons a b => simp
    simp; omega
  · intro h
    rw [Bool.and_eq_true, Bool.and_eq_true] at h
    have e := eq_of_beq h.2
    have hb : befL 45 t = t.take (t.length - 3) := by
      have : befL 45 (account (t.take (t.length - 3))) = t.take (t.length - 3) := bef_at 45 _ _ (name_no 45 (by decide) _ h.1.2)
      rw [e] at this
      exact this
    unfold accB
    rw [hb, h.1.2, h.2]; rfl
end BankS
namespace Go.Proofs.YtibgibjmpcajkaaGreatDoor
open Go.RowKit BankS
set_option maxHeartbeats 1000000 in
theorem rDigit_any (c : UInt8) (w : World) :
    Calls Tryz.prog 72 #[.int .u8 c.toNat] w fun e w' => ∃ d : Int, e = .returned (.int .i64 d) ∧ Hid (d = digI c) ∧ w = w' := by
  go_enter Tryz.func72, Tryz.ntmps72
  go_wp2_with fail
  go_loop [3] (fun i => ∃ k : Nat, k ≤ 37 ∧ Hid (∀ i (hi : i < 37), i < k → dgs[i]'hi ≠ c) ∧ i = .int .i64 k) (fun i => 37 - (intOf i).toNat)
  case atStart => exact ⟨0, by omega, Lib.hid (fun i _ h => by omega), rfl⟩
  case round =>
    obtain ⟨k, hk, HK, rfl⟩ := hrel
    by_cases hlt : k < 37
    · by_cases he : dgs[k]'hlt = c
      · have hb : (((({ data := #[48, 49, 50, 51, 52, 53, 54, 55, 56, 57, 97, 98, 99, 100, 101, 102, 103, 104, 105, 106, 107, 108, 109, 110, 111, 112, 113, 114, 115, 116, 117, 118, 119, 120, 121, 122, 95] } : ByteArray)[k]'hlt).toNat : Int) == (c.toNat : Int)) = true := by rw [show ({ data := #[48, 49, 50, 51, 52, 53, 54, 55, 56, 57, 97, 98, 99, 100, 101, 102, 103, 104, 105, 106, 107, 108, 109, 110, 111, 112, 113, 114, 115, 116, 117, 118, 119, 120, 121, 122, 95] } : ByteArray)[k]'hlt = c from he]; exact beq_self_eq_true _
        have HE : Hid ((k : Int) = digI c) := Lib.hid (by rw [← he, dg_yes k hlt])
        clear he
        go_wp2_with fail
        go_ret
        exact ⟨k, rfl, HE, rfl⟩
      · have hb : (((({ data := #[48, 49, 50, 51, 52, 53, 54, 55, 56, 57, 97, 98, 99, 100, 101, 102, 103, 104, 105, 106, 107, 108, 109, 110, 111, 112, 113, 114, 115, 116, 117, 118, 119, 120, 121, 122, 95] } : ByteArray)[k]'hlt).toNat : Int) == (c.toNat : Int)) = false := by
          rw [beq_eq_false_iff_ne]
          intro e
          exact he (UInt8.toNat_inj.1 (by have e2 : (dgs[k]'hlt).toNat = c.toNat := Int.ofNat.inj e; exact e2))
        have HE : Hid (∀ i (hi : i < 37), i < k + 1 → dgs[i]'hi ≠ c) := Lib.hid (fun i hi h => by
          rcases Nat.lt_or_ge i k with h1 | h1
          · exact HK.out i hi h1
          · obtain rfl : i = k := by omega
            exact he)
        clear he
        go_wp2_with fail
        go_round
        case rel => exact ⟨k + 1, by omega, HE, by go_num⟩
        case measure => simp [intOf]; omega
    · go_wp2_with fail
      go_ret
      exact ⟨-1, rfl, Lib.hid (dg_no c (fun i hi => HK.out i hi (by omega))).symm, rfl⟩
theorem isName_at (s : ByteArray) (h : 0 < s.size) : isName (L s) = (decide (s.size ≤ 16) && lowB (s[0]'h) && (L s).all nameB) := by
  have h0 : (L s)[0]? = some (s[0]'h) := by rw [List.getElem?_eq_getElem (by rw [L_len]; exact h)]; rfl
  have hl := L_len s
  cases hq : L s with
  | nil => rw [hq] at hl; simp at hl; omega
  | cons a b =>
    rw [hq] at h0 hl
    simp at h0
    unfold isName
    rw [hl, h0]
theorem ret_nm {a b : Bool} (h : a = b) : Ending.returned (.bool a) = .returned (.bool b) := by rw [h]
set_option maxHeartbeats 2000000 in
theorem rName_any (s : ByteArray) (w : World) (hs : s.size ≤ 4294967200) :
    Calls Tryz.prog 60 #[.string s] w fun e w' => e = .returned (.bool (isName (L s))) ∧ w = w' := by
  by_cases h0 : s.size = 0
  · have HN : Hid (isName (L s) = false) := Lib.hid (by
      have := L_len s
      cases hq : L s with
      | nil => rfl
      | cons a b => rw [hq, List.length_cons] at this; omega)
    have b1 : (s.size : Int) < 1 := by omega
    go_enter Tryz.func60, Tryz.ntmps60
    go_wp2_with fail
    go_ret
    exact ⟨ret_nm HN.out.symm, rfl⟩
  have hp : 0 < s.size := by omega
  have HI := Lib.hid (isName_at s hp)
  by_cases h16 : s.size ≤ 16
  rotate_left
  · have HN : Hid (isName (L s) = false) := Lib.hid (by rw [HI.out, decide_eq_false h16]; rfl)
    have b1 : ¬ (s.size : Int) < 1 := by omega
    have b2 : (16 : Int) < (s.size : Int) := by omega
    clear h16 h0
    go_enter Tryz.func60, Tryz.ntmps60
    go_wp2_with fail
    go_ret
    exact ⟨ret_nm HN.out.symm, rfl⟩
  have hb := s[0].toNat_lt
  by_cases hl : 97 ≤ (s[0].toNat : Int) ∧ (s[0].toNat : Int) ≤ 122
  rotate_left
  · have HN : Hid (isName (L s) = false) := Lib.hid (by
      rw [HI.out, show lowB s[0] = false from decide_eq_false (by omega)]; simp)
    have hc : (s[0].toNat : Int) < 97 ∨ (97 ≤ (s[0].toNat : Int) ∧ 122 < (s[0].toNat : Int)) := by omega
    clear hl h0
    rcases hc with c1 | ⟨c1, c2⟩
    all_goals
      go_enter Tryz.func60, Tryz.ntmps60
      go_wp2_with fail
      go_ret
      exact ⟨ret_nm HN.out.symm, rfl⟩
  obtain ⟨l1, l2⟩ := hl
  have HA : Hid (isName (L s) = (L s).all nameB) := Lib.hid (by rw [HI.out, decide_eq_true h16, show lowB s[0] = true from decide_eq_true (by omega)]; rfl)
  clear h0 HI
  go_enter Tryz.func60, Tryz.ntmps60
  go_wp2_with fail
  go_loop [3] (fun i => ∃ k : Nat, k ≤ s.size ∧ Hid (((L s).take k).all nameB = true) ∧ i = .int .i64 k) (fun i => s.size - (intOf i).toNat)
  case atStart => exact ⟨0, by omega, Lib.hid rfl, rfl⟩
  case round =>
    obtain ⟨k, hk, HK, rfl⟩ := hrel
    by_cases hlt : k < s.size
    · have HT := Lib.hid (take_at s k hlt)
      obtain ⟨e1, e2, e3⟩ := digI_bd s[k]
      go_wp2_with fail
      refine (rDigit_any s[k] _).mono ?_
      rintro e w' ⟨d, rfl, HD, rfl⟩
      by_cases hn : nameB s[k] = true
      · have d0 : ¬ d < 0 := by rw [HD.out, e3, hn]; simp
        have HK2 : Hid (((L s).take (k + 1)).all nameB = true) := Lib.hid (by rw [HT.out, List.all_append, HK.out]; simp [hn])
        clear hn e1 e2 e3
        go_wp2_with fail
        go_round
        case rel => exact ⟨k + 1, by omega, HK2, by go_num⟩
        case measure => simp [intOf]; omega
      · have d0 : d < 0 := by rw [HD.out, e3]; simpa using hn
        have HF : Hid (isName (L s) = false) := Lib.hid (by
          rw [HA.out, List.all_eq_false]
          refine ⟨s[k], ?_, hn⟩
          have : s[k] ∈ (L s).take (k + 1) := by rw [HT.out]; simp
          exact List.mem_of_mem_take this)
        clear hn e1 e2 e3
        go_wp2_with fail
        go_ret
        exact ⟨ret_nm HF.out.symm, rfl⟩
    · have HF : Hid (isName (L s) = true) := Lib.hid (by rw [HA.out, ← take_all s k (by omega), HK.out])
      go_wp2_with fail
      go_ret
      exact ⟨ret_nm HF.out.symm, rfl⟩
set_option maxHeartbeats 2000000 in
theorem rCheck_any (s : ByteArray) (w : World) (hs : s.size ≤ maxLen) :
    Calls Tryz.prog 75 #[.string s] w fun e w' => e = .returned (.int .i64 (chk (L s))) ∧ w = w' := by
  unfold maxLen at hs
  go_enter Tryz.func75, Tryz.ntmps75
  go_wp2_with fail
  go_loop [3, 4] (fun x i => ∃ k n : Nat, k ≤ s.size ∧ n < 257 ∧ Hid (n = chk ((L s).take k)) ∧ i = .int .i64 k ∧ x = .int .i64 n) (fun _ i => s.size - (intOf i).toNat)
  case atStart => exact ⟨0, 0, by omega, by omega, Lib.hid rfl, rfl, rfl⟩
  case round =>
    obtain ⟨k, n, hk, hn, HN, rfl, rfl⟩ := hrel
    by_cases hlt : k < s.size
    · have hb := s[k].toNat_lt
      have HA : Hid (chk ((L s).take (k + 1)) = (3 * n + s[k].toNat) % 257) := Lib.hid (by rw [take_at s k hlt, chk_snoc, ← HN.out])
      go_wp2_with fail
      go_round
      case rel => exact ⟨k + 1, (3 * n + s[k].toNat) % 257, by omega, by omega, Lib.hid (by rw [HA.out]), by go_num, by first | go_num | exact congrArg (Value.int .i64) (by omega)⟩
      case measure => simp [intOf]; omega
    · have HF : Hid (n = chk (L s)) := Lib.hid (by rw [HN.out, take_all s k (by omega)])
      go_wp2_with fail
      go_ret
      exact ⟨ret_int (by rw [HF.out]), rfl⟩
set_option maxHeartbeats 2000000 in
theorem rNumber_any (n k : Nat) (w : World) (h0 : 1 ≤ k) (h1 : k ≤ 3) (hn : n < 1000000000000000) :
    Calls Tryz.prog 34 #[.int .i64 n, .int .i64 k] w fun e w' => ∃ s : ByteArray, e = .returned (.string s) ∧ s.size ≤ 18 ∧ Hid (L s = pad n k) ∧ Hid (Below w.heap.size w w') := by
  have hpl : (pad n k).length ≤ 18 := Nat.le_trans (pad_le n k) (by have := dec_small n hn; omega)
  have HPL := Lib.hid hpl
  clear hpl
  go_enter Tryz.func34, Tryz.ntmps34
  go_wp2_with fail
  go_loopg [0, 5] 18 (fun g x0 x5 wx => ∃ (m : Nat) (s : ByteArray), s.size ≤ 18 ∧ m < 1000000000000000 ∧ g = 18 - s.size ∧ x0 = .int .i64 m ∧ x5 = .string s ∧ Hid (padZ m (k - s.size) ++ L s = pad n k) ∧ Hid (Below w.heap.size w wx))
  case atStart => exact ⟨n, ⟨#[]⟩, by decide, hn, rfl, rfl, rfl, Lib.hid (by show padZ n (k - 0) ++ [] = _; rw [List.append_nil, Nat.sub_zero, padZ_pos n k h0]), Lib.hid (Below.refl _ _)⟩
  case round =>
    obtain ⟨m, s, hs, hm, rfl, rfl, rfl, HI, HB⟩ := hrel
    have hszr := HB.out.size
    by_cases hgo : m = 0 ∧ k - s.size = 0
    · obtain ⟨rfl, hk0⟩ := hgo
      have g1 : ¬ (s.size : Int) < (k : Int) := by omega
      have HF : Hid (L s = pad n k) := Lib.hid (by have := HI.out; unfold padZ at this; rw [if_pos ⟨rfl, hk0⟩] at this; exact this)
      go_wp2_with fail
      go_ret
      exact ⟨s, rfl, hs, HF, HB⟩
    · obtain ⟨u, hu⟩ : ∃ u : UInt8, u = UInt8.ofNat (48 + m % 10) := ⟨_, rfl⟩
      have NU : Hid ((48 : Int) + (m : Int) % 10 = (u.toNat : Int)) := Lib.hid (by rw [hu, UInt8.toNat_ofNat']; omega)
      have HS : Hid (padZ (m / 10) (k - s.size - 1) ++ [u] ++ L s = pad n k) := Lib.hid (by rw [hu, ← padZ_step m _ hgo]; exact HI.out)
      have hs2 : s.size < 18 := by
        have h5 := congrArg List.length HS.out
        have h6 := HPL.out
        simp only [List.length_append, List.length_cons, List.length_nil, L_len] at h5
        omega
      clear HI
      by_cases hm0 : m = 0
      · subst hm0
        obtain rfl : u = 48 := hu
        have g1 : (s.size : Int) < (k : Int) := by omega
        clear hgo NU
        have cv := convM (wr.alloc (.cells #[.int .u8 48] 5)) wr.heap.size [48] (bytesM wr [48] _ rfl _) 1 rfl
        go_wp2_with fail
        clear cv
        go_roundg (18 - (s.size + 1))
        case measure => omega
        case rel =>
          refine ⟨0, { data := #[48] } ++ s, by rw [ByteArray.size_append]; show 1 + s.size ≤ 18; omega, by omega, by rw [ByteArray.size_append]; show _ = 18 - (1 + s.size); omega, rfl, rfl, Lib.hid ?_, Lib.hid (HB.out.alloc hszr _)⟩
          rw [ByteArray.size_append, L_app]
          show padZ 0 (k - (1 + s.size)) ++ ([48] ++ L s) = _
          rw [← List.append_assoc, show k - (1 + s.size) = k - s.size - 1 from by omega]
          exact HS.out
      · have g1 : (0 : Int) < (m : Int) := by omega
        clear hgo hu
        have cv := convM (wr.alloc (.cells #[.int .u8 (48 + (m : Int) % 10)] 5)) wr.heap.size [u] (bytesM wr [u] _ (by rw [NU.out]; rfl) _) 1 rfl
        go_wp2_with fail
        clear cv
        go_roundg (18 - (s.size + 1))
        case measure => omega
        case rel =>
          refine ⟨m / 10, { data := #[u] } ++ s, by rw [ByteArray.size_append]; show 1 + s.size ≤ 18; omega, by omega, by rw [ByteArray.size_append]; show _ = 18 - (1 + s.size); omega, by go_num, rfl, Lib.hid ?_, Lib.hid (HB.out.alloc hszr _)⟩
          rw [ByteArray.size_append, L_app]
          show padZ (m / 10) (k - (1 + s.size)) ++ ([u] ++ L s) = _
          rw [← List.append_assoc, show k - (1 + s.size) = k - s.size - 1 from by omega]
          exact HS.out
theorem acc_snoc2 (t : Bs) (c : UInt8) : acc (t ++ [c]) = (37 * acc t + val c) % 97 := acc_snoc t c
set_option maxHeartbeats 2000000 in
theorem rNumbered_any (s : ByteArray) (w : World) (hs : s.size ≤ 4294967200) (hn : (L s).all nameB = true) :
    Calls Tryz.prog 36 #[.string s] w fun e w' => ∃ z : ByteArray, e = .returned (.string z) ∧ z.size ≤ s.size + 19 ∧ Hid (L z = account (L s)) ∧ Hid (Below w.heap.size w w') := by
  have HN := Lib.hid hn
  clear hn
  go_enter Tryz.func36, Tryz.ntmps36
  go_wp2_with fail
  go_loop [3, 4] (fun x i => ∃ k n : Nat, k ≤ s.size ∧ n < 97 ∧ Hid (n = acc ((L s).take k)) ∧ i = .int .i64 k ∧ x = .int .i64 n) (fun _ i => s.size - (intOf i).toNat)
  case atStart => exact ⟨0, 0, by omega, by omega, Lib.hid rfl, rfl, rfl⟩
  case round =>
    obtain ⟨k, n, hk, hn, HA, rfl, rfl⟩ := hrel
    by_cases hlt : k < s.size
    · have hnb : nameB s[k] = true := List.all_eq_true.1 HN.out _ (by
        have : s[k] ∈ (L s).take (k + 1) := by rw [take_at s k hlt]; simp
        exact List.mem_of_mem_take this)
      obtain ⟨e1, e2⟩ := digI_name s[k] hnb
      have HE : Hid (acc ((L s).take (k + 1)) = (37 * n + val s[k]) % 97) := Lib.hid (by rw [take_at s k hlt, acc_snoc, ← HA.out])
      clear hnb
      go_wp2_with fail
      refine (rDigit_any s[k] _).mono ?_
      rintro e w' ⟨d, rfl, HD, rfl⟩
      obtain rfl : d = (val s[k] : Int) := by rw [HD.out, e1]
      clear e1 HD
      go_wp2_with fail
      go_round
      case rel => exact ⟨k + 1, (37 * n + val s[k]) % 97, by omega, by omega, Lib.hid HE.out.symm, by go_num, by first | go_num | exact congrArg (Value.int .i64) (by omega)⟩
      case measure => simp [intOf]; omega
    · have HF : Hid (n = acc (L s)) := Lib.hid (by rw [HA.out, take_all s k (by omega)])
      go_wp2_with fail
      refine (rNumber_any n 2 _ (by omega) (by omega) (by omega)).mono ?_
      rintro e w1 ⟨z, rfl, hz, HZ, B1⟩
      go_wp2_with fail
      go_ret
      refine ⟨_, rfl, ?_, Lib.hid ?_, B1⟩
      · simp only [ByteArray.size_append]; show s.size + 1 + z.size ≤ _; omega
      · unfold account
        rw [L_app, L_app, HZ.out, ← HF.out, List.append_assoc]; rfl
set_option maxHeartbeats 2000000 in
theorem rAccount_any (s : ByteArray) (w : World) (hs : s.size ≤ 4294967200) :
    Calls Tryz.prog 23 #[.string s] w (RetB (accB (L s)) w) := by
  have HR := Lib.hid (accB_ref (L s))
  go_enter Tryz.func23, Tryz.ntmps23
  by_cases h4 : s.size < 4
  · have HF : Hid (accB (L s) = false) := Lib.hid (by rw [HR.out, decide_eq_false (by rw [L_len]; omega)]; rfl)
    go_wp2_with fail
    go_ret
    exact ⟨ret_bool HF.out.symm, Lib.hid (Below.refl _ _)⟩
  have e1 : ((s.size : Int) - 3).toNat = s.size - 3 := by omega
  have HX : Hid (L (s.extract 0 (s.size - 3)) = (L s).take ((L s).length - 3)) := Lib.hid (by rw [L_len]; exact Lib.extract_from_zero s _)
  have zx : (s.extract 0 (s.size - 3)).size ≤ s.size := by rw [ByteArray.size_extract]; omega
  have HR2 : Hid (accB (L s) = (isName (L (s.extract 0 (s.size - 3))) && (account (L (s.extract 0 (s.size - 3))) == L s))) := Lib.hid (by rw [HR.out, HX.out, decide_eq_true (by rw [L_len]; omega)]; rfl)
  clear HR HX
  go_wp2_with fail
  generalize s.extract 0 (s.size - 3) = x at zx HR2 ⊢
  refine (rName_any x _ (by omega)).mono ?_
  rintro e w' ⟨rfl, rfl⟩
  cases hn : isName (L x) with
  | false =>
    have HF : Hid (accB (L s) = false) := Lib.hid (by rw [HR2.out, hn]; rfl)
    clear hn
    go_wp2_with fail
    go_ret
    exact ⟨ret_bool HF.out.symm, Lib.hid (Below.refl _ _)⟩
  | true =>
    have HF : Hid (accB (L s) = (account (L x) == L s)) := Lib.hid (by rw [HR2.out, hn]; rfl)
    have hall : (L x).all nameB = true := by
      cases hq : L x with
      | nil => rfl
      | cons a b => rw [hq] at hn; unfold isName at hn; simp only [Bool.and_eq_true] at hn; exact hn.2
    have HALL := Lib.hid hall
    clear hn hall
    go_wp2_with fail
    refine (rNumbered_any x _ (by omega) HALL.out).mono ?_
    rintro e w1 ⟨z, rfl, hz, HZ, B1⟩
    by_cases he : z = s
    · subst he
      have HT : Hid (accB (L z) = true) := Lib.hid (by rw [HF.out, ← HZ.out]; exact beq_self_eq_true _)
      go_wp2_with fail
      go_ret
      exact ⟨ret_bool HT.out.symm, B1⟩
    · have HT : Hid (accB (L s) = false) := Lib.hid (by rw [HF.out, ← HZ.out, beq_eq_false_iff_ne]; exact fun h => he (str_eq h))
      have hb := str_neq he
      clear he
      go_wp2_with fail
      go_ret
      exact ⟨ret_bool HT.out.symm, B1⟩
end Go.Proofs.YtibgibjmpcajkaaGreatDoor
