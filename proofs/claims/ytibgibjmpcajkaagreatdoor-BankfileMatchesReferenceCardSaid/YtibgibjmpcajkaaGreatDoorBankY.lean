/- The walks of account, Account, check, file. -/
import Derived.Test.YtibgibjmpcajkaaGreatDoorBankX
namespace Go.Proofs.YtibgibjmpcajkaaGreatDoor
open Go.RowKit BankS

theorem acc_snoc (t : Bs) (c : UInt8) : acc (t ++ [c]) = (37 * acc t + val c) % 97 := by
  unfold acc; rw [List.foldl_append]; rfl
theorem chk_snoc (t : Bs) (c : UInt8) : chk (t ++ [c]) = (3 * chk t + c.toNat) % 257 := by
  unfold chk; rw [List.foldl_append]; rfl
theorem val_dig (c : UInt8) (h1 : 48 ≤ c.toNat) (h2 : c.toNat ≤ 57) : val c = c.toNat - 48 := by
  unfold val; rw [if_pos (show digB c = true from decide_eq_true ⟨h1, h2⟩)]
theorem val_low (c : UInt8) (h1 : 97 ≤ c.toNat) (h2 : c.toNat ≤ 122) : val c = c.toNat - 97 + 10 := by
  unfold val
  rw [if_neg (by unfold digB; simp; omega), if_pos (show lowB c = true from decide_eq_true ⟨h1, h2⟩)]
theorem val_else (c : UInt8) (h1 : ¬ (48 ≤ c.toNat ∧ c.toNat ≤ 57)) (h2 : ¬ (97 ≤ c.toNat ∧ c.toNat ≤ 122)) : val c = 36 := by
  unfold val
  rw [if_neg (by unfold digB; simpa using h1), if_neg (by unfold lowB; simpa using h2)]

theorem pad_len2 (n : Nat) (h : n < 97) : (pad n 2).length = 2 := by rw [pad2 n (by omega)]; rfl
theorem pad3_all : (List.range 257).all (fun n => (pad n 3).length == 3) = true := by decide +kernel
theorem pad_len3 (n : Nat) (h : n < 257) : (pad n 3).length = 3 := eq_of_beq (List.all_eq_true.1 pad3_all n (List.mem_range.2 h))

set_option maxHeartbeats 1000000 in
theorem account_any (s : ByteArray) (w : World) (hT : Tabs w) (hs : s.size ≤ 4294967290) :
    Calls Tryz.prog 30 #[.string s] w (RetStr (account (L s)) w) := by
  go_enter Tryz.func30, Tryz.ntmps30
  go_wp2_with fail
  go_loop [3, 9] (fun x i => ∃ k n : Nat, k ≤ s.size ∧ n < 97 ∧ Hid (n = acc ((L s).take k)) ∧ i = .int .i64 k ∧ x = .int .i64 n) (fun _ i => s.size - (intOf i).toNat)
  case atStart => exact ⟨0, 0, by omega, by omega, Lib.hid rfl, rfl, rfl⟩
  case round =>
    obtain ⟨k, n, hk, hn, HN, rfl, rfl⟩ := hrel
    by_cases hlt : k < s.size
    · have hb := s[k].toNat_lt
      have HA : Hid (acc ((L s).take (k + 1)) = (37 * n + val s[k]) % 97) := Lib.hid (by rw [take_at s k hlt, acc_snoc, ← HN.out])
      by_cases hd : 48 ≤ (s[k].toNat : Int) ∧ (s[k].toNat : Int) ≤ 57
      · obtain ⟨d1, d2⟩ := hd
        have HV := Lib.hid (val_dig s[k] (by omega) (by omega))
        go_wp2_with fail
        go_round
        case rel => exact ⟨k + 1, (37 * n + (s[k].toNat - 48)) % 97, by omega, by omega, Lib.hid (by rw [HA.out, HV.out]), by go_num, congrArg (Value.int .i64) (by omega)⟩
        case measure => simp [intOf]; omega
      · by_cases hl : 97 ≤ (s[k].toNat : Int) ∧ (s[k].toNat : Int) ≤ 122
        · obtain ⟨d1, d2⟩ := hl
          clear hd
          have HV := Lib.hid (val_low s[k] (by omega) (by omega))
          go_wp2_with fail
          go_round
          case rel => exact ⟨k + 1, (37 * n + (s[k].toNat - 97 + 10)) % 97, by omega, by omega, Lib.hid (by rw [HA.out, HV.out]), by go_num, congrArg (Value.int .i64) (by omega)⟩
          case measure => simp [intOf]; omega
        · have HV := Lib.hid (val_else s[k] (by omega) (by omega))
          have hc : (s[k].toNat : Int) < 48 ∨ (57 < (s[k].toNat : Int) ∧ (s[k].toNat : Int) < 97) ∨ 122 < (s[k].toNat : Int) := by omega
          clear hd hl
          rcases hc with c1 | ⟨c1, c2⟩ | c1
          all_goals
            go_wp2_with fail
            go_round
            case rel => exact ⟨k + 1, (37 * n + 36) % 97, by omega, by omega, Lib.hid (by rw [HA.out, HV.out]), by go_num, congrArg (Value.int .i64) (by omega)⟩
            case measure => simp [intOf]; omega
    · have HF : Hid (n = acc (L s)) := Lib.hid (by rw [HN.out, take_all s k (by omega)])
      go_wp2_with fail
      refine (padded_any _ _ _ hT (by omega) (by omega) (by omega) (by omega)).mono ?_
      rintro e w1 ⟨zs, rfl, HZ, B1⟩
      have hz : zs.size ≤ 2 := by rw [← L_len, HZ.out, Int.toNat_natCast]; exact Nat.le_of_eq (pad_len2 n hn)
      go_wp2_with fail
      go_ret
      refine RetStr.mk ?_ B1.out
      unfold account
      rw [L_app, L_app, HZ.out, ← HF.out, Int.toNat_natCast, List.append_assoc]
      rfl

set_option maxHeartbeats 1000000 in
theorem check_any (s : ByteArray) (w : World) (hT : Tabs w) (hs : s.size ≤ maxLen) :
    Calls Tryz.prog 70 #[.string s] w (RetStr (pad (chk (L s)) 3) w) := by
  unfold maxLen at hs
  go_enter Tryz.func70, Tryz.ntmps70
  go_wp2_with fail
  go_loop [3, 7] (fun x i => ∃ k n : Nat, k ≤ s.size ∧ n < 257 ∧ Hid (n = chk ((L s).take k)) ∧ i = .int .i64 k ∧ x = .int .i64 n) (fun _ i => s.size - (intOf i).toNat)
  case atStart => exact ⟨0, 0, by omega, by omega, Lib.hid rfl, rfl, rfl⟩
  case round =>
    obtain ⟨k, n, hk, hn, HN, rfl, rfl⟩ := hrel
    by_cases hlt : k < s.size
    · have hb := s[k].toNat_lt
      have HA : Hid (chk ((L s).take (k + 1)) = (3 * n + s[k].toNat) % 257) := Lib.hid (by rw [take_at s k hlt, chk_snoc, ← HN.out])
      go_wp2_with fail
      go_round
      case rel => exact ⟨k + 1, (3 * n + s[k].toNat) % 257, by omega, by omega, Lib.hid (by rw [HA.out]), by go_num, by first | go_num | exact congrArg (Value.int .i64) (by omega)⟩
      case measure => simp [intOf]; omega
    · have HF : Hid (n = chk (L s)) := Lib.hid (by rw [HN.out, take_all s k (by omega)])
      go_wp2_with fail
      refine (padded_any _ _ _ hT (by omega) (by omega) (by omega) (by omega)).mono ?_
      rintro e w1 ⟨zs, rfl, HZ, B1⟩
      go_wp2_with fail
      go_ret
      refine RetStr.mk ?_ B1.out
      rw [HZ.out, ← HF.out]
      rfl

/-- a truth value is handed back; only new memory is written -/
def RetB (b : Bool) (w : World) (e : Ending) (w' : World) : Prop := e = .returned (.bool b) ∧ Hid (Below w.heap.size w w')
theorem str_neq {z s : ByteArray} (h : ¬ z = s) : (z.toList == s.toList) = false := by
  rw [beq_eq_false_iff_ne, ByteArray.toList_eq, ByteArray.toList_eq]
  exact fun e => h (str_eq e)
theorem bef_len (x : UInt8) (t : Bs) : (befL x t).length ≤ t.length := (List.takeWhile_prefix _).length_le
theorem cut_any (s : ByteArray) (w : World) (hT : Tabs w) (hs : s.size < 4294967281) :
    Calls Tryz.prog 58 #[.string s, .string ⟨#[45]⟩] w fun e w' => ∃ (a b : ByteArray) (c : Bool), e = .returned (.tuple #[.string a, .string b, .bool c]) ∧ Hid (L a = befL 45 (L s)) ∧ a.size ≤ s.size ∧ Hid (Below w.heap.size w w') := by
  obtain ⟨m, hm⟩ := hT.max
  refine (Tryz.strings_Cut s ⟨#[45]⟩ m w hs hm).mono ?_
  rintro e w' ⟨rfl, n, rfl⟩
  have e1 : (Lib.cut s.data.toList [45]).1 = befL 45 (L s) := cut_bef 45 (L s)
  refine ⟨_, _, _, rfl, Lib.hid e1, ?_, Lib.hid ⟨rfl, rfl, rfl, Nat.le_refl _, fun _ _ => rfl⟩⟩
  show (Lib.cut s.data.toList [45]).1.length ≤ s.size
  rw [e1, ← L_len]
  exact bef_len _ _

set_option maxHeartbeats 1000000 in
theorem Account_any (s : ByteArray) (w : World) (hT : Tabs w) (hs : s.size ≤ 4294967200) :
    Calls Tryz.prog 22 #[.string s] w (RetB (accB (L s)) w) := by
  go_enter Tryz.func22, Tryz.ntmps22
  go_wp2_with fail
  refine (cut_any s _ hT (by omega)).mono ?_
  rintro e w1 ⟨a, b, c, rfl, HA, ha, B1⟩
  have hT1 := hT.below B1.out
  have hs1 := B1.out.size
  go_wp2_with fail
  refine (isName_any a _ (by unfold maxLen; omega)).mono ?_
  rintro e w' ⟨rfl, rfl⟩
  rw [HA.out]
  cases hn : isName (befL 45 (L s)) with
  | false =>
    have HR : Hid (accB (L s) = false) := Lib.hid (by unfold accB; rw [hn]; rfl)
    clear hn
    go_wp2_with fail
    go_ret
    exact ⟨by rw [HR.out]; rfl, B1⟩
  | true =>
    have HR : Hid (accB (L s) = (account (befL 45 (L s)) == L s)) := Lib.hid (by unfold accB; rw [hn]; rfl)
    clear hn
    go_wp2_with fail
    refine (account_any a _ hT1 (by omega)).mono ?_
    rintro e w2 ⟨z, rfl, HZ, b2⟩
    have B2 : Hid (Below w.heap.size w w2) := Lib.hid (B1.out.trans (b2.out.mono hs1))
    clear b2
    by_cases hz : z = s
    · subst hz
      have HR2 : Hid (accB (L z) = true) := Lib.hid (by rw [HR.out, ← HA.out, HZ.out]; simp)
      clear HR
      go_wp2_with fail
      go_ret
      exact ⟨ret_bool (by rw [HR2.out]), B2⟩
    · have HR2 : Hid (accB (L s) = false) := Lib.hid (by
        rw [HR.out, ← HA.out, beq_eq_false_iff_ne, ← HZ.out]
        exact fun h => hz (str_eq h))
      clear HR
      have hb := str_neq hz
      go_wp2_with fail
      go_ret
      exact ⟨ret_bool (by rw [HR2.out]), B2⟩
end Go.Proofs.YtibgibjmpcajkaaGreatDoor
