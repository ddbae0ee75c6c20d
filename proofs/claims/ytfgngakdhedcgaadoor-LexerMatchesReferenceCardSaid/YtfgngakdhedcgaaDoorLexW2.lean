/- The walks of the lexer's other functions that only read. -/
import Derived.Test.YtfgngakdhedcgaaDoorLexW
import Derived.Test.YtfgngakdhedcgaaDoorLexP
import Derived.Lib.Strings
import Derived.Lib.IndexBytes
import Derived.Deep.LoopGhost
namespace Go.Proofs.YtfgngakdhedcgaaDoor
open Go.RowKit LexS

theorem ret_bool {a b : Bool} (h : a = b) : Ending.returned (.bool a) = .returned (.bool b) := by rw [h]
theorem ret_int {k : IntKind} {a b : Int} (h : a = b) : Ending.returned (.int k a) = .returned (.int k b) := by rw [h]

theorem L_ext (s : ByteArray) (k : Nat) : L (s.extract k s.size) = (L s).drop k := Lib.extract_to_end s k
theorem L_slash : L { data := #[47, 47] } = [47, 47] := rfl

set_option maxHeartbeats 400000 in
theorem pre_any (a b : ByteArray) (w : World) :
    Calls Tryd.prog 35 #[.string a, .string b] w fun e w' => e = .returned (.bool ((L b).isPrefixOf (L a))) ∧ w = w' := by
  by_cases h : b.size ≤ a.size
  · go_enter Tryd.func35, Tryd.ntmps35
    go_wp2
    go_ret
    refine ⟨ret_bool (a := ((a.extract 0 b.size).toList == b.toList)) ?_, rfl⟩
    rw [ByteArray.toList_eq, ByteArray.toList_eq, Lib.extract_data, isPrefixOf_take]
    simp
  · go_enter Tryd.func35, Tryd.ntmps35
    go_wp2
    go_ret
    refine ⟨ret_bool (a := false) ?_, rfl⟩
    symm
    rw [Bool.eq_false_iff]
    intro h2
    have := (List.isPrefixOf_iff_prefix.1 h2).length_le
    simp at this
    omega

set_option maxHeartbeats 1000000 in
theorem skip_any (s : ByteArray) (a : Int) (w : World) (hs : s.size ≤ 9223372036854775806) (hT : Tabs w) (h0 : 0 ≤ a) (ha : a ≤ s.size) :
    Calls Tryd.prog 23 #[.string s, .int .i64 a] w fun e w' => e = .returned (.int .i64 (a + skipN ((L s).drop a.toNat) : Int)) ∧ w = w' := by
  obtain ⟨k0, rfl⟩ := Int.eq_ofNat_of_zero_le h0
  rw [Int.toNat_natCast]
  have hk0 : k0 ≤ s.size := by omega
  clear ha
  go_enter Tryd.func23, Tryd.ntmps23
  go_wp2_with fail
  go_step3
  go_wp2_with fail
  go_step3
  go_wp2_with fail
  go_loopg [1] (s.size - k0) (fun g i wx => ∃ k : Nat, w = wx ∧ k ≤ s.size ∧ g = s.size - k ∧ Hid (k + skipN ((L s).drop k) = k0 + skipN ((L s).drop k0)) ∧ i = .int .i64 k)
  case atStart => exact ⟨k0, rfl, hk0, rfl, Lib.hid rfl, rfl⟩
  case round =>
    obtain ⟨k, rfl, hk, rfl, HK, rfl⟩ := hrel
    have hk1 : k + spanN 1 ((L s).drop k) ≤ s.size := by
      have := span_le 1 ((L s).drop k); simp at this; omega
    obtain ⟨k1, hk1e⟩ : ∃ k1, k1 = k + spanN 1 ((L s).drop k) := ⟨_, rfl⟩
    have HK1 : Hid (k1 + skipN ((L s).drop k1) = k0 + skipN ((L s).drop k0)) := by
      refine Lib.hid ?_
      have h1 := HK.out
      have h2 := gap_white ((L s).drop k)
      rw [List.drop_drop] at h2
      unfold skipN at h1 ⊢
      rw [hk1e]
      omega
    have hn1 : isB 1 ((L s).drop k1) = false := by
      have := span_stop 1 ((L s).drop k)
      rw [List.drop_drop] at this
      rw [hk1e]; exact this
    have HN1 := Lib.hid hn1
    clear hn1
    have hk1' : k1 ≤ s.size := by omega
    have hkk : k ≤ k1 := by omega
    have HE := Lib.hid hk1e
    clear hk1e hk1
    go_wp2_with fail
    refine (run_any s _ 1 _ (by omega) hT (by omega) rfl).mono ?_
    rintro e w' ⟨rfl, rfl⟩
    rw [Int.toNat_natCast]
    rw [show ((k : Int) + (spanN 1 ((L s).drop k) : Int)) = (k1 : Int) from by rw [HE.out]; omega]
    clear HE
    cases hp : [47, 47].isPrefixOf ((L s).drop k1) with
    | false =>
      have HP := Lib.hid hp
      clear hp
      go_wp2_with fail
      refine (pre_any _ _ _).mono ?_
      rintro e w' ⟨rfl, rfl⟩
      rw [L_ext, L_slash, HP.out]
      go_wp2_with fail
      rw [Exit.noGoto_ret]
      go_ret
      refine ⟨ret_int (a := (k1 : Int)) ?_, rfl⟩
      have h1 := HK1.out
      have h2 := gap_none _ HN1.out HP.out
      unfold skipN at h1 ⊢
      omega
    | true =>
      have HP := Lib.hid hp
      clear hp
      go_wp2_with fail
      refine (pre_any _ _ _).mono ?_
      rintro e w' ⟨rfl, rfl⟩
      rw [L_ext, L_slash, HP.out]
      have hlen : k1 + 2 ≤ s.size := by
        have := (List.isPrefixOf_iff_prefix.1 HP.out).length_le
        simp at this
        omega
      have HC : Hid (k1 + gapN true ((L s).drop k1) = k0 + skipN ((L s).drop k0)) := by
        refine Lib.hid ?_
        have h1 := HK1.out
        have h2 := gap_comment _ HP.out
        unfold skipN at h1 ⊢
        omega
      have hne : Hid (s[k1] ≠ 10) := by
        refine Lib.hid ?_
        have h1 := HP.out
        rw [drop_at s k1 (by omega)] at h1
        simp [List.isPrefixOf] at h1
        rw [← h1.1]; decide
      clear HK1 HN1 HP
      go_wp2_with fail
      go_loopg [1] (s.size - k1) (fun g i wx => ∃ j : Nat, w = wx ∧ k1 ≤ j ∧ j ≤ s.size ∧ g = s.size - j ∧ Hid (j = k1 ∨ k1 < j) ∧ Hid (j + gapN true ((L s).drop j) = k0 + skipN ((L s).drop k0)) ∧ i = .int .i64 j)
      case atStart => exact ⟨k1, rfl, Nat.le_refl _, by omega, rfl, Lib.hid (.inl rfl), HC, rfl⟩
      case round =>
        obtain ⟨j, rfl, hj1, hj2, rfl, HJ, HR, rfl⟩ := hrel
        by_cases hlt : j < s.size
        · by_cases hnl : s[j] = 10
          · have hb : ((s[j].toNat : Int) == 10) = true := by rw [hnl]; rfl
            have hjk : k1 < j := by
              rcases HJ.out with h | h
              · subst h; exact absurd hnl hne.out
              · exact h
            have HNL := Lib.hid hnl
            clear hnl
            go_wp2_with fail
            go_roundg (s.size - j)
            case measure => omega
            case rel =>
              refine ⟨j, rfl, by omega, rfl, Lib.hid ?_, rfl⟩
              have h1 := HR.out
              rw [drop_at s j hlt, HNL.out, gap_line, ← HNL.out, ← drop_at s j hlt] at h1
              exact h1
          · have hb : ((s[j].toNat : Int) == 10) = false := by
              rw [beq_eq_false_iff_ne]; intro h; apply hnl; exact UInt8.toNat_inj.1 (by have : (10 : UInt8).toNat = 10 := rfl; omega)
            have HNL := Lib.hid hnl
            clear hnl
            go_wp2_with fail
            go_roundg (s.size - (j + 1))
            case measure => omega
            case rel =>
              refine ⟨j + 1, rfl, by omega, by omega, rfl, Lib.hid (.inr (by omega)), Lib.hid ?_, by go_num⟩
              have h1 := HR.out
              rw [drop_at s j hlt, gap_in _ _ HNL.out] at h1
              omega
        · have hge : s.size ≤ j := by omega
          go_wp2_with fail
          rw [Exit.noGoto_ret]
          go_ret
          refine ⟨ret_int (a := (j : Int)) ?_, rfl⟩
          have h1 := HR.out
          rw [drop_end s j hge] at h1
          simp only [gapN] at h1
          omega
end Go.Proofs.YtfgngakdhedcgaaDoor
