/- The walk of the reference's Parse. -/
import Derived.Test.YtibgibjmpcajkaaGreatDoorBankMa
namespace BankS
open Go
theorem ten (t : Bs) (h : t.length = 10) : ∃ a b c d e f g h i j, t = [a, b, c, d, e, f, g, h, i, j] := by
  match t, h with
  | [a, b, c, d, e, f, g, h, i, j], _ => exact ⟨a, b, c, d, e, f, g, h, i, j, rfl⟩
theorem rfl4 (a b c d : UInt8) : numF 0 [a, b, c, d] = 10 * (10 * (10 * dv a + dv b) + dv c) + dv d := by
  have h : numF 0 [a, b, c, d] = 10 * (10 * (10 * (10 * 0 + dv a) + dv b) + dv c) + dv d := rfl
  rw [h]; omega
theorem rfl2 (a b : UInt8) : numF 0 [a, b] = 10 * dv a + dv b := by
  have h : numF 0 [a, b] = 10 * (10 * 0 + dv a) + dv b := rfl
  rw [h]; omega
theorem form10 (t : Bs) (h : t.length = 10) (h4 : t.getD 4 0 = 45) (h7 : t.getD 7 0 = 45) :
    dateForm t = ((seg t 0 4).all digB && (seg t 5 7).all digB && (seg t 8 10).all digB) ∧ numF 0 (seg t 0 4) = dateY t ∧ numF 0 (seg t 5 7) = dateM t ∧ numF 0 (seg t 8 10) = dateD t := by
  obtain ⟨a, b, c, d, e, f, g, h', i, j, rfl⟩ := ten t h
  have e1 : e = 45 := h4
  have e2 : h' = 45 := h7
  subst e1 e2
  have s1 : seg [a, b, c, d, 45, f, g, 45, i, j] 0 4 = [a, b, c, d] := rfl
  have s2 : seg [a, b, c, d, 45, f, g, 45, i, j] 5 7 = [f, g] := rfl
  have s3 : seg [a, b, c, d, 45, f, g, 45, i, j] 8 10 = [i, j] := rfl
  rw [s1, s2, s3]
  refine ⟨?_, rfl4 a b c d, rfl2 f g, rfl2 i j⟩
  simp [dateForm, Bool.and_assoc]
theorem form_len (t : Bs) (h : t.length ≠ 10) : dayE t = (0, 12) := by
  unfold dayE
  rw [if_neg]
  unfold dateForm
  rw [show (t.length == 10) = false from by rw [beq_eq_false_iff_ne]; exact h]
  simp
theorem form_4 (t : Bs) (h : t.getD 4 0 ≠ 45) : dayE t = (0, 12) := by
  unfold dayE
  rw [if_neg]
  unfold dateForm
  rw [show (t.getD 4 0 == 45) = false from by rw [beq_eq_false_iff_ne]; exact h]
  simp
theorem form_7 (t : Bs) (h : t.getD 7 0 ≠ 45) : dayE t = (0, 12) := by
  unfold dayE
  rw [if_neg]
  unfold dateForm
  rw [show (t.getD 7 0 == 45) = false from by rw [beq_eq_false_iff_ne]; exact h]
  simp
theorem form_no (t : Bs) (h : dateForm t = false) : dayE t = (0, 12) := by
  unfold dayE; rw [h]; rfl
end BankS
namespace Go.Proofs.YtibgibjmpcajkaaGreatDoor
open Go.RowKit BankS
theorem form_yes (t : Bs) (h : dateForm t = true) : dayE t = dayOfE (dateY t) (dateM t) (dateD t) := by
  unfold dayE dayOfE; rw [h]; rfl
theorem getD_at (s : ByteArray) (k : Nat) (h : k < s.size) : (L s).getD k 0 = s[k] := by
  rw [List.getD_eq_getElem?_getD, List.getElem?_eq_getElem (by rw [L_len]; exact h)]; rfl
theorem byte_ne (a b : UInt8) (h : a ≠ b) : ((a.toNat : Int) != (b.toNat : Int)) = true := by
  rw [bne_iff_ne]; intro e; exact h (UInt8.toNat_inj.1 (by omega))
set_option maxHeartbeats 2000000 in
theorem rParse_any (s : ByteArray) (w : World) :
    Calls Tryz.prog 55 #[.string s] w (RetE (dayE (L s)) w) := by
  by_cases h10 : s.size = 10
  rotate_left
  · have HN := Lib.hid (form_len (L s) (by rw [L_len]; exact h10))
    have b1 : ((s.size : Int) != 10) = true := by rw [bne_iff_ne]; omega
    clear h10
    go_enter Tryz.func55, Tryz.ntmps55
    go_wp2_with fail
    go_ret2
    exact RetE.mk (by rw [HN.out]; rfl) (by rw [HN.out]; rfl) rfl
  have g4 := getD_at s 4 (by omega)
  have g7 := getD_at s 7 (by omega)
  by_cases h4 : s[4] = 45
  rotate_left
  · have HN := Lib.hid (form_4 (L s) (by rw [g4]; exact h4))
    have b1 : ((s[4].toNat : Int) != 45) = true := byte_ne _ 45 h4
    clear h4 g4 g7
    go_enter Tryz.func55, Tryz.ntmps55
    go_wp2_with fail
    go_ret2
    exact RetE.mk (by rw [HN.out]; rfl) (by rw [HN.out]; rfl) rfl
  by_cases h7 : s[7] = 45
  rotate_left
  · have HN := Lib.hid (form_7 (L s) (by rw [g7]; exact h7))
    have b0 : (s[4].toNat : Int) = 45 := by rw [h4]; rfl
    have b1 : ((s[7].toNat : Int) != 45) = true := byte_ne _ 45 h7
    clear h4 h7 g4 g7
    go_enter Tryz.func55, Tryz.ntmps55
    go_wp2_with fail
    go_ret2
    exact RetE.mk (by rw [HN.out]; rfl) (by rw [HN.out]; rfl) rfl
  have b0 : (s[4].toNat : Int) = 45 := by rw [h4]; rfl
  have b1 : (s[7].toNat : Int) = 45 := by rw [h7]; rfl
  have HF := Lib.hid (form10 (L s) (by rw [L_len]; exact h10) (by rw [g4]; exact h4) (by rw [g7]; exact h7))
  clear h4 h7 g4 g7
  go_enter Tryz.func55, Tryz.ntmps55
  go_wp2_with fail
  refine (rNum_any s 0 4 _ (by omega) (by omega) (by omega) (by omega)).mono ?_
  rintro e w' ⟨n1, k1, rfl, A1, N1, z1, rfl⟩
  go_wp2_with fail
  refine (rNum_any s 5 7 _ (by omega) (by omega) (by omega) (by omega)).mono ?_
  rintro e w' ⟨n2, k2, rfl, A2, N2, z2, rfl⟩
  go_wp2_with fail
  refine (rNum_any s 8 10 _ (by omega) (by omega) (by omega) (by omega)).mono ?_
  rintro e w' ⟨n3, k3, rfl, A3, N3, z3, rfl⟩
  have HK : Hid (dateForm (L s) = (k1 && k2 && k3)) := Lib.hid (by rw [HF.out.1, A1.out, A2.out, A3.out])
  clear A1 A2 A3
  by_cases hk : k1 = true ∧ k2 = true ∧ k3 = true
  · obtain ⟨rfl, rfl, rfl⟩ := hk
    have HE : Hid (dayE (L s) = dayOfE n1 n2 n3) := Lib.hid (by
      rw [form_yes _ HK.out, ← HF.out.2.1, ← HF.out.2.2.1, ← HF.out.2.2.2, ← N1.out rfl, ← N2.out rfl, ← N3.out rfl])
    go_wp2_with fail
    refine (rDay_any n1 n2 n3 _ (by omega) (by omega) (by omega)).mono ?_
    rintro e w' ⟨rfl, rfl⟩
    go_wp2_with fail
    go_ret2
    exact RetE.mk (by rw [HE.out]) (by rw [HE.out]) rfl
  · have HN : Hid (dayE (L s) = (0, 12)) := Lib.hid (form_no _ (by rw [HK.out]; cases k1 <;> cases k2 <;> cases k3 <;> simp_all))
    have hc : k1 = false ∨ (k1 = true ∧ k2 = false) ∨ (k1 = true ∧ k2 = true ∧ k3 = false) := by cases k1 <;> cases k2 <;> cases k3 <;> simp_all
    clear hk HK N1 N2 N3
    rcases hc with rfl | ⟨rfl, rfl⟩ | ⟨rfl, rfl, rfl⟩
    all_goals
      go_wp2_with fail
      go_ret2
      exact RetE.mk (by rw [HN.out]; rfl) (by rw [HN.out]; rfl) rfl
end Go.Proofs.YtibgibjmpcajkaaGreatDoor
