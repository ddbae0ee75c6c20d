/- The walk of calendar.Parse. -/
import Derived.Test.YtibgibjmpcajkaaGreatDoorBankC3
namespace Go.Proofs.YtibgibjmpcajkaaGreatDoor
open Go.RowKit BankS

def okAt (t : Bs) (j : Nat) : Bool := if j = 4 ∨ j = 7 then t.getD j 0 == 45 else digB (t.getD j 0)
def okTo (t : Bs) : Nat → Bool
  | 0 => true
  | k + 1 => okTo t k && okAt t k
def partAt (k : Nat) : Nat := if k ≤ 4 then 0 else if k ≤ 7 then 1 else 2
def yTo (t : Bs) : Nat → Nat
  | 0 => 0
  | k + 1 => if k < 4 then 10 * yTo t k + dv (t.getD k 0) else yTo t k
def mTo (t : Bs) : Nat → Nat
  | 0 => 0
  | k + 1 => if k = 5 ∨ k = 6 then 10 * mTo t k + dv (t.getD k 0) else mTo t k
def dTo (t : Bs) : Nat → Nat
  | 0 => 0
  | k + 1 => if k = 8 ∨ k = 9 then 10 * dTo t k + dv (t.getD k 0) else dTo t k
theorem form_eq (t : Bs) (h : t.length = 10) : dateForm t = okTo t 10 := by
  unfold dateForm
  rw [h]
  simp only [okTo, okAt]
  simp
theorem Y_eq (t : Bs) : dateY t = yTo t 10 := by simp [yTo, dateY]
theorem M_eq (t : Bs) : dateM t = mTo t 10 := by simp [mTo, dateM]
theorem D_eq (t : Bs) : dateD t = dTo t 10 := by simp [dTo, dateD]
theorem okTo_no (t : Bs) (k : Nat) (h : okAt t k = false) : ∀ n, k < n → okTo t n = false := by
  intro n hn
  induction n with
  | zero => omega
  | succ n ih =>
    rw [okTo]
    by_cases e : k = n
    · subst e; rw [h, Bool.and_false]
    · rw [ih (by omega), Bool.false_and]
theorem L_get (s : ByteArray) (k : Nat) (h : k < s.size) : (L s).getD k 0 = s[k] := by
  rw [List.getD, List.getElem?_eq_getElem (by simpa using h)]; rfl
theorem alloc3 {w : World} {T : TypeId} {a b c a' b' c' : Int} (h1 : a = a') (h2 : b = b') (h3 : c = c') : w.alloc (.cells #[.int .i64 a, .int .i64 b, .int .i64 c] T) = w.alloc (.cells #[.int .i64 a', .int .i64 b', .int .i64 c'] T) := by rw [h1, h2, h3]
theorem dv_lt (c : UInt8) (h : c.toNat ≤ 57) : dv c ≤ 9 := by unfold dv; omega

set_option maxHeartbeats 4000000 in
theorem Parse_any (s : ByteArray) (w : World) (hT : Tabs w) :
    Calls Tryz.prog 80 #[.string s] w (RetDay (dayE (L s)) w) := by
  by_cases hsz : s.size = 10
  rotate_left
  · have HN : Hid (dayE (L s) = (0, 12)) := Lib.hid (by
      unfold dayE dateForm
      rw [L_len, beq_eq_false_iff_ne.2 hsz]
      simp)
    have hb : ((s.size : Int) != 10) = true := by rw [bne_iff_ne]; omega
    go_enter Tryz.func80, Tryz.ntmps80
    go_wp2_with fail
    go_ret2
    exact RetDay.mk (by rw [HN.out]; rfl) (by rw [HN.out]; rfl) (Below.refl _ _)
  have HE : Hid (dayE (L s) = if okTo (L s) 10 then dayOfE (yTo (L s) 10) (mTo (L s) 10) (dTo (L s) 10) else (0, 12)) := Lib.hid (by
    unfold dayE
    rw [form_eq _ (by rw [L_len]; exact hsz), Y_eq, M_eq, D_eq]
    rfl)
  have hb : ((s.size : Int) != 10) = false := by rw [bne_eq_false_iff_eq]; omega
  have s1 : 10 ≤ s.size := by omega
  have s2 : s.size ≤ 10 := by omega
  clear hsz
  go_enter Tryz.func80, Tryz.ntmps80
  go_wp2_with fail
  go_loopg [5, 14] 10 (fun g p i wx => ∃ k y m d : Nat, w.alloc (.cells #[.int .i64 (y : Int), .int .i64 (m : Int), .int .i64 (d : Int)] 56) = wx ∧ k ≤ 10 ∧ g = 10 - k ∧ y ≤ 9999 ∧ m ≤ 99 ∧ d ≤ 99 ∧ Hid (okTo (L s) k = true ∧ y = yTo (L s) k ∧ m = mTo (L s) k ∧ d = dTo (L s) k ∧ (k ≤ 0 → y ≤ 0) ∧ (k ≤ 1 → y ≤ 9) ∧ (k ≤ 2 → y ≤ 99) ∧ (k ≤ 3 → y ≤ 999) ∧ (k ≤ 5 → m = 0) ∧ (k ≤ 6 → m ≤ 9) ∧ (k ≤ 8 → d = 0) ∧ (k ≤ 9 → d ≤ 9)) ∧ p = .int .i64 (partAt k) ∧ i = .int .i64 k)
  case atStart => exact ⟨0, 0, 0, 0, rfl, by omega, rfl, by omega, by omega, by omega, Lib.hid ⟨rfl, rfl, rfl, rfl, by omega, by omega, by omega, by omega, by omega, by omega, by omega, by omega⟩, rfl, rfl⟩
  case round =>
    obtain ⟨k, y, m, d, rfl, hk, rfl, hy, hm, hd, HP, rfl, rfl⟩ := hrel
    have hk10 : k = 0 ∨ k = 1 ∨ k = 2 ∨ k = 3 ∨ k = 4 ∨ k = 5 ∨ k = 6 ∨ k = 7 ∨ k = 8 ∨ k = 9 ∨ k = 10 := by omega
    rcases hk10 with rfl | rfl | rfl | rfl | rfl | rfl | rfl | rfl | rfl | rfl | rfl
    · have hlt : (0 : Nat) < s.size := by omega
      have HG := Lib.hid (L_get s 0 hlt)
      have hc := s[0].toNat_lt
      rw [show partAt 0 = 0 from rfl]
      by_cases hd1 : 48 ≤ (s[0].toNat : Int) ∧ (s[0].toNat : Int) ≤ 57
      · obtain ⟨d1, d2⟩ := hd1
        have HA : Hid (okAt (L s) 0 = true) := Lib.hid (by unfold okAt; rw [if_neg (by omega), HG.out]; exact decide_eq_true (by omega))
        have HV : Hid (dv s[0] = s[0].toNat - 48) := Lib.hid rfl
        go_wp2_with fail
        go_roundg (10 - 1)
        case measure => omega
        case rel =>
          obtain ⟨p0, p1, p2, p3, p4, p5, p6, p7, p8, p9, p10, p11⟩ := HP.out
          have hv := HV.out
          refine ⟨1, 10 * y + dv s[0], m, d, ?_, by omega, rfl, by omega, by omega, by omega, Lib.hid ⟨by rw [okTo, p0, HA.out]; rfl, by rw [yTo, if_pos (by omega), HG.out, ← p1], by rw [mTo, if_neg (by omega)]; exact p2, by rw [dTo, if_neg (by omega)]; exact p3, by omega, by omega, by omega, by omega, by omega, by omega, by omega, by omega⟩, rfl, rfl⟩
          first | exact alloc3 (by omega) (by omega) (by omega) | (simp; omega)
      · have HA : Hid (okAt (L s) 0 = false) := Lib.hid (by unfold okAt; rw [if_neg (by omega), HG.out]; exact decide_eq_false (by omega))
        have HN : Hid (dayE (L s) = (0, 12)) := Lib.hid (by rw [HE.out, okTo_no _ 0 HA.out 10 (by omega)]; rfl)
        have hcc : (s[0].toNat : Int) < 48 ∨ 57 < (s[0].toNat : Int) := by omega
        clear hd1
        rcases hcc with c1 | c1
        all_goals
          go_wp2_with fail
          go_ret2
          exact RetDay.mk (by rw [HN.out]; rfl) (by rw [HN.out]; rfl) ((Below.refl _ _).alloc (Nat.le_refl _) _)
    · have hlt : (1 : Nat) < s.size := by omega
      have HG := Lib.hid (L_get s 1 hlt)
      have hc := s[1].toNat_lt
      rw [show partAt 1 = 0 from rfl]
      by_cases hd1 : 48 ≤ (s[1].toNat : Int) ∧ (s[1].toNat : Int) ≤ 57
      · obtain ⟨d1, d2⟩ := hd1
        have HA : Hid (okAt (L s) 1 = true) := Lib.hid (by unfold okAt; rw [if_neg (by omega), HG.out]; exact decide_eq_true (by omega))
        have HV : Hid (dv s[1] = s[1].toNat - 48) := Lib.hid rfl
        go_wp2_with fail
        go_roundg (10 - 2)
        case measure => omega
        case rel =>
          obtain ⟨p0, p1, p2, p3, p4, p5, p6, p7, p8, p9, p10, p11⟩ := HP.out
          have hv := HV.out
          refine ⟨2, 10 * y + dv s[1], m, d, ?_, by omega, rfl, by omega, by omega, by omega, Lib.hid ⟨by rw [okTo, p0, HA.out]; rfl, by rw [yTo, if_pos (by omega), HG.out, ← p1], by rw [mTo, if_neg (by omega)]; exact p2, by rw [dTo, if_neg (by omega)]; exact p3, by omega, by omega, by omega, by omega, by omega, by omega, by omega, by omega⟩, rfl, rfl⟩
          first | exact alloc3 (by omega) (by omega) (by omega) | (simp; omega)
      · have HA : Hid (okAt (L s) 1 = false) := Lib.hid (by unfold okAt; rw [if_neg (by omega), HG.out]; exact decide_eq_false (by omega))
        have HN : Hid (dayE (L s) = (0, 12)) := Lib.hid (by rw [HE.out, okTo_no _ 1 HA.out 10 (by omega)]; rfl)
        have hcc : (s[1].toNat : Int) < 48 ∨ 57 < (s[1].toNat : Int) := by omega
        clear hd1
        rcases hcc with c1 | c1
        all_goals
          go_wp2_with fail
          go_ret2
          exact RetDay.mk (by rw [HN.out]; rfl) (by rw [HN.out]; rfl) ((Below.refl _ _).alloc (Nat.le_refl _) _)
    · have hlt : (2 : Nat) < s.size := by omega
      have HG := Lib.hid (L_get s 2 hlt)
      have hc := s[2].toNat_lt
      rw [show partAt 2 = 0 from rfl]
      by_cases hd1 : 48 ≤ (s[2].toNat : Int) ∧ (s[2].toNat : Int) ≤ 57
      · obtain ⟨d1, d2⟩ := hd1
        have HA : Hid (okAt (L s) 2 = true) := Lib.hid (by unfold okAt; rw [if_neg (by omega), HG.out]; exact decide_eq_true (by omega))
        have HV : Hid (dv s[2] = s[2].toNat - 48) := Lib.hid rfl
        go_wp2_with fail
        go_roundg (10 - 3)
        case measure => omega
        case rel =>
          obtain ⟨p0, p1, p2, p3, p4, p5, p6, p7, p8, p9, p10, p11⟩ := HP.out
          have hv := HV.out
          refine ⟨3, 10 * y + dv s[2], m, d, ?_, by omega, rfl, by omega, by omega, by omega, Lib.hid ⟨by rw [okTo, p0, HA.out]; rfl, by rw [yTo, if_pos (by omega), HG.out, ← p1], by rw [mTo, if_neg (by omega)]; exact p2, by rw [dTo, if_neg (by omega)]; exact p3, by omega, by omega, by omega, by omega, by omega, by omega, by omega, by omega⟩, rfl, rfl⟩
          first | exact alloc3 (by omega) (by omega) (by omega) | (simp; omega)
      · have HA : Hid (okAt (L s) 2 = false) := Lib.hid (by unfold okAt; rw [if_neg (by omega), HG.out]; exact decide_eq_false (by omega))
        have HN : Hid (dayE (L s) = (0, 12)) := Lib.hid (by rw [HE.out, okTo_no _ 2 HA.out 10 (by omega)]; rfl)
        have hcc : (s[2].toNat : Int) < 48 ∨ 57 < (s[2].toNat : Int) := by omega
        clear hd1
        rcases hcc with c1 | c1
        all_goals
          go_wp2_with fail
          go_ret2
          exact RetDay.mk (by rw [HN.out]; rfl) (by rw [HN.out]; rfl) ((Below.refl _ _).alloc (Nat.le_refl _) _)
    · have hlt : (3 : Nat) < s.size := by omega
      have HG := Lib.hid (L_get s 3 hlt)
      have hc := s[3].toNat_lt
      rw [show partAt 3 = 0 from rfl]
      by_cases hd1 : 48 ≤ (s[3].toNat : Int) ∧ (s[3].toNat : Int) ≤ 57
      · obtain ⟨d1, d2⟩ := hd1
        have HA : Hid (okAt (L s) 3 = true) := Lib.hid (by unfold okAt; rw [if_neg (by omega), HG.out]; exact decide_eq_true (by omega))
        have HV : Hid (dv s[3] = s[3].toNat - 48) := Lib.hid rfl
        go_wp2_with fail
        go_roundg (10 - 4)
        case measure => omega
        case rel =>
          obtain ⟨p0, p1, p2, p3, p4, p5, p6, p7, p8, p9, p10, p11⟩ := HP.out
          have hv := HV.out
          refine ⟨4, 10 * y + dv s[3], m, d, ?_, by omega, rfl, by omega, by omega, by omega, Lib.hid ⟨by rw [okTo, p0, HA.out]; rfl, by rw [yTo, if_pos (by omega), HG.out, ← p1], by rw [mTo, if_neg (by omega)]; exact p2, by rw [dTo, if_neg (by omega)]; exact p3, by omega, by omega, by omega, by omega, by omega, by omega, by omega, by omega⟩, rfl, rfl⟩
          first | exact alloc3 (by omega) (by omega) (by omega) | (simp; omega)
      · have HA : Hid (okAt (L s) 3 = false) := Lib.hid (by unfold okAt; rw [if_neg (by omega), HG.out]; exact decide_eq_false (by omega))
        have HN : Hid (dayE (L s) = (0, 12)) := Lib.hid (by rw [HE.out, okTo_no _ 3 HA.out 10 (by omega)]; rfl)
        have hcc : (s[3].toNat : Int) < 48 ∨ 57 < (s[3].toNat : Int) := by omega
        clear hd1
        rcases hcc with c1 | c1
        all_goals
          go_wp2_with fail
          go_ret2
          exact RetDay.mk (by rw [HN.out]; rfl) (by rw [HN.out]; rfl) ((Below.refl _ _).alloc (Nat.le_refl _) _)
    · have hlt : (4 : Nat) < s.size := by omega
      have HG := Lib.hid (L_get s 4 hlt)
      have hc := s[4].toNat_lt
      rw [show partAt 4 = 0 from rfl]
      by_cases h45 : (s[4].toNat : Int) = 45
      · have HA : Hid (okAt (L s) 4 = true) := Lib.hid (by unfold okAt; rw [if_pos (by omega), HG.out, beq_iff_eq]; exact UInt8.toNat_inj.1 (by show s[4].toNat = 45; omega))
        have b1 : ((s[4].toNat : Int) != 45) = false := by rw [bne_eq_false_iff_eq]; exact h45
        clear h45
        go_wp2_with fail
        go_roundg (10 - 5)
        case measure => omega
        case rel =>
          obtain ⟨p0, p1, p2, p3, p4, p5, p6, p7, p8, p9, p10, p11⟩ := HP.out
          exact ⟨5, y, m, d, rfl, by omega, rfl, hy, hm, hd, Lib.hid ⟨by rw [okTo, p0, HA.out]; rfl, by rw [yTo, if_neg (by omega)]; exact p1, by rw [mTo, if_neg (by omega)]; exact p2, by rw [dTo, if_neg (by omega)]; exact p3, by omega, by omega, by omega, by omega, by omega, by omega, by omega, by omega⟩, rfl, rfl⟩
      · have HA : Hid (okAt (L s) 4 = false) := Lib.hid (by unfold okAt; rw [if_pos (by omega), HG.out, beq_eq_false_iff_ne]; intro e; apply h45; rw [e]; rfl)
        have HN : Hid (dayE (L s) = (0, 12)) := Lib.hid (by rw [HE.out, okTo_no _ 4 HA.out 10 (by omega)]; rfl)
        have b1 : ((s[4].toNat : Int) != 45) = true := by rw [bne_iff_ne]; exact h45
        clear h45
        go_wp2_with fail
        go_ret2
        exact RetDay.mk (by rw [HN.out]; rfl) (by rw [HN.out]; rfl) ((Below.refl _ _).alloc (Nat.le_refl _) _)
    · have hlt : (5 : Nat) < s.size := by omega
      have HG := Lib.hid (L_get s 5 hlt)
      have hc := s[5].toNat_lt
      rw [show partAt 5 = 1 from rfl]
      by_cases hd1 : 48 ≤ (s[5].toNat : Int) ∧ (s[5].toNat : Int) ≤ 57
      · obtain ⟨d1, d2⟩ := hd1
        have HA : Hid (okAt (L s) 5 = true) := Lib.hid (by unfold okAt; rw [if_neg (by omega), HG.out]; exact decide_eq_true (by omega))
        have HV : Hid (dv s[5] = s[5].toNat - 48) := Lib.hid rfl
        go_wp2_with fail
        go_roundg (10 - 6)
        case measure => omega
        case rel =>
          obtain ⟨p0, p1, p2, p3, p4, p5, p6, p7, p8, p9, p10, p11⟩ := HP.out
          have hv := HV.out
          refine ⟨6, y, 10 * m + dv s[5], d, ?_, by omega, rfl, by omega, by omega, by omega, Lib.hid ⟨by rw [okTo, p0, HA.out]; rfl, by rw [yTo, if_neg (by omega)]; exact p1, by rw [mTo, if_pos (by omega), HG.out, ← p2], by rw [dTo, if_neg (by omega)]; exact p3, by omega, by omega, by omega, by omega, by omega, by omega, by omega, by omega⟩, rfl, rfl⟩
          first | exact alloc3 (by omega) (by omega) (by omega) | (simp; omega)
      · have HA : Hid (okAt (L s) 5 = false) := Lib.hid (by unfold okAt; rw [if_neg (by omega), HG.out]; exact decide_eq_false (by omega))
        have HN : Hid (dayE (L s) = (0, 12)) := Lib.hid (by rw [HE.out, okTo_no _ 5 HA.out 10 (by omega)]; rfl)
        have hcc : (s[5].toNat : Int) < 48 ∨ 57 < (s[5].toNat : Int) := by omega
        clear hd1
        rcases hcc with c1 | c1
        all_goals
          go_wp2_with fail
          go_ret2
          exact RetDay.mk (by rw [HN.out]; rfl) (by rw [HN.out]; rfl) ((Below.refl _ _).alloc (Nat.le_refl _) _)
    · have hlt : (6 : Nat) < s.size := by omega
      have HG := Lib.hid (L_get s 6 hlt)
      have hc := s[6].toNat_lt
      rw [show partAt 6 = 1 from rfl]
      by_cases hd1 : 48 ≤ (s[6].toNat : Int) ∧ (s[6].toNat : Int) ≤ 57
      · obtain ⟨d1, d2⟩ := hd1
        have HA : Hid (okAt (L s) 6 = true) := Lib.hid (by unfold okAt; rw [if_neg (by omega), HG.out]; exact decide_eq_true (by omega))
        have HV : Hid (dv s[6] = s[6].toNat - 48) := Lib.hid rfl
        go_wp2_with fail
        go_roundg (10 - 7)
        case measure => omega
        case rel =>
          obtain ⟨p0, p1, p2, p3, p4, p5, p6, p7, p8, p9, p10, p11⟩ := HP.out
          have hv := HV.out
          refine ⟨7, y, 10 * m + dv s[6], d, ?_, by omega, rfl, by omega, by omega, by omega, Lib.hid ⟨by rw [okTo, p0, HA.out]; rfl, by rw [yTo, if_neg (by omega)]; exact p1, by rw [mTo, if_pos (by omega), HG.out, ← p2], by rw [dTo, if_neg (by omega)]; exact p3, by omega, by omega, by omega, by omega, by omega, by omega, by omega, by omega⟩, rfl, rfl⟩
          first | exact alloc3 (by omega) (by omega) (by omega) | (simp; omega)
      · have HA : Hid (okAt (L s) 6 = false) := Lib.hid (by unfold okAt; rw [if_neg (by omega), HG.out]; exact decide_eq_false (by omega))
        have HN : Hid (dayE (L s) = (0, 12)) := Lib.hid (by rw [HE.out, okTo_no _ 6 HA.out 10 (by omega)]; rfl)
        have hcc : (s[6].toNat : Int) < 48 ∨ 57 < (s[6].toNat : Int) := by omega
        clear hd1
        rcases hcc with c1 | c1
        all_goals
          go_wp2_with fail
          go_ret2
          exact RetDay.mk (by rw [HN.out]; rfl) (by rw [HN.out]; rfl) ((Below.refl _ _).alloc (Nat.le_refl _) _)
    · have hlt : (7 : Nat) < s.size := by omega
      have HG := Lib.hid (L_get s 7 hlt)
      have hc := s[7].toNat_lt
      rw [show partAt 7 = 1 from rfl]
      by_cases h45 : (s[7].toNat : Int) = 45
      · have HA : Hid (okAt (L s) 7 = true) := Lib.hid (by unfold okAt; rw [if_pos (by omega), HG.out, beq_iff_eq]; exact UInt8.toNat_inj.1 (by show s[7].toNat = 45; omega))
        have b1 : ((s[7].toNat : Int) != 45) = false := by rw [bne_eq_false_iff_eq]; exact h45
        clear h45
        go_wp2_with fail
        go_roundg (10 - 8)
        case measure => omega
        case rel =>
          obtain ⟨p0, p1, p2, p3, p4, p5, p6, p7, p8, p9, p10, p11⟩ := HP.out
          exact ⟨8, y, m, d, rfl, by omega, rfl, hy, hm, hd, Lib.hid ⟨by rw [okTo, p0, HA.out]; rfl, by rw [yTo, if_neg (by omega)]; exact p1, by rw [mTo, if_neg (by omega)]; exact p2, by rw [dTo, if_neg (by omega)]; exact p3, by omega, by omega, by omega, by omega, by omega, by omega, by omega, by omega⟩, rfl, rfl⟩
      · have HA : Hid (okAt (L s) 7 = false) := Lib.hid (by unfold okAt; rw [if_pos (by omega), HG.out, beq_eq_false_iff_ne]; intro e; apply h45; rw [e]; rfl)
        have HN : Hid (dayE (L s) = (0, 12)) := Lib.hid (by rw [HE.out, okTo_no _ 7 HA.out 10 (by omega)]; rfl)
        have b1 : ((s[7].toNat : Int) != 45) = true := by rw [bne_iff_ne]; exact h45
        clear h45
        go_wp2_with fail
        go_ret2
        exact RetDay.mk (by rw [HN.out]; rfl) (by rw [HN.out]; rfl) ((Below.refl _ _).alloc (Nat.le_refl _) _)
    · have hlt : (8 : Nat) < s.size := by omega
      have HG := Lib.hid (L_get s 8 hlt)
      have hc := s[8].toNat_lt
      rw [show partAt 8 = 2 from rfl]
      by_cases hd1 : 48 ≤ (s[8].toNat : Int) ∧ (s[8].toNat : Int) ≤ 57
      · obtain ⟨d1, d2⟩ := hd1
        have HA : Hid (okAt (L s) 8 = true) := Lib.hid (by unfold okAt; rw [if_neg (by omega), HG.out]; exact decide_eq_true (by omega))
        have HV : Hid (dv s[8] = s[8].toNat - 48) := Lib.hid rfl
        go_wp2_with fail
        go_roundg (10 - 9)
        case measure => omega
        case rel =>
          obtain ⟨p0, p1, p2, p3, p4, p5, p6, p7, p8, p9, p10, p11⟩ := HP.out
          have hv := HV.out
          refine ⟨9, y, m, 10 * d + dv s[8], ?_, by omega, rfl, by omega, by omega, by omega, Lib.hid ⟨by rw [okTo, p0, HA.out]; rfl, by rw [yTo, if_neg (by omega)]; exact p1, by rw [mTo, if_neg (by omega)]; exact p2, by rw [dTo, if_pos (by omega), HG.out, ← p3], by omega, by omega, by omega, by omega, by omega, by omega, by omega, by omega⟩, rfl, rfl⟩
          first | exact alloc3 (by omega) (by omega) (by omega) | (simp; omega)
      · have HA : Hid (okAt (L s) 8 = false) := Lib.hid (by unfold okAt; rw [if_neg (by omega), HG.out]; exact decide_eq_false (by omega))
        have HN : Hid (dayE (L s) = (0, 12)) := Lib.hid (by rw [HE.out, okTo_no _ 8 HA.out 10 (by omega)]; rfl)
        have hcc : (s[8].toNat : Int) < 48 ∨ 57 < (s[8].toNat : Int) := by omega
        clear hd1
        rcases hcc with c1 | c1
        all_goals
          go_wp2_with fail
          go_ret2
          exact RetDay.mk (by rw [HN.out]; rfl) (by rw [HN.out]; rfl) ((Below.refl _ _).alloc (Nat.le_refl _) _)
    · have hlt : (9 : Nat) < s.size := by omega
      have HG := Lib.hid (L_get s 9 hlt)
      have hc := s[9].toNat_lt
      rw [show partAt 9 = 2 from rfl]
      by_cases hd1 : 48 ≤ (s[9].toNat : Int) ∧ (s[9].toNat : Int) ≤ 57
      · obtain ⟨d1, d2⟩ := hd1
        have HA : Hid (okAt (L s) 9 = true) := Lib.hid (by unfold okAt; rw [if_neg (by omega), HG.out]; exact decide_eq_true (by omega))
        have HV : Hid (dv s[9] = s[9].toNat - 48) := Lib.hid rfl
        go_wp2_with fail
        go_roundg (10 - 10)
        case measure => omega
        case rel =>
          obtain ⟨p0, p1, p2, p3, p4, p5, p6, p7, p8, p9, p10, p11⟩ := HP.out
          have hv := HV.out
          refine ⟨10, y, m, 10 * d + dv s[9], ?_, by omega, rfl, by omega, by omega, by omega, Lib.hid ⟨by rw [okTo, p0, HA.out]; rfl, by rw [yTo, if_neg (by omega)]; exact p1, by rw [mTo, if_neg (by omega)]; exact p2, by rw [dTo, if_pos (by omega), HG.out, ← p3], by omega, by omega, by omega, by omega, by omega, by omega, by omega, by omega⟩, rfl, rfl⟩
          first | exact alloc3 (by omega) (by omega) (by omega) | (simp; omega)
      · have HA : Hid (okAt (L s) 9 = false) := Lib.hid (by unfold okAt; rw [if_neg (by omega), HG.out]; exact decide_eq_false (by omega))
        have HN : Hid (dayE (L s) = (0, 12)) := Lib.hid (by rw [HE.out, okTo_no _ 9 HA.out 10 (by omega)]; rfl)
        have hcc : (s[9].toNat : Int) < 48 ∨ 57 < (s[9].toNat : Int) := by omega
        clear hd1
        rcases hcc with c1 | c1
        all_goals
          go_wp2_with fail
          go_ret2
          exact RetDay.mk (by rw [HN.out]; rfl) (by rw [HN.out]; rfl) ((Below.refl _ _).alloc (Nat.le_refl _) _)
    · have HB1 : Hid (Below w.heap.size w (w.alloc (.cells #[.int .i64 (y : Int), .int .i64 (m : Int), .int .i64 (d : Int)] 56))) := Lib.hid ((Below.refl _ _).alloc (Nat.le_refl _) _)
      have hTa := hT.alloc (.cells #[.int .i64 (y : Int), .int .i64 (m : Int), .int .i64 (d : Int)] 56)
      have hlt : ¬ (10 : Nat) < s.size := by omega
      go_wp2_with fail
      refine (Day_any _ _ _ _ hTa (by omega) (by omega) (by omega) (by omega) (by omega) (by omega)).mono ?_
      rintro e w2 ⟨rfl, b2⟩
      rw [Int.toNat_natCast, Int.toNat_natCast, Int.toNat_natCast]
      have HX : Hid (dayE (L s) = dayOfE y m d) := Lib.hid (by
        obtain ⟨p0, p1, p2, p3, _⟩ := HP.out
        rw [HE.out, if_pos p0, ← p1, ← p2, ← p3])
      have B2 : Hid (Below w.heap.size w w2) := Lib.hid (HB1.out.trans (b2.out.mono (by simp)))
      clear b2
      generalize dayOfE y m d = r at *
      go_wp2_with fail
      go_ret2
      exact RetDay.mk (by rw [HX.out]) (by rw [HX.out]) B2.out
end Go.Proofs.YtibgibjmpcajkaaGreatDoor
