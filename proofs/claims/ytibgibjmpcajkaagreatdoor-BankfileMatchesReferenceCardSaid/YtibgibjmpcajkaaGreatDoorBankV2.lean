/- The walks of validPayment, validAnswer. -/
import Derived.Test.YtibgibjmpcajkaaGreatDoorBankV
namespace Go.Proofs.YtibgibjmpcajkaaGreatDoor
open Go.RowKit BankS

theorem RetB.mk {b c : Bool} {w w' : World} (h : b = c) (hb : Below w.heap.size w w') : RetB c w (.returned (.bool b)) w' := ⟨by rw [h], hb⟩
abbrev payV (p : Pay) : Value := .agg #[.int .i64 p.1, str p.2.1, .int .i64 p.2.2.1, .int .i64 p.2.2.2]
abbrev ansV (a : Ans) : Value := .agg #[.int .i64 a.1, .int .i64 a.2.1, .int .i64 a.2.2.1, .int .i64 a.2.2.2.1, .int .i64 a.2.2.2.2]
set_option maxHeartbeats 1000000 in
theorem validPayment_any (id : Int) (s : ByteArray) (c d : Int) (w : World) (hs : s.size ≤ 1000) :
    Calls Tryz.prog 28 #[.agg #[.int .i64 id, .string s, .int .i64 c, .int .i64 d]] w (RetB (payOk (id, L s, c, d)) w) := by
  have B1 : Hid (Below w.heap.size w (w.alloc (.cells #[.int .i64 id, .string s, .int .i64 c, .int .i64 d] 27))) := Lib.hid ((Below.refl _ _).alloc (Nat.le_refl _) _)
  by_cases h1 : 0 ≤ id
  · by_cases h2 : id ≤ 999999999
    · have HO : Hid (payOk (id, L s, c, d) = (isName (L s) && centsOk c && dayOk d)) := Lib.hid (by
        unfold payOk; simp only []; rw [show numOk id = true from decide_eq_true ⟨h1, h2⟩, Bool.true_and])
      go_enter Tryz.func28, Tryz.ntmps28
      go_wp2_with fail
      refine (isName_any s _ (by unfold maxLen; omega)).mono ?_
      rintro e w' ⟨rfl, rfl⟩
      cases hn : isName (L s) with
      | false =>
        have HO2 : Hid (payOk (id, L s, c, d) = false) := Lib.hid (by rw [HO.out, hn]; rfl)
        clear hn
        go_wp2_with fail
        go_ret
        exact RetB.mk HO2.out.symm B1.out
      | true =>
        have HN := Lib.hid hn
        clear hn
        by_cases h3 : 1 ≤ c
        · by_cases h4 : c ≤ 1000000000000
          · have HO2 : Hid (payOk (id, L s, c, d) = dayOk d) := Lib.hid (by rw [HO.out, HN.out, show centsOk c = true from decide_eq_true ⟨h3, h4⟩]; rfl)
            go_wp2_with fail
            refine (isDay_any d _).mono ?_
            rintro e w' ⟨rfl, rfl⟩
            go_wp2_with fail
            go_ret
            exact RetB.mk HO2.out.symm B1.out
          · have HO2 : Hid (payOk (id, L s, c, d) = false) := Lib.hid (by rw [HO.out, HN.out, show centsOk c = false from decide_eq_false (by omega)]; rfl)
            go_wp2_with fail
            go_ret
            exact RetB.mk HO2.out.symm B1.out
        · have HO2 : Hid (payOk (id, L s, c, d) = false) := Lib.hid (by rw [HO.out, HN.out, show centsOk c = false from decide_eq_false (by omega)]; rfl)
          go_wp2_with fail
          go_ret
          exact RetB.mk HO2.out.symm B1.out
    · have HO2 : Hid (payOk (id, L s, c, d) = false) := Lib.hid (by unfold payOk; simp only []; rw [show numOk id = false from decide_eq_false (by omega)]; rfl)
      go_enter Tryz.func28, Tryz.ntmps28
      go_wp2_with fail
      go_ret
      exact RetB.mk HO2.out.symm B1.out
  · have HO2 : Hid (payOk (id, L s, c, d) = false) := Lib.hid (by unfold payOk; simp only []; rw [show numOk id = false from decide_eq_false (by omega)]; rfl)
    go_enter Tryz.func28, Tryz.ntmps28
    go_wp2_with fail
    go_ret
    exact RetB.mk HO2.out.symm B1.out
set_option maxHeartbeats 2000000 in
theorem validAnswer_any (s id k c d : Int) (w : World) :
    Calls Tryz.prog 48 #[.agg #[.int .i64 s, .int .i64 id, .int .i64 k, .int .i64 c, .int .i64 d]] w (RetB (ansOk (s, id, k, c, d)) w) := by
  have B1 : Hid (Below w.heap.size w (w.alloc (.cells #[.int .i64 s, .int .i64 id, .int .i64 k, .int .i64 c, .int .i64 d] 54))) := Lib.hid ((Below.refl _ _).alloc (Nat.le_refl _) _)
  have hU : ansOk (s, id, k, c, d) = (numOk s && numOk id && dayOk d && (if k = 2 ∨ k = 4 then centsOk c else decide ((k = 1 ∨ k = 3) ∧ c = 0))) := rfl
  have HU := Lib.hid hU
  clear hU
  by_cases h1 : 0 ≤ s
  rotate_left
  · have HO2 : Hid (ansOk (s, id, k, c, d) = false) := Lib.hid (by rw [HU.out, show numOk s = false from decide_eq_false (by omega)]; rfl)
    go_enter Tryz.func48, Tryz.ntmps48
    go_wp2_with fail
    go_ret
    exact RetB.mk HO2.out.symm B1.out
  by_cases h2 : s ≤ 999999999
  rotate_left
  · have HO2 : Hid (ansOk (s, id, k, c, d) = false) := Lib.hid (by rw [HU.out, show numOk s = false from decide_eq_false (by omega)]; rfl)
    go_enter Tryz.func48, Tryz.ntmps48
    go_wp2_with fail
    go_ret
    exact RetB.mk HO2.out.symm B1.out
  have N1 : Hid (numOk s = true) := Lib.hid (decide_eq_true ⟨h1, h2⟩)
  by_cases h3 : 0 ≤ id
  rotate_left
  · have HO2 : Hid (ansOk (s, id, k, c, d) = false) := Lib.hid (by rw [HU.out, N1.out, show numOk id = false from decide_eq_false (by omega)]; rfl)
    go_enter Tryz.func48, Tryz.ntmps48
    go_wp2_with fail
    go_ret
    exact RetB.mk HO2.out.symm B1.out
  by_cases h4 : id ≤ 999999999
  rotate_left
  · have HO2 : Hid (ansOk (s, id, k, c, d) = false) := Lib.hid (by rw [HU.out, N1.out, show numOk id = false from decide_eq_false (by omega)]; rfl)
    go_enter Tryz.func48, Tryz.ntmps48
    go_wp2_with fail
    go_ret
    exact RetB.mk HO2.out.symm B1.out
  have N2 : Hid (numOk id = true) := Lib.hid (decide_eq_true ⟨h3, h4⟩)
  go_enter Tryz.func48, Tryz.ntmps48
  go_wp2_with fail
  refine (isDay_any d _).mono ?_
  rintro e w' ⟨rfl, rfl⟩
  cases hd : dayOk d with
  | false =>
    have HO2 : Hid (ansOk (s, id, k, c, d) = false) := Lib.hid (by rw [HU.out, N1.out, N2.out, hd]; rfl)
    clear hd
    go_wp2_with fail
    go_ret
    exact RetB.mk HO2.out.symm B1.out
  | true =>
    have HO : Hid (ansOk (s, id, k, c, d) = (if k = 2 ∨ k = 4 then centsOk c else decide ((k = 1 ∨ k = 3) ∧ c = 0))) := Lib.hid (by rw [HU.out, N1.out, N2.out, hd]; rfl)
    clear hd
    have hk : k = 2 ∨ k = 4 ∨ k = 1 ∨ k = 3 ∨ (k ≠ 1 ∧ k ≠ 2 ∧ k ≠ 3 ∧ k ≠ 4) := by omega
    rcases hk with rfl | rfl | rfl | rfl | ⟨k1, k2, k3, k4⟩
    · have HO3 : Hid (ansOk (s, id, 2, c, d) = centsOk c) := Lib.hid (by rw [HO.out, if_pos (by omega)])
      by_cases h5 : 1 ≤ c
      · by_cases h6 : c ≤ 1000000000000
        · have HO2 : Hid (ansOk (s, id, 2, c, d) = true) := Lib.hid (by rw [HO3.out]; exact decide_eq_true ⟨h5, h6⟩)
          go_wp2_with fail
          go_ret
          exact RetB.mk (by rw [HO2.out]) B1.out
        · have HO2 : Hid (ansOk (s, id, 2, c, d) = false) := Lib.hid (by rw [HO3.out]; exact decide_eq_false (by omega))
          go_wp2_with fail
          go_ret
          exact RetB.mk (by rw [HO2.out]; simp [h6]) B1.out
      · have HO2 : Hid (ansOk (s, id, 2, c, d) = false) := Lib.hid (by rw [HO3.out]; exact decide_eq_false (by omega))
        go_wp2_with fail
        go_ret
        exact RetB.mk HO2.out.symm B1.out
    · have HO3 : Hid (ansOk (s, id, 4, c, d) = centsOk c) := Lib.hid (by rw [HO.out, if_pos (by omega)])
      by_cases h5 : 1 ≤ c
      · by_cases h6 : c ≤ 1000000000000
        · have HO2 : Hid (ansOk (s, id, 4, c, d) = true) := Lib.hid (by rw [HO3.out]; exact decide_eq_true ⟨h5, h6⟩)
          go_wp2_with fail
          go_ret
          exact RetB.mk (by rw [HO2.out]) B1.out
        · have HO2 : Hid (ansOk (s, id, 4, c, d) = false) := Lib.hid (by rw [HO3.out]; exact decide_eq_false (by omega))
          go_wp2_with fail
          go_ret
          exact RetB.mk (by rw [HO2.out]; simp [h6]) B1.out
      · have HO2 : Hid (ansOk (s, id, 4, c, d) = false) := Lib.hid (by rw [HO3.out]; exact decide_eq_false (by omega))
        go_wp2_with fail
        go_ret
        exact RetB.mk HO2.out.symm B1.out
    · by_cases h5 : c = 0
      · have HO2 : Hid (ansOk (s, id, 1, c, d) = true) := Lib.hid (by rw [HO.out, if_neg (by omega)]; exact decide_eq_true (by omega))
        have hb : (c == 0) = true := by rw [beq_iff_eq]; exact h5
        clear h5
        go_wp2_with fail
        go_ret
        exact RetB.mk (by rw [HO2.out]) B1.out
      · have HO2 : Hid (ansOk (s, id, 1, c, d) = false) := Lib.hid (by rw [HO.out, if_neg (by omega)]; exact decide_eq_false (by omega))
        have hb : (c == 0) = false := by rw [beq_eq_false_iff_ne]; exact h5
        go_wp2_with fail
        go_ret
        exact RetB.mk (by rw [HO2.out]) B1.out
    · by_cases h5 : c = 0
      · have HO2 : Hid (ansOk (s, id, 3, c, d) = true) := Lib.hid (by rw [HO.out, if_neg (by omega)]; exact decide_eq_true (by omega))
        have hb : (c == 0) = true := by rw [beq_iff_eq]; exact h5
        clear h5
        go_wp2_with fail
        go_ret
        exact RetB.mk (by rw [HO2.out]) B1.out
      · have HO2 : Hid (ansOk (s, id, 3, c, d) = false) := Lib.hid (by rw [HO.out, if_neg (by omega)]; exact decide_eq_false (by omega))
        have hb : (c == 0) = false := by rw [beq_eq_false_iff_ne]; exact h5
        go_wp2_with fail
        go_ret
        exact RetB.mk (by rw [HO2.out]) B1.out
    · have HO2 : Hid (ansOk (s, id, k, c, d) = false) := Lib.hid (by rw [HO.out, if_neg (by omega)]; exact decide_eq_false (by omega))
      have b1 : (k == 1) = false := by rw [beq_eq_false_iff_ne]; exact k1
      have b2 : (k == 2) = false := by rw [beq_eq_false_iff_ne]; exact k2
      have b3 : (k == 3) = false := by rw [beq_eq_false_iff_ne]; exact k3
      have b4 : (k == 4) = false := by rw [beq_eq_false_iff_ne]; exact k4
      go_wp2_with fail
      go_ret
      exact RetB.mk HO2.out.symm B1.out
end Go.Proofs.YtibgibjmpcajkaaGreatDoor
