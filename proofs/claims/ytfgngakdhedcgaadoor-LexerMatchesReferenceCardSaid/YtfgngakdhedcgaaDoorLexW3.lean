/- The walks of isDate, figures and read. -/
import Derived.Test.YtfgngakdhedcgaaDoorLexW2
namespace Go.Proofs.YtfgngakdhedcgaaDoor
open Go.RowKit LexS

theorem L_dot : L { data := #[46] } = [46] := rfl
theorem byte_eq {c d : UInt8} (h : c = d) : ((c.toNat : Int) == (d.toNat : Int)) = true := by rw [h]; simp
theorem byte_ne {c d : UInt8} (h : c ≠ d) : ((c.toNat : Int) == (d.toNat : Int)) = false := by
  rw [beq_eq_false_iff_ne]; intro e; exact h (UInt8.toNat_inj.1 (by omega))
theorem byte_neb {c d : UInt8} (h : c ≠ d) : ((c.toNat : Int) != (d.toNat : Int)) = true := by
  rw [bne_iff_ne]; intro e; exact h (UInt8.toNat_inj.1 (by omega))
theorem byte_eqb {c d : UInt8} (h : c = d) : ((c.toNat : Int) != (d.toNat : Int)) = false := by rw [h]; simp
theorem at_get (s : ByteArray) (k i : Nat) (h : k + i < s.size) : ((L s).drop k)[i]? = some (s[k + i]) := by
  rw [List.getElem?_drop, List.getElem?_eq_getElem (by simpa using h)]; rfl
theorem head_get (s : ByteArray) (k : Nat) (h : k < s.size) : ((L s).drop k).head? = some (s[k]) := by
  rw [drop_at s k h]; rfl
theorem len_drop (s : ByteArray) (k : Nat) : ((L s).drop k).length = s.size - k := by simp

theorem date_all (t : List UInt8) (hl : 10 ≤ t.length) (h : ∀ j, j < 10 → dateAt t j = true) : isDate t = true := by
  unfold isDate
  simp only [hl, decide_true, Bool.true_and, List.all_eq_true, List.mem_range]
  exact h
theorem date_no (t : List UInt8) (i : Nat) (hi : i < 10) (h : dateAt t i = false) : isDate t = false := by
  unfold isDate
  rw [Bool.and_eq_false_iff]
  right
  rw [List.all_eq_false]
  exact ⟨i, by simpa using hi, by simp [h]⟩

set_option maxHeartbeats 1000000 in
theorem isDate_any (s : ByteArray) (a : Int) (w : World) (hs : s.size ≤ 6000) (hT : Tabs w) (h0 : 0 ≤ a) (ha : a ≤ s.size) :
    Calls Tryd.prog 43 #[.string s, .int .i64 a] w fun e w' => e = .returned (.bool (isDate ((L s).drop a.toNat))) ∧ w = w' := by
  obtain ⟨k, rfl⟩ := Int.eq_ofNat_of_zero_le h0
  rw [Int.toNat_natCast]
  by_cases hl : s.size < k + 10
  · go_enter Tryd.func43, Tryd.ntmps43
    go_wp2_with fail
    go_ret
    refine ⟨ret_bool (a := false) ?_, rfl⟩
    unfold isDate
    rw [len_drop]
    simp; omega
  · have hl10 : k + 10 ≤ s.size := by omega
    clear hl
    go_enter Tryd.func43, Tryd.ntmps43
    go_wp2_with fail
    go_loopg [11] 10 (fun g x wx => ∃ i : Nat, w = wx ∧ i ≤ 10 ∧ g = 10 - i ∧ Hid (∀ j, j < i → dateAt ((L s).drop k) j = true) ∧ x = .int .i64 i)
    case atStart => exact ⟨0, rfl, by omega, rfl, Lib.hid (by omega), rfl⟩
    case round =>
      obtain ⟨i, rfl, hi, rfl, HI, rfl⟩ := hrel
      by_cases hi10 : i < 10
      · by_cases h47 : i = 4 ∨ i = 7
        · have hd : Hid (dateAt ((L s).drop k) i = (some s[k + i] == some 45)) := by
            refine Lib.hid ?_
            unfold dateAt
            rw [if_pos h47, at_get s k i (by omega)]
          have hsel : ((i : Int) == 4) = true ∨ (((i : Int) == 4) = false ∧ ((i : Int) == 7) = true) := by
            rcases h47 with rfl | rfl
            · left; rfl
            · right; exact ⟨rfl, rfl⟩
          clear h47
          by_cases hm : s[k + i] = 45
          · have hb : ((s[k + i].toNat : Int) != 45) = false := byte_eqb hm
            have HM := Lib.hid hm
            clear hm
            rcases hsel with h4 | ⟨h4, h7⟩
            all_goals
              go_wp2_with fail
              go_roundg (10 - (i + 1))
              case measure => omega
              case rel =>
                refine ⟨i + 1, rfl, by omega, rfl, Lib.hid ?_, by go_num⟩
                intro j hj
                by_cases hji : j = i
                · subst hji; rw [hd.out, HM.out]; rfl
                · exact HI.out j (by omega)
          · have hb : ((s[k + i].toNat : Int) != 45) = true := byte_neb hm
            have HM := Lib.hid hm
            clear hm
            rcases hsel with h4 | ⟨h4, h7⟩
            all_goals
              go_wp2_with fail
              go_ret
              refine ⟨ret_bool (a := false) ?_, rfl⟩
              symm
              refine date_no _ i hi10 ?_
              rw [hd.out]
              simpa using HM.out
        · have hd : Hid (dateAt ((L s).drop k) i = isB 8 ((L s).drop (k + i))) := by
            refine Lib.hid ?_
            unfold dateAt
            rw [if_neg h47, List.drop_drop]
          have h4 : ((i : Int) == 4) = false := by rw [beq_eq_false_iff_ne]; omega
          have h7 : ((i : Int) == 7) = false := by rw [beq_eq_false_iff_ne]; omega
          clear h47
          cases hb : isB 8 ((L s).drop (k + i)) with
          | true =>
            have HB := Lib.hid hb
            clear hb
            go_wp2_with fail
            refine (is_any s _ 8 _ hT (by omega) rfl).mono ?_
            rintro e w' ⟨rfl, rfl⟩
            rw [show ((k : Int) + (i : Int)).toNat = k + i from by omega, HB.out]
            go_wp2_with fail
            go_roundg (10 - (i + 1))
            case measure => omega
            case rel =>
              refine ⟨i + 1, rfl, by omega, rfl, Lib.hid ?_, by go_num⟩
              intro j hj
              by_cases hji : j = i
              · subst hji; rw [hd.out, HB.out]
              · exact HI.out j (by omega)
          | false =>
            have HB := Lib.hid hb
            clear hb
            go_wp2_with fail
            refine (is_any s _ 8 _ hT (by omega) rfl).mono ?_
            rintro e w' ⟨rfl, rfl⟩
            rw [show ((k : Int) + (i : Int)).toNat = k + i from by omega, HB.out]
            go_wp2_with fail
            go_ret
            refine ⟨ret_bool (a := false) ?_, rfl⟩
            symm
            refine date_no _ i hi10 ?_
            rw [hd.out, HB.out]
      · have hge : 10 ≤ i := by omega
        go_wp2_with fail
        go_ret
        refine ⟨ret_bool (a := true) ?_, rfl⟩
        symm
        refine date_all _ (by rw [len_drop]; omega) ?_
        intro j hj
        exact HI.out j (by omega)

/-- the two results of figures and of read -/
def outN (k : Nat) (r : Nat × Nat) : Value := if r.1 = 0 then .tuple #[.int .i64 0, .int .i64 0] else .tuple #[.int .i64 r.1, .int .i64 ((k + r.2 : Nat) : Int)]
theorem ret_out {k : Nat} {r : Nat × Nat} {v : Value} (h : v = outN k r) : Ending.returned v = .returned (outN k r) := by rw [h]
theorem isB_lt (m : Nat) (s : ByteArray) (k : Nat) (h : isB m ((L s).drop k) = true) : k < s.size := (run_step m s k h).2
theorem free_of (t : List UInt8) (h1 : isB 30 t = false) (h2 : [46].isPrefixOf t = false) : free t = true := by
  unfold free
  cases t with
  | nil => rfl
  | cons c t =>
    simp only [h1, Bool.false_or, List.head?_cons]
    have : ¬ (46 = c) := by simpa [List.isPrefixOf] using h2
    simp [Ne.symm this]
theorem not_free1 (t : List UInt8) (h1 : isB 30 t = true) : free t = false := by unfold free; simp [h1]
theorem not_free2 (t : List UInt8) (h2 : [46].isPrefixOf t = true) : free t = false := by
  unfold free
  obtain ⟨u, rfl⟩ := List.isPrefixOf_iff_prefix.1 h2
  simp
theorem dot_head (t : List UInt8) : [46].isPrefixOf t = true ↔ t.head? = some 46 := by
  cases t with
  | nil => simp
  | cons c t => simp [List.isPrefixOf]; exact eq_comm

set_option maxHeartbeats 2000000 in
theorem figures_any (s : ByteArray) (a : Int) (w : World) (hs : s.size ≤ 6000) (hT : Tabs w) (h0 : 0 ≤ a) (ha : a < s.size) :
    Calls Tryd.prog 37 #[.string s, .int .i64 a] w fun e w' => e = .returned (outN a.toNat (figs ((L s).drop a.toNat))) ∧ w = w' := by
  obtain ⟨k, rfl⟩ := Int.eq_ofNat_of_zero_le h0
  rw [Int.toNat_natCast]
  have hk : k < s.size := by omega
  clear ha
  obtain ⟨d, hd⟩ : ∃ d, d = spanN 8 ((L s).drop k) := ⟨_, rfl⟩
  have hdl : k + d ≤ s.size := by rw [hd]; have := span_le 8 ((L s).drop k); rw [len_drop] at this; omega
  have HD := Lib.hid hd
  clear hd
  go_enter Tryd.func37, Tryd.ntmps37
  go_wp2_with fail
  refine (run_any s _ 8 _ (by omega) hT (by omega) rfl).mono ?_
  rintro e w' ⟨rfl, rfl⟩
  rw [Int.toNat_natCast, ← HD.out]
  go_wp2_with fail
  refine (isDate_any s _ _ hs hT (by omega) (by omega)).mono ?_
  rintro e w' ⟨rfl, rfl⟩
  rw [Int.toNat_natCast]
  cases hdt : isDate ((L s).drop k) with
  | true =>
    have hl10 : k + 10 ≤ s.size := by
      have := hdt; unfold isDate at this; rw [len_drop] at this; simp at this; omega
    have HF : Hid (figs ((L s).drop k) = if free ((L s).drop (k + 10)) then (5, 10) else (0, 0)) := by
      refine Lib.hid ?_
      unfold figs
      simp only [hdt, if_true, List.drop_drop]
    clear hdt
    go_wp2_with fail
    cases hw : isB 30 ((L s).drop (k + 10)) with
    | true =>
      have HW := Lib.hid hw
      clear hw
      refine (is_any s _ 30 _ hT (by omega) rfl).mono ?_
      rintro e w' ⟨rfl, rfl⟩
      rw [show ((k : Int) + 10).toNat = k + 10 from by omega, HW.out]
      go_wp2_with fail
      go_ret2
      refine ⟨ret_out ?_, rfl⟩
      rw [HF.out, not_free1 _ HW.out]
      rfl
    | false =>
      have HW := Lib.hid hw
      clear hw
      refine (is_any s _ 30 _ hT (by omega) rfl).mono ?_
      rintro e w' ⟨rfl, rfl⟩
      rw [show ((k : Int) + 10).toNat = k + 10 from by omega, HW.out]
      cases hp : [46].isPrefixOf ((L s).drop (k + 10)) with
      | true =>
        have HP := Lib.hid hp
        clear hp
        go_wp2_with fail
        refine (pre_any _ _ _).mono ?_
        rintro e w' ⟨rfl, rfl⟩
        rw [L_ext, L_dot, HP.out]
        go_wp2_with fail
        go_ret2
        refine ⟨ret_out ?_, rfl⟩
        rw [HF.out, not_free2 _ HP.out]
        rfl
      | false =>
        have HP := Lib.hid hp
        clear hp
        go_wp2_with fail
        refine (pre_any _ _ _).mono ?_
        rintro e w' ⟨rfl, rfl⟩
        rw [L_ext, L_dot, HP.out]
        go_wp2_with fail
        go_ret2
        refine ⟨ret_out ?_, rfl⟩
        rw [HF.out, free_of _ HW.out HP.out]
        simp [outN]
        try omega
  | false =>
    have HDT := Lib.hid hdt
    clear hdt
    by_cases hz : s[k] = 48 ∧ 1 < d
    · obtain ⟨hz0, hd1⟩ := hz
      have hb : ((s[k].toNat : Int) == 48) = true := byte_eq hz0
      have HF : Hid (figs ((L s).drop k) = (0, 0)) := by
        refine Lib.hid ?_
        unfold figs
        simp only [HDT.out, Bool.false_eq_true, if_false, ← HD.out, head_get s k hk, hz0, hd1, and_self, if_true]
      clear hz0
      go_wp2_with fail
      go_ret2
      refine ⟨ret_out ?_, rfl⟩
      rw [HF.out]
      rfl
    · have hbb : ((s[k].toNat : Int) == 48) = false ∨ (((s[k].toNat : Int) == 48) = true ∧ d ≤ 1) := by
        by_cases h48 : s[k] = 48
        · right; exact ⟨byte_eq h48, by have : ¬ 1 < d := fun h => hz ⟨h48, h⟩; omega⟩
        · left; exact byte_ne h48
      have HZ : Hid (¬ (((L s).drop k).head? = some 48 ∧ 1 < d)) := by
        refine Lib.hid ?_
        rw [head_get s k hk]
        rintro ⟨h1, h2⟩
        exact hz ⟨by simpa using h1, h2⟩
      clear hz
      cases hp : [46].isPrefixOf ((L s).drop (k + d)) with
      | true =>
        have HP := Lib.hid hp
        clear hp
        have HP' : Hid ((((L s).drop k).drop d).head? = some 46) := Lib.hid (by rw [List.drop_drop]; exact (dot_head _).1 HP.out)
        by_cases hd10 : 10 < d
        · have HF : Hid (figs ((L s).drop k) = (0, 0)) := by
            refine Lib.hid ?_
            unfold figs
            simp only [HDT.out, Bool.false_eq_true, if_false, ← HD.out]
            rw [if_neg HZ.out, if_pos HP'.out, if_pos (.inl hd10)]
          have hb := hbb.resolve_right (by omega)
          clear hbb
          go_wp2_with fail
          refine (pre_any _ _ _).mono ?_
          rintro e w' ⟨rfl, rfl⟩
          rw [L_ext, L_dot, HP.out]
          go_wp2_with fail
          go_ret2
          refine ⟨ret_out ?_, rfl⟩
          rw [HF.out]
          rfl
        · cases h1 : isB 8 ((L s).drop (k + d + 1)) with
          | false =>
            have HF : Hid (figs ((L s).drop k) = (0, 0)) := by
              refine Lib.hid ?_
              unfold figs
              simp only [HDT.out, Bool.false_eq_true, if_false, ← HD.out]
              rw [if_neg HZ.out, if_pos HP'.out, if_pos (.inr (.inl (by rw [List.drop_drop, ← Nat.add_assoc]; exact h1)))]
            have H1 := Lib.hid h1
            clear h1
            rcases hbb with hb | ⟨hb, hd1⟩
            all_goals
              go_wp2_with fail
              refine (pre_any _ _ _).mono ?_
              rintro e w' ⟨rfl, rfl⟩
              rw [L_ext, L_dot, HP.out]
              go_wp2_with fail
              refine (is_any s _ 8 _ hT (by omega) rfl).mono ?_
              rintro e w' ⟨rfl, rfl⟩
              rw [show ((k : Int) + (d : Int) + 1).toNat = k + d + 1 from by omega, H1.out]
              go_wp2_with fail
              go_ret2
              refine ⟨ret_out ?_, rfl⟩
              rw [HF.out]
              rfl
          | true =>
            have H1 := Lib.hid h1
            clear h1
            cases h2 : isB 8 ((L s).drop (k + d + 2)) with
            | false =>
              have HF : Hid (figs ((L s).drop k) = (0, 0)) := by
                refine Lib.hid ?_
                unfold figs
                simp only [HDT.out, Bool.false_eq_true, if_false, ← HD.out]
                rw [if_neg HZ.out, if_pos HP'.out, if_pos (.inr (.inr (by rw [List.drop_drop, ← Nat.add_assoc]; exact h2)))]
              have H2 := Lib.hid h2
              clear h2
              rcases hbb with hb | ⟨hb, hd1⟩
              all_goals
                go_wp2_with fail
                refine (pre_any _ _ _).mono ?_
                rintro e w' ⟨rfl, rfl⟩
                rw [L_ext, L_dot, HP.out]
                go_wp2_with fail
                refine (is_any s _ 8 _ hT (by omega) rfl).mono ?_
                rintro e w' ⟨rfl, rfl⟩
                rw [show ((k : Int) + (d : Int) + 1).toNat = k + d + 1 from by omega, H1.out]
                go_wp2_with fail
                refine (is_any s _ 8 _ hT (by omega) rfl).mono ?_
                rintro e w' ⟨rfl, rfl⟩
                rw [show ((k : Int) + (d : Int) + 2).toNat = k + d + 2 from by omega, H2.out]
                go_wp2_with fail
                go_ret2
                refine ⟨ret_out ?_, rfl⟩
                rw [HF.out]
                rfl
            | true =>
              have hsz : k + d + 2 < s.size := isB_lt 8 s _ h2
              have HF : Hid (figs ((L s).drop k) = if free ((L s).drop (k + d + 3)) then (4, d + 3) else (0, 0)) := by
                refine Lib.hid ?_
                unfold figs
                simp only [HDT.out, Bool.false_eq_true, if_false, ← HD.out]
                rw [if_neg HZ.out, if_pos HP'.out, if_neg (by
                  rintro (h | h | h)
                  · omega
                  · rw [List.drop_drop, ← Nat.add_assoc] at h; rw [h] at H1; exact absurd H1.out (by simp)
                  · rw [List.drop_drop, ← Nat.add_assoc] at h; rw [h] at h2; exact absurd h2 (by simp))]
                rw [List.drop_drop, ← Nat.add_assoc]
              have H2 := Lib.hid h2
              clear h2
              rcases hbb with hb | ⟨hb, hd1⟩
              all_goals
                go_wp2_with fail
                refine (pre_any _ _ _).mono ?_
                rintro e w' ⟨rfl, rfl⟩
                rw [L_ext, L_dot, HP.out]
                go_wp2_with fail
                refine (is_any s _ 8 _ hT (by omega) rfl).mono ?_
                rintro e w' ⟨rfl, rfl⟩
                rw [show ((k : Int) + (d : Int) + 1).toNat = k + d + 1 from by omega, H1.out]
                go_wp2_with fail
                refine (is_any s _ 8 _ hT (by omega) rfl).mono ?_
                rintro e w' ⟨rfl, rfl⟩
                rw [show ((k : Int) + (d : Int) + 2).toNat = k + d + 2 from by omega, H2.out]
                clear HP
                go_wp2_with fail
                cases hw : isB 30 ((L s).drop (k + d + 3)) with
                | true =>
                  have HW := Lib.hid hw
                  clear hw
                  refine (is_any s _ 30 _ hT (by omega) rfl).mono ?_
                  rintro e w' ⟨rfl, rfl⟩
                  rw [show ((k : Int) + (d : Int) + 3).toNat = k + d + 3 from by omega, HW.out]
                  go_wp2_with fail
                  go_ret2
                  refine ⟨ret_out ?_, rfl⟩
                  rw [HF.out, not_free1 _ HW.out]
                  rfl
                | false =>
                  have HW := Lib.hid hw
                  clear hw
                  refine (is_any s _ 30 _ hT (by omega) rfl).mono ?_
                  rintro e w' ⟨rfl, rfl⟩
                  rw [show ((k : Int) + (d : Int) + 3).toNat = k + d + 3 from by omega, HW.out]
                  cases hp : [46].isPrefixOf ((L s).drop (k + d + 3)) with
                  | true =>
                    have HP := Lib.hid hp
                    clear hp
                    go_wp2_with fail
                    refine (pre_any _ _ _).mono ?_
                    rintro e w' ⟨rfl, rfl⟩
                    rw [L_ext, L_dot, HP.out]
                    go_wp2_with fail
                    go_ret2
                    refine ⟨ret_out ?_, rfl⟩
                    rw [HF.out, not_free2 _ HP.out]
                    rfl
                  | false =>
                    have HP := Lib.hid hp
                    clear hp
                    go_wp2_with fail
                    refine (pre_any _ _ _).mono ?_
                    rintro e w' ⟨rfl, rfl⟩
                    rw [L_ext, L_dot, HP.out]
                    go_wp2_with fail
                    go_ret2
                    refine ⟨ret_out ?_, rfl⟩
                    rw [HF.out, free_of _ HW.out HP.out]
                    simp [outN]
                    try omega
      | false =>
        have HP := Lib.hid hp
        clear hp
        have HP' : Hid (¬ ((((L s).drop k).drop d).head? = some 46)) := Lib.hid (by rw [List.drop_drop, ← dot_head, HP.out]; simp)
        by_cases hd12 : 12 < d
        · have HF : Hid (figs ((L s).drop k) = (0, 0)) := by
            refine Lib.hid ?_
            unfold figs
            simp only [HDT.out, Bool.false_eq_true, if_false, ← HD.out]
            rw [if_neg HZ.out, if_neg HP'.out, if_pos hd12]
          have hb := hbb.resolve_right (by omega)
          clear hbb
          go_wp2_with fail
          refine (pre_any _ _ _).mono ?_
          rintro e w' ⟨rfl, rfl⟩
          rw [L_ext, L_dot, HP.out]
          go_wp2_with fail
          go_ret2
          refine ⟨ret_out ?_, rfl⟩
          rw [HF.out]
          rfl
        · have HF : Hid (figs ((L s).drop k) = if free ((L s).drop (k + d)) then (3, d) else (0, 0)) := by
            refine Lib.hid ?_
            unfold figs
            simp only [HDT.out, Bool.false_eq_true, if_false, ← HD.out]
            rw [if_neg HZ.out, if_neg HP'.out, if_neg hd12, List.drop_drop]
          rcases hbb with hb | ⟨hb, hd1⟩
          all_goals
            go_wp2_with fail
            refine (pre_any _ _ _).mono ?_
            rintro e w' ⟨rfl, rfl⟩
            rw [L_ext, L_dot, HP.out]
            clear HP
            go_wp2_with fail
            cases hw : isB 30 ((L s).drop (k + d)) with
            | true =>
              have HW := Lib.hid hw
              clear hw
              refine (is_any s _ 30 _ hT (by omega) rfl).mono ?_
              rintro e w' ⟨rfl, rfl⟩
              rw [show ((k : Int) + (d : Int)).toNat = k + d from by omega, HW.out]
              go_wp2_with fail
              go_ret2
              refine ⟨ret_out ?_, rfl⟩
              rw [HF.out, not_free1 _ HW.out]
              rfl
            | false =>
              have HW := Lib.hid hw
              clear hw
              refine (is_any s _ 30 _ hT (by omega) rfl).mono ?_
              rintro e w' ⟨rfl, rfl⟩
              rw [show ((k : Int) + (d : Int)).toNat = k + d from by omega, HW.out]
              cases hp : [46].isPrefixOf ((L s).drop (k + d)) with
              | true =>
                have HP := Lib.hid hp
                clear hp
                go_wp2_with fail
                refine (pre_any _ _ _).mono ?_
                rintro e w' ⟨rfl, rfl⟩
                rw [L_ext, L_dot, HP.out]
                go_wp2_with fail
                go_ret2
                refine ⟨ret_out ?_, rfl⟩
                rw [HF.out, not_free2 _ HP.out]
                rfl
              | false =>
                have HP := Lib.hid hp
                clear hp
                go_wp2_with fail
                refine (pre_any _ _ _).mono ?_
                rintro e w' ⟨rfl, rfl⟩
                rw [L_ext, L_dot, HP.out]
                go_wp2_with fail
                go_ret2
                refine ⟨ret_out ?_, rfl⟩
                rw [HF.out, free_of _ HW.out HP.out]
                simp [outN]
                try omega
end Go.Proofs.YtfgngakdhedcgaaDoor
