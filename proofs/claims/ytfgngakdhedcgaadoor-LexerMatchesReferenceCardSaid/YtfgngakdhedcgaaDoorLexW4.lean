/- The walk of read: the token at an offset. -/
import Derived.Test.YtfgngakdhedcgaaDoorLexW3
namespace Go.Proofs.YtfgngakdhedcgaaDoor
open Go.RowKit LexS

theorem sym_ix0 (w : World) : (Instr.index 57 (.agg symArr) (.int .i64 ((0 : Nat) : Int))).run Tryd.prog w = .ok (.string ⟨(syms.getD 0 []).toArray⟩) w := by kernel_rfl
theorem sym_ix1 (w : World) : (Instr.index 57 (.agg symArr) (.int .i64 ((1 : Nat) : Int))).run Tryd.prog w = .ok (.string ⟨(syms.getD 1 []).toArray⟩) w := by kernel_rfl
theorem sym_ix2 (w : World) : (Instr.index 57 (.agg symArr) (.int .i64 ((2 : Nat) : Int))).run Tryd.prog w = .ok (.string ⟨(syms.getD 2 []).toArray⟩) w := by kernel_rfl
theorem sym_ix3 (w : World) : (Instr.index 57 (.agg symArr) (.int .i64 ((3 : Nat) : Int))).run Tryd.prog w = .ok (.string ⟨(syms.getD 3 []).toArray⟩) w := by kernel_rfl
theorem sym_ix4 (w : World) : (Instr.index 57 (.agg symArr) (.int .i64 ((4 : Nat) : Int))).run Tryd.prog w = .ok (.string ⟨(syms.getD 4 []).toArray⟩) w := by kernel_rfl
theorem sym_ix5 (w : World) : (Instr.index 57 (.agg symArr) (.int .i64 ((5 : Nat) : Int))).run Tryd.prog w = .ok (.string ⟨(syms.getD 5 []).toArray⟩) w := by kernel_rfl
theorem sym_ix6 (w : World) : (Instr.index 57 (.agg symArr) (.int .i64 ((6 : Nat) : Int))).run Tryd.prog w = .ok (.string ⟨(syms.getD 6 []).toArray⟩) w := by kernel_rfl
theorem sym_ix7 (w : World) : (Instr.index 57 (.agg symArr) (.int .i64 ((7 : Nat) : Int))).run Tryd.prog w = .ok (.string ⟨(syms.getD 7 []).toArray⟩) w := by kernel_rfl
theorem sym_ix8 (w : World) : (Instr.index 57 (.agg symArr) (.int .i64 ((8 : Nat) : Int))).run Tryd.prog w = .ok (.string ⟨(syms.getD 8 []).toArray⟩) w := by kernel_rfl
theorem sym_ix9 (w : World) : (Instr.index 57 (.agg symArr) (.int .i64 ((9 : Nat) : Int))).run Tryd.prog w = .ok (.string ⟨(syms.getD 9 []).toArray⟩) w := by kernel_rfl
theorem sym_ix10 (w : World) : (Instr.index 57 (.agg symArr) (.int .i64 ((10 : Nat) : Int))).run Tryd.prog w = .ok (.string ⟨(syms.getD 10 []).toArray⟩) w := by kernel_rfl
theorem sym_ix11 (w : World) : (Instr.index 57 (.agg symArr) (.int .i64 ((11 : Nat) : Int))).run Tryd.prog w = .ok (.string ⟨(syms.getD 11 []).toArray⟩) w := by kernel_rfl
theorem sym_ix12 (w : World) : (Instr.index 57 (.agg symArr) (.int .i64 ((12 : Nat) : Int))).run Tryd.prog w = .ok (.string ⟨(syms.getD 12 []).toArray⟩) w := by kernel_rfl
theorem sym_ix13 (w : World) : (Instr.index 57 (.agg symArr) (.int .i64 ((13 : Nat) : Int))).run Tryd.prog w = .ok (.string ⟨(syms.getD 13 []).toArray⟩) w := by kernel_rfl
theorem sym_ix14 (w : World) : (Instr.index 57 (.agg symArr) (.int .i64 ((14 : Nat) : Int))).run Tryd.prog w = .ok (.string ⟨(syms.getD 14 []).toArray⟩) w := by kernel_rfl
theorem sym_ix15 (w : World) : (Instr.index 57 (.agg symArr) (.int .i64 ((15 : Nat) : Int))).run Tryd.prog w = .ok (.string ⟨(syms.getD 15 []).toArray⟩) w := by kernel_rfl
theorem sym_ix16 (w : World) : (Instr.index 57 (.agg symArr) (.int .i64 ((16 : Nat) : Int))).run Tryd.prog w = .ok (.string ⟨(syms.getD 16 []).toArray⟩) w := by kernel_rfl
theorem sym_index (i : Nat) (hi : i < 17) (w : World) : (Instr.index 57 (.agg symArr) (.int .i64 (i : Int))).run Tryd.prog w = .ok (.string ⟨(syms.getD i []).toArray⟩) w := by
  match i, hi with
  | 0, _ => exact sym_ix0 w
  | 1, _ => exact sym_ix1 w
  | 2, _ => exact sym_ix2 w
  | 3, _ => exact sym_ix3 w
  | 4, _ => exact sym_ix4 w
  | 5, _ => exact sym_ix5 w
  | 6, _ => exact sym_ix6 w
  | 7, _ => exact sym_ix7 w
  | 8, _ => exact sym_ix8 w
  | 9, _ => exact sym_ix9 w
  | 10, _ => exact sym_ix10 w
  | 11, _ => exact sym_ix11 w
  | 12, _ => exact sym_ix12 w
  | 13, _ => exact sym_ix13 w
  | 14, _ => exact sym_ix14 w
  | 15, _ => exact sym_ix15 w
  | 16, _ => exact sym_ix16 w
  | n + 17, h => omega
theorem symN_drop (t : List UInt8) (i : Nat) (hi : i < 17) : symN t (syms.drop i) = if (syms.getD i []).isPrefixOf t then (6, (syms.getD i []).length) else symN t (syms.drop (i + 1)) := by
  have : syms.drop i = syms.getD i [] :: syms.drop (i + 1) := by
    rw [List.drop_eq_getElem_cons (by simpa [syms] using hi)]
    simp [List.getD, show i < syms.length from by simpa [syms] using hi]
  rw [this, symN]
theorem sym_len (i : Nat) : (syms.getD i []).length ≤ 2 := by
  by_cases h : i < 17
  · have : ∀ j : Fin 17, (syms.getD j.val []).length ≤ 2 := by decide
    exact this ⟨i, h⟩
  · have : syms.length ≤ i := by simp [syms]; omega
    simp [List.getD, this]

set_option maxHeartbeats 2000000 in
theorem read_any (s : ByteArray) (a : Int) (w : World) (hs : s.size ≤ 6000) (hT : Tabs w) (h0 : 0 ≤ a) (ha : a < s.size) :
    Calls Tryd.prog 24 #[.string s, .int .i64 a] w fun e w' => e = .returned (outN a.toNat (readN ((L s).drop a.toNat))) ∧ w = w' := by
  obtain ⟨k, rfl⟩ := Int.eq_ofNat_of_zero_le h0
  rw [Int.toNat_natCast]
  have hk : k < s.size := by omega
  clear ha
  obtain ⟨d, hd⟩ : ∃ d, d = spanN 30 ((L s).drop k) := ⟨_, rfl⟩
  have hdl : k + d ≤ s.size := by rw [hd]; have := span_le 30 ((L s).drop k); rw [len_drop] at this; omega
  have HD := Lib.hid hd
  clear hd
  go_enter Tryd.func24, Tryd.ntmps24
  go_wp2_with fail
  refine (run_any s _ 30 _ (by omega) hT (by omega) rfl).mono ?_
  rintro e w' ⟨rfl, rfl⟩
  rw [Int.toNat_natCast, ← HD.out]
  go_wp2_with fail
  refine (is_any s _ 2 _ hT (by omega) rfl).mono ?_
  rintro e w' ⟨rfl, rfl⟩
  rw [Int.toNat_natCast]
  cases h2 : isB 2 ((L s).drop k) with
  | true =>
    have H2 := Lib.hid h2
    clear h2
    by_cases hd16 : d ≤ 16
    · obtain ⟨d2, hd2⟩ : ∃ d2, d2 = spanN 26 ((L s).drop k) := ⟨_, rfl⟩
      have HD2 := Lib.hid hd2
      clear hd2
      by_cases he : d2 = d
      · have HF : Hid (readN ((L s).drop k) = (1, d)) := by
          refine Lib.hid ?_
          unfold readN
          rw [H2.out, if_pos rfl, if_pos ⟨by rw [← HD.out]; exact hd16, by rw [← HD.out, ← HD2.out]; exact he⟩, ← HD.out]
        have hb : (((k : Int) + (d2 : Int)) == ((k : Int) + (d : Int))) = true := by rw [beq_iff_eq]; omega
        clear he
        go_wp2_with fail
        refine (run_any s _ 26 _ (by omega) hT (by omega) rfl).mono ?_
        rintro e w' ⟨rfl, rfl⟩
        rw [Int.toNat_natCast, ← HD2.out]
        go_wp2_with fail
        go_ret2
        refine ⟨ret_out ?_, rfl⟩
        rw [HF.out]
        rfl
      · have HF : Hid (readN ((L s).drop k) = (0, 0)) := by
          refine Lib.hid ?_
          unfold readN
          rw [H2.out, if_pos rfl, if_neg (by rw [← HD.out, ← HD2.out]; exact fun h => he h.2)]
        have hb : (((k : Int) + (d2 : Int)) == ((k : Int) + (d : Int))) = false := by rw [beq_eq_false_iff_ne]; omega
        clear he
        go_wp2_with fail
        refine (run_any s _ 26 _ (by omega) hT (by omega) rfl).mono ?_
        rintro e w' ⟨rfl, rfl⟩
        rw [Int.toNat_natCast, ← HD2.out]
        go_wp2_with fail
        go_ret2
        refine ⟨ret_out ?_, rfl⟩
        rw [HF.out]
        rfl
    · have HF : Hid (readN ((L s).drop k) = (0, 0)) := by
        refine Lib.hid ?_
        unfold readN
        rw [H2.out, if_pos rfl, if_neg (by rw [← HD.out]; exact fun h => hd16 h.1)]
      go_wp2_with fail
      go_ret2
      refine ⟨ret_out ?_, rfl⟩
      rw [HF.out]
      rfl
  | false =>
    have H2 := Lib.hid h2
    clear h2
    go_wp2_with fail
    refine (is_any s _ 4 _ hT (by omega) rfl).mono ?_
    rintro e w' ⟨rfl, rfl⟩
    rw [Int.toNat_natCast]
    cases h4 : isB 4 ((L s).drop k) with
    | true =>
      have H4 := Lib.hid h4
      clear h4
      by_cases hd3 : d = 3
      · have hb3 : (((k : Int) + (d : Int) - (k : Int)) == 3) = true := by rw [beq_iff_eq]; omega
        obtain ⟨d2, hd2⟩ : ∃ d2, d2 = spanN 4 ((L s).drop k) := ⟨_, rfl⟩
        have HD2 := Lib.hid hd2
        clear hd2
        have HD3 := Lib.hid hd3
        by_cases he : d2 = d
        · have HF : Hid (readN ((L s).drop k) = (2, d)) := by
            refine Lib.hid ?_
            unfold readN
            rw [H2.out, H4.out, if_neg (by simp), if_pos rfl, if_pos ⟨by rw [← HD.out]; exact hd3, by rw [← HD.out, ← HD2.out]; exact he⟩, ← HD.out]
          have hb : (((k : Int) + (d2 : Int)) == ((k : Int) + (d : Int))) = true := by rw [beq_iff_eq]; omega
          clear he hd3
          go_wp2_with fail
          refine (run_any s _ 4 _ (by omega) hT (by omega) rfl).mono ?_
          rintro e w' ⟨rfl, rfl⟩
          rw [Int.toNat_natCast, ← HD2.out]
          go_wp2_with fail
          go_ret2
          refine ⟨ret_out ?_, rfl⟩
          rw [HF.out]
          rfl
        · have HF : Hid (readN ((L s).drop k) = (0, 0)) := by
            refine Lib.hid ?_
            unfold readN
            rw [H2.out, H4.out, if_neg (by simp), if_pos rfl, if_neg (by rw [← HD.out, ← HD2.out]; exact fun h => he h.2)]
          have hb : (((k : Int) + (d2 : Int)) == ((k : Int) + (d : Int))) = false := by rw [beq_eq_false_iff_ne]; omega
          clear he hd3
          go_wp2_with fail
          refine (run_any s _ 4 _ (by omega) hT (by omega) rfl).mono ?_
          rintro e w' ⟨rfl, rfl⟩
          rw [Int.toNat_natCast, ← HD2.out]
          go_wp2_with fail
          go_ret2
          refine ⟨ret_out ?_, rfl⟩
          rw [HF.out]
          rfl
      · have HF : Hid (readN ((L s).drop k) = (0, 0)) := by
          refine Lib.hid ?_
          unfold readN
          rw [H2.out, H4.out, if_neg (by simp), if_pos rfl, if_neg (by rw [← HD.out]; exact fun h => hd3 h.1)]
        have hb3 : (((k : Int) + (d : Int) - (k : Int)) == 3) = false := by rw [beq_eq_false_iff_ne]; omega
        clear hd3
        go_wp2_with fail
        go_ret2
        refine ⟨ret_out ?_, rfl⟩
        rw [HF.out]
        rfl
    | false =>
      have H4 := Lib.hid h4
      clear h4
      go_wp2_with fail
      refine (is_any s _ 8 _ hT (by omega) rfl).mono ?_
      rintro e w' ⟨rfl, rfl⟩
      rw [Int.toNat_natCast]
      cases h8 : isB 8 ((L s).drop k) with
      | true =>
        have HF : Hid (readN ((L s).drop k) = figs ((L s).drop k)) := by
          refine Lib.hid ?_
          unfold readN
          rw [H2.out, H4.out, h8, if_neg (by simp), if_neg (by simp), if_pos rfl]
        clear h8
        go_wp2_with fail
        refine (figures_any s _ _ hs hT (by omega) (by omega)).mono ?_
        rintro e w' ⟨rfl, rfl⟩
        rw [Int.toNat_natCast]
        by_cases hz : (figs ((L s).drop k)).1 = 0
        · have HO : Hid (outN k (figs ((L s).drop k)) = .tuple #[.int .i64 0, .int .i64 0]) := Lib.hid (by unfold outN; rw [if_pos hz])
          clear hz
          rw [HO.out]
          go_wp2_with fail
          go_ret2
          exact ⟨by rw [HF.out, HO.out]; rfl, rfl⟩
        · obtain ⟨q, n, HO⟩ : ∃ q n : Int, Hid (outN k (figs ((L s).drop k)) = .tuple #[.int .i64 q, .int .i64 n]) := ⟨_, _, Lib.hid (by unfold outN; rw [if_neg hz])⟩
          clear hz
          rw [HO.out]
          go_wp2_with fail
          go_ret2
          exact ⟨by rw [HF.out, HO.out]; rfl, rfl⟩
      | false =>
        have HF : Hid (readN ((L s).drop k) = symN ((L s).drop k) (syms.drop 0)) := by
          refine Lib.hid ?_
          unfold readN
          rw [H2.out, H4.out, h8, if_neg (by simp), if_neg (by simp), if_neg (by simp), List.drop_zero]
        clear h8
        obtain ⟨tt, fr, hg1⟩ := hT.2
        have HG := Lib.hid hg1
        clear hg1
        go_wp2_with (refine wpList_load_row rfl 57 _ rfl 0 rfl tt _ fr _ HG.out Tryd.underlying57 rfl (by kernel_rfl) ?_)
        go_loopg [8, 54] 17 (fun g _ x wx => ∃ i : Nat, w = wx ∧ i ≤ 17 ∧ g = 17 - i ∧ Hid (readN ((L s).drop k) = symN ((L s).drop k) (syms.drop i)) ∧ x = .int .i64 i)
        case atStart => exact ⟨0, rfl, by omega, rfl, HF, rfl⟩
        case round =>
          obtain ⟨i, rfl, hi, rfl, HI, rfl⟩ := hrel
          by_cases hi17 : i < 17
          · have hix := sym_index i hi17
            have HS := Lib.hid (symN_drop ((L s).drop k) i hi17)
            have hsl := sym_len i
            cases hp : (syms.getD i []).isPrefixOf ((L s).drop k) with
            | true =>
              have hlen : k + (syms.getD i []).length ≤ s.size := by
                have := (List.isPrefixOf_iff_prefix.1 hp).length_le
                rw [len_drop] at this; omega
              have HP := Lib.hid hp
              clear hp
              generalize hy : syms.getD i [] = y at *
              clear hy
              go_wp2_with fail
              refine (pre_any _ _ _).mono ?_
              rintro e w' ⟨rfl, rfl⟩
              rw [L_ext]
              rw [show L (⟨y.toArray⟩ : ByteArray) = y from by simp, HP.out]
              clear hix
              go_wp2_with fail
              go_ret2
              refine ⟨ret_out ?_, rfl⟩
              rw [HI.out, HS.out, HP.out]
              simp [outN]
            | false =>
              have HP := Lib.hid hp
              clear hp
              generalize hy : syms.getD i [] = y at *
              clear hy
              go_wp2_with fail
              refine (pre_any _ _ _).mono ?_
              rintro e w' ⟨rfl, rfl⟩
              rw [L_ext]
              rw [show L (⟨y.toArray⟩ : ByteArray) = y from by simp, HP.out]
              clear hix
              go_wp2_with fail
              go_roundg (17 - (i + 1))
              case measure => omega
              case rel =>
                refine ⟨i + 1, rfl, by omega, rfl, Lib.hid ?_, by go_num⟩
                rw [HI.out, HS.out, HP.out]
                rfl
          · have hge : 17 ≤ i := by omega
            go_wp2_with fail
            go_ret2
            refine ⟨ret_out ?_, rfl⟩
            rw [HI.out, List.drop_eq_nil_of_le (show syms.length ≤ i from hge)]
            rfl
end Go.Proofs.YtfgngakdhedcgaaDoor
