/- The walks of SamePayments and SameAnswers. -/
import Derived.Test.YtibgibjmpcajkaaGreatDoorBankAn
namespace Go.Proofs.YtibgibjmpcajkaaGreatDoor
open Go.RowKit BankS

theorem pay_u : Tryz.prog.underlying 27 = some (.struct (Tryz.prog.fieldsOf 27)) := by kernel_rfl
theorem pay_s : Tryz.prog.stoodInHeld 27 = false := by kernel_rfl
theorem pay_f : (Tryz.prog.fieldsOf 27).toList = [⟨ "ID", 3, 0, false, "", "", 0⟩, ⟨ "Account", 9, 1, false, "", "", 8⟩, ⟨ "Cents", 3, 2, false, "", "", 24⟩, ⟨ "Day", 3, 3, false, "", "", 32⟩] := by kernel_rfl
theorem pay_neq (x y : Pay) (W : World) : (binOp .neq 27 (.agg #[.int .i64 x.1, .string ⟨x.2.1.toArray⟩, .int .i64 x.2.2.1, .int .i64 x.2.2.2]) (.agg #[.int .i64 y.1, .string ⟨y.2.1.toArray⟩, .int .i64 y.2.2.1, .int .i64 y.2.2.2])).run Tryz.prog W = .ok (.bool (!(decide (x = y)))) W := by
  rw [run_neq_struct, run_equalIn_struct W 9999 27 _ _ pay_u pay_s, pay_f]
  have h3 := Tryz.underlying3
  have h9 := Tryz.underlying9
  obtain ⟨a, b, c, d⟩ := x
  obtain ⟨a', b', c', d'⟩ := y
  by_cases k0 : a = a' <;> by_cases k1 : b = b' <;> by_cases k2 : c = c' <;> by_cases k3 : d = d' <;> simp [go_sem, h3, h9, k0, k1, k2, k3]
  all_goals (intros; omega)
set_option maxHeartbeats 2000000 in
theorem same_pay (v1 v2 : Value) (a b : List Pay) (w : World) (h1 : Rd payC 4 w v1 a) (h2 : Rd payC 4 w v2 b) (hla : a.length ≤ 1000000) (hlb : b.length ≤ 1000000) :
    Calls Tryz.prog 14 #[v1, v2] w fun e w' => e = .returned (.bool (decide (a = b))) ∧ ∃ n, w' = w.drewN n := by
  have HA' := Lib.hid h1
  have HB' := Lib.hid h2
  obtain ⟨A, ca, rfl, hca, _, _⟩ := h1
  obtain ⟨B, cb, rfl, hcb, _, _⟩ := h2
  by_cases hl : a.length = b.length
  · have hb1 : ((a.length : Int) != (b.length : Int)) = false := by simp; omega
    have HL := Lib.hid hl
    clear hl
    go_enter Tryz.func14, Tryz.ntmps14
    go_wp2_with fail
    go_loopg [5] a.length (fun g x wx => ∃ i n : Nat, w.drewN n = wx ∧ i ≤ a.length ∧ g = a.length - i ∧ Hid (a.take i = b.take i) ∧ x = .int .i64 i)
    case atStart => exact ⟨0, 0, rfl, by omega, rfl, Lib.hid rfl, rfl⟩
    case round =>
      obtain ⟨i, n, rfl, hi, rfl, HI, rfl⟩ := hrel
      by_cases hlt : i < a.length
      · have hlt' : i < b.length := by have := HL.out; omega
        obtain ⟨x, hx⟩ : ∃ x, a[i]? = some x := ⟨_, List.getElem?_eq_getElem hlt⟩
        obtain ⟨y, hy⟩ : ∃ y, b[i]? = some y := ⟨_, List.getElem?_eq_getElem hlt'⟩
        obtain ⟨ga, oa, rfl, _, a0, a1, a2, a3⟩ := rd_pay HA'.out i x hx
        obtain ⟨gb, ob, rfl, _, b0, b1, b2, b3⟩ := rd_pay HB'.out i y hy
        have HX := Lib.hid hx
        have HY := Lib.hid hy
        clear hx hy
        have hne := pay_neq x y
        by_cases hxy : x = y
        · have hd : decide (x = y) = true := by simp [hxy]
          have HXY := Lib.hid hxy
          clear hxy
          rw [hd] at hne
          clear hd
          go_wp2_with fail
          go_quiet (fail)
          clear hne
          go_wp2_with fail
          go_roundg (a.length - (i + 1))
          case measure => omega
          case rel =>
            refine ⟨i + 1, _, (by first | rfl | exact (World.drewN_drewN ..)), by omega, rfl, Lib.hid ?_, by go_num⟩
            have e1 := HX.out
            have e2 := HY.out
            rw [HXY.out] at e1
            rw [List.take_add_one, List.take_add_one, HI.out, e1, e2]
        · have hd : decide (x = y) = false := by simp [hxy]
          have HXY := Lib.hid hxy
          clear hxy
          rw [hd] at hne
          clear hd
          go_wp2_with fail
          go_quiet (fail)
          clear hne
          go_wp2_with fail
          go_ret
          refine ⟨ret_bool (a := false) ?_, _, (by first | rfl | exact (World.drewN_drewN ..))⟩
          symm
          rw [decide_eq_false_iff_not]
          rintro rfl
          have e1 := HX.out
          have e2 := HY.out
          rw [e1] at e2
          exact HXY.out (Option.some.inj e2)
      · have hge : a.length ≤ i := by omega
        go_wp2_with fail
        go_ret
        refine ⟨ret_bool (a := true) ?_, n, rfl⟩
        symm
        rw [decide_eq_true_eq]
        have e := HI.out
        rw [List.take_of_length_le hge, List.take_of_length_le (by have := HL.out; omega)] at e
        exact e
  · have hb1 : ((a.length : Int) != (b.length : Int)) = true := by simp; omega
    have HL := Lib.hid hl
    clear hl
    go_enter Tryz.func14, Tryz.ntmps14
    go_wp2_with fail
    go_ret
    refine ⟨ret_bool (a := false) ?_, 0, rfl⟩
    symm
    rw [decide_eq_false_iff_not]
    rintro rfl
    exact HL.out rfl
theorem ans_u : Tryz.prog.underlying 54 = some (.struct (Tryz.prog.fieldsOf 54)) := by kernel_rfl
theorem ans_s : Tryz.prog.stoodInHeld 54 = false := by kernel_rfl
theorem ans_f : (Tryz.prog.fieldsOf 54).toList = [⟨ "Seq", 3, 0, false, "", "", 0⟩, ⟨ "ID", 3, 1, false, "", "", 8⟩, ⟨ "Kind", 3, 2, false, "", "", 16⟩, ⟨ "Cents", 3, 3, false, "", "", 24⟩, ⟨ "Day", 3, 4, false, "", "", 32⟩] := by kernel_rfl
theorem ans_neq (x y : Ans) (W : World) : (binOp .neq 54 (.agg #[.int .i64 x.1, .int .i64 x.2.1, .int .i64 x.2.2.1, .int .i64 x.2.2.2.1, .int .i64 x.2.2.2.2]) (.agg #[.int .i64 y.1, .int .i64 y.2.1, .int .i64 y.2.2.1, .int .i64 y.2.2.2.1, .int .i64 y.2.2.2.2])).run Tryz.prog W = .ok (.bool (!(decide (x = y)))) W := by
  rw [run_neq_struct, run_equalIn_struct W 9999 54 _ _ ans_u ans_s, ans_f]
  have h3 := Tryz.underlying3
  obtain ⟨a, b, c, d, f⟩ := x
  obtain ⟨a', b', c', d', f'⟩ := y
  by_cases k0 : a = a' <;> by_cases k1 : b = b' <;> by_cases k2 : c = c' <;> by_cases k3 : d = d' <;> by_cases k4 : f = f' <;> simp [go_sem, h3, k0, k1, k2, k3, k4]
  all_goals (intros; omega)
set_option maxHeartbeats 2000000 in
theorem same_ans (v1 v2 : Value) (a b : List Ans) (w : World) (h1 : Rd ansC 5 w v1 a) (h2 : Rd ansC 5 w v2 b) (hla : a.length ≤ 1000000) (hlb : b.length ≤ 1000000) :
    Calls Tryz.prog 19 #[v1, v2] w fun e w' => e = .returned (.bool (decide (a = b))) ∧ ∃ n, w' = w.drewN n := by
  have HA' := Lib.hid h1
  have HB' := Lib.hid h2
  obtain ⟨A, ca, rfl, hca, _, _⟩ := h1
  obtain ⟨B, cb, rfl, hcb, _, _⟩ := h2
  by_cases hl : a.length = b.length
  · have hb1 : ((a.length : Int) != (b.length : Int)) = false := by simp; omega
    have HL := Lib.hid hl
    clear hl
    go_enter Tryz.func19, Tryz.ntmps19
    go_wp2_with fail
    go_loopg [5] a.length (fun g x wx => ∃ i n : Nat, w.drewN n = wx ∧ i ≤ a.length ∧ g = a.length - i ∧ Hid (a.take i = b.take i) ∧ x = .int .i64 i)
    case atStart => exact ⟨0, 0, rfl, by omega, rfl, Lib.hid rfl, rfl⟩
    case round =>
      obtain ⟨i, n, rfl, hi, rfl, HI, rfl⟩ := hrel
      by_cases hlt : i < a.length
      · have hlt' : i < b.length := by have := HL.out; omega
        obtain ⟨x, hx⟩ : ∃ x, a[i]? = some x := ⟨_, List.getElem?_eq_getElem hlt⟩
        obtain ⟨y, hy⟩ : ∃ y, b[i]? = some y := ⟨_, List.getElem?_eq_getElem hlt'⟩
        obtain ⟨ga, oa, rfl, _, a0, a1, a2, a3, a4⟩ := rd_ans HA'.out i x hx
        obtain ⟨gb, ob, rfl, _, b0, b1, b2, b3, b4⟩ := rd_ans HB'.out i y hy
        have HX := Lib.hid hx
        have HY := Lib.hid hy
        clear hx hy
        have hne := ans_neq x y
        by_cases hxy : x = y
        · have hd : decide (x = y) = true := by simp [hxy]
          have HXY := Lib.hid hxy
          clear hxy
          rw [hd] at hne
          clear hd
          go_wp2_with fail
          go_quiet (fail)
          clear hne
          go_wp2_with fail
          go_roundg (a.length - (i + 1))
          case measure => omega
          case rel =>
            refine ⟨i + 1, _, (by first | rfl | exact (World.drewN_drewN ..)), by omega, rfl, Lib.hid ?_, by go_num⟩
            have e1 := HX.out
            have e2 := HY.out
            rw [HXY.out] at e1
            rw [List.take_add_one, List.take_add_one, HI.out, e1, e2]
        · have hd : decide (x = y) = false := by simp [hxy]
          have HXY := Lib.hid hxy
          clear hxy
          rw [hd] at hne
          clear hd
          go_wp2_with fail
          go_quiet (fail)
          clear hne
          go_wp2_with fail
          go_ret
          refine ⟨ret_bool (a := false) ?_, _, (by first | rfl | exact (World.drewN_drewN ..))⟩
          symm
          rw [decide_eq_false_iff_not]
          rintro rfl
          have e1 := HX.out
          have e2 := HY.out
          rw [e1] at e2
          exact HXY.out (Option.some.inj e2)
      · have hge : a.length ≤ i := by omega
        go_wp2_with fail
        go_ret
        refine ⟨ret_bool (a := true) ?_, n, rfl⟩
        symm
        rw [decide_eq_true_eq]
        have e := HI.out
        rw [List.take_of_length_le hge, List.take_of_length_le (by have := HL.out; omega)] at e
        exact e
  · have hb1 : ((a.length : Int) != (b.length : Int)) = true := by simp; omega
    have HL := Lib.hid hl
    clear hl
    go_enter Tryz.func19, Tryz.ntmps19
    go_wp2_with fail
    go_ret
    refine ⟨ret_bool (a := false) ?_, 0, rfl⟩
    symm
    rw [decide_eq_false_iff_not]
    rintro rfl
    exact HL.out rfl
end Go.Proofs.YtibgibjmpcajkaaGreatDoor
