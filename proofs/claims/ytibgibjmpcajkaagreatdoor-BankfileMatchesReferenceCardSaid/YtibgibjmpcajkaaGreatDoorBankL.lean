/- The walks of the reader's small functions: require, number, day, kind, name. -/
import Derived.Test.YtibgibjmpcajkaaGreatDoorBankWa
namespace Go.Proofs.YtibgibjmpcajkaaGreatDoor
open Go.RowKit BankS

/-- what the reading of a damaged file fails with -/
def dam : Ending := .panicked [{ v := .iface 95 (.agg #[]), recovered := false }]
theorem require_yes (w : World) : Calls Tryz.prog 47 #[.bool true] w fun e w' => e = .returned (.tuple #[]) ∧ w = w' := by
  go_enter Tryz.func47, Tryz.ntmps47
  go_wp2_with fail
  go_end0
  exact ⟨rfl, rfl⟩
theorem require_no (w : World) : Calls Tryz.prog 47 #[.bool false] w fun e w' => e = dam ∧ w = w' := by
  go_enter Tryz.func47, Tryz.ntmps47
  go_wp2_with fail
  exact ⟨rfl, rfl, rfl⟩

theorem Tabs.syn_at {w : World} (h : Tabs w) : ∃ te pe, w.cell? ⟨4, 0, none⟩ = some (.iface te pe) := by
  obtain ⟨te, pe, t, fr, e⟩ := h.syn
  exact ⟨te, pe, by rw [cell_row e]; rfl⟩
theorem Tabs.ran_at {w : World} (h : Tabs w) : ∃ te pe, w.cell? ⟨5, 0, none⟩ = some (.iface te pe) := by
  obtain ⟨te, pe, t, fr, e⟩ := h.ran
  exact ⟨te, pe, by rw [cell_row e]; rfl⟩
/-- strconv.Atoi: the number and no error, or some number and an error -/
theorem atoi_yes (s : ByteArray) (n : Int) (w : World) (hs : s.size ≤ 4294967290) (h : numP (L s) = some n) :
    Calls Tryz.prog 79 #[.string s] w fun e w' => e = .returned (.tuple #[.int .i64 n, .nilIface]) ∧ Hid (Below w.heap.size w w') := by
  have h' : Lib.atoiAll s.data.toList = .ok n := by
    unfold numP at h
    cases ha : Lib.atoiAll (L s)
    case ok v => rw [ha] at h; injection h with h; subst h; rfl
    all_goals (rw [ha] at h; cases h)
  refine (Tryz.strconv_Atoi_ok s (by omega) n h' w).mono ?_
  rintro e w' ⟨rfl, rfl | ⟨t, rfl⟩⟩
  · exact ⟨rfl, Below.refl _ _⟩
  · exact ⟨rfl, Lib.bytesWorld_below _ _ _⟩
theorem atoi_no (s : ByteArray) (w : World) (hT : Tabs w) (hs : s.size ≤ 4294967290) (h : numP (L s) = none) :
    Calls Tryz.prog 79 #[.string s] w fun e w' => ∃ (m : Int) (t : TypeId) (v : Value), e = .returned (.tuple #[.int .i64 m, .iface t v]) ∧ Hid (Below w.heap.size w w') := by
  cases ha : Lib.atoiAll (L s)
  case ok v => unfold numP at h; rw [ha] at h; cases h
  case range =>
    obtain ⟨te, pe, hc⟩ := hT.ran_at
    refine (Tryz.strconv_Atoi_range s (by omega) ha _ w hc (Or.inr ⟨te, pe, rfl⟩)).mono ?_
    rintro e w' ⟨N, rfl, _, _, b⟩
    exact ⟨_, _, _, rfl, b⟩
  · obtain ⟨te, pe, hc⟩ := hT.syn_at
    refine (Tryz.strconv_Atoi_syntax s (by omega) (ha.trans rfl) _ w hc (Or.inr ⟨te, pe, rfl⟩)).mono ?_
    rintro e w' ⟨N, rfl, _, _, b⟩
    exact ⟨_, _, _, rfl, b⟩

set_option maxHeartbeats 1000000 in
theorem number_yes (s : ByteArray) (n : Int) (w : World) (hs : s.size ≤ 4294967290) (h : numP (L s) = some n) :
    Calls Tryz.prog 44 #[.string s] w fun e w' => e = .returned (.int .i64 n) ∧ Hid (Below w.heap.size w w') := by
  have H := Lib.hid h
  clear h
  go_enter Tryz.func44, Tryz.ntmps44
  go_wp2_with fail
  refine (atoi_yes s n _ hs H.out).mono ?_
  rintro e w1 ⟨rfl, B1⟩
  go_wp2_with fail
  refine (require_yes _).mono ?_
  rintro e w2 ⟨rfl, rfl⟩
  go_wp2_with fail
  go_ret
  exact ⟨rfl, B1⟩
set_option maxHeartbeats 1000000 in
theorem number_no (s : ByteArray) (w : World) (hT : Tabs w) (hs : s.size ≤ 4294967290) (h : numP (L s) = none) :
    Calls Tryz.prog 44 #[.string s] w fun e w' => e = dam ∧ Hid (Below w.heap.size w w') := by
  have H := Lib.hid h
  clear h
  go_enter Tryz.func44, Tryz.ntmps44
  go_wp2_with fail
  refine (atoi_no s _ hT hs H.out).mono ?_
  rintro e w1 ⟨m, t, v, rfl, B1⟩
  go_wp2_with fail
  refine (require_no _).mono ?_
  rintro e w2 ⟨rfl, rfl⟩
  exact ⟨rfl, rfl, B1⟩
set_option maxHeartbeats 1000000 in
theorem day_yes (s : ByteArray) (n : Int) (w : World) (hT : Tabs w) (h : dayP (L s) = some n) :
    Calls Tryz.prog 46 #[.string s] w fun e w' => e = .returned (.int .i64 n) ∧ Hid (Below w.heap.size w w') := by
  obtain ⟨h1, h2⟩ : (dayE (L s)).2 = 0 ∧ ((dayE (L s)).1 : Int) = n := by
    unfold dayP at h
    by_cases e : (dayE (L s)).2 = 0
    · rw [if_pos e] at h; injection h with h; exact ⟨e, h⟩
    · rw [if_neg e] at h; cases h
  have H2 := Lib.hid h2
  clear h h2
  go_enter Tryz.func46, Tryz.ntmps46
  go_wp2_with fail
  refine (Parse_any s _ hT).mono ?_
  rintro e w1 ⟨rfl, B1⟩
  rw [h1, H2.out]
  clear h1
  go_wp2_with fail
  refine (require_yes _).mono ?_
  rintro e w2 ⟨rfl, rfl⟩
  go_wp2_with fail
  go_ret
  exact ⟨rfl, B1⟩
set_option maxHeartbeats 1000000 in
theorem day_no_walk (s : ByteArray) (w : World) (hT : Tabs w) (h : dayP (L s) = none) :
    Calls Tryz.prog 46 #[.string s] w fun e w' => e = dam ∧ Hid (Below w.heap.size w w') := by
  have h1 : (dayE (L s)).2 ≠ 0 := by
    unfold dayP at h
    intro e
    rw [if_pos e] at h; cases h
  have H1 := Lib.hid h1
  clear h h1
  go_enter Tryz.func46, Tryz.ntmps46
  go_wp2_with fail
  refine (Parse_any s _ hT).mono ?_
  rintro e w1 ⟨rfl, B1⟩
  generalize hr : dayE (L s) = r at H1 ⊢
  have hb : ((r.2 : Int) == 0) = false := by rw [beq_eq_false_iff_ne]; have := H1.out; omega
  clear hr
  go_wp2_with fail
  refine (require_no _).mono ?_
  rintro e w2 ⟨rfl, rfl⟩
  exact ⟨rfl, rfl, B1⟩
set_option maxHeartbeats 1000000 in
theorem name_yes_walk (s : ByteArray) (t : Bs) (w : World) (hT : Tabs w) (hs : s.size ≤ 4294967200) (h : nameP (L s) = some t) :
    Calls Tryz.prog 45 #[.string s] w (RetStr t w) := by
  obtain ⟨h1, h2⟩ : accB (L s) = true ∧ befL 45 (L s) = t := by
    unfold nameP at h
    by_cases e : accB (L s) = true
    · rw [if_pos e] at h; injection h with h; exact ⟨e, h⟩
    · rw [if_neg e] at h; cases h
  have H1 := Lib.hid h1
  have H2 := Lib.hid h2
  clear h h1 h2
  go_enter Tryz.func45, Tryz.ntmps45
  go_wp2_with fail
  refine (Account_any s _ hT hs).mono ?_
  rintro e w1 ⟨rfl, B1⟩
  rw [H1.out]
  have hT1 := hT.below B1.out
  have hs1 := B1.out.size
  go_wp2_with fail
  refine (require_yes _).mono ?_
  rintro e w2 ⟨rfl, rfl⟩
  go_wp2_with fail
  refine (cut_any s _ hT1 (by omega)).mono ?_
  rintro e w3 ⟨a, b, c, rfl, HA, ha, b3⟩
  have B3 : Hid (Below w.heap.size w w3) := Lib.hid (B1.out.trans (b3.out.mono hs1))
  clear b3
  go_wp2_with fail
  go_ret
  exact RetStr.mk (HA.out.trans H2.out) B3.out
set_option maxHeartbeats 1000000 in
theorem name_no_walk (s : ByteArray) (w : World) (hT : Tabs w) (hs : s.size ≤ 4294967200) (h : nameP (L s) = none) :
    Calls Tryz.prog 45 #[.string s] w fun e w' => e = dam ∧ Hid (Below w.heap.size w w') := by
  have h1 : accB (L s) = false := by
    unfold nameP at h
    by_cases e : accB (L s) = true
    · rw [if_pos e] at h; cases h
    · simpa using e
  have H1 := Lib.hid h1
  clear h h1
  go_enter Tryz.func45, Tryz.ntmps45
  go_wp2_with fail
  refine (Account_any s _ hT hs).mono ?_
  rintro e w1 ⟨rfl, B1⟩
  rw [H1.out]
  go_wp2_with fail
  refine (require_no _).mono ?_
  rintro e w2 ⟨rfl, rfl⟩
  exact ⟨rfl, rfl, B1⟩
end Go.Proofs.YtibgibjmpcajkaaGreatDoor
