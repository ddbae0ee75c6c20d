/- The walks of the calendar. -/
import Derived.Test.YtibgibjmpcajkaaGreatDoorBankV2
import Derived.Deep.QuietTactic
import Derived.BigQuiet
import Derived.IntWalk
namespace Go.Proofs.YtibgibjmpcajkaaGreatDoor
open Go.RowKit BankS

theorem bef_all : (List.range 12).all (fun m => decide ((before (m + 1) : Int) - (before m : Int) = (if m = 1 then 28 else if m = 3 ∨ m = 5 ∨ m = 8 ∨ m = 10 then 30 else 31 : Int)) && decide (before m ≤ 365) && decide (before (m + 1) ≤ 365)) = true := by decide +kernel
theorem bef_len2 (m : Nat) (h : m < 12) : ((before (m + 1) : Int) - (before m : Int) = (if m = 1 then 28 else if m = 3 ∨ m = 5 ∨ m = 8 ∨ m = 10 then 30 else 31 : Int)) ∧ before m ≤ 365 ∧ before (m + 1) ≤ 365 := by
  have := List.all_eq_true.1 bef_all m (List.mem_range.2 h)
  simp only [Bool.and_eq_true, decide_eq_true_eq] at this
  exact ⟨this.1.1, this.1.2, this.2⟩
theorem lenM_at (q m : Nat) (h : m < 12) : lenM (q * 12 + m) = if m = 1 then (if q % 4 = 0 then 29 else 28) else if m = 3 ∨ m = 5 ∨ m = 8 ∨ m = 10 then 30 else 31 := by
  unfold lenM
  rw [show (q * 12 + m) % 12 = m from by omega, show (q * 12 + m) / 12 = q from by omega]
theorem below_drewN (w : World) (n : Nat) : Below w.heap.size w (w.drewN n) := ⟨rfl, rfl, rfl, Nat.le_refl _, fun _ _ => rfl⟩
/-- a number is handed back; only new memory is written -/
def RetI (n : Int) (w : World) (e : Ending) (w' : World) : Prop := e = .returned (.int .i64 n) ∧ Hid (Below w.heap.size w w')
theorem RetI.mk {b c : Int} {w w' : World} (h : b = c) (hb : Below w.heap.size w w') : RetI c w (.returned (.int .i64 b)) w' := ⟨by rw [h], hb⟩

set_option maxHeartbeats 1000000 in
theorem lengthOf_any (y m : Int) (w : World) (hT : Tabs w) (h0 : 2000 ≤ y) (h1 : y ≤ 2100) (h2 : 0 ≤ m) (h3 : m < 12) :
    Calls Tryz.prog 86 #[.int .i64 y, .int .i64 m] w fun e w' => e = .returned (.int .i64 (lenM ((y.toNat - 2000) * 12 + m.toNat))) ∧ ∃ n, w' = w.drewN n := by
  obtain ⟨k, rfl⟩ := Int.eq_ofNat_of_zero_le h2
  obtain ⟨q, hq⟩ : ∃ q : Nat, y = 2000 + (q : Int) := ⟨(y - 2000).toNat, by omega⟩
  subst hq
  rw [Int.toNat_natCast, show (2000 + (q : Int)).toNat - 2000 = q from by omega]
  obtain ⟨b0, b1, b2⟩ := bef_len2 k (by omega)
  have HL := Lib.hid (lenM_at q k (by omega))
  have c1 := hT.bef_at k (by omega)
  have c2 := hT.bef_at (k + 1) (by omega)
  have HB := Lib.hid b0
  clear b0
  by_cases hk1 : k = 1
  · subst hk1
    have e1 : before 1 = 31 := rfl
    have e2 : before 2 = 59 := rfl
    simp only [e1, e2] at c1 c2
    clear b1 b2 e1 e2
    by_cases hq4 : q % 4 = 0
    · have HF : Hid (lenM (q * 12 + 1) = 29) := Lib.hid (by rw [HL.out, if_pos rfl, if_pos hq4])
      have hb : ((2000 + (q : Int)) % 4 == 0) = true := by rw [beq_iff_eq]; omega
      clear hq4
      go_enter Tryz.func86, Tryz.ntmps86
      go_wp2_with fail
      go_quiet (fail)
      go_wp2_with fail
      go_ret
      refine ⟨ret_int ?_, _, rfl⟩
      rw [HF.out]; rfl
    · have HF : Hid (lenM (q * 12 + 1) = 28) := Lib.hid (by rw [HL.out, if_pos rfl, if_neg hq4])
      have hb : ((2000 + (q : Int)) % 4 == 0) = false := by rw [beq_eq_false_iff_ne]; omega
      clear hq4
      go_enter Tryz.func86, Tryz.ntmps86
      go_wp2_with fail
      go_quiet (fail)
      go_wp2_with fail
      go_ret
      refine ⟨ret_int ?_, _, rfl⟩
      rw [HF.out]; rfl
  · have HF : Hid ((lenM (q * 12 + k) : Int) = (before (k + 1) : Int) - (before k : Int)) := Lib.hid (by
      rw [HB.out, HL.out, if_neg hk1, if_neg hk1]; split <;> rfl)
    have hb : ((k : Int) == 1) = false := by rw [beq_eq_false_iff_ne]; omega
    generalize before k = x at *
    generalize before (k + 1) = z at *
    have w1 : IntKind.i64.wrap ((k : Int) + 1) = (k : Int) + 1 := IntWalk.i64_in _ (by omega)
    have w2 : IntKind.i64.wrap ((z : Int) - (x : Int)) = (z : Int) - (x : Int) := IntWalk.i64_in _ (by omega)
    go_enter Tryz.func86, Tryz.ntmps86
    go_wp2_with fail
    go_quiet (fail)
    go_wp2_with fail
    go_ret
    refine ⟨ret_int ?_, _, rfl⟩
    rw [HF.out]
end Go.Proofs.YtibgibjmpcajkaaGreatDoor
