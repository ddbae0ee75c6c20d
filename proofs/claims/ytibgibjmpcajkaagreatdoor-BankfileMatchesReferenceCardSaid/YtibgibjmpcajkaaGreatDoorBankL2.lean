/- The walk of kind. -/
import Derived.Test.YtibgibjmpcajkaaGreatDoorBankL
namespace Go.Proofs.YtibgibjmpcajkaaGreatDoor
open Go.RowKit BankS

def kTo (t : Bs) : Nat → Nat
  | 0 => 0
  | k + 1 => if 0 < k ∧ kindT (k : Int) = t then k else kTo t k
theorem kTo_eq (t : Bs) : kindP t = if kTo t 5 = 0 then none else some (kTo t 5 : Int) := by
  unfold kindP
  simp only [kTo]
  have n12 : kindT 1 ≠ kindT 2 := by decide
  have n13 : kindT 1 ≠ kindT 3 := by decide
  have n14 : kindT 1 ≠ kindT 4 := by decide
  have n23 : kindT 2 ≠ kindT 3 := by decide
  have n24 : kindT 2 ≠ kindT 4 := by decide
  have n34 : kindT 3 ≠ kindT 4 := by decide
  by_cases h1 : t = kindT 1
  · subst h1; simp [Ne.symm n12, Ne.symm n13, Ne.symm n14]
  · by_cases h2 : t = kindT 2
    · subst h2; simp [Ne.symm n12, Ne.symm n23, Ne.symm n24]
    · by_cases h3 : t = kindT 3
      · subst h3; simp [Ne.symm n13, Ne.symm n23, Ne.symm n34]
      · by_cases h4 : t = kindT 4
        · subst h4; simp [Ne.symm n14, Ne.symm n24, Ne.symm n34]
        · simp [h1, h2, h3, h4, Ne.symm h1, Ne.symm h2, Ne.symm h3, Ne.symm h4]
theorem kTo_le (t : Bs) (k : Nat) : kTo t k ≤ k := by
  induction k with
  | zero => exact Nat.le_refl _
  | succ k ih => rw [kTo]; split <;> omega
theorem kind_ix0 (w : World) : (Instr.index 75 (.agg kindArr) (.int .i64 ((0 : Nat) : Int))).run Tryz.prog w = .ok (.string ⟨#[]⟩) w := by kernel_rfl
theorem kind_ix1 (w : World) : (Instr.index 75 (.agg kindArr) (.int .i64 ((1 : Nat) : Int))).run Tryz.prog w = .ok (.string ⟨(kindT 1).toArray⟩) w := by kernel_rfl
theorem kind_ix2 (w : World) : (Instr.index 75 (.agg kindArr) (.int .i64 ((2 : Nat) : Int))).run Tryz.prog w = .ok (.string ⟨(kindT 2).toArray⟩) w := by kernel_rfl
theorem kind_ix3 (w : World) : (Instr.index 75 (.agg kindArr) (.int .i64 ((3 : Nat) : Int))).run Tryz.prog w = .ok (.string ⟨(kindT 3).toArray⟩) w := by kernel_rfl
theorem kind_ix4 (w : World) : (Instr.index 75 (.agg kindArr) (.int .i64 ((4 : Nat) : Int))).run Tryz.prog w = .ok (.string ⟨(kindT 4).toArray⟩) w := by kernel_rfl
theorem kind_index (i : Nat) (hi : i < 5) : ∃ y : ByteArray, (∀ w, (Instr.index 75 (.agg kindArr) (.int .i64 (i : Int))).run Tryz.prog w = .ok (.string y) w) ∧ (1 ≤ i → L y = kindT (i : Int)) := by
  have : i = 0 ∨ i = 1 ∨ i = 2 ∨ i = 3 ∨ i = 4 := by omega
  rcases this with rfl | rfl | rfl | rfl | rfl
  · exact ⟨_, kind_ix0, fun h => by omega⟩
  · exact ⟨_, kind_ix1, fun _ => rfl⟩
  · exact ⟨_, kind_ix2, fun _ => rfl⟩
  · exact ⟨_, kind_ix3, fun _ => rfl⟩
  · exact ⟨_, kind_ix4, fun _ => rfl⟩
/-- the number that the loop of kind finds; then require -/
def RetK (r : Option Int) (w : World) (e : Ending) (w' : World) : Prop := (match r with | some n => e = .returned (.int .i64 n) | none => e = dam) ∧ w = w'
set_option maxHeartbeats 1000000 in
theorem kind_any (s : ByteArray) (w : World) (hT : Tabs w) :
    Calls Tryz.prog 53 #[.string s] w (RetK (kindP (L s)) w) := by
  have HE := Lib.hid (kTo_eq (L s))
  obtain ⟨tt, fr, hg1⟩ := hT.kinds
  have HG := Lib.hid hg1
  clear hg1
  go_enter Tryz.func53, Tryz.ntmps53
  go_wp2_with (refine wpList_load_row rfl 75 _ rfl 0 rfl tt _ fr _ HG.out Tryz.underlying75 rfl (by kernel_rfl) ?_)
  go_loopg [3, 7] 5 (fun g f x wx => ∃ i n : Nat, w = wx ∧ i ≤ 5 ∧ g = 5 - i ∧ n ≤ 5 ∧ Hid (n = kTo (L s) i) ∧ f = .int .i64 n ∧ x = .int .i64 i)
  case atStart => exact ⟨0, 0, rfl, by omega, rfl, by omega, Lib.hid rfl, rfl, rfl⟩
  case round =>
    obtain ⟨i, n, rfl, hi, rfl, hn, HN, rfl, rfl⟩ := hrel
    by_cases hi5 : i < 5
    · obtain ⟨y, hix, hy⟩ := kind_index i hi5
      have HY := Lib.hid hy
      clear hy
      by_cases h0 : 0 < i
      · by_cases hys : y = s
        · subst hys
          have HK : Hid (kTo (L y) (i + 1) = i) := Lib.hid (by rw [kTo, if_pos ⟨h0, (HY.out h0).symm⟩])
          go_wp2_with fail
          go_roundg (5 - (i + 1))
          case measure => omega
          case rel => exact ⟨i + 1, i, rfl, by omega, rfl, by omega, Lib.hid HK.out.symm, rfl, by go_num⟩
        · have HK : Hid (kTo (L s) (i + 1) = n) := Lib.hid (by rw [kTo, if_neg, ← HN.out]; rintro ⟨_, h⟩; exact hys (str_eq ((HY.out h0).trans h)))
          have hb := str_neq hys
          go_wp2_with fail
          go_roundg (5 - (i + 1))
          case measure => omega
          case rel => exact ⟨i + 1, n, rfl, by omega, rfl, by omega, Lib.hid HK.out.symm, rfl, by go_num⟩
      · have HK : Hid (kTo (L s) (i + 1) = n) := Lib.hid (by rw [kTo, if_neg (fun h => h0 h.1), ← HN.out])
        go_wp2_with fail
        go_roundg (5 - (i + 1))
        case measure => omega
        case rel => exact ⟨i + 1, n, rfl, by omega, rfl, by omega, Lib.hid HK.out.symm, rfl, by go_num⟩
    · have hi5' : i = 5 := by omega
      have HN5 : Hid (n = kTo (L s) 5) := Lib.hid (by rw [HN.out, hi5'])
      clear hi5'
      by_cases h0 : 0 < n
      · have HR : Hid (kindP (L s) = some (n : Int)) := Lib.hid (by rw [HE.out, ← HN5.out, if_neg (by omega)])
        go_wp2_with fail
        refine (require_yes _).mono ?_
        rintro e w2 ⟨rfl, rfl⟩
        go_wp2_with fail
        go_ret
        exact ⟨by rw [HR.out]; rfl, rfl⟩
      · have HR : Hid (kindP (L s) = none) := Lib.hid (by rw [HE.out, ← HN5.out, if_pos (by omega)])
        go_wp2_with fail
        refine (require_no _).mono ?_
        rintro e w2 ⟨rfl, rfl⟩
        exact ⟨rfl, by rw [HR.out]; exact ⟨rfl, rfl⟩⟩
end Go.Proofs.YtibgibjmpcajkaaGreatDoor
