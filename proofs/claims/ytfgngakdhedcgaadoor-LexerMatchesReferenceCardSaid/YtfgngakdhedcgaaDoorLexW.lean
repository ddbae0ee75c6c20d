/- The walks of the lexer's small functions: what each returns, in every world that holds the two tables. -/
import Derived.Test.YtfgngakdhedcgaaDoorChecked
import Derived.Test.YtfgngakdhedcgaaDoorLexS
import Derived.WalkKit
import Derived.WalkLawsBesides
import Derived.WalkSpells
import Derived.Lib.Hide
import Derived.Laws.Rows
namespace Go.Proofs.YtfgngakdhedcgaaDoor
open Go.RowKit LexS

def clsArr : Array Value := ((List.range 128).map fun i => Value.int .u8 (cls i)).toArray
def symArr : Array Value := (syms.map fun y => Value.string ⟨y.toArray⟩).toArray
/-- the two tables of the lexer lie where the program's text lays them -/
def Tabs (w : World) : Prop := (∃ t fr, w.heap[(1 : Nat)]? = some (.cells clsArr t fr)) ∧ (∃ t fr, w.heap[(0 : Nat)]? = some (.cells symArr t fr))
theorem Tabs.cls {w : World} (h : Tabs w) (i : Nat) (hi : i < 128) : w.cell? ⟨1, i, none⟩ = some (.int .u8 (cls i)) := by
  obtain ⟨⟨t, fr, h1⟩, _⟩ := h
  rw [cell_of_row w _ i clsArr t fr h1]
  unfold clsArr
  simp [hi]
theorem Tabs.keep {w w' : World} (h : Tabs w) (hk : ∀ i, i < 2 → w'.heap[i]? = w.heap[i]?) : Tabs w' := by
  unfold Tabs
  rw [hk _ (by decide), hk _ (by decide)]
  exact h

abbrev L (s : ByteArray) : List UInt8 := s.data.toList

theorem drop_at (s : ByteArray) (k : Nat) (h : k < s.size) : (L s).drop k = s[k] :: (L s).drop (k + 1) := by
  rw [List.drop_eq_getElem_cons (by simpa using h)]; rfl
theorem drop_end (s : ByteArray) (k : Nat) (h : s.size ≤ k) : (L s).drop k = [] := by
  rw [List.drop_eq_nil_iff]; simpa using h

def okm (m : Nat) : Bool := m == 1 || m == 2 || m == 4 || m == 8 || m == 26 || m == 30

theorem cls_vals (n : Nat) : cls n = 0 ∨ cls n = 1 ∨ cls n = 2 ∨ cls n = 4 ∨ cls n = 8 ∨ cls n = 16 := by
  unfold cls; repeat (split; simp)
  simp
theorem cls_big (n : Nat) (h : 128 ≤ n) : cls n = 0 := by
  unfold cls
  rw [if_neg (by omega), if_neg (by omega), if_neg (by omega), if_neg (by omega), if_neg (by omega)]
theorem bits_cls (n m : Nat) (hm : okm m = true) : (bits BinOp.and IntKind.u8 (cls n : Int) (m : Int) != 0) = ((cls n &&& m) != 0) := by
  have hm' : m = 1 ∨ m = 2 ∨ m = 4 ∨ m = 8 ∨ m = 26 ∨ m = 30 := by simp [okm] at hm; omega
  rcases cls_vals n with h | h | h | h | h | h <;> rw [h] <;> rcases hm' with rfl | rfl | rfl | rfl | rfl | rfl <;> decide

set_option maxHeartbeats 400000 in
theorem is_any (s : ByteArray) (a : Int) (m : Nat) (w : World) (hT : Tabs w) (h0 : 0 ≤ a) (hm : okm m = true) :
    Calls Tryd.prog 36 #[.string s, .int .i64 a, .int .u8 m] w fun e w' => e = .returned (.bool (isB m ((L s).drop a.toNat))) ∧ w = w' := by
  obtain ⟨k, rfl⟩ := Int.eq_ofNat_of_zero_le h0
  rw [Int.toNat_natCast]
  by_cases ha : k < s.size
  · have e1 : isB m ((L s).drop k) = cin m s[k] := by rw [drop_at s k ha]; rfl
    have E1 := Lib.hid e1
    clear e1
    have HM := Lib.hid hm
    clear hm
    by_cases h128 : (s[k].toNat : Int) < 128
    · have hc := hT.cls s[k].toNat (by omega)
      go_enter Tryd.func36, Tryd.ntmps36
      go_wp2
      go_ret
      refine ⟨?_, rfl⟩
      rw [E1.out]
      have := bits_cls s[k].toNat m HM.out
      exact congrArg (fun b => Ending.returned (.bool b)) this
    · have e2 : cin m s[k] = false := by unfold cin; rw [cls_big _ (by omega)]; simp
      have E2 := Lib.hid e2
      clear e2
      go_enter Tryd.func36, Tryd.ntmps36
      go_wp2
      go_ret
      exact ⟨by rw [E1.out, E2.out]; rfl, rfl⟩
  · have e1 : isB m ((L s).drop k) = false := by rw [drop_end s k (by omega)]; rfl
    have E1 := Lib.hid e1
    clear e1
    go_enter Tryd.func36, Tryd.ntmps36
    go_wp2
    go_ret
    exact ⟨by rw [E1.out]; rfl, rfl⟩

theorem run_step (m : Nat) (s : ByteArray) (k : Nat) (h : isB m ((L s).drop k) = true) : k + spanN m ((L s).drop k) = k + 1 + spanN m ((L s).drop (k + 1)) ∧ k < s.size := by
  by_cases hk : k < s.size
  · rw [drop_at s k hk] at h ⊢
    have h' : cin m s[k] = true := h
    refine ⟨?_, hk⟩
    unfold spanN
    rw [List.takeWhile_cons, if_pos h']
    simp; omega
  · rw [drop_end s k (by omega)] at h; simp [isB] at h
theorem run_stop (m : Nat) (t : List UInt8) (h : isB m t = false) : spanN m t = 0 := by
  cases t with
  | nil => rfl
  | cons c t => unfold spanN; rw [List.takeWhile_cons]; have : cin m c = false := h; simp [this]
theorem spanN_le (m : Nat) (t : List UInt8) : spanN m t ≤ t.length := by
  unfold spanN; exact (List.takeWhile_prefix _).length_le

set_option maxHeartbeats 400000 in
theorem run_any (s : ByteArray) (a : Int) (m : Nat) (w : World) (hs : s.size ≤ 9223372036854775806) (hT : Tabs w) (h0 : 0 ≤ a) (hm : okm m = true) :
    Calls Tryd.prog 34 #[.string s, .int .i64 a, .int .u8 m] w fun e w' => e = .returned (.int .i64 (a + spanN m ((L s).drop a.toNat) : Int)) ∧ w = w' := by
  obtain ⟨k0, rfl⟩ := Int.eq_ofNat_of_zero_le h0
  rw [Int.toNat_natCast]
  have HM := Lib.hid hm
  clear hm
  go_enter Tryd.func34, Tryd.ntmps34
  go_wp2_with fail
  go_loop [1] (fun i => ∃ k : Nat, Hid (k + spanN m ((L s).drop k) = k0 + spanN m ((L s).drop k0)) ∧ i = .int .i64 k) (fun i => s.size - (intOf i).toNat)
  case atStart => exact ⟨k0, Lib.hid rfl, rfl⟩
  case round =>
    obtain ⟨k, HK, rfl⟩ := hrel
    cases hb : isB m ((L s).drop k) with
    | true =>
      obtain ⟨e1, hlt⟩ := run_step m s k hb
      have E1 := Lib.hid e1
      clear e1
      have HB := Lib.hid hb
      clear hb
      go_wp2_with fail
      refine (is_any s _ m _ hT (by omega) HM.out).mono ?_
      rintro e w' ⟨rfl, rfl⟩
      rw [Int.toNat_natCast, HB.out]
      go_wp2_with fail
      go_round
      case rel => exact ⟨k + 1, Lib.hid (by rw [← HK.out, E1.out]), by go_num⟩
      case measure => simp [intOf]; omega
    | false =>
      have HB := Lib.hid hb
      clear hb
      go_wp2_with fail
      refine (is_any s _ m _ hT (by omega) HM.out).mono ?_
      rintro e w' ⟨rfl, rfl⟩
      rw [Int.toNat_natCast, HB.out]
      go_wp2_with fail
      go_ret
      refine ⟨?_, rfl⟩
      have h1 := HK.out
      rw [run_stop m _ HB.out] at h1
      exact congrArg (fun n : Int => Ending.returned (.int .i64 n)) (by omega)
end Go.Proofs.YtfgngakdhedcgaaDoor
