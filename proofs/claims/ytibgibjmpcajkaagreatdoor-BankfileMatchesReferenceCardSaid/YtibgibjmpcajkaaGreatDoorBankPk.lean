/- The walks of pick and name. -/
import Derived.Test.YtibgibjmpcajkaaGreatDoorBankHd
namespace BankS
open Go
def pickP (c n : Int) : Int := (if c < 0 then -(c + 1) else c) % n
def nmL (j : Int) : Bs := [[97, 110, 110], [98, 111, 98, 95, 50], [99], [99, 111, 117, 114, 116], [122, 122, 57, 95, 122, 122, 57, 95, 122, 122, 57, 95, 122, 122, 57, 95], [98, 97, 110, 107, 48]].getD j.toNat []
theorem pick_bd (c n : Int) (h : 1 ≤ n) : 0 ≤ pickP c n ∧ pickP c n < n := ⟨Int.emod_nonneg _ (by omega), Int.emod_lt_of_pos _ (by omega)⟩
abbrev Tri := Int × Int × Int
def triOk (x : Tri) : Prop := (-9223372036854775808 ≤ x.1 ∧ x.1 ≤ 9223372036854775807) ∧ (-9223372036854775808 ≤ x.2.1 ∧ x.2.1 ≤ 9223372036854775807) ∧ (-9223372036854775808 ≤ x.2.2 ∧ x.2.2 ≤ 9223372036854775807)
def payOf (i : Nat) (x : Tri) : Pay := (30 * pickP x.1 33333333 + i, nmL (pickP x.2.1 6), 1 + pickP x.2.2 1000000000000, pickP x.2.1 36525)
def ansOf (i : Nat) (x : Tri) : Ans := (30 * pickP x.1 33333333 + i, pickP x.2.1 1000000000, 1 + pickP x.2.2 4, if 1 + pickP x.2.2 4 = 2 ∨ 1 + pickP x.2.2 4 = 4 then 1 + pickP x.2.2 1000000000000 else 0, pickP x.2.1 36525)
def listOf {α : Type} (f : Nat → Tri → α) : Nat → List Tri → List α
  | _, [] => []
  | i, x :: l => f i x :: listOf f (i + 1) l
def pays (l : List Tri) : List Pay := listOf payOf 0 (l.take 30)
def anss (l : List Tri) : List Ans := listOf ansOf 0 (l.take 30)
theorem listOf_len {α : Type} (f : Nat → Tri → α) (i : Nat) (l : List Tri) : (listOf f i l).length = l.length := by
  induction l generalizing i with
  | nil => rfl
  | cons x l ih => rw [listOf, List.length_cons, ih, List.length_cons]
theorem listOf_snoc {α : Type} (f : Nat → Tri → α) (i : Nat) (l : List Tri) (x : Tri) : listOf f i (l ++ [x]) = listOf f i l ++ [f (i + l.length) x] := by
  induction l generalizing i with
  | nil => rfl
  | cons y l ih => rw [List.cons_append, listOf, ih, listOf, List.cons_append, List.length_cons, show i + 1 + l.length = i + (l.length + 1) from by omega]
theorem listOf_take {α : Type} (f : Nat → Tri → α) (l : List Tri) (k : Nat) (x : Tri) (h : l[k]? = some x) : listOf f 0 (l.take (k + 1)) = listOf f 0 (l.take k) ++ [f k x] := by
  rw [take_snoc l k x h, listOf_snoc, List.length_take, Nat.zero_add]
  have := (List.getElem?_eq_some_iff.1 h).1
  rw [Nat.min_eq_left (by omega)]
end BankS
namespace Go.Proofs.YtibgibjmpcajkaaGreatDoor
open Go.RowKit BankS
set_option maxHeartbeats 400000 in
theorem pick_any (c n : Int) (w : World) (h0 : -9223372036854775808 ≤ c) (h1 : c ≤ 9223372036854775807) (h2 : 1 ≤ n) (h3 : n ≤ 1000000000000) :
    Calls Tryz.prog 27 #[.int .i64 c, .int .i64 n] w fun e w' => ∃ x : Int, e = .returned (.int .i64 x) ∧ Hid (x = pickP c n) ∧ 0 ≤ x ∧ x < n ∧ w = w' := by
  obtain ⟨b1, b2⟩ := pick_bd c n h2
  by_cases hc : c < 0
  · have HP : Hid (pickP c n = -((c + 1).tmod n)) := Lib.hid (by unfold pickP; rw [if_pos hc, ← Int.neg_tmod, Int.tmod_eq_emod_of_nonneg (by omega)])
    go_enter Tryz.func27, Tryz.ntmps27
    go_wp2_with fail
    go_ret
    exact ⟨pickP c n, ret_int HP.out.symm, rfl, b1, b2, rfl⟩
  · have HP : Hid (pickP c n = c % n) := Lib.hid (by unfold pickP; rw [if_neg hc])
    go_enter Tryz.func27, Tryz.ntmps27
    go_wp2_with fail
    go_ret
    exact ⟨pickP c n, ret_int HP.out.symm, rfl, b1, b2, rfl⟩
set_option maxHeartbeats 1000000 in
theorem name_any (c : Int) (w : World) (h0 : -9223372036854775808 ≤ c) (h1 : c ≤ 9223372036854775807) :
    Calls Tryz.prog 26 #[.int .i64 c] w fun e w' => ∃ s : ByteArray, e = .returned (.string s) ∧ Hid (L s = nmL (pickP c 6)) ∧ s.size ≤ 16 ∧ Hid (Below w.heap.size w w') := by
  go_enter Tryz.func26, Tryz.ntmps26
  go_wp2_with fail
  refine (pick_any c 6 _ h0 h1 (by omega) (by omega)).mono ?_
  rintro e w1 ⟨x, rfl, HX, x0, x1, rfl⟩
  have hx : x = 0 ∨ x = 1 ∨ x = 2 ∨ x = 3 ∨ x = 4 ∨ x = 5 := by omega
  rcases hx with rfl | rfl | rfl | rfl | rfl | rfl
  all_goals
    go_wp2_with fail
    go_ret
    exact ⟨_, rfl, Lib.hid (by rw [← HX.out]; rfl), by decide, Lib.hid ((Below.refl _ _).alloc (Nat.le_refl _) _)⟩
end Go.Proofs.YtibgibjmpcajkaaGreatDoor
