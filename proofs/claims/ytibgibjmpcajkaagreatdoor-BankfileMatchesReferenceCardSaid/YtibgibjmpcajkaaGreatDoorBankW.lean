/- The walks of the bank file's small functions. -/
import Derived.Test.YtibgibjmpcajkaaGreatDoorChecked
import Derived.Test.YtibgibjmpcajkaaGreatDoorBankU
import Derived.WalkKit
import Derived.WalkLawsBesides
import Derived.WalkSpells
import Derived.Lib.Hide
import Derived.Laws.Rows
namespace Go.Proofs.YtibgibjmpcajkaaGreatDoor
open Go.RowKit BankS

abbrev L (s : ByteArray) : List UInt8 := s.data.toList
def kindArr : Array Value := #[.string ⟨#[]⟩, .string ⟨(kindT 1).toArray⟩, .string ⟨(kindT 2).toArray⟩, .string ⟨(kindT 3).toArray⟩, .string ⟨(kindT 4).toArray⟩]
def befArr : Array Value := ((List.range 13).map fun i => Value.int .i64 (before i)).toArray
def powArr : Array Value := (Lib.pow10Tab.map fun z => Value.int .u64 z).toArray
/-- the package-level variables, as the program's text lays them -/
structure Tabs (w : World) : Prop where
  kinds : ∃ t fr, w.heap[(0 : Nat)]? = some (.cells kindArr t fr)
  bef : ∃ t fr, w.heap[(1 : Nat)]? = some (.cells befArr t fr)
  maxl : ∃ m t fr, w.heap[(2 : Nat)]? = some (.cells #[.int .i64 m] t fr)
  pow : ∃ t fr, w.heap[(3 : Nat)]? = some (.cells powArr t fr)
  syn : ∃ te pe t fr, w.heap[(4 : Nat)]? = some (.cells #[.iface te pe] t fr)
  ran : ∃ te pe t fr, w.heap[(5 : Nat)]? = some (.cells #[.iface te pe] t fr)
  size : 10 ≤ w.heap.size
theorem Tabs.keep {w w' : World} (h : Tabs w) (hs : w.heap.size ≤ w'.heap.size) (hk : ∀ i, i < 10 → w'.heap[i]? = w.heap[i]?) : Tabs w' where
  kinds := by rw [hk _ (by decide)]; exact h.kinds
  bef := by rw [hk _ (by decide)]; exact h.bef
  maxl := by rw [hk _ (by decide)]; exact h.maxl
  pow := by rw [hk _ (by decide)]; exact h.pow
  syn := by rw [hk _ (by decide)]; exact h.syn
  ran := by rw [hk _ (by decide)]; exact h.ran
  size := Nat.le_trans h.size hs

theorem drop_at (s : ByteArray) (k : Nat) (h : k < s.size) : (L s).drop k = s[k] :: (L s).drop (k + 1) := by
  rw [List.drop_eq_getElem_cons (by simpa using h)]; rfl
theorem drop_end (s : ByteArray) (k : Nat) (h : s.size ≤ k) : (L s).drop k = [] := by
  rw [List.drop_eq_nil_iff]; simpa using h
theorem take_at (s : ByteArray) (k : Nat) (h : k < s.size) : (L s).take (k + 1) = (L s).take k ++ [s[k]] := by
  rw [List.take_succ_eq_append_getElem (by simpa using h)]; rfl
theorem take_all (s : ByteArray) (k : Nat) (h : s.size ≤ k) : (L s).take k = L s := List.take_of_length_le (by simpa using h)
theorem L_len (s : ByteArray) : (L s).length = s.size := by simp
theorem ret_int {k : IntKind} {a b : Int} (h : a = b) : Ending.returned (.int k a) = .returned (.int k b) := by rw [h]
theorem ret_bool {a b : Bool} (h : a = b) : Ending.returned (.bool a) = .returned (.bool b) := by rw [h]
theorem ret_str {a b : List UInt8} (h : a = b) : Ending.returned (.string ⟨a.toArray⟩) = .returned (.string ⟨b.toArray⟩) := by rw [h]

theorem name_yes (c : UInt8) (h : nameB c = true) : (97 ≤ (c.toNat : Int) ∧ (c.toNat : Int) ≤ 122) ∨ (48 ≤ (c.toNat : Int) ∧ (c.toNat : Int) ≤ 57) ∨ (c.toNat : Int) = 95 := by
  unfold nameB at h
  simp only [Bool.or_eq_true, beq_iff_eq] at h
  rcases h with (h | h) | h
  · have := of_decide_eq_true h; omega
  · have := of_decide_eq_true h; omega
  · subst h; right; right; rfl
theorem name_none (c : UInt8) (h : nameB c = false) : ((c.toNat : Int) < 48) ∨ (57 < (c.toNat : Int) ∧ (c.toNat : Int) < 97 ∧ (c.toNat : Int) ≠ 95) ∨ 122 < (c.toNat : Int) := by
  unfold nameB at h
  simp only [Bool.or_eq_false_iff, beq_eq_false_iff_ne] at h
  have h1 := of_decide_eq_false h.1.1
  have h2 := of_decide_eq_false h.1.2
  have h3 : c.toNat ≠ 95 := fun e => h.2 (UInt8.toNat_inj.1 e)
  omega
theorem str_ne (s : ByteArray) (h : 0 < s.size) : s.toList.isEmpty = false := by
  have e := drop_at s 0 h
  rw [List.drop_zero] at e
  rw [ByteArray.toList_eq]
  show (L s).isEmpty = false
  rw [e]; rfl
theorem str_ne2 (s : ByteArray) (h : 0 < s.size) : ¬ s.toList = [] := by
  have := str_ne s h
  intro e; rw [e] at this; cases this
theorem isName_eq (s : ByteArray) (h : 0 < s.size) : isName (L s) = (decide (s.size ≤ 16) && lowB s[0] && (L s).all nameB) := by
  have e := drop_at s 0 h
  rw [List.drop_zero] at e
  rw [e]
  unfold isName
  simp only []
  rw [← e, L_len]

set_option maxHeartbeats 1000000 in
theorem isName_any (s : ByteArray) (w : World) (hs : s.size ≤ maxLen) :
    Calls Tryz.prog 59 #[.string s] w fun e w' => e = .returned (.bool (isName (L s))) ∧ w = w' := by
  unfold maxLen at hs
  by_cases h0 : 0 < s.size
  · have hne := str_ne s h0
    have hne2 := str_ne2 s h0
    have hE := Lib.hid (isName_eq s h0)
    by_cases h16 : s.size ≤ 16
    · have hb := s[0].toNat_lt
      by_cases hl : 97 ≤ (s[0].toNat : Int) ∧ (s[0].toNat : Int) ≤ 122
      · obtain ⟨hl1, hl2⟩ := hl
        have HL : Hid (isName (L s) = (L s).all nameB) := Lib.hid (by
          rw [hE.out]
          have : lowB s[0] = true := decide_eq_true (by omega)
          rw [this, decide_eq_true h16]; rfl)
        clear hE
        go_enter Tryz.func59, Tryz.ntmps59
        go_wp2_with fail
        go_loop [24] (fun i => ∃ k : Nat, k ≤ s.size ∧ Hid ((L s).all nameB = ((L s).drop k).all nameB) ∧ i = .int .i64 k) (fun i => s.size - (intOf i).toNat)
        case atStart => exact ⟨0, by omega, Lib.hid (by rw [List.drop_zero]), rfl⟩
        case round =>
          obtain ⟨k, hk, HK, rfl⟩ := hrel
          by_cases hlt : k < s.size
          · have HD := Lib.hid (drop_at s k hlt)
            cases hn : nameB s[k] with
            | true =>
              have HN : Hid ((L s).all nameB = ((L s).drop (k + 1)).all nameB) := Lib.hid (by rw [HK.out, HD.out, List.all_cons, hn, Bool.true_and])
              rcases name_yes _ hn with ⟨a1, a2⟩ | ⟨a1, a2⟩ | a1
              all_goals
                clear hn
                go_wp2_with fail
                go_round
                case rel => exact ⟨k + 1, by omega, HN, by go_num⟩
                case measure => simp [intOf]; omega
            | false =>
              have HN : Hid (isName (L s) = false) := Lib.hid (by rw [HL.out, HK.out, HD.out, List.all_cons, hn, Bool.false_and])
              have b1 : ((s[k].toNat : Int) != 95) = true := by rw [bne_iff_ne]; rcases name_none _ hn with a1 | ⟨a1, a2, a3⟩ | a1 <;> omega
              rcases name_none _ hn with a1 | ⟨a1, a2, a3⟩ | a1
              all_goals
                clear hn
                go_wp2_with fail
                go_ret
                exact ⟨by rw [HN.out]; rfl, rfl⟩
          · have HN : Hid (isName (L s) = true) := Lib.hid (by rw [HL.out, HK.out, drop_end s k (by omega)]; rfl)
            go_wp2_with fail
            go_ret
            exact ⟨by rw [HN.out]; rfl, rfl⟩
      · have HL : Hid (isName (L s) = false) := Lib.hid (by
          rw [hE.out]
          have : lowB s[0] = false := decide_eq_false (by omega)
          rw [this, Bool.and_false]; rfl)
        clear hE
        by_cases hlo : (s[0].toNat : Int) < 97
        all_goals
          go_enter Tryz.func59, Tryz.ntmps59
          go_wp2_with fail
          go_ret
          exact ⟨by rw [HL.out]; rfl, rfl⟩
    · have HL : Hid (isName (L s) = false) := Lib.hid (by rw [hE.out, decide_eq_false h16]; rfl)
      clear hE
      go_enter Tryz.func59, Tryz.ntmps59
      go_wp2_with fail
      go_ret
      exact ⟨by rw [HL.out]; rfl, rfl⟩
  · have h1 : s = ByteArray.empty := by
      apply ByteArray.ext
      apply Array.eq_empty_of_size_eq_zero
      show s.size = 0
      omega
    subst h1
    go_enter Tryz.func59, Tryz.ntmps59
    go_wp2_with fail
    go_ret
    exact ⟨rfl, rfl⟩

set_option maxHeartbeats 400000 in
theorem isDay_any (n : Int) (w : World) : Calls Tryz.prog 61 #[.int .i64 n] w fun e w' => e = .returned (.bool (dayOk n)) ∧ w = w' := by
  by_cases h0 : 0 ≤ n
  · by_cases h1 : n ≤ 36524
    all_goals
      go_enter Tryz.func61, Tryz.ntmps61
      go_wp2_with fail
      go_ret
      exact ⟨ret_bool (by unfold dayOk; simp [h0, h1]), rfl⟩
  · go_enter Tryz.func61, Tryz.ntmps61
    go_wp2_with fail
    go_ret
    exact ⟨ret_bool (by unfold dayOk; rw [decide_eq_false]; omega), rfl⟩
set_option maxHeartbeats 400000 in
theorem valid_any (n : Int) (w : World) : Calls Tryz.prog 64 #[.int .i64 n] w fun e w' => e = .returned (.bool (dayOk n)) ∧ w = w' := by
  by_cases h0 : 0 ≤ n
  · by_cases h1 : n ≤ 36524
    all_goals
      go_enter Tryz.func64, Tryz.ntmps64
      go_wp2_with fail
      go_ret
      exact ⟨ret_bool (by unfold dayOk; simp [h0, h1]), rfl⟩
  · go_enter Tryz.func64, Tryz.ntmps64
    go_wp2_with fail
    go_ret
    exact ⟨ret_bool (by unfold dayOk; rw [decide_eq_false]; omega), rfl⟩
end Go.Proofs.YtibgibjmpcajkaaGreatDoor
