/- The walks of the reference calendar. -/
import Derived.Test.YtibgibjmpcajkaaGreatDoorBankZ
import Derived.IntWalk
import Derived.Laws.IdiomStrings
namespace BankS
open Go
def p10 : Nat → Nat
  | 0 => 1
  | n + 1 => 10 * p10 n
theorem p10_mono (m k : Nat) : p10 m ≤ p10 (m + k) := by
  induction k with
  | zero => exact Nat.le_refl _
  | succ k ih =>
    have h : p10 (m + (k + 1)) = 10 * p10 (m + k) := rfl
    omega
theorem numF_lt (t : Bs) (h : t.all digB = true) (a : Nat) : numF a t < (a + 1) * p10 t.length := by
  induction t generalizing a with
  | nil =>
    have h1 : numF a [] = a := rfl
    have h2 : p10 ([] : Bs).length = 1 := rfl
    rw [h1, h2]; omega
  | cons c t ih =>
    rw [List.all_cons, Bool.and_eq_true] at h
    have hc := of_decide_eq_true h.1
    have h1 := ih h.2 (10 * a + (c.toNat - 48))
    have h2 : numF a (c :: t) = numF (10 * a + (c.toNat - 48)) t := rfl
    have h3 : p10 (c :: t).length = 10 * p10 t.length := rfl
    rw [h2, h3, ← Nat.mul_assoc]
    exact Nat.lt_of_lt_of_le h1 (Nat.mul_le_mul_right _ (by omega))
theorem numF_small (t : Bs) (h : t.all digB = true) (n : Nat) (hn : t.length ≤ n) : numF 0 t < p10 n := by
  have h1 := numF_lt t h 0
  rw [Nat.zero_add, Nat.one_mul] at h1
  obtain ⟨k, rfl⟩ := Nat.exists_eq_add_of_le hn
  exact Nat.lt_of_lt_of_le h1 (p10_mono _ _)
/-- some digits of a text -/
def seg (t : Bs) (a b : Nat) : Bs := (t.drop a).take (b - a)
theorem seg_nil (t : Bs) (a : Nat) : seg t a a = [] := by unfold seg; rw [Nat.sub_self]; rfl
theorem seg_len (t : Bs) (a b : Nat) : (seg t a b).length ≤ b - a := by unfold seg; rw [List.length_take]; omega
theorem seg_pre (t : Bs) (a k b : Nat) (hk : k ≤ b) (h : (seg t a b).all digB = true) : (seg t a k).all digB = true := by
  unfold seg at h ⊢
  rw [List.all_eq_true] at h ⊢
  intro c hc
  refine h c ?_
  have : (t.drop a).take (k - a) = ((t.drop a).take (b - a)).take (k - a) := by rw [List.take_take, Nat.min_eq_left (by omega)]
  rw [this] at hc
  exact List.mem_of_mem_take hc
end BankS
namespace Go.Proofs.YtibgibjmpcajkaaGreatDoor
open Go.RowKit BankS
theorem seg_snoc (s : ByteArray) (a k : Nat) (ha : a ≤ k) (hk : k < s.size) : seg (L s) a (k + 1) = seg (L s) a k ++ [s[k]] := by
  unfold seg
  rw [show k + 1 - a = (k - a) + 1 from by omega, List.take_add_one, List.getElem?_drop, show a + (k - a) = k from by omega]
  rw [show (L s)[k]? = some s[k] from by rw [List.getElem?_eq_getElem (by rw [L_len]; exact hk)]; rfl]
  rfl
theorem convM (W : World) (g : Nat) (us : List UInt8) (h : ∀ j u, us[j]? = some u → W.cell? ⟨g, j, none⟩ = some (.int .u8 u.toNat)) (n : Nat) (hn : n = us.length) :
    (convert 49 9 (.slice (some ⟨g, 0, none⟩) n n)).run Tryz.prog W = .ok (.string ⟨us.toArray⟩) W := by
  subst hn
  exact run_convert_bytes_back (P := Tryz.prog) W 49 9 5 ⟨g, 0, none⟩ us.length us Tryz.underlying49 Tryz.underlying5 Tryz.underlying9
    (fun j hj => by
      have e : (⟨g, 0, none⟩ : Addr).add j = ⟨g, 0 + j, none⟩ := by simp [Addr.add]; intro h0; exact h0.symm
      rw [e, Nat.zero_add, h j us[j] (List.getElem?_eq_getElem hj)])
theorem bytesM (w : World) (us : List UInt8) (cs : Array Value) (hcs : cs = (us.map (fun u => Value.int .u8 u.toNat)).toArray) (T : TypeId) : ∀ j u, us[j]? = some u → (w.alloc (.cells cs T)).cell? ⟨w.heap.size, j, none⟩ = some (.int .u8 u.toNat) := by
  intro j u h
  rw [cell_row (heap_new w cs T), hcs]
  simp [h]
theorem rLong_any (y : Int) (w : World) (h0 : 2000 ≤ y) (h1 : y ≤ 2099) :
    Calls Tryz.prog 106 #[.int .i64 y] w fun e w' => e = .returned (.bool (decide (y % 4 = 0))) ∧ w = w' := by
  go_enter Tryz.func106, Tryz.ntmps106
  by_cases h4 : y % 4 = 0
  · rw [decide_eq_true h4]
    by_cases hh : y = 2000
    · subst hh
      go_wp2_with fail
      go_ret
      exact ⟨rfl, rfl⟩
    · have b4 : (y % 4 == 0) = true := by rw [h4]; rfl
      have b1 : (y % 100 != 0) = true := by rw [bne_iff_ne]; omega
      clear hh h4
      go_wp2_with fail
      go_ret
      exact ⟨rfl, rfl⟩
  · rw [decide_eq_false h4]
    have b4 : (y % 4 == 0) = false := by rw [beq_eq_false_iff_ne]; exact h4
    clear h4
    go_wp2_with fail
    go_ret
    exact ⟨rfl, rfl⟩
set_option maxHeartbeats 1000000 in
theorem rDays_any (y m : Int) (w : World) (h0 : 2000 ≤ y) (h1 : y ≤ 2099) (h2 : 1 ≤ m) (h3 : m ≤ 12) :
    Calls Tryz.prog 89 #[.int .i64 y, .int .i64 m] w fun e w' => ∃ d : Int, e = .returned (.int .i64 d) ∧ Hid (d = (lenM ((y - 2000).toNat * 12 + (m - 1).toNat) : Int)) ∧ 28 ≤ d ∧ d ≤ 31 ∧ w = w' := by
  have HL := Lib.hid (lenM_at (y - 2000).toNat (m - 1).toNat (by omega))
  go_enter Tryz.func89, Tryz.ntmps89
  have hm : m = 1 ∨ m = 2 ∨ m = 3 ∨ m = 4 ∨ m = 5 ∨ m = 6 ∨ m = 7 ∨ m = 8 ∨ m = 9 ∨ m = 10 ∨ m = 11 ∨ m = 12 := by omega
  rcases hm with rfl | rfl | rfl | rfl | rfl | rfl | rfl | rfl | rfl | rfl | rfl | rfl
  case inr.inl =>
    go_wp2_with fail
    refine (rLong_any y _ h0 h1).mono ?_
    rintro e w' ⟨rfl, rfl⟩
    by_cases h4 : y % 4 = 0
    · rw [decide_eq_true h4]
      have HD : Hid ((29 : Int) = (lenM ((y - 2000).toNat * 12 + (2 - 1 : Int).toNat) : Int)) := Lib.hid (by rw [HL.out, if_pos (by decide), if_pos (by omega)]; rfl)
      clear h4
      go_wp2_with fail
      go_ret
      exact ⟨29, rfl, HD, by omega, by omega, rfl⟩
    · rw [decide_eq_false h4]
      have HD : Hid ((28 : Int) = (lenM ((y - 2000).toNat * 12 + (2 - 1 : Int).toNat) : Int)) := Lib.hid (by rw [HL.out, if_pos (by decide), if_neg (by omega)]; rfl)
      clear h4
      go_wp2_with fail
      go_ret
      exact ⟨28, rfl, HD, by omega, by omega, rfl⟩
  all_goals
    go_wp2_with fail
    go_ret
    refine ⟨_, rfl, Lib.hid ?_, by omega, by omega, rfl⟩
    rw [HL.out]
    rfl
set_option maxHeartbeats 1000000 in
theorem rFirst_any (k : Nat) (w : World) (h : k ≤ 1199) :
    Calls Tryz.prog 95 #[.int .i64 k] w fun e w' => e = .returned (.int .i64 (firstM k)) ∧ w = w' := by
  go_enter Tryz.func95, Tryz.ntmps95
  go_wp2_with fail
  go_loop [3, 4] (fun x i => ∃ j f : Nat, j ≤ k ∧ f ≤ 36525 ∧ Hid (f = firstM j) ∧ i = .int .i64 j ∧ x = .int .i64 f) (fun _ i => k - (intOf i).toNat)
  case atStart => exact ⟨0, 0, by omega, by omega, Lib.hid rfl, rfl, rfl⟩
  case round =>
    obtain ⟨j, f, hj, hf, HF, rfl, rfl⟩ := hrel
    by_cases hlt : j < k
    · go_wp2_with fail
      refine (rDays_any (2000 + (j : Int) / 12) ((j : Int) % 12 + 1) _ (by omega) (by omega) (by omega) (by omega)).mono ?_
      rintro e w' ⟨d, rfl, HD, d0, d1, rfl⟩
      have HN : Hid ((f : Int) + d = (firstM (j + 1) : Int)) := Lib.hid (by
        have e1 : (2000 + (j : Int) / 12 - 2000).toNat * 12 + ((j : Int) % 12 + 1 - 1).toNat = j := by omega
        have h1 := HD.out; have h2 := HF.out
        rw [e1] at h1
        rw [h1, h2, firstM]; omega)
      have hb := firstM_bd (j + 1) (by omega)
      have hfd : (f : Int) + d ≤ 36525 := by have := HN.out; omega
      clear hb
      go_wp2_with fail
      go_round
      case rel => exact ⟨j + 1, firstM (j + 1), by omega, by have := HN.out; omega, Lib.hid rfl, by go_num, congrArg (Value.int .i64) HN.out⟩
      case measure => simp [intOf]; omega
    · obtain rfl : j = k := by omega
      go_wp2_with fail
      go_ret
      exact ⟨ret_int (by rw [HF.out]), rfl⟩
set_option maxHeartbeats 1000000 in
theorem rDate_any (n : Nat) (w : World) (h : n < 36525) :
    Calls Tryz.prog 73 #[.int .i64 n] w fun e w' => ∃ a b c : Int, e = .returned (.tuple #[.int .i64 a, .int .i64 b, .int .i64 c]) ∧ Hid (a = 2000 + (monthOf n : Int) / 12 ∧ b = (monthOf n : Int) % 12 + 1 ∧ c = (n : Int) - (firstM (monthOf n) : Int) + 1) ∧ w = w' := by
  go_enter Tryz.func73, Tryz.ntmps73
  go_wp2_with fail
  go_loop [0, 5, 6] (fun x y m => ∃ j d : Nat, j < 1200 ∧ d ≤ 36525 ∧ Hid (d + firstM j = n) ∧ x = .int .i64 d ∧ y = .int .i64 (2000 + (j : Int) / 12) ∧ m = .int .i64 ((j : Int) % 12 + 1)) (fun x _ _ => (intOf x).toNat)
  case atStart => exact ⟨0, n, by omega, by omega, Lib.hid rfl, rfl, rfl, rfl⟩
  case round =>
    obtain ⟨j, d, hj, hd, HD, rfl, rfl, rfl⟩ := hrel
    go_wp2_with fail
    refine (rDays_any (2000 + (j : Int) / 12) ((j : Int) % 12 + 1) _ (by omega) (by omega) (by omega) (by omega)).mono ?_
    rintro e w' ⟨q, rfl, HQ, q0, q1, rfl⟩
    have hq : Hid (q = (lenM j : Int)) := Lib.hid (by
      have e1 : (2000 + (j : Int) / 12 - 2000).toNat * 12 + ((j : Int) % 12 + 1 - 1).toNat = j := by omega
      have h1 := HQ.out
      rw [e1] at h1
      exact h1)
    clear HQ
    by_cases hge : q ≤ (d : Int)
    · have hj2 : j + 1 < 1200 := by
        have h1 := hq.out; have h2 := HD.out
        have h3 : firstM (j + 1) = firstM j + lenM j := rfl
        rcases Nat.lt_or_ge (j + 1) 1200 with h4 | h4
        · exact h4
        · have h5 := firstM_mono h4
          rw [firstM_end] at h5
          omega
      have HN : Hid (((d : Int) - q).toNat + firstM (j + 1) = n) := Lib.hid (by
        have h1 := hq.out; have h2 := HD.out
        have h3 : firstM (j + 1) = firstM j + lenM j := rfl
        omega)
      go_wp2_with fail
      refine (rDays_any (2000 + (j : Int) / 12) ((j : Int) % 12 + 1) _ (by omega) (by omega) (by omega) (by omega)).mono ?_
      rintro e w' ⟨q', rfl, HQ, _, _, rfl⟩
      obtain rfl : q' = q := by
        have e1 : (2000 + (j : Int) / 12 - 2000).toNat * 12 + ((j : Int) % 12 + 1 - 1).toNat = j := by omega
        have h1 := HQ.out
        rw [e1] at h1
        rw [h1, hq.out]
      by_cases h12 : j % 12 = 11
      · have g1 : (12 : Int) < (j : Int) % 12 + 1 + 1 := by omega
        go_wp2_with fail
        go_round
        case rel => exact ⟨j + 1, ((d : Int) - q').toNat, hj2, by omega, HN, congrArg (Value.int .i64) (by omega), congrArg (Value.int .i64) (by omega), congrArg (Value.int .i64) (by omega)⟩
        case measure => simp [intOf]; omega
      · have g1 : ¬ (12 : Int) < (j : Int) % 12 + 1 + 1 := by omega
        go_wp2_with fail
        go_round
        case rel => exact ⟨j + 1, ((d : Int) - q').toNat, hj2, by omega, HN, congrArg (Value.int .i64) (by omega), congrArg (Value.int .i64) (by omega), congrArg (Value.int .i64) (by omega)⟩
        case measure => simp [intOf]; omega
    · have hm : Hid (monthOf n = j) := Lib.hid (by
        have h1 := hq.out; have h2 := HD.out
        have h3 : firstM (j + 1) = firstM j + lenM j := rfl
        exact month_at n j (by omega) (by omega) hj)
      go_wp2_with fail
      go_ret3
      refine ⟨_, _, _, rfl, Lib.hid ⟨?_, ?_, ?_⟩, rfl⟩
      · rw [hm.out]
      · rw [hm.out]
      · rw [hm.out]; have := HD.out; omega
set_option maxHeartbeats 1000000 in
theorem rTwo_any (n : Int) (w : World) (h0 : 0 ≤ n) (h : n < 100) :
    Calls Tryz.prog 74 #[.int .i64 n] w fun e w' => ∃ s : ByteArray, e = .returned (.string s) ∧ s.size = 2 ∧ Hid (L s = pad n.toNat 2) ∧ Hid (Below w.heap.size w w') := by
  obtain ⟨k, rfl⟩ := Int.eq_ofNat_of_zero_le h0
  obtain ⟨ub, hub⟩ : ∃ u : UInt8, u = UInt8.ofNat (48 + k / 10) := ⟨_, rfl⟩
  obtain ⟨vb, hvb⟩ : ∃ u : UInt8, u = UInt8.ofNat (48 + k % 10) := ⟨_, rfl⟩
  have n1 : (48 : Int) + (k : Int) / 10 = (ub.toNat : Int) := by rw [hub, UInt8.toNat_ofNat']; omega
  have n2 : (48 : Int) + (k : Int) % 10 = (vb.toNat : Int) := by rw [hvb, UInt8.toNat_ofNat']; omega
  have HP : Hid ([ub, vb] = pad ((k : Int)).toNat 2) := Lib.hid (by rw [hub, hvb, Int.toNat_natCast, pad2 k (by omega)])
  clear hub hvb
  have cv := convM (w.alloc (.cells #[.int .u8 ub.toNat, .int .u8 vb.toNat] 5)) w.heap.size [ub, vb] (bytesM w [ub, vb] _ rfl _) 2 rfl
  rw [← n1, ← n2] at cv
  clear n1 n2
  go_enter Tryz.func74, Tryz.ntmps74
  go_wp2_with fail
  go_ret
  exact ⟨_, rfl, rfl, HP, Lib.hid ((Below.refl _ _).alloc (Nat.le_refl _) _)⟩
set_option maxHeartbeats 1000000 in
theorem rText_any (n : Nat) (w : World) (h : n < 36525) :
    Calls Tryz.prog 37 #[.int .i64 n] w fun e w' => ∃ s : ByteArray, e = .returned (.string s) ∧ s.size = 10 ∧ Hid (L s = dayText n) ∧ Hid (Below w.heap.size w w') := by
  obtain ⟨m1, m2, m3⟩ := month_ok n h
  have m4 : firstM (monthOf n + 1) = firstM (monthOf n) + lenM (monthOf n) := rfl
  have m5 := lenM_le (monthOf n)
  have HT := Lib.hid (dayText_eq n h)
  go_enter Tryz.func37, Tryz.ntmps37
  go_wp2_with fail
  refine (rDate_any n _ h).mono ?_
  rintro e w' ⟨a, b, c, rfl, HD, rfl⟩
  obtain ⟨ha, hb, hc⟩ := HD.out
  have a0 : 2000 ≤ a := by omega
  have a1 : a ≤ 2099 := by omega
  have b0 : 1 ≤ b := by omega
  have b1 : b ≤ 12 := by omega
  have c0 : 1 ≤ c := by omega
  have c1 : c ≤ 31 := by omega
  clear ha hb hc m1 m2 m3 m4 m5
  have ne : (a == 0) = false := by rw [beq_eq_false_iff_ne]; omega
  go_wp2_with fail
  refine (rTwo_any (a / 100) _ (by omega) (by omega)).mono ?_
  rintro e w1 ⟨s1, rfl, z1, H1, B1⟩
  have t1 := B1.out.size
  go_wp2_with fail
  refine (rTwo_any (a % 100) _ (by omega) (by omega)).mono ?_
  rintro e w2 ⟨s2, rfl, z2, H2, b2⟩
  have B2 : Hid (Below w.heap.size w w2) := Lib.hid (B1.out.trans (b2.out.mono t1))
  have t2 := B2.out.size
  clear b2 B1 t1
  go_wp2_with fail
  refine (rTwo_any b _ (by omega) (by omega)).mono ?_
  rintro e w3 ⟨s3, rfl, z3, H3, b3⟩
  have B3 : Hid (Below w.heap.size w w3) := Lib.hid (B2.out.trans (b3.out.mono t2))
  have t3 := B3.out.size
  clear b3 B2 t2
  go_wp2_with fail
  refine (rTwo_any c _ (by omega) (by omega)).mono ?_
  rintro e w4 ⟨s4, rfl, z4, H4, b4⟩
  have B4 : Hid (Below w.heap.size w w4) := Lib.hid (B3.out.trans (b4.out.mono t3))
  clear b4 B3 t3
  go_wp2_with fail
  go_ret
  refine ⟨_, rfl, ?_, Lib.hid ?_, B4⟩
  · simp only [ByteArray.size_append, z1, z2, z3, z4]; rfl
  · obtain ⟨ha, hb, hc⟩ := HD.out
    obtain ⟨m1, m2, m3⟩ := month_ok n h
    have m4 : firstM (monthOf n + 1) = firstM (monthOf n) + lenM (monthOf n) := rfl
    have m5 := lenM_le (monthOf n)
    rw [HT.out]
    simp only [L_app, H1.out, H2.out, H3.out, H4.out]
    rw [show (a / 100).toNat = 20 from by omega, show (a % 100).toNat = monthOf n / 12 from by omega, show b.toNat = monthOf n % 12 + 1 from by omega, show c.toNat = n - firstM (monthOf n) + 1 from by omega]
    rw [pad2 20 (by omega), pad2 (monthOf n / 12) (by omega), pad2 (monthOf n % 12 + 1) (by omega), pad2 (n - firstM (monthOf n) + 1) (by omega)]
    rfl
def RetNum (l : Bs) (w : World) (e : Ending) (w' : World) : Prop := ∃ (n : Nat) (ok : Bool), e = .returned (.tuple #[.int .i64 n, .bool ok]) ∧ Hid (ok = l.all digB) ∧ Hid (ok = true → n = numF 0 l) ∧ n < 10000 ∧ w = w'
theorem RetNum.mk {l : Bs} {w w' : World} {z : Int} (n : Nat) (ok : Bool) (hz : z = n) (h1 : ok = l.all digB) (h2 : ok = true → n = numF 0 l) (h3 : n < 10000) (h4 : w = w') : RetNum l w (.returned (.tuple #[.int .i64 z, .bool ok])) w' := ⟨n, ok, by rw [hz], Lib.hid h1, Lib.hid h2, h3, h4⟩
set_option maxHeartbeats 2000000 in
theorem rNum_any (s : ByteArray) (a b : Nat) (w : World) (h0 : a ≤ b) (h1 : b ≤ s.size) (h2 : b ≤ a + 4) (h3 : b ≤ 10) :
    Calls Tryz.prog 81 #[.string s, .int .i64 a, .int .i64 b] w (RetNum (seg (L s) a b) w) := by
  go_enter Tryz.func81, Tryz.ntmps81
  go_wp2_with fail
  go_loop [8, 9] (fun x i => ∃ k n : Nat, a ≤ k ∧ k ≤ b ∧ n < 10000 ∧ Hid ((seg (L s) a k).all digB = true) ∧ Hid (n = numF 0 (seg (L s) a k)) ∧ i = .int .i64 k ∧ x = .int .i64 n) (fun _ i => b - (intOf i).toNat)
  case atStart => exact ⟨a, 0, by omega, by omega, by omega, Lib.hid (by rw [seg_nil]; rfl), Lib.hid (by rw [seg_nil]; rfl), rfl, rfl⟩
  case round =>
    obtain ⟨k, n, hk, hkb, hn, HA, HN, rfl, rfl⟩ := hrel
    by_cases hlt : k < b
    · have hks : k < s.size := by omega
      have hb := s[k].toNat_lt
      have HS := Lib.hid (seg_snoc s a k hk hks)
      by_cases hd : 48 ≤ (s[k].toNat : Int) ∧ (s[k].toNat : Int) ≤ 57
      · obtain ⟨d1, d2⟩ := hd
        have HD : Hid (digB s[k] = true) := Lib.hid (decide_eq_true (by omega))
        have HM : Hid (10 * n + (s[k].toNat - 48) = numF 0 (seg (L s) a (k + 1))) := Lib.hid (by rw [HS.out, numF_append, numF_one, ← HN.out])
        have hall : Hid ((seg (L s) a (k + 1)).all digB = true) := Lib.hid (by rw [HS.out, List.all_append, HA.out]; simp [HD.out])
        have hm : 10 * n + (s[k].toNat - 48) < 10000 := by rw [HM.out]; exact numF_small _ hall.out 4 (Nat.le_trans (seg_len _ _ _) (by omega))
        go_wp2_with fail
        go_round
        case rel => exact ⟨k + 1, 10 * n + (s[k].toNat - 48), by omega, by omega, hm, hall, HM, by go_num, congrArg (Value.int .i64) (by omega)⟩
        case measure => simp [intOf]; omega
      · have hF : Hid ((seg (L s) a b).all digB = false) := Lib.hid (by
          rw [← Bool.not_eq_true]
          intro h
          have := seg_pre (L s) a (k + 1) b (by omega) h
          rw [HS.out, List.all_append, Bool.and_eq_true] at this
          have h5 := this.2
          rw [List.all_cons, Bool.and_eq_true] at h5
          have := of_decide_eq_true h5.1
          omega)
        have hc : (s[k].toNat : Int) < 48 ∨ (48 ≤ (s[k].toNat : Int) ∧ 57 < (s[k].toNat : Int)) := by omega
        clear hd
        rcases hc with c1 | ⟨c1, c2⟩
        all_goals
          go_wp2_with fail
          go_ret2
          exact RetNum.mk 0 false rfl hF.out.symm (fun h => by cases h) (by omega) rfl
    · obtain rfl : k = b := by omega
      go_wp2_with fail
      go_ret2
      exact RetNum.mk n true rfl HA.out.symm (fun _ => HN.out) hn rfl
def RetE (p : Nat × Nat) (w : World) (e : Ending) (w' : World) : Prop := e = .returned (.tuple #[.int .i64 p.1, .int .i64 p.2]) ∧ w = w'
theorem RetE.mk {p : Nat × Nat} {a b : Int} {w w' : World} (h1 : a = p.1) (h2 : b = p.2) (hb : w = w') : RetE p w (.returned (.tuple #[.int .i64 a, .int .i64 b])) w' := ⟨by rw [h1, h2], hb⟩
set_option maxHeartbeats 2000000 in
theorem rDay_any (y m d : Nat) (w : World) (hy : y ≤ 9999) (hm : m ≤ 9999) (hd : d ≤ 9999) :
    Calls Tryz.prog 82 #[.int .i64 y, .int .i64 m, .int .i64 d] w (RetE (dayOfE y m d) w) := by
  by_cases h1 : 2000 ≤ y ∧ y ≤ 2099 ∧ 1 ≤ m ∧ m ≤ 12 ∧ 1 ≤ d
  rotate_left
  · have HN := Lib.hid (dayOfE_no y m d (by omega))
    have hc : y < 2000 ∨ (2000 ≤ y ∧ 2099 < y) ∨ (2000 ≤ y ∧ y ≤ 2099 ∧ m < 1) ∨ (2000 ≤ y ∧ y ≤ 2099 ∧ 1 ≤ m ∧ 12 < m) ∨ (2000 ≤ y ∧ y ≤ 2099 ∧ 1 ≤ m ∧ m ≤ 12 ∧ d < 1) := by omega
    clear h1
    rcases hc with c1 | ⟨c1, c2⟩ | ⟨c1, c2, c3⟩ | ⟨c1, c2, c3, c4⟩ | ⟨c1, c2, c3, c4, c5⟩
    all_goals
      go_enter Tryz.func82, Tryz.ntmps82
      go_wp2_with fail
      go_ret2
      exact RetE.mk (by rw [HN.out]; rfl) (by rw [HN.out]; rfl) rfl
  obtain ⟨a1, a2, a3, a4, a5⟩ := h1
  go_enter Tryz.func82, Tryz.ntmps82
  go_wp2_with fail
  refine (rDays_any (y : Int) (m : Int) _ (by omega) (by omega) (by omega) (by omega)).mono ?_
  rintro e w' ⟨q, rfl, HQ, q0, q1, rfl⟩
  have hq : Hid (q = (lenM ((y - 2000) * 12 + (m - 1)) : Int)) := Lib.hid (by
    rw [HQ.out, show ((y : Int) - 2000).toNat = y - 2000 from by omega, show ((m : Int) - 1).toNat = m - 1 from by omega])
  clear HQ
  by_cases hle : (d : Int) ≤ q
  · have HE := Lib.hid (dayOfE_yes y m d ⟨a1, a2, a3, a4, a5, by have := hq.out; omega⟩)
    have ek : ((y : Int) - 2000) * 12 + (m : Int) - 1 = (((y - 2000) * 12 + (m - 1) : Nat) : Int) := by omega
    have hb := firstM_bd ((y - 2000) * 12 + (m - 1)) (by omega)
    have EK := Lib.hid ek
    clear ek
    go_wp2_with fail
    rw [EK.out]
    refine (rFirst_any _ _ (by omega)).mono ?_
    rintro e w' ⟨rfl, rfl⟩
    go_wp2_with fail
    go_ret2
    exact RetE.mk (by rw [HE.out]; omega) (by rw [HE.out]; rfl) rfl
  · have HN := Lib.hid (dayOfE_no y m d (by have := hq.out; omega))
    go_wp2_with fail
    go_ret2
    exact RetE.mk (by rw [HN.out]; rfl) (by rw [HN.out]; rfl) rfl
end Go.Proofs.YtibgibjmpcajkaaGreatDoor
