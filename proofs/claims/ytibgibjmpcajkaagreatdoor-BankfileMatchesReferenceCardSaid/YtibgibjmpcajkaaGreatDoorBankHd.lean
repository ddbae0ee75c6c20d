/- The walk of the law's head. -/
import Derived.Test.YtibgibjmpcajkaaGreatDoorBankGa
namespace Go.Proofs.YtibgibjmpcajkaaGreatDoor
open Go.RowKit BankS

theorem rdn_new {α : Type} (fc : α → List Value) (c : Nat) (hf : ∀ a, (fc a).length = c) (w : World) (xs : List α) (T : TypeId) (cs : Array Value) (hcs : cs = (cellsL fc xs).toArray) (n : Nat) (hn : n = xs.length) : Rd fc c (w.alloc (.cells cs T)) (.slice (some ⟨w.heap.size, 0, none⟩) n n) xs := by
  subst hcs hn
  refine ⟨_, _, rfl, Nat.le_refl _, cellsL_len fc c hf xs, fun _ => ⟨w.heap.size, 0, rfl, by simp, fun i u hi => ?_⟩⟩
  rw [Nat.zero_add, cell_row (heap_new w _ T)]
  simpa using hi
def F1 : Bs := [112, 97, 121, 109, 101, 110, 116, 115, 32, 49, 10, 55, 32, 97, 45, 49, 48, 32, 49, 50, 53, 48, 32, 50, 48, 48, 48, 45, 48, 49, 45, 48, 49, 10, 115, 117, 109, 32, 49, 50, 53, 48, 32, 99, 104, 101, 99, 107, 32, 48, 48, 48, 10]
def F2 : Bs := [97, 110, 115, 119, 101, 114, 115, 32, 49, 10, 51, 32, 55, 32, 112, 97, 105, 100, 32, 49, 50, 53, 48, 32, 50, 48, 48, 48, 45, 48, 49, 45, 48, 50, 10, 115, 117, 109, 32, 49, 50, 53, 48, 32, 99, 104, 101, 99, 107, 32, 49, 48, 49, 10]
theorem head1 : writeP [(7, [97], 1250, 0)] = (F1, 0) := by decide +kernel
theorem head2 : writeA [(3, 7, 2, 1250, 1)] = (F2, 0) := by decide +kernel
theorem head3 : writeP [(0, [97], 0, 0)] = ([], 1) := by decide +kernel
theorem head4 : readP [] = none := by decide +kernel
theorem head5 : readP F1 = some [(7, [97], 1250, 0)] := (readP_iff _ _).2 head1
theorem head6 : readA F2 = some [(3, 7, 2, 1250, 1)] := (readA_iff _ _).2 head2
theorem acc1 : accB [97, 45, 49, 48] = true := by decide +kernel
theorem acc2 : accB [98, 49, 45, 50, 48] = true := by decide +kernel
theorem acc3 : accB [97, 45, 49, 49] = false := by decide +kernel
theorem acc4 : accB [65, 45, 49, 48] = false := by decide +kernel
theorem acc5 : accB [97] = false := by decide +kernel
theorem rd_pay1 {w : World} {v : Value} {x : Pay} (h : Rd payC 4 w v [x]) : ∃ g o cap, v = .slice (some ⟨g, o, none⟩) 1 cap ∧ w.cell? ⟨g, o + 2, none⟩ = some (.int .i64 x.2.2.1) := by
  have h' := h
  obtain ⟨A, cap, rfl, _, _, _⟩ := h
  obtain ⟨g, o, rfl, _, _, _, c2, _⟩ := rd_pay h' 0 x rfl
  exact ⟨g, o, cap, rfl, by simpa using c2⟩
theorem rd_ans1 {w : World} {v : Value} {x : Ans} (h : Rd ansC 5 w v [x]) : ∃ g o cap, v = .slice (some ⟨g, o, none⟩) 1 cap ∧ w.cell? ⟨g, o + 2, none⟩ = some (.int .i64 x.2.2.1) := by
  have h' := h
  obtain ⟨A, cap, rfl, _, _, _⟩ := h
  obtain ⟨g, o, rfl, _, _, _, c2, _⟩ := rd_ans h' 0 x rfl
  exact ⟨g, o, cap, rfl, by simpa using c2⟩
set_option maxHeartbeats 8000000 in
set_option maxRecDepth 100000 in
theorem head_any (w : World) (hT : Tabs w) : Calls Tryz.prog 9 #[] w (RetB true w) := by
  go_enter Tryz.func9, Tryz.ntmps9
  go_wp2_with fail
  refine (Write_any _ [(7, [97], 1250, 0)] _ (hT.alloc _) (rdn_new payC 4 (fun _ => rfl) w [(7, [97], 1250, 0)] _ _ rfl 1 rfl) (by simp) (by simp)).mono ?_
  rintro e w1 ⟨s, rfl, HS, b1⟩
  have B1 : Hid (Below w.heap.size w w1) := Lib.hid (((Below.refl _ _).alloc (Nat.le_refl _) _).trans (b1.out.mono (by simp)))
  clear b1
  rw [head1] at HS ⊢
  have hs1 := B1.out.size
  have hT1 := hT.below B1.out
  go_wp2_with fail
  refine (WriteAnswers_any _ [(3, 7, 2, 1250, 1)] _ (hT1.alloc _) (rdn_new ansC 5 (fun _ => rfl) w1 [(3, 7, 2, 1250, 1)] _ _ rfl 1 rfl) (by simp)).mono ?_
  rintro e w2 ⟨t, rfl, HT, b2⟩
  have B2 : Hid (Below w.heap.size w w2) := Lib.hid ((B1.out.alloc hs1 _).trans (b2.out.mono (by simp; omega)))
  clear b2
  rw [head2] at HT ⊢
  have hs2 := B2.out.size
  have hT2 := hT.below B2.out
  go_wp2_with fail
  refine (Write_any _ [(0, [97], 0, 0)] _ (hT2.alloc _) (rdn_new payC 4 (fun _ => rfl) w2 [(0, [97], 0, 0)] _ _ rfl 1 rfl) (by simp) (by simp)).mono ?_
  rintro e w3 ⟨u, rfl, _, b3⟩
  have B3 : Hid (Below w.heap.size w w3) := Lib.hid ((B2.out.alloc hs2 _).trans (b3.out.mono (by simp; omega)))
  clear b3
  rw [head3]
  have hs3 := B3.out.size
  have hT3 := hT.below B3.out
  go_wp2_with fail
  refine (Read_any _ { data := #[] } hT3 (by decide)).mono ?_
  intro e w4 hpost
  rw [show readP (L { data := #[] }) = none from head4] at hpost
  obtain ⟨rfl, b4⟩ := hpost
  have B4 : Hid (Below w.heap.size w w4) := Lib.hid (B3.out.trans (b4.mono hs3))
  clear b4
  have hs4 := B4.out.size
  have hT4 := hT.below B4.out
  have hsz : s.size = 53 := by rw [← L_len, HS.out]; rfl
  have htz : t.size = 54 := by rw [← L_len, HT.out]; rfl
  have q1 : s.size ≤ 4294967200 := by omega
  have q2 : t.size ≤ 4294967200 := by omega
  have HSZ := Lib.hid hsz
  have HTZ := Lib.hid htz
  clear hsz htz
  go_wp2_with fail
  refine (Read_any _ s hT4 q1).mono ?_
  intro e w5 hpost
  rw [show readP (L s) = _ from (congrArg readP HS.out).trans head5] at hpost
  obtain ⟨⟨v, rfl, hv⟩, b5⟩ := hpost
  have B5 : Hid (Below w.heap.size w w5) := Lib.hid (B4.out.trans (b5.mono hs4))
  clear b5
  have hs5 := B5.out.size
  have hT5 := hT.below B5.out
  have HV := Lib.hid hv
  clear hv
  go_wp2_with fail
  refine (ReadAnswers_any _ t hT5 q2).mono ?_
  intro e w6 hpost
  rw [show readA (L t) = _ from (congrArg readA HT.out).trans head6] at hpost
  obtain ⟨⟨v2, rfl, hv2⟩, b6⟩ := hpost
  have B6 : Hid (Below w.heap.size w w6) := Lib.hid (B5.out.trans (b6.mono hs5))
  have hv6 := HV.out.below b6
  clear b6
  have hs6 := B6.out.size
  have hT6 := hT.below B6.out
  obtain ⟨g1, o1, cap1, rfl, d1⟩ := rd_pay1 hv6
  obtain ⟨g2, o2, cap2, rfl, d2⟩ := rd_ans1 hv2
  clear hv6 hv2 HV
  have k1 : ((s.size : Int) != 53) = false := by rw [bne_eq_false_iff_eq, HSZ.out]; rfl
  have k2 : ((t.size : Int) != 54) = false := by rw [bne_eq_false_iff_eq, HTZ.out]; rfl
  have k3 : 49 ≤ s.size := by rw [HSZ.out]; omega
  have k4 : 50 ≤ t.size := by rw [HTZ.out]; omega
  have k5 : ((s.extract 0 49).toList == [112, 97, 121, 109, 101, 110, 116, 115, 32, 49, 10, 55, 32, 97, 45, 49, 48, 32, 49, 50, 53, 48, 32, 50, 48, 48, 48, 45, 48, 49, 45, 48, 49, 10, 115, 117, 109, 32, 49, 50, 53, 48, 32, 99, 104, 101, 99, 107, 32]) = true := by
    rw [beq_iff_eq, ByteArray.toList_eq, Lib.extract_from_zero]
    show (L s).take _ = _
    rw [HS.out]; rfl
  have k6 : ((t.extract 0 50).toList == [97, 110, 115, 119, 101, 114, 115, 32, 49, 10, 51, 32, 55, 32, 112, 97, 105, 100, 32, 49, 50, 53, 48, 32, 50, 48, 48, 48, 45, 48, 49, 45, 48, 50, 10, 115, 117, 109, 32, 49, 50, 53, 48, 32, 99, 104, 101, 99, 107, 32]) = true := by
    rw [beq_iff_eq, ByteArray.toList_eq, Lib.extract_from_zero]
    show (L t).take _ = _
    rw [HT.out]; rfl
  go_wp2_with fail
  refine (Account_any { data := #[97, 45, 49, 48] } _ hT6 (by decide)).mono ?_
  rintro e w7 ⟨rfl, b7⟩
  rw [show accB (L { data := #[97, 45, 49, 48] }) = _ from acc1]
  have B7 : Hid (Below w.heap.size w w7) := Lib.hid (B6.out.trans (b7.out.mono hs6))
  clear b7
  have hs7 := B7.out.size
  have hT7 := hT.below B7.out
  go_wp2_with fail
  refine (Account_any { data := #[98, 49, 45, 50, 48] } _ hT7 (by decide)).mono ?_
  rintro e w8 ⟨rfl, b8⟩
  rw [show accB (L { data := #[98, 49, 45, 50, 48] }) = _ from acc2]
  have B8 : Hid (Below w.heap.size w w8) := Lib.hid (B7.out.trans (b8.out.mono hs7))
  clear b8
  have hs8 := B8.out.size
  have hT8 := hT.below B8.out
  go_wp2_with fail
  refine (Account_any { data := #[97, 45, 49, 49] } _ hT8 (by decide)).mono ?_
  rintro e w9 ⟨rfl, b9⟩
  rw [show accB (L { data := #[97, 45, 49, 49] }) = _ from acc3]
  have B9 : Hid (Below w.heap.size w w9) := Lib.hid (B8.out.trans (b9.out.mono hs8))
  clear b9
  have hs9 := B9.out.size
  have hT9 := hT.below B9.out
  go_wp2_with fail
  refine (Account_any { data := #[65, 45, 49, 48] } _ hT9 (by decide)).mono ?_
  rintro e w10 ⟨rfl, b10⟩
  rw [show accB (L { data := #[65, 45, 49, 48] }) = _ from acc4]
  have B10 : Hid (Below w.heap.size w w10) := Lib.hid (B9.out.trans (b10.out.mono hs9))
  clear b10
  have hs10 := B10.out.size
  have hT10 := hT.below B10.out
  go_wp2_with fail
  refine (Account_any { data := #[97] } _ hT10 (by decide)).mono ?_
  rintro e w11 ⟨rfl, b11⟩
  rw [show accB (L { data := #[97] }) = _ from acc5]
  have B11 : Hid (Below w.heap.size w w11) := Lib.hid (B10.out.trans (b11.out.mono hs10))
  clear b11
  have hs11 := B11.out.size
  have hT11 := hT.below B11.out
  go_wp2_with fail
  go_ret
  exact RetB.mk rfl B11.out
end Go.Proofs.YtibgibjmpcajkaaGreatDoor
