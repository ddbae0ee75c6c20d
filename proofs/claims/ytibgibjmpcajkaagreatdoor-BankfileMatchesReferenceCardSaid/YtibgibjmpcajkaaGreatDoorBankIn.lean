/- The walk of the law BankfileInverse. -/
import Derived.Test.YtibgibjmpcajkaaGreatDoorBankDf
namespace Go.Proofs.YtibgibjmpcajkaaGreatDoor
open Go.RowKit BankS

theorem read_yes (w0 : World) (t : ByteArray) (l : List Pay) (hT : Tabs w0) (ht : t.size ≤ 4294967200) (h : readP (L t) = some l) :
    Calls Tryz.prog 13 #[.string t] w0 fun e w' => ∃ v, e = .returned (.tuple #[v, .int .i64 0]) ∧ Hid (Rd payC 4 w' v l) ∧ Hid (Below w0.heap.size w0 w') := by
  refine (Read_any w0 t hT ht).mono ?_
  rw [h]
  rintro e w' ⟨⟨v, rfl, hr⟩, hb⟩
  exact ⟨v, rfl, hr, hb⟩
theorem read_no (w0 : World) (t : ByteArray) (hT : Tabs w0) (ht : t.size ≤ 4294967200) (h : readP (L t) = none) :
    Calls Tryz.prog 13 #[.string t] w0 fun e w' => e = .returned (.tuple #[.slice none 0 0, .int .i64 12]) ∧ Hid (Below w0.heap.size w0 w') := by
  refine (Read_any w0 t hT ht).mono ?_
  rw [h]
  rintro e w' ⟨rfl, hb⟩
  exact ⟨rfl, hb⟩
theorem readA_yes (w0 : World) (t : ByteArray) (l : List Ans) (hT : Tabs w0) (ht : t.size ≤ 4294967200) (h : readA (L t) = some l) :
    Calls Tryz.prog 18 #[.string t] w0 fun e w' => ∃ v, e = .returned (.tuple #[v, .int .i64 0]) ∧ Hid (Rd ansC 5 w' v l) ∧ Hid (Below w0.heap.size w0 w') := by
  refine (ReadAnswers_any w0 t hT ht).mono ?_
  rw [h]
  rintro e w' ⟨⟨v, rfl, hr⟩, hb⟩
  exact ⟨v, rfl, hr, hb⟩
theorem readA_no (w0 : World) (t : ByteArray) (hT : Tabs w0) (ht : t.size ≤ 4294967200) (h : readA (L t) = none) :
    Calls Tryz.prog 18 #[.string t] w0 fun e w' => e = .returned (.tuple #[.slice none 0 0, .int .i64 12]) ∧ Hid (Below w0.heap.size w0 w') := by
  refine (ReadAnswers_any w0 t hT ht).mono ?_
  rw [h]
  rintro e w' ⟨rfl, hb⟩
  exact ⟨rfl, hb⟩
theorem fileP_noA (t : Bs) (l : List Pay) (h : readP t = some l) : readA t = none := by
  cases h2 : readA t with
  | none => rfl
  | some a => exact (kinds_apart l a t ((readP_iff _ _).1 h) ((readA_iff _ _).1 h2)).elim
theorem fileA_noP (t : Bs) (l : List Ans) (h : readA t = some l) : readP t = none := by
  cases h2 : readP t with
  | none => rfl
  | some a => exact (kinds_apart a l t ((readP_iff _ _).1 h2) ((readA_iff _ _).1 h)).elim
theorem accs_of (t : Bs) (l : List Pay) (h : readP t = some l) : l.length ≤ 400 ∧ ∀ p ∈ l, p.2.1.length ≤ 1000 := by
  have h1 := writeP_ok ((readP_iff _ _).1 h)
  refine ⟨h1.1, fun p hp => ?_⟩
  have := payOk_parts (List.all_eq_true.1 h1.2.1 p hp)
  have := isName_len _ this.2.1
  omega
theorem lenA_of (t : Bs) (l : List Ans) (h : readA t = some l) : l.length ≤ 400 := (writeA_ok ((readA_iff _ _).1 h)).1
theorem size_L (s : ByteArray) : s.size = (L s).length := Array.length_toList.symm
set_option maxHeartbeats 8000000 in
set_option maxRecDepth 100000 in
theorem inverse_walk (v1 : Value) (s : ByteArray) (l : List Tri) (w : World) (hT : Tabs w) (h1 : Rd triC 3 w v1 l) (hs : s.size ≤ maxLen) (k1 : ∀ x ∈ l, triOk x) (n1 : l.length ≤ 9223372036854775807) :
    Calls Tryz.prog 4 #[v1, .string s] w (RetB true w) := by
  unfold maxLen at hs
  have H1 := Lib.hid h1
  have K1 := Lib.hid k1
  clear h1 k1
  have lp := pays_len l
  have la := anss_len l
  go_enter Tryz.func4, Tryz.ntmps4
  go_wp2_with fail
  refine (head_any _ hT).mono ?_
  rintro e w1 ⟨rfl, B1⟩
  have z1 := B1.out.size
  have T1 := hT.below B1.out
  go_wp2_with fail
  refine (payments_any v1 l _ T1 (H1.out.below B1.out) K1.out n1).mono ?_
  rintro e w2 ⟨p1, rfl, RP, b2⟩
  have B2 : Hid (Below w.heap.size w w2) := Lib.hid (B1.out.trans (b2.out.mono z1))
  have z2 := B2.out.size
  have T2 := hT.below B2.out
  go_wp2_with fail
  refine (answers_any v1 l _ T2 (H1.out.below B2.out) K1.out n1).mono ?_
  rintro e w3 ⟨a1, rfl, RA, b3⟩
  have B3 : Hid (Below w.heap.size w w3) := Lib.hid (B2.out.trans (b3.out.mono z2))
  have z3 := B3.out.size
  have T3 := hT.below B3.out
  have RP2 := Lib.hid (RP.out.below b3.out)
  clear b2 b3 RP
  go_wp2_with fail
  refine (Write_any p1 (pays l) _ T3 RP2.out (pays_acc l) (by omega)).mono ?_
  rintro e w4 ⟨sa, rfl, SA, b4⟩
  have B4 : Hid (Below w.heap.size w w4) := Lib.hid (B3.out.trans (b4.out.mono z3))
  have z4 := B4.out.size
  have T4 := hT.below B4.out
  have RP3 := Lib.hid (RP2.out.below b4.out)
  have RA2 := Lib.hid (RA.out.below b4.out)
  clear RP2 RA b4
  rw [pays_write] at SA ⊢
  have sza : sa.size ≤ 100000 := by rw [size_L, SA.out]; exact fileP_len l
  have ra : Hid (readP (L sa) = some (pays l)) := Lib.hid (by rw [SA.out]; exact (readP_iff _ _).2 (pays_write l))
  have na : Hid (readA (L sa) = none) := Lib.hid (fileP_noA _ _ ra.out)
  clear SA
  go_wp2_with fail
  refine (WriteAnswers_any a1 (anss l) _ T4 RA2.out (by omega)).mono ?_
  rintro e w5 ⟨sc, rfl, SC, b5⟩
  have B5 : Hid (Below w.heap.size w w5) := Lib.hid (B4.out.trans (b5.out.mono z4))
  have z5 := B5.out.size
  have T5 := hT.below B5.out
  have RP4 := Lib.hid (RP3.out.below b5.out)
  have RA3 := Lib.hid (RA2.out.below b5.out)
  clear RP3 RA2 b5
  rw [anss_write] at SC ⊢
  have szc : sc.size ≤ 100000 := by rw [size_L, SC.out]; exact fileA_len l
  have rc : Hid (readA (L sc) = some (anss l)) := Lib.hid (by rw [SC.out]; exact (readA_iff _ _).2 (anss_write l))
  have nc : Hid (readP (L sc) = none) := Lib.hid (fileA_noP _ _ rc.out)
  clear SC
  go_wp2_with fail
  refine (read_yes _ sa _ T5 (by omega) ra.out).mono ?_
  rintro e w6 ⟨p2, rfl, RQ, b6⟩
  have B6 : Hid (Below w.heap.size w w6) := Lib.hid (B5.out.trans (b6.out.mono z5))
  have z6 := B6.out.size
  have T6 := hT.below B6.out
  have RP5 := Lib.hid (RP4.out.below b6.out)
  have RA4 := Lib.hid (RA3.out.below b6.out)
  clear RP4 RA3 b6 ra
  go_wp2_with fail
  refine (readA_yes _ sc _ T6 (by omega) rc.out).mono ?_
  rintro e w7 ⟨a2, rfl, RB, b7⟩
  have B7 : Hid (Below w.heap.size w w7) := Lib.hid (B6.out.trans (b7.out.mono z6))
  have z7 := B7.out.size
  have T7 := hT.below B7.out
  have RP6 := Lib.hid (RP5.out.below b7.out)
  have RA5 := Lib.hid (RA4.out.below b7.out)
  have RQ2 := Lib.hid (RQ.out.below b7.out)
  clear RP5 RA4 RQ b7 rc
  go_wp2_with fail
  refine (read_no _ sc T7 (by omega) nc.out).mono ?_
  rintro e w8 ⟨rfl, b8⟩
  have B8 : Hid (Below w.heap.size w w8) := Lib.hid (B7.out.trans (b8.out.mono z7))
  have z8 := B8.out.size
  have T8 := hT.below B8.out
  have RP7 := Lib.hid (RP6.out.below b8.out)
  have RA6 := Lib.hid (RA5.out.below b8.out)
  have RQ3 := Lib.hid (RQ2.out.below b8.out)
  have RB2 := Lib.hid (RB.out.below b8.out)
  clear RP6 RA5 RQ2 RB b8 nc
  go_wp2_with fail
  refine (readA_no _ sa T8 (by omega) na.out).mono ?_
  rintro e w9 ⟨rfl, b9⟩
  have B9 : Hid (Below w.heap.size w w9) := Lib.hid (B8.out.trans (b9.out.mono z8))
  have z9 := B9.out.size
  have T9 := hT.below B9.out
  have RP8 := Lib.hid (RP7.out.below b9.out)
  have RA7 := Lib.hid (RA6.out.below b9.out)
  have RQ4 := Lib.hid (RQ3.out.below b9.out)
  have RB3 := Lib.hid (RB2.out.below b9.out)
  clear RP7 RA6 RQ3 RB2 b9 na
  go_wp2_with fail
  refine (same_pay p2 p1 _ _ _ RQ4.out RP8.out (by omega) (by omega)).mono ?_
  rintro e w10 ⟨rfl, n10, rfl⟩
  rw [decide_eq_true (rfl : pays l = pays l)]
  have b10 := below_drewN w9 n10
  have RA8 := Lib.hid (RA7.out.below b10)
  have RB4 := Lib.hid (RB3.out.below b10)
  have B10 : Hid (Below w.heap.size w (w9.drewN n10)) := Lib.hid (B9.out.trans (b10.mono z9))
  clear b10 RA7 RB3 RQ4 RP8
  have z10 := B10.out.size
  go_wp2_with fail
  refine (same_ans a2 a1 _ _ _ RB4.out RA8.out (by omega) (by omega)).mono ?_
  rintro e w11 ⟨rfl, n11, rfl⟩
  rw [decide_eq_true (rfl : anss l = anss l)]
  have b11 := below_drewN (w9.drewN n10) n11
  have B11 : Hid (Below w.heap.size w ((w9.drewN n10).drewN n11)) := Lib.hid (B10.out.trans (b11.mono z10))
  clear b11 RA8 RB4
  have z11 := B11.out.size
  have T11 := hT.below B11.out
  generalize (w9.drewN n10).drewN n11 = u at B11 z11 T11 ⊢
  clear B1 B2 B3 B4 B5 B6 B7 B8 B9 B10 z1 z2 z3 z4 z5 z6 z7 z8 z9 z10 T1 T2 T3 T4 T5 T6 T7 T8 T9
  go_wp2_with fail
  have sx : (s.extract 0 (min (s.size : Int) 3000).toNat).size ≤ 3000 := by rw [ByteArray.size_extract]; omega
  generalize s.extract 0 (min (s.size : Int) 3000).toNat = x at sx ⊢
  cases hp : readP (L x) with
  | none =>
    have HP := Lib.hid hp
    clear hp
    refine (read_no _ x T11 (by omega) HP.out).mono ?_
    rintro e w12 ⟨rfl, b12⟩
    have B12 : Hid (Below w.heap.size w w12) := Lib.hid (B11.out.trans (b12.out.mono z11))
    have z12 := B12.out.size
    have T12 := hT.below B12.out
    cases ha : readA (L x) with
    | none =>
      have HA := Lib.hid ha
      clear ha
      go_wp2_with fail
      refine (readA_no _ x T12 (by omega) HA.out).mono ?_
      rintro e w13 ⟨rfl, b13⟩
      have B13 : Hid (Below w.heap.size w w13) := Lib.hid (B12.out.trans (b13.out.mono z12))
      go_wp2_with fail
      go_ret
      exact RetB.mk rfl B13.out
    | some m =>
      have HA := Lib.hid ha
      clear ha
      have lm := lenA_of _ _ HA.out
      go_wp2_with fail
      refine (readA_yes _ x m T12 (by omega) HA.out).mono ?_
      rintro e w13 ⟨a3, rfl, R13, b13⟩
      have B13 : Hid (Below w.heap.size w w13) := Lib.hid (B12.out.trans (b13.out.mono z12))
      have z13 := B13.out.size
      have T13 := hT.below B13.out
      go_wp2_with fail
      refine (WriteAnswers_any a3 m _ T13 R13.out (by omega)).mono ?_
      rw [(readA_iff _ _).1 HA.out]
      rintro e w14 ⟨se, rfl, SE, b14⟩
      obtain rfl : se = x := str_eq SE.out
      have B14 : Hid (Below w.heap.size w w14) := Lib.hid (B13.out.trans (b14.out.mono z13))
      go_wp2_with fail
      go_ret
      exact RetB.mk rfl B14.out
  | some m =>
    have HP := Lib.hid hp
    clear hp
    have NA := Lib.hid (fileP_noA _ _ HP.out)
    have lm := (accs_of _ _ HP.out).1
    refine (read_yes _ x m T11 (by omega) HP.out).mono ?_
    rintro e w12 ⟨p3, rfl, R12, b12⟩
    have B12 : Hid (Below w.heap.size w w12) := Lib.hid (B11.out.trans (b12.out.mono z11))
    have z12 := B12.out.size
    have T12 := hT.below B12.out
    go_wp2_with fail
    refine (readA_no _ x T12 (by omega) NA.out).mono ?_
    rintro e w13 ⟨rfl, b13⟩
    have R13 := Lib.hid (R12.out.below b13.out)
    have B13 : Hid (Below w.heap.size w w13) := Lib.hid (B12.out.trans (b13.out.mono z12))
    have z13 := B13.out.size
    have T13 := hT.below B13.out
    go_wp2_with fail
    refine (Write_any p3 m _ T13 R13.out (accs_of _ _ HP.out).2 (by omega)).mono ?_
    rw [(readP_iff _ _).1 HP.out]
    rintro e w14 ⟨se, rfl, SE, b14⟩
    obtain rfl : se = x := str_eq SE.out
    have B14 : Hid (Below w.heap.size w w14) := Lib.hid (B13.out.trans (b14.out.mono z13))
    go_wp2_with fail
    go_ret
    exact RetB.mk rfl B14.out
end Go.Proofs.YtibgibjmpcajkaaGreatDoor
