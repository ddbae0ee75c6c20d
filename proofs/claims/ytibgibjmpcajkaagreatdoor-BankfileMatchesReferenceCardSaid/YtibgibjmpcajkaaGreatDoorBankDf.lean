/- The walk of the law BankfileDiffers. -/
import Derived.Test.YtibgibjmpcajkaaGreatDoorBankSm
import Derived.Test.YtibgibjmpcajkaaGreatDoorBankPl
namespace Go.Proofs.YtibgibjmpcajkaaGreatDoor
open Go.RowKit BankS

theorem Tris.below {w w' : World} {v : Value} {l : List Tri} (h : Rd triC 3 w v l) (b : Below w.heap.size w w') : Rd triC 3 w' v l := Rd.below h b
set_option maxHeartbeats 8000000 in
set_option maxRecDepth 100000 in
theorem differs_walk (v1 v2 : Value) (l m : List Tri) (w : World) (hT : Tabs w) (h1 : Rd triC 3 w v1 l) (h2 : Rd triC 3 w v2 m) (k1 : ∀ x ∈ l, triOk x) (k2 : ∀ x ∈ m, triOk x) (n1 : l.length ≤ 9223372036854775807) (n2 : m.length ≤ 9223372036854775807) :
    Calls Tryz.prog 7 #[v1, v2] w (RetB true w) := by
  have H1 := Lib.hid h1
  have H2 := Lib.hid h2
  have K1 := Lib.hid k1
  have K2 := Lib.hid k2
  clear h1 h2 k1 k2
  have lp := pays_len l
  have mp := pays_len m
  have la := anss_len l
  have ma := anss_len m
  go_enter Tryz.func7, Tryz.ntmps7
  go_wp2_with fail
  refine (head_any _ hT).mono ?_
  rintro e w1 ⟨rfl, B1⟩
  have z1 := B1.out.size
  have T1 := hT.below B1.out
  go_wp2_with fail
  refine (payments_any v1 l _ T1 (H1.out.below B1.out) K1.out n1).mono ?_
  rintro e w2 ⟨p1, rfl, R2, b2⟩
  have B2 : Hid (Below w.heap.size w w2) := Lib.hid (B1.out.trans (b2.out.mono z1))
  clear b2
  have z2 := B2.out.size
  have T2 := hT.below B2.out
  go_wp2_with fail
  refine (Write_any p1 (pays l) _ T2 R2.out (pays_acc l) (by omega)).mono ?_
  rintro e w3 ⟨sa, rfl, SA, b3⟩
  rw [pays_write] at SA ⊢
  have B3 : Hid (Below w.heap.size w w3) := Lib.hid (B2.out.trans (b3.out.mono z2))
  clear b3 R2
  have z3 := B3.out.size
  have T3 := hT.below B3.out
  go_wp2_with fail
  refine (payments_any v2 m _ T3 (H2.out.below B3.out) K2.out n2).mono ?_
  rintro e w4 ⟨p2, rfl, R4, b4⟩
  have B4 : Hid (Below w.heap.size w w4) := Lib.hid (B3.out.trans (b4.out.mono z3))
  clear b4
  have z4 := B4.out.size
  have T4 := hT.below B4.out
  go_wp2_with fail
  refine (Write_any p2 (pays m) _ T4 R4.out (pays_acc m) (by omega)).mono ?_
  rintro e w5 ⟨sb, rfl, SB, b5⟩
  rw [pays_write] at SB ⊢
  have B5 : Hid (Below w.heap.size w w5) := Lib.hid (B4.out.trans (b5.out.mono z4))
  clear b5 R4
  have z5 := B5.out.size
  have T5 := hT.below B5.out
  go_wp2_with fail
  refine (answers_any v1 l _ T5 (H1.out.below B5.out) K1.out n1).mono ?_
  rintro e w6 ⟨a1, rfl, R6, b6⟩
  have B6 : Hid (Below w.heap.size w w6) := Lib.hid (B5.out.trans (b6.out.mono z5))
  clear b6
  have z6 := B6.out.size
  have T6 := hT.below B6.out
  go_wp2_with fail
  refine (WriteAnswers_any a1 (anss l) _ T6 R6.out (by omega)).mono ?_
  rintro e w7 ⟨sc, rfl, SC, b7⟩
  rw [anss_write] at SC ⊢
  have B7 : Hid (Below w.heap.size w w7) := Lib.hid (B6.out.trans (b7.out.mono z6))
  clear b7 R6
  have z7 := B7.out.size
  have T7 := hT.below B7.out
  go_wp2_with fail
  refine (answers_any v2 m _ T7 (H2.out.below B7.out) K2.out n2).mono ?_
  rintro e w8 ⟨a2, rfl, R8, b8⟩
  have B8 : Hid (Below w.heap.size w w8) := Lib.hid (B7.out.trans (b8.out.mono z7))
  clear b8
  have z8 := B8.out.size
  have T8 := hT.below B8.out
  go_wp2_with fail
  refine (WriteAnswers_any a2 (anss m) _ T8 R8.out (by omega)).mono ?_
  rintro e w9 ⟨sd, rfl, SD, b9⟩
  rw [anss_write] at SD ⊢
  have B9 : Hid (Below w.heap.size w w9) := Lib.hid (B8.out.trans (b9.out.mono z8))
  clear b9 R8
  have z9 := B9.out.size
  have T9 := hT.below B9.out
  have hac : ¬ sa = sc := fun e => files_ne l l (by have h1 := SA.out; have h2 := SC.out; rw [e] at h1; exact h1.symm.trans h2)
  have hac1 := str_neq hac
  have hac2 : (sa.toList != sc.toList) = true := by simp only [bne, hac1]; rfl
  clear hac
  have hP : (sa = sb ∧ decide (pays l = pays m) = true) ∨ ((sa.toList == sb.toList) = false ∧ decide (pays l = pays m) = false) := by
    by_cases e : sa = sb
    · exact Or.inl ⟨e, decide_eq_true ((files_iff l m).1 (by have h1 := SA.out; have h2 := SB.out; rw [e] at h1; exact h1.symm.trans h2))⟩
    · exact Or.inr ⟨str_neq e, decide_eq_false (fun h => e (str_eq (SA.out.trans (((files_iff l m).2 h).trans SB.out.symm))))⟩
  have hQ : (sc = sd ∧ decide (anss l = anss m) = true) ∨ ((sc.toList == sd.toList) = false ∧ decide (anss l = anss m) = false) := by
    by_cases e : sc = sd
    · exact Or.inl ⟨e, decide_eq_true ((filesA_iff l m).1 (by have h1 := SC.out; have h2 := SD.out; rw [e] at h1; exact h1.symm.trans h2))⟩
    · exact Or.inr ⟨str_neq e, decide_eq_false (fun h => e (str_eq (SC.out.trans (((filesA_iff l m).2 h).trans SD.out.symm))))⟩
  clear SA SB SC SD
  rcases hP with ⟨rfl, hp⟩ | ⟨hs1, hp⟩
  all_goals
    have HP := Lib.hid hp
    clear hp
    rcases hQ with ⟨rfl, hq⟩ | ⟨hs2, hq⟩
    all_goals
      have HQ := Lib.hid hq
      clear hq
      go_wp2_with fail
      refine (payments_any v1 l _ T9 (H1.out.below B9.out) K1.out n1).mono ?_
      rintro e w10 ⟨p3, rfl, R10, b10⟩
      have B10 : Hid (Below w.heap.size w w10) := Lib.hid (B9.out.trans (b10.out.mono z9))
      clear b10
      have z10 := B10.out.size
      have T10 := hT.below B10.out
      go_wp2_with fail
      refine (payments_any v2 m _ T10 (H2.out.below B10.out) K2.out n2).mono ?_
      rintro e w11 ⟨p4, rfl, R11, b11⟩
      have R11a := Lib.hid (R10.out.below b11.out)
      have B11 : Hid (Below w.heap.size w w11) := Lib.hid (B10.out.trans (b11.out.mono z10))
      clear b11 R10
      have z11 := B11.out.size
      go_wp2_with fail
      refine (same_pay p3 p4 _ _ _ R11a.out R11.out (by omega) (by omega)).mono ?_
      rintro e w12 ⟨rfl, n12, rfl⟩
      rw [HP.out]
      have B12 : Hid (Below w.heap.size w (w11.drewN n12)) := Lib.hid (B11.out.trans ((below_drewN w11 n12).mono z11))
      have z12 := B12.out.size
      have T12 := hT.below B12.out
      clear R11a R11
      go_wp2_with fail
      refine (answers_any v1 l _ T12 (H1.out.below B12.out) K1.out n1).mono ?_
      rintro e w13 ⟨a3, rfl, R13, b13⟩
      have B13 : Hid (Below w.heap.size w w13) := Lib.hid (B12.out.trans (b13.out.mono z12))
      clear b13
      have z13 := B13.out.size
      have T13 := hT.below B13.out
      go_wp2_with fail
      refine (answers_any v2 m _ T13 (H2.out.below B13.out) K2.out n2).mono ?_
      rintro e w14 ⟨a4, rfl, R14, b14⟩
      have R14a := Lib.hid (R13.out.below b14.out)
      have B14 : Hid (Below w.heap.size w w14) := Lib.hid (B13.out.trans (b14.out.mono z13))
      clear b14 R13
      have z14 := B14.out.size
      go_wp2_with fail
      refine (same_ans a3 a4 _ _ _ R14a.out R14.out (by omega) (by omega)).mono ?_
      rintro e w15 ⟨rfl, n15, rfl⟩
      rw [HQ.out]
      have B15 : Hid (Below w.heap.size w (w14.drewN n15)) := Lib.hid (B14.out.trans ((below_drewN w14 n15).mono z14))
      clear R14a R14
      go_wp2_with fail
      go_ret
      exact RetB.mk rfl B15.out
end Go.Proofs.YtibgibjmpcajkaaGreatDoor
