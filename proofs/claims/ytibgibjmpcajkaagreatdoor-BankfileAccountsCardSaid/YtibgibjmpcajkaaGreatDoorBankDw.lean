/- The walk of the law BankfileDamaged. -/
import Derived.Test.YtibgibjmpcajkaaGreatDoorBankDa
import Derived.OpenShut
namespace Go.Proofs.YtibgibjmpcajkaaGreatDoor
open Go.RowKit BankS
theorem u8_of {z : Int} (h0 : 0 ≤ z) (h1 : z ≤ 255) : ∃ c : UInt8, z = (c.toNat : Int) := ⟨UInt8.ofNat z.toNat, by rw [UInt8.toNat_ofNat']; omega⟩
theorem str_eqb {z s : ByteArray} (h : z = s) : (z.toList == s.toList) = true := by rw [h]; exact beq_self_eq_true _
set_option maxHeartbeats 8000000 in
set_option maxRecDepth 100000 in
theorem damaged_walk (v1 : Value) (wy pl cz : Int) (l : List Tri) (w : World) (hT : Tabs w) (h1 : Rd triC 3 w v1 l) (hy : (Lit.int .i64 wy).wf = true) (hp : (Lit.int .i64 pl).wf = true) (hc : (Lit.int .u8 cz).wf = true) (k1 : ∀ x ∈ l, triOk x) (n1 : l.length ≤ 9223372036854775807) :
    Calls Tryz.prog 5 #[v1, .int .i64 wy, .int .i64 pl, .int .u8 cz] w (RetB true w) := by
  obtain ⟨y0, y1⟩ := bounds_i64 hy
  obtain ⟨p0, p1⟩ := bounds_i64 hp
  obtain ⟨c0, c1⟩ := bounds_u8 hc
  obtain ⟨c, rfl⟩ := u8_of c0 c1
  have H1 := Lib.hid h1
  have K1 := Lib.hid k1
  clear h1 k1 hy hp hc c0 c1
  have lp := pays_len l
  have la := anss_len l
  go_enter Tryz.func5, Tryz.ntmps5
  go_wp2_with fail
  refine (head_any _ hT).mono ?_
  rintro e w1 ⟨rfl, B1⟩
  have z1 := B1.out.size
  have T1 := hT.below B1.out
  go_wp2_with fail
  refine (payments_any v1 l _ T1 (H1.out.below B1.out) K1.out n1).mono ?_
  rintro e w2 ⟨pv, rfl, RP, b2⟩
  have B2 : Hid (Below w.heap.size w w2) := Lib.hid (B1.out.trans (b2.out.mono z1))
  have z2 := B2.out.size
  have T2 := hT.below B2.out
  clear b2 T1 B1 z1
  go_wp2_with fail
  refine (Write_any pv (pays l) _ T2 RP.out (pays_acc l) (by omega)).mono ?_
  rintro e w3 ⟨sa, rfl, SA, b3⟩
  have B3 : Hid (Below w.heap.size w w3) := Lib.hid (B2.out.trans (b3.out.mono z2))
  have z3 := B3.out.size
  have T3 := hT.below B3.out
  clear b3 T2 B2 z2
  rw [pays_write] at SA ⊢
  have sza : sa.size ≤ 100000 := by rw [size_L, SA.out]; exact fileP_len l
  have ra : Hid (readP (L sa) = some (pays l)) := Lib.hid (by rw [SA.out]; exact (readP_iff _ _).2 (pays_write l))
  have wa : Hid (∃ l, writeP l = (L sa, 0)) := Lib.hid ⟨_, (readP_iff _ _).1 ra.out⟩
  clear SA RP
  go_wp2_with fail
  refine (answers_any v1 l _ T3 (H1.out.below B3.out) K1.out n1).mono ?_
  rintro e w4 ⟨a1, rfl, RA, b4⟩
  have B4 : Hid (Below w.heap.size w w4) := Lib.hid (B3.out.trans (b4.out.mono z3))
  have z4 := B4.out.size
  have T4 := hT.below B4.out
  clear b4 T3 B3 z3
  go_wp2_with fail
  refine (WriteAnswers_any a1 (anss l) _ T4 RA.out (by omega)).mono ?_
  rintro e w5 ⟨sc, rfl, SC, b5⟩
  have B5 : Hid (Below w.heap.size w w5) := Lib.hid (B4.out.trans (b5.out.mono z4))
  have z5 := B5.out.size
  have T5 := hT.below B5.out
  clear b5 T4 B4 z4
  rw [anss_write] at SC ⊢
  have szc : sc.size ≤ 100000 := by rw [size_L, SC.out]; exact fileA_len l
  have rc : Hid (readA (L sc) = some (anss l)) := Lib.hid (by rw [SC.out]; exact (readA_iff _ _).2 (anss_write l))
  have wc : Hid (∃ l, writeA l = (L sc, 0)) := Lib.hid ⟨_, (readA_iff _ _).1 rc.out⟩
  clear SC RA
  go_wp2_with fail
  refine (damaged_any sa wy pl c _ (by omega) y0 y1 p0 p1).mono ?_
  rintro e w6 ⟨u, rfl, DU, zu, b6⟩
  have B6 : Hid (Below w.heap.size w w6) := Lib.hid (B5.out.trans (b6.out.mono z5))
  have z6 := B6.out.size
  have T6 := hT.below B6.out
  clear b6 T5 B5 z5
  go_wp2_with fail
  refine (damaged_any sc wy pl c _ (by omega) y0 y1 p0 p1).mono ?_
  rintro e w7 ⟨v, rfl, DV, zv, b7⟩
  have B7 : Hid (Below w.heap.size w w7) := Lib.hid (B6.out.trans (b7.out.mono z6))
  have z7 := B7.out.size
  have T7 := hT.below B7.out
  clear b7 T6 B6 z6
  have xu : Hid (readA (L u) = none) := Lib.hid (dmg_PA wa.out DU.out.dmg)
  have xv : Hid (readP (L v) = none) := Lib.hid (dmg_AP wc.out DV.out.dmg)
  have nu : Hid (u ≠ sa → readP (L u) = none) := Lib.hid (fun h => by
    cases hx : readP (L u) with
    | none => rfl
    | some m => exact (h (str_eq (dmg_PP wa.out DU.out.dmg m hx))).elim)
  have nv : Hid (v ≠ sc → readA (L v) = none) := Lib.hid (fun h => by
    cases hx : readA (L v) with
    | none => rfl
    | some m => exact (h (str_eq (dmg_AA wc.out DV.out.dmg m hx))).elim)
  clear DU DV wa wc
  by_cases hu : u = sa
  · subst hu
    by_cases hv : v = sc
    · subst hv
      go_wp2_with fail
      refine (read_yes _ u _ T7 (by omega) ra.out).mono ?_
      rintro e w8 ⟨p2, rfl, RQ, b8⟩
      have B8 : Hid (Below w.heap.size w w8) := Lib.hid (B7.out.trans (b8.out.mono z7))
      have z8 := B8.out.size
      have T8 := hT.below B8.out
      clear b8 T7 B7 z7
      clear RQ
      go_wp2_with fail
      refine (readA_yes _ v _ T8 (by omega) rc.out).mono ?_
      rintro e w9 ⟨a2, rfl, RB, b9⟩
      have B9 : Hid (Below w.heap.size w w9) := Lib.hid (B8.out.trans (b9.out.mono z8))
      have z9 := B9.out.size
      have T9 := hT.below B9.out
      clear b9 T8 B8 z8
      clear RB
      go_wp2_with fail
      refine (readA_no _ u T9 (by omega) xu.out).mono ?_
      rintro e w10 ⟨rfl, b10⟩
      have B10 : Hid (Below w.heap.size w w10) := Lib.hid (B9.out.trans (b10.out.mono z9))
      have z10 := B10.out.size
      have T10 := hT.below B10.out
      clear b10 T9 B9 z9
      go_wp2_with fail
      refine (read_no _ v T10 (by omega) xv.out).mono ?_
      rintro e w11 ⟨rfl, b11⟩
      have B11 : Hid (Below w.heap.size w w11) := Lib.hid (B10.out.trans (b11.out.mono z10))
      have z11 := B11.out.size
      have T11 := hT.below B11.out
      clear b11 T10 B10 z10
      go_wp2_with fail
      go_ret
      exact RetB.mk rfl B11.out
    · have HV := Lib.hid hv
      clear hv
      go_wp2_with fail
      refine (read_yes _ u _ T7 (by omega) ra.out).mono ?_
      rintro e w8 ⟨p2, rfl, RQ, b8⟩
      have B8 : Hid (Below w.heap.size w w8) := Lib.hid (B7.out.trans (b8.out.mono z7))
      have z8 := B8.out.size
      have T8 := hT.below B8.out
      clear b8 T7 B7 z7
      clear RQ
      go_wp2_with fail
      refine (readA_no _ v T8 (by omega) (nv.out HV.out)).mono ?_
      rintro e w9 ⟨rfl, b9⟩
      have B9 : Hid (Below w.heap.size w w9) := Lib.hid (B8.out.trans (b9.out.mono z8))
      have z9 := B9.out.size
      have T9 := hT.below B9.out
      clear b9 T8 B8 z8
      go_wp2_with fail
      refine (readA_no _ u T9 (by omega) xu.out).mono ?_
      rintro e w10 ⟨rfl, b10⟩
      have B10 : Hid (Below w.heap.size w w10) := Lib.hid (B9.out.trans (b10.out.mono z9))
      have z10 := B10.out.size
      have T10 := hT.below B10.out
      clear b10 T9 B9 z9
      go_wp2_with fail
      refine (read_no _ v T10 (by omega) xv.out).mono ?_
      rintro e w11 ⟨rfl, b11⟩
      have B11 : Hid (Below w.heap.size w w11) := Lib.hid (B10.out.trans (b11.out.mono z10))
      have z11 := B11.out.size
      have T11 := hT.below B11.out
      clear b11 T10 B10 z10
      have ev := str_neq HV.out
      go_wp2_with fail
      go_ret
      exact RetB.mk rfl B11.out
  · have HU := Lib.hid hu
    clear hu
    by_cases hv : v = sc
    · subst hv
      go_wp2_with fail
      refine (read_no _ u T7 (by omega) (nu.out HU.out)).mono ?_
      rintro e w8 ⟨rfl, b8⟩
      have B8 : Hid (Below w.heap.size w w8) := Lib.hid (B7.out.trans (b8.out.mono z7))
      have z8 := B8.out.size
      have T8 := hT.below B8.out
      clear b8 T7 B7 z7
      go_wp2_with fail
      refine (readA_yes _ v _ T8 (by omega) rc.out).mono ?_
      rintro e w9 ⟨a2, rfl, RB, b9⟩
      have B9 : Hid (Below w.heap.size w w9) := Lib.hid (B8.out.trans (b9.out.mono z8))
      have z9 := B9.out.size
      have T9 := hT.below B9.out
      clear b9 T8 B8 z8
      clear RB
      go_wp2_with fail
      refine (readA_no _ u T9 (by omega) xu.out).mono ?_
      rintro e w10 ⟨rfl, b10⟩
      have B10 : Hid (Below w.heap.size w w10) := Lib.hid (B9.out.trans (b10.out.mono z9))
      have z10 := B10.out.size
      have T10 := hT.below B10.out
      clear b10 T9 B9 z9
      go_wp2_with fail
      refine (read_no _ v T10 (by omega) xv.out).mono ?_
      rintro e w11 ⟨rfl, b11⟩
      have B11 : Hid (Below w.heap.size w w11) := Lib.hid (B10.out.trans (b11.out.mono z10))
      have z11 := B11.out.size
      have T11 := hT.below B11.out
      clear b11 T10 B10 z10
      have eu := str_neq HU.out
      go_wp2_with fail
      go_ret
      exact RetB.mk rfl B11.out
    · have HV := Lib.hid hv
      clear hv
      go_wp2_with fail
      refine (read_no _ u T7 (by omega) (nu.out HU.out)).mono ?_
      rintro e w8 ⟨rfl, b8⟩
      have B8 : Hid (Below w.heap.size w w8) := Lib.hid (B7.out.trans (b8.out.mono z7))
      have z8 := B8.out.size
      have T8 := hT.below B8.out
      clear b8 T7 B7 z7
      go_wp2_with fail
      refine (readA_no _ v T8 (by omega) (nv.out HV.out)).mono ?_
      rintro e w9 ⟨rfl, b9⟩
      have B9 : Hid (Below w.heap.size w w9) := Lib.hid (B8.out.trans (b9.out.mono z8))
      have z9 := B9.out.size
      have T9 := hT.below B9.out
      clear b9 T8 B8 z8
      go_wp2_with fail
      refine (readA_no _ u T9 (by omega) xu.out).mono ?_
      rintro e w10 ⟨rfl, b10⟩
      have B10 : Hid (Below w.heap.size w w10) := Lib.hid (B9.out.trans (b10.out.mono z9))
      have z10 := B10.out.size
      have T10 := hT.below B10.out
      clear b10 T9 B9 z9
      go_wp2_with fail
      refine (read_no _ v T10 (by omega) xv.out).mono ?_
      rintro e w11 ⟨rfl, b11⟩
      have B11 : Hid (Below w.heap.size w w11) := Lib.hid (B10.out.trans (b11.out.mono z10))
      have z11 := B11.out.size
      have T11 := hT.below B11.out
      clear b11 T10 B10 z10
      have eu := str_neq HU.out
      have ev := str_neq HV.out
      go_wp2_with fail
      go_ret
      exact RetB.mk rfl B11.out
end Go.Proofs.YtibgibjmpcajkaaGreatDoor
