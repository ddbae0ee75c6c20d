/- The walk of the law BankfileMatchesReference. -/
import Derived.Test.YtibgibjmpcajkaaGreatDoorBankMr
import Derived.Test.YtibgibjmpcajkaaGreatDoorBankIn
namespace Go.Proofs.YtibgibjmpcajkaaGreatDoor
open Go.RowKit BankS
theorem Rd.take {α : Type} {f : α → List Value} {c : Nat} (hf : ∀ a, (f a).length = c) {w : World} {A : Option Addr} {n cap : Nat} {l : List α} (h : Rd f c w (.slice A n cap) l) (m : Nat) (hm : m ≤ l.length) : Rd f c w (.slice A m cap) (l.take m) := by
  obtain ⟨A', cap', e, hc, hl, hcell⟩ := h
  injection e with e1 e2 e3
  subst e1 e3
  have hlm : (l.take m).length = m := by rw [List.length_take, Nat.min_eq_left hm]
  refine ⟨A, cap, by rw [hlm], by rw [hlm]; omega, by rw [cellsL_len f c hf], fun h0 => ?_⟩
  rw [hlm] at h0
  obtain ⟨g, o, rfl, hg, hx⟩ := hcell (by omega)
  refine ⟨g, o, rfl, hg, fun i u hi => hx i u ?_⟩
  have e : cellsL f l = cellsL f (l.take m) ++ cellsL f (l.drop m) := by simp only [cellsL]; rw [← List.flatMap_append, List.take_append_drop]
  rw [e, List.getElem?_append_left (List.getElem?_eq_some_iff.1 hi).1]; exact hi
theorem Rd.len {α : Type} {f : α → List Value} {c : Nat} {w : World} {v : Value} {l : List α} (h : Rd f c w v l) : ∃ A cap, v = .slice A l.length cap ∧ l.length ≤ cap := by
  obtain ⟨A, cap, rfl, hc, _⟩ := h
  exact ⟨A, cap, rfl, hc⟩
def errO {α : Type} (o : Option α) : Int := match o with
  | some _ => 0
  | none => 12
theorem rd_none {α : Type} (f : α → List Value) (c : Nat) (w : World) : Rd f c w (.slice none 0 0) [] := ⟨none, 0, rfl, by simp, by simp [cellsL], fun h => by simp at h⟩
theorem writeP_err (l : List Pay) (h : (writeP l).2 ≠ 0) : (writeP l).1 = [] := by
  unfold writeP at h ⊢
  split
  · rfl
  · split
    · rfl
    · split
      · rfl
      · rename_i h1 h2 h3; rw [if_neg h1, if_neg h2, if_neg h3] at h; exact (h rfl).elim
theorem writeA_err (l : List Ans) (h : (writeA l).2 ≠ 0) : (writeA l).1 = [] := by
  unfold writeA at h ⊢
  split
  · rfl
  · split
    · rfl
    · split
      · rfl
      · rename_i h1 h2 h3; rw [if_neg h1, if_neg h2, if_neg h3] at h; exact (h rfl).elim
theorem readA_nil : readA [] = none := by decide +kernel
def RetU {α : Type} (f : α → List Value) (c : Nat) (r : Option (List α)) (w : World) (e : Ending) (w' : World) : Prop := ∃ (v : Value) (k : Int), e = .returned (.tuple #[v, .int .i64 k]) ∧ Hid (k = errO r) ∧ Hid (Rd f c w' v (r.getD [])) ∧ Hid (Below w.heap.size w w')
theorem RetP.u {r : Option (List Pay)} {w : World} {e : Ending} {w' : World} (h : RetP r w e w') : RetU payC 4 r w e w' := by
  cases r with
  | some l => obtain ⟨⟨v, he, hr⟩, hb⟩ := h; exact ⟨v, 0, he, Lib.hid rfl, Lib.hid hr, Lib.hid hb⟩
  | none => obtain ⟨he, hb⟩ := h; exact ⟨_, 12, he, Lib.hid rfl, Lib.hid (rd_none _ _ _), Lib.hid hb⟩
theorem RetN.u {r : Option (List Ans)} {w : World} {e : Ending} {w' : World} (h : RetN r w e w') : RetU ansC 5 r w e w' := by
  cases r with
  | some l => obtain ⟨⟨v, he, hr⟩, hb⟩ := h; exact ⟨v, 0, he, Lib.hid rfl, Lib.hid hr, Lib.hid hb⟩
  | none => obtain ⟨he, hb⟩ := h; exact ⟨_, 12, he, Lib.hid rfl, Lib.hid (rd_none _ _ _), Lib.hid hb⟩
theorem lenO (t : Bs) : ((readP t).getD []).length ≤ 1000000 := by
  cases h : readP t with
  | none => simp
  | some l => have := (accs_of t l h).1; show l.length ≤ _; omega
theorem lenOA (t : Bs) : ((readA t).getD []).length ≤ 1000000 := by
  cases h : readA t with
  | none => simp
  | some l => have := lenA_of t l h; show l.length ≤ _; omega
set_option maxHeartbeats 16000000 in
set_option maxRecDepth 100000 in
theorem matches_walk (v0 v1 : Value) (s : ByteArray) (v3 : Value) (lp : List Pay) (la : List Ans) (l : List Tri) (w : World) (hT : Tabs w) (r0 : Rd payC 4 w v0 lp) (r1 : Rd ansC 5 w v1 la) (hs : s.size ≤ maxLen) (r3 : Rd triC 3 w v3 l) (_k0 : ∀ x ∈ lp, True) (_k1 : ∀ x ∈ la, True) (k3 : ∀ x ∈ l, triOk x) (n0 : lp.length ≤ 9223372036854775807) (n1 : la.length ≤ 9223372036854775807) (n3 : l.length ≤ 9223372036854775807) :
    Calls Tryz.prog 3 #[v0, v1, .string s, v3] w (RetB true w) := by
  unfold maxLen at hs
  have H0 := Lib.hid r0
  have H1 := Lib.hid r1
  have H3 := Lib.hid r3
  have K3 := Lib.hid k3
  obtain ⟨A0, c0, rfl, hc0⟩ := r0.len
  obtain ⟨A1, c1, rfl, hc1⟩ := r1.len
  clear r0 r1 r3 k3
  go_enter Tryz.func3, Tryz.ntmps3
  go_wp2_with fail
  refine (head_any _ hT).mono ?_
  rintro e w1 ⟨rfl, B1⟩
  have z1 := B1.out.size
  have T1 := hT.below B1.out
  go_wp2_with fail
  have q0 : (min (lp.length : Int) 410).toNat ≤ 410 ∧ (min (lp.length : Int) 410).toNat ≤ lp.length := by omega
  have q1 : (min (la.length : Int) 410).toNat ≤ 410 ∧ (min (la.length : Int) 410).toNat ≤ la.length := by omega
  have q2 : (s.extract 0 (min (s.size : Int) 3000).toNat).size ≤ 3000 := by rw [ByteArray.size_extract]; omega
  generalize (min (lp.length : Int) 410).toNat = m0 at q0 ⊢
  generalize (min (la.length : Int) 410).toNat = m1 at q1 ⊢
  generalize s.extract 0 (min (s.size : Int) 3000).toNat = tx at q2 ⊢
  have RP1 : Hid (Rd payC 4 w1 (.slice A0 m0 c0) (lp.take m0)) := Lib.hid (Rd.take (f := payC) (c := 4) (fun _ => rfl) (H0.out.below B1.out) m0 q0.2)
  have RA1 : Hid (Rd ansC 5 w1 (.slice A1 m1 c1) (la.take m1)) := Lib.hid (Rd.take (f := ansC) (c := 5) (fun _ => rfl) (H1.out.below B1.out) m1 q1.2)
  have lP : (lp.take m0).length = m0 := by rw [List.length_take, Nat.min_eq_left q0.2]
  have lA : (la.take m1).length = m1 := by rw [List.length_take, Nat.min_eq_left q1.2]
  have p410 := q0.1
  have a410 := q1.1
  clear q0 q1 H0 H1 hc0 hc1 n0 n1 _k0 _k1
  generalize lp.take m0 = P at RP1 lP
  generalize la.take m1 = Q at RA1 lA
  have HLP := Lib.hid lP
  have HLA := Lib.hid lA
  clear lP lA
  go_loop [10] (fun i => ∃ k : Nat, k ≤ m0 ∧ Hid (∀ p ∈ P.take k, p.2.1.length ≤ 100) ∧ i = .int .i64 k) (fun i => m0 - (intOf i).toNat)
  case atStart => exact ⟨0, by omega, Lib.hid (fun p hp => by cases hp), rfl⟩
  case round =>
    obtain ⟨k, hk, HK, rfl⟩ := hrel
    by_cases hlt : k < m0
    · obtain ⟨x, hx⟩ : ∃ x, P[k]? = some x := ⟨_, List.getElem?_eq_getElem (by rw [HLP.out]; exact hlt)⟩
      obtain ⟨g, o, rfl, hg, c0', c1', c2', c3'⟩ := rd_pay (by rw [HLP.out]; exact RP1.out) k x hx
      have HTk := Lib.hid (take_snoc P k x hx)
      obtain ⟨id, ac, ct, dy⟩ := x
      obtain ⟨s2, rfl⟩ : ∃ s : ByteArray, ac = L s := ⟨⟨ac.toArray⟩, rfl⟩
      simp only [str, mkL] at c1'
      clear c0' c2' c3' hx
      by_cases h100 : s2.size ≤ 100
      · have HK2 : Hid (∀ p ∈ P.take (k + 1), p.2.1.length ≤ 100) := Lib.hid (fun p hp => by
          rw [HTk.out, List.mem_append, List.mem_singleton] at hp
          rcases hp with hp | rfl
          · exact HK.out p hp
          · show (L s2).length ≤ 100; rw [L_len]; exact h100)
        have g1 : ¬ (100 : Int) < (s2.size : Int) := by omega
        go_wp2_with fail
        go_round
        case rel => exact ⟨k + 1, by omega, HK2, by go_num⟩
        case measure => simp [intOf]; omega
      · have g1 : (100 : Int) < (s2.size : Int) := by omega
        go_wp2_with fail
        go_ret
        exact RetB.mk rfl B1.out
    · have HAcc : Hid (∀ p ∈ P, p.2.1.length ≤ 1000) := Lib.hid (fun p hp => by
        have := HK.out p (by rw [List.take_of_length_le (by rw [HLP.out]; omega)]; exact hp)
        omega)
      clear HK
      go_wp2_with fail
      refine (payments_any v3 l _ T1 (H3.out.below B1.out) K3.out n3).mono ?_
      rintro e w2 ⟨p2, rfl, RQ, b2⟩
      have B2 : Hid (Below w.heap.size w w2) := Lib.hid (B1.out.trans (b2.out.mono z1))
      have RP2 := Lib.hid (RP1.out.below b2.out)
      have RA2 := Lib.hid (RA1.out.below b2.out)
      obtain ⟨A2, c2, rfl, _⟩ := RQ.out.len
      clear b2 RP1 RA1 T1
      go_wp2_with fail
      obtain ⟨wb, hwb⟩ : ∃ wb, wb = w2.alloc (.cells #[.slice A0 m0 c0, .slice A2 (pays l).length c2] 22) := ⟨_, rfl⟩
      rw [← hwb]
      have bb : Below w2.heap.size w2 wb := by rw [hwb]; exact (Below.refl _ _).alloc (Nat.le_refl _) _
      have lb : w2.heap.size < wb.heap.size := by rw [hwb]; simp
      have d0 : wb.cell? ⟨w2.heap.size, 0, none⟩ = some (.slice A0 m0 c0) := by rw [hwb, cell_row (heap_new w2 _ _)]; rfl
      have d1 : wb.cell? ⟨w2.heap.size, 1, none⟩ = some (.slice A2 (pays l).length c2) := by rw [hwb, cell_row (heap_new w2 _ _)]; rfl
      clear hwb
      have U1 := Lib.hid (RP2.out.below bb)
      have U2 := Lib.hid (RQ.out.below bb)
      have UA := Lib.hid (RA2.out.below bb)
      have Bb : Hid (Below w.heap.size w wb) := Lib.hid (B2.out.trans (bb.mono (Below.size B2.out)))
      have zb := Bb.out.size
      clear bb
      go_loopg [9, 70] 2 (fun g v9 i wx => ∃ j : Nat, j ≤ 2 ∧ g = 2 - j ∧ v9 = .bool true ∧ i = .int .i64 j ∧ Hid (Below wb.heap.size wb wx))
      case atStart => exact ⟨0, by omega, rfl, rfl, rfl, Lib.hid (Below.refl _ _)⟩
      case round =>
      obtain ⟨j, hj, rfl, rfl, rfl, HBj⟩ := hrel
      rename World => wz
      have zz := HBj.out.size
      have Bz : Hid (Below w.heap.size w wz) := Lib.hid (Bb.out.trans (HBj.out.mono zb))
      have Tz := hT.below Bz.out
      have e0 := (HBj.out.cell (p := ⟨w2.heap.size, 0, none⟩) lb).trans d0
      have e1 := (HBj.out.cell (p := ⟨w2.heap.size, 1, none⟩) lb).trans d1
      have hj3 : j = 0 ∨ j = 1 ∨ j = 2 := by omega
      rcases hj3 with rfl | rfl | rfl
      · go_wp2_with fail
        refine (Write_any _ P _ Tz (U1.out.below HBj.out) HAcc.out (by rw [HLP.out]; omega)).mono ?_
        rintro e y1 ⟨sa, rfl, SA, b1⟩
        have t1 := b1.out.size
        go_wp2_with fail
        refine (rWrite_any _ P _ ((U1.out.below HBj.out).below b1.out) (fun p hp => Nat.le_trans (HAcc.out p hp) (by decide)) (by rw [HLP.out]; omega)).mono ?_
        rintro e y2 ⟨sb, rfl, SB, b2⟩
        have C2 : Hid (Below wz.heap.size wz y2) := Lib.hid (b1.out.trans (b2.out.mono t1))
        have Ty := Tz.below C2.out
        have RX2 := Lib.hid ((U1.out.below HBj.out).below C2.out)
        obtain rfl : sa = sb := str_eq (by rw [SA.out, SB.out])
        clear b1 b2 t1 SA
        obtain ⟨er, her⟩ : ∃ er : Nat, (writeP P).2 = er := ⟨_, rfl⟩
        rw [her]
        have HER := Lib.hid her
        clear her
        by_cases h0 : er = 0
        · subst h0
          have HR : Hid (readP (L sa) = some P) := Lib.hid ((readP_iff _ _).2 (by rw [SB.out, ← HER.out]))
          have zs : sa.size ≤ 4294967200 := by
            have := writeP_len _ _ ((readP_iff _ _).1 HR.out)
            rw [size_L]; omega
          go_wp2_with fail
          refine (read_yes _ sa _ Ty zs HR.out).mono ?_
          rintro e y3 ⟨pc, rfl, RC, b3⟩
          have RX3 := Lib.hid (RX2.out.below b3.out)
          have C3 : Hid (Below wz.heap.size wz y3) := Lib.hid (C2.out.trans (b3.out.mono C2.out.size))
          go_wp2_with fail
          refine (same_pay pc _ _ _ _ RC.out RX3.out (by rw [HLP.out]; omega) (by rw [HLP.out]; omega)).mono ?_
          rintro e y4 ⟨rfl, nd, rfl⟩
          rw [decide_eq_true (rfl : P = P)]
          have C4 : Hid (Below wb.heap.size wb (y3.drewN nd)) := Lib.hid ((HBj.out.trans (C3.out.mono HBj.out.size)).trans ((below_drewN y3 nd).mono (Nat.le_trans HBj.out.size C3.out.size)))
          generalize y3.drewN nd = y5 at C4 ⊢
          go_wp2_with fail
          go_roundg (2 - (0 + 1))
          case measure => omega
          case rel => exact ⟨0 + 1, by omega, rfl, rfl, rfl, C4⟩
        · have HR : Hid (readP (L sa) = none) := Lib.hid (by rw [SB.out, writeP_err _ (by rw [HER.out]; exact h0)]; exact head4)
          have zs : sa.size ≤ 4294967200 := by rw [size_L, SB.out, writeP_err _ (by rw [HER.out]; exact h0)]; simp
          have f1 : ((er : Int) == 0) = false := by rw [beq_eq_false_iff_ne]; omega
          have f2 : ((er : Int) != 0) = true := by rw [bne_iff_ne]; omega
          clear h0
          go_wp2_with fail
          refine (read_no _ sa Ty zs HR.out).mono ?_
          rintro e y3 ⟨rfl, b3⟩
          have C4 : Hid (Below wb.heap.size wb y3) := Lib.hid ((HBj.out.trans (C2.out.mono HBj.out.size)).trans (b3.out.mono (Nat.le_trans HBj.out.size C2.out.size)))
          go_wp2_with fail
          go_roundg (2 - (0 + 1))
          case measure => omega
          case rel => exact ⟨0 + 1, by omega, rfl, rfl, rfl, C4⟩
      · go_wp2_with fail
        refine (Write_any _ (pays l) _ Tz (U2.out.below HBj.out) (pays_acc l) (Nat.le_trans (pays_len l) (by decide))).mono ?_
        rintro e y1 ⟨sa, rfl, SA, b1⟩
        have t1 := b1.out.size
        go_wp2_with fail
        refine (rWrite_any _ (pays l) _ ((U2.out.below HBj.out).below b1.out) (fun p hp => Nat.le_trans ((pays_acc l) p hp) (by decide)) (Nat.le_trans (pays_len l) (by decide))).mono ?_
        rintro e y2 ⟨sb, rfl, SB, b2⟩
        have C2 : Hid (Below wz.heap.size wz y2) := Lib.hid (b1.out.trans (b2.out.mono t1))
        have Ty := Tz.below C2.out
        have RX2 := Lib.hid ((U2.out.below HBj.out).below C2.out)
        obtain rfl : sa = sb := str_eq (by rw [SA.out, SB.out])
        clear b1 b2 t1 SA
        obtain ⟨er, her⟩ : ∃ er : Nat, (writeP (pays l)).2 = er := ⟨_, rfl⟩
        rw [her]
        have HER := Lib.hid her
        clear her
        by_cases h0 : er = 0
        · subst h0
          have HR : Hid (readP (L sa) = some (pays l)) := Lib.hid ((readP_iff _ _).2 (by rw [SB.out, ← HER.out]))
          have zs : sa.size ≤ 4294967200 := by
            have := writeP_len _ _ ((readP_iff _ _).1 HR.out)
            rw [size_L]; omega
          go_wp2_with fail
          refine (read_yes _ sa _ Ty zs HR.out).mono ?_
          rintro e y3 ⟨pc, rfl, RC, b3⟩
          have RX3 := Lib.hid (RX2.out.below b3.out)
          have C3 : Hid (Below wz.heap.size wz y3) := Lib.hid (C2.out.trans (b3.out.mono C2.out.size))
          go_wp2_with fail
          refine (same_pay pc _ _ _ _ RC.out RX3.out (Nat.le_trans (pays_len l) (by decide)) (Nat.le_trans (pays_len l) (by decide))).mono ?_
          rintro e y4 ⟨rfl, nd, rfl⟩
          rw [decide_eq_true (rfl : (pays l) = (pays l))]
          have C4 : Hid (Below wb.heap.size wb (y3.drewN nd)) := Lib.hid ((HBj.out.trans (C3.out.mono HBj.out.size)).trans ((below_drewN y3 nd).mono (Nat.le_trans HBj.out.size C3.out.size)))
          generalize y3.drewN nd = y5 at C4 ⊢
          go_wp2_with fail
          go_roundg (2 - (1 + 1))
          case measure => omega
          case rel => exact ⟨1 + 1, by omega, rfl, rfl, rfl, C4⟩
        · have HR : Hid (readP (L sa) = none) := Lib.hid (by rw [SB.out, writeP_err _ (by rw [HER.out]; exact h0)]; exact head4)
          have zs : sa.size ≤ 4294967200 := by rw [size_L, SB.out, writeP_err _ (by rw [HER.out]; exact h0)]; simp
          have f1 : ((er : Int) == 0) = false := by rw [beq_eq_false_iff_ne]; omega
          have f2 : ((er : Int) != 0) = true := by rw [bne_iff_ne]; omega
          clear h0
          go_wp2_with fail
          refine (read_no _ sa Ty zs HR.out).mono ?_
          rintro e y3 ⟨rfl, b3⟩
          have C4 : Hid (Below wb.heap.size wb y3) := Lib.hid ((HBj.out.trans (C2.out.mono HBj.out.size)).trans (b3.out.mono (Nat.le_trans HBj.out.size C2.out.size)))
          go_wp2_with fail
          go_roundg (2 - (1 + 1))
          case measure => omega
          case rel => exact ⟨1 + 1, by omega, rfl, rfl, rfl, C4⟩
      · go_wp2_with fail
        refine (answers_any v3 l _ Tz (H3.out.below Bz.out) K3.out n3).mono ?_
        rintro e w3 ⟨a2, rfl, RB, b3⟩
        have B3 : Hid (Below w.heap.size w w3) := Lib.hid (Bz.out.trans (b3.out.mono Bz.out.size))
        have RA3 := Lib.hid ((UA.out.below HBj.out).below b3.out)
        obtain ⟨A3, c3, rfl, _⟩ := RB.out.len
        clear b3 U1 U2 UA e0 e1 d0 d1 HBj zz Tz lb Bb zb RP2 RQ RA2
        go_wp2_with fail
        obtain ⟨wb, hwb⟩ : ∃ wb, wb = w3.alloc (.cells #[.slice A1 m1 c1, .slice A3 (anss l).length c3] 23) := ⟨_, rfl⟩
        rw [← hwb]
        have bb : Below w3.heap.size w3 wb := by rw [hwb]; exact (Below.refl _ _).alloc (Nat.le_refl _) _
        have lb : w3.heap.size < wb.heap.size := by rw [hwb]; simp
        have d0 : wb.cell? ⟨w3.heap.size, 0, none⟩ = some (.slice A1 m1 c1) := by rw [hwb, cell_row (heap_new w3 _ _)]; rfl
        have d1 : wb.cell? ⟨w3.heap.size, 1, none⟩ = some (.slice A3 (anss l).length c3) := by rw [hwb, cell_row (heap_new w3 _ _)]; rfl
        clear hwb
        have U1 := Lib.hid (RA3.out.below bb)
        have U2 := Lib.hid (RB.out.below bb)
        skip
        have Bb : Hid (Below w.heap.size w wb) := Lib.hid (B3.out.trans (bb.mono (Below.size B3.out)))
        have zb := Bb.out.size
        clear bb
        go_loopg [9, 122] 2 (fun g v9 i wx => ∃ j : Nat, j ≤ 2 ∧ g = 2 - j ∧ v9 = .bool true ∧ i = .int .i64 j ∧ Hid (Below wb.heap.size wb wx))
        case atStart => exact ⟨0, by omega, rfl, rfl, rfl, Lib.hid (Below.refl _ _)⟩
        case round =>
        obtain ⟨j, hj, rfl, rfl, rfl, HBj⟩ := hrel
        rename World => wz
        have zz := HBj.out.size
        have Bz : Hid (Below w.heap.size w wz) := Lib.hid (Bb.out.trans (HBj.out.mono zb))
        have Tz := hT.below Bz.out
        have e0 := (HBj.out.cell (p := ⟨w3.heap.size, 0, none⟩) lb).trans d0
        have e1 := (HBj.out.cell (p := ⟨w3.heap.size, 1, none⟩) lb).trans d1
        have hj3 : j = 0 ∨ j = 1 ∨ j = 2 := by omega
        rcases hj3 with rfl | rfl | rfl
        · go_wp2_with fail
          refine (WriteAnswers_any _ Q _ Tz (U1.out.below HBj.out) (by rw [HLA.out]; omega)).mono ?_
          rintro e y1 ⟨sa, rfl, SA, b1⟩
          have t1 := b1.out.size
          go_wp2_with fail
          refine (rWriteA_any _ Q _ ((U1.out.below HBj.out).below b1.out) (by rw [HLA.out]; omega)).mono ?_
          rintro e y2 ⟨sb, rfl, SB, b2⟩
          have C2 : Hid (Below wz.heap.size wz y2) := Lib.hid (b1.out.trans (b2.out.mono t1))
          have Ty := Tz.below C2.out
          have RX2 := Lib.hid ((U1.out.below HBj.out).below C2.out)
          obtain rfl : sa = sb := str_eq (by rw [SA.out, SB.out])
          clear b1 b2 t1 SA
          obtain ⟨er, her⟩ : ∃ er : Nat, (writeA Q).2 = er := ⟨_, rfl⟩
          rw [her]
          have HER := Lib.hid her
          clear her
          by_cases h0 : er = 0
          · subst h0
            have HR : Hid (readA (L sa) = some Q) := Lib.hid ((readA_iff _ _).2 (by rw [SB.out, ← HER.out]))
            have zs : sa.size ≤ 4294967200 := by
              have := writeA_len _ _ ((readA_iff _ _).1 HR.out)
              rw [size_L]; omega
            go_wp2_with fail
            refine (readA_yes _ sa _ Ty zs HR.out).mono ?_
            rintro e y3 ⟨pc, rfl, RC, b3⟩
            have RX3 := Lib.hid (RX2.out.below b3.out)
            have C3 : Hid (Below wz.heap.size wz y3) := Lib.hid (C2.out.trans (b3.out.mono C2.out.size))
            go_wp2_with fail
            refine (same_ans pc _ _ _ _ RC.out RX3.out (by rw [HLA.out]; omega) (by rw [HLA.out]; omega)).mono ?_
            rintro e y4 ⟨rfl, nd, rfl⟩
            rw [decide_eq_true (rfl : Q = Q)]
            have C4 : Hid (Below wb.heap.size wb (y3.drewN nd)) := Lib.hid ((HBj.out.trans (C3.out.mono HBj.out.size)).trans ((below_drewN y3 nd).mono (Nat.le_trans HBj.out.size C3.out.size)))
            generalize y3.drewN nd = y5 at C4 ⊢
            go_wp2_with fail
            go_roundg (2 - (0 + 1))
            case measure => omega
            case rel => exact ⟨0 + 1, by omega, rfl, rfl, rfl, C4⟩
          · have HR : Hid (readA (L sa) = none) := Lib.hid (by rw [SB.out, writeA_err _ (by rw [HER.out]; exact h0)]; exact readA_nil)
            have zs : sa.size ≤ 4294967200 := by rw [size_L, SB.out, writeA_err _ (by rw [HER.out]; exact h0)]; simp
            have f1 : ((er : Int) == 0) = false := by rw [beq_eq_false_iff_ne]; omega
            have f2 : ((er : Int) != 0) = true := by rw [bne_iff_ne]; omega
            clear h0
            go_wp2_with fail
            refine (readA_no _ sa Ty zs HR.out).mono ?_
            rintro e y3 ⟨rfl, b3⟩
            have C4 : Hid (Below wb.heap.size wb y3) := Lib.hid ((HBj.out.trans (C2.out.mono HBj.out.size)).trans (b3.out.mono (Nat.le_trans HBj.out.size C2.out.size)))
            go_wp2_with fail
            go_roundg (2 - (0 + 1))
            case measure => omega
            case rel => exact ⟨0 + 1, by omega, rfl, rfl, rfl, C4⟩
        · go_wp2_with fail
          refine (WriteAnswers_any _ (anss l) _ Tz (U2.out.below HBj.out) (Nat.le_trans (anss_len l) (by decide))).mono ?_
          rintro e y1 ⟨sa, rfl, SA, b1⟩
          have t1 := b1.out.size
          go_wp2_with fail
          refine (rWriteA_any _ (anss l) _ ((U2.out.below HBj.out).below b1.out) (Nat.le_trans (anss_len l) (by decide))).mono ?_
          rintro e y2 ⟨sb, rfl, SB, b2⟩
          have C2 : Hid (Below wz.heap.size wz y2) := Lib.hid (b1.out.trans (b2.out.mono t1))
          have Ty := Tz.below C2.out
          have RX2 := Lib.hid ((U2.out.below HBj.out).below C2.out)
          obtain rfl : sa = sb := str_eq (by rw [SA.out, SB.out])
          clear b1 b2 t1 SA
          obtain ⟨er, her⟩ : ∃ er : Nat, (writeA (anss l)).2 = er := ⟨_, rfl⟩
          rw [her]
          have HER := Lib.hid her
          clear her
          by_cases h0 : er = 0
          · subst h0
            have HR : Hid (readA (L sa) = some (anss l)) := Lib.hid ((readA_iff _ _).2 (by rw [SB.out, ← HER.out]))
            have zs : sa.size ≤ 4294967200 := by
              have := writeA_len _ _ ((readA_iff _ _).1 HR.out)
              rw [size_L]; omega
            go_wp2_with fail
            refine (readA_yes _ sa _ Ty zs HR.out).mono ?_
            rintro e y3 ⟨pc, rfl, RC, b3⟩
            have RX3 := Lib.hid (RX2.out.below b3.out)
            have C3 : Hid (Below wz.heap.size wz y3) := Lib.hid (C2.out.trans (b3.out.mono C2.out.size))
            go_wp2_with fail
            refine (same_ans pc _ _ _ _ RC.out RX3.out (Nat.le_trans (anss_len l) (by decide)) (Nat.le_trans (anss_len l) (by decide))).mono ?_
            rintro e y4 ⟨rfl, nd, rfl⟩
            rw [decide_eq_true (rfl : (anss l) = (anss l))]
            have C4 : Hid (Below wb.heap.size wb (y3.drewN nd)) := Lib.hid ((HBj.out.trans (C3.out.mono HBj.out.size)).trans ((below_drewN y3 nd).mono (Nat.le_trans HBj.out.size C3.out.size)))
            generalize y3.drewN nd = y5 at C4 ⊢
            go_wp2_with fail
            go_roundg (2 - (1 + 1))
            case measure => omega
            case rel => exact ⟨1 + 1, by omega, rfl, rfl, rfl, C4⟩
          · have HR : Hid (readA (L sa) = none) := Lib.hid (by rw [SB.out, writeA_err _ (by rw [HER.out]; exact h0)]; exact readA_nil)
            have zs : sa.size ≤ 4294967200 := by rw [size_L, SB.out, writeA_err _ (by rw [HER.out]; exact h0)]; simp
            have f1 : ((er : Int) == 0) = false := by rw [beq_eq_false_iff_ne]; omega
            have f2 : ((er : Int) != 0) = true := by rw [bne_iff_ne]; omega
            clear h0
            go_wp2_with fail
            refine (readA_no _ sa Ty zs HR.out).mono ?_
            rintro e y3 ⟨rfl, b3⟩
            have C4 : Hid (Below wb.heap.size wb y3) := Lib.hid ((HBj.out.trans (C2.out.mono HBj.out.size)).trans (b3.out.mono (Nat.le_trans HBj.out.size C2.out.size)))
            go_wp2_with fail
            go_roundg (2 - (1 + 1))
            case measure => omega
            case rel => exact ⟨1 + 1, by omega, rfl, rfl, rfl, C4⟩
        · clear U1 U2 e0 e1 d0 d1 HBj zz lb Bb zb
          go_wp2_with fail
          refine (Read_any _ tx Tz (by omega)).mono ?_
          rintro e x1 hx1
          obtain ⟨va, ka, rfl, KA, RVA, g1⟩ := hx1.u
          clear hx1
          have G1 : Hid (Below w.heap.size w x1) := Lib.hid (Bz.out.trans (g1.out.mono Bz.out.size))
          have X1 := hT.below G1.out
          go_wp2_with fail
          refine (rRead_any tx _ (by omega)).mono ?_
          rintro e x2 hx2
          obtain ⟨vb, kb, rfl, KB, RVB, g2⟩ := hx2.u
          clear hx2
          have G2 : Hid (Below w.heap.size w x2) := Lib.hid (G1.out.trans (g2.out.mono G1.out.size))
          have X2 := hT.below G2.out
          have RVA2 := Lib.hid (RVA.out.below g2.out)
          obtain rfl : ka = kb := by rw [KA.out, KB.out]
          go_wp2_with fail
          refine (ReadAnswers_any _ tx X2 (by omega)).mono ?_
          rintro e x3 hx3
          obtain ⟨vc, kc, rfl, KC, RVC, g3⟩ := hx3.u
          clear hx3
          have G3 : Hid (Below w.heap.size w x3) := Lib.hid (G2.out.trans (g3.out.mono G2.out.size))
          have RVA3 := Lib.hid (RVA2.out.below g3.out)
          have RVB3 := Lib.hid (RVB.out.below g3.out)
          go_wp2_with fail
          refine (rReadA_any tx _ (by omega)).mono ?_
          rintro e x4 hx4
          obtain ⟨vd, kd, rfl, KD, RVD, g4⟩ := hx4.u
          clear hx4
          have G4 : Hid (Below w.heap.size w x4) := Lib.hid (G3.out.trans (g4.out.mono G3.out.size))
          have RVA4 := Lib.hid (RVA3.out.below g4.out)
          have RVB4 := Lib.hid (RVB3.out.below g4.out)
          have RVC4 := Lib.hid (RVC.out.below g4.out)
          obtain rfl : kc = kd := by rw [KC.out, KD.out]
          clear g1 g2 g3 g4 RVA RVB RVA2 RVA3 RVB3 RVC
          go_wp2_with fail
          refine (same_pay va vb _ _ _ RVA4.out RVB4.out (lenO _) (lenO _)).mono ?_
          rintro e x5 ⟨rfl, nd, rfl⟩
          rw [decide_eq_true rfl]
          have g5 := below_drewN x4 nd
          have RVC5 := Lib.hid (RVC4.out.below g5)
          have RVD5 := Lib.hid (RVD.out.below g5)
          have G5 : Hid (Below w.heap.size w (x4.drewN nd)) := Lib.hid (G4.out.trans (g5.mono G4.out.size))
          generalize x4.drewN nd = x5 at RVC5 RVD5 G5 ⊢
          clear g5
          go_wp2_with fail
          refine (same_ans vc vd _ _ _ RVC5.out RVD5.out (lenOA _) (lenOA _)).mono ?_
          rintro e x6 ⟨rfl, ne, rfl⟩
          rw [decide_eq_true rfl]
          have g6 := below_drewN x5 ne
          have G6 : Hid (Below w.heap.size w (x5.drewN ne)) := Lib.hid (G5.out.trans (g6.mono G5.out.size))
          generalize x5.drewN ne = x6 at G6 ⊢
          clear g6
          have X6 := hT.below G6.out
          go_wp2_with fail
          refine (Account_any tx _ X6 (by omega)).mono ?_
          rintro e x7 ⟨rfl, g7⟩
          have G7 : Hid (Below w.heap.size w x7) := Lib.hid (G6.out.trans (g7.out.mono G6.out.size))
          go_wp2_with fail
          refine (rAccount_any tx _ (by omega)).mono ?_
          rintro e x8 ⟨rfl, g8⟩
          have G8 : Hid (Below w.heap.size w x8) := Lib.hid (G7.out.trans (g8.out.mono G7.out.size))
          obtain ⟨ab, hab⟩ : ∃ ab, accB (L tx) = ab := ⟨_, rfl⟩
          rw [hab]
          clear hab
          cases ab
          all_goals
            go_wp2_with fail
            go_ret
            exact RetB.mk rfl G8.out
end Go.Proofs.YtibgibjmpcajkaaGreatDoor
