/- The walk of the law BankfileRefuses. -/
import Derived.Test.YtibgibjmpcajkaaGreatDoorBankRp
import Derived.OpenShut
import Derived.IntWalk
import Derived.Deep.DeepCutAuto
namespace Go.Proofs.YtibgibjmpcajkaaGreatDoor
open Go.RowKit BankS
set_option maxHeartbeats 16000000 in
set_option maxRecDepth 100000 in
theorem refuses_walk (v1 : Value) (wh ax : Int) (l : List Tri) (w : World) (hT : Tabs w) (h1 : Rd triC 3 w v1 l) (hy : (Lit.int .i64 wh).wf = true) (hp : (Lit.int .i64 ax).wf = true) (k1 : ∀ x ∈ l, triOk x) (n1 : l.length ≤ 9223372036854775807) :
    Calls Tryz.prog 8 #[v1, .int .i64 wh, .int .i64 ax] w (RetB true w) := by
  obtain ⟨yl, yh⟩ := bounds_i64 hy
  obtain ⟨p0, p1⟩ := bounds_i64 hp
  have H1 := Lib.hid h1
  have K1 := Lib.hid k1
  clear h1 k1 hy hp
  obtain ⟨i4, hi4, hz40, hz41, hz42⟩ := info_parts Tryz.infoPay
  obtain ⟨i5, hi5, hz50, hz51, hz52⟩ := info_parts Tryz.infoAns
  have Hi4 := Lib.hid (And.intro hi4 (And.intro hz40 (And.intro hz41 hz42)))
  have Hi5 := Lib.hid (And.intro hi5 (And.intro hz50 (And.intro hz51 hz52)))
  clear hi4 hz40 hz41 hz42 hi5 hz50 hz51 hz52
  go_enter Tryz.func8, Tryz.ntmps8
  go_wp2_with fail
  refine (head_any _ hT).mono ?_
  rintro e w1 ⟨rfl, B1⟩
  have z1 := B1.out.size
  have T1 := hT.below B1.out
  go_wp2_with fail
  refine (payments_any v1 l _ T1 (H1.out.below B1.out) K1.out n1).mono ?_
  rintro e w2 ⟨pv, rfl, RP, b2⟩
  have B2 : Hid (Below w.heap.size w w2) := Lib.hid (B1.out.trans (b2.out.mono z1))
  have z2 := B2.out.size
  have T2 := hT.below B2.out
  clear b2 T1 B1 z1
  go_wp2_with fail
  refine (answers_any v1 l _ T2 (H1.out.below B2.out) K1.out n1).mono ?_
  rintro e w3 ⟨av, rfl, RA, b3⟩
  have B3 : Hid (Below w.heap.size w w3) := Lib.hid (B2.out.trans (b3.out.mono z2))
  have RP2 := Lib.hid (RP.out.below b3.out)
  have z3 := B3.out.size
  have T3 := hT.below B3.out
  clear b3 T2 B2 z2 RP H1 K1 n1
  have PAll := Lib.hid (pays_all l)
  have AAll := Lib.hid (anss_all l)
  have PAcc := Lib.hid (pays_acc l)
  have lp := pays_len l
  have la := pa_len l
  generalize pays l = P at *
  generalize anss l = Q at *
  obtain ⟨n, hn⟩ : ∃ n, P.length = n := ⟨_, rfl⟩
  have ln : n ≤ 30 := by omega
  have HN := Lib.hid hn
  have HM : Hid (Q.length = n) := Lib.hid (by omega)
  clear la lp hn
  by_cases h0 : n = 0
  · obtain ⟨AP, cP, rfl⟩ := rd_len RP2.out n HN.out
    subst h0
    go_wp2_with fail
    go_ret
    exact RetB.mk rfl B3.out
  have hb : ((n : Int) == 0) = false := by rw [beq_eq_false_iff_ne]; omega
  obtain ⟨gP, oP, cP, rfl, hcP, hgP, HP⟩ := rd_open RP2.out n HN.out (by omega)
  obtain ⟨gQ, oQ, cQ, rfl, hcQ, hgQ, HQ⟩ := rd_open RA.out n HM.out (by omega)
  clear RP2 RA
  go_wp2_with fail
  refine (pick_any ax n _ p0 p1 (by omega) (by omega)).mono ?_
  rintro e w4 ⟨kz, rfl, _, x0, x1, rfl⟩
  obtain ⟨k, rfl⟩ := Int.eq_ofNat_of_zero_le x0
  have hk : k < n := by omega
  clear x0 x1
  go_upto_region 7 with fail
  go_cut [11] (fun s11 wx => s11 = .slice (some ⟨w3.heap.size, 0, none⟩) 10 10 ∧ Hid (Rd payC 4 wx s11 bads) ∧ Hid (Below w3.heap.size w3 wx))
  case first =>
    go_wp2_with fail
    go_meet
    exact ⟨rfl, Lib.hid (rdn_new payC 4 (fun _ => rfl) w3 bads _ _ rfl 10 rfl), Lib.hid ((Below.refl _ _).alloc (Nat.le_refl _) _)⟩
  case rest =>
  obtain ⟨rfl, RB, b5⟩ := hcut
  rename World => w5
  have B5 : Hid (Below w.heap.size w w5) := Lib.hid (B3.out.trans (b5.out.mono z3))
  have z5 := b5.out.size
  have lb5 : w3.heap.size < w5.heap.size := rd_lt RB.out (by decide)
  go_upto_region 8 with fail
  go_cut [12] (fun s12 wx => s12 = .slice (some ⟨w5.heap.size, 0, none⟩) 10 10 ∧ Hid (Rd ansC 5 wx s12 odds) ∧ Hid (Below w5.heap.size w5 wx))
  case first =>
    go_wp2_with fail
    go_meet
    exact ⟨rfl, Lib.hid (rdn_new ansC 5 (fun _ => rfl) w5 odds _ _ rfl 10 rfl), Lib.hid ((Below.refl _ _).alloc (Nat.le_refl _) _)⟩
  case rest =>
  obtain ⟨rfl, RO, b6⟩ := hcut
  rename World => w6
  have B6 : Hid (Below w.heap.size w w6) := Lib.hid (B5.out.trans (b6.out.mono (Below.size B5.out)))
  have z6 := b6.out.size
  have lo6 : w5.heap.size < w6.heap.size := rd_lt RO.out (by decide)
  have RB6 := Lib.hid (RB.out.below b6.out)
  have HP6 : Hid (∀ (i : Nat) (u : Value), (cellsL payC P)[i]? = some u → w6.cell? ⟨gP, oP + i, none⟩ = some u) := Lib.hid (fun i u h => ((b6.out.cell (by show gP < _; omega)).trans (b5.out.cell hgP)).trans (HP.out i u h))
  have HQ6 : Hid (∀ (i : Nat) (u : Value), (cellsL ansC Q)[i]? = some u → w6.cell? ⟨gQ, oQ + i, none⟩ = some u) := Lib.hid (fun i u h => ((b6.out.cell (by show gQ < _; omega)).trans (b5.out.cell hgQ)).trans (HQ.out i u h))
  have gP6 : gP < w6.heap.size := by omega
  have gQ6 : gQ < w6.heap.size := by omega
  have RO6 := RO
  clear HP HQ RB RO b5 b6 B5
  go_upto_region 9 with fail
  go_cut [13] (fun s13 wx => ∃ b, b ∈ bads ∧ Hid (Rd payC 4 wx s13 (P.take k ++ [b] ++ P.drop k)) ∧ Hid (Below w6.heap.size w6 wx))
  case first =>
    go_wp2_with fail
    refine wp_region_held_drew (S := (fun W => Below w6.heap.size w6 W)) (by kernel_rfl) ((Below.refl _ _).drew) (fun hHeld => ?_)
    refine takeL (i := 1) (v := ?_) rfl (by kernel_rfl) (by kernel_rfl) (by kernel_rfl) (fun _ _ _ h => h) (Or.inl ⟨by rfl, ?_⟩) hHeld ?_
    rotate_left
    · intro wS hSw; go_simp; try with_reducible rfl
    try simp only [Act.put, List.setIfInBounds_toArray, List.set_cons_zero, List.set_cons_succ]
    refine takeL (i := 2) (v := ?_) rfl (by kernel_rfl) (by kernel_rfl) (by kernel_rfl) (fun _ _ _ h => h) (Or.inl ⟨by rfl, ?_⟩) hHeld ?_
    rotate_left
    · intro wS hSw; go_simp; try with_reducible rfl
    try simp only [Act.put, List.setIfInBounds_toArray, List.set_cons_zero, List.set_cons_succ]
    refine takeL (i := 3) (v := ?_) rfl (by kernel_rfl) (by kernel_rfl) (by kernel_rfl) (fun _ _ _ h => h) (Or.inl ⟨by rfl, ?_⟩) hHeld ?_
    rotate_left
    · intro wS hSw; have g1 : (0 : Int) ≤ (k : Int) := (by omega); have g2 : (k : Int) ≤ (cP : Int) := (by omega); have g3 : k ≤ cP := (by omega); go_simp; try with_reducible rfl
    try simp only [Act.put, List.setIfInBounds_toArray, List.set_cons_zero, List.set_cons_succ]
    refine takeL (i := 5) (v := ?_) rfl (by kernel_rfl) (by kernel_rfl) (by kernel_rfl) (fun _ _ _ h => h) (Or.inl ⟨by rfl, ?_⟩) hHeld ?_
    rotate_left
    · intro wS hSw; go_simp; try with_reducible rfl
    try simp only [Act.put, List.setIfInBounds_toArray, List.set_cons_zero, List.set_cons_succ]
    refine takeL (i := 6) (v := ?_) rfl (by kernel_rfl) (by kernel_rfl) (by kernel_rfl) (fun _ _ _ h => h) (Or.inl ⟨by rfl, ?_⟩) hHeld ?_
    rotate_left
    · intro wS hSw; go_simp; try with_reducible rfl
    try simp only [Act.put, List.setIfInBounds_toArray, List.set_cons_zero, List.set_cons_succ]
    refine takeL (i := 7) (v := ?_) rfl (by kernel_rfl) (by kernel_rfl) (by kernel_rfl) (fun _ _ _ h => h) (Or.inl ⟨by rfl, ?_⟩) hHeld ?_
    rotate_left
    · intro wS hSw; go_simp; try with_reducible rfl
    try simp only [Act.put, List.setIfInBounds_toArray, List.set_cons_zero, List.set_cons_succ]
    refine takeL (i := 8) (v := ?_) rfl (by kernel_rfl) (by kernel_rfl) (by kernel_rfl) (fun _ _ _ h => h) (Or.inl ⟨by rfl, ?_⟩) hHeld ?_
    rotate_left
    · intro wS hSw; go_simp; try with_reducible rfl
    try simp only [Act.put, List.setIfInBounds_toArray, List.set_cons_zero, List.set_cons_succ]
    refine takeL (i := 14) (v := ?_) rfl (by kernel_rfl) (by kernel_rfl) (by kernel_rfl) (fun _ _ _ h => h) (Or.inl ⟨by rfl, ?_⟩) hHeld ?_
    rotate_left
    · intro wS hSw; go_simp; try with_reducible rfl
    try simp only [Act.put, List.setIfInBounds_toArray, List.set_cons_zero, List.set_cons_succ]
    refine takeL (i := 15) (v := ?_) rfl (by kernel_rfl) (by kernel_rfl) (by kernel_rfl) (fun _ _ _ h => h) (Or.inl ⟨by rfl, ?_⟩) hHeld ?_
    rotate_left
    · intro wS hSw; go_simp; try with_reducible rfl
    try simp only [Act.put, List.setIfInBounds_toArray, List.set_cons_zero, List.set_cons_succ]
    refine takeL (i := 16) (v := ?_) rfl (by kernel_rfl) (by kernel_rfl) (by kernel_rfl) (fun _ _ _ h => h) (Or.inl ⟨by rfl, ?_⟩) hHeld ?_
    rotate_left
    · intro wS hSw; have g1 : (0 : Int) ≤ (k : Int) := (by omega); have g2 : (k : Int) ≤ (n : Int) := (by omega); have g3 : n ≤ cP := (by omega); have g4 : (n : Int) ≤ (cP : Int) := (by omega); have g5 : ¬ cP = k := (by omega); have g6 : k < cP := (by omega); go_simp; try with_reducible rfl
    try simp only [Act.put, List.setIfInBounds_toArray, List.set_cons_zero, List.set_cons_succ]
    refine readyL (i := 0) (by kernel_rfl) rfl (fun K hK => ?_)
    rw [if_pos (by rfl)]
    refine wp_make _ _ _ 22 rfl w6.heap.size 27 i4 _ 4 Tryz.underlying22 Hi4.out.1 Hi4.out.2.1 Hi4.out.2.2.1 .i64 .i64 40 rfl rfl (by rw [Hi4.out.2.2.2]; omega) (by unfold maxLen; omega) (Nat.le_refl _) ?_
    intro y1 own1 gr1
    have s1 : Below w6.heap.size w6 y1 := Below.grown hHeld gr1 (Nat.le_refl _) (fun k e => by cases e)
    refine hK.out _ _ s1 (fun _ => ?_)
    clear hK K
    try simp only [Act.put, List.setIfInBounds_toArray, List.set_cons_zero, List.set_cons_succ]
    refine readyL (i := 4) (by kernel_rfl) rfl (fun K hK => ?_)
    rw [if_pos (by rfl)]
    refine wp_append_own _ _ _ 22 rfl w6.heap.size 27 i4 _ 4 40 Tryz.underlying22 Hi4.out.1 Hi4.out.2.1 Hi4.out.2.2.1 Hi4.out.2.2.2 rfl (by decide) _ 0 [] rfl own1 ⟨gP, oP, none⟩ k cP (cellsL payC (P.take k)) rfl (by rw [cellsL_len payC 4 (fun _ => rfl), List.length_take, Nat.min_eq_left (by rw [HN.out]; omega)]) (cells_take payC y1 P k gP oP (fun i u h => (s1.cell gP6).trans (HP6.out i u h))) (onesP _) (by unfold maxLen; omega) (by omega) (Below.size s1) ?_
    intro v2 y2 own2 gr_y2 _
    have s2 : Below w6.heap.size w6 y2 := Below.grown s1 gr_y2 (Below.size s1) (fun j e => (own1.lt j e).1)
    refine hK.out _ _ s2 (fun _ => ?_)
    clear hK K
    try simp only [Act.put, List.setIfInBounds_toArray, List.set_cons_zero, List.set_cons_succ]
    rw [Nat.zero_add, List.nil_append] at own2
    refine readyL (i := 9) (by kernel_rfl) rfl (fun K hK => ?_)
    go_simp
    refine (pick_any wh 10 _ yl yh (by omega) (by omega)).mono ?_
    rintro e y3 ⟨qz, rfl, _, q0, q1, rfl⟩
    obtain ⟨q, rfl⟩ := Int.eq_ofNat_of_zero_le q0
    go_wp2_with fail
    refine hK.out _ _ s2 (fun _ => ?_)
    clear hK K
    try simp only [Act.put, List.setIfInBounds_toArray, List.set_cons_zero, List.set_cons_succ]
    have hq : q < 10 := by omega
    obtain ⟨b, hb'⟩ : ∃ b, bads[q]? = some b := ⟨_, List.getElem?_eq_getElem hq⟩
    have hmem := List.mem_of_getElem? hb'
    obtain ⟨gb, ob, eb, hgb, CC⟩ := rd_pay (l := bads) RB6.out q b hb'
    injection eb with eb
    injection eb with eb1 eb2
    subst eb1 eb2
    simp only [Nat.zero_add] at CC
    clear hb' q0 q1
    obtain ⟨b0, b1, b2, b3⟩ := b
    obtain ⟨c0, c1, c2, c3⟩ := CC
    simp only at c0 c1 c2 c3
    refine takeL (i := 10) (v := ?_) rfl (by kernel_rfl) (by kernel_rfl) (by kernel_rfl) (fun _ _ _ h => h) (Or.inl ⟨by rfl, ?_⟩) s2 ?_
    rotate_left
    · intro wS hSw; have g1 : (q : Int) < 10 := (by omega); go_simp; try with_reducible rfl
    try simp only [Act.put, List.setIfInBounds_toArray, List.set_cons_zero, List.set_cons_succ]
    refine takeL (i := 11) (v := ?_) rfl (by kernel_rfl) (by kernel_rfl) (by kernel_rfl) (fun _ _ _ h => h) (Or.inl ⟨by rfl, ?_⟩) s2 ?_
    rotate_left
    · intro wS hSw; have k0 := (hSw.cell (p := ⟨w3.heap.size, q * 4, none⟩) hgb).trans c0; have k1 := (hSw.cell (p := ⟨w3.heap.size, q * 4 + 1, none⟩) hgb).trans c1; have k2 := (hSw.cell (p := ⟨w3.heap.size, q * 4 + 2, none⟩) hgb).trans c2; have k3 := (hSw.cell (p := ⟨w3.heap.size, q * 4 + 3, none⟩) hgb).trans c3; go_simp; try with_reducible rfl
    try simp only [Act.put, List.setIfInBounds_toArray, List.set_cons_zero, List.set_cons_succ]
    refine readyL (i := 12) (by kernel_rfl) rfl (fun K hK => ?_)
    go_simp
    have s3 := Below.alloc s2 (Below.size s2) (.cells #[.int .i64 b0, str b1, .int .i64 b2, .int .i64 b3] 27)
    refine hK.out _ _ s3 (fun _ => ?_)
    clear hK K
    try simp only [Act.put, List.setIfInBounds_toArray, List.set_cons_zero, List.set_cons_succ]
    refine readyL (i := 13) (by kernel_rfl) rfl (fun K hK => ?_)
    rw [if_pos (by rfl)]
    refine wp_append_own _ _ _ 22 rfl w6.heap.size 27 i4 _ 4 40 Tryz.underlying22 Hi4.out.1 Hi4.out.2.1 Hi4.out.2.2.1 Hi4.out.2.2.2 rfl (by decide) v2 k _ rfl (own2.alloc _) ⟨y2.heap.size, 0, none⟩ 1 1 [.int .i64 b0, str b1, .int .i64 b2, .int .i64 b3] rfl rfl (cells_new y2 #[.int .i64 b0, str b1, .int .i64 b2, .int .i64 b3] 27) (by simp [Value.oneCell', str]) (by unfold maxLen; omega) (by omega) (Below.size s3) ?_
    intro v4 y4 own4 gr_y4 _
    have s4 : Below w6.heap.size w6 y4 := Below.grown s3 gr_y4 (Below.size s3) (fun j e => (own2.lt j e).1)
    refine hK.out _ _ s4 (fun _ => ?_)
    clear hK K
    try simp only [Act.put, List.setIfInBounds_toArray, List.set_cons_zero, List.set_cons_succ]
    refine readyL (i := 17) (by kernel_rfl) rfl (fun K hK => ?_)
    rw [if_pos (by rfl)]
    refine wp_append_own _ _ _ 22 rfl w6.heap.size 27 i4 _ 4 40 Tryz.underlying22 Hi4.out.1 Hi4.out.2.1 Hi4.out.2.2.1 Hi4.out.2.2.2 rfl (by decide) v4 (k + 1) _ rfl own4 ⟨gP, oP + k * 4, none⟩ (n - k) (cP - k) (cellsL payC (P.drop k)) rfl (by rw [cellsL_len payC 4 (fun _ => rfl), List.length_drop, HN.out]) (cells_drop payC 4 (fun _ => rfl) y4 P k gP oP (by rw [HN.out]; omega) (fun i u h => (s4.cell gP6).trans (HP6.out i u h)) _ rfl) (onesP _) (by unfold maxLen; omega) (by omega) (Below.size s4) ?_
    intro v5 y5 own5 gr_y5 _
    have s5 : Below w6.heap.size w6 y5 := Below.grown s4 gr_y5 (Below.size s4) (fun j e => (own4.lt j e).1)
    refine hK.out _ _ s5 (fun _ => ?_)
    clear hK K
    try simp only [Act.put, List.setIfInBounds_toArray, List.set_cons_zero, List.set_cons_succ]
    refine takeL (i := 18) (v := ?_) rfl (by kernel_rfl) (by kernel_rfl) (by kernel_rfl) (fun _ _ _ h => h) (Or.inl ⟨by rfl, ?_⟩) s5 ?_
    rotate_left
    · intro wS hSw; go_simp; try with_reducible rfl
    try simp only [Act.put, List.setIfInBounds_toArray, List.set_cons_zero, List.set_cons_succ]
    refine wpAnyH_done (by kernel_rfl) ?_ _
    go_wp2_with fail
    go_meet
    exact ⟨(b0, b1, b2, b3), hmem, Lib.hid (rd_of_own own5 (by rw [len_mid _ _ _ (by rw [HN.out]; omega), HN.out]; omega) (by rw [cellsL_app, cellsL_app, cellsL_one])), Lib.hid s5⟩
  case rest =>
  obtain ⟨bx, hbx, RX7, b7⟩ := hcut
  rename World => w7
  have B7 : Hid (Below w.heap.size w w7) := Lib.hid (B6.out.trans (b7.out.mono (Below.size B6.out)))
  have z7 := b7.out.size
  have HP7 : Hid (∀ (i : Nat) (u : Value), (cellsL payC P)[i]? = some u → w7.cell? ⟨gP, oP + i, none⟩ = some u) := Lib.hid (fun i u h => (b7.out.cell gP6).trans (HP6.out i u h))
  have gP7 : gP < w7.heap.size := by omega
  have HQ7 : Hid (∀ (i : Nat) (u : Value), (cellsL ansC Q)[i]? = some u → w7.cell? ⟨gQ, oQ + i, none⟩ = some u) := Lib.hid (fun i u h => (b7.out.cell gQ6).trans (HQ6.out i u h))
  have gQ7 : gQ < w7.heap.size := by omega
  have RO7 := Lib.hid (RO6.out.below b7.out)
  have RB7 := Lib.hid (RB6.out.below b7.out)
  clear b7 B6 z6
  clear HP6 gP6
  clear HQ6 gQ6
  clear RO6
  clear RB6
  go_upto_region 10 with fail
  go_cut [14] (fun s14 wx => ∃ b, b ∈ odds ∧ Hid (Rd ansC 5 wx s14 (Q.take k ++ [b] ++ Q.drop k)) ∧ Hid (Below w7.heap.size w7 wx))
  case first =>
    go_wp2_with fail
    refine wp_region_held_drew (S := (fun W => Below w7.heap.size w7 W)) (by kernel_rfl) ((Below.refl _ _).drew) (fun hHeld => ?_)
    refine takeL (i := 1) (v := ?_) rfl (by kernel_rfl) (by kernel_rfl) (by kernel_rfl) (fun _ _ _ h => h) (Or.inl ⟨by rfl, ?_⟩) hHeld ?_
    rotate_left
    · intro wS hSw; go_simp; try with_reducible rfl
    try simp only [Act.put, List.setIfInBounds_toArray, List.set_cons_zero, List.set_cons_succ]
    refine takeL (i := 2) (v := ?_) rfl (by kernel_rfl) (by kernel_rfl) (by kernel_rfl) (fun _ _ _ h => h) (Or.inl ⟨by rfl, ?_⟩) hHeld ?_
    rotate_left
    · intro wS hSw; go_simp; try with_reducible rfl
    try simp only [Act.put, List.setIfInBounds_toArray, List.set_cons_zero, List.set_cons_succ]
    refine takeL (i := 3) (v := ?_) rfl (by kernel_rfl) (by kernel_rfl) (by kernel_rfl) (fun _ _ _ h => h) (Or.inl ⟨by rfl, ?_⟩) hHeld ?_
    rotate_left
    · intro wS hSw; have g1 : (0 : Int) ≤ (k : Int) := (by omega); have g2 : (k : Int) ≤ (cQ : Int) := (by omega); have g3 : k ≤ cQ := (by omega); go_simp; try with_reducible rfl
    try simp only [Act.put, List.setIfInBounds_toArray, List.set_cons_zero, List.set_cons_succ]
    refine takeL (i := 5) (v := ?_) rfl (by kernel_rfl) (by kernel_rfl) (by kernel_rfl) (fun _ _ _ h => h) (Or.inl ⟨by rfl, ?_⟩) hHeld ?_
    rotate_left
    · intro wS hSw; go_simp; try with_reducible rfl
    try simp only [Act.put, List.setIfInBounds_toArray, List.set_cons_zero, List.set_cons_succ]
    refine takeL (i := 6) (v := ?_) rfl (by kernel_rfl) (by kernel_rfl) (by kernel_rfl) (fun _ _ _ h => h) (Or.inl ⟨by rfl, ?_⟩) hHeld ?_
    rotate_left
    · intro wS hSw; go_simp; try with_reducible rfl
    try simp only [Act.put, List.setIfInBounds_toArray, List.set_cons_zero, List.set_cons_succ]
    refine takeL (i := 7) (v := ?_) rfl (by kernel_rfl) (by kernel_rfl) (by kernel_rfl) (fun _ _ _ h => h) (Or.inl ⟨by rfl, ?_⟩) hHeld ?_
    rotate_left
    · intro wS hSw; go_simp; try with_reducible rfl
    try simp only [Act.put, List.setIfInBounds_toArray, List.set_cons_zero, List.set_cons_succ]
    refine takeL (i := 8) (v := ?_) rfl (by kernel_rfl) (by kernel_rfl) (by kernel_rfl) (fun _ _ _ h => h) (Or.inl ⟨by rfl, ?_⟩) hHeld ?_
    rotate_left
    · intro wS hSw; go_simp; try with_reducible rfl
    try simp only [Act.put, List.setIfInBounds_toArray, List.set_cons_zero, List.set_cons_succ]
    refine takeL (i := 14) (v := ?_) rfl (by kernel_rfl) (by kernel_rfl) (by kernel_rfl) (fun _ _ _ h => h) (Or.inl ⟨by rfl, ?_⟩) hHeld ?_
    rotate_left
    · intro wS hSw; go_simp; try with_reducible rfl
    try simp only [Act.put, List.setIfInBounds_toArray, List.set_cons_zero, List.set_cons_succ]
    refine takeL (i := 15) (v := ?_) rfl (by kernel_rfl) (by kernel_rfl) (by kernel_rfl) (fun _ _ _ h => h) (Or.inl ⟨by rfl, ?_⟩) hHeld ?_
    rotate_left
    · intro wS hSw; go_simp; try with_reducible rfl
    try simp only [Act.put, List.setIfInBounds_toArray, List.set_cons_zero, List.set_cons_succ]
    refine takeL (i := 16) (v := ?_) rfl (by kernel_rfl) (by kernel_rfl) (by kernel_rfl) (fun _ _ _ h => h) (Or.inl ⟨by rfl, ?_⟩) hHeld ?_
    rotate_left
    · intro wS hSw; have g1 : (0 : Int) ≤ (k : Int) := (by omega); have g2 : (k : Int) ≤ (n : Int) := (by omega); have g3 : n ≤ cQ := (by omega); have g4 : (n : Int) ≤ (cQ : Int) := (by omega); have g5 : ¬ cQ = k := (by omega); have g6 : k < cQ := (by omega); go_simp; try with_reducible rfl
    try simp only [Act.put, List.setIfInBounds_toArray, List.set_cons_zero, List.set_cons_succ]
    refine readyL (i := 0) (by kernel_rfl) rfl (fun K hK => ?_)
    rw [if_pos (by rfl)]
    refine wp_make _ _ _ 23 rfl w7.heap.size 54 i5 _ 5 Tryz.underlying23 Hi5.out.1 Hi5.out.2.1 Hi5.out.2.2.1 .i64 .i64 40 rfl rfl (by rw [Hi5.out.2.2.2]; omega) (by unfold maxLen; omega) (Nat.le_refl _) ?_
    intro y1 own1 gr1
    have s1 : Below w7.heap.size w7 y1 := Below.grown hHeld gr1 (Nat.le_refl _) (fun k e => by cases e)
    refine hK.out _ _ s1 (fun _ => ?_)
    clear hK K
    try simp only [Act.put, List.setIfInBounds_toArray, List.set_cons_zero, List.set_cons_succ]
    refine readyL (i := 4) (by kernel_rfl) rfl (fun K hK => ?_)
    rw [if_pos (by rfl)]
    refine wp_append_own _ _ _ 23 rfl w7.heap.size 54 i5 _ 5 40 Tryz.underlying23 Hi5.out.1 Hi5.out.2.1 Hi5.out.2.2.1 Hi5.out.2.2.2 rfl (by decide) _ 0 [] rfl own1 ⟨gQ, oQ, none⟩ k cQ (cellsL ansC (Q.take k)) rfl (by rw [cellsL_len ansC 5 (fun _ => rfl), List.length_take, Nat.min_eq_left (by rw [HM.out]; omega)]) (cells_take ansC y1 Q k gQ oQ (fun i u h => (s1.cell gQ7).trans (HQ7.out i u h))) (onesA _) (by unfold maxLen; omega) (by omega) (Below.size s1) ?_
    intro v2 y2 own2 gr_y2 _
    have s2 : Below w7.heap.size w7 y2 := Below.grown s1 gr_y2 (Below.size s1) (fun j e => (own1.lt j e).1)
    refine hK.out _ _ s2 (fun _ => ?_)
    clear hK K
    try simp only [Act.put, List.setIfInBounds_toArray, List.set_cons_zero, List.set_cons_succ]
    rw [Nat.zero_add, List.nil_append] at own2
    refine readyL (i := 9) (by kernel_rfl) rfl (fun K hK => ?_)
    go_simp
    refine (pick_any wh 10 _ yl yh (by omega) (by omega)).mono ?_
    rintro e y3 ⟨qz, rfl, _, q0, q1, rfl⟩
    obtain ⟨q, rfl⟩ := Int.eq_ofNat_of_zero_le q0
    go_wp2_with fail
    refine hK.out _ _ s2 (fun _ => ?_)
    clear hK K
    try simp only [Act.put, List.setIfInBounds_toArray, List.set_cons_zero, List.set_cons_succ]
    have hq : q < 10 := by omega
    obtain ⟨b, hb'⟩ : ∃ b, odds[q]? = some b := ⟨_, List.getElem?_eq_getElem hq⟩
    have hmem := List.mem_of_getElem? hb'
    obtain ⟨gb, ob, eb, hgb, CC⟩ := rd_ans (l := odds) RO7.out q b hb'
    injection eb with eb
    injection eb with eb1 eb2
    subst eb1 eb2
    simp only [Nat.zero_add] at CC
    clear hb' q0 q1
    obtain ⟨b0, b1, b2, b3, b4⟩ := b
    obtain ⟨c0, c1, c2, c3, c4⟩ := CC
    simp only at c0 c1 c2 c3 c4
    refine takeL (i := 10) (v := ?_) rfl (by kernel_rfl) (by kernel_rfl) (by kernel_rfl) (fun _ _ _ h => h) (Or.inl ⟨by rfl, ?_⟩) s2 ?_
    rotate_left
    · intro wS hSw; have g1 : (q : Int) < 10 := (by omega); go_simp; try with_reducible rfl
    try simp only [Act.put, List.setIfInBounds_toArray, List.set_cons_zero, List.set_cons_succ]
    refine takeL (i := 11) (v := ?_) rfl (by kernel_rfl) (by kernel_rfl) (by kernel_rfl) (fun _ _ _ h => h) (Or.inl ⟨by rfl, ?_⟩) s2 ?_
    rotate_left
    · intro wS hSw; have k0 := (hSw.cell (p := ⟨w5.heap.size, q * 5, none⟩) hgb).trans c0; have k1 := (hSw.cell (p := ⟨w5.heap.size, q * 5 + 1, none⟩) hgb).trans c1; have k2 := (hSw.cell (p := ⟨w5.heap.size, q * 5 + 2, none⟩) hgb).trans c2; have k3 := (hSw.cell (p := ⟨w5.heap.size, q * 5 + 3, none⟩) hgb).trans c3; have k4 := (hSw.cell (p := ⟨w5.heap.size, q * 5 + 4, none⟩) hgb).trans c4; go_simp; try with_reducible rfl
    try simp only [Act.put, List.setIfInBounds_toArray, List.set_cons_zero, List.set_cons_succ]
    refine readyL (i := 12) (by kernel_rfl) rfl (fun K hK => ?_)
    go_simp
    have s3 := Below.alloc s2 (Below.size s2) (.cells #[.int .i64 b0, .int .i64 b1, .int .i64 b2, .int .i64 b3, .int .i64 b4] 54)
    refine hK.out _ _ s3 (fun _ => ?_)
    clear hK K
    try simp only [Act.put, List.setIfInBounds_toArray, List.set_cons_zero, List.set_cons_succ]
    refine readyL (i := 13) (by kernel_rfl) rfl (fun K hK => ?_)
    rw [if_pos (by rfl)]
    refine wp_append_own _ _ _ 23 rfl w7.heap.size 54 i5 _ 5 40 Tryz.underlying23 Hi5.out.1 Hi5.out.2.1 Hi5.out.2.2.1 Hi5.out.2.2.2 rfl (by decide) v2 k _ rfl (own2.alloc _) ⟨y2.heap.size, 0, none⟩ 1 1 [.int .i64 b0, .int .i64 b1, .int .i64 b2, .int .i64 b3, .int .i64 b4] rfl rfl (cells_new y2 #[.int .i64 b0, .int .i64 b1, .int .i64 b2, .int .i64 b3, .int .i64 b4] 54) (by simp [Value.oneCell']) (by unfold maxLen; omega) (by omega) (Below.size s3) ?_
    intro v4 y4 own4 gr_y4 _
    have s4 : Below w7.heap.size w7 y4 := Below.grown s3 gr_y4 (Below.size s3) (fun j e => (own2.lt j e).1)
    refine hK.out _ _ s4 (fun _ => ?_)
    clear hK K
    try simp only [Act.put, List.setIfInBounds_toArray, List.set_cons_zero, List.set_cons_succ]
    refine readyL (i := 17) (by kernel_rfl) rfl (fun K hK => ?_)
    rw [if_pos (by rfl)]
    refine wp_append_own _ _ _ 23 rfl w7.heap.size 54 i5 _ 5 40 Tryz.underlying23 Hi5.out.1 Hi5.out.2.1 Hi5.out.2.2.1 Hi5.out.2.2.2 rfl (by decide) v4 (k + 1) _ rfl own4 ⟨gQ, oQ + k * 5, none⟩ (n - k) (cQ - k) (cellsL ansC (Q.drop k)) rfl (by rw [cellsL_len ansC 5 (fun _ => rfl), List.length_drop, HM.out]) (cells_drop ansC 5 (fun _ => rfl) y4 Q k gQ oQ (by rw [HM.out]; omega) (fun i u h => (s4.cell gQ7).trans (HQ7.out i u h)) _ rfl) (onesA _) (by unfold maxLen; omega) (by omega) (Below.size s4) ?_
    intro v5 y5 own5 gr_y5 _
    have s5 : Below w7.heap.size w7 y5 := Below.grown s4 gr_y5 (Below.size s4) (fun j e => (own4.lt j e).1)
    refine hK.out _ _ s5 (fun _ => ?_)
    clear hK K
    try simp only [Act.put, List.setIfInBounds_toArray, List.set_cons_zero, List.set_cons_succ]
    refine takeL (i := 18) (v := ?_) rfl (by kernel_rfl) (by kernel_rfl) (by kernel_rfl) (fun _ _ _ h => h) (Or.inl ⟨by rfl, ?_⟩) s5 ?_
    rotate_left
    · intro wS hSw; go_simp; try with_reducible rfl
    try simp only [Act.put, List.setIfInBounds_toArray, List.set_cons_zero, List.set_cons_succ]
    refine wpAnyH_done (by kernel_rfl) ?_ _
    go_wp2_with fail
    go_meet
    exact ⟨(b0, b1, b2, b3, b4), hmem, Lib.hid (rd_of_own own5 (by rw [len_mid _ _ _ (by rw [HM.out]; omega), HM.out]; omega) (by rw [cellsL_app, cellsL_app, cellsL_one])), Lib.hid s5⟩
  case rest =>
  obtain ⟨cx, hcx, RY8, b8⟩ := hcut
  rename World => w8
  have B8 : Hid (Below w.heap.size w w8) := Lib.hid (B7.out.trans (b8.out.mono (Below.size B7.out)))
  have z8 := b8.out.size
  have HP8 : Hid (∀ (i : Nat) (u : Value), (cellsL payC P)[i]? = some u → w8.cell? ⟨gP, oP + i, none⟩ = some u) := Lib.hid (fun i u h => (b8.out.cell gP7).trans (HP7.out i u h))
  have gP8 : gP < w8.heap.size := by omega
  have HQ8 : Hid (∀ (i : Nat) (u : Value), (cellsL ansC Q)[i]? = some u → w8.cell? ⟨gQ, oQ + i, none⟩ = some u) := Lib.hid (fun i u h => (b8.out.cell gQ7).trans (HQ7.out i u h))
  have gQ8 : gQ < w8.heap.size := by omega
  have RX8 := Lib.hid (RX7.out.below b8.out)
  clear b8 B7 z7
  clear HP7 gP7
  clear HQ7 gQ7
  clear RX7
  have T8 := hT.below B8.out
  have lX : (P.take k ++ [bx] ++ P.drop k).length ≤ 1000000 := by rw [len_mid _ _ _ (by rw [HN.out]; omega), HN.out]; omega
  have lY : (Q.take k ++ [cx] ++ Q.drop k).length ≤ 1000000 := by rw [len_mid _ _ _ (by rw [HM.out]; omega), HM.out]; omega
  clear RB7 RO7 z8 lb5 lo6
  go_wp2_with fail
  refine (Write_any _ _ _ T8 RX8.out (accs_mid P k bx PAcc.out (bads_short bx hbx)) lX).mono ?_
  rintro e w9 ⟨s9, rfl, _, b9⟩
  rw [refP P k bx (by rw [HN.out]; exact ln) hbx]
  have B9 : Hid (Below w.heap.size w w9) := Lib.hid (B8.out.trans (b9.out.mono (Below.size B8.out)))
  have z9 := b9.out.size
  have HP9 : Hid (∀ (i : Nat) (u : Value), (cellsL payC P)[i]? = some u → w9.cell? ⟨gP, oP + i, none⟩ = some u) := Lib.hid (fun i u h => (b9.out.cell gP8).trans (HP8.out i u h))
  have gP9 : gP < w9.heap.size := by omega
  have HQ9 : Hid (∀ (i : Nat) (u : Value), (cellsL ansC Q)[i]? = some u → w9.cell? ⟨gQ, oQ + i, none⟩ = some u) := Lib.hid (fun i u h => (b9.out.cell gQ8).trans (HQ8.out i u h))
  have gQ9 : gQ < w9.heap.size := by omega
  have RY9 := Lib.hid (RY8.out.below b9.out)
  clear b9 B8
  clear HP8 gP8
  clear HQ8 gQ8
  clear RY8
  have T9 := hT.below B9.out
  clear T8 lX RX8
  go_wp2_with fail
  refine (WriteAnswers_any _ _ _ T9 RY9.out lY).mono ?_
  rintro e w10 ⟨s10, rfl, _, b10⟩
  rw [refA Q k cx (by rw [HM.out]; exact ln) hcx]
  have B10 : Hid (Below w.heap.size w w10) := Lib.hid (B9.out.trans (b10.out.mono (Below.size B9.out)))
  have z10 := b10.out.size
  have HP10 : Hid (∀ (i : Nat) (u : Value), (cellsL payC P)[i]? = some u → w10.cell? ⟨gP, oP + i, none⟩ = some u) := Lib.hid (fun i u h => (b10.out.cell gP9).trans (HP9.out i u h))
  have gP10 : gP < w10.heap.size := by omega
  have HQ10 : Hid (∀ (i : Nat) (u : Value), (cellsL ansC Q)[i]? = some u → w10.cell? ⟨gQ, oQ + i, none⟩ = some u) := Lib.hid (fun i u h => (b10.out.cell gQ9).trans (HQ9.out i u h))
  have gQ10 : gQ < w10.heap.size := by omega
  clear b10 B9 z9
  clear HP9 gP9
  clear HQ9 gQ9
  have T10 := hT.below B10.out
  clear T9 lY RY9 z10
  go_upto_region 13 with fail
  go_cut [19, 20] (fun s19 s20 wx => s20 = .int .i64 5 ∧ Hid (Below w10.heap.size w10 wx))
  case first =>
    obtain ⟨b, hb'⟩ : ∃ b, P[k]? = some b := ⟨_, List.getElem?_eq_getElem (by rw [HN.out]; exact hk)⟩
    have hmem := Lib.hid (List.mem_of_getElem? hb')
    have CC := fun j u hj => HP10.out _ u (cellsL_at payC 4 (fun _ => rfl) P k j b u hb' hj)
    obtain ⟨b0, b1, b2, b3⟩ := b
    have c0 := CC 0 _ rfl
    have c1 := CC 1 _ rfl
    have c2 := CC 2 _ rfl
    have c3 := CC 3 _ rfl
    simp only [← Nat.add_assoc, Nat.add_zero] at c0 c1 c2 c3
    clear CC hb'
    go_wp2_with fail
    refine wp_region_held_drew (S := (fun W => Below w10.heap.size w10 W)) (by kernel_rfl) ((Below.refl _ _).drew) (fun hHeld => ?_)
    refine takeL (i := 1) (v := ?_) rfl (by kernel_rfl) (by kernel_rfl) (by kernel_rfl) (fun _ _ _ h => h) (Or.inl ⟨by rfl, ?_⟩) hHeld ?_
    rotate_left
    · intro wS hSw; go_simp; try with_reducible rfl
    try simp only [Act.put, List.setIfInBounds_toArray, List.set_cons_zero, List.set_cons_succ]
    refine takeL (i := 3) (v := ?_) rfl (by kernel_rfl) (by kernel_rfl) (by kernel_rfl) (fun _ _ _ h => h) (Or.inl ⟨by rfl, ?_⟩) hHeld ?_
    rotate_left
    · intro wS hSw; go_simp; try with_reducible rfl
    try simp only [Act.put, List.setIfInBounds_toArray, List.set_cons_zero, List.set_cons_succ]
    refine takeL (i := 4) (v := ?_) rfl (by kernel_rfl) (by kernel_rfl) (by kernel_rfl) (fun _ _ _ h => h) (Or.inl ⟨by rfl, ?_⟩) hHeld ?_
    rotate_left
    · intro wS hSw; go_simp; try with_reducible rfl
    try simp only [Act.put, List.setIfInBounds_toArray, List.set_cons_zero, List.set_cons_succ]
    refine takeL (i := 5) (v := ?_) rfl (by kernel_rfl) (by kernel_rfl) (by kernel_rfl) (fun _ _ _ h => h) (Or.inl ⟨by rfl, ?_⟩) hHeld ?_
    rotate_left
    · intro wS hSw; have g1 : (k : Int) < (n : Int) := (by omega); go_simp; try with_reducible rfl
    try simp only [Act.put, List.setIfInBounds_toArray, List.set_cons_zero, List.set_cons_succ]
    refine takeL (i := 6) (v := ?_) rfl (by kernel_rfl) (by kernel_rfl) (by kernel_rfl) (fun _ _ _ h => h) (Or.inl ⟨by rfl, ?_⟩) hHeld ?_
    rotate_left
    · intro wS hSw; have k0 := (hSw.cell (p := ⟨gP, oP + k * 4, none⟩) gP10).trans c0; have k1 := (hSw.cell (p := ⟨gP, oP + k * 4 + 1, none⟩) gP10).trans c1; have k2 := (hSw.cell (p := ⟨gP, oP + k * 4 + 2, none⟩) gP10).trans c2; have k3 := (hSw.cell (p := ⟨gP, oP + k * 4 + 3, none⟩) gP10).trans c3; go_simp; try with_reducible rfl
    try simp only [Act.put, List.setIfInBounds_toArray, List.set_cons_zero, List.set_cons_succ]
    refine readyL2 (i := 0) (j := 7) (by kernel_rfl) rfl rfl (fun K hK => ?_) (fun K hK => ?_)
    · rw [if_pos (by rfl)]
      refine wp_make _ _ _ 22 rfl w10.heap.size 27 i4 _ 4 Tryz.underlying22 Hi4.out.1 Hi4.out.2.1 Hi4.out.2.2.1 .i64 .i64 40 rfl rfl (by rw [Hi4.out.2.2.2]; omega) (by unfold maxLen; omega) (Below.size hHeld) ?_
      intro y1 own1 gr1
      have s1 : Below w10.heap.size w10 y1 := Below.grown hHeld gr1 (Below.size hHeld) (fun k e => by cases e)
      refine hK.out _ _ s1 (fun _ => ?_)
      clear hK K
      try simp only [Act.put, List.setIfInBounds_toArray, List.set_cons_zero, List.set_cons_succ]
      refine readyL2 (i := 2) (j := 7) (by kernel_rfl) rfl rfl (fun K hK => ?_) (fun K hK => ?_)
      · rw [if_pos (by rfl)]
        refine wp_append_own _ _ _ 22 rfl w10.heap.size 27 i4 _ 4 40 Tryz.underlying22 Hi4.out.1 Hi4.out.2.1 Hi4.out.2.2.1 Hi4.out.2.2.2 rfl (by decide) _ 0 [] rfl own1 ⟨gP, oP, none⟩ n cP (cellsL payC P) rfl (by rw [cellsL_len payC 4 (fun _ => rfl), HN.out]) (fun j u h => by rw [add_at]; exact (s1.cell gP10).trans (HP10.out j u h)) (onesP _) (by unfold maxLen; omega) (by omega) (Below.size s1) ?_
        intro v2 y2 own2 gr2 _
        rw [Nat.zero_add, List.nil_append] at own2
        have s2 : Below w10.heap.size w10 y2 := Below.grown s1 gr2 (Below.size s1) (fun j e => (own1.lt j e).1)
        refine hK.out _ _ s2 (fun _ => ?_)
        clear hK K
        try simp only [Act.put, List.setIfInBounds_toArray, List.set_cons_zero, List.set_cons_succ]
        refine readyL (i := 7) (by kernel_rfl) rfl (fun K hK => ?_)
        go_simp
        have s3 := Below.alloc s2 (Below.size s2) (.cells #[.int .i64 b0, str b1, .int .i64 b2, .int .i64 b3] 27)
        refine hK.out _ _ s3 (fun _ => ?_)
        clear hK K
        try simp only [Act.put, List.setIfInBounds_toArray, List.set_cons_zero, List.set_cons_succ]
        refine readyL (i := 8) (by kernel_rfl) rfl (fun K hK => ?_)
        rw [if_pos (by rfl)]
        refine wp_append_own _ _ _ 22 rfl w10.heap.size 27 i4 _ 4 40 Tryz.underlying22 Hi4.out.1 Hi4.out.2.1 Hi4.out.2.2.1 Hi4.out.2.2.2 rfl (by decide) v2 n _ rfl (own2.alloc _) ⟨y2.heap.size, 0, none⟩ 1 1 [.int .i64 b0, str b1, .int .i64 b2, .int .i64 b3] rfl rfl (cells_new y2 #[.int .i64 b0, str b1, .int .i64 b2, .int .i64 b3] 27) (by simp [Value.oneCell', str]) (by unfold maxLen; omega) (by omega) (Below.size s3) ?_
        intro v4 y4 own4 gr4 _
        have s4 : Below w10.heap.size w10 y4 := Below.grown s3 gr4 (Below.size s3) (fun j e => (own2.lt j e).1)
        refine hK.out _ _ s4 (fun _ => ?_)
        clear hK K
        try simp only [Act.put, List.setIfInBounds_toArray, List.set_cons_zero, List.set_cons_succ]
        refine readyL (i := 9) (by kernel_rfl) rfl (fun K hK => ?_)
        go_simp
        have R4 : Rd payC 4 y4 v4 (P ++ [(b0, b1, b2, b3)]) := rd_of_own own4 (by rw [List.length_append, HN.out]; rfl) (by rw [cellsL_app, cellsL_one])
        refine (Write_any _ _ _ (hT.below (B10.out.trans (s4.mono (Below.size B10.out)))) R4 (accs_end P _ PAcc.out hmem.out) (by rw [List.length_append, HN.out]; show n + 1 ≤ _; omega)).mono ?_
        rintro e y5 ⟨s5, rfl, _, b5⟩
        rw [twP P _ (by rw [HN.out]; exact ln) PAll.out hmem.out]
        have q5 : Below w10.heap.size w10 y5 := Below.trans s4 (b5.out.mono (Below.size s4))
        go_wp2_with fail
        refine hK.out _ _ q5 (fun _ => ?_)
        clear hK K
        try simp only [Act.put, List.setIfInBounds_toArray, List.set_cons_zero, List.set_cons_succ]
        refine takeL (i := 10) (v := ?_) rfl (by kernel_rfl) (by kernel_rfl) (by kernel_rfl) (fun _ _ _ h => h) (Or.inl ⟨by rfl, ?_⟩) q5 ?_
        rotate_left
        · intro wS hSw; go_simp; try with_reducible rfl
        try simp only [Act.put, List.setIfInBounds_toArray, List.set_cons_zero, List.set_cons_succ]
        refine takeL (i := 11) (v := ?_) rfl (by kernel_rfl) (by kernel_rfl) (by kernel_rfl) (fun _ _ _ h => h) (Or.inl ⟨by rfl, ?_⟩) q5 ?_
        rotate_left
        · intro wS hSw; go_simp; try with_reducible rfl
        try simp only [Act.put, List.setIfInBounds_toArray, List.set_cons_zero, List.set_cons_succ]
        refine takeL (i := 12) (v := ?_) rfl (by kernel_rfl) (by kernel_rfl) (by kernel_rfl) (fun _ _ _ h => h) (Or.inl ⟨by rfl, ?_⟩) q5 ?_
        rotate_left
        · intro wS hSw; go_simp; try with_reducible rfl
        try simp only [Act.put, List.setIfInBounds_toArray, List.set_cons_zero, List.set_cons_succ]
        refine takeL (i := 13) (v := ?_) rfl (by kernel_rfl) (by kernel_rfl) (by kernel_rfl) (fun _ _ _ h => h) (Or.inl ⟨by rfl, ?_⟩) q5 ?_
        rotate_left
        · intro wS hSw; go_simp; try with_reducible rfl
        try simp only [Act.put, List.setIfInBounds_toArray, List.set_cons_zero, List.set_cons_succ]
        refine takeL (i := 14) (v := ?_) rfl (by kernel_rfl) (by kernel_rfl) (by kernel_rfl) (fun _ _ _ h => h) (Or.inl ⟨by rfl, ?_⟩) q5 ?_
        rotate_left
        · intro wS hSw; go_simp; try with_reducible rfl
        try simp only [Act.put, List.setIfInBounds_toArray, List.set_cons_zero, List.set_cons_succ]
        refine wpAnyH_done (by kernel_rfl) ?_ _
        go_wp2_with fail
        go_meet
        exact ⟨rfl, Lib.hid q5⟩
      · go_simp
        have s3 := Below.alloc s1 (Below.size s1) (.cells #[.int .i64 b0, str b1, .int .i64 b2, .int .i64 b3] 27)
        refine hK.out _ _ s3 (fun _ => ?_)
        clear hK K
        try simp only [Act.put, List.setIfInBounds_toArray, List.set_cons_zero, List.set_cons_succ]
        refine readyL (i := 2) (by kernel_rfl) rfl (fun K hK => ?_)
        rw [if_pos (by rfl)]
        refine wp_append_own _ _ _ 22 rfl w10.heap.size 27 i4 _ 4 40 Tryz.underlying22 Hi4.out.1 Hi4.out.2.1 Hi4.out.2.2.1 Hi4.out.2.2.2 rfl (by decide) _ 0 [] rfl (own1.alloc _) ⟨gP, oP, none⟩ n cP (cellsL payC P) rfl (by rw [cellsL_len payC 4 (fun _ => rfl), HN.out]) (fun j u h => by rw [add_at]; exact (s3.cell gP10).trans (HP10.out j u h)) (onesP _) (by unfold maxLen; omega) (by omega) (Below.size s3) ?_
        intro v2 y2 own2 gr2 _
        rw [Nat.zero_add, List.nil_append] at own2
        have s2 : Below w10.heap.size w10 y2 := Below.grown s3 gr2 (Below.size s3) (fun j e => (own1.lt j e).1)
        have cb := kept_cells (b := y1.heap.size) (xs := [.int .i64 b0, str b1, .int .i64 b2, .int .i64 b3]) gr2 (by simp) (fun k e => by have := (own1.lt k e).2; omega) (cells_new y1 #[.int .i64 b0, str b1, .int .i64 b2, .int .i64 b3] 27)
        refine hK.out _ _ s2 (fun _ => ?_)
        clear hK K
        try simp only [Act.put, List.setIfInBounds_toArray, List.set_cons_zero, List.set_cons_succ]
        refine readyL (i := 8) (by kernel_rfl) rfl (fun K hK => ?_)
        rw [if_pos (by rfl)]
        refine wp_append_own _ _ _ 22 rfl w10.heap.size 27 i4 _ 4 40 Tryz.underlying22 Hi4.out.1 Hi4.out.2.1 Hi4.out.2.2.1 Hi4.out.2.2.2 rfl (by decide) v2 n _ rfl own2 ⟨y1.heap.size, 0, none⟩ 1 1 [.int .i64 b0, str b1, .int .i64 b2, .int .i64 b3] rfl rfl cb (by simp [Value.oneCell', str]) (by unfold maxLen; omega) (by omega) (Below.size s2) ?_
        intro v4 y4 own4 gr4 _
        have s4 : Below w10.heap.size w10 y4 := Below.grown s2 gr4 (Below.size s2) (fun j e => (own2.lt j e).1)
        refine hK.out _ _ s4 (fun _ => ?_)
        clear hK K
        try simp only [Act.put, List.setIfInBounds_toArray, List.set_cons_zero, List.set_cons_succ]
        refine readyL (i := 9) (by kernel_rfl) rfl (fun K hK => ?_)
        go_simp
        have R4 : Rd payC 4 y4 v4 (P ++ [(b0, b1, b2, b3)]) := rd_of_own own4 (by rw [List.length_append, HN.out]; rfl) (by rw [cellsL_app, cellsL_one])
        refine (Write_any _ _ _ (hT.below (B10.out.trans (s4.mono (Below.size B10.out)))) R4 (accs_end P _ PAcc.out hmem.out) (by rw [List.length_append, HN.out]; show n + 1 ≤ _; omega)).mono ?_
        rintro e y5 ⟨s5, rfl, _, b5⟩
        rw [twP P _ (by rw [HN.out]; exact ln) PAll.out hmem.out]
        have q5 : Below w10.heap.size w10 y5 := Below.trans s4 (b5.out.mono (Below.size s4))
        go_wp2_with fail
        refine hK.out _ _ q5 (fun _ => ?_)
        clear hK K
        try simp only [Act.put, List.setIfInBounds_toArray, List.set_cons_zero, List.set_cons_succ]
        refine takeL (i := 10) (v := ?_) rfl (by kernel_rfl) (by kernel_rfl) (by kernel_rfl) (fun _ _ _ h => h) (Or.inl ⟨by rfl, ?_⟩) q5 ?_
        rotate_left
        · intro wS hSw; go_simp; try with_reducible rfl
        try simp only [Act.put, List.setIfInBounds_toArray, List.set_cons_zero, List.set_cons_succ]
        refine takeL (i := 11) (v := ?_) rfl (by kernel_rfl) (by kernel_rfl) (by kernel_rfl) (fun _ _ _ h => h) (Or.inl ⟨by rfl, ?_⟩) q5 ?_
        rotate_left
        · intro wS hSw; go_simp; try with_reducible rfl
        try simp only [Act.put, List.setIfInBounds_toArray, List.set_cons_zero, List.set_cons_succ]
        refine takeL (i := 12) (v := ?_) rfl (by kernel_rfl) (by kernel_rfl) (by kernel_rfl) (fun _ _ _ h => h) (Or.inl ⟨by rfl, ?_⟩) q5 ?_
        rotate_left
        · intro wS hSw; go_simp; try with_reducible rfl
        try simp only [Act.put, List.setIfInBounds_toArray, List.set_cons_zero, List.set_cons_succ]
        refine takeL (i := 13) (v := ?_) rfl (by kernel_rfl) (by kernel_rfl) (by kernel_rfl) (fun _ _ _ h => h) (Or.inl ⟨by rfl, ?_⟩) q5 ?_
        rotate_left
        · intro wS hSw; go_simp; try with_reducible rfl
        try simp only [Act.put, List.setIfInBounds_toArray, List.set_cons_zero, List.set_cons_succ]
        refine takeL (i := 14) (v := ?_) rfl (by kernel_rfl) (by kernel_rfl) (by kernel_rfl) (fun _ _ _ h => h) (Or.inl ⟨by rfl, ?_⟩) q5 ?_
        rotate_left
        · intro wS hSw; go_simp; try with_reducible rfl
        try simp only [Act.put, List.setIfInBounds_toArray, List.set_cons_zero, List.set_cons_succ]
        refine wpAnyH_done (by kernel_rfl) ?_ _
        go_wp2_with fail
        go_meet
        exact ⟨rfl, Lib.hid q5⟩
    · go_simp
      have s0 := ((Below.refl w10.heap.size w10).alloc (Nat.le_refl _) (.cells #[.int .i64 b0, str b1, .int .i64 b2, .int .i64 b3] 27)).drew
      refine hK.out _ _ s0 (fun _ => ?_)
      clear hK K
      try simp only [Act.put, List.setIfInBounds_toArray, List.set_cons_zero, List.set_cons_succ]
      refine readyL (i := 0) (by kernel_rfl) rfl (fun K hK => ?_)
      rw [if_pos (by rfl)]
      refine wp_make _ _ _ 22 rfl w10.heap.size 27 i4 _ 4 Tryz.underlying22 Hi4.out.1 Hi4.out.2.1 Hi4.out.2.2.1 .i64 .i64 40 rfl rfl (by rw [Hi4.out.2.2.2]; omega) (by unfold maxLen; omega) (Below.size s0) ?_
      intro y1 own1 gr1
      have s1 : Below w10.heap.size w10 y1 := Below.grown s0 gr1 (Below.size s0) (fun k e => by cases e)
      have cb1 := kept_cells (w := (w10.alloc (.cells #[.int .i64 b0, str b1, .int .i64 b2, .int .i64 b3] 27)).drew) (b := w10.heap.size) (xs := [.int .i64 b0, str b1, .int .i64 b2, .int .i64 b3]) gr1 (by simp) (fun k e => by cases e) (cells_new w10 #[.int .i64 b0, str b1, .int .i64 b2, .int .i64 b3] 27)
      have lt1 : w10.heap.size < y1.heap.size := Nat.lt_of_lt_of_le (by simp) gr1.size
      refine hK.out _ _ s1 (fun _ => ?_)
      clear hK K
      try simp only [Act.put, List.setIfInBounds_toArray, List.set_cons_zero, List.set_cons_succ]
      refine readyL (i := 2) (by kernel_rfl) rfl (fun K hK => ?_)
      rw [if_pos (by rfl)]
      refine wp_append_own _ _ _ 22 rfl w10.heap.size 27 i4 _ 4 40 Tryz.underlying22 Hi4.out.1 Hi4.out.2.1 Hi4.out.2.2.1 Hi4.out.2.2.2 rfl (by decide) _ 0 [] rfl own1 ⟨gP, oP, none⟩ n cP (cellsL payC P) rfl (by rw [cellsL_len payC 4 (fun _ => rfl), HN.out]) (fun j u h => by rw [add_at]; exact (s1.cell gP10).trans (HP10.out j u h)) (onesP _) (by unfold maxLen; omega) (by omega) (Below.size s1) ?_
      intro v2 y2 own2 gr2 _
      rw [Nat.zero_add, List.nil_append] at own2
      have s2 : Below w10.heap.size w10 y2 := Below.grown s1 gr2 (Below.size s1) (fun j e => (own1.lt j e).1)
      have cb := kept_cells (b := w10.heap.size) (xs := [.int .i64 b0, str b1, .int .i64 b2, .int .i64 b3]) gr2 lt1 (fun k e => by have e1 : (w10.alloc (.cells #[.int .i64 b0, str b1, .int .i64 b2, .int .i64 b3] 27)).drew.heap.size = k := Option.some.inj e; rw [← e1]; simp) cb1
      refine hK.out _ _ s2 (fun _ => ?_)
      clear hK K
      try simp only [Act.put, List.setIfInBounds_toArray, List.set_cons_zero, List.set_cons_succ]
      refine readyL (i := 8) (by kernel_rfl) rfl (fun K hK => ?_)
      rw [if_pos (by rfl)]
      refine wp_append_own _ _ _ 22 rfl w10.heap.size 27 i4 _ 4 40 Tryz.underlying22 Hi4.out.1 Hi4.out.2.1 Hi4.out.2.2.1 Hi4.out.2.2.2 rfl (by decide) v2 n _ rfl own2 ⟨w10.heap.size, 0, none⟩ 1 1 [.int .i64 b0, str b1, .int .i64 b2, .int .i64 b3] rfl rfl cb (by simp [Value.oneCell', str]) (by unfold maxLen; omega) (by omega) (Below.size s2) ?_
      intro v4 y4 own4 gr4 _
      have s4 : Below w10.heap.size w10 y4 := Below.grown s2 gr4 (Below.size s2) (fun j e => (own2.lt j e).1)
      refine hK.out _ _ s4 (fun _ => ?_)
      clear hK K
      try simp only [Act.put, List.setIfInBounds_toArray, List.set_cons_zero, List.set_cons_succ]
      refine readyL (i := 9) (by kernel_rfl) rfl (fun K hK => ?_)
      go_simp
      have R4 : Rd payC 4 y4 v4 (P ++ [(b0, b1, b2, b3)]) := rd_of_own own4 (by rw [List.length_append, HN.out]; rfl) (by rw [cellsL_app, cellsL_one])
      refine (Write_any _ _ _ (hT.below (B10.out.trans (s4.mono (Below.size B10.out)))) R4 (accs_end P _ PAcc.out hmem.out) (by rw [List.length_append, HN.out]; show n + 1 ≤ _; omega)).mono ?_
      rintro e y5 ⟨s5, rfl, _, b5⟩
      rw [twP P _ (by rw [HN.out]; exact ln) PAll.out hmem.out]
      have q5 : Below w10.heap.size w10 y5 := Below.trans s4 (b5.out.mono (Below.size s4))
      go_wp2_with fail
      refine hK.out _ _ q5 (fun _ => ?_)
      clear hK K
      try simp only [Act.put, List.setIfInBounds_toArray, List.set_cons_zero, List.set_cons_succ]
      refine takeL (i := 10) (v := ?_) rfl (by kernel_rfl) (by kernel_rfl) (by kernel_rfl) (fun _ _ _ h => h) (Or.inl ⟨by rfl, ?_⟩) q5 ?_
      rotate_left
      · intro wS hSw; go_simp; try with_reducible rfl
      try simp only [Act.put, List.setIfInBounds_toArray, List.set_cons_zero, List.set_cons_succ]
      refine takeL (i := 11) (v := ?_) rfl (by kernel_rfl) (by kernel_rfl) (by kernel_rfl) (fun _ _ _ h => h) (Or.inl ⟨by rfl, ?_⟩) q5 ?_
      rotate_left
      · intro wS hSw; go_simp; try with_reducible rfl
      try simp only [Act.put, List.setIfInBounds_toArray, List.set_cons_zero, List.set_cons_succ]
      refine takeL (i := 12) (v := ?_) rfl (by kernel_rfl) (by kernel_rfl) (by kernel_rfl) (fun _ _ _ h => h) (Or.inl ⟨by rfl, ?_⟩) q5 ?_
      rotate_left
      · intro wS hSw; go_simp; try with_reducible rfl
      try simp only [Act.put, List.setIfInBounds_toArray, List.set_cons_zero, List.set_cons_succ]
      refine takeL (i := 13) (v := ?_) rfl (by kernel_rfl) (by kernel_rfl) (by kernel_rfl) (fun _ _ _ h => h) (Or.inl ⟨by rfl, ?_⟩) q5 ?_
      rotate_left
      · intro wS hSw; go_simp; try with_reducible rfl
      try simp only [Act.put, List.setIfInBounds_toArray, List.set_cons_zero, List.set_cons_succ]
      refine takeL (i := 14) (v := ?_) rfl (by kernel_rfl) (by kernel_rfl) (by kernel_rfl) (fun _ _ _ h => h) (Or.inl ⟨by rfl, ?_⟩) q5 ?_
      rotate_left
      · intro wS hSw; go_simp; try with_reducible rfl
      try simp only [Act.put, List.setIfInBounds_toArray, List.set_cons_zero, List.set_cons_succ]
      refine wpAnyH_done (by kernel_rfl) ?_ _
      go_wp2_with fail
      go_meet
      exact ⟨rfl, Lib.hid q5⟩
  case rest =>
  obtain ⟨rfl, b11⟩ := hcut
  rename World => w11
  have B11 : Hid (Below w.heap.size w w11) := Lib.hid (B10.out.trans (b11.out.mono (Below.size B10.out)))
  have z11 := b11.out.size
  have HP11 : Hid (∀ (i : Nat) (u : Value), (cellsL payC P)[i]? = some u → w11.cell? ⟨gP, oP + i, none⟩ = some u) := Lib.hid (fun i u h => (b11.out.cell gP10).trans (HP10.out i u h))
  have gP11 : gP < w11.heap.size := by omega
  have HQ11 : Hid (∀ (i : Nat) (u : Value), (cellsL ansC Q)[i]? = some u → w11.cell? ⟨gQ, oQ + i, none⟩ = some u) := Lib.hid (fun i u h => (b11.out.cell gQ10).trans (HQ10.out i u h))
  have gQ11 : gQ < w11.heap.size := by omega
  clear b11 B10
  clear HP10 gP10
  clear HQ10 gQ10
  go_upto_region 14 with fail
  go_cut [21, 22] (fun s21 s22 wx => s22 = .int .i64 5 ∧ Hid (Below w11.heap.size w11 wx))
  case first =>
    obtain ⟨b, hb'⟩ : ∃ b, Q[k]? = some b := ⟨_, List.getElem?_eq_getElem (by rw [HM.out]; exact hk)⟩
    have hmem := Lib.hid (List.mem_of_getElem? hb')
    have CC := fun j u hj => HQ11.out _ u (cellsL_at ansC 5 (fun _ => rfl) Q k j b u hb' hj)
    obtain ⟨b0, b1, b2, b3, b4⟩ := b
    have c0 := CC 0 _ rfl
    have c1 := CC 1 _ rfl
    have c2 := CC 2 _ rfl
    have c3 := CC 3 _ rfl
    have c4 := CC 4 _ rfl
    simp only [← Nat.add_assoc, Nat.add_zero] at c0 c1 c2 c3 c4
    clear CC hb'
    go_wp2_with fail
    refine wp_region_held_drew (S := (fun W => Below w11.heap.size w11 W)) (by kernel_rfl) ((Below.refl _ _).drew) (fun hHeld => ?_)
    refine takeL (i := 1) (v := ?_) rfl (by kernel_rfl) (by kernel_rfl) (by kernel_rfl) (fun _ _ _ h => h) (Or.inl ⟨by rfl, ?_⟩) hHeld ?_
    rotate_left
    · intro wS hSw; go_simp; try with_reducible rfl
    try simp only [Act.put, List.setIfInBounds_toArray, List.set_cons_zero, List.set_cons_succ]
    refine takeL (i := 3) (v := ?_) rfl (by kernel_rfl) (by kernel_rfl) (by kernel_rfl) (fun _ _ _ h => h) (Or.inl ⟨by rfl, ?_⟩) hHeld ?_
    rotate_left
    · intro wS hSw; go_simp; try with_reducible rfl
    try simp only [Act.put, List.setIfInBounds_toArray, List.set_cons_zero, List.set_cons_succ]
    refine takeL (i := 4) (v := ?_) rfl (by kernel_rfl) (by kernel_rfl) (by kernel_rfl) (fun _ _ _ h => h) (Or.inl ⟨by rfl, ?_⟩) hHeld ?_
    rotate_left
    · intro wS hSw; go_simp; try with_reducible rfl
    try simp only [Act.put, List.setIfInBounds_toArray, List.set_cons_zero, List.set_cons_succ]
    refine takeL (i := 5) (v := ?_) rfl (by kernel_rfl) (by kernel_rfl) (by kernel_rfl) (fun _ _ _ h => h) (Or.inl ⟨by rfl, ?_⟩) hHeld ?_
    rotate_left
    · intro wS hSw; have g1 : (k : Int) < (n : Int) := (by omega); go_simp; try with_reducible rfl
    try simp only [Act.put, List.setIfInBounds_toArray, List.set_cons_zero, List.set_cons_succ]
    refine takeL (i := 6) (v := ?_) rfl (by kernel_rfl) (by kernel_rfl) (by kernel_rfl) (fun _ _ _ h => h) (Or.inl ⟨by rfl, ?_⟩) hHeld ?_
    rotate_left
    · intro wS hSw; have k0 := (hSw.cell (p := ⟨gQ, oQ + k * 5, none⟩) gQ11).trans c0; have k1 := (hSw.cell (p := ⟨gQ, oQ + k * 5 + 1, none⟩) gQ11).trans c1; have k2 := (hSw.cell (p := ⟨gQ, oQ + k * 5 + 2, none⟩) gQ11).trans c2; have k3 := (hSw.cell (p := ⟨gQ, oQ + k * 5 + 3, none⟩) gQ11).trans c3; have k4 := (hSw.cell (p := ⟨gQ, oQ + k * 5 + 4, none⟩) gQ11).trans c4; go_simp; try with_reducible rfl
    try simp only [Act.put, List.setIfInBounds_toArray, List.set_cons_zero, List.set_cons_succ]
    refine readyL2 (i := 0) (j := 7) (by kernel_rfl) rfl rfl (fun K hK => ?_) (fun K hK => ?_)
    · rw [if_pos (by rfl)]
      refine wp_make _ _ _ 23 rfl w11.heap.size 54 i5 _ 5 Tryz.underlying23 Hi5.out.1 Hi5.out.2.1 Hi5.out.2.2.1 .i64 .i64 40 rfl rfl (by rw [Hi5.out.2.2.2]; omega) (by unfold maxLen; omega) (Below.size hHeld) ?_
      intro y1 own1 gr1
      have s1 : Below w11.heap.size w11 y1 := Below.grown hHeld gr1 (Below.size hHeld) (fun k e => by cases e)
      refine hK.out _ _ s1 (fun _ => ?_)
      clear hK K
      try simp only [Act.put, List.setIfInBounds_toArray, List.set_cons_zero, List.set_cons_succ]
      refine readyL2 (i := 2) (j := 7) (by kernel_rfl) rfl rfl (fun K hK => ?_) (fun K hK => ?_)
      · rw [if_pos (by rfl)]
        refine wp_append_own _ _ _ 23 rfl w11.heap.size 54 i5 _ 5 40 Tryz.underlying23 Hi5.out.1 Hi5.out.2.1 Hi5.out.2.2.1 Hi5.out.2.2.2 rfl (by decide) _ 0 [] rfl own1 ⟨gQ, oQ, none⟩ n cQ (cellsL ansC Q) rfl (by rw [cellsL_len ansC 5 (fun _ => rfl), HM.out]) (fun j u h => by rw [add_at]; exact (s1.cell gQ11).trans (HQ11.out j u h)) (onesA _) (by unfold maxLen; omega) (by omega) (Below.size s1) ?_
        intro v2 y2 own2 gr2 _
        rw [Nat.zero_add, List.nil_append] at own2
        have s2 : Below w11.heap.size w11 y2 := Below.grown s1 gr2 (Below.size s1) (fun j e => (own1.lt j e).1)
        refine hK.out _ _ s2 (fun _ => ?_)
        clear hK K
        try simp only [Act.put, List.setIfInBounds_toArray, List.set_cons_zero, List.set_cons_succ]
        refine readyL (i := 7) (by kernel_rfl) rfl (fun K hK => ?_)
        go_simp
        have s3 := Below.alloc s2 (Below.size s2) (.cells #[.int .i64 b0, .int .i64 b1, .int .i64 b2, .int .i64 b3, .int .i64 b4] 54)
        refine hK.out _ _ s3 (fun _ => ?_)
        clear hK K
        try simp only [Act.put, List.setIfInBounds_toArray, List.set_cons_zero, List.set_cons_succ]
        refine readyL (i := 8) (by kernel_rfl) rfl (fun K hK => ?_)
        rw [if_pos (by rfl)]
        refine wp_append_own _ _ _ 23 rfl w11.heap.size 54 i5 _ 5 40 Tryz.underlying23 Hi5.out.1 Hi5.out.2.1 Hi5.out.2.2.1 Hi5.out.2.2.2 rfl (by decide) v2 n _ rfl (own2.alloc _) ⟨y2.heap.size, 0, none⟩ 1 1 [.int .i64 b0, .int .i64 b1, .int .i64 b2, .int .i64 b3, .int .i64 b4] rfl rfl (cells_new y2 #[.int .i64 b0, .int .i64 b1, .int .i64 b2, .int .i64 b3, .int .i64 b4] 54) (by simp [Value.oneCell']) (by unfold maxLen; omega) (by omega) (Below.size s3) ?_
        intro v4 y4 own4 gr4 _
        have s4 : Below w11.heap.size w11 y4 := Below.grown s3 gr4 (Below.size s3) (fun j e => (own2.lt j e).1)
        refine hK.out _ _ s4 (fun _ => ?_)
        clear hK K
        try simp only [Act.put, List.setIfInBounds_toArray, List.set_cons_zero, List.set_cons_succ]
        refine readyL (i := 9) (by kernel_rfl) rfl (fun K hK => ?_)
        go_simp
        have R4 : Rd ansC 5 y4 v4 (Q ++ [(b0, b1, b2, b3, b4)]) := rd_of_own own4 (by rw [List.length_append, HM.out]; rfl) (by rw [cellsL_app, cellsL_one])
        refine (WriteAnswers_any _ _ _ (hT.below (B11.out.trans (s4.mono (Below.size B11.out)))) R4 (by rw [List.length_append, HM.out]; show n + 1 ≤ _; omega)).mono ?_
        rintro e y5 ⟨s5, rfl, _, b5⟩
        rw [twA Q _ (by rw [HM.out]; exact ln) AAll.out hmem.out]
        have q5 : Below w11.heap.size w11 y5 := Below.trans s4 (b5.out.mono (Below.size s4))
        go_wp2_with fail
        refine hK.out _ _ q5 (fun _ => ?_)
        clear hK K
        try simp only [Act.put, List.setIfInBounds_toArray, List.set_cons_zero, List.set_cons_succ]
        refine takeL (i := 10) (v := ?_) rfl (by kernel_rfl) (by kernel_rfl) (by kernel_rfl) (fun _ _ _ h => h) (Or.inl ⟨by rfl, ?_⟩) q5 ?_
        rotate_left
        · intro wS hSw; go_simp; try with_reducible rfl
        try simp only [Act.put, List.setIfInBounds_toArray, List.set_cons_zero, List.set_cons_succ]
        refine takeL (i := 11) (v := ?_) rfl (by kernel_rfl) (by kernel_rfl) (by kernel_rfl) (fun _ _ _ h => h) (Or.inl ⟨by rfl, ?_⟩) q5 ?_
        rotate_left
        · intro wS hSw; go_simp; try with_reducible rfl
        try simp only [Act.put, List.setIfInBounds_toArray, List.set_cons_zero, List.set_cons_succ]
        refine takeL (i := 12) (v := ?_) rfl (by kernel_rfl) (by kernel_rfl) (by kernel_rfl) (fun _ _ _ h => h) (Or.inl ⟨by rfl, ?_⟩) q5 ?_
        rotate_left
        · intro wS hSw; go_simp; try with_reducible rfl
        try simp only [Act.put, List.setIfInBounds_toArray, List.set_cons_zero, List.set_cons_succ]
        refine takeL (i := 13) (v := ?_) rfl (by kernel_rfl) (by kernel_rfl) (by kernel_rfl) (fun _ _ _ h => h) (Or.inl ⟨by rfl, ?_⟩) q5 ?_
        rotate_left
        · intro wS hSw; go_simp; try with_reducible rfl
        try simp only [Act.put, List.setIfInBounds_toArray, List.set_cons_zero, List.set_cons_succ]
        refine takeL (i := 14) (v := ?_) rfl (by kernel_rfl) (by kernel_rfl) (by kernel_rfl) (fun _ _ _ h => h) (Or.inl ⟨by rfl, ?_⟩) q5 ?_
        rotate_left
        · intro wS hSw; go_simp; try with_reducible rfl
        try simp only [Act.put, List.setIfInBounds_toArray, List.set_cons_zero, List.set_cons_succ]
        refine wpAnyH_done (by kernel_rfl) ?_ _
        go_wp2_with fail
        go_meet
        exact ⟨rfl, Lib.hid q5⟩
      · go_simp
        have s3 := Below.alloc s1 (Below.size s1) (.cells #[.int .i64 b0, .int .i64 b1, .int .i64 b2, .int .i64 b3, .int .i64 b4] 54)
        refine hK.out _ _ s3 (fun _ => ?_)
        clear hK K
        try simp only [Act.put, List.setIfInBounds_toArray, List.set_cons_zero, List.set_cons_succ]
        refine readyL (i := 2) (by kernel_rfl) rfl (fun K hK => ?_)
        rw [if_pos (by rfl)]
        refine wp_append_own _ _ _ 23 rfl w11.heap.size 54 i5 _ 5 40 Tryz.underlying23 Hi5.out.1 Hi5.out.2.1 Hi5.out.2.2.1 Hi5.out.2.2.2 rfl (by decide) _ 0 [] rfl (own1.alloc _) ⟨gQ, oQ, none⟩ n cQ (cellsL ansC Q) rfl (by rw [cellsL_len ansC 5 (fun _ => rfl), HM.out]) (fun j u h => by rw [add_at]; exact (s3.cell gQ11).trans (HQ11.out j u h)) (onesA _) (by unfold maxLen; omega) (by omega) (Below.size s3) ?_
        intro v2 y2 own2 gr2 _
        rw [Nat.zero_add, List.nil_append] at own2
        have s2 : Below w11.heap.size w11 y2 := Below.grown s3 gr2 (Below.size s3) (fun j e => (own1.lt j e).1)
        have cb := kept_cells (b := y1.heap.size) (xs := [.int .i64 b0, .int .i64 b1, .int .i64 b2, .int .i64 b3, .int .i64 b4]) gr2 (by simp) (fun k e => by have := (own1.lt k e).2; omega) (cells_new y1 #[.int .i64 b0, .int .i64 b1, .int .i64 b2, .int .i64 b3, .int .i64 b4] 54)
        refine hK.out _ _ s2 (fun _ => ?_)
        clear hK K
        try simp only [Act.put, List.setIfInBounds_toArray, List.set_cons_zero, List.set_cons_succ]
        refine readyL (i := 8) (by kernel_rfl) rfl (fun K hK => ?_)
        rw [if_pos (by rfl)]
        refine wp_append_own _ _ _ 23 rfl w11.heap.size 54 i5 _ 5 40 Tryz.underlying23 Hi5.out.1 Hi5.out.2.1 Hi5.out.2.2.1 Hi5.out.2.2.2 rfl (by decide) v2 n _ rfl own2 ⟨y1.heap.size, 0, none⟩ 1 1 [.int .i64 b0, .int .i64 b1, .int .i64 b2, .int .i64 b3, .int .i64 b4] rfl rfl cb (by simp [Value.oneCell']) (by unfold maxLen; omega) (by omega) (Below.size s2) ?_
        intro v4 y4 own4 gr4 _
        have s4 : Below w11.heap.size w11 y4 := Below.grown s2 gr4 (Below.size s2) (fun j e => (own2.lt j e).1)
        refine hK.out _ _ s4 (fun _ => ?_)
        clear hK K
        try simp only [Act.put, List.setIfInBounds_toArray, List.set_cons_zero, List.set_cons_succ]
        refine readyL (i := 9) (by kernel_rfl) rfl (fun K hK => ?_)
        go_simp
        have R4 : Rd ansC 5 y4 v4 (Q ++ [(b0, b1, b2, b3, b4)]) := rd_of_own own4 (by rw [List.length_append, HM.out]; rfl) (by rw [cellsL_app, cellsL_one])
        refine (WriteAnswers_any _ _ _ (hT.below (B11.out.trans (s4.mono (Below.size B11.out)))) R4 (by rw [List.length_append, HM.out]; show n + 1 ≤ _; omega)).mono ?_
        rintro e y5 ⟨s5, rfl, _, b5⟩
        rw [twA Q _ (by rw [HM.out]; exact ln) AAll.out hmem.out]
        have q5 : Below w11.heap.size w11 y5 := Below.trans s4 (b5.out.mono (Below.size s4))
        go_wp2_with fail
        refine hK.out _ _ q5 (fun _ => ?_)
        clear hK K
        try simp only [Act.put, List.setIfInBounds_toArray, List.set_cons_zero, List.set_cons_succ]
        refine takeL (i := 10) (v := ?_) rfl (by kernel_rfl) (by kernel_rfl) (by kernel_rfl) (fun _ _ _ h => h) (Or.inl ⟨by rfl, ?_⟩) q5 ?_
        rotate_left
        · intro wS hSw; go_simp; try with_reducible rfl
        try simp only [Act.put, List.setIfInBounds_toArray, List.set_cons_zero, List.set_cons_succ]
        refine takeL (i := 11) (v := ?_) rfl (by kernel_rfl) (by kernel_rfl) (by kernel_rfl) (fun _ _ _ h => h) (Or.inl ⟨by rfl, ?_⟩) q5 ?_
        rotate_left
        · intro wS hSw; go_simp; try with_reducible rfl
        try simp only [Act.put, List.setIfInBounds_toArray, List.set_cons_zero, List.set_cons_succ]
        refine takeL (i := 12) (v := ?_) rfl (by kernel_rfl) (by kernel_rfl) (by kernel_rfl) (fun _ _ _ h => h) (Or.inl ⟨by rfl, ?_⟩) q5 ?_
        rotate_left
        · intro wS hSw; go_simp; try with_reducible rfl
        try simp only [Act.put, List.setIfInBounds_toArray, List.set_cons_zero, List.set_cons_succ]
        refine takeL (i := 13) (v := ?_) rfl (by kernel_rfl) (by kernel_rfl) (by kernel_rfl) (fun _ _ _ h => h) (Or.inl ⟨by rfl, ?_⟩) q5 ?_
        rotate_left
        · intro wS hSw; go_simp; try with_reducible rfl
        try simp only [Act.put, List.setIfInBounds_toArray, List.set_cons_zero, List.set_cons_succ]
        refine takeL (i := 14) (v := ?_) rfl (by kernel_rfl) (by kernel_rfl) (by kernel_rfl) (fun _ _ _ h => h) (Or.inl ⟨by rfl, ?_⟩) q5 ?_
        rotate_left
        · intro wS hSw; go_simp; try with_reducible rfl
        try simp only [Act.put, List.setIfInBounds_toArray, List.set_cons_zero, List.set_cons_succ]
        refine wpAnyH_done (by kernel_rfl) ?_ _
        go_wp2_with fail
        go_meet
        exact ⟨rfl, Lib.hid q5⟩
    · go_simp
      have s0 := ((Below.refl w11.heap.size w11).alloc (Nat.le_refl _) (.cells #[.int .i64 b0, .int .i64 b1, .int .i64 b2, .int .i64 b3, .int .i64 b4] 54)).drew
      refine hK.out _ _ s0 (fun _ => ?_)
      clear hK K
      try simp only [Act.put, List.setIfInBounds_toArray, List.set_cons_zero, List.set_cons_succ]
      refine readyL (i := 0) (by kernel_rfl) rfl (fun K hK => ?_)
      rw [if_pos (by rfl)]
      refine wp_make _ _ _ 23 rfl w11.heap.size 54 i5 _ 5 Tryz.underlying23 Hi5.out.1 Hi5.out.2.1 Hi5.out.2.2.1 .i64 .i64 40 rfl rfl (by rw [Hi5.out.2.2.2]; omega) (by unfold maxLen; omega) (Below.size s0) ?_
      intro y1 own1 gr1
      have s1 : Below w11.heap.size w11 y1 := Below.grown s0 gr1 (Below.size s0) (fun k e => by cases e)
      have cb1 := kept_cells (w := (w11.alloc (.cells #[.int .i64 b0, .int .i64 b1, .int .i64 b2, .int .i64 b3, .int .i64 b4] 54)).drew) (b := w11.heap.size) (xs := [.int .i64 b0, .int .i64 b1, .int .i64 b2, .int .i64 b3, .int .i64 b4]) gr1 (by simp) (fun k e => by cases e) (cells_new w11 #[.int .i64 b0, .int .i64 b1, .int .i64 b2, .int .i64 b3, .int .i64 b4] 54)
      have lt1 : w11.heap.size < y1.heap.size := Nat.lt_of_lt_of_le (by simp) gr1.size
      refine hK.out _ _ s1 (fun _ => ?_)
      clear hK K
      try simp only [Act.put, List.setIfInBounds_toArray, List.set_cons_zero, List.set_cons_succ]
      refine readyL (i := 2) (by kernel_rfl) rfl (fun K hK => ?_)
      rw [if_pos (by rfl)]
      refine wp_append_own _ _ _ 23 rfl w11.heap.size 54 i5 _ 5 40 Tryz.underlying23 Hi5.out.1 Hi5.out.2.1 Hi5.out.2.2.1 Hi5.out.2.2.2 rfl (by decide) _ 0 [] rfl own1 ⟨gQ, oQ, none⟩ n cQ (cellsL ansC Q) rfl (by rw [cellsL_len ansC 5 (fun _ => rfl), HM.out]) (fun j u h => by rw [add_at]; exact (s1.cell gQ11).trans (HQ11.out j u h)) (onesA _) (by unfold maxLen; omega) (by omega) (Below.size s1) ?_
      intro v2 y2 own2 gr2 _
      rw [Nat.zero_add, List.nil_append] at own2
      have s2 : Below w11.heap.size w11 y2 := Below.grown s1 gr2 (Below.size s1) (fun j e => (own1.lt j e).1)
      have cb := kept_cells (b := w11.heap.size) (xs := [.int .i64 b0, .int .i64 b1, .int .i64 b2, .int .i64 b3, .int .i64 b4]) gr2 lt1 (fun k e => by have e1 : (w11.alloc (.cells #[.int .i64 b0, .int .i64 b1, .int .i64 b2, .int .i64 b3, .int .i64 b4] 54)).drew.heap.size = k := Option.some.inj e; rw [← e1]; simp) cb1
      refine hK.out _ _ s2 (fun _ => ?_)
      clear hK K
      try simp only [Act.put, List.setIfInBounds_toArray, List.set_cons_zero, List.set_cons_succ]
      refine readyL (i := 8) (by kernel_rfl) rfl (fun K hK => ?_)
      rw [if_pos (by rfl)]
      refine wp_append_own _ _ _ 23 rfl w11.heap.size 54 i5 _ 5 40 Tryz.underlying23 Hi5.out.1 Hi5.out.2.1 Hi5.out.2.2.1 Hi5.out.2.2.2 rfl (by decide) v2 n _ rfl own2 ⟨w11.heap.size, 0, none⟩ 1 1 [.int .i64 b0, .int .i64 b1, .int .i64 b2, .int .i64 b3, .int .i64 b4] rfl rfl cb (by simp [Value.oneCell']) (by unfold maxLen; omega) (by omega) (Below.size s2) ?_
      intro v4 y4 own4 gr4 _
      have s4 : Below w11.heap.size w11 y4 := Below.grown s2 gr4 (Below.size s2) (fun j e => (own2.lt j e).1)
      refine hK.out _ _ s4 (fun _ => ?_)
      clear hK K
      try simp only [Act.put, List.setIfInBounds_toArray, List.set_cons_zero, List.set_cons_succ]
      refine readyL (i := 9) (by kernel_rfl) rfl (fun K hK => ?_)
      go_simp
      have R4 : Rd ansC 5 y4 v4 (Q ++ [(b0, b1, b2, b3, b4)]) := rd_of_own own4 (by rw [List.length_append, HM.out]; rfl) (by rw [cellsL_app, cellsL_one])
      refine (WriteAnswers_any _ _ _ (hT.below (B11.out.trans (s4.mono (Below.size B11.out)))) R4 (by rw [List.length_append, HM.out]; show n + 1 ≤ _; omega)).mono ?_
      rintro e y5 ⟨s5, rfl, _, b5⟩
      rw [twA Q _ (by rw [HM.out]; exact ln) AAll.out hmem.out]
      have q5 : Below w11.heap.size w11 y5 := Below.trans s4 (b5.out.mono (Below.size s4))
      go_wp2_with fail
      refine hK.out _ _ q5 (fun _ => ?_)
      clear hK K
      try simp only [Act.put, List.setIfInBounds_toArray, List.set_cons_zero, List.set_cons_succ]
      refine takeL (i := 10) (v := ?_) rfl (by kernel_rfl) (by kernel_rfl) (by kernel_rfl) (fun _ _ _ h => h) (Or.inl ⟨by rfl, ?_⟩) q5 ?_
      rotate_left
      · intro wS hSw; go_simp; try with_reducible rfl
      try simp only [Act.put, List.setIfInBounds_toArray, List.set_cons_zero, List.set_cons_succ]
      refine takeL (i := 11) (v := ?_) rfl (by kernel_rfl) (by kernel_rfl) (by kernel_rfl) (fun _ _ _ h => h) (Or.inl ⟨by rfl, ?_⟩) q5 ?_
      rotate_left
      · intro wS hSw; go_simp; try with_reducible rfl
      try simp only [Act.put, List.setIfInBounds_toArray, List.set_cons_zero, List.set_cons_succ]
      refine takeL (i := 12) (v := ?_) rfl (by kernel_rfl) (by kernel_rfl) (by kernel_rfl) (fun _ _ _ h => h) (Or.inl ⟨by rfl, ?_⟩) q5 ?_
      rotate_left
      · intro wS hSw; go_simp; try with_reducible rfl
      try simp only [Act.put, List.setIfInBounds_toArray, List.set_cons_zero, List.set_cons_succ]
      refine takeL (i := 13) (v := ?_) rfl (by kernel_rfl) (by kernel_rfl) (by kernel_rfl) (fun _ _ _ h => h) (Or.inl ⟨by rfl, ?_⟩) q5 ?_
      rotate_left
      · intro wS hSw; go_simp; try with_reducible rfl
      try simp only [Act.put, List.setIfInBounds_toArray, List.set_cons_zero, List.set_cons_succ]
      refine takeL (i := 14) (v := ?_) rfl (by kernel_rfl) (by kernel_rfl) (by kernel_rfl) (fun _ _ _ h => h) (Or.inl ⟨by rfl, ?_⟩) q5 ?_
      rotate_left
      · intro wS hSw; go_simp; try with_reducible rfl
      try simp only [Act.put, List.setIfInBounds_toArray, List.set_cons_zero, List.set_cons_succ]
      refine wpAnyH_done (by kernel_rfl) ?_ _
      go_wp2_with fail
      go_meet
      exact ⟨rfl, Lib.hid q5⟩
  case rest =>
  obtain ⟨rfl, b12⟩ := hcut
  rename World => w12
  have B12 : Hid (Below w.heap.size w w12) := Lib.hid (B11.out.trans (b12.out.mono (Below.size B11.out)))
  have z12 := b12.out.size
  clear b12 B11
  have T12 := hT.below B12.out
  go_upto_region 15 with fail
  go_cut [23, 24] (fun s23 s24 wx => s24 = .int .i64 2 ∧ Hid (Below w12.heap.size w12 wx))
  case first =>
    go_wp2_with (refine wpList_make_full _ rfl _ _ 22 rfl w12.heap.size 27 i4 _ 4 Tryz.underlying22 Hi4.out.1 Hi4.out.2.1 Hi4.out.2.2.1 .i64 .i64 401 401 401 rfl rfl rfl rfl (by rw [Hi4.out.2.2.2]; omega) (by unfold maxLen; omega) (Nat.le_refl _) ?_; intro y1 own1 gr1)
    have s1 : Below w12.heap.size w12 y1 := Below.grown (Below.refl _ _) gr1 (Nat.le_refl _) (fun k e => by cases e)
    have R1 : Rd payC 4 y1 _ (List.replicate 401 (0, [], 0, 0)) := rd_of_own own1 (by rw [List.length_replicate]) zeros4
    clear own1 gr1
    refine (Write_any _ _ _ (T12.below s1) R1 (by intro p hp; rw [List.eq_of_mem_replicate hp]; simp) (by rw [List.length_replicate]; omega)).mono ?_
    rintro e y2 ⟨s2, rfl, _, b2⟩
    rw [muchP]
    have q2 : Below w12.heap.size w12 y2 := Below.trans s1 (b2.out.mono (Below.size s1))
    go_wp2_with fail
    go_meet
    exact ⟨rfl, Lib.hid q2⟩
  case rest =>
  obtain ⟨rfl, b13⟩ := hcut
  rename World => w13
  have B13 : Hid (Below w.heap.size w w13) := Lib.hid (B12.out.trans (b13.out.mono (Below.size B12.out)))
  have T13 := hT.below B13.out
  go_upto_region 16 with fail
  go_cut [25, 26] (fun s25 s26 wx => s26 = .int .i64 2 ∧ Hid (Below w13.heap.size w13 wx))
  case first =>
    go_wp2_with (refine wpList_make_full _ rfl _ _ 23 rfl w13.heap.size 54 i5 _ 5 Tryz.underlying23 Hi5.out.1 Hi5.out.2.1 Hi5.out.2.2.1 .i64 .i64 401 401 401 rfl rfl rfl rfl (by rw [Hi5.out.2.2.2]; omega) (by unfold maxLen; omega) (Nat.le_refl _) ?_; intro y1 own1 gr1)
    have s1 : Below w13.heap.size w13 y1 := Below.grown (Below.refl _ _) gr1 (Nat.le_refl _) (fun k e => by cases e)
    have R1 : Rd ansC 5 y1 _ (List.replicate 401 (0, 0, 0, 0, 0)) := rd_of_own own1 (by rw [List.length_replicate]) zeros5
    clear own1 gr1
    refine (WriteAnswers_any _ _ _ (T13.below s1) R1 (by rw [List.length_replicate]; omega)).mono ?_
    rintro e y2 ⟨s2, rfl, _, b2⟩
    rw [muchA]
    have q2 : Below w13.heap.size w13 y2 := Below.trans s1 (b2.out.mono (Below.size s1))
    go_wp2_with fail
    go_meet
    exact ⟨rfl, Lib.hid q2⟩
  case rest =>
  obtain ⟨rfl, b14⟩ := hcut
  rename World => w14
  have B14 : Hid (Below w.heap.size w w14) := Lib.hid (B13.out.trans (b14.out.mono (Below.size B13.out)))
  have T14 := hT.below B14.out
  go_wp2_with fail
  go_ret
  exact RetB.mk rfl B14.out
end Go.Proofs.YtibgibjmpcajkaaGreatDoor
