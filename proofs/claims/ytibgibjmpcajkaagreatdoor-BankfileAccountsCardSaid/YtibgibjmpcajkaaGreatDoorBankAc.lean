/- The walk of the law BankfileAccounts. -/
import Derived.Test.YtibgibjmpcajkaaGreatDoorBankDw
namespace Go.Proofs.YtibgibjmpcajkaaGreatDoor
open Go.RowKit BankS
theorem fit_f {a i f : Nat} (hf : f ≤ 1) (h : f = if a < i then 1 else 0) (hb : false = decide (i = a)) : f = (if a < i + 1 then 1 else 0) ∧ f ≤ 1 := by
  have := of_decide_eq_false hb.symm
  refine ⟨?_, hf⟩
  rw [h]
  by_cases h1 : a < i
  · rw [if_pos h1, if_pos (by omega)]
  · rw [if_neg h1, if_neg (by omega)]
theorem fit_t {a i f : Nat} (_hf : f ≤ 1) (h : f = if a < i then 1 else 0) (hb : true = decide (i = a)) : f + 1 = (if a < i + 1 then 1 else 0) ∧ f + 1 ≤ 1 := by
  have := of_decide_eq_true hb.symm
  rw [if_neg (by omega)] at h
  rw [h, if_pos (by omega)]
  exact ⟨rfl, Nat.le_refl _⟩
set_option maxHeartbeats 8000000 in
set_option maxRecDepth 100000 in
theorem accountOf_any (s : ByteArray) (z : Int) (h0 : 0 ≤ z) (h1 : z < 6) (hs : L s = nmL z) (hl : s.size ≤ 16) (w : World) (hT : Tabs w) :
    Calls Tryz.prog 25 #[.string s] w (RetStr (account (L s)) w) := by
  obtain ⟨q1, q2⟩ := write_at z h0 h1
  rw [← hs] at q1 q2
  have ql : s.size + 16 ≤ (writeP [(0, L s, 1, 0)]).1.length := by
    have := congrArg List.length q2
    rw [acc_len, List.length_take, List.length_drop, ← size_L] at this
    omega
  have Q2 := Lib.hid q2
  have HS := Lib.hid hs
  clear q2 hs
  go_enter Tryz.func25, Tryz.ntmps25
  go_wp2_with fail
  refine (Write_any _ [(0, L s, 1, 0)] _ (hT.alloc _) (rdn_new payC 4 (fun _ => rfl) w [(0, L s, 1, 0)] _ _ rfl 1 rfl) (by intro p hp; simp at hp; rw [hp, ← size_L]; omega) (by simp)).mono ?_
  rintro e w1 ⟨t, rfl, HT, b1⟩
  have B1 : Hid (Below w.heap.size w w1) := Lib.hid (((Below.refl _ _).alloc (Nat.le_refl _) _).trans (b1.out.mono (by simp)))
  rw [q1]
  have tl : s.size + 16 ≤ t.size := by rw [size_L t, HT.out]; exact ql
  have HR : Hid (L (t.extract 13 (13 + (s.size + 3))) = account (L s)) := Lib.hid (by rw [L_mid, HT.out, size_L s]; exact Q2.out)
  clear b1 HT q1 ql Q2
  have e1 : ((13 : Int) + (s.size : Int) + 3).toNat = 13 + (s.size + 3) := by omega
  go_wp2_with fail
  go_ret
  exact ⟨_, rfl, HR, B1⟩
set_option maxHeartbeats 8000000 in
set_option maxRecDepth 100000 in
theorem accounts_walk (nz wy pl cz : Int) (w : World) (hT : Tabs w) (hn : (Lit.int .i64 nz).wf = true) (hy : (Lit.int .i64 wy).wf = true) (hp : (Lit.int .i64 pl).wf = true) (hc : (Lit.int .u8 cz).wf = true) :
    Calls Tryz.prog 6 #[.int .i64 nz, .int .i64 wy, .int .i64 pl, .int .u8 cz] w (RetB true w) := by
  obtain ⟨n0, n1⟩ := bounds_i64 hn
  obtain ⟨y0, y1⟩ := bounds_i64 hy
  obtain ⟨p0, p1⟩ := bounds_i64 hp
  obtain ⟨c0, c1⟩ := bounds_u8 hc
  obtain ⟨c, rfl⟩ := u8_of c0 c1
  clear hn hy hp hc c0 c1
  obtain ⟨j0, j1⟩ := pick_bd nz 6 (by omega)
  have NM := Lib.hid (name_at _ j0 j1)
  have HF := Lib.hid (fits_at _ j0 j1)
  have ha : acc (nmL (pickP nz 6)) < 97 := acc_lt _
  go_enter Tryz.func6, Tryz.ntmps6
  go_wp2_with fail
  refine (head_any _ hT).mono ?_
  rintro e w1 ⟨rfl, B1⟩
  have z1 := B1.out.size
  have T1 := hT.below B1.out
  go_wp2_with fail
  refine (name_any nz _ n0 n1).mono ?_
  rintro e w2 ⟨x, rfl, HX, xl, b2⟩
  have B2 : Hid (Below w.heap.size w w2) := Lib.hid (B1.out.trans (b2.out.mono z1))
  have z2 := B2.out.size
  have T2 := hT.below B2.out
  clear b2 T1
  go_wp2_with fail
  refine (accountOf_any x _ j0 j1 HX.out xl _ T2).mono ?_
  rintro e w3 ⟨s, rfl, HS, b3⟩
  have B3 : Hid (Below w.heap.size w w3) := Lib.hid (B2.out.trans (b3.out.mono z2))
  have z3 := B3.out.size
  have T3 := hT.below B3.out
  have HA : Hid (L s = account (nmL (pickP nz 6))) := Lib.hid (by rw [HS.out, HX.out])
  have sl : s.size = x.size + 3 := by rw [size_L s, HS.out, acc_len, ← size_L]
  have s19 : s.size ≤ 19 := by omega
  have SL := Lib.hid sl
  have xp : 1 ≤ x.size := by
    rw [size_L, HX.out]
    have := NM.out
    cases hq : nmL (pickP nz 6) with
    | nil => rw [hq] at this; cases this
    | cons a b => simp
  have YA : Hid (accB (L s) = true) := Lib.hid (by rw [HA.out]; exact accB_of _ NM.out)
  have HD : Hid (L (s.extract 0 (x.size + 1)) = L x ++ [45]) := Lib.hid (by
    rw [L_to, HS.out, account_parts, size_L x, List.take_append, List.take_of_length_le (by omega), show (L x).length + 1 - (L x).length = 1 from by omega]; rfl)
  have s4' : 4 ≤ s.size := by omega
  clear sl xp b3 T2 HS B1 B2 z1 z2
  go_wp2_with fail
  refine wp_region_held_drew (S := (fun W => Below w.heap.size w W)) (by kernel_rfl) (B3.out.drew) (fun hHeld => ?_)
  refine takeL (i := 0) (v := ?_) rfl (by kernel_rfl) (by kernel_rfl) (by kernel_rfl) (fun _ _ _ h => h) (Or.inl ⟨by rfl, ?_⟩) hHeld ?_
  rotate_left
  · intro wS hSw; go_simp; try with_reducible rfl
  try simp only [Act.put, List.setIfInBounds_toArray, List.set_cons_zero, List.set_cons_succ]
  refine takeL (i := 1) (v := ?_) rfl (by kernel_rfl) (by kernel_rfl) (by kernel_rfl) (fun _ _ _ h => h) (Or.inl ⟨by rfl, ?_⟩) hHeld ?_
  rotate_left
  · intro wS hSw; go_simp; try with_reducible rfl
  try simp only [Act.put, List.setIfInBounds_toArray, List.set_cons_zero, List.set_cons_succ]
  refine takeL (i := 2) (v := ?_) rfl (by kernel_rfl) (by kernel_rfl) (by kernel_rfl) (fun _ _ _ h => h) (Or.inl ⟨by rfl, ?_⟩) hHeld ?_
  rotate_left
  · intro wS hSw; have g1 : ¬ ((s.size : Int) < 4) := (by omega); go_simp; try with_reducible rfl
  try simp only [Act.put, List.setIfInBounds_toArray, List.set_cons_zero, List.set_cons_succ]
  refine takeL (i := 3) (v := ?_) rfl (by kernel_rfl) (by kernel_rfl) (by kernel_rfl) (fun _ _ _ h => h) (Or.inl ⟨by rfl, ?_⟩) hHeld ?_
  rotate_left
  · intro wS hSw; go_simp; try with_reducible rfl
  try simp only [Act.put, List.setIfInBounds_toArray, List.set_cons_zero, List.set_cons_succ]
  refine takeL (i := 4) (v := ?_) rfl (by kernel_rfl) (by kernel_rfl) (by kernel_rfl) (fun _ _ _ h => h) (Or.inl ⟨by rfl, ?_⟩) hHeld ?_
  rotate_left
  · intro wS hSw; go_simp; try with_reducible rfl
  try simp only [Act.put, List.setIfInBounds_toArray, List.set_cons_zero, List.set_cons_succ]
  refine readyL (i := 5) (by kernel_rfl) rfl (fun K hK => ?_)
  go_simp
  refine (Account_any s _ (hT.below hHeld) (by omega)).mono ?_
  rintro e w4 ⟨rfl, b4⟩
  have s4 : Below w.heap.size w w4 := Below.trans hHeld (b4.out.mono (Below.size hHeld))
  rw [YA.out]
  go_wp2_with fail
  refine hK.out _ _ s4 (fun _ => ?_)
  clear hK K
  try simp only [Act.put, List.setIfInBounds_toArray, List.set_cons_zero, List.set_cons_succ]
  refine takeL (i := 6) (v := ?_) rfl (by kernel_rfl) (by kernel_rfl) (by kernel_rfl) (fun _ _ _ h => h) (Or.inl ⟨by rfl, ?_⟩) s4 ?_
  rotate_left
  · intro wS hSw; go_simp; try with_reducible rfl
  try simp only [Act.put, List.setIfInBounds_toArray, List.set_cons_zero, List.set_cons_succ]
  refine takeL (i := 7) (v := ?_) rfl (by kernel_rfl) (by kernel_rfl) (by kernel_rfl) (fun _ _ _ h => h) (Or.inl ⟨by rfl, ?_⟩) s4 ?_
  rotate_left
  · intro wS hSw; go_simp; try with_reducible rfl
  try simp only [Act.put, List.setIfInBounds_toArray, List.set_cons_zero, List.set_cons_succ]
  refine takeL (i := 8) (v := ?_) rfl (by kernel_rfl) (by kernel_rfl) (by kernel_rfl) (fun _ _ _ h => h) (Or.inl ⟨by rfl, ?_⟩) s4 ?_
  rotate_left
  · intro wS hSw; go_simp; try with_reducible rfl
  try simp only [Act.put, List.setIfInBounds_toArray, List.set_cons_zero, List.set_cons_succ]
  refine takeL (i := 9) (v := ?_) rfl (by kernel_rfl) (by kernel_rfl) (by kernel_rfl) (fun _ _ _ h => h) (Or.inl ⟨by rfl, ?_⟩) s4 ?_
  rotate_left
  · intro wS hSw; go_simp; try with_reducible rfl
  try simp only [Act.put, List.setIfInBounds_toArray, List.set_cons_zero, List.set_cons_succ]
  refine takeL (i := 10) (v := ?_) rfl (by kernel_rfl) (by kernel_rfl) (by kernel_rfl) (fun _ _ _ h => h) (Or.inl ⟨by rfl, ?_⟩) s4 ?_
  rotate_left
  · intro wS hSw; go_simp; try with_reducible rfl
  try simp only [Act.put, List.setIfInBounds_toArray, List.set_cons_zero, List.set_cons_succ]
  refine takeL (i := 11) (v := ?_) rfl (by kernel_rfl) (by kernel_rfl) (by kernel_rfl) (fun _ _ _ h => h) (Or.inl ⟨by rfl, ?_⟩) s4 ?_
  rotate_left
  · intro wS hSw; go_simp; try with_reducible rfl
  try simp only [Act.put, List.setIfInBounds_toArray, List.set_cons_zero, List.set_cons_succ]
  refine takeL (i := 12) (v := ?_) rfl (by kernel_rfl) (by kernel_rfl) (by kernel_rfl) (fun _ _ _ h => h) (Or.inl ⟨by rfl, ?_⟩) s4 ?_
  rotate_left
  · intro wS hSw; have g1 : IntKind.i64.wrap ((s.size : Int) - 2) = (s.size : Int) - 2 := IntWalk.i64_in _ (by omega); go_simp; try with_reducible rfl
  try simp only [Act.put, List.setIfInBounds_toArray, List.set_cons_zero, List.set_cons_succ]
  refine takeL (i := 13) (v := ?_) rfl (by kernel_rfl) (by kernel_rfl) (by kernel_rfl) (fun _ _ _ h => h) (Or.inl ⟨by rfl, ?_⟩) s4 ?_
  rotate_left
  · intro wS hSw; have g0 : (2 : Int) ≤ (s.size : Int) := (by omega); have g1 : (0 : Int) ≤ (s.size : Int) - 2 := (by omega); have g2 : (s.size : Int) - 2 ≤ (s.size : Int) := (by omega); have g3 : ((s.size : Int) - 2).toNat = x.size + 1 := (by have := SL.out; omega); go_simp; try with_reducible rfl
  try simp only [Act.put, List.setIfInBounds_toArray, List.set_cons_zero, List.set_cons_succ]
  refine takeL (i := 14) (v := ?_) rfl (by kernel_rfl) (by kernel_rfl) (by kernel_rfl) (fun _ _ _ h => h) (Or.inl ⟨by rfl, ?_⟩) s4 ?_
  rotate_left
  · intro wS hSw; go_simp; try with_reducible rfl
  try simp only [Act.put, List.setIfInBounds_toArray, List.set_cons_zero, List.set_cons_succ]
  refine readyL (i := 15) (by kernel_rfl) rfl (fun K hK => ?_)
  go_simp
  refine (name_any nz _ n0 n1).mono ?_
  rintro e w5 ⟨x2, rfl, HX2, xl2, b5⟩
  have s5 : Below w.heap.size w w5 := Below.trans s4 (b5.out.mono (Below.size s4))
  have eb : ((s.extract 0 (x.size + 1)).toList == (x2 ++ { data := #[45] }).toList) = true := str_eqb (str_eq (by rw [HD.out, L_app, HX2.out, HX.out]))
  go_wp2_with fail
  refine hK.out _ _ s5 (fun _ => ?_)
  clear hK K
  try simp only [Act.put, List.setIfInBounds_toArray, List.set_cons_zero, List.set_cons_succ]
  refine takeL (i := 16) (v := ?_) rfl (by kernel_rfl) (by kernel_rfl) (by kernel_rfl) (fun _ _ _ h => h) (Or.inl ⟨by rfl, ?_⟩) s5 ?_
  rotate_left
  · intro wS hSw; have g1 : ¬ 9223372036854775807 < x2.size + 1 := (by omega); go_simp; try with_reducible rfl
  try simp only [Act.put, List.setIfInBounds_toArray, List.set_cons_zero, List.set_cons_succ]
  refine takeL (i := 17) (v := ?_) rfl (by kernel_rfl) (by kernel_rfl) (by kernel_rfl) (fun _ _ _ h => h) (Or.inl ⟨by rfl, ?_⟩) s5 ?_
  rotate_left
  · intro wS hSw; go_simp; try with_reducible rfl
  try simp only [Act.put, List.setIfInBounds_toArray, List.set_cons_zero, List.set_cons_succ]
  refine takeL (i := 18) (v := ?_) rfl (by kernel_rfl) (by kernel_rfl) (by kernel_rfl) (fun _ _ _ h => h) (Or.inl ⟨by rfl, ?_⟩) s5 ?_
  rotate_left
  · intro wS hSw; go_simp; try with_reducible rfl
  try simp only [Act.put, List.setIfInBounds_toArray, List.set_cons_zero, List.set_cons_succ]
  refine wpAnyH_done (by kernel_rfl) ?_ _
  have B5 := Lib.hid s5
  clear s5 s4 hHeld b4 b5 eb HX2 xl2 B3 T3 z3
  go_wp2_with fail
  go_loopg [11, 12] 100 (fun g x11 x12 wx => ∃ i f : Nat, i ≤ 100 ∧ f ≤ 1 ∧ g = 100 - i ∧ x12 = .int .i64 i ∧ x11 = .int .i64 f ∧ Hid (f = if acc (nmL (pickP nz 6)) < i then 1 else 0) ∧ Hid (Below w.heap.size w wx))
  case atStart => exact ⟨0, 0, by omega, by omega, rfl, rfl, rfl, Lib.hid rfl, B5⟩
  case round =>
    obtain ⟨i, f, hi, hf, rfl, rfl, rfl, FE, HB⟩ := hrel
    have hsz := HB.out.size
    by_cases hlt : i < 100
    · have u1 : i / 10 ≤ 9 := by omega
      have u2 : i % 10 ≤ 9 := by omega
      obtain ⟨ub, hub⟩ : ∃ u : UInt8, u = UInt8.ofNat (48 + i / 10) := ⟨_, rfl⟩
      obtain ⟨vb, hvb⟩ : ∃ u : UInt8, u = UInt8.ofNat (48 + i % 10) := ⟨_, rfl⟩
      have n1b : (48 : Int) + (i : Int) / 10 = (ub.toNat : Int) := by rw [hub, UInt8.toNat_ofNat']; omega
      have n2b : (48 : Int) + (i : Int) % 10 = (vb.toNat : Int) := by rw [hvb, UInt8.toNat_ofNat']; omega
      have HU := Lib.hid (And.intro hub hvb)
      have N1 := Lib.hid n1b
      have N2 := Lib.hid n2b
      clear hub hvb n1b n2b
      go_wp2_with fail
      refine wp_region_held_drew (S := (fun W => Below w.heap.size w W)) (by kernel_rfl) (HB.out.drew) (fun hHeld => ?_)
      refine takeL (i := 0) (v := ?_) rfl (by kernel_rfl) (by kernel_rfl) (by kernel_rfl) (fun _ _ _ h => h) (Or.inl ⟨by rfl, ?_⟩) hHeld ?_
      rotate_left
      · intro wS hSw; go_simp; try with_reducible rfl
      try simp only [Act.put, List.setIfInBounds_toArray, List.set_cons_zero, List.set_cons_succ]
      refine takeL (i := 3) (v := ?_) rfl (by kernel_rfl) (by kernel_rfl) (by kernel_rfl) (fun _ _ _ h => h) (Or.inl ⟨by rfl, ?_⟩) hHeld ?_
      rotate_left
      · intro wS hSw; go_simp; try with_reducible rfl
      try simp only [Act.put, List.setIfInBounds_toArray, List.set_cons_zero, List.set_cons_succ]
      refine takeL (i := 4) (v := ?_) rfl (by kernel_rfl) (by kernel_rfl) (by kernel_rfl) (fun _ _ _ h => h) (Or.inl ⟨by rfl, ?_⟩) hHeld ?_
      rotate_left
      · intro wS hSw; have g1 : IntKind.i64.wrap ((i : Int) / 10) = (i : Int) / 10 := IntWalk.i64_in _ (by omega); go_simp; try with_reducible rfl
      try simp only [Act.put, List.setIfInBounds_toArray, List.set_cons_zero, List.set_cons_succ]
      refine takeL (i := 5) (v := ?_) rfl (by kernel_rfl) (by kernel_rfl) (by kernel_rfl) (fun _ _ _ h => h) (Or.inl ⟨by rfl, ?_⟩) hHeld ?_
      rotate_left
      · intro wS hSw; have g1 : IntKind.i64.wrap (48 + (i : Int) / 10) = 48 + (i : Int) / 10 := IntWalk.i64_in _ (by omega); go_simp; try with_reducible rfl
      try simp only [Act.put, List.setIfInBounds_toArray, List.set_cons_zero, List.set_cons_succ]
      refine takeL (i := 6) (v := ?_) rfl (by kernel_rfl) (by kernel_rfl) (by kernel_rfl) (fun _ _ _ h => h) (Or.inl ⟨by rfl, ?_⟩) hHeld ?_
      rotate_left
      · intro wS hSw; have g1 : IntKind.u8.wrap (48 + (i : Int) / 10) = (ub.toNat : Int) := (by have := N1.out; rw [← this]; exact IntWalk.u8_in _ (by omega)); go_simp; try with_reducible rfl
      try simp only [Act.put, List.setIfInBounds_toArray, List.set_cons_zero, List.set_cons_succ]
      refine takeL (i := 7) (v := ?_) rfl (by kernel_rfl) (by kernel_rfl) (by kernel_rfl) (fun _ _ _ h => h) (Or.inl ⟨by rfl, ?_⟩) hHeld ?_
      rotate_left
      · intro wS hSw; go_simp; try with_reducible rfl
      try simp only [Act.put, List.setIfInBounds_toArray, List.set_cons_zero, List.set_cons_succ]
      refine takeL (i := 8) (v := ?_) rfl (by kernel_rfl) (by kernel_rfl) (by kernel_rfl) (fun _ _ _ h => h) (Or.inl ⟨by rfl, ?_⟩) hHeld ?_
      rotate_left
      · intro wS hSw; have g1 : (i : Int).tmod 10 = (i : Int) % 10 := Int.tmod_eq_emod_of_nonneg (by omega); go_simp; try with_reducible rfl
      try simp only [Act.put, List.setIfInBounds_toArray, List.set_cons_zero, List.set_cons_succ]
      refine takeL (i := 9) (v := ?_) rfl (by kernel_rfl) (by kernel_rfl) (by kernel_rfl) (fun _ _ _ h => h) (Or.inl ⟨by rfl, ?_⟩) hHeld ?_
      rotate_left
      · intro wS hSw; have g1 : IntKind.i64.wrap (48 + (i : Int) % 10) = 48 + (i : Int) % 10 := IntWalk.i64_in _ (by omega); go_simp; try with_reducible rfl
      try simp only [Act.put, List.setIfInBounds_toArray, List.set_cons_zero, List.set_cons_succ]
      refine takeL (i := 10) (v := ?_) rfl (by kernel_rfl) (by kernel_rfl) (by kernel_rfl) (fun _ _ _ h => h) (Or.inl ⟨by rfl, ?_⟩) hHeld ?_
      rotate_left
      · intro wS hSw; have g1 : IntKind.u8.wrap (48 + (i : Int) % 10) = (vb.toNat : Int) := (by have := N2.out; rw [← this]; exact IntWalk.u8_in _ (by omega)); go_simp; try with_reducible rfl
      try simp only [Act.put, List.setIfInBounds_toArray, List.set_cons_zero, List.set_cons_succ]
      refine readyL2 (i := 1) (j := 11) (by kernel_rfl) rfl rfl (fun K hK => ?_) (fun K hK => ?_)
      · go_simp
        refine (name_any nz _ n0 n1).mono ?_
        rintro e w6 ⟨x6, rfl, HX6, xl6, b6⟩
        have s6 : Below w.heap.size w w6 := Below.trans hHeld (b6.out.mono (Below.size hHeld))
        go_wp2_with fail
        refine hK.out _ _ s6 (fun _ => ?_)
        clear hK K
        try simp only [Act.put, List.setIfInBounds_toArray, List.set_cons_zero, List.set_cons_succ]
        refine takeL (i := 2) (v := ?_) rfl (by kernel_rfl) (by kernel_rfl) (by kernel_rfl) (fun _ _ _ h => h) (Or.inl ⟨by rfl, ?_⟩) s6 ?_
        rotate_left
        · intro wS hSw; have g1 : ¬ 9223372036854775807 < x6.size + 1 := (by omega); go_simp; try with_reducible rfl
        try simp only [Act.put, List.setIfInBounds_toArray, List.set_cons_zero, List.set_cons_succ]
        refine readyL (i := 11) (by kernel_rfl) rfl (fun K hK => ?_)
        go_simp
        have sa := Below.alloc s6 (Below.size s6) (.cells #[.int .u8 ub.toNat, .int .u8 vb.toNat] 5)
        refine hK.out _ _ sa (fun _ => ?_)
        clear hK K
        try simp only [Act.put, List.setIfInBounds_toArray, List.set_cons_zero, List.set_cons_succ]
        refine readyL (i := 12) (by kernel_rfl) rfl (fun K hK => ?_)
        go_simp
        have cv := convN (w6.alloc (.cells #[.int .u8 ub.toNat, .int .u8 vb.toNat] 5)) w6.heap.size [ub, vb] (bytes_new w6 [ub, vb] _ rfl _) 2 rfl
        go_simp
        refine hK.out _ _ sa (fun _ => ?_)
        clear hK K
        try simp only [Act.put, List.setIfInBounds_toArray, List.set_cons_zero, List.set_cons_succ]
        refine takeL (i := 13) (v := ?_) rfl (by kernel_rfl) (by kernel_rfl) (by kernel_rfl) (fun _ _ _ h => h) (Or.inl ⟨by rfl, ?_⟩) sa ?_
        rotate_left
        · intro wS hSw; have g1 : ¬ 9223372036854775807 < x6.size + 1 + 2 := (by omega); go_simp; try with_reducible rfl
        try simp only [Act.put, List.setIfInBounds_toArray, List.set_cons_zero, List.set_cons_succ]
        refine readyL (i := 14) (by kernel_rfl) rfl (fun K hK => ?_)
        go_simp
        have ea : accB (L (x6 ++ { data := #[45] } ++ { data := #[ub, vb] })) = decide (i = acc (nmL (pickP nz 6))) := by
          rw [L_app, L_app, HX6.out, ← HF.out i hlt, ← HU.out.1, ← HU.out.2, List.append_assoc]; rfl
        refine (Account_any _ _ (hT.below sa) (by rw [ByteArray.size_append, ByteArray.size_append]; show _ + 1 + 2 ≤ _; omega)).mono ?_
        rintro e w7 ⟨rfl, b7⟩
        rw [ea]
        have s7 : Below w.heap.size w w7 := Below.trans sa (b7.out.mono (Below.size sa))
        obtain ⟨bb, hbb⟩ : ∃ bb : Bool, bb = decide (i = acc (nmL (pickP nz 6))) := ⟨_, rfl⟩
        rw [← hbb]
        have HBB := Lib.hid hbb
        clear hbb ea
        go_wp2_with fail
        refine hK.out _ _ s7 (fun _ => ?_)
        clear hK K
        try simp only [Act.put, List.setIfInBounds_toArray, List.set_cons_zero, List.set_cons_succ]
        refine wpAnyH_done (by kernel_rfl) ?_ _
        have S7 := Lib.hid s7
        clear s7 b7
        cases bb
        · go_wp2_with fail
          go_roundg (100 - (i + 1))
          case measure => omega
          case rel => exact ⟨i + 1, f, by omega, (fit_f hf FE.out HBB.out).2, rfl, by go_num, by go_num, Lib.hid (fit_f hf FE.out HBB.out).1, S7⟩
        · go_wp2_with fail
          go_roundg (100 - (i + 1))
          case measure => omega
          case rel => exact ⟨i + 1, (f + 1), by omega, (fit_t hf FE.out HBB.out).2, rfl, by go_num, by go_num, Lib.hid (fit_t hf FE.out HBB.out).1, S7⟩
      · go_simp
        have sa := ((HB.out).alloc hsz (.cells #[.int .u8 ub.toNat, .int .u8 vb.toNat] 5)).drew
        refine hK.out _ _ sa (fun _ => ?_)
        clear hK K
        try simp only [Act.put, List.setIfInBounds_toArray, List.set_cons_zero, List.set_cons_succ]
        refine readyL2 (i := 1) (j := 12) (by kernel_rfl) rfl rfl (fun K hK => ?_) (fun K hK => ?_)
        · go_simp
          refine (name_any nz _ n0 n1).mono ?_
          rintro e w6 ⟨x6, rfl, HX6, xl6, b6⟩
          have s6 : Below w.heap.size w w6 := Below.trans sa (b6.out.mono (Below.size sa))
          have cb : ∀ (j : Nat) (u : UInt8), [ub, vb][j]? = some u → w6.cell? ⟨wr.heap.size, j, none⟩ = some (.int .u8 u.toNat) := fun j u h => (b6.out.cell (p := ⟨wr.heap.size, j, none⟩) (by simp)).trans (bytes_new wr [ub, vb] _ rfl _ j u h)
          go_wp2_with fail
          refine hK.out _ _ s6 (fun _ => ?_)
          clear hK K
          try simp only [Act.put, List.setIfInBounds_toArray, List.set_cons_zero, List.set_cons_succ]
          refine takeL (i := 2) (v := ?_) rfl (by kernel_rfl) (by kernel_rfl) (by kernel_rfl) (fun _ _ _ h => h) (Or.inl ⟨by rfl, ?_⟩) s6 ?_
          rotate_left
          · intro wS hSw; have g1 : ¬ 9223372036854775807 < x6.size + 1 := (by omega); go_simp; try with_reducible rfl
          try simp only [Act.put, List.setIfInBounds_toArray, List.set_cons_zero, List.set_cons_succ]
          refine readyL (i := 12) (by kernel_rfl) rfl (fun K hK => ?_)
          go_simp
          have cv := convN w6 wr.heap.size [ub, vb] cb 2 rfl
          go_simp
          refine hK.out _ _ s6 (fun _ => ?_)
          clear hK K
          try simp only [Act.put, List.setIfInBounds_toArray, List.set_cons_zero, List.set_cons_succ]
          refine takeL (i := 13) (v := ?_) rfl (by kernel_rfl) (by kernel_rfl) (by kernel_rfl) (fun _ _ _ h => h) (Or.inl ⟨by rfl, ?_⟩) s6 ?_
          rotate_left
          · intro wS hSw; have g1 : ¬ 9223372036854775807 < x6.size + 1 + 2 := (by omega); go_simp; try with_reducible rfl
          try simp only [Act.put, List.setIfInBounds_toArray, List.set_cons_zero, List.set_cons_succ]
          refine readyL (i := 14) (by kernel_rfl) rfl (fun K hK => ?_)
          go_simp
          have ea : accB (L (x6 ++ { data := #[45] } ++ { data := #[ub, vb] })) = decide (i = acc (nmL (pickP nz 6))) := by
            rw [L_app, L_app, HX6.out, ← HF.out i hlt, ← HU.out.1, ← HU.out.2, List.append_assoc]; rfl
          refine (Account_any _ _ (hT.below s6) (by rw [ByteArray.size_append, ByteArray.size_append]; show _ + 1 + 2 ≤ _; omega)).mono ?_
          rintro e w7 ⟨rfl, b7⟩
          rw [ea]
          have s7 : Below w.heap.size w w7 := Below.trans s6 (b7.out.mono (Below.size s6))
          obtain ⟨bb, hbb⟩ : ∃ bb : Bool, bb = decide (i = acc (nmL (pickP nz 6))) := ⟨_, rfl⟩
          rw [← hbb]
          have HBB := Lib.hid hbb
          clear hbb ea
          go_wp2_with fail
          refine hK.out _ _ s7 (fun _ => ?_)
          clear hK K
          try simp only [Act.put, List.setIfInBounds_toArray, List.set_cons_zero, List.set_cons_succ]
          refine wpAnyH_done (by kernel_rfl) ?_ _
          have S7 := Lib.hid s7
          clear s7 b7
          cases bb
          · go_wp2_with fail
            go_roundg (100 - (i + 1))
            case measure => omega
            case rel => exact ⟨i + 1, f, by omega, (fit_f hf FE.out HBB.out).2, rfl, by go_num, by go_num, Lib.hid (fit_f hf FE.out HBB.out).1, S7⟩
          · go_wp2_with fail
            go_roundg (100 - (i + 1))
            case measure => omega
            case rel => exact ⟨i + 1, (f + 1), by omega, (fit_t hf FE.out HBB.out).2, rfl, by go_num, by go_num, Lib.hid (fit_t hf FE.out HBB.out).1, S7⟩
        · go_simp
          have cv := convN (wr.alloc (.cells #[.int .u8 ub.toNat, .int .u8 vb.toNat] 5)).drew wr.heap.size [ub, vb] (bytes_new wr [ub, vb] _ rfl _) 2 rfl
          go_simp
          refine hK.out _ _ sa (fun _ => ?_)
          clear hK K
          try simp only [Act.put, List.setIfInBounds_toArray, List.set_cons_zero, List.set_cons_succ]
          refine readyL (i := 1) (by kernel_rfl) rfl (fun K hK => ?_)
          go_simp
          refine (name_any nz _ n0 n1).mono ?_
          rintro e w6 ⟨x6, rfl, HX6, xl6, b6⟩
          have s6 : Below w.heap.size w w6 := Below.trans sa (b6.out.mono (Below.size sa))
          go_wp2_with fail
          refine hK.out _ _ s6 (fun _ => ?_)
          clear hK K
          try simp only [Act.put, List.setIfInBounds_toArray, List.set_cons_zero, List.set_cons_succ]
          refine takeL (i := 2) (v := ?_) rfl (by kernel_rfl) (by kernel_rfl) (by kernel_rfl) (fun _ _ _ h => h) (Or.inl ⟨by rfl, ?_⟩) s6 ?_
          rotate_left
          · intro wS hSw; have g1 : ¬ 9223372036854775807 < x6.size + 1 := (by omega); go_simp; try with_reducible rfl
          try simp only [Act.put, List.setIfInBounds_toArray, List.set_cons_zero, List.set_cons_succ]
          refine takeL (i := 13) (v := ?_) rfl (by kernel_rfl) (by kernel_rfl) (by kernel_rfl) (fun _ _ _ h => h) (Or.inl ⟨by rfl, ?_⟩) s6 ?_
          rotate_left
          · intro wS hSw; have g1 : ¬ 9223372036854775807 < x6.size + 1 + 2 := (by omega); go_simp; try with_reducible rfl
          try simp only [Act.put, List.setIfInBounds_toArray, List.set_cons_zero, List.set_cons_succ]
          refine readyL (i := 14) (by kernel_rfl) rfl (fun K hK => ?_)
          go_simp
          have ea : accB (L (x6 ++ { data := #[45] } ++ { data := #[ub, vb] })) = decide (i = acc (nmL (pickP nz 6))) := by
            rw [L_app, L_app, HX6.out, ← HF.out i hlt, ← HU.out.1, ← HU.out.2, List.append_assoc]; rfl
          refine (Account_any _ _ (hT.below s6) (by rw [ByteArray.size_append, ByteArray.size_append]; show _ + 1 + 2 ≤ _; omega)).mono ?_
          rintro e w7 ⟨rfl, b7⟩
          rw [ea]
          have s7 : Below w.heap.size w w7 := Below.trans s6 (b7.out.mono (Below.size s6))
          obtain ⟨bb, hbb⟩ : ∃ bb : Bool, bb = decide (i = acc (nmL (pickP nz 6))) := ⟨_, rfl⟩
          rw [← hbb]
          have HBB := Lib.hid hbb
          clear hbb ea
          go_wp2_with fail
          refine hK.out _ _ s7 (fun _ => ?_)
          clear hK K
          try simp only [Act.put, List.setIfInBounds_toArray, List.set_cons_zero, List.set_cons_succ]
          refine wpAnyH_done (by kernel_rfl) ?_ _
          have S7 := Lib.hid s7
          clear s7 b7
          cases bb
          · go_wp2_with fail
            go_roundg (100 - (i + 1))
            case measure => omega
            case rel => exact ⟨i + 1, f, by omega, (fit_f hf FE.out HBB.out).2, rfl, by go_num, by go_num, Lib.hid (fit_f hf FE.out HBB.out).1, S7⟩
          · go_wp2_with fail
            go_roundg (100 - (i + 1))
            case measure => omega
            case rel => exact ⟨i + 1, (f + 1), by omega, (fit_t hf FE.out HBB.out).2, rfl, by go_num, by go_num, Lib.hid (fit_t hf FE.out HBB.out).1, S7⟩
    · obtain rfl : i = 100 := by omega
      obtain rfl : f = 1 := by rw [FE.out, if_pos (by omega)]
      clear FE HF hi hf ha
      go_wp2_with fail
      refine (pick_any wy 2 _ y0 y1 (by omega) (by omega)).mono ?_
      rintro e w8 ⟨q, rfl, _, q0, q1, rfl⟩
      have hq : pickP q 4 = q := by unfold pickP; rw [if_neg (by omega)]; omega
      go_wp2_with fail
      refine (damaged_any s q pl c _ (by omega) (by omega) (by omega) p0 p1).mono ?_
      rintro e w9 ⟨t, rfl, HM, tl, b9⟩
      have B9 : Hid (Below w.heap.size w w9) := Lib.hid (HB.out.trans (b9.out.mono hsz))
      have z9 := B9.out.size
      have T9 := hT.below B9.out
      clear b9
      by_cases ht : t = s
      · subst ht
        go_wp2_with fail
        refine (Account_any t _ T9 (by omega)).mono ?_
        rintro e w10 ⟨rfl, b10⟩
        rw [YA.out]
        have B10 : Hid (Below w.heap.size w w10) := Lib.hid (B9.out.trans (b10.out.mono z9))
        go_wp2_with fail
        go_ret
        exact RetB.mk rfl B10.out
      · have YT : Hid (accB (L t) = false) := Lib.hid (by
          rw [← Bool.not_eq_true]
          intro h
          refine ht (str_eq ?_)
          rw [HA.out]
          have hm := HM.out
          rw [HA.out, hq] at hm
          exact account_dm (by omega) NM.out hm h)
        have ne := str_neq (fun h : s = t => ht h.symm)
        clear ht HM
        go_wp2_with fail
        refine (Account_any t _ T9 (by omega)).mono ?_
        rintro e w10 ⟨rfl, b10⟩
        rw [YT.out]
        have B10 : Hid (Below w.heap.size w w10) := Lib.hid (B9.out.trans (b10.out.mono z9))
        go_wp2_with fail
        go_ret
        exact RetB.mk rfl B10.out
end Go.Proofs.YtibgibjmpcajkaaGreatDoor
