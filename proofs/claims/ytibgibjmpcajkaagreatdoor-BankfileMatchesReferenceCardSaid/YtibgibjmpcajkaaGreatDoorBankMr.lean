/- The walks of the reference's Read and ReadAnswers. -/
import Derived.Test.YtibgibjmpcajkaaGreatDoorBankMy
import Derived.Test.YtibgibjmpcajkaaGreatDoorBankGa
namespace Go.Proofs.YtibgibjmpcajkaaGreatDoor
open Go.RowKit BankS
set_option maxHeartbeats 16000000 in
set_option maxRecDepth 100000 in
theorem rRead_any (t : ByteArray) (w : World) (ht : t.size ≤ 100000) :
    Calls Tryz.prog 20 #[.string t] w (RetP (readP (L t)) w) := by
  obtain ⟨i0, hi, hz0, hz1, hz2⟩ := info_parts Tryz.infoPay
  go_enter Tryz.func20, Tryz.ntmps20
  go_wp2_with fail
  refine (rSplit_any t 10 _ ht).mono ?_
  rintro e w1 ⟨v4, xs, rfl, HX, OX, HZ, lx, B1⟩
  have z1 := B1.out.size
  obtain ⟨nx, hnx⟩ : ∃ nx, xs.length = nx := ⟨_, rfl⟩
  have HNX := Lib.hid hnx
  have nx1 : nx ≤ 100001 := by omega
  have HLX : Hid ((splitL 10 (L t)).length = nx) := Lib.hid (by rw [← HX.out, List.length_map, hnx])
  have hp0 : 0 < nx := by have h5 := HLX.out; rw [splitL_len] at h5; omega
  obtain ⟨gx, cx, rfl, hcx, bgx, hgx, hcell⟩ := own_open OX.out nx hnx hp0
  have HCL := Lib.hid hcell
  clear hcell hnx OX
  go_wp2_with fail
  go_loopg [5, 6] 401 (fun g v5 i wx => ∃ k : Nat, 1 ≤ k ∧ k ≤ 402 ∧ (k = 1 ∨ k + 2 ≤ nx) ∧ g = 402 - k ∧ Hid (wx.ownsRow w1.heap.size 27 4 v5 (k - 1) (cellsL payC ((rows (L t) (k - 1)).map rPay))) ∧ Hid ((rows (L t) (k - 1)).length = k - 1) ∧ Hid (∀ p ∈ (rows (L t) (k - 1)).map rPay, p.2.1.length ≤ 100000) ∧ Hid (Below w1.heap.size w1 wx) ∧ i = .int .i64 k)
  case atStart => exact ⟨1, by omega, by omega, Or.inl rfl, rfl, Lib.hid (World.ownsRow_nil _ _ _ _), Lib.hid rfl, Lib.hid (fun p hp => by cases hp), Lib.hid (Below.refl _ _), rfl⟩
  case round =>
    obtain ⟨k, k1, k402, kx, rfl, HO, HLen, HAc, HB, rfl⟩ := hrel
    rename World => wo
    have hsz := HB.out.size
    have Bo : Hid (Below w.heap.size w wo) := Lib.hid (B1.out.trans (HB.out.mono z1))
    by_cases hlt : k + 2 < nx
    · by_cases h401 : k ≤ 401
      · obtain ⟨ln, hln⟩ : ∃ ln, xs[k]? = some ln := ⟨_, List.getElem?_eq_getElem (by rw [HNX.out]; omega)⟩
        have HLn : Hid ((splitL 10 (L t))[k]? = some (L ln)) := Lib.hid (by rw [← HX.out, List.getElem?_map, hln]; rfl)
        have hzl : ln.size ≤ t.size := HZ.out ln (List.mem_of_getElem? hln)
        have cl : wo.cell? ⟨gx, k, none⟩ = some (.string ln) := (HB.out.cell (p := ⟨gx, k, none⟩) hgx).trans (HCL.out k ln hln)
        clear hln
        go_wp2_with fail
        refine (rSplit_any ln 32 _ (by omega)).mono ?_
        rintro e w2 ⟨v7, ys, rfl, HY, OY, HYz, ly, b2⟩
        have z2 := b2.out.size
        have B2 : Hid (Below w.heap.size w w2) := Lib.hid (Bo.out.trans (b2.out.mono (Below.size Bo.out)))
        clear cl
        by_cases h4 : ys.length = 4
        · obtain ⟨g7, c7, rfl, hc7, bg7, lt7, hcy⟩ := own_open OY.out 4 h4 (by omega)
          obtain ⟨y0, y1, y2, y3, rfl⟩ := four_of h4
          have d0 := hcy 0 y0 rfl
          have s0 : y0.size ≤ ln.size := HYz.out y0 (by simp)
          have d1 := hcy 1 y1 rfl
          have s1 : y1.size ≤ ln.size := HYz.out y1 (by simp)
          have d2 := hcy 2 y2 rfl
          have s2 : y2.size ≤ ln.size := HYz.out y2 (by simp)
          have d3 := hcy 3 y3 rfl
          have s3 : y3.size ≤ ln.size := HYz.out y3 (by simp)
          have HW : Hid (splitL 32 (L ln) = [L y0, L y1, L y2, L y3]) := Lib.hid HY.out.symm
          have HGW : Hid (u5.ownBlock ≠ some g7) := Lib.hid (fun e => by have := (HO.out.lt g7 e).2; omega)
          clear hcy HY OY HYz h4
          go_wp2_with fail
          refine (rParse_any y3 _).mono ?_
          rintro e w' ⟨rfl, rfl⟩
          obtain ⟨dn, hdn⟩ : ∃ dn, dn = (dayE (L y3)).1 := ⟨_, rfl⟩
          rw [← hdn]
          have HDN := Lib.hid hdn
          clear hdn
          go_wp2_with fail
          have sH : Below w2.heap.size w2 w2.drew := (Below.refl _ _).drew
          refine wp_region_held_drew (S := (SX w2 u5 w2.heap.size)) (by kernel_rfl) (fun k hk _ _ => Below.block ((Below.refl w2.heap.size w2).drew) k hk) (fun hHeld => ?_)
          refine takeL (i := 0) (v := ?_) rfl (by kernel_rfl) (by kernel_rfl) (by kernel_rfl) (fun _ _ _ h => h) (Or.inl ⟨by rfl, ?_⟩) hHeld ?_
          rotate_left
          · intro wS hSw; go_simp; try with_reducible rfl
          try simp only [Act.put, List.setIfInBounds_toArray, List.set_cons_zero, List.set_cons_succ]
          refine takeL (i := 1) (v := ?_) rfl (by kernel_rfl) (by kernel_rfl) (by kernel_rfl) (fun _ _ _ h => h) (Or.inl ⟨by rfl, ?_⟩) hHeld ?_
          rotate_left
          · intro wS hSw; go_simp; try with_reducible rfl
          try simp only [Act.put, List.setIfInBounds_toArray, List.set_cons_zero, List.set_cons_succ]
          refine takeL (i := 2) (v := ?_) rfl (by kernel_rfl) (by kernel_rfl) (by kernel_rfl) (fun _ _ _ h => h) (Or.inl ⟨by rfl, ?_⟩) hHeld ?_
          rotate_left
          · intro wS hSw; go_simp; try with_reducible rfl
          try simp only [Act.put, List.setIfInBounds_toArray, List.set_cons_zero, List.set_cons_succ]
          refine takeL (i := 3) (v := ?_) rfl (by kernel_rfl) (by kernel_rfl) (by kernel_rfl) (fun _ _ _ h => h) (Or.inl ⟨by rfl, ?_⟩) hHeld ?_
          rotate_left
          · intro wS hSw; have k1 := (World.cell?_of_block (w := w2) (a := ⟨g7, 0, none⟩) (hSw g7 lt7 HGW.out (Nat.ne_of_lt lt7))).trans d0; go_simp; try with_reducible rfl
          try simp only [Act.put, List.setIfInBounds_toArray, List.set_cons_zero, List.set_cons_succ]
          refine takeL (i := 5) (v := ?_) rfl (by kernel_rfl) (by kernel_rfl) (by kernel_rfl) (fun _ _ _ h => h) (Or.inl ⟨by rfl, ?_⟩) hHeld ?_
          rotate_left
          · intro wS hSw; go_simp; try with_reducible rfl
          try simp only [Act.put, List.setIfInBounds_toArray, List.set_cons_zero, List.set_cons_succ]
          refine takeL (i := 6) (v := ?_) rfl (by kernel_rfl) (by kernel_rfl) (by kernel_rfl) (fun _ _ _ h => h) (Or.inl ⟨by rfl, ?_⟩) hHeld ?_
          rotate_left
          · intro wS hSw; go_simp; try with_reducible rfl
          try simp only [Act.put, List.setIfInBounds_toArray, List.set_cons_zero, List.set_cons_succ]
          refine takeL (i := 7) (v := ?_) rfl (by kernel_rfl) (by kernel_rfl) (by kernel_rfl) (fun _ _ _ h => h) (Or.inl ⟨by rfl, ?_⟩) hHeld ?_
          rotate_left
          · intro wS hSw; have k1 := (World.cell?_of_block (w := w2) (a := ⟨g7, 1, none⟩) (hSw g7 lt7 HGW.out (Nat.ne_of_lt lt7))).trans d1; go_simp; try with_reducible rfl
          try simp only [Act.put, List.setIfInBounds_toArray, List.set_cons_zero, List.set_cons_succ]
          refine takeL (i := 9) (v := ?_) rfl (by kernel_rfl) (by kernel_rfl) (by kernel_rfl) (fun _ _ _ h => h) (Or.inl ⟨by rfl, ?_⟩) hHeld ?_
          rotate_left
          · intro wS hSw; go_simp; try with_reducible rfl
          try simp only [Act.put, List.setIfInBounds_toArray, List.set_cons_zero, List.set_cons_succ]
          refine takeL (i := 10) (v := ?_) rfl (by kernel_rfl) (by kernel_rfl) (by kernel_rfl) (fun _ _ _ h => h) (Or.inl ⟨by rfl, ?_⟩) hHeld ?_
          rotate_left
          · intro wS hSw; go_simp; try with_reducible rfl
          try simp only [Act.put, List.setIfInBounds_toArray, List.set_cons_zero, List.set_cons_succ]
          refine takeL (i := 11) (v := ?_) rfl (by kernel_rfl) (by kernel_rfl) (by kernel_rfl) (fun _ _ _ h => h) (Or.inl ⟨by rfl, ?_⟩) hHeld ?_
          rotate_left
          · intro wS hSw; have k1 := (World.cell?_of_block (w := w2) (a := ⟨g7, 2, none⟩) (hSw g7 lt7 HGW.out (Nat.ne_of_lt lt7))).trans d2; go_simp; try with_reducible rfl
          try simp only [Act.put, List.setIfInBounds_toArray, List.set_cons_zero, List.set_cons_succ]
          refine takeL (i := 13) (v := ?_) rfl (by kernel_rfl) (by kernel_rfl) (by kernel_rfl) (fun _ _ _ h => h) (Or.inl ⟨by rfl, ?_⟩) hHeld ?_
          rotate_left
          · intro wS hSw; go_simp; try with_reducible rfl
          try simp only [Act.put, List.setIfInBounds_toArray, List.set_cons_zero, List.set_cons_succ]
          refine readyL (i := 4) (by kernel_rfl) rfl (fun K hK => ?_)
          go_simp
          refine (rNumI_any y0 _ (by omega)).mono ?_
          rintro e q1 ⟨n0, rfl, N0, _, _, rfl⟩
          go_wp2_with fail
          refine hK.out _ _ hHeld (fun _ => ?_)
          clear hK K
          try simp only [Act.put, List.setIfInBounds_toArray, List.set_cons_zero, List.set_cons_succ]
          refine readyL (i := 8) (by kernel_rfl) rfl (fun K hK => ?_)
          go_simp
          refine (rNameI_any y1 _ (by omega)).mono ?_
          rintro e q1 ⟨zn, rfl, zz, NZ, rfl⟩
          go_wp2_with fail
          refine hK.out _ _ hHeld (fun _ => ?_)
          clear hK K
          try simp only [Act.put, List.setIfInBounds_toArray, List.set_cons_zero, List.set_cons_succ]
          refine readyL (i := 12) (by kernel_rfl) rfl (fun K hK => ?_)
          go_simp
          refine (rNumI_any y2 _ (by omega)).mono ?_
          rintro e q1 ⟨n2, rfl, N2, _, _, rfl⟩
          go_wp2_with fail
          refine hK.out _ _ hHeld (fun _ => ?_)
          clear hK K
          try simp only [Act.put, List.setIfInBounds_toArray, List.set_cons_zero, List.set_cons_succ]
          refine takeL (i := 14) (v := ?_) rfl (by kernel_rfl) (by kernel_rfl) (by kernel_rfl) (fun _ _ _ h => h) (Or.inl ⟨by rfl, ?_⟩) hHeld ?_
          rotate_left
          · intro wS hSw; go_simp; try with_reducible rfl
          try simp only [Act.put, List.setIfInBounds_toArray, List.set_cons_zero, List.set_cons_succ]
          refine readyL (i := 15) (by kernel_rfl) rfl (fun K hK => ?_)
          go_simp
          have sA := ((Below.refl w2.heap.size w2).alloc (Nat.le_refl _) (.cells #[.int .i64 n0, .string zn, .int .i64 n2, .int .i64 dn] 27)).drew
          refine hK.out _ _ (fun k hk _ _ => Below.block sA k hk) (fun _ => ?_)
          clear hK K
          try simp only [Act.put, List.setIfInBounds_toArray, List.set_cons_zero, List.set_cons_succ]
          refine readyL (i := 16) (by kernel_rfl) rfl (fun K hK => ?_)
          rw [if_pos (by rfl)]
          refine wp_append_own _ _ _ 22 rfl w1.heap.size 27 i0 _ 4 40 Tryz.underlying22 hi hz0 hz1 hz2 rfl (by decide) u5 (k - 1) _ rfl (((own_below HO.out b2.out).alloc _).drew) ⟨w2.heap.size, 0, none⟩ 1 1 [.int .i64 n0, .string zn, .int .i64 n2, .int .i64 dn] rfl rfl (cells_new w2 #[.int .i64 n0, .string zn, .int .i64 n2, .int .i64 dn] 27) (by simp [Value.oneCell']) (by unfold maxLen; omega) (by omega) (by simp; omega) ?_
          intro v6 w6 hown6 hgrow6 _
          have BK : ∀ q, q < w2.heap.size → u5.ownBlock ≠ some q → w6.heap[q]? = w2.heap[q]? := fun q hq h1 => (hgrow6.block q (by simp; omega) (fun e => h1 e.symm)).trans (sA.block q hq)
          refine hK.out _ _ (fun k hk h1 _ => BK k hk h1) (fun hS6 => ?_)
          clear hK K
          try simp only [Act.put, List.setIfInBounds_toArray, List.set_cons_zero, List.set_cons_succ]
          refine takeL (i := 17) (v := ?_) rfl (by kernel_rfl) (by kernel_rfl) (by kernel_rfl) (fun _ _ _ h => h) (Or.inl ⟨by rfl, ?_⟩) hS6 ?_
          rotate_left
          · intro wS hSw; go_simp; try with_reducible rfl
          try simp only [Act.put, List.setIfInBounds_toArray, List.set_cons_zero, List.set_cons_succ]
          refine wpAnyH_done (by kernel_rfl) ?_ _
          have HO6 := Lib.hid hown6
          have HB6 : Hid (Below w1.heap.size w1 w6) := Lib.hid ((((HB.out.trans (b2.out.mono hsz))).trans (sA.mono (by omega))).grown hgrow6 (by simp; omega) (fun j hj => (HO.out.lt j hj).1))
          clear hown6 hgrow6 BK hS6 hHeld
          go_wp2_with fail
          go_roundg (402 - (k + 1))
          case measure => omega
          case rel =>
            have hr := rows_snoc (L t) k (L ln) k1 HLn.out
            refine ⟨k + 1, by omega, by omega, Or.inr (by omega), rfl, Lib.hid ?_, Lib.hid ?_, Lib.hid (fun p hp => ?_), HB6, by go_num⟩
            · rw [Nat.add_sub_cancel, hr, List.map_append, List.map_cons, List.map_nil, cellsL_snoc]
              have e : payC (rPay (L ln)) = [.int .i64 n0, .string zn, .int .i64 n2, .int .i64 dn] := by
                  unfold rPay
                  rw [HW.out]
                  simp only [payC, List.getD_cons_zero, List.getD_cons_succ]
                  rw [← N0.out, ← N2.out, ← HDN.out, ← NZ.out]
              rw [e, show k = k - 1 + 1 from by omega]
              exact HO6.out
            · rw [Nat.add_sub_cancel, hr, List.length_append, HLen.out]; show k - 1 + 1 = k; omega
            · rw [Nat.add_sub_cancel, hr, List.map_append, List.mem_append, List.map_cons, List.map_nil, List.mem_singleton] at hp
              rcases hp with hp | rfl
              · exact HAc.out p hp
              · unfold rPay
                rw [HW.out]
                simp only [List.getD_cons_zero, List.getD_cons_succ]
                rw [← NZ.out, L_len]
                omega
        · have HN : Hid (readP (L t) = none) := Lib.hid (bad_lineP (L t) k (L ln) (by rw [HLX.out]; omega) HLn.out k1 (by rw [← HY.out, List.length_map]; exact h4))
          obtain ⟨A7, c7, rfl⟩ := own_nil OY.out ys.length rfl
          have hb : ((ys.length : Int) != 4) = true := by rw [bne_iff_ne]; omega
          clear h4 HY HYz OY
          go_wp2_with fail
          go_ret2
          exact RetP.no HN.out B2.out
      · have HJ : Hid (k - 1 = min ((splitL 10 (L t)).length - 3) 401) := Lib.hid (by rw [HLX.out]; omega)
        have RL : Rd payC 4 wo u5 ((rows (L t) (k - 1)).map rPay) := by
          have h1 := Row.of_own HO.out
          unfold Rd
          rw [List.length_map, HLen.out]
          exact h1
        have HRL := Lib.hid RL
        have hll : ((rows (L t) (k - 1)).map rPay).length ≤ 1000000 := by rw [List.length_map, HLen.out]; omega
        clear RL kx
        go_wp2_with fail
        refine (rWrite_any u5 _ _ HRL.out HAc.out hll).mono ?_
        rintro e w9 ⟨s9, rfl, H9, b9⟩
        have B9 : Hid (Below w.heap.size w w9) := Lib.hid (Bo.out.trans (b9.out.mono (Below.size Bo.out)))
        have R9 := Lib.hid (HRL.out.below b9.out)
        have HIF : Hid (writeP ((rows (L t) (k - 1)).map rPay) ≠ (L t, 0) → readP (L t) = none) := Lib.hid (fun h => read_refP (L t) (k - 1) HJ.out h)
        obtain ⟨pr, hpr⟩ : ∃ pr, writeP ((rows (L t) (k - 1)).map rPay) = pr := ⟨_, rfl⟩
        have HPR := Lib.hid hpr
        rw [hpr] at H9 HIF ⊢
        clear hpr b9
        obtain ⟨tx, er⟩ := pr
        by_cases her : er = 0
        · subst her
          by_cases hs9 : s9 = t
          · subst hs9
            have HY : Hid (readP (L s9) = some ((rows (L s9) (k - 1)).map rPay)) := Lib.hid ((readP_iff _ _).2 (by rw [HPR.out, H9.out]))
            go_wp2_with fail
            go_ret2
            exact RetP.yes HY.out R9.out B9.out
          · have HN : Hid (readP (L t) = none) := Lib.hid (HIF.out (fun h => hs9 (str_eq (by rw [H9.out]; injection h))))
            have hb := str_neq hs9
            clear hs9
            go_wp2_with fail
            go_ret2
            exact RetP.no HN.out B9.out
        · have HN : Hid (readP (L t) = none) := Lib.hid (HIF.out (fun h => her (by injection h)))
          have hb : ((er : Int) != 0) = true := by rw [bne_iff_ne]; omega
          clear her
          go_wp2_with fail
          go_ret2
          exact RetP.no HN.out B9.out
    · have HJ : Hid (k - 1 = min ((splitL 10 (L t)).length - 3) 401) := Lib.hid (by rw [HLX.out]; omega)
      have RL : Rd payC 4 wo u5 ((rows (L t) (k - 1)).map rPay) := by
        have h1 := Row.of_own HO.out
        unfold Rd
        rw [List.length_map, HLen.out]
        exact h1
      have HRL := Lib.hid RL
      have hll : ((rows (L t) (k - 1)).map rPay).length ≤ 1000000 := by rw [List.length_map, HLen.out]; omega
      clear RL kx
      go_wp2_with fail
      refine (rWrite_any u5 _ _ HRL.out HAc.out hll).mono ?_
      rintro e w9 ⟨s9, rfl, H9, b9⟩
      have B9 : Hid (Below w.heap.size w w9) := Lib.hid (Bo.out.trans (b9.out.mono (Below.size Bo.out)))
      have R9 := Lib.hid (HRL.out.below b9.out)
      have HIF : Hid (writeP ((rows (L t) (k - 1)).map rPay) ≠ (L t, 0) → readP (L t) = none) := Lib.hid (fun h => read_refP (L t) (k - 1) HJ.out h)
      obtain ⟨pr, hpr⟩ : ∃ pr, writeP ((rows (L t) (k - 1)).map rPay) = pr := ⟨_, rfl⟩
      have HPR := Lib.hid hpr
      rw [hpr] at H9 HIF ⊢
      clear hpr b9
      obtain ⟨tx, er⟩ := pr
      by_cases her : er = 0
      · subst her
        by_cases hs9 : s9 = t
        · subst hs9
          have HY : Hid (readP (L s9) = some ((rows (L s9) (k - 1)).map rPay)) := Lib.hid ((readP_iff _ _).2 (by rw [HPR.out, H9.out]))
          go_wp2_with fail
          go_ret2
          exact RetP.yes HY.out R9.out B9.out
        · have HN : Hid (readP (L t) = none) := Lib.hid (HIF.out (fun h => hs9 (str_eq (by rw [H9.out]; injection h))))
          have hb := str_neq hs9
          clear hs9
          go_wp2_with fail
          go_ret2
          exact RetP.no HN.out B9.out
      · have HN : Hid (readP (L t) = none) := Lib.hid (HIF.out (fun h => her (by injection h)))
        have hb : ((er : Int) != 0) = true := by rw [bne_iff_ne]; omega
        clear her
        go_wp2_with fail
        go_ret2
        exact RetP.no HN.out B9.out
end Go.Proofs.YtibgibjmpcajkaaGreatDoor
namespace BankS
open Go
/-- the kind whose word was found among the first ones -/
def rkTo (t : Bs) : Nat → Int
  | 0 => 0
  | m + 1 => if 1 ≤ m ∧ kindT m = t then m else rkTo t m
theorem rkTo_yes (t : Bs) (m : Nat) (h : kindT m = t) (h1 : 1 ≤ m := by omega) : (m : Int) = rkTo t (m + 1) := by
  unfold rkTo; rw [if_pos ⟨h1, h⟩]
theorem rkTo_no (t : Bs) (m : Nat) (h : ¬ kindT m = t) : rkTo t m = rkTo t (m + 1) := by
  show _ = if 1 ≤ m ∧ kindT m = t then (m : Int) else rkTo t m
  rw [if_neg (fun e => h e.2)]
theorem rkTo_all (t : Bs) : rkTo t 5 = rKd t := by
  unfold rKd kindP
  simp only [rkTo]
  by_cases h4 : t = kindT 4
  · subst h4; decide
  by_cases h3 : t = kindT 3
  · subst h3; decide
  by_cases h2 : t = kindT 2
  · subst h2; decide
  by_cases h1 : t = kindT 1
  · subst h1; decide
  rw [if_neg h1, if_neg h2, if_neg h3, if_neg h4, if_neg (fun e => h4 e.2.symm), if_neg (fun e => h3 e.2.symm), if_neg (fun e => h2 e.2.symm), if_neg (fun e => h1 e.2.symm), if_neg (by omega)]
  rfl
end BankS
namespace Go.Proofs.YtibgibjmpcajkaaGreatDoor
open Go.RowKit BankS
theorem str_eqb2 {z s : ByteArray} (h : z = s) : (z.toList == s.toList) = true := by rw [h]; exact beq_self_eq_true _
set_option maxHeartbeats 16000000 in
set_option maxRecDepth 100000 in
theorem rReadA_any (t : ByteArray) (w : World) (ht : t.size ≤ 100000) :
    Calls Tryz.prog 21 #[.string t] w (RetN (readA (L t)) w) := by
  obtain ⟨i0, hi, hz0, hz1, hz2⟩ := info_parts Tryz.infoAns
  go_enter Tryz.func21, Tryz.ntmps21
  go_wp2_with fail
  refine (rSplit_any t 10 _ ht).mono ?_
  rintro e w1 ⟨v4, xs, rfl, HX, OX, HZ, lx, B1⟩
  have z1 := B1.out.size
  obtain ⟨nx, hnx⟩ : ∃ nx, xs.length = nx := ⟨_, rfl⟩
  have HNX := Lib.hid hnx
  have nx1 : nx ≤ 100001 := by omega
  have HLX : Hid ((splitL 10 (L t)).length = nx) := Lib.hid (by rw [← HX.out, List.length_map, hnx])
  have hp0 : 0 < nx := by have h5 := HLX.out; rw [splitL_len] at h5; omega
  obtain ⟨gx, cx, rfl, hcx, bgx, hgx, hcell⟩ := own_open OX.out nx hnx hp0
  have HCL := Lib.hid hcell
  clear hcell hnx OX
  go_wp2_with fail
  go_loopg [5, 6] 401 (fun g v5 i wx => ∃ k : Nat, 1 ≤ k ∧ k ≤ 402 ∧ (k = 1 ∨ k + 2 ≤ nx) ∧ g = 402 - k ∧ Hid (wx.ownsRow w1.heap.size 54 5 v5 (k - 1) (cellsL ansC ((rows (L t) (k - 1)).map rAns))) ∧ Hid ((rows (L t) (k - 1)).length = k - 1) ∧ Hid (Below w1.heap.size w1 wx) ∧ i = .int .i64 k)
  case atStart => exact ⟨1, by omega, by omega, Or.inl rfl, rfl, Lib.hid (World.ownsRow_nil _ _ _ _), Lib.hid rfl, Lib.hid (Below.refl _ _), rfl⟩
  case round =>
    obtain ⟨k, k1, k402, kx, rfl, HO, HLen, HB, rfl⟩ := hrel
    rename World => wo
    have hsz := HB.out.size
    have Bo : Hid (Below w.heap.size w wo) := Lib.hid (B1.out.trans (HB.out.mono z1))
    by_cases hlt : k + 2 < nx
    · by_cases h401 : k ≤ 401
      · obtain ⟨ln, hln⟩ : ∃ ln, xs[k]? = some ln := ⟨_, List.getElem?_eq_getElem (by rw [HNX.out]; omega)⟩
        have HLn : Hid ((splitL 10 (L t))[k]? = some (L ln)) := Lib.hid (by rw [← HX.out, List.getElem?_map, hln]; rfl)
        have hzl : ln.size ≤ t.size := HZ.out ln (List.mem_of_getElem? hln)
        have cl : wo.cell? ⟨gx, k, none⟩ = some (.string ln) := (HB.out.cell (p := ⟨gx, k, none⟩) hgx).trans (HCL.out k ln hln)
        clear hln
        go_wp2_with fail
        refine (rSplit_any ln 32 _ (by omega)).mono ?_
        rintro e w2 ⟨v7, ys, rfl, HY, OY, HYz, ly, b2⟩
        have z2 := b2.out.size
        have B2 : Hid (Below w.heap.size w w2) := Lib.hid (Bo.out.trans (b2.out.mono (Below.size Bo.out)))
        clear cl
        by_cases h4 : ys.length = 5
        · obtain ⟨g7, c7, rfl, hc7, bg7, lt7, hcy⟩ := own_open OY.out 5 h4 (by omega)
          obtain ⟨y0, y1, y2, y3, y4, rfl⟩ := five_of h4
          have d0 := hcy 0 y0 rfl
          have s0 : y0.size ≤ ln.size := HYz.out y0 (by simp)
          have d1 := hcy 1 y1 rfl
          have s1 : y1.size ≤ ln.size := HYz.out y1 (by simp)
          have d2 := hcy 2 y2 rfl
          have s2 : y2.size ≤ ln.size := HYz.out y2 (by simp)
          have d3 := hcy 3 y3 rfl
          have s3 : y3.size ≤ ln.size := HYz.out y3 (by simp)
          have d4 := hcy 4 y4 rfl
          have s4 : y4.size ≤ ln.size := HYz.out y4 (by simp)
          have HW : Hid (splitL 32 (L ln) = [L y0, L y1, L y2, L y3, L y4]) := Lib.hid HY.out.symm
          have HGW : Hid (u5.ownBlock ≠ some g7) := Lib.hid (fun e => by have := (HO.out.lt g7 e).2; omega)
          clear hcy HY OY HYz h4
          go_wp2_with fail
          refine (rParse_any y4 _).mono ?_
          rintro e w' ⟨rfl, rfl⟩
          obtain ⟨dn, hdn⟩ : ∃ dn, dn = (dayE (L y4)).1 := ⟨_, rfl⟩
          rw [← hdn]
          have HDN := Lib.hid hdn
          clear hdn
          go_wp2_with fail
          go_loopg [10, 11] 4 (fun g2 v10 j wy => ∃ (m : Nat) (kv : Int), 1 ≤ m ∧ m ≤ 5 ∧ g2 = 5 - m ∧ Hid (kv = rkTo (L y2) m) ∧ Hid (Below w2.heap.size w2 wy) ∧ v10 = .int .i64 kv ∧ j = .int .i64 m)
          case atStart => exact ⟨1, 0, by omega, by omega, rfl, Lib.hid rfl, Lib.hid (Below.refl _ _), rfl, rfl⟩
          case round =>
          obtain ⟨m, kv, hm1, hm5, rfl, HKV, HB2, rfl, rfl⟩ := hrel
          rename World => wz
          have zz2 := HB2.out.size
          have lt8 : g7 < wz.heap.size := by omega
          have e0 := (HB2.out.cell (p := ⟨g7, 0, none⟩) lt7).trans d0
          have e1 := (HB2.out.cell (p := ⟨g7, 1, none⟩) lt7).trans d1
          have e2 := (HB2.out.cell (p := ⟨g7, 2, none⟩) lt7).trans d2
          have e3 := (HB2.out.cell (p := ⟨g7, 3, none⟩) lt7).trans d3
          have e4 := (HB2.out.cell (p := ⟨g7, 4, none⟩) lt7).trans d4
          by_cases hm : m ≤ 4
          · go_wp2_with fail
            refine wp_region_held_drew (S := (fun W => Below wz.heap.size wz W)) (by kernel_rfl) ((Below.refl _ _).drew) (fun hHeld => ?_)
            refine takeL (i := 0) (v := ?_) rfl (by kernel_rfl) (by kernel_rfl) (by kernel_rfl) (fun _ _ _ h => h) (Or.inl ⟨by rfl, ?_⟩) hHeld ?_
            rotate_left
            · intro wS hSw; go_simp; try with_reducible rfl
            try simp only [Act.put, List.setIfInBounds_toArray, List.set_cons_zero, List.set_cons_succ]
            refine takeL (i := 2) (v := ?_) rfl (by kernel_rfl) (by kernel_rfl) (by kernel_rfl) (fun _ _ _ h => h) (Or.inl ⟨by rfl, ?_⟩) hHeld ?_
            rotate_left
            · intro wS hSw; go_simp; try with_reducible rfl
            try simp only [Act.put, List.setIfInBounds_toArray, List.set_cons_zero, List.set_cons_succ]
            refine takeL (i := 3) (v := ?_) rfl (by kernel_rfl) (by kernel_rfl) (by kernel_rfl) (fun _ _ _ h => h) (Or.inl ⟨by rfl, ?_⟩) hHeld ?_
            rotate_left
            · intro wS hSw; go_simp; try with_reducible rfl
            try simp only [Act.put, List.setIfInBounds_toArray, List.set_cons_zero, List.set_cons_succ]
            refine takeL (i := 4) (v := ?_) rfl (by kernel_rfl) (by kernel_rfl) (by kernel_rfl) (fun _ _ _ h => h) (Or.inl ⟨by rfl, ?_⟩) hHeld ?_
            rotate_left
            · intro wS hSw; have k1 := (hSw.cell (p := ⟨g7, 2, none⟩) lt8).trans e2; go_simp; try with_reducible rfl
            try simp only [Act.put, List.setIfInBounds_toArray, List.set_cons_zero, List.set_cons_succ]
            refine readyL (i := 1) (by kernel_rfl) rfl (fun K hK => ?_)
            go_simp
            refine (rKind_any m _).mono ?_
            rintro e q1 ⟨kw, rfl, _, NK, rfl⟩
            go_wp2_with fail
            refine hK.out _ _ hHeld (fun _ => ?_)
            clear hK K
            try simp only [Act.put, List.setIfInBounds_toArray, List.set_cons_zero, List.set_cons_succ]
            by_cases hkw : kw = y2
            · have hb := str_eqb2 hkw
              have HK2 : Hid ((m : Int) = rkTo (L y2) (m + 1)) := Lib.hid (rkTo_yes _ _ (by rw [← NK.out, hkw]))
              clear hkw
              refine takeL (i := 5) (v := ?_) rfl (by kernel_rfl) (by kernel_rfl) (by kernel_rfl) (fun _ _ _ h => h) (Or.inl ⟨by rfl, ?_⟩) hHeld ?_
              rotate_left
              · intro wS hSw; go_simp; try with_reducible rfl
              try simp only [Act.put, List.setIfInBounds_toArray, List.set_cons_zero, List.set_cons_succ]
              refine wpAnyH_done (by kernel_rfl) ?_ _
              go_wp2_with fail
              go_roundg (5 - (m + 1))
              case measure => omega
              case rel => exact ⟨m + 1, m, by omega, by omega, rfl, HK2, Lib.hid HB2.out.drew, rfl, by go_num⟩
            · have hb := str_neq hkw
              have HK2 : Hid (kv = rkTo (L y2) (m + 1)) := Lib.hid (by rw [HKV.out]; exact rkTo_no _ _ (fun h => hkw (str_eq (by rw [NK.out, h]))))
              clear hkw
              refine takeL (i := 5) (v := ?_) rfl (by kernel_rfl) (by kernel_rfl) (by kernel_rfl) (fun _ _ _ h => h) (Or.inl ⟨by rfl, ?_⟩) hHeld ?_
              rotate_left
              · intro wS hSw; go_simp; try with_reducible rfl
              try simp only [Act.put, List.setIfInBounds_toArray, List.set_cons_zero, List.set_cons_succ]
              refine wpAnyH_done (by kernel_rfl) ?_ _
              go_wp2_with fail
              go_roundg (5 - (m + 1))
              case measure => omega
              case rel => exact ⟨m + 1, kv, by omega, by omega, rfl, HK2, Lib.hid HB2.out.drew, rfl, by go_num⟩
          obtain rfl : m = 5 := by omega
          have HRK : Hid (kv = rKd (L y2)) := Lib.hid (by rw [HKV.out, rkTo_all])
          have OZ := Lib.hid (own_below (own_below HO.out b2.out) HB2.out)
          have Bz : Hid (Below w.heap.size w wz) := Lib.hid (B2.out.trans (HB2.out.mono (Below.size B2.out)))
          clear hm HKV
          go_wp2_with fail
          have sH : Below wz.heap.size wz wz.drew := (Below.refl _ _).drew
          refine wp_region_held_drew (S := (SX wz u5 wz.heap.size)) (by kernel_rfl) (fun k hk _ _ => Below.block ((Below.refl wz.heap.size wz).drew) k hk) (fun hHeld => ?_)
          refine takeL (i := 0) (v := ?_) rfl (by kernel_rfl) (by kernel_rfl) (by kernel_rfl) (fun _ _ _ h => h) (Or.inl ⟨by rfl, ?_⟩) hHeld ?_
          rotate_left
          · intro wS hSw; go_simp; try with_reducible rfl
          try simp only [Act.put, List.setIfInBounds_toArray, List.set_cons_zero, List.set_cons_succ]
          refine takeL (i := 1) (v := ?_) rfl (by kernel_rfl) (by kernel_rfl) (by kernel_rfl) (fun _ _ _ h => h) (Or.inl ⟨by rfl, ?_⟩) hHeld ?_
          rotate_left
          · intro wS hSw; go_simp; try with_reducible rfl
          try simp only [Act.put, List.setIfInBounds_toArray, List.set_cons_zero, List.set_cons_succ]
          refine takeL (i := 2) (v := ?_) rfl (by kernel_rfl) (by kernel_rfl) (by kernel_rfl) (fun _ _ _ h => h) (Or.inl ⟨by rfl, ?_⟩) hHeld ?_
          rotate_left
          · intro wS hSw; go_simp; try with_reducible rfl
          try simp only [Act.put, List.setIfInBounds_toArray, List.set_cons_zero, List.set_cons_succ]
          refine takeL (i := 3) (v := ?_) rfl (by kernel_rfl) (by kernel_rfl) (by kernel_rfl) (fun _ _ _ h => h) (Or.inl ⟨by rfl, ?_⟩) hHeld ?_
          rotate_left
          · intro wS hSw; have k1 := (World.cell?_of_block (w := wz) (a := ⟨g7, 0, none⟩) (hSw g7 lt8 HGW.out (Nat.ne_of_lt lt8))).trans e0; go_simp; try with_reducible rfl
          try simp only [Act.put, List.setIfInBounds_toArray, List.set_cons_zero, List.set_cons_succ]
          refine takeL (i := 5) (v := ?_) rfl (by kernel_rfl) (by kernel_rfl) (by kernel_rfl) (fun _ _ _ h => h) (Or.inl ⟨by rfl, ?_⟩) hHeld ?_
          rotate_left
          · intro wS hSw; go_simp; try with_reducible rfl
          try simp only [Act.put, List.setIfInBounds_toArray, List.set_cons_zero, List.set_cons_succ]
          refine takeL (i := 6) (v := ?_) rfl (by kernel_rfl) (by kernel_rfl) (by kernel_rfl) (fun _ _ _ h => h) (Or.inl ⟨by rfl, ?_⟩) hHeld ?_
          rotate_left
          · intro wS hSw; go_simp; try with_reducible rfl
          try simp only [Act.put, List.setIfInBounds_toArray, List.set_cons_zero, List.set_cons_succ]
          refine takeL (i := 7) (v := ?_) rfl (by kernel_rfl) (by kernel_rfl) (by kernel_rfl) (fun _ _ _ h => h) (Or.inl ⟨by rfl, ?_⟩) hHeld ?_
          rotate_left
          · intro wS hSw; have k1 := (World.cell?_of_block (w := wz) (a := ⟨g7, 1, none⟩) (hSw g7 lt8 HGW.out (Nat.ne_of_lt lt8))).trans e1; go_simp; try with_reducible rfl
          try simp only [Act.put, List.setIfInBounds_toArray, List.set_cons_zero, List.set_cons_succ]
          refine takeL (i := 9) (v := ?_) rfl (by kernel_rfl) (by kernel_rfl) (by kernel_rfl) (fun _ _ _ h => h) (Or.inl ⟨by rfl, ?_⟩) hHeld ?_
          rotate_left
          · intro wS hSw; go_simp; try with_reducible rfl
          try simp only [Act.put, List.setIfInBounds_toArray, List.set_cons_zero, List.set_cons_succ]
          refine takeL (i := 10) (v := ?_) rfl (by kernel_rfl) (by kernel_rfl) (by kernel_rfl) (fun _ _ _ h => h) (Or.inl ⟨by rfl, ?_⟩) hHeld ?_
          rotate_left
          · intro wS hSw; go_simp; try with_reducible rfl
          try simp only [Act.put, List.setIfInBounds_toArray, List.set_cons_zero, List.set_cons_succ]
          refine takeL (i := 11) (v := ?_) rfl (by kernel_rfl) (by kernel_rfl) (by kernel_rfl) (fun _ _ _ h => h) (Or.inl ⟨by rfl, ?_⟩) hHeld ?_
          rotate_left
          · intro wS hSw; go_simp; try with_reducible rfl
          try simp only [Act.put, List.setIfInBounds_toArray, List.set_cons_zero, List.set_cons_succ]
          refine takeL (i := 12) (v := ?_) rfl (by kernel_rfl) (by kernel_rfl) (by kernel_rfl) (fun _ _ _ h => h) (Or.inl ⟨by rfl, ?_⟩) hHeld ?_
          rotate_left
          · intro wS hSw; have k1 := (World.cell?_of_block (w := wz) (a := ⟨g7, 3, none⟩) (hSw g7 lt8 HGW.out (Nat.ne_of_lt lt8))).trans e3; go_simp; try with_reducible rfl
          try simp only [Act.put, List.setIfInBounds_toArray, List.set_cons_zero, List.set_cons_succ]
          refine takeL (i := 14) (v := ?_) rfl (by kernel_rfl) (by kernel_rfl) (by kernel_rfl) (fun _ _ _ h => h) (Or.inl ⟨by rfl, ?_⟩) hHeld ?_
          rotate_left
          · intro wS hSw; go_simp; try with_reducible rfl
          try simp only [Act.put, List.setIfInBounds_toArray, List.set_cons_zero, List.set_cons_succ]
          refine readyL (i := 4) (by kernel_rfl) rfl (fun K hK => ?_)
          go_simp
          refine (rNumI_any y0 _ (by omega)).mono ?_
          rintro e q1 ⟨n0, rfl, N0, _, _, rfl⟩
          go_wp2_with fail
          refine hK.out _ _ hHeld (fun _ => ?_)
          clear hK K
          try simp only [Act.put, List.setIfInBounds_toArray, List.set_cons_zero, List.set_cons_succ]
          refine readyL (i := 8) (by kernel_rfl) rfl (fun K hK => ?_)
          go_simp
          refine (rNumI_any y1 _ (by omega)).mono ?_
          rintro e q1 ⟨n1, rfl, N1, _, _, rfl⟩
          go_wp2_with fail
          refine hK.out _ _ hHeld (fun _ => ?_)
          clear hK K
          try simp only [Act.put, List.setIfInBounds_toArray, List.set_cons_zero, List.set_cons_succ]
          refine readyL (i := 13) (by kernel_rfl) rfl (fun K hK => ?_)
          go_simp
          refine (rNumI_any y3 _ (by omega)).mono ?_
          rintro e q1 ⟨n3, rfl, N3, _, _, rfl⟩
          go_wp2_with fail
          refine hK.out _ _ hHeld (fun _ => ?_)
          clear hK K
          try simp only [Act.put, List.setIfInBounds_toArray, List.set_cons_zero, List.set_cons_succ]
          refine takeL (i := 15) (v := ?_) rfl (by kernel_rfl) (by kernel_rfl) (by kernel_rfl) (fun _ _ _ h => h) (Or.inl ⟨by rfl, ?_⟩) hHeld ?_
          rotate_left
          · intro wS hSw; go_simp; try with_reducible rfl
          try simp only [Act.put, List.setIfInBounds_toArray, List.set_cons_zero, List.set_cons_succ]
          refine readyL (i := 16) (by kernel_rfl) rfl (fun K hK => ?_)
          go_simp
          have sA := ((Below.refl wz.heap.size wz).alloc (Nat.le_refl _) (.cells #[.int .i64 n0, .int .i64 n1, .int .i64 kv, .int .i64 n3, .int .i64 dn] 54)).drew
          refine hK.out _ _ (fun k hk _ _ => Below.block sA k hk) (fun _ => ?_)
          clear hK K
          try simp only [Act.put, List.setIfInBounds_toArray, List.set_cons_zero, List.set_cons_succ]
          refine readyL (i := 17) (by kernel_rfl) rfl (fun K hK => ?_)
          rw [if_pos (by rfl)]
          refine wp_append_own _ _ _ 23 rfl w1.heap.size 54 i0 _ 5 40 Tryz.underlying23 hi hz0 hz1 hz2 rfl (by decide) u5 (k - 1) _ rfl ((OZ.out.alloc _).drew) ⟨wz.heap.size, 0, none⟩ 1 1 [.int .i64 n0, .int .i64 n1, .int .i64 kv, .int .i64 n3, .int .i64 dn] rfl rfl (cells_new wz #[.int .i64 n0, .int .i64 n1, .int .i64 kv, .int .i64 n3, .int .i64 dn] 54) (by simp [Value.oneCell']) (by unfold maxLen; omega) (by omega) (by simp; omega) ?_
          intro v6 w6 hown6 hgrow6 _
          have BK : ∀ q, q < wz.heap.size → u5.ownBlock ≠ some q → w6.heap[q]? = wz.heap[q]? := fun q hq h1 => (hgrow6.block q (by simp; omega) (fun e => h1 e.symm)).trans (sA.block q hq)
          refine hK.out _ _ (fun k hk h1 _ => BK k hk h1) (fun hS6 => ?_)
          clear hK K
          try simp only [Act.put, List.setIfInBounds_toArray, List.set_cons_zero, List.set_cons_succ]
          refine takeL (i := 18) (v := ?_) rfl (by kernel_rfl) (by kernel_rfl) (by kernel_rfl) (fun _ _ _ h => h) (Or.inl ⟨by rfl, ?_⟩) hS6 ?_
          rotate_left
          · intro wS hSw; go_simp; try with_reducible rfl
          try simp only [Act.put, List.setIfInBounds_toArray, List.set_cons_zero, List.set_cons_succ]
          refine wpAnyH_done (by kernel_rfl) ?_ _
          have HO6 := Lib.hid hown6
          have HB6 : Hid (Below w1.heap.size w1 w6) := Lib.hid ((((HB.out.trans (b2.out.mono hsz)).trans (HB2.out.mono (by omega))).trans (sA.mono (by omega))).grown hgrow6 (by simp; omega) (fun j hj => (HO.out.lt j hj).1))
          clear hown6 hgrow6 BK hS6 hHeld
          go_wp2_with fail
          go_roundg (402 - (k + 1))
          case measure => omega
          case rel =>
            have hr := rows_snoc (L t) k (L ln) k1 HLn.out
            refine ⟨k + 1, by omega, by omega, Or.inr (by omega), rfl, Lib.hid ?_, Lib.hid ?_, HB6, by go_num⟩
            · rw [Nat.add_sub_cancel, hr, List.map_append, List.map_cons, List.map_nil, cellsL_snoc]
              have e : ansC (rAns (L ln)) = [.int .i64 n0, .int .i64 n1, .int .i64 kv, .int .i64 n3, .int .i64 dn] := by
                  unfold rAns
                  rw [HW.out]
                  simp only [ansC, List.getD_cons_zero, List.getD_cons_succ]
                  rw [← N0.out, ← N1.out, ← N3.out, ← HDN.out, ← HRK.out]
              rw [e, show k = k - 1 + 1 from by omega]
              exact HO6.out
            · rw [Nat.add_sub_cancel, hr, List.length_append, HLen.out]; show k - 1 + 1 = k; omega
        · have HN : Hid (readA (L t) = none) := Lib.hid (bad_lineA (L t) k (L ln) (by rw [HLX.out]; omega) HLn.out k1 (by rw [← HY.out, List.length_map]; exact h4))
          obtain ⟨A7, c7, rfl⟩ := own_nil OY.out ys.length rfl
          have hb : ((ys.length : Int) != 5) = true := by rw [bne_iff_ne]; omega
          clear h4 HY HYz OY
          go_wp2_with fail
          go_ret2
          exact RetN.no HN.out B2.out
      · have HJ : Hid (k - 1 = min ((splitL 10 (L t)).length - 3) 401) := Lib.hid (by rw [HLX.out]; omega)
        have RL : Rd ansC 5 wo u5 ((rows (L t) (k - 1)).map rAns) := by
          have h1 := Row.of_own HO.out
          unfold Rd
          rw [List.length_map, HLen.out]
          exact h1
        have HRL := Lib.hid RL
        have hll : ((rows (L t) (k - 1)).map rAns).length ≤ 1000000 := by rw [List.length_map, HLen.out]; omega
        clear RL kx
        go_wp2_with fail
        refine (rWriteA_any u5 _ _ HRL.out hll).mono ?_
        rintro e w9 ⟨s9, rfl, H9, b9⟩
        have B9 : Hid (Below w.heap.size w w9) := Lib.hid (Bo.out.trans (b9.out.mono (Below.size Bo.out)))
        have R9 := Lib.hid (HRL.out.below b9.out)
        have HIF : Hid (writeA ((rows (L t) (k - 1)).map rAns) ≠ (L t, 0) → readA (L t) = none) := Lib.hid (fun h => read_refA (L t) (k - 1) HJ.out h)
        obtain ⟨pr, hpr⟩ : ∃ pr, writeA ((rows (L t) (k - 1)).map rAns) = pr := ⟨_, rfl⟩
        have HPR := Lib.hid hpr
        rw [hpr] at H9 HIF ⊢
        clear hpr b9
        obtain ⟨tx, er⟩ := pr
        by_cases her : er = 0
        · subst her
          by_cases hs9 : s9 = t
          · subst hs9
            have HY : Hid (readA (L s9) = some ((rows (L s9) (k - 1)).map rAns)) := Lib.hid ((readA_iff _ _).2 (by rw [HPR.out, H9.out]))
            go_wp2_with fail
            go_ret2
            exact RetN.yes HY.out R9.out B9.out
          · have HN : Hid (readA (L t) = none) := Lib.hid (HIF.out (fun h => hs9 (str_eq (by rw [H9.out]; injection h))))
            have hb := str_neq hs9
            clear hs9
            go_wp2_with fail
            go_ret2
            exact RetN.no HN.out B9.out
        · have HN : Hid (readA (L t) = none) := Lib.hid (HIF.out (fun h => her (by injection h)))
          have hb : ((er : Int) != 0) = true := by rw [bne_iff_ne]; omega
          clear her
          go_wp2_with fail
          go_ret2
          exact RetN.no HN.out B9.out
    · have HJ : Hid (k - 1 = min ((splitL 10 (L t)).length - 3) 401) := Lib.hid (by rw [HLX.out]; omega)
      have RL : Rd ansC 5 wo u5 ((rows (L t) (k - 1)).map rAns) := by
        have h1 := Row.of_own HO.out
        unfold Rd
        rw [List.length_map, HLen.out]
        exact h1
      have HRL := Lib.hid RL
      have hll : ((rows (L t) (k - 1)).map rAns).length ≤ 1000000 := by rw [List.length_map, HLen.out]; omega
      clear RL kx
      go_wp2_with fail
      refine (rWriteA_any u5 _ _ HRL.out hll).mono ?_
      rintro e w9 ⟨s9, rfl, H9, b9⟩
      have B9 : Hid (Below w.heap.size w w9) := Lib.hid (Bo.out.trans (b9.out.mono (Below.size Bo.out)))
      have R9 := Lib.hid (HRL.out.below b9.out)
      have HIF : Hid (writeA ((rows (L t) (k - 1)).map rAns) ≠ (L t, 0) → readA (L t) = none) := Lib.hid (fun h => read_refA (L t) (k - 1) HJ.out h)
      obtain ⟨pr, hpr⟩ : ∃ pr, writeA ((rows (L t) (k - 1)).map rAns) = pr := ⟨_, rfl⟩
      have HPR := Lib.hid hpr
      rw [hpr] at H9 HIF ⊢
      clear hpr b9
      obtain ⟨tx, er⟩ := pr
      by_cases her : er = 0
      · subst her
        by_cases hs9 : s9 = t
        · subst hs9
          have HY : Hid (readA (L s9) = some ((rows (L s9) (k - 1)).map rAns)) := Lib.hid ((readA_iff _ _).2 (by rw [HPR.out, H9.out]))
          go_wp2_with fail
          go_ret2
          exact RetN.yes HY.out R9.out B9.out
        · have HN : Hid (readA (L t) = none) := Lib.hid (HIF.out (fun h => hs9 (str_eq (by rw [H9.out]; injection h))))
          have hb := str_neq hs9
          clear hs9
          go_wp2_with fail
          go_ret2
          exact RetN.no HN.out B9.out
      · have HN : Hid (readA (L t) = none) := Lib.hid (HIF.out (fun h => her (by injection h)))
        have hb : ((er : Int) != 0) = true := by rw [bne_iff_ne]; omega
        clear her
        go_wp2_with fail
        go_ret2
        exact RetN.no HN.out B9.out
end Go.Proofs.YtibgibjmpcajkaaGreatDoor
