/- The walk of payments. -/
import Derived.Test.YtibgibjmpcajkaaGreatDoorBankPk
namespace Go.Proofs.YtibgibjmpcajkaaGreatDoor
open Go.RowKit BankS

abbrev triC (x : Tri) : List Value := [.int .i64 x.1, .int .i64 x.2.1, .int .i64 x.2.2]
theorem rd_tri {w : World} {A : Option Addr} {cap : Nat} {l : List Tri} (h : Rd triC 3 w (.slice A l.length cap) l) (k : Nat) (x : Tri) (hx : l[k]? = some x) :
    ∃ g o, A = some ⟨g, o, none⟩ ∧ g < w.heap.size ∧ w.cell? ⟨g, o + k * 3, none⟩ = some (.int .i64 x.1) ∧ w.cell? ⟨g, o + k * 3 + 1, none⟩ = some (.int .i64 x.2.1) ∧ w.cell? ⟨g, o + k * 3 + 2, none⟩ = some (.int .i64 x.2.2) := by
  obtain ⟨A', cap', e, hc, _, hcell⟩ := h
  obtain ⟨rfl, rfl⟩ : A = A' ∧ cap = cap' := by injection e with e1 e2 e3; exact ⟨e1, e3⟩
  have hlt : k < l.length := (List.getElem?_eq_some_iff.1 hx).1
  obtain ⟨g, o, rfl, hg, hu⟩ := hcell (by omega)
  have ha := fun j u hj => cellsL_at triC 3 (fun _ => rfl) l k j x u hx hj
  refine ⟨g, o, rfl, hg, ?_, ?_, ?_⟩
  · exact hu _ _ (ha 0 _ rfl)
  · have := hu _ _ (ha 1 _ rfl); rw [← Nat.add_assoc] at this; exact this
  · have := hu _ _ (ha 2 _ rfl); rw [← Nat.add_assoc] at this; exact this

set_option maxHeartbeats 8000000 in
set_option maxRecDepth 100000 in
theorem payments_any (v : Value) (l : List Tri) (w : World) (hT : Tabs w) (hR : Rd triC 3 w v l) (hok : ∀ x ∈ l, triOk x) (hlen : l.length ≤ 9223372036854775807) :
    Calls Tryz.prog 10 #[v] w fun e w' => ∃ v', e = .returned v' ∧ Hid (Rd payC 4 w' v' (pays l)) ∧ Hid (Below w.heap.size w w') := by
  have HR := Lib.hid hR
  have HK := Lib.hid hok
  clear hok
  obtain ⟨A, cap, rfl, hcap, _, _⟩ := hR
  obtain ⟨i0, hi, hz0, hz1, hz2⟩ := info_parts Tryz.infoPay
  go_enter Tryz.func10, Tryz.ntmps10
  go_wp2_with fail
  go_loopg [3, 4] 30 (fun g v3 i wx => ∃ k : Nat, k ≤ 30 ∧ k ≤ l.length ∧ g = 30 - k ∧ Hid (wx.ownsRow w.heap.size 27 4 v3 k (cellsL payC (listOf payOf 0 (l.take k)))) ∧ Hid (Below w.heap.size w wx) ∧ i = .int .i64 k)
  case atStart => exact ⟨0, by omega, by omega, rfl, Lib.hid (World.ownsRow_nil _ _ _ _), Lib.hid (Below.refl _ _), rfl⟩
  case round =>
    obtain ⟨k, hk, hkl, rfl, HO, HB, rfl⟩ := hrel
    have hsz := HB.out.size
    have hTr := hT.below HB.out
    by_cases hlt : k < l.length
    · by_cases h30 : k < 30
      · obtain ⟨x, hx⟩ : ∃ x, l[k]? = some x := ⟨_, List.getElem?_eq_getElem hlt⟩
        obtain ⟨g, o, rfl, hg, c0, c1, c2⟩ := rd_tri (HR.out.below HB.out) k x hx
        obtain ⟨⟨a0, a1⟩, ⟨a2, a3⟩, ⟨a4, a5⟩⟩ := HK.out x (List.mem_of_getElem? hx)
        have HL := Lib.hid (listOf_take payOf l k x hx)
        obtain ⟨x0, x1, x2⟩ := x
        simp only at c0 c1 c2 a0 a1 a2 a3 a4 a5
        clear hx
        have hgw : u3.ownBlock ≠ some g := fun e => by
          have h1 := (HO.out.lt g e).1
          obtain ⟨A', cap', e', _, _, hc'⟩ := HR.out
          injection e' with e1 e2 e3
          obtain ⟨g', o', hA', hg', _⟩ := hc' (by omega)
          rw [← e1] at hA'
          injection hA' with hA'
          injection hA' with hA'
          omega
        have HGW := Lib.hid hgw
        clear hgw
        go_wp2_with fail
        refine wp_region_held_drew (S := (SX wr u3 wr.heap.size)) (by kernel_rfl) (fun k hk _ _ => Below.block ((Below.refl wr.heap.size wr).drew) k hk) (fun hHeld => ?_)
        have sH : Below wr.heap.size wr wr.drew := (Below.refl _ _).drew
        refine takeL (i := 0) (v := ?_) rfl (by kernel_rfl) (by kernel_rfl) (by kernel_rfl) (fun _ _ _ h => h) (Or.inl ⟨by rfl, ?_⟩) hHeld ?_
        rotate_left
        · intro wS hSw; go_simp; try with_reducible rfl
        try simp only [Act.put, List.setIfInBounds_toArray, List.set_cons_zero, List.set_cons_succ]
        refine takeL (i := 1) (v := ?_) rfl (by kernel_rfl) (by kernel_rfl) (by kernel_rfl) (fun _ _ _ h => h) (Or.inl ⟨by rfl, ?_⟩) hHeld ?_
        rotate_left
        · intro wS hSw; go_simp; try with_reducible rfl
        try simp only [Act.put, List.setIfInBounds_toArray, List.set_cons_zero, List.set_cons_succ]
        refine takeL (i := 2) (v := ?_) rfl (by kernel_rfl) (by kernel_rfl) (by kernel_rfl) (fun _ _ _ h => h) (Or.inl ⟨by rfl, ?_⟩) hHeld ?_
        rotate_left
        · intro wS hSw; go_simp; try with_reducible rfl
        try simp only [Act.put, List.setIfInBounds_toArray, List.set_cons_zero, List.set_cons_succ]
        refine takeL (i := 3) (v := ?_) rfl (by kernel_rfl) (by kernel_rfl) (by kernel_rfl) (fun _ _ _ h => h) (Or.inl ⟨by rfl, ?_⟩) hHeld ?_
        rotate_left
        · intro wS hSw; have g1 : (k : Int) < (l.length : Int) := (by omega); go_simp; try with_reducible rfl
        try simp only [Act.put, List.setIfInBounds_toArray, List.set_cons_zero, List.set_cons_succ]
        refine takeL (i := 4) (v := ?_) rfl (by kernel_rfl) (by kernel_rfl) (by kernel_rfl) (fun _ _ _ h => h) (Or.inl ⟨by rfl, ?_⟩) hHeld ?_
        rotate_left
        · intro wS hSw; go_simp; try with_reducible rfl
        try simp only [Act.put, List.setIfInBounds_toArray, List.set_cons_zero, List.set_cons_succ]
        refine takeL (i := 5) (v := ?_) rfl (by kernel_rfl) (by kernel_rfl) (by kernel_rfl) (fun _ _ _ h => h) (Or.inl ⟨by rfl, ?_⟩) hHeld ?_
        rotate_left
        · intro wS hSw; have c := (World.cell?_of_block (w := wr) (a := ⟨g, o + k * 3, none⟩) (hSw g hg HGW.out (by omega))).trans c0; go_simp; try with_reducible rfl
        try simp only [Act.put, List.setIfInBounds_toArray, List.set_cons_zero, List.set_cons_succ]
        refine takeL (i := 8) (v := ?_) rfl (by kernel_rfl) (by kernel_rfl) (by kernel_rfl) (fun _ _ _ h => h) (Or.inl ⟨by rfl, ?_⟩) hHeld ?_
        rotate_left
        · intro wS hSw; go_simp; try with_reducible rfl
        try simp only [Act.put, List.setIfInBounds_toArray, List.set_cons_zero, List.set_cons_succ]
        refine takeL (i := 10) (v := ?_) rfl (by kernel_rfl) (by kernel_rfl) (by kernel_rfl) (fun _ _ _ h => h) (Or.inl ⟨by rfl, ?_⟩) hHeld ?_
        rotate_left
        · intro wS hSw; go_simp; try with_reducible rfl
        try simp only [Act.put, List.setIfInBounds_toArray, List.set_cons_zero, List.set_cons_succ]
        refine takeL (i := 11) (v := ?_) rfl (by kernel_rfl) (by kernel_rfl) (by kernel_rfl) (fun _ _ _ h => h) (Or.inl ⟨by rfl, ?_⟩) hHeld ?_
        rotate_left
        · intro wS hSw; go_simp; try with_reducible rfl
        try simp only [Act.put, List.setIfInBounds_toArray, List.set_cons_zero, List.set_cons_succ]
        refine takeL (i := 12) (v := ?_) rfl (by kernel_rfl) (by kernel_rfl) (by kernel_rfl) (fun _ _ _ h => h) (Or.inl ⟨by rfl, ?_⟩) hHeld ?_
        rotate_left
        · intro wS hSw; have g1 : (k : Int) < (l.length : Int) := (by omega); go_simp; try with_reducible rfl
        try simp only [Act.put, List.setIfInBounds_toArray, List.set_cons_zero, List.set_cons_succ]
        refine takeL (i := 13) (v := ?_) rfl (by kernel_rfl) (by kernel_rfl) (by kernel_rfl) (fun _ _ _ h => h) (Or.inl ⟨by rfl, ?_⟩) hHeld ?_
        rotate_left
        · intro wS hSw; go_simp; try with_reducible rfl
        try simp only [Act.put, List.setIfInBounds_toArray, List.set_cons_zero, List.set_cons_succ]
        refine takeL (i := 14) (v := ?_) rfl (by kernel_rfl) (by kernel_rfl) (by kernel_rfl) (fun _ _ _ h => h) (Or.inl ⟨by rfl, ?_⟩) hHeld ?_
        rotate_left
        · intro wS hSw; have c := (World.cell?_of_block (w := wr) (a := ⟨g, o + k * 3 + 1, none⟩) (hSw g hg HGW.out (by omega))).trans c1; go_simp; try with_reducible rfl
        try simp only [Act.put, List.setIfInBounds_toArray, List.set_cons_zero, List.set_cons_succ]
        refine takeL (i := 16) (v := ?_) rfl (by kernel_rfl) (by kernel_rfl) (by kernel_rfl) (fun _ _ _ h => h) (Or.inl ⟨by rfl, ?_⟩) hHeld ?_
        rotate_left
        · intro wS hSw; go_simp; try with_reducible rfl
        try simp only [Act.put, List.setIfInBounds_toArray, List.set_cons_zero, List.set_cons_succ]
        refine takeL (i := 17) (v := ?_) rfl (by kernel_rfl) (by kernel_rfl) (by kernel_rfl) (fun _ _ _ h => h) (Or.inl ⟨by rfl, ?_⟩) hHeld ?_
        rotate_left
        · intro wS hSw; go_simp; try with_reducible rfl
        try simp only [Act.put, List.setIfInBounds_toArray, List.set_cons_zero, List.set_cons_succ]
        refine takeL (i := 18) (v := ?_) rfl (by kernel_rfl) (by kernel_rfl) (by kernel_rfl) (fun _ _ _ h => h) (Or.inl ⟨by rfl, ?_⟩) hHeld ?_
        rotate_left
        · intro wS hSw; have g1 : (k : Int) < (l.length : Int) := (by omega); go_simp; try with_reducible rfl
        try simp only [Act.put, List.setIfInBounds_toArray, List.set_cons_zero, List.set_cons_succ]
        refine takeL (i := 19) (v := ?_) rfl (by kernel_rfl) (by kernel_rfl) (by kernel_rfl) (fun _ _ _ h => h) (Or.inl ⟨by rfl, ?_⟩) hHeld ?_
        rotate_left
        · intro wS hSw; go_simp; try with_reducible rfl
        try simp only [Act.put, List.setIfInBounds_toArray, List.set_cons_zero, List.set_cons_succ]
        refine takeL (i := 20) (v := ?_) rfl (by kernel_rfl) (by kernel_rfl) (by kernel_rfl) (fun _ _ _ h => h) (Or.inl ⟨by rfl, ?_⟩) hHeld ?_
        rotate_left
        · intro wS hSw; have c := (World.cell?_of_block (w := wr) (a := ⟨g, o + k * 3 + 2, none⟩) (hSw g hg HGW.out (by omega))).trans c2; go_simp; try with_reducible rfl
        try simp only [Act.put, List.setIfInBounds_toArray, List.set_cons_zero, List.set_cons_succ]
        refine takeL (i := 23) (v := ?_) rfl (by kernel_rfl) (by kernel_rfl) (by kernel_rfl) (fun _ _ _ h => h) (Or.inl ⟨by rfl, ?_⟩) hHeld ?_
        rotate_left
        · intro wS hSw; go_simp; try with_reducible rfl
        try simp only [Act.put, List.setIfInBounds_toArray, List.set_cons_zero, List.set_cons_succ]
        refine takeL (i := 24) (v := ?_) rfl (by kernel_rfl) (by kernel_rfl) (by kernel_rfl) (fun _ _ _ h => h) (Or.inl ⟨by rfl, ?_⟩) hHeld ?_
        rotate_left
        · intro wS hSw; go_simp; try with_reducible rfl
        try simp only [Act.put, List.setIfInBounds_toArray, List.set_cons_zero, List.set_cons_succ]
        refine takeL (i := 25) (v := ?_) rfl (by kernel_rfl) (by kernel_rfl) (by kernel_rfl) (fun _ _ _ h => h) (Or.inl ⟨by rfl, ?_⟩) hHeld ?_
        rotate_left
        · intro wS hSw; have g1 : (k : Int) < (l.length : Int) := (by omega); go_simp; try with_reducible rfl
        try simp only [Act.put, List.setIfInBounds_toArray, List.set_cons_zero, List.set_cons_succ]
        refine takeL (i := 26) (v := ?_) rfl (by kernel_rfl) (by kernel_rfl) (by kernel_rfl) (fun _ _ _ h => h) (Or.inl ⟨by rfl, ?_⟩) hHeld ?_
        rotate_left
        · intro wS hSw; go_simp; try with_reducible rfl
        try simp only [Act.put, List.setIfInBounds_toArray, List.set_cons_zero, List.set_cons_succ]
        refine takeL (i := 27) (v := ?_) rfl (by kernel_rfl) (by kernel_rfl) (by kernel_rfl) (fun _ _ _ h => h) (Or.inl ⟨by rfl, ?_⟩) hHeld ?_
        rotate_left
        · intro wS hSw; have c := (World.cell?_of_block (w := wr) (a := ⟨g, o + k * 3 + 1, none⟩) (hSw g hg HGW.out (by omega))).trans c1; go_simp; try with_reducible rfl
        try simp only [Act.put, List.setIfInBounds_toArray, List.set_cons_zero, List.set_cons_succ]
        refine readyL (i := 6) (by kernel_rfl) rfl (fun K hK => ?_)
        go_simp
        refine (pick_any x0 33333333 _ a0 a1 (by omega) (by omega)).mono ?_
        rintro e y0 ⟨p0, rfl, P0, p1, p2, rfl⟩
        go_wp2_with fail
        refine hK.out _ _ (fun k hk _ _ => Below.block sH k hk) (fun _ => ?_)
        clear hK K
        try simp only [Act.put, List.setIfInBounds_toArray, List.set_cons_zero, List.set_cons_succ]
        refine takeL (i := 7) (v := ?_) rfl (by kernel_rfl) (by kernel_rfl) (by kernel_rfl) (fun _ _ _ h => h) (Or.inl ⟨by rfl, ?_⟩) (fun k hk _ _ => Below.block sH k hk) ?_
        rotate_left
        · intro wS hSw; have hw1 : IntKind.i64.wrap (30 * p0) = 30 * p0 := (IntWalk.i64_in _ (by omega)); go_simp; try with_reducible rfl
        try simp only [Act.put, List.setIfInBounds_toArray, List.set_cons_zero, List.set_cons_succ]
        refine takeL (i := 9) (v := ?_) rfl (by kernel_rfl) (by kernel_rfl) (by kernel_rfl) (fun _ _ _ h => h) (Or.inl ⟨by rfl, ?_⟩) (fun k hk _ _ => Below.block sH k hk) ?_
        rotate_left
        · intro wS hSw; have hw1 : IntKind.i64.wrap (30 * p0 + (k : Int)) = 30 * p0 + (k : Int) := (IntWalk.i64_in _ (by omega)); go_simp; try with_reducible rfl
        try simp only [Act.put, List.setIfInBounds_toArray, List.set_cons_zero, List.set_cons_succ]
        refine readyL (i := 15) (by kernel_rfl) rfl (fun K hK => ?_)
        go_simp
        refine (name_any x1 _ a2 a3).mono ?_
        rintro e y1 ⟨s, rfl, HS, hs16, by1⟩
        have s1 : Below wr.heap.size wr y1 := Below.trans sH (by1.out.mono (Below.size sH))
        clear by1
        go_wp2_with fail
        refine hK.out _ _ (fun k hk _ _ => Below.block s1 k hk) (fun _ => ?_)
        clear hK K
        try simp only [Act.put, List.setIfInBounds_toArray, List.set_cons_zero, List.set_cons_succ]
        refine readyL (i := 21) (by kernel_rfl) rfl (fun K hK => ?_)
        go_simp
        refine (pick_any x2 1000000000000 _ a4 a5 (by omega) (by omega)).mono ?_
        rintro e y2 ⟨q0, rfl, Q0, q1, q2, rfl⟩
        go_wp2_with fail
        refine hK.out _ _ (fun k hk _ _ => Below.block s1 k hk) (fun _ => ?_)
        clear hK K
        try simp only [Act.put, List.setIfInBounds_toArray, List.set_cons_zero, List.set_cons_succ]
        refine takeL (i := 22) (v := ?_) rfl (by kernel_rfl) (by kernel_rfl) (by kernel_rfl) (fun _ _ _ h => h) (Or.inl ⟨by rfl, ?_⟩) (fun k hk _ _ => Below.block s1 k hk) ?_
        rotate_left
        · intro wS hSw; have hw1 : IntKind.i64.wrap (1 + q0) = 1 + q0 := (IntWalk.i64_in _ (by omega)); go_simp; try with_reducible rfl
        try simp only [Act.put, List.setIfInBounds_toArray, List.set_cons_zero, List.set_cons_succ]
        refine readyL (i := 28) (by kernel_rfl) rfl (fun K hK => ?_)
        go_simp
        refine (pick_any x1 36525 _ a2 a3 (by omega) (by omega)).mono ?_
        rintro e y3 ⟨r0, rfl, R0, r1, r2, rfl⟩
        go_wp2_with fail
        refine hK.out _ _ (fun k hk _ _ => Below.block s1 k hk) (fun _ => ?_)
        clear hK K
        try simp only [Act.put, List.setIfInBounds_toArray, List.set_cons_zero, List.set_cons_succ]
        refine takeL (i := 29) (v := ?_) rfl (by kernel_rfl) (by kernel_rfl) (by kernel_rfl) (fun _ _ _ h => h) (Or.inl ⟨by rfl, ?_⟩) (fun k hk _ _ => Below.block s1 k hk) ?_
        rotate_left
        · intro wS hSw; go_simp; try with_reducible rfl
        try simp only [Act.put, List.setIfInBounds_toArray, List.set_cons_zero, List.set_cons_succ]
        refine readyL (i := 30) (by kernel_rfl) rfl (fun K hK => ?_)
        go_simp
        refine hK.out _ _ (fun k hk _ _ => Below.block (Below.alloc s1 (Below.size s1) _) k hk) (fun _ => ?_)
        clear hK K
        try simp only [Act.put, List.setIfInBounds_toArray, List.set_cons_zero, List.set_cons_succ]
        refine readyL (i := 31) (by kernel_rfl) rfl (fun K hK => ?_)
        rw [if_pos (by rfl)]
        refine wp_append_own _ _ _ 22 rfl w.heap.size 27 i0 _ 4 40 Tryz.underlying22 hi hz0 hz1 hz2 rfl (by decide) u3 k (cellsL payC (listOf payOf 0 (l.take k))) rfl ((own_below HO.out s1).alloc _) ⟨y1.heap.size, 0, none⟩ 1 1 [.int .i64 (30 * p0 + (k : Int)), .string s, .int .i64 (1 + q0), .int .i64 r0] rfl rfl (cells_new y1 #[.int .i64 (30 * p0 + (k : Int)), .string s, .int .i64 (1 + q0), .int .i64 r0] _) (by simp [Value.oneCell']) (by unfold maxLen; omega) (by omega) (by have := Below.size s1; simp; omega) ?_
        intro v' w6 hown' hgrow _
        have hsy := Below.size s1
        refine hK.out _ _ (fun k hk h1 _ => (hgrow.block k (by simp; omega) (fun e => h1 e.symm)).trans ((Below.heap_alloc _ _ _ (by omega)).trans (s1.block k hk))) (fun hS6 => ?_)
        clear hK K
        try simp only [Act.put, List.setIfInBounds_toArray, List.set_cons_zero, List.set_cons_succ]
        refine readyL (i := 32) (by kernel_rfl) rfl (fun K hK => ?_)
        go_simp
        refine hK.out _ _ hS6 (fun _ => ?_)
        clear hK K
        try simp only [Act.put, List.setIfInBounds_toArray, List.set_cons_zero, List.set_cons_succ]
        refine wpAnyH_done (by kernel_rfl) ?_ _
        have HO6 := Lib.hid hown'
        have HB6 : Hid (Below w.heap.size w w6) := Lib.hid (((HB.out.trans (s1.mono hsz)).alloc (by omega) _).grown hgrow (by simp; omega) (fun j hj => (HO.out.lt j hj).1))
        clear hown' hgrow hS6 hHeld
        go_wp2_with fail
        go_roundg (30 - (k + 1))
        case measure => omega
        case rel =>
          refine ⟨k + 1, by omega, by omega, rfl, Lib.hid ?_, HB6, by go_num⟩
          rw [HL.out, cellsL_snoc]
          have e : payC (payOf k (x0, x1, x2)) = [.int .i64 (30 * p0 + (k : Int)), .string s, .int .i64 (1 + q0), .int .i64 r0] := by
            have h1 := P0.out; have h2 := Q0.out; have h3 := R0.out; have h4 := HS.out
            simp only [payOf, payC, ← h1, ← h2, ← h3, ← h4]
          rw [e]
          exact HO6.out
      · have HE : Hid (l.take 30 = l.take k) := Lib.hid (by rw [show k = 30 from by omega])
        go_wp2_with fail
        go_ret
        exact ⟨_, rfl, Lib.hid (by
          have h1 := Row.of_own HO.out
          have h2 : l.take 30 = l.take k := HE.out
          unfold Rd pays
          rw [h2, listOf_len, List.length_take, Nat.min_eq_left hkl]
          exact h1), HB⟩
    · have HE : Hid (l.take 30 = l.take k) := Lib.hid (by rw [List.take_of_length_le (by omega), List.take_of_length_le (by omega)])
      go_wp2_with fail
      go_ret
      exact ⟨_, rfl, Lib.hid (by
        have h1 := Row.of_own HO.out
        have h2 : l.take 30 = l.take k := HE.out
        unfold Rd pays
        rw [h2, listOf_len, List.length_take, Nat.min_eq_left hkl]
        exact h1), HB⟩
end Go.Proofs.YtibgibjmpcajkaaGreatDoor
