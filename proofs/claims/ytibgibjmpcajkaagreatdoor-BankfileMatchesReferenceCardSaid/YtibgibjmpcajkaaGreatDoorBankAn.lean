/- The walk of answers. -/
import Derived.Test.YtibgibjmpcajkaaGreatDoorBankPy
namespace Go.Proofs.YtibgibjmpcajkaaGreatDoor
open Go.RowKit BankS


set_option maxHeartbeats 8000000 in
set_option maxRecDepth 100000 in
theorem answers_any (v : Value) (l : List Tri) (w : World) (hT : Tabs w) (hR : Rd triC 3 w v l) (hok : ∀ x ∈ l, triOk x) (hlen : l.length ≤ 9223372036854775807) :
    Calls Tryz.prog 15 #[v] w fun e w' => ∃ v', e = .returned v' ∧ Hid (Rd ansC 5 w' v' (anss l)) ∧ Hid (Below w.heap.size w w') := by
  have HR := Lib.hid hR
  have HK := Lib.hid hok
  clear hok
  obtain ⟨A, cap, rfl, hcap, _, _⟩ := hR
  obtain ⟨i0, hi, hz0, hz1, hz2⟩ := info_parts Tryz.infoAns
  go_enter Tryz.func15, Tryz.ntmps15
  go_wp2_with fail
  go_loopg [3, 4] 30 (fun g v3 i wx => ∃ k : Nat, k ≤ 30 ∧ k ≤ l.length ∧ g = 30 - k ∧ Hid (wx.ownsRow w.heap.size 54 5 v3 k (cellsL ansC (listOf ansOf 0 (l.take k)))) ∧ Hid (Below w.heap.size w wx) ∧ i = .int .i64 k)
  case atStart => exact ⟨0, by omega, by omega, rfl, Lib.hid (World.ownsRow_nil _ _ _ _), Lib.hid (Below.refl _ _), rfl⟩
  case round =>
    obtain ⟨k, hk, hkl, rfl, HO, HB, rfl⟩ := hrel
    have hsz := HB.out.size
    have hTr := hT.below HB.out
    by_cases hlt : k < l.length
    · by_cases h30 : k < 30
      · obtain ⟨x, hx⟩ : ∃ x, l[k]? = some x := ⟨_, List.getElem?_eq_getElem hlt⟩
        obtain ⟨g, o, rfl, hg, c0, c1, c2⟩ := rd_tri (HR.out.below HB.out) k x hx
        obtain ⟨⟨a0, a1⟩, ⟨a2, a3⟩, ⟨a4, a5⟩⟩ := HK.out x (List.mem_of_getElem? hx)
        have HL := Lib.hid (listOf_take ansOf l k x hx)
        obtain ⟨x0, x1, x2⟩ := x
        simp only at c0 c1 c2 a0 a1 a2 a3 a4 a5
        clear hx
        have hgw : u3.ownBlock ≠ some g := fun e => by
          have h1 := (HO.out.lt g e).1
          obtain ⟨A', cap', e', _, _, hc'⟩ := HR.out
          injection e' with e1 e2 e3
          obtain ⟨g', o', hA', hg', _⟩ := hc' (by omega)
          rw [← e1] at hA'
          injection hA' with hA'
          injection hA' with hA'
          omega
        have HGW := Lib.hid hgw
        clear hgw
        go_wp2_with fail
        refine wp_region_held_drew (S := (fun W => Below wr.heap.size wr W)) (by kernel_rfl) ((Below.refl _ _).drew) (fun hHeld => ?_)
        refine takeL (i := 0) (v := ?_) rfl (by kernel_rfl) (by kernel_rfl) (by kernel_rfl) (fun _ _ _ h => h) (Or.inl ⟨by rfl, ?_⟩) hHeld ?_
        rotate_left
        · intro wS hSw; go_simp; try with_reducible rfl
        try simp only [Act.put, List.setIfInBounds_toArray, List.set_cons_zero, List.set_cons_succ]
        refine takeL (i := 1) (v := ?_) rfl (by kernel_rfl) (by kernel_rfl) (by kernel_rfl) (fun _ _ _ h => h) (Or.inl ⟨by rfl, ?_⟩) hHeld ?_
        rotate_left
        · intro wS hSw; go_simp; try with_reducible rfl
        try simp only [Act.put, List.setIfInBounds_toArray, List.set_cons_zero, List.set_cons_succ]
        refine takeL (i := 2) (v := ?_) rfl (by kernel_rfl) (by kernel_rfl) (by kernel_rfl) (fun _ _ _ h => h) (Or.inl ⟨by rfl, ?_⟩) hHeld ?_
        rotate_left
        · intro wS hSw; have g1 : (k : Int) < (l.length : Int) := (by omega); go_simp; try with_reducible rfl
        try simp only [Act.put, List.setIfInBounds_toArray, List.set_cons_zero, List.set_cons_succ]
        refine takeL (i := 3) (v := ?_) rfl (by kernel_rfl) (by kernel_rfl) (by kernel_rfl) (fun _ _ _ h => h) (Or.inl ⟨by rfl, ?_⟩) hHeld ?_
        rotate_left
        · intro wS hSw; go_simp; try with_reducible rfl
        try simp only [Act.put, List.setIfInBounds_toArray, List.set_cons_zero, List.set_cons_succ]
        refine takeL (i := 4) (v := ?_) rfl (by kernel_rfl) (by kernel_rfl) (by kernel_rfl) (fun _ _ _ h => h) (Or.inl ⟨by rfl, ?_⟩) hHeld ?_
        rotate_left
        · intro wS hSw; have c := (hSw.cell (p := ⟨g, o + k * 3, none⟩) hg).trans c0; go_simp; try with_reducible rfl
        try simp only [Act.put, List.setIfInBounds_toArray, List.set_cons_zero, List.set_cons_succ]
        refine takeL (i := 7) (v := ?_) rfl (by kernel_rfl) (by kernel_rfl) (by kernel_rfl) (fun _ _ _ h => h) (Or.inl ⟨by rfl, ?_⟩) hHeld ?_
        rotate_left
        · intro wS hSw; go_simp; try with_reducible rfl
        try simp only [Act.put, List.setIfInBounds_toArray, List.set_cons_zero, List.set_cons_succ]
        refine takeL (i := 9) (v := ?_) rfl (by kernel_rfl) (by kernel_rfl) (by kernel_rfl) (fun _ _ _ h => h) (Or.inl ⟨by rfl, ?_⟩) hHeld ?_
        rotate_left
        · intro wS hSw; go_simp; try with_reducible rfl
        try simp only [Act.put, List.setIfInBounds_toArray, List.set_cons_zero, List.set_cons_succ]
        refine takeL (i := 10) (v := ?_) rfl (by kernel_rfl) (by kernel_rfl) (by kernel_rfl) (fun _ _ _ h => h) (Or.inl ⟨by rfl, ?_⟩) hHeld ?_
        rotate_left
        · intro wS hSw; go_simp; try with_reducible rfl
        try simp only [Act.put, List.setIfInBounds_toArray, List.set_cons_zero, List.set_cons_succ]
        refine takeL (i := 11) (v := ?_) rfl (by kernel_rfl) (by kernel_rfl) (by kernel_rfl) (fun _ _ _ h => h) (Or.inl ⟨by rfl, ?_⟩) hHeld ?_
        rotate_left
        · intro wS hSw; have g1 : (k : Int) < (l.length : Int) := (by omega); go_simp; try with_reducible rfl
        try simp only [Act.put, List.setIfInBounds_toArray, List.set_cons_zero, List.set_cons_succ]
        refine takeL (i := 12) (v := ?_) rfl (by kernel_rfl) (by kernel_rfl) (by kernel_rfl) (fun _ _ _ h => h) (Or.inl ⟨by rfl, ?_⟩) hHeld ?_
        rotate_left
        · intro wS hSw; go_simp; try with_reducible rfl
        try simp only [Act.put, List.setIfInBounds_toArray, List.set_cons_zero, List.set_cons_succ]
        refine takeL (i := 13) (v := ?_) rfl (by kernel_rfl) (by kernel_rfl) (by kernel_rfl) (fun _ _ _ h => h) (Or.inl ⟨by rfl, ?_⟩) hHeld ?_
        rotate_left
        · intro wS hSw; have c := (hSw.cell (p := ⟨g, o + k * 3 + 1, none⟩) hg).trans c1; go_simp; try with_reducible rfl
        try simp only [Act.put, List.setIfInBounds_toArray, List.set_cons_zero, List.set_cons_succ]
        refine takeL (i := 15) (v := ?_) rfl (by kernel_rfl) (by kernel_rfl) (by kernel_rfl) (fun _ _ _ h => h) (Or.inl ⟨by rfl, ?_⟩) hHeld ?_
        rotate_left
        · intro wS hSw; go_simp; try with_reducible rfl
        try simp only [Act.put, List.setIfInBounds_toArray, List.set_cons_zero, List.set_cons_succ]
        refine takeL (i := 16) (v := ?_) rfl (by kernel_rfl) (by kernel_rfl) (by kernel_rfl) (fun _ _ _ h => h) (Or.inl ⟨by rfl, ?_⟩) hHeld ?_
        rotate_left
        · intro wS hSw; go_simp; try with_reducible rfl
        try simp only [Act.put, List.setIfInBounds_toArray, List.set_cons_zero, List.set_cons_succ]
        refine takeL (i := 17) (v := ?_) rfl (by kernel_rfl) (by kernel_rfl) (by kernel_rfl) (fun _ _ _ h => h) (Or.inl ⟨by rfl, ?_⟩) hHeld ?_
        rotate_left
        · intro wS hSw; have g1 : (k : Int) < (l.length : Int) := (by omega); go_simp; try with_reducible rfl
        try simp only [Act.put, List.setIfInBounds_toArray, List.set_cons_zero, List.set_cons_succ]
        refine takeL (i := 18) (v := ?_) rfl (by kernel_rfl) (by kernel_rfl) (by kernel_rfl) (fun _ _ _ h => h) (Or.inl ⟨by rfl, ?_⟩) hHeld ?_
        rotate_left
        · intro wS hSw; go_simp; try with_reducible rfl
        try simp only [Act.put, List.setIfInBounds_toArray, List.set_cons_zero, List.set_cons_succ]
        refine takeL (i := 19) (v := ?_) rfl (by kernel_rfl) (by kernel_rfl) (by kernel_rfl) (fun _ _ _ h => h) (Or.inl ⟨by rfl, ?_⟩) hHeld ?_
        rotate_left
        · intro wS hSw; have c := (hSw.cell (p := ⟨g, o + k * 3 + 2, none⟩) hg).trans c2; go_simp; try with_reducible rfl
        try simp only [Act.put, List.setIfInBounds_toArray, List.set_cons_zero, List.set_cons_succ]
        refine takeL (i := 22) (v := ?_) rfl (by kernel_rfl) (by kernel_rfl) (by kernel_rfl) (fun _ _ _ h => h) (Or.inl ⟨by rfl, ?_⟩) hHeld ?_
        rotate_left
        · intro wS hSw; go_simp; try with_reducible rfl
        try simp only [Act.put, List.setIfInBounds_toArray, List.set_cons_zero, List.set_cons_succ]
        refine takeL (i := 23) (v := ?_) rfl (by kernel_rfl) (by kernel_rfl) (by kernel_rfl) (fun _ _ _ h => h) (Or.inl ⟨by rfl, ?_⟩) hHeld ?_
        rotate_left
        · intro wS hSw; go_simp; try with_reducible rfl
        try simp only [Act.put, List.setIfInBounds_toArray, List.set_cons_zero, List.set_cons_succ]
        refine takeL (i := 24) (v := ?_) rfl (by kernel_rfl) (by kernel_rfl) (by kernel_rfl) (fun _ _ _ h => h) (Or.inl ⟨by rfl, ?_⟩) hHeld ?_
        rotate_left
        · intro wS hSw; have g1 : (k : Int) < (l.length : Int) := (by omega); go_simp; try with_reducible rfl
        try simp only [Act.put, List.setIfInBounds_toArray, List.set_cons_zero, List.set_cons_succ]
        refine takeL (i := 25) (v := ?_) rfl (by kernel_rfl) (by kernel_rfl) (by kernel_rfl) (fun _ _ _ h => h) (Or.inl ⟨by rfl, ?_⟩) hHeld ?_
        rotate_left
        · intro wS hSw; go_simp; try with_reducible rfl
        try simp only [Act.put, List.setIfInBounds_toArray, List.set_cons_zero, List.set_cons_succ]
        refine takeL (i := 26) (v := ?_) rfl (by kernel_rfl) (by kernel_rfl) (by kernel_rfl) (fun _ _ _ h => h) (Or.inl ⟨by rfl, ?_⟩) hHeld ?_
        rotate_left
        · intro wS hSw; have c := (hSw.cell (p := ⟨g, o + k * 3 + 1, none⟩) hg).trans c1; go_simp; try with_reducible rfl
        try simp only [Act.put, List.setIfInBounds_toArray, List.set_cons_zero, List.set_cons_succ]
        refine readyL2 (i := 5) (j := 29) (by kernel_rfl) rfl rfl (fun K hK => ?_) (fun K hK => ?_)
        · go_simp
          refine (pick_any x0 33333333 _ a0 a1 (by omega) (by omega)).mono ?_
          rintro e y0 ⟨p0, rfl, P0, p1, p2, rfl⟩
          go_wp2_with fail
          refine hK.out _ _ hHeld (fun _ => ?_)
          clear hK K
          try simp only [Act.put, List.setIfInBounds_toArray, List.set_cons_zero, List.set_cons_succ]
          refine takeL (i := 6) (v := ?_) rfl (by kernel_rfl) (by kernel_rfl) (by kernel_rfl) (fun _ _ _ h => h) (Or.inl ⟨by rfl, ?_⟩) hHeld ?_
          rotate_left
          · intro wS hSw; have hw1 : IntKind.i64.wrap (30 * p0) = 30 * p0 := (IntWalk.i64_in _ (by omega)); go_simp; try with_reducible rfl
          try simp only [Act.put, List.setIfInBounds_toArray, List.set_cons_zero, List.set_cons_succ]
          refine takeL (i := 8) (v := ?_) rfl (by kernel_rfl) (by kernel_rfl) (by kernel_rfl) (fun _ _ _ h => h) (Or.inl ⟨by rfl, ?_⟩) hHeld ?_
          rotate_left
          · intro wS hSw; have hw1 : IntKind.i64.wrap (30 * p0 + (k : Int)) = 30 * p0 + (k : Int) := (IntWalk.i64_in _ (by omega)); go_simp; try with_reducible rfl
          try simp only [Act.put, List.setIfInBounds_toArray, List.set_cons_zero, List.set_cons_succ]
          refine readyL2 (i := 14) (j := 29) (by kernel_rfl) rfl rfl (fun K hK => ?_) (fun K hK => ?_)
          · go_simp
            refine (pick_any x1 1000000000 _ a2 a3 (by omega) (by omega)).mono ?_
            rintro e y1 ⟨m0, rfl, M0, m1, m2, rfl⟩
            go_wp2_with fail
            refine hK.out _ _ hHeld (fun _ => ?_)
            clear hK K
            try simp only [Act.put, List.setIfInBounds_toArray, List.set_cons_zero, List.set_cons_succ]
            refine readyL2 (i := 20) (j := 29) (by kernel_rfl) rfl rfl (fun K hK => ?_) (fun K hK => ?_)
            · go_simp
              refine (pick_any x2 4 _ a4 a5 (by omega) (by omega)).mono ?_
              rintro e y2 ⟨q0, rfl, Q0, q1, q2, rfl⟩
              go_wp2_with fail
              refine hK.out _ _ hHeld (fun _ => ?_)
              clear hK K
              try simp only [Act.put, List.setIfInBounds_toArray, List.set_cons_zero, List.set_cons_succ]
              refine takeL (i := 21) (v := ?_) rfl (by kernel_rfl) (by kernel_rfl) (by kernel_rfl) (fun _ _ _ h => h) (Or.inl ⟨by rfl, ?_⟩) hHeld ?_
              rotate_left
              · intro wS hSw; have hw1 : IntKind.i64.wrap (1 + q0) = 1 + q0 := (IntWalk.i64_in _ (by omega)); go_simp; try with_reducible rfl
              try simp only [Act.put, List.setIfInBounds_toArray, List.set_cons_zero, List.set_cons_succ]
              refine readyL2 (i := 27) (j := 29) (by kernel_rfl) rfl rfl (fun K hK => ?_) (fun K hK => ?_)
              · go_simp
                refine (pick_any x1 36525 _ a2 a3 (by omega) (by omega)).mono ?_
                rintro e y3 ⟨r0, rfl, R0, r1, r2, rfl⟩
                go_wp2_with fail
                refine hK.out _ _ hHeld (fun _ => ?_)
                clear hK K
                try simp only [Act.put, List.setIfInBounds_toArray, List.set_cons_zero, List.set_cons_succ]
                refine takeL (i := 28) (v := ?_) rfl (by kernel_rfl) (by kernel_rfl) (by kernel_rfl) (fun _ _ _ h => h) (Or.inl ⟨by rfl, ?_⟩) hHeld ?_
                rotate_left
                · intro wS hSw; go_simp; try with_reducible rfl
                try simp only [Act.put, List.setIfInBounds_toArray, List.set_cons_zero, List.set_cons_succ]
                refine readyL (i := 29) (by kernel_rfl) rfl (fun K hK => ?_)
                go_simp
                refine hK.out _ _ (Below.alloc hHeld (Below.size hHeld) _) (fun hSA => ?_)
                clear hK K
                try simp only [Act.put, List.setIfInBounds_toArray, List.set_cons_zero, List.set_cons_succ]
                refine readyL (i := 30) (by kernel_rfl) rfl (fun K hK => ?_)
                go_simp
                refine hK.out _ _ (((Below.refl _ _).drew).alloc (Nat.le_refl _) _) (fun _ => ?_)
                clear hK K
                try simp only [Act.put, List.setIfInBounds_toArray, List.set_cons_zero, List.set_cons_succ]
                refine wpAnyH_done (by kernel_rfl) ?_ _
                have hq : q0 = 1 ∨ q0 = 3 ∨ q0 = 0 ∨ q0 = 2 := by omega
                have hca : ∀ ob, (wr.alloc ob).cell? ⟨g, o + k * 3 + 2, none⟩ = some (.int .i64 x2) := fun ob => (World.cell?_alloc_lt _ _ _ hg).trans c2
                rcases hq with rfl | rfl | rfl | rfl
                · go_wp2_with fail
                  refine (pick_any x2 1000000000000 _ a4 a5 (by omega) (by omega)).mono ?_
                  rintro e y5 ⟨z0, rfl, Z0, z1, z2, rfl⟩
                  go_wp2_with (at_builtin; refine wpList_append_own _ rfl _ _ 23 rfl w.heap.size 54 i0 _ 5 40 Tryz.underlying23 hi hz0 hz1 hz2 rfl (by decide) _ _ _ rfl (((HO.out.alloc _).alloc _).drew) ⟨wr.heap.size + 1, 0, none⟩ 1 1 [.int .i64 (30 * p0 + (k : Int)), .int .i64 m0, .int .i64 2, .int .i64 (1 + z0), .int .i64 r0] rfl rfl (by have := cells_new (wr.alloc (.cells #[.int .i64 (30 * p0 + (k : Int)), .int .i64 m0, .int .i64 2, .int .i64 (1 + z0), .int .i64 r0] 54)) #[.int .i64 (30 * p0 + (k : Int)), .int .i64 m0, .int .i64 2, .int .i64 (1 + z0), .int .i64 r0] 54; rw [World.size_alloc] at this; exact this) (by simp [Value.oneCell']) (by unfold maxLen; omega) (by omega) (by simp; omega) ?_; intro v' w6 hown' hgrow _)
                  have HO6 := Lib.hid hown'
                  have HB6 : Hid (Below w.heap.size w w6) := Lib.hid ((((HB.out.alloc hsz _).alloc (by simp; omega) _).drew).grown hgrow (by simp; omega) (fun j hj => (HO.out.lt j hj).1))
                  clear hown' hgrow hHeld
                  go_wp2_with fail
                  go_roundg (30 - (k + 1))
                  case measure => omega
                  case rel =>
                    refine ⟨k + 1, by omega, by omega, rfl, Lib.hid ?_, HB6, by go_num⟩
                    rw [HL.out, cellsL_snoc]
                    have e : ansC (ansOf k (x0, x1, x2)) = [.int .i64 (30 * p0 + (k : Int)), .int .i64 m0, .int .i64 2, .int .i64 (1 + z0), .int .i64 r0] := by
                      have h1 := P0.out; have h2 := M0.out; have h3 := Q0.out; have h4 := R0.out; have h5 := Z0.out
                      simp [ansOf, ← h1, ← h2, ← h3, ← h4, ← h5]
                    rw [e]
                    exact HO6.out
                · go_wp2_with fail
                  refine (pick_any x2 1000000000000 _ a4 a5 (by omega) (by omega)).mono ?_
                  rintro e y5 ⟨z0, rfl, Z0, z1, z2, rfl⟩
                  go_wp2_with (at_builtin; refine wpList_append_own _ rfl _ _ 23 rfl w.heap.size 54 i0 _ 5 40 Tryz.underlying23 hi hz0 hz1 hz2 rfl (by decide) _ _ _ rfl (((HO.out.alloc _).alloc _).drew) ⟨wr.heap.size + 1, 0, none⟩ 1 1 [.int .i64 (30 * p0 + (k : Int)), .int .i64 m0, .int .i64 4, .int .i64 (1 + z0), .int .i64 r0] rfl rfl (by have := cells_new (wr.alloc (.cells #[.int .i64 (30 * p0 + (k : Int)), .int .i64 m0, .int .i64 4, .int .i64 (1 + z0), .int .i64 r0] 54)) #[.int .i64 (30 * p0 + (k : Int)), .int .i64 m0, .int .i64 4, .int .i64 (1 + z0), .int .i64 r0] 54; rw [World.size_alloc] at this; exact this) (by simp [Value.oneCell']) (by unfold maxLen; omega) (by omega) (by simp; omega) ?_; intro v' w6 hown' hgrow _)
                  have HO6 := Lib.hid hown'
                  have HB6 : Hid (Below w.heap.size w w6) := Lib.hid ((((HB.out.alloc hsz _).alloc (by simp; omega) _).drew).grown hgrow (by simp; omega) (fun j hj => (HO.out.lt j hj).1))
                  clear hown' hgrow hHeld
                  go_wp2_with fail
                  go_roundg (30 - (k + 1))
                  case measure => omega
                  case rel =>
                    refine ⟨k + 1, by omega, by omega, rfl, Lib.hid ?_, HB6, by go_num⟩
                    rw [HL.out, cellsL_snoc]
                    have e : ansC (ansOf k (x0, x1, x2)) = [.int .i64 (30 * p0 + (k : Int)), .int .i64 m0, .int .i64 4, .int .i64 (1 + z0), .int .i64 r0] := by
                      have h1 := P0.out; have h2 := M0.out; have h3 := Q0.out; have h4 := R0.out; have h5 := Z0.out
                      simp [ansOf, ← h1, ← h2, ← h3, ← h4, ← h5]
                    rw [e]
                    exact HO6.out
                · go_wp2_with (at_builtin; refine wpList_append_own _ rfl _ _ 23 rfl w.heap.size 54 i0 _ 5 40 Tryz.underlying23 hi hz0 hz1 hz2 rfl (by decide) _ _ _ rfl (((HO.out.alloc _).alloc _).drew) ⟨wr.heap.size + 1, 0, none⟩ 1 1 [.int .i64 (30 * p0 + (k : Int)), .int .i64 m0, .int .i64 1, .int .i64 0, .int .i64 r0] rfl rfl (by have := cells_new (wr.alloc (.cells #[.int .i64 (30 * p0 + (k : Int)), .int .i64 m0, .int .i64 1, .int .i64 0, .int .i64 r0] 54)) #[.int .i64 (30 * p0 + (k : Int)), .int .i64 m0, .int .i64 1, .int .i64 0, .int .i64 r0] 54; rw [World.size_alloc] at this; exact this) (by simp [Value.oneCell']) (by unfold maxLen; omega) (by omega) (by simp; omega) ?_; intro v' w6 hown' hgrow _)
                  have HO6 := Lib.hid hown'
                  have HB6 : Hid (Below w.heap.size w w6) := Lib.hid ((((HB.out.alloc hsz _).alloc (by simp; omega) _).drew).grown hgrow (by simp; omega) (fun j hj => (HO.out.lt j hj).1))
                  clear hown' hgrow hHeld
                  go_wp2_with fail
                  go_roundg (30 - (k + 1))
                  case measure => omega
                  case rel =>
                    refine ⟨k + 1, by omega, by omega, rfl, Lib.hid ?_, HB6, by go_num⟩
                    rw [HL.out, cellsL_snoc]
                    have e : ansC (ansOf k (x0, x1, x2)) = [.int .i64 (30 * p0 + (k : Int)), .int .i64 m0, .int .i64 1, .int .i64 0, .int .i64 r0] := by
                      have h1 := P0.out; have h2 := M0.out; have h3 := Q0.out; have h4 := R0.out
                      simp [ansOf, ← h1, ← h2, ← h3, ← h4]
                    rw [e]
                    exact HO6.out
                · go_wp2_with (at_builtin; refine wpList_append_own _ rfl _ _ 23 rfl w.heap.size 54 i0 _ 5 40 Tryz.underlying23 hi hz0 hz1 hz2 rfl (by decide) _ _ _ rfl (((HO.out.alloc _).alloc _).drew) ⟨wr.heap.size + 1, 0, none⟩ 1 1 [.int .i64 (30 * p0 + (k : Int)), .int .i64 m0, .int .i64 3, .int .i64 0, .int .i64 r0] rfl rfl (by have := cells_new (wr.alloc (.cells #[.int .i64 (30 * p0 + (k : Int)), .int .i64 m0, .int .i64 3, .int .i64 0, .int .i64 r0] 54)) #[.int .i64 (30 * p0 + (k : Int)), .int .i64 m0, .int .i64 3, .int .i64 0, .int .i64 r0] 54; rw [World.size_alloc] at this; exact this) (by simp [Value.oneCell']) (by unfold maxLen; omega) (by omega) (by simp; omega) ?_; intro v' w6 hown' hgrow _)
                  have HO6 := Lib.hid hown'
                  have HB6 : Hid (Below w.heap.size w w6) := Lib.hid ((((HB.out.alloc hsz _).alloc (by simp; omega) _).drew).grown hgrow (by simp; omega) (fun j hj => (HO.out.lt j hj).1))
                  clear hown' hgrow hHeld
                  go_wp2_with fail
                  go_roundg (30 - (k + 1))
                  case measure => omega
                  case rel =>
                    refine ⟨k + 1, by omega, by omega, rfl, Lib.hid ?_, HB6, by go_num⟩
                    rw [HL.out, cellsL_snoc]
                    have e : ansC (ansOf k (x0, x1, x2)) = [.int .i64 (30 * p0 + (k : Int)), .int .i64 m0, .int .i64 3, .int .i64 0, .int .i64 r0] := by
                      have h1 := P0.out; have h2 := M0.out; have h3 := Q0.out; have h4 := R0.out
                      simp [ansOf, ← h1, ← h2, ← h3, ← h4]
                    rw [e]
                    exact HO6.out
              · go_simp
                refine hK.out _ _ (Below.alloc hHeld (Below.size hHeld) _) (fun hSA => ?_)
                clear hK K
                try simp only [Act.put, List.setIfInBounds_toArray, List.set_cons_zero, List.set_cons_succ]
                refine readyL (i := 27) (by kernel_rfl) rfl (fun K hK => ?_)
                go_simp
                refine (pick_any x1 36525 _ a2 a3 (by omega) (by omega)).mono ?_
                rintro e y3 ⟨r0, rfl, R0, r1, r2, rfl⟩
                go_wp2_with fail
                refine hK.out _ _ hSA (fun _ => ?_)
                clear hK K
                try simp only [Act.put, List.setIfInBounds_toArray, List.set_cons_zero, List.set_cons_succ]
                refine takeL (i := 28) (v := ?_) rfl (by kernel_rfl) (by kernel_rfl) (by kernel_rfl) (fun _ _ _ h => h) (Or.inl ⟨by rfl, ?_⟩) hSA ?_
                rotate_left
                · intro wS hSw; go_simp; try with_reducible rfl
                try simp only [Act.put, List.setIfInBounds_toArray, List.set_cons_zero, List.set_cons_succ]
                refine readyL (i := 30) (by kernel_rfl) rfl (fun K hK => ?_)
                go_simp
                refine hK.out _ _ (((Below.refl _ _).drew).alloc (Nat.le_refl _) _) (fun _ => ?_)
                clear hK K
                try simp only [Act.put, List.setIfInBounds_toArray, List.set_cons_zero, List.set_cons_succ]
                refine wpAnyH_done (by kernel_rfl) ?_ _
                have hq : q0 = 1 ∨ q0 = 3 ∨ q0 = 0 ∨ q0 = 2 := by omega
                have hca : ∀ ob, (wr.alloc ob).cell? ⟨g, o + k * 3 + 2, none⟩ = some (.int .i64 x2) := fun ob => (World.cell?_alloc_lt _ _ _ hg).trans c2
                rcases hq with rfl | rfl | rfl | rfl
                · go_wp2_with fail
                  refine (pick_any x2 1000000000000 _ a4 a5 (by omega) (by omega)).mono ?_
                  rintro e y5 ⟨z0, rfl, Z0, z1, z2, rfl⟩
                  go_wp2_with (at_builtin; refine wpList_append_own _ rfl _ _ 23 rfl w.heap.size 54 i0 _ 5 40 Tryz.underlying23 hi hz0 hz1 hz2 rfl (by decide) _ _ _ rfl (((HO.out.alloc _).alloc _).drew) ⟨wr.heap.size + 1, 0, none⟩ 1 1 [.int .i64 (30 * p0 + (k : Int)), .int .i64 m0, .int .i64 2, .int .i64 (1 + z0), .int .i64 r0] rfl rfl (by have := cells_new (wr.alloc (.cells #[.int .i64 (30 * p0 + (k : Int)), .int .i64 m0, .int .i64 2, .int .i64 (1 + z0), .int .i64 r0] 54)) #[.int .i64 (30 * p0 + (k : Int)), .int .i64 m0, .int .i64 2, .int .i64 (1 + z0), .int .i64 r0] 54; rw [World.size_alloc] at this; exact this) (by simp [Value.oneCell']) (by unfold maxLen; omega) (by omega) (by simp; omega) ?_; intro v' w6 hown' hgrow _)
                  have HO6 := Lib.hid hown'
                  have HB6 : Hid (Below w.heap.size w w6) := Lib.hid ((((HB.out.alloc hsz _).alloc (by simp; omega) _).drew).grown hgrow (by simp; omega) (fun j hj => (HO.out.lt j hj).1))
                  clear hown' hgrow hHeld
                  go_wp2_with fail
                  go_roundg (30 - (k + 1))
                  case measure => omega
                  case rel =>
                    refine ⟨k + 1, by omega, by omega, rfl, Lib.hid ?_, HB6, by go_num⟩
                    rw [HL.out, cellsL_snoc]
                    have e : ansC (ansOf k (x0, x1, x2)) = [.int .i64 (30 * p0 + (k : Int)), .int .i64 m0, .int .i64 2, .int .i64 (1 + z0), .int .i64 r0] := by
                      have h1 := P0.out; have h2 := M0.out; have h3 := Q0.out; have h4 := R0.out; have h5 := Z0.out
                      simp [ansOf, ← h1, ← h2, ← h3, ← h4, ← h5]
                    rw [e]
                    exact HO6.out
                · go_wp2_with fail
                  refine (pick_any x2 1000000000000 _ a4 a5 (by omega) (by omega)).mono ?_
                  rintro e y5 ⟨z0, rfl, Z0, z1, z2, rfl⟩
                  go_wp2_with (at_builtin; refine wpList_append_own _ rfl _ _ 23 rfl w.heap.size 54 i0 _ 5 40 Tryz.underlying23 hi hz0 hz1 hz2 rfl (by decide) _ _ _ rfl (((HO.out.alloc _).alloc _).drew) ⟨wr.heap.size + 1, 0, none⟩ 1 1 [.int .i64 (30 * p0 + (k : Int)), .int .i64 m0, .int .i64 4, .int .i64 (1 + z0), .int .i64 r0] rfl rfl (by have := cells_new (wr.alloc (.cells #[.int .i64 (30 * p0 + (k : Int)), .int .i64 m0, .int .i64 4, .int .i64 (1 + z0), .int .i64 r0] 54)) #[.int .i64 (30 * p0 + (k : Int)), .int .i64 m0, .int .i64 4, .int .i64 (1 + z0), .int .i64 r0] 54; rw [World.size_alloc] at this; exact this) (by simp [Value.oneCell']) (by unfold maxLen; omega) (by omega) (by simp; omega) ?_; intro v' w6 hown' hgrow _)
                  have HO6 := Lib.hid hown'
                  have HB6 : Hid (Below w.heap.size w w6) := Lib.hid ((((HB.out.alloc hsz _).alloc (by simp; omega) _).drew).grown hgrow (by simp; omega) (fun j hj => (HO.out.lt j hj).1))
                  clear hown' hgrow hHeld
                  go_wp2_with fail
                  go_roundg (30 - (k + 1))
                  case measure => omega
                  case rel =>
                    refine ⟨k + 1, by omega, by omega, rfl, Lib.hid ?_, HB6, by go_num⟩
                    rw [HL.out, cellsL_snoc]
                    have e : ansC (ansOf k (x0, x1, x2)) = [.int .i64 (30 * p0 + (k : Int)), .int .i64 m0, .int .i64 4, .int .i64 (1 + z0), .int .i64 r0] := by
                      have h1 := P0.out; have h2 := M0.out; have h3 := Q0.out; have h4 := R0.out; have h5 := Z0.out
                      simp [ansOf, ← h1, ← h2, ← h3, ← h4, ← h5]
                    rw [e]
                    exact HO6.out
                · go_wp2_with (at_builtin; refine wpList_append_own _ rfl _ _ 23 rfl w.heap.size 54 i0 _ 5 40 Tryz.underlying23 hi hz0 hz1 hz2 rfl (by decide) _ _ _ rfl (((HO.out.alloc _).alloc _).drew) ⟨wr.heap.size + 1, 0, none⟩ 1 1 [.int .i64 (30 * p0 + (k : Int)), .int .i64 m0, .int .i64 1, .int .i64 0, .int .i64 r0] rfl rfl (by have := cells_new (wr.alloc (.cells #[.int .i64 (30 * p0 + (k : Int)), .int .i64 m0, .int .i64 1, .int .i64 0, .int .i64 r0] 54)) #[.int .i64 (30 * p0 + (k : Int)), .int .i64 m0, .int .i64 1, .int .i64 0, .int .i64 r0] 54; rw [World.size_alloc] at this; exact this) (by simp [Value.oneCell']) (by unfold maxLen; omega) (by omega) (by simp; omega) ?_; intro v' w6 hown' hgrow _)
                  have HO6 := Lib.hid hown'
                  have HB6 : Hid (Below w.heap.size w w6) := Lib.hid ((((HB.out.alloc hsz _).alloc (by simp; omega) _).drew).grown hgrow (by simp; omega) (fun j hj => (HO.out.lt j hj).1))
                  clear hown' hgrow hHeld
                  go_wp2_with fail
                  go_roundg (30 - (k + 1))
                  case measure => omega
                  case rel =>
                    refine ⟨k + 1, by omega, by omega, rfl, Lib.hid ?_, HB6, by go_num⟩
                    rw [HL.out, cellsL_snoc]
                    have e : ansC (ansOf k (x0, x1, x2)) = [.int .i64 (30 * p0 + (k : Int)), .int .i64 m0, .int .i64 1, .int .i64 0, .int .i64 r0] := by
                      have h1 := P0.out; have h2 := M0.out; have h3 := Q0.out; have h4 := R0.out
                      simp [ansOf, ← h1, ← h2, ← h3, ← h4]
                    rw [e]
                    exact HO6.out
                · go_wp2_with (at_builtin; refine wpList_append_own _ rfl _ _ 23 rfl w.heap.size 54 i0 _ 5 40 Tryz.underlying23 hi hz0 hz1 hz2 rfl (by decide) _ _ _ rfl (((HO.out.alloc _).alloc _).drew) ⟨wr.heap.size + 1, 0, none⟩ 1 1 [.int .i64 (30 * p0 + (k : Int)), .int .i64 m0, .int .i64 3, .int .i64 0, .int .i64 r0] rfl rfl (by have := cells_new (wr.alloc (.cells #[.int .i64 (30 * p0 + (k : Int)), .int .i64 m0, .int .i64 3, .int .i64 0, .int .i64 r0] 54)) #[.int .i64 (30 * p0 + (k : Int)), .int .i64 m0, .int .i64 3, .int .i64 0, .int .i64 r0] 54; rw [World.size_alloc] at this; exact this) (by simp [Value.oneCell']) (by unfold maxLen; omega) (by omega) (by simp; omega) ?_; intro v' w6 hown' hgrow _)
                  have HO6 := Lib.hid hown'
                  have HB6 : Hid (Below w.heap.size w w6) := Lib.hid ((((HB.out.alloc hsz _).alloc (by simp; omega) _).drew).grown hgrow (by simp; omega) (fun j hj => (HO.out.lt j hj).1))
                  clear hown' hgrow hHeld
                  go_wp2_with fail
                  go_roundg (30 - (k + 1))
                  case measure => omega
                  case rel =>
                    refine ⟨k + 1, by omega, by omega, rfl, Lib.hid ?_, HB6, by go_num⟩
                    rw [HL.out, cellsL_snoc]
                    have e : ansC (ansOf k (x0, x1, x2)) = [.int .i64 (30 * p0 + (k : Int)), .int .i64 m0, .int .i64 3, .int .i64 0, .int .i64 r0] := by
                      have h1 := P0.out; have h2 := M0.out; have h3 := Q0.out; have h4 := R0.out
                      simp [ansOf, ← h1, ← h2, ← h3, ← h4]
                    rw [e]
                    exact HO6.out
            · go_simp
              refine hK.out _ _ (Below.alloc hHeld (Below.size hHeld) _) (fun hSA => ?_)
              clear hK K
              try simp only [Act.put, List.setIfInBounds_toArray, List.set_cons_zero, List.set_cons_succ]
              refine readyL (i := 20) (by kernel_rfl) rfl (fun K hK => ?_)
              go_simp
              refine (pick_any x2 4 _ a4 a5 (by omega) (by omega)).mono ?_
              rintro e y2 ⟨q0, rfl, Q0, q1, q2, rfl⟩
              go_wp2_with fail
              refine hK.out _ _ hSA (fun _ => ?_)
              clear hK K
              try simp only [Act.put, List.setIfInBounds_toArray, List.set_cons_zero, List.set_cons_succ]
              refine takeL (i := 21) (v := ?_) rfl (by kernel_rfl) (by kernel_rfl) (by kernel_rfl) (fun _ _ _ h => h) (Or.inl ⟨by rfl, ?_⟩) hSA ?_
              rotate_left
              · intro wS hSw; have hw1 : IntKind.i64.wrap (1 + q0) = 1 + q0 := (IntWalk.i64_in _ (by omega)); go_simp; try with_reducible rfl
              try simp only [Act.put, List.setIfInBounds_toArray, List.set_cons_zero, List.set_cons_succ]
              refine readyL (i := 27) (by kernel_rfl) rfl (fun K hK => ?_)
              go_simp
              refine (pick_any x1 36525 _ a2 a3 (by omega) (by omega)).mono ?_
              rintro e y3 ⟨r0, rfl, R0, r1, r2, rfl⟩
              go_wp2_with fail
              refine hK.out _ _ hSA (fun _ => ?_)
              clear hK K
              try simp only [Act.put, List.setIfInBounds_toArray, List.set_cons_zero, List.set_cons_succ]
              refine takeL (i := 28) (v := ?_) rfl (by kernel_rfl) (by kernel_rfl) (by kernel_rfl) (fun _ _ _ h => h) (Or.inl ⟨by rfl, ?_⟩) hSA ?_
              rotate_left
              · intro wS hSw; go_simp; try with_reducible rfl
              try simp only [Act.put, List.setIfInBounds_toArray, List.set_cons_zero, List.set_cons_succ]
              refine readyL (i := 30) (by kernel_rfl) rfl (fun K hK => ?_)
              go_simp
              refine hK.out _ _ (((Below.refl _ _).drew).alloc (Nat.le_refl _) _) (fun _ => ?_)
              clear hK K
              try simp only [Act.put, List.setIfInBounds_toArray, List.set_cons_zero, List.set_cons_succ]
              refine wpAnyH_done (by kernel_rfl) ?_ _
              have hq : q0 = 1 ∨ q0 = 3 ∨ q0 = 0 ∨ q0 = 2 := by omega
              have hca : ∀ ob, (wr.alloc ob).cell? ⟨g, o + k * 3 + 2, none⟩ = some (.int .i64 x2) := fun ob => (World.cell?_alloc_lt _ _ _ hg).trans c2
              rcases hq with rfl | rfl | rfl | rfl
              · go_wp2_with fail
                refine (pick_any x2 1000000000000 _ a4 a5 (by omega) (by omega)).mono ?_
                rintro e y5 ⟨z0, rfl, Z0, z1, z2, rfl⟩
                go_wp2_with (at_builtin; refine wpList_append_own _ rfl _ _ 23 rfl w.heap.size 54 i0 _ 5 40 Tryz.underlying23 hi hz0 hz1 hz2 rfl (by decide) _ _ _ rfl (((HO.out.alloc _).alloc _).drew) ⟨wr.heap.size + 1, 0, none⟩ 1 1 [.int .i64 (30 * p0 + (k : Int)), .int .i64 m0, .int .i64 2, .int .i64 (1 + z0), .int .i64 r0] rfl rfl (by have := cells_new (wr.alloc (.cells #[.int .i64 (30 * p0 + (k : Int)), .int .i64 m0, .int .i64 2, .int .i64 (1 + z0), .int .i64 r0] 54)) #[.int .i64 (30 * p0 + (k : Int)), .int .i64 m0, .int .i64 2, .int .i64 (1 + z0), .int .i64 r0] 54; rw [World.size_alloc] at this; exact this) (by simp [Value.oneCell']) (by unfold maxLen; omega) (by omega) (by simp; omega) ?_; intro v' w6 hown' hgrow _)
                have HO6 := Lib.hid hown'
                have HB6 : Hid (Below w.heap.size w w6) := Lib.hid ((((HB.out.alloc hsz _).alloc (by simp; omega) _).drew).grown hgrow (by simp; omega) (fun j hj => (HO.out.lt j hj).1))
                clear hown' hgrow hHeld
                go_wp2_with fail
                go_roundg (30 - (k + 1))
                case measure => omega
                case rel =>
                  refine ⟨k + 1, by omega, by omega, rfl, Lib.hid ?_, HB6, by go_num⟩
                  rw [HL.out, cellsL_snoc]
                  have e : ansC (ansOf k (x0, x1, x2)) = [.int .i64 (30 * p0 + (k : Int)), .int .i64 m0, .int .i64 2, .int .i64 (1 + z0), .int .i64 r0] := by
                    have h1 := P0.out; have h2 := M0.out; have h3 := Q0.out; have h4 := R0.out; have h5 := Z0.out
                    simp [ansOf, ← h1, ← h2, ← h3, ← h4, ← h5]
                  rw [e]
                  exact HO6.out
              · go_wp2_with fail
                refine (pick_any x2 1000000000000 _ a4 a5 (by omega) (by omega)).mono ?_
                rintro e y5 ⟨z0, rfl, Z0, z1, z2, rfl⟩
                go_wp2_with (at_builtin; refine wpList_append_own _ rfl _ _ 23 rfl w.heap.size 54 i0 _ 5 40 Tryz.underlying23 hi hz0 hz1 hz2 rfl (by decide) _ _ _ rfl (((HO.out.alloc _).alloc _).drew) ⟨wr.heap.size + 1, 0, none⟩ 1 1 [.int .i64 (30 * p0 + (k : Int)), .int .i64 m0, .int .i64 4, .int .i64 (1 + z0), .int .i64 r0] rfl rfl (by have := cells_new (wr.alloc (.cells #[.int .i64 (30 * p0 + (k : Int)), .int .i64 m0, .int .i64 4, .int .i64 (1 + z0), .int .i64 r0] 54)) #[.int .i64 (30 * p0 + (k : Int)), .int .i64 m0, .int .i64 4, .int .i64 (1 + z0), .int .i64 r0] 54; rw [World.size_alloc] at this; exact this) (by simp [Value.oneCell']) (by unfold maxLen; omega) (by omega) (by simp; omega) ?_; intro v' w6 hown' hgrow _)
                have HO6 := Lib.hid hown'
                have HB6 : Hid (Below w.heap.size w w6) := Lib.hid ((((HB.out.alloc hsz _).alloc (by simp; omega) _).drew).grown hgrow (by simp; omega) (fun j hj => (HO.out.lt j hj).1))
                clear hown' hgrow hHeld
                go_wp2_with fail
                go_roundg (30 - (k + 1))
                case measure => omega
                case rel =>
                  refine ⟨k + 1, by omega, by omega, rfl, Lib.hid ?_, HB6, by go_num⟩
                  rw [HL.out, cellsL_snoc]
                  have e : ansC (ansOf k (x0, x1, x2)) = [.int .i64 (30 * p0 + (k : Int)), .int .i64 m0, .int .i64 4, .int .i64 (1 + z0), .int .i64 r0] := by
                    have h1 := P0.out; have h2 := M0.out; have h3 := Q0.out; have h4 := R0.out; have h5 := Z0.out
                    simp [ansOf, ← h1, ← h2, ← h3, ← h4, ← h5]
                  rw [e]
                  exact HO6.out
              · go_wp2_with (at_builtin; refine wpList_append_own _ rfl _ _ 23 rfl w.heap.size 54 i0 _ 5 40 Tryz.underlying23 hi hz0 hz1 hz2 rfl (by decide) _ _ _ rfl (((HO.out.alloc _).alloc _).drew) ⟨wr.heap.size + 1, 0, none⟩ 1 1 [.int .i64 (30 * p0 + (k : Int)), .int .i64 m0, .int .i64 1, .int .i64 0, .int .i64 r0] rfl rfl (by have := cells_new (wr.alloc (.cells #[.int .i64 (30 * p0 + (k : Int)), .int .i64 m0, .int .i64 1, .int .i64 0, .int .i64 r0] 54)) #[.int .i64 (30 * p0 + (k : Int)), .int .i64 m0, .int .i64 1, .int .i64 0, .int .i64 r0] 54; rw [World.size_alloc] at this; exact this) (by simp [Value.oneCell']) (by unfold maxLen; omega) (by omega) (by simp; omega) ?_; intro v' w6 hown' hgrow _)
                have HO6 := Lib.hid hown'
                have HB6 : Hid (Below w.heap.size w w6) := Lib.hid ((((HB.out.alloc hsz _).alloc (by simp; omega) _).drew).grown hgrow (by simp; omega) (fun j hj => (HO.out.lt j hj).1))
                clear hown' hgrow hHeld
                go_wp2_with fail
                go_roundg (30 - (k + 1))
                case measure => omega
                case rel =>
                  refine ⟨k + 1, by omega, by omega, rfl, Lib.hid ?_, HB6, by go_num⟩
                  rw [HL.out, cellsL_snoc]
                  have e : ansC (ansOf k (x0, x1, x2)) = [.int .i64 (30 * p0 + (k : Int)), .int .i64 m0, .int .i64 1, .int .i64 0, .int .i64 r0] := by
                    have h1 := P0.out; have h2 := M0.out; have h3 := Q0.out; have h4 := R0.out
                    simp [ansOf, ← h1, ← h2, ← h3, ← h4]
                  rw [e]
                  exact HO6.out
              · go_wp2_with (at_builtin; refine wpList_append_own _ rfl _ _ 23 rfl w.heap.size 54 i0 _ 5 40 Tryz.underlying23 hi hz0 hz1 hz2 rfl (by decide) _ _ _ rfl (((HO.out.alloc _).alloc _).drew) ⟨wr.heap.size + 1, 0, none⟩ 1 1 [.int .i64 (30 * p0 + (k : Int)), .int .i64 m0, .int .i64 3, .int .i64 0, .int .i64 r0] rfl rfl (by have := cells_new (wr.alloc (.cells #[.int .i64 (30 * p0 + (k : Int)), .int .i64 m0, .int .i64 3, .int .i64 0, .int .i64 r0] 54)) #[.int .i64 (30 * p0 + (k : Int)), .int .i64 m0, .int .i64 3, .int .i64 0, .int .i64 r0] 54; rw [World.size_alloc] at this; exact this) (by simp [Value.oneCell']) (by unfold maxLen; omega) (by omega) (by simp; omega) ?_; intro v' w6 hown' hgrow _)
                have HO6 := Lib.hid hown'
                have HB6 : Hid (Below w.heap.size w w6) := Lib.hid ((((HB.out.alloc hsz _).alloc (by simp; omega) _).drew).grown hgrow (by simp; omega) (fun j hj => (HO.out.lt j hj).1))
                clear hown' hgrow hHeld
                go_wp2_with fail
                go_roundg (30 - (k + 1))
                case measure => omega
                case rel =>
                  refine ⟨k + 1, by omega, by omega, rfl, Lib.hid ?_, HB6, by go_num⟩
                  rw [HL.out, cellsL_snoc]
                  have e : ansC (ansOf k (x0, x1, x2)) = [.int .i64 (30 * p0 + (k : Int)), .int .i64 m0, .int .i64 3, .int .i64 0, .int .i64 r0] := by
                    have h1 := P0.out; have h2 := M0.out; have h3 := Q0.out; have h4 := R0.out
                    simp [ansOf, ← h1, ← h2, ← h3, ← h4]
                  rw [e]
                  exact HO6.out
          · go_simp
            refine hK.out _ _ (Below.alloc hHeld (Below.size hHeld) _) (fun hSA => ?_)
            clear hK K
            try simp only [Act.put, List.setIfInBounds_toArray, List.set_cons_zero, List.set_cons_succ]
            refine readyL (i := 14) (by kernel_rfl) rfl (fun K hK => ?_)
            go_simp
            refine (pick_any x1 1000000000 _ a2 a3 (by omega) (by omega)).mono ?_
            rintro e y1 ⟨m0, rfl, M0, m1, m2, rfl⟩
            go_wp2_with fail
            refine hK.out _ _ hSA (fun _ => ?_)
            clear hK K
            try simp only [Act.put, List.setIfInBounds_toArray, List.set_cons_zero, List.set_cons_succ]
            refine readyL (i := 20) (by kernel_rfl) rfl (fun K hK => ?_)
            go_simp
            refine (pick_any x2 4 _ a4 a5 (by omega) (by omega)).mono ?_
            rintro e y2 ⟨q0, rfl, Q0, q1, q2, rfl⟩
            go_wp2_with fail
            refine hK.out _ _ hSA (fun _ => ?_)
            clear hK K
            try simp only [Act.put, List.setIfInBounds_toArray, List.set_cons_zero, List.set_cons_succ]
            refine takeL (i := 21) (v := ?_) rfl (by kernel_rfl) (by kernel_rfl) (by kernel_rfl) (fun _ _ _ h => h) (Or.inl ⟨by rfl, ?_⟩) hSA ?_
            rotate_left
            · intro wS hSw; have hw1 : IntKind.i64.wrap (1 + q0) = 1 + q0 := (IntWalk.i64_in _ (by omega)); go_simp; try with_reducible rfl
            try simp only [Act.put, List.setIfInBounds_toArray, List.set_cons_zero, List.set_cons_succ]
            refine readyL (i := 27) (by kernel_rfl) rfl (fun K hK => ?_)
            go_simp
            refine (pick_any x1 36525 _ a2 a3 (by omega) (by omega)).mono ?_
            rintro e y3 ⟨r0, rfl, R0, r1, r2, rfl⟩
            go_wp2_with fail
            refine hK.out _ _ hSA (fun _ => ?_)
            clear hK K
            try simp only [Act.put, List.setIfInBounds_toArray, List.set_cons_zero, List.set_cons_succ]
            refine takeL (i := 28) (v := ?_) rfl (by kernel_rfl) (by kernel_rfl) (by kernel_rfl) (fun _ _ _ h => h) (Or.inl ⟨by rfl, ?_⟩) hSA ?_
            rotate_left
            · intro wS hSw; go_simp; try with_reducible rfl
            try simp only [Act.put, List.setIfInBounds_toArray, List.set_cons_zero, List.set_cons_succ]
            refine readyL (i := 30) (by kernel_rfl) rfl (fun K hK => ?_)
            go_simp
            refine hK.out _ _ (((Below.refl _ _).drew).alloc (Nat.le_refl _) _) (fun _ => ?_)
            clear hK K
            try simp only [Act.put, List.setIfInBounds_toArray, List.set_cons_zero, List.set_cons_succ]
            refine wpAnyH_done (by kernel_rfl) ?_ _
            have hq : q0 = 1 ∨ q0 = 3 ∨ q0 = 0 ∨ q0 = 2 := by omega
            have hca : ∀ ob, (wr.alloc ob).cell? ⟨g, o + k * 3 + 2, none⟩ = some (.int .i64 x2) := fun ob => (World.cell?_alloc_lt _ _ _ hg).trans c2
            rcases hq with rfl | rfl | rfl | rfl
            · go_wp2_with fail
              refine (pick_any x2 1000000000000 _ a4 a5 (by omega) (by omega)).mono ?_
              rintro e y5 ⟨z0, rfl, Z0, z1, z2, rfl⟩
              go_wp2_with (at_builtin; refine wpList_append_own _ rfl _ _ 23 rfl w.heap.size 54 i0 _ 5 40 Tryz.underlying23 hi hz0 hz1 hz2 rfl (by decide) _ _ _ rfl (((HO.out.alloc _).alloc _).drew) ⟨wr.heap.size + 1, 0, none⟩ 1 1 [.int .i64 (30 * p0 + (k : Int)), .int .i64 m0, .int .i64 2, .int .i64 (1 + z0), .int .i64 r0] rfl rfl (by have := cells_new (wr.alloc (.cells #[.int .i64 (30 * p0 + (k : Int)), .int .i64 m0, .int .i64 2, .int .i64 (1 + z0), .int .i64 r0] 54)) #[.int .i64 (30 * p0 + (k : Int)), .int .i64 m0, .int .i64 2, .int .i64 (1 + z0), .int .i64 r0] 54; rw [World.size_alloc] at this; exact this) (by simp [Value.oneCell']) (by unfold maxLen; omega) (by omega) (by simp; omega) ?_; intro v' w6 hown' hgrow _)
              have HO6 := Lib.hid hown'
              have HB6 : Hid (Below w.heap.size w w6) := Lib.hid ((((HB.out.alloc hsz _).alloc (by simp; omega) _).drew).grown hgrow (by simp; omega) (fun j hj => (HO.out.lt j hj).1))
              clear hown' hgrow hHeld
              go_wp2_with fail
              go_roundg (30 - (k + 1))
              case measure => omega
              case rel =>
                refine ⟨k + 1, by omega, by omega, rfl, Lib.hid ?_, HB6, by go_num⟩
                rw [HL.out, cellsL_snoc]
                have e : ansC (ansOf k (x0, x1, x2)) = [.int .i64 (30 * p0 + (k : Int)), .int .i64 m0, .int .i64 2, .int .i64 (1 + z0), .int .i64 r0] := by
                  have h1 := P0.out; have h2 := M0.out; have h3 := Q0.out; have h4 := R0.out; have h5 := Z0.out
                  simp [ansOf, ← h1, ← h2, ← h3, ← h4, ← h5]
                rw [e]
                exact HO6.out
            · go_wp2_with fail
              refine (pick_any x2 1000000000000 _ a4 a5 (by omega) (by omega)).mono ?_
              rintro e y5 ⟨z0, rfl, Z0, z1, z2, rfl⟩
              go_wp2_with (at_builtin; refine wpList_append_own _ rfl _ _ 23 rfl w.heap.size 54 i0 _ 5 40 Tryz.underlying23 hi hz0 hz1 hz2 rfl (by decide) _ _ _ rfl (((HO.out.alloc _).alloc _).drew) ⟨wr.heap.size + 1, 0, none⟩ 1 1 [.int .i64 (30 * p0 + (k : Int)), .int .i64 m0, .int .i64 4, .int .i64 (1 + z0), .int .i64 r0] rfl rfl (by have := cells_new (wr.alloc (.cells #[.int .i64 (30 * p0 + (k : Int)), .int .i64 m0, .int .i64 4, .int .i64 (1 + z0), .int .i64 r0] 54)) #[.int .i64 (30 * p0 + (k : Int)), .int .i64 m0, .int .i64 4, .int .i64 (1 + z0), .int .i64 r0] 54; rw [World.size_alloc] at this; exact this) (by simp [Value.oneCell']) (by unfold maxLen; omega) (by omega) (by simp; omega) ?_; intro v' w6 hown' hgrow _)
              have HO6 := Lib.hid hown'
              have HB6 : Hid (Below w.heap.size w w6) := Lib.hid ((((HB.out.alloc hsz _).alloc (by simp; omega) _).drew).grown hgrow (by simp; omega) (fun j hj => (HO.out.lt j hj).1))
              clear hown' hgrow hHeld
              go_wp2_with fail
              go_roundg (30 - (k + 1))
              case measure => omega
              case rel =>
                refine ⟨k + 1, by omega, by omega, rfl, Lib.hid ?_, HB6, by go_num⟩
                rw [HL.out, cellsL_snoc]
                have e : ansC (ansOf k (x0, x1, x2)) = [.int .i64 (30 * p0 + (k : Int)), .int .i64 m0, .int .i64 4, .int .i64 (1 + z0), .int .i64 r0] := by
                  have h1 := P0.out; have h2 := M0.out; have h3 := Q0.out; have h4 := R0.out; have h5 := Z0.out
                  simp [ansOf, ← h1, ← h2, ← h3, ← h4, ← h5]
                rw [e]
                exact HO6.out
            · go_wp2_with (at_builtin; refine wpList_append_own _ rfl _ _ 23 rfl w.heap.size 54 i0 _ 5 40 Tryz.underlying23 hi hz0 hz1 hz2 rfl (by decide) _ _ _ rfl (((HO.out.alloc _).alloc _).drew) ⟨wr.heap.size + 1, 0, none⟩ 1 1 [.int .i64 (30 * p0 + (k : Int)), .int .i64 m0, .int .i64 1, .int .i64 0, .int .i64 r0] rfl rfl (by have := cells_new (wr.alloc (.cells #[.int .i64 (30 * p0 + (k : Int)), .int .i64 m0, .int .i64 1, .int .i64 0, .int .i64 r0] 54)) #[.int .i64 (30 * p0 + (k : Int)), .int .i64 m0, .int .i64 1, .int .i64 0, .int .i64 r0] 54; rw [World.size_alloc] at this; exact this) (by simp [Value.oneCell']) (by unfold maxLen; omega) (by omega) (by simp; omega) ?_; intro v' w6 hown' hgrow _)
              have HO6 := Lib.hid hown'
              have HB6 : Hid (Below w.heap.size w w6) := Lib.hid ((((HB.out.alloc hsz _).alloc (by simp; omega) _).drew).grown hgrow (by simp; omega) (fun j hj => (HO.out.lt j hj).1))
              clear hown' hgrow hHeld
              go_wp2_with fail
              go_roundg (30 - (k + 1))
              case measure => omega
              case rel =>
                refine ⟨k + 1, by omega, by omega, rfl, Lib.hid ?_, HB6, by go_num⟩
                rw [HL.out, cellsL_snoc]
                have e : ansC (ansOf k (x0, x1, x2)) = [.int .i64 (30 * p0 + (k : Int)), .int .i64 m0, .int .i64 1, .int .i64 0, .int .i64 r0] := by
                  have h1 := P0.out; have h2 := M0.out; have h3 := Q0.out; have h4 := R0.out
                  simp [ansOf, ← h1, ← h2, ← h3, ← h4]
                rw [e]
                exact HO6.out
            · go_wp2_with (at_builtin; refine wpList_append_own _ rfl _ _ 23 rfl w.heap.size 54 i0 _ 5 40 Tryz.underlying23 hi hz0 hz1 hz2 rfl (by decide) _ _ _ rfl (((HO.out.alloc _).alloc _).drew) ⟨wr.heap.size + 1, 0, none⟩ 1 1 [.int .i64 (30 * p0 + (k : Int)), .int .i64 m0, .int .i64 3, .int .i64 0, .int .i64 r0] rfl rfl (by have := cells_new (wr.alloc (.cells #[.int .i64 (30 * p0 + (k : Int)), .int .i64 m0, .int .i64 3, .int .i64 0, .int .i64 r0] 54)) #[.int .i64 (30 * p0 + (k : Int)), .int .i64 m0, .int .i64 3, .int .i64 0, .int .i64 r0] 54; rw [World.size_alloc] at this; exact this) (by simp [Value.oneCell']) (by unfold maxLen; omega) (by omega) (by simp; omega) ?_; intro v' w6 hown' hgrow _)
              have HO6 := Lib.hid hown'
              have HB6 : Hid (Below w.heap.size w w6) := Lib.hid ((((HB.out.alloc hsz _).alloc (by simp; omega) _).drew).grown hgrow (by simp; omega) (fun j hj => (HO.out.lt j hj).1))
              clear hown' hgrow hHeld
              go_wp2_with fail
              go_roundg (30 - (k + 1))
              case measure => omega
              case rel =>
                refine ⟨k + 1, by omega, by omega, rfl, Lib.hid ?_, HB6, by go_num⟩
                rw [HL.out, cellsL_snoc]
                have e : ansC (ansOf k (x0, x1, x2)) = [.int .i64 (30 * p0 + (k : Int)), .int .i64 m0, .int .i64 3, .int .i64 0, .int .i64 r0] := by
                  have h1 := P0.out; have h2 := M0.out; have h3 := Q0.out; have h4 := R0.out
                  simp [ansOf, ← h1, ← h2, ← h3, ← h4]
                rw [e]
                exact HO6.out
        · go_simp
          refine hK.out _ _ (Below.alloc hHeld (Below.size hHeld) _) (fun hSA => ?_)
          clear hK K
          try simp only [Act.put, List.setIfInBounds_toArray, List.set_cons_zero, List.set_cons_succ]
          refine readyL (i := 5) (by kernel_rfl) rfl (fun K hK => ?_)
          go_simp
          refine (pick_any x0 33333333 _ a0 a1 (by omega) (by omega)).mono ?_
          rintro e y0 ⟨p0, rfl, P0, p1, p2, rfl⟩
          go_wp2_with fail
          refine hK.out _ _ hSA (fun _ => ?_)
          clear hK K
          try simp only [Act.put, List.setIfInBounds_toArray, List.set_cons_zero, List.set_cons_succ]
          refine takeL (i := 6) (v := ?_) rfl (by kernel_rfl) (by kernel_rfl) (by kernel_rfl) (fun _ _ _ h => h) (Or.inl ⟨by rfl, ?_⟩) hSA ?_
          rotate_left
          · intro wS hSw; have hw1 : IntKind.i64.wrap (30 * p0) = 30 * p0 := (IntWalk.i64_in _ (by omega)); go_simp; try with_reducible rfl
          try simp only [Act.put, List.setIfInBounds_toArray, List.set_cons_zero, List.set_cons_succ]
          refine takeL (i := 8) (v := ?_) rfl (by kernel_rfl) (by kernel_rfl) (by kernel_rfl) (fun _ _ _ h => h) (Or.inl ⟨by rfl, ?_⟩) hSA ?_
          rotate_left
          · intro wS hSw; have hw1 : IntKind.i64.wrap (30 * p0 + (k : Int)) = 30 * p0 + (k : Int) := (IntWalk.i64_in _ (by omega)); go_simp; try with_reducible rfl
          try simp only [Act.put, List.setIfInBounds_toArray, List.set_cons_zero, List.set_cons_succ]
          refine readyL (i := 14) (by kernel_rfl) rfl (fun K hK => ?_)
          go_simp
          refine (pick_any x1 1000000000 _ a2 a3 (by omega) (by omega)).mono ?_
          rintro e y1 ⟨m0, rfl, M0, m1, m2, rfl⟩
          go_wp2_with fail
          refine hK.out _ _ hSA (fun _ => ?_)
          clear hK K
          try simp only [Act.put, List.setIfInBounds_toArray, List.set_cons_zero, List.set_cons_succ]
          refine readyL (i := 20) (by kernel_rfl) rfl (fun K hK => ?_)
          go_simp
          refine (pick_any x2 4 _ a4 a5 (by omega) (by omega)).mono ?_
          rintro e y2 ⟨q0, rfl, Q0, q1, q2, rfl⟩
          go_wp2_with fail
          refine hK.out _ _ hSA (fun _ => ?_)
          clear hK K
          try simp only [Act.put, List.setIfInBounds_toArray, List.set_cons_zero, List.set_cons_succ]
          refine takeL (i := 21) (v := ?_) rfl (by kernel_rfl) (by kernel_rfl) (by kernel_rfl) (fun _ _ _ h => h) (Or.inl ⟨by rfl, ?_⟩) hSA ?_
          rotate_left
          · intro wS hSw; have hw1 : IntKind.i64.wrap (1 + q0) = 1 + q0 := (IntWalk.i64_in _ (by omega)); go_simp; try with_reducible rfl
          try simp only [Act.put, List.setIfInBounds_toArray, List.set_cons_zero, List.set_cons_succ]
          refine readyL (i := 27) (by kernel_rfl) rfl (fun K hK => ?_)
          go_simp
          refine (pick_any x1 36525 _ a2 a3 (by omega) (by omega)).mono ?_
          rintro e y3 ⟨r0, rfl, R0, r1, r2, rfl⟩
          go_wp2_with fail
          refine hK.out _ _ hSA (fun _ => ?_)
          clear hK K
          try simp only [Act.put, List.setIfInBounds_toArray, List.set_cons_zero, List.set_cons_succ]
          refine takeL (i := 28) (v := ?_) rfl (by kernel_rfl) (by kernel_rfl) (by kernel_rfl) (fun _ _ _ h => h) (Or.inl ⟨by rfl, ?_⟩) hSA ?_
          rotate_left
          · intro wS hSw; go_simp; try with_reducible rfl
          try simp only [Act.put, List.setIfInBounds_toArray, List.set_cons_zero, List.set_cons_succ]
          refine readyL (i := 30) (by kernel_rfl) rfl (fun K hK => ?_)
          go_simp
          refine hK.out _ _ (((Below.refl _ _).drew).alloc (Nat.le_refl _) _) (fun _ => ?_)
          clear hK K
          try simp only [Act.put, List.setIfInBounds_toArray, List.set_cons_zero, List.set_cons_succ]
          refine wpAnyH_done (by kernel_rfl) ?_ _
          have hq : q0 = 1 ∨ q0 = 3 ∨ q0 = 0 ∨ q0 = 2 := by omega
          have hca : ∀ ob, (wr.alloc ob).cell? ⟨g, o + k * 3 + 2, none⟩ = some (.int .i64 x2) := fun ob => (World.cell?_alloc_lt _ _ _ hg).trans c2
          rcases hq with rfl | rfl | rfl | rfl
          · go_wp2_with fail
            refine (pick_any x2 1000000000000 _ a4 a5 (by omega) (by omega)).mono ?_
            rintro e y5 ⟨z0, rfl, Z0, z1, z2, rfl⟩
            go_wp2_with (at_builtin; refine wpList_append_own _ rfl _ _ 23 rfl w.heap.size 54 i0 _ 5 40 Tryz.underlying23 hi hz0 hz1 hz2 rfl (by decide) _ _ _ rfl (((HO.out.alloc _).alloc _).drew) ⟨wr.heap.size + 1, 0, none⟩ 1 1 [.int .i64 (30 * p0 + (k : Int)), .int .i64 m0, .int .i64 2, .int .i64 (1 + z0), .int .i64 r0] rfl rfl (by have := cells_new (wr.alloc (.cells #[.int .i64 (30 * p0 + (k : Int)), .int .i64 m0, .int .i64 2, .int .i64 (1 + z0), .int .i64 r0] 54)) #[.int .i64 (30 * p0 + (k : Int)), .int .i64 m0, .int .i64 2, .int .i64 (1 + z0), .int .i64 r0] 54; rw [World.size_alloc] at this; exact this) (by simp [Value.oneCell']) (by unfold maxLen; omega) (by omega) (by simp; omega) ?_; intro v' w6 hown' hgrow _)
            have HO6 := Lib.hid hown'
            have HB6 : Hid (Below w.heap.size w w6) := Lib.hid ((((HB.out.alloc hsz _).alloc (by simp; omega) _).drew).grown hgrow (by simp; omega) (fun j hj => (HO.out.lt j hj).1))
            clear hown' hgrow hHeld
            go_wp2_with fail
            go_roundg (30 - (k + 1))
            case measure => omega
            case rel =>
              refine ⟨k + 1, by omega, by omega, rfl, Lib.hid ?_, HB6, by go_num⟩
              rw [HL.out, cellsL_snoc]
              have e : ansC (ansOf k (x0, x1, x2)) = [.int .i64 (30 * p0 + (k : Int)), .int .i64 m0, .int .i64 2, .int .i64 (1 + z0), .int .i64 r0] := by
                have h1 := P0.out; have h2 := M0.out; have h3 := Q0.out; have h4 := R0.out; have h5 := Z0.out
                simp [ansOf, ← h1, ← h2, ← h3, ← h4, ← h5]
              rw [e]
              exact HO6.out
          · go_wp2_with fail
            refine (pick_any x2 1000000000000 _ a4 a5 (by omega) (by omega)).mono ?_
            rintro e y5 ⟨z0, rfl, Z0, z1, z2, rfl⟩
            go_wp2_with (at_builtin; refine wpList_append_own _ rfl _ _ 23 rfl w.heap.size 54 i0 _ 5 40 Tryz.underlying23 hi hz0 hz1 hz2 rfl (by decide) _ _ _ rfl (((HO.out.alloc _).alloc _).drew) ⟨wr.heap.size + 1, 0, none⟩ 1 1 [.int .i64 (30 * p0 + (k : Int)), .int .i64 m0, .int .i64 4, .int .i64 (1 + z0), .int .i64 r0] rfl rfl (by have := cells_new (wr.alloc (.cells #[.int .i64 (30 * p0 + (k : Int)), .int .i64 m0, .int .i64 4, .int .i64 (1 + z0), .int .i64 r0] 54)) #[.int .i64 (30 * p0 + (k : Int)), .int .i64 m0, .int .i64 4, .int .i64 (1 + z0), .int .i64 r0] 54; rw [World.size_alloc] at this; exact this) (by simp [Value.oneCell']) (by unfold maxLen; omega) (by omega) (by simp; omega) ?_; intro v' w6 hown' hgrow _)
            have HO6 := Lib.hid hown'
            have HB6 : Hid (Below w.heap.size w w6) := Lib.hid ((((HB.out.alloc hsz _).alloc (by simp; omega) _).drew).grown hgrow (by simp; omega) (fun j hj => (HO.out.lt j hj).1))
            clear hown' hgrow hHeld
            go_wp2_with fail
            go_roundg (30 - (k + 1))
            case measure => omega
            case rel =>
              refine ⟨k + 1, by omega, by omega, rfl, Lib.hid ?_, HB6, by go_num⟩
              rw [HL.out, cellsL_snoc]
              have e : ansC (ansOf k (x0, x1, x2)) = [.int .i64 (30 * p0 + (k : Int)), .int .i64 m0, .int .i64 4, .int .i64 (1 + z0), .int .i64 r0] := by
                have h1 := P0.out; have h2 := M0.out; have h3 := Q0.out; have h4 := R0.out; have h5 := Z0.out
                simp [ansOf, ← h1, ← h2, ← h3, ← h4, ← h5]
              rw [e]
              exact HO6.out
          · go_wp2_with (at_builtin; refine wpList_append_own _ rfl _ _ 23 rfl w.heap.size 54 i0 _ 5 40 Tryz.underlying23 hi hz0 hz1 hz2 rfl (by decide) _ _ _ rfl (((HO.out.alloc _).alloc _).drew) ⟨wr.heap.size + 1, 0, none⟩ 1 1 [.int .i64 (30 * p0 + (k : Int)), .int .i64 m0, .int .i64 1, .int .i64 0, .int .i64 r0] rfl rfl (by have := cells_new (wr.alloc (.cells #[.int .i64 (30 * p0 + (k : Int)), .int .i64 m0, .int .i64 1, .int .i64 0, .int .i64 r0] 54)) #[.int .i64 (30 * p0 + (k : Int)), .int .i64 m0, .int .i64 1, .int .i64 0, .int .i64 r0] 54; rw [World.size_alloc] at this; exact this) (by simp [Value.oneCell']) (by unfold maxLen; omega) (by omega) (by simp; omega) ?_; intro v' w6 hown' hgrow _)
            have HO6 := Lib.hid hown'
            have HB6 : Hid (Below w.heap.size w w6) := Lib.hid ((((HB.out.alloc hsz _).alloc (by simp; omega) _).drew).grown hgrow (by simp; omega) (fun j hj => (HO.out.lt j hj).1))
            clear hown' hgrow hHeld
            go_wp2_with fail
            go_roundg (30 - (k + 1))
            case measure => omega
            case rel =>
              refine ⟨k + 1, by omega, by omega, rfl, Lib.hid ?_, HB6, by go_num⟩
              rw [HL.out, cellsL_snoc]
              have e : ansC (ansOf k (x0, x1, x2)) = [.int .i64 (30 * p0 + (k : Int)), .int .i64 m0, .int .i64 1, .int .i64 0, .int .i64 r0] := by
                have h1 := P0.out; have h2 := M0.out; have h3 := Q0.out; have h4 := R0.out
                simp [ansOf, ← h1, ← h2, ← h3, ← h4]
              rw [e]
              exact HO6.out
          · go_wp2_with (at_builtin; refine wpList_append_own _ rfl _ _ 23 rfl w.heap.size 54 i0 _ 5 40 Tryz.underlying23 hi hz0 hz1 hz2 rfl (by decide) _ _ _ rfl (((HO.out.alloc _).alloc _).drew) ⟨wr.heap.size + 1, 0, none⟩ 1 1 [.int .i64 (30 * p0 + (k : Int)), .int .i64 m0, .int .i64 3, .int .i64 0, .int .i64 r0] rfl rfl (by have := cells_new (wr.alloc (.cells #[.int .i64 (30 * p0 + (k : Int)), .int .i64 m0, .int .i64 3, .int .i64 0, .int .i64 r0] 54)) #[.int .i64 (30 * p0 + (k : Int)), .int .i64 m0, .int .i64 3, .int .i64 0, .int .i64 r0] 54; rw [World.size_alloc] at this; exact this) (by simp [Value.oneCell']) (by unfold maxLen; omega) (by omega) (by simp; omega) ?_; intro v' w6 hown' hgrow _)
            have HO6 := Lib.hid hown'
            have HB6 : Hid (Below w.heap.size w w6) := Lib.hid ((((HB.out.alloc hsz _).alloc (by simp; omega) _).drew).grown hgrow (by simp; omega) (fun j hj => (HO.out.lt j hj).1))
            clear hown' hgrow hHeld
            go_wp2_with fail
            go_roundg (30 - (k + 1))
            case measure => omega
            case rel =>
              refine ⟨k + 1, by omega, by omega, rfl, Lib.hid ?_, HB6, by go_num⟩
              rw [HL.out, cellsL_snoc]
              have e : ansC (ansOf k (x0, x1, x2)) = [.int .i64 (30 * p0 + (k : Int)), .int .i64 m0, .int .i64 3, .int .i64 0, .int .i64 r0] := by
                have h1 := P0.out; have h2 := M0.out; have h3 := Q0.out; have h4 := R0.out
                simp [ansOf, ← h1, ← h2, ← h3, ← h4]
              rw [e]
              exact HO6.out
      · have HE : Hid (l.take 30 = l.take k) := Lib.hid (by rw [show k = 30 from by omega])
        go_wp2_with fail
        go_ret
        exact ⟨_, rfl, Lib.hid (by
          have h1 := Row.of_own HO.out
          have h2 : l.take 30 = l.take k := HE.out
          unfold Rd anss
          rw [h2, listOf_len, List.length_take, Nat.min_eq_left hkl]
          exact h1), HB⟩
    · have HE : Hid (l.take 30 = l.take k) := Lib.hid (by rw [List.take_of_length_le (by omega), List.take_of_length_le (by omega)])
      go_wp2_with fail
      go_ret
      exact ⟨_, rfl, Lib.hid (by
        have h1 := Row.of_own HO.out
        have h2 : l.take 30 = l.take k := HE.out
        unfold Rd anss
        rw [h2, listOf_len, List.length_take, Nat.min_eq_left hkl]
        exact h1), HB⟩
end Go.Proofs.YtibgibjmpcajkaaGreatDoor
