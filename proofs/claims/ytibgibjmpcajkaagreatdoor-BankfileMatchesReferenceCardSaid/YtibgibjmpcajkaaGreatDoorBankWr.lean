/- The walk of Write. -/
import Derived.Test.YtibgibjmpcajkaaGreatDoorBankZ
namespace Go.Proofs.YtibgibjmpcajkaaGreatDoor
open Go.RowKit BankS

/-- what Write hands back: the file and the error -/
def RetW (r : Bs × Nat) (w : World) (e : Ending) (w' : World) : Prop := ∃ s : ByteArray, e = .returned (.tuple #[.string s, .int .i64 r.2]) ∧ Hid (L s = r.1) ∧ Hid (Below w.heap.size w w')
theorem RetW.mk {r : Bs × Nat} {s : ByteArray} {b : Int} {w w' : World} (h1 : L s = r.1) (h2 : b = r.2) (hb : Below w.heap.size w w') : RetW r w (.returned (.tuple #[.string s, .int .i64 b])) w' := ⟨s, by rw [h2], h1, hb⟩
theorem writeP_long (l : List Pay) (h : 400 < l.length) : writeP l = ([], 2) := by unfold writeP; rw [if_pos h]
theorem writeP_bad (l : List Pay) (h : l.length ≤ 400) (h2 : l.all payOk = false) : writeP l = ([], 1) := by unfold writeP; rw [if_neg (by omega), if_pos h2]
theorem writeP_twice (l : List Pay) (h : l.length ≤ 400) (h2 : l.all payOk = true) (h3 : twice (l.map (·.1)) = true) : writeP l = ([], 5) := by
  unfold writeP; rw [if_neg (by omega), if_neg (by rw [h2]; simp), if_pos h3]
theorem writeP_good (l : List Pay) (h : l.length ≤ 400) (h2 : l.all payOk = true) (h3 : twice (l.map (·.1)) = false) : writeP l = (file payW (l.map payLine) ((l.map (fun p : Pay => p.2.2.1)).sum).toNat, 0) := by
  unfold writeP; rw [if_neg (by omega), if_neg (by rw [h2]; simp), if_neg (by rw [h3]; simp)]
/-- the loop over the lines: what holds behind k payments -/
structure WrI (l : List Pay) (w0 : World) (b k : Nat) (S : Int) (v : Value) (wx : World) : Prop where
  seen : Seen wx b k ((l.take k).map (·.1)).reverse
  once : twice ((l.take k).map (·.1)) = false
  rows : ∃ xs : List ByteArray, xs.map L = (l.take k).map payLine ∧ wx.ownsRow (b + 1) 9 1 v k (cellsL strC xs)
  sum : S = ((l.take k).map (fun p : Pay => p.2.2.1)).sum
  bel : Below w0.heap.size w0 wx
  tabs : Tabs wx
theorem WrI.next {l : List Pay} {w0 wr w2 w7 w8 : World} {b k : Nat} {S : Int} {v v8 : Value} {o : Obj} {z : ByteArray} {xs : List ByteArray} (HI : WrI l w0 b k S v wr) (x : Pay) (hx : l[k]? = some x)
    (hseen : Seen w2 b (k + 1) (x.1 :: ((l.take k).map (·.1)).reverse)) (hon : twice ((l.take (k + 1)).map (·.1)) = false) (hb2 : Below w0.heap.size w0 w2) (hbw : w0.heap.size ≤ b) (s7 : Below w2.heap.size w2 w7) (hz : L z = payLine x)
    (hxs : xs.map L = (l.take k).map payLine) (hT : Tabs w0) (ho7 : w7.ownsRow (b + 1) 9 1 v k (cellsL strC xs)) (ho : w8.ownsRow (b + 1) 9 1 v8 (k + 1) (cellsL strC xs ++ [.string z])) (hg : (w7.alloc o).grownBy w8 v.ownBlock) :
    WrI l w0 b (k + 1) (S + x.2.2.1) v8 w8 := by
  have hT' := take_snoc l k x hx
  have hlt := hseen.lt
  have hs7 := s7.size
  have hb8 : Below w0.heap.size w0 w8 := by
    refine ((hb2.trans (s7.mono hb2.size)).alloc ?_ o).grown hg ?_ ?_
    · exact Nat.le_trans hb2.size hs7
    · have := hb2.size; simp; omega
    · intro j hj; have := (ho7.lt j hj).1; omega
  refine ⟨?_, hon, ⟨xs ++ [z], ?_, ?_⟩, ?_, hb8, hT.below hb8⟩
  · rw [hT', List.map_append, List.reverse_append]
    refine hseen.same ?_
    rw [hg.block b (by simp; omega) (fun e => by have := (ho7.lt b e.symm).1; omega), Below.heap_alloc _ _ _ (by omega), s7.block b hlt]
  · rw [hT', List.map_append, List.map_append, hxs, List.map_cons, List.map_nil, hz]; rfl
  · rw [cellsL_snoc]; exact ho
  · rw [hT', List.map_append, List.map_cons, List.map_nil, sum_snoc, ← HI.sum]
theorem rd_pay {w : World} {A : Option Addr} {cap : Nat} {l : List Pay} (h : Rd payC 4 w (.slice A l.length cap) l) (k : Nat) (x : Pay) (hx : l[k]? = some x) :
    ∃ g o, A = some ⟨g, o, none⟩ ∧ g < w.heap.size ∧ w.cell? ⟨g, o + k * 4, none⟩ = some (.int .i64 x.1) ∧ w.cell? ⟨g, o + k * 4 + 1, none⟩ = some (str x.2.1) ∧ w.cell? ⟨g, o + k * 4 + 2, none⟩ = some (.int .i64 x.2.2.1) ∧ w.cell? ⟨g, o + k * 4 + 3, none⟩ = some (.int .i64 x.2.2.2) := by
  obtain ⟨A', cap', e, hc, _, hcell⟩ := h
  obtain ⟨rfl, rfl⟩ : A = A' ∧ cap = cap' := by injection e with e1 e2 e3; exact ⟨e1, e3⟩
  have hlt : k < l.length := (List.getElem?_eq_some_iff.1 hx).1
  obtain ⟨g, o, rfl, hg, hu⟩ := hcell (by omega)
  have ha := fun j u hj => cellsL_at payC 4 (fun _ => rfl) l k j x u hx hj
  refine ⟨g, o, rfl, hg, ?_, ?_, ?_, ?_⟩
  · exact hu _ _ (ha 0 _ rfl)
  · have := hu _ _ (ha 1 _ rfl); rw [← Nat.add_assoc] at this; exact this
  · have := hu _ _ (ha 2 _ rfl); rw [← Nat.add_assoc] at this; exact this
  · have := hu _ _ (ha 3 _ rfl); rw [← Nat.add_assoc] at this; exact this

set_option maxHeartbeats 8000000 in
set_option maxRecDepth 100000 in
theorem Write_any (v : Value) (l : List Pay) (w : World) (hT : Tabs w) (hR : Rd payC 4 w v l) (hA : ∀ p ∈ l, p.2.1.length ≤ 1000) (hlen : l.length ≤ 1000000) :
    Calls Tryz.prog 11 #[v] w (RetW (writeP l) w) := by
  have HR := Lib.hid hR
  have HA := Lib.hid hA
  clear hA
  obtain ⟨A, cap, rfl, hcap, _, _⟩ := hR
  by_cases h400 : 400 < l.length
  · have HW := Lib.hid (writeP_long l h400)
    go_enter Tryz.func11, Tryz.ntmps11
    go_wp2_with fail
    go_ret2
    exact RetW.mk (by rw [HW.out]) (by rw [HW.out]; rfl) (Below.refl _ _)
  have h4 : l.length ≤ 400 := by omega
  clear h400
  obtain ⟨i0, hi, hz0, hz1, hz2⟩ := info_parts Tryz.infoStr
  have hmm := @run_makeMap Tryz.prog
  go_enter Tryz.func11, Tryz.ntmps11
  go_wp2_with fail
  go_loopg [17] l.length (fun g i wx => ∃ k : Nat, k ≤ l.length ∧ g = l.length - k ∧ Hid ((l.take k).all payOk = true) ∧ Hid (Below w.heap.size w wx) ∧ i = .int .i64 k)
  case atStart => exact ⟨0, by omega, rfl, Lib.hid rfl, Lib.hid (Below.refl _ _), rfl⟩
  case round =>
    obtain ⟨k, hk, rfl, HK, HB, rfl⟩ := hrel
    have hsz := HB.out.size
    have HRw := Lib.hid (HR.out.below HB.out)
    by_cases hlt : k < l.length
    · obtain ⟨x, hx⟩ : ∃ x, l[k]? = some x := ⟨_, List.getElem?_eq_getElem hlt⟩
      obtain ⟨g, o, rfl, hg, c0, c1, c2, c3⟩ := rd_pay HRw.out k x hx
      have hxl := HA.out x (List.mem_of_getElem? hx)
      obtain ⟨id, ac, ct, dy⟩ := x
      obtain ⟨s, rfl⟩ : ∃ s : ByteArray, ac = L s := ⟨⟨ac.toArray⟩, rfl⟩
      simp only [str, mkL] at c0 c1 c2 c3 hxl
      rw [L_len] at hxl
      have HX := Lib.hid hx
      clear hx
      go_wp2_with fail
      refine (validPayment_any id s ct dy _ hxl).mono ?_
      rintro e w2 ⟨rfl, b2⟩
      have B2 : Hid (Below w.heap.size w w2) := Lib.hid (((HB.out).alloc hsz _).trans (b2.out.mono (by simp; omega)))
      clear b2
      cases hok : payOk (id, L s, ct, dy) with
      | false =>
        have HW := Lib.hid (writeP_bad l h4 (all_take l payOk k _ HX.out hok))
        clear hok
        go_wp2_with fail
        go_ret2
        exact RetW.mk (by rw [HW.out]) (by rw [HW.out]; rfl) B2.out
      | true =>
        have HK2 : Hid ((l.take (k + 1)).all payOk = true) := Lib.hid (by rw [take_snoc l k _ HX.out, List.all_append, HK.out]; simp [hok])
        clear hok
        go_wp2_with fail
        go_roundg (l.length - (k + 1))
        case measure => omega
        case rel => exact ⟨k + 1, by omega, by omega, HK2, B2, by go_num⟩
    · have HAll : Hid (l.all payOk = true) := Lib.hid (by rw [← HK.out, List.take_of_length_le (by omega)])
      clear HK
      go_wp2_with fail
      obtain ⟨wm, rfl⟩ : ∃ wm : World, wm = wr := ⟨_, rfl⟩
      have hsz := HB.out.size
      go_loopg [7, 8, 28] l.length (fun g v7 v8 i wx => ∃ (k : Nat) (S : Int), k ≤ l.length ∧ g = l.length - k ∧ 0 ≤ S ∧ S ≤ (k : Int) * 1000000000000 ∧ Hid (WrI l w wm.heap.size k S v7 wx) ∧ i = .int .i64 k ∧ v8 = .int .i64 S)
      case atStart =>
        refine ⟨0, 0, by omega, rfl, by omega, by omega, Lib.hid ?_, rfl, rfl⟩
        exact ⟨Seen.made _, rfl, ⟨[], rfl, World.ownsRow_nil _ _ _ _⟩, rfl, HB.out.alloc hsz _, (hT.below HB.out).alloc _⟩
      case round =>
        obtain ⟨k, S, hk, rfl, hS0, hS1, HI, rfl, rfl⟩ := hrel
        have hbz := HI.out.seen.lt
        have hsz2 := HI.out.bel.size
        by_cases hlt : k < l.length
        · obtain ⟨x, hx⟩ : ∃ x, l[k]? = some x := ⟨_, List.getElem?_eq_getElem hlt⟩
          obtain ⟨g, o, rfl, hg, c0, c1, c2, c3⟩ := rd_pay (HR.out.below HI.out.bel) k x hx
          have hok : payOk x = true := List.all_eq_true.1 HAll.out x (List.mem_of_getElem? hx)
          obtain ⟨⟨o1, o2⟩, hn, ⟨o3, o4⟩, hdy⟩ := payOk_parts hok
          obtain ⟨o5, o6⟩ := of_decide_eq_true hdy
          have hnl := isName_len _ hn
          have hal := account_len _ hnl
          obtain ⟨id, ac, ct, dy⟩ := x
          obtain ⟨s, rfl⟩ : ∃ s : ByteArray, ac = L s := ⟨⟨ac.toArray⟩, rfl⟩
          simp only [str, mkL] at c0 c1 c2 c3 o1 o2 o3 o4 o5 o6 hn hnl hal
          rw [L_len] at hnl
          have HX := Lib.hid hx
          clear hx hok hn hdy
          have HT : Hid (l.take (k + 1) = l.take k ++ [(id, L s, ct, dy)]) := Lib.hid (take_snoc l k _ HX.out)
          have HSe : Hid (Seen (wr.alloc (.cells #[.int .i64 id, .string s, .int .i64 ct, .int .i64 dy] 27)) wm.heap.size k ((l.take k).map (·.1)).reverse) := Lib.hid (HI.out.seen.same (Below.heap_alloc _ _ _ hbz))
          have hwf := wf_small id o1 o2
          have hlook := HSe.out.look id hwf
          cases hct : ((l.take k).map (·.1)).reverse.contains id with
          | true =>
            have HW := Lib.hid (writeP_twice l h4 HAll.out (by
              refine twice_take _ (k + 1) ?_
              rw [← List.map_take, HT.out, List.map_append, List.map_cons, List.map_nil, twice_snoc, ← List.contains_reverse, hct, Bool.or_true]))
            rw [hct] at hlook
            clear hct
            go_wp2_with fail
            go_ret2
            exact RetW.mk (by rw [HW.out]) (by rw [HW.out]; rfl) (HI.out.bel.alloc (by omega) _)
          | false =>
            rw [hct] at hlook
            have HON : Hid (twice ((l.take (k + 1)).map (·.1)) = false) := Lib.hid (by
              rw [HT.out, List.map_append, List.map_cons, List.map_nil, twice_snoc, ← List.contains_reverse, hct, HI.out.once]; rfl)
            clear hct
            obtain ⟨w2, hput, hseen2, hgrow2⟩ := HSe.out.put id hwf (by unfold maxLen; omega)
            have hz2' := hgrow2.size
            have hbl : wr.heap.size < w2.heap.size := by have := hgrow2.size; simp at this; omega
            have hrow : w2.heap[wr.heap.size]? = some (.cells #[.int .i64 id, .string s, .int .i64 ct, .int .i64 dy] 27 (0, 0)) := by
              rw [hgrow2.block _ (by simp) (by intro e; injection e with e; omega)]
              exact heap_new _ _ _
            have d0 : w2.cell? ⟨wr.heap.size, 0, none⟩ = some (.int .i64 id) := by rw [cell_row hrow]; rfl
            have d1 : w2.cell? ⟨wr.heap.size, 1, none⟩ = some (.string s) := by rw [cell_row hrow]; rfl
            have d2 : w2.cell? ⟨wr.heap.size, 2, none⟩ = some (.int .i64 ct) := by rw [cell_row hrow]; rfl
            have d3 : w2.cell? ⟨wr.heap.size, 3, none⟩ = some (.int .i64 dy) := by rw [cell_row hrow]; rfl
            have HS2 := Lib.hid hseen2
            have HG2 := Lib.hid hgrow2
            have HB2 : Hid (Below w.heap.size w w2) := Lib.hid ((HI.out.bel.alloc (by omega) _).grown hgrow2 (by simp; omega) (by intro j hj; injection hj with hj; omega))
            have hT2 : Tabs w2 := hT.below HB2.out
            have HROW := Lib.hid hrow
            clear hseen2 hgrow2 hrow
            go_wp2_with fail
            clear hput hlook
            refine wp_region_held_drew (S := (fun W => Below w2.heap.size w2 W)) (by kernel_rfl) (Below.refl _ _).drew (fun hHeld => ?_)
            refine takeL (i := 0) (v := ?_) rfl (by kernel_rfl) (by kernel_rfl) (by kernel_rfl) (fun _ _ _ h => h) (Or.inl ⟨by rfl, ?_⟩) hHeld ?_
            rotate_left
            · intro wS hSw; go_simp; try with_reducible rfl
            try simp only [Act.put, List.setIfInBounds_toArray, List.set_cons_zero, List.set_cons_succ]
            refine takeL (i := 1) (v := ?_) rfl (by kernel_rfl) (by kernel_rfl) (by kernel_rfl) (fun _ _ _ h => h) (Or.inl ⟨by rfl, ?_⟩) hHeld ?_
            rotate_left
            · intro wS hSw; have c := (hSw.cell (p := ⟨wr.heap.size, 0, none⟩) hbl).trans d0; go_simp; try with_reducible rfl
            try simp only [Act.put, List.setIfInBounds_toArray, List.set_cons_zero, List.set_cons_succ]
            refine takeL (i := 3) (v := ?_) rfl (by kernel_rfl) (by kernel_rfl) (by kernel_rfl) (fun _ _ _ h => h) (Or.inl ⟨by rfl, ?_⟩) hHeld ?_
            rotate_left
            · intro wS hSw; go_simp; try with_reducible rfl
            try simp only [Act.put, List.setIfInBounds_toArray, List.set_cons_zero, List.set_cons_succ]
            refine takeL (i := 4) (v := ?_) rfl (by kernel_rfl) (by kernel_rfl) (by kernel_rfl) (fun _ _ _ h => h) (Or.inl ⟨by rfl, ?_⟩) hHeld ?_
            rotate_left
            · intro wS hSw; have c := (hSw.cell (p := ⟨wr.heap.size, 1, none⟩) hbl).trans d1; go_simp; try with_reducible rfl
            try simp only [Act.put, List.setIfInBounds_toArray, List.set_cons_zero, List.set_cons_succ]
            refine takeL (i := 6) (v := ?_) rfl (by kernel_rfl) (by kernel_rfl) (by kernel_rfl) (fun _ _ _ h => h) (Or.inl ⟨by rfl, ?_⟩) hHeld ?_
            rotate_left
            · intro wS hSw; go_simp; try with_reducible rfl
            try simp only [Act.put, List.setIfInBounds_toArray, List.set_cons_zero, List.set_cons_succ]
            refine takeL (i := 7) (v := ?_) rfl (by kernel_rfl) (by kernel_rfl) (by kernel_rfl) (fun _ _ _ h => h) (Or.inl ⟨by rfl, ?_⟩) hHeld ?_
            rotate_left
            · intro wS hSw; have c := (hSw.cell (p := ⟨wr.heap.size, 2, none⟩) hbl).trans d2; go_simp; try with_reducible rfl
            try simp only [Act.put, List.setIfInBounds_toArray, List.set_cons_zero, List.set_cons_succ]
            refine takeL (i := 9) (v := ?_) rfl (by kernel_rfl) (by kernel_rfl) (by kernel_rfl) (fun _ _ _ h => h) (Or.inl ⟨by rfl, ?_⟩) hHeld ?_
            rotate_left
            · intro wS hSw; go_simp; try with_reducible rfl
            try simp only [Act.put, List.setIfInBounds_toArray, List.set_cons_zero, List.set_cons_succ]
            refine takeL (i := 10) (v := ?_) rfl (by kernel_rfl) (by kernel_rfl) (by kernel_rfl) (fun _ _ _ h => h) (Or.inl ⟨by rfl, ?_⟩) hHeld ?_
            rotate_left
            · intro wS hSw; have c := (hSw.cell (p := ⟨wr.heap.size, 3, none⟩) hbl).trans d3; go_simp; try with_reducible rfl
            try simp only [Act.put, List.setIfInBounds_toArray, List.set_cons_zero, List.set_cons_succ]
            refine readyL (i := 2) (by kernel_rfl) rfl (fun K hK => ?_)
            go_simp
            refine (itoa_any _ _ (hT2.below hHeld) (by omega) (by omega)).mono ?_
            rintro e w3 ⟨z0, rfl, Z0, b3⟩
            have s3 : Below w2.heap.size w2 w3 := Below.trans hHeld (b3.out.mono (Below.size hHeld))
            clear b3
            go_wp2_with fail
            refine hK.out _ _ s3 (fun _ => ?_)
            clear hK K
            try simp only [Act.put, List.setIfInBounds_toArray, List.set_cons_zero, List.set_cons_succ]
            refine readyL (i := 5) (by kernel_rfl) rfl (fun K hK => ?_)
            go_simp
            refine (account_any _ _ (hT2.below s3) (by omega)).mono ?_
            rintro e w4 ⟨z1, rfl, Z1, b4⟩
            have s4 : Below w2.heap.size w2 w4 := Below.trans s3 (b4.out.mono (Below.size s3))
            clear b4
            go_wp2_with fail
            refine hK.out _ _ s4 (fun _ => ?_)
            clear hK K
            try simp only [Act.put, List.setIfInBounds_toArray, List.set_cons_zero, List.set_cons_succ]
            refine readyL (i := 8) (by kernel_rfl) rfl (fun K hK => ?_)
            go_simp
            refine (itoa_any _ _ (hT2.below s4) (by omega) (by omega)).mono ?_
            rintro e w5 ⟨z2, rfl, Z2, b5⟩
            have s5 : Below w2.heap.size w2 w5 := Below.trans s4 (b5.out.mono (Below.size s4))
            clear b5
            go_wp2_with fail
            refine hK.out _ _ s5 (fun _ => ?_)
            clear hK K
            try simp only [Act.put, List.setIfInBounds_toArray, List.set_cons_zero, List.set_cons_succ]
            refine readyL (i := 11) (by kernel_rfl) rfl (fun K hK => ?_)
            go_simp
            refine (Text_any _ _ (hT2.below s5) (by omega) (by omega)).mono ?_
            rintro e w6 ⟨z3, rfl, Z3, b6⟩
            have s6 : Below w2.heap.size w2 w6 := Below.trans s5 (b6.out.mono (Below.size s5))
            clear b6
            go_wp2_with fail
            refine hK.out _ _ s6 (fun _ => ?_)
            clear hK K
            try simp only [Act.put, List.setIfInBounds_toArray, List.set_cons_zero, List.set_cons_succ]
            refine readyL (i := 12) (by kernel_rfl) rfl (fun K hK => ?_)
            go_simp
            refine hK.out _ _ (s6.alloc s6.size _) (fun _ => ?_)
            clear hK K
            try simp only [Act.put, List.setIfInBounds_toArray, List.set_cons_zero, List.set_cons_succ]
            refine readyL (i := 13) (by kernel_rfl) rfl (fun K hK => ?_)
            go_simp
            refine hK.out _ _ (s6.alloc s6.size _) (fun _ => ?_)
            clear hK K
            try simp only [Act.put, List.setIfInBounds_toArray, List.set_cons_zero, List.set_cons_succ]
            refine wpAnyH_done (by kernel_rfl) ?_ _
            have HJ : Hid (Lib.join ([z0, z1, z2, z3].map L) [32] = payLine (id, L s, ct, dy)) := Lib.hid (by
              show Lib.join [L z0, L z1, L z2, L z3] [32] = _
              rw [pay_join, Z0.out, Z1.out, Z2.out, Z3.out]; rfl)
            have hs6 := s6.size
            obtain ⟨xs, hxs, hown⟩ := HI.out.rows
            have HXS := Lib.hid hxs
            have HO := Lib.hid hown
            clear hxs hown
            have HO2 : Hid (w2.ownsRow (wm.heap.size + 1) 9 1 u7 k (cellsL strC xs)) := Lib.hid ((HO.out.alloc _).kept HG2.out (Or.inr (fun e => by have := (HO.out.lt _ e).1; omega)))
            have HNE : Hid (u7.ownBlock ≠ some wr.heap.size) := Lib.hid (fun e => by have := (HO.out.lt _ e).2; omega)
            go_wp2_with fail
            refine (join_any _ [z0, z1, z2, z3] { data := #[32] } _ (rd_new w6 [z0, z1, z2, z3] _ _ rfl 4 rfl) (by simp) (by show (Lib.join ([z0, z1, z2, z3].map L) [32]).length ≤ _; rw [HJ.out]; have := payLine_len _ (List.all_eq_true.1 HAll.out _ (List.mem_of_getElem? HX.out)); omega)).mono ?_
            rintro e w7 ⟨z4, rfl, Z4, b7⟩
            have s7 : Below w2.heap.size w2 w7 := (s6.alloc s6.size _).trans (b7.out.mono (by simp; omega))
            clear b7
            have hs7 := s7.size
            have HO7 := Lib.hid (own_below HO2.out s7)
            go_wp2_with (at_builtin; refine wpList_append_own _ rfl _ _ 59 rfl (wm.heap.size + 1) 9 i0 _ 1 16 Tryz.underlying59 hi hz0 hz1 hz2 rfl (by decide) _ _ _ rfl (HO7.out.alloc _) ⟨w7.heap.size, 0, none⟩ 1 1 [.string z4] rfl rfl (cells_new w7 #[.string z4] _) (by simp [Value.oneCell']) (by unfold maxLen; omega) (by omega) (by simp; omega) ?_; intro v8 w8 hown8 hgrow8 _; have d8 : w8.cell? ⟨wr.heap.size, 2, none⟩ = some (.int .i64 ct) := by (rw [cell_row ((hgrow8.block wr.heap.size (by simp; omega) (fun e => HNE.out e.symm)).trans ((Below.heap_alloc _ _ _ (by omega)).trans ((s7.block _ (by omega)).trans HROW.out)))]; rfl))
            have HO8 := Lib.hid hown8
            have HG8 := Lib.hid hgrow8
            clear hown8 hgrow8
            go_wp2_with fail
            go_roundg (l.length - (k + 1))
            case measure => omega
            case rel =>
              refine ⟨k + 1, S + ct, by omega, by omega, by omega, by omega, Lib.hid ?_, by go_num, rfl⟩
              exact HI.out.next _ HX.out HS2.out HON.out HB2.out (by omega) s7 (by rw [Z4.out]; exact HJ.out) HXS.out hT HO7.out HO8.out HG8.out
        · have HTk : Hid (l.take k = l) := Lib.hid (List.take_of_length_le (by omega))
          have HW := Lib.hid (writeP_good l h4 HAll.out (by have := HI.out.once; rw [HTk.out] at this; exact this))
          have HSum : Hid (S = (l.map (fun p : Pay => p.2.2.1)).sum) := Lib.hid (by have := HI.out.sum; rw [HTk.out] at this; exact this)
          obtain ⟨xs, hxs, hown⟩ := HI.out.rows
          rw [HTk.out] at hxs
          have hxl : xs.length = l.length := by have := congrArg List.length hxs; simpa using this
          have hkl : k = xs.length := by omega
          have HRD : Hid (Rd strC 1 wr u7 xs) := Lib.hid (by have := Row.of_own hown; rw [hkl] at this; exact this)
          have hjl : (Lib.join (xs.map L) [10]).length ≤ 1000000 := by
            have := join_len (xs.map L) 200 (by
              intro y hy
              rw [hxs] at hy
              obtain ⟨p, hp, rfl⟩ := List.mem_map.1 hy
              exact payLine_len p (List.all_eq_true.1 HAll.out p hp))
            rw [List.length_map] at this
            omega
          have hx4 : xs.length ≤ 400 := by omega
          have HXS := Lib.hid hxs
          clear hxs hown hxl hkl
          go_wp2_with fail
          refine (file_any _ u7 xs S _ HI.out.tabs HRD.out (by decide) hx4 hjl (by omega) (by omega)).mono ?_
          rintro e w9 ⟨z, rfl, HZ, b9⟩
          have B9 : Hid (Below w.heap.size w w9) := Lib.hid (HI.out.bel.trans (b9.out.mono HI.out.bel.size))
          clear b9
          go_wp2_with fail
          go_ret2
          refine RetW.mk ?_ (by rw [HW.out]; rfl) B9.out
          rw [HZ.out, HW.out, HXS.out, HSum.out]
          rfl
end Go.Proofs.YtibgibjmpcajkaaGreatDoor
