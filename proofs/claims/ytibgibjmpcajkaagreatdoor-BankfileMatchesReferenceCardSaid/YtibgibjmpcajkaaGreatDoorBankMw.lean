/- The walks of the reference's Write and WriteAnswers. -/
import Derived.Test.YtibgibjmpcajkaaGreatDoorBankMc
import Derived.Test.YtibgibjmpcajkaaGreatDoorBankWa
import Derived.Test.YtibgibjmpcajkaaGreatDoorBankI
namespace Go.Proofs.YtibgibjmpcajkaaGreatDoor
open Go.RowKit BankS
theorem sum_bd {S : Int} {c m : Nat} (h1 : S ≤ (m : Int) * 1000000000000) (h2 : (c : Int) ≤ 1000000000000) : S + (c : Int) ≤ ((m + 1 : Nat) : Int) * 1000000000000 := by omega
theorem size_b (c : UInt8) : ({ data := #[c] } : ByteArray).size = 1 := rfl
theorem L_b (c : UInt8) : L { data := #[c] } = [c] := rfl
theorem seps_one (x : UInt8) (l : Bs) : seps x [l] = l ++ [x] := by rw [seps_cons, seps_nil]
theorem beq_contains (l : List Int) (y id : Int) : (l ++ [y]).contains id = (l.contains id || (y == id)) := by
  rw [Bool.eq_iff_iff, List.contains_iff_mem, List.mem_append, List.mem_singleton, Bool.or_eq_true, List.contains_iff_mem, beq_iff_eq]
  constructor
  · rintro (h | h)
    · exact Or.inl h
    · exact Or.inr h.symm
  · rintro (h | h)
    · exact Or.inl h
    · exact Or.inr h.symm
set_option maxHeartbeats 16000000 in
set_option maxRecDepth 100000 in
theorem rWrite_any (v : Value) (l : List Pay) (w : World) (hR : Rd payC 4 w v l) (hA : ∀ p ∈ l, p.2.1.length ≤ 100000) (hlen : l.length ≤ 1000000) :
    Calls Tryz.prog 12 #[v] w (RetW (writeP l) w) := by
  have HR := Lib.hid hR
  have HA := Lib.hid hA
  clear hA
  obtain ⟨A, cap, rfl, hcap, _, _⟩ := hR
  by_cases h400 : 400 < l.length
  · have HW := Lib.hid (writeP_long l h400)
    go_enter Tryz.func12, Tryz.ntmps12
    go_wp2_with fail
    go_ret2
    exact RetW.mk (by rw [HW.out]) (by rw [HW.out]; rfl) (Below.refl _ _)
  have h4 : l.length ≤ 400 := by omega
  clear h400
  go_enter Tryz.func12, Tryz.ntmps12
  go_wp2_with fail
  refine (rNumber_any l.length 1 _ (by omega) (by omega) (by omega)).mono ?_
  rintro e w1 ⟨s0, rfl, z0, H0, B0⟩
  go_wp2_with fail
  go_loopg [4, 5, 6, 7] l.length (fun g v4 v5 v6 i wx => ∃ (k : Nat) (S : Int) (s : ByteArray) (tw : Bool), k ≤ l.length ∧ g = l.length - k ∧ 0 ≤ S ∧ S ≤ (k : Int) * 1000000000000 ∧ s.size ≤ 40 + k * 300 ∧ Hid ((l.take k).all payOk = true) ∧ Hid (tw = twice ((l.take k).map (·.1))) ∧ Hid (S = ((l.take k).map (fun p : Pay => p.2.2.1)).sum) ∧ Hid (L s = seps 10 (headL payW l.length :: (l.take k).map payLine)) ∧ Hid (Below w.heap.size w wx) ∧ v4 = .string s ∧ v5 = .int .i64 S ∧ v6 = .bool tw ∧ i = .int .i64 k)
  case atStart =>
    refine ⟨0, 0, _, false, by omega, rfl, by omega, by omega, ?_, Lib.hid rfl, Lib.hid rfl, Lib.hid rfl, Lib.hid ?_, B0, rfl, rfl, rfl, rfl⟩
    · rw [ByteArray.size_append, ByteArray.size_append]; show 9 + s0.size + 1 ≤ _; omega
    · rw [L_app, L_app, H0.out, pad_dec, List.take_zero, List.map_nil, seps_one]
      unfold headL
      rfl
  case round =>
    obtain ⟨k, S, s, tw, hk, rfl, hS0, hS1, hsl, HK, HT, HS, HL, HB, rfl, rfl, rfl, rfl⟩ := hrel
    rename World => wo
    have hsz := HB.out.size
    have HRw := Lib.hid (HR.out.below HB.out)
    by_cases hlt : k < l.length
    · obtain ⟨x, hx⟩ : ∃ x, l[k]? = some x := ⟨_, List.getElem?_eq_getElem hlt⟩
      obtain ⟨g, o, rfl, hg, c0, c1, c2, c3⟩ := rd_pay HRw.out k x hx
      have hxl := HA.out x (List.mem_of_getElem? hx)
      obtain ⟨id, ac, ct, dy⟩ := x
      obtain ⟨s2, rfl⟩ : ∃ s : ByteArray, ac = L s := ⟨⟨ac.toArray⟩, rfl⟩
      simp only [str, mkL] at c0 c1 c2 c3 hxl
      rw [L_len] at hxl
      have HX := Lib.hid hx
      clear hx
      go_wp2_with fail
      refine (rPayment_any id s2 ct dy _ (by omega)).mono ?_
      rintro e w2 ⟨rfl, b2⟩
      have PC : ∀ (j : Nat) (u : Value), ([.int .i64 id, .string s2, .int .i64 ct, .int .i64 dy] : List Value)[j]? = some u → w2.cell? ⟨wo.heap.size, j, none⟩ = some u := fun j u h => (b2.out.cell (p := ⟨wo.heap.size, j, none⟩) (by simp)).trans (by rw [cell_row (heap_new wo #[.int .i64 id, .string s2, .int .i64 ct, .int .i64 dy] 27)]; simpa using h)
      have q0 := PC 0 _ rfl
      have q1 := PC 1 _ rfl
      have q2 := PC 2 _ rfl
      have q3 := PC 3 _ rfl
      have lt2 : wo.heap.size < w2.heap.size := Nat.lt_of_lt_of_le (by simp) b2.out.size
      have bo : Hid (Below wo.heap.size wo w2) := Lib.hid (((Below.refl _ _).alloc (Nat.le_refl _) _).trans (b2.out.mono (by simp)))
      have B2 : Hid (Below w.heap.size w w2) := Lib.hid (HB.out.trans (bo.out.mono hsz))
      clear b2 PC
      cases hok : payOk (id, L s2, ct, dy) with
      | false =>
        have HW := Lib.hid (writeP_bad l h4 (all_take l payOk k _ HX.out hok))
        clear hok
        go_wp2_with fail
        go_ret2
        exact RetW.mk (by rw [HW.out]) (by rw [HW.out]; rfl) B2.out
      | true =>
        have HK2 : Hid ((l.take (k + 1)).all payOk = true) := Lib.hid (by rw [take_snoc l k _ HX.out, List.all_append, HK.out]; simp [hok])
        obtain ⟨⟨o1, o2⟩, hn, ⟨o3, o4⟩, hdy⟩ := payOk_parts hok
        obtain ⟨o5, o6⟩ := of_decide_eq_true hdy
        have hnl := isName_len _ hn
        simp only at o1 o2 o3 o4 o5 o6 hn hnl
        rw [L_len] at hnl
        have HNm : Hid ((L s2).all nameB = true) := Lib.hid (by
          cases hq : L s2 with
          | nil => rfl
          | cons a b => rw [hq] at hn; unfold isName at hn; simp only [Bool.and_eq_true] at hn; exact hn.2)
        clear hn hdy hok HK c1 c2 c3
        go_wp2_with fail
        go_loopg [6, 10] k (fun g2 v6 j wy => ∃ (m : Nat) (t2 : Bool), m ≤ k ∧ g2 = k - m ∧ Hid (t2 = (tw || ((l.take m).map (·.1)).contains id)) ∧ Hid (Below w2.heap.size w2 wy) ∧ v6 = .bool t2 ∧ j = .int .i64 m)
        case atStart => exact ⟨0, tw, by omega, rfl, Lib.hid (by simp), Lib.hid (Below.refl _ _), rfl, rfl⟩
        case round =>
          obtain ⟨m, t2, hm, rfl, HT2, HB2, rfl, rfl⟩ := hrel
          rename World => wz
          have hz2 := HB2.out.size
          by_cases hlm : m < k
          · obtain ⟨y, hy⟩ : ∃ y, l[m]? = some y := ⟨_, List.getElem?_eq_getElem (by omega)⟩
            obtain ⟨g', o', eA, hg', cm, _⟩ := rd_pay HRw.out m y hy
            injection eA with eA
            injection eA with eA1 eA2
            subst eA1 eA2
            have cmz : wz.cell? ⟨g, o + m * 4, none⟩ = some (.int .i64 y.1) := ((HB2.out.cell (p := ⟨g, o + m * 4, none⟩) (by show g < _; omega)).trans (bo.out.cell (p := ⟨g, o + m * 4, none⟩) hg)).trans cm
            have qz : wz.cell? ⟨wo.heap.size, 0, none⟩ = some (.int .i64 id) := (HB2.out.cell (p := ⟨wo.heap.size, 0, none⟩) lt2).trans q0
            have HY : Hid ((l.take (m + 1)).map (·.1) = (l.take m).map (·.1) ++ [y.1]) := Lib.hid (by rw [take_snoc l m y hy, List.map_append]; rfl)
            obtain ⟨yk, hyk⟩ : ∃ yk, yk = y.1 := ⟨_, rfl⟩
            rw [← hyk] at cmz HY
            clear hyk hy cm
            have gz : g < wz.heap.size := by omega
            have oz : wo.heap.size < wz.heap.size := by omega
            cases t2 with
            | true =>
              have HN : Hid (true = (tw || ((l.take (m + 1)).map (·.1)).contains id)) := Lib.hid (by rw [HY.out, beq_contains, ← Bool.or_assoc, ← HT2.out]; rfl)
              go_wp2_with fail
              refine wp_region_held_drew (S := (fun W => Below wz.heap.size wz W)) (by kernel_rfl) ((Below.refl _ _).drew) (fun hHeld => ?_)
              refine takeL (i := 0) (v := ?_) rfl (by kernel_rfl) (by kernel_rfl) (by kernel_rfl) (fun _ _ _ h => h) (Or.inl ⟨by rfl, ?_⟩) hHeld ?_
              rotate_left
              · intro wS hSw; go_simp; try with_reducible rfl
              try simp only [Act.put, List.setIfInBounds_toArray, List.set_cons_zero, List.set_cons_succ]
              refine takeL (i := 1) (v := ?_) rfl (by kernel_rfl) (by kernel_rfl) (by kernel_rfl) (fun _ _ _ h => h) (Or.inl ⟨by rfl, ?_⟩) hHeld ?_
              rotate_left
              · intro wS hSw; go_simp; try with_reducible rfl
              try simp only [Act.put, List.setIfInBounds_toArray, List.set_cons_zero, List.set_cons_succ]
              refine takeL (i := 2) (v := undef) rfl (by kernel_rfl) (by kernel_rfl) (by kernel_rfl) (fun _ _ _ h => h) (Or.inr ⟨by rfl, rfl⟩) hHeld ?_
              try simp only [Act.put, List.setIfInBounds_toArray, List.set_cons_zero, List.set_cons_succ]
              refine takeL (i := 3) (v := undef) rfl (by kernel_rfl) (by kernel_rfl) (by kernel_rfl) (fun _ _ _ h => h) (Or.inr ⟨by rfl, rfl⟩) hHeld ?_
              try simp only [Act.put, List.setIfInBounds_toArray, List.set_cons_zero, List.set_cons_succ]
              refine takeL (i := 4) (v := undef) rfl (by kernel_rfl) (by kernel_rfl) (by kernel_rfl) (fun _ _ _ h => h) (Or.inr ⟨by rfl, rfl⟩) hHeld ?_
              try simp only [Act.put, List.setIfInBounds_toArray, List.set_cons_zero, List.set_cons_succ]
              refine takeL (i := 5) (v := undef) rfl (by kernel_rfl) (by kernel_rfl) (by kernel_rfl) (fun _ _ _ h => h) (Or.inr ⟨by rfl, rfl⟩) hHeld ?_
              try simp only [Act.put, List.setIfInBounds_toArray, List.set_cons_zero, List.set_cons_succ]
              refine takeL (i := 6) (v := undef) rfl (by kernel_rfl) (by kernel_rfl) (by kernel_rfl) (fun _ _ _ h => h) (Or.inr ⟨by rfl, rfl⟩) hHeld ?_
              try simp only [Act.put, List.setIfInBounds_toArray, List.set_cons_zero, List.set_cons_succ]
              refine takeL (i := 7) (v := undef) rfl (by kernel_rfl) (by kernel_rfl) (by kernel_rfl) (fun _ _ _ h => h) (Or.inr ⟨by rfl, rfl⟩) hHeld ?_
              try simp only [Act.put, List.setIfInBounds_toArray, List.set_cons_zero, List.set_cons_succ]
              refine takeL (i := 8) (v := undef) rfl (by kernel_rfl) (by kernel_rfl) (by kernel_rfl) (fun _ _ _ h => h) (Or.inr ⟨by rfl, rfl⟩) hHeld ?_
              try simp only [Act.put, List.setIfInBounds_toArray, List.set_cons_zero, List.set_cons_succ]
              refine takeL (i := 9) (v := undef) rfl (by kernel_rfl) (by kernel_rfl) (by kernel_rfl) (fun _ _ _ h => h) (Or.inr ⟨by rfl, rfl⟩) hHeld ?_
              try simp only [Act.put, List.setIfInBounds_toArray, List.set_cons_zero, List.set_cons_succ]
              refine takeL (i := 10) (v := ?_) rfl (by kernel_rfl) (by kernel_rfl) (by kernel_rfl) (fun _ _ _ h => h) (Or.inl ⟨by rfl, ?_⟩) hHeld ?_
              rotate_left
              · intro wS hSw; go_simp; try with_reducible rfl
              try simp only [Act.put, List.setIfInBounds_toArray, List.set_cons_zero, List.set_cons_succ]
              refine takeL (i := 11) (v := ?_) rfl (by kernel_rfl) (by kernel_rfl) (by kernel_rfl) (fun _ _ _ h => h) (Or.inl ⟨by rfl, ?_⟩) hHeld ?_
              rotate_left
              · intro wS hSw; go_simp; try with_reducible rfl
              try simp only [Act.put, List.setIfInBounds_toArray, List.set_cons_zero, List.set_cons_succ]
              refine wpAnyH_done (by kernel_rfl) ?_ _
              go_wp2_with fail
              go_roundg (k - (m + 1))
              case measure => omega
              case rel => exact ⟨m + 1, true, by omega, rfl, HN, Lib.hid (HB2.out.drew), rfl, by go_num⟩
            | false =>
              have HN : Hid ((yk == id) = (tw || ((l.take (m + 1)).map (·.1)).contains id)) := Lib.hid (by rw [HY.out, beq_contains, ← Bool.or_assoc, ← HT2.out]; rfl)
              go_wp2_with fail
              refine wp_region_held_drew (S := (fun W => Below wz.heap.size wz W)) (by kernel_rfl) ((Below.refl _ _).drew) (fun hHeld => ?_)
              refine takeL (i := 0) (v := ?_) rfl (by kernel_rfl) (by kernel_rfl) (by kernel_rfl) (fun _ _ _ h => h) (Or.inl ⟨by rfl, ?_⟩) hHeld ?_
              rotate_left
              · intro wS hSw; go_simp; try with_reducible rfl
              try simp only [Act.put, List.setIfInBounds_toArray, List.set_cons_zero, List.set_cons_succ]
              refine takeL (i := 1) (v := ?_) rfl (by kernel_rfl) (by kernel_rfl) (by kernel_rfl) (fun _ _ _ h => h) (Or.inl ⟨by rfl, ?_⟩) hHeld ?_
              rotate_left
              · intro wS hSw; go_simp; try with_reducible rfl
              try simp only [Act.put, List.setIfInBounds_toArray, List.set_cons_zero, List.set_cons_succ]
              refine takeL (i := 2) (v := ?_) rfl (by kernel_rfl) (by kernel_rfl) (by kernel_rfl) (fun _ _ _ h => h) (Or.inl ⟨by rfl, ?_⟩) hHeld ?_
              rotate_left
              · intro wS hSw; go_simp; try with_reducible rfl
              try simp only [Act.put, List.setIfInBounds_toArray, List.set_cons_zero, List.set_cons_succ]
              refine takeL (i := 3) (v := ?_) rfl (by kernel_rfl) (by kernel_rfl) (by kernel_rfl) (fun _ _ _ h => h) (Or.inl ⟨by rfl, ?_⟩) hHeld ?_
              rotate_left
              · intro wS hSw; go_simp; try with_reducible rfl
              try simp only [Act.put, List.setIfInBounds_toArray, List.set_cons_zero, List.set_cons_succ]
              refine takeL (i := 4) (v := ?_) rfl (by kernel_rfl) (by kernel_rfl) (by kernel_rfl) (fun _ _ _ h => h) (Or.inl ⟨by rfl, ?_⟩) hHeld ?_
              rotate_left
              · intro wS hSw; have g1 : (m : Int) < (l.length : Int) := (by omega); go_simp; try with_reducible rfl
              try simp only [Act.put, List.setIfInBounds_toArray, List.set_cons_zero, List.set_cons_succ]
              refine takeL (i := 5) (v := ?_) rfl (by kernel_rfl) (by kernel_rfl) (by kernel_rfl) (fun _ _ _ h => h) (Or.inl ⟨by rfl, ?_⟩) hHeld ?_
              rotate_left
              · intro wS hSw; go_simp; try with_reducible rfl
              try simp only [Act.put, List.setIfInBounds_toArray, List.set_cons_zero, List.set_cons_succ]
              refine takeL (i := 6) (v := ?_) rfl (by kernel_rfl) (by kernel_rfl) (by kernel_rfl) (fun _ _ _ h => h) (Or.inl ⟨by rfl, ?_⟩) hHeld ?_
              rotate_left
              · intro wS hSw; have k1 := (hSw.cell (p := ⟨g, o + m * 4, none⟩) gz).trans cmz; go_simp; try with_reducible rfl
              try simp only [Act.put, List.setIfInBounds_toArray, List.set_cons_zero, List.set_cons_succ]
              refine takeL (i := 7) (v := ?_) rfl (by kernel_rfl) (by kernel_rfl) (by kernel_rfl) (fun _ _ _ h => h) (Or.inl ⟨by rfl, ?_⟩) hHeld ?_
              rotate_left
              · intro wS hSw; go_simp; try with_reducible rfl
              try simp only [Act.put, List.setIfInBounds_toArray, List.set_cons_zero, List.set_cons_succ]
              refine takeL (i := 8) (v := ?_) rfl (by kernel_rfl) (by kernel_rfl) (by kernel_rfl) (fun _ _ _ h => h) (Or.inl ⟨by rfl, ?_⟩) hHeld ?_
              rotate_left
              · intro wS hSw; have k1 := (hSw.cell (p := ⟨wo.heap.size, 0, none⟩) oz).trans qz; go_simp; try with_reducible rfl
              try simp only [Act.put, List.setIfInBounds_toArray, List.set_cons_zero, List.set_cons_succ]
              refine takeL (i := 9) (v := ?_) rfl (by kernel_rfl) (by kernel_rfl) (by kernel_rfl) (fun _ _ _ h => h) (Or.inl ⟨by rfl, ?_⟩) hHeld ?_
              rotate_left
              · intro wS hSw; go_simp; try with_reducible rfl
              try simp only [Act.put, List.setIfInBounds_toArray, List.set_cons_zero, List.set_cons_succ]
              refine takeL (i := 10) (v := ?_) rfl (by kernel_rfl) (by kernel_rfl) (by kernel_rfl) (fun _ _ _ h => h) (Or.inl ⟨by rfl, ?_⟩) hHeld ?_
              rotate_left
              · intro wS hSw; go_simp; try with_reducible rfl
              try simp only [Act.put, List.setIfInBounds_toArray, List.set_cons_zero, List.set_cons_succ]
              refine takeL (i := 11) (v := ?_) rfl (by kernel_rfl) (by kernel_rfl) (by kernel_rfl) (fun _ _ _ h => h) (Or.inl ⟨by rfl, ?_⟩) hHeld ?_
              rotate_left
              · intro wS hSw; go_simp; try with_reducible rfl
              try simp only [Act.put, List.setIfInBounds_toArray, List.set_cons_zero, List.set_cons_succ]
              refine wpAnyH_done (by kernel_rfl) ?_ _
              go_wp2_with fail
              go_roundg (k - (m + 1))
              case measure => omega
              case rel => exact ⟨m + 1, (yk == id), by omega, rfl, HN, Lib.hid (HB2.out.drew), rfl, by go_num⟩
          · obtain rfl : m = k := by omega
            have oz : wo.heap.size < wz.heap.size := by omega
            have p0 := (HB2.out.cell (p := ⟨wo.heap.size, 0, none⟩) lt2).trans q0
            have p1 := (HB2.out.cell (p := ⟨wo.heap.size, 1, none⟩) lt2).trans q1
            have p2 := (HB2.out.cell (p := ⟨wo.heap.size, 2, none⟩) lt2).trans q2
            have p3 := (HB2.out.cell (p := ⟨wo.heap.size, 3, none⟩) lt2).trans q3
            have Bz : Hid (Below w.heap.size w wz) := Lib.hid (B2.out.trans (HB2.out.mono (Below.size B2.out)))
            obtain ⟨ctn, rfl⟩ := Int.eq_ofNat_of_zero_le (Int.le_trans (by decide : (0 : Int) ≤ 1) o3)
            obtain ⟨idn, rfl⟩ := Int.eq_ofNat_of_zero_le o1
            obtain ⟨dyn, rfl⟩ := Int.eq_ofNat_of_zero_le o5
            clear q0 q1 q2 q3
            go_wp2_with fail
            refine wp_region_held_drew (S := (fun W => Below wz.heap.size wz W)) (by kernel_rfl) ((Below.refl _ _).drew) (fun hHeld => ?_)
            refine takeL (i := 0) (v := ?_) rfl (by kernel_rfl) (by kernel_rfl) (by kernel_rfl) (fun _ _ _ h => h) (Or.inl ⟨by rfl, ?_⟩) hHeld ?_
            rotate_left
            · intro wS hSw; go_simp; try with_reducible rfl
            try simp only [Act.put, List.setIfInBounds_toArray, List.set_cons_zero, List.set_cons_succ]
            refine takeL (i := 1) (v := ?_) rfl (by kernel_rfl) (by kernel_rfl) (by kernel_rfl) (fun _ _ _ h => h) (Or.inl ⟨by rfl, ?_⟩) hHeld ?_
            rotate_left
            · intro wS hSw; go_simp; try with_reducible rfl
            try simp only [Act.put, List.setIfInBounds_toArray, List.set_cons_zero, List.set_cons_succ]
            refine takeL (i := 2) (v := ?_) rfl (by kernel_rfl) (by kernel_rfl) (by kernel_rfl) (fun _ _ _ h => h) (Or.inl ⟨by rfl, ?_⟩) hHeld ?_
            rotate_left
            · intro wS hSw; have k1 := (hSw.cell (p := ⟨wo.heap.size, 0, none⟩) oz).trans p0; go_simp; try with_reducible rfl
            try simp only [Act.put, List.setIfInBounds_toArray, List.set_cons_zero, List.set_cons_succ]
            refine takeL (i := 6) (v := ?_) rfl (by kernel_rfl) (by kernel_rfl) (by kernel_rfl) (fun _ _ _ h => h) (Or.inl ⟨by rfl, ?_⟩) hHeld ?_
            rotate_left
            · intro wS hSw; go_simp; try with_reducible rfl
            try simp only [Act.put, List.setIfInBounds_toArray, List.set_cons_zero, List.set_cons_succ]
            refine takeL (i := 7) (v := ?_) rfl (by kernel_rfl) (by kernel_rfl) (by kernel_rfl) (fun _ _ _ h => h) (Or.inl ⟨by rfl, ?_⟩) hHeld ?_
            rotate_left
            · intro wS hSw; have k1 := (hSw.cell (p := ⟨wo.heap.size, 1, none⟩) oz).trans p1; go_simp; try with_reducible rfl
            try simp only [Act.put, List.setIfInBounds_toArray, List.set_cons_zero, List.set_cons_succ]
            refine takeL (i := 11) (v := ?_) rfl (by kernel_rfl) (by kernel_rfl) (by kernel_rfl) (fun _ _ _ h => h) (Or.inl ⟨by rfl, ?_⟩) hHeld ?_
            rotate_left
            · intro wS hSw; go_simp; try with_reducible rfl
            try simp only [Act.put, List.setIfInBounds_toArray, List.set_cons_zero, List.set_cons_succ]
            refine takeL (i := 12) (v := ?_) rfl (by kernel_rfl) (by kernel_rfl) (by kernel_rfl) (fun _ _ _ h => h) (Or.inl ⟨by rfl, ?_⟩) hHeld ?_
            rotate_left
            · intro wS hSw; have k1 := (hSw.cell (p := ⟨wo.heap.size, 2, none⟩) oz).trans p2; go_simp; try with_reducible rfl
            try simp only [Act.put, List.setIfInBounds_toArray, List.set_cons_zero, List.set_cons_succ]
            refine takeL (i := 16) (v := ?_) rfl (by kernel_rfl) (by kernel_rfl) (by kernel_rfl) (fun _ _ _ h => h) (Or.inl ⟨by rfl, ?_⟩) hHeld ?_
            rotate_left
            · intro wS hSw; go_simp; try with_reducible rfl
            try simp only [Act.put, List.setIfInBounds_toArray, List.set_cons_zero, List.set_cons_succ]
            refine takeL (i := 17) (v := ?_) rfl (by kernel_rfl) (by kernel_rfl) (by kernel_rfl) (fun _ _ _ h => h) (Or.inl ⟨by rfl, ?_⟩) hHeld ?_
            rotate_left
            · intro wS hSw; have k1 := (hSw.cell (p := ⟨wo.heap.size, 3, none⟩) oz).trans p3; go_simp; try with_reducible rfl
            try simp only [Act.put, List.setIfInBounds_toArray, List.set_cons_zero, List.set_cons_succ]
            refine readyL (i := 3) (by kernel_rfl) rfl (fun K hK => ?_)
            go_simp
            refine (rNumber_any idn 1 _ (by omega) (by omega) (by omega)).mono ?_
            rintro e y0 ⟨n1, rfl, zn1, Hn1, d0⟩
            have r0 : Below wz.heap.size wz y0 := Below.trans hHeld (d0.out.mono (Below.size hHeld))
            go_wp2_with fail
            refine hK.out _ _ r0 (fun _ => ?_)
            clear hK K
            try simp only [Act.put, List.setIfInBounds_toArray, List.set_cons_zero, List.set_cons_succ]
            refine takeL (i := 4) (v := ?_) rfl (by kernel_rfl) (by kernel_rfl) (by kernel_rfl) (fun _ _ _ h => h) (Or.inl ⟨by rfl, ?_⟩) r0 ?_
            rotate_left
            · intro wS hSw; have g1 : ¬ 9223372036854775807 < s.size + n1.size := (by omega); go_simp; try with_reducible rfl
            try simp only [Act.put, List.setIfInBounds_toArray, List.set_cons_zero, List.set_cons_succ]
            refine takeL (i := 5) (v := ?_) rfl (by kernel_rfl) (by kernel_rfl) (by kernel_rfl) (fun _ _ _ h => h) (Or.inl ⟨by rfl, ?_⟩) r0 ?_
            rotate_left
            · intro wS hSw; have g1 : ¬ 9223372036854775807 < s.size + n1.size + 1 := (by omega); go_simp; try with_reducible rfl
            try simp only [Act.put, List.setIfInBounds_toArray, List.set_cons_zero, List.set_cons_succ]
            refine readyL (i := 8) (by kernel_rfl) rfl (fun K hK => ?_)
            go_simp
            refine (rNumbered_any s2 _ (by omega) HNm.out).mono ?_
            rintro e y1 ⟨n2, rfl, zn2, Hn2, d1⟩
            have r1 : Below wz.heap.size wz y1 := Below.trans r0 (d1.out.mono (Below.size r0))
            go_wp2_with fail
            refine hK.out _ _ r1 (fun _ => ?_)
            clear hK K
            try simp only [Act.put, List.setIfInBounds_toArray, List.set_cons_zero, List.set_cons_succ]
            refine takeL (i := 9) (v := ?_) rfl (by kernel_rfl) (by kernel_rfl) (by kernel_rfl) (fun _ _ _ h => h) (Or.inl ⟨by rfl, ?_⟩) r1 ?_
            rotate_left
            · intro wS hSw; have g1 : ¬ 9223372036854775807 < s.size + n1.size + 1 + n2.size := (by omega); go_simp; try with_reducible rfl
            try simp only [Act.put, List.setIfInBounds_toArray, List.set_cons_zero, List.set_cons_succ]
            refine takeL (i := 10) (v := ?_) rfl (by kernel_rfl) (by kernel_rfl) (by kernel_rfl) (fun _ _ _ h => h) (Or.inl ⟨by rfl, ?_⟩) r1 ?_
            rotate_left
            · intro wS hSw; have g1 : ¬ 9223372036854775807 < s.size + n1.size + 1 + n2.size + 1 := (by omega); go_simp; try with_reducible rfl
            try simp only [Act.put, List.setIfInBounds_toArray, List.set_cons_zero, List.set_cons_succ]
            refine readyL (i := 13) (by kernel_rfl) rfl (fun K hK => ?_)
            go_simp
            refine (rNumber_any ctn 1 _ (by omega) (by omega) (by omega)).mono ?_
            rintro e y2 ⟨n3, rfl, zn3, Hn3, d2⟩
            have r2 : Below wz.heap.size wz y2 := Below.trans r1 (d2.out.mono (Below.size r1))
            go_wp2_with fail
            refine hK.out _ _ r2 (fun _ => ?_)
            clear hK K
            try simp only [Act.put, List.setIfInBounds_toArray, List.set_cons_zero, List.set_cons_succ]
            refine takeL (i := 14) (v := ?_) rfl (by kernel_rfl) (by kernel_rfl) (by kernel_rfl) (fun _ _ _ h => h) (Or.inl ⟨by rfl, ?_⟩) r2 ?_
            rotate_left
            · intro wS hSw; have g1 : ¬ 9223372036854775807 < s.size + n1.size + 1 + n2.size + 1 + n3.size := (by omega); go_simp; try with_reducible rfl
            try simp only [Act.put, List.setIfInBounds_toArray, List.set_cons_zero, List.set_cons_succ]
            refine takeL (i := 15) (v := ?_) rfl (by kernel_rfl) (by kernel_rfl) (by kernel_rfl) (fun _ _ _ h => h) (Or.inl ⟨by rfl, ?_⟩) r2 ?_
            rotate_left
            · intro wS hSw; have g1 : ¬ 9223372036854775807 < s.size + n1.size + 1 + n2.size + 1 + n3.size + 1 := (by omega); go_simp; try with_reducible rfl
            try simp only [Act.put, List.setIfInBounds_toArray, List.set_cons_zero, List.set_cons_succ]
            refine readyL (i := 18) (by kernel_rfl) rfl (fun K hK => ?_)
            go_simp
            refine (rText_any dyn _ (by omega)).mono ?_
            rintro e y3 ⟨n4, rfl, zn4, Hn4, d3⟩
            replace zn4 : n4.size ≤ 10 := Nat.le_of_eq zn4
            have r3 : Below wz.heap.size wz y3 := Below.trans r2 (d3.out.mono (Below.size r2))
            go_wp2_with fail
            refine hK.out _ _ r3 (fun _ => ?_)
            clear hK K
            try simp only [Act.put, List.setIfInBounds_toArray, List.set_cons_zero, List.set_cons_succ]
            refine takeL (i := 19) (v := ?_) rfl (by kernel_rfl) (by kernel_rfl) (by kernel_rfl) (fun _ _ _ h => h) (Or.inl ⟨by rfl, ?_⟩) r3 ?_
            rotate_left
            · intro wS hSw; have g1 : ¬ 9223372036854775807 < s.size + n1.size + 1 + n2.size + 1 + n3.size + 1 + n4.size := (by omega); go_simp; try with_reducible rfl
            try simp only [Act.put, List.setIfInBounds_toArray, List.set_cons_zero, List.set_cons_succ]
            refine takeL (i := 20) (v := ?_) rfl (by kernel_rfl) (by kernel_rfl) (by kernel_rfl) (fun _ _ _ h => h) (Or.inl ⟨by rfl, ?_⟩) r3 ?_
            rotate_left
            · intro wS hSw; have g1 : ¬ 9223372036854775807 < s.size + n1.size + 1 + n2.size + 1 + n3.size + 1 + n4.size + 1 := (by omega); go_simp; try with_reducible rfl
            try simp only [Act.put, List.setIfInBounds_toArray, List.set_cons_zero, List.set_cons_succ]
            refine takeL (i := 21) (v := ?_) rfl (by kernel_rfl) (by kernel_rfl) (by kernel_rfl) (fun _ _ _ h => h) (Or.inl ⟨by rfl, ?_⟩) r3 ?_
            rotate_left
            · intro wS hSw; go_simp; try with_reducible rfl
            try simp only [Act.put, List.setIfInBounds_toArray, List.set_cons_zero, List.set_cons_succ]
            refine wpAnyH_done (by kernel_rfl) ?_ _
            have pc : y3.cell? ⟨wo.heap.size, 2, none⟩ = some (.int .i64 ctn) := (Below.cell r3 (p := ⟨wo.heap.size, 2, none⟩) oz).trans p2
            have By : Hid (Below w.heap.size w y3) := Lib.hid (Bz.out.trans (r3.mono (Below.size Bz.out)))
            have HTk : Hid (l.take (m + 1) = l.take m ++ [((idn : Int), L s2, (ctn : Int), (dyn : Int))]) := Lib.hid (take_snoc l m _ HX.out)
            clear p0 p1 p2 p3 r3
            have hSw : IntKind.i64.wrap (S + (ctn : Int)) = S + (ctn : Int) := IntWalk.i64_in _ (by omega)
            go_wp2_with fail
            go_roundg (l.length - (m + 1))
            case measure => omega
            case rel =>
              have hS2 : 0 ≤ S + (ctn : Int) := Int.add_nonneg hS0 (Int.natCast_nonneg _)
              have hS3 : S + (ctn : Int) ≤ ((m + 1 : Nat) : Int) * 1000000000000 := sum_bd hS1 o4
              refine ⟨m + 1, _, _, _, hlt, rfl, hS2, hS3, ?_, HK2, Lib.hid ?_, Lib.hid ?_, Lib.hid ?_, By, rfl, rfl, rfl, by go_num⟩
              · simp only [ByteArray.size_append, size_b]; show s.size + n1.size + 1 + n2.size + 1 + n3.size + 1 + n4.size + 1 ≤ _; omega
              · rw [HTk.out, List.map_append, List.map_cons, List.map_nil, twice_snoc, HT2.out, HT.out]
              · rw [HTk.out, List.map_append, List.map_cons, List.map_nil, sum_snoc, HS.out]
              · rw [HTk.out, List.map_append, List.map_cons, List.map_nil, ← List.cons_append, seps_append, ← HL.out, seps_one]
                simp only [L_app, L_b, Hn1.out, Hn2.out, Hn3.out, Hn4.out, pad_dec, payLine, Int.toNat_natCast, List.append_assoc, List.cons_append, List.nil_append]
    · have HAll : Hid (l.all payOk = true) := Lib.hid (by rw [← HK.out, List.take_of_length_le (by omega)])
      have HTw : Hid (tw = twice (l.map (·.1))) := Lib.hid (by rw [HT.out, List.take_of_length_le (by omega)])
      have HSm : Hid (S = (l.map (fun p : Pay => p.2.2.1)).sum) := Lib.hid (by rw [HS.out, List.take_of_length_le (by omega)])
      have HLn : Hid (L s = body payW (l.map payLine)) := Lib.hid (by rw [HL.out, List.take_of_length_le (by omega), body_seps, List.length_map])
      clear HK HT HS HL
      cases tw with
      | true =>
        have HW := Lib.hid (writeP_twice l h4 HAll.out HTw.out.symm)
        go_wp2_with fail
        go_ret2
        exact RetW.mk (by rw [HW.out]) (by rw [HW.out]; rfl) HB.out
      | false =>
        have HW := Lib.hid (writeP_good l h4 HAll.out HTw.out.symm)
        obtain ⟨Sn, rfl⟩ := Int.eq_ofNat_of_zero_le hS0
        go_wp2_with fail
        refine (rEnd_any s Sn _ (by omega) (by omega)).mono ?_
        rintro e w9 ⟨s9, rfl, H9, b9⟩
        have B9 : Hid (Below w.heap.size w w9) := Lib.hid (HB.out.trans (b9.out.mono hsz))
        go_wp2_with fail
        go_ret2
        refine RetW.mk ?_ (by rw [HW.out]; rfl) B9.out
        rw [HW.out, H9.out, HLn.out, ← HSm.out, Int.toNat_natCast]
        rfl
end Go.Proofs.YtibgibjmpcajkaaGreatDoor
namespace Go.Proofs.YtibgibjmpcajkaaGreatDoor
open Go.RowKit BankS
theorem writeA_long2 (l : List Ans) (h : 400 < l.length) : writeA l = ([], 2) := by unfold writeA; rw [if_pos h]
set_option maxHeartbeats 16000000 in
set_option maxRecDepth 100000 in
theorem rWriteA_any (v : Value) (l : List Ans) (w : World) (hR : Rd ansC 5 w v l) (hlen : l.length ≤ 1000000) :
    Calls Tryz.prog 17 #[v] w (RetW (writeA l) w) := by
  have HR := Lib.hid hR
  obtain ⟨A, cap, rfl, hcap, _, _⟩ := hR
  by_cases h400 : 400 < l.length
  · have HW := Lib.hid (writeA_long2 l h400)
    go_enter Tryz.func17, Tryz.ntmps17
    go_wp2_with fail
    go_ret2
    exact RetW.mk (by rw [HW.out]) (by rw [HW.out]; rfl) (Below.refl _ _)
  have h4 : l.length ≤ 400 := by omega
  clear h400
  go_enter Tryz.func17, Tryz.ntmps17
  go_wp2_with fail
  refine (rNumber_any l.length 1 _ (by omega) (by omega) (by omega)).mono ?_
  rintro e w1 ⟨s0, rfl, z0, H0, B0⟩
  go_wp2_with fail
  go_loopg [4, 5, 6, 7] l.length (fun g v4 v5 v6 i wx => ∃ (k : Nat) (S : Int) (s : ByteArray) (tw : Bool), k ≤ l.length ∧ g = l.length - k ∧ 0 ≤ S ∧ S ≤ (k : Int) * 1000000000000 ∧ s.size ≤ 40 + k * 300 ∧ Hid ((l.take k).all ansOk = true) ∧ Hid (tw = twice ((l.take k).map (·.1))) ∧ Hid (S = ((l.take k).map (fun p : Ans => p.2.2.2.1)).sum) ∧ Hid (L s = seps 10 (headL ansW l.length :: (l.take k).map ansLine)) ∧ Hid (Below w.heap.size w wx) ∧ v4 = .string s ∧ v5 = .int .i64 S ∧ v6 = .bool tw ∧ i = .int .i64 k)
  case atStart =>
    refine ⟨0, 0, _, false, by omega, rfl, by omega, by omega, ?_, Lib.hid rfl, Lib.hid rfl, Lib.hid rfl, Lib.hid ?_, B0, rfl, rfl, rfl, rfl⟩
    · rw [ByteArray.size_append, ByteArray.size_append]; show 8 + s0.size + 1 ≤ _; omega
    · rw [L_app, L_app, H0.out, pad_dec, List.take_zero, List.map_nil, seps_one]
      unfold headL
      rfl
  case round =>
    obtain ⟨k, S, s, tw, hk, rfl, hS0, hS1, hsl, HK, HT, HS, HL, HB, rfl, rfl, rfl, rfl⟩ := hrel
    rename World => wo
    have hsz := HB.out.size
    have HRw := Lib.hid (HR.out.below HB.out)
    by_cases hlt : k < l.length
    · obtain ⟨x, hx⟩ : ∃ x, l[k]? = some x := ⟨_, List.getElem?_eq_getElem hlt⟩
      obtain ⟨g, o, rfl, hg, c0, c1, c2, c3, c4⟩ := rd_ans HRw.out k x hx
      obtain ⟨sq, id, kd, ct, dy⟩ := x
      simp only at c0 c1 c2 c3 c4
      have HX := Lib.hid hx
      clear hx
      go_wp2_with fail
      refine (rAnswer_any sq id kd ct dy _).mono ?_
      rintro e w2 ⟨rfl, b2⟩
      have PC : ∀ (j : Nat) (u : Value), ([.int .i64 sq, .int .i64 id, .int .i64 kd, .int .i64 ct, .int .i64 dy] : List Value)[j]? = some u → w2.cell? ⟨wo.heap.size, j, none⟩ = some u := fun j u h => (b2.out.cell (p := ⟨wo.heap.size, j, none⟩) (by simp)).trans (by rw [cell_row (heap_new wo #[.int .i64 sq, .int .i64 id, .int .i64 kd, .int .i64 ct, .int .i64 dy] 54)]; simpa using h)
      have q0 := PC 0 _ rfl
      have q1 := PC 1 _ rfl
      have q2 := PC 2 _ rfl
      have q3 := PC 3 _ rfl
      have q4 := PC 4 _ rfl
      have lt2 : wo.heap.size < w2.heap.size := Nat.lt_of_lt_of_le (by simp) b2.out.size
      have bo : Hid (Below wo.heap.size wo w2) := Lib.hid (((Below.refl _ _).alloc (Nat.le_refl _) _).trans (b2.out.mono (by simp)))
      have B2 : Hid (Below w.heap.size w w2) := Lib.hid (HB.out.trans (bo.out.mono hsz))
      clear b2 PC
      cases hok : ansOk (sq, id, kd, ct, dy) with
      | false =>
        have HW := Lib.hid (writeA_bad l h4 (all_take l ansOk k _ HX.out hok))
        clear hok
        go_wp2_with fail
        go_ret2
        exact RetW.mk (by rw [HW.out]) (by rw [HW.out]; rfl) B2.out
      | true =>
        have HK2 : Hid ((l.take (k + 1)).all ansOk = true) := Lib.hid (by rw [take_snoc l k _ HX.out, List.all_append, HK.out]; simp [hok])
        obtain ⟨⟨o1, o2⟩, ⟨o7, o8⟩, _, ⟨o3, o4⟩, hdy⟩ := ansOk_parts hok
        obtain ⟨o5, o6⟩ := of_decide_eq_true hdy
        simp only at o1 o2 o3 o4 o5 o6 o7 o8
        clear hdy hok HK c1 c2 c3 c4
        go_wp2_with fail
        go_loopg [6, 10] k (fun g2 v6 j wy => ∃ (m : Nat) (t2 : Bool), m ≤ k ∧ g2 = k - m ∧ Hid (t2 = (tw || ((l.take m).map (·.1)).contains sq)) ∧ Hid (Below w2.heap.size w2 wy) ∧ v6 = .bool t2 ∧ j = .int .i64 m)
        case atStart => exact ⟨0, tw, by omega, rfl, Lib.hid (by simp), Lib.hid (Below.refl _ _), rfl, rfl⟩
        case round =>
          obtain ⟨m, t2, hm, rfl, HT2, HB2, rfl, rfl⟩ := hrel
          rename World => wz
          have hz2 := HB2.out.size
          by_cases hlm : m < k
          · obtain ⟨y, hy⟩ : ∃ y, l[m]? = some y := ⟨_, List.getElem?_eq_getElem (by omega)⟩
            obtain ⟨g', o', eA, hg', cm, _⟩ := rd_ans HRw.out m y hy
            injection eA with eA
            injection eA with eA1 eA2
            subst eA1 eA2
            have cmz : wz.cell? ⟨g, o + m * 5, none⟩ = some (.int .i64 y.1) := ((HB2.out.cell (p := ⟨g, o + m * 5, none⟩) (by show g < _; omega)).trans (bo.out.cell (p := ⟨g, o + m * 5, none⟩) hg)).trans cm
            have qz : wz.cell? ⟨wo.heap.size, 0, none⟩ = some (.int .i64 sq) := (HB2.out.cell (p := ⟨wo.heap.size, 0, none⟩) lt2).trans q0
            have HY : Hid ((l.take (m + 1)).map (·.1) = (l.take m).map (·.1) ++ [y.1]) := Lib.hid (by rw [take_snoc l m y hy, List.map_append]; rfl)
            obtain ⟨yk, hyk⟩ : ∃ yk, yk = y.1 := ⟨_, rfl⟩
            rw [← hyk] at cmz HY
            clear hyk hy cm
            have gz : g < wz.heap.size := by omega
            have oz : wo.heap.size < wz.heap.size := by omega
            cases t2 with
            | true =>
              have HN : Hid (true = (tw || ((l.take (m + 1)).map (·.1)).contains sq)) := Lib.hid (by rw [HY.out, beq_contains, ← Bool.or_assoc, ← HT2.out]; rfl)
              go_wp2_with fail
              refine wp_region_held_drew (S := (fun W => Below wz.heap.size wz W)) (by kernel_rfl) ((Below.refl _ _).drew) (fun hHeld => ?_)
              refine takeL (i := 0) (v := ?_) rfl (by kernel_rfl) (by kernel_rfl) (by kernel_rfl) (fun _ _ _ h => h) (Or.inl ⟨by rfl, ?_⟩) hHeld ?_
              rotate_left
              · intro wS hSw; go_simp; try with_reducible rfl
              try simp only [Act.put, List.setIfInBounds_toArray, List.set_cons_zero, List.set_cons_succ]
              refine takeL (i := 1) (v := ?_) rfl (by kernel_rfl) (by kernel_rfl) (by kernel_rfl) (fun _ _ _ h => h) (Or.inl ⟨by rfl, ?_⟩) hHeld ?_
              rotate_left
              · intro wS hSw; go_simp; try with_reducible rfl
              try simp only [Act.put, List.setIfInBounds_toArray, List.set_cons_zero, List.set_cons_succ]
              refine takeL (i := 2) (v := undef) rfl (by kernel_rfl) (by kernel_rfl) (by kernel_rfl) (fun _ _ _ h => h) (Or.inr ⟨by rfl, rfl⟩) hHeld ?_
              try simp only [Act.put, List.setIfInBounds_toArray, List.set_cons_zero, List.set_cons_succ]
              refine takeL (i := 3) (v := undef) rfl (by kernel_rfl) (by kernel_rfl) (by kernel_rfl) (fun _ _ _ h => h) (Or.inr ⟨by rfl, rfl⟩) hHeld ?_
              try simp only [Act.put, List.setIfInBounds_toArray, List.set_cons_zero, List.set_cons_succ]
              refine takeL (i := 4) (v := undef) rfl (by kernel_rfl) (by kernel_rfl) (by kernel_rfl) (fun _ _ _ h => h) (Or.inr ⟨by rfl, rfl⟩) hHeld ?_
              try simp only [Act.put, List.setIfInBounds_toArray, List.set_cons_zero, List.set_cons_succ]
              refine takeL (i := 5) (v := undef) rfl (by kernel_rfl) (by kernel_rfl) (by kernel_rfl) (fun _ _ _ h => h) (Or.inr ⟨by rfl, rfl⟩) hHeld ?_
              try simp only [Act.put, List.setIfInBounds_toArray, List.set_cons_zero, List.set_cons_succ]
              refine takeL (i := 6) (v := undef) rfl (by kernel_rfl) (by kernel_rfl) (by kernel_rfl) (fun _ _ _ h => h) (Or.inr ⟨by rfl, rfl⟩) hHeld ?_
              try simp only [Act.put, List.setIfInBounds_toArray, List.set_cons_zero, List.set_cons_succ]
              refine takeL (i := 7) (v := undef) rfl (by kernel_rfl) (by kernel_rfl) (by kernel_rfl) (fun _ _ _ h => h) (Or.inr ⟨by rfl, rfl⟩) hHeld ?_
              try simp only [Act.put, List.setIfInBounds_toArray, List.set_cons_zero, List.set_cons_succ]
              refine takeL (i := 8) (v := undef) rfl (by kernel_rfl) (by kernel_rfl) (by kernel_rfl) (fun _ _ _ h => h) (Or.inr ⟨by rfl, rfl⟩) hHeld ?_
              try simp only [Act.put, List.setIfInBounds_toArray, List.set_cons_zero, List.set_cons_succ]
              refine takeL (i := 9) (v := undef) rfl (by kernel_rfl) (by kernel_rfl) (by kernel_rfl) (fun _ _ _ h => h) (Or.inr ⟨by rfl, rfl⟩) hHeld ?_
              try simp only [Act.put, List.setIfInBounds_toArray, List.set_cons_zero, List.set_cons_succ]
              refine takeL (i := 10) (v := ?_) rfl (by kernel_rfl) (by kernel_rfl) (by kernel_rfl) (fun _ _ _ h => h) (Or.inl ⟨by rfl, ?_⟩) hHeld ?_
              rotate_left
              · intro wS hSw; go_simp; try with_reducible rfl
              try simp only [Act.put, List.setIfInBounds_toArray, List.set_cons_zero, List.set_cons_succ]
              refine takeL (i := 11) (v := ?_) rfl (by kernel_rfl) (by kernel_rfl) (by kernel_rfl) (fun _ _ _ h => h) (Or.inl ⟨by rfl, ?_⟩) hHeld ?_
              rotate_left
              · intro wS hSw; go_simp; try with_reducible rfl
              try simp only [Act.put, List.setIfInBounds_toArray, List.set_cons_zero, List.set_cons_succ]
              refine wpAnyH_done (by kernel_rfl) ?_ _
              go_wp2_with fail
              go_roundg (k - (m + 1))
              case measure => omega
              case rel => exact ⟨m + 1, true, by omega, rfl, HN, Lib.hid (HB2.out.drew), rfl, by go_num⟩
            | false =>
              have HN : Hid ((yk == sq) = (tw || ((l.take (m + 1)).map (·.1)).contains sq)) := Lib.hid (by rw [HY.out, beq_contains, ← Bool.or_assoc, ← HT2.out]; rfl)
              go_wp2_with fail
              refine wp_region_held_drew (S := (fun W => Below wz.heap.size wz W)) (by kernel_rfl) ((Below.refl _ _).drew) (fun hHeld => ?_)
              refine takeL (i := 0) (v := ?_) rfl (by kernel_rfl) (by kernel_rfl) (by kernel_rfl) (fun _ _ _ h => h) (Or.inl ⟨by rfl, ?_⟩) hHeld ?_
              rotate_left
              · intro wS hSw; go_simp; try with_reducible rfl
              try simp only [Act.put, List.setIfInBounds_toArray, List.set_cons_zero, List.set_cons_succ]
              refine takeL (i := 1) (v := ?_) rfl (by kernel_rfl) (by kernel_rfl) (by kernel_rfl) (fun _ _ _ h => h) (Or.inl ⟨by rfl, ?_⟩) hHeld ?_
              rotate_left
              · intro wS hSw; go_simp; try with_reducible rfl
              try simp only [Act.put, List.setIfInBounds_toArray, List.set_cons_zero, List.set_cons_succ]
              refine takeL (i := 2) (v := ?_) rfl (by kernel_rfl) (by kernel_rfl) (by kernel_rfl) (fun _ _ _ h => h) (Or.inl ⟨by rfl, ?_⟩) hHeld ?_
              rotate_left
              · intro wS hSw; go_simp; try with_reducible rfl
              try simp only [Act.put, List.setIfInBounds_toArray, List.set_cons_zero, List.set_cons_succ]
              refine takeL (i := 3) (v := ?_) rfl (by kernel_rfl) (by kernel_rfl) (by kernel_rfl) (fun _ _ _ h => h) (Or.inl ⟨by rfl, ?_⟩) hHeld ?_
              rotate_left
              · intro wS hSw; go_simp; try with_reducible rfl
              try simp only [Act.put, List.setIfInBounds_toArray, List.set_cons_zero, List.set_cons_succ]
              refine takeL (i := 4) (v := ?_) rfl (by kernel_rfl) (by kernel_rfl) (by kernel_rfl) (fun _ _ _ h => h) (Or.inl ⟨by rfl, ?_⟩) hHeld ?_
              rotate_left
              · intro wS hSw; have g1 : (m : Int) < (l.length : Int) := (by omega); go_simp; try with_reducible rfl
              try simp only [Act.put, List.setIfInBounds_toArray, List.set_cons_zero, List.set_cons_succ]
              refine takeL (i := 5) (v := ?_) rfl (by kernel_rfl) (by kernel_rfl) (by kernel_rfl) (fun _ _ _ h => h) (Or.inl ⟨by rfl, ?_⟩) hHeld ?_
              rotate_left
              · intro wS hSw; go_simp; try with_reducible rfl
              try simp only [Act.put, List.setIfInBounds_toArray, List.set_cons_zero, List.set_cons_succ]
              refine takeL (i := 6) (v := ?_) rfl (by kernel_rfl) (by kernel_rfl) (by kernel_rfl) (fun _ _ _ h => h) (Or.inl ⟨by rfl, ?_⟩) hHeld ?_
              rotate_left
              · intro wS hSw; have k1 := (hSw.cell (p := ⟨g, o + m * 5, none⟩) gz).trans cmz; go_simp; try with_reducible rfl
              try simp only [Act.put, List.setIfInBounds_toArray, List.set_cons_zero, List.set_cons_succ]
              refine takeL (i := 7) (v := ?_) rfl (by kernel_rfl) (by kernel_rfl) (by kernel_rfl) (fun _ _ _ h => h) (Or.inl ⟨by rfl, ?_⟩) hHeld ?_
              rotate_left
              · intro wS hSw; go_simp; try with_reducible rfl
              try simp only [Act.put, List.setIfInBounds_toArray, List.set_cons_zero, List.set_cons_succ]
              refine takeL (i := 8) (v := ?_) rfl (by kernel_rfl) (by kernel_rfl) (by kernel_rfl) (fun _ _ _ h => h) (Or.inl ⟨by rfl, ?_⟩) hHeld ?_
              rotate_left
              · intro wS hSw; have k1 := (hSw.cell (p := ⟨wo.heap.size, 0, none⟩) oz).trans qz; go_simp; try with_reducible rfl
              try simp only [Act.put, List.setIfInBounds_toArray, List.set_cons_zero, List.set_cons_succ]
              refine takeL (i := 9) (v := ?_) rfl (by kernel_rfl) (by kernel_rfl) (by kernel_rfl) (fun _ _ _ h => h) (Or.inl ⟨by rfl, ?_⟩) hHeld ?_
              rotate_left
              · intro wS hSw; go_simp; try with_reducible rfl
              try simp only [Act.put, List.setIfInBounds_toArray, List.set_cons_zero, List.set_cons_succ]
              refine takeL (i := 10) (v := ?_) rfl (by kernel_rfl) (by kernel_rfl) (by kernel_rfl) (fun _ _ _ h => h) (Or.inl ⟨by rfl, ?_⟩) hHeld ?_
              rotate_left
              · intro wS hSw; go_simp; try with_reducible rfl
              try simp only [Act.put, List.setIfInBounds_toArray, List.set_cons_zero, List.set_cons_succ]
              refine takeL (i := 11) (v := ?_) rfl (by kernel_rfl) (by kernel_rfl) (by kernel_rfl) (fun _ _ _ h => h) (Or.inl ⟨by rfl, ?_⟩) hHeld ?_
              rotate_left
              · intro wS hSw; go_simp; try with_reducible rfl
              try simp only [Act.put, List.setIfInBounds_toArray, List.set_cons_zero, List.set_cons_succ]
              refine wpAnyH_done (by kernel_rfl) ?_ _
              go_wp2_with fail
              go_roundg (k - (m + 1))
              case measure => omega
              case rel => exact ⟨m + 1, (yk == sq), by omega, rfl, HN, Lib.hid (HB2.out.drew), rfl, by go_num⟩
          · obtain rfl : m = k := by omega
            have oz : wo.heap.size < wz.heap.size := by omega
            have p0 := (HB2.out.cell (p := ⟨wo.heap.size, 0, none⟩) lt2).trans q0
            have p1 := (HB2.out.cell (p := ⟨wo.heap.size, 1, none⟩) lt2).trans q1
            have p2 := (HB2.out.cell (p := ⟨wo.heap.size, 2, none⟩) lt2).trans q2
            have p3 := (HB2.out.cell (p := ⟨wo.heap.size, 3, none⟩) lt2).trans q3
            have p4 := (HB2.out.cell (p := ⟨wo.heap.size, 4, none⟩) lt2).trans q4
            have Bz : Hid (Below w.heap.size w wz) := Lib.hid (B2.out.trans (HB2.out.mono (Below.size B2.out)))
            obtain ⟨ctn, rfl⟩ := Int.eq_ofNat_of_zero_le o3
            obtain ⟨idn, rfl⟩ := Int.eq_ofNat_of_zero_le o7
            obtain ⟨dyn, rfl⟩ := Int.eq_ofNat_of_zero_le o5
            obtain ⟨sqn, rfl⟩ := Int.eq_ofNat_of_zero_le o1
            clear q0 q1 q2 q3 q4
            go_wp2_with fail
            refine wp_region_held_drew (S := (fun W => Below wz.heap.size wz W)) (by kernel_rfl) ((Below.refl _ _).drew) (fun hHeld => ?_)
            refine takeL (i := 0) (v := ?_) rfl (by kernel_rfl) (by kernel_rfl) (by kernel_rfl) (fun _ _ _ h => h) (Or.inl ⟨by rfl, ?_⟩) hHeld ?_
            rotate_left
            · intro wS hSw; go_simp; try with_reducible rfl
            try simp only [Act.put, List.setIfInBounds_toArray, List.set_cons_zero, List.set_cons_succ]
            refine takeL (i := 1) (v := ?_) rfl (by kernel_rfl) (by kernel_rfl) (by kernel_rfl) (fun _ _ _ h => h) (Or.inl ⟨by rfl, ?_⟩) hHeld ?_
            rotate_left
            · intro wS hSw; go_simp; try with_reducible rfl
            try simp only [Act.put, List.setIfInBounds_toArray, List.set_cons_zero, List.set_cons_succ]
            refine takeL (i := 2) (v := ?_) rfl (by kernel_rfl) (by kernel_rfl) (by kernel_rfl) (fun _ _ _ h => h) (Or.inl ⟨by rfl, ?_⟩) hHeld ?_
            rotate_left
            · intro wS hSw; have k1 := (hSw.cell (p := ⟨wo.heap.size, 0, none⟩) oz).trans p0; go_simp; try with_reducible rfl
            try simp only [Act.put, List.setIfInBounds_toArray, List.set_cons_zero, List.set_cons_succ]
            refine takeL (i := 6) (v := ?_) rfl (by kernel_rfl) (by kernel_rfl) (by kernel_rfl) (fun _ _ _ h => h) (Or.inl ⟨by rfl, ?_⟩) hHeld ?_
            rotate_left
            · intro wS hSw; go_simp; try with_reducible rfl
            try simp only [Act.put, List.setIfInBounds_toArray, List.set_cons_zero, List.set_cons_succ]
            refine takeL (i := 7) (v := ?_) rfl (by kernel_rfl) (by kernel_rfl) (by kernel_rfl) (fun _ _ _ h => h) (Or.inl ⟨by rfl, ?_⟩) hHeld ?_
            rotate_left
            · intro wS hSw; have k1 := (hSw.cell (p := ⟨wo.heap.size, 1, none⟩) oz).trans p1; go_simp; try with_reducible rfl
            try simp only [Act.put, List.setIfInBounds_toArray, List.set_cons_zero, List.set_cons_succ]
            refine takeL (i := 11) (v := ?_) rfl (by kernel_rfl) (by kernel_rfl) (by kernel_rfl) (fun _ _ _ h => h) (Or.inl ⟨by rfl, ?_⟩) hHeld ?_
            rotate_left
            · intro wS hSw; go_simp; try with_reducible rfl
            try simp only [Act.put, List.setIfInBounds_toArray, List.set_cons_zero, List.set_cons_succ]
            refine takeL (i := 12) (v := ?_) rfl (by kernel_rfl) (by kernel_rfl) (by kernel_rfl) (fun _ _ _ h => h) (Or.inl ⟨by rfl, ?_⟩) hHeld ?_
            rotate_left
            · intro wS hSw; have k1 := (hSw.cell (p := ⟨wo.heap.size, 2, none⟩) oz).trans p2; go_simp; try with_reducible rfl
            try simp only [Act.put, List.setIfInBounds_toArray, List.set_cons_zero, List.set_cons_succ]
            refine takeL (i := 16) (v := ?_) rfl (by kernel_rfl) (by kernel_rfl) (by kernel_rfl) (fun _ _ _ h => h) (Or.inl ⟨by rfl, ?_⟩) hHeld ?_
            rotate_left
            · intro wS hSw; go_simp; try with_reducible rfl
            try simp only [Act.put, List.setIfInBounds_toArray, List.set_cons_zero, List.set_cons_succ]
            refine takeL (i := 17) (v := ?_) rfl (by kernel_rfl) (by kernel_rfl) (by kernel_rfl) (fun _ _ _ h => h) (Or.inl ⟨by rfl, ?_⟩) hHeld ?_
            rotate_left
            · intro wS hSw; have k1 := (hSw.cell (p := ⟨wo.heap.size, 3, none⟩) oz).trans p3; go_simp; try with_reducible rfl
            try simp only [Act.put, List.setIfInBounds_toArray, List.set_cons_zero, List.set_cons_succ]
            refine takeL (i := 21) (v := ?_) rfl (by kernel_rfl) (by kernel_rfl) (by kernel_rfl) (fun _ _ _ h => h) (Or.inl ⟨by rfl, ?_⟩) hHeld ?_
            rotate_left
            · intro wS hSw; go_simp; try with_reducible rfl
            try simp only [Act.put, List.setIfInBounds_toArray, List.set_cons_zero, List.set_cons_succ]
            refine takeL (i := 22) (v := ?_) rfl (by kernel_rfl) (by kernel_rfl) (by kernel_rfl) (fun _ _ _ h => h) (Or.inl ⟨by rfl, ?_⟩) hHeld ?_
            rotate_left
            · intro wS hSw; have k1 := (hSw.cell (p := ⟨wo.heap.size, 4, none⟩) oz).trans p4; go_simp; try with_reducible rfl
            try simp only [Act.put, List.setIfInBounds_toArray, List.set_cons_zero, List.set_cons_succ]
            refine readyL (i := 3) (by kernel_rfl) rfl (fun K hK => ?_)
            go_simp
            refine (rNumber_any sqn 1 _ (by omega) (by omega) (by omega)).mono ?_
            rintro e y0 ⟨n1, rfl, zn1, Hn1, d0⟩
            have r0 : Below wz.heap.size wz y0 := Below.trans hHeld (d0.out.mono (Below.size hHeld))
            go_wp2_with fail
            refine hK.out _ _ r0 (fun _ => ?_)
            clear hK K
            try simp only [Act.put, List.setIfInBounds_toArray, List.set_cons_zero, List.set_cons_succ]
            refine takeL (i := 4) (v := ?_) rfl (by kernel_rfl) (by kernel_rfl) (by kernel_rfl) (fun _ _ _ h => h) (Or.inl ⟨by rfl, ?_⟩) r0 ?_
            rotate_left
            · intro wS hSw; have g1 : ¬ 9223372036854775807 < s.size + n1.size := (by omega); go_simp; try with_reducible rfl
            try simp only [Act.put, List.setIfInBounds_toArray, List.set_cons_zero, List.set_cons_succ]
            refine takeL (i := 5) (v := ?_) rfl (by kernel_rfl) (by kernel_rfl) (by kernel_rfl) (fun _ _ _ h => h) (Or.inl ⟨by rfl, ?_⟩) r0 ?_
            rotate_left
            · intro wS hSw; have g1 : ¬ 9223372036854775807 < s.size + n1.size + 1 := (by omega); go_simp; try with_reducible rfl
            try simp only [Act.put, List.setIfInBounds_toArray, List.set_cons_zero, List.set_cons_succ]
            refine readyL (i := 8) (by kernel_rfl) rfl (fun K hK => ?_)
            go_simp
            refine (rNumber_any idn 1 _ (by omega) (by omega) (by omega)).mono ?_
            rintro e y1 ⟨n2, rfl, zn2, Hn2, d1⟩
            have r1 : Below wz.heap.size wz y1 := Below.trans r0 (d1.out.mono (Below.size r0))
            go_wp2_with fail
            refine hK.out _ _ r1 (fun _ => ?_)
            clear hK K
            try simp only [Act.put, List.setIfInBounds_toArray, List.set_cons_zero, List.set_cons_succ]
            refine takeL (i := 9) (v := ?_) rfl (by kernel_rfl) (by kernel_rfl) (by kernel_rfl) (fun _ _ _ h => h) (Or.inl ⟨by rfl, ?_⟩) r1 ?_
            rotate_left
            · intro wS hSw; have g1 : ¬ 9223372036854775807 < s.size + n1.size + 1 + n2.size := (by omega); go_simp; try with_reducible rfl
            try simp only [Act.put, List.setIfInBounds_toArray, List.set_cons_zero, List.set_cons_succ]
            refine takeL (i := 10) (v := ?_) rfl (by kernel_rfl) (by kernel_rfl) (by kernel_rfl) (fun _ _ _ h => h) (Or.inl ⟨by rfl, ?_⟩) r1 ?_
            rotate_left
            · intro wS hSw; have g1 : ¬ 9223372036854775807 < s.size + n1.size + 1 + n2.size + 1 := (by omega); go_simp; try with_reducible rfl
            try simp only [Act.put, List.setIfInBounds_toArray, List.set_cons_zero, List.set_cons_succ]
            refine readyL (i := 13) (by kernel_rfl) rfl (fun K hK => ?_)
            go_simp
            refine (rKind_any kd _).mono ?_
            rintro e y2 ⟨n3, rfl, zn3, Hn3, rfl⟩
            go_wp2_with fail
            refine hK.out _ _ r1 (fun _ => ?_)
            clear hK K
            try simp only [Act.put, List.setIfInBounds_toArray, List.set_cons_zero, List.set_cons_succ]
            refine takeL (i := 14) (v := ?_) rfl (by kernel_rfl) (by kernel_rfl) (by kernel_rfl) (fun _ _ _ h => h) (Or.inl ⟨by rfl, ?_⟩) r1 ?_
            rotate_left
            · intro wS hSw; have g1 : ¬ 9223372036854775807 < s.size + n1.size + 1 + n2.size + 1 + n3.size := (by omega); go_simp; try with_reducible rfl
            try simp only [Act.put, List.setIfInBounds_toArray, List.set_cons_zero, List.set_cons_succ]
            refine takeL (i := 15) (v := ?_) rfl (by kernel_rfl) (by kernel_rfl) (by kernel_rfl) (fun _ _ _ h => h) (Or.inl ⟨by rfl, ?_⟩) r1 ?_
            rotate_left
            · intro wS hSw; have g1 : ¬ 9223372036854775807 < s.size + n1.size + 1 + n2.size + 1 + n3.size + 1 := (by omega); go_simp; try with_reducible rfl
            try simp only [Act.put, List.setIfInBounds_toArray, List.set_cons_zero, List.set_cons_succ]
            refine readyL (i := 18) (by kernel_rfl) rfl (fun K hK => ?_)
            go_simp
            refine (rNumber_any ctn 1 _ (by omega) (by omega) (by omega)).mono ?_
            rintro e y3 ⟨n4, rfl, zn4, Hn4, d3⟩
            have r3 : Below wz.heap.size wz y3 := Below.trans r1 (d3.out.mono (Below.size r1))
            go_wp2_with fail
            refine hK.out _ _ r3 (fun _ => ?_)
            clear hK K
            try simp only [Act.put, List.setIfInBounds_toArray, List.set_cons_zero, List.set_cons_succ]
            refine takeL (i := 19) (v := ?_) rfl (by kernel_rfl) (by kernel_rfl) (by kernel_rfl) (fun _ _ _ h => h) (Or.inl ⟨by rfl, ?_⟩) r3 ?_
            rotate_left
            · intro wS hSw; have g1 : ¬ 9223372036854775807 < s.size + n1.size + 1 + n2.size + 1 + n3.size + 1 + n4.size := (by omega); go_simp; try with_reducible rfl
            try simp only [Act.put, List.setIfInBounds_toArray, List.set_cons_zero, List.set_cons_succ]
            refine takeL (i := 20) (v := ?_) rfl (by kernel_rfl) (by kernel_rfl) (by kernel_rfl) (fun _ _ _ h => h) (Or.inl ⟨by rfl, ?_⟩) r3 ?_
            rotate_left
            · intro wS hSw; have g1 : ¬ 9223372036854775807 < s.size + n1.size + 1 + n2.size + 1 + n3.size + 1 + n4.size + 1 := (by omega); go_simp; try with_reducible rfl
            try simp only [Act.put, List.setIfInBounds_toArray, List.set_cons_zero, List.set_cons_succ]
            refine readyL (i := 23) (by kernel_rfl) rfl (fun K hK => ?_)
            go_simp
            refine (rText_any dyn _ (by omega)).mono ?_
            rintro e y4 ⟨n5, rfl, zn5, Hn5, d4⟩
            replace zn5 : n5.size ≤ 10 := Nat.le_of_eq zn5
            have r4 : Below wz.heap.size wz y4 := Below.trans r3 (d4.out.mono (Below.size r3))
            go_wp2_with fail
            refine hK.out _ _ r4 (fun _ => ?_)
            clear hK K
            try simp only [Act.put, List.setIfInBounds_toArray, List.set_cons_zero, List.set_cons_succ]
            refine takeL (i := 24) (v := ?_) rfl (by kernel_rfl) (by kernel_rfl) (by kernel_rfl) (fun _ _ _ h => h) (Or.inl ⟨by rfl, ?_⟩) r4 ?_
            rotate_left
            · intro wS hSw; have g1 : ¬ 9223372036854775807 < s.size + n1.size + 1 + n2.size + 1 + n3.size + 1 + n4.size + 1 + n5.size := (by omega); go_simp; try with_reducible rfl
            try simp only [Act.put, List.setIfInBounds_toArray, List.set_cons_zero, List.set_cons_succ]
            refine takeL (i := 25) (v := ?_) rfl (by kernel_rfl) (by kernel_rfl) (by kernel_rfl) (fun _ _ _ h => h) (Or.inl ⟨by rfl, ?_⟩) r4 ?_
            rotate_left
            · intro wS hSw; have g1 : ¬ 9223372036854775807 < s.size + n1.size + 1 + n2.size + 1 + n3.size + 1 + n4.size + 1 + n5.size + 1 := (by omega); go_simp; try with_reducible rfl
            try simp only [Act.put, List.setIfInBounds_toArray, List.set_cons_zero, List.set_cons_succ]
            refine takeL (i := 26) (v := ?_) rfl (by kernel_rfl) (by kernel_rfl) (by kernel_rfl) (fun _ _ _ h => h) (Or.inl ⟨by rfl, ?_⟩) r4 ?_
            rotate_left
            · intro wS hSw; go_simp; try with_reducible rfl
            try simp only [Act.put, List.setIfInBounds_toArray, List.set_cons_zero, List.set_cons_succ]
            refine wpAnyH_done (by kernel_rfl) ?_ _
            have pc : y4.cell? ⟨wo.heap.size, 3, none⟩ = some (.int .i64 ctn) := (Below.cell r4 (p := ⟨wo.heap.size, 3, none⟩) oz).trans p3
            have By : Hid (Below w.heap.size w y4) := Lib.hid (Bz.out.trans (r4.mono (Below.size Bz.out)))
            have HTk : Hid (l.take (m + 1) = l.take m ++ [((sqn : Int), (idn : Int), kd, (ctn : Int), (dyn : Int))]) := Lib.hid (take_snoc l m _ HX.out)
            clear p0 p1 p2 p3 p4 r4
            have hSw : IntKind.i64.wrap (S + (ctn : Int)) = S + (ctn : Int) := IntWalk.i64_in _ (by omega)
            go_wp2_with fail
            go_roundg (l.length - (m + 1))
            case measure => omega
            case rel =>
              have hS2 : 0 ≤ S + (ctn : Int) := Int.add_nonneg hS0 (Int.natCast_nonneg _)
              have hS3 : S + (ctn : Int) ≤ ((m + 1 : Nat) : Int) * 1000000000000 := sum_bd hS1 o4
              refine ⟨m + 1, _, _, _, hlt, rfl, hS2, hS3, ?_, HK2, Lib.hid ?_, Lib.hid ?_, Lib.hid ?_, By, rfl, rfl, rfl, by go_num⟩
              · simp only [ByteArray.size_append, size_b]; show s.size + n1.size + 1 + n2.size + 1 + n3.size + 1 + n4.size + 1 + n5.size + 1 ≤ _; omega
              · rw [HTk.out, List.map_append, List.map_cons, List.map_nil, twice_snoc, HT2.out, HT.out]
              · rw [HTk.out, List.map_append, List.map_cons, List.map_nil, sum_snoc, HS.out]
              · rw [HTk.out, List.map_append, List.map_cons, List.map_nil, ← List.cons_append, seps_append, ← HL.out, seps_one]
                simp only [L_app, L_b, Hn1.out, Hn2.out, Hn3.out, Hn4.out, Hn5.out, pad_dec, ansLine, Int.toNat_natCast, List.append_assoc, List.cons_append, List.nil_append]
    · have HAll : Hid (l.all ansOk = true) := Lib.hid (by rw [← HK.out, List.take_of_length_le (by omega)])
      have HTw : Hid (tw = twice (l.map (·.1))) := Lib.hid (by rw [HT.out, List.take_of_length_le (by omega)])
      have HSm : Hid (S = (l.map (fun p : Ans => p.2.2.2.1)).sum) := Lib.hid (by rw [HS.out, List.take_of_length_le (by omega)])
      have HLn : Hid (L s = body ansW (l.map ansLine)) := Lib.hid (by rw [HL.out, List.take_of_length_le (by omega), body_seps, List.length_map])
      clear HK HT HS HL
      cases tw with
      | true =>
        have HW := Lib.hid (writeA_twice l h4 HAll.out HTw.out.symm)
        go_wp2_with fail
        go_ret2
        exact RetW.mk (by rw [HW.out]) (by rw [HW.out]; rfl) HB.out
      | false =>
        have HW := Lib.hid (writeA_good l h4 HAll.out HTw.out.symm)
        obtain ⟨Sn, rfl⟩ := Int.eq_ofNat_of_zero_le hS0
        go_wp2_with fail
        refine (rEnd_any s Sn _ (by omega) (by omega)).mono ?_
        rintro e w9 ⟨s9, rfl, H9, b9⟩
        have B9 : Hid (Below w.heap.size w w9) := Lib.hid (HB.out.trans (b9.out.mono hsz))
        go_wp2_with fail
        go_ret2
        refine RetW.mk ?_ (by rw [HW.out]; rfl) B9.out
        rw [HW.out, H9.out, HLn.out, ← HSm.out, Int.toNat_natCast]
        rfl
end Go.Proofs.YtibgibjmpcajkaaGreatDoor
