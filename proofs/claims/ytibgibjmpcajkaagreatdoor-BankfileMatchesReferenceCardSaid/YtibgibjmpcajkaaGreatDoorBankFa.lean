/- The walks of elements and of the closure of ReadAnswers. -/
import Derived.Test.YtibgibjmpcajkaaGreatDoorBankFp
import Derived.Test.YtibgibjmpcajkaaGreatDoorBankEa
namespace Go.Proofs.YtibgibjmpcajkaaGreatDoor
open Go.RowKit BankS

set_option maxHeartbeats 1000000 in
theorem ans_noL (w0 : World) (t : ByteArray) (p : Nat) (l : List Ans) (wx : World) (hT : Tabs w0) (h : RdI ansC 5 54 23 w0 t p l wx) (hp : p ≤ t.size) (ht : t.size ≤ 4294967200) (hl : lineP 5 ((L t).drop p) = none) :
    Calls Tryz.prog 52 #[.pointer (some ⟨w0.heap.size + 3, 0, none⟩), .pointer (some ⟨w0.heap.size + 1, 0, none⟩)] wx fun e w' => e = dam ∧ Hid (RdX w0 w') := by
  have HI := Lib.hid h
  have HL := Lib.hid hl
  clear h hl
  have hTx := HI.out.tabs hT
  have c3 : wx.cell? ⟨w0.heap.size + 3, 0, none⟩ = some (.pointer (some ⟨w0.heap.size + 2, 0, none⟩)) := by rw [cell_row HI.out.rv]; rfl
  go_enter Tryz.func52, Tryz.ntmps52
  go_wp2_with fail
  refine (line_no t _ p 5 _ hTx HI.out.rdr hp ht (by omega) HL.out).mono ?_
  rintro e w1 ⟨rfl, b1⟩
  exact ⟨rfl, rfl, Lib.hid (HI.out.out.below b1.out)⟩
theorem ans_elem (w0 : World) (t : ByteArray) (p : Nat) (l : List Ans) (wx : World) (hT : Tabs w0) (h : RdI ansC 5 54 23 w0 t p l wx) (hp : p ≤ t.size) (ht : t.size ≤ 4294967200) (hlen : l.length ≤ 1000) :
    Calls Tryz.prog 52 #[.pointer (some ⟨w0.heap.size + 3, 0, none⟩), .pointer (some ⟨w0.heap.size + 1, 0, none⟩)] wx fun e w' => match ansP ((L t).drop p) with
      | some (x, r) => e = .returned (.tuple #[]) ∧ ∃ q : Nat, q ≤ t.size ∧ Hid ((L t).drop q = r) ∧ Hid (RdI ansC 5 54 23 w0 t q (l ++ [x]) w')
      | none => e = dam ∧ Hid (RdX w0 w') := by
  unfold ansP
  cases hl : lineP 5 ((L t).drop p) with
  | none => exact ans_noL w0 t p l wx hT h hp ht hl
  | some wr =>
    obtain ⟨ws, r⟩ := wr
    simp only [Option.bind_some]
    cases h0 : numP (ws.getD 0 []) with
    | none => exact ans_no0 w0 t p l wx hT h hp ht hlen ws r hl h0
    | some v0 =>
      simp only [Option.bind_some]
      cases h1 : numP (ws.getD 1 []) with
      | none => exact ans_no1 w0 t p l wx hT h hp ht hlen ws r hl v0 h0 h1
      | some v1 =>
        simp only [Option.bind_some]
        cases h2 : kindP (ws.getD 2 []) with
        | none => exact ans_no2 w0 t p l wx hT h hp ht hlen ws r hl v0 h0 v1 h1 h2
        | some v2 =>
          simp only [Option.bind_some]
          cases h3 : numP (ws.getD 3 []) with
          | none => exact ans_no3 w0 t p l wx hT h hp ht hlen ws r hl v0 h0 v1 h1 v2 h2 h3
          | some v3 =>
            simp only [Option.bind_some]
            cases h4 : dayP (ws.getD 4 []) with
            | none => exact ans_no4 w0 t p l wx hT h hp ht hlen ws r hl v0 h0 v1 h1 v2 h2 v3 h3 h4
            | some v4 =>
              exact ans_yes w0 t p l wx hT h hp ht hlen ws r hl v0 h0 v1 h1 v2 h2 v3 h3 v4 h4

set_option maxHeartbeats 4000000 in
theorem ans_elements (w0 : World) (t : ByteArray) (wx : World) (hT : Tabs w0) (h : RdI ansC 5 54 23 w0 t 0 [] wx) (ht : t.size ≤ 4294967200) :
    Calls Tryz.prog 41 #[.pointer (some ⟨w0.heap.size + 2, 0, none⟩), .string { data := #[97, 110, 115, 119, 101, 114, 115] }, .func (.func 52) #[] #[.pointer (some ⟨w0.heap.size + 3, 0, none⟩), .pointer (some ⟨w0.heap.size + 1, 0, none⟩)]] wx (RetF (RdI ansC 5 54 23 w0 t) w0 t.size (fileP ansW ansP (L t))) := by
  have HI := Lib.hid h
  clear h
  have hTx := HI.out.tabs hT
  have hsx := HI.out.size
  cases hl : lineP 2 (L t) with
  | none =>
    have HF := Lib.hid (fileP_l (word := ansW) (f := ansP) hl)
    have HL := Lib.hid hl
    clear hl
    go_enter Tryz.func41, Tryz.ntmps41
    go_wp2_with fail
    refine (line_no t _ 0 2 _ hTx HI.out.rdr (by omega) ht (by omega) HL.out).mono ?_
    rintro e w1 ⟨rfl, b1⟩
    exact ⟨rfl, RetF.no HF.out (HI.out.out.below b1.out)⟩
  | some wsr =>
    obtain ⟨ws, r⟩ := wsr
    have HL := Lib.hid hl
    clear hl
    go_enter Tryz.func41, Tryz.ntmps41
    go_wp2_with fail
    refine (line_yes t _ 0 2 _ hTx HI.out.rdr (by omega) ht (by omega) ws r HL.out).mono ?_
    rintro e w1 ⟨xs, b, q, rfl, hb0, hbl, HXs, HXm, HRd, hq, HQ, HRR, HG⟩
    have HI1 : Hid (RdI ansC 5 54 23 w0 t q [] w1) := Lib.hid (HI.out.moved HG.out HRR.out)
    have hT1 := HI1.out.tabs hT
    obtain ⟨x0, x1, rfl, hx0, hx1, d0, d1⟩ := words_two HXm.out (lineP_len HL.out) HRd.out
    have X0 := Lib.hid hx0
    have X1 := Lib.hid hx1
    have hz1 : x1.size ≤ t.size := HXs.out x1 (by simp)
    clear hx0 hx1 HXm HRd HXs HRR HG
    by_cases hw : ws.getD 0 [] = ansW
    · have hxw : x0 = { data := #[97, 110, 115, 119, 101, 114, 115] } := str_eq (X0.out.trans hw)
      have HW := Lib.hid hw
      clear hw
      subst hxw
      cases hn : numP (ws.getD 1 []) with
      | none =>
        have HF := Lib.hid (fileP_n (word := ansW) (f := ansP) HL.out hn)
        have HN := Lib.hid hn
        clear hn
        go_wp2_with fail
        refine (require_yes _).mono ?_
        rintro e w2 ⟨rfl, rfl⟩
        go_wp2_with fail
        refine (number_no x1 _ hT1 (by omega) (by rw [X1.out]; exact HN.out)).mono ?_
        rintro e w3 ⟨rfl, b3⟩
        exact ⟨rfl, RetF.no HF.out (HI1.out.out.below b3.out)⟩
      | some n =>
        have HN := Lib.hid hn
        clear hn
        go_wp2_with fail
        refine (require_yes _).mono ?_
        rintro e w2 ⟨rfl, rfl⟩
        go_wp2_with fail
        refine (number_yes x1 n _ (by omega) (by rw [X1.out]; exact HN.out)).mono ?_
        rintro e w3 ⟨rfl, b3⟩
        have HI3 : Hid (RdI ansC 5 54 23 w0 t q [] w3) := Lib.hid (HI1.out.below b3.out)
        clear b3 d0 d1
        by_cases hc : 0 ≤ n ∧ n ≤ 400
        · have HF := Lib.hid (fileP_m (f := ansP) HL.out HW.out HN.out hc)
          obtain ⟨g1, g2⟩ := hc
          obtain ⟨m, rfl⟩ := Int.eq_ofNat_of_zero_le g1
          go_wp2_with fail
          refine (require_yes _).mono ?_
          rintro e w4 ⟨rfl, rfl⟩
          go_wp2_with fail
          go_loopg [28] m (fun g i wy => ∃ (k p : Nat) (l : List Ans), k ≤ m ∧ g = m - k ∧ p ≤ t.size ∧ l.length ≤ k ∧ Hid (RdI ansC 5 54 23 w0 t p l wy) ∧ Hid (manyP ansP m r = (manyP ansP (m - k) ((L t).drop p)).map (fun q => (l ++ q.1, q.2))) ∧ i = .int .i64 k)
          case atStart =>
            refine ⟨0, q, [], by omega, rfl, hq, by simp, HI3, Lib.hid ?_, rfl⟩
            rw [HQ.out, Nat.sub_zero]
            cases manyP ansP m r <;> rfl
          case round =>
            obtain ⟨k, p, l, hk, rfl, hp, hll, HK, HM, rfl⟩ := hrel
            by_cases hlt : k < m
            · have HE := Lib.hid (ans_elem w0 t p l wr hT HK.out hp ht (by omega))
              go_wp2_with fail
              cases hpe : ansP ((L t).drop p) with
              | none =>
                have HF2 : Hid (fileP ansW ansP (L t) = none) := Lib.hid (by
                  rw [HF.out, Int.toNat_natCast, HM.out, show m - k = (m - k - 1) + 1 from by omega, many_none hpe]; rfl)
                have HP := Lib.hid hpe
                clear hpe
                refine (HE.out).mono ?_
                intro e w5 hpost
                rw [HP.out] at hpost
                obtain ⟨rfl, hx5⟩ := hpost
                exact ⟨rfl, RetF.no HF2.out hx5.out⟩
              | some xr =>
                obtain ⟨x, r2⟩ := xr
                have HP := Lib.hid hpe
                clear hpe
                refine (HE.out).mono ?_
                intro e w5 hpost
                rw [HP.out] at hpost
                obtain ⟨rfl, q2, hq2, HQ2, HI5⟩ := hpost
                clear HE
                go_wp2_with fail
                go_roundg (m - (k + 1))
                case measure => omega
                case rel =>
                  refine ⟨k + 1, q2, l ++ [x], by omega, rfl, hq2, by simp; omega, HI5, Lib.hid ?_, by go_num⟩
                  rw [HM.out, show m - k = (m - (k + 1)) + 1 from by omega, many_some HP.out, HQ2.out]
                  cases manyP ansP (m - (k + 1)) r2 <;> simp
            · have HM2 : Hid (manyP ansP m r = some (l, (L t).drop p)) := Lib.hid (by rw [HM.out, show m - k = 0 from by omega]; simp [manyP])
              have hT5 := HK.out.tabs hT
              cases hl4 : lineP 4 ((L t).drop p) with
              | none =>
                have HF2 : Hid (fileP ansW ansP (L t) = none) := Lib.hid (by
                  rw [HF.out, Int.toNat_natCast, HM2.out, Option.bind_some]; simp only []; rw [hl4]; rfl)
                have H4 := Lib.hid hl4
                clear hl4
                go_wp2_with fail
                refine (line_no t _ p 4 _ hT5 HK.out.rdr hp ht (by omega) H4.out).mono ?_
                rintro e w5 ⟨rfl, b5⟩
                exact ⟨rfl, RetF.no HF2.out (HK.out.out.below b5.out)⟩
              | some zr =>
                obtain ⟨zs, r4⟩ := zr
                have HF2 : Hid (fileP ansW ansP (L t) = if r4 = [] then some l else none) := Lib.hid (by
                  rw [HF.out, Int.toNat_natCast, HM2.out, Option.bind_some]; simp only []; rw [hl4, Option.bind_some])
                have H4 := Lib.hid hl4
                clear hl4
                go_wp2_with fail
                refine (line_yes t _ p 4 _ hT5 HK.out.rdr hp ht (by omega) zs r4 H4.out).mono ?_
                rintro e w5 ⟨ys, b5, q5, rfl, _, _, _, _, _, hq5, HQ5, HRR5, HG5⟩
                have HI5 : Hid (RdI ansC 5 54 23 w0 t q5 l w5) := Lib.hid (HK.out.moved HG5.out HRR5.out)
                have c0 := HRR5.out.c0
                have c1 := HRR5.out.c1
                have hR5 := HRR5.out.lt
                go_wp2_with fail
                by_cases hr4 : r4 = []
                · have hqe : q5 = t.size := by have h1 := HQ5.out; rw [hr4, List.drop_eq_nil_iff, L_len] at h1; omega
                  have HF3 : Hid (fileP ansW ansP (L t) = some l) := Lib.hid (by rw [HF2.out, if_pos hr4])
                  have hb : ((q5 : Int) == (t.size : Int)) = true := by rw [beq_iff_eq]; omega
                  clear hr4 hqe
                  refine wp_region_held_drew (S := (fun W => Below w5.heap.size w5 W)) (by kernel_rfl) ((Below.refl _ _).drew) (fun hHeld => ?_)
                  refine takeL (i := 0) (v := ?_) rfl (by kernel_rfl) (by kernel_rfl) (by kernel_rfl) (fun _ _ _ h => h) (Or.inl ⟨by rfl, ?_⟩) hHeld ?_
                  rotate_left
                  · intro wS hSw; go_simp; try with_reducible rfl
                  try simp only [Act.put, List.setIfInBounds_toArray, List.set_cons_zero, List.set_cons_succ]
                  refine takeL (i := 1) (v := ?_) rfl (by kernel_rfl) (by kernel_rfl) (by kernel_rfl) (fun _ _ _ h => h) (Or.inl ⟨by rfl, ?_⟩) hHeld ?_
                  rotate_left
                  · intro wS hSw; go_simp; try with_reducible rfl
                  try simp only [Act.put, List.setIfInBounds_toArray, List.set_cons_zero, List.set_cons_succ]
                  refine takeL (i := 2) (v := ?_) rfl (by kernel_rfl) (by kernel_rfl) (by kernel_rfl) (fun _ _ _ h => h) (Or.inl ⟨by rfl, ?_⟩) hHeld ?_
                  rotate_left
                  · intro wS hSw; go_simp; try with_reducible rfl
                  try simp only [Act.put, List.setIfInBounds_toArray, List.set_cons_zero, List.set_cons_succ]
                  refine takeL (i := 3) (v := ?_) rfl (by kernel_rfl) (by kernel_rfl) (by kernel_rfl) (fun _ _ _ h => h) (Or.inl ⟨by rfl, ?_⟩) hHeld ?_
                  rotate_left
                  · intro wS hSw; go_simp; try with_reducible rfl
                  try simp only [Act.put, List.setIfInBounds_toArray, List.set_cons_zero, List.set_cons_succ]
                  refine takeL (i := 4) (v := ?_) rfl (by kernel_rfl) (by kernel_rfl) (by kernel_rfl) (fun _ _ _ h => h) (Or.inl ⟨by rfl, ?_⟩) hHeld ?_
                  rotate_left
                  · intro wS hSw; have c := (hSw.cell (p := ⟨w0.heap.size + 2, 0, none⟩) hR5).trans c0; go_simp; try with_reducible rfl
                  try simp only [Act.put, List.setIfInBounds_toArray, List.set_cons_zero, List.set_cons_succ]
                  refine takeL (i := 5) (v := ?_) rfl (by kernel_rfl) (by kernel_rfl) (by kernel_rfl) (fun _ _ _ h => h) (Or.inl ⟨by rfl, ?_⟩) hHeld ?_
                  rotate_left
                  · intro wS hSw; go_simp; try with_reducible rfl
                  try simp only [Act.put, List.setIfInBounds_toArray, List.set_cons_zero, List.set_cons_succ]
                  refine takeL (i := 6) (v := ?_) rfl (by kernel_rfl) (by kernel_rfl) (by kernel_rfl) (fun _ _ _ h => h) (Or.inl ⟨by rfl, ?_⟩) hHeld ?_
                  rotate_left
                  · intro wS hSw; go_simp; try with_reducible rfl
                  try simp only [Act.put, List.setIfInBounds_toArray, List.set_cons_zero, List.set_cons_succ]
                  refine takeL (i := 7) (v := ?_) rfl (by kernel_rfl) (by kernel_rfl) (by kernel_rfl) (fun _ _ _ h => h) (Or.inl ⟨by rfl, ?_⟩) hHeld ?_
                  rotate_left
                  · intro wS hSw; go_simp; try with_reducible rfl
                  try simp only [Act.put, List.setIfInBounds_toArray, List.set_cons_zero, List.set_cons_succ]
                  refine takeL (i := 8) (v := ?_) rfl (by kernel_rfl) (by kernel_rfl) (by kernel_rfl) (fun _ _ _ h => h) (Or.inl ⟨by rfl, ?_⟩) hHeld ?_
                  rotate_left
                  · intro wS hSw; have c := (hSw.cell (p := ⟨w0.heap.size + 2, 1, none⟩) hR5).trans c1; go_simp; try with_reducible rfl
                  try simp only [Act.put, List.setIfInBounds_toArray, List.set_cons_zero, List.set_cons_succ]
                  refine takeL (i := 9) (v := ?_) rfl (by kernel_rfl) (by kernel_rfl) (by kernel_rfl) (fun _ _ _ h => h) (Or.inl ⟨by rfl, ?_⟩) hHeld ?_
                  rotate_left
                  · intro wS hSw; go_simp; try with_reducible rfl
                  try simp only [Act.put, List.setIfInBounds_toArray, List.set_cons_zero, List.set_cons_succ]
                  refine takeL (i := 10) (v := ?_) rfl (by kernel_rfl) (by kernel_rfl) (by kernel_rfl) (fun _ _ _ h => h) (Or.inl ⟨by rfl, ?_⟩) hHeld ?_
                  rotate_left
                  · intro wS hSw; go_simp; try with_reducible rfl
                  try simp only [Act.put, List.setIfInBounds_toArray, List.set_cons_zero, List.set_cons_succ]
                  refine readyL (i := 11) (by kernel_rfl) rfl (fun K hK => ?_)
                  go_simp
                  refine (require_yes _).mono ?_
                  rintro e w6 ⟨rfl, rfl⟩
                  go_wp2_with fail
                  refine hK.out _ _ hHeld (fun _ => ?_)
                  clear hK K
                  try simp only [Act.put, List.setIfInBounds_toArray, List.set_cons_zero, List.set_cons_succ]
                  refine wpAnyH_done (by kernel_rfl) ?_ _
                  clear hb
                  go_wp2_with fail
                  go_end0
                  exact RetF.yes HF3.out hq5 (HI5.out.below ((Below.refl _ _).drew))
                · have hqe : q5 ≠ t.size := by intro e; apply hr4; have h1 := HQ5.out; rw [← h1, List.drop_eq_nil_iff, L_len]; omega
                  have HF3 : Hid (fileP ansW ansP (L t) = none) := Lib.hid (by rw [HF2.out, if_neg hr4])
                  have hb : ((q5 : Int) == (t.size : Int)) = false := by rw [beq_eq_false_iff_ne]; omega
                  clear hr4 hqe
                  refine wp_region_held_drew (S := (fun W => Below w5.heap.size w5 W)) (by kernel_rfl) ((Below.refl _ _).drew) (fun hHeld => ?_)
                  refine takeL (i := 0) (v := ?_) rfl (by kernel_rfl) (by kernel_rfl) (by kernel_rfl) (fun _ _ _ h => h) (Or.inl ⟨by rfl, ?_⟩) hHeld ?_
                  rotate_left
                  · intro wS hSw; go_simp; try with_reducible rfl
                  try simp only [Act.put, List.setIfInBounds_toArray, List.set_cons_zero, List.set_cons_succ]
                  refine takeL (i := 1) (v := ?_) rfl (by kernel_rfl) (by kernel_rfl) (by kernel_rfl) (fun _ _ _ h => h) (Or.inl ⟨by rfl, ?_⟩) hHeld ?_
                  rotate_left
                  · intro wS hSw; go_simp; try with_reducible rfl
                  try simp only [Act.put, List.setIfInBounds_toArray, List.set_cons_zero, List.set_cons_succ]
                  refine takeL (i := 2) (v := ?_) rfl (by kernel_rfl) (by kernel_rfl) (by kernel_rfl) (fun _ _ _ h => h) (Or.inl ⟨by rfl, ?_⟩) hHeld ?_
                  rotate_left
                  · intro wS hSw; go_simp; try with_reducible rfl
                  try simp only [Act.put, List.setIfInBounds_toArray, List.set_cons_zero, List.set_cons_succ]
                  refine takeL (i := 3) (v := ?_) rfl (by kernel_rfl) (by kernel_rfl) (by kernel_rfl) (fun _ _ _ h => h) (Or.inl ⟨by rfl, ?_⟩) hHeld ?_
                  rotate_left
                  · intro wS hSw; go_simp; try with_reducible rfl
                  try simp only [Act.put, List.setIfInBounds_toArray, List.set_cons_zero, List.set_cons_succ]
                  refine takeL (i := 4) (v := ?_) rfl (by kernel_rfl) (by kernel_rfl) (by kernel_rfl) (fun _ _ _ h => h) (Or.inl ⟨by rfl, ?_⟩) hHeld ?_
                  rotate_left
                  · intro wS hSw; have c := (hSw.cell (p := ⟨w0.heap.size + 2, 0, none⟩) hR5).trans c0; go_simp; try with_reducible rfl
                  try simp only [Act.put, List.setIfInBounds_toArray, List.set_cons_zero, List.set_cons_succ]
                  refine takeL (i := 5) (v := ?_) rfl (by kernel_rfl) (by kernel_rfl) (by kernel_rfl) (fun _ _ _ h => h) (Or.inl ⟨by rfl, ?_⟩) hHeld ?_
                  rotate_left
                  · intro wS hSw; go_simp; try with_reducible rfl
                  try simp only [Act.put, List.setIfInBounds_toArray, List.set_cons_zero, List.set_cons_succ]
                  refine takeL (i := 6) (v := ?_) rfl (by kernel_rfl) (by kernel_rfl) (by kernel_rfl) (fun _ _ _ h => h) (Or.inl ⟨by rfl, ?_⟩) hHeld ?_
                  rotate_left
                  · intro wS hSw; go_simp; try with_reducible rfl
                  try simp only [Act.put, List.setIfInBounds_toArray, List.set_cons_zero, List.set_cons_succ]
                  refine takeL (i := 7) (v := ?_) rfl (by kernel_rfl) (by kernel_rfl) (by kernel_rfl) (fun _ _ _ h => h) (Or.inl ⟨by rfl, ?_⟩) hHeld ?_
                  rotate_left
                  · intro wS hSw; go_simp; try with_reducible rfl
                  try simp only [Act.put, List.setIfInBounds_toArray, List.set_cons_zero, List.set_cons_succ]
                  refine takeL (i := 8) (v := ?_) rfl (by kernel_rfl) (by kernel_rfl) (by kernel_rfl) (fun _ _ _ h => h) (Or.inl ⟨by rfl, ?_⟩) hHeld ?_
                  rotate_left
                  · intro wS hSw; have c := (hSw.cell (p := ⟨w0.heap.size + 2, 1, none⟩) hR5).trans c1; go_simp; try with_reducible rfl
                  try simp only [Act.put, List.setIfInBounds_toArray, List.set_cons_zero, List.set_cons_succ]
                  refine takeL (i := 9) (v := ?_) rfl (by kernel_rfl) (by kernel_rfl) (by kernel_rfl) (fun _ _ _ h => h) (Or.inl ⟨by rfl, ?_⟩) hHeld ?_
                  rotate_left
                  · intro wS hSw; go_simp; try with_reducible rfl
                  try simp only [Act.put, List.setIfInBounds_toArray, List.set_cons_zero, List.set_cons_succ]
                  refine takeL (i := 10) (v := ?_) rfl (by kernel_rfl) (by kernel_rfl) (by kernel_rfl) (fun _ _ _ h => h) (Or.inl ⟨by rfl, ?_⟩) hHeld ?_
                  rotate_left
                  · intro wS hSw; go_simp; try with_reducible rfl
                  try simp only [Act.put, List.setIfInBounds_toArray, List.set_cons_zero, List.set_cons_succ]
                  refine readyL (i := 11) (by kernel_rfl) rfl (fun K hK => ?_)
                  go_simp
                  refine (require_no _).mono ?_
                  rintro e w6 ⟨rfl, rfl⟩
                  exact ⟨rfl, RetF.no HF3.out (HI5.out.out.below ((Below.refl _ _).drew))⟩
        · have HF := Lib.hid (fileP_c (word := ansW) (f := ansP) HL.out HN.out hc)
          have hc2 : n < 0 ∨ (0 ≤ n ∧ 400 < n) := by omega
          clear hc
          rcases hc2 with k1 | ⟨k1, k2⟩
          · go_wp2_with fail
            refine (require_no _).mono ?_
            rintro e w4 ⟨rfl, rfl⟩
            exact ⟨rfl, RetF.no HF.out (RdI.out HI3.out)⟩
          · have hd4 : decide (n ≤ 400) = false := by simp; omega
            go_wp2_with fail
            refine (require_no _).mono ?_
            rintro e w4 ⟨rfl, rfl⟩
            exact ⟨rfl, RetF.no HF.out (RdI.out HI3.out)⟩
    · have HF := Lib.hid (fileP_w (f := ansP) HL.out hw)
      have hxn : ¬ x0 = { data := #[97, 110, 115, 119, 101, 114, 115] } := fun e => hw (by rw [← X0.out, e]; rfl)
      have hb0 := str_neq hxn
      rw [show (({ data := #[97, 110, 115, 119, 101, 114, 115] } : ByteArray).toList) = [97, 110, 115, 119, 101, 114, 115] from by rw [ByteArray.toList_eq]] at hb0
      have hb : (x0.toList == [97, 110, 115, 119, 101, 114, 115]) = false := hb0
      clear hb0 hxn
      clear hw
      go_wp2_with fail
      refine (require_no _).mono ?_
      rintro e w4 ⟨rfl, rfl⟩
      exact ⟨rfl, RetF.no HF.out (RdI.out HI1.out)⟩
end Go.Proofs.YtibgibjmpcajkaaGreatDoor
