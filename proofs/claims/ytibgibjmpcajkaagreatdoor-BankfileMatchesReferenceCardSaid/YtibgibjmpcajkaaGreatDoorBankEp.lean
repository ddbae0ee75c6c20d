/- The walk of the closure that reads one payment. -/
import Derived.Test.YtibgibjmpcajkaaGreatDoorBankI
namespace Go.Proofs.YtibgibjmpcajkaaGreatDoor
open Go.RowKit BankS

set_option maxHeartbeats 8000000 in
set_option maxRecDepth 100000 in
theorem pay_yes (w0 : World) (t : ByteArray) (p : Nat) (l : List Pay) (wx : World) (hT : Tabs w0) (h : RdI payC 4 27 22 w0 t p l wx) (hp : p ≤ t.size) (ht : t.size ≤ 4294967200) (hlen : l.length ≤ 1000) (ws : List Bs) (r : Bs) (hl : lineP 4 ((L t).drop p) = some (ws, r)) (n0 : Int) (h0 : numP (ws.getD 0 []) = some n0) (nm : Bs) (h1 : nameP (ws.getD 1 []) = some nm) (n2 : Int) (h2 : numP (ws.getD 2 []) = some n2) (n3 : Int) (h3 : dayP (ws.getD 3 []) = some n3) :
    Calls Tryz.prog 42 #[.pointer (some ⟨w0.heap.size + 3, 0, none⟩), .pointer (some ⟨w0.heap.size + 1, 0, none⟩)] wx (fun e w' => e = .returned (.tuple #[]) ∧ ∃ q : Nat, q ≤ t.size ∧ Hid ((L t).drop q = r) ∧ Hid (RdI payC 4 27 22 w0 t q (l ++ [(n0, nm, n2, n3)]) w')) := by
  have HI := Lib.hid h
  have HL := Lib.hid hl
  have G0 := Lib.hid h0
  have G1 := Lib.hid h1
  have G2 := Lib.hid h2
  have G3 := Lib.hid h3
  clear h hl h0 h1 h2 h3
  have hTx := HI.out.tabs hT
  have hsx := HI.out.size
  have c3 : wx.cell? ⟨w0.heap.size + 3, 0, none⟩ = some (.pointer (some ⟨w0.heap.size + 2, 0, none⟩)) := by rw [cell_row HI.out.rv]; rfl
  obtain ⟨i0, hi, hz0, hz1, hz2⟩ := info_parts Tryz.infoPay
  go_enter Tryz.func42, Tryz.ntmps42
  go_wp2_with fail
  refine (line_yes t _ p 4 _ hTx HI.out.rdr hp ht (by omega) ws r HL.out).mono ?_
  rintro e w1 ⟨xs, b, q, rfl, hb0, hbl, HXs, HXm, HRd, hq, HQ, HRR, HG⟩
  have HI1 : Hid (RdI payC 4 27 22 w0 t q l w1) := Lib.hid (HI.out.moved HG.out HRR.out)
  have hws : ws.length = 4 := by
    have := HL.out
    unfold lineP at this
    cases hc : cutL 10 ((L t).drop p) with
    | none => rw [hc] at this; cases this
    | some ab =>
      rw [hc] at this
      simp only [] at this
      by_cases hw : (splitL 32 ab.1).length = 4
      · rw [if_pos hw] at this; injection this with this; injection this with h1 _; rw [← h1]; exact hw
      · rw [if_neg hw] at this; cases this
  have hxl : xs.length = 4 := by rw [← hws, ← HXm.out, List.length_map]
  obtain ⟨x0, x1, x2, x3, rfl⟩ : ∃ x0 x1 x2 x3, xs = [x0, x1, x2, x3] := by
    match xs, hxl with
    | [x0, x1, x2, x3], _ => exact ⟨x0, x1, x2, x3, rfl⟩
  clear hxl hws
  have X0 : Hid (L x0 = ws.getD 0 []) := Lib.hid (by rw [← HXm.out]; rfl)
  have hx0 : x0.size ≤ t.size := HXs.out x0 (by simp)
  have d0 : w1.cell? ⟨b, 0, none⟩ = some (.string x0) := by
    obtain ⟨A, cap, e, hc, _, hcell⟩ := HRd.out
    injection e with e1 e2 e3
    subst e1 e3
    obtain ⟨g, o, hA, hg, hx⟩ := hcell (by simp)
    injection hA with hA
    injection hA with k1 k2
    subst k1 k2
    have := hx 0 (.string x0) rfl
    rw [Nat.zero_add] at this
    exact this
  have X1 : Hid (L x1 = ws.getD 1 []) := Lib.hid (by rw [← HXm.out]; rfl)
  have hx1 : x1.size ≤ t.size := HXs.out x1 (by simp)
  have d1 : w1.cell? ⟨b, 1, none⟩ = some (.string x1) := by
    obtain ⟨A, cap, e, hc, _, hcell⟩ := HRd.out
    injection e with e1 e2 e3
    subst e1 e3
    obtain ⟨g, o, hA, hg, hx⟩ := hcell (by simp)
    injection hA with hA
    injection hA with k1 k2
    subst k1 k2
    have := hx 1 (.string x1) rfl
    rw [Nat.zero_add] at this
    exact this
  have X2 : Hid (L x2 = ws.getD 2 []) := Lib.hid (by rw [← HXm.out]; rfl)
  have hx2 : x2.size ≤ t.size := HXs.out x2 (by simp)
  have d2 : w1.cell? ⟨b, 2, none⟩ = some (.string x2) := by
    obtain ⟨A, cap, e, hc, _, hcell⟩ := HRd.out
    injection e with e1 e2 e3
    subst e1 e3
    obtain ⟨g, o, hA, hg, hx⟩ := hcell (by simp)
    injection hA with hA
    injection hA with k1 k2
    subst k1 k2
    have := hx 2 (.string x2) rfl
    rw [Nat.zero_add] at this
    exact this
  have X3 : Hid (L x3 = ws.getD 3 []) := Lib.hid (by rw [← HXm.out]; rfl)
  have hx3 : x3.size ≤ t.size := HXs.out x3 (by simp)
  have d3 : w1.cell? ⟨b, 3, none⟩ = some (.string x3) := by
    obtain ⟨A, cap, e, hc, _, hcell⟩ := HRd.out
    injection e with e1 e2 e3
    subst e1 e3
    obtain ⟨g, o, hA, hg, hx⟩ := hcell (by simp)
    injection hA with hA
    injection hA with k1 k2
    subst k1 k2
    have := hx 3 (.string x3) rfl
    rw [Nat.zero_add] at this
    exact this
  obtain ⟨u, hu, hown⟩ := HI1.out.lst
  have cu : w1.cell? ⟨w0.heap.size + 1, 0, none⟩ = some u := by rw [cell_row hu]; rfl
  have hul : w0.heap.size + 1 < w1.heap.size := by have := HI1.out.size; omega
  have hTw := HI1.out.tabs hT
  have hb2 : u.ownBlock ≠ some b := fun e => by
    obtain ⟨u2, hu2, ho2⟩ := HI.out.lst
    have e3 : w1.heap[w0.heap.size + 1]? = wx.heap[w0.heap.size + 1]? := HG.out.block _ (by omega) (by intro e4; injection e4 with e4; omega)
    rw [e3, hu2] at hu
    injection hu with hu
    injection hu with hu
    have e5 : u2 = u := by have := congrArg (fun a : Array Value => a[0]?) hu; simpa using this
    subst e5
    have := (ho2.lt b e).2
    omega
  have hb3 : b ≠ w0.heap.size + 1 := by omega
  have HU := Lib.hid hu
  have HO := Lib.hid hown
  have HB2 := Lib.hid hb2
  clear hu hown hb2 HRd HXs HXm
  go_wp2_with fail
  refine wp_region_held_drew (S := (SX w1 u (w0.heap.size + 1))) (by kernel_rfl) (fun k hk _ _ => Below.block ((Below.refl w1.heap.size w1).drew) k hk) (fun hHeld => ?_)
  have sH : Below w1.heap.size w1 w1.drew := (Below.refl _ _).drew
  refine takeL (i := 1) (v := ?_) rfl (by kernel_rfl) (by kernel_rfl) (by kernel_rfl) (fun _ _ _ h => h) (Or.inl ⟨by rfl, ?_⟩) hHeld ?_
  rotate_left
  · intro wS hSw; go_simp; try with_reducible rfl
  try simp only [Act.put, List.setIfInBounds_toArray, List.set_cons_zero, List.set_cons_succ]
  refine takeL (i := 2) (v := ?_) rfl (by kernel_rfl) (by kernel_rfl) (by kernel_rfl) (fun _ _ _ h => h) (Or.inl ⟨by rfl, ?_⟩) hHeld ?_
  rotate_left
  · intro wS hSw; go_simp; try with_reducible rfl
  try simp only [Act.put, List.setIfInBounds_toArray, List.set_cons_zero, List.set_cons_succ]
  refine takeL (i := 3) (v := ?_) rfl (by kernel_rfl) (by kernel_rfl) (by kernel_rfl) (fun _ _ _ h => h) (Or.inl ⟨by rfl, ?_⟩) hHeld ?_
  rotate_left
  · intro wS hSw; have c := (World.cell?_of_block (w := w1) (a := ⟨b, 0, none⟩) (hSw b hbl HB2.out hb3)).trans d0; go_simp; try with_reducible rfl
  try simp only [Act.put, List.setIfInBounds_toArray, List.set_cons_zero, List.set_cons_succ]
  refine takeL (i := 5) (v := ?_) rfl (by kernel_rfl) (by kernel_rfl) (by kernel_rfl) (fun _ _ _ h => h) (Or.inl ⟨by rfl, ?_⟩) hHeld ?_
  rotate_left
  · intro wS hSw; go_simp; try with_reducible rfl
  try simp only [Act.put, List.setIfInBounds_toArray, List.set_cons_zero, List.set_cons_succ]
  refine takeL (i := 6) (v := ?_) rfl (by kernel_rfl) (by kernel_rfl) (by kernel_rfl) (fun _ _ _ h => h) (Or.inl ⟨by rfl, ?_⟩) hHeld ?_
  rotate_left
  · intro wS hSw; go_simp; try with_reducible rfl
  try simp only [Act.put, List.setIfInBounds_toArray, List.set_cons_zero, List.set_cons_succ]
  refine takeL (i := 7) (v := ?_) rfl (by kernel_rfl) (by kernel_rfl) (by kernel_rfl) (fun _ _ _ h => h) (Or.inl ⟨by rfl, ?_⟩) hHeld ?_
  rotate_left
  · intro wS hSw; have c := (World.cell?_of_block (w := w1) (a := ⟨b, 1, none⟩) (hSw b hbl HB2.out hb3)).trans d1; go_simp; try with_reducible rfl
  try simp only [Act.put, List.setIfInBounds_toArray, List.set_cons_zero, List.set_cons_succ]
  refine takeL (i := 9) (v := ?_) rfl (by kernel_rfl) (by kernel_rfl) (by kernel_rfl) (fun _ _ _ h => h) (Or.inl ⟨by rfl, ?_⟩) hHeld ?_
  rotate_left
  · intro wS hSw; go_simp; try with_reducible rfl
  try simp only [Act.put, List.setIfInBounds_toArray, List.set_cons_zero, List.set_cons_succ]
  refine takeL (i := 10) (v := ?_) rfl (by kernel_rfl) (by kernel_rfl) (by kernel_rfl) (fun _ _ _ h => h) (Or.inl ⟨by rfl, ?_⟩) hHeld ?_
  rotate_left
  · intro wS hSw; go_simp; try with_reducible rfl
  try simp only [Act.put, List.setIfInBounds_toArray, List.set_cons_zero, List.set_cons_succ]
  refine takeL (i := 11) (v := ?_) rfl (by kernel_rfl) (by kernel_rfl) (by kernel_rfl) (fun _ _ _ h => h) (Or.inl ⟨by rfl, ?_⟩) hHeld ?_
  rotate_left
  · intro wS hSw; have c := (World.cell?_of_block (w := w1) (a := ⟨b, 2, none⟩) (hSw b hbl HB2.out hb3)).trans d2; go_simp; try with_reducible rfl
  try simp only [Act.put, List.setIfInBounds_toArray, List.set_cons_zero, List.set_cons_succ]
  refine takeL (i := 13) (v := ?_) rfl (by kernel_rfl) (by kernel_rfl) (by kernel_rfl) (fun _ _ _ h => h) (Or.inl ⟨by rfl, ?_⟩) hHeld ?_
  rotate_left
  · intro wS hSw; go_simp; try with_reducible rfl
  try simp only [Act.put, List.setIfInBounds_toArray, List.set_cons_zero, List.set_cons_succ]
  refine takeL (i := 14) (v := ?_) rfl (by kernel_rfl) (by kernel_rfl) (by kernel_rfl) (fun _ _ _ h => h) (Or.inl ⟨by rfl, ?_⟩) hHeld ?_
  rotate_left
  · intro wS hSw; go_simp; try with_reducible rfl
  try simp only [Act.put, List.setIfInBounds_toArray, List.set_cons_zero, List.set_cons_succ]
  refine takeL (i := 15) (v := ?_) rfl (by kernel_rfl) (by kernel_rfl) (by kernel_rfl) (fun _ _ _ h => h) (Or.inl ⟨by rfl, ?_⟩) hHeld ?_
  rotate_left
  · intro wS hSw; have c := (World.cell?_of_block (w := w1) (a := ⟨b, 3, none⟩) (hSw b hbl HB2.out hb3)).trans d3; go_simp; try with_reducible rfl
  try simp only [Act.put, List.setIfInBounds_toArray, List.set_cons_zero, List.set_cons_succ]
  refine readyL2 (i := 0) (j := 4) (by kernel_rfl) rfl rfl (fun K hK => ?_) (fun K hK => ?_)
  · have c0 := (Below.cell sH (p := ⟨w0.heap.size + 1, 0, none⟩) hul).trans cu
    go_simp
    refine hK.out _ _ (fun k hk _ _ => Below.block sH k hk) (fun _ => ?_)
    clear hK K
    try simp only [Act.put, List.setIfInBounds_toArray, List.set_cons_zero, List.set_cons_succ]
    clear c0
    refine readyL (i := 4) (by kernel_rfl) rfl (fun K hK => ?_)
    go_simp
    refine (number_yes x0 n0 _ (by omega) (by rw [X0.out]; exact G0.out)).mono ?_
    rintro e y0 ⟨rfl, b0⟩
    have s0 : Below w1.heap.size w1 y0 := Below.trans sH (b0.out.mono (Below.size sH))
    clear b0
    go_wp2_with fail
    refine hK.out _ _ (fun k hk _ _ => Below.block s0 k hk) (fun _ => ?_)
    clear hK K
    try simp only [Act.put, List.setIfInBounds_toArray, List.set_cons_zero, List.set_cons_succ]
    refine readyL (i := 8) (by kernel_rfl) rfl (fun K hK => ?_)
    go_simp
    refine (name_yes_walk x1 nm _ (hTw.below s0) (by omega) (by rw [X1.out]; exact G1.out)).mono ?_
    rintro e y1 ⟨z, rfl, HZ, b1⟩
    have s1 : Below w1.heap.size w1 y1 := Below.trans s0 (b1.out.mono (Below.size s0))
    clear b1
    go_wp2_with fail
    refine hK.out _ _ (fun k hk _ _ => Below.block s1 k hk) (fun _ => ?_)
    clear hK K
    try simp only [Act.put, List.setIfInBounds_toArray, List.set_cons_zero, List.set_cons_succ]
    refine readyL (i := 12) (by kernel_rfl) rfl (fun K hK => ?_)
    go_simp
    refine (number_yes x2 n2 _ (by omega) (by rw [X2.out]; exact G2.out)).mono ?_
    rintro e y2 ⟨rfl, b2⟩
    have s2 : Below w1.heap.size w1 y2 := Below.trans s1 (b2.out.mono (Below.size s1))
    clear b2
    go_wp2_with fail
    refine hK.out _ _ (fun k hk _ _ => Below.block s2 k hk) (fun _ => ?_)
    clear hK K
    try simp only [Act.put, List.setIfInBounds_toArray, List.set_cons_zero, List.set_cons_succ]
    refine readyL (i := 16) (by kernel_rfl) rfl (fun K hK => ?_)
    go_simp
    refine (day_yes x3 n3 _ (hTw.below s2) (by rw [X3.out]; exact G3.out)).mono ?_
    rintro e y3 ⟨rfl, b3⟩
    have s3 : Below w1.heap.size w1 y3 := Below.trans s2 (b3.out.mono (Below.size s2))
    clear b3
    go_wp2_with fail
    refine hK.out _ _ (fun k hk _ _ => Below.block s3 k hk) (fun _ => ?_)
    clear hK K
    try simp only [Act.put, List.setIfInBounds_toArray, List.set_cons_zero, List.set_cons_succ]
    refine takeL (i := 17) (v := ?_) rfl (by kernel_rfl) (by kernel_rfl) (by kernel_rfl) (fun _ _ _ h => h) (Or.inl ⟨by rfl, ?_⟩) (fun k hk _ _ => Below.block s3 k hk) ?_
    rotate_left
    · intro wS hSw; go_simp; try with_reducible rfl
    try simp only [Act.put, List.setIfInBounds_toArray, List.set_cons_zero, List.set_cons_succ]
    refine readyL (i := 18) (by kernel_rfl) rfl (fun K hK => ?_)
    go_simp
    refine hK.out _ _ (fun k hk _ _ => Below.block (Below.alloc s3 (Below.size s3) _) k hk) (fun _ => ?_)
    clear hK K
    try simp only [Act.put, List.setIfInBounds_toArray, List.set_cons_zero, List.set_cons_succ]
    refine readyL (i := 19) (by kernel_rfl) rfl (fun K hK => ?_)
    rw [if_pos (by rfl)]
    refine wp_append_own _ _ _ 22 rfl (w0.heap.size + 5) 27 i0 _ 4 40 Tryz.underlying22 hi hz0 hz1 hz2 rfl (by decide) u l.length (cellsL payC l) rfl ((own_below HO.out s3).alloc _) ⟨y3.heap.size, 0, none⟩ 1 1 [.int .i64 n0, .string z, .int .i64 n2, .int .i64 n3] rfl rfl (cells_new y3 #[.int .i64 n0, .string z, .int .i64 n2, .int .i64 n3] _) (by simp [Value.oneCell']) (by unfold maxLen; omega) (by omega) (by have := Below.size s3; simp; omega) ?_
    intro v' w6 hown' hgrow _
    obtain ⟨g', cap', rfl⟩ := own_succ hown'
    have hsy := Below.size s3
    have hS6 : Hid (∀ k, k < w1.heap.size → u.ownBlock ≠ some k → w6.heap[k]? = w1.heap[k]?) := Lib.hid (fun k hk h1 => (hgrow.block k (by simp; omega) (fun e => h1 e.symm)).trans ((Below.heap_alloc _ _ _ (by omega)).trans (Below.block s3 k hk)))
    refine hK.out _ _ (fun k hk h1 _ => hS6.out k hk h1) (fun _ => ?_)
    clear hK K
    try simp only [Act.put, List.setIfInBounds_toArray, List.set_cons_zero, List.set_cons_succ]
    have hrow6 : w6.heap[w0.heap.size + 1]? = some (.cells #[u] 22 (0, 0)) := (hS6.out _ hul (fun e => by have := (HO.out.lt _ e).1; omega)).trans HU.out
    have HROW6 := Lib.hid hrow6
    have e6 : w6.cell? ⟨w0.heap.size + 1, 0, none⟩ = some u := by rw [cell_row hrow6]; rfl
    have f6 : w6.frozen? ⟨w0.heap.size + 1, 0, none⟩ = false := fz_row hrow6 0
    clear hrow6
    refine readyL (i := 20) (by kernel_rfl) rfl (fun K hK => ?_)
    go_simp
    refine hK.out _ _ (fun k hk h1 h2 => (Below.heap_setCell _ ⟨w0.heap.size + 1, 0, none⟩ _ _ h2).trans (hS6.out k hk h1)) (fun _ => ?_)
    clear hK K
    try simp only [Act.put, List.setIfInBounds_toArray, List.set_cons_zero, List.set_cons_succ]
    refine wpAnyH_done (by kernel_rfl) ?_ _
    clear hS6
    go_wp2_with fail
    go_end0
    exact ⟨rfl, q, hq, HQ, Lib.hid (by have := HZ.out; subst this; exact HI1.out.push (n0, L z, n2, n3) HU.out HO.out s3 hown' hgrow)⟩
  · go_simp
    refine (number_yes x0 n0 _ (by omega) (by rw [X0.out]; exact G0.out)).mono ?_
    rintro e y0 ⟨rfl, b0⟩
    have s0 : Below w1.heap.size w1 y0 := Below.trans sH (b0.out.mono (Below.size sH))
    clear b0
    go_wp2_with fail
    refine hK.out _ _ (fun k hk _ _ => Below.block s0 k hk) (fun _ => ?_)
    clear hK K
    try simp only [Act.put, List.setIfInBounds_toArray, List.set_cons_zero, List.set_cons_succ]
    refine readyL2 (i := 0) (j := 8) (by kernel_rfl) rfl rfl (fun K hK => ?_) (fun K hK => ?_)
    · have c0 := (Below.cell s0 (p := ⟨w0.heap.size + 1, 0, none⟩) hul).trans cu
      go_simp
      refine hK.out _ _ (fun k hk _ _ => Below.block s0 k hk) (fun _ => ?_)
      clear hK K
      try simp only [Act.put, List.setIfInBounds_toArray, List.set_cons_zero, List.set_cons_succ]
      clear c0
      refine readyL (i := 8) (by kernel_rfl) rfl (fun K hK => ?_)
      go_simp
      refine (name_yes_walk x1 nm _ (hTw.below s0) (by omega) (by rw [X1.out]; exact G1.out)).mono ?_
      rintro e y1 ⟨z, rfl, HZ, b1⟩
      have s1 : Below w1.heap.size w1 y1 := Below.trans s0 (b1.out.mono (Below.size s0))
      clear b1
      go_wp2_with fail
      refine hK.out _ _ (fun k hk _ _ => Below.block s1 k hk) (fun _ => ?_)
      clear hK K
      try simp only [Act.put, List.setIfInBounds_toArray, List.set_cons_zero, List.set_cons_succ]
      refine readyL (i := 12) (by kernel_rfl) rfl (fun K hK => ?_)
      go_simp
      refine (number_yes x2 n2 _ (by omega) (by rw [X2.out]; exact G2.out)).mono ?_
      rintro e y2 ⟨rfl, b2⟩
      have s2 : Below w1.heap.size w1 y2 := Below.trans s1 (b2.out.mono (Below.size s1))
      clear b2
      go_wp2_with fail
      refine hK.out _ _ (fun k hk _ _ => Below.block s2 k hk) (fun _ => ?_)
      clear hK K
      try simp only [Act.put, List.setIfInBounds_toArray, List.set_cons_zero, List.set_cons_succ]
      refine readyL (i := 16) (by kernel_rfl) rfl (fun K hK => ?_)
      go_simp
      refine (day_yes x3 n3 _ (hTw.below s2) (by rw [X3.out]; exact G3.out)).mono ?_
      rintro e y3 ⟨rfl, b3⟩
      have s3 : Below w1.heap.size w1 y3 := Below.trans s2 (b3.out.mono (Below.size s2))
      clear b3
      go_wp2_with fail
      refine hK.out _ _ (fun k hk _ _ => Below.block s3 k hk) (fun _ => ?_)
      clear hK K
      try simp only [Act.put, List.setIfInBounds_toArray, List.set_cons_zero, List.set_cons_succ]
      refine takeL (i := 17) (v := ?_) rfl (by kernel_rfl) (by kernel_rfl) (by kernel_rfl) (fun _ _ _ h => h) (Or.inl ⟨by rfl, ?_⟩) (fun k hk _ _ => Below.block s3 k hk) ?_
      rotate_left
      · intro wS hSw; go_simp; try with_reducible rfl
      try simp only [Act.put, List.setIfInBounds_toArray, List.set_cons_zero, List.set_cons_succ]
      refine readyL (i := 18) (by kernel_rfl) rfl (fun K hK => ?_)
      go_simp
      refine hK.out _ _ (fun k hk _ _ => Below.block (Below.alloc s3 (Below.size s3) _) k hk) (fun _ => ?_)
      clear hK K
      try simp only [Act.put, List.setIfInBounds_toArray, List.set_cons_zero, List.set_cons_succ]
      refine readyL (i := 19) (by kernel_rfl) rfl (fun K hK => ?_)
      rw [if_pos (by rfl)]
      refine wp_append_own _ _ _ 22 rfl (w0.heap.size + 5) 27 i0 _ 4 40 Tryz.underlying22 hi hz0 hz1 hz2 rfl (by decide) u l.length (cellsL payC l) rfl ((own_below HO.out s3).alloc _) ⟨y3.heap.size, 0, none⟩ 1 1 [.int .i64 n0, .string z, .int .i64 n2, .int .i64 n3] rfl rfl (cells_new y3 #[.int .i64 n0, .string z, .int .i64 n2, .int .i64 n3] _) (by simp [Value.oneCell']) (by unfold maxLen; omega) (by omega) (by have := Below.size s3; simp; omega) ?_
      intro v' w6 hown' hgrow _
      obtain ⟨g', cap', rfl⟩ := own_succ hown'
      have hsy := Below.size s3
      have hS6 : Hid (∀ k, k < w1.heap.size → u.ownBlock ≠ some k → w6.heap[k]? = w1.heap[k]?) := Lib.hid (fun k hk h1 => (hgrow.block k (by simp; omega) (fun e => h1 e.symm)).trans ((Below.heap_alloc _ _ _ (by omega)).trans (Below.block s3 k hk)))
      refine hK.out _ _ (fun k hk h1 _ => hS6.out k hk h1) (fun _ => ?_)
      clear hK K
      try simp only [Act.put, List.setIfInBounds_toArray, List.set_cons_zero, List.set_cons_succ]
      have hrow6 : w6.heap[w0.heap.size + 1]? = some (.cells #[u] 22 (0, 0)) := (hS6.out _ hul (fun e => by have := (HO.out.lt _ e).1; omega)).trans HU.out
      have HROW6 := Lib.hid hrow6
      have e6 : w6.cell? ⟨w0.heap.size + 1, 0, none⟩ = some u := by rw [cell_row hrow6]; rfl
      have f6 : w6.frozen? ⟨w0.heap.size + 1, 0, none⟩ = false := fz_row hrow6 0
      clear hrow6
      refine readyL (i := 20) (by kernel_rfl) rfl (fun K hK => ?_)
      go_simp
      refine hK.out _ _ (fun k hk h1 h2 => (Below.heap_setCell _ ⟨w0.heap.size + 1, 0, none⟩ _ _ h2).trans (hS6.out k hk h1)) (fun _ => ?_)
      clear hK K
      try simp only [Act.put, List.setIfInBounds_toArray, List.set_cons_zero, List.set_cons_succ]
      refine wpAnyH_done (by kernel_rfl) ?_ _
      clear hS6
      go_wp2_with fail
      go_end0
      exact ⟨rfl, q, hq, HQ, Lib.hid (by have := HZ.out; subst this; exact HI1.out.push (n0, L z, n2, n3) HU.out HO.out s3 hown' hgrow)⟩
    · go_simp
      refine (name_yes_walk x1 nm _ (hTw.below s0) (by omega) (by rw [X1.out]; exact G1.out)).mono ?_
      rintro e y1 ⟨z, rfl, HZ, b1⟩
      have s1 : Below w1.heap.size w1 y1 := Below.trans s0 (b1.out.mono (Below.size s0))
      clear b1
      go_wp2_with fail
      refine hK.out _ _ (fun k hk _ _ => Below.block s1 k hk) (fun _ => ?_)
      clear hK K
      try simp only [Act.put, List.setIfInBounds_toArray, List.set_cons_zero, List.set_cons_succ]
      refine readyL2 (i := 0) (j := 12) (by kernel_rfl) rfl rfl (fun K hK => ?_) (fun K hK => ?_)
      · have c0 := (Below.cell s1 (p := ⟨w0.heap.size + 1, 0, none⟩) hul).trans cu
        go_simp
        refine hK.out _ _ (fun k hk _ _ => Below.block s1 k hk) (fun _ => ?_)
        clear hK K
        try simp only [Act.put, List.setIfInBounds_toArray, List.set_cons_zero, List.set_cons_succ]
        clear c0
        refine readyL (i := 12) (by kernel_rfl) rfl (fun K hK => ?_)
        go_simp
        refine (number_yes x2 n2 _ (by omega) (by rw [X2.out]; exact G2.out)).mono ?_
        rintro e y2 ⟨rfl, b2⟩
        have s2 : Below w1.heap.size w1 y2 := Below.trans s1 (b2.out.mono (Below.size s1))
        clear b2
        go_wp2_with fail
        refine hK.out _ _ (fun k hk _ _ => Below.block s2 k hk) (fun _ => ?_)
        clear hK K
        try simp only [Act.put, List.setIfInBounds_toArray, List.set_cons_zero, List.set_cons_succ]
        refine readyL (i := 16) (by kernel_rfl) rfl (fun K hK => ?_)
        go_simp
        refine (day_yes x3 n3 _ (hTw.below s2) (by rw [X3.out]; exact G3.out)).mono ?_
        rintro e y3 ⟨rfl, b3⟩
        have s3 : Below w1.heap.size w1 y3 := Below.trans s2 (b3.out.mono (Below.size s2))
        clear b3
        go_wp2_with fail
        refine hK.out _ _ (fun k hk _ _ => Below.block s3 k hk) (fun _ => ?_)
        clear hK K
        try simp only [Act.put, List.setIfInBounds_toArray, List.set_cons_zero, List.set_cons_succ]
        refine takeL (i := 17) (v := ?_) rfl (by kernel_rfl) (by kernel_rfl) (by kernel_rfl) (fun _ _ _ h => h) (Or.inl ⟨by rfl, ?_⟩) (fun k hk _ _ => Below.block s3 k hk) ?_
        rotate_left
        · intro wS hSw; go_simp; try with_reducible rfl
        try simp only [Act.put, List.setIfInBounds_toArray, List.set_cons_zero, List.set_cons_succ]
        refine readyL (i := 18) (by kernel_rfl) rfl (fun K hK => ?_)
        go_simp
        refine hK.out _ _ (fun k hk _ _ => Below.block (Below.alloc s3 (Below.size s3) _) k hk) (fun _ => ?_)
        clear hK K
        try simp only [Act.put, List.setIfInBounds_toArray, List.set_cons_zero, List.set_cons_succ]
        refine readyL (i := 19) (by kernel_rfl) rfl (fun K hK => ?_)
        rw [if_pos (by rfl)]
        refine wp_append_own _ _ _ 22 rfl (w0.heap.size + 5) 27 i0 _ 4 40 Tryz.underlying22 hi hz0 hz1 hz2 rfl (by decide) u l.length (cellsL payC l) rfl ((own_below HO.out s3).alloc _) ⟨y3.heap.size, 0, none⟩ 1 1 [.int .i64 n0, .string z, .int .i64 n2, .int .i64 n3] rfl rfl (cells_new y3 #[.int .i64 n0, .string z, .int .i64 n2, .int .i64 n3] _) (by simp [Value.oneCell']) (by unfold maxLen; omega) (by omega) (by have := Below.size s3; simp; omega) ?_
        intro v' w6 hown' hgrow _
        obtain ⟨g', cap', rfl⟩ := own_succ hown'
        have hsy := Below.size s3
        have hS6 : Hid (∀ k, k < w1.heap.size → u.ownBlock ≠ some k → w6.heap[k]? = w1.heap[k]?) := Lib.hid (fun k hk h1 => (hgrow.block k (by simp; omega) (fun e => h1 e.symm)).trans ((Below.heap_alloc _ _ _ (by omega)).trans (Below.block s3 k hk)))
        refine hK.out _ _ (fun k hk h1 _ => hS6.out k hk h1) (fun _ => ?_)
        clear hK K
        try simp only [Act.put, List.setIfInBounds_toArray, List.set_cons_zero, List.set_cons_succ]
        have hrow6 : w6.heap[w0.heap.size + 1]? = some (.cells #[u] 22 (0, 0)) := (hS6.out _ hul (fun e => by have := (HO.out.lt _ e).1; omega)).trans HU.out
        have HROW6 := Lib.hid hrow6
        have e6 : w6.cell? ⟨w0.heap.size + 1, 0, none⟩ = some u := by rw [cell_row hrow6]; rfl
        have f6 : w6.frozen? ⟨w0.heap.size + 1, 0, none⟩ = false := fz_row hrow6 0
        clear hrow6
        refine readyL (i := 20) (by kernel_rfl) rfl (fun K hK => ?_)
        go_simp
        refine hK.out _ _ (fun k hk h1 h2 => (Below.heap_setCell _ ⟨w0.heap.size + 1, 0, none⟩ _ _ h2).trans (hS6.out k hk h1)) (fun _ => ?_)
        clear hK K
        try simp only [Act.put, List.setIfInBounds_toArray, List.set_cons_zero, List.set_cons_succ]
        refine wpAnyH_done (by kernel_rfl) ?_ _
        clear hS6
        go_wp2_with fail
        go_end0
        exact ⟨rfl, q, hq, HQ, Lib.hid (by have := HZ.out; subst this; exact HI1.out.push (n0, L z, n2, n3) HU.out HO.out s3 hown' hgrow)⟩
      · go_simp
        refine (number_yes x2 n2 _ (by omega) (by rw [X2.out]; exact G2.out)).mono ?_
        rintro e y2 ⟨rfl, b2⟩
        have s2 : Below w1.heap.size w1 y2 := Below.trans s1 (b2.out.mono (Below.size s1))
        clear b2
        go_wp2_with fail
        refine hK.out _ _ (fun k hk _ _ => Below.block s2 k hk) (fun _ => ?_)
        clear hK K
        try simp only [Act.put, List.setIfInBounds_toArray, List.set_cons_zero, List.set_cons_succ]
        refine readyL2 (i := 0) (j := 16) (by kernel_rfl) rfl rfl (fun K hK => ?_) (fun K hK => ?_)
        · have c0 := (Below.cell s2 (p := ⟨w0.heap.size + 1, 0, none⟩) hul).trans cu
          go_simp
          refine hK.out _ _ (fun k hk _ _ => Below.block s2 k hk) (fun _ => ?_)
          clear hK K
          try simp only [Act.put, List.setIfInBounds_toArray, List.set_cons_zero, List.set_cons_succ]
          clear c0
          refine readyL (i := 16) (by kernel_rfl) rfl (fun K hK => ?_)
          go_simp
          refine (day_yes x3 n3 _ (hTw.below s2) (by rw [X3.out]; exact G3.out)).mono ?_
          rintro e y3 ⟨rfl, b3⟩
          have s3 : Below w1.heap.size w1 y3 := Below.trans s2 (b3.out.mono (Below.size s2))
          clear b3
          go_wp2_with fail
          refine hK.out _ _ (fun k hk _ _ => Below.block s3 k hk) (fun _ => ?_)
          clear hK K
          try simp only [Act.put, List.setIfInBounds_toArray, List.set_cons_zero, List.set_cons_succ]
          refine takeL (i := 17) (v := ?_) rfl (by kernel_rfl) (by kernel_rfl) (by kernel_rfl) (fun _ _ _ h => h) (Or.inl ⟨by rfl, ?_⟩) (fun k hk _ _ => Below.block s3 k hk) ?_
          rotate_left
          · intro wS hSw; go_simp; try with_reducible rfl
          try simp only [Act.put, List.setIfInBounds_toArray, List.set_cons_zero, List.set_cons_succ]
          refine readyL (i := 18) (by kernel_rfl) rfl (fun K hK => ?_)
          go_simp
          refine hK.out _ _ (fun k hk _ _ => Below.block (Below.alloc s3 (Below.size s3) _) k hk) (fun _ => ?_)
          clear hK K
          try simp only [Act.put, List.setIfInBounds_toArray, List.set_cons_zero, List.set_cons_succ]
          refine readyL (i := 19) (by kernel_rfl) rfl (fun K hK => ?_)
          rw [if_pos (by rfl)]
          refine wp_append_own _ _ _ 22 rfl (w0.heap.size + 5) 27 i0 _ 4 40 Tryz.underlying22 hi hz0 hz1 hz2 rfl (by decide) u l.length (cellsL payC l) rfl ((own_below HO.out s3).alloc _) ⟨y3.heap.size, 0, none⟩ 1 1 [.int .i64 n0, .string z, .int .i64 n2, .int .i64 n3] rfl rfl (cells_new y3 #[.int .i64 n0, .string z, .int .i64 n2, .int .i64 n3] _) (by simp [Value.oneCell']) (by unfold maxLen; omega) (by omega) (by have := Below.size s3; simp; omega) ?_
          intro v' w6 hown' hgrow _
          obtain ⟨g', cap', rfl⟩ := own_succ hown'
          have hsy := Below.size s3
          have hS6 : Hid (∀ k, k < w1.heap.size → u.ownBlock ≠ some k → w6.heap[k]? = w1.heap[k]?) := Lib.hid (fun k hk h1 => (hgrow.block k (by simp; omega) (fun e => h1 e.symm)).trans ((Below.heap_alloc _ _ _ (by omega)).trans (Below.block s3 k hk)))
          refine hK.out _ _ (fun k hk h1 _ => hS6.out k hk h1) (fun _ => ?_)
          clear hK K
          try simp only [Act.put, List.setIfInBounds_toArray, List.set_cons_zero, List.set_cons_succ]
          have hrow6 : w6.heap[w0.heap.size + 1]? = some (.cells #[u] 22 (0, 0)) := (hS6.out _ hul (fun e => by have := (HO.out.lt _ e).1; omega)).trans HU.out
          have HROW6 := Lib.hid hrow6
          have e6 : w6.cell? ⟨w0.heap.size + 1, 0, none⟩ = some u := by rw [cell_row hrow6]; rfl
          have f6 : w6.frozen? ⟨w0.heap.size + 1, 0, none⟩ = false := fz_row hrow6 0
          clear hrow6
          refine readyL (i := 20) (by kernel_rfl) rfl (fun K hK => ?_)
          go_simp
          refine hK.out _ _ (fun k hk h1 h2 => (Below.heap_setCell _ ⟨w0.heap.size + 1, 0, none⟩ _ _ h2).trans (hS6.out k hk h1)) (fun _ => ?_)
          clear hK K
          try simp only [Act.put, List.setIfInBounds_toArray, List.set_cons_zero, List.set_cons_succ]
          refine wpAnyH_done (by kernel_rfl) ?_ _
          clear hS6
          go_wp2_with fail
          go_end0
          exact ⟨rfl, q, hq, HQ, Lib.hid (by have := HZ.out; subst this; exact HI1.out.push (n0, L z, n2, n3) HU.out HO.out s3 hown' hgrow)⟩
        · go_simp
          refine (day_yes x3 n3 _ (hTw.below s2) (by rw [X3.out]; exact G3.out)).mono ?_
          rintro e y3 ⟨rfl, b3⟩
          have s3 : Below w1.heap.size w1 y3 := Below.trans s2 (b3.out.mono (Below.size s2))
          clear b3
          go_wp2_with fail
          refine hK.out _ _ (fun k hk _ _ => Below.block s3 k hk) (fun _ => ?_)
          clear hK K
          try simp only [Act.put, List.setIfInBounds_toArray, List.set_cons_zero, List.set_cons_succ]
          refine takeL (i := 17) (v := ?_) rfl (by kernel_rfl) (by kernel_rfl) (by kernel_rfl) (fun _ _ _ h => h) (Or.inl ⟨by rfl, ?_⟩) (fun k hk _ _ => Below.block s3 k hk) ?_
          rotate_left
          · intro wS hSw; go_simp; try with_reducible rfl
          try simp only [Act.put, List.setIfInBounds_toArray, List.set_cons_zero, List.set_cons_succ]
          refine readyL2 (i := 0) (j := 18) (by kernel_rfl) rfl rfl (fun K hK => ?_) (fun K hK => ?_)
          · have c0 := (Below.cell s3 (p := ⟨w0.heap.size + 1, 0, none⟩) hul).trans cu
            go_simp
            refine hK.out _ _ (fun k hk _ _ => Below.block s3 k hk) (fun _ => ?_)
            clear hK K
            try simp only [Act.put, List.setIfInBounds_toArray, List.set_cons_zero, List.set_cons_succ]
            clear c0
            refine readyL (i := 18) (by kernel_rfl) rfl (fun K hK => ?_)
            go_simp
            refine hK.out _ _ (fun k hk _ _ => Below.block (Below.alloc s3 (Below.size s3) _) k hk) (fun _ => ?_)
            clear hK K
            try simp only [Act.put, List.setIfInBounds_toArray, List.set_cons_zero, List.set_cons_succ]
            refine readyL (i := 19) (by kernel_rfl) rfl (fun K hK => ?_)
            rw [if_pos (by rfl)]
            refine wp_append_own _ _ _ 22 rfl (w0.heap.size + 5) 27 i0 _ 4 40 Tryz.underlying22 hi hz0 hz1 hz2 rfl (by decide) u l.length (cellsL payC l) rfl ((own_below HO.out s3).alloc _) ⟨y3.heap.size, 0, none⟩ 1 1 [.int .i64 n0, .string z, .int .i64 n2, .int .i64 n3] rfl rfl (cells_new y3 #[.int .i64 n0, .string z, .int .i64 n2, .int .i64 n3] _) (by simp [Value.oneCell']) (by unfold maxLen; omega) (by omega) (by have := Below.size s3; simp; omega) ?_
            intro v' w6 hown' hgrow _
            obtain ⟨g', cap', rfl⟩ := own_succ hown'
            have hsy := Below.size s3
            have hS6 : Hid (∀ k, k < w1.heap.size → u.ownBlock ≠ some k → w6.heap[k]? = w1.heap[k]?) := Lib.hid (fun k hk h1 => (hgrow.block k (by simp; omega) (fun e => h1 e.symm)).trans ((Below.heap_alloc _ _ _ (by omega)).trans (Below.block s3 k hk)))
            refine hK.out _ _ (fun k hk h1 _ => hS6.out k hk h1) (fun _ => ?_)
            clear hK K
            try simp only [Act.put, List.setIfInBounds_toArray, List.set_cons_zero, List.set_cons_succ]
            have hrow6 : w6.heap[w0.heap.size + 1]? = some (.cells #[u] 22 (0, 0)) := (hS6.out _ hul (fun e => by have := (HO.out.lt _ e).1; omega)).trans HU.out
            have HROW6 := Lib.hid hrow6
            have e6 : w6.cell? ⟨w0.heap.size + 1, 0, none⟩ = some u := by rw [cell_row hrow6]; rfl
            have f6 : w6.frozen? ⟨w0.heap.size + 1, 0, none⟩ = false := fz_row hrow6 0
            clear hrow6
            refine readyL (i := 20) (by kernel_rfl) rfl (fun K hK => ?_)
            go_simp
            refine hK.out _ _ (fun k hk h1 h2 => (Below.heap_setCell _ ⟨w0.heap.size + 1, 0, none⟩ _ _ h2).trans (hS6.out k hk h1)) (fun _ => ?_)
            clear hK K
            try simp only [Act.put, List.setIfInBounds_toArray, List.set_cons_zero, List.set_cons_succ]
            refine wpAnyH_done (by kernel_rfl) ?_ _
            clear hS6
            go_wp2_with fail
            go_end0
            exact ⟨rfl, q, hq, HQ, Lib.hid (by have := HZ.out; subst this; exact HI1.out.push (n0, L z, n2, n3) HU.out HO.out s3 hown' hgrow)⟩
          · go_simp
            refine hK.out _ _ (fun k hk _ _ => Below.block (Below.alloc s3 (Below.size s3) _) k hk) (fun _ => ?_)
            clear hK K
            try simp only [Act.put, List.setIfInBounds_toArray, List.set_cons_zero, List.set_cons_succ]
            refine readyL (i := 0) (by kernel_rfl) rfl (fun K hK => ?_)
            have c0 := (Below.cell (Below.alloc s3 (Below.size s3) (.cells #[.int .i64 n0, .string z, .int .i64 n2, .int .i64 n3] 27)) (p := ⟨w0.heap.size + 1, 0, none⟩) hul).trans cu
            go_simp
            refine hK.out _ _ (fun k hk _ _ => Below.block (Below.alloc s3 (Below.size s3) (.cells #[.int .i64 n0, .string z, .int .i64 n2, .int .i64 n3] 27)) k hk) (fun _ => ?_)
            clear hK K
            try simp only [Act.put, List.setIfInBounds_toArray, List.set_cons_zero, List.set_cons_succ]
            clear c0
            refine readyL (i := 19) (by kernel_rfl) rfl (fun K hK => ?_)
            rw [if_pos (by rfl)]
            refine wp_append_own _ _ _ 22 rfl (w0.heap.size + 5) 27 i0 _ 4 40 Tryz.underlying22 hi hz0 hz1 hz2 rfl (by decide) u l.length (cellsL payC l) rfl ((own_below HO.out s3).alloc _) ⟨y3.heap.size, 0, none⟩ 1 1 [.int .i64 n0, .string z, .int .i64 n2, .int .i64 n3] rfl rfl (cells_new y3 #[.int .i64 n0, .string z, .int .i64 n2, .int .i64 n3] _) (by simp [Value.oneCell']) (by unfold maxLen; omega) (by omega) (by have := Below.size s3; simp; omega) ?_
            intro v' w6 hown' hgrow _
            obtain ⟨g', cap', rfl⟩ := own_succ hown'
            have hsy := Below.size s3
            have hS6 : Hid (∀ k, k < w1.heap.size → u.ownBlock ≠ some k → w6.heap[k]? = w1.heap[k]?) := Lib.hid (fun k hk h1 => (hgrow.block k (by simp; omega) (fun e => h1 e.symm)).trans ((Below.heap_alloc _ _ _ (by omega)).trans (Below.block s3 k hk)))
            refine hK.out _ _ (fun k hk h1 _ => hS6.out k hk h1) (fun _ => ?_)
            clear hK K
            try simp only [Act.put, List.setIfInBounds_toArray, List.set_cons_zero, List.set_cons_succ]
            have hrow6 : w6.heap[w0.heap.size + 1]? = some (.cells #[u] 22 (0, 0)) := (hS6.out _ hul (fun e => by have := (HO.out.lt _ e).1; omega)).trans HU.out
            have HROW6 := Lib.hid hrow6
            have e6 : w6.cell? ⟨w0.heap.size + 1, 0, none⟩ = some u := by rw [cell_row hrow6]; rfl
            have f6 : w6.frozen? ⟨w0.heap.size + 1, 0, none⟩ = false := fz_row hrow6 0
            clear hrow6
            refine readyL (i := 20) (by kernel_rfl) rfl (fun K hK => ?_)
            go_simp
            refine hK.out _ _ (fun k hk h1 h2 => (Below.heap_setCell _ ⟨w0.heap.size + 1, 0, none⟩ _ _ h2).trans (hS6.out k hk h1)) (fun _ => ?_)
            clear hK K
            try simp only [Act.put, List.setIfInBounds_toArray, List.set_cons_zero, List.set_cons_succ]
            refine wpAnyH_done (by kernel_rfl) ?_ _
            clear hS6
            go_wp2_with fail
            go_end0
            exact ⟨rfl, q, hq, HQ, Lib.hid (by have := HZ.out; subst this; exact HI1.out.push (n0, L z, n2, n3) HU.out HO.out s3 hown' hgrow)⟩
set_option maxHeartbeats 8000000 in
set_option maxRecDepth 100000 in
theorem pay_no0 (w0 : World) (t : ByteArray) (p : Nat) (l : List Pay) (wx : World) (hT : Tabs w0) (h : RdI payC 4 27 22 w0 t p l wx) (hp : p ≤ t.size) (ht : t.size ≤ 4294967200) (_hlen : l.length ≤ 1000) (ws : List Bs) (r : Bs) (hl : lineP 4 ((L t).drop p) = some (ws, r)) (h0 : numP (ws.getD 0 []) = none) :
    Calls Tryz.prog 42 #[.pointer (some ⟨w0.heap.size + 3, 0, none⟩), .pointer (some ⟨w0.heap.size + 1, 0, none⟩)] wx fun e w' => e = dam ∧ Hid (RdX w0 w') := by
  have HI := Lib.hid h
  have HL := Lib.hid hl
  have G0 := Lib.hid h0
  clear h hl h0
  have hTx := HI.out.tabs hT
  have hsx := HI.out.size
  have c3 : wx.cell? ⟨w0.heap.size + 3, 0, none⟩ = some (.pointer (some ⟨w0.heap.size + 2, 0, none⟩)) := by rw [cell_row HI.out.rv]; rfl
  obtain ⟨i0, hi, hz0, hz1, hz2⟩ := info_parts Tryz.infoPay
  go_enter Tryz.func42, Tryz.ntmps42
  go_wp2_with fail
  refine (line_yes t _ p 4 _ hTx HI.out.rdr hp ht (by omega) ws r HL.out).mono ?_
  rintro e w1 ⟨xs, b, q, rfl, hb0, hbl, HXs, HXm, HRd, hq, HQ, HRR, HG⟩
  have HI1 : Hid (RdI payC 4 27 22 w0 t q l w1) := Lib.hid (HI.out.moved HG.out HRR.out)
  have hws : ws.length = 4 := by
    have := HL.out
    unfold lineP at this
    cases hc : cutL 10 ((L t).drop p) with
    | none => rw [hc] at this; cases this
    | some ab =>
      rw [hc] at this
      simp only [] at this
      by_cases hw : (splitL 32 ab.1).length = 4
      · rw [if_pos hw] at this; injection this with this; injection this with h1 _; rw [← h1]; exact hw
      · rw [if_neg hw] at this; cases this
  have hxl : xs.length = 4 := by rw [← hws, ← HXm.out, List.length_map]
  obtain ⟨x0, x1, x2, x3, rfl⟩ : ∃ x0 x1 x2 x3, xs = [x0, x1, x2, x3] := by
    match xs, hxl with
    | [x0, x1, x2, x3], _ => exact ⟨x0, x1, x2, x3, rfl⟩
  clear hxl hws
  have X0 : Hid (L x0 = ws.getD 0 []) := Lib.hid (by rw [← HXm.out]; rfl)
  have hx0 : x0.size ≤ t.size := HXs.out x0 (by simp)
  have d0 : w1.cell? ⟨b, 0, none⟩ = some (.string x0) := by
    obtain ⟨A, cap, e, hc, _, hcell⟩ := HRd.out
    injection e with e1 e2 e3
    subst e1 e3
    obtain ⟨g, o, hA, hg, hx⟩ := hcell (by simp)
    injection hA with hA
    injection hA with k1 k2
    subst k1 k2
    have := hx 0 (.string x0) rfl
    rw [Nat.zero_add] at this
    exact this
  have X1 : Hid (L x1 = ws.getD 1 []) := Lib.hid (by rw [← HXm.out]; rfl)
  have hx1 : x1.size ≤ t.size := HXs.out x1 (by simp)
  have d1 : w1.cell? ⟨b, 1, none⟩ = some (.string x1) := by
    obtain ⟨A, cap, e, hc, _, hcell⟩ := HRd.out
    injection e with e1 e2 e3
    subst e1 e3
    obtain ⟨g, o, hA, hg, hx⟩ := hcell (by simp)
    injection hA with hA
    injection hA with k1 k2
    subst k1 k2
    have := hx 1 (.string x1) rfl
    rw [Nat.zero_add] at this
    exact this
  have X2 : Hid (L x2 = ws.getD 2 []) := Lib.hid (by rw [← HXm.out]; rfl)
  have hx2 : x2.size ≤ t.size := HXs.out x2 (by simp)
  have d2 : w1.cell? ⟨b, 2, none⟩ = some (.string x2) := by
    obtain ⟨A, cap, e, hc, _, hcell⟩ := HRd.out
    injection e with e1 e2 e3
    subst e1 e3
    obtain ⟨g, o, hA, hg, hx⟩ := hcell (by simp)
    injection hA with hA
    injection hA with k1 k2
    subst k1 k2
    have := hx 2 (.string x2) rfl
    rw [Nat.zero_add] at this
    exact this
  have X3 : Hid (L x3 = ws.getD 3 []) := Lib.hid (by rw [← HXm.out]; rfl)
  have hx3 : x3.size ≤ t.size := HXs.out x3 (by simp)
  have d3 : w1.cell? ⟨b, 3, none⟩ = some (.string x3) := by
    obtain ⟨A, cap, e, hc, _, hcell⟩ := HRd.out
    injection e with e1 e2 e3
    subst e1 e3
    obtain ⟨g, o, hA, hg, hx⟩ := hcell (by simp)
    injection hA with hA
    injection hA with k1 k2
    subst k1 k2
    have := hx 3 (.string x3) rfl
    rw [Nat.zero_add] at this
    exact this
  obtain ⟨u, hu, hown⟩ := HI1.out.lst
  have cu : w1.cell? ⟨w0.heap.size + 1, 0, none⟩ = some u := by rw [cell_row hu]; rfl
  have hul : w0.heap.size + 1 < w1.heap.size := by have := HI1.out.size; omega
  have hTw := HI1.out.tabs hT
  have hb2 : u.ownBlock ≠ some b := fun e => by
    obtain ⟨u2, hu2, ho2⟩ := HI.out.lst
    have e3 : w1.heap[w0.heap.size + 1]? = wx.heap[w0.heap.size + 1]? := HG.out.block _ (by omega) (by intro e4; injection e4 with e4; omega)
    rw [e3, hu2] at hu
    injection hu with hu
    injection hu with hu
    have e5 : u2 = u := by have := congrArg (fun a : Array Value => a[0]?) hu; simpa using this
    subst e5
    have := (ho2.lt b e).2
    omega
  have hb3 : b ≠ w0.heap.size + 1 := by omega
  have HU := Lib.hid hu
  have HO := Lib.hid hown
  have HB2 := Lib.hid hb2
  clear hu hown hb2 HRd HXs HXm
  go_wp2_with fail
  refine wp_region_held_drew (S := (SX w1 u (w0.heap.size + 1))) (by kernel_rfl) (fun k hk _ _ => Below.block ((Below.refl w1.heap.size w1).drew) k hk) (fun hHeld => ?_)
  have sH : Below w1.heap.size w1 w1.drew := (Below.refl _ _).drew
  refine takeL (i := 1) (v := ?_) rfl (by kernel_rfl) (by kernel_rfl) (by kernel_rfl) (fun _ _ _ h => h) (Or.inl ⟨by rfl, ?_⟩) hHeld ?_
  rotate_left
  · intro wS hSw; go_simp; try with_reducible rfl
  try simp only [Act.put, List.setIfInBounds_toArray, List.set_cons_zero, List.set_cons_succ]
  refine takeL (i := 2) (v := ?_) rfl (by kernel_rfl) (by kernel_rfl) (by kernel_rfl) (fun _ _ _ h => h) (Or.inl ⟨by rfl, ?_⟩) hHeld ?_
  rotate_left
  · intro wS hSw; go_simp; try with_reducible rfl
  try simp only [Act.put, List.setIfInBounds_toArray, List.set_cons_zero, List.set_cons_succ]
  refine takeL (i := 3) (v := ?_) rfl (by kernel_rfl) (by kernel_rfl) (by kernel_rfl) (fun _ _ _ h => h) (Or.inl ⟨by rfl, ?_⟩) hHeld ?_
  rotate_left
  · intro wS hSw; have c := (World.cell?_of_block (w := w1) (a := ⟨b, 0, none⟩) (hSw b hbl HB2.out hb3)).trans d0; go_simp; try with_reducible rfl
  try simp only [Act.put, List.setIfInBounds_toArray, List.set_cons_zero, List.set_cons_succ]
  refine takeL (i := 5) (v := ?_) rfl (by kernel_rfl) (by kernel_rfl) (by kernel_rfl) (fun _ _ _ h => h) (Or.inl ⟨by rfl, ?_⟩) hHeld ?_
  rotate_left
  · intro wS hSw; go_simp; try with_reducible rfl
  try simp only [Act.put, List.setIfInBounds_toArray, List.set_cons_zero, List.set_cons_succ]
  refine takeL (i := 6) (v := ?_) rfl (by kernel_rfl) (by kernel_rfl) (by kernel_rfl) (fun _ _ _ h => h) (Or.inl ⟨by rfl, ?_⟩) hHeld ?_
  rotate_left
  · intro wS hSw; go_simp; try with_reducible rfl
  try simp only [Act.put, List.setIfInBounds_toArray, List.set_cons_zero, List.set_cons_succ]
  refine takeL (i := 7) (v := ?_) rfl (by kernel_rfl) (by kernel_rfl) (by kernel_rfl) (fun _ _ _ h => h) (Or.inl ⟨by rfl, ?_⟩) hHeld ?_
  rotate_left
  · intro wS hSw; have c := (World.cell?_of_block (w := w1) (a := ⟨b, 1, none⟩) (hSw b hbl HB2.out hb3)).trans d1; go_simp; try with_reducible rfl
  try simp only [Act.put, List.setIfInBounds_toArray, List.set_cons_zero, List.set_cons_succ]
  refine takeL (i := 9) (v := ?_) rfl (by kernel_rfl) (by kernel_rfl) (by kernel_rfl) (fun _ _ _ h => h) (Or.inl ⟨by rfl, ?_⟩) hHeld ?_
  rotate_left
  · intro wS hSw; go_simp; try with_reducible rfl
  try simp only [Act.put, List.setIfInBounds_toArray, List.set_cons_zero, List.set_cons_succ]
  refine takeL (i := 10) (v := ?_) rfl (by kernel_rfl) (by kernel_rfl) (by kernel_rfl) (fun _ _ _ h => h) (Or.inl ⟨by rfl, ?_⟩) hHeld ?_
  rotate_left
  · intro wS hSw; go_simp; try with_reducible rfl
  try simp only [Act.put, List.setIfInBounds_toArray, List.set_cons_zero, List.set_cons_succ]
  refine takeL (i := 11) (v := ?_) rfl (by kernel_rfl) (by kernel_rfl) (by kernel_rfl) (fun _ _ _ h => h) (Or.inl ⟨by rfl, ?_⟩) hHeld ?_
  rotate_left
  · intro wS hSw; have c := (World.cell?_of_block (w := w1) (a := ⟨b, 2, none⟩) (hSw b hbl HB2.out hb3)).trans d2; go_simp; try with_reducible rfl
  try simp only [Act.put, List.setIfInBounds_toArray, List.set_cons_zero, List.set_cons_succ]
  refine takeL (i := 13) (v := ?_) rfl (by kernel_rfl) (by kernel_rfl) (by kernel_rfl) (fun _ _ _ h => h) (Or.inl ⟨by rfl, ?_⟩) hHeld ?_
  rotate_left
  · intro wS hSw; go_simp; try with_reducible rfl
  try simp only [Act.put, List.setIfInBounds_toArray, List.set_cons_zero, List.set_cons_succ]
  refine takeL (i := 14) (v := ?_) rfl (by kernel_rfl) (by kernel_rfl) (by kernel_rfl) (fun _ _ _ h => h) (Or.inl ⟨by rfl, ?_⟩) hHeld ?_
  rotate_left
  · intro wS hSw; go_simp; try with_reducible rfl
  try simp only [Act.put, List.setIfInBounds_toArray, List.set_cons_zero, List.set_cons_succ]
  refine takeL (i := 15) (v := ?_) rfl (by kernel_rfl) (by kernel_rfl) (by kernel_rfl) (fun _ _ _ h => h) (Or.inl ⟨by rfl, ?_⟩) hHeld ?_
  rotate_left
  · intro wS hSw; have c := (World.cell?_of_block (w := w1) (a := ⟨b, 3, none⟩) (hSw b hbl HB2.out hb3)).trans d3; go_simp; try with_reducible rfl
  try simp only [Act.put, List.setIfInBounds_toArray, List.set_cons_zero, List.set_cons_succ]
  refine readyL2 (i := 0) (j := 4) (by kernel_rfl) rfl rfl (fun K hK => ?_) (fun K hK => ?_)
  · have c0 := (Below.cell sH (p := ⟨w0.heap.size + 1, 0, none⟩) hul).trans cu
    go_simp
    refine hK.out _ _ (fun k hk _ _ => Below.block sH k hk) (fun _ => ?_)
    clear hK K
    try simp only [Act.put, List.setIfInBounds_toArray, List.set_cons_zero, List.set_cons_succ]
    clear c0
    refine readyL (i := 4) (by kernel_rfl) rfl (fun K hK => ?_)
    go_simp
    refine (number_no x0 _ (hTw.below sH) (by omega) (by rw [X0.out]; exact G0.out)).mono ?_
    rintro e y0 ⟨rfl, b0⟩
    exact ⟨rfl, rfl, Lib.hid (HI1.out.out.below (Below.trans sH (b0.out.mono (Below.size sH))))⟩
  · go_simp
    refine (number_no x0 _ (hTw.below sH) (by omega) (by rw [X0.out]; exact G0.out)).mono ?_
    rintro e y0 ⟨rfl, b0⟩
    exact ⟨rfl, rfl, Lib.hid (HI1.out.out.below (Below.trans sH (b0.out.mono (Below.size sH))))⟩
set_option maxHeartbeats 8000000 in
set_option maxRecDepth 100000 in
theorem pay_no1 (w0 : World) (t : ByteArray) (p : Nat) (l : List Pay) (wx : World) (hT : Tabs w0) (h : RdI payC 4 27 22 w0 t p l wx) (hp : p ≤ t.size) (ht : t.size ≤ 4294967200) (_hlen : l.length ≤ 1000) (ws : List Bs) (r : Bs) (hl : lineP 4 ((L t).drop p) = some (ws, r)) (n0 : Int) (h0 : numP (ws.getD 0 []) = some n0) (h1 : nameP (ws.getD 1 []) = none) :
    Calls Tryz.prog 42 #[.pointer (some ⟨w0.heap.size + 3, 0, none⟩), .pointer (some ⟨w0.heap.size + 1, 0, none⟩)] wx fun e w' => e = dam ∧ Hid (RdX w0 w') := by
  have HI := Lib.hid h
  have HL := Lib.hid hl
  have G0 := Lib.hid h0
  have G1 := Lib.hid h1
  clear h hl h0 h1
  have hTx := HI.out.tabs hT
  have hsx := HI.out.size
  have c3 : wx.cell? ⟨w0.heap.size + 3, 0, none⟩ = some (.pointer (some ⟨w0.heap.size + 2, 0, none⟩)) := by rw [cell_row HI.out.rv]; rfl
  obtain ⟨i0, hi, hz0, hz1, hz2⟩ := info_parts Tryz.infoPay
  go_enter Tryz.func42, Tryz.ntmps42
  go_wp2_with fail
  refine (line_yes t _ p 4 _ hTx HI.out.rdr hp ht (by omega) ws r HL.out).mono ?_
  rintro e w1 ⟨xs, b, q, rfl, hb0, hbl, HXs, HXm, HRd, hq, HQ, HRR, HG⟩
  have HI1 : Hid (RdI payC 4 27 22 w0 t q l w1) := Lib.hid (HI.out.moved HG.out HRR.out)
  have hws : ws.length = 4 := by
    have := HL.out
    unfold lineP at this
    cases hc : cutL 10 ((L t).drop p) with
    | none => rw [hc] at this; cases this
    | some ab =>
      rw [hc] at this
      simp only [] at this
      by_cases hw : (splitL 32 ab.1).length = 4
      · rw [if_pos hw] at this; injection this with this; injection this with h1 _; rw [← h1]; exact hw
      · rw [if_neg hw] at this; cases this
  have hxl : xs.length = 4 := by rw [← hws, ← HXm.out, List.length_map]
  obtain ⟨x0, x1, x2, x3, rfl⟩ : ∃ x0 x1 x2 x3, xs = [x0, x1, x2, x3] := by
    match xs, hxl with
    | [x0, x1, x2, x3], _ => exact ⟨x0, x1, x2, x3, rfl⟩
  clear hxl hws
  have X0 : Hid (L x0 = ws.getD 0 []) := Lib.hid (by rw [← HXm.out]; rfl)
  have hx0 : x0.size ≤ t.size := HXs.out x0 (by simp)
  have d0 : w1.cell? ⟨b, 0, none⟩ = some (.string x0) := by
    obtain ⟨A, cap, e, hc, _, hcell⟩ := HRd.out
    injection e with e1 e2 e3
    subst e1 e3
    obtain ⟨g, o, hA, hg, hx⟩ := hcell (by simp)
    injection hA with hA
    injection hA with k1 k2
    subst k1 k2
    have := hx 0 (.string x0) rfl
    rw [Nat.zero_add] at this
    exact this
  have X1 : Hid (L x1 = ws.getD 1 []) := Lib.hid (by rw [← HXm.out]; rfl)
  have hx1 : x1.size ≤ t.size := HXs.out x1 (by simp)
  have d1 : w1.cell? ⟨b, 1, none⟩ = some (.string x1) := by
    obtain ⟨A, cap, e, hc, _, hcell⟩ := HRd.out
    injection e with e1 e2 e3
    subst e1 e3
    obtain ⟨g, o, hA, hg, hx⟩ := hcell (by simp)
    injection hA with hA
    injection hA with k1 k2
    subst k1 k2
    have := hx 1 (.string x1) rfl
    rw [Nat.zero_add] at this
    exact this
  have X2 : Hid (L x2 = ws.getD 2 []) := Lib.hid (by rw [← HXm.out]; rfl)
  have hx2 : x2.size ≤ t.size := HXs.out x2 (by simp)
  have d2 : w1.cell? ⟨b, 2, none⟩ = some (.string x2) := by
    obtain ⟨A, cap, e, hc, _, hcell⟩ := HRd.out
    injection e with e1 e2 e3
    subst e1 e3
    obtain ⟨g, o, hA, hg, hx⟩ := hcell (by simp)
    injection hA with hA
    injection hA with k1 k2
    subst k1 k2
    have := hx 2 (.string x2) rfl
    rw [Nat.zero_add] at this
    exact this
  have X3 : Hid (L x3 = ws.getD 3 []) := Lib.hid (by rw [← HXm.out]; rfl)
  have hx3 : x3.size ≤ t.size := HXs.out x3 (by simp)
  have d3 : w1.cell? ⟨b, 3, none⟩ = some (.string x3) := by
    obtain ⟨A, cap, e, hc, _, hcell⟩ := HRd.out
    injection e with e1 e2 e3
    subst e1 e3
    obtain ⟨g, o, hA, hg, hx⟩ := hcell (by simp)
    injection hA with hA
    injection hA with k1 k2
    subst k1 k2
    have := hx 3 (.string x3) rfl
    rw [Nat.zero_add] at this
    exact this
  obtain ⟨u, hu, hown⟩ := HI1.out.lst
  have cu : w1.cell? ⟨w0.heap.size + 1, 0, none⟩ = some u := by rw [cell_row hu]; rfl
  have hul : w0.heap.size + 1 < w1.heap.size := by have := HI1.out.size; omega
  have hTw := HI1.out.tabs hT
  have hb2 : u.ownBlock ≠ some b := fun e => by
    obtain ⟨u2, hu2, ho2⟩ := HI.out.lst
    have e3 : w1.heap[w0.heap.size + 1]? = wx.heap[w0.heap.size + 1]? := HG.out.block _ (by omega) (by intro e4; injection e4 with e4; omega)
    rw [e3, hu2] at hu
    injection hu with hu
    injection hu with hu
    have e5 : u2 = u := by have := congrArg (fun a : Array Value => a[0]?) hu; simpa using this
    subst e5
    have := (ho2.lt b e).2
    omega
  have hb3 : b ≠ w0.heap.size + 1 := by omega
  have HU := Lib.hid hu
  have HO := Lib.hid hown
  have HB2 := Lib.hid hb2
  clear hu hown hb2 HRd HXs HXm
  go_wp2_with fail
  refine wp_region_held_drew (S := (SX w1 u (w0.heap.size + 1))) (by kernel_rfl) (fun k hk _ _ => Below.block ((Below.refl w1.heap.size w1).drew) k hk) (fun hHeld => ?_)
  have sH : Below w1.heap.size w1 w1.drew := (Below.refl _ _).drew
  refine takeL (i := 1) (v := ?_) rfl (by kernel_rfl) (by kernel_rfl) (by kernel_rfl) (fun _ _ _ h => h) (Or.inl ⟨by rfl, ?_⟩) hHeld ?_
  rotate_left
  · intro wS hSw; go_simp; try with_reducible rfl
  try simp only [Act.put, List.setIfInBounds_toArray, List.set_cons_zero, List.set_cons_succ]
  refine takeL (i := 2) (v := ?_) rfl (by kernel_rfl) (by kernel_rfl) (by kernel_rfl) (fun _ _ _ h => h) (Or.inl ⟨by rfl, ?_⟩) hHeld ?_
  rotate_left
  · intro wS hSw; go_simp; try with_reducible rfl
  try simp only [Act.put, List.setIfInBounds_toArray, List.set_cons_zero, List.set_cons_succ]
  refine takeL (i := 3) (v := ?_) rfl (by kernel_rfl) (by kernel_rfl) (by kernel_rfl) (fun _ _ _ h => h) (Or.inl ⟨by rfl, ?_⟩) hHeld ?_
  rotate_left
  · intro wS hSw; have c := (World.cell?_of_block (w := w1) (a := ⟨b, 0, none⟩) (hSw b hbl HB2.out hb3)).trans d0; go_simp; try with_reducible rfl
  try simp only [Act.put, List.setIfInBounds_toArray, List.set_cons_zero, List.set_cons_succ]
  refine takeL (i := 5) (v := ?_) rfl (by kernel_rfl) (by kernel_rfl) (by kernel_rfl) (fun _ _ _ h => h) (Or.inl ⟨by rfl, ?_⟩) hHeld ?_
  rotate_left
  · intro wS hSw; go_simp; try with_reducible rfl
  try simp only [Act.put, List.setIfInBounds_toArray, List.set_cons_zero, List.set_cons_succ]
  refine takeL (i := 6) (v := ?_) rfl (by kernel_rfl) (by kernel_rfl) (by kernel_rfl) (fun _ _ _ h => h) (Or.inl ⟨by rfl, ?_⟩) hHeld ?_
  rotate_left
  · intro wS hSw; go_simp; try with_reducible rfl
  try simp only [Act.put, List.setIfInBounds_toArray, List.set_cons_zero, List.set_cons_succ]
  refine takeL (i := 7) (v := ?_) rfl (by kernel_rfl) (by kernel_rfl) (by kernel_rfl) (fun _ _ _ h => h) (Or.inl ⟨by rfl, ?_⟩) hHeld ?_
  rotate_left
  · intro wS hSw; have c := (World.cell?_of_block (w := w1) (a := ⟨b, 1, none⟩) (hSw b hbl HB2.out hb3)).trans d1; go_simp; try with_reducible rfl
  try simp only [Act.put, List.setIfInBounds_toArray, List.set_cons_zero, List.set_cons_succ]
  refine takeL (i := 9) (v := ?_) rfl (by kernel_rfl) (by kernel_rfl) (by kernel_rfl) (fun _ _ _ h => h) (Or.inl ⟨by rfl, ?_⟩) hHeld ?_
  rotate_left
  · intro wS hSw; go_simp; try with_reducible rfl
  try simp only [Act.put, List.setIfInBounds_toArray, List.set_cons_zero, List.set_cons_succ]
  refine takeL (i := 10) (v := ?_) rfl (by kernel_rfl) (by kernel_rfl) (by kernel_rfl) (fun _ _ _ h => h) (Or.inl ⟨by rfl, ?_⟩) hHeld ?_
  rotate_left
  · intro wS hSw; go_simp; try with_reducible rfl
  try simp only [Act.put, List.setIfInBounds_toArray, List.set_cons_zero, List.set_cons_succ]
  refine takeL (i := 11) (v := ?_) rfl (by kernel_rfl) (by kernel_rfl) (by kernel_rfl) (fun _ _ _ h => h) (Or.inl ⟨by rfl, ?_⟩) hHeld ?_
  rotate_left
  · intro wS hSw; have c := (World.cell?_of_block (w := w1) (a := ⟨b, 2, none⟩) (hSw b hbl HB2.out hb3)).trans d2; go_simp; try with_reducible rfl
  try simp only [Act.put, List.setIfInBounds_toArray, List.set_cons_zero, List.set_cons_succ]
  refine takeL (i := 13) (v := ?_) rfl (by kernel_rfl) (by kernel_rfl) (by kernel_rfl) (fun _ _ _ h => h) (Or.inl ⟨by rfl, ?_⟩) hHeld ?_
  rotate_left
  · intro wS hSw; go_simp; try with_reducible rfl
  try simp only [Act.put, List.setIfInBounds_toArray, List.set_cons_zero, List.set_cons_succ]
  refine takeL (i := 14) (v := ?_) rfl (by kernel_rfl) (by kernel_rfl) (by kernel_rfl) (fun _ _ _ h => h) (Or.inl ⟨by rfl, ?_⟩) hHeld ?_
  rotate_left
  · intro wS hSw; go_simp; try with_reducible rfl
  try simp only [Act.put, List.setIfInBounds_toArray, List.set_cons_zero, List.set_cons_succ]
  refine takeL (i := 15) (v := ?_) rfl (by kernel_rfl) (by kernel_rfl) (by kernel_rfl) (fun _ _ _ h => h) (Or.inl ⟨by rfl, ?_⟩) hHeld ?_
  rotate_left
  · intro wS hSw; have c := (World.cell?_of_block (w := w1) (a := ⟨b, 3, none⟩) (hSw b hbl HB2.out hb3)).trans d3; go_simp; try with_reducible rfl
  try simp only [Act.put, List.setIfInBounds_toArray, List.set_cons_zero, List.set_cons_succ]
  refine readyL2 (i := 0) (j := 4) (by kernel_rfl) rfl rfl (fun K hK => ?_) (fun K hK => ?_)
  · have c0 := (Below.cell sH (p := ⟨w0.heap.size + 1, 0, none⟩) hul).trans cu
    go_simp
    refine hK.out _ _ (fun k hk _ _ => Below.block sH k hk) (fun _ => ?_)
    clear hK K
    try simp only [Act.put, List.setIfInBounds_toArray, List.set_cons_zero, List.set_cons_succ]
    clear c0
    refine readyL (i := 4) (by kernel_rfl) rfl (fun K hK => ?_)
    go_simp
    refine (number_yes x0 n0 _ (by omega) (by rw [X0.out]; exact G0.out)).mono ?_
    rintro e y0 ⟨rfl, b0⟩
    have s0 : Below w1.heap.size w1 y0 := Below.trans sH (b0.out.mono (Below.size sH))
    clear b0
    go_wp2_with fail
    refine hK.out _ _ (fun k hk _ _ => Below.block s0 k hk) (fun _ => ?_)
    clear hK K
    try simp only [Act.put, List.setIfInBounds_toArray, List.set_cons_zero, List.set_cons_succ]
    refine readyL (i := 8) (by kernel_rfl) rfl (fun K hK => ?_)
    go_simp
    refine (name_no_walk x1 _ (hTw.below s0) (by omega) (by rw [X1.out]; exact G1.out)).mono ?_
    rintro e y1 ⟨rfl, b1⟩
    exact ⟨rfl, rfl, Lib.hid (HI1.out.out.below (Below.trans s0 (b1.out.mono (Below.size s0))))⟩
  · go_simp
    refine (number_yes x0 n0 _ (by omega) (by rw [X0.out]; exact G0.out)).mono ?_
    rintro e y0 ⟨rfl, b0⟩
    have s0 : Below w1.heap.size w1 y0 := Below.trans sH (b0.out.mono (Below.size sH))
    clear b0
    go_wp2_with fail
    refine hK.out _ _ (fun k hk _ _ => Below.block s0 k hk) (fun _ => ?_)
    clear hK K
    try simp only [Act.put, List.setIfInBounds_toArray, List.set_cons_zero, List.set_cons_succ]
    refine readyL2 (i := 0) (j := 8) (by kernel_rfl) rfl rfl (fun K hK => ?_) (fun K hK => ?_)
    · have c0 := (Below.cell s0 (p := ⟨w0.heap.size + 1, 0, none⟩) hul).trans cu
      go_simp
      refine hK.out _ _ (fun k hk _ _ => Below.block s0 k hk) (fun _ => ?_)
      clear hK K
      try simp only [Act.put, List.setIfInBounds_toArray, List.set_cons_zero, List.set_cons_succ]
      clear c0
      refine readyL (i := 8) (by kernel_rfl) rfl (fun K hK => ?_)
      go_simp
      refine (name_no_walk x1 _ (hTw.below s0) (by omega) (by rw [X1.out]; exact G1.out)).mono ?_
      rintro e y1 ⟨rfl, b1⟩
      exact ⟨rfl, rfl, Lib.hid (HI1.out.out.below (Below.trans s0 (b1.out.mono (Below.size s0))))⟩
    · go_simp
      refine (name_no_walk x1 _ (hTw.below s0) (by omega) (by rw [X1.out]; exact G1.out)).mono ?_
      rintro e y1 ⟨rfl, b1⟩
      exact ⟨rfl, rfl, Lib.hid (HI1.out.out.below (Below.trans s0 (b1.out.mono (Below.size s0))))⟩
set_option maxHeartbeats 8000000 in
set_option maxRecDepth 100000 in
theorem pay_no2 (w0 : World) (t : ByteArray) (p : Nat) (l : List Pay) (wx : World) (hT : Tabs w0) (h : RdI payC 4 27 22 w0 t p l wx) (hp : p ≤ t.size) (ht : t.size ≤ 4294967200) (_hlen : l.length ≤ 1000) (ws : List Bs) (r : Bs) (hl : lineP 4 ((L t).drop p) = some (ws, r)) (n0 : Int) (h0 : numP (ws.getD 0 []) = some n0) (nm : Bs) (h1 : nameP (ws.getD 1 []) = some nm) (h2 : numP (ws.getD 2 []) = none) :
    Calls Tryz.prog 42 #[.pointer (some ⟨w0.heap.size + 3, 0, none⟩), .pointer (some ⟨w0.heap.size + 1, 0, none⟩)] wx fun e w' => e = dam ∧ Hid (RdX w0 w') := by
  have HI := Lib.hid h
  have HL := Lib.hid hl
  have G0 := Lib.hid h0
  have G1 := Lib.hid h1
  have G2 := Lib.hid h2
  clear h hl h0 h1 h2
  have hTx := HI.out.tabs hT
  have hsx := HI.out.size
  have c3 : wx.cell? ⟨w0.heap.size + 3, 0, none⟩ = some (.pointer (some ⟨w0.heap.size + 2, 0, none⟩)) := by rw [cell_row HI.out.rv]; rfl
  obtain ⟨i0, hi, hz0, hz1, hz2⟩ := info_parts Tryz.infoPay
  go_enter Tryz.func42, Tryz.ntmps42
  go_wp2_with fail
  refine (line_yes t _ p 4 _ hTx HI.out.rdr hp ht (by omega) ws r HL.out).mono ?_
  rintro e w1 ⟨xs, b, q, rfl, hb0, hbl, HXs, HXm, HRd, hq, HQ, HRR, HG⟩
  have HI1 : Hid (RdI payC 4 27 22 w0 t q l w1) := Lib.hid (HI.out.moved HG.out HRR.out)
  have hws : ws.length = 4 := by
    have := HL.out
    unfold lineP at this
    cases hc : cutL 10 ((L t).drop p) with
    | none => rw [hc] at this; cases this
    | some ab =>
      rw [hc] at this
      simp only [] at this
      by_cases hw : (splitL 32 ab.1).length = 4
      · rw [if_pos hw] at this; injection this with this; injection this with h1 _; rw [← h1]; exact hw
      · rw [if_neg hw] at this; cases this
  have hxl : xs.length = 4 := by rw [← hws, ← HXm.out, List.length_map]
  obtain ⟨x0, x1, x2, x3, rfl⟩ : ∃ x0 x1 x2 x3, xs = [x0, x1, x2, x3] := by
    match xs, hxl with
    | [x0, x1, x2, x3], _ => exact ⟨x0, x1, x2, x3, rfl⟩
  clear hxl hws
  have X0 : Hid (L x0 = ws.getD 0 []) := Lib.hid (by rw [← HXm.out]; rfl)
  have hx0 : x0.size ≤ t.size := HXs.out x0 (by simp)
  have d0 : w1.cell? ⟨b, 0, none⟩ = some (.string x0) := by
    obtain ⟨A, cap, e, hc, _, hcell⟩ := HRd.out
    injection e with e1 e2 e3
    subst e1 e3
    obtain ⟨g, o, hA, hg, hx⟩ := hcell (by simp)
    injection hA with hA
    injection hA with k1 k2
    subst k1 k2
    have := hx 0 (.string x0) rfl
    rw [Nat.zero_add] at this
    exact this
  have X1 : Hid (L x1 = ws.getD 1 []) := Lib.hid (by rw [← HXm.out]; rfl)
  have hx1 : x1.size ≤ t.size := HXs.out x1 (by simp)
  have d1 : w1.cell? ⟨b, 1, none⟩ = some (.string x1) := by
    obtain ⟨A, cap, e, hc, _, hcell⟩ := HRd.out
    injection e with e1 e2 e3
    subst e1 e3
    obtain ⟨g, o, hA, hg, hx⟩ := hcell (by simp)
    injection hA with hA
    injection hA with k1 k2
    subst k1 k2
    have := hx 1 (.string x1) rfl
    rw [Nat.zero_add] at this
    exact this
  have X2 : Hid (L x2 = ws.getD 2 []) := Lib.hid (by rw [← HXm.out]; rfl)
  have hx2 : x2.size ≤ t.size := HXs.out x2 (by simp)
  have d2 : w1.cell? ⟨b, 2, none⟩ = some (.string x2) := by
    obtain ⟨A, cap, e, hc, _, hcell⟩ := HRd.out
    injection e with e1 e2 e3
    subst e1 e3
    obtain ⟨g, o, hA, hg, hx⟩ := hcell (by simp)
    injection hA with hA
    injection hA with k1 k2
    subst k1 k2
    have := hx 2 (.string x2) rfl
    rw [Nat.zero_add] at this
    exact this
  have X3 : Hid (L x3 = ws.getD 3 []) := Lib.hid (by rw [← HXm.out]; rfl)
  have hx3 : x3.size ≤ t.size := HXs.out x3 (by simp)
  have d3 : w1.cell? ⟨b, 3, none⟩ = some (.string x3) := by
    obtain ⟨A, cap, e, hc, _, hcell⟩ := HRd.out
    injection e with e1 e2 e3
    subst e1 e3
    obtain ⟨g, o, hA, hg, hx⟩ := hcell (by simp)
    injection hA with hA
    injection hA with k1 k2
    subst k1 k2
    have := hx 3 (.string x3) rfl
    rw [Nat.zero_add] at this
    exact this
  obtain ⟨u, hu, hown⟩ := HI1.out.lst
  have cu : w1.cell? ⟨w0.heap.size + 1, 0, none⟩ = some u := by rw [cell_row hu]; rfl
  have hul : w0.heap.size + 1 < w1.heap.size := by have := HI1.out.size; omega
  have hTw := HI1.out.tabs hT
  have hb2 : u.ownBlock ≠ some b := fun e => by
    obtain ⟨u2, hu2, ho2⟩ := HI.out.lst
    have e3 : w1.heap[w0.heap.size + 1]? = wx.heap[w0.heap.size + 1]? := HG.out.block _ (by omega) (by intro e4; injection e4 with e4; omega)
    rw [e3, hu2] at hu
    injection hu with hu
    injection hu with hu
    have e5 : u2 = u := by have := congrArg (fun a : Array Value => a[0]?) hu; simpa using this
    subst e5
    have := (ho2.lt b e).2
    omega
  have hb3 : b ≠ w0.heap.size + 1 := by omega
  have HU := Lib.hid hu
  have HO := Lib.hid hown
  have HB2 := Lib.hid hb2
  clear hu hown hb2 HRd HXs HXm
  go_wp2_with fail
  refine wp_region_held_drew (S := (SX w1 u (w0.heap.size + 1))) (by kernel_rfl) (fun k hk _ _ => Below.block ((Below.refl w1.heap.size w1).drew) k hk) (fun hHeld => ?_)
  have sH : Below w1.heap.size w1 w1.drew := (Below.refl _ _).drew
  refine takeL (i := 1) (v := ?_) rfl (by kernel_rfl) (by kernel_rfl) (by kernel_rfl) (fun _ _ _ h => h) (Or.inl ⟨by rfl, ?_⟩) hHeld ?_
  rotate_left
  · intro wS hSw; go_simp; try with_reducible rfl
  try simp only [Act.put, List.setIfInBounds_toArray, List.set_cons_zero, List.set_cons_succ]
  refine takeL (i := 2) (v := ?_) rfl (by kernel_rfl) (by kernel_rfl) (by kernel_rfl) (fun _ _ _ h => h) (Or.inl ⟨by rfl, ?_⟩) hHeld ?_
  rotate_left
  · intro wS hSw; go_simp; try with_reducible rfl
  try simp only [Act.put, List.setIfInBounds_toArray, List.set_cons_zero, List.set_cons_succ]
  refine takeL (i := 3) (v := ?_) rfl (by kernel_rfl) (by kernel_rfl) (by kernel_rfl) (fun _ _ _ h => h) (Or.inl ⟨by rfl, ?_⟩) hHeld ?_
  rotate_left
  · intro wS hSw; have c := (World.cell?_of_block (w := w1) (a := ⟨b, 0, none⟩) (hSw b hbl HB2.out hb3)).trans d0; go_simp; try with_reducible rfl
  try simp only [Act.put, List.setIfInBounds_toArray, List.set_cons_zero, List.set_cons_succ]
  refine takeL (i := 5) (v := ?_) rfl (by kernel_rfl) (by kernel_rfl) (by kernel_rfl) (fun _ _ _ h => h) (Or.inl ⟨by rfl, ?_⟩) hHeld ?_
  rotate_left
  · intro wS hSw; go_simp; try with_reducible rfl
  try simp only [Act.put, List.setIfInBounds_toArray, List.set_cons_zero, List.set_cons_succ]
  refine takeL (i := 6) (v := ?_) rfl (by kernel_rfl) (by kernel_rfl) (by kernel_rfl) (fun _ _ _ h => h) (Or.inl ⟨by rfl, ?_⟩) hHeld ?_
  rotate_left
  · intro wS hSw; go_simp; try with_reducible rfl
  try simp only [Act.put, List.setIfInBounds_toArray, List.set_cons_zero, List.set_cons_succ]
  refine takeL (i := 7) (v := ?_) rfl (by kernel_rfl) (by kernel_rfl) (by kernel_rfl) (fun _ _ _ h => h) (Or.inl ⟨by rfl, ?_⟩) hHeld ?_
  rotate_left
  · intro wS hSw; have c := (World.cell?_of_block (w := w1) (a := ⟨b, 1, none⟩) (hSw b hbl HB2.out hb3)).trans d1; go_simp; try with_reducible rfl
  try simp only [Act.put, List.setIfInBounds_toArray, List.set_cons_zero, List.set_cons_succ]
  refine takeL (i := 9) (v := ?_) rfl (by kernel_rfl) (by kernel_rfl) (by kernel_rfl) (fun _ _ _ h => h) (Or.inl ⟨by rfl, ?_⟩) hHeld ?_
  rotate_left
  · intro wS hSw; go_simp; try with_reducible rfl
  try simp only [Act.put, List.setIfInBounds_toArray, List.set_cons_zero, List.set_cons_succ]
  refine takeL (i := 10) (v := ?_) rfl (by kernel_rfl) (by kernel_rfl) (by kernel_rfl) (fun _ _ _ h => h) (Or.inl ⟨by rfl, ?_⟩) hHeld ?_
  rotate_left
  · intro wS hSw; go_simp; try with_reducible rfl
  try simp only [Act.put, List.setIfInBounds_toArray, List.set_cons_zero, List.set_cons_succ]
  refine takeL (i := 11) (v := ?_) rfl (by kernel_rfl) (by kernel_rfl) (by kernel_rfl) (fun _ _ _ h => h) (Or.inl ⟨by rfl, ?_⟩) hHeld ?_
  rotate_left
  · intro wS hSw; have c := (World.cell?_of_block (w := w1) (a := ⟨b, 2, none⟩) (hSw b hbl HB2.out hb3)).trans d2; go_simp; try with_reducible rfl
  try simp only [Act.put, List.setIfInBounds_toArray, List.set_cons_zero, List.set_cons_succ]
  refine takeL (i := 13) (v := ?_) rfl (by kernel_rfl) (by kernel_rfl) (by kernel_rfl) (fun _ _ _ h => h) (Or.inl ⟨by rfl, ?_⟩) hHeld ?_
  rotate_left
  · intro wS hSw; go_simp; try with_reducible rfl
  try simp only [Act.put, List.setIfInBounds_toArray, List.set_cons_zero, List.set_cons_succ]
  refine takeL (i := 14) (v := ?_) rfl (by kernel_rfl) (by kernel_rfl) (by kernel_rfl) (fun _ _ _ h => h) (Or.inl ⟨by rfl, ?_⟩) hHeld ?_
  rotate_left
  · intro wS hSw; go_simp; try with_reducible rfl
  try simp only [Act.put, List.setIfInBounds_toArray, List.set_cons_zero, List.set_cons_succ]
  refine takeL (i := 15) (v := ?_) rfl (by kernel_rfl) (by kernel_rfl) (by kernel_rfl) (fun _ _ _ h => h) (Or.inl ⟨by rfl, ?_⟩) hHeld ?_
  rotate_left
  · intro wS hSw; have c := (World.cell?_of_block (w := w1) (a := ⟨b, 3, none⟩) (hSw b hbl HB2.out hb3)).trans d3; go_simp; try with_reducible rfl
  try simp only [Act.put, List.setIfInBounds_toArray, List.set_cons_zero, List.set_cons_succ]
  refine readyL2 (i := 0) (j := 4) (by kernel_rfl) rfl rfl (fun K hK => ?_) (fun K hK => ?_)
  · have c0 := (Below.cell sH (p := ⟨w0.heap.size + 1, 0, none⟩) hul).trans cu
    go_simp
    refine hK.out _ _ (fun k hk _ _ => Below.block sH k hk) (fun _ => ?_)
    clear hK K
    try simp only [Act.put, List.setIfInBounds_toArray, List.set_cons_zero, List.set_cons_succ]
    clear c0
    refine readyL (i := 4) (by kernel_rfl) rfl (fun K hK => ?_)
    go_simp
    refine (number_yes x0 n0 _ (by omega) (by rw [X0.out]; exact G0.out)).mono ?_
    rintro e y0 ⟨rfl, b0⟩
    have s0 : Below w1.heap.size w1 y0 := Below.trans sH (b0.out.mono (Below.size sH))
    clear b0
    go_wp2_with fail
    refine hK.out _ _ (fun k hk _ _ => Below.block s0 k hk) (fun _ => ?_)
    clear hK K
    try simp only [Act.put, List.setIfInBounds_toArray, List.set_cons_zero, List.set_cons_succ]
    refine readyL (i := 8) (by kernel_rfl) rfl (fun K hK => ?_)
    go_simp
    refine (name_yes_walk x1 nm _ (hTw.below s0) (by omega) (by rw [X1.out]; exact G1.out)).mono ?_
    rintro e y1 ⟨z, rfl, HZ, b1⟩
    have s1 : Below w1.heap.size w1 y1 := Below.trans s0 (b1.out.mono (Below.size s0))
    clear b1
    go_wp2_with fail
    refine hK.out _ _ (fun k hk _ _ => Below.block s1 k hk) (fun _ => ?_)
    clear hK K
    try simp only [Act.put, List.setIfInBounds_toArray, List.set_cons_zero, List.set_cons_succ]
    refine readyL (i := 12) (by kernel_rfl) rfl (fun K hK => ?_)
    go_simp
    refine (number_no x2 _ (hTw.below s1) (by omega) (by rw [X2.out]; exact G2.out)).mono ?_
    rintro e y2 ⟨rfl, b2⟩
    exact ⟨rfl, rfl, Lib.hid (HI1.out.out.below (Below.trans s1 (b2.out.mono (Below.size s1))))⟩
  · go_simp
    refine (number_yes x0 n0 _ (by omega) (by rw [X0.out]; exact G0.out)).mono ?_
    rintro e y0 ⟨rfl, b0⟩
    have s0 : Below w1.heap.size w1 y0 := Below.trans sH (b0.out.mono (Below.size sH))
    clear b0
    go_wp2_with fail
    refine hK.out _ _ (fun k hk _ _ => Below.block s0 k hk) (fun _ => ?_)
    clear hK K
    try simp only [Act.put, List.setIfInBounds_toArray, List.set_cons_zero, List.set_cons_succ]
    refine readyL2 (i := 0) (j := 8) (by kernel_rfl) rfl rfl (fun K hK => ?_) (fun K hK => ?_)
    · have c0 := (Below.cell s0 (p := ⟨w0.heap.size + 1, 0, none⟩) hul).trans cu
      go_simp
      refine hK.out _ _ (fun k hk _ _ => Below.block s0 k hk) (fun _ => ?_)
      clear hK K
      try simp only [Act.put, List.setIfInBounds_toArray, List.set_cons_zero, List.set_cons_succ]
      clear c0
      refine readyL (i := 8) (by kernel_rfl) rfl (fun K hK => ?_)
      go_simp
      refine (name_yes_walk x1 nm _ (hTw.below s0) (by omega) (by rw [X1.out]; exact G1.out)).mono ?_
      rintro e y1 ⟨z, rfl, HZ, b1⟩
      have s1 : Below w1.heap.size w1 y1 := Below.trans s0 (b1.out.mono (Below.size s0))
      clear b1
      go_wp2_with fail
      refine hK.out _ _ (fun k hk _ _ => Below.block s1 k hk) (fun _ => ?_)
      clear hK K
      try simp only [Act.put, List.setIfInBounds_toArray, List.set_cons_zero, List.set_cons_succ]
      refine readyL (i := 12) (by kernel_rfl) rfl (fun K hK => ?_)
      go_simp
      refine (number_no x2 _ (hTw.below s1) (by omega) (by rw [X2.out]; exact G2.out)).mono ?_
      rintro e y2 ⟨rfl, b2⟩
      exact ⟨rfl, rfl, Lib.hid (HI1.out.out.below (Below.trans s1 (b2.out.mono (Below.size s1))))⟩
    · go_simp
      refine (name_yes_walk x1 nm _ (hTw.below s0) (by omega) (by rw [X1.out]; exact G1.out)).mono ?_
      rintro e y1 ⟨z, rfl, HZ, b1⟩
      have s1 : Below w1.heap.size w1 y1 := Below.trans s0 (b1.out.mono (Below.size s0))
      clear b1
      go_wp2_with fail
      refine hK.out _ _ (fun k hk _ _ => Below.block s1 k hk) (fun _ => ?_)
      clear hK K
      try simp only [Act.put, List.setIfInBounds_toArray, List.set_cons_zero, List.set_cons_succ]
      refine readyL2 (i := 0) (j := 12) (by kernel_rfl) rfl rfl (fun K hK => ?_) (fun K hK => ?_)
      · have c0 := (Below.cell s1 (p := ⟨w0.heap.size + 1, 0, none⟩) hul).trans cu
        go_simp
        refine hK.out _ _ (fun k hk _ _ => Below.block s1 k hk) (fun _ => ?_)
        clear hK K
        try simp only [Act.put, List.setIfInBounds_toArray, List.set_cons_zero, List.set_cons_succ]
        clear c0
        refine readyL (i := 12) (by kernel_rfl) rfl (fun K hK => ?_)
        go_simp
        refine (number_no x2 _ (hTw.below s1) (by omega) (by rw [X2.out]; exact G2.out)).mono ?_
        rintro e y2 ⟨rfl, b2⟩
        exact ⟨rfl, rfl, Lib.hid (HI1.out.out.below (Below.trans s1 (b2.out.mono (Below.size s1))))⟩
      · go_simp
        refine (number_no x2 _ (hTw.below s1) (by omega) (by rw [X2.out]; exact G2.out)).mono ?_
        rintro e y2 ⟨rfl, b2⟩
        exact ⟨rfl, rfl, Lib.hid (HI1.out.out.below (Below.trans s1 (b2.out.mono (Below.size s1))))⟩
set_option maxHeartbeats 8000000 in
set_option maxRecDepth 100000 in
theorem pay_no3 (w0 : World) (t : ByteArray) (p : Nat) (l : List Pay) (wx : World) (hT : Tabs w0) (h : RdI payC 4 27 22 w0 t p l wx) (hp : p ≤ t.size) (ht : t.size ≤ 4294967200) (_hlen : l.length ≤ 1000) (ws : List Bs) (r : Bs) (hl : lineP 4 ((L t).drop p) = some (ws, r)) (n0 : Int) (h0 : numP (ws.getD 0 []) = some n0) (nm : Bs) (h1 : nameP (ws.getD 1 []) = some nm) (n2 : Int) (h2 : numP (ws.getD 2 []) = some n2) (h3 : dayP (ws.getD 3 []) = none) :
    Calls Tryz.prog 42 #[.pointer (some ⟨w0.heap.size + 3, 0, none⟩), .pointer (some ⟨w0.heap.size + 1, 0, none⟩)] wx fun e w' => e = dam ∧ Hid (RdX w0 w') := by
  have HI := Lib.hid h
  have HL := Lib.hid hl
  have G0 := Lib.hid h0
  have G1 := Lib.hid h1
  have G2 := Lib.hid h2
  have G3 := Lib.hid h3
  clear h hl h0 h1 h2 h3
  have hTx := HI.out.tabs hT
  have hsx := HI.out.size
  have c3 : wx.cell? ⟨w0.heap.size + 3, 0, none⟩ = some (.pointer (some ⟨w0.heap.size + 2, 0, none⟩)) := by rw [cell_row HI.out.rv]; rfl
  obtain ⟨i0, hi, hz0, hz1, hz2⟩ := info_parts Tryz.infoPay
  go_enter Tryz.func42, Tryz.ntmps42
  go_wp2_with fail
  refine (line_yes t _ p 4 _ hTx HI.out.rdr hp ht (by omega) ws r HL.out).mono ?_
  rintro e w1 ⟨xs, b, q, rfl, hb0, hbl, HXs, HXm, HRd, hq, HQ, HRR, HG⟩
  have HI1 : Hid (RdI payC 4 27 22 w0 t q l w1) := Lib.hid (HI.out.moved HG.out HRR.out)
  have hws : ws.length = 4 := by
    have := HL.out
    unfold lineP at this
    cases hc : cutL 10 ((L t).drop p) with
    | none => rw [hc] at this; cases this
    | some ab =>
      rw [hc] at this
      simp only [] at this
      by_cases hw : (splitL 32 ab.1).length = 4
      · rw [if_pos hw] at this; injection this with this; injection this with h1 _; rw [← h1]; exact hw
      · rw [if_neg hw] at this; cases this
  have hxl : xs.length = 4 := by rw [← hws, ← HXm.out, List.length_map]
  obtain ⟨x0, x1, x2, x3, rfl⟩ : ∃ x0 x1 x2 x3, xs = [x0, x1, x2, x3] := by
    match xs, hxl with
    | [x0, x1, x2, x3], _ => exact ⟨x0, x1, x2, x3, rfl⟩
  clear hxl hws
  have X0 : Hid (L x0 = ws.getD 0 []) := Lib.hid (by rw [← HXm.out]; rfl)
  have hx0 : x0.size ≤ t.size := HXs.out x0 (by simp)
  have d0 : w1.cell? ⟨b, 0, none⟩ = some (.string x0) := by
    obtain ⟨A, cap, e, hc, _, hcell⟩ := HRd.out
    injection e with e1 e2 e3
    subst e1 e3
    obtain ⟨g, o, hA, hg, hx⟩ := hcell (by simp)
    injection hA with hA
    injection hA with k1 k2
    subst k1 k2
    have := hx 0 (.string x0) rfl
    rw [Nat.zero_add] at this
    exact this
  have X1 : Hid (L x1 = ws.getD 1 []) := Lib.hid (by rw [← HXm.out]; rfl)
  have hx1 : x1.size ≤ t.size := HXs.out x1 (by simp)
  have d1 : w1.cell? ⟨b, 1, none⟩ = some (.string x1) := by
    obtain ⟨A, cap, e, hc, _, hcell⟩ := HRd.out
    injection e with e1 e2 e3
    subst e1 e3
    obtain ⟨g, o, hA, hg, hx⟩ := hcell (by simp)
    injection hA with hA
    injection hA with k1 k2
    subst k1 k2
    have := hx 1 (.string x1) rfl
    rw [Nat.zero_add] at this
    exact this
  have X2 : Hid (L x2 = ws.getD 2 []) := Lib.hid (by rw [← HXm.out]; rfl)
  have hx2 : x2.size ≤ t.size := HXs.out x2 (by simp)
  have d2 : w1.cell? ⟨b, 2, none⟩ = some (.string x2) := by
    obtain ⟨A, cap, e, hc, _, hcell⟩ := HRd.out
    injection e with e1 e2 e3
    subst e1 e3
    obtain ⟨g, o, hA, hg, hx⟩ := hcell (by simp)
    injection hA with hA
    injection hA with k1 k2
    subst k1 k2
    have := hx 2 (.string x2) rfl
    rw [Nat.zero_add] at this
    exact this
  have X3 : Hid (L x3 = ws.getD 3 []) := Lib.hid (by rw [← HXm.out]; rfl)
  have hx3 : x3.size ≤ t.size := HXs.out x3 (by simp)
  have d3 : w1.cell? ⟨b, 3, none⟩ = some (.string x3) := by
    obtain ⟨A, cap, e, hc, _, hcell⟩ := HRd.out
    injection e with e1 e2 e3
    subst e1 e3
    obtain ⟨g, o, hA, hg, hx⟩ := hcell (by simp)
    injection hA with hA
    injection hA with k1 k2
    subst k1 k2
    have := hx 3 (.string x3) rfl
    rw [Nat.zero_add] at this
    exact this
  obtain ⟨u, hu, hown⟩ := HI1.out.lst
  have cu : w1.cell? ⟨w0.heap.size + 1, 0, none⟩ = some u := by rw [cell_row hu]; rfl
  have hul : w0.heap.size + 1 < w1.heap.size := by have := HI1.out.size; omega
  have hTw := HI1.out.tabs hT
  have hb2 : u.ownBlock ≠ some b := fun e => by
    obtain ⟨u2, hu2, ho2⟩ := HI.out.lst
    have e3 : w1.heap[w0.heap.size + 1]? = wx.heap[w0.heap.size + 1]? := HG.out.block _ (by omega) (by intro e4; injection e4 with e4; omega)
    rw [e3, hu2] at hu
    injection hu with hu
    injection hu with hu
    have e5 : u2 = u := by have := congrArg (fun a : Array Value => a[0]?) hu; simpa using this
    subst e5
    have := (ho2.lt b e).2
    omega
  have hb3 : b ≠ w0.heap.size + 1 := by omega
  have HU := Lib.hid hu
  have HO := Lib.hid hown
  have HB2 := Lib.hid hb2
  clear hu hown hb2 HRd HXs HXm
  go_wp2_with fail
  refine wp_region_held_drew (S := (SX w1 u (w0.heap.size + 1))) (by kernel_rfl) (fun k hk _ _ => Below.block ((Below.refl w1.heap.size w1).drew) k hk) (fun hHeld => ?_)
  have sH : Below w1.heap.size w1 w1.drew := (Below.refl _ _).drew
  refine takeL (i := 1) (v := ?_) rfl (by kernel_rfl) (by kernel_rfl) (by kernel_rfl) (fun _ _ _ h => h) (Or.inl ⟨by rfl, ?_⟩) hHeld ?_
  rotate_left
  · intro wS hSw; go_simp; try with_reducible rfl
  try simp only [Act.put, List.setIfInBounds_toArray, List.set_cons_zero, List.set_cons_succ]
  refine takeL (i := 2) (v := ?_) rfl (by kernel_rfl) (by kernel_rfl) (by kernel_rfl) (fun _ _ _ h => h) (Or.inl ⟨by rfl, ?_⟩) hHeld ?_
  rotate_left
  · intro wS hSw; go_simp; try with_reducible rfl
  try simp only [Act.put, List.setIfInBounds_toArray, List.set_cons_zero, List.set_cons_succ]
  refine takeL (i := 3) (v := ?_) rfl (by kernel_rfl) (by kernel_rfl) (by kernel_rfl) (fun _ _ _ h => h) (Or.inl ⟨by rfl, ?_⟩) hHeld ?_
  rotate_left
  · intro wS hSw; have c := (World.cell?_of_block (w := w1) (a := ⟨b, 0, none⟩) (hSw b hbl HB2.out hb3)).trans d0; go_simp; try with_reducible rfl
  try simp only [Act.put, List.setIfInBounds_toArray, List.set_cons_zero, List.set_cons_succ]
  refine takeL (i := 5) (v := ?_) rfl (by kernel_rfl) (by kernel_rfl) (by kernel_rfl) (fun _ _ _ h => h) (Or.inl ⟨by rfl, ?_⟩) hHeld ?_
  rotate_left
  · intro wS hSw; go_simp; try with_reducible rfl
  try simp only [Act.put, List.setIfInBounds_toArray, List.set_cons_zero, List.set_cons_succ]
  refine takeL (i := 6) (v := ?_) rfl (by kernel_rfl) (by kernel_rfl) (by kernel_rfl) (fun _ _ _ h => h) (Or.inl ⟨by rfl, ?_⟩) hHeld ?_
  rotate_left
  · intro wS hSw; go_simp; try with_reducible rfl
  try simp only [Act.put, List.setIfInBounds_toArray, List.set_cons_zero, List.set_cons_succ]
  refine takeL (i := 7) (v := ?_) rfl (by kernel_rfl) (by kernel_rfl) (by kernel_rfl) (fun _ _ _ h => h) (Or.inl ⟨by rfl, ?_⟩) hHeld ?_
  rotate_left
  · intro wS hSw; have c := (World.cell?_of_block (w := w1) (a := ⟨b, 1, none⟩) (hSw b hbl HB2.out hb3)).trans d1; go_simp; try with_reducible rfl
  try simp only [Act.put, List.setIfInBounds_toArray, List.set_cons_zero, List.set_cons_succ]
  refine takeL (i := 9) (v := ?_) rfl (by kernel_rfl) (by kernel_rfl) (by kernel_rfl) (fun _ _ _ h => h) (Or.inl ⟨by rfl, ?_⟩) hHeld ?_
  rotate_left
  · intro wS hSw; go_simp; try with_reducible rfl
  try simp only [Act.put, List.setIfInBounds_toArray, List.set_cons_zero, List.set_cons_succ]
  refine takeL (i := 10) (v := ?_) rfl (by kernel_rfl) (by kernel_rfl) (by kernel_rfl) (fun _ _ _ h => h) (Or.inl ⟨by rfl, ?_⟩) hHeld ?_
  rotate_left
  · intro wS hSw; go_simp; try with_reducible rfl
  try simp only [Act.put, List.setIfInBounds_toArray, List.set_cons_zero, List.set_cons_succ]
  refine takeL (i := 11) (v := ?_) rfl (by kernel_rfl) (by kernel_rfl) (by kernel_rfl) (fun _ _ _ h => h) (Or.inl ⟨by rfl, ?_⟩) hHeld ?_
  rotate_left
  · intro wS hSw; have c := (World.cell?_of_block (w := w1) (a := ⟨b, 2, none⟩) (hSw b hbl HB2.out hb3)).trans d2; go_simp; try with_reducible rfl
  try simp only [Act.put, List.setIfInBounds_toArray, List.set_cons_zero, List.set_cons_succ]
  refine takeL (i := 13) (v := ?_) rfl (by kernel_rfl) (by kernel_rfl) (by kernel_rfl) (fun _ _ _ h => h) (Or.inl ⟨by rfl, ?_⟩) hHeld ?_
  rotate_left
  · intro wS hSw; go_simp; try with_reducible rfl
  try simp only [Act.put, List.setIfInBounds_toArray, List.set_cons_zero, List.set_cons_succ]
  refine takeL (i := 14) (v := ?_) rfl (by kernel_rfl) (by kernel_rfl) (by kernel_rfl) (fun _ _ _ h => h) (Or.inl ⟨by rfl, ?_⟩) hHeld ?_
  rotate_left
  · intro wS hSw; go_simp; try with_reducible rfl
  try simp only [Act.put, List.setIfInBounds_toArray, List.set_cons_zero, List.set_cons_succ]
  refine takeL (i := 15) (v := ?_) rfl (by kernel_rfl) (by kernel_rfl) (by kernel_rfl) (fun _ _ _ h => h) (Or.inl ⟨by rfl, ?_⟩) hHeld ?_
  rotate_left
  · intro wS hSw; have c := (World.cell?_of_block (w := w1) (a := ⟨b, 3, none⟩) (hSw b hbl HB2.out hb3)).trans d3; go_simp; try with_reducible rfl
  try simp only [Act.put, List.setIfInBounds_toArray, List.set_cons_zero, List.set_cons_succ]
  refine readyL2 (i := 0) (j := 4) (by kernel_rfl) rfl rfl (fun K hK => ?_) (fun K hK => ?_)
  · have c0 := (Below.cell sH (p := ⟨w0.heap.size + 1, 0, none⟩) hul).trans cu
    go_simp
    refine hK.out _ _ (fun k hk _ _ => Below.block sH k hk) (fun _ => ?_)
    clear hK K
    try simp only [Act.put, List.setIfInBounds_toArray, List.set_cons_zero, List.set_cons_succ]
    clear c0
    refine readyL (i := 4) (by kernel_rfl) rfl (fun K hK => ?_)
    go_simp
    refine (number_yes x0 n0 _ (by omega) (by rw [X0.out]; exact G0.out)).mono ?_
    rintro e y0 ⟨rfl, b0⟩
    have s0 : Below w1.heap.size w1 y0 := Below.trans sH (b0.out.mono (Below.size sH))
    clear b0
    go_wp2_with fail
    refine hK.out _ _ (fun k hk _ _ => Below.block s0 k hk) (fun _ => ?_)
    clear hK K
    try simp only [Act.put, List.setIfInBounds_toArray, List.set_cons_zero, List.set_cons_succ]
    refine readyL (i := 8) (by kernel_rfl) rfl (fun K hK => ?_)
    go_simp
    refine (name_yes_walk x1 nm _ (hTw.below s0) (by omega) (by rw [X1.out]; exact G1.out)).mono ?_
    rintro e y1 ⟨z, rfl, HZ, b1⟩
    have s1 : Below w1.heap.size w1 y1 := Below.trans s0 (b1.out.mono (Below.size s0))
    clear b1
    go_wp2_with fail
    refine hK.out _ _ (fun k hk _ _ => Below.block s1 k hk) (fun _ => ?_)
    clear hK K
    try simp only [Act.put, List.setIfInBounds_toArray, List.set_cons_zero, List.set_cons_succ]
    refine readyL (i := 12) (by kernel_rfl) rfl (fun K hK => ?_)
    go_simp
    refine (number_yes x2 n2 _ (by omega) (by rw [X2.out]; exact G2.out)).mono ?_
    rintro e y2 ⟨rfl, b2⟩
    have s2 : Below w1.heap.size w1 y2 := Below.trans s1 (b2.out.mono (Below.size s1))
    clear b2
    go_wp2_with fail
    refine hK.out _ _ (fun k hk _ _ => Below.block s2 k hk) (fun _ => ?_)
    clear hK K
    try simp only [Act.put, List.setIfInBounds_toArray, List.set_cons_zero, List.set_cons_succ]
    refine readyL (i := 16) (by kernel_rfl) rfl (fun K hK => ?_)
    go_simp
    refine (day_no_walk x3 _ (hTw.below s2) (by rw [X3.out]; exact G3.out)).mono ?_
    rintro e y3 ⟨rfl, b3⟩
    exact ⟨rfl, rfl, Lib.hid (HI1.out.out.below (Below.trans s2 (b3.out.mono (Below.size s2))))⟩
  · go_simp
    refine (number_yes x0 n0 _ (by omega) (by rw [X0.out]; exact G0.out)).mono ?_
    rintro e y0 ⟨rfl, b0⟩
    have s0 : Below w1.heap.size w1 y0 := Below.trans sH (b0.out.mono (Below.size sH))
    clear b0
    go_wp2_with fail
    refine hK.out _ _ (fun k hk _ _ => Below.block s0 k hk) (fun _ => ?_)
    clear hK K
    try simp only [Act.put, List.setIfInBounds_toArray, List.set_cons_zero, List.set_cons_succ]
    refine readyL2 (i := 0) (j := 8) (by kernel_rfl) rfl rfl (fun K hK => ?_) (fun K hK => ?_)
    · have c0 := (Below.cell s0 (p := ⟨w0.heap.size + 1, 0, none⟩) hul).trans cu
      go_simp
      refine hK.out _ _ (fun k hk _ _ => Below.block s0 k hk) (fun _ => ?_)
      clear hK K
      try simp only [Act.put, List.setIfInBounds_toArray, List.set_cons_zero, List.set_cons_succ]
      clear c0
      refine readyL (i := 8) (by kernel_rfl) rfl (fun K hK => ?_)
      go_simp
      refine (name_yes_walk x1 nm _ (hTw.below s0) (by omega) (by rw [X1.out]; exact G1.out)).mono ?_
      rintro e y1 ⟨z, rfl, HZ, b1⟩
      have s1 : Below w1.heap.size w1 y1 := Below.trans s0 (b1.out.mono (Below.size s0))
      clear b1
      go_wp2_with fail
      refine hK.out _ _ (fun k hk _ _ => Below.block s1 k hk) (fun _ => ?_)
      clear hK K
      try simp only [Act.put, List.setIfInBounds_toArray, List.set_cons_zero, List.set_cons_succ]
      refine readyL (i := 12) (by kernel_rfl) rfl (fun K hK => ?_)
      go_simp
      refine (number_yes x2 n2 _ (by omega) (by rw [X2.out]; exact G2.out)).mono ?_
      rintro e y2 ⟨rfl, b2⟩
      have s2 : Below w1.heap.size w1 y2 := Below.trans s1 (b2.out.mono (Below.size s1))
      clear b2
      go_wp2_with fail
      refine hK.out _ _ (fun k hk _ _ => Below.block s2 k hk) (fun _ => ?_)
      clear hK K
      try simp only [Act.put, List.setIfInBounds_toArray, List.set_cons_zero, List.set_cons_succ]
      refine readyL (i := 16) (by kernel_rfl) rfl (fun K hK => ?_)
      go_simp
      refine (day_no_walk x3 _ (hTw.below s2) (by rw [X3.out]; exact G3.out)).mono ?_
      rintro e y3 ⟨rfl, b3⟩
      exact ⟨rfl, rfl, Lib.hid (HI1.out.out.below (Below.trans s2 (b3.out.mono (Below.size s2))))⟩
    · go_simp
      refine (name_yes_walk x1 nm _ (hTw.below s0) (by omega) (by rw [X1.out]; exact G1.out)).mono ?_
      rintro e y1 ⟨z, rfl, HZ, b1⟩
      have s1 : Below w1.heap.size w1 y1 := Below.trans s0 (b1.out.mono (Below.size s0))
      clear b1
      go_wp2_with fail
      refine hK.out _ _ (fun k hk _ _ => Below.block s1 k hk) (fun _ => ?_)
      clear hK K
      try simp only [Act.put, List.setIfInBounds_toArray, List.set_cons_zero, List.set_cons_succ]
      refine readyL2 (i := 0) (j := 12) (by kernel_rfl) rfl rfl (fun K hK => ?_) (fun K hK => ?_)
      · have c0 := (Below.cell s1 (p := ⟨w0.heap.size + 1, 0, none⟩) hul).trans cu
        go_simp
        refine hK.out _ _ (fun k hk _ _ => Below.block s1 k hk) (fun _ => ?_)
        clear hK K
        try simp only [Act.put, List.setIfInBounds_toArray, List.set_cons_zero, List.set_cons_succ]
        clear c0
        refine readyL (i := 12) (by kernel_rfl) rfl (fun K hK => ?_)
        go_simp
        refine (number_yes x2 n2 _ (by omega) (by rw [X2.out]; exact G2.out)).mono ?_
        rintro e y2 ⟨rfl, b2⟩
        have s2 : Below w1.heap.size w1 y2 := Below.trans s1 (b2.out.mono (Below.size s1))
        clear b2
        go_wp2_with fail
        refine hK.out _ _ (fun k hk _ _ => Below.block s2 k hk) (fun _ => ?_)
        clear hK K
        try simp only [Act.put, List.setIfInBounds_toArray, List.set_cons_zero, List.set_cons_succ]
        refine readyL (i := 16) (by kernel_rfl) rfl (fun K hK => ?_)
        go_simp
        refine (day_no_walk x3 _ (hTw.below s2) (by rw [X3.out]; exact G3.out)).mono ?_
        rintro e y3 ⟨rfl, b3⟩
        exact ⟨rfl, rfl, Lib.hid (HI1.out.out.below (Below.trans s2 (b3.out.mono (Below.size s2))))⟩
      · go_simp
        refine (number_yes x2 n2 _ (by omega) (by rw [X2.out]; exact G2.out)).mono ?_
        rintro e y2 ⟨rfl, b2⟩
        have s2 : Below w1.heap.size w1 y2 := Below.trans s1 (b2.out.mono (Below.size s1))
        clear b2
        go_wp2_with fail
        refine hK.out _ _ (fun k hk _ _ => Below.block s2 k hk) (fun _ => ?_)
        clear hK K
        try simp only [Act.put, List.setIfInBounds_toArray, List.set_cons_zero, List.set_cons_succ]
        refine readyL2 (i := 0) (j := 16) (by kernel_rfl) rfl rfl (fun K hK => ?_) (fun K hK => ?_)
        · have c0 := (Below.cell s2 (p := ⟨w0.heap.size + 1, 0, none⟩) hul).trans cu
          go_simp
          refine hK.out _ _ (fun k hk _ _ => Below.block s2 k hk) (fun _ => ?_)
          clear hK K
          try simp only [Act.put, List.setIfInBounds_toArray, List.set_cons_zero, List.set_cons_succ]
          clear c0
          refine readyL (i := 16) (by kernel_rfl) rfl (fun K hK => ?_)
          go_simp
          refine (day_no_walk x3 _ (hTw.below s2) (by rw [X3.out]; exact G3.out)).mono ?_
          rintro e y3 ⟨rfl, b3⟩
          exact ⟨rfl, rfl, Lib.hid (HI1.out.out.below (Below.trans s2 (b3.out.mono (Below.size s2))))⟩
        · go_simp
          refine (day_no_walk x3 _ (hTw.below s2) (by rw [X3.out]; exact G3.out)).mono ?_
          rintro e y3 ⟨rfl, b3⟩
          exact ⟨rfl, rfl, Lib.hid (HI1.out.out.below (Below.trans s2 (b3.out.mono (Below.size s2))))⟩
end Go.Proofs.YtibgibjmpcajkaaGreatDoor
