/- The walk of (*reader).line. -/
import Derived.Test.YtibgibjmpcajkaaGreatDoorBankL2
namespace Go.Proofs.YtibgibjmpcajkaaGreatDoor
open Go.RowKit BankS

theorem index_any (s : ByteArray) (i : Int) (w : World) (h : Lib.indexByte (L s) 10 = i) :
    Calls Tryz.prog 77 #[.string s, .int .u8 10] w fun e w' => e = .returned (.int .i64 i) ∧ w' = w := by
  refine (Tryz.strings_IndexByte s 10 w).mono ?_
  rintro e w' ⟨rfl, rfl⟩
  exact ⟨by rw [← h]; rfl, rfl⟩
theorem split_any (s : ByteArray) (w : World) (hT : Tabs w) (hs : s.size < 4294967281) :
    Calls Tryz.prog 78 #[.string s, .string ⟨#[32]⟩] w fun e w' => ∃ xs : List ByteArray, e = .returned (.slice (some ⟨w.heap.size, 0, none⟩) xs.length xs.length) ∧ Hid (xs.map L = splitL 32 (L s)) ∧ Hid (Rd strC 1 w' (.slice (some ⟨w.heap.size, 0, none⟩) xs.length xs.length) xs) ∧ Hid (Below w.heap.size w w') ∧ Hid (w.heap.size < w'.heap.size) := by
  obtain ⟨m, hm⟩ := hT.max
  refine (Tryz.strings_Split s ⟨#[32]⟩ m w hs hm (by decide)).mono ?_
  rintro e w' ⟨rfl, rfl⟩
  have hl : (Lib.splitB ⟨#[32]⟩ 0 (Lib.countB s ⟨#[32]⟩) s).length = Lib.countB s ⟨#[32]⟩ + 1 := Lib.splitB_all _ (by decide) 0 _ s rfl
  have hd : (Lib.splitB ⟨#[32]⟩ 0 (Lib.countB s ⟨#[32]⟩) s).map L = splitL 32 (L s) := by
    have := Lib.splitB_data ⟨#[32]⟩ 0 (Lib.countB s ⟨#[32]⟩) s
    have h2 := split_eq 32 (L s)
    unfold Lib.split at h2
    exact this.trans h2
  refine ⟨_, by rw [hl], Lib.hid hd, Lib.hid ?_, Lib.hid ((Below.refl _ _).alloc (Nat.le_refl _) _), Lib.hid (by simp)⟩
  refine rd_new w _ _ _ ?_ _ rfl
  congr 1
  unfold cellsL
  generalize Lib.splitB ⟨#[32]⟩ 0 (Lib.countB s ⟨#[32]⟩) s = ys
  induction ys with
  | nil => rfl
  | cons y ys ih => rw [List.map_cons, List.flatMap_cons, ih]; rfl
theorem splitL_mem (x : UInt8) (t l : Bs) (h : l ∈ splitL x t) : l.length ≤ t.length := by
  induction t generalizing l with
  | nil => simp [splitL] at h; subst h; simp
  | cons c t ih =>
    rw [splitL] at h
    by_cases e : c = x
    · rw [if_pos e] at h
      rcases List.mem_cons.1 h with h | h
      · subst h; simp
      · have := ih l h; simp; omega
    · rw [if_neg e] at h
      cases hs : splitL x t with
      | nil => rw [hs] at h; simp at h; subst h; simp
      | cons y ys =>
        rw [hs] at h ih
        rcases List.mem_cons.1 h with h | h
        · subst h; have := ih y List.mem_cons_self; simp; omega
        · have := ih l (List.mem_cons_of_mem _ h); simp; omega
theorem L_from (s : ByteArray) (k : Nat) : L (s.extract k s.size) = (L s).drop k := Lib.extract_to_end s k
theorem L_mid (s : ByteArray) (k d : Nat) : L (s.extract k (k + d)) = ((L s).drop k).take d := by
  show (s.extract k (k + d)).data.toList = _
  rw [Lib.extract_data, show k + d - k = d from by omega]
theorem Rd.at {α : Type} {f : α → List Value} {c b cap : Nat} {w w' : World} {l : List α} (h : Rd f c w (.slice (some ⟨b, 0, none⟩) l.length cap) l) (hs : w.heap.size ≤ w'.heap.size) (hb : w'.heap[b]? = w.heap[b]?) : Rd f c w' (.slice (some ⟨b, 0, none⟩) l.length cap) l := by
  obtain ⟨A, cap', e, hc, hl, hcell⟩ := h
  injection e with e1 e2 e3
  subst e1 e3
  refine ⟨_, _, rfl, hc, hl, fun h0 => ?_⟩
  obtain ⟨g, o, hA, hg, hx⟩ := hcell h0
  injection hA with hA
  injection hA with h1 h2
  subst h1 h2
  exact ⟨_, _, rfl, Nat.lt_of_lt_of_le hg hs, fun i u hi => by rw [World.cell?_of_block (w := w) hb]; exact hx i u hi⟩
/-- the reader's block -/
def RdrAt (w : World) (R : Nat) (t : ByteArray) (p : Nat) : Prop := w.heap[R]? = some (.cells #[.int .i64 p, .string t] 68 (0, 0))
theorem RdrAt.c0 {w : World} {R p : Nat} {t : ByteArray} (h : RdrAt w R t p) : w.cell? ⟨R, 0, none⟩ = some (.int .i64 p) := by rw [cell_row h]; rfl
theorem RdrAt.c1 {w : World} {R p : Nat} {t : ByteArray} (h : RdrAt w R t p) : w.cell? ⟨R, 1, none⟩ = some (.string t) := by rw [cell_row h]; rfl
theorem RdrAt.lt {w : World} {R p : Nat} {t : ByteArray} (h : RdrAt w R t p) : R < w.heap.size := (Array.getElem?_eq_some_iff.1 h).1
theorem RdrAt.fz {w : World} {R p : Nat} {t : ByteArray} (h : RdrAt w R t p) : w.frozen? ⟨R, 0, none⟩ = false := by
  unfold RdrAt at h
  simp [World.frozen?, h]
theorem RdrAt.below {w w' : World} {R p : Nat} {t : ByteArray} (h : RdrAt w R t p) (b : Below w.heap.size w w') : RdrAt w' R t p := (b.block R h.lt).trans h
theorem RdrAt.set {w : World} {R p : Nat} {t : ByteArray} (h : RdrAt w R t p) (q : Int) (k : Nat) (hq : q = k) : RdrAt (w.setCell ⟨R, 0, none⟩ (.int .i64 q)) R t k := by
  unfold RdrAt at h ⊢
  subst hq
  show (w.heap.modify R _)[R]? = _
  rw [Array.getElem?_modify, if_pos rfl, h]
  rfl
theorem grown_set {w w1 : World} (b : Below w.heap.size w w1) (R : Nat) (v : Value) : w.grownBy (w1.setCell ⟨R, 0, none⟩ v) (some R) :=
  ⟨b.os, b.tape, b.output, by simp [World.setCell]; exact b.size, fun k hk hne => by rw [Below.heap_setCell _ _ _ _ (fun e => hne (by rw [e]))]; exact b.block k hk⟩
/-- what line hands back where the line is there -/
def RetLn (ws : List Bs) (r : Bs) (R : Nat) (t : ByteArray) (w : World) (e : Ending) (w' : World) : Prop :=
  ∃ (xs : List ByteArray) (b q : Nat), e = .returned (.slice (some ⟨b, 0, none⟩) xs.length xs.length) ∧ w.heap.size ≤ b ∧ b < w'.heap.size ∧ Hid (∀ x ∈ xs, x.size ≤ t.size) ∧ Hid (xs.map L = ws) ∧ Hid (Rd strC 1 w' (.slice (some ⟨b, 0, none⟩) xs.length xs.length) xs) ∧ q ≤ t.size ∧ Hid ((L t).drop q = r) ∧ Hid (RdrAt w' R t q) ∧ Hid (w.grownBy w' (some R))

set_option maxHeartbeats 2000000 in
theorem line_yes (t : ByteArray) (R p : Nat) (n : Int) (w : World) (hT : Tabs w) (h : RdrAt w R t p) (hp : p ≤ t.size) (ht : t.size ≤ 4294967200) (hn : 0 ≤ n) (ws : List Bs) (r : Bs) (hl : lineP n.toNat ((L t).drop p) = some (ws, r)) :
    Calls Tryz.prog 43 #[.pointer (some ⟨R, 0, none⟩), .int .i64 n] w (RetLn ws r R t w) := by
  obtain ⟨a, hcut, hws, hwn⟩ : ∃ a, cutL 10 ((L t).drop p) = some (a, r) ∧ ws = splitL 32 a ∧ (splitL 32 a).length = n.toNat := by
    unfold lineP at hl
    cases hc : cutL 10 ((L t).drop p) with
    | none => rw [hc] at hl; cases hl
    | some ab =>
      obtain ⟨a, b⟩ := ab
      rw [hc] at hl
      simp only [] at hl
      by_cases hw : (splitL 32 a).length = n.toNat
      · rw [if_pos hw] at hl; injection hl with hl; injection hl with h1 h2; subst h1 h2; exact ⟨a, rfl, rfl, hw⟩
      · rw [if_neg hw] at hl; cases hl
  have HW := Lib.hid hws
  clear hl hws
  obtain ⟨hdr, hna⟩ : (L t).drop p = a ++ 10 :: r ∧ (10 : UInt8) ∉ a := by
    rcases cutL_cases 10 ((L t).drop p) with ⟨_, h2⟩ | ⟨a', b', h1, h2, h3⟩
    · rw [h2] at hcut; cases hcut
    · rw [h3] at hcut; injection hcut with hcut; injection hcut with h4 h5; subst h4 h5; exact ⟨h1, h2⟩
  have hal : p + a.length + 1 + r.length = t.size := by
    have := congrArg List.length hdr
    rw [List.length_drop, L_len, List.length_append, List.length_cons] at this
    omega
  have HR : Hid ((L t).drop (p + a.length + 1) = r) := Lib.hid (by
    rw [show p + a.length + 1 = p + (a.length + 1) from by omega, ← List.drop_drop, hdr, ← List.drop_drop]; simp)
  have HA : Hid (L (t.extract p (p + a.length)) = a) := Lib.hid (by rw [L_mid, hdr]; simp)
  have HI : Hid (Lib.indexByte (L (t.extract p t.size)) 10 = (a.length : Int)) := Lib.hid (by rw [L_from, hdr, indexByte_first 10 a r hna])
  have HN := Lib.hid hwn
  have H := Lib.hid h
  have c0 := h.c0
  have c1 := h.c1
  have hRl := h.lt
  clear hcut hdr hna hwn h
  have q1 : p + a.length + 1 ≤ t.size := by omega
  clear hal
  generalize a.length = m at *
  go_enter Tryz.func43, Tryz.ntmps43
  go_wp2_with fail
  go_quiet ((go_at_call 77; exact Calls.quiet_of_same (index_any _ _ _ HI.out)))
  go_wp2_with fail
  refine (require_yes _).mono ?_
  rintro e w2 ⟨rfl, rfl⟩
  go_wp2_with fail
  have hw1 : IntKind.i64.wrap ((p : Int) + (m : Int)) = (p : Int) + (m : Int) := IntWalk.i64_in _ (by omega)
  have HW1 := Lib.hid hw1
  clear hw1
  refine wp_region_held_drew (S := (fun W => Below w.heap.size w W)) (by kernel_rfl) ((below_drewN w _).drew) (fun hHeld => ?_)
  refine takeL (i := 0) (v := ?_) rfl (by kernel_rfl) (by kernel_rfl) (by kernel_rfl) (fun _ _ _ h => h) (Or.inl ⟨by rfl, ?_⟩) hHeld ?_
  rotate_left
  · intro wS hSw; go_simp; try with_reducible rfl
  try simp only [Act.put, List.setIfInBounds_toArray, List.set_cons_zero, List.set_cons_succ]
  refine takeL (i := 1) (v := ?_) rfl (by kernel_rfl) (by kernel_rfl) (by kernel_rfl) (fun _ _ _ h => h) (Or.inl ⟨by rfl, ?_⟩) hHeld ?_
  rotate_left
  · intro wS hSw; go_simp; try with_reducible rfl
  try simp only [Act.put, List.setIfInBounds_toArray, List.set_cons_zero, List.set_cons_succ]
  refine takeL (i := 2) (v := ?_) rfl (by kernel_rfl) (by kernel_rfl) (by kernel_rfl) (fun _ _ _ h => h) (Or.inl ⟨by rfl, ?_⟩) hHeld ?_
  rotate_left
  · intro wS hSw; go_simp; try with_reducible rfl
  try simp only [Act.put, List.setIfInBounds_toArray, List.set_cons_zero, List.set_cons_succ]
  refine takeL (i := 3) (v := ?_) rfl (by kernel_rfl) (by kernel_rfl) (by kernel_rfl) (fun _ _ _ h => h) (Or.inl ⟨by rfl, ?_⟩) hHeld ?_
  rotate_left
  · intro wS hSw; have c := (hSw.cell (p := ⟨R, 1, none⟩) hRl).trans c1; go_simp; try with_reducible rfl
  try simp only [Act.put, List.setIfInBounds_toArray, List.set_cons_zero, List.set_cons_succ]
  refine takeL (i := 4) (v := ?_) rfl (by kernel_rfl) (by kernel_rfl) (by kernel_rfl) (fun _ _ _ h => h) (Or.inl ⟨by rfl, ?_⟩) hHeld ?_
  rotate_left
  · intro wS hSw; go_simp; try with_reducible rfl
  try simp only [Act.put, List.setIfInBounds_toArray, List.set_cons_zero, List.set_cons_succ]
  refine takeL (i := 5) (v := ?_) rfl (by kernel_rfl) (by kernel_rfl) (by kernel_rfl) (fun _ _ _ h => h) (Or.inl ⟨by rfl, ?_⟩) hHeld ?_
  rotate_left
  · intro wS hSw; go_simp; try with_reducible rfl
  try simp only [Act.put, List.setIfInBounds_toArray, List.set_cons_zero, List.set_cons_succ]
  refine takeL (i := 6) (v := ?_) rfl (by kernel_rfl) (by kernel_rfl) (by kernel_rfl) (fun _ _ _ h => h) (Or.inl ⟨by rfl, ?_⟩) hHeld ?_
  rotate_left
  · intro wS hSw; go_simp; try with_reducible rfl
  try simp only [Act.put, List.setIfInBounds_toArray, List.set_cons_zero, List.set_cons_succ]
  refine takeL (i := 7) (v := ?_) rfl (by kernel_rfl) (by kernel_rfl) (by kernel_rfl) (fun _ _ _ h => h) (Or.inl ⟨by rfl, ?_⟩) hHeld ?_
  rotate_left
  · intro wS hSw; go_simp; try with_reducible rfl
  try simp only [Act.put, List.setIfInBounds_toArray, List.set_cons_zero, List.set_cons_succ]
  refine takeL (i := 8) (v := ?_) rfl (by kernel_rfl) (by kernel_rfl) (by kernel_rfl) (fun _ _ _ h => h) (Or.inl ⟨by rfl, ?_⟩) hHeld ?_
  rotate_left
  · intro wS hSw; have c := (hSw.cell (p := ⟨R, 0, none⟩) hRl).trans c0; go_simp; try with_reducible rfl
  try simp only [Act.put, List.setIfInBounds_toArray, List.set_cons_zero, List.set_cons_succ]
  refine takeL (i := 9) (v := ?_) rfl (by kernel_rfl) (by kernel_rfl) (by kernel_rfl) (fun _ _ _ h => h) (Or.inl ⟨by rfl, ?_⟩) hHeld ?_
  rotate_left
  · intro wS hSw; go_simp; try with_reducible rfl
  try simp only [Act.put, List.setIfInBounds_toArray, List.set_cons_zero, List.set_cons_succ]
  refine takeL (i := 10) (v := ?_) rfl (by kernel_rfl) (by kernel_rfl) (by kernel_rfl) (fun _ _ _ h => h) (Or.inl ⟨by rfl, ?_⟩) hHeld ?_
  rotate_left
  · intro wS hSw; go_simp; try with_reducible rfl
  try simp only [Act.put, List.setIfInBounds_toArray, List.set_cons_zero, List.set_cons_succ]
  refine takeL (i := 11) (v := ?_) rfl (by kernel_rfl) (by kernel_rfl) (by kernel_rfl) (fun _ _ _ h => h) (Or.inl ⟨by rfl, ?_⟩) hHeld ?_
  rotate_left
  · intro wS hSw; go_simp; try with_reducible rfl
  try simp only [Act.put, List.setIfInBounds_toArray, List.set_cons_zero, List.set_cons_succ]
  refine takeL (i := 12) (v := ?_) rfl (by kernel_rfl) (by kernel_rfl) (by kernel_rfl) (fun _ _ _ h => h) (Or.inl ⟨by rfl, ?_⟩) hHeld ?_
  rotate_left
  · intro wS hSw; go_simp; try with_reducible rfl
  try simp only [Act.put, List.setIfInBounds_toArray, List.set_cons_zero, List.set_cons_succ]
  refine takeL (i := 13) (v := ?_) rfl (by kernel_rfl) (by kernel_rfl) (by kernel_rfl) (fun _ _ _ h => h) (Or.inl ⟨by rfl, ?_⟩) hHeld ?_
  rotate_left
  · intro wS hSw; have c := (hSw.cell (p := ⟨R, 0, none⟩) hRl).trans c0; go_simp; try with_reducible rfl
  try simp only [Act.put, List.setIfInBounds_toArray, List.set_cons_zero, List.set_cons_succ]
  refine takeL (i := 14) (v := ?_) rfl (by kernel_rfl) (by kernel_rfl) (by kernel_rfl) (fun _ _ _ h => h) (Or.inl ⟨by rfl, ?_⟩) hHeld ?_
  rotate_left
  · intro wS hSw; go_simp; try with_reducible rfl
  try simp only [Act.put, List.setIfInBounds_toArray, List.set_cons_zero, List.set_cons_succ]
  refine takeL (i := 15) (v := ?_) rfl (by kernel_rfl) (by kernel_rfl) (by kernel_rfl) (fun _ _ _ h => h) (Or.inl ⟨by rfl, ?_⟩) hHeld ?_
  rotate_left
  · intro wS hSw; have hw1 := HW1.out; go_simp; try with_reducible rfl
  try simp only [Act.put, List.setIfInBounds_toArray, List.set_cons_zero, List.set_cons_succ]
  refine takeL (i := 16) (v := ?_) rfl (by kernel_rfl) (by kernel_rfl) (by kernel_rfl) (fun _ _ _ h => h) (Or.inl ⟨by rfl, ?_⟩) hHeld ?_
  rotate_left
  · intro wS hSw; have g1 : (p : Int) ≤ (p : Int) + (m : Int) := (by omega); have g2 : (p : Int) + (m : Int) ≤ (t.size : Int) := (by omega); have g3 : ((p : Int) + (m : Int)).toNat = p + m := (by omega); have g4 : 0 ≤ (p : Int) + (m : Int) := (by omega); go_simp; try with_reducible rfl
  try simp only [Act.put, List.setIfInBounds_toArray, List.set_cons_zero, List.set_cons_succ]
  refine readyL (i := 17) (by kernel_rfl) rfl (fun K hK => ?_)
  go_simp
  refine (split_any _ _ (hT.below hHeld) (by rw [ByteArray.size_extract]; omega)).mono ?_
  rintro e w3 ⟨xs, rfl, HX, HRd, b3, hlt3⟩
  have s3 : Below w.heap.size w w3 := Below.trans hHeld (b3.out.mono (Below.size hHeld))
  go_wp2_with fail
  refine hK.out _ _ s3 (fun _ => ?_)
  clear hK K
  try simp only [Act.put, List.setIfInBounds_toArray, List.set_cons_zero, List.set_cons_succ]
  refine readyL (i := 18) (by kernel_rfl) rfl (fun K hK => ?_)
  go_simp
  refine hK.out _ _ s3 (fun _ => ?_)
  clear hK K
  try simp only [Act.put, List.setIfInBounds_toArray, List.set_cons_zero, List.set_cons_succ]
  refine wpAnyH_done (by kernel_rfl) ?_ _
  have hxl : xs.length = (splitL 32 a).length := by have := congrArg List.length HX.out; rw [List.length_map, HA.out] at this; exact this
  have HXL := Lib.hid hxl
  clear hxl
  have S3 := Lib.hid s3
  clear s3 b3 HW1 hHeld
  have hb : ((xs.length : Int) == n) = true := by rw [beq_iff_eq]; have h1 := HXL.out; have h2 := HN.out; omega
  go_wp2_with fail
  clear hb
  refine (require_yes _).mono ?_
  rintro e w4 ⟨rfl, rfl⟩
  have HR3 : Hid (RdrAt w3 R t p) := Lib.hid (H.out.below S3.out)
  have e0 := HR3.out.c0
  have e1 := HR3.out.fz
  go_wp2_with fail
  go_ret
  refine ⟨xs, w.heap.size, p + m + 1, rfl, Nat.le_refl _, ?_, ?_, Lib.hid (by rw [HX.out, HA.out, HW.out]), ?_, q1, HR, ?_, ?_⟩
  · have := hlt3.out; simp [World.setCell]; exact this
  · refine Lib.hid (fun x hx => ?_)
    have h1 : L x ∈ splitL 32 a := by rw [← HA.out, ← HX.out]; exact List.mem_map_of_mem hx
    have h2 := splitL_mem 32 a _ h1
    rw [L_len] at h2
    have h3 := congrArg List.length HA.out
    rw [L_len, ByteArray.size_extract] at h3
    omega
  · refine Lib.hid (Rd.at (w := w3) HRd.out (by simp [World.setCell]) (Below.heap_setCell _ _ _ _ ?_))
    show w.heap.size ≠ R
    omega
  · exact Lib.hid (HR3.out.set _ _ (by omega))
  · exact Lib.hid (grown_set S3.out R _)
set_option maxHeartbeats 2000000 in
theorem line_long (t : ByteArray) (R p : Nat) (n : Int) (w : World) (hT : Tabs w) (h : RdrAt w R t p) (hp : p ≤ t.size) (ht : t.size ≤ 4294967200) (_hn : 0 ≤ n) (a r : Bs) (hcut : cutL 10 ((L t).drop p) = some (a, r)) (hwn : (splitL 32 a).length ≠ n.toNat) :
    Calls Tryz.prog 43 #[.pointer (some ⟨R, 0, none⟩), .int .i64 n] w (fun e w' => e = dam ∧ Hid (Below w.heap.size w w')) := by
  obtain ⟨hdr, hna⟩ : (L t).drop p = a ++ 10 :: r ∧ (10 : UInt8) ∉ a := by
    rcases cutL_cases 10 ((L t).drop p) with ⟨_, h2⟩ | ⟨a', b', h1, h2, h3⟩
    · rw [h2] at hcut; cases hcut
    · rw [h3] at hcut; injection hcut with hcut; injection hcut with h4 h5; subst h4 h5; exact ⟨h1, h2⟩
  have hal : p + a.length + 1 + r.length = t.size := by
    have := congrArg List.length hdr
    rw [List.length_drop, L_len, List.length_append, List.length_cons] at this
    omega
  have HR : Hid ((L t).drop (p + a.length + 1) = r) := Lib.hid (by
    rw [show p + a.length + 1 = p + (a.length + 1) from by omega, ← List.drop_drop, hdr, ← List.drop_drop]; simp)
  have HA : Hid (L (t.extract p (p + a.length)) = a) := Lib.hid (by rw [L_mid, hdr]; simp)
  have HI : Hid (Lib.indexByte (L (t.extract p t.size)) 10 = (a.length : Int)) := Lib.hid (by rw [L_from, hdr, indexByte_first 10 a r hna])
  have HN := Lib.hid hwn
  have H := Lib.hid h
  have c0 := h.c0
  have c1 := h.c1
  have hRl := h.lt
  clear hcut hdr hna hwn h
  have q1 : p + a.length + 1 ≤ t.size := by omega
  clear hal
  generalize a.length = m at *
  go_enter Tryz.func43, Tryz.ntmps43
  go_wp2_with fail
  go_quiet ((go_at_call 77; exact Calls.quiet_of_same (index_any _ _ _ HI.out)))
  go_wp2_with fail
  refine (require_yes _).mono ?_
  rintro e w2 ⟨rfl, rfl⟩
  go_wp2_with fail
  have hw1 : IntKind.i64.wrap ((p : Int) + (m : Int)) = (p : Int) + (m : Int) := IntWalk.i64_in _ (by omega)
  have HW1 := Lib.hid hw1
  clear hw1
  refine wp_region_held_drew (S := (fun W => Below w.heap.size w W)) (by kernel_rfl) ((below_drewN w _).drew) (fun hHeld => ?_)
  refine takeL (i := 0) (v := ?_) rfl (by kernel_rfl) (by kernel_rfl) (by kernel_rfl) (fun _ _ _ h => h) (Or.inl ⟨by rfl, ?_⟩) hHeld ?_
  rotate_left
  · intro wS hSw; go_simp; try with_reducible rfl
  try simp only [Act.put, List.setIfInBounds_toArray, List.set_cons_zero, List.set_cons_succ]
  refine takeL (i := 1) (v := ?_) rfl (by kernel_rfl) (by kernel_rfl) (by kernel_rfl) (fun _ _ _ h => h) (Or.inl ⟨by rfl, ?_⟩) hHeld ?_
  rotate_left
  · intro wS hSw; go_simp; try with_reducible rfl
  try simp only [Act.put, List.setIfInBounds_toArray, List.set_cons_zero, List.set_cons_succ]
  refine takeL (i := 2) (v := ?_) rfl (by kernel_rfl) (by kernel_rfl) (by kernel_rfl) (fun _ _ _ h => h) (Or.inl ⟨by rfl, ?_⟩) hHeld ?_
  rotate_left
  · intro wS hSw; go_simp; try with_reducible rfl
  try simp only [Act.put, List.setIfInBounds_toArray, List.set_cons_zero, List.set_cons_succ]
  refine takeL (i := 3) (v := ?_) rfl (by kernel_rfl) (by kernel_rfl) (by kernel_rfl) (fun _ _ _ h => h) (Or.inl ⟨by rfl, ?_⟩) hHeld ?_
  rotate_left
  · intro wS hSw; have c := (hSw.cell (p := ⟨R, 1, none⟩) hRl).trans c1; go_simp; try with_reducible rfl
  try simp only [Act.put, List.setIfInBounds_toArray, List.set_cons_zero, List.set_cons_succ]
  refine takeL (i := 4) (v := ?_) rfl (by kernel_rfl) (by kernel_rfl) (by kernel_rfl) (fun _ _ _ h => h) (Or.inl ⟨by rfl, ?_⟩) hHeld ?_
  rotate_left
  · intro wS hSw; go_simp; try with_reducible rfl
  try simp only [Act.put, List.setIfInBounds_toArray, List.set_cons_zero, List.set_cons_succ]
  refine takeL (i := 5) (v := ?_) rfl (by kernel_rfl) (by kernel_rfl) (by kernel_rfl) (fun _ _ _ h => h) (Or.inl ⟨by rfl, ?_⟩) hHeld ?_
  rotate_left
  · intro wS hSw; go_simp; try with_reducible rfl
  try simp only [Act.put, List.setIfInBounds_toArray, List.set_cons_zero, List.set_cons_succ]
  refine takeL (i := 6) (v := ?_) rfl (by kernel_rfl) (by kernel_rfl) (by kernel_rfl) (fun _ _ _ h => h) (Or.inl ⟨by rfl, ?_⟩) hHeld ?_
  rotate_left
  · intro wS hSw; go_simp; try with_reducible rfl
  try simp only [Act.put, List.setIfInBounds_toArray, List.set_cons_zero, List.set_cons_succ]
  refine takeL (i := 7) (v := ?_) rfl (by kernel_rfl) (by kernel_rfl) (by kernel_rfl) (fun _ _ _ h => h) (Or.inl ⟨by rfl, ?_⟩) hHeld ?_
  rotate_left
  · intro wS hSw; go_simp; try with_reducible rfl
  try simp only [Act.put, List.setIfInBounds_toArray, List.set_cons_zero, List.set_cons_succ]
  refine takeL (i := 8) (v := ?_) rfl (by kernel_rfl) (by kernel_rfl) (by kernel_rfl) (fun _ _ _ h => h) (Or.inl ⟨by rfl, ?_⟩) hHeld ?_
  rotate_left
  · intro wS hSw; have c := (hSw.cell (p := ⟨R, 0, none⟩) hRl).trans c0; go_simp; try with_reducible rfl
  try simp only [Act.put, List.setIfInBounds_toArray, List.set_cons_zero, List.set_cons_succ]
  refine takeL (i := 9) (v := ?_) rfl (by kernel_rfl) (by kernel_rfl) (by kernel_rfl) (fun _ _ _ h => h) (Or.inl ⟨by rfl, ?_⟩) hHeld ?_
  rotate_left
  · intro wS hSw; go_simp; try with_reducible rfl
  try simp only [Act.put, List.setIfInBounds_toArray, List.set_cons_zero, List.set_cons_succ]
  refine takeL (i := 10) (v := ?_) rfl (by kernel_rfl) (by kernel_rfl) (by kernel_rfl) (fun _ _ _ h => h) (Or.inl ⟨by rfl, ?_⟩) hHeld ?_
  rotate_left
  · intro wS hSw; go_simp; try with_reducible rfl
  try simp only [Act.put, List.setIfInBounds_toArray, List.set_cons_zero, List.set_cons_succ]
  refine takeL (i := 11) (v := ?_) rfl (by kernel_rfl) (by kernel_rfl) (by kernel_rfl) (fun _ _ _ h => h) (Or.inl ⟨by rfl, ?_⟩) hHeld ?_
  rotate_left
  · intro wS hSw; go_simp; try with_reducible rfl
  try simp only [Act.put, List.setIfInBounds_toArray, List.set_cons_zero, List.set_cons_succ]
  refine takeL (i := 12) (v := ?_) rfl (by kernel_rfl) (by kernel_rfl) (by kernel_rfl) (fun _ _ _ h => h) (Or.inl ⟨by rfl, ?_⟩) hHeld ?_
  rotate_left
  · intro wS hSw; go_simp; try with_reducible rfl
  try simp only [Act.put, List.setIfInBounds_toArray, List.set_cons_zero, List.set_cons_succ]
  refine takeL (i := 13) (v := ?_) rfl (by kernel_rfl) (by kernel_rfl) (by kernel_rfl) (fun _ _ _ h => h) (Or.inl ⟨by rfl, ?_⟩) hHeld ?_
  rotate_left
  · intro wS hSw; have c := (hSw.cell (p := ⟨R, 0, none⟩) hRl).trans c0; go_simp; try with_reducible rfl
  try simp only [Act.put, List.setIfInBounds_toArray, List.set_cons_zero, List.set_cons_succ]
  refine takeL (i := 14) (v := ?_) rfl (by kernel_rfl) (by kernel_rfl) (by kernel_rfl) (fun _ _ _ h => h) (Or.inl ⟨by rfl, ?_⟩) hHeld ?_
  rotate_left
  · intro wS hSw; go_simp; try with_reducible rfl
  try simp only [Act.put, List.setIfInBounds_toArray, List.set_cons_zero, List.set_cons_succ]
  refine takeL (i := 15) (v := ?_) rfl (by kernel_rfl) (by kernel_rfl) (by kernel_rfl) (fun _ _ _ h => h) (Or.inl ⟨by rfl, ?_⟩) hHeld ?_
  rotate_left
  · intro wS hSw; have hw1 := HW1.out; go_simp; try with_reducible rfl
  try simp only [Act.put, List.setIfInBounds_toArray, List.set_cons_zero, List.set_cons_succ]
  refine takeL (i := 16) (v := ?_) rfl (by kernel_rfl) (by kernel_rfl) (by kernel_rfl) (fun _ _ _ h => h) (Or.inl ⟨by rfl, ?_⟩) hHeld ?_
  rotate_left
  · intro wS hSw; have g1 : (p : Int) ≤ (p : Int) + (m : Int) := (by omega); have g2 : (p : Int) + (m : Int) ≤ (t.size : Int) := (by omega); have g3 : ((p : Int) + (m : Int)).toNat = p + m := (by omega); have g4 : 0 ≤ (p : Int) + (m : Int) := (by omega); go_simp; try with_reducible rfl
  try simp only [Act.put, List.setIfInBounds_toArray, List.set_cons_zero, List.set_cons_succ]
  refine readyL (i := 17) (by kernel_rfl) rfl (fun K hK => ?_)
  go_simp
  refine (split_any _ _ (hT.below hHeld) (by rw [ByteArray.size_extract]; omega)).mono ?_
  rintro e w3 ⟨xs, rfl, HX, HRd, b3, hlt3⟩
  have s3 : Below w.heap.size w w3 := Below.trans hHeld (b3.out.mono (Below.size hHeld))
  go_wp2_with fail
  refine hK.out _ _ s3 (fun _ => ?_)
  clear hK K
  try simp only [Act.put, List.setIfInBounds_toArray, List.set_cons_zero, List.set_cons_succ]
  refine readyL (i := 18) (by kernel_rfl) rfl (fun K hK => ?_)
  go_simp
  refine hK.out _ _ s3 (fun _ => ?_)
  clear hK K
  try simp only [Act.put, List.setIfInBounds_toArray, List.set_cons_zero, List.set_cons_succ]
  refine wpAnyH_done (by kernel_rfl) ?_ _
  have hxl : xs.length = (splitL 32 a).length := by have := congrArg List.length HX.out; rw [List.length_map, HA.out] at this; exact this
  have HXL := Lib.hid hxl
  clear hxl
  have S3 := Lib.hid s3
  clear s3 b3 HW1 hHeld
  have hb : ((xs.length : Int) == n) = false := by rw [beq_eq_false_iff_ne]; have h1 := HXL.out; have h2 := HN.out; omega
  go_wp2_with fail
  refine (require_no _).mono ?_
  rintro e w4 ⟨rfl, rfl⟩
  exact ⟨rfl, rfl, S3⟩
set_option maxHeartbeats 2000000 in
theorem line_end (t : ByteArray) (R p : Nat) (n : Int) (w : World) (_hT : Tabs w) (h : RdrAt w R t p) (hp : p ≤ t.size) (_ht : t.size ≤ 4294967200) (_hn : 0 ≤ n) (hcut : cutL 10 ((L t).drop p) = none) :
    Calls Tryz.prog 43 #[.pointer (some ⟨R, 0, none⟩), .int .i64 n] w (fun e w' => e = dam ∧ Hid (Below w.heap.size w w')) := by
  have HI : Hid (Lib.indexByte (L (t.extract p t.size)) 10 = -1) := Lib.hid (by
    rw [L_from]
    apply indexByte_no
    rcases cutL_cases 10 ((L t).drop p) with ⟨h1, _⟩ | ⟨a', b', h1, h2, h3⟩
    · exact h1
    · rw [h3] at hcut; cases hcut)
  have c0 := h.c0
  have c1 := h.c1
  have hRl := h.lt
  clear hcut h
  go_enter Tryz.func43, Tryz.ntmps43
  go_wp2_with fail
  go_quiet ((go_at_call 77; exact Calls.quiet_of_same (index_any _ _ _ HI.out)))
  go_wp2_with fail
  refine (require_no _).mono ?_
  rintro e w2 ⟨rfl, rfl⟩
  exact ⟨rfl, rfl, Lib.hid (below_drewN w _)⟩
theorem line_no (t : ByteArray) (R p : Nat) (n : Int) (w : World) (hT : Tabs w) (h : RdrAt w R t p) (hp : p ≤ t.size) (ht : t.size ≤ 4294967200) (hn : 0 ≤ n) (hl : lineP n.toNat ((L t).drop p) = none) :
    Calls Tryz.prog 43 #[.pointer (some ⟨R, 0, none⟩), .int .i64 n] w (fun e w' => e = dam ∧ Hid (Below w.heap.size w w')) := by
  unfold lineP at hl
  cases hc : cutL 10 ((L t).drop p) with
  | none => exact line_end t R p n w hT h hp ht hn hc
  | some ab =>
    obtain ⟨a, b⟩ := ab
    rw [hc] at hl
    simp only [] at hl
    by_cases hw : (splitL 32 a).length = n.toNat
    · rw [if_pos hw] at hl; cases hl
    · exact line_long t R p n w hT h hp ht hn a b hc hw
end Go.Proofs.YtibgibjmpcajkaaGreatDoor
