/- The walks of the reference lexer's Symbols and token. -/
import Derived.Test.YtfgngakdhedcgaaDoorLexU2
namespace Go.Proofs.YtfgngakdhedcgaaDoor
open Go.RowKit LexS

theorem dis8 (c : UInt8) (h : cin 8 c = true) : cin 2 c = false ∧ cin 4 c = false := by
  revert h
  unfold cin cls
  generalize c.toNat = n
  repeat' split
  all_goals decide
theorem isB_at (m : Nat) (s : ByteArray) (k : Nat) (hk : k < s.size) : isB m ((L s).drop k) = cin m s[k] := by rw [drop_at s k hk]; rfl

def symObj : Obj := .cells #[.string ⟨#[61, 61]⟩, .string ⟨#[33, 61]⟩, .string ⟨#[60, 61]⟩, .string ⟨#[62, 61]⟩, .string ⟨#[60]⟩, .string ⟨#[62]⟩, .string ⟨#[43]⟩, .string ⟨#[45]⟩, .string ⟨#[42]⟩, .string ⟨#[47]⟩, .string ⟨#[40]⟩, .string ⟨#[41]⟩, .string ⟨#[123]⟩, .string ⟨#[125]⟩, .string ⟨#[58]⟩, .string ⟨#[59]⟩, .string ⟨#[44]⟩] 9
set_option maxHeartbeats 2000000 in
theorem symbols_any (w : World) : Calls Tryd.prog 33 #[] w fun e w' => e = .returned (.slice (some ⟨w.heap.size, 0, none⟩) 17 17) ∧ w.alloc symObj = w' := by
  unfold symObj
  go_enter Tryd.func33, Tryd.ntmps33
  go_wp2_with fail
  go_ret
  exact ⟨rfl, rfl⟩

theorem frozen_row (w : World) (b o : Nat) (cs : Array Value) (t : TypeId) (h : w.heap[b]? = some (.cells cs t (0, 0))) : w.frozen? ⟨b, o, none⟩ = false := by
  simp [World.frozen?, h]
/-- what token returns when it hands on what a callee returned -/
theorem TokRet.on {r : Nat × Nat} {t : List UInt8} {k : Nat} {w W : World} {q o : Int} {tx : ByteArray} {ok : Bool} (h1 : ok = true → r.1 ≠ 0 ∧ q = (r.1 : Int) ∧ L tx = t.take r.2 ∧ o = (k : Int)) (h2 : ok = false → r.1 = 0) (hb : Below w.heap.size w W) :
    TokRet r t k w (.returned (.tuple #[.agg #[.int .i64 q, .string tx, .int .i64 o], .bool ok])) W := ⟨q, tx, o, ok, rfl, h1, h2, hb⟩

set_option maxHeartbeats 4000000 in
theorem token_digit (s : ByteArray) (k : Nat) (w : World) (hs : s.size ≤ 6000) (hk : k < s.size) (h8 : cin 8 s[k] = true) :
    Calls Tryd.prog 21 #[.string s, .int .i64 k] w (TokRet (readN ((L s).drop k)) ((L s).drop k) k w) := by
  have HR : Hid (readN ((L s).drop k) = figs ((L s).drop k)) := by
    refine Lib.hid ?_
    unfold readN
    rw [isB_at 2 s k hk, isB_at 4 s k hk, isB_at 8 s k hk, h8, (dis8 _ h8).1, (dis8 _ h8).2]
    simp
  have H8 := Lib.hid h8
  clear h8
  generalize hr : readN ((L s).drop k) = r at *
  clear hr
  go_enter Tryd.func21, Tryd.ntmps21
  go_wp2_with fail
  refine (digit_any _ _).mono ?_
  rintro e w' ⟨rfl, rfl⟩
  rw [H8.out]
  go_wp2_with fail
  refine (numeric_any s k _ hs hk H8.out).mono ?_
  rintro e w' ⟨q, tx, o, ok, rfl, h1, h2, hb⟩
  rw [← HR.out] at h1 h2
  have H1 := Lib.hid h1
  have H2 := Lib.hid h2
  clear h1 h2
  have hblk : w'.heap[w.heap.size]? = some (.cells #[.int .i64 0, .string { data := #[] }, .int .i64 0] 30 (0, 0)) := by
    rw [hb.block w.heap.size (by simp)]; exact heap_alloc_new w _
  have HB := Lib.hid hb
  clear hb
  have c0 : w'.cell? ⟨w.heap.size, 0, none⟩ = some (.int .i64 0) := by rw [cell_of_row _ _ _ _ _ _ hblk]; rfl
  have c1 : w'.cell? ⟨w.heap.size, 1, none⟩ = some (.string { data := #[] }) := by rw [cell_of_row _ _ _ _ _ _ hblk]; rfl
  have c2 : w'.cell? ⟨w.heap.size, 2, none⟩ = some (.int .i64 0) := by rw [cell_of_row _ _ _ _ _ _ hblk]; rfl
  have f0 := frozen_row w' w.heap.size 0 _ _ hblk
  have f1 := frozen_row w' w.heap.size 1 _ _ hblk
  have f2 := frozen_row w' w.heap.size 2 _ _ hblk
  clear hblk
  go_wp2_with fail
  refine bodyPost_ret (v := .tuple #[.agg #[.int .i64 q, .string tx, .int .i64 o], .bool ok]) (by simp [results, Tryd.results21, go_sem, c0, c1, c2]) rfl (TokRet.on H1.out H2.out ?_)
  exact (((((Below.refl _ w).alloc (Nat.le_refl _) _).trans (Below.mono HB.out (by simp))).setCell (p := ⟨w.heap.size, 0, none⟩) (Nat.le_refl _) _).setCell (p := ⟨w.heap.size, 1, none⟩) (Nat.le_refl _) _).setCell (p := ⟨w.heap.size, 2, none⟩) (Nat.le_refl _) _

set_option maxHeartbeats 4000000 in
theorem token_lower (s : ByteArray) (k : Nat) (w : World) (hs : s.size ≤ 6000) (hk : k < s.size) (h8 : cin 8 s[k] = false) (h2 : cin 2 s[k] = true) :
    Calls Tryd.prog 21 #[.string s, .int .i64 k] w (TokRet (readN ((L s).drop k)) ((L s).drop k) k w) := by
  have HR : Hid (readN ((L s).drop k) = (if spanN 30 ((L s).drop k) ≤ 16 ∧ spanN 26 ((L s).drop k) = spanN 30 ((L s).drop k) then (1, spanN 30 ((L s).drop k)) else (0, 0))) := by
    refine Lib.hid ?_
    unfold readN
    rw [isB_at 2 s k hk, isB_at 4 s k hk, isB_at 8 s k hk, h2]
    simp
  have H8 := Lib.hid h8
  clear h8
  have H2 := Lib.hid h2
  clear h2
  generalize hr : readN ((L s).drop k) = r at *
  clear hr
  go_enter Tryd.func21, Tryd.ntmps21
  go_wp2_with fail
  refine (digit_any _ _).mono ?_
  rintro e w' ⟨rfl, rfl⟩
  rw [H8.out]
  go_wp2_with fail
  refine (lower_any _ _).mono ?_
  rintro e w' ⟨rfl, rfl⟩
  rw [H2.out]
  go_wp2_with fail
  refine (name_any s k _ hs (by omega) (by omega)).mono ?_
  rintro e w' ⟨q, tx, o, ok, rfl, h1, h2, hb⟩
  rw [Int.toNat_natCast] at h1 h2
  rw [← HR.out] at h1 h2
  have H1 := Lib.hid h1
  have H2 := Lib.hid h2
  clear h1 h2
  have hblk : w'.heap[w.heap.size]? = some (.cells #[.int .i64 0, .string { data := #[] }, .int .i64 0] 30 (0, 0)) := by
    rw [hb.block w.heap.size (by simp)]; exact heap_alloc_new w _
  have HB := Lib.hid hb
  clear hb
  have c0 : w'.cell? ⟨w.heap.size, 0, none⟩ = some (.int .i64 0) := by rw [cell_of_row _ _ _ _ _ _ hblk]; rfl
  have c1 : w'.cell? ⟨w.heap.size, 1, none⟩ = some (.string { data := #[] }) := by rw [cell_of_row _ _ _ _ _ _ hblk]; rfl
  have c2 : w'.cell? ⟨w.heap.size, 2, none⟩ = some (.int .i64 0) := by rw [cell_of_row _ _ _ _ _ _ hblk]; rfl
  have f0 := frozen_row w' w.heap.size 0 _ _ hblk
  have f1 := frozen_row w' w.heap.size 1 _ _ hblk
  have f2 := frozen_row w' w.heap.size 2 _ _ hblk
  clear hblk
  go_wp2_with fail
  refine bodyPost_ret (v := .tuple #[.agg #[.int .i64 q, .string tx, .int .i64 o], .bool ok]) (by simp [results, Tryd.results21, go_sem, c0, c1, c2]) rfl (TokRet.on H1.out H2.out ?_)
  exact (((((Below.refl _ w).alloc (Nat.le_refl _) _).trans (Below.mono HB.out (by simp))).setCell (p := ⟨w.heap.size, 0, none⟩) (Nat.le_refl _) _).setCell (p := ⟨w.heap.size, 1, none⟩) (Nat.le_refl _) _).setCell (p := ⟨w.heap.size, 2, none⟩) (Nat.le_refl _) _

set_option maxHeartbeats 4000000 in
theorem token_upper (s : ByteArray) (k : Nat) (w : World) (hs : s.size ≤ 6000) (hk : k < s.size) (h8 : cin 8 s[k] = false) (h2 : cin 2 s[k] = false) (h4 : cin 4 s[k] = true) :
    Calls Tryd.prog 21 #[.string s, .int .i64 k] w (TokRet (readN ((L s).drop k)) ((L s).drop k) k w) := by
  have HR : Hid (readN ((L s).drop k) = (if spanN 30 ((L s).drop k) = 3 ∧ spanN 4 ((L s).drop k) = spanN 30 ((L s).drop k) then (2, spanN 30 ((L s).drop k)) else (0, 0))) := by
    refine Lib.hid ?_
    unfold readN
    rw [isB_at 2 s k hk, isB_at 4 s k hk, isB_at 8 s k hk, h2, h4]
    simp
  have H8 := Lib.hid h8
  clear h8
  have H2 := Lib.hid h2
  clear h2
  have H4 := Lib.hid h4
  clear h4
  generalize hr : readN ((L s).drop k) = r at *
  clear hr
  go_enter Tryd.func21, Tryd.ntmps21
  go_wp2_with fail
  refine (digit_any _ _).mono ?_
  rintro e w' ⟨rfl, rfl⟩
  rw [H8.out]
  go_wp2_with fail
  refine (lower_any _ _).mono ?_
  rintro e w' ⟨rfl, rfl⟩
  rw [H2.out]
  go_wp2_with fail
  refine (upper_any _ _).mono ?_
  rintro e w' ⟨rfl, rfl⟩
  rw [H4.out]
  go_wp2_with fail
  refine (cur_any s k _ hs (by omega) (by omega)).mono ?_
  rintro e w' ⟨q, tx, o, ok, rfl, h1, h2, hb⟩
  rw [Int.toNat_natCast] at h1 h2
  rw [← HR.out] at h1 h2
  have H1 := Lib.hid h1
  have H2 := Lib.hid h2
  clear h1 h2
  have hblk : w'.heap[w.heap.size]? = some (.cells #[.int .i64 0, .string { data := #[] }, .int .i64 0] 30 (0, 0)) := by
    rw [hb.block w.heap.size (by simp)]; exact heap_alloc_new w _
  have HB := Lib.hid hb
  clear hb
  have c0 : w'.cell? ⟨w.heap.size, 0, none⟩ = some (.int .i64 0) := by rw [cell_of_row _ _ _ _ _ _ hblk]; rfl
  have c1 : w'.cell? ⟨w.heap.size, 1, none⟩ = some (.string { data := #[] }) := by rw [cell_of_row _ _ _ _ _ _ hblk]; rfl
  have c2 : w'.cell? ⟨w.heap.size, 2, none⟩ = some (.int .i64 0) := by rw [cell_of_row _ _ _ _ _ _ hblk]; rfl
  have f0 := frozen_row w' w.heap.size 0 _ _ hblk
  have f1 := frozen_row w' w.heap.size 1 _ _ hblk
  have f2 := frozen_row w' w.heap.size 2 _ _ hblk
  clear hblk
  go_wp2_with fail
  refine bodyPost_ret (v := .tuple #[.agg #[.int .i64 q, .string tx, .int .i64 o], .bool ok]) (by simp [results, Tryd.results21, go_sem, c0, c1, c2]) rfl (TokRet.on H1.out H2.out ?_)
  exact (((((Below.refl _ w).alloc (Nat.le_refl _) _).trans (Below.mono HB.out (by simp))).setCell (p := ⟨w.heap.size, 0, none⟩) (Nat.le_refl _) _).setCell (p := ⟨w.heap.size, 1, none⟩) (Nat.le_refl _) _).setCell (p := ⟨w.heap.size, 2, none⟩) (Nat.le_refl _) _

def symB (i : Nat) : ByteArray := ⟨(syms.getD i []).toArray⟩
theorem sym_cell (i : Nat) (hi : i < 17) (w : World) (b : Nat) (h : w.heap[b]? = some symObj) : w.cell? ⟨b, i, none⟩ = some (.string (symB i)) := by
  unfold symObj at h
  rw [cell_of_row _ _ _ _ _ _ h]
  match i, hi with
  | 0, _ => rfl
  | 1, _ => rfl
  | 2, _ => rfl
  | 3, _ => rfl
  | 4, _ => rfl
  | 5, _ => rfl
  | 6, _ => rfl
  | 7, _ => rfl
  | 8, _ => rfl
  | 9, _ => rfl
  | 10, _ => rfl
  | 11, _ => rfl
  | 12, _ => rfl
  | 13, _ => rfl
  | 14, _ => rfl
  | 15, _ => rfl
  | 16, _ => rfl
  | n + 17, h => exact absurd h (by omega)
theorem symB_size (i : Nat) : (symB i).size ≤ 100000 := by
  unfold symB
  by_cases h : i < 17
  · match i, h with
    | 0, _ => decide
    | 1, _ => decide
    | 2, _ => decide
    | 3, _ => decide
    | 4, _ => decide
    | 5, _ => decide
    | 6, _ => decide
    | 7, _ => decide
    | 8, _ => decide
    | 9, _ => decide
    | 10, _ => decide
    | 11, _ => decide
    | 12, _ => decide
    | 13, _ => decide
    | 14, _ => decide
    | 15, _ => decide
    | 16, _ => decide
    | n + 17, h => exact absurd h (by omega)
  · have : syms.getD i [] = [] := by
      rw [List.getD_eq_getElem?_getD, List.getElem?_eq_none (by show 17 ≤ i; omega)]; rfl
    rw [this]; decide
theorem syms_drop (i : Nat) (hi : i < 17) : syms.drop i = L (symB i) :: syms.drop (i + 1) := by
  have h : i < syms.length := hi
  rw [List.drop_eq_getElem_cons h]
  congr 1
  unfold symB
  rw [List.getD_eq_getElem?_getD, List.getElem?_eq_getElem h]
  simp

set_option maxHeartbeats 4000000 in
theorem token_sym (s : ByteArray) (k : Nat) (w : World) (hs : s.size ≤ 6000) (hk : k < s.size) (h8 : cin 8 s[k] = false) (h2 : cin 2 s[k] = false) (h4 : cin 4 s[k] = false) :
    Calls Tryd.prog 21 #[.string s, .int .i64 k] w (TokRet (readN ((L s).drop k)) ((L s).drop k) k w) := by
  have HR : Hid (readN ((L s).drop k) = symN ((L s).drop k) (syms.drop 0)) := by
    refine Lib.hid ?_
    unfold readN
    rw [isB_at 2 s k hk, isB_at 4 s k hk, isB_at 8 s k hk, h8, h2, h4]
    simp
  have H8 := Lib.hid h8
  have H2 := Lib.hid h2
  have H4 := Lib.hid h4
  clear h8 h2 h4
  generalize hr : readN ((L s).drop k) = r at *
  clear hr
  go_enter Tryd.func21, Tryd.ntmps21
  go_wp2_with fail
  refine (digit_any _ _).mono ?_
  rintro e w' ⟨rfl, rfl⟩
  rw [H8.out]
  go_wp2_with fail
  refine (lower_any _ _).mono ?_
  rintro e w' ⟨rfl, rfl⟩
  rw [H2.out]
  go_wp2_with fail
  refine (upper_any _ _).mono ?_
  rintro e w' ⟨rfl, rfl⟩
  rw [H4.out]
  go_wp2_with fail
  refine (symbols_any _).mono ?_
  rintro e w' ⟨rfl, rfl⟩
  obtain ⟨W, hW⟩ : ∃ W, (w.alloc (.cells #[.int .i64 0, .string { data := #[] }, .int .i64 0] 30)).alloc symObj = W := ⟨_, rfl⟩
  have hcell : ∀ i, i < 17 → W.cell? ⟨w.heap.size + 1, i, none⟩ = some (.string (symB i)) := by
    intro i hi
    refine sym_cell i hi W _ ?_
    rw [← hW]
    have := heap_alloc_new (w.alloc (.cells #[.int .i64 0, .string { data := #[] }, .int .i64 0] 30)) symObj
    rw [World.size_alloc] at this
    exact this
  have hblk : W.heap[w.heap.size]? = some (.cells #[.int .i64 0, .string { data := #[] }, .int .i64 0] 30 (0, 0)) := by
    rw [← hW, Below.heap_alloc _ _ _ (by simp)]; exact heap_alloc_new w _
  have HB : Hid (Below w.heap.size w W) := Lib.hid (by rw [← hW]; exact ((Below.refl _ w).alloc (Nat.le_refl _) _).alloc (by simp) _)
  rw [hW]
  clear hW
  have HC := Lib.hid hcell
  clear hcell
  have c0 : W.cell? ⟨w.heap.size, 0, none⟩ = some (.int .i64 0) := by rw [cell_of_row _ _ _ _ _ _ hblk]; rfl
  have c1 : W.cell? ⟨w.heap.size, 1, none⟩ = some (.string { data := #[] }) := by rw [cell_of_row _ _ _ _ _ _ hblk]; rfl
  have c2 : W.cell? ⟨w.heap.size, 2, none⟩ = some (.int .i64 0) := by rw [cell_of_row _ _ _ _ _ _ hblk]; rfl
  have f0 := frozen_row W w.heap.size 0 _ _ hblk
  have f1 := frozen_row W w.heap.size 1 _ _ hblk
  have f2 := frozen_row W w.heap.size 2 _ _ hblk
  clear hblk
  have hkb : (0 : Int) ≤ (k : Int) := by omega
  go_wp2_with fail
  go_loopg [7] 17 (fun g x wx => ∃ i : Nat, W = wx ∧ i ≤ 17 ∧ g = 17 - i ∧ Hid (r = symN ((L s).drop k) (syms.drop i)) ∧ x = .int .i64 i)
  case atStart => exact ⟨0, rfl, by omega, by omega, HR, rfl⟩
  case round =>
    obtain ⟨i, rfl, hi, rfl, HI, rfl⟩ := hrel
    by_cases hlt : i < 17
    · have hc := HC.out i hlt
      have HSD := Lib.hid (syms_drop i hlt)
      cases hb : (L (symB i)).isPrefixOf ((L s).drop k) with
      | true =>
        have HP := Lib.hid hb
        clear hb
        go_wp2_with fail
        refine (begins_any s (symB i) k _ (by omega) (symB_size i) (by omega) (by omega)).mono ?_
        rintro e w' ⟨rfl, rfl⟩
        rw [show (L (symB i)).isPrefixOf ((L s).drop ((k : Int)).toNat) = _ from HP.out]
        go_wp2_with fail
        refine bodyPost_ret (v := .tuple #[.agg #[.int .i64 6, .string (symB i), .int .i64 k], .bool true]) (by simp [results, Tryd.results21, go_sem, c0, c1, c2]) rfl (TokRet.on (fun _ => ?_) (by simp) ?_)
        · rw [HI.out, HSD.out, symN, if_pos HP.out]
          refine ⟨by simp, rfl, ?_, rfl⟩
          obtain ⟨u, hu⟩ := List.isPrefixOf_iff_prefix.1 HP.out
          rw [← hu]; simp
        · exact ((HB.out.setCell (p := ⟨w.heap.size, 0, none⟩) (Nat.le_refl _) _).setCell (p := ⟨w.heap.size, 1, none⟩) (Nat.le_refl _) _).setCell (p := ⟨w.heap.size, 2, none⟩) (Nat.le_refl _) _
      | false =>
        have HP := Lib.hid hb
        clear hb
        go_wp2_with fail
        refine (begins_any s (symB i) k _ (by omega) (symB_size i) (by omega) (by omega)).mono ?_
        rintro e w' ⟨rfl, rfl⟩
        rw [show (L (symB i)).isPrefixOf ((L s).drop ((k : Int)).toNat) = _ from HP.out]
        go_wp2_with fail
        go_roundg (17 - (i + 1))
        case measure => omega
        case rel =>
          refine ⟨i + 1, rfl, by omega, rfl, Lib.hid ?_, by go_num⟩
          rw [HI.out, HSD.out, symN, if_neg (by rw [HP.out]; simp)]
    · have hge : i = 17 := by omega
      subst hge
      go_wp2_with fail
      refine bodyPost_ret (v := .tuple #[.agg #[.int .i64 0, .string { data := #[] }, .int .i64 0], .bool false]) (by simp [results, Tryd.results21, go_sem, c0, c1, c2]) rfl (TokRet.on (by simp) (fun _ => ?_) ?_)
      · rw [HI.out]; rfl
      · exact ((HB.out.setCell (p := ⟨w.heap.size, 0, none⟩) (Nat.le_refl _) _).setCell (p := ⟨w.heap.size, 1, none⟩) (Nat.le_refl _) _).setCell (p := ⟨w.heap.size, 2, none⟩) (Nat.le_refl _) _

theorem token_any (s : ByteArray) (a : Int) (w : World) (hs : s.size ≤ 6000) (h0 : 0 ≤ a) (ha : a < s.size) :
    Calls Tryd.prog 21 #[.string s, .int .i64 a] w (TokRet (readN ((L s).drop a.toNat)) ((L s).drop a.toNat) a.toNat w) := by
  obtain ⟨k, rfl⟩ := Int.eq_ofNat_of_zero_le h0
  rw [Int.toNat_natCast]
  have hk : k < s.size := by omega
  cases h8 : cin 8 s[k] with
  | true => exact token_digit s k w hs hk h8
  | false =>
    cases h2 : cin 2 s[k] with
    | true => exact token_lower s k w hs hk h8 h2
    | false =>
      cases h4 : cin 4 s[k] with
      | true => exact token_upper s k w hs hk h8 h2 h4
      | false => exact token_sym s k w hs hk h8 h2 h4
end Go.Proofs.YtfgngakdhedcgaaDoor
