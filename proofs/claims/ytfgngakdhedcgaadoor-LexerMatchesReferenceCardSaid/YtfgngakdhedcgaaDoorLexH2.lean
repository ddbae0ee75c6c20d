/- texts, fails and head: the fixed examples hold. -/
import Derived.Test.YtfgngakdhedcgaaDoorLexH
namespace Go.Proofs.YtfgngakdhedcgaaDoor
open Go.RowKit LexS

/-- v is a slice whose one-cell elements are vs -/
def Row1 (w : World) (v : Value) (vs : List Value) : Prop :=
  ∃ A cap, v = .slice A vs.length cap ∧ vs.length ≤ cap ∧ (vs ≠ [] → ∃ g, A = some ⟨g, 0, none⟩ ∧ g < w.heap.size ∧ ∀ (i : Nat) x, vs[i]? = some x → w.cell? ⟨g, i, none⟩ = some x)
theorem Row1.keep {w w' : World} {v : Value} {vs : List Value} (h : Row1 w v vs) (hb : Below w.heap.size w w') : Row1 w' v vs := by
  obtain ⟨A, cap, rfl, hc, hA⟩ := h
  refine ⟨A, cap, rfl, hc, fun hne => ?_⟩
  obtain ⟨g, rfl, hg, hx⟩ := hA hne
  have hs := hb.size
  exact ⟨g, rfl, by omega, fun i x hi => (hb.cell (p := ⟨g, i, none⟩) hg).trans (hx i x hi)⟩
theorem Row1.new (w : World) (vs : List Value) (t : TypeId) : Row1 (w.alloc (.cells vs.toArray t)) (.slice (some ⟨w.heap.size, 0, none⟩) vs.length vs.length) vs := by
  refine ⟨_, _, rfl, Nat.le_refl _, fun _ => ⟨_, rfl, by simp, fun i x hi => ?_⟩⟩
  rw [cell_of_row _ _ i _ _ _ (heap_alloc_new w _)]
  simpa using hi

set_option maxHeartbeats 1000000 in
theorem texts_true (s : ByteArray) (v2 v3 : Value) (toks : List Tok) (w : World) (hT : Tabs w) (hlex : lexS (L s) = (toks, 0, 0)) (hlen : toks.length ≤ 2000)
    (h2 : Row1 w v2 (toks.map fun x => .string ⟨x.2.1.toArray⟩)) (h3 : Row1 w v3 (toks.map fun x => .int .i64 x.2.2)) :
    Calls Tryd.prog 17 #[.string s, v2, v3] w fun e w' => e = .returned (.bool true) ∧ Below w.heap.size w w' := by
  have HX := Lib.hid hlex
  clear hlex
  obtain ⟨A2, c2, rfl, hc2, HA2⟩ := h2
  obtain ⟨A3, c3, rfl, hc3, HA3⟩ := h3
  rw [List.length_map] at hc2 hc3
  have H2 := Lib.hid HA2
  have H3 := Lib.hid HA3
  clear HA2 HA3
  rw [List.length_map, List.length_map]
  go_enter Tryd.func17, Tryd.ntmps17
  go_wp2_with fail
  refine (lex_any s w hT).mono ?_
  rintro e w1 ⟨v, rfl, hown, hb1⟩
  rw [HX.out] at hown ⊢
  have hk := Toks.of_own hown
  clear hown
  obtain ⟨A, ca, rfl, hca, HA⟩ := hk
  have H1 := Lib.hid HA
  clear HA
  have hca' : toks.length ≤ ca := hca
  clear hca
  have HB := Lib.hid hb1
  have hsz := hb1.size
  clear hb1
  dsimp only
  go_wp2_with fail
  go_loopg [10] toks.length (fun g x wx => ∃ i n : Nat, w1.drewN n = wx ∧ i ≤ toks.length ∧ g = toks.length - i ∧ x = .int .i64 i)
  case atStart => exact ⟨0, 0, rfl, by omega, rfl, rfl⟩
  case round =>
    obtain ⟨i, n, rfl, hi, rfl, rfl⟩ := hrel
    by_cases hlt : i < toks.length
    · obtain ⟨x, hx⟩ : ∃ x, toks[i]? = some x := ⟨_, List.getElem?_eq_getElem hlt⟩
      obtain ⟨g1, o1, rfl, _, hx1⟩ := H1.out (by intro e; have e' : toks = [] := e; subst e'; simp at hlt)
      obtain ⟨g2, rfl, hg2, hx2⟩ := H2.out (by intro e; rw [List.map_eq_nil_iff] at e; subst e; simp at hlt)
      obtain ⟨g3, rfl, hg3, hx3⟩ := H3.out (by intro e; rw [List.map_eq_nil_iff] at e; subst e; simp at hlt)
      obtain ⟨a0, a1, a2⟩ := hx1 i x hx
      have b1 : w1.cell? ⟨g2, i, none⟩ = some (.string ⟨x.2.1.toArray⟩) := (HB.out.cell (p := ⟨g2, i, none⟩) hg2).trans (hx2 i _ (by rw [List.getElem?_map, hx]; rfl))
      have b2 : w1.cell? ⟨g3, i, none⟩ = some (.int .i64 x.2.2) := (HB.out.cell (p := ⟨g3, i, none⟩) hg3).trans (hx3 i _ (by rw [List.getElem?_map, hx]; rfl))
      clear hx1 hx2 hx3 hx
      go_wp2_with fail
      go_quiet (fail)
      go_wp2_with fail
      go_roundg (toks.length - (i + 1))
      case measure => omega
      case rel => exact ⟨i + 1, _, (by first | rfl | exact (World.drewN_drewN ..)), by omega, rfl, by go_num⟩
    · have hge : toks.length ≤ i := by omega
      go_wp2_with fail
      go_ret
      exact ⟨rfl, HB.out.trans (below_dn n)⟩

set_option maxHeartbeats 1000000 in
theorem fails_true (s : ByteArray) (er at_ : Nat) (w : World) (hT : Tabs w) (hlex : lexS (L s) = ([], er, at_)) :
    Calls Tryd.prog 18 #[.string s, .int .i64 er, .int .i64 at_] w fun e w' => e = .returned (.bool true) ∧ Below w.heap.size w w' := by
  have HX := Lib.hid hlex
  clear hlex
  go_enter Tryd.func18, Tryd.ntmps18
  go_wp2_with fail
  refine (lex_any s w hT).mono ?_
  rintro e w1 ⟨v, rfl, hown, hb1⟩
  rw [HX.out] at hown ⊢
  have hk := Toks.of_own hown
  clear hown
  obtain ⟨A, ca, rfl, hca, HA⟩ := hk
  clear HA hca
  have HB := Lib.hid hb1
  clear hb1
  dsimp only
  go_wp2_with fail
  go_ret
  exact ⟨rfl, HB.out⟩

theorem two_rows (w : World) (u1 u2 : List Value) (t1 t2 : TypeId) :
    Row1 ((w.alloc (.cells u1.toArray t1)).alloc (.cells u2.toArray t2)) (.slice (some ⟨w.heap.size, 0, none⟩) u1.length u1.length) u1 ∧
    Row1 ((w.alloc (.cells u1.toArray t1)).alloc (.cells u2.toArray t2)) (.slice (some ⟨w.heap.size + 1, 0, none⟩) u2.length u2.length) u2 ∧
    Below w.heap.size w ((w.alloc (.cells u1.toArray t1)).alloc (.cells u2.toArray t2)) := by
  refine ⟨(Row1.new w u1 t1).keep ((Below.refl _ _).alloc (Nat.le_refl _) _), ?_, ((Below.refl _ w).alloc (Nat.le_refl _) _).alloc (by simp) _⟩
  have := Row1.new (w.alloc (.cells u1.toArray t1)) u2 t2
  rw [World.size_alloc] at this
  exact this
theorem ex0 : lexS (L { data := #[104, 111, 117, 114, 115, 32, 62, 61, 32, 56, 32, 109, 105, 110, 32, 47, 47, 32, 120] }) = ([(1, [104, 111, 117, 114, 115], 0), (6, [62, 61], 6), (3, [56], 9), (1, [109, 105, 110], 11)], 0, 0) := by kernel_rfl
theorem ex1 : lexS (L { data := #[69, 85, 82, 32, 49, 50, 46, 53, 48, 42, 50] }) = ([(2, [69, 85, 82], 0), (4, [49, 50, 46, 53, 48], 4), (6, [42], 9), (3, [50], 10)], 0, 0) := by kernel_rfl
theorem ex2 : lexS (L { data := #[50, 48, 50, 52, 45, 48, 50, 45, 51, 48] }) = ([(5, [50, 48, 50, 52, 45, 48, 50, 45, 51, 48], 0)], 0, 0) := by kernel_rfl
theorem ex3 : lexS (L { data := #[] }) = ([], 0, 0) := by kernel_rfl
theorem fx0 : lexS (L { data := #[50, 48, 50, 52, 45, 48, 50] }) = ([], 61, 5) := by kernel_rfl
theorem fx1 : lexS (L { data := #[49, 50, 46, 53] }) = ([], 61, 0) := by kernel_rfl
theorem fx2 : lexS (L { data := #[48, 48, 55] }) = ([], 61, 0) := by kernel_rfl
theorem fx3 : lexS (L { data := #[69, 85, 82, 79] }) = ([], 61, 0) := by kernel_rfl
theorem fx4 : lexS (L { data := #[97, 33, 98] }) = ([], 61, 1) := by kernel_rfl
theorem Tabs.size {w : World} (h : Tabs w) : 2 ≤ w.heap.size := by
  obtain ⟨⟨t, fr, h1⟩, ⟨t', fr', h2⟩⟩ := h
  have := (Array.getElem?_eq_some_iff.1 h1).1
  have := (Array.getElem?_eq_some_iff.1 h2).1
  omega
theorem row1_nil (w : World) : Row1 w (.slice none 0 0) [] := ⟨none, 0, rfl, Nat.le_refl _, fun h => absurd rfl h⟩

set_option maxHeartbeats 2000000 in
theorem head_true (w : World) (hT : Tabs w) :
    Calls Tryd.prog 10 #[] w fun e w' => e = .returned (.bool true) ∧ Below w.heap.size w w' := by
  have h2 := hT.size
  go_enter Tryd.func10, Tryd.ntmps10
  go_wp2_with fail
  obtain ⟨r1, r2, q1⟩ := two_rows w [.string { data := #[104, 111, 117, 114, 115] }, .string { data := #[62, 61] }, .string { data := #[56] }, .string { data := #[109, 105, 110] }] [.int .i64 0, .int .i64 6, .int .i64 9, .int .i64 11] 9 3
  refine (texts_true _ _ _ [(1, [104, 111, 117, 114, 115], 0), (6, [62, 61], 6), (3, [56], 9), (1, [109, 105, 110], 11)] _ (hT.below (n₀ := w.heap.size) h2 q1) ex0 (by decide) r1 r2).mono ?_
  rintro e w1 ⟨rfl, b1⟩
  clear r1 r2
  have B1 : Hid (Below w.heap.size w w1) := Lib.hid (q1.trans (b1.mono (by simp; omega)))
  have hs1 : w.heap.size ≤ w1.heap.size := B1.out.size
  clear q1 b1
  go_wp2_with fail
  obtain ⟨r1, r2, q2⟩ := two_rows w1 [.string { data := #[69, 85, 82] }, .string { data := #[49, 50, 46, 53, 48] }, .string { data := #[42] }, .string { data := #[50] }] [.int .i64 0, .int .i64 4, .int .i64 9, .int .i64 10] 9 3
  refine (texts_true _ _ _ [(2, [69, 85, 82], 0), (4, [49, 50, 46, 53, 48], 4), (6, [42], 9), (3, [50], 10)] _ (hT.below (n₀ := w.heap.size) h2 (B1.out.trans (q2.mono hs1))) ex1 (by decide) r1 r2).mono ?_
  rintro e w2 ⟨rfl, b2⟩
  clear r1 r2
  have B2 : Hid (Below w.heap.size w w2) := Lib.hid ((B1.out.trans (q2.mono hs1)).trans (b2.mono (by simp; omega)))
  have hs2 : w.heap.size ≤ w2.heap.size := B2.out.size
  clear q2 b2
  go_wp2_with fail
  obtain ⟨r1, r2, q3⟩ := two_rows w2 [.string { data := #[50, 48, 50, 52, 45, 48, 50, 45, 51, 48] }] [.int .i64 0] 9 3
  refine (texts_true _ _ _ [(5, [50, 48, 50, 52, 45, 48, 50, 45, 51, 48], 0)] _ (hT.below (n₀ := w.heap.size) h2 (B2.out.trans (q3.mono hs2))) ex2 (by decide) r1 r2).mono ?_
  rintro e w3 ⟨rfl, b3⟩
  clear r1 r2
  have B3 : Hid (Below w.heap.size w w3) := Lib.hid ((B2.out.trans (q3.mono hs2)).trans (b3.mono (by simp; omega)))
  have hs3 : w.heap.size ≤ w3.heap.size := B3.out.size
  clear q3 b3
  go_wp2_with fail
  refine (fails_true _ 61 5 _ (hT.below (n₀ := w.heap.size) h2 B3.out) fx0).mono ?_
  rintro e w4 ⟨rfl, b4⟩
  have B4 : Hid (Below w.heap.size w w4) := Lib.hid (B3.out.trans (b4.mono hs3))
  have hs4 : w.heap.size ≤ w4.heap.size := B4.out.size
  clear b4
  go_wp2_with fail
  refine (fails_true _ 61 0 _ (hT.below (n₀ := w.heap.size) h2 B4.out) fx1).mono ?_
  rintro e w5 ⟨rfl, b5⟩
  have B5 : Hid (Below w.heap.size w w5) := Lib.hid (B4.out.trans (b5.mono hs4))
  have hs5 : w.heap.size ≤ w5.heap.size := B5.out.size
  clear b5
  go_wp2_with fail
  refine (fails_true _ 61 0 _ (hT.below (n₀ := w.heap.size) h2 B5.out) fx2).mono ?_
  rintro e w6 ⟨rfl, b6⟩
  have B6 : Hid (Below w.heap.size w w6) := Lib.hid (B5.out.trans (b6.mono hs5))
  have hs6 : w.heap.size ≤ w6.heap.size := B6.out.size
  clear b6
  go_wp2_with fail
  refine (fails_true _ 61 0 _ (hT.below (n₀ := w.heap.size) h2 B6.out) fx3).mono ?_
  rintro e w7 ⟨rfl, b7⟩
  have B7 : Hid (Below w.heap.size w w7) := Lib.hid (B6.out.trans (b7.mono hs6))
  have hs7 : w.heap.size ≤ w7.heap.size := B7.out.size
  clear b7
  go_wp2_with fail
  refine (fails_true _ 61 1 _ (hT.below (n₀ := w.heap.size) h2 B7.out) fx4).mono ?_
  rintro e w8 ⟨rfl, b8⟩
  have B8 : Hid (Below w.heap.size w w8) := Lib.hid (B7.out.trans (b8.mono hs7))
  have hs8 : w.heap.size ≤ w8.heap.size := B8.out.size
  clear b8
  go_wp2_with fail
  refine (texts_true _ _ _ [] _ (hT.below (n₀ := w.heap.size) h2 B8.out) ex3 (by decide) (row1_nil _) (row1_nil _)).mono ?_
  rintro e w9 ⟨rfl, b9⟩
  have B9 : Hid (Below w.heap.size w w9) := Lib.hid (B8.out.trans (b9.mono hs8))
  have hs9 : w.heap.size ≤ w9.heap.size := B9.out.size
  clear b9
  go_wp2_with fail
  go_ret
  exact ⟨rfl, B9.out⟩
end Go.Proofs.YtfgngakdhedcgaaDoor
