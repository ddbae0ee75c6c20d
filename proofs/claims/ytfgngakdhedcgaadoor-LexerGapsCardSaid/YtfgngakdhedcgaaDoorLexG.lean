/- The walk of the law LexerGaps. -/
import Derived.Test.YtfgngakdhedcgaaDoorLexO
namespace Go.Proofs.YtfgngakdhedcgaaDoor
open Go.RowKit LexS

/-- a slice of integers that came in: nil, or a row of cap cells, the numbers zs -/
def IsRow (k : IntKind) (w : World) (a : Option Addr) (len cap : Nat) (zs : List Int) : Prop :=
  (a = none ∧ len = 0 ∧ cap = 0 ∧ zs = []) ∨
  ∃ x, a = some x ∧ len ≤ cap ∧ cap ≤ maxLen ∧ zs.length = cap ∧ (∀ i, i < zs.length → w.cell? (x.add i) = some (.int k (zs.getD i 0))) ∧ ∀ n ∈ zs, (Lit.int k n).wf = true

def kindsL : List (List UInt8) := [[32], [10], [9, 13], [32, 47, 47, 32, 99, 10], [32, 47, 47, 32, 69, 85, 82, 10, 32]]
theorem skip_zero (u : List UInt8) (h : skipN u = 0) : gapN false u = 0 := h
theorem gapS_0 : GapS [32] := ⟨fun u h => by have := skip_zero u h; simp [skipN, gapN, cin, cls, this], 32, [], rfl, rfl⟩
theorem gapS_1 : GapS [10] := ⟨fun u h => by have := skip_zero u h; simp [skipN, gapN, cin, cls, this], 10, [], rfl, rfl⟩
theorem gapS_2 : GapS [9, 13] := ⟨fun u h => by have := skip_zero u h; simp [skipN, gapN, cin, cls, this], 9, [13], rfl, rfl⟩
theorem gapS_3 : GapS [32, 47, 47, 32, 99, 10] := ⟨fun u h => by have := skip_zero u h; simp [skipN, gapN, cin, cls, this], 32, _, rfl, rfl⟩
theorem gapS_4 : GapS [32, 47, 47, 32, 69, 85, 82, 10, 32] := ⟨fun u h => by have := skip_zero u h; simp [skipN, gapN, cin, cls, this], 32, _, rfl, rfl⟩
theorem gapS_k (j : Nat) (h : j < 5) : GapS (kindsL.getD j []) ∧ (kindsL.getD j []).length ≤ 9 := by
  match j, h with
  | 0, _ => exact ⟨gapS_0, by decide⟩
  | 1, _ => exact ⟨gapS_1, by decide⟩
  | 2, _ => exact ⟨gapS_2, by decide⟩
  | 3, _ => exact ⟨gapS_3, by decide⟩
  | 4, _ => exact ⟨gapS_4, by decide⟩
theorem want_len (ps : List (List UInt8 × Tok)) : ∀ o, (wantT o ps).length = ps.length := by
  induction ps with
  | nil => intro o; rfl
  | cons p ps ih => intro o; simp [wantT, ih]
theorem L_app (a b : ByteArray) : L (a ++ b) = L a ++ L b := by simp [L]
theorem size_app (a b : ByteArray) : (a ++ b).size = a.size + b.size := by
  simp

theorem own_unique {w : World} {base e size n base' : Nat} {v : Value} {xs ys : List Value} (h : w.ownsRow base e size v n xs) (h' : w.ownsRow base' e size v n ys) : xs = ys := by
  rcases h.2 with ⟨rfl, h0⟩ | ⟨g, cap, cur, rfl, _, hg, _, _, _, hx⟩
  · have e1 := h.1; have e2 := h'.1
    rw [h0, Nat.zero_mul] at e1 e2
    rw [List.length_eq_zero_iff.1 e1, List.length_eq_zero_iff.1 e2]
  · rcases h'.2 with ⟨hn, _⟩ | ⟨g', cap', cur', hv, _, hg', _, _, _, hx'⟩
    · cases hn
    · injection hv with e1 e2 e3
      injection e1 with e1
      injection e1 with e1
      subst e1
      rw [hg] at hg'
      injection hg' with e4
      injection e4 with e4
      rw [← hx, ← hx', e4]
/-- the state of the loop: gaps and tokens so far, the text, the wanted tokens -/
def GapI (l : List Tok) (w3 : World) (base i : Nat) (o : ByteArray) (v : Value) (wx : World) : Prop :=
  ∃ ps : List (List UInt8 × Tok), ps.length = i ∧ ps.map (·.2) = l.take i ∧ (∀ p ∈ ps, GapS p.1) ∧ L o = buildT ps ∧ o.size ≤ i * 8000 ∧
    wx.ownsRow base 30 3 v i (tokCells (wantT 0 ps)) ∧ Below w3.heap.size w3 wx
theorem GapI.step {l : List Tok} {w3 : World} {base i : Nat} {o o2 tb : ByteArray} {v v' : Value} {wx w' : World} {g : List UInt8} {x : Tok} (h : GapI l w3 base i o v wx) (hx : l[i]? = some x) (hg : GapS g) (hgl : g.length ≤ 9)
    (ho2 : L o2 = L o ++ g) (htb : L tb = x.2.1) (hts : tb.size ≤ 7000)
    (hown : ∀ xs, wx.ownsRow base 30 3 v i xs → w'.ownsRow base 30 3 v' (i + 1) (xs ++ [.int .i64 x.1, .string tb, .int .i64 o2.size]))
    (hb : Below w3.heap.size wx w') : GapI l w3 base (i + 1) (o2 ++ tb) v' w' := by
  obtain ⟨ps, h1, h2, h3, h4, h5, h6, h7⟩ := h
  have hs2 : o2.size = o.size + g.length := by have := congrArg List.length ho2; simpa using this
  have hbl : (buildT ps).length = o.size := by rw [← h4]; simp
  refine ⟨ps ++ [(g, x)], by simp [h1], ?_, ?_, ?_, ?_, ?_, h7.trans hb⟩
  · rw [List.map_append, h2, List.take_add_one, hx]; rfl
  · intro p hp
    rcases List.mem_append.1 hp with h | h
    · exact h3 p h
    · rw [List.mem_singleton] at h; rw [h]; exact hg
  · rw [L_app, ho2, htb, build_snoc, h4]; simp
  · rw [size_app, hs2]; omega
  · rw [want_snoc, tokCells_snoc]
    have := hown _ h6
    simp only
    have e1 : (⟨x.2.1.toArray⟩ : ByteArray) = tb := Go.WideShapes.bytes_inj (by rw [← htb])
    rw [e1, hbl, Nat.zero_add, ← hs2]
    exact this

theorem row5 (w : World) (t : TypeId) (j : Nat) (hj : j < 5) : (w.alloc (.cells #[.string { data := #[32] }, .string { data := #[10] }, .string { data := #[9, 13] }, .string { data := #[32, 47, 47, 32, 99, 10] }, .string { data := #[32, 47, 47, 32, 69, 85, 82, 10, 32] }] t)).cell? ⟨w.heap.size, j, none⟩ = some (.string ⟨(kindsL.getD j []).toArray⟩) := by
  rw [cell_of_row _ _ j _ _ _ (heap_alloc_new w _)]
  match j, hj with
  | 0, _ => rfl
  | 1, _ => rfl
  | 2, _ => rfl
  | 3, _ => rfl
  | 4, _ => rfl

set_option maxHeartbeats 4000000 in
set_option maxRecDepth 100000 in
theorem gaps_walk (s : ByteArray) (ga : Option Addr) (gl gc : Nat) (zs : List Int) (w : World) (hT : Tabs w) (hs : s.size ≤ maxLen) (hz : IsRow .u8 w ga gl gc zs) :
    Calls Tryd.prog 6 #[.string s, .slice ga gl gc] w fun e w' => e = .returned (.bool true) ∧ Below w.heap.size w w' := by
  unfold maxLen at hs
  obtain ⟨i0, hi, hz0, hz1, hz2⟩ := info_parts Tryd.infoTok
  have h2 := hT.size
  have hl : (L s).length = s.size := by simp
  have HL := Lib.hid hl
  clear hl
  have hgl : gl ≤ 9223372036854775807 := by
    rcases hz with ⟨_, h, _⟩ | ⟨x, _, h1, h3, _⟩
    · omega
    · unfold maxLen at h3; omega
  have HZ := Lib.hid hz
  clear hz
  go_enter Tryd.func6, Tryd.ntmps6
  go_wp2_with fail
  refine (head_true _ hT).mono ?_
  rintro e w1 ⟨rfl, b1⟩
  have B1 := Lib.hid b1
  have hs1 := b1.size
  clear b1
  have hT1 : Tabs w1 := hT.below h2 B1.out
  by_cases h7 : 7000 < s.size
  · go_wp2_with fail
    go_ret
    exact ⟨rfl, B1.out⟩
  · have h7' : s.size ≤ 7000 := by omega
    clear h7
    go_wp2_with fail
    refine (lex_any s _ hT1).mono ?_
    rintro e w2 ⟨v, rfl, hown, b2⟩
    have B2 : Hid (Below w.heap.size w w2) := Lib.hid (B1.out.trans (b2.mono hs1))
    have hs2 := B2.out.size
    clear b2
    have hlen := lexS_len (L s)
    have HP := Lib.hid (lexS_ok (L s))
    obtain ⟨r, hr⟩ : ∃ r, r = lexS (L s) := ⟨_, rfl⟩
    rw [← hr] at HP hown hlen ⊢
    clear hr
    obtain ⟨l, er, at_⟩ := r
    have hk := Toks.of_own hown
    clear hown
    obtain ⟨A, ca, rfl, hca, HA⟩ := hk
    dsimp only at hlen hca HA HP ⊢
    have HA' := Lib.hid HA
    clear HA
    by_cases he : er = 0
    · subst he
      obtain ⟨h6, hy, hgd, hat0⟩ := HP.out rfl
      clear hat0
      have HTK : Hid (∀ x ∈ l, TokS x) := Lib.hid (by rw [← hy]; exact yield_toks (L s) hgd.2)
      rw [yields_at] at hy
      have HY := Lib.hid hy
      clear hy hgd HP h6
      go_wp2_with fail
      obtain ⟨w3, hw3⟩ : ∃ w3, w2.alloc (.cells #[.string { data := #[32] }, .string { data := #[10] }, .string { data := #[9, 13] }, .string { data := #[32, 47, 47, 32, 99, 10] }, .string { data := #[32, 47, 47, 32, 69, 85, 82, 10, 32] }] 9) = w3 := ⟨_, rfl⟩
      have HK : Hid (∀ j, j < 5 → w3.cell? ⟨w2.heap.size, j, none⟩ = some (.string ⟨(kindsL.getD j []).toArray⟩)) := Lib.hid (fun j hj => by rw [← hw3]; exact row5 w2 _ j hj)
      have hsz3 : w3.heap.size = w2.heap.size + 1 := by rw [← hw3]; simp
      have B23 : Hid (Below w2.heap.size w2 w3) := Lib.hid (by rw [← hw3]; exact (Below.refl _ _).alloc (Nat.le_refl _) _)
      rw [hw3]
      have HSZ := Lib.hid hsz3
      have hsz3' : w2.heap.size < w3.heap.size := by omega
      clear hw3 hsz3
      go_loopg [10, 11, 12] l.length (fun g x10 x11 x12 wx => ∃ (i : Nat) (o : ByteArray), i ≤ l.length ∧ g = l.length - i ∧ x12 = .int .i64 i ∧ x10 = .string o ∧ o.size ≤ i * 8000 ∧ Hid (GapI l w3 w3.heap.size i o x11 wx))
      case atStart => exact ⟨0, ⟨#[]⟩, by omega, rfl, rfl, rfl, Nat.zero_le _, Lib.hid ⟨[], rfl, rfl, by simp, rfl, Nat.zero_le _, World.ownsRow_nil _ _ _ _, Below.refl _ _⟩⟩
      case round =>
        obtain ⟨i, o, hil, rfl, rfl, rfl, hosz, HI⟩ := hrel
        obtain ⟨ps, _, _, _, _, _, hown, hbx⟩ := HI.out
        have HB := Lib.hid hbx
        have hszx := hbx.size
        clear hbx
        by_cases hlt : i < l.length
        · obtain ⟨x, hxi⟩ : ∃ x, l[i]? = some x := ⟨_, List.getElem?_eq_getElem hlt⟩
          have hbd := yield_bounds (L s) _ _ HY.out x (List.mem_of_getElem? hxi)
          have hx3 := hbd.2.2.1
          rw [HL.out] at hx3
          clear hbd
          obtain ⟨g, og, rfl, hg, hcells⟩ := HA'.out (by intro e; subst e; simp at hlt)
          obtain ⟨c0, c1, c2⟩ := hcells i x hxi
          clear hcells c2
          have k0 := (HB.out.cell (p := ⟨g, og + i * 3, none⟩) (by show g < w3.heap.size; omega)).trans ((B23.out.cell (p := ⟨g, og + i * 3, none⟩) hg).trans c0)
          have k1 := (HB.out.cell (p := ⟨g, og + i * 3 + 1, none⟩) (by show g < w3.heap.size; omega)).trans ((B23.out.cell (p := ⟨g, og + i * 3 + 1, none⟩) hg).trans c1)
          clear c0 c1
          have HXI := Lib.hid hxi
          clear hxi
          obtain ⟨tb, htb⟩ : ∃ tb : ByteArray, (⟨x.2.1.toArray⟩ : ByteArray) = tb := ⟨_, rfl⟩
          have htl : tb.size = x.2.1.length := by rw [← htb]; rfl
          have hltb : L tb = x.2.1 := by rw [← htb]
          rw [htb] at k1
          have hts : tb.size ≤ 7000 := by omega
          have HT := Lib.hid hltb
          clear htl hltb htb hx3
          obtain ⟨q, hq⟩ : ∃ q : Nat, x.1 = q := ⟨_, rfl⟩
          rw [hq] at k0
          have HQ := Lib.hid hq
          clear hq
          have ag : u11.ownBlock ≠ some g := fun e => by have := hown.lt g e; omega
          have HAG := Lib.hid ag
          have HOW := Lib.hid hown
          clear hown ag
          have hi0' : (0 : Int) ≤ (i : Int) := Int.natCast_nonneg _
          have hi1 : (i : Int) < (l.length : Int) := by omega
          by_cases hig : i < gl
          · obtain ⟨xa, rfl, hgc, hgm, hzl, hzc, hzw⟩ : ∃ xa, ga = some xa ∧ gl ≤ gc ∧ gc ≤ maxLen ∧ zs.length = gc ∧ (∀ i, i < zs.length → w.cell? (xa.add i) = some (.int .u8 (zs.getD i 0))) ∧ ∀ n ∈ zs, (Lit.int .u8 n).wf = true := by
              rcases HZ.out with ⟨_, h, _⟩ | h
              · omega
              · exact h
            obtain ⟨gb, goff, rfl, hzc'⟩ := ints_at hzc (by omega)
            have hzi := hzc' i (by omega)
            have hgbl : gb < w.heap.size := World.block_lt_of_cell? w _ hzi
            obtain ⟨z, hzz⟩ : ∃ z, zs.getD i 0 = z := ⟨_, rfl⟩
            have hzb : 0 ≤ z ∧ z ≤ 255 := by
              refine bounds_u8 (hzw z ?_)
              rw [← hzz, List.getD_eq_getElem?_getD, List.getElem?_eq_getElem (by omega)]
              exact List.getElem_mem _
            rw [hzz] at hzi
            have kz : wr.cell? ⟨gb, goff + i, none⟩ = some (.int .u8 z) := (HB.out.cell (p := ⟨gb, goff + i, none⟩) (by show gb < w3.heap.size; omega)).trans ((B23.out.cell (p := ⟨gb, goff + i, none⟩) (by show gb < w2.heap.size; omega)).trans ((B2.out.cell (p := ⟨gb, goff + i, none⟩) hgbl).trans hzi))
            clear hzc hzc' hzi hzw hzl hzz
            obtain ⟨hzb0, hzb1⟩ := hzb
            obtain ⟨j, hj⟩ : ∃ j : Nat, z % 5 = (j : Int) := ⟨(z % 5).toNat, by omega⟩
            have hj5 : j < 5 := by omega
            have hjt : (z % 5).toNat = j := by omega
            have kk : wr.cell? ⟨w2.heap.size, (z % 5).toNat, none⟩ = some (.string ⟨(kindsL.getD j []).toArray⟩) := by
              rw [hjt]
              exact (HB.out.cell (p := ⟨w2.heap.size, j, none⟩) hsz3').trans (HK.out j hj5)
            have HGK := Lib.hid (gapS_k j hj5)
            generalize hgk : kindsL.getD j [] = gk at *
            clear hgk hj hjt
            obtain ⟨gkb, hgkb⟩ : ∃ gkb : ByteArray, (⟨gk.toArray⟩ : ByteArray) = gkb := ⟨_, rfl⟩
            have HKB : Hid (L gkb = gk) := Lib.hid (by rw [← hgkb])
            have hgks : gkb.size ≤ 9 := by
              have h1 := congrArg List.length HKB.out
              have h3 : (L gkb).length = gkb.size := by simp
              have := HGK.out.2
              omega
            rw [hgkb] at kk
            clear hgkb
            go_wp2_with fail
            generalize ho2 : o ++ gkb = o2 at *
            have HO2 : Hid (L o2 = L o ++ gk) := Lib.hid (by rw [← ho2, L_app, HKB.out])
            have ho2s : o2.size ≤ i * 8000 + 9 := by
              have := congrArg List.length HO2.out
              rw [List.length_append] at this
              have h1 : (L o2).length = o2.size := by simp
              have h3 : (L o).length = o.size := by simp
              have h4 : (gk).length ≤ 9 := HGK.out.2
              omega
            clear ho2
            go_region_held3 (fun w' => w'.cell? ⟨g, og + i * 3, none⟩ = some (.int .i64 q) ∧ w'.cell? ⟨g, og + i * 3 + 1, none⟩ = some (.string tb))
              (first
                | go_keep
                | (go_split_ands
                   refine ⟨?_, ?_⟩
                   · (rw [hgrow.cell_far _ (by simp; omega) (Ne.symm HAG.out)]; assumption)
                   · (rw [hgrow.cell_far _ (by simp; omega) (Ne.symm HAG.out)]; assumption)))
              ((refine step_append_lies _ (by rfl) _ _ _ (by rfl) w3.heap.size 30 i0 _ 3 32 Tryd.underlying23 hi hz0 hz1 hz2 rfl (by omega) u11 i (tokCells (wantT 0 ps)) (by rfl) ((HOW.out.alloc _).drew)
                  ⟨wr.heap.size, 0, none⟩ 1 1 [.int .i64 q, .string tb, .int .i64 o2.size] (by rfl) (by rfl) (World.news_of_block (cs := #[.int .i64 q, .string tb, .int .i64 o2.size]) (t := 30) (fr := (0, 0)) (heap_alloc_new wr _)) (by simp [Value.oneCell'])
                  (by omega) (by unfold maxLen; omega) (by omega) (by simp; omega) (wr.heap.size + 1) (by simp) ?_; intro gg cap w1' hown1 hgrow hat hltg))
            have hHeld : w1'.cell? ⟨g, og + i * 3 + 1, none⟩ = some (.string tb) := by
              rw [hgrow.cell_far _ (by simp; omega) (Ne.symm HAG.out)]
              simpa using World.cell?_alloc_lt wr _ ⟨g, og + i * 3 + 1, none⟩ (by show g < wr.heap.size; omega) |>.trans k1
            have HG := Lib.hid hgrow
            have HO1 := Lib.hid hown1
            clear hgrow hown1 hat k0 k1
            go_wp2_with fail
            go_roundg (l.length - (i + 1))
            case measure => omega
            case rel =>
              have hstep : GapI l w3 w3.heap.size (i + 1) (o2 ++ tb) (.slice (some ⟨gg, 0, none⟩) (i + 1) cap) w1' := by
                refine HI.out.step HXI.out HGK.out.1 HGK.out.2 HO2.out HT.out hts ?_ ?_
                · intro xs hxs
                  have e : xs = tokCells (wantT 0 ps) := own_unique hxs HOW.out
                  rw [e, HQ.out]
                  exact HO1.out
                · refine (((Below.refl _ wr).alloc hszx _).drew).grown HG.out (by simp; omega) ?_
                  intro k hk
                  exact (HOW.out.lt k hk).1
              refine ⟨i + 1, o2 ++ tb, by omega, rfl, by go_num, rfl, ?_, Lib.hid hstep⟩
              obtain ⟨_, _, _, _, _, h5, _⟩ := hstep
              exact h5
          · go_wp2_with fail
            generalize ho2 : o ++ { data := #[32] } = o2 at *
            have HO2 : Hid (L o2 = L o ++ [32]) := Lib.hid (by rw [← ho2, L_app])
            have ho2s : o2.size ≤ i * 8000 + 9 := by
              have := congrArg List.length HO2.out
              rw [List.length_append] at this
              have h1 : (L o2).length = o2.size := by simp
              have h3 : (L o).length = o.size := by simp
              have h4 : ([32]).length ≤ 9 := (by decide)
              omega
            clear ho2
            go_region_held3 (fun w' => w'.cell? ⟨g, og + i * 3, none⟩ = some (.int .i64 q) ∧ w'.cell? ⟨g, og + i * 3 + 1, none⟩ = some (.string tb))
              (first
                | go_keep
                | (go_split_ands
                   refine ⟨?_, ?_⟩
                   · (rw [hgrow.cell_far _ (by simp; omega) (Ne.symm HAG.out)]; assumption)
                   · (rw [hgrow.cell_far _ (by simp; omega) (Ne.symm HAG.out)]; assumption)))
              ((refine step_append_lies _ (by rfl) _ _ _ (by rfl) w3.heap.size 30 i0 _ 3 32 Tryd.underlying23 hi hz0 hz1 hz2 rfl (by omega) u11 i (tokCells (wantT 0 ps)) (by rfl) ((HOW.out.alloc _).drew)
                  ⟨wr.heap.size, 0, none⟩ 1 1 [.int .i64 q, .string tb, .int .i64 o2.size] (by rfl) (by rfl) (World.news_of_block (cs := #[.int .i64 q, .string tb, .int .i64 o2.size]) (t := 30) (fr := (0, 0)) (heap_alloc_new wr _)) (by simp [Value.oneCell'])
                  (by omega) (by unfold maxLen; omega) (by omega) (by simp; omega) (wr.heap.size + 1) (by simp) ?_; intro gg cap w1' hown1 hgrow hat hltg))
            have hHeld : w1'.cell? ⟨g, og + i * 3 + 1, none⟩ = some (.string tb) := by
              rw [hgrow.cell_far _ (by simp; omega) (Ne.symm HAG.out)]
              simpa using World.cell?_alloc_lt wr _ ⟨g, og + i * 3 + 1, none⟩ (by show g < wr.heap.size; omega) |>.trans k1
            have HG := Lib.hid hgrow
            have HO1 := Lib.hid hown1
            clear hgrow hown1 hat k0 k1
            go_wp2_with fail
            go_roundg (l.length - (i + 1))
            case measure => omega
            case rel =>
              have hstep : GapI l w3 w3.heap.size (i + 1) (o2 ++ tb) (.slice (some ⟨gg, 0, none⟩) (i + 1) cap) w1' := by
                refine HI.out.step HXI.out gapS_0 (by decide) HO2.out HT.out hts ?_ ?_
                · intro xs hxs
                  have e : xs = tokCells (wantT 0 ps) := own_unique hxs HOW.out
                  rw [e, HQ.out]
                  exact HO1.out
                · refine (((Below.refl _ wr).alloc hszx _).drew).grown HG.out (by simp; omega) ?_
                  intro k hk
                  exact (HOW.out.lt k hk).1
              refine ⟨i + 1, o2 ++ tb, by omega, rfl, by go_num, rfl, ?_, Lib.hid hstep⟩
              obtain ⟨_, _, _, _, _, h5, _⟩ := hstep
              exact h5
        · have hge : l.length ≤ i := by omega
          obtain rfl : i = l.length := by omega
          obtain ⟨ps', p1, p2, p3, p4, p5, p6, p7⟩ := HI.out
          have HW : Hid (lexS (L o) = (wantT 0 ps', 0, 0) ∨ 6000 < o.size) := by
            refine Lib.hid ?_
            by_cases h6 : 6000 < o.size
            · exact .inr h6
            · left
              rw [p4]
              have hle : (buildT ps').length = o.size := by rw [← p4]; simp
              refine gaps_plain ps' (fun p hp => ⟨p3 p hp, ?_⟩) (by omega) (by omega)
              refine HTK.out p.2 ?_
              have : p.2 ∈ ps'.map (·.2) := List.mem_map.2 ⟨p, hp, rfl⟩
              rw [p2, List.take_length] at this
              exact this
          have hwl : (wantT 0 ps').length = l.length := by rw [want_len, p1]
          have HTW : Hid (Toks wr u11 (wantT 0 ps')) := Lib.hid (Toks.of_own (base := w3.heap.size) (by rw [hwl]; exact p6))
          clear p1 p2 p3 p4 p5 p6 p7 hown
          obtain ⟨A11, c11, hu11⟩ : ∃ A c, u11 = .slice A (wantT 0 ps').length c := by
            obtain ⟨A, c, h, _⟩ := HTW.out; exact ⟨A, c, h⟩
          generalize hwp : wantT 0 ps' = wp at *
          clear hwp
          have hwl' : wp.length ≤ 2000 := by omega
          clear hwl
          have B3 : Hid (Below w.heap.size w wr) := Lib.hid ((B2.out.trans (B23.out.mono hs2)).trans (HB.out.mono (by omega)))
          have hTr : Tabs wr := hT.below h2 B3.out
          by_cases h6 : 6000 < o.size
          · subst hu11
            go_wp2_with fail
            go_ret
            exact ⟨rfl, B3.out⟩
          · have h6' : o.size ≤ 6000 := by omega
            have hlx := HW.out.resolve_right h6
            clear h6
            have HLX := Lib.hid hlx
            clear hlx
            subst hu11
            go_wp2_with fail
            refine (lex_any o _ hTr).mono ?_
            rintro e w5 ⟨v, rfl, hown, b5⟩
            rw [HLX.out] at hown ⊢
            have t1 := Toks.of_own hown
            clear hown
            obtain ⟨A5, c5, rfl, hc5, ht5⟩ := t1
            have HT1 : Hid (Toks w5 (.slice A5 wp.length c5) wp) := Lib.hid ⟨A5, c5, rfl, hc5, ht5⟩
            have HT2 : Hid (Toks w5 (.slice A11 wp.length c11) wp) := Lib.hid (HTW.out.keep b5)
            clear ht5
            have hs5 := B3.out.size
            have B5 : Hid (Below w.heap.size w w5) := Lib.hid (B3.out.trans (b5.mono hs5))
            clear b5
            dsimp only at hc5 ⊢
            go_wp2_with fail
            refine (same_any _ _ wp wp _ HT1.out HT2.out (by omega) (by omega)).mono ?_
            rintro e w6 ⟨rfl, n6, rfl⟩
            rw [decide_eq_true rfl]
            go_wp2_with fail
            go_ret
            exact ⟨rfl, B5.out.trans (below_dn _)⟩
    · have hb0 : ((er : Int) != 0) = true := by rw [bne_iff_ne]; omega
      go_wp2_with fail
      go_ret
      exact ⟨rfl, B2.out⟩
end Go.Proofs.YtfgngakdhedcgaaDoor
