/- The walks of Shift and of the law LexerConcat. -/
import Derived.Test.YtfgngakdhedcgaaDoorLexX
import Derived.StillTactics
import Derived.OwnWalk
import Derived.Laws.Pointers
import Derived.Deep.RegionHeld3
import Derived.Deep.AppendLies
import Derived.KernelRfl
import Derived.Laws.AppendOwnNone
namespace Go.Proofs.YtfgngakdhedcgaaDoor
open Go.RowKit LexS

/-- tokens in new memory; nothing that lay has turned -/
def NewToks (l : List Tok) (w : World) (e : Ending) (w' : World) : Prop :=
  ∃ v, e = .returned v ∧ w'.ownsRow w.heap.size 30 3 v l.length (tokCells l) ∧ Below w.heap.size w w'
theorem shift_snoc (d : Nat) (l : List Tok) (i : Nat) (x : Tok) (h : l[i]? = some x) : shiftT d (l.take (i + 1)) = shiftT d (l.take i) ++ [(x.1, x.2.1, x.2.2 + d)] := by
  rw [List.take_add_one, h]; unfold shiftT; simp
theorem shift_len (d : Nat) (l : List Tok) : (shiftT d l).length = l.length := by unfold shiftT; simp

set_option maxHeartbeats 2000000 in
theorem shift_any (v : Value) (l : List Tok) (d : Nat) (w : World) (ht : Toks w v l) (hl : l.length ≤ 2000) (hd : d ≤ 10000) (hx : ∀ x ∈ l, x.2.2 ≤ 10000) :
    Calls Tryd.prog 15 #[v, .int .i64 d] w (NewToks (shiftT d l) w) := by
  obtain ⟨i0, hi, hz0, hz1, hz2⟩ := info_parts Tryd.infoTok
  obtain ⟨A, ca, rfl, hca, HA⟩ := ht
  have HA' := Lib.hid HA
  have HX := Lib.hid hx
  clear HA hx
  go_enter Tryd.func15, Tryd.ntmps15
  go_wp2_with fail
  go_loopg [5, 6] l.length (fun g v5 x6 wx => ∃ i : Nat, i ≤ l.length ∧ g = l.length - i ∧ x6 = .int .i64 i ∧ Hid (wx.ownsRow w.heap.size 30 3 v5 i (tokCells (shiftT d (l.take i)))) ∧ Hid (Below w.heap.size w wx))
  case atStart => exact ⟨0, by omega, rfl, rfl, Lib.hid (World.ownsRow_nil _ _ _ _), Lib.hid (Below.refl _ _)⟩
  case round =>
    obtain ⟨i, hil, rfl, rfl, HO, HB⟩ := hrel
    by_cases hlt : i < l.length
    · obtain ⟨x, hxi⟩ : ∃ x, l[i]? = some x := ⟨_, List.getElem?_eq_getElem hlt⟩
      obtain ⟨g, o, rfl, hg, hcells⟩ := HA'.out (by intro e; subst e; simp at hlt)
      obtain ⟨c0, c1, c2⟩ := hcells i x hxi
      clear hcells
      have k0 := (HB.out.cell (p := ⟨g, o + i * 3, none⟩) hg).trans c0
      have k1 := (HB.out.cell (p := ⟨g, o + i * 3 + 1, none⟩) hg).trans c1
      have k2 := (HB.out.cell (p := ⟨g, o + i * 3 + 2, none⟩) hg).trans c2
      clear c0 c1 c2
      have hxo : x.2.2 ≤ 10000 := HX.out x (List.mem_of_getElem? hxi)
      have HXI := Lib.hid hxi
      clear hxi
      obtain ⟨t, ht⟩ : ∃ t : ByteArray, (⟨x.2.1.toArray⟩ : ByteArray) = t := ⟨_, rfl⟩
      rw [ht] at k1
      have HT := Lib.hid ht
      clear ht
      obtain ⟨n1, hn1⟩ : ∃ n1 : Nat, x.2.2 = n1 := ⟨_, rfl⟩
      obtain ⟨n0, hn0⟩ : ∃ n0 : Nat, x.1 = n0 := ⟨_, rfl⟩
      rw [hn1] at k2 hxo
      rw [hn0] at k0
      have HN := Lib.hid (And.intro hn0 hn1)
      clear hn1 hn0
      have hsz := HB.out.size
      have hw : IntKind.i64.wrap ((n1 : Int) + (d : Int)) = (n1 : Int) + (d : Int) := IntWalk.i64_in _ (by omega)
      have hi0' : (0 : Int) ≤ (i : Int) := Int.natCast_nonneg _
      have hi1 : (i : Int) < (l.length : Int) := by omega
      have hown := HO.out
      have lg : g < wr.heap.size := by omega
      have ag : u5.ownBlock ≠ some g := fun e => by have := hown.lt g e; omega
      have HAG := Lib.hid ag
      have HOW := Lib.hid hown
      clear hown ag
      go_wp2_with fail
      go_region_held3 (fun w' => w'.cell? ⟨g, o + i * 3, none⟩ = some (.int .i64 n0) ∧ w'.cell? ⟨g, o + i * 3 + 1, none⟩ = some (.string t) ∧ w'.cell? ⟨g, o + i * 3 + 2, none⟩ = some (.int .i64 n1))
        (first
          | go_keep
          | (go_split_ands
             refine ⟨?_, ?_, ?_⟩
             · (rw [hgrow.cell_far _ (by simp; omega) (Ne.symm HAG.out)]; assumption)
             · (rw [hgrow.cell_far _ (by simp; omega) (Ne.symm HAG.out)]; assumption)
             · (rw [hgrow.cell_far _ (by simp; omega) (Ne.symm HAG.out)]; assumption)))
        ((refine step_append_lies _ (by rfl) _ _ _ (by rfl) w.heap.size 30 i0 _ 3 32 Tryd.underlying23 hi hz0 hz1 hz2 rfl (by omega) u5 i (tokCells (shiftT d (l.take i))) (by rfl) ((HOW.out.alloc _).drew)
            ⟨wr.heap.size, 0, none⟩ 1 1 [.int .i64 n0, .string t, .int .i64 ((n1 : Int) + (d : Int))] (by rfl) (by rfl) (World.news_of_block (cs := #[.int .i64 n0, .string t, .int .i64 ((n1 : Int) + (d : Int))]) (t := 30) (fr := (0, 0)) (heap_alloc_new wr _)) (by simp [Value.oneCell'])
            (by omega) (by unfold maxLen; omega) (by omega) (by simp; omega) (wr.heap.size + 1) (by simp) ?_; intro gg cap w1 hown1 hgrow hat hlt))
      clear hw k0 k1 k2
      have HG := Lib.hid hgrow
      have HO1 := Lib.hid hown1
      clear hgrow hown1 hat
      go_wp2_with fail
      go_roundg (l.length - (i + 1))
      case measure => omega
      case rel =>
        refine ⟨i + 1, by omega, rfl, by go_num, Lib.hid ?_, Lib.hid ?_⟩
        · rw [shift_snoc d l i x HXI.out, tokCells_snoc]
          obtain ⟨e0, e1⟩ := HN.out
          have := HO1.out
          simp only
          rw [e0, e1, HT.out]
          simpa using this
        · refine ((HB.out.alloc hsz _).drew).grown HG.out (by simp; omega) ?_
          intro k hk
          exact (HO.out.lt k hk).1
    · have hge : l.length ≤ i := by omega
      obtain rfl : i = l.length := by omega
      go_wp2_with fail
      go_ret
      refine ⟨_, rfl, ?_, HB.out⟩
      have := HO.out
      rw [List.take_length] at this
      rw [shift_len]
      exact this

/-- the source of an append of tokens -/
def TokSrc (w : World) (A : Option Addr) (c : Nat) (l : List Tok) : Prop :=
  (A = none ∧ c = 0 ∧ l = []) ∨ ∃ g, A = some ⟨g, 0, none⟩ ∧ g < w.heap.size ∧ ∀ j u, (tokCells l)[j]? = some u → w.cell? ((⟨g, 0, none⟩ : Addr).add j) = some u
theorem addr_add (g j : Nat) : (⟨g, 0, none⟩ : Addr).add j = ⟨g, j, none⟩ := by unfold Addr.add; split <;> simp_all
theorem tok_src {w : World} {base : Nat} {A : Option Addr} {c : Nat} {l : List Tok} (h : w.ownsRow base 30 3 (.slice A l.length c) l.length (tokCells l)) : TokSrc w A c l := by
  rcases h.2 with ⟨hn, h0⟩ | ⟨g, cap, cur, hv, _, hg, hle, _, hcur, hxs⟩
  · injection hn with h1 h2 h3
    exact .inl ⟨h1, h3, List.length_eq_zero_iff.1 h0⟩
  · injection hv with h1 h2 h3
    refine .inr ⟨g, h1, (Array.getElem?_eq_some_iff.1 hg).1, ?_⟩
    intro j u hj
    rw [addr_add, cell_of_row w g j cur _ _ hg, ← hj, ← hxs, ← Array.getElem?_toList, List.getElem?_take, if_pos]
    have := (List.getElem?_eq_some_iff.1 hj).1
    rw [tokCells_length] at this
    exact this
theorem TokSrc.keep {w w' : World} {A : Option Addr} {c : Nat} {l : List Tok} (h : TokSrc w A c l) (hb : Below w.heap.size w w') : TokSrc w' A c l := by
  rcases h with h | ⟨g, h1, h2, h3⟩
  · exact .inl h
  · have := hb.size
    refine .inr ⟨g, h1, by omega, fun j u hj => ?_⟩
    have := h3 j u hj
    rw [addr_add] at this ⊢
    exact (hb.cell (p := ⟨g, j, none⟩) h2).trans this
theorem tok_one (l : List Tok) : ∀ u ∈ tokCells l, u.oneCell' = true := by
  intro u hu
  unfold tokCells at hu
  rw [List.mem_flatMap] at hu
  obtain ⟨x, _, hx⟩ := hu
  simp only [List.mem_cons, List.not_mem_nil, or_false] at hx
  rcases hx with rfl | rfl | rfl <;> rfl

/-- 'append(v, x...)', v the call's own, x a slice of tokens, nil or not -/
theorem append_toks {w : World} {ops : Array Oper} {rest : List Oper} {o : Oper} {a : Act} {Q : Exit → Act → World → Prop} (hgd : o.guard = none) (s x : Operand)
    (ho : o.op = .call { callee := .builtin .append, args := #[s, x], argTypes := #[23, 23] }) (base : Nat) (v : Value) (n : Nat) (xs : List Value) (hs : a.eval s = v) (hown : w.ownsRow base 30 3 v n xs)
    (A : Option Addr) (c : Nat) (l : List Tok) (hx : a.eval x = .slice A l.length c) (hsrc : TokSrc w A c l) (h63 : n + l.length ≤ 1000000) (hbase : base ≤ w.heap.size)
    (h : ∀ v' w', w'.ownsRow base 30 3 v' (n + l.length) (xs ++ tokCells l) → w.grownBy w' v.ownBlock → wpList Tryd.prog ops Q rest (a.put o.dst v') w') : wpList Tryd.prog ops Q (o :: rest) a w := by
  obtain ⟨i0, hi, hz0, hz1, hz2⟩ := info_parts Tryd.infoTok
  rcases hsrc with ⟨rfl, rfl, rfl⟩ | ⟨g, rfl, hg, hc⟩
  · refine wpList_append_own_none hgd s x 23 ho base 30 i0 3 Tryd.underlying23 hi v n xs hs hown hx ?_
    refine h v w ?_ ⟨rfl, rfl, rfl, Nat.le_refl _, fun _ _ _ => rfl⟩
    simpa [tokCells] using hown
  · refine wpList_append_own w hgd s x 23 ho base 30 i0 _ 3 32 Tryd.underlying23 hi hz0 hz1 hz2 rfl (by decide) v n xs hs hown ⟨g, 0, none⟩ l.length c (tokCells l) hx (tokCells_length l) hc (tok_one l) (by unfold maxLen; omega) (by omega) hbase ?_
    intro v' w' h1 h2 _
    exact h v' w' h1 h2

theorem own_below {w w' : World} {base e size n : Nat} {v : Value} {xs : List Value} (h : w.ownsRow base e size v n xs) (hb : Below w.heap.size w w') : w'.ownsRow base e size v n xs :=
  h.kept (row := none) ⟨hb.os, hb.tape, hb.output, hb.size, fun k hk _ => hb.block k hk⟩ (Classical.em _)
theorem tokCells_append (a b : List Tok) : tokCells (a ++ b) = tokCells a ++ tokCells b := by unfold tokCells; simp

theorem L_cat (a b : ByteArray) : L (a ++ { data := #[10] } ++ b) = L a ++ 10 :: L b := by
  simp [L]

set_option maxHeartbeats 2000000 in
theorem concat_walk (a b : ByteArray) (w : World) (hT : Tabs w) (hsa : a.size ≤ maxLen) (hsb : b.size ≤ maxLen) :
    Calls Tryd.prog 7 #[.string a, .string b] w fun e w' => e = .returned (.bool true) ∧ Below w.heap.size w w' := by
  unfold maxLen at hsa hsb
  obtain ⟨i0, hi, hz0, hz1, hz2⟩ := info_parts Tryd.infoTok
  have h2 := hT.size
  go_enter Tryd.func7, Tryd.ntmps7
  go_wp2_with fail
  refine (head_true _ hT).mono ?_
  rintro e w1 ⟨rfl, b1⟩
  have B1 := Lib.hid b1
  have hs1 := b1.size
  clear b1
  have hT1 : Tabs w1 := hT.below h2 B1.out
  have HPL := Lib.hid (concat_plain (L a) (L b))
  have HOA := Lib.hid (lexS_ok (L a))
  have HOB := Lib.hid (lexS_ok (L b))
  have hla := lexS_len (L a)
  have hlb := lexS_len (L b)
  have HYB : Hid (∀ x ∈ yields (L b), x.2.2 ≤ b.size) := by
    refine Lib.hid ?_
    intro x hx
    rw [yields_at] at hx
    have := (yield_bounds (L b) _ _ rfl x hx).2.1
    simp at this
    omega
  go_wp2_with fail
  · go_ret
    exact ⟨rfl, B1.out⟩
  have hwr : wrap64 (wrap64 ((a.size : Int) + (b.size : Int)) + 1) ≤ 6000 := by assumption
  have HWR := Lib.hid hwr
  clear hwr
  refine (lex_any a _ hT1).mono ?_
  rintro e w2 ⟨v, rfl, hown, b2⟩
  have B2 : Hid (Below w.heap.size w w2) := Lib.hid (B1.out.trans (b2.mono hs1))
  have hs2 := B2.out.size
  clear b2
  have hT2 : Tabs w2 := hT.below h2 B2.out
  obtain ⟨r, hr⟩ : ∃ r, r = lexS (L a) := ⟨_, rfl⟩
  rw [← hr] at HPL HOA hown hla ⊢
  clear hr
  obtain ⟨l, er, at_⟩ := r
  obtain ⟨A, ca, rfl⟩ : ∃ A c, v = .slice A l.length c := by
    obtain ⟨A, c, h, _⟩ := Toks.of_own hown; exact ⟨A, c, h⟩
  have HW2 := Lib.hid hown
  clear hown
  dsimp only at HW2 HPL HOA hla ⊢
  go_wp2_with fail
  refine (lex_any b _ hT2).mono ?_
  rintro e w3 ⟨v, rfl, hown, b3⟩
  have B3 : Hid (Below w.heap.size w w3) := Lib.hid (B2.out.trans (b3.mono hs2))
  have hs3 := B3.out.size
  have hs23 := b3.size
  have HB23 := Lib.hid b3
  clear b3
  have hT3 : Tabs w3 := hT.below h2 B3.out
  obtain ⟨r, hr⟩ : ∃ r, r = lexS (L b) := ⟨_, rfl⟩
  rw [← hr] at HPL HOB hown hlb ⊢
  clear hr
  obtain ⟨m, er', at'⟩ := r
  obtain ⟨A', ca', rfl⟩ : ∃ A c, v = .slice A m.length c := by
    obtain ⟨A, c, h, _⟩ := Toks.of_own hown; exact ⟨A, c, h⟩
  have HW3 := Lib.hid hown
  clear hown
  dsimp only at HW3 HPL HOB hlb ⊢
  by_cases he : er = 0
  · subst he
    by_cases he' : er' = 0
    · subst he'
      by_cases hlm : 2000 < l.length + m.length
      · go_wp2_with fail
        go_ret
        exact ⟨rfl, B3.out⟩
      · have hlm' : l.length + m.length ≤ 2000 := by omega
        clear hlm
        have hA6 : a.size ≤ 6000 := by have := (HOA.out rfl).1; simpa using this
        have hB6 : b.size ≤ 6000 := by have := (HOB.out rfl).1; simpa using this
        have HYM : Hid (yields (L b) = m) := Lib.hid (HOB.out rfl).2.1
        have hsum : a.size + b.size + 1 ≤ 6000 := by
          have := HWR.out
          rw [IntWalk.wrap64_in ((a.size : Int) + (b.size : Int)) ⟨by omega, by omega⟩, IntWalk.wrap64_in _ ⟨by omega, by omega⟩] at this
          omega
        have hpl := HPL.out rfl rfl (by simpa using hsum) hlm'
        have HP := Lib.hid hpl
        clear hpl
        go_wp2_with fail
        refine (lex_any _ _ hT3).mono ?_
        rintro e w4 ⟨v, rfl, hown, b4⟩
        rw [L_cat, HP.out] at hown ⊢
        have B4 : Hid (Below w.heap.size w w4) := Lib.hid (B3.out.trans (b4.mono hs3))
        have hs4 := B4.out.size
        have hs34 := b4.size
        have HB34 := Lib.hid b4
        clear b4
        have HLL : Hid ((L a).length = a.size) := Lib.hid (by simp)
        rw [HLL.out] at hown
        generalize hbig : l ++ shiftT (a.size + 1) m = big at hown
        have hbl : big.length = l.length + m.length := by rw [← hbig, List.length_append, shift_len]
        have HBIG := Lib.hid hbig
        clear hbig
        obtain ⟨A4, ca4, rfl⟩ : ∃ A c, v = .slice A big.length c := by
          obtain ⟨A, c, h, _⟩ := Toks.of_own hown; exact ⟨A, c, h⟩
        have HW4 := Lib.hid hown
        clear hown
        dsimp only at HW4 ⊢
        have HBL := Lib.hid hbl
        clear hbl
        have hown0 : (w4.alloc (.cells #[] 30)).ownsRow w4.heap.size 30 3 (.slice (some ⟨w4.heap.size, 0, none⟩) 0 0) 0 [] := World.ownsRow_made w4 #[] 0 (Nat.le_refl _) (by decide) rfl
        have hsrc1 : TokSrc (w4.alloc (.cells #[] 30)) A ca l := ((tok_src HW2.out).keep HB23.out).keep (((HB34.out).trans ((Below.refl _ w4).alloc hs34 _)))
        have HS1 := Lib.hid hsrc1
        have HO0 := Lib.hid hown0
        clear hsrc1 hown0
        go_wp2_with (at_builtin; refine append_toks rfl _ _ rfl w4.heap.size _ _ _ rfl HO0.out A ca l rfl HS1.out (by omega) (by simp) ?_; intro v5 w5 hown5 hgrow5)
        rw [show (a.size : Int) + 1 = ((a.size + 1 : Nat) : Int) from by omega]
        have B45 : Hid (Below w4.heap.size w4 w5) := Lib.hid (((Below.refl _ w4).alloc (Nat.le_refl _) _).grown hgrow5 (by simp) (by intro k hk; exact (HO0.out.lt k hk).1))
        have hs45 := B45.out.size
        have HO5 := Lib.hid hown5
        clear hown5 hgrow5
        have HT3 : Hid (Toks w3 (.slice A' m.length ca') m) := Lib.hid (Toks.of_own HW3.out)
        refine (shift_any _ m (a.size + 1) w5 ((HT3.out.keep HB34.out).keep B45.out) (by omega) (by omega) (fun x hx => ?_)).mono ?_
        · have := HYB.out x (by rw [HYM.out]; exact hx)
          omega
        rintro e w6 ⟨v6, rfl, hown6, b6⟩
        have hs56 := b6.size
        have B56 := Lib.hid b6
        clear b6
        obtain ⟨A6, c6, rfl⟩ : ∃ A c, v6 = .slice A (shiftT (a.size + 1) m).length c := by
          obtain ⟨A, c, h, _⟩ := Toks.of_own hown6; exact ⟨A, c, h⟩
        have HS6 : Hid (TokSrc w6 A6 c6 (shiftT (a.size + 1) m)) := Lib.hid (tok_src hown6)
        clear hown6
        have HO6 := Lib.hid (own_below HO5.out B56.out)
        have hml := shift_len (a.size + 1) m
        have HML := Lib.hid hml
        clear hml
        go_wp2_with (at_builtin; refine append_toks rfl _ _ rfl w4.heap.size _ _ _ rfl HO6.out A6 c6 (shiftT (a.size + 1) m) rfl HS6.out (by rw [HML.out]; omega) (by omega) ?_; intro v7 w7 hown7 hgrow7)
        have B47 : Hid (Below w4.heap.size w4 w7) := by
          refine Lib.hid (((B45.out).trans (B56.out.mono hs45)).grown hgrow7 (by omega) ?_)
          intro k hk
          exact (HO6.out.lt k hk).1
        have hl7 : l.length + (shiftT (a.size + 1) m).length = big.length := by rw [← HBIG.out, List.length_append]
        have ht7 : Toks w7 v7 big := by
          refine Toks.of_own (base := w4.heap.size) ?_
          rw [← HBIG.out, tokCells_append, List.length_append]
          simpa using hown7
        have HT7 := Lib.hid ht7
        have HT4 : Hid (Toks w7 (.slice A4 big.length ca4) big) := Lib.hid ((Toks.of_own HW4.out).keep B47.out)
        clear hown7 hgrow7 ht7 hl7
        have hbl := HBL.out
        refine (same_any _ _ big big _ HT4.out HT7.out (by omega) (by omega)).mono ?_
        rintro e w8 ⟨rfl, n8, rfl⟩
        rw [decide_eq_true rfl]
        clear hbl
        go_wp2_with fail
        go_ret
        exact ⟨rfl, (B4.out.trans (B47.out.mono hs4)).trans (below_dn _)⟩
    · have hb0 : ((er' : Int) != 0) = true := by rw [bne_iff_ne]; omega
      go_wp2_with fail
      go_ret
      exact ⟨rfl, B3.out⟩
  · have hb0 : ((er : Int) != 0) = true := by rw [bne_iff_ne]; omega
    go_wp2_with fail
    go_ret
    exact ⟨rfl, B3.out⟩
end Go.Proofs.YtfgngakdhedcgaaDoor
