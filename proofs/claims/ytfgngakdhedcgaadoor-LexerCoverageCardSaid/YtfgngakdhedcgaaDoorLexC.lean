/- The walks of gap and of the law LexerCoverage. -/
import Derived.Test.YtfgngakdhedcgaaDoorLexX
import Derived.Deep.QuietTactic
import Derived.BigQuiet
namespace Go.Proofs.YtfgngakdhedcgaaDoor
open Go.RowKit LexS

theorem gap_cases (c : UInt8) (t : List UInt8) (h : gapN false (c :: t) = t.length + 1) :
    (cin 1 c = true ∧ gapN false t = t.length) ∨ (cin 1 c = false ∧ c = 47 ∧ (∃ u, t = 47 :: u) ∧ gapN true (c :: t) = t.length + 1) := by
  by_cases hw : cin 1 c = true
  · left
    rw [gapN, if_neg (by simp), if_pos hw] at h
    exact ⟨hw, by omega⟩
  · right
    have hc : [47, 47].isPrefixOf (c :: t) = true := by
      cases hp : [47, 47].isPrefixOf (c :: t) with
      | true => rfl
      | false => rw [gap_none (c :: t) (show cin 1 c = false by simpa using hw) hp] at h; omega
    have hg := gap_comment _ hc
    obtain ⟨u, hu⟩ := List.isPrefixOf_iff_prefix.1 hc
    have hu' : c :: t = 47 :: 47 :: u := by simpa using hu.symm
    injection hu' with h1 h2
    exact ⟨by simpa using hw, h1, ⟨u, h2⟩, by rw [← hg]; exact h⟩

set_option maxHeartbeats 2000000 in
theorem gap_true (s : ByteArray) (w : World) (hs : s.size ≤ 100000) (h : skipN (L s) = s.size) :
    Calls Tryd.prog 14 #[.string s] w fun e w' => e = .returned (.bool true) ∧ w = w' := by
  have H := Lib.hid h
  clear h
  go_enter Tryd.func14, Tryd.ntmps14
  go_wp2_with fail
  go_loopg [3] s.size (fun g i wx => ∃ k : Nat, w = wx ∧ k ≤ s.size ∧ g = s.size - k ∧ Hid (k + skipN ((L s).drop k) = s.size) ∧ i = .int .i64 k)
  case atStart => exact ⟨0, rfl, by omega, rfl, Lib.hid (by simpa using H.out), rfl⟩
  case round =>
    obtain ⟨k, rfl, hk, rfl, HK, rfl⟩ := hrel
    by_cases hlt : k < s.size
    · have hg := HK.out
      rw [drop_at s k hlt] at hg
      have hl1 : ((L s).drop (k + 1)).length = s.size - (k + 1) := len_drop s (k + 1)
      have hg' : gapN false (s[k] :: (L s).drop (k + 1)) = ((L s).drop (k + 1)).length + 1 := by unfold skipN at hg; omega
      have hcs := gap_cases _ _ hg'
      clear hg hg'
      have HL1 := Lib.hid hl1
      clear hl1
      rcases hcs with ⟨hw, hn⟩ | ⟨hw, h47, ⟨u, hu⟩, hn⟩
      · have HN : Hid (k + 1 + skipN ((L s).drop (k + 1)) = s.size) := Lib.hid (by unfold skipN; rw [hn, HL1.out]; omega)
        have hfour : ((s[k].toNat : Int) == 32) = true ∨ (((s[k].toNat : Int) == 32) = false ∧ ((s[k].toNat : Int) == 9) = true) ∨ (((s[k].toNat : Int) == 32) = false ∧ ((s[k].toNat : Int) == 9) = false ∧ ((s[k].toNat : Int) == 10) = true) ∨ (((s[k].toNat : Int) == 32) = false ∧ ((s[k].toNat : Int) == 9) = false ∧ ((s[k].toNat : Int) == 10) = false ∧ ((s[k].toNat : Int) == 13) = true) := by
          rcases (white_cls _ hw).2 with e | e | e | e
          · rw [e]; exact .inl rfl
          · rw [e]; exact .inr (.inl ⟨rfl, rfl⟩)
          · rw [e]; exact .inr (.inr (.inl ⟨rfl, rfl, rfl⟩))
          · rw [e]; exact .inr (.inr (.inr ⟨rfl, rfl, rfl, rfl⟩))
        clear hn hw
        rcases hfour with f1 | ⟨f1, f2⟩ | ⟨f1, f2, f3⟩ | ⟨f1, f2, f3, f4⟩
        all_goals
          go_wp2_with fail
          go_roundg (s.size - (k + 1))
          case measure => omega
          case rel => exact ⟨k + 1, rfl, by omega, rfl, HN, by go_num⟩
      · have f1 : ((s[k].toNat : Int) == 32) = false := by rw [h47]; rfl
        have f2 : ((s[k].toNat : Int) == 9) = false := by rw [h47]; rfl
        have f3 : ((s[k].toNat : Int) == 10) = false := by rw [h47]; rfl
        have f4 : ((s[k].toNat : Int) == 13) = false := by rw [h47]; rfl
        have f5 : ((s[k].toNat : Int) == 47) = true := by rw [h47]; rfl
        have hk1 : k + 1 < s.size := by
          have := HL1.out
          rw [hu] at this
          simp at this
          omega
        have f6 : ((s[k + 1].toNat : Int) == 47) = true := by
          have := drop_at s (k + 1) hk1
          rw [hu] at this
          injection this with h1 h2
          rw [← h1]; rfl
        have HC : Hid (k + gapN true ((L s).drop k) = s.size) := Lib.hid (by rw [drop_at s k hlt, hn, HL1.out]; omega)
        have HNE : Hid (s[k] ≠ 10) := Lib.hid (by rw [h47]; decide)
        clear hn hu h47 hw
        go_wp2_with fail
        go_loopg [3] (s.size - k) (fun g i wx => ∃ j : Nat, w = wx ∧ k ≤ j ∧ j ≤ s.size ∧ g = s.size - j ∧ Hid (j = k ∨ k < j) ∧ Hid (j + gapN true ((L s).drop j) = s.size) ∧ i = .int .i64 j)
        case atStart => exact ⟨k, rfl, Nat.le_refl _, by omega, rfl, Lib.hid (.inl rfl), HC, rfl⟩
        case round =>
          obtain ⟨j, rfl, hj1, hj2, rfl, HJ, HR, rfl⟩ := hrel
          by_cases hjl : j < s.size
          · by_cases hnl : s[j] = 10
            · have hb : ((s[j].toNat : Int) != 10) = false := byte_eqb hnl
              have hjk : k < j := by
                rcases HJ.out with h | h
                · subst h; exact absurd hnl HNE.out
                · exact h
              have HNL := Lib.hid hnl
              clear hnl
              go_wp2_with fail
              go_roundg (s.size - j)
              case measure => omega
              case rel =>
                refine ⟨j, rfl, by omega, rfl, Lib.hid ?_, rfl⟩
                have h1 := HR.out
                rw [drop_at s j hjl, HNL.out, gap_line, ← HNL.out, ← drop_at s j hjl] at h1
                exact h1
            · have hb : ((s[j].toNat : Int) != 10) = true := byte_neb hnl
              have HNL := Lib.hid hnl
              clear hnl
              go_wp2_with fail
              go_roundg (s.size - (j + 1))
              case measure => omega
              case rel =>
                refine ⟨j + 1, rfl, by omega, by omega, rfl, Lib.hid (.inr (by omega)), Lib.hid ?_, by go_num⟩
                have h1 := HR.out
                rw [drop_at s j hjl, gap_in _ _ HNL.out] at h1
                omega
          · have hge : s.size ≤ j := by omega
            go_wp2_with fail
            go_roundg (s.size - j)
            case measure => omega
            case rel =>
              refine ⟨j, rfl, by omega, rfl, Lib.hid ?_, rfl⟩
              rw [drop_end s j hge]
              show j + 0 = s.size
              omega
    · have hge : s.size ≤ k := by omega
      go_wp2_with fail
      go_ret
      exact ⟨rfl, rfl⟩

theorem coverage_cons (s : List UInt8) (x : Tok) (r : List Tok) (a : Nat) (h : yieldAt s (a + skipN (s.drop a)) = x :: r) (hak : a + skipN (s.drop a) ≤ s.length) (hg : ∀ y ∈ x :: r, y.1 ≠ 0) :
    a ≤ x.2.2 ∧ gapB ((s.drop a).take (x.2.2 - a)) = true ∧ yieldAt s (x.2.2 + x.2.1.length + skipN (s.drop (x.2.2 + x.2.1.length))) = r :=
  coverage_plain s (x :: r) _ a h (by omega) rfl hak hg
theorem coverage_nil (s : List UInt8) (a : Nat) (h : yieldAt s (a + skipN (s.drop a)) = []) (hak : a + skipN (s.drop a) ≤ s.length) : gapB (s.drop a) = true :=
  coverage_plain s [] _ a h (by omega) rfl hak (by simp)
theorem quiet_same {P : Program} {f : FuncId} {args : Array Value} {w : World} {n : Nat} {v : Value} (h : Calls P f args (w.drewN n) fun e w' => e = .returned v ∧ w.drewN n = w') :
    Calls P f args (w.drewN n) fun e w'' => e = .returned v ∧ ∃ m, w'' = w.drewN m :=
  h.mono fun _ _ ⟨he, hm⟩ => ⟨he, n, hm.symm⟩
theorem L_mid (s : ByteArray) (a b : Nat) : L (s.extract a b) = ((L s).drop a).take (b - a) := Lib.extract_data s a b

set_option maxHeartbeats 4000000 in
set_option maxRecDepth 100000 in
theorem coverage_walk (s : ByteArray) (w : World) (hT : Tabs w) (hs : s.size ≤ maxLen) :
    Calls Tryd.prog 4 #[.string s] w fun e w' => e = .returned (.bool true) ∧ Below w.heap.size w w' := by
  unfold maxLen at hs
  have h2 := hT.size
  have hl : (L s).length = s.size := by simp
  have HL := Lib.hid hl
  clear hl
  go_enter Tryd.func4, Tryd.ntmps4
  go_wp2_with fail
  refine (head_true _ hT).mono ?_
  rintro e w1 ⟨rfl, b1⟩
  have B1 := Lib.hid b1
  have hs1 := b1.size
  clear b1
  have hT1 : Tabs w1 := hT.below h2 B1.out
  by_cases h7 : 7000 < s.size
  · go_wp2_with fail
    go_ret
    exact ⟨rfl, B1.out⟩
  · have h7' : s.size ≤ 7000 := by omega
    clear h7
    go_wp2_with fail
    refine (lex_any s _ hT1).mono ?_
    rintro e w2 ⟨v, rfl, hown, b2⟩
    have B2 : Hid (Below w.heap.size w w2) := Lib.hid (B1.out.trans (b2.mono hs1))
    have hs2 := B2.out.size
    clear b2
    have hlen := lexS_len (L s)
    have HP := Lib.hid (lexS_ok (L s))
    obtain ⟨r, hr⟩ : ∃ r, r = lexS (L s) := ⟨_, rfl⟩
    rw [← hr] at HP hown hlen ⊢
    clear hr
    obtain ⟨l, er, at_⟩ := r
    have hk := Toks.of_own hown
    clear hown
    obtain ⟨A, ca, rfl, hca, HA⟩ := hk
    dsimp only at hlen hca HA HP ⊢
    have HA' := Lib.hid HA
    clear HA
    by_cases he : er = 0
    · subst he
      obtain ⟨h6, hy, hgd, _⟩ := HP.out rfl
      have hg0 : ∀ x ∈ l, x.1 ≠ 0 := by rw [← hy]; exact hgd.2
      rw [yields_at] at hy
      have HY := Lib.hid hy
      have HG := Lib.hid hg0
      clear hy hgd hg0 HP h6
      go_wp2_with fail
      go_loopg [7, 8] l.length (fun g x7 x8 wx => ∃ i a : Nat, i ≤ l.length ∧ g = l.length - i ∧ a ≤ s.size ∧ x8 = .int .i64 i ∧ x7 = .int .i64 a ∧ Hid (yieldAt (L s) (a + skipN ((L s).drop a)) = l.drop i) ∧ Hid (Below w2.heap.size w2 wx))
      case atStart => exact ⟨0, 0, by omega, rfl, by omega, rfl, rfl, Lib.hid (by simpa using HY.out), Lib.hid (Below.refl _ _)⟩
      case round =>
        obtain ⟨i, a, hil, rfl, has, rfl, rfl, HI, HB⟩ := hrel
        have hskl := skip_le ((L s).drop a)
        rw [len_drop] at hskl
        have hskk : a + skipN ((L s).drop a) ≤ (L s).length := by rw [HL.out]; omega
        clear hskl
        by_cases hlt : i < l.length
        · obtain ⟨x, hxi⟩ : ∃ x, l[i]? = some x := ⟨_, List.getElem?_eq_getElem hlt⟩
          have hdr : l.drop i = x :: l.drop (i + 1) := by
            rw [List.drop_eq_getElem_cons hlt]
            have := (List.getElem?_eq_some_iff.1 hxi).2
            rw [this]
          obtain ⟨hax, hgap, hnext⟩ := coverage_cons (L s) x (l.drop (i + 1)) a (HI.out.trans hdr) hskk (fun y hy => HG.out y (List.mem_of_mem_drop (by rw [hdr]; exact hy)))
          clear hskk
          have hbd := yield_bounds (L s) _ _ HY.out x (List.mem_of_getElem? hxi)
          obtain ⟨hx1, hx2, hx3, hx4, hx5⟩ := hbd
          obtain ⟨hx6, hx7⟩ := hx5 (HG.out x (List.mem_of_getElem? hxi))
          have hkind := read_kind ((L s).drop x.2.2)
          rw [hx7] at hkind
          simp only at hkind
          have hk1 : 1 ≤ x.1 := by have := HG.out x (List.mem_of_getElem? hxi); omega
          obtain ⟨g, o, rfl, hg, hcells⟩ := HA'.out (by intro e; subst e; simp at hlt)
          obtain ⟨c0, c1, c2⟩ := hcells i x hxi
          clear hcells hdr hxi
          have k0 := (HB.out.cell (p := ⟨g, o + i * 3, none⟩) hg).trans c0
          have k1 := (HB.out.cell (p := ⟨g, o + i * 3 + 1, none⟩) hg).trans c1
          have k2 := (HB.out.cell (p := ⟨g, o + i * 3 + 2, none⟩) hg).trans c2
          clear c0 c1 c2
          rw [HL.out] at hx3
          obtain ⟨q, t, off⟩ := x
          simp only at hax hgap hnext hx3 hx4 hx6 hk1 hkind k0 k1 k2
          obtain ⟨tb, htb⟩ : ∃ tb : ByteArray, (⟨t.toArray⟩ : ByteArray) = tb := ⟨_, rfl⟩
          have htl : tb.size = t.length := by rw [← htb]; rfl
          have hltb : L tb = t := by rw [← htb]
          rw [htb] at k1
          rw [← htl] at hx3 hx4 hx6 hnext
          have htx : s.extract off (off + tb.size) = tb := by
            apply Go.WideShapes.bytes_inj
            show L (s.extract off (off + tb.size)) = L tb
            rw [L_mid, hltb, show off + tb.size - off = tb.size from by omega]
            exact hx4.symm
          have hneq : ((s.extract off (off + tb.size)).toList == tb.toList) = true := by rw [htx]; simp
          have hgp : skipN (L (s.extract a off)) = (s.extract a off).size := by
            have h1 := hgap
            unfold gapB at h1
            rw [decide_eq_true_eq] at h1
            rw [L_mid, h1]
            have := congrArg List.length (L_mid s a off)
            rw [← this]
            simp
          have hsx : (s.extract a off).size ≤ 100000 := by
            have := congrArg List.length (L_mid s a off)
            simp at this ⊢
            omega
          have HGP := Lib.hid hgp
          have HN := Lib.hid hnext
          clear hgp hnext hgap hx4 htx hltb htl htb hx7 hx1 hx2 hx5
          have d1 : decide (off < a) = false := by simp; omega
          have d2 : ((tb.size : Int) == 0) = false := by rw [beq_eq_false_iff_ne]; omega
          have d3 : decide ((s.size : Int) < (off : Int) + (tb.size : Int)) = false := by simp; omega
          have d4 : decide ((q : Int) < 1) = false := by simp; omega
          have d5 : decide ((6 : Int) < (q : Int)) = false := by simp; omega
          have hszr := HB.out.size
          have e1 : (0 : Int) ≤ (off : Int) + (tb.size : Int) := by omega
          have e2 : (off : Int) ≤ (off : Int) + (tb.size : Int) := by omega
          have e3 : (off : Int) + (tb.size : Int) ≤ (s.size : Int) := by omega
          have e4 : ((off : Int) + (tb.size : Int)).toNat = off + tb.size := by omega
          have e5 : off + tb.size ≤ s.size := by omega
          have e6 : off ≤ s.size := by omega
          have e7 : (a : Int) ≤ (off : Int) := by omega
          have e8 : (off : Int) ≤ (s.size : Int) := by omega
          go_wp2_with fail
          go_quiet ((go_at_call 14; exact quiet_same (gap_true _ _ hsx HGP.out)))
          clear e1 e2 e3 e4 e5 e7 e8 d1 d2 d3 d4 d5 hneq k0 k1 k2
          go_wp2_with fail
          go_roundg (l.length - (i + 1))
          case measure => omega
          case rel =>
            refine ⟨i + 1, off + tb.size, by omega, rfl, by omega, by go_num, by go_num, HN, Lib.hid ?_⟩
            exact (HB.out.alloc hszr _).trans (below_dn _)
        · have hge : l.length ≤ i := by omega
          have hgap := coverage_nil (L s) a (by rw [HI.out]; exact List.drop_eq_nil_of_le hge) hskk
          clear hskk
          have hgp : skipN (L (s.extract a s.size)) = (s.extract a s.size).size := by
            unfold gapB at hgap
            rw [decide_eq_true_eq] at hgap
            rw [L_ext, hgap]
            have := congrArg List.length (L_ext s a)
            rw [← this]
            simp
          have hsx : (s.extract a s.size).size ≤ 100000 := by
            have := congrArg List.length (L_ext s a)
            simp at this ⊢
            omega
          have HGP := Lib.hid hgp
          clear hgp hgap
          go_wp2_with fail
          refine (gap_true _ _ hsx HGP.out).mono ?_
          rintro e w5 ⟨rfl, rfl⟩
          go_wp2_with fail
          go_ret
          exact ⟨rfl, B2.out.trans (HB.out.mono hs2)⟩
    · have hb0 : ((er : Int) != 0) = true := by rw [bne_iff_ne]; omega
      go_wp2_with fail
      go_ret
      exact ⟨rfl, B2.out⟩
end Go.Proofs.YtfgngakdhedcgaaDoor
