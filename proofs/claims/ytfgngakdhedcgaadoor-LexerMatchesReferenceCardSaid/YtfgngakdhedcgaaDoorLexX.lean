/- The walk of the law LexerPrefixes. -/
import Derived.Test.YtfgngakdhedcgaaDoorLexE
import Derived.Test.YtfgngakdhedcgaaDoorLexQ3
import Derived.OpenShut
import Derived.IntWalk
namespace Go.Proofs.YtfgngakdhedcgaaDoor
open Go.RowKit LexS

theorem Toks.take {w : World} {A : Option Addr} {n cap : Nat} {l : List Tok} (h : Toks w (.slice A n cap) l) (k : Nat) (hk : k ≤ l.length) (hc : l.length ≤ cap) : Toks w (.slice A k cap) (l.take k) := by
  obtain ⟨A', cap', e, hcap, hA⟩ := h
  injection e with e1 e2 e3
  subst e1
  subst e3
  have hlen : (l.take k).length = k := by rw [List.length_take]; omega
  refine ⟨A, cap, by rw [hlen], by omega, fun hne => ?_⟩
  have hne' : l ≠ [] := by intro e; subst e; simp at hne
  obtain ⟨g, o, rfl, hg, hx⟩ := hA hne'
  refine ⟨g, o, rfl, hg, fun i x hi => hx i x ?_⟩
  rw [List.getElem?_take] at hi
  split at hi
  · exact hi
  · cases hi

set_option maxHeartbeats 2000000 in
theorem prefixes_walk (s : ByteArray) (a : Int) (w : World) (hT : Tabs w) (hs : s.size ≤ maxLen) (ha : (Lit.int .u16 a).wf = true) :
    Calls Tryd.prog 5 #[.string s, .int .u16 a] w fun e w' => e = .returned (.bool true) ∧ Below w.heap.size w w' := by
  unfold maxLen at hs
  obtain ⟨ha0, ha1⟩ := bounds_u16 ha
  clear ha
  have h2 := hT.size
  have hl : (L s).length = s.size := by simp
  have HL := Lib.hid hl
  clear hl
  go_enter Tryd.func5, Tryd.ntmps5
  go_wp2_with fail
  refine (head_true _ hT).mono ?_
  rintro e w1 ⟨rfl, b1⟩
  have B1 := Lib.hid b1
  have hs1 := b1.size
  clear b1
  have hT1 : Tabs w1 := hT.below h2 B1.out
  by_cases h7 : 7000 < s.size
  · go_wp2_with fail
    go_ret
    exact ⟨rfl, B1.out⟩
  · have h7' : s.size ≤ 7000 := by omega
    clear h7
    go_wp2_with fail
    refine (lex_any s _ hT1).mono ?_
    rintro e w2 ⟨v, rfl, hown, b2⟩
    have B2 : Hid (Below w.heap.size w w2) := Lib.hid (B1.out.trans (b2.mono hs1))
    have hs2 := B2.out.size
    clear b2
    have hT2 : Tabs w2 := hT.below h2 B2.out
    have hlen := lexS_len (L s)
    have HP := Lib.hid (prefixes_plain (L s))
    obtain ⟨r, hr⟩ : ∃ r, r = lexS (L s) := ⟨_, rfl⟩
    rw [← hr] at HP hown hlen ⊢
    clear hr
    obtain ⟨l, er, at_⟩ := r
    have hk := Toks.of_own hown
    have HTK := Lib.hid hk
    clear hown
    obtain ⟨A, ca, rfl, hca, HA⟩ := hk
    dsimp only at hlen hca HA HP ⊢
    have HA' := Lib.hid HA
    clear HA
    by_cases he : er = 0
    · subst he
      by_cases hl0 : l = []
      · subst hl0
        go_wp2_with fail
        go_ret
        exact ⟨rfl, B2.out⟩
      · obtain ⟨g, o, rfl, hg, hx⟩ := HA'.out hl0
        have hpos : 0 < l.length := by cases l with | nil => exact absurd rfl hl0 | cons x l => simp
        have hb0 : ((l.length : Int) == 0) = false := by rw [beq_eq_false_iff_ne]; omega
        have HX := Lib.hid hx
        clear hx hl0
        obtain ⟨k, hk⟩ : ∃ k : Nat, a % (l.length : Int) = (k : Int) := ⟨(a % (l.length : Int)).toNat, by have := Int.emod_nonneg a (b := (l.length : Int)) (by omega); omega⟩
        have hklt : k < l.length := by have := Int.emod_lt_of_pos a (b := (l.length : Int)) (by omega); omega
        have HK := Lib.hid hk
        clear hk
        obtain ⟨x, hxk⟩ : ∃ x, l[k]? = some x := ⟨_, List.getElem?_eq_getElem hklt⟩
        obtain ⟨c0, c1, c2⟩ := HX.out k x hxk
        obtain ⟨hend, hpre⟩ := HP.out rfl k x hxk
        rw [HL.out] at hend
        have HPRE := Lib.hid hpre
        clear hpre hxk HP
        obtain ⟨t, ht⟩ : ∃ t : ByteArray, (⟨x.2.1.toArray⟩ : ByteArray) = t := ⟨_, rfl⟩
        have htl : t.size = x.2.1.length := by rw [← ht]; rfl
        rw [ht] at c1
        rw [← htl] at hend HPRE
        clear ht htl
        go_wp2_with fail
        rw [HK.out]
        have hw : IntKind.i64.wrap ((x.2.2 : Int) + (t.size : Int)) = (x.2.2 : Int) + (t.size : Int) := IntWalk.i64_in _ (by omega)
        go_quiet (fail)
        clear hw
        go_wp2_with fail
        refine (lex_any (s.extract 0 (x.2.2 + t.size)) _ (hT2.below h2 (below_dn _))).mono ?_
        rintro e w3 ⟨v, rfl, hown, b3⟩
        rw [L_take, HPRE.out] at hown ⊢
        have t1 := Toks.of_own hown
        clear hown
        have t2 : Toks w3 (.slice (some ⟨g, o, none⟩) (k + 1) ca) (l.take (k + 1)) := Toks.take ((HTK.out.keep (below_dn _)).keep b3) (k + 1) (by omega) hca
        have B3 : Hid (Below w.heap.size w w3) := Lib.hid ((B2.out.trans (below_dn _)).trans (b3.mono hs2))
        clear b3
        have hlk : (l.take (k + 1)).length = k + 1 := by rw [List.length_take]; omega
        obtain ⟨A1, ca1, rfl, hca1, ht1⟩ := t1
        have HT1 : Hid (Toks w3 (.slice A1 (k + 1) ca1) (l.take (k + 1))) := Lib.hid ⟨A1, ca1, by rw [hlk], hca1, ht1⟩
        have HT2 := Lib.hid t2
        clear t2 ht1
        dsimp only at hca1 ⊢
        rw [hlk] at hca1 ⊢
        clear hlk
        go_wp2_with fail
        refine (same_any _ _ _ _ _ HT1.out HT2.out (by rw [List.length_take]; omega) (by rw [List.length_take]; omega)).mono ?_
        rintro e w4 ⟨rfl, n4, rfl⟩
        rw [decide_eq_true rfl]
        go_wp2_with fail
        go_ret
        exact ⟨rfl, B3.out.trans (below_dn _)⟩
    · have hb0 : ((er : Int) != 0) = true := by rw [bne_iff_ne]; omega
      go_wp2_with fail
      go_ret
      exact ⟨rfl, B2.out⟩
end Go.Proofs.YtfgngakdhedcgaaDoor
