/- The walk of the law LexerErrors. -/
import Derived.Test.YtfgngakdhedcgaaDoorLexH2
import Derived.Test.YtfgngakdhedcgaaDoorLexQ2
namespace Go.Proofs.YtfgngakdhedcgaaDoor
open Go.RowKit LexS

theorem L_take (s : ByteArray) (k : Nat) : L (s.extract 0 k) = (L s).take k := by
  show (s.extract 0 k).data.toList = _
  rw [Lib.extract_data, List.drop_zero, Nat.sub_zero]

set_option maxHeartbeats 2000000 in
theorem errors_walk (s : ByteArray) (w : World) (hT : Tabs w) (hs : s.size ≤ maxLen) :
    Calls Tryd.prog 8 #[.string s] w fun e w' => e = .returned (.bool true) ∧ Below w.heap.size w w' := by
  unfold maxLen at hs
  have h2 := hT.size
  have hl : (L s).length = s.size := by simp
  have HL := Lib.hid hl
  clear hl
  go_enter Tryd.func8, Tryd.ntmps8
  go_wp2_with fail
  refine (head_true _ hT).mono ?_
  rintro e w1 ⟨rfl, b1⟩
  have B1 := Lib.hid b1
  have hs1 := b1.size
  clear b1
  have hT1 : Tabs w1 := hT.below h2 B1.out
  by_cases h7 : 7000 < s.size
  · go_wp2_with fail
    go_ret
    exact ⟨rfl, B1.out⟩
  · have h7' : s.size ≤ 7000 := by omega
    clear h7
    by_cases h6 : 6000 < s.size
    · go_wp2_with fail
      refine (lex_long s _ h6).mono ?_
      rintro e w2 ⟨v, rfl, hown, b2⟩
      obtain ⟨A, ca, rfl, hca, HA⟩ := Toks.of_own hown
      clear hown HA
      have B2 : Hid (Below w.heap.size w w2) := Lib.hid (B1.out.trans (b2.mono hs1))
      clear b2
      have hne : ¬ s = ByteArray.empty := by intro h; rw [h] at h6; simp at h6
      go_wp2_with fail
      go_ret
      exact ⟨rfl, B2.out⟩
    · have h6' : s.size ≤ 6000 := by omega
      clear h6
      have hp := errors_plain (L s) (by rw [HL.out]; exact h6')
      go_wp2_with fail
      refine (lex_any s _ hT1).mono ?_
      rintro e w2 ⟨v, rfl, hown, b2⟩
      have B2 : Hid (Below w.heap.size w w2) := Lib.hid (B1.out.trans (b2.mono hs1))
      have hs2 := B2.out.size
      clear b2
      have hT2 : Tabs w2 := hT.below h2 B2.out
      obtain ⟨A, ca, rfl, hca, HA⟩ := Toks.of_own hown
      clear hown HA
      rcases hp with ⟨e0, a0⟩ | ⟨l0, alt, m, hm, hml, he⟩
      · rw [e0, a0]
        clear e0 a0
        go_wp2_with fail
        go_ret
        exact ⟨ret_bool (a := decide ((s.size : Int) ≤ 6000)) (by simp; omega), B2.out⟩
      · obtain ⟨r, hr⟩ : ∃ r, r = lexS (L s) := ⟨_, rfl⟩
        rw [← hr] at l0 alt hm he hca ⊢
        obtain ⟨l, er, at_⟩ := r
        simp only at l0 alt hm he hca ⊢
        subst l0
        rw [HL.out] at alt
        have HM := Lib.hid hm
        have HR := Lib.hid hr
        clear hm hr
        rcases he with rfl | ⟨rfl, hlen⟩
        · go_wp2_with fail
          refine (lex_any (s.extract 0 at_) _ hT2).mono ?_
          rintro e w3 ⟨v, rfl, hown, b3⟩
          rw [L_take, HM.out] at hown ⊢
          have B3 : Hid (Below w.heap.size w w3) := Lib.hid (B2.out.trans (b3.mono hs2))
          clear b3
          obtain ⟨A', ca', rfl, hca', HA'⟩ := Toks.of_own hown
          clear hown HA'
          dsimp only at hca' ⊢
          go_wp2_with fail
          go_ret
          exact ⟨rfl, B3.out⟩
        · have hlen' : ((m.length : Int) == 2000) = true := by rw [hlen]; rfl
          clear hlen
          go_wp2_with fail
          refine (lex_any (s.extract 0 at_) _ hT2).mono ?_
          rintro e w3 ⟨v, rfl, hown, b3⟩
          rw [L_take, HM.out] at hown ⊢
          have B3 : Hid (Below w.heap.size w w3) := Lib.hid (B2.out.trans (b3.mono hs2))
          clear b3
          obtain ⟨A', ca', rfl, hca', HA'⟩ := Toks.of_own hown
          clear hown HA'
          dsimp only at hca' ⊢
          go_wp2_with fail
          go_ret
          exact ⟨rfl, B3.out⟩
end Go.Proofs.YtfgngakdhedcgaaDoor
