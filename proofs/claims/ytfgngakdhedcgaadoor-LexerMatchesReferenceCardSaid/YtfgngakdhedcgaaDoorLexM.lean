/- The walk of the law LexerMatchesReference. -/
import Derived.Test.YtfgngakdhedcgaaDoorLexJ
namespace Go.Proofs.YtfgngakdhedcgaaDoor
open Go.RowKit LexS

set_option maxHeartbeats 4000000 in
theorem matches_walk (s : ByteArray) (w : World) (hT : Tabs w) (hs : s.size ≤ maxLen) :
    Calls Tryd.prog 3 #[.string s] w fun e w' => e = .returned (.bool true) ∧ Below w.heap.size w w' := by
  unfold maxLen at hs
  have h2 := hT.size
  go_enter Tryd.func3, Tryd.ntmps3
  go_wp2_with fail
  refine (head_true _ hT).mono ?_
  rintro e w1 ⟨rfl, b1⟩
  have B1 := Lib.hid b1
  have hs1 := b1.size
  clear b1
  have hT1 : Tabs w1 := hT.below h2 B1.out
  by_cases h7 : 7000 < s.size
  · go_wp2_with fail
    go_ret
    exact ⟨rfl, B1.out⟩
  · have h7' : s.size ≤ 7000 := by omega
    clear h7
    go_wp2_with fail
    refine (lex_any s _ hT1).mono ?_
    rintro e w2 ⟨v, rfl, hown, b2⟩
    have B2 : Hid (Below w.heap.size w w2) := Lib.hid (B1.out.trans (b2.mono hs1))
    have hs2 := B2.out.size
    clear b2
    have HO := Lib.hid hown
    clear hown
    go_wp2_with fail
    refine (rlex_any s _).mono ?_
    rintro e w3 ⟨v', rfl, hown', b3⟩
    have hlen := lexS_len (L s)
    have t1 := (Toks.of_own HO.out).keep b3
    have t2 := Toks.of_own hown'
    have B3 : Hid (Below w.heap.size w w3) := Lib.hid (B2.out.trans (b3.mono hs2))
    clear b3 hown' HO
    obtain ⟨r, hr⟩ : ∃ r, r = lexS (L s) := ⟨_, rfl⟩
    rw [← hr] at t1 t2 hlen ⊢
    clear hr
    obtain ⟨l, er, at_⟩ := r
    dsimp only at hlen t1 t2 ⊢
    have HT1 := Lib.hid t1
    have HT2 := Lib.hid t2
    clear t1 t2
    go_wp2_with fail
    refine (same_any _ _ _ _ _ HT1.out HT2.out (by omega) (by omega)).mono ?_
    rintro e w4 ⟨rfl, n4, rfl⟩
    rw [decide_eq_true rfl]
    go_wp2_with fail
    go_ret
    exact ⟨rfl, B3.out.trans (below_dn _)⟩
end Go.Proofs.YtfgngakdhedcgaaDoor
