/- The walk of the reference lexer's Lex. -/
import Derived.Test.YtfgngakdhedcgaaDoorLexK
import Derived.Test.YtfgngakdhedcgaaDoorLexO
namespace Go.Proofs.YtfgngakdhedcgaaDoor
open Go.RowKit Go.Shelf LexS

set_option maxHeartbeats 1000000 in
theorem rlex_long (s : ByteArray) (w : World) (hs : 6000 < s.size) :
    Calls Tryd.prog 12 #[.string s] w (LexPost ([], 2, 0) w) := by
  go_enter Tryd.func12, Tryd.ntmps12
  go_wp2_with fail
  refine bodyPost_ret (v := .tuple #[.slice none 0 0, .int .i64 2, .int .i64 0]) (by simp [results, Tryd.results12, go_sem]) rfl ?_
  exact ⟨_, rfl, World.ownsRow_nil _ _ _ _, Below.refl _ _⟩

theorem LexPost.mk' {r : List Tok × Nat × Nat} {l : List Tok} {a b : Nat} {w W : World} {v : Value} (hr : r = (l, a, b)) (h : W.ownsRow w.heap.size 30 3 v l.length (tokCells l)) (hb : Below w.heap.size w W) :
    LexPost r w (.returned (.tuple #[v, .int .i64 a, .int .i64 b])) W := by
  rw [hr]; exact ⟨v, rfl, h, hb⟩
theorem out_full (s : List UInt8) (k : Nat) (pre : List Tok) (h : k < s.length) (hp : pre.length = 2000) : lexOut pre (yieldAt s k) = ([], 2, k) := by
  by_cases hz : (readN (s.drop k)).1 = 0
  · rw [yieldAt_err s k h hz, lexOut, if_pos hp]
  · rw [yieldAt_tok s k h hz, lexOut, if_pos hp]
theorem out_bad (s : List UInt8) (k : Nat) (pre : List Tok) (h : k < s.length) (hp : ¬ pre.length = 2000) (hz : (readN (s.drop k)).1 = 0) : lexOut pre (yieldAt s k) = ([], 61, k) := by
  rw [yieldAt_err s k h hz, lexOut, if_neg hp, if_pos rfl]
theorem out_tok (s : List UInt8) (k : Nat) (pre : List Tok) (h : k < s.length) (hp : ¬ pre.length = 2000) (hz : (readN (s.drop k)).1 ≠ 0) : lexOut pre (yieldAt s k) = lexOut (pre ++ [((readN (s.drop k)).1, (s.drop k).take (readN (s.drop k)).2, k)]) (yieldAt s (k + (readN (s.drop k)).2 + skipN (s.drop (k + (readN (s.drop k)).2)))) := by
  rw [yieldAt_tok s k h hz, lexOut, if_neg hp, if_neg hz]
theorem out_end (s : List UInt8) (k : Nat) (pre : List Tok) (h : s.length ≤ k) : lexOut pre (yieldAt s k) = (pre, 0, 0) := by
  rw [yieldAt_end s k h, lexOut]

set_option maxRecDepth 100000 in
set_option maxHeartbeats 4000000 in
theorem rlex_short (s : ByteArray) (w : World) (hs : s.size ≤ 6000) :
    Calls Tryd.prog 12 #[.string s] w (LexPost (lexOut [] (yields (L s))) w) := by
  obtain ⟨i0, hi, hz0, hz1, hz2⟩ := info_parts Tryd.infoTok
  have HL : Hid ((L s).length = s.size) := Lib.hid (by simp)
  have hb : decide ((6000 : Int) < (s.size : Int)) = false := by simp; omega
  have HR := Lib.hid (congrArg (lexOut []) (yields_at (L s)))
  generalize hr : lexOut [] (yields (L s)) = r at *
  clear hr
  obtain ⟨k0, hk0⟩ : ∃ k0, k0 = skipN (L s) := ⟨_, rfl⟩
  have hk0s : k0 ≤ s.size := by rw [hk0]; have := skip_le (L s); rw [HL.out] at this; exact this
  rw [← hk0] at HR
  have HK0 := Lib.hid hk0
  clear hk0
  go_enter Tryd.func12, Tryd.ntmps12
  go_wp2_with fail
  refine (rskip_any s 0 _ (by omega) (by omega) (by omega)).mono ?_
  rintro e w' ⟨rfl, rfl⟩
  rw [show (0 : Int) + (skipN ((L s).drop (0 : Int).toNat) : Int) = (k0 : Int) from by rw [HK0.out]; simp]
  clear HK0
  go_wp2_with fail
  go_loopg [5, 6] (s.size - k0) (fun g v5 x6 wx => ∃ (k : Nat) (pre : List Tok) (A : Option Addr) (c : Nat), k ≤ s.size ∧ g = s.size - k ∧ v5 = .slice A pre.length c ∧ x6 = .int .i64 k ∧ pre.length ≤ 2000 ∧ Hid (wx.ownsRow w.heap.size 30 3 v5 pre.length (tokCells pre)) ∧ Hid (Below w.heap.size w wx) ∧ Hid (r = lexOut pre (yieldAt (L s) k)))
  case atStart => exact ⟨k0, [], none, 0, hk0s, rfl, rfl, rfl, by simp, Lib.hid (World.ownsRow_nil _ _ _ _), Lib.hid (Below.refl _ _), HR⟩
  case round =>
    clear HR
    obtain ⟨k, pre, A, c, hk, rfl, rfl, rfl, hp, HO, HB, HR⟩ := hrel
    obtain ⟨n, hn⟩ : ∃ n, pre.length = n := ⟨_, rfl⟩
    rw [hn] at hp HO ⊢
    have HN := Lib.hid hn
    clear hn
    by_cases hlt : k < s.size
    · by_cases h2000 : n = 2000
      · have hb2 : ((n : Int) == 2000) = true := by rw [beq_iff_eq]; omega
        have H2 := Lib.hid h2000
        clear h2000
        go_wp2_with fail
        refine bodyPost_ret (v := .tuple #[.slice none 0 0, .int .i64 2, .int .i64 k]) (by simp [results, Tryd.results12, go_sem]) rfl ?_
        exact LexPost.mk' (l := []) (HR.out.trans (out_full _ _ _ (by rw [HL.out]; exact hlt) (HN.out.trans H2.out))) (World.ownsRow_nil _ _ _ _) HB.out
      · have hb2 : ((n : Int) == 2000) = false := by rw [beq_eq_false_iff_ne]; omega
        have H2 := Lib.hid h2000
        have hn2 : n + 1 ≤ 2000 := by omega
        clear h2000
        go_wp2_with fail
        refine (token_any s k _ hs (by omega) (by omega)).mono ?_
        rintro e w' ⟨q, tx, o, ok, rfl, h1, h2, hbw⟩
        rw [Int.toNat_natCast] at h1 h2
        have HB1 := Lib.hid (HB.out.trans (hbw.mono HB.out.size))
        have HO1 := Lib.hid (own_below HO.out hbw)
        clear hbw HB HO
        cases ok with
        | false =>
          have H := Lib.hid (h2 rfl)
          clear h1 h2
          go_wp2_with fail
          refine bodyPost_ret (v := .tuple #[.slice none 0 0, .int .i64 61, .int .i64 k]) (by simp [results, Tryd.results12, go_sem]) rfl ?_
          exact LexPost.mk' (l := []) (HR.out.trans (out_bad _ _ _ (by rw [HL.out]; exact hlt) (by rw [HN.out]; exact H2.out) H.out)) (World.ownsRow_nil _ _ _ _) (HB1.out.alloc HB1.out.size _)
        | true =>
          obtain ⟨hz, rfl, htx, rfl⟩ := h1 rfl
          clear h2 h1
          have hpos := read_pos _ hz
          rw [List.length_drop, HL.out] at hpos
          have htl : tx.size = (readN ((L s).drop k)).2 := by
            have := congrArg List.length htx
            rw [List.length_take, List.length_drop, HL.out] at this
            have h3 : (L tx).length = tx.size := by simp
            omega
          have HOT := Lib.hid (out_tok (L s) k pre (by rw [HL.out]; exact hlt) (by rw [HN.out]; exact H2.out) hz)
          rw [← htx] at HOT
          generalize hrd : readN ((L s).drop k) = rd at *
          have HTX := Lib.hid htx
          have HTL := Lib.hid htl
          clear hrd htx hz
          obtain ⟨q, d⟩ := rd
          simp only at htl hpos
          have hts : k + tx.size ≤ s.size := by omega
          have htp : 1 ≤ tx.size := by omega
          clear htl hpos
          have hw : IntKind.i64.wrap ((k : Int) + (tx.size : Int)) = (k : Int) + (tx.size : Int) := IntWalk.i64_in _ (by omega)
          have hsz1 := HB1.out.size
          have HAG : Hid ((Value.slice A n c).ownBlock ≠ some w'.heap.size) := Lib.hid (fun e => by have := (HO1.out.lt _ e).2; omega)
          have HCL : Hid (((w'.alloc (.cells #[.int .i64 q, .string tx, .int .i64 k] 30)).alloc (.cells #[.int .i64 q, .string tx, .int .i64 k] 30)).cell? ⟨w'.heap.size, 1, none⟩ = some (.string tx)) := by
            refine Lib.hid ?_
            rw [World.cell?_alloc_lt _ _ _ (by simp)]
            exact cell3_new w' (.int .i64 q) (.string tx) (.int .i64 k) 30 1 _ rfl
          obtain ⟨m, hm⟩ : ∃ m, m = skipN ((L s).drop (k + tx.size)) := ⟨_, rfl⟩
          have hms : k + tx.size + m ≤ s.size := by rw [hm]; have := skip_le ((L s).drop (k + tx.size)); rw [len_drop] at this; omega
          have HM := Lib.hid hm
          clear hm
          go_wp2_with (at_builtin; refine wpList_append_own _ rfl _ _ 23 rfl w.heap.size 30 i0 _ 3 32 Tryd.underlying23 hi hz0 hz1 hz2 rfl (by decide) _ _ _ rfl ((HO1.out.alloc _).alloc _) ⟨w'.heap.size + 1, 0, none⟩ 1 1 [.int .i64 q, .string tx, .int .i64 k] rfl rfl (by have := cell3_new (w'.alloc (.cells #[.int .i64 q, .string tx, .int .i64 k] 30)) (.int .i64 q) (.string tx) (.int .i64 k) 30; rw [World.size_alloc] at this; exact this) (by simp [Value.oneCell']) (by unfold maxLen; omega) (by omega) (by simp; omega) ?_; intro v' w1 hown' hgrow _; obtain ⟨g', cap', rfl⟩ := ownsRow_succ hown'; have hc1 : w1.cell? ⟨w'.heap.size, 1, none⟩ = some (.string tx) := (hgrow.cell_far ⟨w'.heap.size, 1, none⟩ (by show w'.heap.size < _; simp only [World.size_alloc]; omega) (Ne.symm HAG.out)).trans HCL.out)
          have HB2 : Hid (Below w.heap.size w w1) := by
            refine Lib.hid (((HB1.out.alloc hsz1 _).alloc (by simp; omega) _).grown hgrow (by simp; omega) ?_)
            intro j hj
            exact (HO1.out.lt j hj).1
          have HO2 := Lib.hid hown'
          clear hown' hgrow hc1
          refine (rskip_any s _ _ (by omega) (by omega) (by omega)).mono ?_
          rintro e w'' ⟨rfl, rfl⟩
          rw [show ((k : Int) + (tx.size : Int)) + (skipN ((L s).drop ((k : Int) + (tx.size : Int)).toNat) : Int) = ((k + tx.size + m : Nat) : Int) from by rw [show ((k : Int) + (tx.size : Int)).toNat = k + tx.size from by omega, ← HM.out]; omega]
          clear hw
          go_wp2_with fail
          go_roundg (s.size - (k + tx.size + m))
          case measure => omega
          case rel =>
            refine ⟨k + tx.size + m, pre ++ [(q, L tx, k)], some ⟨g', 0, none⟩, cap', hms, rfl, ?_, rfl, ?_, ?_, HB2, Lib.hid ?_⟩
            · rw [List.length_append, HN.out]; rfl
            · rw [List.length_append, HN.out]; exact hn2
            · refine Lib.hid ?_
              rw [List.length_append, HN.out, tokCells_snoc]
              exact HO2.out
            · rw [HR.out, HOT.out, HM.out]
              have e : tx.size = d := HTL.out
              rw [e]
    · have hge : s.size ≤ k := by omega
      go_wp2_with fail
      refine bodyPost_ret (v := .tuple #[.slice A n c, .int .i64 0, .int .i64 0]) (by simp [results, Tryd.results12, go_sem]) rfl ?_
      refine LexPost.mk' (l := pre) (HR.out.trans (out_end _ _ _ (by rw [HL.out]; exact hge))) ?_ HB.out
      rw [HN.out]; exact HO.out

/-- the reference's Lex, for every source -/
theorem rlex_any (s : ByteArray) (w : World) : Calls Tryd.prog 12 #[.string s] w (LexPost (lexS (L s)) w) := by
  unfold lexS
  have hl : (L s).length = s.size := by simp
  rw [hl]
  by_cases h : 6000 < s.size
  · rw [if_pos h]; exact rlex_long s w h
  · rw [if_neg h]; exact rlex_short s w (by omega)
end Go.Proofs.YtfgngakdhedcgaaDoor
