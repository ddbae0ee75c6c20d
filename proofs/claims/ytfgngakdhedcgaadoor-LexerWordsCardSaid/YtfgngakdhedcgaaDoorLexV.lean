/- The walk of the law LexerWords. -/
import Derived.Test.YtfgngakdhedcgaaDoorLexE
import Derived.Test.YtfgngakdhedcgaaDoorLexQ4
import Derived.OpenShut
import Derived.IntWalk
import Derived.Laws.IdiomStrings
namespace Go.Proofs.YtfgngakdhedcgaaDoor
open Go.RowKit LexS

set_option maxHeartbeats 1000000 in
theorem one_no (s : ByteArray) (kz : Int) (w : World) (hT : Tabs w) (hx : lexS (L s) = ([], 61, 0)) :
    Calls Tryd.prog 16 #[.string s, .int .i64 kz, .bool false] w fun e w' => e = .returned (.bool true) ∧ Below w.heap.size w w' := by
  have HX := Lib.hid hx
  clear hx
  go_enter Tryd.func16, Tryd.ntmps16
  go_wp2_with fail
  refine (lex_any s w hT).mono ?_
  rintro e w1 ⟨v, rfl, hown, b1⟩
  rw [HX.out] at hown ⊢
  obtain ⟨A, ca, rfl, hca, HA⟩ := Toks.of_own hown
  have HB := Lib.hid b1
  clear hown HA hca b1
  dsimp only
  go_wp2_with fail
  go_ret
  exact ⟨rfl, HB.out⟩

set_option maxHeartbeats 1000000 in
theorem one_yes (s : ByteArray) (k : Nat) (kz : Int) (hkz : kz = (k : Int)) (w : World) (hT : Tabs w) (hx : lexS (L s) = ([(k, L s, 0)], 0, 0)) :
    Calls Tryd.prog 16 #[.string s, .int .i64 kz, .bool true] w fun e w' => e = .returned (.bool true) ∧ Below w.heap.size w w' := by
  subst hkz
  have HX := Lib.hid hx
  clear hx
  go_enter Tryd.func16, Tryd.ntmps16
  go_wp2_with fail
  refine (lex_any s w hT).mono ?_
  rintro e w1 ⟨v, rfl, hown, b1⟩
  rw [HX.out] at hown ⊢
  obtain ⟨A, ca, rfl, hca, HA⟩ := Toks.of_own hown
  obtain ⟨g, o, rfl, hg, hc⟩ := HA (by simp)
  obtain ⟨c0, c1, c2⟩ := hc 0 (k, L s, 0) rfl
  have HB := Lib.hid b1
  clear hown HA b1 hc c2
  dsimp only at c0 c1 hca ⊢
  rw [Nat.zero_mul, Nat.add_zero] at c0 c1
  have e1 : (⟨(L s).toArray⟩ : ByteArray) = s := Go.WideShapes.bytes_inj (by simp [L])
  rw [e1] at c1
  clear e1
  have hca1 : 1 ≤ ca := hca
  clear hca
  go_wp2_with fail
  go_ret
  exact ⟨rfl, HB.out⟩

theorem cls_low (n : Nat) (h : n < 26) : cls (97 + n) = 2 := by unfold cls; rw [if_neg (by omega), if_pos (by omega)]
theorem cls_up (n : Nat) (h : n < 26) : cls (65 + n) = 4 := by unfold cls; rw [if_neg (by omega), if_neg (by omega), if_pos (by omega)]
theorem cls_dig (n : Nat) (h : n < 9) : cls (49 + n) = 8 := by unfold cls; rw [if_neg (by omega), if_neg (by omega), if_neg (by omega), if_pos (by omega)]

/-- 'string([]byte{z})' -/
theorem conv1 (W : World) (z : Int) (u : UInt8) (g : Nat) (hg : g = W.heap.size) (hz : z = (u.toNat : Int)) :
    (convert 33 9 (.slice (some ⟨g, 0, none⟩) 1 1)).run Tryd.prog (W.alloc (.cells #[.int .u8 z] 5)) = .ok (.string ⟨#[u]⟩) (W.alloc (.cells #[.int .u8 z] 5)) := by
  subst hg
  have := run_convert_bytes_back (P := Tryd.prog) (W.alloc (.cells #[.int .u8 z] 5)) 33 9 5 ⟨W.heap.size, 0, none⟩ 1 [u] Tryd.underlying33 Tryd.underlying5 Tryd.underlying9
    (fun j hj => by
      have hj0 : j = 0 := by simp at hj; omega
      subst hj0
      rw [show (⟨W.heap.size, 0, none⟩ : Addr).add 0 = ⟨W.heap.size, 0, none⟩ from rfl, cell_of_row _ _ 0 _ _ _ (heap_alloc_new W _)]
      rw [hz]; rfl)
  exact this
theorem byte_of (k : Nat) (h : k < 256) : ((UInt8.ofNat k).toNat : Int) = (k : Int) := by
  rw [UInt8.toNat_ofNat']; omega
theorem rep_snoc (i : Nat) (c : UInt8) : List.replicate i c ++ [c] = List.replicate (i + 1) c := by
  rw [List.replicate_succ']
theorem size_push7 (s : ByteArray) (c : UInt8) : (s ++ { data := #[c] }).size = s.size + 1 := by
  rw [ByteArray.size_append]; rfl
theorem L_push (s : ByteArray) (c : UInt8) : L (s ++ { data := #[c] }) = L s ++ [c] := by simp [L]

set_option maxHeartbeats 4000000 in
set_option maxRecDepth 100000 in
theorem words_walk (a b : Int) (w : World) (hT : Tabs w) (ha : (Lit.int .u8 a).wf = true) (hb : (Lit.int .u8 b).wf = true) :
    Calls Tryd.prog 9 #[.int .u8 a, .int .u8 b] w fun e w' => e = .returned (.bool true) ∧ Below w.heap.size w w' := by
  obtain ⟨ha0, ha1⟩ := bounds_u8 ha
  obtain ⟨hb0, hb1⟩ := bounds_u8 hb
  clear ha hb
  obtain ⟨n, rfl⟩ := Int.eq_ofNat_of_zero_le ha0
  obtain ⟨m, rfl⟩ := Int.eq_ofNat_of_zero_le hb0
  have h2 := hT.size
  go_enter Tryd.func9, Tryd.ntmps9
  go_wp2_with fail
  refine (head_true _ hT).mono ?_
  rintro e w1 ⟨rfl, b1⟩
  have B1 := Lib.hid b1
  have hs1 := b1.size
  clear b1
  by_cases hn0 : n = 0
  · have hbn : ((n : Int) == 0) = true := by rw [hn0]; rfl
    clear hn0
    go_wp2_with fail
    go_ret
    exact ⟨rfl, B1.out⟩
  · have hbn : ((n : Int) == 0) = false := by rw [beq_eq_false_iff_ne]; omega
    go_wp2_with fail
    go_loopg [7, 8, 9, 10] n (fun g x7 x8 x9 x10 wx => ∃ (i : Nat) (s7 s8 s9 : ByteArray), i ≤ n ∧ g = n - i ∧ x10 = .int .i64 i ∧ x7 = .string s7 ∧ x8 = .string s8 ∧ x9 = .string s9 ∧ s7.size ≤ i ∧ s8.size ≤ i ∧ s9.size ≤ i ∧
      Hid (L s7 = List.replicate i (UInt8.ofNat (97 + m % 26)) ∧ L s8 = List.replicate i (UInt8.ofNat (65 + m % 26)) ∧ L s9 = List.replicate i (UInt8.ofNat (49 + m % 9))) ∧ Hid (Below w.heap.size w wx))
    case atStart => exact ⟨0, ⟨#[]⟩, ⟨#[]⟩, ⟨#[]⟩, by omega, rfl, rfl, rfl, rfl, rfl, Nat.le_refl _, Nat.le_refl _, Nat.le_refl _, Lib.hid ⟨rfl, rfl, rfl⟩, B1⟩
    case round =>
      obtain ⟨i, s7, s8, s9, hi, rfl, rfl, rfl, rfl, rfl, z7, z8, z9, HR, HB⟩ := hrel
      have hszr := HB.out.size
      by_cases hlt : i < n
      · have hm1 : m % 26 < 26 := Nat.mod_lt _ (by decide)
        have hm2 : m % 9 < 9 := Nat.mod_lt _ (by decide)
        have cv1 := conv1 wr (97 + (m : Int) % 26) (UInt8.ofNat (97 + m % 26)) wr.heap.size rfl (by rw [byte_of _ (by omega)]; omega)
        have cv2 := conv1 (wr.alloc (.cells #[.int .u8 (97 + (m : Int) % 26)] 5)) (65 + (m : Int) % 26) (UInt8.ofNat (65 + m % 26)) (wr.heap.size + 1) (by simp) (by rw [byte_of _ (by omega)]; omega)
        have cv3 := conv1 ((wr.alloc (.cells #[.int .u8 (97 + (m : Int) % 26)] 5)).alloc (.cells #[.int .u8 (65 + (m : Int) % 26)] 5)) (49 + (m : Int) % 9) (UInt8.ofNat (49 + m % 9)) (wr.heap.size + 1 + 1) (by simp) (by rw [byte_of _ (by omega)]; omega)
        obtain ⟨u1, hu1⟩ : ∃ u1, u1 = UInt8.ofNat (97 + m % 26) := ⟨_, rfl⟩
        obtain ⟨u2, hu2⟩ : ∃ u2, u2 = UInt8.ofNat (65 + m % 26) := ⟨_, rfl⟩
        obtain ⟨u3, hu3⟩ : ∃ u3, u3 = UInt8.ofNat (49 + m % 9) := ⟨_, rfl⟩
        rw [← hu1] at cv1
        rw [← hu2] at cv2
        rw [← hu3] at cv3
        have HU := Lib.hid (And.intro hu1 (And.intro hu2 hu3))
        clear hm1 hm2 hu1 hu2 hu3
        go_wp2_with fail
        clear cv1 cv2 cv3
        go_roundg (n - (i + 1))
        case measure => omega
        case rel =>
          obtain ⟨r1, r2, r3⟩ := HR.out
          refine ⟨i + 1, s7 ++ { data := #[u1] }, s8 ++ { data := #[u2] }, s9 ++ { data := #[u3] }, by omega, rfl, by go_num, rfl, rfl, rfl, ?_, ?_, ?_, Lib.hid ⟨?_, ?_, ?_⟩, Lib.hid ?_⟩
          · rw [size_push7]; omega
          · rw [size_push7]; omega
          · rw [size_push7]; omega
          · rw [L_push, r1, HU.out.1, rep_snoc]
          · rw [L_push, r2, HU.out.2.1, rep_snoc]
          · rw [L_push, r3, HU.out.2.2, rep_snoc]
          · exact ((HB.out.alloc hszr _).alloc (by simp; omega) _).alloc (by simp; omega) _
      · have hge : n ≤ i := by omega
        obtain rfl : i = n := by omega
        obtain ⟨r1, r2, r3⟩ := HR.out
        have hm1 : m % 26 < 26 := Nat.mod_lt _ (by decide)
        have hm2 : m % 9 < 9 := Nat.mod_lt _ (by decide)
        have hn2 : i ≤ 255 := by omega
        have c1 : cls (UInt8.ofNat (97 + m % 26)).toNat = 2 := by rw [UInt8.toNat_ofNat', Nat.mod_eq_of_lt (by omega)]; exact cls_low _ hm1
        have c2 : cls (UInt8.ofNat (65 + m % 26)).toNat = 4 := by rw [UInt8.toNat_ofNat', Nat.mod_eq_of_lt (by omega)]; exact cls_up _ hm1
        have c3 : cls (UInt8.ofNat (49 + m % 9)).toNat = 8 := by rw [UInt8.toNat_ofNat', Nat.mod_eq_of_lt (by omega)]; exact cls_dig _ hm2
        have c4 : UInt8.ofNat (49 + m % 9) ≠ 48 := by
          intro h
          have := congrArg UInt8.toNat h
          rw [UInt8.toNat_ofNat', Nat.mod_eq_of_lt (by omega)] at this
          have h48 : (48 : UInt8).toNat = 48 := rfl
          omega
        have l1 := words_lower i _ hn0 hn2 c1
        have l2 := words_upper i _ hn0 hn2 c2
        have l3 := words_digit i _ hn0 hn2 c3 c4
        have l4 := words_zero i _ hn0 hn2 c3
        rw [← r1] at l1
        rw [← r2] at l2
        rw [← r3] at l3 l4
        have HL1 := Lib.hid l1
        have HL2 := Lib.hid l2
        have HL3 := Lib.hid l3
        have HL4 : Hid (lexS (L ({ data := #[48] } ++ s9)) = ([], 61, 0)) := Lib.hid (by rw [show L ({ data := #[48] } ++ s9) = 48 :: L s9 from by simp [L]]; exact l4)
        clear l1 l2 l3 l4 c1 c2 c3 c4 r1 r2 r3 hm1 hm2 HR
        have hT1 : Tabs wr := hT.below h2 HB.out
        have C1 : Calls Tryd.prog 16 #[.string s7, .int .i64 1, .bool (decide ((i : Int) ≤ 16))] wr fun e w' => e = .returned (.bool true) ∧ Below wr.heap.size wr w' := by
          by_cases h : i ≤ 16
          · rw [decide_eq_true (show (i : Int) ≤ 16 by omega)]; exact one_yes s7 1 1 rfl wr hT1 (by rw [HL1.out, if_pos h])
          · rw [decide_eq_false (show ¬ (i : Int) ≤ 16 by omega)]; exact one_no s7 1 wr hT1 (by rw [HL1.out, if_neg h])
        have C2 : ∀ W : World, Tabs W → Calls Tryd.prog 16 #[.string s8, .int .i64 2, .bool ((i : Int) == 3)] W fun e w' => e = .returned (.bool true) ∧ Below W.heap.size W w' := by
          intro W hW
          by_cases h : i = 3
          · rw [show ((i : Int) == 3) = true from by rw [beq_iff_eq]; omega]; exact one_yes s8 2 2 rfl W hW (by rw [HL2.out, if_pos h])
          · rw [show ((i : Int) == 3) = false from by rw [beq_eq_false_iff_ne]; omega]; exact one_no s8 2 W hW (by rw [HL2.out, if_neg h])
        have C3 : ∀ W : World, Tabs W → Calls Tryd.prog 16 #[.string s9, .int .i64 3, .bool (decide ((i : Int) ≤ 12))] W fun e w' => e = .returned (.bool true) ∧ Below W.heap.size W w' := by
          intro W hW
          by_cases h : i ≤ 12
          · rw [decide_eq_true (show (i : Int) ≤ 12 by omega)]; exact one_yes s9 3 3 rfl W hW (by rw [HL3.out, if_pos h])
          · rw [decide_eq_false (show ¬ (i : Int) ≤ 12 by omega)]; exact one_no s9 3 W hW (by rw [HL3.out, if_neg h])
        have C4 : ∀ W : World, Tabs W → Calls Tryd.prog 16 #[.string ({ data := #[48] } ++ s9), .int .i64 3, .bool false] W fun e w' => e = .returned (.bool true) ∧ Below W.heap.size W w' :=
          fun W hW => one_no _ 3 W hW HL4.out
        have H1 := Lib.hid C1
        have H2 := Lib.hid C2
        have H3 := Lib.hid C3
        have H4 := Lib.hid C4
        clear C1 C2 C3 C4
        go_wp2_with fail
        refine H1.out.mono ?_
        rintro e w2 ⟨rfl, b2⟩
        have B2 : Hid (Below w.heap.size w w2) := Lib.hid (HB.out.trans (b2.mono hszr))
        have hs2 := B2.out.size
        clear b2
        go_wp2_with fail
        refine (H2.out _ (hT.below h2 B2.out)).mono ?_
        rintro e w3 ⟨rfl, b3⟩
        have B3 : Hid (Below w.heap.size w w3) := Lib.hid (B2.out.trans (b3.mono hs2))
        have hs3 := B3.out.size
        clear b3
        go_wp2_with fail
        refine (H3.out _ (hT.below h2 B3.out)).mono ?_
        rintro e w4 ⟨rfl, b4⟩
        have B4 : Hid (Below w.heap.size w w4) := Lib.hid (B3.out.trans (b4.mono hs3))
        have hs4 := B4.out.size
        clear b4
        go_wp2_with fail
        refine (H4.out _ (hT.below h2 B4.out)).mono ?_
        rintro e w5 ⟨rfl, b5⟩
        have B5 : Hid (Below w.heap.size w w5) := Lib.hid (B4.out.trans (b5.mono hs4))
        clear b5
        go_wp2_with fail
        go_ret
        exact ⟨rfl, B5.out⟩
end Go.Proofs.YtfgngakdhedcgaaDoor
