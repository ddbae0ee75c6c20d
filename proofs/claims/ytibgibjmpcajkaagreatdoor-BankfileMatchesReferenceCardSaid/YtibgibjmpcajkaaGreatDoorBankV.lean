/- The walks of file, validPayment, validAnswer. -/
import Derived.Test.YtibgibjmpcajkaaGreatDoorBankM
namespace Go.Proofs.YtibgibjmpcajkaaGreatDoor
open Go.RowKit BankS

theorem join_any (v : Value) (xs : List ByteArray) (sep : ByteArray) (w : World) (hR : Rd strC 1 w v xs) (hn : xs.length ≤ 1000) (hl : (Lib.join (xs.map L) (L sep)).length ≤ 100000000) :
    Calls Tryz.prog 32 #[v, .string sep] w (RetStr (Lib.join (xs.map L) (L sep)) w) := by
  obtain ⟨A, cap, rfl, hc, _, hx⟩ := hR
  cases xs with
  | nil =>
    refine (Tryz.strings_Join_none A cap sep w).mono ?_
    rintro e w' ⟨rfl, rfl⟩
    exact RetStr.mk rfl (Below.refl _ _)
  | cons x r =>
    obtain ⟨g, o, rfl, hg, hcell⟩ := hx (by simp)
    refine (Tryz.strings_Join g o cap (x :: r) sep w (fun j y hy => hcell j _ ?_) hg (by omega) hc (by show (Lib.join ((x :: r).map L) (L sep)).length ≤ _; omega)).mono ?_
    · have := cellsL_at strC 1 (fun _ => rfl) (x :: r) j 0 y (.string y) hy rfl
      rw [Nat.mul_one, Nat.add_zero] at this
      exact this
    · rintro e w' ⟨rfl, b⟩
      exact RetStr.mk rfl b

theorem dec_small (n : Nat) (h : n < 1000000000000000) : (Lib.decDigits n).length ≤ 15 := by
  rw [Lib.decDigits_length]
  have h1 : ∀ k, n < 10 ^ k → Lib.nDigits n ≤ max 1 k := by
    intro k hk
    induction n using Nat.strongRecOn generalizing k with
    | ind n ih =>
      by_cases h10 : n < 10
      · rw [Lib.nDigits_small h10]; omega
      · rw [Lib.nDigits_big h10]
        cases k with
        | zero => simp at hk; omega
        | succ k =>
          have h2 : n / 10 < 10 ^ k := by rw [Nat.pow_succ] at hk; omega
          have := ih (n / 10) (by omega) (by omega) k h2
          by_cases hk0 : k = 0
          · subst hk0; simp at h2; omega
          · omega
  exact h1 15 (by simpa using h)

set_option maxHeartbeats 1000000 in
theorem file_any (word : ByteArray) (v : Value) (xs : List ByteArray) (sum : Int) (w : World) (hT : Tabs w) (hR : Rd strC 1 w v xs) (hw : word.size ≤ 100) (hn : xs.length ≤ 400) (hl : (Lib.join (xs.map L) [10]).length ≤ 1000000)
    (h0 : 0 ≤ sum) (h1 : sum < 1000000000000000) :
    Calls Tryz.prog 33 #[.string word, v, .int .i64 sum] w (RetStr (file (L word) (xs.map L) sum.toNat) w) := by
  obtain ⟨k, rfl⟩ := Int.eq_ofNat_of_zero_le h0
  rw [Int.toNat_natCast]
  have HB : Hid (file (L word) (xs.map L) k = body (L word) (xs.map L) ++ last k (chk (body (L word) (xs.map L)))) := Lib.hid rfl
  have HBB : Hid (body (L word) (xs.map L) = L word ++ 32 :: Lib.decDigits xs.length ++ [10] ++ (if xs = [] then [] else Lib.join (xs.map L) [10] ++ [10])) := Lib.hid (by
    unfold body
    rw [List.length_map]
    by_cases hx : xs = []
    · subst hx; rfl
    · rw [if_neg hx, if_neg (by simpa using hx)])
  have hlk := dec_small k (by omega)
  have hll := dec_small xs.length (by omega)
  have HR := Lib.hid hR
  obtain ⟨A, cap, rfl, hcap, _, _⟩ := hR
  go_enter Tryz.func33, Tryz.ntmps33
  go_wp2_with fail
  refine (itoa_any _ _ hT (by omega) (by omega)).mono ?_
  rintro e w1 ⟨ds, rfl, HD, B1⟩
  rw [Int.toNat_natCast] at HD
  have hs1 := B1.out.size
  have hT1 := hT.below B1.out
  have hds : ds.size ≤ 15 := by rw [← L_len, HD.out]; exact hll
  have HR1 := Lib.hid (HR.out.below B1.out)
  by_cases hx : xs = []
  · have HX := Lib.hid hx
    have hx0 : ¬ 0 < xs.length := by rw [hx]; simp
    clear hx
    go_wp2_with fail
    refine (itoa_any _ _ hT1 (by omega) (by omega)).mono ?_
    rintro e w2 ⟨ss, rfl, HS, b2⟩
    rw [Int.toNat_natCast] at HS
    have hss : ss.size ≤ 15 := by rw [← L_len, HS.out]; exact hlk
    have B2 : Hid (Below w.heap.size w w2) := Lib.hid (B1.out.trans (b2.out.mono hs1))
    clear b2
    have hs2 := B2.out.size
    have hT2 := hT.below B2.out
    obtain ⟨bd, hbd⟩ : ∃ bd, bd = word ++ { data := #[32] } ++ ds ++ { data := #[10] } := ⟨_, rfl⟩
    have hbs : bd.size ≤ 200 := by rw [hbd]; simp; show word.size + 1 + ds.size + 1 ≤ 200; omega
    have HBD : Hid (L bd = body (L word) (xs.map L)) := Lib.hid (by
      rw [hbd, HBB.out, if_pos HX.out, L_app, L_app, L_app, HD.out, List.append_nil, List.append_assoc (L word)]
      rfl)
    go_wp2_with fail
    rw [← hbd]
    have HBD2 := Lib.hid hbd
    clear hbd
    refine (check_any bd _ hT2 (by unfold maxLen; omega)).mono ?_
    rintro e w3 ⟨cs, rfl, HC, b3⟩
    have hcs : cs.size ≤ 3 := by rw [← L_len, HC.out, pad_len3 _ (chk_lt _)]; exact Nat.le_refl _
    have B3 : Hid (Below w.heap.size w w3) := Lib.hid (B2.out.trans (b3.out.mono hs2))
    clear b3
    go_wp2_with fail
    go_ret
    refine RetStr.mk ?_ B3.out
    rw [HB.out, L_app, L_app, L_app, L_app, L_app, HC.out, HS.out, HBD.out]
    unfold last
    simp
    rfl
  · have hx0 : 0 < xs.length := List.length_pos_iff.2 hx
    go_wp2_with fail
    refine (join_any _ xs { data := #[10] } _ HR1.out (by omega) (by show (Lib.join (xs.map L) [10]).length ≤ _; omega)).mono ?_
    rintro e w2 ⟨js, rfl, HJ, b2⟩
    have hjs : js.size ≤ 1000000 := by rw [← L_len, HJ.out]; exact hl
    have B2 : Hid (Below w.heap.size w w2) := Lib.hid (B1.out.trans (b2.out.mono hs1))
    clear b2
    have hs2 := B2.out.size
    have hT2 := hT.below B2.out
    go_wp2_with fail
    refine (itoa_any _ _ hT2 (by omega) (by omega)).mono ?_
    rintro e w3 ⟨ss, rfl, HS, b3⟩
    rw [Int.toNat_natCast] at HS
    have hss : ss.size ≤ 15 := by rw [← L_len, HS.out]; exact hlk
    have B3 : Hid (Below w.heap.size w w3) := Lib.hid (B2.out.trans (b3.out.mono hs2))
    clear b3
    have hs3 := B3.out.size
    have hT3 := hT.below B3.out
    obtain ⟨bd, hbd⟩ : ∃ bd, bd = word ++ { data := #[32] } ++ ds ++ { data := #[10] } ++ (js ++ { data := #[10] }) := ⟨_, rfl⟩
    have hbs : bd.size ≤ 1000200 := by rw [hbd]; simp; show word.size + 1 + ds.size + 1 + (js.size + 1) ≤ 1000200; omega
    have HBD : Hid (L bd = body (L word) (xs.map L)) := Lib.hid (by
      rw [hbd, HBB.out, if_neg hx, L_app, L_app, L_app, L_app, L_app, HD.out, HJ.out, List.append_assoc (L word)]
      rfl)
    go_wp2_with fail
    rw [← hbd]
    have HBD2 := Lib.hid hbd
    clear hbd
    refine (check_any bd _ hT3 (by unfold maxLen; omega)).mono ?_
    rintro e w4 ⟨cs, rfl, HC, b4⟩
    have hcs : cs.size ≤ 3 := by rw [← L_len, HC.out, pad_len3 _ (chk_lt _)]; exact Nat.le_refl _
    have B4 : Hid (Below w.heap.size w w4) := Lib.hid (B3.out.trans (b4.out.mono hs3))
    clear b4
    go_wp2_with fail
    go_ret
    refine RetStr.mk ?_ B4.out
    rw [HB.out, L_app, L_app, L_app, L_app, L_app, HC.out, HS.out, HBD.out]
    unfold last
    simp
    rfl
end Go.Proofs.YtibgibjmpcajkaaGreatDoor
