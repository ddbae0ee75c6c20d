/- The walks of the reference lexer's functions that return tokens. -/
import Derived.Test.YtfgngakdhedcgaaDoorLexR
namespace Go.Proofs.YtfgngakdhedcgaaDoor
open Go.RowKit LexS

/-- what a function returns that reads a token: r is the kind and the length of the token at the head of t, which lies at offset k -/
def TokRet (r : Nat × Nat) (t : List UInt8) (k : Nat) (w : World) (e : Ending) (w' : World) : Prop :=
  ∃ (q : Int) (tx : ByteArray) (o : Int) (ok : Bool), e = .returned (.tuple #[.agg #[.int .i64 q, .string tx, .int .i64 o], .bool ok]) ∧
    (ok = true → r.1 ≠ 0 ∧ q = (r.1 : Int) ∧ L tx = t.take r.2 ∧ o = (k : Int)) ∧ (ok = false → r.1 = 0) ∧ Below w.heap.size w w'

theorem span_in (m : Nat) (t : List UInt8) (j : Nat) (x : UInt8) (hj : j < spanN m t) (hx : t[j]? = some x) : cin m x = true := by
  induction t generalizing j with
  | nil => simp at hx
  | cons c t ih =>
    rw [spanN_cons] at hj
    by_cases hc : cin m c = true
    · rw [if_pos hc] at hj
      cases j with
      | zero => simp at hx; rw [← hx]; exact hc
      | succ j => exact ih j (by omega) (by simpa using hx)
    · rw [if_neg hc] at hj; omega
theorem span_sub (m : Nat) (hm : ∀ c, cin m c = true → cin 30 c = true) (t : List UInt8) : spanN m t = spanN 30 t ↔ ∀ j x, j < spanN 30 t → t[j]? = some x → cin m x = true := by
  induction t with
  | nil => simp [spanN_nil]
  | cons c t ih =>
    rw [spanN_cons, spanN_cons]
    by_cases hc : cin 30 c = true
    · rw [if_pos hc]
      by_cases hcm : cin m c = true
      · rw [if_pos hcm]
        constructor
        · intro h j x hj hx
          have h' : spanN m t = spanN 30 t := by omega
          cases j with
          | zero => simp at hx; rw [← hx]; exact hcm
          | succ j => exact (ih.1 h') j x (by omega) (by simpa using hx)
        · intro h
          have : spanN m t = spanN 30 t := ih.2 (fun j x hj hx => h (j + 1) x (by omega) (by simpa using hx))
          omega
      · rw [if_neg hcm]
        constructor
        · intro h; omega
        · intro h; exact absurd (h 0 c (by omega) rfl) hcm
    · rw [if_neg hc, if_neg (fun h => hc (hm c h))]
      simp
theorem cin26 (c : UInt8) : cin 26 c = (cin 30 c && !cin 4 c) := by
  unfold cin cls
  generalize c.toNat = n
  repeat' split
  all_goals rfl
theorem sub26 (c : UInt8) (h : cin 26 c = true) : cin 30 c = true := by rw [cin26] at h; simp at h; exact h.1
theorem sub4 (c : UInt8) (h : cin 4 c = true) : cin 30 c = true := by rw [cin30, h]; simp

set_option maxHeartbeats 2000000 in
theorem name_any (s : ByteArray) (a : Int) (w : World) (hs : s.size ≤ 6000) (h0 : 0 ≤ a) (ha : a < s.size) :
    Calls Tryd.prog 30 #[.string s, .int .i64 a] w
      (TokRet (if spanN 30 ((L s).drop a.toNat) ≤ 16 ∧ spanN 26 ((L s).drop a.toNat) = spanN 30 ((L s).drop a.toNat) then (1, spanN 30 ((L s).drop a.toNat)) else (0, 0)) ((L s).drop a.toNat) a.toNat w) := by
  obtain ⟨k, rfl⟩ := Int.eq_ofNat_of_zero_le h0
  rw [Int.toNat_natCast]
  have hk : k < s.size := by omega
  clear ha
  have HS := Lib.hid (span_sub 26 sub26 ((L s).drop k))
  have HIN := Lib.hid (span_in 30 ((L s).drop k))
  obtain ⟨d, hd⟩ : ∃ d, d = spanN 30 ((L s).drop k) := ⟨_, rfl⟩
  have hdl : k + d ≤ s.size := by rw [hd]; have := span_le 30 ((L s).drop k); rw [len_drop] at this; omega
  rw [← hd] at HS HIN ⊢
  have HD := Lib.hid hd
  clear hd
  generalize hr : (if d ≤ 16 ∧ spanN 26 ((L s).drop k) = d then (1, d) else (0, 0) : Nat × Nat) = r
  have HR := Lib.hid hr
  clear hr
  go_enter Tryd.func30, Tryd.ntmps30
  go_wp2_with fail
  refine (rrun_any s _ _ (by omega) (by omega)).mono ?_
  rintro e w' ⟨rfl, rfl⟩
  rw [Int.toNat_natCast, ← HD.out]
  go_wp2_with fail
  go_loopg [7] d (fun g x wx => ∃ i : Nat, w.alloc (.cells #[.int .i64 0, .string { data := #[] }, .int .i64 0] 30) = wx ∧ k ≤ i ∧ i ≤ k + d ∧ g = k + d - i ∧ Hid (∀ j x, k + j < i → ((L s).drop k)[j]? = some x → cin 4 x = false) ∧ x = .int .i64 i)
  case atStart => exact ⟨k, rfl, Nat.le_refl _, by omega, by omega, Lib.hid (fun j x h => by omega), rfl⟩
  case round =>
    obtain ⟨i, rfl, hki, hid, rfl, HI, rfl⟩ := hrel
    by_cases hlt : i < k + d
    · have his : i < s.size := by omega
      have hget : ((L s).drop k)[i - k]? = some s[i] := by
        have := at_get s k (i - k) (by omega)
        rw [this]; congr 1; congr 1; omega
      have HG := Lib.hid hget
      clear hget
      cases hb : cin 4 s[i] with
      | true =>
        have HB := Lib.hid hb
        clear hb
        go_wp2_with fail
        refine (upper_any _ _).mono ?_
        rintro e w' ⟨rfl, rfl⟩
        rw [HB.out]
        go_wp2_with fail
        refine bodyPost_ret (v := .tuple #[.agg #[.int .i64 0, .string { data := #[] }, .int .i64 0], .bool false]) (by simp [results, Tryd.results30, go_sem]) rfl ?_
        refine ⟨_, _, _, _, rfl, by simp, fun _ => ?_, (Below.refl _ _).alloc (Nat.le_refl _) _⟩
        rw [← HR.out, if_neg]
        rintro ⟨_, h⟩
        have := (HS.out.1 h) (i - k) s[i] (by omega) HG.out
        rw [cin26, HB.out] at this
        simp at this
      | false =>
        have HB := Lib.hid hb
        clear hb
        go_wp2_with fail
        refine (upper_any _ _).mono ?_
        rintro e w' ⟨rfl, rfl⟩
        rw [HB.out]
        go_wp2_with fail
        go_roundg (k + d - (i + 1))
        case measure => omega
        case rel =>
          refine ⟨i + 1, rfl, by omega, by omega, rfl, Lib.hid ?_, by go_num⟩
          intro j x hj hx
          by_cases hji : k + j < i
          · exact HI.out j x hji hx
          · have : j = i - k := by omega
            subst this
            rw [HG.out] at hx
            rw [← Option.some.inj hx]
            exact HB.out
    · have hge : k + d ≤ i := by omega
      have HE : Hid (spanN 26 ((L s).drop k) = d) := by
        refine Lib.hid (HS.out.2 ?_)
        intro j x hj hx
        rw [cin26, HIN.out j x hj hx, HI.out j x (by omega) hx]
        rfl
      go_wp2_with fail
      refine bodyPost_ret (v := .tuple #[.agg #[.int .i64 1, .string (s.extract k (k + d)), .int .i64 k], .bool (decide ((k : Int) + (d : Int) - (k : Int) ≤ 16))]) (by simp [results, Tryd.results30, go_sem]) rfl ?_
      refine ⟨_, _, _, _, rfl, fun h => ?_, fun h => ?_, ?_⟩
      · rw [decide_eq_true_eq] at h
        rw [← HR.out, if_pos ⟨by omega, HE.out⟩]
        refine ⟨by simp, rfl, ?_, rfl⟩
        show (s.extract k (k + d)).data.toList = _
        rw [Lib.extract_data, show k + d - k = d from by omega]
      · rw [decide_eq_false_iff_not] at h
        rw [← HR.out, if_neg (fun hh => h (by omega))]
      · exact (Below.refl _ _).alloc (Nat.le_refl _) _
set_option maxHeartbeats 2000000 in
theorem cur_any (s : ByteArray) (a : Int) (w : World) (hs : s.size ≤ 6000) (h0 : 0 ≤ a) (ha : a < s.size) :
    Calls Tryd.prog 32 #[.string s, .int .i64 a] w
      (TokRet (if spanN 30 ((L s).drop a.toNat) = 3 ∧ spanN 4 ((L s).drop a.toNat) = spanN 30 ((L s).drop a.toNat) then (2, spanN 30 ((L s).drop a.toNat)) else (0, 0)) ((L s).drop a.toNat) a.toNat w) := by
  obtain ⟨k, rfl⟩ := Int.eq_ofNat_of_zero_le h0
  rw [Int.toNat_natCast]
  have hk : k < s.size := by omega
  clear ha
  have HS := Lib.hid (span_sub 4 sub4 ((L s).drop k))
  obtain ⟨d, hd⟩ : ∃ d, d = spanN 30 ((L s).drop k) := ⟨_, rfl⟩
  have hdl : k + d ≤ s.size := by rw [hd]; have := span_le 30 ((L s).drop k); rw [len_drop] at this; omega
  rw [← hd] at HS ⊢
  have HD := Lib.hid hd
  clear hd
  generalize hr : (if d = 3 ∧ spanN 4 ((L s).drop k) = d then (2, d) else (0, 0) : Nat × Nat) = r
  have HR := Lib.hid hr
  clear hr
  go_enter Tryd.func32, Tryd.ntmps32
  go_wp2_with fail
  refine (rrun_any s _ _ (by omega) (by omega)).mono ?_
  rintro e w' ⟨rfl, rfl⟩
  rw [Int.toNat_natCast, ← HD.out]
  go_wp2_with fail
  go_loopg [7] d (fun g x wx => ∃ i : Nat, w.alloc (.cells #[.int .i64 0, .string { data := #[] }, .int .i64 0] 30) = wx ∧ k ≤ i ∧ i ≤ k + d ∧ g = k + d - i ∧ Hid (∀ j x, k + j < i → ((L s).drop k)[j]? = some x → cin 4 x = true) ∧ x = .int .i64 i)
  case atStart => exact ⟨k, rfl, Nat.le_refl _, by omega, by omega, Lib.hid (fun j x h => by omega), rfl⟩
  case round =>
    obtain ⟨i, rfl, hki, hid, rfl, HI, rfl⟩ := hrel
    by_cases hlt : i < k + d
    · have his : i < s.size := by omega
      have hget : ((L s).drop k)[i - k]? = some s[i] := by
        have := at_get s k (i - k) (by omega)
        rw [this]; congr 1; congr 1; omega
      have HG := Lib.hid hget
      clear hget
      cases hb : cin 4 s[i] with
      | true =>
        have HB := Lib.hid hb
        clear hb
        go_wp2_with fail
        refine (upper_any _ _).mono ?_
        rintro e w' ⟨rfl, rfl⟩
        rw [HB.out]
        go_wp2_with fail
        go_roundg (k + d - (i + 1))
        case measure => omega
        case rel =>
          refine ⟨i + 1, rfl, by omega, by omega, rfl, Lib.hid ?_, by go_num⟩
          intro j x hj hx
          by_cases hji : k + j < i
          · exact HI.out j x hji hx
          · have : j = i - k := by omega
            subst this
            rw [HG.out] at hx
            rw [← Option.some.inj hx]
            exact HB.out
      | false =>
        have HB := Lib.hid hb
        clear hb
        go_wp2_with fail
        refine (upper_any _ _).mono ?_
        rintro e w' ⟨rfl, rfl⟩
        rw [HB.out]
        go_wp2_with fail
        refine bodyPost_ret (v := .tuple #[.agg #[.int .i64 0, .string { data := #[] }, .int .i64 0], .bool false]) (by simp [results, Tryd.results32, go_sem]) rfl ?_
        refine ⟨_, _, _, _, rfl, by simp, fun _ => ?_, (Below.refl _ _).alloc (Nat.le_refl _) _⟩
        rw [← HR.out, if_neg]
        rintro ⟨_, h⟩
        have := (HS.out.1 h) (i - k) s[i] (by omega) HG.out
        rw [HB.out] at this
        cases this
    · have hge : k + d ≤ i := by omega
      have HE : Hid (spanN 4 ((L s).drop k) = d) := by
        refine Lib.hid (HS.out.2 ?_)
        intro j x hj hx
        exact HI.out j x (by omega) hx
      go_wp2_with fail
      refine bodyPost_ret (v := .tuple #[.agg #[.int .i64 2, .string (s.extract k (k + d)), .int .i64 k], .bool (((k : Int) + (d : Int) - (k : Int)) == 3)]) (by simp [results, Tryd.results32, go_sem]) rfl ?_
      refine ⟨_, _, _, _, rfl, fun h => ?_, fun h => ?_, ?_⟩
      · rw [beq_iff_eq] at h
        rw [← HR.out, if_pos ⟨by omega, HE.out⟩]
        refine ⟨by simp, rfl, ?_, rfl⟩
        show (s.extract k (k + d)).data.toList = _
        rw [Lib.extract_data, show k + d - k = d from by omega]
      · rw [beq_eq_false_iff_ne] at h
        rw [← HR.out, if_neg (fun hh => h (by omega))]
      · exact (Below.refl _ _).alloc (Nat.le_refl _) _
end Go.Proofs.YtfgngakdhedcgaaDoor
