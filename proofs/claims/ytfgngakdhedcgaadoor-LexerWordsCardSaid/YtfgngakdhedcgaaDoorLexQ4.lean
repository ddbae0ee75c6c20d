/- Plain laws of the lexer: words of equal letters or digits. -/
import Derived.Test.YtfgngakdhedcgaaDoorLexQ3
namespace LexS

theorem lex_one (s : List UInt8) (q : Nat) (hs : s ≠ []) (hl : s.length ≤ 6000) (hk : skipN s = 0) (hq : q ≠ 0) (hr : readN s = (q, s.length)) : lexS s = ([(q, s, 0)], 0, 0) := by
  have hpos : 0 < s.length := by cases s with | nil => exact absurd rfl hs | cons c s => simp
  refine lexS_good s _ hl ?_ ⟨by simp, by simpa using hq⟩
  rw [yields_at, hk, yieldAt_tok s 0 hpos (by rw [List.drop_zero, hr]; exact hq), List.drop_zero, hr]
  simp only
  rw [yieldAt_end s _ (by omega), List.take_length]
theorem lex_none (s : List UInt8) (hs : s ≠ []) (hl : s.length ≤ 6000) (hk : skipN s = 0) (hr : (readN s).1 = 0) : lexS s = ([], 61, 0) := by
  have hpos : 0 < s.length := by cases s with | nil => exact absurd rfl hs | cons c s => simp
  unfold lexS
  rw [if_neg (by omega), yields_at, hk, yieldAt_err s 0 hpos (by rw [List.drop_zero]; exact hr)]
  rfl

theorem span_rep (m n : Nat) (c : UInt8) : spanN m (List.replicate n c) = if cin m c then n else 0 := by
  induction n with
  | zero => simp [spanN_nil]
  | succ n ih =>
    rw [List.replicate_succ, spanN_cons, ih]
    by_cases h : cin m c = true
    · rw [if_pos h, if_pos h, if_pos h]; omega
    · rw [if_neg h, if_neg h]
theorem skip_rep (n : Nat) (c : UInt8) (h1 : cin 1 c = false) (h2 : c ≠ 47) : skipN (List.replicate n c) = 0 := by
  cases n with
  | zero => rfl
  | succ n => rw [List.replicate_succ]; unfold skipN; rw [gapN]; simp [h1, h2]
theorem isB_rep (m n : Nat) (c : UInt8) (hn : n ≠ 0) : isB m (List.replicate n c) = cin m c := by
  obtain ⟨k, rfl⟩ : ∃ k, n = k + 1 := ⟨n - 1, by omega⟩
  rfl
theorem date_rep (n : Nat) (c : UInt8) (h : c ≠ 45) : isDate (List.replicate n c) = false := by
  rw [Bool.eq_false_iff]
  intro hd
  have := ((date_iff _).1 hd).2 4 (by omega)
  unfold dateAt at this
  rw [if_pos (.inl rfl)] at this
  have hlen := ((date_iff _).1 hd).1
  rw [List.length_replicate] at hlen
  rw [List.getElem?_replicate, if_pos (by omega)] at this
  simp at this
  exact h this
theorem rep_ne (n : Nat) (c : UInt8) (hn : n ≠ 0) : List.replicate n c ≠ [] := by
  intro h; have := congrArg List.length h; simp at this; exact hn this

theorem words_lower (n : Nat) (c : UInt8) (hn : n ≠ 0) (hn2 : n ≤ 255) (hc : cls c.toNat = 2) : lexS (List.replicate n c) = if n ≤ 16 then ([(1, List.replicate n c, 0)], 0, 0) else ([], 61, 0) := by
  have k1 : cin 1 c = false := by unfold cin; rw [hc]; rfl
  have k2 : cin 2 c = true := by unfold cin; rw [hc]; rfl
  have k30 : cin 30 c = true := by unfold cin; rw [hc]; rfl
  have k26 : cin 26 c = true := by unfold cin; rw [hc]; rfl
  have h47 : c ≠ 47 := by intro e; subst e; simp [cls] at hc
  have hsk := skip_rep n c k1 h47
  have hr : readN (List.replicate n c) = if n ≤ 16 then (1, n) else (0, 0) := by
    unfold readN
    rw [isB_rep 2 n c hn, k2, if_pos rfl, span_rep, span_rep, k30, k26]
    simp
  by_cases h : n ≤ 16
  · rw [if_pos h] at hr ⊢
    exact lex_one _ 1 (rep_ne n c hn) (by simp; omega) hsk (by decide) (by rw [hr]; simp)
  · rw [if_neg h] at hr ⊢
    exact lex_none _ (rep_ne n c hn) (by simp; omega) hsk (by rw [hr])
theorem words_upper (n : Nat) (c : UInt8) (hn : n ≠ 0) (hn2 : n ≤ 255) (hc : cls c.toNat = 4) : lexS (List.replicate n c) = if n = 3 then ([(2, List.replicate n c, 0)], 0, 0) else ([], 61, 0) := by
  have k1 : cin 1 c = false := by unfold cin; rw [hc]; rfl
  have k2 : cin 2 c = false := by unfold cin; rw [hc]; rfl
  have k4 : cin 4 c = true := by unfold cin; rw [hc]; rfl
  have k30 : cin 30 c = true := by unfold cin; rw [hc]; rfl
  have h47 : c ≠ 47 := by intro e; subst e; simp [cls] at hc
  have hsk := skip_rep n c k1 h47
  have hr : readN (List.replicate n c) = if n = 3 then (2, n) else (0, 0) := by
    unfold readN
    rw [isB_rep 2 n c hn, k2, if_neg (by simp), isB_rep 4 n c hn, k4, if_pos rfl, span_rep, span_rep, k30, k4]
    simp
  by_cases h : n = 3
  · rw [if_pos h] at hr ⊢
    exact lex_one _ 2 (rep_ne n c hn) (by simp; omega) hsk (by decide) (by rw [hr]; simp)
  · rw [if_neg h] at hr ⊢
    exact lex_none _ (rep_ne n c hn) (by simp; omega) hsk (by rw [hr])
theorem words_digit (n : Nat) (c : UInt8) (hn : n ≠ 0) (hn2 : n ≤ 255) (hc : cls c.toNat = 8) (h48 : c ≠ 48) : lexS (List.replicate n c) = if n ≤ 12 then ([(3, List.replicate n c, 0)], 0, 0) else ([], 61, 0) := by
  have k1 : cin 1 c = false := by unfold cin; rw [hc]; rfl
  have k2 : cin 2 c = false := by unfold cin; rw [hc]; rfl
  have k4 : cin 4 c = false := by unfold cin; rw [hc]; rfl
  have k8 : cin 8 c = true := by unfold cin; rw [hc]; rfl
  have h47 : c ≠ 47 := by intro e; subst e; simp [cls] at hc
  have h45 : c ≠ 45 := by intro e; subst e; simp [cls] at hc
  have hsk := skip_rep n c k1 h47
  have hhd : (List.replicate n c).head? = some c := by
    obtain ⟨k, rfl⟩ : ∃ k, n = k + 1 := ⟨n - 1, by omega⟩
    rfl
  have hdr : (List.replicate n c).drop n = [] := by simp
  have hr : readN (List.replicate n c) = if n ≤ 12 then (3, n) else (0, 0) := by
    unfold readN
    rw [isB_rep 2 n c hn, k2, if_neg (by simp), isB_rep 4 n c hn, k4, if_neg (by simp), isB_rep 8 n c hn, k8, if_pos rfl]
    unfold figs
    simp only
    rw [date_rep n c h45, if_neg (by simp), span_rep, k8, if_pos rfl, hhd, if_neg (by rintro ⟨h, _⟩; exact h48 (by simpa using h)), hdr]
    by_cases h : n ≤ 12
    · rw [if_pos h, if_neg (by simp), if_neg (by omega), if_pos (show free [] = true from rfl)]
    · rw [if_neg h, if_neg (by simp), if_pos (by omega)]
  by_cases h : n ≤ 12
  · rw [if_pos h] at hr ⊢
    exact lex_one _ 3 (rep_ne n c hn) (by simp; omega) hsk (by decide) (by rw [hr]; simp)
  · rw [if_neg h] at hr ⊢
    exact lex_none _ (rep_ne n c hn) (by simp; omega) hsk (by rw [hr])
theorem words_zero (n : Nat) (c : UInt8) (hn : n ≠ 0) (hn2 : n ≤ 255) (hc : cls c.toNat = 8) : lexS (48 :: List.replicate n c) = ([], 61, 0) := by
  have k8 : cin 8 c = true := by unfold cin; rw [hc]; rfl
  have h45 : c ≠ 45 := by intro e; subst e; simp [cls] at hc
  refine lex_none _ (by simp) (by simp; omega) (by rfl) ?_
  have hd : isDate (48 :: List.replicate n c) = false := by
    rw [Bool.eq_false_iff]
    intro hd
    have := ((date_iff _).1 hd).2 4 (by omega)
    unfold dateAt at this
    rw [if_pos (.inl rfl)] at this
    have hlen := ((date_iff _).1 hd).1
    rw [List.length_cons, List.length_replicate] at hlen
    rw [List.getElem?_cons_succ, List.getElem?_replicate, if_pos (by omega)] at this
    simp at this
    exact h45 this
  unfold readN
  rw [if_neg (by rw [show isB 2 (48 :: List.replicate n c) = false from rfl]; simp), if_neg (by rw [show isB 4 (48 :: List.replicate n c) = false from rfl]; simp), if_pos (show isB 8 (48 :: List.replicate n c) = true from rfl)]
  unfold figs
  simp only
  rw [hd, if_neg (by simp), spanN_cons, if_pos (show cin 8 48 = true from rfl), span_rep, k8, if_pos rfl, if_pos ⟨rfl, by omega⟩]
end LexS
