/- Plain laws of the lexer: the tokens of a source that is cut; the errors. -/
import Derived.Test.YtfgngakdhedcgaaDoorLexQ
namespace LexS

theorem take_drop (s : List UInt8) (n k : Nat) : (s.take n).drop k = (s.drop k).take (n - k) := List.drop_take ..

/-- what is yielded from k on: each token lies behind k, in the source; its text is there -/
theorem yield_bounds (s : List UInt8) (l : List Tok) (k : Nat) (h : yieldAt s k = l) : ∀ x ∈ l, k ≤ x.2.2 ∧ x.2.2 < s.length ∧ x.2.2 + x.2.1.length ≤ s.length ∧ x.2.1 = (s.drop x.2.2).take x.2.1.length ∧ (x.1 ≠ 0 → 1 ≤ x.2.1.length ∧ readN (s.drop x.2.2) = (x.1, x.2.1.length)) := by
  induction l generalizing k with
  | nil => intro x hx; simp at hx
  | cons y l ih =>
    intro x hx
    rcases Nat.lt_or_ge k s.length with hk | hk
    · by_cases hz : (readN (s.drop k)).1 = 0
      · rw [yieldAt_err s k hk hz] at h
        injection h with h1 h2
        subst h1; subst h2
        simp at hx
        subst hx
        exact ⟨Nat.le_refl _, hk, by simp; omega, by simp, fun hh => absurd rfl hh⟩
      · have hp := read_pos _ hz
        rw [List.length_drop] at hp
        rw [yieldAt_tok s k hk hz] at h
        injection h with h1 h2
        rcases List.mem_cons.1 hx with rfl | hx'
        · rw [← h1]
          simp only
          have hl : ((s.drop k).take (readN (s.drop k)).2).length = (readN (s.drop k)).2 := by rw [List.length_take, List.length_drop]; omega
          rw [hl]
          exact ⟨Nat.le_refl _, hk, by omega, rfl, fun _ => ⟨by omega, rfl⟩⟩
        · have := ih _ h2 x hx'
          exact ⟨by omega, this.2⟩
    · rw [yieldAt_end s k hk] at h; cases h

theorem yield_cut (s : List UInt8) (n : Nat) (x : Tok) (rest : List Tok) (hx : x.1 ≠ 0) (hn : x.2.2 + x.2.1.length ≤ n) (hs : skipN ((s.take n).drop (x.2.2 + x.2.1.length)) = (s.take n).length - (x.2.2 + x.2.1.length))
    (pre : List Tok) (k : Nat) (h : yieldAt s k = pre ++ x :: rest) : yieldAt (s.take n) k = pre ++ [x] := by
  induction pre generalizing k with
  | nil =>
    rcases Nat.lt_or_ge k s.length with hk | hk
    · by_cases hz : (readN (s.drop k)).1 = 0
      · rw [yieldAt_err s k hk hz] at h
        injection h with h1 h2
        exact absurd (by rw [← h1]) hx
      · have hp := read_pos _ hz
        rw [List.length_drop] at hp
        rw [yieldAt_tok s k hk hz] at h
        injection h with h1 h2
        have hl : ((s.drop k).take (readN (s.drop k)).2).length = (readN (s.drop k)).2 := by rw [List.length_take, List.length_drop]; omega
        rw [← h1] at hn hs
        simp only at hn hs
        rw [hl] at hn hs
        have hr : readN ((s.take n).drop k) = readN (s.drop k) := by
          rw [take_drop]
          have := read_cut (s.drop k) [] (n - k) sep_nil hz (by omega)
          simpa using this
        have hkn : k < (s.take n).length := by rw [List.length_take]; omega
        rw [yieldAt_tok (s.take n) k hkn (by rw [hr]; exact hz), hr, hs, yieldAt_end _ _ (by omega), ← h1, take_drop, List.take_take, Nat.min_eq_left (by omega)]
        rfl
    · rw [yieldAt_end s k hk] at h; cases h
  | cons y pre ih =>
    rcases Nat.lt_or_ge k s.length with hk | hk
    · by_cases hz : (readN (s.drop k)).1 = 0
      · rw [yieldAt_err s k hk hz] at h
        have := congrArg List.length h
        simp at this
      · have hp := read_pos _ hz
        rw [List.length_drop] at hp
        rw [yieldAt_tok s k hk hz, List.cons_append] at h
        injection h with h1 h2
        have hb := yield_bounds s _ _ h2 x (by simp)
        have hr : readN ((s.take n).drop k) = readN (s.drop k) := by
          rw [take_drop]
          have := read_cut (s.drop k) [] (n - k) sep_nil hz (by omega)
          simpa using this
        have hsk : skipN ((s.take n).drop (k + (readN (s.drop k)).2)) = skipN (s.drop (k + (readN (s.drop k)).2)) := by
          rw [take_drop]; exact skip_take _ _ (by omega)
        have hkn : k < (s.take n).length := by rw [List.length_take]; omega
        rw [yieldAt_tok (s.take n) k hkn (by rw [hr]; exact hz), hr, hsk, ih _ h2, ← h1, take_drop, List.take_take, Nat.min_eq_left (by omega)]
        rfl
    · rw [yieldAt_end s k hk] at h; cases h

/-- the next token begins behind the gap behind this one -/
theorem yield_next (s : List UInt8) (pre : List Tok) (y x : Tok) (rest : List Tok) (k : Nat) (h : yieldAt s k = pre ++ y :: x :: rest) : y.1 ≠ 0 ∧ x.2.2 = y.2.2 + y.2.1.length + skipN (s.drop (y.2.2 + y.2.1.length)) := by
  induction pre generalizing k with
  | nil =>
    rcases Nat.lt_or_ge k s.length with hk | hk
    · by_cases hz : (readN (s.drop k)).1 = 0
      · rw [yieldAt_err s k hk hz] at h
        have := congrArg List.length h
        simp at this
      · have hp := read_pos _ hz
        rw [List.length_drop] at hp
        rw [yieldAt_tok s k hk hz] at h
        injection h with h1 h2
        have hl : ((s.drop k).take (readN (s.drop k)).2).length = (readN (s.drop k)).2 := by rw [List.length_take, List.length_drop]; omega
        rw [← h1]
        simp only
        rw [hl]
        refine ⟨hz, ?_⟩
        rcases Nat.lt_or_ge (k + (readN (s.drop k)).2 + skipN (s.drop (k + (readN (s.drop k)).2))) s.length with hk2 | hk2
        · by_cases hz2 : (readN (s.drop (k + (readN (s.drop k)).2 + skipN (s.drop (k + (readN (s.drop k)).2))))).1 = 0
          · rw [yieldAt_err s _ hk2 hz2] at h2
            injection h2 with h3 h4
            rw [← h3]
          · rw [yieldAt_tok s _ hk2 hz2] at h2
            injection h2 with h3 h4
            rw [← h3]
        · rw [yieldAt_end s _ hk2] at h2; cases h2
    · rw [yieldAt_end s k hk] at h; cases h
  | cons z pre ih =>
    rcases Nat.lt_or_ge k s.length with hk | hk
    · by_cases hz : (readN (s.drop k)).1 = 0
      · rw [yieldAt_err s k hk hz] at h
        have := congrArg List.length h
        simp at this
      · rw [yieldAt_tok s k hk hz, List.cons_append] at h
        injection h with h1 h2
        exact ih _ h2
    · rw [yieldAt_end s k hk] at h; cases h

/-- the two ways of what is yielded: all are tokens within the limit, or one of them makes an error -/
theorem out_cases (l : List Tok) : (GoodT l ∧ lexOut [] l = (l, 0, 0)) ∨ ∃ q x r e, l = q ++ x :: r ∧ GoodT q ∧ ((q.length = 2000 ∧ e = 2) ∨ (q.length < 2000 ∧ x.1 = 0 ∧ e = 61)) ∧ lexOut [] l = ([], e, x.2.2) := by
  have main : ∀ (r q : List Tok), GoodT q → (GoodT (q ++ r) ∧ lexOut q r = (q ++ r, 0, 0)) ∨ ∃ q' x r' e, q ++ r = q' ++ x :: r' ∧ GoodT q' ∧ ((q'.length = 2000 ∧ e = 2) ∨ (q'.length < 2000 ∧ x.1 = 0 ∧ e = 61)) ∧ lexOut q r = ([], e, x.2.2) := by
    intro r
    induction r with
    | nil => intro q hq; left; simp only [List.append_nil, lexOut]; exact ⟨hq, trivial⟩
    | cons x r ih =>
      intro q hq
      rw [lexOut]
      by_cases h1 : q.length = 2000
      · right; rw [if_pos h1]; exact ⟨q, x, r, 2, rfl, hq, .inl ⟨h1, rfl⟩, rfl⟩
      · rw [if_neg h1]
        have hq1 := hq.1
        by_cases h2 : x.1 = 0
        · right; rw [if_pos h2]; exact ⟨q, x, r, 61, rfl, hq, .inr ⟨by omega, h2, rfl⟩, rfl⟩
        · rw [if_neg h2]
          have hg : GoodT (q ++ [x]) := by
            refine ⟨by rw [List.length_append, List.length_singleton]; omega, fun y hy => ?_⟩
            rcases List.mem_append.1 hy with h | h
            · exact hq.2 y h
            · rw [List.mem_singleton] at h; rw [h]; exact h2
          have := ih (q ++ [x]) hg
          simpa using this
  simpa using main l [] ⟨by simp, by simp⟩

theorem lexS_len (s : List UInt8) : (lexS s).1.length ≤ 2000 := by
  unfold lexS
  split
  · simp
  · rcases out_cases (yields s) with ⟨h, e⟩ | ⟨q, x, r, e, _, _, _, h⟩
    · rw [e]; exact h.1
    · rw [h]; simp

/-- the source up to the offset of a token, or of an error, has the tokens before it -/
theorem yields_before (s : List UInt8) (q : List Tok) (x : Tok) (r : List Tok) (h : yields s = q ++ x :: r) : yields (s.take x.2.2) = q ∧ x.2.2 < s.length := by
  rw [yields_at] at h
  have hb := yield_bounds s _ _ h x (by simp)
  refine ⟨?_, hb.2.1⟩
  rw [yields_at]
  have hsk : skipN (s.take x.2.2) = skipN s := skip_take _ _ hb.1
  rw [hsk]
  rcases List.eq_nil_or_concat q with rfl | ⟨q', y, rfl⟩
  · -- the first token
    have hx : x.2.2 = skipN s := by
      rcases Nat.lt_or_ge (skipN s) s.length with hk | hk
      · by_cases hz : (readN (s.drop (skipN s))).1 = 0
        · rw [yieldAt_err s _ hk hz] at h; injection h with h1 h2; rw [← h1]
        · rw [yieldAt_tok s _ hk hz] at h; injection h with h1 h2; rw [← h1]
      · rw [yieldAt_end s _ hk] at h; cases h
    rw [yieldAt_end _ _ (by rw [List.length_take]; omega)]
  · rw [List.concat_eq_append, List.append_assoc, List.singleton_append] at h
    have hy := yield_next s q' y x r _ h
    have hb2 := yield_bounds s _ _ h y (by simp)
    rw [List.concat_eq_append]
    refine yield_cut s x.2.2 y (x :: r) hy.1 (by omega) ?_ q' _ h
    rw [take_drop, skip_take _ _ (by omega), List.length_take]
    omega

/-- P6.6 -/
theorem errors_plain (s : List UInt8) (hs : s.length ≤ 6000) : ((lexS s).2.1 = 0 ∧ (lexS s).2.2 = 0) ∨
    ((lexS s).1 = [] ∧ (lexS s).2.2 < s.length ∧ ∃ m, lexS (s.take (lexS s).2.2) = (m, 0, 0) ∧ m.length ≤ 2000 ∧ ((lexS s).2.1 = 61 ∨ ((lexS s).2.1 = 2 ∧ m.length = 2000))) := by
  have e1 : lexS s = lexOut [] (yields s) := by unfold lexS; rw [if_neg (by omega)]
  rcases out_cases (yields s) with ⟨h, e⟩ | ⟨q, x, r, e, hq, hg, hc, h⟩
  · left; rw [e1, e]; exact ⟨rfl, rfl⟩
  · right
    rw [e1, h]
    have hb := yields_before s q x r hq
    simp only
    refine ⟨trivial, hb.2, q, ?_, hg.1, ?_⟩
    · unfold lexS
      rw [if_neg (by rw [List.length_take]; omega), hb.1]
      have := lexOut_good [] q [] (by simpa using hg)
      simpa [lexOut] using this
    · rcases hc with ⟨h1, h2⟩ | ⟨h1, h2, h3⟩
      · exact .inr ⟨h2, h1⟩
      · exact .inl h3
end LexS
