/- Plain lemmas on what the lexer yields and returns. -/
import Derived.Test.YtfgngakdhedcgaaDoorLexP
namespace LexS

theorem symN_pos (t : List UInt8) (ys : List (List UInt8)) (h : (symN t ys).1 ≠ 0) (hy : ∀ y ∈ ys, 1 ≤ y.length) : 1 ≤ (symN t ys).2 ∧ (symN t ys).2 ≤ t.length := by
  induction ys with
  | nil => simp [symN] at h
  | cons y ys ih =>
    rw [symN] at h ⊢
    by_cases hp : y.isPrefixOf t = true
    · rw [if_pos hp]
      exact ⟨hy y (by simp), (List.isPrefixOf_iff_prefix.1 hp).length_le⟩
    · rw [if_neg hp] at h ⊢
      exact ih h (fun y' h' => hy y' (by simp [h']))
theorem isB_span (m : Nat) (t : List UInt8) (h : isB m t = true) : 1 ≤ spanN m t := by
  cases t with
  | nil => simp [isB] at h
  | cons c t => have h' : cin m c = true := h; rw [spanN_cons, if_pos h']; omega
theorem cin_sub (c : UInt8) (m m' : Nat) (h : cin m c = true) (hs : ∀ k, k = 0 ∨ k = 1 ∨ k = 2 ∨ k = 4 ∨ k = 8 ∨ k = 16 → (k &&& m) ≠ 0 → (k &&& m') ≠ 0) : cin m' c = true := by
  unfold cin at h ⊢
  rw [bne_iff_ne] at h ⊢
  refine hs _ ?_ h
  unfold cls
  repeat (split; simp)
  simp
theorem isB_sub (t : List UInt8) (m m' : Nat) (h : isB m t = true) (hs : ∀ k, k = 0 ∨ k = 1 ∨ k = 2 ∨ k = 4 ∨ k = 8 ∨ k = 16 → (k &&& m) ≠ 0 → (k &&& m') ≠ 0) : isB m' t = true := by
  cases t with
  | nil => simp [isB] at h
  | cons c t => exact cin_sub c m m' h hs
theorem isB_len (m : Nat) (t : List UInt8) (k : Nat) (h : isB m (t.drop k) = true) : k < t.length := by
  rcases Nat.lt_or_ge k t.length with hk | hk
  · exact hk
  · rw [List.drop_eq_nil_of_le hk] at h; simp [isB] at h
theorem figs_pos (t : List UInt8) (h8 : isB 8 t = true) (h : (figs t).1 ≠ 0) : 1 ≤ (figs t).2 ∧ (figs t).2 ≤ t.length := by
  have hd := isB_span 8 t h8
  have hl := span_le 8 t
  unfold figs at h ⊢
  simp only at h ⊢
  by_cases h1 : isDate t = true
  · rw [if_pos h1] at h ⊢
    by_cases h2 : free (t.drop 10) = true
    · rw [if_pos h2]
      have : 10 ≤ t.length := by unfold isDate at h1; simp at h1; exact h1.1
      exact ⟨by simp, this⟩
    · rw [if_neg h2] at h; simp at h
  · rw [if_neg h1] at h ⊢
    by_cases h2 : t.head? = some 48 ∧ 1 < spanN 8 t
    · rw [if_pos h2] at h; simp at h
    · rw [if_neg h2] at h ⊢
      by_cases h3 : (t.drop (spanN 8 t)).head? = some 46
      · rw [if_pos h3] at h ⊢
        by_cases h4 : 10 < spanN 8 t ∨ isB 8 (t.drop (spanN 8 t + 1)) = false ∨ isB 8 (t.drop (spanN 8 t + 2)) = false
        · rw [if_pos h4] at h; simp at h
        · rw [if_neg h4] at h ⊢
          by_cases h5 : free (t.drop (spanN 8 t + 3)) = true
          · rw [if_pos h5]
            have h6 : isB 8 (t.drop (spanN 8 t + 2)) = true := by
              cases hh : isB 8 (t.drop (spanN 8 t + 2)) with
              | true => rfl
              | false => exact absurd (.inr (.inr hh)) h4
            have := isB_len 8 t _ h6
            exact ⟨by simp, by simp only; omega⟩
          · rw [if_neg h5] at h; simp at h
      · rw [if_neg h3] at h ⊢
        by_cases h4 : 12 < spanN 8 t
        · rw [if_pos h4] at h; simp at h
        · rw [if_neg h4] at h ⊢
          by_cases h5 : free (t.drop (spanN 8 t)) = true
          · rw [if_pos h5]; exact ⟨hd, hl⟩
          · rw [if_neg h5] at h; simp at h
theorem read_pos (t : List UInt8) (h : (readN t).1 ≠ 0) : 1 ≤ (readN t).2 ∧ (readN t).2 ≤ t.length := by
  have hl := span_le 30 t
  unfold readN at h ⊢
  by_cases h2 : isB 2 t = true
  · have hd := isB_span 30 t (isB_sub t 2 30 h2 (by intro k hk; rcases hk with rfl | rfl | rfl | rfl | rfl | rfl <;> decide))
    rw [if_pos h2] at h ⊢
    by_cases hc : spanN 30 t ≤ 16 ∧ spanN 26 t = spanN 30 t
    · rw [if_pos hc]; exact ⟨hd, hl⟩
    · rw [if_neg hc] at h; simp at h
  · rw [if_neg h2] at h ⊢
    by_cases h4 : isB 4 t = true
    · have hd := isB_span 30 t (isB_sub t 4 30 h4 (by intro k hk; rcases hk with rfl | rfl | rfl | rfl | rfl | rfl <;> decide))
      rw [if_pos h4] at h ⊢
      by_cases hc : spanN 30 t = 3 ∧ spanN 4 t = spanN 30 t
      · rw [if_pos hc]; exact ⟨hd, hl⟩
      · rw [if_neg hc] at h; simp at h
    · rw [if_neg h4] at h ⊢
      by_cases h8 : isB 8 t = true
      · rw [if_pos h8] at h ⊢; exact figs_pos t h8 h
      · rw [if_neg h8] at h ⊢; exact symN_pos t syms h (by decide)

/-- the rest of what is yielded, from an offset behind a gap on -/
def yieldAt (s : List UInt8) (k : Nat) : List Tok := yieldF (s.length - k) k (s.drop k)

theorem yieldF_fuel (n m o : Nat) (t : List UInt8) (hn : t.length ≤ n) (hm : t.length ≤ m) : yieldF n o t = yieldF m o t := by
  induction n generalizing m o t with
  | zero =>
    have : t = [] := by cases t with | nil => rfl | cons c t => simp at hn
    subst this
    cases m with
    | zero => rfl
    | succ m => simp [yieldF]
  | succ n ih =>
    cases m with
    | zero =>
      have : t = [] := by cases t with | nil => rfl | cons c t => simp at hm
      subst this; simp [yieldF]
    | succ m =>
      rw [yieldF, yieldF]
      by_cases ht : t = []
      · rw [if_pos ht, if_pos ht]
      · rw [if_neg ht, if_neg ht]
        by_cases hz : (readN t).1 = 0
        · rw [if_pos hz, if_pos hz]
        · rw [if_neg hz, if_neg hz]
          have hp := read_pos t hz
          refine congrArg _ (ih m _ _ ?_ ?_)
          · simp only [List.length_drop]; omega
          · simp only [List.length_drop]; omega
theorem yieldAt_end (s : List UInt8) (k : Nat) (h : s.length ≤ k) : yieldAt s k = [] := by
  unfold yieldAt
  rw [show s.length - k = 0 from by omega]; rfl
theorem yieldAt_err (s : List UInt8) (k : Nat) (h : k < s.length) (hz : (readN (s.drop k)).1 = 0) : yieldAt s k = [(0, [], k)] := by
  unfold yieldAt
  obtain ⟨n, hn⟩ : ∃ n, s.length - k = n + 1 := ⟨s.length - k - 1, by omega⟩
  rw [hn, yieldF, if_neg (by intro e; have := congrArg List.length e; simp at this; omega), if_pos hz]
theorem yieldAt_tok (s : List UInt8) (k : Nat) (h : k < s.length) (hz : (readN (s.drop k)).1 ≠ 0) :
    yieldAt s k = ((readN (s.drop k)).1, (s.drop k).take (readN (s.drop k)).2, k) :: yieldAt s (k + (readN (s.drop k)).2 + skipN (s.drop (k + (readN (s.drop k)).2))) := by
  have hp := read_pos _ hz
  rw [List.length_drop] at hp
  unfold yieldAt
  obtain ⟨n, hn⟩ : ∃ n, s.length - k = n + 1 := ⟨s.length - k - 1, by omega⟩
  rw [hn, yieldF, if_neg (by intro e; have := congrArg List.length e; simp at this; omega), if_neg hz]
  refine congrArg _ ?_
  rw [List.drop_drop, List.drop_drop]
  refine yieldF_fuel _ _ _ _ ?_ ?_
  · rw [List.length_drop]; omega
  · rw [List.length_drop]; omega
theorem yields_at (s : List UInt8) : yields s = yieldAt s (skipN s) := by
  unfold yields yieldAt
  exact yieldF_fuel _ _ _ _ (by rw [List.length_drop]; omega) (by rw [List.length_drop]; omega)

/-- what Lex makes of what is yielded: the tokens, the error and its offset -/
def lexOut : List Tok → List Tok → List Tok × Nat × Nat
  | acc, [] => (acc, 0, 0)
  | acc, x :: r => if acc.length = 2000 then ([], 2, x.2.2) else if x.1 = 0 then ([], 61, x.2.2) else lexOut (acc ++ [x]) r

def lexS (s : List UInt8) : List Tok × Nat × Nat := if 6000 < s.length then ([], 2, 0) else lexOut [] (yields s)

/-- tokens that have been collected -/
def GoodT (l : List Tok) : Prop := l.length ≤ 2000 ∧ ∀ x ∈ l, x.1 ≠ 0
theorem lexOut_good (acc q r : List Tok) (h : GoodT (acc ++ q)) : lexOut acc (q ++ r) = lexOut (acc ++ q) r := by
  induction q generalizing acc with
  | nil => simp
  | cons x q ih =>
    rw [List.cons_append, lexOut]
    have h1 := h.1
    rw [List.length_append, List.length_cons] at h1
    rw [if_neg (by omega), if_neg (h.2 x (by simp))]
    have := ih (acc ++ [x]) (by simpa using h)
    simpa using this
end LexS
