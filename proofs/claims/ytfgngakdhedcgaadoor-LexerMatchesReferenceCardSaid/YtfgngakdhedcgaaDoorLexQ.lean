/- Plain laws of the lexer: what is read does not change where the text is cut behind it or goes on with white space. -/
import Derived.Test.YtfgngakdhedcgaaDoorLexP2
namespace LexS

/-- what may follow a token: nothing, or white space -/
def Sep (u : List UInt8) : Prop := u = [] ∨ ∃ c u', u = c :: u' ∧ cin 1 c = true
theorem sep_nil : Sep [] := .inl rfl
theorem white_cls (c : UInt8) (h : cin 1 c = true) : cls c.toNat = 1 ∧ (c = 32 ∨ c = 9 ∨ c = 10 ∨ c = 13) := by
  unfold cin at h
  rw [bne_iff_ne] at h
  by_cases h1 : c.toNat = 32 ∨ c.toNat = 9 ∨ c.toNat = 10 ∨ c.toNat = 13
  · refine ⟨by unfold cls; rw [if_pos h1], ?_⟩
    rcases h1 with h1 | h1 | h1 | h1
    · exact .inl (UInt8.toNat_inj.1 h1)
    · exact .inr (.inl (UInt8.toNat_inj.1 h1))
    · exact .inr (.inr (.inl (UInt8.toNat_inj.1 h1)))
    · exact .inr (.inr (.inr (UInt8.toNat_inj.1 h1)))
  · exfalso; apply h
    unfold cls
    rw [if_neg h1]
    repeat (split; simp)
    simp
theorem white_not (c : UInt8) (m : Nat) (h : cin 1 c = true) (hm : (1 &&& m) = 0) : cin m c = false := by
  unfold cin; rw [(white_cls c h).1, hm]; rfl
theorem sep_span (u : List UInt8) (m : Nat) (h : Sep u) (hm : (1 &&& m) = 0) : spanN m u = 0 := by
  rcases h with rfl | ⟨c, u', rfl, hc⟩
  · rfl
  · rw [spanN_cons, white_not c m hc hm]; rfl
theorem sep_isB (u : List UInt8) (m : Nat) (h : Sep u) (hm : (1 &&& m) = 0) : isB m u = false := by
  rcases h with rfl | ⟨c, u', rfl, hc⟩
  · rfl
  · exact white_not c m hc hm

theorem span_cut (m : Nat) (t u : List UInt8) (n : Nat) (hm : (1 &&& m) = 0) (hu : Sep u) (hn : spanN m t ≤ n) : spanN m (t.take n ++ u) = spanN m t := by
  induction t generalizing n with
  | nil => simpa [spanN_nil] using sep_span u m hu hm
  | cons c t ih =>
    rw [spanN_cons] at hn ⊢
    by_cases hc : cin m c = true
    · rw [if_pos hc] at hn ⊢
      obtain ⟨n', rfl⟩ : ∃ n', n = n' + 1 := ⟨n - 1, by omega⟩
      rw [List.take_succ_cons, List.cons_append, spanN_cons, if_pos hc, ih n' (by omega)]
    · rw [if_neg hc]
      cases n with
      | zero => simpa using sep_span u m hu hm
      | succ n => rw [List.take_succ_cons, List.cons_append, spanN_cons, if_neg hc]
theorem isB_cut (m : Nat) (t u : List UInt8) (n : Nat) (hn : 1 ≤ n) (ht : t ≠ []) : isB m (t.take n ++ u) = isB m t := by
  cases t with
  | nil => exact absurd rfl ht
  | cons c t =>
    obtain ⟨n', rfl⟩ : ∃ n', n = n' + 1 := ⟨n - 1, by omega⟩
    rfl
theorem drop_cut (t u : List UInt8) (n k : Nat) (h1 : k ≤ n) (h2 : k ≤ t.length) : (t.take n ++ u).drop k = (t.drop k).take (n - k) ++ u := by
  rw [List.drop_append_of_le_length (by rw [List.length_take]; omega), List.drop_take]
theorem free_cut (t u : List UInt8) (n : Nat) (hu : Sep u) (h : free t = true) : free (t.take n ++ u) = true := by
  have hfu : free u = true := by
    rcases hu with rfl | ⟨c, u', rfl, hc⟩
    · rfl
    · unfold free
      rw [show isB 30 (c :: u') = false from white_not c 30 hc rfl]
      rcases (white_cls c hc).2 with h | h | h | h <;> subst h <;> rfl
  cases t with
  | nil => simpa using hfu
  | cons c t =>
    cases n with
    | zero => simpa using hfu
    | succ n => exact h
theorem head_cut (t u : List UInt8) (n : Nat) (hu : Sep u) (c : UInt8) (hc : cin 1 c = false) (h : t.head? ≠ some c) : (t.take n ++ u).head? ≠ some c := by
  have hfu : u.head? ≠ some c := by
    rcases hu with rfl | ⟨c', u', rfl, hc'⟩
    · simp
    · intro e
      simp at e
      subst e
      rw [hc] at hc'
      cases hc'
  cases t with
  | nil => simpa using hfu
  | cons d t =>
    cases n with
    | zero => simpa using hfu
    | succ n => exact h
theorem head_same (t u : List UInt8) (n : Nat) (hn : 1 ≤ n) (ht : t ≠ []) : (t.take n ++ u).head? = t.head? := by
  cases t with
  | nil => exact absurd rfl ht
  | cons d t =>
    obtain ⟨n', rfl⟩ : ∃ n', n = n' + 1 := ⟨n - 1, by omega⟩
    rfl
theorem dateAt_cut (t u : List UInt8) (n i : Nat) (h1 : i < n) (h2 : i < t.length) : dateAt (t.take n ++ u) i = dateAt t i := by
  unfold dateAt
  split
  · rw [List.getElem?_append_left (by rw [List.length_take]; omega), List.getElem?_take, if_pos h1]
  · rw [drop_cut t u n i (by omega) (by omega), isB_cut 8 _ u _ (by omega) (by intro e; have := congrArg List.length e; simp at this; omega)]
theorem dateAt_sep (t u : List UInt8) (n i : Nat) (hu : Sep u) (hi : i = (t.take n).length) : dateAt (t.take n ++ u) i = false := by
  subst hi
  unfold dateAt
  split
  · rw [List.getElem?_append_right (Nat.le_refl _), Nat.sub_self]
    rcases hu with rfl | ⟨c, u', rfl, hc⟩
    · rfl
    · rcases (white_cls c hc).2 with h | h | h | h <;> subst h <;> rfl
  · rw [List.drop_left]; exact sep_isB u 8 hu rfl
theorem date_iff (t : List UInt8) : isDate t = true ↔ 10 ≤ t.length ∧ ∀ i, i < 10 → dateAt t i = true := by
  unfold isDate
  simp [List.all_eq_true]
theorem date_cut_yes (t u : List UInt8) (n : Nat) (hn : 10 ≤ n) (h : isDate t = true) : isDate (t.take n ++ u) = true := by
  rw [date_iff] at h ⊢
  refine ⟨by simp; omega, fun i hi => ?_⟩
  rw [dateAt_cut t u n i (by omega) (by omega)]
  exact h.2 i hi
theorem date_cut_no (t u : List UInt8) (n : Nat) (hu : Sep u) (h : isDate t = false) : isDate (t.take n ++ u) = false := by
  rw [Bool.eq_false_iff] at h ⊢
  intro h'
  apply h
  rw [date_iff] at h' ⊢
  have hlen : 10 ≤ (t.take n).length := by
    rcases Nat.lt_or_ge (t.take n).length 10 with hlt | hge
    · have := h'.2 _ hlt
      rw [dateAt_sep t u n _ hu rfl] at this
      cases this
    · exact hge
  rw [List.length_take] at hlen
  refine ⟨by omega, fun i hi => ?_⟩
  rw [← dateAt_cut t u n i (by omega) (by omega)]
  exact h'.2 i hi

theorem drop_ne (t : List UInt8) (k : Nat) (h : k < t.length) : t.drop k ≠ [] := by
  intro e; have := congrArg List.length e; simp at this; omega
theorem head_len (t : List UInt8) (c : UInt8) (k : Nat) (h : (t.drop k).head? = some c) : k < t.length := by
  rcases Nat.lt_or_ge k t.length with hk | hk
  · exact hk
  · rw [List.drop_eq_nil_of_le hk] at h; simp at h

theorem figs_cut (t u : List UInt8) (n : Nat) (hu : Sep u) (h8 : isB 8 t = true) (h : (figs t).1 ≠ 0) (hn : (figs t).2 ≤ n) : figs (t.take n ++ u) = figs t := by
  have hd := isB_span 8 t h8
  have hl := span_le 8 t
  have hp := figs_pos t h8 h
  have ht : t ≠ [] := by intro e; subst e; simp [isB] at h8
  have e0 : ∀ d, d = spanN 8 t → figs t =
    if isDate t then (if free (t.drop 10) then (5, 10) else (0, 0))
    else if t.head? = some 48 ∧ 1 < d then (0, 0)
    else if (t.drop d).head? = some 46 then
      (if 10 < d ∨ isB 8 (t.drop (d + 1)) = false ∨ isB 8 (t.drop (d + 2)) = false then (0, 0)
       else if free (t.drop (d + 3)) then (4, d + 3) else (0, 0))
    else if 12 < d then (0, 0)
    else if free (t.drop d) then (3, d) else (0, 0) := by intro d hd; subst hd; rfl
  by_cases h1 : isDate t = true
  · have hf : free (t.drop 10) = true ∧ figs t = (5, 10) := by
      rw [e0 _ rfl, if_pos h1] at h ⊢
      by_cases h2 : free (t.drop 10) = true
      · exact ⟨h2, by rw [if_pos h2]⟩
      · rw [if_neg h2] at h; simp at h
    rw [hf.2] at hn ⊢
    have hlen : 10 ≤ t.length := ((date_iff t).1 h1).1
    unfold figs
    simp only
    simp only at hn
    rw [date_cut_yes t u n hn h1, if_pos rfl, drop_cut t u n 10 hn hlen, free_cut _ u _ hu hf.1, if_pos rfl]
  · have h1' : isDate t = false := by simpa using h1
    have hv := date_cut_no t u n hu h1'
    obtain ⟨d, hdd⟩ : ∃ d, d = spanN 8 t := ⟨_, rfl⟩
    have e1 := e0 d hdd
    rw [if_neg h1] at e1
    by_cases h2 : t.head? = some 48 ∧ 1 < d
    · rw [e1, if_pos h2] at h; simp at h
    · rw [if_neg h2] at e1
      by_cases h3 : (t.drop d).head? = some 46
      · rw [if_pos h3] at e1
        by_cases h4 : 10 < d ∨ isB 8 (t.drop (d + 1)) = false ∨ isB 8 (t.drop (d + 2)) = false
        · rw [e1, if_pos h4] at h; simp at h
        · rw [if_neg h4] at e1
          by_cases h5 : free (t.drop (d + 3)) = true
          · rw [if_pos h5] at e1
            rw [e1] at hn hp ⊢
            simp only at hn hp
            have hs : spanN 8 (t.take n ++ u) = d := by rw [span_cut 8 t u n rfl hu (by omega)]; exact hdd.symm
            have i1 : isB 8 ((t.take n ++ u).drop (d + 1)) = isB 8 (t.drop (d + 1)) := by
              rw [drop_cut t u n _ (by omega) (by omega), isB_cut 8 _ u _ (by omega) (drop_ne t _ (by omega))]
            have i2 : isB 8 ((t.take n ++ u).drop (d + 2)) = isB 8 (t.drop (d + 2)) := by
              rw [drop_cut t u n _ (by omega) (by omega), isB_cut 8 _ u _ (by omega) (drop_ne t _ (by omega))]
            unfold figs
            simp only
            rw [hv, if_neg (by simp), hs, head_same t u n (by omega) ht, if_neg h2, drop_cut t u n d (by omega) (by omega), head_same _ u _ (by omega) (drop_ne t _ (by omega)), if_pos h3, i1, i2, if_neg h4, drop_cut t u n (d + 3) (by omega) (by omega), free_cut _ u _ hu h5, if_pos rfl]
          · rw [e1, if_neg h5] at h; simp at h
      · rw [if_neg h3] at e1
        by_cases h4 : 12 < d
        · rw [e1, if_pos h4] at h; simp at h
        · rw [if_neg h4] at e1
          by_cases h5 : free (t.drop d) = true
          · rw [if_pos h5] at e1
            rw [e1] at hn hp ⊢
            simp only at hn hp
            have hs : spanN 8 (t.take n ++ u) = d := by rw [span_cut 8 t u n rfl hu (by omega)]; exact hdd.symm
            unfold figs
            simp only
            rw [hv, if_neg (by simp), hs, head_same t u n (by omega) ht, if_neg h2, drop_cut t u n d (by omega) (by omega), if_neg (head_cut _ u _ hu 46 rfl h3), if_neg h4, free_cut _ u _ hu h5, if_pos rfl]
          · rw [e1, if_neg h5] at h; simp at h

theorem prefix_cut (y t u : List UInt8) (n : Nat) (hu : Sep u) (hy : ∀ c ∈ y, cin 1 c = false) (h : y.isPrefixOf (t.take n ++ u) = true) : y.isPrefixOf t = true := by
  rw [List.isPrefixOf_iff_prefix] at h ⊢
  rcases Nat.lt_or_ge (t.take n).length y.length with hlt | hge
  · exfalso
    rcases hu with rfl | ⟨c, u', rfl, hc⟩
    · have := h.length_le; simp only [List.append_nil] at this; omega
    · have hg : (t.take n ++ c :: u')[(t.take n).length]? = some c := by rw [List.getElem?_append_right (Nat.le_refl _), Nat.sub_self]; rfl
      obtain ⟨z, hz⟩ := h
      rw [← hz, List.getElem?_append_left hlt] at hg
      have := hy c (List.mem_of_getElem? hg)
      rw [this] at hc; cases hc
  · have h1 : y <+: t.take n := List.prefix_of_prefix_length_le h (List.prefix_append _ _) hge
    exact h1.trans (List.take_prefix n t)
theorem symN_cut (t u : List UInt8) (n : Nat) (hu : Sep u) (ys : List (List UInt8)) (hy : ∀ y ∈ ys, ∀ c ∈ y, cin 1 c = false) (h : (symN t ys).1 ≠ 0) (hn : (symN t ys).2 ≤ n) : symN (t.take n ++ u) ys = symN t ys := by
  induction ys with
  | nil => rfl
  | cons y ys ih =>
    rw [symN] at h hn
    rw [symN, symN]
    by_cases hp : y.isPrefixOf t = true
    · rw [if_pos hp] at hn ⊢
      simp only at hn
      rw [if_pos]
      rw [List.isPrefixOf_iff_prefix] at hp ⊢
      have : y <+: t.take n := by
        rw [List.prefix_take_iff]; exact ⟨hp, hn⟩
      exact this.trans (List.prefix_append _ _)
    · rw [if_neg hp] at h hn ⊢
      have : ¬ y.isPrefixOf (t.take n ++ u) = true := fun hh => hp (prefix_cut y t u n hu (hy y (by simp)) hh)
      rw [if_neg this]
      exact ih (fun y' h' => hy y' (by simp [h'])) h hn

/-- what is read at the head does not change where the text is cut behind it, or goes on with white space -/
theorem read_cut (t u : List UInt8) (n : Nat) (hu : Sep u) (h : (readN t).1 ≠ 0) (hn : (readN t).2 ≤ n) : readN (t.take n ++ u) = readN t := by
  have hp := read_pos t h
  have ht : t ≠ [] := by intro e; subst e; simp at hp; omega
  have hi : ∀ m, isB m (t.take n ++ u) = isB m t := fun m => isB_cut m t u n (by omega) ht
  unfold readN at h hn ⊢
  rw [hi 2, hi 4, hi 8]
  by_cases h2 : isB 2 t = true
  · rw [if_pos h2] at h hn ⊢
    rw [if_pos h2]
    by_cases hc : spanN 30 t ≤ 16 ∧ spanN 26 t = spanN 30 t
    · rw [if_pos hc] at hn ⊢
      simp only at hn
      rw [span_cut 30 t u n rfl hu hn, span_cut 26 t u n rfl hu (by rw [hc.2]; exact hn), if_pos hc]
    · rw [if_neg hc] at h; simp at h
  · rw [if_neg h2] at h hn ⊢
    rw [if_neg h2]
    by_cases h4 : isB 4 t = true
    · rw [if_pos h4] at h hn ⊢
      rw [if_pos h4]
      by_cases hc : spanN 30 t = 3 ∧ spanN 4 t = spanN 30 t
      · rw [if_pos hc] at hn ⊢
        simp only at hn
        rw [span_cut 30 t u n rfl hu hn, span_cut 4 t u n rfl hu (by rw [hc.2]; exact hn), if_pos hc]
      · rw [if_neg hc] at h; simp at h
    · rw [if_neg h4] at h hn ⊢
      rw [if_neg h4]
      by_cases h8 : isB 8 t = true
      · rw [if_pos h8] at h hn ⊢
        rw [if_pos h8]
        exact figs_cut t u n hu h8 h hn
      · rw [if_neg h8] at h hn ⊢
        rw [if_neg h8]
        exact symN_cut t u n hu syms (by decide) h hn

theorem gap_take (b : Bool) (t : List UInt8) (n : Nat) (h : gapN b t ≤ n) : gapN b (t.take n) = gapN b t := by
  induction t generalizing b n with
  | nil => simp
  | cons c t ih =>
    cases n with
    | zero => have : gapN b (c :: t) = 0 := by omega
              rw [this]; rfl
    | succ n =>
      rw [List.take_succ_cons]
      rw [gapN] at h ⊢
      conv => rhs; rw [gapN]
      by_cases hb : b = true
      · rw [if_pos hb] at h ⊢
        rw [if_pos hb]
        by_cases hc : c = 10
        · rw [if_pos hc] at h ⊢; rw [if_pos hc, ih false n (by omega)]
        · rw [if_neg hc] at h ⊢; rw [if_neg hc, ih true n (by omega)]
      · rw [if_neg hb] at h ⊢
        rw [if_neg hb]
        by_cases hw : cin 1 c = true
        · rw [if_pos hw] at h ⊢; rw [if_pos hw, ih false n (by omega)]
        · rw [if_neg hw] at h ⊢
          rw [if_neg hw]
          by_cases hs : c = 47 ∧ t.head? = some 47
          · rw [if_pos hs] at h
            have h1 : 1 ≤ n := by
              cases t with
              | nil => simp at hs
              | cons d t => simp at hs; obtain ⟨_, rfl⟩ := hs; rw [gapN] at h; simp at h; omega
            have h2 : (t.take n).head? = t.head? := by
              cases t with
              | nil => simp at hs
              | cons d t => obtain ⟨n', rfl⟩ : ∃ n', n = n' + 1 := ⟨n - 1, by omega⟩; rfl
            rw [h2, if_pos hs, if_pos hs, ih true n (by omega)]
          · rw [if_neg hs, if_neg]
            rintro ⟨h1, h2⟩
            apply hs
            refine ⟨h1, ?_⟩
            cases t with
            | nil => simp at h2
            | cons d t =>
              cases n with
              | zero => simp at h2
              | succ n => simpa using h2
theorem skip_take (t : List UInt8) (n : Nat) (h : skipN t ≤ n) : skipN (t.take n) = skipN t := gap_take false t n h
end LexS
