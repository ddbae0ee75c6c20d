/- Plain laws of the lexer: prefixes, coverage, concatenation, gaps. -/
import Derived.Test.YtfgngakdhedcgaaDoorLexQ2
namespace LexS

/-- no error: the tokens are what is yielded -/
theorem lexS_ok (s : List UInt8) (h : (lexS s).2.1 = 0) : s.length ≤ 6000 ∧ yields s = (lexS s).1 ∧ GoodT (yields s) ∧ (lexS s).2.2 = 0 := by
  unfold lexS at h ⊢
  by_cases hs : 6000 < s.length
  · rw [if_pos hs] at h; simp at h
  · rw [if_neg hs] at h ⊢
    rcases out_cases (yields s) with ⟨hg, e⟩ | ⟨q, x, r, e, hq, hg, hc, he⟩
    · rw [e]; exact ⟨by omega, rfl, hg, rfl⟩
    · rw [he] at h
      simp only at h
      rcases hc with ⟨_, h2⟩ | ⟨_, _, h2⟩ <;> omega
theorem lexS_good (s : List UInt8) (l : List Tok) (hs : s.length ≤ 6000) (h : yields s = l) (hg : GoodT l) : lexS s = (l, 0, 0) := by
  unfold lexS
  rw [if_neg (by omega), h]
  have := lexOut_good [] l [] (by simpa using hg)
  simpa [lexOut] using this

/-- P6.3 -/
theorem prefixes_plain (s : List UInt8) (h : (lexS s).2.1 = 0) (k : Nat) (x : Tok) (hx : (lexS s).1[k]? = some x) :
    x.2.2 + x.2.1.length ≤ s.length ∧ lexS (s.take (x.2.2 + x.2.1.length)) = ((lexS s).1.take (k + 1), 0, 0) := by
  obtain ⟨hs, hy, hg, _⟩ := lexS_ok s h
  rw [← hy] at hx ⊢
  have hsplit : yields s = (yields s).take k ++ x :: (yields s).drop (k + 1) := by
    have hk := (List.getElem?_eq_some_iff.1 hx).1
    have hx' : (yields s)[k] = x := (List.getElem?_eq_some_iff.1 hx).2
    rw [← hx', ← List.drop_eq_getElem_cons hk, List.take_append_drop]
  have hsp := hsplit
  rw [yields_at] at hsplit
  have hb := yield_bounds s _ _ rfl x (by rw [← yields_at]; exact List.mem_of_getElem? hx)
  have hxn : x.1 ≠ 0 := hg.2 x (List.mem_of_getElem? hx)
  refine ⟨hb.2.2.1, ?_⟩
  have ht : (yields s).take (k + 1) = (yields s).take k ++ [x] := by
    rw [List.take_add_one, hx]; rfl
  refine lexS_good _ _ (by rw [List.length_take]; omega) ?_ ?_
  · rw [ht, yields_at, skip_take _ _ (by omega)]
    have := yield_cut s (x.2.2 + x.2.1.length) x ((yields s).drop (k + 1)) hxn (Nat.le_refl _) (by rw [take_drop, Nat.sub_self, List.take_zero, List.length_take, Nat.min_eq_left (by omega), Nat.sub_self]; rfl) ((yields s).take k) (skipN s)
    rw [yields_at] at this ⊢
    refine this ?_
    rw [← yields_at]
    exact hsp
  · refine ⟨by have := hg.1; rw [List.length_take]; omega, fun y hy' => hg.2 y (List.mem_of_mem_take hy')⟩

theorem gap_idem (b : Bool) (t : List UInt8) : gapN false (t.drop (gapN b t)) = 0 := by
  induction t generalizing b with
  | nil => rfl
  | cons c t ih =>
    rw [gapN]
    by_cases hb : b = true
    · rw [if_pos hb]
      by_cases hc : c = 10
      · rw [if_pos hc, Nat.add_comm, List.drop_succ_cons]; exact ih false
      · rw [if_neg hc, Nat.add_comm, List.drop_succ_cons]; exact ih true
    · rw [if_neg hb]
      by_cases hw : cin 1 c = true
      · rw [if_pos hw, Nat.add_comm, List.drop_succ_cons]; exact ih false
      · rw [if_neg hw]
        by_cases hs : c = 47 ∧ t.head? = some 47
        · rw [if_pos hs, Nat.add_comm, List.drop_succ_cons]; exact ih true
        · rw [if_neg hs, List.drop_zero, gapN, if_neg (by simp), if_neg hw, if_neg hs]
theorem skip_idem (s : List UInt8) (k : Nat) : skipN (s.drop (k + skipN (s.drop k))) = 0 := by
  have := gap_idem false (s.drop k)
  rw [List.drop_drop] at this
  exact this
/-- every token begins behind a gap -/
theorem yield_noskip (s : List UInt8) (l : List Tok) (k : Nat) (h : yieldAt s k = l) (hk : skipN (s.drop k) = 0) : ∀ x ∈ l, skipN (s.drop x.2.2) = 0 := by
  induction l generalizing k with
  | nil => intro x hx; simp at hx
  | cons y l ih =>
    intro x hx
    rcases Nat.lt_or_ge k s.length with hk' | hk'
    · by_cases hz : (readN (s.drop k)).1 = 0
      · rw [yieldAt_err s k hk' hz] at h
        injection h with h1 h2
        subst h2
        rcases List.mem_cons.1 hx with rfl | hx'
        · rw [← h1]; exact hk
        · simp at hx'
      · rw [yieldAt_tok s k hk' hz] at h
        injection h with h1 h2
        rcases List.mem_cons.1 hx with rfl | hx'
        · rw [← h1]; exact hk
        · exact ih _ h2 (skip_idem s _) x hx'
    · rw [yieldAt_end s k hk'] at h; cases h

theorem symN_kind (t : List UInt8) (ys : List (List UInt8)) : (symN t ys).1 = 0 ∨ (symN t ys).1 = 6 := by
  induction ys with
  | nil => left; rfl
  | cons y ys ih => rw [symN]; split
                    · right; rfl
                    · exact ih
theorem figs_kind (t : List UInt8) : (figs t).1 ≤ 6 := by
  unfold figs
  simp only
  repeat' split
  all_goals simp
theorem read_kind (t : List UInt8) : (readN t).1 ≤ 6 := by
  unfold readN
  split
  · split <;> simp
  · split
    · split <;> simp
    · split
      · exact figs_kind t
      · rcases symN_kind t syms with h | h <;> omega

/-- a text is a gap -/
def gapB (t : List UInt8) : Bool := decide (skipN t = t.length)

/-- P6.2: from offset a on, the tokens of l cover the source -/
theorem coverage_plain (s : List UInt8) (l : List Tok) (k a : Nat) (h : yieldAt s k = l) (ha : a ≤ k) (hk : k = a + skipN (s.drop a)) (hak : k ≤ s.length) (hg : ∀ x ∈ l, x.1 ≠ 0) :
    match l with
    | [] => gapB (s.drop a) = true
    | x :: r => a ≤ x.2.2 ∧ gapB ((s.drop a).take (x.2.2 - a)) = true ∧ yieldAt s (x.2.2 + x.2.1.length + skipN (s.drop (x.2.2 + x.2.1.length))) = r := by
  cases l with
  | nil =>
    simp only
    unfold gapB
    rw [decide_eq_true_eq]
    rcases Nat.lt_or_ge k s.length with hk' | hk'
    · by_cases hz : (readN (s.drop k)).1 = 0
      · rw [yieldAt_err s k hk' hz] at h; cases h
      · rw [yieldAt_tok s k hk' hz] at h; cases h
    · rw [List.length_drop]; omega
  | cons x r =>
    simp only
    rcases Nat.lt_or_ge k s.length with hk' | hk'
    · by_cases hz : (readN (s.drop k)).1 = 0
      · rw [yieldAt_err s k hk' hz] at h
        injection h with h1 h2
        exact absurd (by rw [← h1]) (hg x (by simp))
      · have hp := read_pos _ hz
        rw [List.length_drop] at hp
        rw [yieldAt_tok s k hk' hz] at h
        injection h with h1 h2
        have hl : ((s.drop k).take (readN (s.drop k)).2).length = (readN (s.drop k)).2 := by rw [List.length_take, List.length_drop]; omega
        rw [← h1]
        simp only
        rw [hl]
        refine ⟨ha, ?_, h2⟩
        unfold gapB
        rw [decide_eq_true_eq, skip_take _ _ (by omega), List.length_take, List.length_drop]
        omega
    · rw [yieldAt_end s k hk'] at h; cases h

/-! ### concatenation -/

theorem gap_ext (b : Bool) (t u : List UInt8) : gapN b (t ++ 10 :: u) = if gapN b t = t.length then t.length + 1 + gapN false u else gapN b t := by
  induction t generalizing b with
  | nil =>
    rw [List.nil_append, gapN]
    cases b
    · simp [gapN, cin, cls]
    · simp [gapN]
  | cons c t ih =>
    rw [List.cons_append, gapN]
    conv => rhs; rw [gapN]
    by_cases hb : b = true
    · rw [if_pos hb, if_pos hb]
      by_cases hc : c = 10
      · rw [if_pos hc, if_pos hc, ih false]
        by_cases h : gapN false t = t.length
        · rw [if_pos h, if_pos (by simp; omega)]; simp; omega
        · rw [if_neg h, if_neg (by simp; omega)]
      · rw [if_neg hc, if_neg hc, ih true]
        by_cases h : gapN true t = t.length
        · rw [if_pos h, if_pos (by simp; omega)]; simp; omega
        · rw [if_neg h, if_neg (by simp; omega)]
    · rw [if_neg hb, if_neg hb]
      by_cases hw : cin 1 c = true
      · rw [if_pos hw, if_pos hw, ih false]
        by_cases h : gapN false t = t.length
        · rw [if_pos h, if_pos (by simp; omega)]; simp; omega
        · rw [if_neg h, if_neg (by simp; omega)]
      · rw [if_neg hw, if_neg hw]
        have hh : (c = 47 ∧ (t ++ 10 :: u).head? = some 47) ↔ (c = 47 ∧ t.head? = some 47) := by
          cases t with
          | nil => simp
          | cons d t => simp
        by_cases hs : c = 47 ∧ t.head? = some 47
        · rw [if_pos hs, if_pos (hh.2 hs), ih true]
          by_cases h : gapN true t = t.length
          · rw [if_pos h, if_pos (by simp; omega)]; simp; omega
          · rw [if_neg h, if_neg (by simp; omega)]
        · rw [if_neg hs, if_neg (fun x => hs (hh.1 x)), if_neg (by simp)]
theorem sep_line (u : List UInt8) : Sep (10 :: u) := .inr ⟨10, u, rfl, rfl⟩

def shiftT (d : Nat) (l : List Tok) : List Tok := l.map fun x => (x.1, x.2.1, x.2.2 + d)
theorem yieldF_shift (d n o : Nat) (t : List UInt8) : yieldF n (o + d) t = shiftT d (yieldF n o t) := by
  induction n generalizing o t with
  | zero => rfl
  | succ n ih =>
    rw [yieldF, yieldF]
    by_cases ht : t = []
    · rw [if_pos ht, if_pos ht]; rfl
    · rw [if_neg ht, if_neg ht]
      by_cases hz : (readN t).1 = 0
      · rw [if_pos hz, if_pos hz]; rfl
      · rw [if_neg hz, if_neg hz]
        unfold shiftT
        rw [List.map_cons]
        refine congrArg _ ?_
        have := ih (o + (readN t).2 + skipN (t.drop (readN t).2)) ((t.drop (readN t).2).drop (skipN (t.drop (readN t).2)))
        unfold shiftT at this
        rw [← this]
        congr 1
        omega
theorem yieldAt_shift (p b : List UInt8) (k : Nat) : yieldAt (p ++ b) (p.length + k) = shiftT p.length (yieldAt b k) := by
  unfold yieldAt
  rw [← yieldF_shift, List.length_append, show p.length + b.length - (p.length + k) = b.length - k from by omega, Nat.add_comm k, List.drop_append]
  rw [List.drop_eq_nil_of_le (by omega : p.length ≤ p.length + k), List.nil_append, show p.length + k - p.length = k from by omega]
theorem yield_concat (a b : List UInt8) (m : Nat) : ∀ k, a.length - k ≤ m → k < a.length → (∀ x ∈ yieldAt a k, x.1 ≠ 0) →
    yieldAt (a ++ 10 :: b) k = yieldAt a k ++ yieldAt (a ++ 10 :: b) (a.length + 1 + skipN b) := by
  induction m with
  | zero => intro k h1 h2; omega
  | succ m ih =>
    intro k h1 h2 hg
    by_cases hz : (readN (a.drop k)).1 = 0
    · have := hg (0, [], k) (by rw [yieldAt_err a k h2 hz]; simp)
      exact absurd rfl this
    · have hp := read_pos _ hz
      have hpl := hp.2
      rw [List.length_drop] at hpl
      have hd : (a ++ 10 :: b).drop k = a.drop k ++ 10 :: b := List.drop_append_of_le_length (by omega)
      have hr : readN ((a ++ 10 :: b).drop k) = readN (a.drop k) := by
        rw [hd]
        have := read_cut (a.drop k) (10 :: b) (a.drop k).length (sep_line b) hz hp.2
        rwa [List.take_length] at this
      have hkl : k < (a ++ 10 :: b).length := by rw [List.length_append]; omega
      rw [yieldAt_tok _ k hkl (by rw [hr]; exact hz), hr, yieldAt_tok a k h2 hz, hd]
      have htk : (a.drop k ++ 10 :: b).take (readN (a.drop k)).2 = (a.drop k).take (readN (a.drop k)).2 := List.take_append_of_le_length hp.2
      rw [htk, List.cons_append]
      refine congrArg _ ?_
      have hd2 : (a ++ 10 :: b).drop (k + (readN (a.drop k)).2) = a.drop (k + (readN (a.drop k)).2) ++ 10 :: b := List.drop_append_of_le_length (by omega)
      have hsl := skip_le (a.drop (k + (readN (a.drop k)).2))
      rw [List.length_drop] at hsl
      rw [hd2, show skipN (a.drop (k + (readN (a.drop k)).2) ++ 10 :: b) = _ from gap_ext false _ b, List.length_drop]
      by_cases he : gapN false (a.drop (k + (readN (a.drop k)).2)) = a.length - (k + (readN (a.drop k)).2)
      · rw [if_pos he]
        rw [yieldAt_end a (k + (readN (a.drop k)).2 + skipN (a.drop (k + (readN (a.drop k)).2))) (by unfold skipN; omega), List.nil_append]
        congr 1
        unfold skipN
        omega
      · rw [if_neg he]
        have hlt : k + (readN (a.drop k)).2 + skipN (a.drop (k + (readN (a.drop k)).2)) < a.length := by unfold skipN at hsl ⊢; omega
        refine ih _ (by omega) hlt (fun x hx => hg x ?_)
        rw [yieldAt_tok a k h2 hz]
        exact List.mem_cons_of_mem _ hx
/-- P6.5 -/
theorem concat_plain (a b : List UInt8) (ha : (lexS a).2.1 = 0) (hb : (lexS b).2.1 = 0) (hl : a.length + b.length + 1 ≤ 6000) (hn : (lexS a).1.length + (lexS b).1.length ≤ 2000) :
    lexS (a ++ 10 :: b) = ((lexS a).1 ++ shiftT (a.length + 1) (lexS b).1, 0, 0) := by
  obtain ⟨_, hya, hga, _⟩ := lexS_ok a ha
  obtain ⟨_, hyb, hgb, _⟩ := lexS_ok b hb
  rw [← hya, ← hyb] at hn ⊢
  have hsh : yieldAt (a ++ 10 :: b) (a.length + 1 + skipN b) = shiftT (a.length + 1) (yields b) := by
    have := yieldAt_shift (a ++ [10]) b (skipN b)
    rw [List.length_append, List.length_singleton, List.append_assoc, List.singleton_append] at this
    rw [this, yields_at]
  refine lexS_good _ _ (by simp; omega) ?_ ?_
  · rw [yields_at, show skipN (a ++ 10 :: b) = _ from gap_ext false a b]
    by_cases he : gapN false a = a.length
    · rw [if_pos he]
      have : yields a = [] := by rw [yields_at]; exact yieldAt_end _ _ (by unfold skipN; omega)
      rw [this, List.nil_append]
      exact hsh
    · rw [if_neg he]
      have hsl := skip_le a
      have hlt : skipN a < a.length := by unfold skipN at hsl ⊢; omega
      have := yield_concat a b a.length (skipN a) (by omega) hlt (by rw [← yields_at]; exact hga.2)
      rw [hsh, ← yields_at] at this
      exact this
  · refine ⟨by unfold shiftT; rw [List.length_append, List.length_map]; exact hn, fun x hx => ?_⟩
    rcases List.mem_append.1 hx with h | h
    · exact hga.2 x h
    · unfold shiftT at h
      obtain ⟨y, hy, rfl⟩ := List.mem_map.1 h
      exact hgb.2 y hy

/-! ### other gaps -/

/-- what stands for a gap in the law of gaps -/
def GapS (g : List UInt8) : Prop := (∀ u, skipN u = 0 → skipN (g ++ u) = g.length) ∧ ∃ c g', g = c :: g' ∧ cin 1 c = true
/-- a token's text -/
def TokS (x : Tok) : Prop := x.1 ≠ 0 ∧ ∀ u, Sep u → skipN (x.2.1 ++ u) = 0 ∧ readN (x.2.1 ++ u) = (x.1, x.2.1.length)
theorem skip_cut (t u : List UInt8) (n : Nat) (hu : Sep u) (hn : 1 ≤ n) (ht : t ≠ []) (h : skipN t = 0) : skipN (t.take n ++ u) = 0 := by
  cases t with
  | nil => exact absurd rfl ht
  | cons c t =>
    obtain ⟨n', rfl⟩ : ∃ n', n = n' + 1 := ⟨n - 1, by omega⟩
    unfold skipN at h ⊢
    rw [List.take_succ_cons, List.cons_append]
    rw [gapN, if_neg (by simp)] at h ⊢
    by_cases hw : cin 1 c = true
    · rw [if_pos hw] at h; omega
    · rw [if_neg hw] at h ⊢
      by_cases hs : c = 47 ∧ t.head? = some 47
      · rw [if_pos hs] at h; omega
      · rw [if_neg]
        rintro ⟨h1, h2⟩
        have : t.head? ≠ some 47 := fun hh => hs ⟨h1, hh⟩
        exact head_cut t u n' hu 47 rfl this h2
theorem yield_toks (s : List UInt8) (hg : ∀ x ∈ yields s, x.1 ≠ 0) : ∀ x ∈ yields s, TokS x := by
  intro x hx
  have hb := yield_bounds s _ _ rfl x (by rw [← yields_at]; exact hx)
  have hk : skipN (s.drop (skipN s)) = 0 := by have := skip_idem s 0; simpa using this
  have hn := yield_noskip s _ _ rfl hk x (by rw [← yields_at]; exact hx)
  have h0 := hg x hx
  obtain ⟨h1, h2⟩ := hb.2.2.2.2 h0
  refine ⟨h0, fun u hu => ?_⟩
  have ht : s.drop x.2.2 ≠ [] := drop_ne s _ hb.2.1
  constructor
  · have := skip_cut (s.drop x.2.2) u x.2.1.length hu h1 ht hn
    rwa [← hb.2.2.2.1] at this
  · have := read_cut (s.drop x.2.2) u x.2.1.length hu (by rw [h2]; exact h0) (by rw [h2]; exact Nat.le_refl _)
    rw [← hb.2.2.2.1, h2] at this
    exact this

/-- the text of gaps and tokens, and the tokens at their new offsets -/
def buildT : List (List UInt8 × Tok) → List UInt8
  | [] => []
  | p :: r => p.1 ++ (p.2.2.1 ++ buildT r)
def wantT (o : Nat) : List (List UInt8 × Tok) → List Tok
  | [] => []
  | p :: r => (p.2.1, p.2.2.1, o + p.1.length) :: wantT (o + p.1.length + p.2.2.1.length) r
theorem build_snoc (ps : List (List UInt8 × Tok)) (p : List UInt8 × Tok) : buildT (ps ++ [p]) = buildT ps ++ (p.1 ++ p.2.2.1) := by
  induction ps with
  | nil => simp [buildT]
  | cons q ps ih => simp [buildT, ih]
theorem want_snoc (ps : List (List UInt8 × Tok)) (p : List UInt8 × Tok) (o : Nat) : wantT o (ps ++ [p]) = wantT o ps ++ [(p.2.1, p.2.2.1, o + (buildT ps).length + p.1.length)] := by
  induction ps generalizing o with
  | nil => simp [wantT, buildT]
  | cons q ps ih => simp [wantT, buildT, ih]; omega
theorem build_sep (ps : List (List UInt8 × Tok)) (hg : ∀ p ∈ ps, GapS p.1) : Sep (buildT ps) := by
  cases ps with
  | nil => exact sep_nil
  | cons p ps =>
    obtain ⟨_, c, g', h1, h2⟩ := hg p (by simp)
    exact .inr ⟨c, _, by rw [buildT, h1, List.cons_append], h2⟩
theorem build_yields (ps : List (List UInt8 × Tok)) (hg : ∀ p ∈ ps, GapS p.1 ∧ TokS p.2) (hd : List UInt8) :
    yieldAt (hd ++ buildT ps) (hd.length + skipN (buildT ps)) = wantT hd.length ps := by
  induction ps generalizing hd with
  | nil => exact yieldAt_end _ _ (by simp [buildT])
  | cons p ps ih =>
    obtain ⟨hp1, hp2⟩ := hg p (by simp)
    have hs := build_sep ps (fun q hq => (hg q (List.mem_cons_of_mem _ hq)).1)
    obtain ⟨hk, hr⟩ := hp2.2 _ hs
    have hsk : skipN (buildT (p :: ps)) = p.1.length := hp1.1 _ hk
    rw [hsk]
    have hdr : (hd ++ buildT (p :: ps)).drop (hd.length + p.1.length) = p.2.2.1 ++ buildT ps := by
      rw [buildT, ← List.append_assoc, show hd.length + p.1.length = (hd ++ p.1).length from by simp, List.drop_left]
    have hpos := read_pos (p.2.2.1 ++ buildT ps) (by rw [hr]; exact hp2.1)
    rw [hr] at hpos
    have hlt : hd.length + p.1.length < (hd ++ buildT (p :: ps)).length := by
      rw [buildT]; simp only [List.length_append] at hpos ⊢; omega
    rw [yieldAt_tok _ _ hlt (by rw [hdr, hr]; exact hp2.1), hdr, hr, List.take_left, wantT]
    refine congrArg _ ?_
    have hall : hd ++ buildT (p :: ps) = (hd ++ p.1 ++ p.2.2.1) ++ buildT ps := by rw [buildT]; simp
    have hlen : hd.length + p.1.length + p.2.2.1.length = (hd ++ p.1 ++ p.2.2.1).length := by simp; omega
    have := ih (fun q hq => hg q (List.mem_cons_of_mem _ hq)) (hd ++ p.1 ++ p.2.2.1)
    rw [hlen, hall, List.drop_left, this]
/-- P6.4 -/
theorem gaps_plain (ps : List (List UInt8 × Tok)) (hg : ∀ p ∈ ps, GapS p.1 ∧ TokS p.2) (hl : (buildT ps).length ≤ 6000) (hn : ps.length ≤ 2000) : lexS (buildT ps) = (wantT 0 ps, 0, 0) := by
  refine lexS_good _ _ hl ?_ ?_
  · have := build_yields ps hg []
    rw [yields_at]
    simpa using this
  · have hlen : ∀ (ps : List (List UInt8 × Tok)) o, (wantT o ps).length = ps.length := by
      intro ps; induction ps with
      | nil => intro o; rfl
      | cons p ps ih => intro o; simp [wantT, ih]
    refine ⟨by rw [hlen]; exact hn, ?_⟩
    have hk : ∀ (ps : List (List UInt8 × Tok)) o, (∀ p ∈ ps, p.2.1 ≠ 0) → ∀ x ∈ wantT o ps, x.1 ≠ 0 := by
      intro ps; induction ps with
      | nil => intro o _ x hx; simp [wantT] at hx
      | cons p ps ih =>
        intro o h x hx
        rw [wantT] at hx
        rcases List.mem_cons.1 hx with rfl | hx'
        · exact h p (by simp)
        · exact ih _ (fun q hq => h q (List.mem_cons_of_mem _ hq)) x hx'
    exact hk ps 0 (fun p hp => (hg p hp).2.1)
theorem gapS_of (g : List UInt8) (h : ∀ u, skipN u = 0 → skipN (g ++ u) = g.length) (h2 : ∃ c g', g = c :: g' ∧ cin 1 c = true) : GapS g := ⟨h, h2⟩
end LexS
