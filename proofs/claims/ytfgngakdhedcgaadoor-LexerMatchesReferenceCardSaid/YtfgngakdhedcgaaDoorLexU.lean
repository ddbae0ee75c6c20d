/- The walk of the reference lexer's numeric. -/
import Derived.Test.YtfgngakdhedcgaaDoorLexT
import Derived.StillTailTactics
import Derived.Deep.RegionHeld3
namespace Go.Proofs.YtfgngakdhedcgaaDoor
open Go.RowKit LexS

theorem takeL {P : Program} {md : Region.Mode} {Q : Exit → Act → World → Prop} {S : World → Prop} {l : List Oper} {i : Nat} {oi : Oper} {v : Value} {fuel : Nat} {listed : Array Bool} {a : Act} {w : World} (hi : l[i]? = some oi)
    (hs : Region.noSelect l.toArray = true) (hf : Region.free md l.toArray listed i = true) (hr : (Region.ready md l.toArray listed).contains i = true)
    (hQ : ∀ c a w, Q (.panic c) (a.put oi.dst v) w → Q (.panic c) a w) (hy : YieldsIf P l.toArray S oi v a) (hS : S w)
    (h : wpAnyH P md l.toArray Q S fuel (listed.setIfInBounds i true) (a.put oi.dst v) w) : wpAnyH P md l.toArray Q S (fuel + 1) listed a w :=
  wpAnyH_take (by simpa using hi) hs hf hr hQ hy hS h
theorem readyL {P : Program} {md : Region.Mode} {Q : Exit → Act → World → Prop} {S : World → Prop} {l : List Oper} {i : Nat} {o : Oper} {fuel : Nat} {listed : Array Bool} {a : Act} {w : World} (hr : Region.ready md l.toArray listed = [i]) (ho : l[i]? = some o)
    (h : ∀ K' : Act → World → Prop, Shut (∀ a w, S w → (S w → wpAnyH P md l.toArray Q S fuel (listed.setIfInBounds i true) a w) → K' a w) → if Region.wanted o (yielded l.toArray a.tmps) = true then Oper.wp P o a w K' Q else K' (a.put o.dst undef) w) :
    wpAnyH P md l.toArray Q S (fuel + 1) listed a w :=
  wpAnyH_ready hr (by simp) (AllReadyH.cons (by simpa using ho) h AllReadyH.nil)

theorem take_ext (s : ByteArray) (k d : Nat) : L (s.extract k (k + d)) = ((L s).drop k).take d := by
  show (s.extract k (k + d)).data.toList = _
  rw [Lib.extract_data, show k + d - k = d from by omega]

/-- two digits and no more -/
theorem span_two (u : List UInt8) (hf : free (u.drop 2) = true) (h1 : isB 8 u = true) (h2 : isB 8 (u.drop 1) = true) : spanN 8 u = 2 := by
  match u, h1, h2 with
  | [c], _, h2 => simp [isB] at h2
  | c :: d :: v, h1, h2 =>
    have e1 : cin 8 c = true := h1
    have e2 : cin 8 d = true := h2
    rw [spanN_cons, if_pos e1, spanN_cons, if_pos e2]
    have e3 : spanN 8 v = 0 := by
      apply run_stop
      cases v with
      | nil => rfl
      | cons x v =>
        have hf' : free (x :: v) = true := hf
        rw [free_cons] at hf'
        simp at hf'
        show cin 8 x = false
        cases hx : cin 8 x with
        | false => rfl
        | true => rw [cin30, hx] at hf'; simp at hf'
    omega
theorem two_span (u : List UInt8) (h : spanN 8 u = 2) : isB 8 u = true ∧ isB 8 (u.drop 1) = true := by
  match u, h with
  | [], h => simp [spanN_nil] at h
  | [c], h =>
    rw [spanN_cons] at h
    split at h
    · rw [spanN_nil] at h; omega
    · omega
  | c :: d :: v, h =>
    rw [spanN_cons] at h
    by_cases hc : cin 8 c = true
    · rw [if_pos hc, spanN_cons] at h
      by_cases hd : cin 8 d = true
      · exact ⟨hc, hd⟩
      · rw [if_neg hd] at h; omega
    · rw [if_neg hc] at h; omega

theorem figs_cents (t : List UInt8) (d e : Nat) (hd : d = spanN 8 t) (he : e = spanN 8 (t.drop (d + 1))) (hn : isDate t = false) (hdot : (t.drop d).head? = some 46) :
    figs t = if ¬ (t.head? = some 48 ∧ 1 < d) ∧ d ≤ 10 ∧ e = 2 ∧ free (t.drop (d + 3)) = true then (4, d + 3) else (0, 0) := by
  unfold figs
  simp only [hn, Bool.false_eq_true, if_false, ← hd]
  by_cases h1 : t.head? = some 48 ∧ 1 < d
  · rw [if_pos h1, if_neg (fun h => h.1 h1)]
  · rw [if_neg h1, if_pos hdot]
    by_cases h2 : 10 < d ∨ isB 8 (t.drop (d + 1)) = false ∨ isB 8 (t.drop (d + 2)) = false
    · rw [if_pos h2, if_neg]
      rintro ⟨_, h3, h4, _⟩
      rw [he] at h4
      have := two_span _ h4
      rw [List.drop_drop] at this
      rcases h2 with h | h | h
      · omega
      · rw [h] at this; simp at this
      · rw [show d + 1 + 1 = d + 2 from rfl, h] at this; simp at this
    · rw [if_neg h2]
      have i1 : isB 8 (t.drop (d + 1)) = true := by
        cases hh : isB 8 (t.drop (d + 1)) with
        | true => rfl
        | false => exact absurd (.inr (.inl hh)) h2
      have i2 : isB 8 (t.drop (d + 2)) = true := by
        cases hh : isB 8 (t.drop (d + 2)) with
        | true => rfl
        | false => exact absurd (.inr (.inr hh)) h2
      by_cases h3 : free (t.drop (d + 3)) = true
      · have h5 : e = 2 := by
          rw [he]
          refine span_two _ ?_ i1 ?_
          · rw [List.drop_drop]; exact h3
          · rw [List.drop_drop]; exact i2
        rw [if_pos h3, if_pos ⟨h1, by omega, h5, h3⟩]
      · rw [if_neg h3, if_neg (fun h => h3 h.2.2.2)]
theorem figs_plain (t : List UInt8) (d : Nat) (hd : d = spanN 8 t) (hn : isDate t = false) (hdot : ¬ (t.drop d).head? = some 46) :
    figs t = if ¬ (t.head? = some 48 ∧ 1 < d) ∧ d ≤ 12 ∧ free (t.drop d) = true then (3, d) else (0, 0) := by
  unfold figs
  simp only [hn, Bool.false_eq_true, if_false, ← hd]
  by_cases h1 : t.head? = some 48 ∧ 1 < d
  · rw [if_pos h1, if_neg (fun h => h.1 h1)]
  · rw [if_neg h1, if_neg hdot]
    by_cases h2 : 12 < d
    · rw [if_pos h2, if_neg (fun h => by omega)]
    · rw [if_neg h2]
      by_cases h3 : free (t.drop d) = true
      · rw [if_pos h3, if_pos ⟨h1, by omega, h3⟩]
      · rw [if_neg h3, if_neg (fun h => h3 h.2.2)]

set_option maxHeartbeats 2000000 in
theorem numeric_date (s : ByteArray) (k : Nat) (w : World) (hs : s.size ≤ 6000) (hk : k < s.size) (hdt : isDate ((L s).drop k) = true) :
    Calls Tryd.prog 28 #[.string s, .int .i64 k] w (TokRet (figs ((L s).drop k)) ((L s).drop k) k w) := by
  have hl10 : k + 10 ≤ s.size := by
    have := ((date_iff _).1 hdt).1; rw [len_drop] at this; omega
  have HF : Hid (figs ((L s).drop k) = if free ((L s).drop (k + 10)) then (5, 10) else (0, 0)) := by
    refine Lib.hid ?_
    unfold figs
    simp only [hdt, if_true, List.drop_drop]
  have HDT := Lib.hid hdt
  clear hdt
  generalize hr : figs ((L s).drop k) = r at *
  clear hr
  have hw10 : IntKind.i64.wrap ((k : Int) + 10) = (k : Int) + 10 := IntWalk.i64_in _ (by omega)
  have h1 : (0 : Int) ≤ (k : Int) + 10 := by omega
  have h2 : ((k : Int) + 10).toNat = k + 10 := by omega
  have h3 : (k : Int) ≤ (k : Int) + 10 := by omega
  have h4 : (k : Int) + 10 ≤ (s.size : Int) := by omega
  go_enter Tryd.func28, Tryd.ntmps28
  go_wp2_with fail
  refine (rdate_any s _ _ (by omega) (by omega) (by omega)).mono ?_
  rintro e w' ⟨rfl, rfl⟩
  rw [Int.toNat_natCast, HDT.out]
  go_wp2_with fail
  go_still_tail 11, (by kernel_rfl)
  still_call ((free_any s _ _ (by omega)).mono fun _ _ ⟨h1, h2⟩ => ⟨h1, h2.symm⟩)
  repeat still_step
  refine wpStill_nil ?_
  change wpList _ _ _ _ _ (w.alloc (.cells #[.int .i64 0, .string { data := #[] }, .int .i64 0] 30)).drew
  clear hw10
  go_wp2_with fail
  refine bodyPost_ret (v := .tuple #[.agg #[.int .i64 5, .string (s.extract k (k + 10)), .int .i64 k], .bool (free ((L s).drop (k + 10)))]) (by simp [results, Tryd.results28, go_sem, h2]) rfl ?_
  refine ⟨_, _, _, _, rfl, fun h => ?_, fun h => ?_, ?_⟩
  · rw [HF.out, if_pos h]; exact ⟨by simp, rfl, take_ext s k 10, rfl⟩
  · rw [HF.out, if_neg (by rw [h]; simp)]
  · first | exact ((Below.refl _ _).alloc (Nat.le_refl _) _).drew | exact (Below.refl _ _).alloc (Nat.le_refl _) _

set_option maxHeartbeats 8000000 in
theorem numeric_plain (s : ByteArray) (k d : Nat) (w : World) (hs : s.size ≤ 6000) (hk : k < s.size) (h8 : cin 8 s[k] = true) (hdt : isDate ((L s).drop k) = false) (hd : d = spanN 8 ((L s).drop k)) (hdot : ¬ (((L s).drop k).drop d).head? = some 46) :
    Calls Tryd.prog 28 #[.string s, .int .i64 k] w (TokRet (figs ((L s).drop k)) ((L s).drop k) k w) := by
  have HF := Lib.hid (figs_plain ((L s).drop k) d hd hdt hdot)
  have hdl : k + d ≤ s.size := by rw [hd]; have := span_le 8 ((L s).drop k); rw [len_drop] at this; omega
  have hd1 : 1 ≤ d := by rw [hd]; exact isB_span 8 _ (by rw [drop_at s k hk]; exact h8)
  have HDT := Lib.hid hdt
  have HD := Lib.hid hd
  have HH8 := Lib.hid h8
  clear hdt h8
  have hdec : (k + d < s.size ∧ ∃ h : k + d < s.size, ((s[k + d].toNat : Int) == 46) = false) ∨ s.size ≤ k + d := by
    by_cases h : k + d < s.size
    · left
      refine ⟨h, h, byte_ne (d := 46) ?_⟩
      intro e
      apply hdot
      rw [List.drop_drop, head_get s (k + d) h, e]
    · right; omega
  clear hdot hd
  generalize hr : figs ((L s).drop k) = r at *
  clear hr
  have hpl : ∃ p : Bool, Hid (p = true ↔ ¬ (((L s).drop k).head? = some 48 ∧ 1 < d)) ∧ ((((k : Int) + (d : Int)) == ((k : Int) + 1)) = true ∧ p = true ∨ (((k : Int) + (d : Int)) == ((k : Int) + 1)) = false ∧ ((s[k].toNat : Int) != 48) = p) := by
    by_cases h1 : d = 1
    · refine ⟨true, Lib.hid ⟨fun _ h => by omega, fun _ => rfl⟩, .inl ⟨by rw [beq_iff_eq]; omega, rfl⟩⟩
    · have hb : (((k : Int) + (d : Int)) == ((k : Int) + 1)) = false := by rw [beq_eq_false_iff_ne]; omega
      by_cases h2 : s[k] = 48
      · refine ⟨false, Lib.hid ⟨fun h => by simp at h, fun h => absurd ⟨by rw [head_get s k hk, h2], by omega⟩ h⟩, .inr ⟨hb, byte_eqb h2⟩⟩
      · refine ⟨true, Lib.hid ⟨fun _ h => ?_, fun _ => rfl⟩, .inr ⟨hb, byte_neb h2⟩⟩
        have := h.1
        rw [head_get s k hk] at this
        exact h2 (Option.some.inj this)
  obtain ⟨p, HP, hpb⟩ := hpl
  have e1 : (0 : Int) ≤ (k : Int) + (d : Int) := by omega
  have e2 : ((k : Int) + (d : Int)).toNat = k + d := by omega
  have e3 : (k : Int) ≤ (k : Int) + (d : Int) := by omega
  have e4 : (k : Int) + (d : Int) ≤ (s.size : Int) := by omega
  have e5 : IntKind.i64.wrap ((k : Int) + (d : Int) - (k : Int)) = (k : Int) + (d : Int) - (k : Int) := IntWalk.i64_in _ (by omega)
  have hend : ∀ (ok : Bool) (W' : World), Below w.heap.size w W' → (ok = true ↔ p = true ∧ d ≤ 12 ∧ free ((L s).drop (k + d)) = true) → TokRet r ((L s).drop k) k w (.returned (.tuple #[.agg #[.int .i64 3, .string (s.extract k (k + d)), .int .i64 k], .bool ok])) W' := by
    intro ok W' hb hok
    have hF := HF.out
    rw [List.drop_drop] at hF
    refine ⟨_, _, _, _, rfl, fun h => ?_, fun h => ?_, hb⟩
    · obtain ⟨h1, h2, h3⟩ := hok.1 h
      rw [hF, if_pos ⟨HP.out.1 h1, h2, h3⟩]; exact ⟨by simp, rfl, take_ext s k d, rfl⟩
    · rw [hF, if_neg]
      rintro ⟨h1, h2, h3⟩
      have := hok.2 ⟨HP.out.2 h1, h2, h3⟩
      rw [h] at this; cases this
  have HE := Lib.hid hend
  clear hend
  cases p with
  | false =>
    have hpb' : (((k : Int) + (d : Int)) == ((k : Int) + 1)) = false ∧ ((s[k].toNat : Int) != 48) = false := by simpa using hpb
    obtain ⟨p1, p2⟩ := hpb'
    clear hpb
    rcases hdec with ⟨hlt, hlt', hne⟩ | hge
    all_goals
      go_enter Tryd.func28, Tryd.ntmps28
      go_wp2_with fail
      refine (rdate_any s _ _ (by omega) (by omega) (by omega)).mono ?_
      rintro e w' ⟨rfl, rfl⟩
      rw [Int.toNat_natCast, HDT.out]
      go_wp2_with fail
      refine (digits_any s _ _ (by omega) (by omega)).mono ?_
      rintro e w' ⟨rfl, rfl⟩
      rw [Int.toNat_natCast, ← HD.out]
      go_wp2_with fail
      refine wp_region_held_drew (S := fun _ => True) (by kernel_rfl) trivial (fun hHeld => ?_)
      refine takeL (i := 0) (v := ?_) rfl (by kernel_rfl) (by kernel_rfl) (by kernel_rfl) (fun _ _ _ h => h) (Or.inl ⟨by rfl, ?_⟩) trivial ?_
      rotate_left
      · intro w hSw; go_simp; try with_reducible rfl
      try simp only [Act.put, List.setIfInBounds_toArray, List.set_cons_zero, List.set_cons_succ]
      refine takeL (i := 1) (v := ?_) rfl (by kernel_rfl) (by kernel_rfl) (by kernel_rfl) (fun _ _ _ h => h) (Or.inl ⟨by rfl, ?_⟩) trivial ?_
      rotate_left
      · intro w hSw; go_simp; try with_reducible rfl
      try simp only [Act.put, List.setIfInBounds_toArray, List.set_cons_zero, List.set_cons_succ]
      refine takeL (i := 2) (v := ?_) rfl (by kernel_rfl) (by kernel_rfl) (by kernel_rfl) (fun _ _ _ h => h) (Or.inl ⟨by rfl, ?_⟩) trivial ?_
      rotate_left
      · intro w hSw; go_simp; try with_reducible rfl
      try simp only [Act.put, List.setIfInBounds_toArray, List.set_cons_zero, List.set_cons_succ]
      refine takeL (i := 3) (v := ?_) rfl (by kernel_rfl) (by kernel_rfl) (by kernel_rfl) (fun _ _ _ h => h) (Or.inl ⟨by rfl, ?_⟩) trivial ?_
      rotate_left
      · intro w hSw; go_simp; try with_reducible rfl
      try simp only [Act.put, List.setIfInBounds_toArray, List.set_cons_zero, List.set_cons_succ]
      refine takeL (i := 4) (v := ?_) rfl (by kernel_rfl) (by kernel_rfl) (by kernel_rfl) (fun _ _ _ h => h) (Or.inl ⟨by rfl, ?_⟩) trivial ?_
      rotate_left
      · intro w hSw; go_simp; try with_reducible rfl
      try simp only [Act.put, List.setIfInBounds_toArray, List.set_cons_zero, List.set_cons_succ]
      refine takeL (i := 5) (v := ?_) rfl (by kernel_rfl) (by kernel_rfl) (by kernel_rfl) (fun _ _ _ h => h) (Or.inl ⟨by rfl, ?_⟩) trivial ?_
      rotate_left
      · intro w hSw; go_simp; try with_reducible rfl
      try simp only [Act.put, List.setIfInBounds_toArray, List.set_cons_zero, List.set_cons_succ]
      refine takeL (i := 6) (v := ?_) rfl (by kernel_rfl) (by kernel_rfl) (by kernel_rfl) (fun _ _ _ h => h) (Or.inl ⟨by rfl, ?_⟩) trivial ?_
      rotate_left
      · intro w hSw; go_simp; try with_reducible rfl
      try simp only [Act.put, List.setIfInBounds_toArray, List.set_cons_zero, List.set_cons_succ]
      refine takeL (i := 7) (v := ?_) rfl (by kernel_rfl) (by kernel_rfl) (by kernel_rfl) (fun _ _ _ h => h) (Or.inl ⟨by rfl, ?_⟩) trivial ?_
      rotate_left
      · intro w hSw; go_simp; try with_reducible rfl
      try simp only [Act.put, List.setIfInBounds_toArray, List.set_cons_zero, List.set_cons_succ]
      refine takeL (i := 8) (v := undef) rfl (by kernel_rfl) (by kernel_rfl) (by kernel_rfl) (fun _ _ _ h => h) (Or.inr ⟨by rfl, rfl⟩) trivial ?_
      try simp only [Act.put, List.setIfInBounds_toArray, List.set_cons_zero, List.set_cons_succ]
      refine takeL (i := 9) (v := undef) rfl (by kernel_rfl) (by kernel_rfl) (by kernel_rfl) (fun _ _ _ h => h) (Or.inr ⟨by rfl, rfl⟩) trivial ?_
      try simp only [Act.put, List.setIfInBounds_toArray, List.set_cons_zero, List.set_cons_succ]
      refine takeL (i := 10) (v := undef) rfl (by kernel_rfl) (by kernel_rfl) (by kernel_rfl) (fun _ _ _ h => h) (Or.inr ⟨by rfl, rfl⟩) trivial ?_
      try simp only [Act.put, List.setIfInBounds_toArray, List.set_cons_zero, List.set_cons_succ]
      refine takeL (i := 11) (v := undef) rfl (by kernel_rfl) (by kernel_rfl) (by kernel_rfl) (fun _ _ _ h => h) (Or.inr ⟨by rfl, rfl⟩) trivial ?_
      try simp only [Act.put, List.setIfInBounds_toArray, List.set_cons_zero, List.set_cons_succ]
      refine takeL (i := 12) (v := ?_) rfl (by kernel_rfl) (by kernel_rfl) (by kernel_rfl) (fun _ _ _ h => h) (Or.inl ⟨by rfl, ?_⟩) trivial ?_
      rotate_left
      · intro w hSw; go_simp; try with_reducible rfl
      try simp only [Act.put, List.setIfInBounds_toArray, List.set_cons_zero, List.set_cons_succ]
      refine takeL (i := 13) (v := ?_) rfl (by kernel_rfl) (by kernel_rfl) (by kernel_rfl) (fun _ _ _ h => h) (Or.inl ⟨by rfl, ?_⟩) trivial ?_
      rotate_left
      · intro w hSw; go_simp; try with_reducible rfl
      try simp only [Act.put, List.setIfInBounds_toArray, List.set_cons_zero, List.set_cons_succ]
      refine takeL (i := 14) (v := undef) rfl (by kernel_rfl) (by kernel_rfl) (by kernel_rfl) (fun _ _ _ h => h) (Or.inr ⟨by rfl, rfl⟩) trivial ?_
      try simp only [Act.put, List.setIfInBounds_toArray, List.set_cons_zero, List.set_cons_succ]
      refine takeL (i := 15) (v := undef) rfl (by kernel_rfl) (by kernel_rfl) (by kernel_rfl) (fun _ _ _ h => h) (Or.inr ⟨by rfl, rfl⟩) trivial ?_
      try simp only [Act.put, List.setIfInBounds_toArray, List.set_cons_zero, List.set_cons_succ]
      refine takeL (i := 16) (v := undef) rfl (by kernel_rfl) (by kernel_rfl) (by kernel_rfl) (fun _ _ _ h => h) (Or.inr ⟨by rfl, rfl⟩) trivial ?_
      try simp only [Act.put, List.setIfInBounds_toArray, List.set_cons_zero, List.set_cons_succ]
      refine takeL (i := 17) (v := ?_) rfl (by kernel_rfl) (by kernel_rfl) (by kernel_rfl) (fun _ _ _ h => h) (Or.inl ⟨by rfl, ?_⟩) trivial ?_
      rotate_left
      · intro w hSw; go_simp; try with_reducible rfl
      try simp only [Act.put, List.setIfInBounds_toArray, List.set_cons_zero, List.set_cons_succ]
      refine readyL (i := 18) (by kernel_rfl) rfl (fun K hK => ?_)
      go_simp
      refine hK.out _ _ trivial (fun _ => ?_)
      clear hK K
      try simp only [Act.put, List.setIfInBounds_toArray, List.set_cons_zero, List.set_cons_succ]
      refine takeL (i := 19) (v := ?_) rfl (by kernel_rfl) (by kernel_rfl) (by kernel_rfl) (fun _ _ _ h => h) (Or.inl ⟨by rfl, ?_⟩) trivial ?_
      rotate_left
      · intro w hSw; go_simp; try with_reducible rfl
      try simp only [Act.put, List.setIfInBounds_toArray, List.set_cons_zero, List.set_cons_succ]
      refine wpAnyH_done (by kernel_rfl) ?_ _
      clear e5
      go_wp2_with fail
      refine bodyPost_ret (v := .tuple #[.agg #[.int .i64 3, .string (s.extract k (k + d)), .int .i64 k], .bool (false)]) (by simp [results, Tryd.results28, go_sem]) rfl (HE.out _ _ ?_ (by simp))
      first | exact ((Below.refl _ _).alloc (Nat.le_refl _) _).drew | exact (Below.refl _ _).alloc (Nat.le_refl _) _
  | true =>
    by_cases h12 : d ≤ 12
    · have d12 : decide ((k : Int) + (d : Int) - (k : Int) ≤ 12) = true := by simp; omega
      rcases hpb with ⟨p1, _⟩ | ⟨p1, p2⟩
      all_goals
        rcases hdec with ⟨hlt, hlt', hne⟩ | hge
        all_goals
          go_enter Tryd.func28, Tryd.ntmps28
          go_wp2_with fail
          refine (rdate_any s _ _ (by omega) (by omega) (by omega)).mono ?_
          rintro e w' ⟨rfl, rfl⟩
          rw [Int.toNat_natCast, HDT.out]
          go_wp2_with fail
          refine (digits_any s _ _ (by omega) (by omega)).mono ?_
          rintro e w' ⟨rfl, rfl⟩
          rw [Int.toNat_natCast, ← HD.out]
          go_wp2_with fail
          refine wp_region_held_drew (S := fun _ => True) (by kernel_rfl) trivial (fun hHeld => ?_)
          refine takeL (i := 0) (v := ?_) rfl (by kernel_rfl) (by kernel_rfl) (by kernel_rfl) (fun _ _ _ h => h) (Or.inl ⟨by rfl, ?_⟩) trivial ?_
          rotate_left
          · intro w hSw; go_simp; try with_reducible rfl
          try simp only [Act.put, List.setIfInBounds_toArray, List.set_cons_zero, List.set_cons_succ]
          refine takeL (i := 1) (v := ?_) rfl (by kernel_rfl) (by kernel_rfl) (by kernel_rfl) (fun _ _ _ h => h) (Or.inl ⟨by rfl, ?_⟩) trivial ?_
          rotate_left
          · intro w hSw; go_simp; try with_reducible rfl
          try simp only [Act.put, List.setIfInBounds_toArray, List.set_cons_zero, List.set_cons_succ]
          refine takeL (i := 2) (v := ?_) rfl (by kernel_rfl) (by kernel_rfl) (by kernel_rfl) (fun _ _ _ h => h) (Or.inl ⟨by rfl, ?_⟩) trivial ?_
          rotate_left
          · intro w hSw; go_simp; try with_reducible rfl
          try simp only [Act.put, List.setIfInBounds_toArray, List.set_cons_zero, List.set_cons_succ]
          refine takeL (i := 3) (v := ?_) rfl (by kernel_rfl) (by kernel_rfl) (by kernel_rfl) (fun _ _ _ h => h) (Or.inl ⟨by rfl, ?_⟩) trivial ?_
          rotate_left
          · intro w hSw; go_simp; try with_reducible rfl
          try simp only [Act.put, List.setIfInBounds_toArray, List.set_cons_zero, List.set_cons_succ]
          refine takeL (i := 4) (v := ?_) rfl (by kernel_rfl) (by kernel_rfl) (by kernel_rfl) (fun _ _ _ h => h) (Or.inl ⟨by rfl, ?_⟩) trivial ?_
          rotate_left
          · intro w hSw; go_simp; try with_reducible rfl
          try simp only [Act.put, List.setIfInBounds_toArray, List.set_cons_zero, List.set_cons_succ]
          refine takeL (i := 5) (v := ?_) rfl (by kernel_rfl) (by kernel_rfl) (by kernel_rfl) (fun _ _ _ h => h) (Or.inl ⟨by rfl, ?_⟩) trivial ?_
          rotate_left
          · intro w hSw; go_simp; try with_reducible rfl
          try simp only [Act.put, List.setIfInBounds_toArray, List.set_cons_zero, List.set_cons_succ]
          refine takeL (i := 6) (v := ?_) rfl (by kernel_rfl) (by kernel_rfl) (by kernel_rfl) (fun _ _ _ h => h) (Or.inl ⟨by rfl, ?_⟩) trivial ?_
          rotate_left
          · intro w hSw; go_simp; try with_reducible rfl
          try simp only [Act.put, List.setIfInBounds_toArray, List.set_cons_zero, List.set_cons_succ]
          refine takeL (i := 7) (v := ?_) rfl (by kernel_rfl) (by kernel_rfl) (by kernel_rfl) (fun _ _ _ h => h) (Or.inl ⟨by rfl, ?_⟩) trivial ?_
          rotate_left
          · intro w hSw; go_simp; try with_reducible rfl
          try simp only [Act.put, List.setIfInBounds_toArray, List.set_cons_zero, List.set_cons_succ]
          refine takeL (i := 8) (v := ?_) rfl (by kernel_rfl) (by kernel_rfl) (by kernel_rfl) (fun _ _ _ h => h) (Or.inl ⟨by rfl, ?_⟩) trivial ?_
          rotate_left
          · intro w hSw; go_simp; try with_reducible rfl
          try simp only [Act.put, List.setIfInBounds_toArray, List.set_cons_zero, List.set_cons_succ]
          refine takeL (i := 9) (v := ?_) rfl (by kernel_rfl) (by kernel_rfl) (by kernel_rfl) (fun _ _ _ h => h) (Or.inl ⟨by rfl, ?_⟩) trivial ?_
          rotate_left
          · intro w hSw; go_simp; try with_reducible rfl
          try simp only [Act.put, List.setIfInBounds_toArray, List.set_cons_zero, List.set_cons_succ]
          refine takeL (i := 10) (v := ?_) rfl (by kernel_rfl) (by kernel_rfl) (by kernel_rfl) (fun _ _ _ h => h) (Or.inl ⟨by rfl, ?_⟩) trivial ?_
          rotate_left
          · intro w hSw; go_simp; try with_reducible rfl
          try simp only [Act.put, List.setIfInBounds_toArray, List.set_cons_zero, List.set_cons_succ]
          refine takeL (i := 11) (v := ?_) rfl (by kernel_rfl) (by kernel_rfl) (by kernel_rfl) (fun _ _ _ h => h) (Or.inl ⟨by rfl, ?_⟩) trivial ?_
          rotate_left
          · intro w hSw; go_simp; try with_reducible rfl
          try simp only [Act.put, List.setIfInBounds_toArray, List.set_cons_zero, List.set_cons_succ]
          refine takeL (i := 12) (v := ?_) rfl (by kernel_rfl) (by kernel_rfl) (by kernel_rfl) (fun _ _ _ h => h) (Or.inl ⟨by rfl, ?_⟩) trivial ?_
          rotate_left
          · intro w hSw; go_simp; try with_reducible rfl
          try simp only [Act.put, List.setIfInBounds_toArray, List.set_cons_zero, List.set_cons_succ]
          refine takeL (i := 13) (v := ?_) rfl (by kernel_rfl) (by kernel_rfl) (by kernel_rfl) (fun _ _ _ h => h) (Or.inl ⟨by rfl, ?_⟩) trivial ?_
          rotate_left
          · intro w hSw; go_simp; try with_reducible rfl
          try simp only [Act.put, List.setIfInBounds_toArray, List.set_cons_zero, List.set_cons_succ]
          refine takeL (i := 14) (v := ?_) rfl (by kernel_rfl) (by kernel_rfl) (by kernel_rfl) (fun _ _ _ h => h) (Or.inl ⟨by rfl, ?_⟩) trivial ?_
          rotate_left
          · intro w hSw; go_simp; try with_reducible rfl
          try simp only [Act.put, List.setIfInBounds_toArray, List.set_cons_zero, List.set_cons_succ]
          refine takeL (i := 15) (v := ?_) rfl (by kernel_rfl) (by kernel_rfl) (by kernel_rfl) (fun _ _ _ h => h) (Or.inl ⟨by rfl, ?_⟩) trivial ?_
          rotate_left
          · intro w hSw; go_simp; try with_reducible rfl
          try simp only [Act.put, List.setIfInBounds_toArray, List.set_cons_zero, List.set_cons_succ]
          refine readyL (i := 16) (by kernel_rfl) rfl (fun K hK => ?_)
          go_simp
          refine (free_any s _ _ (by omega)).mono ?_
          rintro e w' ⟨rfl, rfl⟩
          go_wp2_with fail
          refine hK.out _ _ trivial (fun _ => ?_)
          clear hK K
          try simp only [Act.put, List.setIfInBounds_toArray, List.set_cons_zero, List.set_cons_succ]
          refine takeL (i := 17) (v := ?_) rfl (by kernel_rfl) (by kernel_rfl) (by kernel_rfl) (fun _ _ _ h => h) (Or.inl ⟨by rfl, ?_⟩) trivial ?_
          rotate_left
          · intro w hSw; go_simp; try with_reducible rfl
          try simp only [Act.put, List.setIfInBounds_toArray, List.set_cons_zero, List.set_cons_succ]
          refine readyL (i := 18) (by kernel_rfl) rfl (fun K hK => ?_)
          go_simp
          refine hK.out _ _ trivial (fun _ => ?_)
          clear hK K
          try simp only [Act.put, List.setIfInBounds_toArray, List.set_cons_zero, List.set_cons_succ]
          refine takeL (i := 19) (v := ?_) rfl (by kernel_rfl) (by kernel_rfl) (by kernel_rfl) (fun _ _ _ h => h) (Or.inl ⟨by rfl, ?_⟩) trivial ?_
          rotate_left
          · intro w hSw; go_simp; try with_reducible rfl
          try simp only [Act.put, List.setIfInBounds_toArray, List.set_cons_zero, List.set_cons_succ]
          refine wpAnyH_done (by kernel_rfl) ?_ _
          clear e5
          go_wp2_with fail
          refine bodyPost_ret (v := .tuple #[.agg #[.int .i64 3, .string (s.extract k (k + d)), .int .i64 k], .bool (free ((L s).drop (k + d)))]) (by simp [results, Tryd.results28, go_sem]) rfl (HE.out _ _ ?_ (by simp; omega))
          first | exact ((Below.refl _ _).alloc (Nat.le_refl _) _).drew | exact (Below.refl _ _).alloc (Nat.le_refl _) _
    · have d12 : decide ((k : Int) + (d : Int) - (k : Int) ≤ 12) = false := by simp; omega
      rcases hpb with ⟨p1, _⟩ | ⟨p1, p2⟩
      all_goals
        rcases hdec with ⟨hlt, hlt', hne⟩ | hge
        all_goals
          go_enter Tryd.func28, Tryd.ntmps28
          go_wp2_with fail
          refine (rdate_any s _ _ (by omega) (by omega) (by omega)).mono ?_
          rintro e w' ⟨rfl, rfl⟩
          rw [Int.toNat_natCast, HDT.out]
          go_wp2_with fail
          refine (digits_any s _ _ (by omega) (by omega)).mono ?_
          rintro e w' ⟨rfl, rfl⟩
          rw [Int.toNat_natCast, ← HD.out]
          go_wp2_with fail
          refine wp_region_held_drew (S := fun _ => True) (by kernel_rfl) trivial (fun hHeld => ?_)
          refine takeL (i := 0) (v := ?_) rfl (by kernel_rfl) (by kernel_rfl) (by kernel_rfl) (fun _ _ _ h => h) (Or.inl ⟨by rfl, ?_⟩) trivial ?_
          rotate_left
          · intro w hSw; go_simp; try with_reducible rfl
          try simp only [Act.put, List.setIfInBounds_toArray, List.set_cons_zero, List.set_cons_succ]
          refine takeL (i := 1) (v := ?_) rfl (by kernel_rfl) (by kernel_rfl) (by kernel_rfl) (fun _ _ _ h => h) (Or.inl ⟨by rfl, ?_⟩) trivial ?_
          rotate_left
          · intro w hSw; go_simp; try with_reducible rfl
          try simp only [Act.put, List.setIfInBounds_toArray, List.set_cons_zero, List.set_cons_succ]
          refine takeL (i := 2) (v := ?_) rfl (by kernel_rfl) (by kernel_rfl) (by kernel_rfl) (fun _ _ _ h => h) (Or.inl ⟨by rfl, ?_⟩) trivial ?_
          rotate_left
          · intro w hSw; go_simp; try with_reducible rfl
          try simp only [Act.put, List.setIfInBounds_toArray, List.set_cons_zero, List.set_cons_succ]
          refine takeL (i := 3) (v := ?_) rfl (by kernel_rfl) (by kernel_rfl) (by kernel_rfl) (fun _ _ _ h => h) (Or.inl ⟨by rfl, ?_⟩) trivial ?_
          rotate_left
          · intro w hSw; go_simp; try with_reducible rfl
          try simp only [Act.put, List.setIfInBounds_toArray, List.set_cons_zero, List.set_cons_succ]
          refine takeL (i := 4) (v := ?_) rfl (by kernel_rfl) (by kernel_rfl) (by kernel_rfl) (fun _ _ _ h => h) (Or.inl ⟨by rfl, ?_⟩) trivial ?_
          rotate_left
          · intro w hSw; go_simp; try with_reducible rfl
          try simp only [Act.put, List.setIfInBounds_toArray, List.set_cons_zero, List.set_cons_succ]
          refine takeL (i := 5) (v := ?_) rfl (by kernel_rfl) (by kernel_rfl) (by kernel_rfl) (fun _ _ _ h => h) (Or.inl ⟨by rfl, ?_⟩) trivial ?_
          rotate_left
          · intro w hSw; go_simp; try with_reducible rfl
          try simp only [Act.put, List.setIfInBounds_toArray, List.set_cons_zero, List.set_cons_succ]
          refine takeL (i := 6) (v := ?_) rfl (by kernel_rfl) (by kernel_rfl) (by kernel_rfl) (fun _ _ _ h => h) (Or.inl ⟨by rfl, ?_⟩) trivial ?_
          rotate_left
          · intro w hSw; go_simp; try with_reducible rfl
          try simp only [Act.put, List.setIfInBounds_toArray, List.set_cons_zero, List.set_cons_succ]
          refine takeL (i := 7) (v := ?_) rfl (by kernel_rfl) (by kernel_rfl) (by kernel_rfl) (fun _ _ _ h => h) (Or.inl ⟨by rfl, ?_⟩) trivial ?_
          rotate_left
          · intro w hSw; go_simp; try with_reducible rfl
          try simp only [Act.put, List.setIfInBounds_toArray, List.set_cons_zero, List.set_cons_succ]
          refine takeL (i := 8) (v := ?_) rfl (by kernel_rfl) (by kernel_rfl) (by kernel_rfl) (fun _ _ _ h => h) (Or.inl ⟨by rfl, ?_⟩) trivial ?_
          rotate_left
          · intro w hSw; go_simp; try with_reducible rfl
          try simp only [Act.put, List.setIfInBounds_toArray, List.set_cons_zero, List.set_cons_succ]
          refine takeL (i := 9) (v := ?_) rfl (by kernel_rfl) (by kernel_rfl) (by kernel_rfl) (fun _ _ _ h => h) (Or.inl ⟨by rfl, ?_⟩) trivial ?_
          rotate_left
          · intro w hSw; go_simp; try with_reducible rfl
          try simp only [Act.put, List.setIfInBounds_toArray, List.set_cons_zero, List.set_cons_succ]
          refine takeL (i := 10) (v := ?_) rfl (by kernel_rfl) (by kernel_rfl) (by kernel_rfl) (fun _ _ _ h => h) (Or.inl ⟨by rfl, ?_⟩) trivial ?_
          rotate_left
          · intro w hSw; go_simp; try with_reducible rfl
          try simp only [Act.put, List.setIfInBounds_toArray, List.set_cons_zero, List.set_cons_succ]
          refine takeL (i := 11) (v := ?_) rfl (by kernel_rfl) (by kernel_rfl) (by kernel_rfl) (fun _ _ _ h => h) (Or.inl ⟨by rfl, ?_⟩) trivial ?_
          rotate_left
          · intro w hSw; go_simp; try with_reducible rfl
          try simp only [Act.put, List.setIfInBounds_toArray, List.set_cons_zero, List.set_cons_succ]
          refine takeL (i := 12) (v := ?_) rfl (by kernel_rfl) (by kernel_rfl) (by kernel_rfl) (fun _ _ _ h => h) (Or.inl ⟨by rfl, ?_⟩) trivial ?_
          rotate_left
          · intro w hSw; go_simp; try with_reducible rfl
          try simp only [Act.put, List.setIfInBounds_toArray, List.set_cons_zero, List.set_cons_succ]
          refine takeL (i := 13) (v := ?_) rfl (by kernel_rfl) (by kernel_rfl) (by kernel_rfl) (fun _ _ _ h => h) (Or.inl ⟨by rfl, ?_⟩) trivial ?_
          rotate_left
          · intro w hSw; go_simp; try with_reducible rfl
          try simp only [Act.put, List.setIfInBounds_toArray, List.set_cons_zero, List.set_cons_succ]
          refine takeL (i := 14) (v := undef) rfl (by kernel_rfl) (by kernel_rfl) (by kernel_rfl) (fun _ _ _ h => h) (Or.inr ⟨by rfl, rfl⟩) trivial ?_
          try simp only [Act.put, List.setIfInBounds_toArray, List.set_cons_zero, List.set_cons_succ]
          refine takeL (i := 15) (v := undef) rfl (by kernel_rfl) (by kernel_rfl) (by kernel_rfl) (fun _ _ _ h => h) (Or.inr ⟨by rfl, rfl⟩) trivial ?_
          try simp only [Act.put, List.setIfInBounds_toArray, List.set_cons_zero, List.set_cons_succ]
          refine takeL (i := 16) (v := undef) rfl (by kernel_rfl) (by kernel_rfl) (by kernel_rfl) (fun _ _ _ h => h) (Or.inr ⟨by rfl, rfl⟩) trivial ?_
          try simp only [Act.put, List.setIfInBounds_toArray, List.set_cons_zero, List.set_cons_succ]
          refine takeL (i := 17) (v := ?_) rfl (by kernel_rfl) (by kernel_rfl) (by kernel_rfl) (fun _ _ _ h => h) (Or.inl ⟨by rfl, ?_⟩) trivial ?_
          rotate_left
          · intro w hSw; go_simp; try with_reducible rfl
          try simp only [Act.put, List.setIfInBounds_toArray, List.set_cons_zero, List.set_cons_succ]
          refine readyL (i := 18) (by kernel_rfl) rfl (fun K hK => ?_)
          go_simp
          refine hK.out _ _ trivial (fun _ => ?_)
          clear hK K
          try simp only [Act.put, List.setIfInBounds_toArray, List.set_cons_zero, List.set_cons_succ]
          refine takeL (i := 19) (v := ?_) rfl (by kernel_rfl) (by kernel_rfl) (by kernel_rfl) (fun _ _ _ h => h) (Or.inl ⟨by rfl, ?_⟩) trivial ?_
          rotate_left
          · intro w hSw; go_simp; try with_reducible rfl
          try simp only [Act.put, List.setIfInBounds_toArray, List.set_cons_zero, List.set_cons_succ]
          refine wpAnyH_done (by kernel_rfl) ?_ _
          clear e5
          go_wp2_with fail
          refine bodyPost_ret (v := .tuple #[.agg #[.int .i64 3, .string (s.extract k (k + d)), .int .i64 k], .bool (false)]) (by simp [results, Tryd.results28, go_sem]) rfl (HE.out _ _ ?_ (by simp; omega))
          first | exact ((Below.refl _ _).alloc (Nat.le_refl _) _).drew | exact (Below.refl _ _).alloc (Nat.le_refl _) _
end Go.Proofs.YtfgngakdhedcgaaDoor
