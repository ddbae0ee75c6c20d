/- Part of a proof: see the last text. -/
import Derived.Test.YtkfplcngmiljaaaGreatDoorUlm
set_option linter.unusedVariables false
set_option linter.unusedSimpArgs false
namespace Go.Proofs.YtkfplcngmiljaaaGreatDoor
open AI Go
namespace Mo
set_option maxRecDepth 100000
set_option maxHeartbeats 4000000
theorem lower_r (c : Int) : ref06_Lower_B c = some (mb (97 ≤ c ∧ c ≤ 122)) := by
 rw [ref06_Lower_B]; simp only [leI_mb, c_mb, m_tf, m_qf]
theorem digit_r (c : Int) : ref06_Digit_B c = some (mb (48 ≤ c ∧ c ≤ 57)) := by
 rw [ref06_Digit_B]; simp only [leI_mb, c_mb, m_tf, m_qf]
theorem upper_r (c : Int) : ref06_Upper_B c = some (mb (65 ≤ c ∧ c ≤ 90)) := by
 rw [ref06_Upper_B]; simp only [leI_mb, c_mb, m_tf, m_qf]
theorem within_r (n a b : Int) : ref07_within_B n a b = some (mb (a ≤ n ∧ n ≤ b)) := by
 rw [ref07_within_B]; simp only [leI_mb, c_mb, m_tf, m_qf]
theorem in_r (l : List ByteArray) (s : ByteArray) (hl : l.length ≤ 9223372036854775807) : ref07_In_B l s = some (mb (s ∈ l)) := by
 unfold ref07_In_B
 rw [k_loop (v := true) (P := fun _ y => ¬ y = s) hl (fun i y _ => by
   unfold ref07_In_L1
   simp only [eqB_mb, c_mb, k_rn])]
 simp only [m_ff]
 refine smb ?_
 constructor
 · intro h
   exact Classical.byContradiction fun hn => h fun i y hy e => hn (e ▸ List.mem_of_getElem? hy)
 · intro h hn
   obtain ⟨i, hi⟩ := List.getElem?_of_mem h
   exact hn i s hi rfl
theorem cur_r (s : ByteArray) : ref07_Cur_B s = some (mb (curP s)) := by
 rw [ref07_Cur_B, eqI_mb, c_mb]
 unfold curP
 by_cases h : s.data.toList.length = 3
 · rw [iff_T (by omega)]
   generalize s.data.toList = l at h
   match l, h with
   | [a, b, c], _ =>
     simp only [List.getElem?_cons_zero, List.getElem?_cons_succ, Option.bind_some, upper_r, c_mb, m_qf]
     refine smb ?_
     simp only [List.length_cons, List.length_nil, List.mem_cons, List.not_mem_nil, or_false, true_and, forall_eq_or_imp, forall_eq]
     omega
 · rw [iff_F (by omega)]
   exact smbF fun q => h q.1
theorem name_r (s : ByteArray) : ref07_Name_B s = some (mb (nameP s)) := by
 rw [ref07_Name_B]
 simp only [ltI_mb, c_mb]
 unfold nameP
 by_cases h0 : ((s.data.toList.length : Nat) : Int) < 1
 · rw [iff_T h0]; exact smbF fun h => by omega
 rw [iff_F h0]
 by_cases h1 : 16 < ((s.data.toList.length : Nat) : Int)
 · rw [iff_T h1]; exact smbF fun h => by omega
 rw [iff_F h1]
 obtain ⟨b, hb⟩ : ∃ b, s.data.toList[0]? = some b := ⟨_, List.getElem?_eq_getElem (by omega)⟩
 rw [hb, show ref07_Keys_B = some keysL from rfl]
 simp only [Option.bind_some, lower_r, c_mb]
 rw [in_r _ _ (by decide), k_loop (v := false) (P := fun _ y => wordN y) (by omega) (fun i y _ => by
   simp only [ref07_Name_L1, lower_r, digit_r, Option.bind_some, c_mb, eqI_mb, k_nr, k_nq]
   congr 2
   unfold wordN
   apply propext
   omega)]
 simp only [Option.bind_some, c_mb, m_tf, m_fq, m_qf, mem_at]
 refine smb ?_
 constructor
 · rintro ⟨h3, h5, h6⟩
   exact ⟨by omega, ⟨b, rfl, by omega⟩, h5, h6⟩
 · rintro ⟨h3, ⟨c, hc, h4⟩, h5, h6⟩
   cases hc
   exact ⟨by omega, h5, h6⟩
def zD (n : Nd) : Prop := n.fr = 0 ∧ n.to = 0 ∧ n.known = 0
def zT (n : Nd) : Prop := n.tab.den = 0 ∧ n.tab.ps = []
theorem len0 {α : Type} (l : List α) : (((l.length : Nat) : Int) = 0) = (l = []) := propext ⟨fun h => List.eq_nil_of_length_eq_zero (by omega), fun h => by rw [h]; rfl⟩
section
variable (n : Nd)
theorem blank32 : ref07_blank_32_B n = some (mb (n.name = eS ∧ n.unit = eS ∧ n.n = 0 ∧ zD n ∧ zT n)) := by
 rw [ref07_blank_32_B]; simp only [eqI_mb, eqB_mb, c_mb, m_tf, m_qf, len0, zD, zT]; exact smb (by simp only [and_assoc])
theorem blank6 : ref07_blank_6_B n = some (mb (n.name = eS ∧ zD n ∧ zT n ∧ n.kids = [])) := by
 rw [ref07_blank_6_B]; simp only [eqI_mb, eqB_mb, c_mb, m_tf, m_qf, len0, zD, zT]; exact smb (by simp only [and_assoc])
theorem blank1 : ref07_blank_1_B n = some (mb (n.unit = eS ∧ n.n = 0 ∧ zD n ∧ zT n ∧ n.kids = [])) := by
 rw [ref07_blank_1_B]; simp only [eqI_mb, eqB_mb, c_mb, m_tf, m_qf, len0, zD, zT]; exact smb (by simp only [and_assoc])
theorem blank4 : ref07_blank_4_B n = some (mb (n.name = eS ∧ n.unit = eS ∧ zD n ∧ zT n ∧ n.kids = [])) := by
 rw [ref07_blank_4_B]; simp only [eqI_mb, eqB_mb, c_mb, m_tf, m_qf, len0, zD, zT]; exact smb (by simp only [and_assoc])
theorem blank33 : ref07_blank_33_B n = some (mb (n.unit = eS ∧ n.n = 0 ∧ zD n ∧ zT n)) := by
 rw [ref07_blank_33_B]; simp only [eqI_mb, eqB_mb, c_mb, m_tf, m_qf, len0, zD, zT]; exact smb (by simp only [and_assoc])
theorem blank48 : ref07_blank_48_B n = some (mb (n.name = eS ∧ n.unit = eS ∧ n.n = 0 ∧ zD n)) := by
 rw [ref07_blank_48_B]; simp only [eqI_mb, eqB_mb, c_mb, m_tf, m_qf, zD]
theorem blank3 : ref07_blank_3_B n = some (mb (n.n = 0 ∧ zD n ∧ zT n ∧ n.kids = [])) := by
 rw [ref07_blank_3_B]; simp only [eqI_mb, eqB_mb, c_mb, m_tf, m_qf, len0, zD, zT]; exact smb (by simp only [and_assoc])
theorem blank7 : ref07_blank_7_B n = some (mb (zD n ∧ zT n ∧ n.kids = [])) := by
 rw [ref07_blank_7_B]; simp only [eqI_mb, eqB_mb, c_mb, m_tf, m_qf, len0, zD, zT]; exact smb (by simp only [and_assoc])
theorem blank37 : ref07_blank_37_B n = some (mb (n.unit = eS ∧ zD n ∧ zT n)) := by
 rw [ref07_blank_37_B]; simp only [eqI_mb, eqB_mb, c_mb, m_tf, m_qf, len0, zD, zT]; exact smb (by simp only [and_assoc])
theorem blank12 : ref07_blank_12_B n = some (mb (n.name = eS ∧ n.unit = eS ∧ zT n ∧ n.kids = [])) := by
 rw [ref07_blank_12_B]; simp only [eqI_mb, eqB_mb, c_mb, m_tf, m_qf, len0, zT]; exact smb (by simp only [and_assoc])
end
theorem lenN {α : Type} {l : List α} : l.length = 0 ↔ l = [] := List.length_eq_zero_iff
theorem tmod_le {a d m : Int} (hd : 0 < d) (h : a.tmod d = 0) : (-m ≤ a.tdiv d ∧ a.tdiv d ≤ m) ↔ (-(m * d) ≤ a ∧ a ≤ m * d) := by
 have e : d * a.tdiv d = a := Int.mul_tdiv_cancel' (Int.dvd_of_tmod_eq_zero h)
 generalize a.tdiv d = q at *
 subst e
 constructor
 · rintro ⟨h1, h2⟩
   have a1 := Int.mul_le_mul_of_nonneg_left h1 (Int.le_of_lt hd)
   have a2 := Int.mul_le_mul_of_nonneg_left h2 (Int.le_of_lt hd)
   rw [Int.mul_neg, Int.mul_comm d m] at a1
   rw [Int.mul_comm d m] at a2
   exact ⟨a1, a2⟩
 · rintro ⟨h1, h2⟩
   rw [Int.mul_comm m d] at h1 h2
   refine ⟨Int.le_of_mul_le_mul_left ?_ hd, Int.le_of_mul_le_mul_left h2 hd⟩
   rw [Int.mul_neg]; exact h1
theorem table_r (f : Fn) (hf : okFn f) : ref07_table_B f = some (mb (tabP f)) := by
 obtain ⟨hl, hpc⟩ := hf
 rw [ref07_table_B, within_r, within_r]
 simp only [Option.bind_some, c_mb]
 by_cases hr : 1 ≤ f.den ∧ f.den ≤ 1000000
 rotate_left
 · rw [iff_F hr]; exact smbF fun q => hr q.1
 rw [iff_T hr]
 by_cases hn : 1 ≤ ((f.ps.length : Nat) : Int) ∧ ((f.ps.length : Nat) : Int) ≤ 64
 rotate_left
 · rw [iff_F hn]; exact smbF fun q => hn ⟨by have := q.2.1; omega, by have := q.2.1; omega⟩
 rw [iff_T hn, k_loop (v := false) (P := fun i y => pieceOk f i y ∧ (i = 0 → y.fr = 0)) hl (fun i y hy => by
   have hi : i < f.ps.length := (List.getElem?_eq_some_iff.1 hy).1
   obtain ⟨_, hat, _⟩ := hpc y (List.mem_of_getElem? hy)
   have hden : f.den ≠ 0 := by omega
   have hd0 : 0 < f.den := by omega
   have hm : drem y.att f.den = some (y.att.tmod f.den) := by unfold drem wrem; rw [if_neg hden]
   have hq : dquo y.att f.den = some (y.att.tdiv f.den) := by
     unfold dquo wquo
     rw [if_neg hden]
     have h1 : (y.att.tdiv f.den).natAbs ≤ y.att.natAbs := Int.natAbs_tdiv_le_natAbs _ _
     have h3 : -9223372036854775808 ≤ y.att.tdiv f.den ∧ y.att.tdiv f.den ≤ 9223372036854775807 := by
       by_cases hneg : f.den = 1
       · rw [hneg, Int.tdiv_one]; exact hat
       · have h2 : y.att.natAbs ≤ 9223372036854775808 := by omega
         have h4 : (y.att.tdiv f.den).natAbs < 9223372036854775808 := by
           rw [Int.natAbs_tdiv]
           have h5 : 2 ≤ f.den.natAbs := by omega
           have : y.att.natAbs / f.den.natAbs ≤ y.att.natAbs / 2 := Nat.div_le_div_left h5 (by decide)
           have h6 : y.att.natAbs / 2 ≤ 9223372036854775808 / 2 := Nat.div_le_div_right h2
           exact Nat.lt_of_le_of_lt (Nat.le_trans this h6) (by decide)
         omega
     congr 1
     have h7 := wrapF_in h3
     rw [wrapF_eq] at h7
     exact h7
   have hwm1 : wmul 999999999999 f.den = 999999999999 * f.den := wmul_in (by omega)
   have hwm2 : wmul (-999999999999) f.den = -(999999999999 * f.den) := by rw [wmul_in (by omega)]; omega
   simp only [ref07_table_L1, hm, hq, within_r, Option.bind_some, eqI_mb, ltI_mb, leI_mb, c_mb]
   unfold pieceOk
   rw [hm, hwm1, hwm2]
   by_cases h0 : i = 0
   · subst h0
     rw [iff_T (show (((0 : Nat) : Int) = 0) from rfl)]
     simp only [k_nr, k_rq, k_qr]
     congr 2
     apply propext
     simp only [Option.some.injEq, Nat.lt_irrefl, false_implies, implies_true, true_and]
     constructor
     · rintro ⟨a, b, c, d, e⟩
       have := (tmod_le (m := 999999999999) hd0 a).1 b
       exact ⟨⟨by omega, a, this.2, this.1, c.2, c.1⟩, fun _ => e⟩
     · rintro ⟨⟨a, b, c, d, e, g⟩, h⟩
       exact ⟨b, (tmod_le hd0 b).2 ⟨d, c⟩, ⟨g, e⟩, by omega, h trivial⟩
   · rw [iff_F (show ¬ (((i : Nat) : Int) = 0) by omega), iff_T (show (0 : Int) < ((i : Nat) : Int) by omega), wsub_in (by omega)]
     obtain ⟨pv, hpq⟩ : ∃ pv, f.ps[i - 1]? = some pv := ⟨_, List.getElem?_eq_getElem (by omega)⟩
     have hg : geti f.ps (((i : Nat) : Int) - 1) = some pv := by
       unfold geti
       rw [show (((i : Nat) : Int) - 1).toNat = i - 1 by omega, if_pos (by omega)]
       exact hpq
     rw [hg, hpq]
     simp only [Option.bind_some, k_rn, k_rq, k_qr]
     congr 2
     apply propext
     simp only [Option.some.injEq, forall_eq']
     constructor
     · rintro ⟨a, b, c, d, e⟩
       have := (tmod_le (m := 999999999999) hd0 a).1 b
       exact ⟨⟨by omega, fun q _ e => by subst e; omega, a, this.2, this.1, c.2, c.1⟩, fun q => absurd q h0⟩
     · rintro ⟨⟨a, p, b, c, d, e, g⟩, h⟩
       exact ⟨b, (tmod_le hd0 b).2 ⟨d, c⟩, ⟨g, e⟩, by omega, by have := p pv (by omega) rfl; omega⟩), m_tf]
 refine smb ?_
 unfold tabP ratioP
 constructor
 · intro h
   exact ⟨hr, by omega, fun x hx => (h 0 x hx).2 rfl, fun i p hp => (h i p hp).1⟩
 · rintro ⟨_, _, h3, h4⟩ i p hp
   exact ⟨h4 i p hp, fun e => h3 p (by rw [← e]; exact hp)⟩
theorem num_r (n : Nd) : ref07_number_B n = some (mb (n.kind = 11 ∧ (n.name = eS ∧ zD n ∧ zT n ∧ n.kids = []) ∧ n.unit = numberS ∧ ratioP n.n)) := by
 rw [ref07_number_B, blank6, within_r]
 simp only [Option.bind_some, eqI_mb, eqB_mb, c_mb, m_qf]
 rfl
end Mo
end Go.Proofs.YtkfplcngmiljaaaGreatDoor
namespace Go.Proofs.YtkfplcngmiljaaaGreatDoor
open AI Go
namespace Mo
set_option maxRecDepth 100000
set_option maxHeartbeats 4000000
theorem szL_app (l m : List Nd) : szL (l ++ m) = szL l + szL m := by
 induction l with
 | nil => simp [szL]
 | cons a l ih => simp only [List.cons_append, szL, ih]; omega
theorem szL_step {l : List Nd} {i : Nat} {y : Nd} (h : l[i]? = some y) : szL (l.take (i + 1)) = szL (l.take i) + szN y := by
 rw [List.take_add_one, h, szL_app]; simp [szL]
theorem szL_take (l : List Nd) (i : Nat) : szL (l.take i) ≤ szL l := by
 have := szL_app (l.take i) (l.drop i)
 rw [List.take_append_drop] at this
 omega
theorem cnt_m : ∀ (n : Nat) (e : Nd) (l : Int), okNd e → szN e ≤ n → l ≤ 1000000 → ref07_Count_M n e l = some (max 0 (min ((szN e : Nat) : Int) l)) := by
 intro n
 induction n with
 | zero => intro e l _ h; have := szN_eq e; omega
 | succ n ih =>
   intro e l hok hn hl
   obtain ⟨_, hk, hks⟩ := okNd_l hok
   have hp := szN_eq e
   rw [ref07_Count_M, ref07_Count_B, Sp_eq]
   simp only [leI_mb, c_mb, Sp_iff, Sp_some]
   refine ⟨fun h => by omega, fun h => ?_⟩
   refine Sp_loop (fun i x => x = min (((1 + szL (e.kids.take i) : Nat)) : Int) l) hk (by simp [szL]; omega) (fun i y x hy hx => ?_) (fun x hx => ?_)
   · have hm := List.mem_of_getElem? hy
     have h1 := szL_step hy
     have h2 := szL_take e.kids (i + 1)
     have h3 := szN_kid hm
     simp only [ref07_Count_L1, ltI_mb, c_mb, Sp_iff, Sp_bind, Sp_some, RQ_nx, RQ_ex]
     refine ⟨fun h4 => ?_, fun h4 => by omega⟩
     rw [wsub_in (by omega), ih y (l - x) (hks y hm) (by omega) (by omega), Sp_some, wadd_in (by omega)]
     omega
   · rw [List.take_length] at hx
     rw [Sp_some]; omega
theorem few_r (e : Nd) (l : Int) (h : okNd e) (hl : 0 ≤ l ∧ l < 1000000) : ref07_Few_B e l = some (mb (((szN e : Nat) : Int) ≤ l)) := by
 have hc : ref07_Count_R e (l + 1) = some (max 0 (min ((szN e : Nat) : Int) (l + 1))) := evt_of (szN e) fun n hn => cnt_m n e (l + 1) h hn (by omega)
 rw [ref07_Few_B, wadd_in (by omega), hc, Sp_eq]
 simp only [leI_mb, c_mb, Sp_iff, Sp_some, Sp_bind, true_is_mb, false_is_mb]
 omega
theorem flat_m : ∀ (n : Nat) (e : Nd) (l : Int), okNd e → szN e ≤ n → -1000000 ≤ l → l ≤ 1000000 → ref07_Flat_M n e l = some (mb (((dpN e : Nat) : Int) ≤ l)) := by
 intro n
 induction n with
 | zero => intro e l _ h; have := szN_eq e; omega
 | succ n ih =>
   intro e l hok hn hl0 hl
   obtain ⟨_, hk, hks⟩ := okNd_l hok
   have hp := dpN_eq e
   rw [ref07_Flat_M, ref07_Flat_B, ltI_mb, c_mb]
   by_cases h : l < 1
   · rw [iff_T h]; refine smbF ?_; omega
   rw [iff_F h, k_loop (v := false) (P := fun _ y => ((dpN y : Nat) : Int) ≤ l - 1) hk (fun i y hy => by
     have hm := List.mem_of_getElem? hy
     have h3 := szN_kid hm
     simp only [ref07_Flat_L1]
     rw [wsub_in (by omega), ih y (l - 1) (hks y hm) (by omega) (by omega) (by omega)]
     simp only [Option.bind_some, c_mb, k_nr]), m_tf, mem_at]
   refine smb ?_
   have h4 : (∀ k ∈ e.kids, ((dpN k : Nat) : Int) ≤ l - 1) ↔ dpL e.kids ≤ (l - 1).toNat := by
     rw [dpL_le]
     exact ⟨fun h k hk => by have := h k hk; omega, fun h k hk => by have := h k hk; omega⟩
   rw [h4]
   omega
theorem fits_r (e : Nd) (h : okNd e) : ref07_fits_B e = some (mb (szN e ≤ 2000 ∧ dpN e ≤ 40)) := by
 have hf : ref07_Flat_R e 40 = some (mb (((dpN e : Nat) : Int) ≤ 40)) := evt_of (szN e) fun n hn => flat_m n e 40 h hn (by omega) (by omega)
 rw [ref07_fits_B, few_r e 2000 h (by omega), hf]
 simp only [Option.bind_some, c_mb, m_qf]
 refine smb ?_
 omega
theorem eqN {n : Nd} {nm un : ByteArray} {k f t w : Int} {tb : Fn} : bareP n ⟨0, nm, un, k, f, t, w, tb, [], 0⟩ ↔ n.name = nm ∧ n.unit = un ∧ n.n = k ∧ n.fr = f ∧ n.to = t ∧ n.known = w ∧ n.tab.den = tb.den ∧ n.tab.ps = tb.ps := Iff.rfl
theorem numK_bare {k : Nd} : exP k ∧ numK k ↔ (k.kind = 11 ∧ (k.name = eS ∧ zD k ∧ zT k ∧ k.kids = []) ∧ k.unit = numberS ∧ ratioP k.n) := by
 rw [exP_iff]
 unfold numK zD zT ratioP
 constructor
 · rintro ⟨⟨h1, _⟩, h2, h3, h4⟩
   obtain ⟨_, _, _, _, hl, hb⟩ := (ex11 h2).1 h1
   obtain ⟨b1, _, _, b4, b5, b6, b7, b8⟩ := eqN.1 hb
   exact ⟨h2, ⟨b1, ⟨b4, b5, b6⟩, ⟨b7, b8⟩, lenN.1 hl⟩, h3, h4⟩
 · rintro ⟨h2, ⟨b1, ⟨b4, b5, b6⟩, ⟨b7, b8⟩, hl⟩, h3, h4⟩
   refine ⟨⟨(ex11 h2).2 ⟨.inr (.inl h3), by omega, by omega, fun e => ?_, by rw [hl]; rfl, eqN.2 ⟨b1, rfl, rfl, b4, b5, b6, b7, b8⟩⟩, fun k hk => by rw [hl] at hk; cases hk⟩, h2, h3, h4⟩
   rw [h3] at e
   exact absurd (congrArg ByteArray.data e) (by decide)
theorem expr_rm : ∀ (q : Nat) (n : Nd), okNd n → 2 * szN n ≤ q → ref07_expr_M q n = some (mb (exP n)) := by
 intro q
 induction q using Nat.strongRecOn with
 | _ q ih =>
 intro n hok hq
 have hsz := szN_eq n
 obtain ⟨q, rfl⟩ : ∃ k, q = k + 1 := ⟨q - 1, by omega⟩
 obtain ⟨hps, hkl, hks⟩ := okNd_l hok
 have hfn := ((okNd_iff n).1 hok).1
 have hE : ∀ k ∈ n.kids, ∀ q', q ≤ q' + 1 → q' < q + 1 → ref07_expr_M q' k = some (mb (exP k)) := fun k hk q' h4 h5 => ih q' h5 k (hks k hk) (by have := szL_mem hk; omega)
 have hL : 0 < n.kids.length → ref07_exprs_M q n.kids = some (mb (∀ k ∈ n.kids, exP k)) := by
   intro h
   obtain ⟨q, rfl⟩ : ∃ k, q = k + 1 := ⟨q - 1, by have := szL_len n.kids; omega⟩
   rw [ref07_exprs_M, ref07_exprs_B, k_loop (v := false) (P := fun _ y => exP y) hkl (fun i y hy => by
     simp only [ref07_exprs_L1]
     rw [hE y (List.mem_of_getElem? hy) q (by omega) (by omega)]
     simp only [Option.bind_some, c_mb, k_nr]), m_tf, mem_at]
 rw [ref07_expr_M, ref07_expr_B]
 simp only [eqI_mb, eqB_mb, leI_mb, c_mb, blank6, blank1, blank4, blank32, blank33, blank48, within_r, cur_r, name_r, num_r, table_r _ hfn, Option.bind_some]
 rw [exP_iff]
 have nokids : n.kids = [] → (∀ k ∈ n.kids, exP k) := fun h k hk => by rw [h] at hk; cases hk
 by_cases k11 : n.kind = 11
 · rw [iff_T k11, ex11 k11, eqN, lenN]
   simp only [m_tf, m_qf, m_tq, m_same, zD, zT, unitP]
   have tt : iff_ (curP n.unit) (some true) (some true) = some (mb True) := by rw [m_same, mbT]
   have hb : ∀ {A : Prop}, iff_ A (some (mb True)) (some false) = some (mb A) := by intro A; rw [m_qf]; exact smb (by simp)
   first
     | (simp only [tt, mbT, m_qf, m_qr])
     | skip
   refine smb ⟨?_, ?_⟩
   · rintro ⟨⟨b1, ⟨b2, b3, b4⟩, ⟨b5, b6⟩, b7⟩, h1, h2⟩
     refine ⟨?_, nokids b7⟩
     by_cases ht : n.unit = truthS
     · have := h1 ht
       exact ⟨.inl ht, by omega, by omega, fun _ => by omega, b7, b1, trivial, trivial, b2, b3, b4, b5, b6⟩
     · obtain ⟨h3, h4⟩ := h2 ht
       refine ⟨?_, by omega, by omega, fun h => absurd h ht, b7, b1, trivial, trivial, b2, b3, b4, b5, b6⟩
       rcases h4 with h | h | h
       · exact .inr (.inr (.inr h))
       · exact .inr (.inl h)
       · exact .inr (.inr (.inl h))
   · rintro ⟨⟨h0, h1, h2, h3, b7, b1, _, _, b2, b3, b4, b5, b6⟩, _⟩
     refine ⟨⟨b1, ⟨b2, b3, b4⟩, ⟨b5, b6⟩, b7⟩, fun ht => ⟨⟨h1, h3 ht⟩, h1, h2⟩, fun ht => ⟨⟨h1, h2⟩, ?_⟩⟩
     rcases h0 with h | h | h | h
     · exact absurd h ht
     · exact .inr (.inl h)
     · exact .inr (.inr h)
     · exact .inl h
 rw [iff_F k11]
 by_cases k12 : n.kind = 12
 · rw [iff_T k12, ex12 k12, eqN, lenN]
   simp only [m_qf, zD, zT]
   refine smb ?_
   constructor
   · rintro ⟨⟨b1, b2, ⟨b3, b4, b5⟩, ⟨b6, b7⟩, b8⟩, h⟩
     exact ⟨⟨h, b8, trivial, b1, b2, b3, b4, b5, b6, b7⟩, nokids b8⟩
   · rintro ⟨⟨h, b8, _, b1, b2, b3, b4, b5, b6, b7⟩, _⟩
     exact ⟨⟨b1, b2, ⟨b3, b4, b5⟩, ⟨b6, b7⟩, b8⟩, h⟩
 rw [iff_F k12]
 by_cases k13 : n.kind = 13
 · rw [iff_T k13, ex13 k13, eqN, lenN]
   simp only [m_qf, zD, zT]
   refine smb ?_
   constructor
   · rintro ⟨⟨b1, b2, ⟨b3, b4, b5⟩, ⟨b6, b7⟩, b8⟩, h⟩
     exact ⟨⟨h, b8, b1, b2, trivial, b3, b4, b5, b6, b7⟩, nokids b8⟩
   · rintro ⟨⟨h, b8, b1, b2, _, b3, b4, b5, b6, b7⟩, _⟩
     exact ⟨⟨b1, b2, ⟨b3, b4, b5⟩, ⟨b6, b7⟩, b8⟩, h⟩
 rw [iff_F k13]
 by_cases k14 : n.kind = 14
 · rw [iff_T k14, ex14 k14, eqN, lenN, in_r _ _ (by decide)]
   simp only [Option.bind_some, m_qf, zD, zT]
   refine smb ?_
   have hd : n.name ∈ [weekdayS, dayS, monthS, yearS] ↔ dwordP n.name := by
     unfold dwordP
     simp only [List.mem_cons, List.not_mem_nil, or_false]
   rw [hd]
   constructor
   · rintro ⟨⟨b1, b2, ⟨b3, b4, b5⟩, ⟨b6, b7⟩, b8⟩, h⟩
     exact ⟨⟨h, b8, trivial, b1, b2, b3, b4, b5, b6, b7⟩, nokids b8⟩
   · rintro ⟨⟨h, b8, _, b1, b2, b3, b4, b5, b6, b7⟩, _⟩
     exact ⟨⟨b1, b2, ⟨b3, b4, b5⟩, ⟨b6, b7⟩, b8⟩, h⟩
 rw [iff_F k14]
 have hone : ∀ {β : Type} (f : Bool → Option β), n.kids.length = 1 → ((n.kids[0]?).bind fun x => (ref07_expr_M q x).bind f) = f (mb (∀ k ∈ n.kids, exP k)) := by
   intro β f hl
   have hE0 := fun k hk => hE k hk q (by omega) (by omega)
   generalize n.kids = ks at *
   match ks, hl with
   | [x], _ =>
   simp only [List.getElem?_cons_zero, Option.bind_some]
   rw [hE0 x (by simp)]
   simp only [Option.bind_some]
   congr 1
   exact mb_congr (by simp)
 by_cases k15 : n.kind = 15
 · rw [iff_T k15, ex15 k15, eqN]
   by_cases hl : n.kids.length = 1
   · rw [iff_T (show ((n.kids.length : Nat) : Int) = 1 by omega), hone _ hl]
     simp only [m_qf, zD, zT]
     refine smb ?_
     constructor
     · rintro ⟨⟨b1, b2, b0, ⟨b3, b4, b5⟩, ⟨b6, b7⟩⟩, h⟩
       exact ⟨⟨hl, b1, b2, b0, b3, b4, b5, b6, b7⟩, h⟩
     · rintro ⟨⟨_, b1, b2, b0, b3, b4, b5, b6, b7⟩, h⟩
       exact ⟨⟨b1, b2, b0, ⟨b3, b4, b5⟩, ⟨b6, b7⟩⟩, h⟩
   · rw [iff_F (show ¬ ((n.kids.length : Nat) : Int) = 1 by omega), m_same]
     exact smbF fun a => hl a.1.1
 rw [iff_F k15]
 by_cases k16 : n.kind = 16
 · rw [iff_T k16, ex16 k16, eqN, in_r _ _ (by decide)]
   have hop : n.name ∈ [orS, andS, q3d3dS, q213dS, q3cS, q3c3dS, q2bS, q2dS, q2aS, q2fS, atS] ↔ opP n.name := by
     unfold opP
     simp only [List.mem_cons, List.not_mem_nil, or_false]
     constructor
     · rintro (h | h | h | h | h | h | h | h | h | h | h) <;> simp [h]
     · rintro (h | h | h | h | h | h | h | h | h | h | h) <;> simp [h]
   by_cases hl : n.kids.length = 2
   rotate_left
   · rw [iff_F (show ¬ ((n.kids.length : Nat) : Int) = 2 by omega), m_same]
     exact smbF fun a => hl a.1.2.1
   rw [iff_T (show ((n.kids.length : Nat) : Int) = 2 by omega), hL (by omega)]
   have hk1 : n.kids[1]? = some n.kids[1] := List.getElem?_eq_getElem (by omega)
   have hmem : n.kids[1] ∈ n.kids := List.getElem_mem _
   rw [hk1]
   simp only [Option.bind_some, num_r, c_mb, m_qf, m_qr, hop, zD, zT]
   refine smb ?_
   have hnum := @numK_bare n.kids[1]
   unfold zD zT at hnum
   generalize n.kids[1] = x at *
   simp only [Option.some.injEq, forall_eq']
   constructor
   · rintro ⟨⟨b2, b0, ⟨b3, b4, b5⟩, ⟨b6, b7⟩⟩, h1, h2⟩
     by_cases hs : n.name = q2fS
     · obtain ⟨c1, c2, c3⟩ := h1 hs
       exact ⟨⟨⟨trivial, b2, b0, b3, b4, b5, b6, b7⟩, hl, c2, fun _ => (hnum.2 c1).2⟩, c3⟩
     · obtain ⟨c2, c3⟩ := h2 hs
       exact ⟨⟨⟨trivial, b2, b0, b3, b4, b5, b6, b7⟩, hl, c2, fun h => absurd h hs⟩, c3⟩
   · rintro ⟨⟨⟨_, b2, b0, b3, b4, b5, b6, b7⟩, _, c2, c1⟩, c3⟩
     exact ⟨⟨b2, b0, ⟨b3, b4, b5⟩, ⟨b6, b7⟩⟩, fun hs => ⟨hnum.1 ⟨c3 x hmem, c1 hs⟩, c2, c3⟩, fun _ => ⟨c2, c3⟩⟩
 rw [iff_F k16]
 by_cases k17 : n.kind = 17
 · rw [iff_T k17, ex17 k17, eqN]
   by_cases hl : 2 ≤ n.kids.length
   rotate_left
   · rw [iff_F (show ¬ 2 ≤ ((n.kids.length : Nat) : Int) by omega), m_same]
     exact smbF fun a => hl a.1.2.2
   rw [iff_T (show 2 ≤ ((n.kids.length : Nat) : Int) by omega), hL (by omega)]
   simp only [Option.bind_some, m_qf, m_qr, zD, zT]
   refine smb ?_
   constructor
   · rintro ⟨⟨b2, b0, ⟨b3, b4, b5⟩, ⟨b6, b7⟩⟩, h1, h2⟩
     by_cases hs : n.name = leastS
     · exact ⟨⟨.inl hs, ⟨trivial, b2, b0, b3, b4, b5, b6, b7⟩, hl⟩, h1 hs⟩
     · exact ⟨⟨.inr (h2 hs).1, ⟨trivial, b2, b0, b3, b4, b5, b6, b7⟩, hl⟩, (h2 hs).2⟩
   · rintro ⟨⟨c1, ⟨_, b2, b0, b3, b4, b5, b6, b7⟩, _⟩, c3⟩
     exact ⟨⟨b2, b0, ⟨b3, b4, b5⟩, ⟨b6, b7⟩⟩, fun _ => c3, fun hs => ⟨c1.resolve_left hs, c3⟩⟩
 rw [iff_F k17]
 by_cases k18 : n.kind = 18
 · rw [iff_T k18, ex18 k18, eqN]
   by_cases hl : n.kids.length = 1
   · rw [iff_T (show ((n.kids.length : Nat) : Int) = 1 by omega), hone _ hl]
     simp only [c_mb, m_qf, zD]
     refine smb ?_
     constructor
     · rintro ⟨⟨b1, b2, b0, ⟨b3, b4, b5⟩⟩, h, h2⟩
       exact ⟨⟨⟨b1, b2, b0, b3, b4, b5, trivial, trivial⟩, h2, hl⟩, h⟩
     · rintro ⟨⟨⟨b1, b2, b0, b3, b4, b5, _, _⟩, h2, _⟩, h⟩
       exact ⟨⟨b1, b2, b0, ⟨b3, b4, b5⟩⟩, h, h2⟩
   · rw [iff_F (show ¬ ((n.kids.length : Nat) : Int) = 1 by omega), m_same]
     exact smbF fun a => hl a.1.2.2
 rw [iff_F k18]
 exact smbF fun a => by have := ex_kind a.1; omega
theorem expr_r {n : Nd} (hok : okNd n) : ref07_expr_R n = some (mb (exP n)) := evt_of (2 * szN n) fun q hq => expr_rm q n hok hq
theorem head_r {n : Nd} : ref07_head_B n = some (mb (headP n)) := by
 rw [ref07_head_B, blank12]
 simp only [within_r, Option.bind_some, eqI_mb, c_mb]
 unfold headP
 rw [eqN, lenN]
 unfold zT dayP
 by_cases hf : 0 ≤ n.fr ∧ n.fr ≤ 36524
 · rw [wadd_in (by omega)]
   simp only [m_qf]
   refine smb ⟨?_, ?_⟩
   · rintro ⟨k5, ⟨b1, b2, ⟨b3, b4⟩, b5⟩, ⟨h1, h2⟩, h3, ⟨h4, h5⟩, h6⟩
     exact ⟨k5, ⟨h1, h2⟩, b5, h3, ⟨by omega, h5⟩, h6, b1, b2, trivial, trivial, trivial, trivial, b3, b4⟩
   · rintro ⟨k5, h1, b5, h3, ⟨h4, h5⟩, h6, b1, b2, _, _, _, _, b3, b4⟩
     exact ⟨k5, ⟨b1, b2, ⟨b3, b4⟩, b5⟩, h1, h3, ⟨by omega, h5⟩, h6⟩
 · rw [iff_F hf]
   simp only [m_same]
   exact smbF fun a => hf a.2.2.2.1
theorem numbers_r (l : List Nd) (hl : l.length ≤ 9223372036854775807) : ref07_numbers_B l = some (mb (0 < l.length ∧ ∀ k ∈ l, exP k ∧ numK k)) := by
 rw [ref07_numbers_B, k_loop (v := false) (P := fun _ k => exP k ∧ numK k) hl (fun i k _ => by
   simp only [ref07_numbers_L1, num_r, Option.bind_some, c_mb, k_nr, numK_bare]), ltI_mb, c_mb]
 simp only [m_tf, m_qf, mem_at]
 exact smb ⟨fun a => ⟨by omega, a.1⟩, fun a => ⟨a.2, by omega⟩⟩
theorem blankz (n : Nd) : bareP n z0 ↔ n.name = eS ∧ n.unit = eS ∧ n.n = 0 ∧ zD n ∧ zT n := by
 unfold zD zT
 rw [eqN]
 simp only [and_assoc]
theorem clauses_fold_r : ∀ {l : List Nd} {i : Nat} {a b : Nat}, (∀ x ∈ l, okNd x) → a + l.length ≤ 9223372036854775807 → b + l.length ≤ 9223372036854775807 →
   foldL (fun i y x => ref07_clauses_L1 i y x.1 x.2) (fun x => (x.1, x.2)) l i (((a : Nat) : Int), ((b : Nat) : Int)) = (some (iff_ (kinds l ∧ ∀ k ∈ l, clauseP k) (.inl (((a + cntK 7 l : Nat) : Int), ((b + cntK 8 l : Nat) : Int))) (.inr false)) : Option ((Int × Int) ⊕ Bool))
 | [], i, a, b, _, _, _ => by rw [iff_T (show kinds [] ∧ _ from ⟨fun k hk => (by cases hk), fun k hk => (by cases hk)⟩)]; rfl
 | x :: l, i, a, b, hok, ha, hb => by
   simp only [List.length_cons] at ha hb
   have hx := hok x (by simp)
   obtain ⟨hps, hkl, hks⟩ := okNd_l hx
   rw [foldL, ref07_clauses_L1, blank32]
   simp only [Option.bind_some, eqI_mb, c_mb, numbers_r _ hkl]
   have hsplit : (kinds (x :: l) ∧ ∀ k ∈ x :: l, clauseP k) ↔ ((6 ≤ x.kind ∧ x.kind ≤ 8) ∧ clauseP x) ∧ kinds l ∧ ∀ k ∈ l, clauseP k := by
     unfold kinds
     simp only [List.mem_cons, forall_eq_or_imp]
     exact ⟨fun ⟨⟨p, q⟩, r, s⟩ => ⟨⟨p, r⟩, q, s⟩, fun ⟨⟨p, r⟩, q, s⟩ => ⟨⟨p, q⟩, r, s⟩⟩
   have stop : ¬ ((6 ≤ x.kind ∧ x.kind ≤ 8) ∧ clauseP x) → (some (Lp.rt false) : Option (Lp (Int × Int) (Int × Int) Bool)).bind (foldK (foldL (fun i y x => ref07_clauses_L1 i y x.1 x.2) (fun x => (x.1, x.2)) l (i + 1))) = some (iff_ (kinds (x :: l) ∧ ∀ k ∈ x :: l, clauseP k) (.inl (((a + cntK 7 (x :: l) : Nat) : Int), ((b + cntK 8 (x :: l) : Nat) : Int))) (.inr false)) := by
     intro h
     rw [iff_F fun q => h (hsplit.1 q).1]; rfl
   have go : ∀ {a' b' : Nat}, ((6 ≤ x.kind ∧ x.kind ≤ 8) ∧ clauseP x) → a' ≤ a + 1 → b' ≤ b + 1 → a' + cntK 7 l = a + cntK 7 (x :: l) → b' + cntK 8 l = b + cntK 8 (x :: l) → (some (Lp.nx (((a' : Nat) : Int), ((b' : Nat) : Int))) : Option (Lp (Int × Int) (Int × Int) Bool)).bind (foldK (foldL (fun i y x => ref07_clauses_L1 i y x.1 x.2) (fun x => (x.1, x.2)) l (i + 1))) = some (iff_ (kinds (x :: l) ∧ ∀ k ∈ x :: l, clauseP k) (.inl (((a + cntK 7 (x :: l) : Nat) : Int), ((b + cntK 8 (x :: l) : Nat) : Int))) (.inr false)) := by
     intro a' b' h h1 h2 e1 e2
     have ih := clauses_fold_r (l := l) (i := i + 1) (a := a') (b := b') (fun y hy => hok y (by simp [hy])) (by omega) (by omega)
     rw [e1, e2] at ih
     show foldL _ _ l (i + 1) _ = _
     rw [ih]
     by_cases hr : kinds l ∧ ∀ k ∈ l, clauseP k
     · rw [iff_T hr, iff_T (hsplit.2 ⟨h, hr⟩)]
     · rw [iff_F hr, iff_F fun q => hr (hsplit.1 q).2]
   rw [← blankz]
   by_cases hb0 : bareP x z0
   rotate_left
   · rw [iff_F hb0]; exact stop fun q => hb0 q.2.1
   rw [iff_T hb0]
   have one : ∀ {A B : Option (Lp (Int × Int) (Int × Int) Bool)}, x.kind ≠ 7 → (clauseP x → A.bind (foldK (foldL (fun i y x => ref07_clauses_L1 i y x.1 x.2) (fun x => (x.1, x.2)) l (i + 1))) = some (iff_ (kinds (x :: l) ∧ ∀ k ∈ x :: l, clauseP k) (.inl (((a + cntK 7 (x :: l) : Nat) : Int), ((b + cntK 8 (x :: l) : Nat) : Int))) (.inr false))) →
       (iff_ (((x.kids.length : Nat) : Int) = 1) ((x.kids[0]?).bind fun x2 => (ref07_expr_R x2).bind fun y3 => cond y3 A (some (.rt false))) (some (.rt false))).bind (foldK (foldL (fun i y x => ref07_clauses_L1 i y x.1 x.2) (fun x => (x.1, x.2)) l (i + 1))) = some (iff_ (kinds (x :: l) ∧ ∀ k ∈ x :: l, clauseP k) (.inl (((a + cntK 7 (x :: l) : Nat) : Int), ((b + cntK 8 (x :: l) : Nat) : Int))) (.inr false)) := by
     intro A B k7 hA
     by_cases hl : x.kids.length = 1
     rotate_left
     · rw [iff_F (by omega)]; exact stop fun q => hl (q.2.2.2 k7).1
     rw [iff_T (by omega)]
     obtain ⟨k, hk⟩ : ∃ k, x.kids = [k] := by
       generalize x.kids = ks at hl
       match ks, hl with
       | [k], _ => exact ⟨k, rfl⟩
     have h0 : x.kids[0]? = some k := by rw [hk]; rfl
     rw [h0]
     simp only [Option.bind_some]
     rw [expr_r (hks k (by rw [hk]; simp))]
     simp only [Option.bind_some, c_mb]
     have hc : clauseP x ↔ exP k := by
       unfold clauseP
       constructor
       · intro q; exact (q.2.2 k7).2 k (by rw [hk]; simp)
       · intro q; exact ⟨hb0, fun h => absurd h k7, fun _ => ⟨hl, fun k' hk' => by rw [hk, List.mem_singleton] at hk'; rw [hk']; exact q⟩⟩
     by_cases he : exP k
     · rw [iff_T he]; exact hA (hc.2 he)
     · rw [iff_F he]; exact stop fun q => he (hc.1 q.2)
   by_cases k6 : x.kind = 6
   · rw [iff_T k6]
     refine one (B := none) (by omega) fun h => go ⟨by omega, h⟩ (by omega) (by omega) (by simp [cntK, k6]) (by simp [cntK, k6])
   rw [iff_F k6]
   by_cases k8 : x.kind = 8
   · rw [iff_T k8, wadd_in (by omega), show ((b : Nat) : Int) + 1 = ((b + 1 : Nat) : Int) by omega]
     refine one (B := none) (by omega) fun h => go ⟨by omega, h⟩ (by omega) (by omega) (by simp [cntK, k8]) (by simp [cntK, k8]; omega)
   rw [iff_F k8]
   by_cases k7 : x.kind = 7
   · rw [iff_T k7]
     have hc : clauseP x ↔ (0 < x.kids.length ∧ ∀ k ∈ x.kids, exP k ∧ numK k) := by
       unfold clauseP
       exact ⟨fun q => q.2.1 k7, fun q => ⟨hb0, fun _ => q, fun h => absurd k7 h⟩⟩
     rw [← hc]
     by_cases h : clauseP x
     · rw [iff_T h, wadd_in (by omega), show ((a : Nat) : Int) + 1 = ((a + 1 : Nat) : Int) by omega]
       exact go ⟨by omega, h⟩ (by omega) (by omega) (by simp [cntK, k7]; omega) (by simp [cntK, k7])
     · rw [iff_F h]; exact stop fun q => h q.2
   · rw [iff_F k7]; exact stop fun q => by have := q.1; omega
theorem clauses_r (l : List Nd) (hok : ∀ x ∈ l, okNd x) (hl : l.length ≤ 9223372036854775807) : ref07_clauses_B l = some (mb ((kinds l ∧ ∀ k ∈ l, clauseP k) ∧ cntK 7 l ≤ 1 ∧ cntK 8 l = 1)) := by
 have h := clauses_fold_r (l := l) (i := 0) (a := 0) (b := 0) hok (by omega) (by omega)
 rw [ref07_clauses_B, lim_of hl, List.drop_zero]
 rw [show (((0 : Nat) : Int)) = 0 from rfl] at h
 rw [h]
 by_cases hc : kinds l ∧ ∀ k ∈ l, clauseP k
 · rw [iff_T hc]
   simp only [Option.bind_some, lpK, leI_mb, eqI_mb, c_mb, m_tf, m_qf]
   exact smb ⟨fun q => ⟨hc, by omega, by omega⟩, fun q => ⟨by omega, by omega⟩⟩
 · rw [iff_F hc]
   exact smbF fun q => hc q.1
theorem item_core {n : Nd} (hok : okNd n) (u : Prop) : iff_ (n.kind = 2) (iff_ (n.n = 0 ∧ zD n ∧ zT n ∧ n.kids = []) (some (mb u)) (some false)) (iff_ (n.kind = 3) (iff_ (zD n ∧ zT n ∧ n.kids = []) (iff_ u (some (mb (1 ≤ n.n ∧ n.n ≤ 4))) (some false)) (some false)) (iff_ (n.kind = 4) (iff_ (n.unit = eS ∧ zD n ∧ zT n) (iff_ (1 ≤ n.n ∧ n.n ≤ 1000000) (iff_ (1 < ((n.kids.length : Nat) : Int)) ((n.kids[0]?).bind fun x => (ref07_head_B x).bind fun y => cond y ((subl n.kids 1 ((n.kids.length : Nat) : Int)).bind fun l => (ref07_clauses_B l).bind fun y => some y) (some false)) (some false)) (some false)) (some false)) (some false))) = some (mb ((n.kind = 2 ∧ u ∧ n.n = 0 ∧ zD n ∧ zT n ∧ n.kids = []) ∨ (n.kind = 3 ∧ u ∧ (1 ≤ n.n ∧ n.n ≤ 4) ∧ zD n ∧ zT n ∧ n.kids = []) ∨ (n.kind = 4 ∧ (n.unit = eS ∧ zD n ∧ zT n) ∧ ratioP n.n ∧ ∃ h cs, n.kids = h :: cs ∧ kinds cs ∧ cntK 8 cs = 1 ∧ cntK 7 cs ≤ 1 ∧ headP h ∧ ∀ k ∈ cs, clauseP k))) := by
 obtain ⟨hps, hkl, hks⟩ := okNd_l hok
 by_cases k2 : n.kind = 2
 · rw [iff_T k2, m_qf]
   refine smb ⟨fun ⟨a, b⟩ => .inl ⟨k2, b, a⟩, ?_⟩
   rintro (a | a | a)
   · exact ⟨a.2.2, a.2.1⟩
   · omega
   · omega
 rw [iff_F k2]
 by_cases k3 : n.kind = 3
 · rw [iff_T k3, m_qf, m_qf]
   refine smb ⟨fun ⟨a, b, c⟩ => .inr (.inl ⟨k3, b, c, a⟩), ?_⟩
   rintro (a | a | a)
   · omega
   · exact ⟨a.2.2.2, a.2.1, a.2.2.1⟩
   · omega
 rw [iff_F k3]
 by_cases k4 : n.kind = 4
 rotate_left
 · rw [iff_F k4]
   refine smbF ?_
   rintro (a | a | a)
   · omega
   · omega
   · omega
 rw [iff_T k4]
 by_cases hl : 1 < n.kids.length
 rotate_left
 · rw [iff_F (show ¬ (1 : Int) < ((n.kids.length : Nat) : Int) by omega), m_same, m_same]
   refine smbF ?_
   rintro (a | a | ⟨_, _, _, h, cs, e, _, e8, _⟩)
   · omega
   · omega
   · rw [e] at hl
     have := cntK_le 8 cs
     simp at hl
     rw [hl] at e8
     cases e8
 rw [iff_T (show (1 : Int) < ((n.kids.length : Nat) : Int) by omega)]
 generalize n.kids = ks at *
 match ks, hl with
 | x :: l, _ =>
 have hsub : subl (x :: l) 1 (((x :: l).length : Nat) : Int) = some l := by
   unfold subl
   rw [if_pos (by simp only [List.length_cons]; omega)]
   simp
 rw [hsub]
 simp only [List.getElem?_cons_zero, Option.bind_some, head_r, c_mb]
 rw [clauses_r l (fun y hy => hks y (by simp [hy])) (by simp at hkl; omega)]
 simp only [Option.bind_some, m_qf]
 refine smb ⟨?_, ?_⟩
 · rintro ⟨a, b, c, ⟨d, e⟩, f, g⟩
   exact .inr (.inr ⟨k4, a, b, x, l, rfl, d, g, f, c, e⟩)
 · rintro (a | a | ⟨_, a, b, h, cs, e, d, g, f, c, e'⟩)
   · omega
   · omega
   · cases e
     exact ⟨a, b, c, ⟨d, e'⟩, f, g⟩
theorem item_r {n : Nd} (hok : okNd n) : ref07_item_B n = some (mb (itemP n)) := by
 have c1 := item_core hok True
 simp only [iff_T trivial, ← mbT] at c1
 have c2 := item_core hok (n.unit = minutesS)
 rw [ref07_item_B]
 simp only [name_r, cur_r, blank3, blank7, blank37, within_r, Option.bind_some, eqI_mb, eqB_mb, ltI_mb, c_mb]
 rw [c1, c2]
 have hbare : ∀ {un : ByteArray} {k : Int}, bareP n ⟨0, n.name, un, k, 0, 0, 0, ⟨0, []⟩, [], 0⟩ ↔ n.unit = un ∧ n.n = k ∧ zD n ∧ zT n := by
   intro un k
   unfold zD zT
   rw [eqN]
   simp only [true_and, and_assoc]
 simp only [m_qf, m_qr]
 refine smb ?_
 unfold itemP artP
 simp only [hbare, lenN, true_and]
 constructor
 · rintro ⟨hn, h1, h2⟩
   have uni : ∀ {k : Prop}, (unitP n.unit → ((n.kind = 2 ∧ n.n = 0 ∧ zD n ∧ zT n ∧ n.kids = []) ∨ (n.kind = 3 ∧ (1 ≤ n.n ∧ n.n ≤ 4) ∧ zD n ∧ zT n ∧ n.kids = []) ∨ (n.kind = 4 ∧ (n.unit = eS ∧ zD n ∧ zT n) ∧ ratioP n.n ∧ ∃ h cs, n.kids = h :: cs ∧ kinds cs ∧ cntK 8 cs = 1 ∧ cntK 7 cs ≤ 1 ∧ headP h ∧ ∀ k ∈ cs, clauseP k))) → unitP n.unit → ((n.kind = 2 ∧ nameP n.name ∧ unitP n.unit ∧ n.kids = [] ∧ n.n = 0 ∧ zD n ∧ zT n) ∨ (n.kind = 3 ∧ nameP n.name ∧ unitP n.unit ∧ 1 ≤ n.n ∧ n.n ≤ 4 ∧ n.kids = [] ∧ zD n ∧ zT n) ∨ (n.kind = 4 ∧ ratioP n.n ∧ nameP n.name ∧ (n.unit = eS ∧ zD n ∧ zT n) ∧ ∃ h cs, n.kids = h :: cs ∧ kinds cs ∧ cntK 8 cs = 1 ∧ cntK 7 cs ≤ 1 ∧ headP h ∧ ∀ k ∈ cs, clauseP k)) := by
     intro _ h hu
     rcases h hu with ⟨a, b, c, d, e⟩ | ⟨a, b, c, d, e⟩ | ⟨a, b, c, d⟩
     · exact .inl ⟨a, hn, hu, e, b, c, d⟩
     · exact .inr (.inl ⟨a, hn, hu, b.1, b.2, e, c, d⟩)
     · exact .inr (.inr ⟨a, c, hn, b, d⟩)
   by_cases hc : curP n.unit
   · exact uni (k := True) (fun _ => h1 hc) (.inr (.inr (.inr hc)))
   obtain ⟨h3, h4⟩ := h2 hc
   by_cases ht : n.unit = truthS
   · exact uni (k := True) (fun _ => h3 ht) (.inl ht)
   obtain ⟨h5, h6⟩ := h4 ht
   by_cases hm : n.unit = numberS
   · exact uni (k := True) (fun _ => h5 hm) (.inr (.inl hm))
   rcases h6 hm with ⟨a, b, r⟩ | ⟨a, b, r⟩ | r
   · exact uni (k := True) (fun _ => .inl ⟨a, r⟩) (.inr (.inr (.inl b)))
   · exact uni (k := True) (fun _ => .inr (.inl ⟨a, r⟩)) (.inr (.inr (.inl b)))
   · exact .inr (.inr ⟨r.1, r.2.2.1, hn, r.2.1, r.2.2.2⟩)
 · have back : (n.kind = 2 ∧ nameP n.name ∧ unitP n.unit ∧ n.kids = [] ∧ n.n = 0 ∧ zD n ∧ zT n) ∨ (n.kind = 3 ∧ nameP n.name ∧ unitP n.unit ∧ 1 ≤ n.n ∧ n.n ≤ 4 ∧ n.kids = [] ∧ zD n ∧ zT n) ∨ (n.kind = 4 ∧ ratioP n.n ∧ nameP n.name ∧ (n.unit = eS ∧ zD n ∧ zT n) ∧ ∃ h cs, n.kids = h :: cs ∧ kinds cs ∧ cntK 8 cs = 1 ∧ cntK 7 cs ≤ 1 ∧ headP h ∧ ∀ k ∈ cs, clauseP k) → nameP n.name ∧ (n.kind ≠ 4 → unitP n.unit) ∧ ((n.kind = 2 ∧ n.n = 0 ∧ zD n ∧ zT n ∧ n.kids = []) ∨ (n.kind = 3 ∧ (1 ≤ n.n ∧ n.n ≤ 4) ∧ zD n ∧ zT n ∧ n.kids = []) ∨ (n.kind = 4 ∧ (n.unit = eS ∧ zD n ∧ zT n) ∧ ratioP n.n ∧ ∃ h cs, n.kids = h :: cs ∧ kinds cs ∧ cntK 8 cs = 1 ∧ cntK 7 cs ≤ 1 ∧ headP h ∧ ∀ k ∈ cs, clauseP k)) := by
     rintro (⟨a, b, c, d, e, f, g⟩ | ⟨a, b, c, d, d', e, f, g⟩ | ⟨a, b, c, d, e⟩)
     · exact ⟨b, fun _ => c, .inl ⟨a, e, f, g, d⟩⟩
     · exact ⟨b, fun _ => c, .inr (.inl ⟨a, ⟨d, d'⟩, f, g, e⟩)⟩
     · exact ⟨c, fun h => absurd a h, .inr (.inr ⟨a, d, b, e⟩)⟩
   intro h
   obtain ⟨hn, hu, r⟩ := back h
   refine ⟨hn, fun _ => r, fun nc => ⟨fun _ => r, fun nt => ⟨fun _ => r, fun nn => ?_⟩⟩⟩
   rcases r with ⟨a, r⟩ | ⟨a, r⟩ | r
   · have hm : n.unit = minutesS := by
       rcases hu (by omega) with h | h | h | h
       · exact absurd h nt
       · exact absurd h nn
       · exact h
       · exact absurd h nc
     exact .inl ⟨a, hm, r⟩
   · have hm : n.unit = minutesS := by
       rcases hu (by omega) with h | h | h | h
       · exact absurd h nt
       · exact absurd h nn
       · exact h
       · exact absurd h nc
     exact .inr (.inl ⟨a, hm, r⟩)
   · exact .inr (.inr r)
theorem valid_r {n : Nd} (hok : okNd n) : ref07_Valid_B n = some (mb (okV n)) := by
 obtain ⟨hps, hkl, hks⟩ := okNd_l hok
 rw [ref07_Valid_B, fits_r n hok, expr_r hok]
 simp only [Option.bind_some, c_mb, eqI_mb]
 unfold okV
 by_cases hf : szN n ≤ 2000 ∧ dpN n ≤ 40
 rotate_left
 · rw [iff_F hf]; exact smbF fun q => hf q.2
 rw [iff_T hf]
 by_cases k1 : n.kind = 1
 · rw [iff_T k1, k_loop (v := false) (P := fun _ k => itemP k) hkl (fun i k hk => by
     simp only [ref07_Valid_L1]
     rw [item_r (hks k (List.mem_of_getElem? hk))]
     simp only [Option.bind_some, c_mb, k_nr]), blank32]
   simp only [Option.bind_some, m_qf, mem_at]
   refine smb ⟨fun q => ⟨.inl ⟨k1, (blankz n).2 q.2, q.1⟩, hf⟩, ?_⟩
   rintro ⟨a | a, _⟩
   · exact ⟨a.2.2, (blankz n).1 a.2.1⟩
   · exact absurd k1 a.1
 · rw [iff_F k1]
   refine smb ⟨fun q => ⟨.inr ⟨k1, q⟩, hf⟩, ?_⟩
   rintro ⟨a | a, _⟩
   · exact absurd a.1 k1
   · exact a.2
end Mo
end Go.Proofs.YtkfplcngmiljaaaGreatDoor
namespace Go.Proofs.YtkfplcngmiljaaaGreatDoor
open AI Go
namespace Mo
set_option maxRecDepth 100000
set_option maxHeartbeats 4000000
def cap (ds r : List Dg) : List Dg := (ds ++ r).take 20
theorem cap_cap (ds a b : List Dg) : cap (cap ds a) b = cap ds (a ++ b) := by
 unfold cap
 rw [← List.append_assoc]
 generalize ds ++ a = l
 rw [List.take_append, List.take_append, List.take_take, Nat.min_self, List.length_take]
 by_cases h : l.length ≤ 20
 · rw [Nat.min_eq_right h]
 · rw [Nat.min_eq_left (by omega), show 20 - 20 = 0 by omega, show 20 - l.length = 0 by omega]
theorem cap_nil {ds : List Dg} (h : ds.length ≤ 20) : cap ds [] = ds := by
 unfold cap
 rw [List.append_nil, List.take_of_length_le h]
theorem cap_len (ds r : List Dg) : (cap ds r).length ≤ 20 := by unfold cap; rw [List.length_take]; omega
theorem report_cap {ds : List Dg} (h : ds.length ≤ 20) (e at_ : Int) : reportP e at_ ds = cap ds [⟨e, at_⟩] := by
 unfold reportP cap
 by_cases h2 : ds.length < 20
 · rw [if_pos h2, List.take_of_length_le (by simp; omega)]
 · rw [if_neg h2, List.take_append, List.take_of_length_le h, show 20 - ds.length = 0 by omega]
   simp
noncomputable def unitQ (F : ByteArray → ByteArray) (A : Int → ByteArray) (n : Nd) (us : List ByteArray) : ByteArray :=
 iff_ (n.kind = 11) n.unit (iff_ (n.kind = 12) (F n.name) (iff_ (n.kind = 13) (A n.n) (iff_ (n.kind = 14) numberS
   (iff_ (n.kind = 15) (operL andS us) (iff_ (n.kind = 16) (operL n.name us) (iff_ (n.kind = 17) (operL q2bS us) (iff_ (n.kind = 18) (iff_ (icP (us.headD eS)) (us.headD eS) eS) eS)))))))
noncomputable def finR (F : ByteArray → ByteArray) (A : Int → ByteArray) (n : Nd) (r : List ByteArray × List Dg) : ByteArray × List Dg :=
 iff_ (∀ u ∈ r.1, u ≠ eS) (iff_ (unitQ F A n r.1 = eS) (unitQ F A n r.1, r.2 ++ [⟨errOf n, n.att⟩]) (unitQ F A n r.1, r.2)) (eS, r.2)
mutual
noncomputable def exR (F : ByteArray → ByteArray) (A : Int → ByteArray) : Nd → ByteArray × List Dg
 | ⟨kind, name, unit, n, fr, to, known, tab, kids, att⟩ => finR F A ⟨kind, name, unit, n, fr, to, known, tab, kids, att⟩ (exsR F A kids)
noncomputable def exsR (F : ByteArray → ByteArray) (A : Int → ByteArray) : List Nd → List ByteArray × List Dg
 | [] => ([], [])
 | k :: ks => ((exR F A k).1 :: (exsR F A ks).1, (exR F A k).2 ++ (exsR F A ks).2)
end
theorem exR_eq (F : ByteArray → ByteArray) (A : Int → ByteArray) (n : Nd) : exR F A n = finR F A n (exsR F A n.kids) := by cases n; rw [exR]
noncomputable def FS (s : Sc) (x : ByteArray) : ByteArray := (s.facts.get x).getD eS
noncomputable def AS' (s : Sc) (z : Int) : ByteArray := (s.lines.get ((s.articles.get z).getD eS)).getD eS
theorem infer_cap_list {s : Sc} : ∀ {l : List Nd}, (∀ k ∈ l, ∀ ds : List Dg, ds.length ≤ 20 → inferP s k ds = ((exR (FS s) (AS' s) k).1, cap ds (exR (FS s) (AS' s) k).2)) → ∀ ds : List Dg, ds.length ≤ 20 → infersP s l ds = ((exsR (FS s) (AS' s) l).1, cap ds (exsR (FS s) (AS' s) l).2)
 | [], _, ds, h => by rw [infersP, exsR, cap_nil h]
 | a :: l, hk, ds, h => by
   rw [infersP, exsR, hk a (by simp) ds h]
   dsimp only
   rw [infer_cap_list (fun k h' => hk k (by simp [h'])) _ (cap_len _ _), cap_cap]
theorem infer_cap_m (s : Sc) : ∀ (m : Nat) (n : Nd), szN n ≤ m → ∀ ds : List Dg, ds.length ≤ 20 → inferP s n ds = ((exR (FS s) (AS' s) n).1, cap ds (exR (FS s) (AS' s) n).2) := by
 intro m
 induction m with
 | zero => intro n h; have := szN_eq n; omega
 | succ m ih =>
   intro n hn ds hd
   have hsz := szN_eq n
   rw [inferP_eq, exR_eq, infer_cap_list (fun k hk => ih k (by have := szL_mem hk; omega)) ds hd]
   unfold finP finR
   show iff_ _ (iff_ (unitQ (FS s) (AS' s) n _ = eS) (unitQ (FS s) (AS' s) n _, _) (unitQ (FS s) (AS' s) n _, _)) _ = _
   by_cases hu : ∀ u ∈ (exsR (FS s) (AS' s) n.kids).1, u ≠ eS
   · rw [iff_T hu, iff_T hu]
     by_cases hU : unitQ (FS s) (AS' s) n (exsR (FS s) (AS' s) n.kids).1 = eS
     · rw [iff_T hU, iff_T hU]
       dsimp only
       rw [report_cap (cap_len _ _), cap_cap]
     · rw [iff_F hU, iff_F hU]
   · rw [iff_F hu, iff_F hu]
theorem infer_cap (s : Sc) (n : Nd) {ds : List Dg} (h : ds.length ≤ 20) : inferP s n ds = ((exR (FS s) (AS' s) n).1, cap ds (exR (FS s) (AS' s) n).2) := infer_cap_m s (szN n) n (Nat.le_refl _) ds h
noncomputable def fact (src : Nd) (x : ByteArray) : ByteArray := (fU 2 src.kids x).getD eS
noncomputable def line (src : Nd) (x : ByteArray) : ByteArray := (fU 3 src.kids x).getD eS
noncomputable def art (src : Nd) (z : Int) : ByteArray := line src ((fA src.kids z).getD eS)
theorem FS_src (src : Nd) : FS (scP src) = fact src := funext fun x => by unfold FS fact; rw [sc_facts]
theorem AS_src (src : Nd) : AS' (scP src) = art src := funext fun z => by unfold AS' art line; rw [sc_lines, sc_arts]
noncomputable def exS (src n : Nd) : ByteArray × List Dg := exR (fact src) (art src) n
theorem infer_src (src n : Nd) {ds : List Dg} (h : ds.length ≤ 20) : inferP (scP src) n ds = ((exS src n).1, cap ds (exS src n).2) := by
 rw [infer_cap _ _ h, FS_src, AS_src]; rfl
theorem inferQ_eq (src e : Nd) : inferQ src e = iff_ ((src.kind = 1 ∧ e.kind ≠ 1) ∧ okV src ∧ okV e) ((exS src e).1, cap [] (exS src e).2) (eS, [⟨1, e.att⟩]) := by
 unfold inferQ
 rw [infer_src src e (by simp)]
theorem okV_srcL {n : Nd} (h : okV n) (hk : n.kind = 1) : bareP n z0 ∧ (∀ k ∈ n.kids, itemP k) ∧ szN n ≤ 2000 ∧ dpN n ≤ 40 := by
 obtain ⟨a | a, b⟩ := h
 · exact ⟨a.2.1, a.2.2, b⟩
 · exact absurd hk a.1
end Mo
end Go.Proofs.YtkfplcngmiljaaaGreatDoor
namespace AI
open Go Go.RowKit
def newB (w w1 : World) (g : Nat) : Prop := w.heap.size ≤ g ∧ g < w1.heap.size
def Cx.veil (cx : Cx) (w w1 : World) : Cx := ⟨cx.base, cx.phi, cx.rows, fun g i => cx.bad g i ∨ newB w w1 g⟩
def Cx.unveil (c : Cx) (cx : Cx) : Cx := ⟨c.base, c.phi, c.rows, cx.bad⟩
section
variable {G : Glob} {cx : Cx} {w w1 : World} {s : AS}
theorem veil_mon (k : Chg w w1 (fun _ => False)) : Mon cx w (cx.veil w w1) w1 := by
 refine ⟨fun _ _ e => e, Nat.le_refl _, fun r y _ h => ⟨y, h, RwLe.refl y⟩, fun g i v hv => ⟨Nat.lt_of_lt_of_le hv.1 k.size, fun hs => ?_, by rw [k.cell hv.1 id]; exact hv.2.2⟩⟩
 rcases hs with hs | hs | hs | hs
 · exact hv.2.1 (.inl hs)
 · exact hv.2.1 (.inr (.inl hs))
 · exact hv.2.1 (.inr (.inr hs))
 · have := hs.1; have := hv.1; omega
theorem veil_st (h : St G cx w s) (k : Chg w w1 (fun _ => False)) : St G (cx.veil w w1) w1 s := by
 have m := veil_mon (cx := cx) k
 refine ⟨h.len, h.desc, h.nodup, h.low, fun id g b h1 h2 => ?_, h.rlen, fun r g n cap sz hr => ?_, h.rfree, fun g hg => Nat.lt_of_lt_of_le (h.plow g hg) k.size, fun g i hb => ?_, h.rdist, fun g cs hg => (h.glob g cs hg).monoM m, Nat.le_trans h.bsz k.size⟩
 · obtain ⟨o, ho, hb⟩ := h.box id g b h1 h2
   exact ⟨o, by rw [k.block g (Array.getElem?_eq_some_iff.1 ho).1 not_false]; exact ho, hb.monoM m⟩
 · have hl := h.row_lt hr
   obtain ⟨hbad, h2, h3, h4, vs, T, ho, h5⟩ := h.row r g n cap sz hr
   refine ⟨fun i hb => ?_, h2, h3, h4, vs, T, by rw [k.block g (Array.getElem?_eq_some_iff.1 ho).1 not_false]; exact ho, h5⟩
   rcases hb with hb | hb
   · exact hbad i hb
   · have := hb.1; omega
 · rcases hb with hb | hb
   · exact Nat.lt_of_lt_of_le (h.blow g i hb) k.size
   · exact hb.2
variable {c' : Cx} {w' w2 : World} {s' : AS}
theorem unveil_mon (hx : Ext (cx.veil w w1) w1 c' w') (k2 : Chg w' w2 (newB w w1)) : Mon c' w' (c'.unveil cx) w2 := by
 refine ⟨fun _ _ e => e, Nat.le_refl _, fun r y _ h => ⟨y, h, RwLe.refl y⟩, fun g i v hv => ⟨Nat.lt_of_lt_of_le hv.1 k2.size, fun hs => ?_, ?_⟩⟩
 · rcases hs with hs | hs | hs
   · exact hv.2.1 (.inl hs)
   · exact hv.2.1 (.inr (.inl hs))
   · exact hv.2.1 (.inr (.inr (by rw [hx.bad]; exact .inl hs)))
 · rw [k2.cell hv.1 (fun hk => hv.2.1 (.inr (.inr (by rw [hx.bad]; exact .inr hk))))]; exact hv.2.2
theorem unveil_ext (h : St G cx w s) (k : Chg w w1 (fun _ => False)) (hx : Ext (cx.veil w w1) w1 c' w') (k2 : Chg w' w2 (newB w w1)) : Ext cx w (c'.unveil cx) w2 := by
 have m := veil_mon (cx := cx) k
 have m2 := unveil_mon hx k2
 refine ⟨hx.phi, hx.rlen, hx.rows, fun g i v hv => m2.vis g i v (hx.vis g i v (m.vis g i v hv)), ?_, hx.base, rfl, fun g hg => ?_, fun r g n cap sz hr => ?_, fun q hq hp hr => ?_⟩
 · have b1 : Below cx.base w w1 := k.below h.bsz (fun _ h => h.elim)
   have b2 : Below cx.base w1 w' := hx.below
   have b3 : Below cx.base w' w2 := k2.below (Nat.le_trans (Nat.le_trans h.bsz k.size) b2.size) (fun q hq => Nat.le_trans h.bsz hq.1)
   exact (b1.trans b2).trans b3
 · rcases hx.pnew g hg with h1 | h1
   · exact .inl h1
   · exact .inr (Nat.le_trans k.size h1)
 · rcases hx.rnew r g n cap sz hr with h1 | h1
   · exact .inl h1
   · exact .inr (Nat.le_trans k.size h1)
 · have hq1 : q < w1.heap.size := Nat.lt_of_lt_of_le hq k.size
   rw [k2.block q (Nat.lt_of_lt_of_le hq1 hx.below.size) (fun hn => by have := hn.1; omega), hx.keep q hq1 hp hr, k.block q hq not_false]
theorem unveil_st (h : St G cx w s) (hx : Ext (cx.veil w w1) w1 c' w') (hs' : St G c' w' s') (k2 : Chg w' w2 (newB w w1)) : St G (c'.unveil cx) w2 s' := by
 have m2 := unveil_mon hx k2
 have hphi : ∀ g, some g ∈ c'.phi → ¬ newB w w1 g := by
   intro g hg hn
   rcases hx.pnew g hg with h1 | h1
   · have := h.plow g h1; have := hn.1; omega
   · have := hn.2; omega
 refine ⟨hs'.len, hs'.desc, hs'.nodup, hs'.low, fun id g b h1 h2 => ?_, hs'.rlen, fun r g n cap sz hr => ?_, hs'.rfree, fun g hg => Nat.lt_of_lt_of_le (hs'.plow g hg) k2.size, fun g i hb => Nat.lt_of_lt_of_le (hs'.blow g i (by rw [hx.bad]; exact .inl hb)) k2.size, hs'.rdist, fun g cs hg => (hs'.glob g cs hg).monoM m2, Nat.le_trans hs'.bsz k2.size⟩
 · obtain ⟨o, ho, hb⟩ := hs'.box id g b h1 h2
   exact ⟨o, by rw [k2.block g (Array.getElem?_eq_some_iff.1 ho).1 (hphi g (List.mem_of_getElem? h1))]; exact ho, hb.monoM m2⟩
 · obtain ⟨hbad, h2, h3, h4, vs, T, ho, h5⟩ := hs'.row r g n cap sz hr
   have hb : c'.bad = fun g i => cx.bad g i ∨ newB w w1 g := hx.bad
   exact ⟨fun i hb' => hbad i (by rw [hb]; exact .inl hb'), h2, h3, h4, vs, T, by rw [k2.block g (Array.getElem?_eq_some_iff.1 ho).1 (fun hn => hbad 0 (by rw [hb]; exact .inr hn))]; exact ho, h5⟩
theorem veil_keep (h : St G cx w s) (hx : Ext (cx.veil w w1) w1 c' w') {q : Nat} (hq : newB w w1 q) : w'.heap[q]? = w1.heap[q]? := by
 refine hx.keep q hq.2 (fun hm => ?_) (fun r n cap sz hr => ?_)
 · have := h.plow q hm; have := hq.1; omega
 · have := h.row_lt (r := r) hr; have := hq.1; omega
end
end AI
