/- Part of a proof: see the last text. -/
import Derived.Test.YtnijkdknnmgoeaaGreatNum
set_option linter.unusedVariables false
set_option linter.unusedSimpArgs false
namespace Go.Proofs.YtnijkdknnmgoeaaGreat
open AI Go
namespace Mo
mutual
def cnt : Ex → Nat
 | ⟨_, _, _, _, ks⟩ => 1 + cntS ks
def cntS : List Ex → Nat
 | [] => 0
 | k :: ks => cnt k + cntS ks
end
mutual
def dp : Ex → Nat
 | ⟨_, _, _, _, ks⟩ => 1 + dpS ks
def dpS : List Ex → Nat
 | [] => 0
 | k :: ks => max (dp k) (dpS ks)
end
abbrev okE := okEx
abbrev okS := okExs
theorem cnt_eq (e : Ex) : cnt e = 1 + cntS e.kids := by cases e; rw [cnt]
theorem dp_eq (e : Ex) : dp e = 1 + dpS e.kids := by cases e; rw [dp]
theorem okS_iff {l : List Ex} : okS l ↔ ∀ k ∈ l, okE k := okExs_iff
theorem okE_iff (e : Ex) : okE e ↔ e.tab.ps.length ≤ 9223372036854775807 ∧ e.kids.length ≤ 9223372036854775807 ∧ ∀ k ∈ e.kids, okE k := okEx_iff e
theorem cntS_app (l m : List Ex) : cntS (l ++ m) = cntS l + cntS m := by
 induction l with
 | nil => simp [cntS]
 | cons k l ih => simp only [List.cons_append, cntS, ih]; omega
theorem cntS_step {l : List Ex} {i : Nat} {y : Ex} (h : l[i]? = some y) : cntS (l.take (i + 1)) = cntS (l.take i) + cnt y := by
 rw [List.take_add_one, h, cntS_app]; simp [cntS]
theorem cntS_take (l : List Ex) (i : Nat) : cntS (l.take i) ≤ cntS l := by
 have := cntS_app (l.take i) (l.drop i)
 rw [List.take_append_drop] at this
 omega
theorem cntS_mem {l : List Ex} {k : Ex} (h : k ∈ l) : cnt k ≤ cntS l := by
 induction l with
 | nil => cases h
 | cons a l ih =>
   rw [cntS]
   rcases List.mem_cons.1 h with rfl | h
   · omega
   · have := ih h; omega
theorem dpS_le {l : List Ex} {d : Nat} : dpS l ≤ d ↔ ∀ k ∈ l, dp k ≤ d := by
 induction l with
 | nil => simp [dpS]
 | cons k l ih => simp only [dpS, List.mem_cons, forall_eq_or_imp, ← ih]; omega
theorem cnt_kid {e k : Ex} (h : k ∈ e.kids) : cnt k < cnt e := by
 have := cntS_mem h
 rw [cnt_eq e]; omega
theorem cnt_pos (e : Ex) : 0 < cnt e := by rw [cnt_eq]; omega
theorem count_m : ∀ (n : Nat) (e : Ex) (l : Int), okE e → cnt e ≤ n → l ≤ 1000000 → ref10_Count_M n e l = some (max 0 (min ((cnt e : Nat) : Int) l)) := by
 intro n
 induction n with
 | zero => intro e l _ h; have := cnt_pos e; omega
 | succ n ih =>
   intro e l hok hn hl
   obtain ⟨_, hk, hks⟩ := (okE_iff e).1 hok
   have hp := cnt_eq e
   rw [ref10_Count_M, ref10_Count_B, Sp_eq]
   simp only [leI_mb, c_mb, Sp_iff, Sp_some]
   refine ⟨fun h => by omega, fun h => ?_⟩
   refine Sp_loop (fun i x => x = min (((1 + cntS (e.kids.take i) : Nat)) : Int) l) hk (by simp [cntS]; omega) (fun i y x hy hx => ?_) (fun x hx => ?_)
   · have hm := List.mem_of_getElem? hy
     have h1 := cntS_step hy
     have h2 := cntS_take e.kids (i + 1)
     have h3 := cnt_kid hm
     simp only [ref10_Count_L1, ltI_mb, c_mb, Sp_iff, Sp_bind, Sp_some, RQ_nx, RQ_ex]
     refine ⟨fun h4 => ?_, fun h4 => by omega⟩
     rw [wsub_in (by omega), ih y (l - x) (hks y hm) (by omega) (by omega), Sp_some, wadd_in (by omega)]
     omega
   · rw [List.take_length] at hx
     rw [Sp_some]; omega
theorem count_s (e : Ex) (l : Int) (h : okE e) (hl : l ≤ 1000000) : ref10_Count_R e l = some (max 0 (min ((cnt e : Nat) : Int) l)) :=
 evt_of (cnt e) fun n hn => count_m n e l h hn hl
theorem small_s (e : Ex) (l : Int) (h : okE e) (hl : 0 ≤ l ∧ l < 1000000) : ref10_Small_B e l = some (mb (((cnt e : Nat) : Int) ≤ l)) := by
 rw [ref10_Small_B, wadd_in (by omega), count_s e _ h (by omega), Sp_eq]
 simp only [leI_mb, c_mb, Sp_iff, Sp_some, Sp_bind, true_is_mb, false_is_mb]
 omega
theorem flat_m : ∀ (n : Nat) (e : Ex) (l : Int), okE e → cnt e ≤ n → -1000000 ≤ l → l ≤ 1000000 → ref10_Flat_M n e l = some (mb (((dp e : Nat) : Int) ≤ l)) := by
 intro n
 induction n with
 | zero => intro e l _ h; have := cnt_pos e; omega
 | succ n ih =>
   intro e l hok hn hl0 hl
   obtain ⟨_, hk, hks⟩ := (okE_iff e).1 hok
   have hp := dp_eq e
   rw [ref10_Flat_M, ref10_Flat_B, ltI_mb, c_mb]
   by_cases h : l < 1
   · rw [iff_T h]; refine smbF ?_; omega
   rw [iff_F h, k_loop (v := false) (P := fun _ y => ((dp y : Nat) : Int) ≤ l - 1) hk (fun i y hy => by
     have hm := List.mem_of_getElem? hy
     have h3 := cnt_kid hm
     simp only [ref10_Flat_L1]
     rw [wsub_in (by omega), ih y (l - 1) (hks y hm) (by omega) (by omega) (by omega)]
     simp only [Option.bind_some, c_mb, k_nr]), m_tf, mem_at]
   refine smb ?_
   have h4 : (∀ k ∈ e.kids, ((dp k : Nat) : Int) ≤ l - 1) ↔ dpS e.kids ≤ (l - 1).toNat := by
     rw [dpS_le]
     exact ⟨fun h k hk => by have := h k hk; omega, fun h k hk => by have := h k hk; omega⟩
   rw [h4]
   omega
theorem flat_s (e : Ex) (l : Int) (h : okE e) (hl : -1000000 ≤ l ∧ l ≤ 1000000) : ref10_Flat_R e l = some (mb (((dp e : Nat) : Int) ≤ l)) :=
 evt_of (cnt e) fun n hn => flat_m n e l h hn hl.1 hl.2
def smE (e : Ex) : Prop := cnt e ≤ 400 ∧ dp e ≤ 40
theorem within_s (e : Ex) (h : okE e) : ref10_within_B e = some (mb (smE e)) := by
 rw [ref10_within_B, small_s e 400 h (by omega), flat_s e 40 h (by omega)]
 simp only [Option.bind_some, c_mb, m_qf]
 refine smb ?_
 unfold smE
 omega
noncomputable def fst {α : Type} (p : α → Prop) : List α → Nat → Int
 | [], _ => -1
 | y :: l, i => open Classical in if p y then ((i : Nat) : Int) else fst p l (i + 1)
theorem fst_loop {α β : Type} {l : List α} {body : Nat → α → Unit → Option (Lp Unit Unit Int)} {p : α → Prop} {k : Unit → Option Int} {kr : Int → Option Int} (hl : l.length ≤ 9223372036854775807) (hb : ∀ i y, l[i]? = some y → body i y () = some (iff_ (p y) (.rt ((i : Nat) : Int)) (.nx ()))) (hk : k () = some (-1)) (hr : ∀ v, kr v = some v) : (lim l.length (foldL body (fun _ => ()) (l.drop 0) 0 ())).bind (lpK k kr) = some (fst p l 0) := by
 rw [lim_of hl, List.drop_zero]
 have key : ∀ (m : List α) (i : Nat), l.drop i = m → (foldL body (fun _ => ()) m i ()).bind (lpK k kr) = some (fst p m i) := by
   intro m
   induction m with
   | nil => intro i _; exact hk
   | cons y m ih =>
     intro i hd
     have hy : l[i]? = some y := by rw [← List.head?_drop, hd]; rfl
     have hd2 : l.drop (i + 1) = m := by rw [← List.tail_drop, hd]; rfl
     rw [foldL, hb i y hy, fst]
     by_cases h : p y
     · rw [iff_T h, if_pos h]; exact hr _
     · rw [iff_F h, if_neg h]; exact ih (i + 1) hd2
 exact key l 0 rfl
theorem fst_at {α : Type} {p : α → Prop} : ∀ (l : List α) (i : Nat), (fst p l i = -1 ∧ ∀ y ∈ l, ¬ p y) ∨ ∃ k y, fst p l i = ((i + k : Nat) : Int) ∧ l[k]? = some y ∧ p y ∧ ∀ (j : Nat) z, j < k → l[j]? = some z → ¬ p z := by
 intro l
 induction l with
 | nil => intro i; exact .inl ⟨rfl, fun y h => by cases h⟩
 | cons a l ih =>
   intro i
   rw [fst]
   by_cases h : p a
   · rw [if_pos h]; exact .inr ⟨0, a, rfl, rfl, h, fun j z hj => by omega⟩
   · rw [if_neg h]
     rcases ih (i + 1) with ⟨h1, h2⟩ | ⟨k, y, h1, h2, h3, h4⟩
     · exact .inl ⟨h1, fun y hy => by rcases List.mem_cons.1 hy with rfl | hy; exact h; exact h2 y hy⟩
     · refine .inr ⟨k + 1, y, by rw [h1]; congr 1; omega, by simpa using h2, h3, fun j z hj hz => ?_⟩
       cases j with
       | zero => simp at hz; subst hz; exact h
       | succ j => exact h4 j z (by omega) (by simpa using hz)
theorem decl_s (l : List Dc) (nm : ByteArray) (hl : l.length ≤ 9223372036854775807) : ref10_decl_B l nm = some (fst (fun d => d.name = nm) l 0) := by
 unfold ref10_decl_B
 exact fst_loop (β := Unit) hl (fun i y _ => by simp only [ref10_decl_L1, eqB_mb, c_mb]; unfold iff_; split <;> rfl) rfl (fun _ => rfl)
theorem numbered_s (c : Co) (z : Int) (hl : c.arts.length ≤ 9223372036854775807) : ref10_numbered_B c z = some (fst (fun a => a.number = z) c.arts 0) := by
 unfold ref10_numbered_B
 exact fst_loop (β := Unit) hl (fun i y _ => by simp only [ref10_numbered_L1, eqI_mb, c_mb]; unfold iff_; split <;> rfl) rfl (fun _ => rfl)
def declP (l : List Dc) (lo hi : Int) (i : Nat) (d : Dc) : Prop := nameP d.name ∧ unitP d.unit ∧ lo ≤ d.role ∧ d.role ≤ hi ∧ ∀ (j : Nat) e, j < i → l[j]? = some e → e.name ≠ d.name
def declsP (l : List Dc) (lo hi : Int) : Prop := ∀ (i : Nat) d, l[i]? = some d → declP l lo hi i d
theorem fst_is {α : Type} {p : α → Prop} {l : List α} {i : Nat} {y : α} (hy : l[i]? = some y) (hp : p y) : fst p l 0 = ((i : Nat) : Int) ↔ ∀ (j : Nat) z, j < i → l[j]? = some z → ¬ p z := by
 rcases fst_at (p := p) l 0 with ⟨h1, h2⟩ | ⟨k, x, h1, h2, h3, h4⟩
 · exact absurd hp (h2 y (List.mem_of_getElem? hy))
 · rw [h1]
   constructor
   · intro h
     have : k = i := by omega
     subst this; exact h4
   · intro h
     have h5 : ¬ k < i := fun h6 => h k x h6 h2 h3
     have h6 : ¬ i < k := fun h6 => h4 i y h6 hy hp
     omega
theorem decls_s (l : List Dc) (lo hi : Int) (hl : l.length ≤ 9223372036854775807) : ref10_decls_B l lo hi = some (mb (declsP l lo hi ∧ l.length ≤ 32)) := by
 unfold ref10_decls_B
 rw [k_loop (v := false) (P := fun i d => declP l lo hi i d) hl (fun i y hy => by
   simp only [ref10_decls_L1, name_s, unit_s, decl_s _ _ hl, Option.bind_some, ltI_mb, eqI_mb, c_mb, k_nr, k_rq, k_qr]
   congr 2
   apply propext
   rw [fst_is (p := fun d : Dc => d.name = y.name) hy rfl]
   unfold declP
   grind), leI_mb, c_mb, m_tf, m_qf]
 refine smb ?_
 unfold declsP
 exact ⟨fun h => ⟨h.1, by omega⟩, fun h => ⟨h.1, by omega⟩⟩
end Mo
end Go.Proofs.YtnijkdknnmgoeaaGreat
namespace Go.Proofs.YtnijkdknnmgoeaaGreat
open AI Go
namespace Mo
set_option maxRecDepth 100000
theorem geti_in {α : Type} {l : List α} {z : Int} (h0 : 0 ≤ z) (h1 : z < ((l.length : Nat) : Int)) : ∃ x, geti l z = some x ∧ l[z.toNat]? = some x := by
 have h2 : z.toNat < l.length := by omega
 unfold geti
 rw [if_pos h0, List.getElem?_eq_getElem h2]
 exact ⟨_, rfl, rfl⟩
theorem geti_lt {α : Type} {l : List α} {z : Int} {x : α} (h : geti l z = some x) : (0 ≤ z ∧ z < ((l.length : Nat) : Int)) ∧ l[z.toNat]? = some x := by
 unfold geti at h
 split at h
 · have := (List.getElem?_eq_some_iff.1 h).1
   exact ⟨by omega, h⟩
 · cases h
theorem geti_nat {α : Type} {l : List α} {i : Nat} : geti l ((i : Nat) : Int) = l[i]? := by
 unfold geti; rw [if_pos (by omega)]; rfl
def lnOf (l : List Ar) (z : Int) : Option Int := (l.find? (fun a => decide (a.number = z))).map Ar.line
theorem ln_fst (l : List Ar) (z : Int) : (fst (fun a => a.number = z) l 0 = -1 ∧ lnOf l z = none ∧ ∀ y ∈ l, ¬ y.number = z) ∨ ∃ (k : Nat) (y : Ar), fst (fun a => a.number = z) l 0 = ((k : Nat) : Int) ∧ l[k]? = some y ∧ y.number = z ∧ lnOf l z = some y.line := by
 rcases fst_at (p := fun a : Ar => a.number = z) l 0 with ⟨h1, h2⟩ | ⟨k, y, h1, h2, h3, h4⟩
 · refine .inl ⟨h1, ?_, h2⟩
   unfold lnOf
   rw [List.find?_eq_none.2 (fun x hx => by simpa using h2 x hx)]
   rfl
 · refine .inr ⟨k, y, by rw [h1, Nat.zero_add], h2, h3, ?_⟩
   unfold lnOf
   have : l.find? (fun a => decide (a.number = z)) = some y := by
     rw [List.find?_eq_some_iff_getElem]
     refine ⟨by simpa using h3, k, (List.getElem?_eq_some_iff.1 h2).1, (List.getElem?_eq_some_iff.1 h2).2, fun j hj => ?_⟩
     have := h4 j (l[j]'(by have := (List.getElem?_eq_some_iff.1 h2).1; omega)) hj (List.getElem?_eq_getElem _)
     simpa using this
   rw [this]; rfl
def constP (e : Ex) : Prop := 0 ≤ e.n ∧ e.n ≤ 999999999999 ∧ (e.unit = truthS → e.n ≤ 1)
def leafP (c : Co) (e : Ex) : Prop := (e.op = 1 ∧ constP e) ∨ (e.op = 2 ∧ ∃ d, geti c.facts e.n = some d ∧ e.unit = d.unit) ∨ (e.op = 3 ∧ ∃ l d, lnOf c.arts e.n = some l ∧ geti c.lines l = some d ∧ e.unit = d.unit) ∨ (e.op = 4 ∧ 1 ≤ e.n ∧ e.n ≤ 4 ∧ e.unit = numberS)
theorem leaf1 {c : Co} {e : Ex} (h : e.op = 1) : leafP c e ↔ constP e := by unfold leafP; simp [h]
theorem leaf2 {c : Co} {e : Ex} (h : e.op = 2) : leafP c e ↔ ∃ d, geti c.facts e.n = some d ∧ e.unit = d.unit := by unfold leafP; simp [h]
theorem leaf3 {c : Co} {e : Ex} (h : e.op = 3) : leafP c e ↔ ∃ l d, lnOf c.arts e.n = some l ∧ geti c.lines l = some d ∧ e.unit = d.unit := by unfold leafP; simp [h]
theorem leaf4 {c : Co} {e : Ex} (h : e.op = 4) : leafP c e ↔ 1 ≤ e.n ∧ e.n ≤ 4 ∧ e.unit = numberS := by unfold leafP; simp [h]
theorem leaf0 {c : Co} {e : Ex} (h1 : e.op ≠ 1) (h2 : e.op ≠ 2) (h3 : e.op ≠ 3) (h4 : e.op ≠ 4) : ¬ leafP c e := by unfold leafP; simp [h1, h2, h3, h4]
def Decd (c : Co) : Prop := (∀ d ∈ c.facts, unitP d.unit) ∧ ∀ d ∈ c.lines, unitP d.unit
theorem geti_ex {α : Type} {l : List α} {z : Int} {q : α → Prop} : (∃ d, geti l z = some d ∧ q d) ↔ 0 ≤ z ∧ z < ((l.length : Nat) : Int) ∧ ∀ d, geti l z = some d → q d := by
 constructor
 · rintro ⟨d, h, hq⟩
   have := (geti_lt h).1
   exact ⟨this.1, this.2, fun d' h' => by rw [h] at h'; cases h'; exact hq⟩
 · rintro ⟨h0, h1, h⟩
   obtain ⟨x, hx, _⟩ := geti_in h0 h1
   exact ⟨x, hx, h x hx⟩
theorem m_geti {α : Type} {l : List α} {z : Int} {q : α → Prop} : iff_ (0 ≤ z) (iff_ (z < ((l.length : Nat) : Int)) ((geti l z).bind fun x => some (mb (q x))) (some false)) (some false) = some (mb (∃ d, geti l z = some d ∧ q d)) := by
 rw [mb_congr geti_ex]
 by_cases h0 : 0 ≤ z
 · by_cases h1 : z < ((l.length : Nat) : Int)
   · obtain ⟨x, hx, _⟩ := geti_in h0 h1
     rw [iff_T h0, iff_T h1, hx]
     simp only [Option.bind_some]
     refine smb ?_
     exact ⟨fun h => ⟨h0, h1, fun d hd => by cases hd; exact h⟩, fun h => h.2.2 x rfl⟩
   · rw [iff_T h0, iff_F h1]; refine smbF ?_; exact fun h => h1 h.2.1
 · rw [iff_F h0]; refine smbF ?_; exact fun h => h0 h.1
theorem leafR_s (c : Co) (e : Ex) (ha : c.arts.length ≤ 9223372036854775807) (hd : Decd c) : ref10_leaf_B c e = some (mb (unitP e.unit ∧ leafP c e)) := by
 rw [ref10_leaf_B, numbered_s c e.n ha]
 simp only [leI_mb, ltI_mb, eqI_mb, eqB_mb, c_mb, unit_s, Option.bind_some, m_tf, m_qf, m_qt, m_geti]
 by_cases h1 : e.op = 1
 · rw [iff_T h1, mb_congr (and_congr_right fun _ => leaf1 h1)]
   refine smb ?_; unfold constP; grind
 rw [iff_F h1]
 by_cases h2 : e.op = 2
 · rw [iff_T h2, mb_congr (and_congr_right fun _ => leaf2 h2)]
   refine smb ?_
   refine ⟨fun ⟨d, h, hu⟩ => ⟨?_, d, h, hu⟩, fun h => h.2⟩
   rw [hu]; exact hd.1 d (List.mem_of_getElem? (geti_lt h).2)
 rw [iff_F h2]
 by_cases h3 : e.op = 3
 · rw [iff_T h3, mb_congr (and_congr_right fun _ => leaf3 h3)]
   rcases ln_fst c.arts e.n with ⟨h4, h5, _⟩ | ⟨k, y, h4, h5, _, h6⟩
   · rw [h4, h5, iff_F (by omega)]; refine smbF ?_; simp
   · rw [h4, h6, iff_T (by omega), geti_nat, h5]
     simp only [Option.bind_some, m_geti]
     refine smb ?_
     refine ⟨fun ⟨d, h, hu⟩ => ⟨?_, _, d, rfl, h, hu⟩, fun ⟨_, l, d, hl, h, hu⟩ => by cases hl; exact ⟨d, h, hu⟩⟩
     rw [hu]; exact hd.2 d (List.mem_of_getElem? (geti_lt h).2)
 rw [iff_F h3]
 refine smb ?_
 by_cases h4 : e.op = 4
 · rw [leaf4 h4]
   have : unitP numberS := .inr (.inl rfl)
   grind
 · exact ⟨fun h => absurd h.1 h4, fun h => absurd h.2 (leaf0 h1 h2 h3 h4)⟩
def pieceP (f : Fn) (i : Nat) (p : Pc) : Prop := (-1000000 ≤ p.slope ∧ p.slope ≤ 1000000) ∧ (-1000000000000000000 ≤ p.att ∧ p.att ≤ 1000000000000000000) ∧ p.fr ≤ 1000000000000 ∧ (i = 0 → p.fr = 0) ∧ ∀ (j : Nat) q, i = j + 1 → f.ps[j]? = some q → q.fr < p.fr
def tableP (f : Fn) : Prop := (1 ≤ f.den ∧ f.den ≤ 1000000) ∧ (1 ≤ f.ps.length ∧ f.ps.length ≤ 64) ∧ ∀ (i : Nat) p, f.ps[i]? = some p → pieceP f i p
theorem rwithin_s (n l : Int) (h : -9223372036854775808 ≤ 0 - l ∧ 0 - l ≤ 9223372036854775807) : ref05_within_B n l = some (mb (-l ≤ n ∧ n ≤ l)) := by
 have : wneg l = -l := by unfold wneg; rw [IntWalk.i64_in _ (by omega)]; omega
 rw [ref05_within_B, this]
 simp only [leI_mb, c_mb, m_tf, m_qf]
theorem tabR_s (f : Fn) : ref05_Valid_B f = some (mb (tableP f)) := by
 rw [ref05_Valid_B]
 simp only [ltI_mb, c_mb]
 by_cases h1 : f.den < 1
 · rw [iff_T h1]; refine smbF ?_; unfold tableP; omega
 by_cases h2 : 1000000 < f.den
 · rw [iff_F h1, iff_T h2]; refine smbF ?_; unfold tableP; omega
 by_cases h3 : ((f.ps.length : Nat) : Int) < 1
 · rw [iff_F h1, iff_F h2, iff_T h3]; refine smbF ?_; unfold tableP; omega
 by_cases h4 : 64 < ((f.ps.length : Nat) : Int)
 · rw [iff_F h1, iff_F h2, iff_F h3, iff_T h4]; refine smbF ?_; unfold tableP; omega
 rw [iff_F h1, iff_F h2, iff_F h3, iff_F h4, k_loop (v := false) (P := pieceP f) (by omega) (fun i y hy => by
   have hi := (List.getElem?_eq_some_iff.1 hy).1
   simp only [ref05_Valid_L1, rwithin_s y.slope 1000000 (by omega), rwithin_s y.att 1000000000000000000 (by omega), Option.bind_some, ltI_mb, eqI_mb, leI_mb, c_mb]
   cases i with
   | zero =>
     simp only [show ((0 : Nat) : Int) = 0 from rfl, iff_T, k_nr, k_rq, k_qr]
     congr 2
     apply propext
     unfold pieceP
     grind
   | succ i =>
     obtain ⟨q, hq⟩ : ∃ q, f.ps[i]? = some q := ⟨_, List.getElem?_eq_getElem (by omega)⟩
     rw [wsub_in (by omega), show ((i + 1 : Nat) : Int) - 1 = ((i : Nat) : Int) by omega, geti_nat, hq]
     rw [iff_F (show ¬ ((i + 1 : Nat) : Int) = 0 by omega), iff_T (show (0 : Int) < ((i + 1 : Nat) : Int) by omega)]
     simp only [Option.bind_some, leI_mb, c_mb, k_rn, k_rq, k_qr]
     congr 2
     apply propext
     unfold pieceP
     have h5 : (∀ (j : Nat) q', i + 1 = j + 1 → f.ps[j]? = some q' → q'.fr < y.fr) ↔ q.fr < y.fr := ⟨fun h => h i q rfl hq, fun h j q' hj hq' => by cases hj; rw [hq] at hq'; cases hq'; exact h⟩
     rw [h5]
     grind), m_tf]
 refine smb ?_
 unfold tableP
 exact ⟨fun h => ⟨by omega, by omega, h⟩, fun h => h.2.2⟩
end Mo
end Go.Proofs.YtnijkdknnmgoeaaGreat
namespace Go.Proofs.YtnijkdknnmgoeaaGreat
open AI Go
namespace Mo
set_option maxRecDepth 100000
set_option maxHeartbeats 4000000
def tabless (e : Ex) : Prop := e.tab.den = 0 ∧ e.tab.ps = []
def pairP (e a b : Ex) : Prop :=
 ((e.op = 6 ∨ e.op = 7) ∧ e.unit = truthS ∧ a.unit = truthS ∧ b.unit = truthS) ∨
 (e.op = 8 ∧ e.unit = truthS ∧ a.unit = b.unit) ∨
 ((e.op = 9 ∨ e.op = 10) ∧ e.unit = truthS ∧ a.unit = b.unit ∧ a.unit ≠ truthS) ∨
 ((e.op = 11 ∨ e.op = 12) ∧ e.unit = a.unit ∧ a.unit = b.unit ∧ a.unit ≠ truthS) ∨
 (e.op = 13 ∧ a.unit ≠ truthS ∧ b.unit ≠ truthS ∧ ((a.unit = numberS ∧ e.unit = b.unit) ∨ (b.unit = numberS ∧ e.unit = a.unit))) ∨
 (e.op = 14 ∧ e.unit = a.unit ∧ a.unit ≠ truthS ∧ b.op = 1 ∧ b.unit = numberS ∧ 1 ≤ b.n ∧ b.n ≤ 1000000) ∨
 (e.op = 15 ∧ a.unit = minutesS ∧ curP b.unit ∧ e.unit = b.unit)
def manyP (e a b : Ex) (r : List Ex) : Prop := ((e.op = 16 ∨ e.op = 17) ∧ (∀ k ∈ a :: b :: r, k.unit = a.unit) ∧ a.unit ≠ truthS ∧ e.unit = a.unit) ∨ (r = [] ∧ pairP e a b)
def loc (c : Co) (e : Ex) : Prop := match e.kids with
 | [] => tabless e ∧ leafP c e
 | [a] => e.n = 0 ∧ ((tabless e ∧ e.op = 5 ∧ e.unit = truthS ∧ a.unit = truthS) ∨ (e.op = 18 ∧ e.unit = a.unit ∧ curP e.unit ∧ tableP e.tab))
 | a :: b :: r => e.n = 0 ∧ tabless e ∧ manyP e a b r
theorem iff_same_ff {β : Type} {p : Prop} {x : β} : iff_ p x x = x := m_same
theorem len2 {α : Type} (a b : α) (r : List α) : (((a :: b :: r).length : Nat) : Int) = 2 ↔ r = [] := by
 cases r with
 | nil => simp
 | cons x r => simp only [List.length_cons, reduceCtorEq, iff_false]; omega
theorem many_s (op n : Int) (u : ByteArray) (t : Fn) (a b : Ex) (r : List Ex) (hl : (a :: b :: r).length ≤ 9223372036854775807) : ref10_many_B ⟨op, n, u, t, a :: b :: r⟩ = some (mb (manyP ⟨op, n, u, t, a :: b :: r⟩ a b r)) := by
 rw [ref10_many_B]
 simp only [List.getElem?_cons_zero, List.getElem?_cons_succ, Option.bind_some]
 rw [k_loop (v := false) (P := fun _ k => (op = 16 ∨ op = 17) → k.unit = a.unit) hl (fun i k _ => by
   simp only [ref10_many_L1, eqI_mb, eqB_mb, c_mb, k_nr, k_qn, k_qq]
   congr 2; apply propext; grind)]
 simp only [eqI_mb, leI_mb, eqB_mb, c_mb, m_tf, m_qf, m_fq, m_qr, m_ff, m_tq, cur_s, Option.bind_some, len2, mem_at]
 refine smb ?_
 unfold manyP pairP
 rw [show (∀ y : Ex, y ∈ a :: b :: r → (op = 16 ∨ op = 17) → y.unit = a.unit) ↔ ((op = 16 ∨ op = 17) → ∀ y ∈ a :: b :: r, y.unit = a.unit) from ⟨fun h p y hy => h y hy p, fun h y hy p => h p y hy⟩]
 simp only
 generalize (∀ k ∈ a :: b :: r, k.unit = a.unit) = A at *
 clear hl
 generalize a.unit = ua; generalize b.unit = ub
 by_cases h16 : op = 16
 · subst h16; simp; try grind
 by_cases h17 : op = 17
 · subst h17; simp; try grind
 by_cases h6 : op = 6
 · subst h6; simp; try grind
 by_cases h7 : op = 7
 · subst h7; simp; try grind
 by_cases h8 : op = 8
 · subst h8; simp; try grind
 by_cases h9 : op = 9
 · subst h9; simp; try grind
 by_cases h10 : op = 10
 · subst h10; simp; try grind
 by_cases h11 : op = 11
 · subst h11; simp; try grind
 by_cases h12 : op = 12
 · subst h12; simp; try grind
 by_cases h13 : op = 13
 · subst h13; simp; try grind
 by_cases h14 : op = 14
 · subst h14; simp; try grind
 by_cases h15 : op = 15
 · subst h15; simp; try grind
 simp [h16, h17, h6, h7, h8, h9, h10, h11, h12, h13, h14, h15]
mutual
def fit (c : Co) : Ex → Prop
 | ⟨op, n, u, t, ks⟩ => unitP u ∧ fitS c ks ∧ loc c ⟨op, n, u, t, ks⟩
def fitS (c : Co) : List Ex → Prop
 | [] => True
 | k :: ks => fit c k ∧ fitS c ks
end
theorem fitS_iff {c : Co} {l : List Ex} : fitS c l ↔ ∀ k ∈ l, fit c k := by
 induction l with
 | nil => simp [fitS]
 | cons k l ih => simp [fitS, ih]
theorem fit_iff (c : Co) (e : Ex) : fit c e ↔ unitP e.unit ∧ (∀ k ∈ e.kids, fit c k) ∧ loc c e := by
 cases e; rw [fit, fitS_iff]
theorem ps0 {α : Type} {l : List α} : ((l.length : Nat) : Int) = 0 ↔ l = [] := by
 cases l <;> simp; omega
theorem truth_cur : ¬ curP truthS := fun h => by have := h.1; revert this; decide
theorem number_cur : ¬ curP numberS := fun h => by have := h.1; revert this; decide
theorem minutes_cur : ¬ curP minutesS := fun h => by have := h.1; revert this; decide
theorem loc0 (c : Co) (op n : Int) (u : ByteArray) (t : Fn) : loc c ⟨op, n, u, t, []⟩ ↔ tabless ⟨op, n, u, t, []⟩ ∧ leafP c ⟨op, n, u, t, []⟩ := Iff.rfl
theorem loc1 (c : Co) (op n : Int) (u : ByteArray) (t : Fn) (a : Ex) : loc c ⟨op, n, u, t, [a]⟩ ↔ n = 0 ∧ ((tabless ⟨op, n, u, t, [a]⟩ ∧ op = 5 ∧ u = truthS ∧ a.unit = truthS) ∨ (op = 18 ∧ u = a.unit ∧ curP u ∧ tableP t)) := Iff.rfl
theorem loc2 (c : Co) (op n : Int) (u : ByteArray) (t : Fn) (a b : Ex) (r : List Ex) : loc c ⟨op, n, u, t, a :: b :: r⟩ ↔ n = 0 ∧ tabless ⟨op, n, u, t, a :: b :: r⟩ ∧ manyP ⟨op, n, u, t, a :: b :: r⟩ a b r := Iff.rfl
theorem many_op {e a b : Ex} {r : List Ex} (h : manyP e a b r) : 6 ≤ e.op ∧ e.op ≤ 17 := by
 unfold manyP pairP at h
 omega
theorem many_unit {e a b : Ex} {r : List Ex} (h : manyP e a b r) (ha : unitP a.unit) (hb : unitP b.unit) : unitP e.unit := by
 have ht : unitP truthS := .inl rfl
 unfold manyP pairP at h
 grind
theorem fitsR_m (c : Co) (ha : c.arts.length ≤ 9223372036854775807) (hd : Decd c) : ∀ (m : Nat) (e : Ex), okE e → cnt e ≤ m → ref10_fits_M m c e = some (mb (fit c e)) := by
 intro m
 induction m with
 | zero => intro e _ h; have := cnt_pos e; omega
 | succ m ih =>
   intro e hok hn
   obtain ⟨_, hk, hks⟩ := (okE_iff e).1 hok
   rw [ref10_fits_M, ref10_fits_B, mb_congr (fit_iff c e)]
   rw [k_loop (v := false) (P := fun _ k => fit c k) hk (fun i y hy => by
     have hm := List.mem_of_getElem? hy
     have h3 := cnt_kid hm
     simp only [ref10_fits_L1]
     rw [ih y (hks y hm) (by omega)]
     simp only [Option.bind_some, c_mb, k_nr]), mem_at]
   by_cases hf : ∀ k ∈ e.kids, fit c k
   · rw [iff_T hf]
     obtain ⟨op, n, u, t, ks⟩ := e
     simp only at hf hk ⊢
     match ks, hf, hk with
     | [], hf, hk =>
       rw [leafR_s c _ ha hd]
       simp only [eqI_mb, c_mb, List.length_nil, show ((0 : Nat) : Int) = 0 from rfl, iff_T, Option.bind_some, m_qf, ps0, m_qr]
       refine smb ?_
       rw [loc0]
       unfold tabless
       have l0 := @leaf0 c ⟨op, n, u, t, []⟩
       simp only at l0 ⊢
       by_cases h1 : op = 1
       · subst h1; simp; grind
       by_cases h2 : op = 2
       · subst h2; simp; grind
       by_cases h3 : op = 3
       · subst h3; simp; grind
       by_cases h4 : op = 4
       · subst h4; simp; grind
       have := l0 h1 h2 h3 h4
       grind
     | [a], hf, hk =>
       have hua := ((fit_iff c a).1 (hf a (by simp))).1
       simp only [eqI_mb, eqB_mb, c_mb, List.length_cons, List.length_nil, show ((0 + 1 : Nat) : Int) = 1 from rfl, show ¬ (1 : Int) = 0 from by omega, not_false_eq_true, iff_F, iff_T, Option.bind_some, List.getElem?_cons_zero, cur_s, tabR_s, m_tf, m_qf, m_ff, m_qr, ps0, m_same]
       rw [loc1]
       unfold tabless
       have ht : unitP truthS := .inl rfl
       simp only [iff_same_ff, m_qf, m_qr, m_tf, m_fq]
       refine smb ?_
       grind
     | a :: b :: r, hf, hk =>
       have hua := ((fit_iff c a).1 (hf a (by simp))).1
       have hub := ((fit_iff c b).1 (hf b (by simp))).1
       have n1 : ¬ (((a :: b :: r).length : Nat) : Int) = 1 := by simp only [List.length_cons]; omega
       rw [many_s _ _ _ _ _ _ _ hk]
       simp only [eqI_mb, eqB_mb, c_mb, iff_F n1, ps0, iff_F (show ¬ (a :: b :: r = []) by simp), Option.bind_some, m_qf, m_qr]
       refine smb ?_
       rw [loc2]
       have h5 := @many_op ⟨op, n, u, t, a :: b :: r⟩ a b r
       have h6 := @many_unit ⟨op, n, u, t, a :: b :: r⟩ a b r
       simp only at h5 h6 ⊢
       unfold tabless
       generalize manyP ⟨op, n, u, t, a :: b :: r⟩ a b r = M at *
       grind
   · rw [iff_F hf]
     exact smbF fun h => hf h.2.1
theorem fitsR_s (c : Co) (ha : c.arts.length ≤ 9223372036854775807) (hd : Decd c) (e : Ex) (h : okE e) : ref10_fits_R c e = some (mb (fit c e)) :=
 evt_of (cnt e) fun n hn => fitsR_m c ha hd n e h hn
theorem FitsR_s (c : Co) (ha : c.arts.length ≤ 9223372036854775807) (hd : Decd c) (e : Ex) (h : okE e) : ref10_Fits_B c e = some (mb (smE e ∧ fit c e)) := by
 rw [ref10_Fits_B, within_s e h, fitsR_s c ha hd e h]
 simp only [Option.bind_some, c_mb, m_qf]
end Mo
end Go.Proofs.YtnijkdknnmgoeaaGreat
namespace Go.Proofs.YtnijkdknnmgoeaaGreat
open AI Go
namespace Mo
set_option maxRecDepth 100000
set_option maxHeartbeats 4000000
def okA (a : Ar) : Prop := a.wh.length ≤ 9223372036854775807 ∧ a.un.length ≤ 9223372036854775807 ∧ (∀ e ∈ a.wh, okE e) ∧ okE a.am
def okC (c : Co) : Prop := c.facts.length ≤ 9223372036854775807 ∧ c.lines.length ≤ 9223372036854775807 ∧ c.arts.length ≤ 9223372036854775807 ∧ ∀ a ∈ c.arts, okA a
theorem okC_of {c : Co} (h : okCo c) : okC c := ⟨h.1, h.2.1, h.2.2.1, fun a ha => by have := h.2.2.2 a ha; exact ⟨this.1, this.2.2.1, this.2.1, this.2.2.2⟩⟩
def whole (c : Co) (e : Ex) (u : ByteArray) : Prop := smE e ∧ fit c e ∧ e.unit = u
def headP (c : Co) (a : Ar) : Prop := (1 ≤ a.number ∧ a.number ≤ 1000000) ∧ (0 ≤ a.line ∧ a.line < ((c.lines.length : Nat) : Int)) ∧ lnOf c.arts a.number = some a.line
def bodyP (c : Co) (a : Ar) : Prop := (0 ≤ a.rank ∧ a.rank ≤ 1000000) ∧ (0 ≤ a.fr ∧ a.fr < a.to ∧ a.to ≤ 36525) ∧ (0 ≤ a.known ∧ a.known ≤ 36524) ∧ (∀ z ∈ a.un, lnOf c.arts z ≠ none) ∧ (∀ e ∈ a.wh, whole c e truthS) ∧ ∃ d, geti c.lines a.line = some d ∧ whole c a.am d.unit
def validP (c : Co) : Prop := (declsP c.facts 0 0 ∧ c.facts.length ≤ 32) ∧ (declsP c.lines 1 4 ∧ c.lines.length ≤ 32) ∧ c.arts.length ≤ 60 ∧ ∀ a ∈ c.arts, headP c a ∧ bodyP c a
theorem decd_of {c : Co} (h1 : declsP c.facts 0 0) (h2 : declsP c.lines 1 4) : Decd c :=
 ⟨fun d hd => by obtain ⟨i, hi⟩ := List.getElem?_of_mem hd; exact (h1 i d hi).2.1, fun d hd => by obtain ⟨i, hi⟩ := List.getElem?_of_mem hd; exact (h2 i d hi).2.1⟩
theorem validR_s (c : Co) (hc : okC c) : ref10_Valid_B c = some (mb (validP c)) := by
 obtain ⟨hf, hl, ha, hao⟩ := hc
 rw [ref10_Valid_B, decls_s _ _ _ hf, decls_s _ _ _ hl]
 simp only [Option.bind_some, c_mb, ltI_mb]
 unfold validP
 by_cases h1 : declsP c.facts 0 0 ∧ c.facts.length ≤ 32
 · by_cases h2 : declsP c.lines 1 4 ∧ c.lines.length ≤ 32
   · by_cases h3 : 60 < ((c.arts.length : Nat) : Int)
     · rw [iff_T h1, iff_T h2, iff_T h3]; exact smbF fun h => by have := h.2.2.1; omega
     · have hd := decd_of h1.1 h2.1
       rw [iff_T h1, iff_T h2, iff_F h3, k_loop (v := false) (P := fun _ a => headP c a ∧ bodyP c a) ha (fun i a hi => by
         have hm := List.mem_of_getElem? hi
         obtain ⟨hw, hu, hwe, hae⟩ := hao a hm
         have e1 := fun (k : Unit → Option (Lp Unit Unit Bool)) => k_loop (l := a.wh) (body := fun i y x => ref10_Valid_L2 c i y) (v := false) (P := fun _ e => whole c e truthS) (k := k) (kr := fun v => some (.rt v)) hw (fun i e hi => by
           simp only [ref10_Valid_L2, FitsR_s c ha hd _ (hwe e (List.mem_of_getElem? hi)), Option.bind_some, eqB_mb, c_mb, k_nr, k_qr]
           congr 2; apply propext; unfold whole; exact and_assoc)
         have e2 := fun (k : Unit → Option (Lp Unit Unit Bool)) => k_loop (l := a.un) (body := fun i y x => ref10_Valid_L3 c i y) (v := false) (P := fun _ z => lnOf c.arts z ≠ none) (k := k) (kr := fun v => some (.rt v)) hu (fun i z hi => by
           simp only [ref10_Valid_L3, numbered_s _ _ ha, Option.bind_some, ltI_mb, c_mb, k_rn]
           congr 2; apply propext
           rcases ln_fst c.arts z with ⟨h1, h2, _⟩ | ⟨k, y, h1, _, _, h2⟩
           · rw [h1, h2]; simp
           · rw [h1, h2]; simp)
         simp only [ref10_Valid_L1, numbered_s _ _ ha, FitsR_s c ha hd _ hae, Option.bind_some, ltI_mb, leI_mb, eqI_mb, eqB_mb, c_mb, e1, e2, mem_at]
         rcases ln_fst c.arts a.number with ⟨_, _, h4⟩ | ⟨k, y, h4, h5, _, h6⟩
         · exact absurd rfl (h4 a hm)
         · rw [h4, geti_nat, h5]
           simp only [Option.bind_some]
           unfold headP bodyP
           rw [h6]
           by_cases hl1 : 0 ≤ a.line ∧ a.line < ((c.lines.length : Nat) : Int)
           · obtain ⟨d, hd1, _⟩ := geti_in hl1.1 hl1.2
             rw [hd1]
             simp only [Option.bind_some, k_nr, k_qr, k_rq]
             congr 2; apply propext
             unfold whole
             simp only [Option.some.injEq, exists_eq_left']
             grind
           · rw [show ∀ x y z : Option (Lp Unit Unit Bool), iff_ (a.number < 1) x (iff_ (1000000 < a.number) y (iff_ (a.line < 0) (some (.rt false)) (iff_ (((c.lines.length : Nat) : Int) ≤ a.line) (some (.rt false)) z))) = iff_ (a.number < 1) x (iff_ (1000000 < a.number) y (some (.rt false))) from fun x y z => by
               congr 2
               by_cases q : a.line < 0
               · rw [iff_T q]
               · rw [iff_F q, iff_T (by omega)]]
             simp only [m_same]
             rw [show (some (.rt false) : Option (Lp Unit Unit Bool)) = some (ck false False) by unfold ck; rw [iff_F (fun h => h)]]
             congr 2; apply propext
             grind
         ), m_tf, mem_at]
       refine smb ?_
       exact ⟨fun h => ⟨h1, h2, by omega, h⟩, fun h => h.2.2.2⟩
   · rw [iff_T h1, iff_F h2]; exact smbF fun h => h2 h.2.1
 · rw [iff_F h1]; exact smbF fun h => h1 h.1
end Mo
end Go.Proofs.YtnijkdknnmgoeaaGreat
namespace Go.Proofs.YtnijkdknnmgoeaaGreat
open AI Go
namespace Mo
set_option maxRecDepth 100000
set_option maxHeartbeats 4000000
theorem key_s (s : ByteArray) : parser_isKey_B s = some (mb (s ∈ keysL)) := by
 rw [parser_isKey_B]
 simp only [eqB_mb, c_mb, m_tf, m_tq]
 refine smb ?_
 simp only [keysL, List.mem_cons, List.not_mem_nil, or_false]
theorem size0 (s : ByteArray) : s = ByteArray.empty ↔ s.data.toList.length = 0 := by
 constructor
 · intro h; rw [h]; rfl
 · intro h
   apply ByteArray.ext
   apply Array.ext'
   rw [List.eq_nil_of_length_eq_zero h]; rfl
theorem gname_s (s : ByteArray) : parser_goodName_B s = some (mb (nameP s)) := by
 rw [parser_goodName_B]
 simp only [eqB_mb, ltI_mb, c_mb, key_s, Option.bind_some]
 unfold nameP
 by_cases h0 : s = ByteArray.empty
 · rw [iff_T h0]; exact smbF fun h => by have := (size0 s).1 h0; omega
 have h1 : s.data.toList.length ≠ 0 := fun h => h0 ((size0 s).2 h)
 rw [iff_F h0]
 by_cases h2 : 16 < ((s.data.toList.length : Nat) : Int)
 · rw [iff_T h2]; exact smbF fun h => by omega
 rw [iff_F h2]
 obtain ⟨b, hb⟩ : ∃ b, s.data.toList[0]? = some b := ⟨_, List.getElem?_eq_getElem (by omega)⟩
 rw [hb, k_loop (v := false) (P := fun _ y => wordN y) (by omega) (fun i y _ => by
   simp only [parser_goodName_L1, ltI_mb, eqI_mb, c_mb, k_nr, k_qr, k_rn, k_qn, k_rq, k_qq, k_nq]
   congr 2
   unfold wordN
   apply propext
   omega)]
 simp only [Option.bind_some, m_tf, m_fq, mem_at]
 refine smb ?_
 constructor
 · rintro ⟨h3, h4, h5, h6⟩
   exact ⟨by omega, ⟨b, rfl, by omega⟩, h5, h6⟩
 · rintro ⟨h3, ⟨c, hc, h4⟩, h5, h6⟩
   cases hc
   exact ⟨by omega, by omega, h5, h6⟩
theorem piece0 : api_Piece_B [] [] = some true := by
 rw [api_Piece_B]; rfl
theorem node1 (n : Nd) : parser_checker_node_B ⟨0⟩ n 1 = some (true, 1) := by
 rw [parser_checker_node_B, wadd_in (by simp)]
 rfl
theorem bare_ref (s : ByteArray) : parser_bare_B ⟨12, s, ByteArray.empty, 0, 0, 0, 0, ⟨0, []⟩, [], 0⟩ ⟨0, s, ByteArray.empty, 0, 0, 0, 0, ⟨0, []⟩, [], 0⟩ = some true := by
 rw [parser_bare_B]
 simp only [eqB_mb, eqI_mb, c_mb, iff_T, piece0, Option.bind_some]
theorem isName_s (s : ByteArray) : codex_isName_B s = some (mb (nameP s)) := by
 have h1 : parser_checker_expr_R ⟨0⟩ ⟨12, s, ByteArray.empty, 0, 0, 0, 0, ⟨0, []⟩, [], 0⟩ 1 = some (mb (nameP s), 1) := by
   refine evt_of 1 fun n hn => ?_
   obtain ⟨n, rfl⟩ : ∃ k, n = k + 1 := ⟨n - 1, by omega⟩
   rw [parser_checker_expr_M, parser_checker_expr_B, node1]
   simp only [Option.bind_some, cond_true, show eqI 12 11 = false from rfl, show eqI 12 12 = true from rfl, cond_false, gname_s, List.length_nil, show eqI ((0 : Nat) : Int) 0 = true from rfl, bare_ref, c_mb]
   by_cases h : nameP s
   · rw [iff_T h, show mb (nameP s) = true from mb_true.2 h]
   · rw [iff_F h, show mb (nameP s) = false from mb_is_false.symm ▸ h]
 rw [codex_isName_B, parser_Valid_B]
 simp only [show eqI 12 1 = false from rfl, cond_false, h1, Option.bind_some]
theorem pcur_s (s : ByteArray) : codex_isCur_B s = some (mb (curP s)) := by
 rw [codex_isCur_B, eqI_mb, c_mb]
 unfold curP
 by_cases h : ((s.data.toList.length : Nat) : Int) = 3
 · rw [iff_T h, k_loop (v := false) (P := fun _ y => 65 ≤ y.toNat ∧ y.toNat ≤ 90) (by omega) (fun i y _ => by
     simp only [codex_isCur_L1, ltI_mb, c_mb, k_rn, k_rq]
     congr 2; apply propext; omega), m_tf, mem_at]
   exact smb ⟨fun h2 => ⟨by omega, h2⟩, fun h2 => h2.2⟩
 · rw [iff_F h]; exact smbF fun h2 => h (by omega)
theorem punit_s (s : ByteArray) : codex_isUnit_B s = some (mb (unitP s)) := by
 rw [codex_isUnit_B]
 simp only [eqB_mb, c_mb, pcur_s, Option.bind_some, m_tq]
 rfl
theorem gdecls_s (l : List Dc) (lo hi : Int) (hl : l.length ≤ 9223372036854775807) : codex_goodDecls_B l lo hi = some (mb (declsP l lo hi)) := by
 rw [codex_goodDecls_B, Sp_eq]
 refine Sp_loop (fun i m => (∀ x, (m.get x).getD false = true ↔ ∃ (j : Nat) (d : Dc), j < i ∧ l[j]? = some d ∧ d.name = x) ∧ ∀ (j : Nat) d, j < i → l[j]? = some d → declP l lo hi j d) hl ⟨fun x => by simp [Mm.get_nil], fun j d hj => by omega⟩ (fun i y m hy hI => ?_) (fun m hI => ?_)
 · obtain ⟨h1, h2⟩ := hI
   simp only [codex_goodDecls_L1, isName_s, punit_s, Option.bind_some, ltI_mb, c_b, mb_is_true, Sp_iff, Sp_some, RQ_nx, RQ_rt, false_is_mb]
   rw [h1 y.name]
   have hd : ∀ q : Prop, (declP l lo hi i y → q) → ¬ q → ¬ declsP l lo hi := fun q h3 h4 h5 => h4 (h3 (h5 i y hy))
   refine ⟨fun a => ⟨fun b => ?_, fun b => ⟨fun c => ⟨fun d => ?_, fun d => ⟨fun e => ?_, fun e => ⟨fun x => ?_, fun j d' hj hj2 => ?_⟩⟩⟩, fun c => ?_⟩⟩, fun a => ?_⟩
   · obtain ⟨j, d, hj, hd1, hd2⟩ := b
     exact fun h5 => (h5 i y hy).2.2.2.2 j d hj hd1 hd2
   · exact fun h5 => by have := (h5 i y hy).2.2.1; omega
   · exact fun h5 => by have := (h5 i y hy).2.2.2.1; omega
   · rw [Mm.get_set]
     by_cases hx : x = y.name
     · rw [if_pos hx]
       exact ⟨fun _ => ⟨i, y, by omega, hy, hx.symm⟩, fun _ => rfl⟩
     · rw [if_neg hx, h1 x]
       constructor
       · rintro ⟨j, d, hj, hd1, hd2⟩; exact ⟨j, d, by omega, hd1, hd2⟩
       · rintro ⟨j, d, hj, hd1, hd2⟩
         have : j ≠ i := fun e => by subst e; rw [hy] at hd1; cases hd1; exact hx hd2.symm
         exact ⟨j, d, by omega, hd1, hd2⟩
   · rcases Nat.lt_or_ge j i with h | h
     · exact h2 j d' h hj2
     · have : j = i := by omega
       subst this; rw [hy] at hj2; cases hj2
       exact ⟨a, c, by omega, by omega, fun j' e' hj' he' hn => b ⟨j', e', hj', he', hn⟩⟩
   · exact fun h5 => c (h5 i y hy).2.1
   · exact fun h5 => a (h5 i y hy).1
 · rw [Sp_some, true_is_mb]
   exact fun j d hj => hI.2 j d (List.getElem?_eq_some_iff.1 hj).1 hj
theorem tabC_s (f : Fn) : piecewise_Valid_B f = some (mb (tableP f)) := by
 rw [piecewise_Valid_B]
 simp only [ltI_mb, c_mb]
 by_cases h1 : f.den < 1
 · rw [iff_T h1]; exact smbF (by unfold tableP; omega)
 by_cases h2 : 1000000 < f.den
 · rw [iff_F h1, iff_T h2]; exact smbF (by unfold tableP; omega)
 by_cases h3 : ((f.ps.length : Nat) : Int) < 1
 · rw [iff_F h1, iff_F h2, iff_T h3]; exact smbF (by unfold tableP; omega)
 by_cases h4 : 64 < ((f.ps.length : Nat) : Int)
 · rw [iff_F h1, iff_F h2, iff_F h3, iff_T h4]; exact smbF (by unfold tableP; omega)
 rw [iff_F h1, iff_F h2, iff_F h3, iff_F h4, k_loop (v := false) (P := pieceP f) (by omega) (fun i y hy => by
   have hi := (List.getElem?_eq_some_iff.1 hy).1
   simp only [piecewise_Valid_L1, ltI_mb, eqI_mb, leI_mb, c_mb]
   cases i with
   | zero =>
     simp only [show ((0 : Nat) : Int) = 0 from rfl, iff_T, k_nr, k_rn, k_rq, k_qr]
     congr 2
     apply propext
     unfold pieceP
     grind
   | succ i =>
     obtain ⟨q, hq⟩ : ∃ q, f.ps[i]? = some q := ⟨_, List.getElem?_eq_getElem (by omega)⟩
     rw [wsub_in (by omega), show ((i + 1 : Nat) : Int) - 1 = ((i : Nat) : Int) by omega, geti_nat, hq]
     rw [iff_F (show ¬ ((i + 1 : Nat) : Int) = 0 by omega), iff_T (show (0 : Int) < ((i + 1 : Nat) : Int) by omega)]
     simp only [Option.bind_some, leI_mb, c_mb, k_rn, k_rq, k_qr]
     congr 2
     apply propext
     unfold pieceP
     have h5 : (∀ (j : Nat) q', i + 1 = j + 1 → f.ps[j]? = some q' → q'.fr < y.fr) ↔ q.fr < y.fr := ⟨fun h => h i q rfl hq, fun h j q' hj hq' => by cases hj; rw [hq] at hq'; cases hq'; exact h⟩
     rw [h5]
     grind), m_tf]
 refine smb ?_
 unfold tableP
 exact ⟨fun h => ⟨by omega, by omega, h⟩, fun h => h.2.2⟩
theorem leafC_s (f : Ft) (e : Ex) (ho : 1 ≤ e.op ∧ e.op ≤ 4) (hg : ∀ z, f.lines.get z = lnOf f.codex.arts z) (hln : ∀ z l, lnOf f.codex.arts z = some l → 0 ≤ l ∧ l < ((f.codex.lines.length : Nat) : Int)) : codex_fitter_leaf_B f e = some (mb (leafP f.codex e)) := by
 rw [codex_fitter_leaf_B, hg]
 simp only [leI_mb, ltI_mb, eqI_mb, eqB_mb, c_b, mb_is_true, Option.bind_some, m_tf, m_qf, m_qt, m_geti]
 by_cases h1 : e.op = 1
 · rw [iff_T h1, mb_congr (leaf1 h1)]
   refine smb ?_; unfold constP; grind
 rw [iff_F h1]
 by_cases h2 : e.op = 2
 · rw [iff_T h2, mb_congr (leaf2 h2)]
 rw [iff_F h2]
 by_cases h3 : e.op = 3
 · rw [iff_T h3, mb_congr (leaf3 h3)]
   cases hl : lnOf f.codex.arts e.n with
   | none => rw [iff_F (by simp)]; exact smbF (by simp)
   | some l =>
     obtain ⟨x, hx, _⟩ := geti_in (hln _ _ hl).1 (hln _ _ hl).2
     rw [iff_T (by simp), Option.getD_some, hx]
     simp only [Option.bind_some]
     refine smb ⟨fun h => ⟨l, x, rfl, hx, h⟩, fun ⟨l', d, h1, h2, h3⟩ => by cases h1; rw [hx] at h2; cases h2; exact h3⟩
 rw [iff_F h3]
 have h4 : e.op = 4 := by omega
 exact smb (leaf4 h4).symm
end Mo
end Go.Proofs.YtnijkdknnmgoeaaGreat
namespace Go.Proofs.YtnijkdknnmgoeaaGreat
open AI Go
namespace Mo
set_option maxRecDepth 100000
set_option maxHeartbeats 4000000
theorem same_s (k : Ex) (ks : List Ex) (hl : (k :: ks).length ≤ 9223372036854775807) : codex_same_B (k :: ks) = some (mb (∀ x ∈ k :: ks, x.unit = k.unit)) := by
 rw [codex_same_B, k_loop (v := false) (P := fun _ x => x.unit = k.unit) hl (fun i x _ => by
   simp only [codex_same_L1, List.getElem?_cons_zero, Option.bind_some, eqB_mb, c_mb, k_nr]), m_tf, mem_at]
theorem product_s (a b : ByteArray) : codex_product_B a b = some (open Classical in if a = numberS then b else a) := by
 rw [codex_product_B, eqB_mb, c_mb]
 by_cases h : a = numberS
 · rw [iff_T h, if_pos h]
 · rw [iff_F h, if_neg h]
theorem last_at {α : Type} (a : α) (l : List α) : ∃ x, geti (a :: l) ((((a :: l).length : Nat) : Int) - 1) = some x ∧ x ∈ a :: l ∧ (l = [] → x = a) ∧ ∀ b, l = [b] → x = b := by
 have h : ((((a :: l).length : Nat) : Int) - 1) = ((l.length : Nat) : Int) := by simp only [List.length_cons]; omega
 rw [h, geti_nat]
 have h2 : l.length < (a :: l).length := by simp
 refine ⟨(a :: l)[l.length], List.getElem?_eq_getElem h2, List.getElem_mem _, fun h => by subst h; rfl, fun b h => by subst h; rfl⟩
theorem oper_s (op n : Int) (u : ByteArray) (t : Fn) (a : Ex) (r : List Ex) (hl : (a :: r).length ≤ 9223372036854775807) (hu : ∀ k ∈ a :: r, unitP k.unit) (ho : ¬ (1 ≤ op ∧ op ≤ 4)) (ho2 : op ≠ 18) :
   codex_operation_B ⟨op, n, u, t, a :: r⟩ = some (mb ((r = [] ∧ op = 5 ∧ u = truthS ∧ a.unit = truthS) ∨ ∃ b r', r = b :: r' ∧ manyP ⟨op, n, u, t, a :: r⟩ a b r')) := by
 obtain ⟨x, hx, hxm, hx0, hx1⟩ := last_at a r
 rw [codex_operation_B]
 simp only [List.getElem?_cons_zero, Option.bind_some]
 rw [wsub_in (by omega), hx]
 simp only [Option.bind_some, same_s a r hl, eqB_mb, eqI_mb, leI_mb, ltI_mb, not_mb, product_s, pcur_s, c_b, mb_is_true, m_tf, m_qf, m_fq, m_qr, m_ff, m_tq, m_same]
 refine smb ?_
 have nt1 : truthS ≠ numberS := by intro h; exact absurd (congrArg ByteArray.data h) (by decide)
 have nt2 : truthS ≠ minutesS := by intro h; exact absurd (congrArg ByteArray.data h) (by decide)
 have nt3 : numberS ≠ minutesS := by intro h; exact absurd (congrArg ByteArray.data h) (by decide)
 have tc := truth_cur
 have nc := number_cur
 have mc := minutes_cur
 have hua := hu a (by simp)
 have hux := hu x hxm
 match r, hl, hx0, hx1 with
 | [], hl, hx0, hx1 =>
   have := hx0 rfl
   subst this
   simp only [List.length_cons, List.length_nil, List.mem_singleton, forall_eq, reduceCtorEq, false_and, exists_false, or_false, true_and]
   grind
 | [b], hl, hx0, hx1 =>
   have := hx1 b rfl
   subst this
   have e2 : (((([a, x] : List Ex).length : Nat) : Int) = 2) ↔ True := by simp
   have e1 : (((([a, x] : List Ex).length : Nat) : Int) = 1) ↔ False := by simp
   have e3 : ((2 : Int) ≤ ((([a, x] : List Ex).length : Nat) : Int)) ↔ True := by simp
   have es : (∀ k ∈ [a, x], k.unit = a.unit) ↔ x.unit = a.unit := by simp
   have eq : ∀ M : Ex → List Ex → Prop, (∃ b r', [x] = b :: r' ∧ M b r') ↔ M x [] := fun M => ⟨fun ⟨b, r', h, hm⟩ => by cases h; exact hm, fun h => ⟨x, [], rfl, h⟩⟩
   rw [eq]
   simp only [e1, e2, e3, es, reduceCtorEq, false_and, false_or]
   unfold manyP pairP
   simp only [es]
   generalize a.unit = ua at *; generalize x.unit = ub at *; generalize x.op = xo at *; generalize x.n = xn at *
   clear hx hxm hx0 hx1 hu hl eq e1 e2 e3 es
   by_cases h6 : op = 6
   · subst h6; simp; try grind
   by_cases h7 : op = 7
   · subst h7; simp; try grind
   by_cases h8 : op = 8
   · subst h8; simp; try grind
   by_cases h9 : op = 9
   · subst h9; simp; try grind
   by_cases h10 : op = 10
   · subst h10; simp; try grind
   by_cases h11 : op = 11
   · subst h11; simp; try grind
   by_cases h12 : op = 12
   · subst h12; simp; try grind
   by_cases h13 : op = 13
   · subst h13; simp; try grind
   by_cases h14 : op = 14
   · subst h14; simp; try grind
   by_cases h15 : op = 15
   · subst h15; simp; try grind
   by_cases h16 : op = 16
   · subst h16; simp; try grind
   by_cases h17 : op = 17
   · subst h17; simp; try grind
   by_cases h5 : op = 5
   · subst h5; simp
   simp [h5, h6, h7, h8, h9, h10, h11, h12, h13, h14, h15, h16, h17]
 | b :: d :: r, hl, hx0, hx1 =>
   have e2 : ((((a :: b :: d :: r).length : Nat) : Int) = 2) ↔ False := by simp only [List.length_cons, iff_false]; omega
   have e1 : ((((a :: b :: d :: r).length : Nat) : Int) = 1) ↔ False := by simp only [List.length_cons, iff_false]; omega
   have e3 : ((2 : Int) ≤ (((a :: b :: d :: r).length : Nat) : Int)) ↔ True := by simp only [List.length_cons, iff_true]; omega
   have eq : ∀ M : Ex → List Ex → Prop, (∃ b' r', b :: d :: r = b' :: r' ∧ M b' r') ↔ M b (d :: r) := fun M => ⟨fun ⟨b, r', h, hm⟩ => by cases h; exact hm, fun h => ⟨b, d :: r, rfl, h⟩⟩
   rw [eq]
   simp only [e1, e2, e3, reduceCtorEq, false_and, false_or]
   unfold manyP
   simp only [reduceCtorEq, false_and, or_false]
   generalize (∀ k ∈ a :: b :: d :: r, k.unit = a.unit) = A at *
   clear hx hxm hx0 hx1 hu hl eq e1 e2 e3
   by_cases h16 : op = 16
   · subst h16; simp; try grind
   by_cases h17 : op = 17
   · subst h17; simp; try grind
   simp [h16, h17]
   try grind
theorem fitC_m (c : Co) (hd : Decd c) (hln : ∀ z l, lnOf c.arts z = some l → 0 ≤ l ∧ l < ((c.lines.length : Nat) : Int)) : ∀ (m : Nat) (e : Ex) (L : Mm Int Int) (nd : Int) (d : Int), okE e → cnt e ≤ m → (∀ z, L.get z = lnOf c.arts z) → 0 ≤ nd → nd ≤ 400 → 1 ≤ d → d ≤ 41 →
   Sp (codex_fitter_fits_M m ⟨c, L, nd⟩ e d) (fun r => (r.1 = mb (nd + ((cnt e : Nat) : Int) ≤ 400 ∧ ((dp e : Nat) : Int) + d ≤ 41 ∧ fit c e)) ∧ (r.1 = true → r.2 = nd + ((cnt e : Nat) : Int))) := by
 intro m
 induction m with
 | zero => intro e _ _ _ _ h; have := cnt_pos e; omega
 | succ m ih =>
   intro e L nd d hok hm hL hn0 hn1 hd0 hd1
   obtain ⟨_, hk, hks⟩ := (okE_iff e).1 hok
   have hc := cnt_eq e
   have hdp := dp_eq e
   rw [codex_fitter_fits_M, codex_fitter_fits_B]
   simp only
   rw [wadd_in (by omega)]
   simp only [punit_s, Option.bind_some, ltI_mb, c_b, mb_is_true, Sp_iff, Sp_some, false_is_mb, Bool.false_eq_true, false_implies, and_true]
   refine ⟨fun h => by omega, fun h1 => ⟨fun h => by omega, fun h2 => ⟨fun h3 => ?_, fun h3 => fun h => h3 ((fit_iff c e).1 h.2.2).1⟩⟩⟩
   refine Sp_loop (fun i x => x = nd + 1 + ((cntS (e.kids.take i) : Nat) : Int) ∧ x ≤ 400 ∧ ∀ (j : Nat) k, j < i → e.kids[j]? = some k → ((dp k : Nat) : Int) + d ≤ 40 ∧ fit c k) hk ⟨by simp [cntS], by omega, fun j k hj => by omega⟩ (fun i y x hy hI => ?_) (fun x hI => ?_)
   · obtain ⟨hx, hx4, hj⟩ := hI
     have hym := List.mem_of_getElem? hy
     have h4 := cnt_kid hym
     have h5 := cntS_step hy
     have h6 := cntS_take e.kids (i + 1)
     have h7 := dpS_le.1 (Nat.le_refl (dpS e.kids)) y hym
     simp only [codex_fitter_fits_L1, Sp_bind]
     rw [wadd_in (by omega)]
     refine (ih y L x (d + 1) (hks y hym) (by omega) hL (by omega) (by omega) (by omega) (by omega)).mono fun r hr => ?_
     obtain ⟨r1, r2⟩ := r
     obtain ⟨hr1, hr2⟩ := hr
     simp only at hr1 hr2 ⊢
     subst hr1
     simp only [c_mb, Sp_iff, Sp_some, RQ_nx, RQ_rt, false_is_mb, Bool.false_eq_true, false_implies, and_true]
     refine ⟨fun h => ?_, fun h => fun h8 => h ⟨?_, ?_, (fit_iff c e).1 h8.2.2 |>.2.1 y hym⟩⟩
     · have := hr2 (mb_true.2 h)
       refine ⟨by omega, by omega, fun j k hji hjk => ?_⟩
       rcases Nat.lt_or_ge j i with h9 | h9
       · exact hj j k h9 hjk
       · have : j = i := by omega
         subst this; rw [hy] at hjk; cases hjk
         exact ⟨by omega, h.2.2⟩
     · omega
     · omega
   · obtain ⟨hx, hx4, hj⟩ := hI
     rw [List.take_length] at hx
     have hfk : ∀ k ∈ e.kids, fit c k := fun k hk => by
       obtain ⟨i, hi⟩ := List.getElem?_of_mem hk
       exact (hj i k (List.getElem?_eq_some_iff.1 hi).1 hi).2
     have hdk : dpS e.kids ≤ (40 - d).toNat := dpS_le.2 fun k hk => by
       obtain ⟨i, hi⟩ := List.getElem?_of_mem hk
       have := (hj i k (List.getElem?_eq_some_iff.1 hi).1 hi).1
       omega
     have hP : (nd + ((cnt e : Nat) : Int) ≤ 400 ∧ ((dp e : Nat) : Int) + d ≤ 41 ∧ fit c e) ↔ loc c e := by
       rw [fit_iff]
       exact ⟨fun h => h.2.2.2.2, fun h => ⟨by omega, by omega, h3, hfk, h⟩⟩
     rw [mb_congr hP]
     have hx2 : x = nd + ((cnt e : Nat) : Int) := by omega
     subst hx2
     have fin : ∀ {o : Option (Bool × Int)} {q : Prop}, (loc c e ↔ q) → o = some (mb q, nd + ((cnt e : Nat) : Int)) → Sp o (fun r => r.1 = mb (loc c e) ∧ (r.1 = true → r.2 = nd + ((cnt e : Nat) : Int))) := fun hq ho => by
       rw [ho, Sp_some, mb_congr hq]; exact ⟨rfl, fun _ => rfl⟩
     have hun : ∀ k ∈ e.kids, unitP k.unit := fun k hk => ((fit_iff c k).1 (hfk k hk)).1
     obtain ⟨op, n, u, t, ks⟩ := e
     simp only at hun hk ⊢
     have lf := fun h => leafC_s ⟨c, L, nd + ((cnt ⟨op, n, u, t, ks⟩ : Nat) : Int)⟩ ⟨op, n, u, t, ks⟩ h hL hln
     simp only at lf
     simp only [eqI_mb, eqB_mb, leI_mb, ltI_mb, c_b, mb_is_true, pcur_s, tabC_s, Option.bind_some]
     clear fin hP hj hfk hdk hx hx4 hks ih hm hc hdp hok h1 h2
     by_cases ho : 1 ≤ op ∧ op ≤ 4
     · rw [lf ho]
       have n18 : ¬ op = 18 := by omega
       have n5 : ¬ op = 5 := by omega
       simp only [iff_T ho.1, iff_T ho.2, iff_F n18, Option.bind_some, Sp_iff, Sp_some, false_is_mb, mb_is_mb, Bool.false_eq_true, false_implies, implies_true, and_true]
       match ks with
       | [] => rw [loc0]; unfold tabless; simp only [List.length_nil]; have p0 := @ps0 Pc t.ps; grind
       | [a] => rw [loc1]; simp only [List.length_cons, List.length_nil]; grind
       | a :: b :: r =>
         rw [loc2]
         have h5 := @many_op ⟨op, n, u, t, a :: b :: r⟩ a b r
         simp only [List.length_cons] at h5 ⊢
         generalize manyP ⟨op, n, u, t, a :: b :: r⟩ a b r = M at *
         refine ⟨fun _ => ⟨fun _ h => ?_, fun _ => ⟨fun h => ?_, fun h h2 => ?_⟩⟩, fun _ h2 => ?_⟩
         · have := h5 h.2.2; omega
         · omega
         · have := h5 h2.2.2; omega
         · have := h5 h2.2.2; omega
     · have el : ∀ x y : Option (Bool × Int), iff_ (1 ≤ op) (iff_ (op ≤ 4) x y) y = y := fun x y => by
         by_cases q : 1 ≤ op
         · rw [iff_T q, iff_F (by omega)]
         · rw [iff_F q]
       rw [el]
       have lz := fun h1 h2 h3 h4 => @leaf0 c ⟨op, n, u, t, ks⟩ h1 h2 h3 h4
       have lz := lz (by show op ≠ 1; omega) (by show op ≠ 2; omega) (by show op ≠ 3; omega) (by show op ≠ 4; omega)
       match ks, hun, hk, lz with
       | [], hun, hk, lz =>
         rw [loc0]
         simp only [List.length_nil, Sp_iff, Sp_some, false_is_mb, Bool.false_eq_true, false_implies, and_true]
         refine ⟨fun _ => ⟨fun _ => ⟨fun h => by omega, fun _ h => lz h.2⟩, fun _ h => lz h.2⟩, fun _ => ⟨fun _ => ⟨fun _ h => lz h.2, fun _ => ⟨fun _ => ⟨fun h => by omega, fun _ h => lz h.2⟩, fun _ h => lz h.2⟩⟩, fun _ h => lz h.2⟩⟩
       | [a], hun, hk, lz =>
         rw [loc1]
         by_cases h18 : op = 18
         · subst h18
           simp only [List.length_cons, List.length_nil, List.getElem?_cons_zero, Option.bind_some, iff_T, Sp_iff, Sp_some, false_is_mb, mb_is_mb, Bool.false_eq_true, false_implies, implies_true, and_true]
           grind
         · rw [iff_F h18, oper_s op n u t a [] hk hun ho h18]
           have p0 := @ps0 Pc t.ps
           unfold tabless
           simp only [List.length_cons, List.length_nil, Option.bind_some, Sp_iff, Sp_some, false_is_mb, mb_is_mb, Bool.false_eq_true, false_implies, implies_true, and_true, reduceCtorEq, false_and, exists_false, or_false, true_and]
           grind
       | a :: b :: r, hun, hk, lz =>
         rw [loc2]
         have h5 := @many_op ⟨op, n, u, t, a :: b :: r⟩ a b r
         have eq : ∀ M : Ex → List Ex → Prop, (∃ b' r', b :: r = b' :: r' ∧ M b' r') ↔ M b r := fun M => ⟨fun ⟨b, r', h, hm⟩ => by cases h; exact hm, fun h => ⟨b, r, rfl, h⟩⟩
         have p0 := @ps0 Pc t.ps
         unfold tabless
         by_cases h18 : op = 18
         · subst h18
           simp only [iff_T, Sp_iff, Sp_some, false_is_mb, mb_is_mb, Bool.false_eq_true, false_implies, implies_true, and_true]
           have : ∀ q : Prop, (n = 0 ∧ q ∧ manyP ⟨18, n, u, t, a :: b :: r⟩ a b r) → False := fun q h => by have := h5 h.2.2; simp at this
           refine ⟨fun _ => ⟨fun h => ?_, fun _ h => this _ h⟩, fun _ h => this _ h⟩
           simp only [List.length_cons] at h; omega
         · rw [iff_F h18, oper_s op n u t a (b :: r) hk hun ho h18, mb_congr (show (((b :: r = [] ∧ op = 5 ∧ u = truthS ∧ a.unit = truthS) ∨ ∃ b' r', b :: r = b' :: r' ∧ manyP ⟨op, n, u, t, a :: b :: r⟩ a b' r') ↔ manyP ⟨op, n, u, t, a :: b :: r⟩ a b r) by rw [eq]; simp)]
           simp only [List.length_cons, Option.bind_some, Sp_iff, Sp_some, false_is_mb, mb_is_mb, Bool.false_eq_true, false_implies, implies_true, and_true]
           generalize manyP ⟨op, n, u, t, a :: b :: r⟩ a b r = M at *
           clear h5 eq lf
           grind
end Mo
end Go.Proofs.YtnijkdknnmgoeaaGreat
namespace Go.Proofs.YtnijkdknnmgoeaaGreat
open AI Go
namespace Mo
set_option maxRecDepth 100000
set_option maxHeartbeats 4000000
theorem lnOf_app (l m : List Ar) (z : Int) : lnOf (l ++ m) z = (lnOf l z).or (lnOf m z) := by
 unfold lnOf
 rw [List.find?_append]
 cases List.find? (fun a => decide (a.number = z)) l <;> rfl
theorem lnOf_one (a : Ar) (z : Int) : lnOf [a] z = if a.number = z then some a.line else none := by
 unfold lnOf
 by_cases h : a.number = z <;> simp [h]
theorem lnOf_some {l : List Ar} {z x : Int} (h : lnOf l z = some x) : ∃ a ∈ l, a.number = z ∧ a.line = x := by
 unfold lnOf at h
 obtain ⟨a, h1, h2⟩ := Option.map_eq_some_iff.1 h
 exact ⟨a, List.mem_of_find?_eq_some h1, by have := List.find?_some h1; simpa using this, h2⟩
theorem lnOf_take {l : List Ar} {i : Nat} {z x : Int} (h : lnOf (l.take i) z = some x) : lnOf l z = some x := by
 have := lnOf_app (l.take i) (l.drop i) z
 rw [List.take_append_drop] at this
 rw [this, h]; rfl
theorem lnOf_step {l : List Ar} {i : Nat} {a : Ar} (h : l[i]? = some a) (z : Int) : lnOf (l.take (i + 1)) z = (lnOf (l.take i) z).or (if a.number = z then some a.line else none) := by
 rw [List.take_add_one, h, lnOf_app]
 show (lnOf (l.take i) z).or (lnOf [a] z) = _
 rw [lnOf_one]
def LnIn (c : Co) : Prop := ∀ z l, lnOf c.arts z = some l → 0 ≤ l ∧ l < ((c.lines.length : Nat) : Int)
theorem fits_eq : ∀ (m m' : Nat) (e : Ex) (f : Ft) (d : Int), cnt e ≤ m → cnt e ≤ m' → codex_fitter_fits_M m f e d = codex_fitter_fits_M m' f e d := by
 intro m
 induction m with
 | zero => intro m' e _ _ h; have := cnt_pos e; omega
 | succ m ih =>
   intro m' e f d h1 h2
   cases m' with
   | zero => have := cnt_pos e; omega
   | succ m' =>
     rw [codex_fitter_fits_M, codex_fitter_fits_M, codex_fitter_fits_B, codex_fitter_fits_B, loop_congr (body' := fun i y x => codex_fitter_fits_L1 (codex_fitter_fits_M m') f d i y x) (fun i y x hy => by
       have := cnt_kid (List.mem_of_getElem? hy)
       simp only [codex_fitter_fits_L1]
       rw [ih m' y _ _ (by omega) (by omega)])]
theorem wholeC_s (c : Co) (hd : Decd c) (hln : LnIn c) (L : Mm Int Int) (hL : ∀ z, L.get z = lnOf c.arts z) (nd : Int) (e : Ex) (u : ByteArray) (he : okE e) : Sp (codex_fitter_whole_B ⟨c, L, nd⟩ e u) (fun r => r.1 = mb (whole c e u)) := by
 rw [codex_fitter_whole_B, eqB_mb, c_mb, Sp_iff]
 refine ⟨fun h => ?_, fun h => ?_⟩
 · obtain ⟨r, h1, h2⟩ : Sp (codex_fitter_fits_R ⟨c, L, 0⟩ e 1) (fun r => r.1 = mb ((0 : Int) + ((cnt e : Nat) : Int) ≤ 400 ∧ ((dp e : Nat) : Int) + 1 ≤ 41 ∧ fit c e)) := by
     obtain ⟨r, h1, h2, _⟩ := fitC_m c hd hln (cnt e) e L 0 1 he (Nat.le_refl _) hL (by omega) (by omega) (by omega) (by omega)
     refine ⟨r, evt_of (cnt e) fun n hn => ?_, h2⟩
     rw [fits_eq n (cnt e) e _ _ hn (Nat.le_refl _), h1]
   rw [h1, Sp_bind, Sp_some]
   obtain ⟨r1, r2⟩ := r
   simp only [Sp_some]
   simp only at h2
   rw [h2]
   refine mb_congr ?_
   unfold whole smE
   constructor
   · rintro ⟨a, b, d⟩; exact ⟨⟨by omega, by omega⟩, d, h⟩
   · rintro ⟨⟨a, b⟩, d, _⟩; exact ⟨by omega, by omega, d⟩
 · rw [Sp_some, false_is_mb]
   exact fun h2 => h h2.2.2
theorem articleC_s (c : Co) (hd : Decd c) (hln : LnIn c) (L : Mm Int Int) (hL : ∀ z, L.get z = lnOf c.arts z) (nd : Int) (a : Ar) (ha : okA a) (hli : 0 ≤ a.line ∧ a.line < ((c.lines.length : Nat) : Int)) : Sp (codex_fitter_article_B ⟨c, L, nd⟩ a) (fun r => r.1 = mb (bodyP c a)) := by
 obtain ⟨hw, hu, hwe, hae⟩ := ha
 rw [codex_fitter_article_B]
 simp only [ltI_mb, leI_mb, c_mb, Sp_iff, Sp_some, false_is_mb]
 have nb : ∀ q : Prop, (bodyP c a → ¬ q) → q → ¬ bodyP c a := fun q h1 h2 h3 => h1 h3 h2
 refine ⟨fun h => by unfold bodyP; omega, fun h1 => ⟨fun h => by unfold bodyP; omega, fun h2 => ⟨fun h => by unfold bodyP; omega, fun h3 => ⟨fun h => by unfold bodyP; omega, fun h4 => ⟨fun h => by unfold bodyP; omega, fun h5 => ⟨fun h => by unfold bodyP; omega, fun h6 => ⟨fun h => by unfold bodyP; omega, fun h7 => ?_⟩⟩⟩⟩⟩⟩⟩
 refine Sp_loop (fun i _ => ∀ (j : Nat) z, j < i → a.un[j]? = some z → lnOf c.arts z ≠ none) hu (fun j z hj => by omega) (fun i z x hz hI => ?_) (fun x hI => ?_)
 · simp only [codex_fitter_article_L1, hL, c_b, Sp_iff, Sp_some, RQ_nx, RQ_rt, false_is_mb]
   refine ⟨fun h j z' hj hz' => ?_, fun h h2 => ?_⟩
   · rcases Nat.lt_or_ge j i with h9 | h9
     · exact hI j z' h9 hz'
     · have : j = i := by omega
       subst this; rw [hz] at hz'; cases hz'
       intro e; rw [e] at h; cases h
   · have := h2.2.2.2.1 z (List.mem_of_getElem? hz)
     cases hq : lnOf c.arts z with
     | none => exact this hq
     | some x => rw [hq] at h; exact h rfl
 · have hun : ∀ z ∈ a.un, lnOf c.arts z ≠ none := fun z hz => by obtain ⟨i, hi⟩ := List.getElem?_of_mem hz; exact hI i z (List.getElem?_eq_some_iff.1 hi).1 hi
   clear hI
   refine Sp_loop (fun i _ => ∀ (j : Nat) e, j < i → a.wh[j]? = some e → whole c e truthS) hw (fun j z hj => by omega) (fun i e x he hI => ?_) (fun x hI => ?_)
   · simp only [codex_fitter_article_L2, Sp_bind]
     refine (wholeC_s c hd hln L hL x e truthS (hwe e (List.mem_of_getElem? he))).mono fun r hr => ?_
     obtain ⟨r1, r2⟩ := r
     simp only at hr ⊢
     subst hr
     simp only [c_mb, Sp_iff, Sp_some, RQ_nx, RQ_rt, false_is_mb]
     refine ⟨fun h j e' hj he' => ?_, fun h h2 => h (h2.2.2.2.2.1 e (List.mem_of_getElem? he))⟩
     rcases Nat.lt_or_ge j i with h9 | h9
     · exact hI j e' h9 he'
     · have : j = i := by omega
       subst this; rw [he] at he'; cases he'; exact h
   · have hwh : ∀ e ∈ a.wh, whole c e truthS := fun z hz => by obtain ⟨i, hi⟩ := List.getElem?_of_mem hz; exact hI i z (List.getElem?_eq_some_iff.1 hi).1 hi
     obtain ⟨d, hd1, _⟩ := geti_in hli.1 hli.2
     rw [hd1, Option.bind_some, Sp_bind]
     refine (wholeC_s c hd hln L hL x a.am d.unit hae).mono fun r hr => ?_
     obtain ⟨r1, r2⟩ := r
     simp only at hr ⊢
     rw [Sp_some, hr]
     refine mb_congr ⟨fun h => ⟨by omega, by omega, by omega, hun, hwh, d, hd1, h⟩, fun h => ?_⟩
     obtain ⟨d', h1, h2⟩ := h.2.2.2.2.2
     rw [hd1] at h1; cases h1; exact h2
theorem validC_s (c : Co) (hc : okC c) : codex_Valid_B c = some (mb (validP c)) := by
 obtain ⟨hf, hl, ha, hao⟩ := hc
 rw [codex_Valid_B, gdecls_s _ _ _ hf, gdecls_s _ _ _ hl, Sp_eq]
 simp only [ltI_mb, c_mb, Option.bind_some, Sp_iff, Sp_some, false_is_mb]
 refine ⟨fun h => by unfold validP; omega, fun h1 => ⟨fun h => by unfold validP; omega, fun h2 => ⟨fun h => by unfold validP; omega, fun h3 => ⟨fun h4 => ⟨fun h5 => ?_, fun h5 h => h5 h.2.1.1⟩, fun h4 h => h4 h.1.1⟩⟩⟩⟩
 have hd := decd_of h4 h5
 refine Sp_loop (fun i m => (∀ z, m.get z = lnOf (c.arts.take i) z) ∧ ∀ (j : Nat) a, j < i → c.arts[j]? = some a → (1 ≤ a.number ∧ a.number ≤ 1000000) ∧ (0 ≤ a.line ∧ a.line < ((c.lines.length : Nat) : Int)) ∧ lnOf (c.arts.take i) a.number = some a.line) ha ⟨fun z => rfl, fun j a hj => by omega⟩ (fun i a m hi hI => ?_) (fun m hI => ?_)
 · obtain ⟨hm, hj⟩ := hI
   have hm' := hm a.number
   have hmem := List.mem_of_getElem? hi
   have hst := lnOf_step hi
   simp only [codex_Valid_L1, ltI_mb, leI_mb, eqI_mb, c_b, mb_is_true, Sp_iff, Sp_some, RQ_nx, RQ_rt, false_is_mb]
   rw [hm']
   have nv : ∀ q : Prop, (headP c a → q) → ¬ q → ¬ validP c := fun q h6 h7 h8 => h7 (h6 (h8.2.2.2 a hmem).1)
   have keep : (lnOf (c.arts.take i) a.number).isSome = true → (lnOf (c.arts.take i) a.number).getD 0 = a.line → ∀ z, (m.set a.number a.line).get z = lnOf (c.arts.take (i + 1)) z := fun h6 h7 z => by
     rw [Mm.get_set, hst z, hm z]
     by_cases hz : z = a.number
     · subst hz
       rw [if_pos rfl]
       cases hq : lnOf (c.arts.take i) a.number with
       | none => rw [hq] at h6; cases h6
       | some x => rw [hq] at h7; simp at h7; rw [h7]; rfl
     · rw [if_neg hz, if_neg (fun e => hz e.symm)]; simp
   have new : ¬ (lnOf (c.arts.take i) a.number).isSome = true → ∀ z, (m.set a.number a.line).get z = lnOf (c.arts.take (i + 1)) z := fun h6 z => by
     rw [Mm.get_set, hst z, hm z]
     by_cases hz : z = a.number
     · subst hz
       rw [if_pos rfl]
       cases hq : lnOf (c.arts.take i) a.number with
       | none => simp
       | some x => rw [hq] at h6; exact absurd rfl h6
     · rw [if_neg hz, if_neg (fun e => hz e.symm)]; simp
   have fin : ¬ a.number < 1 → ¬ 1000000 < a.number → ¬ a.line < 0 → ¬ ((c.lines.length : Nat) : Int) ≤ a.line → (∀ z, (m.set a.number a.line).get z = lnOf (c.arts.take (i + 1)) z) → (∀ z, (m.set a.number a.line).get z = lnOf (c.arts.take (i + 1)) z) ∧ ∀ (j : Nat) b, j < i + 1 → c.arts[j]? = some b → (1 ≤ b.number ∧ b.number ≤ 1000000) ∧ (0 ≤ b.line ∧ b.line < ((c.lines.length : Nat) : Int)) ∧ lnOf (c.arts.take (i + 1)) b.number = some b.line := fun q1 q2 q3 q4 hk => by
     refine ⟨hk, fun j b hji hb => ?_⟩
     rcases Nat.lt_or_ge j i with h9 | h9
     · obtain ⟨p1, p2, p3⟩ := hj j b h9 hb
       refine ⟨p1, p2, ?_⟩
       rw [hst, p3]; rfl
     · have : j = i := by omega
       subst this; rw [hi] at hb; cases hb
       refine ⟨by omega, by omega, ?_⟩
       rw [← hk, Mm.get_set, if_pos rfl]
   refine ⟨fun h => nv _ (fun h => h.1.1) (by omega), fun q1 => ⟨fun h => nv _ (fun h => h.1.2) (by omega), fun q2 => ⟨fun h => nv _ (fun h => h.2.1.1) (by omega), fun q3 => ⟨fun h => nv _ (fun h => h.2.1.2) (by omega), fun q4 => ⟨fun q5 => ⟨fun q6 => fin q1 q2 q3 q4 (keep q5 q6), fun q6 h => ?_⟩, fun q5 => fin q1 q2 q3 q4 (new q5)⟩⟩⟩⟩⟩
   have h8 := (h.2.2.2 a hmem).1.2.2
   cases hq : lnOf (c.arts.take i) a.number with
   | none => rw [hq] at q5; cases q5
   | some x =>
     rw [hq] at q6
     rw [lnOf_take hq] at h8
     cases h8
     exact q6 rfl
 · obtain ⟨hm, hj⟩ := hI
   rw [List.take_length] at hm hj
   have hH : ∀ a ∈ c.arts, headP c a := fun a h => by obtain ⟨i, hi⟩ := List.getElem?_of_mem h; exact hj i a (List.getElem?_eq_some_iff.1 hi).1 hi
   have hln : LnIn c := fun z l h => by obtain ⟨a, h1, _, h3⟩ := lnOf_some h; rw [← h3]; exact (hH a h1).2.1
   refine Sp_loop (fun i _ => ∀ (j : Nat) a, j < i → c.arts[j]? = some a → bodyP c a) ha (fun j a hj => by omega) (fun i a x hi hI => ?_) (fun x hI => ?_)
   · have hmem := List.mem_of_getElem? hi
     simp only [codex_Valid_L2, Sp_bind]
     refine (articleC_s c hd hln m hm x a (hao a hmem) (hH a hmem).2.1).mono fun r hr => ?_
     obtain ⟨r1, r2⟩ := r
     simp only at hr ⊢
     subst hr
     simp only [c_mb, Sp_iff, Sp_some, RQ_nx, RQ_rt, false_is_mb]
     refine ⟨fun h j b hji hb => ?_, fun h h2 => h (h2.2.2.2 a hmem).2⟩
     rcases Nat.lt_or_ge j i with h9 | h9
     · exact hI j b h9 hb
     · have : j = i := by omega
       subst this; rw [hi] at hb; cases hb; exact h
   · rw [Sp_some, true_is_mb]
     exact ⟨⟨h4, by omega⟩, ⟨h5, by omega⟩, by omega, fun a h => ⟨hH a h, by obtain ⟨i, hi⟩ := List.getElem?_of_mem h; exact hI i a (List.getElem?_eq_some_iff.1 hi).1 hi⟩⟩
end Mo
end Go.Proofs.YtnijkdknnmgoeaaGreat
namespace Go.Proofs.YtnijkdknnmgoeaaGreat
open AI Go
namespace Mo
set_option maxRecDepth 100000
set_option maxHeartbeats 4000000
theorem list_eq_iff {α : Type} {l m : List α} : l = m ↔ l.length = m.length ∧ ∀ (i : Nat) x y, l[i]? = some x → m[i]? = some y → x = y := by
 constructor
 · intro h; subst h; exact ⟨rfl, fun i x y h1 h2 => by rw [h1] at h2; cases h2; rfl⟩
 · rintro ⟨h1, h2⟩
   apply List.ext_getElem h1
   intro i hi hj
   exact h2 i _ _ (List.getElem?_eq_getElem hi) (List.getElem?_eq_getElem hj)
theorem samePc_mb (x y : Pc) : samePc x y = mb (x = y) := by
 rw [Bool.eq_iff_iff, mb_true]
 obtain ⟨a, b, c⟩ := x
 obtain ⟨d, e, f⟩ := y
 simp [samePc]
theorem pieces_s (s t : List Pc) (hs : s.length ≤ 9223372036854775807) : api_Piece_B s t = some (mb (s = t)) := by
 rw [api_Piece_B, eqI_mb, c_mb]
 by_cases h : ((s.length : Nat) : Int) = ((t.length : Nat) : Int)
 · have h' : s.length = t.length := by omega
   rw [iff_T h, k_loop (v := false) (P := fun i x => ∀ y, t[i]? = some y → x = y) hs (fun i x hx => by
     have := (List.getElem?_eq_some_iff.1 hx).1
     obtain ⟨y, hy⟩ : ∃ y, t[i]? = some y := ⟨_, List.getElem?_eq_getElem (by omega)⟩
     simp only [api_Piece_L1, hy, Option.bind_some, samePc_mb, c_mb, k_nr]
     congr 2; apply propext
     exact ⟨fun e y' hy' => by cases hy'; exact e, fun e => e y rfl⟩), m_tf]
   refine smb ?_
   rw [list_eq_iff]
   exact ⟨fun h2 => ⟨h', fun i x y h3 h4 => h2 i x h3 y h4⟩, fun h2 i x h3 y h4 => h2.2 i x y h3 h4⟩
 · rw [iff_F h]
   exact smbF fun e => h (by rw [e])
theorem equal_m : ∀ m : Nat, (∀ a b : Ex, okE a → 2 * cnt a ≤ m → codex_equal_M m a b = some (mb (a = b))) ∧ (∀ l k : List Ex, okS l → l.length ≤ 9223372036854775807 → 2 * cntS l + 1 ≤ m → api_Exprxx_equal_M m l k = some (mb (l = k))) := by
 intro m
 induction m with
 | zero => exact ⟨fun a b _ h => by have := cnt_pos a; omega, fun l k _ _ h => by omega⟩
 | succ m ih =>
   refine ⟨fun a b ha h => ?_, fun l k hl hn h => ?_⟩
   · have hc := cnt_eq a
     obtain ⟨hp, hk, hks⟩ := (okE_iff a).1 ha
     rw [codex_equal_M, codex_equal_B, pieces_s _ _ hp, ih.2 a.kids b.kids (okS_iff.2 hks) hk (by omega)]
     simp only [eqI_mb, eqB_mb, c_mb, Option.bind_some, m_qf]
     refine smb ?_
     obtain ⟨o, n, u, ⟨d, p⟩, q⟩ := a
     obtain ⟨o', n', u', ⟨d', p'⟩, q'⟩ := b
     simp [and_assoc]
   · rw [api_Exprxx_equal_M, api_Exprxx_equal_B, eqI_mb, c_mb]
     by_cases h1 : ((l.length : Nat) : Int) = ((k.length : Nat) : Int)
     · have h' : l.length = k.length := by omega
       rw [iff_T h1, k_loop (v := false) (P := fun i x => ∀ y, k[i]? = some y → x = y) hn (fun i x hx => by
         have := (List.getElem?_eq_some_iff.1 hx).1
         have hm := List.mem_of_getElem? hx
         have h3 := cntS_mem hm
         obtain ⟨y, hy⟩ : ∃ y, k[i]? = some y := ⟨_, List.getElem?_eq_getElem (by omega)⟩
         simp only [api_Exprxx_equal_L1, hy, Option.bind_some, ih.1 x y (okS_iff.1 hl x hm) (by omega), c_mb, k_nr]
         congr 2; apply propext
         exact ⟨fun e y' hy' => by cases hy'; exact e, fun e => e y rfl⟩), m_tf]
       refine smb ?_
       rw [list_eq_iff]
       exact ⟨fun h2 => ⟨h', fun i x y h3 h4 => h2 i x h3 y h4⟩, fun h2 i x h3 y h4 => h2.2 i x y h3 h4⟩
     · rw [iff_F h1]
       exact smbF fun e => h1 (by rw [e])
theorem equal_s (a b : Ex) (ha : okE a) : codex_equal_R a b = some (mb (a = b)) := evt_of (2 * cnt a) fun m hm => (equal_m m).1 a b ha hm
theorem all_s (l k : List Ex) (hl : l.length ≤ 9223372036854775807) (hk : k.length ≤ 9223372036854775807) (hle : ∀ e ∈ l, okE e) : api_Expr_equal_B l k = some (mb (∀ e ∈ k, e ∈ l)) := by
 rw [api_Expr_equal_B, k_loop (v := false) (P := fun _ e => e ∈ l) hk (fun i e _ => by
   have h1 : api_Exprxxx_1_equal_B l e = some (fst (fun x => x = e) l 0) := by
     rw [api_Exprxxx_1_equal_B]
     exact fst_loop (β := Unit) hl (fun i x hx => by
       simp only [api_Exprxxx_1_equal_L1, api_Expr_1_equal_B, equal_s x e (hle x (List.mem_of_getElem? hx)), Option.bind_some, c_mb]
       unfold iff_; split <;> rfl) rfl (fun _ => rfl)
   simp only [api_Expr_equal_L1, api_Exprx_1_equal_B, h1, Option.bind_some, leI_mb, c_mb, m_tf, k_nr]
   congr 2; apply propext
   rcases fst_at (p := fun x => x = e) l 0 with ⟨h2, h3⟩ | ⟨k, y, h2, h3, h4, _⟩
   · rw [h2]; exact ⟨fun h => by omega, fun h => absurd rfl (h3 e h)⟩
   · rw [h2]; exact ⟨fun _ => h4 ▸ List.mem_of_getElem? h3, fun _ => by omega⟩), m_tf, mem_at]
def beat (x y : Ar) : Prop := x.line = y.line ∧ x.number ≠ y.number ∧ (y.rank < x.rank ∨ (x.rank = y.rank ∧
 (((∀ e ∈ y.wh, e ∈ x.wh) ∧ ¬ (∀ e ∈ x.wh, e ∈ y.wh)) ∨ (((∀ e ∈ y.wh, e ∈ x.wh) ↔ (∀ e ∈ x.wh, e ∈ y.wh)) ∧ y.known < x.known))))
def beats (c : Co) (i j : Int) : Prop := ∃ x y, geti c.arts i = some x ∧ geti c.arts j = some y ∧ beat x y
theorem geti_out {α : Type} {l : List α} {z : Int} (h : ¬ (0 ≤ z ∧ z < ((l.length : Nat) : Int))) : geti l z = none := by
 cases hq : geti l z with
 | none => rfl
 | some x => exact absurd (geti_lt hq).1 h
theorem beats_s (c : Co) (hc : okC c) (i j : Int) : codex_Beats_B c i j = some (mb (beats c i j)) := by
 rw [codex_Beats_B]
 simp only [ltI_mb, leI_mb, c_mb]
 unfold beats
 by_cases h1 : i < 0
 · rw [iff_T h1]; exact smbF fun ⟨x, y, h, _⟩ => by rw [geti_out (by omega)] at h; cases h
 by_cases h2 : j < 0
 · rw [iff_F h1, iff_T h2]; exact smbF fun ⟨x, y, _, h, _⟩ => by rw [geti_out (by omega)] at h; cases h
 by_cases h3 : ((c.arts.length : Nat) : Int) ≤ i
 · rw [iff_F h1, iff_F h2, iff_T h3]; exact smbF fun ⟨x, y, h, _⟩ => by rw [geti_out (by omega)] at h; cases h
 by_cases h4 : ((c.arts.length : Nat) : Int) ≤ j
 · rw [iff_F h1, iff_F h2, iff_F h3, iff_T h4]; exact smbF fun ⟨x, y, _, h, _⟩ => by rw [geti_out (by omega)] at h; cases h
 rw [iff_F h1, iff_F h2, iff_F h3, iff_F h4]
 obtain ⟨x, hx, hxm⟩ := geti_in (l := c.arts) (z := i) (by omega) (by omega)
 obtain ⟨y, hy, hym⟩ := geti_in (l := c.arts) (z := j) (by omega) (by omega)
 obtain ⟨hxw, _, hxe, _⟩ := hc.2.2.2 x (List.mem_of_getElem? hxm)
 obtain ⟨hyw, _, hye, _⟩ := hc.2.2.2 y (List.mem_of_getElem? hym)
 rw [hx, hy]
 simp only [Option.bind_some, all_s _ _ hxw hyw hxe, all_s _ _ hyw hxw hye, eqI_mb, c_mb, m_tf, m_qf, m_qt, m_fq, m_tq, m_qr]
 refine smb ?_
 rw [show (∃ x_1 y_1, some x = some x_1 ∧ some y = some y_1 ∧ beat x_1 y_1) ↔ beat x y from ⟨fun ⟨a, b, h1, h2, h3⟩ => by cases h1; cases h2; exact h3, fun h => ⟨x, y, rfl, rfl, h⟩⟩]
 unfold beat
 generalize (∀ e ∈ y.wh, e ∈ x.wh) = A
 generalize (∀ e ∈ x.wh, e ∈ y.wh) = B
 grind
mutual
def men (z : Int) : Ex → Prop
 | ⟨op, n, _, _, ks⟩ => (op = 3 ∧ n = z) ∨ menS z ks
def menS (z : Int) : List Ex → Prop
 | [] => False
 | k :: ks => men z k ∨ menS z ks
end
theorem menS_iff {z : Int} {l : List Ex} : menS z l ↔ ∃ k ∈ l, men z k := by
 induction l with
 | nil => simp [menS]
 | cons k l ih => simp [menS, ih]
theorem men_iff (z : Int) (e : Ex) : men z e ↔ (e.op = 3 ∧ e.n = z) ∨ ∃ k ∈ e.kids, men z k := by
 cases e; rw [men, menS_iff]
theorem ment_eq : ∀ (m m' : Nat) (e : Ex) (M : Mm Int Bool), cnt e ≤ m → cnt e ≤ m' → codex_mentioned_M m e M = codex_mentioned_M m' e M := by
 intro m
 induction m with
 | zero => intro m' e _ h; have := cnt_pos e; omega
 | succ m ih =>
   intro m' e M h1 h2
   cases m' with
   | zero => have := cnt_pos e; omega
   | succ m' =>
     have hb : ∀ x0, foldL (fun i y x => codex_mentioned_L1 (codex_mentioned_M m) i y x) (fun x => x) (e.kids.drop 0) 0 x0 = foldL (fun i y x => codex_mentioned_L1 (codex_mentioned_M m') i y x) (fun x => x) (e.kids.drop 0) 0 x0 := fun x0 => loop_congr (fun i y x hy => by
       have := cnt_kid (List.mem_of_getElem? hy)
       simp only [codex_mentioned_L1]
       rw [ih m' y _ (by omega) (by omega)])
     rw [codex_mentioned_M, codex_mentioned_M, codex_mentioned_B, codex_mentioned_B, hb, hb]
def has (M : Mm Int Bool) (z : Int) : Prop := (M.get z).getD false = true
theorem has_set (M : Mm Int Bool) (k z : Int) : has (M.set k true) z ↔ has M z ∨ z = k := by
 unfold has
 rw [Mm.get_set]
 by_cases h : z = k
 · rw [if_pos h]; simp [h]
 · rw [if_neg h]; simp [h]
theorem ment_m : ∀ (m : Nat) (e : Ex) (M : Mm Int Bool), okE e → cnt e ≤ m → Sp (codex_mentioned_M m e M) (fun r => ∀ z, has r.2 z ↔ has M z ∨ men z e) := by
 intro m
 induction m with
 | zero => intro e _ _ h; have := cnt_pos e; omega
 | succ m ih =>
   intro e M hok hm
   obtain ⟨_, hk, hks⟩ := (okE_iff e).1 hok
   have lp : ∀ (M0 : Mm Int Bool) (k : Mm Int Bool → Option (Unit × Mm Int Bool)), (∀ M1, k M1 = some ((), M1)) → Sp ((lim e.kids.length (foldL (fun i y x => codex_mentioned_L1 (codex_mentioned_M m) i y x) (fun x => x) (e.kids.drop 0) 0 M0)).bind (lpK k (fun v => some v))) (fun r => ∀ z, has r.2 z ↔ has M0 z ∨ ∃ k ∈ e.kids, men z k) := fun M0 k hkk => by
     refine Sp_loop (fun i x => ∀ z, has x z ↔ has M0 z ∨ ∃ (j : Nat) (k : Ex), j < i ∧ e.kids[j]? = some k ∧ men z k) hk (fun z => by simp) (fun i y x hy hI => ?_) (fun x hI => ?_)
     · have hmem := List.mem_of_getElem? hy
       have := cnt_kid hmem
       simp only [codex_mentioned_L1, Sp_bind]
       refine (ih y x (hks y hmem) (by omega)).mono fun r hr => ?_
       obtain ⟨r1, r2⟩ := r
       simp only [Sp_some, RQ_nx] at hr ⊢
       intro z
       rw [hr z, hI z]
       constructor
       · rintro ((h | ⟨j, k, hj, hk1, hk2⟩) | h)
         · exact .inl h
         · exact .inr ⟨j, k, by omega, hk1, hk2⟩
         · exact .inr ⟨i, y, by omega, hy, h⟩
       · rintro (h | ⟨j, k, hj, hk1, hk2⟩)
         · exact .inl (.inl h)
         · rcases Nat.lt_or_ge j i with h9 | h9
           · exact .inl (.inr ⟨j, k, h9, hk1, hk2⟩)
           · have : j = i := by omega
             subst this; rw [hy] at hk1; cases hk1; exact .inr hk2
     · rw [hkk, Sp_some]
       intro z
       rw [hI z]
       constructor
       · rintro (h | ⟨j, k, _, h1, h2⟩)
         · exact .inl h
         · exact .inr ⟨k, List.mem_of_getElem? h1, h2⟩
       · rintro (h | ⟨k, h1, h2⟩)
         · exact .inl h
         · obtain ⟨i, hi⟩ := List.getElem?_of_mem h1
           exact .inr ⟨i, k, (List.getElem?_eq_some_iff.1 hi).1, hi, h2⟩
   rw [codex_mentioned_M, codex_mentioned_B, eqI_mb, c_mb, Sp_iff]
   refine ⟨fun h => (lp _ _ (fun _ => rfl)).mono fun r hr z => ?_, fun h => (lp _ _ (fun _ => rfl)).mono fun r hr z => ?_⟩
   · rw [hr z, has_set, men_iff]
     grind
   · rw [hr z, men_iff]
     grind
theorem ment_s (e : Ex) (M : Mm Int Bool) (h : okE e) : Sp (codex_mentioned_R e M) (fun r => ∀ z, has r.2 z ↔ has M z ∨ men z e) := by
 obtain ⟨r, h1, h2⟩ := ment_m (cnt e) e M h (Nat.le_refl _)
 exact ⟨r, evt_of (cnt e) fun n hn => by rw [ment_eq n (cnt e) e M hn (Nat.le_refl _), h1], h2⟩
end Mo
end Go.Proofs.YtnijkdknnmgoeaaGreat
namespace Go.Proofs.YtnijkdknnmgoeaaGreat
open AI Go
namespace Mo
set_option maxRecDepth 100000
set_option maxHeartbeats 4000000
noncomputable def sel {α : Type} (p : Nat → α → Prop) : List α → Nat → List Int
 | [], _ => []
 | y :: l, i => open Classical in if p i y then ((i : Nat) : Int) :: sel p l (i + 1) else sel p l (i + 1)
theorem sel_app {α : Type} (p : Nat → α → Prop) : ∀ (l m : List α) (i : Nat), sel p (l ++ m) i = sel p l i ++ sel p m (i + l.length)
 | [], m, i => rfl
 | y :: l, m, i => by
   rw [List.cons_append, sel, sel, sel_app p l m (i + 1), show i + 1 + l.length = i + (y :: l).length by simp only [List.length_cons]; omega]
   by_cases h : p i y
   · rw [if_pos h, if_pos h]; rfl
   · rw [if_neg h, if_neg h]
theorem sel_step {α : Type} {p : Nat → α → Prop} {l : List α} {i : Nat} {y : α} (h : l[i]? = some y) : (p i y → sel p (l.take (i + 1)) 0 = sel p (l.take i) 0 ++ [((i : Nat) : Int)]) ∧ (¬ p i y → sel p (l.take (i + 1)) 0 = sel p (l.take i) 0) := by
 have hi := (List.getElem?_eq_some_iff.1 h).1
 have h1 : (l.take i).length = i := by rw [List.length_take]; omega
 rw [List.take_add_one, h, sel_app, h1, Nat.zero_add]
 simp only [Option.toList_some, sel]
 exact ⟨fun hp => by rw [if_pos hp], fun hp => by rw [if_neg hp, List.append_nil]⟩
theorem sel_len {α : Type} (p : Nat → α → Prop) : ∀ (l : List α) (i : Nat), (sel p l i).length ≤ l.length
 | [], _ => Nat.le_refl _
 | y :: l, i => by
   have := sel_len p l (i + 1)
   rw [sel]
   by_cases h : p i y
   · rw [if_pos h]; simp only [List.length_cons]; omega
   · rw [if_neg h]; simp only [List.length_cons]; omega
def names (a : Ar) (z : Int) : Prop := (z ∈ a.un ∨ ∃ e ∈ a.wh, men z e) ∨ men z a.am
def needP (c : Co) (v : Int) (a : Ar) (i : Nat) (b : Ar) : Prop := names a b.number ∨ beats c ((i : Nat) : Int) v
theorem needs_s (c : Co) (hc : okC c) (hn : c.arts.length ≤ 1000000) (v : Int) (a : Ar) (hv : geti c.arts v = some a) : codex_needs_B c v = some (sel (needP c v a) c.arts 0) := by
 obtain ⟨hf, hl, ha, hao⟩ := hc
 obtain ⟨hw, hu, hwe, hae⟩ := hao a (List.mem_of_getElem? (geti_lt hv).2)
 rw [codex_needs_B, hv, Option.bind_some, Sp_eq]
 refine Sp_loop (fun i m => ∀ z, has m z ↔ ∃ (j : Nat) (y : Int), j < i ∧ a.un[j]? = some y ∧ z = y) hu (fun z => by simp [has, Mm.get_nil]) (fun i y m hy hI => ?_) (fun m hI => ?_)
 · simp only [codex_needs_L1, Sp_some, RQ_nx]
   intro z
   rw [has_set, hI z]
   constructor
   · rintro (⟨j, k, hj, hk, h⟩ | h)
     · exact ⟨j, k, by omega, hk, h⟩
     · exact ⟨i, y, by omega, hy, h⟩
   · rintro ⟨j, k, hj, hk, h⟩
     rcases Nat.lt_or_ge j i with h9 | h9
     · exact .inl ⟨j, k, h9, hk, h⟩
     · have : j = i := by omega
       subst this; rw [hy] at hk; cases hk; exact .inr h
 have hm : ∀ z, has m z ↔ z ∈ a.un := fun z => by
   rw [hI z]
   constructor
   · rintro ⟨j, y, _, h1, rfl⟩; exact List.mem_of_getElem? h1
   · intro h
     obtain ⟨i, hi⟩ := List.getElem?_of_mem h
     exact ⟨i, z, (List.getElem?_eq_some_iff.1 hi).1, hi, rfl⟩
 clear hI
 refine Sp_loop (fun i x => ∀ z, has x z ↔ z ∈ a.un ∨ ∃ (j : Nat) (e : Ex), j < i ∧ a.wh[j]? = some e ∧ men z e) hw (fun z => by rw [hm z]; simp) (fun i y x hy hI => ?_) (fun x hI => ?_)
 · simp only [codex_needs_L2, Sp_bind]
   refine (ment_s y x (hwe y (List.mem_of_getElem? hy))).mono fun r hr => ?_
   obtain ⟨r1, r2⟩ := r
   simp only [Sp_some, RQ_nx] at hr ⊢
   intro z
   rw [hr z, hI z]
   constructor
   · rintro ((h | ⟨j, k, hj, hk, h⟩) | h)
     · exact .inl h
     · exact .inr ⟨j, k, by omega, hk, h⟩
     · exact .inr ⟨i, y, by omega, hy, h⟩
   · rintro (h | ⟨j, k, hj, hk, h⟩)
     · exact .inl (.inl h)
     · rcases Nat.lt_or_ge j i with h9 | h9
       · exact .inl (.inr ⟨j, k, h9, hk, h⟩)
       · have : j = i := by omega
         subst this; rw [hy] at hk; cases hk; exact .inr h
 have hx : ∀ z, has x z ↔ z ∈ a.un ∨ ∃ e ∈ a.wh, men z e := fun z => by
   rw [hI z]
   constructor
   · rintro (h | ⟨j, k, _, hk, h⟩)
     · exact .inl h
     · exact .inr ⟨k, List.mem_of_getElem? hk, h⟩
   · rintro (h | ⟨k, hk, h⟩)
     · exact .inl h
     · obtain ⟨i, hi⟩ := List.getElem?_of_mem hk
       exact .inr ⟨i, k, (List.getElem?_eq_some_iff.1 hi).1, hi, h⟩
 rw [Sp_bind]
 refine (ment_s a.am x hae).mono fun r hr => ?_
 obtain ⟨r1, M⟩ := r
 simp only at hr ⊢
 have hM : ∀ z, has M z ↔ names a z := fun z => by rw [hr z, hx z]; rfl
 refine Sp_loop (fun i x => x = sel (needP c v a) (c.arts.take i) 0) ha (by simp [sel]) (fun i b x hb hI => ?_) (fun x hI => ?_)
 · have hlen := sel_len (needP c v a) (c.arts.take i) 0
   have h1 : (c.arts.take i).length ≤ i := by rw [List.length_take]; omega
   have hi := (List.getElem?_eq_some_iff.1 hb).1
   obtain ⟨s1, s2⟩ := sel_step (p := needP c v a) hb
   simp only [codex_needs_L3, beats_s c ⟨hf, hl, ha, hao⟩, Option.bind_some, c_b, mb_is_true, Sp_iff]
   rw [limA_of (by rw [hI]; omega)]
   have hM' := hM b.number
   unfold has at hM'
   rw [hM']
   simp only [Sp_some, RQ_nx, hI]
   exact ⟨fun h => (s1 (.inl h)).symm, fun h => ⟨fun h2 => (s1 (.inr h2)).symm, fun h2 => (s2 (fun h3 => h3.elim h h2)).symm⟩⟩
 · rw [Sp_some, hI, List.take_length]
theorem sameInts_s (a b : List Int) (h : a.length ≤ 9223372036854775807) : ref10_SameInts_B a b = some (mb (a = b)) := by
 rw [ref10_SameInts_B, eqI_mb, c_mb]
 by_cases h1 : ((a.length : Nat) : Int) = ((b.length : Nat) : Int)
 · have h' : a.length = b.length := by omega
   rw [iff_T h1, k_loop (v := false) (P := fun i x => ∀ y, b[i]? = some y → x = y) h (fun i x hx => by
     have := (List.getElem?_eq_some_iff.1 hx).1
     obtain ⟨y, hy⟩ : ∃ y, b[i]? = some y := ⟨_, List.getElem?_eq_getElem (by omega)⟩
     simp only [ref10_SameInts_L1, hy, Option.bind_some, eqI_mb, c_mb, k_nr]
     congr 2; apply propext
     exact ⟨fun e y' hy' => by cases hy'; exact e, fun e => e y rfl⟩), m_tf]
   refine smb ?_
   rw [list_eq_iff]
   exact ⟨fun h2 => ⟨h', fun i x y h3 h4 => h2 i x h3 y h4⟩, fun h2 i x h3 y h4 => h2.2 i x y h3 h4⟩
 · rw [iff_F h1]
   exact smbF fun e => h1 (by rw [e])
def fewP (c : Co) : Prop := c.facts.length ≤ 40 ∧ c.lines.length ≤ 40 ∧ c.arts.length ≤ 70 ∧ ∀ a ∈ c.arts, a.wh.length ≤ 40 ∧ a.un.length ≤ 80 ∧ cnt a.am ≤ 420 ∧ ∀ e ∈ a.wh, cnt e ≤ 420
theorem few_s (c : Co) (hc : okC c) : law10_small_B c = some (mb (fewP c)) := by
 obtain ⟨hf, hl, ha, hao⟩ := hc
 rw [law10_small_B, ref10_Few_B]
 simp only [ltI_mb, c_mb]
 rw [k_loop (v := false) (P := fun _ a => a.wh.length ≤ 40 ∧ a.un.length ≤ 80 ∧ cnt a.am ≤ 420 ∧ ∀ e ∈ a.wh, cnt e ≤ 420) ha (fun i a hi => by
   obtain ⟨hw, hu, hwe, hae⟩ := hao a (List.mem_of_getElem? hi)
   have e1 := fun (k : Unit → Option (Lp Unit Unit Bool)) => k_loop (l := a.wh) (body := fun i y x => ref10_Few_L2 420 i y) (v := false) (P := fun _ e => cnt e ≤ 420) (k := k) (kr := fun v => some (.rt v)) hw (fun i e hi => by
     simp only [ref10_Few_L2, small_s e 420 (hwe e (List.mem_of_getElem? hi)) (by omega), Option.bind_some, c_mb, k_nr]
     congr 2; apply propext; omega)
   simp only [ref10_Few_L1, small_s a.am 420 hae (by omega), Option.bind_some, ltI_mb, c_mb, e1, mem_at, k_nr, k_qr, k_rq]
   congr 2; apply propext; grind)]
 simp only [mem_at, m_tf, m_fq, Option.bind_some]
 refine smb ?_
 unfold fewP
 grind
end Mo
end Go.Proofs.YtnijkdknnmgoeaaGreat
namespace Go.Proofs.YtnijkdknnmgoeaaGreat
open AI Go
namespace Mo
set_option maxRecDepth 100000
set_option maxHeartbeats 4000000
noncomputable def ndl (c : Co) (i : Nat) : List Int := match c.arts[i]? with
 | some a => sel (needP c ((i : Nat) : Int) a) c.arts 0
 | none => []
theorem Nd_len (c : Co) (i : Nat) : (ndl c i).length ≤ c.arts.length := by
 unfold ndl
 split
 · exact sel_len _ _ _
 · exact Nat.zero_le _
theorem needs_n (c : Co) (hc : okC c) (hn : c.arts.length ≤ 1000000) (i : Nat) (hi : i < c.arts.length) : codex_needs_B c ((i : Nat) : Int) = some (ndl c i) := by
 have h1 : c.arts[i]? = some c.arts[i] := List.getElem?_eq_getElem hi
 rw [needs_s c hc hn _ c.arts[i] (by rw [geti_nat, h1])]
 unfold ndl
 rw [h1]
theorem Needs_n (c : Co) (hc : okC c) (hv : validP c) (i : Nat) (hi : i < c.arts.length) : codex_Needs_B c ((i : Nat) : Int) = some (ndl c i) := by
 have hn : c.arts.length ≤ 1000000 := Nat.le_trans hv.2.2.1 (by decide)
 rw [codex_Needs_B, validC_s c hc]
 simp only [ltI_mb, leI_mb, c_mb, Option.bind_some]
 rw [iff_F (by omega), iff_F (by omega), iff_T hv, needs_n c hc hn i hi]
 rfl
def rdy (c : Co) (S : List Int) (i : Nat) : Prop := ((i : Nat) : Int) ∉ S ∧ ∀ z ∈ ndl c i, z ∈ S
def first (c : Co) (S : List Int) (i : Nat) : Prop := i < c.arts.length ∧ rdy c S i ∧ ∀ j, j < i → ¬ rdy c S j
def greedy (c : Co) (l : List Int) : Prop := ∀ (j : Nat) v, l[j]? = some v → ∃ i : Nat, v = ((i : Nat) : Int) ∧ first c (l.take j) i
def stuck (c : Co) (S : List Int) : Prop := ∀ i, i < c.arts.length → ¬ rdy c S i
theorem greedy_snoc {c : Co} {l : List Int} {i : Nat} (h : greedy c l) (hi : first c l i) : greedy c (l ++ [((i : Nat) : Int)]) := by
 intro j v hj
 rcases Nat.lt_or_ge j l.length with h1 | h1
 · rw [List.getElem?_append_left h1] at hj
   rw [List.take_append_of_le_length (Nat.le_of_lt h1)]
   exact h j v hj
 · rw [List.getElem?_append_right h1] at hj
   have h2 : j - l.length = 0 := by
     have := (List.getElem?_eq_some_iff.1 hj).1
     simp at this; omega
   rw [h2] at hj
   simp at hj
   have : j = l.length := by omega
   subst this
   rw [List.take_left']
   · exact ⟨i, hj.symm, hi⟩
   · rfl
def OrdP (c : Co) (r : List Int × Bool) : Prop := (r.2 = true ∧ r.1.length = c.arts.length ∧ greedy c r.1) ∨ (r.2 = false ∧ r.1 = [] ∧ ∃ S : List Int, S.length < c.arts.length ∧ stuck c S)
theorem order_s (c : Co) (hc : okC c) (hv : validP c) : Sp (codex_Order_B c) (OrdP c) := by
 have hn : c.arts.length ≤ 60 := hv.2.2.1
 rw [codex_Order_B, validC_s c hc, Option.bind_some, c_mb, iff_T hv]
 unfold limM
 rw [if_pos (by omega)]
 refine Sp_loop (fun i w => w.length = c.arts.length ∧ ∀ j, j < i → w[j]? = some (ndl c j)) (by omega) ⟨by simp, fun j hj => by omega⟩ (fun i a w hi hI => ?_) (fun w hI => ?_)
 · have hlt := (List.getElem?_eq_some_iff.1 hi).1
   obtain ⟨x, hx⟩ : ∃ x, w[i]? = some x := ⟨_, List.getElem?_eq_getElem (by rw [hI.1]; exact hlt)⟩
   simp only [codex_Order_L1, needs_n c hc (by omega) i hlt, hx, Option.bind_some, Sp_some, RQ_nx]
   refine ⟨by rw [List.length_set]; exact hI.1, fun j hj => ?_⟩
   rw [List.getElem?_set]
   by_cases h : i = j
   · subst h
     rw [if_pos rfl, if_pos (by rw [hI.1]; exact hlt)]
   · rw [if_neg h]; exact hI.2 j (by omega)
 · obtain ⟨hw, hwd⟩ := hI
   refine Sp_fix (fun x => x.1.length ≤ c.arts.length ∧ greedy c x.1 ∧ ∀ z, has x.2 z ↔ z ∈ x.1) (fun x => c.arts.length - x.1.length) ⟨Nat.zero_le _, fun j v h => by simp at h, fun z => by simp [has, Mm.get_nil]⟩ (fun x hI => ?_)
   obtain ⟨ord, m⟩ := x
   obtain ⟨h1, h2, h3⟩ := hI
   simp only at h1 h2 h3
   simp only [codex_Order_L2, ltI_mb, c_mb, Sp_iff, Sp_some, RQ_ex]
   refine ⟨fun hlt => ?_, fun hge => .inl ⟨rfl, by simp only; omega, h2⟩⟩
   refine Sp_loop (fun i x => x = -1 ∧ ∀ j, j < i → ¬ rdy c ord j) (by omega) ⟨rfl, fun j hj => by omega⟩ (fun i a x hi hI => ?_) (fun x hI => ?_)
   · have hil := (List.getElem?_eq_some_iff.1 hi).1
     have hrd : codex_Order_1_B ((i : Nat) : Int) c.arts.length w m = some (mb (∀ z ∈ ndl c i, z ∈ ord)) := by
       have hix : idxN c.arts.length ((i : Nat) : Int) = some i := by unfold idxN; rw [if_pos (by omega)]; rfl
       have := Nd_len c i
       rw [codex_Order_1_B, hix, Option.bind_some, hwd i (by omega), Option.bind_some, k_loop (v := false) (P := fun _ z => z ∈ ord) (by omega) (fun j z _ => by
         have := h3 z
         unfold has at this
         simp only [codex_Order_1_L1, c_b, this, k_nr]), m_tf, mem_at]
     have h3i := h3 ((i : Nat) : Int)
     unfold has at h3i
     simp only [codex_Order_L3, hrd, Option.bind_some, c_b, h3i, mb_is_true, Sp_iff, Sp_some, RQ_nx, RQ_ex]
     have snoc : ∀ y, ¬ rdy c ord i → y = -1 → y = -1 ∧ ∀ j, j < i + 1 → ¬ rdy c ord j := fun y hno hy => ⟨hy, fun j hj => by
       rcases Nat.lt_or_ge j i with h | h
       · exact hI.2 j h
       · have : j = i := by omega
         subst this; exact hno⟩
     refine ⟨fun hp => snoc x (fun h => h.1 hp) hI.1, fun hp => ⟨fun hr => ?_, fun hr => snoc x (fun h => hr h.2) hI.1⟩⟩
     have hf : first c ord i := ⟨hil, ⟨hp, hr⟩, hI.2⟩
     refine ⟨fun h => by omega, fun _ => ?_⟩
     rw [limA_of (by omega), Sp_some, RQ_nx]
     refine ⟨⟨by simp only [List.length_append, List.length_cons, List.length_nil]; omega, greedy_snoc h2 hf, fun z => ?_⟩, by simp only [List.length_append, List.length_cons, List.length_nil]; omega⟩
     rw [has_set, h3 z]; simp
   · simp only [Sp_iff, Sp_some, RQ_rt]
     exact ⟨fun h => .inr ⟨rfl, rfl, ord, by omega, fun i hi => hI.2 i hi⟩, fun h => by have := hI.1; omega⟩
end Mo
end Go.Proofs.YtnijkdknnmgoeaaGreat
namespace Go.Proofs.YtnijkdknnmgoeaaGreat
open AI Go
namespace Mo
set_option maxRecDepth 100000
set_option maxHeartbeats 4000000
theorem ex_ind {P : Ex → Prop} (h : ∀ e, (∀ k ∈ e.kids, P k) → P e) : ∀ e, P e := by
 have : ∀ (m : Nat) (e : Ex), cnt e ≤ m → P e := by
   intro m
   induction m with
   | zero => intro e he; have := cnt_pos e; omega
   | succ m ih => exact fun e he => h e fun k hk => ih k (by have := cnt_kid hk; omega)
 exact fun e => this _ e (Nat.le_refl _)
def fr (b n : Int) : Int := wadd (wrem (wadd n (w64 b)) 1000000) 1
def inr (z : Int) : Prop := 1 ≤ z ∧ z ≤ 1000000
theorem fr_eq {b n : Int} (hb : 0 ≤ b ∧ b ≤ 65535) (hn : inr n) : fr b n = (n + b) % 1000000 + 1 := by
 obtain ⟨h1, h2⟩ := hn
 have hw : w64 b = b := IntWalk.i64_in _ (by omega)
 unfold fr wrem
 rw [hw, wadd_in (a := n) (b := b) (by omega), Int.tmod_eq_emod_of_nonneg (by omega), wadd_in (by omega)]
theorem fr_in {b n : Int} (hb : 0 ≤ b ∧ b ≤ 65535) (hn : inr n) : inr (fr b n) := by
 rw [fr_eq hb hn]; unfold inr; omega
theorem fr_inj {b n m : Int} (hb : 0 ≤ b ∧ b ≤ 65535) (hn : inr n) (hm : inr m) : fr b n = fr b m ↔ n = m := by
 rw [fr_eq hb hn, fr_eq hb hm]
 unfold inr at hn hm
 omega
mutual
def ren (b : Int) : Ex → Ex
 | ⟨op, n, u, t, ks⟩ => ⟨op, if op = 3 then fr b n else n, u, t, renS b ks⟩
def renS (b : Int) : List Ex → List Ex
 | [] => []
 | k :: ks => ren b k :: renS b ks
end
theorem renS_map (b : Int) (l : List Ex) : renS b l = l.map (ren b) := by
 induction l with
 | nil => rfl
 | cons k l ih => rw [renS, ih]; rfl
theorem ren_eq (b : Int) (e : Ex) : ren b e = ⟨e.op, if e.op = 3 then fr b e.n else e.n, e.unit, e.tab, e.kids.map (ren b)⟩ := by
 cases e; rw [ren, renS_map]
theorem kids_cnt (l : List Ex) : l.length ≤ cntS l := by
 induction l with
 | nil => exact Nat.le_refl _
 | cons k l ih => have := cnt_pos k; rw [cntS, List.length_cons]; omega
def renA (b : Int) (a : Ar) : Ar := ⟨fr b a.number, a.line, a.rank, a.fr, a.to, a.known, a.wh.map (ren b), a.un.map (fr b), ren b a.am⟩
def renC (b : Int) (c : Co) : Co := ⟨c.facts, c.lines, c.arts.map (renA b)⟩
def artsIn (e : Ex) : Prop := ∀ z, men z e → inr z
theorem artsIn_kid {e k : Ex} (h : artsIn e) (hk : k ∈ e.kids) : artsIn k := fun z hz => h z ((men_iff z e).2 (.inr ⟨k, hk, hz⟩))
theorem ren_cnt (b : Int) : ∀ e, cnt (ren b e) = cnt e ∧ dp (ren b e) = dp e := by
 refine ex_ind fun e ih => ?_
 rw [cnt_eq, dp_eq, cnt_eq e, dp_eq e, ren_eq]
 simp only
 have h1 : ∀ l : List Ex, (∀ k ∈ l, cnt (ren b k) = cnt k ∧ dp (ren b k) = dp k) → cntS (l.map (ren b)) = cntS l ∧ dpS (l.map (ren b)) = dpS l := by
   intro l
   induction l with
   | nil => intro _; exact ⟨rfl, rfl⟩
   | cons k l ihl =>
     intro h
     have h2 := h k List.mem_cons_self
     have h3 := ihl fun k hk => h k (List.mem_cons_of_mem _ hk)
     rw [List.map_cons, cntS, cntS, dpS, dpS, h2.1, h2.2, h3.1, h3.2]
     exact ⟨rfl, rfl⟩
 have := h1 e.kids ih
 omega
theorem ren_ok (b : Int) : ∀ e, okE e → okE (ren b e) := by
 refine ex_ind fun e ih h => ?_
 obtain ⟨h1, h2, h3⟩ := (okE_iff e).1 h
 rw [okE_iff, ren_eq]
 refine ⟨h1, by simpa using h2, fun k hk => ?_⟩
 obtain ⟨q, hq, rfl⟩ := List.mem_map.1 hk
 exact ih q hq (h3 q hq)
theorem ren_men {b : Int} (hb : 0 ≤ b ∧ b ≤ 65535) {z : Int} (hz : inr z) : ∀ e, artsIn e → (men (fr b z) (ren b e) ↔ men z e) := by
 refine ex_ind fun e ih h => ?_
 rw [men_iff, men_iff z e, ren_eq]
 simp only
 have h1 : (e.op = 3 ∧ (if e.op = 3 then fr b e.n else e.n) = fr b z) ↔ e.op = 3 ∧ e.n = z := by
   refine and_congr_right fun h3 => ?_
   rw [if_pos h3]
   exact fr_inj hb (h e.n ((men_iff _ e).2 (.inl ⟨h3, rfl⟩))) hz
 rw [h1]
 refine or_congr_right ⟨fun ⟨k, hk, hm⟩ => ?_, fun ⟨k, hk, hm⟩ => ⟨_, List.mem_map.2 ⟨k, hk, rfl⟩, (ih k hk (artsIn_kid h hk)).2 hm⟩⟩
 obtain ⟨q, hq, rfl⟩ := List.mem_map.1 hk
 exact ⟨q, hq, (ih q hq (artsIn_kid h hq)).1 hm⟩
theorem map_inj_on {α β : Type} {f : α → β} : ∀ {l m : List α}, (∀ x ∈ l, ∀ y ∈ m, f x = f y → x = y) → l.map f = m.map f → l = m
 | [], [], _, _ => rfl
 | [], _ :: _, _, h => by simp at h
 | _ :: _, [], _, h => by simp at h
 | x :: l, y :: m, hf, h => by
   simp only [List.map_cons, List.cons.injEq] at h
   rw [hf x List.mem_cons_self y List.mem_cons_self h.1, map_inj_on (fun x hx y hy => hf x (List.mem_cons_of_mem _ hx) y (List.mem_cons_of_mem _ hy)) h.2]
theorem ren_inj {b : Int} (hb : 0 ≤ b ∧ b ≤ 65535) : ∀ e, artsIn e → ∀ e', artsIn e' → ren b e = ren b e' → e = e' := by
 refine ex_ind fun e ih h e' h' heq => ?_
 rw [ren_eq, ren_eq b e'] at heq
 obtain ⟨op, n, u, t, ks⟩ := e
 obtain ⟨op', n', u', t', ks'⟩ := e'
 simp only [Ex.mk.injEq] at heq ih ⊢
 obtain ⟨h1, h2, h3, h4, h5⟩ := heq
 subst h1
 refine ⟨rfl, ?_, h3, h4, map_inj_on (fun x hx y hy hxy => ih x hx (artsIn_kid h hx) y (artsIn_kid h' hy) hxy) h5⟩
 by_cases hop : op = 3
 · rw [if_pos hop, if_pos hop] at h2
   exact (fr_inj hb (h n ((men_iff _ _).2 (.inl ⟨hop, rfl⟩))) (h' n' ((men_iff _ _).2 (.inl ⟨hop, rfl⟩)))).1 h2
 · rwa [if_neg hop, if_neg hop] at h2
section
variable {c : Co} {b : Int}
theorem ln_ren (hb : 0 ≤ b ∧ b ≤ 65535) {z : Int} (hz : inr z) : ∀ l : List Ar, (∀ a ∈ l, inr a.number) → lnOf (l.map (renA b)) (fr b z) = lnOf l z
 | [], _ => rfl
 | a :: l, h => by
   have h1 := lnOf_app [a] l z
   have h2 := lnOf_app [renA b a] (l.map (renA b)) (fr b z)
   rw [List.singleton_append] at h1 h2
   rw [List.map_cons, h2, h1, lnOf_one, lnOf_one, ln_ren hb hz l fun x hx => h x (List.mem_cons_of_mem _ hx)]
   have : (renA b a).number = fr b z ↔ a.number = z := fr_inj hb (h a List.mem_cons_self) hz
   simp only [this]
   rfl
theorem fit_arts (hr : ∀ a ∈ c.arts, inr a.number) : ∀ e, fit c e → artsIn e := by
 refine ex_ind fun e ih h z hz => ?_
 obtain ⟨h1, h2, h3⟩ := (fit_iff c e).1 h
 rcases (men_iff z e).1 hz with ⟨h4, rfl⟩ | ⟨k, hk, hm⟩
 · have h5 : leafP c e := by
     unfold loc at h3
     split at h3
     · exact h3.2
     · rename_i a hk; exfalso; rcases h3.2 with h | h
       · have := h.2.1; omega
       · have := h.1; omega
     · rename_i x y r hk; have := many_op h3.2.2; omega
   rw [leaf3 h4] at h5
   obtain ⟨l, d, h6, _⟩ := h5
   obtain ⟨a, ha, hn, _⟩ := lnOf_some h6
   rw [← hn]; exact hr a ha
 · exact ih k hk (h2 k hk) z hm
theorem ren_fit (hb : 0 ≤ b ∧ b ≤ 65535) (hr : ∀ a ∈ c.arts, inr a.number) : ∀ e, fit c e → fit (renC b c) (ren b e) := by
 refine ex_ind fun e ih h => ?_
 have hin := fit_arts hr e h
 obtain ⟨h1, h2, h3⟩ := (fit_iff c e).1 h
 rw [fit_iff]
 have hk : ∀ k ∈ (ren b e).kids, fit (renC b c) k := fun k hk => by
   rw [ren_eq] at hk
   obtain ⟨q, hq, rfl⟩ := List.mem_map.1 hk
   exact ih q hq (h2 q hq)
 refine ⟨by rw [ren_eq]; exact h1, hk, ?_⟩
 have ru : ∀ k, (ren b k).unit = k.unit := fun k => by rw [ren_eq]
 have ro : ∀ k, (ren b k).op = k.op := fun k => by rw [ren_eq]
 have rn : ∀ k : Ex, k.op ≠ 3 → (ren b k).n = k.n := fun k hk => by rw [ren_eq, ]; simp only; rw [if_neg hk]
 have rt : (ren b e).tab = e.tab := by rw [ren_eq]
 have rk : (ren b e).kids = e.kids.map (ren b) := by rw [ren_eq]
 have tl : tabless (ren b e) ↔ tabless e := by unfold tabless; rw [rt]
 unfold loc at h3 ⊢
 rw [rk]
 split at h3
 · rename_i hk0
   rw [hk0]
   refine ⟨tl.2 h3.1, ?_⟩
   have h4 := h3.2
   by_cases o3 : e.op = 3
   · rw [leaf3 o3] at h4
     rw [leaf3 (by rw [ro]; exact o3)]
     obtain ⟨l, d, h5, h6, h7⟩ := h4
     refine ⟨l, d, ?_, h6, by rw [ru]; exact h7⟩
     have : (ren b e).n = fr b e.n := by rw [ren_eq]; simp only; rw [if_pos o3]
     rw [this]
     have := ln_ren hb (hin e.n ((men_iff _ _).2 (.inl ⟨o3, rfl⟩))) c.arts hr
     show lnOf (c.arts.map (renA b)) (fr b e.n) = some l
     rw [this]; exact h5
   · unfold leafP at h4 ⊢
     unfold constP at h4 ⊢
     rw [ro, ru, rn e o3]
     rcases h4 with h | h | h | h
     · exact .inl h
     · exact .inr (.inl h)
     · exact absurd h.1 o3
     · exact .inr (.inr (.inr h))
 · rename_i a hk1
   rw [hk1]
   have o3 : e.op ≠ 3 := by rcases h3.2 with h | h <;> omega
   rw [rn e o3, tl, ro, ru, rt]
   simp only [List.map_cons, List.map_nil, ru]
   exact h3
 · rename_i x y r hk2
   rw [hk2]
   have hop := many_op h3.2.2
   have o3 : e.op ≠ 3 := by omega
   have hbn : (ren b y).op = 1 → (ren b y).n = y.n := fun h => rn y (by rw [ro] at h; omega)
   have hmem : (∀ k ∈ (x :: y :: r).map (ren b), k.unit = x.unit) ↔ ∀ k ∈ x :: y :: r, k.unit = x.unit := by
     constructor
     · intro h k hk; have := h _ (List.mem_map.2 ⟨k, hk, rfl⟩); rwa [ru] at this
     · intro h k hk; obtain ⟨q, hq, rfl⟩ := List.mem_map.1 hk; rw [ru]; exact h q hq
   refine ⟨by rw [rn e o3]; exact h3.1, tl.2 h3.2.1, ?_⟩
   have h4 := h3.2.2
   unfold manyP at h4 ⊢
   rcases h4 with h4 | h4
   · refine .inl ?_
     rw [ro, ru, ru]
     refine ⟨h4.1, fun k hk => ?_, h4.2.2⟩
     have := hmem.2 h4.2.1 k
     exact this hk
   · refine .inr ⟨by rw [h4.1]; rfl, ?_⟩
     have h5 := h4.2
     unfold pairP at h5 ⊢
     rw [ro, ru, ru, ru]
     by_cases oy : y.op = 1
     · rw [ro, hbn (by rw [ro]; exact oy)]; exact h5
     · rw [ro]
       rcases h5 with h | h | h | h | h | h | h
       · exact .inl h
       · exact .inr (.inl h)
       · exact .inr (.inr (.inl h))
       · exact .inr (.inr (.inr (.inl h)))
       · exact .inr (.inr (.inr (.inr (.inl h))))
       · exact absurd h.2.2.2.1 oy
       · exact .inr (.inr (.inr (.inr (.inr (.inr h)))))
theorem ren_whole (hb : 0 ≤ b ∧ b ≤ 65535) (hr : ∀ a ∈ c.arts, inr a.number) {e : Ex} {u : ByteArray} (h : whole c e u) : whole (renC b c) (ren b e) u := by
 obtain ⟨h1, h2, h3⟩ := h
 refine ⟨?_, ren_fit hb hr e h2, by rw [ren_eq]; exact h3⟩
 unfold smE at h1 ⊢
 rw [(ren_cnt b e).1, (ren_cnt b e).2]
 exact h1
theorem ren_valid (hb : 0 ≤ b ∧ b ≤ 65535) (hv : validP c) : validP (renC b c) := by
 obtain ⟨h1, h2, h3, h4⟩ := hv
 have hr : ∀ a ∈ c.arts, inr a.number := fun a ha => (h4 a ha).1.1
 refine ⟨h1, h2, by simpa [renC] using h3, fun a' ha' => ?_⟩
 obtain ⟨a, ha, rfl⟩ := List.mem_map.1 ha'
 obtain ⟨⟨p1, p2, p3⟩, q1, q2, q3, q4, q5, d, q6, q7⟩ := h4 a ha
 refine ⟨⟨fr_in hb (hr a ha), p2, ?_⟩, q1, q2, q3, fun z hz => ?_, fun e he => ?_, d, q6, ren_whole hb hr q7⟩
 · exact (ln_ren hb (hr a ha) c.arts hr).trans p3
 · obtain ⟨y, hy, rfl⟩ := List.mem_map.1 hz
   have h5 := q4 y hy
   have hin : inr y := by
     cases hq : lnOf c.arts y with
     | none => exact absurd hq h5
     | some l => obtain ⟨x, hx, hn, _⟩ := lnOf_some hq; rw [← hn]; exact hr x hx
   show lnOf (c.arts.map (renA b)) (fr b y) ≠ none
   rw [ln_ren hb hin c.arts hr]; exact h5
 · obtain ⟨y, hy, rfl⟩ := List.mem_map.1 he
   exact ren_whole hb hr (q5 y hy)
theorem ren_okC (hc : okC c) : okC (renC b c) := by
 obtain ⟨h1, h2, h3, h4⟩ := hc
 refine ⟨h1, h2, by simpa [renC] using h3, fun a' ha' => ?_⟩
 obtain ⟨a, ha, rfl⟩ := List.mem_map.1 ha'
 obtain ⟨k1, k2, k3, k4⟩ := h4 a ha
 refine ⟨by simpa [renA] using k1, by simpa [renA] using k2, fun e he => ?_, ren_ok b _ k4⟩
 obtain ⟨y, hy, rfl⟩ := List.mem_map.1 he
 exact ren_ok b y (k3 y hy)
theorem art_in (hv : validP c) {a : Ar} (ha : a ∈ c.arts) : (∀ e ∈ a.wh, artsIn e) ∧ artsIn a.am ∧ (∀ z ∈ a.un, inr z) ∧ inr a.number := by
 obtain ⟨h1, h2, h3, h4⟩ := hv
 have hr : ∀ a ∈ c.arts, inr a.number := fun a ha => (h4 a ha).1.1
 obtain ⟨_, q1, q2, q3, q4, q5, d, q6, q7⟩ := h4 a ha
 refine ⟨fun e he => fit_arts hr e (q5 e he).2.1, fit_arts hr _ q7.2.1, fun z hz => ?_, hr a ha⟩
 cases hq : lnOf c.arts z with
 | none => exact absurd hq (q4 z hz)
 | some l => obtain ⟨x, hx, hn, _⟩ := lnOf_some hq; rw [← hn]; exact hr x hx
theorem ren_sub (hb : 0 ≤ b ∧ b ≤ 65535) {l m : List Ex} (hl : ∀ e ∈ l, artsIn e) (hm : ∀ e ∈ m, artsIn e) : (∀ e ∈ m.map (ren b), e ∈ l.map (ren b)) ↔ ∀ e ∈ m, e ∈ l := by
 constructor
 · intro h e he
   obtain ⟨q, hq, hqe⟩ := List.mem_map.1 (h _ (List.mem_map.2 ⟨e, he, rfl⟩))
   rw [← ren_inj hb q (hl q hq) e (hm e he) hqe]; exact hq
 · intro h e he
   obtain ⟨q, hq, rfl⟩ := List.mem_map.1 he
   exact List.mem_map.2 ⟨q, h q hq, rfl⟩
theorem ren_beat (hb : 0 ≤ b ∧ b ≤ 65535) (hv : validP c) {x y : Ar} (hx : x ∈ c.arts) (hy : y ∈ c.arts) : beat (renA b x) (renA b y) ↔ beat x y := by
 obtain ⟨x1, _, _, x4⟩ := art_in hv hx
 obtain ⟨y1, _, _, y4⟩ := art_in hv hy
 unfold beat renA
 simp only [ren_sub hb x1 y1, ren_sub hb y1 x1, ne_eq, fr_inj hb x4 y4]
theorem ren_beats (hb : 0 ≤ b ∧ b ≤ 65535) (hv : validP c) (i j : Int) : beats (renC b c) i j ↔ beats c i j := by
 have g : ∀ z : Int, geti (renC b c).arts z = (geti c.arts z).map (renA b) := fun z => by
   unfold geti renC
   split
   · simp
   · rfl
 unfold beats
 rw [g, g]
 constructor
 · rintro ⟨x, y, hx, hy, h⟩
   obtain ⟨x', hx', rfl⟩ := Option.map_eq_some_iff.1 hx
   obtain ⟨y', hy', rfl⟩ := Option.map_eq_some_iff.1 hy
   exact ⟨x', y', hx', hy', (ren_beat hb hv (List.mem_of_getElem? (geti_lt hx').2) (List.mem_of_getElem? (geti_lt hy').2)).1 h⟩
 · rintro ⟨x, y, hx, hy, h⟩
   exact ⟨_, _, by rw [hx]; rfl, by rw [hy]; rfl, (ren_beat hb hv (List.mem_of_getElem? (geti_lt hx).2) (List.mem_of_getElem? (geti_lt hy).2)).2 h⟩
theorem ren_names (hb : 0 ≤ b ∧ b ≤ 65535) (hv : validP c) {a : Ar} (ha : a ∈ c.arts) {z : Int} (hz : inr z) : names (renA b a) (fr b z) ↔ names a z := by
 obtain ⟨a1, a2, a3, _⟩ := art_in hv ha
 unfold names renA
 simp only [ren_men hb hz _ a2]
 refine or_congr_left (or_congr ?_ ?_)
 · constructor
   · intro h; obtain ⟨y, hy, hyz⟩ := List.mem_map.1 h; rw [← (fr_inj hb (a3 y hy) hz).1 hyz]; exact hy
   · exact fun h => List.mem_map.2 ⟨z, h, rfl⟩
 · constructor
   · rintro ⟨e, he, hm⟩
     obtain ⟨q, hq, rfl⟩ := List.mem_map.1 he
     exact ⟨q, hq, (ren_men hb hz q (a1 q hq)).1 hm⟩
   · rintro ⟨e, he, hm⟩
     exact ⟨_, List.mem_map.2 ⟨e, he, rfl⟩, (ren_men hb hz e (a1 e he)).2 hm⟩
theorem sel_map {α β : Type} {f : α → β} {p : Nat → β → Prop} {q : Nat → α → Prop} : ∀ (l : List α) (i : Nat), (∀ k x, l[k]? = some x → (p (i + k) (f x) ↔ q (i + k) x)) → sel p (l.map f) i = sel q l i
 | [], _, _ => rfl
 | x :: l, i, h => by
   have h0 := h 0 x rfl
   rw [Nat.add_zero] at h0
   have ht := sel_map (f := f) (p := p) (q := q) l (i + 1) fun k y hy => by
     have := h (k + 1) y (by simpa using hy)
     rwa [show i + (k + 1) = i + 1 + k by omega] at this
   rw [List.map_cons, sel, sel, ht]
   by_cases hq : q i x
   · rw [if_pos hq, if_pos (h0.2 hq)]
   · rw [if_neg hq, if_neg (fun h => hq (h0.1 h))]
theorem ren_Nd (hb : 0 ≤ b ∧ b ≤ 65535) (hv : validP c) (i : Nat) : ndl (renC b c) i = ndl c i := by
 unfold ndl
 have : (renC b c).arts[i]? = c.arts[i]?.map (renA b) := by simp [renC]
 rw [this]
 cases h : c.arts[i]? with
 | none => rfl
 | some a =>
   have ha := List.mem_of_getElem? h
   exact sel_map c.arts 0 fun k x hx => by
     have hxm := List.mem_of_getElem? hx
     unfold needP
     rw [ren_beats hb hv]
     exact or_congr_left (ren_names hb hv ha (art_in hv hxm).2.2.2)
end
theorem nodup_sub : ∀ (l S : List Int), l.Nodup → (∀ z ∈ l, z ∈ S) → l.length ≤ S.length
 | [], _, _, _ => Nat.zero_le _
 | x :: l, S, hn, h => by
   have hx := h x List.mem_cons_self
   rw [List.nodup_cons] at hn
   have := nodup_sub l (S.erase x) hn.2 fun z hz => (List.mem_erase_of_ne (fun e => hn.1 (by rw [← e]; exact hz))).2 (h z (List.mem_cons_of_mem _ hz))
   rw [List.length_erase_of_mem hx] at this
   have := List.length_pos_of_mem hx
   rw [List.length_cons]; omega
theorem greedy_nodup {c : Co} {l : List Int} (h : greedy c l) : ∀ j, (l.take j).Nodup := by
 intro j
 induction j with
 | zero => simp
 | succ j ih =>
   rw [List.take_add_one]
   cases hj : l[j]? with
   | none => simpa using ih
   | some v =>
     obtain ⟨i, rfl, _, hr, _⟩ := h j v hj
     simp only [Option.toList_some]
     rw [List.nodup_append]
     exact ⟨ih, by simp, fun a ha b hb => by
       simp only [List.mem_singleton] at hb
       subst hb
       exact fun e => hr.1 (e ▸ ha)⟩
theorem ord_uniq {c : Co} {r r' : List Int × Bool} (h : OrdP c r) (h' : OrdP c r') : r = r' := by
 have no : ∀ (l S : List Int), l.length = c.arts.length → greedy c l → S.length < c.arts.length → stuck c S → False := by
   intro l S hl hg hS hst
   have hd := greedy_nodup hg l.length
   rw [List.take_length] at hd
   have hnot : ¬ ∀ z ∈ l, z ∈ S := fun h => by have := nodup_sub l S hd h; omega
   have key : ∀ j, ∀ z ∈ l.take j, z ∈ S := by
     intro j
     induction j with
     | zero => simp
     | succ j ih =>
       rw [List.take_add_one]
       intro z hz
       rcases List.mem_append.1 hz with h1 | h1
       · exact ih z h1
       · cases hj : l[j]? with
         | none => rw [hj] at h1; simp at h1
         | some v =>
           rw [hj] at h1
           simp only [Option.toList_some, List.mem_singleton] at h1
           subst h1
           obtain ⟨i, rfl, hi, hr, _⟩ := hg j z hj
           exact Classical.byContradiction fun hno => hst i hi ⟨hno, fun y hy => ih y (hr.2 y hy)⟩
   refine hnot fun z hz => ?_
   have := key l.length z
   rw [List.take_length] at this
   exact this hz
 obtain ⟨l, ok⟩ := r
 obtain ⟨l', ok'⟩ := r'
 rcases h with ⟨h1, h2, h3⟩ | ⟨h1, h2, S, h3, h4⟩ <;> rcases h' with ⟨k1, k2, k3⟩ | ⟨k1, k2, S', k3, k4⟩ <;> simp only at h1 h2 k1 k2
 · subst h1; subst k1
   congr 1
   have key : ∀ j, l.take j = l'.take j := by
     intro j
     induction j with
     | zero => rfl
     | succ j ih =>
       rw [List.take_add_one, List.take_add_one, ih]
       congr 1
       rcases Nat.lt_or_ge j c.arts.length with hlt | hge
       · have e1 : l[j]? = some l[j] := List.getElem?_eq_getElem (by omega)
         have e2 : l'[j]? = some l'[j] := List.getElem?_eq_getElem (by omega)
         obtain ⟨i, hi1, hi2, hi3, hi4⟩ := h3 j _ e1
         obtain ⟨i', hj1, hj2, hj3, hj4⟩ := k3 j _ e2
         rw [ih] at hi3 hi4
         have : i = i' := by
           rcases Nat.lt_trichotomy i i' with h | h | h
           · exact absurd hi3 (hj4 i h)
           · exact h
           · exact absurd hj3 (hi4 i' h)
         rw [e1, e2, hi1, hj1, this]
       · rw [List.getElem?_eq_none (by omega), List.getElem?_eq_none (by omega)]
   have := key c.arts.length
   rwa [List.take_of_length_le (by omega), List.take_of_length_le (by omega)] at this
 · exact (no l S' h2 h3 k3 k4).elim
 · exact (no l' S k2 k3 h3 h4).elim
 · subst h1; subst k1; subst h2; subst k2; rfl
theorem ordP_same {c x : Co} (hl : x.arts.length = c.arts.length) (hN : ∀ i, ndl x i = ndl c i) {r : List Int × Bool} (h : OrdP x r) : OrdP c r := by
 have hr : ∀ S i, rdy x S i ↔ rdy c S i := fun S i => by unfold rdy; rw [hN]
 have hf : ∀ S i, first x S i ↔ first c S i := fun S i => by unfold first; simp only [hr, hl]
 unfold OrdP greedy stuck at h ⊢
 simp only [hf, hr, hl] at h
 exact h
end Mo
end Go.Proofs.YtnijkdknnmgoeaaGreat
namespace Go.Proofs.YtnijkdknnmgoeaaGreat
open AI
def strL (s : List UInt8) : AV := .sc (.string ⟨s.toArray⟩)
def lowN (n : Nat) : Bool := (match Nat.ble 97 n with | true => Nat.ble n 122 | false => false)
def uppN (n : Nat) : Bool := (match Nat.ble 65 n with | true => Nat.ble n 90 | false => false)
def digN (n : Nat) : Bool := (match Nat.ble 48 n with | true => Nat.ble n 57 | false => false)
def wordN (n : Nat) : Bool := (match lowN n with | true => true | false => (match uppN n with | true => true | false => (match digN n with | true => true | false => Nat.beq n 95)))
def whiteN (n : Nat) : Bool := (match Nat.beq n 32 with | true => true | false => (match Nat.beq n 9 with | true => true | false => (match Nat.beq n 10 with | true => true | false => Nat.beq n 13)))
def byteX (lo up di wo wh : Nat) (f n : Nat) (s : AS) : Option (CR × AS) :=
 match Nat.ble n 255 with
 | false => none
 | true => match Nat.beq f wo with
   | true => some (.ret (.sc (.bool (wordN n))), s)
   | false => match Nat.beq f lo with
     | true => some (.ret (.sc (.bool (lowN n))), s)
     | false => match Nat.beq f up with
       | true => some (.ret (.sc (.bool (uppN n))), s)
       | false => match Nat.beq f di with
         | true => some (.ret (.sc (.bool (digN n))), s)
         | false => match Nat.beq f wh with
           | true => some (.ret (.sc (.bool (whiteN n))), s)
           | false => none
def argX (lo up di wo wh : Nat) (f : Nat) (s : AS) : List AV → Option (CR × AS)
 | [.sc (.int .u8 (.ofNat n))] => byteX lo up di wo wh f n s
 | _ => none
namespace Hd
def H : Hook := fun _ _ => none
def X0 : ExtsF := fun _ _ _ => none
theorem given0 : Given Tryz.prog G (XP X0) H := ⟨mixed, (fun _ _ _ _ _ h => by cases h), (fun _ _ _ _ _ h => by cases h)⟩
def byteE (f : Nat) (p : Nat → Bool) (n : Nat) : Ent := ⟨f, [.sc (.int .u8 (.ofNat n))], none, .sc (.bool (p n))⟩
noncomputable def byteAll (m f : Nat) (p : Nat → Bool) (k : Nat) : Bool := Nat.rec (motive := fun _ => Bool) true (fun n ih => Bool.rec (motive := fun _ => Bool) false ih (runIs (byteE f p n) (goR Tryz.prog G X0 H m (startOf (byteE f p n))))) k
theorem byte_run {m f : Nat} {p : Nat → Bool} {k : Nat} (h : byteAll m f p k = true) : ∀ n, n < k → runIs (byteE f p n) (goR Tryz.prog G X0 H m (startOf (byteE f p n))) = true := by
 induction k with
 | zero => intro n hn; omega
 | succ k ih =>
   intro n hn
   have hk : Bool.rec (motive := fun _ => Bool) false (byteAll m f p k) (runIs (byteE f p k) (goR Tryz.prog G X0 H m (startOf (byteE f p k)))) = true := h
   cases hr : runIs (byteE f p k) (goR Tryz.prog G X0 H m (startOf (byteE f p k))) with
   | false => rw [hr] at hk; cases hk
   | true =>
     rw [hr] at hk
     by_cases e : n = k
     · subst e; exact hr
     · exact ih hk n (by omega)
theorem byte_ok {m f : Nat} {p : Nat → Bool} (h : byteAll m f p 256 = true) (n : Nat) (hn : n < 256) (s : AS) : Sound Tryz.prog G (.call f [.sc (.int .u8 (.ofNat n))] s (.ret (.sc (.bool (p n)))) s) :=
 ent_ok (e := byteE f p n) given0 plainG rfl (byte_run h n hn) s
theorem low_ok : byteAll 1000 141 lowN 256 = true := by kernel_rfl
theorem upp_ok : byteAll 1000 148 uppN 256 = true := by kernel_rfl
theorem dig_ok : byteAll 1000 143 digN 256 = true := by kernel_rfl
theorem word_ok : byteAll 1000 202 wordN 256 = true := by kernel_rfl
theorem white_ok : byteAll 1000 174 whiteN 256 = true := by kernel_rfl
def X (l : List Ent) : ExtsF := fun f args s => match argX 141 148 143 202 174 f s args with
 | some r => some r
 | none => find f args s l
theorem arg_ok {f : Nat} {args : List AV} {s s' : AS} {r : CR} (h : argX 141 148 143 202 174 f s args = some (r, s')) : Sound Tryz.prog G (.call f args s r s') := by
 unfold argX at h
 split at h
 · rename_i n
   unfold byteX at h
   split at h
   · cases h
   · rename_i hn
     have hn' : n < 256 := Nat.lt_succ_of_le (Nat.le_of_ble_eq_true hn)
     split at h
     · rename_i hf; cases h; rw [beq_true hf]; exact byte_ok word_ok n hn' _
     · split at h
       · rename_i hf; cases h; rw [beq_true hf]; exact byte_ok low_ok n hn' _
       · split at h
         · rename_i hf; cases h; rw [beq_true hf]; exact byte_ok upp_ok n hn' _
         · split at h
           · rename_i hf; cases h; rw [beq_true hf]; exact byte_ok dig_ok n hn' _
           · split at h
             · rename_i hf; cases h; rw [beq_true hf]; exact byte_ok white_ok n hn' _
             · cases h
 · cases h
theorem given {l : List Ent} (hl : ∀ e ∈ l, EntOk Tryz.prog G e) : Given Tryz.prog G (XP (X l)) H := by
 refine ⟨mixed, fun f args s r s' h => ?_, fun _ _ _ _ _ h => by cases h⟩
 have h' : X l f args s = some (r, s') := h
 unfold X at h'
 split at h'
 · rename_i q hq; cases h'; exact arg_ok hq
 · exact find_ok hl h'
theorem none : ∀ e ∈ ([] : List Ent), EntOk Tryz.prog G e := fun e he => by cases he
theorem entry {e : Ent} {l : List Ent} {m : Nat} (hl : ∀ e ∈ l, EntOk Tryz.prog G e) (hp : entPlain e = true) (h : runIs e (goR Tryz.prog G (X l) H m (startOf e)) = true) : EntOk Tryz.prog G e := ent_ok (given hl) plainG hp h
end Hd
end Go.Proofs.YtnijkdknnmgoeaaGreat
