/- Part of a proof: see the last text. -/
import Derived.Test.YtnijkdknnmgoeaaGreatNdk
namespace Go.Proofs.YtnijkdknnmgoeaaGreat
open AI Go
namespace Mo
mutual
def cnt : Ex → Nat
 | ⟨_, _, _, _, ks⟩ => 1 + cntS ks
def cntS : List Ex → Nat
 | [] => 0
 | k :: ks => cnt k + cntS ks
end
mutual
def dp : Ex → Nat
 | ⟨_, _, _, _, ks⟩ => 1 + dpS ks
def dpS : List Ex → Nat
 | [] => 0
 | k :: ks => max (dp k) (dpS ks)
end
abbrev okE := okEx
abbrev okS := okExs
theorem cnt_eq (e : Ex) : cnt e = 1 + cntS e.kids := by cases e; rw [cnt]
theorem dp_eq (e : Ex) : dp e = 1 + dpS e.kids := by cases e; rw [dp]
theorem okS_iff {l : List Ex} : okS l ↔ ∀ k ∈ l, okE k := okExs_iff
theorem okE_iff (e : Ex) : okE e ↔ e.tab.ps.length ≤ 9223372036854775807 ∧ e.kids.length ≤ 9223372036854775807 ∧ ∀ k ∈ e.kids, okE k := okEx_iff e
theorem cntS_app (l m : List Ex) : cntS (l ++ m) = cntS l + cntS m := by
 induction l with
 | nil => simp [cntS]
 | cons k l ih => simp only [List.cons_append, cntS, ih]; omega
theorem cntS_step {l : List Ex} {i : Nat} {y : Ex} (h : l[i]? = some y) : cntS (l.take (i + 1)) = cntS (l.take i) + cnt y := by
 rw [List.take_add_one, h, cntS_app]; simp [cntS]
theorem cntS_take (l : List Ex) (i : Nat) : cntS (l.take i) ≤ cntS l := by
 have := cntS_app (l.take i) (l.drop i)
 rw [List.take_append_drop] at this
 omega
theorem cntS_mem {l : List Ex} {k : Ex} (h : k ∈ l) : cnt k ≤ cntS l := by
 induction l with
 | nil => cases h
 | cons a l ih =>
   rw [cntS]
   rcases List.mem_cons.1 h with rfl | h
   · omega
   · have := ih h; omega
theorem dpS_le {l : List Ex} {d : Nat} : dpS l ≤ d ↔ ∀ k ∈ l, dp k ≤ d := by
 induction l with
 | nil => simp [dpS]
 | cons k l ih => simp only [dpS, List.mem_cons, forall_eq_or_imp, ← ih]; omega
theorem cnt_kid {e k : Ex} (h : k ∈ e.kids) : cnt k < cnt e := by
 have := cntS_mem h
 rw [cnt_eq e]; omega
theorem cnt_pos (e : Ex) : 0 < cnt e := by rw [cnt_eq]; omega
theorem count_m : ∀ (n : Nat) (e : Ex) (l : Int), okE e → cnt e ≤ n → l ≤ 1000000 → ref10_Count_M n e l = some (max 0 (min ((cnt e : Nat) : Int) l)) := by
 intro n
 induction n with
 | zero => intro e l _ h; have := cnt_pos e; omega
 | succ n ih =>
   intro e l hok hn hl
   obtain ⟨_, hk, hks⟩ := (okE_iff e).1 hok
   have hp := cnt_eq e
   rw [ref10_Count_M, ref10_Count_B, Sp_eq]
   simp only [leI_mb, c_mb, Sp_iff, Sp_some]
   refine ⟨fun h => by omega, fun h => ?_⟩
   refine Sp_loop (fun i x => x = min (((1 + cntS (e.kids.take i) : Nat)) : Int) l) hk (by simp [cntS]; omega) (fun i y x hy hx => ?_) (fun x hx => ?_)
   · have hm := List.mem_of_getElem? hy
     have h1 := cntS_step hy
     have h2 := cntS_take e.kids (i + 1)
     have h3 := cnt_kid hm
     simp only [ref10_Count_L1, ltI_mb, c_mb, Sp_iff, Sp_bind, Sp_some, RQ_nx, RQ_ex]
     refine ⟨fun h4 => ?_, fun h4 => by omega⟩
     rw [wsub_in (by omega), ih y (l - x) (hks y hm) (by omega) (by omega), Sp_some, wadd_in (by omega)]
     omega
   · rw [List.take_length] at hx
     rw [Sp_some]; omega
theorem count_s (e : Ex) (l : Int) (h : okE e) (hl : l ≤ 1000000) : ref10_Count_R e l = some (max 0 (min ((cnt e : Nat) : Int) l)) :=
 evt_of (cnt e) fun n hn => count_m n e l h hn hl
theorem small_s (e : Ex) (l : Int) (h : okE e) (hl : 0 ≤ l ∧ l < 1000000) : ref10_Small_B e l = some (mb (((cnt e : Nat) : Int) ≤ l)) := by
 rw [ref10_Small_B, wadd_in (by omega), count_s e _ h (by omega), Sp_eq]
 simp only [leI_mb, c_mb, Sp_iff, Sp_some, Sp_bind, true_is_mb, false_is_mb]
 omega
theorem flat_m : ∀ (n : Nat) (e : Ex) (l : Int), okE e → cnt e ≤ n → -1000000 ≤ l → l ≤ 1000000 → ref10_Flat_M n e l = some (mb (((dp e : Nat) : Int) ≤ l)) := by
 intro n
 induction n with
 | zero => intro e l _ h; have := cnt_pos e; omega
 | succ n ih =>
   intro e l hok hn hl0 hl
   obtain ⟨_, hk, hks⟩ := (okE_iff e).1 hok
   have hp := dp_eq e
   rw [ref10_Flat_M, ref10_Flat_B, ltI_mb, c_mb]
   by_cases h : l < 1
   · rw [iff_T h]; refine smbF ?_; omega
   rw [iff_F h, k_loop (v := false) (P := fun _ y => ((dp y : Nat) : Int) ≤ l - 1) hk (fun i y hy => by
     have hm := List.mem_of_getElem? hy
     have h3 := cnt_kid hm
     simp only [ref10_Flat_L1]
     rw [wsub_in (by omega), ih y (l - 1) (hks y hm) (by omega) (by omega) (by omega)]
     simp only [Option.bind_some, c_mb, k_nr]), m_tf, mem_at]
   refine smb ?_
   have h4 : (∀ k ∈ e.kids, ((dp k : Nat) : Int) ≤ l - 1) ↔ dpS e.kids ≤ (l - 1).toNat := by
     rw [dpS_le]
     exact ⟨fun h k hk => by have := h k hk; omega, fun h k hk => by have := h k hk; omega⟩
   rw [h4]
   omega
theorem flat_s (e : Ex) (l : Int) (h : okE e) (hl : -1000000 ≤ l ∧ l ≤ 1000000) : ref10_Flat_R e l = some (mb (((dp e : Nat) : Int) ≤ l)) :=
 evt_of (cnt e) fun n hn => flat_m n e l h hn hl.1 hl.2
def smE (e : Ex) : Prop := cnt e ≤ 400 ∧ dp e ≤ 40
theorem within_s (e : Ex) (h : okE e) : ref10_within_B e = some (mb (smE e)) := by
 rw [ref10_within_B, small_s e 400 h (by omega), flat_s e 40 h (by omega)]
 simp only [Option.bind_some, c_mb, m_qf]
 refine smb ?_
 unfold smE
 omega
noncomputable def fst {α : Type} (p : α → Prop) : List α → Nat → Int
 | [], _ => -1
 | y :: l, i => open Classical in if p y then ((i : Nat) : Int) else fst p l (i + 1)
theorem fst_loop {α β : Type} {l : List α} {body : Nat → α → Unit → Option (Lp Unit Unit Int)} {p : α → Prop} {k : Unit → Option Int} {kr : Int → Option Int} (hl : l.length ≤ 9223372036854775807) (hb : ∀ i y, l[i]? = some y → body i y () = some (iff_ (p y) (.rt ((i : Nat) : Int)) (.nx ()))) (hk : k () = some (-1)) (hr : ∀ v, kr v = some v) : (lim l.length (foldL body (fun _ => ()) (l.drop 0) 0 ())).bind (lpK k kr) = some (fst p l 0) := by
 rw [lim_of hl, List.drop_zero]
 have key : ∀ (m : List α) (i : Nat), l.drop i = m → (foldL body (fun _ => ()) m i ()).bind (lpK k kr) = some (fst p m i) := by
   intro m
   induction m with
   | nil => intro i _; exact hk
   | cons y m ih =>
     intro i hd
     have hy : l[i]? = some y := by rw [← List.head?_drop, hd]; rfl
     have hd2 : l.drop (i + 1) = m := by rw [← List.tail_drop, hd]; rfl
     rw [foldL, hb i y hy, fst]
     by_cases h : p y
     · rw [iff_T h, if_pos h]; exact hr _
     · rw [iff_F h, if_neg h]; exact ih (i + 1) hd2
 exact key l 0 rfl
theorem fst_at {α : Type} {p : α → Prop} : ∀ (l : List α) (i : Nat), (fst p l i = -1 ∧ ∀ y ∈ l, ¬ p y) ∨ ∃ k y, fst p l i = ((i + k : Nat) : Int) ∧ l[k]? = some y ∧ p y ∧ ∀ (j : Nat) z, j < k → l[j]? = some z → ¬ p z := by
 intro l
 induction l with
 | nil => intro i; exact .inl ⟨rfl, fun y h => by cases h⟩
 | cons a l ih =>
   intro i
   rw [fst]
   by_cases h : p a
   · rw [if_pos h]; exact .inr ⟨0, a, rfl, rfl, h, fun j z hj => by omega⟩
   · rw [if_neg h]
     rcases ih (i + 1) with ⟨h1, h2⟩ | ⟨k, y, h1, h2, h3, h4⟩
     · exact .inl ⟨h1, fun y hy => by rcases List.mem_cons.1 hy with rfl | hy; exact h; exact h2 y hy⟩
     · refine .inr ⟨k + 1, y, by rw [h1]; congr 1; omega, by simpa using h2, h3, fun j z hj hz => ?_⟩
       cases j with
       | zero => simp at hz; subst hz; exact h
       | succ j => exact h4 j z (by omega) (by simpa using hz)
theorem decl_s (l : List Dc) (nm : ByteArray) (hl : l.length ≤ 9223372036854775807) : ref10_decl_B l nm = some (fst (fun d => d.name = nm) l 0) := by
 unfold ref10_decl_B
 exact fst_loop (β := Unit) hl (fun i y _ => by simp only [ref10_decl_L1, eqB_mb, c_mb]; unfold iff_; split <;> rfl) rfl (fun _ => rfl)
theorem numbered_s (c : Co) (z : Int) (hl : c.arts.length ≤ 9223372036854775807) : ref10_numbered_B c z = some (fst (fun a => a.number = z) c.arts 0) := by
 unfold ref10_numbered_B
 exact fst_loop (β := Unit) hl (fun i y _ => by simp only [ref10_numbered_L1, eqI_mb, c_mb]; unfold iff_; split <;> rfl) rfl (fun _ => rfl)
def declP (l : List Dc) (lo hi : Int) (i : Nat) (d : Dc) : Prop := nameP d.name ∧ unitP d.unit ∧ lo ≤ d.role ∧ d.role ≤ hi ∧ ∀ (j : Nat) e, j < i → l[j]? = some e → e.name ≠ d.name
def declsP (l : List Dc) (lo hi : Int) : Prop := ∀ (i : Nat) d, l[i]? = some d → declP l lo hi i d
theorem fst_is {α : Type} {p : α → Prop} {l : List α} {i : Nat} {y : α} (hy : l[i]? = some y) (hp : p y) : fst p l 0 = ((i : Nat) : Int) ↔ ∀ (j : Nat) z, j < i → l[j]? = some z → ¬ p z := by
 rcases fst_at (p := p) l 0 with ⟨h1, h2⟩ | ⟨k, x, h1, h2, h3, h4⟩
 · exact absurd hp (h2 y (List.mem_of_getElem? hy))
 · rw [h1]
   constructor
   · intro h
     have : k = i := by omega
     subst this; exact h4
   · intro h
     have h5 : ¬ k < i := fun h6 => h k x h6 h2 h3
     have h6 : ¬ i < k := fun h6 => h4 i y h6 hy hp
     omega
theorem decls_s (l : List Dc) (lo hi : Int) (hl : l.length ≤ 9223372036854775807) : ref10_decls_B l lo hi = some (mb (declsP l lo hi ∧ l.length ≤ 32)) := by
 unfold ref10_decls_B
 rw [k_loop (v := false) (P := fun i d => declP l lo hi i d) hl (fun i y hy => by
   simp only [ref10_decls_L1, name_s, unit_s, decl_s _ _ hl, Option.bind_some, ltI_mb, eqI_mb, c_mb, k_nr, k_rq, k_qr]
   congr 2
   apply propext
   rw [fst_is (p := fun d : Dc => d.name = y.name) hy rfl]
   unfold declP
   grind), leI_mb, c_mb, m_tf, m_qf]
 refine smb ?_
 unfold declsP
 exact ⟨fun h => ⟨h.1, by omega⟩, fun h => ⟨h.1, by omega⟩⟩
end Mo
end Go.Proofs.YtnijkdknnmgoeaaGreat
namespace Go.Proofs.YtnijkdknnmgoeaaGreat
open AI Go
namespace Mo
set_option maxRecDepth 100000
theorem geti_in {α : Type} {l : List α} {z : Int} (h0 : 0 ≤ z) (h1 : z < ((l.length : Nat) : Int)) : ∃ x, geti l z = some x ∧ l[z.toNat]? = some x := by
 have h2 : z.toNat < l.length := by omega
 unfold geti
 rw [if_pos h0, List.getElem?_eq_getElem h2]
 exact ⟨_, rfl, rfl⟩
theorem geti_lt {α : Type} {l : List α} {z : Int} {x : α} (h : geti l z = some x) : (0 ≤ z ∧ z < ((l.length : Nat) : Int)) ∧ l[z.toNat]? = some x := by
 unfold geti at h
 split at h
 · have := (List.getElem?_eq_some_iff.1 h).1
   exact ⟨by omega, h⟩
 · cases h
theorem geti_nat {α : Type} {l : List α} {i : Nat} : geti l ((i : Nat) : Int) = l[i]? := by
 unfold geti; rw [if_pos (by omega)]; rfl
def lnOf (l : List Ar) (z : Int) : Option Int := (l.find? (fun a => decide (a.number = z))).map Ar.line
theorem ln_fst (l : List Ar) (z : Int) : (fst (fun a => a.number = z) l 0 = -1 ∧ lnOf l z = none ∧ ∀ y ∈ l, ¬ y.number = z) ∨ ∃ (k : Nat) (y : Ar), fst (fun a => a.number = z) l 0 = ((k : Nat) : Int) ∧ l[k]? = some y ∧ y.number = z ∧ lnOf l z = some y.line := by
 rcases fst_at (p := fun a : Ar => a.number = z) l 0 with ⟨h1, h2⟩ | ⟨k, y, h1, h2, h3, h4⟩
 · refine .inl ⟨h1, ?_, h2⟩
   unfold lnOf
   rw [List.find?_eq_none.2 (fun x hx => by simpa using h2 x hx)]
   rfl
 · refine .inr ⟨k, y, by rw [h1, Nat.zero_add], h2, h3, ?_⟩
   unfold lnOf
   have : l.find? (fun a => decide (a.number = z)) = some y := by
     rw [List.find?_eq_some_iff_getElem]
     refine ⟨by simpa using h3, k, (List.getElem?_eq_some_iff.1 h2).1, (List.getElem?_eq_some_iff.1 h2).2, fun j hj => ?_⟩
     have := h4 j (l[j]'(by have := (List.getElem?_eq_some_iff.1 h2).1; omega)) hj (List.getElem?_eq_getElem _)
     simpa using this
   rw [this]; rfl
def constP (e : Ex) : Prop := 0 ≤ e.n ∧ e.n ≤ 999999999999 ∧ (e.unit = truthS → e.n ≤ 1)
def leafP (c : Co) (e : Ex) : Prop := (e.op = 1 ∧ constP e) ∨ (e.op = 2 ∧ ∃ d, geti c.facts e.n = some d ∧ e.unit = d.unit) ∨ (e.op = 3 ∧ ∃ l d, lnOf c.arts e.n = some l ∧ geti c.lines l = some d ∧ e.unit = d.unit) ∨ (e.op = 4 ∧ 1 ≤ e.n ∧ e.n ≤ 4 ∧ e.unit = numberS)
theorem leaf1 {c : Co} {e : Ex} (h : e.op = 1) : leafP c e ↔ constP e := by unfold leafP; simp [h]
theorem leaf2 {c : Co} {e : Ex} (h : e.op = 2) : leafP c e ↔ ∃ d, geti c.facts e.n = some d ∧ e.unit = d.unit := by unfold leafP; simp [h]
theorem leaf3 {c : Co} {e : Ex} (h : e.op = 3) : leafP c e ↔ ∃ l d, lnOf c.arts e.n = some l ∧ geti c.lines l = some d ∧ e.unit = d.unit := by unfold leafP; simp [h]
theorem leaf4 {c : Co} {e : Ex} (h : e.op = 4) : leafP c e ↔ 1 ≤ e.n ∧ e.n ≤ 4 ∧ e.unit = numberS := by unfold leafP; simp [h]
theorem leaf0 {c : Co} {e : Ex} (h1 : e.op ≠ 1) (h2 : e.op ≠ 2) (h3 : e.op ≠ 3) (h4 : e.op ≠ 4) : ¬ leafP c e := by unfold leafP; simp [h1, h2, h3, h4]
def Decd (c : Co) : Prop := (∀ d ∈ c.facts, unitP d.unit) ∧ ∀ d ∈ c.lines, unitP d.unit
theorem geti_ex {α : Type} {l : List α} {z : Int} {q : α → Prop} : (∃ d, geti l z = some d ∧ q d) ↔ 0 ≤ z ∧ z < ((l.length : Nat) : Int) ∧ ∀ d, geti l z = some d → q d := by
 constructor
 · rintro ⟨d, h, hq⟩
   have := (geti_lt h).1
   exact ⟨this.1, this.2, fun d' h' => by rw [h] at h'; cases h'; exact hq⟩
 · rintro ⟨h0, h1, h⟩
   obtain ⟨x, hx, _⟩ := geti_in h0 h1
   exact ⟨x, hx, h x hx⟩
theorem m_geti {α : Type} {l : List α} {z : Int} {q : α → Prop} : iff_ (0 ≤ z) (iff_ (z < ((l.length : Nat) : Int)) ((geti l z).bind fun x => some (mb (q x))) (some false)) (some false) = some (mb (∃ d, geti l z = some d ∧ q d)) := by
 rw [mb_congr geti_ex]
 by_cases h0 : 0 ≤ z
 · by_cases h1 : z < ((l.length : Nat) : Int)
   · obtain ⟨x, hx, _⟩ := geti_in h0 h1
     rw [iff_T h0, iff_T h1, hx]
     simp only [Option.bind_some]
     refine smb ?_
     exact ⟨fun h => ⟨h0, h1, fun d hd => by cases hd; exact h⟩, fun h => h.2.2 x rfl⟩
   · rw [iff_T h0, iff_F h1]; refine smbF ?_; exact fun h => h1 h.2.1
 · rw [iff_F h0]; refine smbF ?_; exact fun h => h0 h.1
theorem leafR_s (c : Co) (e : Ex) (ha : c.arts.length ≤ 9223372036854775807) (hd : Decd c) : ref10_leaf_B c e = some (mb (unitP e.unit ∧ leafP c e)) := by
 rw [ref10_leaf_B, numbered_s c e.n ha]
 simp only [leI_mb, ltI_mb, eqI_mb, eqB_mb, c_mb, unit_s, Option.bind_some, m_tf, m_qf, m_qt, m_geti]
 by_cases h1 : e.op = 1
 · rw [iff_T h1, mb_congr (and_congr_right fun _ => leaf1 h1)]
   refine smb ?_; unfold constP; grind
 rw [iff_F h1]
 by_cases h2 : e.op = 2
 · rw [iff_T h2, mb_congr (and_congr_right fun _ => leaf2 h2)]
   refine smb ?_
   refine ⟨fun ⟨d, h, hu⟩ => ⟨?_, d, h, hu⟩, fun h => h.2⟩
   rw [hu]; exact hd.1 d (List.mem_of_getElem? (geti_lt h).2)
 rw [iff_F h2]
 by_cases h3 : e.op = 3
 · rw [iff_T h3, mb_congr (and_congr_right fun _ => leaf3 h3)]
   rcases ln_fst c.arts e.n with ⟨h4, h5, _⟩ | ⟨k, y, h4, h5, _, h6⟩
   · rw [h4, h5, iff_F (by omega)]; refine smbF ?_; simp
   · rw [h4, h6, iff_T (by omega), geti_nat, h5]
     simp only [Option.bind_some, m_geti]
     refine smb ?_
     refine ⟨fun ⟨d, h, hu⟩ => ⟨?_, _, d, rfl, h, hu⟩, fun ⟨_, l, d, hl, h, hu⟩ => by cases hl; exact ⟨d, h, hu⟩⟩
     rw [hu]; exact hd.2 d (List.mem_of_getElem? (geti_lt h).2)
 rw [iff_F h3]
 refine smb ?_
 by_cases h4 : e.op = 4
 · rw [leaf4 h4]
   have : unitP numberS := .inr (.inl rfl)
   grind
 · exact ⟨fun h => absurd h.1 h4, fun h => absurd h.2 (leaf0 h1 h2 h3 h4)⟩
def pieceP (f : Fn) (i : Nat) (p : Pc) : Prop := (-1000000 ≤ p.slope ∧ p.slope ≤ 1000000) ∧ (-1000000000000000000 ≤ p.att ∧ p.att ≤ 1000000000000000000) ∧ p.fr ≤ 1000000000000 ∧ (i = 0 → p.fr = 0) ∧ ∀ (j : Nat) q, i = j + 1 → f.ps[j]? = some q → q.fr < p.fr
def tableP (f : Fn) : Prop := (1 ≤ f.den ∧ f.den ≤ 1000000) ∧ (1 ≤ f.ps.length ∧ f.ps.length ≤ 64) ∧ ∀ (i : Nat) p, f.ps[i]? = some p → pieceP f i p
theorem rwithin_s (n l : Int) (h : -9223372036854775808 ≤ 0 - l ∧ 0 - l ≤ 9223372036854775807) : ref05_within_B n l = some (mb (-l ≤ n ∧ n ≤ l)) := by
 have : wneg l = -l := by unfold wneg; rw [IntWalk.i64_in _ (by omega)]; omega
 rw [ref05_within_B, this]
 simp only [leI_mb, c_mb, m_tf, m_qf]
theorem tabR_s (f : Fn) : ref05_Valid_B f = some (mb (tableP f)) := by
 rw [ref05_Valid_B]
 simp only [ltI_mb, c_mb]
 by_cases h1 : f.den < 1
 · rw [iff_T h1]; refine smbF ?_; unfold tableP; omega
 by_cases h2 : 1000000 < f.den
 · rw [iff_F h1, iff_T h2]; refine smbF ?_; unfold tableP; omega
 by_cases h3 : ((f.ps.length : Nat) : Int) < 1
 · rw [iff_F h1, iff_F h2, iff_T h3]; refine smbF ?_; unfold tableP; omega
 by_cases h4 : 64 < ((f.ps.length : Nat) : Int)
 · rw [iff_F h1, iff_F h2, iff_F h3, iff_T h4]; refine smbF ?_; unfold tableP; omega
 rw [iff_F h1, iff_F h2, iff_F h3, iff_F h4, k_loop (v := false) (P := pieceP f) (by omega) (fun i y hy => by
   have hi := (List.getElem?_eq_some_iff.1 hy).1
   simp only [ref05_Valid_L1, rwithin_s y.slope 1000000 (by omega), rwithin_s y.att 1000000000000000000 (by omega), Option.bind_some, ltI_mb, eqI_mb, leI_mb, c_mb]
   cases i with
   | zero =>
     simp only [show ((0 : Nat) : Int) = 0 from rfl, iff_T, k_nr, k_rq, k_qr]
     congr 2
     apply propext
     unfold pieceP
     grind
   | succ i =>
     obtain ⟨q, hq⟩ : ∃ q, f.ps[i]? = some q := ⟨_, List.getElem?_eq_getElem (by omega)⟩
     rw [wsub_in (by omega), show ((i + 1 : Nat) : Int) - 1 = ((i : Nat) : Int) by omega, geti_nat, hq]
     rw [iff_F (show ¬ ((i + 1 : Nat) : Int) = 0 by omega), iff_T (show (0 : Int) < ((i + 1 : Nat) : Int) by omega)]
     simp only [Option.bind_some, leI_mb, c_mb, k_rn, k_rq, k_qr]
     congr 2
     apply propext
     unfold pieceP
     have h5 : (∀ (j : Nat) q', i + 1 = j + 1 → f.ps[j]? = some q' → q'.fr < y.fr) ↔ q.fr < y.fr := ⟨fun h => h i q rfl hq, fun h j q' hj hq' => by cases hj; rw [hq] at hq'; cases hq'; exact h⟩
     rw [h5]
     grind), m_tf]
 refine smb ?_
 unfold tableP
 exact ⟨fun h => ⟨by omega, by omega, h⟩, fun h => h.2.2⟩
end Mo
end Go.Proofs.YtnijkdknnmgoeaaGreat
namespace Go.Proofs.YtnijkdknnmgoeaaGreat
open AI Go
namespace Mo
set_option maxRecDepth 100000
set_option maxHeartbeats 4000000
def tabless (e : Ex) : Prop := e.tab.den = 0 ∧ e.tab.ps = []
def pairP (e a b : Ex) : Prop :=
 ((e.op = 6 ∨ e.op = 7) ∧ e.unit = truthS ∧ a.unit = truthS ∧ b.unit = truthS) ∨
 (e.op = 8 ∧ e.unit = truthS ∧ a.unit = b.unit) ∨
 ((e.op = 9 ∨ e.op = 10) ∧ e.unit = truthS ∧ a.unit = b.unit ∧ a.unit ≠ truthS) ∨
 ((e.op = 11 ∨ e.op = 12) ∧ e.unit = a.unit ∧ a.unit = b.unit ∧ a.unit ≠ truthS) ∨
 (e.op = 13 ∧ a.unit ≠ truthS ∧ b.unit ≠ truthS ∧ ((a.unit = numberS ∧ e.unit = b.unit) ∨ (b.unit = numberS ∧ e.unit = a.unit))) ∨
 (e.op = 14 ∧ e.unit = a.unit ∧ a.unit ≠ truthS ∧ b.op = 1 ∧ b.unit = numberS ∧ 1 ≤ b.n ∧ b.n ≤ 1000000) ∨
 (e.op = 15 ∧ a.unit = minutesS ∧ curP b.unit ∧ e.unit = b.unit)
def manyP (e a b : Ex) (r : List Ex) : Prop := ((e.op = 16 ∨ e.op = 17) ∧ (∀ k ∈ a :: b :: r, k.unit = a.unit) ∧ a.unit ≠ truthS ∧ e.unit = a.unit) ∨ (r = [] ∧ pairP e a b)
def loc (c : Co) (e : Ex) : Prop := match e.kids with
 | [] => tabless e ∧ leafP c e
 | [a] => e.n = 0 ∧ ((tabless e ∧ e.op = 5 ∧ e.unit = truthS ∧ a.unit = truthS) ∨ (e.op = 18 ∧ e.unit = a.unit ∧ curP e.unit ∧ tableP e.tab))
 | a :: b :: r => e.n = 0 ∧ tabless e ∧ manyP e a b r
theorem iff_same_ff {β : Type} {p : Prop} {x : β} : iff_ p x x = x := m_same
theorem len2 {α : Type} (a b : α) (r : List α) : (((a :: b :: r).length : Nat) : Int) = 2 ↔ r = [] := by
 cases r with
 | nil => simp
 | cons x r => simp only [List.length_cons, reduceCtorEq, iff_false]; omega
theorem many_s (op n : Int) (u : ByteArray) (t : Fn) (a b : Ex) (r : List Ex) (hl : (a :: b :: r).length ≤ 9223372036854775807) : ref10_many_B ⟨op, n, u, t, a :: b :: r⟩ = some (mb (manyP ⟨op, n, u, t, a :: b :: r⟩ a b r)) := by
 rw [ref10_many_B]
 simp only [List.getElem?_cons_zero, List.getElem?_cons_succ, Option.bind_some]
 rw [k_loop (v := false) (P := fun _ k => (op = 16 ∨ op = 17) → k.unit = a.unit) hl (fun i k _ => by
   simp only [ref10_many_L1, eqI_mb, eqB_mb, c_mb, k_nr, k_qn, k_qq]
   congr 2; apply propext; grind)]
 simp only [eqI_mb, leI_mb, eqB_mb, c_mb, m_tf, m_qf, m_fq, m_qr, m_ff, m_tq, cur_s, Option.bind_some, len2, mem_at]
 refine smb ?_
 unfold manyP pairP
 rw [show (∀ y : Ex, y ∈ a :: b :: r → (op = 16 ∨ op = 17) → y.unit = a.unit) ↔ ((op = 16 ∨ op = 17) → ∀ y ∈ a :: b :: r, y.unit = a.unit) from ⟨fun h p y hy => h y hy p, fun h y hy p => h p y hy⟩]
 simp only
 generalize (∀ k ∈ a :: b :: r, k.unit = a.unit) = A at *
 clear hl
 generalize a.unit = ua; generalize b.unit = ub
 by_cases h16 : op = 16
 · subst h16; simp; try grind
 by_cases h17 : op = 17
 · subst h17; simp; try grind
 by_cases h6 : op = 6
 · subst h6; simp; try grind
 by_cases h7 : op = 7
 · subst h7; simp; try grind
 by_cases h8 : op = 8
 · subst h8; simp; try grind
 by_cases h9 : op = 9
 · subst h9; simp; try grind
 by_cases h10 : op = 10
 · subst h10; simp; try grind
 by_cases h11 : op = 11
 · subst h11; simp; try grind
 by_cases h12 : op = 12
 · subst h12; simp; try grind
 by_cases h13 : op = 13
 · subst h13; simp; try grind
 by_cases h14 : op = 14
 · subst h14; simp; try grind
 by_cases h15 : op = 15
 · subst h15; simp; try grind
 simp [h16, h17, h6, h7, h8, h9, h10, h11, h12, h13, h14, h15]
mutual
def fit (c : Co) : Ex → Prop
 | ⟨op, n, u, t, ks⟩ => unitP u ∧ fitS c ks ∧ loc c ⟨op, n, u, t, ks⟩
def fitS (c : Co) : List Ex → Prop
 | [] => True
 | k :: ks => fit c k ∧ fitS c ks
end
theorem fitS_iff {c : Co} {l : List Ex} : fitS c l ↔ ∀ k ∈ l, fit c k := by
 induction l with
 | nil => simp [fitS]
 | cons k l ih => simp [fitS, ih]
theorem fit_iff (c : Co) (e : Ex) : fit c e ↔ unitP e.unit ∧ (∀ k ∈ e.kids, fit c k) ∧ loc c e := by
 cases e; rw [fit, fitS_iff]
theorem ps0 {α : Type} {l : List α} : ((l.length : Nat) : Int) = 0 ↔ l = [] := by
 cases l <;> simp; omega
theorem truth_cur : ¬ curP truthS := fun h => by have := h.1; revert this; decide
theorem number_cur : ¬ curP numberS := fun h => by have := h.1; revert this; decide
theorem minutes_cur : ¬ curP minutesS := fun h => by have := h.1; revert this; decide
theorem loc0 (c : Co) (op n : Int) (u : ByteArray) (t : Fn) : loc c ⟨op, n, u, t, []⟩ ↔ tabless ⟨op, n, u, t, []⟩ ∧ leafP c ⟨op, n, u, t, []⟩ := Iff.rfl
theorem loc1 (c : Co) (op n : Int) (u : ByteArray) (t : Fn) (a : Ex) : loc c ⟨op, n, u, t, [a]⟩ ↔ n = 0 ∧ ((tabless ⟨op, n, u, t, [a]⟩ ∧ op = 5 ∧ u = truthS ∧ a.unit = truthS) ∨ (op = 18 ∧ u = a.unit ∧ curP u ∧ tableP t)) := Iff.rfl
theorem loc2 (c : Co) (op n : Int) (u : ByteArray) (t : Fn) (a b : Ex) (r : List Ex) : loc c ⟨op, n, u, t, a :: b :: r⟩ ↔ n = 0 ∧ tabless ⟨op, n, u, t, a :: b :: r⟩ ∧ manyP ⟨op, n, u, t, a :: b :: r⟩ a b r := Iff.rfl
theorem many_op {e a b : Ex} {r : List Ex} (h : manyP e a b r) : 6 ≤ e.op ∧ e.op ≤ 17 := by
 unfold manyP pairP at h
 omega
theorem many_unit {e a b : Ex} {r : List Ex} (h : manyP e a b r) (ha : unitP a.unit) (hb : unitP b.unit) : unitP e.unit := by
 have ht : unitP truthS := .inl rfl
 unfold manyP pairP at h
 grind
theorem fitsR_m (c : Co) (ha : c.arts.length ≤ 9223372036854775807) (hd : Decd c) : ∀ (m : Nat) (e : Ex), okE e → cnt e ≤ m → ref10_fits_M m c e = some (mb (fit c e)) := by
 intro m
 induction m with
 | zero => intro e _ h; have := cnt_pos e; omega
 | succ m ih =>
   intro e hok hn
   obtain ⟨_, hk, hks⟩ := (okE_iff e).1 hok
   rw [ref10_fits_M, ref10_fits_B, mb_congr (fit_iff c e)]
   rw [k_loop (v := false) (P := fun _ k => fit c k) hk (fun i y hy => by
     have hm := List.mem_of_getElem? hy
     have h3 := cnt_kid hm
     simp only [ref10_fits_L1]
     rw [ih y (hks y hm) (by omega)]
     simp only [Option.bind_some, c_mb, k_nr]), mem_at]
   by_cases hf : ∀ k ∈ e.kids, fit c k
   · rw [iff_T hf]
     obtain ⟨op, n, u, t, ks⟩ := e
     simp only at hf hk ⊢
     match ks, hf, hk with
     | [], hf, hk =>
       rw [leafR_s c _ ha hd]
       simp only [eqI_mb, c_mb, List.length_nil, show ((0 : Nat) : Int) = 0 from rfl, iff_T, Option.bind_some, m_qf, ps0, m_qr]
       refine smb ?_
       rw [loc0]
       unfold tabless
       have l0 := @leaf0 c ⟨op, n, u, t, []⟩
       simp only at l0 ⊢
       by_cases h1 : op = 1
       · subst h1; simp; grind
       by_cases h2 : op = 2
       · subst h2; simp; grind
       by_cases h3 : op = 3
       · subst h3; simp; grind
       by_cases h4 : op = 4
       · subst h4; simp; grind
       have := l0 h1 h2 h3 h4
       grind
     | [a], hf, hk =>
       have hua := ((fit_iff c a).1 (hf a (by simp))).1
       simp only [eqI_mb, eqB_mb, c_mb, List.length_cons, List.length_nil, show ((0 + 1 : Nat) : Int) = 1 from rfl, show ¬ (1 : Int) = 0 from by omega, not_false_eq_true, iff_F, iff_T, Option.bind_some, List.getElem?_cons_zero, cur_s, tabR_s, m_tf, m_qf, m_ff, m_qr, ps0, m_same]
       rw [loc1]
       unfold tabless
       have ht : unitP truthS := .inl rfl
       simp only [iff_same_ff, m_qf, m_qr, m_tf, m_fq]
       refine smb ?_
       grind
     | a :: b :: r, hf, hk =>
       have hua := ((fit_iff c a).1 (hf a (by simp))).1
       have hub := ((fit_iff c b).1 (hf b (by simp))).1
       have n1 : ¬ (((a :: b :: r).length : Nat) : Int) = 1 := by simp only [List.length_cons]; omega
       rw [many_s _ _ _ _ _ _ _ hk]
       simp only [eqI_mb, eqB_mb, c_mb, iff_F n1, ps0, iff_F (show ¬ (a :: b :: r = []) by simp), Option.bind_some, m_qf, m_qr]
       refine smb ?_
       rw [loc2]
       have h5 := @many_op ⟨op, n, u, t, a :: b :: r⟩ a b r
       have h6 := @many_unit ⟨op, n, u, t, a :: b :: r⟩ a b r
       simp only at h5 h6 ⊢
       unfold tabless
       generalize manyP ⟨op, n, u, t, a :: b :: r⟩ a b r = M at *
       grind
   · rw [iff_F hf]
     exact smbF fun h => hf h.2.1
theorem fitsR_s (c : Co) (ha : c.arts.length ≤ 9223372036854775807) (hd : Decd c) (e : Ex) (h : okE e) : ref10_fits_R c e = some (mb (fit c e)) :=
 evt_of (cnt e) fun n hn => fitsR_m c ha hd n e h hn
theorem FitsR_s (c : Co) (ha : c.arts.length ≤ 9223372036854775807) (hd : Decd c) (e : Ex) (h : okE e) : ref10_Fits_B c e = some (mb (smE e ∧ fit c e)) := by
 rw [ref10_Fits_B, within_s e h, fitsR_s c ha hd e h]
 simp only [Option.bind_some, c_mb, m_qf]
end Mo
end Go.Proofs.YtnijkdknnmgoeaaGreat
namespace Go.Proofs.YtnijkdknnmgoeaaGreat
open AI Go
namespace Mo
set_option maxRecDepth 100000
set_option maxHeartbeats 4000000
def okA (a : Ar) : Prop := a.wh.length ≤ 9223372036854775807 ∧ a.un.length ≤ 9223372036854775807 ∧ (∀ e ∈ a.wh, okE e) ∧ okE a.am
def okC (c : Co) : Prop := c.facts.length ≤ 9223372036854775807 ∧ c.lines.length ≤ 9223372036854775807 ∧ c.arts.length ≤ 9223372036854775807 ∧ ∀ a ∈ c.arts, okA a
theorem okC_of {c : Co} (h : okCo c) : okC c := ⟨h.1, h.2.1, h.2.2.1, fun a ha => by have := h.2.2.2 a ha; exact ⟨this.1, this.2.2.1, this.2.1, this.2.2.2⟩⟩
def whole (c : Co) (e : Ex) (u : ByteArray) : Prop := smE e ∧ fit c e ∧ e.unit = u
def headP (c : Co) (a : Ar) : Prop := (1 ≤ a.number ∧ a.number ≤ 1000000) ∧ (0 ≤ a.line ∧ a.line < ((c.lines.length : Nat) : Int)) ∧ lnOf c.arts a.number = some a.line
def bodyP (c : Co) (a : Ar) : Prop := (0 ≤ a.rank ∧ a.rank ≤ 1000000) ∧ (0 ≤ a.fr ∧ a.fr < a.to ∧ a.to ≤ 36525) ∧ (0 ≤ a.known ∧ a.known ≤ 36524) ∧ (∀ z ∈ a.un, lnOf c.arts z ≠ none) ∧ (∀ e ∈ a.wh, whole c e truthS) ∧ ∃ d, geti c.lines a.line = some d ∧ whole c a.am d.unit
def validP (c : Co) : Prop := (declsP c.facts 0 0 ∧ c.facts.length ≤ 32) ∧ (declsP c.lines 1 4 ∧ c.lines.length ≤ 32) ∧ c.arts.length ≤ 60 ∧ ∀ a ∈ c.arts, headP c a ∧ bodyP c a
theorem decd_of {c : Co} (h1 : declsP c.facts 0 0) (h2 : declsP c.lines 1 4) : Decd c :=
 ⟨fun d hd => by obtain ⟨i, hi⟩ := List.getElem?_of_mem hd; exact (h1 i d hi).2.1, fun d hd => by obtain ⟨i, hi⟩ := List.getElem?_of_mem hd; exact (h2 i d hi).2.1⟩
theorem validR_s (c : Co) (hc : okC c) : ref10_Valid_B c = some (mb (validP c)) := by
 obtain ⟨hf, hl, ha, hao⟩ := hc
 rw [ref10_Valid_B, decls_s _ _ _ hf, decls_s _ _ _ hl]
 simp only [Option.bind_some, c_mb, ltI_mb]
 unfold validP
 by_cases h1 : declsP c.facts 0 0 ∧ c.facts.length ≤ 32
 · by_cases h2 : declsP c.lines 1 4 ∧ c.lines.length ≤ 32
   · by_cases h3 : 60 < ((c.arts.length : Nat) : Int)
     · rw [iff_T h1, iff_T h2, iff_T h3]; exact smbF fun h => by have := h.2.2.1; omega
     · have hd := decd_of h1.1 h2.1
       rw [iff_T h1, iff_T h2, iff_F h3, k_loop (v := false) (P := fun _ a => headP c a ∧ bodyP c a) ha (fun i a hi => by
         have hm := List.mem_of_getElem? hi
         obtain ⟨hw, hu, hwe, hae⟩ := hao a hm
         have e1 := fun (k : Unit → Option (Lp Unit Unit Bool)) => k_loop (l := a.wh) (body := fun i y x => ref10_Valid_L2 c i y) (v := false) (P := fun _ e => whole c e truthS) (k := k) (kr := fun v => some (.rt v)) hw (fun i e hi => by
           simp only [ref10_Valid_L2, FitsR_s c ha hd _ (hwe e (List.mem_of_getElem? hi)), Option.bind_some, eqB_mb, c_mb, k_nr, k_qr]
           congr 2; apply propext; unfold whole; exact and_assoc)
         have e2 := fun (k : Unit → Option (Lp Unit Unit Bool)) => k_loop (l := a.un) (body := fun i y x => ref10_Valid_L3 c i y) (v := false) (P := fun _ z => lnOf c.arts z ≠ none) (k := k) (kr := fun v => some (.rt v)) hu (fun i z hi => by
           simp only [ref10_Valid_L3, numbered_s _ _ ha, Option.bind_some, ltI_mb, c_mb, k_rn]
           congr 2; apply propext
           rcases ln_fst c.arts z with ⟨h1, h2, _⟩ | ⟨k, y, h1, _, _, h2⟩
           · rw [h1, h2]; simp
           · rw [h1, h2]; simp)
         simp only [ref10_Valid_L1, numbered_s _ _ ha, FitsR_s c ha hd _ hae, Option.bind_some, ltI_mb, leI_mb, eqI_mb, eqB_mb, c_mb, e1, e2, mem_at]
         rcases ln_fst c.arts a.number with ⟨_, _, h4⟩ | ⟨k, y, h4, h5, _, h6⟩
         · exact absurd rfl (h4 a hm)
         · rw [h4, geti_nat, h5]
           simp only [Option.bind_some]
           unfold headP bodyP
           rw [h6]
           by_cases hl1 : 0 ≤ a.line ∧ a.line < ((c.lines.length : Nat) : Int)
           · obtain ⟨d, hd1, _⟩ := geti_in hl1.1 hl1.2
             rw [hd1]
             simp only [Option.bind_some, k_nr, k_qr, k_rq]
             congr 2; apply propext
             unfold whole
             simp only [Option.some.injEq, exists_eq_left']
             grind
           · rw [show ∀ x y z : Option (Lp Unit Unit Bool), iff_ (a.number < 1) x (iff_ (1000000 < a.number) y (iff_ (a.line < 0) (some (.rt false)) (iff_ (((c.lines.length : Nat) : Int) ≤ a.line) (some (.rt false)) z))) = iff_ (a.number < 1) x (iff_ (1000000 < a.number) y (some (.rt false))) from fun x y z => by
               congr 2
               by_cases q : a.line < 0
               · rw [iff_T q]
               · rw [iff_F q, iff_T (by omega)]]
             simp only [m_same]
             rw [show (some (.rt false) : Option (Lp Unit Unit Bool)) = some (ck false False) by unfold ck; rw [iff_F (fun h => h)]]
             congr 2; apply propext
             grind
         ), m_tf, mem_at]
       refine smb ?_
       exact ⟨fun h => ⟨h1, h2, by omega, h⟩, fun h => h.2.2.2⟩
   · rw [iff_T h1, iff_F h2]; exact smbF fun h => h2 h.2.1
 · rw [iff_F h1]; exact smbF fun h => h1 h.1
end Mo
end Go.Proofs.YtnijkdknnmgoeaaGreat
