/- Part of a proof: see the last text. -/
import Derived.Test.YtkfplcngmiljaaaGreatDoorUlk
set_option linter.unusedVariables false
set_option linter.unusedSimpArgs false
namespace Go.Proofs.YtkfplcngmiljaaaGreatDoor
open AI Go
namespace Mo
set_option maxRecDepth 100000
set_option maxHeartbeats 4000000
def curP (s : ByteArray) : Prop := s.data.toList.length = 3 ∧ ∀ c ∈ s.data.toList, 65 ≤ c.toNat ∧ c.toNat ≤ 90
def unitP (s : ByteArray) : Prop := s = truthS ∨ s = numberS ∨ s = minutesS ∨ curP s
def wordN (c : UInt8) : Prop := (97 ≤ c.toNat ∧ c.toNat ≤ 122) ∨ (48 ≤ c.toNat ∧ c.toNat ≤ 57) ∨ c.toNat = 95
def keysL : List ByteArray := [factS, lineS, articleS, forS, rankS, fromS, toS, knownS, whenS, unlessS, amountS, truthS, numberS, minutesS, minS, earnS, deductS, floorS, infoS, orS, andS, notS, atS, trueS, falseS, artS, weekdayS, dayS, monthS, yearS, leastS, greatestS, tableS]
def nameP (s : ByteArray) : Prop := (1 ≤ s.data.toList.length ∧ s.data.toList.length ≤ 16) ∧ (∃ b, s.data.toList[0]? = some b ∧ 97 ≤ b.toNat ∧ b.toNat ≤ 122) ∧ s ∉ keysL ∧ ∀ c ∈ s.data.toList, wordN c
theorem okNd_l {n : Nd} (h : okNd n) : n.tab.ps.length ≤ 9223372036854775807 ∧ n.kids.length ≤ 9223372036854775807 ∧ ∀ k ∈ n.kids, okNd k := by
 obtain ⟨a, b, c⟩ := (okNd_iff n).1 h
 exact ⟨a.1, b, c⟩
theorem mem_at {α : Type} {l : List α} {P : α → Prop} : (∀ (i : Nat) (y : α), l[i]? = some y → P y) ↔ ∀ y ∈ l, P y :=
 ⟨fun h y hy => (List.getElem?_of_mem hy).elim fun i hi => h i y hi, fun h i y hi => h y (List.mem_of_getElem? hi)⟩
theorem key_s (s : ByteArray) : parser_isKey_B s = some (mb (s ∈ keysL)) := by
 rw [parser_isKey_B]
 simp only [eqB_mb, c_mb, m_tf, m_tq]
 refine smb ?_
 simp only [keysL, List.mem_cons, List.not_mem_nil, or_false]
theorem size0 (s : ByteArray) : s = ByteArray.empty ↔ s.data.toList.length = 0 := by
 constructor
 · intro h; rw [h]; rfl
 · intro h
   apply ByteArray.ext
   apply Array.ext'
   rw [List.eq_nil_of_length_eq_zero h]; rfl
theorem gname_s (s : ByteArray) : parser_goodName_B s = some (mb (nameP s)) := by
 rw [parser_goodName_B]
 simp only [eqB_mb, ltI_mb, c_mb, key_s, Option.bind_some]
 unfold nameP
 by_cases h0 : s = ByteArray.empty
 · rw [iff_T h0]; exact smbF fun h => by have := (size0 s).1 h0; omega
 have h1 : s.data.toList.length ≠ 0 := fun h => h0 ((size0 s).2 h)
 rw [iff_F h0]
 by_cases h2 : 16 < ((s.data.toList.length : Nat) : Int)
 · rw [iff_T h2]; exact smbF fun h => by omega
 rw [iff_F h2]
 obtain ⟨b, hb⟩ : ∃ b, s.data.toList[0]? = some b := ⟨_, List.getElem?_eq_getElem (by omega)⟩
 rw [hb, k_loop (v := false) (P := fun _ y => wordN y) (by omega) (fun i y _ => by
   simp only [parser_goodName_L1, ltI_mb, eqI_mb, c_mb, k_nr, k_qr, k_rn, k_qn, k_rq, k_qq, k_nq]
   congr 2
   unfold wordN
   apply propext
   omega)]
 simp only [Option.bind_some, m_tf, m_fq, mem_at]
 refine smb ?_
 constructor
 · rintro ⟨h3, h4, h5, h6⟩
   exact ⟨by omega, ⟨b, rfl, by omega⟩, h5, h6⟩
 · rintro ⟨h3, ⟨c, hc, h4⟩, h5, h6⟩
   cases hc
   exact ⟨by omega, by omega, h5, h6⟩
theorem pcur_s (s : ByteArray) : parser_goodCur_B s = some (mb (curP s)) := by
 rw [parser_goodCur_B, eqI_mb, c_mb]
 unfold curP
 by_cases h : ((s.data.toList.length : Nat) : Int) = 3
 · rw [iff_T h, k_loop (v := false) (P := fun _ y => 65 ≤ y.toNat ∧ y.toNat ≤ 90) (by omega) (fun i y _ => by
     simp only [parser_goodCur_L1, ltI_mb, c_mb, k_rn, k_rq]
     congr 2; apply propext; omega), m_tf, mem_at]
   exact smb ⟨fun h2 => ⟨by omega, h2⟩, fun h2 => h2.2⟩
 · rw [iff_F h]; exact smbF fun h2 => h (by omega)
theorem punit_s (s : ByteArray) : parser_goodUnit_B s = some (mb (unitP s)) := by
 rw [parser_goodUnit_B]
 simp only [eqB_mb, c_mb, pcur_s, Option.bind_some, m_tq]
 rfl
def ratioP (n : Int) : Prop := 1 ≤ n ∧ n ≤ 1000000
theorem pratio_s (n : Int) : parser_goodRatio_B n = some (mb (ratioP n)) := by
 rw [parser_goodRatio_B]
 simp only [leI_mb, c_mb, m_tf, m_qf]
 rfl
def dayP (n : Int) : Prop := 0 ≤ n ∧ n ≤ 36524
def dwordP (s : ByteArray) : Prop := s = weekdayS ∨ s = dayS ∨ s = monthS ∨ s = yearS
theorem pdword_s (s : ByteArray) : parser_isDateWord_B s = some (mb (dwordP s)) := by
 rw [parser_isDateWord_B]
 simp only [eqB_mb, c_mb, m_tf, m_tq]
 rfl
theorem pieces_s (a b : List Pc) (ha : a.length ≤ 9223372036854775807) : api_Piecex_B a b = some (mb (a = b)) := by
 rw [api_Piecex_B, eqI_mb, c_mb]
 by_cases h : ((a.length : Nat) : Int) = ((b.length : Nat) : Int)
 · rw [iff_T h, k_loop (v := false) (P := fun i y => b[i]? = some y) ha (fun i y hy => by
     have hi : i < a.length := (List.getElem?_eq_some_iff.1 hy).1
     have hb : b[i]? = some b[i] := List.getElem?_eq_getElem (by omega)
     simp only [api_Piecex_L1]
     rw [hb]
     simp only [Option.bind_some]
     have hs : samePc y b[i] = mb (b[i]? = some y) := by
       rw [Bool.eq_iff_iff, mb_true, hb]
       unfold samePc
       simp only [Bool.and_eq_true, eqI_eq, beq_iff_eq, Option.some.injEq]
       generalize b[i] = z
       cases y; cases z
       simp only [Pc.mk.injEq]
       grind
     rw [hs, c_mb, k_nr, hb]), m_tf]
   refine smb ⟨fun h2 => ?_, fun h2 i y hy => by rw [← h2]; exact hy⟩
   apply List.ext_getElem?
   intro i
   by_cases hi : i < a.length
   · rw [List.getElem?_eq_getElem hi, h2 i _ (List.getElem?_eq_getElem hi)]
   · rw [List.getElem?_eq_none (by omega), List.getElem?_eq_none (by omega)]
 · rw [iff_F h]; exact smbF fun h2 => h (by rw [h2])
def bareP (n f : Nd) : Prop := n.name = f.name ∧ n.unit = f.unit ∧ n.n = f.n ∧ n.fr = f.fr ∧ n.to = f.to ∧ n.known = f.known ∧ n.tab.den = f.tab.den ∧ n.tab.ps = f.tab.ps
theorem bare_s (n f : Nd) (h : n.tab.ps.length ≤ 9223372036854775807) : parser_bare_B n f = some (mb (bareP n f)) := by
 rw [parser_bare_B, pieces_s _ _ h]
 simp only [eqB_mb, eqI_mb, c_mb, Option.bind_some, m_qf]
 rfl
end Mo
end Go.Proofs.YtkfplcngmiljaaaGreatDoor
namespace Go.Proofs.YtkfplcngmiljaaaGreatDoor
open AI Go
namespace Mo
set_option maxRecDepth 100000
set_option maxHeartbeats 4000000
theorem mbNo {p : Prop} (h : ¬ p) : mb p = false := by rw [mb_is_false]; exact h
def Out (r : Option (Bool × Int)) (P : Prop) (t : Int) : Prop := ∃ z, r = some (mb P, z) ∧ (P → z = t)
theorem Out.congr {r : Option (Bool × Int)} {P Q : Prop} {t u : Int} (h : Out r P t) (hp : P ↔ Q) (ht : Q → t = u) : Out r Q u := by
 obtain ⟨z, h1, h2⟩ := h
 exact ⟨z, by rw [h1, mb_congr hp], fun q => (h2 (hp.2 q)).trans (ht q)⟩
theorem out_no {Q : Prop} {z u : Int} (h : ¬ Q) : Out (some (false, z)) Q u := ⟨z, by rw [mbNo h], fun q => absurd q h⟩
theorem out_yes {P Q : Prop} {u : Int} (h : P ↔ Q) : Out (some (mb P, u)) Q u := ⟨u, by rw [mb_congr h], fun _ => rfl⟩
theorem out_iff {p Q : Prop} {A : Option (Bool × Int)} {z u : Int} (h : p → Out A Q u) (hq : Q → p) : Out (iff_ p A (some (false, z))) Q u := by
 by_cases hp : p
 · rw [iff_T hp]; exact h hp
 · rw [iff_F hp]; exact out_no fun q => hp (hq q)
theorem out_iffN {p Q : Prop} {A : Option (Bool × Int)} {z u : Int} (h : ¬ p → Out A Q u) (hq : Q → ¬ p) : Out (iff_ p (some (false, z)) A) Q u := by
 by_cases hp : p
 · rw [iff_T hp]; exact out_no fun q => hq q hp
 · rw [iff_F hp]; exact h hp
mutual
def szN : Nd → Nat
 | ⟨_, _, _, _, _, _, _, _, kids, _⟩ => 1 + szL kids
def szL : List Nd → Nat
 | [] => 0
 | k :: ks => szN k + szL ks
end
mutual
def dpN : Nd → Nat
 | ⟨_, _, _, _, _, _, _, _, kids, _⟩ => 1 + dpL kids
def dpL : List Nd → Nat
 | [] => 0
 | k :: ks => max (dpN k) (dpL ks)
end
theorem szN_eq (n : Nd) : szN n = 1 + szL n.kids := by cases n; rw [szN]
theorem dpN_eq (n : Nd) : dpN n = 1 + dpL n.kids := by cases n; rw [dpN]
theorem dpL_le {l : List Nd} {m : Nat} : dpL l ≤ m ↔ ∀ k ∈ l, dpN k ≤ m := by
 induction l with
 | nil => simp [dpL]
 | cons a l ih => simp only [dpL, Nat.max_le, ih, List.mem_cons, forall_eq_or_imp]
theorem szL_mem {l : List Nd} {k : Nd} (h : k ∈ l) : szN k ≤ szL l := by
 induction l with
 | nil => cases h
 | cons a l ih =>
   rw [szL]
   rcases List.mem_cons.1 h with rfl | h
   · omega
   · have := ih h; omega
theorem szL_len (l : List Nd) : l.length ≤ szL l := by
 induction l with
 | nil => simp [szL]
 | cons a l ih => rw [szL, szN_eq]; simp only [List.length_cons]; omega
theorem szN_kid {n k : Nd} (h : k ∈ n.kids) : szN k < szN n := by rw [szN_eq n]; have := szL_mem h; omega
theorem all_fold {g : Ck → Nd → Int → Option (Bool × Int)} {p : Nd → Prop} {d : Int} : ∀ {l : List Nd} {i : Nat} {c : Int}, 0 ≤ c → c ≤ 2000 → (∀ k ∈ l, ∀ c : Int, 0 ≤ c → c ≤ 2000 → Out (g ⟨c⟩ k d) (p k ∧ c + szN k ≤ 2000 ∧ d + dpN k ≤ 41) (c + szN k)) →
   Out ((foldL (δ := Int) (ρ := Bool × Int) (fun _ y (x : Int) => (g ⟨x⟩ y d).bind fun (y1a, y1b) => cond y1a (some (.nx y1b)) (some (.rt (false, y1b)))) (fun x => x) l i c).bind (lpK (fun (w : Int) => some (true, w)) (fun v => some v)))
     ((∀ k ∈ l, p k ∧ d + dpN k ≤ 41) ∧ c + szL l ≤ 2000) (c + szL l)
 | [], i, c, h0, h1, _ => ⟨c, by rw [mb_true.2 ⟨fun k hk => (by cases hk), by simp only [szL]; omega⟩]; rfl, fun _ => by simp [szL]⟩
 | y :: l, i, c, h0, h1, hg => by
   obtain ⟨z, hz, h2⟩ := hg y (by simp) c h0 h1
   rw [foldL, hz]
   simp only [Option.bind_some]
   by_cases hp : p y ∧ c + szN y ≤ 2000 ∧ d + dpN y ≤ 41
   · rw [mb_true.2 hp, h2 hp]
     show Out ((foldL _ _ l (i + 1) (c + szN y)).bind _) _ _
     refine (all_fold (l := l) (i := i + 1) (c := c + szN y) (by omega) hp.2.1 fun k hk => hg k (by simp [hk])).congr ?_ ?_
     · rw [szL]
       simp only [List.mem_cons, forall_eq_or_imp, Int.natCast_add]
       constructor
       · rintro ⟨a, b⟩; exact ⟨⟨⟨hp.1, hp.2.2⟩, a⟩, by omega⟩
       · rintro ⟨⟨_, a⟩, b⟩; exact ⟨a, by omega⟩
     · intro _; rw [szL]; omega
   · rw [mbNo hp]
     refine ⟨z, ?_, fun q => ?_⟩
     · show some (false, z) = _
       rw [mbNo]
       rintro ⟨a, b⟩
       rw [szL] at b
       have := a y (by simp)
       exact hp ⟨this.1, by omega, this.2⟩
     · exfalso
       obtain ⟨a, b⟩ := q
       rw [szL] at b
       have := a y (by simp)
       exact hp ⟨this.1, by omega, this.2⟩
theorem node_s (n : Nd) {c d : Int} (h0 : 0 ≤ c) (h1 : c ≤ 2000) : Out (parser_checker_node_B ⟨c⟩ n d) (c + 1 ≤ 2000 ∧ d ≤ 40) (c + 1) := by
 rw [parser_checker_node_B, wadd_in (by show _ ≤ c + 1 ∧ c + 1 ≤ _; omega)]
 simp only [leI_mb, c_mb, Option.bind_some]
 by_cases h : c + 1 ≤ 2000
 · rw [iff_T h]; exact out_yes ⟨fun a => ⟨h, a⟩, fun a => a.2⟩
 · rw [iff_F h]; exact out_no fun a => h a.1
def pieceOk (f : Fn) (i : Nat) (p : Pc) : Prop := p.fr ≤ 999999999999 ∧ (∀ q, 0 < i → f.ps[i - 1]? = some q → q.fr < p.fr) ∧ drem p.att f.den = some 0 ∧ p.att ≤ wmul 999999999999 f.den ∧ wmul (-999999999999) f.den ≤ p.att ∧ p.slope ≤ 1000000 ∧ -1000000 ≤ p.slope
def tabP (f : Fn) : Prop := ratioP f.den ∧ (1 ≤ f.ps.length ∧ f.ps.length ≤ 64) ∧ (∀ x, f.ps[0]? = some x → x.fr = 0) ∧ ∀ (i : Nat) p, f.ps[i]? = some p → pieceOk f i p
theorem tab_s (f : Fn) (hl : f.ps.length ≤ 9223372036854775807) : parser_goodTable_B f = some (mb (tabP f)) := by
 rw [parser_goodTable_B, pratio_s]
 simp only [Option.bind_some, c_mb, ltI_mb, eqI_mb]
 unfold tabP
 by_cases hr : ratioP f.den
 rotate_left
 · rw [iff_F hr]; exact smbF fun h => hr h.1
 rw [iff_T hr]
 by_cases h1 : ((f.ps.length : Nat) : Int) < 1
 · rw [iff_T h1]; exact smbF fun h => by omega
 rw [iff_F h1]
 by_cases h2 : 64 < ((f.ps.length : Nat) : Int)
 · rw [iff_T h2]; exact smbF fun h => by omega
 rw [iff_F h2]
 have hx0 : f.ps[0]? = some f.ps[0] := List.getElem?_eq_getElem (by omega)
 rw [hx0]
 simp only [Option.bind_some]
 by_cases h3 : f.ps[0].fr = 0
 rotate_left
 · rw [iff_F h3]; exact smbF fun h => h3 (h.2.2.1 _ rfl)
 rw [iff_T h3]
 have hden : f.den ≠ 0 := by unfold ratioP at hr; omega
 rw [k_loop (v := false) (P := fun i y => pieceOk f i y) hl (fun i y hy => by
   have hi : i < f.ps.length := (List.getElem?_eq_some_iff.1 hy).1
   simp only [parser_goodTable_L1, ltI_mb, c_mb, leI_mb, eqI_mb]
   have hd : ∃ z, drem y.att f.den = some z := by unfold drem; rw [if_neg hden]; exact ⟨_, rfl⟩
   obtain ⟨z, hz⟩ := hd
   unfold pieceOk
   rw [hz]
   by_cases h0 : (0 : Int) < ((i : Nat) : Int)
   · rw [iff_T h0, wsub_in (by omega)]
     have hq : f.ps[i - 1]? = some f.ps[i - 1] := List.getElem?_eq_getElem (by omega)
     have hg : geti f.ps (((i : Nat) : Int) - 1) = some f.ps[i - 1] := by
       unfold geti
       rw [show (((i : Nat) : Int) - 1).toNat = i - 1 by omega]
       simp only [hq]
       first | rfl | (rw [if_pos (by omega)])
     rw [hg, hq]
     simp only [Option.bind_some, k_rn, k_rq, k_qr, k_qn]
     congr 2
     apply propext
     simp only [Option.some.injEq, forall_eq']
     grind
   · rw [iff_F h0]
     simp only [Option.bind_some, k_rn, k_rq, k_qr, k_qn]
     congr 2
     apply propext
     simp only [Option.some.injEq]
     have : ¬ 0 < i := by omega
     grind), m_tf]
 refine smb ⟨fun h => ⟨hr, by omega, fun x hx => by cases hx; exact h3, h⟩, fun h => h.2.2.2⟩
def opP (s : ByteArray) : Prop := s = q2fS ∨ s = orS ∨ s = andS ∨ s = q3d3dS ∨ s = q213dS ∨ s = q3cS ∨ s = q3c3dS ∨ s = q2bS ∨ s = q2dS ∨ s = q2aS ∨ s = atS
def numK (k : Nd) : Prop := k.kind = 11 ∧ k.unit = numberS ∧ ratioP k.n
def exQ (n : Nd) : Prop :=
 (n.kind = 11 ∧ unitP n.unit ∧ 0 ≤ n.n ∧ n.n ≤ 999999999999 ∧ (n.unit = truthS → n.n ≤ 1) ∧ n.kids.length = 0 ∧ bareP n ⟨0, ByteArray.empty, n.unit, n.n, 0, 0, 0, ⟨0, []⟩, [], 0⟩) ∨
 (n.kind = 12 ∧ nameP n.name ∧ n.kids.length = 0 ∧ bareP n ⟨0, n.name, ByteArray.empty, 0, 0, 0, 0, ⟨0, []⟩, [], 0⟩) ∨
 (n.kind = 13 ∧ ratioP n.n ∧ n.kids.length = 0 ∧ bareP n ⟨0, ByteArray.empty, ByteArray.empty, n.n, 0, 0, 0, ⟨0, []⟩, [], 0⟩) ∨
 (n.kind = 14 ∧ dwordP n.name ∧ n.kids.length = 0 ∧ bareP n ⟨0, n.name, ByteArray.empty, 0, 0, 0, 0, ⟨0, []⟩, [], 0⟩) ∨
 (n.kind = 15 ∧ n.kids.length = 1 ∧ bareP n ⟨0, ByteArray.empty, ByteArray.empty, 0, 0, 0, 0, ⟨0, []⟩, [], 0⟩) ∨
 (n.kind = 16 ∧ bareP n ⟨0, n.name, ByteArray.empty, 0, 0, 0, 0, ⟨0, []⟩, [], 0⟩ ∧ n.kids.length = 2 ∧ opP n.name ∧ (n.name = q2fS → ∀ k, n.kids[1]? = some k → numK k)) ∨
 (n.kind = 17 ∧ (n.name = leastS ∨ n.name = greatestS) ∧ bareP n ⟨0, n.name, ByteArray.empty, 0, 0, 0, 0, ⟨0, []⟩, [], 0⟩ ∧ 2 ≤ n.kids.length) ∨
 (n.kind = 18 ∧ bareP n ⟨0, ByteArray.empty, ByteArray.empty, 0, 0, 0, 0, n.tab, [], 0⟩ ∧ tabP n.tab ∧ n.kids.length = 1)
mutual
def exP : Nd → Prop
 | ⟨kind, name, unit, n, fr, to, known, tab, kids, att⟩ => exQ ⟨kind, name, unit, n, fr, to, known, tab, kids, att⟩ ∧ exsP kids
def exsP : List Nd → Prop
 | [] => True
 | k :: ks => exP k ∧ exsP ks
end
theorem exsP_iff {l : List Nd} : exsP l ↔ ∀ k ∈ l, exP k := by
 induction l with
 | nil => simp [exsP]
 | cons k l ih => simp [exsP, ih]
theorem exP_iff (n : Nd) : exP n ↔ exQ n ∧ ∀ k ∈ n.kids, exP k := by cases n; rw [exP, exsP_iff]
end Mo
end Go.Proofs.YtkfplcngmiljaaaGreatDoor
namespace Go.Proofs.YtkfplcngmiljaaaGreatDoor
open AI Go
namespace Mo
set_option maxRecDepth 100000
set_option maxHeartbeats 4000000
theorem out_step {r : Option (Bool × Int)} {P Q : Prop} {t u : Int} {f : Bool × Int → Option (Bool × Int)} (h : Out r P t) (hT : P → Out (f (true, t)) Q u) (hF : ∀ z, ¬ P → Out (f (false, z)) Q u) : Out (r.bind f) Q u := by
 obtain ⟨z, rfl, h2⟩ := h
 by_cases hp : P
 · rw [mb_true.2 hp, h2 hp]; exact hT hp
 · rw [mbNo hp]; exact hF z hp
theorem out_tt {Q : Prop} {t u : Int} (hq : Q) (h : t = u) : Out (some (true, t)) Q u := ⟨t, by rw [mb_true.2 hq], fun _ => h⟩
theorem out_last {r : Option (Bool × Int)} {P Q : Prop} {t u : Int} (h : Out r P t) (hp : P ↔ Q) (ht : P → t = u) : Out (r.bind fun (a, b) => some (a, b)) Q u :=
 out_step h (fun p => out_tt (hp.1 p) (ht p)) fun _ p => out_no fun q => p (hp.2 q)
section
variable {p q r : Prop} {z : Int}
theorem p_tf : iff_ p (some (mb q, z)) (some (false, z)) = some (mb (p ∧ q), z) := by
 by_cases h : p
 · rw [iff_T h]; congr 2; exact mb_congr ⟨fun a => ⟨h, a⟩, fun a => a.2⟩
 · rw [iff_F h, mbNo]; exact fun a => h a.1
theorem p_ft : iff_ p (some (false, z)) (some (mb q, z)) = some (mb (¬ p ∧ q), z) := by
 by_cases h : p
 · rw [iff_T h, mbNo]; exact fun a => a.1 h
 · rw [iff_F h]; congr 2; exact mb_congr ⟨fun a => ⟨h, a⟩, fun a => a.2⟩
theorem p_qq : iff_ p (some (mb q, z)) (some (mb r, z)) = some (mb ((p → q) ∧ (¬ p → r)), z) := by
 by_cases h : p
 · rw [iff_T h]; congr 2; exact mb_congr ⟨fun a => ⟨fun _ => a, fun b => absurd h b⟩, fun a => a.1 h⟩
 · rw [iff_F h]; congr 2; exact mb_congr ⟨fun a => ⟨fun b => absurd b h, fun _ => a⟩, fun a => a.2 h⟩
end
section
variable {n : Nd}
theorem ex11 (h : n.kind = 11) : exQ n ↔ unitP n.unit ∧ 0 ≤ n.n ∧ n.n ≤ 999999999999 ∧ (n.unit = truthS → n.n ≤ 1) ∧ n.kids.length = 0 ∧ bareP n ⟨0, ByteArray.empty, n.unit, n.n, 0, 0, 0, ⟨0, []⟩, [], 0⟩ := by unfold exQ; simp [h]
theorem ex12 (h : n.kind = 12) : exQ n ↔ nameP n.name ∧ n.kids.length = 0 ∧ bareP n ⟨0, n.name, ByteArray.empty, 0, 0, 0, 0, ⟨0, []⟩, [], 0⟩ := by unfold exQ; simp [h]
theorem ex13 (h : n.kind = 13) : exQ n ↔ ratioP n.n ∧ n.kids.length = 0 ∧ bareP n ⟨0, ByteArray.empty, ByteArray.empty, n.n, 0, 0, 0, ⟨0, []⟩, [], 0⟩ := by unfold exQ; simp [h]
theorem ex14 (h : n.kind = 14) : exQ n ↔ dwordP n.name ∧ n.kids.length = 0 ∧ bareP n ⟨0, n.name, ByteArray.empty, 0, 0, 0, 0, ⟨0, []⟩, [], 0⟩ := by unfold exQ; simp [h]
theorem ex15 (h : n.kind = 15) : exQ n ↔ n.kids.length = 1 ∧ bareP n ⟨0, ByteArray.empty, ByteArray.empty, 0, 0, 0, 0, ⟨0, []⟩, [], 0⟩ := by unfold exQ; simp [h]
theorem ex16 (h : n.kind = 16) : exQ n ↔ bareP n ⟨0, n.name, ByteArray.empty, 0, 0, 0, 0, ⟨0, []⟩, [], 0⟩ ∧ n.kids.length = 2 ∧ opP n.name ∧ (n.name = q2fS → ∀ k, n.kids[1]? = some k → numK k) := by unfold exQ; simp [h]
theorem ex17 (h : n.kind = 17) : exQ n ↔ (n.name = leastS ∨ n.name = greatestS) ∧ bareP n ⟨0, n.name, ByteArray.empty, 0, 0, 0, 0, ⟨0, []⟩, [], 0⟩ ∧ 2 ≤ n.kids.length := by unfold exQ; simp [h]
theorem ex18 (h : n.kind = 18) : exQ n ↔ bareP n ⟨0, ByteArray.empty, ByteArray.empty, 0, 0, 0, 0, n.tab, [], 0⟩ ∧ tabP n.tab ∧ n.kids.length = 1 := by unfold exQ; simp [h]
theorem ex_kind (h : exQ n) : n.kind = 11 ∨ n.kind = 12 ∨ n.kind = 13 ∨ n.kind = 14 ∨ n.kind = 15 ∨ n.kind = 16 ∨ n.kind = 17 ∨ n.kind = 18 := by
 unfold exQ at h
 rcases h with h | h | h | h | h | h | h | h
 all_goals
   have := h.1
   simp [this]
end
def kidsP (l : List Nd) (c d : Int) : Prop := (∀ k ∈ l, exP k ∧ d + dpN k ≤ 41) ∧ c + szL l ≤ 2000
theorem kids0 {l : List Nd} {c d : Int} (h : l.length = 0) (hc : c ≤ 2000) : kidsP l c d ∧ c = c + szL l := by
 obtain rfl := List.eq_nil_of_length_eq_zero h
 exact ⟨⟨(fun k hk => (by cases hk)), (by simp only [szL]; omega)⟩, (by simp [szL])⟩
theorem kids1 {x : Nd} {c d : Int} : kidsP [x] c d ↔ exP x ∧ c + szN x ≤ 2000 ∧ d + dpN x ≤ 41 := by
 unfold kidsP
 simp only [List.mem_singleton, forall_eq, szL, Nat.add_zero]
 exact ⟨fun a => ⟨a.1.1, a.2, a.1.2⟩, fun a => ⟨⟨a.1, a.2.2⟩, a.2.1⟩⟩
theorem kids2 {x y : Nd} {c d : Int} : kidsP [x, y] c d ↔ (exP x ∧ c + szN x ≤ 2000 ∧ d + dpN x ≤ 41) ∧ exP y ∧ c + szN x + szN y ≤ 2000 ∧ d + dpN y ≤ 41 := by
 unfold kidsP
 simp only [List.mem_cons, List.not_mem_nil, or_false, forall_eq_or_imp, forall_eq, szL, Nat.add_zero, Int.natCast_add]
 constructor
 · rintro ⟨⟨⟨a, b⟩, c', d'⟩, e⟩; exact ⟨⟨a, by omega, b⟩, c', by omega, d'⟩
 · rintro ⟨⟨a, b, c'⟩, d', e, f⟩; exact ⟨⟨⟨a, c'⟩, d', f⟩, by omega⟩
abbrev ExS (g : Ck → Nd → Int → Option (Bool × Int)) (n : Nd) : Prop := ∀ (c d : Int), 0 ≤ c → c ≤ 2000 → 0 ≤ d → d ≤ 41 → Out (g ⟨c⟩ n d) (exP n ∧ c + szN n ≤ 2000 ∧ d + dpN n ≤ 41) (c + szN n)
theorem number_of {g : Ck → Nd → Int → Option (Bool × Int)} {b a : Ck → Nd → Int → Option (Bool × Int)} {l : Ck → List Nd → Int → Option (Bool × Int)} {n : Nd} (h : ExS g n) {c d : Int} (h0 : 0 ≤ c) (h1 : c ≤ 2000) (h2 : 0 ≤ d) (h3 : d ≤ 41) :
   Out (parser_checker_number_B g b a l ⟨c⟩ n d) ((exP n ∧ numK n) ∧ c + szN n ≤ 2000 ∧ d + dpN n ≤ 41) (c + szN n) := by
 rw [parser_checker_number_B]
 simp only [eqI_mb, eqB_mb, c_mb, pratio_s, Option.bind_some]
 refine out_step (h c d h0 h1 h2 h3) (fun hp => ?_) fun z hp => out_no fun q => hp ⟨q.1.1, q.2⟩
 show Out (iff_ (n.kind = 11) (iff_ (n.unit = numberS) (some (mb (ratioP n.n), c + szN n)) (some (false, c + szN n))) (some (false, c + szN n))) _ _
 rw [p_tf, p_tf]
 exact out_yes ⟨fun a => ⟨⟨hp.1, a⟩, hp.2⟩, fun a => a.1.2⟩
theorem binary_of {g n' : Ck → Nd → Int → Option (Bool × Int)} {b : Ck → Nd → Int → Option (Bool × Int)} {l : Ck → List Nd → Int → Option (Bool × Int)} {n : Nd} (hg : ∀ k ∈ n.kids, ExS g k)
   (hn : ∀ k ∈ n.kids, ∀ c d : Int, 0 ≤ c → c ≤ 2000 → 0 ≤ d → d ≤ 41 → Out (n' ⟨c⟩ k d) ((exP k ∧ numK k) ∧ c + szN k ≤ 2000 ∧ d + dpN k ≤ 41) (c + szN k)) {c d : Int} (h0 : 0 ≤ c) (h1 : c ≤ 2000) (h2 : 0 ≤ d) (h3 : d ≤ 40) :
   Out (parser_checker_binary_B g b n' l ⟨c⟩ n d) ((n.kids.length = 2 ∧ opP n.name ∧ (n.name = q2fS → ∀ k, n.kids[1]? = some k → numK k)) ∧ kidsP n.kids c (d + 1)) (c + szL n.kids) := by
 rw [parser_checker_binary_B, wadd_in (by omega)]
 simp only [eqI_mb, eqB_mb, c_mb]
 generalize hl : n.kids = ks at *
 by_cases hlen : ((ks.length : Nat) : Int) = 2
 rotate_left
 · rw [iff_F hlen]; exact out_no fun q => hlen (by have := q.1.1; omega)
 rw [iff_T hlen]
 match ks, hlen with
 | [x, y], _ =>
 simp only [List.getElem?_cons_zero, List.getElem?_cons_succ, Option.bind_some]
 refine out_step (hg x (by simp) c (d + 1) h0 h1 (by omega) (by omega)) (fun hx => ?_) fun z hx => out_no fun q => hx (kids2.1 q.2).1
 dsimp only
 rw [cond_true]
 have hsz : szL [x, y] = szN x + szN y := by simp [szL]
 have hy := fun hc => hg y (by simp) (c + szN x) (d + 1) (by omega) hc (by omega) (by omega)
 have hn' := fun hc => hn y (by simp) (c + szN x) (d + 1) (by omega) hc (by omega) (by omega)
 have hy := hy hx.2.1
 have hn' := hn' hx.2.1
 by_cases hs : n.name = q2fS
 · rw [iff_T hs]
   refine out_last hn' ⟨fun a => ⟨⟨rfl, .inl hs, fun _ k hk => by cases hk; exact a.1.2⟩, kids2.2 ⟨hx, a.1.1, a.2⟩⟩, fun a => ?_⟩ (fun a => by rw [hsz]; omega)
   have := (kids2.1 a.2).2
   exact ⟨⟨this.1, a.1.2.2 hs y rfl⟩, this.2⟩
 · rw [iff_F hs]
   have fin : ∀ hop : opP n.name, Out ((g ⟨c + szN x⟩ y (d + 1)).bind fun (a, b) => some (a, b)) ((([x, y] : List Nd).length = 2 ∧ opP n.name ∧ (n.name = q2fS → ∀ k, some y = some k → numK k)) ∧ kidsP [x, y] c (d + 1)) (c + szL [x, y]) := fun hop =>
     out_last hy ⟨fun a => ⟨⟨rfl, hop, fun e => absurd e hs⟩, kids2.2 ⟨hx, a⟩⟩, fun a => (kids2.1 a.2).2⟩ (fun a => by rw [hsz]; omega)
   have step : ∀ {s : ByteArray} {A : Option (Bool × Int)}, (n.name = s → opP n.name) → (n.name ≠ s → Out A ((([x, y] : List Nd).length = 2 ∧ opP n.name ∧ (n.name = q2fS → ∀ k, some y = some k → numK k)) ∧ kidsP [x, y] c (d + 1)) (c + szL [x, y])) →
       Out (iff_ (n.name = s) ((g ⟨c + szN x⟩ y (d + 1)).bind fun (a, b) => some (a, b)) A) ((([x, y] : List Nd).length = 2 ∧ opP n.name ∧ (n.name = q2fS → ∀ k, some y = some k → numK k)) ∧ kidsP [x, y] c (d + 1)) (c + szL [x, y]) := by
     intro s A h4 h5
     by_cases h : n.name = s
     · rw [iff_T h]; exact fin (h4 h)
     · rw [iff_F h]; exact h5 h
   refine step (fun e => by unfold opP; simp [e]) fun e1 => ?_
   refine step (fun e => by unfold opP; simp [e]) fun e2 => ?_
   refine step (fun e => by unfold opP; simp [e]) fun e3 => ?_
   refine step (fun e => by unfold opP; simp [e]) fun e4 => ?_
   refine step (fun e => by unfold opP; simp [e]) fun e5 => ?_
   refine step (fun e => by unfold opP; simp [e]) fun e6 => ?_
   refine step (fun e => by unfold opP; simp [e]) fun e7 => ?_
   refine step (fun e => by unfold opP; simp [e]) fun e8 => ?_
   refine step (fun e => by unfold opP; simp [e]) fun e9 => ?_
   refine step (fun e => by unfold opP; simp [e]) fun e10 => ?_
   exact out_no fun q => by
     have := q.1.2.1
     unfold opP at this
     simp [hs, e1, e2, e3, e4, e5, e6, e7, e8, e9, e10] at this
theorem leaf11 {A L B T : Prop} {x : Int} : (A ∧ ¬ x < 0 ∧ ¬ 999999999999 < x ∧ (T → ¬ 1 < x ∧ L ∧ B) ∧ (¬ T → L ∧ B)) ↔ A ∧ 0 ≤ x ∧ x ≤ 999999999999 ∧ (T → x ≤ 1) ∧ L ∧ B := by
 constructor
 · rintro ⟨a, b, c, d, e⟩
   by_cases t : T
   · exact ⟨a, by omega, by omega, fun _ => by have := (d t).1; omega, (d t).2⟩
   · exact ⟨a, by omega, by omega, fun h => absurd h t, e t⟩
 · rintro ⟨a, b, c, d, e⟩
   exact ⟨a, by omega, by omega, fun t => ⟨by have := d t; omega, e⟩, fun _ => e⟩
theorem expr_m : ∀ (q : Nat) (n : Nd), okNd n → 3 * szN n ≤ q → ExS (parser_checker_expr_M q) n := by
 intro q
 induction q using Nat.strongRecOn with
 | _ q ih =>
 intro n hok hq c d h0 h1 h2 h3
 have hsz := szN_eq n
 obtain ⟨q, rfl⟩ : ∃ k, q = k + 1 := ⟨q - 1, by omega⟩
 obtain ⟨hps, hkl, hks⟩ := okNd_l hok
 have hE : ∀ k ∈ n.kids, ∀ q', q ≤ q' + 2 → q' < q + 1 → ExS (parser_checker_expr_M q') k := fun k hk q' h4 h5 => ih q' h5 k (hks k hk) (by have := szL_mem hk; omega)
 rw [parser_checker_expr_M, parser_checker_expr_B]
 refine out_step (node_s n h0 h1) (fun hp => ?_) fun z hp => out_no fun a => hp ⟨by omega, by have := dpN_eq n; omega⟩
 dsimp only
 rw [cond_true]
 refine Out.congr (P := exQ n ∧ kidsP n.kids (c + 1) (d + 1)) (t := (c + 1) + szL n.kids) ?_ ?_ (fun _ => by omega)
 rotate_left
 · rw [exP_iff, dpN_eq]
   unfold kidsP
   have hd := @dpL_le n.kids
   constructor
   · rintro ⟨a, b, e⟩
     refine ⟨⟨a, fun k hk => (b k hk).1⟩, by omega, ?_⟩
     have := (hd (m := (40 - d).toNat)).2 fun k hk => by have := (b k hk).2; omega
     omega
   · rintro ⟨⟨a, b⟩, e, f⟩
     refine ⟨a, fun k hk => ⟨b k hk, ?_⟩, by omega⟩
     have := (hd (m := dpL n.kids)).1 (Nat.le_refl _) k hk
     omega
 have hc1 := hp.1
 have hd1 := hp.2
 rw [wadd_in (a := d) (b := 1) (by omega)]
 have e0 : (((n.kids.length : Nat) : Int) = 0) = (n.kids.length = 0) := propext (by omega)
 simp only [eqI_mb, leI_mb, ltI_mb, eqB_mb, c_mb, punit_s, gname_s, pratio_s, pdword_s, tab_s _ hps, bare_s _ _ hps, Option.bind_some, e0]
 have hleaf : ∀ {B : Prop}, (B ↔ exQ n) → (B → n.kids.length = 0) → Out (some (mb B, c + 1)) (exQ n ∧ kidsP n.kids (c + 1) (d + 1)) (c + 1 + szL n.kids) := fun hB hk => (out_yes hB).congr ⟨fun a => ⟨a, (kids0 (hk (hB.2 a)) hc1).1⟩, fun a => a.1⟩ fun a => (kids0 (d := d + 1) (hk (hB.2 a.1)) hc1).2
 have hone : ∀ {B : Prop}, (exQ n ↔ B ∧ n.kids.length = 1) → B → n.kids.length = 1 → Out ((n.kids[0]?).bind fun x => (parser_checker_expr_M q ⟨c + 1⟩ x (d + 1)).bind fun (a, b) => some (a, b)) (exQ n ∧ kidsP n.kids (c + 1) (d + 1)) (c + 1 + szL n.kids) := by
   intro B hB hb hl
   have hE0 := fun k hk => hE k hk q (by omega) (by omega)
   have hx := hB.2 ⟨hb, hl⟩
   generalize n.kids = ks at *
   match ks, hl with
   | [x], _ =>
   simp only [List.getElem?_cons_zero, Option.bind_some]
   refine out_last (hE0 x (by simp) (c + 1) (d + 1) (by omega) hc1 (by omega) (by omega)) ⟨fun a => ⟨hx, kids1.2 a⟩, fun a => kids1.1 a.2⟩ fun _ => ?_
   simp [szL]
 by_cases k11 : n.kind = 11
 · rw [iff_T k11]
   simp only [p_tf, p_ft, p_qq]
   refine hleaf ?_ ?_
   · rw [ex11 k11]; exact leaf11
   · intro h; exact (leaf11.1 h).2.2.2.2.1
 rw [iff_F k11]
 by_cases k12 : n.kind = 12
 · rw [iff_T k12]
   simp only [p_tf, p_ft, p_qq]
   refine hleaf ?_ ?_
   · rw [ex12 k12]
   · intro h; exact h.2.1
 rw [iff_F k12]
 by_cases k13 : n.kind = 13
 · rw [iff_T k13]
   simp only [p_tf, p_ft, p_qq]
   refine hleaf ?_ ?_
   · rw [ex13 k13]
   · intro h; exact h.2.1
 rw [iff_F k13]
 by_cases k14 : n.kind = 14
 · rw [iff_T k14]
   simp only [p_tf, p_ft, p_qq]
   refine hleaf ?_ ?_
   · rw [ex14 k14]
   · intro h; exact h.2.1
 rw [iff_F k14]
 by_cases k15 : n.kind = 15
 · rw [iff_T k15]
   have e := ex15 k15
   refine out_iff (fun hl => out_iff (fun hb => hone (e.trans And.comm) hb (by omega)) fun a => (e.1 a.1).2) fun a => ?_
   have := (e.1 a.1).1
   omega
 rw [iff_F k15]
 by_cases k16 : n.kind = 16
 · rw [iff_T k16]
   have e := ex16 k16
   refine out_iff (fun hb => ?_) fun a => (e.1 a.1).1
   obtain ⟨q, rfl⟩ : ∃ k, q = k + 1 := ⟨q - 1, by omega⟩
   rw [parser_checker_binary_M]
   refine out_last (binary_of (g := parser_checker_expr_M q) (b := parser_checker_binary_M q) (n' := parser_checker_number_M q) (l := parser_checker_all_expr_M q) (fun k hk => hE k hk q (by omega) (by omega)) (fun k hk c d a1 a2 a3 a4 => ?_) (by omega) hc1 h2 hd1) ?_ fun _ => rfl
   · obtain ⟨q, rfl⟩ : ∃ k, q = k + 1 := ⟨q - 1, by have := szN_kid hk; have := szN_eq k; omega⟩
     rw [parser_checker_number_M]
     exact number_of (hE k hk q (by omega) (by omega)) a1 a2 a3 a4
   · rw [e]
     exact ⟨fun a => ⟨⟨hb, a.1⟩, a.2⟩, fun a => ⟨a.1.2, a.2⟩⟩
 rw [iff_F k16]
 by_cases k17 : n.kind = 17
 · rw [iff_T k17]
   have e := ex17 k17
   have hall : (n.name = leastS ∨ n.name = greatestS) → Out (iff_ (bareP n ⟨0, n.name, ByteArray.empty, 0, 0, 0, 0, ⟨0, []⟩, [], 0⟩) (iff_ (2 ≤ ((n.kids.length : Nat) : Int)) ((parser_checker_all_expr_M q ⟨c + 1⟩ n.kids (d + 1)).bind fun (a, b) => some (a, b)) (some (false, c + 1))) (some (false, c + 1))) (exQ n ∧ kidsP n.kids (c + 1) (d + 1)) (c + 1 + szL n.kids) := by
     intro hn
     refine out_iff (fun hb => out_iff (fun hl => ?_) fun a => ?_) fun a => (e.1 a.1).2.1
     · obtain ⟨q, rfl⟩ : ∃ k, q = k + 1 := ⟨q - 1, by have := szL_len n.kids; omega⟩
       rw [parser_checker_all_expr_M, parser_checker_all_expr_B, lim_of hkl, List.drop_zero]
       dsimp only
       refine out_last (all_fold (g := parser_checker_expr_M q) (p := exP) (d := d + 1) (by omega) hc1 fun k hk c' b0 b1 => hE k hk q (by omega) (by omega) c' (d + 1) b0 b1 (by omega) (by omega)) ?_ fun _ => rfl
       rw [e]
       exact ⟨fun a => ⟨⟨hn, hb, by omega⟩, a⟩, fun a => a.2⟩
     · have := (e.1 a.1).2.2
       omega
   by_cases hn1 : n.name = leastS
   · rw [iff_T hn1]; exact hall (.inl hn1)
   · rw [iff_F hn1]
     exact out_iff (fun hn2 => hall (.inr hn2)) fun a => (e.1 a.1).1.resolve_left hn1
 rw [iff_F k17]
 by_cases k18 : n.kind = 18
 · rw [iff_T k18]
   have e := ex18 k18
   refine out_iff (fun hb => out_iff (fun ht => out_iff (fun hl => hone (B := bareP n ⟨0, ByteArray.empty, ByteArray.empty, 0, 0, 0, 0, n.tab, [], 0⟩ ∧ tabP n.tab) (e.trans (by rw [and_assoc])) ⟨hb, ht⟩ (by omega)) fun a => ?_) fun a => (e.1 a.1).2.1) fun a => (e.1 a.1).1
   have := (e.1 a.1).2.2
   omega
 rw [iff_F k18]
 exact out_no fun a => by have := ex_kind a.1; omega
def Le {β : Type} (a b : Option β) : Prop := ∀ y, a = some y → b = some y
section
variable {α β γ δ ρ : Type}
theorem Le.refl (a : Option β) : Le a a := fun _ h => h
theorem le_bind {a a' : Option α} {f g : α → Option β} (h : Le a a') (k : ∀ x, Le (f x) (g x)) : Le (a.bind f) (a'.bind g) := by
 intro y hy
 cases a with
 | none => cases hy
 | some x => rw [h x rfl]; exact k x y hy
theorem le_cond {b : Bool} {x x' y y' : Option β} (h : Le x x') (k : Le y y') : Le (cond b x y) (cond b x' y') := by cases b; exact k; exact h
theorem le_lim {n : Nat} {x x' : Option β} (h : Le x x') : Le (lim n x) (lim n x') := by
 unfold lim
 split
 · exact h
 · exact Le.refl _
theorem le_fold {body body' : Nat → α → γ → Option (Lp γ δ ρ)} {done : γ → δ} (h : ∀ i y x, Le (body i y x) (body' i y x)) : ∀ (l : List α) (i : Nat) (x : γ), Le (foldL body done l i x) (foldL body' done l i x)
 | [], _, _ => Le.refl _
 | a :: l, i, x => by
   rw [foldL, foldL]
   refine le_bind (h i a x) fun z => ?_
   cases z with
   | nx x' => exact le_fold h l (i + 1) x'
   | ex d => exact Le.refl _
   | rt v => exact Le.refl _
end
theorem expr_up : ∀ q : Nat, (∀ c n d, Le (parser_checker_expr_M q c n d) (parser_checker_expr_M (q + 1) c n d)) ∧ (∀ c n d, Le (parser_checker_binary_M q c n d) (parser_checker_binary_M (q + 1) c n d)) ∧ (∀ c n d, Le (parser_checker_number_M q c n d) (parser_checker_number_M (q + 1) c n d)) ∧ (∀ c n d, Le (parser_checker_all_expr_M q c n d) (parser_checker_all_expr_M (q + 1) c n d))
 | 0 => ⟨(fun _ _ _ _ h => nomatch h), (fun _ _ _ _ h => nomatch h), (fun _ _ _ _ h => nomatch h), (fun _ _ _ _ h => nomatch h)⟩
 | q + 1 => by
   obtain ⟨i1, i2, i3, i4⟩ := expr_up q
   refine ⟨fun c n d => ?_, fun c n d => ?_, fun c n d => ?_, fun c n d => ?_⟩
   · rw [parser_checker_expr_M, parser_checker_expr_M, parser_checker_expr_B, parser_checker_expr_B]
     repeat' first
       | exact Le.refl _
       | exact i1 _ _ _
       | exact i2 _ _ _
       | exact i4 _ _ _
       | refine le_cond ?_ ?_
       | refine le_bind ?_ fun ⟨_, _⟩ => ?_
       | refine le_bind ?_ fun _ => ?_
   · rw [parser_checker_binary_M, parser_checker_binary_M, parser_checker_binary_B, parser_checker_binary_B]
     repeat' first
       | exact Le.refl _
       | exact i1 _ _ _
       | exact i3 _ _ _
       | refine le_cond ?_ ?_
       | refine le_bind ?_ fun ⟨_, _⟩ => ?_
       | refine le_bind ?_ fun _ => ?_
   · rw [parser_checker_number_M, parser_checker_number_M, parser_checker_number_B, parser_checker_number_B]
     exact le_bind (i1 _ _ _) fun _ => Le.refl _
   · rw [parser_checker_all_expr_M, parser_checker_all_expr_M, parser_checker_all_expr_B, parser_checker_all_expr_B]
     refine le_bind (le_lim (le_fold (fun i y x => ?_) _ _ _)) fun _ => Le.refl _
     rw [parser_checker_all_expr_L1, parser_checker_all_expr_L1]
     exact le_bind (i1 _ _ _) fun _ => Le.refl _
theorem evt_up {β : Type} {f : Nat → Option β} (h : ∀ q, Le (f q) (f (q + 1))) {q : Nat} {y : β} (hy : f q = some y) : evt f = some y := by
 refine evt_of q fun m hm => ?_
 induction m with
 | zero => obtain rfl : q = 0 := by omega
           exact hy
 | succ m ih =>
   rcases Nat.lt_or_ge m q with hlt | hge
   · obtain rfl : q = m + 1 := by omega
     exact hy
   · exact h m y (ih hge)
theorem expr_s {n : Nd} (hok : okNd n) : ExS parser_checker_expr_R n := by
 intro c d h0 h1 h2 h3
 obtain ⟨z, hz, hz2⟩ := expr_m (3 * szN n) n hok (Nat.le_refl _) c d h0 h1 h2 h3
 exact ⟨z, evt_up (fun q => (expr_up q).1 _ _ _) hz, hz2⟩
theorem number_s {n : Nd} (hok : okNd n) {c d : Int} (h0 : 0 ≤ c) (h1 : c ≤ 2000) (h2 : 0 ≤ d) (h3 : d ≤ 41) : Out (parser_checker_number_R ⟨c⟩ n d) ((exP n ∧ numK n) ∧ c + szN n ≤ 2000 ∧ d + dpN n ≤ 41) (c + szN n) := by
 obtain ⟨z, hz, hz2⟩ := number_of (g := parser_checker_expr_M (3 * szN n)) (b := parser_checker_binary_M (3 * szN n)) (a := parser_checker_number_M (3 * szN n)) (l := parser_checker_all_expr_M (3 * szN n)) (expr_m (3 * szN n) n hok (Nat.le_refl _)) h0 h1 h2 h3
 exact ⟨z, evt_up (q := 3 * szN n + 1) (fun q => (expr_up q).2.2.1 _ _ _) (by rw [parser_checker_number_M]; exact hz), hz2⟩
end Mo
end Go.Proofs.YtkfplcngmiljaaaGreatDoor
namespace Go.Proofs.YtkfplcngmiljaaaGreatDoor
open AI Go
namespace Mo
set_option maxRecDepth 100000
set_option maxHeartbeats 4000000
abbrev z0 : Nd := ⟨0, ByteArray.empty, ByteArray.empty, 0, 0, 0, 0, ⟨0, []⟩, [], 0⟩
theorem pday_s (n : Int) : parser_goodDay_B n = some (mb (dayP n)) := by
 rw [parser_goodDay_B]
 simp only [leI_mb, c_mb, m_tf, m_qf]
 rfl
def headP (n : Nd) : Prop := n.kind = 5 ∧ (0 ≤ n.n ∧ n.n ≤ 1000000) ∧ n.kids.length = 0 ∧ dayP n.fr ∧ (n.fr < n.to ∧ n.to ≤ 36525) ∧ dayP n.known ∧ bareP n ⟨0, ByteArray.empty, ByteArray.empty, n.n, n.fr, n.to, n.known, ⟨0, []⟩, [], 0⟩
def clauseP (n : Nd) : Prop := bareP n z0 ∧ (n.kind = 7 → 0 < n.kids.length ∧ ∀ k ∈ n.kids, exP k ∧ numK k) ∧ (n.kind ≠ 7 → n.kids.length = 1 ∧ ∀ k ∈ n.kids, exP k)
theorem leafN {n : Nd} (h : n.kids.length = 0) : szN n = 1 ∧ dpN n = 1 := by
 have := List.eq_nil_of_length_eq_zero h
 rw [szN_eq, dpN_eq, this]
 exact ⟨rfl, rfl⟩
theorem head_s {n : Nd} (hok : okNd n) {c d : Int} (h0 : 0 ≤ c) (h1 : c ≤ 2000) : Out (parser_checker_head_B ⟨c⟩ n d) (headP n ∧ c + szN n ≤ 2000 ∧ d + dpN n ≤ 41) (c + szN n) := by
 obtain ⟨hps, hkl, hks⟩ := okNd_l hok
 have hsz := szN_eq n
 have hdp := dpN_eq n
 rw [parser_checker_head_B]
 refine out_step (node_s n h0 h1) (fun hp => ?_) fun z hp => out_no fun a => hp ⟨by omega, by omega⟩
 dsimp only
 rw [cond_true]
 simp only [eqI_mb, leI_mb, ltI_mb, c_mb, pday_s, bare_s _ _ hps, Option.bind_some, p_tf, p_ft]
 have key : (n.kind = 5 ∧ ¬ n.n < 0 ∧ ¬ 1000000 < n.n ∧ ¬ (0 : Int) < ((n.kids.length : Nat) : Int) ∧ dayP n.fr ∧ ¬ n.to ≤ n.fr ∧ ¬ 36525 < n.to ∧ dayP n.known ∧ bareP n ⟨0, ByteArray.empty, ByteArray.empty, n.n, n.fr, n.to, n.known, ⟨0, []⟩, [], 0⟩) ↔ headP n := by
   unfold headP
   constructor
   · rintro ⟨a, b, c', e, f, g, h, i, j⟩; exact ⟨a, ⟨by omega, by omega⟩, by omega, f, ⟨by omega, by omega⟩, i, j⟩
   · rintro ⟨a, b, c', f, g, i, j⟩; exact ⟨a, by omega, by omega, by omega, f, by omega, by omega, i, j⟩
 refine (out_yes key).congr ⟨fun a => ⟨a, ?_⟩, fun a => a.1⟩ fun a => ?_
 · have := leafN a.2.2.1; omega
 · have := leafN a.1.2.2.1; omega
theorem clause_s {n : Nd} (hok : okNd n) {c d : Int} (h0 : 0 ≤ c) (h1 : c ≤ 2000) (h2 : 0 ≤ d) : Out (parser_checker_clause_B ⟨c⟩ n d) (clauseP n ∧ c + szN n ≤ 2000 ∧ d + dpN n ≤ 41) (c + szN n) := by
 obtain ⟨hps, hkl, hks⟩ := okNd_l hok
 have hsz := szN_eq n
 have hdp := dpN_eq n
 have hd := @dpL_le n.kids
 rw [parser_checker_clause_B]
 refine out_step (node_s n h0 h1) (fun hp => ?_) fun z hp => out_no fun a => hp ⟨by omega, by omega⟩
 dsimp only
 rw [cond_true, wadd_in (a := d) (b := 1) (by omega)]
 simp only [eqI_mb, ltI_mb, c_mb, bare_s _ _ hps, Option.bind_some]
 have hc1 := hp.1
 have hd1 := hp.2
 have dep : (∀ k ∈ n.kids, d + 1 + dpN k ≤ 41) ↔ d + dpN n ≤ 41 := by
   constructor
   · intro h
     have := (hd (m := (40 - d).toNat)).2 fun k hk => by have := h k hk; omega
     omega
   · intro h k hk
     have := (hd (m := dpL n.kids)).1 (Nat.le_refl _) k hk
     omega
 refine out_iff (fun hb => ?_) fun a => a.1.1
 by_cases k7 : n.kind = 7
 · rw [iff_T k7]
   refine out_iff (fun hl => ?_) fun a => by have := (a.1.2.1 k7).1; omega
   rw [parser_checker_all_number_B, lim_of hkl, List.drop_zero]
   dsimp only
   refine out_last (all_fold (g := parser_checker_number_R) (p := fun k => exP k ∧ numK k) (d := d + 1) (by omega) hc1 fun k hk c' b0 b1 => number_s (hks k hk) b0 b1 (by omega) (by omega)) ⟨fun a => ⟨⟨hb, fun _ => ⟨by omega, fun k hk => (a.1 k hk).1⟩, fun h => absurd k7 h⟩, by omega, dep.1 fun k hk => (a.1 k hk).2⟩, fun a => ⟨fun k hk => ⟨(a.1.2.1 k7).2 k hk, dep.2 a.2.2 k hk⟩, by omega⟩⟩ fun _ => by omega
 · rw [iff_F k7]
   refine out_iff (fun hl => ?_) fun a => by have := (a.1.2.2 k7).1; omega
   have hl1 : n.kids.length = 1 := by omega
   unfold clauseP
   generalize n.kids = ks at *
   match ks, hl1 with
   | [x], _ =>
   simp only [List.getElem?_cons_zero, Option.bind_some]
   have e1 : szL [x] = szN x := by simp [szL]
   refine out_last (expr_s (hks x (by simp)) (c + 1) (d + 1) (by omega) hc1 (by omega) (by omega)) ⟨fun a => ⟨⟨hb, fun h => absurd h k7, fun _ => ⟨rfl, fun k hk => by rw [List.mem_singleton.1 hk]; exact a.1⟩⟩, by omega, dep.1 fun k hk => by rw [List.mem_singleton.1 hk]; exact a.2.2⟩, fun a => ⟨(a.1.2.2 k7).2 x (by simp), by omega, dep.2 a.2.2 x (by simp)⟩⟩ fun _ => by omega
def cntK (k : Int) : List Nd → Nat
 | [] => 0
 | a :: l => (if a.kind = k then 1 else 0) + cntK k l
theorem cntK_le (k : Int) (l : List Nd) : cntK k l ≤ l.length := by
 induction l with
 | nil => simp [cntK]
 | cons a l ih => simp only [cntK, List.length_cons]; split <;> omega
def kinds (l : List Nd) : Prop := ∀ k ∈ l, 6 ≤ k.kind ∧ k.kind ≤ 8
theorem kinds_fold {y : Int} : ∀ {l : List Nd} {i : Nat} {a b c : Int}, 0 ≤ a → 0 ≤ b → 0 ≤ c → a + l.length ≤ 9223372036854775807 → b + l.length ≤ 9223372036854775807 → c + l.length ≤ 9223372036854775807 →
   foldL (fun i z x => parser_checker_item_L1 y i z x.1 x.2.1 x.2.2) (fun x => (x.1, x.2.1, x.2.2)) l i (a, b, c) = some (iff_ (kinds l) (.inl (a + cntK 6 l, b + cntK 7 l, c + cntK 8 l)) (.inr (false, y)))
 | [], i, a, b, c, _, _, _, _, _, _ => by rw [iff_T (show kinds [] from fun k hk => (by cases hk))]; simp [foldL, cntK]
 | z :: l, i, a, b, c, h1, h2, h3, h4, h5, h6 => by
   simp only [List.length_cons] at h4 h5 h6
   rw [foldL, parser_checker_item_L1]
   simp only [ltI_mb, eqI_mb, c_mb]
   have hk : kinds (z :: l) ↔ (6 ≤ z.kind ∧ z.kind ≤ 8) ∧ kinds l := by unfold kinds; simp
   have go : ∀ {a' b' c' : Int}, 0 ≤ a' → 0 ≤ b' → 0 ≤ c' → a' ≤ a + 1 → b' ≤ b + 1 → c' ≤ c + 1 → 6 ≤ z.kind ∧ z.kind ≤ 8 → a' + cntK 6 l = a + cntK 6 (z :: l) → b' + cntK 7 l = b + cntK 7 (z :: l) → c' + cntK 8 l = c + cntK 8 (z :: l) →
       (some (Lp.nx (a', b', c'))).bind (foldK (foldL (fun i z x => parser_checker_item_L1 y i z x.1 x.2.1 x.2.2) (fun x => (x.1, x.2.1, x.2.2)) l (i + 1))) = some (iff_ (kinds (z :: l)) (.inl (a + cntK 6 (z :: l), b + cntK 7 (z :: l), c + cntK 8 (z :: l))) (.inr (false, y))) := by
     intro a' b' c' g1 g2 g3 g4 g5 g6 gk e1 e2 e3
     show foldL _ _ l (i + 1) (a', b', c') = _
     rw [kinds_fold g1 g2 g3 (by omega) (by omega) (by omega), e1, e2, e3]
     by_cases hl : kinds l
     · rw [iff_T hl, iff_T (hk.2 ⟨gk, hl⟩)]
     · rw [iff_F hl, iff_F fun q => hl (hk.1 q).2]
   by_cases k6 : z.kind < 6
   · rw [iff_T k6, iff_F fun q => by have := (hk.1 q).1; omega]; rfl
   rw [iff_F k6]
   by_cases k8 : 8 < z.kind
   · rw [iff_T k8, iff_F fun q => by have := (hk.1 q).1; omega]; rfl
   rw [iff_F k8]
   by_cases e6 : z.kind = 6
   · rw [iff_T e6, wadd_in (by omega)]
     exact go (by omega) h2 h3 (by omega) (by omega) (by omega) (by omega) (by simp [cntK, e6]; omega) (by simp [cntK, e6]) (by simp [cntK, e6])
   rw [iff_F e6]
   by_cases e7 : z.kind = 7
   · rw [iff_T e7, wadd_in (by omega)]
     exact go h1 (by omega) h3 (by omega) (by omega) (by omega) (by omega) (by simp [cntK, e7]) (by simp [cntK, e7]; omega) (by simp [cntK, e7])
   rw [iff_F e7]
   have e8 : z.kind = 8 := by omega
   rw [iff_T e8, wadd_in (by omega)]
   exact go h1 h2 (by omega) (by omega) (by omega) (by omega) (by omega) (by simp [cntK, e8]) (by simp [cntK, e8]) (by simp [cntK, e8]; omega)
def artP (n : Nd) : Prop := ratioP n.n ∧ nameP n.name ∧ bareP n ⟨0, n.name, ByteArray.empty, n.n, 0, 0, 0, ⟨0, []⟩, [], 0⟩ ∧ ∃ h cs, n.kids = h :: cs ∧ kinds cs ∧ cntK 8 cs = 1 ∧ cntK 7 cs ≤ 1 ∧ headP h ∧ ∀ k ∈ cs, clauseP k
def itemP (n : Nd) : Prop :=
 (n.kind = 2 ∧ nameP n.name ∧ unitP n.unit ∧ n.kids.length = 0 ∧ bareP n ⟨0, n.name, n.unit, 0, 0, 0, 0, ⟨0, []⟩, [], 0⟩) ∨
 (n.kind = 3 ∧ nameP n.name ∧ unitP n.unit ∧ 1 ≤ n.n ∧ n.n ≤ 4 ∧ n.kids.length = 0 ∧ bareP n ⟨0, n.name, n.unit, n.n, 0, 0, 0, ⟨0, []⟩, [], 0⟩) ∨
 (n.kind = 4 ∧ artP n)
theorem it2 {n : Nd} (h : n.kind = 2) : itemP n ↔ nameP n.name ∧ unitP n.unit ∧ n.kids.length = 0 ∧ bareP n ⟨0, n.name, n.unit, 0, 0, 0, 0, ⟨0, []⟩, [], 0⟩ := by unfold itemP; simp [h]
theorem it3 {n : Nd} (h : n.kind = 3) : itemP n ↔ nameP n.name ∧ unitP n.unit ∧ 1 ≤ n.n ∧ n.n ≤ 4 ∧ n.kids.length = 0 ∧ bareP n ⟨0, n.name, n.unit, n.n, 0, 0, 0, ⟨0, []⟩, [], 0⟩ := by unfold itemP; simp [h]
theorem it4 {n : Nd} (h : n.kind = 4) : itemP n ↔ artP n := by unfold itemP; simp [h]
theorem it_kind {n : Nd} (h : itemP n) : n.kind = 2 ∨ n.kind = 3 ∨ n.kind = 4 := by
 unfold itemP at h
 rcases h with h | h | h
 all_goals
   have := h.1
   simp [this]
theorem item_s {n : Nd} (hok : okNd n) {c d : Int} (h0 : 0 ≤ c) (h1 : c ≤ 2000) (h2 : 0 ≤ d) : Out (parser_checker_item_B ⟨c⟩ n d) (itemP n ∧ c + szN n ≤ 2000 ∧ d + dpN n ≤ 41) (c + szN n) := by
 obtain ⟨hps, hkl, hks⟩ := okNd_l hok
 have hsz := szN_eq n
 have hdp := dpN_eq n
 have hd := @dpL_le n.kids
 rw [parser_checker_item_B]
 refine out_step (node_s n h0 h1) (fun hp => ?_) fun z hp => out_no fun a => hp ⟨by omega, by omega⟩
 dsimp only
 rw [cond_true, wadd_in (a := d) (b := 1) (by omega)]
 have e0 : (((n.kids.length : Nat) : Int) = 0) = (n.kids.length = 0) := propext (by omega)
 simp only [eqI_mb, leI_mb, ltI_mb, c_mb, punit_s, gname_s, pratio_s, bare_s _ _ hps, Option.bind_some, e0]
 have hc1 := hp.1
 have hd1 := hp.2
 have hleaf : ∀ {B : Prop}, (B ↔ itemP n) → (B → n.kids.length = 0) → Out (some (mb B, c + 1)) (itemP n ∧ c + szN n ≤ 2000 ∧ d + dpN n ≤ 41) (c + szN n) := fun hB hk => (out_yes hB).congr ⟨fun a => ⟨a, by have := leafN (hk (hB.2 a)); omega⟩, fun a => a.1⟩ fun a => by have := leafN (hk (hB.2 a.1)); omega
 by_cases k2 : n.kind = 2
 · rw [iff_T k2]
   simp only [p_tf, p_ft, p_qq]
   refine hleaf ?_ ?_
   · rw [it2 k2]
   · intro h; exact h.2.2.1
 rw [iff_F k2]
 by_cases k3 : n.kind = 3
 · rw [iff_T k3]
   simp only [p_tf, p_ft, p_qq]
   refine hleaf ?_ ?_
   · rw [it3 k3]
   · intro h; exact h.2.2.2.2.1
 rw [iff_F k3]
 by_cases k4 : n.kind = 4
 rotate_left
 · rw [iff_F k4]; exact out_no fun a => by have := it_kind a.1; omega
 rw [iff_T k4, it4 k4]
 refine out_iff (fun hr => out_iff (fun hn => out_iff (fun hb => ?_) fun a => a.1.2.2.1) fun a => a.1.2.1) fun a => a.1.1
 refine out_iffN (fun hl0 => ?_) fun a h => by obtain ⟨h', cs, hk, _⟩ := a.1.2.2.2; rw [hk] at h; simp at h
 have dep : (∀ k ∈ n.kids, d + 1 + dpN k ≤ 41) ↔ d + dpN n ≤ 41 := by
   constructor
   · intro h
     have := (hd (m := (40 - d).toNat)).2 fun k hk => by have := h k hk; omega
     omega
   · intro h k hk
     have := (hd (m := dpL n.kids)).1 (Nat.le_refl _) k hk
     omega
 unfold artP
 generalize n.kids = ks at *
 match ks, hl0 with
 | x :: l, _ =>
 have hsub : subl (x :: l) 1 (((x :: l).length : Nat) : Int) = some l := by
   unfold subl
   rw [if_pos (by simp only [List.length_cons]; omega)]
   simp
 rw [hsub]
 simp only [Option.bind_some, List.length_cons] at hkl ⊢
 have e2 : ∀ {A : Prop}, (∃ h cs, x :: l = h :: cs ∧ kinds cs ∧ cntK 8 cs = 1 ∧ cntK 7 cs ≤ 1 ∧ headP h ∧ ∀ k ∈ cs, clauseP k) ↔ (kinds l ∧ cntK 8 l = 1 ∧ cntK 7 l ≤ 1 ∧ headP x ∧ ∀ k ∈ l, clauseP k) := by
   intro _
   constructor
   · rintro ⟨h, cs, e, r⟩; cases e; exact r
   · intro r; exact ⟨x, l, rfl, r⟩
 rw [lim_of (by omega), List.drop_zero, kinds_fold (by omega) (by omega) (by omega) (by omega) (by omega) (by omega)]
 simp only [Option.bind_some]
 by_cases hK : kinds l
 rotate_left
 · rw [iff_F hK]
   show Out (some (false, c + 1)) _ _
   exact out_no fun a => hK ((e2 (A := True)).1 a.1.2.2.2).1
 rw [iff_T hK]
 show Out (iff_ ((0 : Int) + cntK 8 l = 1) (iff_ (1 < (0 : Int) + cntK 7 l) (some (false, c + 1)) _) (some (false, c + 1))) _ _
 refine out_iff (fun h8 => out_iffN (fun h7 => ?_) fun a => ?_) fun a => ?_
 rotate_left
 · have := ((e2 (A := True)).1 a.1.2.2.2).2.2.1; omega
 · have := ((e2 (A := True)).1 a.1.2.2.2).2.1; omega
 simp only [List.getElem?_cons_zero, Option.bind_some]
 have hdx := fun h => dep.2 h x (by simp)
 have hsl : szL (x :: l) = szN x + szL l := by simp [szL]
 refine out_step (head_s (hks x (by simp)) (c := c + 1) (d := d + 1) (by omega) hc1) (fun hx => ?_) fun z hx => out_no fun a => hx ⟨((e2 (A := True)).1 a.1.2.2.2).2.2.2.1, by omega, hdx a.2.2⟩
 dsimp only
 rw [cond_true, parser_checker_all_clause_B, lim_of (by omega), List.drop_zero]
 dsimp only
 refine out_last (all_fold (g := parser_checker_clause_B) (p := clauseP) (d := d + 1) (by omega) hx.2.1 fun k hk c' b0 b1 => clause_s (hks k (by simp [hk])) b0 b1 (by omega)) ?_ fun _ => by omega
 constructor
 · rintro ⟨a, b⟩
   refine ⟨⟨hr, hn, hb, (e2 (A := True)).2 ⟨hK, by omega, by omega, hx.1, fun k hk => (a k hk).1⟩⟩, by omega, dep.1 fun k hk => ?_⟩
   rcases List.mem_cons.1 hk with rfl | hk
   · exact hx.2.2
   · exact (a k hk).2
 · rintro ⟨a, b, e⟩
   exact ⟨fun k hk => ⟨((e2 (A := True)).1 a.2.2.2).2.2.2.2 k hk, dep.2 e k (by simp [hk])⟩, by omega⟩
def okV (n : Nd) : Prop := ((n.kind = 1 ∧ bareP n z0 ∧ ∀ k ∈ n.kids, itemP k) ∨ (n.kind ≠ 1 ∧ exP n)) ∧ szN n ≤ 2000 ∧ dpN n ≤ 40
theorem valid_s {n : Nd} (hok : okNd n) : parser_Valid_B n = some (mb (okV n)) := by
 obtain ⟨hps, hkl, hks⟩ := okNd_l hok
 have hsz := szN_eq n
 have hdp := dpN_eq n
 have hd := @dpL_le n.kids
 rw [parser_Valid_B, eqI_mb, c_mb]
 have fin : ∀ {r : Option (Bool × Int)} {P : Prop} {t : Int}, Out r P t → (P ↔ okV n) → (r.bind fun (a, _) => some a) = some (mb (okV n)) := by
   rintro r P t ⟨z, rfl, _⟩ h
   rw [mb_congr h]; rfl
 by_cases k1 : n.kind = 1
 rotate_left
 · rw [iff_F k1]
   refine fin (expr_s hok 0 1 (by omega) (by omega) (by omega) (by omega)) ?_
   unfold okV
   constructor
   · rintro ⟨a, b, c⟩; exact ⟨.inr ⟨k1, a⟩, by omega, by omega⟩
   · rintro ⟨a | a, b, c⟩
     · exact absurd a.1 k1
     · exact ⟨a.2, by omega, by omega⟩
 rw [iff_T k1]
 obtain ⟨z, hz, hz2⟩ := node_s n (c := 0) (d := 1) (by omega) (by omega)
 rw [hz]
 simp only [Option.bind_some, bare_s _ _ hps, c_mb]
 by_cases h1 : (0 : Int) + 1 ≤ 2000 ∧ (1 : Int) ≤ 40
 rotate_left
 · exact absurd ⟨by omega, by omega⟩ h1
 rw [iff_T h1, hz2 h1]
 by_cases hb : bareP n z0
 rotate_left
 · rw [iff_F hb]
   refine smbF ?_
   rintro ⟨a | a, _⟩
   · exact hb a.2.1
   · exact a.1 k1
 rw [iff_T hb, parser_checker_all_item_B, lim_of hkl, List.drop_zero]
 dsimp only
 refine fin (all_fold (g := parser_checker_item_B) (p := itemP) (d := 2) (by omega) (by omega) fun k hk c' b0 b1 => item_s (hks k hk) b0 b1 (by omega)) ?_
 unfold okV
 constructor
 · rintro ⟨a, b⟩
   refine ⟨.inl ⟨k1, hb, fun k hk => (a k hk).1⟩, by omega, ?_⟩
   have := (hd (m := 39)).2 fun k hk => by have := (a k hk).2; omega
   omega
 · rintro ⟨a | a, b, e⟩
   · refine ⟨fun k hk => ⟨a.2.2 k hk, ?_⟩, by omega⟩
     have := (hd (m := dpL n.kids)).1 (Nat.le_refl _) k hk
     omega
   · exact absurd k1 a.1
end Mo
end Go.Proofs.YtkfplcngmiljaaaGreatDoor
namespace Go.Proofs.YtkfplcngmiljaaaGreatDoor
open AI Go
namespace Mo
set_option maxRecDepth 100000
set_option maxHeartbeats 4000000
theorem some_iff {β : Type} {p : Prop} {x y : β} : some (iff_ p x y) = iff_ p (some x) (some y) := by
 by_cases h : p
 · rw [iff_T h, iff_T h]
 · rw [iff_F h, iff_F h]
abbrev eS : ByteArray := ByteArray.empty
def icP (s : ByteArray) : Prop := s ≠ eS ∧ s ≠ truthS ∧ s ≠ numberS ∧ s ≠ minutesS
theorem isCur_s (s : ByteArray) : units_isCur_B s = some (mb (icP s)) := by
 rw [units_isCur_B]
 simp only [eqB_mb, c_mb, m_ff, m_fq]
 rfl
theorem equalm_s {us : List ByteArray} {a : ByteArray} (ha : us[0]? = some a) (hl : us.length ≤ 9223372036854775807) : units_equalm_B us.length us = some (mb (∀ u ∈ us, u = a)) := by
 rw [units_equalm_B, Sp_eq]
 have h0 : 0 < us.length := (List.getElem?_eq_some_iff.1 ha).1
 refine Sp_cnt (fun i _ => ∀ j u, j < i → us[j]? = some u → u = a) hl (fun j u hj => by omega) (fun i x hi hI => ?_) (fun x hI => ?_)
 · have hx : us[i]? = some us[i] := List.getElem?_eq_getElem hi
   rw [units_equalm_L1, hx]
   have hk : idxN us.length ((0 : Nat) : Int) = some 0 := by unfold idxN; rw [if_pos (by omega)]; rfl
   rw [hk]
   simp only [Option.bind_some, ha, eqB_mb, c_mb]
   by_cases h : us[i] = a
   · rw [iff_T h]
     refine ⟨_, rfl, fun j u hj hu => ?_⟩
     rcases Nat.lt_or_ge j i with hlt | hge
     · exact hI j u hlt hu
     · obtain rfl : j = i := by omega
       rw [hx] at hu; cases hu; exact h
   · rw [iff_F h]
     refine ⟨_, rfl, ?_⟩
     exact ⟨_, rfl, (mbNo fun q => h (q _ (List.getElem_mem hi))).symm⟩
 · refine ⟨_, rfl, (mb_true.2 fun u hu => ?_).symm⟩
   obtain ⟨j, hj⟩ := List.getElem?_of_mem hu
   exact hI j u (List.getElem?_eq_some_iff.1 hj).1 hj
noncomputable def operP (op a b : ByteArray) (E : Prop) : ByteArray :=
 iff_ (op = orS) (iff_ (a = truthS) (iff_ E truthS eS) eS) (iff_ (op = andS) (iff_ (a = truthS) (iff_ E truthS eS) eS) (iff_ (op = q3d3dS) (iff_ E truthS eS) (iff_ (op = q213dS) (iff_ E truthS eS)
   (iff_ (op = q3cS) (iff_ E (iff_ (a = truthS) eS truthS) eS) (iff_ (op = q3c3dS) (iff_ E (iff_ (a = truthS) eS truthS) eS) (iff_ (op = q2bS) (iff_ E (iff_ (a = truthS) eS a) eS) (iff_ (op = q2dS) (iff_ E (iff_ (a = truthS) eS a) eS)
     (iff_ (op = q2aS) (iff_ (a = numberS) (iff_ (b = truthS) eS b) (iff_ (b = numberS) (iff_ (a = truthS) eS a) eS)) (iff_ (op = q2fS) (iff_ (a = truthS) eS a) (iff_ (op = atS) (iff_ (a = minutesS) (iff_ (icP b) b eS) eS) eS))))))))))
theorem oper_s {op a b : ByteArray} {us : List ByteArray} (ha : us[0]? = some a) (hb : us[us.length - 1]? = some b) (hl : us.length ≤ 9223372036854775807) : units_operatem_B op us.length us = some (operP op a b (∀ u ∈ us, u = a)) := by
 have h0 : 0 < us.length := (List.getElem?_eq_some_iff.1 ha).1
 have hk : idxN us.length ((0 : Nat) : Int) = some 0 := by unfold idxN; rw [if_pos (by omega)]; rfl
 have hk2 : idxN us.length (wsub ((us.length : Nat) : Int) 1) = some (us.length - 1) := by
   rw [wsub_in (by omega)]
   unfold idxN
   rw [if_pos (by omega)]
   congr 1
   omega
 rw [units_operatem_B, hk, hk2]
 simp only [Option.bind_some, ha, hb, equalm_s ha hl, isCur_s, eqB_mb, c_mb]
 unfold operP
 simp only [some_iff]
noncomputable def operL (op : ByteArray) (us : List ByteArray) : ByteArray := operP op (us.headD eS) (us.getLastD eS) (∀ u ∈ us, u = us.headD eS)
theorem operL_s {op : ByteArray} {us : List ByteArray} (h0 : us ≠ []) (hl : us.length ≤ 9223372036854775807) : units_operatem_B op us.length us = some (operL op us) := by
 cases us with
 | nil => exact absurd rfl h0
 | cons a l =>
   refine oper_s (a := a) (b := (a :: l).getLastD eS) rfl ?_ hl
   rw [List.getLastD_cons, ← List.getLast?_eq_getElem?, List.getLast?_cons, List.getLastD_eq_getLast?]
def reportP (e at_ : Int) (ds : List Dg) : List Dg := if ds.length < 20 then ds ++ [⟨e, at_⟩] else ds
theorem report_s (e at_ : Int) (ds : List Dg) : units_collector_1_B e at_ ds = some ((), reportP e at_ ds) := by
 rw [units_collector_1_B, ltI_mb, c_mb]
 unfold reportP
 by_cases h : ds.length < 20
 · rw [iff_T (by omega), if_pos h, limA_of (by omega)]
 · rw [iff_F (by omega), if_neg h]
noncomputable def unitOf (s : Sc) (n : Nd) (us : List ByteArray) : ByteArray :=
 iff_ (n.kind = 11) n.unit (iff_ (n.kind = 12) ((s.facts.get n.name).getD eS) (iff_ (n.kind = 13) ((s.lines.get ((s.articles.get n.n).getD eS)).getD eS) (iff_ (n.kind = 14) numberS
   (iff_ (n.kind = 15) (operL andS us) (iff_ (n.kind = 16) (operL n.name us) (iff_ (n.kind = 17) (operL q2bS us) (iff_ (n.kind = 18) (iff_ (icP (us.headD eS)) (us.headD eS) eS) eS)))))))
noncomputable def errOf (n : Nd) : Int := iff_ (n.kind = 12) 91 (iff_ (n.kind = 13) 91 11)
noncomputable def finP (s : Sc) (n : Nd) (r : List ByteArray × List Dg) : ByteArray × List Dg :=
 iff_ (∀ u ∈ r.1, u ≠ eS) (iff_ (unitOf s n r.1 = eS) (unitOf s n r.1, reportP (errOf n) n.att r.2) (unitOf s n r.1, r.2)) (eS, r.2)
mutual
noncomputable def inferP (s : Sc) : Nd → List Dg → ByteArray × List Dg
 | ⟨kind, name, unit, n, fr, to, known, tab, kids, att⟩, ds => finP s ⟨kind, name, unit, n, fr, to, known, tab, kids, att⟩ (infersP s kids ds)
noncomputable def infersP (s : Sc) : List Nd → List Dg → List ByteArray × List Dg
 | [], ds => ([], ds)
 | k :: ks, ds => ((inferP s k ds).1 :: (infersP s ks (inferP s k ds).2).1, (infersP s ks (inferP s k ds).2).2)
end
theorem inferP_eq (s : Sc) (n : Nd) (ds : List Dg) : inferP s n ds = finP s n (infersP s n.kids ds) := by cases n; rw [inferP]
theorem infersP_len (s : Sc) : ∀ (l : List Nd) (ds : List Dg), (infersP s l ds).1.length = l.length
 | [], _ => by rw [infersP]; rfl
 | k :: l, ds => by rw [infersP]; simp [infersP_len s l]
theorem kids_fold {s : Sc} {g : Sc → Nd → List Dg → Option (ByteArray × List Dg)} : ∀ {l : List Nd} {done : List ByteArray} {w : Prop} {ds : List Dg}, (∀ k ∈ l, ∀ ds, g s k ds = some (inferP s k ds)) →
   foldL (fun i y x => units_scope_infer_1_L1 g s i y x.1 x.2.1 x.2.2) (fun x => (x.1, x.2.1, x.2.2)) l done.length (mb w, done ++ List.replicate l.length eS, ds) = some (.inl (mb (w ∧ ∀ u ∈ (infersP s l ds).1, u ≠ eS), done ++ (infersP s l ds).1, (infersP s l ds).2))
 | [], done, w, ds, _ => by
   rw [foldL, infersP]
   simp
 | k :: l, done, w, ds, h => by
   rw [foldL, units_scope_infer_1_L1, h k (by simp)]
   have hlt : done.length < (done ++ List.replicate (k :: l).length eS).length := by simp
   have hx : (done ++ List.replicate (k :: l).length eS)[done.length]? = some eS := by
     rw [List.getElem?_append_right (Nat.le_refl _)]; simp
   have hset : (done ++ List.replicate (k :: l).length eS).set done.length (inferP s k ds).1 = (done ++ [(inferP s k ds).1]) ++ List.replicate l.length eS := by
     rw [List.set_append_right _ _ (Nat.le_refl _)]
     simp [List.replicate_succ]
   have hg : ((done ++ [(inferP s k ds).1]) ++ List.replicate l.length eS)[done.length]? = some (inferP s k ds).1 := by
     rw [List.append_assoc, List.getElem?_append_right (Nat.le_refl _)]; simp
   have ih := fun w' => kids_fold (s := s) (g := g) (l := l) (done := done ++ [(inferP s k ds).1]) (w := w') (ds := (inferP s k ds).2) fun k' hk' => h k' (by simp [hk'])
   simp only [List.length_append, List.length_cons, List.length_nil, Nat.zero_add] at ih
   simp only [Option.bind_some, hx, hset, hg, eqB_mb, c_mb]
   rw [infersP]
   have fin : ∀ w', (w' ↔ w ∧ (inferP s k ds).1 ≠ eS) → (foldK (foldL (fun i y x => units_scope_infer_1_L1 g s i y x.1 x.2.1 x.2.2) (fun x => (x.1, x.2.1, x.2.2)) l (done.length + 1)) (.nx (mb w', done ++ [(inferP s k ds).1] ++ List.replicate l.length eS, (inferP s k ds).2))) = some (.inl (mb (w ∧ ∀ u ∈ (inferP s k ds).1 :: (infersP s l (inferP s k ds).2).1, u ≠ eS), done ++ ((inferP s k ds).1 :: (infersP s l (inferP s k ds).2).1), (infersP s l (inferP s k ds).2).2)) := by
     intro w' hw
     show foldL _ _ l (done.length + 1) _ = _
     rw [ih w']
     congr 2
     refine Prod.ext (mb_congr ?_) (Prod.ext (by simp) rfl)
     simp only [List.mem_cons, forall_eq_or_imp, hw]
     exact and_assoc
   by_cases hw : w
   · rw [iff_T hw]
     by_cases hu : (inferP s k ds).1 = eS
     · rw [iff_T hu, mbF]
       exact fin False ⟨fun q => q.elim, fun q => q.2 hu⟩
     · rw [iff_F hu, mbT]
       exact fin True ⟨fun _ => ⟨hw, hu⟩, fun _ => trivial⟩
   · rw [iff_F hw, mbF]
     exact fin False ⟨fun q => q.elim, fun q => hw q.1⟩
section
variable {s : Sc} {n : Nd} {us : List ByteArray}
theorem u11 (h : n.kind = 11) : unitOf s n us = n.unit := by unfold unitOf; rw [iff_T h]
theorem u12 (h : n.kind = 12) : unitOf s n us = (s.facts.get n.name).getD eS := by unfold unitOf; rw [iff_F (by omega), iff_T h]
theorem u13 (h : n.kind = 13) : unitOf s n us = (s.lines.get ((s.articles.get n.n).getD eS)).getD eS := by unfold unitOf; rw [iff_F (by omega), iff_F (by omega), iff_T h]
theorem u14 (h : n.kind = 14) : unitOf s n us = numberS := by unfold unitOf; rw [iff_F (by omega), iff_F (by omega), iff_F (by omega), iff_T h]
theorem u15 (h : n.kind = 15) : unitOf s n us = operL andS us := by unfold unitOf; rw [iff_F (by omega), iff_F (by omega), iff_F (by omega), iff_F (by omega), iff_T h]
theorem u16 (h : n.kind = 16) : unitOf s n us = operL n.name us := by unfold unitOf; rw [iff_F (by omega), iff_F (by omega), iff_F (by omega), iff_F (by omega), iff_F (by omega), iff_T h]
theorem u17 (h : n.kind = 17) : unitOf s n us = operL q2bS us := by unfold unitOf; rw [iff_F (by omega), iff_F (by omega), iff_F (by omega), iff_F (by omega), iff_F (by omega), iff_F (by omega), iff_T h]
theorem u18 (h : n.kind = 18) : unitOf s n us = iff_ (icP (us.headD eS)) (us.headD eS) eS := by unfold unitOf; rw [iff_F (by omega), iff_F (by omega), iff_F (by omega), iff_F (by omega), iff_F (by omega), iff_F (by omega), iff_F (by omega), iff_T h]
theorem err2 (h : n.kind = 12 ∨ n.kind = 13) : errOf n = 91 := by
 unfold errOf
 by_cases e : n.kind = 12
 · rw [iff_T e]
 · rw [iff_F e, iff_T (h.resolve_left e)]
theorem err1 (h1 : n.kind ≠ 12) (h2 : n.kind ≠ 13) : errOf n = 11 := by unfold errOf; rw [iff_F h1, iff_F h2]
end
theorem ex_ne {n : Nd} (h : exQ n) (hk : n.kind = 15 ∨ n.kind = 16 ∨ n.kind = 17 ∨ n.kind = 18) : 0 < n.kids.length := by
 rcases hk with e | e | e | e
 · have := ((ex15 e).1 h).1; omega
 · have := ((ex16 e).1 h).2.1; omega
 · have := ((ex17 e).1 h).2.2; omega
 · have := ((ex18 e).1 h).2.2; omega
theorem infer_m : ∀ (q : Nat) (s : Sc) (n : Nd) (ds : List Dg), exP n → szN n ≤ q → szN n ≤ 2000 → units_scope_infer_1_M q s n ds = some (inferP s n ds) := by
 intro q
 induction q with
 | zero => intro s n ds _ h; have := szN_eq n; omega
 | succ q ih =>
 intro s n ds he hq h2
 obtain ⟨hQ, hks⟩ := (exP_iff n).1 he
 have hsz := szN_eq n
 have hkl := szL_len n.kids
 rw [units_scope_infer_1_M, units_scope_infer_1_B, inferP_eq]
 have hl := infersP_len s n.kids ds
 have hf := kids_fold (s := s) (g := units_scope_infer_1_M q) (l := n.kids) (done := []) (w := True) (ds := ds) fun k hk ds' => ih s k ds' (hks k hk) (by have := szL_mem hk; omega) (by have := szL_mem hk; omega)
 simp only [List.nil_append, List.length_nil, true_and, ← mbT] at hf
 unfold limM
 rw [if_pos (by omega), lim_of (by omega), List.drop_zero, hf]
 show cond (mb (∀ u ∈ (infersP s n.kids ds).1, u ≠ eS)) _ _ = _
 unfold finP
 generalize hr : infersP s n.kids ds = r at *
 obtain ⟨us, ds2⟩ := r
 dsimp only at hl ⊢
 rw [← hl]
 simp only [c_mb, eqI_mb, eqB_mb, report_s, isCur_s]
 rw [some_iff]
 congr 1
 rw [some_iff]
 have hne := fun hk => ex_ne hQ hk
 have hul : us.length ≤ 9223372036854775807 := by omega
 have hop : ∀ op, 0 < n.kids.length → units_operatem_B op us.length us = some (operL op us) := fun op h => operL_s (fun e => by rw [e] at hl; simp at hl; omega) hul
 rcases ex_kind hQ with k | k | k | k | k | k | k | k
 · rw [iff_T k, u11 k, err1 (by omega) (by omega)]; rfl
 · rw [iff_F (by omega), iff_T k, u12 k, err2 (.inl k)]; rfl
 · rw [iff_F (by omega), iff_F (by omega), iff_T k, u13 k, err2 (.inr k)]; rfl
 · rw [iff_F (by omega), iff_F (by omega), iff_F (by omega), iff_T k, u14 k, err1 (by omega) (by omega)]; rfl
 · rw [iff_F (by omega), iff_F (by omega), iff_F (by omega), iff_F (by omega), iff_T k, u15 k, err1 (by omega) (by omega), hop andS (hne (by omega))]; rfl
 · rw [iff_F (by omega), iff_F (by omega), iff_F (by omega), iff_F (by omega), iff_F (by omega), iff_T k, u16 k, err1 (by omega) (by omega), hop n.name (hne (by omega))]; rfl
 · rw [iff_F (by omega), iff_F (by omega), iff_F (by omega), iff_F (by omega), iff_F (by omega), iff_F (by omega), iff_T k, u17 k, err1 (by omega) (by omega), hop q2bS (hne (by omega))]; rfl
 · rw [iff_F (by omega), iff_F (by omega), iff_F (by omega), iff_F (by omega), iff_F (by omega), iff_F (by omega), iff_F (by omega), iff_T k, u18 k, err1 (by omega) (by omega)]
   have h0 := hne (by omega)
   cases us with
   | nil => simp at hl; omega
   | cons a l =>
   have hk0 : idxN (a :: l).length ((0 : Nat) : Int) = some 0 := by unfold idxN; rw [if_pos (by simp only [List.length_cons]; omega)]; rfl
   rw [hk0]
   simp only [Option.bind_some, List.getElem?_cons_zero, List.headD_cons, c_mb]
   by_cases hc : icP a
   · rw [iff_T hc, iff_T hc]
   · rw [iff_F hc, iff_F hc, iff_T trivial, iff_T rfl]
theorem infer_s {s : Sc} {n : Nd} {ds : List Dg} (he : exP n) (h : szN n ≤ 2000) : units_scope_infer_1_R s n ds = some (inferP s n ds) :=
 evt_of (szN n) fun q hq => infer_m q s n ds he hq h
end Mo
end Go.Proofs.YtkfplcngmiljaaaGreatDoor
namespace Go.Proofs.YtkfplcngmiljaaaGreatDoor
open AI Go
namespace Mo
set_option maxRecDepth 100000
set_option maxHeartbeats 4000000
noncomputable def fU (k : Int) : List Nd → ByteArray → Option ByteArray
 | [], _ => none
 | a :: l, x => iff_ (a.kind = k ∧ a.name = x) (some a.unit) (fU k l x)
noncomputable def fA : List Nd → Int → Option ByteArray
 | [], _ => none
 | a :: l, z => iff_ (a.kind = 4 ∧ a.n = z) (some a.name) (fA l z)
abbrev Sc3 : Type := Mm ByteArray ByteArray × Mm ByteArray ByteArray × Mm Int ByteArray
noncomputable def scStep (a : Nd) (x : Sc3) : Sc3 :=
 iff_ (a.kind = 2) (iff_ ((x.1.get a.name).isSome = true) x (x.1.set a.name a.unit, x.2.1, x.2.2))
   (iff_ (a.kind = 3) (iff_ ((x.2.1.get a.name).isSome = true) x (x.1, x.2.1.set a.name a.unit, x.2.2))
     (iff_ (a.kind = 4) (iff_ ((x.2.2.get a.n).isSome = true) x (x.1, x.2.1, x.2.2.set a.n a.name)) x))
noncomputable def scF : List Nd → Sc3 → Sc3
 | [], x => x
 | a :: l, x => scF l (scStep a x)
noncomputable def scP (n : Nd) : Sc := ⟨(scF n.kids (Mm.nil, Mm.nil, Mm.nil)).1, (scF n.kids (Mm.nil, Mm.nil, Mm.nil)).2.1, (scF n.kids (Mm.nil, Mm.nil, Mm.nil)).2.2⟩
theorem scF_fold : ∀ (l : List Nd) (i : Nat) (x : Sc3), foldL (fun i y x => units_newScope_L1 i y x.1 x.2.1 x.2.2) (fun x => (x.1, x.2.1, x.2.2)) l i x = (some (.inl (scF l x)) : Option (Sc3 ⊕ Sc))
 | [], _, _ => rfl
 | a :: l, i, x => by
   rw [foldL, units_newScope_L1, scF]
   have e : ∀ x', (some (Lp.nx x') : Option (Lp Sc3 Sc3 Sc)).bind (foldK (foldL (fun i y x => units_newScope_L1 i y x.1 x.2.1 x.2.2) (fun x => (x.1, x.2.1, x.2.2)) l (i + 1))) = some (.inl (scF l x')) := fun x' => scF_fold l (i + 1) x'
   simp only [eqI_mb, c_mb, c_b, mb_is_true]
   unfold scStep
   by_cases k2 : a.kind = 2
   · rw [iff_T k2, iff_T k2]
     by_cases h : (x.1.get a.name).isSome = true
     · rw [iff_T h, iff_T h]; exact e _
     · rw [iff_F h, iff_F h]; exact e _
   rw [iff_F k2, iff_F k2]
   by_cases k3 : a.kind = 3
   · rw [iff_T k3, iff_T k3]
     by_cases h : (x.2.1.get a.name).isSome = true
     · rw [iff_T h, iff_T h]; exact e _
     · rw [iff_F h, iff_F h]; exact e _
   rw [iff_F k3, iff_F k3]
   by_cases k4 : a.kind = 4
   · rw [iff_T k4, iff_T k4]
     by_cases h : (x.2.2.get a.n).isSome = true
     · rw [iff_T h, iff_T h]; exact e _
     · rw [iff_F h, iff_F h]; exact e _
   rw [iff_F k4, iff_F k4]
   exact e _
theorem scope_s {n : Nd} (hok : okNd n) : units_newScope_B n = some (scP n) := by
 obtain ⟨hps, hkl, hks⟩ := okNd_l hok
 rw [units_newScope_B, lim_of hkl, List.drop_zero, scF_fold]
 rfl
theorem scF_get : ∀ (l : List Nd) (x : Sc3), (∀ y, (scF l x).1.get y = (x.1.get y).or (fU 2 l y)) ∧ (∀ y, (scF l x).2.1.get y = (x.2.1.get y).or (fU 3 l y)) ∧ ∀ z, (scF l x).2.2.get z = (x.2.2.get z).or (fA l z)
 | [], x => ⟨fun y => by simp [scF, fU], fun y => by simp [scF, fU], fun z => by simp [scF, fA]⟩
 | a :: l, x => by
   obtain ⟨h1, h2, h3⟩ := scF_get l (scStep a x)
   have s1 : ∀ y, (scStep a x).1.get y = (x.1.get y).or (iff_ (a.kind = 2 ∧ a.name = y) (some a.unit) none) := by
     intro y
     unfold scStep
     by_cases k2 : a.kind = 2
     · rw [iff_T k2]
       by_cases h : (x.1.get a.name).isSome = true
       · rw [iff_T h]
         by_cases e : a.name = y
         · subst e
           obtain ⟨v, hv⟩ := Option.isSome_iff_exists.1 h
           rw [hv]; rfl
         · rw [iff_F (show ¬ (a.kind = 2 ∧ a.name = y) from fun q => e q.2)]; simp
       · rw [iff_F h]
         show (x.1.set a.name a.unit).get y = _
         rw [Mm.get_set]
         by_cases e : y = a.name
         · subst e
           rw [if_pos rfl, iff_T ⟨k2, rfl⟩]
           have : x.1.get a.name = none := by simpa using h
           rw [this]; rfl
         · rw [if_neg e, iff_F (show ¬ (a.kind = 2 ∧ a.name = y) from fun q => e q.2.symm)]; simp
     · rw [iff_F k2, iff_F (show ¬ (a.kind = 2 ∧ a.name = y) from fun q => k2 q.1)]
       by_cases k3 : a.kind = 3
       · rw [iff_T k3]
         by_cases h : (x.2.1.get a.name).isSome = true
         · rw [iff_T h]; simp
         · rw [iff_F h]; simp
       · rw [iff_F k3]
         by_cases k4 : a.kind = 4
         · rw [iff_T k4]
           by_cases h : (x.2.2.get a.n).isSome = true
           · rw [iff_T h]; simp
           · rw [iff_F h]; simp
         · rw [iff_F k4]; simp
   have s2 : ∀ y, (scStep a x).2.1.get y = (x.2.1.get y).or (iff_ (a.kind = 3 ∧ a.name = y) (some a.unit) none) := by
     intro y
     unfold scStep
     by_cases k2 : a.kind = 2
     · rw [iff_T k2, iff_F (show ¬ (a.kind = 3 ∧ a.name = y) from fun q => by omega)]
       by_cases h : (x.1.get a.name).isSome = true
       · rw [iff_T h]; simp
       · rw [iff_F h]; simp
     · rw [iff_F k2]
       by_cases k3 : a.kind = 3
       · rw [iff_T k3]
         by_cases h : (x.2.1.get a.name).isSome = true
         · rw [iff_T h]
           by_cases e : a.name = y
           · subst e
             obtain ⟨v, hv⟩ := Option.isSome_iff_exists.1 h
             rw [hv]; rfl
           · rw [iff_F (show ¬ (a.kind = 3 ∧ a.name = y) from fun q => e q.2)]; simp
         · rw [iff_F h]
           show (x.2.1.set a.name a.unit).get y = _
           rw [Mm.get_set]
           by_cases e : y = a.name
           · subst e
             rw [if_pos rfl, iff_T ⟨k3, rfl⟩]
             have : x.2.1.get a.name = none := by simpa using h
             rw [this]; rfl
           · rw [if_neg e, iff_F (show ¬ (a.kind = 3 ∧ a.name = y) from fun q => e q.2.symm)]; simp
       · rw [iff_F k3, iff_F (show ¬ (a.kind = 3 ∧ a.name = y) from fun q => k3 q.1)]
         by_cases k4 : a.kind = 4
         · rw [iff_T k4]
           by_cases h : (x.2.2.get a.n).isSome = true
           · rw [iff_T h]; simp
           · rw [iff_F h]; simp
         · rw [iff_F k4]; simp
   have s3 : ∀ z, (scStep a x).2.2.get z = (x.2.2.get z).or (iff_ (a.kind = 4 ∧ a.n = z) (some a.name) none) := by
     intro z
     unfold scStep
     by_cases k2 : a.kind = 2
     · rw [iff_T k2, iff_F (show ¬ (a.kind = 4 ∧ a.n = z) from fun q => by omega)]
       by_cases h : (x.1.get a.name).isSome = true
       · rw [iff_T h]; simp
       · rw [iff_F h]; simp
     · rw [iff_F k2]
       by_cases k3 : a.kind = 3
       · rw [iff_T k3, iff_F (show ¬ (a.kind = 4 ∧ a.n = z) from fun q => by omega)]
         by_cases h : (x.2.1.get a.name).isSome = true
         · rw [iff_T h]; simp
         · rw [iff_F h]; simp
       · rw [iff_F k3]
         by_cases k4 : a.kind = 4
         · rw [iff_T k4]
           by_cases h : (x.2.2.get a.n).isSome = true
           · rw [iff_T h]
             by_cases e : a.n = z
             · subst e
               obtain ⟨v, hv⟩ := Option.isSome_iff_exists.1 h
               rw [hv]; rfl
             · rw [iff_F (show ¬ (a.kind = 4 ∧ a.n = z) from fun q => e q.2)]; simp
           · rw [iff_F h]
             show (x.2.2.set a.n a.name).get z = _
             rw [Mm.get_set]
             by_cases e : z = a.n
             · subst e
               rw [if_pos rfl, iff_T ⟨k4, rfl⟩]
               have : x.2.2.get a.n = none := by simpa using h
               rw [this]; rfl
             · rw [if_neg e, iff_F (show ¬ (a.kind = 4 ∧ a.n = z) from fun q => e q.2.symm)]; simp
         · rw [iff_F k4, iff_F (show ¬ (a.kind = 4 ∧ a.n = z) from fun q => k4 q.1)]; simp
   have or_if : ∀ {p : Prop} {u : ByteArray} {o f : Option ByteArray}, (o.or (iff_ p (some u) none)).or f = o.or (iff_ p (some u) f) := by
     intro p u o f
     by_cases h : p
     · rw [iff_T h, iff_T h]; cases o <;> rfl
     · rw [iff_F h, iff_F h]; cases o <;> rfl
   refine ⟨fun y => ?_, fun y => ?_, fun z => ?_⟩
   · rw [scF, h1, s1, fU, or_if]
   · rw [scF, h2, s2, fU, or_if]
   · rw [scF, h3, s3, fA, or_if]
theorem sc_facts (n : Nd) (x : ByteArray) : (scP n).facts.get x = fU 2 n.kids x := by
 have := (scF_get n.kids (Mm.nil, Mm.nil, Mm.nil)).1 x
 exact this.trans (by rw [Mm.get_nil]; rfl)
theorem sc_lines (n : Nd) (x : ByteArray) : (scP n).lines.get x = fU 3 n.kids x := by
 have := (scF_get n.kids (Mm.nil, Mm.nil, Mm.nil)).2.1 x
 exact this.trans (by rw [Mm.get_nil]; rfl)
theorem sc_arts (n : Nd) (z : Int) : (scP n).articles.get z = fA n.kids z := by
 have := (scF_get n.kids (Mm.nil, Mm.nil, Mm.nil)).2.2 z
 exact this.trans (by rw [Mm.get_nil]; rfl)
noncomputable def inferQ (src e : Nd) : ByteArray × List Dg := iff_ ((src.kind = 1 ∧ e.kind ≠ 1) ∧ okV src ∧ okV e) (inferP (scP src) e []) (eS, [⟨1, e.att⟩])
theorem okV_ex {e : Nd} (h : okV e) (hk : e.kind ≠ 1) : exP e ∧ szN e ≤ 2000 ∧ dpN e ≤ 40 := by
 obtain ⟨a | a, b⟩ := h
 · exact absurd a.1 hk
 · exact ⟨a.2, b⟩
theorem Infer_s {src e : Nd} (hs : okNd src) (he : okNd e) : units_Infer_B src e = some (inferQ src e) := by
 rw [units_Infer_B, valid_s hs, valid_s he, scope_s hs]
 simp only [Option.bind_some, eqI_mb, c_mb]
 unfold inferQ
 by_cases k1 : src.kind = 1
 rotate_left
 · rw [iff_F k1, iff_F fun q => k1 q.1.1]
 rw [iff_T k1]
 by_cases k2 : e.kind = 1
 · rw [iff_T k2, iff_F fun q => q.1.2 k2]
 rw [iff_F k2]
 by_cases v1 : okV src
 rotate_left
 · rw [iff_F v1, iff_F fun q => v1 q.2.1]
 rw [iff_T v1]
 by_cases v2 : okV e
 rotate_left
 · rw [iff_F v2, iff_F fun q => v2 q.2.2]
 rw [iff_T v2, iff_T ⟨⟨k1, k2⟩, v1, v2⟩]
 obtain ⟨a, b, _⟩ := okV_ex v2 k2
 rw [show units_collector_B = some () from rfl]
 simp only [Option.bind_some]
 rw [infer_s a b]
 rfl
theorem count_up : ∀ q : Nat, ∀ n l, Le (ref07_Count_M q n l) (ref07_Count_M (q + 1) n l)
 | 0 => fun _ _ _ h => nomatch h
 | q + 1 => fun n l => by
   have ih := count_up q
   rw [ref07_Count_M, ref07_Count_M, ref07_Count_B, ref07_Count_B]
   refine le_cond (Le.refl _) (le_bind (le_lim (le_fold (fun i y x => ?_) _ _ _)) fun _ => Le.refl _)
   rw [ref07_Count_L1, ref07_Count_L1]
   exact le_cond (le_bind (ih _ _) fun _ => Le.refl _) (Le.refl _)
theorem count_m : ∀ (q : Nat) (n : Nd) (l : Int), okNd n → szN n ≤ q → ∃ y, ref07_Count_M q n l = some y := by
 intro q
 induction q with
 | zero => intro n _ _ h; have := szN_eq n; omega
 | succ q ih =>
   intro n l hok hq
   obtain ⟨hps, hkl, hks⟩ := okNd_l hok
   have hsz := szN_eq n
   rw [ref07_Count_M, ref07_Count_B]
   cases leI l 0 with
   | true => exact ⟨_, rfl⟩
   | false =>
     rw [cond_false, lim_of hkl, List.drop_zero]
     have key : ∀ (m : List Nd), (∀ k ∈ m, k ∈ n.kids) → ∀ (i : Nat) (x : Int), ∃ y, (foldL (ρ := Int) (fun i y x => ref07_Count_L1 (ref07_Count_M q) l i y x) (fun x => x) m i x) = some y := by
       intro m
       induction m with
       | nil => intro _ i x; exact ⟨_, rfl⟩
       | cons a m ihm =>
         intro hm i x
         rw [foldL, ref07_Count_L1]
         cases ltI x l with
         | false => exact ⟨_, rfl⟩
         | true =>
           obtain ⟨y, hy⟩ := ih a (wsub l x) (hks a (hm a (by simp))) (by have := szL_mem (hm a (by simp)); omega)
           rw [cond_true, hy]
           exact ihm (fun k hk => hm k (by simp [hk])) _ _
     obtain ⟨y, hy⟩ := key n.kids (fun _ h => h) 0 1
     rw [hy]
     cases y <;> exact ⟨_, rfl⟩
theorem Few_s {n : Nd} (hok : okNd n) (l : Int) : ∃ b, ref07_Few_B n l = some b := by
 obtain ⟨y, hy⟩ := count_m (szN n) n (wadd l 1) hok (Nat.le_refl _)
 have : ref07_Count_R n (wadd l 1) = some y := evt_up (fun q => count_up q _ _) hy
 rw [ref07_Few_B, this]
 simp only [Option.bind_some]
 cases leI y l <;> exact ⟨_, rfl⟩
theorem few_s {a b : Nd} (ha : okNd a) (hb : okNd b) : ∃ y, law09_few_B a b = some y := by
 obtain ⟨x, hx⟩ := Few_s ha 400
 obtain ⟨y, hy⟩ := Few_s hb 400
 rw [law09_few_B, hx, hy]
 cases x <;> exact ⟨_, rfl⟩
end Mo
end Go.Proofs.YtkfplcngmiljaaaGreatDoor
