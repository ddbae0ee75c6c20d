/- Part of a proof: see the last text. -/
import Derived.Test.YtkfplcngmiljaaaGreatDoorUlt
set_option linter.unusedVariables false
set_option linter.unusedSimpArgs false
namespace Go.Proofs.YtkfplcngmiljaaaGreatDoor
open AI Go
namespace Mo
set_option maxRecDepth 100000
set_option maxHeartbeats 4000000
theorem diags_s (a b : List Dg) (ha : a.length ≤ 9223372036854775807) : ref07_SameDiags_B a b = some (mb (a = b)) := by
 rw [ref07_SameDiags_B, eqI_mb, c_mb]
 by_cases h : ((a.length : Nat) : Int) = ((b.length : Nat) : Int)
 · rw [iff_T h, k_loop (v := false) (P := fun i y => b[i]? = some y) ha (fun i y hy => by
     have hi : i < a.length := (List.getElem?_eq_some_iff.1 hy).1
     have hb : b[i]? = some b[i] := List.getElem?_eq_getElem (by omega)
     simp only [ref07_SameDiags_L1]
     rw [hb]
     simp only [Option.bind_some]
     have hs : sameDg y b[i] = mb (b[i]? = some y) := by
       rw [Bool.eq_iff_iff, mb_true, hb]
       unfold sameDg
       simp only [Bool.and_eq_true, eqI_eq, beq_iff_eq, Option.some.injEq]
       generalize b[i] = z
       cases y; cases z
       simp only [Dg.mk.injEq]
       grind
     rw [hs, c_mb, k_nr, hb]), m_tf]
   refine smb ⟨fun h2 => ?_, fun h2 i y hy => by rw [← h2]; exact hy⟩
   apply List.ext_getElem?
   intro i
   by_cases hi : i < a.length
   · rw [List.getElem?_eq_getElem hi, h2 i _ (List.getElem?_eq_getElem hi)]
   · rw [List.getElem?_eq_none (by omega), List.getElem?_eq_none (by omega)]
 · rw [iff_F h]; exact smbF fun h2 => h (by rw [h2])
theorem cap_le (r : List Dg) : (cap [] r).length ≤ 9223372036854775807 := Nat.le_trans (cap_len _ _) (by decide)
theorem source_r {n : Nd} (hok : okNd n) : ref09_Source_B n = some (mb (n.kind = 1 ∧ okV n)) := by
 rw [ref09_Source_B, valid_r hok]
 simp only [Option.bind_some, eqI_mb, c_mb, m_qf]
def oneN : Nd := ⟨8, ByteArray.empty, ByteArray.empty, 0, 0, 0, 0, ⟨0, []⟩, [⟨11, ByteArray.empty, EURS, 1, 0, 0, 0, ⟨0, []⟩, [], 0⟩], 0⟩
noncomputable def bareK (a : Nd) : Nd := match a.kids with
 | [] => a
 | x :: _ => iff_ (a.kind = 4) ⟨a.kind, a.name, a.unit, a.n, a.fr, a.to, a.known, a.tab, [x, oneN], a.att⟩ a
noncomputable def bareN (n : Nd) : Nd := ⟨n.kind, n.name, n.unit, n.n, n.fr, n.to, n.known, n.tab, n.kids.map bareK, n.att⟩
theorem bare_fold : ∀ {l m : List Nd} {i : Nat}, m.length + l.length ≤ 100000000 → foldL (fun i y x => law09_bare_L1 i y x) (fun x => x) l i m = (some (.inl (m ++ l.map bareK)) : Option (List Nd ⊕ Nd))
 | [], m, i, _ => by rw [foldL]; simp
 | a :: l, m, i, h => by
   simp only [List.length_cons] at h
   rw [foldL, law09_bare_L1, limA_of (by omega)]
   simp only [eqI_mb, ltI_mb, c_mb, limA_of (show m.length + 1 ≤ 100000000 by omega)]
   have next : ∀ {b : Nd}, b = bareK a → (some (Lp.nx (m ++ [b])) : Option (Lp (List Nd) (List Nd) Nd)).bind (foldK (foldL (fun i y x => law09_bare_L1 i y x) (fun x => x) l (i + 1))) = some (.inl (m ++ (a :: l).map bareK)) := by
     rintro b rfl
     have := bare_fold (l := l) (m := m ++ [bareK a]) (i := i + 1) (by simp; omega)
     rw [show m ++ (a :: l).map bareK = (m ++ [bareK a]) ++ l.map bareK by simp]
     exact this
   unfold bareK at next
   cases hk : a.kids with
   | nil =>
     rw [hk] at next
     rw [iff_F (show ¬ (0 : Int) < ((([] : List Nd).length : Nat) : Int) by simp), m_same]
     exact next rfl
   | cons x r =>
     rw [hk] at next
     dsimp only at next
     by_cases k4 : a.kind = 4
     · rw [iff_T k4, iff_T (by simp only [List.length_cons]; omega)]
       simp only [List.getElem?_cons_zero, Option.bind_some]
       exact next (by rw [iff_T k4]; rfl)
     · rw [iff_F k4]
       exact next (by rw [iff_F k4])
theorem bareK_same (a : Nd) : (bareK a).kind = a.kind ∧ (bareK a).name = a.name ∧ (bareK a).unit = a.unit ∧ (bareK a).n = a.n := by
 unfold bareK
 split
 · exact ⟨rfl, rfl, rfl, rfl⟩
 · by_cases k4 : a.kind = 4
   · rw [iff_T k4]; exact ⟨rfl, rfl, rfl, rfl⟩
   · rw [iff_F k4]; exact ⟨rfl, rfl, rfl, rfl⟩
theorem fU_map {f : Nd → Nd} (hf : ∀ a, (f a).kind = a.kind ∧ (f a).name = a.name ∧ (f a).unit = a.unit) (k : Int) (x : ByteArray) : ∀ l : List Nd, fU k (l.map f) x = fU k l x
 | [] => rfl
 | a :: l => by
   obtain ⟨h1, h2, h3⟩ := hf a
   rw [List.map_cons, fU, fU, h1, h2, h3, fU_map hf k x l]
theorem fA_map {f : Nd → Nd} (hf : ∀ a, (f a).kind = a.kind ∧ (f a).name = a.name ∧ (f a).n = a.n) (z : Int) : ∀ l : List Nd, fA (l.map f) z = fA l z
 | [] => rfl
 | a :: l => by
   obtain ⟨h1, h2, h3⟩ := hf a
   rw [List.map_cons, fA, fA, h1, h2, h3, fA_map hf z l]
theorem eur_cur : unitP EURS := by
 refine .inr (.inr (.inr ⟨rfl, ?_⟩))
 decide
theorem oneN_ok : clauseP oneN ∧ okNd oneN ∧ szN oneN = 2 ∧ dpN oneN = 2 := by
 refine ⟨⟨⟨rfl, rfl, rfl, rfl, rfl, rfl, rfl, rfl⟩, (fun h => absurd h (by decide)), (fun _ => ⟨rfl, fun k hk => ?_⟩)⟩, by simp [oneN, okNd, okNds, okFn], by simp [oneN, szN, szL], by simp [oneN, dpN, dpL]⟩
 rw [List.mem_singleton.1 hk, exP_iff]
 refine ⟨(ex11 rfl).2 ⟨eur_cur, by decide, by decide, fun e => absurd (congrArg ByteArray.data e) (by decide), rfl, ⟨rfl, rfl, rfl, rfl, rfl, rfl, rfl, rfl⟩⟩, (fun k hk => absurd hk (by simp))⟩
theorem bareK_ok {a : Nd} (ha : okNd a) (hi : itemP a) : itemP (bareK a) ∧ okNd (bareK a) ∧ szN (bareK a) ≤ szN a ∧ dpN (bareK a) ≤ max 3 (dpN a) := by
 obtain ⟨c1, c2, c3, c4⟩ := oneN_ok
 unfold bareK
 split
 · exact ⟨hi, ha, Nat.le_refl _, Nat.le_max_right _ _⟩
 · rename_i x r hk
   by_cases k4 : a.kind = 4
   · rw [iff_T k4]
     obtain ⟨h1, h2, h3, h, cs, e, q1, q2, q3, q4, q5⟩ := (it4 k4).1 hi
     rw [hk] at e
     cases e
     have hx := leafN q4.2.2.1
     refine ⟨(it4 (n := ⟨a.kind, a.name, a.unit, a.n, a.fr, a.to, a.known, a.tab, [x, oneN], a.att⟩) k4).2 ⟨h1, h2, h3, x, [oneN], rfl, fun k hk => by rw [List.mem_singleton.1 hk]; exact ⟨by decide, by decide⟩, rfl, by decide, q4, fun k hk => by rw [List.mem_singleton.1 hk]; exact c1⟩, ?_, ?_, ?_⟩
     · rw [okNd_iff]
       obtain ⟨p1, p2, p3⟩ := (okNd_iff a).1 ha
       refine ⟨p1, by simp, fun y hy => ?_⟩
       simp only [List.mem_cons, List.not_mem_nil, or_false] at hy
       rcases hy with rfl | rfl
       · exact p3 _ (by rw [hk]; simp)
       · exact c2
     · rw [szN_eq, szN_eq a, hk]
       simp only [szL, hx.1, c3]
       have hcs : r ≠ [] := fun e => by rw [e] at q2; cases q2
       cases r with
       | nil => exact absurd rfl hcs
       | cons y r =>
         simp only [szL]
         have hy := q5 y (by simp)
         have hy2 : 2 ≤ szN y := by
           have : 1 ≤ y.kids.length := by
             by_cases k7 : y.kind = 7
             · have := (hy.2.1 k7).1; omega
             · have := (hy.2.2 k7).1; omega
           have := szL_len y.kids
           rw [szN_eq]; omega
         omega
     · rw [dpN_eq]
       simp only [dpL, hx.2, c4]
       omega
   · rw [iff_F k4]; exact ⟨hi, ha, Nat.le_refl _, Nat.le_max_right _ _⟩
theorem szL_map_le {f : Nd → Nd} : ∀ {l : List Nd}, (∀ a ∈ l, szN (f a) ≤ szN a) → szL (l.map f) ≤ szL l
 | [], _ => Nat.le_refl _
 | a :: l, h => by
   simp only [List.map_cons, szL]
   have := h a (by simp)
   have := szL_map_le (f := f) (l := l) fun b hb => h b (by simp [hb])
   omega
theorem bareN_ok {n : Nd} (hok : okNd n) (hv : okV n) (k1 : n.kind = 1) : okNd (bareN n) ∧ okV (bareN n) := by
 obtain ⟨p1, p2, p3⟩ := (okNd_iff n).1 hok
 obtain ⟨hb, hit, hs, hd⟩ := okV_srcL hv k1
 have hsz := szN_eq n
 have hdp := dpN_eq n
 have hall : ∀ a ∈ n.kids, itemP (bareK a) ∧ okNd (bareK a) ∧ szN (bareK a) ≤ szN a ∧ dpN (bareK a) ≤ max 3 (dpN a) := fun a ha => bareK_ok (p3 a ha) (hit a ha)
 refine ⟨(okNd_iff _).2 ⟨p1, by simpa [bareN] using p2, fun y hy => ?_⟩, .inl ⟨k1, hb, fun y hy => ?_⟩, ?_, ?_⟩
 · obtain ⟨a, ha, rfl⟩ := List.mem_map.1 hy
   exact (hall a ha).2.1
 · obtain ⟨a, ha, rfl⟩ := List.mem_map.1 hy
   exact (hall a ha).1
 · rw [szN_eq]
   have := szL_map_le (f := bareK) (l := n.kids) fun a ha => (hall a ha).2.2.1
   show 1 + szL (n.kids.map bareK) ≤ 2000
   omega
 · rw [dpN_eq]
   show 1 + dpL (n.kids.map bareK) ≤ 40
   have : dpL (n.kids.map bareK) ≤ 39 := dpL_le.2 fun y hy => by
     obtain ⟨a, ha, rfl⟩ := List.mem_map.1 hy
     have h1 := (hall a ha).2.2.2
     have h2 := (dpL_le (m := dpL n.kids)).1 (Nat.le_refl _) a ha
     omega
   omega
theorem law_UnitsLocality (src e : Nd) (hs : okNd src) (he : okNd e) : law09_UnitsLocality_B src e = some true := by
 obtain ⟨b, hb⟩ := few_s hs he
 obtain ⟨hps, hkl, hks⟩ := okNd_l hs
 rw [law09_UnitsLocality_B, hb, source_r hs, Infer_s hs he]
 show cond b _ _ = _
 cases b with
 | false => rfl
 | true =>
 rw [cond_true]
 simp only [Option.bind_some, c_mb]
 by_cases hv : src.kind = 1 ∧ okV src
 rotate_left
 · rw [iff_F hv]
 rw [iff_T hv]
 obtain ⟨n1, n2⟩ := bareN_ok hs hv.2 hv.1
 have hlen : src.kids.length ≤ 2000 := by have := szL_len src.kids; have := szN_eq src; have := hv.2.2.1; omega
 have hbare : law09_bare_B src = some (bareN src) := by
   rw [law09_bare_B, lim_of hkl, List.drop_zero, bare_fold (by simp; omega)]
   rfl
 rw [hbare]
 simp only [Option.bind_some]
 rw [Infer_s n1 he]
 simp only [Option.bind_some]
 have hE : inferQ (bareN src) e = inferQ src e := by
   have hf : fact (bareN src) = fact src := funext fun x => by
     unfold fact bareN
     rw [fU_map fun a => ⟨(bareK_same a).1, (bareK_same a).2.1, (bareK_same a).2.2.1⟩]
   have hl : line (bareN src) = line src := funext fun x => by
     unfold line bareN
     rw [fU_map fun a => ⟨(bareK_same a).1, (bareK_same a).2.1, (bareK_same a).2.2.1⟩]
   have ha : art (bareN src) = art src := funext fun z => by
     unfold art
     rw [hl]
     unfold bareN
     rw [fA_map fun a => ⟨(bareK_same a).1, (bareK_same a).2.1, (bareK_same a).2.2.2⟩]
   rw [inferQ_eq, inferQ_eq]
   unfold exS
   rw [hf, ha]
   by_cases hc : (src.kind = 1 ∧ e.kind ≠ 1) ∧ okV src ∧ okV e
   · rw [iff_T hc, iff_T (show ((bareN src).kind = 1 ∧ e.kind ≠ 1) ∧ okV (bareN src) ∧ okV e from ⟨hc.1, n2, hc.2.2⟩)]
   · rw [iff_F hc, iff_F (show ¬ (((bareN src).kind = 1 ∧ e.kind ≠ 1) ∧ okV (bareN src) ∧ okV e) from fun q => hc ⟨q.1, hv.2, q.2.2⟩)]
 rw [hE]
 have hle : (inferQ src e).2.length ≤ 9223372036854775807 := by
   rw [inferQ_eq]
   by_cases hc : (src.kind = 1 ∧ e.kind ≠ 1) ∧ okV src ∧ okV e
   · rw [iff_T hc]; exact cap_le _
   · rw [iff_F hc]; simp
 rw [diags_s _ _ hle]
 simp only [eqB_mb, c_mb, Option.bind_some]
 show cond true _ _ = _
 rw [cond_true, iff_T trivial, ← mbT]
end Mo
end Go.Proofs.YtkfplcngmiljaaaGreatDoor
