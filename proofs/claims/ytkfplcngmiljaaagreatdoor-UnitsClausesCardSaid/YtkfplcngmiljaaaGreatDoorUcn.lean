/- Part of a proof: see the last text. -/
import Derived.Test.YtkfplcngmiljaaaGreatDoorUcm
set_option linter.unusedVariables false
set_option linter.unusedSimpArgs false
namespace Go.Proofs.YtkfplcngmiljaaaGreatDoor
open AI Go
namespace Mo
set_option maxRecDepth 100000
set_option maxHeartbeats 4000000
theorem cntK_app (k : Int) (l m : List Nd) : cntK k (l ++ m) = cntK k l + cntK k m := by
 induction l with
 | nil => simp [cntK]
 | cons a l ih => simp only [List.cons_append, cntK, ih]; omega
theorem report_c {ds : List Dg} (h : ds.length ≤ 20) (e at_ : Int) : units_collector_1_B e at_ ds = some ((), cap ds [⟨e, at_⟩]) := by rw [report_s, report_cap h]
structure DecI (b : List Nd) (w5 : Mm ByteArray Bool) (w2 : Mm Int Int) (w4 : Mm ByteArray Bool) : Prop where
 lines : ∀ x, ((w5.get x).getD false = true) ↔ ∃ a ∈ b, a.kind = 3 ∧ a.name = x
 facts : ∀ x, ((w4.get x).getD false = true) ↔ ∃ a ∈ b, a.kind = 2 ∧ a.name = x
 cnt : ∀ k, k = 2 ∨ k = 3 → (w2.get k).getD 0 = ((cntK k b : Nat) : Int)
theorem decI_nil : DecI [] Mm.nil Mm.nil Mm.nil := ⟨fun x => by simp [Mm.get_nil], fun x => by simp [Mm.get_nil], fun k _ => by simp [Mm.get_nil, cntK]⟩
theorem decI_skip {b : List Nd} {w5 : Mm ByteArray Bool} {w2 : Mm Int Int} {w4 : Mm ByteArray Bool} (h : DecI b w5 w2 w4) {a : Nd} (ha : a.kind = 4) : DecI (b ++ [a]) w5 w2 w4 := by
 refine ⟨fun x => (h.lines x).trans ?_, fun x => (h.facts x).trans ?_, fun k hk => (h.cnt k hk).trans ?_⟩
 · simp only [List.mem_append, List.mem_singleton]
   constructor
   · rintro ⟨c, hc, e⟩; exact ⟨c, .inl hc, e⟩
   · rintro ⟨c, hc | rfl, e⟩
     · exact ⟨c, hc, e⟩
     · omega
 · simp only [List.mem_append, List.mem_singleton]
   constructor
   · rintro ⟨c, hc, e⟩; exact ⟨c, .inl hc, e⟩
   · rintro ⟨c, hc | rfl, e⟩
     · exact ⟨c, hc, e⟩
     · omega
 · rw [cntK_app]
   simp only [cntK]
   rw [if_neg (by omega)]
   simp
theorem decI_line {b : List Nd} {w5 : Mm ByteArray Bool} {w2 : Mm Int Int} {w4 : Mm ByteArray Bool} (h : DecI b w5 w2 w4) {a : Nd} (ha : a.kind = 3) (hb : b.length < 9223372036854775807) : DecI (b ++ [a]) (w5.set a.name true) (w2.set a.kind (wadd ((w2.get a.kind).getD 0) 1)) w4 := by
 have hc := cntK_le 3 b
 refine ⟨fun x => ?_, fun x => (h.facts x).trans ?_, fun k hk => ?_⟩
 · rw [Mm.get_set]
   simp only [List.mem_append, List.mem_singleton]
   by_cases e : x = a.name
   · rw [if_pos e]
     exact ⟨fun _ => ⟨a, .inr rfl, ha, e.symm⟩, fun _ => rfl⟩
   · rw [if_neg e, h.lines x]
     constructor
     · rintro ⟨c, hc, q⟩; exact ⟨c, .inl hc, q⟩
     · rintro ⟨c, hc | rfl, q⟩
       · exact ⟨c, hc, q⟩
       · exact absurd q.2.symm e
 · simp only [List.mem_append, List.mem_singleton]
   constructor
   · rintro ⟨c, hc, e⟩; exact ⟨c, .inl hc, e⟩
   · rintro ⟨c, hc | rfl, e⟩
     · exact ⟨c, hc, e⟩
     · omega
 · rw [Mm.get_set, ha, cntK_app]
   simp only [cntK, ha]
   rcases hk with rfl | rfl
   · rw [if_neg (by decide), h.cnt 2 (.inl rfl), if_neg (by decide)]; simp
   · rw [if_pos rfl, h.cnt 3 (.inr rfl), if_pos rfl]
     simp only [Option.getD_some]
     rw [wadd_in (by omega)]; omega
theorem decI_fact {b : List Nd} {w5 : Mm ByteArray Bool} {w2 : Mm Int Int} {w4 : Mm ByteArray Bool} (h : DecI b w5 w2 w4) {a : Nd} (ha : a.kind = 2) (hb : b.length < 9223372036854775807) : DecI (b ++ [a]) w5 (w2.set a.kind (wadd ((w2.get a.kind).getD 0) 1)) (w4.set a.name true) := by
 have hc := cntK_le 2 b
 refine ⟨fun x => (h.lines x).trans ?_, fun x => ?_, fun k hk => ?_⟩
 · simp only [List.mem_append, List.mem_singleton]
   constructor
   · rintro ⟨c, hc, e⟩; exact ⟨c, .inl hc, e⟩
   · rintro ⟨c, hc | rfl, e⟩
     · exact ⟨c, hc, e⟩
     · omega
 · rw [Mm.get_set]
   simp only [List.mem_append, List.mem_singleton]
   by_cases e : x = a.name
   · rw [if_pos e]
     exact ⟨fun _ => ⟨a, .inr rfl, ha, e.symm⟩, fun _ => rfl⟩
   · rw [if_neg e, h.facts x]
     constructor
     · rintro ⟨c, hc, q⟩; exact ⟨c, .inl hc, q⟩
     · rintro ⟨c, hc | rfl, q⟩
       · exact ⟨c, hc, q⟩
       · exact absurd q.2.symm e
 · rw [Mm.get_set, ha, cntK_app]
   simp only [cntK, ha]
   rcases hk with rfl | rfl
   · rw [if_pos rfl, h.cnt 2 (.inl rfl), if_pos rfl]
     simp only [Option.getD_some]
     rw [wadd_in (by omega)]; omega
   · rw [if_neg (by decide), h.cnt 3 (.inr rfl), if_neg (by decide)]; simp
theorem decls_fold : ∀ {l b : List Nd} {i : Nat} {w5 : Mm ByteArray Bool} {w2 : Mm Int Int} {w4 : Mm ByteArray Bool} {ds : List Dg}, DecI b w5 w2 w4 → (∀ a ∈ l, a.kind = 2 ∨ a.kind = 3 ∨ a.kind = 4) → b.length + l.length ≤ 9223372036854775807 → ds.length ≤ 20 →
   ∃ x5 x2 x4, foldL (fun i y x => units_checkDeclarations_1_L1 i y x.1 x.2.1 x.2.2.1 x.2.2.2) (fun x => (x.1, x.2.1, x.2.2.1, x.2.2.2)) l i (w5, w2, ds, w4) = (some (.inl (x5, x2, cap ds (declsR b l), x4)) : Option ((Mm ByteArray Bool × Mm Int Int × List Dg × Mm ByteArray Bool) ⊕ (Unit × List Dg)))
 | [], b, i, w5, w2, w4, ds, _, _, _, hd => ⟨w5, w2, w4, by rw [declsR, cap_nil hd]; rfl⟩
 | a :: l, b, i, w5, w2, w4, ds, hI, hk, hl, hd => by
   simp only [List.length_cons] at hl
   have next : ∀ {x5 : Mm ByteArray Bool} {x2 : Mm Int Int} {x4 : Mm ByteArray Bool} {d2 : List Dg}, DecI (b ++ [a]) x5 x2 x4 → d2 = cap ds (declR b a) →
       ∃ y5 y2 y4, (some (Lp.nx (x5, x2, d2, x4))).bind (foldK (foldL (fun i y x => units_checkDeclarations_1_L1 i y x.1 x.2.1 x.2.2.1 x.2.2.2) (fun x => (x.1, x.2.1, x.2.2.1, x.2.2.2)) l (i + 1))) = (some (.inl (y5, y2, cap ds (declsR b (a :: l)), y4)) : Option ((Mm ByteArray Bool × Mm Int Int × List Dg × Mm ByteArray Bool) ⊕ (Unit × List Dg))) := by
     rintro x5 x2 x4 d2 h rfl
     obtain ⟨y5, y2, y4, e⟩ := decls_fold (l := l) (b := b ++ [a]) (i := i + 1) (w5 := x5) (w2 := x2) (w4 := x4) (ds := cap ds (declR b a)) h (fun k hk' => hk k (by simp [hk'])) (by simp; omega) (cap_len _ _)
     exact ⟨y5, y2, y4, by rw [declsR, ← cap_cap]; exact e⟩
   rw [foldL, units_checkDeclarations_1_L1]
   simp only [eqI_mb, ltI_mb, eqB_mb, isCur_s, report_c hd, Option.bind_some, c_b, mb_is_true]
   rcases hk a (by simp) with k2 | k3 | k4
   · rw [iff_F (by omega), iff_F (by omega), iff_T k2]
     have hI' := decI_fact hI k2 (by omega)
     have ed : ∀ {x y : List Dg}, declR b a = iff_ (∃ c ∈ b, c.kind = 2 ∧ c.name = a.name) [⟨5, a.att⟩] (iff_ (32 ≤ cntK 2 b) [⟨2, a.att⟩] []) := by
       intro _ _
       unfold declR
       rw [iff_T (.inl k2), k2]
       congr 2
       exact iff_F fun q => by omega
     by_cases h5 : ((w4.get a.name).getD false = true)
     · rw [iff_T h5]
       refine next hI' ?_
       rw [ed (x := []) (y := []), iff_T ((hI.facts _).1 h5)]
     · rw [iff_F h5]
       have hn := fun q => h5 ((hI.facts _).2 q)
       rw [Mm.get_set, if_pos rfl, k2, hI.cnt 2 (.inl rfl)]
       simp only [Option.getD_some]
       have hc := cntK_le 2 b
       rw [wadd_in (by omega)]
       by_cases h32 : 32 ≤ cntK 2 b
       · rw [iff_T (by omega)]
         rw [k2, hI.cnt 2 (.inl rfl), wadd_in (by omega)] at hI'
         refine next hI' ?_
         rw [ed (x := []) (y := []), iff_F hn, iff_T h32]
       · rw [iff_F (by omega)]
         rw [k2, hI.cnt 2 (.inl rfl), wadd_in (by omega)] at hI'
         refine next hI' ?_
         rw [ed (x := []) (y := []), iff_F hn, iff_F h32, cap_nil hd]
   · rw [iff_F (by omega), iff_T k3]
     have hI' := decI_line hI k3 (by omega)
     have ed : ∀ {x y : List Dg}, declR b a = iff_ (∃ c ∈ b, c.kind = 3 ∧ c.name = a.name) [⟨5, a.att⟩] (iff_ (32 ≤ cntK 3 b) [⟨2, a.att⟩] (iff_ (a.unit = truthS ∨ (a.n ≠ 4 ∧ ¬ icP a.unit)) [⟨11, a.att⟩] [])) := by
       intro _ _
       unfold declR
       rw [iff_T (.inr k3), k3]
       simp only [true_and]
     by_cases h5 : ((w5.get a.name).getD false = true)
     · rw [iff_T h5]
       refine next hI' ?_
       rw [ed (x := []) (y := []), iff_T ((hI.lines _).1 h5)]
     · rw [iff_F h5]
       have hn := fun q => h5 ((hI.lines _).2 q)
       rw [Mm.get_set, if_pos rfl, k3, hI.cnt 3 (.inr rfl)]
       simp only [Option.getD_some]
       have hc := cntK_le 3 b
       rw [wadd_in (by omega)]
       rw [k3, hI.cnt 3 (.inr rfl), wadd_in (by omega)] at hI'
       by_cases h32 : 32 ≤ cntK 3 b
       · rw [iff_T (by omega)]
         refine next hI' ?_
         rw [ed (x := []) (y := []), iff_F hn, iff_T h32]
       · rw [iff_F (by omega)]
         by_cases ht : a.unit = truthS
         · rw [iff_T ht]
           refine next hI' ?_
           rw [ed (x := []) (y := []), iff_F hn, iff_F h32, iff_T (.inl ht)]
         · rw [iff_F ht]
           by_cases h4 : a.n = 4
           · rw [iff_T h4]
             refine next hI' ?_
             rw [ed (x := []) (y := []), iff_F hn, iff_F h32, iff_F (fun q => q.elim ht fun r => r.1 h4), cap_nil hd]
           · rw [iff_F h4]
             by_cases hc2 : icP a.unit
             · rw [iff_T hc2]
               refine next hI' ?_
               rw [ed (x := []) (y := []), iff_F hn, iff_F h32, iff_F (fun q => q.elim ht fun r => r.2 hc2), cap_nil hd]
             · rw [iff_F hc2]
               refine next hI' ?_
               rw [ed (x := []) (y := []), iff_F hn, iff_F h32, iff_T (.inr ⟨h4, hc2⟩)]
   · rw [iff_T k4]
     refine next (decI_skip hI k4) ?_
     have : declR b a = [] := by unfold declR; rw [iff_F (by omega)]
     rw [this, cap_nil hd]
theorem decls_s {n : Nd} (hok : okNd n) (hk : ∀ a ∈ n.kids, a.kind = 2 ∨ a.kind = 3 ∨ a.kind = 4) : units_checkDeclarations_1_B n [] = some ((), cap [] (declsR [] n.kids)) := by
 obtain ⟨hps, hkl, hks⟩ := (okNd_iff n).1 hok
 obtain ⟨x5, x2, x4, e⟩ := decls_fold (l := n.kids) (b := []) (i := 0) (ds := []) decI_nil hk (by simp; omega) (by simp)
 rw [units_checkDeclarations_1_B, lim_of hkl, List.drop_zero, e]
 rfl
theorem unless_fold {src a : Nd} : ∀ {l : List Nd} {i : Nat} {ds : List Dg}, ds.length ≤ 20 → foldL (fun i y x => units_scope_checkClause_1_L1 (scP src) a i y x) (fun x => x) l i ds = (some (.inl (cap ds (l.flatMap (unlessR src a)))) : Option (List Dg ⊕ (Unit × List Dg)))
 | [], i, ds, hd => by rw [List.flatMap_nil, cap_nil hd]; rfl
 | k :: l, i, ds, hd => by
   rw [foldL, units_scope_checkClause_1_L1, List.flatMap_cons, ← cap_cap]
   simp only [eqI_mb, report_c hd, Option.bind_some, c_b, mb_is_true, sc_arts]
   have next : ∀ {d2 : List Dg}, d2 = cap ds (unlessR src a k) → (some (Lp.nx d2)).bind (foldK (foldL (fun i y x => units_scope_checkClause_1_L1 (scP src) a i y x) (fun x => x) l (i + 1))) = (some (.inl (cap (cap ds (unlessR src a k)) (l.flatMap (unlessR src a)))) : Option (List Dg ⊕ (Unit × List Dg))) := by
     rintro _ rfl
     exact unless_fold (cap_len _ _)
   unfold unlessR
   by_cases h : k.n = a.n
   · rw [iff_T h]
     have := next (d2 := cap ds [⟨101, k.att⟩]) (by unfold unlessR; rw [iff_T h])
     unfold unlessR at this
     rw [iff_T h] at this ⊢
     exact this
   · rw [iff_F h]
     by_cases h2 : (fA src.kids k.n).isSome = true
     · rw [iff_T h2]
       have hn : ¬ fA src.kids k.n = none := fun e => by rw [e] at h2; cases h2
       have := next (d2 := ds) (by unfold unlessR; rw [iff_F h, iff_F hn, cap_nil hd])
       unfold unlessR at this
       rw [iff_F h] at this ⊢
       exact this
     · rw [iff_F h2]
       have hn : fA src.kids k.n = none := by simpa using h2
       have := next (d2 := cap ds [⟨91, k.att⟩]) (by unfold unlessR; rw [iff_F h, iff_T hn])
       unfold unlessR at this
       rw [iff_F h] at this ⊢
       exact this
theorem clause_c {src a x : Nd} (hok : okNd x) (hc : clauseP x) (hs : szN x ≤ 2000) (h68 : x.kind = 6 ∨ x.kind = 7 ∨ x.kind = 8) {ds : List Dg} (hd : ds.length ≤ 20) : units_scope_checkClause_1_B (scP src) a x ds = some ((), cap ds (clauseR src a x)) := by
 obtain ⟨hps, hkl, hks⟩ := (okNd_iff x).1 hok
 rw [units_scope_checkClause_1_B]
 simp only [eqI_mb, eqB_mb, c_b, mb_is_true, sc_lines]
 unfold clauseR
 by_cases k7 : x.kind = 7
 · rw [iff_T k7, iff_T k7, lim_of hkl, List.drop_zero, unless_fold hd]; rfl
 rw [iff_F k7, iff_F k7]
 obtain ⟨h1, h2⟩ := hc.2.2 k7
 have hsz := szN_eq x
 generalize x.kids = ks at *
 match ks, h1 with
 | [k], _ =>
 have hek := h2 k (by simp)
 have hsk : szN k ≤ 2000 := by simp [szL] at hsz; omega
 simp only [List.getElem?_cons_zero, Option.bind_some, List.flatMap_cons, List.flatMap_nil, List.append_nil]
 rw [infer_s hek hsk, infer_src src k hd]
 simp only [Option.bind_some]
 rw [report_c (cap_len _ _)]
 simp only [Option.bind_some, cap_cap]
 have key : ∀ w : ByteArray, iff_ ((exS src k).1 = ByteArray.empty) (some ((), cap ds (exS src k).2)) (iff_ (w = ByteArray.empty) (some ((), cap ds (exS src k).2)) (iff_ ((exS src k).1 = w) (some ((), cap ds (exS src k).2)) (some ((), cap ds ((exS src k).2 ++ [⟨11, k.att⟩]))))) = some ((), cap ds (wantR src w k)) := by
   intro w
   unfold wantR
   by_cases a1 : (exS src k).1 = eS
   · rw [iff_T a1, iff_F fun q => q.1 a1, List.append_nil]
   rw [iff_F a1]
   by_cases a2 : w = eS
   · rw [iff_T a2, iff_F fun q => q.2.1 a2, List.append_nil]
   rw [iff_F a2]
   by_cases a3 : (exS src k).1 = w
   · rw [iff_T a3, iff_F fun q => q.2.2 a3, List.append_nil]
   rw [iff_F a3, iff_T ⟨a1, a2, a3⟩]
 by_cases k6 : x.kind = 6
 · rw [iff_T k6, iff_T k6]; exact key truthS
 · rw [iff_F k6, iff_F k6]; exact key (line src a.name)
theorem clauses_fold {src a : Nd} {body : Nat → Nd → List Dg → Option (Lp (List Dg) (List Dg) (List Dg))} (hb : ∀ i y x, body i y x = (units_scope_checkClause_1_B (scP src) a y x).bind fun (_, b) => some (.nx b)) :
   ∀ {l : List Nd} {i : Nat} {ds : List Dg}, (∀ x ∈ l, okNd x ∧ clauseP x ∧ szN x ≤ 2000 ∧ (x.kind = 6 ∨ x.kind = 7 ∨ x.kind = 8)) → ds.length ≤ 20 → foldL body (fun x => x) l i ds = (some (.inl (cap ds (l.flatMap (clauseR src a)))) : Option (List Dg ⊕ List Dg))
 | [], i, ds, _, hd => by rw [List.flatMap_nil, cap_nil hd]; rfl
 | x :: l, i, ds, h, hd => by
   obtain ⟨h1, h2, h3, h4⟩ := h x (by simp)
   rw [foldL, hb, clause_c h1 h2 h3 h4 hd, List.flatMap_cons, ← cap_cap]
   exact clauses_fold hb (fun y hy => h y (by simp [hy])) (cap_len _ _)
theorem arts_fold {src : Nd} : ∀ {l : List Nd} {i : Nat} {c : Nat} {ds : List Dg}, (∀ a ∈ l, okNd a ∧ itemP a ∧ szN a ≤ 2000) → c + l.length ≤ 9223372036854775807 → ds.length ≤ 20 → ∃ z, foldL (fun i y x => units_Check_L1 (scP src) i y x.1 x.2) (fun x => x.2) l i (((c : Nat) : Int), ds) = (some (.inl z) : Option (List Dg ⊕ List Dg)) ∧ z = cap ds (artsR src c l)
 | [], i, c, ds, _, _, hd => ⟨ds, rfl, by rw [artsR, cap_nil hd]⟩
 | a :: l, i, c, ds, h, hc, hd => by
   simp only [List.length_cons] at hc
   obtain ⟨hok, hit, hsz⟩ := h a (by simp)
   obtain ⟨hps, hkl, hks⟩ := (okNd_iff a).1 hok
   rw [foldL, units_Check_L1, artsR, ← cap_cap]
   simp only [eqI_mb, ltI_mb, eqB_mb, c_b, mb_is_true, report_c hd, Option.bind_some, sc_lines, sc_arts]
   unfold artR
   by_cases k4 : a.kind = 4
   rotate_left
   · rw [iff_F k4, iff_F k4, cap_nil hd]
     have e : c + cntK 4 [a] = c := by simp [cntK, k4]
     rw [e]
     exact arts_fold (fun y hy => h y (by simp [hy])) (by omega) hd
   rw [iff_T k4, iff_T k4]
   obtain ⟨_, _, _, x, cs, hkids, hkin, _, _, _, hcl⟩ := (it4 k4).1 hit
   have e : c + cntK 4 [a] = c + 1 := by simp [cntK, k4]
   rw [e]
   have hcs : ∀ y ∈ cs, okNd y ∧ clauseP y ∧ szN y ≤ 2000 ∧ (y.kind = 6 ∨ y.kind = 7 ∨ y.kind = 8) := by
     intro y hy
     have hm : y ∈ a.kids := by rw [hkids]; simp [hy]
     have := hkin y hy
     exact ⟨hks y hm, hcl y hy, by have := szN_kid hm; omega, by omega⟩
   have hsub : subl a.kids 1 ((a.kids.length : Nat) : Int) = some cs := by
     unfold subl
     rw [hkids, if_pos (by simp only [List.length_cons]; omega)]
     simp
   have hcl' : cs.length ≤ 9223372036854775807 := by rw [hkids] at hkl; simp at hkl; omega
   rw [hsub]
   simp only [Option.bind_some, List.drop_zero, lim_of hcl']
   rw [wadd_in (by omega)]
   have htail : a.kids.tail = cs := by rw [hkids]; rfl
   rw [htail]
   have next : ∀ {body : Nat → Nd → List Dg → Option (Lp (List Dg) (List Dg) (List Dg))} {d0 : List Dg}, (∀ i y x, body i y x = (units_scope_checkClause_1_B (scP src) a y x).bind fun (_, b) => some (.nx b)) → d0 = cap ds (headR src c a) →
       ∃ z, (((foldL body (fun x => x) cs 0 d0).bind (lpK (fun (w : List Dg) => some (Lp.nx (((c : Nat) : Int) + 1, w))) (fun v => some (.rt v)))).bind (foldK (foldL (fun i y x => units_Check_L1 (scP src) i y x.1 x.2) (fun x => x.2) l (i + 1)))) = (some (.inl z) : Option (List Dg ⊕ List Dg)) ∧ z = cap (cap ds (headR src c a ++ cs.flatMap (clauseR src a))) (artsR src (c + 1) l) := by
     rintro body _ hb rfl
     rw [clauses_fold hb hcs (cap_len _ _), cap_cap]
     have ih := arts_fold (src := src) (l := l) (i := i + 1) (c := c + 1) (ds := cap ds (headR src c a ++ cs.flatMap (clauseR src a))) (fun y hy => h y (by simp [hy])) (by omega) (cap_len _ _)
     rw [show (((c + 1 : Nat)) : Int) = ((c : Nat) : Int) + 1 by omega] at ih
     exact ih
   unfold headR
   by_cases hl : (fU 3 src.kids a.name).isSome = true
   · have hn : ¬ fU 3 src.kids a.name = none := fun e => by rw [e] at hl; cases hl
     rw [iff_T hl]
     by_cases h60 : 60 ≤ c
     · rw [iff_T (by omega), iff_T h60]
       have := next (body := fun i y x => units_Check_L2 (scP src) a i y x) (d0 := cap ds [⟨2, a.att⟩]) (fun i y x => rfl) (by unfold headR; rw [iff_T h60])
       unfold headR at this
       rw [iff_T h60] at this
       exact this
     · rw [iff_F (by omega), iff_F h60, iff_F hn]
       by_cases hA : (fA src.kids a.n).getD ByteArray.empty = a.name
       · rw [iff_T hA]
         have := next (body := fun i y x => units_Check_L3 (scP src) a i y x) (d0 := ds) (fun i y x => rfl) (by unfold headR; rw [iff_F h60, iff_F hn, iff_F (fun q => q hA), cap_nil hd])
         unfold headR at this
         rw [iff_F h60, iff_F hn] at this
         exact this
       · rw [iff_F hA]
         have := next (body := fun i y x => units_Check_L4 (scP src) a i y x) (d0 := cap ds [⟨101, a.att⟩]) (fun i y x => rfl) (by unfold headR; rw [iff_F h60, iff_F hn, iff_T hA])
         unfold headR at this
         rw [iff_F h60, iff_F hn] at this
         exact this
   · have hn : fU 3 src.kids a.name = none := by simpa using hl
     rw [iff_F hl]
     by_cases h60 : 60 ≤ c
     · rw [iff_T (by omega), iff_T h60]
       have := next (body := fun i y x => units_Check_L5 (scP src) a i y x) (d0 := cap ds [⟨2, a.att⟩]) (fun i y x => rfl) (by unfold headR; rw [iff_T h60])
       unfold headR at this
       rw [iff_T h60] at this
       exact this
     · rw [iff_F (by omega), iff_F h60, iff_T hn]
       have := next (body := fun i y x => units_Check_L6 (scP src) a i y x) (d0 := cap ds [⟨91, a.att⟩]) (fun i y x => rfl) (by unfold headR; rw [iff_F h60, iff_T hn])
       unfold headR at this
       rw [iff_F h60, iff_T hn] at this
       exact this
theorem okV_src {n : Nd} (h : okV n) (hk : n.kind = 1) : bareP n z0 ∧ (∀ k ∈ n.kids, itemP k) ∧ szN n ≤ 2000 ∧ dpN n ≤ 40 := by
 obtain ⟨a | a, b⟩ := h
 · exact ⟨a.2.1, a.2.2, b⟩
 · exact absurd hk a.1
theorem Check_s {src : Nd} (hs : okNd src) : units_Check_B src = some (checkQ src) := by
 obtain ⟨hps, hkl, hks⟩ := (okNd_iff src).1 hs
 rw [units_Check_B, valid_s hs, scope_s hs]
 simp only [Option.bind_some, eqI_mb, c_mb]
 unfold checkQ
 by_cases k1 : src.kind = 1
 rotate_left
 · rw [iff_F k1, iff_F fun q => k1 q.1]
 rw [iff_T k1]
 by_cases v : okV src
 rotate_left
 · rw [iff_F v, iff_F fun q => v q.2]
 rw [iff_T v, iff_T ⟨k1, v⟩]
 obtain ⟨_, hit, hsz, _⟩ := okV_src v k1
 have hkind : ∀ a ∈ src.kids, a.kind = 2 ∨ a.kind = 3 ∨ a.kind = 4 := fun a ha => it_kind (hit a ha)
 rw [show units_collector_B = some () from rfl, decls_s hs hkind]
 simp only [Option.bind_some]
 rw [lim_of hkl, List.drop_zero]
 obtain ⟨z, e, rfl⟩ := arts_fold (src := src) (l := src.kids) (i := 0) (c := 0) (ds := cap [] (declsR [] src.kids)) (fun a ha => ⟨hks a ha, hit a ha, by have := szN_kid ha; omega⟩) (by omega) (cap_len _ _)
 have e' : (((0 : Nat) : Int)) = 0 := rfl
 rw [e'] at e
 rw [e, cap_cap]
 rfl
end Mo
end Go.Proofs.YtkfplcngmiljaaaGreatDoor
namespace AI
open Go Go.RowKit
def newB (w w1 : World) (g : Nat) : Prop := w.heap.size ≤ g ∧ g < w1.heap.size
def Cx.veil (cx : Cx) (w w1 : World) : Cx := ⟨cx.base, cx.phi, cx.rows, fun g i => cx.bad g i ∨ newB w w1 g⟩
def Cx.unveil (c : Cx) (cx : Cx) : Cx := ⟨c.base, c.phi, c.rows, cx.bad⟩
section
variable {G : Glob} {cx : Cx} {w w1 : World} {s : AS}
theorem veil_mon (k : Chg w w1 (fun _ => False)) : Mon cx w (cx.veil w w1) w1 := by
 refine ⟨fun _ _ e => e, Nat.le_refl _, fun r y _ h => ⟨y, h, RwLe.refl y⟩, fun g i v hv => ⟨Nat.lt_of_lt_of_le hv.1 k.size, fun hs => ?_, by rw [k.cell hv.1 id]; exact hv.2.2⟩⟩
 rcases hs with hs | hs | hs | hs
 · exact hv.2.1 (.inl hs)
 · exact hv.2.1 (.inr (.inl hs))
 · exact hv.2.1 (.inr (.inr hs))
 · have := hs.1; have := hv.1; omega
theorem veil_st (h : St G cx w s) (k : Chg w w1 (fun _ => False)) : St G (cx.veil w w1) w1 s := by
 have m := veil_mon (cx := cx) k
 refine ⟨h.len, h.desc, h.nodup, h.low, fun id g b h1 h2 => ?_, h.rlen, fun r g n cap sz hr => ?_, h.rfree, fun g hg => Nat.lt_of_lt_of_le (h.plow g hg) k.size, fun g i hb => ?_, h.rdist, fun g cs hg => (h.glob g cs hg).monoM m, Nat.le_trans h.bsz k.size⟩
 · obtain ⟨o, ho, hb⟩ := h.box id g b h1 h2
   exact ⟨o, by rw [k.block g (Array.getElem?_eq_some_iff.1 ho).1 not_false]; exact ho, hb.monoM m⟩
 · have hl := h.row_lt hr
   obtain ⟨hbad, h2, h3, h4, vs, T, ho, h5⟩ := h.row r g n cap sz hr
   refine ⟨fun i hb => ?_, h2, h3, h4, vs, T, by rw [k.block g (Array.getElem?_eq_some_iff.1 ho).1 not_false]; exact ho, h5⟩
   rcases hb with hb | hb
   · exact hbad i hb
   · have := hb.1; omega
 · rcases hb with hb | hb
   · exact Nat.lt_of_lt_of_le (h.blow g i hb) k.size
   · exact hb.2
variable {c' : Cx} {w' w2 : World} {s' : AS}
theorem unveil_mon (hx : Ext (cx.veil w w1) w1 c' w') (k2 : Chg w' w2 (newB w w1)) : Mon c' w' (c'.unveil cx) w2 := by
 refine ⟨fun _ _ e => e, Nat.le_refl _, fun r y _ h => ⟨y, h, RwLe.refl y⟩, fun g i v hv => ⟨Nat.lt_of_lt_of_le hv.1 k2.size, fun hs => ?_, ?_⟩⟩
 · rcases hs with hs | hs | hs
   · exact hv.2.1 (.inl hs)
   · exact hv.2.1 (.inr (.inl hs))
   · exact hv.2.1 (.inr (.inr (by rw [hx.bad]; exact .inl hs)))
 · rw [k2.cell hv.1 (fun hk => hv.2.1 (.inr (.inr (by rw [hx.bad]; exact .inr hk))))]; exact hv.2.2
theorem unveil_ext (h : St G cx w s) (k : Chg w w1 (fun _ => False)) (hx : Ext (cx.veil w w1) w1 c' w') (k2 : Chg w' w2 (newB w w1)) : Ext cx w (c'.unveil cx) w2 := by
 have m := veil_mon (cx := cx) k
 have m2 := unveil_mon hx k2
 refine ⟨hx.phi, hx.rlen, hx.rows, fun g i v hv => m2.vis g i v (hx.vis g i v (m.vis g i v hv)), ?_, hx.base, rfl, fun g hg => ?_, fun r g n cap sz hr => ?_, fun q hq hp hr => ?_⟩
 · have b1 : Below cx.base w w1 := k.below h.bsz (fun _ h => h.elim)
   have b2 : Below cx.base w1 w' := hx.below
   have b3 : Below cx.base w' w2 := k2.below (Nat.le_trans (Nat.le_trans h.bsz k.size) b2.size) (fun q hq => Nat.le_trans h.bsz hq.1)
   exact (b1.trans b2).trans b3
 · rcases hx.pnew g hg with h1 | h1
   · exact .inl h1
   · exact .inr (Nat.le_trans k.size h1)
 · rcases hx.rnew r g n cap sz hr with h1 | h1
   · exact .inl h1
   · exact .inr (Nat.le_trans k.size h1)
 · have hq1 : q < w1.heap.size := Nat.lt_of_lt_of_le hq k.size
   rw [k2.block q (Nat.lt_of_lt_of_le hq1 hx.below.size) (fun hn => by have := hn.1; omega), hx.keep q hq1 hp hr, k.block q hq not_false]
theorem unveil_st (h : St G cx w s) (hx : Ext (cx.veil w w1) w1 c' w') (hs' : St G c' w' s') (k2 : Chg w' w2 (newB w w1)) : St G (c'.unveil cx) w2 s' := by
 have m2 := unveil_mon hx k2
 have hphi : ∀ g, some g ∈ c'.phi → ¬ newB w w1 g := by
   intro g hg hn
   rcases hx.pnew g hg with h1 | h1
   · have := h.plow g h1; have := hn.1; omega
   · have := hn.2; omega
 refine ⟨hs'.len, hs'.desc, hs'.nodup, hs'.low, fun id g b h1 h2 => ?_, hs'.rlen, fun r g n cap sz hr => ?_, hs'.rfree, fun g hg => Nat.lt_of_lt_of_le (hs'.plow g hg) k2.size, fun g i hb => Nat.lt_of_lt_of_le (hs'.blow g i (by rw [hx.bad]; exact .inl hb)) k2.size, hs'.rdist, fun g cs hg => (hs'.glob g cs hg).monoM m2, Nat.le_trans hs'.bsz k2.size⟩
 · obtain ⟨o, ho, hb⟩ := hs'.box id g b h1 h2
   exact ⟨o, by rw [k2.block g (Array.getElem?_eq_some_iff.1 ho).1 (hphi g (List.mem_of_getElem? h1))]; exact ho, hb.monoM m2⟩
 · obtain ⟨hbad, h2, h3, h4, vs, T, ho, h5⟩ := hs'.row r g n cap sz hr
   have hb : c'.bad = fun g i => cx.bad g i ∨ newB w w1 g := hx.bad
   exact ⟨fun i hb' => hbad i (by rw [hb]; exact .inl hb'), h2, h3, h4, vs, T, by rw [k2.block g (Array.getElem?_eq_some_iff.1 ho).1 (fun hn => hbad 0 (by rw [hb]; exact .inr hn))]; exact ho, h5⟩
theorem veil_keep (h : St G cx w s) (hx : Ext (cx.veil w w1) w1 c' w') {q : Nat} (hq : newB w w1 q) : w'.heap[q]? = w1.heap[q]? := by
 refine hx.keep q hq.2 (fun hm => ?_) (fun r n cap sz hr => ?_)
 · have := h.plow q hm; have := hq.1; omega
 · have := h.row_lt (r := r) hr; have := hq.1; omega
end
end AI
