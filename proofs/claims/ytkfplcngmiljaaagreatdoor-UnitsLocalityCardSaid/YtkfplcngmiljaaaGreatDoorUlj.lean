/- Part of a proof: see the last text. -/
import Derived.Test.YtkfplcngmiljaaaGreatDoorUli
set_option linter.unusedVariables false
set_option linter.unusedSimpArgs false
namespace Go.Proofs.YtkfplcngmiljaaaGreatDoor
open AI Go
namespace Mo
set_option maxRecDepth 100000
set_option maxHeartbeats 4000000
noncomputable def B40 : Code := bodyOf Tryz.f40
theorem b40 : Tryz.f40.body = some B40 := by kernel_rfl
noncomputable def ref07_Count_L1 (r_ref07_Count : Nd → Int → Option Int) (limit : Int) (i0 : Nat) (e0 : Nd) (out5 : Int) : Option (Lp Int Int Int) := cond (ltI out5 limit) ((r_ref07_Count e0 (wsub limit out5)).bind fun y1 => some (.nx (wadd out5 y1))) (some (.ex out5))
noncomputable def ref07_Count_B (r_ref07_Count : Nd → Int → Option Int) (n : Nd) (limit : Int) : Option Int := cond (leI limit 0) (some 0) ((lim n.kids.length (foldL (fun i y x => ref07_Count_L1 r_ref07_Count limit i y x) (fun x => x) (n.kids.drop 0) 0 1)).bind (lpK (fun (out5_2 : Int) => some out5_2) (fun v => some v)))
theorem ref07_Count_step (r_ref07_Count : Nd → Int → Option Int) (hr_ref07_Count : ∀ (n : Nd) (limit : Int) (yR : Int), r_ref07_Count n limit = some yR → Pure P G 40 [.agg (ndC n), .sc (.int .i64 limit)] (.sc (.int .i64 yR))) (n : Nd) (limit : Int) (yR : Int) (h : ref07_Count_B r_ref07_Count n limit = some yR) : Pure P G 40 [.agg (ndC n), .sc (.int .i64 limit)] (.sc (.int .i64 yR)) := by
 unfold ref07_Count_B at h
 refine pureM Hd.mixed Hd.plainG (WC_body Tryz.func40 b40 ?_) (plC (layNd.plG n) (plC rfl rfl)) rfl
 revert h
 refine cndI (fun hb1 => ?_) fun hb1 => ?_
 rintro ⟨⟩
 exact rS (runS 300 [pb hb1]) (by kernel_rfl)
 refine bndI fun res hres h => ?_
 have hlen := (limE hres).1
 replace hres := (limE hres).2
 refine go_at [] [0, 1, 2, 5, 6, 8, 13, 14, 17, 18, 26] 0 (sub B40 [1, 1, 1, 0, 1, 0, 0]) [.code (sub B40 [1, 1, 1, 1])] _ _ (runS 300 [pb hb1]) (by kernel_rfl) (foldP (fn := Tryz.f40) (m := 0) (fun v => .sc (.int .i64 v)) 0 n.kids (fun i0 (out5 : Int) (j0 : JJ) => frm 33 0 [(1, .sc (.int .i64 limit)), (2, .ptr 0 0), (5, .sc (.int .i64 out5)), (6, .sc (.int .i64 ((i0 : Nat) : Int)))] [8, 13, 14, 17, 18] 0 [0, 26] 0 j0) (fun (_ : Nat) (out5 : Int) (_ : JJ) => ⟨[(0, .cells (ndC n))], 1, [], 0⟩) (fun (j : JJ) => plainL j.2 = true) (fun (out5 : Int) (jx : JJ) => frm 33 0 [(5, .sc (.int .i64 out5))] [8, 13, 14, 17, 18] 0 [0, 26] 0 jx) (fun (out5 : Int) (_ : JJ) => ⟨[(0, .cells (ndC n))], 1, [], 0⟩) (fun (j : JJ) => plainL j.2 = true) ?_ ?_ 0 hres ?_ ?_ ([.bool false], [.agg (ndC n), .sc undef]) (plC (layNd.plG n) (plC rfl rfl)))
 rintro i0 out5 j0 hj0 hge hq
 clear h hres
 refine WL_rnd ?_
 exact go_ex Hd.plainG [1, 10, 16, 26, 28, 34, 36, 53] [fq (gn_pl hj0 0), fq (gn_pl hj0 1)] [fbp (ndC n) (layNd.pl n)] 0 _ _ (runS 300 [pb (B := ltI ((i0 : Nat) : Int) ((n.kids.length : Nat) : Int)) (b := false) (ltF hge)]) (by kernel_rfl) (hq ([(jn j0 0), .bool false, .bool false, undef, .bool false], [(gn j0 0), (gn j0 1)]) (plC (gn_pl hj0 0) (plC (gn_pl hj0 1) rfl)))
 clear h hres
 rintro i0 e0 out5 j0 r hj0 he0 hi0 h k
 refine WL_rnd ?_
 revert h
 show ref07_Count_L1 r_ref07_Count limit i0 e0 out5 = some r → _
 unfold ref07_Count_L1
 let o1 : List (PC P G) := [pb (B := ltI ((i0 : Nat) : Int) ((n.kids.length : Nat) : Int)) (b := true) (ltT hi0)]
 refine cndI (fun hb2 => ?_) fun hb2 => ?_
 refine bndI fun y1 hy1 => ?_
 rintro ⟨⟩
 exact go_nx Hd.plainG [1, 2, 4, 10, 12, 16, 26, 28, 34, 36, 53] [fq (gn_pl hj0 0), fq (layNd.plG e0)] [fbp (ndC n) (layNd.pl n)] _ _ (runS 300 (o1 ++ [pb hb2, pix (ix25 .lost he0), pk, pcall (hr_ref07_Count e0 (wsub limit out5) y1 hy1), pk, pinc i0 (by omega)])) (by kernel_rfl) (k ([(jn j0 0), .bool true, .bool true, .bool true, .bool true], [(gn j0 0), .agg (ndC e0)]) (plC (gn_pl hj0 0) (plC (layNd.plG e0) rfl)))
 rintro ⟨⟩
 exact go_ex Hd.plainG [1, 10, 16, 26, 28, 34, 36, 53] [fq (gn_pl hj0 0), fq (gn_pl hj0 1)] [fbp (ndC n) (layNd.pl n)] 0 _ _ (runS 300 (o1 ++ [pb hb2])) (by kernel_rfl) (k ([(jn j0 0), .bool true, .bool true, .bool false, .bool false], [(gn j0 0), (gn j0 1)]) (plC (gn_pl hj0 0) (plC (gn_pl hj0 1) rfl)))
 rintro out5_2 rfl jx_2 hjx_2
 revert h
 clear hres
 dsimp only [lpK]
 intro h
 have hE := Option.some.inj h
 subst hE
 exact go_retA _ _ (runX 300 []) (by kernel_rfl) .body .sc
 rintro v rfl
 dsimp only [lpK] at h
 cases h
 exact .outer .body
noncomputable def ref07_Count_M : Nat → Nd → Int → Option Int
 | 0, _, _ => none
 | qn + 1, n, limit => ref07_Count_B (ref07_Count_M qn) n limit
theorem ref07_Count_all : ∀ qn : Nat, ∀ (n : Nd) (limit : Int) (yR : Int), ref07_Count_M qn n limit = some yR → Pure P G 40 [.agg (ndC n), .sc (.int .i64 limit)] (.sc (.int .i64 yR)) := by
 intro qn
 induction qn with
 | zero => exact (fun _ _ _ h => by simp only [ref07_Count_M] at h; cases h)
 | succ qn ih => exact (fun n limit yR h => ref07_Count_step _ ih n limit yR (by rw [ref07_Count_M] at h; exact h))
noncomputable def ref07_Count_R (n : Nd) (limit : Int) : Option Int := evt (fun qn => ref07_Count_M qn n limit)
theorem ref07_Count_ok (n : Nd) (limit : Int) (yR : Int) (h : ref07_Count_R n limit = some yR) : Pure P G 40 [.agg (ndC n), .sc (.int .i64 limit)] (.sc (.int .i64 yR)) := by
 obtain ⟨qn, h⟩ := evtE h
 exact (ref07_Count_all qn) n limit yR h
noncomputable def B23 : Code := bodyOf Tryz.f23
theorem b23 : Tryz.f23.body = some B23 := by kernel_rfl
noncomputable def ref07_Few_B  (n : Nd) (limit : Int) : Option Bool := (ref07_Count_R n (wadd limit 1)).bind fun y1 => cond (leI y1 limit) (some true) (some false)
theorem ref07_Few_step   (n : Nd) (limit : Int) (yR : Bool) (h : ref07_Few_B  n limit = some yR) : Pure P G 23 [.agg (ndC n), .sc (.int .i64 limit)] (.sc (.bool yR)) := by
 unfold ref07_Few_B at h
 refine pureM Hd.mixed Hd.plainG (WC_body Tryz.func23 b23 ?_) (plC (layNd.plG n) (plC rfl rfl)) rfl
 revert h
 refine bndI fun y1 hy1 => ?_
 refine cndI (fun hb1 => ?_) fun hb1 => ?_
 rintro ⟨⟩
 exact rS (runS 300 [pk, pcall (ref07_Count_ok n (wadd limit 1) y1 hy1), pb hb1]) (by kernel_rfl)
 rintro ⟨⟩
 exact rS (runS 300 [pk, pcall (ref07_Count_ok n (wadd limit 1) y1 hy1), pb hb1]) (by kernel_rfl)
noncomputable def B12 : Code := bodyOf Tryz.f12
theorem b12 : Tryz.f12.body = some B12 := by kernel_rfl
noncomputable def law09_few_B  (a : Nd) (b : Nd) : Option Bool := (ref07_Few_B a 400).bind fun y1 => cond y1 ((ref07_Few_B b 400).bind fun y2 => some y2) (some false)
theorem law09_few_step   (a : Nd) (b : Nd) (yR : Bool) (h : law09_few_B  a b = some yR) : Pure P G 12 [.agg (ndC a), .agg (ndC b)] (.sc (.bool yR)) := by
 unfold law09_few_B at h
 refine pureM Hd.mixed Hd.plainG (WC_body Tryz.func12 b12 ?_) (plC (layNd.plG a) (plC (layNd.plG b) rfl)) rfl
 revert h
 refine bndI fun y1 hy1 => ?_
 refine cndI (fun hv => ?_) fun hv => ?_
 subst hv
 refine bndI fun y2 hy2 => ?_
 intro h
 have hE := Option.some.inj h
 subst hE
 exact rS (runS 300 [pcall (ref07_Few_step a 400 true hy1), pcall (ref07_Few_step b 400 y2 hy2)]) (by kernel_rfl)
 subst hv
 rintro ⟨⟩
 exact rS (runS 300 [pcall (ref07_Few_step a 400 false hy1)]) (by kernel_rfl)
noncomputable def B50 : Code := bodyOf Tryz.f50
theorem b50 : Tryz.f50.body = some B50 := by kernel_rfl
noncomputable def parser_checker_node_B  (c : Ck) (n : Nd) (depth : Int) : Option (Bool × Int) := cond (leI (wadd c.nodes 1) 2000) ((some (leI depth 40)).bind fun q1 => some (q1, (wadd c.nodes 1))) (some (false, (wadd c.nodes 1)))
theorem parser_checker_node_U (c : Ck) (n : Nd) (depth : Int) (yR : Bool) (qc_nodesR : Int) (hS : Sound P G (.call 50 [.ptr 0 0, .agg (ndC n), .sc (.int .i64 depth)] ⟨[(0, .cells (ckC c))], 1, [], 0⟩ (.ret (.sc (.bool yR))) ⟨[(0, .cells [.sc (.int .i64 qc_nodesR)])], 1, [], 0⟩)) (u0 : Nat) (hnb : [u0].Nodup) (hnt : ([] : List Nat).Nodup) : Cd.ok P G (.callU 50 [.ptr u0 0, .agg (ndC n), .sc (.int .i64 depth)] (.ret (.sc (.bool yR))) [(u0, .cells (ckC c))] [] [(u0, .cells [.sc (.int .i64 qc_nodesR)])] []) :=
 frameU (M := [.cells (ckC c)]) (M2 := [.cells [.sc (.int .i64 qc_nodesR)]]) (T := []) (T2 := []) (k := 1) (j := 0) Hd.plainG _ _ _ _ hS rfl rfl rfl rfl rfl hnb hnt rfl rfl (.cons (.cells (.pl (layCk.pl c))) .nil) (.cons (.cells (.pl (plC rfl rfl))) .nil) (.cons (.ptr (by decide)) (.cons (.pl (layNd.plG n)) (.cons (.pl rfl) .nil))) (.pl rfl) (fun e he => by simp only [List.mem_singleton] at he; subst he; exact (.arg (.here .ptr)))
theorem parser_checker_node_step   (c : Ck) (n : Nd) (depth : Int) (yR : Bool) (qc_nodesR : Int) (h : parser_checker_node_B  c n depth = some (yR, qc_nodesR)) : Sound P G (.call 50 [.ptr 0 0, .agg (ndC n), .sc (.int .i64 depth)] ⟨[(0, .cells (ckC c))], 1, [], 0⟩ (.ret (.sc (.bool yR))) ⟨[(0, .cells [.sc (.int .i64 qc_nodesR)])], 1, [], 0⟩) := by
 unfold parser_checker_node_B at h
 refine soundM Hd.mixed (WC_body Tryz.func50 b50 ?_)
 revert h
 refine cndI (fun hb1 => ?_) fun hb1 => ?_
 refine bndI fun q1 hq1 => ?_
 intro h
 have hE := Option.some.inj h
 obtain ⟨hE0, hF0⟩ := Prod.mk.inj hE
 subst hE0 hF0
 exact go_retM Hd.plainG _ _ [0] [] [fbp [.sc (.int .i64 (wadd c.nodes 1))] (plC rfl rfl)] _ _ (runS 300 [pk, pb hb1, pbin (zleq3 hq1 (.tmp 20) (.const (.int .i64 40)))]) (by kernel_rfl) .body
 intro h
 have hE := Option.some.inj h
 obtain ⟨hE0, hF0⟩ := Prod.mk.inj hE
 subst hE0 hF0
 exact go_retM Hd.plainG _ _ [0] [] [fbp [.sc (.int .i64 (wadd c.nodes 1))] (plC rfl rfl)] _ _ (runS 300 [pk, pb hb1]) (by kernel_rfl) .body
noncomputable def B82 : Code := bodyOf Tryz.f82
theorem b82 : Tryz.f82.body = some B82 := by kernel_rfl
noncomputable def api_Piecex_L1  (s2 : (List Pc)) (i0 : Nat) (e0 : Pc)  : Option (Lp Unit Unit Bool) := (s2[i0]?).bind fun x1 => cond (samePc e0 x1) (some (.nx ())) (some (.rt false))
noncomputable def api_Piecex_B  (s1 : (List Pc)) (s2 : (List Pc)) : Option Bool := cond (eqI ((s1.length : Nat) : Int) ((s2.length : Nat) : Int)) ((lim s1.length (foldL (fun i y x => api_Piecex_L1  s2 i y ) (fun x => ()) (s1.drop 0) 0 ())).bind (lpK (fun (_ : Unit) => some true) (fun v => some v))) (some false)
theorem api_Piecex_step   (s1 : (List Pc)) (s2 : (List Pc)) (yR : Bool) (h : api_Piecex_B  s1 s2 = some yR) : Pure P G 82 [.sl .lost s1.length (rows pcC s1), .sl .lost s2.length (rows pcC s2)] (.sc (.bool yR)) := by
 unfold api_Piecex_B at h
 refine pureM Hd.mixed Hd.plainG (WC_body Tryz.func82 b82 ?_) (plC (layPc.plS s1) (plC (layPc.plS s2) rfl)) rfl
 revert h
 refine cndI (fun hb1 => ?_) fun hb1 => ?_
 refine bndI fun res hres h => ?_
 have hlen := (limE hres).1
 replace hres := (limE hres).2
 refine go_at [] [0, 1, 4, 10, 12, 13, 14, 19, 23, 24] 0 (sub B82 [1, 1, 0, 1, 0, 0]) [.code (sub B82 [1, 1, 1])] _ _ (runS 300 [pn hb1]) (by kernel_rfl) (foldP (fn := Tryz.f82) (m := 0) (fun v => .sc (.bool v)) 0 s1 (fun i0 (_ : Unit) (j0 : JJ) => frm 26 0 [(0, .sl .lost s1.length (rows pcC s1)), (1, .sl .lost s2.length (rows pcC s2)), (12, .sc (.int .i64 ((s1.length : Nat) : Int))), (13, .sc (.int .i64 ((i0 : Nat) : Int)))] [4, 10, 14, 24] 0 [19, 23] 0 j0) (fun (_ : Nat) (_ : Unit) (_ : JJ) => ⟨[], 0, [], 0⟩) (fun (j : JJ) => plainL j.2 = true) (fun (_ : Unit) (jx : JJ) => frm 26 0 [] [4, 10, 14, 24] 0 [19, 23] 0 jx) (fun (_ : Unit) (_ : JJ) => ⟨[], 0, [], 0⟩) (fun (j : JJ) => plainL j.2 = true) ?_ ?_ 0 hres ?_ ?_ ([.bool false, .bool false], [.sc undef, .sc undef]) (plC rfl (plC rfl rfl)))
 rintro i0 ⟨⟩ j0 hj0 hge hq
 clear h hres
 refine WL_rnd ?_
 exact go_ex Hd.plainG [8, 20, 28, 39, 47, 48] [fq (gn_pl hj0 0), fq (gn_pl hj0 1)] [] 0 _ _ (runS 300 [pb (B := ltI ((i0 : Nat) : Int) ((s1.length : Nat) : Int)) (b := false) (ltF hge)]) (by kernel_rfl) (hq ([(jn j0 0), (jn j0 1), .bool false, (jn j0 3)], [(gn j0 0), (gn j0 1)]) (plC (gn_pl hj0 0) (plC (gn_pl hj0 1) rfl)))
 clear h hres
 rintro i0 e0 ⟨⟩ j0 r hj0 he0 hi0 h k
 refine WL_rnd ?_
 revert h
 show api_Piecex_L1  s2 i0 e0  = some r → _
 unfold api_Piecex_L1
 refine bndI fun x1 hx1 => ?_
 refine cndI (fun hb2 => ?_) fun hb2 => ?_
 rintro ⟨⟩
 exact go_nx Hd.plainG [1, 3, 8, 20, 24, 26, 28, 39, 47, 48] [fq (layPc.plS s1), fq (layPc.plS s2), fq (layPc.plG e0), fq (layPc.plG x1)] [] _ _ (runS 300 [pb (B := ltI ((i0 : Nat) : Int) ((s1.length : Nat) : Int)) (b := true) (ltT hi0), pix (ix22 .lost he0), pix (ix22 .lost hx1), pbin (neq80 hb2 (.tmp 19) (.tmp 23)), pinc i0 (by omega)]) (by kernel_rfl) (k ([(jn j0 0), (jn j0 1), .bool true, .bool false], [.agg (pcC e0), .agg (pcC x1)]) (plC (layPc.plG e0) (plC (layPc.plG x1) rfl)))
 rintro ⟨⟩
 exact go_retA _ _ (runS 300 [pb (B := ltI ((i0 : Nat) : Int) ((s1.length : Nat) : Int)) (b := true) (ltT hi0), pix (ix22 .lost he0), pix (ix22 .lost hx1), pbin (neq80 hb2 (.tmp 19) (.tmp 23))]) (by kernel_rfl) (.rnd k) .sc
 rintro ⟨⟩ rfl jx_2 hjx_2
 revert h
 clear hres
 dsimp only [lpK]
 intro h
 have hE := Option.some.inj h
 subst hE
 exact go_retA _ _ (runX 300 []) (by kernel_rfl) .body .sc
 rintro v rfl
 dsimp only [lpK] at h
 cases h
 exact .outer .body
 rintro ⟨⟩
 exact rS (runS 300 [pn hb1]) (by kernel_rfl)
noncomputable def B51 : Code := bodyOf Tryz.f51
theorem b51 : Tryz.f51.body = some B51 := by kernel_rfl
noncomputable def parser_bare_B  (n : Nd) (fields : Nd) : Option Bool := cond (eqB n.name.data.toList fields.name.data.toList) (cond (eqB n.unit.data.toList fields.unit.data.toList) (cond (eqI n.n fields.n) (cond (eqI n.fr fields.fr) (cond (eqI n.to fields.to) (cond (eqI n.known fields.known) (cond (eqI n.tab.den fields.tab.den) ((api_Piecex_B n.tab.ps fields.tab.ps).bind fun y1 => some y1) (some false)) (some false)) (some false)) (some false)) (some false)) (some false)) (some false)
theorem parser_bare_step   (n : Nd) (fields : Nd) (yR : Bool) (h : parser_bare_B  n fields = some yR) : Pure P G 51 [.agg (ndC n), .agg (ndC fields)] (.sc (.bool yR)) := by
 unfold parser_bare_B at h
 refine pureM Hd.mixed Hd.plainG (WC_body Tryz.func51 b51 ?_) (plC (layNd.plG n) (plC (layNd.plG fields) rfl)) rfl
 revert h
 refine cndI (fun hb1 => ?_) fun hb1 => ?_
 refine cndI (fun hb2 => ?_) fun hb2 => ?_
 let o1 : List (PC P G) := [pn hb1, pn hb2]
 refine cndI (fun hb3 => ?_) fun hb3 => ?_
 refine cndI (fun hb4 => ?_) fun hb4 => ?_
 refine cndI (fun hb5 => ?_) fun hb5 => ?_
 refine cndI (fun hb6 => ?_) fun hb6 => ?_
 refine cndI (fun hb7 => ?_) fun hb7 => ?_
 refine bndI fun y1 hy1 => ?_
 intro h
 have hE := Option.some.inj h
 subst hE
 exact rS (runS 300 (o1 ++ [pn hb3, pn hb4, pn hb5, pn hb6, pb hb7, pcall (api_Piecex_step n.tab.ps fields.tab.ps y1 hy1)])) (by kernel_rfl)
 rintro ⟨⟩
 exact rS (runS 300 (o1 ++ [pn hb3, pn hb4, pn hb5, pn hb6, pb hb7])) (by kernel_rfl)
 rintro ⟨⟩
 exact rS (runS 300 (o1 ++ [pn hb3, pn hb4, pn hb5, pn hb6])) (by kernel_rfl)
 rintro ⟨⟩
 exact rS (runS 300 (o1 ++ [pn hb3, pn hb4, pn hb5])) (by kernel_rfl)
 rintro ⟨⟩
 exact rS (runS 300 (o1 ++ [pn hb3, pn hb4])) (by kernel_rfl)
 rintro ⟨⟩
 exact rS (runS 300 (o1 ++ [pn hb3])) (by kernel_rfl)
 rintro ⟨⟩
 exact rS (runS 300 [pn hb1, pn hb2]) (by kernel_rfl)
 rintro ⟨⟩
 exact rS (runS 300 [pn hb1]) (by kernel_rfl)
noncomputable def B113 : Code := bodyOf Tryz.f113
theorem b113 : Tryz.f113.body = some B113 := by kernel_rfl
noncomputable def parser_goodCur_L1   (i0 : Nat) (e0 : UInt8)  : Option (Lp Unit Unit Bool) := cond (ltI ((e0.toNat : Nat) : Int) 65) (some (.rt false)) (cond (ltI 90 ((e0.toNat : Nat) : Int)) (some (.rt false)) (some (.nx ())))
noncomputable def parser_goodCur_B  (text : ByteArray) : Option Bool := cond (eqI ((text.data.toList.length : Nat) : Int) 3) ((lim text.data.toList.length (foldL (fun i y x => parser_goodCur_L1   i y ) (fun x => ()) (text.data.toList.drop 0) 0 ())).bind (lpK (fun (_ : Unit) => some true) (fun v => some v))) (some false)
theorem parser_goodCur_step   (text : ByteArray) (yR : Bool) (h : parser_goodCur_B  text = some yR) : Pure P G 113 [.sc (.string text)] (.sc (.bool yR)) := by
 unfold parser_goodCur_B at h
 refine pureM Hd.mixed Hd.plainG (WC_body Tryz.func113 b113 ?_) (plC rfl rfl) rfl
 revert h
 refine cndI (fun hb1 => ?_) fun hb1 => ?_
 refine bndI fun res hres h => ?_
 have hlen := (limE hres).1
 replace hres := (limE hres).2
 refine go_at [] [0, 2, 6, 8, 9, 10, 15, 16, 20, 21] 0 (sub B113 [1, 1, 0, 1, 0, 0]) [.code (sub B113 [1, 1, 1])] _ _ (runS 300 [pn hb1]) (by kernel_rfl) (foldP (fn := Tryz.f113) (m := 0) (fun v => .sc (.bool v)) 0 text.data.toList (fun i0 (_ : Unit) (j0 : JJ) => frm 23 0 [(0, .sc (.string text)), (8, .sc (.int .i64 ((text.data.toList.length : Nat) : Int))), (9, .sc (.int .i64 ((i0 : Nat) : Int)))] [2, 6, 10, 15, 16, 20, 21] 0 [] 0 j0) (fun (_ : Nat) (_ : Unit) (_ : JJ) => ⟨[], 0, [], 0⟩) (fun (j : JJ) => plainL j.2 = true) (fun (_ : Unit) (jx : JJ) => frm 23 0 [] [2, 6, 10, 15, 16, 20, 21] 0 [] 0 jx) (fun (_ : Unit) (_ : JJ) => ⟨[], 0, [], 0⟩) (fun (j : JJ) => plainL j.2 = true) ?_ ?_ 0 hres ?_ ?_ ([.bool false, .bool false], []) rfl)
 rintro i0 ⟨⟩ j0 hj0 hge hq
 clear h hres
 refine WL_rnd ?_
 exact go_ex Hd.plainG [4, 12, 20, 30, 32, 40, 42] [] [] 0 _ _ (runS 300 [pb (B := ltI ((i0 : Nat) : Int) ((text.data.toList.length : Nat) : Int)) (b := false) (ltF hge)]) (by kernel_rfl) (hq ([(jn j0 0), (jn j0 1), .bool false, (jn j0 3), (jn j0 4), (jn j0 5), (jn j0 6)], []) rfl)
 clear h hres
 rintro i0 e0 ⟨⟩ j0 r hj0 he0 hi0 h k
 refine WL_rnd ?_
 revert h
 show parser_goodCur_L1   i0 e0  = some r → _
 unfold parser_goodCur_L1
 let o1 : List (PC P G) := [pb (B := ltI ((i0 : Nat) : Int) ((text.data.toList.length : Nat) : Int)) (b := true) (ltT hi0), pst (ixb9 he0)]
 refine cndI (fun hb2 => ?_) fun hb2 => ?_
 rintro ⟨⟩
 exact go_retA _ _ (runS 300 (o1 ++ [pb hb2])) (by kernel_rfl) (.rnd k) .sc
 refine cndI (fun hb3 => ?_) fun hb3 => ?_
 rintro ⟨⟩
 exact go_retA _ _ (runS 300 (o1 ++ [pb hb2, pst (ixb9 he0), pb hb3])) (by kernel_rfl) (.rnd k) .sc
 rintro ⟨⟩
 exact go_nx Hd.plainG [0, 4, 12, 16, 18, 20, 30, 32, 40, 42] [] [] _ _ (runS 300 (o1 ++ [pb hb2, pst (ixb9 he0), pb hb3, pinc i0 (by omega)])) (by kernel_rfl) (k ([(jn j0 0), (jn j0 1), .bool true, .bool false, .bool false, .bool false, .bool false], []) rfl)
 rintro ⟨⟩ rfl jx_1 hjx_1
 revert h
 clear hres
 dsimp only [lpK]
 intro h
 have hE := Option.some.inj h
 subst hE
 exact go_retA _ _ (runX 300 []) (by kernel_rfl) .body .sc
 rintro v rfl
 dsimp only [lpK] at h
 cases h
 exact .outer .body
 rintro ⟨⟩
 exact rS (runS 300 [pn hb1]) (by kernel_rfl)
noncomputable def B76 : Code := bodyOf Tryz.f76
theorem b76 : Tryz.f76.body = some B76 := by kernel_rfl
noncomputable def parser_goodUnit_B  (text : ByteArray) : Option Bool := cond (eqB text.data.toList truthS.data.toList) (some true) (cond (eqB text.data.toList numberS.data.toList) (some true) (cond (eqB text.data.toList minutesS.data.toList) (some true) ((parser_goodCur_B text).bind fun y1 => some y1)))
theorem parser_goodUnit_step   (text : ByteArray) (yR : Bool) (h : parser_goodUnit_B  text = some yR) : Pure P G 76 [.sc (.string text)] (.sc (.bool yR)) := by
 unfold parser_goodUnit_B at h
 refine pureM Hd.mixed Hd.plainG (WC_body Tryz.func76 b76 ?_) (plC rfl rfl) rfl
 revert h
 refine cndI (fun hb1 => ?_) fun hb1 => ?_
 rintro ⟨⟩
 exact rS (runS 300 [pb hb1]) (by kernel_rfl)
 refine cndI (fun hb2 => ?_) fun hb2 => ?_
 rintro ⟨⟩
 exact rS (runS 300 [pb hb1, pb hb2]) (by kernel_rfl)
 refine cndI (fun hb3 => ?_) fun hb3 => ?_
 rintro ⟨⟩
 exact rS (runS 300 [pb hb1, pb hb2, pb hb3]) (by kernel_rfl)
 refine bndI fun y1 hy1 => ?_
 intro h
 have hE := Option.some.inj h
 subst hE
 exact rS (runS 300 [pb hb1, pb hb2, pb hb3, pcall (parser_goodCur_step text y1 hy1)]) (by kernel_rfl)
noncomputable def B114 : Code := bodyOf Tryz.f114
theorem b114 : Tryz.f114.body = some B114 := by kernel_rfl
noncomputable def parser_isKey_B  (word : ByteArray) : Option Bool := cond (eqB word.data.toList factS.data.toList) (some true) (cond (eqB word.data.toList lineS.data.toList) (some true) (cond (eqB word.data.toList articleS.data.toList) (some true) (cond (eqB word.data.toList forS.data.toList) (some true) (cond (eqB word.data.toList rankS.data.toList) (some true) (cond (eqB word.data.toList fromS.data.toList) (some true) (cond (eqB word.data.toList toS.data.toList) (some true) (cond (eqB word.data.toList knownS.data.toList) (some true) (cond (eqB word.data.toList whenS.data.toList) (some true) (cond (eqB word.data.toList unlessS.data.toList) (some true) (cond (eqB word.data.toList amountS.data.toList) (some true) (cond (eqB word.data.toList truthS.data.toList) (some true) (cond (eqB word.data.toList numberS.data.toList) (some true) (cond (eqB word.data.toList minutesS.data.toList) (some true) (cond (eqB word.data.toList minS.data.toList) (some true) (cond (eqB word.data.toList earnS.data.toList) (some true) (cond (eqB word.data.toList deductS.data.toList) (some true) (cond (eqB word.data.toList floorS.data.toList) (some true) (cond (eqB word.data.toList infoS.data.toList) (some true) (cond (eqB word.data.toList orS.data.toList) (some true) (cond (eqB word.data.toList andS.data.toList) (some true) (cond (eqB word.data.toList notS.data.toList) (some true) (cond (eqB word.data.toList atS.data.toList) (some true) (cond (eqB word.data.toList trueS.data.toList) (some true) (cond (eqB word.data.toList falseS.data.toList) (some true) (cond (eqB word.data.toList artS.data.toList) (some true) (cond (eqB word.data.toList weekdayS.data.toList) (some true) (cond (eqB word.data.toList dayS.data.toList) (some true) (cond (eqB word.data.toList monthS.data.toList) (some true) (cond (eqB word.data.toList yearS.data.toList) (some true) (cond (eqB word.data.toList leastS.data.toList) (some true) (cond (eqB word.data.toList greatestS.data.toList) (some true) (cond (eqB word.data.toList tableS.data.toList) (some true) (some false)))))))))))))))))))))))))))))))))
theorem parser_isKey_step   (word : ByteArray) (yR : Bool) (h : parser_isKey_B  word = some yR) : Pure P G 114 [.sc (.string word)] (.sc (.bool yR)) := by
 unfold parser_isKey_B at h
 refine pureM Hd.mixed Hd.plainG (WC_body Tryz.func114 b114 ?_) (plC rfl rfl) rfl
 revert h
 refine cndI (fun hb1 => ?_) fun hb1 => ?_
 rintro ⟨⟩
 exact rS (runS 300 [pb hb1]) (by kernel_rfl)
 let o1 : List (PC P G) := [pb hb1]
 refine cndI (fun hb2 => ?_) fun hb2 => ?_
 rintro ⟨⟩
 exact rS (runS 300 (o1 ++ [pb hb2])) (by kernel_rfl)
 let o2 : List (PC P G) := o1 ++ [pb hb2]
 refine cndI (fun hb3 => ?_) fun hb3 => ?_
 rintro ⟨⟩
 exact rS (runS 300 (o2 ++ [pb hb3])) (by kernel_rfl)
 let o3 : List (PC P G) := o2 ++ [pb hb3]
 refine cndI (fun hb4 => ?_) fun hb4 => ?_
 rintro ⟨⟩
 exact rS (runS 300 (o3 ++ [pb hb4])) (by kernel_rfl)
 let o4 : List (PC P G) := o3 ++ [pb hb4]
 refine cndI (fun hb5 => ?_) fun hb5 => ?_
 rintro ⟨⟩
 exact rS (runS 300 (o4 ++ [pb hb5])) (by kernel_rfl)
 let o5 : List (PC P G) := o4 ++ [pb hb5]
 refine cndI (fun hb6 => ?_) fun hb6 => ?_
 rintro ⟨⟩
 exact rS (runS 300 (o5 ++ [pb hb6])) (by kernel_rfl)
 let o6 : List (PC P G) := o5 ++ [pb hb6]
 refine cndI (fun hb7 => ?_) fun hb7 => ?_
 rintro ⟨⟩
 exact rS (runS 300 (o6 ++ [pb hb7])) (by kernel_rfl)
 let o7 : List (PC P G) := o6 ++ [pb hb7]
 refine cndI (fun hb8 => ?_) fun hb8 => ?_
 rintro ⟨⟩
 exact rS (runS 300 (o7 ++ [pb hb8])) (by kernel_rfl)
 let o8 : List (PC P G) := o7 ++ [pb hb8]
 refine cndI (fun hb9 => ?_) fun hb9 => ?_
 rintro ⟨⟩
 exact rS (runS 300 (o8 ++ [pb hb9])) (by kernel_rfl)
 let o9 : List (PC P G) := o8 ++ [pb hb9]
 refine cndI (fun hb10 => ?_) fun hb10 => ?_
 rintro ⟨⟩
 exact rS (runS 300 (o9 ++ [pb hb10])) (by kernel_rfl)
 let o10 : List (PC P G) := o9 ++ [pb hb10]
 refine cndI (fun hb11 => ?_) fun hb11 => ?_
 rintro ⟨⟩
 exact rS (runS 300 (o10 ++ [pb hb11])) (by kernel_rfl)
 let o11 : List (PC P G) := o10 ++ [pb hb11]
 refine cndI (fun hb12 => ?_) fun hb12 => ?_
 rintro ⟨⟩
 exact rS (runS 300 (o11 ++ [pb hb12])) (by kernel_rfl)
 let o12 : List (PC P G) := o11 ++ [pb hb12]
 refine cndI (fun hb13 => ?_) fun hb13 => ?_
 rintro ⟨⟩
 exact rS (runS 300 (o12 ++ [pb hb13])) (by kernel_rfl)
 let o13 : List (PC P G) := o12 ++ [pb hb13]
 refine cndI (fun hb14 => ?_) fun hb14 => ?_
 rintro ⟨⟩
 exact rS (runS 300 (o13 ++ [pb hb14])) (by kernel_rfl)
 let o14 : List (PC P G) := o13 ++ [pb hb14]
 refine cndI (fun hb15 => ?_) fun hb15 => ?_
 rintro ⟨⟩
 exact rS (runS 300 (o14 ++ [pb hb15])) (by kernel_rfl)
 let o15 : List (PC P G) := o14 ++ [pb hb15]
 refine cndI (fun hb16 => ?_) fun hb16 => ?_
 rintro ⟨⟩
 exact rS (runS 300 (o15 ++ [pb hb16])) (by kernel_rfl)
 let o16 : List (PC P G) := o15 ++ [pb hb16]
 refine cndI (fun hb17 => ?_) fun hb17 => ?_
 rintro ⟨⟩
 exact rS (runS 300 (o16 ++ [pb hb17])) (by kernel_rfl)
 let o17 : List (PC P G) := o16 ++ [pb hb17]
 refine cndI (fun hb18 => ?_) fun hb18 => ?_
 rintro ⟨⟩
 exact rS (runS 300 (o17 ++ [pb hb18])) (by kernel_rfl)
 let o18 : List (PC P G) := o17 ++ [pb hb18]
 refine cndI (fun hb19 => ?_) fun hb19 => ?_
 rintro ⟨⟩
 exact rS (runS 300 (o18 ++ [pb hb19])) (by kernel_rfl)
 let o19 : List (PC P G) := o18 ++ [pb hb19]
 refine cndI (fun hb20 => ?_) fun hb20 => ?_
 rintro ⟨⟩
 exact rS (runS 300 (o19 ++ [pb hb20])) (by kernel_rfl)
 let o20 : List (PC P G) := o19 ++ [pb hb20]
 refine cndI (fun hb21 => ?_) fun hb21 => ?_
 rintro ⟨⟩
 exact rS (runS 300 (o20 ++ [pb hb21])) (by kernel_rfl)
 let o21 : List (PC P G) := o20 ++ [pb hb21]
 refine cndI (fun hb22 => ?_) fun hb22 => ?_
 rintro ⟨⟩
 exact rS (runS 300 (o21 ++ [pb hb22])) (by kernel_rfl)
 let o22 : List (PC P G) := o21 ++ [pb hb22]
 refine cndI (fun hb23 => ?_) fun hb23 => ?_
 rintro ⟨⟩
 exact rS (runS 300 (o22 ++ [pb hb23])) (by kernel_rfl)
 let o23 : List (PC P G) := o22 ++ [pb hb23]
 refine cndI (fun hb24 => ?_) fun hb24 => ?_
 rintro ⟨⟩
 exact rS (runS 300 (o23 ++ [pb hb24])) (by kernel_rfl)
 let o24 : List (PC P G) := o23 ++ [pb hb24]
 refine cndI (fun hb25 => ?_) fun hb25 => ?_
 rintro ⟨⟩
 exact rS (runS 300 (o24 ++ [pb hb25])) (by kernel_rfl)
 refine cndI (fun hb26 => ?_) fun hb26 => ?_
 rintro ⟨⟩
 exact rS (runS 300 (o24 ++ [pb hb25, pb hb26])) (by kernel_rfl)
 let o25 : List (PC P G) := o24 ++ [pb hb25, pb hb26]
 refine cndI (fun hb27 => ?_) fun hb27 => ?_
 rintro ⟨⟩
 exact rS (runS 300 (o25 ++ [pb hb27])) (by kernel_rfl)
 refine cndI (fun hb28 => ?_) fun hb28 => ?_
 rintro ⟨⟩
 exact rS (runS 300 (o25 ++ [pb hb27, pb hb28])) (by kernel_rfl)
 let o26 : List (PC P G) := o25 ++ [pb hb27, pb hb28]
 refine cndI (fun hb29 => ?_) fun hb29 => ?_
 rintro ⟨⟩
 exact rS (runS 300 (o26 ++ [pb hb29])) (by kernel_rfl)
 refine cndI (fun hb30 => ?_) fun hb30 => ?_
 rintro ⟨⟩
 exact rS (runS 300 (o26 ++ [pb hb29, pb hb30])) (by kernel_rfl)
 refine cndI (fun hb31 => ?_) fun hb31 => ?_
 rintro ⟨⟩
 exact rS (runS 300 (o26 ++ [pb hb29, pb hb30, pb hb31])) (by kernel_rfl)
 refine cndI (fun hb32 => ?_) fun hb32 => ?_
 rintro ⟨⟩
 exact rS (runS 300 (o26 ++ [pb hb29, pb hb30, pb hb31, pb hb32])) (by kernel_rfl)
 refine cndI (fun hb33 => ?_) fun hb33 => ?_
 rintro ⟨⟩
 exact rS (runS 300 (o26 ++ [pb hb29, pb hb30, pb hb31, pb hb32, pb hb33])) (by kernel_rfl)
 rintro ⟨⟩
 exact rS (runS 300 (o26 ++ [pb hb29, pb hb30, pb hb31, pb hb32, pb hb33])) (by kernel_rfl)
noncomputable def B77 : Code := bodyOf Tryz.f77
theorem b77 : Tryz.f77.body = some B77 := by kernel_rfl
noncomputable def parser_goodName_L1   (i0 : Nat) (e0 : UInt8)  : Option (Lp Unit Unit Bool) := cond (ltI ((e0.toNat : Nat) : Int) 97) (cond (ltI ((e0.toNat : Nat) : Int) 48) (some (.rt false)) (cond (ltI 57 ((e0.toNat : Nat) : Int)) (cond (eqI ((e0.toNat : Nat) : Int) 95) (some (.nx ())) (some (.rt false))) (some (.nx ())))) (cond (ltI 122 ((e0.toNat : Nat) : Int)) (some (.rt false)) (some (.nx ())))
noncomputable def parser_goodName_B  (text : ByteArray) : Option Bool := cond (eqB text.data.toList ByteArray.empty.data.toList) (some false) (cond (ltI 16 ((text.data.toList.length : Nat) : Int)) (some false) ((text.data.toList[0]?).bind fun c1 => cond (ltI ((c1.toNat : Nat) : Int) 97) (some false) (cond (ltI 122 ((c1.toNat : Nat) : Int)) (some false) ((parser_isKey_B text).bind fun y2 => cond y2 (some false) ((lim text.data.toList.length (foldL (fun i y x => parser_goodName_L1   i y ) (fun x => ()) (text.data.toList.drop 0) 0 ())).bind (lpK (fun (_ : Unit) => some true) (fun v => some v)))))))
theorem parser_goodName_step   (text : ByteArray) (yR : Bool) (h : parser_goodName_B  text = some yR) : Pure P G 77 [.sc (.string text)] (.sc (.bool yR)) := by
 unfold parser_goodName_B at h
 refine pureM Hd.mixed Hd.plainG (WC_body Tryz.func77 b77 ?_) (plC rfl rfl) rfl
 revert h
 refine cndI (fun hb1 => ?_) fun hb1 => ?_
 rintro ⟨⟩
 exact rS (runS 300 [pb hb1]) (by kernel_rfl)
 refine cndI (fun hb2 => ?_) fun hb2 => ?_
 rintro ⟨⟩
 exact rS (runS 300 [pb hb1, pb hb2]) (by kernel_rfl)
 refine bndI fun c1 hc1 => ?_
 let o1 : List (PC P G) := [pb hb1, pb hb2, pst (ixb9 hc1)]
 refine cndI (fun hb3 => ?_) fun hb3 => ?_
 rintro ⟨⟩
 exact rS (runS 300 (o1 ++ [pb hb3])) (by kernel_rfl)
 refine cndI (fun hb4 => ?_) fun hb4 => ?_
 rintro ⟨⟩
 exact rS (runS 300 (o1 ++ [pb hb3, pst (ixb9 hc1), pb hb4])) (by kernel_rfl)
 refine bndI fun y2 hy2 => ?_
 refine cndI (fun hv => ?_) fun hv => ?_
 subst hv
 rintro ⟨⟩
 exact rS (runS 300 (o1 ++ [pb hb3, pst (ixb9 hc1), pb hb4, pcall (parser_isKey_step text true hy2)])) (by kernel_rfl)
 subst hv
 refine bndI fun res hres h => ?_
 have hlen := (limE hres).1
 replace hres := (limE hres).2
 refine go_at [] [0, 2, 6, 7, 10, 11, 12, 15, 16, 17, 20, 21, 22, 24, 25, 27, 28, 29, 35, 36, 38, 39, 40, 42, 43, 45, 46, 47, 48, 50, 51] 0 (sub B77 [1, 1, 0, 1, 0, 0]) [.code (sub B77 [1, 1, 1])] _ _ (runS 300 (o1 ++ [pb hb3, pst (ixb9 hc1), pb hb4, pcall (parser_isKey_step text false hy2)])) (by kernel_rfl) (foldP (fn := Tryz.f77) (m := 0) (fun v => .sc (.bool v)) 0 text.data.toList (fun i0 (_ : Unit) (j0 : JJ) => frm 53 0 [(0, .sc (.string text)), (27, .sc (.int .i64 ((text.data.toList.length : Nat) : Int))), (28, .sc (.int .i64 ((i0 : Nat) : Int)))] [2, 6, 7, 10, 11, 12, 15, 16, 17, 20, 21, 22, 24, 25, 29, 35, 36, 38, 39, 40, 42, 43, 45, 46, 47, 48, 50, 51] 0 [] 0 j0) (fun (_ : Nat) (_ : Unit) (_ : JJ) => ⟨[], 0, [], 0⟩) (fun (j : JJ) => plainL j.2 = true) (fun (_ : Unit) (jx : JJ) => frm 53 0 [] [2, 6, 7, 10, 11, 12, 15, 16, 17, 20, 21, 22, 24, 25, 29, 35, 36, 38, 39, 40, 42, 43, 45, 46, 47, 48, 50, 51] 0 [] 0 jx) (fun (_ : Unit) (_ : JJ) => ⟨[], 0, [], 0⟩) (fun (j : JJ) => plainL j.2 = true) ?_ ?_ 0 hres ?_ ?_ ([.bool false, .bool false, .bool false, .bool false, .bool false, .bool false, .bool false, .bool false, .bool false, .bool false, .bool false, .bool false, .bool false, .bool false], []) rfl)
 rintro i0 ⟨⟩ j0 hj0 hge hq
 clear h hres
 refine WL_rnd ?_
 exact go_ex Hd.plainG [4, 12, 14, 20, 22, 24, 30, 32, 34, 40, 42, 44, 48, 50, 58, 70, 72, 76, 78, 80, 84, 86, 90, 92, 94, 96, 100, 102] [] [] 0 _ _ (runS 300 [pb (B := ltI ((i0 : Nat) : Int) ((text.data.toList.length : Nat) : Int)) (b := false) (ltF hge)]) (by kernel_rfl) (hq ([(jn j0 0), (jn j0 1), (jn j0 2), (jn j0 3), (jn j0 4), (jn j0 5), (jn j0 6), (jn j0 7), (jn j0 8), (jn j0 9), (jn j0 10), (jn j0 11), (jn j0 12), (jn j0 13), .bool false, (jn j0 15), (jn j0 16), (jn j0 17), (jn j0 18), (jn j0 19), (jn j0 20), (jn j0 21), (jn j0 22), (jn j0 23), (jn j0 24), (jn j0 25), (jn j0 26), (jn j0 27)], []) rfl)
 clear h hres
 rintro i0 e0 ⟨⟩ j0 r hj0 he0 hi0 h k
 refine WL_rnd ?_
 revert h
 show parser_goodName_L1   i0 e0  = some r → _
 unfold parser_goodName_L1
 let o2 : List (PC P G) := [pb (B := ltI ((i0 : Nat) : Int) ((text.data.toList.length : Nat) : Int)) (b := true) (ltT hi0), pst (ixb9 he0)]
 refine cndI (fun hb5 => ?_) fun hb5 => ?_
 refine cndI (fun hb6 => ?_) fun hb6 => ?_
 rintro ⟨⟩
 exact go_retA _ _ (runS 300 (o2 ++ [pb hb5, pb hb6, pn (B := eqI ((e0.toNat : Nat) : Int) 95) (b := false) (eqI_f (by have := ltI_T hb5; have := ltI_T hb6; omega))])) (by kernel_rfl) (.rnd k) .sc
 refine cndI (fun hb7 => ?_) fun hb7 => ?_
 refine cndI (fun hb8 => ?_) fun hb8 => ?_
 rintro ⟨⟩
 exact go_nx Hd.plainG [0, 4, 12, 14, 20, 22, 24, 30, 32, 34, 40, 42, 44, 48, 50, 54, 56, 58, 70, 72, 76, 78, 80, 84, 86, 90, 92, 94, 96, 100, 102] [] [] _ _ (runS 300 (o2 ++ [pb hb5, pb hb6, pb hb7, pn hb8, pinc i0 (by omega)])) (by kernel_rfl) (k ([(jn j0 0), (jn j0 1), (jn j0 2), (jn j0 3), (jn j0 4), (jn j0 5), (jn j0 6), (jn j0 7), (jn j0 8), (jn j0 9), (jn j0 10), (jn j0 11), (jn j0 12), (jn j0 13), .bool true, .bool true, .bool true, undef, .bool true, .bool true, .bool false, .bool false, .bool true, .bool true, .bool true, .bool true, .bool false, .bool false], []) rfl)
 rintro ⟨⟩
 exact go_retA _ _ (runS 300 (o2 ++ [pb hb5, pb hb6, pb hb7, pn hb8])) (by kernel_rfl) (.rnd k) .sc
 rintro ⟨⟩
 exact go_nx Hd.plainG [0, 4, 12, 14, 20, 22, 24, 30, 32, 34, 40, 42, 44, 48, 50, 54, 56, 58, 70, 72, 76, 78, 80, 84, 86, 90, 92, 94, 96, 100, 102] [] [] _ _ (runS 300 (o2 ++ [pb hb5, pb hb6, pb hb7, pinc i0 (by omega)])) (by kernel_rfl) (k ([(jn j0 0), (jn j0 1), (jn j0 2), (jn j0 3), (jn j0 4), (jn j0 5), (jn j0 6), (jn j0 7), (jn j0 8), (jn j0 9), (jn j0 10), (jn j0 11), (jn j0 12), (jn j0 13), .bool true, .bool true, .bool true, undef, .bool true, .bool true, .bool false, .bool false, .bool false, .bool false, .bool false, .bool false, undef, .bool false], []) rfl)
 refine cndI (fun hb9 => ?_) fun hb9 => ?_
 rintro ⟨⟩
 exact go_retA _ _ (runS 300 (o2 ++ [pb hb5, pb hb9, pb (B := ltI ((e0.toNat : Nat) : Int) 48) (b := false) (ltI_f (by have := ltI_F hb5; have := ltI_T hb9; omega)), pb (B := ltI 57 ((e0.toNat : Nat) : Int)) (b := true) (ltI_t (by have := ltI_F hb5; have := ltI_T hb9; omega)), pn (B := eqI ((e0.toNat : Nat) : Int) 95) (b := false) (eqI_f (by have := ltI_F hb5; have := ltI_T hb9; omega))])) (by kernel_rfl) (.rnd k) .sc
 rintro ⟨⟩
 exact go_nx Hd.plainG [0, 4, 12, 14, 20, 22, 24, 30, 32, 34, 40, 42, 44, 48, 50, 54, 56, 58, 70, 72, 76, 78, 80, 84, 86, 90, 92, 94, 96, 100, 102] [] [] _ _ (runS 300 (o2 ++ [pb hb5, pb hb9, pinc i0 (by omega)])) (by kernel_rfl) (k ([(jn j0 0), (jn j0 1), (jn j0 2), (jn j0 3), (jn j0 4), (jn j0 5), (jn j0 6), (jn j0 7), (jn j0 8), (jn j0 9), (jn j0 10), (jn j0 11), (jn j0 12), (jn j0 13), .bool true, .bool false, .bool false, .bool false, .bool false, .bool false, undef, undef, undef, undef, .bool false, .bool false, undef, .bool false], []) rfl)
 rintro ⟨⟩ rfl jx_3 hjx_3
 revert h
 clear hres
 dsimp only [lpK]
 intro h
 have hE := Option.some.inj h
 subst hE
 exact go_retA _ _ (runX 300 []) (by kernel_rfl) .body .sc
 rintro v rfl
 dsimp only [lpK] at h
 cases h
 exact .outer .body
noncomputable def B78 : Code := bodyOf Tryz.f78
theorem b78 : Tryz.f78.body = some B78 := by kernel_rfl
noncomputable def parser_goodRatio_B  (n : Int) : Option Bool := cond (leI 1 n) (cond (leI n 1000000) (some true) (some false)) (some false)
theorem parser_goodRatio_step   (n : Int) (yR : Bool) (h : parser_goodRatio_B  n = some yR) : Pure P G 78 [.sc (.int .i64 n)] (.sc (.bool yR)) := by
 unfold parser_goodRatio_B at h
 refine pureM Hd.mixed Hd.plainG (WC_body Tryz.func78 b78 ?_) (plC rfl rfl) rfl
 revert h
 refine cndI (fun hb1 => ?_) fun hb1 => ?_
 refine cndI (fun hb2 => ?_) fun hb2 => ?_
 rintro ⟨⟩
 exact rS (runS 300 [pb hb1, pb hb2]) (by kernel_rfl)
 rintro ⟨⟩
 exact rS (runS 300 [pb hb1, pb hb2]) (by kernel_rfl)
 rintro ⟨⟩
 exact rS (runS 300 [pb hb1]) (by kernel_rfl)
noncomputable def B79 : Code := bodyOf Tryz.f79
theorem b79 : Tryz.f79.body = some B79 := by kernel_rfl
noncomputable def parser_isDateWord_B  (word : ByteArray) : Option Bool := cond (eqB word.data.toList weekdayS.data.toList) (some true) (cond (eqB word.data.toList dayS.data.toList) (some true) (cond (eqB word.data.toList monthS.data.toList) (some true) (cond (eqB word.data.toList yearS.data.toList) (some true) (some false))))
theorem parser_isDateWord_step   (word : ByteArray) (yR : Bool) (h : parser_isDateWord_B  word = some yR) : Pure P G 79 [.sc (.string word)] (.sc (.bool yR)) := by
 unfold parser_isDateWord_B at h
 refine pureM Hd.mixed Hd.plainG (WC_body Tryz.func79 b79 ?_) (plC rfl rfl) rfl
 revert h
 refine cndI (fun hb1 => ?_) fun hb1 => ?_
 rintro ⟨⟩
 exact rS (runS 300 [pb hb1]) (by kernel_rfl)
 refine cndI (fun hb2 => ?_) fun hb2 => ?_
 rintro ⟨⟩
 exact rS (runS 300 [pb hb1, pb hb2]) (by kernel_rfl)
 refine cndI (fun hb3 => ?_) fun hb3 => ?_
 rintro ⟨⟩
 exact rS (runS 300 [pb hb1, pb hb2, pb hb3]) (by kernel_rfl)
 refine cndI (fun hb4 => ?_) fun hb4 => ?_
 rintro ⟨⟩
 exact rS (runS 300 [pb hb1, pb hb2, pb hb3, pb hb4]) (by kernel_rfl)
 rintro ⟨⟩
 exact rS (runS 300 [pb hb1, pb hb2, pb hb3, pb hb4]) (by kernel_rfl)
noncomputable def B81 : Code := bodyOf Tryz.f81
theorem b81 : Tryz.f81.body = some B81 := by kernel_rfl
noncomputable def parser_goodTable_L1  (f : Fn) (i0 : Nat) (e0 : Pc)  : Option (Lp Unit Unit Bool) := cond (ltI 999999999999 e0.fr) (some (.rt false)) (cond (ltI 0 ((i0 : Nat) : Int)) ((geti f.ps (wsub ((i0 : Nat) : Int) 1)).bind fun x3 => cond (leI e0.fr x3.fr) (some (.rt false)) ((drem e0.att f.den).bind fun z4 => cond (eqI z4 0) (cond (ltI (wmul 999999999999 f.den) e0.att) (some (.rt false)) (cond (ltI e0.att (wmul (-999999999999) f.den)) (some (.rt false)) (cond (ltI 1000000 e0.slope) (some (.rt false)) (cond (ltI e0.slope (-1000000)) (some (.rt false)) (some (.nx ())))))) (some (.rt false)))) ((drem e0.att f.den).bind fun z5 => cond (eqI z5 0) (cond (ltI (wmul 999999999999 f.den) e0.att) (some (.rt false)) (cond (ltI e0.att (wmul (-999999999999) f.den)) (some (.rt false)) (cond (ltI 1000000 e0.slope) (some (.rt false)) (cond (ltI e0.slope (-1000000)) (some (.rt false)) (some (.nx ())))))) (some (.rt false))))
noncomputable def parser_goodTable_B  (f : Fn) : Option Bool := (parser_goodRatio_B f.den).bind fun y1 => cond y1 (cond (ltI ((f.ps.length : Nat) : Int) 1) (some false) (cond (ltI 64 ((f.ps.length : Nat) : Int)) (some false) ((f.ps[0]?).bind fun x2 => cond (eqI x2.fr 0) ((lim f.ps.length (foldL (fun i y x => parser_goodTable_L1  f i y ) (fun x => ()) (f.ps.drop 0) 0 ())).bind (lpK (fun (_ : Unit) => some true) (fun v => some v))) (some false)))) (some false)
theorem parser_goodTable_step   (f : Fn) (yR : Bool) (h : parser_goodTable_B  f = some yR) : Pure P G 81 [.agg (fnC f)] (.sc (.bool yR)) := by
 unfold parser_goodTable_B at h
 refine pureM Hd.mixed Hd.plainG (WC_body Tryz.func81 b81 ?_) (plC (layFn.plG f) rfl) rfl
 revert h
 refine bndI fun y1 hy1 => ?_
 refine cndI (fun hv => ?_) fun hv => ?_
 subst hv
 let o1 : List (PC P G) := [pcall (parser_goodRatio_step f.den true hy1)]
 refine cndI (fun hb1 => ?_) fun hb1 => ?_
 rintro ⟨⟩
 exact rS (runS 300 (o1 ++ [pb hb1])) (by kernel_rfl)
 refine cndI (fun hb2 => ?_) fun hb2 => ?_
 rintro ⟨⟩
 exact rS (runS 300 (o1 ++ [pb hb1, pb hb2])) (by kernel_rfl)
 refine bndI fun x2 hx2 => ?_
 refine cndI (fun hb3 => ?_) fun hb3 => ?_
 refine bndI fun res hres h => ?_
 have hlen := (limE hres).1
 replace hres := (limE hres).2
 refine go_at [] [0, 1, 2, 7, 8, 9, 13, 14, 15, 19, 20, 21, 27, 28, 30, 31, 32, 33, 36, 39, 40, 42, 43, 53, 54, 55, 61, 62, 68, 69, 70, 76, 77, 80, 81, 84, 85] 0 (sub B81 [1, 1, 0, 1, 0, 0]) [.code (sub B81 [1, 1, 1])] _ _ (runS 300 (o1 ++ [pb hb1, pb hb2, pix (ix22 .lost hx2), pn hb3])) (by kernel_rfl) (foldP (fn := Tryz.f81) (m := 0) (fun v => .sc (.bool v)) 0 f.ps (fun i0 (_ : Unit) (j0 : JJ) => frm 87 0 [(1, .ptr 0 0), (30, .sl .lost f.ps.length (rows pcC f.ps)), (31, .sc (.int .i64 ((f.ps.length : Nat) : Int))), (32, .sc (.int .i64 ((i0 : Nat) : Int)))] [2, 7, 8, 9, 13, 14, 15, 19, 20, 21, 27, 28, 33, 39, 40, 42, 43, 53, 54, 55, 61, 62, 68, 69, 70, 76, 77, 80, 81, 84, 85] 0 [0, 36] 0 j0) (fun (_ : Nat) (_ : Unit) (_ : JJ) => ⟨[(0, .cells (fnC f))], 1, [], 0⟩) (fun (j : JJ) => plainL j.2 = true) (fun (_ : Unit) (jx : JJ) => frm 87 0 [] [2, 7, 8, 9, 13, 14, 15, 19, 20, 21, 27, 28, 33, 39, 40, 42, 43, 53, 54, 55, 61, 62, 68, 69, 70, 76, 77, 80, 81, 84, 85] 0 [0, 36] 0 jx) (fun (_ : Unit) (_ : JJ) => ⟨[(0, .cells (fnC f))], 1, [], 0⟩) (fun (j : JJ) => plainL j.2 = true) ?_ ?_ 0 hres ?_ ?_ ([.bool false, .bool true, .bool false, .bool false, .bool false, .bool false, .bool false, .bool false, .bool false, .bool false, .bool false, .bool false], [.agg (fnC f), .sc undef]) (plC (layFn.plG f) (plC rfl rfl)))
 rintro i0 ⟨⟩ j0 hj0 hge hq
 clear h hres
 refine WL_rnd ?_
 exact go_ex Hd.plainG [1, 4, 14, 16, 18, 26, 28, 30, 38, 40, 42, 54, 56, 66, 73, 78, 80, 84, 86, 106, 108, 110, 122, 124, 136, 138, 140, 152, 154, 160, 162, 168, 170] [fq (gn_pl hj0 0), fq (gn_pl hj0 1)] [fbp (fnC f) (layFn.pl f)] 0 _ _ (runS 300 [pb (B := ltI ((i0 : Nat) : Int) ((f.ps.length : Nat) : Int)) (b := false) (ltF hge)]) (by kernel_rfl) (hq ([(jn j0 0), (jn j0 1), (jn j0 2), (jn j0 3), (jn j0 4), (jn j0 5), (jn j0 6), (jn j0 7), (jn j0 8), (jn j0 9), (jn j0 10), (jn j0 11), .bool false, (jn j0 13), (jn j0 14), (jn j0 15), (jn j0 16), (jn j0 17), (jn j0 18), (jn j0 19), (jn j0 20), (jn j0 21), (jn j0 22), (jn j0 23), (jn j0 24), (jn j0 25), (jn j0 26), (jn j0 27), (jn j0 28), (jn j0 29), (jn j0 30)], [(gn j0 0), (gn j0 1)]) (plC (gn_pl hj0 0) (plC (gn_pl hj0 1) rfl)))
 clear h hres
 rintro i0 e0 ⟨⟩ j0 r hj0 he0 hi0 h k
 refine WL_rnd ?_
 revert h
 show parser_goodTable_L1  f i0 e0  = some r → _
 unfold parser_goodTable_L1
 let o2 : List (PC P G) := [pb (B := ltI ((i0 : Nat) : Int) ((f.ps.length : Nat) : Int)) (b := true) (ltT hi0), pix (ix22 .lost he0)]
 refine cndI (fun hb4 => ?_) fun hb4 => ?_
 rintro ⟨⟩
 exact go_retA _ _ (runS 300 (o2 ++ [pb hb4])) (by kernel_rfl) (.rnd k) .sc
 let o3 : List (PC P G) := o2 ++ [pb hb4]
 refine cndI (fun hb5 => ?_) fun hb5 => ?_
 refine bndI fun x3 hx3 => ?_
 let o4 : List (PC P G) := o3 ++ [pb hb5, pk, pix (ixz22 .lost hx3)]
 refine cndI (fun hb6 => ?_) fun hb6 => ?_
 rintro ⟨⟩
 exact go_retA _ _ (runS 300 (o4 ++ [pb hb6])) (by kernel_rfl) (.rnd k) .sc
 refine bndI fun z4 hz4 => ?_
 let o5 : List (PC P G) := o4 ++ [pb hb6, pbin (rem_ok3 hz4 (.tmp 57) (.tmp 59))]
 refine cndI (fun hb7 => ?_) fun hb7 => ?_
 refine cndI (fun hb8 => ?_) fun hb8 => ?_
 rintro ⟨⟩
 exact go_retA _ _ (runS 300 (o5 ++ [pn hb7, pk, pb hb8])) (by kernel_rfl) (.rnd k) .sc
 refine cndI (fun hb9 => ?_) fun hb9 => ?_
 rintro ⟨⟩
 exact go_retA _ _ (runS 300 (o5 ++ [pn hb7, pk, pb hb8, pk, pb hb9])) (by kernel_rfl) (.rnd k) .sc
 refine cndI (fun hb10 => ?_) fun hb10 => ?_
 rintro ⟨⟩
 exact go_retA _ _ (runS 300 (o5 ++ [pn hb7, pk, pb hb8, pk, pb hb9, pb hb10])) (by kernel_rfl) (.rnd k) .sc
 refine cndI (fun hb11 => ?_) fun hb11 => ?_
 rintro ⟨⟩
 exact go_retA _ _ (runS 300 (o5 ++ [pn hb7, pk, pb hb8, pk, pb hb9, pb hb10, pb hb11])) (by kernel_rfl) (.rnd k) .sc
 rintro ⟨⟩
 exact go_nx Hd.plainG [1, 2, 4, 14, 16, 18, 26, 28, 30, 38, 40, 42, 54, 56, 61, 62, 64, 66, 73, 78, 80, 84, 86, 106, 108, 110, 122, 124, 136, 138, 140, 152, 154, 160, 162, 168, 170] [fq (gn_pl hj0 0), fq (layPc.plS f.ps), fq (layPc.plG e0)] [fbp (fnC f) (layFn.pl f)] _ _ (runS 300 (o5 ++ [pn hb7, pk, pb hb8, pk, pb hb9, pb hb10, pb hb11, pinc i0 (by omega)])) (by kernel_rfl) (k ([(jn j0 0), (jn j0 1), (jn j0 2), (jn j0 3), (jn j0 4), (jn j0 5), (jn j0 6), (jn j0 7), (jn j0 8), (jn j0 9), (jn j0 10), (jn j0 11), .bool true, .bool false, .bool false, .bool true, .bool true, .bool false, .bool false, .bool false, .bool false, .bool false, .bool false, .bool false, .bool false, .bool false, .bool false, .bool false, .bool false, .bool false, .bool false], [(gn j0 0), .agg (pcC e0)]) (plC (gn_pl hj0 0) (plC (layPc.plG e0) rfl)))
 rintro ⟨⟩
 exact go_retA _ _ (runS 300 (o5 ++ [pn hb7])) (by kernel_rfl) (.rnd k) .sc
 refine bndI fun z5 hz5 => ?_
 let o6 : List (PC P G) := o3 ++ [pb hb5, pbin (rem_ok3 hz5 (.tmp 57) (.tmp 59))]
 refine cndI (fun hb12 => ?_) fun hb12 => ?_
 refine cndI (fun hb13 => ?_) fun hb13 => ?_
 rintro ⟨⟩
 exact go_retA _ _ (runS 300 (o6 ++ [pn hb12, pk, pb hb13])) (by kernel_rfl) (.rnd k) .sc
 refine cndI (fun hb14 => ?_) fun hb14 => ?_
 rintro ⟨⟩
 exact go_retA _ _ (runS 300 (o6 ++ [pn hb12, pk, pb hb13, pk, pb hb14])) (by kernel_rfl) (.rnd k) .sc
 refine cndI (fun hb15 => ?_) fun hb15 => ?_
 rintro ⟨⟩
 exact go_retA _ _ (runS 300 (o6 ++ [pn hb12, pk, pb hb13, pk, pb hb14, pb hb15])) (by kernel_rfl) (.rnd k) .sc
 refine cndI (fun hb16 => ?_) fun hb16 => ?_
 rintro ⟨⟩
 exact go_retA _ _ (runS 300 (o6 ++ [pn hb12, pk, pb hb13, pk, pb hb14, pb hb15, pb hb16])) (by kernel_rfl) (.rnd k) .sc
 rintro ⟨⟩
 exact go_nx Hd.plainG [1, 2, 4, 14, 16, 18, 26, 28, 30, 38, 40, 42, 54, 56, 61, 62, 64, 66, 73, 78, 80, 84, 86, 106, 108, 110, 122, 124, 136, 138, 140, 152, 154, 160, 162, 168, 170] [fq (gn_pl hj0 0), fq (layPc.plS f.ps), fq (layPc.plG e0)] [fbp (fnC f) (layFn.pl f)] _ _ (runS 300 (o6 ++ [pn hb12, pk, pb hb13, pk, pb hb14, pb hb15, pb hb16, pinc i0 (by omega)])) (by kernel_rfl) (k ([(jn j0 0), (jn j0 1), (jn j0 2), (jn j0 3), (jn j0 4), (jn j0 5), (jn j0 6), (jn j0 7), (jn j0 8), (jn j0 9), (jn j0 10), (jn j0 11), .bool true, .bool false, .bool false, .bool false, .bool false, undef, .bool false, .bool false, .bool false, .bool false, .bool false, .bool false, .bool false, .bool false, .bool false, .bool false, .bool false, .bool false, .bool false], [(gn j0 0), .agg (pcC e0)]) (plC (gn_pl hj0 0) (plC (layPc.plG e0) rfl)))
 rintro ⟨⟩
 exact go_retA _ _ (runS 300 (o6 ++ [pn hb12])) (by kernel_rfl) (.rnd k) .sc
 rintro ⟨⟩ rfl jx_6 hjx_6
 revert h
 clear hres
 dsimp only [lpK]
 intro h
 have hE := Option.some.inj h
 subst hE
 exact go_retA _ _ (runX 300 []) (by kernel_rfl) .body .sc
 rintro v rfl
 dsimp only [lpK] at h
 cases h
 exact .outer .body
 rintro ⟨⟩
 exact rS (runS 300 (o1 ++ [pb hb1, pb hb2, pix (ix22 .lost hx2), pn hb3])) (by kernel_rfl)
 subst hv
 rintro ⟨⟩
 exact rS (runS 300 [pcall (parser_goodRatio_step f.den false hy1)]) (by kernel_rfl)
theorem parser_checker_expr_U (c : Ck) (n : Nd) (depth : Int) (yR : Bool) (qc_nodesR : Int) (hS : Sound P G (.call 49 [.ptr 0 0, .agg (ndC n), .sc (.int .i64 depth)] ⟨[(0, .cells (ckC c))], 1, [], 0⟩ (.ret (.sc (.bool yR))) ⟨[(0, .cells [.sc (.int .i64 qc_nodesR)])], 1, [], 0⟩)) (u0 : Nat) (hnb : [u0].Nodup) (hnt : ([] : List Nat).Nodup) : Cd.ok P G (.callU 49 [.ptr u0 0, .agg (ndC n), .sc (.int .i64 depth)] (.ret (.sc (.bool yR))) [(u0, .cells (ckC c))] [] [(u0, .cells [.sc (.int .i64 qc_nodesR)])] []) :=
 frameU (M := [.cells (ckC c)]) (M2 := [.cells [.sc (.int .i64 qc_nodesR)]]) (T := []) (T2 := []) (k := 1) (j := 0) Hd.plainG _ _ _ _ hS rfl rfl rfl rfl rfl hnb hnt rfl rfl (.cons (.cells (.pl (layCk.pl c))) .nil) (.cons (.cells (.pl (plC rfl rfl))) .nil) (.cons (.ptr (by decide)) (.cons (.pl (layNd.plG n)) (.cons (.pl rfl) .nil))) (.pl rfl) (fun e he => by simp only [List.mem_singleton] at he; subst he; exact (.arg (.here .ptr)))
theorem parser_checker_binary_U (c : Ck) (n : Nd) (depth : Int) (yR : Bool) (qc_nodesR : Int) (hS : Sound P G (.call 80 [.ptr 0 0, .agg (ndC n), .sc (.int .i64 depth)] ⟨[(0, .cells (ckC c))], 1, [], 0⟩ (.ret (.sc (.bool yR))) ⟨[(0, .cells [.sc (.int .i64 qc_nodesR)])], 1, [], 0⟩)) (u0 : Nat) (hnb : [u0].Nodup) (hnt : ([] : List Nat).Nodup) : Cd.ok P G (.callU 80 [.ptr u0 0, .agg (ndC n), .sc (.int .i64 depth)] (.ret (.sc (.bool yR))) [(u0, .cells (ckC c))] [] [(u0, .cells [.sc (.int .i64 qc_nodesR)])] []) :=
 frameU (M := [.cells (ckC c)]) (M2 := [.cells [.sc (.int .i64 qc_nodesR)]]) (T := []) (T2 := []) (k := 1) (j := 0) Hd.plainG _ _ _ _ hS rfl rfl rfl rfl rfl hnb hnt rfl rfl (.cons (.cells (.pl (layCk.pl c))) .nil) (.cons (.cells (.pl (plC rfl rfl))) .nil) (.cons (.ptr (by decide)) (.cons (.pl (layNd.plG n)) (.cons (.pl rfl) .nil))) (.pl rfl) (fun e he => by simp only [List.mem_singleton] at he; subst he; exact (.arg (.here .ptr)))
theorem parser_checker_number_U (c : Ck) (n : Nd) (depth : Int) (yR : Bool) (qc_nodesR : Int) (hS : Sound P G (.call 115 [.ptr 0 0, .agg (ndC n), .sc (.int .i64 depth)] ⟨[(0, .cells (ckC c))], 1, [], 0⟩ (.ret (.sc (.bool yR))) ⟨[(0, .cells [.sc (.int .i64 qc_nodesR)])], 1, [], 0⟩)) (u0 : Nat) (hnb : [u0].Nodup) (hnt : ([] : List Nat).Nodup) : Cd.ok P G (.callU 115 [.ptr u0 0, .agg (ndC n), .sc (.int .i64 depth)] (.ret (.sc (.bool yR))) [(u0, .cells (ckC c))] [] [(u0, .cells [.sc (.int .i64 qc_nodesR)])] []) :=
 frameU (M := [.cells (ckC c)]) (M2 := [.cells [.sc (.int .i64 qc_nodesR)]]) (T := []) (T2 := []) (k := 1) (j := 0) Hd.plainG _ _ _ _ hS rfl rfl rfl rfl rfl hnb hnt rfl rfl (.cons (.cells (.pl (layCk.pl c))) .nil) (.cons (.cells (.pl (plC rfl rfl))) .nil) (.cons (.ptr (by decide)) (.cons (.pl (layNd.plG n)) (.cons (.pl rfl) .nil))) (.pl rfl) (fun e he => by simp only [List.mem_singleton] at he; subst he; exact (.arg (.here .ptr)))
theorem parser_checker_all_expr_U (c : Ck) (list : (List Nd)) (depth : Int) (yR : Bool) (qc_nodesR : Int) (hS : Sound P G (.call 52 [.ptr 0 0, .sl .lost list.length (ndsC list), .sc (.int .i64 depth), .fn (.func 49) [.ptr 0 0] []] ⟨[(0, .cells (ckC c))], 1, [], 0⟩ (.ret (.sc (.bool yR))) ⟨[(0, .cells [.sc (.int .i64 qc_nodesR)])], 1, [], 0⟩)) (u0 : Nat) (hnb : [u0].Nodup) (hnt : ([] : List Nat).Nodup) : Cd.ok P G (.callU 52 [.ptr u0 0, .sl .lost list.length (ndsC list), .sc (.int .i64 depth), .fn (.func 49) [.ptr u0 0] []] (.ret (.sc (.bool yR))) [(u0, .cells (ckC c))] [] [(u0, .cells [.sc (.int .i64 qc_nodesR)])] []) :=
 frameU (M := [.cells (ckC c)]) (M2 := [.cells [.sc (.int .i64 qc_nodesR)]]) (T := []) (T2 := []) (k := 1) (j := 0) Hd.plainG _ _ _ _ hS rfl rfl rfl rfl rfl hnb hnt rfl rfl (.cons (.cells (.pl (layCk.pl c))) .nil) (.cons (.cells (.pl (plC rfl rfl))) .nil) (.cons (.ptr (by decide)) (.cons (.pl (layNd.plS list)) (.cons (.pl rfl) (.cons (.fn (.cons (.ptr (by decide)) .nil) (.pl rfl)) .nil)))) (.pl rfl) (fun e he => by simp only [List.mem_singleton] at he; subst he; exact (.arg (.here .ptr)))
noncomputable def B49 : Code := bodyOf Tryz.f49
theorem b49 : Tryz.f49.body = some B49 := by kernel_rfl
noncomputable def parser_checker_expr_B (r_parser_checker_expr : Ck → Nd → Int → Option (Bool × Int)) (r_parser_checker_binary : Ck → Nd → Int → Option (Bool × Int)) (r_parser_checker_number : Ck → Nd → Int → Option (Bool × Int)) (r_parser_checker_all_expr : Ck → (List Nd) → Int → Option (Bool × Int)) (c : Ck) (n : Nd) (depth : Int) : Option (Bool × Int) := (parser_checker_node_B c n depth).bind fun (y1a, y1b) => cond y1a (cond (eqI n.kind 11) ((parser_goodUnit_B n.unit).bind fun y2 => cond y2 (cond (ltI n.n 0) (some (false, y1b)) (cond (ltI 999999999999 n.n) (some (false, y1b)) (cond (eqB n.unit.data.toList truthS.data.toList) (cond (ltI 1 n.n) (some (false, y1b)) (cond (eqI ((n.kids.length : Nat) : Int) 0) ((parser_bare_B n (⟨0, ByteArray.empty, n.unit, n.n, 0, 0, 0, (⟨0, []⟩ : Fn), [], 0⟩ : Nd)).bind fun y3 => some (y3, y1b)) (some (false, y1b)))) (cond (eqI ((n.kids.length : Nat) : Int) 0) ((parser_bare_B n (⟨0, ByteArray.empty, n.unit, n.n, 0, 0, 0, (⟨0, []⟩ : Fn), [], 0⟩ : Nd)).bind fun y4 => some (y4, y1b)) (some (false, y1b)))))) (some (false, y1b))) (cond (eqI n.kind 12) ((parser_goodName_B n.name).bind fun y5 => cond y5 (cond (eqI ((n.kids.length : Nat) : Int) 0) ((parser_bare_B n (⟨0, n.name, ByteArray.empty, 0, 0, 0, 0, (⟨0, []⟩ : Fn), [], 0⟩ : Nd)).bind fun y6 => some (y6, y1b)) (some (false, y1b))) (some (false, y1b))) (cond (eqI n.kind 13) ((parser_goodRatio_B n.n).bind fun y7 => cond y7 (cond (eqI ((n.kids.length : Nat) : Int) 0) ((parser_bare_B n (⟨0, ByteArray.empty, ByteArray.empty, n.n, 0, 0, 0, (⟨0, []⟩ : Fn), [], 0⟩ : Nd)).bind fun y8 => some (y8, y1b)) (some (false, y1b))) (some (false, y1b))) (cond (eqI n.kind 14) ((parser_isDateWord_B n.name).bind fun y9 => cond y9 (cond (eqI ((n.kids.length : Nat) : Int) 0) ((parser_bare_B n (⟨0, n.name, ByteArray.empty, 0, 0, 0, 0, (⟨0, []⟩ : Fn), [], 0⟩ : Nd)).bind fun y10 => some (y10, y1b)) (some (false, y1b))) (some (false, y1b))) (cond (eqI n.kind 15) (cond (eqI ((n.kids.length : Nat) : Int) 1) ((parser_bare_B n (⟨0, ByteArray.empty, ByteArray.empty, 0, 0, 0, 0, (⟨0, []⟩ : Fn), [], 0⟩ : Nd)).bind fun y11 => cond y11 ((n.kids[0]?).bind fun x12 => (r_parser_checker_expr (⟨y1b⟩ : Ck) x12 (wadd depth 1)).bind fun (y13a, y13b) => some (y13a, y13b)) (some (false, y1b))) (some (false, y1b))) (cond (eqI n.kind 16) ((parser_bare_B n (⟨0, n.name, ByteArray.empty, 0, 0, 0, 0, (⟨0, []⟩ : Fn), [], 0⟩ : Nd)).bind fun y14 => cond y14 ((r_parser_checker_binary (⟨y1b⟩ : Ck) n depth).bind fun (y15a, y15b) => some (y15a, y15b)) (some (false, y1b))) (cond (eqI n.kind 17) (cond (eqB n.name.data.toList leastS.data.toList) ((parser_bare_B n (⟨0, n.name, ByteArray.empty, 0, 0, 0, 0, (⟨0, []⟩ : Fn), [], 0⟩ : Nd)).bind fun y16 => cond y16 (cond (leI 2 ((n.kids.length : Nat) : Int)) ((r_parser_checker_all_expr (⟨y1b⟩ : Ck) n.kids (wadd depth 1)).bind fun (y17a, y17b) => some (y17a, y17b)) (some (false, y1b))) (some (false, y1b))) (cond (eqB n.name.data.toList greatestS.data.toList) ((parser_bare_B n (⟨0, n.name, ByteArray.empty, 0, 0, 0, 0, (⟨0, []⟩ : Fn), [], 0⟩ : Nd)).bind fun y18 => cond y18 (cond (leI 2 ((n.kids.length : Nat) : Int)) ((r_parser_checker_all_expr (⟨y1b⟩ : Ck) n.kids (wadd depth 1)).bind fun (y19a, y19b) => some (y19a, y19b)) (some (false, y1b))) (some (false, y1b))) (some (false, y1b)))) (cond (eqI n.kind 18) ((parser_bare_B n (⟨0, ByteArray.empty, ByteArray.empty, 0, 0, 0, 0, n.tab, [], 0⟩ : Nd)).bind fun y20 => cond y20 ((parser_goodTable_B n.tab).bind fun y21 => cond y21 (cond (eqI ((n.kids.length : Nat) : Int) 1) ((n.kids[0]?).bind fun x22 => (r_parser_checker_expr (⟨y1b⟩ : Ck) x22 (wadd depth 1)).bind fun (y23a, y23b) => some (y23a, y23b)) (some (false, y1b))) (some (false, y1b))) (some (false, y1b))) (some (false, y1b)))))))))) (some (false, y1b))
theorem parser_checker_expr_step (r_parser_checker_expr : Ck → Nd → Int → Option (Bool × Int)) (r_parser_checker_binary : Ck → Nd → Int → Option (Bool × Int)) (r_parser_checker_number : Ck → Nd → Int → Option (Bool × Int)) (r_parser_checker_all_expr : Ck → (List Nd) → Int → Option (Bool × Int)) (hr_parser_checker_expr : ∀ (c : Ck) (n : Nd) (depth : Int) (yR : Bool) (qc_nodesR : Int), r_parser_checker_expr c n depth = some (yR, qc_nodesR) → Sound P G (.call 49 [.ptr 0 0, .agg (ndC n), .sc (.int .i64 depth)] ⟨[(0, .cells (ckC c))], 1, [], 0⟩ (.ret (.sc (.bool yR))) ⟨[(0, .cells [.sc (.int .i64 qc_nodesR)])], 1, [], 0⟩)) (hr_parser_checker_binary : ∀ (c : Ck) (n : Nd) (depth : Int) (yR : Bool) (qc_nodesR : Int), r_parser_checker_binary c n depth = some (yR, qc_nodesR) → Sound P G (.call 80 [.ptr 0 0, .agg (ndC n), .sc (.int .i64 depth)] ⟨[(0, .cells (ckC c))], 1, [], 0⟩ (.ret (.sc (.bool yR))) ⟨[(0, .cells [.sc (.int .i64 qc_nodesR)])], 1, [], 0⟩)) (hr_parser_checker_number : ∀ (c : Ck) (n : Nd) (depth : Int) (yR : Bool) (qc_nodesR : Int), r_parser_checker_number c n depth = some (yR, qc_nodesR) → Sound P G (.call 115 [.ptr 0 0, .agg (ndC n), .sc (.int .i64 depth)] ⟨[(0, .cells (ckC c))], 1, [], 0⟩ (.ret (.sc (.bool yR))) ⟨[(0, .cells [.sc (.int .i64 qc_nodesR)])], 1, [], 0⟩)) (hr_parser_checker_all_expr : ∀ (c : Ck) (list : (List Nd)) (depth : Int) (yR : Bool) (qc_nodesR : Int), r_parser_checker_all_expr c list depth = some (yR, qc_nodesR) → Sound P G (.call 52 [.ptr 0 0, .sl .lost list.length (ndsC list), .sc (.int .i64 depth), .fn (.func 49) [.ptr 0 0] []] ⟨[(0, .cells (ckC c))], 1, [], 0⟩ (.ret (.sc (.bool yR))) ⟨[(0, .cells [.sc (.int .i64 qc_nodesR)])], 1, [], 0⟩)) (c : Ck) (n : Nd) (depth : Int) (yR : Bool) (qc_nodesR : Int) (h : parser_checker_expr_B r_parser_checker_expr r_parser_checker_binary r_parser_checker_number r_parser_checker_all_expr c n depth = some (yR, qc_nodesR)) : Sound P G (.call 49 [.ptr 0 0, .agg (ndC n), .sc (.int .i64 depth)] ⟨[(0, .cells (ckC c))], 1, [], 0⟩ (.ret (.sc (.bool yR))) ⟨[(0, .cells [.sc (.int .i64 qc_nodesR)])], 1, [], 0⟩) := by
 unfold parser_checker_expr_B at h
 refine soundM Hd.mixed (WC_body Tryz.func49 b49 ?_)
 revert h
 refine bndI ?_
 rintro ⟨y1a, y1b⟩ hy1
 dsimp only
 refine cndI (fun hv => ?_) fun hv => ?_
 subst hv
 let o1 : List (PC P G) := [pcallU (parser_checker_node_U c n depth true y1b (parser_checker_node_step c n depth true y1b hy1) 0 (by decide) (by decide))]
 refine cndI (fun hb1 => ?_) fun hb1 => ?_
 refine bndI fun y2 hy2 => ?_
 refine cndI (fun hv => ?_) fun hv => ?_
 subst hv
 let o2 : List (PC P G) := o1 ++ [pb hb1, pcall (parser_goodUnit_step n.unit true hy2)]
 refine cndI (fun hb2 => ?_) fun hb2 => ?_
 intro h
 have hE := Option.some.inj h
 obtain ⟨hE0, hF0⟩ := Prod.mk.inj hE
 subst hE0 hF0
 exact go_retM Hd.plainG _ _ [0] [] [fbp [.sc (.int .i64 y1b)] (plC rfl rfl)] _ _ (runS 300 (o2 ++ [pb hb2])) (by kernel_rfl) .body
 refine cndI (fun hb3 => ?_) fun hb3 => ?_
 intro h
 have hE := Option.some.inj h
 obtain ⟨hE0, hF0⟩ := Prod.mk.inj hE
 subst hE0 hF0
 exact go_retM Hd.plainG _ _ [0] [] [fbp [.sc (.int .i64 y1b)] (plC rfl rfl)] _ _ (runS 300 (o2 ++ [pb hb2, pb hb3])) (by kernel_rfl) .body
 refine cndI (fun hb4 => ?_) fun hb4 => ?_
 refine cndI (fun hb5 => ?_) fun hb5 => ?_
 intro h
 have hE := Option.some.inj h
 obtain ⟨hE0, hF0⟩ := Prod.mk.inj hE
 subst hE0 hF0
 exact go_retM Hd.plainG _ _ [0] [] [fbp [.sc (.int .i64 y1b)] (plC rfl rfl)] _ _ (runS 300 (o2 ++ [pb hb2, pb hb3, pb hb4, pb hb5])) (by kernel_rfl) .body
 refine cndI (fun hb6 => ?_) fun hb6 => ?_
 refine bndI fun y3 hy3 => ?_
 intro h
 have hE := Option.some.inj h
 obtain ⟨hE0, hF0⟩ := Prod.mk.inj hE
 subst hE0 hF0
 exact go_retM Hd.plainG _ _ [0] [] [fbp [.sc (.int .i64 y1b)] (plC rfl rfl)] _ _ (runS 300 (o2 ++ [pb hb2, pb hb3, pb hb4, pb hb5, pb hb6, pcallW (.r (.g (.r (.r (.r (.r (.r (.r (.r (.r (.z (.z (.r .nil))))))))))) .nil)) (parser_bare_step n (⟨0, ByteArray.empty, n.unit, n.n, 0, 0, 0, (⟨0, []⟩ : Fn), [], 0⟩ : Nd) y3 hy3)])) (by kernel_rfl) .body
 intro h
 have hE := Option.some.inj h
 obtain ⟨hE0, hF0⟩ := Prod.mk.inj hE
 subst hE0 hF0
 exact go_retM Hd.plainG _ _ [0] [] [fbp [.sc (.int .i64 y1b)] (plC rfl rfl)] _ _ (runS 300 (o2 ++ [pb hb2, pb hb3, pb hb4, pb hb5, pb hb6])) (by kernel_rfl) .body
 refine cndI (fun hb7 => ?_) fun hb7 => ?_
 refine bndI fun y4 hy4 => ?_
 intro h
 have hE := Option.some.inj h
 obtain ⟨hE0, hF0⟩ := Prod.mk.inj hE
 subst hE0 hF0
 exact go_retM Hd.plainG _ _ [0] [] [fbp [.sc (.int .i64 y1b)] (plC rfl rfl)] _ _ (runS 300 (o2 ++ [pb hb2, pb hb3, pb hb4, pb hb7, pcallW (.r (.g (.r (.r (.r (.r (.r (.r (.r (.r (.z (.z (.r .nil))))))))))) .nil)) (parser_bare_step n (⟨0, ByteArray.empty, n.unit, n.n, 0, 0, 0, (⟨0, []⟩ : Fn), [], 0⟩ : Nd) y4 hy4)])) (by kernel_rfl) .body
 intro h
 have hE := Option.some.inj h
 obtain ⟨hE0, hF0⟩ := Prod.mk.inj hE
 subst hE0 hF0
 exact go_retM Hd.plainG _ _ [0] [] [fbp [.sc (.int .i64 y1b)] (plC rfl rfl)] _ _ (runS 300 (o2 ++ [pb hb2, pb hb3, pb hb4, pb hb7])) (by kernel_rfl) .body
 subst hv
 intro h
 have hE := Option.some.inj h
 obtain ⟨hE0, hF0⟩ := Prod.mk.inj hE
 subst hE0 hF0
 exact go_retM Hd.plainG _ _ [0] [] [fbp [.sc (.int .i64 y1b)] (plC rfl rfl)] _ _ (runS 300 (o1 ++ [pb hb1, pcall (parser_goodUnit_step n.unit false hy2)])) (by kernel_rfl) .body
 let o3 : List (PC P G) := o1 ++ [pb hb1]
 refine cndI (fun hb8 => ?_) fun hb8 => ?_
 refine bndI fun y5 hy5 => ?_
 refine cndI (fun hv => ?_) fun hv => ?_
 subst hv
 refine cndI (fun hb9 => ?_) fun hb9 => ?_
 refine bndI fun y6 hy6 => ?_
 intro h
 have hE := Option.some.inj h
 obtain ⟨hE0, hF0⟩ := Prod.mk.inj hE
 subst hE0 hF0
 exact go_retM Hd.plainG _ _ [0] [] [fbp [.sc (.int .i64 y1b)] (plC rfl rfl)] _ _ (runS 300 (o3 ++ [pb hb8, pcall (parser_goodName_step n.name true hy5), pb hb9, pcallW (.r (.g (.r (.r (.r (.r (.r (.r (.r (.r (.z (.z (.r .nil))))))))))) .nil)) (parser_bare_step n (⟨0, n.name, ByteArray.empty, 0, 0, 0, 0, (⟨0, []⟩ : Fn), [], 0⟩ : Nd) y6 hy6)])) (by kernel_rfl) .body
 intro h
 have hE := Option.some.inj h
 obtain ⟨hE0, hF0⟩ := Prod.mk.inj hE
 subst hE0 hF0
 exact go_retM Hd.plainG _ _ [0] [] [fbp [.sc (.int .i64 y1b)] (plC rfl rfl)] _ _ (runS 300 (o3 ++ [pb hb8, pcall (parser_goodName_step n.name true hy5), pb hb9])) (by kernel_rfl) .body
 subst hv
 intro h
 have hE := Option.some.inj h
 obtain ⟨hE0, hF0⟩ := Prod.mk.inj hE
 subst hE0 hF0
 exact go_retM Hd.plainG _ _ [0] [] [fbp [.sc (.int .i64 y1b)] (plC rfl rfl)] _ _ (runS 300 (o3 ++ [pb hb8, pcall (parser_goodName_step n.name false hy5)])) (by kernel_rfl) .body
 let o4 : List (PC P G) := o3 ++ [pb hb8]
 refine cndI (fun hb10 => ?_) fun hb10 => ?_
 refine bndI fun y7 hy7 => ?_
 refine cndI (fun hv => ?_) fun hv => ?_
 subst hv
 refine cndI (fun hb11 => ?_) fun hb11 => ?_
 refine bndI fun y8 hy8 => ?_
 intro h
 have hE := Option.some.inj h
 obtain ⟨hE0, hF0⟩ := Prod.mk.inj hE
 subst hE0 hF0
 exact go_retM Hd.plainG _ _ [0] [] [fbp [.sc (.int .i64 y1b)] (plC rfl rfl)] _ _ (runS 300 (o4 ++ [pb hb10, pcall (parser_goodRatio_step n.n true hy7), pb hb11, pcallW (.r (.g (.r (.r (.r (.r (.r (.r (.r (.r (.z (.z (.r .nil))))))))))) .nil)) (parser_bare_step n (⟨0, ByteArray.empty, ByteArray.empty, n.n, 0, 0, 0, (⟨0, []⟩ : Fn), [], 0⟩ : Nd) y8 hy8)])) (by kernel_rfl) .body
 intro h
 have hE := Option.some.inj h
 obtain ⟨hE0, hF0⟩ := Prod.mk.inj hE
 subst hE0 hF0
 exact go_retM Hd.plainG _ _ [0] [] [fbp [.sc (.int .i64 y1b)] (plC rfl rfl)] _ _ (runS 300 (o4 ++ [pb hb10, pcall (parser_goodRatio_step n.n true hy7), pb hb11])) (by kernel_rfl) .body
 subst hv
 intro h
 have hE := Option.some.inj h
 obtain ⟨hE0, hF0⟩ := Prod.mk.inj hE
 subst hE0 hF0
 exact go_retM Hd.plainG _ _ [0] [] [fbp [.sc (.int .i64 y1b)] (plC rfl rfl)] _ _ (runS 300 (o4 ++ [pb hb10, pcall (parser_goodRatio_step n.n false hy7)])) (by kernel_rfl) .body
 let o5 : List (PC P G) := o4 ++ [pb hb10]
 refine cndI (fun hb12 => ?_) fun hb12 => ?_
 refine bndI fun y9 hy9 => ?_
 refine cndI (fun hv => ?_) fun hv => ?_
 subst hv
 refine cndI (fun hb13 => ?_) fun hb13 => ?_
 refine bndI fun y10 hy10 => ?_
 intro h
 have hE := Option.some.inj h
 obtain ⟨hE0, hF0⟩ := Prod.mk.inj hE
 subst hE0 hF0
 exact go_retM Hd.plainG _ _ [0] [] [fbp [.sc (.int .i64 y1b)] (plC rfl rfl)] _ _ (runS 300 (o5 ++ [pb hb12, pcall (parser_isDateWord_step n.name true hy9), pb hb13, pcallW (.r (.g (.r (.r (.r (.r (.r (.r (.r (.r (.z (.z (.r .nil))))))))))) .nil)) (parser_bare_step n (⟨0, n.name, ByteArray.empty, 0, 0, 0, 0, (⟨0, []⟩ : Fn), [], 0⟩ : Nd) y10 hy10)])) (by kernel_rfl) .body
 intro h
 have hE := Option.some.inj h
 obtain ⟨hE0, hF0⟩ := Prod.mk.inj hE
 subst hE0 hF0
 exact go_retM Hd.plainG _ _ [0] [] [fbp [.sc (.int .i64 y1b)] (plC rfl rfl)] _ _ (runS 300 (o5 ++ [pb hb12, pcall (parser_isDateWord_step n.name true hy9), pb hb13])) (by kernel_rfl) .body
 subst hv
 intro h
 have hE := Option.some.inj h
 obtain ⟨hE0, hF0⟩ := Prod.mk.inj hE
 subst hE0 hF0
 exact go_retM Hd.plainG _ _ [0] [] [fbp [.sc (.int .i64 y1b)] (plC rfl rfl)] _ _ (runS 300 (o5 ++ [pb hb12, pcall (parser_isDateWord_step n.name false hy9)])) (by kernel_rfl) .body
 let o6 : List (PC P G) := o5 ++ [pb hb12]
 refine cndI (fun hb14 => ?_) fun hb14 => ?_
 refine cndI (fun hb15 => ?_) fun hb15 => ?_
 refine bndI fun y11 hy11 => ?_
 refine cndI (fun hv => ?_) fun hv => ?_
 subst hv
 refine bndI fun x12 hx12 => ?_
 refine bndI ?_
 rintro ⟨y13a, y13b⟩ hy13
 dsimp only
 intro h
 have hE := Option.some.inj h
 obtain ⟨hE0, hF0⟩ := Prod.mk.inj hE
 subst hE0 hF0
 exact go_retM Hd.plainG _ _ [0] [] [fbp [.sc (.int .i64 y13b)] (plC rfl rfl)] _ _ (runS 300 (o6 ++ [pb hb14, pb hb15, pcallW (.r (.g (.r (.r (.r (.r (.r (.r (.r (.r (.z (.z (.r .nil))))))))))) .nil)) (parser_bare_step n (⟨0, ByteArray.empty, ByteArray.empty, 0, 0, 0, 0, (⟨0, []⟩ : Fn), [], 0⟩ : Nd) true hy11), pix (ix25 .lost hx12), pk, pcallU (parser_checker_expr_U (⟨y1b⟩ : Ck) x12 (wadd depth 1) y13a y13b (hr_parser_checker_expr (⟨y1b⟩ : Ck) x12 (wadd depth 1) y13a y13b hy13) 0 (by decide) (by decide))])) (by kernel_rfl) .body
 subst hv
 intro h
 have hE := Option.some.inj h
 obtain ⟨hE0, hF0⟩ := Prod.mk.inj hE
 subst hE0 hF0
 exact go_retM Hd.plainG _ _ [0] [] [fbp [.sc (.int .i64 y1b)] (plC rfl rfl)] _ _ (runS 300 (o6 ++ [pb hb14, pb hb15, pcallW (.r (.g (.r (.r (.r (.r (.r (.r (.r (.r (.z (.z (.r .nil))))))))))) .nil)) (parser_bare_step n (⟨0, ByteArray.empty, ByteArray.empty, 0, 0, 0, 0, (⟨0, []⟩ : Fn), [], 0⟩ : Nd) false hy11)])) (by kernel_rfl) .body
 intro h
 have hE := Option.some.inj h
 obtain ⟨hE0, hF0⟩ := Prod.mk.inj hE
 subst hE0 hF0
 exact go_retM Hd.plainG _ _ [0] [] [fbp [.sc (.int .i64 y1b)] (plC rfl rfl)] _ _ (runS 300 (o6 ++ [pb hb14, pb hb15])) (by kernel_rfl) .body
 let o7 : List (PC P G) := o6 ++ [pb hb14]
 refine cndI (fun hb16 => ?_) fun hb16 => ?_
 refine bndI fun y14 hy14 => ?_
 refine cndI (fun hv => ?_) fun hv => ?_
 subst hv
 refine bndI ?_
 rintro ⟨y15a, y15b⟩ hy15
 dsimp only
 intro h
 have hE := Option.some.inj h
 obtain ⟨hE0, hF0⟩ := Prod.mk.inj hE
 subst hE0 hF0
 exact go_retM Hd.plainG _ _ [0] [] [fbp [.sc (.int .i64 y15b)] (plC rfl rfl)] _ _ (runS 300 (o7 ++ [pb hb16, pcallW (.r (.g (.r (.r (.r (.r (.r (.r (.r (.r (.z (.z (.r .nil))))))))))) .nil)) (parser_bare_step n (⟨0, n.name, ByteArray.empty, 0, 0, 0, 0, (⟨0, []⟩ : Fn), [], 0⟩ : Nd) true hy14), pcallU (parser_checker_binary_U (⟨y1b⟩ : Ck) n depth y15a y15b (hr_parser_checker_binary (⟨y1b⟩ : Ck) n depth y15a y15b hy15) 0 (by decide) (by decide))])) (by kernel_rfl) .body
 subst hv
 intro h
 have hE := Option.some.inj h
 obtain ⟨hE0, hF0⟩ := Prod.mk.inj hE
 subst hE0 hF0
 exact go_retM Hd.plainG _ _ [0] [] [fbp [.sc (.int .i64 y1b)] (plC rfl rfl)] _ _ (runS 300 (o7 ++ [pb hb16, pcallW (.r (.g (.r (.r (.r (.r (.r (.r (.r (.r (.z (.z (.r .nil))))))))))) .nil)) (parser_bare_step n (⟨0, n.name, ByteArray.empty, 0, 0, 0, 0, (⟨0, []⟩ : Fn), [], 0⟩ : Nd) false hy14)])) (by kernel_rfl) .body
 let o8 : List (PC P G) := o7 ++ [pb hb16]
 refine cndI (fun hb17 => ?_) fun hb17 => ?_
 refine cndI (fun hb18 => ?_) fun hb18 => ?_
 refine bndI fun y16 hy16 => ?_
 refine cndI (fun hv => ?_) fun hv => ?_
 subst hv
 let o9 : List (PC P G) := o8 ++ [pb hb17, pb hb18, pcallW (.r (.g (.r (.r (.r (.r (.r (.r (.r (.r (.z (.z (.r .nil))))))))))) .nil)) (parser_bare_step n (⟨0, n.name, ByteArray.empty, 0, 0, 0, 0, (⟨0, []⟩ : Fn), [], 0⟩ : Nd) true hy16)]
 refine cndI (fun hb19 => ?_) fun hb19 => ?_
 refine bndI ?_
 rintro ⟨y17a, y17b⟩ hy17
 dsimp only
 intro h
 have hE := Option.some.inj h
 obtain ⟨hE0, hF0⟩ := Prod.mk.inj hE
 subst hE0 hF0
 exact go_retM Hd.plainG _ _ [0] [] [fbp [.sc (.int .i64 y17b)] (plC rfl rfl)] _ _ (runS 300 (o9 ++ [pb hb19, pk, pcallU (parser_checker_all_expr_U (⟨y1b⟩ : Ck) n.kids (wadd depth 1) y17a y17b (hr_parser_checker_all_expr (⟨y1b⟩ : Ck) n.kids (wadd depth 1) y17a y17b hy17) 0 (by decide) (by decide))])) (by kernel_rfl) .body
 intro h
 have hE := Option.some.inj h
 obtain ⟨hE0, hF0⟩ := Prod.mk.inj hE
 subst hE0 hF0
 exact go_retM Hd.plainG _ _ [0] [] [fbp [.sc (.int .i64 y1b)] (plC rfl rfl)] _ _ (runS 300 (o9 ++ [pb hb19])) (by kernel_rfl) .body
 subst hv
 intro h
 have hE := Option.some.inj h
 obtain ⟨hE0, hF0⟩ := Prod.mk.inj hE
 subst hE0 hF0
 exact go_retM Hd.plainG _ _ [0] [] [fbp [.sc (.int .i64 y1b)] (plC rfl rfl)] _ _ (runS 300 (o8 ++ [pb hb17, pb hb18, pcallW (.r (.g (.r (.r (.r (.r (.r (.r (.r (.r (.z (.z (.r .nil))))))))))) .nil)) (parser_bare_step n (⟨0, n.name, ByteArray.empty, 0, 0, 0, 0, (⟨0, []⟩ : Fn), [], 0⟩ : Nd) false hy16)])) (by kernel_rfl) .body
 refine cndI (fun hb20 => ?_) fun hb20 => ?_
 refine bndI fun y18 hy18 => ?_
 refine cndI (fun hv => ?_) fun hv => ?_
 subst hv
 let o10 : List (PC P G) := o8 ++ [pb hb17, pb hb18, pb hb20, pcallW (.r (.g (.r (.r (.r (.r (.r (.r (.r (.r (.z (.z (.r .nil))))))))))) .nil)) (parser_bare_step n (⟨0, n.name, ByteArray.empty, 0, 0, 0, 0, (⟨0, []⟩ : Fn), [], 0⟩ : Nd) true hy18)]
 refine cndI (fun hb21 => ?_) fun hb21 => ?_
 refine bndI ?_
 rintro ⟨y19a, y19b⟩ hy19
 dsimp only
 intro h
 have hE := Option.some.inj h
 obtain ⟨hE0, hF0⟩ := Prod.mk.inj hE
 subst hE0 hF0
 exact go_retM Hd.plainG _ _ [0] [] [fbp [.sc (.int .i64 y19b)] (plC rfl rfl)] _ _ (runS 300 (o10 ++ [pb hb21, pk, pcallU (parser_checker_all_expr_U (⟨y1b⟩ : Ck) n.kids (wadd depth 1) y19a y19b (hr_parser_checker_all_expr (⟨y1b⟩ : Ck) n.kids (wadd depth 1) y19a y19b hy19) 0 (by decide) (by decide))])) (by kernel_rfl) .body
 intro h
 have hE := Option.some.inj h
 obtain ⟨hE0, hF0⟩ := Prod.mk.inj hE
 subst hE0 hF0
 exact go_retM Hd.plainG _ _ [0] [] [fbp [.sc (.int .i64 y1b)] (plC rfl rfl)] _ _ (runS 300 (o10 ++ [pb hb21])) (by kernel_rfl) .body
 subst hv
 intro h
 have hE := Option.some.inj h
 obtain ⟨hE0, hF0⟩ := Prod.mk.inj hE
 subst hE0 hF0
 exact go_retM Hd.plainG _ _ [0] [] [fbp [.sc (.int .i64 y1b)] (plC rfl rfl)] _ _ (runS 300 (o8 ++ [pb hb17, pb hb18, pb hb20, pcallW (.r (.g (.r (.r (.r (.r (.r (.r (.r (.r (.z (.z (.r .nil))))))))))) .nil)) (parser_bare_step n (⟨0, n.name, ByteArray.empty, 0, 0, 0, 0, (⟨0, []⟩ : Fn), [], 0⟩ : Nd) false hy18)])) (by kernel_rfl) .body
 intro h
 have hE := Option.some.inj h
 obtain ⟨hE0, hF0⟩ := Prod.mk.inj hE
 subst hE0 hF0
 exact go_retM Hd.plainG _ _ [0] [] [fbp [.sc (.int .i64 y1b)] (plC rfl rfl)] _ _ (runS 300 (o8 ++ [pb hb17, pb hb18, pb hb20])) (by kernel_rfl) .body
 refine cndI (fun hb22 => ?_) fun hb22 => ?_
 refine bndI fun y20 hy20 => ?_
 refine cndI (fun hv => ?_) fun hv => ?_
 subst hv
 refine bndI fun y21 hy21 => ?_
 let o11 : List (PC P G) := o8 ++ [pb hb17, pb hb22, pcallW (.r (.g (.r (.r (.r (.r (.r (.r (.r (.r (.r (.z (.r .nil))))))))))) .nil)) (parser_bare_step n (⟨0, ByteArray.empty, ByteArray.empty, 0, 0, 0, 0, n.tab, [], 0⟩ : Nd) true hy20)]
 refine cndI (fun hv => ?_) fun hv => ?_
 subst hv
 refine cndI (fun hb23 => ?_) fun hb23 => ?_
 refine bndI fun x22 hx22 => ?_
 refine bndI ?_
 rintro ⟨y23a, y23b⟩ hy23
 dsimp only
 intro h
 have hE := Option.some.inj h
 obtain ⟨hE0, hF0⟩ := Prod.mk.inj hE
 subst hE0 hF0
 exact go_retM Hd.plainG _ _ [0] [] [fbp [.sc (.int .i64 y23b)] (plC rfl rfl)] _ _ (runS 300 (o11 ++ [pcall (parser_goodTable_step n.tab true hy21), pb hb23, pix (ix25 .lost hx22), pk, pcallU (parser_checker_expr_U (⟨y1b⟩ : Ck) x22 (wadd depth 1) y23a y23b (hr_parser_checker_expr (⟨y1b⟩ : Ck) x22 (wadd depth 1) y23a y23b hy23) 0 (by decide) (by decide))])) (by kernel_rfl) .body
 intro h
 have hE := Option.some.inj h
 obtain ⟨hE0, hF0⟩ := Prod.mk.inj hE
 subst hE0 hF0
 exact go_retM Hd.plainG _ _ [0] [] [fbp [.sc (.int .i64 y1b)] (plC rfl rfl)] _ _ (runS 300 (o11 ++ [pcall (parser_goodTable_step n.tab true hy21), pb hb23])) (by kernel_rfl) .body
 subst hv
 intro h
 have hE := Option.some.inj h
 obtain ⟨hE0, hF0⟩ := Prod.mk.inj hE
 subst hE0 hF0
 exact go_retM Hd.plainG _ _ [0] [] [fbp [.sc (.int .i64 y1b)] (plC rfl rfl)] _ _ (runS 300 (o11 ++ [pcall (parser_goodTable_step n.tab false hy21)])) (by kernel_rfl) .body
 subst hv
 intro h
 have hE := Option.some.inj h
 obtain ⟨hE0, hF0⟩ := Prod.mk.inj hE
 subst hE0 hF0
 exact go_retM Hd.plainG _ _ [0] [] [fbp [.sc (.int .i64 y1b)] (plC rfl rfl)] _ _ (runS 300 (o8 ++ [pb hb17, pb hb22, pcallW (.r (.g (.r (.r (.r (.r (.r (.r (.r (.r (.r (.z (.r .nil))))))))))) .nil)) (parser_bare_step n (⟨0, ByteArray.empty, ByteArray.empty, 0, 0, 0, 0, n.tab, [], 0⟩ : Nd) false hy20)])) (by kernel_rfl) .body
 intro h
 have hE := Option.some.inj h
 obtain ⟨hE0, hF0⟩ := Prod.mk.inj hE
 subst hE0 hF0
 exact go_retM Hd.plainG _ _ [0] [] [fbp [.sc (.int .i64 y1b)] (plC rfl rfl)] _ _ (runS 300 (o8 ++ [pb hb17, pb hb22])) (by kernel_rfl) .body
 subst hv
 intro h
 have hE := Option.some.inj h
 obtain ⟨hE0, hF0⟩ := Prod.mk.inj hE
 subst hE0 hF0
 exact go_retM Hd.plainG _ _ [0] [] [fbp [.sc (.int .i64 y1b)] (plC rfl rfl)] _ _ (runS 300 [pcallU (parser_checker_node_U c n depth false y1b (parser_checker_node_step c n depth false y1b hy1) 0 (by decide) (by decide))]) (by kernel_rfl) .body
noncomputable def B80 : Code := bodyOf Tryz.f80
theorem b80 : Tryz.f80.body = some B80 := by kernel_rfl
noncomputable def parser_checker_binary_B (r_parser_checker_expr : Ck → Nd → Int → Option (Bool × Int)) (r_parser_checker_binary : Ck → Nd → Int → Option (Bool × Int)) (r_parser_checker_number : Ck → Nd → Int → Option (Bool × Int)) (r_parser_checker_all_expr : Ck → (List Nd) → Int → Option (Bool × Int)) (c : Ck) (n : Nd) (depth : Int) : Option (Bool × Int) := cond (eqI ((n.kids.length : Nat) : Int) 2) ((n.kids[0]?).bind fun x1 => (r_parser_checker_expr c x1 (wadd depth 1)).bind fun (y2a, y2b) => cond y2a (cond (eqB n.name.data.toList q2fS.data.toList) ((n.kids[1]?).bind fun x3 => (r_parser_checker_number (⟨y2b⟩ : Ck) x3 (wadd depth 1)).bind fun (y4a, y4b) => some (y4a, y4b)) (cond (eqB n.name.data.toList orS.data.toList) ((n.kids[1]?).bind fun x5 => (r_parser_checker_expr (⟨y2b⟩ : Ck) x5 (wadd depth 1)).bind fun (y6a, y6b) => some (y6a, y6b)) (cond (eqB n.name.data.toList andS.data.toList) ((n.kids[1]?).bind fun x7 => (r_parser_checker_expr (⟨y2b⟩ : Ck) x7 (wadd depth 1)).bind fun (y8a, y8b) => some (y8a, y8b)) (cond (eqB n.name.data.toList q3d3dS.data.toList) ((n.kids[1]?).bind fun x9 => (r_parser_checker_expr (⟨y2b⟩ : Ck) x9 (wadd depth 1)).bind fun (y10a, y10b) => some (y10a, y10b)) (cond (eqB n.name.data.toList q213dS.data.toList) ((n.kids[1]?).bind fun x11 => (r_parser_checker_expr (⟨y2b⟩ : Ck) x11 (wadd depth 1)).bind fun (y12a, y12b) => some (y12a, y12b)) (cond (eqB n.name.data.toList q3cS.data.toList) ((n.kids[1]?).bind fun x13 => (r_parser_checker_expr (⟨y2b⟩ : Ck) x13 (wadd depth 1)).bind fun (y14a, y14b) => some (y14a, y14b)) (cond (eqB n.name.data.toList q3c3dS.data.toList) ((n.kids[1]?).bind fun x15 => (r_parser_checker_expr (⟨y2b⟩ : Ck) x15 (wadd depth 1)).bind fun (y16a, y16b) => some (y16a, y16b)) (cond (eqB n.name.data.toList q2bS.data.toList) ((n.kids[1]?).bind fun x17 => (r_parser_checker_expr (⟨y2b⟩ : Ck) x17 (wadd depth 1)).bind fun (y18a, y18b) => some (y18a, y18b)) (cond (eqB n.name.data.toList q2dS.data.toList) ((n.kids[1]?).bind fun x19 => (r_parser_checker_expr (⟨y2b⟩ : Ck) x19 (wadd depth 1)).bind fun (y20a, y20b) => some (y20a, y20b)) (cond (eqB n.name.data.toList q2aS.data.toList) ((n.kids[1]?).bind fun x21 => (r_parser_checker_expr (⟨y2b⟩ : Ck) x21 (wadd depth 1)).bind fun (y22a, y22b) => some (y22a, y22b)) (cond (eqB n.name.data.toList atS.data.toList) ((n.kids[1]?).bind fun x23 => (r_parser_checker_expr (⟨y2b⟩ : Ck) x23 (wadd depth 1)).bind fun (y24a, y24b) => some (y24a, y24b)) (some (false, y2b))))))))))))) (some (false, y2b))) (some (false, c.nodes))
theorem parser_checker_binary_step (r_parser_checker_expr : Ck → Nd → Int → Option (Bool × Int)) (r_parser_checker_binary : Ck → Nd → Int → Option (Bool × Int)) (r_parser_checker_number : Ck → Nd → Int → Option (Bool × Int)) (r_parser_checker_all_expr : Ck → (List Nd) → Int → Option (Bool × Int)) (hr_parser_checker_expr : ∀ (c : Ck) (n : Nd) (depth : Int) (yR : Bool) (qc_nodesR : Int), r_parser_checker_expr c n depth = some (yR, qc_nodesR) → Sound P G (.call 49 [.ptr 0 0, .agg (ndC n), .sc (.int .i64 depth)] ⟨[(0, .cells (ckC c))], 1, [], 0⟩ (.ret (.sc (.bool yR))) ⟨[(0, .cells [.sc (.int .i64 qc_nodesR)])], 1, [], 0⟩)) (hr_parser_checker_binary : ∀ (c : Ck) (n : Nd) (depth : Int) (yR : Bool) (qc_nodesR : Int), r_parser_checker_binary c n depth = some (yR, qc_nodesR) → Sound P G (.call 80 [.ptr 0 0, .agg (ndC n), .sc (.int .i64 depth)] ⟨[(0, .cells (ckC c))], 1, [], 0⟩ (.ret (.sc (.bool yR))) ⟨[(0, .cells [.sc (.int .i64 qc_nodesR)])], 1, [], 0⟩)) (hr_parser_checker_number : ∀ (c : Ck) (n : Nd) (depth : Int) (yR : Bool) (qc_nodesR : Int), r_parser_checker_number c n depth = some (yR, qc_nodesR) → Sound P G (.call 115 [.ptr 0 0, .agg (ndC n), .sc (.int .i64 depth)] ⟨[(0, .cells (ckC c))], 1, [], 0⟩ (.ret (.sc (.bool yR))) ⟨[(0, .cells [.sc (.int .i64 qc_nodesR)])], 1, [], 0⟩)) (hr_parser_checker_all_expr : ∀ (c : Ck) (list : (List Nd)) (depth : Int) (yR : Bool) (qc_nodesR : Int), r_parser_checker_all_expr c list depth = some (yR, qc_nodesR) → Sound P G (.call 52 [.ptr 0 0, .sl .lost list.length (ndsC list), .sc (.int .i64 depth), .fn (.func 49) [.ptr 0 0] []] ⟨[(0, .cells (ckC c))], 1, [], 0⟩ (.ret (.sc (.bool yR))) ⟨[(0, .cells [.sc (.int .i64 qc_nodesR)])], 1, [], 0⟩)) (c : Ck) (n : Nd) (depth : Int) (yR : Bool) (qc_nodesR : Int) (h : parser_checker_binary_B r_parser_checker_expr r_parser_checker_binary r_parser_checker_number r_parser_checker_all_expr c n depth = some (yR, qc_nodesR)) : Sound P G (.call 80 [.ptr 0 0, .agg (ndC n), .sc (.int .i64 depth)] ⟨[(0, .cells (ckC c))], 1, [], 0⟩ (.ret (.sc (.bool yR))) ⟨[(0, .cells [.sc (.int .i64 qc_nodesR)])], 1, [], 0⟩) := by
 unfold parser_checker_binary_B at h
 refine soundM Hd.mixed (WC_body Tryz.func80 b80 ?_)
 revert h
 refine cndI (fun hb1 => ?_) fun hb1 => ?_
 refine bndI fun x1 hx1 => ?_
 refine bndI ?_
 rintro ⟨y2a, y2b⟩ hy2
 dsimp only
 let o1 : List (PC P G) := [pn hb1, pix (ix25 .lost hx1), pk]
 refine cndI (fun hv => ?_) fun hv => ?_
 subst hv
 let o2 : List (PC P G) := o1 ++ [pcallU (parser_checker_expr_U c x1 (wadd depth 1) true y2b (hr_parser_checker_expr c x1 (wadd depth 1) true y2b hy2) 0 (by decide) (by decide))]
 refine cndI (fun hb2 => ?_) fun hb2 => ?_
 refine bndI fun x3 hx3 => ?_
 refine bndI ?_
 rintro ⟨y4a, y4b⟩ hy4
 dsimp only
 intro h
 have hE := Option.some.inj h
 obtain ⟨hE0, hF0⟩ := Prod.mk.inj hE
 subst hE0 hF0
 exact go_retM Hd.plainG _ _ [0] [] [fbp [.sc (.int .i64 y4b)] (plC rfl rfl)] _ _ (runS 300 (o2 ++ [pb hb2, pix (ix25 .lost hx3), pk, pcallU (parser_checker_number_U (⟨y2b⟩ : Ck) x3 (wadd depth 1) y4a y4b (hr_parser_checker_number (⟨y2b⟩ : Ck) x3 (wadd depth 1) y4a y4b hy4) 0 (by decide) (by decide))])) (by kernel_rfl) .body
 let o3 : List (PC P G) := o2 ++ [pb hb2]
 refine cndI (fun hb3 => ?_) fun hb3 => ?_
 refine bndI fun x5 hx5 => ?_
 refine bndI ?_
 rintro ⟨y6a, y6b⟩ hy6
 dsimp only
 intro h
 have hE := Option.some.inj h
 obtain ⟨hE0, hF0⟩ := Prod.mk.inj hE
 subst hE0 hF0
 exact go_retM Hd.plainG _ _ [0] [] [fbp [.sc (.int .i64 y6b)] (plC rfl rfl)] _ _ (runS 300 (o3 ++ [pb hb3, pix (ix25 .lost hx5), pk, pcallU (parser_checker_expr_U (⟨y2b⟩ : Ck) x5 (wadd depth 1) y6a y6b (hr_parser_checker_expr (⟨y2b⟩ : Ck) x5 (wadd depth 1) y6a y6b hy6) 0 (by decide) (by decide))])) (by kernel_rfl) .body
 refine cndI (fun hb4 => ?_) fun hb4 => ?_
 refine bndI fun x7 hx7 => ?_
 refine bndI ?_
 rintro ⟨y8a, y8b⟩ hy8
 dsimp only
 intro h
 have hE := Option.some.inj h
 obtain ⟨hE0, hF0⟩ := Prod.mk.inj hE
 subst hE0 hF0
 exact go_retM Hd.plainG _ _ [0] [] [fbp [.sc (.int .i64 y8b)] (plC rfl rfl)] _ _ (runS 300 (o3 ++ [pb hb3, pb hb4, pix (ix25 .lost hx7), pk, pcallU (parser_checker_expr_U (⟨y2b⟩ : Ck) x7 (wadd depth 1) y8a y8b (hr_parser_checker_expr (⟨y2b⟩ : Ck) x7 (wadd depth 1) y8a y8b hy8) 0 (by decide) (by decide))])) (by kernel_rfl) .body
 let o4 : List (PC P G) := o3 ++ [pb hb3, pb hb4]
 refine cndI (fun hb5 => ?_) fun hb5 => ?_
 refine bndI fun x9 hx9 => ?_
 refine bndI ?_
 rintro ⟨y10a, y10b⟩ hy10
 dsimp only
 intro h
 have hE := Option.some.inj h
 obtain ⟨hE0, hF0⟩ := Prod.mk.inj hE
 subst hE0 hF0
 exact go_retM Hd.plainG _ _ [0] [] [fbp [.sc (.int .i64 y10b)] (plC rfl rfl)] _ _ (runS 300 (o4 ++ [pb hb5, pix (ix25 .lost hx9), pk, pcallU (parser_checker_expr_U (⟨y2b⟩ : Ck) x9 (wadd depth 1) y10a y10b (hr_parser_checker_expr (⟨y2b⟩ : Ck) x9 (wadd depth 1) y10a y10b hy10) 0 (by decide) (by decide))])) (by kernel_rfl) .body
 refine cndI (fun hb6 => ?_) fun hb6 => ?_
 refine bndI fun x11 hx11 => ?_
 refine bndI ?_
 rintro ⟨y12a, y12b⟩ hy12
 dsimp only
 intro h
 have hE := Option.some.inj h
 obtain ⟨hE0, hF0⟩ := Prod.mk.inj hE
 subst hE0 hF0
 exact go_retM Hd.plainG _ _ [0] [] [fbp [.sc (.int .i64 y12b)] (plC rfl rfl)] _ _ (runS 300 (o4 ++ [pb hb5, pb hb6, pix (ix25 .lost hx11), pk, pcallU (parser_checker_expr_U (⟨y2b⟩ : Ck) x11 (wadd depth 1) y12a y12b (hr_parser_checker_expr (⟨y2b⟩ : Ck) x11 (wadd depth 1) y12a y12b hy12) 0 (by decide) (by decide))])) (by kernel_rfl) .body
 let o5 : List (PC P G) := o4 ++ [pb hb5, pb hb6]
 refine cndI (fun hb7 => ?_) fun hb7 => ?_
 refine bndI fun x13 hx13 => ?_
 refine bndI ?_
 rintro ⟨y14a, y14b⟩ hy14
 dsimp only
 intro h
 have hE := Option.some.inj h
 obtain ⟨hE0, hF0⟩ := Prod.mk.inj hE
 subst hE0 hF0
 exact go_retM Hd.plainG _ _ [0] [] [fbp [.sc (.int .i64 y14b)] (plC rfl rfl)] _ _ (runS 300 (o5 ++ [pb hb7, pix (ix25 .lost hx13), pk, pcallU (parser_checker_expr_U (⟨y2b⟩ : Ck) x13 (wadd depth 1) y14a y14b (hr_parser_checker_expr (⟨y2b⟩ : Ck) x13 (wadd depth 1) y14a y14b hy14) 0 (by decide) (by decide))])) (by kernel_rfl) .body
 refine cndI (fun hb8 => ?_) fun hb8 => ?_
 refine bndI fun x15 hx15 => ?_
 refine bndI ?_
 rintro ⟨y16a, y16b⟩ hy16
 dsimp only
 intro h
 have hE := Option.some.inj h
 obtain ⟨hE0, hF0⟩ := Prod.mk.inj hE
 subst hE0 hF0
 exact go_retM Hd.plainG _ _ [0] [] [fbp [.sc (.int .i64 y16b)] (plC rfl rfl)] _ _ (runS 300 (o5 ++ [pb hb7, pb hb8, pix (ix25 .lost hx15), pk, pcallU (parser_checker_expr_U (⟨y2b⟩ : Ck) x15 (wadd depth 1) y16a y16b (hr_parser_checker_expr (⟨y2b⟩ : Ck) x15 (wadd depth 1) y16a y16b hy16) 0 (by decide) (by decide))])) (by kernel_rfl) .body
 refine cndI (fun hb9 => ?_) fun hb9 => ?_
 refine bndI fun x17 hx17 => ?_
 refine bndI ?_
 rintro ⟨y18a, y18b⟩ hy18
 dsimp only
 intro h
 have hE := Option.some.inj h
 obtain ⟨hE0, hF0⟩ := Prod.mk.inj hE
 subst hE0 hF0
 exact go_retM Hd.plainG _ _ [0] [] [fbp [.sc (.int .i64 y18b)] (plC rfl rfl)] _ _ (runS 300 (o5 ++ [pb hb7, pb hb8, pb hb9, pix (ix25 .lost hx17), pk, pcallU (parser_checker_expr_U (⟨y2b⟩ : Ck) x17 (wadd depth 1) y18a y18b (hr_parser_checker_expr (⟨y2b⟩ : Ck) x17 (wadd depth 1) y18a y18b hy18) 0 (by decide) (by decide))])) (by kernel_rfl) .body
 refine cndI (fun hb10 => ?_) fun hb10 => ?_
 refine bndI fun x19 hx19 => ?_
 refine bndI ?_
 rintro ⟨y20a, y20b⟩ hy20
 dsimp only
 intro h
 have hE := Option.some.inj h
 obtain ⟨hE0, hF0⟩ := Prod.mk.inj hE
 subst hE0 hF0
 exact go_retM Hd.plainG _ _ [0] [] [fbp [.sc (.int .i64 y20b)] (plC rfl rfl)] _ _ (runS 300 (o5 ++ [pb hb7, pb hb8, pb hb9, pb hb10, pix (ix25 .lost hx19), pk, pcallU (parser_checker_expr_U (⟨y2b⟩ : Ck) x19 (wadd depth 1) y20a y20b (hr_parser_checker_expr (⟨y2b⟩ : Ck) x19 (wadd depth 1) y20a y20b hy20) 0 (by decide) (by decide))])) (by kernel_rfl) .body
 refine cndI (fun hb11 => ?_) fun hb11 => ?_
 refine bndI fun x21 hx21 => ?_
 refine bndI ?_
 rintro ⟨y22a, y22b⟩ hy22
 dsimp only
 intro h
 have hE := Option.some.inj h
 obtain ⟨hE0, hF0⟩ := Prod.mk.inj hE
 subst hE0 hF0
 exact go_retM Hd.plainG _ _ [0] [] [fbp [.sc (.int .i64 y22b)] (plC rfl rfl)] _ _ (runS 300 (o5 ++ [pb hb7, pb hb8, pb hb9, pb hb10, pb hb11, pix (ix25 .lost hx21), pk, pcallU (parser_checker_expr_U (⟨y2b⟩ : Ck) x21 (wadd depth 1) y22a y22b (hr_parser_checker_expr (⟨y2b⟩ : Ck) x21 (wadd depth 1) y22a y22b hy22) 0 (by decide) (by decide))])) (by kernel_rfl) .body
 refine cndI (fun hb12 => ?_) fun hb12 => ?_
 refine bndI fun x23 hx23 => ?_
 refine bndI ?_
 rintro ⟨y24a, y24b⟩ hy24
 dsimp only
 intro h
 have hE := Option.some.inj h
 obtain ⟨hE0, hF0⟩ := Prod.mk.inj hE
 subst hE0 hF0
 exact go_retM Hd.plainG _ _ [0] [] [fbp [.sc (.int .i64 y24b)] (plC rfl rfl)] _ _ (runS 300 (o5 ++ [pb hb7, pb hb8, pb hb9, pb hb10, pb hb11, pb hb12, pix (ix25 .lost hx23), pk, pcallU (parser_checker_expr_U (⟨y2b⟩ : Ck) x23 (wadd depth 1) y24a y24b (hr_parser_checker_expr (⟨y2b⟩ : Ck) x23 (wadd depth 1) y24a y24b hy24) 0 (by decide) (by decide))])) (by kernel_rfl) .body
 intro h
 have hE := Option.some.inj h
 obtain ⟨hE0, hF0⟩ := Prod.mk.inj hE
 subst hE0 hF0
 exact go_retM Hd.plainG _ _ [0] [] [fbp [.sc (.int .i64 y2b)] (plC rfl rfl)] _ _ (runS 300 (o5 ++ [pb hb7, pb hb8, pb hb9, pb hb10, pb hb11, pb hb12])) (by kernel_rfl) .body
 subst hv
 intro h
 have hE := Option.some.inj h
 obtain ⟨hE0, hF0⟩ := Prod.mk.inj hE
 subst hE0 hF0
 exact go_retM Hd.plainG _ _ [0] [] [fbp [.sc (.int .i64 y2b)] (plC rfl rfl)] _ _ (runS 300 (o1 ++ [pcallU (parser_checker_expr_U c x1 (wadd depth 1) false y2b (hr_parser_checker_expr c x1 (wadd depth 1) false y2b hy2) 0 (by decide) (by decide))])) (by kernel_rfl) .body
 intro h
 have hE := Option.some.inj h
 obtain ⟨hE0, hF0⟩ := Prod.mk.inj hE
 subst hE0 hF0
 exact go_retM Hd.plainG _ _ [0] [] [fbp (ckC c) (layCk.pl c)] _ _ (runS 300 [pn hb1]) (by kernel_rfl) .body
noncomputable def B115 : Code := bodyOf Tryz.f115
theorem b115 : Tryz.f115.body = some B115 := by kernel_rfl
noncomputable def parser_checker_number_B (r_parser_checker_expr : Ck → Nd → Int → Option (Bool × Int)) (r_parser_checker_binary : Ck → Nd → Int → Option (Bool × Int)) (r_parser_checker_number : Ck → Nd → Int → Option (Bool × Int)) (r_parser_checker_all_expr : Ck → (List Nd) → Int → Option (Bool × Int)) (c : Ck) (n : Nd) (depth : Int) : Option (Bool × Int) := (r_parser_checker_expr c n depth).bind fun (y1a, y1b) => cond y1a (cond (eqI n.kind 11) (cond (eqB n.unit.data.toList numberS.data.toList) ((parser_goodRatio_B n.n).bind fun y2 => some (y2, y1b)) (some (false, y1b))) (some (false, y1b))) (some (false, y1b))
theorem parser_checker_number_step (r_parser_checker_expr : Ck → Nd → Int → Option (Bool × Int)) (r_parser_checker_binary : Ck → Nd → Int → Option (Bool × Int)) (r_parser_checker_number : Ck → Nd → Int → Option (Bool × Int)) (r_parser_checker_all_expr : Ck → (List Nd) → Int → Option (Bool × Int)) (hr_parser_checker_expr : ∀ (c : Ck) (n : Nd) (depth : Int) (yR : Bool) (qc_nodesR : Int), r_parser_checker_expr c n depth = some (yR, qc_nodesR) → Sound P G (.call 49 [.ptr 0 0, .agg (ndC n), .sc (.int .i64 depth)] ⟨[(0, .cells (ckC c))], 1, [], 0⟩ (.ret (.sc (.bool yR))) ⟨[(0, .cells [.sc (.int .i64 qc_nodesR)])], 1, [], 0⟩)) (hr_parser_checker_binary : ∀ (c : Ck) (n : Nd) (depth : Int) (yR : Bool) (qc_nodesR : Int), r_parser_checker_binary c n depth = some (yR, qc_nodesR) → Sound P G (.call 80 [.ptr 0 0, .agg (ndC n), .sc (.int .i64 depth)] ⟨[(0, .cells (ckC c))], 1, [], 0⟩ (.ret (.sc (.bool yR))) ⟨[(0, .cells [.sc (.int .i64 qc_nodesR)])], 1, [], 0⟩)) (hr_parser_checker_number : ∀ (c : Ck) (n : Nd) (depth : Int) (yR : Bool) (qc_nodesR : Int), r_parser_checker_number c n depth = some (yR, qc_nodesR) → Sound P G (.call 115 [.ptr 0 0, .agg (ndC n), .sc (.int .i64 depth)] ⟨[(0, .cells (ckC c))], 1, [], 0⟩ (.ret (.sc (.bool yR))) ⟨[(0, .cells [.sc (.int .i64 qc_nodesR)])], 1, [], 0⟩)) (hr_parser_checker_all_expr : ∀ (c : Ck) (list : (List Nd)) (depth : Int) (yR : Bool) (qc_nodesR : Int), r_parser_checker_all_expr c list depth = some (yR, qc_nodesR) → Sound P G (.call 52 [.ptr 0 0, .sl .lost list.length (ndsC list), .sc (.int .i64 depth), .fn (.func 49) [.ptr 0 0] []] ⟨[(0, .cells (ckC c))], 1, [], 0⟩ (.ret (.sc (.bool yR))) ⟨[(0, .cells [.sc (.int .i64 qc_nodesR)])], 1, [], 0⟩)) (c : Ck) (n : Nd) (depth : Int) (yR : Bool) (qc_nodesR : Int) (h : parser_checker_number_B r_parser_checker_expr r_parser_checker_binary r_parser_checker_number r_parser_checker_all_expr c n depth = some (yR, qc_nodesR)) : Sound P G (.call 115 [.ptr 0 0, .agg (ndC n), .sc (.int .i64 depth)] ⟨[(0, .cells (ckC c))], 1, [], 0⟩ (.ret (.sc (.bool yR))) ⟨[(0, .cells [.sc (.int .i64 qc_nodesR)])], 1, [], 0⟩) := by
 unfold parser_checker_number_B at h
 refine soundM Hd.mixed (WC_body Tryz.func115 b115 ?_)
 revert h
 refine bndI ?_
 rintro ⟨y1a, y1b⟩ hy1
 dsimp only
 refine cndI (fun hv => ?_) fun hv => ?_
 subst hv
 let o1 : List (PC P G) := [pcallU (parser_checker_expr_U c n depth true y1b (hr_parser_checker_expr c n depth true y1b hy1) 0 (by decide) (by decide))]
 refine cndI (fun hb1 => ?_) fun hb1 => ?_
 refine cndI (fun hb2 => ?_) fun hb2 => ?_
 refine bndI fun y2 hy2 => ?_
 intro h
 have hE := Option.some.inj h
 obtain ⟨hE0, hF0⟩ := Prod.mk.inj hE
 subst hE0 hF0
 exact go_retM Hd.plainG _ _ [0] [] [fbp [.sc (.int .i64 y1b)] (plC rfl rfl)] _ _ (runS 300 (o1 ++ [pb hb1, pb hb2, pcall (parser_goodRatio_step n.n y2 hy2)])) (by kernel_rfl) .body
 intro h
 have hE := Option.some.inj h
 obtain ⟨hE0, hF0⟩ := Prod.mk.inj hE
 subst hE0 hF0
 exact go_retM Hd.plainG _ _ [0] [] [fbp [.sc (.int .i64 y1b)] (plC rfl rfl)] _ _ (runS 300 (o1 ++ [pb hb1, pb hb2])) (by kernel_rfl) .body
 intro h
 have hE := Option.some.inj h
 obtain ⟨hE0, hF0⟩ := Prod.mk.inj hE
 subst hE0 hF0
 exact go_retM Hd.plainG _ _ [0] [] [fbp [.sc (.int .i64 y1b)] (plC rfl rfl)] _ _ (runS 300 (o1 ++ [pb hb1])) (by kernel_rfl) .body
 subst hv
 intro h
 have hE := Option.some.inj h
 obtain ⟨hE0, hF0⟩ := Prod.mk.inj hE
 subst hE0 hF0
 exact go_retM Hd.plainG _ _ [0] [] [fbp [.sc (.int .i64 y1b)] (plC rfl rfl)] _ _ (runS 300 [pcallU (parser_checker_expr_U c n depth false y1b (hr_parser_checker_expr c n depth false y1b hy1) 0 (by decide) (by decide))]) (by kernel_rfl) .body
noncomputable def B52 : Code := bodyOf Tryz.f52
theorem b52 : Tryz.f52.body = some B52 := by kernel_rfl
noncomputable def parser_checker_all_expr_L1 (r_parser_checker_expr : Ck → Nd → Int → Option (Bool × Int)) (r_parser_checker_binary : Ck → Nd → Int → Option (Bool × Int)) (r_parser_checker_number : Ck → Nd → Int → Option (Bool × Int)) (r_parser_checker_all_expr : Ck → (List Nd) → Int → Option (Bool × Int)) (depth : Int) (i0 : Nat) (e0 : Nd) (w0_0 : Int) : Option (Lp Int Int (Bool × Int)) := (r_parser_checker_expr (⟨w0_0⟩ : Ck) e0 depth).bind fun (y1a, y1b) => cond y1a (some (.nx y1b)) (some (.rt (false, y1b)))
noncomputable def parser_checker_all_expr_B (r_parser_checker_expr : Ck → Nd → Int → Option (Bool × Int)) (r_parser_checker_binary : Ck → Nd → Int → Option (Bool × Int)) (r_parser_checker_number : Ck → Nd → Int → Option (Bool × Int)) (r_parser_checker_all_expr : Ck → (List Nd) → Int → Option (Bool × Int)) (c : Ck) (list : (List Nd)) (depth : Int) : Option (Bool × Int) := (lim list.length (foldL (fun i y x => parser_checker_all_expr_L1 r_parser_checker_expr r_parser_checker_binary r_parser_checker_number r_parser_checker_all_expr depth i y x) (fun x => x) (list.drop 0) 0 c.nodes)).bind (lpK (fun (w0_0_2 : Int) => some (true, w0_0_2)) (fun v => some v))
theorem parser_checker_all_expr_step (r_parser_checker_expr : Ck → Nd → Int → Option (Bool × Int)) (r_parser_checker_binary : Ck → Nd → Int → Option (Bool × Int)) (r_parser_checker_number : Ck → Nd → Int → Option (Bool × Int)) (r_parser_checker_all_expr : Ck → (List Nd) → Int → Option (Bool × Int)) (hr_parser_checker_expr : ∀ (c : Ck) (n : Nd) (depth : Int) (yR : Bool) (qc_nodesR : Int), r_parser_checker_expr c n depth = some (yR, qc_nodesR) → Sound P G (.call 49 [.ptr 0 0, .agg (ndC n), .sc (.int .i64 depth)] ⟨[(0, .cells (ckC c))], 1, [], 0⟩ (.ret (.sc (.bool yR))) ⟨[(0, .cells [.sc (.int .i64 qc_nodesR)])], 1, [], 0⟩)) (hr_parser_checker_binary : ∀ (c : Ck) (n : Nd) (depth : Int) (yR : Bool) (qc_nodesR : Int), r_parser_checker_binary c n depth = some (yR, qc_nodesR) → Sound P G (.call 80 [.ptr 0 0, .agg (ndC n), .sc (.int .i64 depth)] ⟨[(0, .cells (ckC c))], 1, [], 0⟩ (.ret (.sc (.bool yR))) ⟨[(0, .cells [.sc (.int .i64 qc_nodesR)])], 1, [], 0⟩)) (hr_parser_checker_number : ∀ (c : Ck) (n : Nd) (depth : Int) (yR : Bool) (qc_nodesR : Int), r_parser_checker_number c n depth = some (yR, qc_nodesR) → Sound P G (.call 115 [.ptr 0 0, .agg (ndC n), .sc (.int .i64 depth)] ⟨[(0, .cells (ckC c))], 1, [], 0⟩ (.ret (.sc (.bool yR))) ⟨[(0, .cells [.sc (.int .i64 qc_nodesR)])], 1, [], 0⟩)) (hr_parser_checker_all_expr : ∀ (c : Ck) (list : (List Nd)) (depth : Int) (yR : Bool) (qc_nodesR : Int), r_parser_checker_all_expr c list depth = some (yR, qc_nodesR) → Sound P G (.call 52 [.ptr 0 0, .sl .lost list.length (ndsC list), .sc (.int .i64 depth), .fn (.func 49) [.ptr 0 0] []] ⟨[(0, .cells (ckC c))], 1, [], 0⟩ (.ret (.sc (.bool yR))) ⟨[(0, .cells [.sc (.int .i64 qc_nodesR)])], 1, [], 0⟩)) (c : Ck) (list : (List Nd)) (depth : Int) (yR : Bool) (qc_nodesR : Int) (h : parser_checker_all_expr_B r_parser_checker_expr r_parser_checker_binary r_parser_checker_number r_parser_checker_all_expr c list depth = some (yR, qc_nodesR)) : Sound P G (.call 52 [.ptr 0 0, .sl .lost list.length (ndsC list), .sc (.int .i64 depth), .fn (.func 49) [.ptr 0 0] []] ⟨[(0, .cells (ckC c))], 1, [], 0⟩ (.ret (.sc (.bool yR))) ⟨[(0, .cells [.sc (.int .i64 qc_nodesR)])], 1, [], 0⟩) := by
 unfold parser_checker_all_expr_B at h
 refine soundM Hd.mixed (WC_body Tryz.func52 b52 ?_)
 revert h
 refine bndI fun res hres h => ?_
 have hlen := (limE hres).1
 replace hres := (limE hres).2
 refine go_at [] [2, 3, 8, 11, 12, 13, 14, 16, 18, 20, 21] 0 (sub B52 [1, 0, 1, 0, 0]) [.code (sub B52 [1, 1])] _ _ (runS 300 []) (by kernel_rfl) (foldM (fn := Tryz.f52) (m := 1) (s00 := ⟨[(0, .cells (ckC c))], 1, [], 0⟩) (fun v => .sc (.bool v.1)) (fun v => ⟨[(0, .cells [.sc (.int .i64 v.2)])], 1, [], 0⟩) 0 list (fun i0 (w0_0 : Int) (j0 : JJ) => frm 23 0 [(2, .sc (.int .i64 depth)), (3, .fn (.func 49) [.ptr 0 0] []), (11, .sl .lost list.length (ndsC list)), (12, .sc (.int .i64 ((list.length : Nat) : Int))), (13, .sc (.int .i64 ((i0 : Nat) : Int)))] [8, 14, 20, 21] 0 [16, 18] 0 j0) (fun (_ : Nat) (w0_0 : Int) (_ : JJ) => ⟨[(0, .cells [.sc (.int .i64 w0_0)])], 1, [], 0⟩) (fun (j : JJ) => plainL j.2 = true) (fun (w0_0 : Int) (jx : JJ) => frm 23 0 [] [8, 14, 20, 21] 0 [16, 18] 0 jx) (fun (w0_0 : Int) (_ : JJ) => ⟨[(0, .cells [.sc (.int .i64 w0_0)])], 1, [], 0⟩) (fun (j : JJ) => plainL j.2 = true) ?_ ?_ 0 hres ?_ ?_ ([.bool false], [.sc undef, .sc undef]) (plC rfl (plC rfl rfl)))
 rintro i0 w0_0 j0 hj0 hge hq
 clear h hres
 refine WL_rnd ?_
 exact go_ex Hd.plainG [16, 28, 33, 37, 40, 42] [fq (gn_pl hj0 0), fq (gn_pl hj0 1)] [fbp [.sc (.int .i64 w0_0)] (plC rfl rfl)] 0 _ _ (runS 300 [pb (B := ltI ((i0 : Nat) : Int) ((list.length : Nat) : Int)) (b := false) (ltF hge)]) (by kernel_rfl) (hq ([(jn j0 0), .bool false, (jn j0 2), (jn j0 3)], [(gn j0 0), (gn j0 1)]) (plC (gn_pl hj0 0) (plC (gn_pl hj0 1) rfl)))
 clear h hres
 rintro i0 e0 w0_0 j0 r hj0 he0 hi0 h k
 refine WL_rnd ?_
 revert h
 show parser_checker_all_expr_L1 r_parser_checker_expr r_parser_checker_binary r_parser_checker_number r_parser_checker_all_expr depth i0 e0 w0_0 = some r → _
 unfold parser_checker_all_expr_L1
 refine bndI ?_
 rintro ⟨y1a, y1b⟩ hy1
 dsimp only
 let o1 : List (PC P G) := [pb (B := ltI ((i0 : Nat) : Int) ((list.length : Nat) : Int)) (b := true) (ltT hi0), pix (ix25 .lost he0)]
 refine cndI (fun hv => ?_) fun hv => ?_
 subst hv
 rintro ⟨⟩
 exact go_nx Hd.plainG [4, 7, 16, 23, 24, 26, 28, 33, 37, 40, 42] [⟨.fn (.func 49) [.ptr 0 0] [], .fn (.func 49) [.ptr 0 0] [], (.under (unFn (unC rfl rfl) rfl))⟩, fq (layNd.plS list), fq (layNd.plG e0), fq (layNd.plG e0)] [fbp [.sc (.int .i64 y1b)] (plC rfl rfl)] _ _ (runS 300 (o1 ++ [pcallU (parser_checker_expr_U (⟨w0_0⟩ : Ck) e0 depth true y1b (hr_parser_checker_expr (⟨w0_0⟩ : Ck) e0 depth true y1b hy1) 0 (by decide) (by decide)), pinc i0 (by omega)])) (by kernel_rfl) (k ([(jn j0 0), .bool true, .bool true, .bool false], [.agg (ndC e0), .agg (ndC e0)]) (plC (layNd.plG e0) (plC (layNd.plG e0) rfl)))
 subst hv
 rintro ⟨⟩
 exact go_retM Hd.plainG _ _ [0] [] [fbp [.sc (.int .i64 y1b)] (plC rfl rfl)] _ _ (runS 300 (o1 ++ [pcallU (parser_checker_expr_U (⟨w0_0⟩ : Ck) e0 depth false y1b (hr_parser_checker_expr (⟨w0_0⟩ : Ck) e0 depth false y1b hy1) 0 (by decide) (by decide))])) (by kernel_rfl) (.rnd k)
 rintro w0_0_2 rfl jx_2 hjx_2
 revert h
 clear hres
 dsimp only [lpK]
 intro h
 have hE := Option.some.inj h
 obtain ⟨hE0, hF0⟩ := Prod.mk.inj hE
 subst hE0 hF0
 exact go_retM Hd.plainG _ _ [0] [] [fbp [.sc (.int .i64 w0_0_2)] (plC rfl rfl)] _ _ (runX 300 []) (by kernel_rfl) .body
 rintro v rfl
 dsimp only [lpK] at h
 cases h
 exact .outer .body
mutual
noncomputable def parser_checker_expr_M : Nat → Ck → Nd → Int → Option (Bool × Int)
 | 0, _, _, _ => none
 | qn + 1, c, n, depth => parser_checker_expr_B (parser_checker_expr_M qn) (parser_checker_binary_M qn) (parser_checker_number_M qn) (parser_checker_all_expr_M qn) c n depth
noncomputable def parser_checker_binary_M : Nat → Ck → Nd → Int → Option (Bool × Int)
 | 0, _, _, _ => none
 | qn + 1, c, n, depth => parser_checker_binary_B (parser_checker_expr_M qn) (parser_checker_binary_M qn) (parser_checker_number_M qn) (parser_checker_all_expr_M qn) c n depth
noncomputable def parser_checker_number_M : Nat → Ck → Nd → Int → Option (Bool × Int)
 | 0, _, _, _ => none
 | qn + 1, c, n, depth => parser_checker_number_B (parser_checker_expr_M qn) (parser_checker_binary_M qn) (parser_checker_number_M qn) (parser_checker_all_expr_M qn) c n depth
noncomputable def parser_checker_all_expr_M : Nat → Ck → (List Nd) → Int → Option (Bool × Int)
 | 0, _, _, _ => none
 | qn + 1, c, list, depth => parser_checker_all_expr_B (parser_checker_expr_M qn) (parser_checker_binary_M qn) (parser_checker_number_M qn) (parser_checker_all_expr_M qn) c list depth
end
theorem parser_checker_expr_all : ∀ qn : Nat, (∀ (c : Ck) (n : Nd) (depth : Int) (yR : Bool) (qc_nodesR : Int), parser_checker_expr_M qn c n depth = some (yR, qc_nodesR) → Sound P G (.call 49 [.ptr 0 0, .agg (ndC n), .sc (.int .i64 depth)] ⟨[(0, .cells (ckC c))], 1, [], 0⟩ (.ret (.sc (.bool yR))) ⟨[(0, .cells [.sc (.int .i64 qc_nodesR)])], 1, [], 0⟩)) ∧ (∀ (c : Ck) (n : Nd) (depth : Int) (yR : Bool) (qc_nodesR : Int), parser_checker_binary_M qn c n depth = some (yR, qc_nodesR) → Sound P G (.call 80 [.ptr 0 0, .agg (ndC n), .sc (.int .i64 depth)] ⟨[(0, .cells (ckC c))], 1, [], 0⟩ (.ret (.sc (.bool yR))) ⟨[(0, .cells [.sc (.int .i64 qc_nodesR)])], 1, [], 0⟩)) ∧ (∀ (c : Ck) (n : Nd) (depth : Int) (yR : Bool) (qc_nodesR : Int), parser_checker_number_M qn c n depth = some (yR, qc_nodesR) → Sound P G (.call 115 [.ptr 0 0, .agg (ndC n), .sc (.int .i64 depth)] ⟨[(0, .cells (ckC c))], 1, [], 0⟩ (.ret (.sc (.bool yR))) ⟨[(0, .cells [.sc (.int .i64 qc_nodesR)])], 1, [], 0⟩)) ∧ (∀ (c : Ck) (list : (List Nd)) (depth : Int) (yR : Bool) (qc_nodesR : Int), parser_checker_all_expr_M qn c list depth = some (yR, qc_nodesR) → Sound P G (.call 52 [.ptr 0 0, .sl .lost list.length (ndsC list), .sc (.int .i64 depth), .fn (.func 49) [.ptr 0 0] []] ⟨[(0, .cells (ckC c))], 1, [], 0⟩ (.ret (.sc (.bool yR))) ⟨[(0, .cells [.sc (.int .i64 qc_nodesR)])], 1, [], 0⟩)) := by
 intro qn
 induction qn with
 | zero => exact ⟨(fun _ _ _ _ _ h => by simp only [parser_checker_expr_M] at h; cases h), (fun _ _ _ _ _ h => by simp only [parser_checker_binary_M] at h; cases h), (fun _ _ _ _ _ h => by simp only [parser_checker_number_M] at h; cases h), (fun _ _ _ _ _ h => by simp only [parser_checker_all_expr_M] at h; cases h)⟩
 | succ qn ih => exact ⟨(fun c n depth yR qc_nodesR h => parser_checker_expr_step _ _ _ _ ih.1 ih.2.1 ih.2.2.1 ih.2.2.2 c n depth yR qc_nodesR (by rw [parser_checker_expr_M] at h; exact h)), (fun c n depth yR qc_nodesR h => parser_checker_binary_step _ _ _ _ ih.1 ih.2.1 ih.2.2.1 ih.2.2.2 c n depth yR qc_nodesR (by rw [parser_checker_binary_M] at h; exact h)), (fun c n depth yR qc_nodesR h => parser_checker_number_step _ _ _ _ ih.1 ih.2.1 ih.2.2.1 ih.2.2.2 c n depth yR qc_nodesR (by rw [parser_checker_number_M] at h; exact h)), (fun c list depth yR qc_nodesR h => parser_checker_all_expr_step _ _ _ _ ih.1 ih.2.1 ih.2.2.1 ih.2.2.2 c list depth yR qc_nodesR (by rw [parser_checker_all_expr_M] at h; exact h))⟩
noncomputable def parser_checker_expr_R (c : Ck) (n : Nd) (depth : Int) : Option (Bool × Int) := evt (fun qn => parser_checker_expr_M qn c n depth)
theorem parser_checker_expr_ok (c : Ck) (n : Nd) (depth : Int) (yR : Bool) (qc_nodesR : Int) (h : parser_checker_expr_R c n depth = some (yR, qc_nodesR)) : Sound P G (.call 49 [.ptr 0 0, .agg (ndC n), .sc (.int .i64 depth)] ⟨[(0, .cells (ckC c))], 1, [], 0⟩ (.ret (.sc (.bool yR))) ⟨[(0, .cells [.sc (.int .i64 qc_nodesR)])], 1, [], 0⟩) := by
 obtain ⟨qn, h⟩ := evtE h
 exact (parser_checker_expr_all qn).1 c n depth yR qc_nodesR h
noncomputable def parser_checker_number_R (c : Ck) (n : Nd) (depth : Int) : Option (Bool × Int) := evt (fun qn => parser_checker_number_M qn c n depth)
theorem parser_checker_number_ok (c : Ck) (n : Nd) (depth : Int) (yR : Bool) (qc_nodesR : Int) (h : parser_checker_number_R c n depth = some (yR, qc_nodesR)) : Sound P G (.call 115 [.ptr 0 0, .agg (ndC n), .sc (.int .i64 depth)] ⟨[(0, .cells (ckC c))], 1, [], 0⟩ (.ret (.sc (.bool yR))) ⟨[(0, .cells [.sc (.int .i64 qc_nodesR)])], 1, [], 0⟩) := by
 obtain ⟨qn, h⟩ := evtE h
 exact (parser_checker_expr_all qn).2.2.1 c n depth yR qc_nodesR h
noncomputable def B116 : Code := bodyOf Tryz.f116
theorem b116 : Tryz.f116.body = some B116 := by kernel_rfl
noncomputable def parser_goodDay_B  (day : Int) : Option Bool := cond (leI 0 day) (cond (leI day 36524) (some true) (some false)) (some false)
theorem parser_goodDay_step   (day : Int) (yR : Bool) (h : parser_goodDay_B  day = some yR) : Pure P G 116 [.sc (.int .i64 day)] (.sc (.bool yR)) := by
 unfold parser_goodDay_B at h
 refine pureM Hd.mixed Hd.plainG (WC_body Tryz.func116 b116 ?_) (plC rfl rfl) rfl
 revert h
 refine cndI (fun hb1 => ?_) fun hb1 => ?_
 refine cndI (fun hb2 => ?_) fun hb2 => ?_
 rintro ⟨⟩
 exact rS (runS 300 [pb hb1, pb hb2]) (by kernel_rfl)
 rintro ⟨⟩
 exact rS (runS 300 [pb hb1, pb hb2]) (by kernel_rfl)
 rintro ⟨⟩
 exact rS (runS 300 [pb hb1]) (by kernel_rfl)
noncomputable def B83 : Code := bodyOf Tryz.f83
theorem b83 : Tryz.f83.body = some B83 := by kernel_rfl
noncomputable def parser_checker_head_B  (c : Ck) (n : Nd) (depth : Int) : Option (Bool × Int) := (parser_checker_node_B c n depth).bind fun (y1a, y1b) => cond y1a (cond (eqI n.kind 5) (cond (ltI n.n 0) (some (false, y1b)) (cond (ltI 1000000 n.n) (some (false, y1b)) (cond (ltI 0 ((n.kids.length : Nat) : Int)) (some (false, y1b)) ((parser_goodDay_B n.fr).bind fun y2 => cond y2 (cond (leI n.to n.fr) (some (false, y1b)) (cond (ltI 36525 n.to) (some (false, y1b)) ((parser_goodDay_B n.known).bind fun y3 => cond y3 ((parser_bare_B n (⟨0, ByteArray.empty, ByteArray.empty, n.n, n.fr, n.to, n.known, (⟨0, []⟩ : Fn), [], 0⟩ : Nd)).bind fun y4 => some (y4, y1b)) (some (false, y1b))))) (some (false, y1b)))))) (some (false, y1b))) (some (false, y1b))
theorem parser_checker_head_U (c : Ck) (n : Nd) (depth : Int) (yR : Bool) (qc_nodesR : Int) (hS : Sound P G (.call 83 [.ptr 0 0, .agg (ndC n), .sc (.int .i64 depth)] ⟨[(0, .cells (ckC c))], 1, [], 0⟩ (.ret (.sc (.bool yR))) ⟨[(0, .cells [.sc (.int .i64 qc_nodesR)])], 1, [], 0⟩)) (u0 : Nat) (hnb : [u0].Nodup) (hnt : ([] : List Nat).Nodup) : Cd.ok P G (.callU 83 [.ptr u0 0, .agg (ndC n), .sc (.int .i64 depth)] (.ret (.sc (.bool yR))) [(u0, .cells (ckC c))] [] [(u0, .cells [.sc (.int .i64 qc_nodesR)])] []) :=
 frameU (M := [.cells (ckC c)]) (M2 := [.cells [.sc (.int .i64 qc_nodesR)]]) (T := []) (T2 := []) (k := 1) (j := 0) Hd.plainG _ _ _ _ hS rfl rfl rfl rfl rfl hnb hnt rfl rfl (.cons (.cells (.pl (layCk.pl c))) .nil) (.cons (.cells (.pl (plC rfl rfl))) .nil) (.cons (.ptr (by decide)) (.cons (.pl (layNd.plG n)) (.cons (.pl rfl) .nil))) (.pl rfl) (fun e he => by simp only [List.mem_singleton] at he; subst he; exact (.arg (.here .ptr)))
theorem parser_checker_head_step   (c : Ck) (n : Nd) (depth : Int) (yR : Bool) (qc_nodesR : Int) (h : parser_checker_head_B  c n depth = some (yR, qc_nodesR)) : Sound P G (.call 83 [.ptr 0 0, .agg (ndC n), .sc (.int .i64 depth)] ⟨[(0, .cells (ckC c))], 1, [], 0⟩ (.ret (.sc (.bool yR))) ⟨[(0, .cells [.sc (.int .i64 qc_nodesR)])], 1, [], 0⟩) := by
 unfold parser_checker_head_B at h
 refine soundM Hd.mixed (WC_body Tryz.func83 b83 ?_)
 revert h
 refine bndI ?_
 rintro ⟨y1a, y1b⟩ hy1
 dsimp only
 refine cndI (fun hv => ?_) fun hv => ?_
 subst hv
 let o1 : List (PC P G) := [pcallU (parser_checker_node_U c n depth true y1b (parser_checker_node_step c n depth true y1b hy1) 0 (by decide) (by decide))]
 refine cndI (fun hb1 => ?_) fun hb1 => ?_
 refine cndI (fun hb2 => ?_) fun hb2 => ?_
 intro h
 have hE := Option.some.inj h
 obtain ⟨hE0, hF0⟩ := Prod.mk.inj hE
 subst hE0 hF0
 exact go_retM Hd.plainG _ _ [0] [] [fbp [.sc (.int .i64 y1b)] (plC rfl rfl)] _ _ (runS 300 (o1 ++ [pn hb1, pb hb2])) (by kernel_rfl) .body
 let o2 : List (PC P G) := o1 ++ [pn hb1, pb hb2]
 refine cndI (fun hb3 => ?_) fun hb3 => ?_
 intro h
 have hE := Option.some.inj h
 obtain ⟨hE0, hF0⟩ := Prod.mk.inj hE
 subst hE0 hF0
 exact go_retM Hd.plainG _ _ [0] [] [fbp [.sc (.int .i64 y1b)] (plC rfl rfl)] _ _ (runS 300 (o2 ++ [pb hb3])) (by kernel_rfl) .body
 refine cndI (fun hb4 => ?_) fun hb4 => ?_
 intro h
 have hE := Option.some.inj h
 obtain ⟨hE0, hF0⟩ := Prod.mk.inj hE
 subst hE0 hF0
 exact go_retM Hd.plainG _ _ [0] [] [fbp [.sc (.int .i64 y1b)] (plC rfl rfl)] _ _ (runS 300 (o2 ++ [pb hb3, pb hb4])) (by kernel_rfl) .body
 refine bndI fun y2 hy2 => ?_
 refine cndI (fun hv => ?_) fun hv => ?_
 subst hv
 let o3 : List (PC P G) := o2 ++ [pb hb3, pb hb4, pcall (parser_goodDay_step n.fr true hy2)]
 refine cndI (fun hb5 => ?_) fun hb5 => ?_
 intro h
 have hE := Option.some.inj h
 obtain ⟨hE0, hF0⟩ := Prod.mk.inj hE
 subst hE0 hF0
 exact go_retM Hd.plainG _ _ [0] [] [fbp [.sc (.int .i64 y1b)] (plC rfl rfl)] _ _ (runS 300 (o3 ++ [pb hb5])) (by kernel_rfl) .body
 refine cndI (fun hb6 => ?_) fun hb6 => ?_
 intro h
 have hE := Option.some.inj h
 obtain ⟨hE0, hF0⟩ := Prod.mk.inj hE
 subst hE0 hF0
 exact go_retM Hd.plainG _ _ [0] [] [fbp [.sc (.int .i64 y1b)] (plC rfl rfl)] _ _ (runS 300 (o3 ++ [pb hb5, pb hb6])) (by kernel_rfl) .body
 refine bndI fun y3 hy3 => ?_
 refine cndI (fun hv => ?_) fun hv => ?_
 subst hv
 refine bndI fun y4 hy4 => ?_
 intro h
 have hE := Option.some.inj h
 obtain ⟨hE0, hF0⟩ := Prod.mk.inj hE
 subst hE0 hF0
 exact go_retM Hd.plainG _ _ [0] [] [fbp [.sc (.int .i64 y1b)] (plC rfl rfl)] _ _ (runS 300 (o3 ++ [pb hb5, pb hb6, pcall (parser_goodDay_step n.known true hy3), pcallW (.r (.g (.r (.r (.r (.r (.r (.r (.r (.r (.z (.z (.r .nil))))))))))) .nil)) (parser_bare_step n (⟨0, ByteArray.empty, ByteArray.empty, n.n, n.fr, n.to, n.known, (⟨0, []⟩ : Fn), [], 0⟩ : Nd) y4 hy4)])) (by kernel_rfl) .body
 subst hv
 intro h
 have hE := Option.some.inj h
 obtain ⟨hE0, hF0⟩ := Prod.mk.inj hE
 subst hE0 hF0
 exact go_retM Hd.plainG _ _ [0] [] [fbp [.sc (.int .i64 y1b)] (plC rfl rfl)] _ _ (runS 300 (o3 ++ [pb hb5, pb hb6, pcall (parser_goodDay_step n.known false hy3)])) (by kernel_rfl) .body
 subst hv
 intro h
 have hE := Option.some.inj h
 obtain ⟨hE0, hF0⟩ := Prod.mk.inj hE
 subst hE0 hF0
 exact go_retM Hd.plainG _ _ [0] [] [fbp [.sc (.int .i64 y1b)] (plC rfl rfl)] _ _ (runS 300 (o2 ++ [pb hb3, pb hb4, pcall (parser_goodDay_step n.fr false hy2)])) (by kernel_rfl) .body
 intro h
 have hE := Option.some.inj h
 obtain ⟨hE0, hF0⟩ := Prod.mk.inj hE
 subst hE0 hF0
 exact go_retM Hd.plainG _ _ [0] [] [fbp [.sc (.int .i64 y1b)] (plC rfl rfl)] _ _ (runS 300 (o1 ++ [pn hb1])) (by kernel_rfl) .body
 subst hv
 intro h
 have hE := Option.some.inj h
 obtain ⟨hE0, hF0⟩ := Prod.mk.inj hE
 subst hE0 hF0
 exact go_retM Hd.plainG _ _ [0] [] [fbp [.sc (.int .i64 y1b)] (plC rfl rfl)] _ _ (runS 300 [pcallU (parser_checker_node_U c n depth false y1b (parser_checker_node_step c n depth false y1b hy1) 0 (by decide) (by decide))]) (by kernel_rfl) .body
noncomputable def parser_checker_all_number_L1  (depth : Int) (i0 : Nat) (e0 : Nd) (w0_0 : Int) : Option (Lp Int Int (Bool × Int)) := (parser_checker_number_R (⟨w0_0⟩ : Ck) e0 depth).bind fun (y1a, y1b) => cond y1a (some (.nx y1b)) (some (.rt (false, y1b)))
noncomputable def parser_checker_all_number_B  (c : Ck) (list : (List Nd)) (depth : Int) : Option (Bool × Int) := (lim list.length (foldL (fun i y x => parser_checker_all_number_L1  depth i y x) (fun x => x) (list.drop 0) 0 c.nodes)).bind (lpK (fun (w0_0_2 : Int) => some (true, w0_0_2)) (fun v => some v))
theorem parser_checker_all_number_U (c : Ck) (list : (List Nd)) (depth : Int) (yR : Bool) (qc_nodesR : Int) (hS : Sound P G (.call 52 [.ptr 0 0, .sl .lost list.length (ndsC list), .sc (.int .i64 depth), .fn (.func 115) [.ptr 0 0] []] ⟨[(0, .cells (ckC c))], 1, [], 0⟩ (.ret (.sc (.bool yR))) ⟨[(0, .cells [.sc (.int .i64 qc_nodesR)])], 1, [], 0⟩)) (u0 : Nat) (hnb : [u0].Nodup) (hnt : ([] : List Nat).Nodup) : Cd.ok P G (.callU 52 [.ptr u0 0, .sl .lost list.length (ndsC list), .sc (.int .i64 depth), .fn (.func 115) [.ptr u0 0] []] (.ret (.sc (.bool yR))) [(u0, .cells (ckC c))] [] [(u0, .cells [.sc (.int .i64 qc_nodesR)])] []) :=
 frameU (M := [.cells (ckC c)]) (M2 := [.cells [.sc (.int .i64 qc_nodesR)]]) (T := []) (T2 := []) (k := 1) (j := 0) Hd.plainG _ _ _ _ hS rfl rfl rfl rfl rfl hnb hnt rfl rfl (.cons (.cells (.pl (layCk.pl c))) .nil) (.cons (.cells (.pl (plC rfl rfl))) .nil) (.cons (.ptr (by decide)) (.cons (.pl (layNd.plS list)) (.cons (.pl rfl) (.cons (.fn (.cons (.ptr (by decide)) .nil) (.pl rfl)) .nil)))) (.pl rfl) (fun e he => by simp only [List.mem_singleton] at he; subst he; exact (.arg (.here .ptr)))
theorem parser_checker_all_number_step   (c : Ck) (list : (List Nd)) (depth : Int) (yR : Bool) (qc_nodesR : Int) (h : parser_checker_all_number_B  c list depth = some (yR, qc_nodesR)) : Sound P G (.call 52 [.ptr 0 0, .sl .lost list.length (ndsC list), .sc (.int .i64 depth), .fn (.func 115) [.ptr 0 0] []] ⟨[(0, .cells (ckC c))], 1, [], 0⟩ (.ret (.sc (.bool yR))) ⟨[(0, .cells [.sc (.int .i64 qc_nodesR)])], 1, [], 0⟩) := by
 unfold parser_checker_all_number_B at h
 refine soundM Hd.mixed (WC_body Tryz.func52 b52 ?_)
 revert h
 refine bndI fun res hres h => ?_
 have hlen := (limE hres).1
 replace hres := (limE hres).2
 refine go_at [] [2, 3, 8, 11, 12, 13, 14, 16, 18, 20, 21] 0 (sub B52 [1, 0, 1, 0, 0]) [.code (sub B52 [1, 1])] _ _ (runS 300 []) (by kernel_rfl) (foldM (fn := Tryz.f52) (m := 1) (s00 := ⟨[(0, .cells (ckC c))], 1, [], 0⟩) (fun v => .sc (.bool v.1)) (fun v => ⟨[(0, .cells [.sc (.int .i64 v.2)])], 1, [], 0⟩) 0 list (fun i0 (w0_0 : Int) (j0 : JJ) => frm 23 0 [(2, .sc (.int .i64 depth)), (3, .fn (.func 115) [.ptr 0 0] []), (11, .sl .lost list.length (ndsC list)), (12, .sc (.int .i64 ((list.length : Nat) : Int))), (13, .sc (.int .i64 ((i0 : Nat) : Int)))] [8, 14, 20, 21] 0 [16, 18] 0 j0) (fun (_ : Nat) (w0_0 : Int) (_ : JJ) => ⟨[(0, .cells [.sc (.int .i64 w0_0)])], 1, [], 0⟩) (fun (j : JJ) => plainL j.2 = true) (fun (w0_0 : Int) (jx : JJ) => frm 23 0 [] [8, 14, 20, 21] 0 [16, 18] 0 jx) (fun (w0_0 : Int) (_ : JJ) => ⟨[(0, .cells [.sc (.int .i64 w0_0)])], 1, [], 0⟩) (fun (j : JJ) => plainL j.2 = true) ?_ ?_ 0 hres ?_ ?_ ([.bool false], [.sc undef, .sc undef]) (plC rfl (plC rfl rfl)))
 rintro i0 w0_0 j0 hj0 hge hq
 clear h hres
 refine WL_rnd ?_
 exact go_ex Hd.plainG [16, 28, 33, 37, 40, 42] [fq (gn_pl hj0 0), fq (gn_pl hj0 1)] [fbp [.sc (.int .i64 w0_0)] (plC rfl rfl)] 0 _ _ (runS 300 [pb (B := ltI ((i0 : Nat) : Int) ((list.length : Nat) : Int)) (b := false) (ltF hge)]) (by kernel_rfl) (hq ([(jn j0 0), .bool false, (jn j0 2), (jn j0 3)], [(gn j0 0), (gn j0 1)]) (plC (gn_pl hj0 0) (plC (gn_pl hj0 1) rfl)))
 clear h hres
 rintro i0 e0 w0_0 j0 r hj0 he0 hi0 h k
 refine WL_rnd ?_
 revert h
 show parser_checker_all_number_L1  depth i0 e0 w0_0 = some r → _
 unfold parser_checker_all_number_L1
 refine bndI ?_
 rintro ⟨y1a, y1b⟩ hy1
 dsimp only
 let o1 : List (PC P G) := [pb (B := ltI ((i0 : Nat) : Int) ((list.length : Nat) : Int)) (b := true) (ltT hi0), pix (ix25 .lost he0)]
 refine cndI (fun hv => ?_) fun hv => ?_
 subst hv
 rintro ⟨⟩
 exact go_nx Hd.plainG [4, 7, 16, 23, 24, 26, 28, 33, 37, 40, 42] [⟨.fn (.func 115) [.ptr 0 0] [], .fn (.func 115) [.ptr 0 0] [], (.under (unFn (unC rfl rfl) rfl))⟩, fq (layNd.plS list), fq (layNd.plG e0), fq (layNd.plG e0)] [fbp [.sc (.int .i64 y1b)] (plC rfl rfl)] _ _ (runS 300 (o1 ++ [pcallU (parser_checker_number_U (⟨w0_0⟩ : Ck) e0 depth true y1b (parser_checker_number_ok (⟨w0_0⟩ : Ck) e0 depth true y1b hy1) 0 (by decide) (by decide)), pinc i0 (by omega)])) (by kernel_rfl) (k ([(jn j0 0), .bool true, .bool true, .bool false], [.agg (ndC e0), .agg (ndC e0)]) (plC (layNd.plG e0) (plC (layNd.plG e0) rfl)))
 subst hv
 rintro ⟨⟩
 exact go_retM Hd.plainG _ _ [0] [] [fbp [.sc (.int .i64 y1b)] (plC rfl rfl)] _ _ (runS 300 (o1 ++ [pcallU (parser_checker_number_U (⟨w0_0⟩ : Ck) e0 depth false y1b (parser_checker_number_ok (⟨w0_0⟩ : Ck) e0 depth false y1b hy1) 0 (by decide) (by decide))])) (by kernel_rfl) (.rnd k)
 rintro w0_0_2 rfl jx_2 hjx_2
 revert h
 clear hres
 dsimp only [lpK]
 intro h
 have hE := Option.some.inj h
 obtain ⟨hE0, hF0⟩ := Prod.mk.inj hE
 subst hE0 hF0
 exact go_retM Hd.plainG _ _ [0] [] [fbp [.sc (.int .i64 w0_0_2)] (plC rfl rfl)] _ _ (runX 300 []) (by kernel_rfl) .body
 rintro v rfl
 dsimp only [lpK] at h
 cases h
 exact .outer .body
noncomputable def B84 : Code := bodyOf Tryz.f84
theorem b84 : Tryz.f84.body = some B84 := by kernel_rfl
noncomputable def parser_checker_clause_B  (c : Ck) (n : Nd) (depth : Int) : Option (Bool × Int) := (parser_checker_node_B c n depth).bind fun (y1a, y1b) => cond y1a ((parser_bare_B n (⟨0, ByteArray.empty, ByteArray.empty, 0, 0, 0, 0, (⟨0, []⟩ : Fn), [], 0⟩ : Nd)).bind fun y2 => cond y2 (cond (eqI n.kind 7) (cond (ltI 0 ((n.kids.length : Nat) : Int)) ((parser_checker_all_number_B (⟨y1b⟩ : Ck) n.kids (wadd depth 1)).bind fun (y3a, y3b) => some (y3a, y3b)) (some (false, y1b))) (cond (eqI ((n.kids.length : Nat) : Int) 1) ((n.kids[0]?).bind fun x4 => (parser_checker_expr_R (⟨y1b⟩ : Ck) x4 (wadd depth 1)).bind fun (y5a, y5b) => some (y5a, y5b)) (some (false, y1b)))) (some (false, y1b))) (some (false, y1b))
theorem parser_checker_clause_U (c : Ck) (n : Nd) (depth : Int) (yR : Bool) (qc_nodesR : Int) (hS : Sound P G (.call 84 [.ptr 0 0, .agg (ndC n), .sc (.int .i64 depth)] ⟨[(0, .cells (ckC c))], 1, [], 0⟩ (.ret (.sc (.bool yR))) ⟨[(0, .cells [.sc (.int .i64 qc_nodesR)])], 1, [], 0⟩)) (u0 : Nat) (hnb : [u0].Nodup) (hnt : ([] : List Nat).Nodup) : Cd.ok P G (.callU 84 [.ptr u0 0, .agg (ndC n), .sc (.int .i64 depth)] (.ret (.sc (.bool yR))) [(u0, .cells (ckC c))] [] [(u0, .cells [.sc (.int .i64 qc_nodesR)])] []) :=
 frameU (M := [.cells (ckC c)]) (M2 := [.cells [.sc (.int .i64 qc_nodesR)]]) (T := []) (T2 := []) (k := 1) (j := 0) Hd.plainG _ _ _ _ hS rfl rfl rfl rfl rfl hnb hnt rfl rfl (.cons (.cells (.pl (layCk.pl c))) .nil) (.cons (.cells (.pl (plC rfl rfl))) .nil) (.cons (.ptr (by decide)) (.cons (.pl (layNd.plG n)) (.cons (.pl rfl) .nil))) (.pl rfl) (fun e he => by simp only [List.mem_singleton] at he; subst he; exact (.arg (.here .ptr)))
theorem parser_checker_clause_step   (c : Ck) (n : Nd) (depth : Int) (yR : Bool) (qc_nodesR : Int) (h : parser_checker_clause_B  c n depth = some (yR, qc_nodesR)) : Sound P G (.call 84 [.ptr 0 0, .agg (ndC n), .sc (.int .i64 depth)] ⟨[(0, .cells (ckC c))], 1, [], 0⟩ (.ret (.sc (.bool yR))) ⟨[(0, .cells [.sc (.int .i64 qc_nodesR)])], 1, [], 0⟩) := by
 unfold parser_checker_clause_B at h
 refine soundM Hd.mixed (WC_body Tryz.func84 b84 ?_)
 revert h
 refine bndI ?_
 rintro ⟨y1a, y1b⟩ hy1
 dsimp only
 refine cndI (fun hv => ?_) fun hv => ?_
 subst hv
 refine bndI fun y2 hy2 => ?_
 let o1 : List (PC P G) := [pcallU (parser_checker_node_U c n depth true y1b (parser_checker_node_step c n depth true y1b hy1) 0 (by decide) (by decide))]
 refine cndI (fun hv => ?_) fun hv => ?_
 subst hv
 let o2 : List (PC P G) := o1 ++ [pcallW (.r (.g (.r (.r (.r (.r (.r (.r (.r (.r (.z (.z (.r .nil))))))))))) .nil)) (parser_bare_step n (⟨0, ByteArray.empty, ByteArray.empty, 0, 0, 0, 0, (⟨0, []⟩ : Fn), [], 0⟩ : Nd) true hy2)]
 refine cndI (fun hb1 => ?_) fun hb1 => ?_
 refine cndI (fun hb2 => ?_) fun hb2 => ?_
 refine bndI ?_
 rintro ⟨y3a, y3b⟩ hy3
 dsimp only
 intro h
 have hE := Option.some.inj h
 obtain ⟨hE0, hF0⟩ := Prod.mk.inj hE
 subst hE0 hF0
 exact go_retM Hd.plainG _ _ [0] [] [fbp [.sc (.int .i64 y3b)] (plC rfl rfl)] _ _ (runS 300 (o2 ++ [pb hb1, pb hb2, pk, pcallU (parser_checker_all_number_U (⟨y1b⟩ : Ck) n.kids (wadd depth 1) y3a y3b (parser_checker_all_number_step (⟨y1b⟩ : Ck) n.kids (wadd depth 1) y3a y3b hy3) 0 (by decide) (by decide))])) (by kernel_rfl) .body
 intro h
 have hE := Option.some.inj h
 obtain ⟨hE0, hF0⟩ := Prod.mk.inj hE
 subst hE0 hF0
 exact go_retM Hd.plainG _ _ [0] [] [fbp [.sc (.int .i64 y1b)] (plC rfl rfl)] _ _ (runS 300 (o2 ++ [pb hb1, pb hb2])) (by kernel_rfl) .body
 refine cndI (fun hb3 => ?_) fun hb3 => ?_
 refine bndI fun x4 hx4 => ?_
 refine bndI ?_
 rintro ⟨y5a, y5b⟩ hy5
 dsimp only
 intro h
 have hE := Option.some.inj h
 obtain ⟨hE0, hF0⟩ := Prod.mk.inj hE
 subst hE0 hF0
 exact go_retM Hd.plainG _ _ [0] [] [fbp [.sc (.int .i64 y5b)] (plC rfl rfl)] _ _ (runS 300 (o2 ++ [pb hb1, pb hb3, pix (ix25 .lost hx4), pk, pcallU (parser_checker_expr_U (⟨y1b⟩ : Ck) x4 (wadd depth 1) y5a y5b (parser_checker_expr_ok (⟨y1b⟩ : Ck) x4 (wadd depth 1) y5a y5b hy5) 0 (by decide) (by decide))])) (by kernel_rfl) .body
 intro h
 have hE := Option.some.inj h
 obtain ⟨hE0, hF0⟩ := Prod.mk.inj hE
 subst hE0 hF0
 exact go_retM Hd.plainG _ _ [0] [] [fbp [.sc (.int .i64 y1b)] (plC rfl rfl)] _ _ (runS 300 (o2 ++ [pb hb1, pb hb3])) (by kernel_rfl) .body
 subst hv
 intro h
 have hE := Option.some.inj h
 obtain ⟨hE0, hF0⟩ := Prod.mk.inj hE
 subst hE0 hF0
 exact go_retM Hd.plainG _ _ [0] [] [fbp [.sc (.int .i64 y1b)] (plC rfl rfl)] _ _ (runS 300 (o1 ++ [pcallW (.r (.g (.r (.r (.r (.r (.r (.r (.r (.r (.z (.z (.r .nil))))))))))) .nil)) (parser_bare_step n (⟨0, ByteArray.empty, ByteArray.empty, 0, 0, 0, 0, (⟨0, []⟩ : Fn), [], 0⟩ : Nd) false hy2)])) (by kernel_rfl) .body
 subst hv
 intro h
 have hE := Option.some.inj h
 obtain ⟨hE0, hF0⟩ := Prod.mk.inj hE
 subst hE0 hF0
 exact go_retM Hd.plainG _ _ [0] [] [fbp [.sc (.int .i64 y1b)] (plC rfl rfl)] _ _ (runS 300 [pcallU (parser_checker_node_U c n depth false y1b (parser_checker_node_step c n depth false y1b hy1) 0 (by decide) (by decide))]) (by kernel_rfl) .body
end Mo
end Go.Proofs.YtkfplcngmiljaaaGreatDoor
