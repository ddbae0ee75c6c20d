/- Part of a proof: see the last text. -/
import Derived.Test.YtkfplcngmiljaaaGreatDoorUlj
set_option linter.unusedVariables false
set_option linter.unusedSimpArgs false
namespace Go.Proofs.YtkfplcngmiljaaaGreatDoor
open AI Go
namespace Mo
set_option maxRecDepth 100000
set_option maxHeartbeats 4000000
noncomputable def parser_checker_all_clause_L1  (depth : Int) (i0 : Nat) (e0 : Nd) (w0_0 : Int) : Option (Lp Int Int (Bool × Int)) := (parser_checker_clause_B (⟨w0_0⟩ : Ck) e0 depth).bind fun (y1a, y1b) => cond y1a (some (.nx y1b)) (some (.rt (false, y1b)))
noncomputable def parser_checker_all_clause_B  (c : Ck) (list : (List Nd)) (depth : Int) : Option (Bool × Int) := (lim list.length (foldL (fun i y x => parser_checker_all_clause_L1  depth i y x) (fun x => x) (list.drop 0) 0 c.nodes)).bind (lpK (fun (w0_0_2 : Int) => some (true, w0_0_2)) (fun v => some v))
theorem parser_checker_all_clause_U (c : Ck) (list : (List Nd)) (depth : Int) (yR : Bool) (qc_nodesR : Int) (hS : Sound P G (.call 52 [.ptr 0 0, .sl .lost list.length (ndsC list), .sc (.int .i64 depth), .fn (.func 84) [.ptr 0 0] []] ⟨[(0, .cells (ckC c))], 1, [], 0⟩ (.ret (.sc (.bool yR))) ⟨[(0, .cells [.sc (.int .i64 qc_nodesR)])], 1, [], 0⟩)) (u0 : Nat) (hnb : [u0].Nodup) (hnt : ([] : List Nat).Nodup) : Cd.ok P G (.callU 52 [.ptr u0 0, .sl .lost list.length (ndsC list), .sc (.int .i64 depth), .fn (.func 84) [.ptr u0 0] []] (.ret (.sc (.bool yR))) [(u0, .cells (ckC c))] [] [(u0, .cells [.sc (.int .i64 qc_nodesR)])] []) :=
 frameU (M := [.cells (ckC c)]) (M2 := [.cells [.sc (.int .i64 qc_nodesR)]]) (T := []) (T2 := []) (k := 1) (j := 0) Hd.plainG _ _ _ _ hS rfl rfl rfl rfl rfl hnb hnt rfl rfl (.cons (.cells (.pl (layCk.pl c))) .nil) (.cons (.cells (.pl (plC rfl rfl))) .nil) (.cons (.ptr (by decide)) (.cons (.pl (layNd.plS list)) (.cons (.pl rfl) (.cons (.fn (.cons (.ptr (by decide)) .nil) (.pl rfl)) .nil)))) (.pl rfl) (fun e he => by simp only [List.mem_singleton] at he; subst he; exact (.arg (.here .ptr)))
theorem parser_checker_all_clause_step   (c : Ck) (list : (List Nd)) (depth : Int) (yR : Bool) (qc_nodesR : Int) (h : parser_checker_all_clause_B  c list depth = some (yR, qc_nodesR)) : Sound P G (.call 52 [.ptr 0 0, .sl .lost list.length (ndsC list), .sc (.int .i64 depth), .fn (.func 84) [.ptr 0 0] []] ⟨[(0, .cells (ckC c))], 1, [], 0⟩ (.ret (.sc (.bool yR))) ⟨[(0, .cells [.sc (.int .i64 qc_nodesR)])], 1, [], 0⟩) := by
 unfold parser_checker_all_clause_B at h
 refine soundM Hd.mixed (WC_body Tryz.func52 b52 ?_)
 revert h
 refine bndI fun res hres h => ?_
 have hlen := (limE hres).1
 replace hres := (limE hres).2
 refine go_at [] [2, 3, 8, 11, 12, 13, 14, 16, 18, 20, 21] 0 (sub B52 [1, 0, 1, 0, 0]) [.code (sub B52 [1, 1])] _ _ (runS 300 []) (by kernel_rfl) (foldM (fn := Tryz.f52) (m := 1) (s00 := ⟨[(0, .cells (ckC c))], 1, [], 0⟩) (fun v => .sc (.bool v.1)) (fun v => ⟨[(0, .cells [.sc (.int .i64 v.2)])], 1, [], 0⟩) 0 list (fun i0 (w0_0 : Int) (j0 : JJ) => frm 23 0 [(2, .sc (.int .i64 depth)), (3, .fn (.func 84) [.ptr 0 0] []), (11, .sl .lost list.length (ndsC list)), (12, .sc (.int .i64 ((list.length : Nat) : Int))), (13, .sc (.int .i64 ((i0 : Nat) : Int)))] [8, 14, 20, 21] 0 [16, 18] 0 j0) (fun (_ : Nat) (w0_0 : Int) (_ : JJ) => ⟨[(0, .cells [.sc (.int .i64 w0_0)])], 1, [], 0⟩) (fun (j : JJ) => plainL j.2 = true) (fun (w0_0 : Int) (jx : JJ) => frm 23 0 [] [8, 14, 20, 21] 0 [16, 18] 0 jx) (fun (w0_0 : Int) (_ : JJ) => ⟨[(0, .cells [.sc (.int .i64 w0_0)])], 1, [], 0⟩) (fun (j : JJ) => plainL j.2 = true) ?_ ?_ 0 hres ?_ ?_ ([.bool false], [.sc undef, .sc undef]) (plC rfl (plC rfl rfl)))
 rintro i0 w0_0 j0 hj0 hge hq
 clear h hres
 refine WL_rnd ?_
 exact go_ex Hd.plainG [16, 28, 33, 37, 40, 42] [fq (gn_pl hj0 0), fq (gn_pl hj0 1)] [fbp [.sc (.int .i64 w0_0)] (plC rfl rfl)] 0 _ _ (runS 300 [pb (B := ltI ((i0 : Nat) : Int) ((list.length : Nat) : Int)) (b := false) (ltF hge)]) (by kernel_rfl) (hq ([(jn j0 0), .bool false, (jn j0 2), (jn j0 3)], [(gn j0 0), (gn j0 1)]) (plC (gn_pl hj0 0) (plC (gn_pl hj0 1) rfl)))
 clear h hres
 rintro i0 e0 w0_0 j0 r hj0 he0 hi0 h k
 refine WL_rnd ?_
 revert h
 show parser_checker_all_clause_L1  depth i0 e0 w0_0 = some r → _
 unfold parser_checker_all_clause_L1
 refine bndI ?_
 rintro ⟨y1a, y1b⟩ hy1
 dsimp only
 let o1 : List (PC P G) := [pb (B := ltI ((i0 : Nat) : Int) ((list.length : Nat) : Int)) (b := true) (ltT hi0), pix (ix25 .lost he0)]
 refine cndI (fun hv => ?_) fun hv => ?_
 subst hv
 rintro ⟨⟩
 exact go_nx Hd.plainG [4, 7, 16, 23, 24, 26, 28, 33, 37, 40, 42] [⟨.fn (.func 84) [.ptr 0 0] [], .fn (.func 84) [.ptr 0 0] [], (.under (unFn (unC rfl rfl) rfl))⟩, fq (layNd.plS list), fq (layNd.plG e0), fq (layNd.plG e0)] [fbp [.sc (.int .i64 y1b)] (plC rfl rfl)] _ _ (runS 300 (o1 ++ [pcallU (parser_checker_clause_U (⟨w0_0⟩ : Ck) e0 depth true y1b (parser_checker_clause_step (⟨w0_0⟩ : Ck) e0 depth true y1b hy1) 0 (by decide) (by decide)), pinc i0 (by omega)])) (by kernel_rfl) (k ([(jn j0 0), .bool true, .bool true, .bool false], [.agg (ndC e0), .agg (ndC e0)]) (plC (layNd.plG e0) (plC (layNd.plG e0) rfl)))
 subst hv
 rintro ⟨⟩
 exact go_retM Hd.plainG _ _ [0] [] [fbp [.sc (.int .i64 y1b)] (plC rfl rfl)] _ _ (runS 300 (o1 ++ [pcallU (parser_checker_clause_U (⟨w0_0⟩ : Ck) e0 depth false y1b (parser_checker_clause_step (⟨w0_0⟩ : Ck) e0 depth false y1b hy1) 0 (by decide) (by decide))])) (by kernel_rfl) (.rnd k)
 rintro w0_0_2 rfl jx_2 hjx_2
 revert h
 clear hres
 dsimp only [lpK]
 intro h
 have hE := Option.some.inj h
 obtain ⟨hE0, hF0⟩ := Prod.mk.inj hE
 subst hE0 hF0
 exact go_retM Hd.plainG _ _ [0] [] [fbp [.sc (.int .i64 w0_0_2)] (plC rfl rfl)] _ _ (runX 300 []) (by kernel_rfl) .body
 rintro v rfl
 dsimp only [lpK] at h
 cases h
 exact .outer .body
noncomputable def B53 : Code := bodyOf Tryz.f53
theorem b53 : Tryz.f53.body = some B53 := by kernel_rfl
noncomputable def parser_checker_item_L1  (y1b : Int) (i0 : Nat) (e0 : Nd) (w2_6 : Int) (w2_7 : Int) (w2_8 : Int) : Option (Lp (Int × Int × Int) (Int × Int × Int) (Bool × Int)) := cond (ltI e0.kind 6) (some (.rt (false, y1b))) (cond (ltI 8 e0.kind) (some (.rt (false, y1b))) (cond (eqI e0.kind 6) (some (.nx ((wadd w2_6 1), w2_7, w2_8))) (cond (eqI e0.kind 7) (some (.nx (w2_6, (wadd w2_7 1), w2_8))) (cond (eqI e0.kind 8) (some (.nx (w2_6, w2_7, (wadd w2_8 1)))) (none)))))
noncomputable def parser_checker_item_B  (c : Ck) (n : Nd) (depth : Int) : Option (Bool × Int) := (parser_checker_node_B c n depth).bind fun (y1a, y1b) => cond y1a (cond (eqI n.kind 2) ((parser_goodName_B n.name).bind fun y2 => cond y2 ((parser_goodUnit_B n.unit).bind fun y3 => cond y3 (cond (eqI ((n.kids.length : Nat) : Int) 0) ((parser_bare_B n (⟨0, n.name, n.unit, 0, 0, 0, 0, (⟨0, []⟩ : Fn), [], 0⟩ : Nd)).bind fun y4 => some (y4, y1b)) (some (false, y1b))) (some (false, y1b))) (some (false, y1b))) (cond (eqI n.kind 3) ((parser_goodName_B n.name).bind fun y5 => cond y5 ((parser_goodUnit_B n.unit).bind fun y6 => cond y6 (cond (leI 1 n.n) (cond (leI n.n 4) (cond (eqI ((n.kids.length : Nat) : Int) 0) ((parser_bare_B n (⟨0, n.name, n.unit, n.n, 0, 0, 0, (⟨0, []⟩ : Fn), [], 0⟩ : Nd)).bind fun y7 => some (y7, y1b)) (some (false, y1b))) (some (false, y1b))) (some (false, y1b))) (some (false, y1b))) (some (false, y1b))) (cond (eqI n.kind 4) ((parser_goodRatio_B n.n).bind fun y8 => cond y8 ((parser_goodName_B n.name).bind fun y9 => cond y9 ((parser_bare_B n (⟨0, n.name, ByteArray.empty, n.n, 0, 0, 0, (⟨0, []⟩ : Fn), [], 0⟩ : Nd)).bind fun y10 => cond y10 (cond (eqI ((n.kids.length : Nat) : Int) 0) (some (false, y1b)) ((subl n.kids 1 ((n.kids.length : Nat) : Int)).bind fun l11 => (lim l11.length (foldL (fun i y x => parser_checker_item_L1  y1b i y x.1 x.2.1 x.2.2) (fun x => (x.1, x.2.1, x.2.2)) (l11.drop 0) 0 (0, 0, 0))).bind (lpK (fun ((w2_6_12, w2_7_12, w2_8_12) : (Int × Int × Int)) => cond (eqI w2_8_12 1) (cond (ltI 1 w2_7_12) (some (false, y1b)) ((n.kids[0]?).bind fun x13 => (parser_checker_head_B (⟨y1b⟩ : Ck) x13 (wadd depth 1)).bind fun (y14a, y14b) => cond y14a ((parser_checker_all_clause_B (⟨y14b⟩ : Ck) l11 (wadd depth 1)).bind fun (y15a, y15b) => some (y15a, y15b)) (some (false, y14b)))) (some (false, y1b))) (fun v => some v)))) (some (false, y1b))) (some (false, y1b))) (some (false, y1b))) (some (false, y1b))))) (some (false, y1b))
theorem parser_checker_item_U (c : Ck) (n : Nd) (depth : Int) (yR : Bool) (qc_nodesR : Int) (hS : Sound P G (.call 53 [.ptr 0 0, .agg (ndC n), .sc (.int .i64 depth)] ⟨[(0, .cells (ckC c))], 1, [], 0⟩ (.ret (.sc (.bool yR))) ⟨[(0, .cells [.sc (.int .i64 qc_nodesR)])], 1, [], 0⟩)) (u0 : Nat) (hnb : [u0].Nodup) (hnt : ([] : List Nat).Nodup) : Cd.ok P G (.callU 53 [.ptr u0 0, .agg (ndC n), .sc (.int .i64 depth)] (.ret (.sc (.bool yR))) [(u0, .cells (ckC c))] [] [(u0, .cells [.sc (.int .i64 qc_nodesR)])] []) :=
 frameU (M := [.cells (ckC c)]) (M2 := [.cells [.sc (.int .i64 qc_nodesR)]]) (T := []) (T2 := []) (k := 1) (j := 0) Hd.plainG _ _ _ _ hS rfl rfl rfl rfl rfl hnb hnt rfl rfl (.cons (.cells (.pl (layCk.pl c))) .nil) (.cons (.cells (.pl (plC rfl rfl))) .nil) (.cons (.ptr (by decide)) (.cons (.pl (layNd.plG n)) (.cons (.pl rfl) .nil))) (.pl rfl) (fun e he => by simp only [List.mem_singleton] at he; subst he; exact (.arg (.here .ptr)))
theorem parser_checker_item_step   (c : Ck) (n : Nd) (depth : Int) (yR : Bool) (qc_nodesR : Int) (h : parser_checker_item_B  c n depth = some (yR, qc_nodesR)) : Sound P G (.call 53 [.ptr 0 0, .agg (ndC n), .sc (.int .i64 depth)] ⟨[(0, .cells (ckC c))], 1, [], 0⟩ (.ret (.sc (.bool yR))) ⟨[(0, .cells [.sc (.int .i64 qc_nodesR)])], 1, [], 0⟩) := by
 unfold parser_checker_item_B at h
 refine soundM Hd.mixed (WC_body Tryz.func53 b53 ?_)
 revert h
 refine bndI ?_
 rintro ⟨y1a, y1b⟩ hy1
 dsimp only
 refine cndI (fun hv => ?_) fun hv => ?_
 subst hv
 let o1 : List (PC P G) := [pcallU (parser_checker_node_U c n depth true y1b (parser_checker_node_step c n depth true y1b hy1) 0 (by decide) (by decide))]
 refine cndI (fun hb1 => ?_) fun hb1 => ?_
 refine bndI fun y2 hy2 => ?_
 refine cndI (fun hv => ?_) fun hv => ?_
 subst hv
 refine bndI fun y3 hy3 => ?_
 let o2 : List (PC P G) := o1 ++ [pb hb1, pcall (parser_goodName_step n.name true hy2)]
 refine cndI (fun hv => ?_) fun hv => ?_
 subst hv
 refine cndI (fun hb2 => ?_) fun hb2 => ?_
 refine bndI fun y4 hy4 => ?_
 intro h
 have hE := Option.some.inj h
 obtain ⟨hE0, hF0⟩ := Prod.mk.inj hE
 subst hE0 hF0
 exact go_retM Hd.plainG _ _ [0] [] [fbp [.sc (.int .i64 y1b)] (plC rfl rfl)] _ _ (runS 300 (o2 ++ [pcall (parser_goodUnit_step n.unit true hy3), pb hb2, pcallW (.r (.g (.r (.r (.r (.r (.r (.r (.r (.r (.z (.z (.r .nil))))))))))) .nil)) (parser_bare_step n (⟨0, n.name, n.unit, 0, 0, 0, 0, (⟨0, []⟩ : Fn), [], 0⟩ : Nd) y4 hy4)])) (by kernel_rfl) .body
 intro h
 have hE := Option.some.inj h
 obtain ⟨hE0, hF0⟩ := Prod.mk.inj hE
 subst hE0 hF0
 exact go_retM Hd.plainG _ _ [0] [] [fbp [.sc (.int .i64 y1b)] (plC rfl rfl)] _ _ (runS 300 (o2 ++ [pcall (parser_goodUnit_step n.unit true hy3), pb hb2])) (by kernel_rfl) .body
 subst hv
 intro h
 have hE := Option.some.inj h
 obtain ⟨hE0, hF0⟩ := Prod.mk.inj hE
 subst hE0 hF0
 exact go_retM Hd.plainG _ _ [0] [] [fbp [.sc (.int .i64 y1b)] (plC rfl rfl)] _ _ (runS 300 (o2 ++ [pcall (parser_goodUnit_step n.unit false hy3)])) (by kernel_rfl) .body
 subst hv
 intro h
 have hE := Option.some.inj h
 obtain ⟨hE0, hF0⟩ := Prod.mk.inj hE
 subst hE0 hF0
 exact go_retM Hd.plainG _ _ [0] [] [fbp [.sc (.int .i64 y1b)] (plC rfl rfl)] _ _ (runS 300 (o1 ++ [pb hb1, pcall (parser_goodName_step n.name false hy2)])) (by kernel_rfl) .body
 let o3 : List (PC P G) := o1 ++ [pb hb1]
 refine cndI (fun hb3 => ?_) fun hb3 => ?_
 refine bndI fun y5 hy5 => ?_
 refine cndI (fun hv => ?_) fun hv => ?_
 subst hv
 refine bndI fun y6 hy6 => ?_
 let o4 : List (PC P G) := o3 ++ [pb hb3, pcall (parser_goodName_step n.name true hy5)]
 refine cndI (fun hv => ?_) fun hv => ?_
 subst hv
 let o5 : List (PC P G) := o4 ++ [pcall (parser_goodUnit_step n.unit true hy6)]
 refine cndI (fun hb4 => ?_) fun hb4 => ?_
 refine cndI (fun hb5 => ?_) fun hb5 => ?_
 refine cndI (fun hb6 => ?_) fun hb6 => ?_
 refine bndI fun y7 hy7 => ?_
 intro h
 have hE := Option.some.inj h
 obtain ⟨hE0, hF0⟩ := Prod.mk.inj hE
 subst hE0 hF0
 exact go_retM Hd.plainG _ _ [0] [] [fbp [.sc (.int .i64 y1b)] (plC rfl rfl)] _ _ (runS 300 (o5 ++ [pb hb4, pb hb5, pb hb6, pcallW (.r (.g (.r (.r (.r (.r (.r (.r (.r (.r (.z (.z (.r .nil))))))))))) .nil)) (parser_bare_step n (⟨0, n.name, n.unit, n.n, 0, 0, 0, (⟨0, []⟩ : Fn), [], 0⟩ : Nd) y7 hy7)])) (by kernel_rfl) .body
 intro h
 have hE := Option.some.inj h
 obtain ⟨hE0, hF0⟩ := Prod.mk.inj hE
 subst hE0 hF0
 exact go_retM Hd.plainG _ _ [0] [] [fbp [.sc (.int .i64 y1b)] (plC rfl rfl)] _ _ (runS 300 (o5 ++ [pb hb4, pb hb5, pb hb6])) (by kernel_rfl) .body
 intro h
 have hE := Option.some.inj h
 obtain ⟨hE0, hF0⟩ := Prod.mk.inj hE
 subst hE0 hF0
 exact go_retM Hd.plainG _ _ [0] [] [fbp [.sc (.int .i64 y1b)] (plC rfl rfl)] _ _ (runS 300 (o5 ++ [pb hb4, pb hb5])) (by kernel_rfl) .body
 intro h
 have hE := Option.some.inj h
 obtain ⟨hE0, hF0⟩ := Prod.mk.inj hE
 subst hE0 hF0
 exact go_retM Hd.plainG _ _ [0] [] [fbp [.sc (.int .i64 y1b)] (plC rfl rfl)] _ _ (runS 300 (o5 ++ [pb hb4])) (by kernel_rfl) .body
 subst hv
 intro h
 have hE := Option.some.inj h
 obtain ⟨hE0, hF0⟩ := Prod.mk.inj hE
 subst hE0 hF0
 exact go_retM Hd.plainG _ _ [0] [] [fbp [.sc (.int .i64 y1b)] (plC rfl rfl)] _ _ (runS 300 (o4 ++ [pcall (parser_goodUnit_step n.unit false hy6)])) (by kernel_rfl) .body
 subst hv
 intro h
 have hE := Option.some.inj h
 obtain ⟨hE0, hF0⟩ := Prod.mk.inj hE
 subst hE0 hF0
 exact go_retM Hd.plainG _ _ [0] [] [fbp [.sc (.int .i64 y1b)] (plC rfl rfl)] _ _ (runS 300 (o3 ++ [pb hb3, pcall (parser_goodName_step n.name false hy5)])) (by kernel_rfl) .body
 refine cndI (fun hb7 => ?_) fun hb7 => ?_
 refine bndI fun y8 hy8 => ?_
 refine cndI (fun hv => ?_) fun hv => ?_
 subst hv
 refine bndI fun y9 hy9 => ?_
 let o6 : List (PC P G) := o3 ++ [pb hb3, pb hb7, pcall (parser_goodRatio_step n.n true hy8)]
 refine cndI (fun hv => ?_) fun hv => ?_
 subst hv
 refine bndI fun y10 hy10 => ?_
 let o7 : List (PC P G) := o6 ++ [pcall (parser_goodName_step n.name true hy9)]
 refine cndI (fun hv => ?_) fun hv => ?_
 subst hv
 let o8 : List (PC P G) := o7 ++ [pcallW (.r (.g (.r (.r (.r (.r (.r (.r (.r (.r (.z (.z (.r .nil))))))))))) .nil)) (parser_bare_step n (⟨0, n.name, ByteArray.empty, n.n, 0, 0, 0, (⟨0, []⟩ : Fn), [], 0⟩ : Nd) true hy10)]
 refine cndI (fun hb8 => ?_) fun hb8 => ?_
 intro h
 have hE := Option.some.inj h
 obtain ⟨hE0, hF0⟩ := Prod.mk.inj hE
 subst hE0 hF0
 exact go_retM Hd.plainG _ _ [0] [] [fbp [.sc (.int .i64 y1b)] (plC rfl rfl)] _ _ (runS 300 (o8 ++ [pb hb8])) (by kernel_rfl) .body
 refine bndI fun l11 hl11 => ?_
 refine bndI fun res hres h => ?_
 have hlen := (limE hres).1
 replace hres := (limE hres).2
 refine go_at [] [0, 1, 2, 4, 6, 7, 11, 13, 14, 17, 18, 21, 22, 25, 26, 27, 31, 32, 33, 34, 39, 40, 41, 42, 43, 46, 47, 50, 51, 52, 55, 56, 57, 60, 61, 62, 66, 67, 68, 69, 76, 77, 78, 79, 80, 83, 84, 85, 88, 89, 90, 91, 92, 97, 98, 99, 100, 101, 105, 106, 107, 110, 111, 112, 113, 115, 118, 119, 122, 123, 133, 134, 137, 138, 143, 146, 147, 156, 157] 1 (sub B53 [1, 1, 0, 1, 0, 1, 1, 1, 1, 1, 0, 1, 1, 0, 1, 0, 0]) [.code (sub B53 [1, 1, 0, 1, 0, 1, 1, 1, 1, 1, 0, 1, 1, 1]), .endb 0, .code (sub B53 [1, 1, 1])] _ _ (runS 300 (o8 ++ [pb hb8, psli (sublL25 hl11)])) (by kernel_rfl) (foldM (fn := Tryz.f53) (m := 1) (s00 := ⟨[(0, .cells (ckC c))], 1, [], 0⟩) (fun v => .sc (.bool v.1)) (fun v => ⟨[(0, .cells [.sc (.int .i64 v.2)])], 1, [], 0⟩) 1 l11 (fun i0 ((w2_6, w2_7, w2_8) : (Int × Int × Int)) (j0 : JJ) => frm 158 0 [(0, .ptr 0 0), (2, .sc (.int .i64 depth)), (4, .ptr 1 0), (7, .ptr 2 0), (110, .sl .lost l11.length (ndsC l11)), (111, .sc (.int .i64 ((l11.length : Nat) : Int))), (112, .sc (.int .i64 ((i0 : Nat) : Int)))] [6, 13, 14, 17, 18, 21, 22, 25, 26, 27, 31, 32, 33, 40, 41, 42, 43, 46, 47, 50, 51, 52, 55, 56, 57, 60, 61, 62, 66, 67, 68, 77, 78, 79, 80, 83, 84, 85, 88, 89, 90, 91, 98, 99, 100, 101, 105, 106, 113, 118, 119, 122, 123, 133, 134, 137, 138, 146, 147, 156, 157] 0 [1, 11, 34, 39, 69, 76, 92, 97, 107, 115, 143] 0 j0) (fun (_ : Nat) ((w2_6, w2_7, w2_8) : (Int × Int × Int)) (_ : JJ) => ⟨[(2, .cells [.sc (.int .i64 0), .sc (.int .i64 0), .sc (.int .i64 0), .sc (.int .i64 0), .sc (.int .i64 0), .sc (.int .i64 0), .sc (.int .i64 w2_6), .sc (.int .i64 w2_7), .sc (.int .i64 w2_8)]), (1, .cells (ndC n)), (0, .cells [.sc (.int .i64 y1b)])], 3, [], 0⟩) (fun (j : JJ) => plainL j.2 = true) (fun ((w2_6, w2_7, w2_8) : (Int × Int × Int)) (jx : JJ) => frm 158 0 [(0, .ptr 0 0), (2, .sc (.int .i64 depth)), (4, .ptr 1 0), (7, .ptr 2 0)] [6, 13, 14, 17, 18, 21, 22, 25, 26, 27, 31, 32, 33, 40, 41, 42, 43, 46, 47, 50, 51, 52, 55, 56, 57, 60, 61, 62, 66, 67, 68, 77, 78, 79, 80, 83, 84, 85, 88, 89, 90, 91, 98, 99, 100, 101, 105, 106, 113, 118, 119, 122, 123, 133, 134, 137, 138, 146, 147, 156, 157] 0 [1, 11, 34, 39, 69, 76, 92, 97, 107, 115, 143] 0 jx) (fun ((w2_6, w2_7, w2_8) : (Int × Int × Int)) (_ : JJ) => ⟨[(2, .cells [.sc (.int .i64 0), .sc (.int .i64 0), .sc (.int .i64 0), .sc (.int .i64 0), .sc (.int .i64 0), .sc (.int .i64 0), .sc (.int .i64 w2_6), .sc (.int .i64 w2_7), .sc (.int .i64 w2_8)]), (1, .cells (ndC n)), (0, .cells [.sc (.int .i64 y1b)])], 3, [], 0⟩) (fun (j : JJ) => plainL j.2 = true) ?_ ?_ 0 hres ?_ ?_ ([.bool false, .bool true, .bool false, .bool false, .bool false, undef, undef, undef, undef, undef, undef, undef, undef, undef, undef, .bool false, .bool false, undef, undef, undef, undef, undef, undef, undef, undef, undef, undef, undef, undef, undef, undef, undef, undef, .bool true, .bool true, .bool true, .bool false, .bool false, .bool true, .bool false, .bool false, .bool false, .bool true, .bool false, .bool false, .bool false, .bool false, .bool false], [.agg (ndC n), .agg (ndC n), .sc undef, .sc undef, .sc undef, .sc undef, .agg (ndC n), .agg [.sc (.int .i64 0), .sc (.string n.name), .sc (.string ByteArray.empty), .sc (.int .i64 n.n), .sc (.int .i64 0), .sc (.int .i64 0), .sc (.int .i64 0), .sc (.int .i64 0), .sl .full 0 [], .sl .full 0 [], .sc (.int .i64 0)], .agg [.sc (.int .i64 0), .sc (.int .i64 0), .sc (.int .i64 0), .sc (.int .i64 0), .sc (.int .i64 0), .sc (.int .i64 0), .sc (.int .i64 0), .sc (.int .i64 0), .sc (.int .i64 0)], .sc undef, .sc undef]) (plC (layNd.plG n) (plC (layNd.plG n) (plC rfl (plC rfl (plC rfl (plC rfl (plC (layNd.plG n) (plC (plC rfl (plC rfl (plC rfl (plC rfl (plC rfl (plC rfl (plC rfl (plC rfl (plC (plSlF rfl) (plC (plSlF rfl) (plC rfl rfl))))))))))) (plC (plC rfl (plC rfl (plC rfl (plC rfl (plC rfl (plC rfl (plC rfl (plC rfl (plC rfl rfl))))))))) (plC rfl (plC rfl rfl))))))))))))
 rintro i0 ⟨w2_6, w2_7, w2_8⟩ j0 hj0 hge hq
 clear h hres
 refine WL_rnd ?_
 exact go_ex Hd.plainG [0, 3, 4, 8, 12, 14, 23, 26, 28, 34, 36, 42, 44, 50, 52, 54, 62, 64, 66, 69, 79, 80, 82, 84, 86, 92, 94, 100, 102, 104, 110, 112, 114, 120, 122, 124, 132, 134, 136, 139, 153, 154, 156, 158, 160, 166, 168, 170, 176, 178, 180, 182, 185, 195, 196, 198, 200, 202, 210, 212, 215, 226, 231, 236, 238, 244, 246, 266, 268, 274, 276, 287, 292, 294, 312, 314] [fq (gn_pl hj0 0), fq (gn_pl hj0 1), fq (gn_pl hj0 2), fq (gn_pl hj0 3), fq (gn_pl hj0 4), fq (gn_pl hj0 5), fq (gn_pl hj0 6), fq (gn_pl hj0 7), fq (gn_pl hj0 8), fq (gn_pl hj0 9), fq (gn_pl hj0 10)] [fbp [.sc (.int .i64 0), .sc (.int .i64 0), .sc (.int .i64 0), .sc (.int .i64 0), .sc (.int .i64 0), .sc (.int .i64 0), .sc (.int .i64 w2_6), .sc (.int .i64 w2_7), .sc (.int .i64 w2_8)] (plC rfl (plC rfl (plC rfl (plC rfl (plC rfl (plC rfl (plC rfl (plC rfl (plC rfl rfl))))))))), fbp (ndC n) (layNd.pl n), fbp [.sc (.int .i64 y1b)] (plC rfl rfl)] 1 _ _ (runS 300 [pb (B := ltI ((i0 : Nat) : Int) ((l11.length : Nat) : Int)) (b := false) (ltF hge)]) (by kernel_rfl) (hq ([(jn j0 0), (jn j0 1), (jn j0 2), (jn j0 3), (jn j0 4), (jn j0 5), (jn j0 6), (jn j0 7), (jn j0 8), (jn j0 9), (jn j0 10), (jn j0 11), (jn j0 12), (jn j0 13), (jn j0 14), (jn j0 15), (jn j0 16), (jn j0 17), (jn j0 18), (jn j0 19), (jn j0 20), (jn j0 21), (jn j0 22), (jn j0 23), (jn j0 24), (jn j0 25), (jn j0 26), (jn j0 27), (jn j0 28), (jn j0 29), (jn j0 30), (jn j0 31), (jn j0 32), (jn j0 33), (jn j0 34), (jn j0 35), (jn j0 36), (jn j0 37), (jn j0 38), (jn j0 39), (jn j0 40), (jn j0 41), (jn j0 42), (jn j0 43), (jn j0 44), (jn j0 45), (jn j0 46), (jn j0 47), .bool false, (jn j0 49), (jn j0 50), (jn j0 51), (jn j0 52), (jn j0 53), (jn j0 54), (jn j0 55), (jn j0 56), (jn j0 57), (jn j0 58), (jn j0 59), (jn j0 60)], [(gn j0 0), (gn j0 1), (gn j0 2), (gn j0 3), (gn j0 4), (gn j0 5), (gn j0 6), (gn j0 7), (gn j0 8), (gn j0 9), (gn j0 10)]) (plC (gn_pl hj0 0) (plC (gn_pl hj0 1) (plC (gn_pl hj0 2) (plC (gn_pl hj0 3) (plC (gn_pl hj0 4) (plC (gn_pl hj0 5) (plC (gn_pl hj0 6) (plC (gn_pl hj0 7) (plC (gn_pl hj0 8) (plC (gn_pl hj0 9) (plC (gn_pl hj0 10) rfl))))))))))))
 clear h hres
 rintro i0 e0 ⟨w2_6, w2_7, w2_8⟩ j0 r hj0 he0 hi0 h k
 refine WL_rnd ?_
 revert h
 show parser_checker_item_L1  y1b i0 e0 w2_6 w2_7 w2_8 = some r → _
 unfold parser_checker_item_L1
 let o9 : List (PC P G) := [pb (B := ltI ((i0 : Nat) : Int) ((l11.length : Nat) : Int)) (b := true) (ltT hi0), pix (ix25 .lost he0)]
 refine cndI (fun hb9 => ?_) fun hb9 => ?_
 rintro ⟨⟩
 exact go_retM Hd.plainG _ _ [0] [] [fbp [.sc (.int .i64 y1b)] (plC rfl rfl)] _ _ (runS 300 (o9 ++ [pb hb9])) (by kernel_rfl) (.rnd k)
 refine cndI (fun hb10 => ?_) fun hb10 => ?_
 rintro ⟨⟩
 exact go_retM Hd.plainG _ _ [0] [] [fbp [.sc (.int .i64 y1b)] (plC rfl rfl)] _ _ (runS 300 (o9 ++ [pb hb9, pb hb10])) (by kernel_rfl) (.rnd k)
 refine cndI (fun hb11 => ?_) fun hb11 => ?_
 rintro ⟨⟩
 exact go_nx Hd.plainG [0, 3, 4, 8, 12, 14, 23, 26, 28, 34, 36, 42, 44, 50, 52, 54, 62, 64, 66, 69, 79, 80, 82, 84, 86, 92, 94, 100, 102, 104, 110, 112, 114, 120, 122, 124, 132, 134, 136, 139, 153, 154, 156, 158, 160, 166, 168, 170, 176, 178, 180, 182, 185, 195, 196, 198, 200, 202, 210, 212, 215, 221, 222, 224, 226, 231, 236, 238, 244, 246, 266, 268, 274, 276, 287, 292, 294, 312, 314] [fq (gn_pl hj0 0), fq (gn_pl hj0 1), fq (gn_pl hj0 2), fq (gn_pl hj0 3), fq (gn_pl hj0 4), fq (gn_pl hj0 5), fq (gn_pl hj0 6), fq (gn_pl hj0 7), fq (gn_pl hj0 8), fq (layNd.plS l11), fq (layNd.plG e0), fq (gn_pl hj0 10)] [fbp [.sc (.int .i64 0), .sc (.int .i64 0), .sc (.int .i64 0), .sc (.int .i64 0), .sc (.int .i64 0), .sc (.int .i64 0), .sc (.int .i64 (wadd w2_6 1)), .sc (.int .i64 w2_7), .sc (.int .i64 w2_8)] (plC rfl (plC rfl (plC rfl (plC rfl (plC rfl (plC rfl (plC rfl (plC rfl (plC rfl rfl))))))))), fbp (ndC n) (layNd.pl n), fbp [.sc (.int .i64 y1b)] (plC rfl rfl)] _ _ (runS 300 (o9 ++ [pb hb9, pb hb10, pix (t := 119) (a := .ptr 2 0) (b := .sc (.int .i64 e0.kind)) (v := .ptr 2 6) (by rw [eqI_T hb11]; kernel_rfl), pk, pix (t := 119) (a := .ptr 2 0) (b := .sc (.int .i64 e0.kind)) (v := .ptr 2 6) (by rw [eqI_T hb11]; kernel_rfl), pinc i0 (by omega)])) (by kernel_rfl) (k ([(jn j0 0), (jn j0 1), (jn j0 2), (jn j0 3), (jn j0 4), (jn j0 5), (jn j0 6), (jn j0 7), (jn j0 8), (jn j0 9), (jn j0 10), (jn j0 11), (jn j0 12), (jn j0 13), (jn j0 14), (jn j0 15), (jn j0 16), (jn j0 17), (jn j0 18), (jn j0 19), (jn j0 20), (jn j0 21), (jn j0 22), (jn j0 23), (jn j0 24), (jn j0 25), (jn j0 26), (jn j0 27), (jn j0 28), (jn j0 29), (jn j0 30), (jn j0 31), (jn j0 32), (jn j0 33), (jn j0 34), (jn j0 35), (jn j0 36), (jn j0 37), (jn j0 38), (jn j0 39), (jn j0 40), (jn j0 41), (jn j0 42), (jn j0 43), (jn j0 44), (jn j0 45), (jn j0 46), (jn j0 47), .bool true, .bool false, .bool false, .bool false, .bool false, (jn j0 53), (jn j0 54), (jn j0 55), (jn j0 56), (jn j0 57), (jn j0 58), (jn j0 59), (jn j0 60)], [(gn j0 0), (gn j0 1), (gn j0 2), (gn j0 3), (gn j0 4), (gn j0 5), (gn j0 6), (gn j0 7), (gn j0 8), .agg (ndC e0), (gn j0 10)]) (plC (gn_pl hj0 0) (plC (gn_pl hj0 1) (plC (gn_pl hj0 2) (plC (gn_pl hj0 3) (plC (gn_pl hj0 4) (plC (gn_pl hj0 5) (plC (gn_pl hj0 6) (plC (gn_pl hj0 7) (plC (gn_pl hj0 8) (plC (layNd.plG e0) (plC (gn_pl hj0 10) rfl))))))))))))
 refine cndI (fun hb12 => ?_) fun hb12 => ?_
 rintro ⟨⟩
 exact go_nx Hd.plainG [0, 3, 4, 8, 12, 14, 23, 26, 28, 34, 36, 42, 44, 50, 52, 54, 62, 64, 66, 69, 79, 80, 82, 84, 86, 92, 94, 100, 102, 104, 110, 112, 114, 120, 122, 124, 132, 134, 136, 139, 153, 154, 156, 158, 160, 166, 168, 170, 176, 178, 180, 182, 185, 195, 196, 198, 200, 202, 210, 212, 215, 221, 222, 224, 226, 231, 236, 238, 244, 246, 266, 268, 274, 276, 287, 292, 294, 312, 314] [fq (gn_pl hj0 0), fq (gn_pl hj0 1), fq (gn_pl hj0 2), fq (gn_pl hj0 3), fq (gn_pl hj0 4), fq (gn_pl hj0 5), fq (gn_pl hj0 6), fq (gn_pl hj0 7), fq (gn_pl hj0 8), fq (layNd.plS l11), fq (layNd.plG e0), fq (gn_pl hj0 10)] [fbp [.sc (.int .i64 0), .sc (.int .i64 0), .sc (.int .i64 0), .sc (.int .i64 0), .sc (.int .i64 0), .sc (.int .i64 0), .sc (.int .i64 w2_6), .sc (.int .i64 (wadd w2_7 1)), .sc (.int .i64 w2_8)] (plC rfl (plC rfl (plC rfl (plC rfl (plC rfl (plC rfl (plC rfl (plC rfl (plC rfl rfl))))))))), fbp (ndC n) (layNd.pl n), fbp [.sc (.int .i64 y1b)] (plC rfl rfl)] _ _ (runS 300 (o9 ++ [pb hb9, pb hb10, pix (t := 119) (a := .ptr 2 0) (b := .sc (.int .i64 e0.kind)) (v := .ptr 2 7) (by rw [eqI_T hb12]; kernel_rfl), pk, pix (t := 119) (a := .ptr 2 0) (b := .sc (.int .i64 e0.kind)) (v := .ptr 2 7) (by rw [eqI_T hb12]; kernel_rfl), pinc i0 (by omega)])) (by kernel_rfl) (k ([(jn j0 0), (jn j0 1), (jn j0 2), (jn j0 3), (jn j0 4), (jn j0 5), (jn j0 6), (jn j0 7), (jn j0 8), (jn j0 9), (jn j0 10), (jn j0 11), (jn j0 12), (jn j0 13), (jn j0 14), (jn j0 15), (jn j0 16), (jn j0 17), (jn j0 18), (jn j0 19), (jn j0 20), (jn j0 21), (jn j0 22), (jn j0 23), (jn j0 24), (jn j0 25), (jn j0 26), (jn j0 27), (jn j0 28), (jn j0 29), (jn j0 30), (jn j0 31), (jn j0 32), (jn j0 33), (jn j0 34), (jn j0 35), (jn j0 36), (jn j0 37), (jn j0 38), (jn j0 39), (jn j0 40), (jn j0 41), (jn j0 42), (jn j0 43), (jn j0 44), (jn j0 45), (jn j0 46), (jn j0 47), .bool true, .bool false, .bool false, .bool false, .bool false, (jn j0 53), (jn j0 54), (jn j0 55), (jn j0 56), (jn j0 57), (jn j0 58), (jn j0 59), (jn j0 60)], [(gn j0 0), (gn j0 1), (gn j0 2), (gn j0 3), (gn j0 4), (gn j0 5), (gn j0 6), (gn j0 7), (gn j0 8), .agg (ndC e0), (gn j0 10)]) (plC (gn_pl hj0 0) (plC (gn_pl hj0 1) (plC (gn_pl hj0 2) (plC (gn_pl hj0 3) (plC (gn_pl hj0 4) (plC (gn_pl hj0 5) (plC (gn_pl hj0 6) (plC (gn_pl hj0 7) (plC (gn_pl hj0 8) (plC (layNd.plG e0) (plC (gn_pl hj0 10) rfl))))))))))))
 refine cndI (fun hb13 => ?_) fun hb13 => ?_
 rintro ⟨⟩
 exact go_nx Hd.plainG [0, 3, 4, 8, 12, 14, 23, 26, 28, 34, 36, 42, 44, 50, 52, 54, 62, 64, 66, 69, 79, 80, 82, 84, 86, 92, 94, 100, 102, 104, 110, 112, 114, 120, 122, 124, 132, 134, 136, 139, 153, 154, 156, 158, 160, 166, 168, 170, 176, 178, 180, 182, 185, 195, 196, 198, 200, 202, 210, 212, 215, 221, 222, 224, 226, 231, 236, 238, 244, 246, 266, 268, 274, 276, 287, 292, 294, 312, 314] [fq (gn_pl hj0 0), fq (gn_pl hj0 1), fq (gn_pl hj0 2), fq (gn_pl hj0 3), fq (gn_pl hj0 4), fq (gn_pl hj0 5), fq (gn_pl hj0 6), fq (gn_pl hj0 7), fq (gn_pl hj0 8), fq (layNd.plS l11), fq (layNd.plG e0), fq (gn_pl hj0 10)] [fbp [.sc (.int .i64 0), .sc (.int .i64 0), .sc (.int .i64 0), .sc (.int .i64 0), .sc (.int .i64 0), .sc (.int .i64 0), .sc (.int .i64 w2_6), .sc (.int .i64 w2_7), .sc (.int .i64 (wadd w2_8 1))] (plC rfl (plC rfl (plC rfl (plC rfl (plC rfl (plC rfl (plC rfl (plC rfl (plC rfl rfl))))))))), fbp (ndC n) (layNd.pl n), fbp [.sc (.int .i64 y1b)] (plC rfl rfl)] _ _ (runS 300 (o9 ++ [pb hb9, pb hb10, pix (t := 119) (a := .ptr 2 0) (b := .sc (.int .i64 e0.kind)) (v := .ptr 2 8) (by rw [eqI_T hb13]; kernel_rfl), pk, pix (t := 119) (a := .ptr 2 0) (b := .sc (.int .i64 e0.kind)) (v := .ptr 2 8) (by rw [eqI_T hb13]; kernel_rfl), pinc i0 (by omega)])) (by kernel_rfl) (k ([(jn j0 0), (jn j0 1), (jn j0 2), (jn j0 3), (jn j0 4), (jn j0 5), (jn j0 6), (jn j0 7), (jn j0 8), (jn j0 9), (jn j0 10), (jn j0 11), (jn j0 12), (jn j0 13), (jn j0 14), (jn j0 15), (jn j0 16), (jn j0 17), (jn j0 18), (jn j0 19), (jn j0 20), (jn j0 21), (jn j0 22), (jn j0 23), (jn j0 24), (jn j0 25), (jn j0 26), (jn j0 27), (jn j0 28), (jn j0 29), (jn j0 30), (jn j0 31), (jn j0 32), (jn j0 33), (jn j0 34), (jn j0 35), (jn j0 36), (jn j0 37), (jn j0 38), (jn j0 39), (jn j0 40), (jn j0 41), (jn j0 42), (jn j0 43), (jn j0 44), (jn j0 45), (jn j0 46), (jn j0 47), .bool true, .bool false, .bool false, .bool false, .bool false, (jn j0 53), (jn j0 54), (jn j0 55), (jn j0 56), (jn j0 57), (jn j0 58), (jn j0 59), (jn j0 60)], [(gn j0 0), (gn j0 1), (gn j0 2), (gn j0 3), (gn j0 4), (gn j0 5), (gn j0 6), (gn j0 7), (gn j0 8), .agg (ndC e0), (gn j0 10)]) (plC (gn_pl hj0 0) (plC (gn_pl hj0 1) (plC (gn_pl hj0 2) (plC (gn_pl hj0 3) (plC (gn_pl hj0 4) (plC (gn_pl hj0 5) (plC (gn_pl hj0 6) (plC (gn_pl hj0 7) (plC (gn_pl hj0 8) (plC (layNd.plG e0) (plC (gn_pl hj0 10) rfl))))))))))))
 exact nonI
 rintro ⟨w2_6_12, w2_7_12, w2_8_12⟩ rfl jx_12 hjx_12
 revert h
 clear hres
 dsimp only [lpK]
 refine cndI (fun hb14 => ?_) fun hb14 => ?_
 refine cndI (fun hb15 => ?_) fun hb15 => ?_
 intro h
 have hE := Option.some.inj h
 obtain ⟨hE0, hF0⟩ := Prod.mk.inj hE
 subst hE0 hF0
 exact go_retM Hd.plainG _ _ [0] [] [fbp [.sc (.int .i64 y1b)] (plC rfl rfl)] _ _ (runX 300 [pk, pn hb14, pk, pb hb15]) (by kernel_rfl) .body
 refine bndI fun x13 hx13 => ?_
 refine bndI ?_
 rintro ⟨y14a, y14b⟩ hy14
 dsimp only
 refine cndI (fun hv => ?_) fun hv => ?_
 subst hv
 refine bndI ?_
 rintro ⟨y15a, y15b⟩ hy15
 dsimp only
 intro h
 have hE := Option.some.inj h
 obtain ⟨hE0, hF0⟩ := Prod.mk.inj hE
 subst hE0 hF0
 exact go_retM Hd.plainG _ _ [0] [] [fbp [.sc (.int .i64 y15b)] (plC rfl rfl)] _ _ (runX 300 [pk, pn hb14, pk, pb hb15, pix (ix25 .lost hx13), pk, pcallU (parser_checker_head_U (⟨y1b⟩ : Ck) x13 (wadd depth 1) true y14b (parser_checker_head_step (⟨y1b⟩ : Ck) x13 (wadd depth 1) true y14b hy14) 0 (by decide) (by decide)), psli (sublL25 hl11), pk, pcallU (parser_checker_all_clause_U (⟨y14b⟩ : Ck) l11 (wadd depth 1) y15a y15b (parser_checker_all_clause_step (⟨y14b⟩ : Ck) l11 (wadd depth 1) y15a y15b hy15) 0 (by decide) (by decide))]) (by kernel_rfl) .body
 subst hv
 intro h
 have hE := Option.some.inj h
 obtain ⟨hE0, hF0⟩ := Prod.mk.inj hE
 subst hE0 hF0
 exact go_retM Hd.plainG _ _ [0] [] [fbp [.sc (.int .i64 y14b)] (plC rfl rfl)] _ _ (runX 300 [pk, pn hb14, pk, pb hb15, pix (ix25 .lost hx13), pk, pcallU (parser_checker_head_U (⟨y1b⟩ : Ck) x13 (wadd depth 1) false y14b (parser_checker_head_step (⟨y1b⟩ : Ck) x13 (wadd depth 1) false y14b hy14) 0 (by decide) (by decide))]) (by kernel_rfl) .body
 intro h
 have hE := Option.some.inj h
 obtain ⟨hE0, hF0⟩ := Prod.mk.inj hE
 subst hE0 hF0
 exact go_retM Hd.plainG _ _ [0] [] [fbp [.sc (.int .i64 y1b)] (plC rfl rfl)] _ _ (runX 300 [pk, pn hb14]) (by kernel_rfl) .body
 rintro v rfl
 dsimp only [lpK] at h
 cases h
 exact .outer .body
 subst hv
 intro h
 have hE := Option.some.inj h
 obtain ⟨hE0, hF0⟩ := Prod.mk.inj hE
 subst hE0 hF0
 exact go_retM Hd.plainG _ _ [0] [] [fbp [.sc (.int .i64 y1b)] (plC rfl rfl)] _ _ (runS 300 (o7 ++ [pcallW (.r (.g (.r (.r (.r (.r (.r (.r (.r (.r (.z (.z (.r .nil))))))))))) .nil)) (parser_bare_step n (⟨0, n.name, ByteArray.empty, n.n, 0, 0, 0, (⟨0, []⟩ : Fn), [], 0⟩ : Nd) false hy10)])) (by kernel_rfl) .body
 subst hv
 intro h
 have hE := Option.some.inj h
 obtain ⟨hE0, hF0⟩ := Prod.mk.inj hE
 subst hE0 hF0
 exact go_retM Hd.plainG _ _ [0] [] [fbp [.sc (.int .i64 y1b)] (plC rfl rfl)] _ _ (runS 300 (o6 ++ [pcall (parser_goodName_step n.name false hy9)])) (by kernel_rfl) .body
 subst hv
 intro h
 have hE := Option.some.inj h
 obtain ⟨hE0, hF0⟩ := Prod.mk.inj hE
 subst hE0 hF0
 exact go_retM Hd.plainG _ _ [0] [] [fbp [.sc (.int .i64 y1b)] (plC rfl rfl)] _ _ (runS 300 (o3 ++ [pb hb3, pb hb7, pcall (parser_goodRatio_step n.n false hy8)])) (by kernel_rfl) .body
 intro h
 have hE := Option.some.inj h
 obtain ⟨hE0, hF0⟩ := Prod.mk.inj hE
 subst hE0 hF0
 exact go_retM Hd.plainG _ _ [0] [] [fbp [.sc (.int .i64 y1b)] (plC rfl rfl)] _ _ (runS 300 (o3 ++ [pb hb3, pb hb7])) (by kernel_rfl) .body
 subst hv
 intro h
 have hE := Option.some.inj h
 obtain ⟨hE0, hF0⟩ := Prod.mk.inj hE
 subst hE0 hF0
 exact go_retM Hd.plainG _ _ [0] [] [fbp [.sc (.int .i64 y1b)] (plC rfl rfl)] _ _ (runS 300 [pcallU (parser_checker_node_U c n depth false y1b (parser_checker_node_step c n depth false y1b hy1) 0 (by decide) (by decide))]) (by kernel_rfl) .body
noncomputable def parser_checker_all_item_L1  (depth : Int) (i0 : Nat) (e0 : Nd) (w0_0 : Int) : Option (Lp Int Int (Bool × Int)) := (parser_checker_item_B (⟨w0_0⟩ : Ck) e0 depth).bind fun (y1a, y1b) => cond y1a (some (.nx y1b)) (some (.rt (false, y1b)))
noncomputable def parser_checker_all_item_B  (c : Ck) (list : (List Nd)) (depth : Int) : Option (Bool × Int) := (lim list.length (foldL (fun i y x => parser_checker_all_item_L1  depth i y x) (fun x => x) (list.drop 0) 0 c.nodes)).bind (lpK (fun (w0_0_2 : Int) => some (true, w0_0_2)) (fun v => some v))
theorem parser_checker_all_item_U (c : Ck) (list : (List Nd)) (depth : Int) (yR : Bool) (qc_nodesR : Int) (hS : Sound P G (.call 52 [.ptr 0 0, .sl .lost list.length (ndsC list), .sc (.int .i64 depth), .fn (.func 53) [.ptr 0 0] []] ⟨[(0, .cells (ckC c))], 1, [], 0⟩ (.ret (.sc (.bool yR))) ⟨[(0, .cells [.sc (.int .i64 qc_nodesR)])], 1, [], 0⟩)) (u0 : Nat) (hnb : [u0].Nodup) (hnt : ([] : List Nat).Nodup) : Cd.ok P G (.callU 52 [.ptr u0 0, .sl .lost list.length (ndsC list), .sc (.int .i64 depth), .fn (.func 53) [.ptr u0 0] []] (.ret (.sc (.bool yR))) [(u0, .cells (ckC c))] [] [(u0, .cells [.sc (.int .i64 qc_nodesR)])] []) :=
 frameU (M := [.cells (ckC c)]) (M2 := [.cells [.sc (.int .i64 qc_nodesR)]]) (T := []) (T2 := []) (k := 1) (j := 0) Hd.plainG _ _ _ _ hS rfl rfl rfl rfl rfl hnb hnt rfl rfl (.cons (.cells (.pl (layCk.pl c))) .nil) (.cons (.cells (.pl (plC rfl rfl))) .nil) (.cons (.ptr (by decide)) (.cons (.pl (layNd.plS list)) (.cons (.pl rfl) (.cons (.fn (.cons (.ptr (by decide)) .nil) (.pl rfl)) .nil)))) (.pl rfl) (fun e he => by simp only [List.mem_singleton] at he; subst he; exact (.arg (.here .ptr)))
theorem parser_checker_all_item_step   (c : Ck) (list : (List Nd)) (depth : Int) (yR : Bool) (qc_nodesR : Int) (h : parser_checker_all_item_B  c list depth = some (yR, qc_nodesR)) : Sound P G (.call 52 [.ptr 0 0, .sl .lost list.length (ndsC list), .sc (.int .i64 depth), .fn (.func 53) [.ptr 0 0] []] ⟨[(0, .cells (ckC c))], 1, [], 0⟩ (.ret (.sc (.bool yR))) ⟨[(0, .cells [.sc (.int .i64 qc_nodesR)])], 1, [], 0⟩) := by
 unfold parser_checker_all_item_B at h
 refine soundM Hd.mixed (WC_body Tryz.func52 b52 ?_)
 revert h
 refine bndI fun res hres h => ?_
 have hlen := (limE hres).1
 replace hres := (limE hres).2
 refine go_at [] [2, 3, 8, 11, 12, 13, 14, 16, 18, 20, 21] 0 (sub B52 [1, 0, 1, 0, 0]) [.code (sub B52 [1, 1])] _ _ (runS 300 []) (by kernel_rfl) (foldM (fn := Tryz.f52) (m := 1) (s00 := ⟨[(0, .cells (ckC c))], 1, [], 0⟩) (fun v => .sc (.bool v.1)) (fun v => ⟨[(0, .cells [.sc (.int .i64 v.2)])], 1, [], 0⟩) 0 list (fun i0 (w0_0 : Int) (j0 : JJ) => frm 23 0 [(2, .sc (.int .i64 depth)), (3, .fn (.func 53) [.ptr 0 0] []), (11, .sl .lost list.length (ndsC list)), (12, .sc (.int .i64 ((list.length : Nat) : Int))), (13, .sc (.int .i64 ((i0 : Nat) : Int)))] [8, 14, 20, 21] 0 [16, 18] 0 j0) (fun (_ : Nat) (w0_0 : Int) (_ : JJ) => ⟨[(0, .cells [.sc (.int .i64 w0_0)])], 1, [], 0⟩) (fun (j : JJ) => plainL j.2 = true) (fun (w0_0 : Int) (jx : JJ) => frm 23 0 [] [8, 14, 20, 21] 0 [16, 18] 0 jx) (fun (w0_0 : Int) (_ : JJ) => ⟨[(0, .cells [.sc (.int .i64 w0_0)])], 1, [], 0⟩) (fun (j : JJ) => plainL j.2 = true) ?_ ?_ 0 hres ?_ ?_ ([.bool false], [.sc undef, .sc undef]) (plC rfl (plC rfl rfl)))
 rintro i0 w0_0 j0 hj0 hge hq
 clear h hres
 refine WL_rnd ?_
 exact go_ex Hd.plainG [16, 28, 33, 37, 40, 42] [fq (gn_pl hj0 0), fq (gn_pl hj0 1)] [fbp [.sc (.int .i64 w0_0)] (plC rfl rfl)] 0 _ _ (runS 300 [pb (B := ltI ((i0 : Nat) : Int) ((list.length : Nat) : Int)) (b := false) (ltF hge)]) (by kernel_rfl) (hq ([(jn j0 0), .bool false, (jn j0 2), (jn j0 3)], [(gn j0 0), (gn j0 1)]) (plC (gn_pl hj0 0) (plC (gn_pl hj0 1) rfl)))
 clear h hres
 rintro i0 e0 w0_0 j0 r hj0 he0 hi0 h k
 refine WL_rnd ?_
 revert h
 show parser_checker_all_item_L1  depth i0 e0 w0_0 = some r → _
 unfold parser_checker_all_item_L1
 refine bndI ?_
 rintro ⟨y1a, y1b⟩ hy1
 dsimp only
 let o1 : List (PC P G) := [pb (B := ltI ((i0 : Nat) : Int) ((list.length : Nat) : Int)) (b := true) (ltT hi0), pix (ix25 .lost he0)]
 refine cndI (fun hv => ?_) fun hv => ?_
 subst hv
 rintro ⟨⟩
 exact go_nx Hd.plainG [4, 7, 16, 23, 24, 26, 28, 33, 37, 40, 42] [⟨.fn (.func 53) [.ptr 0 0] [], .fn (.func 53) [.ptr 0 0] [], (.under (unFn (unC rfl rfl) rfl))⟩, fq (layNd.plS list), fq (layNd.plG e0), fq (layNd.plG e0)] [fbp [.sc (.int .i64 y1b)] (plC rfl rfl)] _ _ (runS 300 (o1 ++ [pcallU (parser_checker_item_U (⟨w0_0⟩ : Ck) e0 depth true y1b (parser_checker_item_step (⟨w0_0⟩ : Ck) e0 depth true y1b hy1) 0 (by decide) (by decide)), pinc i0 (by omega)])) (by kernel_rfl) (k ([(jn j0 0), .bool true, .bool true, .bool false], [.agg (ndC e0), .agg (ndC e0)]) (plC (layNd.plG e0) (plC (layNd.plG e0) rfl)))
 subst hv
 rintro ⟨⟩
 exact go_retM Hd.plainG _ _ [0] [] [fbp [.sc (.int .i64 y1b)] (plC rfl rfl)] _ _ (runS 300 (o1 ++ [pcallU (parser_checker_item_U (⟨w0_0⟩ : Ck) e0 depth false y1b (parser_checker_item_step (⟨w0_0⟩ : Ck) e0 depth false y1b hy1) 0 (by decide) (by decide))])) (by kernel_rfl) (.rnd k)
 rintro w0_0_2 rfl jx_2 hjx_2
 revert h
 clear hres
 dsimp only [lpK]
 intro h
 have hE := Option.some.inj h
 obtain ⟨hE0, hF0⟩ := Prod.mk.inj hE
 subst hE0 hF0
 exact go_retM Hd.plainG _ _ [0] [] [fbp [.sc (.int .i64 w0_0_2)] (plC rfl rfl)] _ _ (runX 300 []) (by kernel_rfl) .body
 rintro v rfl
 dsimp only [lpK] at h
 cases h
 exact .outer .body
noncomputable def B29 : Code := bodyOf Tryz.f29
theorem b29 : Tryz.f29.body = some B29 := by kernel_rfl
noncomputable def parser_Valid_B  (n : Nd) : Option Bool := cond (eqI n.kind 1) ((parser_checker_node_B (⟨0⟩ : Ck) n 1).bind fun (y1a, y1b) => cond y1a ((parser_bare_B n (⟨0, ByteArray.empty, ByteArray.empty, 0, 0, 0, 0, (⟨0, []⟩ : Fn), [], 0⟩ : Nd)).bind fun y2 => cond y2 ((parser_checker_all_item_B (⟨y1b⟩ : Ck) n.kids 2).bind fun (y3a, y3b) => some y3a) (some false)) (some false)) ((parser_checker_expr_R (⟨0⟩ : Ck) n 1).bind fun (y4a, y4b) => some y4a)
theorem parser_Valid_step   (n : Nd) (yR : Bool) (h : parser_Valid_B  n = some yR) : Pure P G 29 [.agg (ndC n)] (.sc (.bool yR)) := by
 unfold parser_Valid_B at h
 refine pureM Hd.mixed Hd.plainG (WC_body Tryz.func29 b29 ?_) (plC (layNd.plG n) rfl) rfl
 revert h
 refine cndI (fun hb1 => ?_) fun hb1 => ?_
 refine bndI ?_
 rintro ⟨y1a, y1b⟩ hy1
 dsimp only
 refine cndI (fun hv => ?_) fun hv => ?_
 subst hv
 refine bndI fun y2 hy2 => ?_
 let o1 : List (PC P G) := [pn hb1, pcallU (parser_checker_node_U (⟨0⟩ : Ck) n 1 true y1b (parser_checker_node_step (⟨0⟩ : Ck) n 1 true y1b hy1) 1 (by decide) (by decide))]
 refine cndI (fun hv => ?_) fun hv => ?_
 subst hv
 refine bndI ?_
 rintro ⟨y3a, y3b⟩ hy3
 dsimp only
 intro h
 have hE := Option.some.inj h
 subst hE
 exact rS (runS 300 (o1 ++ [pcallW (.r (.g (.r (.r (.r (.r (.r (.r (.r (.r (.z (.z (.r .nil))))))))))) .nil)) (parser_bare_step n (⟨0, ByteArray.empty, ByteArray.empty, 0, 0, 0, 0, (⟨0, []⟩ : Fn), [], 0⟩ : Nd) true hy2), pcallU (parser_checker_all_item_U (⟨y1b⟩ : Ck) n.kids 2 y3a y3b (parser_checker_all_item_step (⟨y1b⟩ : Ck) n.kids 2 y3a y3b hy3) 1 (by decide) (by decide))])) (by kernel_rfl)
 subst hv
 rintro ⟨⟩
 exact rS (runS 300 (o1 ++ [pcallW (.r (.g (.r (.r (.r (.r (.r (.r (.r (.r (.z (.z (.r .nil))))))))))) .nil)) (parser_bare_step n (⟨0, ByteArray.empty, ByteArray.empty, 0, 0, 0, 0, (⟨0, []⟩ : Fn), [], 0⟩ : Nd) false hy2)])) (by kernel_rfl)
 subst hv
 rintro ⟨⟩
 exact rS (runS 300 [pn hb1, pcallU (parser_checker_node_U (⟨0⟩ : Ck) n 1 false y1b (parser_checker_node_step (⟨0⟩ : Ck) n 1 false y1b hy1) 1 (by decide) (by decide))]) (by kernel_rfl)
 refine bndI ?_
 rintro ⟨y4a, y4b⟩ hy4
 dsimp only
 intro h
 have hE := Option.some.inj h
 subst hE
 exact rS (runS 300 [pn hb1, pcallU (parser_checker_expr_U (⟨0⟩ : Ck) n 1 y4a y4b (parser_checker_expr_ok (⟨0⟩ : Ck) n 1 y4a y4b hy4) 1 (by decide) (by decide))]) (by kernel_rfl)
noncomputable def B30 : Code := bodyOf Tryz.f30
theorem b30 : Tryz.f30.body = some B30 := by kernel_rfl
noncomputable def units_collector_B   : Option Unit := some ()
theorem units_collector_N  (hS : Sound P G (.call 30 [] ⟨[], 0, [], 0⟩ (.ret (.tup [.ptr 0 0, .fn (.func 54) [] [.ptr 0 0]])) ⟨[(0, .cells [.sl .full 0 []])], 1, [], 0⟩)) (nx nr : Nat) : Cd.ok P G (.callN 30 [] nx nr (.tup [.ptr (nx + 0) 0, .fn (.func 54) [] [.ptr (nx + 0) 0]]) [((nx + 0), .cells [.sl .full 0 []])] 1 [] 0) :=
 frameN Hd.plainG hS rfl (.tup (.cons (.ptr (by decide)) (.cons (.fn (.pl rfl) (.cons (.ptr (by decide)) .nil)) .nil))) (.cons (.cells (.pl (plC (plSlF rfl) rfl))) .nil)
theorem units_collector_step  (h : units_collector_B  = some ()) : Sound P G (.call 30 [] ⟨[], 0, [], 0⟩ (.ret (.tup [.ptr 0 0, .fn (.func 54) [] [.ptr 0 0]])) ⟨[(0, .cells [.sl .full 0 []])], 1, [], 0⟩) := by
 unfold units_collector_B at h
 refine soundN Hd.mixed (WC_bodyN (m := 1) Tryz.func30 b30 ?_)
 revert h
 intro h
 exact go_retN (n := 1) (m0 := 0) Hd.plainG _ _ [0] [1] [⟨.tup [.ptr 0 0, .fn (.func 54) [] [.ptr 0 0]], .tup [.ptr 0 0, .fn (.func 54) [] [.ptr 0 0]], (.under (unC rfl (unC (unFn rfl (unC rfl rfl)) rfl)))⟩] [fbp [.sl .full 0 []] (plC (plSlF rfl) rfl)] _ _ (runS 300 []) (Nat.zero_le _) (Nat.zero_le _) (by kernel_rfl) .body
noncomputable def B31 : Code := bodyOf Tryz.f31
theorem b31 : Tryz.f31.body = some B31 := by kernel_rfl
noncomputable def units_newScope_L1   (i0 : Nat) (e0 : Nd) (w2_m : (Mm ByteArray ByteArray)) (w3_m : (Mm ByteArray ByteArray)) (w4_m : (Mm Int ByteArray)) : Option (Lp ((Mm ByteArray ByteArray) × (Mm ByteArray ByteArray) × (Mm Int ByteArray)) ((Mm ByteArray ByteArray) × (Mm ByteArray ByteArray) × (Mm Int ByteArray)) Sc) := cond (eqI e0.kind 2) (cond ((w2_m.get e0.name).isSome) (some (.nx (w2_m, w3_m, w4_m))) (some (.nx ((w2_m.set e0.name e0.unit), w3_m, w4_m)))) (cond (eqI e0.kind 3) (cond ((w3_m.get e0.name).isSome) (some (.nx (w2_m, w3_m, w4_m))) (some (.nx (w2_m, (w3_m.set e0.name e0.unit), w4_m)))) (cond (eqI e0.kind 4) (cond ((w4_m.get e0.n).isSome) (some (.nx (w2_m, w3_m, w4_m))) (some (.nx (w2_m, w3_m, (w4_m.set e0.n e0.name))))) (some (.nx (w2_m, w3_m, w4_m)))))
noncomputable def units_newScope_B  (source : Nd) : Option Sc := (lim source.kids.length (foldL (fun i y x => units_newScope_L1   i y x.1 x.2.1 x.2.2) (fun x => (x.1, x.2.1, x.2.2)) (source.kids.drop 0) 0 ((Mm.nil : Mm ByteArray ByteArray), (Mm.nil : Mm ByteArray ByteArray), (Mm.nil : Mm Int ByteArray)))).bind (lpK (fun ((w2_m_1, w3_m_1, w4_m_1) : ((Mm ByteArray ByteArray) × (Mm ByteArray ByteArray) × (Mm Int ByteArray))) => some (⟨w2_m_1, w3_m_1, w4_m_1⟩ : Sc)) (fun v => some v))
theorem units_newScope_N (source : Nd) (y0R : Sc) (hS : Sound P G (.call 31 [.agg (ndC source)] ⟨[], 0, [], 0⟩ (.ret (.agg [.mp 2, .mp 3, .mp 4])) ⟨[(4, (mbis y0R.articles)), (3, (mbss y0R.lines)), (2, (mbss y0R.facts))], 5, [], 0⟩)) (nx nr : Nat) : Cd.ok P G (.callN 31 [.agg (ndC source)] nx nr (.agg [.mp (nx + 2), .mp (nx + 3), .mp (nx + 4)]) [((nx + 4), (mbis y0R.articles)), ((nx + 3), (mbss y0R.lines)), ((nx + 2), (mbss y0R.facts))] 5 [] 0) :=
 frameN Hd.plainG hS (plC (layNd.plG source) rfl) (.agg (.cons (.mp (by decide)) (.cons (.mp (by decide)) (.cons (.mp (by decide)) .nil)))) (.cons (mB_rn (fun _ => rfl)) (.cons (mB_rn (fun _ => rfl)) (.cons (mB_rn (fun _ => rfl)) .nil)))
theorem units_newScope_step (source : Nd) (y0R : Sc) (h : units_newScope_B source = some y0R) : Sound P G (.call 31 [.agg (ndC source)] ⟨[], 0, [], 0⟩ (.ret (.agg [.mp 2, .mp 3, .mp 4])) ⟨[(4, (mbis y0R.articles)), (3, (mbss y0R.lines)), (2, (mbss y0R.facts))], 5, [], 0⟩) := by
 unfold units_newScope_B at h
 refine soundN Hd.mixed (WC_bodyN (m := 5) Tryz.func31 b31 ?_)
 revert h
 refine bndI fun res hres h => ?_
 have hlen := (limE hres).1
 replace hres := (limE hres).2
 refine go_at [] [0, 2, 3, 7, 9, 11, 15, 17, 18, 19, 20, 22, 25, 26, 34, 35, 36, 43, 44, 52, 53, 54, 61, 62, 70, 71, 72, 80] 0 (sub B31 [1, 1, 0, 1, 0, 0]) [.code (sub B31 [1, 1, 1])] _ _ (runS 300 []) (by kernel_rfl) (foldM (fn := Tryz.f31) (m := 5) (s00 := ⟨[], 0, [], 0⟩) (fun v => .agg [.mp 2, .mp 3, .mp 4]) (fun v => ⟨[(4, (mbis v.articles)), (3, (mbss v.lines)), (2, (mbss v.facts))], 5, [], 0⟩) 0 source.kids (fun i0 ((w2_m, w3_m, w4_m) : ((Mm ByteArray ByteArray) × (Mm ByteArray ByteArray) × (Mm Int ByteArray))) (j0 : JJ) => frm 81 0 [(2, .ptr 1 0), (3, .ptr 5 0), (17, .sl .lost source.kids.length (ndsC source.kids)), (18, .sc (.int .i64 ((source.kids.length : Nat) : Int))), (19, .sc (.int .i64 ((i0 : Nat) : Int)))] [7, 9, 11, 20, 25, 26, 34, 35, 36, 43, 44, 52, 53, 54, 61, 62, 70, 71, 72] 0 [0, 15, 22, 80] 0 j0) (fun (_ : Nat) ((w2_m, w3_m, w4_m) : ((Mm ByteArray ByteArray) × (Mm ByteArray ByteArray) × (Mm Int ByteArray))) (_ : JJ) => ⟨[(5, .cells [.mp 2, .mp 3, .mp 4]), (4, (mbis w4_m)), (3, (mbss w3_m)), (2, (mbss w2_m)), (1, .cells [.sc (.map none), .sc (.map none), .sc (.map none)]), (0, .cells (ndC source))], 6, [], 0⟩) (fun (j : JJ) => underL 6 0 j.2 = true) (fun ((w2_m, w3_m, w4_m) : ((Mm ByteArray ByteArray) × (Mm ByteArray ByteArray) × (Mm Int ByteArray))) (jx : JJ) => frm 81 0 [(2, .ptr 1 0), (3, .ptr 5 0)] [7, 9, 11, 20, 25, 26, 34, 35, 36, 43, 44, 52, 53, 54, 61, 62, 70, 71, 72] 0 [0, 15, 22, 80] 0 jx) (fun ((w2_m, w3_m, w4_m) : ((Mm ByteArray ByteArray) × (Mm ByteArray ByteArray) × (Mm Int ByteArray))) (_ : JJ) => ⟨[(5, .cells [.mp 2, .mp 3, .mp 4]), (4, (mbis w4_m)), (3, (mbss w3_m)), (2, (mbss w2_m)), (1, .cells [.sc (.map none), .sc (.map none), .sc (.map none)]), (0, .cells (ndC source))], 6, [], 0⟩) (fun (j : JJ) => underL 6 0 j.2 = true) ?_ ?_ 0 hres ?_ ?_ ([], [.agg (ndC source), .agg [.mp 2, .mp 3, .mp 4], .sc undef, .sc undef]) (unC (under_plain _ _ (layNd.plG source)) (unC (unC rfl (unC rfl (unC rfl rfl))) (unC rfl (unC rfl rfl)))))
 rintro i0 ⟨w2_m, w3_m, w4_m⟩ j0 hj0 hge hq
 clear h hres
 refine WL_rnd ?_
 exact go_ex Hd.plainG [1, 4, 6, 14, 18, 22, 31, 40, 45, 50, 52, 68, 70, 72, 86, 88, 104, 106, 108, 122, 124, 140, 142, 144, 161] [⟨(gn j0 0), (gn j0 0), (.under (under_mono (Nat.le_of_ble_eq_true rfl) (Nat.le_of_ble_eq_true rfl) (gn_un hj0 0)))⟩, ⟨(gn j0 1), (gn j0 1), (.under (under_mono (Nat.le_of_ble_eq_true rfl) (Nat.le_of_ble_eq_true rfl) (gn_un hj0 1)))⟩, ⟨(gn j0 2), (gn j0 2), (.under (under_mono (Nat.le_of_ble_eq_true rfl) (Nat.le_of_ble_eq_true rfl) (gn_un hj0 2)))⟩, ⟨(gn j0 3), (gn j0 3), (.under (under_mono (Nat.le_of_ble_eq_true rfl) (Nat.le_of_ble_eq_true rfl) (gn_un hj0 3)))⟩] [fbu [.mp 2, .mp 3, .mp 4] (unC rfl (unC rfl (unC rfl rfl))), ⟨(mbis w4_m), (mbis w4_m), (mB_fits (fun _ => rfl))⟩, ⟨(mbss w3_m), (mbss w3_m), (mB_fits (fun _ => rfl))⟩, ⟨(mbss w2_m), (mbss w2_m), (mB_fits (fun _ => rfl))⟩, fbp [.sc (.map none), .sc (.map none), .sc (.map none)] (plC rfl (plC rfl (plC rfl rfl))), fbp (ndC source) (layNd.pl source)] 0 _ _ (runS 300 [pb (B := ltI ((i0 : Nat) : Int) ((source.kids.length : Nat) : Int)) (b := false) (ltF hge)]) (by kernel_rfl) (hq ([(jn j0 0), (jn j0 1), (jn j0 2), .bool false, (jn j0 4), (jn j0 5), (jn j0 6), (jn j0 7), (jn j0 8), (jn j0 9), (jn j0 10), (jn j0 11), (jn j0 12), (jn j0 13), (jn j0 14), (jn j0 15), (jn j0 16), (jn j0 17), (jn j0 18)], [(gn j0 0), (gn j0 1), (gn j0 2), (gn j0 3)]) (unC (under_mono (Nat.le_of_ble_eq_true rfl) (Nat.le_of_ble_eq_true rfl) (gn_un hj0 0)) (unC (under_mono (Nat.le_of_ble_eq_true rfl) (Nat.le_of_ble_eq_true rfl) (gn_un hj0 1)) (unC (under_mono (Nat.le_of_ble_eq_true rfl) (Nat.le_of_ble_eq_true rfl) (gn_un hj0 2)) (unC (under_mono (Nat.le_of_ble_eq_true rfl) (Nat.le_of_ble_eq_true rfl) (gn_un hj0 3)) rfl)))))
 clear h hres
 rintro i0 e0 ⟨w2_m, w3_m, w4_m⟩ j0 r hj0 he0 hi0 h k
 refine WL_rnd ?_
 revert h
 show units_newScope_L1   i0 e0 w2_m w3_m w4_m = some r → _
 unfold units_newScope_L1
 let o1 : List (PC P G) := [pb (B := ltI ((i0 : Nat) : Int) ((source.kids.length : Nat) : Int)) (b := true) (ltT hi0), pix (ix25 .lost he0)]
 refine cndI (fun hb1 => ?_) fun hb1 => ?_
 refine cndI (fun hb2 => ?_) fun hb2 => ?_
 rintro ⟨⟩
 exact go_nx Hd.plainG [1, 4, 6, 14, 18, 22, 31, 35, 36, 38, 40, 45, 50, 52, 68, 70, 72, 86, 88, 104, 106, 108, 122, 124, 140, 142, 144, 161] [⟨(gn j0 0), (gn j0 0), (.under (under_mono (Nat.le_of_ble_eq_true rfl) (Nat.le_of_ble_eq_true rfl) (gn_un hj0 0)))⟩, ⟨(gn j0 1), (gn j0 1), (.under (under_mono (Nat.le_of_ble_eq_true rfl) (Nat.le_of_ble_eq_true rfl) (gn_un hj0 1)))⟩, fq (layNd.plS source.kids), fq (layNd.plG e0), ⟨(gn j0 3), (gn j0 3), (.under (under_mono (Nat.le_of_ble_eq_true rfl) (Nat.le_of_ble_eq_true rfl) (gn_un hj0 3)))⟩] [fbu [.mp 2, .mp 3, .mp 4] (unC rfl (unC rfl (unC rfl rfl))), ⟨(mbis w4_m), (mbis w4_m), (mB_fits (fun _ => rfl))⟩, ⟨(mbss w3_m), (mbss w3_m), (mB_fits (fun _ => rfl))⟩, ⟨(mbss w2_m), (mbss w2_m), (mB_fits (fun _ => rfl))⟩, fbp [.sc (.map none), .sc (.map none), .sc (.map none)] (plC rfl (plC rfl (plC rfl rfl))), fbp (ndC source) (layNd.pl source)] _ _ (runS 300 (o1 ++ [pb hb1, plk (lkT40 w2_m e0.name hb2), pinc i0 (by omega)])) (by kernel_rfl) (k ([.bool true, (jn j0 1), (jn j0 2), .bool true, .bool true, .bool true, .bool true, .bool true, .bool false, (jn j0 9), (jn j0 10), (jn j0 11), (jn j0 12), (jn j0 13), (jn j0 14), (jn j0 15), (jn j0 16), (jn j0 17), (jn j0 18)], [(gn j0 0), (gn j0 1), .agg (ndC e0), (gn j0 3)]) (unC (under_mono (Nat.le_of_ble_eq_true rfl) (Nat.le_of_ble_eq_true rfl) (gn_un hj0 0)) (unC (under_mono (Nat.le_of_ble_eq_true rfl) (Nat.le_of_ble_eq_true rfl) (gn_un hj0 1)) (unC (under_plain _ _ (layNd.plG e0)) (unC (under_mono (Nat.le_of_ble_eq_true rfl) (Nat.le_of_ble_eq_true rfl) (gn_un hj0 3)) rfl)))))
 rintro ⟨⟩
 exact go_nx Hd.plainG [1, 4, 6, 14, 18, 22, 31, 35, 36, 38, 40, 45, 50, 52, 68, 70, 72, 86, 88, 104, 106, 108, 122, 124, 140, 142, 144, 161] [⟨(gn j0 0), (gn j0 0), (.under (under_mono (Nat.le_of_ble_eq_true rfl) (Nat.le_of_ble_eq_true rfl) (gn_un hj0 0)))⟩, ⟨(gn j0 1), (gn j0 1), (.under (under_mono (Nat.le_of_ble_eq_true rfl) (Nat.le_of_ble_eq_true rfl) (gn_un hj0 1)))⟩, fq (layNd.plS source.kids), fq (layNd.plG e0), ⟨(gn j0 3), (gn j0 3), (.under (under_mono (Nat.le_of_ble_eq_true rfl) (Nat.le_of_ble_eq_true rfl) (gn_un hj0 3)))⟩] [fbu [.mp 2, .mp 3, .mp 4] (unC rfl (unC rfl (unC rfl rfl))), ⟨(mbis w4_m), (mbis w4_m), (mB_fits (fun _ => rfl))⟩, ⟨(mbss w3_m), (mbss w3_m), (mB_fits (fun _ => rfl))⟩, ⟨(mbss (w2_m.set e0.name e0.unit)), (mbss (w2_m.set e0.name e0.unit)), (mB_fits (fun _ => rfl))⟩, fbp [.sc (.map none), .sc (.map none), .sc (.map none)] (plC rfl (plC rfl (plC rfl rfl))), fbp (ndC source) (layNd.pl source)] _ _ (runS 300 (o1 ++ [pb hb1, plk (lkT40 w2_m e0.name hb2), pms (ms40 w2_m e0.name e0.unit), pinc i0 (by omega)])) (by kernel_rfl) (k ([.bool false, (jn j0 1), (jn j0 2), .bool true, .bool true, .bool true, .bool false, .bool false, .bool true, (jn j0 9), (jn j0 10), (jn j0 11), (jn j0 12), (jn j0 13), (jn j0 14), (jn j0 15), (jn j0 16), (jn j0 17), (jn j0 18)], [(gn j0 0), (gn j0 1), .agg (ndC e0), (gn j0 3)]) (unC (under_mono (Nat.le_of_ble_eq_true rfl) (Nat.le_of_ble_eq_true rfl) (gn_un hj0 0)) (unC (under_mono (Nat.le_of_ble_eq_true rfl) (Nat.le_of_ble_eq_true rfl) (gn_un hj0 1)) (unC (under_plain _ _ (layNd.plG e0)) (unC (under_mono (Nat.le_of_ble_eq_true rfl) (Nat.le_of_ble_eq_true rfl) (gn_un hj0 3)) rfl)))))
 refine cndI (fun hb3 => ?_) fun hb3 => ?_
 refine cndI (fun hb4 => ?_) fun hb4 => ?_
 rintro ⟨⟩
 exact go_nx Hd.plainG [1, 4, 6, 14, 18, 22, 31, 35, 36, 38, 40, 45, 50, 52, 68, 70, 72, 86, 88, 104, 106, 108, 122, 124, 140, 142, 144, 161] [⟨(gn j0 0), (gn j0 0), (.under (under_mono (Nat.le_of_ble_eq_true rfl) (Nat.le_of_ble_eq_true rfl) (gn_un hj0 0)))⟩, ⟨(gn j0 1), (gn j0 1), (.under (under_mono (Nat.le_of_ble_eq_true rfl) (Nat.le_of_ble_eq_true rfl) (gn_un hj0 1)))⟩, fq (layNd.plS source.kids), fq (layNd.plG e0), ⟨(gn j0 3), (gn j0 3), (.under (under_mono (Nat.le_of_ble_eq_true rfl) (Nat.le_of_ble_eq_true rfl) (gn_un hj0 3)))⟩] [fbu [.mp 2, .mp 3, .mp 4] (unC rfl (unC rfl (unC rfl rfl))), ⟨(mbis w4_m), (mbis w4_m), (mB_fits (fun _ => rfl))⟩, ⟨(mbss w3_m), (mbss w3_m), (mB_fits (fun _ => rfl))⟩, ⟨(mbss w2_m), (mbss w2_m), (mB_fits (fun _ => rfl))⟩, fbp [.sc (.map none), .sc (.map none), .sc (.map none)] (plC rfl (plC rfl (plC rfl rfl))), fbp (ndC source) (layNd.pl source)] _ _ (runS 300 (o1 ++ [pb hb1, pb hb3, plk (lkT40 w3_m e0.name hb4), pinc i0 (by omega)])) (by kernel_rfl) (k ([(jn j0 0), .bool true, (jn j0 2), .bool true, .bool false, .bool false, (jn j0 6), (jn j0 7), (jn j0 8), .bool true, .bool true, .bool true, .bool true, .bool false, (jn j0 14), (jn j0 15), (jn j0 16), (jn j0 17), (jn j0 18)], [(gn j0 0), (gn j0 1), .agg (ndC e0), (gn j0 3)]) (unC (under_mono (Nat.le_of_ble_eq_true rfl) (Nat.le_of_ble_eq_true rfl) (gn_un hj0 0)) (unC (under_mono (Nat.le_of_ble_eq_true rfl) (Nat.le_of_ble_eq_true rfl) (gn_un hj0 1)) (unC (under_plain _ _ (layNd.plG e0)) (unC (under_mono (Nat.le_of_ble_eq_true rfl) (Nat.le_of_ble_eq_true rfl) (gn_un hj0 3)) rfl)))))
 rintro ⟨⟩
 exact go_nx Hd.plainG [1, 4, 6, 14, 18, 22, 31, 35, 36, 38, 40, 45, 50, 52, 68, 70, 72, 86, 88, 104, 106, 108, 122, 124, 140, 142, 144, 161] [⟨(gn j0 0), (gn j0 0), (.under (under_mono (Nat.le_of_ble_eq_true rfl) (Nat.le_of_ble_eq_true rfl) (gn_un hj0 0)))⟩, ⟨(gn j0 1), (gn j0 1), (.under (under_mono (Nat.le_of_ble_eq_true rfl) (Nat.le_of_ble_eq_true rfl) (gn_un hj0 1)))⟩, fq (layNd.plS source.kids), fq (layNd.plG e0), ⟨(gn j0 3), (gn j0 3), (.under (under_mono (Nat.le_of_ble_eq_true rfl) (Nat.le_of_ble_eq_true rfl) (gn_un hj0 3)))⟩] [fbu [.mp 2, .mp 3, .mp 4] (unC rfl (unC rfl (unC rfl rfl))), ⟨(mbis w4_m), (mbis w4_m), (mB_fits (fun _ => rfl))⟩, ⟨(mbss (w3_m.set e0.name e0.unit)), (mbss (w3_m.set e0.name e0.unit)), (mB_fits (fun _ => rfl))⟩, ⟨(mbss w2_m), (mbss w2_m), (mB_fits (fun _ => rfl))⟩, fbp [.sc (.map none), .sc (.map none), .sc (.map none)] (plC rfl (plC rfl (plC rfl rfl))), fbp (ndC source) (layNd.pl source)] _ _ (runS 300 (o1 ++ [pb hb1, pb hb3, plk (lkT40 w3_m e0.name hb4), pms (ms40 w3_m e0.name e0.unit), pinc i0 (by omega)])) (by kernel_rfl) (k ([(jn j0 0), .bool false, (jn j0 2), .bool true, .bool false, .bool false, (jn j0 6), (jn j0 7), (jn j0 8), .bool true, .bool true, .bool false, .bool false, .bool true, (jn j0 14), (jn j0 15), (jn j0 16), (jn j0 17), (jn j0 18)], [(gn j0 0), (gn j0 1), .agg (ndC e0), (gn j0 3)]) (unC (under_mono (Nat.le_of_ble_eq_true rfl) (Nat.le_of_ble_eq_true rfl) (gn_un hj0 0)) (unC (under_mono (Nat.le_of_ble_eq_true rfl) (Nat.le_of_ble_eq_true rfl) (gn_un hj0 1)) (unC (under_plain _ _ (layNd.plG e0)) (unC (under_mono (Nat.le_of_ble_eq_true rfl) (Nat.le_of_ble_eq_true rfl) (gn_un hj0 3)) rfl)))))
 refine cndI (fun hb5 => ?_) fun hb5 => ?_
 refine cndI (fun hb6 => ?_) fun hb6 => ?_
 rintro ⟨⟩
 exact go_nx Hd.plainG [1, 4, 6, 14, 18, 22, 31, 35, 36, 38, 40, 45, 50, 52, 68, 70, 72, 86, 88, 104, 106, 108, 122, 124, 140, 142, 144, 161] [⟨(gn j0 0), (gn j0 0), (.under (under_mono (Nat.le_of_ble_eq_true rfl) (Nat.le_of_ble_eq_true rfl) (gn_un hj0 0)))⟩, ⟨(gn j0 1), (gn j0 1), (.under (under_mono (Nat.le_of_ble_eq_true rfl) (Nat.le_of_ble_eq_true rfl) (gn_un hj0 1)))⟩, fq (layNd.plS source.kids), fq (layNd.plG e0), ⟨(gn j0 3), (gn j0 3), (.under (under_mono (Nat.le_of_ble_eq_true rfl) (Nat.le_of_ble_eq_true rfl) (gn_un hj0 3)))⟩] [fbu [.mp 2, .mp 3, .mp 4] (unC rfl (unC rfl (unC rfl rfl))), ⟨(mbis w4_m), (mbis w4_m), (mB_fits (fun _ => rfl))⟩, ⟨(mbss w3_m), (mbss w3_m), (mB_fits (fun _ => rfl))⟩, ⟨(mbss w2_m), (mbss w2_m), (mB_fits (fun _ => rfl))⟩, fbp [.sc (.map none), .sc (.map none), .sc (.map none)] (plC rfl (plC rfl (plC rfl rfl))), fbp (ndC source) (layNd.pl source)] _ _ (runS 300 (o1 ++ [pb hb1, pb hb3, pb hb5, plk (lkT58 w4_m e0.n hb6), pinc i0 (by omega)])) (by kernel_rfl) (k ([(jn j0 0), (jn j0 1), .bool true, .bool true, .bool false, .bool false, (jn j0 6), (jn j0 7), (jn j0 8), .bool false, .bool false, (jn j0 11), (jn j0 12), (jn j0 13), .bool true, .bool true, .bool true, .bool true, .bool false], [(gn j0 0), (gn j0 1), .agg (ndC e0), (gn j0 3)]) (unC (under_mono (Nat.le_of_ble_eq_true rfl) (Nat.le_of_ble_eq_true rfl) (gn_un hj0 0)) (unC (under_mono (Nat.le_of_ble_eq_true rfl) (Nat.le_of_ble_eq_true rfl) (gn_un hj0 1)) (unC (under_plain _ _ (layNd.plG e0)) (unC (under_mono (Nat.le_of_ble_eq_true rfl) (Nat.le_of_ble_eq_true rfl) (gn_un hj0 3)) rfl)))))
 rintro ⟨⟩
 exact go_nx Hd.plainG [1, 4, 6, 14, 18, 22, 31, 35, 36, 38, 40, 45, 50, 52, 68, 70, 72, 86, 88, 104, 106, 108, 122, 124, 140, 142, 144, 161] [⟨(gn j0 0), (gn j0 0), (.under (under_mono (Nat.le_of_ble_eq_true rfl) (Nat.le_of_ble_eq_true rfl) (gn_un hj0 0)))⟩, ⟨(gn j0 1), (gn j0 1), (.under (under_mono (Nat.le_of_ble_eq_true rfl) (Nat.le_of_ble_eq_true rfl) (gn_un hj0 1)))⟩, fq (layNd.plS source.kids), fq (layNd.plG e0), ⟨(gn j0 3), (gn j0 3), (.under (under_mono (Nat.le_of_ble_eq_true rfl) (Nat.le_of_ble_eq_true rfl) (gn_un hj0 3)))⟩] [fbu [.mp 2, .mp 3, .mp 4] (unC rfl (unC rfl (unC rfl rfl))), ⟨(mbis (w4_m.set e0.n e0.name)), (mbis (w4_m.set e0.n e0.name)), (mB_fits (fun _ => rfl))⟩, ⟨(mbss w3_m), (mbss w3_m), (mB_fits (fun _ => rfl))⟩, ⟨(mbss w2_m), (mbss w2_m), (mB_fits (fun _ => rfl))⟩, fbp [.sc (.map none), .sc (.map none), .sc (.map none)] (plC rfl (plC rfl (plC rfl rfl))), fbp (ndC source) (layNd.pl source)] _ _ (runS 300 (o1 ++ [pb hb1, pb hb3, pb hb5, plk (lkT58 w4_m e0.n hb6), pms (ms58 w4_m e0.n e0.name), pinc i0 (by omega)])) (by kernel_rfl) (k ([(jn j0 0), (jn j0 1), .bool false, .bool true, .bool false, .bool false, (jn j0 6), (jn j0 7), (jn j0 8), .bool false, .bool false, (jn j0 11), (jn j0 12), (jn j0 13), .bool true, .bool true, .bool false, .bool false, .bool true], [(gn j0 0), (gn j0 1), .agg (ndC e0), (gn j0 3)]) (unC (under_mono (Nat.le_of_ble_eq_true rfl) (Nat.le_of_ble_eq_true rfl) (gn_un hj0 0)) (unC (under_mono (Nat.le_of_ble_eq_true rfl) (Nat.le_of_ble_eq_true rfl) (gn_un hj0 1)) (unC (under_plain _ _ (layNd.plG e0)) (unC (under_mono (Nat.le_of_ble_eq_true rfl) (Nat.le_of_ble_eq_true rfl) (gn_un hj0 3)) rfl)))))
 rintro ⟨⟩
 exact go_nx Hd.plainG [1, 4, 6, 14, 18, 22, 31, 35, 36, 38, 40, 45, 50, 52, 68, 70, 72, 86, 88, 104, 106, 108, 122, 124, 140, 142, 144, 161] [⟨(gn j0 0), (gn j0 0), (.under (under_mono (Nat.le_of_ble_eq_true rfl) (Nat.le_of_ble_eq_true rfl) (gn_un hj0 0)))⟩, ⟨(gn j0 1), (gn j0 1), (.under (under_mono (Nat.le_of_ble_eq_true rfl) (Nat.le_of_ble_eq_true rfl) (gn_un hj0 1)))⟩, fq (layNd.plS source.kids), fq (layNd.plG e0), ⟨(gn j0 3), (gn j0 3), (.under (under_mono (Nat.le_of_ble_eq_true rfl) (Nat.le_of_ble_eq_true rfl) (gn_un hj0 3)))⟩] [fbu [.mp 2, .mp 3, .mp 4] (unC rfl (unC rfl (unC rfl rfl))), ⟨(mbis w4_m), (mbis w4_m), (mB_fits (fun _ => rfl))⟩, ⟨(mbss w3_m), (mbss w3_m), (mB_fits (fun _ => rfl))⟩, ⟨(mbss w2_m), (mbss w2_m), (mB_fits (fun _ => rfl))⟩, fbp [.sc (.map none), .sc (.map none), .sc (.map none)] (plC rfl (plC rfl (plC rfl rfl))), fbp (ndC source) (layNd.pl source)] _ _ (runS 300 (o1 ++ [pb hb1, pb hb3, pb hb5, pinc i0 (by omega)])) (by kernel_rfl) (k ([(jn j0 0), (jn j0 1), (jn j0 2), .bool true, .bool false, .bool false, (jn j0 6), (jn j0 7), (jn j0 8), .bool false, .bool false, (jn j0 11), (jn j0 12), (jn j0 13), .bool false, .bool false, (jn j0 16), (jn j0 17), (jn j0 18)], [(gn j0 0), (gn j0 1), .agg (ndC e0), (gn j0 3)]) (unC (under_mono (Nat.le_of_ble_eq_true rfl) (Nat.le_of_ble_eq_true rfl) (gn_un hj0 0)) (unC (under_mono (Nat.le_of_ble_eq_true rfl) (Nat.le_of_ble_eq_true rfl) (gn_un hj0 1)) (unC (under_plain _ _ (layNd.plG e0)) (unC (under_mono (Nat.le_of_ble_eq_true rfl) (Nat.le_of_ble_eq_true rfl) (gn_un hj0 3)) rfl)))))
 rintro ⟨w2_m_1, w3_m_1, w4_m_1⟩ rfl jx_1 hjx_1
 revert h
 clear hres
 dsimp only [lpK]
 intro h
 have hE := Option.some.inj h
 subst hE
 exact go_retN (n := 5) (m0 := 0) Hd.plainG _ _ [4, 3, 2] [1] [⟨.agg [.mp 2, .mp 3, .mp 4], .agg [.mp 2, .mp 3, .mp 4], (.under (unC rfl (unC rfl (unC rfl rfl))))⟩] [⟨(mbis w4_m_1), (mbis w4_m_1), (mB_fits (fun _ => rfl))⟩, ⟨(mbss w3_m_1), (mbss w3_m_1), (mB_fits (fun _ => rfl))⟩, ⟨(mbss w2_m_1), (mbss w2_m_1), (mB_fits (fun _ => rfl))⟩] _ _ (runX 300 []) (Nat.zero_le _) (Nat.zero_le _) (by kernel_rfl) .body
 rintro v rfl
 dsimp only [lpK] at h
 cases h
 exact .outer .body
noncomputable def B56 : Code := bodyOf Tryz.f56
theorem b56 : Tryz.f56.body = some B56 := by kernel_rfl
noncomputable def units_isCur_B  (unit : ByteArray) : Option Bool := cond (eqB unit.data.toList ByteArray.empty.data.toList) (some false) (cond (eqB unit.data.toList truthS.data.toList) (some false) (cond (eqB unit.data.toList numberS.data.toList) (some false) (cond (eqB unit.data.toList minutesS.data.toList) (some false) (some true))))
theorem units_isCur_step   (unit : ByteArray) (yR : Bool) (h : units_isCur_B  unit = some yR) : Pure P G 56 [.sc (.string unit)] (.sc (.bool yR)) := by
 unfold units_isCur_B at h
 refine pureM Hd.mixed Hd.plainG (WC_body Tryz.func56 b56 ?_) (plC rfl rfl) rfl
 revert h
 refine cndI (fun hb1 => ?_) fun hb1 => ?_
 rintro ⟨⟩
 exact rS (runS 300 [pb hb1]) (by kernel_rfl)
 refine cndI (fun hb2 => ?_) fun hb2 => ?_
 rintro ⟨⟩
 exact rS (runS 300 [pb hb1, pb hb2]) (by kernel_rfl)
 refine cndI (fun hb3 => ?_) fun hb3 => ?_
 rintro ⟨⟩
 exact rS (runS 300 [pb hb1, pb hb2, pb hb3]) (by kernel_rfl)
 refine cndI (fun hb4 => ?_) fun hb4 => ?_
 rintro ⟨⟩
 exact rS (runS 300 [pb hb1, pb hb2, pb hb3, pb hb4]) (by kernel_rfl)
 rintro ⟨⟩
 exact rS (runS 300 [pb hb1, pb hb2, pb hb3, pb hb4]) (by kernel_rfl)
noncomputable def B85 : Code := bodyOf Tryz.f85
theorem b85 : Tryz.f85.body = some B85 := by kernel_rfl
noncomputable def B55 : Code := bodyOf Tryz.f55
theorem b55 : Tryz.f55.body = some B55 := by kernel_rfl
noncomputable def B54 : Code := bodyOf Tryz.f54
theorem b54 : Tryz.f54.body = some B54 := by kernel_rfl
noncomputable def units_collector_1_B  (err : Int) (at_ : Int) (a2 : (List Dg)) : Option (Unit × (List Dg)) := cond (ltI ((a2.length : Nat) : Int) 20) (limA (a2.length + 1) (some ((), (a2 ++ [(⟨err, at_⟩ : Dg)])))) (some ((), a2))
theorem units_collector_1_U (err : Int) (at_ : Int) (a2 : (List Dg)) (yR : Unit) (qa2R : (List Dg)) (hS : Sound P G (.call 54 [.sc (.int .i64 err), .sc (.int .i64 at_), .ptr 0 0] ⟨[(0, .cells [.sl (.row 0 2) a2.length (rows dgC a2)])], 1, [(0, a2.length)], 1⟩ (.ret (.tup [])) ⟨[(0, .cells [.sl (.row 0 2) qa2R.length (rows dgC qa2R)])], 1, [(0, qa2R.length)], 1⟩)) (u0 v0 : Nat) (hnb : [u0].Nodup) (hnt : ([v0] : List Nat).Nodup) : Cd.ok P G (.callU 54 [.sc (.int .i64 err), .sc (.int .i64 at_), .ptr u0 0] (.ret (.tup [])) [(u0, .cells [.sl (.row v0 2) a2.length (rows dgC a2)])] [(v0, a2.length)] [(u0, .cells [.sl (.row v0 2) qa2R.length (rows dgC qa2R)])] [(v0, qa2R.length)]) :=
 frameU (M := [.cells [.sl (.row 0 2) a2.length (rows dgC a2)]]) (M2 := [.cells [.sl (.row 0 2) qa2R.length (rows dgC qa2R)]]) (T := [a2.length]) (T2 := [qa2R.length]) (k := 1) (j := 1) Hd.plainG _ _ _ _ hS rfl rfl rfl rfl rfl hnb hnt rfl rfl (.cons (.cells (.cons (.row (by decide) (layDg.plC a2)) .nil)) .nil) (.cons (.cells (.cons (.row (by decide) (layDg.plC qa2R)) .nil)) .nil) (.cons (.pl rfl) (.cons (.pl rfl) (.cons (.ptr (by decide)) .nil))) (.pl rfl) (fun e he => by simp only [List.mem_singleton] at he; subst he; exact (.arg (.there (.there (.here .ptr)))))
theorem units_collector_1_step   (err : Int) (at_ : Int) (a2 : (List Dg)) (yR : Unit) (qa2R : (List Dg)) (h : units_collector_1_B  err at_ a2 = some (yR, qa2R)) : Sound P G (.call 54 [.sc (.int .i64 err), .sc (.int .i64 at_), .ptr 0 0] ⟨[(0, .cells [.sl (.row 0 2) a2.length (rows dgC a2)])], 1, [(0, a2.length)], 1⟩ (.ret (.tup [])) ⟨[(0, .cells [.sl (.row 0 2) qa2R.length (rows dgC qa2R)])], 1, [(0, qa2R.length)], 1⟩) := by
 unfold units_collector_1_B at h
 refine soundM Hd.mixed (WC_body Tryz.func54 b54 ?_)
 revert h
 refine cndI (fun hb1 => ?_) fun hb1 => ?_
 refine limAI fun hl1 => ?_
 intro h
 have hE := Option.some.inj h
 obtain ⟨hE0, hF0⟩ := Prod.mk.inj hE
 subst hE0 hF0
 exact go_endM Hd.plainG _ _ [1] [⟨.tup [], .tup [], (.plain rfl)⟩] [fbu [.sl (.row 0 2) ((a2 ++ [(⟨err, at_⟩ : Dg)]).length) (rows dgC (a2 ++ [(⟨err, at_⟩ : Dg)]))] (unC (unSl rfl (under_plainL _ _ (layDg.plC (a2 ++ [(⟨err, at_⟩ : Dg)])))) rfl)] _ _ (runS 300 [pb hb1, pgro (gro30 (.row 0 2) a2 [(⟨err, at_⟩ : Dg)] (o := .full) (n := 1) (ns := [.sc (.int .i64 err), .sc (.int .i64 at_)]) (layDg.wn [(⟨err, at_⟩ : Dg)] (.r (.r .nil))) rfl rfl (by simp) (by simpa using hl1))]) (by kernel_rfl)
 intro h
 have hE := Option.some.inj h
 obtain ⟨hE0, hF0⟩ := Prod.mk.inj hE
 subst hE0 hF0
 exact go_endM Hd.plainG _ _ [1] [⟨.tup [], .tup [], (.plain rfl)⟩] [fbu [.sl (.row 0 2) a2.length (rows dgC a2)] (unC (unSl rfl (under_plainL _ _ (layDg.plC a2))) rfl)] _ _ (runS 300 [pb hb1]) (by kernel_rfl)
noncomputable def units_equalm_L1  (units : Nat) (units_ : (List ByteArray)) (i0 : Nat)  : Option (Lp Unit Unit Bool) := (units_[i0]?).bind fun x1 => (idxN units ((0 : Nat) : Int)).bind fun k2 => (units_[k2]?).bind fun x3 => cond (eqB x1.data.toList x3.data.toList) (some (.nx ())) (some (.rt false))
noncomputable def units_equalm_B  (units : Nat) (units_ : (List ByteArray)) : Option Bool := (lim units (cntL (fun i x => units_equalm_L1  units units_ i ) (fun x => ()) units 0 ())).bind (lpK (fun (_ : Unit) => some true) (fun v => some v))
theorem units_equalm_U (units : Nat) (units_ : (List ByteArray)) (yR : Bool) (hS : Sound P G (.call 85 [.msl 0 0 units] ⟨[(0, (.cells (rows stC units_)))], 1, [], 0⟩ (.ret (.sc (.bool yR))) ⟨[(0, (.cells (rows stC units_)))], 1, [], 0⟩)) (u0 : Nat) (hnb : [u0].Nodup) (hnt : ([] : List Nat).Nodup) : Cd.ok P G (.callU 85 [.msl u0 0 units] (.ret (.sc (.bool yR))) [(u0, (.cells (rows stC units_)))] [] [(u0, (.cells (rows stC units_)))] []) :=
 frameU (M := [(.cells (rows stC units_))]) (M2 := [(.cells (rows stC units_))]) (T := []) (T2 := []) (k := 1) (j := 0) Hd.plainG _ _ _ _ hS rfl rfl rfl rfl rfl hnb hnt rfl rfl (.cons (.cells (.pl (layStr.plC units_))) .nil) (.cons (.cells (.pl (layStr.plC units_))) .nil) (.cons (.msl (by decide)) .nil) (.pl rfl) (fun e he => by simp only [List.mem_singleton] at he; subst he; exact (.arg (.here .msl)))
theorem units_equalm_step   (units : Nat) (units_ : (List ByteArray)) (yR : Bool) (h : units_equalm_B  units units_ = some yR) : Sound P G (.call 85 [.msl 0 0 units] ⟨[(0, (.cells (rows stC units_)))], 1, [], 0⟩ (.ret (.sc (.bool yR))) ⟨[(0, (.cells (rows stC units_)))], 1, [], 0⟩) := by
 unfold units_equalm_B at h
 refine soundM Hd.mixed (WC_body Tryz.func85 b85 ?_)
 revert h
 refine bndI fun res hres h => ?_
 have hlen := (limE hres).1
 replace hres := (limE hres).2
 refine go_at [] [0, 2, 5, 6, 7, 8, 15] 0 (sub B85 [1, 0, 1, 0, 0]) [.code (sub B85 [1, 1])] _ _ (runS 300 []) (by kernel_rfl) (cntM (fn := Tryz.f85) (m := 1) (s00 := ⟨[(0, (.cells (rows stC units_)))], 1, [], 0⟩) (fun v => .sc (.bool v)) (fun v => ⟨[(0, (.cells (rows stC units_)))], 1, [], 0⟩) 0 units (fun i0 (_ : Unit) (j0 : JJ) => frm 17 0 [(0, .msl 0 0 units), (5, .msl 0 0 units), (6, .sc (.int .i64 ((units : Nat) : Int))), (7, .sc (.int .i64 ((i0 : Nat) : Int)))] [2, 8, 15] 0 [] 0 j0) (fun (_ : Nat) (_ : Unit) (_ : JJ) => ⟨[(0, (.cells (rows stC units_)))], 1, [], 0⟩) (fun (j : JJ) => plainL j.2 = true) (fun (_ : Unit) (jx : JJ) => frm 17 0 [] [2, 8, 15] 0 [] 0 jx) (fun (_ : Unit) (_ : JJ) => ⟨[(0, (.cells (rows stC units_)))], 1, [], 0⟩) (fun (j : JJ) => plainL j.2 = true) ?_ ?_ hres ?_ ?_ ([.bool false], []) rfl)
 rintro ⟨⟩ j0 hj0 hq
 clear h hres
 have hge := Nat.le_refl units
 refine WL_rnd ?_
 exact go_ex Hd.plainG [4, 16, 30] [] [fbp (rows stC units_) (layStr.plC units_)] 0 _ _ (runS 300 [pb (B := ltI ((units : Nat) : Int) ((units : Nat) : Int)) (b := false) (ltF hge)]) (by kernel_rfl) (hq ([(jn j0 0), .bool false, (jn j0 2)], []) rfl)
 clear h hres
 rintro i0 ⟨⟩ j0 r hj0 hi0 h k
 refine WL_rnd ?_
 revert h
 show units_equalm_L1  units units_ i0  = some r → _
 unfold units_equalm_L1
 refine bndI fun x1 hx1 => ?_
 refine bndI fun k2 hk2 => ?_
 refine bndI fun x3 hx3 => ?_
 let o1 : List (PC P G) := [pb (B := ltI ((i0 : Nat) : Int) ((units : Nat) : Int)) (b := true) (ltT hi0), pix (ixm96 (id := 0) (n := units) (i := i0) (by have := ltI_T (ltT hi0); omega)), plb (ldm96 hx1), pix (ixmz96 (id := 0) hk2), plb (ldm96 hx3)]
 refine cndI (fun hb1 => ?_) fun hb1 => ?_
 rintro ⟨⟩
 exact go_nx Hd.plainG [0, 4, 10, 12, 14, 16, 30] [] [fbp (rows stC units_) (layStr.plC units_)] _ _ (runS 300 (o1 ++ [pn hb1, pinc i0 (by omega)])) (by kernel_rfl) (k ([(jn j0 0), .bool true, .bool false], []) rfl)
 rintro ⟨⟩
 exact go_retM Hd.plainG _ _ [0] [] [fbp (rows stC units_) (layStr.plC units_)] _ _ (runS 300 (o1 ++ [pn hb1])) (by kernel_rfl) (.rnd k)
 rintro ⟨⟩ rfl jx_4 hjx_4
 revert h
 clear hres
 dsimp only [lpK]
 intro h
 have hE := Option.some.inj h
 subst hE
 exact go_retM Hd.plainG _ _ [0] [] [fbp (rows stC units_) (layStr.plC units_)] _ _ (runX 300 []) (by kernel_rfl) .body
 rintro v rfl
 dsimp only [lpK] at h
 cases h
 exact .outer .body
noncomputable def units_operatem_B  (operator : ByteArray) (units : Nat) (units_ : (List ByteArray)) : Option ByteArray := (idxN units ((0 : Nat) : Int)).bind fun k1 => (units_[k1]?).bind fun x2 => (idxN units (wsub ((units : Nat) : Int) 1)).bind fun k3 => (units_[k3]?).bind fun x4 => cond (eqB operator.data.toList orS.data.toList) (cond (eqB x2.data.toList truthS.data.toList) ((units_equalm_B units units_).bind fun y5 => cond y5 (some truthS) (some ByteArray.empty)) (some ByteArray.empty)) (cond (eqB operator.data.toList andS.data.toList) (cond (eqB x2.data.toList truthS.data.toList) ((units_equalm_B units units_).bind fun y6 => cond y6 (some truthS) (some ByteArray.empty)) (some ByteArray.empty)) (cond (eqB operator.data.toList q3d3dS.data.toList) ((units_equalm_B units units_).bind fun y7 => cond y7 (some truthS) (some ByteArray.empty)) (cond (eqB operator.data.toList q213dS.data.toList) ((units_equalm_B units units_).bind fun y8 => cond y8 (some truthS) (some ByteArray.empty)) (cond (eqB operator.data.toList q3cS.data.toList) ((units_equalm_B units units_).bind fun y9 => cond y9 (cond (eqB x2.data.toList truthS.data.toList) (some ByteArray.empty) (some truthS)) (some ByteArray.empty)) (cond (eqB operator.data.toList q3c3dS.data.toList) ((units_equalm_B units units_).bind fun y10 => cond y10 (cond (eqB x2.data.toList truthS.data.toList) (some ByteArray.empty) (some truthS)) (some ByteArray.empty)) (cond (eqB operator.data.toList q2bS.data.toList) ((units_equalm_B units units_).bind fun y11 => cond y11 (cond (eqB x2.data.toList truthS.data.toList) (some ByteArray.empty) (some x2)) (some ByteArray.empty)) (cond (eqB operator.data.toList q2dS.data.toList) ((units_equalm_B units units_).bind fun y12 => cond y12 (cond (eqB x2.data.toList truthS.data.toList) (some ByteArray.empty) (some x2)) (some ByteArray.empty)) (cond (eqB operator.data.toList q2aS.data.toList) (cond (eqB x2.data.toList numberS.data.toList) (cond (eqB x4.data.toList truthS.data.toList) (some ByteArray.empty) (some x4)) (cond (eqB x4.data.toList numberS.data.toList) (cond (eqB x2.data.toList truthS.data.toList) (some ByteArray.empty) (some x2)) (some ByteArray.empty))) (cond (eqB operator.data.toList q2fS.data.toList) (cond (eqB x2.data.toList truthS.data.toList) (some ByteArray.empty) (some x2)) (cond (eqB operator.data.toList atS.data.toList) (cond (eqB x2.data.toList minutesS.data.toList) ((units_isCur_B x4).bind fun y13 => cond y13 (some x4) (some ByteArray.empty)) (some ByteArray.empty)) (some ByteArray.empty)))))))))))
theorem units_operatem_U (operator : ByteArray) (units : Nat) (units_ : (List ByteArray)) (yR : ByteArray) (hS : Sound P G (.call 55 [.sc (.string operator), .msl 0 0 units] ⟨[(0, (.cells (rows stC units_)))], 1, [], 0⟩ (.ret (.sc (.string yR))) ⟨[(0, (.cells (rows stC units_)))], 1, [], 0⟩)) (u0 : Nat) (hnb : [u0].Nodup) (hnt : ([] : List Nat).Nodup) : Cd.ok P G (.callU 55 [.sc (.string operator), .msl u0 0 units] (.ret (.sc (.string yR))) [(u0, (.cells (rows stC units_)))] [] [(u0, (.cells (rows stC units_)))] []) :=
 frameU (M := [(.cells (rows stC units_))]) (M2 := [(.cells (rows stC units_))]) (T := []) (T2 := []) (k := 1) (j := 0) Hd.plainG _ _ _ _ hS rfl rfl rfl rfl rfl hnb hnt rfl rfl (.cons (.cells (.pl (layStr.plC units_))) .nil) (.cons (.cells (.pl (layStr.plC units_))) .nil) (.cons (.pl rfl) (.cons (.msl (by decide)) .nil)) (.pl rfl) (fun e he => by simp only [List.mem_singleton] at he; subst he; exact (.arg (.there (.here .msl))))
theorem units_operatem_step   (operator : ByteArray) (units : Nat) (units_ : (List ByteArray)) (yR : ByteArray) (h : units_operatem_B  operator units units_ = some yR) : Sound P G (.call 55 [.sc (.string operator), .msl 0 0 units] ⟨[(0, (.cells (rows stC units_)))], 1, [], 0⟩ (.ret (.sc (.string yR))) ⟨[(0, (.cells (rows stC units_)))], 1, [], 0⟩) := by
 unfold units_operatem_B at h
 refine soundM Hd.mixed (WC_body Tryz.func55 b55 ?_)
 revert h
 refine bndI fun k1 hk1 => ?_
 refine bndI fun x2 hx2 => ?_
 refine bndI fun k3 hk3 => ?_
 refine bndI fun x4 hx4 => ?_
 let o1 : List (PC P G) := [pix (ixmz96 (id := 0) hk1), plb (ldm96 hx2), pk, pix (ixmz96 (id := 0) hk3), plb (ldm96 hx4)]
 refine cndI (fun hb1 => ?_) fun hb1 => ?_
 refine cndI (fun hb2 => ?_) fun hb2 => ?_
 refine bndI fun y5 hy5 => ?_
 refine cndI (fun hv => ?_) fun hv => ?_
 subst hv
 intro h
 have hE := Option.some.inj h
 subst hE
 exact go_retM Hd.plainG _ _ [0] [] [fbp (rows stC units_) (layStr.plC units_)] _ _ (runS 300 (o1 ++ [pb hb1, pn hb2, pcallU (units_equalm_U units units_ true (units_equalm_step units units_ true hy5) 0 (by decide) (by decide))])) (by kernel_rfl) .body
 subst hv
 intro h
 have hE := Option.some.inj h
 subst hE
 exact go_retM Hd.plainG _ _ [0] [] [fbp (rows stC units_) (layStr.plC units_)] _ _ (runS 300 (o1 ++ [pb hb1, pn hb2, pcallU (units_equalm_U units units_ false (units_equalm_step units units_ false hy5) 0 (by decide) (by decide))])) (by kernel_rfl) .body
 intro h
 have hE := Option.some.inj h
 subst hE
 exact go_retM Hd.plainG _ _ [0] [] [fbp (rows stC units_) (layStr.plC units_)] _ _ (runS 300 (o1 ++ [pb hb1, pn hb2])) (by kernel_rfl) .body
 let o2 : List (PC P G) := o1 ++ [pb hb1]
 refine cndI (fun hb3 => ?_) fun hb3 => ?_
 refine cndI (fun hb4 => ?_) fun hb4 => ?_
 refine bndI fun y6 hy6 => ?_
 refine cndI (fun hv => ?_) fun hv => ?_
 subst hv
 intro h
 have hE := Option.some.inj h
 subst hE
 exact go_retM Hd.plainG _ _ [0] [] [fbp (rows stC units_) (layStr.plC units_)] _ _ (runS 300 (o2 ++ [pb hb3, pn hb4, pcallU (units_equalm_U units units_ true (units_equalm_step units units_ true hy6) 0 (by decide) (by decide))])) (by kernel_rfl) .body
 subst hv
 intro h
 have hE := Option.some.inj h
 subst hE
 exact go_retM Hd.plainG _ _ [0] [] [fbp (rows stC units_) (layStr.plC units_)] _ _ (runS 300 (o2 ++ [pb hb3, pn hb4, pcallU (units_equalm_U units units_ false (units_equalm_step units units_ false hy6) 0 (by decide) (by decide))])) (by kernel_rfl) .body
 intro h
 have hE := Option.some.inj h
 subst hE
 exact go_retM Hd.plainG _ _ [0] [] [fbp (rows stC units_) (layStr.plC units_)] _ _ (runS 300 (o2 ++ [pb hb3, pn hb4])) (by kernel_rfl) .body
 let o3 : List (PC P G) := o2 ++ [pb hb3]
 refine cndI (fun hb5 => ?_) fun hb5 => ?_
 refine bndI fun y7 hy7 => ?_
 refine cndI (fun hv => ?_) fun hv => ?_
 subst hv
 intro h
 have hE := Option.some.inj h
 subst hE
 exact go_retM Hd.plainG _ _ [0] [] [fbp (rows stC units_) (layStr.plC units_)] _ _ (runS 300 (o3 ++ [pb hb5, pcallU (units_equalm_U units units_ true (units_equalm_step units units_ true hy7) 0 (by decide) (by decide))])) (by kernel_rfl) .body
 subst hv
 intro h
 have hE := Option.some.inj h
 subst hE
 exact go_retM Hd.plainG _ _ [0] [] [fbp (rows stC units_) (layStr.plC units_)] _ _ (runS 300 (o3 ++ [pb hb5, pcallU (units_equalm_U units units_ false (units_equalm_step units units_ false hy7) 0 (by decide) (by decide))])) (by kernel_rfl) .body
 let o4 : List (PC P G) := o3 ++ [pb hb5]
 refine cndI (fun hb6 => ?_) fun hb6 => ?_
 refine bndI fun y8 hy8 => ?_
 refine cndI (fun hv => ?_) fun hv => ?_
 subst hv
 intro h
 have hE := Option.some.inj h
 subst hE
 exact go_retM Hd.plainG _ _ [0] [] [fbp (rows stC units_) (layStr.plC units_)] _ _ (runS 300 (o4 ++ [pb hb6, pcallU (units_equalm_U units units_ true (units_equalm_step units units_ true hy8) 0 (by decide) (by decide))])) (by kernel_rfl) .body
 subst hv
 intro h
 have hE := Option.some.inj h
 subst hE
 exact go_retM Hd.plainG _ _ [0] [] [fbp (rows stC units_) (layStr.plC units_)] _ _ (runS 300 (o4 ++ [pb hb6, pcallU (units_equalm_U units units_ false (units_equalm_step units units_ false hy8) 0 (by decide) (by decide))])) (by kernel_rfl) .body
 let o5 : List (PC P G) := o4 ++ [pb hb6]
 refine cndI (fun hb7 => ?_) fun hb7 => ?_
 refine bndI fun y9 hy9 => ?_
 refine cndI (fun hv => ?_) fun hv => ?_
 subst hv
 let o6 : List (PC P G) := o5 ++ [pb hb7, pcallU (units_equalm_U units units_ true (units_equalm_step units units_ true hy9) 0 (by decide) (by decide))]
 refine cndI (fun hb8 => ?_) fun hb8 => ?_
 intro h
 have hE := Option.some.inj h
 subst hE
 exact go_retM Hd.plainG _ _ [0] [] [fbp (rows stC units_) (layStr.plC units_)] _ _ (runS 300 (o6 ++ [pb hb8])) (by kernel_rfl) .body
 intro h
 have hE := Option.some.inj h
 subst hE
 exact go_retM Hd.plainG _ _ [0] [] [fbp (rows stC units_) (layStr.plC units_)] _ _ (runS 300 (o6 ++ [pb hb8])) (by kernel_rfl) .body
 subst hv
 intro h
 have hE := Option.some.inj h
 subst hE
 exact go_retM Hd.plainG _ _ [0] [] [fbp (rows stC units_) (layStr.plC units_)] _ _ (runS 300 (o5 ++ [pb hb7, pcallU (units_equalm_U units units_ false (units_equalm_step units units_ false hy9) 0 (by decide) (by decide))])) (by kernel_rfl) .body
 let o7 : List (PC P G) := o5 ++ [pb hb7]
 refine cndI (fun hb9 => ?_) fun hb9 => ?_
 refine bndI fun y10 hy10 => ?_
 refine cndI (fun hv => ?_) fun hv => ?_
 subst hv
 let o8 : List (PC P G) := o7 ++ [pb hb9, pcallU (units_equalm_U units units_ true (units_equalm_step units units_ true hy10) 0 (by decide) (by decide))]
 refine cndI (fun hb10 => ?_) fun hb10 => ?_
 intro h
 have hE := Option.some.inj h
 subst hE
 exact go_retM Hd.plainG _ _ [0] [] [fbp (rows stC units_) (layStr.plC units_)] _ _ (runS 300 (o8 ++ [pb hb10])) (by kernel_rfl) .body
 intro h
 have hE := Option.some.inj h
 subst hE
 exact go_retM Hd.plainG _ _ [0] [] [fbp (rows stC units_) (layStr.plC units_)] _ _ (runS 300 (o8 ++ [pb hb10])) (by kernel_rfl) .body
 subst hv
 intro h
 have hE := Option.some.inj h
 subst hE
 exact go_retM Hd.plainG _ _ [0] [] [fbp (rows stC units_) (layStr.plC units_)] _ _ (runS 300 (o7 ++ [pb hb9, pcallU (units_equalm_U units units_ false (units_equalm_step units units_ false hy10) 0 (by decide) (by decide))])) (by kernel_rfl) .body
 let o9 : List (PC P G) := o7 ++ [pb hb9]
 refine cndI (fun hb11 => ?_) fun hb11 => ?_
 refine bndI fun y11 hy11 => ?_
 refine cndI (fun hv => ?_) fun hv => ?_
 subst hv
 let o10 : List (PC P G) := o9 ++ [pb hb11, pcallU (units_equalm_U units units_ true (units_equalm_step units units_ true hy11) 0 (by decide) (by decide))]
 refine cndI (fun hb12 => ?_) fun hb12 => ?_
 intro h
 have hE := Option.some.inj h
 subst hE
 exact go_retM Hd.plainG _ _ [0] [] [fbp (rows stC units_) (layStr.plC units_)] _ _ (runS 300 (o10 ++ [pb hb12])) (by kernel_rfl) .body
 intro h
 have hE := Option.some.inj h
 subst hE
 exact go_retM Hd.plainG _ _ [0] [] [fbp (rows stC units_) (layStr.plC units_)] _ _ (runS 300 (o10 ++ [pb hb12])) (by kernel_rfl) .body
 subst hv
 intro h
 have hE := Option.some.inj h
 subst hE
 exact go_retM Hd.plainG _ _ [0] [] [fbp (rows stC units_) (layStr.plC units_)] _ _ (runS 300 (o9 ++ [pb hb11, pcallU (units_equalm_U units units_ false (units_equalm_step units units_ false hy11) 0 (by decide) (by decide))])) (by kernel_rfl) .body
 let o11 : List (PC P G) := o9 ++ [pb hb11]
 refine cndI (fun hb13 => ?_) fun hb13 => ?_
 refine bndI fun y12 hy12 => ?_
 refine cndI (fun hv => ?_) fun hv => ?_
 subst hv
 let o12 : List (PC P G) := o11 ++ [pb hb13, pcallU (units_equalm_U units units_ true (units_equalm_step units units_ true hy12) 0 (by decide) (by decide))]
 refine cndI (fun hb14 => ?_) fun hb14 => ?_
 intro h
 have hE := Option.some.inj h
 subst hE
 exact go_retM Hd.plainG _ _ [0] [] [fbp (rows stC units_) (layStr.plC units_)] _ _ (runS 300 (o12 ++ [pb hb14])) (by kernel_rfl) .body
 intro h
 have hE := Option.some.inj h
 subst hE
 exact go_retM Hd.plainG _ _ [0] [] [fbp (rows stC units_) (layStr.plC units_)] _ _ (runS 300 (o12 ++ [pb hb14])) (by kernel_rfl) .body
 subst hv
 intro h
 have hE := Option.some.inj h
 subst hE
 exact go_retM Hd.plainG _ _ [0] [] [fbp (rows stC units_) (layStr.plC units_)] _ _ (runS 300 (o11 ++ [pb hb13, pcallU (units_equalm_U units units_ false (units_equalm_step units units_ false hy12) 0 (by decide) (by decide))])) (by kernel_rfl) .body
 let o13 : List (PC P G) := o11 ++ [pb hb13]
 refine cndI (fun hb15 => ?_) fun hb15 => ?_
 refine cndI (fun hb16 => ?_) fun hb16 => ?_
 refine cndI (fun hb17 => ?_) fun hb17 => ?_
 intro h
 have hE := Option.some.inj h
 subst hE
 exact go_retM Hd.plainG _ _ [0] [] [fbp (rows stC units_) (layStr.plC units_)] _ _ (runS 300 (o13 ++ [pb hb15, pb hb16, pb hb17])) (by kernel_rfl) .body
 intro h
 have hE := Option.some.inj h
 subst hE
 exact go_retM Hd.plainG _ _ [0] [] [fbp (rows stC units_) (layStr.plC units_)] _ _ (runS 300 (o13 ++ [pb hb15, pb hb16, pb hb17])) (by kernel_rfl) .body
 refine cndI (fun hb18 => ?_) fun hb18 => ?_
 refine cndI (fun hb19 => ?_) fun hb19 => ?_
 intro h
 have hE := Option.some.inj h
 subst hE
 exact go_retM Hd.plainG _ _ [0] [] [fbp (rows stC units_) (layStr.plC units_)] _ _ (runS 300 (o13 ++ [pb hb15, pb hb16, pn hb18, pb hb19])) (by kernel_rfl) .body
 intro h
 have hE := Option.some.inj h
 subst hE
 exact go_retM Hd.plainG _ _ [0] [] [fbp (rows stC units_) (layStr.plC units_)] _ _ (runS 300 (o13 ++ [pb hb15, pb hb16, pn hb18, pb hb19])) (by kernel_rfl) .body
 intro h
 have hE := Option.some.inj h
 subst hE
 exact go_retM Hd.plainG _ _ [0] [] [fbp (rows stC units_) (layStr.plC units_)] _ _ (runS 300 (o13 ++ [pb hb15, pb hb16, pn hb18])) (by kernel_rfl) .body
 refine cndI (fun hb20 => ?_) fun hb20 => ?_
 refine cndI (fun hb21 => ?_) fun hb21 => ?_
 intro h
 have hE := Option.some.inj h
 subst hE
 exact go_retM Hd.plainG _ _ [0] [] [fbp (rows stC units_) (layStr.plC units_)] _ _ (runS 300 (o13 ++ [pb hb15, pb hb20, pb hb21])) (by kernel_rfl) .body
 intro h
 have hE := Option.some.inj h
 subst hE
 exact go_retM Hd.plainG _ _ [0] [] [fbp (rows stC units_) (layStr.plC units_)] _ _ (runS 300 (o13 ++ [pb hb15, pb hb20, pb hb21])) (by kernel_rfl) .body
 refine cndI (fun hb22 => ?_) fun hb22 => ?_
 refine cndI (fun hb23 => ?_) fun hb23 => ?_
 refine bndI fun y13 hy13 => ?_
 refine cndI (fun hv => ?_) fun hv => ?_
 subst hv
 intro h
 have hE := Option.some.inj h
 subst hE
 exact go_retM Hd.plainG _ _ [0] [] [fbp (rows stC units_) (layStr.plC units_)] _ _ (runS 300 (o13 ++ [pb hb15, pb hb20, pb hb22, pb hb23, pcall (units_isCur_step x4 true hy13)])) (by kernel_rfl) .body
 subst hv
 intro h
 have hE := Option.some.inj h
 subst hE
 exact go_retM Hd.plainG _ _ [0] [] [fbp (rows stC units_) (layStr.plC units_)] _ _ (runS 300 (o13 ++ [pb hb15, pb hb20, pb hb22, pb hb23, pcall (units_isCur_step x4 false hy13)])) (by kernel_rfl) .body
 intro h
 have hE := Option.some.inj h
 subst hE
 exact go_retM Hd.plainG _ _ [0] [] [fbp (rows stC units_) (layStr.plC units_)] _ _ (runS 300 (o13 ++ [pb hb15, pb hb20, pb hb22, pb hb23])) (by kernel_rfl) .body
 intro h
 have hE := Option.some.inj h
 subst hE
 exact go_retM Hd.plainG _ _ [0] [] [fbp (rows stC units_) (layStr.plC units_)] _ _ (runS 300 (o13 ++ [pb hb15, pb hb20, pb hb22])) (by kernel_rfl) .body
theorem units_scope_infer_1_U (s : Sc) (e : Nd) (report : (List Dg)) (yR : ByteArray) (qreportR : (List Dg)) (hS : Sound P G (.call 32 [.agg [.mp 0, .mp 1, .mp 2], .agg (ndC e), .fn (.func 54) [] [.ptr 3 0]] ⟨[(3, .cells [.sl (.row 0 2) report.length (rows dgC report)]), (2, (mbis s.articles)), (1, (mbss s.lines)), (0, (mbss s.facts))], 4, [(0, report.length)], 1⟩ (.ret (.sc (.string yR))) ⟨[(3, .cells [.sl (.row 0 2) qreportR.length (rows dgC qreportR)]), (2, (mbis s.articles)), (1, (mbss s.lines)), (0, (mbss s.facts))], 4, [(0, qreportR.length)], 1⟩)) (u0 u1 u2 u3 v0 : Nat) (hnb : [u0, u1, u2, u3].Nodup) (hnt : ([v0] : List Nat).Nodup) : Cd.ok P G (.callU 32 [.agg [.mp u0, .mp u1, .mp u2], .agg (ndC e), .fn (.func 54) [] [.ptr u3 0]] (.ret (.sc (.string yR))) [(u0, (mbss s.facts)), (u1, (mbss s.lines)), (u2, (mbis s.articles)), (u3, .cells [.sl (.row v0 2) report.length (rows dgC report)])] [(v0, report.length)] [(u0, (mbss s.facts)), (u1, (mbss s.lines)), (u2, (mbis s.articles)), (u3, .cells [.sl (.row v0 2) qreportR.length (rows dgC qreportR)])] [(v0, qreportR.length)]) :=
 frameU (M := [(mbss s.facts), (mbss s.lines), (mbis s.articles), .cells [.sl (.row 0 2) report.length (rows dgC report)]]) (M2 := [(mbss s.facts), (mbss s.lines), (mbis s.articles), .cells [.sl (.row 0 2) qreportR.length (rows dgC qreportR)]]) (T := [report.length]) (T2 := [qreportR.length]) (k := 4) (j := 1) Hd.plainG _ _ _ _ hS rfl rfl rfl rfl rfl hnb hnt rfl rfl (.cons (mB_rn (fun _ => rfl)) (.cons (mB_rn (fun _ => rfl)) (.cons (mB_rn (fun _ => rfl)) (.cons (.cells (.cons (.row (by decide) (layDg.plC report)) .nil)) .nil)))) (.cons (mB_rn (fun _ => rfl)) (.cons (mB_rn (fun _ => rfl)) (.cons (mB_rn (fun _ => rfl)) (.cons (.cells (.cons (.row (by decide) (layDg.plC qreportR)) .nil)) .nil)))) (.cons (.agg (.cons (.mp (by decide)) (.cons (.mp (by decide)) (.cons (.mp (by decide)) .nil)))) (.cons (.pl (layNd.plG e)) (.cons (.fn (.pl rfl) (.cons (.ptr (by decide)) .nil)) .nil))) (.pl rfl) (by
   intro e he
   simp only [List.mem_cons, List.not_mem_nil, or_false] at he
   rcases he with rfl | rfl | rfl | rfl
   · exact (.arg (.here (.agg (.here .mp))))
   · exact (.arg (.here (.agg (.there (.here .mp)))))
   · exact (.arg (.here (.agg (.there (.there (.here .mp))))))
   · exact (.arg (.there (.there (.here (.fn2 (.here .ptr))))))
   )
noncomputable def B32 : Code := bodyOf Tryz.f32
theorem b32 : Tryz.f32.body = some B32 := by kernel_rfl
noncomputable def units_scope_infer_1_L1 (r_units_scope_infer_1 : Sc → Nd → (List Dg) → Option (ByteArray × (List Dg))) (s : Sc) (i0 : Nat) (e0 : Nd) (whole8 : Bool) (w6_l : (List ByteArray)) (w3_0 : (List Dg)) : Option (Lp (Bool × (List ByteArray) × (List Dg)) (Bool × (List ByteArray) × (List Dg)) (ByteArray × (List Dg))) := (r_units_scope_infer_1 s e0 w3_0).bind fun (y2a, y2b) => (w6_l[i0]?).bind fun x3 => cond whole8 (((w6_l.set i0 y2a)[i0]?).bind fun x4 => cond (eqB x4.data.toList ByteArray.empty.data.toList) (some (.nx (false, (w6_l.set i0 y2a), y2b))) (some (.nx (true, (w6_l.set i0 y2a), y2b)))) (some (.nx (false, (w6_l.set i0 y2a), y2b)))
noncomputable def units_scope_infer_1_B (r_units_scope_infer_1 : Sc → Nd → (List Dg) → Option (ByteArray × (List Dg))) (s : Sc) (e : Nd) (report : (List Dg)) : Option (ByteArray × (List Dg)) := limM (e.kids.length) ((lim e.kids.length (foldL (fun i y x => units_scope_infer_1_L1 r_units_scope_infer_1 s i y x.1 x.2.1 x.2.2) (fun x => (x.1, x.2.1, x.2.2)) (e.kids.drop 0) 0 (true, (List.replicate e.kids.length ByteArray.empty), report))).bind (lpK (fun ((whole8_5, w6_l_5, w3_0_5) : (Bool × (List ByteArray) × (List Dg))) => cond whole8_5 (cond (eqI e.kind 11) (cond (eqB e.unit.data.toList ByteArray.empty.data.toList) ((units_collector_1_B 11 e.att w3_0_5).bind fun (y6a, y6b) => some (e.unit, y6b)) (some (e.unit, w3_0_5))) (cond (eqI e.kind 12) (cond (eqB ((s.facts.get e.name).getD ByteArray.empty).data.toList ByteArray.empty.data.toList) ((units_collector_1_B 91 e.att w3_0_5).bind fun (y7a, y7b) => some (((s.facts.get e.name).getD ByteArray.empty), y7b)) (some (((s.facts.get e.name).getD ByteArray.empty), w3_0_5))) (cond (eqI e.kind 13) (cond (eqB ((s.lines.get ((s.articles.get e.n).getD ByteArray.empty)).getD ByteArray.empty).data.toList ByteArray.empty.data.toList) ((units_collector_1_B 91 e.att w3_0_5).bind fun (y8a, y8b) => some (((s.lines.get ((s.articles.get e.n).getD ByteArray.empty)).getD ByteArray.empty), y8b)) (some (((s.lines.get ((s.articles.get e.n).getD ByteArray.empty)).getD ByteArray.empty), w3_0_5))) (cond (eqI e.kind 14) (cond (eqB numberS.data.toList ByteArray.empty.data.toList) ((units_collector_1_B 11 e.att w3_0_5).bind fun (y9a, y9b) => some (numberS, y9b)) (some (numberS, w3_0_5))) (cond (eqI e.kind 15) ((units_operatem_B andS e.kids.length w6_l_5).bind fun y10 => cond (eqB y10.data.toList ByteArray.empty.data.toList) ((units_collector_1_B 11 e.att w3_0_5).bind fun (y11a, y11b) => some (y10, y11b)) (some (y10, w3_0_5))) (cond (eqI e.kind 16) ((units_operatem_B e.name e.kids.length w6_l_5).bind fun y12 => cond (eqB y12.data.toList ByteArray.empty.data.toList) ((units_collector_1_B 11 e.att w3_0_5).bind fun (y13a, y13b) => some (y12, y13b)) (some (y12, w3_0_5))) (cond (eqI e.kind 17) ((units_operatem_B q2bS e.kids.length w6_l_5).bind fun y14 => cond (eqB y14.data.toList ByteArray.empty.data.toList) ((units_collector_1_B 11 e.att w3_0_5).bind fun (y15a, y15b) => some (y14, y15b)) (some (y14, w3_0_5))) (cond (eqI e.kind 18) ((idxN e.kids.length ((0 : Nat) : Int)).bind fun k16 => (w6_l_5[k16]?).bind fun x17 => (units_isCur_B x17).bind fun y18 => cond y18 (cond (eqB x17.data.toList ByteArray.empty.data.toList) ((units_collector_1_B 11 e.att w3_0_5).bind fun (y19a, y19b) => some (x17, y19b)) (some (x17, w3_0_5))) (cond (eqB ByteArray.empty.data.toList ByteArray.empty.data.toList) ((units_collector_1_B 11 e.att w3_0_5).bind fun (y20a, y20b) => some (ByteArray.empty, y20b)) (some (ByteArray.empty, w3_0_5)))) (cond (eqB ByteArray.empty.data.toList ByteArray.empty.data.toList) ((units_collector_1_B 11 e.att w3_0_5).bind fun (y21a, y21b) => some (ByteArray.empty, y21b)) (some (ByteArray.empty, w3_0_5))))))))))) (some (ByteArray.empty, w3_0_5))) (fun v => some v)))
theorem units_scope_infer_1_step (r_units_scope_infer_1 : Sc → Nd → (List Dg) → Option (ByteArray × (List Dg))) (hr_units_scope_infer_1 : ∀ (s : Sc) (e : Nd) (report : (List Dg)) (yR : ByteArray) (qreportR : (List Dg)), r_units_scope_infer_1 s e report = some (yR, qreportR) → Sound P G (.call 32 [.agg [.mp 0, .mp 1, .mp 2], .agg (ndC e), .fn (.func 54) [] [.ptr 3 0]] ⟨[(3, .cells [.sl (.row 0 2) report.length (rows dgC report)]), (2, (mbis s.articles)), (1, (mbss s.lines)), (0, (mbss s.facts))], 4, [(0, report.length)], 1⟩ (.ret (.sc (.string yR))) ⟨[(3, .cells [.sl (.row 0 2) qreportR.length (rows dgC qreportR)]), (2, (mbis s.articles)), (1, (mbss s.lines)), (0, (mbss s.facts))], 4, [(0, qreportR.length)], 1⟩)) (s : Sc) (e : Nd) (report : (List Dg)) (yR : ByteArray) (qreportR : (List Dg)) (h : units_scope_infer_1_B r_units_scope_infer_1 s e report = some (yR, qreportR)) : Sound P G (.call 32 [.agg [.mp 0, .mp 1, .mp 2], .agg (ndC e), .fn (.func 54) [] [.ptr 3 0]] ⟨[(3, .cells [.sl (.row 0 2) report.length (rows dgC report)]), (2, (mbis s.articles)), (1, (mbss s.lines)), (0, (mbss s.facts))], 4, [(0, report.length)], 1⟩ (.ret (.sc (.string yR))) ⟨[(3, .cells [.sl (.row 0 2) qreportR.length (rows dgC qreportR)]), (2, (mbis s.articles)), (1, (mbss s.lines)), (0, (mbss s.facts))], 4, [(0, qreportR.length)], 1⟩) := by
 unfold units_scope_infer_1_B at h
 refine soundM Hd.mixed (WC_body Tryz.func32 b32 ?_)
 revert h
 refine limMI fun hl1 => ?_
 refine bndI fun res hres h => ?_
 have hlen := (limE hres).1
 replace hres := (limE hres).2
 refine go_at [] [0, 1, 2, 3, 4, 7, 8, 18, 19, 20, 21, 24, 27, 28, 32, 33, 38, 39, 41, 42, 45, 46, 49, 50, 56, 57, 66, 67, 68, 69, 72, 73, 78, 79, 82, 83, 87, 92] 0 (sub B32 [1, 1, 1, 0, 1, 0, 0]) [.code (sub B32 [1, 1, 1, 1])] _ _ (runS 300 [pmb (mkm96 (n := e.kids.length) hl1)]) (by kernel_rfl) (foldM (fn := Tryz.f32) (m := 4) (s00 := ⟨[(3, .cells [.sl (.row 0 2) report.length (rows dgC report)]), (2, (mbis s.articles)), (1, (mbss s.lines)), (0, (mbss s.facts))], 4, [(0, report.length)], 1⟩) (fun v => .sc (.string v.1)) (fun v => ⟨[(3, .cells [.sl (.row 0 2) v.2.length (rows dgC v.2)]), (2, (mbis s.articles)), (1, (mbss s.lines)), (0, (mbss s.facts))], 4, [(0, v.2.length)], 1⟩) 0 e.kids (fun i0 ((whole8, w6_l, w3_0) : (Bool × (List ByteArray) × (List Dg))) (j0 : JJ) => frm 99 0 [(2, .fn (.func 54) [] [.ptr 3 0]), (3, .ptr 4 0), (4, .ptr 5 0), (7, .msl 6 0 e.kids.length), (8, .sc (.bool whole8)), (18, .sl .lost e.kids.length (ndsC e.kids)), (19, .sc (.int .i64 ((e.kids.length : Nat) : Int))), (20, .sc (.int .i64 ((i0 : Nat) : Int)))] [21, 32, 33, 38, 39, 41, 42, 45, 46, 49, 50, 56, 57, 66, 67, 68, 69, 72, 73, 78, 79, 82, 83, 87, 92] 0 [0, 1, 24, 27, 28] 0 j0) (fun (_ : Nat) ((whole8, w6_l, w3_0) : (Bool × (List ByteArray) × (List Dg))) (_ : JJ) => ⟨[(6, (.cells (rows stC w6_l))), (5, .cells (ndC e)), (4, .cells [.mp 0, .mp 1, .mp 2]), (3, .cells [.sl (.row 0 2) w3_0.length (rows dgC w3_0)]), (2, (mbis s.articles)), (1, (mbss s.lines)), (0, (mbss s.facts))], 7, [(0, w3_0.length)], 1⟩) (fun (j : JJ) => underL 7 1 j.2 = true) (fun ((whole8, w6_l, w3_0) : (Bool × (List ByteArray) × (List Dg))) (jx : JJ) => frm 99 0 [(2, .fn (.func 54) [] [.ptr 3 0]), (3, .ptr 4 0), (4, .ptr 5 0), (7, .msl 6 0 e.kids.length), (8, .sc (.bool whole8))] [21, 32, 33, 38, 39, 41, 42, 45, 46, 49, 50, 56, 57, 66, 67, 68, 69, 72, 73, 78, 79, 82, 83, 87, 92] 0 [0, 1, 24, 27, 28] 0 jx) (fun ((whole8, w6_l, w3_0) : (Bool × (List ByteArray) × (List Dg))) (_ : JJ) => ⟨[(6, (.cells (rows stC w6_l))), (5, .cells (ndC e)), (4, .cells [.mp 0, .mp 1, .mp 2]), (3, .cells [.sl (.row 0 2) w3_0.length (rows dgC w3_0)]), (2, (mbis s.articles)), (1, (mbss s.lines)), (0, (mbss s.facts))], 7, [(0, w3_0.length)], 1⟩) (fun (j : JJ) => underL 7 1 j.2 = true) ?_ ?_ 0 hres ?_ ?_ ([], [.agg [.mp 0, .mp 1, .mp 2], .agg (ndC e), .sc undef, .sc undef, .sc undef]) (unC (unC rfl (unC rfl (unC rfl rfl))) (unC (under_plain _ _ (layNd.plG e)) (unC rfl (unC rfl (unC rfl rfl))))))
 rintro i0 ⟨whole8, w6_l, w3_0⟩ j0 hj0 hge hq
 clear h hres
 refine WL_rnd ?_
 exact go_ex Hd.plainG [1, 3, 5, 6, 8, 14, 16, 42, 49, 55, 57, 64, 66, 76, 78, 82, 84, 90, 92, 98, 100, 112, 114, 132, 134, 136, 138, 144, 146, 156, 158, 164, 166, 174, 184] [⟨(gn j0 0), (gn j0 0), (.under (under_mono (Nat.le_of_ble_eq_true rfl) (Nat.le_of_ble_eq_true rfl) (gn_un hj0 0)))⟩, ⟨(gn j0 1), (gn j0 1), (.under (under_mono (Nat.le_of_ble_eq_true rfl) (Nat.le_of_ble_eq_true rfl) (gn_un hj0 1)))⟩, ⟨.fn (.func 54) [] [.ptr 3 0], .fn (.func 54) [] [.ptr 3 0], (.under (unFn rfl (unC rfl rfl)))⟩, ⟨(gn j0 2), (gn j0 2), (.under (under_mono (Nat.le_of_ble_eq_true rfl) (Nat.le_of_ble_eq_true rfl) (gn_un hj0 2)))⟩, ⟨(gn j0 3), (gn j0 3), (.under (under_mono (Nat.le_of_ble_eq_true rfl) (Nat.le_of_ble_eq_true rfl) (gn_un hj0 3)))⟩, ⟨(gn j0 4), (gn j0 4), (.under (under_mono (Nat.le_of_ble_eq_true rfl) (Nat.le_of_ble_eq_true rfl) (gn_un hj0 4)))⟩] [fbp (rows stC w6_l) (layStr.plC w6_l), fbp (ndC e) (layNd.pl e), fbu [.mp 0, .mp 1, .mp 2] (unC rfl (unC rfl (unC rfl rfl))), fbu [.sl (.row 0 2) w3_0.length (rows dgC w3_0)] (unC (unSl rfl (under_plainL _ _ (layDg.plC w3_0))) rfl), ⟨(mbis s.articles), (mbis s.articles), (mB_fits (fun _ => rfl))⟩, ⟨(mbss s.lines), (mbss s.lines), (mB_fits (fun _ => rfl))⟩, ⟨(mbss s.facts), (mbss s.facts), (mB_fits (fun _ => rfl))⟩] 0 _ _ (runS 300 [pb (B := ltI ((i0 : Nat) : Int) ((e.kids.length : Nat) : Int)) (b := false) (ltF hge)]) (by kernel_rfl) (hq ([.bool false, (jn j0 1), (jn j0 2), (jn j0 3), (jn j0 4), (jn j0 5), (jn j0 6), (jn j0 7), (jn j0 8), (jn j0 9), (jn j0 10), (jn j0 11), (jn j0 12), (jn j0 13), (jn j0 14), (jn j0 15), (jn j0 16), (jn j0 17), (jn j0 18), (jn j0 19), (jn j0 20), (jn j0 21), (jn j0 22), (jn j0 23), (jn j0 24)], [(gn j0 0), (gn j0 1), (gn j0 2), (gn j0 3), (gn j0 4)]) (unC (under_mono (Nat.le_of_ble_eq_true rfl) (Nat.le_of_ble_eq_true rfl) (gn_un hj0 0)) (unC (under_mono (Nat.le_of_ble_eq_true rfl) (Nat.le_of_ble_eq_true rfl) (gn_un hj0 1)) (unC (under_mono (Nat.le_of_ble_eq_true rfl) (Nat.le_of_ble_eq_true rfl) (gn_un hj0 2)) (unC (under_mono (Nat.le_of_ble_eq_true rfl) (Nat.le_of_ble_eq_true rfl) (gn_un hj0 3)) (unC (under_mono (Nat.le_of_ble_eq_true rfl) (Nat.le_of_ble_eq_true rfl) (gn_un hj0 4)) rfl))))))
 clear h hres
 rintro i0 e0 ⟨whole8, w6_l, w3_0⟩ j0 r hj0 he0 hi0 h k
 refine WL_rnd ?_
 revert h
 show units_scope_infer_1_L1 r_units_scope_infer_1 s i0 e0 whole8 w6_l w3_0 = some r → _
 unfold units_scope_infer_1_L1
 refine bndI ?_
 rintro ⟨y2a, y2b⟩ hy2
 dsimp only
 refine bndI fun x3 hx3 => ?_
 let o1 : List (PC P G) := [pb (B := ltI ((i0 : Nat) : Int) ((e.kids.length : Nat) : Int)) (b := true) (ltT hi0), pix (ix25 .lost he0), pcallU (units_scope_infer_1_U s e0 w3_0 y2a y2b (hr_units_scope_infer_1 s e0 w3_0 y2a y2b hy2) 0 1 2 3 0 (by decide) (by decide)), pix (ixm96 (id := 6) (n := e.kids.length) (i := i0) (by have := ltI_T (ltT hi0); omega)), psb (stm96 hx3 y2a)]
 refine cndI (fun hv => ?_) fun hv => ?_
 subst hv
 refine bndI fun x4 hx4 => ?_
 let o2 : List (PC P G) := o1 ++ [pix (ixm96 (id := 6) (n := e.kids.length) (i := i0) (by have := ltI_T (ltT hi0); omega)), plb (ldm96 hx4)]
 refine cndI (fun hb1 => ?_) fun hb1 => ?_
 rintro ⟨⟩
 exact go_nx Hd.plainG [1, 3, 5, 6, 8, 14, 16, 37, 38, 40, 42, 49, 55, 57, 64, 66, 76, 78, 82, 84, 90, 92, 98, 100, 112, 114, 132, 134, 136, 138, 144, 146, 156, 158, 164, 166, 174, 184] [⟨(gn j0 0), (gn j0 0), (.under (under_mono (Nat.le_of_ble_eq_true rfl) (Nat.le_of_ble_eq_true rfl) (gn_un hj0 0)))⟩, ⟨(gn j0 1), (gn j0 1), (.under (under_mono (Nat.le_of_ble_eq_true rfl) (Nat.le_of_ble_eq_true rfl) (gn_un hj0 1)))⟩, ⟨.fn (.func 54) [] [.ptr 3 0], .fn (.func 54) [] [.ptr 3 0], (.under (unFn rfl (unC rfl rfl)))⟩, fq (layNd.plS e.kids), fq (layNd.plG e0), ⟨.agg [.mp 0, .mp 1, .mp 2], .agg [.mp 0, .mp 1, .mp 2], (.under (unC rfl (unC rfl (unC rfl rfl))))⟩, fq (layNd.plG e0)] [fbp (rows stC (w6_l.set i0 y2a)) (layStr.plC (w6_l.set i0 y2a)), fbp (ndC e) (layNd.pl e), fbu [.mp 0, .mp 1, .mp 2] (unC rfl (unC rfl (unC rfl rfl))), fbu [.sl (.row 0 2) y2b.length (rows dgC y2b)] (unC (unSl rfl (under_plainL _ _ (layDg.plC y2b))) rfl), ⟨(mbis s.articles), (mbis s.articles), (mB_fits (fun _ => rfl))⟩, ⟨(mbss s.lines), (mbss s.lines), (mB_fits (fun _ => rfl))⟩, ⟨(mbss s.facts), (mbss s.facts), (mB_fits (fun _ => rfl))⟩] _ _ (runS 300 (o2 ++ [pn hb1, pinc i0 (by omega)])) (by kernel_rfl) (k ([.bool true, .bool true, .bool true, .bool false, .bool false, (jn j0 5), (jn j0 6), (jn j0 7), (jn j0 8), (jn j0 9), (jn j0 10), (jn j0 11), (jn j0 12), (jn j0 13), (jn j0 14), (jn j0 15), (jn j0 16), (jn j0 17), (jn j0 18), (jn j0 19), (jn j0 20), (jn j0 21), (jn j0 22), (jn j0 23), (jn j0 24)], [(gn j0 0), (gn j0 1), .agg (ndC e0), .agg [.mp 0, .mp 1, .mp 2], .agg (ndC e0)]) (unC (under_mono (Nat.le_of_ble_eq_true rfl) (Nat.le_of_ble_eq_true rfl) (gn_un hj0 0)) (unC (under_mono (Nat.le_of_ble_eq_true rfl) (Nat.le_of_ble_eq_true rfl) (gn_un hj0 1)) (unC (under_plain _ _ (layNd.plG e0)) (unC (unC rfl (unC rfl (unC rfl rfl))) (unC (under_plain _ _ (layNd.plG e0)) rfl))))))
 rintro ⟨⟩
 exact go_nx Hd.plainG [1, 3, 5, 6, 8, 14, 16, 37, 38, 40, 42, 49, 55, 57, 64, 66, 76, 78, 82, 84, 90, 92, 98, 100, 112, 114, 132, 134, 136, 138, 144, 146, 156, 158, 164, 166, 174, 184] [⟨(gn j0 0), (gn j0 0), (.under (under_mono (Nat.le_of_ble_eq_true rfl) (Nat.le_of_ble_eq_true rfl) (gn_un hj0 0)))⟩, ⟨(gn j0 1), (gn j0 1), (.under (under_mono (Nat.le_of_ble_eq_true rfl) (Nat.le_of_ble_eq_true rfl) (gn_un hj0 1)))⟩, ⟨.fn (.func 54) [] [.ptr 3 0], .fn (.func 54) [] [.ptr 3 0], (.under (unFn rfl (unC rfl rfl)))⟩, fq (layNd.plS e.kids), fq (layNd.plG e0), ⟨.agg [.mp 0, .mp 1, .mp 2], .agg [.mp 0, .mp 1, .mp 2], (.under (unC rfl (unC rfl (unC rfl rfl))))⟩, fq (layNd.plG e0)] [fbp (rows stC (w6_l.set i0 y2a)) (layStr.plC (w6_l.set i0 y2a)), fbp (ndC e) (layNd.pl e), fbu [.mp 0, .mp 1, .mp 2] (unC rfl (unC rfl (unC rfl rfl))), fbu [.sl (.row 0 2) y2b.length (rows dgC y2b)] (unC (unSl rfl (under_plainL _ _ (layDg.plC y2b))) rfl), ⟨(mbis s.articles), (mbis s.articles), (mB_fits (fun _ => rfl))⟩, ⟨(mbss s.lines), (mbss s.lines), (mB_fits (fun _ => rfl))⟩, ⟨(mbss s.facts), (mbss s.facts), (mB_fits (fun _ => rfl))⟩] _ _ (runS 300 (o2 ++ [pn hb1, pinc i0 (by omega)])) (by kernel_rfl) (k ([.bool true, .bool true, .bool true, .bool true, .bool true, (jn j0 5), (jn j0 6), (jn j0 7), (jn j0 8), (jn j0 9), (jn j0 10), (jn j0 11), (jn j0 12), (jn j0 13), (jn j0 14), (jn j0 15), (jn j0 16), (jn j0 17), (jn j0 18), (jn j0 19), (jn j0 20), (jn j0 21), (jn j0 22), (jn j0 23), (jn j0 24)], [(gn j0 0), (gn j0 1), .agg (ndC e0), .agg [.mp 0, .mp 1, .mp 2], .agg (ndC e0)]) (unC (under_mono (Nat.le_of_ble_eq_true rfl) (Nat.le_of_ble_eq_true rfl) (gn_un hj0 0)) (unC (under_mono (Nat.le_of_ble_eq_true rfl) (Nat.le_of_ble_eq_true rfl) (gn_un hj0 1)) (unC (under_plain _ _ (layNd.plG e0)) (unC (unC rfl (unC rfl (unC rfl rfl))) (unC (under_plain _ _ (layNd.plG e0)) rfl))))))
 subst hv
 rintro ⟨⟩
 exact go_nx Hd.plainG [1, 3, 5, 6, 8, 14, 16, 37, 38, 40, 42, 49, 55, 57, 64, 66, 76, 78, 82, 84, 90, 92, 98, 100, 112, 114, 132, 134, 136, 138, 144, 146, 156, 158, 164, 166, 174, 184] [⟨(gn j0 0), (gn j0 0), (.under (under_mono (Nat.le_of_ble_eq_true rfl) (Nat.le_of_ble_eq_true rfl) (gn_un hj0 0)))⟩, ⟨(gn j0 1), (gn j0 1), (.under (under_mono (Nat.le_of_ble_eq_true rfl) (Nat.le_of_ble_eq_true rfl) (gn_un hj0 1)))⟩, ⟨.fn (.func 54) [] [.ptr 3 0], .fn (.func 54) [] [.ptr 3 0], (.under (unFn rfl (unC rfl rfl)))⟩, fq (layNd.plS e.kids), fq (layNd.plG e0), ⟨.agg [.mp 0, .mp 1, .mp 2], .agg [.mp 0, .mp 1, .mp 2], (.under (unC rfl (unC rfl (unC rfl rfl))))⟩, fq (layNd.plG e0)] [fbp (rows stC (w6_l.set i0 y2a)) (layStr.plC (w6_l.set i0 y2a)), fbp (ndC e) (layNd.pl e), fbu [.mp 0, .mp 1, .mp 2] (unC rfl (unC rfl (unC rfl rfl))), fbu [.sl (.row 0 2) y2b.length (rows dgC y2b)] (unC (unSl rfl (under_plainL _ _ (layDg.plC y2b))) rfl), ⟨(mbis s.articles), (mbis s.articles), (mB_fits (fun _ => rfl))⟩, ⟨(mbss s.lines), (mbss s.lines), (mB_fits (fun _ => rfl))⟩, ⟨(mbss s.facts), (mbss s.facts), (mB_fits (fun _ => rfl))⟩] _ _ (runS 300 (o1 ++ [pinc i0 (by omega)])) (by kernel_rfl) (k ([.bool true, .bool false, .bool false, undef, .bool false, (jn j0 5), (jn j0 6), (jn j0 7), (jn j0 8), (jn j0 9), (jn j0 10), (jn j0 11), (jn j0 12), (jn j0 13), (jn j0 14), (jn j0 15), (jn j0 16), (jn j0 17), (jn j0 18), (jn j0 19), (jn j0 20), (jn j0 21), (jn j0 22), (jn j0 23), (jn j0 24)], [(gn j0 0), (gn j0 1), .agg (ndC e0), .agg [.mp 0, .mp 1, .mp 2], .agg (ndC e0)]) (unC (under_mono (Nat.le_of_ble_eq_true rfl) (Nat.le_of_ble_eq_true rfl) (gn_un hj0 0)) (unC (under_mono (Nat.le_of_ble_eq_true rfl) (Nat.le_of_ble_eq_true rfl) (gn_un hj0 1)) (unC (under_plain _ _ (layNd.plG e0)) (unC (unC rfl (unC rfl (unC rfl rfl))) (unC (under_plain _ _ (layNd.plG e0)) rfl))))))
 rintro ⟨whole8_5, w6_l_5, w3_0_5⟩ rfl jx_5 hjx_5
 revert h
 clear hres
 dsimp only [lpK]
 refine cndI (fun hv => ?_) fun hv => ?_
 subst hv
 refine cndI (fun hb2 => ?_) fun hb2 => ?_
 refine cndI (fun hb3 => ?_) fun hb3 => ?_
 refine bndI ?_
 rintro ⟨y6a, y6b⟩ hy6
 dsimp only
 intro h
 have hE := Option.some.inj h
 obtain ⟨hE0, hF0⟩ := Prod.mk.inj hE
 subst hE0 hF0
 exact go_retM Hd.plainG _ _ [0] [] [fbu [.sl (.row 0 2) y6b.length (rows dgC y6b)] (unC (unSl rfl (under_plainL _ _ (layDg.plC y6b))) rfl), ⟨(mbis s.articles), (mbis s.articles), (mB_fits (fun _ => rfl))⟩, ⟨(mbss s.lines), (mbss s.lines), (mB_fits (fun _ => rfl))⟩, ⟨(mbss s.facts), (mbss s.facts), (mB_fits (fun _ => rfl))⟩] _ _ (runX 300 [pb hb2, pb hb3, pcallU (units_collector_1_U 11 e.att w3_0_5 y6a y6b (units_collector_1_step 11 e.att w3_0_5 y6a y6b hy6) 3 0 (by decide) (by decide))]) (by kernel_rfl) .body
 intro h
 have hE := Option.some.inj h
 obtain ⟨hE0, hF0⟩ := Prod.mk.inj hE
 subst hE0 hF0
 exact go_retM Hd.plainG _ _ [0] [] [fbu [.sl (.row 0 2) w3_0_5.length (rows dgC w3_0_5)] (unC (unSl rfl (under_plainL _ _ (layDg.plC w3_0_5))) rfl), ⟨(mbis s.articles), (mbis s.articles), (mB_fits (fun _ => rfl))⟩, ⟨(mbss s.lines), (mbss s.lines), (mB_fits (fun _ => rfl))⟩, ⟨(mbss s.facts), (mbss s.facts), (mB_fits (fun _ => rfl))⟩] _ _ (runX 300 [pb hb2, pb hb3]) (by kernel_rfl) .body
 let o3 : List (PC P G) := [pb hb2]
 refine cndI (fun hb4 => ?_) fun hb4 => ?_
 refine cndI (fun hb5 => ?_) fun hb5 => ?_
 refine bndI ?_
 rintro ⟨y7a, y7b⟩ hy7
 dsimp only
 intro h
 have hE := Option.some.inj h
 obtain ⟨hE0, hF0⟩ := Prod.mk.inj hE
 subst hE0 hF0
 exact go_retM Hd.plainG _ _ [0] [] [fbu [.sl (.row 0 2) y7b.length (rows dgC y7b)] (unC (unSl rfl (under_plainL _ _ (layDg.plC y7b))) rfl), ⟨(mbis s.articles), (mbis s.articles), (mB_fits (fun _ => rfl))⟩, ⟨(mbss s.lines), (mbss s.lines), (mB_fits (fun _ => rfl))⟩, ⟨(mbss s.facts), (mbss s.facts), (mB_fits (fun _ => rfl))⟩] _ _ (runX 300 (o3 ++ [pb hb4, plk (lk40 s.facts e.name), pb hb5, pcallU (units_collector_1_U 91 e.att w3_0_5 y7a y7b (units_collector_1_step 91 e.att w3_0_5 y7a y7b hy7) 3 0 (by decide) (by decide))])) (by kernel_rfl) .body
 intro h
 have hE := Option.some.inj h
 obtain ⟨hE0, hF0⟩ := Prod.mk.inj hE
 subst hE0 hF0
 exact go_retM Hd.plainG _ _ [0] [] [fbu [.sl (.row 0 2) w3_0_5.length (rows dgC w3_0_5)] (unC (unSl rfl (under_plainL _ _ (layDg.plC w3_0_5))) rfl), ⟨(mbis s.articles), (mbis s.articles), (mB_fits (fun _ => rfl))⟩, ⟨(mbss s.lines), (mbss s.lines), (mB_fits (fun _ => rfl))⟩, ⟨(mbss s.facts), (mbss s.facts), (mB_fits (fun _ => rfl))⟩] _ _ (runX 300 (o3 ++ [pb hb4, plk (lk40 s.facts e.name), pb hb5])) (by kernel_rfl) .body
 let o4 : List (PC P G) := o3 ++ [pb hb4]
 refine cndI (fun hb6 => ?_) fun hb6 => ?_
 let o5 : List (PC P G) := o4 ++ [pb hb6, plk (lk58 s.articles e.n), plk (lk40 s.lines ((s.articles.get e.n).getD ByteArray.empty))]
 refine cndI (fun hb7 => ?_) fun hb7 => ?_
 refine bndI ?_
 rintro ⟨y8a, y8b⟩ hy8
 dsimp only
 intro h
 have hE := Option.some.inj h
 obtain ⟨hE0, hF0⟩ := Prod.mk.inj hE
 subst hE0 hF0
 exact go_retM Hd.plainG _ _ [0] [] [fbu [.sl (.row 0 2) y8b.length (rows dgC y8b)] (unC (unSl rfl (under_plainL _ _ (layDg.plC y8b))) rfl), ⟨(mbis s.articles), (mbis s.articles), (mB_fits (fun _ => rfl))⟩, ⟨(mbss s.lines), (mbss s.lines), (mB_fits (fun _ => rfl))⟩, ⟨(mbss s.facts), (mbss s.facts), (mB_fits (fun _ => rfl))⟩] _ _ (runX 300 (o5 ++ [pb hb7, pcallU (units_collector_1_U 91 e.att w3_0_5 y8a y8b (units_collector_1_step 91 e.att w3_0_5 y8a y8b hy8) 3 0 (by decide) (by decide))])) (by kernel_rfl) .body
 intro h
 have hE := Option.some.inj h
 obtain ⟨hE0, hF0⟩ := Prod.mk.inj hE
 subst hE0 hF0
 exact go_retM Hd.plainG _ _ [0] [] [fbu [.sl (.row 0 2) w3_0_5.length (rows dgC w3_0_5)] (unC (unSl rfl (under_plainL _ _ (layDg.plC w3_0_5))) rfl), ⟨(mbis s.articles), (mbis s.articles), (mB_fits (fun _ => rfl))⟩, ⟨(mbss s.lines), (mbss s.lines), (mB_fits (fun _ => rfl))⟩, ⟨(mbss s.facts), (mbss s.facts), (mB_fits (fun _ => rfl))⟩] _ _ (runX 300 (o5 ++ [pb hb7])) (by kernel_rfl) .body
 let o6 : List (PC P G) := o4 ++ [pb hb6]
 refine cndI (fun hb8 => ?_) fun hb8 => ?_
 refine cndI (fun hb9 => ?_) fun hb9 => ?_
 refine bndI ?_
 rintro ⟨y9a, y9b⟩ hy9
 dsimp only
 intro h
 have hE := Option.some.inj h
 obtain ⟨hE0, hF0⟩ := Prod.mk.inj hE
 subst hE0 hF0
 exact go_retM Hd.plainG _ _ [0] [] [fbu [.sl (.row 0 2) y9b.length (rows dgC y9b)] (unC (unSl rfl (under_plainL _ _ (layDg.plC y9b))) rfl), ⟨(mbis s.articles), (mbis s.articles), (mB_fits (fun _ => rfl))⟩, ⟨(mbss s.lines), (mbss s.lines), (mB_fits (fun _ => rfl))⟩, ⟨(mbss s.facts), (mbss s.facts), (mB_fits (fun _ => rfl))⟩] _ _ (runX 300 (o6 ++ [pb hb8, pb hb9, pcallU (units_collector_1_U 11 e.att w3_0_5 y9a y9b (units_collector_1_step 11 e.att w3_0_5 y9a y9b hy9) 3 0 (by decide) (by decide))])) (by kernel_rfl) .body
 intro h
 have hE := Option.some.inj h
 obtain ⟨hE0, hF0⟩ := Prod.mk.inj hE
 subst hE0 hF0
 exact go_retM Hd.plainG _ _ [0] [] [fbu [.sl (.row 0 2) w3_0_5.length (rows dgC w3_0_5)] (unC (unSl rfl (under_plainL _ _ (layDg.plC w3_0_5))) rfl), ⟨(mbis s.articles), (mbis s.articles), (mB_fits (fun _ => rfl))⟩, ⟨(mbss s.lines), (mbss s.lines), (mB_fits (fun _ => rfl))⟩, ⟨(mbss s.facts), (mbss s.facts), (mB_fits (fun _ => rfl))⟩] _ _ (runX 300 (o6 ++ [pb hb8, pb hb9])) (by kernel_rfl) .body
 let o7 : List (PC P G) := o6 ++ [pb hb8]
 refine cndI (fun hb10 => ?_) fun hb10 => ?_
 refine bndI fun y10 hy10 => ?_
 let o8 : List (PC P G) := o7 ++ [pb hb10, pcallU (units_operatem_U andS e.kids.length w6_l_5 y10 (units_operatem_step andS e.kids.length w6_l_5 y10 hy10) 6 (by decide) (by decide))]
 refine cndI (fun hb11 => ?_) fun hb11 => ?_
 refine bndI ?_
 rintro ⟨y11a, y11b⟩ hy11
 dsimp only
 intro h
 have hE := Option.some.inj h
 obtain ⟨hE0, hF0⟩ := Prod.mk.inj hE
 subst hE0 hF0
 exact go_retM Hd.plainG _ _ [0] [] [fbu [.sl (.row 0 2) y11b.length (rows dgC y11b)] (unC (unSl rfl (under_plainL _ _ (layDg.plC y11b))) rfl), ⟨(mbis s.articles), (mbis s.articles), (mB_fits (fun _ => rfl))⟩, ⟨(mbss s.lines), (mbss s.lines), (mB_fits (fun _ => rfl))⟩, ⟨(mbss s.facts), (mbss s.facts), (mB_fits (fun _ => rfl))⟩] _ _ (runX 300 (o8 ++ [pb hb11, pcallU (units_collector_1_U 11 e.att w3_0_5 y11a y11b (units_collector_1_step 11 e.att w3_0_5 y11a y11b hy11) 3 0 (by decide) (by decide))])) (by kernel_rfl) .body
 intro h
 have hE := Option.some.inj h
 obtain ⟨hE0, hF0⟩ := Prod.mk.inj hE
 subst hE0 hF0
 exact go_retM Hd.plainG _ _ [0] [] [fbu [.sl (.row 0 2) w3_0_5.length (rows dgC w3_0_5)] (unC (unSl rfl (under_plainL _ _ (layDg.plC w3_0_5))) rfl), ⟨(mbis s.articles), (mbis s.articles), (mB_fits (fun _ => rfl))⟩, ⟨(mbss s.lines), (mbss s.lines), (mB_fits (fun _ => rfl))⟩, ⟨(mbss s.facts), (mbss s.facts), (mB_fits (fun _ => rfl))⟩] _ _ (runX 300 (o8 ++ [pb hb11])) (by kernel_rfl) .body
 let o9 : List (PC P G) := o7 ++ [pb hb10]
 refine cndI (fun hb12 => ?_) fun hb12 => ?_
 refine bndI fun y12 hy12 => ?_
 let o10 : List (PC P G) := o9 ++ [pb hb12, pcallU (units_operatem_U e.name e.kids.length w6_l_5 y12 (units_operatem_step e.name e.kids.length w6_l_5 y12 hy12) 6 (by decide) (by decide))]
 refine cndI (fun hb13 => ?_) fun hb13 => ?_
 refine bndI ?_
 rintro ⟨y13a, y13b⟩ hy13
 dsimp only
 intro h
 have hE := Option.some.inj h
 obtain ⟨hE0, hF0⟩ := Prod.mk.inj hE
 subst hE0 hF0
 exact go_retM Hd.plainG _ _ [0] [] [fbu [.sl (.row 0 2) y13b.length (rows dgC y13b)] (unC (unSl rfl (under_plainL _ _ (layDg.plC y13b))) rfl), ⟨(mbis s.articles), (mbis s.articles), (mB_fits (fun _ => rfl))⟩, ⟨(mbss s.lines), (mbss s.lines), (mB_fits (fun _ => rfl))⟩, ⟨(mbss s.facts), (mbss s.facts), (mB_fits (fun _ => rfl))⟩] _ _ (runX 300 (o10 ++ [pb hb13, pcallU (units_collector_1_U 11 e.att w3_0_5 y13a y13b (units_collector_1_step 11 e.att w3_0_5 y13a y13b hy13) 3 0 (by decide) (by decide))])) (by kernel_rfl) .body
 intro h
 have hE := Option.some.inj h
 obtain ⟨hE0, hF0⟩ := Prod.mk.inj hE
 subst hE0 hF0
 exact go_retM Hd.plainG _ _ [0] [] [fbu [.sl (.row 0 2) w3_0_5.length (rows dgC w3_0_5)] (unC (unSl rfl (under_plainL _ _ (layDg.plC w3_0_5))) rfl), ⟨(mbis s.articles), (mbis s.articles), (mB_fits (fun _ => rfl))⟩, ⟨(mbss s.lines), (mbss s.lines), (mB_fits (fun _ => rfl))⟩, ⟨(mbss s.facts), (mbss s.facts), (mB_fits (fun _ => rfl))⟩] _ _ (runX 300 (o10 ++ [pb hb13])) (by kernel_rfl) .body
 refine cndI (fun hb14 => ?_) fun hb14 => ?_
 refine bndI fun y14 hy14 => ?_
 let o11 : List (PC P G) := o9 ++ [pb hb12, pb hb14, pcallU (units_operatem_U q2bS e.kids.length w6_l_5 y14 (units_operatem_step q2bS e.kids.length w6_l_5 y14 hy14) 6 (by decide) (by decide))]
 refine cndI (fun hb15 => ?_) fun hb15 => ?_
 refine bndI ?_
 rintro ⟨y15a, y15b⟩ hy15
 dsimp only
 intro h
 have hE := Option.some.inj h
 obtain ⟨hE0, hF0⟩ := Prod.mk.inj hE
 subst hE0 hF0
 exact go_retM Hd.plainG _ _ [0] [] [fbu [.sl (.row 0 2) y15b.length (rows dgC y15b)] (unC (unSl rfl (under_plainL _ _ (layDg.plC y15b))) rfl), ⟨(mbis s.articles), (mbis s.articles), (mB_fits (fun _ => rfl))⟩, ⟨(mbss s.lines), (mbss s.lines), (mB_fits (fun _ => rfl))⟩, ⟨(mbss s.facts), (mbss s.facts), (mB_fits (fun _ => rfl))⟩] _ _ (runX 300 (o11 ++ [pb hb15, pcallU (units_collector_1_U 11 e.att w3_0_5 y15a y15b (units_collector_1_step 11 e.att w3_0_5 y15a y15b hy15) 3 0 (by decide) (by decide))])) (by kernel_rfl) .body
 intro h
 have hE := Option.some.inj h
 obtain ⟨hE0, hF0⟩ := Prod.mk.inj hE
 subst hE0 hF0
 exact go_retM Hd.plainG _ _ [0] [] [fbu [.sl (.row 0 2) w3_0_5.length (rows dgC w3_0_5)] (unC (unSl rfl (under_plainL _ _ (layDg.plC w3_0_5))) rfl), ⟨(mbis s.articles), (mbis s.articles), (mB_fits (fun _ => rfl))⟩, ⟨(mbss s.lines), (mbss s.lines), (mB_fits (fun _ => rfl))⟩, ⟨(mbss s.facts), (mbss s.facts), (mB_fits (fun _ => rfl))⟩] _ _ (runX 300 (o11 ++ [pb hb15])) (by kernel_rfl) .body
 let o12 : List (PC P G) := o9 ++ [pb hb12, pb hb14]
 refine cndI (fun hb16 => ?_) fun hb16 => ?_
 refine bndI fun k16 hk16 => ?_
 refine bndI fun x17 hx17 => ?_
 refine bndI fun y18 hy18 => ?_
 let o13 : List (PC P G) := o12 ++ [pb hb16, pix (ixmz96 (id := 6) hk16), plb (ldm96 hx17)]
 refine cndI (fun hv => ?_) fun hv => ?_
 subst hv
 let o14 : List (PC P G) := o13 ++ [pcall (units_isCur_step x17 true hy18), pix (ixmz96 (id := 6) hk16), plb (ldm96 hx17)]
 refine cndI (fun hb17 => ?_) fun hb17 => ?_
 refine bndI ?_
 rintro ⟨y19a, y19b⟩ hy19
 dsimp only
 intro h
 have hE := Option.some.inj h
 obtain ⟨hE0, hF0⟩ := Prod.mk.inj hE
 subst hE0 hF0
 exact go_retM Hd.plainG _ _ [0] [] [fbu [.sl (.row 0 2) y19b.length (rows dgC y19b)] (unC (unSl rfl (under_plainL _ _ (layDg.plC y19b))) rfl), ⟨(mbis s.articles), (mbis s.articles), (mB_fits (fun _ => rfl))⟩, ⟨(mbss s.lines), (mbss s.lines), (mB_fits (fun _ => rfl))⟩, ⟨(mbss s.facts), (mbss s.facts), (mB_fits (fun _ => rfl))⟩] _ _ (runX 300 (o14 ++ [pb hb17, pcallU (units_collector_1_U 11 e.att w3_0_5 y19a y19b (units_collector_1_step 11 e.att w3_0_5 y19a y19b hy19) 3 0 (by decide) (by decide))])) (by kernel_rfl) .body
 intro h
 have hE := Option.some.inj h
 obtain ⟨hE0, hF0⟩ := Prod.mk.inj hE
 subst hE0 hF0
 exact go_retM Hd.plainG _ _ [0] [] [fbu [.sl (.row 0 2) w3_0_5.length (rows dgC w3_0_5)] (unC (unSl rfl (under_plainL _ _ (layDg.plC w3_0_5))) rfl), ⟨(mbis s.articles), (mbis s.articles), (mB_fits (fun _ => rfl))⟩, ⟨(mbss s.lines), (mbss s.lines), (mB_fits (fun _ => rfl))⟩, ⟨(mbss s.facts), (mbss s.facts), (mB_fits (fun _ => rfl))⟩] _ _ (runX 300 (o14 ++ [pb hb17])) (by kernel_rfl) .body
 subst hv
 refine cndI (fun hb18 => ?_) fun hb18 => ?_
 refine bndI ?_
 rintro ⟨y20a, y20b⟩ hy20
 dsimp only
 intro h
 have hE := Option.some.inj h
 obtain ⟨hE0, hF0⟩ := Prod.mk.inj hE
 subst hE0 hF0
 exact go_retM Hd.plainG _ _ [0] [] [fbu [.sl (.row 0 2) y20b.length (rows dgC y20b)] (unC (unSl rfl (under_plainL _ _ (layDg.plC y20b))) rfl), ⟨(mbis s.articles), (mbis s.articles), (mB_fits (fun _ => rfl))⟩, ⟨(mbss s.lines), (mbss s.lines), (mB_fits (fun _ => rfl))⟩, ⟨(mbss s.facts), (mbss s.facts), (mB_fits (fun _ => rfl))⟩] _ _ (runX 300 (o13 ++ [pcall (units_isCur_step x17 false hy18), pb hb18, pcallU (units_collector_1_U 11 e.att w3_0_5 y20a y20b (units_collector_1_step 11 e.att w3_0_5 y20a y20b hy20) 3 0 (by decide) (by decide))])) (by kernel_rfl) .body
 intro h
 have hE := Option.some.inj h
 obtain ⟨hE0, hF0⟩ := Prod.mk.inj hE
 subst hE0 hF0
 exact go_retM Hd.plainG _ _ [0] [] [fbu [.sl (.row 0 2) w3_0_5.length (rows dgC w3_0_5)] (unC (unSl rfl (under_plainL _ _ (layDg.plC w3_0_5))) rfl), ⟨(mbis s.articles), (mbis s.articles), (mB_fits (fun _ => rfl))⟩, ⟨(mbss s.lines), (mbss s.lines), (mB_fits (fun _ => rfl))⟩, ⟨(mbss s.facts), (mbss s.facts), (mB_fits (fun _ => rfl))⟩] _ _ (runX 300 (o13 ++ [pcall (units_isCur_step x17 false hy18), pb hb18])) (by kernel_rfl) .body
 refine cndI (fun hb19 => ?_) fun hb19 => ?_
 refine bndI ?_
 rintro ⟨y21a, y21b⟩ hy21
 dsimp only
 intro h
 have hE := Option.some.inj h
 obtain ⟨hE0, hF0⟩ := Prod.mk.inj hE
 subst hE0 hF0
 exact go_retM Hd.plainG _ _ [0] [] [fbu [.sl (.row 0 2) y21b.length (rows dgC y21b)] (unC (unSl rfl (under_plainL _ _ (layDg.plC y21b))) rfl), ⟨(mbis s.articles), (mbis s.articles), (mB_fits (fun _ => rfl))⟩, ⟨(mbss s.lines), (mbss s.lines), (mB_fits (fun _ => rfl))⟩, ⟨(mbss s.facts), (mbss s.facts), (mB_fits (fun _ => rfl))⟩] _ _ (runX 300 (o12 ++ [pb hb16, pb hb19, pcallU (units_collector_1_U 11 e.att w3_0_5 y21a y21b (units_collector_1_step 11 e.att w3_0_5 y21a y21b hy21) 3 0 (by decide) (by decide))])) (by kernel_rfl) .body
 intro h
 have hE := Option.some.inj h
 obtain ⟨hE0, hF0⟩ := Prod.mk.inj hE
 subst hE0 hF0
 exact go_retM Hd.plainG _ _ [0] [] [fbu [.sl (.row 0 2) w3_0_5.length (rows dgC w3_0_5)] (unC (unSl rfl (under_plainL _ _ (layDg.plC w3_0_5))) rfl), ⟨(mbis s.articles), (mbis s.articles), (mB_fits (fun _ => rfl))⟩, ⟨(mbss s.lines), (mbss s.lines), (mB_fits (fun _ => rfl))⟩, ⟨(mbss s.facts), (mbss s.facts), (mB_fits (fun _ => rfl))⟩] _ _ (runX 300 (o12 ++ [pb hb16, pb hb19])) (by kernel_rfl) .body
 subst hv
 intro h
 have hE := Option.some.inj h
 obtain ⟨hE0, hF0⟩ := Prod.mk.inj hE
 subst hE0 hF0
 exact go_retM Hd.plainG _ _ [0] [] [fbu [.sl (.row 0 2) w3_0_5.length (rows dgC w3_0_5)] (unC (unSl rfl (under_plainL _ _ (layDg.plC w3_0_5))) rfl), ⟨(mbis s.articles), (mbis s.articles), (mB_fits (fun _ => rfl))⟩, ⟨(mbss s.lines), (mbss s.lines), (mB_fits (fun _ => rfl))⟩, ⟨(mbss s.facts), (mbss s.facts), (mB_fits (fun _ => rfl))⟩] _ _ (runX 300 []) (by kernel_rfl) .body
 rintro v rfl
 dsimp only [lpK] at h
 cases h
 exact .outer .body
noncomputable def units_scope_infer_1_M : Nat → Sc → Nd → (List Dg) → Option (ByteArray × (List Dg))
 | 0, _, _, _ => none
 | qn + 1, s, e, report => units_scope_infer_1_B (units_scope_infer_1_M qn) s e report
theorem units_scope_infer_1_all : ∀ qn : Nat, ∀ (s : Sc) (e : Nd) (report : (List Dg)) (yR : ByteArray) (qreportR : (List Dg)), units_scope_infer_1_M qn s e report = some (yR, qreportR) → Sound P G (.call 32 [.agg [.mp 0, .mp 1, .mp 2], .agg (ndC e), .fn (.func 54) [] [.ptr 3 0]] ⟨[(3, .cells [.sl (.row 0 2) report.length (rows dgC report)]), (2, (mbis s.articles)), (1, (mbss s.lines)), (0, (mbss s.facts))], 4, [(0, report.length)], 1⟩ (.ret (.sc (.string yR))) ⟨[(3, .cells [.sl (.row 0 2) qreportR.length (rows dgC qreportR)]), (2, (mbis s.articles)), (1, (mbss s.lines)), (0, (mbss s.facts))], 4, [(0, qreportR.length)], 1⟩) := by
 intro qn
 induction qn with
 | zero => exact (fun _ _ _ _ _ h => by simp only [units_scope_infer_1_M] at h; cases h)
 | succ qn ih => exact (fun s e report yR qreportR h => units_scope_infer_1_step _ ih s e report yR qreportR (by rw [units_scope_infer_1_M] at h; exact h))
noncomputable def units_scope_infer_1_R (s : Sc) (e : Nd) (report : (List Dg)) : Option (ByteArray × (List Dg)) := evt (fun qn => units_scope_infer_1_M qn s e report)
theorem units_scope_infer_1_ok (s : Sc) (e : Nd) (report : (List Dg)) (yR : ByteArray) (qreportR : (List Dg)) (h : units_scope_infer_1_R s e report = some (yR, qreportR)) : Sound P G (.call 32 [.agg [.mp 0, .mp 1, .mp 2], .agg (ndC e), .fn (.func 54) [] [.ptr 3 0]] ⟨[(3, .cells [.sl (.row 0 2) report.length (rows dgC report)]), (2, (mbis s.articles)), (1, (mbss s.lines)), (0, (mbss s.facts))], 4, [(0, report.length)], 1⟩ (.ret (.sc (.string yR))) ⟨[(3, .cells [.sl (.row 0 2) qreportR.length (rows dgC qreportR)]), (2, (mbis s.articles)), (1, (mbss s.lines)), (0, (mbss s.facts))], 4, [(0, qreportR.length)], 1⟩) := by
 obtain ⟨qn, h⟩ := evtE h
 exact (units_scope_infer_1_all qn) s e report yR qreportR h
noncomputable def B13 : Code := bodyOf Tryz.f13
theorem b13 : Tryz.f13.body = some B13 := by kernel_rfl
noncomputable def units_Infer_B  (source : Nd) (e : Nd) : Option (ByteArray × (List Dg)) := cond (eqI source.kind 1) (cond (eqI e.kind 1) (some (ByteArray.empty, [(⟨1, e.att⟩ : Dg)])) ((parser_Valid_B source).bind fun y1 => cond y1 ((parser_Valid_B e).bind fun y2 => cond y2 ((units_collector_B).bind fun y3 => (units_newScope_B source).bind fun y4 => (units_scope_infer_1_R y4 e []).bind fun (y5a, y5b) => some (y5a, y5b)) (some (ByteArray.empty, [(⟨1, e.att⟩ : Dg)]))) (some (ByteArray.empty, [(⟨1, e.att⟩ : Dg)])))) (some (ByteArray.empty, [(⟨1, e.att⟩ : Dg)]))
theorem units_Infer_step   (source : Nd) (e : Nd) (yR : (ByteArray × (List Dg))) (h : units_Infer_B  source e = some yR) : Pure P G 13 [.agg (ndC source), .agg (ndC e)] (.tup [.sc (.string yR.1), .sl .lost yR.2.length (rows dgC yR.2)]) := by
 unfold units_Infer_B at h
 refine pureM Hd.mixed Hd.plainG (WC_body Tryz.func13 b13 ?_) (plC (layNd.plG source) (plC (layNd.plG e) rfl)) (plC rfl (plC (layDg.plS yR.2) rfl))
 revert h
 refine cndI (fun hb1 => ?_) fun hb1 => ?_
 refine cndI (fun hb2 => ?_) fun hb2 => ?_
 intro h
 have hE := Option.some.inj h
 subst hE
 exact go_retA (v := .tup [.sc (.string ByteArray.empty), .sl .full 1 [.sc (.int .i64 1), .sc (.int .i64 e.att)]]) _ _ (runS 300 [pn hb1, pb hb2]) (by kernel_rfl) .body (.wn (.u (.r (.d (.r (.r .nil)) (layDg.eq [(⟨1, e.att⟩ : Dg)]).symm .nil)) .nil) (plC rfl (plC (layDg.plS [(⟨1, e.att⟩ : Dg)]) rfl)))
 refine bndI fun y1 hy1 => ?_
 refine cndI (fun hv => ?_) fun hv => ?_
 subst hv
 refine bndI fun y2 hy2 => ?_
 refine cndI (fun hv => ?_) fun hv => ?_
 subst hv
 refine bndI fun y3 hy3 => ?_
 refine bndI fun y4 hy4 => ?_
 refine bndI ?_
 rintro ⟨y5a, y5b⟩ hy5
 dsimp only
 intro h
 have hE := Option.some.inj h
 subst hE
 exact go_retA (v := .tup [.sc (.string y5a), .sl (.row 0 2) y5b.length (rows dgC y5b)]) _ _ (runS 300 [pn hb1, pb hb2, pcall (parser_Valid_step source true hy1), pcall (parser_Valid_step e true hy2), pcallN (v := .tup [.ptr 2 0, .fn (.func 54) [] [.ptr 2 0]]) (h := [(2, .cells [.sl .full 0 []])] ) (F := []) (units_collector_N  (units_collector_step  hy3) 2 0), pnz [.b 2 0 2], pza, pcallN (v := .agg [.mp 5, .mp 6, .mp 7]) (h := [(7, (mbis y4.articles)), (6, (mbss y4.lines)), (5, (mbss y4.facts))] ) (F := []) (units_newScope_N source y4 (units_newScope_step source y4 hy4) 3 1), pcallU (units_scope_infer_1_U y4 e [] y5a y5b (units_scope_infer_1_ok y4 e [] y5a y5b hy5) 5 6 7 2 0 (by decide) (by decide))]) (by kernel_rfl) .body (.wn (.u (.r (.s rfl .nil)) .nil) (plC rfl (plC (layDg.plS y5b) rfl)))
 subst hv
 intro h
 have hE := Option.some.inj h
 subst hE
 exact go_retA (v := .tup [.sc (.string ByteArray.empty), .sl .full 1 [.sc (.int .i64 1), .sc (.int .i64 e.att)]]) _ _ (runS 300 [pn hb1, pb hb2, pcall (parser_Valid_step source true hy1), pcall (parser_Valid_step e false hy2)]) (by kernel_rfl) .body (.wn (.u (.r (.d (.r (.r .nil)) (layDg.eq [(⟨1, e.att⟩ : Dg)]).symm .nil)) .nil) (plC rfl (plC (layDg.plS [(⟨1, e.att⟩ : Dg)]) rfl)))
 subst hv
 intro h
 have hE := Option.some.inj h
 subst hE
 exact go_retA (v := .tup [.sc (.string ByteArray.empty), .sl .full 1 [.sc (.int .i64 1), .sc (.int .i64 e.att)]]) _ _ (runS 300 [pn hb1, pb hb2, pcall (parser_Valid_step source false hy1)]) (by kernel_rfl) .body (.wn (.u (.r (.d (.r (.r .nil)) (layDg.eq [(⟨1, e.att⟩ : Dg)]).symm .nil)) .nil) (plC rfl (plC (layDg.plS [(⟨1, e.att⟩ : Dg)]) rfl)))
 intro h
 have hE := Option.some.inj h
 subst hE
 exact go_retA (v := .tup [.sc (.string ByteArray.empty), .sl .full 1 [.sc (.int .i64 1), .sc (.int .i64 e.att)]]) _ _ (runS 300 [pn hb1]) (by kernel_rfl) .body (.wn (.u (.r (.d (.r (.r .nil)) (layDg.eq [(⟨1, e.att⟩ : Dg)]).symm .nil)) .nil) (plC rfl (plC (layDg.plS [(⟨1, e.att⟩ : Dg)]) rfl)))
end Mo
end Go.Proofs.YtkfplcngmiljaaaGreatDoor
