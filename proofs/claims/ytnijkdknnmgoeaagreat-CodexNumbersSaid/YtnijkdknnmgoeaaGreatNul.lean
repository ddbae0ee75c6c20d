/- Part of a proof: see the last text. -/
import Derived.Test.YtnijkdknnmgoeaaGreatNuk
set_option linter.unusedVariables false
set_option linter.unusedSimpArgs false
namespace Go.Proofs.YtnijkdknnmgoeaaGreat
open AI Go
namespace Mo
set_option maxRecDepth 100000
set_option maxHeartbeats 4000000
noncomputable def parser_checker_all_clause_L1  (depth : Int) (i0 : Nat) (e0 : Nd) (w0_0 : Int) : Option (Lp Int Int (Bool × Int)) := (parser_checker_clause_B (⟨w0_0⟩ : Ck) e0 depth).bind fun (y1a, y1b) => cond y1a (some (.nx y1b)) (some (.rt (false, y1b)))
noncomputable def parser_checker_all_clause_B  (c : Ck) (list : (List Nd)) (depth : Int) : Option (Bool × Int) := (lim list.length (foldL (fun i y x => parser_checker_all_clause_L1  depth i y x) (fun x => x) (list.drop 0) 0 c.nodes)).bind (lpK (fun (w0_0_2 : Int) => some (true, w0_0_2)) (fun v => some v))
theorem parser_checker_all_clause_U (c : Ck) (list : (List Nd)) (depth : Int) (yR : Bool) (qc_nodesR : Int) (hS : Sound P G (.call 79 [.ptr 0 0, .sl .lost list.length (ndsC list), .sc (.int .i64 depth), .fn (.func 126) [.ptr 0 0] []] ⟨[(0, .cells (ckC c))], 1, [], 0⟩ (.ret (.sc (.bool yR))) ⟨[(0, .cells [.sc (.int .i64 qc_nodesR)])], 1, [], 0⟩)) (u0 : Nat) (hnb : [u0].Nodup) (hnt : ([] : List Nat).Nodup) : Cd.ok P G (.callU 79 [.ptr u0 0, .sl .lost list.length (ndsC list), .sc (.int .i64 depth), .fn (.func 126) [.ptr u0 0] []] (.ret (.sc (.bool yR))) [(u0, .cells (ckC c))] [] [(u0, .cells [.sc (.int .i64 qc_nodesR)])] []) :=
 frameU (M := [.cells (ckC c)]) (M2 := [.cells [.sc (.int .i64 qc_nodesR)]]) (T := []) (T2 := []) (k := 1) (j := 0) Hd.plainG _ _ _ _ hS rfl rfl rfl rfl rfl hnb hnt rfl rfl (.cons (.cells (.pl (layCk.pl c))) .nil) (.cons (.cells (.pl (plC rfl rfl))) .nil) (.cons (.ptr (by decide)) (.cons (.pl (layNd.plS list)) (.cons (.pl rfl) (.cons (.fn (.cons (.ptr (by decide)) .nil) (.pl rfl)) .nil)))) (.pl rfl) (fun e he => by simp only [List.mem_singleton] at he; subst he; exact (.arg (.here .ptr)))
theorem parser_checker_all_clause_step   (c : Ck) (list : (List Nd)) (depth : Int) (yR : Bool) (qc_nodesR : Int) (h : parser_checker_all_clause_B  c list depth = some (yR, qc_nodesR)) : Sound P G (.call 79 [.ptr 0 0, .sl .lost list.length (ndsC list), .sc (.int .i64 depth), .fn (.func 126) [.ptr 0 0] []] ⟨[(0, .cells (ckC c))], 1, [], 0⟩ (.ret (.sc (.bool yR))) ⟨[(0, .cells [.sc (.int .i64 qc_nodesR)])], 1, [], 0⟩) := by
 unfold parser_checker_all_clause_B at h
 refine soundM Hd.mixed (WC_body Tryz.func79 b79 ?_)
 revert h
 refine bndI fun res hres h => ?_
 have hlen := (limE hres).1
 replace hres := (limE hres).2
 refine go_at [] [2, 3, 8, 11, 12, 13, 14, 16, 18, 20, 21] 0 (sub B79 [1, 0, 1, 0, 0]) [.code (sub B79 [1, 1])] _ _ (runS 300 []) (by kernel_rfl) (foldM (fn := Tryz.f79) (m := 1) (s00 := ⟨[(0, .cells (ckC c))], 1, [], 0⟩) (fun v => .sc (.bool v.1)) (fun v => ⟨[(0, .cells [.sc (.int .i64 v.2)])], 1, [], 0⟩) 0 list (fun i0 (w0_0 : Int) (j0 : JJ) => frm 23 0 [(2, .sc (.int .i64 depth)), (3, .fn (.func 126) [.ptr 0 0] []), (11, .sl .lost list.length (ndsC list)), (12, .sc (.int .i64 ((list.length : Nat) : Int))), (13, .sc (.int .i64 ((i0 : Nat) : Int)))] [8, 14, 20, 21] 0 [16, 18] 0 j0) (fun (_ : Nat) (w0_0 : Int) (_ : JJ) => ⟨[(0, .cells [.sc (.int .i64 w0_0)])], 1, [], 0⟩) (fun (j : JJ) => plainL j.2 = true) (fun (w0_0 : Int) (jx : JJ) => frm 23 0 [] [8, 14, 20, 21] 0 [16, 18] 0 jx) (fun (w0_0 : Int) (_ : JJ) => ⟨[(0, .cells [.sc (.int .i64 w0_0)])], 1, [], 0⟩) (fun (j : JJ) => plainL j.2 = true) ?_ ?_ 0 hres ?_ ?_ ([.bool false], [.sc undef, .sc undef]) (plC rfl (plC rfl rfl)))
 rintro i0 w0_0 j0 hj0 hge hq
 clear h hres
 refine WL_rnd ?_
 exact go_ex Hd.plainG [16, 28, 33, 37, 40, 42] [fq (gn_pl hj0 0), fq (gn_pl hj0 1)] [fbp [.sc (.int .i64 w0_0)] (plC rfl rfl)] 0 _ _ (runS 300 [pb (B := ltI ((i0 : Nat) : Int) ((list.length : Nat) : Int)) (b := false) (ltF hge)]) (by kernel_rfl) (hq ([(jn j0 0), .bool false, (jn j0 2), (jn j0 3)], [(gn j0 0), (gn j0 1)]) (plC (gn_pl hj0 0) (plC (gn_pl hj0 1) rfl)))
 clear h hres
 rintro i0 e0 w0_0 j0 r hj0 he0 hi0 h k
 refine WL_rnd ?_
 revert h
 show parser_checker_all_clause_L1  depth i0 e0 w0_0 = some r → _
 unfold parser_checker_all_clause_L1
 refine bndI ?_
 rintro ⟨y1a, y1b⟩ hy1
 dsimp only
 let o1 : List (PC P G) := [pb (B := ltI ((i0 : Nat) : Int) ((list.length : Nat) : Int)) (b := true) (ltT hi0), pix (ix25 .lost he0)]
 refine cndI (fun hv => ?_) fun hv => ?_
 subst hv
 rintro ⟨⟩
 exact go_nx Hd.plainG [4, 7, 16, 23, 24, 26, 28, 33, 37, 40, 42] [⟨.fn (.func 126) [.ptr 0 0] [], .fn (.func 126) [.ptr 0 0] [], (.under (unFn (unC rfl rfl) rfl))⟩, fq (layNd.plS list), fq (layNd.plG e0), fq (layNd.plG e0)] [fbp [.sc (.int .i64 y1b)] (plC rfl rfl)] _ _ (runS 300 (o1 ++ [pcallU (parser_checker_clause_U (⟨w0_0⟩ : Ck) e0 depth true y1b (parser_checker_clause_step (⟨w0_0⟩ : Ck) e0 depth true y1b hy1) 0 (by decide) (by decide)), pinc i0 (by omega)])) (by kernel_rfl) (k ([(jn j0 0), .bool true, .bool true, .bool false], [.agg (ndC e0), .agg (ndC e0)]) (plC (layNd.plG e0) (plC (layNd.plG e0) rfl)))
 subst hv
 rintro ⟨⟩
 exact go_retM Hd.plainG _ _ [0] [] [fbp [.sc (.int .i64 y1b)] (plC rfl rfl)] _ _ (runS 300 (o1 ++ [pcallU (parser_checker_clause_U (⟨w0_0⟩ : Ck) e0 depth false y1b (parser_checker_clause_step (⟨w0_0⟩ : Ck) e0 depth false y1b hy1) 0 (by decide) (by decide))])) (by kernel_rfl) (.rnd k)
 rintro w0_0_2 rfl jx_2 hjx_2
 revert h
 clear hres
 dsimp only [lpK]
 intro h
 have hE := Option.some.inj h
 obtain ⟨hE0, hF0⟩ := Prod.mk.inj hE
 subst hE0 hF0
 exact go_retM Hd.plainG _ _ [0] [] [fbp [.sc (.int .i64 w0_0_2)] (plC rfl rfl)] _ _ (runX 300 []) (by kernel_rfl) .body
 rintro v rfl
 dsimp only [lpK] at h
 cases h
 exact .outer .body
noncomputable def B80 : Code := bodyOf Tryz.f80
theorem b80 : Tryz.f80.body = some B80 := by kernel_rfl
noncomputable def parser_checker_item_L1  (y1b : Int) (i0 : Nat) (e0 : Nd) (w2_6 : Int) (w2_7 : Int) (w2_8 : Int) : Option (Lp (Int × Int × Int) (Int × Int × Int) (Bool × Int)) := cond (ltI e0.kind 6) (some (.rt (false, y1b))) (cond (ltI 8 e0.kind) (some (.rt (false, y1b))) (cond (eqI e0.kind 6) (some (.nx ((wadd w2_6 1), w2_7, w2_8))) (cond (eqI e0.kind 7) (some (.nx (w2_6, (wadd w2_7 1), w2_8))) (cond (eqI e0.kind 8) (some (.nx (w2_6, w2_7, (wadd w2_8 1)))) (none)))))
noncomputable def parser_checker_item_B  (c : Ck) (n : Nd) (depth : Int) : Option (Bool × Int) := (parser_checker_node_B c n depth).bind fun (y1a, y1b) => cond y1a (cond (eqI n.kind 2) ((parser_goodName_B n.name).bind fun y2 => cond y2 ((parser_goodUnit_B n.unit).bind fun y3 => cond y3 (cond (eqI ((n.kids.length : Nat) : Int) 0) ((parser_bare_B n (⟨0, n.name, n.unit, 0, 0, 0, 0, (⟨0, []⟩ : Fn), [], 0⟩ : Nd)).bind fun y4 => some (y4, y1b)) (some (false, y1b))) (some (false, y1b))) (some (false, y1b))) (cond (eqI n.kind 3) ((parser_goodName_B n.name).bind fun y5 => cond y5 ((parser_goodUnit_B n.unit).bind fun y6 => cond y6 (cond (leI 1 n.n) (cond (leI n.n 4) (cond (eqI ((n.kids.length : Nat) : Int) 0) ((parser_bare_B n (⟨0, n.name, n.unit, n.n, 0, 0, 0, (⟨0, []⟩ : Fn), [], 0⟩ : Nd)).bind fun y7 => some (y7, y1b)) (some (false, y1b))) (some (false, y1b))) (some (false, y1b))) (some (false, y1b))) (some (false, y1b))) (cond (eqI n.kind 4) ((parser_goodRatio_B n.n).bind fun y8 => cond y8 ((parser_goodName_B n.name).bind fun y9 => cond y9 ((parser_bare_B n (⟨0, n.name, ByteArray.empty, n.n, 0, 0, 0, (⟨0, []⟩ : Fn), [], 0⟩ : Nd)).bind fun y10 => cond y10 (cond (eqI ((n.kids.length : Nat) : Int) 0) (some (false, y1b)) ((subl n.kids 1 ((n.kids.length : Nat) : Int)).bind fun l11 => (lim l11.length (foldL (fun i y x => parser_checker_item_L1  y1b i y x.1 x.2.1 x.2.2) (fun x => (x.1, x.2.1, x.2.2)) (l11.drop 0) 0 (0, 0, 0))).bind (lpK (fun ((w2_6_12, w2_7_12, w2_8_12) : (Int × Int × Int)) => cond (eqI w2_8_12 1) (cond (ltI 1 w2_7_12) (some (false, y1b)) ((n.kids[0]?).bind fun x13 => (parser_checker_head_B (⟨y1b⟩ : Ck) x13 (wadd depth 1)).bind fun (y14a, y14b) => cond y14a ((parser_checker_all_clause_B (⟨y14b⟩ : Ck) l11 (wadd depth 1)).bind fun (y15a, y15b) => some (y15a, y15b)) (some (false, y14b)))) (some (false, y1b))) (fun v => some v)))) (some (false, y1b))) (some (false, y1b))) (some (false, y1b))) (some (false, y1b))))) (some (false, y1b))
theorem parser_checker_item_U (c : Ck) (n : Nd) (depth : Int) (yR : Bool) (qc_nodesR : Int) (hS : Sound P G (.call 80 [.ptr 0 0, .agg (ndC n), .sc (.int .i64 depth)] ⟨[(0, .cells (ckC c))], 1, [], 0⟩ (.ret (.sc (.bool yR))) ⟨[(0, .cells [.sc (.int .i64 qc_nodesR)])], 1, [], 0⟩)) (u0 : Nat) (hnb : [u0].Nodup) (hnt : ([] : List Nat).Nodup) : Cd.ok P G (.callU 80 [.ptr u0 0, .agg (ndC n), .sc (.int .i64 depth)] (.ret (.sc (.bool yR))) [(u0, .cells (ckC c))] [] [(u0, .cells [.sc (.int .i64 qc_nodesR)])] []) :=
 frameU (M := [.cells (ckC c)]) (M2 := [.cells [.sc (.int .i64 qc_nodesR)]]) (T := []) (T2 := []) (k := 1) (j := 0) Hd.plainG _ _ _ _ hS rfl rfl rfl rfl rfl hnb hnt rfl rfl (.cons (.cells (.pl (layCk.pl c))) .nil) (.cons (.cells (.pl (plC rfl rfl))) .nil) (.cons (.ptr (by decide)) (.cons (.pl (layNd.plG n)) (.cons (.pl rfl) .nil))) (.pl rfl) (fun e he => by simp only [List.mem_singleton] at he; subst he; exact (.arg (.here .ptr)))
theorem parser_checker_item_step   (c : Ck) (n : Nd) (depth : Int) (yR : Bool) (qc_nodesR : Int) (h : parser_checker_item_B  c n depth = some (yR, qc_nodesR)) : Sound P G (.call 80 [.ptr 0 0, .agg (ndC n), .sc (.int .i64 depth)] ⟨[(0, .cells (ckC c))], 1, [], 0⟩ (.ret (.sc (.bool yR))) ⟨[(0, .cells [.sc (.int .i64 qc_nodesR)])], 1, [], 0⟩) := by
 unfold parser_checker_item_B at h
 refine soundM Hd.mixed (WC_body Tryz.func80 b80 ?_)
 revert h
 refine bndI ?_
 rintro ⟨y1a, y1b⟩ hy1
 dsimp only
 refine cndI (fun hv => ?_) fun hv => ?_
 subst hv
 let o1 : List (PC P G) := [pcallU (parser_checker_node_U c n depth true y1b (parser_checker_node_step c n depth true y1b hy1) 0 (by decide) (by decide))]
 refine cndI (fun hb1 => ?_) fun hb1 => ?_
 refine bndI fun y2 hy2 => ?_
 refine cndI (fun hv => ?_) fun hv => ?_
 subst hv
 refine bndI fun y3 hy3 => ?_
 let o2 : List (PC P G) := o1 ++ [pb hb1, pcall (parser_goodName_step n.name true hy2)]
 refine cndI (fun hv => ?_) fun hv => ?_
 subst hv
 refine cndI (fun hb2 => ?_) fun hb2 => ?_
 refine bndI fun y4 hy4 => ?_
 intro h
 have hE := Option.some.inj h
 obtain ⟨hE0, hF0⟩ := Prod.mk.inj hE
 subst hE0 hF0
 exact go_retM Hd.plainG _ _ [0] [] [fbp [.sc (.int .i64 y1b)] (plC rfl rfl)] _ _ (runS 300 (o2 ++ [pcall (parser_goodUnit_step n.unit true hy3), pb hb2, pcallW (.r (.g (.r (.r (.r (.r (.r (.r (.r (.r (.z (.z (.r .nil))))))))))) .nil)) (parser_bare_step n (⟨0, n.name, n.unit, 0, 0, 0, 0, (⟨0, []⟩ : Fn), [], 0⟩ : Nd) y4 hy4)])) (by kernel_rfl) .body
 intro h
 have hE := Option.some.inj h
 obtain ⟨hE0, hF0⟩ := Prod.mk.inj hE
 subst hE0 hF0
 exact go_retM Hd.plainG _ _ [0] [] [fbp [.sc (.int .i64 y1b)] (plC rfl rfl)] _ _ (runS 300 (o2 ++ [pcall (parser_goodUnit_step n.unit true hy3), pb hb2])) (by kernel_rfl) .body
 subst hv
 intro h
 have hE := Option.some.inj h
 obtain ⟨hE0, hF0⟩ := Prod.mk.inj hE
 subst hE0 hF0
 exact go_retM Hd.plainG _ _ [0] [] [fbp [.sc (.int .i64 y1b)] (plC rfl rfl)] _ _ (runS 300 (o2 ++ [pcall (parser_goodUnit_step n.unit false hy3)])) (by kernel_rfl) .body
 subst hv
 intro h
 have hE := Option.some.inj h
 obtain ⟨hE0, hF0⟩ := Prod.mk.inj hE
 subst hE0 hF0
 exact go_retM Hd.plainG _ _ [0] [] [fbp [.sc (.int .i64 y1b)] (plC rfl rfl)] _ _ (runS 300 (o1 ++ [pb hb1, pcall (parser_goodName_step n.name false hy2)])) (by kernel_rfl) .body
 let o3 : List (PC P G) := o1 ++ [pb hb1]
 refine cndI (fun hb3 => ?_) fun hb3 => ?_
 refine bndI fun y5 hy5 => ?_
 refine cndI (fun hv => ?_) fun hv => ?_
 subst hv
 refine bndI fun y6 hy6 => ?_
 let o4 : List (PC P G) := o3 ++ [pb hb3, pcall (parser_goodName_step n.name true hy5)]
 refine cndI (fun hv => ?_) fun hv => ?_
 subst hv
 let o5 : List (PC P G) := o4 ++ [pcall (parser_goodUnit_step n.unit true hy6)]
 refine cndI (fun hb4 => ?_) fun hb4 => ?_
 refine cndI (fun hb5 => ?_) fun hb5 => ?_
 refine cndI (fun hb6 => ?_) fun hb6 => ?_
 refine bndI fun y7 hy7 => ?_
 intro h
 have hE := Option.some.inj h
 obtain ⟨hE0, hF0⟩ := Prod.mk.inj hE
 subst hE0 hF0
 exact go_retM Hd.plainG _ _ [0] [] [fbp [.sc (.int .i64 y1b)] (plC rfl rfl)] _ _ (runS 300 (o5 ++ [pb hb4, pb hb5, pb hb6, pcallW (.r (.g (.r (.r (.r (.r (.r (.r (.r (.r (.z (.z (.r .nil))))))))))) .nil)) (parser_bare_step n (⟨0, n.name, n.unit, n.n, 0, 0, 0, (⟨0, []⟩ : Fn), [], 0⟩ : Nd) y7 hy7)])) (by kernel_rfl) .body
 intro h
 have hE := Option.some.inj h
 obtain ⟨hE0, hF0⟩ := Prod.mk.inj hE
 subst hE0 hF0
 exact go_retM Hd.plainG _ _ [0] [] [fbp [.sc (.int .i64 y1b)] (plC rfl rfl)] _ _ (runS 300 (o5 ++ [pb hb4, pb hb5, pb hb6])) (by kernel_rfl) .body
 intro h
 have hE := Option.some.inj h
 obtain ⟨hE0, hF0⟩ := Prod.mk.inj hE
 subst hE0 hF0
 exact go_retM Hd.plainG _ _ [0] [] [fbp [.sc (.int .i64 y1b)] (plC rfl rfl)] _ _ (runS 300 (o5 ++ [pb hb4, pb hb5])) (by kernel_rfl) .body
 intro h
 have hE := Option.some.inj h
 obtain ⟨hE0, hF0⟩ := Prod.mk.inj hE
 subst hE0 hF0
 exact go_retM Hd.plainG _ _ [0] [] [fbp [.sc (.int .i64 y1b)] (plC rfl rfl)] _ _ (runS 300 (o5 ++ [pb hb4])) (by kernel_rfl) .body
 subst hv
 intro h
 have hE := Option.some.inj h
 obtain ⟨hE0, hF0⟩ := Prod.mk.inj hE
 subst hE0 hF0
 exact go_retM Hd.plainG _ _ [0] [] [fbp [.sc (.int .i64 y1b)] (plC rfl rfl)] _ _ (runS 300 (o4 ++ [pcall (parser_goodUnit_step n.unit false hy6)])) (by kernel_rfl) .body
 subst hv
 intro h
 have hE := Option.some.inj h
 obtain ⟨hE0, hF0⟩ := Prod.mk.inj hE
 subst hE0 hF0
 exact go_retM Hd.plainG _ _ [0] [] [fbp [.sc (.int .i64 y1b)] (plC rfl rfl)] _ _ (runS 300 (o3 ++ [pb hb3, pcall (parser_goodName_step n.name false hy5)])) (by kernel_rfl) .body
 refine cndI (fun hb7 => ?_) fun hb7 => ?_
 refine bndI fun y8 hy8 => ?_
 refine cndI (fun hv => ?_) fun hv => ?_
 subst hv
 refine bndI fun y9 hy9 => ?_
 let o6 : List (PC P G) := o3 ++ [pb hb3, pb hb7, pcall (parser_goodRatio_step n.n true hy8)]
 refine cndI (fun hv => ?_) fun hv => ?_
 subst hv
 refine bndI fun y10 hy10 => ?_
 let o7 : List (PC P G) := o6 ++ [pcall (parser_goodName_step n.name true hy9)]
 refine cndI (fun hv => ?_) fun hv => ?_
 subst hv
 let o8 : List (PC P G) := o7 ++ [pcallW (.r (.g (.r (.r (.r (.r (.r (.r (.r (.r (.z (.z (.r .nil))))))))))) .nil)) (parser_bare_step n (⟨0, n.name, ByteArray.empty, n.n, 0, 0, 0, (⟨0, []⟩ : Fn), [], 0⟩ : Nd) true hy10)]
 refine cndI (fun hb8 => ?_) fun hb8 => ?_
 intro h
 have hE := Option.some.inj h
 obtain ⟨hE0, hF0⟩ := Prod.mk.inj hE
 subst hE0 hF0
 exact go_retM Hd.plainG _ _ [0] [] [fbp [.sc (.int .i64 y1b)] (plC rfl rfl)] _ _ (runS 300 (o8 ++ [pb hb8])) (by kernel_rfl) .body
 refine bndI fun l11 hl11 => ?_
 refine bndI fun res hres h => ?_
 have hlen := (limE hres).1
 replace hres := (limE hres).2
 refine go_at [] [0, 1, 2, 4, 6, 7, 11, 13, 14, 17, 18, 21, 22, 25, 26, 27, 31, 32, 33, 34, 39, 40, 41, 42, 43, 46, 47, 50, 51, 52, 55, 56, 57, 60, 61, 62, 66, 67, 68, 69, 76, 77, 78, 79, 80, 83, 84, 85, 88, 89, 90, 91, 92, 97, 98, 99, 100, 101, 105, 106, 107, 110, 111, 112, 113, 115, 118, 119, 122, 123, 133, 134, 137, 138, 143, 146, 147, 156, 157] 1 (sub B80 [1, 1, 0, 1, 0, 1, 1, 1, 1, 1, 0, 1, 1, 0, 1, 0, 0]) [.code (sub B80 [1, 1, 0, 1, 0, 1, 1, 1, 1, 1, 0, 1, 1, 1]), .endb 0, .code (sub B80 [1, 1, 1])] _ _ (runS 300 (o8 ++ [pb hb8, psli (sublL25 hl11)])) (by kernel_rfl) (foldM (fn := Tryz.f80) (m := 1) (s00 := ⟨[(0, .cells (ckC c))], 1, [], 0⟩) (fun v => .sc (.bool v.1)) (fun v => ⟨[(0, .cells [.sc (.int .i64 v.2)])], 1, [], 0⟩) 1 l11 (fun i0 ((w2_6, w2_7, w2_8) : (Int × Int × Int)) (j0 : JJ) => frm 158 0 [(0, .ptr 0 0), (2, .sc (.int .i64 depth)), (4, .ptr 1 0), (7, .ptr 2 0), (110, .sl .lost l11.length (ndsC l11)), (111, .sc (.int .i64 ((l11.length : Nat) : Int))), (112, .sc (.int .i64 ((i0 : Nat) : Int)))] [6, 13, 14, 17, 18, 21, 22, 25, 26, 27, 31, 32, 33, 40, 41, 42, 43, 46, 47, 50, 51, 52, 55, 56, 57, 60, 61, 62, 66, 67, 68, 77, 78, 79, 80, 83, 84, 85, 88, 89, 90, 91, 98, 99, 100, 101, 105, 106, 113, 118, 119, 122, 123, 133, 134, 137, 138, 146, 147, 156, 157] 0 [1, 11, 34, 39, 69, 76, 92, 97, 107, 115, 143] 0 j0) (fun (_ : Nat) ((w2_6, w2_7, w2_8) : (Int × Int × Int)) (_ : JJ) => ⟨[(2, .cells [.sc (.int .i64 0), .sc (.int .i64 0), .sc (.int .i64 0), .sc (.int .i64 0), .sc (.int .i64 0), .sc (.int .i64 0), .sc (.int .i64 w2_6), .sc (.int .i64 w2_7), .sc (.int .i64 w2_8)]), (1, .cells (ndC n)), (0, .cells [.sc (.int .i64 y1b)])], 3, [], 0⟩) (fun (j : JJ) => plainL j.2 = true) (fun ((w2_6, w2_7, w2_8) : (Int × Int × Int)) (jx : JJ) => frm 158 0 [(0, .ptr 0 0), (2, .sc (.int .i64 depth)), (4, .ptr 1 0), (7, .ptr 2 0)] [6, 13, 14, 17, 18, 21, 22, 25, 26, 27, 31, 32, 33, 40, 41, 42, 43, 46, 47, 50, 51, 52, 55, 56, 57, 60, 61, 62, 66, 67, 68, 77, 78, 79, 80, 83, 84, 85, 88, 89, 90, 91, 98, 99, 100, 101, 105, 106, 113, 118, 119, 122, 123, 133, 134, 137, 138, 146, 147, 156, 157] 0 [1, 11, 34, 39, 69, 76, 92, 97, 107, 115, 143] 0 jx) (fun ((w2_6, w2_7, w2_8) : (Int × Int × Int)) (_ : JJ) => ⟨[(2, .cells [.sc (.int .i64 0), .sc (.int .i64 0), .sc (.int .i64 0), .sc (.int .i64 0), .sc (.int .i64 0), .sc (.int .i64 0), .sc (.int .i64 w2_6), .sc (.int .i64 w2_7), .sc (.int .i64 w2_8)]), (1, .cells (ndC n)), (0, .cells [.sc (.int .i64 y1b)])], 3, [], 0⟩) (fun (j : JJ) => plainL j.2 = true) ?_ ?_ 0 hres ?_ ?_ ([.bool false, .bool true, .bool false, .bool false, .bool false, undef, undef, undef, undef, undef, undef, undef, undef, undef, undef, .bool false, .bool false, undef, undef, undef, undef, undef, undef, undef, undef, undef, undef, undef, undef, undef, undef, undef, undef, .bool true, .bool true, .bool true, .bool false, .bool false, .bool true, .bool false, .bool false, .bool false, .bool true, .bool false, .bool false, .bool false, .bool false, .bool false], [.agg (ndC n), .agg (ndC n), .sc undef, .sc undef, .sc undef, .sc undef, .agg (ndC n), .agg [.sc (.int .i64 0), .sc (.string n.name), .sc (.string ByteArray.empty), .sc (.int .i64 n.n), .sc (.int .i64 0), .sc (.int .i64 0), .sc (.int .i64 0), .sc (.int .i64 0), .sl .full 0 [], .sl .full 0 [], .sc (.int .i64 0)], .agg [.sc (.int .i64 0), .sc (.int .i64 0), .sc (.int .i64 0), .sc (.int .i64 0), .sc (.int .i64 0), .sc (.int .i64 0), .sc (.int .i64 0), .sc (.int .i64 0), .sc (.int .i64 0)], .sc undef, .sc undef]) (plC (layNd.plG n) (plC (layNd.plG n) (plC rfl (plC rfl (plC rfl (plC rfl (plC (layNd.plG n) (plC (plC rfl (plC rfl (plC rfl (plC rfl (plC rfl (plC rfl (plC rfl (plC rfl (plC (plSlF rfl) (plC (plSlF rfl) (plC rfl rfl))))))))))) (plC (plC rfl (plC rfl (plC rfl (plC rfl (plC rfl (plC rfl (plC rfl (plC rfl (plC rfl rfl))))))))) (plC rfl (plC rfl rfl))))))))))))
 rintro i0 ⟨w2_6, w2_7, w2_8⟩ j0 hj0 hge hq
 clear h hres
 refine WL_rnd ?_
 exact go_ex Hd.plainG [0, 3, 4, 8, 12, 14, 23, 26, 28, 34, 36, 42, 44, 50, 52, 54, 62, 64, 66, 69, 79, 80, 82, 84, 86, 92, 94, 100, 102, 104, 110, 112, 114, 120, 122, 124, 132, 134, 136, 139, 153, 154, 156, 158, 160, 166, 168, 170, 176, 178, 180, 182, 185, 195, 196, 198, 200, 202, 210, 212, 215, 226, 231, 236, 238, 244, 246, 266, 268, 274, 276, 287, 292, 294, 312, 314] [fq (gn_pl hj0 0), fq (gn_pl hj0 1), fq (gn_pl hj0 2), fq (gn_pl hj0 3), fq (gn_pl hj0 4), fq (gn_pl hj0 5), fq (gn_pl hj0 6), fq (gn_pl hj0 7), fq (gn_pl hj0 8), fq (gn_pl hj0 9), fq (gn_pl hj0 10)] [fbp [.sc (.int .i64 0), .sc (.int .i64 0), .sc (.int .i64 0), .sc (.int .i64 0), .sc (.int .i64 0), .sc (.int .i64 0), .sc (.int .i64 w2_6), .sc (.int .i64 w2_7), .sc (.int .i64 w2_8)] (plC rfl (plC rfl (plC rfl (plC rfl (plC rfl (plC rfl (plC rfl (plC rfl (plC rfl rfl))))))))), fbp (ndC n) (layNd.pl n), fbp [.sc (.int .i64 y1b)] (plC rfl rfl)] 1 _ _ (runS 300 [pb (B := ltI ((i0 : Nat) : Int) ((l11.length : Nat) : Int)) (b := false) (ltF hge)]) (by kernel_rfl) (hq ([(jn j0 0), (jn j0 1), (jn j0 2), (jn j0 3), (jn j0 4), (jn j0 5), (jn j0 6), (jn j0 7), (jn j0 8), (jn j0 9), (jn j0 10), (jn j0 11), (jn j0 12), (jn j0 13), (jn j0 14), (jn j0 15), (jn j0 16), (jn j0 17), (jn j0 18), (jn j0 19), (jn j0 20), (jn j0 21), (jn j0 22), (jn j0 23), (jn j0 24), (jn j0 25), (jn j0 26), (jn j0 27), (jn j0 28), (jn j0 29), (jn j0 30), (jn j0 31), (jn j0 32), (jn j0 33), (jn j0 34), (jn j0 35), (jn j0 36), (jn j0 37), (jn j0 38), (jn j0 39), (jn j0 40), (jn j0 41), (jn j0 42), (jn j0 43), (jn j0 44), (jn j0 45), (jn j0 46), (jn j0 47), .bool false, (jn j0 49), (jn j0 50), (jn j0 51), (jn j0 52), (jn j0 53), (jn j0 54), (jn j0 55), (jn j0 56), (jn j0 57), (jn j0 58), (jn j0 59), (jn j0 60)], [(gn j0 0), (gn j0 1), (gn j0 2), (gn j0 3), (gn j0 4), (gn j0 5), (gn j0 6), (gn j0 7), (gn j0 8), (gn j0 9), (gn j0 10)]) (plC (gn_pl hj0 0) (plC (gn_pl hj0 1) (plC (gn_pl hj0 2) (plC (gn_pl hj0 3) (plC (gn_pl hj0 4) (plC (gn_pl hj0 5) (plC (gn_pl hj0 6) (plC (gn_pl hj0 7) (plC (gn_pl hj0 8) (plC (gn_pl hj0 9) (plC (gn_pl hj0 10) rfl))))))))))))
 clear h hres
 rintro i0 e0 ⟨w2_6, w2_7, w2_8⟩ j0 r hj0 he0 hi0 h k
 refine WL_rnd ?_
 revert h
 show parser_checker_item_L1  y1b i0 e0 w2_6 w2_7 w2_8 = some r → _
 unfold parser_checker_item_L1
 let o9 : List (PC P G) := [pb (B := ltI ((i0 : Nat) : Int) ((l11.length : Nat) : Int)) (b := true) (ltT hi0), pix (ix25 .lost he0)]
 refine cndI (fun hb9 => ?_) fun hb9 => ?_
 rintro ⟨⟩
 exact go_retM Hd.plainG _ _ [0] [] [fbp [.sc (.int .i64 y1b)] (plC rfl rfl)] _ _ (runS 300 (o9 ++ [pb hb9])) (by kernel_rfl) (.rnd k)
 refine cndI (fun hb10 => ?_) fun hb10 => ?_
 rintro ⟨⟩
 exact go_retM Hd.plainG _ _ [0] [] [fbp [.sc (.int .i64 y1b)] (plC rfl rfl)] _ _ (runS 300 (o9 ++ [pb hb9, pb hb10])) (by kernel_rfl) (.rnd k)
 refine cndI (fun hb11 => ?_) fun hb11 => ?_
 rintro ⟨⟩
 exact go_nx Hd.plainG [0, 3, 4, 8, 12, 14, 23, 26, 28, 34, 36, 42, 44, 50, 52, 54, 62, 64, 66, 69, 79, 80, 82, 84, 86, 92, 94, 100, 102, 104, 110, 112, 114, 120, 122, 124, 132, 134, 136, 139, 153, 154, 156, 158, 160, 166, 168, 170, 176, 178, 180, 182, 185, 195, 196, 198, 200, 202, 210, 212, 215, 221, 222, 224, 226, 231, 236, 238, 244, 246, 266, 268, 274, 276, 287, 292, 294, 312, 314] [fq (gn_pl hj0 0), fq (gn_pl hj0 1), fq (gn_pl hj0 2), fq (gn_pl hj0 3), fq (gn_pl hj0 4), fq (gn_pl hj0 5), fq (gn_pl hj0 6), fq (gn_pl hj0 7), fq (gn_pl hj0 8), fq (layNd.plS l11), fq (layNd.plG e0), fq (gn_pl hj0 10)] [fbp [.sc (.int .i64 0), .sc (.int .i64 0), .sc (.int .i64 0), .sc (.int .i64 0), .sc (.int .i64 0), .sc (.int .i64 0), .sc (.int .i64 (wadd w2_6 1)), .sc (.int .i64 w2_7), .sc (.int .i64 w2_8)] (plC rfl (plC rfl (plC rfl (plC rfl (plC rfl (plC rfl (plC rfl (plC rfl (plC rfl rfl))))))))), fbp (ndC n) (layNd.pl n), fbp [.sc (.int .i64 y1b)] (plC rfl rfl)] _ _ (runS 300 (o9 ++ [pb hb9, pb hb10, pix (t := 159) (a := .ptr 2 0) (b := .sc (.int .i64 e0.kind)) (v := .ptr 2 6) (by rw [eqI_T hb11]; kernel_rfl), pk, pix (t := 159) (a := .ptr 2 0) (b := .sc (.int .i64 e0.kind)) (v := .ptr 2 6) (by rw [eqI_T hb11]; kernel_rfl), pinc i0 (by omega)])) (by kernel_rfl) (k ([(jn j0 0), (jn j0 1), (jn j0 2), (jn j0 3), (jn j0 4), (jn j0 5), (jn j0 6), (jn j0 7), (jn j0 8), (jn j0 9), (jn j0 10), (jn j0 11), (jn j0 12), (jn j0 13), (jn j0 14), (jn j0 15), (jn j0 16), (jn j0 17), (jn j0 18), (jn j0 19), (jn j0 20), (jn j0 21), (jn j0 22), (jn j0 23), (jn j0 24), (jn j0 25), (jn j0 26), (jn j0 27), (jn j0 28), (jn j0 29), (jn j0 30), (jn j0 31), (jn j0 32), (jn j0 33), (jn j0 34), (jn j0 35), (jn j0 36), (jn j0 37), (jn j0 38), (jn j0 39), (jn j0 40), (jn j0 41), (jn j0 42), (jn j0 43), (jn j0 44), (jn j0 45), (jn j0 46), (jn j0 47), .bool true, .bool false, .bool false, .bool false, .bool false, (jn j0 53), (jn j0 54), (jn j0 55), (jn j0 56), (jn j0 57), (jn j0 58), (jn j0 59), (jn j0 60)], [(gn j0 0), (gn j0 1), (gn j0 2), (gn j0 3), (gn j0 4), (gn j0 5), (gn j0 6), (gn j0 7), (gn j0 8), .agg (ndC e0), (gn j0 10)]) (plC (gn_pl hj0 0) (plC (gn_pl hj0 1) (plC (gn_pl hj0 2) (plC (gn_pl hj0 3) (plC (gn_pl hj0 4) (plC (gn_pl hj0 5) (plC (gn_pl hj0 6) (plC (gn_pl hj0 7) (plC (gn_pl hj0 8) (plC (layNd.plG e0) (plC (gn_pl hj0 10) rfl))))))))))))
 refine cndI (fun hb12 => ?_) fun hb12 => ?_
 rintro ⟨⟩
 exact go_nx Hd.plainG [0, 3, 4, 8, 12, 14, 23, 26, 28, 34, 36, 42, 44, 50, 52, 54, 62, 64, 66, 69, 79, 80, 82, 84, 86, 92, 94, 100, 102, 104, 110, 112, 114, 120, 122, 124, 132, 134, 136, 139, 153, 154, 156, 158, 160, 166, 168, 170, 176, 178, 180, 182, 185, 195, 196, 198, 200, 202, 210, 212, 215, 221, 222, 224, 226, 231, 236, 238, 244, 246, 266, 268, 274, 276, 287, 292, 294, 312, 314] [fq (gn_pl hj0 0), fq (gn_pl hj0 1), fq (gn_pl hj0 2), fq (gn_pl hj0 3), fq (gn_pl hj0 4), fq (gn_pl hj0 5), fq (gn_pl hj0 6), fq (gn_pl hj0 7), fq (gn_pl hj0 8), fq (layNd.plS l11), fq (layNd.plG e0), fq (gn_pl hj0 10)] [fbp [.sc (.int .i64 0), .sc (.int .i64 0), .sc (.int .i64 0), .sc (.int .i64 0), .sc (.int .i64 0), .sc (.int .i64 0), .sc (.int .i64 w2_6), .sc (.int .i64 (wadd w2_7 1)), .sc (.int .i64 w2_8)] (plC rfl (plC rfl (plC rfl (plC rfl (plC rfl (plC rfl (plC rfl (plC rfl (plC rfl rfl))))))))), fbp (ndC n) (layNd.pl n), fbp [.sc (.int .i64 y1b)] (plC rfl rfl)] _ _ (runS 300 (o9 ++ [pb hb9, pb hb10, pix (t := 159) (a := .ptr 2 0) (b := .sc (.int .i64 e0.kind)) (v := .ptr 2 7) (by rw [eqI_T hb12]; kernel_rfl), pk, pix (t := 159) (a := .ptr 2 0) (b := .sc (.int .i64 e0.kind)) (v := .ptr 2 7) (by rw [eqI_T hb12]; kernel_rfl), pinc i0 (by omega)])) (by kernel_rfl) (k ([(jn j0 0), (jn j0 1), (jn j0 2), (jn j0 3), (jn j0 4), (jn j0 5), (jn j0 6), (jn j0 7), (jn j0 8), (jn j0 9), (jn j0 10), (jn j0 11), (jn j0 12), (jn j0 13), (jn j0 14), (jn j0 15), (jn j0 16), (jn j0 17), (jn j0 18), (jn j0 19), (jn j0 20), (jn j0 21), (jn j0 22), (jn j0 23), (jn j0 24), (jn j0 25), (jn j0 26), (jn j0 27), (jn j0 28), (jn j0 29), (jn j0 30), (jn j0 31), (jn j0 32), (jn j0 33), (jn j0 34), (jn j0 35), (jn j0 36), (jn j0 37), (jn j0 38), (jn j0 39), (jn j0 40), (jn j0 41), (jn j0 42), (jn j0 43), (jn j0 44), (jn j0 45), (jn j0 46), (jn j0 47), .bool true, .bool false, .bool false, .bool false, .bool false, (jn j0 53), (jn j0 54), (jn j0 55), (jn j0 56), (jn j0 57), (jn j0 58), (jn j0 59), (jn j0 60)], [(gn j0 0), (gn j0 1), (gn j0 2), (gn j0 3), (gn j0 4), (gn j0 5), (gn j0 6), (gn j0 7), (gn j0 8), .agg (ndC e0), (gn j0 10)]) (plC (gn_pl hj0 0) (plC (gn_pl hj0 1) (plC (gn_pl hj0 2) (plC (gn_pl hj0 3) (plC (gn_pl hj0 4) (plC (gn_pl hj0 5) (plC (gn_pl hj0 6) (plC (gn_pl hj0 7) (plC (gn_pl hj0 8) (plC (layNd.plG e0) (plC (gn_pl hj0 10) rfl))))))))))))
 refine cndI (fun hb13 => ?_) fun hb13 => ?_
 rintro ⟨⟩
 exact go_nx Hd.plainG [0, 3, 4, 8, 12, 14, 23, 26, 28, 34, 36, 42, 44, 50, 52, 54, 62, 64, 66, 69, 79, 80, 82, 84, 86, 92, 94, 100, 102, 104, 110, 112, 114, 120, 122, 124, 132, 134, 136, 139, 153, 154, 156, 158, 160, 166, 168, 170, 176, 178, 180, 182, 185, 195, 196, 198, 200, 202, 210, 212, 215, 221, 222, 224, 226, 231, 236, 238, 244, 246, 266, 268, 274, 276, 287, 292, 294, 312, 314] [fq (gn_pl hj0 0), fq (gn_pl hj0 1), fq (gn_pl hj0 2), fq (gn_pl hj0 3), fq (gn_pl hj0 4), fq (gn_pl hj0 5), fq (gn_pl hj0 6), fq (gn_pl hj0 7), fq (gn_pl hj0 8), fq (layNd.plS l11), fq (layNd.plG e0), fq (gn_pl hj0 10)] [fbp [.sc (.int .i64 0), .sc (.int .i64 0), .sc (.int .i64 0), .sc (.int .i64 0), .sc (.int .i64 0), .sc (.int .i64 0), .sc (.int .i64 w2_6), .sc (.int .i64 w2_7), .sc (.int .i64 (wadd w2_8 1))] (plC rfl (plC rfl (plC rfl (plC rfl (plC rfl (plC rfl (plC rfl (plC rfl (plC rfl rfl))))))))), fbp (ndC n) (layNd.pl n), fbp [.sc (.int .i64 y1b)] (plC rfl rfl)] _ _ (runS 300 (o9 ++ [pb hb9, pb hb10, pix (t := 159) (a := .ptr 2 0) (b := .sc (.int .i64 e0.kind)) (v := .ptr 2 8) (by rw [eqI_T hb13]; kernel_rfl), pk, pix (t := 159) (a := .ptr 2 0) (b := .sc (.int .i64 e0.kind)) (v := .ptr 2 8) (by rw [eqI_T hb13]; kernel_rfl), pinc i0 (by omega)])) (by kernel_rfl) (k ([(jn j0 0), (jn j0 1), (jn j0 2), (jn j0 3), (jn j0 4), (jn j0 5), (jn j0 6), (jn j0 7), (jn j0 8), (jn j0 9), (jn j0 10), (jn j0 11), (jn j0 12), (jn j0 13), (jn j0 14), (jn j0 15), (jn j0 16), (jn j0 17), (jn j0 18), (jn j0 19), (jn j0 20), (jn j0 21), (jn j0 22), (jn j0 23), (jn j0 24), (jn j0 25), (jn j0 26), (jn j0 27), (jn j0 28), (jn j0 29), (jn j0 30), (jn j0 31), (jn j0 32), (jn j0 33), (jn j0 34), (jn j0 35), (jn j0 36), (jn j0 37), (jn j0 38), (jn j0 39), (jn j0 40), (jn j0 41), (jn j0 42), (jn j0 43), (jn j0 44), (jn j0 45), (jn j0 46), (jn j0 47), .bool true, .bool false, .bool false, .bool false, .bool false, (jn j0 53), (jn j0 54), (jn j0 55), (jn j0 56), (jn j0 57), (jn j0 58), (jn j0 59), (jn j0 60)], [(gn j0 0), (gn j0 1), (gn j0 2), (gn j0 3), (gn j0 4), (gn j0 5), (gn j0 6), (gn j0 7), (gn j0 8), .agg (ndC e0), (gn j0 10)]) (plC (gn_pl hj0 0) (plC (gn_pl hj0 1) (plC (gn_pl hj0 2) (plC (gn_pl hj0 3) (plC (gn_pl hj0 4) (plC (gn_pl hj0 5) (plC (gn_pl hj0 6) (plC (gn_pl hj0 7) (plC (gn_pl hj0 8) (plC (layNd.plG e0) (plC (gn_pl hj0 10) rfl))))))))))))
 exact nonI
 rintro ⟨w2_6_12, w2_7_12, w2_8_12⟩ rfl jx_12 hjx_12
 revert h
 clear hres
 dsimp only [lpK]
 refine cndI (fun hb14 => ?_) fun hb14 => ?_
 refine cndI (fun hb15 => ?_) fun hb15 => ?_
 intro h
 have hE := Option.some.inj h
 obtain ⟨hE0, hF0⟩ := Prod.mk.inj hE
 subst hE0 hF0
 exact go_retM Hd.plainG _ _ [0] [] [fbp [.sc (.int .i64 y1b)] (plC rfl rfl)] _ _ (runX 300 [pk, pn hb14, pk, pb hb15]) (by kernel_rfl) .body
 refine bndI fun x13 hx13 => ?_
 refine bndI ?_
 rintro ⟨y14a, y14b⟩ hy14
 dsimp only
 refine cndI (fun hv => ?_) fun hv => ?_
 subst hv
 refine bndI ?_
 rintro ⟨y15a, y15b⟩ hy15
 dsimp only
 intro h
 have hE := Option.some.inj h
 obtain ⟨hE0, hF0⟩ := Prod.mk.inj hE
 subst hE0 hF0
 exact go_retM Hd.plainG _ _ [0] [] [fbp [.sc (.int .i64 y15b)] (plC rfl rfl)] _ _ (runX 300 [pk, pn hb14, pk, pb hb15, pix (ix25 .lost hx13), pk, pcallU (parser_checker_head_U (⟨y1b⟩ : Ck) x13 (wadd depth 1) true y14b (parser_checker_head_step (⟨y1b⟩ : Ck) x13 (wadd depth 1) true y14b hy14) 0 (by decide) (by decide)), psli (sublL25 hl11), pk, pcallU (parser_checker_all_clause_U (⟨y14b⟩ : Ck) l11 (wadd depth 1) y15a y15b (parser_checker_all_clause_step (⟨y14b⟩ : Ck) l11 (wadd depth 1) y15a y15b hy15) 0 (by decide) (by decide))]) (by kernel_rfl) .body
 subst hv
 intro h
 have hE := Option.some.inj h
 obtain ⟨hE0, hF0⟩ := Prod.mk.inj hE
 subst hE0 hF0
 exact go_retM Hd.plainG _ _ [0] [] [fbp [.sc (.int .i64 y14b)] (plC rfl rfl)] _ _ (runX 300 [pk, pn hb14, pk, pb hb15, pix (ix25 .lost hx13), pk, pcallU (parser_checker_head_U (⟨y1b⟩ : Ck) x13 (wadd depth 1) false y14b (parser_checker_head_step (⟨y1b⟩ : Ck) x13 (wadd depth 1) false y14b hy14) 0 (by decide) (by decide))]) (by kernel_rfl) .body
 intro h
 have hE := Option.some.inj h
 obtain ⟨hE0, hF0⟩ := Prod.mk.inj hE
 subst hE0 hF0
 exact go_retM Hd.plainG _ _ [0] [] [fbp [.sc (.int .i64 y1b)] (plC rfl rfl)] _ _ (runX 300 [pk, pn hb14]) (by kernel_rfl) .body
 rintro v rfl
 dsimp only [lpK] at h
 cases h
 exact .outer .body
 subst hv
 intro h
 have hE := Option.some.inj h
 obtain ⟨hE0, hF0⟩ := Prod.mk.inj hE
 subst hE0 hF0
 exact go_retM Hd.plainG _ _ [0] [] [fbp [.sc (.int .i64 y1b)] (plC rfl rfl)] _ _ (runS 300 (o7 ++ [pcallW (.r (.g (.r (.r (.r (.r (.r (.r (.r (.r (.z (.z (.r .nil))))))))))) .nil)) (parser_bare_step n (⟨0, n.name, ByteArray.empty, n.n, 0, 0, 0, (⟨0, []⟩ : Fn), [], 0⟩ : Nd) false hy10)])) (by kernel_rfl) .body
 subst hv
 intro h
 have hE := Option.some.inj h
 obtain ⟨hE0, hF0⟩ := Prod.mk.inj hE
 subst hE0 hF0
 exact go_retM Hd.plainG _ _ [0] [] [fbp [.sc (.int .i64 y1b)] (plC rfl rfl)] _ _ (runS 300 (o6 ++ [pcall (parser_goodName_step n.name false hy9)])) (by kernel_rfl) .body
 subst hv
 intro h
 have hE := Option.some.inj h
 obtain ⟨hE0, hF0⟩ := Prod.mk.inj hE
 subst hE0 hF0
 exact go_retM Hd.plainG _ _ [0] [] [fbp [.sc (.int .i64 y1b)] (plC rfl rfl)] _ _ (runS 300 (o3 ++ [pb hb3, pb hb7, pcall (parser_goodRatio_step n.n false hy8)])) (by kernel_rfl) .body
 intro h
 have hE := Option.some.inj h
 obtain ⟨hE0, hF0⟩ := Prod.mk.inj hE
 subst hE0 hF0
 exact go_retM Hd.plainG _ _ [0] [] [fbp [.sc (.int .i64 y1b)] (plC rfl rfl)] _ _ (runS 300 (o3 ++ [pb hb3, pb hb7])) (by kernel_rfl) .body
 subst hv
 intro h
 have hE := Option.some.inj h
 obtain ⟨hE0, hF0⟩ := Prod.mk.inj hE
 subst hE0 hF0
 exact go_retM Hd.plainG _ _ [0] [] [fbp [.sc (.int .i64 y1b)] (plC rfl rfl)] _ _ (runS 300 [pcallU (parser_checker_node_U c n depth false y1b (parser_checker_node_step c n depth false y1b hy1) 0 (by decide) (by decide))]) (by kernel_rfl) .body
noncomputable def parser_checker_all_item_L1  (depth : Int) (i0 : Nat) (e0 : Nd) (w0_0 : Int) : Option (Lp Int Int (Bool × Int)) := (parser_checker_item_B (⟨w0_0⟩ : Ck) e0 depth).bind fun (y1a, y1b) => cond y1a (some (.nx y1b)) (some (.rt (false, y1b)))
noncomputable def parser_checker_all_item_B  (c : Ck) (list : (List Nd)) (depth : Int) : Option (Bool × Int) := (lim list.length (foldL (fun i y x => parser_checker_all_item_L1  depth i y x) (fun x => x) (list.drop 0) 0 c.nodes)).bind (lpK (fun (w0_0_2 : Int) => some (true, w0_0_2)) (fun v => some v))
theorem parser_checker_all_item_U (c : Ck) (list : (List Nd)) (depth : Int) (yR : Bool) (qc_nodesR : Int) (hS : Sound P G (.call 79 [.ptr 0 0, .sl .lost list.length (ndsC list), .sc (.int .i64 depth), .fn (.func 80) [.ptr 0 0] []] ⟨[(0, .cells (ckC c))], 1, [], 0⟩ (.ret (.sc (.bool yR))) ⟨[(0, .cells [.sc (.int .i64 qc_nodesR)])], 1, [], 0⟩)) (u0 : Nat) (hnb : [u0].Nodup) (hnt : ([] : List Nat).Nodup) : Cd.ok P G (.callU 79 [.ptr u0 0, .sl .lost list.length (ndsC list), .sc (.int .i64 depth), .fn (.func 80) [.ptr u0 0] []] (.ret (.sc (.bool yR))) [(u0, .cells (ckC c))] [] [(u0, .cells [.sc (.int .i64 qc_nodesR)])] []) :=
 frameU (M := [.cells (ckC c)]) (M2 := [.cells [.sc (.int .i64 qc_nodesR)]]) (T := []) (T2 := []) (k := 1) (j := 0) Hd.plainG _ _ _ _ hS rfl rfl rfl rfl rfl hnb hnt rfl rfl (.cons (.cells (.pl (layCk.pl c))) .nil) (.cons (.cells (.pl (plC rfl rfl))) .nil) (.cons (.ptr (by decide)) (.cons (.pl (layNd.plS list)) (.cons (.pl rfl) (.cons (.fn (.cons (.ptr (by decide)) .nil) (.pl rfl)) .nil)))) (.pl rfl) (fun e he => by simp only [List.mem_singleton] at he; subst he; exact (.arg (.here .ptr)))
theorem parser_checker_all_item_step   (c : Ck) (list : (List Nd)) (depth : Int) (yR : Bool) (qc_nodesR : Int) (h : parser_checker_all_item_B  c list depth = some (yR, qc_nodesR)) : Sound P G (.call 79 [.ptr 0 0, .sl .lost list.length (ndsC list), .sc (.int .i64 depth), .fn (.func 80) [.ptr 0 0] []] ⟨[(0, .cells (ckC c))], 1, [], 0⟩ (.ret (.sc (.bool yR))) ⟨[(0, .cells [.sc (.int .i64 qc_nodesR)])], 1, [], 0⟩) := by
 unfold parser_checker_all_item_B at h
 refine soundM Hd.mixed (WC_body Tryz.func79 b79 ?_)
 revert h
 refine bndI fun res hres h => ?_
 have hlen := (limE hres).1
 replace hres := (limE hres).2
 refine go_at [] [2, 3, 8, 11, 12, 13, 14, 16, 18, 20, 21] 0 (sub B79 [1, 0, 1, 0, 0]) [.code (sub B79 [1, 1])] _ _ (runS 300 []) (by kernel_rfl) (foldM (fn := Tryz.f79) (m := 1) (s00 := ⟨[(0, .cells (ckC c))], 1, [], 0⟩) (fun v => .sc (.bool v.1)) (fun v => ⟨[(0, .cells [.sc (.int .i64 v.2)])], 1, [], 0⟩) 0 list (fun i0 (w0_0 : Int) (j0 : JJ) => frm 23 0 [(2, .sc (.int .i64 depth)), (3, .fn (.func 80) [.ptr 0 0] []), (11, .sl .lost list.length (ndsC list)), (12, .sc (.int .i64 ((list.length : Nat) : Int))), (13, .sc (.int .i64 ((i0 : Nat) : Int)))] [8, 14, 20, 21] 0 [16, 18] 0 j0) (fun (_ : Nat) (w0_0 : Int) (_ : JJ) => ⟨[(0, .cells [.sc (.int .i64 w0_0)])], 1, [], 0⟩) (fun (j : JJ) => plainL j.2 = true) (fun (w0_0 : Int) (jx : JJ) => frm 23 0 [] [8, 14, 20, 21] 0 [16, 18] 0 jx) (fun (w0_0 : Int) (_ : JJ) => ⟨[(0, .cells [.sc (.int .i64 w0_0)])], 1, [], 0⟩) (fun (j : JJ) => plainL j.2 = true) ?_ ?_ 0 hres ?_ ?_ ([.bool false], [.sc undef, .sc undef]) (plC rfl (plC rfl rfl)))
 rintro i0 w0_0 j0 hj0 hge hq
 clear h hres
 refine WL_rnd ?_
 exact go_ex Hd.plainG [16, 28, 33, 37, 40, 42] [fq (gn_pl hj0 0), fq (gn_pl hj0 1)] [fbp [.sc (.int .i64 w0_0)] (plC rfl rfl)] 0 _ _ (runS 300 [pb (B := ltI ((i0 : Nat) : Int) ((list.length : Nat) : Int)) (b := false) (ltF hge)]) (by kernel_rfl) (hq ([(jn j0 0), .bool false, (jn j0 2), (jn j0 3)], [(gn j0 0), (gn j0 1)]) (plC (gn_pl hj0 0) (plC (gn_pl hj0 1) rfl)))
 clear h hres
 rintro i0 e0 w0_0 j0 r hj0 he0 hi0 h k
 refine WL_rnd ?_
 revert h
 show parser_checker_all_item_L1  depth i0 e0 w0_0 = some r → _
 unfold parser_checker_all_item_L1
 refine bndI ?_
 rintro ⟨y1a, y1b⟩ hy1
 dsimp only
 let o1 : List (PC P G) := [pb (B := ltI ((i0 : Nat) : Int) ((list.length : Nat) : Int)) (b := true) (ltT hi0), pix (ix25 .lost he0)]
 refine cndI (fun hv => ?_) fun hv => ?_
 subst hv
 rintro ⟨⟩
 exact go_nx Hd.plainG [4, 7, 16, 23, 24, 26, 28, 33, 37, 40, 42] [⟨.fn (.func 80) [.ptr 0 0] [], .fn (.func 80) [.ptr 0 0] [], (.under (unFn (unC rfl rfl) rfl))⟩, fq (layNd.plS list), fq (layNd.plG e0), fq (layNd.plG e0)] [fbp [.sc (.int .i64 y1b)] (plC rfl rfl)] _ _ (runS 300 (o1 ++ [pcallU (parser_checker_item_U (⟨w0_0⟩ : Ck) e0 depth true y1b (parser_checker_item_step (⟨w0_0⟩ : Ck) e0 depth true y1b hy1) 0 (by decide) (by decide)), pinc i0 (by omega)])) (by kernel_rfl) (k ([(jn j0 0), .bool true, .bool true, .bool false], [.agg (ndC e0), .agg (ndC e0)]) (plC (layNd.plG e0) (plC (layNd.plG e0) rfl)))
 subst hv
 rintro ⟨⟩
 exact go_retM Hd.plainG _ _ [0] [] [fbp [.sc (.int .i64 y1b)] (plC rfl rfl)] _ _ (runS 300 (o1 ++ [pcallU (parser_checker_item_U (⟨w0_0⟩ : Ck) e0 depth false y1b (parser_checker_item_step (⟨w0_0⟩ : Ck) e0 depth false y1b hy1) 0 (by decide) (by decide))])) (by kernel_rfl) (.rnd k)
 rintro w0_0_2 rfl jx_2 hjx_2
 revert h
 clear hres
 dsimp only [lpK]
 intro h
 have hE := Option.some.inj h
 obtain ⟨hE0, hF0⟩ := Prod.mk.inj hE
 subst hE0 hF0
 exact go_retM Hd.plainG _ _ [0] [] [fbp [.sc (.int .i64 w0_0_2)] (plC rfl rfl)] _ _ (runX 300 []) (by kernel_rfl) .body
 rintro v rfl
 dsimp only [lpK] at h
 cases h
 exact .outer .body
noncomputable def B45 : Code := bodyOf Tryz.f45
theorem b45 : Tryz.f45.body = some B45 := by kernel_rfl
noncomputable def parser_Valid_B  (n : Nd) : Option Bool := cond (eqI n.kind 1) ((parser_checker_node_B (⟨0⟩ : Ck) n 1).bind fun (y1a, y1b) => cond y1a ((parser_bare_B n (⟨0, ByteArray.empty, ByteArray.empty, 0, 0, 0, 0, (⟨0, []⟩ : Fn), [], 0⟩ : Nd)).bind fun y2 => cond y2 ((parser_checker_all_item_B (⟨y1b⟩ : Ck) n.kids 2).bind fun (y3a, y3b) => some y3a) (some false)) (some false)) ((parser_checker_expr_R (⟨0⟩ : Ck) n 1).bind fun (y4a, y4b) => some y4a)
theorem parser_Valid_step   (n : Nd) (yR : Bool) (h : parser_Valid_B  n = some yR) : Pure P G 45 [.agg (ndC n)] (.sc (.bool yR)) := by
 unfold parser_Valid_B at h
 refine pureM Hd.mixed Hd.plainG (WC_body Tryz.func45 b45 ?_) (plC (layNd.plG n) rfl) rfl
 revert h
 refine cndI (fun hb1 => ?_) fun hb1 => ?_
 refine bndI ?_
 rintro ⟨y1a, y1b⟩ hy1
 dsimp only
 refine cndI (fun hv => ?_) fun hv => ?_
 subst hv
 refine bndI fun y2 hy2 => ?_
 let o1 : List (PC P G) := [pn hb1, pcallU (parser_checker_node_U (⟨0⟩ : Ck) n 1 true y1b (parser_checker_node_step (⟨0⟩ : Ck) n 1 true y1b hy1) 1 (by decide) (by decide))]
 refine cndI (fun hv => ?_) fun hv => ?_
 subst hv
 refine bndI ?_
 rintro ⟨y3a, y3b⟩ hy3
 dsimp only
 intro h
 have hE := Option.some.inj h
 subst hE
 exact rS (runS 300 (o1 ++ [pcallW (.r (.g (.r (.r (.r (.r (.r (.r (.r (.r (.z (.z (.r .nil))))))))))) .nil)) (parser_bare_step n (⟨0, ByteArray.empty, ByteArray.empty, 0, 0, 0, 0, (⟨0, []⟩ : Fn), [], 0⟩ : Nd) true hy2), pcallU (parser_checker_all_item_U (⟨y1b⟩ : Ck) n.kids 2 y3a y3b (parser_checker_all_item_step (⟨y1b⟩ : Ck) n.kids 2 y3a y3b hy3) 1 (by decide) (by decide))])) (by kernel_rfl)
 subst hv
 rintro ⟨⟩
 exact rS (runS 300 (o1 ++ [pcallW (.r (.g (.r (.r (.r (.r (.r (.r (.r (.r (.z (.z (.r .nil))))))))))) .nil)) (parser_bare_step n (⟨0, ByteArray.empty, ByteArray.empty, 0, 0, 0, 0, (⟨0, []⟩ : Fn), [], 0⟩ : Nd) false hy2)])) (by kernel_rfl)
 subst hv
 rintro ⟨⟩
 exact rS (runS 300 [pn hb1, pcallU (parser_checker_node_U (⟨0⟩ : Ck) n 1 false y1b (parser_checker_node_step (⟨0⟩ : Ck) n 1 false y1b hy1) 1 (by decide) (by decide))]) (by kernel_rfl)
 refine bndI ?_
 rintro ⟨y4a, y4b⟩ hy4
 dsimp only
 intro h
 have hE := Option.some.inj h
 subst hE
 exact rS (runS 300 [pn hb1, pcallU (parser_checker_expr_U (⟨0⟩ : Ck) n 1 y4a y4b (parser_checker_expr_ok (⟨0⟩ : Ck) n 1 y4a y4b hy4) 1 (by decide) (by decide))]) (by kernel_rfl)
noncomputable def B92 : Code := bodyOf Tryz.f92
theorem b92 : Tryz.f92.body = some B92 := by kernel_rfl
noncomputable def codex_isName_B  (text : ByteArray) : Option Bool := (parser_Valid_B (⟨12, text, ByteArray.empty, 0, 0, 0, 0, (⟨0, []⟩ : Fn), [], 0⟩ : Nd)).bind fun y1 => some y1
theorem codex_isName_step   (text : ByteArray) (yR : Bool) (h : codex_isName_B  text = some yR) : Pure P G 92 [.sc (.string text)] (.sc (.bool yR)) := by
 unfold codex_isName_B at h
 refine pureM Hd.mixed Hd.plainG (WC_body Tryz.func92 b92 ?_) (plC rfl rfl) rfl
 revert h
 refine bndI fun y1 hy1 => ?_
 intro h
 have hE := Option.some.inj h
 subst hE
 exact rS (runS 300 [pcallW (.g (.r (.r (.r (.r (.r (.r (.r (.r (.z (.z (.r .nil))))))))))) .nil) (parser_Valid_step (⟨12, text, ByteArray.empty, 0, 0, 0, 0, (⟨0, []⟩ : Fn), [], 0⟩ : Nd) y1 hy1)]) (by kernel_rfl)
noncomputable def B139 : Code := bodyOf Tryz.f139
theorem b139 : Tryz.f139.body = some B139 := by kernel_rfl
noncomputable def codex_isCur_L1   (i0 : Nat) (e0 : UInt8)  : Option (Lp Unit Unit Bool) := cond (ltI ((e0.toNat : Nat) : Int) 65) (some (.rt false)) (cond (ltI 90 ((e0.toNat : Nat) : Int)) (some (.rt false)) (some (.nx ())))
noncomputable def codex_isCur_B  (unit : ByteArray) : Option Bool := cond (eqI ((unit.data.toList.length : Nat) : Int) 3) ((lim unit.data.toList.length (foldL (fun i y x => codex_isCur_L1   i y ) (fun x => ()) (unit.data.toList.drop 0) 0 ())).bind (lpK (fun (_ : Unit) => some true) (fun v => some v))) (some false)
theorem codex_isCur_step   (unit : ByteArray) (yR : Bool) (h : codex_isCur_B  unit = some yR) : Pure P G 139 [.sc (.string unit)] (.sc (.bool yR)) := by
 unfold codex_isCur_B at h
 refine pureM Hd.mixed Hd.plainG (WC_body Tryz.func139 b139 ?_) (plC rfl rfl) rfl
 revert h
 refine cndI (fun hb1 => ?_) fun hb1 => ?_
 refine bndI fun res hres h => ?_
 have hlen := (limE hres).1
 replace hres := (limE hres).2
 refine go_at [] [0, 2, 6, 8, 9, 10, 15, 16, 20, 21] 0 (sub B139 [1, 1, 0, 1, 0, 0]) [.code (sub B139 [1, 1, 1])] _ _ (runS 300 [pn hb1]) (by kernel_rfl) (foldP (fn := Tryz.f139) (m := 0) (fun v => .sc (.bool v)) 0 unit.data.toList (fun i0 (_ : Unit) (j0 : JJ) => frm 23 0 [(0, .sc (.string unit)), (8, .sc (.int .i64 ((unit.data.toList.length : Nat) : Int))), (9, .sc (.int .i64 ((i0 : Nat) : Int)))] [2, 6, 10, 15, 16, 20, 21] 0 [] 0 j0) (fun (_ : Nat) (_ : Unit) (_ : JJ) => ⟨[], 0, [], 0⟩) (fun (j : JJ) => plainL j.2 = true) (fun (_ : Unit) (jx : JJ) => frm 23 0 [] [2, 6, 10, 15, 16, 20, 21] 0 [] 0 jx) (fun (_ : Unit) (_ : JJ) => ⟨[], 0, [], 0⟩) (fun (j : JJ) => plainL j.2 = true) ?_ ?_ 0 hres ?_ ?_ ([.bool false, .bool false], []) rfl)
 rintro i0 ⟨⟩ j0 hj0 hge hq
 clear h hres
 refine WL_rnd ?_
 exact go_ex Hd.plainG [4, 12, 20, 30, 32, 40, 42] [] [] 0 _ _ (runS 300 [pb (B := ltI ((i0 : Nat) : Int) ((unit.data.toList.length : Nat) : Int)) (b := false) (ltF hge)]) (by kernel_rfl) (hq ([(jn j0 0), (jn j0 1), .bool false, (jn j0 3), (jn j0 4), (jn j0 5), (jn j0 6)], []) rfl)
 clear h hres
 rintro i0 e0 ⟨⟩ j0 r hj0 he0 hi0 h k
 refine WL_rnd ?_
 revert h
 show codex_isCur_L1   i0 e0  = some r → _
 unfold codex_isCur_L1
 let o1 : List (PC P G) := [pb (B := ltI ((i0 : Nat) : Int) ((unit.data.toList.length : Nat) : Int)) (b := true) (ltT hi0), pst (ixb9 he0)]
 refine cndI (fun hb2 => ?_) fun hb2 => ?_
 rintro ⟨⟩
 exact go_retA _ _ (runS 300 (o1 ++ [pb hb2])) (by kernel_rfl) (.rnd k) .sc
 refine cndI (fun hb3 => ?_) fun hb3 => ?_
 rintro ⟨⟩
 exact go_retA _ _ (runS 300 (o1 ++ [pb hb2, pst (ixb9 he0), pb hb3])) (by kernel_rfl) (.rnd k) .sc
 rintro ⟨⟩
 exact go_nx Hd.plainG [0, 4, 12, 16, 18, 20, 30, 32, 40, 42] [] [] _ _ (runS 300 (o1 ++ [pb hb2, pst (ixb9 he0), pb hb3, pinc i0 (by omega)])) (by kernel_rfl) (k ([(jn j0 0), (jn j0 1), .bool true, .bool false, .bool false, .bool false, .bool false], []) rfl)
 rintro ⟨⟩ rfl jx_1 hjx_1
 revert h
 clear hres
 dsimp only [lpK]
 intro h
 have hE := Option.some.inj h
 subst hE
 exact go_retA _ _ (runX 300 []) (by kernel_rfl) .body .sc
 rintro v rfl
 dsimp only [lpK] at h
 cases h
 exact .outer .body
 rintro ⟨⟩
 exact rS (runS 300 [pn hb1]) (by kernel_rfl)
noncomputable def B93 : Code := bodyOf Tryz.f93
theorem b93 : Tryz.f93.body = some B93 := by kernel_rfl
noncomputable def codex_isUnit_B  (text : ByteArray) : Option Bool := cond (eqB text.data.toList truthS.data.toList) (some true) (cond (eqB text.data.toList numberS.data.toList) (some true) (cond (eqB text.data.toList minutesS.data.toList) (some true) ((codex_isCur_B text).bind fun y1 => some y1)))
theorem codex_isUnit_step   (text : ByteArray) (yR : Bool) (h : codex_isUnit_B  text = some yR) : Pure P G 93 [.sc (.string text)] (.sc (.bool yR)) := by
 unfold codex_isUnit_B at h
 refine pureM Hd.mixed Hd.plainG (WC_body Tryz.func93 b93 ?_) (plC rfl rfl) rfl
 revert h
 refine cndI (fun hb1 => ?_) fun hb1 => ?_
 rintro ⟨⟩
 exact rS (runS 300 [pb hb1]) (by kernel_rfl)
 refine cndI (fun hb2 => ?_) fun hb2 => ?_
 rintro ⟨⟩
 exact rS (runS 300 [pb hb1, pb hb2]) (by kernel_rfl)
 refine cndI (fun hb3 => ?_) fun hb3 => ?_
 rintro ⟨⟩
 exact rS (runS 300 [pb hb1, pb hb2, pb hb3]) (by kernel_rfl)
 refine bndI fun y1 hy1 => ?_
 intro h
 have hE := Option.some.inj h
 subst hE
 exact rS (runS 300 [pb hb1, pb hb2, pb hb3, pcall (codex_isCur_step text y1 hy1)]) (by kernel_rfl)
noncomputable def B55 : Code := bodyOf Tryz.f55
theorem b55 : Tryz.f55.body = some B55 := by kernel_rfl
noncomputable def codex_goodDecls_L1  (least : Int) (most : Int) (i0 : Nat) (e0 : Dc) (w0_m : (Mm ByteArray Bool)) : Option (Lp (Mm ByteArray Bool) (Mm ByteArray Bool) Bool) := (codex_isName_B e0.name).bind fun y1 => cond y1 (cond ((w0_m.get e0.name).getD false) (some (.rt false)) ((codex_isUnit_B e0.unit).bind fun y2 => cond y2 (cond (ltI e0.role least) (some (.rt false)) (cond (ltI most e0.role) (some (.rt false)) (some (.nx (w0_m.set e0.name true))))) (some (.rt false)))) (some (.rt false))
noncomputable def codex_goodDecls_B  (list : (List Dc)) (least : Int) (most : Int) : Option Bool := (lim list.length (foldL (fun i y x => codex_goodDecls_L1  least most i y x) (fun x => x) (list.drop 0) 0 (Mm.nil : Mm ByteArray Bool))).bind (lpK (fun (w0_m_3 : (Mm ByteArray Bool)) => some true) (fun v => some v))
theorem codex_goodDecls_step   (list : (List Dc)) (least : Int) (most : Int) (yR : Bool) (h : codex_goodDecls_B  list least most = some yR) : Pure P G 55 [.sl .lost list.length (rows dcC list), .sc (.int .i64 least), .sc (.int .i64 most)] (.sc (.bool yR)) := by
 unfold codex_goodDecls_B at h
 refine pureM Hd.mixed Hd.plainG (WC_body Tryz.func55 b55 ?_) (plC (layDc.plS list) (plC rfl (plC rfl rfl))) rfl
 revert h
 refine bndI fun res hres h => ?_
 have hlen := (limE hres).1
 replace hres := (limE hres).2
 refine go_at [] [1, 2, 6, 7, 11, 12, 13, 14, 16, 19, 20, 21, 25, 26, 27, 30, 31, 32, 33, 37, 38, 39, 43, 44] 0 (sub B55 [1, 1, 0, 1, 0, 0]) [.code (sub B55 [1, 1, 1])] _ _ (runS 300 []) (by kernel_rfl) (foldP (fn := Tryz.f55) (m := 0) (fun v => .sc (.bool v)) 0 list (fun i0 (w0_m : (Mm ByteArray Bool)) (j0 : JJ) => frm 49 0 [(1, .sc (.int .i64 least)), (2, .sc (.int .i64 most)), (7, .mp 0), (11, .sl .lost list.length (rows dcC list)), (12, .sc (.int .i64 ((list.length : Nat) : Int))), (13, .sc (.int .i64 ((i0 : Nat) : Int)))] [6, 14, 19, 20, 21, 25, 26, 27, 30, 31, 32, 33, 37, 38, 39, 43, 44] 0 [16] 0 j0) (fun (_ : Nat) (w0_m : (Mm ByteArray Bool)) (_ : JJ) => ⟨[(0, (mbsb w0_m))], 1, [], 0⟩) (fun (j : JJ) => plainL j.2 = true) (fun (w0_m : (Mm ByteArray Bool)) (jx : JJ) => frm 49 0 [] [6, 14, 19, 20, 21, 25, 26, 27, 30, 31, 32, 33, 37, 38, 39, 43, 44] 0 [16] 0 jx) (fun (w0_m : (Mm ByteArray Bool)) (_ : JJ) => ⟨[(0, (mbsb w0_m))], 1, [], 0⟩) (fun (j : JJ) => plainL j.2 = true) ?_ ?_ 0 hres ?_ ?_ ([.bool false], [.sc undef]) (plC rfl rfl))
 rintro i0 w0_m j0 hj0 hge hq
 clear h hres
 refine WL_rnd ?_
 exact go_ex Hd.plainG [12, 28, 33, 38, 40, 42, 50, 52, 54, 60, 62, 64, 66, 74, 76, 78, 86, 88] [fq (gn_pl hj0 0)] [⟨(mbsb w0_m), (mbsb w0_m), (mB_fits (fun _ => rfl))⟩] 0 _ _ (runS 300 [pb (B := ltI ((i0 : Nat) : Int) ((list.length : Nat) : Int)) (b := false) (ltF hge)]) (by kernel_rfl) (hq ([(jn j0 0), .bool false, (jn j0 2), (jn j0 3), (jn j0 4), (jn j0 5), (jn j0 6), (jn j0 7), (jn j0 8), (jn j0 9), (jn j0 10), (jn j0 11), (jn j0 12), (jn j0 13), (jn j0 14), (jn j0 15), (jn j0 16)], [(gn j0 0)]) (plC (gn_pl hj0 0) rfl))
 clear h hres
 rintro i0 e0 w0_m j0 r hj0 he0 hi0 h k
 refine WL_rnd ?_
 revert h
 show codex_goodDecls_L1  least most i0 e0 w0_m = some r → _
 unfold codex_goodDecls_L1
 refine bndI fun y1 hy1 => ?_
 let o1 : List (PC P G) := [pb (B := ltI ((i0 : Nat) : Int) ((list.length : Nat) : Int)) (b := true) (ltT hi0), pix (ix28 .lost he0)]
 refine cndI (fun hv => ?_) fun hv => ?_
 subst hv
 let o2 : List (PC P G) := o1 ++ [pcall (codex_isName_step e0.name true hy1)]
 refine cndI (fun hb1 => ?_) fun hb1 => ?_
 rintro ⟨⟩
 exact go_retA _ _ (runS 300 (o2 ++ [plk (lkB131 w0_m e0.name hb1)])) (by kernel_rfl) (.rnd k) .sc
 refine bndI fun y2 hy2 => ?_
 let o3 : List (PC P G) := o2 ++ [plk (lkB131 w0_m e0.name hb1)]
 refine cndI (fun hv => ?_) fun hv => ?_
 subst hv
 let o4 : List (PC P G) := o3 ++ [pcall (codex_isUnit_step e0.unit true hy2)]
 refine cndI (fun hb2 => ?_) fun hb2 => ?_
 rintro ⟨⟩
 exact go_retA _ _ (runS 300 (o4 ++ [pb hb2])) (by kernel_rfl) (.rnd k) .sc
 refine cndI (fun hb3 => ?_) fun hb3 => ?_
 rintro ⟨⟩
 exact go_retA _ _ (runS 300 (o4 ++ [pb hb2, pb hb3])) (by kernel_rfl) (.rnd k) .sc
 rintro ⟨⟩
 exact go_nx Hd.plainG [2, 4, 12, 14, 23, 24, 26, 28, 33, 38, 40, 42, 50, 52, 54, 60, 62, 64, 66, 74, 76, 78, 86, 88] [fq (layDc.plS list), fq (layDc.plG e0)] [⟨(mbsb (w0_m.set e0.name true)), (mbsb (w0_m.set e0.name true)), (mB_fits (fun _ => rfl))⟩] _ _ (runS 300 (o4 ++ [pb hb2, pb hb3, pms (ms131 w0_m e0.name true), pinc i0 (by omega)])) (by kernel_rfl) (k ([(jn j0 0), .bool true, .bool true, .bool false, .bool false, .bool false, .bool false, .bool false, .bool true, .bool false, .bool false, .bool false, .bool false, .bool false, .bool false, .bool false, .bool false], [.agg (dcC e0)]) (plC (layDc.plG e0) rfl))
 subst hv
 rintro ⟨⟩
 exact go_retA _ _ (runS 300 (o3 ++ [pcall (codex_isUnit_step e0.unit false hy2)])) (by kernel_rfl) (.rnd k) .sc
 subst hv
 rintro ⟨⟩
 exact go_retA _ _ (runS 300 (o1 ++ [pcall (codex_isName_step e0.name false hy1)])) (by kernel_rfl) (.rnd k) .sc
 rintro w0_m_3 rfl jx_3 hjx_3
 revert h
 clear hres
 dsimp only [lpK]
 intro h
 have hE := Option.some.inj h
 subst hE
 exact go_retA _ _ (runX 300 []) (by kernel_rfl) .body .sc
 rintro v rfl
 dsimp only [lpK] at h
 cases h
 exact .outer .body
noncomputable def B169 : Code := bodyOf Tryz.f169
theorem b169 : Tryz.f169.body = some B169 := by kernel_rfl
noncomputable def piecewise_Valid_L1  (f : Fn) (i0 : Nat) (e0 : Pc)  : Option (Lp Unit Unit Bool) := cond (eqI ((i0 : Nat) : Int) 0) (cond (eqI e0.fr 0) (cond (ltI e0.slope (-1000000)) (some (.rt false)) (cond (ltI 1000000 e0.slope) (some (.rt false)) (cond (ltI e0.att (-1000000000000000000)) (some (.rt false)) (cond (ltI 1000000000000000000 e0.att) (some (.rt false)) (some (.nx ())))))) (some (.rt false))) (cond (ltI 0 ((i0 : Nat) : Int)) ((geti f.ps (wsub ((i0 : Nat) : Int) 1)).bind fun x1 => cond (leI e0.fr x1.fr) (some (.rt false)) (cond (ltI 1000000000000 e0.fr) (some (.rt false)) (cond (ltI e0.slope (-1000000)) (some (.rt false)) (cond (ltI 1000000 e0.slope) (some (.rt false)) (cond (ltI e0.att (-1000000000000000000)) (some (.rt false)) (cond (ltI 1000000000000000000 e0.att) (some (.rt false)) (some (.nx ())))))))) (cond (ltI e0.slope (-1000000)) (some (.rt false)) (cond (ltI 1000000 e0.slope) (some (.rt false)) (cond (ltI e0.att (-1000000000000000000)) (some (.rt false)) (cond (ltI 1000000000000000000 e0.att) (some (.rt false)) (some (.nx ())))))))
noncomputable def piecewise_Valid_B  (f : Fn) : Option Bool := cond (ltI f.den 1) (some false) (cond (ltI 1000000 f.den) (some false) (cond (ltI ((f.ps.length : Nat) : Int) 1) (some false) (cond (ltI 64 ((f.ps.length : Nat) : Int)) (some false) ((lim f.ps.length (foldL (fun i y x => piecewise_Valid_L1  f i y ) (fun x => ()) (f.ps.drop 0) 0 ())).bind (lpK (fun (_ : Unit) => some true) (fun v => some v))))))
theorem piecewise_Valid_step   (f : Fn) (yR : Bool) (h : piecewise_Valid_B  f = some yR) : Pure P G 169 [.agg (fnC f)] (.sc (.bool yR)) := by
 unfold piecewise_Valid_B at h
 refine pureM Hd.mixed Hd.plainG (WC_body Tryz.func169 b169 ?_) (plC (layFn.plG f) rfl) rfl
 revert h
 refine cndI (fun hb1 => ?_) fun hb1 => ?_
 rintro ⟨⟩
 exact rS (runS 300 [pb hb1]) (by kernel_rfl)
 refine cndI (fun hb2 => ?_) fun hb2 => ?_
 rintro ⟨⟩
 exact rS (runS 300 [pb hb1, pb hb2]) (by kernel_rfl)
 refine cndI (fun hb3 => ?_) fun hb3 => ?_
 rintro ⟨⟩
 exact rS (runS 300 [pb hb1, pb hb2, pb hb3]) (by kernel_rfl)
 refine cndI (fun hb4 => ?_) fun hb4 => ?_
 rintro ⟨⟩
 exact rS (runS 300 [pb hb1, pb hb2, pb hb3, pb hb4]) (by kernel_rfl)
 refine bndI fun res hres h => ?_
 have hlen := (limE hres).1
 replace hres := (limE hres).2
 refine go_at [] [0, 1, 2, 7, 8, 11, 12, 13, 17, 18, 19, 23, 24, 26, 27, 28, 29, 32, 34, 35, 38, 39, 41, 42, 52, 53, 56, 57, 58, 61, 62, 65, 66, 67, 70, 71, 72, 75, 76] 0 (sub B169 [1, 1, 0, 1, 0, 0]) [.code (sub B169 [1, 1, 1])] _ _ (runS 300 [pb hb1, pb hb2, pb hb3, pb hb4]) (by kernel_rfl) (foldP (fn := Tryz.f169) (m := 0) (fun v => .sc (.bool v)) 0 f.ps (fun i0 (_ : Unit) (j0 : JJ) => frm 78 0 [(1, .ptr 0 0), (26, .sl .lost f.ps.length (rows pcC f.ps)), (27, .sc (.int .i64 ((f.ps.length : Nat) : Int))), (28, .sc (.int .i64 ((i0 : Nat) : Int)))] [2, 7, 8, 11, 12, 13, 17, 18, 19, 23, 24, 29, 34, 35, 38, 39, 41, 42, 52, 53, 56, 57, 58, 61, 62, 65, 66, 67, 70, 71, 72, 75, 76] 0 [0, 32] 0 j0) (fun (_ : Nat) (_ : Unit) (_ : JJ) => ⟨[(0, .cells (fnC f))], 1, [], 0⟩) (fun (j : JJ) => plainL j.2 = true) (fun (_ : Unit) (jx : JJ) => frm 78 0 [] [2, 7, 8, 11, 12, 13, 17, 18, 19, 23, 24, 29, 34, 35, 38, 39, 41, 42, 52, 53, 56, 57, 58, 61, 62, 65, 66, 67, 70, 71, 72, 75, 76] 0 [0, 32] 0 jx) (fun (_ : Unit) (_ : JJ) => ⟨[(0, .cells (fnC f))], 1, [], 0⟩) (fun (j : JJ) => plainL j.2 = true) ?_ ?_ 0 hres ?_ ?_ ([.bool false, .bool false, .bool false, .bool false, .bool false, .bool false, .bool false, .bool false, .bool false, .bool false, .bool false], [.agg (fnC f), .sc undef]) (plC (layFn.plG f) (plC rfl rfl)))
 rintro i0 ⟨⟩ j0 hj0 hge hq
 clear h hres
 refine WL_rnd ?_
 exact go_ex Hd.plainG [1, 4, 14, 16, 22, 24, 26, 34, 36, 38, 46, 48, 58, 65, 68, 70, 76, 78, 82, 84, 104, 106, 112, 114, 116, 122, 124, 130, 132, 134, 140, 142, 144, 150, 152] [fq (gn_pl hj0 0), fq (gn_pl hj0 1)] [fbp (fnC f) (layFn.pl f)] 0 _ _ (runS 300 [pb (B := ltI ((i0 : Nat) : Int) ((f.ps.length : Nat) : Int)) (b := false) (ltF hge)]) (by kernel_rfl) (hq ([(jn j0 0), (jn j0 1), (jn j0 2), (jn j0 3), (jn j0 4), (jn j0 5), (jn j0 6), (jn j0 7), (jn j0 8), (jn j0 9), (jn j0 10), .bool false, (jn j0 12), (jn j0 13), (jn j0 14), (jn j0 15), (jn j0 16), (jn j0 17), (jn j0 18), (jn j0 19), (jn j0 20), (jn j0 21), (jn j0 22), (jn j0 23), (jn j0 24), (jn j0 25), (jn j0 26), (jn j0 27), (jn j0 28), (jn j0 29), (jn j0 30), (jn j0 31), (jn j0 32)], [(gn j0 0), (gn j0 1)]) (plC (gn_pl hj0 0) (plC (gn_pl hj0 1) rfl)))
 clear h hres
 rintro i0 e0 ⟨⟩ j0 r hj0 he0 hi0 h k
 refine WL_rnd ?_
 revert h
 show piecewise_Valid_L1  f i0 e0  = some r → _
 unfold piecewise_Valid_L1
 let o1 : List (PC P G) := [pb (B := ltI ((i0 : Nat) : Int) ((f.ps.length : Nat) : Int)) (b := true) (ltT hi0), pix (ix22 .lost he0)]
 refine cndI (fun hb5 => ?_) fun hb5 => ?_
 refine cndI (fun hb6 => ?_) fun hb6 => ?_
 let o2 : List (PC P G) := o1 ++ [pb hb5, pn hb6, pb (B := ltI 0 ((i0 : Nat) : Int)) (b := false) (ltI_f (by have := eqI_T hb5; omega))]
 refine cndI (fun hb7 => ?_) fun hb7 => ?_
 rintro ⟨⟩
 exact go_retA _ _ (runS 300 (o2 ++ [pb hb7])) (by kernel_rfl) (.rnd k) .sc
 refine cndI (fun hb8 => ?_) fun hb8 => ?_
 rintro ⟨⟩
 exact go_retA _ _ (runS 300 (o2 ++ [pb hb7, pb hb8])) (by kernel_rfl) (.rnd k) .sc
 refine cndI (fun hb9 => ?_) fun hb9 => ?_
 rintro ⟨⟩
 exact go_retA _ _ (runS 300 (o2 ++ [pb hb7, pb hb8, pb hb9])) (by kernel_rfl) (.rnd k) .sc
 refine cndI (fun hb10 => ?_) fun hb10 => ?_
 rintro ⟨⟩
 exact go_retA _ _ (runS 300 (o2 ++ [pb hb7, pb hb8, pb hb9, pb hb10])) (by kernel_rfl) (.rnd k) .sc
 rintro ⟨⟩
 exact go_nx Hd.plainG [1, 2, 4, 14, 16, 22, 24, 26, 34, 36, 38, 46, 48, 53, 54, 56, 58, 65, 68, 70, 76, 78, 82, 84, 104, 106, 112, 114, 116, 122, 124, 130, 132, 134, 140, 142, 144, 150, 152] [fq (gn_pl hj0 0), fq (layPc.plS f.ps), fq (layPc.plG e0)] [fbp (fnC f) (layFn.pl f)] _ _ (runS 300 (o2 ++ [pb hb7, pb hb8, pb hb9, pb hb10, pinc i0 (by omega)])) (by kernel_rfl) (k ([(jn j0 0), (jn j0 1), (jn j0 2), (jn j0 3), (jn j0 4), (jn j0 5), (jn j0 6), (jn j0 7), (jn j0 8), (jn j0 9), (jn j0 10), .bool true, .bool true, .bool true, .bool false, .bool false, .bool false, .bool false, undef, undef, undef, undef, .bool false, .bool false, .bool false, .bool false, .bool false, .bool false, .bool false, .bool false, .bool false, .bool false, .bool false], [(gn j0 0), .agg (pcC e0)]) (plC (gn_pl hj0 0) (plC (layPc.plG e0) rfl)))
 rintro ⟨⟩
 exact go_retA _ _ (runS 300 (o1 ++ [pb hb5, pn hb6])) (by kernel_rfl) (.rnd k) .sc
 let o3 : List (PC P G) := o1 ++ [pb hb5]
 refine cndI (fun hb11 => ?_) fun hb11 => ?_
 refine bndI fun x1 hx1 => ?_
 let o4 : List (PC P G) := o3 ++ [pb hb11, pk, pix (ixz22 .lost hx1)]
 refine cndI (fun hb12 => ?_) fun hb12 => ?_
 rintro ⟨⟩
 exact go_retA _ _ (runS 300 (o4 ++ [pb hb12])) (by kernel_rfl) (.rnd k) .sc
 refine cndI (fun hb13 => ?_) fun hb13 => ?_
 rintro ⟨⟩
 exact go_retA _ _ (runS 300 (o4 ++ [pb hb12, pb hb13])) (by kernel_rfl) (.rnd k) .sc
 refine cndI (fun hb14 => ?_) fun hb14 => ?_
 rintro ⟨⟩
 exact go_retA _ _ (runS 300 (o4 ++ [pb hb12, pb hb13, pb hb14])) (by kernel_rfl) (.rnd k) .sc
 let o5 : List (PC P G) := o4 ++ [pb hb12, pb hb13, pb hb14]
 refine cndI (fun hb15 => ?_) fun hb15 => ?_
 rintro ⟨⟩
 exact go_retA _ _ (runS 300 (o5 ++ [pb hb15])) (by kernel_rfl) (.rnd k) .sc
 refine cndI (fun hb16 => ?_) fun hb16 => ?_
 rintro ⟨⟩
 exact go_retA _ _ (runS 300 (o5 ++ [pb hb15, pb hb16])) (by kernel_rfl) (.rnd k) .sc
 refine cndI (fun hb17 => ?_) fun hb17 => ?_
 rintro ⟨⟩
 exact go_retA _ _ (runS 300 (o5 ++ [pb hb15, pb hb16, pb hb17])) (by kernel_rfl) (.rnd k) .sc
 rintro ⟨⟩
 exact go_nx Hd.plainG [1, 2, 4, 14, 16, 22, 24, 26, 34, 36, 38, 46, 48, 53, 54, 56, 58, 65, 68, 70, 76, 78, 82, 84, 104, 106, 112, 114, 116, 122, 124, 130, 132, 134, 140, 142, 144, 150, 152] [fq (gn_pl hj0 0), fq (layPc.plS f.ps), fq (layPc.plG e0)] [fbp (fnC f) (layFn.pl f)] _ _ (runS 300 (o5 ++ [pb hb15, pb hb16, pb hb17, pinc i0 (by omega)])) (by kernel_rfl) (k ([(jn j0 0), (jn j0 1), (jn j0 2), (jn j0 3), (jn j0 4), (jn j0 5), (jn j0 6), (jn j0 7), (jn j0 8), (jn j0 9), (jn j0 10), .bool true, .bool false, .bool false, undef, .bool false, .bool true, .bool true, .bool false, .bool false, .bool false, .bool false, .bool false, .bool false, .bool false, .bool false, .bool false, .bool false, .bool false, .bool false, .bool false, .bool false, .bool false], [(gn j0 0), .agg (pcC e0)]) (plC (gn_pl hj0 0) (plC (layPc.plG e0) rfl)))
 refine cndI (fun hb18 => ?_) fun hb18 => ?_
 rintro ⟨⟩
 exact go_retA _ _ (runS 300 (o3 ++ [pb hb11, pb hb18])) (by kernel_rfl) (.rnd k) .sc
 refine cndI (fun hb19 => ?_) fun hb19 => ?_
 rintro ⟨⟩
 exact go_retA _ _ (runS 300 (o3 ++ [pb hb11, pb hb18, pb hb19])) (by kernel_rfl) (.rnd k) .sc
 refine cndI (fun hb20 => ?_) fun hb20 => ?_
 rintro ⟨⟩
 exact go_retA _ _ (runS 300 (o3 ++ [pb hb11, pb hb18, pb hb19, pb hb20])) (by kernel_rfl) (.rnd k) .sc
 refine cndI (fun hb21 => ?_) fun hb21 => ?_
 rintro ⟨⟩
 exact go_retA _ _ (runS 300 (o3 ++ [pb hb11, pb hb18, pb hb19, pb hb20, pb hb21])) (by kernel_rfl) (.rnd k) .sc
 rintro ⟨⟩
 exact go_nx Hd.plainG [1, 2, 4, 14, 16, 22, 24, 26, 34, 36, 38, 46, 48, 53, 54, 56, 58, 65, 68, 70, 76, 78, 82, 84, 104, 106, 112, 114, 116, 122, 124, 130, 132, 134, 140, 142, 144, 150, 152] [fq (gn_pl hj0 0), fq (layPc.plS f.ps), fq (layPc.plG e0)] [fbp (fnC f) (layFn.pl f)] _ _ (runS 300 (o3 ++ [pb hb11, pb hb18, pb hb19, pb hb20, pb hb21, pinc i0 (by omega)])) (by kernel_rfl) (k ([(jn j0 0), (jn j0 1), (jn j0 2), (jn j0 3), (jn j0 4), (jn j0 5), (jn j0 6), (jn j0 7), (jn j0 8), (jn j0 9), (jn j0 10), .bool true, .bool false, .bool false, undef, .bool false, .bool false, .bool false, undef, undef, undef, undef, .bool false, .bool false, .bool false, .bool false, .bool false, .bool false, .bool false, .bool false, .bool false, .bool false, .bool false], [(gn j0 0), .agg (pcC e0)]) (plC (gn_pl hj0 0) (plC (layPc.plG e0) rfl)))
 rintro ⟨⟩ rfl jx_2 hjx_2
 revert h
 clear hres
 dsimp only [lpK]
 intro h
 have hE := Option.some.inj h
 subst hE
 exact go_retA _ _ (runX 300 []) (by kernel_rfl) .body .sc
 rintro v rfl
 dsimp only [lpK] at h
 cases h
 exact .outer .body
noncomputable def B170 : Code := bodyOf Tryz.f170
theorem b170 : Tryz.f170.body = some B170 := by kernel_rfl
noncomputable def codex_fitter_leaf_B  (f : Ft) (e : Ex) : Option Bool := cond (eqI e.op 1) (cond (leI 0 e.n) ((some (leI e.n 999999999999)).bind fun q1 => cond q1 (cond (eqB e.unit.data.toList truthS.data.toList) ((some (leI e.n 1)).bind fun q2 => some q2) (some true)) (some false)) (some false)) (cond (eqI e.op 2) (cond (leI 0 e.n) ((some (ltI e.n ((f.codex.facts.length : Nat) : Int))).bind fun q3 => cond q3 ((geti f.codex.facts e.n).bind fun x4 => (some (eqB e.unit.data.toList x4.unit.data.toList)).bind fun q5 => some q5) (some false)) (some false)) (cond (eqI e.op 3) (cond ((f.lines.get e.n).isSome) ((geti f.codex.lines ((f.lines.get e.n).getD 0)).bind fun x6 => (some (eqB e.unit.data.toList x6.unit.data.toList)).bind fun q7 => some q7) (some false)) (cond (leI 1 e.n) ((some (leI e.n 4)).bind fun q8 => cond q8 ((some (eqB e.unit.data.toList numberS.data.toList)).bind fun q9 => some q9) (some false)) (some false))))
theorem codex_fitter_leaf_U (f : Ft) (e : Ex) (yR : Bool) (hS : Sound P G (.call 170 [.ptr 0 0, .agg (exC e)] ⟨[(1, (mbii f.lines)), (0, .cells (ftT 1 f))], 2, [], 0⟩ (.ret (.sc (.bool yR))) ⟨[(1, (mbii f.lines)), (0, .cells (ftT 1 f))], 2, [], 0⟩)) (u0 u1 : Nat) (hnb : [u0, u1].Nodup) (hnt : ([] : List Nat).Nodup) : Cd.ok P G (.callU 170 [.ptr u0 0, .agg (exC e)] (.ret (.sc (.bool yR))) [(u0, .cells (ftT u1 f)), (u1, (mbii f.lines))] [] [(u0, .cells (ftT u1 f)), (u1, (mbii f.lines))] []) :=
 frameU (M := [.cells (ftT 1 f), (mbii f.lines)]) (M2 := [.cells (ftT 1 f), (mbii f.lines)]) (T := []) (T2 := []) (k := 2) (j := 0) Hd.plainG _ _ _ _ hS rfl rfl rfl rfl rfl hnb hnt rfl rfl (.cons (.cells (ftT_rn f (by decide))) (.cons (mB_rn (fun _ => rfl)) .nil)) (.cons (.cells (ftT_rn f (by decide))) (.cons (mB_rn (fun _ => rfl)) .nil)) (.cons (.ptr (by decide)) (.cons (.pl (layEx.plG e)) .nil)) (.pl rfl) (by
   intro e he
   simp only [List.mem_cons, List.not_mem_nil, or_false] at he
   rcases he with rfl | rfl
   · exact (.arg (.here .ptr))
   · exact (.box (p := 0) (.arg (.here .ptr)) rfl (.there (.there (.there (.here .mp)))))
   )
theorem codex_fitter_leaf_step   (f : Ft) (e : Ex) (yR : Bool) (h : codex_fitter_leaf_B  f e = some yR) : Sound P G (.call 170 [.ptr 0 0, .agg (exC e)] ⟨[(1, (mbii f.lines)), (0, .cells (ftT 1 f))], 2, [], 0⟩ (.ret (.sc (.bool yR))) ⟨[(1, (mbii f.lines)), (0, .cells (ftT 1 f))], 2, [], 0⟩) := by
 unfold codex_fitter_leaf_B at h
 refine soundM Hd.mixed (WC_body Tryz.func170 b170 ?_)
 revert h
 refine cndI (fun hb1 => ?_) fun hb1 => ?_
 refine cndI (fun hb2 => ?_) fun hb2 => ?_
 refine bndI fun q1 hq1 => ?_
 let o1 : List (PC P G) := [pb hb1, pb hb2, pbin (zleq3 hq1 (.tmp 16) (.const (.int .i64 999999999999)))]
 refine cndI (fun hv => ?_) fun hv => ?_
 subst hv
 refine cndI (fun hb3 => ?_) fun hb3 => ?_
 refine bndI fun q2 hq2 => ?_
 intro h
 have hE := Option.some.inj h
 subst hE
 exact go_retM Hd.plainG _ _ [0] [] [⟨(mbii f.lines), (mbii f.lines), (mB_fits (fun _ => rfl))⟩, fbu (ftT 1 f) (ftT_un rfl)] _ _ (runS 300 (o1 ++ [pn hb3, pbin (zleq3 hq2 (.tmp 25) (.const (.int .i64 1)))])) (by kernel_rfl) .body
 intro h
 have hE := Option.some.inj h
 subst hE
 exact go_retM Hd.plainG _ _ [0] [] [⟨(mbii f.lines), (mbii f.lines), (mB_fits (fun _ => rfl))⟩, fbu (ftT 1 f) (ftT_un rfl)] _ _ (runS 300 (o1 ++ [pn hb3])) (by kernel_rfl) .body
 subst hv
 intro h
 have hE := Option.some.inj h
 subst hE
 exact go_retM Hd.plainG _ _ [0] [] [⟨(mbii f.lines), (mbii f.lines), (mB_fits (fun _ => rfl))⟩, fbu (ftT 1 f) (ftT_un rfl)] _ _ (runS 300 o1) (by kernel_rfl) .body
 intro h
 have hE := Option.some.inj h
 subst hE
 exact go_retM Hd.plainG _ _ [0] [] [⟨(mbii f.lines), (mbii f.lines), (mB_fits (fun _ => rfl))⟩, fbu (ftT 1 f) (ftT_un rfl)] _ _ (runS 300 [pb hb1, pb hb2]) (by kernel_rfl) .body
 refine cndI (fun hb4 => ?_) fun hb4 => ?_
 refine cndI (fun hb5 => ?_) fun hb5 => ?_
 refine bndI fun q3 hq3 => ?_
 refine cndI (fun hv => ?_) fun hv => ?_
 subst hv
 refine bndI fun x4 hx4 => ?_
 refine bndI fun q5 hq5 => ?_
 intro h
 have hE := Option.some.inj h
 subst hE
 exact go_retM Hd.plainG _ _ [0] [] [⟨(mbii f.lines), (mbii f.lines), (mB_fits (fun _ => rfl))⟩, fbu (ftT 1 f) (ftT_un rfl)] _ _ (runS 300 [pb hb1, pb hb4, pb hb5, pbin (zlss3 hq3 (.tmp 36) (.tmp 42)), pix (ixz28 .lost hx4), pbin (zeql9 hq5 (.tmp 47) (.tmp 57))]) (by kernel_rfl) .body
 subst hv
 intro h
 have hE := Option.some.inj h
 subst hE
 exact go_retM Hd.plainG _ _ [0] [] [⟨(mbii f.lines), (mbii f.lines), (mB_fits (fun _ => rfl))⟩, fbu (ftT 1 f) (ftT_un rfl)] _ _ (runS 300 [pb hb1, pb hb4, pb hb5, pbin (zlss3 hq3 (.tmp 36) (.tmp 42))]) (by kernel_rfl) .body
 intro h
 have hE := Option.some.inj h
 subst hE
 exact go_retM Hd.plainG _ _ [0] [] [⟨(mbii f.lines), (mbii f.lines), (mB_fits (fun _ => rfl))⟩, fbu (ftT 1 f) (ftT_un rfl)] _ _ (runS 300 [pb hb1, pb hb4, pb hb5]) (by kernel_rfl) .body
 refine cndI (fun hb6 => ?_) fun hb6 => ?_
 refine cndI (fun hb7 => ?_) fun hb7 => ?_
 refine bndI fun x6 hx6 => ?_
 refine bndI fun q7 hq7 => ?_
 intro h
 have hE := Option.some.inj h
 subst hE
 exact go_retM Hd.plainG _ _ [0] [] [⟨(mbii f.lines), (mbii f.lines), (mB_fits (fun _ => rfl))⟩, fbu (ftT 1 f) (ftT_un rfl)] _ _ (runS 300 [pb hb1, pb hb4, pb hb6, plk (lkT83 f.lines e.n hb7), pix (ixz28 .lost hx6), pbin (zeql9 hq7 (.tmp 75) (.tmp 84))]) (by kernel_rfl) .body
 intro h
 have hE := Option.some.inj h
 subst hE
 exact go_retM Hd.plainG _ _ [0] [] [⟨(mbii f.lines), (mbii f.lines), (mB_fits (fun _ => rfl))⟩, fbu (ftT 1 f) (ftT_un rfl)] _ _ (runS 300 [pb hb1, pb hb4, pb hb6, plk (lkT83 f.lines e.n hb7)]) (by kernel_rfl) .body
 refine cndI (fun hb8 => ?_) fun hb8 => ?_
 refine bndI fun q8 hq8 => ?_
 let o2 : List (PC P G) := [pb hb1, pb hb4, pb hb6, pb hb8, pbin (zleq3 hq8 (.tmp 92) (.const (.int .i64 4)))]
 refine cndI (fun hv => ?_) fun hv => ?_
 subst hv
 refine bndI fun q9 hq9 => ?_
 intro h
 have hE := Option.some.inj h
 subst hE
 exact go_retM Hd.plainG _ _ [0] [] [⟨(mbii f.lines), (mbii f.lines), (mB_fits (fun _ => rfl))⟩, fbu (ftT 1 f) (ftT_un rfl)] _ _ (runS 300 (o2 ++ [pbin (zeql9 hq9 (.tmp 97) (.const (.string numberS)))])) (by kernel_rfl) .body
 subst hv
 intro h
 have hE := Option.some.inj h
 subst hE
 exact go_retM Hd.plainG _ _ [0] [] [⟨(mbii f.lines), (mbii f.lines), (mB_fits (fun _ => rfl))⟩, fbu (ftT 1 f) (ftT_un rfl)] _ _ (runS 300 o2) (by kernel_rfl) .body
 intro h
 have hE := Option.some.inj h
 subst hE
 exact go_retM Hd.plainG _ _ [0] [] [⟨(mbii f.lines), (mbii f.lines), (mB_fits (fun _ => rfl))⟩, fbu (ftT 1 f) (ftT_un rfl)] _ _ (runS 300 [pb hb1, pb hb4, pb hb6, pb hb8]) (by kernel_rfl) .body
noncomputable def B167 : Code := bodyOf Tryz.f167
theorem b167 : Tryz.f167.body = some B167 := by kernel_rfl
noncomputable def codex_product_B  (first : ByteArray) (second : ByteArray) : Option ByteArray := cond (eqB first.data.toList numberS.data.toList) (some second) (some first)
theorem codex_product_step   (first : ByteArray) (second : ByteArray) (yR : ByteArray) (h : codex_product_B  first second = some yR) : Pure P G 167 [.sc (.string first), .sc (.string second)] (.sc (.string yR)) := by
 unfold codex_product_B at h
 refine pureM Hd.mixed Hd.plainG (WC_body Tryz.func167 b167 ?_) (plC rfl (plC rfl rfl)) rfl
 revert h
 refine cndI (fun hb1 => ?_) fun hb1 => ?_
 intro h
 have hE := Option.some.inj h
 subst hE
 exact rS (runS 300 [pb hb1]) (by kernel_rfl)
 intro h
 have hE := Option.some.inj h
 subst hE
 exact rS (runS 300 [pb hb1]) (by kernel_rfl)
noncomputable def B190 : Code := bodyOf Tryz.f190
theorem b190 : Tryz.f190.body = some B190 := by kernel_rfl
noncomputable def codex_same_L1  (kids : (List Ex)) (i0 : Nat) (e0 : Ex)  : Option (Lp Unit Unit Bool) := (kids[0]?).bind fun x1 => cond (eqB e0.unit.data.toList x1.unit.data.toList) (some (.nx ())) (some (.rt false))
noncomputable def codex_same_B  (kids : (List Ex)) : Option Bool := (lim kids.length (foldL (fun i y x => codex_same_L1  kids i y ) (fun x => ()) (kids.drop 0) 0 ())).bind (lpK (fun (_ : Unit) => some true) (fun v => some v))
theorem codex_same_step   (kids : (List Ex)) (yR : Bool) (h : codex_same_B  kids = some yR) : Pure P G 190 [.sl .lost kids.length (exsC kids)] (.sc (.bool yR)) := by
 unfold codex_same_B at h
 refine pureM Hd.mixed Hd.plainG (WC_body Tryz.func190 b190 ?_) (plC (layEx.plS kids) rfl) rfl
 revert h
 refine bndI fun res hres h => ?_
 have hlen := (limE hres).1
 replace hres := (limE hres).2
 refine go_at [] [0, 2, 5, 6, 7, 8, 10, 17] 0 (sub B190 [1, 0, 1, 0, 0]) [.code (sub B190 [1, 1])] _ _ (runS 300 []) (by kernel_rfl) (foldP (fn := Tryz.f190) (m := 0) (fun v => .sc (.bool v)) 0 kids (fun i0 (_ : Unit) (j0 : JJ) => frm 19 0 [(0, .sl .lost kids.length (exsC kids)), (5, .sl .lost kids.length (exsC kids)), (6, .sc (.int .i64 ((kids.length : Nat) : Int))), (7, .sc (.int .i64 ((i0 : Nat) : Int)))] [2, 8, 17] 0 [10] 0 j0) (fun (_ : Nat) (_ : Unit) (_ : JJ) => ⟨[], 0, [], 0⟩) (fun (j : JJ) => plainL j.2 = true) (fun (_ : Unit) (jx : JJ) => frm 19 0 [] [2, 8, 17] 0 [10] 0 jx) (fun (_ : Unit) (_ : JJ) => ⟨[], 0, [], 0⟩) (fun (j : JJ) => plainL j.2 = true) ?_ ?_ 0 hres ?_ ?_ ([.bool false], [.sc undef]) (plC rfl rfl))
 rintro i0 ⟨⟩ j0 hj0 hge hq
 clear h hres
 refine WL_rnd ?_
 exact go_ex Hd.plainG [4, 16, 21, 34] [fq (gn_pl hj0 0)] [] 0 _ _ (runS 300 [pb (B := ltI ((i0 : Nat) : Int) ((kids.length : Nat) : Int)) (b := false) (ltF hge)]) (by kernel_rfl) (hq ([(jn j0 0), .bool false, (jn j0 2)], [(gn j0 0)]) (plC (gn_pl hj0 0) rfl))
 clear h hres
 rintro i0 e0 ⟨⟩ j0 r hj0 he0 hi0 h k
 refine WL_rnd ?_
 revert h
 show codex_same_L1  kids i0 e0  = some r → _
 unfold codex_same_L1
 refine bndI fun x1 hx1 => ?_
 let o1 : List (PC P G) := [pb (B := ltI ((i0 : Nat) : Int) ((kids.length : Nat) : Int)) (b := true) (ltT hi0), pix (ix58 .lost he0), pix (ix58 .lost hx1)]
 refine cndI (fun hb1 => ?_) fun hb1 => ?_
 rintro ⟨⟩
 exact go_nx Hd.plainG [1, 4, 11, 12, 14, 16, 21, 34] [fq (layEx.plS kids), fq (layEx.plS kids), fq (layEx.plG e0)] [] _ _ (runS 300 (o1 ++ [pn hb1, pinc i0 (by omega)])) (by kernel_rfl) (k ([(jn j0 0), .bool true, .bool false], [.agg (exC e0)]) (plC (layEx.plG e0) rfl))
 rintro ⟨⟩
 exact go_retA _ _ (runS 300 (o1 ++ [pn hb1])) (by kernel_rfl) (.rnd k) .sc
 rintro ⟨⟩ rfl jx_2 hjx_2
 revert h
 clear hres
 dsimp only [lpK]
 intro h
 have hE := Option.some.inj h
 subst hE
 exact go_retA _ _ (runX 300 []) (by kernel_rfl) .body .sc
 rintro v rfl
 dsimp only [lpK] at h
 cases h
 exact .outer .body
noncomputable def B171 : Code := bodyOf Tryz.f171
theorem b171 : Tryz.f171.body = some B171 := by kernel_rfl
noncomputable def codex_operation_B  (e : Ex) : Option Bool := (e.kids[0]?).bind fun x1 => (geti e.kids (wsub ((e.kids.length : Nat) : Int) 1)).bind fun x2 => (some (eqB e.unit.data.toList truthS.data.toList)).bind fun q3 => (some (eqI ((e.kids.length : Nat) : Int) 2)).bind fun q4 => (codex_same_B e.kids).bind fun y5 => cond y5 ((some (!eqB x1.unit.data.toList truthS.data.toList)).bind fun q6 => cond (eqI e.op 5) (cond (eqI ((e.kids.length : Nat) : Int) 1) (cond q3 ((some (eqB x1.unit.data.toList truthS.data.toList)).bind fun q7 => some q7) (some false)) (some false)) (cond (eqI e.op 6) (cond q4 (cond q3 ((some (eqB x1.unit.data.toList truthS.data.toList)).bind fun q8 => some q8) (some false)) (some false)) ((some (eqI e.op 7)).bind fun q9 => cond q9 (cond q4 (cond q3 ((some (eqB x1.unit.data.toList truthS.data.toList)).bind fun q10 => some q10) (some false)) (some false)) (cond (eqI e.op 8) (cond q4 (cond q3 (some true) (some false)) (some false)) (cond (eqI e.op 9) (cond q4 (cond q3 (some q6) (some false)) (some false)) ((some (eqI e.op 10)).bind fun q11 => cond q11 (cond q4 (cond q3 (some q6) (some false)) (some false)) (cond (eqI e.op 11) (cond q4 (cond q6 ((some (eqB e.unit.data.toList x1.unit.data.toList)).bind fun q12 => some q12) (some false)) (some false)) ((some (eqI e.op 12)).bind fun q13 => cond q13 (cond q4 (cond q6 ((some (eqB e.unit.data.toList x1.unit.data.toList)).bind fun q14 => some q14) (some false)) (some false)) (cond (eqI e.op 16) (cond (leI 2 ((e.kids.length : Nat) : Int)) (cond q6 ((some (eqB e.unit.data.toList x1.unit.data.toList)).bind fun q15 => some q15) (some false)) (some false)) ((some (eqI e.op 17)).bind fun q16 => cond q16 (cond (leI 2 ((e.kids.length : Nat) : Int)) (cond q6 ((some (eqB e.unit.data.toList x1.unit.data.toList)).bind fun q17 => some q17) (some false)) (some false)) (cond (eqI e.op 13) (cond q4 ((some (eqB x1.unit.data.toList truthS.data.toList)).bind fun q18 => cond q18 (some false) ((some (eqB x2.unit.data.toList truthS.data.toList)).bind fun q19 => cond q19 (some false) (cond (eqB x1.unit.data.toList numberS.data.toList) ((codex_product_B x1.unit x2.unit).bind fun y20 => (some (eqB e.unit.data.toList y20.data.toList)).bind fun q21 => some q21) ((some (eqB x2.unit.data.toList numberS.data.toList)).bind fun q22 => cond q22 ((codex_product_B x1.unit x2.unit).bind fun y23 => (some (eqB e.unit.data.toList y23.data.toList)).bind fun q24 => some q24) (some false))))) (some false)) (cond (eqI e.op 14) (cond q4 ((some (!eqI x2.op 1)).bind fun q25 => cond q25 (some false) ((some (!eqB x2.unit.data.toList numberS.data.toList)).bind fun q26 => cond q26 (some false) ((some (ltI x2.n 1)).bind fun q27 => cond q27 (some false) ((some (ltI 1000000 x2.n)).bind fun q28 => cond q28 (some false) (cond q6 ((some (eqB e.unit.data.toList x1.unit.data.toList)).bind fun q29 => some q29) (some false)))))) (some false)) (cond (eqI e.op 15) (cond q4 ((some (eqB x1.unit.data.toList minutesS.data.toList)).bind fun q30 => cond q30 ((codex_isCur_B x2.unit).bind fun y31 => cond y31 ((some (eqB e.unit.data.toList x2.unit.data.toList)).bind fun q32 => some q32) (some false)) (some false)) (some false)) (some false)))))))))))))) (cond (eqI e.op 5) (cond (eqI ((e.kids.length : Nat) : Int) 1) (cond q3 ((some (eqB x1.unit.data.toList truthS.data.toList)).bind fun q33 => some q33) (some false)) (some false)) (cond (eqI e.op 6) (cond q4 (cond q3 (some false) (some false)) (some false)) ((some (eqI e.op 7)).bind fun q34 => cond q34 (cond q4 (cond q3 (some false) (some false)) (some false)) (cond (eqI e.op 8) (cond q4 (cond q3 (some false) (some false)) (some false)) (cond (eqI e.op 9) (cond q4 (cond q3 (some false) (some false)) (some false)) ((some (eqI e.op 10)).bind fun q35 => cond q35 (cond q4 (cond q3 (some false) (some false)) (some false)) (cond (eqI e.op 11) (cond q4 (some false) (some false)) ((some (eqI e.op 12)).bind fun q36 => cond q36 (cond q4 (some false) (some false)) (cond (eqI e.op 16) (cond (leI 2 ((e.kids.length : Nat) : Int)) (some false) (some false)) ((some (eqI e.op 17)).bind fun q37 => cond q37 (cond (leI 2 ((e.kids.length : Nat) : Int)) (some false) (some false)) (cond (eqI e.op 13) (cond q4 ((some (eqB x1.unit.data.toList truthS.data.toList)).bind fun q38 => cond q38 (some false) ((some (eqB x2.unit.data.toList truthS.data.toList)).bind fun q39 => cond q39 (some false) (cond (eqB x1.unit.data.toList numberS.data.toList) ((codex_product_B x1.unit x2.unit).bind fun y40 => (some (eqB e.unit.data.toList y40.data.toList)).bind fun q41 => some q41) ((some (eqB x2.unit.data.toList numberS.data.toList)).bind fun q42 => cond q42 ((codex_product_B x1.unit x2.unit).bind fun y43 => (some (eqB e.unit.data.toList y43.data.toList)).bind fun q44 => some q44) (some false))))) (some false)) (cond (eqI e.op 14) (cond q4 ((some (!eqI x2.op 1)).bind fun q45 => cond q45 (some false) ((some (!eqB x2.unit.data.toList numberS.data.toList)).bind fun q46 => cond q46 (some false) ((some (ltI x2.n 1)).bind fun q47 => cond q47 (some false) ((some (ltI 1000000 x2.n)).bind fun q48 => cond q48 (some false) (cond (eqB x1.unit.data.toList truthS.data.toList) (some false) ((some (eqB e.unit.data.toList x1.unit.data.toList)).bind fun q49 => some q49)))))) (some false)) (cond (eqI e.op 15) (cond q4 ((some (eqB x1.unit.data.toList minutesS.data.toList)).bind fun q50 => cond q50 ((codex_isCur_B x2.unit).bind fun y51 => cond y51 ((some (eqB e.unit.data.toList x2.unit.data.toList)).bind fun q52 => some q52) (some false)) (some false)) (some false)) (some false))))))))))))))
theorem codex_operation_step   (e : Ex) (yR : Bool) (h : codex_operation_B  e = some yR) : Pure P G 171 [.agg (exC e)] (.sc (.bool yR)) := by
 unfold codex_operation_B at h
 refine pureM Hd.mixed Hd.plainG (WC_body Tryz.func171 b171 ?_) (plC (layEx.plG e) rfl) rfl
 revert h
 refine bndI fun x1 hx1 => ?_
 refine bndI fun x2 hx2 => ?_
 refine bndI fun q3 hq3 => ?_
 refine bndI fun q4 hq4 => ?_
 refine bndI fun y5 hy5 => ?_
 let o1 : List (PC P G) := [pix (ix58 .lost hx1), pk, pix (ixz58 .lost hx2), pbin (zeql9 hq3 (.tmp 21) (.const (.string truthS))), pbin (zeql3 hq4 (.tmp 25) (.const (.int .i64 2)))]
 refine cndI (fun hv => ?_) fun hv => ?_
 subst hv
 refine bndI fun q6 hq6 => ?_
 let o2 : List (PC P G) := o1 ++ [pcall (codex_same_step e.kids true hy5), pbin (zneq9 hq6 (.tmp 32) (.const (.string truthS)))]
 refine cndI (fun hb1 => ?_) fun hb1 => ?_
 refine cndI (fun hb2 => ?_) fun hb2 => ?_
 refine cndI (fun hv => ?_) fun hv => ?_
 subst hv
 refine bndI fun q7 hq7 => ?_
 intro h
 have hE := Option.some.inj h
 subst hE
 exact rS (runS 300 (o2 ++ [pb hb1, pb hb2, pbin (zeql9 hq7 (.tmp 48) (.const (.string truthS)))])) (by kernel_rfl)
 subst hv
 rintro ⟨⟩
 exact rS (runS 300 (o2 ++ [pb hb1, pb hb2])) (by kernel_rfl)
 rintro ⟨⟩
 exact rS (runS 300 (o2 ++ [pb hb1, pb hb2])) (by kernel_rfl)
 let o3 : List (PC P G) := o2 ++ [pb hb1]
 refine cndI (fun hb3 => ?_) fun hb3 => ?_
 refine cndI (fun hv => ?_) fun hv => ?_
 subst hv
 refine cndI (fun hv => ?_) fun hv => ?_
 subst hv
 refine bndI fun q8 hq8 => ?_
 intro h
 have hE := Option.some.inj h
 subst hE
 exact rS (runS 300 (o3 ++ [pb hb3, pcall (codex_same_step e.kids true hy5), pbin (zeql9 hq8 (.tmp 65) (.const (.string truthS)))])) (by kernel_rfl)
 subst hv
 rintro ⟨⟩
 exact rS (runS 300 (o3 ++ [pb hb3])) (by kernel_rfl)
 subst hv
 rintro ⟨⟩
 exact rS (runS 300 (o3 ++ [pb hb3])) (by kernel_rfl)
 refine bndI fun q9 hq9 => ?_
 let o4 : List (PC P G) := o3 ++ [pb hb3, pbin (zeql3 hq9 (.tmp 36) (.const (.int .i64 7)))]
 refine cndI (fun hv => ?_) fun hv => ?_
 subst hv
 refine cndI (fun hv => ?_) fun hv => ?_
 subst hv
 refine cndI (fun hv => ?_) fun hv => ?_
 subst hv
 refine bndI fun q10 hq10 => ?_
 intro h
 have hE := Option.some.inj h
 subst hE
 exact rS (runS 300 (o4 ++ [pcall (codex_same_step e.kids true hy5), pbin (zeql9 hq10 (.tmp 65) (.const (.string truthS)))])) (by kernel_rfl)
 subst hv
 rintro ⟨⟩
 exact rS (runS 300 o4) (by kernel_rfl)
 subst hv
 rintro ⟨⟩
 exact rS (runS 300 o4) (by kernel_rfl)
 subst hv
 refine cndI (fun hb4 => ?_) fun hb4 => ?_
 refine cndI (fun hv => ?_) fun hv => ?_
 subst hv
 refine cndI (fun hv => ?_) fun hv => ?_
 subst hv
 rintro ⟨⟩
 exact rS (runS 300 (o4 ++ [pb hb4, pcall (codex_same_step e.kids true hy5)])) (by kernel_rfl)
 subst hv
 rintro ⟨⟩
 exact rS (runS 300 (o4 ++ [pb hb4])) (by kernel_rfl)
 subst hv
 rintro ⟨⟩
 exact rS (runS 300 (o4 ++ [pb hb4])) (by kernel_rfl)
 let o5 : List (PC P G) := o4 ++ [pb hb4]
 refine cndI (fun hb5 => ?_) fun hb5 => ?_
 refine cndI (fun hv => ?_) fun hv => ?_
 subst hv
 refine cndI (fun hv => ?_) fun hv => ?_
 subst hv
 intro h
 have hE := Option.some.inj h
 subst hE
 exact rS (runS 300 (o5 ++ [pb hb5])) (by kernel_rfl)
 subst hv
 rintro ⟨⟩
 exact rS (runS 300 (o5 ++ [pb hb5])) (by kernel_rfl)
 subst hv
 rintro ⟨⟩
 exact rS (runS 300 (o5 ++ [pb hb5])) (by kernel_rfl)
 refine bndI fun q11 hq11 => ?_
 let o6 : List (PC P G) := o5 ++ [pb hb5, pbin (zeql3 hq11 (.tmp 36) (.const (.int .i64 10)))]
 refine cndI (fun hv => ?_) fun hv => ?_
 subst hv
 refine cndI (fun hv => ?_) fun hv => ?_
 subst hv
 refine cndI (fun hv => ?_) fun hv => ?_
 subst hv
 intro h
 have hE := Option.some.inj h
 subst hE
 exact rS (runS 300 o6) (by kernel_rfl)
 subst hv
 rintro ⟨⟩
 exact rS (runS 300 o6) (by kernel_rfl)
 subst hv
 rintro ⟨⟩
 exact rS (runS 300 o6) (by kernel_rfl)
 subst hv
 refine cndI (fun hb6 => ?_) fun hb6 => ?_
 refine cndI (fun hv => ?_) fun hv => ?_
 subst hv
 refine cndI (fun hv => ?_) fun hv => ?_
 subst hv
 refine bndI fun q12 hq12 => ?_
 intro h
 have hE := Option.some.inj h
 subst hE
 exact rS (runS 300 (o6 ++ [pb hb6, pbin (zeql9 hq12 (.tmp 98) (.tmp 100))])) (by kernel_rfl)
 subst hv
 rintro ⟨⟩
 exact rS (runS 300 (o6 ++ [pb hb6])) (by kernel_rfl)
 subst hv
 rintro ⟨⟩
 exact rS (runS 300 (o6 ++ [pb hb6])) (by kernel_rfl)
 refine bndI fun q13 hq13 => ?_
 let o7 : List (PC P G) := o6 ++ [pb hb6, pbin (zeql3 hq13 (.tmp 36) (.const (.int .i64 12)))]
 refine cndI (fun hv => ?_) fun hv => ?_
 subst hv
 refine cndI (fun hv => ?_) fun hv => ?_
 subst hv
 refine cndI (fun hv => ?_) fun hv => ?_
 subst hv
 refine bndI fun q14 hq14 => ?_
 intro h
 have hE := Option.some.inj h
 subst hE
 exact rS (runS 300 (o7 ++ [pbin (zeql9 hq14 (.tmp 98) (.tmp 100))])) (by kernel_rfl)
 subst hv
 rintro ⟨⟩
 exact rS (runS 300 o7) (by kernel_rfl)
 subst hv
 rintro ⟨⟩
 exact rS (runS 300 o7) (by kernel_rfl)
 subst hv
 refine cndI (fun hb7 => ?_) fun hb7 => ?_
 refine cndI (fun hb8 => ?_) fun hb8 => ?_
 refine cndI (fun hv => ?_) fun hv => ?_
 subst hv
 refine bndI fun q15 hq15 => ?_
 intro h
 have hE := Option.some.inj h
 subst hE
 exact rS (runS 300 (o7 ++ [pb hb7, pb hb8, pbin (zeql9 hq15 (.tmp 115) (.tmp 117))])) (by kernel_rfl)
 subst hv
 rintro ⟨⟩
 exact rS (runS 300 (o7 ++ [pb hb7, pb hb8])) (by kernel_rfl)
 rintro ⟨⟩
 exact rS (runS 300 (o7 ++ [pb hb7, pb hb8])) (by kernel_rfl)
 refine bndI fun q16 hq16 => ?_
 let o8 : List (PC P G) := o7 ++ [pb hb7, pbin (zeql3 hq16 (.tmp 36) (.const (.int .i64 17)))]
 refine cndI (fun hv => ?_) fun hv => ?_
 subst hv
 refine cndI (fun hb9 => ?_) fun hb9 => ?_
 refine cndI (fun hv => ?_) fun hv => ?_
 subst hv
 refine bndI fun q17 hq17 => ?_
 intro h
 have hE := Option.some.inj h
 subst hE
 exact rS (runS 300 (o8 ++ [pb hb9, pbin (zeql9 hq17 (.tmp 115) (.tmp 117))])) (by kernel_rfl)
 subst hv
 rintro ⟨⟩
 exact rS (runS 300 (o8 ++ [pb hb9])) (by kernel_rfl)
 rintro ⟨⟩
 exact rS (runS 300 (o8 ++ [pb hb9])) (by kernel_rfl)
 subst hv
 refine cndI (fun hb10 => ?_) fun hb10 => ?_
 refine cndI (fun hv => ?_) fun hv => ?_
 subst hv
 refine bndI fun q18 hq18 => ?_
 let o9 : List (PC P G) := o8 ++ [pb hb10, pbin (zeql9 hq18 (.tmp 126) (.const (.string truthS)))]
 refine cndI (fun hv => ?_) fun hv => ?_
 subst hv
 rintro ⟨⟩
 exact rS (runS 300 o9) (by kernel_rfl)
 subst hv
 refine bndI fun q19 hq19 => ?_
 let o10 : List (PC P G) := o9 ++ [pbin (zeql9 hq19 (.tmp 131) (.const (.string truthS)))]
 refine cndI (fun hv => ?_) fun hv => ?_
 subst hv
 rintro ⟨⟩
 exact rS (runS 300 o10) (by kernel_rfl)
 subst hv
 refine cndI (fun hb11 => ?_) fun hb11 => ?_
 refine bndI fun y20 hy20 => ?_
 refine bndI fun q21 hq21 => ?_
 intro h
 have hE := Option.some.inj h
 subst hE
 exact rS (runS 300 (o10 ++ [pb hb11, pcall (codex_product_step x1.unit x2.unit y20 hy20), pbin (zeql9 hq21 (.tmp 144) (.tmp 149))])) (by kernel_rfl)
 refine bndI fun q22 hq22 => ?_
 refine cndI (fun hv => ?_) fun hv => ?_
 subst hv
 refine bndI fun y23 hy23 => ?_
 refine bndI fun q24 hq24 => ?_
 intro h
 have hE := Option.some.inj h
 subst hE
 exact rS (runS 300 (o10 ++ [pb hb11, pbin (zeql9 hq22 (.tmp 139) (.const (.string numberS))), pcall (codex_product_step x1.unit x2.unit y23 hy23), pbin (zeql9 hq24 (.tmp 144) (.tmp 149))])) (by kernel_rfl)
 subst hv
 rintro ⟨⟩
 exact rS (runS 300 (o10 ++ [pb hb11, pbin (zeql9 hq22 (.tmp 139) (.const (.string numberS)))])) (by kernel_rfl)
 subst hv
 rintro ⟨⟩
 exact rS (runS 300 (o8 ++ [pb hb10])) (by kernel_rfl)
 let o11 : List (PC P G) := o8 ++ [pb hb10]
 refine cndI (fun hb12 => ?_) fun hb12 => ?_
 refine cndI (fun hv => ?_) fun hv => ?_
 subst hv
 refine bndI fun q25 hq25 => ?_
 let o12 : List (PC P G) := o11 ++ [pb hb12, pbin (zneq3 hq25 (.tmp 158) (.const (.int .i64 1)))]
 refine cndI (fun hv => ?_) fun hv => ?_
 subst hv
 rintro ⟨⟩
 exact rS (runS 300 o12) (by kernel_rfl)
 subst hv
 refine bndI fun q26 hq26 => ?_
 let o13 : List (PC P G) := o12 ++ [pbin (zneq9 hq26 (.tmp 163) (.const (.string numberS)))]
 refine cndI (fun hv => ?_) fun hv => ?_
 subst hv
 rintro ⟨⟩
 exact rS (runS 300 o13) (by kernel_rfl)
 subst hv
 refine bndI fun q27 hq27 => ?_
 let o14 : List (PC P G) := o13 ++ [pbin (zlss3 hq27 (.tmp 168) (.const (.int .i64 1)))]
 refine cndI (fun hv => ?_) fun hv => ?_
 subst hv
 rintro ⟨⟩
 exact rS (runS 300 o14) (by kernel_rfl)
 subst hv
 refine bndI fun q28 hq28 => ?_
 let o15 : List (PC P G) := o14 ++ [pbin (zgtr3 hq28 (.tmp 173) (.const (.int .i64 1000000)))]
 refine cndI (fun hv => ?_) fun hv => ?_
 subst hv
 rintro ⟨⟩
 exact rS (runS 300 o15) (by kernel_rfl)
 subst hv
 refine cndI (fun hv => ?_) fun hv => ?_
 subst hv
 refine bndI fun q29 hq29 => ?_
 intro h
 have hE := Option.some.inj h
 subst hE
 exact rS (runS 300 (o15 ++ [pbin (zneq9 hq6 (.tmp 177) (.const (.string truthS))), pbin (zeql9 hq29 (.tmp 181) (.tmp 183))])) (by kernel_rfl)
 subst hv
 rintro ⟨⟩
 exact rS (runS 300 (o15 ++ [pbin (zneq9 hq6 (.tmp 177) (.const (.string truthS)))])) (by kernel_rfl)
 subst hv
 rintro ⟨⟩
 exact rS (runS 300 (o11 ++ [pb hb12])) (by kernel_rfl)
 refine cndI (fun hb13 => ?_) fun hb13 => ?_
 refine cndI (fun hv => ?_) fun hv => ?_
 subst hv
 refine bndI fun q30 hq30 => ?_
 let o16 : List (PC P G) := o11 ++ [pb hb12, pb hb13, pbin (zeql9 hq30 (.tmp 191) (.const (.string minutesS)))]
 refine cndI (fun hv => ?_) fun hv => ?_
 subst hv
 refine bndI fun y31 hy31 => ?_
 refine cndI (fun hv => ?_) fun hv => ?_
 subst hv
 refine bndI fun q32 hq32 => ?_
 intro h
 have hE := Option.some.inj h
 subst hE
 exact rS (runS 300 (o16 ++ [pcall (codex_isCur_step x2.unit true hy31), pbin (zeql9 hq32 (.tmp 201) (.tmp 203))])) (by kernel_rfl)
 subst hv
 rintro ⟨⟩
 exact rS (runS 300 (o16 ++ [pcall (codex_isCur_step x2.unit false hy31)])) (by kernel_rfl)
 subst hv
 rintro ⟨⟩
 exact rS (runS 300 o16) (by kernel_rfl)
 subst hv
 rintro ⟨⟩
 exact rS (runS 300 (o11 ++ [pb hb12, pb hb13])) (by kernel_rfl)
 rintro ⟨⟩
 exact rS (runS 300 (o11 ++ [pb hb12, pb hb13])) (by kernel_rfl)
 subst hv
 let o17 : List (PC P G) := o1 ++ [pcall (codex_same_step e.kids false hy5)]
 refine cndI (fun hb14 => ?_) fun hb14 => ?_
 refine cndI (fun hb15 => ?_) fun hb15 => ?_
 refine cndI (fun hv => ?_) fun hv => ?_
 subst hv
 refine bndI fun q33 hq33 => ?_
 intro h
 have hE := Option.some.inj h
 subst hE
 exact rS (runS 300 (o17 ++ [pb hb14, pb hb15, pbin (zeql9 hq33 (.tmp 48) (.const (.string truthS)))])) (by kernel_rfl)
 subst hv
 rintro ⟨⟩
 exact rS (runS 300 (o17 ++ [pb hb14, pb hb15])) (by kernel_rfl)
 rintro ⟨⟩
 exact rS (runS 300 (o17 ++ [pb hb14, pb hb15])) (by kernel_rfl)
 let o18 : List (PC P G) := o17 ++ [pb hb14]
 refine cndI (fun hb16 => ?_) fun hb16 => ?_
 refine cndI (fun hv => ?_) fun hv => ?_
 subst hv
 refine cndI (fun hv => ?_) fun hv => ?_
 subst hv
 rintro ⟨⟩
 exact rS (runS 300 (o18 ++ [pb hb16, pcall (codex_same_step e.kids false hy5)])) (by kernel_rfl)
 subst hv
 rintro ⟨⟩
 exact rS (runS 300 (o18 ++ [pb hb16])) (by kernel_rfl)
 subst hv
 rintro ⟨⟩
 exact rS (runS 300 (o18 ++ [pb hb16])) (by kernel_rfl)
 refine bndI fun q34 hq34 => ?_
 let o19 : List (PC P G) := o18 ++ [pb hb16, pbin (zeql3 hq34 (.tmp 36) (.const (.int .i64 7)))]
 refine cndI (fun hv => ?_) fun hv => ?_
 subst hv
 refine cndI (fun hv => ?_) fun hv => ?_
 subst hv
 refine cndI (fun hv => ?_) fun hv => ?_
 subst hv
 rintro ⟨⟩
 exact rS (runS 300 (o19 ++ [pcall (codex_same_step e.kids false hy5)])) (by kernel_rfl)
 subst hv
 rintro ⟨⟩
 exact rS (runS 300 o19) (by kernel_rfl)
 subst hv
 rintro ⟨⟩
 exact rS (runS 300 o19) (by kernel_rfl)
 subst hv
 refine cndI (fun hb17 => ?_) fun hb17 => ?_
 refine cndI (fun hv => ?_) fun hv => ?_
 subst hv
 refine cndI (fun hv => ?_) fun hv => ?_
 subst hv
 rintro ⟨⟩
 exact rS (runS 300 (o19 ++ [pb hb17, pcall (codex_same_step e.kids false hy5)])) (by kernel_rfl)
 subst hv
 rintro ⟨⟩
 exact rS (runS 300 (o19 ++ [pb hb17])) (by kernel_rfl)
 subst hv
 rintro ⟨⟩
 exact rS (runS 300 (o19 ++ [pb hb17])) (by kernel_rfl)
 let o20 : List (PC P G) := o19 ++ [pb hb17]
 refine cndI (fun hb18 => ?_) fun hb18 => ?_
 refine cndI (fun hv => ?_) fun hv => ?_
 subst hv
 refine cndI (fun hv => ?_) fun hv => ?_
 subst hv
 rintro ⟨⟩
 exact rS (runS 300 (o20 ++ [pb hb18])) (by kernel_rfl)
 subst hv
 rintro ⟨⟩
 exact rS (runS 300 (o20 ++ [pb hb18])) (by kernel_rfl)
 subst hv
 rintro ⟨⟩
 exact rS (runS 300 (o20 ++ [pb hb18])) (by kernel_rfl)
 refine bndI fun q35 hq35 => ?_
 let o21 : List (PC P G) := o20 ++ [pb hb18, pbin (zeql3 hq35 (.tmp 36) (.const (.int .i64 10)))]
 refine cndI (fun hv => ?_) fun hv => ?_
 subst hv
 refine cndI (fun hv => ?_) fun hv => ?_
 subst hv
 refine cndI (fun hv => ?_) fun hv => ?_
 subst hv
 rintro ⟨⟩
 exact rS (runS 300 o21) (by kernel_rfl)
 subst hv
 rintro ⟨⟩
 exact rS (runS 300 o21) (by kernel_rfl)
 subst hv
 rintro ⟨⟩
 exact rS (runS 300 o21) (by kernel_rfl)
 subst hv
 refine cndI (fun hb19 => ?_) fun hb19 => ?_
 refine cndI (fun hv => ?_) fun hv => ?_
 subst hv
 rintro ⟨⟩
 exact rS (runS 300 (o21 ++ [pb hb19])) (by kernel_rfl)
 subst hv
 rintro ⟨⟩
 exact rS (runS 300 (o21 ++ [pb hb19])) (by kernel_rfl)
 refine bndI fun q36 hq36 => ?_
 let o22 : List (PC P G) := o21 ++ [pb hb19, pbin (zeql3 hq36 (.tmp 36) (.const (.int .i64 12)))]
 refine cndI (fun hv => ?_) fun hv => ?_
 subst hv
 refine cndI (fun hv => ?_) fun hv => ?_
 subst hv
 rintro ⟨⟩
 exact rS (runS 300 o22) (by kernel_rfl)
 subst hv
 rintro ⟨⟩
 exact rS (runS 300 o22) (by kernel_rfl)
 subst hv
 refine cndI (fun hb20 => ?_) fun hb20 => ?_
 refine cndI (fun hb21 => ?_) fun hb21 => ?_
 rintro ⟨⟩
 exact rS (runS 300 (o22 ++ [pb hb20, pb hb21])) (by kernel_rfl)
 rintro ⟨⟩
 exact rS (runS 300 (o22 ++ [pb hb20, pb hb21])) (by kernel_rfl)
 refine bndI fun q37 hq37 => ?_
 let o23 : List (PC P G) := o22 ++ [pb hb20, pbin (zeql3 hq37 (.tmp 36) (.const (.int .i64 17)))]
 refine cndI (fun hv => ?_) fun hv => ?_
 subst hv
 refine cndI (fun hb22 => ?_) fun hb22 => ?_
 rintro ⟨⟩
 exact rS (runS 300 (o23 ++ [pb hb22])) (by kernel_rfl)
 rintro ⟨⟩
 exact rS (runS 300 (o23 ++ [pb hb22])) (by kernel_rfl)
 subst hv
 refine cndI (fun hb23 => ?_) fun hb23 => ?_
 refine cndI (fun hv => ?_) fun hv => ?_
 subst hv
 refine bndI fun q38 hq38 => ?_
 let o24 : List (PC P G) := o23 ++ [pb hb23, pbin (zeql9 hq38 (.tmp 126) (.const (.string truthS)))]
 refine cndI (fun hv => ?_) fun hv => ?_
 subst hv
 rintro ⟨⟩
 exact rS (runS 300 o24) (by kernel_rfl)
 subst hv
 refine bndI fun q39 hq39 => ?_
 let o25 : List (PC P G) := o24 ++ [pbin (zeql9 hq39 (.tmp 131) (.const (.string truthS)))]
 refine cndI (fun hv => ?_) fun hv => ?_
 subst hv
 rintro ⟨⟩
 exact rS (runS 300 o25) (by kernel_rfl)
 subst hv
 refine cndI (fun hb24 => ?_) fun hb24 => ?_
 refine bndI fun y40 hy40 => ?_
 refine bndI fun q41 hq41 => ?_
 intro h
 have hE := Option.some.inj h
 subst hE
 exact rS (runS 300 (o25 ++ [pb hb24, pcall (codex_product_step x1.unit x2.unit y40 hy40), pbin (zeql9 hq41 (.tmp 144) (.tmp 149))])) (by kernel_rfl)
 refine bndI fun q42 hq42 => ?_
 refine cndI (fun hv => ?_) fun hv => ?_
 subst hv
 refine bndI fun y43 hy43 => ?_
 refine bndI fun q44 hq44 => ?_
 intro h
 have hE := Option.some.inj h
 subst hE
 exact rS (runS 300 (o25 ++ [pb hb24, pbin (zeql9 hq42 (.tmp 139) (.const (.string numberS))), pcall (codex_product_step x1.unit x2.unit y43 hy43), pbin (zeql9 hq44 (.tmp 144) (.tmp 149))])) (by kernel_rfl)
 subst hv
 rintro ⟨⟩
 exact rS (runS 300 (o25 ++ [pb hb24, pbin (zeql9 hq42 (.tmp 139) (.const (.string numberS)))])) (by kernel_rfl)
 subst hv
 rintro ⟨⟩
 exact rS (runS 300 (o23 ++ [pb hb23])) (by kernel_rfl)
 let o26 : List (PC P G) := o23 ++ [pb hb23]
 refine cndI (fun hb25 => ?_) fun hb25 => ?_
 refine cndI (fun hv => ?_) fun hv => ?_
 subst hv
 refine bndI fun q45 hq45 => ?_
 let o27 : List (PC P G) := o26 ++ [pb hb25, pbin (zneq3 hq45 (.tmp 158) (.const (.int .i64 1)))]
 refine cndI (fun hv => ?_) fun hv => ?_
 subst hv
 rintro ⟨⟩
 exact rS (runS 300 o27) (by kernel_rfl)
 subst hv
 refine bndI fun q46 hq46 => ?_
 let o28 : List (PC P G) := o27 ++ [pbin (zneq9 hq46 (.tmp 163) (.const (.string numberS)))]
 refine cndI (fun hv => ?_) fun hv => ?_
 subst hv
 rintro ⟨⟩
 exact rS (runS 300 o28) (by kernel_rfl)
 subst hv
 refine bndI fun q47 hq47 => ?_
 let o29 : List (PC P G) := o28 ++ [pbin (zlss3 hq47 (.tmp 168) (.const (.int .i64 1)))]
 refine cndI (fun hv => ?_) fun hv => ?_
 subst hv
 rintro ⟨⟩
 exact rS (runS 300 o29) (by kernel_rfl)
 subst hv
 refine bndI fun q48 hq48 => ?_
 let o30 : List (PC P G) := o29 ++ [pbin (zgtr3 hq48 (.tmp 173) (.const (.int .i64 1000000)))]
 refine cndI (fun hv => ?_) fun hv => ?_
 subst hv
 rintro ⟨⟩
 exact rS (runS 300 o30) (by kernel_rfl)
 subst hv
 refine cndI (fun hb26 => ?_) fun hb26 => ?_
 rintro ⟨⟩
 exact rS (runS 300 (o30 ++ [pn hb26])) (by kernel_rfl)
 refine bndI fun q49 hq49 => ?_
 intro h
 have hE := Option.some.inj h
 subst hE
 exact rS (runS 300 (o30 ++ [pn hb26, pbin (zeql9 hq49 (.tmp 181) (.tmp 183))])) (by kernel_rfl)
 subst hv
 rintro ⟨⟩
 exact rS (runS 300 (o26 ++ [pb hb25])) (by kernel_rfl)
 refine cndI (fun hb27 => ?_) fun hb27 => ?_
 refine cndI (fun hv => ?_) fun hv => ?_
 subst hv
 refine bndI fun q50 hq50 => ?_
 let o31 : List (PC P G) := o26 ++ [pb hb25, pb hb27, pbin (zeql9 hq50 (.tmp 191) (.const (.string minutesS)))]
 refine cndI (fun hv => ?_) fun hv => ?_
 subst hv
 refine bndI fun y51 hy51 => ?_
 refine cndI (fun hv => ?_) fun hv => ?_
 subst hv
 refine bndI fun q52 hq52 => ?_
 intro h
 have hE := Option.some.inj h
 subst hE
 exact rS (runS 300 (o31 ++ [pcall (codex_isCur_step x2.unit true hy51), pbin (zeql9 hq52 (.tmp 201) (.tmp 203))])) (by kernel_rfl)
 subst hv
 rintro ⟨⟩
 exact rS (runS 300 (o31 ++ [pcall (codex_isCur_step x2.unit false hy51)])) (by kernel_rfl)
 subst hv
 rintro ⟨⟩
 exact rS (runS 300 o31) (by kernel_rfl)
 subst hv
 rintro ⟨⟩
 exact rS (runS 300 (o26 ++ [pb hb25, pb hb27])) (by kernel_rfl)
 rintro ⟨⟩
 exact rS (runS 300 (o26 ++ [pb hb25, pb hb27])) (by kernel_rfl)
end Mo
end Go.Proofs.YtnijkdknnmgoeaaGreat
