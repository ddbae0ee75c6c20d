/- Part of a proof: see the last text. -/
import Derived.Test.YtnijkdknnmgoeaaGreatOdo
namespace Go.Proofs.YtnijkdknnmgoeaaGreat
open AI Go
namespace Mo
set_option maxRecDepth 100000
set_option maxHeartbeats 4000000
noncomputable def law10_head_R : Option Bool := some true
theorem law10_head_ok (yR : Bool) (h : law10_head_R = some yR) : Pure P G 11 [] (.sc (.bool yR)) := by
 cases h
 exact e169_ok
noncomputable def B7 : Code := bodyOf Tryz.f7
theorem b7 : Tryz.f7.body = some B7 := by kernel_rfl
noncomputable def B8 : Code := bodyOf Tryz.f8
theorem b8 : Tryz.f8.body = some B8 := by kernel_rfl
noncomputable def law10_CodexOrder_L2  (c : Co) (i1 : Nat) (e1 : Int)  : Option (Lp Unit Unit Bool) := cond (ltI e1 0) (some (.rt false)) ((some (leI ((c.arts.length : Nat) : Int) e1)).bind fun q10 => cond q10 (some (.rt false)) (some (.nx ())))
noncomputable def law10_CodexOrder_L1  (c : Co) (i0 : Nat) (e0 : Ar) (needs6 : (List (List Int))) : Option (Lp (List (List Int)) (List (List Int)) Bool) := (codex_Needs_B c ((i0 : Nat) : Int)).bind fun y9 => (lim y9.length (foldL (fun i y x => law10_CodexOrder_L2  c i y ) (fun x => ()) (y9.drop 0) 0 ())).bind (lpK (fun (_ : Unit) => limA (needs6.length + 1) (some (.nx (needs6 ++ [y9])))) (fun v => some (.rt v)))
noncomputable def law10_CodexOrder_L5  (needs6_13 : (List (List Int))) (w1_l : (List Bool)) (i4 : Nat) (e4 : Int) (ready16 : Bool) : Option (Lp Bool Bool Bool) := cond ready16 ((idxN needs6_13.length e4).bind fun k19 => (w1_l[k19]?).bind fun x20 => some (.nx x20)) (some (.nx false))
noncomputable def law10_CodexOrder_L4  (needs6_13 : (List (List Int))) (w1_l : (List Bool)) (i3 : Nat) (e3 : (List Int)) (least14 : Int) : Option (Lp Int Int Bool) := (w1_l[i3]?).bind fun x17 => cond x17 ((lim e3.length (foldL (fun i y x => law10_CodexOrder_L5  needs6_13 w1_l i y x) (fun x => x) (e3.drop 0) 0 false)).bind (lpK (fun (ready16_21 : Bool) => cond ready16_21 (some (.nx ((i3 : Nat) : Int))) (some (.nx least14))) (fun v => some (.rt v)))) ((some (ltI least14 0)).bind fun q18 => (lim e3.length (foldL (fun i y x => law10_CodexOrder_L5  needs6_13 w1_l i y x) (fun x => x) (e3.drop 0) 0 q18)).bind (lpK (fun (ready16_22 : Bool) => cond ready16_22 (some (.nx ((i3 : Nat) : Int))) (some (.nx least14))) (fun v => some (.rt v))))
noncomputable def law10_CodexOrder_L3  (needs6_13 : (List (List Int))) (i2 : Nat) (e2 : Int) (w1_l : (List Bool)) : Option (Lp (List Bool) (List Bool) Bool) := (lim needs6_13.length (foldL (fun i y x => law10_CodexOrder_L4  needs6_13 w1_l i y x) (fun x => x) (needs6_13.drop 0) 0 (-1))).bind (lpK (fun (least14_23 : Int) => cond (ltI e2 0) (some (.rt false)) ((some (!eqI e2 least14_23)).bind fun q24 => cond q24 (some (.rt false)) ((idxN needs6_13.length e2).bind fun k25 => (w1_l[k25]?).bind fun x26 => some (.nx (w1_l.set k25 true))))) (fun v => some (.rt v)))
noncomputable def law10_CodexOrder_B  (c : Co) : Option Bool := (law10_head_R).bind fun y1 => (law10_small_B c).bind fun y2 => cond y2 ((codex_Order_B c).bind fun (y3a, y3b) => (ref10_Valid_B c).bind fun y4 => cond y4 ((lim c.arts.length (foldL (fun i y x => law10_CodexOrder_L1  c i y x) (fun x => x) (c.arts.drop 0) 0 [])).bind (lpK (fun (needs6_13 : (List (List Int))) => cond y3b (cond (eqI ((y3a.length : Nat) : Int) ((needs6_13.length : Nat) : Int)) (limM (needs6_13.length) ((lim y3a.length (foldL (fun i y x => law10_CodexOrder_L3  needs6_13 i y x) (fun x => x) (y3a.drop 0) 0 (List.replicate needs6_13.length false))).bind (lpK (fun (w1_l_27 : (List Bool)) => some y1) (fun v => some v)))) (some false)) (cond y1 ((some (eqI ((y3a.length : Nat) : Int) 0)).bind fun q15 => cond q15 ((law10_ringed_B needs6_13).bind fun y16 => some y16) (some false)) (some false))) (fun v => some v))) (cond y1 (cond y3b ((some (eqI ((y3a.length : Nat) : Int) 0)).bind fun q5 => some q5) (some false)) (some false))) (some y1)
theorem law10_CodexOrder_step   (c : Co) (yR : Bool) (h : law10_CodexOrder_B  c = some yR) : Pure P G 8 [.agg (coC c)] (.sc (.bool yR)) := by
 unfold law10_CodexOrder_B at h
 refine pureM Hd.mixed Hd.plainG (WC_body Tryz.func8 b8 ?_) (plC (layCo.plG c) rfl) rfl
 revert h
 refine bndI fun y1 hy1 => ?_
 refine bndI fun y2 hy2 => ?_
 refine cndI (fun hv => ?_) fun hv => ?_
 subst hv
 refine bndI ?_
 rintro ⟨y3a, y3b⟩ hy3
 dsimp only
 refine bndI fun y4 hy4 => ?_
 refine cndI (fun hv => ?_) fun hv => ?_
 subst hv
 refine bndI fun res hres h => ?_
 have hlen := (limE hres).1
 replace hres := (limE hres).2
 refine go_at [.t 6 1] [0, 1, 2, 3, 4, 5, 6, 16, 19, 20, 21, 22, 23, 25, 28, 29, 30, 31, 32, 33, 34, 35, 36, 39, 40, 43, 44, 45, 47, 53, 57, 58, 63, 64, 71, 72, 73, 74, 77, 78, 79, 81, 82, 87, 94, 100, 105, 106, 107, 109, 110, 117, 120, 121, 125, 126, 128, 132, 133, 136, 137, 142] 0 (sub B8 [1, 1, 1, 1, 1, 1, 0, 1, 0, 0]) [.code (sub B8 [1, 1, 1, 1, 1, 1, 1])] _ _ (runS 300 [pcall (law10_head_ok  y1 hy1), pcall (law10_small_step c true hy2), pcall (codex_Order_step c (y3a, y3b) hy3), pcall (ref10_Valid_step c true hy4)]) (by kernel_rfl) (foldP (fn := Tryz.f8) (m := 0) (fun v => .sc (.bool v)) 0 c.arts (fun i0 (needs6 : (List (List Int))) (j0 : JJ) => frm 143 0 [(1, .ptr 0 0), (3, .sc (.bool y1)), (4, .sl .lost y3a.length (rows inC y3a)), (5, .sc (.bool y3b)), (6, .sl (.row 0 1) needs6.length (rows liinC needs6)), (43, .sc (.int .i64 ((c.arts.length : Nat) : Int))), (44, .sc (.int .i64 ((i0 : Nat) : Int)))] [2, 16, 19, 21, 22, 23, 28, 30, 31, 32, 33, 34, 35, 36, 39, 40, 45, 53, 57, 58, 63, 64, 71, 72, 73, 74, 77, 78, 79, 81, 82, 87, 94, 100, 105, 106, 107, 109, 110, 117, 120, 121, 125, 126, 128, 132, 133, 136, 137, 142] 0 [0, 20, 25, 29, 47] 0 j0) (fun (_ : Nat) (needs6 : (List (List Int))) (_ : JJ) => ⟨[(0, .cells (coC c))], 1, [(0, needs6.length)], 1⟩) (fun (j : JJ) => plainL j.2 = true) (fun (needs6 : (List (List Int))) (jx : JJ) => frm 143 0 [(3, .sc (.bool y1)), (4, .sl .lost y3a.length (rows inC y3a)), (5, .sc (.bool y3b)), (6, .sl (.row 0 1) needs6.length (rows liinC needs6))] [2, 16, 19, 21, 22, 23, 28, 30, 31, 32, 33, 34, 35, 36, 39, 40, 45, 53, 57, 58, 63, 64, 71, 72, 73, 74, 77, 78, 79, 81, 82, 87, 94, 100, 105, 106, 107, 109, 110, 117, 120, 121, 125, 126, 128, 132, 133, 136, 137, 142] 0 [0, 20, 25, 29, 47] 0 jx) (fun (needs6 : (List (List Int))) (_ : JJ) => ⟨[(0, .cells (coC c))], 1, [(0, needs6.length)], 1⟩) (fun (j : JJ) => plainL j.2 = true) ?_ ?_ 0 hres ?_ ?_ ([.bool false, undef, .bool y1, .bool true, .bool false, undef, .bool y3b, .bool true, .bool false], [.agg (coC c), .agg (coC c), .agg (coC c), .agg (coC c), .sc undef]) (plC (layCo.plG c) (plC (layCo.plG c) (plC (layCo.plG c) (plC (layCo.plG c) (plC rfl rfl))))))
 rintro i0 needs6 j0 hj0 hge hq
 clear h hres
 refine WL_rnd ?_
 exact go_ex Hd.plainG [1, 4, 6, 9, 10, 13, 32, 38, 41, 42, 44, 46, 51, 56, 59, 60, 62, 64, 66, 68, 70, 72, 78, 80, 90, 95, 106, 114, 116, 126, 128, 142, 144, 146, 148, 154, 156, 158, 162, 164, 174, 188, 200, 210, 212, 214, 218, 220, 234, 240, 242, 250, 252, 256, 264, 266, 272, 274, 284] [fq (gn_pl hj0 0), fq (layInt.plS y3a), ⟨.sl (.row 0 1) needs6.length (rows liinC needs6), .sl (.row 0 1) needs6.length (rows liinC needs6), (.under (unSl rfl (under_plainL _ _ (layLInt.plC needs6))))⟩, fq (gn_pl hj0 1), fq (gn_pl hj0 2), fq (gn_pl hj0 3), fq (gn_pl hj0 4)] [fbp (coC c) (layCo.pl c)] 0 _ _ (runS 300 [pb (B := ltI ((i0 : Nat) : Int) ((c.arts.length : Nat) : Int)) (b := false) (ltF hge)]) (by kernel_rfl) (hq ([(jn j0 0), (jn j0 1), (jn j0 2), (jn j0 3), (jn j0 4), (jn j0 5), (jn j0 6), (jn j0 7), (jn j0 8), (jn j0 9), (jn j0 10), (jn j0 11), (jn j0 12), (jn j0 13), (jn j0 14), (jn j0 15), .bool false, (jn j0 17), (jn j0 18), (jn j0 19), (jn j0 20), (jn j0 21), (jn j0 22), (jn j0 23), (jn j0 24), (jn j0 25), (jn j0 26), (jn j0 27), (jn j0 28), (jn j0 29), (jn j0 30), (jn j0 31), (jn j0 32), (jn j0 33), (jn j0 34), (jn j0 35), (jn j0 36), (jn j0 37), (jn j0 38), (jn j0 39), (jn j0 40), (jn j0 41), (jn j0 42), (jn j0 43), (jn j0 44), (jn j0 45), (jn j0 46), (jn j0 47), (jn j0 48), (jn j0 49)], [(gn j0 0), (gn j0 1), (gn j0 2), (gn j0 3), (gn j0 4)]) (plC (gn_pl hj0 0) (plC (gn_pl hj0 1) (plC (gn_pl hj0 2) (plC (gn_pl hj0 3) (plC (gn_pl hj0 4) rfl))))))
 clear h hres
 rintro i0 e0 needs6 j0 r hj0 he0 hi0 h k
 refine WL_rnd ?_
 revert h
 show law10_CodexOrder_L1  c i0 e0 needs6 = some r → _
 unfold law10_CodexOrder_L1
 refine bndI fun y9 hy9 => ?_
 refine bndI fun res hres h => ?_
 have hlen := (limE hres).1
 replace hres := (limE hres).2
 refine go_at [] [0, 1, 2, 3, 4, 5, 6, 8, 16, 19, 20, 21, 22, 23, 25, 28, 29, 30, 31, 32, 33, 34, 35, 36, 39, 40, 43, 44, 45, 47, 50, 51, 52, 53, 57, 58, 63, 64, 71, 72, 73, 74, 77, 78, 79, 81, 82, 87, 94, 100, 105, 106, 107, 109, 110, 117, 120, 121, 125, 126, 128, 132, 133, 136, 137, 142] 2 (sub B8 [1, 1, 1, 1, 1, 1, 0, 1, 0, 0, 1, 1, 0, 0, 1, 1, 0, 1, 0, 0]) [.code (sub B8 [1, 1, 1, 1, 1, 1, 0, 1, 0, 0, 1, 1, 0, 0, 1, 1, 1]), .endb 1, .code (sub B8 [1, 1, 1, 1, 1, 1, 0, 1, 0, 0, 1, 1, 1])] _ _ (runS 300 [pb (B := ltI ((i0 : Nat) : Int) ((c.arts.length : Nat) : Int)) (b := true) (ltT hi0), pcall (codex_Needs_step c ((i0 : Nat) : Int) y9 hy9)]) (by kernel_rfl) (foldP (fn := Tryz.f8) (m := 0) (fun v => .sc (.bool v)) 2 y9 (fun i1 (_ : Unit) (j1 : JJ) => frm 143 0 [(1, .ptr 0 0), (3, .sc (.bool y1)), (4, .sl .lost y3a.length (rows inC y3a)), (5, .sc (.bool y3b)), (6, .sl (.row 0 1) needs6.length (rows liinC needs6)), (8, .sl .lost y9.length (rows inC y9)), (43, .sc (.int .i64 ((c.arts.length : Nat) : Int))), (44, .sc (.int .i64 ((i0 : Nat) : Int))), (50, .sl .lost y9.length (rows inC y9)), (51, .sc (.int .i64 ((y9.length : Nat) : Int))), (52, .sc (.int .i64 ((i1 : Nat) : Int)))] [2, 16, 19, 21, 22, 23, 28, 30, 31, 32, 33, 34, 35, 36, 39, 40, 45, 53, 57, 58, 63, 64, 71, 72, 73, 74, 77, 78, 79, 81, 82, 87, 94, 100, 105, 106, 107, 109, 110, 117, 120, 121, 125, 126, 128, 132, 133, 136, 137, 142] 0 [0, 20, 25, 29, 47] 0 j1) (fun (_ : Nat) (_ : Unit) (_ : JJ) => ⟨[(0, .cells (coC c))], 1, [(0, needs6.length)], 1⟩) (fun (j : JJ) => plainL j.2 = true) (fun (_ : Unit) (jx : JJ) => frm 143 0 [(1, .ptr 0 0), (3, .sc (.bool y1)), (4, .sl .lost y3a.length (rows inC y3a)), (5, .sc (.bool y3b)), (6, .sl (.row 0 1) needs6.length (rows liinC needs6)), (8, .sl .lost y9.length (rows inC y9)), (43, .sc (.int .i64 ((c.arts.length : Nat) : Int))), (44, .sc (.int .i64 ((i0 : Nat) : Int)))] [2, 16, 19, 21, 22, 23, 28, 30, 31, 32, 33, 34, 35, 36, 39, 40, 45, 53, 57, 58, 63, 64, 71, 72, 73, 74, 77, 78, 79, 81, 82, 87, 94, 100, 105, 106, 107, 109, 110, 117, 120, 121, 125, 126, 128, 132, 133, 136, 137, 142] 0 [0, 20, 25, 29, 47] 0 jx) (fun (_ : Unit) (_ : JJ) => ⟨[(0, .cells (coC c))], 1, [(0, needs6.length)], 1⟩) (fun (j : JJ) => plainL j.2 = true) ?_ ?_ 0 hres ?_ ?_ ([(jn j0 0), (jn j0 1), (jn j0 2), (jn j0 3), (jn j0 4), (jn j0 5), (jn j0 6), (jn j0 7), (jn j0 8), (jn j0 9), (jn j0 10), (jn j0 11), (jn j0 12), (jn j0 13), (jn j0 14), (jn j0 15), .bool true, (jn j0 17), (jn j0 18), (jn j0 19), (jn j0 20), (jn j0 21), (jn j0 22), (jn j0 23), (jn j0 24), (jn j0 25), (jn j0 26), (jn j0 27), (jn j0 28), (jn j0 29), (jn j0 30), (jn j0 31), (jn j0 32), (jn j0 33), (jn j0 34), (jn j0 35), (jn j0 36), (jn j0 37), (jn j0 38), (jn j0 39), (jn j0 40), (jn j0 41), (jn j0 42), (jn j0 43), (jn j0 44), (jn j0 45), (jn j0 46), (jn j0 47), (jn j0 48), (jn j0 49)], [(gn j0 0), (gn j0 1), (gn j0 2), (gn j0 3), .agg (coC c)]) (plC (gn_pl hj0 0) (plC (gn_pl hj0 1) (plC (gn_pl hj0 2) (plC (gn_pl hj0 3) (plC (layCo.plG c) rfl))))))
 rintro i1 ⟨⟩ j1 hj1 hge hq
 clear h hres
 refine WL_rnd ?_
 exact go_ex Hd.plainG [1, 2, 4, 6, 9, 10, 13, 17, 32, 38, 41, 42, 44, 46, 51, 56, 59, 60, 62, 64, 66, 68, 70, 72, 78, 80, 86, 88, 90, 95, 106, 114, 116, 126, 128, 142, 144, 146, 148, 154, 156, 158, 162, 164, 174, 188, 200, 210, 212, 214, 218, 220, 234, 240, 242, 250, 252, 256, 264, 266, 272, 274, 284] [fq (gn_pl hj1 0), fq (layInt.plS y3a), ⟨.sl (.row 0 1) needs6.length (rows liinC needs6), .sl (.row 0 1) needs6.length (rows liinC needs6), (.under (unSl rfl (under_plainL _ _ (layLInt.plC needs6))))⟩, fq (layInt.plS y9), fq (gn_pl hj1 1), fq (gn_pl hj1 2), fq (gn_pl hj1 3), fq (gn_pl hj1 4)] [fbp (coC c) (layCo.pl c)] 2 _ _ (runS 300 [pb (B := ltI ((i1 : Nat) : Int) ((y9.length : Nat) : Int)) (b := false) (ltF hge)]) (by kernel_rfl) (hq ([(jn j1 0), (jn j1 1), (jn j1 2), (jn j1 3), (jn j1 4), (jn j1 5), (jn j1 6), (jn j1 7), (jn j1 8), (jn j1 9), (jn j1 10), (jn j1 11), (jn j1 12), (jn j1 13), (jn j1 14), (jn j1 15), (jn j1 16), .bool false, (jn j1 18), (jn j1 19), (jn j1 20), (jn j1 21), (jn j1 22), (jn j1 23), (jn j1 24), (jn j1 25), (jn j1 26), (jn j1 27), (jn j1 28), (jn j1 29), (jn j1 30), (jn j1 31), (jn j1 32), (jn j1 33), (jn j1 34), (jn j1 35), (jn j1 36), (jn j1 37), (jn j1 38), (jn j1 39), (jn j1 40), (jn j1 41), (jn j1 42), (jn j1 43), (jn j1 44), (jn j1 45), (jn j1 46), (jn j1 47), (jn j1 48), (jn j1 49)], [(gn j1 0), (gn j1 1), (gn j1 2), (gn j1 3), (gn j1 4)]) (plC (gn_pl hj1 0) (plC (gn_pl hj1 1) (plC (gn_pl hj1 2) (plC (gn_pl hj1 3) (plC (gn_pl hj1 4) rfl))))))
 clear h hres
 rintro i1 e1 ⟨⟩ j1 r hj1 he1 hi1 h k
 refine WL_rnd ?_
 revert h
 show law10_CodexOrder_L2  c i1 e1  = some r → _
 unfold law10_CodexOrder_L2
 let o1 : List (PC P G) := [pb (B := ltI ((i1 : Nat) : Int) ((y9.length : Nat) : Int)) (b := true) (ltT hi1), pix (ix40 .lost he1)]
 refine cndI (fun hb2 => ?_) fun hb2 => ?_
 rintro ⟨⟩
 exact go_retA _ _ (runS 300 (o1 ++ [pb hb2])) (by kernel_rfl) (.rnd k) .sc
 refine bndI fun q10 hq10 => ?_
 refine cndI (fun hv => ?_) fun hv => ?_
 subst hv
 rintro ⟨⟩
 exact go_retA _ _ (runS 300 (o1 ++ [pb hb2, pbin (zgeq3 hq10 (.tmp 59) (.tmp 62))])) (by kernel_rfl) (.rnd k) .sc
 subst hv
 rintro ⟨⟩
 exact go_nx Hd.plainG [1, 2, 4, 6, 9, 10, 13, 17, 32, 38, 41, 42, 44, 46, 51, 56, 59, 60, 62, 64, 66, 68, 70, 72, 78, 80, 86, 88, 90, 95, 101, 102, 104, 106, 114, 116, 126, 128, 142, 144, 146, 148, 154, 156, 158, 162, 164, 174, 188, 200, 210, 212, 214, 218, 220, 234, 240, 242, 250, 252, 256, 264, 266, 272, 274, 284] [fq (gn_pl hj1 0), fq (layInt.plS y3a), ⟨.sl (.row 0 1) needs6.length (rows liinC needs6), .sl (.row 0 1) needs6.length (rows liinC needs6), (.under (unSl rfl (under_plainL _ _ (layLInt.plC needs6))))⟩, fq (layInt.plS y9), fq (gn_pl hj1 1), fq (gn_pl hj1 2), fq (gn_pl hj1 3), fq (gn_pl hj1 4), fq (layInt.plS y9)] [fbp (coC c) (layCo.pl c)] _ _ (runS 300 (o1 ++ [pb hb2, pbin (zgeq3 hq10 (.tmp 59) (.tmp 62)), pinc i1 (by omega)])) (by kernel_rfl) (k ([(jn j1 0), (jn j1 1), (jn j1 2), (jn j1 3), (jn j1 4), (jn j1 5), (jn j1 6), (jn j1 7), (jn j1 8), (jn j1 9), (jn j1 10), (jn j1 11), (jn j1 12), (jn j1 13), (jn j1 14), (jn j1 15), (jn j1 16), .bool true, .bool false, .bool false, .bool false, .bool false, (jn j1 22), (jn j1 23), (jn j1 24), (jn j1 25), (jn j1 26), (jn j1 27), (jn j1 28), (jn j1 29), (jn j1 30), (jn j1 31), (jn j1 32), (jn j1 33), (jn j1 34), (jn j1 35), (jn j1 36), (jn j1 37), (jn j1 38), (jn j1 39), (jn j1 40), (jn j1 41), (jn j1 42), (jn j1 43), (jn j1 44), (jn j1 45), (jn j1 46), (jn j1 47), (jn j1 48), (jn j1 49)], [(gn j1 0), (gn j1 1), (gn j1 2), (gn j1 3), (gn j1 4)]) (plC (gn_pl hj1 0) (plC (gn_pl hj1 1) (plC (gn_pl hj1 2) (plC (gn_pl hj1 3) (plC (gn_pl hj1 4) rfl))))))
 rintro ⟨⟩ rfl jx_11 hjx_11
 revert h
 clear hres
 dsimp only [lpK]
 refine limAI fun hl12 => ?_
 rintro ⟨⟩
 exact go_nx Hd.plainG [1, 2, 4, 6, 9, 10, 13, 32, 38, 41, 42, 44, 46, 51, 56, 59, 60, 62, 64, 66, 68, 70, 72, 78, 80, 86, 88, 90, 95, 106, 114, 116, 126, 128, 142, 144, 146, 148, 154, 156, 158, 162, 164, 174, 188, 200, 210, 212, 214, 218, 220, 234, 240, 242, 250, 252, 256, 264, 266, 272, 274, 284] [fq (gn_pl hjx_11 0), fq (layInt.plS y3a), ⟨.sl (.row 0 1) ((needs6 ++ [y9]).length) (rows liinC (needs6 ++ [y9])), .sl (.row 0 1) ((needs6 ++ [y9]).length) (rows liinC (needs6 ++ [y9])), (.under (unSl rfl (under_plainL _ _ (layLInt.plC (needs6 ++ [y9])))))⟩, fq (gn_pl hjx_11 1), fq (gn_pl hjx_11 2), fq (gn_pl hjx_11 3), fq (gn_pl hjx_11 4)] [fbp (coC c) (layCo.pl c)] _ _ (runX 300 [pgro (gro69 (.row 0 1) needs6 [y9] (o := .full) (n := 1) (ns := [.sl .lost y9.length (rows inC y9)]) (layLInt.wn [y9] (.r .nil)) rfl rfl (by simp) (by simpa using hl12)), pinc i0 (by omega)]) (by kernel_rfl) (k ([(jn jx_11 0), (jn jx_11 1), (jn jx_11 2), (jn jx_11 3), (jn jx_11 4), (jn jx_11 5), (jn jx_11 6), (jn jx_11 7), (jn jx_11 8), (jn jx_11 9), (jn jx_11 10), (jn jx_11 11), (jn jx_11 12), (jn jx_11 13), (jn jx_11 14), (jn jx_11 15), (jn jx_11 16), (jn jx_11 17), (jn jx_11 18), (jn jx_11 19), (jn jx_11 20), (jn jx_11 21), (jn jx_11 22), (jn jx_11 23), (jn jx_11 24), (jn jx_11 25), (jn jx_11 26), (jn jx_11 27), (jn jx_11 28), (jn jx_11 29), (jn jx_11 30), (jn jx_11 31), (jn jx_11 32), (jn jx_11 33), (jn jx_11 34), (jn jx_11 35), (jn jx_11 36), (jn jx_11 37), (jn jx_11 38), (jn jx_11 39), (jn jx_11 40), (jn jx_11 41), (jn jx_11 42), (jn jx_11 43), (jn jx_11 44), (jn jx_11 45), (jn jx_11 46), (jn jx_11 47), (jn jx_11 48), (jn jx_11 49)], [(gn jx_11 0), (gn jx_11 1), (gn jx_11 2), (gn jx_11 3), (gn jx_11 4)]) (plC (gn_pl hjx_11 0) (plC (gn_pl hjx_11 1) (plC (gn_pl hjx_11 2) (plC (gn_pl hjx_11 3) (plC (gn_pl hjx_11 4) rfl))))))
 rintro v rfl
 dsimp only [lpK] at h
 cases h
 exact .outer (.rnd k)
 rintro needs6_13 rfl jx_13 hjx_13
 revert h
 clear hres
 dsimp only [lpK]
 refine cndI (fun hv => ?_) fun hv => ?_
 subst hv
 refine cndI (fun hb3 => ?_) fun hb3 => ?_
 refine limMI fun hl14 => ?_
 refine bndI fun res hres h => ?_
 have hlen := (limE hres).1
 replace hres := (limE hres).2
 refine go_at [] [0, 2, 3, 5, 6, 11, 16, 19, 20, 21, 22, 23, 25, 28, 29, 30, 31, 32, 33, 34, 35, 36, 39, 40, 45, 47, 53, 57, 58, 63, 64, 71, 72, 73, 74, 77, 78, 79, 81, 82, 87, 91, 92, 93, 94, 100, 105, 106, 107, 109, 110, 117, 120, 121, 125, 126, 128, 132, 133, 136, 137, 142] 4 (sub B8 [1, 1, 1, 1, 1, 1, 1, 1, 1, 1, 0, 1, 0, 0]) [.code (sub B8 [1, 1, 1, 1, 1, 1, 1, 1, 1, 1, 1])] _ _ (runX 300 [pn hb3, pmb (mkm71 (n := needs6_13.length) hl14)]) (by kernel_rfl) (foldP (fn := Tryz.f8) (m := 0) (fun v => .sc (.bool v)) 4 y3a (fun i2 (w1_l : (List Bool)) (j2 : JJ) => frm 143 0 [(3, .sc (.bool y1)), (6, .sl (.row 0 1) needs6_13.length (rows liinC needs6_13)), (11, .msl 1 0 needs6_13.length), (91, .sl .lost y3a.length (rows inC y3a)), (92, .sc (.int .i64 ((y3a.length : Nat) : Int))), (93, .sc (.int .i64 ((i2 : Nat) : Int)))] [2, 5, 16, 19, 21, 22, 23, 28, 30, 31, 32, 33, 34, 35, 36, 39, 40, 45, 53, 57, 58, 63, 64, 71, 72, 73, 74, 77, 78, 79, 81, 82, 87, 94, 100, 105, 106, 107, 109, 110, 117, 120, 121, 125, 126, 128, 132, 133, 136, 137, 142] 0 [0, 20, 25, 29, 47] 0 j2) (fun (_ : Nat) (w1_l : (List Bool)) (_ : JJ) => ⟨[(1, (.cells (rows boC w1_l))), (0, .cells (coC c))], 2, [(0, needs6_13.length)], 1⟩) (fun (j : JJ) => plainL j.2 = true) (fun (w1_l : (List Bool)) (jx : JJ) => frm 143 0 [(3, .sc (.bool y1))] [2, 5, 16, 19, 21, 22, 23, 28, 30, 31, 32, 33, 34, 35, 36, 39, 40, 45, 53, 57, 58, 63, 64, 71, 72, 73, 74, 77, 78, 79, 81, 82, 87, 94, 100, 105, 106, 107, 109, 110, 117, 120, 121, 125, 126, 128, 132, 133, 136, 137, 142] 0 [0, 20, 25, 29, 47] 0 jx) (fun (w1_l : (List Bool)) (_ : JJ) => ⟨[(1, (.cells (rows boC w1_l))), (0, .cells (coC c))], 2, [(0, needs6_13.length)], 1⟩) (fun (j : JJ) => plainL j.2 = true) ?_ ?_ 0 hres ?_ ?_ ([(jn jx_13 0), .bool true, (jn jx_13 1), (jn jx_13 2), (jn jx_13 3), (jn jx_13 4), (jn jx_13 5), (jn jx_13 6), (jn jx_13 7), (jn jx_13 8), (jn jx_13 9), (jn jx_13 10), (jn jx_13 11), (jn jx_13 12), (jn jx_13 13), (jn jx_13 14), (jn jx_13 15), (jn jx_13 16), (jn jx_13 17), (jn jx_13 18), (jn jx_13 19), (jn jx_13 20), (jn jx_13 21), .bool true, .bool false, (jn jx_13 24), (jn jx_13 25), (jn jx_13 26), (jn jx_13 27), (jn jx_13 28), (jn jx_13 29), (jn jx_13 30), .bool false, (jn jx_13 32), (jn jx_13 33), (jn jx_13 34), (jn jx_13 35), (jn jx_13 36), (jn jx_13 37), (jn jx_13 38), (jn jx_13 39), (jn jx_13 40), (jn jx_13 41), (jn jx_13 42), (jn jx_13 43), (jn jx_13 44), (jn jx_13 45), (jn jx_13 46), (jn jx_13 47), (jn jx_13 48), (jn jx_13 49)], [(gn jx_13 0), (gn jx_13 1), (gn jx_13 2), (gn jx_13 3), (gn jx_13 4)]) (plC (gn_pl hjx_13 0) (plC (gn_pl hjx_13 1) (plC (gn_pl hjx_13 2) (plC (gn_pl hjx_13 3) (plC (gn_pl hjx_13 4) rfl))))))
 rintro i2 w1_l j2 hj2 hge hq
 clear h hres
 refine WL_rnd ?_
 exact go_ex Hd.plainG [1, 4, 6, 10, 32, 38, 41, 42, 44, 46, 51, 56, 59, 60, 62, 64, 66, 68, 70, 72, 78, 80, 90, 95, 106, 114, 116, 126, 128, 142, 144, 146, 148, 154, 156, 158, 162, 164, 174, 188, 200, 210, 212, 214, 218, 220, 234, 240, 242, 250, 252, 256, 264, 266, 272, 274, 284] [fq (gn_pl hj2 0), fq (gn_pl hj2 1), fq (gn_pl hj2 2), fq (gn_pl hj2 3), fq (gn_pl hj2 4)] [fbp (rows boC w1_l) (layBool.plC w1_l), fbp (coC c) (layCo.pl c)] 4 _ _ (runS 300 [pb (B := ltI ((i2 : Nat) : Int) ((y3a.length : Nat) : Int)) (b := false) (ltF hge)]) (by kernel_rfl) (hq ([(jn j2 0), (jn j2 1), (jn j2 2), (jn j2 3), (jn j2 4), (jn j2 5), (jn j2 6), (jn j2 7), (jn j2 8), (jn j2 9), (jn j2 10), (jn j2 11), (jn j2 12), (jn j2 13), (jn j2 14), (jn j2 15), (jn j2 16), (jn j2 17), (jn j2 18), (jn j2 19), (jn j2 20), (jn j2 21), (jn j2 22), (jn j2 23), (jn j2 24), (jn j2 25), (jn j2 26), (jn j2 27), (jn j2 28), (jn j2 29), (jn j2 30), (jn j2 31), (jn j2 32), .bool false, (jn j2 34), (jn j2 35), (jn j2 36), (jn j2 37), (jn j2 38), (jn j2 39), (jn j2 40), (jn j2 41), (jn j2 42), (jn j2 43), (jn j2 44), (jn j2 45), (jn j2 46), (jn j2 47), (jn j2 48), (jn j2 49), (jn j2 50)], [(gn j2 0), (gn j2 1), (gn j2 2), (gn j2 3), (gn j2 4)]) (plC (gn_pl hj2 0) (plC (gn_pl hj2 1) (plC (gn_pl hj2 2) (plC (gn_pl hj2 3) (plC (gn_pl hj2 4) rfl))))))
 clear h hres
 rintro i2 e2 w1_l j2 r hj2 he2 hi2 h k
 refine WL_rnd ?_
 revert h
 show law10_CodexOrder_L3  needs6_13 i2 e2 w1_l = some r → _
 unfold law10_CodexOrder_L3
 refine bndI fun res hres h => ?_
 have hlen := (limE hres).1
 replace hres := (limE hres).2
 refine go_at [] [0, 2, 3, 5, 6, 11, 13, 14, 16, 19, 20, 21, 22, 23, 25, 28, 29, 30, 31, 32, 33, 34, 35, 36, 39, 40, 45, 47, 53, 57, 58, 63, 64, 71, 72, 73, 74, 77, 78, 79, 81, 82, 87, 91, 92, 93, 94, 98, 99, 100, 105, 106, 107, 109, 110, 117, 120, 121, 125, 126, 128, 132, 133, 136, 137, 142] 6 (sub B8 [1, 1, 1, 1, 1, 1, 1, 1, 1, 1, 0, 1, 0, 0, 1, 1, 0, 0, 1, 1, 0, 1, 0, 0]) [.code (sub B8 [1, 1, 1, 1, 1, 1, 1, 1, 1, 1, 0, 1, 0, 0, 1, 1, 0, 0, 1, 1, 1]), .endb 5, .code (sub B8 [1, 1, 1, 1, 1, 1, 1, 1, 1, 1, 0, 1, 0, 0, 1, 1, 1])] _ _ (runS 300 [pb (B := ltI ((i2 : Nat) : Int) ((y3a.length : Nat) : Int)) (b := true) (ltT hi2), pix (ix40 .lost he2)]) (by kernel_rfl) (foldP (fn := Tryz.f8) (m := 0) (fun v => .sc (.bool v)) 6 needs6_13 (fun i3 (least14 : Int) (j3 : JJ) => frm 143 0 [(3, .sc (.bool y1)), (6, .sl (.row 0 1) needs6_13.length (rows liinC needs6_13)), (11, .msl 1 0 needs6_13.length), (13, .sc (.int .i64 e2)), (14, .sc (.int .i64 least14)), (91, .sl .lost y3a.length (rows inC y3a)), (92, .sc (.int .i64 ((y3a.length : Nat) : Int))), (93, .sc (.int .i64 ((i2 : Nat) : Int))), (98, .sc (.int .i64 ((needs6_13.length : Nat) : Int))), (99, .sc (.int .i64 ((i3 : Nat) : Int)))] [2, 5, 16, 19, 21, 22, 23, 28, 30, 31, 32, 33, 34, 35, 36, 39, 40, 45, 53, 57, 58, 63, 64, 71, 72, 73, 74, 77, 78, 79, 81, 82, 87, 94, 100, 105, 106, 107, 109, 110, 117, 120, 121, 125, 126, 128, 132, 133, 136, 137, 142] 0 [0, 20, 25, 29, 47] 0 j3) (fun (_ : Nat) (least14 : Int) (_ : JJ) => ⟨[(1, (.cells (rows boC w1_l))), (0, .cells (coC c))], 2, [(0, needs6_13.length)], 1⟩) (fun (j : JJ) => plainL j.2 = true) (fun (least14 : Int) (jx : JJ) => frm 143 0 [(3, .sc (.bool y1)), (6, .sl (.row 0 1) needs6_13.length (rows liinC needs6_13)), (11, .msl 1 0 needs6_13.length), (13, .sc (.int .i64 e2)), (14, .sc (.int .i64 least14)), (91, .sl .lost y3a.length (rows inC y3a)), (92, .sc (.int .i64 ((y3a.length : Nat) : Int))), (93, .sc (.int .i64 ((i2 : Nat) : Int)))] [2, 5, 16, 19, 21, 22, 23, 28, 30, 31, 32, 33, 34, 35, 36, 39, 40, 45, 53, 57, 58, 63, 64, 71, 72, 73, 74, 77, 78, 79, 81, 82, 87, 94, 100, 105, 106, 107, 109, 110, 117, 120, 121, 125, 126, 128, 132, 133, 136, 137, 142] 0 [0, 20, 25, 29, 47] 0 jx) (fun (least14 : Int) (_ : JJ) => ⟨[(1, (.cells (rows boC w1_l))), (0, .cells (coC c))], 2, [(0, needs6_13.length)], 1⟩) (fun (j : JJ) => plainL j.2 = true) ?_ ?_ 0 hres ?_ ?_ ([(jn j2 0), (jn j2 1), (jn j2 2), (jn j2 3), (jn j2 4), (jn j2 5), (jn j2 6), (jn j2 7), (jn j2 8), (jn j2 9), (jn j2 10), (jn j2 11), (jn j2 12), (jn j2 13), (jn j2 14), (jn j2 15), (jn j2 16), (jn j2 17), (jn j2 18), (jn j2 19), (jn j2 20), (jn j2 21), (jn j2 22), (jn j2 23), (jn j2 24), (jn j2 25), (jn j2 26), (jn j2 27), (jn j2 28), (jn j2 29), (jn j2 30), (jn j2 31), (jn j2 32), .bool true, (jn j2 34), (jn j2 35), (jn j2 36), (jn j2 37), (jn j2 38), (jn j2 39), (jn j2 40), (jn j2 41), (jn j2 42), (jn j2 43), (jn j2 44), (jn j2 45), (jn j2 46), (jn j2 47), (jn j2 48), (jn j2 49), (jn j2 50)], [(gn j2 0), (gn j2 1), (gn j2 2), (gn j2 3), (gn j2 4)]) (plC (gn_pl hj2 0) (plC (gn_pl hj2 1) (plC (gn_pl hj2 2) (plC (gn_pl hj2 3) (plC (gn_pl hj2 4) rfl))))))
 rintro i3 least14 j3 hj3 hge hq
 clear h hres
 refine WL_rnd ?_
 exact go_ex Hd.plainG [1, 4, 6, 10, 13, 22, 26, 28, 32, 38, 41, 42, 44, 46, 51, 56, 59, 60, 62, 64, 66, 68, 70, 72, 78, 80, 90, 95, 106, 114, 116, 126, 128, 142, 144, 146, 148, 154, 156, 158, 162, 164, 174, 183, 184, 186, 188, 200, 210, 212, 214, 218, 220, 234, 240, 242, 250, 252, 256, 264, 266, 272, 274, 284] [fq (gn_pl hj3 0), ⟨.sl (.row 0 1) needs6_13.length (rows liinC needs6_13), .sl (.row 0 1) needs6_13.length (rows liinC needs6_13), (.under (unSl rfl (under_plainL _ _ (layLInt.plC needs6_13))))⟩, fq (gn_pl hj3 1), fq (gn_pl hj3 2), fq (gn_pl hj3 3), fq (gn_pl hj3 4), fq (layInt.plS y3a)] [fbp (rows boC w1_l) (layBool.plC w1_l), fbp (coC c) (layCo.pl c)] 6 _ _ (runS 300 [pb (B := ltI ((i3 : Nat) : Int) ((needs6_13.length : Nat) : Int)) (b := false) (ltF hge)]) (by kernel_rfl) (hq ([(jn j3 0), (jn j3 1), (jn j3 2), (jn j3 3), (jn j3 4), (jn j3 5), (jn j3 6), (jn j3 7), (jn j3 8), (jn j3 9), (jn j3 10), (jn j3 11), (jn j3 12), (jn j3 13), (jn j3 14), (jn j3 15), (jn j3 16), (jn j3 17), (jn j3 18), (jn j3 19), (jn j3 20), (jn j3 21), (jn j3 22), (jn j3 23), (jn j3 24), (jn j3 25), (jn j3 26), (jn j3 27), (jn j3 28), (jn j3 29), (jn j3 30), (jn j3 31), (jn j3 32), (jn j3 33), .bool false, (jn j3 35), (jn j3 36), (jn j3 37), (jn j3 38), (jn j3 39), (jn j3 40), (jn j3 41), (jn j3 42), (jn j3 43), (jn j3 44), (jn j3 45), (jn j3 46), (jn j3 47), (jn j3 48), (jn j3 49), (jn j3 50)], [(gn j3 0), (gn j3 1), (gn j3 2), (gn j3 3), (gn j3 4)]) (plC (gn_pl hj3 0) (plC (gn_pl hj3 1) (plC (gn_pl hj3 2) (plC (gn_pl hj3 3) (plC (gn_pl hj3 4) rfl))))))
 clear h hres
 rintro i3 e3 least14 j3 r hj3 he3 hi3 h k
 refine WL_rnd ?_
 revert h
 show law10_CodexOrder_L4  needs6_13 w1_l i3 e3 least14 = some r → _
 unfold law10_CodexOrder_L4
 refine bndI fun x17 hx17 => ?_
 let o2 : List (PC P G) := [pb (B := ltI ((i3 : Nat) : Int) ((needs6_13.length : Nat) : Int)) (b := true) (ltT hi3), pix (ixm71 (id := 1) (n := needs6_13.length) (i := i3) (by have := ltI_T (ltT hi3); omega)), plb (ldm71 hx17)]
 refine cndI (fun hv => ?_) fun hv => ?_
 subst hv
 refine bndI fun res hres h => ?_
 have hlen := (limE hres).1
 replace hres := (limE hres).2
 refine go_at [] [0, 2, 3, 5, 6, 11, 13, 14, 15, 16, 19, 20, 21, 22, 23, 25, 28, 29, 30, 31, 32, 33, 34, 35, 36, 39, 40, 45, 47, 53, 57, 58, 63, 64, 71, 72, 73, 74, 77, 78, 79, 81, 82, 87, 91, 92, 93, 94, 98, 99, 100, 105, 106, 107, 109, 110, 114, 115, 116, 117, 120, 121, 125, 126, 128, 132, 133, 136, 137, 142] 8 (sub B8 [1, 1, 1, 1, 1, 1, 1, 1, 1, 1, 0, 1, 0, 0, 1, 1, 0, 0, 1, 1, 0, 1, 0, 0, 1, 1, 0, 0, 1, 1, 0, 1, 0, 0]) [.code (sub B8 [1, 1, 1, 1, 1, 1, 1, 1, 1, 1, 0, 1, 0, 0, 1, 1, 0, 0, 1, 1, 0, 1, 0, 0, 1, 1, 0, 0, 1, 1, 1]), .endb 7, .code (sub B8 [1, 1, 1, 1, 1, 1, 1, 1, 1, 1, 0, 1, 0, 0, 1, 1, 0, 0, 1, 1, 0, 1, 0, 0, 1, 1, 1])] _ _ (runS 300 (o2 ++ [pix (ix69 (.row 0 1) he3)])) (by kernel_rfl) (foldP (fn := Tryz.f8) (m := 0) (fun v => .sc (.bool v)) 8 e3 (fun i4 (ready16 : Bool) (j4 : JJ) => frm 143 0 [(3, .sc (.bool y1)), (6, .sl (.row 0 1) needs6_13.length (rows liinC needs6_13)), (11, .msl 1 0 needs6_13.length), (13, .sc (.int .i64 e2)), (14, .sc (.int .i64 least14)), (15, .sc (.int .i64 ((i3 : Nat) : Int))), (16, .sc (.bool ready16)), (91, .sl .lost y3a.length (rows inC y3a)), (92, .sc (.int .i64 ((y3a.length : Nat) : Int))), (93, .sc (.int .i64 ((i2 : Nat) : Int))), (98, .sc (.int .i64 ((needs6_13.length : Nat) : Int))), (99, .sc (.int .i64 ((i3 : Nat) : Int))), (114, .sl .lost e3.length (rows inC e3)), (115, .sc (.int .i64 ((e3.length : Nat) : Int))), (116, .sc (.int .i64 ((i4 : Nat) : Int)))] [2, 5, 19, 21, 22, 23, 28, 30, 31, 32, 33, 34, 35, 36, 39, 40, 45, 53, 57, 58, 63, 64, 71, 72, 73, 74, 77, 78, 79, 81, 82, 87, 94, 100, 105, 106, 107, 109, 110, 117, 120, 121, 125, 126, 128, 132, 133, 136, 137, 142] 0 [0, 20, 25, 29, 47] 0 j4) (fun (_ : Nat) (ready16 : Bool) (_ : JJ) => ⟨[(1, (.cells (rows boC w1_l))), (0, .cells (coC c))], 2, [(0, needs6_13.length)], 1⟩) (fun (j : JJ) => plainL j.2 = true) (fun (ready16 : Bool) (jx : JJ) => frm 143 0 [(3, .sc (.bool y1)), (6, .sl (.row 0 1) needs6_13.length (rows liinC needs6_13)), (11, .msl 1 0 needs6_13.length), (13, .sc (.int .i64 e2)), (14, .sc (.int .i64 least14)), (15, .sc (.int .i64 ((i3 : Nat) : Int))), (16, .sc (.bool ready16)), (91, .sl .lost y3a.length (rows inC y3a)), (92, .sc (.int .i64 ((y3a.length : Nat) : Int))), (93, .sc (.int .i64 ((i2 : Nat) : Int))), (98, .sc (.int .i64 ((needs6_13.length : Nat) : Int))), (99, .sc (.int .i64 ((i3 : Nat) : Int)))] [2, 5, 19, 21, 22, 23, 28, 30, 31, 32, 33, 34, 35, 36, 39, 40, 45, 53, 57, 58, 63, 64, 71, 72, 73, 74, 77, 78, 79, 81, 82, 87, 94, 100, 105, 106, 107, 109, 110, 117, 120, 121, 125, 126, 128, 132, 133, 136, 137, 142] 0 [0, 20, 25, 29, 47] 0 jx) (fun (ready16 : Bool) (_ : JJ) => ⟨[(1, (.cells (rows boC w1_l))), (0, .cells (coC c))], 2, [(0, needs6_13.length)], 1⟩) (fun (j : JJ) => plainL j.2 = true) ?_ ?_ 0 hres ?_ ?_ ([(jn j3 0), (jn j3 1), (jn j3 3), (jn j3 4), (jn j3 5), (jn j3 6), (jn j3 7), (jn j3 8), (jn j3 9), (jn j3 10), (jn j3 11), (jn j3 12), (jn j3 13), (jn j3 14), (jn j3 15), (jn j3 16), (jn j3 17), (jn j3 18), (jn j3 19), (jn j3 20), (jn j3 21), (jn j3 22), (jn j3 23), (jn j3 24), (jn j3 25), (jn j3 26), (jn j3 27), (jn j3 28), (jn j3 29), (jn j3 30), (jn j3 31), (jn j3 32), (jn j3 33), .bool true, .bool true, .bool false, .bool false, undef, .bool false, (jn j3 40), (jn j3 41), (jn j3 42), (jn j3 43), (jn j3 44), (jn j3 45), (jn j3 46), (jn j3 47), (jn j3 48), (jn j3 49), (jn j3 50)], [(gn j3 0), (gn j3 1), (gn j3 2), (gn j3 3), (gn j3 4)]) (plC (gn_pl hj3 0) (plC (gn_pl hj3 1) (plC (gn_pl hj3 2) (plC (gn_pl hj3 3) (plC (gn_pl hj3 4) rfl))))))
 rintro i4 ready16 j4 hj4 hge hq
 clear h hres
 refine WL_rnd ?_
 exact go_ex Hd.plainG [1, 4, 6, 10, 13, 22, 26, 28, 30, 32, 38, 41, 42, 44, 46, 51, 56, 59, 60, 62, 64, 66, 68, 70, 72, 78, 80, 90, 95, 106, 114, 116, 126, 128, 142, 144, 146, 148, 154, 156, 158, 162, 164, 174, 183, 184, 186, 188, 196, 198, 200, 210, 212, 214, 218, 220, 234, 240, 242, 250, 252, 256, 264, 266, 272, 274, 284] [fq (gn_pl hj4 0), ⟨.sl (.row 0 1) needs6_13.length (rows liinC needs6_13), .sl (.row 0 1) needs6_13.length (rows liinC needs6_13), (.under (unSl rfl (under_plainL _ _ (layLInt.plC needs6_13))))⟩, fq (gn_pl hj4 1), fq (gn_pl hj4 2), fq (gn_pl hj4 3), fq (gn_pl hj4 4), fq (layInt.plS y3a)] [fbp (rows boC w1_l) (layBool.plC w1_l), fbp (coC c) (layCo.pl c)] 8 _ _ (runS 300 [pb (B := ltI ((i4 : Nat) : Int) ((e3.length : Nat) : Int)) (b := false) (ltF hge)]) (by kernel_rfl) (hq ([(jn j4 0), (jn j4 1), (jn j4 2), (jn j4 3), (jn j4 4), (jn j4 5), (jn j4 6), (jn j4 7), (jn j4 8), (jn j4 9), (jn j4 10), (jn j4 11), (jn j4 12), (jn j4 13), (jn j4 14), (jn j4 15), (jn j4 16), (jn j4 17), (jn j4 18), (jn j4 19), (jn j4 20), (jn j4 21), (jn j4 22), (jn j4 23), (jn j4 24), (jn j4 25), (jn j4 26), (jn j4 27), (jn j4 28), (jn j4 29), (jn j4 30), (jn j4 31), (jn j4 32), (jn j4 33), (jn j4 34), (jn j4 35), (jn j4 36), (jn j4 37), (jn j4 38), .bool false, (jn j4 40), (jn j4 41), (jn j4 42), (jn j4 43), (jn j4 44), (jn j4 45), (jn j4 46), (jn j4 47), (jn j4 48), (jn j4 49)], [(gn j4 0), (gn j4 1), (gn j4 2), (gn j4 3), (gn j4 4)]) (plC (gn_pl hj4 0) (plC (gn_pl hj4 1) (plC (gn_pl hj4 2) (plC (gn_pl hj4 3) (plC (gn_pl hj4 4) rfl))))))
 clear h hres
 rintro i4 e4 ready16 j4 r hj4 he4 hi4 h k
 refine WL_rnd ?_
 revert h
 show law10_CodexOrder_L5  needs6_13 w1_l i4 e4 ready16 = some r → _
 unfold law10_CodexOrder_L5
 let o3 : List (PC P G) := [pb (B := ltI ((i4 : Nat) : Int) ((e3.length : Nat) : Int)) (b := true) (ltT hi4), pix (ix40 .lost he4)]
 refine cndI (fun hv => ?_) fun hv => ?_
 subst hv
 refine bndI fun k19 hk19 => ?_
 refine bndI fun x20 hx20 => ?_
 rintro ⟨⟩
 exact go_nx Hd.plainG [1, 4, 6, 10, 13, 22, 26, 28, 30, 32, 38, 41, 42, 44, 46, 51, 56, 59, 60, 62, 64, 66, 68, 70, 72, 78, 80, 90, 95, 106, 114, 116, 126, 128, 142, 144, 146, 148, 154, 156, 158, 162, 164, 174, 183, 184, 186, 188, 196, 198, 200, 210, 212, 214, 218, 220, 229, 230, 232, 234, 240, 242, 250, 252, 256, 264, 266, 272, 274, 284] [fq (gn_pl hj4 0), ⟨.sl (.row 0 1) needs6_13.length (rows liinC needs6_13), .sl (.row 0 1) needs6_13.length (rows liinC needs6_13), (.under (unSl rfl (under_plainL _ _ (layLInt.plC needs6_13))))⟩, fq (gn_pl hj4 1), fq (gn_pl hj4 2), fq (gn_pl hj4 3), fq (gn_pl hj4 4), fq (layInt.plS y3a), fq (layInt.plS e3)] [fbp (rows boC w1_l) (layBool.plC w1_l), fbp (coC c) (layCo.pl c)] _ _ (runS 300 (o3 ++ [pix (ixmz71 (id := 1) hk19), plb (ldm71 hx20), pinc i4 (by omega)])) (by kernel_rfl) (k ([(jn j4 0), (jn j4 1), (jn j4 2), (jn j4 3), (jn j4 4), (jn j4 5), (jn j4 6), (jn j4 7), (jn j4 8), (jn j4 9), (jn j4 10), (jn j4 11), (jn j4 12), (jn j4 13), (jn j4 14), (jn j4 15), (jn j4 16), (jn j4 17), (jn j4 18), (jn j4 19), (jn j4 20), (jn j4 21), (jn j4 22), (jn j4 23), (jn j4 24), (jn j4 25), (jn j4 26), (jn j4 27), (jn j4 28), (jn j4 29), (jn j4 30), (jn j4 31), (jn j4 32), (jn j4 33), (jn j4 34), (jn j4 35), (jn j4 36), (jn j4 37), (jn j4 38), .bool true, .bool true, .bool true, .bool x20, .bool x20, (jn j4 44), (jn j4 45), (jn j4 46), (jn j4 47), (jn j4 48), (jn j4 49)], [(gn j4 0), (gn j4 1), (gn j4 2), (gn j4 3), (gn j4 4)]) (plC (gn_pl hj4 0) (plC (gn_pl hj4 1) (plC (gn_pl hj4 2) (plC (gn_pl hj4 3) (plC (gn_pl hj4 4) rfl))))))
 subst hv
 rintro ⟨⟩
 exact go_nx Hd.plainG [1, 4, 6, 10, 13, 22, 26, 28, 30, 32, 38, 41, 42, 44, 46, 51, 56, 59, 60, 62, 64, 66, 68, 70, 72, 78, 80, 90, 95, 106, 114, 116, 126, 128, 142, 144, 146, 148, 154, 156, 158, 162, 164, 174, 183, 184, 186, 188, 196, 198, 200, 210, 212, 214, 218, 220, 229, 230, 232, 234, 240, 242, 250, 252, 256, 264, 266, 272, 274, 284] [fq (gn_pl hj4 0), ⟨.sl (.row 0 1) needs6_13.length (rows liinC needs6_13), .sl (.row 0 1) needs6_13.length (rows liinC needs6_13), (.under (unSl rfl (under_plainL _ _ (layLInt.plC needs6_13))))⟩, fq (gn_pl hj4 1), fq (gn_pl hj4 2), fq (gn_pl hj4 3), fq (gn_pl hj4 4), fq (layInt.plS y3a), fq (layInt.plS e3)] [fbp (rows boC w1_l) (layBool.plC w1_l), fbp (coC c) (layCo.pl c)] _ _ (runS 300 (o3 ++ [pinc i4 (by omega)])) (by kernel_rfl) (k ([(jn j4 0), (jn j4 1), (jn j4 2), (jn j4 3), (jn j4 4), (jn j4 5), (jn j4 6), (jn j4 7), (jn j4 8), (jn j4 9), (jn j4 10), (jn j4 11), (jn j4 12), (jn j4 13), (jn j4 14), (jn j4 15), (jn j4 16), (jn j4 17), (jn j4 18), (jn j4 19), (jn j4 20), (jn j4 21), (jn j4 22), (jn j4 23), (jn j4 24), (jn j4 25), (jn j4 26), (jn j4 27), (jn j4 28), (jn j4 29), (jn j4 30), (jn j4 31), (jn j4 32), (jn j4 33), (jn j4 34), (jn j4 35), (jn j4 36), (jn j4 37), (jn j4 38), .bool true, .bool false, .bool false, undef, .bool false, (jn j4 44), (jn j4 45), (jn j4 46), (jn j4 47), (jn j4 48), (jn j4 49)], [(gn j4 0), (gn j4 1), (gn j4 2), (gn j4 3), (gn j4 4)]) (plC (gn_pl hj4 0) (plC (gn_pl hj4 1) (plC (gn_pl hj4 2) (plC (gn_pl hj4 3) (plC (gn_pl hj4 4) rfl))))))
 rintro ready16_21 rfl jx_21 hjx_21
 revert h
 clear hres
 dsimp only [lpK]
 refine cndI (fun hv => ?_) fun hv => ?_
 subst hv
 rintro ⟨⟩
 exact go_nx Hd.plainG [1, 4, 6, 10, 13, 22, 26, 28, 32, 38, 41, 42, 44, 46, 51, 56, 59, 60, 62, 64, 66, 68, 70, 72, 78, 80, 90, 95, 106, 114, 116, 126, 128, 142, 144, 146, 148, 154, 156, 158, 162, 164, 174, 183, 184, 186, 188, 196, 198, 200, 210, 212, 214, 218, 220, 234, 240, 242, 250, 252, 256, 264, 266, 272, 274, 284] [fq (gn_pl hjx_21 0), ⟨.sl (.row 0 1) needs6_13.length (rows liinC needs6_13), .sl (.row 0 1) needs6_13.length (rows liinC needs6_13), (.under (unSl rfl (under_plainL _ _ (layLInt.plC needs6_13))))⟩, fq (gn_pl hjx_21 1), fq (gn_pl hjx_21 2), fq (gn_pl hjx_21 3), fq (gn_pl hjx_21 4), fq (layInt.plS y3a)] [fbp (rows boC w1_l) (layBool.plC w1_l), fbp (coC c) (layCo.pl c)] _ _ (runX 300 [pinc i3 (by omega)]) (by kernel_rfl) (k ([(jn jx_21 0), (jn jx_21 1), .bool true, (jn jx_21 2), (jn jx_21 3), (jn jx_21 4), (jn jx_21 5), (jn jx_21 6), (jn jx_21 7), (jn jx_21 8), (jn jx_21 9), (jn jx_21 10), (jn jx_21 11), (jn jx_21 12), (jn jx_21 13), (jn jx_21 14), (jn jx_21 15), (jn jx_21 16), (jn jx_21 17), (jn jx_21 18), (jn jx_21 19), (jn jx_21 20), (jn jx_21 21), (jn jx_21 22), (jn jx_21 23), (jn jx_21 24), (jn jx_21 25), (jn jx_21 26), (jn jx_21 27), (jn jx_21 28), (jn jx_21 29), (jn jx_21 30), (jn jx_21 31), (jn jx_21 32), (jn jx_21 33), (jn jx_21 34), (jn jx_21 35), (jn jx_21 36), (jn jx_21 37), (jn jx_21 38), (jn jx_21 39), (jn jx_21 40), (jn jx_21 41), (jn jx_21 42), (jn jx_21 43), .bool true, (jn jx_21 45), (jn jx_21 46), (jn jx_21 47), (jn jx_21 48), (jn jx_21 49)], [(gn jx_21 0), (gn jx_21 1), (gn jx_21 2), (gn jx_21 3), (gn jx_21 4)]) (plC (gn_pl hjx_21 0) (plC (gn_pl hjx_21 1) (plC (gn_pl hjx_21 2) (plC (gn_pl hjx_21 3) (plC (gn_pl hjx_21 4) rfl))))))
 subst hv
 rintro ⟨⟩
 exact go_nx Hd.plainG [1, 4, 6, 10, 13, 22, 26, 28, 32, 38, 41, 42, 44, 46, 51, 56, 59, 60, 62, 64, 66, 68, 70, 72, 78, 80, 90, 95, 106, 114, 116, 126, 128, 142, 144, 146, 148, 154, 156, 158, 162, 164, 174, 183, 184, 186, 188, 196, 198, 200, 210, 212, 214, 218, 220, 234, 240, 242, 250, 252, 256, 264, 266, 272, 274, 284] [fq (gn_pl hjx_21 0), ⟨.sl (.row 0 1) needs6_13.length (rows liinC needs6_13), .sl (.row 0 1) needs6_13.length (rows liinC needs6_13), (.under (unSl rfl (under_plainL _ _ (layLInt.plC needs6_13))))⟩, fq (gn_pl hjx_21 1), fq (gn_pl hjx_21 2), fq (gn_pl hjx_21 3), fq (gn_pl hjx_21 4), fq (layInt.plS y3a)] [fbp (rows boC w1_l) (layBool.plC w1_l), fbp (coC c) (layCo.pl c)] _ _ (runX 300 [pinc i3 (by omega)]) (by kernel_rfl) (k ([(jn jx_21 0), (jn jx_21 1), .bool false, (jn jx_21 2), (jn jx_21 3), (jn jx_21 4), (jn jx_21 5), (jn jx_21 6), (jn jx_21 7), (jn jx_21 8), (jn jx_21 9), (jn jx_21 10), (jn jx_21 11), (jn jx_21 12), (jn jx_21 13), (jn jx_21 14), (jn jx_21 15), (jn jx_21 16), (jn jx_21 17), (jn jx_21 18), (jn jx_21 19), (jn jx_21 20), (jn jx_21 21), (jn jx_21 22), (jn jx_21 23), (jn jx_21 24), (jn jx_21 25), (jn jx_21 26), (jn jx_21 27), (jn jx_21 28), (jn jx_21 29), (jn jx_21 30), (jn jx_21 31), (jn jx_21 32), (jn jx_21 33), (jn jx_21 34), (jn jx_21 35), (jn jx_21 36), (jn jx_21 37), (jn jx_21 38), (jn jx_21 39), (jn jx_21 40), (jn jx_21 41), (jn jx_21 42), (jn jx_21 43), .bool false, (jn jx_21 45), (jn jx_21 46), (jn jx_21 47), (jn jx_21 48), (jn jx_21 49)], [(gn jx_21 0), (gn jx_21 1), (gn jx_21 2), (gn jx_21 3), (gn jx_21 4)]) (plC (gn_pl hjx_21 0) (plC (gn_pl hjx_21 1) (plC (gn_pl hjx_21 2) (plC (gn_pl hjx_21 3) (plC (gn_pl hjx_21 4) rfl))))))
 rintro v rfl
 dsimp only [lpK] at h
 cases h
 exact .outer (.rnd k)
 subst hv
 refine bndI fun q18 hq18 => ?_
 refine bndI fun res hres h => ?_
 have hlen := (limE hres).1
 replace hres := (limE hres).2
 refine go_at [] [0, 2, 3, 5, 6, 11, 13, 14, 15, 16, 19, 20, 21, 22, 23, 25, 28, 29, 30, 31, 32, 33, 34, 35, 36, 39, 40, 45, 47, 53, 57, 58, 63, 64, 71, 72, 73, 74, 77, 78, 79, 81, 82, 87, 91, 92, 93, 94, 98, 99, 100, 105, 106, 107, 109, 110, 114, 115, 116, 117, 120, 121, 125, 126, 128, 132, 133, 136, 137, 142] 8 (sub B8 [1, 1, 1, 1, 1, 1, 1, 1, 1, 1, 0, 1, 0, 0, 1, 1, 0, 0, 1, 1, 0, 1, 0, 0, 1, 1, 0, 0, 1, 1, 0, 1, 0, 0]) [.code (sub B8 [1, 1, 1, 1, 1, 1, 1, 1, 1, 1, 0, 1, 0, 0, 1, 1, 0, 0, 1, 1, 0, 1, 0, 0, 1, 1, 0, 0, 1, 1, 1]), .endb 7, .code (sub B8 [1, 1, 1, 1, 1, 1, 1, 1, 1, 1, 0, 1, 0, 0, 1, 1, 0, 0, 1, 1, 0, 1, 0, 0, 1, 1, 1])] _ _ (runS 300 (o2 ++ [pbin (zlss3 hq18 (.tmp 108) (.const (.int .i64 0))), pix (ix69 (.row 0 1) he3)])) (by kernel_rfl) (foldP (fn := Tryz.f8) (m := 0) (fun v => .sc (.bool v)) 8 e3 (fun i4 (ready16 : Bool) (j4 : JJ) => frm 143 0 [(3, .sc (.bool y1)), (6, .sl (.row 0 1) needs6_13.length (rows liinC needs6_13)), (11, .msl 1 0 needs6_13.length), (13, .sc (.int .i64 e2)), (14, .sc (.int .i64 least14)), (15, .sc (.int .i64 ((i3 : Nat) : Int))), (16, .sc (.bool ready16)), (91, .sl .lost y3a.length (rows inC y3a)), (92, .sc (.int .i64 ((y3a.length : Nat) : Int))), (93, .sc (.int .i64 ((i2 : Nat) : Int))), (98, .sc (.int .i64 ((needs6_13.length : Nat) : Int))), (99, .sc (.int .i64 ((i3 : Nat) : Int))), (114, .sl .lost e3.length (rows inC e3)), (115, .sc (.int .i64 ((e3.length : Nat) : Int))), (116, .sc (.int .i64 ((i4 : Nat) : Int)))] [2, 5, 19, 21, 22, 23, 28, 30, 31, 32, 33, 34, 35, 36, 39, 40, 45, 53, 57, 58, 63, 64, 71, 72, 73, 74, 77, 78, 79, 81, 82, 87, 94, 100, 105, 106, 107, 109, 110, 117, 120, 121, 125, 126, 128, 132, 133, 136, 137, 142] 0 [0, 20, 25, 29, 47] 0 j4) (fun (_ : Nat) (ready16 : Bool) (_ : JJ) => ⟨[(1, (.cells (rows boC w1_l))), (0, .cells (coC c))], 2, [(0, needs6_13.length)], 1⟩) (fun (j : JJ) => plainL j.2 = true) (fun (ready16 : Bool) (jx : JJ) => frm 143 0 [(3, .sc (.bool y1)), (6, .sl (.row 0 1) needs6_13.length (rows liinC needs6_13)), (11, .msl 1 0 needs6_13.length), (13, .sc (.int .i64 e2)), (14, .sc (.int .i64 least14)), (15, .sc (.int .i64 ((i3 : Nat) : Int))), (16, .sc (.bool ready16)), (91, .sl .lost y3a.length (rows inC y3a)), (92, .sc (.int .i64 ((y3a.length : Nat) : Int))), (93, .sc (.int .i64 ((i2 : Nat) : Int))), (98, .sc (.int .i64 ((needs6_13.length : Nat) : Int))), (99, .sc (.int .i64 ((i3 : Nat) : Int)))] [2, 5, 19, 21, 22, 23, 28, 30, 31, 32, 33, 34, 35, 36, 39, 40, 45, 53, 57, 58, 63, 64, 71, 72, 73, 74, 77, 78, 79, 81, 82, 87, 94, 100, 105, 106, 107, 109, 110, 117, 120, 121, 125, 126, 128, 132, 133, 136, 137, 142] 0 [0, 20, 25, 29, 47] 0 jx) (fun (ready16 : Bool) (_ : JJ) => ⟨[(1, (.cells (rows boC w1_l))), (0, .cells (coC c))], 2, [(0, needs6_13.length)], 1⟩) (fun (j : JJ) => plainL j.2 = true) ?_ ?_ 0 hres ?_ ?_ ([(jn j3 0), (jn j3 1), (jn j3 3), (jn j3 4), (jn j3 5), (jn j3 6), (jn j3 7), (jn j3 8), (jn j3 9), (jn j3 10), (jn j3 11), (jn j3 12), (jn j3 13), (jn j3 14), (jn j3 15), (jn j3 16), (jn j3 17), (jn j3 18), (jn j3 19), (jn j3 20), (jn j3 21), (jn j3 22), (jn j3 23), (jn j3 24), (jn j3 25), (jn j3 26), (jn j3 27), (jn j3 28), (jn j3 29), (jn j3 30), (jn j3 31), (jn j3 32), (jn j3 33), .bool true, .bool false, .bool true, .bool true, .bool q18, .bool q18, (jn j3 40), (jn j3 41), (jn j3 42), (jn j3 43), (jn j3 44), (jn j3 45), (jn j3 46), (jn j3 47), (jn j3 48), (jn j3 49), (jn j3 50)], [(gn j3 0), (gn j3 1), (gn j3 2), (gn j3 3), (gn j3 4)]) (plC (gn_pl hj3 0) (plC (gn_pl hj3 1) (plC (gn_pl hj3 2) (plC (gn_pl hj3 3) (plC (gn_pl hj3 4) rfl))))))
 rintro i4 ready16 j4 hj4 hge hq
 clear h hres
 refine WL_rnd ?_
 exact go_ex Hd.plainG [1, 4, 6, 10, 13, 22, 26, 28, 30, 32, 38, 41, 42, 44, 46, 51, 56, 59, 60, 62, 64, 66, 68, 70, 72, 78, 80, 90, 95, 106, 114, 116, 126, 128, 142, 144, 146, 148, 154, 156, 158, 162, 164, 174, 183, 184, 186, 188, 196, 198, 200, 210, 212, 214, 218, 220, 234, 240, 242, 250, 252, 256, 264, 266, 272, 274, 284] [fq (gn_pl hj4 0), ⟨.sl (.row 0 1) needs6_13.length (rows liinC needs6_13), .sl (.row 0 1) needs6_13.length (rows liinC needs6_13), (.under (unSl rfl (under_plainL _ _ (layLInt.plC needs6_13))))⟩, fq (gn_pl hj4 1), fq (gn_pl hj4 2), fq (gn_pl hj4 3), fq (gn_pl hj4 4), fq (layInt.plS y3a)] [fbp (rows boC w1_l) (layBool.plC w1_l), fbp (coC c) (layCo.pl c)] 8 _ _ (runS 300 [pb (B := ltI ((i4 : Nat) : Int) ((e3.length : Nat) : Int)) (b := false) (ltF hge)]) (by kernel_rfl) (hq ([(jn j4 0), (jn j4 1), (jn j4 2), (jn j4 3), (jn j4 4), (jn j4 5), (jn j4 6), (jn j4 7), (jn j4 8), (jn j4 9), (jn j4 10), (jn j4 11), (jn j4 12), (jn j4 13), (jn j4 14), (jn j4 15), (jn j4 16), (jn j4 17), (jn j4 18), (jn j4 19), (jn j4 20), (jn j4 21), (jn j4 22), (jn j4 23), (jn j4 24), (jn j4 25), (jn j4 26), (jn j4 27), (jn j4 28), (jn j4 29), (jn j4 30), (jn j4 31), (jn j4 32), (jn j4 33), (jn j4 34), (jn j4 35), (jn j4 36), (jn j4 37), (jn j4 38), .bool false, (jn j4 40), (jn j4 41), (jn j4 42), (jn j4 43), (jn j4 44), (jn j4 45), (jn j4 46), (jn j4 47), (jn j4 48), (jn j4 49)], [(gn j4 0), (gn j4 1), (gn j4 2), (gn j4 3), (gn j4 4)]) (plC (gn_pl hj4 0) (plC (gn_pl hj4 1) (plC (gn_pl hj4 2) (plC (gn_pl hj4 3) (plC (gn_pl hj4 4) rfl))))))
 clear h hres
 rintro i4 e4 ready16 j4 r hj4 he4 hi4 h k
 refine WL_rnd ?_
 revert h
 show law10_CodexOrder_L5  needs6_13 w1_l i4 e4 ready16 = some r → _
 unfold law10_CodexOrder_L5
 let o4 : List (PC P G) := [pb (B := ltI ((i4 : Nat) : Int) ((e3.length : Nat) : Int)) (b := true) (ltT hi4), pix (ix40 .lost he4)]
 refine cndI (fun hv => ?_) fun hv => ?_
 subst hv
 refine bndI fun k19 hk19 => ?_
 refine bndI fun x20 hx20 => ?_
 rintro ⟨⟩
 exact go_nx Hd.plainG [1, 4, 6, 10, 13, 22, 26, 28, 30, 32, 38, 41, 42, 44, 46, 51, 56, 59, 60, 62, 64, 66, 68, 70, 72, 78, 80, 90, 95, 106, 114, 116, 126, 128, 142, 144, 146, 148, 154, 156, 158, 162, 164, 174, 183, 184, 186, 188, 196, 198, 200, 210, 212, 214, 218, 220, 229, 230, 232, 234, 240, 242, 250, 252, 256, 264, 266, 272, 274, 284] [fq (gn_pl hj4 0), ⟨.sl (.row 0 1) needs6_13.length (rows liinC needs6_13), .sl (.row 0 1) needs6_13.length (rows liinC needs6_13), (.under (unSl rfl (under_plainL _ _ (layLInt.plC needs6_13))))⟩, fq (gn_pl hj4 1), fq (gn_pl hj4 2), fq (gn_pl hj4 3), fq (gn_pl hj4 4), fq (layInt.plS y3a), fq (layInt.plS e3)] [fbp (rows boC w1_l) (layBool.plC w1_l), fbp (coC c) (layCo.pl c)] _ _ (runS 300 (o4 ++ [pix (ixmz71 (id := 1) hk19), plb (ldm71 hx20), pinc i4 (by omega)])) (by kernel_rfl) (k ([(jn j4 0), (jn j4 1), (jn j4 2), (jn j4 3), (jn j4 4), (jn j4 5), (jn j4 6), (jn j4 7), (jn j4 8), (jn j4 9), (jn j4 10), (jn j4 11), (jn j4 12), (jn j4 13), (jn j4 14), (jn j4 15), (jn j4 16), (jn j4 17), (jn j4 18), (jn j4 19), (jn j4 20), (jn j4 21), (jn j4 22), (jn j4 23), (jn j4 24), (jn j4 25), (jn j4 26), (jn j4 27), (jn j4 28), (jn j4 29), (jn j4 30), (jn j4 31), (jn j4 32), (jn j4 33), (jn j4 34), (jn j4 35), (jn j4 36), (jn j4 37), (jn j4 38), .bool true, .bool true, .bool true, .bool x20, .bool x20, (jn j4 44), (jn j4 45), (jn j4 46), (jn j4 47), (jn j4 48), (jn j4 49)], [(gn j4 0), (gn j4 1), (gn j4 2), (gn j4 3), (gn j4 4)]) (plC (gn_pl hj4 0) (plC (gn_pl hj4 1) (plC (gn_pl hj4 2) (plC (gn_pl hj4 3) (plC (gn_pl hj4 4) rfl))))))
 subst hv
 rintro ⟨⟩
 exact go_nx Hd.plainG [1, 4, 6, 10, 13, 22, 26, 28, 30, 32, 38, 41, 42, 44, 46, 51, 56, 59, 60, 62, 64, 66, 68, 70, 72, 78, 80, 90, 95, 106, 114, 116, 126, 128, 142, 144, 146, 148, 154, 156, 158, 162, 164, 174, 183, 184, 186, 188, 196, 198, 200, 210, 212, 214, 218, 220, 229, 230, 232, 234, 240, 242, 250, 252, 256, 264, 266, 272, 274, 284] [fq (gn_pl hj4 0), ⟨.sl (.row 0 1) needs6_13.length (rows liinC needs6_13), .sl (.row 0 1) needs6_13.length (rows liinC needs6_13), (.under (unSl rfl (under_plainL _ _ (layLInt.plC needs6_13))))⟩, fq (gn_pl hj4 1), fq (gn_pl hj4 2), fq (gn_pl hj4 3), fq (gn_pl hj4 4), fq (layInt.plS y3a), fq (layInt.plS e3)] [fbp (rows boC w1_l) (layBool.plC w1_l), fbp (coC c) (layCo.pl c)] _ _ (runS 300 (o4 ++ [pinc i4 (by omega)])) (by kernel_rfl) (k ([(jn j4 0), (jn j4 1), (jn j4 2), (jn j4 3), (jn j4 4), (jn j4 5), (jn j4 6), (jn j4 7), (jn j4 8), (jn j4 9), (jn j4 10), (jn j4 11), (jn j4 12), (jn j4 13), (jn j4 14), (jn j4 15), (jn j4 16), (jn j4 17), (jn j4 18), (jn j4 19), (jn j4 20), (jn j4 21), (jn j4 22), (jn j4 23), (jn j4 24), (jn j4 25), (jn j4 26), (jn j4 27), (jn j4 28), (jn j4 29), (jn j4 30), (jn j4 31), (jn j4 32), (jn j4 33), (jn j4 34), (jn j4 35), (jn j4 36), (jn j4 37), (jn j4 38), .bool true, .bool false, .bool false, undef, .bool false, (jn j4 44), (jn j4 45), (jn j4 46), (jn j4 47), (jn j4 48), (jn j4 49)], [(gn j4 0), (gn j4 1), (gn j4 2), (gn j4 3), (gn j4 4)]) (plC (gn_pl hj4 0) (plC (gn_pl hj4 1) (plC (gn_pl hj4 2) (plC (gn_pl hj4 3) (plC (gn_pl hj4 4) rfl))))))
 rintro ready16_22 rfl jx_22 hjx_22
 revert h
 clear hres
 dsimp only [lpK]
 refine cndI (fun hv => ?_) fun hv => ?_
 subst hv
 rintro ⟨⟩
 exact go_nx Hd.plainG [1, 4, 6, 10, 13, 22, 26, 28, 32, 38, 41, 42, 44, 46, 51, 56, 59, 60, 62, 64, 66, 68, 70, 72, 78, 80, 90, 95, 106, 114, 116, 126, 128, 142, 144, 146, 148, 154, 156, 158, 162, 164, 174, 183, 184, 186, 188, 196, 198, 200, 210, 212, 214, 218, 220, 234, 240, 242, 250, 252, 256, 264, 266, 272, 274, 284] [fq (gn_pl hjx_22 0), ⟨.sl (.row 0 1) needs6_13.length (rows liinC needs6_13), .sl (.row 0 1) needs6_13.length (rows liinC needs6_13), (.under (unSl rfl (under_plainL _ _ (layLInt.plC needs6_13))))⟩, fq (gn_pl hjx_22 1), fq (gn_pl hjx_22 2), fq (gn_pl hjx_22 3), fq (gn_pl hjx_22 4), fq (layInt.plS y3a)] [fbp (rows boC w1_l) (layBool.plC w1_l), fbp (coC c) (layCo.pl c)] _ _ (runX 300 [pinc i3 (by omega)]) (by kernel_rfl) (k ([(jn jx_22 0), (jn jx_22 1), .bool true, (jn jx_22 2), (jn jx_22 3), (jn jx_22 4), (jn jx_22 5), (jn jx_22 6), (jn jx_22 7), (jn jx_22 8), (jn jx_22 9), (jn jx_22 10), (jn jx_22 11), (jn jx_22 12), (jn jx_22 13), (jn jx_22 14), (jn jx_22 15), (jn jx_22 16), (jn jx_22 17), (jn jx_22 18), (jn jx_22 19), (jn jx_22 20), (jn jx_22 21), (jn jx_22 22), (jn jx_22 23), (jn jx_22 24), (jn jx_22 25), (jn jx_22 26), (jn jx_22 27), (jn jx_22 28), (jn jx_22 29), (jn jx_22 30), (jn jx_22 31), (jn jx_22 32), (jn jx_22 33), (jn jx_22 34), (jn jx_22 35), (jn jx_22 36), (jn jx_22 37), (jn jx_22 38), (jn jx_22 39), (jn jx_22 40), (jn jx_22 41), (jn jx_22 42), (jn jx_22 43), .bool true, (jn jx_22 45), (jn jx_22 46), (jn jx_22 47), (jn jx_22 48), (jn jx_22 49)], [(gn jx_22 0), (gn jx_22 1), (gn jx_22 2), (gn jx_22 3), (gn jx_22 4)]) (plC (gn_pl hjx_22 0) (plC (gn_pl hjx_22 1) (plC (gn_pl hjx_22 2) (plC (gn_pl hjx_22 3) (plC (gn_pl hjx_22 4) rfl))))))
 subst hv
 rintro ⟨⟩
 exact go_nx Hd.plainG [1, 4, 6, 10, 13, 22, 26, 28, 32, 38, 41, 42, 44, 46, 51, 56, 59, 60, 62, 64, 66, 68, 70, 72, 78, 80, 90, 95, 106, 114, 116, 126, 128, 142, 144, 146, 148, 154, 156, 158, 162, 164, 174, 183, 184, 186, 188, 196, 198, 200, 210, 212, 214, 218, 220, 234, 240, 242, 250, 252, 256, 264, 266, 272, 274, 284] [fq (gn_pl hjx_22 0), ⟨.sl (.row 0 1) needs6_13.length (rows liinC needs6_13), .sl (.row 0 1) needs6_13.length (rows liinC needs6_13), (.under (unSl rfl (under_plainL _ _ (layLInt.plC needs6_13))))⟩, fq (gn_pl hjx_22 1), fq (gn_pl hjx_22 2), fq (gn_pl hjx_22 3), fq (gn_pl hjx_22 4), fq (layInt.plS y3a)] [fbp (rows boC w1_l) (layBool.plC w1_l), fbp (coC c) (layCo.pl c)] _ _ (runX 300 [pinc i3 (by omega)]) (by kernel_rfl) (k ([(jn jx_22 0), (jn jx_22 1), .bool false, (jn jx_22 2), (jn jx_22 3), (jn jx_22 4), (jn jx_22 5), (jn jx_22 6), (jn jx_22 7), (jn jx_22 8), (jn jx_22 9), (jn jx_22 10), (jn jx_22 11), (jn jx_22 12), (jn jx_22 13), (jn jx_22 14), (jn jx_22 15), (jn jx_22 16), (jn jx_22 17), (jn jx_22 18), (jn jx_22 19), (jn jx_22 20), (jn jx_22 21), (jn jx_22 22), (jn jx_22 23), (jn jx_22 24), (jn jx_22 25), (jn jx_22 26), (jn jx_22 27), (jn jx_22 28), (jn jx_22 29), (jn jx_22 30), (jn jx_22 31), (jn jx_22 32), (jn jx_22 33), (jn jx_22 34), (jn jx_22 35), (jn jx_22 36), (jn jx_22 37), (jn jx_22 38), (jn jx_22 39), (jn jx_22 40), (jn jx_22 41), (jn jx_22 42), (jn jx_22 43), .bool false, (jn jx_22 45), (jn jx_22 46), (jn jx_22 47), (jn jx_22 48), (jn jx_22 49)], [(gn jx_22 0), (gn jx_22 1), (gn jx_22 2), (gn jx_22 3), (gn jx_22 4)]) (plC (gn_pl hjx_22 0) (plC (gn_pl hjx_22 1) (plC (gn_pl hjx_22 2) (plC (gn_pl hjx_22 3) (plC (gn_pl hjx_22 4) rfl))))))
 rintro v rfl
 dsimp only [lpK] at h
 cases h
 exact .outer (.rnd k)
 rintro least14_23 rfl jx_23 hjx_23
 revert h
 clear hres
 dsimp only [lpK]
 refine cndI (fun hb4 => ?_) fun hb4 => ?_
 rintro ⟨⟩
 exact go_retA _ _ (runX 300 [pb hb4]) (by kernel_rfl) (.rnd k) .sc
 refine bndI fun q24 hq24 => ?_
 refine cndI (fun hv => ?_) fun hv => ?_
 subst hv
 rintro ⟨⟩
 exact go_retA _ _ (runX 300 [pb hb4, pbin (zneq3 hq24 (.tmp 134) (.tmp 135))]) (by kernel_rfl) (.rnd k) .sc
 subst hv
 refine bndI fun k25 hk25 => ?_
 refine bndI fun x26 hx26 => ?_
 rintro ⟨⟩
 exact go_nx Hd.plainG [1, 4, 6, 10, 13, 22, 32, 38, 41, 42, 44, 46, 51, 56, 59, 60, 62, 64, 66, 68, 70, 72, 78, 80, 90, 95, 106, 114, 116, 126, 128, 142, 144, 146, 148, 154, 156, 158, 162, 164, 174, 183, 184, 186, 188, 200, 210, 212, 214, 218, 220, 234, 240, 242, 250, 252, 256, 264, 266, 272, 274, 284] [fq (gn_pl hjx_23 0), ⟨.sl (.row 0 1) needs6_13.length (rows liinC needs6_13), .sl (.row 0 1) needs6_13.length (rows liinC needs6_13), (.under (unSl rfl (under_plainL _ _ (layLInt.plC needs6_13))))⟩, fq (gn_pl hjx_23 1), fq (gn_pl hjx_23 2), fq (gn_pl hjx_23 3), fq (gn_pl hjx_23 4), fq (layInt.plS y3a)] [fbp (rows boC (w1_l.set k25 true)) (layBool.plC (w1_l.set k25 true)), fbp (coC c) (layCo.pl c)] _ _ (runX 300 [pb hb4, pbin (zneq3 hq24 (.tmp 134) (.tmp 135)), pix (ixmz71 (id := 1) hk25), psb (stm71 hx26 true), pinc i2 (by omega)]) (by kernel_rfl) (k ([(jn jx_23 0), (jn jx_23 1), (jn jx_23 2), (jn jx_23 3), (jn jx_23 4), (jn jx_23 5), (jn jx_23 6), (jn jx_23 7), (jn jx_23 8), (jn jx_23 9), (jn jx_23 10), (jn jx_23 11), (jn jx_23 12), (jn jx_23 13), (jn jx_23 14), (jn jx_23 15), (jn jx_23 16), (jn jx_23 17), (jn jx_23 18), (jn jx_23 19), (jn jx_23 20), (jn jx_23 21), (jn jx_23 22), (jn jx_23 23), (jn jx_23 24), (jn jx_23 25), (jn jx_23 26), (jn jx_23 27), (jn jx_23 28), (jn jx_23 29), (jn jx_23 30), (jn jx_23 31), (jn jx_23 32), (jn jx_23 33), (jn jx_23 34), (jn jx_23 35), (jn jx_23 36), (jn jx_23 37), (jn jx_23 38), (jn jx_23 39), (jn jx_23 40), (jn jx_23 41), (jn jx_23 42), (jn jx_23 43), (jn jx_23 44), (jn jx_23 45), .bool false, .bool false, .bool false, .bool false, (jn jx_23 50)], [(gn jx_23 0), (gn jx_23 1), (gn jx_23 2), (gn jx_23 3), (gn jx_23 4)]) (plC (gn_pl hjx_23 0) (plC (gn_pl hjx_23 1) (plC (gn_pl hjx_23 2) (plC (gn_pl hjx_23 3) (plC (gn_pl hjx_23 4) rfl))))))
 rintro v rfl
 dsimp only [lpK] at h
 cases h
 exact .outer (.rnd k)
 rintro w1_l_27 rfl jx_27 hjx_27
 revert h
 clear hres
 dsimp only [lpK]
 intro h
 have hE := Option.some.inj h
 subst hE
 exact go_retA _ _ (runX 300 []) (by kernel_rfl) .body .sc
 rintro v rfl
 dsimp only [lpK] at h
 cases h
 exact .outer .body
 intro h
 have hE := Option.some.inj h
 subst hE
 exact go_retA _ _ (runX 300 [pn hb3]) (by kernel_rfl) .body .sc
 subst hv
 refine cndI (fun hv => ?_) fun hv => ?_
 subst hv
 refine bndI fun q15 hq15 => ?_
 refine cndI (fun hv => ?_) fun hv => ?_
 subst hv
 refine bndI fun y16 hy16 => ?_
 intro h
 have hE := Option.some.inj h
 subst hE
 exact go_retA _ _ (runX 300 [pbin (zeql3 hq15 (.tmp 76) (.const (.int .i64 0))), pcallW (args := [.sl (.row 0 1) needs6_13.length (rows liinC needs6_13)]) (.s rfl .nil) (law10_ringed_step needs6_13 y16 hy16)]) (by kernel_rfl) .body .sc
 subst hv
 intro h
 have hE := Option.some.inj h
 subst hE
 exact go_retA _ _ (runX 300 [pbin (zeql3 hq15 (.tmp 76) (.const (.int .i64 0)))]) (by kernel_rfl) .body .sc
 subst hv
 intro h
 have hE := Option.some.inj h
 subst hE
 exact go_retA _ _ (runX 300 []) (by kernel_rfl) .body .sc
 rintro v rfl
 dsimp only [lpK] at h
 cases h
 exact .outer .body
 subst hv
 refine cndI (fun hv => ?_) fun hv => ?_
 subst hv
 refine cndI (fun hv => ?_) fun hv => ?_
 subst hv
 refine bndI fun q5 hq5 => ?_
 intro h
 have hE := Option.some.inj h
 subst hE
 exact rS (runS 300 [pcall (law10_head_ok  true hy1), pcall (law10_small_step c true hy2), pcall (codex_Order_step c (y3a, true) hy3), pcall (ref10_Valid_step c false hy4), pbin (zeql3 hq5 (.tmp 38) (.const (.int .i64 0)))]) (by kernel_rfl)
 subst hv
 rintro ⟨⟩
 exact rS (runS 300 [pcall (law10_head_ok  true hy1), pcall (law10_small_step c true hy2), pcall (codex_Order_step c (y3a, false) hy3), pcall (ref10_Valid_step c false hy4)]) (by kernel_rfl)
 subst hv
 rintro ⟨⟩
 exact rS (runS 300 [pcall (law10_head_ok  false hy1), pcall (law10_small_step c true hy2), pcall (codex_Order_step c (y3a, y3b) hy3), pcall (ref10_Valid_step c false hy4)]) (by kernel_rfl)
 subst hv
 intro h
 have hE := Option.some.inj h
 subst hE
 exact rS (runS 300 [pcall (law10_head_ok  y1 hy1), pcall (law10_small_step c false hy2)]) (by kernel_rfl)
end Mo
end Go.Proofs.YtnijkdknnmgoeaaGreat
namespace Go.Proofs.YtnijkdknnmgoeaaGreat
open AI Go
namespace Mo
set_option maxRecDepth 100000
set_option maxHeartbeats 4000000
def fcnt : List Bool → Nat
 | [] => 0
 | b :: l => (if b then 0 else 1) + fcnt l
theorem fcnt_set : ∀ {l : List Bool} {i : Nat}, l[i]? = some false → fcnt (l.set i true) + 1 = fcnt l
 | [], i, h => by simp at h
 | b :: l, 0, h => by simp at h; subst h; simp [fcnt]; omega
 | b :: l, i + 1, h => by
   have := fcnt_set (l := l) (i := i) (by simpa using h)
   simp only [List.set_cons_succ, fcnt]
   omega
theorem all_in : ∀ (n : Nat) (S : List Int), (∀ i : Nat, i < n → ((i : Nat) : Int) ∈ S) → n ≤ S.length
 | 0, _, _ => Nat.zero_le _
 | n + 1, S, h => by
   have h1 := h n (Nat.lt_succ_self n)
   have := all_in n (S.erase ((n : Nat) : Int)) (fun i hi => (List.mem_erase_of_ne (by omega)).2 (h i (by omega)))
   rw [List.length_erase_of_mem h1] at this
   have := List.length_pos_of_mem h1
   omega
theorem idxN_in {n : Nat} {z : Int} (h : 0 ≤ z ∧ z < ((n : Nat) : Int)) : idxN n z = some z.toNat := by unfold idxN; rw [if_pos h]
noncomputable def Ns (c : Co) : List (List Int) := (List.range c.arts.length).map (ndl c)
theorem Ns_len (c : Co) : (Ns c).length = c.arts.length := by simp [Ns]
theorem Ns_get {c : Co} {i : Nat} {l : List Int} (h : (Ns c)[i]? = some l) : i < c.arts.length ∧ l = ndl c i := by
 have h1 := (List.getElem?_eq_some_iff.1 h).1
 rw [Ns_len] at h1
 unfold Ns at h
 rw [List.getElem?_map, List.getElem?_range h1] at h
 exact ⟨h1, (Option.some.inj h).symm⟩
theorem ready_loop {β : Type} {Q : β → Prop} {n : Nat} {w : List Bool} {l : List Int} {k : Bool → Option β} {kr : Bool → Option β} {body : Nat → Int → Bool → Option (Lp Bool Bool Bool)} (r0 : Bool) (hw : w.length = n) (hn : n ≤ 1000000) (hl : l.length ≤ n) (hin : ∀ z ∈ l, 0 ≤ z ∧ z < ((n : Nat) : Int))
   (hb : ∀ i e r, body i e r = cond r ((idxN n e).bind fun k3 => (w[k3]?).bind fun x4 => some (.nx x4)) (some (.nx false)))
   (hk : ∀ r : Bool, (r = true ↔ r0 = true ∧ ∀ z ∈ l, w[z.toNat]? = some true) → Sp (k r) Q) : Sp ((lim l.length (foldL body (fun x => x) (l.drop 0) 0 r0)).bind (lpK k kr)) Q := by
 refine Sp_loop (fun i r => r = true ↔ r0 = true ∧ ∀ (j : Nat) z, j < i → l[j]? = some z → w[z.toNat]? = some true) (by omega) (by simp) (fun i e r he hI => ?_) (fun r hI => hk r ?_)
 · obtain ⟨x, hx⟩ : ∃ x, w[e.toNat]? = some x := ⟨_, List.getElem?_eq_getElem (by have := hin e (List.mem_of_getElem? he); omega)⟩
   rw [hb, idxN_in (hin e (List.mem_of_getElem? he))]
   simp only [Option.bind_some, hx, c_b, Sp_iff, Sp_some, RQ_nx, Bool.false_eq_true, false_iff]
   refine ⟨fun h => ?_, fun h h2 => h (hI.2 ⟨h2.1, fun j z hj hz => h2.2 j z (by omega) hz⟩)⟩
   have h1 := hI.1 h
   constructor
   · intro h2
     refine ⟨h1.1, fun j z hj hz => ?_⟩
     rcases Nat.lt_or_ge j i with h9 | h9
     · exact h1.2 j z h9 hz
     · have : j = i := by omega
       subst this; rw [he] at hz; cases hz; rw [hx, h2]
   · intro h2
     have := h2.2 i e (by omega) he
     rw [hx] at this
     exact Option.some.inj this
 · rw [hI]
   refine and_congr_right fun _ => ⟨fun h z hz => ?_, fun h j z _ hz => h z (List.mem_of_getElem? hz)⟩
   obtain ⟨j, hj⟩ := List.getElem?_of_mem hz
   exact h j z (List.getElem?_eq_some_iff.1 hj).1 hj
theorem ringed_s (c : Co) (hn : c.arts.length ≤ 1000) (S : List Int) (hS : S.length < c.arts.length) (hst : stuck c S) : law10_ringed_B (Ns c) = some true := by
 have hN := Ns_len c
 rw [law10_ringed_B, Sp_eq]
 unfold limM
 rw [if_pos (by omega)]
 refine Sp_fix (fun x => x.2.length = c.arts.length ∧ ∀ i, x.2[i]? = some true → ((i : Nat) : Int) ∈ S) (fun x => 2 * fcnt x.2 + (if x.1 then 1 else 0)) ⟨by simp [hN], fun i h => ?_⟩ (fun x hI => ?_)
 · simp only [List.getElem?_replicate] at h
   split at h
   · cases h
   · cases h
 obtain ⟨again, w⟩ := x
 obtain ⟨hw, hsub⟩ := hI
 simp only at hw hsub
 simp only [law10_ringed_L1, c_b, Sp_iff]
 refine ⟨fun hag => ?_, fun hag => ?_⟩
 · subst hag
   refine Sp_loop (fun i x => x.2.length = c.arts.length ∧ (∀ i, x.2[i]? = some true → ((i : Nat) : Int) ∈ S) ∧ fcnt x.2 ≤ fcnt w ∧ (x.1 = true → fcnt x.2 < fcnt w)) (by omega) ⟨hw, hsub, Nat.le_refl _, fun h => by cases h⟩ (fun i l x hl hI => ?_) (fun x hI => ?_)
   · obtain ⟨ag, v⟩ := x
     obtain ⟨hv, hvs, hle, hlt⟩ := hI
     simp only at hv hvs hle hlt
     obtain ⟨hi, rfl⟩ := Ns_get hl
     obtain ⟨b, hb⟩ : ∃ b, v[i]? = some b := ⟨_, List.getElem?_eq_getElem (by omega)⟩
     have hlen := Nd_len c i
     have body : ∀ (r0 : Bool) (Q : Lp (Bool × List Bool) (Bool × List Bool) Bool → Prop), (r0 = true → b = false) → (∀ y : Bool × List Bool, (y.2.length = c.arts.length ∧ (∀ i, y.2[i]? = some true → ((i : Nat) : Int) ∈ S) ∧ fcnt y.2 ≤ fcnt w ∧ (y.1 = true → fcnt y.2 < fcnt w)) → Q (.nx y)) → Sp ((lim (ndl c i).length (foldL (fun i y x => law10_ringed_L3 (Ns c) v i y x) (fun x => x) ((ndl c i).drop 0) 0 r0)).bind (lpK (fun ready : Bool => cond ready (some (Lp.nx (true, v.set i true))) (some (Lp.nx (ag, v)))) (fun v => some (.rt v)))) Q := fun r0 Q hr0 hQ => by
       refine ready_loop (n := c.arts.length) (w := v) r0 hv (by omega) hlen (fun z hz => Nd_in hz) (fun j e r => by rw [law10_ringed_L3, hN]) (fun r hr => ?_)
       cases r with
       | false => rw [cond_false, Sp_some]; exact hQ _ ⟨hv, hvs, hle, hlt⟩
       | true =>
         obtain ⟨h1, h2⟩ := hr.1 rfl
         have hbf := hr0 h1
         subst hbf
         have hc := fcnt_set hb
         rw [cond_true, Sp_some]
         refine hQ _ ⟨by rw [List.length_set]; exact hv, fun j hj => ?_, by simp only; omega, fun _ => by simp only; omega⟩
         rw [List.getElem?_set] at hj
         split at hj
         · rename_i hij
           subst hij
           refine Classical.byContradiction fun hno => hst i hi ⟨hno, fun z hz => ?_⟩
           have h3 := hvs _ (h2 z hz)
           have := Nd_in hz
           rwa [Int.toNat_of_nonneg this.1] at h3
         · exact hvs j hj
     rw [law10_ringed_L2, hb, Option.bind_some]
     cases b with
     | true => rw [cond_true]; exact body false _ (fun h => by cases h) (fun y hy => hy)
     | false => rw [cond_false]; exact body true _ (fun _ => rfl) (fun y hy => hy)
   · obtain ⟨ag, v⟩ := x
     obtain ⟨hv, hvs, hle, hlt⟩ := hI
     simp only at hv hvs hle hlt
     rw [Sp_some, RQ_nx]
     refine ⟨⟨hv, hvs⟩, ?_⟩
     simp only
     by_cases ha : ag = true
     · have := hlt ha; rw [if_pos ha]; simp; omega
     · rw [if_neg ha]; simp; omega
 · rw [Sp_some, RQ_ex]
   refine Sp_cnt (fun i _ => ∀ j, j < i → w[j]? = some true) (by omega) (fun j hj => by omega) (fun i x hi hI => ?_) (fun x hI => ?_)
   · obtain ⟨b, hb⟩ : ∃ b, w[i]? = some b := ⟨_, List.getElem?_eq_getElem (by omega)⟩
     simp only [law10_ringed_L4, hb, Option.bind_some, c_b, Sp_iff, Sp_some, RQ_nx, RQ_rt]
     refine ⟨fun h j hj => ?_, fun _ => trivial⟩
     rcases Nat.lt_or_ge j i with h9 | h9
     · exact hI j h9
     · have : j = i := by omega
       subst this; rw [hb, h]
   · exfalso
     have := all_in c.arts.length S (fun i hi => hsub i (hI i (by omega)))
     omega
theorem law_order (c : Co) (hc : okC c) : law10_CodexOrder_B c = some true := by
 obtain ⟨hf, hl, ha, hao⟩ := id hc
 rw [law10_CodexOrder_B, law10_head_R, few_s c hc]
 simp only [Option.bind_some, c_mb]
 by_cases hfew : fewP c
 · rw [iff_T hfew]
   have hlen : c.arts.length ≤ 70 := hfew.2.2.1
   rw [Sp_eq]
   by_cases hv : validP c
   · rw [Sp_bind]
     refine (order_s c hc hv).mono fun r hr => ?_
     obtain ⟨l, ok⟩ := r
     simp only [validR_s c hc, Option.bind_some, c_mb]
     rw [iff_T hv]
     refine Sp_loop (fun i x => x = (List.range i).map (ndl c)) (by omega) (by simp) (fun i a x hi hI => ?_) (fun x hI => ?_)
     · have hil := (List.getElem?_eq_some_iff.1 hi).1
       have hnl := Nd_len c i
       simp only [law10_CodexOrder_L1, Needs_n c hc hv i hil, Option.bind_some]
       rw [k_loop (v := false) (P := fun _ _ => True) (by omega) (fun j z hz => by
         have := Nd_in (List.mem_of_getElem? hz)
         simp only [law10_CodexOrder_L2, ltI_mb, leI_mb, c_mb, Option.bind_some]
         rw [iff_F (by omega), iff_F (by omega)]
         unfold ck; rw [iff_T trivial]), iff_T (fun _ _ _ => trivial), limA_of (by rw [hI]; simp; omega), Sp_some, RQ_nx, hI, List.range_succ, List.map_append]
       rfl
     · have hx : x = Ns c := hI
       subst hx
       have hN := Ns_len c
       rcases hr with ⟨h1, h2, h3⟩ | ⟨h1, h2, S, h3, h4⟩
       · simp only at h1 h2 h3
         subst h1
         simp only [cond_true, eqI_mb, c_mb]
         rw [iff_T (by omega)]
         unfold limM
         rw [if_pos (by omega)]
         refine Sp_loop (fun i w => w.length = c.arts.length ∧ ∀ j, j < c.arts.length → (w[j]? = some true ↔ ((j : Nat) : Int) ∈ l.take i)) (by omega) ⟨by simp [hN], fun j hj => by rw [List.getElem?_replicate, if_pos (by omega)]; simp⟩ (fun i v w hv2 hI => ?_) (fun w hI => by rw [Sp_some])
         obtain ⟨hw, hwl⟩ := hI
         obtain ⟨q, rfl, hq, hqr, hqf⟩ := h3 i v hv2
         simp only [law10_CodexOrder_L3]
         refine Sp_loop (fun i2 x => x = if q < i2 then ((q : Nat) : Int) else -1) (by omega) (by simp) (fun j e x he hI => ?_) (fun x hI => ?_)
         · obtain ⟨hj, rfl⟩ := Ns_get he
           have hjl := Nd_len c j
           obtain ⟨b, hb⟩ : ∃ b, w[j]? = some b := ⟨_, List.getElem?_eq_getElem (by omega)⟩
           have hwj := hwl j hj
           have all : (∀ z ∈ ndl c j, w[z.toNat]? = some true) ↔ ∀ z ∈ ndl c j, z ∈ l.take i := by
             constructor
             · intro h z hz
               have h5 := Nd_in hz
               have := (hwl z.toNat (by omega)).1 (h z hz)
               rwa [Int.toNat_of_nonneg h5.1] at this
             · intro h z hz
               have h5 := Nd_in hz
               exact (hwl z.toNat (by omega)).2 (by rw [Int.toNat_of_nonneg h5.1]; exact h z hz)
           have step : ∀ (r0 : Bool) (Q : Lp Int Int Bool → Prop), (r0 = true ↔ ¬ b = true ∧ x < 0) → (∀ y, (y = if q < j + 1 then ((q : Nat) : Int) else -1) → Q (.nx y)) → Sp ((lim (ndl c j).length (foldL (fun i y x => law10_CodexOrder_L5 (Ns c) w i y x) (fun x => x) ((ndl c j).drop 0) 0 r0)).bind (lpK (fun ready => iff_ (ready = true) (some (Lp.nx ((j : Nat) : Int))) (some (Lp.nx x))) (fun v => some (.rt v)))) Q := fun r0 Q hr0 hQ => by
             refine ready_loop (n := c.arts.length) (w := w) r0 hw (by omega) hjl (fun z hz => Nd_in hz) (fun j e r => by rw [law10_CodexOrder_L5, hN]) (fun r hr => ?_)
             have hrr : r = true ↔ (rdy c (l.take i) j ∧ x < 0) := by
               rw [hr, hr0, all]
               unfold rdy
               rw [← hwj, hb]
               simp only [Option.some.injEq]
               exact ⟨fun h => ⟨⟨h.1.1, h.2⟩, h.1.2⟩, fun h => ⟨⟨h.1.1, h.2⟩, h.1.2⟩⟩
             cases r with
             | true =>
               obtain ⟨h5, h6⟩ := hrr.1 rfl
               rw [iff_T rfl, Sp_some]
               refine hQ _ ?_
               have hjq : j = q := by
                 rcases Nat.lt_trichotomy j q with h | h | h
                 · exact absurd h5 (hqf j h)
                 · exact h
                 · rw [hI, if_pos h] at h6; omega
               rw [hjq, if_pos (by omega)]
             | false =>
               have h5 : ¬ (rdy c (l.take i) j ∧ x < 0) := fun h => by have := hrr.2 h; cases this
               rw [iff_F (by simp), Sp_some]
               refine hQ _ ?_
               rw [hI]
               by_cases h6 : q < j
               · rw [if_pos h6, if_pos (by omega)]
               · rw [if_neg h6]
                 by_cases h7 : q = j
                 · subst h7
                   exact absurd ⟨hqr, by rw [hI, if_neg h6]; omega⟩ h5
                 · rw [if_neg (by omega)]
           simp only [law10_CodexOrder_L4, hb, Option.bind_some, ltI_mb, c_b, Sp_iff]
           refine ⟨fun h => step false _ ⟨(fun h => by cases h), fun h2 => absurd h h2.1⟩ (fun y hy => hy), fun h => step _ _ ?_ (fun y hy => hy)⟩
           rw [mb_true]; exact ⟨fun h2 => ⟨h, h2⟩, fun h2 => h2.2⟩
         · rw [hN, if_pos hq] at hI
           subst hI
           obtain ⟨b, hb⟩ : ∃ b, w[q]? = some b := ⟨_, List.getElem?_eq_getElem (by omega)⟩
           simp only [ltI_mb, eqI_mb, not_mb, c_b, mb_is_true, Option.bind_some]
           rw [iff_F (by omega), iff_F (fun h => h trivial), idxN_in (by omega), Option.bind_some, show (((q : Nat) : Int)).toNat = q by omega, hb, Option.bind_some, Sp_some, RQ_nx]
           refine ⟨by rw [List.length_set]; exact hw, fun j hj => ?_⟩
           rw [List.take_add_one, hv2, List.getElem?_set]
           by_cases h : q = j
           · subst h
             rw [if_pos rfl, if_pos (by omega)]; simp
           · rw [if_neg h, hwl j hj]
             simp only [Option.toList_some, List.mem_append, List.mem_singleton]
             constructor
             · exact fun h => .inl h
             · rintro (h2 | h2)
               · exact h2
               · omega
       · simp only at h1 h2
         subst h1; subst h2
         rw [cond_false, cond_true, List.length_nil, eqI_mb, c_mb, iff_T (by omega), ringed_s c (by omega) S h3 h4, Option.bind_some, Sp_some]
   · have h1 : codex_Order_B c = some ([], true) := by
       rw [codex_Order_B, validC_s c hc, Option.bind_some, c_mb, iff_F hv]
     rw [h1, validR_s c hc]
     simp only [Option.bind_some, c_mb, iff_F hv, cond_true, List.length_nil, eqI_mb, Sp_some, mb_is_true]
     omega
 · rw [iff_F hfew]
end Mo
end Go.Proofs.YtnijkdknnmgoeaaGreat
