/- Part of a proof: see the last text. -/
import Derived.Test.YtnijkdknnmgoeaaGreatNdo
namespace Go.Proofs.YtnijkdknnmgoeaaGreat
open AI Go
namespace Mo
set_option maxRecDepth 100000
set_option maxHeartbeats 4000000
noncomputable def law10_head_R : Option Bool := some true
theorem law10_head_ok (yR : Bool) (h : law10_head_R = some yR) : Pure P G 11 [] (.sc (.bool yR)) := by
 cases h
 exact e169_ok
noncomputable def B7 : Code := bodyOf Tryz.f7
theorem b7 : Tryz.f7.body = some B7 := by kernel_rfl
noncomputable def law10_CodexNeeds_L2  (e0 : Ar) (i1 : Nat) (e1 : Ex) (need11 : Bool) : Option (Lp Bool Bool Bool) := cond need11 (some (.nx true)) ((law10_mentioned_R e1 e0.number).bind fun y13 => some (.nx y13))
noncomputable def law10_CodexNeeds_L3  (e0 : Ar) (i2 : Nat) (e2 : Int) (need11 : Bool) : Option (Lp Bool Bool Bool) := cond need11 (some (.nx true)) (cond (eqI e2 e0.number) (some (.nx true)) (some (.nx false)))
noncomputable def law10_CodexNeeds_L1  (c : Co) (version : Int) (x5 : Ar) (i0 : Nat) (e0 : Ar) (want8 : (List Int)) : Option (Lp (List Int) (List Int) Bool) := (codex_Beats_B c ((i0 : Nat) : Int) version).bind fun y11 => cond y11 ((lim x5.wh.length (foldL (fun i y x => law10_CodexNeeds_L2  e0 i y x) (fun x => x) (x5.wh.drop 0) 0 true)).bind (lpK (fun (need11_14 : Bool) => (lim x5.un.length (foldL (fun i y x => law10_CodexNeeds_L3  e0 i y x) (fun x => x) (x5.un.drop 0) 0 need11_14)).bind (lpK (fun (need11_15 : Bool) => cond need11_15 (limA (want8.length + 1) (some (.nx (want8 ++ [((i0 : Nat) : Int)])))) (some (.nx want8))) (fun v => some (.rt v)))) (fun v => some (.rt v)))) ((law10_mentioned_R x5.am e0.number).bind fun y12 => (lim x5.wh.length (foldL (fun i y x => law10_CodexNeeds_L2  e0 i y x) (fun x => x) (x5.wh.drop 0) 0 y12)).bind (lpK (fun (need11_17 : Bool) => (lim x5.un.length (foldL (fun i y x => law10_CodexNeeds_L3  e0 i y x) (fun x => x) (x5.un.drop 0) 0 need11_17)).bind (lpK (fun (need11_18 : Bool) => cond need11_18 (limA (want8.length + 1) (some (.nx (want8 ++ [((i0 : Nat) : Int)])))) (some (.nx want8))) (fun v => some (.rt v)))) (fun v => some (.rt v))))
noncomputable def law10_CodexNeeds_B  (c : Co) (version : Int) : Option Bool := (law10_head_R).bind fun y1 => (law10_small_B c).bind fun y2 => cond y2 ((codex_Needs_B c version).bind fun y3 => cond (ltI version 0) (cond y1 (cond (eqI ((y3.length : Nat) : Int) 0) (some true) (some false)) (some false)) (cond (leI ((c.arts.length : Nat) : Int) version) (cond y1 (cond (eqI ((y3.length : Nat) : Int) 0) (some true) (some false)) (some false)) ((ref10_Valid_B c).bind fun y4 => cond y4 ((geti c.arts version).bind fun x5 => (lim c.arts.length (foldL (fun i y x => law10_CodexNeeds_L1  c version x5 i y x) (fun x => x) (c.arts.drop 0) 0 [])).bind (lpK (fun (want8_20 : (List Int)) => cond y1 ((ref10_SameInts_B y3 want8_20).bind fun y21 => some y21) (some false)) (fun v => some v))) (cond y1 (cond (eqI ((y3.length : Nat) : Int) 0) (some true) (some false)) (some false))))) (some y1)
theorem law10_CodexNeeds_step   (c : Co) (version : Int) (yR : Bool) (h : law10_CodexNeeds_B  c version = some yR) : Pure P G 7 [.agg (coC c), .sc (.int .i64 version)] (.sc (.bool yR)) := by
 unfold law10_CodexNeeds_B at h
 refine pureM Hd.mixed Hd.plainG (WC_body Tryz.func7 b7 ?_) (plC (layCo.plG c) (plC rfl rfl)) rfl
 revert h
 refine bndI fun y1 hy1 => ?_
 refine bndI fun y2 hy2 => ?_
 refine cndI (fun hv => ?_) fun hv => ?_
 subst hv
 refine bndI fun y3 hy3 => ?_
 refine cndI (fun hb1 => ?_) fun hb1 => ?_
 refine cndI (fun hv => ?_) fun hv => ?_
 subst hv
 let o1 : List (PC P G) := [pcall (law10_head_ok  true hy1), pcall (law10_small_step c true hy2), pcall (codex_Needs_step c version y3 hy3), pb hb1]
 refine cndI (fun hb2 => ?_) fun hb2 => ?_
 rintro ⟨⟩
 exact rS (runS 300 (o1 ++ [pb hb2])) (by kernel_rfl)
 rintro ⟨⟩
 exact rS (runS 300 (o1 ++ [pb hb2])) (by kernel_rfl)
 subst hv
 rintro ⟨⟩
 exact rS (runS 300 [pcall (law10_head_ok  false hy1), pcall (law10_small_step c true hy2), pcall (codex_Needs_step c version y3 hy3), pb hb1]) (by kernel_rfl)
 refine cndI (fun hb3 => ?_) fun hb3 => ?_
 refine cndI (fun hv => ?_) fun hv => ?_
 subst hv
 let o2 : List (PC P G) := [pcall (law10_head_ok  true hy1), pcall (law10_small_step c true hy2), pcall (codex_Needs_step c version y3 hy3), pb hb1, pb hb3]
 refine cndI (fun hb4 => ?_) fun hb4 => ?_
 rintro ⟨⟩
 exact rS (runS 300 (o2 ++ [pb hb4])) (by kernel_rfl)
 rintro ⟨⟩
 exact rS (runS 300 (o2 ++ [pb hb4])) (by kernel_rfl)
 subst hv
 rintro ⟨⟩
 exact rS (runS 300 [pcall (law10_head_ok  false hy1), pcall (law10_small_step c true hy2), pcall (codex_Needs_step c version y3 hy3), pb hb1, pb hb3]) (by kernel_rfl)
 refine bndI fun y4 hy4 => ?_
 refine cndI (fun hv => ?_) fun hv => ?_
 subst hv
 refine bndI fun x5 hx5 => ?_
 refine bndI fun res hres h => ?_
 have hlen := (limE hres).1
 replace hres := (limE hres).2
 refine go_at [.t 8 1] [0, 1, 2, 4, 5, 6, 7, 8, 11, 16, 17, 18, 19, 20, 21, 25, 26, 31, 32, 33, 34, 35, 36, 37, 38, 39, 42, 43, 48, 50, 51, 52, 53, 56, 57, 60, 61, 63, 66, 67, 72, 74, 75, 76, 77, 80, 81, 87, 90, 91, 95, 96, 98, 104, 105, 108, 109] 0 (sub B7 [1, 1, 1, 1, 1, 1, 1, 0, 1, 0, 0]) [.code (sub B7 [1, 1, 1, 1, 1, 1, 1, 1])] _ _ (runS 300 [pcall (law10_head_ok  y1 hy1), pcall (law10_small_step c true hy2), pcall (codex_Needs_step c version y3 hy3), pb hb1, pb hb3, pcall (ref10_Valid_step c true hy4), pix (ixz29 .lost hx5)]) (by kernel_rfl) (foldP (fn := Tryz.f7) (m := 0) (fun v => .sc (.bool v)) 0 c.arts (fun i0 (want8 : (List Int)) (j0 : JJ) => frm 110 0 [(1, .sc (.int .i64 version)), (2, .ptr 0 0), (5, .sc (.bool y1)), (6, .sl .lost y3.length (rows inC y3)), (7, .ptr 1 0), (8, .sl (.row 0 1) want8.length (rows inC want8)), (50, .sl .lost c.arts.length (rows arC c.arts)), (51, .sc (.int .i64 ((c.arts.length : Nat) : Int))), (52, .sc (.int .i64 ((i0 : Nat) : Int)))] [4, 11, 16, 18, 19, 20, 25, 26, 31, 32, 33, 35, 36, 37, 38, 39, 42, 43, 53, 60, 61, 66, 67, 72, 75, 76, 80, 81, 87, 90, 91, 95, 96, 98, 104, 105, 108, 109] 0 [0, 17, 21, 34, 48, 56, 57, 63, 74, 77] 0 j0) (fun (_ : Nat) (want8 : (List Int)) (_ : JJ) => ⟨[(1, .cells (arC x5)), (0, .cells (coC c))], 2, [(0, want8.length)], 1⟩) (fun (j : JJ) => plainL j.2 = true) (fun (want8 : (List Int)) (jx : JJ) => frm 110 0 [(5, .sc (.bool y1)), (6, .sl .lost y3.length (rows inC y3)), (8, .sl (.row 0 1) want8.length (rows inC want8))] [4, 11, 16, 18, 19, 20, 25, 26, 31, 32, 33, 35, 36, 37, 38, 39, 42, 43, 53, 60, 61, 66, 67, 72, 75, 76, 80, 81, 87, 90, 91, 95, 96, 98, 104, 105, 108, 109] 0 [0, 17, 21, 34, 48, 56, 57, 63, 74, 77] 0 jx) (fun (want8 : (List Int)) (_ : JJ) => ⟨[(1, .cells (arC x5)), (0, .cells (coC c))], 2, [(0, want8.length)], 1⟩) (fun (j : JJ) => plainL j.2 = true) ?_ ?_ 0 hres ?_ ?_ ([.bool false, undef, .bool y1, .bool true, .bool false, undef, .bool false, .bool false, .bool false, .bool false, .bool false, .bool true, .bool false, .bool false], [.agg (coC c), .agg (coC c), .agg (coC c), .agg (coC c), .agg (arC x5), .sc undef, .sc undef, .sc undef, .sc undef, .sc undef]) (plC (layCo.plG c) (plC (layCo.plG c) (plC (layCo.plG c) (plC (layCo.plG c) (plC (layAr.plG x5) (plC rfl (plC rfl (plC rfl (plC rfl (plC rfl rfl)))))))))))
 rintro i0 want8 j0 hj0 hge hq
 clear h hres
 refine WL_rnd ?_
 exact go_ex Hd.plainG [1, 8, 10, 13, 17, 22, 32, 35, 36, 38, 40, 43, 50, 52, 62, 64, 66, 69, 70, 72, 74, 76, 78, 84, 86, 97, 106, 113, 115, 120, 122, 127, 132, 134, 144, 149, 150, 152, 155, 160, 162, 174, 180, 182, 190, 192, 196, 208, 210, 216, 218] [fq (gn_pl hj0 0), fq (layInt.plS y3), ⟨.sl (.row 0 1) want8.length (rows inC want8), .sl (.row 0 1) want8.length (rows inC want8), (.under (unSl rfl (under_plainL _ _ (layInt.plC want8))))⟩, fq (gn_pl hj0 1), fq (gn_pl hj0 2), fq (gn_pl hj0 3), fq (gn_pl hj0 4), fq (gn_pl hj0 5), fq (gn_pl hj0 6), fq (gn_pl hj0 7), fq (gn_pl hj0 8), fq (gn_pl hj0 9)] [fbp (arC x5) (layAr.pl x5), fbp (coC c) (layCo.pl c)] 0 _ _ (runS 300 [pb (B := ltI ((i0 : Nat) : Int) ((c.arts.length : Nat) : Int)) (b := false) (ltF hge)]) (by kernel_rfl) (hq ([(jn j0 0), (jn j0 1), (jn j0 2), (jn j0 3), (jn j0 4), (jn j0 5), (jn j0 6), (jn j0 7), (jn j0 8), (jn j0 9), (jn j0 10), (jn j0 11), (jn j0 12), (jn j0 13), (jn j0 14), (jn j0 15), (jn j0 16), (jn j0 17), .bool false, (jn j0 19), (jn j0 20), (jn j0 21), (jn j0 22), (jn j0 23), (jn j0 24), (jn j0 25), (jn j0 26), (jn j0 27), (jn j0 28), (jn j0 29), (jn j0 30), (jn j0 31), (jn j0 32), (jn j0 33), (jn j0 34), (jn j0 35), (jn j0 36), (jn j0 37)], [(gn j0 0), (gn j0 1), (gn j0 2), (gn j0 3), (gn j0 4), (gn j0 5), (gn j0 6), (gn j0 7), (gn j0 8), (gn j0 9)]) (plC (gn_pl hj0 0) (plC (gn_pl hj0 1) (plC (gn_pl hj0 2) (plC (gn_pl hj0 3) (plC (gn_pl hj0 4) (plC (gn_pl hj0 5) (plC (gn_pl hj0 6) (plC (gn_pl hj0 7) (plC (gn_pl hj0 8) (plC (gn_pl hj0 9) rfl)))))))))))
 clear h hres
 rintro i0 e0 want8 j0 r hj0 he0 hi0 h k
 refine WL_rnd ?_
 revert h
 show law10_CodexNeeds_L1  c version x5 i0 e0 want8 = some r → _
 unfold law10_CodexNeeds_L1
 refine bndI fun y11 hy11 => ?_
 let o3 : List (PC P G) := [pb (B := ltI ((i0 : Nat) : Int) ((c.arts.length : Nat) : Int)) (b := true) (ltT hi0), pix (ix29 .lost he0)]
 refine cndI (fun hv => ?_) fun hv => ?_
 subst hv
 refine bndI fun res hres h => ?_
 have hlen := (limE hres).1
 replace hres := (limE hres).2
 refine go_at [] [0, 1, 2, 4, 5, 6, 7, 8, 9, 10, 11, 16, 17, 18, 19, 20, 21, 25, 26, 31, 32, 33, 34, 35, 36, 37, 38, 39, 42, 43, 48, 50, 51, 52, 53, 56, 57, 60, 61, 63, 66, 67, 69, 70, 71, 72, 74, 75, 76, 77, 80, 81, 87, 90, 91, 95, 96, 98, 104, 105, 108, 109] 2 (sub B7 [1, 1, 1, 1, 1, 1, 1, 0, 1, 0, 0, 1, 1, 0, 0, 1, 1, 0, 1, 0, 0]) [.code (sub B7 [1, 1, 1, 1, 1, 1, 1, 0, 1, 0, 0, 1, 1, 0, 0, 1, 1, 1]), .endb 1, .code (sub B7 [1, 1, 1, 1, 1, 1, 1, 0, 1, 0, 0, 1, 1, 1])] _ _ (runS 300 (o3 ++ [pcall (codex_Beats_step c ((i0 : Nat) : Int) version true hy11)])) (by kernel_rfl) (foldP (fn := Tryz.f7) (m := 0) (fun v => .sc (.bool v)) 2 x5.wh (fun i1 (need11 : Bool) (j1 : JJ) => frm 110 0 [(1, .sc (.int .i64 version)), (2, .ptr 0 0), (5, .sc (.bool y1)), (6, .sl .lost y3.length (rows inC y3)), (7, .ptr 1 0), (8, .sl (.row 0 1) want8.length (rows inC want8)), (9, .sc (.int .i64 ((i0 : Nat) : Int))), (10, .ptr 2 0), (11, .sc (.bool need11)), (50, .sl .lost c.arts.length (rows arC c.arts)), (51, .sc (.int .i64 ((c.arts.length : Nat) : Int))), (52, .sc (.int .i64 ((i0 : Nat) : Int))), (69, .sl .lost x5.wh.length (exsC x5.wh)), (70, .sc (.int .i64 ((x5.wh.length : Nat) : Int))), (71, .sc (.int .i64 ((i1 : Nat) : Int)))] [4, 16, 18, 19, 20, 25, 26, 31, 32, 33, 35, 36, 37, 38, 39, 42, 43, 53, 60, 61, 66, 67, 72, 75, 76, 80, 81, 87, 90, 91, 95, 96, 98, 104, 105, 108, 109] 0 [0, 17, 21, 34, 48, 56, 57, 63, 74, 77] 0 j1) (fun (_ : Nat) (need11 : Bool) (_ : JJ) => ⟨[(2, .cells (arC e0)), (1, .cells (arC x5)), (0, .cells (coC c))], 3, [(0, want8.length)], 1⟩) (fun (j : JJ) => plainL j.2 = true) (fun (need11 : Bool) (jx : JJ) => frm 110 0 [(1, .sc (.int .i64 version)), (2, .ptr 0 0), (5, .sc (.bool y1)), (6, .sl .lost y3.length (rows inC y3)), (7, .ptr 1 0), (8, .sl (.row 0 1) want8.length (rows inC want8)), (9, .sc (.int .i64 ((i0 : Nat) : Int))), (10, .ptr 2 0), (11, .sc (.bool need11)), (50, .sl .lost c.arts.length (rows arC c.arts)), (51, .sc (.int .i64 ((c.arts.length : Nat) : Int))), (52, .sc (.int .i64 ((i0 : Nat) : Int)))] [4, 16, 18, 19, 20, 25, 26, 31, 32, 33, 35, 36, 37, 38, 39, 42, 43, 53, 60, 61, 66, 67, 72, 75, 76, 80, 81, 87, 90, 91, 95, 96, 98, 104, 105, 108, 109] 0 [0, 17, 21, 34, 48, 56, 57, 63, 74, 77] 0 jx) (fun (need11 : Bool) (_ : JJ) => ⟨[(2, .cells (arC e0)), (1, .cells (arC x5)), (0, .cells (coC c))], 3, [(0, want8.length)], 1⟩) (fun (j : JJ) => plainL j.2 = true) ?_ ?_ 0 hres ?_ ?_ ([(jn j0 0), (jn j0 2), (jn j0 3), (jn j0 4), (jn j0 5), (jn j0 6), (jn j0 7), (jn j0 8), (jn j0 9), (jn j0 10), (jn j0 11), (jn j0 12), (jn j0 13), (jn j0 14), (jn j0 15), (jn j0 16), (jn j0 17), .bool true, .bool true, .bool true, undef, .bool true, (jn j0 23), (jn j0 24), (jn j0 25), (jn j0 26), (jn j0 27), (jn j0 28), (jn j0 29), (jn j0 30), (jn j0 31), (jn j0 32), (jn j0 33), (jn j0 34), (jn j0 35), (jn j0 36), (jn j0 37)], [(gn j0 0), (gn j0 1), (gn j0 2), (gn j0 3), (gn j0 4), .agg (arC e0), .agg (coC c), .sc undef, (gn j0 8), (gn j0 9)]) (plC (gn_pl hj0 0) (plC (gn_pl hj0 1) (plC (gn_pl hj0 2) (plC (gn_pl hj0 3) (plC (gn_pl hj0 4) (plC (layAr.plG e0) (plC (layCo.plG c) (plC rfl (plC (gn_pl hj0 8) (plC (gn_pl hj0 9) rfl)))))))))))
 rintro i1 need11 j1 hj1 hge hq
 clear h hres
 refine WL_rnd ?_
 exact go_ex Hd.plainG [1, 2, 4, 8, 10, 13, 14, 17, 18, 20, 22, 32, 35, 36, 38, 40, 43, 50, 52, 62, 64, 66, 69, 70, 72, 74, 76, 78, 84, 86, 97, 101, 102, 104, 106, 113, 115, 120, 122, 127, 132, 134, 144, 149, 150, 152, 155, 160, 162, 174, 180, 182, 190, 192, 196, 208, 210, 216, 218] [fq (gn_pl hj1 0), fq (layInt.plS y3), ⟨.sl (.row 0 1) want8.length (rows inC want8), .sl (.row 0 1) want8.length (rows inC want8), (.under (unSl rfl (under_plainL _ _ (layInt.plC want8))))⟩, fq (gn_pl hj1 1), fq (gn_pl hj1 2), fq (gn_pl hj1 3), fq (gn_pl hj1 4), fq (layAr.plS c.arts), fq (gn_pl hj1 5), fq (gn_pl hj1 6), fq (gn_pl hj1 7), fq (gn_pl hj1 8), fq (gn_pl hj1 9)] [fbp (arC e0) (layAr.pl e0), fbp (arC x5) (layAr.pl x5), fbp (coC c) (layCo.pl c)] 2 _ _ (runS 300 [pb (B := ltI ((i1 : Nat) : Int) ((x5.wh.length : Nat) : Int)) (b := false) (ltF hge)]) (by kernel_rfl) (hq ([(jn j1 0), (jn j1 1), (jn j1 2), (jn j1 3), (jn j1 4), (jn j1 5), (jn j1 6), (jn j1 7), (jn j1 8), (jn j1 9), (jn j1 10), (jn j1 11), (jn j1 12), (jn j1 13), (jn j1 14), (jn j1 15), (jn j1 16), (jn j1 17), (jn j1 18), (jn j1 19), (jn j1 20), (jn j1 21), .bool false, (jn j1 23), (jn j1 24), (jn j1 25), (jn j1 26), (jn j1 27), (jn j1 28), (jn j1 29), (jn j1 30), (jn j1 31), (jn j1 32), (jn j1 33), (jn j1 34), (jn j1 35), (jn j1 36)], [(gn j1 0), (gn j1 1), (gn j1 2), (gn j1 3), (gn j1 4), (gn j1 5), (gn j1 6), (gn j1 7), (gn j1 8), (gn j1 9)]) (plC (gn_pl hj1 0) (plC (gn_pl hj1 1) (plC (gn_pl hj1 2) (plC (gn_pl hj1 3) (plC (gn_pl hj1 4) (plC (gn_pl hj1 5) (plC (gn_pl hj1 6) (plC (gn_pl hj1 7) (plC (gn_pl hj1 8) (plC (gn_pl hj1 9) rfl)))))))))))
 clear h hres
 rintro i1 e1 need11 j1 r hj1 he1 hi1 h k
 refine WL_rnd ?_
 revert h
 show law10_CodexNeeds_L2  e0 i1 e1 need11 = some r → _
 unfold law10_CodexNeeds_L2
 let o4 : List (PC P G) := [pb (B := ltI ((i1 : Nat) : Int) ((x5.wh.length : Nat) : Int)) (b := true) (ltT hi1), pix (ix58 .lost he1)]
 refine cndI (fun hv => ?_) fun hv => ?_
 subst hv
 rintro ⟨⟩
 exact go_nx Hd.plainG [1, 2, 4, 8, 10, 13, 14, 17, 18, 20, 22, 32, 35, 36, 38, 40, 43, 50, 52, 62, 64, 66, 69, 70, 72, 74, 76, 78, 84, 86, 97, 101, 102, 104, 106, 113, 115, 120, 122, 127, 132, 134, 139, 140, 142, 144, 149, 150, 152, 154, 160, 162, 174, 180, 182, 190, 192, 196, 208, 210, 216, 218] [fq (gn_pl hj1 0), fq (layInt.plS y3), ⟨.sl (.row 0 1) want8.length (rows inC want8), .sl (.row 0 1) want8.length (rows inC want8), (.under (unSl rfl (under_plainL _ _ (layInt.plC want8))))⟩, fq (gn_pl hj1 1), fq (gn_pl hj1 2), fq (gn_pl hj1 3), fq (gn_pl hj1 4), fq (layAr.plS c.arts), fq (gn_pl hj1 5), fq (gn_pl hj1 6), fq (gn_pl hj1 7), fq (layEx.plS x5.wh), fq (layEx.plG e1)] [fbp (arC e0) (layAr.pl e0), fbp (arC x5) (layAr.pl x5), fbp (coC c) (layCo.pl c)] _ _ (runS 300 (o4 ++ [pinc i1 (by omega)])) (by kernel_rfl) (k ([(jn j1 0), (jn j1 1), (jn j1 2), (jn j1 3), (jn j1 4), (jn j1 5), (jn j1 6), (jn j1 7), (jn j1 8), (jn j1 9), (jn j1 10), (jn j1 11), (jn j1 12), (jn j1 13), (jn j1 14), (jn j1 15), (jn j1 16), (jn j1 17), (jn j1 18), (jn j1 19), (jn j1 20), (jn j1 21), .bool true, .bool true, .bool true, undef, .bool true, (jn j1 27), (jn j1 28), (jn j1 29), (jn j1 30), (jn j1 31), (jn j1 32), (jn j1 33), (jn j1 34), (jn j1 35), (jn j1 36)], [(gn j1 0), (gn j1 1), (gn j1 2), (gn j1 3), (gn j1 4), (gn j1 5), (gn j1 6), (gn j1 7), .agg (exC e1), .sc undef]) (plC (gn_pl hj1 0) (plC (gn_pl hj1 1) (plC (gn_pl hj1 2) (plC (gn_pl hj1 3) (plC (gn_pl hj1 4) (plC (gn_pl hj1 5) (plC (gn_pl hj1 6) (plC (gn_pl hj1 7) (plC (layEx.plG e1) (plC rfl rfl)))))))))))
 subst hv
 refine bndI fun y13 hy13 => ?_
 rintro ⟨⟩
 exact go_nx Hd.plainG [1, 2, 4, 8, 10, 13, 14, 17, 18, 20, 22, 32, 35, 36, 38, 40, 43, 50, 52, 62, 64, 66, 69, 70, 72, 74, 76, 78, 84, 86, 97, 101, 102, 104, 106, 113, 115, 120, 122, 127, 132, 134, 139, 140, 142, 144, 149, 150, 152, 155, 160, 162, 174, 180, 182, 190, 192, 196, 208, 210, 216, 218] [fq (gn_pl hj1 0), fq (layInt.plS y3), ⟨.sl (.row 0 1) want8.length (rows inC want8), .sl (.row 0 1) want8.length (rows inC want8), (.under (unSl rfl (under_plainL _ _ (layInt.plC want8))))⟩, fq (gn_pl hj1 1), fq (gn_pl hj1 2), fq (gn_pl hj1 3), fq (gn_pl hj1 4), fq (layAr.plS c.arts), fq (gn_pl hj1 5), fq (gn_pl hj1 6), fq (gn_pl hj1 7), fq (layEx.plS x5.wh), fq (layEx.plG e1), fq (layEx.plG e1)] [fbp (arC e0) (layAr.pl e0), fbp (arC x5) (layAr.pl x5), fbp (coC c) (layCo.pl c)] _ _ (runS 300 (o4 ++ [pcall (law10_mentioned_ok e1 e0.number y13 hy13), pinc i1 (by omega)])) (by kernel_rfl) (k ([(jn j1 0), (jn j1 1), (jn j1 2), (jn j1 3), (jn j1 4), (jn j1 5), (jn j1 6), (jn j1 7), (jn j1 8), (jn j1 9), (jn j1 10), (jn j1 11), (jn j1 12), (jn j1 13), (jn j1 14), (jn j1 15), (jn j1 16), (jn j1 17), (jn j1 18), (jn j1 19), (jn j1 20), (jn j1 21), .bool true, .bool false, .bool false, .bool y13, .bool y13, (jn j1 27), (jn j1 28), (jn j1 29), (jn j1 30), (jn j1 31), (jn j1 32), (jn j1 33), (jn j1 34), (jn j1 35), (jn j1 36)], [(gn j1 0), (gn j1 1), (gn j1 2), (gn j1 3), (gn j1 4), (gn j1 5), (gn j1 6), (gn j1 7), .agg (exC e1), .agg (exC e1)]) (plC (gn_pl hj1 0) (plC (gn_pl hj1 1) (plC (gn_pl hj1 2) (plC (gn_pl hj1 3) (plC (gn_pl hj1 4) (plC (gn_pl hj1 5) (plC (gn_pl hj1 6) (plC (gn_pl hj1 7) (plC (layEx.plG e1) (plC (layEx.plG e1) rfl)))))))))))
 rintro need11_14 rfl jx_14 hjx_14
 revert h
 clear hres
 dsimp only [lpK]
 refine bndI fun res hres h => ?_
 have hlen := (limE hres).1
 replace hres := (limE hres).2
 refine go_at [] [0, 1, 2, 4, 5, 6, 7, 8, 9, 10, 11, 16, 17, 18, 19, 20, 21, 25, 26, 31, 32, 33, 34, 35, 36, 37, 38, 39, 42, 43, 48, 50, 51, 52, 53, 56, 57, 60, 61, 63, 66, 67, 72, 74, 75, 76, 77, 80, 81, 84, 85, 86, 87, 90, 91, 95, 96, 98, 104, 105, 108, 109] 4 (sub B7 [1, 1, 1, 1, 1, 1, 1, 0, 1, 0, 0, 1, 1, 0, 0, 1, 1, 1, 0, 1, 0, 0]) [.code (sub B7 [1, 1, 1, 1, 1, 1, 1, 0, 1, 0, 0, 1, 1, 0, 0, 1, 1, 1, 1]), .endb 1, .code (sub B7 [1, 1, 1, 1, 1, 1, 1, 0, 1, 0, 0, 1, 1, 1])] _ _ (runX 300 []) (by kernel_rfl) (foldP (fn := Tryz.f7) (m := 0) (fun v => .sc (.bool v)) 4 x5.un (fun i2 (need11 : Bool) (j2 : JJ) => frm 110 0 [(1, .sc (.int .i64 version)), (2, .ptr 0 0), (5, .sc (.bool y1)), (6, .sl .lost y3.length (rows inC y3)), (7, .ptr 1 0), (8, .sl (.row 0 1) want8.length (rows inC want8)), (9, .sc (.int .i64 ((i0 : Nat) : Int))), (10, .ptr 2 0), (11, .sc (.bool need11)), (50, .sl .lost c.arts.length (rows arC c.arts)), (51, .sc (.int .i64 ((c.arts.length : Nat) : Int))), (52, .sc (.int .i64 ((i0 : Nat) : Int))), (84, .sl .lost x5.un.length (rows inC x5.un)), (85, .sc (.int .i64 ((x5.un.length : Nat) : Int))), (86, .sc (.int .i64 ((i2 : Nat) : Int)))] [4, 16, 18, 19, 20, 25, 26, 31, 32, 33, 35, 36, 37, 38, 39, 42, 43, 53, 60, 61, 66, 67, 72, 75, 76, 80, 81, 87, 90, 91, 95, 96, 98, 104, 105, 108, 109] 0 [0, 17, 21, 34, 48, 56, 57, 63, 74, 77] 0 j2) (fun (_ : Nat) (need11 : Bool) (_ : JJ) => ⟨[(2, .cells (arC e0)), (1, .cells (arC x5)), (0, .cells (coC c))], 3, [(0, want8.length)], 1⟩) (fun (j : JJ) => plainL j.2 = true) (fun (need11 : Bool) (jx : JJ) => frm 110 0 [(1, .sc (.int .i64 version)), (2, .ptr 0 0), (5, .sc (.bool y1)), (6, .sl .lost y3.length (rows inC y3)), (7, .ptr 1 0), (8, .sl (.row 0 1) want8.length (rows inC want8)), (9, .sc (.int .i64 ((i0 : Nat) : Int))), (11, .sc (.bool need11)), (50, .sl .lost c.arts.length (rows arC c.arts)), (51, .sc (.int .i64 ((c.arts.length : Nat) : Int))), (52, .sc (.int .i64 ((i0 : Nat) : Int)))] [4, 16, 18, 19, 20, 25, 26, 31, 32, 33, 35, 36, 37, 38, 39, 42, 43, 53, 60, 61, 66, 67, 72, 75, 76, 80, 81, 87, 90, 91, 95, 96, 98, 104, 105, 108, 109] 0 [0, 17, 21, 34, 48, 56, 57, 63, 74, 77] 0 jx) (fun (need11 : Bool) (_ : JJ) => ⟨[(2, .cells (arC e0)), (1, .cells (arC x5)), (0, .cells (coC c))], 3, [(0, want8.length)], 1⟩) (fun (j : JJ) => plainL j.2 = true) ?_ ?_ 0 hres ?_ ?_ ([(jn jx_14 0), (jn jx_14 1), (jn jx_14 2), (jn jx_14 3), (jn jx_14 4), (jn jx_14 5), (jn jx_14 6), (jn jx_14 7), (jn jx_14 8), (jn jx_14 9), (jn jx_14 10), (jn jx_14 11), (jn jx_14 12), (jn jx_14 13), (jn jx_14 14), (jn jx_14 15), (jn jx_14 16), (jn jx_14 17), (jn jx_14 18), (jn jx_14 19), (jn jx_14 20), (jn jx_14 21), (jn jx_14 22), (jn jx_14 23), (jn jx_14 24), (jn jx_14 25), (jn jx_14 26), (jn jx_14 27), (jn jx_14 28), (jn jx_14 29), (jn jx_14 30), (jn jx_14 31), (jn jx_14 32), (jn jx_14 33), (jn jx_14 34), (jn jx_14 35), (jn jx_14 36)], [(gn jx_14 0), (gn jx_14 1), (gn jx_14 2), (gn jx_14 3), (gn jx_14 4), (gn jx_14 5), (gn jx_14 6), (gn jx_14 7), (gn jx_14 8), (gn jx_14 9)]) (plC (gn_pl hjx_14 0) (plC (gn_pl hjx_14 1) (plC (gn_pl hjx_14 2) (plC (gn_pl hjx_14 3) (plC (gn_pl hjx_14 4) (plC (gn_pl hjx_14 5) (plC (gn_pl hjx_14 6) (plC (gn_pl hjx_14 7) (plC (gn_pl hjx_14 8) (plC (gn_pl hjx_14 9) rfl)))))))))))
 rintro i2 need11 j2 hj2 hge hq
 clear h hres
 refine WL_rnd ?_
 exact go_ex Hd.plainG [1, 2, 4, 8, 10, 13, 14, 17, 18, 22, 32, 35, 36, 38, 40, 43, 50, 52, 62, 64, 66, 69, 70, 72, 74, 76, 78, 84, 86, 97, 101, 102, 104, 106, 113, 115, 120, 122, 127, 132, 134, 144, 149, 150, 152, 155, 160, 162, 174, 180, 182, 190, 192, 196, 208, 210, 216, 218] [fq (gn_pl hj2 0), fq (layInt.plS y3), ⟨.sl (.row 0 1) want8.length (rows inC want8), .sl (.row 0 1) want8.length (rows inC want8), (.under (unSl rfl (under_plainL _ _ (layInt.plC want8))))⟩, fq (gn_pl hj2 1), fq (gn_pl hj2 2), fq (gn_pl hj2 3), fq (gn_pl hj2 4), fq (layAr.plS c.arts), fq (gn_pl hj2 5), fq (gn_pl hj2 6), fq (gn_pl hj2 7), fq (gn_pl hj2 8), fq (gn_pl hj2 9)] [fbp (arC e0) (layAr.pl e0), fbp (arC x5) (layAr.pl x5), fbp (coC c) (layCo.pl c)] 4 _ _ (runS 300 [pb (B := ltI ((i2 : Nat) : Int) ((x5.un.length : Nat) : Int)) (b := false) (ltF hge)]) (by kernel_rfl) (hq ([(jn j2 0), (jn j2 1), (jn j2 2), (jn j2 3), (jn j2 4), (jn j2 5), (jn j2 6), (jn j2 7), (jn j2 8), (jn j2 9), (jn j2 10), (jn j2 11), (jn j2 12), (jn j2 13), (jn j2 14), (jn j2 15), (jn j2 16), (jn j2 17), (jn j2 18), (jn j2 19), (jn j2 20), (jn j2 21), (jn j2 22), (jn j2 23), (jn j2 24), (jn j2 25), (jn j2 26), .bool false, (jn j2 28), (jn j2 29), (jn j2 30), (jn j2 31), (jn j2 32), (jn j2 33), (jn j2 34), (jn j2 35), (jn j2 36)], [(gn j2 0), (gn j2 1), (gn j2 2), (gn j2 3), (gn j2 4), (gn j2 5), (gn j2 6), (gn j2 7), (gn j2 8), (gn j2 9)]) (plC (gn_pl hj2 0) (plC (gn_pl hj2 1) (plC (gn_pl hj2 2) (plC (gn_pl hj2 3) (plC (gn_pl hj2 4) (plC (gn_pl hj2 5) (plC (gn_pl hj2 6) (plC (gn_pl hj2 7) (plC (gn_pl hj2 8) (plC (gn_pl hj2 9) rfl)))))))))))
 clear h hres
 rintro i2 e2 need11 j2 r hj2 he2 hi2 h k
 refine WL_rnd ?_
 revert h
 show law10_CodexNeeds_L3  e0 i2 e2 need11 = some r → _
 unfold law10_CodexNeeds_L3
 let o5 : List (PC P G) := [pb (B := ltI ((i2 : Nat) : Int) ((x5.un.length : Nat) : Int)) (b := true) (ltT hi2), pix (ix40 .lost he2)]
 refine cndI (fun hv => ?_) fun hv => ?_
 subst hv
 rintro ⟨⟩
 exact go_nx Hd.plainG [1, 2, 4, 8, 10, 13, 14, 17, 18, 20, 22, 32, 35, 36, 38, 40, 43, 50, 52, 62, 64, 66, 69, 70, 72, 74, 76, 78, 84, 86, 97, 101, 102, 104, 106, 113, 115, 120, 122, 127, 132, 134, 144, 149, 150, 152, 155, 160, 162, 169, 170, 172, 174, 180, 182, 190, 192, 196, 208, 210, 216, 218] [fq (gn_pl hj2 0), fq (layInt.plS y3), ⟨.sl (.row 0 1) want8.length (rows inC want8), .sl (.row 0 1) want8.length (rows inC want8), (.under (unSl rfl (under_plainL _ _ (layInt.plC want8))))⟩, fq (gn_pl hj2 1), fq (gn_pl hj2 2), fq (gn_pl hj2 3), fq (gn_pl hj2 4), fq (layAr.plS c.arts), fq (gn_pl hj2 5), fq (gn_pl hj2 6), fq (gn_pl hj2 7), fq (gn_pl hj2 8), fq (gn_pl hj2 9), fq (layInt.plS x5.un)] [fbp (arC e0) (layAr.pl e0), fbp (arC x5) (layAr.pl x5), fbp (coC c) (layCo.pl c)] _ _ (runS 300 (o5 ++ [pinc i2 (by omega)])) (by kernel_rfl) (k ([(jn j2 0), (jn j2 1), (jn j2 2), (jn j2 3), (jn j2 4), (jn j2 5), (jn j2 6), (jn j2 7), (jn j2 8), (jn j2 9), (jn j2 10), (jn j2 11), (jn j2 12), (jn j2 13), (jn j2 14), (jn j2 15), (jn j2 16), (jn j2 17), (jn j2 18), (jn j2 19), (jn j2 20), (jn j2 21), (jn j2 22), (jn j2 23), (jn j2 24), (jn j2 25), (jn j2 26), .bool true, .bool true, .bool true, undef, .bool true, (jn j2 32), (jn j2 33), (jn j2 34), (jn j2 35), (jn j2 36)], [(gn j2 0), (gn j2 1), (gn j2 2), (gn j2 3), (gn j2 4), (gn j2 5), (gn j2 6), (gn j2 7), (gn j2 8), (gn j2 9)]) (plC (gn_pl hj2 0) (plC (gn_pl hj2 1) (plC (gn_pl hj2 2) (plC (gn_pl hj2 3) (plC (gn_pl hj2 4) (plC (gn_pl hj2 5) (plC (gn_pl hj2 6) (plC (gn_pl hj2 7) (plC (gn_pl hj2 8) (plC (gn_pl hj2 9) rfl)))))))))))
 subst hv
 refine cndI (fun hb7 => ?_) fun hb7 => ?_
 rintro ⟨⟩
 exact go_nx Hd.plainG [1, 2, 4, 8, 10, 13, 14, 17, 18, 20, 22, 32, 35, 36, 38, 40, 43, 50, 52, 62, 64, 66, 69, 70, 72, 74, 76, 78, 84, 86, 97, 101, 102, 104, 106, 113, 115, 120, 122, 127, 132, 134, 144, 149, 150, 152, 155, 160, 162, 169, 170, 172, 174, 180, 182, 190, 192, 196, 208, 210, 216, 218] [fq (gn_pl hj2 0), fq (layInt.plS y3), ⟨.sl (.row 0 1) want8.length (rows inC want8), .sl (.row 0 1) want8.length (rows inC want8), (.under (unSl rfl (under_plainL _ _ (layInt.plC want8))))⟩, fq (gn_pl hj2 1), fq (gn_pl hj2 2), fq (gn_pl hj2 3), fq (gn_pl hj2 4), fq (layAr.plS c.arts), fq (gn_pl hj2 5), fq (gn_pl hj2 6), fq (gn_pl hj2 7), fq (gn_pl hj2 8), fq (gn_pl hj2 9), fq (layInt.plS x5.un)] [fbp (arC e0) (layAr.pl e0), fbp (arC x5) (layAr.pl x5), fbp (coC c) (layCo.pl c)] _ _ (runS 300 (o5 ++ [pb hb7, pinc i2 (by omega)])) (by kernel_rfl) (k ([(jn j2 0), (jn j2 1), (jn j2 2), (jn j2 3), (jn j2 4), (jn j2 5), (jn j2 6), (jn j2 7), (jn j2 8), (jn j2 9), (jn j2 10), (jn j2 11), (jn j2 12), (jn j2 13), (jn j2 14), (jn j2 15), (jn j2 16), (jn j2 17), (jn j2 18), (jn j2 19), (jn j2 20), (jn j2 21), (jn j2 22), (jn j2 23), (jn j2 24), (jn j2 25), (jn j2 26), .bool true, .bool false, .bool false, .bool true, .bool true, (jn j2 32), (jn j2 33), (jn j2 34), (jn j2 35), (jn j2 36)], [(gn j2 0), (gn j2 1), (gn j2 2), (gn j2 3), (gn j2 4), (gn j2 5), (gn j2 6), (gn j2 7), (gn j2 8), (gn j2 9)]) (plC (gn_pl hj2 0) (plC (gn_pl hj2 1) (plC (gn_pl hj2 2) (plC (gn_pl hj2 3) (plC (gn_pl hj2 4) (plC (gn_pl hj2 5) (plC (gn_pl hj2 6) (plC (gn_pl hj2 7) (plC (gn_pl hj2 8) (plC (gn_pl hj2 9) rfl)))))))))))
 rintro ⟨⟩
 exact go_nx Hd.plainG [1, 2, 4, 8, 10, 13, 14, 17, 18, 20, 22, 32, 35, 36, 38, 40, 43, 50, 52, 62, 64, 66, 69, 70, 72, 74, 76, 78, 84, 86, 97, 101, 102, 104, 106, 113, 115, 120, 122, 127, 132, 134, 144, 149, 150, 152, 155, 160, 162, 169, 170, 172, 174, 180, 182, 190, 192, 196, 208, 210, 216, 218] [fq (gn_pl hj2 0), fq (layInt.plS y3), ⟨.sl (.row 0 1) want8.length (rows inC want8), .sl (.row 0 1) want8.length (rows inC want8), (.under (unSl rfl (under_plainL _ _ (layInt.plC want8))))⟩, fq (gn_pl hj2 1), fq (gn_pl hj2 2), fq (gn_pl hj2 3), fq (gn_pl hj2 4), fq (layAr.plS c.arts), fq (gn_pl hj2 5), fq (gn_pl hj2 6), fq (gn_pl hj2 7), fq (gn_pl hj2 8), fq (gn_pl hj2 9), fq (layInt.plS x5.un)] [fbp (arC e0) (layAr.pl e0), fbp (arC x5) (layAr.pl x5), fbp (coC c) (layCo.pl c)] _ _ (runS 300 (o5 ++ [pb hb7, pinc i2 (by omega)])) (by kernel_rfl) (k ([(jn j2 0), (jn j2 1), (jn j2 2), (jn j2 3), (jn j2 4), (jn j2 5), (jn j2 6), (jn j2 7), (jn j2 8), (jn j2 9), (jn j2 10), (jn j2 11), (jn j2 12), (jn j2 13), (jn j2 14), (jn j2 15), (jn j2 16), (jn j2 17), (jn j2 18), (jn j2 19), (jn j2 20), (jn j2 21), (jn j2 22), (jn j2 23), (jn j2 24), (jn j2 25), (jn j2 26), .bool true, .bool false, .bool false, .bool false, .bool false, (jn j2 32), (jn j2 33), (jn j2 34), (jn j2 35), (jn j2 36)], [(gn j2 0), (gn j2 1), (gn j2 2), (gn j2 3), (gn j2 4), (gn j2 5), (gn j2 6), (gn j2 7), (gn j2 8), (gn j2 9)]) (plC (gn_pl hj2 0) (plC (gn_pl hj2 1) (plC (gn_pl hj2 2) (plC (gn_pl hj2 3) (plC (gn_pl hj2 4) (plC (gn_pl hj2 5) (plC (gn_pl hj2 6) (plC (gn_pl hj2 7) (plC (gn_pl hj2 8) (plC (gn_pl hj2 9) rfl)))))))))))
 rintro need11_15 rfl jx_15 hjx_15
 revert h
 clear hres
 dsimp only [lpK]
 refine cndI (fun hv => ?_) fun hv => ?_
 subst hv
 refine limAI fun hl16 => ?_
 rintro ⟨⟩
 exact go_nx Hd.plainG [1, 2, 4, 8, 10, 13, 14, 17, 22, 32, 35, 36, 38, 40, 43, 50, 52, 62, 64, 66, 69, 70, 72, 74, 76, 78, 84, 86, 97, 101, 102, 104, 106, 113, 115, 120, 122, 127, 132, 134, 144, 149, 150, 152, 155, 160, 162, 174, 180, 182, 190, 192, 196, 208, 210, 216, 218] [fq (gn_pl hjx_15 0), fq (layInt.plS y3), ⟨.sl (.row 0 1) ((want8 ++ [((i0 : Nat) : Int)]).length) (rows inC (want8 ++ [((i0 : Nat) : Int)])), .sl (.row 0 1) ((want8 ++ [((i0 : Nat) : Int)]).length) (rows inC (want8 ++ [((i0 : Nat) : Int)])), (.under (unSl rfl (under_plainL _ _ (layInt.plC (want8 ++ [((i0 : Nat) : Int)])))))⟩, fq (gn_pl hjx_15 1), fq (gn_pl hjx_15 2), fq (gn_pl hjx_15 3), fq (gn_pl hjx_15 4), fq (layAr.plS c.arts), fq (gn_pl hjx_15 5), fq (gn_pl hjx_15 6), fq (gn_pl hjx_15 7), fq (gn_pl hjx_15 8), fq (gn_pl hjx_15 9)] [fbp (arC x5) (layAr.pl x5), fbp (coC c) (layCo.pl c)] _ _ (runX 300 [pgro (gro40 (.row 0 1) want8 [((i0 : Nat) : Int)] (o := .full) (n := 1) (ns := [.sc (.int .i64 ((i0 : Nat) : Int))]) (layInt.wn [((i0 : Nat) : Int)] (.r .nil)) rfl rfl (by simp) (by simpa using hl16)), pinc i0 (by omega)]) (by kernel_rfl) (k ([(jn jx_15 0), .bool true, (jn jx_15 1), (jn jx_15 2), (jn jx_15 3), (jn jx_15 4), (jn jx_15 5), (jn jx_15 6), (jn jx_15 7), (jn jx_15 8), (jn jx_15 9), (jn jx_15 10), (jn jx_15 11), (jn jx_15 12), (jn jx_15 13), (jn jx_15 14), (jn jx_15 15), (jn jx_15 16), (jn jx_15 17), (jn jx_15 18), (jn jx_15 19), (jn jx_15 20), (jn jx_15 21), (jn jx_15 22), (jn jx_15 23), (jn jx_15 24), (jn jx_15 25), (jn jx_15 26), (jn jx_15 27), (jn jx_15 28), (jn jx_15 29), (jn jx_15 30), (jn jx_15 31), .bool true, (jn jx_15 33), (jn jx_15 34), (jn jx_15 35), (jn jx_15 36)], [(gn jx_15 0), (gn jx_15 1), (gn jx_15 2), (gn jx_15 3), (gn jx_15 4), (gn jx_15 5), (gn jx_15 6), (gn jx_15 7), (gn jx_15 8), (gn jx_15 9)]) (plC (gn_pl hjx_15 0) (plC (gn_pl hjx_15 1) (plC (gn_pl hjx_15 2) (plC (gn_pl hjx_15 3) (plC (gn_pl hjx_15 4) (plC (gn_pl hjx_15 5) (plC (gn_pl hjx_15 6) (plC (gn_pl hjx_15 7) (plC (gn_pl hjx_15 8) (plC (gn_pl hjx_15 9) rfl)))))))))))
 subst hv
 rintro ⟨⟩
 exact go_nx Hd.plainG [1, 2, 4, 8, 10, 13, 14, 17, 22, 32, 35, 36, 38, 40, 43, 50, 52, 62, 64, 66, 69, 70, 72, 74, 76, 78, 84, 86, 97, 101, 102, 104, 106, 113, 115, 120, 122, 127, 132, 134, 144, 149, 150, 152, 155, 160, 162, 174, 180, 182, 190, 192, 196, 208, 210, 216, 218] [fq (gn_pl hjx_15 0), fq (layInt.plS y3), ⟨.sl (.row 0 1) want8.length (rows inC want8), .sl (.row 0 1) want8.length (rows inC want8), (.under (unSl rfl (under_plainL _ _ (layInt.plC want8))))⟩, fq (gn_pl hjx_15 1), fq (gn_pl hjx_15 2), fq (gn_pl hjx_15 3), fq (gn_pl hjx_15 4), fq (layAr.plS c.arts), fq (gn_pl hjx_15 5), fq (gn_pl hjx_15 6), fq (gn_pl hjx_15 7), fq (gn_pl hjx_15 8), fq (gn_pl hjx_15 9)] [fbp (arC x5) (layAr.pl x5), fbp (coC c) (layCo.pl c)] _ _ (runX 300 [pinc i0 (by omega)]) (by kernel_rfl) (k ([(jn jx_15 0), .bool false, (jn jx_15 1), (jn jx_15 2), (jn jx_15 3), (jn jx_15 4), (jn jx_15 5), (jn jx_15 6), (jn jx_15 7), (jn jx_15 8), (jn jx_15 9), (jn jx_15 10), (jn jx_15 11), (jn jx_15 12), (jn jx_15 13), (jn jx_15 14), (jn jx_15 15), (jn jx_15 16), (jn jx_15 17), (jn jx_15 18), (jn jx_15 19), (jn jx_15 20), (jn jx_15 21), (jn jx_15 22), (jn jx_15 23), (jn jx_15 24), (jn jx_15 25), (jn jx_15 26), (jn jx_15 27), (jn jx_15 28), (jn jx_15 29), (jn jx_15 30), (jn jx_15 31), .bool false, (jn jx_15 33), (jn jx_15 34), (jn jx_15 35), (jn jx_15 36)], [(gn jx_15 0), (gn jx_15 1), (gn jx_15 2), (gn jx_15 3), (gn jx_15 4), (gn jx_15 5), (gn jx_15 6), (gn jx_15 7), (gn jx_15 8), (gn jx_15 9)]) (plC (gn_pl hjx_15 0) (plC (gn_pl hjx_15 1) (plC (gn_pl hjx_15 2) (plC (gn_pl hjx_15 3) (plC (gn_pl hjx_15 4) (plC (gn_pl hjx_15 5) (plC (gn_pl hjx_15 6) (plC (gn_pl hjx_15 7) (plC (gn_pl hjx_15 8) (plC (gn_pl hjx_15 9) rfl)))))))))))
 rintro v rfl
 dsimp only [lpK] at h
 cases h
 exact .outer (.rnd k)
 rintro v rfl
 dsimp only [lpK] at h
 cases h
 exact .outer (.rnd k)
 subst hv
 refine bndI fun y12 hy12 => ?_
 refine bndI fun res hres h => ?_
 have hlen := (limE hres).1
 replace hres := (limE hres).2
 refine go_at [] [0, 1, 2, 4, 5, 6, 7, 8, 9, 10, 11, 16, 17, 18, 19, 20, 21, 25, 26, 31, 32, 33, 34, 35, 36, 37, 38, 39, 42, 43, 48, 50, 51, 52, 53, 56, 57, 60, 61, 63, 66, 67, 69, 70, 71, 72, 74, 75, 76, 77, 80, 81, 87, 90, 91, 95, 96, 98, 104, 105, 108, 109] 2 (sub B7 [1, 1, 1, 1, 1, 1, 1, 0, 1, 0, 0, 1, 1, 0, 0, 1, 1, 0, 1, 0, 0]) [.code (sub B7 [1, 1, 1, 1, 1, 1, 1, 0, 1, 0, 0, 1, 1, 0, 0, 1, 1, 1]), .endb 1, .code (sub B7 [1, 1, 1, 1, 1, 1, 1, 0, 1, 0, 0, 1, 1, 1])] _ _ (runS 300 (o3 ++ [pcall (codex_Beats_step c ((i0 : Nat) : Int) version false hy11), pcall (law10_mentioned_ok x5.am e0.number y12 hy12)])) (by kernel_rfl) (foldP (fn := Tryz.f7) (m := 0) (fun v => .sc (.bool v)) 2 x5.wh (fun i1 (need11 : Bool) (j1 : JJ) => frm 110 0 [(1, .sc (.int .i64 version)), (2, .ptr 0 0), (5, .sc (.bool y1)), (6, .sl .lost y3.length (rows inC y3)), (7, .ptr 1 0), (8, .sl (.row 0 1) want8.length (rows inC want8)), (9, .sc (.int .i64 ((i0 : Nat) : Int))), (10, .ptr 2 0), (11, .sc (.bool need11)), (50, .sl .lost c.arts.length (rows arC c.arts)), (51, .sc (.int .i64 ((c.arts.length : Nat) : Int))), (52, .sc (.int .i64 ((i0 : Nat) : Int))), (69, .sl .lost x5.wh.length (exsC x5.wh)), (70, .sc (.int .i64 ((x5.wh.length : Nat) : Int))), (71, .sc (.int .i64 ((i1 : Nat) : Int)))] [4, 16, 18, 19, 20, 25, 26, 31, 32, 33, 35, 36, 37, 38, 39, 42, 43, 53, 60, 61, 66, 67, 72, 75, 76, 80, 81, 87, 90, 91, 95, 96, 98, 104, 105, 108, 109] 0 [0, 17, 21, 34, 48, 56, 57, 63, 74, 77] 0 j1) (fun (_ : Nat) (need11 : Bool) (_ : JJ) => ⟨[(2, .cells (arC e0)), (1, .cells (arC x5)), (0, .cells (coC c))], 3, [(0, want8.length)], 1⟩) (fun (j : JJ) => plainL j.2 = true) (fun (need11 : Bool) (jx : JJ) => frm 110 0 [(1, .sc (.int .i64 version)), (2, .ptr 0 0), (5, .sc (.bool y1)), (6, .sl .lost y3.length (rows inC y3)), (7, .ptr 1 0), (8, .sl (.row 0 1) want8.length (rows inC want8)), (9, .sc (.int .i64 ((i0 : Nat) : Int))), (10, .ptr 2 0), (11, .sc (.bool need11)), (50, .sl .lost c.arts.length (rows arC c.arts)), (51, .sc (.int .i64 ((c.arts.length : Nat) : Int))), (52, .sc (.int .i64 ((i0 : Nat) : Int)))] [4, 16, 18, 19, 20, 25, 26, 31, 32, 33, 35, 36, 37, 38, 39, 42, 43, 53, 60, 61, 66, 67, 72, 75, 76, 80, 81, 87, 90, 91, 95, 96, 98, 104, 105, 108, 109] 0 [0, 17, 21, 34, 48, 56, 57, 63, 74, 77] 0 jx) (fun (need11 : Bool) (_ : JJ) => ⟨[(2, .cells (arC e0)), (1, .cells (arC x5)), (0, .cells (coC c))], 3, [(0, want8.length)], 1⟩) (fun (j : JJ) => plainL j.2 = true) ?_ ?_ 0 hres ?_ ?_ ([(jn j0 0), (jn j0 2), (jn j0 3), (jn j0 4), (jn j0 5), (jn j0 6), (jn j0 7), (jn j0 8), (jn j0 9), (jn j0 10), (jn j0 11), (jn j0 12), (jn j0 13), (jn j0 14), (jn j0 15), (jn j0 16), (jn j0 17), .bool true, .bool false, .bool false, .bool y12, .bool y12, (jn j0 23), (jn j0 24), (jn j0 25), (jn j0 26), (jn j0 27), (jn j0 28), (jn j0 29), (jn j0 30), (jn j0 31), (jn j0 32), (jn j0 33), (jn j0 34), (jn j0 35), (jn j0 36), (jn j0 37)], [(gn j0 0), (gn j0 1), (gn j0 2), (gn j0 3), (gn j0 4), .agg (arC e0), .agg (coC c), .agg (exC x5.am), (gn j0 8), (gn j0 9)]) (plC (gn_pl hj0 0) (plC (gn_pl hj0 1) (plC (gn_pl hj0 2) (plC (gn_pl hj0 3) (plC (gn_pl hj0 4) (plC (layAr.plG e0) (plC (layCo.plG c) (plC (layEx.plG x5.am) (plC (gn_pl hj0 8) (plC (gn_pl hj0 9) rfl)))))))))))
 rintro i1 need11 j1 hj1 hge hq
 clear h hres
 refine WL_rnd ?_
 exact go_ex Hd.plainG [1, 2, 4, 8, 10, 13, 14, 17, 18, 20, 22, 32, 35, 36, 38, 40, 43, 50, 52, 62, 64, 66, 69, 70, 72, 74, 76, 78, 84, 86, 97, 101, 102, 104, 106, 113, 115, 120, 122, 127, 132, 134, 144, 149, 150, 152, 155, 160, 162, 174, 180, 182, 190, 192, 196, 208, 210, 216, 218] [fq (gn_pl hj1 0), fq (layInt.plS y3), ⟨.sl (.row 0 1) want8.length (rows inC want8), .sl (.row 0 1) want8.length (rows inC want8), (.under (unSl rfl (under_plainL _ _ (layInt.plC want8))))⟩, fq (gn_pl hj1 1), fq (gn_pl hj1 2), fq (gn_pl hj1 3), fq (gn_pl hj1 4), fq (layAr.plS c.arts), fq (gn_pl hj1 5), fq (gn_pl hj1 6), fq (gn_pl hj1 7), fq (gn_pl hj1 8), fq (gn_pl hj1 9)] [fbp (arC e0) (layAr.pl e0), fbp (arC x5) (layAr.pl x5), fbp (coC c) (layCo.pl c)] 2 _ _ (runS 300 [pb (B := ltI ((i1 : Nat) : Int) ((x5.wh.length : Nat) : Int)) (b := false) (ltF hge)]) (by kernel_rfl) (hq ([(jn j1 0), (jn j1 1), (jn j1 2), (jn j1 3), (jn j1 4), (jn j1 5), (jn j1 6), (jn j1 7), (jn j1 8), (jn j1 9), (jn j1 10), (jn j1 11), (jn j1 12), (jn j1 13), (jn j1 14), (jn j1 15), (jn j1 16), (jn j1 17), (jn j1 18), (jn j1 19), (jn j1 20), (jn j1 21), .bool false, (jn j1 23), (jn j1 24), (jn j1 25), (jn j1 26), (jn j1 27), (jn j1 28), (jn j1 29), (jn j1 30), (jn j1 31), (jn j1 32), (jn j1 33), (jn j1 34), (jn j1 35), (jn j1 36)], [(gn j1 0), (gn j1 1), (gn j1 2), (gn j1 3), (gn j1 4), (gn j1 5), (gn j1 6), (gn j1 7), (gn j1 8), (gn j1 9)]) (plC (gn_pl hj1 0) (plC (gn_pl hj1 1) (plC (gn_pl hj1 2) (plC (gn_pl hj1 3) (plC (gn_pl hj1 4) (plC (gn_pl hj1 5) (plC (gn_pl hj1 6) (plC (gn_pl hj1 7) (plC (gn_pl hj1 8) (plC (gn_pl hj1 9) rfl)))))))))))
 clear h hres
 rintro i1 e1 need11 j1 r hj1 he1 hi1 h k
 refine WL_rnd ?_
 revert h
 show law10_CodexNeeds_L2  e0 i1 e1 need11 = some r → _
 unfold law10_CodexNeeds_L2
 let o6 : List (PC P G) := [pb (B := ltI ((i1 : Nat) : Int) ((x5.wh.length : Nat) : Int)) (b := true) (ltT hi1), pix (ix58 .lost he1)]
 refine cndI (fun hv => ?_) fun hv => ?_
 subst hv
 rintro ⟨⟩
 exact go_nx Hd.plainG [1, 2, 4, 8, 10, 13, 14, 17, 18, 20, 22, 32, 35, 36, 38, 40, 43, 50, 52, 62, 64, 66, 69, 70, 72, 74, 76, 78, 84, 86, 97, 101, 102, 104, 106, 113, 115, 120, 122, 127, 132, 134, 139, 140, 142, 144, 149, 150, 152, 154, 160, 162, 174, 180, 182, 190, 192, 196, 208, 210, 216, 218] [fq (gn_pl hj1 0), fq (layInt.plS y3), ⟨.sl (.row 0 1) want8.length (rows inC want8), .sl (.row 0 1) want8.length (rows inC want8), (.under (unSl rfl (under_plainL _ _ (layInt.plC want8))))⟩, fq (gn_pl hj1 1), fq (gn_pl hj1 2), fq (gn_pl hj1 3), fq (gn_pl hj1 4), fq (layAr.plS c.arts), fq (gn_pl hj1 5), fq (gn_pl hj1 6), fq (gn_pl hj1 7), fq (layEx.plS x5.wh), fq (layEx.plG e1)] [fbp (arC e0) (layAr.pl e0), fbp (arC x5) (layAr.pl x5), fbp (coC c) (layCo.pl c)] _ _ (runS 300 (o6 ++ [pinc i1 (by omega)])) (by kernel_rfl) (k ([(jn j1 0), (jn j1 1), (jn j1 2), (jn j1 3), (jn j1 4), (jn j1 5), (jn j1 6), (jn j1 7), (jn j1 8), (jn j1 9), (jn j1 10), (jn j1 11), (jn j1 12), (jn j1 13), (jn j1 14), (jn j1 15), (jn j1 16), (jn j1 17), (jn j1 18), (jn j1 19), (jn j1 20), (jn j1 21), .bool true, .bool true, .bool true, undef, .bool true, (jn j1 27), (jn j1 28), (jn j1 29), (jn j1 30), (jn j1 31), (jn j1 32), (jn j1 33), (jn j1 34), (jn j1 35), (jn j1 36)], [(gn j1 0), (gn j1 1), (gn j1 2), (gn j1 3), (gn j1 4), (gn j1 5), (gn j1 6), (gn j1 7), .agg (exC e1), .sc undef]) (plC (gn_pl hj1 0) (plC (gn_pl hj1 1) (plC (gn_pl hj1 2) (plC (gn_pl hj1 3) (plC (gn_pl hj1 4) (plC (gn_pl hj1 5) (plC (gn_pl hj1 6) (plC (gn_pl hj1 7) (plC (layEx.plG e1) (plC rfl rfl)))))))))))
 subst hv
 refine bndI fun y13 hy13 => ?_
 rintro ⟨⟩
 exact go_nx Hd.plainG [1, 2, 4, 8, 10, 13, 14, 17, 18, 20, 22, 32, 35, 36, 38, 40, 43, 50, 52, 62, 64, 66, 69, 70, 72, 74, 76, 78, 84, 86, 97, 101, 102, 104, 106, 113, 115, 120, 122, 127, 132, 134, 139, 140, 142, 144, 149, 150, 152, 155, 160, 162, 174, 180, 182, 190, 192, 196, 208, 210, 216, 218] [fq (gn_pl hj1 0), fq (layInt.plS y3), ⟨.sl (.row 0 1) want8.length (rows inC want8), .sl (.row 0 1) want8.length (rows inC want8), (.under (unSl rfl (under_plainL _ _ (layInt.plC want8))))⟩, fq (gn_pl hj1 1), fq (gn_pl hj1 2), fq (gn_pl hj1 3), fq (gn_pl hj1 4), fq (layAr.plS c.arts), fq (gn_pl hj1 5), fq (gn_pl hj1 6), fq (gn_pl hj1 7), fq (layEx.plS x5.wh), fq (layEx.plG e1), fq (layEx.plG e1)] [fbp (arC e0) (layAr.pl e0), fbp (arC x5) (layAr.pl x5), fbp (coC c) (layCo.pl c)] _ _ (runS 300 (o6 ++ [pcall (law10_mentioned_ok e1 e0.number y13 hy13), pinc i1 (by omega)])) (by kernel_rfl) (k ([(jn j1 0), (jn j1 1), (jn j1 2), (jn j1 3), (jn j1 4), (jn j1 5), (jn j1 6), (jn j1 7), (jn j1 8), (jn j1 9), (jn j1 10), (jn j1 11), (jn j1 12), (jn j1 13), (jn j1 14), (jn j1 15), (jn j1 16), (jn j1 17), (jn j1 18), (jn j1 19), (jn j1 20), (jn j1 21), .bool true, .bool false, .bool false, .bool y13, .bool y13, (jn j1 27), (jn j1 28), (jn j1 29), (jn j1 30), (jn j1 31), (jn j1 32), (jn j1 33), (jn j1 34), (jn j1 35), (jn j1 36)], [(gn j1 0), (gn j1 1), (gn j1 2), (gn j1 3), (gn j1 4), (gn j1 5), (gn j1 6), (gn j1 7), .agg (exC e1), .agg (exC e1)]) (plC (gn_pl hj1 0) (plC (gn_pl hj1 1) (plC (gn_pl hj1 2) (plC (gn_pl hj1 3) (plC (gn_pl hj1 4) (plC (gn_pl hj1 5) (plC (gn_pl hj1 6) (plC (gn_pl hj1 7) (plC (layEx.plG e1) (plC (layEx.plG e1) rfl)))))))))))
 rintro need11_17 rfl jx_17 hjx_17
 revert h
 clear hres
 dsimp only [lpK]
 refine bndI fun res hres h => ?_
 have hlen := (limE hres).1
 replace hres := (limE hres).2
 refine go_at [] [0, 1, 2, 4, 5, 6, 7, 8, 9, 10, 11, 16, 17, 18, 19, 20, 21, 25, 26, 31, 32, 33, 34, 35, 36, 37, 38, 39, 42, 43, 48, 50, 51, 52, 53, 56, 57, 60, 61, 63, 66, 67, 72, 74, 75, 76, 77, 80, 81, 84, 85, 86, 87, 90, 91, 95, 96, 98, 104, 105, 108, 109] 4 (sub B7 [1, 1, 1, 1, 1, 1, 1, 0, 1, 0, 0, 1, 1, 0, 0, 1, 1, 1, 0, 1, 0, 0]) [.code (sub B7 [1, 1, 1, 1, 1, 1, 1, 0, 1, 0, 0, 1, 1, 0, 0, 1, 1, 1, 1]), .endb 1, .code (sub B7 [1, 1, 1, 1, 1, 1, 1, 0, 1, 0, 0, 1, 1, 1])] _ _ (runX 300 []) (by kernel_rfl) (foldP (fn := Tryz.f7) (m := 0) (fun v => .sc (.bool v)) 4 x5.un (fun i2 (need11 : Bool) (j2 : JJ) => frm 110 0 [(1, .sc (.int .i64 version)), (2, .ptr 0 0), (5, .sc (.bool y1)), (6, .sl .lost y3.length (rows inC y3)), (7, .ptr 1 0), (8, .sl (.row 0 1) want8.length (rows inC want8)), (9, .sc (.int .i64 ((i0 : Nat) : Int))), (10, .ptr 2 0), (11, .sc (.bool need11)), (50, .sl .lost c.arts.length (rows arC c.arts)), (51, .sc (.int .i64 ((c.arts.length : Nat) : Int))), (52, .sc (.int .i64 ((i0 : Nat) : Int))), (84, .sl .lost x5.un.length (rows inC x5.un)), (85, .sc (.int .i64 ((x5.un.length : Nat) : Int))), (86, .sc (.int .i64 ((i2 : Nat) : Int)))] [4, 16, 18, 19, 20, 25, 26, 31, 32, 33, 35, 36, 37, 38, 39, 42, 43, 53, 60, 61, 66, 67, 72, 75, 76, 80, 81, 87, 90, 91, 95, 96, 98, 104, 105, 108, 109] 0 [0, 17, 21, 34, 48, 56, 57, 63, 74, 77] 0 j2) (fun (_ : Nat) (need11 : Bool) (_ : JJ) => ⟨[(2, .cells (arC e0)), (1, .cells (arC x5)), (0, .cells (coC c))], 3, [(0, want8.length)], 1⟩) (fun (j : JJ) => plainL j.2 = true) (fun (need11 : Bool) (jx : JJ) => frm 110 0 [(1, .sc (.int .i64 version)), (2, .ptr 0 0), (5, .sc (.bool y1)), (6, .sl .lost y3.length (rows inC y3)), (7, .ptr 1 0), (8, .sl (.row 0 1) want8.length (rows inC want8)), (9, .sc (.int .i64 ((i0 : Nat) : Int))), (11, .sc (.bool need11)), (50, .sl .lost c.arts.length (rows arC c.arts)), (51, .sc (.int .i64 ((c.arts.length : Nat) : Int))), (52, .sc (.int .i64 ((i0 : Nat) : Int)))] [4, 16, 18, 19, 20, 25, 26, 31, 32, 33, 35, 36, 37, 38, 39, 42, 43, 53, 60, 61, 66, 67, 72, 75, 76, 80, 81, 87, 90, 91, 95, 96, 98, 104, 105, 108, 109] 0 [0, 17, 21, 34, 48, 56, 57, 63, 74, 77] 0 jx) (fun (need11 : Bool) (_ : JJ) => ⟨[(2, .cells (arC e0)), (1, .cells (arC x5)), (0, .cells (coC c))], 3, [(0, want8.length)], 1⟩) (fun (j : JJ) => plainL j.2 = true) ?_ ?_ 0 hres ?_ ?_ ([(jn jx_17 0), (jn jx_17 1), (jn jx_17 2), (jn jx_17 3), (jn jx_17 4), (jn jx_17 5), (jn jx_17 6), (jn jx_17 7), (jn jx_17 8), (jn jx_17 9), (jn jx_17 10), (jn jx_17 11), (jn jx_17 12), (jn jx_17 13), (jn jx_17 14), (jn jx_17 15), (jn jx_17 16), (jn jx_17 17), (jn jx_17 18), (jn jx_17 19), (jn jx_17 20), (jn jx_17 21), (jn jx_17 22), (jn jx_17 23), (jn jx_17 24), (jn jx_17 25), (jn jx_17 26), (jn jx_17 27), (jn jx_17 28), (jn jx_17 29), (jn jx_17 30), (jn jx_17 31), (jn jx_17 32), (jn jx_17 33), (jn jx_17 34), (jn jx_17 35), (jn jx_17 36)], [(gn jx_17 0), (gn jx_17 1), (gn jx_17 2), (gn jx_17 3), (gn jx_17 4), (gn jx_17 5), (gn jx_17 6), (gn jx_17 7), (gn jx_17 8), (gn jx_17 9)]) (plC (gn_pl hjx_17 0) (plC (gn_pl hjx_17 1) (plC (gn_pl hjx_17 2) (plC (gn_pl hjx_17 3) (plC (gn_pl hjx_17 4) (plC (gn_pl hjx_17 5) (plC (gn_pl hjx_17 6) (plC (gn_pl hjx_17 7) (plC (gn_pl hjx_17 8) (plC (gn_pl hjx_17 9) rfl)))))))))))
 rintro i2 need11 j2 hj2 hge hq
 clear h hres
 refine WL_rnd ?_
 exact go_ex Hd.plainG [1, 2, 4, 8, 10, 13, 14, 17, 18, 22, 32, 35, 36, 38, 40, 43, 50, 52, 62, 64, 66, 69, 70, 72, 74, 76, 78, 84, 86, 97, 101, 102, 104, 106, 113, 115, 120, 122, 127, 132, 134, 144, 149, 150, 152, 155, 160, 162, 174, 180, 182, 190, 192, 196, 208, 210, 216, 218] [fq (gn_pl hj2 0), fq (layInt.plS y3), ⟨.sl (.row 0 1) want8.length (rows inC want8), .sl (.row 0 1) want8.length (rows inC want8), (.under (unSl rfl (under_plainL _ _ (layInt.plC want8))))⟩, fq (gn_pl hj2 1), fq (gn_pl hj2 2), fq (gn_pl hj2 3), fq (gn_pl hj2 4), fq (layAr.plS c.arts), fq (gn_pl hj2 5), fq (gn_pl hj2 6), fq (gn_pl hj2 7), fq (gn_pl hj2 8), fq (gn_pl hj2 9)] [fbp (arC e0) (layAr.pl e0), fbp (arC x5) (layAr.pl x5), fbp (coC c) (layCo.pl c)] 4 _ _ (runS 300 [pb (B := ltI ((i2 : Nat) : Int) ((x5.un.length : Nat) : Int)) (b := false) (ltF hge)]) (by kernel_rfl) (hq ([(jn j2 0), (jn j2 1), (jn j2 2), (jn j2 3), (jn j2 4), (jn j2 5), (jn j2 6), (jn j2 7), (jn j2 8), (jn j2 9), (jn j2 10), (jn j2 11), (jn j2 12), (jn j2 13), (jn j2 14), (jn j2 15), (jn j2 16), (jn j2 17), (jn j2 18), (jn j2 19), (jn j2 20), (jn j2 21), (jn j2 22), (jn j2 23), (jn j2 24), (jn j2 25), (jn j2 26), .bool false, (jn j2 28), (jn j2 29), (jn j2 30), (jn j2 31), (jn j2 32), (jn j2 33), (jn j2 34), (jn j2 35), (jn j2 36)], [(gn j2 0), (gn j2 1), (gn j2 2), (gn j2 3), (gn j2 4), (gn j2 5), (gn j2 6), (gn j2 7), (gn j2 8), (gn j2 9)]) (plC (gn_pl hj2 0) (plC (gn_pl hj2 1) (plC (gn_pl hj2 2) (plC (gn_pl hj2 3) (plC (gn_pl hj2 4) (plC (gn_pl hj2 5) (plC (gn_pl hj2 6) (plC (gn_pl hj2 7) (plC (gn_pl hj2 8) (plC (gn_pl hj2 9) rfl)))))))))))
 clear h hres
 rintro i2 e2 need11 j2 r hj2 he2 hi2 h k
 refine WL_rnd ?_
 revert h
 show law10_CodexNeeds_L3  e0 i2 e2 need11 = some r → _
 unfold law10_CodexNeeds_L3
 let o7 : List (PC P G) := [pb (B := ltI ((i2 : Nat) : Int) ((x5.un.length : Nat) : Int)) (b := true) (ltT hi2), pix (ix40 .lost he2)]
 refine cndI (fun hv => ?_) fun hv => ?_
 subst hv
 rintro ⟨⟩
 exact go_nx Hd.plainG [1, 2, 4, 8, 10, 13, 14, 17, 18, 20, 22, 32, 35, 36, 38, 40, 43, 50, 52, 62, 64, 66, 69, 70, 72, 74, 76, 78, 84, 86, 97, 101, 102, 104, 106, 113, 115, 120, 122, 127, 132, 134, 144, 149, 150, 152, 155, 160, 162, 169, 170, 172, 174, 180, 182, 190, 192, 196, 208, 210, 216, 218] [fq (gn_pl hj2 0), fq (layInt.plS y3), ⟨.sl (.row 0 1) want8.length (rows inC want8), .sl (.row 0 1) want8.length (rows inC want8), (.under (unSl rfl (under_plainL _ _ (layInt.plC want8))))⟩, fq (gn_pl hj2 1), fq (gn_pl hj2 2), fq (gn_pl hj2 3), fq (gn_pl hj2 4), fq (layAr.plS c.arts), fq (gn_pl hj2 5), fq (gn_pl hj2 6), fq (gn_pl hj2 7), fq (gn_pl hj2 8), fq (gn_pl hj2 9), fq (layInt.plS x5.un)] [fbp (arC e0) (layAr.pl e0), fbp (arC x5) (layAr.pl x5), fbp (coC c) (layCo.pl c)] _ _ (runS 300 (o7 ++ [pinc i2 (by omega)])) (by kernel_rfl) (k ([(jn j2 0), (jn j2 1), (jn j2 2), (jn j2 3), (jn j2 4), (jn j2 5), (jn j2 6), (jn j2 7), (jn j2 8), (jn j2 9), (jn j2 10), (jn j2 11), (jn j2 12), (jn j2 13), (jn j2 14), (jn j2 15), (jn j2 16), (jn j2 17), (jn j2 18), (jn j2 19), (jn j2 20), (jn j2 21), (jn j2 22), (jn j2 23), (jn j2 24), (jn j2 25), (jn j2 26), .bool true, .bool true, .bool true, undef, .bool true, (jn j2 32), (jn j2 33), (jn j2 34), (jn j2 35), (jn j2 36)], [(gn j2 0), (gn j2 1), (gn j2 2), (gn j2 3), (gn j2 4), (gn j2 5), (gn j2 6), (gn j2 7), (gn j2 8), (gn j2 9)]) (plC (gn_pl hj2 0) (plC (gn_pl hj2 1) (plC (gn_pl hj2 2) (plC (gn_pl hj2 3) (plC (gn_pl hj2 4) (plC (gn_pl hj2 5) (plC (gn_pl hj2 6) (plC (gn_pl hj2 7) (plC (gn_pl hj2 8) (plC (gn_pl hj2 9) rfl)))))))))))
 subst hv
 refine cndI (fun hb7 => ?_) fun hb7 => ?_
 rintro ⟨⟩
 exact go_nx Hd.plainG [1, 2, 4, 8, 10, 13, 14, 17, 18, 20, 22, 32, 35, 36, 38, 40, 43, 50, 52, 62, 64, 66, 69, 70, 72, 74, 76, 78, 84, 86, 97, 101, 102, 104, 106, 113, 115, 120, 122, 127, 132, 134, 144, 149, 150, 152, 155, 160, 162, 169, 170, 172, 174, 180, 182, 190, 192, 196, 208, 210, 216, 218] [fq (gn_pl hj2 0), fq (layInt.plS y3), ⟨.sl (.row 0 1) want8.length (rows inC want8), .sl (.row 0 1) want8.length (rows inC want8), (.under (unSl rfl (under_plainL _ _ (layInt.plC want8))))⟩, fq (gn_pl hj2 1), fq (gn_pl hj2 2), fq (gn_pl hj2 3), fq (gn_pl hj2 4), fq (layAr.plS c.arts), fq (gn_pl hj2 5), fq (gn_pl hj2 6), fq (gn_pl hj2 7), fq (gn_pl hj2 8), fq (gn_pl hj2 9), fq (layInt.plS x5.un)] [fbp (arC e0) (layAr.pl e0), fbp (arC x5) (layAr.pl x5), fbp (coC c) (layCo.pl c)] _ _ (runS 300 (o7 ++ [pb hb7, pinc i2 (by omega)])) (by kernel_rfl) (k ([(jn j2 0), (jn j2 1), (jn j2 2), (jn j2 3), (jn j2 4), (jn j2 5), (jn j2 6), (jn j2 7), (jn j2 8), (jn j2 9), (jn j2 10), (jn j2 11), (jn j2 12), (jn j2 13), (jn j2 14), (jn j2 15), (jn j2 16), (jn j2 17), (jn j2 18), (jn j2 19), (jn j2 20), (jn j2 21), (jn j2 22), (jn j2 23), (jn j2 24), (jn j2 25), (jn j2 26), .bool true, .bool false, .bool false, .bool true, .bool true, (jn j2 32), (jn j2 33), (jn j2 34), (jn j2 35), (jn j2 36)], [(gn j2 0), (gn j2 1), (gn j2 2), (gn j2 3), (gn j2 4), (gn j2 5), (gn j2 6), (gn j2 7), (gn j2 8), (gn j2 9)]) (plC (gn_pl hj2 0) (plC (gn_pl hj2 1) (plC (gn_pl hj2 2) (plC (gn_pl hj2 3) (plC (gn_pl hj2 4) (plC (gn_pl hj2 5) (plC (gn_pl hj2 6) (plC (gn_pl hj2 7) (plC (gn_pl hj2 8) (plC (gn_pl hj2 9) rfl)))))))))))
 rintro ⟨⟩
 exact go_nx Hd.plainG [1, 2, 4, 8, 10, 13, 14, 17, 18, 20, 22, 32, 35, 36, 38, 40, 43, 50, 52, 62, 64, 66, 69, 70, 72, 74, 76, 78, 84, 86, 97, 101, 102, 104, 106, 113, 115, 120, 122, 127, 132, 134, 144, 149, 150, 152, 155, 160, 162, 169, 170, 172, 174, 180, 182, 190, 192, 196, 208, 210, 216, 218] [fq (gn_pl hj2 0), fq (layInt.plS y3), ⟨.sl (.row 0 1) want8.length (rows inC want8), .sl (.row 0 1) want8.length (rows inC want8), (.under (unSl rfl (under_plainL _ _ (layInt.plC want8))))⟩, fq (gn_pl hj2 1), fq (gn_pl hj2 2), fq (gn_pl hj2 3), fq (gn_pl hj2 4), fq (layAr.plS c.arts), fq (gn_pl hj2 5), fq (gn_pl hj2 6), fq (gn_pl hj2 7), fq (gn_pl hj2 8), fq (gn_pl hj2 9), fq (layInt.plS x5.un)] [fbp (arC e0) (layAr.pl e0), fbp (arC x5) (layAr.pl x5), fbp (coC c) (layCo.pl c)] _ _ (runS 300 (o7 ++ [pb hb7, pinc i2 (by omega)])) (by kernel_rfl) (k ([(jn j2 0), (jn j2 1), (jn j2 2), (jn j2 3), (jn j2 4), (jn j2 5), (jn j2 6), (jn j2 7), (jn j2 8), (jn j2 9), (jn j2 10), (jn j2 11), (jn j2 12), (jn j2 13), (jn j2 14), (jn j2 15), (jn j2 16), (jn j2 17), (jn j2 18), (jn j2 19), (jn j2 20), (jn j2 21), (jn j2 22), (jn j2 23), (jn j2 24), (jn j2 25), (jn j2 26), .bool true, .bool false, .bool false, .bool false, .bool false, (jn j2 32), (jn j2 33), (jn j2 34), (jn j2 35), (jn j2 36)], [(gn j2 0), (gn j2 1), (gn j2 2), (gn j2 3), (gn j2 4), (gn j2 5), (gn j2 6), (gn j2 7), (gn j2 8), (gn j2 9)]) (plC (gn_pl hj2 0) (plC (gn_pl hj2 1) (plC (gn_pl hj2 2) (plC (gn_pl hj2 3) (plC (gn_pl hj2 4) (plC (gn_pl hj2 5) (plC (gn_pl hj2 6) (plC (gn_pl hj2 7) (plC (gn_pl hj2 8) (plC (gn_pl hj2 9) rfl)))))))))))
 rintro need11_18 rfl jx_18 hjx_18
 revert h
 clear hres
 dsimp only [lpK]
 refine cndI (fun hv => ?_) fun hv => ?_
 subst hv
 refine limAI fun hl19 => ?_
 rintro ⟨⟩
 exact go_nx Hd.plainG [1, 2, 4, 8, 10, 13, 14, 17, 22, 32, 35, 36, 38, 40, 43, 50, 52, 62, 64, 66, 69, 70, 72, 74, 76, 78, 84, 86, 97, 101, 102, 104, 106, 113, 115, 120, 122, 127, 132, 134, 144, 149, 150, 152, 155, 160, 162, 174, 180, 182, 190, 192, 196, 208, 210, 216, 218] [fq (gn_pl hjx_18 0), fq (layInt.plS y3), ⟨.sl (.row 0 1) ((want8 ++ [((i0 : Nat) : Int)]).length) (rows inC (want8 ++ [((i0 : Nat) : Int)])), .sl (.row 0 1) ((want8 ++ [((i0 : Nat) : Int)]).length) (rows inC (want8 ++ [((i0 : Nat) : Int)])), (.under (unSl rfl (under_plainL _ _ (layInt.plC (want8 ++ [((i0 : Nat) : Int)])))))⟩, fq (gn_pl hjx_18 1), fq (gn_pl hjx_18 2), fq (gn_pl hjx_18 3), fq (gn_pl hjx_18 4), fq (layAr.plS c.arts), fq (gn_pl hjx_18 5), fq (gn_pl hjx_18 6), fq (gn_pl hjx_18 7), fq (gn_pl hjx_18 8), fq (gn_pl hjx_18 9)] [fbp (arC x5) (layAr.pl x5), fbp (coC c) (layCo.pl c)] _ _ (runX 300 [pgro (gro40 (.row 0 1) want8 [((i0 : Nat) : Int)] (o := .full) (n := 1) (ns := [.sc (.int .i64 ((i0 : Nat) : Int))]) (layInt.wn [((i0 : Nat) : Int)] (.r .nil)) rfl rfl (by simp) (by simpa using hl19)), pinc i0 (by omega)]) (by kernel_rfl) (k ([(jn jx_18 0), .bool true, (jn jx_18 1), (jn jx_18 2), (jn jx_18 3), (jn jx_18 4), (jn jx_18 5), (jn jx_18 6), (jn jx_18 7), (jn jx_18 8), (jn jx_18 9), (jn jx_18 10), (jn jx_18 11), (jn jx_18 12), (jn jx_18 13), (jn jx_18 14), (jn jx_18 15), (jn jx_18 16), (jn jx_18 17), (jn jx_18 18), (jn jx_18 19), (jn jx_18 20), (jn jx_18 21), (jn jx_18 22), (jn jx_18 23), (jn jx_18 24), (jn jx_18 25), (jn jx_18 26), (jn jx_18 27), (jn jx_18 28), (jn jx_18 29), (jn jx_18 30), (jn jx_18 31), .bool true, (jn jx_18 33), (jn jx_18 34), (jn jx_18 35), (jn jx_18 36)], [(gn jx_18 0), (gn jx_18 1), (gn jx_18 2), (gn jx_18 3), (gn jx_18 4), (gn jx_18 5), (gn jx_18 6), (gn jx_18 7), (gn jx_18 8), (gn jx_18 9)]) (plC (gn_pl hjx_18 0) (plC (gn_pl hjx_18 1) (plC (gn_pl hjx_18 2) (plC (gn_pl hjx_18 3) (plC (gn_pl hjx_18 4) (plC (gn_pl hjx_18 5) (plC (gn_pl hjx_18 6) (plC (gn_pl hjx_18 7) (plC (gn_pl hjx_18 8) (plC (gn_pl hjx_18 9) rfl)))))))))))
 subst hv
 rintro ⟨⟩
 exact go_nx Hd.plainG [1, 2, 4, 8, 10, 13, 14, 17, 22, 32, 35, 36, 38, 40, 43, 50, 52, 62, 64, 66, 69, 70, 72, 74, 76, 78, 84, 86, 97, 101, 102, 104, 106, 113, 115, 120, 122, 127, 132, 134, 144, 149, 150, 152, 155, 160, 162, 174, 180, 182, 190, 192, 196, 208, 210, 216, 218] [fq (gn_pl hjx_18 0), fq (layInt.plS y3), ⟨.sl (.row 0 1) want8.length (rows inC want8), .sl (.row 0 1) want8.length (rows inC want8), (.under (unSl rfl (under_plainL _ _ (layInt.plC want8))))⟩, fq (gn_pl hjx_18 1), fq (gn_pl hjx_18 2), fq (gn_pl hjx_18 3), fq (gn_pl hjx_18 4), fq (layAr.plS c.arts), fq (gn_pl hjx_18 5), fq (gn_pl hjx_18 6), fq (gn_pl hjx_18 7), fq (gn_pl hjx_18 8), fq (gn_pl hjx_18 9)] [fbp (arC x5) (layAr.pl x5), fbp (coC c) (layCo.pl c)] _ _ (runX 300 [pinc i0 (by omega)]) (by kernel_rfl) (k ([(jn jx_18 0), .bool false, (jn jx_18 1), (jn jx_18 2), (jn jx_18 3), (jn jx_18 4), (jn jx_18 5), (jn jx_18 6), (jn jx_18 7), (jn jx_18 8), (jn jx_18 9), (jn jx_18 10), (jn jx_18 11), (jn jx_18 12), (jn jx_18 13), (jn jx_18 14), (jn jx_18 15), (jn jx_18 16), (jn jx_18 17), (jn jx_18 18), (jn jx_18 19), (jn jx_18 20), (jn jx_18 21), (jn jx_18 22), (jn jx_18 23), (jn jx_18 24), (jn jx_18 25), (jn jx_18 26), (jn jx_18 27), (jn jx_18 28), (jn jx_18 29), (jn jx_18 30), (jn jx_18 31), .bool false, (jn jx_18 33), (jn jx_18 34), (jn jx_18 35), (jn jx_18 36)], [(gn jx_18 0), (gn jx_18 1), (gn jx_18 2), (gn jx_18 3), (gn jx_18 4), (gn jx_18 5), (gn jx_18 6), (gn jx_18 7), (gn jx_18 8), (gn jx_18 9)]) (plC (gn_pl hjx_18 0) (plC (gn_pl hjx_18 1) (plC (gn_pl hjx_18 2) (plC (gn_pl hjx_18 3) (plC (gn_pl hjx_18 4) (plC (gn_pl hjx_18 5) (plC (gn_pl hjx_18 6) (plC (gn_pl hjx_18 7) (plC (gn_pl hjx_18 8) (plC (gn_pl hjx_18 9) rfl)))))))))))
 rintro v rfl
 dsimp only [lpK] at h
 cases h
 exact .outer (.rnd k)
 rintro v rfl
 dsimp only [lpK] at h
 cases h
 exact .outer (.rnd k)
 rintro want8_20 rfl jx_20 hjx_20
 revert h
 clear hres
 dsimp only [lpK]
 refine cndI (fun hv => ?_) fun hv => ?_
 subst hv
 refine bndI fun y21 hy21 => ?_
 intro h
 have hE := Option.some.inj h
 subst hE
 exact go_retA _ _ (runX 300 [pcallW (args := [.sl .lost y3.length (rows inC y3), .sl (.row 0 1) want8_20.length (rows inC want8_20)]) (.r (.s rfl .nil)) (ref10_SameInts_step y3 want8_20 y21 hy21)]) (by kernel_rfl) .body .sc
 subst hv
 intro h
 have hE := Option.some.inj h
 subst hE
 exact go_retA _ _ (runX 300 []) (by kernel_rfl) .body .sc
 rintro v rfl
 dsimp only [lpK] at h
 cases h
 exact .outer .body
 subst hv
 refine cndI (fun hv => ?_) fun hv => ?_
 subst hv
 let o8 : List (PC P G) := [pcall (law10_head_ok  true hy1), pcall (law10_small_step c true hy2), pcall (codex_Needs_step c version y3 hy3), pb hb1, pb hb3, pcall (ref10_Valid_step c false hy4)]
 refine cndI (fun hb5 => ?_) fun hb5 => ?_
 rintro ⟨⟩
 exact rS (runS 300 (o8 ++ [pb hb5])) (by kernel_rfl)
 rintro ⟨⟩
 exact rS (runS 300 (o8 ++ [pb hb5])) (by kernel_rfl)
 subst hv
 rintro ⟨⟩
 exact rS (runS 300 [pcall (law10_head_ok  false hy1), pcall (law10_small_step c true hy2), pcall (codex_Needs_step c version y3 hy3), pb hb1, pb hb3, pcall (ref10_Valid_step c false hy4)]) (by kernel_rfl)
 subst hv
 intro h
 have hE := Option.some.inj h
 subst hE
 exact rS (runS 300 [pcall (law10_head_ok  y1 hy1), pcall (law10_small_step c false hy2)]) (by kernel_rfl)
end Mo
end Go.Proofs.YtnijkdknnmgoeaaGreat
namespace Go.Proofs.YtnijkdknnmgoeaaGreat
open AI Go
namespace Mo
set_option maxRecDepth 100000
set_option maxHeartbeats 4000000
theorem list_eq_iff {α : Type} {l m : List α} : l = m ↔ l.length = m.length ∧ ∀ (i : Nat) x y, l[i]? = some x → m[i]? = some y → x = y := by
 constructor
 · intro h; subst h; exact ⟨rfl, fun i x y h1 h2 => by rw [h1] at h2; cases h2; rfl⟩
 · rintro ⟨h1, h2⟩
   apply List.ext_getElem h1
   intro i hi hj
   exact h2 i _ _ (List.getElem?_eq_getElem hi) (List.getElem?_eq_getElem hj)
theorem samePc_mb (x y : Pc) : samePc x y = mb (x = y) := by
 rw [Bool.eq_iff_iff, mb_true]
 obtain ⟨a, b, c⟩ := x
 obtain ⟨d, e, f⟩ := y
 simp [samePc]
theorem pieces_s (s t : List Pc) (hs : s.length ≤ 9223372036854775807) : api_Piece_B s t = some (mb (s = t)) := by
 rw [api_Piece_B, eqI_mb, c_mb]
 by_cases h : ((s.length : Nat) : Int) = ((t.length : Nat) : Int)
 · have h' : s.length = t.length := by omega
   rw [iff_T h, k_loop (v := false) (P := fun i x => ∀ y, t[i]? = some y → x = y) hs (fun i x hx => by
     have := (List.getElem?_eq_some_iff.1 hx).1
     obtain ⟨y, hy⟩ : ∃ y, t[i]? = some y := ⟨_, List.getElem?_eq_getElem (by omega)⟩
     simp only [api_Piece_L1, hy, Option.bind_some, samePc_mb, c_mb, k_nr]
     congr 2; apply propext
     exact ⟨fun e y' hy' => by cases hy'; exact e, fun e => e y rfl⟩), m_tf]
   refine smb ?_
   rw [list_eq_iff]
   exact ⟨fun h2 => ⟨h', fun i x y h3 h4 => h2 i x h3 y h4⟩, fun h2 i x h3 y h4 => h2.2 i x y h3 h4⟩
 · rw [iff_F h]
   exact smbF fun e => h (by rw [e])
theorem equal_m : ∀ m : Nat, (∀ a b : Ex, okE a → 2 * cnt a ≤ m → codex_equal_M m a b = some (mb (a = b))) ∧ (∀ l k : List Ex, okS l → l.length ≤ 9223372036854775807 → 2 * cntS l + 1 ≤ m → api_Exprxx_equal_M m l k = some (mb (l = k))) := by
 intro m
 induction m with
 | zero => exact ⟨fun a b _ h => by have := cnt_pos a; omega, fun l k _ _ h => by omega⟩
 | succ m ih =>
   refine ⟨fun a b ha h => ?_, fun l k hl hn h => ?_⟩
   · have hc := cnt_eq a
     obtain ⟨hp, hk, hks⟩ := (okE_iff a).1 ha
     rw [codex_equal_M, codex_equal_B, pieces_s _ _ hp, ih.2 a.kids b.kids (okS_iff.2 hks) hk (by omega)]
     simp only [eqI_mb, eqB_mb, c_mb, Option.bind_some, m_qf]
     refine smb ?_
     obtain ⟨o, n, u, ⟨d, p⟩, q⟩ := a
     obtain ⟨o', n', u', ⟨d', p'⟩, q'⟩ := b
     simp [and_assoc]
   · rw [api_Exprxx_equal_M, api_Exprxx_equal_B, eqI_mb, c_mb]
     by_cases h1 : ((l.length : Nat) : Int) = ((k.length : Nat) : Int)
     · have h' : l.length = k.length := by omega
       rw [iff_T h1, k_loop (v := false) (P := fun i x => ∀ y, k[i]? = some y → x = y) hn (fun i x hx => by
         have := (List.getElem?_eq_some_iff.1 hx).1
         have hm := List.mem_of_getElem? hx
         have h3 := cntS_mem hm
         obtain ⟨y, hy⟩ : ∃ y, k[i]? = some y := ⟨_, List.getElem?_eq_getElem (by omega)⟩
         simp only [api_Exprxx_equal_L1, hy, Option.bind_some, ih.1 x y (okS_iff.1 hl x hm) (by omega), c_mb, k_nr]
         congr 2; apply propext
         exact ⟨fun e y' hy' => by cases hy'; exact e, fun e => e y rfl⟩), m_tf]
       refine smb ?_
       rw [list_eq_iff]
       exact ⟨fun h2 => ⟨h', fun i x y h3 h4 => h2 i x h3 y h4⟩, fun h2 i x h3 y h4 => h2.2 i x y h3 h4⟩
     · rw [iff_F h1]
       exact smbF fun e => h1 (by rw [e])
theorem equal_s (a b : Ex) (ha : okE a) : codex_equal_R a b = some (mb (a = b)) := evt_of (2 * cnt a) fun m hm => (equal_m m).1 a b ha hm
theorem all_s (l k : List Ex) (hl : l.length ≤ 9223372036854775807) (hk : k.length ≤ 9223372036854775807) (hle : ∀ e ∈ l, okE e) : api_Expr_equal_B l k = some (mb (∀ e ∈ k, e ∈ l)) := by
 rw [api_Expr_equal_B, k_loop (v := false) (P := fun _ e => e ∈ l) hk (fun i e _ => by
   have h1 : api_Exprxxx_1_equal_B l e = some (fst (fun x => x = e) l 0) := by
     rw [api_Exprxxx_1_equal_B]
     exact fst_loop (β := Unit) hl (fun i x hx => by
       simp only [api_Exprxxx_1_equal_L1, api_Expr_1_equal_B, equal_s x e (hle x (List.mem_of_getElem? hx)), Option.bind_some, c_mb]
       unfold iff_; split <;> rfl) rfl (fun _ => rfl)
   simp only [api_Expr_equal_L1, api_Exprx_1_equal_B, h1, Option.bind_some, leI_mb, c_mb, m_tf, k_nr]
   congr 2; apply propext
   rcases fst_at (p := fun x => x = e) l 0 with ⟨h2, h3⟩ | ⟨k, y, h2, h3, h4, _⟩
   · rw [h2]; exact ⟨fun h => by omega, fun h => absurd rfl (h3 e h)⟩
   · rw [h2]; exact ⟨fun _ => h4 ▸ List.mem_of_getElem? h3, fun _ => by omega⟩), m_tf, mem_at]
def beat (x y : Ar) : Prop := x.line = y.line ∧ x.number ≠ y.number ∧ (y.rank < x.rank ∨ (x.rank = y.rank ∧
 (((∀ e ∈ y.wh, e ∈ x.wh) ∧ ¬ (∀ e ∈ x.wh, e ∈ y.wh)) ∨ (((∀ e ∈ y.wh, e ∈ x.wh) ↔ (∀ e ∈ x.wh, e ∈ y.wh)) ∧ y.known < x.known))))
def beats (c : Co) (i j : Int) : Prop := ∃ x y, geti c.arts i = some x ∧ geti c.arts j = some y ∧ beat x y
theorem geti_out {α : Type} {l : List α} {z : Int} (h : ¬ (0 ≤ z ∧ z < ((l.length : Nat) : Int))) : geti l z = none := by
 cases hq : geti l z with
 | none => rfl
 | some x => exact absurd (geti_lt hq).1 h
theorem beats_s (c : Co) (hc : okC c) (i j : Int) : codex_Beats_B c i j = some (mb (beats c i j)) := by
 rw [codex_Beats_B]
 simp only [ltI_mb, leI_mb, c_mb]
 unfold beats
 by_cases h1 : i < 0
 · rw [iff_T h1]; exact smbF fun ⟨x, y, h, _⟩ => by rw [geti_out (by omega)] at h; cases h
 by_cases h2 : j < 0
 · rw [iff_F h1, iff_T h2]; exact smbF fun ⟨x, y, _, h, _⟩ => by rw [geti_out (by omega)] at h; cases h
 by_cases h3 : ((c.arts.length : Nat) : Int) ≤ i
 · rw [iff_F h1, iff_F h2, iff_T h3]; exact smbF fun ⟨x, y, h, _⟩ => by rw [geti_out (by omega)] at h; cases h
 by_cases h4 : ((c.arts.length : Nat) : Int) ≤ j
 · rw [iff_F h1, iff_F h2, iff_F h3, iff_T h4]; exact smbF fun ⟨x, y, _, h, _⟩ => by rw [geti_out (by omega)] at h; cases h
 rw [iff_F h1, iff_F h2, iff_F h3, iff_F h4]
 obtain ⟨x, hx, hxm⟩ := geti_in (l := c.arts) (z := i) (by omega) (by omega)
 obtain ⟨y, hy, hym⟩ := geti_in (l := c.arts) (z := j) (by omega) (by omega)
 obtain ⟨hxw, _, hxe, _⟩ := hc.2.2.2 x (List.mem_of_getElem? hxm)
 obtain ⟨hyw, _, hye, _⟩ := hc.2.2.2 y (List.mem_of_getElem? hym)
 rw [hx, hy]
 simp only [Option.bind_some, all_s _ _ hxw hyw hxe, all_s _ _ hyw hxw hye, eqI_mb, c_mb, m_tf, m_qf, m_qt, m_fq, m_tq, m_qr]
 refine smb ?_
 rw [show (∃ x_1 y_1, some x = some x_1 ∧ some y = some y_1 ∧ beat x_1 y_1) ↔ beat x y from ⟨fun ⟨a, b, h1, h2, h3⟩ => by cases h1; cases h2; exact h3, fun h => ⟨x, y, rfl, rfl, h⟩⟩]
 unfold beat
 generalize (∀ e ∈ y.wh, e ∈ x.wh) = A
 generalize (∀ e ∈ x.wh, e ∈ y.wh) = B
 grind
mutual
def men (z : Int) : Ex → Prop
 | ⟨op, n, _, _, ks⟩ => (op = 3 ∧ n = z) ∨ menS z ks
def menS (z : Int) : List Ex → Prop
 | [] => False
 | k :: ks => men z k ∨ menS z ks
end
theorem menS_iff {z : Int} {l : List Ex} : menS z l ↔ ∃ k ∈ l, men z k := by
 induction l with
 | nil => simp [menS]
 | cons k l ih => simp [menS, ih]
theorem men_iff (z : Int) (e : Ex) : men z e ↔ (e.op = 3 ∧ e.n = z) ∨ ∃ k ∈ e.kids, men z k := by
 cases e; rw [men, menS_iff]
theorem ment_eq : ∀ (m m' : Nat) (e : Ex) (M : Mm Int Bool), cnt e ≤ m → cnt e ≤ m' → codex_mentioned_M m e M = codex_mentioned_M m' e M := by
 intro m
 induction m with
 | zero => intro m' e _ h; have := cnt_pos e; omega
 | succ m ih =>
   intro m' e M h1 h2
   cases m' with
   | zero => have := cnt_pos e; omega
   | succ m' =>
     have hb : ∀ x0, foldL (fun i y x => codex_mentioned_L1 (codex_mentioned_M m) i y x) (fun x => x) (e.kids.drop 0) 0 x0 = foldL (fun i y x => codex_mentioned_L1 (codex_mentioned_M m') i y x) (fun x => x) (e.kids.drop 0) 0 x0 := fun x0 => loop_congr (fun i y x hy => by
       have := cnt_kid (List.mem_of_getElem? hy)
       simp only [codex_mentioned_L1]
       rw [ih m' y _ (by omega) (by omega)])
     rw [codex_mentioned_M, codex_mentioned_M, codex_mentioned_B, codex_mentioned_B, hb, hb]
def has (M : Mm Int Bool) (z : Int) : Prop := (M.get z).getD false = true
theorem has_set (M : Mm Int Bool) (k z : Int) : has (M.set k true) z ↔ has M z ∨ z = k := by
 unfold has
 rw [Mm.get_set]
 by_cases h : z = k
 · rw [if_pos h]; simp [h]
 · rw [if_neg h]; simp [h]
theorem ment_m : ∀ (m : Nat) (e : Ex) (M : Mm Int Bool), okE e → cnt e ≤ m → Sp (codex_mentioned_M m e M) (fun r => ∀ z, has r.2 z ↔ has M z ∨ men z e) := by
 intro m
 induction m with
 | zero => intro e _ _ h; have := cnt_pos e; omega
 | succ m ih =>
   intro e M hok hm
   obtain ⟨_, hk, hks⟩ := (okE_iff e).1 hok
   have lp : ∀ (M0 : Mm Int Bool) (k : Mm Int Bool → Option (Unit × Mm Int Bool)), (∀ M1, k M1 = some ((), M1)) → Sp ((lim e.kids.length (foldL (fun i y x => codex_mentioned_L1 (codex_mentioned_M m) i y x) (fun x => x) (e.kids.drop 0) 0 M0)).bind (lpK k (fun v => some v))) (fun r => ∀ z, has r.2 z ↔ has M0 z ∨ ∃ k ∈ e.kids, men z k) := fun M0 k hkk => by
     refine Sp_loop (fun i x => ∀ z, has x z ↔ has M0 z ∨ ∃ (j : Nat) (k : Ex), j < i ∧ e.kids[j]? = some k ∧ men z k) hk (fun z => by simp) (fun i y x hy hI => ?_) (fun x hI => ?_)
     · have hmem := List.mem_of_getElem? hy
       have := cnt_kid hmem
       simp only [codex_mentioned_L1, Sp_bind]
       refine (ih y x (hks y hmem) (by omega)).mono fun r hr => ?_
       obtain ⟨r1, r2⟩ := r
       simp only [Sp_some, RQ_nx] at hr ⊢
       intro z
       rw [hr z, hI z]
       constructor
       · rintro ((h | ⟨j, k, hj, hk1, hk2⟩) | h)
         · exact .inl h
         · exact .inr ⟨j, k, by omega, hk1, hk2⟩
         · exact .inr ⟨i, y, by omega, hy, h⟩
       · rintro (h | ⟨j, k, hj, hk1, hk2⟩)
         · exact .inl (.inl h)
         · rcases Nat.lt_or_ge j i with h9 | h9
           · exact .inl (.inr ⟨j, k, h9, hk1, hk2⟩)
           · have : j = i := by omega
             subst this; rw [hy] at hk1; cases hk1; exact .inr hk2
     · rw [hkk, Sp_some]
       intro z
       rw [hI z]
       constructor
       · rintro (h | ⟨j, k, _, h1, h2⟩)
         · exact .inl h
         · exact .inr ⟨k, List.mem_of_getElem? h1, h2⟩
       · rintro (h | ⟨k, h1, h2⟩)
         · exact .inl h
         · obtain ⟨i, hi⟩ := List.getElem?_of_mem h1
           exact .inr ⟨i, k, (List.getElem?_eq_some_iff.1 hi).1, hi, h2⟩
   rw [codex_mentioned_M, codex_mentioned_B, eqI_mb, c_mb, Sp_iff]
   refine ⟨fun h => (lp _ _ (fun _ => rfl)).mono fun r hr z => ?_, fun h => (lp _ _ (fun _ => rfl)).mono fun r hr z => ?_⟩
   · rw [hr z, has_set, men_iff]
     grind
   · rw [hr z, men_iff]
     grind
theorem ment_s (e : Ex) (M : Mm Int Bool) (h : okE e) : Sp (codex_mentioned_R e M) (fun r => ∀ z, has r.2 z ↔ has M z ∨ men z e) := by
 obtain ⟨r, h1, h2⟩ := ment_m (cnt e) e M h (Nat.le_refl _)
 exact ⟨r, evt_of (cnt e) fun n hn => by rw [ment_eq n (cnt e) e M hn (Nat.le_refl _), h1], h2⟩
theorem lment_m (z : Int) : ∀ (m : Nat) (e : Ex), okE e → cnt e ≤ m → law10_mentioned_M m e z = some (mb (men z e)) := by
 intro m
 induction m with
 | zero => intro e _ h; have := cnt_pos e; omega
 | succ m ih =>
   intro e hok hm
   obtain ⟨_, hk, hks⟩ := (okE_iff e).1 hok
   rw [law10_mentioned_M, law10_mentioned_B, k_loop (v := true) (P := fun _ k => ¬ men z k) hk (fun i y hy => by
     have hmem := List.mem_of_getElem? hy
     have := cnt_kid hmem
     simp only [law10_mentioned_L1, ih y (hks y hmem) (by omega), Option.bind_some, c_mb, k_rn]), mem_at]
   simp only [eqI_mb, c_mb, m_tf, m_qf, m_qt]
   refine smb ?_
   rw [men_iff]
   grind
theorem lment_s (e : Ex) (z : Int) (h : okE e) : law10_mentioned_R e z = some (mb (men z e)) := evt_of (cnt e) fun n hn => lment_m z n e h hn
end Mo
end Go.Proofs.YtnijkdknnmgoeaaGreat
namespace Go.Proofs.YtnijkdknnmgoeaaGreat
open AI Go
namespace Mo
set_option maxRecDepth 100000
set_option maxHeartbeats 4000000
noncomputable def sel {α : Type} (p : Nat → α → Prop) : List α → Nat → List Int
 | [], _ => []
 | y :: l, i => open Classical in if p i y then ((i : Nat) : Int) :: sel p l (i + 1) else sel p l (i + 1)
theorem sel_app {α : Type} (p : Nat → α → Prop) : ∀ (l m : List α) (i : Nat), sel p (l ++ m) i = sel p l i ++ sel p m (i + l.length)
 | [], m, i => rfl
 | y :: l, m, i => by
   rw [List.cons_append, sel, sel, sel_app p l m (i + 1), show i + 1 + l.length = i + (y :: l).length by simp only [List.length_cons]; omega]
   by_cases h : p i y
   · rw [if_pos h, if_pos h]; rfl
   · rw [if_neg h, if_neg h]
theorem sel_step {α : Type} {p : Nat → α → Prop} {l : List α} {i : Nat} {y : α} (h : l[i]? = some y) : (p i y → sel p (l.take (i + 1)) 0 = sel p (l.take i) 0 ++ [((i : Nat) : Int)]) ∧ (¬ p i y → sel p (l.take (i + 1)) 0 = sel p (l.take i) 0) := by
 have hi := (List.getElem?_eq_some_iff.1 h).1
 have h1 : (l.take i).length = i := by rw [List.length_take]; omega
 rw [List.take_add_one, h, sel_app, h1, Nat.zero_add]
 simp only [Option.toList_some, sel]
 exact ⟨fun hp => by rw [if_pos hp], fun hp => by rw [if_neg hp, List.append_nil]⟩
theorem sel_len {α : Type} (p : Nat → α → Prop) : ∀ (l : List α) (i : Nat), (sel p l i).length ≤ l.length
 | [], _ => Nat.le_refl _
 | y :: l, i => by
   have := sel_len p l (i + 1)
   rw [sel]
   by_cases h : p i y
   · rw [if_pos h]; simp only [List.length_cons]; omega
   · rw [if_neg h]; simp only [List.length_cons]; omega
def names (a : Ar) (z : Int) : Prop := (z ∈ a.un ∨ ∃ e ∈ a.wh, men z e) ∨ men z a.am
def needP (c : Co) (v : Int) (a : Ar) (i : Nat) (b : Ar) : Prop := names a b.number ∨ beats c ((i : Nat) : Int) v
theorem needs_s (c : Co) (hc : okC c) (hn : c.arts.length ≤ 1000000) (v : Int) (a : Ar) (hv : geti c.arts v = some a) : codex_needs_B c v = some (sel (needP c v a) c.arts 0) := by
 obtain ⟨hf, hl, ha, hao⟩ := hc
 obtain ⟨hw, hu, hwe, hae⟩ := hao a (List.mem_of_getElem? (geti_lt hv).2)
 rw [codex_needs_B, hv, Option.bind_some, Sp_eq]
 refine Sp_loop (fun i m => ∀ z, has m z ↔ ∃ (j : Nat) (y : Int), j < i ∧ a.un[j]? = some y ∧ z = y) hu (fun z => by simp [has, Mm.get_nil]) (fun i y m hy hI => ?_) (fun m hI => ?_)
 · simp only [codex_needs_L1, Sp_some, RQ_nx]
   intro z
   rw [has_set, hI z]
   constructor
   · rintro (⟨j, k, hj, hk, h⟩ | h)
     · exact ⟨j, k, by omega, hk, h⟩
     · exact ⟨i, y, by omega, hy, h⟩
   · rintro ⟨j, k, hj, hk, h⟩
     rcases Nat.lt_or_ge j i with h9 | h9
     · exact .inl ⟨j, k, h9, hk, h⟩
     · have : j = i := by omega
       subst this; rw [hy] at hk; cases hk; exact .inr h
 have hm : ∀ z, has m z ↔ z ∈ a.un := fun z => by
   rw [hI z]
   constructor
   · rintro ⟨j, y, _, h1, rfl⟩; exact List.mem_of_getElem? h1
   · intro h
     obtain ⟨i, hi⟩ := List.getElem?_of_mem h
     exact ⟨i, z, (List.getElem?_eq_some_iff.1 hi).1, hi, rfl⟩
 clear hI
 refine Sp_loop (fun i x => ∀ z, has x z ↔ z ∈ a.un ∨ ∃ (j : Nat) (e : Ex), j < i ∧ a.wh[j]? = some e ∧ men z e) hw (fun z => by rw [hm z]; simp) (fun i y x hy hI => ?_) (fun x hI => ?_)
 · simp only [codex_needs_L2, Sp_bind]
   refine (ment_s y x (hwe y (List.mem_of_getElem? hy))).mono fun r hr => ?_
   obtain ⟨r1, r2⟩ := r
   simp only [Sp_some, RQ_nx] at hr ⊢
   intro z
   rw [hr z, hI z]
   constructor
   · rintro ((h | ⟨j, k, hj, hk, h⟩) | h)
     · exact .inl h
     · exact .inr ⟨j, k, by omega, hk, h⟩
     · exact .inr ⟨i, y, by omega, hy, h⟩
   · rintro (h | ⟨j, k, hj, hk, h⟩)
     · exact .inl (.inl h)
     · rcases Nat.lt_or_ge j i with h9 | h9
       · exact .inl (.inr ⟨j, k, h9, hk, h⟩)
       · have : j = i := by omega
         subst this; rw [hy] at hk; cases hk; exact .inr h
 have hx : ∀ z, has x z ↔ z ∈ a.un ∨ ∃ e ∈ a.wh, men z e := fun z => by
   rw [hI z]
   constructor
   · rintro (h | ⟨j, k, _, hk, h⟩)
     · exact .inl h
     · exact .inr ⟨k, List.mem_of_getElem? hk, h⟩
   · rintro (h | ⟨k, hk, h⟩)
     · exact .inl h
     · obtain ⟨i, hi⟩ := List.getElem?_of_mem hk
       exact .inr ⟨i, k, (List.getElem?_eq_some_iff.1 hi).1, hi, h⟩
 rw [Sp_bind]
 refine (ment_s a.am x hae).mono fun r hr => ?_
 obtain ⟨r1, M⟩ := r
 simp only at hr ⊢
 have hM : ∀ z, has M z ↔ names a z := fun z => by rw [hr z, hx z]; rfl
 refine Sp_loop (fun i x => x = sel (needP c v a) (c.arts.take i) 0) ha (by simp [sel]) (fun i b x hb hI => ?_) (fun x hI => ?_)
 · have hlen := sel_len (needP c v a) (c.arts.take i) 0
   have h1 : (c.arts.take i).length ≤ i := by rw [List.length_take]; omega
   have hi := (List.getElem?_eq_some_iff.1 hb).1
   obtain ⟨s1, s2⟩ := sel_step (p := needP c v a) hb
   simp only [codex_needs_L3, beats_s c ⟨hf, hl, ha, hao⟩, Option.bind_some, c_b, mb_is_true, Sp_iff]
   rw [limA_of (by rw [hI]; omega)]
   have hM' := hM b.number
   unfold has at hM'
   rw [hM']
   simp only [Sp_some, RQ_nx, hI]
   exact ⟨fun h => (s1 (.inl h)).symm, fun h => ⟨fun h2 => (s1 (.inr h2)).symm, fun h2 => (s2 (fun h3 => h3.elim h h2)).symm⟩⟩
 · rw [Sp_some, hI, List.take_length]
theorem sameInts_s (a b : List Int) (h : a.length ≤ 9223372036854775807) : ref10_SameInts_B a b = some (mb (a = b)) := by
 rw [ref10_SameInts_B, eqI_mb, c_mb]
 by_cases h1 : ((a.length : Nat) : Int) = ((b.length : Nat) : Int)
 · have h' : a.length = b.length := by omega
   rw [iff_T h1, k_loop (v := false) (P := fun i x => ∀ y, b[i]? = some y → x = y) h (fun i x hx => by
     have := (List.getElem?_eq_some_iff.1 hx).1
     obtain ⟨y, hy⟩ : ∃ y, b[i]? = some y := ⟨_, List.getElem?_eq_getElem (by omega)⟩
     simp only [ref10_SameInts_L1, hy, Option.bind_some, eqI_mb, c_mb, k_nr]
     congr 2; apply propext
     exact ⟨fun e y' hy' => by cases hy'; exact e, fun e => e y rfl⟩), m_tf]
   refine smb ?_
   rw [list_eq_iff]
   exact ⟨fun h2 => ⟨h', fun i x y h3 h4 => h2 i x h3 y h4⟩, fun h2 i x h3 y h4 => h2.2 i x y h3 h4⟩
 · rw [iff_F h1]
   exact smbF fun e => h1 (by rw [e])
def fewP (c : Co) : Prop := c.facts.length ≤ 40 ∧ c.lines.length ≤ 40 ∧ c.arts.length ≤ 70 ∧ ∀ a ∈ c.arts, a.wh.length ≤ 40 ∧ a.un.length ≤ 80 ∧ cnt a.am ≤ 420 ∧ ∀ e ∈ a.wh, cnt e ≤ 420
theorem few_s (c : Co) (hc : okC c) : law10_small_B c = some (mb (fewP c)) := by
 obtain ⟨hf, hl, ha, hao⟩ := hc
 rw [law10_small_B, ref10_Few_B]
 simp only [ltI_mb, c_mb]
 rw [k_loop (v := false) (P := fun _ a => a.wh.length ≤ 40 ∧ a.un.length ≤ 80 ∧ cnt a.am ≤ 420 ∧ ∀ e ∈ a.wh, cnt e ≤ 420) ha (fun i a hi => by
   obtain ⟨hw, hu, hwe, hae⟩ := hao a (List.mem_of_getElem? hi)
   have e1 := fun (k : Unit → Option (Lp Unit Unit Bool)) => k_loop (l := a.wh) (body := fun i y x => ref10_Few_L2 420 i y) (v := false) (P := fun _ e => cnt e ≤ 420) (k := k) (kr := fun v => some (.rt v)) hw (fun i e hi => by
     simp only [ref10_Few_L2, small_s e 420 (hwe e (List.mem_of_getElem? hi)) (by omega), Option.bind_some, c_mb, k_nr]
     congr 2; apply propext; omega)
   simp only [ref10_Few_L1, small_s a.am 420 hae (by omega), Option.bind_some, ltI_mb, c_mb, e1, mem_at, k_nr, k_qr, k_rq]
   congr 2; apply propext; grind)]
 simp only [mem_at, m_tf, m_fq, Option.bind_some]
 refine smb ?_
 unfold fewP
 grind
theorem law_needs (c : Co) (v : Int) (hc : okC c) : law10_CodexNeeds_B c v = some true := by
 have hc' := hc
 obtain ⟨hf, hl, ha, hao⟩ := hc'
 rw [law10_CodexNeeds_B, law10_head_R, few_s c hc]
 simp only [Option.bind_some, c_mb]
 by_cases hfew : fewP c
 · rw [iff_T hfew, codex_Needs_B, validC_s c hc, validR_s c hc]
   have hlen : c.arts.length ≤ 70 := hfew.2.2.1
   simp only [ltI_mb, leI_mb, c_mb, Option.bind_some]
   by_cases h1 : v < 0
   · rw [iff_T h1]; simp only [Option.bind_some, iff_T h1]; rfl
   by_cases h2 : ((c.arts.length : Nat) : Int) ≤ v
   · rw [iff_F h1, iff_T h2]; simp only [Option.bind_some, iff_F h1, iff_T h2]; rfl
   by_cases h3 : validP c
   · obtain ⟨a, hv, hvm⟩ := geti_in (l := c.arts) (z := v) (by omega) (by omega)
     obtain ⟨hw, hu, hwe, hae⟩ := hao a (List.mem_of_getElem? hvm)
     rw [iff_F h1, iff_F h2, iff_T h3, needs_s c hc (by omega) v a hv]
     simp only [Option.bind_some, iff_F h1, iff_F h2, iff_T h3, hv]
     rw [Sp_eq]
     refine Sp_loop (fun i x => x = sel (needP c v a) (c.arts.take i) 0) ha (by simp [sel]) (fun i b x hb hI => ?_) (fun x hI => ?_)
     · have hlen2 := sel_len (needP c v a) (c.arts.take i) 0
       have h4 : (c.arts.take i).length ≤ i := by rw [List.length_take]; omega
       have hi := (List.getElem?_eq_some_iff.1 hb).1
       obtain ⟨s1, s2⟩ := sel_step (p := needP c v a) hb
       have inner : ∀ (nd : Bool) (Q : Lp (List Int) (List Int) Bool → Prop) (k : Bool → Option (Lp (List Int) (List Int) Bool)), (∀ n1 : Bool, (n1 = true ↔ nd = true ∨ ∃ e ∈ a.wh, men b.number e) → Sp (k n1) Q) → Sp ((lim a.wh.length (foldL (fun i y x => law10_CodexNeeds_L2 b i y x) (fun x => x) (a.wh.drop 0) 0 nd)).bind (lpK k (fun v => some (.rt v)))) Q := fun nd Q k hk => by
         refine Sp_loop (fun i x => x = true ↔ nd = true ∨ ∃ (j : Nat) (e : Ex), j < i ∧ a.wh[j]? = some e ∧ men b.number e) hw (by simp) (fun i e x he hI => ?_) (fun x hI => hk x ?_)
         · simp only [law10_CodexNeeds_L2, lment_s e b.number (hwe e (List.mem_of_getElem? he)), Option.bind_some, c_b, Sp_iff, Sp_some, RQ_nx, mb_is_true]
           refine ⟨fun h => ⟨fun _ => ?_, fun _ => trivial⟩, fun h => ⟨fun h2 => .inr ⟨i, e, by omega, he, h2⟩, fun h2 => ?_⟩⟩
           · rcases hI.1 h with h2 | ⟨j, e', hj, h3, h4⟩
             · exact .inl h2
             · exact .inr ⟨j, e', by omega, h3, h4⟩
           · rcases h2 with h2 | ⟨j, e', hj, h3, h4⟩
             · exact absurd (hI.2 (.inl h2)) h
             · rcases Nat.lt_or_ge j i with h9 | h9
               · exact absurd (hI.2 (.inr ⟨j, e', h9, h3, h4⟩)) h
               · have : j = i := by omega
                 subst this; rw [he] at h3; cases h3; exact h4
         · rw [hI]
           constructor
           · rintro (h | ⟨j, e, _, h1, h2⟩)
             · exact .inl h
             · exact .inr ⟨e, List.mem_of_getElem? h1, h2⟩
           · rintro (h | ⟨e, h1, h2⟩)
             · exact .inl h
             · obtain ⟨j, hj⟩ := List.getElem?_of_mem h1
               exact .inr ⟨j, e, (List.getElem?_eq_some_iff.1 hj).1, hj, h2⟩
       have inner2 : ∀ (nd : Bool) (Q : Lp (List Int) (List Int) Bool → Prop) (k : Bool → Option (Lp (List Int) (List Int) Bool)), (∀ n1 : Bool, (n1 = true ↔ nd = true ∨ b.number ∈ a.un) → Sp (k n1) Q) → Sp ((lim a.un.length (foldL (fun i y x => law10_CodexNeeds_L3 b i y x) (fun x => x) (a.un.drop 0) 0 nd)).bind (lpK k (fun v => some (.rt v)))) Q := fun nd Q k hk => by
         refine Sp_loop (fun i x => x = true ↔ nd = true ∨ ∃ (j : Nat) (z : Int), j < i ∧ a.un[j]? = some z ∧ z = b.number) hu (by simp) (fun i e x he hI => ?_) (fun x hI => hk x ?_)
         · simp only [law10_CodexNeeds_L3, eqI_mb, c_b, mb_is_true, Sp_iff, Sp_some, RQ_nx, Bool.false_eq_true, true_iff, false_iff]
           refine ⟨fun h => ?_, fun h => ⟨fun h2 => .inr ⟨i, e, by omega, he, h2⟩, fun h2 h3 => ?_⟩⟩
           · rcases hI.1 h with h2 | ⟨j, e', hj, h3, h4⟩
             · exact .inl h2
             · exact .inr ⟨j, e', by omega, h3, h4⟩
           · rcases h3 with h3 | ⟨j, e', hj, h3, h4⟩
             · exact h (hI.2 (.inl h3))
             · rcases Nat.lt_or_ge j i with h9 | h9
               · exact h (hI.2 (.inr ⟨j, e', h9, h3, h4⟩))
               · have : j = i := by omega
                 subst this; rw [he] at h3; cases h3; exact h2 h4
         · rw [hI]
           constructor
           · rintro (h | ⟨j, e, _, h1, h2⟩)
             · exact .inl h
             · exact .inr (h2 ▸ List.mem_of_getElem? h1)
           · rintro (h | h)
             · exact .inl h
             · obtain ⟨j, hj⟩ := List.getElem?_of_mem h
               exact .inr ⟨j, _, (List.getElem?_eq_some_iff.1 hj).1, hj, rfl⟩
       have last : ∀ (n1 : Bool) (Q : Lp (List Int) (List Int) Bool → Prop), (n1 = true ↔ needP c v a i b) → Q (.nx (sel (needP c v a) (c.arts.take (i + 1)) 0)) → Sp (bif n1 then limA (x.length + 1) (some (Lp.nx (x ++ [((i : Nat) : Int)]))) else some (Lp.nx x) : Option (Lp (List Int) (List Int) Bool)) Q := fun n1 Q h hq => by
         cases n1 with
         | true => rw [cond_true, limA_of (by rw [hI]; omega), Sp_some, hI, ← s1 (h.1 rfl)]; exact hq
         | false => rw [cond_false, Sp_some, hI, ← s2 (fun h2 => by have := h.2 h2; cases this)]; exact hq
       simp only [law10_CodexNeeds_L1, beats_s c hc, lment_s a.am b.number hae, Option.bind_some, c_mb, Sp_iff]
       refine ⟨fun hb1 => ?_, fun hb1 => ?_⟩
       · refine inner _ _ _ fun n1 h5 => inner2 _ _ _ fun n2 h6 => last n2 _ ?_ rfl
         rw [h6, h5]; exact ⟨fun _ => .inr hb1, fun _ => .inl (.inl rfl)⟩
       · refine inner _ _ _ fun n1 h5 => inner2 _ _ _ fun n2 h6 => last n2 _ ?_ rfl
         rw [h6, h5, mb_true]
         unfold needP names
         constructor
         · rintro ((h | h) | h)
           · exact .inl (.inr h)
           · exact .inl (.inl (.inr h))
           · exact .inl (.inl (.inl h))
         · rintro (((h | h) | h) | h)
           · exact .inr h
           · exact .inl (.inr h)
           · exact .inl (.inl h)
           · exact absurd h hb1
     · rw [List.take_length] at hI
       subst hI
       have := sel_len (needP c v a) c.arts 0
       simp only [cond_true, sameInts_s _ _ (show (sel (needP c v a) c.arts 0).length ≤ 9223372036854775807 by omega), Option.bind_some, Sp_some, mb_is_true]
   · rw [iff_F h1, iff_F h2, iff_F h3]; simp only [Option.bind_some, iff_F h1, iff_F h2, iff_F h3]; rfl
 · rw [iff_F hfew]
end Mo
end Go.Proofs.YtnijkdknnmgoeaaGreat
