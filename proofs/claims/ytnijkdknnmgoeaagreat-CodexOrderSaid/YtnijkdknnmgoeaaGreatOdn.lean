/- Part of a proof: see the last text. -/
import Derived.Test.YtnijkdknnmgoeaaGreatOdm
namespace Go.Proofs.YtnijkdknnmgoeaaGreat
open AI Go
namespace Mo
set_option maxRecDepth 100000
set_option maxHeartbeats 4000000
noncomputable def B27 : Code := bodyOf Tryz.f27
theorem b27 : Tryz.f27.body = some B27 := by kernel_rfl
noncomputable def codex_Needs_B  (c : Co) (version : Int) : Option (List Int) := cond (ltI version 0) (some []) (cond (leI ((c.arts.length : Nat) : Int) version) (some []) ((codex_Valid_B c).bind fun y1 => cond y1 ((codex_needs_B c version).bind fun y2 => some y2) (some [])))
theorem codex_Needs_step   (c : Co) (version : Int) (yR : (List Int)) (h : codex_Needs_B  c version = some yR) : Pure P G 27 [.agg (coC c), .sc (.int .i64 version)] (.sl .lost yR.length (rows inC yR)) := by
 unfold codex_Needs_B at h
 refine pureM Hd.mixed Hd.plainG (WC_body Tryz.func27 b27 ?_) (plC (layCo.plG c) (plC rfl rfl)) (layInt.plS yR)
 revert h
 refine cndI (fun hb1 => ?_) fun hb1 => ?_
 intro h
 have hE := Option.some.inj h
 subst hE
 exact go_retA (v := .sl .full 0 []) _ _ (runS 300 [pb hb1]) (by kernel_rfl) .body (.wn (.z .nil) (layInt.plS []))
 refine cndI (fun hb2 => ?_) fun hb2 => ?_
 intro h
 have hE := Option.some.inj h
 subst hE
 exact go_retA (v := .sl .full 0 []) _ _ (runS 300 [pb hb1, pb hb2]) (by kernel_rfl) .body (.wn (.z .nil) (layInt.plS []))
 refine bndI fun y1 hy1 => ?_
 refine cndI (fun hv => ?_) fun hv => ?_
 subst hv
 refine bndI fun y2 hy2 => ?_
 intro h
 have hE := Option.some.inj h
 subst hE
 exact go_retA _ _ (runS 300 [pb hb1, pb hb2, pcall (codex_Valid_step c true hy1), pcall (codex_needs_step c version y2 hy2)]) (by kernel_rfl) .body (.plain (layInt.plS y2))
 subst hv
 intro h
 have hE := Option.some.inj h
 subst hE
 exact go_retA (v := .sl .full 0 []) _ _ (runS 300 [pb hb1, pb hb2, pcall (codex_Valid_step c false hy1)]) (by kernel_rfl) .body (.wn (.z .nil) (layInt.plS []))
noncomputable def B52 : Code := bodyOf Tryz.f52
theorem b52 : Tryz.f52.body = some B52 := by kernel_rfl
noncomputable def codex_Order_1_L1  (a2 : (Mm Int Bool)) (i0 : Nat) (e0 : Int)  : Option (Lp Unit Unit Bool) := cond ((a2.get e0).getD false) (some (.nx ())) (some (.rt false))
noncomputable def codex_Order_1_B  (version : Int) (a1 : Nat) (a1_ : (List (List Int))) (a2 : (Mm Int Bool)) : Option Bool := (idxN a1 version).bind fun k1 => (a1_[k1]?).bind fun x2 => (lim x2.length (foldL (fun i y x => codex_Order_1_L1  a2 i y ) (fun x => ()) (x2.drop 0) 0 ())).bind (lpK (fun (_ : Unit) => some true) (fun v => some v))
theorem codex_Order_1_U (version : Int) (a1 : Nat) (a1_ : (List (List Int))) (a2 : (Mm Int Bool)) (yR : Bool) (hS : Sound P G (.call 52 [.sc (.int .i64 version), .ptr 0 0, .ptr 2 0] ⟨[(3, (mbib a2)), (2, .cells [.mp 3]), (1, (.cells (rows liinC a1_))), (0, .cells [.msl 1 0 a1])], 4, [], 0⟩ (.ret (.sc (.bool yR))) ⟨[(3, (mbib a2)), (2, .cells [.mp 3]), (1, (.cells (rows liinC a1_))), (0, .cells [.msl 1 0 a1])], 4, [], 0⟩)) (u0 u1 u2 u3 : Nat) (hnb : [u0, u1, u2, u3].Nodup) (hnt : ([] : List Nat).Nodup) : Cd.ok P G (.callU 52 [.sc (.int .i64 version), .ptr u0 0, .ptr u2 0] (.ret (.sc (.bool yR))) [(u0, .cells [.msl u1 0 a1]), (u1, (.cells (rows liinC a1_))), (u2, .cells [.mp u3]), (u3, (mbib a2))] [] [(u0, .cells [.msl u1 0 a1]), (u1, (.cells (rows liinC a1_))), (u2, .cells [.mp u3]), (u3, (mbib a2))] []) :=
 frameU (M := [.cells [.msl 1 0 a1], (.cells (rows liinC a1_)), .cells [.mp 3], (mbib a2)]) (M2 := [.cells [.msl 1 0 a1], (.cells (rows liinC a1_)), .cells [.mp 3], (mbib a2)]) (T := []) (T2 := []) (k := 4) (j := 0) Hd.plainG _ _ _ _ hS rfl rfl rfl rfl rfl hnb hnt rfl rfl (.cons (.cells (.cons (.msl (by decide)) .nil)) (.cons (.cells (.pl (layLInt.plC a1_))) (.cons (.cells (.cons (.mp (by decide)) .nil)) (.cons (mB_rn (fun _ => rfl)) .nil)))) (.cons (.cells (.cons (.msl (by decide)) .nil)) (.cons (.cells (.pl (layLInt.plC a1_))) (.cons (.cells (.cons (.mp (by decide)) .nil)) (.cons (mB_rn (fun _ => rfl)) .nil)))) (.cons (.pl rfl) (.cons (.ptr (by decide)) (.cons (.ptr (by decide)) .nil))) (.pl rfl) (by
   intro e he
   simp only [List.mem_cons, List.not_mem_nil, or_false] at he
   rcases he with rfl | rfl | rfl | rfl
   · exact (.arg (.there (.here .ptr)))
   · exact (.box (p := 0) (.arg (.there (.here .ptr))) rfl (.here .msl))
   · exact (.arg (.there (.there (.here .ptr))))
   · exact (.box (p := 2) (.arg (.there (.there (.here .ptr)))) rfl (.here .mp))
   )
theorem codex_Order_1_step   (version : Int) (a1 : Nat) (a1_ : (List (List Int))) (a2 : (Mm Int Bool)) (yR : Bool) (h : codex_Order_1_B  version a1 a1_ a2 = some yR) : Sound P G (.call 52 [.sc (.int .i64 version), .ptr 0 0, .ptr 2 0] ⟨[(3, (mbib a2)), (2, .cells [.mp 3]), (1, (.cells (rows liinC a1_))), (0, .cells [.msl 1 0 a1])], 4, [], 0⟩ (.ret (.sc (.bool yR))) ⟨[(3, (mbib a2)), (2, .cells [.mp 3]), (1, (.cells (rows liinC a1_))), (0, .cells [.msl 1 0 a1])], 4, [], 0⟩) := by
 unfold codex_Order_1_B at h
 refine soundM Hd.mixed (WC_body Tryz.func52 b52 ?_)
 revert h
 refine bndI fun k1 hk1 => ?_
 refine bndI fun x2 hx2 => ?_
 refine bndI fun res hres h => ?_
 have hlen := (limE hres).1
 replace hres := (limE hres).2
 refine go_at [] [2, 4, 10, 11, 12, 13, 18, 19] 0 (sub B52 [1, 0, 1, 0, 0]) [.code (sub B52 [1, 1])] _ _ (runS 300 [pix (ixmz69 (id := 1) hk1), plb (ldm69 hx2)]) (by kernel_rfl) (foldM (fn := Tryz.f52) (m := 4) (s00 := ⟨[(3, (mbib a2)), (2, .cells [.mp 3]), (1, (.cells (rows liinC a1_))), (0, .cells [.msl 1 0 a1])], 4, [], 0⟩) (fun v => .sc (.bool v)) (fun v => ⟨[(3, (mbib a2)), (2, .cells [.mp 3]), (1, (.cells (rows liinC a1_))), (0, .cells [.msl 1 0 a1])], 4, [], 0⟩) 0 x2 (fun i0 (_ : Unit) (j0 : JJ) => frm 21 0 [(2, .ptr 2 0), (10, .sl .lost x2.length (rows inC x2)), (11, .sc (.int .i64 ((x2.length : Nat) : Int))), (12, .sc (.int .i64 ((i0 : Nat) : Int)))] [4, 13, 18, 19] 0 [] 0 j0) (fun (_ : Nat) (_ : Unit) (_ : JJ) => ⟨[(3, (mbib a2)), (2, .cells [.mp 3]), (1, (.cells (rows liinC a1_))), (0, .cells [.msl 1 0 a1])], 4, [], 0⟩) (fun (j : JJ) => plainL j.2 = true) (fun (_ : Unit) (jx : JJ) => frm 21 0 [] [4, 13, 18, 19] 0 [] 0 jx) (fun (_ : Unit) (_ : JJ) => ⟨[(3, (mbib a2)), (2, .cells [.mp 3]), (1, (.cells (rows liinC a1_))), (0, .cells [.msl 1 0 a1])], 4, [], 0⟩) (fun (j : JJ) => plainL j.2 = true) ?_ ?_ 0 hres ?_ ?_ ([.bool false], []) rfl)
 rintro i0 ⟨⟩ j0 hj0 hge hq
 clear h hres
 refine WL_rnd ?_
 exact go_ex Hd.plainG [8, 26, 36, 38] [] [⟨(mbib a2), (mbib a2), (mB_fits (fun _ => rfl))⟩, fbu [.mp 3] (unC rfl rfl), fbp (rows liinC a1_) (layLInt.plC a1_), fbu [.msl 1 0 a1] (unC rfl rfl)] 0 _ _ (runS 300 [pb (B := ltI ((i0 : Nat) : Int) ((x2.length : Nat) : Int)) (b := false) (ltF hge)]) (by kernel_rfl) (hq ([(jn j0 0), .bool false, (jn j0 2), (jn j0 3)], []) rfl)
 clear h hres
 rintro i0 e0 ⟨⟩ j0 r hj0 he0 hi0 h k
 refine WL_rnd ?_
 revert h
 show codex_Order_1_L1  a2 i0 e0  = some r → _
 unfold codex_Order_1_L1
 let o1 : List (PC P G) := [pb (B := ltI ((i0 : Nat) : Int) ((x2.length : Nat) : Int)) (b := true) (ltT hi0), pix (ix40 .lost he0)]
 refine cndI (fun hb1 => ?_) fun hb1 => ?_
 rintro ⟨⟩
 exact go_nx Hd.plainG [4, 8, 21, 22, 24, 26, 36, 38] [fq (layInt.plS x2)] [⟨(mbib a2), (mbib a2), (mB_fits (fun _ => rfl))⟩, fbu [.mp 3] (unC rfl rfl), fbp (rows liinC a1_) (layLInt.plC a1_), fbu [.msl 1 0 a1] (unC rfl rfl)] _ _ (runS 300 (o1 ++ [plk (lkB89 a2 e0 hb1), pinc i0 (by omega)])) (by kernel_rfl) (k ([(jn j0 0), .bool true, .bool true, .bool false], []) rfl)
 rintro ⟨⟩
 exact go_retM Hd.plainG _ _ [0] [] [⟨(mbib a2), (mbib a2), (mB_fits (fun _ => rfl))⟩, fbu [.mp 3] (unC rfl rfl), fbp (rows liinC a1_) (layLInt.plC a1_), fbu [.msl 1 0 a1] (unC rfl rfl)] _ _ (runS 300 (o1 ++ [plk (lkB89 a2 e0 hb1)])) (by kernel_rfl) (.rnd k)
 rintro ⟨⟩ rfl jx_3 hjx_3
 revert h
 clear hres
 dsimp only [lpK]
 intro h
 have hE := Option.some.inj h
 subst hE
 exact go_retM Hd.plainG _ _ [0] [] [⟨(mbib a2), (mbib a2), (mB_fits (fun _ => rfl))⟩, fbu [.mp 3] (unC rfl rfl), fbp (rows liinC a1_) (layLInt.plC a1_), fbu [.msl 1 0 a1] (unC rfl rfl)] _ _ (runX 300 []) (by kernel_rfl) .body
 rintro v rfl
 dsimp only [lpK] at h
 cases h
 exact .outer .body
noncomputable def B18 : Code := bodyOf Tryz.f18
theorem b18 : Tryz.f18.body = some B18 := by kernel_rfl
noncomputable def codex_Order_L1  (c : Co) (i0 : Nat) (e0 : Ar) (w1_l : (List (List Int))) : Option (Lp (List (List Int)) (List (List Int)) ((List Int) × Bool)) := (codex_needs_B c ((i0 : Nat) : Int)).bind fun y3 => (w1_l[i0]?).bind fun x4 => some (.nx (w1_l.set i0 y3))
noncomputable def codex_Order_L3  (c : Co) (w1_l_5 : (List (List Int))) (w3_m : (Mm Int Bool)) (i2 : Nat) (e2 : Ar) (next9 : Int) : Option (Lp Int Int ((List Int) × Bool)) := cond ((w3_m.get ((i2 : Nat) : Int)).getD false) (some (.nx next9)) ((codex_Order_1_B ((i2 : Nat) : Int) c.arts.length w1_l_5 w3_m).bind fun y8 => cond y8 (some (.ex ((i2 : Nat) : Int))) (some (.nx next9)))
noncomputable def codex_Order_L2  (c : Co) (w1_l_5 : (List (List Int)))  (order8 : (List Int)) (w3_m : (Mm Int Bool)) : Option (Lp ((List Int) × (Mm Int Bool)) ((List Int) × (Mm Int Bool)) ((List Int) × Bool)) := cond (ltI ((order8.length : Nat) : Int) ((c.arts.length : Nat) : Int)) ((lim c.arts.length (foldL (fun i y x => codex_Order_L3  c w1_l_5 w3_m i y x) (fun x => x) (c.arts.drop 0) 0 (-1))).bind (lpK (fun (next9_9 : Int) => cond (ltI next9_9 0) (some (.rt ([], false))) (limA (order8.length + 1) (some (.nx ((order8 ++ [next9_9]), (w3_m.set next9_9 true)))))) (fun v => some (.rt v)))) (some (.ex (order8, w3_m)))
noncomputable def codex_Order_B  (c : Co) : Option ((List Int) × Bool) := (codex_Valid_B c).bind fun y1 => cond y1 (limM (c.arts.length) ((lim c.arts.length (foldL (fun i y x => codex_Order_L1  c i y x) (fun x => x) (c.arts.drop 0) 0 (List.replicate c.arts.length []))).bind (lpK (fun (w1_l_5 : (List (List Int))) => (fixL (fun x => codex_Order_L2  c w1_l_5 x.1 x.2) ([], (Mm.nil : Mm Int Bool))).bind (lpK (fun ((order8_11, w3_m_11) : ((List Int) × (Mm Int Bool))) => some (order8_11, true)) (fun v => some v))) (fun v => some v)))) (some ([], true))
theorem codex_Order_step   (c : Co) (yR : ((List Int) × Bool)) (h : codex_Order_B  c = some yR) : Pure P G 18 [.agg (coC c)] (.tup [.sl .lost yR.1.length (rows inC yR.1), .sc (.bool yR.2)]) := by
 unfold codex_Order_B at h
 refine pureM Hd.mixed Hd.plainG (WC_body Tryz.func18 b18 ?_) (plC (layCo.plG c) rfl) (plC (layInt.plS yR.1) (plC rfl rfl))
 revert h
 refine bndI fun y1 hy1 => ?_
 refine cndI (fun hv => ?_) fun hv => ?_
 subst hv
 refine limMI fun hl2 => ?_
 refine bndI fun res hres h => ?_
 have hlen := (limE hres).1
 replace hres := (limE hres).2
 refine go_at [] [0, 1, 3, 4, 11, 12, 13, 19, 20, 21, 25, 37, 42, 46, 47, 48, 51, 52, 56] 0 (sub B18 [1, 1, 1, 0, 1, 0, 0]) [.code (sub B18 [1, 1, 1, 1])] _ _ (runS 300 [pcall (codex_Valid_step c true hy1), pmb (mkm69 (n := c.arts.length) hl2)]) (by kernel_rfl) (foldP (fn := Tryz.f18) (m := 0) (fun v => .tup [.sl .lost v.1.length (rows inC v.1), .sc (.bool v.2)]) 0 c.arts (fun i0 (w1_l : (List (List Int))) (j0 : JJ) => frm 64 0 [(1, .ptr 0 0), (4, .ptr 2 0), (19, .sc (.int .i64 ((c.arts.length : Nat) : Int))), (20, .sc (.int .i64 ((i0 : Nat) : Int)))] [3, 12, 13, 21, 37, 42, 46, 47, 48, 51, 52, 56] 0 [0, 11, 25] 0 j0) (fun (_ : Nat) (w1_l : (List (List Int))) (_ : JJ) => ⟨[(2, .cells [.msl 1 0 c.arts.length]), (1, (.cells (rows liinC w1_l))), (0, .cells (coC c))], 3, [], 0⟩) (fun (j : JJ) => plainL j.2 = true) (fun (w1_l : (List (List Int))) (jx : JJ) => frm 64 0 [(1, .ptr 0 0), (4, .ptr 2 0)] [3, 12, 13, 21, 37, 42, 46, 47, 48, 51, 52, 56] 0 [0, 11, 25] 0 jx) (fun (w1_l : (List (List Int))) (_ : JJ) => ⟨[(2, .cells [.msl 1 0 c.arts.length]), (1, (.cells (rows liinC w1_l))), (0, .cells (coC c))], 3, [], 0⟩) (fun (j : JJ) => plainL j.2 = true) ?_ ?_ 0 hres ?_ ?_ ([.bool false, .bool true, .bool false], [.agg (coC c), .agg (coC c), .sc undef]) (plC (layCo.plG c) (plC (layCo.plG c) (plC rfl rfl))))
 rintro i0 w1_l j0 hj0 hge hq
 clear h hres
 refine WL_rnd ?_
 exact go_ex Hd.plainG [1, 2, 6, 8, 23, 24, 26, 42, 51, 74, 84, 92, 94, 96, 102, 104, 112] [fq (gn_pl hj0 0), fq (gn_pl hj0 1), fq (gn_pl hj0 2)] [fbu [.msl 1 0 c.arts.length] (unC rfl rfl), fbp (rows liinC w1_l) (layLInt.plC w1_l), fbp (coC c) (layCo.pl c)] 0 _ _ (runS 300 [pb (B := ltI ((i0 : Nat) : Int) ((c.arts.length : Nat) : Int)) (b := false) (ltF hge)]) (by kernel_rfl) (hq ([(jn j0 0), (jn j0 1), (jn j0 2), .bool false, (jn j0 4), (jn j0 5), (jn j0 6), (jn j0 7), (jn j0 8), (jn j0 9), (jn j0 10), (jn j0 11)], [(gn j0 0), (gn j0 1), (gn j0 2)]) (plC (gn_pl hj0 0) (plC (gn_pl hj0 1) (plC (gn_pl hj0 2) rfl))))
 clear h hres
 rintro i0 e0 w1_l j0 r hj0 he0 hi0 h k
 refine WL_rnd ?_
 revert h
 show codex_Order_L1  c i0 e0 w1_l = some r → _
 unfold codex_Order_L1
 refine bndI fun y3 hy3 => ?_
 refine bndI fun x4 hx4 => ?_
 rintro ⟨⟩
 exact go_nx Hd.plainG [1, 2, 6, 8, 23, 24, 26, 38, 40, 42, 51, 74, 84, 92, 94, 96, 102, 104, 112] [fq (gn_pl hj0 0), fq (gn_pl hj0 1), fq (layCo.plG c)] [fbu [.msl 1 0 c.arts.length] (unC rfl rfl), fbp (rows liinC (w1_l.set i0 y3)) (layLInt.plC (w1_l.set i0 y3)), fbp (coC c) (layCo.pl c)] _ _ (runS 300 [pb (B := ltI ((i0 : Nat) : Int) ((c.arts.length : Nat) : Int)) (b := true) (ltT hi0), pz 6, pcall (codex_needs_step c ((i0 : Nat) : Int) y3 hy3), pix (ixm69 (id := 1) (n := c.arts.length) (i := i0) (by have := ltI_T (ltT hi0); omega)), psb (stm69 hx4 y3), pinc i0 (by omega)]) (by kernel_rfl) (k ([(jn j0 0), (jn j0 1), (jn j0 2), .bool true, (jn j0 4), (jn j0 5), (jn j0 6), (jn j0 7), (jn j0 8), (jn j0 9), (jn j0 10), (jn j0 11)], [(gn j0 0), (gn j0 1), .agg (coC c)]) (plC (gn_pl hj0 0) (plC (gn_pl hj0 1) (plC (layCo.plG c) rfl))))
 rintro w1_l_5 rfl jx_5 hjx_5
 revert h
 clear hres
 dsimp only [lpK]
 refine bndI fun res hres h => ?_
 refine go_at [.t 8 1] [0, 1, 3, 6, 7, 8, 11, 12, 13, 21, 25, 37, 42, 46, 47, 48, 51, 52, 56] 2 (sub B18 [1, 1, 1, 1, 1, 1, 1, 0, 0, 0]) [.code (sub B18 [1, 1, 1, 1, 1, 1, 1, 1])] _ _ (runX 300 []) (by kernel_rfl) (iterP (fn := Tryz.f18) (m := 0) (fun v => .tup [.sl .lost v.1.length (rows inC v.1), .sc (.bool v.2)]) 2 (fun ((order8, w3_m) : ((List Int) × (Mm Int Bool))) (j1 : JJ) => frm 64 0 [(1, .ptr 0 0), (6, .ptr 4 0), (7, .fn (.func 52) [] [.ptr 2 0, .ptr 4 0]), (8, .sl (.row 0 1) order8.length (rows inC order8))] [3, 12, 13, 21, 37, 42, 46, 47, 48, 51, 52, 56] 0 [0, 11, 25] 0 j1) (fun ((order8, w3_m) : ((List Int) × (Mm Int Bool))) (_ : JJ) => ⟨[(4, .cells [.mp 3]), (3, (mbib w3_m)), (2, .cells [.msl 1 0 c.arts.length]), (1, (.cells (rows liinC w1_l_5))), (0, .cells (coC c))], 5, [(0, order8.length)], 1⟩) (fun (j : JJ) => plainL j.2 = true) (fun ((order8, w3_m) : ((List Int) × (Mm Int Bool))) (jx : JJ) => frm 64 0 [(8, .sl (.row 0 1) order8.length (rows inC order8))] [3, 12, 13, 21, 37, 42, 46, 47, 48, 51, 52, 56] 0 [0, 11, 25] 0 jx) (fun ((order8, w3_m) : ((List Int) × (Mm Int Bool))) (_ : JJ) => ⟨[(4, .cells [.mp 3]), (3, (mbib w3_m)), (2, .cells [.msl 1 0 c.arts.length]), (1, (.cells (rows liinC w1_l_5))), (0, .cells (coC c))], 5, [(0, order8.length)], 1⟩) (fun (j : JJ) => plainL j.2 = true) ?_ hres ?_ ?_ ([(jn jx_5 0), (jn jx_5 1), (jn jx_5 2), (jn jx_5 3), (jn jx_5 4), (jn jx_5 5), (jn jx_5 6), (jn jx_5 7), (jn jx_5 8), (jn jx_5 9), (jn jx_5 10), (jn jx_5 11)], [(gn jx_5 0), (gn jx_5 1), (gn jx_5 2)]) (plC (gn_pl hjx_5 0) (plC (gn_pl hjx_5 1) (plC (gn_pl hjx_5 2) rfl))))
 clear h hres
 rintro ⟨order8, w3_m⟩ j1 r hj1 h k
 refine WL_rnd ?_
 revert h
 show codex_Order_L2  c w1_l_5 order8 w3_m = some r → _
 unfold codex_Order_L2
 refine cndI (fun hb4 => ?_) fun hb4 => ?_
 refine bndI fun res hres h => ?_
 have hlen := (limE hres).1
 replace hres := (limE hres).2
 refine go_at [] [0, 1, 3, 6, 7, 8, 9, 11, 12, 13, 21, 25, 37, 40, 41, 42, 46, 47, 48, 51, 52, 56] 4 (sub B18 [1, 1, 1, 1, 1, 1, 1, 0, 0, 0, 1, 0, 1, 0, 1, 0, 0]) [.code (sub B18 [1, 1, 1, 1, 1, 1, 1, 0, 0, 0, 1, 0, 1, 1]), .endb 3] _ _ (runS 300 [pb hb4]) (by kernel_rfl) (foldP (fn := Tryz.f18) (m := 0) (fun v => .tup [.sl .lost v.1.length (rows inC v.1), .sc (.bool v.2)]) 4 c.arts (fun i2 (next9 : Int) (j2 : JJ) => frm 64 0 [(1, .ptr 0 0), (6, .ptr 4 0), (7, .fn (.func 52) [] [.ptr 2 0, .ptr 4 0]), (8, .sl (.row 0 1) order8.length (rows inC order8)), (9, .sc (.int .i64 next9)), (40, .sc (.int .i64 ((c.arts.length : Nat) : Int))), (41, .sc (.int .i64 ((i2 : Nat) : Int)))] [3, 12, 13, 21, 37, 42, 46, 47, 48, 51, 52, 56] 0 [0, 11, 25] 0 j2) (fun (_ : Nat) (next9 : Int) (_ : JJ) => ⟨[(4, .cells [.mp 3]), (3, (mbib w3_m)), (2, .cells [.msl 1 0 c.arts.length]), (1, (.cells (rows liinC w1_l_5))), (0, .cells (coC c))], 5, [(0, order8.length)], 1⟩) (fun (j : JJ) => plainL j.2 = true) (fun (next9 : Int) (jx : JJ) => frm 64 0 [(1, .ptr 0 0), (6, .ptr 4 0), (7, .fn (.func 52) [] [.ptr 2 0, .ptr 4 0]), (8, .sl (.row 0 1) order8.length (rows inC order8)), (9, .sc (.int .i64 next9))] [3, 12, 13, 21, 37, 42, 46, 47, 48, 51, 52, 56] 0 [0, 11, 25] 0 jx) (fun (next9 : Int) (_ : JJ) => ⟨[(4, .cells [.mp 3]), (3, (mbib w3_m)), (2, .cells [.msl 1 0 c.arts.length]), (1, (.cells (rows liinC w1_l_5))), (0, .cells (coC c))], 5, [(0, order8.length)], 1⟩) (fun (j : JJ) => plainL j.2 = true) ?_ ?_ 0 hres ?_ ?_ ([(jn j1 0), (jn j1 1), (jn j1 2), (jn j1 3), .bool true, (jn j1 5), (jn j1 6), (jn j1 7), (jn j1 8), (jn j1 9), (jn j1 10), (jn j1 11)], [(gn j1 0), (gn j1 1), (gn j1 2)]) (plC (gn_pl hj1 0) (plC (gn_pl hj1 1) (plC (gn_pl hj1 2) rfl))))
 rintro i2 next9 j2 hj2 hge hq
 clear h hres
 refine WL_rnd ?_
 exact go_ex Hd.plainG [1, 2, 6, 12, 15, 17, 18, 23, 24, 26, 42, 51, 74, 84, 92, 94, 96, 102, 104, 112] [fq (gn_pl hj2 0), ⟨.fn (.func 52) [] [.ptr 2 0, .ptr 4 0], .fn (.func 52) [] [.ptr 2 0, .ptr 4 0], (.under (unFn rfl (unC rfl (unC rfl rfl))))⟩, ⟨.sl (.row 0 1) order8.length (rows inC order8), .sl (.row 0 1) order8.length (rows inC order8), (.under (unSl rfl (under_plainL _ _ (layInt.plC order8))))⟩, fq (gn_pl hj2 1), fq (gn_pl hj2 2)] [fbu [.mp 3] (unC rfl rfl), ⟨(mbib w3_m), (mbib w3_m), (mB_fits (fun _ => rfl))⟩, fbu [.msl 1 0 c.arts.length] (unC rfl rfl), fbp (rows liinC w1_l_5) (layLInt.plC w1_l_5), fbp (coC c) (layCo.pl c)] 4 _ _ (runS 300 [pb (B := ltI ((i2 : Nat) : Int) ((c.arts.length : Nat) : Int)) (b := false) (ltF hge)]) (by kernel_rfl) (hq ([(jn j2 0), (jn j2 1), (jn j2 2), (jn j2 3), (jn j2 4), .bool false, (jn j2 6), (jn j2 7), (jn j2 8), (jn j2 9), (jn j2 10), (jn j2 11)], [(gn j2 0), (gn j2 1), (gn j2 2)]) (plC (gn_pl hj2 0) (plC (gn_pl hj2 1) (plC (gn_pl hj2 2) rfl))))
 clear h hres
 rintro i2 e2 next9 j2 r hj2 he2 hi2 h k
 refine WL_rnd ?_
 revert h
 show codex_Order_L3  c w1_l_5 w3_m i2 e2 next9 = some r → _
 unfold codex_Order_L3
 let o1 : List (PC P G) := [pb (B := ltI ((i2 : Nat) : Int) ((c.arts.length : Nat) : Int)) (b := true) (ltT hi2)]
 refine cndI (fun hb5 => ?_) fun hb5 => ?_
 rintro ⟨⟩
 exact go_nx Hd.plainG [1, 2, 6, 12, 15, 17, 18, 23, 24, 26, 42, 51, 74, 80, 82, 84, 92, 94, 96, 102, 104, 112] [fq (gn_pl hj2 0), ⟨.fn (.func 52) [] [.ptr 2 0, .ptr 4 0], .fn (.func 52) [] [.ptr 2 0, .ptr 4 0], (.under (unFn rfl (unC rfl (unC rfl rfl))))⟩, ⟨.sl (.row 0 1) order8.length (rows inC order8), .sl (.row 0 1) order8.length (rows inC order8), (.under (unSl rfl (under_plainL _ _ (layInt.plC order8))))⟩, fq (gn_pl hj2 1), fq (gn_pl hj2 2)] [fbu [.mp 3] (unC rfl rfl), ⟨(mbib w3_m), (mbib w3_m), (mB_fits (fun _ => rfl))⟩, fbu [.msl 1 0 c.arts.length] (unC rfl rfl), fbp (rows liinC w1_l_5) (layLInt.plC w1_l_5), fbp (coC c) (layCo.pl c)] _ _ (runS 300 (o1 ++ [plk (lkB89 w3_m ((i2 : Nat) : Int) hb5), pinc i2 (by omega)])) (by kernel_rfl) (k ([(jn j2 0), (jn j2 1), (jn j2 2), (jn j2 3), (jn j2 4), .bool true, .bool true, .bool false, .bool false, undef, .bool false, (jn j2 11)], [(gn j2 0), (gn j2 1), (gn j2 2)]) (plC (gn_pl hj2 0) (plC (gn_pl hj2 1) (plC (gn_pl hj2 2) rfl))))
 refine bndI fun y8 hy8 => ?_
 refine cndI (fun hv => ?_) fun hv => ?_
 subst hv
 rintro ⟨⟩
 exact go_ex Hd.plainG [1, 2, 6, 12, 15, 17, 18, 23, 24, 26, 42, 51, 74, 84, 92, 94, 96, 102, 104, 112] [fq (gn_pl hj2 0), ⟨.fn (.func 52) [] [.ptr 2 0, .ptr 4 0], .fn (.func 52) [] [.ptr 2 0, .ptr 4 0], (.under (unFn rfl (unC rfl (unC rfl rfl))))⟩, ⟨.sl (.row 0 1) order8.length (rows inC order8), .sl (.row 0 1) order8.length (rows inC order8), (.under (unSl rfl (under_plainL _ _ (layInt.plC order8))))⟩, fq (gn_pl hj2 1), fq (gn_pl hj2 2)] [fbu [.mp 3] (unC rfl rfl), ⟨(mbib w3_m), (mbib w3_m), (mB_fits (fun _ => rfl))⟩, fbu [.msl 1 0 c.arts.length] (unC rfl rfl), fbp (rows liinC w1_l_5) (layLInt.plC w1_l_5), fbp (coC c) (layCo.pl c)] 4 _ _ (runS 300 (o1 ++ [plk (lkB89 w3_m ((i2 : Nat) : Int) hb5), pcallU (codex_Order_1_U ((i2 : Nat) : Int) c.arts.length w1_l_5 w3_m true (codex_Order_1_step ((i2 : Nat) : Int) c.arts.length w1_l_5 w3_m true hy8) 2 1 4 3 (by decide) (by decide))])) (by kernel_rfl) (k ([(jn j2 0), (jn j2 1), (jn j2 2), (jn j2 3), (jn j2 4), .bool true, .bool false, .bool true, .bool true, .bool true, .bool true, (jn j2 11)], [(gn j2 0), (gn j2 1), (gn j2 2)]) (plC (gn_pl hj2 0) (plC (gn_pl hj2 1) (plC (gn_pl hj2 2) rfl))))
 subst hv
 rintro ⟨⟩
 exact go_nx Hd.plainG [1, 2, 6, 12, 15, 17, 18, 23, 24, 26, 42, 51, 74, 80, 82, 84, 92, 94, 96, 102, 104, 112] [fq (gn_pl hj2 0), ⟨.fn (.func 52) [] [.ptr 2 0, .ptr 4 0], .fn (.func 52) [] [.ptr 2 0, .ptr 4 0], (.under (unFn rfl (unC rfl (unC rfl rfl))))⟩, ⟨.sl (.row 0 1) order8.length (rows inC order8), .sl (.row 0 1) order8.length (rows inC order8), (.under (unSl rfl (under_plainL _ _ (layInt.plC order8))))⟩, fq (gn_pl hj2 1), fq (gn_pl hj2 2)] [fbu [.mp 3] (unC rfl rfl), ⟨(mbib w3_m), (mbib w3_m), (mB_fits (fun _ => rfl))⟩, fbu [.msl 1 0 c.arts.length] (unC rfl rfl), fbp (rows liinC w1_l_5) (layLInt.plC w1_l_5), fbp (coC c) (layCo.pl c)] _ _ (runS 300 (o1 ++ [plk (lkB89 w3_m ((i2 : Nat) : Int) hb5), pcallU (codex_Order_1_U ((i2 : Nat) : Int) c.arts.length w1_l_5 w3_m false (codex_Order_1_step ((i2 : Nat) : Int) c.arts.length w1_l_5 w3_m false hy8) 2 1 4 3 (by decide) (by decide)), pinc i2 (by omega)])) (by kernel_rfl) (k ([(jn j2 0), (jn j2 1), (jn j2 2), (jn j2 3), (jn j2 4), .bool true, .bool false, .bool true, .bool true, .bool false, .bool false, (jn j2 11)], [(gn j2 0), (gn j2 1), (gn j2 2)]) (plC (gn_pl hj2 0) (plC (gn_pl hj2 1) (plC (gn_pl hj2 2) rfl))))
 rintro next9_9 rfl jx_9 hjx_9
 revert h
 clear hres
 dsimp only [lpK]
 refine cndI (fun hb6 => ?_) fun hb6 => ?_
 rintro ⟨⟩
 exact go_retA (v := .tup [.sl .full 0 [], .sc (.bool false)]) _ _ (runX 300 [pb hb6]) (by kernel_rfl) (.rnd k) (.wn (.u (.z (.r .nil)) .nil) (plC (layInt.plS []) (plC rfl rfl)))
 refine limAI fun hl10 => ?_
 rintro ⟨⟩
 exact go_nx Hd.plainG [1, 2, 6, 12, 15, 17, 23, 24, 26, 42, 51, 74, 84, 92, 94, 96, 102, 104, 112] [fq (gn_pl hjx_9 0), ⟨.fn (.func 52) [] [.ptr 2 0, .ptr 4 0], .fn (.func 52) [] [.ptr 2 0, .ptr 4 0], (.under (unFn rfl (unC rfl (unC rfl rfl))))⟩, ⟨.sl (.row 0 1) ((order8 ++ [next9_9]).length) (rows inC (order8 ++ [next9_9])), .sl (.row 0 1) ((order8 ++ [next9_9]).length) (rows inC (order8 ++ [next9_9])), (.under (unSl rfl (under_plainL _ _ (layInt.plC (order8 ++ [next9_9])))))⟩, fq (gn_pl hjx_9 1), fq (gn_pl hjx_9 2)] [fbu [.mp 3] (unC rfl rfl), ⟨(mbib (w3_m.set next9_9 true)), (mbib (w3_m.set next9_9 true)), (mB_fits (fun _ => rfl))⟩, fbu [.msl 1 0 c.arts.length] (unC rfl rfl), fbp (rows liinC w1_l_5) (layLInt.plC w1_l_5), fbp (coC c) (layCo.pl c)] _ _ (runX 300 [pb hb6, pms (ms89 w3_m next9_9 true), pgro (gro40 (.row 0 1) order8 [next9_9] (o := .full) (n := 1) (ns := [.sc (.int .i64 next9_9)]) (layInt.wn [next9_9] (.r .nil)) rfl rfl (by simp) (by simpa using hl10))]) (by kernel_rfl) (k ([(jn jx_9 0), (jn jx_9 1), (jn jx_9 2), (jn jx_9 3), (jn jx_9 4), (jn jx_9 5), (jn jx_9 6), (jn jx_9 7), (jn jx_9 8), (jn jx_9 9), (jn jx_9 10), .bool false], [(gn jx_9 0), (gn jx_9 1), (gn jx_9 2)]) (plC (gn_pl hjx_9 0) (plC (gn_pl hjx_9 1) (plC (gn_pl hjx_9 2) rfl))))
 rintro v rfl
 dsimp only [lpK] at h
 cases h
 exact .outer (.rnd k)
 rintro ⟨⟩
 exact go_ex Hd.plainG [1, 6, 17, 23, 24, 26, 42, 51, 74, 84, 92, 94, 96, 102, 104, 112] [fq (gn_pl hj1 0), ⟨.sl (.row 0 1) order8.length (rows inC order8), .sl (.row 0 1) order8.length (rows inC order8), (.under (unSl rfl (under_plainL _ _ (layInt.plC order8))))⟩, fq (gn_pl hj1 1), fq (gn_pl hj1 2)] [fbu [.mp 3] (unC rfl rfl), ⟨(mbib w3_m), (mbib w3_m), (mB_fits (fun _ => rfl))⟩, fbu [.msl 1 0 c.arts.length] (unC rfl rfl), fbp (rows liinC w1_l_5) (layLInt.plC w1_l_5), fbp (coC c) (layCo.pl c)] 2 _ _ (runS 300 [pb hb4]) (by kernel_rfl) (k ([(jn j1 0), (jn j1 1), (jn j1 2), (jn j1 3), .bool false, (jn j1 5), (jn j1 6), (jn j1 7), (jn j1 8), (jn j1 9), (jn j1 10), (jn j1 11)], [(gn j1 0), (gn j1 1), (gn j1 2)]) (plC (gn_pl hj1 0) (plC (gn_pl hj1 1) (plC (gn_pl hj1 2) rfl))))
 rintro ⟨order8_11, w3_m_11⟩ rfl jx_11 hjx_11
 revert h
 clear hres
 dsimp only [lpK]
 intro h
 have hE := Option.some.inj h
 subst hE
 exact go_retA (v := .tup [.sl (.row 0 1) order8_11.length (rows inC order8_11), .sc (.bool true)]) _ _ (runX 300 []) (by kernel_rfl) .body (.wn (.u (.s rfl (.r .nil)) .nil) (plC (layInt.plS order8_11) (plC rfl rfl)))
 rintro v rfl
 dsimp only [lpK] at h
 cases h
 exact .outer .body
 rintro v rfl
 dsimp only [lpK] at h
 cases h
 exact .outer .body
 subst hv
 intro h
 have hE := Option.some.inj h
 subst hE
 exact go_retA (v := .tup [.sl .full 0 [], .sc (.bool true)]) _ _ (runS 300 [pcall (codex_Valid_step c false hy1)]) (by kernel_rfl) .body (.wn (.u (.z (.r .nil)) .nil) (plC (layInt.plS []) (plC rfl rfl)))
noncomputable def B37 : Code := bodyOf Tryz.f37
theorem b37 : Tryz.f37.body = some B37 := by kernel_rfl
noncomputable def law10_ringed_L3  (needs : (List (List Int))) (w0_l : (List Bool)) (i2 : Nat) (e2 : Int) (ready7 : Bool) : Option (Lp Bool Bool Bool) := cond ready7 ((idxN needs.length e2).bind fun k3 => (w0_l[k3]?).bind fun x4 => some (.nx x4)) (some (.nx false))
noncomputable def law10_ringed_L2  (needs : (List (List Int))) (i1 : Nat) (e1 : (List Int)) (again4 : Bool) (w0_l : (List Bool)) : Option (Lp (Bool × (List Bool)) (Bool × (List Bool)) Bool) := (w0_l[i1]?).bind fun x2 => cond x2 ((lim e1.length (foldL (fun i y x => law10_ringed_L3  needs w0_l i y x) (fun x => x) (e1.drop 0) 0 false)).bind (lpK (fun (ready7_5 : Bool) => cond ready7_5 (some (.nx (true, (w0_l.set i1 true)))) (some (.nx (again4, w0_l)))) (fun v => some (.rt v)))) ((lim e1.length (foldL (fun i y x => law10_ringed_L3  needs w0_l i y x) (fun x => x) (e1.drop 0) 0 true)).bind (lpK (fun (ready7_6 : Bool) => cond ready7_6 (some (.nx (true, (w0_l.set i1 true)))) (some (.nx (again4, w0_l)))) (fun v => some (.rt v))))
noncomputable def law10_ringed_L1  (needs : (List (List Int)))  (again4 : Bool) (w0_l : (List Bool)) : Option (Lp (Bool × (List Bool)) (List Bool) Bool) := cond again4 ((lim needs.length (foldL (fun i y x => law10_ringed_L2  needs i y x.1 x.2) (fun x => (x.1, x.2)) (needs.drop 0) 0 (false, w0_l))).bind (lpK (fun ((again4_7, w0_l_7) : (Bool × (List Bool))) => some (.nx (again4_7, w0_l_7))) (fun v => some (.rt v)))) (some (.ex w0_l))
noncomputable def law10_ringed_L4  (w0_l_8 : (List Bool)) (i3 : Nat)  : Option (Lp Unit Unit Bool) := (w0_l_8[i3]?).bind fun x9 => cond x9 (some (.nx ())) (some (.rt true))
noncomputable def law10_ringed_B  (needs : (List (List Int))) : Option Bool := limM (needs.length) ((fixL (fun x => law10_ringed_L1  needs x.1 x.2) (true, (List.replicate needs.length false))).bind (lpK (fun (w0_l_8 : (List Bool)) => (lim needs.length (cntL (fun i x => law10_ringed_L4  w0_l_8 i ) (fun x => ()) needs.length 0 ())).bind (lpK (fun (_ : Unit) => some false) (fun v => some v))) (fun v => some v)))
theorem law10_ringed_step   (needs : (List (List Int))) (yR : Bool) (h : law10_ringed_B  needs = some yR) : Pure P G 37 [.sl .lost needs.length (rows liinC needs)] (.sc (.bool yR)) := by
 unfold law10_ringed_B at h
 refine pureM Hd.mixed Hd.plainG (WC_body Tryz.func37 b37 ?_) (plC (layLInt.plS needs) rfl) rfl
 revert h
 refine limMI fun hl1 => ?_
 refine bndI fun res hres h => ?_
 refine go_at [] [0, 2, 3, 4, 7, 11, 15, 19, 26, 27, 31, 34, 35, 39, 40, 42, 50, 52, 53, 54] 0 (sub B37 [1, 1, 0, 1, 0, 0]) [.code (sub B37 [1, 1, 1])] _ _ (runS 300 [pmb (mkm71 (n := needs.length) hl1)]) (by kernel_rfl) (iterP (fn := Tryz.f37) (m := 0) (fun v => .sc (.bool v)) 0 (fun ((again4, w0_l) : (Bool × (List Bool))) (j0 : JJ) => frm 56 0 [(0, .sl .lost needs.length (rows liinC needs)), (3, .msl 0 0 needs.length), (4, .sc (.bool again4))] [2, 7, 11, 15, 19, 26, 27, 31, 34, 35, 39, 40, 42, 50, 52, 53, 54] 0 [] 0 j0) (fun ((again4, w0_l) : (Bool × (List Bool))) (_ : JJ) => ⟨[(0, (.cells (rows boC w0_l)))], 1, [], 0⟩) (fun (j : JJ) => plainL j.2 = true) (fun (w0_l : (List Bool)) (jx : JJ) => frm 56 0 [(3, .msl 0 0 needs.length)] [2, 4, 7, 11, 15, 19, 26, 27, 31, 34, 35, 39, 40, 42, 50, 52, 53, 54] 0 [] 0 jx) (fun (w0_l : (List Bool)) (_ : JJ) => ⟨[(0, (.cells (rows boC w0_l)))], 1, [], 0⟩) (fun (j : JJ) => plainL j.2 = true) ?_ hres ?_ ?_ ([.bool false], []) rfl)
 clear h hres
 rintro ⟨again4, w0_l⟩ j0 r hj0 h k
 refine WL_rnd ?_
 revert h
 show law10_ringed_L1  needs again4 w0_l = some r → _
 unfold law10_ringed_L1
 refine cndI (fun hv => ?_) fun hv => ?_
 subst hv
 refine bndI fun res hres h => ?_
 have hlen := (limE hres).1
 replace hres := (limE hres).2
 refine go_at [] [0, 2, 3, 4, 7, 11, 15, 16, 17, 18, 19, 26, 27, 31, 34, 35, 39, 40, 42, 50, 52, 53, 54] 2 (sub B37 [1, 1, 0, 1, 0, 0, 1, 0, 1, 1, 0, 0]) [.endb 1] _ _ (runS 300 []) (by kernel_rfl) (foldP (fn := Tryz.f37) (m := 0) (fun v => .sc (.bool v)) 2 needs (fun i1 ((again4, w0_l) : (Bool × (List Bool))) (j1 : JJ) => frm 56 0 [(0, .sl .lost needs.length (rows liinC needs)), (3, .msl 0 0 needs.length), (4, .sc (.bool again4)), (16, .sl .lost needs.length (rows liinC needs)), (17, .sc (.int .i64 ((needs.length : Nat) : Int))), (18, .sc (.int .i64 ((i1 : Nat) : Int)))] [2, 7, 11, 15, 19, 26, 27, 31, 34, 35, 39, 40, 42, 50, 52, 53, 54] 0 [] 0 j1) (fun (_ : Nat) ((again4, w0_l) : (Bool × (List Bool))) (_ : JJ) => ⟨[(0, (.cells (rows boC w0_l)))], 1, [], 0⟩) (fun (j : JJ) => plainL j.2 = true) (fun ((again4, w0_l) : (Bool × (List Bool))) (jx : JJ) => frm 56 0 [(0, .sl .lost needs.length (rows liinC needs)), (3, .msl 0 0 needs.length), (4, .sc (.bool again4))] [2, 7, 11, 15, 19, 26, 27, 31, 34, 35, 39, 40, 42, 50, 52, 53, 54] 0 [] 0 jx) (fun ((again4, w0_l) : (Bool × (List Bool))) (_ : JJ) => ⟨[(0, (.cells (rows boC w0_l)))], 1, [], 0⟩) (fun (j : JJ) => plainL j.2 = true) ?_ ?_ 0 hres ?_ ?_ ([(jn j0 0), (jn j0 1), (jn j0 2), .bool true, (jn j0 4), (jn j0 5), (jn j0 6), (jn j0 7), (jn j0 8), (jn j0 9), (jn j0 10), (jn j0 11), (jn j0 12), (jn j0 13), (jn j0 14), (jn j0 15), (jn j0 16)], []) rfl)
 rintro i1 ⟨again4, w0_l⟩ j1 hj1 hge hq
 clear h hres
 refine WL_rnd ?_
 exact go_ex Hd.plainG [1, 4, 6, 8, 14, 22, 30, 38, 52, 54, 62, 68, 70, 78, 80, 84, 100, 104, 106, 108] [fq (layLInt.plS needs)] [fbp (rows boC w0_l) (layBool.plC w0_l)] 2 _ _ (runS 300 [pb (B := ltI ((i1 : Nat) : Int) ((needs.length : Nat) : Int)) (b := false) (ltF hge)]) (by kernel_rfl) (hq ([(jn j1 0), (jn j1 1), (jn j1 2), (jn j1 3), .bool false, (jn j1 5), (jn j1 6), (jn j1 7), (jn j1 8), (jn j1 9), (jn j1 10), (jn j1 11), (jn j1 12), (jn j1 13), (jn j1 14), (jn j1 15), (jn j1 16)], []) rfl)
 clear h hres
 rintro i1 e1 ⟨again4, w0_l⟩ j1 r hj1 he1 hi1 h k
 refine WL_rnd ?_
 revert h
 show law10_ringed_L2  needs i1 e1 again4 w0_l = some r → _
 unfold law10_ringed_L2
 refine bndI fun x2 hx2 => ?_
 let o1 : List (PC P G) := [pb (B := ltI ((i1 : Nat) : Int) ((needs.length : Nat) : Int)) (b := true) (ltT hi1), pix (ix69 .lost he1), pix (ixm71 (id := 0) (n := needs.length) (i := i1) (by have := ltI_T (ltT hi1); omega)), plb (ldm71 hx2)]
 refine cndI (fun hv => ?_) fun hv => ?_
 subst hv
 refine bndI fun res hres h => ?_
 have hlen := (limE hres).1
 replace hres := (limE hres).2
 refine go_at [] [0, 2, 3, 4, 5, 7, 11, 15, 16, 17, 18, 19, 26, 27, 28, 29, 30, 31, 34, 35, 39, 40, 42, 50, 52, 53, 54] 4 (sub B37 [1, 1, 0, 1, 0, 0, 1, 0, 1, 1, 0, 0, 1, 1, 0, 0, 1, 1, 0, 1, 0, 0]) [.code (sub B37 [1, 1, 0, 1, 0, 0, 1, 0, 1, 1, 0, 0, 1, 1, 0, 0, 1, 1, 1]), .endb 3, .code (sub B37 [1, 1, 0, 1, 0, 0, 1, 0, 1, 1, 0, 0, 1, 1, 1])] _ _ (runS 300 o1) (by kernel_rfl) (foldP (fn := Tryz.f37) (m := 0) (fun v => .sc (.bool v)) 4 e1 (fun i2 (ready7 : Bool) (j2 : JJ) => frm 56 0 [(0, .sl .lost needs.length (rows liinC needs)), (3, .msl 0 0 needs.length), (4, .sc (.bool again4)), (5, .sc (.int .i64 ((i1 : Nat) : Int))), (7, .sc (.bool ready7)), (16, .sl .lost needs.length (rows liinC needs)), (17, .sc (.int .i64 ((needs.length : Nat) : Int))), (18, .sc (.int .i64 ((i1 : Nat) : Int))), (28, .sl .lost e1.length (rows inC e1)), (29, .sc (.int .i64 ((e1.length : Nat) : Int))), (30, .sc (.int .i64 ((i2 : Nat) : Int)))] [2, 11, 15, 19, 26, 27, 31, 34, 35, 39, 40, 42, 50, 52, 53, 54] 0 [] 0 j2) (fun (_ : Nat) (ready7 : Bool) (_ : JJ) => ⟨[(0, (.cells (rows boC w0_l)))], 1, [], 0⟩) (fun (j : JJ) => plainL j.2 = true) (fun (ready7 : Bool) (jx : JJ) => frm 56 0 [(0, .sl .lost needs.length (rows liinC needs)), (3, .msl 0 0 needs.length), (4, .sc (.bool again4)), (5, .sc (.int .i64 ((i1 : Nat) : Int))), (7, .sc (.bool ready7)), (16, .sl .lost needs.length (rows liinC needs)), (17, .sc (.int .i64 ((needs.length : Nat) : Int))), (18, .sc (.int .i64 ((i1 : Nat) : Int)))] [2, 11, 15, 19, 26, 27, 31, 34, 35, 39, 40, 42, 50, 52, 53, 54] 0 [] 0 jx) (fun (ready7 : Bool) (_ : JJ) => ⟨[(0, (.cells (rows boC w0_l)))], 1, [], 0⟩) (fun (j : JJ) => plainL j.2 = true) ?_ ?_ 0 hres ?_ ?_ ([(jn j1 0), (jn j1 2), (jn j1 3), .bool true, .bool true, .bool false, (jn j1 7), (jn j1 8), (jn j1 9), (jn j1 10), (jn j1 11), (jn j1 12), (jn j1 13), (jn j1 14), (jn j1 15), (jn j1 16)], []) rfl)
 rintro i2 ready7 j2 hj2 hge hq
 clear h hres
 refine WL_rnd ?_
 exact go_ex Hd.plainG [1, 4, 6, 8, 10, 14, 22, 30, 33, 34, 36, 38, 52, 54, 62, 68, 70, 78, 80, 84, 100, 104, 106, 108] [fq (layLInt.plS needs), fq (layLInt.plS needs)] [fbp (rows boC w0_l) (layBool.plC w0_l)] 4 _ _ (runS 300 [pb (B := ltI ((i2 : Nat) : Int) ((e1.length : Nat) : Int)) (b := false) (ltF hge)]) (by kernel_rfl) (hq ([(jn j2 0), (jn j2 1), (jn j2 2), (jn j2 3), (jn j2 4), (jn j2 5), .bool false, (jn j2 7), (jn j2 8), (jn j2 9), (jn j2 10), (jn j2 11), (jn j2 12), (jn j2 13), (jn j2 14), (jn j2 15)], []) rfl)
 clear h hres
 rintro i2 e2 ready7 j2 r hj2 he2 hi2 h k
 refine WL_rnd ?_
 revert h
 show law10_ringed_L3  needs w0_l i2 e2 ready7 = some r → _
 unfold law10_ringed_L3
 let o2 : List (PC P G) := [pb (B := ltI ((i2 : Nat) : Int) ((e1.length : Nat) : Int)) (b := true) (ltT hi2), pix (ix40 .lost he2)]
 refine cndI (fun hv => ?_) fun hv => ?_
 subst hv
 refine bndI fun k3 hk3 => ?_
 refine bndI fun x4 hx4 => ?_
 rintro ⟨⟩
 exact go_nx Hd.plainG [1, 4, 6, 8, 10, 14, 22, 30, 33, 34, 36, 38, 52, 54, 57, 58, 60, 62, 68, 70, 78, 80, 84, 100, 104, 106, 108] [fq (layLInt.plS needs), fq (layLInt.plS needs), fq (layInt.plS e1)] [fbp (rows boC w0_l) (layBool.plC w0_l)] _ _ (runS 300 (o2 ++ [pix (ixmz71 (id := 0) hk3), plb (ldm71 hx4), pinc i2 (by omega)])) (by kernel_rfl) (k ([(jn j2 0), (jn j2 1), (jn j2 2), (jn j2 3), (jn j2 4), (jn j2 5), .bool true, .bool true, .bool true, .bool x4, .bool x4, (jn j2 11), (jn j2 12), (jn j2 13), (jn j2 14), (jn j2 15)], []) rfl)
 subst hv
 rintro ⟨⟩
 exact go_nx Hd.plainG [1, 4, 6, 8, 10, 14, 22, 30, 33, 34, 36, 38, 52, 54, 57, 58, 60, 62, 68, 70, 78, 80, 84, 100, 104, 106, 108] [fq (layLInt.plS needs), fq (layLInt.plS needs), fq (layInt.plS e1)] [fbp (rows boC w0_l) (layBool.plC w0_l)] _ _ (runS 300 (o2 ++ [pinc i2 (by omega)])) (by kernel_rfl) (k ([(jn j2 0), (jn j2 1), (jn j2 2), (jn j2 3), (jn j2 4), (jn j2 5), .bool true, .bool false, .bool false, undef, .bool false, (jn j2 11), (jn j2 12), (jn j2 13), (jn j2 14), (jn j2 15)], []) rfl)
 rintro ready7_5 rfl jx_5 hjx_5
 revert h
 clear hres
 dsimp only [lpK]
 refine cndI (fun hv => ?_) fun hv => ?_
 subst hv
 rintro ⟨⟩
 exact go_nx Hd.plainG [1, 4, 6, 8, 14, 22, 30, 33, 34, 36, 38, 52, 54, 62, 68, 70, 78, 80, 84, 100, 104, 106, 108] [fq (layLInt.plS needs), fq (layLInt.plS needs)] [fbp (rows boC (w0_l.set i1 true)) (layBool.plC (w0_l.set i1 true))] _ _ (runX 300 [pix (ixm71 (id := 0) (n := needs.length) (i := i1) (by have := ltI_T (ltT hi1); omega)), psb (stm71 hx2 true), pinc i1 (by omega)]) (by kernel_rfl) (k ([(jn jx_5 0), .bool true, (jn jx_5 1), (jn jx_5 2), (jn jx_5 3), (jn jx_5 4), (jn jx_5 5), (jn jx_5 6), (jn jx_5 7), (jn jx_5 8), (jn jx_5 9), (jn jx_5 10), .bool true, (jn jx_5 12), (jn jx_5 13), (jn jx_5 14), (jn jx_5 15)], []) rfl)
 subst hv
 rintro ⟨⟩
 exact go_nx Hd.plainG [1, 4, 6, 8, 14, 22, 30, 33, 34, 36, 38, 52, 54, 62, 68, 70, 78, 80, 84, 100, 104, 106, 108] [fq (layLInt.plS needs), fq (layLInt.plS needs)] [fbp (rows boC w0_l) (layBool.plC w0_l)] _ _ (runX 300 [pinc i1 (by omega)]) (by kernel_rfl) (k ([(jn jx_5 0), .bool false, (jn jx_5 1), (jn jx_5 2), (jn jx_5 3), (jn jx_5 4), (jn jx_5 5), (jn jx_5 6), (jn jx_5 7), (jn jx_5 8), (jn jx_5 9), (jn jx_5 10), .bool false, (jn jx_5 12), (jn jx_5 13), (jn jx_5 14), (jn jx_5 15)], []) rfl)
 rintro v rfl
 dsimp only [lpK] at h
 cases h
 exact .outer (.rnd k)
 subst hv
 refine bndI fun res hres h => ?_
 have hlen := (limE hres).1
 replace hres := (limE hres).2
 refine go_at [] [0, 2, 3, 4, 5, 7, 11, 15, 16, 17, 18, 19, 26, 27, 28, 29, 30, 31, 34, 35, 39, 40, 42, 50, 52, 53, 54] 4 (sub B37 [1, 1, 0, 1, 0, 0, 1, 0, 1, 1, 0, 0, 1, 1, 0, 0, 1, 1, 0, 1, 0, 0]) [.code (sub B37 [1, 1, 0, 1, 0, 0, 1, 0, 1, 1, 0, 0, 1, 1, 0, 0, 1, 1, 1]), .endb 3, .code (sub B37 [1, 1, 0, 1, 0, 0, 1, 0, 1, 1, 0, 0, 1, 1, 1])] _ _ (runS 300 o1) (by kernel_rfl) (foldP (fn := Tryz.f37) (m := 0) (fun v => .sc (.bool v)) 4 e1 (fun i2 (ready7 : Bool) (j2 : JJ) => frm 56 0 [(0, .sl .lost needs.length (rows liinC needs)), (3, .msl 0 0 needs.length), (4, .sc (.bool again4)), (5, .sc (.int .i64 ((i1 : Nat) : Int))), (7, .sc (.bool ready7)), (16, .sl .lost needs.length (rows liinC needs)), (17, .sc (.int .i64 ((needs.length : Nat) : Int))), (18, .sc (.int .i64 ((i1 : Nat) : Int))), (28, .sl .lost e1.length (rows inC e1)), (29, .sc (.int .i64 ((e1.length : Nat) : Int))), (30, .sc (.int .i64 ((i2 : Nat) : Int)))] [2, 11, 15, 19, 26, 27, 31, 34, 35, 39, 40, 42, 50, 52, 53, 54] 0 [] 0 j2) (fun (_ : Nat) (ready7 : Bool) (_ : JJ) => ⟨[(0, (.cells (rows boC w0_l)))], 1, [], 0⟩) (fun (j : JJ) => plainL j.2 = true) (fun (ready7 : Bool) (jx : JJ) => frm 56 0 [(0, .sl .lost needs.length (rows liinC needs)), (3, .msl 0 0 needs.length), (4, .sc (.bool again4)), (5, .sc (.int .i64 ((i1 : Nat) : Int))), (7, .sc (.bool ready7)), (16, .sl .lost needs.length (rows liinC needs)), (17, .sc (.int .i64 ((needs.length : Nat) : Int))), (18, .sc (.int .i64 ((i1 : Nat) : Int)))] [2, 11, 15, 19, 26, 27, 31, 34, 35, 39, 40, 42, 50, 52, 53, 54] 0 [] 0 jx) (fun (ready7 : Bool) (_ : JJ) => ⟨[(0, (.cells (rows boC w0_l)))], 1, [], 0⟩) (fun (j : JJ) => plainL j.2 = true) ?_ ?_ 0 hres ?_ ?_ ([(jn j1 0), (jn j1 2), (jn j1 3), .bool true, .bool false, .bool true, (jn j1 7), (jn j1 8), (jn j1 9), (jn j1 10), (jn j1 11), (jn j1 12), (jn j1 13), (jn j1 14), (jn j1 15), (jn j1 16)], []) rfl)
 rintro i2 ready7 j2 hj2 hge hq
 clear h hres
 refine WL_rnd ?_
 exact go_ex Hd.plainG [1, 4, 6, 8, 10, 14, 22, 30, 33, 34, 36, 38, 52, 54, 62, 68, 70, 78, 80, 84, 100, 104, 106, 108] [fq (layLInt.plS needs), fq (layLInt.plS needs)] [fbp (rows boC w0_l) (layBool.plC w0_l)] 4 _ _ (runS 300 [pb (B := ltI ((i2 : Nat) : Int) ((e1.length : Nat) : Int)) (b := false) (ltF hge)]) (by kernel_rfl) (hq ([(jn j2 0), (jn j2 1), (jn j2 2), (jn j2 3), (jn j2 4), (jn j2 5), .bool false, (jn j2 7), (jn j2 8), (jn j2 9), (jn j2 10), (jn j2 11), (jn j2 12), (jn j2 13), (jn j2 14), (jn j2 15)], []) rfl)
 clear h hres
 rintro i2 e2 ready7 j2 r hj2 he2 hi2 h k
 refine WL_rnd ?_
 revert h
 show law10_ringed_L3  needs w0_l i2 e2 ready7 = some r → _
 unfold law10_ringed_L3
 let o3 : List (PC P G) := [pb (B := ltI ((i2 : Nat) : Int) ((e1.length : Nat) : Int)) (b := true) (ltT hi2), pix (ix40 .lost he2)]
 refine cndI (fun hv => ?_) fun hv => ?_
 subst hv
 refine bndI fun k3 hk3 => ?_
 refine bndI fun x4 hx4 => ?_
 rintro ⟨⟩
 exact go_nx Hd.plainG [1, 4, 6, 8, 10, 14, 22, 30, 33, 34, 36, 38, 52, 54, 57, 58, 60, 62, 68, 70, 78, 80, 84, 100, 104, 106, 108] [fq (layLInt.plS needs), fq (layLInt.plS needs), fq (layInt.plS e1)] [fbp (rows boC w0_l) (layBool.plC w0_l)] _ _ (runS 300 (o3 ++ [pix (ixmz71 (id := 0) hk3), plb (ldm71 hx4), pinc i2 (by omega)])) (by kernel_rfl) (k ([(jn j2 0), (jn j2 1), (jn j2 2), (jn j2 3), (jn j2 4), (jn j2 5), .bool true, .bool true, .bool true, .bool x4, .bool x4, (jn j2 11), (jn j2 12), (jn j2 13), (jn j2 14), (jn j2 15)], []) rfl)
 subst hv
 rintro ⟨⟩
 exact go_nx Hd.plainG [1, 4, 6, 8, 10, 14, 22, 30, 33, 34, 36, 38, 52, 54, 57, 58, 60, 62, 68, 70, 78, 80, 84, 100, 104, 106, 108] [fq (layLInt.plS needs), fq (layLInt.plS needs), fq (layInt.plS e1)] [fbp (rows boC w0_l) (layBool.plC w0_l)] _ _ (runS 300 (o3 ++ [pinc i2 (by omega)])) (by kernel_rfl) (k ([(jn j2 0), (jn j2 1), (jn j2 2), (jn j2 3), (jn j2 4), (jn j2 5), .bool true, .bool false, .bool false, undef, .bool false, (jn j2 11), (jn j2 12), (jn j2 13), (jn j2 14), (jn j2 15)], []) rfl)
 rintro ready7_6 rfl jx_6 hjx_6
 revert h
 clear hres
 dsimp only [lpK]
 refine cndI (fun hv => ?_) fun hv => ?_
 subst hv
 rintro ⟨⟩
 exact go_nx Hd.plainG [1, 4, 6, 8, 14, 22, 30, 33, 34, 36, 38, 52, 54, 62, 68, 70, 78, 80, 84, 100, 104, 106, 108] [fq (layLInt.plS needs), fq (layLInt.plS needs)] [fbp (rows boC (w0_l.set i1 true)) (layBool.plC (w0_l.set i1 true))] _ _ (runX 300 [pix (ixm71 (id := 0) (n := needs.length) (i := i1) (by have := ltI_T (ltT hi1); omega)), psb (stm71 hx2 true), pinc i1 (by omega)]) (by kernel_rfl) (k ([(jn jx_6 0), .bool true, (jn jx_6 1), (jn jx_6 2), (jn jx_6 3), (jn jx_6 4), (jn jx_6 5), (jn jx_6 6), (jn jx_6 7), (jn jx_6 8), (jn jx_6 9), (jn jx_6 10), .bool true, (jn jx_6 12), (jn jx_6 13), (jn jx_6 14), (jn jx_6 15)], []) rfl)
 subst hv
 rintro ⟨⟩
 exact go_nx Hd.plainG [1, 4, 6, 8, 14, 22, 30, 33, 34, 36, 38, 52, 54, 62, 68, 70, 78, 80, 84, 100, 104, 106, 108] [fq (layLInt.plS needs), fq (layLInt.plS needs)] [fbp (rows boC w0_l) (layBool.plC w0_l)] _ _ (runX 300 [pinc i1 (by omega)]) (by kernel_rfl) (k ([(jn jx_6 0), .bool false, (jn jx_6 1), (jn jx_6 2), (jn jx_6 3), (jn jx_6 4), (jn jx_6 5), (jn jx_6 6), (jn jx_6 7), (jn jx_6 8), (jn jx_6 9), (jn jx_6 10), .bool false, (jn jx_6 12), (jn jx_6 13), (jn jx_6 14), (jn jx_6 15)], []) rfl)
 rintro v rfl
 dsimp only [lpK] at h
 cases h
 exact .outer (.rnd k)
 rintro ⟨again4_7, w0_l_7⟩ rfl jx_7 hjx_7
 revert h
 clear hres
 dsimp only [lpK]
 rintro ⟨⟩
 exact go_nx Hd.plainG [1, 4, 6, 8, 14, 22, 30, 38, 52, 54, 62, 68, 70, 78, 80, 84, 100, 104, 106, 108] [fq (layLInt.plS needs)] [fbp (rows boC w0_l_7) (layBool.plC w0_l_7)] _ _ (runX 300 []) (by kernel_rfl) (k ([(jn jx_7 0), (jn jx_7 1), (jn jx_7 2), (jn jx_7 3), (jn jx_7 4), (jn jx_7 5), (jn jx_7 6), (jn jx_7 7), (jn jx_7 8), (jn jx_7 9), (jn jx_7 10), (jn jx_7 11), (jn jx_7 12), (jn jx_7 13), (jn jx_7 14), (jn jx_7 15), (jn jx_7 16)], []) rfl)
 rintro v rfl
 dsimp only [lpK] at h
 cases h
 exact .outer (.rnd k)
 subst hv
 rintro ⟨⟩
 exact go_ex Hd.plainG [4, 6, 8, 14, 22, 30, 38, 52, 54, 62, 68, 70, 78, 80, 84, 100, 104, 106, 108] [] [fbp (rows boC w0_l) (layBool.plC w0_l)] 0 _ _ (runS 300 []) (by kernel_rfl) (k ([(jn j0 0), .bool false, (jn j0 1), (jn j0 2), .bool false, (jn j0 4), (jn j0 5), (jn j0 6), (jn j0 7), (jn j0 8), (jn j0 9), (jn j0 10), (jn j0 11), (jn j0 12), (jn j0 13), (jn j0 14), (jn j0 15), (jn j0 16)], []) rfl)
 rintro w0_l_8 rfl jx_8 hjx_8
 revert h
 clear hres
 dsimp only [lpK]
 refine bndI fun res hres h => ?_
 have hlen := (limE hres).1
 replace hres := (limE hres).2
 refine go_at [] [2, 4, 7, 11, 15, 19, 26, 27, 31, 34, 35, 39, 40, 42, 47, 48, 49, 50, 52, 53, 54] 6 (sub B37 [1, 1, 1, 0, 1, 0, 0]) [.code (sub B37 [1, 1, 1, 1])] _ _ (runX 300 []) (by kernel_rfl) (cntP (fn := Tryz.f37) (m := 0) (fun v => .sc (.bool v)) 6 needs.length (fun i3 (_ : Unit) (j3 : JJ) => frm 56 0 [(47, .msl 0 0 needs.length), (48, .sc (.int .i64 ((needs.length : Nat) : Int))), (49, .sc (.int .i64 ((i3 : Nat) : Int)))] [2, 4, 7, 11, 15, 19, 26, 27, 31, 34, 35, 39, 40, 42, 50, 52, 53, 54] 0 [] 0 j3) (fun (_ : Nat) (_ : Unit) (_ : JJ) => ⟨[(0, (.cells (rows boC w0_l_8)))], 1, [], 0⟩) (fun (j : JJ) => plainL j.2 = true) (fun (_ : Unit) (jx : JJ) => frm 56 0 [] [2, 4, 7, 11, 15, 19, 26, 27, 31, 34, 35, 39, 40, 42, 50, 52, 53, 54] 0 [] 0 jx) (fun (_ : Unit) (_ : JJ) => ⟨[(0, (.cells (rows boC w0_l_8)))], 1, [], 0⟩) (fun (j : JJ) => plainL j.2 = true) ?_ ?_ hres ?_ ?_ ([(jn jx_8 0), (jn jx_8 1), (jn jx_8 2), (jn jx_8 3), (jn jx_8 4), (jn jx_8 5), (jn jx_8 6), (jn jx_8 7), (jn jx_8 8), (jn jx_8 9), (jn jx_8 10), (jn jx_8 11), (jn jx_8 12), (jn jx_8 13), (jn jx_8 14), (jn jx_8 15), (jn jx_8 16), (jn jx_8 17)], []) rfl)
 rintro ⟨⟩ j3 hj3 hq
 clear h hres
 have hge := Nat.le_refl needs.length
 refine WL_rnd ?_
 exact go_ex Hd.plainG [4, 8, 14, 22, 30, 38, 52, 54, 62, 68, 70, 78, 80, 84, 100, 104, 106, 108] [] [fbp (rows boC w0_l_8) (layBool.plC w0_l_8)] 6 _ _ (runS 300 [pb (B := ltI ((needs.length : Nat) : Int) ((needs.length : Nat) : Int)) (b := false) (ltF hge)]) (by kernel_rfl) (hq ([(jn j3 0), (jn j3 1), (jn j3 2), (jn j3 3), (jn j3 4), (jn j3 5), (jn j3 6), (jn j3 7), (jn j3 8), (jn j3 9), (jn j3 10), (jn j3 11), (jn j3 12), (jn j3 13), .bool false, (jn j3 15), (jn j3 16), (jn j3 17)], []) rfl)
 clear h hres
 rintro i3 ⟨⟩ j3 r hj3 hi3 h k
 refine WL_rnd ?_
 revert h
 show law10_ringed_L4  w0_l_8 i3  = some r → _
 unfold law10_ringed_L4
 refine bndI fun x9 hx9 => ?_
 let o4 : List (PC P G) := [pb (B := ltI ((i3 : Nat) : Int) ((needs.length : Nat) : Int)) (b := true) (ltT hi3), pix (ixm71 (id := 0) (n := needs.length) (i := i3) (by have := ltI_T (ltT hi3); omega)), plb (ldm71 hx9)]
 refine cndI (fun hv => ?_) fun hv => ?_
 subst hv
 rintro ⟨⟩
 exact go_nx Hd.plainG [4, 8, 14, 22, 30, 38, 52, 54, 62, 68, 70, 78, 80, 84, 94, 96, 98, 100, 104, 106, 108] [] [fbp (rows boC w0_l_8) (layBool.plC w0_l_8)] _ _ (runS 300 (o4 ++ [pinc i3 (by omega)])) (by kernel_rfl) (k ([(jn j3 0), (jn j3 1), (jn j3 2), .bool true, (jn j3 4), (jn j3 5), (jn j3 6), (jn j3 7), (jn j3 8), (jn j3 9), (jn j3 10), (jn j3 11), (jn j3 12), (jn j3 13), .bool true, .bool true, .bool true, .bool false], []) rfl)
 subst hv
 rintro ⟨⟩
 exact go_retA _ _ (runS 300 o4) (by kernel_rfl) (.rnd k) .sc
 rintro ⟨⟩ rfl jx_10 hjx_10
 revert h
 clear hres
 dsimp only [lpK]
 intro h
 have hE := Option.some.inj h
 subst hE
 exact go_retA _ _ (runX 300 []) (by kernel_rfl) .body .sc
 rintro v rfl
 dsimp only [lpK] at h
 cases h
 exact .outer .body
 rintro v rfl
 dsimp only [lpK] at h
 cases h
 exact .outer .body
end Mo
end Go.Proofs.YtnijkdknnmgoeaaGreat
namespace Go.Proofs.YtnijkdknnmgoeaaGreat
open AI Go
namespace Mo
theorem lower_s (c : Int) : ref06_Lower_B c = some (mb (97 ≤ c ∧ c ≤ 122)) := by
 unfold ref06_Lower_B
 simp only [c_le, c_lt, c_eq, c_eqB, c_mb, m_tf, m_ff, m_qf, m_fq, m_qt, m_tq, m_qr, Option.bind_some]
theorem digit_s (c : Int) : ref06_Digit_B c = some (mb (48 ≤ c ∧ c ≤ 57)) := by
 unfold ref06_Digit_B
 simp only [c_le, c_lt, c_eq, c_eqB, c_mb, m_tf, m_ff, m_qf, m_fq, m_qt, m_tq, m_qr, Option.bind_some]
theorem upper_s (c : Int) : ref06_Upper_B c = some (mb (65 ≤ c ∧ c ≤ 90)) := by
 unfold ref06_Upper_B
 simp only [c_le, c_lt, c_eq, c_eqB, c_mb, m_tf, m_ff, m_qf, m_fq, m_qt, m_tq, m_qr, Option.bind_some]
theorem in_s (l : List ByteArray) (s : ByteArray) (hl : l.length ≤ 9223372036854775807) : ref07_In_B l s = some (mb (s ∈ l)) := by
 unfold ref07_In_B
 rw [k_loop (v := true) (P := fun _ y => ¬ y = s) hl (fun i y _ => by
   unfold ref07_In_L1
   simp only [c_eqB, k_rn])]
 simp only [m_ff]
 congr 1
 apply mb_congr
 constructor
 · intro h
   exact Classical.byContradiction fun hn => h fun i y hy e => hn (e ▸ List.mem_of_getElem? hy)
 · intro h hn
   obtain ⟨i, hi⟩ := List.getElem?_of_mem h
   exact hn i s hi rfl
def curP (s : ByteArray) : Prop := s.data.toList.length = 3 ∧ ∀ c ∈ s.data.toList, 65 ≤ c.toNat ∧ c.toNat ≤ 90
theorem cur_s (s : ByteArray) : ref07_Cur_B s = some (mb (curP s)) := by
 unfold ref07_Cur_B
 rw [c_eq]
 unfold curP
 by_cases h : s.data.toList.length = 3
 · rw [iff_T (by omega)]
   generalize s.data.toList = l at h
   match l, h with
   | [a, b, c], _ =>
     simp only [List.getElem?_cons_zero, List.getElem?_cons_succ, Option.bind_some, upper_s, c_mb, m_qf]
     congr 1
     apply mb_congr
     simp only [List.length_cons, List.length_nil, List.mem_cons, List.not_mem_nil, or_false, true_and, forall_eq_or_imp, forall_eq]
     omega
 · rw [iff_F (by omega)]
   congr 1
   cases hm : mb (s.data.toList.length = 3 ∧ ∀ c ∈ s.data.toList, 65 ≤ c.toNat ∧ c.toNat ≤ 90)
   · rfl
   · exact absurd (mb_true.1 hm).1 h
def unitP (s : ByteArray) : Prop := s = truthS ∨ s = numberS ∨ s = minutesS ∨ curP s
theorem unit_s (s : ByteArray) : ref10_Unit_B s = some (mb (unitP s)) := by
 unfold ref10_Unit_B
 simp only [c_eqB, cur_s, Option.bind_some, m_tq]
 rfl
def wordN (c : UInt8) : Prop := (97 ≤ c.toNat ∧ c.toNat ≤ 122) ∨ (48 ≤ c.toNat ∧ c.toNat ≤ 57) ∨ c.toNat = 95
def keysL : List ByteArray := [factS, lineS, articleS, forS, rankS, fromS, toS, knownS, whenS, unlessS, amountS, truthS, numberS, minutesS, minS, earnS, deductS, floorS, infoS, orS, andS, notS, atS, trueS, falseS, artS, weekdayS, dayS, monthS, yearS, leastS, greatestS, tableS]
def nameP (s : ByteArray) : Prop := (1 ≤ s.data.toList.length ∧ s.data.toList.length ≤ 16) ∧ (∃ b, s.data.toList[0]? = some b ∧ 97 ≤ b.toNat ∧ b.toNat ≤ 122) ∧ s ∉ keysL ∧ ∀ c ∈ s.data.toList, wordN c
theorem mem_at {α : Type} {l : List α} {P : α → Prop} : (∀ (i : Nat) (y : α), l[i]? = some y → P y) ↔ ∀ y ∈ l, P y :=
 ⟨fun h y hy => (List.getElem?_of_mem hy).elim fun i hi => h i y hi, fun h i y hi => h y (List.mem_of_getElem? hi)⟩
theorem keys_s : ref07_Keys_B = some keysL := rfl
theorem name_s (s : ByteArray) : ref07_Name_B s = some (mb (nameP s)) := by
 unfold ref07_Name_B
 rw [c_lt, c_lt]
 unfold nameP
 by_cases h0 : ((s.data.toList.length : Nat) : Int) < 1
 · rw [iff_T h0, mbF]
   congr 1
   exact mb_congr ⟨fun h => h.elim, fun h => by omega⟩
 rw [iff_F h0]
 by_cases h1 : 16 < ((s.data.toList.length : Nat) : Int)
 · rw [iff_T h1, mbF]
   congr 1
   exact mb_congr ⟨fun h => h.elim, fun h => by omega⟩
 rw [iff_F h1]
 obtain ⟨b, hb⟩ : ∃ b, s.data.toList[0]? = some b := ⟨_, List.getElem?_eq_getElem (by omega)⟩
 rw [hb, k_loop (v := false) (P := fun _ y => wordN y) (by omega) (fun i y _ => by
   unfold ref07_Name_L1
   simp only [lower_s, digit_s, Option.bind_some, c_mb, c_eq, k_nr, k_nq]
   congr 2
   unfold wordN
   apply propext
   omega)]
 simp only [Option.bind_some, lower_s, keys_s, in_s keysL s (by decide), c_mb, m_tf, m_fq, m_qf, mem_at]
 congr 1
 apply mb_congr
 constructor
 · rintro ⟨h2, h3, h4⟩
   exact ⟨by omega, ⟨b, rfl, by omega⟩, h3, h4⟩
 · rintro ⟨h2, ⟨c, hc, h3⟩, h4, h5⟩
   cases hc
   exact ⟨by omega, h4, h5⟩
end Mo
end Go.Proofs.YtnijkdknnmgoeaaGreat
namespace Go.Proofs.YtnijkdknnmgoeaaGreat
open AI Go
namespace Mo
set_option maxRecDepth 100000
set_option maxHeartbeats 4000000
def okDc (_ : Dc) : Prop := True
def okPc (_ : Pc) : Prop := True
def okFn (x : Fn) : Prop := x.ps.length ≤ 9223372036854775807
mutual
def okEx : Ex → Prop
 | ⟨op, n, unit, tab, kids⟩ => okFn tab ∧ kids.length ≤ 9223372036854775807 ∧ okExs kids
def okExs : List Ex → Prop
 | [] => True
 | k :: ks => okEx k ∧ okExs ks
end
theorem okExs_iff {l : List Ex} : okExs l ↔ ∀ k ∈ l, okEx k := by
 induction l with
 | nil => simp [okExs]
 | cons k l ih => simp [okExs, ih]
theorem okEx_iff (x : Ex) : okEx x ↔ okFn x.tab ∧ x.kids.length ≤ 9223372036854775807 ∧ ∀ y ∈ x.kids, okEx y := by
 cases x; rw [okEx, okExs_iff]
def okAr (x : Ar) : Prop := x.wh.length ≤ 9223372036854775807 ∧ (∀ y ∈ x.wh, okEx y) ∧ x.un.length ≤ 9223372036854775807 ∧ okEx x.am
def okCo (x : Co) : Prop := x.facts.length ≤ 9223372036854775807 ∧ x.lines.length ≤ 9223372036854775807 ∧ x.arts.length ≤ 9223372036854775807 ∧ (∀ y ∈ x.arts, okAr y)
end Mo
end Go.Proofs.YtnijkdknnmgoeaaGreat
namespace Go.Proofs.YtnijkdknnmgoeaaGreat
open AI Go
namespace Mo
mutual
def cnt : Ex → Nat
 | ⟨_, _, _, _, ks⟩ => 1 + cntS ks
def cntS : List Ex → Nat
 | [] => 0
 | k :: ks => cnt k + cntS ks
end
mutual
def dp : Ex → Nat
 | ⟨_, _, _, _, ks⟩ => 1 + dpS ks
def dpS : List Ex → Nat
 | [] => 0
 | k :: ks => max (dp k) (dpS ks)
end
abbrev okE := okEx
abbrev okS := okExs
theorem cnt_eq (e : Ex) : cnt e = 1 + cntS e.kids := by cases e; rw [cnt]
theorem dp_eq (e : Ex) : dp e = 1 + dpS e.kids := by cases e; rw [dp]
theorem okS_iff {l : List Ex} : okS l ↔ ∀ k ∈ l, okE k := okExs_iff
theorem okE_iff (e : Ex) : okE e ↔ e.tab.ps.length ≤ 9223372036854775807 ∧ e.kids.length ≤ 9223372036854775807 ∧ ∀ k ∈ e.kids, okE k := okEx_iff e
theorem cntS_app (l m : List Ex) : cntS (l ++ m) = cntS l + cntS m := by
 induction l with
 | nil => simp [cntS]
 | cons k l ih => simp only [List.cons_append, cntS, ih]; omega
theorem cntS_step {l : List Ex} {i : Nat} {y : Ex} (h : l[i]? = some y) : cntS (l.take (i + 1)) = cntS (l.take i) + cnt y := by
 rw [List.take_add_one, h, cntS_app]; simp [cntS]
theorem cntS_take (l : List Ex) (i : Nat) : cntS (l.take i) ≤ cntS l := by
 have := cntS_app (l.take i) (l.drop i)
 rw [List.take_append_drop] at this
 omega
theorem cntS_mem {l : List Ex} {k : Ex} (h : k ∈ l) : cnt k ≤ cntS l := by
 induction l with
 | nil => cases h
 | cons a l ih =>
   rw [cntS]
   rcases List.mem_cons.1 h with rfl | h
   · omega
   · have := ih h; omega
theorem dpS_le {l : List Ex} {d : Nat} : dpS l ≤ d ↔ ∀ k ∈ l, dp k ≤ d := by
 induction l with
 | nil => simp [dpS]
 | cons k l ih => simp only [dpS, List.mem_cons, forall_eq_or_imp, ← ih]; omega
theorem cnt_kid {e k : Ex} (h : k ∈ e.kids) : cnt k < cnt e := by
 have := cntS_mem h
 rw [cnt_eq e]; omega
theorem cnt_pos (e : Ex) : 0 < cnt e := by rw [cnt_eq]; omega
theorem count_m : ∀ (n : Nat) (e : Ex) (l : Int), okE e → cnt e ≤ n → l ≤ 1000000 → ref10_Count_M n e l = some (max 0 (min ((cnt e : Nat) : Int) l)) := by
 intro n
 induction n with
 | zero => intro e l _ h; have := cnt_pos e; omega
 | succ n ih =>
   intro e l hok hn hl
   obtain ⟨_, hk, hks⟩ := (okE_iff e).1 hok
   have hp := cnt_eq e
   rw [ref10_Count_M, ref10_Count_B, Sp_eq]
   simp only [leI_mb, c_mb, Sp_iff, Sp_some]
   refine ⟨fun h => by omega, fun h => ?_⟩
   refine Sp_loop (fun i x => x = min (((1 + cntS (e.kids.take i) : Nat)) : Int) l) hk (by simp [cntS]; omega) (fun i y x hy hx => ?_) (fun x hx => ?_)
   · have hm := List.mem_of_getElem? hy
     have h1 := cntS_step hy
     have h2 := cntS_take e.kids (i + 1)
     have h3 := cnt_kid hm
     simp only [ref10_Count_L1, ltI_mb, c_mb, Sp_iff, Sp_bind, Sp_some, RQ_nx, RQ_ex]
     refine ⟨fun h4 => ?_, fun h4 => by omega⟩
     rw [wsub_in (by omega), ih y (l - x) (hks y hm) (by omega) (by omega), Sp_some, wadd_in (by omega)]
     omega
   · rw [List.take_length] at hx
     rw [Sp_some]; omega
theorem count_s (e : Ex) (l : Int) (h : okE e) (hl : l ≤ 1000000) : ref10_Count_R e l = some (max 0 (min ((cnt e : Nat) : Int) l)) :=
 evt_of (cnt e) fun n hn => count_m n e l h hn hl
theorem small_s (e : Ex) (l : Int) (h : okE e) (hl : 0 ≤ l ∧ l < 1000000) : ref10_Small_B e l = some (mb (((cnt e : Nat) : Int) ≤ l)) := by
 rw [ref10_Small_B, wadd_in (by omega), count_s e _ h (by omega), Sp_eq]
 simp only [leI_mb, c_mb, Sp_iff, Sp_some, Sp_bind, true_is_mb, false_is_mb]
 omega
theorem flat_m : ∀ (n : Nat) (e : Ex) (l : Int), okE e → cnt e ≤ n → -1000000 ≤ l → l ≤ 1000000 → ref10_Flat_M n e l = some (mb (((dp e : Nat) : Int) ≤ l)) := by
 intro n
 induction n with
 | zero => intro e l _ h; have := cnt_pos e; omega
 | succ n ih =>
   intro e l hok hn hl0 hl
   obtain ⟨_, hk, hks⟩ := (okE_iff e).1 hok
   have hp := dp_eq e
   rw [ref10_Flat_M, ref10_Flat_B, ltI_mb, c_mb]
   by_cases h : l < 1
   · rw [iff_T h]; refine smbF ?_; omega
   rw [iff_F h, k_loop (v := false) (P := fun _ y => ((dp y : Nat) : Int) ≤ l - 1) hk (fun i y hy => by
     have hm := List.mem_of_getElem? hy
     have h3 := cnt_kid hm
     simp only [ref10_Flat_L1]
     rw [wsub_in (by omega), ih y (l - 1) (hks y hm) (by omega) (by omega) (by omega)]
     simp only [Option.bind_some, c_mb, k_nr]), m_tf, mem_at]
   refine smb ?_
   have h4 : (∀ k ∈ e.kids, ((dp k : Nat) : Int) ≤ l - 1) ↔ dpS e.kids ≤ (l - 1).toNat := by
     rw [dpS_le]
     exact ⟨fun h k hk => by have := h k hk; omega, fun h k hk => by have := h k hk; omega⟩
   rw [h4]
   omega
theorem flat_s (e : Ex) (l : Int) (h : okE e) (hl : -1000000 ≤ l ∧ l ≤ 1000000) : ref10_Flat_R e l = some (mb (((dp e : Nat) : Int) ≤ l)) :=
 evt_of (cnt e) fun n hn => flat_m n e l h hn hl.1 hl.2
def smE (e : Ex) : Prop := cnt e ≤ 400 ∧ dp e ≤ 40
theorem within_s (e : Ex) (h : okE e) : ref10_within_B e = some (mb (smE e)) := by
 rw [ref10_within_B, small_s e 400 h (by omega), flat_s e 40 h (by omega)]
 simp only [Option.bind_some, c_mb, m_qf]
 refine smb ?_
 unfold smE
 omega
noncomputable def fst {α : Type} (p : α → Prop) : List α → Nat → Int
 | [], _ => -1
 | y :: l, i => open Classical in if p y then ((i : Nat) : Int) else fst p l (i + 1)
theorem fst_loop {α β : Type} {l : List α} {body : Nat → α → Unit → Option (Lp Unit Unit Int)} {p : α → Prop} {k : Unit → Option Int} {kr : Int → Option Int} (hl : l.length ≤ 9223372036854775807) (hb : ∀ i y, l[i]? = some y → body i y () = some (iff_ (p y) (.rt ((i : Nat) : Int)) (.nx ()))) (hk : k () = some (-1)) (hr : ∀ v, kr v = some v) : (lim l.length (foldL body (fun _ => ()) (l.drop 0) 0 ())).bind (lpK k kr) = some (fst p l 0) := by
 rw [lim_of hl, List.drop_zero]
 have key : ∀ (m : List α) (i : Nat), l.drop i = m → (foldL body (fun _ => ()) m i ()).bind (lpK k kr) = some (fst p m i) := by
   intro m
   induction m with
   | nil => intro i _; exact hk
   | cons y m ih =>
     intro i hd
     have hy : l[i]? = some y := by rw [← List.head?_drop, hd]; rfl
     have hd2 : l.drop (i + 1) = m := by rw [← List.tail_drop, hd]; rfl
     rw [foldL, hb i y hy, fst]
     by_cases h : p y
     · rw [iff_T h, if_pos h]; exact hr _
     · rw [iff_F h, if_neg h]; exact ih (i + 1) hd2
 exact key l 0 rfl
theorem fst_at {α : Type} {p : α → Prop} : ∀ (l : List α) (i : Nat), (fst p l i = -1 ∧ ∀ y ∈ l, ¬ p y) ∨ ∃ k y, fst p l i = ((i + k : Nat) : Int) ∧ l[k]? = some y ∧ p y ∧ ∀ (j : Nat) z, j < k → l[j]? = some z → ¬ p z := by
 intro l
 induction l with
 | nil => intro i; exact .inl ⟨rfl, fun y h => by cases h⟩
 | cons a l ih =>
   intro i
   rw [fst]
   by_cases h : p a
   · rw [if_pos h]; exact .inr ⟨0, a, rfl, rfl, h, fun j z hj => by omega⟩
   · rw [if_neg h]
     rcases ih (i + 1) with ⟨h1, h2⟩ | ⟨k, y, h1, h2, h3, h4⟩
     · exact .inl ⟨h1, fun y hy => by rcases List.mem_cons.1 hy with rfl | hy; exact h; exact h2 y hy⟩
     · refine .inr ⟨k + 1, y, by rw [h1]; congr 1; omega, by simpa using h2, h3, fun j z hj hz => ?_⟩
       cases j with
       | zero => simp at hz; subst hz; exact h
       | succ j => exact h4 j z (by omega) (by simpa using hz)
theorem decl_s (l : List Dc) (nm : ByteArray) (hl : l.length ≤ 9223372036854775807) : ref10_decl_B l nm = some (fst (fun d => d.name = nm) l 0) := by
 unfold ref10_decl_B
 exact fst_loop (β := Unit) hl (fun i y _ => by simp only [ref10_decl_L1, eqB_mb, c_mb]; unfold iff_; split <;> rfl) rfl (fun _ => rfl)
theorem numbered_s (c : Co) (z : Int) (hl : c.arts.length ≤ 9223372036854775807) : ref10_numbered_B c z = some (fst (fun a => a.number = z) c.arts 0) := by
 unfold ref10_numbered_B
 exact fst_loop (β := Unit) hl (fun i y _ => by simp only [ref10_numbered_L1, eqI_mb, c_mb]; unfold iff_; split <;> rfl) rfl (fun _ => rfl)
def declP (l : List Dc) (lo hi : Int) (i : Nat) (d : Dc) : Prop := nameP d.name ∧ unitP d.unit ∧ lo ≤ d.role ∧ d.role ≤ hi ∧ ∀ (j : Nat) e, j < i → l[j]? = some e → e.name ≠ d.name
def declsP (l : List Dc) (lo hi : Int) : Prop := ∀ (i : Nat) d, l[i]? = some d → declP l lo hi i d
theorem fst_is {α : Type} {p : α → Prop} {l : List α} {i : Nat} {y : α} (hy : l[i]? = some y) (hp : p y) : fst p l 0 = ((i : Nat) : Int) ↔ ∀ (j : Nat) z, j < i → l[j]? = some z → ¬ p z := by
 rcases fst_at (p := p) l 0 with ⟨h1, h2⟩ | ⟨k, x, h1, h2, h3, h4⟩
 · exact absurd hp (h2 y (List.mem_of_getElem? hy))
 · rw [h1]
   constructor
   · intro h
     have : k = i := by omega
     subst this; exact h4
   · intro h
     have h5 : ¬ k < i := fun h6 => h k x h6 h2 h3
     have h6 : ¬ i < k := fun h6 => h4 i y h6 hy hp
     omega
theorem decls_s (l : List Dc) (lo hi : Int) (hl : l.length ≤ 9223372036854775807) : ref10_decls_B l lo hi = some (mb (declsP l lo hi ∧ l.length ≤ 32)) := by
 unfold ref10_decls_B
 rw [k_loop (v := false) (P := fun i d => declP l lo hi i d) hl (fun i y hy => by
   simp only [ref10_decls_L1, name_s, unit_s, decl_s _ _ hl, Option.bind_some, ltI_mb, eqI_mb, c_mb, k_nr, k_rq, k_qr]
   congr 2
   apply propext
   rw [fst_is (p := fun d : Dc => d.name = y.name) hy rfl]
   unfold declP
   grind), leI_mb, c_mb, m_tf, m_qf]
 refine smb ?_
 unfold declsP
 exact ⟨fun h => ⟨h.1, by omega⟩, fun h => ⟨h.1, by omega⟩⟩
end Mo
end Go.Proofs.YtnijkdknnmgoeaaGreat
namespace Go.Proofs.YtnijkdknnmgoeaaGreat
open AI Go
namespace Mo
set_option maxRecDepth 100000
theorem geti_in {α : Type} {l : List α} {z : Int} (h0 : 0 ≤ z) (h1 : z < ((l.length : Nat) : Int)) : ∃ x, geti l z = some x ∧ l[z.toNat]? = some x := by
 have h2 : z.toNat < l.length := by omega
 unfold geti
 rw [if_pos h0, List.getElem?_eq_getElem h2]
 exact ⟨_, rfl, rfl⟩
theorem geti_lt {α : Type} {l : List α} {z : Int} {x : α} (h : geti l z = some x) : (0 ≤ z ∧ z < ((l.length : Nat) : Int)) ∧ l[z.toNat]? = some x := by
 unfold geti at h
 split at h
 · have := (List.getElem?_eq_some_iff.1 h).1
   exact ⟨by omega, h⟩
 · cases h
theorem geti_nat {α : Type} {l : List α} {i : Nat} : geti l ((i : Nat) : Int) = l[i]? := by
 unfold geti; rw [if_pos (by omega)]; rfl
def lnOf (l : List Ar) (z : Int) : Option Int := (l.find? (fun a => decide (a.number = z))).map Ar.line
theorem ln_fst (l : List Ar) (z : Int) : (fst (fun a => a.number = z) l 0 = -1 ∧ lnOf l z = none ∧ ∀ y ∈ l, ¬ y.number = z) ∨ ∃ (k : Nat) (y : Ar), fst (fun a => a.number = z) l 0 = ((k : Nat) : Int) ∧ l[k]? = some y ∧ y.number = z ∧ lnOf l z = some y.line := by
 rcases fst_at (p := fun a : Ar => a.number = z) l 0 with ⟨h1, h2⟩ | ⟨k, y, h1, h2, h3, h4⟩
 · refine .inl ⟨h1, ?_, h2⟩
   unfold lnOf
   rw [List.find?_eq_none.2 (fun x hx => by simpa using h2 x hx)]
   rfl
 · refine .inr ⟨k, y, by rw [h1, Nat.zero_add], h2, h3, ?_⟩
   unfold lnOf
   have : l.find? (fun a => decide (a.number = z)) = some y := by
     rw [List.find?_eq_some_iff_getElem]
     refine ⟨by simpa using h3, k, (List.getElem?_eq_some_iff.1 h2).1, (List.getElem?_eq_some_iff.1 h2).2, fun j hj => ?_⟩
     have := h4 j (l[j]'(by have := (List.getElem?_eq_some_iff.1 h2).1; omega)) hj (List.getElem?_eq_getElem _)
     simpa using this
   rw [this]; rfl
def constP (e : Ex) : Prop := 0 ≤ e.n ∧ e.n ≤ 999999999999 ∧ (e.unit = truthS → e.n ≤ 1)
def leafP (c : Co) (e : Ex) : Prop := (e.op = 1 ∧ constP e) ∨ (e.op = 2 ∧ ∃ d, geti c.facts e.n = some d ∧ e.unit = d.unit) ∨ (e.op = 3 ∧ ∃ l d, lnOf c.arts e.n = some l ∧ geti c.lines l = some d ∧ e.unit = d.unit) ∨ (e.op = 4 ∧ 1 ≤ e.n ∧ e.n ≤ 4 ∧ e.unit = numberS)
theorem leaf1 {c : Co} {e : Ex} (h : e.op = 1) : leafP c e ↔ constP e := by unfold leafP; simp [h]
theorem leaf2 {c : Co} {e : Ex} (h : e.op = 2) : leafP c e ↔ ∃ d, geti c.facts e.n = some d ∧ e.unit = d.unit := by unfold leafP; simp [h]
theorem leaf3 {c : Co} {e : Ex} (h : e.op = 3) : leafP c e ↔ ∃ l d, lnOf c.arts e.n = some l ∧ geti c.lines l = some d ∧ e.unit = d.unit := by unfold leafP; simp [h]
theorem leaf4 {c : Co} {e : Ex} (h : e.op = 4) : leafP c e ↔ 1 ≤ e.n ∧ e.n ≤ 4 ∧ e.unit = numberS := by unfold leafP; simp [h]
theorem leaf0 {c : Co} {e : Ex} (h1 : e.op ≠ 1) (h2 : e.op ≠ 2) (h3 : e.op ≠ 3) (h4 : e.op ≠ 4) : ¬ leafP c e := by unfold leafP; simp [h1, h2, h3, h4]
def Decd (c : Co) : Prop := (∀ d ∈ c.facts, unitP d.unit) ∧ ∀ d ∈ c.lines, unitP d.unit
theorem geti_ex {α : Type} {l : List α} {z : Int} {q : α → Prop} : (∃ d, geti l z = some d ∧ q d) ↔ 0 ≤ z ∧ z < ((l.length : Nat) : Int) ∧ ∀ d, geti l z = some d → q d := by
 constructor
 · rintro ⟨d, h, hq⟩
   have := (geti_lt h).1
   exact ⟨this.1, this.2, fun d' h' => by rw [h] at h'; cases h'; exact hq⟩
 · rintro ⟨h0, h1, h⟩
   obtain ⟨x, hx, _⟩ := geti_in h0 h1
   exact ⟨x, hx, h x hx⟩
theorem m_geti {α : Type} {l : List α} {z : Int} {q : α → Prop} : iff_ (0 ≤ z) (iff_ (z < ((l.length : Nat) : Int)) ((geti l z).bind fun x => some (mb (q x))) (some false)) (some false) = some (mb (∃ d, geti l z = some d ∧ q d)) := by
 rw [mb_congr geti_ex]
 by_cases h0 : 0 ≤ z
 · by_cases h1 : z < ((l.length : Nat) : Int)
   · obtain ⟨x, hx, _⟩ := geti_in h0 h1
     rw [iff_T h0, iff_T h1, hx]
     simp only [Option.bind_some]
     refine smb ?_
     exact ⟨fun h => ⟨h0, h1, fun d hd => by cases hd; exact h⟩, fun h => h.2.2 x rfl⟩
   · rw [iff_T h0, iff_F h1]; refine smbF ?_; exact fun h => h1 h.2.1
 · rw [iff_F h0]; refine smbF ?_; exact fun h => h0 h.1
theorem leafR_s (c : Co) (e : Ex) (ha : c.arts.length ≤ 9223372036854775807) (hd : Decd c) : ref10_leaf_B c e = some (mb (unitP e.unit ∧ leafP c e)) := by
 rw [ref10_leaf_B, numbered_s c e.n ha]
 simp only [leI_mb, ltI_mb, eqI_mb, eqB_mb, c_mb, unit_s, Option.bind_some, m_tf, m_qf, m_qt, m_geti]
 by_cases h1 : e.op = 1
 · rw [iff_T h1, mb_congr (and_congr_right fun _ => leaf1 h1)]
   refine smb ?_; unfold constP; grind
 rw [iff_F h1]
 by_cases h2 : e.op = 2
 · rw [iff_T h2, mb_congr (and_congr_right fun _ => leaf2 h2)]
   refine smb ?_
   refine ⟨fun ⟨d, h, hu⟩ => ⟨?_, d, h, hu⟩, fun h => h.2⟩
   rw [hu]; exact hd.1 d (List.mem_of_getElem? (geti_lt h).2)
 rw [iff_F h2]
 by_cases h3 : e.op = 3
 · rw [iff_T h3, mb_congr (and_congr_right fun _ => leaf3 h3)]
   rcases ln_fst c.arts e.n with ⟨h4, h5, _⟩ | ⟨k, y, h4, h5, _, h6⟩
   · rw [h4, h5, iff_F (by omega)]; refine smbF ?_; simp
   · rw [h4, h6, iff_T (by omega), geti_nat, h5]
     simp only [Option.bind_some, m_geti]
     refine smb ?_
     refine ⟨fun ⟨d, h, hu⟩ => ⟨?_, _, d, rfl, h, hu⟩, fun ⟨_, l, d, hl, h, hu⟩ => by cases hl; exact ⟨d, h, hu⟩⟩
     rw [hu]; exact hd.2 d (List.mem_of_getElem? (geti_lt h).2)
 rw [iff_F h3]
 refine smb ?_
 by_cases h4 : e.op = 4
 · rw [leaf4 h4]
   have : unitP numberS := .inr (.inl rfl)
   grind
 · exact ⟨fun h => absurd h.1 h4, fun h => absurd h.2 (leaf0 h1 h2 h3 h4)⟩
def pieceP (f : Fn) (i : Nat) (p : Pc) : Prop := (-1000000 ≤ p.slope ∧ p.slope ≤ 1000000) ∧ (-1000000000000000000 ≤ p.att ∧ p.att ≤ 1000000000000000000) ∧ p.fr ≤ 1000000000000 ∧ (i = 0 → p.fr = 0) ∧ ∀ (j : Nat) q, i = j + 1 → f.ps[j]? = some q → q.fr < p.fr
def tableP (f : Fn) : Prop := (1 ≤ f.den ∧ f.den ≤ 1000000) ∧ (1 ≤ f.ps.length ∧ f.ps.length ≤ 64) ∧ ∀ (i : Nat) p, f.ps[i]? = some p → pieceP f i p
theorem rwithin_s (n l : Int) (h : -9223372036854775808 ≤ 0 - l ∧ 0 - l ≤ 9223372036854775807) : ref05_within_B n l = some (mb (-l ≤ n ∧ n ≤ l)) := by
 have : wneg l = -l := by unfold wneg; rw [IntWalk.i64_in _ (by omega)]; omega
 rw [ref05_within_B, this]
 simp only [leI_mb, c_mb, m_tf, m_qf]
theorem tabR_s (f : Fn) : ref05_Valid_B f = some (mb (tableP f)) := by
 rw [ref05_Valid_B]
 simp only [ltI_mb, c_mb]
 by_cases h1 : f.den < 1
 · rw [iff_T h1]; refine smbF ?_; unfold tableP; omega
 by_cases h2 : 1000000 < f.den
 · rw [iff_F h1, iff_T h2]; refine smbF ?_; unfold tableP; omega
 by_cases h3 : ((f.ps.length : Nat) : Int) < 1
 · rw [iff_F h1, iff_F h2, iff_T h3]; refine smbF ?_; unfold tableP; omega
 by_cases h4 : 64 < ((f.ps.length : Nat) : Int)
 · rw [iff_F h1, iff_F h2, iff_F h3, iff_T h4]; refine smbF ?_; unfold tableP; omega
 rw [iff_F h1, iff_F h2, iff_F h3, iff_F h4, k_loop (v := false) (P := pieceP f) (by omega) (fun i y hy => by
   have hi := (List.getElem?_eq_some_iff.1 hy).1
   simp only [ref05_Valid_L1, rwithin_s y.slope 1000000 (by omega), rwithin_s y.att 1000000000000000000 (by omega), Option.bind_some, ltI_mb, eqI_mb, leI_mb, c_mb]
   cases i with
   | zero =>
     simp only [show ((0 : Nat) : Int) = 0 from rfl, iff_T, k_nr, k_rq, k_qr]
     congr 2
     apply propext
     unfold pieceP
     grind
   | succ i =>
     obtain ⟨q, hq⟩ : ∃ q, f.ps[i]? = some q := ⟨_, List.getElem?_eq_getElem (by omega)⟩
     rw [wsub_in (by omega), show ((i + 1 : Nat) : Int) - 1 = ((i : Nat) : Int) by omega, geti_nat, hq]
     rw [iff_F (show ¬ ((i + 1 : Nat) : Int) = 0 by omega), iff_T (show (0 : Int) < ((i + 1 : Nat) : Int) by omega)]
     simp only [Option.bind_some, leI_mb, c_mb, k_rn, k_rq, k_qr]
     congr 2
     apply propext
     unfold pieceP
     have h5 : (∀ (j : Nat) q', i + 1 = j + 1 → f.ps[j]? = some q' → q'.fr < y.fr) ↔ q.fr < y.fr := ⟨fun h => h i q rfl hq, fun h j q' hj hq' => by cases hj; rw [hq] at hq'; cases hq'; exact h⟩
     rw [h5]
     grind), m_tf]
 refine smb ?_
 unfold tableP
 exact ⟨fun h => ⟨by omega, by omega, h⟩, fun h => h.2.2⟩
end Mo
end Go.Proofs.YtnijkdknnmgoeaaGreat
namespace Go.Proofs.YtnijkdknnmgoeaaGreat
open AI Go
namespace Mo
set_option maxRecDepth 100000
set_option maxHeartbeats 4000000
def tabless (e : Ex) : Prop := e.tab.den = 0 ∧ e.tab.ps = []
def pairP (e a b : Ex) : Prop :=
 ((e.op = 6 ∨ e.op = 7) ∧ e.unit = truthS ∧ a.unit = truthS ∧ b.unit = truthS) ∨
 (e.op = 8 ∧ e.unit = truthS ∧ a.unit = b.unit) ∨
 ((e.op = 9 ∨ e.op = 10) ∧ e.unit = truthS ∧ a.unit = b.unit ∧ a.unit ≠ truthS) ∨
 ((e.op = 11 ∨ e.op = 12) ∧ e.unit = a.unit ∧ a.unit = b.unit ∧ a.unit ≠ truthS) ∨
 (e.op = 13 ∧ a.unit ≠ truthS ∧ b.unit ≠ truthS ∧ ((a.unit = numberS ∧ e.unit = b.unit) ∨ (b.unit = numberS ∧ e.unit = a.unit))) ∨
 (e.op = 14 ∧ e.unit = a.unit ∧ a.unit ≠ truthS ∧ b.op = 1 ∧ b.unit = numberS ∧ 1 ≤ b.n ∧ b.n ≤ 1000000) ∨
 (e.op = 15 ∧ a.unit = minutesS ∧ curP b.unit ∧ e.unit = b.unit)
def manyP (e a b : Ex) (r : List Ex) : Prop := ((e.op = 16 ∨ e.op = 17) ∧ (∀ k ∈ a :: b :: r, k.unit = a.unit) ∧ a.unit ≠ truthS ∧ e.unit = a.unit) ∨ (r = [] ∧ pairP e a b)
def loc (c : Co) (e : Ex) : Prop := match e.kids with
 | [] => tabless e ∧ leafP c e
 | [a] => e.n = 0 ∧ ((tabless e ∧ e.op = 5 ∧ e.unit = truthS ∧ a.unit = truthS) ∨ (e.op = 18 ∧ e.unit = a.unit ∧ curP e.unit ∧ tableP e.tab))
 | a :: b :: r => e.n = 0 ∧ tabless e ∧ manyP e a b r
theorem iff_same_ff {β : Type} {p : Prop} {x : β} : iff_ p x x = x := m_same
theorem len2 {α : Type} (a b : α) (r : List α) : (((a :: b :: r).length : Nat) : Int) = 2 ↔ r = [] := by
 cases r with
 | nil => simp
 | cons x r => simp only [List.length_cons, reduceCtorEq, iff_false]; omega
theorem many_s (op n : Int) (u : ByteArray) (t : Fn) (a b : Ex) (r : List Ex) (hl : (a :: b :: r).length ≤ 9223372036854775807) : ref10_many_B ⟨op, n, u, t, a :: b :: r⟩ = some (mb (manyP ⟨op, n, u, t, a :: b :: r⟩ a b r)) := by
 rw [ref10_many_B]
 simp only [List.getElem?_cons_zero, List.getElem?_cons_succ, Option.bind_some]
 rw [k_loop (v := false) (P := fun _ k => (op = 16 ∨ op = 17) → k.unit = a.unit) hl (fun i k _ => by
   simp only [ref10_many_L1, eqI_mb, eqB_mb, c_mb, k_nr, k_qn, k_qq]
   congr 2; apply propext; grind)]
 simp only [eqI_mb, leI_mb, eqB_mb, c_mb, m_tf, m_qf, m_fq, m_qr, m_ff, m_tq, cur_s, Option.bind_some, len2, mem_at]
 refine smb ?_
 unfold manyP pairP
 rw [show (∀ y : Ex, y ∈ a :: b :: r → (op = 16 ∨ op = 17) → y.unit = a.unit) ↔ ((op = 16 ∨ op = 17) → ∀ y ∈ a :: b :: r, y.unit = a.unit) from ⟨fun h p y hy => h y hy p, fun h y hy p => h p y hy⟩]
 simp only
 generalize (∀ k ∈ a :: b :: r, k.unit = a.unit) = A at *
 clear hl
 generalize a.unit = ua; generalize b.unit = ub
 by_cases h16 : op = 16
 · subst h16; simp; try grind
 by_cases h17 : op = 17
 · subst h17; simp; try grind
 by_cases h6 : op = 6
 · subst h6; simp; try grind
 by_cases h7 : op = 7
 · subst h7; simp; try grind
 by_cases h8 : op = 8
 · subst h8; simp; try grind
 by_cases h9 : op = 9
 · subst h9; simp; try grind
 by_cases h10 : op = 10
 · subst h10; simp; try grind
 by_cases h11 : op = 11
 · subst h11; simp; try grind
 by_cases h12 : op = 12
 · subst h12; simp; try grind
 by_cases h13 : op = 13
 · subst h13; simp; try grind
 by_cases h14 : op = 14
 · subst h14; simp; try grind
 by_cases h15 : op = 15
 · subst h15; simp; try grind
 simp [h16, h17, h6, h7, h8, h9, h10, h11, h12, h13, h14, h15]
mutual
def fit (c : Co) : Ex → Prop
 | ⟨op, n, u, t, ks⟩ => unitP u ∧ fitS c ks ∧ loc c ⟨op, n, u, t, ks⟩
def fitS (c : Co) : List Ex → Prop
 | [] => True
 | k :: ks => fit c k ∧ fitS c ks
end
theorem fitS_iff {c : Co} {l : List Ex} : fitS c l ↔ ∀ k ∈ l, fit c k := by
 induction l with
 | nil => simp [fitS]
 | cons k l ih => simp [fitS, ih]
theorem fit_iff (c : Co) (e : Ex) : fit c e ↔ unitP e.unit ∧ (∀ k ∈ e.kids, fit c k) ∧ loc c e := by
 cases e; rw [fit, fitS_iff]
theorem ps0 {α : Type} {l : List α} : ((l.length : Nat) : Int) = 0 ↔ l = [] := by
 cases l <;> simp; omega
theorem truth_cur : ¬ curP truthS := fun h => by have := h.1; revert this; decide
theorem number_cur : ¬ curP numberS := fun h => by have := h.1; revert this; decide
theorem minutes_cur : ¬ curP minutesS := fun h => by have := h.1; revert this; decide
theorem loc0 (c : Co) (op n : Int) (u : ByteArray) (t : Fn) : loc c ⟨op, n, u, t, []⟩ ↔ tabless ⟨op, n, u, t, []⟩ ∧ leafP c ⟨op, n, u, t, []⟩ := Iff.rfl
theorem loc1 (c : Co) (op n : Int) (u : ByteArray) (t : Fn) (a : Ex) : loc c ⟨op, n, u, t, [a]⟩ ↔ n = 0 ∧ ((tabless ⟨op, n, u, t, [a]⟩ ∧ op = 5 ∧ u = truthS ∧ a.unit = truthS) ∨ (op = 18 ∧ u = a.unit ∧ curP u ∧ tableP t)) := Iff.rfl
theorem loc2 (c : Co) (op n : Int) (u : ByteArray) (t : Fn) (a b : Ex) (r : List Ex) : loc c ⟨op, n, u, t, a :: b :: r⟩ ↔ n = 0 ∧ tabless ⟨op, n, u, t, a :: b :: r⟩ ∧ manyP ⟨op, n, u, t, a :: b :: r⟩ a b r := Iff.rfl
theorem many_op {e a b : Ex} {r : List Ex} (h : manyP e a b r) : 6 ≤ e.op ∧ e.op ≤ 17 := by
 unfold manyP pairP at h
 omega
theorem many_unit {e a b : Ex} {r : List Ex} (h : manyP e a b r) (ha : unitP a.unit) (hb : unitP b.unit) : unitP e.unit := by
 have ht : unitP truthS := .inl rfl
 unfold manyP pairP at h
 grind
theorem fitsR_m (c : Co) (ha : c.arts.length ≤ 9223372036854775807) (hd : Decd c) : ∀ (m : Nat) (e : Ex), okE e → cnt e ≤ m → ref10_fits_M m c e = some (mb (fit c e)) := by
 intro m
 induction m with
 | zero => intro e _ h; have := cnt_pos e; omega
 | succ m ih =>
   intro e hok hn
   obtain ⟨_, hk, hks⟩ := (okE_iff e).1 hok
   rw [ref10_fits_M, ref10_fits_B, mb_congr (fit_iff c e)]
   rw [k_loop (v := false) (P := fun _ k => fit c k) hk (fun i y hy => by
     have hm := List.mem_of_getElem? hy
     have h3 := cnt_kid hm
     simp only [ref10_fits_L1]
     rw [ih y (hks y hm) (by omega)]
     simp only [Option.bind_some, c_mb, k_nr]), mem_at]
   by_cases hf : ∀ k ∈ e.kids, fit c k
   · rw [iff_T hf]
     obtain ⟨op, n, u, t, ks⟩ := e
     simp only at hf hk ⊢
     match ks, hf, hk with
     | [], hf, hk =>
       rw [leafR_s c _ ha hd]
       simp only [eqI_mb, c_mb, List.length_nil, show ((0 : Nat) : Int) = 0 from rfl, iff_T, Option.bind_some, m_qf, ps0, m_qr]
       refine smb ?_
       rw [loc0]
       unfold tabless
       have l0 := @leaf0 c ⟨op, n, u, t, []⟩
       simp only at l0 ⊢
       by_cases h1 : op = 1
       · subst h1; simp; grind
       by_cases h2 : op = 2
       · subst h2; simp; grind
       by_cases h3 : op = 3
       · subst h3; simp; grind
       by_cases h4 : op = 4
       · subst h4; simp; grind
       have := l0 h1 h2 h3 h4
       grind
     | [a], hf, hk =>
       have hua := ((fit_iff c a).1 (hf a (by simp))).1
       simp only [eqI_mb, eqB_mb, c_mb, List.length_cons, List.length_nil, show ((0 + 1 : Nat) : Int) = 1 from rfl, show ¬ (1 : Int) = 0 from by omega, not_false_eq_true, iff_F, iff_T, Option.bind_some, List.getElem?_cons_zero, cur_s, tabR_s, m_tf, m_qf, m_ff, m_qr, ps0, m_same]
       rw [loc1]
       unfold tabless
       have ht : unitP truthS := .inl rfl
       simp only [iff_same_ff, m_qf, m_qr, m_tf, m_fq]
       refine smb ?_
       grind
     | a :: b :: r, hf, hk =>
       have hua := ((fit_iff c a).1 (hf a (by simp))).1
       have hub := ((fit_iff c b).1 (hf b (by simp))).1
       have n1 : ¬ (((a :: b :: r).length : Nat) : Int) = 1 := by simp only [List.length_cons]; omega
       rw [many_s _ _ _ _ _ _ _ hk]
       simp only [eqI_mb, eqB_mb, c_mb, iff_F n1, ps0, iff_F (show ¬ (a :: b :: r = []) by simp), Option.bind_some, m_qf, m_qr]
       refine smb ?_
       rw [loc2]
       have h5 := @many_op ⟨op, n, u, t, a :: b :: r⟩ a b r
       have h6 := @many_unit ⟨op, n, u, t, a :: b :: r⟩ a b r
       simp only at h5 h6 ⊢
       unfold tabless
       generalize manyP ⟨op, n, u, t, a :: b :: r⟩ a b r = M at *
       grind
   · rw [iff_F hf]
     exact smbF fun h => hf h.2.1
theorem fitsR_s (c : Co) (ha : c.arts.length ≤ 9223372036854775807) (hd : Decd c) (e : Ex) (h : okE e) : ref10_fits_R c e = some (mb (fit c e)) :=
 evt_of (cnt e) fun n hn => fitsR_m c ha hd n e h hn
theorem FitsR_s (c : Co) (ha : c.arts.length ≤ 9223372036854775807) (hd : Decd c) (e : Ex) (h : okE e) : ref10_Fits_B c e = some (mb (smE e ∧ fit c e)) := by
 rw [ref10_Fits_B, within_s e h, fitsR_s c ha hd e h]
 simp only [Option.bind_some, c_mb, m_qf]
end Mo
end Go.Proofs.YtnijkdknnmgoeaaGreat
namespace Go.Proofs.YtnijkdknnmgoeaaGreat
open AI Go
namespace Mo
set_option maxRecDepth 100000
set_option maxHeartbeats 4000000
def okA (a : Ar) : Prop := a.wh.length ≤ 9223372036854775807 ∧ a.un.length ≤ 9223372036854775807 ∧ (∀ e ∈ a.wh, okE e) ∧ okE a.am
def okC (c : Co) : Prop := c.facts.length ≤ 9223372036854775807 ∧ c.lines.length ≤ 9223372036854775807 ∧ c.arts.length ≤ 9223372036854775807 ∧ ∀ a ∈ c.arts, okA a
theorem okC_of {c : Co} (h : okCo c) : okC c := ⟨h.1, h.2.1, h.2.2.1, fun a ha => by have := h.2.2.2 a ha; exact ⟨this.1, this.2.2.1, this.2.1, this.2.2.2⟩⟩
def whole (c : Co) (e : Ex) (u : ByteArray) : Prop := smE e ∧ fit c e ∧ e.unit = u
def headP (c : Co) (a : Ar) : Prop := (1 ≤ a.number ∧ a.number ≤ 1000000) ∧ (0 ≤ a.line ∧ a.line < ((c.lines.length : Nat) : Int)) ∧ lnOf c.arts a.number = some a.line
def bodyP (c : Co) (a : Ar) : Prop := (0 ≤ a.rank ∧ a.rank ≤ 1000000) ∧ (0 ≤ a.fr ∧ a.fr < a.to ∧ a.to ≤ 36525) ∧ (0 ≤ a.known ∧ a.known ≤ 36524) ∧ (∀ z ∈ a.un, lnOf c.arts z ≠ none) ∧ (∀ e ∈ a.wh, whole c e truthS) ∧ ∃ d, geti c.lines a.line = some d ∧ whole c a.am d.unit
def validP (c : Co) : Prop := (declsP c.facts 0 0 ∧ c.facts.length ≤ 32) ∧ (declsP c.lines 1 4 ∧ c.lines.length ≤ 32) ∧ c.arts.length ≤ 60 ∧ ∀ a ∈ c.arts, headP c a ∧ bodyP c a
theorem decd_of {c : Co} (h1 : declsP c.facts 0 0) (h2 : declsP c.lines 1 4) : Decd c :=
 ⟨fun d hd => by obtain ⟨i, hi⟩ := List.getElem?_of_mem hd; exact (h1 i d hi).2.1, fun d hd => by obtain ⟨i, hi⟩ := List.getElem?_of_mem hd; exact (h2 i d hi).2.1⟩
theorem validR_s (c : Co) (hc : okC c) : ref10_Valid_B c = some (mb (validP c)) := by
 obtain ⟨hf, hl, ha, hao⟩ := hc
 rw [ref10_Valid_B, decls_s _ _ _ hf, decls_s _ _ _ hl]
 simp only [Option.bind_some, c_mb, ltI_mb]
 unfold validP
 by_cases h1 : declsP c.facts 0 0 ∧ c.facts.length ≤ 32
 · by_cases h2 : declsP c.lines 1 4 ∧ c.lines.length ≤ 32
   · by_cases h3 : 60 < ((c.arts.length : Nat) : Int)
     · rw [iff_T h1, iff_T h2, iff_T h3]; exact smbF fun h => by have := h.2.2.1; omega
     · have hd := decd_of h1.1 h2.1
       rw [iff_T h1, iff_T h2, iff_F h3, k_loop (v := false) (P := fun _ a => headP c a ∧ bodyP c a) ha (fun i a hi => by
         have hm := List.mem_of_getElem? hi
         obtain ⟨hw, hu, hwe, hae⟩ := hao a hm
         have e1 := fun (k : Unit → Option (Lp Unit Unit Bool)) => k_loop (l := a.wh) (body := fun i y x => ref10_Valid_L2 c i y) (v := false) (P := fun _ e => whole c e truthS) (k := k) (kr := fun v => some (.rt v)) hw (fun i e hi => by
           simp only [ref10_Valid_L2, FitsR_s c ha hd _ (hwe e (List.mem_of_getElem? hi)), Option.bind_some, eqB_mb, c_mb, k_nr, k_qr]
           congr 2; apply propext; unfold whole; exact and_assoc)
         have e2 := fun (k : Unit → Option (Lp Unit Unit Bool)) => k_loop (l := a.un) (body := fun i y x => ref10_Valid_L3 c i y) (v := false) (P := fun _ z => lnOf c.arts z ≠ none) (k := k) (kr := fun v => some (.rt v)) hu (fun i z hi => by
           simp only [ref10_Valid_L3, numbered_s _ _ ha, Option.bind_some, ltI_mb, c_mb, k_rn]
           congr 2; apply propext
           rcases ln_fst c.arts z with ⟨h1, h2, _⟩ | ⟨k, y, h1, _, _, h2⟩
           · rw [h1, h2]; simp
           · rw [h1, h2]; simp)
         simp only [ref10_Valid_L1, numbered_s _ _ ha, FitsR_s c ha hd _ hae, Option.bind_some, ltI_mb, leI_mb, eqI_mb, eqB_mb, c_mb, e1, e2, mem_at]
         rcases ln_fst c.arts a.number with ⟨_, _, h4⟩ | ⟨k, y, h4, h5, _, h6⟩
         · exact absurd rfl (h4 a hm)
         · rw [h4, geti_nat, h5]
           simp only [Option.bind_some]
           unfold headP bodyP
           rw [h6]
           by_cases hl1 : 0 ≤ a.line ∧ a.line < ((c.lines.length : Nat) : Int)
           · obtain ⟨d, hd1, _⟩ := geti_in hl1.1 hl1.2
             rw [hd1]
             simp only [Option.bind_some, k_nr, k_qr, k_rq]
             congr 2; apply propext
             unfold whole
             simp only [Option.some.injEq, exists_eq_left']
             grind
           · rw [show ∀ x y z : Option (Lp Unit Unit Bool), iff_ (a.number < 1) x (iff_ (1000000 < a.number) y (iff_ (a.line < 0) (some (.rt false)) (iff_ (((c.lines.length : Nat) : Int) ≤ a.line) (some (.rt false)) z))) = iff_ (a.number < 1) x (iff_ (1000000 < a.number) y (some (.rt false))) from fun x y z => by
               congr 2
               by_cases q : a.line < 0
               · rw [iff_T q]
               · rw [iff_F q, iff_T (by omega)]]
             simp only [m_same]
             rw [show (some (.rt false) : Option (Lp Unit Unit Bool)) = some (ck false False) by unfold ck; rw [iff_F (fun h => h)]]
             congr 2; apply propext
             grind
         ), m_tf, mem_at]
       refine smb ?_
       exact ⟨fun h => ⟨h1, h2, by omega, h⟩, fun h => h.2.2.2⟩
   · rw [iff_T h1, iff_F h2]; exact smbF fun h => h2 h.2.1
 · rw [iff_F h1]; exact smbF fun h => h1 h.1
end Mo
end Go.Proofs.YtnijkdknnmgoeaaGreat
namespace Go.Proofs.YtnijkdknnmgoeaaGreat
open AI Go
namespace Mo
set_option maxRecDepth 100000
set_option maxHeartbeats 4000000
theorem key_s (s : ByteArray) : parser_isKey_B s = some (mb (s ∈ keysL)) := by
 rw [parser_isKey_B]
 simp only [eqB_mb, c_mb, m_tf, m_tq]
 refine smb ?_
 simp only [keysL, List.mem_cons, List.not_mem_nil, or_false]
theorem size0 (s : ByteArray) : s = ByteArray.empty ↔ s.data.toList.length = 0 := by
 constructor
 · intro h; rw [h]; rfl
 · intro h
   apply ByteArray.ext
   apply Array.ext'
   rw [List.eq_nil_of_length_eq_zero h]; rfl
theorem gname_s (s : ByteArray) : parser_goodName_B s = some (mb (nameP s)) := by
 rw [parser_goodName_B]
 simp only [eqB_mb, ltI_mb, c_mb, key_s, Option.bind_some]
 unfold nameP
 by_cases h0 : s = ByteArray.empty
 · rw [iff_T h0]; exact smbF fun h => by have := (size0 s).1 h0; omega
 have h1 : s.data.toList.length ≠ 0 := fun h => h0 ((size0 s).2 h)
 rw [iff_F h0]
 by_cases h2 : 16 < ((s.data.toList.length : Nat) : Int)
 · rw [iff_T h2]; exact smbF fun h => by omega
 rw [iff_F h2]
 obtain ⟨b, hb⟩ : ∃ b, s.data.toList[0]? = some b := ⟨_, List.getElem?_eq_getElem (by omega)⟩
 rw [hb, k_loop (v := false) (P := fun _ y => wordN y) (by omega) (fun i y _ => by
   simp only [parser_goodName_L1, ltI_mb, eqI_mb, c_mb, k_nr, k_qr, k_rn, k_qn, k_rq, k_qq, k_nq]
   congr 2
   unfold wordN
   apply propext
   omega)]
 simp only [Option.bind_some, m_tf, m_fq, mem_at]
 refine smb ?_
 constructor
 · rintro ⟨h3, h4, h5, h6⟩
   exact ⟨by omega, ⟨b, rfl, by omega⟩, h5, h6⟩
 · rintro ⟨h3, ⟨c, hc, h4⟩, h5, h6⟩
   cases hc
   exact ⟨by omega, by omega, h5, h6⟩
theorem piece0 : api_Piece_B [] [] = some true := by
 rw [api_Piece_B]; rfl
theorem node1 (n : Nd) : parser_checker_node_B ⟨0⟩ n 1 = some (true, 1) := by
 rw [parser_checker_node_B, wadd_in (by simp)]
 rfl
theorem bare_ref (s : ByteArray) : parser_bare_B ⟨12, s, ByteArray.empty, 0, 0, 0, 0, ⟨0, []⟩, [], 0⟩ ⟨0, s, ByteArray.empty, 0, 0, 0, 0, ⟨0, []⟩, [], 0⟩ = some true := by
 rw [parser_bare_B]
 simp only [eqB_mb, eqI_mb, c_mb, iff_T, piece0, Option.bind_some]
theorem isName_s (s : ByteArray) : codex_isName_B s = some (mb (nameP s)) := by
 have h1 : parser_checker_expr_R ⟨0⟩ ⟨12, s, ByteArray.empty, 0, 0, 0, 0, ⟨0, []⟩, [], 0⟩ 1 = some (mb (nameP s), 1) := by
   refine evt_of 1 fun n hn => ?_
   obtain ⟨n, rfl⟩ : ∃ k, n = k + 1 := ⟨n - 1, by omega⟩
   rw [parser_checker_expr_M, parser_checker_expr_B, node1]
   simp only [Option.bind_some, cond_true, show eqI 12 11 = false from rfl, show eqI 12 12 = true from rfl, cond_false, gname_s, List.length_nil, show eqI ((0 : Nat) : Int) 0 = true from rfl, bare_ref, c_mb]
   by_cases h : nameP s
   · rw [iff_T h, show mb (nameP s) = true from mb_true.2 h]
   · rw [iff_F h, show mb (nameP s) = false from mb_is_false.symm ▸ h]
 rw [codex_isName_B, parser_Valid_B]
 simp only [show eqI 12 1 = false from rfl, cond_false, h1, Option.bind_some]
theorem pcur_s (s : ByteArray) : codex_isCur_B s = some (mb (curP s)) := by
 rw [codex_isCur_B, eqI_mb, c_mb]
 unfold curP
 by_cases h : ((s.data.toList.length : Nat) : Int) = 3
 · rw [iff_T h, k_loop (v := false) (P := fun _ y => 65 ≤ y.toNat ∧ y.toNat ≤ 90) (by omega) (fun i y _ => by
     simp only [codex_isCur_L1, ltI_mb, c_mb, k_rn, k_rq]
     congr 2; apply propext; omega), m_tf, mem_at]
   exact smb ⟨fun h2 => ⟨by omega, h2⟩, fun h2 => h2.2⟩
 · rw [iff_F h]; exact smbF fun h2 => h (by omega)
theorem punit_s (s : ByteArray) : codex_isUnit_B s = some (mb (unitP s)) := by
 rw [codex_isUnit_B]
 simp only [eqB_mb, c_mb, pcur_s, Option.bind_some, m_tq]
 rfl
theorem gdecls_s (l : List Dc) (lo hi : Int) (hl : l.length ≤ 9223372036854775807) : codex_goodDecls_B l lo hi = some (mb (declsP l lo hi)) := by
 rw [codex_goodDecls_B, Sp_eq]
 refine Sp_loop (fun i m => (∀ x, (m.get x).getD false = true ↔ ∃ (j : Nat) (d : Dc), j < i ∧ l[j]? = some d ∧ d.name = x) ∧ ∀ (j : Nat) d, j < i → l[j]? = some d → declP l lo hi j d) hl ⟨fun x => by simp [Mm.get_nil], fun j d hj => by omega⟩ (fun i y m hy hI => ?_) (fun m hI => ?_)
 · obtain ⟨h1, h2⟩ := hI
   simp only [codex_goodDecls_L1, isName_s, punit_s, Option.bind_some, ltI_mb, c_b, mb_is_true, Sp_iff, Sp_some, RQ_nx, RQ_rt, false_is_mb]
   rw [h1 y.name]
   have hd : ∀ q : Prop, (declP l lo hi i y → q) → ¬ q → ¬ declsP l lo hi := fun q h3 h4 h5 => h4 (h3 (h5 i y hy))
   refine ⟨fun a => ⟨fun b => ?_, fun b => ⟨fun c => ⟨fun d => ?_, fun d => ⟨fun e => ?_, fun e => ⟨fun x => ?_, fun j d' hj hj2 => ?_⟩⟩⟩, fun c => ?_⟩⟩, fun a => ?_⟩
   · obtain ⟨j, d, hj, hd1, hd2⟩ := b
     exact fun h5 => (h5 i y hy).2.2.2.2 j d hj hd1 hd2
   · exact fun h5 => by have := (h5 i y hy).2.2.1; omega
   · exact fun h5 => by have := (h5 i y hy).2.2.2.1; omega
   · rw [Mm.get_set]
     by_cases hx : x = y.name
     · rw [if_pos hx]
       exact ⟨fun _ => ⟨i, y, by omega, hy, hx.symm⟩, fun _ => rfl⟩
     · rw [if_neg hx, h1 x]
       constructor
       · rintro ⟨j, d, hj, hd1, hd2⟩; exact ⟨j, d, by omega, hd1, hd2⟩
       · rintro ⟨j, d, hj, hd1, hd2⟩
         have : j ≠ i := fun e => by subst e; rw [hy] at hd1; cases hd1; exact hx hd2.symm
         exact ⟨j, d, by omega, hd1, hd2⟩
   · rcases Nat.lt_or_ge j i with h | h
     · exact h2 j d' h hj2
     · have : j = i := by omega
       subst this; rw [hy] at hj2; cases hj2
       exact ⟨a, c, by omega, by omega, fun j' e' hj' he' hn => b ⟨j', e', hj', he', hn⟩⟩
   · exact fun h5 => c (h5 i y hy).2.1
   · exact fun h5 => a (h5 i y hy).1
 · rw [Sp_some, true_is_mb]
   exact fun j d hj => hI.2 j d (List.getElem?_eq_some_iff.1 hj).1 hj
theorem tabC_s (f : Fn) : piecewise_Valid_B f = some (mb (tableP f)) := by
 rw [piecewise_Valid_B]
 simp only [ltI_mb, c_mb]
 by_cases h1 : f.den < 1
 · rw [iff_T h1]; exact smbF (by unfold tableP; omega)
 by_cases h2 : 1000000 < f.den
 · rw [iff_F h1, iff_T h2]; exact smbF (by unfold tableP; omega)
 by_cases h3 : ((f.ps.length : Nat) : Int) < 1
 · rw [iff_F h1, iff_F h2, iff_T h3]; exact smbF (by unfold tableP; omega)
 by_cases h4 : 64 < ((f.ps.length : Nat) : Int)
 · rw [iff_F h1, iff_F h2, iff_F h3, iff_T h4]; exact smbF (by unfold tableP; omega)
 rw [iff_F h1, iff_F h2, iff_F h3, iff_F h4, k_loop (v := false) (P := pieceP f) (by omega) (fun i y hy => by
   have hi := (List.getElem?_eq_some_iff.1 hy).1
   simp only [piecewise_Valid_L1, ltI_mb, eqI_mb, leI_mb, c_mb]
   cases i with
   | zero =>
     simp only [show ((0 : Nat) : Int) = 0 from rfl, iff_T, k_nr, k_rn, k_rq, k_qr]
     congr 2
     apply propext
     unfold pieceP
     grind
   | succ i =>
     obtain ⟨q, hq⟩ : ∃ q, f.ps[i]? = some q := ⟨_, List.getElem?_eq_getElem (by omega)⟩
     rw [wsub_in (by omega), show ((i + 1 : Nat) : Int) - 1 = ((i : Nat) : Int) by omega, geti_nat, hq]
     rw [iff_F (show ¬ ((i + 1 : Nat) : Int) = 0 by omega), iff_T (show (0 : Int) < ((i + 1 : Nat) : Int) by omega)]
     simp only [Option.bind_some, leI_mb, c_mb, k_rn, k_rq, k_qr]
     congr 2
     apply propext
     unfold pieceP
     have h5 : (∀ (j : Nat) q', i + 1 = j + 1 → f.ps[j]? = some q' → q'.fr < y.fr) ↔ q.fr < y.fr := ⟨fun h => h i q rfl hq, fun h j q' hj hq' => by cases hj; rw [hq] at hq'; cases hq'; exact h⟩
     rw [h5]
     grind), m_tf]
 refine smb ?_
 unfold tableP
 exact ⟨fun h => ⟨by omega, by omega, h⟩, fun h => h.2.2⟩
theorem leafC_s (f : Ft) (e : Ex) (ho : 1 ≤ e.op ∧ e.op ≤ 4) (hg : ∀ z, f.lines.get z = lnOf f.codex.arts z) (hln : ∀ z l, lnOf f.codex.arts z = some l → 0 ≤ l ∧ l < ((f.codex.lines.length : Nat) : Int)) : codex_fitter_leaf_B f e = some (mb (leafP f.codex e)) := by
 rw [codex_fitter_leaf_B, hg]
 simp only [leI_mb, ltI_mb, eqI_mb, eqB_mb, c_b, mb_is_true, Option.bind_some, m_tf, m_qf, m_qt, m_geti]
 by_cases h1 : e.op = 1
 · rw [iff_T h1, mb_congr (leaf1 h1)]
   refine smb ?_; unfold constP; grind
 rw [iff_F h1]
 by_cases h2 : e.op = 2
 · rw [iff_T h2, mb_congr (leaf2 h2)]
 rw [iff_F h2]
 by_cases h3 : e.op = 3
 · rw [iff_T h3, mb_congr (leaf3 h3)]
   cases hl : lnOf f.codex.arts e.n with
   | none => rw [iff_F (by simp)]; exact smbF (by simp)
   | some l =>
     obtain ⟨x, hx, _⟩ := geti_in (hln _ _ hl).1 (hln _ _ hl).2
     rw [iff_T (by simp), Option.getD_some, hx]
     simp only [Option.bind_some]
     refine smb ⟨fun h => ⟨l, x, rfl, hx, h⟩, fun ⟨l', d, h1, h2, h3⟩ => by cases h1; rw [hx] at h2; cases h2; exact h3⟩
 rw [iff_F h3]
 have h4 : e.op = 4 := by omega
 exact smb (leaf4 h4).symm
end Mo
end Go.Proofs.YtnijkdknnmgoeaaGreat
namespace Go.Proofs.YtnijkdknnmgoeaaGreat
open AI Go
namespace Mo
set_option maxRecDepth 100000
set_option maxHeartbeats 4000000
theorem same_s (k : Ex) (ks : List Ex) (hl : (k :: ks).length ≤ 9223372036854775807) : codex_same_B (k :: ks) = some (mb (∀ x ∈ k :: ks, x.unit = k.unit)) := by
 rw [codex_same_B, k_loop (v := false) (P := fun _ x => x.unit = k.unit) hl (fun i x _ => by
   simp only [codex_same_L1, List.getElem?_cons_zero, Option.bind_some, eqB_mb, c_mb, k_nr]), m_tf, mem_at]
theorem product_s (a b : ByteArray) : codex_product_B a b = some (open Classical in if a = numberS then b else a) := by
 rw [codex_product_B, eqB_mb, c_mb]
 by_cases h : a = numberS
 · rw [iff_T h, if_pos h]
 · rw [iff_F h, if_neg h]
theorem last_at {α : Type} (a : α) (l : List α) : ∃ x, geti (a :: l) ((((a :: l).length : Nat) : Int) - 1) = some x ∧ x ∈ a :: l ∧ (l = [] → x = a) ∧ ∀ b, l = [b] → x = b := by
 have h : ((((a :: l).length : Nat) : Int) - 1) = ((l.length : Nat) : Int) := by simp only [List.length_cons]; omega
 rw [h, geti_nat]
 have h2 : l.length < (a :: l).length := by simp
 refine ⟨(a :: l)[l.length], List.getElem?_eq_getElem h2, List.getElem_mem _, fun h => by subst h; rfl, fun b h => by subst h; rfl⟩
theorem oper_s (op n : Int) (u : ByteArray) (t : Fn) (a : Ex) (r : List Ex) (hl : (a :: r).length ≤ 9223372036854775807) (hu : ∀ k ∈ a :: r, unitP k.unit) (ho : ¬ (1 ≤ op ∧ op ≤ 4)) (ho2 : op ≠ 18) :
   codex_operation_B ⟨op, n, u, t, a :: r⟩ = some (mb ((r = [] ∧ op = 5 ∧ u = truthS ∧ a.unit = truthS) ∨ ∃ b r', r = b :: r' ∧ manyP ⟨op, n, u, t, a :: r⟩ a b r')) := by
 obtain ⟨x, hx, hxm, hx0, hx1⟩ := last_at a r
 rw [codex_operation_B]
 simp only [List.getElem?_cons_zero, Option.bind_some]
 rw [wsub_in (by omega), hx]
 simp only [Option.bind_some, same_s a r hl, eqB_mb, eqI_mb, leI_mb, ltI_mb, not_mb, product_s, pcur_s, c_b, mb_is_true, m_tf, m_qf, m_fq, m_qr, m_ff, m_tq, m_same]
 refine smb ?_
 have nt1 : truthS ≠ numberS := by intro h; exact absurd (congrArg ByteArray.data h) (by decide)
 have nt2 : truthS ≠ minutesS := by intro h; exact absurd (congrArg ByteArray.data h) (by decide)
 have nt3 : numberS ≠ minutesS := by intro h; exact absurd (congrArg ByteArray.data h) (by decide)
 have tc := truth_cur
 have nc := number_cur
 have mc := minutes_cur
 have hua := hu a (by simp)
 have hux := hu x hxm
 match r, hl, hx0, hx1 with
 | [], hl, hx0, hx1 =>
   have := hx0 rfl
   subst this
   simp only [List.length_cons, List.length_nil, List.mem_singleton, forall_eq, reduceCtorEq, false_and, exists_false, or_false, true_and]
   grind
 | [b], hl, hx0, hx1 =>
   have := hx1 b rfl
   subst this
   have e2 : (((([a, x] : List Ex).length : Nat) : Int) = 2) ↔ True := by simp
   have e1 : (((([a, x] : List Ex).length : Nat) : Int) = 1) ↔ False := by simp
   have e3 : ((2 : Int) ≤ ((([a, x] : List Ex).length : Nat) : Int)) ↔ True := by simp
   have es : (∀ k ∈ [a, x], k.unit = a.unit) ↔ x.unit = a.unit := by simp
   have eq : ∀ M : Ex → List Ex → Prop, (∃ b r', [x] = b :: r' ∧ M b r') ↔ M x [] := fun M => ⟨fun ⟨b, r', h, hm⟩ => by cases h; exact hm, fun h => ⟨x, [], rfl, h⟩⟩
   rw [eq]
   simp only [e1, e2, e3, es, reduceCtorEq, false_and, false_or]
   unfold manyP pairP
   simp only [es]
   generalize a.unit = ua at *; generalize x.unit = ub at *; generalize x.op = xo at *; generalize x.n = xn at *
   clear hx hxm hx0 hx1 hu hl eq e1 e2 e3 es
   by_cases h6 : op = 6
   · subst h6; simp; try grind
   by_cases h7 : op = 7
   · subst h7; simp; try grind
   by_cases h8 : op = 8
   · subst h8; simp; try grind
   by_cases h9 : op = 9
   · subst h9; simp; try grind
   by_cases h10 : op = 10
   · subst h10; simp; try grind
   by_cases h11 : op = 11
   · subst h11; simp; try grind
   by_cases h12 : op = 12
   · subst h12; simp; try grind
   by_cases h13 : op = 13
   · subst h13; simp; try grind
   by_cases h14 : op = 14
   · subst h14; simp; try grind
   by_cases h15 : op = 15
   · subst h15; simp; try grind
   by_cases h16 : op = 16
   · subst h16; simp; try grind
   by_cases h17 : op = 17
   · subst h17; simp; try grind
   by_cases h5 : op = 5
   · subst h5; simp
   simp [h5, h6, h7, h8, h9, h10, h11, h12, h13, h14, h15, h16, h17]
 | b :: d :: r, hl, hx0, hx1 =>
   have e2 : ((((a :: b :: d :: r).length : Nat) : Int) = 2) ↔ False := by simp only [List.length_cons, iff_false]; omega
   have e1 : ((((a :: b :: d :: r).length : Nat) : Int) = 1) ↔ False := by simp only [List.length_cons, iff_false]; omega
   have e3 : ((2 : Int) ≤ (((a :: b :: d :: r).length : Nat) : Int)) ↔ True := by simp only [List.length_cons, iff_true]; omega
   have eq : ∀ M : Ex → List Ex → Prop, (∃ b' r', b :: d :: r = b' :: r' ∧ M b' r') ↔ M b (d :: r) := fun M => ⟨fun ⟨b, r', h, hm⟩ => by cases h; exact hm, fun h => ⟨b, d :: r, rfl, h⟩⟩
   rw [eq]
   simp only [e1, e2, e3, reduceCtorEq, false_and, false_or]
   unfold manyP
   simp only [reduceCtorEq, false_and, or_false]
   generalize (∀ k ∈ a :: b :: d :: r, k.unit = a.unit) = A at *
   clear hx hxm hx0 hx1 hu hl eq e1 e2 e3
   by_cases h16 : op = 16
   · subst h16; simp; try grind
   by_cases h17 : op = 17
   · subst h17; simp; try grind
   simp [h16, h17]
   try grind
theorem fitC_m (c : Co) (hd : Decd c) (hln : ∀ z l, lnOf c.arts z = some l → 0 ≤ l ∧ l < ((c.lines.length : Nat) : Int)) : ∀ (m : Nat) (e : Ex) (L : Mm Int Int) (nd : Int) (d : Int), okE e → cnt e ≤ m → (∀ z, L.get z = lnOf c.arts z) → 0 ≤ nd → nd ≤ 400 → 1 ≤ d → d ≤ 41 →
   Sp (codex_fitter_fits_M m ⟨c, L, nd⟩ e d) (fun r => (r.1 = mb (nd + ((cnt e : Nat) : Int) ≤ 400 ∧ ((dp e : Nat) : Int) + d ≤ 41 ∧ fit c e)) ∧ (r.1 = true → r.2 = nd + ((cnt e : Nat) : Int))) := by
 intro m
 induction m with
 | zero => intro e _ _ _ _ h; have := cnt_pos e; omega
 | succ m ih =>
   intro e L nd d hok hm hL hn0 hn1 hd0 hd1
   obtain ⟨_, hk, hks⟩ := (okE_iff e).1 hok
   have hc := cnt_eq e
   have hdp := dp_eq e
   rw [codex_fitter_fits_M, codex_fitter_fits_B]
   simp only
   rw [wadd_in (by omega)]
   simp only [punit_s, Option.bind_some, ltI_mb, c_b, mb_is_true, Sp_iff, Sp_some, false_is_mb, Bool.false_eq_true, false_implies, and_true]
   refine ⟨fun h => by omega, fun h1 => ⟨fun h => by omega, fun h2 => ⟨fun h3 => ?_, fun h3 => fun h => h3 ((fit_iff c e).1 h.2.2).1⟩⟩⟩
   refine Sp_loop (fun i x => x = nd + 1 + ((cntS (e.kids.take i) : Nat) : Int) ∧ x ≤ 400 ∧ ∀ (j : Nat) k, j < i → e.kids[j]? = some k → ((dp k : Nat) : Int) + d ≤ 40 ∧ fit c k) hk ⟨by simp [cntS], by omega, fun j k hj => by omega⟩ (fun i y x hy hI => ?_) (fun x hI => ?_)
   · obtain ⟨hx, hx4, hj⟩ := hI
     have hym := List.mem_of_getElem? hy
     have h4 := cnt_kid hym
     have h5 := cntS_step hy
     have h6 := cntS_take e.kids (i + 1)
     have h7 := dpS_le.1 (Nat.le_refl (dpS e.kids)) y hym
     simp only [codex_fitter_fits_L1, Sp_bind]
     rw [wadd_in (by omega)]
     refine (ih y L x (d + 1) (hks y hym) (by omega) hL (by omega) (by omega) (by omega) (by omega)).mono fun r hr => ?_
     obtain ⟨r1, r2⟩ := r
     obtain ⟨hr1, hr2⟩ := hr
     simp only at hr1 hr2 ⊢
     subst hr1
     simp only [c_mb, Sp_iff, Sp_some, RQ_nx, RQ_rt, false_is_mb, Bool.false_eq_true, false_implies, and_true]
     refine ⟨fun h => ?_, fun h => fun h8 => h ⟨?_, ?_, (fit_iff c e).1 h8.2.2 |>.2.1 y hym⟩⟩
     · have := hr2 (mb_true.2 h)
       refine ⟨by omega, by omega, fun j k hji hjk => ?_⟩
       rcases Nat.lt_or_ge j i with h9 | h9
       · exact hj j k h9 hjk
       · have : j = i := by omega
         subst this; rw [hy] at hjk; cases hjk
         exact ⟨by omega, h.2.2⟩
     · omega
     · omega
   · obtain ⟨hx, hx4, hj⟩ := hI
     rw [List.take_length] at hx
     have hfk : ∀ k ∈ e.kids, fit c k := fun k hk => by
       obtain ⟨i, hi⟩ := List.getElem?_of_mem hk
       exact (hj i k (List.getElem?_eq_some_iff.1 hi).1 hi).2
     have hdk : dpS e.kids ≤ (40 - d).toNat := dpS_le.2 fun k hk => by
       obtain ⟨i, hi⟩ := List.getElem?_of_mem hk
       have := (hj i k (List.getElem?_eq_some_iff.1 hi).1 hi).1
       omega
     have hP : (nd + ((cnt e : Nat) : Int) ≤ 400 ∧ ((dp e : Nat) : Int) + d ≤ 41 ∧ fit c e) ↔ loc c e := by
       rw [fit_iff]
       exact ⟨fun h => h.2.2.2.2, fun h => ⟨by omega, by omega, h3, hfk, h⟩⟩
     rw [mb_congr hP]
     have hx2 : x = nd + ((cnt e : Nat) : Int) := by omega
     subst hx2
     have fin : ∀ {o : Option (Bool × Int)} {q : Prop}, (loc c e ↔ q) → o = some (mb q, nd + ((cnt e : Nat) : Int)) → Sp o (fun r => r.1 = mb (loc c e) ∧ (r.1 = true → r.2 = nd + ((cnt e : Nat) : Int))) := fun hq ho => by
       rw [ho, Sp_some, mb_congr hq]; exact ⟨rfl, fun _ => rfl⟩
     have hun : ∀ k ∈ e.kids, unitP k.unit := fun k hk => ((fit_iff c k).1 (hfk k hk)).1
     obtain ⟨op, n, u, t, ks⟩ := e
     simp only at hun hk ⊢
     have lf := fun h => leafC_s ⟨c, L, nd + ((cnt ⟨op, n, u, t, ks⟩ : Nat) : Int)⟩ ⟨op, n, u, t, ks⟩ h hL hln
     simp only at lf
     simp only [eqI_mb, eqB_mb, leI_mb, ltI_mb, c_b, mb_is_true, pcur_s, tabC_s, Option.bind_some]
     clear fin hP hj hfk hdk hx hx4 hks ih hm hc hdp hok h1 h2
     by_cases ho : 1 ≤ op ∧ op ≤ 4
     · rw [lf ho]
       have n18 : ¬ op = 18 := by omega
       have n5 : ¬ op = 5 := by omega
       simp only [iff_T ho.1, iff_T ho.2, iff_F n18, Option.bind_some, Sp_iff, Sp_some, false_is_mb, mb_is_mb, Bool.false_eq_true, false_implies, implies_true, and_true]
       match ks with
       | [] => rw [loc0]; unfold tabless; simp only [List.length_nil]; have p0 := @ps0 Pc t.ps; grind
       | [a] => rw [loc1]; simp only [List.length_cons, List.length_nil]; grind
       | a :: b :: r =>
         rw [loc2]
         have h5 := @many_op ⟨op, n, u, t, a :: b :: r⟩ a b r
         simp only [List.length_cons] at h5 ⊢
         generalize manyP ⟨op, n, u, t, a :: b :: r⟩ a b r = M at *
         refine ⟨fun _ => ⟨fun _ h => ?_, fun _ => ⟨fun h => ?_, fun h h2 => ?_⟩⟩, fun _ h2 => ?_⟩
         · have := h5 h.2.2; omega
         · omega
         · have := h5 h2.2.2; omega
         · have := h5 h2.2.2; omega
     · have el : ∀ x y : Option (Bool × Int), iff_ (1 ≤ op) (iff_ (op ≤ 4) x y) y = y := fun x y => by
         by_cases q : 1 ≤ op
         · rw [iff_T q, iff_F (by omega)]
         · rw [iff_F q]
       rw [el]
       have lz := fun h1 h2 h3 h4 => @leaf0 c ⟨op, n, u, t, ks⟩ h1 h2 h3 h4
       have lz := lz (by show op ≠ 1; omega) (by show op ≠ 2; omega) (by show op ≠ 3; omega) (by show op ≠ 4; omega)
       match ks, hun, hk, lz with
       | [], hun, hk, lz =>
         rw [loc0]
         simp only [List.length_nil, Sp_iff, Sp_some, false_is_mb, Bool.false_eq_true, false_implies, and_true]
         refine ⟨fun _ => ⟨fun _ => ⟨fun h => by omega, fun _ h => lz h.2⟩, fun _ h => lz h.2⟩, fun _ => ⟨fun _ => ⟨fun _ h => lz h.2, fun _ => ⟨fun _ => ⟨fun h => by omega, fun _ h => lz h.2⟩, fun _ h => lz h.2⟩⟩, fun _ h => lz h.2⟩⟩
       | [a], hun, hk, lz =>
         rw [loc1]
         by_cases h18 : op = 18
         · subst h18
           simp only [List.length_cons, List.length_nil, List.getElem?_cons_zero, Option.bind_some, iff_T, Sp_iff, Sp_some, false_is_mb, mb_is_mb, Bool.false_eq_true, false_implies, implies_true, and_true]
           grind
         · rw [iff_F h18, oper_s op n u t a [] hk hun ho h18]
           have p0 := @ps0 Pc t.ps
           unfold tabless
           simp only [List.length_cons, List.length_nil, Option.bind_some, Sp_iff, Sp_some, false_is_mb, mb_is_mb, Bool.false_eq_true, false_implies, implies_true, and_true, reduceCtorEq, false_and, exists_false, or_false, true_and]
           grind
       | a :: b :: r, hun, hk, lz =>
         rw [loc2]
         have h5 := @many_op ⟨op, n, u, t, a :: b :: r⟩ a b r
         have eq : ∀ M : Ex → List Ex → Prop, (∃ b' r', b :: r = b' :: r' ∧ M b' r') ↔ M b r := fun M => ⟨fun ⟨b, r', h, hm⟩ => by cases h; exact hm, fun h => ⟨b, r, rfl, h⟩⟩
         have p0 := @ps0 Pc t.ps
         unfold tabless
         by_cases h18 : op = 18
         · subst h18
           simp only [iff_T, Sp_iff, Sp_some, false_is_mb, mb_is_mb, Bool.false_eq_true, false_implies, implies_true, and_true]
           have : ∀ q : Prop, (n = 0 ∧ q ∧ manyP ⟨18, n, u, t, a :: b :: r⟩ a b r) → False := fun q h => by have := h5 h.2.2; simp at this
           refine ⟨fun _ => ⟨fun h => ?_, fun _ h => this _ h⟩, fun _ h => this _ h⟩
           simp only [List.length_cons] at h; omega
         · rw [iff_F h18, oper_s op n u t a (b :: r) hk hun ho h18, mb_congr (show (((b :: r = [] ∧ op = 5 ∧ u = truthS ∧ a.unit = truthS) ∨ ∃ b' r', b :: r = b' :: r' ∧ manyP ⟨op, n, u, t, a :: b :: r⟩ a b' r') ↔ manyP ⟨op, n, u, t, a :: b :: r⟩ a b r) by rw [eq]; simp)]
           simp only [List.length_cons, Option.bind_some, Sp_iff, Sp_some, false_is_mb, mb_is_mb, Bool.false_eq_true, false_implies, implies_true, and_true]
           generalize manyP ⟨op, n, u, t, a :: b :: r⟩ a b r = M at *
           clear h5 eq lf
           grind
end Mo
end Go.Proofs.YtnijkdknnmgoeaaGreat
namespace Go.Proofs.YtnijkdknnmgoeaaGreat
open AI Go
namespace Mo
set_option maxRecDepth 100000
set_option maxHeartbeats 4000000
theorem lnOf_app (l m : List Ar) (z : Int) : lnOf (l ++ m) z = (lnOf l z).or (lnOf m z) := by
 unfold lnOf
 rw [List.find?_append]
 cases List.find? (fun a => decide (a.number = z)) l <;> rfl
theorem lnOf_one (a : Ar) (z : Int) : lnOf [a] z = if a.number = z then some a.line else none := by
 unfold lnOf
 by_cases h : a.number = z <;> simp [h]
theorem lnOf_some {l : List Ar} {z x : Int} (h : lnOf l z = some x) : ∃ a ∈ l, a.number = z ∧ a.line = x := by
 unfold lnOf at h
 obtain ⟨a, h1, h2⟩ := Option.map_eq_some_iff.1 h
 exact ⟨a, List.mem_of_find?_eq_some h1, by have := List.find?_some h1; simpa using this, h2⟩
theorem lnOf_take {l : List Ar} {i : Nat} {z x : Int} (h : lnOf (l.take i) z = some x) : lnOf l z = some x := by
 have := lnOf_app (l.take i) (l.drop i) z
 rw [List.take_append_drop] at this
 rw [this, h]; rfl
theorem lnOf_step {l : List Ar} {i : Nat} {a : Ar} (h : l[i]? = some a) (z : Int) : lnOf (l.take (i + 1)) z = (lnOf (l.take i) z).or (if a.number = z then some a.line else none) := by
 rw [List.take_add_one, h, lnOf_app]
 show (lnOf (l.take i) z).or (lnOf [a] z) = _
 rw [lnOf_one]
def LnIn (c : Co) : Prop := ∀ z l, lnOf c.arts z = some l → 0 ≤ l ∧ l < ((c.lines.length : Nat) : Int)
theorem fits_eq : ∀ (m m' : Nat) (e : Ex) (f : Ft) (d : Int), cnt e ≤ m → cnt e ≤ m' → codex_fitter_fits_M m f e d = codex_fitter_fits_M m' f e d := by
 intro m
 induction m with
 | zero => intro m' e _ _ h; have := cnt_pos e; omega
 | succ m ih =>
   intro m' e f d h1 h2
   cases m' with
   | zero => have := cnt_pos e; omega
   | succ m' =>
     rw [codex_fitter_fits_M, codex_fitter_fits_M, codex_fitter_fits_B, codex_fitter_fits_B, loop_congr (body' := fun i y x => codex_fitter_fits_L1 (codex_fitter_fits_M m') f d i y x) (fun i y x hy => by
       have := cnt_kid (List.mem_of_getElem? hy)
       simp only [codex_fitter_fits_L1]
       rw [ih m' y _ _ (by omega) (by omega)])]
theorem wholeC_s (c : Co) (hd : Decd c) (hln : LnIn c) (L : Mm Int Int) (hL : ∀ z, L.get z = lnOf c.arts z) (nd : Int) (e : Ex) (u : ByteArray) (he : okE e) : Sp (codex_fitter_whole_B ⟨c, L, nd⟩ e u) (fun r => r.1 = mb (whole c e u)) := by
 rw [codex_fitter_whole_B, eqB_mb, c_mb, Sp_iff]
 refine ⟨fun h => ?_, fun h => ?_⟩
 · obtain ⟨r, h1, h2⟩ : Sp (codex_fitter_fits_R ⟨c, L, 0⟩ e 1) (fun r => r.1 = mb ((0 : Int) + ((cnt e : Nat) : Int) ≤ 400 ∧ ((dp e : Nat) : Int) + 1 ≤ 41 ∧ fit c e)) := by
     obtain ⟨r, h1, h2, _⟩ := fitC_m c hd hln (cnt e) e L 0 1 he (Nat.le_refl _) hL (by omega) (by omega) (by omega) (by omega)
     refine ⟨r, evt_of (cnt e) fun n hn => ?_, h2⟩
     rw [fits_eq n (cnt e) e _ _ hn (Nat.le_refl _), h1]
   rw [h1, Sp_bind, Sp_some]
   obtain ⟨r1, r2⟩ := r
   simp only [Sp_some]
   simp only at h2
   rw [h2]
   refine mb_congr ?_
   unfold whole smE
   constructor
   · rintro ⟨a, b, d⟩; exact ⟨⟨by omega, by omega⟩, d, h⟩
   · rintro ⟨⟨a, b⟩, d, _⟩; exact ⟨by omega, by omega, d⟩
 · rw [Sp_some, false_is_mb]
   exact fun h2 => h h2.2.2
theorem articleC_s (c : Co) (hd : Decd c) (hln : LnIn c) (L : Mm Int Int) (hL : ∀ z, L.get z = lnOf c.arts z) (nd : Int) (a : Ar) (ha : okA a) (hli : 0 ≤ a.line ∧ a.line < ((c.lines.length : Nat) : Int)) : Sp (codex_fitter_article_B ⟨c, L, nd⟩ a) (fun r => r.1 = mb (bodyP c a)) := by
 obtain ⟨hw, hu, hwe, hae⟩ := ha
 rw [codex_fitter_article_B]
 simp only [ltI_mb, leI_mb, c_mb, Sp_iff, Sp_some, false_is_mb]
 have nb : ∀ q : Prop, (bodyP c a → ¬ q) → q → ¬ bodyP c a := fun q h1 h2 h3 => h1 h3 h2
 refine ⟨fun h => by unfold bodyP; omega, fun h1 => ⟨fun h => by unfold bodyP; omega, fun h2 => ⟨fun h => by unfold bodyP; omega, fun h3 => ⟨fun h => by unfold bodyP; omega, fun h4 => ⟨fun h => by unfold bodyP; omega, fun h5 => ⟨fun h => by unfold bodyP; omega, fun h6 => ⟨fun h => by unfold bodyP; omega, fun h7 => ?_⟩⟩⟩⟩⟩⟩⟩
 refine Sp_loop (fun i _ => ∀ (j : Nat) z, j < i → a.un[j]? = some z → lnOf c.arts z ≠ none) hu (fun j z hj => by omega) (fun i z x hz hI => ?_) (fun x hI => ?_)
 · simp only [codex_fitter_article_L1, hL, c_b, Sp_iff, Sp_some, RQ_nx, RQ_rt, false_is_mb]
   refine ⟨fun h j z' hj hz' => ?_, fun h h2 => ?_⟩
   · rcases Nat.lt_or_ge j i with h9 | h9
     · exact hI j z' h9 hz'
     · have : j = i := by omega
       subst this; rw [hz] at hz'; cases hz'
       intro e; rw [e] at h; cases h
   · have := h2.2.2.2.1 z (List.mem_of_getElem? hz)
     cases hq : lnOf c.arts z with
     | none => exact this hq
     | some x => rw [hq] at h; exact h rfl
 · have hun : ∀ z ∈ a.un, lnOf c.arts z ≠ none := fun z hz => by obtain ⟨i, hi⟩ := List.getElem?_of_mem hz; exact hI i z (List.getElem?_eq_some_iff.1 hi).1 hi
   clear hI
   refine Sp_loop (fun i _ => ∀ (j : Nat) e, j < i → a.wh[j]? = some e → whole c e truthS) hw (fun j z hj => by omega) (fun i e x he hI => ?_) (fun x hI => ?_)
   · simp only [codex_fitter_article_L2, Sp_bind]
     refine (wholeC_s c hd hln L hL x e truthS (hwe e (List.mem_of_getElem? he))).mono fun r hr => ?_
     obtain ⟨r1, r2⟩ := r
     simp only at hr ⊢
     subst hr
     simp only [c_mb, Sp_iff, Sp_some, RQ_nx, RQ_rt, false_is_mb]
     refine ⟨fun h j e' hj he' => ?_, fun h h2 => h (h2.2.2.2.2.1 e (List.mem_of_getElem? he))⟩
     rcases Nat.lt_or_ge j i with h9 | h9
     · exact hI j e' h9 he'
     · have : j = i := by omega
       subst this; rw [he] at he'; cases he'; exact h
   · have hwh : ∀ e ∈ a.wh, whole c e truthS := fun z hz => by obtain ⟨i, hi⟩ := List.getElem?_of_mem hz; exact hI i z (List.getElem?_eq_some_iff.1 hi).1 hi
     obtain ⟨d, hd1, _⟩ := geti_in hli.1 hli.2
     rw [hd1, Option.bind_some, Sp_bind]
     refine (wholeC_s c hd hln L hL x a.am d.unit hae).mono fun r hr => ?_
     obtain ⟨r1, r2⟩ := r
     simp only at hr ⊢
     rw [Sp_some, hr]
     refine mb_congr ⟨fun h => ⟨by omega, by omega, by omega, hun, hwh, d, hd1, h⟩, fun h => ?_⟩
     obtain ⟨d', h1, h2⟩ := h.2.2.2.2.2
     rw [hd1] at h1; cases h1; exact h2
theorem validC_s (c : Co) (hc : okC c) : codex_Valid_B c = some (mb (validP c)) := by
 obtain ⟨hf, hl, ha, hao⟩ := hc
 rw [codex_Valid_B, gdecls_s _ _ _ hf, gdecls_s _ _ _ hl, Sp_eq]
 simp only [ltI_mb, c_mb, Option.bind_some, Sp_iff, Sp_some, false_is_mb]
 refine ⟨fun h => by unfold validP; omega, fun h1 => ⟨fun h => by unfold validP; omega, fun h2 => ⟨fun h => by unfold validP; omega, fun h3 => ⟨fun h4 => ⟨fun h5 => ?_, fun h5 h => h5 h.2.1.1⟩, fun h4 h => h4 h.1.1⟩⟩⟩⟩
 have hd := decd_of h4 h5
 refine Sp_loop (fun i m => (∀ z, m.get z = lnOf (c.arts.take i) z) ∧ ∀ (j : Nat) a, j < i → c.arts[j]? = some a → (1 ≤ a.number ∧ a.number ≤ 1000000) ∧ (0 ≤ a.line ∧ a.line < ((c.lines.length : Nat) : Int)) ∧ lnOf (c.arts.take i) a.number = some a.line) ha ⟨fun z => rfl, fun j a hj => by omega⟩ (fun i a m hi hI => ?_) (fun m hI => ?_)
 · obtain ⟨hm, hj⟩ := hI
   have hm' := hm a.number
   have hmem := List.mem_of_getElem? hi
   have hst := lnOf_step hi
   simp only [codex_Valid_L1, ltI_mb, leI_mb, eqI_mb, c_b, mb_is_true, Sp_iff, Sp_some, RQ_nx, RQ_rt, false_is_mb]
   rw [hm']
   have nv : ∀ q : Prop, (headP c a → q) → ¬ q → ¬ validP c := fun q h6 h7 h8 => h7 (h6 (h8.2.2.2 a hmem).1)
   have keep : (lnOf (c.arts.take i) a.number).isSome = true → (lnOf (c.arts.take i) a.number).getD 0 = a.line → ∀ z, (m.set a.number a.line).get z = lnOf (c.arts.take (i + 1)) z := fun h6 h7 z => by
     rw [Mm.get_set, hst z, hm z]
     by_cases hz : z = a.number
     · subst hz
       rw [if_pos rfl]
       cases hq : lnOf (c.arts.take i) a.number with
       | none => rw [hq] at h6; cases h6
       | some x => rw [hq] at h7; simp at h7; rw [h7]; rfl
     · rw [if_neg hz, if_neg (fun e => hz e.symm)]; simp
   have new : ¬ (lnOf (c.arts.take i) a.number).isSome = true → ∀ z, (m.set a.number a.line).get z = lnOf (c.arts.take (i + 1)) z := fun h6 z => by
     rw [Mm.get_set, hst z, hm z]
     by_cases hz : z = a.number
     · subst hz
       rw [if_pos rfl]
       cases hq : lnOf (c.arts.take i) a.number with
       | none => simp
       | some x => rw [hq] at h6; exact absurd rfl h6
     · rw [if_neg hz, if_neg (fun e => hz e.symm)]; simp
   have fin : ¬ a.number < 1 → ¬ 1000000 < a.number → ¬ a.line < 0 → ¬ ((c.lines.length : Nat) : Int) ≤ a.line → (∀ z, (m.set a.number a.line).get z = lnOf (c.arts.take (i + 1)) z) → (∀ z, (m.set a.number a.line).get z = lnOf (c.arts.take (i + 1)) z) ∧ ∀ (j : Nat) b, j < i + 1 → c.arts[j]? = some b → (1 ≤ b.number ∧ b.number ≤ 1000000) ∧ (0 ≤ b.line ∧ b.line < ((c.lines.length : Nat) : Int)) ∧ lnOf (c.arts.take (i + 1)) b.number = some b.line := fun q1 q2 q3 q4 hk => by
     refine ⟨hk, fun j b hji hb => ?_⟩
     rcases Nat.lt_or_ge j i with h9 | h9
     · obtain ⟨p1, p2, p3⟩ := hj j b h9 hb
       refine ⟨p1, p2, ?_⟩
       rw [hst, p3]; rfl
     · have : j = i := by omega
       subst this; rw [hi] at hb; cases hb
       refine ⟨by omega, by omega, ?_⟩
       rw [← hk, Mm.get_set, if_pos rfl]
   refine ⟨fun h => nv _ (fun h => h.1.1) (by omega), fun q1 => ⟨fun h => nv _ (fun h => h.1.2) (by omega), fun q2 => ⟨fun h => nv _ (fun h => h.2.1.1) (by omega), fun q3 => ⟨fun h => nv _ (fun h => h.2.1.2) (by omega), fun q4 => ⟨fun q5 => ⟨fun q6 => fin q1 q2 q3 q4 (keep q5 q6), fun q6 h => ?_⟩, fun q5 => fin q1 q2 q3 q4 (new q5)⟩⟩⟩⟩⟩
   have h8 := (h.2.2.2 a hmem).1.2.2
   cases hq : lnOf (c.arts.take i) a.number with
   | none => rw [hq] at q5; cases q5
   | some x =>
     rw [hq] at q6
     rw [lnOf_take hq] at h8
     cases h8
     exact q6 rfl
 · obtain ⟨hm, hj⟩ := hI
   rw [List.take_length] at hm hj
   have hH : ∀ a ∈ c.arts, headP c a := fun a h => by obtain ⟨i, hi⟩ := List.getElem?_of_mem h; exact hj i a (List.getElem?_eq_some_iff.1 hi).1 hi
   have hln : LnIn c := fun z l h => by obtain ⟨a, h1, _, h3⟩ := lnOf_some h; rw [← h3]; exact (hH a h1).2.1
   refine Sp_loop (fun i _ => ∀ (j : Nat) a, j < i → c.arts[j]? = some a → bodyP c a) ha (fun j a hj => by omega) (fun i a x hi hI => ?_) (fun x hI => ?_)
   · have hmem := List.mem_of_getElem? hi
     simp only [codex_Valid_L2, Sp_bind]
     refine (articleC_s c hd hln m hm x a (hao a hmem) (hH a hmem).2.1).mono fun r hr => ?_
     obtain ⟨r1, r2⟩ := r
     simp only at hr ⊢
     subst hr
     simp only [c_mb, Sp_iff, Sp_some, RQ_nx, RQ_rt, false_is_mb]
     refine ⟨fun h j b hji hb => ?_, fun h h2 => h (h2.2.2.2 a hmem).2⟩
     rcases Nat.lt_or_ge j i with h9 | h9
     · exact hI j b h9 hb
     · have : j = i := by omega
       subst this; rw [hi] at hb; cases hb; exact h
   · rw [Sp_some, true_is_mb]
     exact ⟨⟨h4, by omega⟩, ⟨h5, by omega⟩, by omega, fun a h => ⟨hH a h, by obtain ⟨i, hi⟩ := List.getElem?_of_mem h; exact hI i a (List.getElem?_eq_some_iff.1 hi).1 hi⟩⟩
end Mo
end Go.Proofs.YtnijkdknnmgoeaaGreat
namespace Go.Proofs.YtnijkdknnmgoeaaGreat
open AI Go
namespace Mo
set_option maxRecDepth 100000
set_option maxHeartbeats 4000000
theorem list_eq_iff {α : Type} {l m : List α} : l = m ↔ l.length = m.length ∧ ∀ (i : Nat) x y, l[i]? = some x → m[i]? = some y → x = y := by
 constructor
 · intro h; subst h; exact ⟨rfl, fun i x y h1 h2 => by rw [h1] at h2; cases h2; rfl⟩
 · rintro ⟨h1, h2⟩
   apply List.ext_getElem h1
   intro i hi hj
   exact h2 i _ _ (List.getElem?_eq_getElem hi) (List.getElem?_eq_getElem hj)
theorem samePc_mb (x y : Pc) : samePc x y = mb (x = y) := by
 rw [Bool.eq_iff_iff, mb_true]
 obtain ⟨a, b, c⟩ := x
 obtain ⟨d, e, f⟩ := y
 simp [samePc]
theorem pieces_s (s t : List Pc) (hs : s.length ≤ 9223372036854775807) : api_Piece_B s t = some (mb (s = t)) := by
 rw [api_Piece_B, eqI_mb, c_mb]
 by_cases h : ((s.length : Nat) : Int) = ((t.length : Nat) : Int)
 · have h' : s.length = t.length := by omega
   rw [iff_T h, k_loop (v := false) (P := fun i x => ∀ y, t[i]? = some y → x = y) hs (fun i x hx => by
     have := (List.getElem?_eq_some_iff.1 hx).1
     obtain ⟨y, hy⟩ : ∃ y, t[i]? = some y := ⟨_, List.getElem?_eq_getElem (by omega)⟩
     simp only [api_Piece_L1, hy, Option.bind_some, samePc_mb, c_mb, k_nr]
     congr 2; apply propext
     exact ⟨fun e y' hy' => by cases hy'; exact e, fun e => e y rfl⟩), m_tf]
   refine smb ?_
   rw [list_eq_iff]
   exact ⟨fun h2 => ⟨h', fun i x y h3 h4 => h2 i x h3 y h4⟩, fun h2 i x h3 y h4 => h2.2 i x y h3 h4⟩
 · rw [iff_F h]
   exact smbF fun e => h (by rw [e])
theorem equal_m : ∀ m : Nat, (∀ a b : Ex, okE a → 2 * cnt a ≤ m → codex_equal_M m a b = some (mb (a = b))) ∧ (∀ l k : List Ex, okS l → l.length ≤ 9223372036854775807 → 2 * cntS l + 1 ≤ m → api_Exprxx_equal_M m l k = some (mb (l = k))) := by
 intro m
 induction m with
 | zero => exact ⟨fun a b _ h => by have := cnt_pos a; omega, fun l k _ _ h => by omega⟩
 | succ m ih =>
   refine ⟨fun a b ha h => ?_, fun l k hl hn h => ?_⟩
   · have hc := cnt_eq a
     obtain ⟨hp, hk, hks⟩ := (okE_iff a).1 ha
     rw [codex_equal_M, codex_equal_B, pieces_s _ _ hp, ih.2 a.kids b.kids (okS_iff.2 hks) hk (by omega)]
     simp only [eqI_mb, eqB_mb, c_mb, Option.bind_some, m_qf]
     refine smb ?_
     obtain ⟨o, n, u, ⟨d, p⟩, q⟩ := a
     obtain ⟨o', n', u', ⟨d', p'⟩, q'⟩ := b
     simp [and_assoc]
   · rw [api_Exprxx_equal_M, api_Exprxx_equal_B, eqI_mb, c_mb]
     by_cases h1 : ((l.length : Nat) : Int) = ((k.length : Nat) : Int)
     · have h' : l.length = k.length := by omega
       rw [iff_T h1, k_loop (v := false) (P := fun i x => ∀ y, k[i]? = some y → x = y) hn (fun i x hx => by
         have := (List.getElem?_eq_some_iff.1 hx).1
         have hm := List.mem_of_getElem? hx
         have h3 := cntS_mem hm
         obtain ⟨y, hy⟩ : ∃ y, k[i]? = some y := ⟨_, List.getElem?_eq_getElem (by omega)⟩
         simp only [api_Exprxx_equal_L1, hy, Option.bind_some, ih.1 x y (okS_iff.1 hl x hm) (by omega), c_mb, k_nr]
         congr 2; apply propext
         exact ⟨fun e y' hy' => by cases hy'; exact e, fun e => e y rfl⟩), m_tf]
       refine smb ?_
       rw [list_eq_iff]
       exact ⟨fun h2 => ⟨h', fun i x y h3 h4 => h2 i x h3 y h4⟩, fun h2 i x h3 y h4 => h2.2 i x y h3 h4⟩
     · rw [iff_F h1]
       exact smbF fun e => h1 (by rw [e])
theorem equal_s (a b : Ex) (ha : okE a) : codex_equal_R a b = some (mb (a = b)) := evt_of (2 * cnt a) fun m hm => (equal_m m).1 a b ha hm
theorem all_s (l k : List Ex) (hl : l.length ≤ 9223372036854775807) (hk : k.length ≤ 9223372036854775807) (hle : ∀ e ∈ l, okE e) : api_Expr_equal_B l k = some (mb (∀ e ∈ k, e ∈ l)) := by
 rw [api_Expr_equal_B, k_loop (v := false) (P := fun _ e => e ∈ l) hk (fun i e _ => by
   have h1 : api_Exprxxx_1_equal_B l e = some (fst (fun x => x = e) l 0) := by
     rw [api_Exprxxx_1_equal_B]
     exact fst_loop (β := Unit) hl (fun i x hx => by
       simp only [api_Exprxxx_1_equal_L1, api_Expr_1_equal_B, equal_s x e (hle x (List.mem_of_getElem? hx)), Option.bind_some, c_mb]
       unfold iff_; split <;> rfl) rfl (fun _ => rfl)
   simp only [api_Expr_equal_L1, api_Exprx_1_equal_B, h1, Option.bind_some, leI_mb, c_mb, m_tf, k_nr]
   congr 2; apply propext
   rcases fst_at (p := fun x => x = e) l 0 with ⟨h2, h3⟩ | ⟨k, y, h2, h3, h4, _⟩
   · rw [h2]; exact ⟨fun h => by omega, fun h => absurd rfl (h3 e h)⟩
   · rw [h2]; exact ⟨fun _ => h4 ▸ List.mem_of_getElem? h3, fun _ => by omega⟩), m_tf, mem_at]
def beat (x y : Ar) : Prop := x.line = y.line ∧ x.number ≠ y.number ∧ (y.rank < x.rank ∨ (x.rank = y.rank ∧
 (((∀ e ∈ y.wh, e ∈ x.wh) ∧ ¬ (∀ e ∈ x.wh, e ∈ y.wh)) ∨ (((∀ e ∈ y.wh, e ∈ x.wh) ↔ (∀ e ∈ x.wh, e ∈ y.wh)) ∧ y.known < x.known))))
def beats (c : Co) (i j : Int) : Prop := ∃ x y, geti c.arts i = some x ∧ geti c.arts j = some y ∧ beat x y
theorem geti_out {α : Type} {l : List α} {z : Int} (h : ¬ (0 ≤ z ∧ z < ((l.length : Nat) : Int))) : geti l z = none := by
 cases hq : geti l z with
 | none => rfl
 | some x => exact absurd (geti_lt hq).1 h
theorem beats_s (c : Co) (hc : okC c) (i j : Int) : codex_Beats_B c i j = some (mb (beats c i j)) := by
 rw [codex_Beats_B]
 simp only [ltI_mb, leI_mb, c_mb]
 unfold beats
 by_cases h1 : i < 0
 · rw [iff_T h1]; exact smbF fun ⟨x, y, h, _⟩ => by rw [geti_out (by omega)] at h; cases h
 by_cases h2 : j < 0
 · rw [iff_F h1, iff_T h2]; exact smbF fun ⟨x, y, _, h, _⟩ => by rw [geti_out (by omega)] at h; cases h
 by_cases h3 : ((c.arts.length : Nat) : Int) ≤ i
 · rw [iff_F h1, iff_F h2, iff_T h3]; exact smbF fun ⟨x, y, h, _⟩ => by rw [geti_out (by omega)] at h; cases h
 by_cases h4 : ((c.arts.length : Nat) : Int) ≤ j
 · rw [iff_F h1, iff_F h2, iff_F h3, iff_T h4]; exact smbF fun ⟨x, y, _, h, _⟩ => by rw [geti_out (by omega)] at h; cases h
 rw [iff_F h1, iff_F h2, iff_F h3, iff_F h4]
 obtain ⟨x, hx, hxm⟩ := geti_in (l := c.arts) (z := i) (by omega) (by omega)
 obtain ⟨y, hy, hym⟩ := geti_in (l := c.arts) (z := j) (by omega) (by omega)
 obtain ⟨hxw, _, hxe, _⟩ := hc.2.2.2 x (List.mem_of_getElem? hxm)
 obtain ⟨hyw, _, hye, _⟩ := hc.2.2.2 y (List.mem_of_getElem? hym)
 rw [hx, hy]
 simp only [Option.bind_some, all_s _ _ hxw hyw hxe, all_s _ _ hyw hxw hye, eqI_mb, c_mb, m_tf, m_qf, m_qt, m_fq, m_tq, m_qr]
 refine smb ?_
 rw [show (∃ x_1 y_1, some x = some x_1 ∧ some y = some y_1 ∧ beat x_1 y_1) ↔ beat x y from ⟨fun ⟨a, b, h1, h2, h3⟩ => by cases h1; cases h2; exact h3, fun h => ⟨x, y, rfl, rfl, h⟩⟩]
 unfold beat
 generalize (∀ e ∈ y.wh, e ∈ x.wh) = A
 generalize (∀ e ∈ x.wh, e ∈ y.wh) = B
 grind
mutual
def men (z : Int) : Ex → Prop
 | ⟨op, n, _, _, ks⟩ => (op = 3 ∧ n = z) ∨ menS z ks
def menS (z : Int) : List Ex → Prop
 | [] => False
 | k :: ks => men z k ∨ menS z ks
end
theorem menS_iff {z : Int} {l : List Ex} : menS z l ↔ ∃ k ∈ l, men z k := by
 induction l with
 | nil => simp [menS]
 | cons k l ih => simp [menS, ih]
theorem men_iff (z : Int) (e : Ex) : men z e ↔ (e.op = 3 ∧ e.n = z) ∨ ∃ k ∈ e.kids, men z k := by
 cases e; rw [men, menS_iff]
theorem ment_eq : ∀ (m m' : Nat) (e : Ex) (M : Mm Int Bool), cnt e ≤ m → cnt e ≤ m' → codex_mentioned_M m e M = codex_mentioned_M m' e M := by
 intro m
 induction m with
 | zero => intro m' e _ h; have := cnt_pos e; omega
 | succ m ih =>
   intro m' e M h1 h2
   cases m' with
   | zero => have := cnt_pos e; omega
   | succ m' =>
     have hb : ∀ x0, foldL (fun i y x => codex_mentioned_L1 (codex_mentioned_M m) i y x) (fun x => x) (e.kids.drop 0) 0 x0 = foldL (fun i y x => codex_mentioned_L1 (codex_mentioned_M m') i y x) (fun x => x) (e.kids.drop 0) 0 x0 := fun x0 => loop_congr (fun i y x hy => by
       have := cnt_kid (List.mem_of_getElem? hy)
       simp only [codex_mentioned_L1]
       rw [ih m' y _ (by omega) (by omega)])
     rw [codex_mentioned_M, codex_mentioned_M, codex_mentioned_B, codex_mentioned_B, hb, hb]
def has (M : Mm Int Bool) (z : Int) : Prop := (M.get z).getD false = true
theorem has_set (M : Mm Int Bool) (k z : Int) : has (M.set k true) z ↔ has M z ∨ z = k := by
 unfold has
 rw [Mm.get_set]
 by_cases h : z = k
 · rw [if_pos h]; simp [h]
 · rw [if_neg h]; simp [h]
theorem ment_m : ∀ (m : Nat) (e : Ex) (M : Mm Int Bool), okE e → cnt e ≤ m → Sp (codex_mentioned_M m e M) (fun r => ∀ z, has r.2 z ↔ has M z ∨ men z e) := by
 intro m
 induction m with
 | zero => intro e _ _ h; have := cnt_pos e; omega
 | succ m ih =>
   intro e M hok hm
   obtain ⟨_, hk, hks⟩ := (okE_iff e).1 hok
   have lp : ∀ (M0 : Mm Int Bool) (k : Mm Int Bool → Option (Unit × Mm Int Bool)), (∀ M1, k M1 = some ((), M1)) → Sp ((lim e.kids.length (foldL (fun i y x => codex_mentioned_L1 (codex_mentioned_M m) i y x) (fun x => x) (e.kids.drop 0) 0 M0)).bind (lpK k (fun v => some v))) (fun r => ∀ z, has r.2 z ↔ has M0 z ∨ ∃ k ∈ e.kids, men z k) := fun M0 k hkk => by
     refine Sp_loop (fun i x => ∀ z, has x z ↔ has M0 z ∨ ∃ (j : Nat) (k : Ex), j < i ∧ e.kids[j]? = some k ∧ men z k) hk (fun z => by simp) (fun i y x hy hI => ?_) (fun x hI => ?_)
     · have hmem := List.mem_of_getElem? hy
       have := cnt_kid hmem
       simp only [codex_mentioned_L1, Sp_bind]
       refine (ih y x (hks y hmem) (by omega)).mono fun r hr => ?_
       obtain ⟨r1, r2⟩ := r
       simp only [Sp_some, RQ_nx] at hr ⊢
       intro z
       rw [hr z, hI z]
       constructor
       · rintro ((h | ⟨j, k, hj, hk1, hk2⟩) | h)
         · exact .inl h
         · exact .inr ⟨j, k, by omega, hk1, hk2⟩
         · exact .inr ⟨i, y, by omega, hy, h⟩
       · rintro (h | ⟨j, k, hj, hk1, hk2⟩)
         · exact .inl (.inl h)
         · rcases Nat.lt_or_ge j i with h9 | h9
           · exact .inl (.inr ⟨j, k, h9, hk1, hk2⟩)
           · have : j = i := by omega
             subst this; rw [hy] at hk1; cases hk1; exact .inr hk2
     · rw [hkk, Sp_some]
       intro z
       rw [hI z]
       constructor
       · rintro (h | ⟨j, k, _, h1, h2⟩)
         · exact .inl h
         · exact .inr ⟨k, List.mem_of_getElem? h1, h2⟩
       · rintro (h | ⟨k, h1, h2⟩)
         · exact .inl h
         · obtain ⟨i, hi⟩ := List.getElem?_of_mem h1
           exact .inr ⟨i, k, (List.getElem?_eq_some_iff.1 hi).1, hi, h2⟩
   rw [codex_mentioned_M, codex_mentioned_B, eqI_mb, c_mb, Sp_iff]
   refine ⟨fun h => (lp _ _ (fun _ => rfl)).mono fun r hr z => ?_, fun h => (lp _ _ (fun _ => rfl)).mono fun r hr z => ?_⟩
   · rw [hr z, has_set, men_iff]
     grind
   · rw [hr z, men_iff]
     grind
theorem ment_s (e : Ex) (M : Mm Int Bool) (h : okE e) : Sp (codex_mentioned_R e M) (fun r => ∀ z, has r.2 z ↔ has M z ∨ men z e) := by
 obtain ⟨r, h1, h2⟩ := ment_m (cnt e) e M h (Nat.le_refl _)
 exact ⟨r, evt_of (cnt e) fun n hn => by rw [ment_eq n (cnt e) e M hn (Nat.le_refl _), h1], h2⟩
end Mo
end Go.Proofs.YtnijkdknnmgoeaaGreat
