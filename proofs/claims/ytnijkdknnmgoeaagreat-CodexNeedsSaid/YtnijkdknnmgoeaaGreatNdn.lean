/- Part of a proof: see the last text. -/
import Derived.Test.YtnijkdknnmgoeaaGreatNdm
namespace Go.Proofs.YtnijkdknnmgoeaaGreat
open AI Go
namespace Mo
set_option maxRecDepth 100000
set_option maxHeartbeats 4000000
noncomputable def B94 : Code := bodyOf Tryz.f94
theorem b94 : Tryz.f94.body = some B94 := by kernel_rfl
noncomputable def codex_fitter_whole_B  (f : Ft) (e : Ex) (unit : ByteArray) : Option (Bool × Int) := cond (eqB e.unit.data.toList unit.data.toList) ((codex_fitter_fits_R (⟨f.codex, f.lines, 0⟩ : Ft) e 1).bind fun (y1a, y1b) => some (y1a, y1b)) (some (false, 0))
theorem codex_fitter_whole_U (f : Ft) (e : Ex) (unit : ByteArray) (yR : Bool) (qf_nodesR : Int) (hS : Sound P G (.call 94 [.ptr 0 0, .agg (exC e), .sc (.string unit)] ⟨[(1, (mbii f.lines)), (0, .cells (ftT 1 f))], 2, [], 0⟩ (.ret (.sc (.bool yR))) ⟨[(1, (mbii f.lines)), (0, .cells [.sl .lost f.codex.facts.length (rows dcC f.codex.facts), .sl .lost f.codex.lines.length (rows dcC f.codex.lines), .sl .lost f.codex.arts.length (rows arC f.codex.arts), .mp 1, .sc (.int .i64 qf_nodesR)])], 2, [], 0⟩)) (u0 u1 : Nat) (hnb : [u0, u1].Nodup) (hnt : ([] : List Nat).Nodup) : Cd.ok P G (.callU 94 [.ptr u0 0, .agg (exC e), .sc (.string unit)] (.ret (.sc (.bool yR))) [(u0, .cells (ftT u1 f)), (u1, (mbii f.lines))] [] [(u0, .cells [.sl .lost f.codex.facts.length (rows dcC f.codex.facts), .sl .lost f.codex.lines.length (rows dcC f.codex.lines), .sl .lost f.codex.arts.length (rows arC f.codex.arts), .mp u1, .sc (.int .i64 qf_nodesR)]), (u1, (mbii f.lines))] []) :=
 frameU (M := [.cells (ftT 1 f), (mbii f.lines)]) (M2 := [.cells [.sl .lost f.codex.facts.length (rows dcC f.codex.facts), .sl .lost f.codex.lines.length (rows dcC f.codex.lines), .sl .lost f.codex.arts.length (rows arC f.codex.arts), .mp 1, .sc (.int .i64 qf_nodesR)], (mbii f.lines)]) (T := []) (T2 := []) (k := 2) (j := 0) Hd.plainG _ _ _ _ hS rfl rfl rfl rfl rfl hnb hnt rfl rfl (.cons (.cells (ftT_rn f (by decide))) (.cons (mB_rn (fun _ => rfl)) .nil)) (.cons (.cells (.cons (.pl (layDc.plS f.codex.facts)) (.cons (.pl (layDc.plS f.codex.lines)) (.cons (.pl (layAr.plS f.codex.arts)) (.cons (.mp (by decide)) (.cons (.pl rfl) .nil)))))) (.cons (mB_rn (fun _ => rfl)) .nil)) (.cons (.ptr (by decide)) (.cons (.pl (layEx.plG e)) (.cons (.pl rfl) .nil))) (.pl rfl) (by
   intro e he
   simp only [List.mem_cons, List.not_mem_nil, or_false] at he
   rcases he with rfl | rfl
   · exact (.arg (.here .ptr))
   · exact (.box (p := 0) (.arg (.here .ptr)) rfl (.there (.there (.there (.here .mp)))))
   )
theorem codex_fitter_whole_step   (f : Ft) (e : Ex) (unit : ByteArray) (yR : Bool) (qf_nodesR : Int) (h : codex_fitter_whole_B  f e unit = some (yR, qf_nodesR)) : Sound P G (.call 94 [.ptr 0 0, .agg (exC e), .sc (.string unit)] ⟨[(1, (mbii f.lines)), (0, .cells (ftT 1 f))], 2, [], 0⟩ (.ret (.sc (.bool yR))) ⟨[(1, (mbii f.lines)), (0, .cells [.sl .lost f.codex.facts.length (rows dcC f.codex.facts), .sl .lost f.codex.lines.length (rows dcC f.codex.lines), .sl .lost f.codex.arts.length (rows arC f.codex.arts), .mp 1, .sc (.int .i64 qf_nodesR)])], 2, [], 0⟩) := by
 unfold codex_fitter_whole_B at h
 refine soundM Hd.mixed (WC_body Tryz.func94 b94 ?_)
 revert h
 refine cndI (fun hb1 => ?_) fun hb1 => ?_
 refine bndI ?_
 rintro ⟨y1a, y1b⟩ hy1
 dsimp only
 intro h
 have hE := Option.some.inj h
 obtain ⟨hE0, hF0⟩ := Prod.mk.inj hE
 subst hE0 hF0
 exact go_retM Hd.plainG _ _ [0] [] [⟨(mbii f.lines), (mbii f.lines), (mB_fits (fun _ => rfl))⟩, fbu [.sl .lost f.codex.facts.length (rows dcC f.codex.facts), .sl .lost f.codex.lines.length (rows dcC f.codex.lines), .sl .lost f.codex.arts.length (rows arC f.codex.arts), .mp 1, .sc (.int .i64 y1b)] (unC (under_plain _ _ (layDc.plS f.codex.facts)) (unC (under_plain _ _ (layDc.plS f.codex.lines)) (unC (under_plain _ _ (layAr.plS f.codex.arts)) (unC rfl (unC rfl rfl)))))] _ _ (runS 300 [pb hb1, pcallU (codex_fitter_fits_U (⟨f.codex, f.lines, 0⟩ : Ft) e 1 y1a y1b (codex_fitter_fits_ok (⟨f.codex, f.lines, 0⟩ : Ft) e 1 y1a y1b hy1) 0 1 (by decide) (by decide))]) (by kernel_rfl) .body
 intro h
 have hE := Option.some.inj h
 obtain ⟨hE0, hF0⟩ := Prod.mk.inj hE
 subst hE0 hF0
 exact go_retM Hd.plainG _ _ [0] [] [⟨(mbii f.lines), (mbii f.lines), (mB_fits (fun _ => rfl))⟩, fbu [.sl .lost f.codex.facts.length (rows dcC f.codex.facts), .sl .lost f.codex.lines.length (rows dcC f.codex.lines), .sl .lost f.codex.arts.length (rows arC f.codex.arts), .mp 1, .sc (.int .i64 0)] (unC (under_plain _ _ (layDc.plS f.codex.facts)) (unC (under_plain _ _ (layDc.plS f.codex.lines)) (unC (under_plain _ _ (layAr.plS f.codex.arts)) (unC rfl (unC rfl rfl)))))] _ _ (runS 300 [pb hb1]) (by kernel_rfl) .body
noncomputable def B56 : Code := bodyOf Tryz.f56
theorem b56 : Tryz.f56.body = some B56 := by kernel_rfl
noncomputable def codex_fitter_article_L1  (f : Ft) (i0 : Nat) (e0 : Int)  : Option (Lp Unit Unit (Bool × Int)) := cond ((f.lines.get e0).isSome) (some (.nx ())) (some (.rt (false, f.nodes)))
noncomputable def codex_fitter_article_L2  (f : Ft) (i1 : Nat) (e1 : Ex) (w0_4 : Int) : Option (Lp Int Int (Bool × Int)) := (codex_fitter_whole_B (⟨f.codex, f.lines, w0_4⟩ : Ft) e1 truthS).bind fun (y2a, y2b) => cond y2a (some (.nx y2b)) (some (.rt (false, y2b)))
noncomputable def codex_fitter_article_B  (f : Ft) (a : Ar) : Option (Bool × Int) := cond (ltI a.rank 0) (some (false, f.nodes)) (cond (ltI 1000000 a.rank) (some (false, f.nodes)) (cond (ltI a.fr 0) (some (false, f.nodes)) (cond (leI a.to a.fr) (some (false, f.nodes)) (cond (ltI 36525 a.to) (some (false, f.nodes)) (cond (ltI a.known 0) (some (false, f.nodes)) (cond (ltI 36524 a.known) (some (false, f.nodes)) ((lim a.un.length (foldL (fun i y x => codex_fitter_article_L1  f i y ) (fun x => ()) (a.un.drop 0) 0 ())).bind (lpK (fun (_ : Unit) => (lim a.wh.length (foldL (fun i y x => codex_fitter_article_L2  f i y x) (fun x => x) (a.wh.drop 0) 0 f.nodes)).bind (lpK (fun (w0_4_3 : Int) => (geti f.codex.lines a.line).bind fun x4 => (codex_fitter_whole_B (⟨f.codex, f.lines, w0_4_3⟩ : Ft) a.am x4.unit).bind fun (y5a, y5b) => some (y5a, y5b)) (fun v => some v))) (fun v => some v)))))))))
theorem codex_fitter_article_U (f : Ft) (a : Ar) (yR : Bool) (qf_nodesR : Int) (hS : Sound P G (.call 56 [.ptr 0 0, .agg (arC a)] ⟨[(1, (mbii f.lines)), (0, .cells (ftT 1 f))], 2, [], 0⟩ (.ret (.sc (.bool yR))) ⟨[(1, (mbii f.lines)), (0, .cells [.sl .lost f.codex.facts.length (rows dcC f.codex.facts), .sl .lost f.codex.lines.length (rows dcC f.codex.lines), .sl .lost f.codex.arts.length (rows arC f.codex.arts), .mp 1, .sc (.int .i64 qf_nodesR)])], 2, [], 0⟩)) (u0 u1 : Nat) (hnb : [u0, u1].Nodup) (hnt : ([] : List Nat).Nodup) : Cd.ok P G (.callU 56 [.ptr u0 0, .agg (arC a)] (.ret (.sc (.bool yR))) [(u0, .cells (ftT u1 f)), (u1, (mbii f.lines))] [] [(u0, .cells [.sl .lost f.codex.facts.length (rows dcC f.codex.facts), .sl .lost f.codex.lines.length (rows dcC f.codex.lines), .sl .lost f.codex.arts.length (rows arC f.codex.arts), .mp u1, .sc (.int .i64 qf_nodesR)]), (u1, (mbii f.lines))] []) :=
 frameU (M := [.cells (ftT 1 f), (mbii f.lines)]) (M2 := [.cells [.sl .lost f.codex.facts.length (rows dcC f.codex.facts), .sl .lost f.codex.lines.length (rows dcC f.codex.lines), .sl .lost f.codex.arts.length (rows arC f.codex.arts), .mp 1, .sc (.int .i64 qf_nodesR)], (mbii f.lines)]) (T := []) (T2 := []) (k := 2) (j := 0) Hd.plainG _ _ _ _ hS rfl rfl rfl rfl rfl hnb hnt rfl rfl (.cons (.cells (ftT_rn f (by decide))) (.cons (mB_rn (fun _ => rfl)) .nil)) (.cons (.cells (.cons (.pl (layDc.plS f.codex.facts)) (.cons (.pl (layDc.plS f.codex.lines)) (.cons (.pl (layAr.plS f.codex.arts)) (.cons (.mp (by decide)) (.cons (.pl rfl) .nil)))))) (.cons (mB_rn (fun _ => rfl)) .nil)) (.cons (.ptr (by decide)) (.cons (.pl (layAr.plG a)) .nil)) (.pl rfl) (by
   intro e he
   simp only [List.mem_cons, List.not_mem_nil, or_false] at he
   rcases he with rfl | rfl
   · exact (.arg (.here .ptr))
   · exact (.box (p := 0) (.arg (.here .ptr)) rfl (.there (.there (.there (.here .mp)))))
   )
theorem codex_fitter_article_step   (f : Ft) (a : Ar) (yR : Bool) (qf_nodesR : Int) (h : codex_fitter_article_B  f a = some (yR, qf_nodesR)) : Sound P G (.call 56 [.ptr 0 0, .agg (arC a)] ⟨[(1, (mbii f.lines)), (0, .cells (ftT 1 f))], 2, [], 0⟩ (.ret (.sc (.bool yR))) ⟨[(1, (mbii f.lines)), (0, .cells [.sl .lost f.codex.facts.length (rows dcC f.codex.facts), .sl .lost f.codex.lines.length (rows dcC f.codex.lines), .sl .lost f.codex.arts.length (rows arC f.codex.arts), .mp 1, .sc (.int .i64 qf_nodesR)])], 2, [], 0⟩) := by
 unfold codex_fitter_article_B at h
 refine soundM Hd.mixed (WC_body Tryz.func56 b56 ?_)
 revert h
 refine cndI (fun hb1 => ?_) fun hb1 => ?_
 intro h
 have hE := Option.some.inj h
 obtain ⟨hE0, hF0⟩ := Prod.mk.inj hE
 subst hE0 hF0
 exact go_retM Hd.plainG _ _ [0] [] [⟨(mbii f.lines), (mbii f.lines), (mB_fits (fun _ => rfl))⟩, fbu (ftT 1 f) (ftT_un rfl)] _ _ (runS 300 [pb hb1]) (by kernel_rfl) .body
 refine cndI (fun hb2 => ?_) fun hb2 => ?_
 intro h
 have hE := Option.some.inj h
 obtain ⟨hE0, hF0⟩ := Prod.mk.inj hE
 subst hE0 hF0
 exact go_retM Hd.plainG _ _ [0] [] [⟨(mbii f.lines), (mbii f.lines), (mB_fits (fun _ => rfl))⟩, fbu (ftT 1 f) (ftT_un rfl)] _ _ (runS 300 [pb hb1, pb hb2]) (by kernel_rfl) .body
 let o1 : List (PC P G) := [pb hb1, pb hb2]
 refine cndI (fun hb3 => ?_) fun hb3 => ?_
 intro h
 have hE := Option.some.inj h
 obtain ⟨hE0, hF0⟩ := Prod.mk.inj hE
 subst hE0 hF0
 exact go_retM Hd.plainG _ _ [0] [] [⟨(mbii f.lines), (mbii f.lines), (mB_fits (fun _ => rfl))⟩, fbu (ftT 1 f) (ftT_un rfl)] _ _ (runS 300 (o1 ++ [pb hb3])) (by kernel_rfl) .body
 refine cndI (fun hb4 => ?_) fun hb4 => ?_
 intro h
 have hE := Option.some.inj h
 obtain ⟨hE0, hF0⟩ := Prod.mk.inj hE
 subst hE0 hF0
 exact go_retM Hd.plainG _ _ [0] [] [⟨(mbii f.lines), (mbii f.lines), (mB_fits (fun _ => rfl))⟩, fbu (ftT 1 f) (ftT_un rfl)] _ _ (runS 300 (o1 ++ [pb hb3, pb hb4])) (by kernel_rfl) .body
 refine cndI (fun hb5 => ?_) fun hb5 => ?_
 intro h
 have hE := Option.some.inj h
 obtain ⟨hE0, hF0⟩ := Prod.mk.inj hE
 subst hE0 hF0
 exact go_retM Hd.plainG _ _ [0] [] [⟨(mbii f.lines), (mbii f.lines), (mB_fits (fun _ => rfl))⟩, fbu (ftT 1 f) (ftT_un rfl)] _ _ (runS 300 (o1 ++ [pb hb3, pb hb4, pb hb5])) (by kernel_rfl) .body
 refine cndI (fun hb6 => ?_) fun hb6 => ?_
 intro h
 have hE := Option.some.inj h
 obtain ⟨hE0, hF0⟩ := Prod.mk.inj hE
 subst hE0 hF0
 exact go_retM Hd.plainG _ _ [0] [] [⟨(mbii f.lines), (mbii f.lines), (mB_fits (fun _ => rfl))⟩, fbu (ftT 1 f) (ftT_un rfl)] _ _ (runS 300 (o1 ++ [pb hb3, pb hb4, pb hb5, pb hb6])) (by kernel_rfl) .body
 refine cndI (fun hb7 => ?_) fun hb7 => ?_
 intro h
 have hE := Option.some.inj h
 obtain ⟨hE0, hF0⟩ := Prod.mk.inj hE
 subst hE0 hF0
 exact go_retM Hd.plainG _ _ [0] [] [⟨(mbii f.lines), (mbii f.lines), (mB_fits (fun _ => rfl))⟩, fbu (ftT 1 f) (ftT_un rfl)] _ _ (runS 300 (o1 ++ [pb hb3, pb hb4, pb hb5, pb hb6, pb hb7])) (by kernel_rfl) .body
 refine bndI fun res hres h => ?_
 have hlen := (limE hres).1
 replace hres := (limE hres).2
 refine go_at [] [0, 1, 3, 4, 8, 13, 14, 17, 18, 19, 22, 23, 24, 29, 30, 31, 34, 35, 38, 39, 42, 43, 45, 46, 47, 48, 59, 60, 61, 67, 69, 71, 72, 73, 77, 88] 0 (sub B56 [1, 1, 1, 0, 1, 0, 0]) [.code (sub B56 [1, 1, 1, 1])] _ _ (runS 300 (o1 ++ [pb hb3, pb hb4, pb hb5, pb hb6, pb hb7])) (by kernel_rfl) (foldM (fn := Tryz.f56) (m := 2) (s00 := ⟨[(1, (mbii f.lines)), (0, .cells (ftT 1 f))], 2, [], 0⟩) (fun v => .sc (.bool v.1)) (fun v => ⟨[(1, (mbii f.lines)), (0, .cells [.sl .lost f.codex.facts.length (rows dcC f.codex.facts), .sl .lost f.codex.lines.length (rows dcC f.codex.lines), .sl .lost f.codex.arts.length (rows arC f.codex.arts), .mp 1, .sc (.int .i64 v.2)])], 2, [], 0⟩) 0 a.un (fun i0 (_ : Unit) (j0 : JJ) => frm 89 0 [(0, .ptr 0 0), (3, .ptr 2 0), (45, .sl .lost a.un.length (rows inC a.un)), (46, .sc (.int .i64 ((a.un.length : Nat) : Int))), (47, .sc (.int .i64 ((i0 : Nat) : Int)))] [4, 8, 13, 14, 17, 18, 19, 22, 23, 24, 29, 30, 31, 34, 35, 38, 39, 42, 43, 48, 59, 60, 61, 67, 72, 73, 88] 0 [1, 69, 71, 77] 0 j0) (fun (_ : Nat) (_ : Unit) (_ : JJ) => ⟨[(2, .cells (arC a)), (1, (mbii f.lines)), (0, .cells (ftT 1 f))], 3, [], 0⟩) (fun (j : JJ) => plainL j.2 = true) (fun (_ : Unit) (jx : JJ) => frm 89 0 [(0, .ptr 0 0), (3, .ptr 2 0)] [4, 8, 13, 14, 17, 18, 19, 22, 23, 24, 29, 30, 31, 34, 35, 38, 39, 42, 43, 48, 59, 60, 61, 67, 72, 73, 88] 0 [1, 69, 71, 77] 0 jx) (fun (_ : Unit) (_ : JJ) => ⟨[(2, .cells (arC a)), (1, (mbii f.lines)), (0, .cells (ftT 1 f))], 3, [], 0⟩) (fun (j : JJ) => plainL j.2 = true) ?_ ?_ 0 hres ?_ ?_ ([.bool false, undef, .bool false, .bool false, .bool false, .bool false, .bool false, .bool false, .bool false, .bool false, .bool false, .bool false, .bool false, .bool false, .bool false, .bool false, .bool false, .bool false, .bool false], [.agg (arC a), .sc undef, .sc undef, .sc undef]) (plC (layAr.plG a) (plC rfl (plC rfl (plC rfl rfl)))))
 rintro i0 ⟨⟩ j0 hj0 hge hq
 clear h hres
 refine WL_rnd ?_
 exact go_ex Hd.plainG [0, 3, 6, 8, 16, 26, 28, 34, 36, 38, 44, 46, 48, 58, 60, 62, 68, 70, 76, 78, 84, 86, 96, 118, 120, 122, 134, 139, 143, 144, 146, 155, 176] [fq (gn_pl hj0 0), fq (gn_pl hj0 1), fq (gn_pl hj0 2), fq (gn_pl hj0 3)] [fbp (arC a) (layAr.pl a), ⟨(mbii f.lines), (mbii f.lines), (mB_fits (fun _ => rfl))⟩, fbu (ftT 1 f) (ftT_un rfl)] 0 _ _ (runS 300 [pb (B := ltI ((i0 : Nat) : Int) ((a.un.length : Nat) : Int)) (b := false) (ltF hge)]) (by kernel_rfl) (hq ([(jn j0 0), (jn j0 1), (jn j0 2), (jn j0 3), (jn j0 4), (jn j0 5), (jn j0 6), (jn j0 7), (jn j0 8), (jn j0 9), (jn j0 10), (jn j0 11), (jn j0 12), (jn j0 13), (jn j0 14), (jn j0 15), (jn j0 16), (jn j0 17), (jn j0 18), .bool false, (jn j0 20), (jn j0 21), (jn j0 22), (jn j0 23), (jn j0 24), (jn j0 25), (jn j0 26)], [(gn j0 0), (gn j0 1), (gn j0 2), (gn j0 3)]) (plC (gn_pl hj0 0) (plC (gn_pl hj0 1) (plC (gn_pl hj0 2) (plC (gn_pl hj0 3) rfl)))))
 clear h hres
 rintro i0 e0 ⟨⟩ j0 r hj0 he0 hi0 h k
 refine WL_rnd ?_
 revert h
 show codex_fitter_article_L1  f i0 e0  = some r → _
 unfold codex_fitter_article_L1
 let o2 : List (PC P G) := [pb (B := ltI ((i0 : Nat) : Int) ((a.un.length : Nat) : Int)) (b := true) (ltT hi0), pix (ix40 .lost he0)]
 refine cndI (fun hb8 => ?_) fun hb8 => ?_
 rintro ⟨⟩
 exact go_nx Hd.plainG [0, 3, 6, 8, 16, 26, 28, 34, 36, 38, 44, 46, 48, 58, 60, 62, 68, 70, 76, 78, 84, 86, 91, 92, 94, 96, 118, 120, 122, 134, 139, 143, 144, 146, 155, 176] [fq (gn_pl hj0 0), fq (layInt.plS a.un), fq (gn_pl hj0 1), fq (gn_pl hj0 2), fq (gn_pl hj0 3)] [fbp (arC a) (layAr.pl a), ⟨(mbii f.lines), (mbii f.lines), (mB_fits (fun _ => rfl))⟩, fbu (ftT 1 f) (ftT_un rfl)] _ _ (runS 300 (o2 ++ [plk (lkT83 f.lines e0 hb8), pinc i0 (by omega)])) (by kernel_rfl) (k ([(jn j0 0), .bool true, (jn j0 2), (jn j0 3), (jn j0 4), (jn j0 5), (jn j0 6), (jn j0 7), (jn j0 8), (jn j0 9), (jn j0 10), (jn j0 11), (jn j0 12), (jn j0 13), (jn j0 14), (jn j0 15), (jn j0 16), (jn j0 17), (jn j0 18), .bool true, .bool true, .bool true, .bool false, (jn j0 23), (jn j0 24), (jn j0 25), (jn j0 26)], [(gn j0 0), (gn j0 1), (gn j0 2), (gn j0 3)]) (plC (gn_pl hj0 0) (plC (gn_pl hj0 1) (plC (gn_pl hj0 2) (plC (gn_pl hj0 3) rfl)))))
 rintro ⟨⟩
 exact go_retM Hd.plainG _ _ [0] [] [⟨(mbii f.lines), (mbii f.lines), (mB_fits (fun _ => rfl))⟩, fbu (ftT 1 f) (ftT_un rfl)] _ _ (runS 300 (o2 ++ [plk (lkT83 f.lines e0 hb8)])) (by kernel_rfl) (.rnd k)
 rintro ⟨⟩ rfl jx_1 hjx_1
 revert h
 clear hres
 dsimp only [lpK]
 refine bndI fun res hres h => ?_
 have hlen := (limE hres).1
 replace hres := (limE hres).2
 refine go_at [] [0, 1, 3, 4, 8, 13, 14, 17, 18, 19, 22, 23, 24, 29, 30, 31, 34, 35, 38, 39, 42, 43, 48, 59, 60, 61, 64, 65, 66, 67, 69, 71, 72, 73, 77, 88] 2 (sub B56 [1, 1, 1, 1, 0, 1, 0, 0]) [.code (sub B56 [1, 1, 1, 1, 1])] _ _ (runX 300 []) (by kernel_rfl) (foldM (fn := Tryz.f56) (m := 2) (s00 := ⟨[(1, (mbii f.lines)), (0, .cells (ftT 1 f))], 2, [], 0⟩) (fun v => .sc (.bool v.1)) (fun v => ⟨[(1, (mbii f.lines)), (0, .cells [.sl .lost f.codex.facts.length (rows dcC f.codex.facts), .sl .lost f.codex.lines.length (rows dcC f.codex.lines), .sl .lost f.codex.arts.length (rows arC f.codex.arts), .mp 1, .sc (.int .i64 v.2)])], 2, [], 0⟩) 2 a.wh (fun i1 (w0_4 : Int) (j1 : JJ) => frm 89 0 [(0, .ptr 0 0), (3, .ptr 2 0), (64, .sl .lost a.wh.length (exsC a.wh)), (65, .sc (.int .i64 ((a.wh.length : Nat) : Int))), (66, .sc (.int .i64 ((i1 : Nat) : Int)))] [4, 8, 13, 14, 17, 18, 19, 22, 23, 24, 29, 30, 31, 34, 35, 38, 39, 42, 43, 48, 59, 60, 61, 67, 72, 73, 88] 0 [1, 69, 71, 77] 0 j1) (fun (_ : Nat) (w0_4 : Int) (_ : JJ) => ⟨[(2, .cells (arC a)), (1, (mbii f.lines)), (0, .cells [.sl .lost f.codex.facts.length (rows dcC f.codex.facts), .sl .lost f.codex.lines.length (rows dcC f.codex.lines), .sl .lost f.codex.arts.length (rows arC f.codex.arts), .mp 1, .sc (.int .i64 w0_4)])], 3, [], 0⟩) (fun (j : JJ) => plainL j.2 = true) (fun (w0_4 : Int) (jx : JJ) => frm 89 0 [(0, .ptr 0 0), (3, .ptr 2 0)] [4, 8, 13, 14, 17, 18, 19, 22, 23, 24, 29, 30, 31, 34, 35, 38, 39, 42, 43, 48, 59, 60, 61, 67, 72, 73, 88] 0 [1, 69, 71, 77] 0 jx) (fun (w0_4 : Int) (_ : JJ) => ⟨[(2, .cells (arC a)), (1, (mbii f.lines)), (0, .cells [.sl .lost f.codex.facts.length (rows dcC f.codex.facts), .sl .lost f.codex.lines.length (rows dcC f.codex.lines), .sl .lost f.codex.arts.length (rows arC f.codex.arts), .mp 1, .sc (.int .i64 w0_4)])], 3, [], 0⟩) (fun (j : JJ) => plainL j.2 = true) ?_ ?_ 0 hres ?_ ?_ ([(jn jx_1 0), (jn jx_1 1), (jn jx_1 2), (jn jx_1 3), (jn jx_1 4), (jn jx_1 5), (jn jx_1 6), (jn jx_1 7), (jn jx_1 8), (jn jx_1 9), (jn jx_1 10), (jn jx_1 11), (jn jx_1 12), (jn jx_1 13), (jn jx_1 14), (jn jx_1 15), (jn jx_1 16), (jn jx_1 17), (jn jx_1 18), (jn jx_1 19), (jn jx_1 20), (jn jx_1 21), (jn jx_1 22), (jn jx_1 23), (jn jx_1 24), (jn jx_1 25), (jn jx_1 26)], [(gn jx_1 0), (gn jx_1 1), (gn jx_1 2), (gn jx_1 3)]) (plC (gn_pl hjx_1 0) (plC (gn_pl hjx_1 1) (plC (gn_pl hjx_1 2) (plC (gn_pl hjx_1 3) rfl)))))
 rintro i1 w0_4 j1 hj1 hge hq
 clear h hres
 refine WL_rnd ?_
 exact go_ex Hd.plainG [0, 3, 6, 8, 16, 26, 28, 34, 36, 38, 44, 46, 48, 58, 60, 62, 68, 70, 76, 78, 84, 86, 96, 118, 120, 122, 134, 139, 143, 144, 146, 155, 176] [fq (gn_pl hj1 0), fq (gn_pl hj1 1), fq (gn_pl hj1 2), fq (gn_pl hj1 3)] [fbp (arC a) (layAr.pl a), ⟨(mbii f.lines), (mbii f.lines), (mB_fits (fun _ => rfl))⟩, fbu [.sl .lost f.codex.facts.length (rows dcC f.codex.facts), .sl .lost f.codex.lines.length (rows dcC f.codex.lines), .sl .lost f.codex.arts.length (rows arC f.codex.arts), .mp 1, .sc (.int .i64 w0_4)] (unC (under_plain _ _ (layDc.plS f.codex.facts)) (unC (under_plain _ _ (layDc.plS f.codex.lines)) (unC (under_plain _ _ (layAr.plS f.codex.arts)) (unC rfl (unC rfl rfl)))))] 2 _ _ (runS 300 [pb (B := ltI ((i1 : Nat) : Int) ((a.wh.length : Nat) : Int)) (b := false) (ltF hge)]) (by kernel_rfl) (hq ([(jn j1 0), (jn j1 1), (jn j1 2), (jn j1 3), (jn j1 4), (jn j1 5), (jn j1 6), (jn j1 7), (jn j1 8), (jn j1 9), (jn j1 10), (jn j1 11), (jn j1 12), (jn j1 13), (jn j1 14), (jn j1 15), (jn j1 16), (jn j1 17), (jn j1 18), (jn j1 19), (jn j1 20), (jn j1 21), (jn j1 22), .bool false, (jn j1 24), (jn j1 25), (jn j1 26)], [(gn j1 0), (gn j1 1), (gn j1 2), (gn j1 3)]) (plC (gn_pl hj1 0) (plC (gn_pl hj1 1) (plC (gn_pl hj1 2) (plC (gn_pl hj1 3) rfl)))))
 clear h hres
 rintro i1 e1 w0_4 j1 r hj1 he1 hi1 h k
 refine WL_rnd ?_
 revert h
 show codex_fitter_article_L2  f i1 e1 w0_4 = some r → _
 unfold codex_fitter_article_L2
 refine bndI ?_
 rintro ⟨y2a, y2b⟩ hy2
 dsimp only
 let o3 : List (PC P G) := [pb (B := ltI ((i1 : Nat) : Int) ((a.wh.length : Nat) : Int)) (b := true) (ltT hi1), pix (ix58 .lost he1)]
 refine cndI (fun hv => ?_) fun hv => ?_
 subst hv
 rintro ⟨⟩
 exact go_nx Hd.plainG [0, 3, 6, 8, 16, 26, 28, 34, 36, 38, 44, 46, 48, 58, 60, 62, 68, 70, 76, 78, 84, 86, 96, 118, 120, 122, 129, 130, 132, 134, 139, 143, 144, 146, 155, 176] [fq (gn_pl hj1 0), fq (layEx.plS a.wh), fq (layEx.plG e1), fq (layEx.plG e1), fq (gn_pl hj1 3)] [fbp (arC a) (layAr.pl a), ⟨(mbii f.lines), (mbii f.lines), (mB_fits (fun _ => rfl))⟩, fbu [.sl .lost f.codex.facts.length (rows dcC f.codex.facts), .sl .lost f.codex.lines.length (rows dcC f.codex.lines), .sl .lost f.codex.arts.length (rows arC f.codex.arts), .mp 1, .sc (.int .i64 y2b)] (unC (under_plain _ _ (layDc.plS f.codex.facts)) (unC (under_plain _ _ (layDc.plS f.codex.lines)) (unC (under_plain _ _ (layAr.plS f.codex.arts)) (unC rfl (unC rfl rfl)))))] _ _ (runS 300 (o3 ++ [pcallU (codex_fitter_whole_U (⟨f.codex, f.lines, w0_4⟩ : Ft) e1 truthS true y2b (codex_fitter_whole_step (⟨f.codex, f.lines, w0_4⟩ : Ft) e1 truthS true y2b hy2) 0 1 (by decide) (by decide)), pinc i1 (by omega)])) (by kernel_rfl) (k ([(jn j1 0), (jn j1 1), (jn j1 2), (jn j1 3), (jn j1 4), (jn j1 5), (jn j1 6), (jn j1 7), (jn j1 8), (jn j1 9), (jn j1 10), (jn j1 11), (jn j1 12), (jn j1 13), (jn j1 14), (jn j1 15), (jn j1 16), (jn j1 17), (jn j1 18), (jn j1 19), (jn j1 20), (jn j1 21), (jn j1 22), .bool true, .bool true, .bool false, (jn j1 26)], [(gn j1 0), .agg (exC e1), .agg (exC e1), (gn j1 3)]) (plC (gn_pl hj1 0) (plC (layEx.plG e1) (plC (layEx.plG e1) (plC (gn_pl hj1 3) rfl)))))
 subst hv
 rintro ⟨⟩
 exact go_retM Hd.plainG _ _ [0] [] [⟨(mbii f.lines), (mbii f.lines), (mB_fits (fun _ => rfl))⟩, fbu [.sl .lost f.codex.facts.length (rows dcC f.codex.facts), .sl .lost f.codex.lines.length (rows dcC f.codex.lines), .sl .lost f.codex.arts.length (rows arC f.codex.arts), .mp 1, .sc (.int .i64 y2b)] (unC (under_plain _ _ (layDc.plS f.codex.facts)) (unC (under_plain _ _ (layDc.plS f.codex.lines)) (unC (under_plain _ _ (layAr.plS f.codex.arts)) (unC rfl (unC rfl rfl)))))] _ _ (runS 300 (o3 ++ [pcallU (codex_fitter_whole_U (⟨f.codex, f.lines, w0_4⟩ : Ft) e1 truthS false y2b (codex_fitter_whole_step (⟨f.codex, f.lines, w0_4⟩ : Ft) e1 truthS false y2b hy2) 0 1 (by decide) (by decide))])) (by kernel_rfl) (.rnd k)
 rintro w0_4_3 rfl jx_3 hjx_3
 revert h
 clear hres
 dsimp only [lpK]
 refine bndI fun x4 hx4 => ?_
 refine bndI ?_
 rintro ⟨y5a, y5b⟩ hy5
 dsimp only
 intro h
 have hE := Option.some.inj h
 obtain ⟨hE0, hF0⟩ := Prod.mk.inj hE
 subst hE0 hF0
 exact go_retM Hd.plainG _ _ [0] [] [⟨(mbii f.lines), (mbii f.lines), (mB_fits (fun _ => rfl))⟩, fbu [.sl .lost f.codex.facts.length (rows dcC f.codex.facts), .sl .lost f.codex.lines.length (rows dcC f.codex.lines), .sl .lost f.codex.arts.length (rows arC f.codex.arts), .mp 1, .sc (.int .i64 y5b)] (unC (under_plain _ _ (layDc.plS f.codex.facts)) (unC (under_plain _ _ (layDc.plS f.codex.lines)) (unC (under_plain _ _ (layAr.plS f.codex.arts)) (unC rfl (unC rfl rfl)))))] _ _ (runX 300 [pz 13, pix (ixz28 .lost hx4), pcallU (codex_fitter_whole_U (⟨f.codex, f.lines, w0_4_3⟩ : Ft) a.am x4.unit y5a y5b (codex_fitter_whole_step (⟨f.codex, f.lines, w0_4_3⟩ : Ft) a.am x4.unit y5a y5b hy5) 0 1 (by decide) (by decide))]) (by kernel_rfl) .body
 rintro v rfl
 dsimp only [lpK] at h
 cases h
 exact .outer .body
 rintro v rfl
 dsimp only [lpK] at h
 cases h
 exact .outer .body
noncomputable def B22 : Code := bodyOf Tryz.f22
theorem b22 : Tryz.f22.body = some B22 := by kernel_rfl
noncomputable def codex_Valid_L1  (c : Co) (i0 : Nat) (e0 : Ar) (w1_m : (Mm Int Int)) : Option (Lp (Mm Int Int) (Mm Int Int) Bool) := cond (ltI e0.number 1) (some (.rt false)) (cond (ltI 1000000 e0.number) (some (.rt false)) (cond (ltI e0.line 0) (some (.rt false)) (cond (leI ((c.lines.length : Nat) : Int) e0.line) (some (.rt false)) (cond ((w1_m.get e0.number).isSome) (cond (eqI ((w1_m.get e0.number).getD 0) e0.line) (some (.nx (w1_m.set e0.number e0.line))) (some (.rt false))) (some (.nx (w1_m.set e0.number e0.line)))))))
noncomputable def codex_Valid_L2  (c : Co) (w1_m_3 : (Mm Int Int)) (i1 : Nat) (e1 : Ar) (w2_4 : Int) : Option (Lp Int Int Bool) := (codex_fitter_article_B (⟨c, w1_m_3, w2_4⟩ : Ft) e1).bind fun (y4a, y4b) => cond y4a (some (.nx y4b)) (some (.rt false))
noncomputable def codex_Valid_B  (c : Co) : Option Bool := cond (ltI 32 ((c.facts.length : Nat) : Int)) (some false) (cond (ltI 32 ((c.lines.length : Nat) : Int)) (some false) (cond (ltI 60 ((c.arts.length : Nat) : Int)) (some false) ((codex_goodDecls_B c.facts 0 0).bind fun y1 => cond y1 ((codex_goodDecls_B c.lines 1 4).bind fun y2 => cond y2 ((lim c.arts.length (foldL (fun i y x => codex_Valid_L1  c i y x) (fun x => x) (c.arts.drop 0) 0 (Mm.nil : Mm Int Int))).bind (lpK (fun (w1_m_3 : (Mm Int Int)) => (lim c.arts.length (foldL (fun i y x => codex_Valid_L2  c w1_m_3 i y x) (fun x => x) (c.arts.drop 0) 0 0)).bind (lpK (fun (w2_4_5 : Int) => some true) (fun v => some v))) (fun v => some v))) (some false)) (some false))))
theorem codex_Valid_step   (c : Co) (yR : Bool) (h : codex_Valid_B  c = some yR) : Pure P G 22 [.agg (coC c)] (.sc (.bool yR)) := by
 unfold codex_Valid_B at h
 refine pureM Hd.mixed Hd.plainG (WC_body Tryz.func22 b22 ?_) (plC (layCo.plG c) rfl) rfl
 revert h
 refine cndI (fun hb1 => ?_) fun hb1 => ?_
 rintro ⟨⟩
 exact rS (runS 300 [pb hb1]) (by kernel_rfl)
 refine cndI (fun hb2 => ?_) fun hb2 => ?_
 rintro ⟨⟩
 exact rS (runS 300 [pb hb1, pb hb2]) (by kernel_rfl)
 refine cndI (fun hb3 => ?_) fun hb3 => ?_
 rintro ⟨⟩
 exact rS (runS 300 [pb hb1, pb hb2, pb hb3]) (by kernel_rfl)
 refine bndI fun y1 hy1 => ?_
 refine cndI (fun hv => ?_) fun hv => ?_
 subst hv
 refine bndI fun y2 hy2 => ?_
 refine cndI (fun hv => ?_) fun hv => ?_
 subst hv
 refine bndI fun res hres h => ?_
 have hlen := (limE hres).1
 replace hres := (limE hres).2
 refine go_at [] [0, 1, 2, 3, 7, 14, 15, 19, 20, 21, 25, 26, 29, 30, 31, 34, 35, 36, 39, 40, 41, 42, 44, 47, 48, 51, 52, 53, 56, 57, 58, 64, 65, 72, 73, 74, 78, 79, 86, 88, 93, 95, 96, 97, 98] 0 (sub B22 [1, 1, 1, 1, 0, 1, 0, 0]) [.code (sub B22 [1, 1, 1, 1, 1])] _ _ (runS 300 [pb hb1, pb hb2, pb hb3, pcall (codex_goodDecls_step c.facts 0 0 true hy1), pcall (codex_goodDecls_step c.lines 1 4 true hy2)]) (by kernel_rfl) (foldP (fn := Tryz.f22) (m := 0) (fun v => .sc (.bool v)) 0 c.arts (fun i0 (w1_m : (Mm Int Int)) (j0 : JJ) => frm 100 0 [(1, .ptr 0 0), (3, .mp 1), (39, .sl .lost c.arts.length (rows arC c.arts)), (40, .sc (.int .i64 ((c.arts.length : Nat) : Int))), (41, .sc (.int .i64 ((i0 : Nat) : Int)))] [2, 7, 14, 15, 19, 20, 21, 25, 26, 29, 30, 31, 34, 35, 36, 42, 47, 48, 51, 52, 53, 56, 57, 58, 64, 65, 72, 73, 74, 78, 79, 93, 97, 98] 0 [0, 44, 86, 88, 95, 96] 0 j0) (fun (_ : Nat) (w1_m : (Mm Int Int)) (_ : JJ) => ⟨[(1, (mbii w1_m)), (0, .cells (coC c))], 2, [], 0⟩) (fun (j : JJ) => plainL j.2 = true) (fun (w1_m : (Mm Int Int)) (jx : JJ) => frm 100 0 [(1, .ptr 0 0), (3, .mp 1)] [2, 7, 14, 15, 19, 20, 21, 25, 26, 29, 30, 31, 34, 35, 36, 42, 47, 48, 51, 52, 53, 56, 57, 58, 64, 65, 72, 73, 74, 78, 79, 93, 97, 98] 0 [0, 44, 86, 88, 95, 96] 0 jx) (fun (w1_m : (Mm Int Int)) (_ : JJ) => ⟨[(1, (mbii w1_m)), (0, .cells (coC c))], 2, [], 0⟩) (fun (j : JJ) => plainL j.2 = true) ?_ ?_ 0 hres ?_ ?_ ([.bool false, undef, .bool false, .bool false, .bool false, .bool false, .bool false, .bool false, .bool false, .bool true, .bool false, .bool false, .bool true, .bool false, .bool false], [.agg (coC c), .sc undef, .sc undef, .sc undef, .sc undef, .sc undef]) (plC (layCo.plG c) (plC rfl (plC rfl (plC rfl (plC rfl (plC rfl rfl)))))))
 rintro i0 w1_m j0 hj0 hge hq
 clear h hres
 refine WL_rnd ?_
 exact go_ex Hd.plainG [1, 2, 4, 6, 14, 28, 30, 38, 40, 42, 50, 52, 58, 60, 62, 68, 70, 72, 84, 89, 94, 96, 102, 104, 106, 112, 114, 116, 128, 130, 144, 146, 148, 156, 158, 173, 177, 186, 191, 193, 194, 196] [fq (gn_pl hj0 0), fq (gn_pl hj0 1), fq (gn_pl hj0 2), fq (gn_pl hj0 3), fq (gn_pl hj0 4), fq (gn_pl hj0 5)] [⟨(mbii w1_m), (mbii w1_m), (mB_fits (fun _ => rfl))⟩, fbp (coC c) (layCo.pl c)] 0 _ _ (runS 300 [pb (B := ltI ((i0 : Nat) : Int) ((c.arts.length : Nat) : Int)) (b := false) (ltF hge)]) (by kernel_rfl) (hq ([(jn j0 0), (jn j0 1), (jn j0 2), (jn j0 3), (jn j0 4), (jn j0 5), (jn j0 6), (jn j0 7), (jn j0 8), (jn j0 9), (jn j0 10), (jn j0 11), (jn j0 12), (jn j0 13), (jn j0 14), .bool false, (jn j0 16), (jn j0 17), (jn j0 18), (jn j0 19), (jn j0 20), (jn j0 21), (jn j0 22), (jn j0 23), (jn j0 24), (jn j0 25), (jn j0 26), (jn j0 27), (jn j0 28), (jn j0 29), (jn j0 30), (jn j0 31), (jn j0 32), (jn j0 33)], [(gn j0 0), (gn j0 1), (gn j0 2), (gn j0 3), (gn j0 4), (gn j0 5)]) (plC (gn_pl hj0 0) (plC (gn_pl hj0 1) (plC (gn_pl hj0 2) (plC (gn_pl hj0 3) (plC (gn_pl hj0 4) (plC (gn_pl hj0 5) rfl)))))))
 clear h hres
 rintro i0 e0 w1_m j0 r hj0 he0 hi0 h k
 refine WL_rnd ?_
 revert h
 show codex_Valid_L1  c i0 e0 w1_m = some r → _
 unfold codex_Valid_L1
 let o1 : List (PC P G) := [pb (B := ltI ((i0 : Nat) : Int) ((c.arts.length : Nat) : Int)) (b := true) (ltT hi0), pix (ix29 .lost he0)]
 refine cndI (fun hb4 => ?_) fun hb4 => ?_
 rintro ⟨⟩
 exact go_retA _ _ (runS 300 (o1 ++ [pb hb4])) (by kernel_rfl) (.rnd k) .sc
 refine cndI (fun hb5 => ?_) fun hb5 => ?_
 rintro ⟨⟩
 exact go_retA _ _ (runS 300 (o1 ++ [pb hb4, pb hb5])) (by kernel_rfl) (.rnd k) .sc
 refine cndI (fun hb6 => ?_) fun hb6 => ?_
 rintro ⟨⟩
 exact go_retA _ _ (runS 300 (o1 ++ [pb hb4, pb hb5, pb hb6])) (by kernel_rfl) (.rnd k) .sc
 refine cndI (fun hb7 => ?_) fun hb7 => ?_
 rintro ⟨⟩
 exact go_retA _ _ (runS 300 (o1 ++ [pb hb4, pb hb5, pb hb6, pb hb7])) (by kernel_rfl) (.rnd k) .sc
 refine cndI (fun hb8 => ?_) fun hb8 => ?_
 refine cndI (fun hb9 => ?_) fun hb9 => ?_
 rintro ⟨⟩
 exact go_nx Hd.plainG [1, 2, 4, 6, 14, 28, 30, 38, 40, 42, 50, 52, 58, 60, 62, 68, 70, 72, 79, 80, 82, 84, 89, 94, 96, 102, 104, 106, 112, 114, 116, 128, 130, 144, 146, 148, 156, 158, 173, 177, 186, 191, 193, 194, 196] [fq (gn_pl hj0 0), fq (layAr.plS c.arts), fq (layAr.plG e0), fq (gn_pl hj0 2), fq (gn_pl hj0 3), fq (gn_pl hj0 4), fq (gn_pl hj0 5)] [⟨(mbii (w1_m.set e0.number e0.line)), (mbii (w1_m.set e0.number e0.line)), (mB_fits (fun _ => rfl))⟩, fbp (coC c) (layCo.pl c)] _ _ (runS 300 (o1 ++ [pb hb4, pb hb5, pb hb6, pb hb7, plk (lkT83 w1_m e0.number hb8), pn hb9, pms (ms83 w1_m e0.number e0.line), pinc i0 (by omega)])) (by kernel_rfl) (k ([(jn j0 0), .bool true, (jn j0 2), (jn j0 3), (jn j0 4), (jn j0 5), (jn j0 6), (jn j0 7), (jn j0 8), (jn j0 9), (jn j0 10), (jn j0 11), (jn j0 12), (jn j0 13), (jn j0 14), .bool true, .bool false, .bool false, .bool false, .bool false, .bool false, .bool false, .bool false, .bool false, .bool false, .bool false, .bool true, .bool true, .bool true, .bool false, .bool false, (jn j0 31), (jn j0 32), (jn j0 33)], [(gn j0 0), .agg (arC e0), (gn j0 2), (gn j0 3), (gn j0 4), (gn j0 5)]) (plC (gn_pl hj0 0) (plC (layAr.plG e0) (plC (gn_pl hj0 2) (plC (gn_pl hj0 3) (plC (gn_pl hj0 4) (plC (gn_pl hj0 5) rfl)))))))
 rintro ⟨⟩
 exact go_retA _ _ (runS 300 (o1 ++ [pb hb4, pb hb5, pb hb6, pb hb7, plk (lkT83 w1_m e0.number hb8), pn hb9])) (by kernel_rfl) (.rnd k) .sc
 rintro ⟨⟩
 exact go_nx Hd.plainG [1, 2, 4, 6, 14, 28, 30, 38, 40, 42, 50, 52, 58, 60, 62, 68, 70, 72, 79, 80, 82, 84, 89, 94, 96, 102, 104, 106, 112, 114, 116, 128, 130, 144, 146, 148, 156, 158, 173, 177, 186, 191, 193, 194, 196] [fq (gn_pl hj0 0), fq (layAr.plS c.arts), fq (layAr.plG e0), fq (gn_pl hj0 2), fq (gn_pl hj0 3), fq (gn_pl hj0 4), fq (gn_pl hj0 5)] [⟨(mbii (w1_m.set e0.number e0.line)), (mbii (w1_m.set e0.number e0.line)), (mB_fits (fun _ => rfl))⟩, fbp (coC c) (layCo.pl c)] _ _ (runS 300 (o1 ++ [pb hb4, pb hb5, pb hb6, pb hb7, plk (lkT83 w1_m e0.number hb8), pms (ms83 w1_m e0.number e0.line), pinc i0 (by omega)])) (by kernel_rfl) (k ([(jn j0 0), .bool false, (jn j0 2), (jn j0 3), (jn j0 4), (jn j0 5), (jn j0 6), (jn j0 7), (jn j0 8), (jn j0 9), (jn j0 10), (jn j0 11), (jn j0 12), (jn j0 13), (jn j0 14), .bool true, .bool false, .bool false, .bool false, .bool false, .bool false, .bool false, .bool false, .bool false, .bool false, .bool false, .bool false, .bool false, .bool false, undef, .bool false, (jn j0 31), (jn j0 32), (jn j0 33)], [(gn j0 0), .agg (arC e0), (gn j0 2), (gn j0 3), (gn j0 4), (gn j0 5)]) (plC (gn_pl hj0 0) (plC (layAr.plG e0) (plC (gn_pl hj0 2) (plC (gn_pl hj0 3) (plC (gn_pl hj0 4) (plC (gn_pl hj0 5) rfl)))))))
 rintro w1_m_3 rfl jx_3 hjx_3
 revert h
 clear hres
 dsimp only [lpK]
 refine bndI fun res hres h => ?_
 have hlen := (limE hres).1
 replace hres := (limE hres).2
 refine go_at [] [0, 2, 7, 8, 14, 15, 19, 20, 21, 25, 26, 29, 30, 31, 34, 35, 36, 42, 44, 47, 48, 51, 52, 53, 56, 57, 58, 64, 65, 72, 73, 74, 78, 79, 86, 88, 90, 91, 92, 93, 95, 96, 97, 98] 2 (sub B22 [1, 1, 1, 1, 1, 1, 0, 1, 0, 0]) [.code (sub B22 [1, 1, 1, 1, 1, 1, 1])] _ _ (runX 300 []) (by kernel_rfl) (foldP (fn := Tryz.f22) (m := 0) (fun v => .sc (.bool v)) 2 c.arts (fun i1 (w2_4 : Int) (j1 : JJ) => frm 100 0 [(8, .ptr 2 0), (90, .sl .lost c.arts.length (rows arC c.arts)), (91, .sc (.int .i64 ((c.arts.length : Nat) : Int))), (92, .sc (.int .i64 ((i1 : Nat) : Int)))] [2, 7, 14, 15, 19, 20, 21, 25, 26, 29, 30, 31, 34, 35, 36, 42, 47, 48, 51, 52, 53, 56, 57, 58, 64, 65, 72, 73, 74, 78, 79, 93, 97, 98] 0 [0, 44, 86, 88, 95, 96] 0 j1) (fun (_ : Nat) (w2_4 : Int) (_ : JJ) => ⟨[(2, .cells [.sl .lost c.facts.length (rows dcC c.facts), .sl .lost c.lines.length (rows dcC c.lines), .sl .lost c.arts.length (rows arC c.arts), .mp 1, .sc (.int .i64 w2_4)]), (1, (mbii w1_m_3)), (0, .cells (coC c))], 3, [], 0⟩) (fun (j : JJ) => underL 3 0 j.2 = true) (fun (w2_4 : Int) (jx : JJ) => frm 100 0 [] [2, 7, 14, 15, 19, 20, 21, 25, 26, 29, 30, 31, 34, 35, 36, 42, 47, 48, 51, 52, 53, 56, 57, 58, 64, 65, 72, 73, 74, 78, 79, 93, 97, 98] 0 [0, 44, 86, 88, 95, 96] 0 jx) (fun (w2_4 : Int) (_ : JJ) => ⟨[(2, .cells [.sl .lost c.facts.length (rows dcC c.facts), .sl .lost c.lines.length (rows dcC c.lines), .sl .lost c.arts.length (rows arC c.arts), .mp 1, .sc (.int .i64 w2_4)]), (1, (mbii w1_m_3)), (0, .cells (coC c))], 3, [], 0⟩) (fun (j : JJ) => underL 3 0 j.2 = true) ?_ ?_ 0 hres ?_ ?_ ([(jn jx_3 0), (jn jx_3 1), (jn jx_3 2), (jn jx_3 3), (jn jx_3 4), (jn jx_3 5), (jn jx_3 6), (jn jx_3 7), (jn jx_3 8), (jn jx_3 9), (jn jx_3 10), (jn jx_3 11), (jn jx_3 12), (jn jx_3 13), (jn jx_3 14), (jn jx_3 15), (jn jx_3 16), (jn jx_3 17), (jn jx_3 18), (jn jx_3 19), (jn jx_3 20), (jn jx_3 21), (jn jx_3 22), (jn jx_3 23), (jn jx_3 24), (jn jx_3 25), (jn jx_3 26), (jn jx_3 27), (jn jx_3 28), (jn jx_3 29), (jn jx_3 30), (jn jx_3 31), (jn jx_3 32), (jn jx_3 33)], [(gn jx_3 0), (gn jx_3 1), .agg (coC c), .agg [.sl .lost c.facts.length (rows dcC c.facts), .sl .lost c.lines.length (rows dcC c.lines), .sl .lost c.arts.length (rows arC c.arts), .mp 1, .sc (.int .i64 0)], (gn jx_3 4), (gn jx_3 5)]) (unC (under_plain _ _ (gn_pl hjx_3 0)) (unC (under_plain _ _ (gn_pl hjx_3 1)) (unC (under_plain _ _ (layCo.plG c)) (unC (unC (under_plain _ _ (layDc.plS c.facts)) (unC (under_plain _ _ (layDc.plS c.lines)) (unC (under_plain _ _ (layAr.plS c.arts)) (unC rfl (unC rfl rfl))))) (unC (under_plain _ _ (gn_pl hjx_3 4)) (unC (under_plain _ _ (gn_pl hjx_3 5)) rfl)))))))
 rintro i1 w2_4 j1 hj1 hge hq
 clear h hres
 refine WL_rnd ?_
 exact go_ex Hd.plainG [1, 4, 14, 28, 30, 38, 40, 42, 50, 52, 58, 60, 62, 68, 70, 72, 84, 89, 94, 96, 102, 104, 106, 112, 114, 116, 128, 130, 144, 146, 148, 156, 158, 173, 177, 186, 191, 193, 194, 196] [⟨(gn j1 0), (gn j1 0), (.under (under_mono (Nat.le_of_ble_eq_true rfl) (Nat.le_of_ble_eq_true rfl) (gn_un hj1 0)))⟩, ⟨(gn j1 1), (gn j1 1), (.under (under_mono (Nat.le_of_ble_eq_true rfl) (Nat.le_of_ble_eq_true rfl) (gn_un hj1 1)))⟩, ⟨(gn j1 2), (gn j1 2), (.under (under_mono (Nat.le_of_ble_eq_true rfl) (Nat.le_of_ble_eq_true rfl) (gn_un hj1 2)))⟩, ⟨(gn j1 3), (gn j1 3), (.under (under_mono (Nat.le_of_ble_eq_true rfl) (Nat.le_of_ble_eq_true rfl) (gn_un hj1 3)))⟩, ⟨(gn j1 4), (gn j1 4), (.under (under_mono (Nat.le_of_ble_eq_true rfl) (Nat.le_of_ble_eq_true rfl) (gn_un hj1 4)))⟩, ⟨(gn j1 5), (gn j1 5), (.under (under_mono (Nat.le_of_ble_eq_true rfl) (Nat.le_of_ble_eq_true rfl) (gn_un hj1 5)))⟩] [fbu [.sl .lost c.facts.length (rows dcC c.facts), .sl .lost c.lines.length (rows dcC c.lines), .sl .lost c.arts.length (rows arC c.arts), .mp 1, .sc (.int .i64 w2_4)] (unC (under_plain _ _ (layDc.plS c.facts)) (unC (under_plain _ _ (layDc.plS c.lines)) (unC (under_plain _ _ (layAr.plS c.arts)) (unC rfl (unC rfl rfl))))), ⟨(mbii w1_m_3), (mbii w1_m_3), (mB_fits (fun _ => rfl))⟩, fbp (coC c) (layCo.pl c)] 2 _ _ (runS 300 [pb (B := ltI ((i1 : Nat) : Int) ((c.arts.length : Nat) : Int)) (b := false) (ltF hge)]) (by kernel_rfl) (hq ([(jn j1 0), (jn j1 1), (jn j1 2), (jn j1 3), (jn j1 4), (jn j1 5), (jn j1 6), (jn j1 7), (jn j1 8), (jn j1 9), (jn j1 10), (jn j1 11), (jn j1 12), (jn j1 13), (jn j1 14), (jn j1 15), (jn j1 16), (jn j1 17), (jn j1 18), (jn j1 19), (jn j1 20), (jn j1 21), (jn j1 22), (jn j1 23), (jn j1 24), (jn j1 25), (jn j1 26), (jn j1 27), (jn j1 28), (jn j1 29), (jn j1 30), .bool false, (jn j1 32), (jn j1 33)], [(gn j1 0), (gn j1 1), (gn j1 2), (gn j1 3), (gn j1 4), (gn j1 5)]) (unC (under_mono (Nat.le_of_ble_eq_true rfl) (Nat.le_of_ble_eq_true rfl) (gn_un hj1 0)) (unC (under_mono (Nat.le_of_ble_eq_true rfl) (Nat.le_of_ble_eq_true rfl) (gn_un hj1 1)) (unC (under_mono (Nat.le_of_ble_eq_true rfl) (Nat.le_of_ble_eq_true rfl) (gn_un hj1 2)) (unC (under_mono (Nat.le_of_ble_eq_true rfl) (Nat.le_of_ble_eq_true rfl) (gn_un hj1 3)) (unC (under_mono (Nat.le_of_ble_eq_true rfl) (Nat.le_of_ble_eq_true rfl) (gn_un hj1 4)) (unC (under_mono (Nat.le_of_ble_eq_true rfl) (Nat.le_of_ble_eq_true rfl) (gn_un hj1 5)) rfl)))))))
 clear h hres
 rintro i1 e1 w2_4 j1 r hj1 he1 hi1 h k
 refine WL_rnd ?_
 revert h
 show codex_Valid_L2  c w1_m_3 i1 e1 w2_4 = some r → _
 unfold codex_Valid_L2
 refine bndI ?_
 rintro ⟨y4a, y4b⟩ hy4
 dsimp only
 let o2 : List (PC P G) := [pb (B := ltI ((i1 : Nat) : Int) ((c.arts.length : Nat) : Int)) (b := true) (ltT hi1), pix (ix29 .lost he1)]
 refine cndI (fun hv => ?_) fun hv => ?_
 subst hv
 rintro ⟨⟩
 exact go_nx Hd.plainG [1, 4, 14, 16, 28, 30, 38, 40, 42, 50, 52, 58, 60, 62, 68, 70, 72, 84, 89, 94, 96, 102, 104, 106, 112, 114, 116, 128, 130, 144, 146, 148, 156, 158, 173, 177, 181, 182, 184, 186, 191, 193, 194, 196] [⟨(gn j1 0), (gn j1 0), (.under (under_mono (Nat.le_of_ble_eq_true rfl) (Nat.le_of_ble_eq_true rfl) (gn_un hj1 0)))⟩, ⟨(gn j1 1), (gn j1 1), (.under (under_mono (Nat.le_of_ble_eq_true rfl) (Nat.le_of_ble_eq_true rfl) (gn_un hj1 1)))⟩, ⟨(gn j1 2), (gn j1 2), (.under (under_mono (Nat.le_of_ble_eq_true rfl) (Nat.le_of_ble_eq_true rfl) (gn_un hj1 2)))⟩, ⟨(gn j1 3), (gn j1 3), (.under (under_mono (Nat.le_of_ble_eq_true rfl) (Nat.le_of_ble_eq_true rfl) (gn_un hj1 3)))⟩, fq (layAr.plS c.arts), fq (layAr.plG e1), fq (layAr.plG e1)] [fbu [.sl .lost c.facts.length (rows dcC c.facts), .sl .lost c.lines.length (rows dcC c.lines), .sl .lost c.arts.length (rows arC c.arts), .mp 1, .sc (.int .i64 y4b)] (unC (under_plain _ _ (layDc.plS c.facts)) (unC (under_plain _ _ (layDc.plS c.lines)) (unC (under_plain _ _ (layAr.plS c.arts)) (unC rfl (unC rfl rfl))))), ⟨(mbii w1_m_3), (mbii w1_m_3), (mB_fits (fun _ => rfl))⟩, fbp (coC c) (layCo.pl c)] _ _ (runS 300 (o2 ++ [pcallU (codex_fitter_article_U (⟨c, w1_m_3, w2_4⟩ : Ft) e1 true y4b (codex_fitter_article_step (⟨c, w1_m_3, w2_4⟩ : Ft) e1 true y4b hy4) 2 1 (by decide) (by decide)), pinc i1 (by omega)])) (by kernel_rfl) (k ([(jn j1 0), (jn j1 1), (jn j1 2), (jn j1 3), (jn j1 4), (jn j1 5), (jn j1 6), (jn j1 7), (jn j1 8), (jn j1 9), (jn j1 10), (jn j1 11), (jn j1 12), (jn j1 13), (jn j1 14), (jn j1 15), (jn j1 16), (jn j1 17), (jn j1 18), (jn j1 19), (jn j1 20), (jn j1 21), (jn j1 22), (jn j1 23), (jn j1 24), (jn j1 25), (jn j1 26), (jn j1 27), (jn j1 28), (jn j1 29), (jn j1 30), .bool true, .bool true, .bool false], [(gn j1 0), (gn j1 1), (gn j1 2), (gn j1 3), .agg (arC e1), .agg (arC e1)]) (unC (under_mono (Nat.le_of_ble_eq_true rfl) (Nat.le_of_ble_eq_true rfl) (gn_un hj1 0)) (unC (under_mono (Nat.le_of_ble_eq_true rfl) (Nat.le_of_ble_eq_true rfl) (gn_un hj1 1)) (unC (under_mono (Nat.le_of_ble_eq_true rfl) (Nat.le_of_ble_eq_true rfl) (gn_un hj1 2)) (unC (under_mono (Nat.le_of_ble_eq_true rfl) (Nat.le_of_ble_eq_true rfl) (gn_un hj1 3)) (unC (under_plain _ _ (layAr.plG e1)) (unC (under_plain _ _ (layAr.plG e1)) rfl)))))))
 subst hv
 rintro ⟨⟩
 exact go_retA _ _ (runS 300 (o2 ++ [pcallU (codex_fitter_article_U (⟨c, w1_m_3, w2_4⟩ : Ft) e1 false y4b (codex_fitter_article_step (⟨c, w1_m_3, w2_4⟩ : Ft) e1 false y4b hy4) 2 1 (by decide) (by decide))])) (by kernel_rfl) (.rnd k) .sc
 rintro w2_4_5 rfl jx_5 hjx_5
 revert h
 clear hres
 dsimp only [lpK]
 intro h
 have hE := Option.some.inj h
 subst hE
 exact go_retA _ _ (runX 300 []) (by kernel_rfl) .body .sc
 rintro v rfl
 dsimp only [lpK] at h
 cases h
 exact .outer .body
 rintro v rfl
 dsimp only [lpK] at h
 cases h
 exact .outer .body
 subst hv
 rintro ⟨⟩
 exact rS (runS 300 [pb hb1, pb hb2, pb hb3, pcall (codex_goodDecls_step c.facts 0 0 true hy1), pcall (codex_goodDecls_step c.lines 1 4 false hy2)]) (by kernel_rfl)
 subst hv
 rintro ⟨⟩
 exact rS (runS 300 [pb hb1, pb hb2, pb hb3, pcall (codex_goodDecls_step c.facts 0 0 false hy1)]) (by kernel_rfl)
theorem codex_mentioned_U (e : Ex) (numbers : (Mm Int Bool)) (yR : Unit) (qnumbersR : (Mm Int Bool)) (hS : Sound P G (.call 90 [.agg (exC e), .mp 0] ⟨[(0, (mbib numbers))], 1, [], 0⟩ (.ret (.tup [])) ⟨[(0, (mbib qnumbersR))], 1, [], 0⟩)) (u0 : Nat) (hnb : [u0].Nodup) (hnt : ([] : List Nat).Nodup) : Cd.ok P G (.callU 90 [.agg (exC e), .mp u0] (.ret (.tup [])) [(u0, (mbib numbers))] [] [(u0, (mbib qnumbersR))] []) :=
 frameU (M := [(mbib numbers)]) (M2 := [(mbib qnumbersR)]) (T := []) (T2 := []) (k := 1) (j := 0) Hd.plainG _ _ _ _ hS rfl rfl rfl rfl rfl hnb hnt rfl rfl (.cons (mB_rn (fun _ => rfl)) .nil) (.cons (mB_rn (fun _ => rfl)) .nil) (.cons (.pl (layEx.plG e)) (.cons (.mp (by decide)) .nil)) (.pl rfl) (fun e he => by simp only [List.mem_singleton] at he; subst he; exact (.arg (.there (.here .mp))))
noncomputable def B90 : Code := bodyOf Tryz.f90
theorem b90 : Tryz.f90.body = some B90 := by kernel_rfl
noncomputable def codex_mentioned_L1 (r_codex_mentioned : Ex → (Mm Int Bool) → Option (Unit × (Mm Int Bool)))  (i0 : Nat) (e0 : Ex) (w0_m : (Mm Int Bool)) : Option (Lp (Mm Int Bool) (Mm Int Bool) (Unit × (Mm Int Bool))) := (r_codex_mentioned e0 w0_m).bind fun (y1a, y1b) => some (.nx y1b)
noncomputable def codex_mentioned_B (r_codex_mentioned : Ex → (Mm Int Bool) → Option (Unit × (Mm Int Bool))) (e : Ex) (numbers : (Mm Int Bool)) : Option (Unit × (Mm Int Bool)) := cond (eqI e.op 3) ((lim e.kids.length (foldL (fun i y x => codex_mentioned_L1 r_codex_mentioned  i y x) (fun x => x) (e.kids.drop 0) 0 (numbers.set e.n true))).bind (lpK (fun (w0_m_2 : (Mm Int Bool)) => some ((), w0_m_2)) (fun v => some v))) ((lim e.kids.length (foldL (fun i y x => codex_mentioned_L1 r_codex_mentioned  i y x) (fun x => x) (e.kids.drop 0) 0 numbers)).bind (lpK (fun (w0_m_3 : (Mm Int Bool)) => some ((), w0_m_3)) (fun v => some v)))
theorem codex_mentioned_step (r_codex_mentioned : Ex → (Mm Int Bool) → Option (Unit × (Mm Int Bool))) (hr_codex_mentioned : ∀ (e : Ex) (numbers : (Mm Int Bool)) (yR : Unit) (qnumbersR : (Mm Int Bool)), r_codex_mentioned e numbers = some (yR, qnumbersR) → Sound P G (.call 90 [.agg (exC e), .mp 0] ⟨[(0, (mbib numbers))], 1, [], 0⟩ (.ret (.tup [])) ⟨[(0, (mbib qnumbersR))], 1, [], 0⟩)) (e : Ex) (numbers : (Mm Int Bool)) (yR : Unit) (qnumbersR : (Mm Int Bool)) (h : codex_mentioned_B r_codex_mentioned e numbers = some (yR, qnumbersR)) : Sound P G (.call 90 [.agg (exC e), .mp 0] ⟨[(0, (mbib numbers))], 1, [], 0⟩ (.ret (.tup [])) ⟨[(0, (mbib qnumbersR))], 1, [], 0⟩) := by
 unfold codex_mentioned_B at h
 refine soundM Hd.mixed (WC_body Tryz.func90 b90 ?_)
 revert h
 refine cndI (fun hb1 => ?_) fun hb1 => ?_
 refine bndI fun res hres h => ?_
 have hlen := (limE hres).1
 replace hres := (limE hres).2
 refine go_at [] [0, 1, 8, 13, 14, 15, 16, 18, 19] 0 (sub B90 [1, 1, 1, 0, 0]) [] _ _ (runS 300 [pb hb1, pms (ms89 numbers e.n true)]) (by kernel_rfl) (foldM (fn := Tryz.f90) (m := 1) (s00 := ⟨[(0, (mbib numbers))], 1, [], 0⟩) (fun v => .tup []) (fun v => ⟨[(0, (mbib v.2))], 1, [], 0⟩) 0 e.kids (fun i0 (w0_m : (Mm Int Bool)) (j0 : JJ) => frm 23 0 [(1, .mp 0), (13, .sl .lost e.kids.length (exsC e.kids)), (14, .sc (.int .i64 ((e.kids.length : Nat) : Int))), (15, .sc (.int .i64 ((i0 : Nat) : Int)))] [8, 16] 0 [0, 18, 19] 0 j0) (fun (_ : Nat) (w0_m : (Mm Int Bool)) (_ : JJ) => ⟨[(1, .cells (exC e)), (0, (mbib w0_m))], 2, [], 0⟩) (fun (j : JJ) => plainL j.2 = true) (fun (w0_m : (Mm Int Bool)) (jx : JJ) => frm 23 0 [] [8, 16] 0 [0, 18, 19] 0 jx) (fun (w0_m : (Mm Int Bool)) (_ : JJ) => ⟨[(1, .cells (exC e)), (0, (mbib w0_m))], 2, [], 0⟩) (fun (j : JJ) => plainL j.2 = true) ?_ ?_ 0 hres ?_ ?_ ([.bool true], [.agg (exC e), .sc undef, .sc undef]) (plC (layEx.plG e) (plC rfl (plC rfl rfl))))
 rintro i0 w0_m j0 hj0 hge hq
 clear h hres
 refine WL_rnd ?_
 exact go_ex Hd.plainG [1, 16, 32, 37, 39] [fq (gn_pl hj0 0), fq (gn_pl hj0 1), fq (gn_pl hj0 2)] [fbp (exC e) (layEx.pl e), ⟨(mbib w0_m), (mbib w0_m), (mB_fits (fun _ => rfl))⟩] 0 _ _ (runS 300 [pb (B := ltI ((i0 : Nat) : Int) ((e.kids.length : Nat) : Int)) (b := false) (ltF hge)]) (by kernel_rfl) (hq ([(jn j0 0), .bool false], [(gn j0 0), (gn j0 1), (gn j0 2)]) (plC (gn_pl hj0 0) (plC (gn_pl hj0 1) (plC (gn_pl hj0 2) rfl))))
 clear h hres
 rintro i0 e0 w0_m j0 r hj0 he0 hi0 h k
 refine WL_rnd ?_
 revert h
 show codex_mentioned_L1 r_codex_mentioned  i0 e0 w0_m = some r → _
 unfold codex_mentioned_L1
 refine bndI ?_
 rintro ⟨y1a, y1b⟩ hy1
 dsimp only
 rintro ⟨⟩
 exact go_nx Hd.plainG [1, 2, 16, 27, 28, 30, 32, 37, 39] [fq (gn_pl hj0 0), fq (layEx.plS e.kids), fq (layEx.plG e0), fq (layEx.plG e0)] [fbp (exC e) (layEx.pl e), ⟨(mbib y1b), (mbib y1b), (mB_fits (fun _ => rfl))⟩] _ _ (runS 300 [pb (B := ltI ((i0 : Nat) : Int) ((e.kids.length : Nat) : Int)) (b := true) (ltT hi0), pix (ix58 .lost he0), pcallU (codex_mentioned_U e0 w0_m y1a y1b (hr_codex_mentioned e0 w0_m y1a y1b hy1) 0 (by decide) (by decide)), pinc i0 (by omega)]) (by kernel_rfl) (k ([(jn j0 0), .bool true], [(gn j0 0), .agg (exC e0), .agg (exC e0)]) (plC (gn_pl hj0 0) (plC (layEx.plG e0) (plC (layEx.plG e0) rfl))))
 rintro w0_m_2 rfl jx_2 hjx_2
 revert h
 clear hres
 dsimp only [lpK]
 intro h
 have hE := Option.some.inj h
 obtain ⟨hE0, hF0⟩ := Prod.mk.inj hE
 subst hE0 hF0
 exact go_endM Hd.plainG _ _ [1] [⟨.tup [], .tup [], (.plain rfl)⟩] [⟨(mbib w0_m_2), (mbib w0_m_2), (mB_fits (fun _ => rfl))⟩] _ _ (runX 300 []) (by kernel_rfl)
 rintro v rfl
 dsimp only [lpK] at h
 cases h
 exact .outer .body
 refine bndI fun res hres h => ?_
 have hlen := (limE hres).1
 replace hres := (limE hres).2
 refine go_at [] [0, 1, 8, 13, 14, 15, 16, 18, 19] 0 (sub B90 [1, 1, 1, 0, 0]) [] _ _ (runS 300 [pb hb1]) (by kernel_rfl) (foldM (fn := Tryz.f90) (m := 1) (s00 := ⟨[(0, (mbib numbers))], 1, [], 0⟩) (fun v => .tup []) (fun v => ⟨[(0, (mbib v.2))], 1, [], 0⟩) 0 e.kids (fun i0 (w0_m : (Mm Int Bool)) (j0 : JJ) => frm 23 0 [(1, .mp 0), (13, .sl .lost e.kids.length (exsC e.kids)), (14, .sc (.int .i64 ((e.kids.length : Nat) : Int))), (15, .sc (.int .i64 ((i0 : Nat) : Int)))] [8, 16] 0 [0, 18, 19] 0 j0) (fun (_ : Nat) (w0_m : (Mm Int Bool)) (_ : JJ) => ⟨[(1, .cells (exC e)), (0, (mbib w0_m))], 2, [], 0⟩) (fun (j : JJ) => plainL j.2 = true) (fun (w0_m : (Mm Int Bool)) (jx : JJ) => frm 23 0 [] [8, 16] 0 [0, 18, 19] 0 jx) (fun (w0_m : (Mm Int Bool)) (_ : JJ) => ⟨[(1, .cells (exC e)), (0, (mbib w0_m))], 2, [], 0⟩) (fun (j : JJ) => plainL j.2 = true) ?_ ?_ 0 hres ?_ ?_ ([.bool false], [.agg (exC e), .sc undef, .sc undef]) (plC (layEx.plG e) (plC rfl (plC rfl rfl))))
 rintro i0 w0_m j0 hj0 hge hq
 clear h hres
 refine WL_rnd ?_
 exact go_ex Hd.plainG [1, 16, 32, 37, 39] [fq (gn_pl hj0 0), fq (gn_pl hj0 1), fq (gn_pl hj0 2)] [fbp (exC e) (layEx.pl e), ⟨(mbib w0_m), (mbib w0_m), (mB_fits (fun _ => rfl))⟩] 0 _ _ (runS 300 [pb (B := ltI ((i0 : Nat) : Int) ((e.kids.length : Nat) : Int)) (b := false) (ltF hge)]) (by kernel_rfl) (hq ([(jn j0 0), .bool false], [(gn j0 0), (gn j0 1), (gn j0 2)]) (plC (gn_pl hj0 0) (plC (gn_pl hj0 1) (plC (gn_pl hj0 2) rfl))))
 clear h hres
 rintro i0 e0 w0_m j0 r hj0 he0 hi0 h k
 refine WL_rnd ?_
 revert h
 show codex_mentioned_L1 r_codex_mentioned  i0 e0 w0_m = some r → _
 unfold codex_mentioned_L1
 refine bndI ?_
 rintro ⟨y1a, y1b⟩ hy1
 dsimp only
 rintro ⟨⟩
 exact go_nx Hd.plainG [1, 2, 16, 27, 28, 30, 32, 37, 39] [fq (gn_pl hj0 0), fq (layEx.plS e.kids), fq (layEx.plG e0), fq (layEx.plG e0)] [fbp (exC e) (layEx.pl e), ⟨(mbib y1b), (mbib y1b), (mB_fits (fun _ => rfl))⟩] _ _ (runS 300 [pb (B := ltI ((i0 : Nat) : Int) ((e.kids.length : Nat) : Int)) (b := true) (ltT hi0), pix (ix58 .lost he0), pcallU (codex_mentioned_U e0 w0_m y1a y1b (hr_codex_mentioned e0 w0_m y1a y1b hy1) 0 (by decide) (by decide)), pinc i0 (by omega)]) (by kernel_rfl) (k ([(jn j0 0), .bool true], [(gn j0 0), .agg (exC e0), .agg (exC e0)]) (plC (gn_pl hj0 0) (plC (layEx.plG e0) (plC (layEx.plG e0) rfl))))
 rintro w0_m_3 rfl jx_3 hjx_3
 revert h
 clear hres
 dsimp only [lpK]
 intro h
 have hE := Option.some.inj h
 obtain ⟨hE0, hF0⟩ := Prod.mk.inj hE
 subst hE0 hF0
 exact go_endM Hd.plainG _ _ [1] [⟨.tup [], .tup [], (.plain rfl)⟩] [⟨(mbib w0_m_3), (mbib w0_m_3), (mB_fits (fun _ => rfl))⟩] _ _ (runX 300 []) (by kernel_rfl)
 rintro v rfl
 dsimp only [lpK] at h
 cases h
 exact .outer .body
noncomputable def codex_mentioned_M : Nat → Ex → (Mm Int Bool) → Option (Unit × (Mm Int Bool))
 | 0, _, _ => none
 | qn + 1, e, numbers => codex_mentioned_B (codex_mentioned_M qn) e numbers
theorem codex_mentioned_all : ∀ qn : Nat, ∀ (e : Ex) (numbers : (Mm Int Bool)) (yR : Unit) (qnumbersR : (Mm Int Bool)), codex_mentioned_M qn e numbers = some (yR, qnumbersR) → Sound P G (.call 90 [.agg (exC e), .mp 0] ⟨[(0, (mbib numbers))], 1, [], 0⟩ (.ret (.tup [])) ⟨[(0, (mbib qnumbersR))], 1, [], 0⟩) := by
 intro qn
 induction qn with
 | zero => exact (fun _ _ _ _ h => by simp only [codex_mentioned_M] at h; cases h)
 | succ qn ih => exact (fun e numbers yR qnumbersR h => codex_mentioned_step _ ih e numbers yR qnumbersR (by rw [codex_mentioned_M] at h; exact h))
noncomputable def codex_mentioned_R (e : Ex) (numbers : (Mm Int Bool)) : Option (Unit × (Mm Int Bool)) := evt (fun qn => codex_mentioned_M qn e numbers)
theorem codex_mentioned_ok (e : Ex) (numbers : (Mm Int Bool)) (yR : Unit) (qnumbersR : (Mm Int Bool)) (h : codex_mentioned_R e numbers = some (yR, qnumbersR)) : Sound P G (.call 90 [.agg (exC e), .mp 0] ⟨[(0, (mbib numbers))], 1, [], 0⟩ (.ret (.tup [])) ⟨[(0, (mbib qnumbersR))], 1, [], 0⟩) := by
 obtain ⟨qn, h⟩ := evtE h
 exact (codex_mentioned_all qn) e numbers yR qnumbersR h
noncomputable def B51 : Code := bodyOf Tryz.f51
theorem b51 : Tryz.f51.body = some B51 := by kernel_rfl
noncomputable def codex_needs_L1   (i0 : Nat) (e0 : Int) (w2_m : (Mm Int Bool)) : Option (Lp (Mm Int Bool) (Mm Int Bool) (List Int)) := some (.nx (w2_m.set e0 true))
noncomputable def codex_needs_L2   (i1 : Nat) (e1 : Ex) (w2_m : (Mm Int Bool)) : Option (Lp (Mm Int Bool) (Mm Int Bool) (List Int)) := (codex_mentioned_R e1 w2_m).bind fun (y3a, y3b) => some (.nx y3b)
noncomputable def codex_needs_L3  (c : Co) (version : Int) (y5b : (Mm Int Bool)) (i2 : Nat) (e2 : Ar) (result11 : (List Int)) : Option (Lp (List Int) (List Int) (List Int)) := cond ((y5b.get e2.number).getD false) (limA (result11.length + 1) (some (.nx (result11 ++ [((i2 : Nat) : Int)])))) ((codex_Beats_B c ((i2 : Nat) : Int) version).bind fun y7 => cond y7 (limA (result11.length + 1) (some (.nx (result11 ++ [((i2 : Nat) : Int)])))) (some (.nx result11)))
noncomputable def codex_needs_B  (c : Co) (version : Int) : Option (List Int) := (geti c.arts version).bind fun x1 => (lim x1.un.length (foldL (fun i y x => codex_needs_L1   i y x) (fun x => x) (x1.un.drop 0) 0 (Mm.nil : Mm Int Bool))).bind (lpK (fun (w2_m_2 : (Mm Int Bool)) => (lim x1.wh.length (foldL (fun i y x => codex_needs_L2   i y x) (fun x => x) (x1.wh.drop 0) 0 w2_m_2)).bind (lpK (fun (w2_m_4 : (Mm Int Bool)) => (codex_mentioned_R x1.am w2_m_4).bind fun (y5a, y5b) => (lim c.arts.length (foldL (fun i y x => codex_needs_L3  c version y5b i y x) (fun x => x) (c.arts.drop 0) 0 [])).bind (lpK (fun (result11_9 : (List Int)) => some result11_9) (fun v => some v))) (fun v => some v))) (fun v => some v))
theorem codex_needs_step   (c : Co) (version : Int) (yR : (List Int)) (h : codex_needs_B  c version = some yR) : Pure P G 51 [.agg (coC c), .sc (.int .i64 version)] (.sl .lost yR.length (rows inC yR)) := by
 unfold codex_needs_B at h
 refine pureM Hd.mixed Hd.plainG (WC_body Tryz.func51 b51 ?_) (plC (layCo.plG c) (plC rfl rfl)) (layInt.plS yR)
 revert h
 refine bndI fun x1 hx1 => ?_
 refine bndI fun res hres h => ?_
 have hlen := (limE hres).1
 replace hres := (limE hres).2
 refine go_at [] [0, 1, 2, 5, 6, 18, 21, 22, 23, 24, 34, 36, 37, 42, 49, 52, 56, 57, 58, 61, 62] 0 (sub B51 [1, 1, 1, 0, 1, 0, 0]) [.code (sub B51 [1, 1, 1, 1])] _ _ (runS 300 [pix (ixz29 .lost hx1)]) (by kernel_rfl) (foldP (fn := Tryz.f51) (m := 0) (fun v => .sl .lost v.length (rows inC v)) 0 x1.un (fun i0 (w2_m : (Mm Int Bool)) (j0 : JJ) => frm 69 0 [(1, .sc (.int .i64 version)), (2, .ptr 0 0), (5, .ptr 1 0), (6, .mp 2), (21, .sl .lost x1.un.length (rows inC x1.un)), (22, .sc (.int .i64 ((x1.un.length : Nat) : Int))), (23, .sc (.int .i64 ((i0 : Nat) : Int)))] [24, 34, 49, 56, 57, 61, 62] 0 [0, 18, 36, 37, 42, 52, 58] 0 j0) (fun (_ : Nat) (w2_m : (Mm Int Bool)) (_ : JJ) => ⟨[(2, (mbib w2_m)), (1, .cells (arC x1)), (0, .cells (coC c))], 3, [], 0⟩) (fun (j : JJ) => plainL j.2 = true) (fun (w2_m : (Mm Int Bool)) (jx : JJ) => frm 69 0 [(1, .sc (.int .i64 version)), (2, .ptr 0 0), (5, .ptr 1 0), (6, .mp 2)] [24, 34, 49, 56, 57, 61, 62] 0 [0, 18, 36, 37, 42, 52, 58] 0 jx) (fun (w2_m : (Mm Int Bool)) (_ : JJ) => ⟨[(2, (mbib w2_m)), (1, .cells (arC x1)), (0, .cells (coC c))], 3, [], 0⟩) (fun (j : JJ) => plainL j.2 = true) ?_ ?_ 0 hres ?_ ?_ ([], [.agg (coC c), .agg (arC x1), .sc undef, .sc undef, .sc undef, .sc undef, .sc undef]) (plC (layCo.plG c) (plC (layAr.plG x1) (plC rfl (plC rfl (plC rfl (plC rfl (plC rfl rfl))))))))
 rintro i0 w2_m j0 hj0 hge hq
 clear h hres
 refine WL_rnd ?_
 exact go_ex Hd.plainG [1, 2, 4, 10, 12, 37, 48, 68, 73, 75, 85, 98, 105, 112, 114, 117, 122, 124] [fq (gn_pl hj0 0), fq (gn_pl hj0 1), fq (gn_pl hj0 2), fq (gn_pl hj0 3), fq (gn_pl hj0 4), fq (gn_pl hj0 5), fq (gn_pl hj0 6)] [⟨(mbib w2_m), (mbib w2_m), (mB_fits (fun _ => rfl))⟩, fbp (arC x1) (layAr.pl x1), fbp (coC c) (layCo.pl c)] 0 _ _ (runS 300 [pb (B := ltI ((i0 : Nat) : Int) ((x1.un.length : Nat) : Int)) (b := false) (ltF hge)]) (by kernel_rfl) (hq ([.bool false, (jn j0 1), (jn j0 2), (jn j0 3), (jn j0 4), (jn j0 5), (jn j0 6)], [(gn j0 0), (gn j0 1), (gn j0 2), (gn j0 3), (gn j0 4), (gn j0 5), (gn j0 6)]) (plC (gn_pl hj0 0) (plC (gn_pl hj0 1) (plC (gn_pl hj0 2) (plC (gn_pl hj0 3) (plC (gn_pl hj0 4) (plC (gn_pl hj0 5) (plC (gn_pl hj0 6) rfl))))))))
 clear h hres
 rintro i0 e0 w2_m j0 r hj0 he0 hi0 h k
 refine WL_rnd ?_
 revert h
 show codex_needs_L1   i0 e0 w2_m = some r → _
 unfold codex_needs_L1
 rintro ⟨⟩
 exact go_nx Hd.plainG [1, 2, 4, 10, 12, 37, 43, 44, 46, 48, 68, 73, 75, 85, 98, 105, 112, 114, 117, 122, 124] [fq (gn_pl hj0 0), fq (gn_pl hj0 1), fq (layInt.plS x1.un), fq (gn_pl hj0 2), fq (gn_pl hj0 3), fq (gn_pl hj0 4), fq (gn_pl hj0 5), fq (gn_pl hj0 6)] [⟨(mbib (w2_m.set e0 true)), (mbib (w2_m.set e0 true)), (mB_fits (fun _ => rfl))⟩, fbp (arC x1) (layAr.pl x1), fbp (coC c) (layCo.pl c)] _ _ (runS 300 [pb (B := ltI ((i0 : Nat) : Int) ((x1.un.length : Nat) : Int)) (b := true) (ltT hi0), pix (ix40 .lost he0), pms (ms89 w2_m e0 true), pinc i0 (by omega)]) (by kernel_rfl) (k ([.bool true, (jn j0 1), (jn j0 2), (jn j0 3), (jn j0 4), (jn j0 5), (jn j0 6)], [(gn j0 0), (gn j0 1), (gn j0 2), (gn j0 3), (gn j0 4), (gn j0 5), (gn j0 6)]) (plC (gn_pl hj0 0) (plC (gn_pl hj0 1) (plC (gn_pl hj0 2) (plC (gn_pl hj0 3) (plC (gn_pl hj0 4) (plC (gn_pl hj0 5) (plC (gn_pl hj0 6) rfl))))))))
 rintro w2_m_2 rfl jx_2 hjx_2
 revert h
 clear hres
 dsimp only [lpK]
 refine bndI fun res hres h => ?_
 have hlen := (limE hres).1
 replace hres := (limE hres).2
 refine go_at [] [0, 1, 2, 5, 6, 18, 24, 31, 32, 33, 34, 36, 37, 42, 49, 52, 56, 57, 58, 61, 62] 2 (sub B51 [1, 1, 1, 1, 0, 1, 0, 0]) [.code (sub B51 [1, 1, 1, 1, 1])] _ _ (runX 300 []) (by kernel_rfl) (foldP (fn := Tryz.f51) (m := 0) (fun v => .sl .lost v.length (rows inC v)) 2 x1.wh (fun i1 (w2_m : (Mm Int Bool)) (j1 : JJ) => frm 69 0 [(1, .sc (.int .i64 version)), (2, .ptr 0 0), (5, .ptr 1 0), (6, .mp 2), (31, .sl .lost x1.wh.length (exsC x1.wh)), (32, .sc (.int .i64 ((x1.wh.length : Nat) : Int))), (33, .sc (.int .i64 ((i1 : Nat) : Int)))] [24, 34, 49, 56, 57, 61, 62] 0 [0, 18, 36, 37, 42, 52, 58] 0 j1) (fun (_ : Nat) (w2_m : (Mm Int Bool)) (_ : JJ) => ⟨[(2, (mbib w2_m)), (1, .cells (arC x1)), (0, .cells (coC c))], 3, [], 0⟩) (fun (j : JJ) => plainL j.2 = true) (fun (w2_m : (Mm Int Bool)) (jx : JJ) => frm 69 0 [(1, .sc (.int .i64 version)), (2, .ptr 0 0), (5, .ptr 1 0), (6, .mp 2)] [24, 34, 49, 56, 57, 61, 62] 0 [0, 18, 36, 37, 42, 52, 58] 0 jx) (fun (w2_m : (Mm Int Bool)) (_ : JJ) => ⟨[(2, (mbib w2_m)), (1, .cells (arC x1)), (0, .cells (coC c))], 3, [], 0⟩) (fun (j : JJ) => plainL j.2 = true) ?_ ?_ 0 hres ?_ ?_ ([(jn jx_2 0), (jn jx_2 1), (jn jx_2 2), (jn jx_2 3), (jn jx_2 4), (jn jx_2 5), (jn jx_2 6)], [(gn jx_2 0), (gn jx_2 1), (gn jx_2 2), (gn jx_2 3), (gn jx_2 4), (gn jx_2 5), (gn jx_2 6)]) (plC (gn_pl hjx_2 0) (plC (gn_pl hjx_2 1) (plC (gn_pl hjx_2 2) (plC (gn_pl hjx_2 3) (plC (gn_pl hjx_2 4) (plC (gn_pl hjx_2 5) (plC (gn_pl hjx_2 6) rfl))))))))
 rintro i1 w2_m j1 hj1 hge hq
 clear h hres
 refine WL_rnd ?_
 exact go_ex Hd.plainG [1, 2, 4, 10, 12, 37, 48, 68, 73, 75, 85, 98, 105, 112, 114, 117, 122, 124] [fq (gn_pl hj1 0), fq (gn_pl hj1 1), fq (gn_pl hj1 2), fq (gn_pl hj1 3), fq (gn_pl hj1 4), fq (gn_pl hj1 5), fq (gn_pl hj1 6)] [⟨(mbib w2_m), (mbib w2_m), (mB_fits (fun _ => rfl))⟩, fbp (arC x1) (layAr.pl x1), fbp (coC c) (layCo.pl c)] 2 _ _ (runS 300 [pb (B := ltI ((i1 : Nat) : Int) ((x1.wh.length : Nat) : Int)) (b := false) (ltF hge)]) (by kernel_rfl) (hq ([(jn j1 0), .bool false, (jn j1 2), (jn j1 3), (jn j1 4), (jn j1 5), (jn j1 6)], [(gn j1 0), (gn j1 1), (gn j1 2), (gn j1 3), (gn j1 4), (gn j1 5), (gn j1 6)]) (plC (gn_pl hj1 0) (plC (gn_pl hj1 1) (plC (gn_pl hj1 2) (plC (gn_pl hj1 3) (plC (gn_pl hj1 4) (plC (gn_pl hj1 5) (plC (gn_pl hj1 6) rfl))))))))
 clear h hres
 rintro i1 e1 w2_m j1 r hj1 he1 hi1 h k
 refine WL_rnd ?_
 revert h
 show codex_needs_L2   i1 e1 w2_m = some r → _
 unfold codex_needs_L2
 refine bndI ?_
 rintro ⟨y3a, y3b⟩ hy3
 dsimp only
 rintro ⟨⟩
 exact go_nx Hd.plainG [1, 2, 4, 10, 12, 37, 48, 63, 64, 66, 68, 73, 75, 85, 98, 105, 112, 114, 117, 122, 124] [fq (gn_pl hj1 0), fq (gn_pl hj1 1), fq (layEx.plS x1.wh), fq (layEx.plG e1), fq (layEx.plG e1), fq (gn_pl hj1 4), fq (gn_pl hj1 5), fq (gn_pl hj1 6)] [⟨(mbib y3b), (mbib y3b), (mB_fits (fun _ => rfl))⟩, fbp (arC x1) (layAr.pl x1), fbp (coC c) (layCo.pl c)] _ _ (runS 300 [pb (B := ltI ((i1 : Nat) : Int) ((x1.wh.length : Nat) : Int)) (b := true) (ltT hi1), pix (ix58 .lost he1), pcallU (codex_mentioned_U e1 w2_m y3a y3b (codex_mentioned_ok e1 w2_m y3a y3b hy3) 2 (by decide) (by decide)), pinc i1 (by omega)]) (by kernel_rfl) (k ([(jn j1 0), .bool true, (jn j1 2), (jn j1 3), (jn j1 4), (jn j1 5), (jn j1 6)], [(gn j1 0), (gn j1 1), .agg (exC e1), .agg (exC e1), (gn j1 4), (gn j1 5), (gn j1 6)]) (plC (gn_pl hj1 0) (plC (gn_pl hj1 1) (plC (layEx.plG e1) (plC (layEx.plG e1) (plC (gn_pl hj1 4) (plC (gn_pl hj1 5) (plC (gn_pl hj1 6) rfl))))))))
 rintro w2_m_4 rfl jx_4 hjx_4
 revert h
 clear hres
 dsimp only [lpK]
 refine bndI ?_
 rintro ⟨y5a, y5b⟩ hy5
 dsimp only
 refine bndI fun res hres h => ?_
 have hlen := (limE hres).1
 replace hres := (limE hres).2
 refine go_at [.t 11 1] [0, 1, 2, 6, 11, 18, 24, 34, 36, 37, 42, 46, 47, 48, 49, 52, 56, 57, 58, 61, 62] 4 (sub B51 [1, 1, 1, 1, 1, 1, 1, 0, 1, 0, 0]) [.code (sub B51 [1, 1, 1, 1, 1, 1, 1, 1])] _ _ (runX 300 [pcallU (codex_mentioned_U x1.am w2_m_4 y5a y5b (codex_mentioned_ok x1.am w2_m_4 y5a y5b hy5) 2 (by decide) (by decide))]) (by kernel_rfl) (foldP (fn := Tryz.f51) (m := 0) (fun v => .sl .lost v.length (rows inC v)) 4 c.arts (fun i2 (result11 : (List Int)) (j2 : JJ) => frm 69 0 [(1, .sc (.int .i64 version)), (2, .ptr 0 0), (6, .mp 2), (11, .sl (.row 0 1) result11.length (rows inC result11)), (46, .sl .lost c.arts.length (rows arC c.arts)), (47, .sc (.int .i64 ((c.arts.length : Nat) : Int))), (48, .sc (.int .i64 ((i2 : Nat) : Int)))] [24, 34, 49, 56, 57, 61, 62] 0 [0, 18, 36, 37, 42, 52, 58] 0 j2) (fun (_ : Nat) (result11 : (List Int)) (_ : JJ) => ⟨[(2, (mbib y5b)), (1, .cells (arC x1)), (0, .cells (coC c))], 3, [(0, result11.length)], 1⟩) (fun (j : JJ) => plainL j.2 = true) (fun (result11 : (List Int)) (jx : JJ) => frm 69 0 [(11, .sl (.row 0 1) result11.length (rows inC result11))] [24, 34, 49, 56, 57, 61, 62] 0 [0, 18, 36, 37, 42, 52, 58] 0 jx) (fun (result11 : (List Int)) (_ : JJ) => ⟨[(2, (mbib y5b)), (1, .cells (arC x1)), (0, .cells (coC c))], 3, [(0, result11.length)], 1⟩) (fun (j : JJ) => plainL j.2 = true) ?_ ?_ 0 hres ?_ ?_ ([(jn jx_4 0), (jn jx_4 1), (jn jx_4 2), (jn jx_4 3), (jn jx_4 4), (jn jx_4 5), (jn jx_4 6)], [(gn jx_4 0), (gn jx_4 1), (gn jx_4 2), (gn jx_4 3), .agg (exC x1.am), (gn jx_4 5), (gn jx_4 6)]) (plC (gn_pl hjx_4 0) (plC (gn_pl hjx_4 1) (plC (gn_pl hjx_4 2) (plC (gn_pl hjx_4 3) (plC (layEx.plG x1.am) (plC (gn_pl hjx_4 5) (plC (gn_pl hjx_4 6) rfl))))))))
 rintro i2 result11 j2 hj2 hge hq
 clear h hres
 refine WL_rnd ?_
 exact go_ex Hd.plainG [1, 23, 37, 48, 68, 73, 75, 85, 98, 105, 112, 114, 117, 122, 124] [fq (gn_pl hj2 0), ⟨.sl (.row 0 1) result11.length (rows inC result11), .sl (.row 0 1) result11.length (rows inC result11), (.under (unSl rfl (under_plainL _ _ (layInt.plC result11))))⟩, fq (gn_pl hj2 1), fq (gn_pl hj2 2), fq (gn_pl hj2 3), fq (gn_pl hj2 4), fq (gn_pl hj2 5), fq (gn_pl hj2 6)] [⟨(mbib y5b), (mbib y5b), (mB_fits (fun _ => rfl))⟩, fbp (arC x1) (layAr.pl x1), fbp (coC c) (layCo.pl c)] 4 _ _ (runS 300 [pb (B := ltI ((i2 : Nat) : Int) ((c.arts.length : Nat) : Int)) (b := false) (ltF hge)]) (by kernel_rfl) (hq ([(jn j2 0), (jn j2 1), .bool false, (jn j2 3), (jn j2 4), (jn j2 5), (jn j2 6)], [(gn j2 0), (gn j2 1), (gn j2 2), (gn j2 3), (gn j2 4), (gn j2 5), (gn j2 6)]) (plC (gn_pl hj2 0) (plC (gn_pl hj2 1) (plC (gn_pl hj2 2) (plC (gn_pl hj2 3) (plC (gn_pl hj2 4) (plC (gn_pl hj2 5) (plC (gn_pl hj2 6) rfl))))))))
 clear h hres
 rintro i2 e2 result11 j2 r hj2 he2 hi2 h k
 refine WL_rnd ?_
 revert h
 show codex_needs_L3  c version y5b i2 e2 result11 = some r → _
 unfold codex_needs_L3
 let o1 : List (PC P G) := [pb (B := ltI ((i2 : Nat) : Int) ((c.arts.length : Nat) : Int)) (b := true) (ltT hi2), pix (ix29 .lost he2)]
 refine cndI (fun hb2 => ?_) fun hb2 => ?_
 refine limAI fun hl6 => ?_
 rintro ⟨⟩
 exact go_nx Hd.plainG [1, 2, 4, 12, 23, 37, 48, 68, 73, 75, 85, 93, 94, 96, 98, 105, 112, 114, 116, 122, 124] [fq (gn_pl hj2 0), ⟨.sl (.row 0 1) ((result11 ++ [((i2 : Nat) : Int)]).length) (rows inC (result11 ++ [((i2 : Nat) : Int)])), .sl (.row 0 1) ((result11 ++ [((i2 : Nat) : Int)]).length) (rows inC (result11 ++ [((i2 : Nat) : Int)])), (.under (unSl rfl (under_plainL _ _ (layInt.plC (result11 ++ [((i2 : Nat) : Int)])))))⟩, fq (gn_pl hj2 1), fq (gn_pl hj2 2), fq (gn_pl hj2 3), fq (gn_pl hj2 4), fq (layAr.plS c.arts), fq (layAr.plG e2)] [⟨(mbib y5b), (mbib y5b), (mB_fits (fun _ => rfl))⟩, fbp (arC x1) (layAr.pl x1), fbp (coC c) (layCo.pl c)] _ _ (runS 300 (o1 ++ [plk (lkB89 y5b e2.number hb2), pgro (gro40 (.row 0 1) result11 [((i2 : Nat) : Int)] (o := .full) (n := 1) (ns := [.sc (.int .i64 ((i2 : Nat) : Int))]) (layInt.wn [((i2 : Nat) : Int)] (.r .nil)) rfl rfl (by simp) (by simpa using hl6)), pinc i2 (by omega)])) (by kernel_rfl) (k ([(jn j2 0), (jn j2 1), .bool true, .bool true, .bool true, undef, .bool true], [(gn j2 0), (gn j2 1), (gn j2 2), (gn j2 3), (gn j2 4), .agg (arC e2), .sc undef]) (plC (gn_pl hj2 0) (plC (gn_pl hj2 1) (plC (gn_pl hj2 2) (plC (gn_pl hj2 3) (plC (gn_pl hj2 4) (plC (layAr.plG e2) (plC rfl rfl))))))))
 refine bndI fun y7 hy7 => ?_
 refine cndI (fun hv => ?_) fun hv => ?_
 subst hv
 refine limAI fun hl8 => ?_
 rintro ⟨⟩
 exact go_nx Hd.plainG [1, 2, 4, 12, 23, 37, 48, 68, 73, 75, 85, 93, 94, 96, 98, 105, 112, 114, 117, 122, 124] [fq (gn_pl hj2 0), ⟨.sl (.row 0 1) ((result11 ++ [((i2 : Nat) : Int)]).length) (rows inC (result11 ++ [((i2 : Nat) : Int)])), .sl (.row 0 1) ((result11 ++ [((i2 : Nat) : Int)]).length) (rows inC (result11 ++ [((i2 : Nat) : Int)])), (.under (unSl rfl (under_plainL _ _ (layInt.plC (result11 ++ [((i2 : Nat) : Int)])))))⟩, fq (gn_pl hj2 1), fq (gn_pl hj2 2), fq (gn_pl hj2 3), fq (gn_pl hj2 4), fq (layAr.plS c.arts), fq (layAr.plG e2), fq (layCo.plG c)] [⟨(mbib y5b), (mbib y5b), (mB_fits (fun _ => rfl))⟩, fbp (arC x1) (layAr.pl x1), fbp (coC c) (layCo.pl c)] _ _ (runS 300 (o1 ++ [plk (lkB89 y5b e2.number hb2), pcall (codex_Beats_step c ((i2 : Nat) : Int) version true hy7), pgro (gro40 (.row 0 1) result11 [((i2 : Nat) : Int)] (o := .full) (n := 1) (ns := [.sc (.int .i64 ((i2 : Nat) : Int))]) (layInt.wn [((i2 : Nat) : Int)] (.r .nil)) rfl rfl (by simp) (by simpa using hl8)), pinc i2 (by omega)])) (by kernel_rfl) (k ([(jn j2 0), (jn j2 1), .bool true, .bool false, .bool false, .bool true, .bool true], [(gn j2 0), (gn j2 1), (gn j2 2), (gn j2 3), (gn j2 4), .agg (arC e2), .agg (coC c)]) (plC (gn_pl hj2 0) (plC (gn_pl hj2 1) (plC (gn_pl hj2 2) (plC (gn_pl hj2 3) (plC (gn_pl hj2 4) (plC (layAr.plG e2) (plC (layCo.plG c) rfl))))))))
 subst hv
 rintro ⟨⟩
 exact go_nx Hd.plainG [1, 2, 4, 12, 23, 37, 48, 68, 73, 75, 85, 93, 94, 96, 98, 105, 112, 114, 117, 122, 124] [fq (gn_pl hj2 0), ⟨.sl (.row 0 1) result11.length (rows inC result11), .sl (.row 0 1) result11.length (rows inC result11), (.under (unSl rfl (under_plainL _ _ (layInt.plC result11))))⟩, fq (gn_pl hj2 1), fq (gn_pl hj2 2), fq (gn_pl hj2 3), fq (gn_pl hj2 4), fq (layAr.plS c.arts), fq (layAr.plG e2), fq (layCo.plG c)] [⟨(mbib y5b), (mbib y5b), (mB_fits (fun _ => rfl))⟩, fbp (arC x1) (layAr.pl x1), fbp (coC c) (layCo.pl c)] _ _ (runS 300 (o1 ++ [plk (lkB89 y5b e2.number hb2), pcall (codex_Beats_step c ((i2 : Nat) : Int) version false hy7), pinc i2 (by omega)])) (by kernel_rfl) (k ([(jn j2 0), (jn j2 1), .bool true, .bool false, .bool false, .bool false, .bool false], [(gn j2 0), (gn j2 1), (gn j2 2), (gn j2 3), (gn j2 4), .agg (arC e2), .agg (coC c)]) (plC (gn_pl hj2 0) (plC (gn_pl hj2 1) (plC (gn_pl hj2 2) (plC (gn_pl hj2 3) (plC (gn_pl hj2 4) (plC (layAr.plG e2) (plC (layCo.plG c) rfl))))))))
 rintro result11_9 rfl jx_9 hjx_9
 revert h
 clear hres
 dsimp only [lpK]
 intro h
 have hE := Option.some.inj h
 subst hE
 exact go_retA (v := .sl (.row 0 1) result11_9.length (rows inC result11_9)) _ _ (runX 300 []) (by kernel_rfl) .body (.wn (.s rfl .nil) (layInt.plS result11_9))
 rintro v rfl
 dsimp only [lpK] at h
 cases h
 exact .outer .body
 rintro v rfl
 dsimp only [lpK] at h
 cases h
 exact .outer .body
 rintro v rfl
 dsimp only [lpK] at h
 cases h
 exact .outer .body
noncomputable def B27 : Code := bodyOf Tryz.f27
theorem b27 : Tryz.f27.body = some B27 := by kernel_rfl
noncomputable def codex_Needs_B  (c : Co) (version : Int) : Option (List Int) := cond (ltI version 0) (some []) (cond (leI ((c.arts.length : Nat) : Int) version) (some []) ((codex_Valid_B c).bind fun y1 => cond y1 ((codex_needs_B c version).bind fun y2 => some y2) (some [])))
theorem codex_Needs_step   (c : Co) (version : Int) (yR : (List Int)) (h : codex_Needs_B  c version = some yR) : Pure P G 27 [.agg (coC c), .sc (.int .i64 version)] (.sl .lost yR.length (rows inC yR)) := by
 unfold codex_Needs_B at h
 refine pureM Hd.mixed Hd.plainG (WC_body Tryz.func27 b27 ?_) (plC (layCo.plG c) (plC rfl rfl)) (layInt.plS yR)
 revert h
 refine cndI (fun hb1 => ?_) fun hb1 => ?_
 intro h
 have hE := Option.some.inj h
 subst hE
 exact go_retA (v := .sl .full 0 []) _ _ (runS 300 [pb hb1]) (by kernel_rfl) .body (.wn (.z .nil) (layInt.plS []))
 refine cndI (fun hb2 => ?_) fun hb2 => ?_
 intro h
 have hE := Option.some.inj h
 subst hE
 exact go_retA (v := .sl .full 0 []) _ _ (runS 300 [pb hb1, pb hb2]) (by kernel_rfl) .body (.wn (.z .nil) (layInt.plS []))
 refine bndI fun y1 hy1 => ?_
 refine cndI (fun hv => ?_) fun hv => ?_
 subst hv
 refine bndI fun y2 hy2 => ?_
 intro h
 have hE := Option.some.inj h
 subst hE
 exact go_retA _ _ (runS 300 [pb hb1, pb hb2, pcall (codex_Valid_step c true hy1), pcall (codex_needs_step c version y2 hy2)]) (by kernel_rfl) .body (.plain (layInt.plS y2))
 subst hv
 intro h
 have hE := Option.some.inj h
 subst hE
 exact go_retA (v := .sl .full 0 []) _ _ (runS 300 [pb hb1, pb hb2, pcall (codex_Valid_step c false hy1)]) (by kernel_rfl) .body (.wn (.z .nil) (layInt.plS []))
noncomputable def B36 : Code := bodyOf Tryz.f36
theorem b36 : Tryz.f36.body = some B36 := by kernel_rfl
noncomputable def law10_mentioned_L1 (r_law10_mentioned : Ex → Int → Option Bool) (number : Int) (i0 : Nat) (e0 : Ex)  : Option (Lp Unit Unit Bool) := (r_law10_mentioned e0 number).bind fun y1 => cond y1 (some (.rt true)) (some (.nx ()))
noncomputable def law10_mentioned_B (r_law10_mentioned : Ex → Int → Option Bool) (e : Ex) (number : Int) : Option Bool := (lim e.kids.length (foldL (fun i y x => law10_mentioned_L1 r_law10_mentioned number i y ) (fun x => ()) (e.kids.drop 0) 0 ())).bind (lpK (fun (_ : Unit) => cond (eqI e.op 3) (cond (eqI e.n number) (some true) (some false)) (some false)) (fun v => some v))
theorem law10_mentioned_step (r_law10_mentioned : Ex → Int → Option Bool) (hr_law10_mentioned : ∀ (e : Ex) (number : Int) (yR : Bool), r_law10_mentioned e number = some yR → Pure P G 36 [.agg (exC e), .sc (.int .i64 number)] (.sc (.bool yR))) (e : Ex) (number : Int) (yR : Bool) (h : law10_mentioned_B r_law10_mentioned e number = some yR) : Pure P G 36 [.agg (exC e), .sc (.int .i64 number)] (.sc (.bool yR)) := by
 unfold law10_mentioned_B at h
 refine pureM Hd.mixed Hd.plainG (WC_body Tryz.func36 b36 ?_) (plC (layEx.plG e) (plC rfl rfl)) rfl
 revert h
 refine bndI fun res hres h => ?_
 have hlen := (limE hres).1
 replace hres := (limE hres).2
 refine go_at [] [0, 1, 2, 4, 8, 9, 10, 11, 13, 14, 16, 20, 21, 25, 26] 0 (sub B36 [1, 0, 1, 0, 0]) [.code (sub B36 [1, 1])] _ _ (runS 300 []) (by kernel_rfl) (foldP (fn := Tryz.f36) (m := 0) (fun v => .sc (.bool v)) 0 e.kids (fun i0 (_ : Unit) (j0 : JJ) => frm 27 0 [(1, .sc (.int .i64 number)), (2, .ptr 0 0), (8, .sl .lost e.kids.length (exsC e.kids)), (9, .sc (.int .i64 ((e.kids.length : Nat) : Int))), (10, .sc (.int .i64 ((i0 : Nat) : Int)))] [4, 11, 16, 20, 21, 25, 26] 0 [0, 13, 14] 0 j0) (fun (_ : Nat) (_ : Unit) (_ : JJ) => ⟨[(0, .cells (exC e))], 1, [], 0⟩) (fun (j : JJ) => plainL j.2 = true) (fun (_ : Unit) (jx : JJ) => frm 27 0 [(1, .sc (.int .i64 number)), (2, .ptr 0 0)] [4, 11, 16, 20, 21, 25, 26] 0 [0, 13, 14] 0 jx) (fun (_ : Unit) (_ : JJ) => ⟨[(0, .cells (exC e))], 1, [], 0⟩) (fun (j : JJ) => plainL j.2 = true) ?_ ?_ 0 hres ?_ ?_ ([.bool false], [.agg (exC e), .sc undef, .sc undef]) (plC (layEx.plG e) (plC rfl (plC rfl rfl))))
 rintro i0 ⟨⟩ j0 hj0 hge hq
 clear h hres
 refine WL_rnd ?_
 exact go_ex Hd.plainG [1, 2, 4, 8, 22, 27, 29, 32, 40, 42, 50, 52] [fq (gn_pl hj0 0), fq (gn_pl hj0 1), fq (gn_pl hj0 2)] [fbp (exC e) (layEx.pl e)] 0 _ _ (runS 300 [pb (B := ltI ((i0 : Nat) : Int) ((e.kids.length : Nat) : Int)) (b := false) (ltF hge)]) (by kernel_rfl) (hq ([(jn j0 0), .bool false, (jn j0 2), (jn j0 3), (jn j0 4), (jn j0 5), (jn j0 6)], [(gn j0 0), (gn j0 1), (gn j0 2)]) (plC (gn_pl hj0 0) (plC (gn_pl hj0 1) (plC (gn_pl hj0 2) rfl))))
 clear h hres
 rintro i0 e0 ⟨⟩ j0 r hj0 he0 hi0 h k
 refine WL_rnd ?_
 revert h
 show law10_mentioned_L1 r_law10_mentioned number i0 e0  = some r → _
 unfold law10_mentioned_L1
 refine bndI fun y1 hy1 => ?_
 let o1 : List (PC P G) := [pb (B := ltI ((i0 : Nat) : Int) ((e.kids.length : Nat) : Int)) (b := true) (ltT hi0), pix (ix58 .lost he0)]
 refine cndI (fun hv => ?_) fun hv => ?_
 subst hv
 rintro ⟨⟩
 exact go_retA _ _ (runS 300 (o1 ++ [pcall (hr_law10_mentioned e0 number true hy1)])) (by kernel_rfl) (.rnd k) .sc
 subst hv
 rintro ⟨⟩
 exact go_nx Hd.plainG [1, 2, 4, 8, 17, 18, 20, 22, 27, 29, 32, 40, 42, 50, 52] [fq (gn_pl hj0 0), fq (layEx.plS e.kids), fq (layEx.plG e0), fq (layEx.plG e0)] [fbp (exC e) (layEx.pl e)] _ _ (runS 300 (o1 ++ [pcall (hr_law10_mentioned e0 number false hy1), pinc i0 (by omega)])) (by kernel_rfl) (k ([(jn j0 0), .bool true, .bool false, (jn j0 3), (jn j0 4), (jn j0 5), (jn j0 6)], [(gn j0 0), .agg (exC e0), .agg (exC e0)]) (plC (gn_pl hj0 0) (plC (layEx.plG e0) (plC (layEx.plG e0) rfl))))
 rintro ⟨⟩ rfl jx_2 hjx_2
 revert h
 clear hres
 dsimp only [lpK]
 refine cndI (fun hb1 => ?_) fun hb1 => ?_
 refine cndI (fun hb2 => ?_) fun hb2 => ?_
 intro h
 have hE := Option.some.inj h
 subst hE
 exact go_retA _ _ (runX 300 [pb hb1, pb hb2]) (by kernel_rfl) .body .sc
 intro h
 have hE := Option.some.inj h
 subst hE
 exact go_retA _ _ (runX 300 [pb hb1, pb hb2]) (by kernel_rfl) .body .sc
 intro h
 have hE := Option.some.inj h
 subst hE
 exact go_retA _ _ (runX 300 [pb hb1]) (by kernel_rfl) .body .sc
 rintro v rfl
 dsimp only [lpK] at h
 cases h
 exact .outer .body
noncomputable def law10_mentioned_M : Nat → Ex → Int → Option Bool
 | 0, _, _ => none
 | qn + 1, e, number => law10_mentioned_B (law10_mentioned_M qn) e number
theorem law10_mentioned_all : ∀ qn : Nat, ∀ (e : Ex) (number : Int) (yR : Bool), law10_mentioned_M qn e number = some yR → Pure P G 36 [.agg (exC e), .sc (.int .i64 number)] (.sc (.bool yR)) := by
 intro qn
 induction qn with
 | zero => exact (fun _ _ _ h => by simp only [law10_mentioned_M] at h; cases h)
 | succ qn ih => exact (fun e number yR h => law10_mentioned_step _ ih e number yR (by rw [law10_mentioned_M] at h; exact h))
noncomputable def law10_mentioned_R (e : Ex) (number : Int) : Option Bool := evt (fun qn => law10_mentioned_M qn e number)
theorem law10_mentioned_ok (e : Ex) (number : Int) (yR : Bool) (h : law10_mentioned_R e number = some yR) : Pure P G 36 [.agg (exC e), .sc (.int .i64 number)] (.sc (.bool yR)) := by
 obtain ⟨qn, h⟩ := evtE h
 exact (law10_mentioned_all qn) e number yR h
end Mo
end Go.Proofs.YtnijkdknnmgoeaaGreat
namespace Go.Proofs.YtnijkdknnmgoeaaGreat
open AI Go
namespace Mo
set_option maxRecDepth 100000
set_option maxHeartbeats 4000000
theorem key_s (s : ByteArray) : parser_isKey_B s = some (mb (s ∈ keysL)) := by
 rw [parser_isKey_B]
 simp only [eqB_mb, c_mb, m_tf, m_tq]
 refine smb ?_
 simp only [keysL, List.mem_cons, List.not_mem_nil, or_false]
theorem size0 (s : ByteArray) : s = ByteArray.empty ↔ s.data.toList.length = 0 := by
 constructor
 · intro h; rw [h]; rfl
 · intro h
   apply ByteArray.ext
   apply Array.ext'
   rw [List.eq_nil_of_length_eq_zero h]; rfl
theorem gname_s (s : ByteArray) : parser_goodName_B s = some (mb (nameP s)) := by
 rw [parser_goodName_B]
 simp only [eqB_mb, ltI_mb, c_mb, key_s, Option.bind_some]
 unfold nameP
 by_cases h0 : s = ByteArray.empty
 · rw [iff_T h0]; exact smbF fun h => by have := (size0 s).1 h0; omega
 have h1 : s.data.toList.length ≠ 0 := fun h => h0 ((size0 s).2 h)
 rw [iff_F h0]
 by_cases h2 : 16 < ((s.data.toList.length : Nat) : Int)
 · rw [iff_T h2]; exact smbF fun h => by omega
 rw [iff_F h2]
 obtain ⟨b, hb⟩ : ∃ b, s.data.toList[0]? = some b := ⟨_, List.getElem?_eq_getElem (by omega)⟩
 rw [hb, k_loop (v := false) (P := fun _ y => wordN y) (by omega) (fun i y _ => by
   simp only [parser_goodName_L1, ltI_mb, eqI_mb, c_mb, k_nr, k_qr, k_rn, k_qn, k_rq, k_qq, k_nq]
   congr 2
   unfold wordN
   apply propext
   omega)]
 simp only [Option.bind_some, m_tf, m_fq, mem_at]
 refine smb ?_
 constructor
 · rintro ⟨h3, h4, h5, h6⟩
   exact ⟨by omega, ⟨b, rfl, by omega⟩, h5, h6⟩
 · rintro ⟨h3, ⟨c, hc, h4⟩, h5, h6⟩
   cases hc
   exact ⟨by omega, by omega, h5, h6⟩
theorem piece0 : api_Piece_B [] [] = some true := by
 rw [api_Piece_B]; rfl
theorem node1 (n : Nd) : parser_checker_node_B ⟨0⟩ n 1 = some (true, 1) := by
 rw [parser_checker_node_B, wadd_in (by simp)]
 rfl
theorem bare_ref (s : ByteArray) : parser_bare_B ⟨12, s, ByteArray.empty, 0, 0, 0, 0, ⟨0, []⟩, [], 0⟩ ⟨0, s, ByteArray.empty, 0, 0, 0, 0, ⟨0, []⟩, [], 0⟩ = some true := by
 rw [parser_bare_B]
 simp only [eqB_mb, eqI_mb, c_mb, iff_T, piece0, Option.bind_some]
theorem isName_s (s : ByteArray) : codex_isName_B s = some (mb (nameP s)) := by
 have h1 : parser_checker_expr_R ⟨0⟩ ⟨12, s, ByteArray.empty, 0, 0, 0, 0, ⟨0, []⟩, [], 0⟩ 1 = some (mb (nameP s), 1) := by
   refine evt_of 1 fun n hn => ?_
   obtain ⟨n, rfl⟩ : ∃ k, n = k + 1 := ⟨n - 1, by omega⟩
   rw [parser_checker_expr_M, parser_checker_expr_B, node1]
   simp only [Option.bind_some, cond_true, show eqI 12 11 = false from rfl, show eqI 12 12 = true from rfl, cond_false, gname_s, List.length_nil, show eqI ((0 : Nat) : Int) 0 = true from rfl, bare_ref, c_mb]
   by_cases h : nameP s
   · rw [iff_T h, show mb (nameP s) = true from mb_true.2 h]
   · rw [iff_F h, show mb (nameP s) = false from mb_is_false.symm ▸ h]
 rw [codex_isName_B, parser_Valid_B]
 simp only [show eqI 12 1 = false from rfl, cond_false, h1, Option.bind_some]
theorem pcur_s (s : ByteArray) : codex_isCur_B s = some (mb (curP s)) := by
 rw [codex_isCur_B, eqI_mb, c_mb]
 unfold curP
 by_cases h : ((s.data.toList.length : Nat) : Int) = 3
 · rw [iff_T h, k_loop (v := false) (P := fun _ y => 65 ≤ y.toNat ∧ y.toNat ≤ 90) (by omega) (fun i y _ => by
     simp only [codex_isCur_L1, ltI_mb, c_mb, k_rn, k_rq]
     congr 2; apply propext; omega), m_tf, mem_at]
   exact smb ⟨fun h2 => ⟨by omega, h2⟩, fun h2 => h2.2⟩
 · rw [iff_F h]; exact smbF fun h2 => h (by omega)
theorem punit_s (s : ByteArray) : codex_isUnit_B s = some (mb (unitP s)) := by
 rw [codex_isUnit_B]
 simp only [eqB_mb, c_mb, pcur_s, Option.bind_some, m_tq]
 rfl
theorem gdecls_s (l : List Dc) (lo hi : Int) (hl : l.length ≤ 9223372036854775807) : codex_goodDecls_B l lo hi = some (mb (declsP l lo hi)) := by
 rw [codex_goodDecls_B, Sp_eq]
 refine Sp_loop (fun i m => (∀ x, (m.get x).getD false = true ↔ ∃ (j : Nat) (d : Dc), j < i ∧ l[j]? = some d ∧ d.name = x) ∧ ∀ (j : Nat) d, j < i → l[j]? = some d → declP l lo hi j d) hl ⟨fun x => by simp [Mm.get_nil], fun j d hj => by omega⟩ (fun i y m hy hI => ?_) (fun m hI => ?_)
 · obtain ⟨h1, h2⟩ := hI
   simp only [codex_goodDecls_L1, isName_s, punit_s, Option.bind_some, ltI_mb, c_b, mb_is_true, Sp_iff, Sp_some, RQ_nx, RQ_rt, false_is_mb]
   rw [h1 y.name]
   have hd : ∀ q : Prop, (declP l lo hi i y → q) → ¬ q → ¬ declsP l lo hi := fun q h3 h4 h5 => h4 (h3 (h5 i y hy))
   refine ⟨fun a => ⟨fun b => ?_, fun b => ⟨fun c => ⟨fun d => ?_, fun d => ⟨fun e => ?_, fun e => ⟨fun x => ?_, fun j d' hj hj2 => ?_⟩⟩⟩, fun c => ?_⟩⟩, fun a => ?_⟩
   · obtain ⟨j, d, hj, hd1, hd2⟩ := b
     exact fun h5 => (h5 i y hy).2.2.2.2 j d hj hd1 hd2
   · exact fun h5 => by have := (h5 i y hy).2.2.1; omega
   · exact fun h5 => by have := (h5 i y hy).2.2.2.1; omega
   · rw [Mm.get_set]
     by_cases hx : x = y.name
     · rw [if_pos hx]
       exact ⟨fun _ => ⟨i, y, by omega, hy, hx.symm⟩, fun _ => rfl⟩
     · rw [if_neg hx, h1 x]
       constructor
       · rintro ⟨j, d, hj, hd1, hd2⟩; exact ⟨j, d, by omega, hd1, hd2⟩
       · rintro ⟨j, d, hj, hd1, hd2⟩
         have : j ≠ i := fun e => by subst e; rw [hy] at hd1; cases hd1; exact hx hd2.symm
         exact ⟨j, d, by omega, hd1, hd2⟩
   · rcases Nat.lt_or_ge j i with h | h
     · exact h2 j d' h hj2
     · have : j = i := by omega
       subst this; rw [hy] at hj2; cases hj2
       exact ⟨a, c, by omega, by omega, fun j' e' hj' he' hn => b ⟨j', e', hj', he', hn⟩⟩
   · exact fun h5 => c (h5 i y hy).2.1
   · exact fun h5 => a (h5 i y hy).1
 · rw [Sp_some, true_is_mb]
   exact fun j d hj => hI.2 j d (List.getElem?_eq_some_iff.1 hj).1 hj
theorem tabC_s (f : Fn) : piecewise_Valid_B f = some (mb (tableP f)) := by
 rw [piecewise_Valid_B]
 simp only [ltI_mb, c_mb]
 by_cases h1 : f.den < 1
 · rw [iff_T h1]; exact smbF (by unfold tableP; omega)
 by_cases h2 : 1000000 < f.den
 · rw [iff_F h1, iff_T h2]; exact smbF (by unfold tableP; omega)
 by_cases h3 : ((f.ps.length : Nat) : Int) < 1
 · rw [iff_F h1, iff_F h2, iff_T h3]; exact smbF (by unfold tableP; omega)
 by_cases h4 : 64 < ((f.ps.length : Nat) : Int)
 · rw [iff_F h1, iff_F h2, iff_F h3, iff_T h4]; exact smbF (by unfold tableP; omega)
 rw [iff_F h1, iff_F h2, iff_F h3, iff_F h4, k_loop (v := false) (P := pieceP f) (by omega) (fun i y hy => by
   have hi := (List.getElem?_eq_some_iff.1 hy).1
   simp only [piecewise_Valid_L1, ltI_mb, eqI_mb, leI_mb, c_mb]
   cases i with
   | zero =>
     simp only [show ((0 : Nat) : Int) = 0 from rfl, iff_T, k_nr, k_rn, k_rq, k_qr]
     congr 2
     apply propext
     unfold pieceP
     grind
   | succ i =>
     obtain ⟨q, hq⟩ : ∃ q, f.ps[i]? = some q := ⟨_, List.getElem?_eq_getElem (by omega)⟩
     rw [wsub_in (by omega), show ((i + 1 : Nat) : Int) - 1 = ((i : Nat) : Int) by omega, geti_nat, hq]
     rw [iff_F (show ¬ ((i + 1 : Nat) : Int) = 0 by omega), iff_T (show (0 : Int) < ((i + 1 : Nat) : Int) by omega)]
     simp only [Option.bind_some, leI_mb, c_mb, k_rn, k_rq, k_qr]
     congr 2
     apply propext
     unfold pieceP
     have h5 : (∀ (j : Nat) q', i + 1 = j + 1 → f.ps[j]? = some q' → q'.fr < y.fr) ↔ q.fr < y.fr := ⟨fun h => h i q rfl hq, fun h j q' hj hq' => by cases hj; rw [hq] at hq'; cases hq'; exact h⟩
     rw [h5]
     grind), m_tf]
 refine smb ?_
 unfold tableP
 exact ⟨fun h => ⟨by omega, by omega, h⟩, fun h => h.2.2⟩
theorem leafC_s (f : Ft) (e : Ex) (ho : 1 ≤ e.op ∧ e.op ≤ 4) (hg : ∀ z, f.lines.get z = lnOf f.codex.arts z) (hln : ∀ z l, lnOf f.codex.arts z = some l → 0 ≤ l ∧ l < ((f.codex.lines.length : Nat) : Int)) : codex_fitter_leaf_B f e = some (mb (leafP f.codex e)) := by
 rw [codex_fitter_leaf_B, hg]
 simp only [leI_mb, ltI_mb, eqI_mb, eqB_mb, c_b, mb_is_true, Option.bind_some, m_tf, m_qf, m_qt, m_geti]
 by_cases h1 : e.op = 1
 · rw [iff_T h1, mb_congr (leaf1 h1)]
   refine smb ?_; unfold constP; grind
 rw [iff_F h1]
 by_cases h2 : e.op = 2
 · rw [iff_T h2, mb_congr (leaf2 h2)]
 rw [iff_F h2]
 by_cases h3 : e.op = 3
 · rw [iff_T h3, mb_congr (leaf3 h3)]
   cases hl : lnOf f.codex.arts e.n with
   | none => rw [iff_F (by simp)]; exact smbF (by simp)
   | some l =>
     obtain ⟨x, hx, _⟩ := geti_in (hln _ _ hl).1 (hln _ _ hl).2
     rw [iff_T (by simp), Option.getD_some, hx]
     simp only [Option.bind_some]
     refine smb ⟨fun h => ⟨l, x, rfl, hx, h⟩, fun ⟨l', d, h1, h2, h3⟩ => by cases h1; rw [hx] at h2; cases h2; exact h3⟩
 rw [iff_F h3]
 have h4 : e.op = 4 := by omega
 exact smb (leaf4 h4).symm
end Mo
end Go.Proofs.YtnijkdknnmgoeaaGreat
namespace Go.Proofs.YtnijkdknnmgoeaaGreat
open AI Go
namespace Mo
set_option maxRecDepth 100000
set_option maxHeartbeats 4000000
theorem same_s (k : Ex) (ks : List Ex) (hl : (k :: ks).length ≤ 9223372036854775807) : codex_same_B (k :: ks) = some (mb (∀ x ∈ k :: ks, x.unit = k.unit)) := by
 rw [codex_same_B, k_loop (v := false) (P := fun _ x => x.unit = k.unit) hl (fun i x _ => by
   simp only [codex_same_L1, List.getElem?_cons_zero, Option.bind_some, eqB_mb, c_mb, k_nr]), m_tf, mem_at]
theorem product_s (a b : ByteArray) : codex_product_B a b = some (open Classical in if a = numberS then b else a) := by
 rw [codex_product_B, eqB_mb, c_mb]
 by_cases h : a = numberS
 · rw [iff_T h, if_pos h]
 · rw [iff_F h, if_neg h]
theorem last_at {α : Type} (a : α) (l : List α) : ∃ x, geti (a :: l) ((((a :: l).length : Nat) : Int) - 1) = some x ∧ x ∈ a :: l ∧ (l = [] → x = a) ∧ ∀ b, l = [b] → x = b := by
 have h : ((((a :: l).length : Nat) : Int) - 1) = ((l.length : Nat) : Int) := by simp only [List.length_cons]; omega
 rw [h, geti_nat]
 have h2 : l.length < (a :: l).length := by simp
 refine ⟨(a :: l)[l.length], List.getElem?_eq_getElem h2, List.getElem_mem _, fun h => by subst h; rfl, fun b h => by subst h; rfl⟩
theorem oper_s (op n : Int) (u : ByteArray) (t : Fn) (a : Ex) (r : List Ex) (hl : (a :: r).length ≤ 9223372036854775807) (hu : ∀ k ∈ a :: r, unitP k.unit) (ho : ¬ (1 ≤ op ∧ op ≤ 4)) (ho2 : op ≠ 18) :
   codex_operation_B ⟨op, n, u, t, a :: r⟩ = some (mb ((r = [] ∧ op = 5 ∧ u = truthS ∧ a.unit = truthS) ∨ ∃ b r', r = b :: r' ∧ manyP ⟨op, n, u, t, a :: r⟩ a b r')) := by
 obtain ⟨x, hx, hxm, hx0, hx1⟩ := last_at a r
 rw [codex_operation_B]
 simp only [List.getElem?_cons_zero, Option.bind_some]
 rw [wsub_in (by omega), hx]
 simp only [Option.bind_some, same_s a r hl, eqB_mb, eqI_mb, leI_mb, ltI_mb, not_mb, product_s, pcur_s, c_b, mb_is_true, m_tf, m_qf, m_fq, m_qr, m_ff, m_tq, m_same]
 refine smb ?_
 have nt1 : truthS ≠ numberS := by intro h; exact absurd (congrArg ByteArray.data h) (by decide)
 have nt2 : truthS ≠ minutesS := by intro h; exact absurd (congrArg ByteArray.data h) (by decide)
 have nt3 : numberS ≠ minutesS := by intro h; exact absurd (congrArg ByteArray.data h) (by decide)
 have tc := truth_cur
 have nc := number_cur
 have mc := minutes_cur
 have hua := hu a (by simp)
 have hux := hu x hxm
 match r, hl, hx0, hx1 with
 | [], hl, hx0, hx1 =>
   have := hx0 rfl
   subst this
   simp only [List.length_cons, List.length_nil, List.mem_singleton, forall_eq, reduceCtorEq, false_and, exists_false, or_false, true_and]
   grind
 | [b], hl, hx0, hx1 =>
   have := hx1 b rfl
   subst this
   have e2 : (((([a, x] : List Ex).length : Nat) : Int) = 2) ↔ True := by simp
   have e1 : (((([a, x] : List Ex).length : Nat) : Int) = 1) ↔ False := by simp
   have e3 : ((2 : Int) ≤ ((([a, x] : List Ex).length : Nat) : Int)) ↔ True := by simp
   have es : (∀ k ∈ [a, x], k.unit = a.unit) ↔ x.unit = a.unit := by simp
   have eq : ∀ M : Ex → List Ex → Prop, (∃ b r', [x] = b :: r' ∧ M b r') ↔ M x [] := fun M => ⟨fun ⟨b, r', h, hm⟩ => by cases h; exact hm, fun h => ⟨x, [], rfl, h⟩⟩
   rw [eq]
   simp only [e1, e2, e3, es, reduceCtorEq, false_and, false_or]
   unfold manyP pairP
   simp only [es]
   generalize a.unit = ua at *; generalize x.unit = ub at *; generalize x.op = xo at *; generalize x.n = xn at *
   clear hx hxm hx0 hx1 hu hl eq e1 e2 e3 es
   by_cases h6 : op = 6
   · subst h6; simp; try grind
   by_cases h7 : op = 7
   · subst h7; simp; try grind
   by_cases h8 : op = 8
   · subst h8; simp; try grind
   by_cases h9 : op = 9
   · subst h9; simp; try grind
   by_cases h10 : op = 10
   · subst h10; simp; try grind
   by_cases h11 : op = 11
   · subst h11; simp; try grind
   by_cases h12 : op = 12
   · subst h12; simp; try grind
   by_cases h13 : op = 13
   · subst h13; simp; try grind
   by_cases h14 : op = 14
   · subst h14; simp; try grind
   by_cases h15 : op = 15
   · subst h15; simp; try grind
   by_cases h16 : op = 16
   · subst h16; simp; try grind
   by_cases h17 : op = 17
   · subst h17; simp; try grind
   by_cases h5 : op = 5
   · subst h5; simp
   simp [h5, h6, h7, h8, h9, h10, h11, h12, h13, h14, h15, h16, h17]
 | b :: d :: r, hl, hx0, hx1 =>
   have e2 : ((((a :: b :: d :: r).length : Nat) : Int) = 2) ↔ False := by simp only [List.length_cons, iff_false]; omega
   have e1 : ((((a :: b :: d :: r).length : Nat) : Int) = 1) ↔ False := by simp only [List.length_cons, iff_false]; omega
   have e3 : ((2 : Int) ≤ (((a :: b :: d :: r).length : Nat) : Int)) ↔ True := by simp only [List.length_cons, iff_true]; omega
   have eq : ∀ M : Ex → List Ex → Prop, (∃ b' r', b :: d :: r = b' :: r' ∧ M b' r') ↔ M b (d :: r) := fun M => ⟨fun ⟨b, r', h, hm⟩ => by cases h; exact hm, fun h => ⟨b, d :: r, rfl, h⟩⟩
   rw [eq]
   simp only [e1, e2, e3, reduceCtorEq, false_and, false_or]
   unfold manyP
   simp only [reduceCtorEq, false_and, or_false]
   generalize (∀ k ∈ a :: b :: d :: r, k.unit = a.unit) = A at *
   clear hx hxm hx0 hx1 hu hl eq e1 e2 e3
   by_cases h16 : op = 16
   · subst h16; simp; try grind
   by_cases h17 : op = 17
   · subst h17; simp; try grind
   simp [h16, h17]
   try grind
theorem fitC_m (c : Co) (hd : Decd c) (hln : ∀ z l, lnOf c.arts z = some l → 0 ≤ l ∧ l < ((c.lines.length : Nat) : Int)) : ∀ (m : Nat) (e : Ex) (L : Mm Int Int) (nd : Int) (d : Int), okE e → cnt e ≤ m → (∀ z, L.get z = lnOf c.arts z) → 0 ≤ nd → nd ≤ 400 → 1 ≤ d → d ≤ 41 →
   Sp (codex_fitter_fits_M m ⟨c, L, nd⟩ e d) (fun r => (r.1 = mb (nd + ((cnt e : Nat) : Int) ≤ 400 ∧ ((dp e : Nat) : Int) + d ≤ 41 ∧ fit c e)) ∧ (r.1 = true → r.2 = nd + ((cnt e : Nat) : Int))) := by
 intro m
 induction m with
 | zero => intro e _ _ _ _ h; have := cnt_pos e; omega
 | succ m ih =>
   intro e L nd d hok hm hL hn0 hn1 hd0 hd1
   obtain ⟨_, hk, hks⟩ := (okE_iff e).1 hok
   have hc := cnt_eq e
   have hdp := dp_eq e
   rw [codex_fitter_fits_M, codex_fitter_fits_B]
   simp only
   rw [wadd_in (by omega)]
   simp only [punit_s, Option.bind_some, ltI_mb, c_b, mb_is_true, Sp_iff, Sp_some, false_is_mb, Bool.false_eq_true, false_implies, and_true]
   refine ⟨fun h => by omega, fun h1 => ⟨fun h => by omega, fun h2 => ⟨fun h3 => ?_, fun h3 => fun h => h3 ((fit_iff c e).1 h.2.2).1⟩⟩⟩
   refine Sp_loop (fun i x => x = nd + 1 + ((cntS (e.kids.take i) : Nat) : Int) ∧ x ≤ 400 ∧ ∀ (j : Nat) k, j < i → e.kids[j]? = some k → ((dp k : Nat) : Int) + d ≤ 40 ∧ fit c k) hk ⟨by simp [cntS], by omega, fun j k hj => by omega⟩ (fun i y x hy hI => ?_) (fun x hI => ?_)
   · obtain ⟨hx, hx4, hj⟩ := hI
     have hym := List.mem_of_getElem? hy
     have h4 := cnt_kid hym
     have h5 := cntS_step hy
     have h6 := cntS_take e.kids (i + 1)
     have h7 := dpS_le.1 (Nat.le_refl (dpS e.kids)) y hym
     simp only [codex_fitter_fits_L1, Sp_bind]
     rw [wadd_in (by omega)]
     refine (ih y L x (d + 1) (hks y hym) (by omega) hL (by omega) (by omega) (by omega) (by omega)).mono fun r hr => ?_
     obtain ⟨r1, r2⟩ := r
     obtain ⟨hr1, hr2⟩ := hr
     simp only at hr1 hr2 ⊢
     subst hr1
     simp only [c_mb, Sp_iff, Sp_some, RQ_nx, RQ_rt, false_is_mb, Bool.false_eq_true, false_implies, and_true]
     refine ⟨fun h => ?_, fun h => fun h8 => h ⟨?_, ?_, (fit_iff c e).1 h8.2.2 |>.2.1 y hym⟩⟩
     · have := hr2 (mb_true.2 h)
       refine ⟨by omega, by omega, fun j k hji hjk => ?_⟩
       rcases Nat.lt_or_ge j i with h9 | h9
       · exact hj j k h9 hjk
       · have : j = i := by omega
         subst this; rw [hy] at hjk; cases hjk
         exact ⟨by omega, h.2.2⟩
     · omega
     · omega
   · obtain ⟨hx, hx4, hj⟩ := hI
     rw [List.take_length] at hx
     have hfk : ∀ k ∈ e.kids, fit c k := fun k hk => by
       obtain ⟨i, hi⟩ := List.getElem?_of_mem hk
       exact (hj i k (List.getElem?_eq_some_iff.1 hi).1 hi).2
     have hdk : dpS e.kids ≤ (40 - d).toNat := dpS_le.2 fun k hk => by
       obtain ⟨i, hi⟩ := List.getElem?_of_mem hk
       have := (hj i k (List.getElem?_eq_some_iff.1 hi).1 hi).1
       omega
     have hP : (nd + ((cnt e : Nat) : Int) ≤ 400 ∧ ((dp e : Nat) : Int) + d ≤ 41 ∧ fit c e) ↔ loc c e := by
       rw [fit_iff]
       exact ⟨fun h => h.2.2.2.2, fun h => ⟨by omega, by omega, h3, hfk, h⟩⟩
     rw [mb_congr hP]
     have hx2 : x = nd + ((cnt e : Nat) : Int) := by omega
     subst hx2
     have fin : ∀ {o : Option (Bool × Int)} {q : Prop}, (loc c e ↔ q) → o = some (mb q, nd + ((cnt e : Nat) : Int)) → Sp o (fun r => r.1 = mb (loc c e) ∧ (r.1 = true → r.2 = nd + ((cnt e : Nat) : Int))) := fun hq ho => by
       rw [ho, Sp_some, mb_congr hq]; exact ⟨rfl, fun _ => rfl⟩
     have hun : ∀ k ∈ e.kids, unitP k.unit := fun k hk => ((fit_iff c k).1 (hfk k hk)).1
     obtain ⟨op, n, u, t, ks⟩ := e
     simp only at hun hk ⊢
     have lf := fun h => leafC_s ⟨c, L, nd + ((cnt ⟨op, n, u, t, ks⟩ : Nat) : Int)⟩ ⟨op, n, u, t, ks⟩ h hL hln
     simp only at lf
     simp only [eqI_mb, eqB_mb, leI_mb, ltI_mb, c_b, mb_is_true, pcur_s, tabC_s, Option.bind_some]
     clear fin hP hj hfk hdk hx hx4 hks ih hm hc hdp hok h1 h2
     by_cases ho : 1 ≤ op ∧ op ≤ 4
     · rw [lf ho]
       have n18 : ¬ op = 18 := by omega
       have n5 : ¬ op = 5 := by omega
       simp only [iff_T ho.1, iff_T ho.2, iff_F n18, Option.bind_some, Sp_iff, Sp_some, false_is_mb, mb_is_mb, Bool.false_eq_true, false_implies, implies_true, and_true]
       match ks with
       | [] => rw [loc0]; unfold tabless; simp only [List.length_nil]; have p0 := @ps0 Pc t.ps; grind
       | [a] => rw [loc1]; simp only [List.length_cons, List.length_nil]; grind
       | a :: b :: r =>
         rw [loc2]
         have h5 := @many_op ⟨op, n, u, t, a :: b :: r⟩ a b r
         simp only [List.length_cons] at h5 ⊢
         generalize manyP ⟨op, n, u, t, a :: b :: r⟩ a b r = M at *
         refine ⟨fun _ => ⟨fun _ h => ?_, fun _ => ⟨fun h => ?_, fun h h2 => ?_⟩⟩, fun _ h2 => ?_⟩
         · have := h5 h.2.2; omega
         · omega
         · have := h5 h2.2.2; omega
         · have := h5 h2.2.2; omega
     · have el : ∀ x y : Option (Bool × Int), iff_ (1 ≤ op) (iff_ (op ≤ 4) x y) y = y := fun x y => by
         by_cases q : 1 ≤ op
         · rw [iff_T q, iff_F (by omega)]
         · rw [iff_F q]
       rw [el]
       have lz := fun h1 h2 h3 h4 => @leaf0 c ⟨op, n, u, t, ks⟩ h1 h2 h3 h4
       have lz := lz (by show op ≠ 1; omega) (by show op ≠ 2; omega) (by show op ≠ 3; omega) (by show op ≠ 4; omega)
       match ks, hun, hk, lz with
       | [], hun, hk, lz =>
         rw [loc0]
         simp only [List.length_nil, Sp_iff, Sp_some, false_is_mb, Bool.false_eq_true, false_implies, and_true]
         refine ⟨fun _ => ⟨fun _ => ⟨fun h => by omega, fun _ h => lz h.2⟩, fun _ h => lz h.2⟩, fun _ => ⟨fun _ => ⟨fun _ h => lz h.2, fun _ => ⟨fun _ => ⟨fun h => by omega, fun _ h => lz h.2⟩, fun _ h => lz h.2⟩⟩, fun _ h => lz h.2⟩⟩
       | [a], hun, hk, lz =>
         rw [loc1]
         by_cases h18 : op = 18
         · subst h18
           simp only [List.length_cons, List.length_nil, List.getElem?_cons_zero, Option.bind_some, iff_T, Sp_iff, Sp_some, false_is_mb, mb_is_mb, Bool.false_eq_true, false_implies, implies_true, and_true]
           grind
         · rw [iff_F h18, oper_s op n u t a [] hk hun ho h18]
           have p0 := @ps0 Pc t.ps
           unfold tabless
           simp only [List.length_cons, List.length_nil, Option.bind_some, Sp_iff, Sp_some, false_is_mb, mb_is_mb, Bool.false_eq_true, false_implies, implies_true, and_true, reduceCtorEq, false_and, exists_false, or_false, true_and]
           grind
       | a :: b :: r, hun, hk, lz =>
         rw [loc2]
         have h5 := @many_op ⟨op, n, u, t, a :: b :: r⟩ a b r
         have eq : ∀ M : Ex → List Ex → Prop, (∃ b' r', b :: r = b' :: r' ∧ M b' r') ↔ M b r := fun M => ⟨fun ⟨b, r', h, hm⟩ => by cases h; exact hm, fun h => ⟨b, r, rfl, h⟩⟩
         have p0 := @ps0 Pc t.ps
         unfold tabless
         by_cases h18 : op = 18
         · subst h18
           simp only [iff_T, Sp_iff, Sp_some, false_is_mb, mb_is_mb, Bool.false_eq_true, false_implies, implies_true, and_true]
           have : ∀ q : Prop, (n = 0 ∧ q ∧ manyP ⟨18, n, u, t, a :: b :: r⟩ a b r) → False := fun q h => by have := h5 h.2.2; simp at this
           refine ⟨fun _ => ⟨fun h => ?_, fun _ h => this _ h⟩, fun _ h => this _ h⟩
           simp only [List.length_cons] at h; omega
         · rw [iff_F h18, oper_s op n u t a (b :: r) hk hun ho h18, mb_congr (show (((b :: r = [] ∧ op = 5 ∧ u = truthS ∧ a.unit = truthS) ∨ ∃ b' r', b :: r = b' :: r' ∧ manyP ⟨op, n, u, t, a :: b :: r⟩ a b' r') ↔ manyP ⟨op, n, u, t, a :: b :: r⟩ a b r) by rw [eq]; simp)]
           simp only [List.length_cons, Option.bind_some, Sp_iff, Sp_some, false_is_mb, mb_is_mb, Bool.false_eq_true, false_implies, implies_true, and_true]
           generalize manyP ⟨op, n, u, t, a :: b :: r⟩ a b r = M at *
           clear h5 eq lf
           grind
end Mo
end Go.Proofs.YtnijkdknnmgoeaaGreat
namespace Go.Proofs.YtnijkdknnmgoeaaGreat
open AI Go
namespace Mo
set_option maxRecDepth 100000
set_option maxHeartbeats 4000000
theorem lnOf_app (l m : List Ar) (z : Int) : lnOf (l ++ m) z = (lnOf l z).or (lnOf m z) := by
 unfold lnOf
 rw [List.find?_append]
 cases List.find? (fun a => decide (a.number = z)) l <;> rfl
theorem lnOf_one (a : Ar) (z : Int) : lnOf [a] z = if a.number = z then some a.line else none := by
 unfold lnOf
 by_cases h : a.number = z <;> simp [h]
theorem lnOf_some {l : List Ar} {z x : Int} (h : lnOf l z = some x) : ∃ a ∈ l, a.number = z ∧ a.line = x := by
 unfold lnOf at h
 obtain ⟨a, h1, h2⟩ := Option.map_eq_some_iff.1 h
 exact ⟨a, List.mem_of_find?_eq_some h1, by have := List.find?_some h1; simpa using this, h2⟩
theorem lnOf_take {l : List Ar} {i : Nat} {z x : Int} (h : lnOf (l.take i) z = some x) : lnOf l z = some x := by
 have := lnOf_app (l.take i) (l.drop i) z
 rw [List.take_append_drop] at this
 rw [this, h]; rfl
theorem lnOf_step {l : List Ar} {i : Nat} {a : Ar} (h : l[i]? = some a) (z : Int) : lnOf (l.take (i + 1)) z = (lnOf (l.take i) z).or (if a.number = z then some a.line else none) := by
 rw [List.take_add_one, h, lnOf_app]
 show (lnOf (l.take i) z).or (lnOf [a] z) = _
 rw [lnOf_one]
def LnIn (c : Co) : Prop := ∀ z l, lnOf c.arts z = some l → 0 ≤ l ∧ l < ((c.lines.length : Nat) : Int)
theorem fits_eq : ∀ (m m' : Nat) (e : Ex) (f : Ft) (d : Int), cnt e ≤ m → cnt e ≤ m' → codex_fitter_fits_M m f e d = codex_fitter_fits_M m' f e d := by
 intro m
 induction m with
 | zero => intro m' e _ _ h; have := cnt_pos e; omega
 | succ m ih =>
   intro m' e f d h1 h2
   cases m' with
   | zero => have := cnt_pos e; omega
   | succ m' =>
     rw [codex_fitter_fits_M, codex_fitter_fits_M, codex_fitter_fits_B, codex_fitter_fits_B, loop_congr (body' := fun i y x => codex_fitter_fits_L1 (codex_fitter_fits_M m') f d i y x) (fun i y x hy => by
       have := cnt_kid (List.mem_of_getElem? hy)
       simp only [codex_fitter_fits_L1]
       rw [ih m' y _ _ (by omega) (by omega)])]
theorem wholeC_s (c : Co) (hd : Decd c) (hln : LnIn c) (L : Mm Int Int) (hL : ∀ z, L.get z = lnOf c.arts z) (nd : Int) (e : Ex) (u : ByteArray) (he : okE e) : Sp (codex_fitter_whole_B ⟨c, L, nd⟩ e u) (fun r => r.1 = mb (whole c e u)) := by
 rw [codex_fitter_whole_B, eqB_mb, c_mb, Sp_iff]
 refine ⟨fun h => ?_, fun h => ?_⟩
 · obtain ⟨r, h1, h2⟩ : Sp (codex_fitter_fits_R ⟨c, L, 0⟩ e 1) (fun r => r.1 = mb ((0 : Int) + ((cnt e : Nat) : Int) ≤ 400 ∧ ((dp e : Nat) : Int) + 1 ≤ 41 ∧ fit c e)) := by
     obtain ⟨r, h1, h2, _⟩ := fitC_m c hd hln (cnt e) e L 0 1 he (Nat.le_refl _) hL (by omega) (by omega) (by omega) (by omega)
     refine ⟨r, evt_of (cnt e) fun n hn => ?_, h2⟩
     rw [fits_eq n (cnt e) e _ _ hn (Nat.le_refl _), h1]
   rw [h1, Sp_bind, Sp_some]
   obtain ⟨r1, r2⟩ := r
   simp only [Sp_some]
   simp only at h2
   rw [h2]
   refine mb_congr ?_
   unfold whole smE
   constructor
   · rintro ⟨a, b, d⟩; exact ⟨⟨by omega, by omega⟩, d, h⟩
   · rintro ⟨⟨a, b⟩, d, _⟩; exact ⟨by omega, by omega, d⟩
 · rw [Sp_some, false_is_mb]
   exact fun h2 => h h2.2.2
theorem articleC_s (c : Co) (hd : Decd c) (hln : LnIn c) (L : Mm Int Int) (hL : ∀ z, L.get z = lnOf c.arts z) (nd : Int) (a : Ar) (ha : okA a) (hli : 0 ≤ a.line ∧ a.line < ((c.lines.length : Nat) : Int)) : Sp (codex_fitter_article_B ⟨c, L, nd⟩ a) (fun r => r.1 = mb (bodyP c a)) := by
 obtain ⟨hw, hu, hwe, hae⟩ := ha
 rw [codex_fitter_article_B]
 simp only [ltI_mb, leI_mb, c_mb, Sp_iff, Sp_some, false_is_mb]
 have nb : ∀ q : Prop, (bodyP c a → ¬ q) → q → ¬ bodyP c a := fun q h1 h2 h3 => h1 h3 h2
 refine ⟨fun h => by unfold bodyP; omega, fun h1 => ⟨fun h => by unfold bodyP; omega, fun h2 => ⟨fun h => by unfold bodyP; omega, fun h3 => ⟨fun h => by unfold bodyP; omega, fun h4 => ⟨fun h => by unfold bodyP; omega, fun h5 => ⟨fun h => by unfold bodyP; omega, fun h6 => ⟨fun h => by unfold bodyP; omega, fun h7 => ?_⟩⟩⟩⟩⟩⟩⟩
 refine Sp_loop (fun i _ => ∀ (j : Nat) z, j < i → a.un[j]? = some z → lnOf c.arts z ≠ none) hu (fun j z hj => by omega) (fun i z x hz hI => ?_) (fun x hI => ?_)
 · simp only [codex_fitter_article_L1, hL, c_b, Sp_iff, Sp_some, RQ_nx, RQ_rt, false_is_mb]
   refine ⟨fun h j z' hj hz' => ?_, fun h h2 => ?_⟩
   · rcases Nat.lt_or_ge j i with h9 | h9
     · exact hI j z' h9 hz'
     · have : j = i := by omega
       subst this; rw [hz] at hz'; cases hz'
       intro e; rw [e] at h; cases h
   · have := h2.2.2.2.1 z (List.mem_of_getElem? hz)
     cases hq : lnOf c.arts z with
     | none => exact this hq
     | some x => rw [hq] at h; exact h rfl
 · have hun : ∀ z ∈ a.un, lnOf c.arts z ≠ none := fun z hz => by obtain ⟨i, hi⟩ := List.getElem?_of_mem hz; exact hI i z (List.getElem?_eq_some_iff.1 hi).1 hi
   clear hI
   refine Sp_loop (fun i _ => ∀ (j : Nat) e, j < i → a.wh[j]? = some e → whole c e truthS) hw (fun j z hj => by omega) (fun i e x he hI => ?_) (fun x hI => ?_)
   · simp only [codex_fitter_article_L2, Sp_bind]
     refine (wholeC_s c hd hln L hL x e truthS (hwe e (List.mem_of_getElem? he))).mono fun r hr => ?_
     obtain ⟨r1, r2⟩ := r
     simp only at hr ⊢
     subst hr
     simp only [c_mb, Sp_iff, Sp_some, RQ_nx, RQ_rt, false_is_mb]
     refine ⟨fun h j e' hj he' => ?_, fun h h2 => h (h2.2.2.2.2.1 e (List.mem_of_getElem? he))⟩
     rcases Nat.lt_or_ge j i with h9 | h9
     · exact hI j e' h9 he'
     · have : j = i := by omega
       subst this; rw [he] at he'; cases he'; exact h
   · have hwh : ∀ e ∈ a.wh, whole c e truthS := fun z hz => by obtain ⟨i, hi⟩ := List.getElem?_of_mem hz; exact hI i z (List.getElem?_eq_some_iff.1 hi).1 hi
     obtain ⟨d, hd1, _⟩ := geti_in hli.1 hli.2
     rw [hd1, Option.bind_some, Sp_bind]
     refine (wholeC_s c hd hln L hL x a.am d.unit hae).mono fun r hr => ?_
     obtain ⟨r1, r2⟩ := r
     simp only at hr ⊢
     rw [Sp_some, hr]
     refine mb_congr ⟨fun h => ⟨by omega, by omega, by omega, hun, hwh, d, hd1, h⟩, fun h => ?_⟩
     obtain ⟨d', h1, h2⟩ := h.2.2.2.2.2
     rw [hd1] at h1; cases h1; exact h2
theorem validC_s (c : Co) (hc : okC c) : codex_Valid_B c = some (mb (validP c)) := by
 obtain ⟨hf, hl, ha, hao⟩ := hc
 rw [codex_Valid_B, gdecls_s _ _ _ hf, gdecls_s _ _ _ hl, Sp_eq]
 simp only [ltI_mb, c_mb, Option.bind_some, Sp_iff, Sp_some, false_is_mb]
 refine ⟨fun h => by unfold validP; omega, fun h1 => ⟨fun h => by unfold validP; omega, fun h2 => ⟨fun h => by unfold validP; omega, fun h3 => ⟨fun h4 => ⟨fun h5 => ?_, fun h5 h => h5 h.2.1.1⟩, fun h4 h => h4 h.1.1⟩⟩⟩⟩
 have hd := decd_of h4 h5
 refine Sp_loop (fun i m => (∀ z, m.get z = lnOf (c.arts.take i) z) ∧ ∀ (j : Nat) a, j < i → c.arts[j]? = some a → (1 ≤ a.number ∧ a.number ≤ 1000000) ∧ (0 ≤ a.line ∧ a.line < ((c.lines.length : Nat) : Int)) ∧ lnOf (c.arts.take i) a.number = some a.line) ha ⟨fun z => rfl, fun j a hj => by omega⟩ (fun i a m hi hI => ?_) (fun m hI => ?_)
 · obtain ⟨hm, hj⟩ := hI
   have hm' := hm a.number
   have hmem := List.mem_of_getElem? hi
   have hst := lnOf_step hi
   simp only [codex_Valid_L1, ltI_mb, leI_mb, eqI_mb, c_b, mb_is_true, Sp_iff, Sp_some, RQ_nx, RQ_rt, false_is_mb]
   rw [hm']
   have nv : ∀ q : Prop, (headP c a → q) → ¬ q → ¬ validP c := fun q h6 h7 h8 => h7 (h6 (h8.2.2.2 a hmem).1)
   have keep : (lnOf (c.arts.take i) a.number).isSome = true → (lnOf (c.arts.take i) a.number).getD 0 = a.line → ∀ z, (m.set a.number a.line).get z = lnOf (c.arts.take (i + 1)) z := fun h6 h7 z => by
     rw [Mm.get_set, hst z, hm z]
     by_cases hz : z = a.number
     · subst hz
       rw [if_pos rfl]
       cases hq : lnOf (c.arts.take i) a.number with
       | none => rw [hq] at h6; cases h6
       | some x => rw [hq] at h7; simp at h7; rw [h7]; rfl
     · rw [if_neg hz, if_neg (fun e => hz e.symm)]; simp
   have new : ¬ (lnOf (c.arts.take i) a.number).isSome = true → ∀ z, (m.set a.number a.line).get z = lnOf (c.arts.take (i + 1)) z := fun h6 z => by
     rw [Mm.get_set, hst z, hm z]
     by_cases hz : z = a.number
     · subst hz
       rw [if_pos rfl]
       cases hq : lnOf (c.arts.take i) a.number with
       | none => simp
       | some x => rw [hq] at h6; exact absurd rfl h6
     · rw [if_neg hz, if_neg (fun e => hz e.symm)]; simp
   have fin : ¬ a.number < 1 → ¬ 1000000 < a.number → ¬ a.line < 0 → ¬ ((c.lines.length : Nat) : Int) ≤ a.line → (∀ z, (m.set a.number a.line).get z = lnOf (c.arts.take (i + 1)) z) → (∀ z, (m.set a.number a.line).get z = lnOf (c.arts.take (i + 1)) z) ∧ ∀ (j : Nat) b, j < i + 1 → c.arts[j]? = some b → (1 ≤ b.number ∧ b.number ≤ 1000000) ∧ (0 ≤ b.line ∧ b.line < ((c.lines.length : Nat) : Int)) ∧ lnOf (c.arts.take (i + 1)) b.number = some b.line := fun q1 q2 q3 q4 hk => by
     refine ⟨hk, fun j b hji hb => ?_⟩
     rcases Nat.lt_or_ge j i with h9 | h9
     · obtain ⟨p1, p2, p3⟩ := hj j b h9 hb
       refine ⟨p1, p2, ?_⟩
       rw [hst, p3]; rfl
     · have : j = i := by omega
       subst this; rw [hi] at hb; cases hb
       refine ⟨by omega, by omega, ?_⟩
       rw [← hk, Mm.get_set, if_pos rfl]
   refine ⟨fun h => nv _ (fun h => h.1.1) (by omega), fun q1 => ⟨fun h => nv _ (fun h => h.1.2) (by omega), fun q2 => ⟨fun h => nv _ (fun h => h.2.1.1) (by omega), fun q3 => ⟨fun h => nv _ (fun h => h.2.1.2) (by omega), fun q4 => ⟨fun q5 => ⟨fun q6 => fin q1 q2 q3 q4 (keep q5 q6), fun q6 h => ?_⟩, fun q5 => fin q1 q2 q3 q4 (new q5)⟩⟩⟩⟩⟩
   have h8 := (h.2.2.2 a hmem).1.2.2
   cases hq : lnOf (c.arts.take i) a.number with
   | none => rw [hq] at q5; cases q5
   | some x =>
     rw [hq] at q6
     rw [lnOf_take hq] at h8
     cases h8
     exact q6 rfl
 · obtain ⟨hm, hj⟩ := hI
   rw [List.take_length] at hm hj
   have hH : ∀ a ∈ c.arts, headP c a := fun a h => by obtain ⟨i, hi⟩ := List.getElem?_of_mem h; exact hj i a (List.getElem?_eq_some_iff.1 hi).1 hi
   have hln : LnIn c := fun z l h => by obtain ⟨a, h1, _, h3⟩ := lnOf_some h; rw [← h3]; exact (hH a h1).2.1
   refine Sp_loop (fun i _ => ∀ (j : Nat) a, j < i → c.arts[j]? = some a → bodyP c a) ha (fun j a hj => by omega) (fun i a x hi hI => ?_) (fun x hI => ?_)
   · have hmem := List.mem_of_getElem? hi
     simp only [codex_Valid_L2, Sp_bind]
     refine (articleC_s c hd hln m hm x a (hao a hmem) (hH a hmem).2.1).mono fun r hr => ?_
     obtain ⟨r1, r2⟩ := r
     simp only at hr ⊢
     subst hr
     simp only [c_mb, Sp_iff, Sp_some, RQ_nx, RQ_rt, false_is_mb]
     refine ⟨fun h j b hji hb => ?_, fun h h2 => h (h2.2.2.2 a hmem).2⟩
     rcases Nat.lt_or_ge j i with h9 | h9
     · exact hI j b h9 hb
     · have : j = i := by omega
       subst this; rw [hi] at hb; cases hb; exact h
   · rw [Sp_some, true_is_mb]
     exact ⟨⟨h4, by omega⟩, ⟨h5, by omega⟩, by omega, fun a h => ⟨hH a h, by obtain ⟨i, hi⟩ := List.getElem?_of_mem h; exact hI i a (List.getElem?_eq_some_iff.1 hi).1 hi⟩⟩
end Mo
end Go.Proofs.YtnijkdknnmgoeaaGreat
namespace Go.Proofs.YtnijkdknnmgoeaaGreat
open AI
def strL (s : List UInt8) : AV := .sc (.string ⟨s.toArray⟩)
def lowN (n : Nat) : Bool := (match Nat.ble 97 n with | true => Nat.ble n 122 | false => false)
def uppN (n : Nat) : Bool := (match Nat.ble 65 n with | true => Nat.ble n 90 | false => false)
def digN (n : Nat) : Bool := (match Nat.ble 48 n with | true => Nat.ble n 57 | false => false)
def wordN (n : Nat) : Bool := (match lowN n with | true => true | false => (match uppN n with | true => true | false => (match digN n with | true => true | false => Nat.beq n 95)))
def whiteN (n : Nat) : Bool := (match Nat.beq n 32 with | true => true | false => (match Nat.beq n 9 with | true => true | false => (match Nat.beq n 10 with | true => true | false => Nat.beq n 13)))
def byteX (lo up di wo wh : Nat) (f n : Nat) (s : AS) : Option (CR × AS) :=
 match Nat.ble n 255 with
 | false => none
 | true => match Nat.beq f wo with
   | true => some (.ret (.sc (.bool (wordN n))), s)
   | false => match Nat.beq f lo with
     | true => some (.ret (.sc (.bool (lowN n))), s)
     | false => match Nat.beq f up with
       | true => some (.ret (.sc (.bool (uppN n))), s)
       | false => match Nat.beq f di with
         | true => some (.ret (.sc (.bool (digN n))), s)
         | false => match Nat.beq f wh with
           | true => some (.ret (.sc (.bool (whiteN n))), s)
           | false => none
def argX (lo up di wo wh : Nat) (f : Nat) (s : AS) : List AV → Option (CR × AS)
 | [.sc (.int .u8 (.ofNat n))] => byteX lo up di wo wh f n s
 | _ => none
namespace Hd
def H : Hook := fun _ _ => none
def X0 : ExtsF := fun _ _ _ => none
theorem given0 : Given Tryz.prog G (XP X0) H := ⟨mixed, (fun _ _ _ _ _ h => by cases h), (fun _ _ _ _ _ h => by cases h)⟩
def byteE (f : Nat) (p : Nat → Bool) (n : Nat) : Ent := ⟨f, [.sc (.int .u8 (.ofNat n))], none, .sc (.bool (p n))⟩
noncomputable def byteAll (m f : Nat) (p : Nat → Bool) (k : Nat) : Bool := Nat.rec (motive := fun _ => Bool) true (fun n ih => Bool.rec (motive := fun _ => Bool) false ih (runIs (byteE f p n) (goR Tryz.prog G X0 H m (startOf (byteE f p n))))) k
theorem byte_run {m f : Nat} {p : Nat → Bool} {k : Nat} (h : byteAll m f p k = true) : ∀ n, n < k → runIs (byteE f p n) (goR Tryz.prog G X0 H m (startOf (byteE f p n))) = true := by
 induction k with
 | zero => intro n hn; omega
 | succ k ih =>
   intro n hn
   have hk : Bool.rec (motive := fun _ => Bool) false (byteAll m f p k) (runIs (byteE f p k) (goR Tryz.prog G X0 H m (startOf (byteE f p k)))) = true := h
   cases hr : runIs (byteE f p k) (goR Tryz.prog G X0 H m (startOf (byteE f p k))) with
   | false => rw [hr] at hk; cases hk
   | true =>
     rw [hr] at hk
     by_cases e : n = k
     · subst e; exact hr
     · exact ih hk n (by omega)
theorem byte_ok {m f : Nat} {p : Nat → Bool} (h : byteAll m f p 256 = true) (n : Nat) (hn : n < 256) (s : AS) : Sound Tryz.prog G (.call f [.sc (.int .u8 (.ofNat n))] s (.ret (.sc (.bool (p n)))) s) :=
 ent_ok (e := byteE f p n) given0 plainG rfl (byte_run h n hn) s
theorem low_ok : byteAll 1000 141 lowN 256 = true := by kernel_rfl
theorem upp_ok : byteAll 1000 148 uppN 256 = true := by kernel_rfl
theorem dig_ok : byteAll 1000 143 digN 256 = true := by kernel_rfl
theorem word_ok : byteAll 1000 202 wordN 256 = true := by kernel_rfl
theorem white_ok : byteAll 1000 174 whiteN 256 = true := by kernel_rfl
def X (l : List Ent) : ExtsF := fun f args s => match argX 141 148 143 202 174 f s args with
 | some r => some r
 | none => find f args s l
theorem arg_ok {f : Nat} {args : List AV} {s s' : AS} {r : CR} (h : argX 141 148 143 202 174 f s args = some (r, s')) : Sound Tryz.prog G (.call f args s r s') := by
 unfold argX at h
 split at h
 · rename_i n
   unfold byteX at h
   split at h
   · cases h
   · rename_i hn
     have hn' : n < 256 := Nat.lt_succ_of_le (Nat.le_of_ble_eq_true hn)
     split at h
     · rename_i hf; cases h; rw [beq_true hf]; exact byte_ok word_ok n hn' _
     · split at h
       · rename_i hf; cases h; rw [beq_true hf]; exact byte_ok low_ok n hn' _
       · split at h
         · rename_i hf; cases h; rw [beq_true hf]; exact byte_ok upp_ok n hn' _
         · split at h
           · rename_i hf; cases h; rw [beq_true hf]; exact byte_ok dig_ok n hn' _
           · split at h
             · rename_i hf; cases h; rw [beq_true hf]; exact byte_ok white_ok n hn' _
             · cases h
 · cases h
theorem given {l : List Ent} (hl : ∀ e ∈ l, EntOk Tryz.prog G e) : Given Tryz.prog G (XP (X l)) H := by
 refine ⟨mixed, fun f args s r s' h => ?_, fun _ _ _ _ _ h => by cases h⟩
 have h' : X l f args s = some (r, s') := h
 unfold X at h'
 split at h'
 · rename_i q hq; cases h'; exact arg_ok hq
 · exact find_ok hl h'
theorem none : ∀ e ∈ ([] : List Ent), EntOk Tryz.prog G e := fun e he => by cases he
theorem entry {e : Ent} {l : List Ent} {m : Nat} (hl : ∀ e ∈ l, EntOk Tryz.prog G e) (hp : entPlain e = true) (h : runIs e (goR Tryz.prog G (X l) H m (startOf e)) = true) : EntOk Tryz.prog G e := ent_ok (given hl) plainG hp h
end Hd
end Go.Proofs.YtnijkdknnmgoeaaGreat
