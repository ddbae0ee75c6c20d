/- Part of a proof: see the last text. -/
import Derived.Test.YtnijkdknnmgoeaaGreatNul
set_option linter.unusedVariables false
set_option linter.unusedSimpArgs false
namespace Go.Proofs.YtnijkdknnmgoeaaGreat
open AI Go
namespace Mo
set_option maxRecDepth 100000
set_option maxHeartbeats 4000000
theorem codex_fitter_fits_U (f : Ft) (e : Ex) (depth : Int) (yR : Bool) (qf_nodesR : Int) (hS : Sound P G (.call 140 [.ptr 0 0, .agg (exC e), .sc (.int .i64 depth)] ⟨[(1, (mbii f.lines)), (0, .cells (ftT 1 f))], 2, [], 0⟩ (.ret (.sc (.bool yR))) ⟨[(1, (mbii f.lines)), (0, .cells [.sl .lost f.codex.facts.length (rows dcC f.codex.facts), .sl .lost f.codex.lines.length (rows dcC f.codex.lines), .sl .lost f.codex.arts.length (rows arC f.codex.arts), .mp 1, .sc (.int .i64 qf_nodesR)])], 2, [], 0⟩)) (u0 u1 : Nat) (hnb : [u0, u1].Nodup) (hnt : ([] : List Nat).Nodup) : Cd.ok P G (.callU 140 [.ptr u0 0, .agg (exC e), .sc (.int .i64 depth)] (.ret (.sc (.bool yR))) [(u0, .cells (ftT u1 f)), (u1, (mbii f.lines))] [] [(u0, .cells [.sl .lost f.codex.facts.length (rows dcC f.codex.facts), .sl .lost f.codex.lines.length (rows dcC f.codex.lines), .sl .lost f.codex.arts.length (rows arC f.codex.arts), .mp u1, .sc (.int .i64 qf_nodesR)]), (u1, (mbii f.lines))] []) :=
 frameU (M := [.cells (ftT 1 f), (mbii f.lines)]) (M2 := [.cells [.sl .lost f.codex.facts.length (rows dcC f.codex.facts), .sl .lost f.codex.lines.length (rows dcC f.codex.lines), .sl .lost f.codex.arts.length (rows arC f.codex.arts), .mp 1, .sc (.int .i64 qf_nodesR)], (mbii f.lines)]) (T := []) (T2 := []) (k := 2) (j := 0) Hd.plainG _ _ _ _ hS rfl rfl rfl rfl rfl hnb hnt rfl rfl (.cons (.cells (ftT_rn f (by decide))) (.cons (mB_rn (fun _ => rfl)) .nil)) (.cons (.cells (.cons (.pl (layDc.plS f.codex.facts)) (.cons (.pl (layDc.plS f.codex.lines)) (.cons (.pl (layAr.plS f.codex.arts)) (.cons (.mp (by decide)) (.cons (.pl rfl) .nil)))))) (.cons (mB_rn (fun _ => rfl)) .nil)) (.cons (.ptr (by decide)) (.cons (.pl (layEx.plG e)) (.cons (.pl rfl) .nil))) (.pl rfl) (by
   intro e he
   simp only [List.mem_cons, List.not_mem_nil, or_false] at he
   rcases he with rfl | rfl
   · exact (.arg (.here .ptr))
   · exact (.box (p := 0) (.arg (.here .ptr)) rfl (.there (.there (.there (.here .mp)))))
   )
noncomputable def B140 : Code := bodyOf Tryz.f140
theorem b140 : Tryz.f140.body = some B140 := by kernel_rfl
noncomputable def codex_fitter_fits_L1 (r_codex_fitter_fits : Ft → Ex → Int → Option (Bool × Int)) (f : Ft) (depth : Int) (i0 : Nat) (e0 : Ex) (w0_4 : Int) : Option (Lp Int Int (Bool × Int)) := (r_codex_fitter_fits (⟨f.codex, f.lines, w0_4⟩ : Ft) e0 (wadd depth 1)).bind fun (y2a, y2b) => cond y2a (some (.nx y2b)) (some (.rt (false, y2b)))
noncomputable def codex_fitter_fits_B (r_codex_fitter_fits : Ft → Ex → Int → Option (Bool × Int)) (f : Ft) (e : Ex) (depth : Int) : Option (Bool × Int) := cond (ltI 400 (wadd f.nodes 1)) (some (false, (wadd f.nodes 1))) (cond (ltI 40 depth) (some (false, (wadd f.nodes 1))) ((codex_isUnit_B e.unit).bind fun y1 => cond y1 ((lim e.kids.length (foldL (fun i y x => codex_fitter_fits_L1 r_codex_fitter_fits f depth i y x) (fun x => x) (e.kids.drop 0) 0 (wadd f.nodes 1))).bind (lpK (fun (w0_4_3 : Int) => cond (eqI e.op 18) (cond (eqI e.n 0) (cond (eqI ((e.kids.length : Nat) : Int) 1) ((codex_isCur_B e.unit).bind fun y4 => cond y4 ((e.kids[0]?).bind fun x5 => cond (eqB e.unit.data.toList x5.unit.data.toList) ((piecewise_Valid_B e.tab).bind fun y6 => some (y6, w0_4_3)) (some (false, w0_4_3))) (some (false, w0_4_3))) (some (false, w0_4_3))) (some (false, w0_4_3))) (cond (eqI e.tab.den 0) (cond (ltI 0 ((e.tab.ps.length : Nat) : Int)) (some (false, w0_4_3)) (cond (leI 1 e.op) (cond (leI e.op 4) (cond (eqI ((e.kids.length : Nat) : Int) 0) ((codex_fitter_leaf_B (⟨f.codex, f.lines, w0_4_3⟩ : Ft) e).bind fun y7 => some (y7, w0_4_3)) (some (false, w0_4_3))) (cond (eqI e.n 0) (cond (ltI 0 ((e.kids.length : Nat) : Int)) ((codex_operation_B e).bind fun y8 => some (y8, w0_4_3)) (some (false, w0_4_3))) (some (false, w0_4_3)))) (cond (eqI e.n 0) (cond (ltI 0 ((e.kids.length : Nat) : Int)) ((codex_operation_B e).bind fun y9 => some (y9, w0_4_3)) (some (false, w0_4_3))) (some (false, w0_4_3))))) (some (false, w0_4_3)))) (fun v => some v))) (some (false, (wadd f.nodes 1)))))
theorem codex_fitter_fits_step (r_codex_fitter_fits : Ft → Ex → Int → Option (Bool × Int)) (hr_codex_fitter_fits : ∀ (f : Ft) (e : Ex) (depth : Int) (yR : Bool) (qf_nodesR : Int), r_codex_fitter_fits f e depth = some (yR, qf_nodesR) → Sound P G (.call 140 [.ptr 0 0, .agg (exC e), .sc (.int .i64 depth)] ⟨[(1, (mbii f.lines)), (0, .cells (ftT 1 f))], 2, [], 0⟩ (.ret (.sc (.bool yR))) ⟨[(1, (mbii f.lines)), (0, .cells [.sl .lost f.codex.facts.length (rows dcC f.codex.facts), .sl .lost f.codex.lines.length (rows dcC f.codex.lines), .sl .lost f.codex.arts.length (rows arC f.codex.arts), .mp 1, .sc (.int .i64 qf_nodesR)])], 2, [], 0⟩)) (f : Ft) (e : Ex) (depth : Int) (yR : Bool) (qf_nodesR : Int) (h : codex_fitter_fits_B r_codex_fitter_fits f e depth = some (yR, qf_nodesR)) : Sound P G (.call 140 [.ptr 0 0, .agg (exC e), .sc (.int .i64 depth)] ⟨[(1, (mbii f.lines)), (0, .cells (ftT 1 f))], 2, [], 0⟩ (.ret (.sc (.bool yR))) ⟨[(1, (mbii f.lines)), (0, .cells [.sl .lost f.codex.facts.length (rows dcC f.codex.facts), .sl .lost f.codex.lines.length (rows dcC f.codex.lines), .sl .lost f.codex.arts.length (rows arC f.codex.arts), .mp 1, .sc (.int .i64 qf_nodesR)])], 2, [], 0⟩) := by
 unfold codex_fitter_fits_B at h
 refine soundM Hd.mixed (WC_body Tryz.func140 b140 ?_)
 revert h
 refine cndI (fun hb1 => ?_) fun hb1 => ?_
 intro h
 have hE := Option.some.inj h
 obtain ⟨hE0, hF0⟩ := Prod.mk.inj hE
 subst hE0 hF0
 exact go_retM Hd.plainG _ _ [0] [] [⟨(mbii f.lines), (mbii f.lines), (mB_fits (fun _ => rfl))⟩, fbu [.sl .lost f.codex.facts.length (rows dcC f.codex.facts), .sl .lost f.codex.lines.length (rows dcC f.codex.lines), .sl .lost f.codex.arts.length (rows arC f.codex.arts), .mp 1, .sc (.int .i64 (wadd f.nodes 1))] (unC (under_plain _ _ (layDc.plS f.codex.facts)) (unC (under_plain _ _ (layDc.plS f.codex.lines)) (unC (under_plain _ _ (layAr.plS f.codex.arts)) (unC rfl (unC rfl rfl)))))] _ _ (runS 300 [pk, pb hb1]) (by kernel_rfl) .body
 refine cndI (fun hb2 => ?_) fun hb2 => ?_
 intro h
 have hE := Option.some.inj h
 obtain ⟨hE0, hF0⟩ := Prod.mk.inj hE
 subst hE0 hF0
 exact go_retM Hd.plainG _ _ [0] [] [⟨(mbii f.lines), (mbii f.lines), (mB_fits (fun _ => rfl))⟩, fbu [.sl .lost f.codex.facts.length (rows dcC f.codex.facts), .sl .lost f.codex.lines.length (rows dcC f.codex.lines), .sl .lost f.codex.arts.length (rows arC f.codex.arts), .mp 1, .sc (.int .i64 (wadd f.nodes 1))] (unC (under_plain _ _ (layDc.plS f.codex.facts)) (unC (under_plain _ _ (layDc.plS f.codex.lines)) (unC (under_plain _ _ (layAr.plS f.codex.arts)) (unC rfl (unC rfl rfl)))))] _ _ (runS 300 [pk, pb hb1, pb hb2]) (by kernel_rfl) .body
 refine bndI fun y1 hy1 => ?_
 refine cndI (fun hv => ?_) fun hv => ?_
 subst hv
 refine bndI fun res hres h => ?_
 have hlen := (limE hres).1
 replace hres := (limE hres).2
 refine go_at [] [0, 1, 2, 4, 6, 20, 21, 23, 24, 25, 28, 29, 30, 32, 33, 34, 35, 37, 39, 42, 43, 47, 50, 51, 55, 56, 57, 60, 61, 62, 70, 71, 72, 74, 75, 76, 80, 81, 86, 87, 90, 91, 94, 95, 99, 100, 102, 103, 104, 107, 108, 112, 113, 114, 115, 116, 117] 0 (sub B140 [1, 1, 1, 0, 1, 0, 0]) [.code (sub B140 [1, 1, 1, 1])] _ _ (runS 300 [pk, pb hb1, pb hb2, pcall (codex_isUnit_step e.unit true hy1)]) (by kernel_rfl) (foldM (fn := Tryz.f140) (m := 2) (s00 := ⟨[(1, (mbii f.lines)), (0, .cells (ftT 1 f))], 2, [], 0⟩) (fun v => .sc (.bool v.1)) (fun v => ⟨[(1, (mbii f.lines)), (0, .cells [.sl .lost f.codex.facts.length (rows dcC f.codex.facts), .sl .lost f.codex.lines.length (rows dcC f.codex.lines), .sl .lost f.codex.arts.length (rows arC f.codex.arts), .mp 1, .sc (.int .i64 v.2)])], 2, [], 0⟩) 0 e.kids (fun i0 (w0_4 : Int) (j0 : JJ) => frm 118 0 [(0, .ptr 0 0), (2, .sc (.int .i64 depth)), (4, .ptr 2 0), (32, .sl .lost e.kids.length (exsC e.kids)), (33, .sc (.int .i64 ((e.kids.length : Nat) : Int))), (34, .sc (.int .i64 ((i0 : Nat) : Int)))] [6, 20, 21, 23, 24, 25, 28, 29, 30, 35, 42, 43, 47, 50, 51, 55, 56, 57, 60, 61, 62, 70, 71, 72, 75, 76, 80, 81, 86, 87, 90, 91, 94, 95, 99, 100, 103, 104, 107, 108, 112, 113, 114, 116, 117] 0 [1, 37, 39, 74, 102, 115] 0 j0) (fun (_ : Nat) (w0_4 : Int) (_ : JJ) => ⟨[(2, .cells (exC e)), (1, (mbii f.lines)), (0, .cells [.sl .lost f.codex.facts.length (rows dcC f.codex.facts), .sl .lost f.codex.lines.length (rows dcC f.codex.lines), .sl .lost f.codex.arts.length (rows arC f.codex.arts), .mp 1, .sc (.int .i64 w0_4)])], 3, [], 0⟩) (fun (j : JJ) => plainL j.2 = true) (fun (w0_4 : Int) (jx : JJ) => frm 118 0 [(0, .ptr 0 0), (4, .ptr 2 0)] [6, 20, 21, 23, 24, 25, 28, 29, 30, 35, 42, 43, 47, 50, 51, 55, 56, 57, 60, 61, 62, 70, 71, 72, 75, 76, 80, 81, 86, 87, 90, 91, 94, 95, 99, 100, 103, 104, 107, 108, 112, 113, 114, 116, 117] 0 [1, 37, 39, 74, 102, 115] 0 jx) (fun (w0_4 : Int) (_ : JJ) => ⟨[(2, .cells (exC e)), (1, (mbii f.lines)), (0, .cells [.sl .lost f.codex.facts.length (rows dcC f.codex.facts), .sl .lost f.codex.lines.length (rows dcC f.codex.lines), .sl .lost f.codex.arts.length (rows arC f.codex.arts), .mp 1, .sc (.int .i64 w0_4)])], 3, [], 0⟩) (fun (j : JJ) => plainL j.2 = true) ?_ ?_ 0 hres ?_ ?_ ([.bool false, .bool false, .bool false, .bool false, .bool false, .bool false, .bool true, .bool false, .bool false], [.agg (exC e), .sc undef, .sc undef, .sc undef, .sc undef, .sc undef]) (plC (layEx.plG e) (plC rfl (plC rfl (plC rfl (plC rfl (plC rfl rfl)))))))
 rintro i0 w0_4 j0 hj0 hge hq
 clear h hres
 refine WL_rnd ?_
 exact go_ex Hd.plainG [0, 3, 8, 12, 40, 42, 46, 48, 50, 56, 58, 60, 70, 75, 79, 84, 86, 94, 100, 102, 110, 112, 114, 120, 122, 124, 140, 142, 144, 149, 150, 152, 160, 162, 172, 174, 180, 182, 188, 190, 198, 200, 205, 206, 208, 214, 216, 224, 226, 228, 231, 232, 234] [fq (gn_pl hj0 0), fq (gn_pl hj0 1), fq (gn_pl hj0 2), fq (gn_pl hj0 3), fq (gn_pl hj0 4), fq (gn_pl hj0 5)] [fbp (exC e) (layEx.pl e), ⟨(mbii f.lines), (mbii f.lines), (mB_fits (fun _ => rfl))⟩, fbu [.sl .lost f.codex.facts.length (rows dcC f.codex.facts), .sl .lost f.codex.lines.length (rows dcC f.codex.lines), .sl .lost f.codex.arts.length (rows arC f.codex.arts), .mp 1, .sc (.int .i64 w0_4)] (unC (under_plain _ _ (layDc.plS f.codex.facts)) (unC (under_plain _ _ (layDc.plS f.codex.lines)) (unC (under_plain _ _ (layAr.plS f.codex.arts)) (unC rfl (unC rfl rfl)))))] 0 _ _ (runS 300 [pb (B := ltI ((i0 : Nat) : Int) ((e.kids.length : Nat) : Int)) (b := false) (ltF hge)]) (by kernel_rfl) (hq ([(jn j0 0), (jn j0 1), (jn j0 2), (jn j0 3), (jn j0 4), (jn j0 5), (jn j0 6), (jn j0 7), (jn j0 8), .bool false, (jn j0 10), (jn j0 11), (jn j0 12), (jn j0 13), (jn j0 14), (jn j0 15), (jn j0 16), (jn j0 17), (jn j0 18), (jn j0 19), (jn j0 20), (jn j0 21), (jn j0 22), (jn j0 23), (jn j0 24), (jn j0 25), (jn j0 26), (jn j0 27), (jn j0 28), (jn j0 29), (jn j0 30), (jn j0 31), (jn j0 32), (jn j0 33), (jn j0 34), (jn j0 35), (jn j0 36), (jn j0 37), (jn j0 38), (jn j0 39), (jn j0 40), (jn j0 41), (jn j0 42), (jn j0 43), (jn j0 44)], [(gn j0 0), (gn j0 1), (gn j0 2), (gn j0 3), (gn j0 4), (gn j0 5)]) (plC (gn_pl hj0 0) (plC (gn_pl hj0 1) (plC (gn_pl hj0 2) (plC (gn_pl hj0 3) (plC (gn_pl hj0 4) (plC (gn_pl hj0 5) rfl)))))))
 clear h hres
 rintro i0 e0 w0_4 j0 r hj0 he0 hi0 h k
 refine WL_rnd ?_
 revert h
 show codex_fitter_fits_L1 r_codex_fitter_fits f depth i0 e0 w0_4 = some r → _
 unfold codex_fitter_fits_L1
 refine bndI ?_
 rintro ⟨y2a, y2b⟩ hy2
 dsimp only
 let o1 : List (PC P G) := [pb (B := ltI ((i0 : Nat) : Int) ((e.kids.length : Nat) : Int)) (b := true) (ltT hi0), pix (ix58 .lost he0), pk]
 refine cndI (fun hv => ?_) fun hv => ?_
 subst hv
 rintro ⟨⟩
 exact go_nx Hd.plainG [0, 3, 4, 8, 12, 40, 42, 46, 48, 50, 56, 58, 60, 65, 66, 68, 70, 75, 79, 84, 86, 94, 100, 102, 110, 112, 114, 120, 122, 124, 140, 142, 144, 149, 150, 152, 160, 162, 172, 174, 180, 182, 188, 190, 198, 200, 205, 206, 208, 214, 216, 224, 226, 228, 231, 232, 234] [fq (gn_pl hj0 0), fq (layEx.plS e.kids), fq (layEx.plG e0), fq (layEx.plG e0), fq (gn_pl hj0 3), fq (gn_pl hj0 4), fq (gn_pl hj0 5)] [fbp (exC e) (layEx.pl e), ⟨(mbii f.lines), (mbii f.lines), (mB_fits (fun _ => rfl))⟩, fbu [.sl .lost f.codex.facts.length (rows dcC f.codex.facts), .sl .lost f.codex.lines.length (rows dcC f.codex.lines), .sl .lost f.codex.arts.length (rows arC f.codex.arts), .mp 1, .sc (.int .i64 y2b)] (unC (under_plain _ _ (layDc.plS f.codex.facts)) (unC (under_plain _ _ (layDc.plS f.codex.lines)) (unC (under_plain _ _ (layAr.plS f.codex.arts)) (unC rfl (unC rfl rfl)))))] _ _ (runS 300 (o1 ++ [pcallU (codex_fitter_fits_U (⟨f.codex, f.lines, w0_4⟩ : Ft) e0 (wadd depth 1) true y2b (hr_codex_fitter_fits (⟨f.codex, f.lines, w0_4⟩ : Ft) e0 (wadd depth 1) true y2b hy2) 0 1 (by decide) (by decide)), pinc i0 (by omega)])) (by kernel_rfl) (k ([(jn j0 0), (jn j0 1), (jn j0 2), (jn j0 3), (jn j0 4), (jn j0 5), (jn j0 6), (jn j0 7), (jn j0 8), .bool true, .bool true, .bool false, (jn j0 12), (jn j0 13), (jn j0 14), (jn j0 15), (jn j0 16), (jn j0 17), (jn j0 18), (jn j0 19), (jn j0 20), (jn j0 21), (jn j0 22), (jn j0 23), (jn j0 24), (jn j0 25), (jn j0 26), (jn j0 27), (jn j0 28), (jn j0 29), (jn j0 30), (jn j0 31), (jn j0 32), (jn j0 33), (jn j0 34), (jn j0 35), (jn j0 36), (jn j0 37), (jn j0 38), (jn j0 39), (jn j0 40), (jn j0 41), (jn j0 42), (jn j0 43), (jn j0 44)], [(gn j0 0), .agg (exC e0), .agg (exC e0), (gn j0 3), (gn j0 4), (gn j0 5)]) (plC (gn_pl hj0 0) (plC (layEx.plG e0) (plC (layEx.plG e0) (plC (gn_pl hj0 3) (plC (gn_pl hj0 4) (plC (gn_pl hj0 5) rfl)))))))
 subst hv
 rintro ⟨⟩
 exact go_retM Hd.plainG _ _ [0] [] [⟨(mbii f.lines), (mbii f.lines), (mB_fits (fun _ => rfl))⟩, fbu [.sl .lost f.codex.facts.length (rows dcC f.codex.facts), .sl .lost f.codex.lines.length (rows dcC f.codex.lines), .sl .lost f.codex.arts.length (rows arC f.codex.arts), .mp 1, .sc (.int .i64 y2b)] (unC (under_plain _ _ (layDc.plS f.codex.facts)) (unC (under_plain _ _ (layDc.plS f.codex.lines)) (unC (under_plain _ _ (layAr.plS f.codex.arts)) (unC rfl (unC rfl rfl)))))] _ _ (runS 300 (o1 ++ [pcallU (codex_fitter_fits_U (⟨f.codex, f.lines, w0_4⟩ : Ft) e0 (wadd depth 1) false y2b (hr_codex_fitter_fits (⟨f.codex, f.lines, w0_4⟩ : Ft) e0 (wadd depth 1) false y2b hy2) 0 1 (by decide) (by decide))])) (by kernel_rfl) (.rnd k)
 rintro w0_4_3 rfl jx_3 hjx_3
 revert h
 clear hres
 dsimp only [lpK]
 refine cndI (fun hb3 => ?_) fun hb3 => ?_
 refine cndI (fun hb4 => ?_) fun hb4 => ?_
 refine cndI (fun hb5 => ?_) fun hb5 => ?_
 refine bndI fun y4 hy4 => ?_
 refine cndI (fun hv => ?_) fun hv => ?_
 subst hv
 refine bndI fun x5 hx5 => ?_
 let o2 : List (PC P G) := [pb hb3, pb hb4, pb hb5, pcall (codex_isCur_step e.unit true hy4), pix (ix58 .lost hx5)]
 refine cndI (fun hb6 => ?_) fun hb6 => ?_
 refine bndI fun y6 hy6 => ?_
 intro h
 have hE := Option.some.inj h
 obtain ⟨hE0, hF0⟩ := Prod.mk.inj hE
 subst hE0 hF0
 exact go_retM Hd.plainG _ _ [0] [] [⟨(mbii f.lines), (mbii f.lines), (mB_fits (fun _ => rfl))⟩, fbu [.sl .lost f.codex.facts.length (rows dcC f.codex.facts), .sl .lost f.codex.lines.length (rows dcC f.codex.lines), .sl .lost f.codex.arts.length (rows arC f.codex.arts), .mp 1, .sc (.int .i64 w0_4_3)] (unC (under_plain _ _ (layDc.plS f.codex.facts)) (unC (under_plain _ _ (layDc.plS f.codex.lines)) (unC (under_plain _ _ (layAr.plS f.codex.arts)) (unC rfl (unC rfl rfl)))))] _ _ (runX 300 (o2 ++ [pb hb6, pcall (piecewise_Valid_step e.tab y6 hy6)])) (by kernel_rfl) .body
 intro h
 have hE := Option.some.inj h
 obtain ⟨hE0, hF0⟩ := Prod.mk.inj hE
 subst hE0 hF0
 exact go_retM Hd.plainG _ _ [0] [] [⟨(mbii f.lines), (mbii f.lines), (mB_fits (fun _ => rfl))⟩, fbu [.sl .lost f.codex.facts.length (rows dcC f.codex.facts), .sl .lost f.codex.lines.length (rows dcC f.codex.lines), .sl .lost f.codex.arts.length (rows arC f.codex.arts), .mp 1, .sc (.int .i64 w0_4_3)] (unC (under_plain _ _ (layDc.plS f.codex.facts)) (unC (under_plain _ _ (layDc.plS f.codex.lines)) (unC (under_plain _ _ (layAr.plS f.codex.arts)) (unC rfl (unC rfl rfl)))))] _ _ (runX 300 (o2 ++ [pb hb6])) (by kernel_rfl) .body
 subst hv
 intro h
 have hE := Option.some.inj h
 obtain ⟨hE0, hF0⟩ := Prod.mk.inj hE
 subst hE0 hF0
 exact go_retM Hd.plainG _ _ [0] [] [⟨(mbii f.lines), (mbii f.lines), (mB_fits (fun _ => rfl))⟩, fbu [.sl .lost f.codex.facts.length (rows dcC f.codex.facts), .sl .lost f.codex.lines.length (rows dcC f.codex.lines), .sl .lost f.codex.arts.length (rows arC f.codex.arts), .mp 1, .sc (.int .i64 w0_4_3)] (unC (under_plain _ _ (layDc.plS f.codex.facts)) (unC (under_plain _ _ (layDc.plS f.codex.lines)) (unC (under_plain _ _ (layAr.plS f.codex.arts)) (unC rfl (unC rfl rfl)))))] _ _ (runX 300 [pb hb3, pb hb4, pb hb5, pcall (codex_isCur_step e.unit false hy4)]) (by kernel_rfl) .body
 intro h
 have hE := Option.some.inj h
 obtain ⟨hE0, hF0⟩ := Prod.mk.inj hE
 subst hE0 hF0
 exact go_retM Hd.plainG _ _ [0] [] [⟨(mbii f.lines), (mbii f.lines), (mB_fits (fun _ => rfl))⟩, fbu [.sl .lost f.codex.facts.length (rows dcC f.codex.facts), .sl .lost f.codex.lines.length (rows dcC f.codex.lines), .sl .lost f.codex.arts.length (rows arC f.codex.arts), .mp 1, .sc (.int .i64 w0_4_3)] (unC (under_plain _ _ (layDc.plS f.codex.facts)) (unC (under_plain _ _ (layDc.plS f.codex.lines)) (unC (under_plain _ _ (layAr.plS f.codex.arts)) (unC rfl (unC rfl rfl)))))] _ _ (runX 300 [pb hb3, pb hb4, pb hb5]) (by kernel_rfl) .body
 intro h
 have hE := Option.some.inj h
 obtain ⟨hE0, hF0⟩ := Prod.mk.inj hE
 subst hE0 hF0
 exact go_retM Hd.plainG _ _ [0] [] [⟨(mbii f.lines), (mbii f.lines), (mB_fits (fun _ => rfl))⟩, fbu [.sl .lost f.codex.facts.length (rows dcC f.codex.facts), .sl .lost f.codex.lines.length (rows dcC f.codex.lines), .sl .lost f.codex.arts.length (rows arC f.codex.arts), .mp 1, .sc (.int .i64 w0_4_3)] (unC (under_plain _ _ (layDc.plS f.codex.facts)) (unC (under_plain _ _ (layDc.plS f.codex.lines)) (unC (under_plain _ _ (layAr.plS f.codex.arts)) (unC rfl (unC rfl rfl)))))] _ _ (runX 300 [pb hb3, pb hb4]) (by kernel_rfl) .body
 refine cndI (fun hb7 => ?_) fun hb7 => ?_
 let o3 : List (PC P G) := [pb hb3, pn hb7]
 refine cndI (fun hb8 => ?_) fun hb8 => ?_
 intro h
 have hE := Option.some.inj h
 obtain ⟨hE0, hF0⟩ := Prod.mk.inj hE
 subst hE0 hF0
 exact go_retM Hd.plainG _ _ [0] [] [⟨(mbii f.lines), (mbii f.lines), (mB_fits (fun _ => rfl))⟩, fbu [.sl .lost f.codex.facts.length (rows dcC f.codex.facts), .sl .lost f.codex.lines.length (rows dcC f.codex.lines), .sl .lost f.codex.arts.length (rows arC f.codex.arts), .mp 1, .sc (.int .i64 w0_4_3)] (unC (under_plain _ _ (layDc.plS f.codex.facts)) (unC (under_plain _ _ (layDc.plS f.codex.lines)) (unC (under_plain _ _ (layAr.plS f.codex.arts)) (unC rfl (unC rfl rfl)))))] _ _ (runX 300 (o3 ++ [pb hb8])) (by kernel_rfl) .body
 refine cndI (fun hb9 => ?_) fun hb9 => ?_
 refine cndI (fun hb10 => ?_) fun hb10 => ?_
 refine cndI (fun hb11 => ?_) fun hb11 => ?_
 refine bndI fun y7 hy7 => ?_
 intro h
 have hE := Option.some.inj h
 obtain ⟨hE0, hF0⟩ := Prod.mk.inj hE
 subst hE0 hF0
 exact go_retM Hd.plainG _ _ [0] [] [⟨(mbii f.lines), (mbii f.lines), (mB_fits (fun _ => rfl))⟩, fbu [.sl .lost f.codex.facts.length (rows dcC f.codex.facts), .sl .lost f.codex.lines.length (rows dcC f.codex.lines), .sl .lost f.codex.arts.length (rows arC f.codex.arts), .mp 1, .sc (.int .i64 w0_4_3)] (unC (under_plain _ _ (layDc.plS f.codex.facts)) (unC (under_plain _ _ (layDc.plS f.codex.lines)) (unC (under_plain _ _ (layAr.plS f.codex.arts)) (unC rfl (unC rfl rfl)))))] _ _ (runX 300 (o3 ++ [pb hb8, pb hb9, pb hb10, pb hb11, pcallU (codex_fitter_leaf_U (⟨f.codex, f.lines, w0_4_3⟩ : Ft) e y7 (codex_fitter_leaf_step (⟨f.codex, f.lines, w0_4_3⟩ : Ft) e y7 hy7) 0 1 (by decide) (by decide))])) (by kernel_rfl) .body
 intro h
 have hE := Option.some.inj h
 obtain ⟨hE0, hF0⟩ := Prod.mk.inj hE
 subst hE0 hF0
 exact go_retM Hd.plainG _ _ [0] [] [⟨(mbii f.lines), (mbii f.lines), (mB_fits (fun _ => rfl))⟩, fbu [.sl .lost f.codex.facts.length (rows dcC f.codex.facts), .sl .lost f.codex.lines.length (rows dcC f.codex.lines), .sl .lost f.codex.arts.length (rows arC f.codex.arts), .mp 1, .sc (.int .i64 w0_4_3)] (unC (under_plain _ _ (layDc.plS f.codex.facts)) (unC (under_plain _ _ (layDc.plS f.codex.lines)) (unC (under_plain _ _ (layAr.plS f.codex.arts)) (unC rfl (unC rfl rfl)))))] _ _ (runX 300 (o3 ++ [pb hb8, pb hb9, pb hb10, pb hb11])) (by kernel_rfl) .body
 refine cndI (fun hb12 => ?_) fun hb12 => ?_
 refine cndI (fun hb13 => ?_) fun hb13 => ?_
 refine bndI fun y8 hy8 => ?_
 intro h
 have hE := Option.some.inj h
 obtain ⟨hE0, hF0⟩ := Prod.mk.inj hE
 subst hE0 hF0
 exact go_retM Hd.plainG _ _ [0] [] [⟨(mbii f.lines), (mbii f.lines), (mB_fits (fun _ => rfl))⟩, fbu [.sl .lost f.codex.facts.length (rows dcC f.codex.facts), .sl .lost f.codex.lines.length (rows dcC f.codex.lines), .sl .lost f.codex.arts.length (rows arC f.codex.arts), .mp 1, .sc (.int .i64 w0_4_3)] (unC (under_plain _ _ (layDc.plS f.codex.facts)) (unC (under_plain _ _ (layDc.plS f.codex.lines)) (unC (under_plain _ _ (layAr.plS f.codex.arts)) (unC rfl (unC rfl rfl)))))] _ _ (runX 300 (o3 ++ [pb hb8, pb hb9, pb hb10, pb hb12, pb hb13, pcall (codex_operation_step e y8 hy8)])) (by kernel_rfl) .body
 intro h
 have hE := Option.some.inj h
 obtain ⟨hE0, hF0⟩ := Prod.mk.inj hE
 subst hE0 hF0
 exact go_retM Hd.plainG _ _ [0] [] [⟨(mbii f.lines), (mbii f.lines), (mB_fits (fun _ => rfl))⟩, fbu [.sl .lost f.codex.facts.length (rows dcC f.codex.facts), .sl .lost f.codex.lines.length (rows dcC f.codex.lines), .sl .lost f.codex.arts.length (rows arC f.codex.arts), .mp 1, .sc (.int .i64 w0_4_3)] (unC (under_plain _ _ (layDc.plS f.codex.facts)) (unC (under_plain _ _ (layDc.plS f.codex.lines)) (unC (under_plain _ _ (layAr.plS f.codex.arts)) (unC rfl (unC rfl rfl)))))] _ _ (runX 300 (o3 ++ [pb hb8, pb hb9, pb hb10, pb hb12, pb hb13])) (by kernel_rfl) .body
 intro h
 have hE := Option.some.inj h
 obtain ⟨hE0, hF0⟩ := Prod.mk.inj hE
 subst hE0 hF0
 exact go_retM Hd.plainG _ _ [0] [] [⟨(mbii f.lines), (mbii f.lines), (mB_fits (fun _ => rfl))⟩, fbu [.sl .lost f.codex.facts.length (rows dcC f.codex.facts), .sl .lost f.codex.lines.length (rows dcC f.codex.lines), .sl .lost f.codex.arts.length (rows arC f.codex.arts), .mp 1, .sc (.int .i64 w0_4_3)] (unC (under_plain _ _ (layDc.plS f.codex.facts)) (unC (under_plain _ _ (layDc.plS f.codex.lines)) (unC (under_plain _ _ (layAr.plS f.codex.arts)) (unC rfl (unC rfl rfl)))))] _ _ (runX 300 (o3 ++ [pb hb8, pb hb9, pb hb10, pb hb12])) (by kernel_rfl) .body
 refine cndI (fun hb14 => ?_) fun hb14 => ?_
 refine cndI (fun hb15 => ?_) fun hb15 => ?_
 refine bndI fun y9 hy9 => ?_
 intro h
 have hE := Option.some.inj h
 obtain ⟨hE0, hF0⟩ := Prod.mk.inj hE
 subst hE0 hF0
 exact go_retM Hd.plainG _ _ [0] [] [⟨(mbii f.lines), (mbii f.lines), (mB_fits (fun _ => rfl))⟩, fbu [.sl .lost f.codex.facts.length (rows dcC f.codex.facts), .sl .lost f.codex.lines.length (rows dcC f.codex.lines), .sl .lost f.codex.arts.length (rows arC f.codex.arts), .mp 1, .sc (.int .i64 w0_4_3)] (unC (under_plain _ _ (layDc.plS f.codex.facts)) (unC (under_plain _ _ (layDc.plS f.codex.lines)) (unC (under_plain _ _ (layAr.plS f.codex.arts)) (unC rfl (unC rfl rfl)))))] _ _ (runX 300 (o3 ++ [pb hb8, pb hb9, pb hb14, pb hb15, pcall (codex_operation_step e y9 hy9)])) (by kernel_rfl) .body
 intro h
 have hE := Option.some.inj h
 obtain ⟨hE0, hF0⟩ := Prod.mk.inj hE
 subst hE0 hF0
 exact go_retM Hd.plainG _ _ [0] [] [⟨(mbii f.lines), (mbii f.lines), (mB_fits (fun _ => rfl))⟩, fbu [.sl .lost f.codex.facts.length (rows dcC f.codex.facts), .sl .lost f.codex.lines.length (rows dcC f.codex.lines), .sl .lost f.codex.arts.length (rows arC f.codex.arts), .mp 1, .sc (.int .i64 w0_4_3)] (unC (under_plain _ _ (layDc.plS f.codex.facts)) (unC (under_plain _ _ (layDc.plS f.codex.lines)) (unC (under_plain _ _ (layAr.plS f.codex.arts)) (unC rfl (unC rfl rfl)))))] _ _ (runX 300 (o3 ++ [pb hb8, pb hb9, pb hb14, pb hb15])) (by kernel_rfl) .body
 intro h
 have hE := Option.some.inj h
 obtain ⟨hE0, hF0⟩ := Prod.mk.inj hE
 subst hE0 hF0
 exact go_retM Hd.plainG _ _ [0] [] [⟨(mbii f.lines), (mbii f.lines), (mB_fits (fun _ => rfl))⟩, fbu [.sl .lost f.codex.facts.length (rows dcC f.codex.facts), .sl .lost f.codex.lines.length (rows dcC f.codex.lines), .sl .lost f.codex.arts.length (rows arC f.codex.arts), .mp 1, .sc (.int .i64 w0_4_3)] (unC (under_plain _ _ (layDc.plS f.codex.facts)) (unC (under_plain _ _ (layDc.plS f.codex.lines)) (unC (under_plain _ _ (layAr.plS f.codex.arts)) (unC rfl (unC rfl rfl)))))] _ _ (runX 300 (o3 ++ [pb hb8, pb hb9, pb hb14])) (by kernel_rfl) .body
 intro h
 have hE := Option.some.inj h
 obtain ⟨hE0, hF0⟩ := Prod.mk.inj hE
 subst hE0 hF0
 exact go_retM Hd.plainG _ _ [0] [] [⟨(mbii f.lines), (mbii f.lines), (mB_fits (fun _ => rfl))⟩, fbu [.sl .lost f.codex.facts.length (rows dcC f.codex.facts), .sl .lost f.codex.lines.length (rows dcC f.codex.lines), .sl .lost f.codex.arts.length (rows arC f.codex.arts), .mp 1, .sc (.int .i64 w0_4_3)] (unC (under_plain _ _ (layDc.plS f.codex.facts)) (unC (under_plain _ _ (layDc.plS f.codex.lines)) (unC (under_plain _ _ (layAr.plS f.codex.arts)) (unC rfl (unC rfl rfl)))))] _ _ (runX 300 [pb hb3, pn hb7]) (by kernel_rfl) .body
 rintro v rfl
 dsimp only [lpK] at h
 cases h
 exact .outer .body
 subst hv
 intro h
 have hE := Option.some.inj h
 obtain ⟨hE0, hF0⟩ := Prod.mk.inj hE
 subst hE0 hF0
 exact go_retM Hd.plainG _ _ [0] [] [⟨(mbii f.lines), (mbii f.lines), (mB_fits (fun _ => rfl))⟩, fbu [.sl .lost f.codex.facts.length (rows dcC f.codex.facts), .sl .lost f.codex.lines.length (rows dcC f.codex.lines), .sl .lost f.codex.arts.length (rows arC f.codex.arts), .mp 1, .sc (.int .i64 (wadd f.nodes 1))] (unC (under_plain _ _ (layDc.plS f.codex.facts)) (unC (under_plain _ _ (layDc.plS f.codex.lines)) (unC (under_plain _ _ (layAr.plS f.codex.arts)) (unC rfl (unC rfl rfl)))))] _ _ (runS 300 [pk, pb hb1, pb hb2, pcall (codex_isUnit_step e.unit false hy1)]) (by kernel_rfl) .body
noncomputable def codex_fitter_fits_M : Nat → Ft → Ex → Int → Option (Bool × Int)
 | 0, _, _, _ => none
 | qn + 1, f, e, depth => codex_fitter_fits_B (codex_fitter_fits_M qn) f e depth
theorem codex_fitter_fits_all : ∀ qn : Nat, ∀ (f : Ft) (e : Ex) (depth : Int) (yR : Bool) (qf_nodesR : Int), codex_fitter_fits_M qn f e depth = some (yR, qf_nodesR) → Sound P G (.call 140 [.ptr 0 0, .agg (exC e), .sc (.int .i64 depth)] ⟨[(1, (mbii f.lines)), (0, .cells (ftT 1 f))], 2, [], 0⟩ (.ret (.sc (.bool yR))) ⟨[(1, (mbii f.lines)), (0, .cells [.sl .lost f.codex.facts.length (rows dcC f.codex.facts), .sl .lost f.codex.lines.length (rows dcC f.codex.lines), .sl .lost f.codex.arts.length (rows arC f.codex.arts), .mp 1, .sc (.int .i64 qf_nodesR)])], 2, [], 0⟩) := by
 intro qn
 induction qn with
 | zero => exact (fun _ _ _ _ _ h => by simp only [codex_fitter_fits_M] at h; cases h)
 | succ qn ih => exact (fun f e depth yR qf_nodesR h => codex_fitter_fits_step _ ih f e depth yR qf_nodesR (by rw [codex_fitter_fits_M] at h; exact h))
noncomputable def codex_fitter_fits_R (f : Ft) (e : Ex) (depth : Int) : Option (Bool × Int) := evt (fun qn => codex_fitter_fits_M qn f e depth)
theorem codex_fitter_fits_ok (f : Ft) (e : Ex) (depth : Int) (yR : Bool) (qf_nodesR : Int) (h : codex_fitter_fits_R f e depth = some (yR, qf_nodesR)) : Sound P G (.call 140 [.ptr 0 0, .agg (exC e), .sc (.int .i64 depth)] ⟨[(1, (mbii f.lines)), (0, .cells (ftT 1 f))], 2, [], 0⟩ (.ret (.sc (.bool yR))) ⟨[(1, (mbii f.lines)), (0, .cells [.sl .lost f.codex.facts.length (rows dcC f.codex.facts), .sl .lost f.codex.lines.length (rows dcC f.codex.lines), .sl .lost f.codex.arts.length (rows arC f.codex.arts), .mp 1, .sc (.int .i64 qf_nodesR)])], 2, [], 0⟩) := by
 obtain ⟨qn, h⟩ := evtE h
 exact (codex_fitter_fits_all qn) f e depth yR qf_nodesR h
noncomputable def B94 : Code := bodyOf Tryz.f94
theorem b94 : Tryz.f94.body = some B94 := by kernel_rfl
noncomputable def codex_fitter_whole_B  (f : Ft) (e : Ex) (unit : ByteArray) : Option (Bool × Int) := cond (eqB e.unit.data.toList unit.data.toList) ((codex_fitter_fits_R (⟨f.codex, f.lines, 0⟩ : Ft) e 1).bind fun (y1a, y1b) => some (y1a, y1b)) (some (false, 0))
theorem codex_fitter_whole_U (f : Ft) (e : Ex) (unit : ByteArray) (yR : Bool) (qf_nodesR : Int) (hS : Sound P G (.call 94 [.ptr 0 0, .agg (exC e), .sc (.string unit)] ⟨[(1, (mbii f.lines)), (0, .cells (ftT 1 f))], 2, [], 0⟩ (.ret (.sc (.bool yR))) ⟨[(1, (mbii f.lines)), (0, .cells [.sl .lost f.codex.facts.length (rows dcC f.codex.facts), .sl .lost f.codex.lines.length (rows dcC f.codex.lines), .sl .lost f.codex.arts.length (rows arC f.codex.arts), .mp 1, .sc (.int .i64 qf_nodesR)])], 2, [], 0⟩)) (u0 u1 : Nat) (hnb : [u0, u1].Nodup) (hnt : ([] : List Nat).Nodup) : Cd.ok P G (.callU 94 [.ptr u0 0, .agg (exC e), .sc (.string unit)] (.ret (.sc (.bool yR))) [(u0, .cells (ftT u1 f)), (u1, (mbii f.lines))] [] [(u0, .cells [.sl .lost f.codex.facts.length (rows dcC f.codex.facts), .sl .lost f.codex.lines.length (rows dcC f.codex.lines), .sl .lost f.codex.arts.length (rows arC f.codex.arts), .mp u1, .sc (.int .i64 qf_nodesR)]), (u1, (mbii f.lines))] []) :=
 frameU (M := [.cells (ftT 1 f), (mbii f.lines)]) (M2 := [.cells [.sl .lost f.codex.facts.length (rows dcC f.codex.facts), .sl .lost f.codex.lines.length (rows dcC f.codex.lines), .sl .lost f.codex.arts.length (rows arC f.codex.arts), .mp 1, .sc (.int .i64 qf_nodesR)], (mbii f.lines)]) (T := []) (T2 := []) (k := 2) (j := 0) Hd.plainG _ _ _ _ hS rfl rfl rfl rfl rfl hnb hnt rfl rfl (.cons (.cells (ftT_rn f (by decide))) (.cons (mB_rn (fun _ => rfl)) .nil)) (.cons (.cells (.cons (.pl (layDc.plS f.codex.facts)) (.cons (.pl (layDc.plS f.codex.lines)) (.cons (.pl (layAr.plS f.codex.arts)) (.cons (.mp (by decide)) (.cons (.pl rfl) .nil)))))) (.cons (mB_rn (fun _ => rfl)) .nil)) (.cons (.ptr (by decide)) (.cons (.pl (layEx.plG e)) (.cons (.pl rfl) .nil))) (.pl rfl) (by
   intro e he
   simp only [List.mem_cons, List.not_mem_nil, or_false] at he
   rcases he with rfl | rfl
   · exact (.arg (.here .ptr))
   · exact (.box (p := 0) (.arg (.here .ptr)) rfl (.there (.there (.there (.here .mp)))))
   )
theorem codex_fitter_whole_step   (f : Ft) (e : Ex) (unit : ByteArray) (yR : Bool) (qf_nodesR : Int) (h : codex_fitter_whole_B  f e unit = some (yR, qf_nodesR)) : Sound P G (.call 94 [.ptr 0 0, .agg (exC e), .sc (.string unit)] ⟨[(1, (mbii f.lines)), (0, .cells (ftT 1 f))], 2, [], 0⟩ (.ret (.sc (.bool yR))) ⟨[(1, (mbii f.lines)), (0, .cells [.sl .lost f.codex.facts.length (rows dcC f.codex.facts), .sl .lost f.codex.lines.length (rows dcC f.codex.lines), .sl .lost f.codex.arts.length (rows arC f.codex.arts), .mp 1, .sc (.int .i64 qf_nodesR)])], 2, [], 0⟩) := by
 unfold codex_fitter_whole_B at h
 refine soundM Hd.mixed (WC_body Tryz.func94 b94 ?_)
 revert h
 refine cndI (fun hb1 => ?_) fun hb1 => ?_
 refine bndI ?_
 rintro ⟨y1a, y1b⟩ hy1
 dsimp only
 intro h
 have hE := Option.some.inj h
 obtain ⟨hE0, hF0⟩ := Prod.mk.inj hE
 subst hE0 hF0
 exact go_retM Hd.plainG _ _ [0] [] [⟨(mbii f.lines), (mbii f.lines), (mB_fits (fun _ => rfl))⟩, fbu [.sl .lost f.codex.facts.length (rows dcC f.codex.facts), .sl .lost f.codex.lines.length (rows dcC f.codex.lines), .sl .lost f.codex.arts.length (rows arC f.codex.arts), .mp 1, .sc (.int .i64 y1b)] (unC (under_plain _ _ (layDc.plS f.codex.facts)) (unC (under_plain _ _ (layDc.plS f.codex.lines)) (unC (under_plain _ _ (layAr.plS f.codex.arts)) (unC rfl (unC rfl rfl)))))] _ _ (runS 300 [pb hb1, pcallU (codex_fitter_fits_U (⟨f.codex, f.lines, 0⟩ : Ft) e 1 y1a y1b (codex_fitter_fits_ok (⟨f.codex, f.lines, 0⟩ : Ft) e 1 y1a y1b hy1) 0 1 (by decide) (by decide))]) (by kernel_rfl) .body
 intro h
 have hE := Option.some.inj h
 obtain ⟨hE0, hF0⟩ := Prod.mk.inj hE
 subst hE0 hF0
 exact go_retM Hd.plainG _ _ [0] [] [⟨(mbii f.lines), (mbii f.lines), (mB_fits (fun _ => rfl))⟩, fbu [.sl .lost f.codex.facts.length (rows dcC f.codex.facts), .sl .lost f.codex.lines.length (rows dcC f.codex.lines), .sl .lost f.codex.arts.length (rows arC f.codex.arts), .mp 1, .sc (.int .i64 0)] (unC (under_plain _ _ (layDc.plS f.codex.facts)) (unC (under_plain _ _ (layDc.plS f.codex.lines)) (unC (under_plain _ _ (layAr.plS f.codex.arts)) (unC rfl (unC rfl rfl)))))] _ _ (runS 300 [pb hb1]) (by kernel_rfl) .body
noncomputable def B56 : Code := bodyOf Tryz.f56
theorem b56 : Tryz.f56.body = some B56 := by kernel_rfl
noncomputable def codex_fitter_article_L1  (f : Ft) (i0 : Nat) (e0 : Int)  : Option (Lp Unit Unit (Bool × Int)) := cond ((f.lines.get e0).isSome) (some (.nx ())) (some (.rt (false, f.nodes)))
noncomputable def codex_fitter_article_L2  (f : Ft) (i1 : Nat) (e1 : Ex) (w0_4 : Int) : Option (Lp Int Int (Bool × Int)) := (codex_fitter_whole_B (⟨f.codex, f.lines, w0_4⟩ : Ft) e1 truthS).bind fun (y2a, y2b) => cond y2a (some (.nx y2b)) (some (.rt (false, y2b)))
noncomputable def codex_fitter_article_B  (f : Ft) (a : Ar) : Option (Bool × Int) := cond (ltI a.rank 0) (some (false, f.nodes)) (cond (ltI 1000000 a.rank) (some (false, f.nodes)) (cond (ltI a.fr 0) (some (false, f.nodes)) (cond (leI a.to a.fr) (some (false, f.nodes)) (cond (ltI 36525 a.to) (some (false, f.nodes)) (cond (ltI a.known 0) (some (false, f.nodes)) (cond (ltI 36524 a.known) (some (false, f.nodes)) ((lim a.un.length (foldL (fun i y x => codex_fitter_article_L1  f i y ) (fun x => ()) (a.un.drop 0) 0 ())).bind (lpK (fun (_ : Unit) => (lim a.wh.length (foldL (fun i y x => codex_fitter_article_L2  f i y x) (fun x => x) (a.wh.drop 0) 0 f.nodes)).bind (lpK (fun (w0_4_3 : Int) => (geti f.codex.lines a.line).bind fun x4 => (codex_fitter_whole_B (⟨f.codex, f.lines, w0_4_3⟩ : Ft) a.am x4.unit).bind fun (y5a, y5b) => some (y5a, y5b)) (fun v => some v))) (fun v => some v)))))))))
theorem codex_fitter_article_U (f : Ft) (a : Ar) (yR : Bool) (qf_nodesR : Int) (hS : Sound P G (.call 56 [.ptr 0 0, .agg (arC a)] ⟨[(1, (mbii f.lines)), (0, .cells (ftT 1 f))], 2, [], 0⟩ (.ret (.sc (.bool yR))) ⟨[(1, (mbii f.lines)), (0, .cells [.sl .lost f.codex.facts.length (rows dcC f.codex.facts), .sl .lost f.codex.lines.length (rows dcC f.codex.lines), .sl .lost f.codex.arts.length (rows arC f.codex.arts), .mp 1, .sc (.int .i64 qf_nodesR)])], 2, [], 0⟩)) (u0 u1 : Nat) (hnb : [u0, u1].Nodup) (hnt : ([] : List Nat).Nodup) : Cd.ok P G (.callU 56 [.ptr u0 0, .agg (arC a)] (.ret (.sc (.bool yR))) [(u0, .cells (ftT u1 f)), (u1, (mbii f.lines))] [] [(u0, .cells [.sl .lost f.codex.facts.length (rows dcC f.codex.facts), .sl .lost f.codex.lines.length (rows dcC f.codex.lines), .sl .lost f.codex.arts.length (rows arC f.codex.arts), .mp u1, .sc (.int .i64 qf_nodesR)]), (u1, (mbii f.lines))] []) :=
 frameU (M := [.cells (ftT 1 f), (mbii f.lines)]) (M2 := [.cells [.sl .lost f.codex.facts.length (rows dcC f.codex.facts), .sl .lost f.codex.lines.length (rows dcC f.codex.lines), .sl .lost f.codex.arts.length (rows arC f.codex.arts), .mp 1, .sc (.int .i64 qf_nodesR)], (mbii f.lines)]) (T := []) (T2 := []) (k := 2) (j := 0) Hd.plainG _ _ _ _ hS rfl rfl rfl rfl rfl hnb hnt rfl rfl (.cons (.cells (ftT_rn f (by decide))) (.cons (mB_rn (fun _ => rfl)) .nil)) (.cons (.cells (.cons (.pl (layDc.plS f.codex.facts)) (.cons (.pl (layDc.plS f.codex.lines)) (.cons (.pl (layAr.plS f.codex.arts)) (.cons (.mp (by decide)) (.cons (.pl rfl) .nil)))))) (.cons (mB_rn (fun _ => rfl)) .nil)) (.cons (.ptr (by decide)) (.cons (.pl (layAr.plG a)) .nil)) (.pl rfl) (by
   intro e he
   simp only [List.mem_cons, List.not_mem_nil, or_false] at he
   rcases he with rfl | rfl
   · exact (.arg (.here .ptr))
   · exact (.box (p := 0) (.arg (.here .ptr)) rfl (.there (.there (.there (.here .mp)))))
   )
theorem codex_fitter_article_step   (f : Ft) (a : Ar) (yR : Bool) (qf_nodesR : Int) (h : codex_fitter_article_B  f a = some (yR, qf_nodesR)) : Sound P G (.call 56 [.ptr 0 0, .agg (arC a)] ⟨[(1, (mbii f.lines)), (0, .cells (ftT 1 f))], 2, [], 0⟩ (.ret (.sc (.bool yR))) ⟨[(1, (mbii f.lines)), (0, .cells [.sl .lost f.codex.facts.length (rows dcC f.codex.facts), .sl .lost f.codex.lines.length (rows dcC f.codex.lines), .sl .lost f.codex.arts.length (rows arC f.codex.arts), .mp 1, .sc (.int .i64 qf_nodesR)])], 2, [], 0⟩) := by
 unfold codex_fitter_article_B at h
 refine soundM Hd.mixed (WC_body Tryz.func56 b56 ?_)
 revert h
 refine cndI (fun hb1 => ?_) fun hb1 => ?_
 intro h
 have hE := Option.some.inj h
 obtain ⟨hE0, hF0⟩ := Prod.mk.inj hE
 subst hE0 hF0
 exact go_retM Hd.plainG _ _ [0] [] [⟨(mbii f.lines), (mbii f.lines), (mB_fits (fun _ => rfl))⟩, fbu (ftT 1 f) (ftT_un rfl)] _ _ (runS 300 [pb hb1]) (by kernel_rfl) .body
 refine cndI (fun hb2 => ?_) fun hb2 => ?_
 intro h
 have hE := Option.some.inj h
 obtain ⟨hE0, hF0⟩ := Prod.mk.inj hE
 subst hE0 hF0
 exact go_retM Hd.plainG _ _ [0] [] [⟨(mbii f.lines), (mbii f.lines), (mB_fits (fun _ => rfl))⟩, fbu (ftT 1 f) (ftT_un rfl)] _ _ (runS 300 [pb hb1, pb hb2]) (by kernel_rfl) .body
 let o1 : List (PC P G) := [pb hb1, pb hb2]
 refine cndI (fun hb3 => ?_) fun hb3 => ?_
 intro h
 have hE := Option.some.inj h
 obtain ⟨hE0, hF0⟩ := Prod.mk.inj hE
 subst hE0 hF0
 exact go_retM Hd.plainG _ _ [0] [] [⟨(mbii f.lines), (mbii f.lines), (mB_fits (fun _ => rfl))⟩, fbu (ftT 1 f) (ftT_un rfl)] _ _ (runS 300 (o1 ++ [pb hb3])) (by kernel_rfl) .body
 refine cndI (fun hb4 => ?_) fun hb4 => ?_
 intro h
 have hE := Option.some.inj h
 obtain ⟨hE0, hF0⟩ := Prod.mk.inj hE
 subst hE0 hF0
 exact go_retM Hd.plainG _ _ [0] [] [⟨(mbii f.lines), (mbii f.lines), (mB_fits (fun _ => rfl))⟩, fbu (ftT 1 f) (ftT_un rfl)] _ _ (runS 300 (o1 ++ [pb hb3, pb hb4])) (by kernel_rfl) .body
 refine cndI (fun hb5 => ?_) fun hb5 => ?_
 intro h
 have hE := Option.some.inj h
 obtain ⟨hE0, hF0⟩ := Prod.mk.inj hE
 subst hE0 hF0
 exact go_retM Hd.plainG _ _ [0] [] [⟨(mbii f.lines), (mbii f.lines), (mB_fits (fun _ => rfl))⟩, fbu (ftT 1 f) (ftT_un rfl)] _ _ (runS 300 (o1 ++ [pb hb3, pb hb4, pb hb5])) (by kernel_rfl) .body
 refine cndI (fun hb6 => ?_) fun hb6 => ?_
 intro h
 have hE := Option.some.inj h
 obtain ⟨hE0, hF0⟩ := Prod.mk.inj hE
 subst hE0 hF0
 exact go_retM Hd.plainG _ _ [0] [] [⟨(mbii f.lines), (mbii f.lines), (mB_fits (fun _ => rfl))⟩, fbu (ftT 1 f) (ftT_un rfl)] _ _ (runS 300 (o1 ++ [pb hb3, pb hb4, pb hb5, pb hb6])) (by kernel_rfl) .body
 refine cndI (fun hb7 => ?_) fun hb7 => ?_
 intro h
 have hE := Option.some.inj h
 obtain ⟨hE0, hF0⟩ := Prod.mk.inj hE
 subst hE0 hF0
 exact go_retM Hd.plainG _ _ [0] [] [⟨(mbii f.lines), (mbii f.lines), (mB_fits (fun _ => rfl))⟩, fbu (ftT 1 f) (ftT_un rfl)] _ _ (runS 300 (o1 ++ [pb hb3, pb hb4, pb hb5, pb hb6, pb hb7])) (by kernel_rfl) .body
 refine bndI fun res hres h => ?_
 have hlen := (limE hres).1
 replace hres := (limE hres).2
 refine go_at [] [0, 1, 3, 4, 8, 13, 14, 17, 18, 19, 22, 23, 24, 29, 30, 31, 34, 35, 38, 39, 42, 43, 45, 46, 47, 48, 59, 60, 61, 67, 69, 71, 72, 73, 77, 88] 0 (sub B56 [1, 1, 1, 0, 1, 0, 0]) [.code (sub B56 [1, 1, 1, 1])] _ _ (runS 300 (o1 ++ [pb hb3, pb hb4, pb hb5, pb hb6, pb hb7])) (by kernel_rfl) (foldM (fn := Tryz.f56) (m := 2) (s00 := ⟨[(1, (mbii f.lines)), (0, .cells (ftT 1 f))], 2, [], 0⟩) (fun v => .sc (.bool v.1)) (fun v => ⟨[(1, (mbii f.lines)), (0, .cells [.sl .lost f.codex.facts.length (rows dcC f.codex.facts), .sl .lost f.codex.lines.length (rows dcC f.codex.lines), .sl .lost f.codex.arts.length (rows arC f.codex.arts), .mp 1, .sc (.int .i64 v.2)])], 2, [], 0⟩) 0 a.un (fun i0 (_ : Unit) (j0 : JJ) => frm 89 0 [(0, .ptr 0 0), (3, .ptr 2 0), (45, .sl .lost a.un.length (rows inC a.un)), (46, .sc (.int .i64 ((a.un.length : Nat) : Int))), (47, .sc (.int .i64 ((i0 : Nat) : Int)))] [4, 8, 13, 14, 17, 18, 19, 22, 23, 24, 29, 30, 31, 34, 35, 38, 39, 42, 43, 48, 59, 60, 61, 67, 72, 73, 88] 0 [1, 69, 71, 77] 0 j0) (fun (_ : Nat) (_ : Unit) (_ : JJ) => ⟨[(2, .cells (arC a)), (1, (mbii f.lines)), (0, .cells (ftT 1 f))], 3, [], 0⟩) (fun (j : JJ) => plainL j.2 = true) (fun (_ : Unit) (jx : JJ) => frm 89 0 [(0, .ptr 0 0), (3, .ptr 2 0)] [4, 8, 13, 14, 17, 18, 19, 22, 23, 24, 29, 30, 31, 34, 35, 38, 39, 42, 43, 48, 59, 60, 61, 67, 72, 73, 88] 0 [1, 69, 71, 77] 0 jx) (fun (_ : Unit) (_ : JJ) => ⟨[(2, .cells (arC a)), (1, (mbii f.lines)), (0, .cells (ftT 1 f))], 3, [], 0⟩) (fun (j : JJ) => plainL j.2 = true) ?_ ?_ 0 hres ?_ ?_ ([.bool false, undef, .bool false, .bool false, .bool false, .bool false, .bool false, .bool false, .bool false, .bool false, .bool false, .bool false, .bool false, .bool false, .bool false, .bool false, .bool false, .bool false, .bool false], [.agg (arC a), .sc undef, .sc undef, .sc undef]) (plC (layAr.plG a) (plC rfl (plC rfl (plC rfl rfl)))))
 rintro i0 ⟨⟩ j0 hj0 hge hq
 clear h hres
 refine WL_rnd ?_
 exact go_ex Hd.plainG [0, 3, 6, 8, 16, 26, 28, 34, 36, 38, 44, 46, 48, 58, 60, 62, 68, 70, 76, 78, 84, 86, 96, 118, 120, 122, 134, 139, 143, 144, 146, 155, 176] [fq (gn_pl hj0 0), fq (gn_pl hj0 1), fq (gn_pl hj0 2), fq (gn_pl hj0 3)] [fbp (arC a) (layAr.pl a), ⟨(mbii f.lines), (mbii f.lines), (mB_fits (fun _ => rfl))⟩, fbu (ftT 1 f) (ftT_un rfl)] 0 _ _ (runS 300 [pb (B := ltI ((i0 : Nat) : Int) ((a.un.length : Nat) : Int)) (b := false) (ltF hge)]) (by kernel_rfl) (hq ([(jn j0 0), (jn j0 1), (jn j0 2), (jn j0 3), (jn j0 4), (jn j0 5), (jn j0 6), (jn j0 7), (jn j0 8), (jn j0 9), (jn j0 10), (jn j0 11), (jn j0 12), (jn j0 13), (jn j0 14), (jn j0 15), (jn j0 16), (jn j0 17), (jn j0 18), .bool false, (jn j0 20), (jn j0 21), (jn j0 22), (jn j0 23), (jn j0 24), (jn j0 25), (jn j0 26)], [(gn j0 0), (gn j0 1), (gn j0 2), (gn j0 3)]) (plC (gn_pl hj0 0) (plC (gn_pl hj0 1) (plC (gn_pl hj0 2) (plC (gn_pl hj0 3) rfl)))))
 clear h hres
 rintro i0 e0 ⟨⟩ j0 r hj0 he0 hi0 h k
 refine WL_rnd ?_
 revert h
 show codex_fitter_article_L1  f i0 e0  = some r → _
 unfold codex_fitter_article_L1
 let o2 : List (PC P G) := [pb (B := ltI ((i0 : Nat) : Int) ((a.un.length : Nat) : Int)) (b := true) (ltT hi0), pix (ix40 .lost he0)]
 refine cndI (fun hb8 => ?_) fun hb8 => ?_
 rintro ⟨⟩
 exact go_nx Hd.plainG [0, 3, 6, 8, 16, 26, 28, 34, 36, 38, 44, 46, 48, 58, 60, 62, 68, 70, 76, 78, 84, 86, 91, 92, 94, 96, 118, 120, 122, 134, 139, 143, 144, 146, 155, 176] [fq (gn_pl hj0 0), fq (layInt.plS a.un), fq (gn_pl hj0 1), fq (gn_pl hj0 2), fq (gn_pl hj0 3)] [fbp (arC a) (layAr.pl a), ⟨(mbii f.lines), (mbii f.lines), (mB_fits (fun _ => rfl))⟩, fbu (ftT 1 f) (ftT_un rfl)] _ _ (runS 300 (o2 ++ [plk (lkT83 f.lines e0 hb8), pinc i0 (by omega)])) (by kernel_rfl) (k ([(jn j0 0), .bool true, (jn j0 2), (jn j0 3), (jn j0 4), (jn j0 5), (jn j0 6), (jn j0 7), (jn j0 8), (jn j0 9), (jn j0 10), (jn j0 11), (jn j0 12), (jn j0 13), (jn j0 14), (jn j0 15), (jn j0 16), (jn j0 17), (jn j0 18), .bool true, .bool true, .bool true, .bool false, (jn j0 23), (jn j0 24), (jn j0 25), (jn j0 26)], [(gn j0 0), (gn j0 1), (gn j0 2), (gn j0 3)]) (plC (gn_pl hj0 0) (plC (gn_pl hj0 1) (plC (gn_pl hj0 2) (plC (gn_pl hj0 3) rfl)))))
 rintro ⟨⟩
 exact go_retM Hd.plainG _ _ [0] [] [⟨(mbii f.lines), (mbii f.lines), (mB_fits (fun _ => rfl))⟩, fbu (ftT 1 f) (ftT_un rfl)] _ _ (runS 300 (o2 ++ [plk (lkT83 f.lines e0 hb8)])) (by kernel_rfl) (.rnd k)
 rintro ⟨⟩ rfl jx_1 hjx_1
 revert h
 clear hres
 dsimp only [lpK]
 refine bndI fun res hres h => ?_
 have hlen := (limE hres).1
 replace hres := (limE hres).2
 refine go_at [] [0, 1, 3, 4, 8, 13, 14, 17, 18, 19, 22, 23, 24, 29, 30, 31, 34, 35, 38, 39, 42, 43, 48, 59, 60, 61, 64, 65, 66, 67, 69, 71, 72, 73, 77, 88] 2 (sub B56 [1, 1, 1, 1, 0, 1, 0, 0]) [.code (sub B56 [1, 1, 1, 1, 1])] _ _ (runX 300 []) (by kernel_rfl) (foldM (fn := Tryz.f56) (m := 2) (s00 := ⟨[(1, (mbii f.lines)), (0, .cells (ftT 1 f))], 2, [], 0⟩) (fun v => .sc (.bool v.1)) (fun v => ⟨[(1, (mbii f.lines)), (0, .cells [.sl .lost f.codex.facts.length (rows dcC f.codex.facts), .sl .lost f.codex.lines.length (rows dcC f.codex.lines), .sl .lost f.codex.arts.length (rows arC f.codex.arts), .mp 1, .sc (.int .i64 v.2)])], 2, [], 0⟩) 2 a.wh (fun i1 (w0_4 : Int) (j1 : JJ) => frm 89 0 [(0, .ptr 0 0), (3, .ptr 2 0), (64, .sl .lost a.wh.length (exsC a.wh)), (65, .sc (.int .i64 ((a.wh.length : Nat) : Int))), (66, .sc (.int .i64 ((i1 : Nat) : Int)))] [4, 8, 13, 14, 17, 18, 19, 22, 23, 24, 29, 30, 31, 34, 35, 38, 39, 42, 43, 48, 59, 60, 61, 67, 72, 73, 88] 0 [1, 69, 71, 77] 0 j1) (fun (_ : Nat) (w0_4 : Int) (_ : JJ) => ⟨[(2, .cells (arC a)), (1, (mbii f.lines)), (0, .cells [.sl .lost f.codex.facts.length (rows dcC f.codex.facts), .sl .lost f.codex.lines.length (rows dcC f.codex.lines), .sl .lost f.codex.arts.length (rows arC f.codex.arts), .mp 1, .sc (.int .i64 w0_4)])], 3, [], 0⟩) (fun (j : JJ) => plainL j.2 = true) (fun (w0_4 : Int) (jx : JJ) => frm 89 0 [(0, .ptr 0 0), (3, .ptr 2 0)] [4, 8, 13, 14, 17, 18, 19, 22, 23, 24, 29, 30, 31, 34, 35, 38, 39, 42, 43, 48, 59, 60, 61, 67, 72, 73, 88] 0 [1, 69, 71, 77] 0 jx) (fun (w0_4 : Int) (_ : JJ) => ⟨[(2, .cells (arC a)), (1, (mbii f.lines)), (0, .cells [.sl .lost f.codex.facts.length (rows dcC f.codex.facts), .sl .lost f.codex.lines.length (rows dcC f.codex.lines), .sl .lost f.codex.arts.length (rows arC f.codex.arts), .mp 1, .sc (.int .i64 w0_4)])], 3, [], 0⟩) (fun (j : JJ) => plainL j.2 = true) ?_ ?_ 0 hres ?_ ?_ ([(jn jx_1 0), (jn jx_1 1), (jn jx_1 2), (jn jx_1 3), (jn jx_1 4), (jn jx_1 5), (jn jx_1 6), (jn jx_1 7), (jn jx_1 8), (jn jx_1 9), (jn jx_1 10), (jn jx_1 11), (jn jx_1 12), (jn jx_1 13), (jn jx_1 14), (jn jx_1 15), (jn jx_1 16), (jn jx_1 17), (jn jx_1 18), (jn jx_1 19), (jn jx_1 20), (jn jx_1 21), (jn jx_1 22), (jn jx_1 23), (jn jx_1 24), (jn jx_1 25), (jn jx_1 26)], [(gn jx_1 0), (gn jx_1 1), (gn jx_1 2), (gn jx_1 3)]) (plC (gn_pl hjx_1 0) (plC (gn_pl hjx_1 1) (plC (gn_pl hjx_1 2) (plC (gn_pl hjx_1 3) rfl)))))
 rintro i1 w0_4 j1 hj1 hge hq
 clear h hres
 refine WL_rnd ?_
 exact go_ex Hd.plainG [0, 3, 6, 8, 16, 26, 28, 34, 36, 38, 44, 46, 48, 58, 60, 62, 68, 70, 76, 78, 84, 86, 96, 118, 120, 122, 134, 139, 143, 144, 146, 155, 176] [fq (gn_pl hj1 0), fq (gn_pl hj1 1), fq (gn_pl hj1 2), fq (gn_pl hj1 3)] [fbp (arC a) (layAr.pl a), ⟨(mbii f.lines), (mbii f.lines), (mB_fits (fun _ => rfl))⟩, fbu [.sl .lost f.codex.facts.length (rows dcC f.codex.facts), .sl .lost f.codex.lines.length (rows dcC f.codex.lines), .sl .lost f.codex.arts.length (rows arC f.codex.arts), .mp 1, .sc (.int .i64 w0_4)] (unC (under_plain _ _ (layDc.plS f.codex.facts)) (unC (under_plain _ _ (layDc.plS f.codex.lines)) (unC (under_plain _ _ (layAr.plS f.codex.arts)) (unC rfl (unC rfl rfl)))))] 2 _ _ (runS 300 [pb (B := ltI ((i1 : Nat) : Int) ((a.wh.length : Nat) : Int)) (b := false) (ltF hge)]) (by kernel_rfl) (hq ([(jn j1 0), (jn j1 1), (jn j1 2), (jn j1 3), (jn j1 4), (jn j1 5), (jn j1 6), (jn j1 7), (jn j1 8), (jn j1 9), (jn j1 10), (jn j1 11), (jn j1 12), (jn j1 13), (jn j1 14), (jn j1 15), (jn j1 16), (jn j1 17), (jn j1 18), (jn j1 19), (jn j1 20), (jn j1 21), (jn j1 22), .bool false, (jn j1 24), (jn j1 25), (jn j1 26)], [(gn j1 0), (gn j1 1), (gn j1 2), (gn j1 3)]) (plC (gn_pl hj1 0) (plC (gn_pl hj1 1) (plC (gn_pl hj1 2) (plC (gn_pl hj1 3) rfl)))))
 clear h hres
 rintro i1 e1 w0_4 j1 r hj1 he1 hi1 h k
 refine WL_rnd ?_
 revert h
 show codex_fitter_article_L2  f i1 e1 w0_4 = some r → _
 unfold codex_fitter_article_L2
 refine bndI ?_
 rintro ⟨y2a, y2b⟩ hy2
 dsimp only
 let o3 : List (PC P G) := [pb (B := ltI ((i1 : Nat) : Int) ((a.wh.length : Nat) : Int)) (b := true) (ltT hi1), pix (ix58 .lost he1)]
 refine cndI (fun hv => ?_) fun hv => ?_
 subst hv
 rintro ⟨⟩
 exact go_nx Hd.plainG [0, 3, 6, 8, 16, 26, 28, 34, 36, 38, 44, 46, 48, 58, 60, 62, 68, 70, 76, 78, 84, 86, 96, 118, 120, 122, 129, 130, 132, 134, 139, 143, 144, 146, 155, 176] [fq (gn_pl hj1 0), fq (layEx.plS a.wh), fq (layEx.plG e1), fq (layEx.plG e1), fq (gn_pl hj1 3)] [fbp (arC a) (layAr.pl a), ⟨(mbii f.lines), (mbii f.lines), (mB_fits (fun _ => rfl))⟩, fbu [.sl .lost f.codex.facts.length (rows dcC f.codex.facts), .sl .lost f.codex.lines.length (rows dcC f.codex.lines), .sl .lost f.codex.arts.length (rows arC f.codex.arts), .mp 1, .sc (.int .i64 y2b)] (unC (under_plain _ _ (layDc.plS f.codex.facts)) (unC (under_plain _ _ (layDc.plS f.codex.lines)) (unC (under_plain _ _ (layAr.plS f.codex.arts)) (unC rfl (unC rfl rfl)))))] _ _ (runS 300 (o3 ++ [pcallU (codex_fitter_whole_U (⟨f.codex, f.lines, w0_4⟩ : Ft) e1 truthS true y2b (codex_fitter_whole_step (⟨f.codex, f.lines, w0_4⟩ : Ft) e1 truthS true y2b hy2) 0 1 (by decide) (by decide)), pinc i1 (by omega)])) (by kernel_rfl) (k ([(jn j1 0), (jn j1 1), (jn j1 2), (jn j1 3), (jn j1 4), (jn j1 5), (jn j1 6), (jn j1 7), (jn j1 8), (jn j1 9), (jn j1 10), (jn j1 11), (jn j1 12), (jn j1 13), (jn j1 14), (jn j1 15), (jn j1 16), (jn j1 17), (jn j1 18), (jn j1 19), (jn j1 20), (jn j1 21), (jn j1 22), .bool true, .bool true, .bool false, (jn j1 26)], [(gn j1 0), .agg (exC e1), .agg (exC e1), (gn j1 3)]) (plC (gn_pl hj1 0) (plC (layEx.plG e1) (plC (layEx.plG e1) (plC (gn_pl hj1 3) rfl)))))
 subst hv
 rintro ⟨⟩
 exact go_retM Hd.plainG _ _ [0] [] [⟨(mbii f.lines), (mbii f.lines), (mB_fits (fun _ => rfl))⟩, fbu [.sl .lost f.codex.facts.length (rows dcC f.codex.facts), .sl .lost f.codex.lines.length (rows dcC f.codex.lines), .sl .lost f.codex.arts.length (rows arC f.codex.arts), .mp 1, .sc (.int .i64 y2b)] (unC (under_plain _ _ (layDc.plS f.codex.facts)) (unC (under_plain _ _ (layDc.plS f.codex.lines)) (unC (under_plain _ _ (layAr.plS f.codex.arts)) (unC rfl (unC rfl rfl)))))] _ _ (runS 300 (o3 ++ [pcallU (codex_fitter_whole_U (⟨f.codex, f.lines, w0_4⟩ : Ft) e1 truthS false y2b (codex_fitter_whole_step (⟨f.codex, f.lines, w0_4⟩ : Ft) e1 truthS false y2b hy2) 0 1 (by decide) (by decide))])) (by kernel_rfl) (.rnd k)
 rintro w0_4_3 rfl jx_3 hjx_3
 revert h
 clear hres
 dsimp only [lpK]
 refine bndI fun x4 hx4 => ?_
 refine bndI ?_
 rintro ⟨y5a, y5b⟩ hy5
 dsimp only
 intro h
 have hE := Option.some.inj h
 obtain ⟨hE0, hF0⟩ := Prod.mk.inj hE
 subst hE0 hF0
 exact go_retM Hd.plainG _ _ [0] [] [⟨(mbii f.lines), (mbii f.lines), (mB_fits (fun _ => rfl))⟩, fbu [.sl .lost f.codex.facts.length (rows dcC f.codex.facts), .sl .lost f.codex.lines.length (rows dcC f.codex.lines), .sl .lost f.codex.arts.length (rows arC f.codex.arts), .mp 1, .sc (.int .i64 y5b)] (unC (under_plain _ _ (layDc.plS f.codex.facts)) (unC (under_plain _ _ (layDc.plS f.codex.lines)) (unC (under_plain _ _ (layAr.plS f.codex.arts)) (unC rfl (unC rfl rfl)))))] _ _ (runX 300 [pz 13, pix (ixz28 .lost hx4), pcallU (codex_fitter_whole_U (⟨f.codex, f.lines, w0_4_3⟩ : Ft) a.am x4.unit y5a y5b (codex_fitter_whole_step (⟨f.codex, f.lines, w0_4_3⟩ : Ft) a.am x4.unit y5a y5b hy5) 0 1 (by decide) (by decide))]) (by kernel_rfl) .body
 rintro v rfl
 dsimp only [lpK] at h
 cases h
 exact .outer .body
 rintro v rfl
 dsimp only [lpK] at h
 cases h
 exact .outer .body
noncomputable def B22 : Code := bodyOf Tryz.f22
theorem b22 : Tryz.f22.body = some B22 := by kernel_rfl
noncomputable def codex_Valid_L1  (c : Co) (i0 : Nat) (e0 : Ar) (w1_m : (Mm Int Int)) : Option (Lp (Mm Int Int) (Mm Int Int) Bool) := cond (ltI e0.number 1) (some (.rt false)) (cond (ltI 1000000 e0.number) (some (.rt false)) (cond (ltI e0.line 0) (some (.rt false)) (cond (leI ((c.lines.length : Nat) : Int) e0.line) (some (.rt false)) (cond ((w1_m.get e0.number).isSome) (cond (eqI ((w1_m.get e0.number).getD 0) e0.line) (some (.nx (w1_m.set e0.number e0.line))) (some (.rt false))) (some (.nx (w1_m.set e0.number e0.line)))))))
noncomputable def codex_Valid_L2  (c : Co) (w1_m_3 : (Mm Int Int)) (i1 : Nat) (e1 : Ar) (w2_4 : Int) : Option (Lp Int Int Bool) := (codex_fitter_article_B (⟨c, w1_m_3, w2_4⟩ : Ft) e1).bind fun (y4a, y4b) => cond y4a (some (.nx y4b)) (some (.rt false))
noncomputable def codex_Valid_B  (c : Co) : Option Bool := cond (ltI 32 ((c.facts.length : Nat) : Int)) (some false) (cond (ltI 32 ((c.lines.length : Nat) : Int)) (some false) (cond (ltI 60 ((c.arts.length : Nat) : Int)) (some false) ((codex_goodDecls_B c.facts 0 0).bind fun y1 => cond y1 ((codex_goodDecls_B c.lines 1 4).bind fun y2 => cond y2 ((lim c.arts.length (foldL (fun i y x => codex_Valid_L1  c i y x) (fun x => x) (c.arts.drop 0) 0 (Mm.nil : Mm Int Int))).bind (lpK (fun (w1_m_3 : (Mm Int Int)) => (lim c.arts.length (foldL (fun i y x => codex_Valid_L2  c w1_m_3 i y x) (fun x => x) (c.arts.drop 0) 0 0)).bind (lpK (fun (w2_4_5 : Int) => some true) (fun v => some v))) (fun v => some v))) (some false)) (some false))))
theorem codex_Valid_step   (c : Co) (yR : Bool) (h : codex_Valid_B  c = some yR) : Pure P G 22 [.agg (coC c)] (.sc (.bool yR)) := by
 unfold codex_Valid_B at h
 refine pureM Hd.mixed Hd.plainG (WC_body Tryz.func22 b22 ?_) (plC (layCo.plG c) rfl) rfl
 revert h
 refine cndI (fun hb1 => ?_) fun hb1 => ?_
 rintro ⟨⟩
 exact rS (runS 300 [pb hb1]) (by kernel_rfl)
 refine cndI (fun hb2 => ?_) fun hb2 => ?_
 rintro ⟨⟩
 exact rS (runS 300 [pb hb1, pb hb2]) (by kernel_rfl)
 refine cndI (fun hb3 => ?_) fun hb3 => ?_
 rintro ⟨⟩
 exact rS (runS 300 [pb hb1, pb hb2, pb hb3]) (by kernel_rfl)
 refine bndI fun y1 hy1 => ?_
 refine cndI (fun hv => ?_) fun hv => ?_
 subst hv
 refine bndI fun y2 hy2 => ?_
 refine cndI (fun hv => ?_) fun hv => ?_
 subst hv
 refine bndI fun res hres h => ?_
 have hlen := (limE hres).1
 replace hres := (limE hres).2
 refine go_at [] [0, 1, 2, 3, 7, 14, 15, 19, 20, 21, 25, 26, 29, 30, 31, 34, 35, 36, 39, 40, 41, 42, 44, 47, 48, 51, 52, 53, 56, 57, 58, 64, 65, 72, 73, 74, 78, 79, 86, 88, 93, 95, 96, 97, 98] 0 (sub B22 [1, 1, 1, 1, 0, 1, 0, 0]) [.code (sub B22 [1, 1, 1, 1, 1])] _ _ (runS 300 [pb hb1, pb hb2, pb hb3, pcall (codex_goodDecls_step c.facts 0 0 true hy1), pcall (codex_goodDecls_step c.lines 1 4 true hy2)]) (by kernel_rfl) (foldP (fn := Tryz.f22) (m := 0) (fun v => .sc (.bool v)) 0 c.arts (fun i0 (w1_m : (Mm Int Int)) (j0 : JJ) => frm 100 0 [(1, .ptr 0 0), (3, .mp 1), (39, .sl .lost c.arts.length (rows arC c.arts)), (40, .sc (.int .i64 ((c.arts.length : Nat) : Int))), (41, .sc (.int .i64 ((i0 : Nat) : Int)))] [2, 7, 14, 15, 19, 20, 21, 25, 26, 29, 30, 31, 34, 35, 36, 42, 47, 48, 51, 52, 53, 56, 57, 58, 64, 65, 72, 73, 74, 78, 79, 93, 97, 98] 0 [0, 44, 86, 88, 95, 96] 0 j0) (fun (_ : Nat) (w1_m : (Mm Int Int)) (_ : JJ) => ⟨[(1, (mbii w1_m)), (0, .cells (coC c))], 2, [], 0⟩) (fun (j : JJ) => plainL j.2 = true) (fun (w1_m : (Mm Int Int)) (jx : JJ) => frm 100 0 [(1, .ptr 0 0), (3, .mp 1)] [2, 7, 14, 15, 19, 20, 21, 25, 26, 29, 30, 31, 34, 35, 36, 42, 47, 48, 51, 52, 53, 56, 57, 58, 64, 65, 72, 73, 74, 78, 79, 93, 97, 98] 0 [0, 44, 86, 88, 95, 96] 0 jx) (fun (w1_m : (Mm Int Int)) (_ : JJ) => ⟨[(1, (mbii w1_m)), (0, .cells (coC c))], 2, [], 0⟩) (fun (j : JJ) => plainL j.2 = true) ?_ ?_ 0 hres ?_ ?_ ([.bool false, undef, .bool false, .bool false, .bool false, .bool false, .bool false, .bool false, .bool false, .bool true, .bool false, .bool false, .bool true, .bool false, .bool false], [.agg (coC c), .sc undef, .sc undef, .sc undef, .sc undef, .sc undef]) (plC (layCo.plG c) (plC rfl (plC rfl (plC rfl (plC rfl (plC rfl rfl)))))))
 rintro i0 w1_m j0 hj0 hge hq
 clear h hres
 refine WL_rnd ?_
 exact go_ex Hd.plainG [1, 2, 4, 6, 14, 28, 30, 38, 40, 42, 50, 52, 58, 60, 62, 68, 70, 72, 84, 89, 94, 96, 102, 104, 106, 112, 114, 116, 128, 130, 144, 146, 148, 156, 158, 173, 177, 186, 191, 193, 194, 196] [fq (gn_pl hj0 0), fq (gn_pl hj0 1), fq (gn_pl hj0 2), fq (gn_pl hj0 3), fq (gn_pl hj0 4), fq (gn_pl hj0 5)] [⟨(mbii w1_m), (mbii w1_m), (mB_fits (fun _ => rfl))⟩, fbp (coC c) (layCo.pl c)] 0 _ _ (runS 300 [pb (B := ltI ((i0 : Nat) : Int) ((c.arts.length : Nat) : Int)) (b := false) (ltF hge)]) (by kernel_rfl) (hq ([(jn j0 0), (jn j0 1), (jn j0 2), (jn j0 3), (jn j0 4), (jn j0 5), (jn j0 6), (jn j0 7), (jn j0 8), (jn j0 9), (jn j0 10), (jn j0 11), (jn j0 12), (jn j0 13), (jn j0 14), .bool false, (jn j0 16), (jn j0 17), (jn j0 18), (jn j0 19), (jn j0 20), (jn j0 21), (jn j0 22), (jn j0 23), (jn j0 24), (jn j0 25), (jn j0 26), (jn j0 27), (jn j0 28), (jn j0 29), (jn j0 30), (jn j0 31), (jn j0 32), (jn j0 33)], [(gn j0 0), (gn j0 1), (gn j0 2), (gn j0 3), (gn j0 4), (gn j0 5)]) (plC (gn_pl hj0 0) (plC (gn_pl hj0 1) (plC (gn_pl hj0 2) (plC (gn_pl hj0 3) (plC (gn_pl hj0 4) (plC (gn_pl hj0 5) rfl)))))))
 clear h hres
 rintro i0 e0 w1_m j0 r hj0 he0 hi0 h k
 refine WL_rnd ?_
 revert h
 show codex_Valid_L1  c i0 e0 w1_m = some r → _
 unfold codex_Valid_L1
 let o1 : List (PC P G) := [pb (B := ltI ((i0 : Nat) : Int) ((c.arts.length : Nat) : Int)) (b := true) (ltT hi0), pix (ix29 .lost he0)]
 refine cndI (fun hb4 => ?_) fun hb4 => ?_
 rintro ⟨⟩
 exact go_retA _ _ (runS 300 (o1 ++ [pb hb4])) (by kernel_rfl) (.rnd k) .sc
 refine cndI (fun hb5 => ?_) fun hb5 => ?_
 rintro ⟨⟩
 exact go_retA _ _ (runS 300 (o1 ++ [pb hb4, pb hb5])) (by kernel_rfl) (.rnd k) .sc
 refine cndI (fun hb6 => ?_) fun hb6 => ?_
 rintro ⟨⟩
 exact go_retA _ _ (runS 300 (o1 ++ [pb hb4, pb hb5, pb hb6])) (by kernel_rfl) (.rnd k) .sc
 refine cndI (fun hb7 => ?_) fun hb7 => ?_
 rintro ⟨⟩
 exact go_retA _ _ (runS 300 (o1 ++ [pb hb4, pb hb5, pb hb6, pb hb7])) (by kernel_rfl) (.rnd k) .sc
 refine cndI (fun hb8 => ?_) fun hb8 => ?_
 refine cndI (fun hb9 => ?_) fun hb9 => ?_
 rintro ⟨⟩
 exact go_nx Hd.plainG [1, 2, 4, 6, 14, 28, 30, 38, 40, 42, 50, 52, 58, 60, 62, 68, 70, 72, 79, 80, 82, 84, 89, 94, 96, 102, 104, 106, 112, 114, 116, 128, 130, 144, 146, 148, 156, 158, 173, 177, 186, 191, 193, 194, 196] [fq (gn_pl hj0 0), fq (layAr.plS c.arts), fq (layAr.plG e0), fq (gn_pl hj0 2), fq (gn_pl hj0 3), fq (gn_pl hj0 4), fq (gn_pl hj0 5)] [⟨(mbii (w1_m.set e0.number e0.line)), (mbii (w1_m.set e0.number e0.line)), (mB_fits (fun _ => rfl))⟩, fbp (coC c) (layCo.pl c)] _ _ (runS 300 (o1 ++ [pb hb4, pb hb5, pb hb6, pb hb7, plk (lkT83 w1_m e0.number hb8), pn hb9, pms (ms83 w1_m e0.number e0.line), pinc i0 (by omega)])) (by kernel_rfl) (k ([(jn j0 0), .bool true, (jn j0 2), (jn j0 3), (jn j0 4), (jn j0 5), (jn j0 6), (jn j0 7), (jn j0 8), (jn j0 9), (jn j0 10), (jn j0 11), (jn j0 12), (jn j0 13), (jn j0 14), .bool true, .bool false, .bool false, .bool false, .bool false, .bool false, .bool false, .bool false, .bool false, .bool false, .bool false, .bool true, .bool true, .bool true, .bool false, .bool false, (jn j0 31), (jn j0 32), (jn j0 33)], [(gn j0 0), .agg (arC e0), (gn j0 2), (gn j0 3), (gn j0 4), (gn j0 5)]) (plC (gn_pl hj0 0) (plC (layAr.plG e0) (plC (gn_pl hj0 2) (plC (gn_pl hj0 3) (plC (gn_pl hj0 4) (plC (gn_pl hj0 5) rfl)))))))
 rintro ⟨⟩
 exact go_retA _ _ (runS 300 (o1 ++ [pb hb4, pb hb5, pb hb6, pb hb7, plk (lkT83 w1_m e0.number hb8), pn hb9])) (by kernel_rfl) (.rnd k) .sc
 rintro ⟨⟩
 exact go_nx Hd.plainG [1, 2, 4, 6, 14, 28, 30, 38, 40, 42, 50, 52, 58, 60, 62, 68, 70, 72, 79, 80, 82, 84, 89, 94, 96, 102, 104, 106, 112, 114, 116, 128, 130, 144, 146, 148, 156, 158, 173, 177, 186, 191, 193, 194, 196] [fq (gn_pl hj0 0), fq (layAr.plS c.arts), fq (layAr.plG e0), fq (gn_pl hj0 2), fq (gn_pl hj0 3), fq (gn_pl hj0 4), fq (gn_pl hj0 5)] [⟨(mbii (w1_m.set e0.number e0.line)), (mbii (w1_m.set e0.number e0.line)), (mB_fits (fun _ => rfl))⟩, fbp (coC c) (layCo.pl c)] _ _ (runS 300 (o1 ++ [pb hb4, pb hb5, pb hb6, pb hb7, plk (lkT83 w1_m e0.number hb8), pms (ms83 w1_m e0.number e0.line), pinc i0 (by omega)])) (by kernel_rfl) (k ([(jn j0 0), .bool false, (jn j0 2), (jn j0 3), (jn j0 4), (jn j0 5), (jn j0 6), (jn j0 7), (jn j0 8), (jn j0 9), (jn j0 10), (jn j0 11), (jn j0 12), (jn j0 13), (jn j0 14), .bool true, .bool false, .bool false, .bool false, .bool false, .bool false, .bool false, .bool false, .bool false, .bool false, .bool false, .bool false, .bool false, .bool false, undef, .bool false, (jn j0 31), (jn j0 32), (jn j0 33)], [(gn j0 0), .agg (arC e0), (gn j0 2), (gn j0 3), (gn j0 4), (gn j0 5)]) (plC (gn_pl hj0 0) (plC (layAr.plG e0) (plC (gn_pl hj0 2) (plC (gn_pl hj0 3) (plC (gn_pl hj0 4) (plC (gn_pl hj0 5) rfl)))))))
 rintro w1_m_3 rfl jx_3 hjx_3
 revert h
 clear hres
 dsimp only [lpK]
 refine bndI fun res hres h => ?_
 have hlen := (limE hres).1
 replace hres := (limE hres).2
 refine go_at [] [0, 2, 7, 8, 14, 15, 19, 20, 21, 25, 26, 29, 30, 31, 34, 35, 36, 42, 44, 47, 48, 51, 52, 53, 56, 57, 58, 64, 65, 72, 73, 74, 78, 79, 86, 88, 90, 91, 92, 93, 95, 96, 97, 98] 2 (sub B22 [1, 1, 1, 1, 1, 1, 0, 1, 0, 0]) [.code (sub B22 [1, 1, 1, 1, 1, 1, 1])] _ _ (runX 300 []) (by kernel_rfl) (foldP (fn := Tryz.f22) (m := 0) (fun v => .sc (.bool v)) 2 c.arts (fun i1 (w2_4 : Int) (j1 : JJ) => frm 100 0 [(8, .ptr 2 0), (90, .sl .lost c.arts.length (rows arC c.arts)), (91, .sc (.int .i64 ((c.arts.length : Nat) : Int))), (92, .sc (.int .i64 ((i1 : Nat) : Int)))] [2, 7, 14, 15, 19, 20, 21, 25, 26, 29, 30, 31, 34, 35, 36, 42, 47, 48, 51, 52, 53, 56, 57, 58, 64, 65, 72, 73, 74, 78, 79, 93, 97, 98] 0 [0, 44, 86, 88, 95, 96] 0 j1) (fun (_ : Nat) (w2_4 : Int) (_ : JJ) => ⟨[(2, .cells [.sl .lost c.facts.length (rows dcC c.facts), .sl .lost c.lines.length (rows dcC c.lines), .sl .lost c.arts.length (rows arC c.arts), .mp 1, .sc (.int .i64 w2_4)]), (1, (mbii w1_m_3)), (0, .cells (coC c))], 3, [], 0⟩) (fun (j : JJ) => underL 3 0 j.2 = true) (fun (w2_4 : Int) (jx : JJ) => frm 100 0 [] [2, 7, 14, 15, 19, 20, 21, 25, 26, 29, 30, 31, 34, 35, 36, 42, 47, 48, 51, 52, 53, 56, 57, 58, 64, 65, 72, 73, 74, 78, 79, 93, 97, 98] 0 [0, 44, 86, 88, 95, 96] 0 jx) (fun (w2_4 : Int) (_ : JJ) => ⟨[(2, .cells [.sl .lost c.facts.length (rows dcC c.facts), .sl .lost c.lines.length (rows dcC c.lines), .sl .lost c.arts.length (rows arC c.arts), .mp 1, .sc (.int .i64 w2_4)]), (1, (mbii w1_m_3)), (0, .cells (coC c))], 3, [], 0⟩) (fun (j : JJ) => underL 3 0 j.2 = true) ?_ ?_ 0 hres ?_ ?_ ([(jn jx_3 0), (jn jx_3 1), (jn jx_3 2), (jn jx_3 3), (jn jx_3 4), (jn jx_3 5), (jn jx_3 6), (jn jx_3 7), (jn jx_3 8), (jn jx_3 9), (jn jx_3 10), (jn jx_3 11), (jn jx_3 12), (jn jx_3 13), (jn jx_3 14), (jn jx_3 15), (jn jx_3 16), (jn jx_3 17), (jn jx_3 18), (jn jx_3 19), (jn jx_3 20), (jn jx_3 21), (jn jx_3 22), (jn jx_3 23), (jn jx_3 24), (jn jx_3 25), (jn jx_3 26), (jn jx_3 27), (jn jx_3 28), (jn jx_3 29), (jn jx_3 30), (jn jx_3 31), (jn jx_3 32), (jn jx_3 33)], [(gn jx_3 0), (gn jx_3 1), .agg (coC c), .agg [.sl .lost c.facts.length (rows dcC c.facts), .sl .lost c.lines.length (rows dcC c.lines), .sl .lost c.arts.length (rows arC c.arts), .mp 1, .sc (.int .i64 0)], (gn jx_3 4), (gn jx_3 5)]) (unC (under_plain _ _ (gn_pl hjx_3 0)) (unC (under_plain _ _ (gn_pl hjx_3 1)) (unC (under_plain _ _ (layCo.plG c)) (unC (unC (under_plain _ _ (layDc.plS c.facts)) (unC (under_plain _ _ (layDc.plS c.lines)) (unC (under_plain _ _ (layAr.plS c.arts)) (unC rfl (unC rfl rfl))))) (unC (under_plain _ _ (gn_pl hjx_3 4)) (unC (under_plain _ _ (gn_pl hjx_3 5)) rfl)))))))
 rintro i1 w2_4 j1 hj1 hge hq
 clear h hres
 refine WL_rnd ?_
 exact go_ex Hd.plainG [1, 4, 14, 28, 30, 38, 40, 42, 50, 52, 58, 60, 62, 68, 70, 72, 84, 89, 94, 96, 102, 104, 106, 112, 114, 116, 128, 130, 144, 146, 148, 156, 158, 173, 177, 186, 191, 193, 194, 196] [⟨(gn j1 0), (gn j1 0), (.under (under_mono (Nat.le_of_ble_eq_true rfl) (Nat.le_of_ble_eq_true rfl) (gn_un hj1 0)))⟩, ⟨(gn j1 1), (gn j1 1), (.under (under_mono (Nat.le_of_ble_eq_true rfl) (Nat.le_of_ble_eq_true rfl) (gn_un hj1 1)))⟩, ⟨(gn j1 2), (gn j1 2), (.under (under_mono (Nat.le_of_ble_eq_true rfl) (Nat.le_of_ble_eq_true rfl) (gn_un hj1 2)))⟩, ⟨(gn j1 3), (gn j1 3), (.under (under_mono (Nat.le_of_ble_eq_true rfl) (Nat.le_of_ble_eq_true rfl) (gn_un hj1 3)))⟩, ⟨(gn j1 4), (gn j1 4), (.under (under_mono (Nat.le_of_ble_eq_true rfl) (Nat.le_of_ble_eq_true rfl) (gn_un hj1 4)))⟩, ⟨(gn j1 5), (gn j1 5), (.under (under_mono (Nat.le_of_ble_eq_true rfl) (Nat.le_of_ble_eq_true rfl) (gn_un hj1 5)))⟩] [fbu [.sl .lost c.facts.length (rows dcC c.facts), .sl .lost c.lines.length (rows dcC c.lines), .sl .lost c.arts.length (rows arC c.arts), .mp 1, .sc (.int .i64 w2_4)] (unC (under_plain _ _ (layDc.plS c.facts)) (unC (under_plain _ _ (layDc.plS c.lines)) (unC (under_plain _ _ (layAr.plS c.arts)) (unC rfl (unC rfl rfl))))), ⟨(mbii w1_m_3), (mbii w1_m_3), (mB_fits (fun _ => rfl))⟩, fbp (coC c) (layCo.pl c)] 2 _ _ (runS 300 [pb (B := ltI ((i1 : Nat) : Int) ((c.arts.length : Nat) : Int)) (b := false) (ltF hge)]) (by kernel_rfl) (hq ([(jn j1 0), (jn j1 1), (jn j1 2), (jn j1 3), (jn j1 4), (jn j1 5), (jn j1 6), (jn j1 7), (jn j1 8), (jn j1 9), (jn j1 10), (jn j1 11), (jn j1 12), (jn j1 13), (jn j1 14), (jn j1 15), (jn j1 16), (jn j1 17), (jn j1 18), (jn j1 19), (jn j1 20), (jn j1 21), (jn j1 22), (jn j1 23), (jn j1 24), (jn j1 25), (jn j1 26), (jn j1 27), (jn j1 28), (jn j1 29), (jn j1 30), .bool false, (jn j1 32), (jn j1 33)], [(gn j1 0), (gn j1 1), (gn j1 2), (gn j1 3), (gn j1 4), (gn j1 5)]) (unC (under_mono (Nat.le_of_ble_eq_true rfl) (Nat.le_of_ble_eq_true rfl) (gn_un hj1 0)) (unC (under_mono (Nat.le_of_ble_eq_true rfl) (Nat.le_of_ble_eq_true rfl) (gn_un hj1 1)) (unC (under_mono (Nat.le_of_ble_eq_true rfl) (Nat.le_of_ble_eq_true rfl) (gn_un hj1 2)) (unC (under_mono (Nat.le_of_ble_eq_true rfl) (Nat.le_of_ble_eq_true rfl) (gn_un hj1 3)) (unC (under_mono (Nat.le_of_ble_eq_true rfl) (Nat.le_of_ble_eq_true rfl) (gn_un hj1 4)) (unC (under_mono (Nat.le_of_ble_eq_true rfl) (Nat.le_of_ble_eq_true rfl) (gn_un hj1 5)) rfl)))))))
 clear h hres
 rintro i1 e1 w2_4 j1 r hj1 he1 hi1 h k
 refine WL_rnd ?_
 revert h
 show codex_Valid_L2  c w1_m_3 i1 e1 w2_4 = some r → _
 unfold codex_Valid_L2
 refine bndI ?_
 rintro ⟨y4a, y4b⟩ hy4
 dsimp only
 let o2 : List (PC P G) := [pb (B := ltI ((i1 : Nat) : Int) ((c.arts.length : Nat) : Int)) (b := true) (ltT hi1), pix (ix29 .lost he1)]
 refine cndI (fun hv => ?_) fun hv => ?_
 subst hv
 rintro ⟨⟩
 exact go_nx Hd.plainG [1, 4, 14, 16, 28, 30, 38, 40, 42, 50, 52, 58, 60, 62, 68, 70, 72, 84, 89, 94, 96, 102, 104, 106, 112, 114, 116, 128, 130, 144, 146, 148, 156, 158, 173, 177, 181, 182, 184, 186, 191, 193, 194, 196] [⟨(gn j1 0), (gn j1 0), (.under (under_mono (Nat.le_of_ble_eq_true rfl) (Nat.le_of_ble_eq_true rfl) (gn_un hj1 0)))⟩, ⟨(gn j1 1), (gn j1 1), (.under (under_mono (Nat.le_of_ble_eq_true rfl) (Nat.le_of_ble_eq_true rfl) (gn_un hj1 1)))⟩, ⟨(gn j1 2), (gn j1 2), (.under (under_mono (Nat.le_of_ble_eq_true rfl) (Nat.le_of_ble_eq_true rfl) (gn_un hj1 2)))⟩, ⟨(gn j1 3), (gn j1 3), (.under (under_mono (Nat.le_of_ble_eq_true rfl) (Nat.le_of_ble_eq_true rfl) (gn_un hj1 3)))⟩, fq (layAr.plS c.arts), fq (layAr.plG e1), fq (layAr.plG e1)] [fbu [.sl .lost c.facts.length (rows dcC c.facts), .sl .lost c.lines.length (rows dcC c.lines), .sl .lost c.arts.length (rows arC c.arts), .mp 1, .sc (.int .i64 y4b)] (unC (under_plain _ _ (layDc.plS c.facts)) (unC (under_plain _ _ (layDc.plS c.lines)) (unC (under_plain _ _ (layAr.plS c.arts)) (unC rfl (unC rfl rfl))))), ⟨(mbii w1_m_3), (mbii w1_m_3), (mB_fits (fun _ => rfl))⟩, fbp (coC c) (layCo.pl c)] _ _ (runS 300 (o2 ++ [pcallU (codex_fitter_article_U (⟨c, w1_m_3, w2_4⟩ : Ft) e1 true y4b (codex_fitter_article_step (⟨c, w1_m_3, w2_4⟩ : Ft) e1 true y4b hy4) 2 1 (by decide) (by decide)), pinc i1 (by omega)])) (by kernel_rfl) (k ([(jn j1 0), (jn j1 1), (jn j1 2), (jn j1 3), (jn j1 4), (jn j1 5), (jn j1 6), (jn j1 7), (jn j1 8), (jn j1 9), (jn j1 10), (jn j1 11), (jn j1 12), (jn j1 13), (jn j1 14), (jn j1 15), (jn j1 16), (jn j1 17), (jn j1 18), (jn j1 19), (jn j1 20), (jn j1 21), (jn j1 22), (jn j1 23), (jn j1 24), (jn j1 25), (jn j1 26), (jn j1 27), (jn j1 28), (jn j1 29), (jn j1 30), .bool true, .bool true, .bool false], [(gn j1 0), (gn j1 1), (gn j1 2), (gn j1 3), .agg (arC e1), .agg (arC e1)]) (unC (under_mono (Nat.le_of_ble_eq_true rfl) (Nat.le_of_ble_eq_true rfl) (gn_un hj1 0)) (unC (under_mono (Nat.le_of_ble_eq_true rfl) (Nat.le_of_ble_eq_true rfl) (gn_un hj1 1)) (unC (under_mono (Nat.le_of_ble_eq_true rfl) (Nat.le_of_ble_eq_true rfl) (gn_un hj1 2)) (unC (under_mono (Nat.le_of_ble_eq_true rfl) (Nat.le_of_ble_eq_true rfl) (gn_un hj1 3)) (unC (under_plain _ _ (layAr.plG e1)) (unC (under_plain _ _ (layAr.plG e1)) rfl)))))))
 subst hv
 rintro ⟨⟩
 exact go_retA _ _ (runS 300 (o2 ++ [pcallU (codex_fitter_article_U (⟨c, w1_m_3, w2_4⟩ : Ft) e1 false y4b (codex_fitter_article_step (⟨c, w1_m_3, w2_4⟩ : Ft) e1 false y4b hy4) 2 1 (by decide) (by decide))])) (by kernel_rfl) (.rnd k) .sc
 rintro w2_4_5 rfl jx_5 hjx_5
 revert h
 clear hres
 dsimp only [lpK]
 intro h
 have hE := Option.some.inj h
 subst hE
 exact go_retA _ _ (runX 300 []) (by kernel_rfl) .body .sc
 rintro v rfl
 dsimp only [lpK] at h
 cases h
 exact .outer .body
 rintro v rfl
 dsimp only [lpK] at h
 cases h
 exact .outer .body
 subst hv
 rintro ⟨⟩
 exact rS (runS 300 [pb hb1, pb hb2, pb hb3, pcall (codex_goodDecls_step c.facts 0 0 true hy1), pcall (codex_goodDecls_step c.lines 1 4 false hy2)]) (by kernel_rfl)
 subst hv
 rintro ⟨⟩
 exact rS (runS 300 [pb hb1, pb hb2, pb hb3, pcall (codex_goodDecls_step c.facts 0 0 false hy1)]) (by kernel_rfl)
theorem codex_mentioned_U (e : Ex) (numbers : (Mm Int Bool)) (yR : Unit) (qnumbersR : (Mm Int Bool)) (hS : Sound P G (.call 90 [.agg (exC e), .mp 0] ⟨[(0, (mbib numbers))], 1, [], 0⟩ (.ret (.tup [])) ⟨[(0, (mbib qnumbersR))], 1, [], 0⟩)) (u0 : Nat) (hnb : [u0].Nodup) (hnt : ([] : List Nat).Nodup) : Cd.ok P G (.callU 90 [.agg (exC e), .mp u0] (.ret (.tup [])) [(u0, (mbib numbers))] [] [(u0, (mbib qnumbersR))] []) :=
 frameU (M := [(mbib numbers)]) (M2 := [(mbib qnumbersR)]) (T := []) (T2 := []) (k := 1) (j := 0) Hd.plainG _ _ _ _ hS rfl rfl rfl rfl rfl hnb hnt rfl rfl (.cons (mB_rn (fun _ => rfl)) .nil) (.cons (mB_rn (fun _ => rfl)) .nil) (.cons (.pl (layEx.plG e)) (.cons (.mp (by decide)) .nil)) (.pl rfl) (fun e he => by simp only [List.mem_singleton] at he; subst he; exact (.arg (.there (.here .mp))))
noncomputable def B90 : Code := bodyOf Tryz.f90
theorem b90 : Tryz.f90.body = some B90 := by kernel_rfl
noncomputable def codex_mentioned_L1 (r_codex_mentioned : Ex → (Mm Int Bool) → Option (Unit × (Mm Int Bool)))  (i0 : Nat) (e0 : Ex) (w0_m : (Mm Int Bool)) : Option (Lp (Mm Int Bool) (Mm Int Bool) (Unit × (Mm Int Bool))) := (r_codex_mentioned e0 w0_m).bind fun (y1a, y1b) => some (.nx y1b)
noncomputable def codex_mentioned_B (r_codex_mentioned : Ex → (Mm Int Bool) → Option (Unit × (Mm Int Bool))) (e : Ex) (numbers : (Mm Int Bool)) : Option (Unit × (Mm Int Bool)) := cond (eqI e.op 3) ((lim e.kids.length (foldL (fun i y x => codex_mentioned_L1 r_codex_mentioned  i y x) (fun x => x) (e.kids.drop 0) 0 (numbers.set e.n true))).bind (lpK (fun (w0_m_2 : (Mm Int Bool)) => some ((), w0_m_2)) (fun v => some v))) ((lim e.kids.length (foldL (fun i y x => codex_mentioned_L1 r_codex_mentioned  i y x) (fun x => x) (e.kids.drop 0) 0 numbers)).bind (lpK (fun (w0_m_3 : (Mm Int Bool)) => some ((), w0_m_3)) (fun v => some v)))
theorem codex_mentioned_step (r_codex_mentioned : Ex → (Mm Int Bool) → Option (Unit × (Mm Int Bool))) (hr_codex_mentioned : ∀ (e : Ex) (numbers : (Mm Int Bool)) (yR : Unit) (qnumbersR : (Mm Int Bool)), r_codex_mentioned e numbers = some (yR, qnumbersR) → Sound P G (.call 90 [.agg (exC e), .mp 0] ⟨[(0, (mbib numbers))], 1, [], 0⟩ (.ret (.tup [])) ⟨[(0, (mbib qnumbersR))], 1, [], 0⟩)) (e : Ex) (numbers : (Mm Int Bool)) (yR : Unit) (qnumbersR : (Mm Int Bool)) (h : codex_mentioned_B r_codex_mentioned e numbers = some (yR, qnumbersR)) : Sound P G (.call 90 [.agg (exC e), .mp 0] ⟨[(0, (mbib numbers))], 1, [], 0⟩ (.ret (.tup [])) ⟨[(0, (mbib qnumbersR))], 1, [], 0⟩) := by
 unfold codex_mentioned_B at h
 refine soundM Hd.mixed (WC_body Tryz.func90 b90 ?_)
 revert h
 refine cndI (fun hb1 => ?_) fun hb1 => ?_
 refine bndI fun res hres h => ?_
 have hlen := (limE hres).1
 replace hres := (limE hres).2
 refine go_at [] [0, 1, 8, 13, 14, 15, 16, 18, 19] 0 (sub B90 [1, 1, 1, 0, 0]) [] _ _ (runS 300 [pb hb1, pms (ms89 numbers e.n true)]) (by kernel_rfl) (foldM (fn := Tryz.f90) (m := 1) (s00 := ⟨[(0, (mbib numbers))], 1, [], 0⟩) (fun v => .tup []) (fun v => ⟨[(0, (mbib v.2))], 1, [], 0⟩) 0 e.kids (fun i0 (w0_m : (Mm Int Bool)) (j0 : JJ) => frm 23 0 [(1, .mp 0), (13, .sl .lost e.kids.length (exsC e.kids)), (14, .sc (.int .i64 ((e.kids.length : Nat) : Int))), (15, .sc (.int .i64 ((i0 : Nat) : Int)))] [8, 16] 0 [0, 18, 19] 0 j0) (fun (_ : Nat) (w0_m : (Mm Int Bool)) (_ : JJ) => ⟨[(1, .cells (exC e)), (0, (mbib w0_m))], 2, [], 0⟩) (fun (j : JJ) => plainL j.2 = true) (fun (w0_m : (Mm Int Bool)) (jx : JJ) => frm 23 0 [] [8, 16] 0 [0, 18, 19] 0 jx) (fun (w0_m : (Mm Int Bool)) (_ : JJ) => ⟨[(1, .cells (exC e)), (0, (mbib w0_m))], 2, [], 0⟩) (fun (j : JJ) => plainL j.2 = true) ?_ ?_ 0 hres ?_ ?_ ([.bool true], [.agg (exC e), .sc undef, .sc undef]) (plC (layEx.plG e) (plC rfl (plC rfl rfl))))
 rintro i0 w0_m j0 hj0 hge hq
 clear h hres
 refine WL_rnd ?_
 exact go_ex Hd.plainG [1, 16, 32, 37, 39] [fq (gn_pl hj0 0), fq (gn_pl hj0 1), fq (gn_pl hj0 2)] [fbp (exC e) (layEx.pl e), ⟨(mbib w0_m), (mbib w0_m), (mB_fits (fun _ => rfl))⟩] 0 _ _ (runS 300 [pb (B := ltI ((i0 : Nat) : Int) ((e.kids.length : Nat) : Int)) (b := false) (ltF hge)]) (by kernel_rfl) (hq ([(jn j0 0), .bool false], [(gn j0 0), (gn j0 1), (gn j0 2)]) (plC (gn_pl hj0 0) (plC (gn_pl hj0 1) (plC (gn_pl hj0 2) rfl))))
 clear h hres
 rintro i0 e0 w0_m j0 r hj0 he0 hi0 h k
 refine WL_rnd ?_
 revert h
 show codex_mentioned_L1 r_codex_mentioned  i0 e0 w0_m = some r → _
 unfold codex_mentioned_L1
 refine bndI ?_
 rintro ⟨y1a, y1b⟩ hy1
 dsimp only
 rintro ⟨⟩
 exact go_nx Hd.plainG [1, 2, 16, 27, 28, 30, 32, 37, 39] [fq (gn_pl hj0 0), fq (layEx.plS e.kids), fq (layEx.plG e0), fq (layEx.plG e0)] [fbp (exC e) (layEx.pl e), ⟨(mbib y1b), (mbib y1b), (mB_fits (fun _ => rfl))⟩] _ _ (runS 300 [pb (B := ltI ((i0 : Nat) : Int) ((e.kids.length : Nat) : Int)) (b := true) (ltT hi0), pix (ix58 .lost he0), pcallU (codex_mentioned_U e0 w0_m y1a y1b (hr_codex_mentioned e0 w0_m y1a y1b hy1) 0 (by decide) (by decide)), pinc i0 (by omega)]) (by kernel_rfl) (k ([(jn j0 0), .bool true], [(gn j0 0), .agg (exC e0), .agg (exC e0)]) (plC (gn_pl hj0 0) (plC (layEx.plG e0) (plC (layEx.plG e0) rfl))))
 rintro w0_m_2 rfl jx_2 hjx_2
 revert h
 clear hres
 dsimp only [lpK]
 intro h
 have hE := Option.some.inj h
 obtain ⟨hE0, hF0⟩ := Prod.mk.inj hE
 subst hE0 hF0
 exact go_endM Hd.plainG _ _ [1] [⟨.tup [], .tup [], (.plain rfl)⟩] [⟨(mbib w0_m_2), (mbib w0_m_2), (mB_fits (fun _ => rfl))⟩] _ _ (runX 300 []) (by kernel_rfl)
 rintro v rfl
 dsimp only [lpK] at h
 cases h
 exact .outer .body
 refine bndI fun res hres h => ?_
 have hlen := (limE hres).1
 replace hres := (limE hres).2
 refine go_at [] [0, 1, 8, 13, 14, 15, 16, 18, 19] 0 (sub B90 [1, 1, 1, 0, 0]) [] _ _ (runS 300 [pb hb1]) (by kernel_rfl) (foldM (fn := Tryz.f90) (m := 1) (s00 := ⟨[(0, (mbib numbers))], 1, [], 0⟩) (fun v => .tup []) (fun v => ⟨[(0, (mbib v.2))], 1, [], 0⟩) 0 e.kids (fun i0 (w0_m : (Mm Int Bool)) (j0 : JJ) => frm 23 0 [(1, .mp 0), (13, .sl .lost e.kids.length (exsC e.kids)), (14, .sc (.int .i64 ((e.kids.length : Nat) : Int))), (15, .sc (.int .i64 ((i0 : Nat) : Int)))] [8, 16] 0 [0, 18, 19] 0 j0) (fun (_ : Nat) (w0_m : (Mm Int Bool)) (_ : JJ) => ⟨[(1, .cells (exC e)), (0, (mbib w0_m))], 2, [], 0⟩) (fun (j : JJ) => plainL j.2 = true) (fun (w0_m : (Mm Int Bool)) (jx : JJ) => frm 23 0 [] [8, 16] 0 [0, 18, 19] 0 jx) (fun (w0_m : (Mm Int Bool)) (_ : JJ) => ⟨[(1, .cells (exC e)), (0, (mbib w0_m))], 2, [], 0⟩) (fun (j : JJ) => plainL j.2 = true) ?_ ?_ 0 hres ?_ ?_ ([.bool false], [.agg (exC e), .sc undef, .sc undef]) (plC (layEx.plG e) (plC rfl (plC rfl rfl))))
 rintro i0 w0_m j0 hj0 hge hq
 clear h hres
 refine WL_rnd ?_
 exact go_ex Hd.plainG [1, 16, 32, 37, 39] [fq (gn_pl hj0 0), fq (gn_pl hj0 1), fq (gn_pl hj0 2)] [fbp (exC e) (layEx.pl e), ⟨(mbib w0_m), (mbib w0_m), (mB_fits (fun _ => rfl))⟩] 0 _ _ (runS 300 [pb (B := ltI ((i0 : Nat) : Int) ((e.kids.length : Nat) : Int)) (b := false) (ltF hge)]) (by kernel_rfl) (hq ([(jn j0 0), .bool false], [(gn j0 0), (gn j0 1), (gn j0 2)]) (plC (gn_pl hj0 0) (plC (gn_pl hj0 1) (plC (gn_pl hj0 2) rfl))))
 clear h hres
 rintro i0 e0 w0_m j0 r hj0 he0 hi0 h k
 refine WL_rnd ?_
 revert h
 show codex_mentioned_L1 r_codex_mentioned  i0 e0 w0_m = some r → _
 unfold codex_mentioned_L1
 refine bndI ?_
 rintro ⟨y1a, y1b⟩ hy1
 dsimp only
 rintro ⟨⟩
 exact go_nx Hd.plainG [1, 2, 16, 27, 28, 30, 32, 37, 39] [fq (gn_pl hj0 0), fq (layEx.plS e.kids), fq (layEx.plG e0), fq (layEx.plG e0)] [fbp (exC e) (layEx.pl e), ⟨(mbib y1b), (mbib y1b), (mB_fits (fun _ => rfl))⟩] _ _ (runS 300 [pb (B := ltI ((i0 : Nat) : Int) ((e.kids.length : Nat) : Int)) (b := true) (ltT hi0), pix (ix58 .lost he0), pcallU (codex_mentioned_U e0 w0_m y1a y1b (hr_codex_mentioned e0 w0_m y1a y1b hy1) 0 (by decide) (by decide)), pinc i0 (by omega)]) (by kernel_rfl) (k ([(jn j0 0), .bool true], [(gn j0 0), .agg (exC e0), .agg (exC e0)]) (plC (gn_pl hj0 0) (plC (layEx.plG e0) (plC (layEx.plG e0) rfl))))
 rintro w0_m_3 rfl jx_3 hjx_3
 revert h
 clear hres
 dsimp only [lpK]
 intro h
 have hE := Option.some.inj h
 obtain ⟨hE0, hF0⟩ := Prod.mk.inj hE
 subst hE0 hF0
 exact go_endM Hd.plainG _ _ [1] [⟨.tup [], .tup [], (.plain rfl)⟩] [⟨(mbib w0_m_3), (mbib w0_m_3), (mB_fits (fun _ => rfl))⟩] _ _ (runX 300 []) (by kernel_rfl)
 rintro v rfl
 dsimp only [lpK] at h
 cases h
 exact .outer .body
noncomputable def codex_mentioned_M : Nat → Ex → (Mm Int Bool) → Option (Unit × (Mm Int Bool))
 | 0, _, _ => none
 | qn + 1, e, numbers => codex_mentioned_B (codex_mentioned_M qn) e numbers
theorem codex_mentioned_all : ∀ qn : Nat, ∀ (e : Ex) (numbers : (Mm Int Bool)) (yR : Unit) (qnumbersR : (Mm Int Bool)), codex_mentioned_M qn e numbers = some (yR, qnumbersR) → Sound P G (.call 90 [.agg (exC e), .mp 0] ⟨[(0, (mbib numbers))], 1, [], 0⟩ (.ret (.tup [])) ⟨[(0, (mbib qnumbersR))], 1, [], 0⟩) := by
 intro qn
 induction qn with
 | zero => exact (fun _ _ _ _ h => by simp only [codex_mentioned_M] at h; cases h)
 | succ qn ih => exact (fun e numbers yR qnumbersR h => codex_mentioned_step _ ih e numbers yR qnumbersR (by rw [codex_mentioned_M] at h; exact h))
noncomputable def codex_mentioned_R (e : Ex) (numbers : (Mm Int Bool)) : Option (Unit × (Mm Int Bool)) := evt (fun qn => codex_mentioned_M qn e numbers)
theorem codex_mentioned_ok (e : Ex) (numbers : (Mm Int Bool)) (yR : Unit) (qnumbersR : (Mm Int Bool)) (h : codex_mentioned_R e numbers = some (yR, qnumbersR)) : Sound P G (.call 90 [.agg (exC e), .mp 0] ⟨[(0, (mbib numbers))], 1, [], 0⟩ (.ret (.tup [])) ⟨[(0, (mbib qnumbersR))], 1, [], 0⟩) := by
 obtain ⟨qn, h⟩ := evtE h
 exact (codex_mentioned_all qn) e numbers yR qnumbersR h
noncomputable def B51 : Code := bodyOf Tryz.f51
theorem b51 : Tryz.f51.body = some B51 := by kernel_rfl
noncomputable def codex_needs_L1   (i0 : Nat) (e0 : Int) (w2_m : (Mm Int Bool)) : Option (Lp (Mm Int Bool) (Mm Int Bool) (List Int)) := some (.nx (w2_m.set e0 true))
noncomputable def codex_needs_L2   (i1 : Nat) (e1 : Ex) (w2_m : (Mm Int Bool)) : Option (Lp (Mm Int Bool) (Mm Int Bool) (List Int)) := (codex_mentioned_R e1 w2_m).bind fun (y3a, y3b) => some (.nx y3b)
noncomputable def codex_needs_L3  (c : Co) (version : Int) (y5b : (Mm Int Bool)) (i2 : Nat) (e2 : Ar) (result11 : (List Int)) : Option (Lp (List Int) (List Int) (List Int)) := cond ((y5b.get e2.number).getD false) (limA (result11.length + 1) (some (.nx (result11 ++ [((i2 : Nat) : Int)])))) ((codex_Beats_B c ((i2 : Nat) : Int) version).bind fun y7 => cond y7 (limA (result11.length + 1) (some (.nx (result11 ++ [((i2 : Nat) : Int)])))) (some (.nx result11)))
noncomputable def codex_needs_B  (c : Co) (version : Int) : Option (List Int) := (geti c.arts version).bind fun x1 => (lim x1.un.length (foldL (fun i y x => codex_needs_L1   i y x) (fun x => x) (x1.un.drop 0) 0 (Mm.nil : Mm Int Bool))).bind (lpK (fun (w2_m_2 : (Mm Int Bool)) => (lim x1.wh.length (foldL (fun i y x => codex_needs_L2   i y x) (fun x => x) (x1.wh.drop 0) 0 w2_m_2)).bind (lpK (fun (w2_m_4 : (Mm Int Bool)) => (codex_mentioned_R x1.am w2_m_4).bind fun (y5a, y5b) => (lim c.arts.length (foldL (fun i y x => codex_needs_L3  c version y5b i y x) (fun x => x) (c.arts.drop 0) 0 [])).bind (lpK (fun (result11_9 : (List Int)) => some result11_9) (fun v => some v))) (fun v => some v))) (fun v => some v))
theorem codex_needs_step   (c : Co) (version : Int) (yR : (List Int)) (h : codex_needs_B  c version = some yR) : Pure P G 51 [.agg (coC c), .sc (.int .i64 version)] (.sl .lost yR.length (rows inC yR)) := by
 unfold codex_needs_B at h
 refine pureM Hd.mixed Hd.plainG (WC_body Tryz.func51 b51 ?_) (plC (layCo.plG c) (plC rfl rfl)) (layInt.plS yR)
 revert h
 refine bndI fun x1 hx1 => ?_
 refine bndI fun res hres h => ?_
 have hlen := (limE hres).1
 replace hres := (limE hres).2
 refine go_at [] [0, 1, 2, 5, 6, 18, 21, 22, 23, 24, 34, 36, 37, 42, 49, 52, 56, 57, 58, 61, 62] 0 (sub B51 [1, 1, 1, 0, 1, 0, 0]) [.code (sub B51 [1, 1, 1, 1])] _ _ (runS 300 [pix (ixz29 .lost hx1)]) (by kernel_rfl) (foldP (fn := Tryz.f51) (m := 0) (fun v => .sl .lost v.length (rows inC v)) 0 x1.un (fun i0 (w2_m : (Mm Int Bool)) (j0 : JJ) => frm 69 0 [(1, .sc (.int .i64 version)), (2, .ptr 0 0), (5, .ptr 1 0), (6, .mp 2), (21, .sl .lost x1.un.length (rows inC x1.un)), (22, .sc (.int .i64 ((x1.un.length : Nat) : Int))), (23, .sc (.int .i64 ((i0 : Nat) : Int)))] [24, 34, 49, 56, 57, 61, 62] 0 [0, 18, 36, 37, 42, 52, 58] 0 j0) (fun (_ : Nat) (w2_m : (Mm Int Bool)) (_ : JJ) => ⟨[(2, (mbib w2_m)), (1, .cells (arC x1)), (0, .cells (coC c))], 3, [], 0⟩) (fun (j : JJ) => plainL j.2 = true) (fun (w2_m : (Mm Int Bool)) (jx : JJ) => frm 69 0 [(1, .sc (.int .i64 version)), (2, .ptr 0 0), (5, .ptr 1 0), (6, .mp 2)] [24, 34, 49, 56, 57, 61, 62] 0 [0, 18, 36, 37, 42, 52, 58] 0 jx) (fun (w2_m : (Mm Int Bool)) (_ : JJ) => ⟨[(2, (mbib w2_m)), (1, .cells (arC x1)), (0, .cells (coC c))], 3, [], 0⟩) (fun (j : JJ) => plainL j.2 = true) ?_ ?_ 0 hres ?_ ?_ ([], [.agg (coC c), .agg (arC x1), .sc undef, .sc undef, .sc undef, .sc undef, .sc undef]) (plC (layCo.plG c) (plC (layAr.plG x1) (plC rfl (plC rfl (plC rfl (plC rfl (plC rfl rfl))))))))
 rintro i0 w2_m j0 hj0 hge hq
 clear h hres
 refine WL_rnd ?_
 exact go_ex Hd.plainG [1, 2, 4, 10, 12, 37, 48, 68, 73, 75, 85, 98, 105, 112, 114, 117, 122, 124] [fq (gn_pl hj0 0), fq (gn_pl hj0 1), fq (gn_pl hj0 2), fq (gn_pl hj0 3), fq (gn_pl hj0 4), fq (gn_pl hj0 5), fq (gn_pl hj0 6)] [⟨(mbib w2_m), (mbib w2_m), (mB_fits (fun _ => rfl))⟩, fbp (arC x1) (layAr.pl x1), fbp (coC c) (layCo.pl c)] 0 _ _ (runS 300 [pb (B := ltI ((i0 : Nat) : Int) ((x1.un.length : Nat) : Int)) (b := false) (ltF hge)]) (by kernel_rfl) (hq ([.bool false, (jn j0 1), (jn j0 2), (jn j0 3), (jn j0 4), (jn j0 5), (jn j0 6)], [(gn j0 0), (gn j0 1), (gn j0 2), (gn j0 3), (gn j0 4), (gn j0 5), (gn j0 6)]) (plC (gn_pl hj0 0) (plC (gn_pl hj0 1) (plC (gn_pl hj0 2) (plC (gn_pl hj0 3) (plC (gn_pl hj0 4) (plC (gn_pl hj0 5) (plC (gn_pl hj0 6) rfl))))))))
 clear h hres
 rintro i0 e0 w2_m j0 r hj0 he0 hi0 h k
 refine WL_rnd ?_
 revert h
 show codex_needs_L1   i0 e0 w2_m = some r → _
 unfold codex_needs_L1
 rintro ⟨⟩
 exact go_nx Hd.plainG [1, 2, 4, 10, 12, 37, 43, 44, 46, 48, 68, 73, 75, 85, 98, 105, 112, 114, 117, 122, 124] [fq (gn_pl hj0 0), fq (gn_pl hj0 1), fq (layInt.plS x1.un), fq (gn_pl hj0 2), fq (gn_pl hj0 3), fq (gn_pl hj0 4), fq (gn_pl hj0 5), fq (gn_pl hj0 6)] [⟨(mbib (w2_m.set e0 true)), (mbib (w2_m.set e0 true)), (mB_fits (fun _ => rfl))⟩, fbp (arC x1) (layAr.pl x1), fbp (coC c) (layCo.pl c)] _ _ (runS 300 [pb (B := ltI ((i0 : Nat) : Int) ((x1.un.length : Nat) : Int)) (b := true) (ltT hi0), pix (ix40 .lost he0), pms (ms89 w2_m e0 true), pinc i0 (by omega)]) (by kernel_rfl) (k ([.bool true, (jn j0 1), (jn j0 2), (jn j0 3), (jn j0 4), (jn j0 5), (jn j0 6)], [(gn j0 0), (gn j0 1), (gn j0 2), (gn j0 3), (gn j0 4), (gn j0 5), (gn j0 6)]) (plC (gn_pl hj0 0) (plC (gn_pl hj0 1) (plC (gn_pl hj0 2) (plC (gn_pl hj0 3) (plC (gn_pl hj0 4) (plC (gn_pl hj0 5) (plC (gn_pl hj0 6) rfl))))))))
 rintro w2_m_2 rfl jx_2 hjx_2
 revert h
 clear hres
 dsimp only [lpK]
 refine bndI fun res hres h => ?_
 have hlen := (limE hres).1
 replace hres := (limE hres).2
 refine go_at [] [0, 1, 2, 5, 6, 18, 24, 31, 32, 33, 34, 36, 37, 42, 49, 52, 56, 57, 58, 61, 62] 2 (sub B51 [1, 1, 1, 1, 0, 1, 0, 0]) [.code (sub B51 [1, 1, 1, 1, 1])] _ _ (runX 300 []) (by kernel_rfl) (foldP (fn := Tryz.f51) (m := 0) (fun v => .sl .lost v.length (rows inC v)) 2 x1.wh (fun i1 (w2_m : (Mm Int Bool)) (j1 : JJ) => frm 69 0 [(1, .sc (.int .i64 version)), (2, .ptr 0 0), (5, .ptr 1 0), (6, .mp 2), (31, .sl .lost x1.wh.length (exsC x1.wh)), (32, .sc (.int .i64 ((x1.wh.length : Nat) : Int))), (33, .sc (.int .i64 ((i1 : Nat) : Int)))] [24, 34, 49, 56, 57, 61, 62] 0 [0, 18, 36, 37, 42, 52, 58] 0 j1) (fun (_ : Nat) (w2_m : (Mm Int Bool)) (_ : JJ) => ⟨[(2, (mbib w2_m)), (1, .cells (arC x1)), (0, .cells (coC c))], 3, [], 0⟩) (fun (j : JJ) => plainL j.2 = true) (fun (w2_m : (Mm Int Bool)) (jx : JJ) => frm 69 0 [(1, .sc (.int .i64 version)), (2, .ptr 0 0), (5, .ptr 1 0), (6, .mp 2)] [24, 34, 49, 56, 57, 61, 62] 0 [0, 18, 36, 37, 42, 52, 58] 0 jx) (fun (w2_m : (Mm Int Bool)) (_ : JJ) => ⟨[(2, (mbib w2_m)), (1, .cells (arC x1)), (0, .cells (coC c))], 3, [], 0⟩) (fun (j : JJ) => plainL j.2 = true) ?_ ?_ 0 hres ?_ ?_ ([(jn jx_2 0), (jn jx_2 1), (jn jx_2 2), (jn jx_2 3), (jn jx_2 4), (jn jx_2 5), (jn jx_2 6)], [(gn jx_2 0), (gn jx_2 1), (gn jx_2 2), (gn jx_2 3), (gn jx_2 4), (gn jx_2 5), (gn jx_2 6)]) (plC (gn_pl hjx_2 0) (plC (gn_pl hjx_2 1) (plC (gn_pl hjx_2 2) (plC (gn_pl hjx_2 3) (plC (gn_pl hjx_2 4) (plC (gn_pl hjx_2 5) (plC (gn_pl hjx_2 6) rfl))))))))
 rintro i1 w2_m j1 hj1 hge hq
 clear h hres
 refine WL_rnd ?_
 exact go_ex Hd.plainG [1, 2, 4, 10, 12, 37, 48, 68, 73, 75, 85, 98, 105, 112, 114, 117, 122, 124] [fq (gn_pl hj1 0), fq (gn_pl hj1 1), fq (gn_pl hj1 2), fq (gn_pl hj1 3), fq (gn_pl hj1 4), fq (gn_pl hj1 5), fq (gn_pl hj1 6)] [⟨(mbib w2_m), (mbib w2_m), (mB_fits (fun _ => rfl))⟩, fbp (arC x1) (layAr.pl x1), fbp (coC c) (layCo.pl c)] 2 _ _ (runS 300 [pb (B := ltI ((i1 : Nat) : Int) ((x1.wh.length : Nat) : Int)) (b := false) (ltF hge)]) (by kernel_rfl) (hq ([(jn j1 0), .bool false, (jn j1 2), (jn j1 3), (jn j1 4), (jn j1 5), (jn j1 6)], [(gn j1 0), (gn j1 1), (gn j1 2), (gn j1 3), (gn j1 4), (gn j1 5), (gn j1 6)]) (plC (gn_pl hj1 0) (plC (gn_pl hj1 1) (plC (gn_pl hj1 2) (plC (gn_pl hj1 3) (plC (gn_pl hj1 4) (plC (gn_pl hj1 5) (plC (gn_pl hj1 6) rfl))))))))
 clear h hres
 rintro i1 e1 w2_m j1 r hj1 he1 hi1 h k
 refine WL_rnd ?_
 revert h
 show codex_needs_L2   i1 e1 w2_m = some r → _
 unfold codex_needs_L2
 refine bndI ?_
 rintro ⟨y3a, y3b⟩ hy3
 dsimp only
 rintro ⟨⟩
 exact go_nx Hd.plainG [1, 2, 4, 10, 12, 37, 48, 63, 64, 66, 68, 73, 75, 85, 98, 105, 112, 114, 117, 122, 124] [fq (gn_pl hj1 0), fq (gn_pl hj1 1), fq (layEx.plS x1.wh), fq (layEx.plG e1), fq (layEx.plG e1), fq (gn_pl hj1 4), fq (gn_pl hj1 5), fq (gn_pl hj1 6)] [⟨(mbib y3b), (mbib y3b), (mB_fits (fun _ => rfl))⟩, fbp (arC x1) (layAr.pl x1), fbp (coC c) (layCo.pl c)] _ _ (runS 300 [pb (B := ltI ((i1 : Nat) : Int) ((x1.wh.length : Nat) : Int)) (b := true) (ltT hi1), pix (ix58 .lost he1), pcallU (codex_mentioned_U e1 w2_m y3a y3b (codex_mentioned_ok e1 w2_m y3a y3b hy3) 2 (by decide) (by decide)), pinc i1 (by omega)]) (by kernel_rfl) (k ([(jn j1 0), .bool true, (jn j1 2), (jn j1 3), (jn j1 4), (jn j1 5), (jn j1 6)], [(gn j1 0), (gn j1 1), .agg (exC e1), .agg (exC e1), (gn j1 4), (gn j1 5), (gn j1 6)]) (plC (gn_pl hj1 0) (plC (gn_pl hj1 1) (plC (layEx.plG e1) (plC (layEx.plG e1) (plC (gn_pl hj1 4) (plC (gn_pl hj1 5) (plC (gn_pl hj1 6) rfl))))))))
 rintro w2_m_4 rfl jx_4 hjx_4
 revert h
 clear hres
 dsimp only [lpK]
 refine bndI ?_
 rintro ⟨y5a, y5b⟩ hy5
 dsimp only
 refine bndI fun res hres h => ?_
 have hlen := (limE hres).1
 replace hres := (limE hres).2
 refine go_at [.t 11 1] [0, 1, 2, 6, 11, 18, 24, 34, 36, 37, 42, 46, 47, 48, 49, 52, 56, 57, 58, 61, 62] 4 (sub B51 [1, 1, 1, 1, 1, 1, 1, 0, 1, 0, 0]) [.code (sub B51 [1, 1, 1, 1, 1, 1, 1, 1])] _ _ (runX 300 [pcallU (codex_mentioned_U x1.am w2_m_4 y5a y5b (codex_mentioned_ok x1.am w2_m_4 y5a y5b hy5) 2 (by decide) (by decide))]) (by kernel_rfl) (foldP (fn := Tryz.f51) (m := 0) (fun v => .sl .lost v.length (rows inC v)) 4 c.arts (fun i2 (result11 : (List Int)) (j2 : JJ) => frm 69 0 [(1, .sc (.int .i64 version)), (2, .ptr 0 0), (6, .mp 2), (11, .sl (.row 0 1) result11.length (rows inC result11)), (46, .sl .lost c.arts.length (rows arC c.arts)), (47, .sc (.int .i64 ((c.arts.length : Nat) : Int))), (48, .sc (.int .i64 ((i2 : Nat) : Int)))] [24, 34, 49, 56, 57, 61, 62] 0 [0, 18, 36, 37, 42, 52, 58] 0 j2) (fun (_ : Nat) (result11 : (List Int)) (_ : JJ) => ⟨[(2, (mbib y5b)), (1, .cells (arC x1)), (0, .cells (coC c))], 3, [(0, result11.length)], 1⟩) (fun (j : JJ) => plainL j.2 = true) (fun (result11 : (List Int)) (jx : JJ) => frm 69 0 [(11, .sl (.row 0 1) result11.length (rows inC result11))] [24, 34, 49, 56, 57, 61, 62] 0 [0, 18, 36, 37, 42, 52, 58] 0 jx) (fun (result11 : (List Int)) (_ : JJ) => ⟨[(2, (mbib y5b)), (1, .cells (arC x1)), (0, .cells (coC c))], 3, [(0, result11.length)], 1⟩) (fun (j : JJ) => plainL j.2 = true) ?_ ?_ 0 hres ?_ ?_ ([(jn jx_4 0), (jn jx_4 1), (jn jx_4 2), (jn jx_4 3), (jn jx_4 4), (jn jx_4 5), (jn jx_4 6)], [(gn jx_4 0), (gn jx_4 1), (gn jx_4 2), (gn jx_4 3), .agg (exC x1.am), (gn jx_4 5), (gn jx_4 6)]) (plC (gn_pl hjx_4 0) (plC (gn_pl hjx_4 1) (plC (gn_pl hjx_4 2) (plC (gn_pl hjx_4 3) (plC (layEx.plG x1.am) (plC (gn_pl hjx_4 5) (plC (gn_pl hjx_4 6) rfl))))))))
 rintro i2 result11 j2 hj2 hge hq
 clear h hres
 refine WL_rnd ?_
 exact go_ex Hd.plainG [1, 23, 37, 48, 68, 73, 75, 85, 98, 105, 112, 114, 117, 122, 124] [fq (gn_pl hj2 0), ⟨.sl (.row 0 1) result11.length (rows inC result11), .sl (.row 0 1) result11.length (rows inC result11), (.under (unSl rfl (under_plainL _ _ (layInt.plC result11))))⟩, fq (gn_pl hj2 1), fq (gn_pl hj2 2), fq (gn_pl hj2 3), fq (gn_pl hj2 4), fq (gn_pl hj2 5), fq (gn_pl hj2 6)] [⟨(mbib y5b), (mbib y5b), (mB_fits (fun _ => rfl))⟩, fbp (arC x1) (layAr.pl x1), fbp (coC c) (layCo.pl c)] 4 _ _ (runS 300 [pb (B := ltI ((i2 : Nat) : Int) ((c.arts.length : Nat) : Int)) (b := false) (ltF hge)]) (by kernel_rfl) (hq ([(jn j2 0), (jn j2 1), .bool false, (jn j2 3), (jn j2 4), (jn j2 5), (jn j2 6)], [(gn j2 0), (gn j2 1), (gn j2 2), (gn j2 3), (gn j2 4), (gn j2 5), (gn j2 6)]) (plC (gn_pl hj2 0) (plC (gn_pl hj2 1) (plC (gn_pl hj2 2) (plC (gn_pl hj2 3) (plC (gn_pl hj2 4) (plC (gn_pl hj2 5) (plC (gn_pl hj2 6) rfl))))))))
 clear h hres
 rintro i2 e2 result11 j2 r hj2 he2 hi2 h k
 refine WL_rnd ?_
 revert h
 show codex_needs_L3  c version y5b i2 e2 result11 = some r → _
 unfold codex_needs_L3
 let o1 : List (PC P G) := [pb (B := ltI ((i2 : Nat) : Int) ((c.arts.length : Nat) : Int)) (b := true) (ltT hi2), pix (ix29 .lost he2)]
 refine cndI (fun hb2 => ?_) fun hb2 => ?_
 refine limAI fun hl6 => ?_
 rintro ⟨⟩
 exact go_nx Hd.plainG [1, 2, 4, 12, 23, 37, 48, 68, 73, 75, 85, 93, 94, 96, 98, 105, 112, 114, 116, 122, 124] [fq (gn_pl hj2 0), ⟨.sl (.row 0 1) ((result11 ++ [((i2 : Nat) : Int)]).length) (rows inC (result11 ++ [((i2 : Nat) : Int)])), .sl (.row 0 1) ((result11 ++ [((i2 : Nat) : Int)]).length) (rows inC (result11 ++ [((i2 : Nat) : Int)])), (.under (unSl rfl (under_plainL _ _ (layInt.plC (result11 ++ [((i2 : Nat) : Int)])))))⟩, fq (gn_pl hj2 1), fq (gn_pl hj2 2), fq (gn_pl hj2 3), fq (gn_pl hj2 4), fq (layAr.plS c.arts), fq (layAr.plG e2)] [⟨(mbib y5b), (mbib y5b), (mB_fits (fun _ => rfl))⟩, fbp (arC x1) (layAr.pl x1), fbp (coC c) (layCo.pl c)] _ _ (runS 300 (o1 ++ [plk (lkB89 y5b e2.number hb2), pgro (gro40 (.row 0 1) result11 [((i2 : Nat) : Int)] (o := .full) (n := 1) (ns := [.sc (.int .i64 ((i2 : Nat) : Int))]) (layInt.wn [((i2 : Nat) : Int)] (.r .nil)) rfl rfl (by simp) (by simpa using hl6)), pinc i2 (by omega)])) (by kernel_rfl) (k ([(jn j2 0), (jn j2 1), .bool true, .bool true, .bool true, undef, .bool true], [(gn j2 0), (gn j2 1), (gn j2 2), (gn j2 3), (gn j2 4), .agg (arC e2), .sc undef]) (plC (gn_pl hj2 0) (plC (gn_pl hj2 1) (plC (gn_pl hj2 2) (plC (gn_pl hj2 3) (plC (gn_pl hj2 4) (plC (layAr.plG e2) (plC rfl rfl))))))))
 refine bndI fun y7 hy7 => ?_
 refine cndI (fun hv => ?_) fun hv => ?_
 subst hv
 refine limAI fun hl8 => ?_
 rintro ⟨⟩
 exact go_nx Hd.plainG [1, 2, 4, 12, 23, 37, 48, 68, 73, 75, 85, 93, 94, 96, 98, 105, 112, 114, 117, 122, 124] [fq (gn_pl hj2 0), ⟨.sl (.row 0 1) ((result11 ++ [((i2 : Nat) : Int)]).length) (rows inC (result11 ++ [((i2 : Nat) : Int)])), .sl (.row 0 1) ((result11 ++ [((i2 : Nat) : Int)]).length) (rows inC (result11 ++ [((i2 : Nat) : Int)])), (.under (unSl rfl (under_plainL _ _ (layInt.plC (result11 ++ [((i2 : Nat) : Int)])))))⟩, fq (gn_pl hj2 1), fq (gn_pl hj2 2), fq (gn_pl hj2 3), fq (gn_pl hj2 4), fq (layAr.plS c.arts), fq (layAr.plG e2), fq (layCo.plG c)] [⟨(mbib y5b), (mbib y5b), (mB_fits (fun _ => rfl))⟩, fbp (arC x1) (layAr.pl x1), fbp (coC c) (layCo.pl c)] _ _ (runS 300 (o1 ++ [plk (lkB89 y5b e2.number hb2), pcall (codex_Beats_step c ((i2 : Nat) : Int) version true hy7), pgro (gro40 (.row 0 1) result11 [((i2 : Nat) : Int)] (o := .full) (n := 1) (ns := [.sc (.int .i64 ((i2 : Nat) : Int))]) (layInt.wn [((i2 : Nat) : Int)] (.r .nil)) rfl rfl (by simp) (by simpa using hl8)), pinc i2 (by omega)])) (by kernel_rfl) (k ([(jn j2 0), (jn j2 1), .bool true, .bool false, .bool false, .bool true, .bool true], [(gn j2 0), (gn j2 1), (gn j2 2), (gn j2 3), (gn j2 4), .agg (arC e2), .agg (coC c)]) (plC (gn_pl hj2 0) (plC (gn_pl hj2 1) (plC (gn_pl hj2 2) (plC (gn_pl hj2 3) (plC (gn_pl hj2 4) (plC (layAr.plG e2) (plC (layCo.plG c) rfl))))))))
 subst hv
 rintro ⟨⟩
 exact go_nx Hd.plainG [1, 2, 4, 12, 23, 37, 48, 68, 73, 75, 85, 93, 94, 96, 98, 105, 112, 114, 117, 122, 124] [fq (gn_pl hj2 0), ⟨.sl (.row 0 1) result11.length (rows inC result11), .sl (.row 0 1) result11.length (rows inC result11), (.under (unSl rfl (under_plainL _ _ (layInt.plC result11))))⟩, fq (gn_pl hj2 1), fq (gn_pl hj2 2), fq (gn_pl hj2 3), fq (gn_pl hj2 4), fq (layAr.plS c.arts), fq (layAr.plG e2), fq (layCo.plG c)] [⟨(mbib y5b), (mbib y5b), (mB_fits (fun _ => rfl))⟩, fbp (arC x1) (layAr.pl x1), fbp (coC c) (layCo.pl c)] _ _ (runS 300 (o1 ++ [plk (lkB89 y5b e2.number hb2), pcall (codex_Beats_step c ((i2 : Nat) : Int) version false hy7), pinc i2 (by omega)])) (by kernel_rfl) (k ([(jn j2 0), (jn j2 1), .bool true, .bool false, .bool false, .bool false, .bool false], [(gn j2 0), (gn j2 1), (gn j2 2), (gn j2 3), (gn j2 4), .agg (arC e2), .agg (coC c)]) (plC (gn_pl hj2 0) (plC (gn_pl hj2 1) (plC (gn_pl hj2 2) (plC (gn_pl hj2 3) (plC (gn_pl hj2 4) (plC (layAr.plG e2) (plC (layCo.plG c) rfl))))))))
 rintro result11_9 rfl jx_9 hjx_9
 revert h
 clear hres
 dsimp only [lpK]
 intro h
 have hE := Option.some.inj h
 subst hE
 exact go_retA (v := .sl (.row 0 1) result11_9.length (rows inC result11_9)) _ _ (runX 300 []) (by kernel_rfl) .body (.wn (.s rfl .nil) (layInt.plS result11_9))
 rintro v rfl
 dsimp only [lpK] at h
 cases h
 exact .outer .body
 rintro v rfl
 dsimp only [lpK] at h
 cases h
 exact .outer .body
 rintro v rfl
 dsimp only [lpK] at h
 cases h
 exact .outer .body
end Mo
end Go.Proofs.YtnijkdknnmgoeaaGreat
namespace Go.Proofs.YtnijkdknnmgoeaaGreat
open AI Go
namespace Mo
set_option maxRecDepth 100000
set_option maxHeartbeats 4000000
noncomputable def B27 : Code := bodyOf Tryz.f27
theorem b27 : Tryz.f27.body = some B27 := by kernel_rfl
noncomputable def codex_Needs_B  (c : Co) (version : Int) : Option (List Int) := cond (ltI version 0) (some []) (cond (leI ((c.arts.length : Nat) : Int) version) (some []) ((codex_Valid_B c).bind fun y1 => cond y1 ((codex_needs_B c version).bind fun y2 => some y2) (some [])))
theorem codex_Needs_step   (c : Co) (version : Int) (yR : (List Int)) (h : codex_Needs_B  c version = some yR) : Pure P G 27 [.agg (coC c), .sc (.int .i64 version)] (.sl .lost yR.length (rows inC yR)) := by
 unfold codex_Needs_B at h
 refine pureM Hd.mixed Hd.plainG (WC_body Tryz.func27 b27 ?_) (plC (layCo.plG c) (plC rfl rfl)) (layInt.plS yR)
 revert h
 refine cndI (fun hb1 => ?_) fun hb1 => ?_
 intro h
 have hE := Option.some.inj h
 subst hE
 exact go_retA (v := .sl .full 0 []) _ _ (runS 300 [pb hb1]) (by kernel_rfl) .body (.wn (.z .nil) (layInt.plS []))
 refine cndI (fun hb2 => ?_) fun hb2 => ?_
 intro h
 have hE := Option.some.inj h
 subst hE
 exact go_retA (v := .sl .full 0 []) _ _ (runS 300 [pb hb1, pb hb2]) (by kernel_rfl) .body (.wn (.z .nil) (layInt.plS []))
 refine bndI fun y1 hy1 => ?_
 refine cndI (fun hv => ?_) fun hv => ?_
 subst hv
 refine bndI fun y2 hy2 => ?_
 intro h
 have hE := Option.some.inj h
 subst hE
 exact go_retA _ _ (runS 300 [pb hb1, pb hb2, pcall (codex_Valid_step c true hy1), pcall (codex_needs_step c version y2 hy2)]) (by kernel_rfl) .body (.plain (layInt.plS y2))
 subst hv
 intro h
 have hE := Option.some.inj h
 subst hE
 exact go_retA (v := .sl .full 0 []) _ _ (runS 300 [pb hb1, pb hb2, pcall (codex_Valid_step c false hy1)]) (by kernel_rfl) .body (.wn (.z .nil) (layInt.plS []))
noncomputable def B52 : Code := bodyOf Tryz.f52
theorem b52 : Tryz.f52.body = some B52 := by kernel_rfl
noncomputable def codex_Order_1_L1  (a2 : (Mm Int Bool)) (i0 : Nat) (e0 : Int)  : Option (Lp Unit Unit Bool) := cond ((a2.get e0).getD false) (some (.nx ())) (some (.rt false))
noncomputable def codex_Order_1_B  (version : Int) (a1 : Nat) (a1_ : (List (List Int))) (a2 : (Mm Int Bool)) : Option Bool := (idxN a1 version).bind fun k1 => (a1_[k1]?).bind fun x2 => (lim x2.length (foldL (fun i y x => codex_Order_1_L1  a2 i y ) (fun x => ()) (x2.drop 0) 0 ())).bind (lpK (fun (_ : Unit) => some true) (fun v => some v))
theorem codex_Order_1_U (version : Int) (a1 : Nat) (a1_ : (List (List Int))) (a2 : (Mm Int Bool)) (yR : Bool) (hS : Sound P G (.call 52 [.sc (.int .i64 version), .ptr 0 0, .ptr 2 0] ⟨[(3, (mbib a2)), (2, .cells [.mp 3]), (1, (.cells (rows liinC a1_))), (0, .cells [.msl 1 0 a1])], 4, [], 0⟩ (.ret (.sc (.bool yR))) ⟨[(3, (mbib a2)), (2, .cells [.mp 3]), (1, (.cells (rows liinC a1_))), (0, .cells [.msl 1 0 a1])], 4, [], 0⟩)) (u0 u1 u2 u3 : Nat) (hnb : [u0, u1, u2, u3].Nodup) (hnt : ([] : List Nat).Nodup) : Cd.ok P G (.callU 52 [.sc (.int .i64 version), .ptr u0 0, .ptr u2 0] (.ret (.sc (.bool yR))) [(u0, .cells [.msl u1 0 a1]), (u1, (.cells (rows liinC a1_))), (u2, .cells [.mp u3]), (u3, (mbib a2))] [] [(u0, .cells [.msl u1 0 a1]), (u1, (.cells (rows liinC a1_))), (u2, .cells [.mp u3]), (u3, (mbib a2))] []) :=
 frameU (M := [.cells [.msl 1 0 a1], (.cells (rows liinC a1_)), .cells [.mp 3], (mbib a2)]) (M2 := [.cells [.msl 1 0 a1], (.cells (rows liinC a1_)), .cells [.mp 3], (mbib a2)]) (T := []) (T2 := []) (k := 4) (j := 0) Hd.plainG _ _ _ _ hS rfl rfl rfl rfl rfl hnb hnt rfl rfl (.cons (.cells (.cons (.msl (by decide)) .nil)) (.cons (.cells (.pl (layLInt.plC a1_))) (.cons (.cells (.cons (.mp (by decide)) .nil)) (.cons (mB_rn (fun _ => rfl)) .nil)))) (.cons (.cells (.cons (.msl (by decide)) .nil)) (.cons (.cells (.pl (layLInt.plC a1_))) (.cons (.cells (.cons (.mp (by decide)) .nil)) (.cons (mB_rn (fun _ => rfl)) .nil)))) (.cons (.pl rfl) (.cons (.ptr (by decide)) (.cons (.ptr (by decide)) .nil))) (.pl rfl) (by
   intro e he
   simp only [List.mem_cons, List.not_mem_nil, or_false] at he
   rcases he with rfl | rfl | rfl | rfl
   · exact (.arg (.there (.here .ptr)))
   · exact (.box (p := 0) (.arg (.there (.here .ptr))) rfl (.here .msl))
   · exact (.arg (.there (.there (.here .ptr))))
   · exact (.box (p := 2) (.arg (.there (.there (.here .ptr)))) rfl (.here .mp))
   )
theorem codex_Order_1_step   (version : Int) (a1 : Nat) (a1_ : (List (List Int))) (a2 : (Mm Int Bool)) (yR : Bool) (h : codex_Order_1_B  version a1 a1_ a2 = some yR) : Sound P G (.call 52 [.sc (.int .i64 version), .ptr 0 0, .ptr 2 0] ⟨[(3, (mbib a2)), (2, .cells [.mp 3]), (1, (.cells (rows liinC a1_))), (0, .cells [.msl 1 0 a1])], 4, [], 0⟩ (.ret (.sc (.bool yR))) ⟨[(3, (mbib a2)), (2, .cells [.mp 3]), (1, (.cells (rows liinC a1_))), (0, .cells [.msl 1 0 a1])], 4, [], 0⟩) := by
 unfold codex_Order_1_B at h
 refine soundM Hd.mixed (WC_body Tryz.func52 b52 ?_)
 revert h
 refine bndI fun k1 hk1 => ?_
 refine bndI fun x2 hx2 => ?_
 refine bndI fun res hres h => ?_
 have hlen := (limE hres).1
 replace hres := (limE hres).2
 refine go_at [] [2, 4, 10, 11, 12, 13, 18, 19] 0 (sub B52 [1, 0, 1, 0, 0]) [.code (sub B52 [1, 1])] _ _ (runS 300 [pix (ixmz69 (id := 1) hk1), plb (ldm69 hx2)]) (by kernel_rfl) (foldM (fn := Tryz.f52) (m := 4) (s00 := ⟨[(3, (mbib a2)), (2, .cells [.mp 3]), (1, (.cells (rows liinC a1_))), (0, .cells [.msl 1 0 a1])], 4, [], 0⟩) (fun v => .sc (.bool v)) (fun v => ⟨[(3, (mbib a2)), (2, .cells [.mp 3]), (1, (.cells (rows liinC a1_))), (0, .cells [.msl 1 0 a1])], 4, [], 0⟩) 0 x2 (fun i0 (_ : Unit) (j0 : JJ) => frm 21 0 [(2, .ptr 2 0), (10, .sl .lost x2.length (rows inC x2)), (11, .sc (.int .i64 ((x2.length : Nat) : Int))), (12, .sc (.int .i64 ((i0 : Nat) : Int)))] [4, 13, 18, 19] 0 [] 0 j0) (fun (_ : Nat) (_ : Unit) (_ : JJ) => ⟨[(3, (mbib a2)), (2, .cells [.mp 3]), (1, (.cells (rows liinC a1_))), (0, .cells [.msl 1 0 a1])], 4, [], 0⟩) (fun (j : JJ) => plainL j.2 = true) (fun (_ : Unit) (jx : JJ) => frm 21 0 [] [4, 13, 18, 19] 0 [] 0 jx) (fun (_ : Unit) (_ : JJ) => ⟨[(3, (mbib a2)), (2, .cells [.mp 3]), (1, (.cells (rows liinC a1_))), (0, .cells [.msl 1 0 a1])], 4, [], 0⟩) (fun (j : JJ) => plainL j.2 = true) ?_ ?_ 0 hres ?_ ?_ ([.bool false], []) rfl)
 rintro i0 ⟨⟩ j0 hj0 hge hq
 clear h hres
 refine WL_rnd ?_
 exact go_ex Hd.plainG [8, 26, 36, 38] [] [⟨(mbib a2), (mbib a2), (mB_fits (fun _ => rfl))⟩, fbu [.mp 3] (unC rfl rfl), fbp (rows liinC a1_) (layLInt.plC a1_), fbu [.msl 1 0 a1] (unC rfl rfl)] 0 _ _ (runS 300 [pb (B := ltI ((i0 : Nat) : Int) ((x2.length : Nat) : Int)) (b := false) (ltF hge)]) (by kernel_rfl) (hq ([(jn j0 0), .bool false, (jn j0 2), (jn j0 3)], []) rfl)
 clear h hres
 rintro i0 e0 ⟨⟩ j0 r hj0 he0 hi0 h k
 refine WL_rnd ?_
 revert h
 show codex_Order_1_L1  a2 i0 e0  = some r → _
 unfold codex_Order_1_L1
 let o1 : List (PC P G) := [pb (B := ltI ((i0 : Nat) : Int) ((x2.length : Nat) : Int)) (b := true) (ltT hi0), pix (ix40 .lost he0)]
 refine cndI (fun hb1 => ?_) fun hb1 => ?_
 rintro ⟨⟩
 exact go_nx Hd.plainG [4, 8, 21, 22, 24, 26, 36, 38] [fq (layInt.plS x2)] [⟨(mbib a2), (mbib a2), (mB_fits (fun _ => rfl))⟩, fbu [.mp 3] (unC rfl rfl), fbp (rows liinC a1_) (layLInt.plC a1_), fbu [.msl 1 0 a1] (unC rfl rfl)] _ _ (runS 300 (o1 ++ [plk (lkB89 a2 e0 hb1), pinc i0 (by omega)])) (by kernel_rfl) (k ([(jn j0 0), .bool true, .bool true, .bool false], []) rfl)
 rintro ⟨⟩
 exact go_retM Hd.plainG _ _ [0] [] [⟨(mbib a2), (mbib a2), (mB_fits (fun _ => rfl))⟩, fbu [.mp 3] (unC rfl rfl), fbp (rows liinC a1_) (layLInt.plC a1_), fbu [.msl 1 0 a1] (unC rfl rfl)] _ _ (runS 300 (o1 ++ [plk (lkB89 a2 e0 hb1)])) (by kernel_rfl) (.rnd k)
 rintro ⟨⟩ rfl jx_3 hjx_3
 revert h
 clear hres
 dsimp only [lpK]
 intro h
 have hE := Option.some.inj h
 subst hE
 exact go_retM Hd.plainG _ _ [0] [] [⟨(mbib a2), (mbib a2), (mB_fits (fun _ => rfl))⟩, fbu [.mp 3] (unC rfl rfl), fbp (rows liinC a1_) (layLInt.plC a1_), fbu [.msl 1 0 a1] (unC rfl rfl)] _ _ (runX 300 []) (by kernel_rfl) .body
 rintro v rfl
 dsimp only [lpK] at h
 cases h
 exact .outer .body
noncomputable def B18 : Code := bodyOf Tryz.f18
theorem b18 : Tryz.f18.body = some B18 := by kernel_rfl
noncomputable def codex_Order_L1  (c : Co) (i0 : Nat) (e0 : Ar) (w1_l : (List (List Int))) : Option (Lp (List (List Int)) (List (List Int)) ((List Int) × Bool)) := (codex_needs_B c ((i0 : Nat) : Int)).bind fun y3 => (w1_l[i0]?).bind fun x4 => some (.nx (w1_l.set i0 y3))
noncomputable def codex_Order_L3  (c : Co) (w1_l_5 : (List (List Int))) (w3_m : (Mm Int Bool)) (i2 : Nat) (e2 : Ar) (next9 : Int) : Option (Lp Int Int ((List Int) × Bool)) := cond ((w3_m.get ((i2 : Nat) : Int)).getD false) (some (.nx next9)) ((codex_Order_1_B ((i2 : Nat) : Int) c.arts.length w1_l_5 w3_m).bind fun y8 => cond y8 (some (.ex ((i2 : Nat) : Int))) (some (.nx next9)))
noncomputable def codex_Order_L2  (c : Co) (w1_l_5 : (List (List Int)))  (order8 : (List Int)) (w3_m : (Mm Int Bool)) : Option (Lp ((List Int) × (Mm Int Bool)) ((List Int) × (Mm Int Bool)) ((List Int) × Bool)) := cond (ltI ((order8.length : Nat) : Int) ((c.arts.length : Nat) : Int)) ((lim c.arts.length (foldL (fun i y x => codex_Order_L3  c w1_l_5 w3_m i y x) (fun x => x) (c.arts.drop 0) 0 (-1))).bind (lpK (fun (next9_9 : Int) => cond (ltI next9_9 0) (some (.rt ([], false))) (limA (order8.length + 1) (some (.nx ((order8 ++ [next9_9]), (w3_m.set next9_9 true)))))) (fun v => some (.rt v)))) (some (.ex (order8, w3_m)))
noncomputable def codex_Order_B  (c : Co) : Option ((List Int) × Bool) := (codex_Valid_B c).bind fun y1 => cond y1 (limM (c.arts.length) ((lim c.arts.length (foldL (fun i y x => codex_Order_L1  c i y x) (fun x => x) (c.arts.drop 0) 0 (List.replicate c.arts.length []))).bind (lpK (fun (w1_l_5 : (List (List Int))) => (fixL (fun x => codex_Order_L2  c w1_l_5 x.1 x.2) ([], (Mm.nil : Mm Int Bool))).bind (lpK (fun ((order8_11, w3_m_11) : ((List Int) × (Mm Int Bool))) => some (order8_11, true)) (fun v => some v))) (fun v => some v)))) (some ([], true))
theorem codex_Order_step   (c : Co) (yR : ((List Int) × Bool)) (h : codex_Order_B  c = some yR) : Pure P G 18 [.agg (coC c)] (.tup [.sl .lost yR.1.length (rows inC yR.1), .sc (.bool yR.2)]) := by
 unfold codex_Order_B at h
 refine pureM Hd.mixed Hd.plainG (WC_body Tryz.func18 b18 ?_) (plC (layCo.plG c) rfl) (plC (layInt.plS yR.1) (plC rfl rfl))
 revert h
 refine bndI fun y1 hy1 => ?_
 refine cndI (fun hv => ?_) fun hv => ?_
 subst hv
 refine limMI fun hl2 => ?_
 refine bndI fun res hres h => ?_
 have hlen := (limE hres).1
 replace hres := (limE hres).2
 refine go_at [] [0, 1, 3, 4, 11, 12, 13, 19, 20, 21, 25, 37, 42, 46, 47, 48, 51, 52, 56] 0 (sub B18 [1, 1, 1, 0, 1, 0, 0]) [.code (sub B18 [1, 1, 1, 1])] _ _ (runS 300 [pcall (codex_Valid_step c true hy1), pmb (mkm69 (n := c.arts.length) hl2)]) (by kernel_rfl) (foldP (fn := Tryz.f18) (m := 0) (fun v => .tup [.sl .lost v.1.length (rows inC v.1), .sc (.bool v.2)]) 0 c.arts (fun i0 (w1_l : (List (List Int))) (j0 : JJ) => frm 64 0 [(1, .ptr 0 0), (4, .ptr 2 0), (19, .sc (.int .i64 ((c.arts.length : Nat) : Int))), (20, .sc (.int .i64 ((i0 : Nat) : Int)))] [3, 12, 13, 21, 37, 42, 46, 47, 48, 51, 52, 56] 0 [0, 11, 25] 0 j0) (fun (_ : Nat) (w1_l : (List (List Int))) (_ : JJ) => ⟨[(2, .cells [.msl 1 0 c.arts.length]), (1, (.cells (rows liinC w1_l))), (0, .cells (coC c))], 3, [], 0⟩) (fun (j : JJ) => plainL j.2 = true) (fun (w1_l : (List (List Int))) (jx : JJ) => frm 64 0 [(1, .ptr 0 0), (4, .ptr 2 0)] [3, 12, 13, 21, 37, 42, 46, 47, 48, 51, 52, 56] 0 [0, 11, 25] 0 jx) (fun (w1_l : (List (List Int))) (_ : JJ) => ⟨[(2, .cells [.msl 1 0 c.arts.length]), (1, (.cells (rows liinC w1_l))), (0, .cells (coC c))], 3, [], 0⟩) (fun (j : JJ) => plainL j.2 = true) ?_ ?_ 0 hres ?_ ?_ ([.bool false, .bool true, .bool false], [.agg (coC c), .agg (coC c), .sc undef]) (plC (layCo.plG c) (plC (layCo.plG c) (plC rfl rfl))))
 rintro i0 w1_l j0 hj0 hge hq
 clear h hres
 refine WL_rnd ?_
 exact go_ex Hd.plainG [1, 2, 6, 8, 23, 24, 26, 42, 51, 74, 84, 92, 94, 96, 102, 104, 112] [fq (gn_pl hj0 0), fq (gn_pl hj0 1), fq (gn_pl hj0 2)] [fbu [.msl 1 0 c.arts.length] (unC rfl rfl), fbp (rows liinC w1_l) (layLInt.plC w1_l), fbp (coC c) (layCo.pl c)] 0 _ _ (runS 300 [pb (B := ltI ((i0 : Nat) : Int) ((c.arts.length : Nat) : Int)) (b := false) (ltF hge)]) (by kernel_rfl) (hq ([(jn j0 0), (jn j0 1), (jn j0 2), .bool false, (jn j0 4), (jn j0 5), (jn j0 6), (jn j0 7), (jn j0 8), (jn j0 9), (jn j0 10), (jn j0 11)], [(gn j0 0), (gn j0 1), (gn j0 2)]) (plC (gn_pl hj0 0) (plC (gn_pl hj0 1) (plC (gn_pl hj0 2) rfl))))
 clear h hres
 rintro i0 e0 w1_l j0 r hj0 he0 hi0 h k
 refine WL_rnd ?_
 revert h
 show codex_Order_L1  c i0 e0 w1_l = some r → _
 unfold codex_Order_L1
 refine bndI fun y3 hy3 => ?_
 refine bndI fun x4 hx4 => ?_
 rintro ⟨⟩
 exact go_nx Hd.plainG [1, 2, 6, 8, 23, 24, 26, 38, 40, 42, 51, 74, 84, 92, 94, 96, 102, 104, 112] [fq (gn_pl hj0 0), fq (gn_pl hj0 1), fq (layCo.plG c)] [fbu [.msl 1 0 c.arts.length] (unC rfl rfl), fbp (rows liinC (w1_l.set i0 y3)) (layLInt.plC (w1_l.set i0 y3)), fbp (coC c) (layCo.pl c)] _ _ (runS 300 [pb (B := ltI ((i0 : Nat) : Int) ((c.arts.length : Nat) : Int)) (b := true) (ltT hi0), pz 6, pcall (codex_needs_step c ((i0 : Nat) : Int) y3 hy3), pix (ixm69 (id := 1) (n := c.arts.length) (i := i0) (by have := ltI_T (ltT hi0); omega)), psb (stm69 hx4 y3), pinc i0 (by omega)]) (by kernel_rfl) (k ([(jn j0 0), (jn j0 1), (jn j0 2), .bool true, (jn j0 4), (jn j0 5), (jn j0 6), (jn j0 7), (jn j0 8), (jn j0 9), (jn j0 10), (jn j0 11)], [(gn j0 0), (gn j0 1), .agg (coC c)]) (plC (gn_pl hj0 0) (plC (gn_pl hj0 1) (plC (layCo.plG c) rfl))))
 rintro w1_l_5 rfl jx_5 hjx_5
 revert h
 clear hres
 dsimp only [lpK]
 refine bndI fun res hres h => ?_
 refine go_at [.t 8 1] [0, 1, 3, 6, 7, 8, 11, 12, 13, 21, 25, 37, 42, 46, 47, 48, 51, 52, 56] 2 (sub B18 [1, 1, 1, 1, 1, 1, 1, 0, 0, 0]) [.code (sub B18 [1, 1, 1, 1, 1, 1, 1, 1])] _ _ (runX 300 []) (by kernel_rfl) (iterP (fn := Tryz.f18) (m := 0) (fun v => .tup [.sl .lost v.1.length (rows inC v.1), .sc (.bool v.2)]) 2 (fun ((order8, w3_m) : ((List Int) × (Mm Int Bool))) (j1 : JJ) => frm 64 0 [(1, .ptr 0 0), (6, .ptr 4 0), (7, .fn (.func 52) [] [.ptr 2 0, .ptr 4 0]), (8, .sl (.row 0 1) order8.length (rows inC order8))] [3, 12, 13, 21, 37, 42, 46, 47, 48, 51, 52, 56] 0 [0, 11, 25] 0 j1) (fun ((order8, w3_m) : ((List Int) × (Mm Int Bool))) (_ : JJ) => ⟨[(4, .cells [.mp 3]), (3, (mbib w3_m)), (2, .cells [.msl 1 0 c.arts.length]), (1, (.cells (rows liinC w1_l_5))), (0, .cells (coC c))], 5, [(0, order8.length)], 1⟩) (fun (j : JJ) => plainL j.2 = true) (fun ((order8, w3_m) : ((List Int) × (Mm Int Bool))) (jx : JJ) => frm 64 0 [(8, .sl (.row 0 1) order8.length (rows inC order8))] [3, 12, 13, 21, 37, 42, 46, 47, 48, 51, 52, 56] 0 [0, 11, 25] 0 jx) (fun ((order8, w3_m) : ((List Int) × (Mm Int Bool))) (_ : JJ) => ⟨[(4, .cells [.mp 3]), (3, (mbib w3_m)), (2, .cells [.msl 1 0 c.arts.length]), (1, (.cells (rows liinC w1_l_5))), (0, .cells (coC c))], 5, [(0, order8.length)], 1⟩) (fun (j : JJ) => plainL j.2 = true) ?_ hres ?_ ?_ ([(jn jx_5 0), (jn jx_5 1), (jn jx_5 2), (jn jx_5 3), (jn jx_5 4), (jn jx_5 5), (jn jx_5 6), (jn jx_5 7), (jn jx_5 8), (jn jx_5 9), (jn jx_5 10), (jn jx_5 11)], [(gn jx_5 0), (gn jx_5 1), (gn jx_5 2)]) (plC (gn_pl hjx_5 0) (plC (gn_pl hjx_5 1) (plC (gn_pl hjx_5 2) rfl))))
 clear h hres
 rintro ⟨order8, w3_m⟩ j1 r hj1 h k
 refine WL_rnd ?_
 revert h
 show codex_Order_L2  c w1_l_5 order8 w3_m = some r → _
 unfold codex_Order_L2
 refine cndI (fun hb4 => ?_) fun hb4 => ?_
 refine bndI fun res hres h => ?_
 have hlen := (limE hres).1
 replace hres := (limE hres).2
 refine go_at [] [0, 1, 3, 6, 7, 8, 9, 11, 12, 13, 21, 25, 37, 40, 41, 42, 46, 47, 48, 51, 52, 56] 4 (sub B18 [1, 1, 1, 1, 1, 1, 1, 0, 0, 0, 1, 0, 1, 0, 1, 0, 0]) [.code (sub B18 [1, 1, 1, 1, 1, 1, 1, 0, 0, 0, 1, 0, 1, 1]), .endb 3] _ _ (runS 300 [pb hb4]) (by kernel_rfl) (foldP (fn := Tryz.f18) (m := 0) (fun v => .tup [.sl .lost v.1.length (rows inC v.1), .sc (.bool v.2)]) 4 c.arts (fun i2 (next9 : Int) (j2 : JJ) => frm 64 0 [(1, .ptr 0 0), (6, .ptr 4 0), (7, .fn (.func 52) [] [.ptr 2 0, .ptr 4 0]), (8, .sl (.row 0 1) order8.length (rows inC order8)), (9, .sc (.int .i64 next9)), (40, .sc (.int .i64 ((c.arts.length : Nat) : Int))), (41, .sc (.int .i64 ((i2 : Nat) : Int)))] [3, 12, 13, 21, 37, 42, 46, 47, 48, 51, 52, 56] 0 [0, 11, 25] 0 j2) (fun (_ : Nat) (next9 : Int) (_ : JJ) => ⟨[(4, .cells [.mp 3]), (3, (mbib w3_m)), (2, .cells [.msl 1 0 c.arts.length]), (1, (.cells (rows liinC w1_l_5))), (0, .cells (coC c))], 5, [(0, order8.length)], 1⟩) (fun (j : JJ) => plainL j.2 = true) (fun (next9 : Int) (jx : JJ) => frm 64 0 [(1, .ptr 0 0), (6, .ptr 4 0), (7, .fn (.func 52) [] [.ptr 2 0, .ptr 4 0]), (8, .sl (.row 0 1) order8.length (rows inC order8)), (9, .sc (.int .i64 next9))] [3, 12, 13, 21, 37, 42, 46, 47, 48, 51, 52, 56] 0 [0, 11, 25] 0 jx) (fun (next9 : Int) (_ : JJ) => ⟨[(4, .cells [.mp 3]), (3, (mbib w3_m)), (2, .cells [.msl 1 0 c.arts.length]), (1, (.cells (rows liinC w1_l_5))), (0, .cells (coC c))], 5, [(0, order8.length)], 1⟩) (fun (j : JJ) => plainL j.2 = true) ?_ ?_ 0 hres ?_ ?_ ([(jn j1 0), (jn j1 1), (jn j1 2), (jn j1 3), .bool true, (jn j1 5), (jn j1 6), (jn j1 7), (jn j1 8), (jn j1 9), (jn j1 10), (jn j1 11)], [(gn j1 0), (gn j1 1), (gn j1 2)]) (plC (gn_pl hj1 0) (plC (gn_pl hj1 1) (plC (gn_pl hj1 2) rfl))))
 rintro i2 next9 j2 hj2 hge hq
 clear h hres
 refine WL_rnd ?_
 exact go_ex Hd.plainG [1, 2, 6, 12, 15, 17, 18, 23, 24, 26, 42, 51, 74, 84, 92, 94, 96, 102, 104, 112] [fq (gn_pl hj2 0), ⟨.fn (.func 52) [] [.ptr 2 0, .ptr 4 0], .fn (.func 52) [] [.ptr 2 0, .ptr 4 0], (.under (unFn rfl (unC rfl (unC rfl rfl))))⟩, ⟨.sl (.row 0 1) order8.length (rows inC order8), .sl (.row 0 1) order8.length (rows inC order8), (.under (unSl rfl (under_plainL _ _ (layInt.plC order8))))⟩, fq (gn_pl hj2 1), fq (gn_pl hj2 2)] [fbu [.mp 3] (unC rfl rfl), ⟨(mbib w3_m), (mbib w3_m), (mB_fits (fun _ => rfl))⟩, fbu [.msl 1 0 c.arts.length] (unC rfl rfl), fbp (rows liinC w1_l_5) (layLInt.plC w1_l_5), fbp (coC c) (layCo.pl c)] 4 _ _ (runS 300 [pb (B := ltI ((i2 : Nat) : Int) ((c.arts.length : Nat) : Int)) (b := false) (ltF hge)]) (by kernel_rfl) (hq ([(jn j2 0), (jn j2 1), (jn j2 2), (jn j2 3), (jn j2 4), .bool false, (jn j2 6), (jn j2 7), (jn j2 8), (jn j2 9), (jn j2 10), (jn j2 11)], [(gn j2 0), (gn j2 1), (gn j2 2)]) (plC (gn_pl hj2 0) (plC (gn_pl hj2 1) (plC (gn_pl hj2 2) rfl))))
 clear h hres
 rintro i2 e2 next9 j2 r hj2 he2 hi2 h k
 refine WL_rnd ?_
 revert h
 show codex_Order_L3  c w1_l_5 w3_m i2 e2 next9 = some r → _
 unfold codex_Order_L3
 let o1 : List (PC P G) := [pb (B := ltI ((i2 : Nat) : Int) ((c.arts.length : Nat) : Int)) (b := true) (ltT hi2)]
 refine cndI (fun hb5 => ?_) fun hb5 => ?_
 rintro ⟨⟩
 exact go_nx Hd.plainG [1, 2, 6, 12, 15, 17, 18, 23, 24, 26, 42, 51, 74, 80, 82, 84, 92, 94, 96, 102, 104, 112] [fq (gn_pl hj2 0), ⟨.fn (.func 52) [] [.ptr 2 0, .ptr 4 0], .fn (.func 52) [] [.ptr 2 0, .ptr 4 0], (.under (unFn rfl (unC rfl (unC rfl rfl))))⟩, ⟨.sl (.row 0 1) order8.length (rows inC order8), .sl (.row 0 1) order8.length (rows inC order8), (.under (unSl rfl (under_plainL _ _ (layInt.plC order8))))⟩, fq (gn_pl hj2 1), fq (gn_pl hj2 2)] [fbu [.mp 3] (unC rfl rfl), ⟨(mbib w3_m), (mbib w3_m), (mB_fits (fun _ => rfl))⟩, fbu [.msl 1 0 c.arts.length] (unC rfl rfl), fbp (rows liinC w1_l_5) (layLInt.plC w1_l_5), fbp (coC c) (layCo.pl c)] _ _ (runS 300 (o1 ++ [plk (lkB89 w3_m ((i2 : Nat) : Int) hb5), pinc i2 (by omega)])) (by kernel_rfl) (k ([(jn j2 0), (jn j2 1), (jn j2 2), (jn j2 3), (jn j2 4), .bool true, .bool true, .bool false, .bool false, undef, .bool false, (jn j2 11)], [(gn j2 0), (gn j2 1), (gn j2 2)]) (plC (gn_pl hj2 0) (plC (gn_pl hj2 1) (plC (gn_pl hj2 2) rfl))))
 refine bndI fun y8 hy8 => ?_
 refine cndI (fun hv => ?_) fun hv => ?_
 subst hv
 rintro ⟨⟩
 exact go_ex Hd.plainG [1, 2, 6, 12, 15, 17, 18, 23, 24, 26, 42, 51, 74, 84, 92, 94, 96, 102, 104, 112] [fq (gn_pl hj2 0), ⟨.fn (.func 52) [] [.ptr 2 0, .ptr 4 0], .fn (.func 52) [] [.ptr 2 0, .ptr 4 0], (.under (unFn rfl (unC rfl (unC rfl rfl))))⟩, ⟨.sl (.row 0 1) order8.length (rows inC order8), .sl (.row 0 1) order8.length (rows inC order8), (.under (unSl rfl (under_plainL _ _ (layInt.plC order8))))⟩, fq (gn_pl hj2 1), fq (gn_pl hj2 2)] [fbu [.mp 3] (unC rfl rfl), ⟨(mbib w3_m), (mbib w3_m), (mB_fits (fun _ => rfl))⟩, fbu [.msl 1 0 c.arts.length] (unC rfl rfl), fbp (rows liinC w1_l_5) (layLInt.plC w1_l_5), fbp (coC c) (layCo.pl c)] 4 _ _ (runS 300 (o1 ++ [plk (lkB89 w3_m ((i2 : Nat) : Int) hb5), pcallU (codex_Order_1_U ((i2 : Nat) : Int) c.arts.length w1_l_5 w3_m true (codex_Order_1_step ((i2 : Nat) : Int) c.arts.length w1_l_5 w3_m true hy8) 2 1 4 3 (by decide) (by decide))])) (by kernel_rfl) (k ([(jn j2 0), (jn j2 1), (jn j2 2), (jn j2 3), (jn j2 4), .bool true, .bool false, .bool true, .bool true, .bool true, .bool true, (jn j2 11)], [(gn j2 0), (gn j2 1), (gn j2 2)]) (plC (gn_pl hj2 0) (plC (gn_pl hj2 1) (plC (gn_pl hj2 2) rfl))))
 subst hv
 rintro ⟨⟩
 exact go_nx Hd.plainG [1, 2, 6, 12, 15, 17, 18, 23, 24, 26, 42, 51, 74, 80, 82, 84, 92, 94, 96, 102, 104, 112] [fq (gn_pl hj2 0), ⟨.fn (.func 52) [] [.ptr 2 0, .ptr 4 0], .fn (.func 52) [] [.ptr 2 0, .ptr 4 0], (.under (unFn rfl (unC rfl (unC rfl rfl))))⟩, ⟨.sl (.row 0 1) order8.length (rows inC order8), .sl (.row 0 1) order8.length (rows inC order8), (.under (unSl rfl (under_plainL _ _ (layInt.plC order8))))⟩, fq (gn_pl hj2 1), fq (gn_pl hj2 2)] [fbu [.mp 3] (unC rfl rfl), ⟨(mbib w3_m), (mbib w3_m), (mB_fits (fun _ => rfl))⟩, fbu [.msl 1 0 c.arts.length] (unC rfl rfl), fbp (rows liinC w1_l_5) (layLInt.plC w1_l_5), fbp (coC c) (layCo.pl c)] _ _ (runS 300 (o1 ++ [plk (lkB89 w3_m ((i2 : Nat) : Int) hb5), pcallU (codex_Order_1_U ((i2 : Nat) : Int) c.arts.length w1_l_5 w3_m false (codex_Order_1_step ((i2 : Nat) : Int) c.arts.length w1_l_5 w3_m false hy8) 2 1 4 3 (by decide) (by decide)), pinc i2 (by omega)])) (by kernel_rfl) (k ([(jn j2 0), (jn j2 1), (jn j2 2), (jn j2 3), (jn j2 4), .bool true, .bool false, .bool true, .bool true, .bool false, .bool false, (jn j2 11)], [(gn j2 0), (gn j2 1), (gn j2 2)]) (plC (gn_pl hj2 0) (plC (gn_pl hj2 1) (plC (gn_pl hj2 2) rfl))))
 rintro next9_9 rfl jx_9 hjx_9
 revert h
 clear hres
 dsimp only [lpK]
 refine cndI (fun hb6 => ?_) fun hb6 => ?_
 rintro ⟨⟩
 exact go_retA (v := .tup [.sl .full 0 [], .sc (.bool false)]) _ _ (runX 300 [pb hb6]) (by kernel_rfl) (.rnd k) (.wn (.u (.z (.r .nil)) .nil) (plC (layInt.plS []) (plC rfl rfl)))
 refine limAI fun hl10 => ?_
 rintro ⟨⟩
 exact go_nx Hd.plainG [1, 2, 6, 12, 15, 17, 23, 24, 26, 42, 51, 74, 84, 92, 94, 96, 102, 104, 112] [fq (gn_pl hjx_9 0), ⟨.fn (.func 52) [] [.ptr 2 0, .ptr 4 0], .fn (.func 52) [] [.ptr 2 0, .ptr 4 0], (.under (unFn rfl (unC rfl (unC rfl rfl))))⟩, ⟨.sl (.row 0 1) ((order8 ++ [next9_9]).length) (rows inC (order8 ++ [next9_9])), .sl (.row 0 1) ((order8 ++ [next9_9]).length) (rows inC (order8 ++ [next9_9])), (.under (unSl rfl (under_plainL _ _ (layInt.plC (order8 ++ [next9_9])))))⟩, fq (gn_pl hjx_9 1), fq (gn_pl hjx_9 2)] [fbu [.mp 3] (unC rfl rfl), ⟨(mbib (w3_m.set next9_9 true)), (mbib (w3_m.set next9_9 true)), (mB_fits (fun _ => rfl))⟩, fbu [.msl 1 0 c.arts.length] (unC rfl rfl), fbp (rows liinC w1_l_5) (layLInt.plC w1_l_5), fbp (coC c) (layCo.pl c)] _ _ (runX 300 [pb hb6, pms (ms89 w3_m next9_9 true), pgro (gro40 (.row 0 1) order8 [next9_9] (o := .full) (n := 1) (ns := [.sc (.int .i64 next9_9)]) (layInt.wn [next9_9] (.r .nil)) rfl rfl (by simp) (by simpa using hl10))]) (by kernel_rfl) (k ([(jn jx_9 0), (jn jx_9 1), (jn jx_9 2), (jn jx_9 3), (jn jx_9 4), (jn jx_9 5), (jn jx_9 6), (jn jx_9 7), (jn jx_9 8), (jn jx_9 9), (jn jx_9 10), .bool false], [(gn jx_9 0), (gn jx_9 1), (gn jx_9 2)]) (plC (gn_pl hjx_9 0) (plC (gn_pl hjx_9 1) (plC (gn_pl hjx_9 2) rfl))))
 rintro v rfl
 dsimp only [lpK] at h
 cases h
 exact .outer (.rnd k)
 rintro ⟨⟩
 exact go_ex Hd.plainG [1, 6, 17, 23, 24, 26, 42, 51, 74, 84, 92, 94, 96, 102, 104, 112] [fq (gn_pl hj1 0), ⟨.sl (.row 0 1) order8.length (rows inC order8), .sl (.row 0 1) order8.length (rows inC order8), (.under (unSl rfl (under_plainL _ _ (layInt.plC order8))))⟩, fq (gn_pl hj1 1), fq (gn_pl hj1 2)] [fbu [.mp 3] (unC rfl rfl), ⟨(mbib w3_m), (mbib w3_m), (mB_fits (fun _ => rfl))⟩, fbu [.msl 1 0 c.arts.length] (unC rfl rfl), fbp (rows liinC w1_l_5) (layLInt.plC w1_l_5), fbp (coC c) (layCo.pl c)] 2 _ _ (runS 300 [pb hb4]) (by kernel_rfl) (k ([(jn j1 0), (jn j1 1), (jn j1 2), (jn j1 3), .bool false, (jn j1 5), (jn j1 6), (jn j1 7), (jn j1 8), (jn j1 9), (jn j1 10), (jn j1 11)], [(gn j1 0), (gn j1 1), (gn j1 2)]) (plC (gn_pl hj1 0) (plC (gn_pl hj1 1) (plC (gn_pl hj1 2) rfl))))
 rintro ⟨order8_11, w3_m_11⟩ rfl jx_11 hjx_11
 revert h
 clear hres
 dsimp only [lpK]
 intro h
 have hE := Option.some.inj h
 subst hE
 exact go_retA (v := .tup [.sl (.row 0 1) order8_11.length (rows inC order8_11), .sc (.bool true)]) _ _ (runX 300 []) (by kernel_rfl) .body (.wn (.u (.s rfl (.r .nil)) .nil) (plC (layInt.plS order8_11) (plC rfl rfl)))
 rintro v rfl
 dsimp only [lpK] at h
 cases h
 exact .outer .body
 rintro v rfl
 dsimp only [lpK] at h
 cases h
 exact .outer .body
 subst hv
 intro h
 have hE := Option.some.inj h
 subst hE
 exact go_retA (v := .tup [.sl .full 0 [], .sc (.bool true)]) _ _ (runS 300 [pcall (codex_Valid_step c false hy1)]) (by kernel_rfl) .body (.wn (.u (.z (.r .nil)) .nil) (plC (layInt.plS []) (plC rfl rfl)))
end Mo
end Go.Proofs.YtnijkdknnmgoeaaGreat
namespace Go.Proofs.YtnijkdknnmgoeaaGreat
open AI Go
namespace Mo
theorem lower_s (c : Int) : ref06_Lower_B c = some (mb (97 ≤ c ∧ c ≤ 122)) := by
 unfold ref06_Lower_B
 simp only [c_le, c_lt, c_eq, c_eqB, c_mb, m_tf, m_ff, m_qf, m_fq, m_qt, m_tq, m_qr, Option.bind_some]
theorem digit_s (c : Int) : ref06_Digit_B c = some (mb (48 ≤ c ∧ c ≤ 57)) := by
 unfold ref06_Digit_B
 simp only [c_le, c_lt, c_eq, c_eqB, c_mb, m_tf, m_ff, m_qf, m_fq, m_qt, m_tq, m_qr, Option.bind_some]
theorem upper_s (c : Int) : ref06_Upper_B c = some (mb (65 ≤ c ∧ c ≤ 90)) := by
 unfold ref06_Upper_B
 simp only [c_le, c_lt, c_eq, c_eqB, c_mb, m_tf, m_ff, m_qf, m_fq, m_qt, m_tq, m_qr, Option.bind_some]
theorem in_s (l : List ByteArray) (s : ByteArray) (hl : l.length ≤ 9223372036854775807) : ref07_In_B l s = some (mb (s ∈ l)) := by
 unfold ref07_In_B
 rw [k_loop (v := true) (P := fun _ y => ¬ y = s) hl (fun i y _ => by
   unfold ref07_In_L1
   simp only [c_eqB, k_rn])]
 simp only [m_ff]
 congr 1
 apply mb_congr
 constructor
 · intro h
   exact Classical.byContradiction fun hn => h fun i y hy e => hn (e ▸ List.mem_of_getElem? hy)
 · intro h hn
   obtain ⟨i, hi⟩ := List.getElem?_of_mem h
   exact hn i s hi rfl
def curP (s : ByteArray) : Prop := s.data.toList.length = 3 ∧ ∀ c ∈ s.data.toList, 65 ≤ c.toNat ∧ c.toNat ≤ 90
theorem cur_s (s : ByteArray) : ref07_Cur_B s = some (mb (curP s)) := by
 unfold ref07_Cur_B
 rw [c_eq]
 unfold curP
 by_cases h : s.data.toList.length = 3
 · rw [iff_T (by omega)]
   generalize s.data.toList = l at h
   match l, h with
   | [a, b, c], _ =>
     simp only [List.getElem?_cons_zero, List.getElem?_cons_succ, Option.bind_some, upper_s, c_mb, m_qf]
     congr 1
     apply mb_congr
     simp only [List.length_cons, List.length_nil, List.mem_cons, List.not_mem_nil, or_false, true_and, forall_eq_or_imp, forall_eq]
     omega
 · rw [iff_F (by omega)]
   congr 1
   cases hm : mb (s.data.toList.length = 3 ∧ ∀ c ∈ s.data.toList, 65 ≤ c.toNat ∧ c.toNat ≤ 90)
   · rfl
   · exact absurd (mb_true.1 hm).1 h
def unitP (s : ByteArray) : Prop := s = truthS ∨ s = numberS ∨ s = minutesS ∨ curP s
theorem unit_s (s : ByteArray) : ref10_Unit_B s = some (mb (unitP s)) := by
 unfold ref10_Unit_B
 simp only [c_eqB, cur_s, Option.bind_some, m_tq]
 rfl
def wordN (c : UInt8) : Prop := (97 ≤ c.toNat ∧ c.toNat ≤ 122) ∨ (48 ≤ c.toNat ∧ c.toNat ≤ 57) ∨ c.toNat = 95
def keysL : List ByteArray := [factS, lineS, articleS, forS, rankS, fromS, toS, knownS, whenS, unlessS, amountS, truthS, numberS, minutesS, minS, earnS, deductS, floorS, infoS, orS, andS, notS, atS, trueS, falseS, artS, weekdayS, dayS, monthS, yearS, leastS, greatestS, tableS]
def nameP (s : ByteArray) : Prop := (1 ≤ s.data.toList.length ∧ s.data.toList.length ≤ 16) ∧ (∃ b, s.data.toList[0]? = some b ∧ 97 ≤ b.toNat ∧ b.toNat ≤ 122) ∧ s ∉ keysL ∧ ∀ c ∈ s.data.toList, wordN c
theorem mem_at {α : Type} {l : List α} {P : α → Prop} : (∀ (i : Nat) (y : α), l[i]? = some y → P y) ↔ ∀ y ∈ l, P y :=
 ⟨fun h y hy => (List.getElem?_of_mem hy).elim fun i hi => h i y hi, fun h i y hi => h y (List.mem_of_getElem? hi)⟩
theorem keys_s : ref07_Keys_B = some keysL := rfl
theorem name_s (s : ByteArray) : ref07_Name_B s = some (mb (nameP s)) := by
 unfold ref07_Name_B
 rw [c_lt, c_lt]
 unfold nameP
 by_cases h0 : ((s.data.toList.length : Nat) : Int) < 1
 · rw [iff_T h0, mbF]
   congr 1
   exact mb_congr ⟨fun h => h.elim, fun h => by omega⟩
 rw [iff_F h0]
 by_cases h1 : 16 < ((s.data.toList.length : Nat) : Int)
 · rw [iff_T h1, mbF]
   congr 1
   exact mb_congr ⟨fun h => h.elim, fun h => by omega⟩
 rw [iff_F h1]
 obtain ⟨b, hb⟩ : ∃ b, s.data.toList[0]? = some b := ⟨_, List.getElem?_eq_getElem (by omega)⟩
 rw [hb, k_loop (v := false) (P := fun _ y => wordN y) (by omega) (fun i y _ => by
   unfold ref07_Name_L1
   simp only [lower_s, digit_s, Option.bind_some, c_mb, c_eq, k_nr, k_nq]
   congr 2
   unfold wordN
   apply propext
   omega)]
 simp only [Option.bind_some, lower_s, keys_s, in_s keysL s (by decide), c_mb, m_tf, m_fq, m_qf, mem_at]
 congr 1
 apply mb_congr
 constructor
 · rintro ⟨h2, h3, h4⟩
   exact ⟨by omega, ⟨b, rfl, by omega⟩, h3, h4⟩
 · rintro ⟨h2, ⟨c, hc, h3⟩, h4, h5⟩
   cases hc
   exact ⟨by omega, h4, h5⟩
end Mo
end Go.Proofs.YtnijkdknnmgoeaaGreat
namespace Go.Proofs.YtnijkdknnmgoeaaGreat
open AI Go
namespace Mo
set_option maxRecDepth 100000
set_option maxHeartbeats 4000000
def okDc (_ : Dc) : Prop := True
def okPc (_ : Pc) : Prop := True
def okFn (x : Fn) : Prop := x.ps.length ≤ 9223372036854775807
mutual
def okEx : Ex → Prop
 | ⟨op, n, unit, tab, kids⟩ => okFn tab ∧ kids.length ≤ 9223372036854775807 ∧ okExs kids
def okExs : List Ex → Prop
 | [] => True
 | k :: ks => okEx k ∧ okExs ks
end
theorem okExs_iff {l : List Ex} : okExs l ↔ ∀ k ∈ l, okEx k := by
 induction l with
 | nil => simp [okExs]
 | cons k l ih => simp [okExs, ih]
theorem okEx_iff (x : Ex) : okEx x ↔ okFn x.tab ∧ x.kids.length ≤ 9223372036854775807 ∧ ∀ y ∈ x.kids, okEx y := by
 cases x; rw [okEx, okExs_iff]
def okAr (x : Ar) : Prop := x.wh.length ≤ 9223372036854775807 ∧ (∀ y ∈ x.wh, okEx y) ∧ x.un.length ≤ 9223372036854775807 ∧ okEx x.am
def okCo (x : Co) : Prop := x.facts.length ≤ 9223372036854775807 ∧ x.lines.length ≤ 9223372036854775807 ∧ x.arts.length ≤ 9223372036854775807 ∧ (∀ y ∈ x.arts, okAr y)
end Mo
end Go.Proofs.YtnijkdknnmgoeaaGreat
