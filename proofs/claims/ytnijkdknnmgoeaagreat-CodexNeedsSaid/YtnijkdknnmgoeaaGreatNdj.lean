/- Part of a proof: see the last text. -/
import Derived.Test.YtnijkdknnmgoeaaGreatNdi
namespace Go.Proofs.YtnijkdknnmgoeaaGreat
open AI Go
namespace Mo
set_option maxRecDepth 100000
set_option maxHeartbeats 4000000
noncomputable def B118 : Code := bodyOf Tryz.f118
theorem b118 : Tryz.f118.body = some B118 := by kernel_rfl
noncomputable def ref10_Count_L1 (r_ref10_Count : Ex → Int → Option Int) (limit : Int) (i0 : Nat) (e0 : Ex) (n5 : Int) : Option (Lp Int Int Int) := cond (ltI n5 limit) ((r_ref10_Count e0 (wsub limit n5)).bind fun y1 => some (.nx (wadd n5 y1))) (some (.ex n5))
noncomputable def ref10_Count_B (r_ref10_Count : Ex → Int → Option Int) (e : Ex) (limit : Int) : Option Int := cond (leI limit 0) (some 0) ((lim e.kids.length (foldL (fun i y x => ref10_Count_L1 r_ref10_Count limit i y x) (fun x => x) (e.kids.drop 0) 0 1)).bind (lpK (fun (n5_2 : Int) => some n5_2) (fun v => some v)))
theorem ref10_Count_step (r_ref10_Count : Ex → Int → Option Int) (hr_ref10_Count : ∀ (e : Ex) (limit : Int) (yR : Int), r_ref10_Count e limit = some yR → Pure P G 118 [.agg (exC e), .sc (.int .i64 limit)] (.sc (.int .i64 yR))) (e : Ex) (limit : Int) (yR : Int) (h : ref10_Count_B r_ref10_Count e limit = some yR) : Pure P G 118 [.agg (exC e), .sc (.int .i64 limit)] (.sc (.int .i64 yR)) := by
 unfold ref10_Count_B at h
 refine pureM Hd.mixed Hd.plainG (WC_body Tryz.func118 b118 ?_) (plC (layEx.plG e) (plC rfl rfl)) rfl
 revert h
 refine cndI (fun hb1 => ?_) fun hb1 => ?_
 rintro ⟨⟩
 exact rS (runS 300 [pb hb1]) (by kernel_rfl)
 refine bndI fun res hres h => ?_
 have hlen := (limE hres).1
 replace hres := (limE hres).2
 refine go_at [] [0, 1, 2, 5, 6, 8, 13, 14, 17, 18, 26] 0 (sub B118 [1, 1, 1, 0, 1, 0, 0]) [.code (sub B118 [1, 1, 1, 1])] _ _ (runS 300 [pb hb1]) (by kernel_rfl) (foldP (fn := Tryz.f118) (m := 0) (fun v => .sc (.int .i64 v)) 0 e.kids (fun i0 (n5 : Int) (j0 : JJ) => frm 33 0 [(1, .sc (.int .i64 limit)), (2, .ptr 0 0), (5, .sc (.int .i64 n5)), (6, .sc (.int .i64 ((i0 : Nat) : Int)))] [8, 13, 14, 17, 18] 0 [0, 26] 0 j0) (fun (_ : Nat) (n5 : Int) (_ : JJ) => ⟨[(0, .cells (exC e))], 1, [], 0⟩) (fun (j : JJ) => plainL j.2 = true) (fun (n5 : Int) (jx : JJ) => frm 33 0 [(5, .sc (.int .i64 n5))] [8, 13, 14, 17, 18] 0 [0, 26] 0 jx) (fun (n5 : Int) (_ : JJ) => ⟨[(0, .cells (exC e))], 1, [], 0⟩) (fun (j : JJ) => plainL j.2 = true) ?_ ?_ 0 hres ?_ ?_ ([.bool false], [.agg (exC e), .sc undef]) (plC (layEx.plG e) (plC rfl rfl)))
 rintro i0 n5 j0 hj0 hge hq
 clear h hres
 refine WL_rnd ?_
 exact go_ex Hd.plainG [1, 10, 16, 26, 28, 34, 36, 53] [fq (gn_pl hj0 0), fq (gn_pl hj0 1)] [fbp (exC e) (layEx.pl e)] 0 _ _ (runS 300 [pb (B := ltI ((i0 : Nat) : Int) ((e.kids.length : Nat) : Int)) (b := false) (ltF hge)]) (by kernel_rfl) (hq ([(jn j0 0), .bool false, .bool false, undef, .bool false], [(gn j0 0), (gn j0 1)]) (plC (gn_pl hj0 0) (plC (gn_pl hj0 1) rfl)))
 clear h hres
 rintro i0 e0 n5 j0 r hj0 he0 hi0 h k
 refine WL_rnd ?_
 revert h
 show ref10_Count_L1 r_ref10_Count limit i0 e0 n5 = some r → _
 unfold ref10_Count_L1
 let o1 : List (PC P G) := [pb (B := ltI ((i0 : Nat) : Int) ((e.kids.length : Nat) : Int)) (b := true) (ltT hi0)]
 refine cndI (fun hb2 => ?_) fun hb2 => ?_
 refine bndI fun y1 hy1 => ?_
 rintro ⟨⟩
 exact go_nx Hd.plainG [1, 2, 4, 10, 12, 16, 26, 28, 34, 36, 53] [fq (gn_pl hj0 0), fq (layEx.plG e0)] [fbp (exC e) (layEx.pl e)] _ _ (runS 300 (o1 ++ [pb hb2, pix (ix58 .lost he0), pk, pcall (hr_ref10_Count e0 (wsub limit n5) y1 hy1), pk, pinc i0 (by omega)])) (by kernel_rfl) (k ([(jn j0 0), .bool true, .bool true, .bool true, .bool true], [(gn j0 0), .agg (exC e0)]) (plC (gn_pl hj0 0) (plC (layEx.plG e0) rfl)))
 rintro ⟨⟩
 exact go_ex Hd.plainG [1, 10, 16, 26, 28, 34, 36, 53] [fq (gn_pl hj0 0), fq (gn_pl hj0 1)] [fbp (exC e) (layEx.pl e)] 0 _ _ (runS 300 (o1 ++ [pb hb2])) (by kernel_rfl) (k ([(jn j0 0), .bool true, .bool true, .bool false, .bool false], [(gn j0 0), (gn j0 1)]) (plC (gn_pl hj0 0) (plC (gn_pl hj0 1) rfl)))
 rintro n5_2 rfl jx_2 hjx_2
 revert h
 clear hres
 dsimp only [lpK]
 intro h
 have hE := Option.some.inj h
 subst hE
 exact go_retA _ _ (runX 300 []) (by kernel_rfl) .body .sc
 rintro v rfl
 dsimp only [lpK] at h
 cases h
 exact .outer .body
noncomputable def ref10_Count_M : Nat → Ex → Int → Option Int
 | 0, _, _ => none
 | qn + 1, e, limit => ref10_Count_B (ref10_Count_M qn) e limit
theorem ref10_Count_all : ∀ qn : Nat, ∀ (e : Ex) (limit : Int) (yR : Int), ref10_Count_M qn e limit = some yR → Pure P G 118 [.agg (exC e), .sc (.int .i64 limit)] (.sc (.int .i64 yR)) := by
 intro qn
 induction qn with
 | zero => exact (fun _ _ _ h => by simp only [ref10_Count_M] at h; cases h)
 | succ qn ih => exact (fun e limit yR h => ref10_Count_step _ ih e limit yR (by rw [ref10_Count_M] at h; exact h))
noncomputable def ref10_Count_R (e : Ex) (limit : Int) : Option Int := evt (fun qn => ref10_Count_M qn e limit)
theorem ref10_Count_ok (e : Ex) (limit : Int) (yR : Int) (h : ref10_Count_R e limit = some yR) : Pure P G 118 [.agg (exC e), .sc (.int .i64 limit)] (.sc (.int .i64 yR)) := by
 obtain ⟨qn, h⟩ := evtE h
 exact (ref10_Count_all qn) e limit yR h
noncomputable def B75 : Code := bodyOf Tryz.f75
theorem b75 : Tryz.f75.body = some B75 := by kernel_rfl
noncomputable def ref10_Small_B  (e : Ex) (limit : Int) : Option Bool := (ref10_Count_R e (wadd limit 1)).bind fun y1 => cond (leI y1 limit) (some true) (some false)
theorem ref10_Small_step   (e : Ex) (limit : Int) (yR : Bool) (h : ref10_Small_B  e limit = some yR) : Pure P G 75 [.agg (exC e), .sc (.int .i64 limit)] (.sc (.bool yR)) := by
 unfold ref10_Small_B at h
 refine pureM Hd.mixed Hd.plainG (WC_body Tryz.func75 b75 ?_) (plC (layEx.plG e) (plC rfl rfl)) rfl
 revert h
 refine bndI fun y1 hy1 => ?_
 refine cndI (fun hb1 => ?_) fun hb1 => ?_
 rintro ⟨⟩
 exact rS (runS 300 [pk, pcall (ref10_Count_ok e (wadd limit 1) y1 hy1), pb hb1]) (by kernel_rfl)
 rintro ⟨⟩
 exact rS (runS 300 [pk, pcall (ref10_Count_ok e (wadd limit 1) y1 hy1), pb hb1]) (by kernel_rfl)
noncomputable def B44 : Code := bodyOf Tryz.f44
theorem b44 : Tryz.f44.body = some B44 := by kernel_rfl
noncomputable def ref10_Few_L2  (limit : Int) (i1 : Nat) (e1 : Ex)  : Option (Lp Unit Unit Bool) := (ref10_Small_B e1 limit).bind fun y2 => cond y2 (some (.nx ())) (some (.rt false))
noncomputable def ref10_Few_L1  (limit : Int) (i0 : Nat) (e0 : Ar)  : Option (Lp Unit Unit Bool) := cond (ltI 40 ((e0.wh.length : Nat) : Int)) (some (.rt false)) (cond (ltI 80 ((e0.un.length : Nat) : Int)) (some (.rt false)) ((ref10_Small_B e0.am limit).bind fun y1 => cond y1 ((lim e0.wh.length (foldL (fun i y x => ref10_Few_L2  limit i y ) (fun x => ()) (e0.wh.drop 0) 0 ())).bind (lpK (fun (_ : Unit) => some (.nx ())) (fun v => some (.rt v)))) (some (.rt false))))
noncomputable def ref10_Few_B  (c : Co) (limit : Int) : Option Bool := cond (ltI 40 ((c.facts.length : Nat) : Int)) (some false) (cond (ltI 40 ((c.lines.length : Nat) : Int)) (some false) (cond (ltI 70 ((c.arts.length : Nat) : Int)) (some false) ((lim c.arts.length (foldL (fun i y x => ref10_Few_L1  limit i y ) (fun x => ()) (c.arts.drop 0) 0 ())).bind (lpK (fun (_ : Unit) => some true) (fun v => some v)))))
theorem ref10_Few_step   (c : Co) (limit : Int) (yR : Bool) (h : ref10_Few_B  c limit = some yR) : Pure P G 44 [.agg (coC c), .sc (.int .i64 limit)] (.sc (.bool yR)) := by
 unfold ref10_Few_B at h
 refine pureM Hd.mixed Hd.plainG (WC_body Tryz.func44 b44 ?_) (plC (layCo.plG c) (plC rfl rfl)) rfl
 revert h
 refine cndI (fun hb1 => ?_) fun hb1 => ?_
 rintro ⟨⟩
 exact rS (runS 300 [pb hb1]) (by kernel_rfl)
 refine cndI (fun hb2 => ?_) fun hb2 => ?_
 rintro ⟨⟩
 exact rS (runS 300 [pb hb1, pb hb2]) (by kernel_rfl)
 refine cndI (fun hb3 => ?_) fun hb3 => ?_
 rintro ⟨⟩
 exact rS (runS 300 [pb hb1, pb hb2, pb hb3]) (by kernel_rfl)
 refine bndI fun res hres h => ?_
 have hlen := (limE hres).1
 replace hres := (limE hres).2
 refine go_at [] [0, 1, 2, 4, 5, 11, 12, 16, 17, 18, 22, 23, 28, 35, 39, 40, 44, 45, 46, 48, 50, 51, 52, 57, 64, 66, 67] 0 (sub B44 [1, 1, 0, 1, 0, 0]) [.code (sub B44 [1, 1, 1])] _ _ (runS 300 [pb hb1, pb hb2, pb hb3]) (by kernel_rfl) (foldP (fn := Tryz.f44) (m := 0) (fun v => .sc (.bool v)) 0 c.arts (fun i0 (_ : Unit) (j0 : JJ) => frm 68 0 [(1, .sc (.int .i64 limit)), (2, .ptr 0 0), (5, .sc (.int .i64 ((i0 : Nat) : Int)))] [4, 11, 12, 16, 17, 18, 22, 23, 28, 39, 40, 44, 45, 46, 50, 51, 52, 57, 66, 67] 0 [0, 35, 48, 64] 0 j0) (fun (_ : Nat) (_ : Unit) (_ : JJ) => ⟨[(0, .cells (coC c))], 1, [], 0⟩) (fun (j : JJ) => plainL j.2 = true) (fun (_ : Unit) (jx : JJ) => frm 68 0 [] [4, 11, 12, 16, 17, 18, 22, 23, 28, 39, 40, 44, 45, 46, 50, 51, 52, 57, 66, 67] 0 [0, 35, 48, 64] 0 jx) (fun (_ : Unit) (_ : JJ) => ⟨[(0, .cells (coC c))], 1, [], 0⟩) (fun (j : JJ) => plainL j.2 = true) ?_ ?_ 0 hres ?_ ?_ ([.bool false, .bool false, .bool false, .bool false, .bool false, .bool false, .bool false, .bool false], [.agg (coC c), .sc undef, .sc undef, .sc undef]) (plC (layCo.plG c) (plC rfl (plC rfl (plC rfl rfl)))))
 rintro i0 ⟨⟩ j0 hj0 hge hq
 clear h hres
 refine WL_rnd ?_
 exact go_ex Hd.plainG [1, 8, 22, 24, 32, 34, 36, 44, 46, 56, 71, 78, 80, 88, 90, 92, 97, 100, 102, 104, 114, 129, 132, 134] [fq (gn_pl hj0 0), fq (gn_pl hj0 1), fq (gn_pl hj0 2), fq (gn_pl hj0 3)] [fbp (coC c) (layCo.pl c)] 0 _ _ (runS 300 [pb (B := ltI ((i0 : Nat) : Int) ((c.arts.length : Nat) : Int)) (b := false) (ltF hge)]) (by kernel_rfl) (hq ([(jn j0 0), (jn j0 1), (jn j0 2), (jn j0 3), (jn j0 4), (jn j0 5), (jn j0 6), (jn j0 7), .bool false, (jn j0 9), (jn j0 10), (jn j0 11), (jn j0 12), (jn j0 13), (jn j0 14), (jn j0 15), (jn j0 16), (jn j0 17), (jn j0 18), (jn j0 19)], [(gn j0 0), (gn j0 1), (gn j0 2), (gn j0 3)]) (plC (gn_pl hj0 0) (plC (gn_pl hj0 1) (plC (gn_pl hj0 2) (plC (gn_pl hj0 3) rfl)))))
 clear h hres
 rintro i0 e0 ⟨⟩ j0 r hj0 he0 hi0 h k
 refine WL_rnd ?_
 revert h
 show ref10_Few_L1  limit i0 e0  = some r → _
 unfold ref10_Few_L1
 let o1 : List (PC P G) := [pb (B := ltI ((i0 : Nat) : Int) ((c.arts.length : Nat) : Int)) (b := true) (ltT hi0), pix (ix29 .lost he0)]
 refine cndI (fun hb4 => ?_) fun hb4 => ?_
 rintro ⟨⟩
 exact go_retA _ _ (runS 300 (o1 ++ [pb hb4])) (by kernel_rfl) (.rnd k) .sc
 refine cndI (fun hb5 => ?_) fun hb5 => ?_
 rintro ⟨⟩
 exact go_retA _ _ (runS 300 (o1 ++ [pb hb4, pb hb5])) (by kernel_rfl) (.rnd k) .sc
 refine bndI fun y1 hy1 => ?_
 refine cndI (fun hv => ?_) fun hv => ?_
 subst hv
 refine bndI fun res hres h => ?_
 have hlen := (limE hres).1
 replace hres := (limE hres).2
 refine go_at [] [0, 1, 2, 4, 5, 6, 7, 11, 12, 16, 17, 18, 22, 23, 28, 35, 39, 40, 44, 45, 46, 48, 50, 51, 52, 57, 64, 66, 67] 2 (sub B44 [1, 1, 0, 1, 0, 0, 1, 0, 0, 1, 1, 1, 0, 0]) [.endb 1, .code (sub B44 [1, 1, 0, 1, 0, 0, 1, 1])] _ _ (runS 300 (o1 ++ [pb hb4, pb hb5, pcall (ref10_Small_step e0.am limit true hy1)])) (by kernel_rfl) (foldP (fn := Tryz.f44) (m := 0) (fun v => .sc (.bool v)) 2 e0.wh (fun i1 (_ : Unit) (j1 : JJ) => frm 68 0 [(1, .sc (.int .i64 limit)), (2, .ptr 0 0), (5, .sc (.int .i64 ((i0 : Nat) : Int))), (6, .ptr 1 0), (7, .sc (.int .i64 ((i1 : Nat) : Int)))] [4, 11, 12, 16, 17, 18, 22, 23, 28, 39, 40, 44, 45, 46, 50, 51, 52, 57, 66, 67] 0 [0, 35, 48, 64] 0 j1) (fun (_ : Nat) (_ : Unit) (_ : JJ) => ⟨[(1, .cells (arC e0)), (0, .cells (coC c))], 2, [], 0⟩) (fun (j : JJ) => plainL j.2 = true) (fun (_ : Unit) (jx : JJ) => frm 68 0 [(1, .sc (.int .i64 limit)), (2, .ptr 0 0), (5, .sc (.int .i64 ((i0 : Nat) : Int)))] [4, 11, 12, 16, 17, 18, 22, 23, 28, 39, 40, 44, 45, 46, 50, 51, 52, 57, 66, 67] 0 [0, 35, 48, 64] 0 jx) (fun (_ : Unit) (_ : JJ) => ⟨[(1, .cells (arC e0)), (0, .cells (coC c))], 2, [], 0⟩) (fun (j : JJ) => plainL j.2 = true) ?_ ?_ 0 hres ?_ ?_ ([(jn j0 0), (jn j0 1), (jn j0 2), (jn j0 3), (jn j0 4), (jn j0 5), (jn j0 6), (jn j0 7), .bool true, .bool false, .bool false, .bool false, .bool false, .bool false, .bool true, .bool false, .bool false, (jn j0 17), (jn j0 18), (jn j0 19)], [(gn j0 0), .agg (arC e0), .agg (exC e0.am), (gn j0 3)]) (plC (gn_pl hj0 0) (plC (layAr.plG e0) (plC (layEx.plG e0.am) (plC (gn_pl hj0 3) rfl)))))
 rintro i1 ⟨⟩ j1 hj1 hge hq
 clear h hres
 refine WL_rnd ?_
 exact go_ex Hd.plainG [1, 2, 4, 8, 10, 22, 24, 32, 34, 36, 44, 46, 56, 71, 78, 80, 88, 90, 92, 97, 100, 102, 104, 114, 129, 132, 134] [fq (gn_pl hj1 0), fq (gn_pl hj1 1), fq (gn_pl hj1 2), fq (gn_pl hj1 3)] [fbp (arC e0) (layAr.pl e0), fbp (coC c) (layCo.pl c)] 2 _ _ (runS 300 [pb (B := ltI ((i1 : Nat) : Int) ((e0.wh.length : Nat) : Int)) (b := false) (ltF hge)]) (by kernel_rfl) (hq ([(jn j1 0), (jn j1 1), (jn j1 2), (jn j1 3), (jn j1 4), (jn j1 5), (jn j1 6), (jn j1 7), (jn j1 8), (jn j1 9), (jn j1 10), (jn j1 11), (jn j1 12), (jn j1 13), (jn j1 14), (jn j1 15), (jn j1 16), .bool false, (jn j1 18), (jn j1 19)], [(gn j1 0), (gn j1 1), (gn j1 2), (gn j1 3)]) (plC (gn_pl hj1 0) (plC (gn_pl hj1 1) (plC (gn_pl hj1 2) (plC (gn_pl hj1 3) rfl)))))
 clear h hres
 rintro i1 e1 ⟨⟩ j1 r hj1 he1 hi1 h k
 refine WL_rnd ?_
 revert h
 show ref10_Few_L2  limit i1 e1  = some r → _
 unfold ref10_Few_L2
 refine bndI fun y2 hy2 => ?_
 let o2 : List (PC P G) := [pb (B := ltI ((i1 : Nat) : Int) ((e0.wh.length : Nat) : Int)) (b := true) (ltT hi1), pix (ix58 .lost he1)]
 refine cndI (fun hv => ?_) fun hv => ?_
 subst hv
 rintro ⟨⟩
 exact go_nx Hd.plainG [1, 2, 4, 8, 10, 12, 14, 22, 24, 32, 34, 36, 44, 46, 56, 71, 78, 80, 88, 90, 92, 97, 100, 102, 104, 114, 129, 132, 134] [fq (gn_pl hj1 0), fq (gn_pl hj1 1), fq (gn_pl hj1 2), fq (layEx.plG e1)] [fbp (arC e0) (layAr.pl e0), fbp (coC c) (layCo.pl c)] _ _ (runS 300 (o2 ++ [pcall (ref10_Small_step e1 limit true hy2), pinc i1 (by omega)])) (by kernel_rfl) (k ([(jn j1 0), (jn j1 1), (jn j1 2), (jn j1 3), (jn j1 4), (jn j1 5), (jn j1 6), (jn j1 7), (jn j1 8), (jn j1 9), (jn j1 10), (jn j1 11), (jn j1 12), (jn j1 13), (jn j1 14), (jn j1 15), (jn j1 16), .bool true, .bool true, .bool false], [(gn j1 0), (gn j1 1), (gn j1 2), .agg (exC e1)]) (plC (gn_pl hj1 0) (plC (gn_pl hj1 1) (plC (gn_pl hj1 2) (plC (layEx.plG e1) rfl)))))
 subst hv
 rintro ⟨⟩
 exact go_retA _ _ (runS 300 (o2 ++ [pcall (ref10_Small_step e1 limit false hy2)])) (by kernel_rfl) (.rnd k) .sc
 rintro ⟨⟩ rfl jx_3 hjx_3
 revert h
 clear hres
 dsimp only [lpK]
 rintro ⟨⟩
 exact go_nx Hd.plainG [1, 2, 4, 8, 10, 22, 24, 32, 34, 36, 44, 46, 56, 71, 78, 80, 88, 90, 92, 97, 100, 102, 104, 114, 129, 132, 134] [fq (gn_pl hjx_3 0), fq (gn_pl hjx_3 1), fq (gn_pl hjx_3 2), fq (gn_pl hjx_3 3)] [fbp (coC c) (layCo.pl c)] _ _ (runX 300 [pinc i0 (by omega)]) (by kernel_rfl) (k ([(jn jx_3 0), (jn jx_3 1), (jn jx_3 2), (jn jx_3 3), (jn jx_3 4), (jn jx_3 5), (jn jx_3 6), (jn jx_3 7), (jn jx_3 8), (jn jx_3 9), (jn jx_3 10), (jn jx_3 11), (jn jx_3 12), (jn jx_3 13), (jn jx_3 14), (jn jx_3 15), (jn jx_3 16), (jn jx_3 17), (jn jx_3 18), (jn jx_3 19)], [(gn jx_3 0), (gn jx_3 1), (gn jx_3 2), (gn jx_3 3)]) (plC (gn_pl hjx_3 0) (plC (gn_pl hjx_3 1) (plC (gn_pl hjx_3 2) (plC (gn_pl hjx_3 3) rfl)))))
 rintro v rfl
 dsimp only [lpK] at h
 cases h
 exact .outer (.rnd k)
 subst hv
 rintro ⟨⟩
 exact go_retA _ _ (runS 300 (o1 ++ [pb hb4, pb hb5, pcall (ref10_Small_step e0.am limit false hy1)])) (by kernel_rfl) (.rnd k) .sc
 rintro ⟨⟩ rfl jx_4 hjx_4
 revert h
 clear hres
 dsimp only [lpK]
 intro h
 have hE := Option.some.inj h
 subst hE
 exact go_retA _ _ (runX 300 []) (by kernel_rfl) .body .sc
 rintro v rfl
 dsimp only [lpK] at h
 cases h
 exact .outer .body
noncomputable def B13 : Code := bodyOf Tryz.f13
theorem b13 : Tryz.f13.body = some B13 := by kernel_rfl
noncomputable def law10_small_B  (c : Co) : Option Bool := (ref10_Few_B c 420).bind fun y1 => some y1
theorem law10_small_step   (c : Co) (yR : Bool) (h : law10_small_B  c = some yR) : Pure P G 13 [.agg (coC c)] (.sc (.bool yR)) := by
 unfold law10_small_B at h
 refine pureM Hd.mixed Hd.plainG (WC_body Tryz.func13 b13 ?_) (plC (layCo.plG c) rfl) rfl
 revert h
 refine bndI fun y1 hy1 => ?_
 intro h
 have hE := Option.some.inj h
 subst hE
 exact rS (runS 300 [pcall (ref10_Few_step c 420 y1 hy1)]) (by kernel_rfl)
noncomputable def B87 : Code := bodyOf Tryz.f87
theorem b87 : Tryz.f87.body = some B87 := by kernel_rfl
noncomputable def ref10_decl_L1  (name : ByteArray) (i0 : Nat) (e0 : Dc)  : Option (Lp Unit Unit Int) := cond (eqB e0.name.data.toList name.data.toList) (some (.rt ((i0 : Nat) : Int))) (some (.nx ()))
noncomputable def ref10_decl_B  (l : (List Dc)) (name : ByteArray) : Option Int := (lim l.length (foldL (fun i y x => ref10_decl_L1  name i y ) (fun x => ()) (l.drop 0) 0 ())).bind (lpK (fun (_ : Unit) => some (-1)) (fun v => some v))
theorem ref10_decl_step   (l : (List Dc)) (name : ByteArray) (yR : Int) (h : ref10_decl_B  l name = some yR) : Pure P G 87 [.sl .lost l.length (rows dcC l), .sc (.string name)] (.sc (.int .i64 yR)) := by
 unfold ref10_decl_B at h
 refine pureM Hd.mixed Hd.plainG (WC_body Tryz.func87 b87 ?_) (plC (layDc.plS l) (plC rfl rfl)) rfl
 revert h
 refine bndI fun res hres h => ?_
 have hlen := (limE hres).1
 replace hres := (limE hres).2
 refine go_at [] [0, 1, 5, 9, 18] 0 (sub B87 [1, 0, 1, 0, 0]) [.code (sub B87 [1, 1])] _ _ (runS 300 []) (by kernel_rfl) (foldP (fn := Tryz.f87) (m := 0) (fun v => .sc (.int .i64 v)) 0 l (fun i0 (_ : Unit) (j0 : JJ) => frm 20 0 [(0, .sl .lost l.length (rows dcC l)), (1, .sc (.string name)), (5, .sc (.int .i64 ((i0 : Nat) : Int)))] [9, 18] 0 [] 0 j0) (fun (_ : Nat) (_ : Unit) (_ : JJ) => ⟨[], 0, [], 0⟩) (fun (j : JJ) => plainL j.2 = true) (fun (_ : Unit) (jx : JJ) => frm 20 0 [] [9, 18] 0 [] 0 jx) (fun (_ : Unit) (_ : JJ) => ⟨[], 0, [], 0⟩) (fun (j : JJ) => plainL j.2 = true) ?_ ?_ 0 hres ?_ ?_ ([], []) rfl)
 rintro i0 ⟨⟩ j0 hj0 hge hq
 clear h hres
 refine WL_rnd ?_
 exact go_ex Hd.plainG [18, 36] [] [] 0 _ _ (runS 300 [pb (B := ltI ((i0 : Nat) : Int) ((l.length : Nat) : Int)) (b := false) (ltF hge)]) (by kernel_rfl) (hq ([.bool false, (jn j0 1)], []) rfl)
 clear h hres
 rintro i0 e0 ⟨⟩ j0 r hj0 he0 hi0 h k
 refine WL_rnd ?_
 revert h
 show ref10_decl_L1  name i0 e0  = some r → _
 unfold ref10_decl_L1
 let o1 : List (PC P G) := [pb (B := ltI ((i0 : Nat) : Int) ((l.length : Nat) : Int)) (b := true) (ltT hi0), pix (ix28 .lost he0)]
 refine cndI (fun hb1 => ?_) fun hb1 => ?_
 rintro ⟨⟩
 exact go_retA _ _ (runS 300 (o1 ++ [pb hb1])) (by kernel_rfl) (.rnd k) .sc
 rintro ⟨⟩
 exact go_nx Hd.plainG [1, 2, 10, 18, 36] [fq (layDc.plS l)] [] _ _ (runS 300 (o1 ++ [pb hb1, pinc i0 (by omega)])) (by kernel_rfl) (k ([.bool true, .bool false], []) rfl)
 rintro ⟨⟩ rfl jx_1 hjx_1
 revert h
 clear hres
 dsimp only [lpK]
 intro h
 have hE := Option.some.inj h
 subst hE
 exact go_retA _ _ (runX 300 []) (by kernel_rfl) .body .sc
 rintro v rfl
 dsimp only [lpK] at h
 cases h
 exact .outer .body
noncomputable def B104 : Code := bodyOf Tryz.f104
theorem b104 : Tryz.f104.body = some B104 := by kernel_rfl
noncomputable def ref07_In_L1  (s : ByteArray) (i0 : Nat) (e0 : ByteArray)  : Option (Lp Unit Unit Bool) := cond (eqB e0.data.toList s.data.toList) (some (.rt true)) (some (.nx ()))
noncomputable def ref07_In_B  (l : (List ByteArray)) (s : ByteArray) : Option Bool := (lim l.length (foldL (fun i y x => ref07_In_L1  s i y ) (fun x => ()) (l.drop 0) 0 ())).bind (lpK (fun (_ : Unit) => some false) (fun v => some v))
theorem ref07_In_step   (l : (List ByteArray)) (s : ByteArray) (yR : Bool) (h : ref07_In_B  l s = some yR) : Pure P G 104 [.sl .lost l.length (rows stC l), .sc (.string s)] (.sc (.bool yR)) := by
 unfold ref07_In_B at h
 refine pureM Hd.mixed Hd.plainG (WC_body Tryz.func104 b104 ?_) (plC (layStr.plS l) (plC rfl rfl)) rfl
 revert h
 refine bndI fun res hres h => ?_
 have hlen := (limE hres).1
 replace hres := (limE hres).2
 refine go_at [] [0, 1, 4, 5, 9, 17] 0 (sub B104 [1, 0, 1, 0, 0]) [.code (sub B104 [1, 1])] _ _ (runS 300 []) (by kernel_rfl) (foldP (fn := Tryz.f104) (m := 0) (fun v => .sc (.bool v)) 0 l (fun i0 (_ : Unit) (j0 : JJ) => frm 18 0 [(0, .sl .lost l.length (rows stC l)), (1, .sc (.string s)), (5, .sc (.int .i64 ((i0 : Nat) : Int)))] [4, 9, 17] 0 [] 0 j0) (fun (_ : Nat) (_ : Unit) (_ : JJ) => ⟨[], 0, [], 0⟩) (fun (j : JJ) => plainL j.2 = true) (fun (_ : Unit) (jx : JJ) => frm 18 0 [] [4, 9, 17] 0 [] 0 jx) (fun (_ : Unit) (_ : JJ) => ⟨[], 0, [], 0⟩) (fun (j : JJ) => plainL j.2 = true) ?_ ?_ 0 hres ?_ ?_ ([.bool false], []) rfl)
 rintro i0 ⟨⟩ j0 hj0 hge hq
 clear h hres
 refine WL_rnd ?_
 exact go_ex Hd.plainG [8, 18, 34] [] [] 0 _ _ (runS 300 [pb (B := ltI ((i0 : Nat) : Int) ((l.length : Nat) : Int)) (b := false) (ltF hge)]) (by kernel_rfl) (hq ([(jn j0 0), .bool false, (jn j0 2)], []) rfl)
 clear h hres
 rintro i0 e0 ⟨⟩ j0 r hj0 he0 hi0 h k
 refine WL_rnd ?_
 revert h
 show ref07_In_L1  s i0 e0  = some r → _
 unfold ref07_In_L1
 let o1 : List (PC P G) := [pb (B := ltI ((i0 : Nat) : Int) ((l.length : Nat) : Int)) (b := true) (ltT hi0), pix (ix141 .lost he0)]
 refine cndI (fun hb1 => ?_) fun hb1 => ?_
 rintro ⟨⟩
 exact go_retA _ _ (runS 300 (o1 ++ [pb hb1])) (by kernel_rfl) (.rnd k) .sc
 rintro ⟨⟩
 exact go_nx Hd.plainG [1, 2, 8, 10, 18, 34] [fq (layStr.plS l)] [] _ _ (runS 300 (o1 ++ [pb hb1, pinc i0 (by omega)])) (by kernel_rfl) (k ([(jn j0 0), .bool true, .bool false], []) rfl)
 rintro ⟨⟩ rfl jx_1 hjx_1
 revert h
 clear hres
 dsimp only [lpK]
 intro h
 have hE := Option.some.inj h
 subst hE
 exact go_retA _ _ (runX 300 []) (by kernel_rfl) .body .sc
 rintro v rfl
 dsimp only [lpK] at h
 cases h
 exact .outer .body
noncomputable def B141 : Code := bodyOf Tryz.f141
theorem b141 : Tryz.f141.body = some B141 := by kernel_rfl
noncomputable def ref06_Lower_B  (c : Int) : Option Bool := cond (leI 97 c) (cond (leI c 122) (some true) (some false)) (some false)
theorem ref06_Lower_step   (c : Int) (yR : Bool) (h : ref06_Lower_B  c = some yR) : Pure P G 141 [.sc (.int .u8 c)] (.sc (.bool yR)) := by
 unfold ref06_Lower_B at h
 refine pureM Hd.mixed Hd.plainG (WC_body Tryz.func141 b141 ?_) (plC rfl rfl) rfl
 revert h
 refine cndI (fun hb1 => ?_) fun hb1 => ?_
 refine cndI (fun hb2 => ?_) fun hb2 => ?_
 rintro ⟨⟩
 exact rS (runS 300 [pb hb1, pb hb2]) (by kernel_rfl)
 rintro ⟨⟩
 exact rS (runS 300 [pb hb1, pb hb2]) (by kernel_rfl)
 rintro ⟨⟩
 exact rS (runS 300 [pb hb1]) (by kernel_rfl)
noncomputable def B142 : Code := bodyOf Tryz.f142
theorem b142 : Tryz.f142.body = some B142 := by kernel_rfl
noncomputable def ref07_Keys_B   : Option (List ByteArray) := some [factS, lineS, articleS, forS, rankS, fromS, toS, knownS, whenS, unlessS, amountS, truthS, numberS, minutesS, minS, earnS, deductS, floorS, infoS, orS, andS, notS, atS, trueS, falseS, artS, weekdayS, dayS, monthS, yearS, leastS, greatestS, tableS]
theorem ref07_Keys_step    (yR : (List ByteArray)) (h : ref07_Keys_B   = some yR) : Pure P G 142 [] (.sl .lost yR.length (rows stC yR)) := by
 unfold ref07_Keys_B at h
 refine pureM Hd.mixed Hd.plainG (WC_body Tryz.func142 b142 ?_) rfl (layStr.plS yR)
 revert h
 intro h
 have hE := Option.some.inj h
 subst hE
 exact go_retA (v := .sl .full 33 (.sc (.string factS) :: .sc (.string lineS) :: .sc (.string articleS) :: .sc (.string forS) :: .sc (.string rankS) :: .sc (.string fromS) :: .sc (.string toS) :: .sc (.string knownS) :: .sc (.string whenS) :: .sc (.string unlessS) :: .sc (.string amountS) :: .sc (.string truthS) :: .sc (.string numberS) :: .sc (.string minutesS) :: .sc (.string minS) :: .sc (.string earnS) :: .sc (.string deductS) :: .sc (.string floorS) :: .sc (.string infoS) :: .sc (.string orS) :: .sc (.string andS) :: .sc (.string notS) :: .sc (.string atS) :: .sc (.string trueS) :: .sc (.string falseS) :: .sc (.string artS) :: .sc (.string weekdayS) :: .sc (.string dayS) :: .sc (.string monthS) :: .sc (.string yearS) :: .sc (.string leastS) :: .sc (.string greatestS) :: .sc (.string tableS) :: [])) _ _ (runS 300 []) (by kernel_rfl) .body (.wn (.d (.r (.r (.r (.r (.r (.r (.r (.r (.r (.r (.r (.r (.r (.r (.r (.r (.r (.r (.r (.r (.r (.r (.r (.r (.r (.r (.r (.r (.r (.r (.r (.r (.r .nil))))))))))))))))))))))))))))))))) (layStr.eq [factS, lineS, articleS, forS, rankS, fromS, toS, knownS, whenS, unlessS, amountS, truthS, numberS, minutesS, minS, earnS, deductS, floorS, infoS, orS, andS, notS, atS, trueS, falseS, artS, weekdayS, dayS, monthS, yearS, leastS, greatestS, tableS]).symm .nil) (layStr.plS [factS, lineS, articleS, forS, rankS, fromS, toS, knownS, whenS, unlessS, amountS, truthS, numberS, minutesS, minS, earnS, deductS, floorS, infoS, orS, andS, notS, atS, trueS, falseS, artS, weekdayS, dayS, monthS, yearS, leastS, greatestS, tableS]))
noncomputable def B143 : Code := bodyOf Tryz.f143
theorem b143 : Tryz.f143.body = some B143 := by kernel_rfl
noncomputable def ref06_Digit_B  (c : Int) : Option Bool := cond (leI 48 c) (cond (leI c 57) (some true) (some false)) (some false)
theorem ref06_Digit_step   (c : Int) (yR : Bool) (h : ref06_Digit_B  c = some yR) : Pure P G 143 [.sc (.int .u8 c)] (.sc (.bool yR)) := by
 unfold ref06_Digit_B at h
 refine pureM Hd.mixed Hd.plainG (WC_body Tryz.func143 b143 ?_) (plC rfl rfl) rfl
 revert h
 refine cndI (fun hb1 => ?_) fun hb1 => ?_
 refine cndI (fun hb2 => ?_) fun hb2 => ?_
 rintro ⟨⟩
 exact rS (runS 300 [pb hb1, pb hb2]) (by kernel_rfl)
 rintro ⟨⟩
 exact rS (runS 300 [pb hb1, pb hb2]) (by kernel_rfl)
 rintro ⟨⟩
 exact rS (runS 300 [pb hb1]) (by kernel_rfl)
noncomputable def B95 : Code := bodyOf Tryz.f95
theorem b95 : Tryz.f95.body = some B95 := by kernel_rfl
noncomputable def ref07_Name_L1   (i0 : Nat) (e0 : UInt8)  : Option (Lp Unit Unit Bool) := (ref06_Lower_B ((e0.toNat : Nat) : Int)).bind fun y5 => cond y5 (some (.nx ())) ((ref06_Digit_B ((e0.toNat : Nat) : Int)).bind fun y6 => cond y6 (some (.nx ())) (cond (eqI ((e0.toNat : Nat) : Int) 95) (some (.nx ())) (some (.rt false))))
noncomputable def ref07_Name_B  (s : ByteArray) : Option Bool := cond (ltI ((s.data.toList.length : Nat) : Int) 1) (some false) (cond (ltI 16 ((s.data.toList.length : Nat) : Int)) (some false) ((s.data.toList[0]?).bind fun c1 => (ref06_Lower_B ((c1.toNat : Nat) : Int)).bind fun y2 => cond y2 ((ref07_Keys_B).bind fun y3 => (ref07_In_B y3 s).bind fun y4 => cond y4 (some false) ((lim s.data.toList.length (foldL (fun i y x => ref07_Name_L1   i y ) (fun x => ()) (s.data.toList.drop 0) 0 ())).bind (lpK (fun (_ : Unit) => some true) (fun v => some v)))) (some false)))
theorem ref07_Name_step   (s : ByteArray) (yR : Bool) (h : ref07_Name_B  s = some yR) : Pure P G 95 [.sc (.string s)] (.sc (.bool yR)) := by
 unfold ref07_Name_B at h
 refine pureM Hd.mixed Hd.plainG (WC_body Tryz.func95 b95 ?_) (plC rfl rfl) rfl
 revert h
 refine cndI (fun hb1 => ?_) fun hb1 => ?_
 rintro ⟨⟩
 exact rS (runS 300 [pb hb1]) (by kernel_rfl)
 refine cndI (fun hb2 => ?_) fun hb2 => ?_
 rintro ⟨⟩
 exact rS (runS 300 [pb hb1, pb hb2]) (by kernel_rfl)
 refine bndI fun c1 hc1 => ?_
 refine bndI fun y2 hy2 => ?_
 refine cndI (fun hv => ?_) fun hv => ?_
 subst hv
 refine bndI fun y3 hy3 => ?_
 refine bndI fun y4 hy4 => ?_
 let o1 : List (PC P G) := [pb hb1, pb hb2, pst (ixb9 hc1), pcall (ref06_Lower_step ((c1.toNat : Nat) : Int) true hy2), pcall (ref07_Keys_step  y3 hy3)]
 refine cndI (fun hv => ?_) fun hv => ?_
 subst hv
 rintro ⟨⟩
 exact rS (runS 300 (o1 ++ [pcall (ref07_In_step y3 s true hy4)])) (by kernel_rfl)
 subst hv
 refine bndI fun res hres h => ?_
 have hlen := (limE hres).1
 replace hres := (limE hres).2
 refine go_at [] [0, 2, 3, 6, 7, 10, 11, 12, 15, 16, 17, 18, 21, 22, 26, 32, 33, 34, 38, 39, 40, 41, 45, 46] 0 (sub B95 [1, 1, 0, 1, 0, 0]) [.code (sub B95 [1, 1, 1])] _ _ (runS 300 (o1 ++ [pcall (ref07_In_step y3 s false hy4)])) (by kernel_rfl) (foldP (fn := Tryz.f95) (m := 0) (fun v => .sc (.bool v)) 0 s.data.toList (fun i0 (_ : Unit) (j0 : JJ) => frm 47 0 [(0, .sc (.string s)), (3, .sc (.int .i64 ((i0 : Nat) : Int)))] [2, 6, 7, 10, 11, 12, 15, 16, 17, 18, 21, 22, 26, 32, 33, 34, 38, 39, 40, 41, 45, 46] 0 [] 0 j0) (fun (_ : Nat) (_ : Unit) (_ : JJ) => ⟨[], 0, [], 0⟩) (fun (j : JJ) => plainL j.2 = true) (fun (_ : Unit) (jx : JJ) => frm 47 0 [] [2, 6, 7, 10, 11, 12, 15, 16, 17, 18, 21, 22, 26, 32, 33, 34, 38, 39, 40, 41, 45, 46] 0 [] 0 jx) (fun (_ : Unit) (_ : JJ) => ⟨[], 0, [], 0⟩) (fun (j : JJ) => plainL j.2 = true) ?_ ?_ 0 hres ?_ ?_ ([.bool false, .bool false, .bool false, .bool false, .bool false, .bool false, .bool true, .bool false, .bool false, .bool false, .bool false, .bool false], []) rfl)
 rintro i0 ⟨⟩ j0 hj0 hge hq
 clear h hres
 refine WL_rnd ?_
 exact go_ex Hd.plainG [4, 12, 14, 20, 22, 24, 30, 32, 34, 36, 42, 44, 52, 64, 66, 68, 76, 78, 80, 82, 90, 92] [] [] 0 _ _ (runS 300 [pb (B := ltI ((i0 : Nat) : Int) ((s.data.toList.length : Nat) : Int)) (b := false) (ltF hge)]) (by kernel_rfl) (hq ([(jn j0 0), (jn j0 1), (jn j0 2), (jn j0 3), (jn j0 4), (jn j0 5), (jn j0 6), (jn j0 7), (jn j0 8), (jn j0 9), (jn j0 10), (jn j0 11), .bool false, (jn j0 13), (jn j0 14), (jn j0 15), (jn j0 16), (jn j0 17), (jn j0 18), (jn j0 19), (jn j0 20), (jn j0 21)], []) rfl)
 clear h hres
 rintro i0 e0 ⟨⟩ j0 r hj0 he0 hi0 h k
 refine WL_rnd ?_
 revert h
 show ref07_Name_L1   i0 e0  = some r → _
 unfold ref07_Name_L1
 refine bndI fun y5 hy5 => ?_
 let o2 : List (PC P G) := [pb (B := ltI ((i0 : Nat) : Int) ((s.data.toList.length : Nat) : Int)) (b := true) (ltT hi0), pst (ixb9 he0)]
 refine cndI (fun hv => ?_) fun hv => ?_
 subst hv
 rintro ⟨⟩
 exact go_nx Hd.plainG [0, 4, 6, 12, 14, 20, 22, 24, 30, 32, 34, 36, 42, 44, 52, 64, 66, 68, 76, 78, 80, 82, 90, 92] [] [] _ _ (runS 300 (o2 ++ [pcall (ref06_Lower_step ((e0.toNat : Nat) : Int) true hy5), pinc i0 (by omega)])) (by kernel_rfl) (k ([(jn j0 0), (jn j0 1), (jn j0 2), (jn j0 3), (jn j0 4), (jn j0 5), (jn j0 6), (jn j0 7), (jn j0 8), (jn j0 9), (jn j0 10), (jn j0 11), .bool true, .bool true, .bool false, .bool false, undef, undef, .bool false, .bool false, undef, .bool false], []) rfl)
 subst hv
 refine bndI fun y6 hy6 => ?_
 let o3 : List (PC P G) := o2 ++ [pcall (ref06_Lower_step ((e0.toNat : Nat) : Int) false hy5), pst (ixb9 he0)]
 refine cndI (fun hv => ?_) fun hv => ?_
 subst hv
 rintro ⟨⟩
 exact go_nx Hd.plainG [0, 4, 6, 12, 14, 20, 22, 24, 30, 32, 34, 36, 42, 44, 52, 64, 66, 68, 76, 78, 80, 82, 90, 92] [] [] _ _ (runS 300 (o3 ++ [pcall (ref06_Digit_step ((e0.toNat : Nat) : Int) true hy6), pinc i0 (by omega)])) (by kernel_rfl) (k ([(jn j0 0), (jn j0 1), (jn j0 2), (jn j0 3), (jn j0 4), (jn j0 5), (jn j0 6), (jn j0 7), (jn j0 8), (jn j0 9), (jn j0 10), (jn j0 11), .bool true, .bool false, .bool true, .bool true, .bool true, .bool false, .bool false, .bool false, undef, .bool false], []) rfl)
 subst hv
 refine cndI (fun hb3 => ?_) fun hb3 => ?_
 rintro ⟨⟩
 exact go_nx Hd.plainG [0, 4, 6, 12, 14, 20, 22, 24, 30, 32, 34, 36, 42, 44, 52, 64, 66, 68, 76, 78, 80, 82, 90, 92] [] [] _ _ (runS 300 (o3 ++ [pcall (ref06_Digit_step ((e0.toNat : Nat) : Int) false hy6), pst (ixb9 he0), pn hb3, pinc i0 (by omega)])) (by kernel_rfl) (k ([(jn j0 0), (jn j0 1), (jn j0 2), (jn j0 3), (jn j0 4), (jn j0 5), (jn j0 6), (jn j0 7), (jn j0 8), (jn j0 9), (jn j0 10), (jn j0 11), .bool true, .bool false, .bool true, .bool true, .bool false, .bool true, .bool true, .bool true, .bool false, .bool false], []) rfl)
 rintro ⟨⟩
 exact go_retA _ _ (runS 300 (o3 ++ [pcall (ref06_Digit_step ((e0.toNat : Nat) : Int) false hy6), pst (ixb9 he0), pn hb3])) (by kernel_rfl) (.rnd k) .sc
 rintro ⟨⟩ rfl jx_7 hjx_7
 revert h
 clear hres
 dsimp only [lpK]
 intro h
 have hE := Option.some.inj h
 subst hE
 exact go_retA _ _ (runX 300 []) (by kernel_rfl) .body .sc
 rintro v rfl
 dsimp only [lpK] at h
 cases h
 exact .outer .body
 subst hv
 rintro ⟨⟩
 exact rS (runS 300 [pb hb1, pb hb2, pst (ixb9 hc1), pcall (ref06_Lower_step ((c1.toNat : Nat) : Int) false hy2)]) (by kernel_rfl)
noncomputable def B148 : Code := bodyOf Tryz.f148
theorem b148 : Tryz.f148.body = some B148 := by kernel_rfl
noncomputable def ref06_Upper_B  (c : Int) : Option Bool := cond (leI 65 c) (cond (leI c 90) (some true) (some false)) (some false)
theorem ref06_Upper_step   (c : Int) (yR : Bool) (h : ref06_Upper_B  c = some yR) : Pure P G 148 [.sc (.int .u8 c)] (.sc (.bool yR)) := by
 unfold ref06_Upper_B at h
 refine pureM Hd.mixed Hd.plainG (WC_body Tryz.func148 b148 ?_) (plC rfl rfl) rfl
 revert h
 refine cndI (fun hb1 => ?_) fun hb1 => ?_
 refine cndI (fun hb2 => ?_) fun hb2 => ?_
 rintro ⟨⟩
 exact rS (runS 300 [pb hb1, pb hb2]) (by kernel_rfl)
 rintro ⟨⟩
 exact rS (runS 300 [pb hb1, pb hb2]) (by kernel_rfl)
 rintro ⟨⟩
 exact rS (runS 300 [pb hb1]) (by kernel_rfl)
noncomputable def B103 : Code := bodyOf Tryz.f103
theorem b103 : Tryz.f103.body = some B103 := by kernel_rfl
noncomputable def ref07_Cur_B  (s : ByteArray) : Option Bool := cond (eqI ((s.data.toList.length : Nat) : Int) 3) ((s.data.toList[0]?).bind fun c1 => (ref06_Upper_B ((c1.toNat : Nat) : Int)).bind fun y2 => cond y2 ((s.data.toList[1]?).bind fun c3 => (ref06_Upper_B ((c3.toNat : Nat) : Int)).bind fun y4 => cond y4 ((s.data.toList[2]?).bind fun c5 => (ref06_Upper_B ((c5.toNat : Nat) : Int)).bind fun y6 => some y6) (some false)) (some false)) (some false)
theorem ref07_Cur_step   (s : ByteArray) (yR : Bool) (h : ref07_Cur_B  s = some yR) : Pure P G 103 [.sc (.string s)] (.sc (.bool yR)) := by
 unfold ref07_Cur_B at h
 refine pureM Hd.mixed Hd.plainG (WC_body Tryz.func103 b103 ?_) (plC rfl rfl) rfl
 revert h
 refine cndI (fun hb1 => ?_) fun hb1 => ?_
 refine bndI fun c1 hc1 => ?_
 refine bndI fun y2 hy2 => ?_
 refine cndI (fun hv => ?_) fun hv => ?_
 subst hv
 refine bndI fun c3 hc3 => ?_
 refine bndI fun y4 hy4 => ?_
 let o1 : List (PC P G) := [pb hb1, pst (ixb9 hc1), pcall (ref06_Upper_step ((c1.toNat : Nat) : Int) true hy2), pst (ixb9 hc3)]
 refine cndI (fun hv => ?_) fun hv => ?_
 subst hv
 refine bndI fun c5 hc5 => ?_
 refine bndI fun y6 hy6 => ?_
 intro h
 have hE := Option.some.inj h
 subst hE
 exact rS (runS 300 (o1 ++ [pcall (ref06_Upper_step ((c3.toNat : Nat) : Int) true hy4), pst (ixb9 hc5), pcall (ref06_Upper_step ((c5.toNat : Nat) : Int) y6 hy6)])) (by kernel_rfl)
 subst hv
 rintro ⟨⟩
 exact rS (runS 300 (o1 ++ [pcall (ref06_Upper_step ((c3.toNat : Nat) : Int) false hy4)])) (by kernel_rfl)
 subst hv
 rintro ⟨⟩
 exact rS (runS 300 [pb hb1, pst (ixb9 hc1), pcall (ref06_Upper_step ((c1.toNat : Nat) : Int) false hy2)]) (by kernel_rfl)
 rintro ⟨⟩
 exact rS (runS 300 [pb hb1]) (by kernel_rfl)
noncomputable def B96 : Code := bodyOf Tryz.f96
theorem b96 : Tryz.f96.body = some B96 := by kernel_rfl
noncomputable def ref10_Unit_B  (s : ByteArray) : Option Bool := cond (eqB s.data.toList truthS.data.toList) (some true) (cond (eqB s.data.toList numberS.data.toList) (some true) (cond (eqB s.data.toList minutesS.data.toList) (some true) ((ref07_Cur_B s).bind fun y1 => some y1)))
theorem ref10_Unit_step   (s : ByteArray) (yR : Bool) (h : ref10_Unit_B  s = some yR) : Pure P G 96 [.sc (.string s)] (.sc (.bool yR)) := by
 unfold ref10_Unit_B at h
 refine pureM Hd.mixed Hd.plainG (WC_body Tryz.func96 b96 ?_) (plC rfl rfl) rfl
 revert h
 refine cndI (fun hb1 => ?_) fun hb1 => ?_
 rintro ⟨⟩
 exact rS (runS 300 [pb hb1]) (by kernel_rfl)
 refine cndI (fun hb2 => ?_) fun hb2 => ?_
 rintro ⟨⟩
 exact rS (runS 300 [pb hb1, pb hb2]) (by kernel_rfl)
 refine cndI (fun hb3 => ?_) fun hb3 => ?_
 rintro ⟨⟩
 exact rS (runS 300 [pb hb1, pb hb2, pb hb3]) (by kernel_rfl)
 refine bndI fun y1 hy1 => ?_
 intro h
 have hE := Option.some.inj h
 subst hE
 exact rS (runS 300 [pb hb1, pb hb2, pb hb3, pcall (ref07_Cur_step s y1 hy1)]) (by kernel_rfl)
noncomputable def B57 : Code := bodyOf Tryz.f57
theorem b57 : Tryz.f57.body = some B57 := by kernel_rfl
noncomputable def ref10_decls_L1  (l : (List Dc)) (low : Int) (high : Int) (i0 : Nat) (e0 : Dc)  : Option (Lp Unit Unit Bool) := (ref07_Name_B e0.name).bind fun y1 => cond y1 ((ref10_Unit_B e0.unit).bind fun y2 => cond y2 (cond (ltI e0.role low) (some (.rt false)) (cond (ltI high e0.role) (some (.rt false)) ((ref10_decl_B l e0.name).bind fun y3 => cond (eqI y3 ((i0 : Nat) : Int)) (some (.nx ())) (some (.rt false))))) (some (.rt false))) (some (.rt false))
noncomputable def ref10_decls_B  (l : (List Dc)) (low : Int) (high : Int) : Option Bool := (lim l.length (foldL (fun i y x => ref10_decls_L1  l low high i y ) (fun x => ()) (l.drop 0) 0 ())).bind (lpK (fun (_ : Unit) => cond (leI ((l.length : Nat) : Int) 32) (some true) (some false)) (fun v => some v))
theorem ref10_decls_step   (l : (List Dc)) (low : Int) (high : Int) (yR : Bool) (h : ref10_decls_B  l low high = some yR) : Pure P G 57 [.sl .lost l.length (rows dcC l), .sc (.int .i64 low), .sc (.int .i64 high)] (.sc (.bool yR)) := by
 unfold ref10_decls_B at h
 refine pureM Hd.mixed Hd.plainG (WC_body Tryz.func57 b57 ?_) (plC (layDc.plS l) (plC rfl (plC rfl rfl))) rfl
 revert h
 refine bndI fun res hres h => ?_
 have hlen := (limE hres).1
 replace hres := (limE hres).2
 refine go_at [] [0, 1, 2, 6, 7, 11, 19, 20, 21, 27, 28, 29, 30, 37, 38, 39, 46, 47, 48, 57, 58, 61] 0 (sub B57 [1, 0, 1, 0, 0]) [.code (sub B57 [1, 1])] _ _ (runS 300 []) (by kernel_rfl) (foldP (fn := Tryz.f57) (m := 0) (fun v => .sc (.bool v)) 0 l (fun i0 (_ : Unit) (j0 : JJ) => frm 62 0 [(0, .sl .lost l.length (rows dcC l)), (1, .sc (.int .i64 low)), (2, .sc (.int .i64 high)), (7, .sc (.int .i64 ((i0 : Nat) : Int)))] [6, 11, 19, 20, 21, 27, 28, 29, 30, 37, 38, 39, 46, 47, 48, 57, 58, 61] 0 [] 0 j0) (fun (_ : Nat) (_ : Unit) (_ : JJ) => ⟨[], 0, [], 0⟩) (fun (j : JJ) => plainL j.2 = true) (fun (_ : Unit) (jx : JJ) => frm 62 0 [(0, .sl .lost l.length (rows dcC l))] [6, 11, 19, 20, 21, 27, 28, 29, 30, 37, 38, 39, 46, 47, 48, 57, 58, 61] 0 [] 0 jx) (fun (_ : Unit) (_ : JJ) => ⟨[], 0, [], 0⟩) (fun (j : JJ) => plainL j.2 = true) ?_ ?_ 0 hres ?_ ?_ ([.bool false], []) rfl)
 rintro i0 ⟨⟩ j0 hj0 hge hq
 clear h hres
 refine WL_rnd ?_
 exact go_ex Hd.plainG [1, 12, 22, 38, 40, 42, 54, 56, 58, 60, 74, 76, 78, 92, 94, 96, 114, 116, 122] [fq (layDc.plS l)] [] 0 _ _ (runS 300 [pb (B := ltI ((i0 : Nat) : Int) ((l.length : Nat) : Int)) (b := false) (ltF hge)]) (by kernel_rfl) (hq ([(jn j0 0), .bool false, (jn j0 2), (jn j0 3), (jn j0 4), (jn j0 5), (jn j0 6), (jn j0 7), (jn j0 8), (jn j0 9), (jn j0 10), (jn j0 11), (jn j0 12), (jn j0 13), (jn j0 14), (jn j0 15), (jn j0 16), (jn j0 17)], []) rfl)
 clear h hres
 rintro i0 e0 ⟨⟩ j0 r hj0 he0 hi0 h k
 refine WL_rnd ?_
 revert h
 show ref10_decls_L1  l low high i0 e0  = some r → _
 unfold ref10_decls_L1
 refine bndI fun y1 hy1 => ?_
 let o1 : List (PC P G) := [pb (B := ltI ((i0 : Nat) : Int) ((l.length : Nat) : Int)) (b := true) (ltT hi0), pix (ix28 .lost he0)]
 refine cndI (fun hv => ?_) fun hv => ?_
 subst hv
 refine bndI fun y2 hy2 => ?_
 let o2 : List (PC P G) := o1 ++ [pcall (ref07_Name_step e0.name true hy1), pix (ix28 .lost he0)]
 refine cndI (fun hv => ?_) fun hv => ?_
 subst hv
 let o3 : List (PC P G) := o2 ++ [pcall (ref10_Unit_step e0.unit true hy2), pix (ix28 .lost he0)]
 refine cndI (fun hb1 => ?_) fun hb1 => ?_
 rintro ⟨⟩
 exact go_retA _ _ (runS 300 (o3 ++ [pb hb1])) (by kernel_rfl) (.rnd k) .sc
 refine cndI (fun hb2 => ?_) fun hb2 => ?_
 rintro ⟨⟩
 exact go_retA _ _ (runS 300 (o3 ++ [pb hb1, pix (ix28 .lost he0), pb hb2])) (by kernel_rfl) (.rnd k) .sc
 refine bndI fun y3 hy3 => ?_
 let o4 : List (PC P G) := o3 ++ [pb hb1, pix (ix28 .lost he0), pb hb2, pix (ix28 .lost he0), pcall (ref10_decl_step l e0.name y3 hy3)]
 refine cndI (fun hb3 => ?_) fun hb3 => ?_
 rintro ⟨⟩
 exact go_nx Hd.plainG [1, 2, 4, 12, 14, 22, 38, 40, 42, 54, 56, 58, 60, 74, 76, 78, 92, 94, 96, 114, 116, 122] [fq (layDc.plS l)] [] _ _ (runS 300 (o4 ++ [pn hb3, pinc i0 (by omega)])) (by kernel_rfl) (k ([(jn j0 0), .bool true, .bool true, .bool false, .bool false, .bool true, .bool false, .bool false, .bool false, .bool false, .bool false, .bool false, .bool false, .bool false, .bool false, .bool false, .bool false, (jn j0 17)], []) rfl)
 rintro ⟨⟩
 exact go_retA _ _ (runS 300 (o4 ++ [pn hb3])) (by kernel_rfl) (.rnd k) .sc
 subst hv
 rintro ⟨⟩
 exact go_retA _ _ (runS 300 (o2 ++ [pcall (ref10_Unit_step e0.unit false hy2)])) (by kernel_rfl) (.rnd k) .sc
 subst hv
 rintro ⟨⟩
 exact go_retA _ _ (runS 300 (o1 ++ [pcall (ref07_Name_step e0.name false hy1)])) (by kernel_rfl) (.rnd k) .sc
 rintro ⟨⟩ rfl jx_4 hjx_4
 revert h
 clear hres
 dsimp only [lpK]
 refine cndI (fun hb4 => ?_) fun hb4 => ?_
 intro h
 have hE := Option.some.inj h
 subst hE
 exact go_retA _ _ (runX 300 [pb hb4]) (by kernel_rfl) .body .sc
 intro h
 have hE := Option.some.inj h
 subst hE
 exact go_retA _ _ (runX 300 [pb hb4]) (by kernel_rfl) .body .sc
 rintro v rfl
 dsimp only [lpK] at h
 cases h
 exact .outer .body
noncomputable def B58 : Code := bodyOf Tryz.f58
theorem b58 : Tryz.f58.body = some B58 := by kernel_rfl
noncomputable def ref10_numbered_L1  (number : Int) (i0 : Nat) (e0 : Ar)  : Option (Lp Unit Unit Int) := cond (eqI e0.number number) (some (.rt ((i0 : Nat) : Int))) (some (.nx ()))
noncomputable def ref10_numbered_B  (c : Co) (number : Int) : Option Int := (lim c.arts.length (foldL (fun i y x => ref10_numbered_L1  number i y ) (fun x => ()) (c.arts.drop 0) 0 ())).bind (lpK (fun (_ : Unit) => some (-1)) (fun v => some v))
theorem ref10_numbered_step   (c : Co) (number : Int) (yR : Int) (h : ref10_numbered_B  c number = some yR) : Pure P G 58 [.agg (coC c), .sc (.int .i64 number)] (.sc (.int .i64 yR)) := by
 unfold ref10_numbered_B at h
 refine pureM Hd.mixed Hd.plainG (WC_body Tryz.func58 b58 ?_) (plC (layCo.plG c) (plC rfl rfl)) rfl
 revert h
 refine bndI fun res hres h => ?_
 have hlen := (limE hres).1
 replace hres := (limE hres).2
 refine go_at [] [0, 1, 2, 5, 10, 20] 0 (sub B58 [1, 0, 1, 0, 0]) [.code (sub B58 [1, 1])] _ _ (runS 300 []) (by kernel_rfl) (foldP (fn := Tryz.f58) (m := 0) (fun v => .sc (.int .i64 v)) 0 c.arts (fun i0 (_ : Unit) (j0 : JJ) => frm 22 0 [(1, .sc (.int .i64 number)), (2, .ptr 0 0), (5, .sc (.int .i64 ((i0 : Nat) : Int)))] [10, 20] 0 [0] 0 j0) (fun (_ : Nat) (_ : Unit) (_ : JJ) => ⟨[(0, .cells (coC c))], 1, [], 0⟩) (fun (j : JJ) => plainL j.2 = true) (fun (_ : Unit) (jx : JJ) => frm 22 0 [] [10, 20] 0 [0] 0 jx) (fun (_ : Unit) (_ : JJ) => ⟨[(0, .cells (coC c))], 1, [], 0⟩) (fun (j : JJ) => plainL j.2 = true) ?_ ?_ 0 hres ?_ ?_ ([], [.agg (coC c)]) (plC (layCo.plG c) rfl))
 rintro i0 ⟨⟩ j0 hj0 hge hq
 clear h hres
 refine WL_rnd ?_
 exact go_ex Hd.plainG [1, 20, 40] [fq (gn_pl hj0 0)] [fbp (coC c) (layCo.pl c)] 0 _ _ (runS 300 [pb (B := ltI ((i0 : Nat) : Int) ((c.arts.length : Nat) : Int)) (b := false) (ltF hge)]) (by kernel_rfl) (hq ([.bool false, (jn j0 1)], [(gn j0 0)]) (plC (gn_pl hj0 0) rfl))
 clear h hres
 rintro i0 e0 ⟨⟩ j0 r hj0 he0 hi0 h k
 refine WL_rnd ?_
 revert h
 show ref10_numbered_L1  number i0 e0  = some r → _
 unfold ref10_numbered_L1
 let o1 : List (PC P G) := [pb (B := ltI ((i0 : Nat) : Int) ((c.arts.length : Nat) : Int)) (b := true) (ltT hi0), pix (ix29 .lost he0)]
 refine cndI (fun hb1 => ?_) fun hb1 => ?_
 rintro ⟨⟩
 exact go_retA _ _ (runS 300 (o1 ++ [pb hb1])) (by kernel_rfl) (.rnd k) .sc
 rintro ⟨⟩
 exact go_nx Hd.plainG [1, 2, 4, 10, 20, 40] [fq (gn_pl hj0 0)] [fbp (coC c) (layCo.pl c)] _ _ (runS 300 (o1 ++ [pb hb1, pinc i0 (by omega)])) (by kernel_rfl) (k ([.bool true, .bool false], [(gn j0 0)]) (plC (gn_pl hj0 0) rfl))
 rintro ⟨⟩ rfl jx_1 hjx_1
 revert h
 clear hres
 dsimp only [lpK]
 intro h
 have hE := Option.some.inj h
 subst hE
 exact go_retA _ _ (runX 300 []) (by kernel_rfl) .body .sc
 rintro v rfl
 dsimp only [lpK] at h
 cases h
 exact .outer .body
noncomputable def B138 : Code := bodyOf Tryz.f138
theorem b138 : Tryz.f138.body = some B138 := by kernel_rfl
noncomputable def ref10_Flat_L1 (r_ref10_Flat : Ex → Int → Option Bool) (limit : Int) (i0 : Nat) (e0 : Ex)  : Option (Lp Unit Unit Bool) := (r_ref10_Flat e0 (wsub limit 1)).bind fun y1 => cond y1 (some (.nx ())) (some (.rt false))
noncomputable def ref10_Flat_B (r_ref10_Flat : Ex → Int → Option Bool) (e : Ex) (limit : Int) : Option Bool := cond (ltI limit 1) (some false) ((lim e.kids.length (foldL (fun i y x => ref10_Flat_L1 r_ref10_Flat limit i y ) (fun x => ()) (e.kids.drop 0) 0 ())).bind (lpK (fun (_ : Unit) => some true) (fun v => some v)))
theorem ref10_Flat_step (r_ref10_Flat : Ex → Int → Option Bool) (hr_ref10_Flat : ∀ (e : Ex) (limit : Int) (yR : Bool), r_ref10_Flat e limit = some yR → Pure P G 138 [.agg (exC e), .sc (.int .i64 limit)] (.sc (.bool yR))) (e : Ex) (limit : Int) (yR : Bool) (h : ref10_Flat_B r_ref10_Flat e limit = some yR) : Pure P G 138 [.agg (exC e), .sc (.int .i64 limit)] (.sc (.bool yR)) := by
 unfold ref10_Flat_B at h
 refine pureM Hd.mixed Hd.plainG (WC_body Tryz.func138 b138 ?_) (plC (layEx.plG e) (plC rfl rfl)) rfl
 revert h
 refine cndI (fun hb1 => ?_) fun hb1 => ?_
 rintro ⟨⟩
 exact rS (runS 300 [pb hb1]) (by kernel_rfl)
 refine bndI fun res hres h => ?_
 have hlen := (limE hres).1
 replace hres := (limE hres).2
 refine go_at [] [0, 1, 2, 4, 5, 7, 12, 19, 22, 23] 0 (sub B138 [1, 1, 0, 1, 0, 0]) [.code (sub B138 [1, 1, 1])] _ _ (runS 300 [pb hb1]) (by kernel_rfl) (foldP (fn := Tryz.f138) (m := 0) (fun v => .sc (.bool v)) 0 e.kids (fun i0 (_ : Unit) (j0 : JJ) => frm 24 0 [(1, .sc (.int .i64 limit)), (2, .ptr 0 0), (5, .sc (.int .i64 ((i0 : Nat) : Int)))] [4, 7, 12, 22, 23] 0 [0, 19] 0 j0) (fun (_ : Nat) (_ : Unit) (_ : JJ) => ⟨[(0, .cells (exC e))], 1, [], 0⟩) (fun (j : JJ) => plainL j.2 = true) (fun (_ : Unit) (jx : JJ) => frm 24 0 [] [4, 7, 12, 22, 23] 0 [0, 19] 0 jx) (fun (_ : Unit) (_ : JJ) => ⟨[(0, .cells (exC e))], 1, [], 0⟩) (fun (j : JJ) => plainL j.2 = true) ?_ ?_ 0 hres ?_ ?_ ([.bool false, .bool false], [.agg (exC e), .sc undef]) (plC (layEx.plG e) (plC rfl rfl)))
 rintro i0 ⟨⟩ j0 hj0 hge hq
 clear h hres
 refine WL_rnd ?_
 exact go_ex Hd.plainG [1, 8, 14, 24, 39, 44, 46] [fq (gn_pl hj0 0), fq (gn_pl hj0 1)] [fbp (exC e) (layEx.pl e)] 0 _ _ (runS 300 [pb (B := ltI ((i0 : Nat) : Int) ((e.kids.length : Nat) : Int)) (b := false) (ltF hge)]) (by kernel_rfl) (hq ([(jn j0 0), (jn j0 1), .bool false, (jn j0 3), (jn j0 4)], [(gn j0 0), (gn j0 1)]) (plC (gn_pl hj0 0) (plC (gn_pl hj0 1) rfl)))
 clear h hres
 rintro i0 e0 ⟨⟩ j0 r hj0 he0 hi0 h k
 refine WL_rnd ?_
 revert h
 show ref10_Flat_L1 r_ref10_Flat limit i0 e0  = some r → _
 unfold ref10_Flat_L1
 refine bndI fun y1 hy1 => ?_
 let o1 : List (PC P G) := [pb (B := ltI ((i0 : Nat) : Int) ((e.kids.length : Nat) : Int)) (b := true) (ltT hi0), pix (ix58 .lost he0), pk]
 refine cndI (fun hv => ?_) fun hv => ?_
 subst hv
 rintro ⟨⟩
 exact go_nx Hd.plainG [1, 2, 4, 8, 10, 14, 24, 39, 44, 46] [fq (gn_pl hj0 0), fq (layEx.plG e0)] [fbp (exC e) (layEx.pl e)] _ _ (runS 300 (o1 ++ [pcall (hr_ref10_Flat e0 (wsub limit 1) true hy1), pinc i0 (by omega)])) (by kernel_rfl) (k ([(jn j0 0), (jn j0 1), .bool true, .bool true, .bool false], [(gn j0 0), .agg (exC e0)]) (plC (gn_pl hj0 0) (plC (layEx.plG e0) rfl)))
 subst hv
 rintro ⟨⟩
 exact go_retA _ _ (runS 300 (o1 ++ [pcall (hr_ref10_Flat e0 (wsub limit 1) false hy1)])) (by kernel_rfl) (.rnd k) .sc
 rintro ⟨⟩ rfl jx_2 hjx_2
 revert h
 clear hres
 dsimp only [lpK]
 intro h
 have hE := Option.some.inj h
 subst hE
 exact go_retA _ _ (runX 300 []) (by kernel_rfl) .body .sc
 rintro v rfl
 dsimp only [lpK] at h
 cases h
 exact .outer .body
noncomputable def ref10_Flat_M : Nat → Ex → Int → Option Bool
 | 0, _, _ => none
 | qn + 1, e, limit => ref10_Flat_B (ref10_Flat_M qn) e limit
theorem ref10_Flat_all : ∀ qn : Nat, ∀ (e : Ex) (limit : Int) (yR : Bool), ref10_Flat_M qn e limit = some yR → Pure P G 138 [.agg (exC e), .sc (.int .i64 limit)] (.sc (.bool yR)) := by
 intro qn
 induction qn with
 | zero => exact (fun _ _ _ h => by simp only [ref10_Flat_M] at h; cases h)
 | succ qn ih => exact (fun e limit yR h => ref10_Flat_step _ ih e limit yR (by rw [ref10_Flat_M] at h; exact h))
noncomputable def ref10_Flat_R (e : Ex) (limit : Int) : Option Bool := evt (fun qn => ref10_Flat_M qn e limit)
theorem ref10_Flat_ok (e : Ex) (limit : Int) (yR : Bool) (h : ref10_Flat_R e limit = some yR) : Pure P G 138 [.agg (exC e), .sc (.int .i64 limit)] (.sc (.bool yR)) := by
 obtain ⟨qn, h⟩ := evtE h
 exact (ref10_Flat_all qn) e limit yR h
noncomputable def B89 : Code := bodyOf Tryz.f89
theorem b89 : Tryz.f89.body = some B89 := by kernel_rfl
noncomputable def ref10_within_B  (e : Ex) : Option Bool := (ref10_Small_B e 400).bind fun y1 => cond y1 ((ref10_Flat_R e 40).bind fun y2 => some y2) (some false)
theorem ref10_within_step   (e : Ex) (yR : Bool) (h : ref10_within_B  e = some yR) : Pure P G 89 [.agg (exC e)] (.sc (.bool yR)) := by
 unfold ref10_within_B at h
 refine pureM Hd.mixed Hd.plainG (WC_body Tryz.func89 b89 ?_) (plC (layEx.plG e) rfl) rfl
 revert h
 refine bndI fun y1 hy1 => ?_
 refine cndI (fun hv => ?_) fun hv => ?_
 subst hv
 refine bndI fun y2 hy2 => ?_
 intro h
 have hE := Option.some.inj h
 subst hE
 exact rS (runS 300 [pcall (ref10_Small_step e 400 true hy1), pcall (ref10_Flat_ok e 40 y2 hy2)]) (by kernel_rfl)
 subst hv
 rintro ⟨⟩
 exact rS (runS 300 [pcall (ref10_Small_step e 400 false hy1)]) (by kernel_rfl)
noncomputable def B144 : Code := bodyOf Tryz.f144
theorem b144 : Tryz.f144.body = some B144 := by kernel_rfl
noncomputable def ref10_leaf_B  (c : Co) (e : Ex) : Option Bool := cond (eqI e.op 1) ((ref10_Unit_B e.unit).bind fun y1 => cond y1 (cond (leI 0 e.n) (cond (leI e.n 999999999999) (cond (eqB e.unit.data.toList truthS.data.toList) (cond (leI e.n 1) (some true) (some false)) (some true)) (some false)) (some false)) (some false)) (cond (eqI e.op 2) (cond (leI 0 e.n) (cond (ltI e.n ((c.facts.length : Nat) : Int)) ((geti c.facts e.n).bind fun x2 => cond (eqB e.unit.data.toList x2.unit.data.toList) (some true) (some false)) (some false)) (some false)) (cond (eqI e.op 3) ((ref10_numbered_B c e.n).bind fun y3 => cond (leI 0 y3) ((geti c.arts y3).bind fun x4 => cond (leI 0 x4.line) (cond (ltI x4.line ((c.lines.length : Nat) : Int)) ((geti c.lines x4.line).bind fun x5 => cond (eqB e.unit.data.toList x5.unit.data.toList) (some true) (some false)) (some false)) (some false)) (some false)) (cond (eqI e.op 4) (cond (leI 1 e.n) (cond (leI e.n 4) (cond (eqB e.unit.data.toList numberS.data.toList) (some true) (some false)) (some false)) (some false)) (some false))))
theorem ref10_leaf_step   (c : Co) (e : Ex) (yR : Bool) (h : ref10_leaf_B  c e = some yR) : Pure P G 144 [.agg (coC c), .agg (exC e)] (.sc (.bool yR)) := by
 unfold ref10_leaf_B at h
 refine pureM Hd.mixed Hd.plainG (WC_body Tryz.func144 b144 ?_) (plC (layCo.plG c) (plC (layEx.plG e) rfl)) rfl
 revert h
 refine cndI (fun hb1 => ?_) fun hb1 => ?_
 refine bndI fun y1 hy1 => ?_
 refine cndI (fun hv => ?_) fun hv => ?_
 subst hv
 let o1 : List (PC P G) := [pb hb1, pcall (ref10_Unit_step e.unit true hy1)]
 refine cndI (fun hb2 => ?_) fun hb2 => ?_
 refine cndI (fun hb3 => ?_) fun hb3 => ?_
 refine cndI (fun hb4 => ?_) fun hb4 => ?_
 refine cndI (fun hb5 => ?_) fun hb5 => ?_
 rintro ⟨⟩
 exact rS (runS 300 (o1 ++ [pb hb2, pb hb3, pn hb4, pb hb5])) (by kernel_rfl)
 rintro ⟨⟩
 exact rS (runS 300 (o1 ++ [pb hb2, pb hb3, pn hb4, pb hb5])) (by kernel_rfl)
 rintro ⟨⟩
 exact rS (runS 300 (o1 ++ [pb hb2, pb hb3, pn hb4])) (by kernel_rfl)
 rintro ⟨⟩
 exact rS (runS 300 (o1 ++ [pb hb2, pb hb3])) (by kernel_rfl)
 rintro ⟨⟩
 exact rS (runS 300 (o1 ++ [pb hb2])) (by kernel_rfl)
 subst hv
 rintro ⟨⟩
 exact rS (runS 300 [pb hb1, pcall (ref10_Unit_step e.unit false hy1)]) (by kernel_rfl)
 let o2 : List (PC P G) := [pb hb1]
 refine cndI (fun hb6 => ?_) fun hb6 => ?_
 refine cndI (fun hb7 => ?_) fun hb7 => ?_
 refine cndI (fun hb8 => ?_) fun hb8 => ?_
 refine bndI fun x2 hx2 => ?_
 refine cndI (fun hb9 => ?_) fun hb9 => ?_
 rintro ⟨⟩
 exact rS (runS 300 (o2 ++ [pb hb6, pb hb7, pb hb8, pix (ixz28 .lost hx2), pb hb9])) (by kernel_rfl)
 rintro ⟨⟩
 exact rS (runS 300 (o2 ++ [pb hb6, pb hb7, pb hb8, pix (ixz28 .lost hx2), pb hb9])) (by kernel_rfl)
 rintro ⟨⟩
 exact rS (runS 300 (o2 ++ [pb hb6, pb hb7, pb hb8])) (by kernel_rfl)
 rintro ⟨⟩
 exact rS (runS 300 (o2 ++ [pb hb6, pb hb7])) (by kernel_rfl)
 refine cndI (fun hb10 => ?_) fun hb10 => ?_
 refine bndI fun y3 hy3 => ?_
 let o3 : List (PC P G) := o2 ++ [pb hb6, pb hb10, pcall (ref10_numbered_step c e.n y3 hy3)]
 refine cndI (fun hb11 => ?_) fun hb11 => ?_
 refine bndI fun x4 hx4 => ?_
 let o4 : List (PC P G) := o3 ++ [pb hb11, pix (ixz29 .lost hx4)]
 refine cndI (fun hb12 => ?_) fun hb12 => ?_
 refine cndI (fun hb13 => ?_) fun hb13 => ?_
 refine bndI fun x5 hx5 => ?_
 let o5 : List (PC P G) := o4 ++ [pb hb12, pix (ixz29 .lost hx4), pb hb13, pix (ixz29 .lost hx4), pix (ixz28 .lost hx5)]
 refine cndI (fun hb14 => ?_) fun hb14 => ?_
 rintro ⟨⟩
 exact rS (runS 300 (o5 ++ [pb hb14])) (by kernel_rfl)
 rintro ⟨⟩
 exact rS (runS 300 (o5 ++ [pb hb14])) (by kernel_rfl)
 rintro ⟨⟩
 exact rS (runS 300 (o4 ++ [pb hb12, pix (ixz29 .lost hx4), pb hb13])) (by kernel_rfl)
 rintro ⟨⟩
 exact rS (runS 300 (o4 ++ [pb hb12])) (by kernel_rfl)
 rintro ⟨⟩
 exact rS (runS 300 (o3 ++ [pb hb11])) (by kernel_rfl)
 refine cndI (fun hb15 => ?_) fun hb15 => ?_
 refine cndI (fun hb16 => ?_) fun hb16 => ?_
 refine cndI (fun hb17 => ?_) fun hb17 => ?_
 refine cndI (fun hb18 => ?_) fun hb18 => ?_
 rintro ⟨⟩
 exact rS (runS 300 (o2 ++ [pb hb6, pb hb10, pb hb15, pb hb16, pb hb17, pb hb18])) (by kernel_rfl)
 rintro ⟨⟩
 exact rS (runS 300 (o2 ++ [pb hb6, pb hb10, pb hb15, pb hb16, pb hb17, pb hb18])) (by kernel_rfl)
 rintro ⟨⟩
 exact rS (runS 300 (o2 ++ [pb hb6, pb hb10, pb hb15, pb hb16, pb hb17])) (by kernel_rfl)
 rintro ⟨⟩
 exact rS (runS 300 (o2 ++ [pb hb6, pb hb10, pb hb15, pb hb16])) (by kernel_rfl)
 rintro ⟨⟩
 exact rS (runS 300 (o2 ++ [pb hb6, pb hb10, pb hb15])) (by kernel_rfl)
noncomputable def B172 : Code := bodyOf Tryz.f172
theorem b172 : Tryz.f172.body = some B172 := by kernel_rfl
noncomputable def ref05_within_B  (n : Int) (limit : Int) : Option Bool := cond (leI (wneg limit) n) (cond (leI n limit) (some true) (some false)) (some false)
theorem ref05_within_step   (n : Int) (limit : Int) (yR : Bool) (h : ref05_within_B  n limit = some yR) : Pure P G 172 [.sc (.int .i64 n), .sc (.int .i64 limit)] (.sc (.bool yR)) := by
 unfold ref05_within_B at h
 refine pureM Hd.mixed Hd.plainG (WC_body Tryz.func172 b172 ?_) (plC rfl (plC rfl rfl)) rfl
 revert h
 refine cndI (fun hb1 => ?_) fun hb1 => ?_
 refine cndI (fun hb2 => ?_) fun hb2 => ?_
 rintro ⟨⟩
 exact rS (runS 300 [pb hb1, pb hb2]) (by kernel_rfl)
 rintro ⟨⟩
 exact rS (runS 300 [pb hb1, pb hb2]) (by kernel_rfl)
 rintro ⟨⟩
 exact rS (runS 300 [pb hb1]) (by kernel_rfl)
noncomputable def B145 : Code := bodyOf Tryz.f145
theorem b145 : Tryz.f145.body = some B145 := by kernel_rfl
noncomputable def ref05_Valid_L1  (f : Fn) (i0 : Nat) (e0 : Pc)  : Option (Lp Unit Unit Bool) := (ref05_within_B e0.slope 1000000).bind fun y1 => (ref05_within_B e0.att 1000000000000000000).bind fun y2 => cond y1 (cond y2 (cond (ltI 1000000000000 e0.fr) (some (.rt false)) (cond (eqI ((i0 : Nat) : Int) 0) (cond (eqI e0.fr 0) (some (.nx ())) (some (.rt false))) (cond (ltI 0 ((i0 : Nat) : Int)) ((geti f.ps (wsub ((i0 : Nat) : Int) 1)).bind fun x3 => cond (leI e0.fr x3.fr) (some (.rt false)) (some (.nx ()))) (some (.nx ()))))) (some (.rt false))) (some (.rt false))
noncomputable def ref05_Valid_B  (f : Fn) : Option Bool := cond (ltI f.den 1) (some false) (cond (ltI 1000000 f.den) (some false) (cond (ltI ((f.ps.length : Nat) : Int) 1) (some false) (cond (ltI 64 ((f.ps.length : Nat) : Int)) (some false) ((lim f.ps.length (foldL (fun i y x => ref05_Valid_L1  f i y ) (fun x => ()) (f.ps.drop 0) 0 ())).bind (lpK (fun (_ : Unit) => some true) (fun v => some v))))))
theorem ref05_Valid_step   (f : Fn) (yR : Bool) (h : ref05_Valid_B  f = some yR) : Pure P G 145 [.agg (fnC f)] (.sc (.bool yR)) := by
 unfold ref05_Valid_B at h
 refine pureM Hd.mixed Hd.plainG (WC_body Tryz.func145 b145 ?_) (plC (layFn.plG f) rfl) rfl
 revert h
 refine cndI (fun hb1 => ?_) fun hb1 => ?_
 rintro ⟨⟩
 exact rS (runS 300 [pb hb1]) (by kernel_rfl)
 refine cndI (fun hb2 => ?_) fun hb2 => ?_
 rintro ⟨⟩
 exact rS (runS 300 [pb hb1, pb hb2]) (by kernel_rfl)
 refine cndI (fun hb3 => ?_) fun hb3 => ?_
 rintro ⟨⟩
 exact rS (runS 300 [pb hb1, pb hb2, pb hb3]) (by kernel_rfl)
 refine cndI (fun hb4 => ?_) fun hb4 => ?_
 rintro ⟨⟩
 exact rS (runS 300 [pb hb1, pb hb2, pb hb3, pb hb4]) (by kernel_rfl)
 refine bndI fun res hres h => ?_
 have hlen := (limE hres).1
 replace hres := (limE hres).2
 refine go_at [] [0, 1, 2, 3, 5, 6, 9, 10, 13, 14, 15, 19, 20, 21, 25, 26, 31, 38, 41, 44, 45, 46, 47, 48, 49, 50, 51, 54, 55, 56, 58, 59, 62, 63, 64, 65, 67, 68, 78, 79, 80] 0 (sub B145 [1, 1, 0, 1, 0, 0]) [.code (sub B145 [1, 1, 1])] _ _ (runS 300 [pb hb1, pb hb2, pb hb3, pb hb4]) (by kernel_rfl) (foldP (fn := Tryz.f145) (m := 0) (fun v => .sc (.bool v)) 0 f.ps (fun i0 (_ : Unit) (j0 : JJ) => frm 81 0 [(1, .ptr 0 0), (3, .sc (.int .i64 ((i0 : Nat) : Int)))] [2, 5, 6, 9, 10, 13, 14, 15, 19, 20, 21, 25, 26, 31, 41, 44, 45, 46, 47, 48, 49, 50, 51, 54, 55, 56, 58, 59, 62, 63, 64, 65, 67, 68, 78, 79, 80] 0 [0, 38] 0 j0) (fun (_ : Nat) (_ : Unit) (_ : JJ) => ⟨[(0, .cells (fnC f))], 1, [], 0⟩) (fun (j : JJ) => plainL j.2 = true) (fun (_ : Unit) (jx : JJ) => frm 81 0 [] [2, 5, 6, 9, 10, 13, 14, 15, 19, 20, 21, 25, 26, 31, 41, 44, 45, 46, 47, 48, 49, 50, 51, 54, 55, 56, 58, 59, 62, 63, 64, 65, 67, 68, 78, 79, 80] 0 [0, 38] 0 jx) (fun (_ : Unit) (_ : JJ) => ⟨[(0, .cells (fnC f))], 1, [], 0⟩) (fun (j : JJ) => plainL j.2 = true) ?_ ?_ 0 hres ?_ ?_ ([.bool false, undef, undef, .bool false, .bool false, .bool false, .bool false, .bool false, .bool false, .bool false, .bool false, .bool false, .bool false], [.agg (fnC f), .sc undef]) (plC (layFn.plG f) (plC rfl rfl)))
 rintro i0 ⟨⟩ j0 hj0 hge hq
 clear h hres
 refine WL_rnd ?_
 exact go_ex Hd.plainG [1, 4, 10, 12, 18, 20, 26, 28, 30, 38, 40, 42, 50, 52, 62, 77, 82, 88, 90, 92, 94, 96, 98, 100, 102, 108, 110, 112, 116, 118, 124, 126, 128, 130, 134, 136, 156, 158, 160] [fq (gn_pl hj0 0), fq (gn_pl hj0 1)] [fbp (fnC f) (layFn.pl f)] 0 _ _ (runS 300 [pb (B := ltI ((i0 : Nat) : Int) ((f.ps.length : Nat) : Int)) (b := false) (ltF hge)]) (by kernel_rfl) (hq ([(jn j0 0), (jn j0 1), (jn j0 2), (jn j0 3), (jn j0 4), (jn j0 5), (jn j0 6), (jn j0 7), (jn j0 8), (jn j0 9), (jn j0 10), (jn j0 11), (jn j0 12), .bool false, (jn j0 14), (jn j0 15), (jn j0 16), (jn j0 17), (jn j0 18), (jn j0 19), (jn j0 20), (jn j0 21), (jn j0 22), (jn j0 23), (jn j0 24), (jn j0 25), (jn j0 26), (jn j0 27), (jn j0 28), (jn j0 29), (jn j0 30), (jn j0 31), (jn j0 32), (jn j0 33), (jn j0 34), (jn j0 35), (jn j0 36)], [(gn j0 0), (gn j0 1)]) (plC (gn_pl hj0 0) (plC (gn_pl hj0 1) rfl)))
 clear h hres
 rintro i0 e0 ⟨⟩ j0 r hj0 he0 hi0 h k
 refine WL_rnd ?_
 revert h
 show ref05_Valid_L1  f i0 e0  = some r → _
 unfold ref05_Valid_L1
 refine bndI fun y1 hy1 => ?_
 refine bndI fun y2 hy2 => ?_
 let o1 : List (PC P G) := [pb (B := ltI ((i0 : Nat) : Int) ((f.ps.length : Nat) : Int)) (b := true) (ltT hi0), pix (ix22 .lost he0)]
 refine cndI (fun hv => ?_) fun hv => ?_
 subst hv
 let o2 : List (PC P G) := o1 ++ [pcall (ref05_within_step e0.slope 1000000 true hy1)]
 refine cndI (fun hv => ?_) fun hv => ?_
 subst hv
 let o3 : List (PC P G) := o2 ++ [pcall (ref05_within_step e0.att 1000000000000000000 true hy2)]
 refine cndI (fun hb5 => ?_) fun hb5 => ?_
 rintro ⟨⟩
 exact go_retA _ _ (runS 300 (o3 ++ [pb hb5])) (by kernel_rfl) (.rnd k) .sc
 refine cndI (fun hb6 => ?_) fun hb6 => ?_
 refine cndI (fun hb7 => ?_) fun hb7 => ?_
 rintro ⟨⟩
 exact go_nx Hd.plainG [1, 2, 4, 6, 10, 12, 18, 20, 26, 28, 30, 38, 40, 42, 50, 52, 62, 77, 82, 88, 90, 92, 94, 96, 98, 100, 102, 108, 110, 112, 116, 118, 124, 126, 128, 130, 134, 136, 156, 158, 160] [fq (gn_pl hj0 0), fq (layPc.plG e0)] [fbp (fnC f) (layFn.pl f)] _ _ (runS 300 (o3 ++ [pb hb5, pb hb6, pn hb7, pb (B := ltI 0 ((i0 : Nat) : Int)) (b := false) (ltI_f (by have := eqI_T hb6; omega)), pinc i0 (by omega)])) (by kernel_rfl) (k ([(jn j0 0), .bool true, .bool true, (jn j0 3), (jn j0 4), (jn j0 5), (jn j0 6), (jn j0 7), (jn j0 8), (jn j0 9), (jn j0 10), (jn j0 11), (jn j0 12), .bool true, .bool true, .bool true, .bool true, .bool false, .bool false, .bool true, .bool false, .bool false, .bool false, .bool false, .bool false, .bool false, .bool true, .bool true, .bool false, .bool false, .bool false, .bool false, .bool false, .bool false, undef, .bool false, .bool false], [(gn j0 0), .agg (pcC e0)]) (plC (gn_pl hj0 0) (plC (layPc.plG e0) rfl)))
 rintro ⟨⟩
 exact go_retA _ _ (runS 300 (o3 ++ [pb hb5, pb hb6, pn hb7])) (by kernel_rfl) (.rnd k) .sc
 refine cndI (fun hb8 => ?_) fun hb8 => ?_
 refine bndI fun x3 hx3 => ?_
 refine cndI (fun hb9 => ?_) fun hb9 => ?_
 rintro ⟨⟩
 exact go_retA _ _ (runS 300 (o3 ++ [pb hb5, pb hb6, pb hb8, pk, pix (ixz22 .lost hx3), pb hb9])) (by kernel_rfl) (.rnd k) .sc
 rintro ⟨⟩
 exact go_nx Hd.plainG [1, 2, 4, 6, 10, 12, 18, 20, 26, 28, 30, 38, 40, 42, 50, 52, 62, 77, 82, 88, 90, 92, 94, 96, 98, 100, 102, 108, 110, 112, 116, 118, 124, 126, 128, 130, 134, 136, 156, 158, 160] [fq (gn_pl hj0 0), fq (layPc.plG e0)] [fbp (fnC f) (layFn.pl f)] _ _ (runS 300 (o3 ++ [pb hb5, pb hb6, pb hb8, pk, pix (ixz22 .lost hx3), pb hb9, pinc i0 (by omega)])) (by kernel_rfl) (k ([(jn j0 0), .bool true, .bool true, (jn j0 3), (jn j0 4), (jn j0 5), (jn j0 6), (jn j0 7), (jn j0 8), (jn j0 9), (jn j0 10), (jn j0 11), (jn j0 12), .bool true, .bool true, .bool true, .bool true, .bool false, .bool false, .bool true, .bool false, .bool false, .bool false, .bool false, .bool false, .bool false, .bool false, .bool false, undef, .bool false, .bool false, .bool false, .bool true, .bool true, .bool false, .bool false, .bool false], [(gn j0 0), .agg (pcC e0)]) (plC (gn_pl hj0 0) (plC (layPc.plG e0) rfl)))
 rintro ⟨⟩
 exact go_nx Hd.plainG [1, 2, 4, 6, 10, 12, 18, 20, 26, 28, 30, 38, 40, 42, 50, 52, 62, 77, 82, 88, 90, 92, 94, 96, 98, 100, 102, 108, 110, 112, 116, 118, 124, 126, 128, 130, 134, 136, 156, 158, 160] [fq (gn_pl hj0 0), fq (layPc.plG e0)] [fbp (fnC f) (layFn.pl f)] _ _ (runS 300 (o3 ++ [pb hb5, pb hb6, pb hb8, pinc i0 (by omega)])) (by kernel_rfl) (k ([(jn j0 0), .bool true, .bool true, (jn j0 3), (jn j0 4), (jn j0 5), (jn j0 6), (jn j0 7), (jn j0 8), (jn j0 9), (jn j0 10), (jn j0 11), (jn j0 12), .bool true, .bool true, .bool true, .bool true, .bool false, .bool false, .bool true, .bool false, .bool false, .bool false, .bool false, .bool false, .bool false, .bool false, .bool false, undef, .bool false, .bool false, .bool false, .bool false, .bool false, undef, .bool false, .bool false], [(gn j0 0), .agg (pcC e0)]) (plC (gn_pl hj0 0) (plC (layPc.plG e0) rfl)))
 subst hv
 rintro ⟨⟩
 exact go_retA _ _ (runS 300 (o2 ++ [pcall (ref05_within_step e0.att 1000000000000000000 false hy2)])) (by kernel_rfl) (.rnd k) .sc
 subst hv
 rintro ⟨⟩
 exact go_retA _ _ (runS 300 (o1 ++ [pcall (ref05_within_step e0.slope 1000000 false hy1), pcall (ref05_within_step e0.att 1000000000000000000 y2 hy2)])) (by kernel_rfl) (.rnd k) .sc
 rintro ⟨⟩ rfl jx_4 hjx_4
 revert h
 clear hres
 dsimp only [lpK]
 intro h
 have hE := Option.some.inj h
 subst hE
 exact go_retA _ _ (runX 300 []) (by kernel_rfl) .body .sc
 rintro v rfl
 dsimp only [lpK] at h
 cases h
 exact .outer .body
noncomputable def B146 : Code := bodyOf Tryz.f146
theorem b146 : Tryz.f146.body = some B146 := by kernel_rfl
noncomputable def ref10_many_L1  (e : Ex) (x1 : Ex) (i0 : Nat) (e0 : Ex)  : Option (Lp Unit Unit Bool) := cond (eqI e.op 16) (cond (eqB e0.unit.data.toList x1.unit.data.toList) (some (.nx ())) (some (.rt false))) (cond (eqI e.op 17) (cond (eqB e0.unit.data.toList x1.unit.data.toList) (some (.nx ())) (some (.rt false))) (some (.nx ())))
noncomputable def ref10_many_B  (e : Ex) : Option Bool := (e.kids[0]?).bind fun x1 => (e.kids[1]?).bind fun x2 => (lim e.kids.length (foldL (fun i y x => ref10_many_L1  e x1 i y ) (fun x => ()) (e.kids.drop 0) 0 ())).bind (lpK (fun (_ : Unit) => cond (eqI e.op 16) (cond (eqB x1.unit.data.toList truthS.data.toList) (some false) (cond (eqB e.unit.data.toList x1.unit.data.toList) (some true) (some false))) (cond (eqI e.op 17) (cond (eqB x1.unit.data.toList truthS.data.toList) (some false) (cond (eqB e.unit.data.toList x1.unit.data.toList) (some true) (some false))) (cond (eqI ((e.kids.length : Nat) : Int) 2) (cond (eqI e.op 6) (cond (eqB e.unit.data.toList truthS.data.toList) (cond (eqB x1.unit.data.toList truthS.data.toList) (cond (eqB x2.unit.data.toList truthS.data.toList) (some true) (some false)) (some false)) (some false)) (cond (eqI e.op 7) (cond (eqB e.unit.data.toList truthS.data.toList) (cond (eqB x1.unit.data.toList truthS.data.toList) (cond (eqB x2.unit.data.toList truthS.data.toList) (some true) (some false)) (some false)) (some false)) (cond (eqI e.op 8) (cond (eqB e.unit.data.toList truthS.data.toList) (cond (eqB x1.unit.data.toList x2.unit.data.toList) (some true) (some false)) (some false)) (cond (eqI e.op 9) (cond (eqB e.unit.data.toList truthS.data.toList) (cond (eqB x1.unit.data.toList x2.unit.data.toList) (cond (eqB x1.unit.data.toList truthS.data.toList) (some false) (some true)) (some false)) (some false)) (cond (eqI e.op 10) (cond (eqB e.unit.data.toList truthS.data.toList) (cond (eqB x1.unit.data.toList x2.unit.data.toList) (cond (eqB x1.unit.data.toList truthS.data.toList) (some false) (some true)) (some false)) (some false)) (cond (eqI e.op 11) (cond (eqB e.unit.data.toList x1.unit.data.toList) (cond (eqB x1.unit.data.toList x2.unit.data.toList) (cond (eqB x1.unit.data.toList truthS.data.toList) (some false) (some true)) (some false)) (some false)) (cond (eqI e.op 12) (cond (eqB e.unit.data.toList x1.unit.data.toList) (cond (eqB x1.unit.data.toList x2.unit.data.toList) (cond (eqB x1.unit.data.toList truthS.data.toList) (some false) (some true)) (some false)) (some false)) (cond (eqI e.op 13) (cond (eqB x1.unit.data.toList truthS.data.toList) (some false) (cond (eqB x2.unit.data.toList truthS.data.toList) (some false) (cond (eqB x1.unit.data.toList numberS.data.toList) (cond (eqB e.unit.data.toList x2.unit.data.toList) (some true) (cond (eqB x2.unit.data.toList numberS.data.toList) (cond (eqB e.unit.data.toList x1.unit.data.toList) (some true) (some false)) (some false))) (cond (eqB x2.unit.data.toList numberS.data.toList) (cond (eqB e.unit.data.toList x1.unit.data.toList) (some true) (some false)) (some false))))) (cond (eqI e.op 14) (cond (eqB e.unit.data.toList x1.unit.data.toList) (cond (eqB x1.unit.data.toList truthS.data.toList) (some false) (cond (eqI x2.op 1) (cond (eqB x2.unit.data.toList numberS.data.toList) (cond (leI 1 x2.n) (cond (leI x2.n 1000000) (some true) (some false)) (some false)) (some false)) (some false))) (some false)) (cond (eqI e.op 15) (cond (eqB x1.unit.data.toList minutesS.data.toList) ((ref07_Cur_B x2.unit).bind fun y4 => cond y4 (cond (eqB e.unit.data.toList x2.unit.data.toList) (some true) (some false)) (some false)) (some false)) (some false))))))))))) (some false)))) (fun v => some v))
theorem ref10_many_step   (e : Ex) (yR : Bool) (h : ref10_many_B  e = some yR) : Pure P G 146 [.agg (exC e)] (.sc (.bool yR)) := by
 unfold ref10_many_B at h
 refine pureM Hd.mixed Hd.plainG (WC_body Tryz.func146 b146 ?_) (plC (layEx.plG e) rfl) rfl
 revert h
 refine bndI fun x1 hx1 => ?_
 refine bndI fun x2 hx2 => ?_
 refine bndI fun res hres h => ?_
 have hlen := (limE hres).1
 replace hres := (limE hres).2
 refine go_at [] [0, 1, 2, 3, 4, 5, 20, 25, 26, 29, 30, 31, 39, 40, 43, 44, 47, 48, 50, 51, 55, 56, 60, 63, 64, 65, 68, 69, 71, 72, 73, 75, 76, 77, 78, 81, 82, 85, 86, 87, 88, 89, 92, 93, 96, 97, 98, 100, 101, 102, 103, 104, 108, 109, 112, 113, 114, 116, 117, 118, 119, 121, 122, 124, 125, 126, 128, 129, 133, 134, 135, 137, 138, 142, 143, 144, 145, 146, 147, 151, 152, 154, 155, 156, 162, 163, 164, 166, 167, 168, 174, 175, 176, 182, 183, 184, 185, 187, 188, 190, 191, 192, 196, 197] 0 (sub B146 [1, 1, 1, 0, 1, 0, 0]) [.code (sub B146 [1, 1, 1, 1])] _ _ (runS 300 [pix (ix58 .lost hx1), pix (ix58 .lost hx2)]) (by kernel_rfl) (foldP (fn := Tryz.f146) (m := 0) (fun v => .sc (.bool v)) 0 e.kids (fun i0 (_ : Unit) (j0 : JJ) => frm 198 0 [(1, .ptr 0 0), (3, .sc (.string x1.unit)), (4, .sc (.string x2.unit)), (5, .sc (.int .i64 ((i0 : Nat) : Int)))] [2, 20, 25, 26, 29, 30, 31, 39, 40, 43, 44, 47, 48, 50, 51, 55, 56, 60, 63, 64, 65, 68, 69, 71, 72, 73, 75, 76, 77, 78, 81, 82, 85, 86, 87, 88, 89, 92, 93, 96, 97, 98, 100, 101, 102, 103, 104, 108, 109, 112, 113, 114, 116, 117, 118, 119, 121, 122, 124, 125, 126, 128, 129, 133, 134, 135, 137, 138, 142, 143, 144, 145, 146, 147, 151, 152, 154, 155, 156, 162, 163, 164, 166, 167, 168, 174, 175, 176, 182, 183, 184, 185, 187, 188, 190, 191, 192, 196, 197] 0 [0] 0 j0) (fun (_ : Nat) (_ : Unit) (_ : JJ) => ⟨[(0, .cells (exC e))], 1, [], 0⟩) (fun (j : JJ) => plainL j.2 = true) (fun (_ : Unit) (jx : JJ) => frm 198 0 [(1, .ptr 0 0), (3, .sc (.string x1.unit)), (4, .sc (.string x2.unit))] [2, 20, 25, 26, 29, 30, 31, 39, 40, 43, 44, 47, 48, 50, 51, 55, 56, 60, 63, 64, 65, 68, 69, 71, 72, 73, 75, 76, 77, 78, 81, 82, 85, 86, 87, 88, 89, 92, 93, 96, 97, 98, 100, 101, 102, 103, 104, 108, 109, 112, 113, 114, 116, 117, 118, 119, 121, 122, 124, 125, 126, 128, 129, 133, 134, 135, 137, 138, 142, 143, 144, 145, 146, 147, 151, 152, 154, 155, 156, 162, 163, 164, 166, 167, 168, 174, 175, 176, 182, 183, 184, 185, 187, 188, 190, 191, 192, 196, 197] 0 [0] 0 jx) (fun (_ : Unit) (_ : JJ) => ⟨[(0, .cells (exC e))], 1, [], 0⟩) (fun (j : JJ) => plainL j.2 = true) ?_ ?_ 0 hres ?_ ?_ ([.bool false], [.agg (exC e)]) (plC (layEx.plG e) rfl))
 rintro i0 ⟨⟩ j0 hj0 hge hq
 clear h hres
 refine WL_rnd ?_
 exact go_ex Hd.plainG [1, 2, 4, 6, 8, 40, 50, 52, 58, 60, 62, 78, 80, 86, 88, 94, 96, 100, 102, 110, 112, 120, 126, 128, 130, 136, 138, 142, 144, 146, 150, 152, 154, 156, 162, 164, 170, 172, 174, 176, 178, 184, 186, 192, 194, 196, 200, 202, 204, 206, 208, 216, 218, 224, 226, 228, 232, 234, 236, 238, 242, 244, 248, 250, 252, 256, 258, 266, 268, 270, 274, 276, 284, 286, 288, 290, 292, 294, 302, 304, 308, 310, 312, 324, 326, 328, 332, 334, 336, 348, 350, 352, 364, 366, 368, 370, 374, 376, 380, 382, 384, 392, 394] [fq (gn_pl hj0 0)] [fbp (exC e) (layEx.pl e)] 0 _ _ (runS 300 [pb (B := ltI ((i0 : Nat) : Int) ((e.kids.length : Nat) : Int)) (b := false) (ltF hge)]) (by kernel_rfl) (hq ([(jn j0 0), .bool false, (jn j0 2), (jn j0 3), (jn j0 4), (jn j0 5), (jn j0 6), (jn j0 7), (jn j0 8), (jn j0 9), (jn j0 10), (jn j0 11), (jn j0 12), (jn j0 13), (jn j0 14), (jn j0 15), (jn j0 16), (jn j0 17), (jn j0 18), (jn j0 19), (jn j0 20), (jn j0 21), (jn j0 22), (jn j0 23), (jn j0 24), (jn j0 25), (jn j0 26), (jn j0 27), (jn j0 28), (jn j0 29), (jn j0 30), (jn j0 31), (jn j0 32), (jn j0 33), (jn j0 34), (jn j0 35), (jn j0 36), (jn j0 37), (jn j0 38), (jn j0 39), (jn j0 40), (jn j0 41), (jn j0 42), (jn j0 43), (jn j0 44), (jn j0 45), (jn j0 46), (jn j0 47), (jn j0 48), (jn j0 49), (jn j0 50), (jn j0 51), (jn j0 52), (jn j0 53), (jn j0 54), (jn j0 55), (jn j0 56), (jn j0 57), (jn j0 58), (jn j0 59), (jn j0 60), (jn j0 61), (jn j0 62), (jn j0 63), (jn j0 64), (jn j0 65), (jn j0 66), (jn j0 67), (jn j0 68), (jn j0 69), (jn j0 70), (jn j0 71), (jn j0 72), (jn j0 73), (jn j0 74), (jn j0 75), (jn j0 76), (jn j0 77), (jn j0 78), (jn j0 79), (jn j0 80), (jn j0 81), (jn j0 82), (jn j0 83), (jn j0 84), (jn j0 85), (jn j0 86), (jn j0 87), (jn j0 88), (jn j0 89), (jn j0 90), (jn j0 91), (jn j0 92), (jn j0 93), (jn j0 94), (jn j0 95), (jn j0 96), (jn j0 97), (jn j0 98)], [(gn j0 0)]) (plC (gn_pl hj0 0) rfl))
 clear h hres
 rintro i0 e0 ⟨⟩ j0 r hj0 he0 hi0 h k
 refine WL_rnd ?_
 revert h
 show ref10_many_L1  e x1 i0 e0  = some r → _
 unfold ref10_many_L1
 let o1 : List (PC P G) := [pb (B := ltI ((i0 : Nat) : Int) ((e.kids.length : Nat) : Int)) (b := true) (ltT hi0)]
 refine cndI (fun hb1 => ?_) fun hb1 => ?_
 refine cndI (fun hb2 => ?_) fun hb2 => ?_
 rintro ⟨⟩
 exact go_nx Hd.plainG [1, 2, 4, 6, 8, 10, 40, 50, 52, 58, 60, 62, 78, 80, 86, 88, 94, 96, 100, 102, 110, 112, 120, 126, 128, 130, 136, 138, 142, 144, 146, 150, 152, 154, 156, 162, 164, 170, 172, 174, 176, 178, 184, 186, 192, 194, 196, 200, 202, 204, 206, 208, 216, 218, 224, 226, 228, 232, 234, 236, 238, 242, 244, 248, 250, 252, 256, 258, 266, 268, 270, 274, 276, 284, 286, 288, 290, 292, 294, 302, 304, 308, 310, 312, 324, 326, 328, 332, 334, 336, 348, 350, 352, 364, 366, 368, 370, 374, 376, 380, 382, 384, 392, 394] [fq (gn_pl hj0 0)] [fbp (exC e) (layEx.pl e)] _ _ (runS 300 (o1 ++ [pb hb1, pix (ix58 .lost he0), pn hb2, pinc i0 (by omega)])) (by kernel_rfl) (k ([(jn j0 0), .bool true, .bool true, .bool true, undef, .bool true, .bool true, .bool false, .bool false, (jn j0 9), (jn j0 10), (jn j0 11), (jn j0 12), (jn j0 13), (jn j0 14), (jn j0 15), (jn j0 16), (jn j0 17), (jn j0 18), (jn j0 19), (jn j0 20), (jn j0 21), (jn j0 22), (jn j0 23), (jn j0 24), (jn j0 25), (jn j0 26), (jn j0 27), (jn j0 28), (jn j0 29), (jn j0 30), (jn j0 31), (jn j0 32), (jn j0 33), (jn j0 34), (jn j0 35), (jn j0 36), (jn j0 37), (jn j0 38), (jn j0 39), (jn j0 40), (jn j0 41), (jn j0 42), (jn j0 43), (jn j0 44), (jn j0 45), (jn j0 46), (jn j0 47), (jn j0 48), (jn j0 49), (jn j0 50), (jn j0 51), (jn j0 52), (jn j0 53), (jn j0 54), (jn j0 55), (jn j0 56), (jn j0 57), (jn j0 58), (jn j0 59), (jn j0 60), (jn j0 61), (jn j0 62), (jn j0 63), (jn j0 64), (jn j0 65), (jn j0 66), (jn j0 67), (jn j0 68), (jn j0 69), (jn j0 70), (jn j0 71), (jn j0 72), (jn j0 73), (jn j0 74), (jn j0 75), (jn j0 76), (jn j0 77), (jn j0 78), (jn j0 79), (jn j0 80), (jn j0 81), (jn j0 82), (jn j0 83), (jn j0 84), (jn j0 85), (jn j0 86), (jn j0 87), (jn j0 88), (jn j0 89), (jn j0 90), (jn j0 91), (jn j0 92), (jn j0 93), (jn j0 94), (jn j0 95), (jn j0 96), (jn j0 97), (jn j0 98)], [(gn j0 0)]) (plC (gn_pl hj0 0) rfl))
 rintro ⟨⟩
 exact go_retA _ _ (runS 300 (o1 ++ [pb hb1, pix (ix58 .lost he0), pn hb2])) (by kernel_rfl) (.rnd k) .sc
 refine cndI (fun hb3 => ?_) fun hb3 => ?_
 refine cndI (fun hb4 => ?_) fun hb4 => ?_
 rintro ⟨⟩
 exact go_nx Hd.plainG [1, 2, 4, 6, 8, 10, 40, 50, 52, 58, 60, 62, 78, 80, 86, 88, 94, 96, 100, 102, 110, 112, 120, 126, 128, 130, 136, 138, 142, 144, 146, 150, 152, 154, 156, 162, 164, 170, 172, 174, 176, 178, 184, 186, 192, 194, 196, 200, 202, 204, 206, 208, 216, 218, 224, 226, 228, 232, 234, 236, 238, 242, 244, 248, 250, 252, 256, 258, 266, 268, 270, 274, 276, 284, 286, 288, 290, 292, 294, 302, 304, 308, 310, 312, 324, 326, 328, 332, 334, 336, 348, 350, 352, 364, 366, 368, 370, 374, 376, 380, 382, 384, 392, 394] [fq (gn_pl hj0 0)] [fbp (exC e) (layEx.pl e)] _ _ (runS 300 (o1 ++ [pb hb1, pb hb3, pix (ix58 .lost he0), pn hb4, pinc i0 (by omega)])) (by kernel_rfl) (k ([(jn j0 0), .bool true, .bool false, .bool false, .bool true, .bool true, .bool true, .bool false, .bool false, (jn j0 9), (jn j0 10), (jn j0 11), (jn j0 12), (jn j0 13), (jn j0 14), (jn j0 15), (jn j0 16), (jn j0 17), (jn j0 18), (jn j0 19), (jn j0 20), (jn j0 21), (jn j0 22), (jn j0 23), (jn j0 24), (jn j0 25), (jn j0 26), (jn j0 27), (jn j0 28), (jn j0 29), (jn j0 30), (jn j0 31), (jn j0 32), (jn j0 33), (jn j0 34), (jn j0 35), (jn j0 36), (jn j0 37), (jn j0 38), (jn j0 39), (jn j0 40), (jn j0 41), (jn j0 42), (jn j0 43), (jn j0 44), (jn j0 45), (jn j0 46), (jn j0 47), (jn j0 48), (jn j0 49), (jn j0 50), (jn j0 51), (jn j0 52), (jn j0 53), (jn j0 54), (jn j0 55), (jn j0 56), (jn j0 57), (jn j0 58), (jn j0 59), (jn j0 60), (jn j0 61), (jn j0 62), (jn j0 63), (jn j0 64), (jn j0 65), (jn j0 66), (jn j0 67), (jn j0 68), (jn j0 69), (jn j0 70), (jn j0 71), (jn j0 72), (jn j0 73), (jn j0 74), (jn j0 75), (jn j0 76), (jn j0 77), (jn j0 78), (jn j0 79), (jn j0 80), (jn j0 81), (jn j0 82), (jn j0 83), (jn j0 84), (jn j0 85), (jn j0 86), (jn j0 87), (jn j0 88), (jn j0 89), (jn j0 90), (jn j0 91), (jn j0 92), (jn j0 93), (jn j0 94), (jn j0 95), (jn j0 96), (jn j0 97), (jn j0 98)], [(gn j0 0)]) (plC (gn_pl hj0 0) rfl))
 rintro ⟨⟩
 exact go_retA _ _ (runS 300 (o1 ++ [pb hb1, pb hb3, pix (ix58 .lost he0), pn hb4])) (by kernel_rfl) (.rnd k) .sc
 rintro ⟨⟩
 exact go_nx Hd.plainG [1, 2, 4, 6, 8, 10, 40, 50, 52, 58, 60, 62, 78, 80, 86, 88, 94, 96, 100, 102, 110, 112, 120, 126, 128, 130, 136, 138, 142, 144, 146, 150, 152, 154, 156, 162, 164, 170, 172, 174, 176, 178, 184, 186, 192, 194, 196, 200, 202, 204, 206, 208, 216, 218, 224, 226, 228, 232, 234, 236, 238, 242, 244, 248, 250, 252, 256, 258, 266, 268, 270, 274, 276, 284, 286, 288, 290, 292, 294, 302, 304, 308, 310, 312, 324, 326, 328, 332, 334, 336, 348, 350, 352, 364, 366, 368, 370, 374, 376, 380, 382, 384, 392, 394] [fq (gn_pl hj0 0)] [fbp (exC e) (layEx.pl e)] _ _ (runS 300 (o1 ++ [pb hb1, pb hb3, pinc i0 (by omega)])) (by kernel_rfl) (k ([(jn j0 0), .bool true, .bool false, .bool false, .bool false, .bool false, .bool false, undef, .bool false, (jn j0 9), (jn j0 10), (jn j0 11), (jn j0 12), (jn j0 13), (jn j0 14), (jn j0 15), (jn j0 16), (jn j0 17), (jn j0 18), (jn j0 19), (jn j0 20), (jn j0 21), (jn j0 22), (jn j0 23), (jn j0 24), (jn j0 25), (jn j0 26), (jn j0 27), (jn j0 28), (jn j0 29), (jn j0 30), (jn j0 31), (jn j0 32), (jn j0 33), (jn j0 34), (jn j0 35), (jn j0 36), (jn j0 37), (jn j0 38), (jn j0 39), (jn j0 40), (jn j0 41), (jn j0 42), (jn j0 43), (jn j0 44), (jn j0 45), (jn j0 46), (jn j0 47), (jn j0 48), (jn j0 49), (jn j0 50), (jn j0 51), (jn j0 52), (jn j0 53), (jn j0 54), (jn j0 55), (jn j0 56), (jn j0 57), (jn j0 58), (jn j0 59), (jn j0 60), (jn j0 61), (jn j0 62), (jn j0 63), (jn j0 64), (jn j0 65), (jn j0 66), (jn j0 67), (jn j0 68), (jn j0 69), (jn j0 70), (jn j0 71), (jn j0 72), (jn j0 73), (jn j0 74), (jn j0 75), (jn j0 76), (jn j0 77), (jn j0 78), (jn j0 79), (jn j0 80), (jn j0 81), (jn j0 82), (jn j0 83), (jn j0 84), (jn j0 85), (jn j0 86), (jn j0 87), (jn j0 88), (jn j0 89), (jn j0 90), (jn j0 91), (jn j0 92), (jn j0 93), (jn j0 94), (jn j0 95), (jn j0 96), (jn j0 97), (jn j0 98)], [(gn j0 0)]) (plC (gn_pl hj0 0) rfl))
 rintro ⟨⟩ rfl jx_3 hjx_3
 revert h
 clear hres
 dsimp only [lpK]
 refine cndI (fun hb5 => ?_) fun hb5 => ?_
 refine cndI (fun hb6 => ?_) fun hb6 => ?_
 intro h
 have hE := Option.some.inj h
 subst hE
 exact go_retA _ _ (runX 300 [pb hb5, pn hb6]) (by kernel_rfl) .body .sc
 refine cndI (fun hb7 => ?_) fun hb7 => ?_
 intro h
 have hE := Option.some.inj h
 subst hE
 exact go_retA _ _ (runX 300 [pb hb5, pn hb6, pb hb7]) (by kernel_rfl) .body .sc
 intro h
 have hE := Option.some.inj h
 subst hE
 exact go_retA _ _ (runX 300 [pb hb5, pn hb6, pb hb7]) (by kernel_rfl) .body .sc
 let o2 : List (PC P G) := [pb hb5]
 refine cndI (fun hb8 => ?_) fun hb8 => ?_
 refine cndI (fun hb9 => ?_) fun hb9 => ?_
 intro h
 have hE := Option.some.inj h
 subst hE
 exact go_retA _ _ (runX 300 (o2 ++ [pb hb8, pn hb9])) (by kernel_rfl) .body .sc
 refine cndI (fun hb10 => ?_) fun hb10 => ?_
 intro h
 have hE := Option.some.inj h
 subst hE
 exact go_retA _ _ (runX 300 (o2 ++ [pb hb8, pn hb9, pb hb10])) (by kernel_rfl) .body .sc
 intro h
 have hE := Option.some.inj h
 subst hE
 exact go_retA _ _ (runX 300 (o2 ++ [pb hb8, pn hb9, pb hb10])) (by kernel_rfl) .body .sc
 let o3 : List (PC P G) := o2 ++ [pb hb8]
 refine cndI (fun hb11 => ?_) fun hb11 => ?_
 let o4 : List (PC P G) := o3 ++ [pn hb11]
 refine cndI (fun hb12 => ?_) fun hb12 => ?_
 refine cndI (fun hb13 => ?_) fun hb13 => ?_
 refine cndI (fun hb14 => ?_) fun hb14 => ?_
 refine cndI (fun hb15 => ?_) fun hb15 => ?_
 intro h
 have hE := Option.some.inj h
 subst hE
 exact go_retA _ _ (runX 300 (o4 ++ [pb hb12, pb hb13, pb hb14, pb hb15])) (by kernel_rfl) .body .sc
 intro h
 have hE := Option.some.inj h
 subst hE
 exact go_retA _ _ (runX 300 (o4 ++ [pb hb12, pb hb13, pb hb14, pb hb15])) (by kernel_rfl) .body .sc
 intro h
 have hE := Option.some.inj h
 subst hE
 exact go_retA _ _ (runX 300 (o4 ++ [pb hb12, pb hb13, pb hb14])) (by kernel_rfl) .body .sc
 intro h
 have hE := Option.some.inj h
 subst hE
 exact go_retA _ _ (runX 300 (o4 ++ [pb hb12, pb hb13])) (by kernel_rfl) .body .sc
 let o5 : List (PC P G) := o4 ++ [pb hb12]
 refine cndI (fun hb16 => ?_) fun hb16 => ?_
 refine cndI (fun hb17 => ?_) fun hb17 => ?_
 refine cndI (fun hb18 => ?_) fun hb18 => ?_
 refine cndI (fun hb19 => ?_) fun hb19 => ?_
 intro h
 have hE := Option.some.inj h
 subst hE
 exact go_retA _ _ (runX 300 (o5 ++ [pb hb16, pb hb17, pb hb18, pb hb19])) (by kernel_rfl) .body .sc
 intro h
 have hE := Option.some.inj h
 subst hE
 exact go_retA _ _ (runX 300 (o5 ++ [pb hb16, pb hb17, pb hb18, pb hb19])) (by kernel_rfl) .body .sc
 intro h
 have hE := Option.some.inj h
 subst hE
 exact go_retA _ _ (runX 300 (o5 ++ [pb hb16, pb hb17, pb hb18])) (by kernel_rfl) .body .sc
 intro h
 have hE := Option.some.inj h
 subst hE
 exact go_retA _ _ (runX 300 (o5 ++ [pb hb16, pb hb17])) (by kernel_rfl) .body .sc
 let o6 : List (PC P G) := o5 ++ [pb hb16]
 refine cndI (fun hb20 => ?_) fun hb20 => ?_
 refine cndI (fun hb21 => ?_) fun hb21 => ?_
 refine cndI (fun hb22 => ?_) fun hb22 => ?_
 intro h
 have hE := Option.some.inj h
 subst hE
 exact go_retA _ _ (runX 300 (o6 ++ [pb hb20, pb hb21, pb hb22])) (by kernel_rfl) .body .sc
 intro h
 have hE := Option.some.inj h
 subst hE
 exact go_retA _ _ (runX 300 (o6 ++ [pb hb20, pb hb21, pb hb22])) (by kernel_rfl) .body .sc
 intro h
 have hE := Option.some.inj h
 subst hE
 exact go_retA _ _ (runX 300 (o6 ++ [pb hb20, pb hb21])) (by kernel_rfl) .body .sc
 let o7 : List (PC P G) := o6 ++ [pb hb20]
 refine cndI (fun hb23 => ?_) fun hb23 => ?_
 refine cndI (fun hb24 => ?_) fun hb24 => ?_
 refine cndI (fun hb25 => ?_) fun hb25 => ?_
 refine cndI (fun hb26 => ?_) fun hb26 => ?_
 intro h
 have hE := Option.some.inj h
 subst hE
 exact go_retA _ _ (runX 300 (o7 ++ [pb hb23, pb hb24, pb hb25, pn hb26])) (by kernel_rfl) .body .sc
 intro h
 have hE := Option.some.inj h
 subst hE
 exact go_retA _ _ (runX 300 (o7 ++ [pb hb23, pb hb24, pb hb25, pn hb26])) (by kernel_rfl) .body .sc
 intro h
 have hE := Option.some.inj h
 subst hE
 exact go_retA _ _ (runX 300 (o7 ++ [pb hb23, pb hb24, pb hb25])) (by kernel_rfl) .body .sc
 intro h
 have hE := Option.some.inj h
 subst hE
 exact go_retA _ _ (runX 300 (o7 ++ [pb hb23, pb hb24])) (by kernel_rfl) .body .sc
 let o8 : List (PC P G) := o7 ++ [pb hb23]
 refine cndI (fun hb27 => ?_) fun hb27 => ?_
 refine cndI (fun hb28 => ?_) fun hb28 => ?_
 refine cndI (fun hb29 => ?_) fun hb29 => ?_
 refine cndI (fun hb30 => ?_) fun hb30 => ?_
 intro h
 have hE := Option.some.inj h
 subst hE
 exact go_retA _ _ (runX 300 (o8 ++ [pb hb27, pb hb28, pb hb29, pn hb30])) (by kernel_rfl) .body .sc
 intro h
 have hE := Option.some.inj h
 subst hE
 exact go_retA _ _ (runX 300 (o8 ++ [pb hb27, pb hb28, pb hb29, pn hb30])) (by kernel_rfl) .body .sc
 intro h
 have hE := Option.some.inj h
 subst hE
 exact go_retA _ _ (runX 300 (o8 ++ [pb hb27, pb hb28, pb hb29])) (by kernel_rfl) .body .sc
 intro h
 have hE := Option.some.inj h
 subst hE
 exact go_retA _ _ (runX 300 (o8 ++ [pb hb27, pb hb28])) (by kernel_rfl) .body .sc
 let o9 : List (PC P G) := o8 ++ [pb hb27]
 refine cndI (fun hb31 => ?_) fun hb31 => ?_
 refine cndI (fun hb32 => ?_) fun hb32 => ?_
 refine cndI (fun hb33 => ?_) fun hb33 => ?_
 refine cndI (fun hb34 => ?_) fun hb34 => ?_
 intro h
 have hE := Option.some.inj h
 subst hE
 exact go_retA _ _ (runX 300 (o9 ++ [pb hb31, pb hb32, pb hb33, pn hb34])) (by kernel_rfl) .body .sc
 intro h
 have hE := Option.some.inj h
 subst hE
 exact go_retA _ _ (runX 300 (o9 ++ [pb hb31, pb hb32, pb hb33, pn hb34])) (by kernel_rfl) .body .sc
 intro h
 have hE := Option.some.inj h
 subst hE
 exact go_retA _ _ (runX 300 (o9 ++ [pb hb31, pb hb32, pb hb33])) (by kernel_rfl) .body .sc
 intro h
 have hE := Option.some.inj h
 subst hE
 exact go_retA _ _ (runX 300 (o9 ++ [pb hb31, pb hb32])) (by kernel_rfl) .body .sc
 let o10 : List (PC P G) := o9 ++ [pb hb31]
 refine cndI (fun hb35 => ?_) fun hb35 => ?_
 refine cndI (fun hb36 => ?_) fun hb36 => ?_
 refine cndI (fun hb37 => ?_) fun hb37 => ?_
 refine cndI (fun hb38 => ?_) fun hb38 => ?_
 intro h
 have hE := Option.some.inj h
 subst hE
 exact go_retA _ _ (runX 300 (o10 ++ [pb hb35, pb hb36, pb hb37, pn hb38])) (by kernel_rfl) .body .sc
 intro h
 have hE := Option.some.inj h
 subst hE
 exact go_retA _ _ (runX 300 (o10 ++ [pb hb35, pb hb36, pb hb37, pn hb38])) (by kernel_rfl) .body .sc
 intro h
 have hE := Option.some.inj h
 subst hE
 exact go_retA _ _ (runX 300 (o10 ++ [pb hb35, pb hb36, pb hb37])) (by kernel_rfl) .body .sc
 intro h
 have hE := Option.some.inj h
 subst hE
 exact go_retA _ _ (runX 300 (o10 ++ [pb hb35, pb hb36])) (by kernel_rfl) .body .sc
 let o11 : List (PC P G) := o10 ++ [pb hb35]
 refine cndI (fun hb39 => ?_) fun hb39 => ?_
 refine cndI (fun hb40 => ?_) fun hb40 => ?_
 intro h
 have hE := Option.some.inj h
 subst hE
 exact go_retA _ _ (runX 300 (o11 ++ [pb hb39, pn hb40])) (by kernel_rfl) .body .sc
 let o12 : List (PC P G) := o11 ++ [pb hb39, pn hb40]
 refine cndI (fun hb41 => ?_) fun hb41 => ?_
 intro h
 have hE := Option.some.inj h
 subst hE
 exact go_retA _ _ (runX 300 (o12 ++ [pn hb41])) (by kernel_rfl) .body .sc
 refine cndI (fun hb42 => ?_) fun hb42 => ?_
 refine cndI (fun hb43 => ?_) fun hb43 => ?_
 intro h
 have hE := Option.some.inj h
 subst hE
 exact go_retA _ _ (runX 300 (o12 ++ [pn hb41, pb hb42, pb hb43])) (by kernel_rfl) .body .sc
 refine cndI (fun hb44 => ?_) fun hb44 => ?_
 refine cndI (fun hb45 => ?_) fun hb45 => ?_
 intro h
 have hE := Option.some.inj h
 subst hE
 exact go_retA _ _ (runX 300 (o12 ++ [pn hb41, pb hb42, pb hb43, pb hb44, pb hb45])) (by kernel_rfl) .body .sc
 intro h
 have hE := Option.some.inj h
 subst hE
 exact go_retA _ _ (runX 300 (o12 ++ [pn hb41, pb hb42, pb hb43, pb hb44, pb hb45])) (by kernel_rfl) .body .sc
 intro h
 have hE := Option.some.inj h
 subst hE
 exact go_retA _ _ (runX 300 (o12 ++ [pn hb41, pb hb42, pb hb43, pb hb44])) (by kernel_rfl) .body .sc
 refine cndI (fun hb46 => ?_) fun hb46 => ?_
 refine cndI (fun hb47 => ?_) fun hb47 => ?_
 intro h
 have hE := Option.some.inj h
 subst hE
 exact go_retA _ _ (runX 300 (o12 ++ [pn hb41, pb hb42, pb hb46, pb hb47])) (by kernel_rfl) .body .sc
 intro h
 have hE := Option.some.inj h
 subst hE
 exact go_retA _ _ (runX 300 (o12 ++ [pn hb41, pb hb42, pb hb46, pb hb47])) (by kernel_rfl) .body .sc
 intro h
 have hE := Option.some.inj h
 subst hE
 exact go_retA _ _ (runX 300 (o12 ++ [pn hb41, pb hb42, pb hb46])) (by kernel_rfl) .body .sc
 let o13 : List (PC P G) := o11 ++ [pb hb39]
 refine cndI (fun hb48 => ?_) fun hb48 => ?_
 refine cndI (fun hb49 => ?_) fun hb49 => ?_
 let o14 : List (PC P G) := o13 ++ [pb hb48, pb hb49]
 refine cndI (fun hb50 => ?_) fun hb50 => ?_
 intro h
 have hE := Option.some.inj h
 subst hE
 exact go_retA _ _ (runX 300 (o14 ++ [pn hb50])) (by kernel_rfl) .body .sc
 let o15 : List (PC P G) := o14 ++ [pn hb50, pix (ix58 .lost hx2)]
 refine cndI (fun hb51 => ?_) fun hb51 => ?_
 refine cndI (fun hb52 => ?_) fun hb52 => ?_
 let o16 : List (PC P G) := o15 ++ [pb hb51, pb hb52, pix (ix58 .lost hx2)]
 refine cndI (fun hb53 => ?_) fun hb53 => ?_
 refine cndI (fun hb54 => ?_) fun hb54 => ?_
 intro h
 have hE := Option.some.inj h
 subst hE
 exact go_retA _ _ (runX 300 (o16 ++ [pb hb53, pix (ix58 .lost hx2), pb hb54])) (by kernel_rfl) .body .sc
 intro h
 have hE := Option.some.inj h
 subst hE
 exact go_retA _ _ (runX 300 (o16 ++ [pb hb53, pix (ix58 .lost hx2), pb hb54])) (by kernel_rfl) .body .sc
 intro h
 have hE := Option.some.inj h
 subst hE
 exact go_retA _ _ (runX 300 (o16 ++ [pb hb53])) (by kernel_rfl) .body .sc
 intro h
 have hE := Option.some.inj h
 subst hE
 exact go_retA _ _ (runX 300 (o15 ++ [pb hb51, pb hb52])) (by kernel_rfl) .body .sc
 intro h
 have hE := Option.some.inj h
 subst hE
 exact go_retA _ _ (runX 300 (o15 ++ [pb hb51])) (by kernel_rfl) .body .sc
 intro h
 have hE := Option.some.inj h
 subst hE
 exact go_retA _ _ (runX 300 (o13 ++ [pb hb48, pb hb49])) (by kernel_rfl) .body .sc
 refine cndI (fun hb55 => ?_) fun hb55 => ?_
 refine cndI (fun hb56 => ?_) fun hb56 => ?_
 refine bndI fun y4 hy4 => ?_
 refine cndI (fun hv => ?_) fun hv => ?_
 subst hv
 refine cndI (fun hb57 => ?_) fun hb57 => ?_
 intro h
 have hE := Option.some.inj h
 subst hE
 exact go_retA _ _ (runX 300 (o13 ++ [pb hb48, pb hb55, pb hb56, pcall (ref07_Cur_step x2.unit true hy4), pb hb57])) (by kernel_rfl) .body .sc
 intro h
 have hE := Option.some.inj h
 subst hE
 exact go_retA _ _ (runX 300 (o13 ++ [pb hb48, pb hb55, pb hb56, pcall (ref07_Cur_step x2.unit true hy4), pb hb57])) (by kernel_rfl) .body .sc
 subst hv
 intro h
 have hE := Option.some.inj h
 subst hE
 exact go_retA _ _ (runX 300 (o13 ++ [pb hb48, pb hb55, pb hb56, pcall (ref07_Cur_step x2.unit false hy4)])) (by kernel_rfl) .body .sc
 intro h
 have hE := Option.some.inj h
 subst hE
 exact go_retA _ _ (runX 300 (o13 ++ [pb hb48, pb hb55, pb hb56])) (by kernel_rfl) .body .sc
 intro h
 have hE := Option.some.inj h
 subst hE
 exact go_retA _ _ (runX 300 (o13 ++ [pb hb48, pb hb55])) (by kernel_rfl) .body .sc
 intro h
 have hE := Option.some.inj h
 subst hE
 exact go_retA _ _ (runX 300 (o3 ++ [pn hb11])) (by kernel_rfl) .body .sc
 rintro v rfl
 dsimp only [lpK] at h
 cases h
 exact .outer .body
noncomputable def B97 : Code := bodyOf Tryz.f97
theorem b97 : Tryz.f97.body = some B97 := by kernel_rfl
noncomputable def ref10_fits_L1 (r_ref10_fits : Co → Ex → Option Bool) (c : Co) (i0 : Nat) (e0 : Ex)  : Option (Lp Unit Unit Bool) := (r_ref10_fits c e0).bind fun y1 => cond y1 (some (.nx ())) (some (.rt false))
noncomputable def ref10_fits_B (r_ref10_fits : Co → Ex → Option Bool) (c : Co) (e : Ex) : Option Bool := (lim e.kids.length (foldL (fun i y x => ref10_fits_L1 r_ref10_fits c i y ) (fun x => ()) (e.kids.drop 0) 0 ())).bind (lpK (fun (_ : Unit) => cond (eqI e.op 1) (cond (eqI e.tab.den 0) (cond (eqI ((e.tab.ps.length : Nat) : Int) 0) (cond (eqI ((e.kids.length : Nat) : Int) 0) ((ref10_leaf_B c e).bind fun y3 => some y3) (cond (eqI ((e.kids.length : Nat) : Int) 1) (some false) ((ref10_many_B e).bind fun y4 => some y4))) (some false)) (some false)) (cond (eqI e.op 2) (cond (eqI e.tab.den 0) (cond (eqI ((e.tab.ps.length : Nat) : Int) 0) (cond (eqI ((e.kids.length : Nat) : Int) 0) ((ref10_leaf_B c e).bind fun y5 => some y5) (cond (eqI ((e.kids.length : Nat) : Int) 1) (some false) ((ref10_many_B e).bind fun y6 => some y6))) (some false)) (some false)) (cond (eqI e.op 3) (cond (eqI e.tab.den 0) (cond (eqI ((e.tab.ps.length : Nat) : Int) 0) (cond (eqI ((e.kids.length : Nat) : Int) 0) ((ref10_leaf_B c e).bind fun y7 => some y7) (cond (eqI ((e.kids.length : Nat) : Int) 1) (some false) ((ref10_many_B e).bind fun y8 => some y8))) (some false)) (some false)) (cond (eqI e.op 4) (cond (eqI e.tab.den 0) (cond (eqI ((e.tab.ps.length : Nat) : Int) 0) (cond (eqI ((e.kids.length : Nat) : Int) 0) ((ref10_leaf_B c e).bind fun y9 => some y9) (cond (eqI ((e.kids.length : Nat) : Int) 1) (some false) ((ref10_many_B e).bind fun y10 => some y10))) (some false)) (some false)) (cond (eqI e.n 0) (cond (eqI e.op 18) (cond (eqI ((e.kids.length : Nat) : Int) 0) ((ref10_leaf_B c e).bind fun y11 => some y11) (cond (eqI ((e.kids.length : Nat) : Int) 1) ((e.kids[0]?).bind fun x12 => cond (eqB e.unit.data.toList x12.unit.data.toList) ((ref07_Cur_B e.unit).bind fun y13 => cond y13 ((ref05_Valid_B e.tab).bind fun y14 => some y14) (some false)) (some false)) ((ref10_many_B e).bind fun y15 => some y15))) (cond (eqI e.tab.den 0) (cond (eqI ((e.tab.ps.length : Nat) : Int) 0) (cond (eqI ((e.kids.length : Nat) : Int) 0) ((ref10_leaf_B c e).bind fun y16 => some y16) (cond (eqI ((e.kids.length : Nat) : Int) 1) (cond (eqI e.op 5) (cond (eqB e.unit.data.toList truthS.data.toList) ((e.kids[0]?).bind fun x17 => cond (eqB x17.unit.data.toList truthS.data.toList) (some true) (some false)) (some false)) (some false)) ((ref10_many_B e).bind fun y18 => some y18))) (some false)) (some false))) (some false)))))) (fun v => some v))
theorem ref10_fits_step (r_ref10_fits : Co → Ex → Option Bool) (hr_ref10_fits : ∀ (c : Co) (e : Ex) (yR : Bool), r_ref10_fits c e = some yR → Pure P G 97 [.agg (coC c), .agg (exC e)] (.sc (.bool yR))) (c : Co) (e : Ex) (yR : Bool) (h : ref10_fits_B r_ref10_fits c e = some yR) : Pure P G 97 [.agg (coC c), .agg (exC e)] (.sc (.bool yR)) := by
 unfold ref10_fits_B at h
 refine pureM Hd.mixed Hd.plainG (WC_body Tryz.func97 b97 ?_) (plC (layCo.plG c) (plC (layEx.plG e) rfl)) rfl
 revert h
 refine bndI fun res hres h => ?_
 have hlen := (limE hres).1
 replace hres := (limE hres).2
 refine go_at [] [0, 1, 2, 3, 4, 5, 10, 13, 18, 19, 20, 23, 24, 27, 28, 29, 32, 33, 34, 37, 38, 39, 42, 43, 44, 47, 48, 52, 53, 58, 59, 60, 61, 65, 66, 67, 68, 69, 70, 71, 74, 75, 78, 79, 80, 86, 87, 88, 91, 92, 100, 101, 102, 105, 106, 107, 109, 110, 111, 112, 113, 114] 0 (sub B97 [1, 0, 1, 0, 0]) [.code (sub B97 [1, 1])] _ _ (runS 300 []) (by kernel_rfl) (foldP (fn := Tryz.f97) (m := 0) (fun v => .sc (.bool v)) 0 e.kids (fun i0 (_ : Unit) (j0 : JJ) => frm 115 0 [(2, .ptr 0 0), (3, .ptr 1 0), (5, .sc (.int .i64 ((i0 : Nat) : Int)))] [4, 10, 19, 20, 23, 24, 27, 28, 29, 32, 33, 34, 37, 38, 39, 42, 43, 44, 47, 48, 52, 53, 58, 59, 60, 61, 65, 66, 69, 70, 71, 74, 75, 78, 79, 80, 86, 87, 88, 91, 92, 100, 101, 102, 105, 106, 107, 110, 111, 112, 114] 0 [0, 1, 13, 18, 67, 68, 109, 113] 0 j0) (fun (_ : Nat) (_ : Unit) (_ : JJ) => ⟨[(1, .cells (exC e)), (0, .cells (coC c))], 2, [], 0⟩) (fun (j : JJ) => plainL j.2 = true) (fun (_ : Unit) (jx : JJ) => frm 115 0 [(2, .ptr 0 0), (3, .ptr 1 0)] [4, 10, 19, 20, 23, 24, 27, 28, 29, 32, 33, 34, 37, 38, 39, 42, 43, 44, 47, 48, 52, 53, 58, 59, 60, 61, 65, 66, 69, 70, 71, 74, 75, 78, 79, 80, 86, 87, 88, 91, 92, 100, 101, 102, 105, 106, 107, 110, 111, 112, 114] 0 [0, 1, 13, 18, 67, 68, 109, 113] 0 jx) (fun (_ : Unit) (_ : JJ) => ⟨[(1, .cells (exC e)), (0, .cells (coC c))], 2, [], 0⟩) (fun (j : JJ) => plainL j.2 = true) ?_ ?_ 0 hres ?_ ?_ ([.bool false], [.agg (coC c), .agg (exC e), .sc undef, .sc undef, .sc undef, .sc undef, .sc undef, .sc undef]) (plC (layCo.plG c) (plC (layEx.plG e) (plC rfl (plC rfl (plC rfl (plC rfl (plC rfl (plC rfl rfl)))))))))
 rintro i0 ⟨⟩ j0 hj0 hge hq
 clear h hres
 refine WL_rnd ?_
 exact go_ex Hd.plainG [1, 3, 4, 6, 8, 20, 27, 37, 38, 40, 46, 48, 54, 56, 58, 64, 66, 68, 74, 76, 78, 84, 86, 88, 94, 96, 104, 106, 116, 118, 120, 122, 130, 132, 135, 137, 138, 140, 142, 148, 150, 156, 158, 160, 172, 174, 176, 182, 184, 200, 202, 204, 210, 212, 214, 219, 220, 222, 224, 227, 228] [fq (gn_pl hj0 0), fq (gn_pl hj0 1), fq (gn_pl hj0 2), fq (gn_pl hj0 3), fq (gn_pl hj0 4), fq (gn_pl hj0 5), fq (gn_pl hj0 6), fq (gn_pl hj0 7)] [fbp (exC e) (layEx.pl e), fbp (coC c) (layCo.pl c)] 0 _ _ (runS 300 [pb (B := ltI ((i0 : Nat) : Int) ((e.kids.length : Nat) : Int)) (b := false) (ltF hge)]) (by kernel_rfl) (hq ([(jn j0 0), .bool false, (jn j0 2), (jn j0 3), (jn j0 4), (jn j0 5), (jn j0 6), (jn j0 7), (jn j0 8), (jn j0 9), (jn j0 10), (jn j0 11), (jn j0 12), (jn j0 13), (jn j0 14), (jn j0 15), (jn j0 16), (jn j0 17), (jn j0 18), (jn j0 19), (jn j0 20), (jn j0 21), (jn j0 22), (jn j0 23), (jn j0 24), (jn j0 25), (jn j0 26), (jn j0 27), (jn j0 28), (jn j0 29), (jn j0 30), (jn j0 31), (jn j0 32), (jn j0 33), (jn j0 34), (jn j0 35), (jn j0 36), (jn j0 37), (jn j0 38), (jn j0 39), (jn j0 40), (jn j0 41), (jn j0 42), (jn j0 43), (jn j0 44), (jn j0 45), (jn j0 46), (jn j0 47), (jn j0 48), (jn j0 49), (jn j0 50)], [(gn j0 0), (gn j0 1), (gn j0 2), (gn j0 3), (gn j0 4), (gn j0 5), (gn j0 6), (gn j0 7)]) (plC (gn_pl hj0 0) (plC (gn_pl hj0 1) (plC (gn_pl hj0 2) (plC (gn_pl hj0 3) (plC (gn_pl hj0 4) (plC (gn_pl hj0 5) (plC (gn_pl hj0 6) (plC (gn_pl hj0 7) rfl)))))))))
 clear h hres
 rintro i0 e0 ⟨⟩ j0 r hj0 he0 hi0 h k
 refine WL_rnd ?_
 revert h
 show ref10_fits_L1 r_ref10_fits c i0 e0  = some r → _
 unfold ref10_fits_L1
 refine bndI fun y1 hy1 => ?_
 let o1 : List (PC P G) := [pb (B := ltI ((i0 : Nat) : Int) ((e.kids.length : Nat) : Int)) (b := true) (ltT hi0), pix (ix58 .lost he0)]
 refine cndI (fun hv => ?_) fun hv => ?_
 subst hv
 rintro ⟨⟩
 exact go_nx Hd.plainG [1, 3, 4, 6, 8, 10, 20, 27, 37, 38, 40, 46, 48, 54, 56, 58, 64, 66, 68, 74, 76, 78, 84, 86, 88, 94, 96, 104, 106, 116, 118, 120, 122, 130, 132, 135, 137, 138, 140, 142, 148, 150, 156, 158, 160, 172, 174, 176, 182, 184, 200, 202, 204, 210, 212, 214, 219, 220, 222, 224, 227, 228] [fq (gn_pl hj0 0), fq (gn_pl hj0 1), fq (layCo.plG c), fq (layEx.plG e0), fq (gn_pl hj0 4), fq (gn_pl hj0 5), fq (gn_pl hj0 6), fq (gn_pl hj0 7)] [fbp (exC e) (layEx.pl e), fbp (coC c) (layCo.pl c)] _ _ (runS 300 (o1 ++ [pcall (hr_ref10_fits c e0 true hy1), pinc i0 (by omega)])) (by kernel_rfl) (k ([(jn j0 0), .bool true, .bool true, .bool false, (jn j0 4), (jn j0 5), (jn j0 6), (jn j0 7), (jn j0 8), (jn j0 9), (jn j0 10), (jn j0 11), (jn j0 12), (jn j0 13), (jn j0 14), (jn j0 15), (jn j0 16), (jn j0 17), (jn j0 18), (jn j0 19), (jn j0 20), (jn j0 21), (jn j0 22), (jn j0 23), (jn j0 24), (jn j0 25), (jn j0 26), (jn j0 27), (jn j0 28), (jn j0 29), (jn j0 30), (jn j0 31), (jn j0 32), (jn j0 33), (jn j0 34), (jn j0 35), (jn j0 36), (jn j0 37), (jn j0 38), (jn j0 39), (jn j0 40), (jn j0 41), (jn j0 42), (jn j0 43), (jn j0 44), (jn j0 45), (jn j0 46), (jn j0 47), (jn j0 48), (jn j0 49), (jn j0 50)], [(gn j0 0), (gn j0 1), .agg (coC c), .agg (exC e0), (gn j0 4), (gn j0 5), (gn j0 6), (gn j0 7)]) (plC (gn_pl hj0 0) (plC (gn_pl hj0 1) (plC (layCo.plG c) (plC (layEx.plG e0) (plC (gn_pl hj0 4) (plC (gn_pl hj0 5) (plC (gn_pl hj0 6) (plC (gn_pl hj0 7) rfl)))))))))
 subst hv
 rintro ⟨⟩
 exact go_retA _ _ (runS 300 (o1 ++ [pcall (hr_ref10_fits c e0 false hy1)])) (by kernel_rfl) (.rnd k) .sc
 rintro ⟨⟩ rfl jx_2 hjx_2
 revert h
 clear hres
 dsimp only [lpK]
 refine cndI (fun hb1 => ?_) fun hb1 => ?_
 let o2 : List (PC P G) := [pn hb1, pn (B := eqI e.op 18) (b := false) (by rw [eqI_T hb1]; rfl)]
 refine cndI (fun hb2 => ?_) fun hb2 => ?_
 refine cndI (fun hb3 => ?_) fun hb3 => ?_
 refine cndI (fun hb4 => ?_) fun hb4 => ?_
 refine bndI fun y3 hy3 => ?_
 intro h
 have hE := Option.some.inj h
 subst hE
 exact go_retA _ _ (runX 300 (o2 ++ [pn hb2, pn hb3, pb hb4, pcall (ref10_leaf_step c e y3 hy3)])) (by kernel_rfl) .body .sc
 refine cndI (fun hb5 => ?_) fun hb5 => ?_
 intro h
 have hE := Option.some.inj h
 subst hE
 exact go_retA _ _ (runX 300 (o2 ++ [pn hb2, pn hb3, pb hb4, pb hb5, pb (B := eqI e.op 5) (b := false) (by rw [eqI_T hb1]; rfl), pb (B := eqI e.op 18) (b := false) (by rw [eqI_T hb1]; rfl)])) (by kernel_rfl) .body .sc
 refine bndI fun y4 hy4 => ?_
 intro h
 have hE := Option.some.inj h
 subst hE
 exact go_retA _ _ (runX 300 (o2 ++ [pn hb2, pn hb3, pb hb4, pb hb5, pcall (ref10_many_step e y4 hy4)])) (by kernel_rfl) .body .sc
 intro h
 have hE := Option.some.inj h
 subst hE
 exact go_retA _ _ (runX 300 (o2 ++ [pn hb2, pn hb3])) (by kernel_rfl) .body .sc
 intro h
 have hE := Option.some.inj h
 subst hE
 exact go_retA _ _ (runX 300 (o2 ++ [pn hb2])) (by kernel_rfl) .body .sc
 let o3 : List (PC P G) := [pn hb1]
 refine cndI (fun hb6 => ?_) fun hb6 => ?_
 let o4 : List (PC P G) := o3 ++ [pn hb6, pn (B := eqI e.op 18) (b := false) (by rw [eqI_T hb6]; rfl)]
 refine cndI (fun hb7 => ?_) fun hb7 => ?_
 refine cndI (fun hb8 => ?_) fun hb8 => ?_
 refine cndI (fun hb9 => ?_) fun hb9 => ?_
 refine bndI fun y5 hy5 => ?_
 intro h
 have hE := Option.some.inj h
 subst hE
 exact go_retA _ _ (runX 300 (o4 ++ [pn hb7, pn hb8, pb hb9, pcall (ref10_leaf_step c e y5 hy5)])) (by kernel_rfl) .body .sc
 refine cndI (fun hb10 => ?_) fun hb10 => ?_
 intro h
 have hE := Option.some.inj h
 subst hE
 exact go_retA _ _ (runX 300 (o4 ++ [pn hb7, pn hb8, pb hb9, pb hb10, pb (B := eqI e.op 5) (b := false) (by rw [eqI_T hb6]; rfl), pb (B := eqI e.op 18) (b := false) (by rw [eqI_T hb6]; rfl)])) (by kernel_rfl) .body .sc
 refine bndI fun y6 hy6 => ?_
 intro h
 have hE := Option.some.inj h
 subst hE
 exact go_retA _ _ (runX 300 (o4 ++ [pn hb7, pn hb8, pb hb9, pb hb10, pcall (ref10_many_step e y6 hy6)])) (by kernel_rfl) .body .sc
 intro h
 have hE := Option.some.inj h
 subst hE
 exact go_retA _ _ (runX 300 (o4 ++ [pn hb7, pn hb8])) (by kernel_rfl) .body .sc
 intro h
 have hE := Option.some.inj h
 subst hE
 exact go_retA _ _ (runX 300 (o4 ++ [pn hb7])) (by kernel_rfl) .body .sc
 let o5 : List (PC P G) := o3 ++ [pn hb6]
 refine cndI (fun hb11 => ?_) fun hb11 => ?_
 let o6 : List (PC P G) := o5 ++ [pn hb11, pn (B := eqI e.op 18) (b := false) (by rw [eqI_T hb11]; rfl)]
 refine cndI (fun hb12 => ?_) fun hb12 => ?_
 refine cndI (fun hb13 => ?_) fun hb13 => ?_
 refine cndI (fun hb14 => ?_) fun hb14 => ?_
 refine bndI fun y7 hy7 => ?_
 intro h
 have hE := Option.some.inj h
 subst hE
 exact go_retA _ _ (runX 300 (o6 ++ [pn hb12, pn hb13, pb hb14, pcall (ref10_leaf_step c e y7 hy7)])) (by kernel_rfl) .body .sc
 refine cndI (fun hb15 => ?_) fun hb15 => ?_
 intro h
 have hE := Option.some.inj h
 subst hE
 exact go_retA _ _ (runX 300 (o6 ++ [pn hb12, pn hb13, pb hb14, pb hb15, pb (B := eqI e.op 5) (b := false) (by rw [eqI_T hb11]; rfl), pb (B := eqI e.op 18) (b := false) (by rw [eqI_T hb11]; rfl)])) (by kernel_rfl) .body .sc
 refine bndI fun y8 hy8 => ?_
 intro h
 have hE := Option.some.inj h
 subst hE
 exact go_retA _ _ (runX 300 (o6 ++ [pn hb12, pn hb13, pb hb14, pb hb15, pcall (ref10_many_step e y8 hy8)])) (by kernel_rfl) .body .sc
 intro h
 have hE := Option.some.inj h
 subst hE
 exact go_retA _ _ (runX 300 (o6 ++ [pn hb12, pn hb13])) (by kernel_rfl) .body .sc
 intro h
 have hE := Option.some.inj h
 subst hE
 exact go_retA _ _ (runX 300 (o6 ++ [pn hb12])) (by kernel_rfl) .body .sc
 let o7 : List (PC P G) := o5 ++ [pn hb11]
 refine cndI (fun hb16 => ?_) fun hb16 => ?_
 let o8 : List (PC P G) := o7 ++ [pn hb16, pn (B := eqI e.op 18) (b := false) (by rw [eqI_T hb16]; rfl)]
 refine cndI (fun hb17 => ?_) fun hb17 => ?_
 refine cndI (fun hb18 => ?_) fun hb18 => ?_
 refine cndI (fun hb19 => ?_) fun hb19 => ?_
 refine bndI fun y9 hy9 => ?_
 intro h
 have hE := Option.some.inj h
 subst hE
 exact go_retA _ _ (runX 300 (o8 ++ [pn hb17, pn hb18, pb hb19, pcall (ref10_leaf_step c e y9 hy9)])) (by kernel_rfl) .body .sc
 refine cndI (fun hb20 => ?_) fun hb20 => ?_
 intro h
 have hE := Option.some.inj h
 subst hE
 exact go_retA _ _ (runX 300 (o8 ++ [pn hb17, pn hb18, pb hb19, pb hb20, pb (B := eqI e.op 5) (b := false) (by rw [eqI_T hb16]; rfl), pb (B := eqI e.op 18) (b := false) (by rw [eqI_T hb16]; rfl)])) (by kernel_rfl) .body .sc
 refine bndI fun y10 hy10 => ?_
 intro h
 have hE := Option.some.inj h
 subst hE
 exact go_retA _ _ (runX 300 (o8 ++ [pn hb17, pn hb18, pb hb19, pb hb20, pcall (ref10_many_step e y10 hy10)])) (by kernel_rfl) .body .sc
 intro h
 have hE := Option.some.inj h
 subst hE
 exact go_retA _ _ (runX 300 (o8 ++ [pn hb17, pn hb18])) (by kernel_rfl) .body .sc
 intro h
 have hE := Option.some.inj h
 subst hE
 exact go_retA _ _ (runX 300 (o8 ++ [pn hb17])) (by kernel_rfl) .body .sc
 let o9 : List (PC P G) := o7 ++ [pn hb16]
 refine cndI (fun hb21 => ?_) fun hb21 => ?_
 let o10 : List (PC P G) := o9 ++ [pn hb21]
 refine cndI (fun hb22 => ?_) fun hb22 => ?_
 refine cndI (fun hb23 => ?_) fun hb23 => ?_
 refine bndI fun y11 hy11 => ?_
 intro h
 have hE := Option.some.inj h
 subst hE
 exact go_retA _ _ (runX 300 (o10 ++ [pn hb22, pb hb23, pcall (ref10_leaf_step c e y11 hy11)])) (by kernel_rfl) .body .sc
 refine cndI (fun hb24 => ?_) fun hb24 => ?_
 refine bndI fun x12 hx12 => ?_
 let o11 : List (PC P G) := o10 ++ [pn hb22, pb hb23, pb hb24, pb (B := eqI e.op 5) (b := false) (by rw [eqI_T hb22]; rfl), pb hb22, pix (ix58 .lost hx12)]
 refine cndI (fun hb25 => ?_) fun hb25 => ?_
 refine bndI fun y13 hy13 => ?_
 refine cndI (fun hv => ?_) fun hv => ?_
 subst hv
 refine bndI fun y14 hy14 => ?_
 intro h
 have hE := Option.some.inj h
 subst hE
 exact go_retA _ _ (runX 300 (o11 ++ [pb hb25, pcall (ref07_Cur_step e.unit true hy13), pcall (ref05_Valid_step e.tab y14 hy14)])) (by kernel_rfl) .body .sc
 subst hv
 intro h
 have hE := Option.some.inj h
 subst hE
 exact go_retA _ _ (runX 300 (o11 ++ [pb hb25, pcall (ref07_Cur_step e.unit false hy13)])) (by kernel_rfl) .body .sc
 intro h
 have hE := Option.some.inj h
 subst hE
 exact go_retA _ _ (runX 300 (o11 ++ [pb hb25])) (by kernel_rfl) .body .sc
 refine bndI fun y15 hy15 => ?_
 intro h
 have hE := Option.some.inj h
 subst hE
 exact go_retA _ _ (runX 300 (o10 ++ [pn hb22, pb hb23, pb hb24, pcall (ref10_many_step e y15 hy15)])) (by kernel_rfl) .body .sc
 refine cndI (fun hb26 => ?_) fun hb26 => ?_
 let o12 : List (PC P G) := o10 ++ [pn hb22, pn hb26]
 refine cndI (fun hb27 => ?_) fun hb27 => ?_
 refine cndI (fun hb28 => ?_) fun hb28 => ?_
 refine bndI fun y16 hy16 => ?_
 intro h
 have hE := Option.some.inj h
 subst hE
 exact go_retA _ _ (runX 300 (o12 ++ [pn hb27, pb hb28, pcall (ref10_leaf_step c e y16 hy16)])) (by kernel_rfl) .body .sc
 refine cndI (fun hb29 => ?_) fun hb29 => ?_
 let o13 : List (PC P G) := o12 ++ [pn hb27, pb hb28, pb hb29]
 refine cndI (fun hb30 => ?_) fun hb30 => ?_
 refine cndI (fun hb31 => ?_) fun hb31 => ?_
 refine bndI fun x17 hx17 => ?_
 refine cndI (fun hb32 => ?_) fun hb32 => ?_
 intro h
 have hE := Option.some.inj h
 subst hE
 exact go_retA _ _ (runX 300 (o13 ++ [pb hb30, pb hb31, pix (ix58 .lost hx17), pb hb32])) (by kernel_rfl) .body .sc
 intro h
 have hE := Option.some.inj h
 subst hE
 exact go_retA _ _ (runX 300 (o13 ++ [pb hb30, pb hb31, pix (ix58 .lost hx17), pb hb32, pb hb22])) (by kernel_rfl) .body .sc
 intro h
 have hE := Option.some.inj h
 subst hE
 exact go_retA _ _ (runX 300 (o13 ++ [pb hb30, pb hb31, pb hb22])) (by kernel_rfl) .body .sc
 intro h
 have hE := Option.some.inj h
 subst hE
 exact go_retA _ _ (runX 300 (o13 ++ [pb hb30, pb hb22])) (by kernel_rfl) .body .sc
 refine bndI fun y18 hy18 => ?_
 intro h
 have hE := Option.some.inj h
 subst hE
 exact go_retA _ _ (runX 300 (o12 ++ [pn hb27, pb hb28, pb hb29, pcall (ref10_many_step e y18 hy18)])) (by kernel_rfl) .body .sc
 intro h
 have hE := Option.some.inj h
 subst hE
 exact go_retA _ _ (runX 300 (o12 ++ [pn hb27])) (by kernel_rfl) .body .sc
 intro h
 have hE := Option.some.inj h
 subst hE
 exact go_retA _ _ (runX 300 (o10 ++ [pn hb22, pn hb26])) (by kernel_rfl) .body .sc
 intro h
 have hE := Option.some.inj h
 subst hE
 exact go_retA _ _ (runX 300 (o9 ++ [pn hb21])) (by kernel_rfl) .body .sc
 rintro v rfl
 dsimp only [lpK] at h
 cases h
 exact .outer .body
noncomputable def ref10_fits_M : Nat → Co → Ex → Option Bool
 | 0, _, _ => none
 | qn + 1, c, e => ref10_fits_B (ref10_fits_M qn) c e
theorem ref10_fits_all : ∀ qn : Nat, ∀ (c : Co) (e : Ex) (yR : Bool), ref10_fits_M qn c e = some yR → Pure P G 97 [.agg (coC c), .agg (exC e)] (.sc (.bool yR)) := by
 intro qn
 induction qn with
 | zero => exact (fun _ _ _ h => by simp only [ref10_fits_M] at h; cases h)
 | succ qn ih => exact (fun c e yR h => ref10_fits_step _ ih c e yR (by rw [ref10_fits_M] at h; exact h))
noncomputable def ref10_fits_R (c : Co) (e : Ex) : Option Bool := evt (fun qn => ref10_fits_M qn c e)
theorem ref10_fits_ok (c : Co) (e : Ex) (yR : Bool) (h : ref10_fits_R c e = some yR) : Pure P G 97 [.agg (coC c), .agg (exC e)] (.sc (.bool yR)) := by
 obtain ⟨qn, h⟩ := evtE h
 exact (ref10_fits_all qn) c e yR h
noncomputable def B59 : Code := bodyOf Tryz.f59
theorem b59 : Tryz.f59.body = some B59 := by kernel_rfl
noncomputable def ref10_Fits_B  (c : Co) (e : Ex) : Option Bool := (ref10_within_B e).bind fun y1 => cond y1 ((ref10_fits_R c e).bind fun y2 => some y2) (some false)
theorem ref10_Fits_step   (c : Co) (e : Ex) (yR : Bool) (h : ref10_Fits_B  c e = some yR) : Pure P G 59 [.agg (coC c), .agg (exC e)] (.sc (.bool yR)) := by
 unfold ref10_Fits_B at h
 refine pureM Hd.mixed Hd.plainG (WC_body Tryz.func59 b59 ?_) (plC (layCo.plG c) (plC (layEx.plG e) rfl)) rfl
 revert h
 refine bndI fun y1 hy1 => ?_
 refine cndI (fun hv => ?_) fun hv => ?_
 subst hv
 refine bndI fun y2 hy2 => ?_
 intro h
 have hE := Option.some.inj h
 subst hE
 exact rS (runS 300 [pcall (ref10_within_step e true hy1), pcall (ref10_fits_ok c e y2 hy2)]) (by kernel_rfl)
 subst hv
 rintro ⟨⟩
 exact rS (runS 300 [pcall (ref10_within_step e false hy1)]) (by kernel_rfl)
noncomputable def B23 : Code := bodyOf Tryz.f23
theorem b23 : Tryz.f23.body = some B23 := by kernel_rfl
noncomputable def ref10_Valid_L2  (c : Co) (i1 : Nat) (e1 : Ex)  : Option (Lp Unit Unit Bool) := (ref10_Fits_B c e1).bind fun y5 => cond y5 (cond (eqB e1.unit.data.toList truthS.data.toList) (some (.nx ())) (some (.rt false))) (some (.rt false))
noncomputable def ref10_Valid_L3  (c : Co) (i2 : Nat) (e2 : Int)  : Option (Lp Unit Unit Bool) := (ref10_numbered_B c e2).bind fun y7 => cond (ltI y7 0) (some (.rt false)) (some (.nx ()))
noncomputable def ref10_Valid_L1  (c : Co) (i0 : Nat) (e0 : Ar)  : Option (Lp Unit Unit Bool) := cond (ltI e0.number 1) (some (.rt false)) (cond (ltI 1000000 e0.number) (some (.rt false)) (cond (ltI e0.line 0) (some (.rt false)) (cond (leI ((c.lines.length : Nat) : Int) e0.line) (some (.rt false)) ((ref10_numbered_B c e0.number).bind fun y3 => (geti c.arts y3).bind fun x4 => cond (eqI e0.line x4.line) (cond (ltI e0.rank 0) (some (.rt false)) (cond (ltI 1000000 e0.rank) (some (.rt false)) (cond (ltI e0.fr 0) (some (.rt false)) (cond (leI e0.to e0.fr) (some (.rt false)) (cond (ltI 36525 e0.to) (some (.rt false)) (cond (ltI e0.known 0) (some (.rt false)) (cond (ltI 36524 e0.known) (some (.rt false)) ((lim e0.wh.length (foldL (fun i y x => ref10_Valid_L2  c i y ) (fun x => ()) (e0.wh.drop 0) 0 ())).bind (lpK (fun (_ : Unit) => (lim e0.un.length (foldL (fun i y x => ref10_Valid_L3  c i y ) (fun x => ()) (e0.un.drop 0) 0 ())).bind (lpK (fun (_ : Unit) => (ref10_Fits_B c e0.am).bind fun y9 => cond y9 ((geti c.lines e0.line).bind fun x10 => cond (eqB e0.am.unit.data.toList x10.unit.data.toList) (some (.nx ())) (some (.rt false))) (some (.rt false))) (fun v => some (.rt v)))) (fun v => some (.rt v))))))))))) (some (.rt false))))))
noncomputable def ref10_Valid_B  (c : Co) : Option Bool := (ref10_decls_B c.facts 0 0).bind fun y1 => cond y1 ((ref10_decls_B c.lines 1 4).bind fun y2 => cond y2 (cond (ltI 60 ((c.arts.length : Nat) : Int)) (some false) ((lim c.arts.length (foldL (fun i y x => ref10_Valid_L1  c i y ) (fun x => ()) (c.arts.drop 0) 0 ())).bind (lpK (fun (_ : Unit) => some true) (fun v => some v)))) (some false)) (some false)
theorem ref10_Valid_step   (c : Co) (yR : Bool) (h : ref10_Valid_B  c = some yR) : Pure P G 23 [.agg (coC c)] (.sc (.bool yR)) := by
 unfold ref10_Valid_B at h
 refine pureM Hd.mixed Hd.plainG (WC_body Tryz.func23 b23 ?_) (plC (layCo.plG c) rfl) rfl
 revert h
 refine bndI fun y1 hy1 => ?_
 refine cndI (fun hv => ?_) fun hv => ?_
 subst hv
 refine bndI fun y2 hy2 => ?_
 let o1 : List (PC P G) := [pcall (ref10_decls_step c.facts 0 0 true hy1)]
 refine cndI (fun hv => ?_) fun hv => ?_
 subst hv
 refine cndI (fun hb1 => ?_) fun hb1 => ?_
 rintro ⟨⟩
 exact rS (runS 300 (o1 ++ [pcall (ref10_decls_step c.lines 1 4 true hy2), pb hb1])) (by kernel_rfl)
 refine bndI fun res hres h => ?_
 have hlen := (limE hres).1
 replace hres := (limE hres).2
 refine go_at [] [0, 1, 2, 3, 9, 10, 11, 14, 15, 16, 17, 21, 22, 27, 34, 37, 38, 41, 42, 43, 46, 47, 48, 54, 55, 56, 61, 68, 69, 70, 73, 74, 75, 78, 79, 82, 83, 88, 89, 90, 93, 94, 95, 98, 99, 100, 103, 104, 109, 112, 117, 118, 119, 120, 127, 128, 133, 136, 143, 144, 146, 147, 148, 149, 160, 161] 0 (sub B23 [1, 1, 0, 1, 0, 0]) [.code (sub B23 [1, 1, 1])] _ _ (runS 300 (o1 ++ [pcall (ref10_decls_step c.lines 1 4 true hy2), pb hb1])) (by kernel_rfl) (foldP (fn := Tryz.f23) (m := 0) (fun v => .sc (.bool v)) 0 c.arts (fun i0 (_ : Unit) (j0 : JJ) => frm 162 0 [(1, .ptr 0 0), (3, .sc (.int .i64 ((i0 : Nat) : Int)))] [2, 9, 10, 11, 14, 15, 16, 17, 21, 22, 27, 37, 38, 41, 42, 43, 46, 47, 48, 54, 55, 56, 68, 69, 70, 73, 74, 75, 78, 79, 82, 83, 88, 89, 90, 93, 94, 95, 98, 99, 100, 103, 104, 109, 118, 119, 120, 127, 128, 133, 143, 147, 148, 149, 160, 161] 0 [0, 34, 61, 112, 117, 136, 144, 146] 0 j0) (fun (_ : Nat) (_ : Unit) (_ : JJ) => ⟨[(0, .cells (coC c))], 1, [], 0⟩) (fun (j : JJ) => plainL j.2 = true) (fun (_ : Unit) (jx : JJ) => frm 162 0 [] [2, 9, 10, 11, 14, 15, 16, 17, 21, 22, 27, 37, 38, 41, 42, 43, 46, 47, 48, 54, 55, 56, 68, 69, 70, 73, 74, 75, 78, 79, 82, 83, 88, 89, 90, 93, 94, 95, 98, 99, 100, 103, 104, 109, 118, 119, 120, 127, 128, 133, 143, 147, 148, 149, 160, 161] 0 [0, 34, 61, 112, 117, 136, 144, 146] 0 jx) (fun (_ : Unit) (_ : JJ) => ⟨[(0, .cells (coC c))], 1, [], 0⟩) (fun (j : JJ) => plainL j.2 = true) ?_ ?_ 0 hres ?_ ?_ ([.bool false, .bool true, .bool false, .bool false, .bool true, .bool false, .bool false, .bool false, .bool false, .bool false], [.agg (coC c), .sc undef, .sc undef, .sc undef, .sc undef, .sc undef, .sc undef, .sc undef]) (plC (layCo.plG c) (plC rfl (plC rfl (plC rfl (plC rfl (plC rfl (plC rfl (plC rfl rfl)))))))))
 rintro i0 ⟨⟩ j0 hj0 hge hq
 clear h hres
 refine WL_rnd ?_
 exact go_ex Hd.plainG [1, 4, 18, 20, 22, 28, 30, 32, 34, 42, 44, 54, 69, 74, 76, 82, 84, 86, 92, 94, 96, 108, 110, 112, 123, 136, 138, 140, 146, 148, 150, 156, 158, 164, 166, 176, 178, 180, 186, 188, 190, 196, 198, 200, 206, 208, 218, 225, 235, 236, 238, 240, 254, 256, 266, 273, 286, 289, 293, 294, 296, 298, 320, 322] [fq (gn_pl hj0 0), fq (gn_pl hj0 1), fq (gn_pl hj0 2), fq (gn_pl hj0 3), fq (gn_pl hj0 4), fq (gn_pl hj0 5), fq (gn_pl hj0 6), fq (gn_pl hj0 7)] [fbp (coC c) (layCo.pl c)] 0 _ _ (runS 300 [pb (B := ltI ((i0 : Nat) : Int) ((c.arts.length : Nat) : Int)) (b := false) (ltF hge)]) (by kernel_rfl) (hq ([(jn j0 0), (jn j0 1), (jn j0 2), (jn j0 3), (jn j0 4), (jn j0 5), (jn j0 6), (jn j0 7), (jn j0 8), (jn j0 9), .bool false, (jn j0 11), (jn j0 12), (jn j0 13), (jn j0 14), (jn j0 15), (jn j0 16), (jn j0 17), (jn j0 18), (jn j0 19), (jn j0 20), (jn j0 21), (jn j0 22), (jn j0 23), (jn j0 24), (jn j0 25), (jn j0 26), (jn j0 27), (jn j0 28), (jn j0 29), (jn j0 30), (jn j0 31), (jn j0 32), (jn j0 33), (jn j0 34), (jn j0 35), (jn j0 36), (jn j0 37), (jn j0 38), (jn j0 39), (jn j0 40), (jn j0 41), (jn j0 42), (jn j0 43), (jn j0 44), (jn j0 45), (jn j0 46), (jn j0 47), (jn j0 48), (jn j0 49), (jn j0 50), (jn j0 51), (jn j0 52), (jn j0 53), (jn j0 54), (jn j0 55)], [(gn j0 0), (gn j0 1), (gn j0 2), (gn j0 3), (gn j0 4), (gn j0 5), (gn j0 6), (gn j0 7)]) (plC (gn_pl hj0 0) (plC (gn_pl hj0 1) (plC (gn_pl hj0 2) (plC (gn_pl hj0 3) (plC (gn_pl hj0 4) (plC (gn_pl hj0 5) (plC (gn_pl hj0 6) (plC (gn_pl hj0 7) rfl)))))))))
 clear h hres
 rintro i0 e0 ⟨⟩ j0 r hj0 he0 hi0 h k
 refine WL_rnd ?_
 revert h
 show ref10_Valid_L1  c i0 e0  = some r → _
 unfold ref10_Valid_L1
 let o2 : List (PC P G) := [pb (B := ltI ((i0 : Nat) : Int) ((c.arts.length : Nat) : Int)) (b := true) (ltT hi0), pix (ix29 .lost he0)]
 refine cndI (fun hb2 => ?_) fun hb2 => ?_
 rintro ⟨⟩
 exact go_retA _ _ (runS 300 (o2 ++ [pb hb2])) (by kernel_rfl) (.rnd k) .sc
 let o3 : List (PC P G) := o2 ++ [pb hb2]
 refine cndI (fun hb3 => ?_) fun hb3 => ?_
 rintro ⟨⟩
 exact go_retA _ _ (runS 300 (o3 ++ [pb hb3])) (by kernel_rfl) (.rnd k) .sc
 let o4 : List (PC P G) := o3 ++ [pb hb3]
 refine cndI (fun hb4 => ?_) fun hb4 => ?_
 rintro ⟨⟩
 exact go_retA _ _ (runS 300 (o4 ++ [pb hb4])) (by kernel_rfl) (.rnd k) .sc
 refine cndI (fun hb5 => ?_) fun hb5 => ?_
 rintro ⟨⟩
 exact go_retA _ _ (runS 300 (o4 ++ [pb hb4, pb hb5])) (by kernel_rfl) (.rnd k) .sc
 refine bndI fun y3 hy3 => ?_
 refine bndI fun x4 hx4 => ?_
 let o5 : List (PC P G) := o4 ++ [pb hb4, pb hb5, pcall (ref10_numbered_step c e0.number y3 hy3), pix (ixz29 .lost hx4)]
 refine cndI (fun hb6 => ?_) fun hb6 => ?_
 refine cndI (fun hb7 => ?_) fun hb7 => ?_
 rintro ⟨⟩
 exact go_retA _ _ (runS 300 (o5 ++ [pn hb6, pb hb7])) (by kernel_rfl) (.rnd k) .sc
 let o6 : List (PC P G) := o5 ++ [pn hb6, pb hb7]
 refine cndI (fun hb8 => ?_) fun hb8 => ?_
 rintro ⟨⟩
 exact go_retA _ _ (runS 300 (o6 ++ [pb hb8])) (by kernel_rfl) (.rnd k) .sc
 refine cndI (fun hb9 => ?_) fun hb9 => ?_
 rintro ⟨⟩
 exact go_retA _ _ (runS 300 (o6 ++ [pb hb8, pb hb9])) (by kernel_rfl) (.rnd k) .sc
 refine cndI (fun hb10 => ?_) fun hb10 => ?_
 rintro ⟨⟩
 exact go_retA _ _ (runS 300 (o6 ++ [pb hb8, pb hb9, pb hb10])) (by kernel_rfl) (.rnd k) .sc
 refine cndI (fun hb11 => ?_) fun hb11 => ?_
 rintro ⟨⟩
 exact go_retA _ _ (runS 300 (o6 ++ [pb hb8, pb hb9, pb hb10, pb hb11])) (by kernel_rfl) (.rnd k) .sc
 refine cndI (fun hb12 => ?_) fun hb12 => ?_
 rintro ⟨⟩
 exact go_retA _ _ (runS 300 (o6 ++ [pb hb8, pb hb9, pb hb10, pb hb11, pb hb12])) (by kernel_rfl) (.rnd k) .sc
 refine cndI (fun hb13 => ?_) fun hb13 => ?_
 rintro ⟨⟩
 exact go_retA _ _ (runS 300 (o6 ++ [pb hb8, pb hb9, pb hb10, pb hb11, pb hb12, pb hb13])) (by kernel_rfl) (.rnd k) .sc
 refine bndI fun res hres h => ?_
 have hlen := (limE hres).1
 replace hres := (limE hres).2
 refine go_at [] [0, 1, 2, 3, 4, 5, 9, 10, 11, 14, 15, 16, 17, 21, 22, 27, 34, 37, 38, 41, 42, 43, 46, 47, 48, 54, 55, 56, 61, 68, 69, 70, 73, 74, 75, 78, 79, 82, 83, 88, 89, 90, 93, 94, 95, 98, 99, 100, 103, 104, 109, 112, 117, 118, 119, 120, 127, 128, 133, 136, 143, 144, 146, 147, 148, 149, 160, 161] 2 (sub B23 [1, 1, 0, 1, 0, 0, 1, 0, 0, 1, 1, 1, 0, 1, 0, 0]) [.code (sub B23 [1, 1, 0, 1, 0, 0, 1, 0, 0, 1, 1, 1, 1]), .endb 1, .code (sub B23 [1, 1, 0, 1, 0, 0, 1, 1])] _ _ (runS 300 (o6 ++ [pb hb8, pb hb9, pb hb10, pb hb11, pb hb12, pb hb13])) (by kernel_rfl) (foldP (fn := Tryz.f23) (m := 0) (fun v => .sc (.bool v)) 2 e0.wh (fun i1 (_ : Unit) (j1 : JJ) => frm 162 0 [(1, .ptr 0 0), (3, .sc (.int .i64 ((i0 : Nat) : Int))), (4, .ptr 1 0), (5, .sc (.int .i64 ((i1 : Nat) : Int)))] [2, 9, 10, 11, 14, 15, 16, 17, 21, 22, 27, 37, 38, 41, 42, 43, 46, 47, 48, 54, 55, 56, 68, 69, 70, 73, 74, 75, 78, 79, 82, 83, 88, 89, 90, 93, 94, 95, 98, 99, 100, 103, 104, 109, 118, 119, 120, 127, 128, 133, 143, 147, 148, 149, 160, 161] 0 [0, 34, 61, 112, 117, 136, 144, 146] 0 j1) (fun (_ : Nat) (_ : Unit) (_ : JJ) => ⟨[(1, .cells (arC e0)), (0, .cells (coC c))], 2, [], 0⟩) (fun (j : JJ) => plainL j.2 = true) (fun (_ : Unit) (jx : JJ) => frm 162 0 [(1, .ptr 0 0), (3, .sc (.int .i64 ((i0 : Nat) : Int))), (4, .ptr 1 0)] [2, 9, 10, 11, 14, 15, 16, 17, 21, 22, 27, 37, 38, 41, 42, 43, 46, 47, 48, 54, 55, 56, 68, 69, 70, 73, 74, 75, 78, 79, 82, 83, 88, 89, 90, 93, 94, 95, 98, 99, 100, 103, 104, 109, 118, 119, 120, 127, 128, 133, 143, 147, 148, 149, 160, 161] 0 [0, 34, 61, 112, 117, 136, 144, 146] 0 jx) (fun (_ : Unit) (_ : JJ) => ⟨[(1, .cells (arC e0)), (0, .cells (coC c))], 2, [], 0⟩) (fun (j : JJ) => plainL j.2 = true) ?_ ?_ 0 hres ?_ ?_ ([(jn j0 0), (jn j0 1), (jn j0 2), (jn j0 3), (jn j0 4), (jn j0 5), (jn j0 6), (jn j0 7), (jn j0 8), (jn j0 9), .bool true, .bool false, .bool false, .bool false, .bool false, .bool false, .bool false, .bool false, .bool false, .bool false, .bool false, .bool false, .bool false, .bool false, .bool false, .bool false, .bool false, .bool false, .bool false, .bool false, .bool false, .bool false, .bool false, .bool false, .bool false, .bool false, .bool false, .bool false, .bool false, .bool false, .bool false, .bool false, .bool false, (jn j0 43), (jn j0 44), (jn j0 45), (jn j0 46), (jn j0 47), (jn j0 48), (jn j0 49), (jn j0 50), (jn j0 51), (jn j0 52), (jn j0 53), (jn j0 54), (jn j0 55)], [(gn j0 0), .agg (arC e0), .agg (coC c), (gn j0 3), (gn j0 4), (gn j0 5), (gn j0 6), (gn j0 7)]) (plC (gn_pl hj0 0) (plC (layAr.plG e0) (plC (layCo.plG c) (plC (gn_pl hj0 3) (plC (gn_pl hj0 4) (plC (gn_pl hj0 5) (plC (gn_pl hj0 6) (plC (gn_pl hj0 7) rfl)))))))))
 rintro i1 ⟨⟩ j1 hj1 hge hq
 clear h hres
 refine WL_rnd ?_
 exact go_ex Hd.plainG [1, 2, 4, 6, 8, 18, 20, 22, 28, 30, 32, 34, 42, 44, 54, 69, 74, 76, 82, 84, 86, 92, 94, 96, 108, 110, 112, 123, 136, 138, 140, 146, 148, 150, 156, 158, 164, 166, 176, 178, 180, 186, 188, 190, 196, 198, 200, 206, 208, 218, 225, 235, 236, 238, 240, 254, 256, 266, 273, 286, 289, 293, 294, 296, 298, 320, 322] [fq (gn_pl hj1 0), fq (gn_pl hj1 1), fq (gn_pl hj1 2), fq (gn_pl hj1 3), fq (gn_pl hj1 4), fq (gn_pl hj1 5), fq (gn_pl hj1 6), fq (gn_pl hj1 7)] [fbp (arC e0) (layAr.pl e0), fbp (coC c) (layCo.pl c)] 2 _ _ (runS 300 [pb (B := ltI ((i1 : Nat) : Int) ((e0.wh.length : Nat) : Int)) (b := false) (ltF hge)]) (by kernel_rfl) (hq ([(jn j1 0), (jn j1 1), (jn j1 2), (jn j1 3), (jn j1 4), (jn j1 5), (jn j1 6), (jn j1 7), (jn j1 8), (jn j1 9), (jn j1 10), (jn j1 11), (jn j1 12), (jn j1 13), (jn j1 14), (jn j1 15), (jn j1 16), (jn j1 17), (jn j1 18), (jn j1 19), (jn j1 20), (jn j1 21), (jn j1 22), (jn j1 23), (jn j1 24), (jn j1 25), (jn j1 26), (jn j1 27), (jn j1 28), (jn j1 29), (jn j1 30), (jn j1 31), (jn j1 32), (jn j1 33), (jn j1 34), (jn j1 35), (jn j1 36), (jn j1 37), (jn j1 38), (jn j1 39), (jn j1 40), (jn j1 41), (jn j1 42), .bool false, (jn j1 44), (jn j1 45), (jn j1 46), (jn j1 47), (jn j1 48), (jn j1 49), (jn j1 50), (jn j1 51), (jn j1 52), (jn j1 53), (jn j1 54), (jn j1 55)], [(gn j1 0), (gn j1 1), (gn j1 2), (gn j1 3), (gn j1 4), (gn j1 5), (gn j1 6), (gn j1 7)]) (plC (gn_pl hj1 0) (plC (gn_pl hj1 1) (plC (gn_pl hj1 2) (plC (gn_pl hj1 3) (plC (gn_pl hj1 4) (plC (gn_pl hj1 5) (plC (gn_pl hj1 6) (plC (gn_pl hj1 7) rfl)))))))))
 clear h hres
 rintro i1 e1 ⟨⟩ j1 r hj1 he1 hi1 h k
 refine WL_rnd ?_
 revert h
 show ref10_Valid_L2  c i1 e1  = some r → _
 unfold ref10_Valid_L2
 refine bndI fun y5 hy5 => ?_
 let o7 : List (PC P G) := [pb (B := ltI ((i1 : Nat) : Int) ((e0.wh.length : Nat) : Int)) (b := true) (ltT hi1), pix (ix58 .lost he1)]
 refine cndI (fun hv => ?_) fun hv => ?_
 subst hv
 refine cndI (fun hb14 => ?_) fun hb14 => ?_
 rintro ⟨⟩
 exact go_nx Hd.plainG [1, 2, 4, 6, 8, 10, 18, 20, 22, 28, 30, 32, 34, 42, 44, 54, 69, 74, 76, 82, 84, 86, 92, 94, 96, 108, 110, 112, 123, 136, 138, 140, 146, 148, 150, 156, 158, 164, 166, 176, 178, 180, 186, 188, 190, 196, 198, 200, 206, 208, 218, 225, 235, 236, 238, 240, 254, 256, 266, 273, 286, 289, 293, 294, 296, 298, 320, 322] [fq (gn_pl hj1 0), fq (gn_pl hj1 1), fq (gn_pl hj1 2), fq (layCo.plG c), fq (layEx.plG e1), fq (gn_pl hj1 5), fq (gn_pl hj1 6), fq (gn_pl hj1 7)] [fbp (arC e0) (layAr.pl e0), fbp (coC c) (layCo.pl c)] _ _ (runS 300 (o7 ++ [pcall (ref10_Fits_step c e1 true hy5), pix (ix58 .lost he1), pn hb14, pinc i1 (by omega)])) (by kernel_rfl) (k ([(jn j1 0), (jn j1 1), (jn j1 2), (jn j1 3), (jn j1 4), (jn j1 5), (jn j1 6), (jn j1 7), (jn j1 8), (jn j1 9), (jn j1 10), (jn j1 11), (jn j1 12), (jn j1 13), (jn j1 14), (jn j1 15), (jn j1 16), (jn j1 17), (jn j1 18), (jn j1 19), (jn j1 20), (jn j1 21), (jn j1 22), (jn j1 23), (jn j1 24), (jn j1 25), (jn j1 26), (jn j1 27), (jn j1 28), (jn j1 29), (jn j1 30), (jn j1 31), (jn j1 32), (jn j1 33), (jn j1 34), (jn j1 35), (jn j1 36), (jn j1 37), (jn j1 38), (jn j1 39), (jn j1 40), (jn j1 41), (jn j1 42), .bool true, .bool true, .bool false, .bool false, .bool false, .bool false, (jn j1 49), (jn j1 50), (jn j1 51), (jn j1 52), (jn j1 53), (jn j1 54), (jn j1 55)], [(gn j1 0), (gn j1 1), (gn j1 2), .agg (coC c), .agg (exC e1), (gn j1 5), (gn j1 6), (gn j1 7)]) (plC (gn_pl hj1 0) (plC (gn_pl hj1 1) (plC (gn_pl hj1 2) (plC (layCo.plG c) (plC (layEx.plG e1) (plC (gn_pl hj1 5) (plC (gn_pl hj1 6) (plC (gn_pl hj1 7) rfl)))))))))
 rintro ⟨⟩
 exact go_retA _ _ (runS 300 (o7 ++ [pcall (ref10_Fits_step c e1 true hy5), pix (ix58 .lost he1), pn hb14])) (by kernel_rfl) (.rnd k) .sc
 subst hv
 rintro ⟨⟩
 exact go_retA _ _ (runS 300 (o7 ++ [pcall (ref10_Fits_step c e1 false hy5)])) (by kernel_rfl) (.rnd k) .sc
 rintro ⟨⟩ rfl jx_6 hjx_6
 revert h
 clear hres
 dsimp only [lpK]
 refine bndI fun res hres h => ?_
 have hlen := (limE hres).1
 replace hres := (limE hres).2
 refine go_at [] [0, 1, 2, 3, 4, 6, 9, 10, 11, 14, 15, 16, 17, 21, 22, 27, 34, 37, 38, 41, 42, 43, 46, 47, 48, 54, 55, 56, 61, 68, 69, 70, 73, 74, 75, 78, 79, 82, 83, 88, 89, 90, 93, 94, 95, 98, 99, 100, 103, 104, 109, 112, 117, 118, 119, 120, 127, 128, 133, 136, 143, 144, 146, 147, 148, 149, 160, 161] 4 (sub B23 [1, 1, 0, 1, 0, 0, 1, 0, 0, 1, 1, 1, 1, 0, 1, 0, 0]) [.code (sub B23 [1, 1, 0, 1, 0, 0, 1, 0, 0, 1, 1, 1, 1, 1]), .endb 1, .code (sub B23 [1, 1, 0, 1, 0, 0, 1, 1])] _ _ (runX 300 []) (by kernel_rfl) (foldP (fn := Tryz.f23) (m := 0) (fun v => .sc (.bool v)) 4 e0.un (fun i2 (_ : Unit) (j2 : JJ) => frm 162 0 [(1, .ptr 0 0), (3, .sc (.int .i64 ((i0 : Nat) : Int))), (4, .ptr 1 0), (6, .sc (.int .i64 ((i2 : Nat) : Int)))] [2, 9, 10, 11, 14, 15, 16, 17, 21, 22, 27, 37, 38, 41, 42, 43, 46, 47, 48, 54, 55, 56, 68, 69, 70, 73, 74, 75, 78, 79, 82, 83, 88, 89, 90, 93, 94, 95, 98, 99, 100, 103, 104, 109, 118, 119, 120, 127, 128, 133, 143, 147, 148, 149, 160, 161] 0 [0, 34, 61, 112, 117, 136, 144, 146] 0 j2) (fun (_ : Nat) (_ : Unit) (_ : JJ) => ⟨[(1, .cells (arC e0)), (0, .cells (coC c))], 2, [], 0⟩) (fun (j : JJ) => plainL j.2 = true) (fun (_ : Unit) (jx : JJ) => frm 162 0 [(1, .ptr 0 0), (3, .sc (.int .i64 ((i0 : Nat) : Int))), (4, .ptr 1 0)] [2, 9, 10, 11, 14, 15, 16, 17, 21, 22, 27, 37, 38, 41, 42, 43, 46, 47, 48, 54, 55, 56, 68, 69, 70, 73, 74, 75, 78, 79, 82, 83, 88, 89, 90, 93, 94, 95, 98, 99, 100, 103, 104, 109, 118, 119, 120, 127, 128, 133, 143, 147, 148, 149, 160, 161] 0 [0, 34, 61, 112, 117, 136, 144, 146] 0 jx) (fun (_ : Unit) (_ : JJ) => ⟨[(1, .cells (arC e0)), (0, .cells (coC c))], 2, [], 0⟩) (fun (j : JJ) => plainL j.2 = true) ?_ ?_ 0 hres ?_ ?_ ([(jn jx_6 0), (jn jx_6 1), (jn jx_6 2), (jn jx_6 3), (jn jx_6 4), (jn jx_6 5), (jn jx_6 6), (jn jx_6 7), (jn jx_6 8), (jn jx_6 9), (jn jx_6 10), (jn jx_6 11), (jn jx_6 12), (jn jx_6 13), (jn jx_6 14), (jn jx_6 15), (jn jx_6 16), (jn jx_6 17), (jn jx_6 18), (jn jx_6 19), (jn jx_6 20), (jn jx_6 21), (jn jx_6 22), (jn jx_6 23), (jn jx_6 24), (jn jx_6 25), (jn jx_6 26), (jn jx_6 27), (jn jx_6 28), (jn jx_6 29), (jn jx_6 30), (jn jx_6 31), (jn jx_6 32), (jn jx_6 33), (jn jx_6 34), (jn jx_6 35), (jn jx_6 36), (jn jx_6 37), (jn jx_6 38), (jn jx_6 39), (jn jx_6 40), (jn jx_6 41), (jn jx_6 42), (jn jx_6 43), (jn jx_6 44), (jn jx_6 45), (jn jx_6 46), (jn jx_6 47), (jn jx_6 48), (jn jx_6 49), (jn jx_6 50), (jn jx_6 51), (jn jx_6 52), (jn jx_6 53), (jn jx_6 54), (jn jx_6 55)], [(gn jx_6 0), (gn jx_6 1), (gn jx_6 2), (gn jx_6 3), (gn jx_6 4), (gn jx_6 5), (gn jx_6 6), (gn jx_6 7)]) (plC (gn_pl hjx_6 0) (plC (gn_pl hjx_6 1) (plC (gn_pl hjx_6 2) (plC (gn_pl hjx_6 3) (plC (gn_pl hjx_6 4) (plC (gn_pl hjx_6 5) (plC (gn_pl hjx_6 6) (plC (gn_pl hjx_6 7) rfl)))))))))
 rintro i2 ⟨⟩ j2 hj2 hge hq
 clear h hres
 refine WL_rnd ?_
 exact go_ex Hd.plainG [1, 2, 4, 6, 8, 18, 20, 22, 28, 30, 32, 34, 42, 44, 54, 69, 74, 76, 82, 84, 86, 92, 94, 96, 108, 110, 112, 123, 136, 138, 140, 146, 148, 150, 156, 158, 164, 166, 176, 178, 180, 186, 188, 190, 196, 198, 200, 206, 208, 218, 225, 235, 236, 238, 240, 254, 256, 266, 273, 286, 289, 293, 294, 296, 298, 320, 322] [fq (gn_pl hj2 0), fq (gn_pl hj2 1), fq (gn_pl hj2 2), fq (gn_pl hj2 3), fq (gn_pl hj2 4), fq (gn_pl hj2 5), fq (gn_pl hj2 6), fq (gn_pl hj2 7)] [fbp (arC e0) (layAr.pl e0), fbp (coC c) (layCo.pl c)] 4 _ _ (runS 300 [pb (B := ltI ((i2 : Nat) : Int) ((e0.un.length : Nat) : Int)) (b := false) (ltF hge)]) (by kernel_rfl) (hq ([(jn j2 0), (jn j2 1), (jn j2 2), (jn j2 3), (jn j2 4), (jn j2 5), (jn j2 6), (jn j2 7), (jn j2 8), (jn j2 9), (jn j2 10), (jn j2 11), (jn j2 12), (jn j2 13), (jn j2 14), (jn j2 15), (jn j2 16), (jn j2 17), (jn j2 18), (jn j2 19), (jn j2 20), (jn j2 21), (jn j2 22), (jn j2 23), (jn j2 24), (jn j2 25), (jn j2 26), (jn j2 27), (jn j2 28), (jn j2 29), (jn j2 30), (jn j2 31), (jn j2 32), (jn j2 33), (jn j2 34), (jn j2 35), (jn j2 36), (jn j2 37), (jn j2 38), (jn j2 39), (jn j2 40), (jn j2 41), (jn j2 42), (jn j2 43), (jn j2 44), (jn j2 45), (jn j2 46), (jn j2 47), (jn j2 48), .bool false, (jn j2 50), (jn j2 51), (jn j2 52), (jn j2 53), (jn j2 54), (jn j2 55)], [(gn j2 0), (gn j2 1), (gn j2 2), (gn j2 3), (gn j2 4), (gn j2 5), (gn j2 6), (gn j2 7)]) (plC (gn_pl hj2 0) (plC (gn_pl hj2 1) (plC (gn_pl hj2 2) (plC (gn_pl hj2 3) (plC (gn_pl hj2 4) (plC (gn_pl hj2 5) (plC (gn_pl hj2 6) (plC (gn_pl hj2 7) rfl)))))))))
 clear h hres
 rintro i2 e2 ⟨⟩ j2 r hj2 he2 hi2 h k
 refine WL_rnd ?_
 revert h
 show ref10_Valid_L3  c i2 e2  = some r → _
 unfold ref10_Valid_L3
 refine bndI fun y7 hy7 => ?_
 let o8 : List (PC P G) := [pb (B := ltI ((i2 : Nat) : Int) ((e0.un.length : Nat) : Int)) (b := true) (ltT hi2), pix (ix40 .lost he2), pcall (ref10_numbered_step c e2 y7 hy7)]
 refine cndI (fun hb15 => ?_) fun hb15 => ?_
 rintro ⟨⟩
 exact go_retA _ _ (runS 300 (o8 ++ [pb hb15])) (by kernel_rfl) (.rnd k) .sc
 rintro ⟨⟩
 exact go_nx Hd.plainG [1, 2, 4, 6, 8, 12, 18, 20, 22, 28, 30, 32, 34, 42, 44, 54, 69, 74, 76, 82, 84, 86, 92, 94, 96, 108, 110, 112, 123, 136, 138, 140, 146, 148, 150, 156, 158, 164, 166, 176, 178, 180, 186, 188, 190, 196, 198, 200, 206, 208, 218, 225, 235, 236, 238, 240, 254, 256, 266, 273, 286, 289, 293, 294, 296, 298, 320, 322] [fq (gn_pl hj2 0), fq (gn_pl hj2 1), fq (gn_pl hj2 2), fq (gn_pl hj2 3), fq (gn_pl hj2 4), fq (layCo.plG c), fq (gn_pl hj2 6), fq (gn_pl hj2 7)] [fbp (arC e0) (layAr.pl e0), fbp (coC c) (layCo.pl c)] _ _ (runS 300 (o8 ++ [pb hb15, pinc i2 (by omega)])) (by kernel_rfl) (k ([(jn j2 0), (jn j2 1), (jn j2 2), (jn j2 3), (jn j2 4), (jn j2 5), (jn j2 6), (jn j2 7), (jn j2 8), (jn j2 9), (jn j2 10), (jn j2 11), (jn j2 12), (jn j2 13), (jn j2 14), (jn j2 15), (jn j2 16), (jn j2 17), (jn j2 18), (jn j2 19), (jn j2 20), (jn j2 21), (jn j2 22), (jn j2 23), (jn j2 24), (jn j2 25), (jn j2 26), (jn j2 27), (jn j2 28), (jn j2 29), (jn j2 30), (jn j2 31), (jn j2 32), (jn j2 33), (jn j2 34), (jn j2 35), (jn j2 36), (jn j2 37), (jn j2 38), (jn j2 39), (jn j2 40), (jn j2 41), (jn j2 42), (jn j2 43), (jn j2 44), (jn j2 45), (jn j2 46), (jn j2 47), (jn j2 48), .bool true, .bool false, (jn j2 51), (jn j2 52), (jn j2 53), (jn j2 54), (jn j2 55)], [(gn j2 0), (gn j2 1), (gn j2 2), (gn j2 3), (gn j2 4), .agg (coC c), (gn j2 6), (gn j2 7)]) (plC (gn_pl hj2 0) (plC (gn_pl hj2 1) (plC (gn_pl hj2 2) (plC (gn_pl hj2 3) (plC (gn_pl hj2 4) (plC (layCo.plG c) (plC (gn_pl hj2 6) (plC (gn_pl hj2 7) rfl)))))))))
 rintro ⟨⟩ rfl jx_8 hjx_8
 revert h
 clear hres
 dsimp only [lpK]
 refine bndI fun y9 hy9 => ?_
 refine cndI (fun hv => ?_) fun hv => ?_
 subst hv
 refine bndI fun x10 hx10 => ?_
 refine cndI (fun hb16 => ?_) fun hb16 => ?_
 rintro ⟨⟩
 exact go_nx Hd.plainG [1, 2, 4, 6, 18, 20, 22, 28, 30, 32, 34, 42, 44, 54, 69, 74, 76, 82, 84, 86, 92, 94, 96, 108, 110, 112, 123, 136, 138, 140, 146, 148, 150, 156, 158, 164, 166, 176, 178, 180, 186, 188, 190, 196, 198, 200, 206, 208, 218, 225, 235, 236, 238, 240, 254, 256, 266, 273, 286, 289, 293, 294, 296, 298, 320, 322] [fq (gn_pl hjx_8 0), fq (gn_pl hjx_8 1), fq (gn_pl hjx_8 2), fq (gn_pl hjx_8 3), fq (gn_pl hjx_8 4), fq (gn_pl hjx_8 5), fq (layCo.plG c), fq (layEx.plG e0.am)] [fbp (coC c) (layCo.pl c)] _ _ (runX 300 [pcall (ref10_Fits_step c e0.am true hy9), pix (ixz28 .lost hx10), pn hb16, pinc i0 (by omega)]) (by kernel_rfl) (k ([(jn jx_8 0), (jn jx_8 1), (jn jx_8 2), (jn jx_8 3), (jn jx_8 4), (jn jx_8 5), (jn jx_8 6), (jn jx_8 7), (jn jx_8 8), (jn jx_8 9), (jn jx_8 10), (jn jx_8 11), (jn jx_8 12), (jn jx_8 13), (jn jx_8 14), (jn jx_8 15), (jn jx_8 16), (jn jx_8 17), (jn jx_8 18), (jn jx_8 19), (jn jx_8 20), (jn jx_8 21), (jn jx_8 22), (jn jx_8 23), (jn jx_8 24), (jn jx_8 25), (jn jx_8 26), (jn jx_8 27), (jn jx_8 28), (jn jx_8 29), (jn jx_8 30), (jn jx_8 31), (jn jx_8 32), (jn jx_8 33), (jn jx_8 34), (jn jx_8 35), (jn jx_8 36), (jn jx_8 37), (jn jx_8 38), (jn jx_8 39), (jn jx_8 40), (jn jx_8 41), (jn jx_8 42), (jn jx_8 43), (jn jx_8 44), (jn jx_8 45), (jn jx_8 46), (jn jx_8 47), (jn jx_8 48), (jn jx_8 49), (jn jx_8 50), .bool true, .bool false, .bool false, .bool false, .bool false], [(gn jx_8 0), (gn jx_8 1), (gn jx_8 2), (gn jx_8 3), (gn jx_8 4), (gn jx_8 5), .agg (coC c), .agg (exC e0.am)]) (plC (gn_pl hjx_8 0) (plC (gn_pl hjx_8 1) (plC (gn_pl hjx_8 2) (plC (gn_pl hjx_8 3) (plC (gn_pl hjx_8 4) (plC (gn_pl hjx_8 5) (plC (layCo.plG c) (plC (layEx.plG e0.am) rfl)))))))))
 rintro ⟨⟩
 exact go_retA _ _ (runX 300 [pcall (ref10_Fits_step c e0.am true hy9), pix (ixz28 .lost hx10), pn hb16]) (by kernel_rfl) (.rnd k) .sc
 subst hv
 rintro ⟨⟩
 exact go_retA _ _ (runX 300 [pcall (ref10_Fits_step c e0.am false hy9)]) (by kernel_rfl) (.rnd k) .sc
 rintro v rfl
 dsimp only [lpK] at h
 cases h
 exact .outer (.rnd k)
 rintro v rfl
 dsimp only [lpK] at h
 cases h
 exact .outer (.rnd k)
 rintro ⟨⟩
 exact go_retA _ _ (runS 300 (o5 ++ [pn hb6])) (by kernel_rfl) (.rnd k) .sc
 rintro ⟨⟩ rfl jx_11 hjx_11
 revert h
 clear hres
 dsimp only [lpK]
 intro h
 have hE := Option.some.inj h
 subst hE
 exact go_retA _ _ (runX 300 []) (by kernel_rfl) .body .sc
 rintro v rfl
 dsimp only [lpK] at h
 cases h
 exact .outer .body
 subst hv
 rintro ⟨⟩
 exact rS (runS 300 (o1 ++ [pcall (ref10_decls_step c.lines 1 4 false hy2)])) (by kernel_rfl)
 subst hv
 rintro ⟨⟩
 exact rS (runS 300 [pcall (ref10_decls_step c.facts 0 0 false hy1)]) (by kernel_rfl)
end Mo
end Go.Proofs.YtnijkdknnmgoeaaGreat
