/- Part of a proof: see the last text. -/
import Derived.Test.YtkfplcngmiljaaaGreatDoorUor
set_option linter.unusedVariables false
set_option linter.unusedSimpArgs false
namespace Go.Proofs.YtkfplcngmiljaaaGreatDoor
open AI Go
namespace Mo
set_option maxRecDepth 100000
set_option maxHeartbeats 4000000
abbrev GU (mx : Int) : Glob := HdU.G mx
theorem up {mx : Int} {f : FuncId} {args : List AV} {v : AV} (h : Pure P G f args v) : Pure P (GU mx) f args v := by
 intro s cx w vs hs ha
 have hs0 : St G cx w s := ⟨hs.len, hs.desc, hs.nodup, hs.low, hs.box, hs.rlen, hs.row, hs.rfree, hs.plow, hs.blow, hs.rdist, (fun _ _ h => nomatch h), hs.bsz⟩
 refine (h s cx w vs hs0 ha).mono ?_
 rintro e w' ⟨c', hx, st, hr⟩
 exact ⟨c', hx, ⟨st.len, st.desc, st.nodup, st.low, st.box, st.rlen, st.row, st.rfree, st.plow, st.blow, st.rdist, (fun g cs h => (hs.glob g cs h).mono hx), st.bsz⟩, hr⟩
noncomputable def law09_head_R : Option Bool := some true
theorem law09_head_ok {mx : Int} (yR : Bool) (h : law09_head_R = some yR) : Pure P (GU mx) 11 [] (.sc (.bool yR)) := by
 cases h
 exact fun s => head_ok mx s
variable {mx : Int}
noncomputable def B4 : Code := bodyOf Tryz.f4
theorem b4 : Tryz.f4.body = some B4 := by kernel_rfl
noncomputable def law09_UnitsOperands_L1  (source : Nd) (y3a : ByteArray) (i0 : Nat) (e0 : Nd)  : Option (Lp Unit Unit Bool) := cond (eqB y3a.data.toList ByteArray.empty.data.toList) (some (.ex ())) ((units_Infer_B source e0).bind fun (y4a, y4b) => cond (eqB y4a.data.toList ByteArray.empty.data.toList) (some (.rt false)) (cond (ltI 0 ((y4b.length : Nat) : Int)) (some (.rt false)) (some (.nx ()))))
noncomputable def law09_UnitsOperands_B  (source : Nd) (e : Nd) : Option Bool := (law09_head_R).bind fun y1 => (law09_few_B source e).bind fun y2 => cond y2 ((units_Infer_B source e).bind fun (y3a, y3b) => cond (eqB y3a.data.toList ByteArray.empty.data.toList) (cond (ltI 0 ((y3b.length : Nat) : Int)) ((lim e.kids.length (foldL (fun i y x => law09_UnitsOperands_L1  source y3a i y ) (fun x => ()) (e.kids.drop 0) 0 ())).bind (lpK (fun (_ : Unit) => some y1) (fun v => some v))) (some false)) (cond (ltI 0 ((y3b.length : Nat) : Int)) (some false) ((lim e.kids.length (foldL (fun i y x => law09_UnitsOperands_L1  source y3a i y ) (fun x => ()) (e.kids.drop 0) 0 ())).bind (lpK (fun (_ : Unit) => some y1) (fun v => some v))))) (some y1)
theorem law09_UnitsOperands_step   (source : Nd) (e : Nd) (yR : Bool) (h : law09_UnitsOperands_B  source e = some yR) : Pure P (GU mx) 4 [.agg (ndC source), .agg (ndC e)] (.sc (.bool yR)) := by
 unfold law09_UnitsOperands_B at h
 refine pureM Hd.mixed HdU.plainG (WC_body Tryz.func4 b4 ?_) (plC (layNd.plG source) (plC (layNd.plG e) rfl)) rfl
 revert h
 refine bndI fun y1 hy1 => ?_
 refine bndI fun y2 hy2 => ?_
 let o1 : List (PC P (GU mx)) := [pcall (law09_head_ok  y1 hy1)]
 refine cndI (fun hv => ?_) fun hv => ?_
 subst hv
 refine bndI ?_
 rintro ⟨y3a, y3b⟩ hy3
 dsimp only
 let o2 : List (PC P (GU mx)) := o1 ++ [pcall (up (law09_few_step source e true hy2)), pcall (up (units_Infer_step source e (y3a, y3b) hy3))]
 refine cndI (fun hb1 => ?_) fun hb1 => ?_
 refine cndI (fun hb2 => ?_) fun hb2 => ?_
 refine bndI fun res hres h => ?_
 have hlen := (limE hres).1
 replace hres := (limE hres).2
 refine go_at [] [0, 1, 2, 3, 4, 5, 6, 8, 11, 12, 13, 14, 15, 16, 18, 19, 24, 27, 28, 33, 34, 36, 37, 41, 46, 51, 52, 55, 56, 57] 0 (sub B4 [1, 1, 1, 1, 1, 0, 1, 0, 0]) [.code (sub B4 [1, 1, 1, 1, 1, 1])] _ _ (runS 300 (o2 ++ [pb hb1, pb hb2, pk])) (by kernel_rfl) (foldP (fn := Tryz.f4) (m := 0) (fun v => .sc (.bool v)) 0 e.kids (fun i0 (_ : Unit) (j0 : JJ) => frm 58 0 [(2, .ptr 0 0), (3, .ptr 1 0), (5, .sc (.bool y1)), (6, .sc (.string y3a)), (8, .sc (.int .i64 ((i0 : Nat) : Int)))] [4, 11, 14, 15, 16, 24, 27, 28, 33, 34, 36, 37, 51, 52, 55, 56, 57] 0 [0, 1, 12, 13, 18, 19, 41, 46] 0 j0) (fun (_ : Nat) (_ : Unit) (_ : JJ) => ⟨[(1, .cells (ndC e)), (0, .cells (ndC source))], 2, [], 0⟩) (fun (j : JJ) => plainL j.2 = true) (fun (_ : Unit) (jx : JJ) => frm 58 0 [(5, .sc (.bool y1))] [4, 11, 14, 15, 16, 24, 27, 28, 33, 34, 36, 37, 51, 52, 55, 56, 57] 0 [0, 1, 12, 13, 18, 19, 41, 46] 0 jx) (fun (_ : Unit) (_ : JJ) => ⟨[(1, .cells (ndC e)), (0, .cells (ndC source))], 2, [], 0⟩) (fun (j : JJ) => plainL j.2 = true) ?_ ?_ 0 hres ?_ ?_ ([.bool false, .bool y1, .bool true, .bool false, undef, .bool true, .bool true, .bool false], [.agg (ndC source), .agg (ndC e), .agg (ndC source), .agg (ndC e), .agg (ndC source), .agg (ndC e), .sc undef, .sc undef]) (plC (layNd.plG source) (plC (layNd.plG e) (plC (layNd.plG source) (plC (layNd.plG e) (plC (layNd.plG source) (plC (layNd.plG e) (plC rfl (plC rfl rfl)))))))))
 rintro i0 ⟨⟩ j0 hj0 hge hq
 clear h hres
 refine WL_rnd ?_
 exact go_ex HdU.plainG [1, 3, 8, 10, 22, 25, 27, 28, 30, 32, 37, 39, 48, 54, 56, 66, 68, 72, 74, 83, 93, 102, 104, 110, 112, 114] [fq (gn_pl hj0 0), fq (gn_pl hj0 1), fq (gn_pl hj0 2), fq (gn_pl hj0 3), fq (gn_pl hj0 4), fq (gn_pl hj0 5), fq (gn_pl hj0 6), fq (gn_pl hj0 7)] [fbp (ndC e) (layNd.pl e), fbp (ndC source) (layNd.pl source)] 0 _ _ (runS 300 [pb (B := ltI ((i0 : Nat) : Int) ((e.kids.length : Nat) : Int)) (b := false) (ltF hge)]) (by kernel_rfl) (hq ([(jn j0 0), (jn j0 1), (jn j0 2), (jn j0 3), (jn j0 4), (jn j0 5), (jn j0 6), (jn j0 7), .bool false, .bool false, undef, .bool false, (jn j0 12), (jn j0 13), (jn j0 14), (jn j0 15), (jn j0 16)], [(gn j0 0), (gn j0 1), (gn j0 2), (gn j0 3), (gn j0 4), (gn j0 5), (gn j0 6), (gn j0 7)]) (plC (gn_pl hj0 0) (plC (gn_pl hj0 1) (plC (gn_pl hj0 2) (plC (gn_pl hj0 3) (plC (gn_pl hj0 4) (plC (gn_pl hj0 5) (plC (gn_pl hj0 6) (plC (gn_pl hj0 7) rfl)))))))))
 clear h hres
 rintro i0 e0 ⟨⟩ j0 r hj0 he0 hi0 h k
 refine WL_rnd ?_
 revert h
 show law09_UnitsOperands_L1  source y3a i0 e0  = some r → _
 unfold law09_UnitsOperands_L1
 let o3 : List (PC P (GU mx)) := [pb (B := ltI ((i0 : Nat) : Int) ((e.kids.length : Nat) : Int)) (b := true) (ltT hi0)]
 refine cndI (fun hb4 => ?_) fun hb4 => ?_
 rintro ⟨⟩
 exact go_ex HdU.plainG [1, 3, 8, 10, 22, 25, 27, 28, 30, 32, 37, 39, 48, 54, 56, 66, 68, 72, 74, 83, 93, 102, 104, 110, 112, 114] [fq (gn_pl hj0 0), fq (gn_pl hj0 1), fq (gn_pl hj0 2), fq (gn_pl hj0 3), fq (gn_pl hj0 4), fq (gn_pl hj0 5), fq (gn_pl hj0 6), fq (gn_pl hj0 7)] [fbp (ndC e) (layNd.pl e), fbp (ndC source) (layNd.pl source)] 0 _ _ (runS 300 (o3 ++ [pn hb4])) (by kernel_rfl) (k ([(jn j0 0), (jn j0 1), (jn j0 2), (jn j0 3), (jn j0 4), (jn j0 5), (jn j0 6), (jn j0 7), .bool true, .bool true, .bool false, .bool false, (jn j0 12), (jn j0 13), (jn j0 14), (jn j0 15), (jn j0 16)], [(gn j0 0), (gn j0 1), (gn j0 2), (gn j0 3), (gn j0 4), (gn j0 5), (gn j0 6), (gn j0 7)]) (plC (gn_pl hj0 0) (plC (gn_pl hj0 1) (plC (gn_pl hj0 2) (plC (gn_pl hj0 3) (plC (gn_pl hj0 4) (plC (gn_pl hj0 5) (plC (gn_pl hj0 6) (plC (gn_pl hj0 7) rfl)))))))))
 refine bndI ?_
 rintro ⟨y4a, y4b⟩ hy4
 dsimp only
 let o4 : List (PC P (GU mx)) := o3 ++ [pn hb4, pix (ix25 .lost he0), pcall (up (units_Infer_step source e0 (y4a, y4b) hy4))]
 refine cndI (fun hb5 => ?_) fun hb5 => ?_
 rintro ⟨⟩
 exact go_retA _ _ (runS 300 (o4 ++ [pb hb5])) (by kernel_rfl) (.rnd k) .sc
 refine cndI (fun hb6 => ?_) fun hb6 => ?_
 rintro ⟨⟩
 exact go_retA _ _ (runS 300 (o4 ++ [pb hb5, pb hb6])) (by kernel_rfl) (.rnd k) .sc
 rintro ⟨⟩
 exact go_nx HdU.plainG [1, 3, 4, 6, 8, 10, 12, 16, 22, 25, 27, 28, 30, 32, 37, 39, 48, 54, 56, 66, 68, 72, 74, 83, 93, 102, 104, 110, 112, 114] [fq (gn_pl hj0 0), fq (gn_pl hj0 1), fq (gn_pl hj0 2), fq (gn_pl hj0 3), fq (gn_pl hj0 4), fq (gn_pl hj0 5), fq (layNd.plG source), fq (layNd.plG e0)] [fbp (ndC e) (layNd.pl e), fbp (ndC source) (layNd.pl source)] _ _ (runS 300 (o4 ++ [pb hb5, pb hb6, pinc i0 (by omega)])) (by kernel_rfl) (k ([(jn j0 0), (jn j0 1), (jn j0 2), (jn j0 3), (jn j0 4), (jn j0 5), (jn j0 6), (jn j0 7), .bool true, .bool true, .bool true, .bool true, .bool false, .bool false, .bool false, .bool false, (jn j0 16)], [(gn j0 0), (gn j0 1), (gn j0 2), (gn j0 3), (gn j0 4), (gn j0 5), .agg (ndC source), .agg (ndC e0)]) (plC (gn_pl hj0 0) (plC (gn_pl hj0 1) (plC (gn_pl hj0 2) (plC (gn_pl hj0 3) (plC (gn_pl hj0 4) (plC (gn_pl hj0 5) (plC (layNd.plG source) (plC (layNd.plG e0) rfl)))))))))
 rintro ⟨⟩ rfl jx_5 hjx_5
 revert h
 clear hres
 dsimp only [lpK]
 intro h
 have hE := Option.some.inj h
 subst hE
 exact go_retA _ _ (runX 300 []) (by kernel_rfl) .body .sc
 rintro v rfl
 dsimp only [lpK] at h
 cases h
 exact .outer .body
 rintro ⟨⟩
 exact rS (runS 300 (o2 ++ [pb hb1, pb hb2, pk])) (by kernel_rfl)
 refine cndI (fun hb3 => ?_) fun hb3 => ?_
 rintro ⟨⟩
 exact rS (runS 300 (o2 ++ [pb hb1, pb hb3, pk])) (by kernel_rfl)
 refine bndI fun res hres h => ?_
 have hlen := (limE hres).1
 replace hres := (limE hres).2
 refine go_at [] [0, 1, 2, 3, 4, 5, 6, 8, 11, 12, 13, 14, 15, 16, 18, 19, 24, 27, 28, 33, 34, 36, 37, 41, 46, 51, 52, 55, 56, 57] 0 (sub B4 [1, 1, 1, 1, 1, 0, 1, 0, 0]) [.code (sub B4 [1, 1, 1, 1, 1, 1])] _ _ (runS 300 (o2 ++ [pb hb1, pb hb3, pk])) (by kernel_rfl) (foldP (fn := Tryz.f4) (m := 0) (fun v => .sc (.bool v)) 0 e.kids (fun i0 (_ : Unit) (j0 : JJ) => frm 58 0 [(2, .ptr 0 0), (3, .ptr 1 0), (5, .sc (.bool y1)), (6, .sc (.string y3a)), (8, .sc (.int .i64 ((i0 : Nat) : Int)))] [4, 11, 14, 15, 16, 24, 27, 28, 33, 34, 36, 37, 51, 52, 55, 56, 57] 0 [0, 1, 12, 13, 18, 19, 41, 46] 0 j0) (fun (_ : Nat) (_ : Unit) (_ : JJ) => ⟨[(1, .cells (ndC e)), (0, .cells (ndC source))], 2, [], 0⟩) (fun (j : JJ) => plainL j.2 = true) (fun (_ : Unit) (jx : JJ) => frm 58 0 [(5, .sc (.bool y1))] [4, 11, 14, 15, 16, 24, 27, 28, 33, 34, 36, 37, 51, 52, 55, 56, 57] 0 [0, 1, 12, 13, 18, 19, 41, 46] 0 jx) (fun (_ : Unit) (_ : JJ) => ⟨[(1, .cells (ndC e)), (0, .cells (ndC source))], 2, [], 0⟩) (fun (j : JJ) => plainL j.2 = true) ?_ ?_ 0 hres ?_ ?_ ([.bool false, .bool y1, .bool true, .bool false, undef, .bool false, .bool false, .bool false], [.agg (ndC source), .agg (ndC e), .agg (ndC source), .agg (ndC e), .agg (ndC source), .agg (ndC e), .sc undef, .sc undef]) (plC (layNd.plG source) (plC (layNd.plG e) (plC (layNd.plG source) (plC (layNd.plG e) (plC (layNd.plG source) (plC (layNd.plG e) (plC rfl (plC rfl rfl)))))))))
 rintro i0 ⟨⟩ j0 hj0 hge hq
 clear h hres
 refine WL_rnd ?_
 exact go_ex HdU.plainG [1, 3, 8, 10, 22, 25, 27, 28, 30, 32, 37, 39, 48, 54, 56, 66, 68, 72, 74, 83, 93, 102, 104, 110, 112, 114] [fq (gn_pl hj0 0), fq (gn_pl hj0 1), fq (gn_pl hj0 2), fq (gn_pl hj0 3), fq (gn_pl hj0 4), fq (gn_pl hj0 5), fq (gn_pl hj0 6), fq (gn_pl hj0 7)] [fbp (ndC e) (layNd.pl e), fbp (ndC source) (layNd.pl source)] 0 _ _ (runS 300 [pb (B := ltI ((i0 : Nat) : Int) ((e.kids.length : Nat) : Int)) (b := false) (ltF hge)]) (by kernel_rfl) (hq ([(jn j0 0), (jn j0 1), (jn j0 2), (jn j0 3), (jn j0 4), (jn j0 5), (jn j0 6), (jn j0 7), .bool false, .bool false, undef, .bool false, (jn j0 12), (jn j0 13), (jn j0 14), (jn j0 15), (jn j0 16)], [(gn j0 0), (gn j0 1), (gn j0 2), (gn j0 3), (gn j0 4), (gn j0 5), (gn j0 6), (gn j0 7)]) (plC (gn_pl hj0 0) (plC (gn_pl hj0 1) (plC (gn_pl hj0 2) (plC (gn_pl hj0 3) (plC (gn_pl hj0 4) (plC (gn_pl hj0 5) (plC (gn_pl hj0 6) (plC (gn_pl hj0 7) rfl)))))))))
 clear h hres
 rintro i0 e0 ⟨⟩ j0 r hj0 he0 hi0 h k
 refine WL_rnd ?_
 revert h
 show law09_UnitsOperands_L1  source y3a i0 e0  = some r → _
 unfold law09_UnitsOperands_L1
 let o5 : List (PC P (GU mx)) := [pb (B := ltI ((i0 : Nat) : Int) ((e.kids.length : Nat) : Int)) (b := true) (ltT hi0)]
 refine cndI (fun hb4 => ?_) fun hb4 => ?_
 rintro ⟨⟩
 exact go_ex HdU.plainG [1, 3, 8, 10, 22, 25, 27, 28, 30, 32, 37, 39, 48, 54, 56, 66, 68, 72, 74, 83, 93, 102, 104, 110, 112, 114] [fq (gn_pl hj0 0), fq (gn_pl hj0 1), fq (gn_pl hj0 2), fq (gn_pl hj0 3), fq (gn_pl hj0 4), fq (gn_pl hj0 5), fq (gn_pl hj0 6), fq (gn_pl hj0 7)] [fbp (ndC e) (layNd.pl e), fbp (ndC source) (layNd.pl source)] 0 _ _ (runS 300 (o5 ++ [pn hb4])) (by kernel_rfl) (k ([(jn j0 0), (jn j0 1), (jn j0 2), (jn j0 3), (jn j0 4), (jn j0 5), (jn j0 6), (jn j0 7), .bool true, .bool true, .bool false, .bool false, (jn j0 12), (jn j0 13), (jn j0 14), (jn j0 15), (jn j0 16)], [(gn j0 0), (gn j0 1), (gn j0 2), (gn j0 3), (gn j0 4), (gn j0 5), (gn j0 6), (gn j0 7)]) (plC (gn_pl hj0 0) (plC (gn_pl hj0 1) (plC (gn_pl hj0 2) (plC (gn_pl hj0 3) (plC (gn_pl hj0 4) (plC (gn_pl hj0 5) (plC (gn_pl hj0 6) (plC (gn_pl hj0 7) rfl)))))))))
 refine bndI ?_
 rintro ⟨y4a, y4b⟩ hy4
 dsimp only
 let o6 : List (PC P (GU mx)) := o5 ++ [pn hb4, pix (ix25 .lost he0), pcall (up (units_Infer_step source e0 (y4a, y4b) hy4))]
 refine cndI (fun hb5 => ?_) fun hb5 => ?_
 rintro ⟨⟩
 exact go_retA _ _ (runS 300 (o6 ++ [pb hb5])) (by kernel_rfl) (.rnd k) .sc
 refine cndI (fun hb6 => ?_) fun hb6 => ?_
 rintro ⟨⟩
 exact go_retA _ _ (runS 300 (o6 ++ [pb hb5, pb hb6])) (by kernel_rfl) (.rnd k) .sc
 rintro ⟨⟩
 exact go_nx HdU.plainG [1, 3, 4, 6, 8, 10, 12, 16, 22, 25, 27, 28, 30, 32, 37, 39, 48, 54, 56, 66, 68, 72, 74, 83, 93, 102, 104, 110, 112, 114] [fq (gn_pl hj0 0), fq (gn_pl hj0 1), fq (gn_pl hj0 2), fq (gn_pl hj0 3), fq (gn_pl hj0 4), fq (gn_pl hj0 5), fq (layNd.plG source), fq (layNd.plG e0)] [fbp (ndC e) (layNd.pl e), fbp (ndC source) (layNd.pl source)] _ _ (runS 300 (o6 ++ [pb hb5, pb hb6, pinc i0 (by omega)])) (by kernel_rfl) (k ([(jn j0 0), (jn j0 1), (jn j0 2), (jn j0 3), (jn j0 4), (jn j0 5), (jn j0 6), (jn j0 7), .bool true, .bool true, .bool true, .bool true, .bool false, .bool false, .bool false, .bool false, (jn j0 16)], [(gn j0 0), (gn j0 1), (gn j0 2), (gn j0 3), (gn j0 4), (gn j0 5), .agg (ndC source), .agg (ndC e0)]) (plC (gn_pl hj0 0) (plC (gn_pl hj0 1) (plC (gn_pl hj0 2) (plC (gn_pl hj0 3) (plC (gn_pl hj0 4) (plC (gn_pl hj0 5) (plC (layNd.plG source) (plC (layNd.plG e0) rfl)))))))))
 rintro ⟨⟩ rfl jx_6 hjx_6
 revert h
 clear hres
 dsimp only [lpK]
 intro h
 have hE := Option.some.inj h
 subst hE
 exact go_retA _ _ (runX 300 []) (by kernel_rfl) .body .sc
 rintro v rfl
 dsimp only [lpK] at h
 cases h
 exact .outer .body
 subst hv
 intro h
 have hE := Option.some.inj h
 subst hE
 exact rS (runS 300 (o1 ++ [pcall (up (law09_few_step source e false hy2))])) (by kernel_rfl)
end Mo
end Go.Proofs.YtkfplcngmiljaaaGreatDoor
namespace Go.Proofs.YtkfplcngmiljaaaGreatDoor
open AI Go
namespace Mo
set_option maxRecDepth 100000
set_option maxHeartbeats 4000000
theorem ope_loop {src : Nd} (hs : okNd src) {l : List Nd} {u : ByteArray} (h : u ≠ eS → ∀ k ∈ l, okNd k ∧ (inferQ src k).1 ≠ eS ∧ (inferQ src k).2 = []) : ∀ {m : List Nd}, (∀ k ∈ m, k ∈ l) → ∀ (i : Nat), foldL (fun i y x => law09_UnitsOperands_L1 src u i y) (fun _ => ()) m i () = (some (.inl ()) : Option (Unit ⊕ Bool))
 | [], _, _ => rfl
 | a :: m, hm, i => by
   rw [foldL, law09_UnitsOperands_L1, eqB_mb, c_mb]
   by_cases hu : u = eS
   · rw [iff_T hu]; rfl
   · rw [iff_F hu]
     obtain ⟨h1, h2, h3⟩ := h hu a (hm a (by simp))
     rw [Infer_s hs h1]
     simp only [Option.bind_some, eqB_mb, c_mb, ltI_mb, h3]
     rw [iff_F h2, iff_F (by simp)]
     exact ope_loop hs h (fun k hk => hm k (by simp [hk])) (i + 1)
theorem law_UnitsOperands (src e : Nd) (hs : okNd src) (he : okNd e) : law09_UnitsOperands_B src e = some true := by
 obtain ⟨hps, hkl, hks⟩ := (okNd_iff e).1 he
 obtain ⟨b, hb⟩ := few_s hs he
 rw [law09_UnitsOperands_B, hb, Infer_s hs he]
 show cond b _ _ = _
 cases b with
 | false => rfl
 | true =>
 rw [cond_true]
 simp only [Option.bind_some, eqB_mb, c_mb, ltI_mb]
 rw [lim_of hkl, List.drop_zero]
 by_cases hc : (src.kind = 1 ∧ e.kind ≠ 1) ∧ okV src ∧ okV e
 · obtain ⟨⟨c1, c2⟩, v1, v2⟩ := hc
   have hq : inferQ src e = inferP (scP src) e [] := by unfold inferQ; rw [iff_T ⟨⟨c1, c2⟩, v1, v2⟩]
   obtain ⟨x1, x2, x3⟩ := okV_ex v2 c2
   obtain ⟨_, i2, i3⟩ := inv (scP src) e []
   have hk : (inferQ src e).1 ≠ eS → ∀ k ∈ e.kids, okNd k ∧ (inferQ src k).1 ≠ eS ∧ (inferQ src k).2 = [] := by
     intro hu k hk
     rw [hq] at hu
     have hkk : k.kind ≠ 1 := by
       have := ex_kind ((exP_iff k).1 (((exP_iff e).1 x1).2 k hk)).1
       omega
     have hv : okV k := ⟨.inr ⟨hkk, ((exP_iff e).1 x1).2 k hk⟩, by have := szN_kid hk; omega, by have := (dpL_le (m := dpL e.kids)).1 (Nat.le_refl _) k hk; have := dpN_eq e; omega⟩
     have : inferQ src k = inferP (scP src) k [] := by unfold inferQ; rw [iff_T ⟨⟨c1, hkk⟩, v1, hv⟩]
     rw [this]
     exact ⟨hks k hk, kid_unit hk hu⟩
   rw [ope_loop hs hk (fun _ h => h) 0]
   by_cases hu : (inferQ src e).1 = eS
   · rw [iff_T hu]
     rw [hq] at hu ⊢
     have := i2 (by simp) hu
     rw [iff_T (by simpa using this)]
     rfl
   · rw [iff_F hu]
     rw [hq] at hu ⊢
     have := i3 hu
     rw [this, iff_F (by simp)]
     rfl
 · have hq : inferQ src e = (eS, [⟨1, e.att⟩]) := by unfold inferQ; rw [iff_F hc]
   rw [hq]
   simp only
   rw [iff_T trivial, iff_T (by simp), ope_loop hs (fun h => absurd rfl h) (fun _ h => h) 0]
   rfl
end Mo
end Go.Proofs.YtkfplcngmiljaaaGreatDoor
