/- Part of a proof: see the last text. -/
import Derived.Test.YtnijkdknnmgoeaaGreatNui
set_option linter.unusedVariables false
set_option linter.unusedSimpArgs false
namespace Go.Proofs.YtnijkdknnmgoeaaGreat
open AI Go
namespace Mo
set_option maxRecDepth 100000
set_option maxHeartbeats 4000000
noncomputable def B97 : Code := bodyOf Tryz.f97
theorem b97 : Tryz.f97.body = some B97 := by kernel_rfl
noncomputable def ref10_fits_L1 (r_ref10_fits : Co → Ex → Option Bool) (c : Co) (i0 : Nat) (e0 : Ex)  : Option (Lp Unit Unit Bool) := (r_ref10_fits c e0).bind fun y1 => cond y1 (some (.nx ())) (some (.rt false))
noncomputable def ref10_fits_B (r_ref10_fits : Co → Ex → Option Bool) (c : Co) (e : Ex) : Option Bool := (lim e.kids.length (foldL (fun i y x => ref10_fits_L1 r_ref10_fits c i y ) (fun x => ()) (e.kids.drop 0) 0 ())).bind (lpK (fun (_ : Unit) => cond (eqI e.op 1) (cond (eqI e.tab.den 0) (cond (eqI ((e.tab.ps.length : Nat) : Int) 0) (cond (eqI ((e.kids.length : Nat) : Int) 0) ((ref10_leaf_B c e).bind fun y3 => some y3) (cond (eqI ((e.kids.length : Nat) : Int) 1) (some false) ((ref10_many_B e).bind fun y4 => some y4))) (some false)) (some false)) (cond (eqI e.op 2) (cond (eqI e.tab.den 0) (cond (eqI ((e.tab.ps.length : Nat) : Int) 0) (cond (eqI ((e.kids.length : Nat) : Int) 0) ((ref10_leaf_B c e).bind fun y5 => some y5) (cond (eqI ((e.kids.length : Nat) : Int) 1) (some false) ((ref10_many_B e).bind fun y6 => some y6))) (some false)) (some false)) (cond (eqI e.op 3) (cond (eqI e.tab.den 0) (cond (eqI ((e.tab.ps.length : Nat) : Int) 0) (cond (eqI ((e.kids.length : Nat) : Int) 0) ((ref10_leaf_B c e).bind fun y7 => some y7) (cond (eqI ((e.kids.length : Nat) : Int) 1) (some false) ((ref10_many_B e).bind fun y8 => some y8))) (some false)) (some false)) (cond (eqI e.op 4) (cond (eqI e.tab.den 0) (cond (eqI ((e.tab.ps.length : Nat) : Int) 0) (cond (eqI ((e.kids.length : Nat) : Int) 0) ((ref10_leaf_B c e).bind fun y9 => some y9) (cond (eqI ((e.kids.length : Nat) : Int) 1) (some false) ((ref10_many_B e).bind fun y10 => some y10))) (some false)) (some false)) (cond (eqI e.n 0) (cond (eqI e.op 18) (cond (eqI ((e.kids.length : Nat) : Int) 0) ((ref10_leaf_B c e).bind fun y11 => some y11) (cond (eqI ((e.kids.length : Nat) : Int) 1) ((e.kids[0]?).bind fun x12 => cond (eqB e.unit.data.toList x12.unit.data.toList) ((ref07_Cur_B e.unit).bind fun y13 => cond y13 ((ref05_Valid_B e.tab).bind fun y14 => some y14) (some false)) (some false)) ((ref10_many_B e).bind fun y15 => some y15))) (cond (eqI e.tab.den 0) (cond (eqI ((e.tab.ps.length : Nat) : Int) 0) (cond (eqI ((e.kids.length : Nat) : Int) 0) ((ref10_leaf_B c e).bind fun y16 => some y16) (cond (eqI ((e.kids.length : Nat) : Int) 1) (cond (eqI e.op 5) (cond (eqB e.unit.data.toList truthS.data.toList) ((e.kids[0]?).bind fun x17 => cond (eqB x17.unit.data.toList truthS.data.toList) (some true) (some false)) (some false)) (some false)) ((ref10_many_B e).bind fun y18 => some y18))) (some false)) (some false))) (some false)))))) (fun v => some v))
theorem ref10_fits_step (r_ref10_fits : Co → Ex → Option Bool) (hr_ref10_fits : ∀ (c : Co) (e : Ex) (yR : Bool), r_ref10_fits c e = some yR → Pure P G 97 [.agg (coC c), .agg (exC e)] (.sc (.bool yR))) (c : Co) (e : Ex) (yR : Bool) (h : ref10_fits_B r_ref10_fits c e = some yR) : Pure P G 97 [.agg (coC c), .agg (exC e)] (.sc (.bool yR)) := by
 unfold ref10_fits_B at h
 refine pureM Hd.mixed Hd.plainG (WC_body Tryz.func97 b97 ?_) (plC (layCo.plG c) (plC (layEx.plG e) rfl)) rfl
 revert h
 refine bndI fun res hres h => ?_
 have hlen := (limE hres).1
 replace hres := (limE hres).2
 refine go_at [] [0, 1, 2, 3, 4, 5, 10, 13, 18, 19, 20, 23, 24, 27, 28, 29, 32, 33, 34, 37, 38, 39, 42, 43, 44, 47, 48, 52, 53, 58, 59, 60, 61, 65, 66, 67, 68, 69, 70, 71, 74, 75, 78, 79, 80, 86, 87, 88, 91, 92, 100, 101, 102, 105, 106, 107, 109, 110, 111, 112, 113, 114] 0 (sub B97 [1, 0, 1, 0, 0]) [.code (sub B97 [1, 1])] _ _ (runS 300 []) (by kernel_rfl) (foldP (fn := Tryz.f97) (m := 0) (fun v => .sc (.bool v)) 0 e.kids (fun i0 (_ : Unit) (j0 : JJ) => frm 115 0 [(2, .ptr 0 0), (3, .ptr 1 0), (5, .sc (.int .i64 ((i0 : Nat) : Int)))] [4, 10, 19, 20, 23, 24, 27, 28, 29, 32, 33, 34, 37, 38, 39, 42, 43, 44, 47, 48, 52, 53, 58, 59, 60, 61, 65, 66, 69, 70, 71, 74, 75, 78, 79, 80, 86, 87, 88, 91, 92, 100, 101, 102, 105, 106, 107, 110, 111, 112, 114] 0 [0, 1, 13, 18, 67, 68, 109, 113] 0 j0) (fun (_ : Nat) (_ : Unit) (_ : JJ) => ⟨[(1, .cells (exC e)), (0, .cells (coC c))], 2, [], 0⟩) (fun (j : JJ) => plainL j.2 = true) (fun (_ : Unit) (jx : JJ) => frm 115 0 [(2, .ptr 0 0), (3, .ptr 1 0)] [4, 10, 19, 20, 23, 24, 27, 28, 29, 32, 33, 34, 37, 38, 39, 42, 43, 44, 47, 48, 52, 53, 58, 59, 60, 61, 65, 66, 69, 70, 71, 74, 75, 78, 79, 80, 86, 87, 88, 91, 92, 100, 101, 102, 105, 106, 107, 110, 111, 112, 114] 0 [0, 1, 13, 18, 67, 68, 109, 113] 0 jx) (fun (_ : Unit) (_ : JJ) => ⟨[(1, .cells (exC e)), (0, .cells (coC c))], 2, [], 0⟩) (fun (j : JJ) => plainL j.2 = true) ?_ ?_ 0 hres ?_ ?_ ([.bool false], [.agg (coC c), .agg (exC e), .sc undef, .sc undef, .sc undef, .sc undef, .sc undef, .sc undef]) (plC (layCo.plG c) (plC (layEx.plG e) (plC rfl (plC rfl (plC rfl (plC rfl (plC rfl (plC rfl rfl)))))))))
 rintro i0 ⟨⟩ j0 hj0 hge hq
 clear h hres
 refine WL_rnd ?_
 exact go_ex Hd.plainG [1, 3, 4, 6, 8, 20, 27, 37, 38, 40, 46, 48, 54, 56, 58, 64, 66, 68, 74, 76, 78, 84, 86, 88, 94, 96, 104, 106, 116, 118, 120, 122, 130, 132, 135, 137, 138, 140, 142, 148, 150, 156, 158, 160, 172, 174, 176, 182, 184, 200, 202, 204, 210, 212, 214, 219, 220, 222, 224, 227, 228] [fq (gn_pl hj0 0), fq (gn_pl hj0 1), fq (gn_pl hj0 2), fq (gn_pl hj0 3), fq (gn_pl hj0 4), fq (gn_pl hj0 5), fq (gn_pl hj0 6), fq (gn_pl hj0 7)] [fbp (exC e) (layEx.pl e), fbp (coC c) (layCo.pl c)] 0 _ _ (runS 300 [pb (B := ltI ((i0 : Nat) : Int) ((e.kids.length : Nat) : Int)) (b := false) (ltF hge)]) (by kernel_rfl) (hq ([(jn j0 0), .bool false, (jn j0 2), (jn j0 3), (jn j0 4), (jn j0 5), (jn j0 6), (jn j0 7), (jn j0 8), (jn j0 9), (jn j0 10), (jn j0 11), (jn j0 12), (jn j0 13), (jn j0 14), (jn j0 15), (jn j0 16), (jn j0 17), (jn j0 18), (jn j0 19), (jn j0 20), (jn j0 21), (jn j0 22), (jn j0 23), (jn j0 24), (jn j0 25), (jn j0 26), (jn j0 27), (jn j0 28), (jn j0 29), (jn j0 30), (jn j0 31), (jn j0 32), (jn j0 33), (jn j0 34), (jn j0 35), (jn j0 36), (jn j0 37), (jn j0 38), (jn j0 39), (jn j0 40), (jn j0 41), (jn j0 42), (jn j0 43), (jn j0 44), (jn j0 45), (jn j0 46), (jn j0 47), (jn j0 48), (jn j0 49), (jn j0 50)], [(gn j0 0), (gn j0 1), (gn j0 2), (gn j0 3), (gn j0 4), (gn j0 5), (gn j0 6), (gn j0 7)]) (plC (gn_pl hj0 0) (plC (gn_pl hj0 1) (plC (gn_pl hj0 2) (plC (gn_pl hj0 3) (plC (gn_pl hj0 4) (plC (gn_pl hj0 5) (plC (gn_pl hj0 6) (plC (gn_pl hj0 7) rfl)))))))))
 clear h hres
 rintro i0 e0 ⟨⟩ j0 r hj0 he0 hi0 h k
 refine WL_rnd ?_
 revert h
 show ref10_fits_L1 r_ref10_fits c i0 e0  = some r → _
 unfold ref10_fits_L1
 refine bndI fun y1 hy1 => ?_
 let o1 : List (PC P G) := [pb (B := ltI ((i0 : Nat) : Int) ((e.kids.length : Nat) : Int)) (b := true) (ltT hi0), pix (ix58 .lost he0)]
 refine cndI (fun hv => ?_) fun hv => ?_
 subst hv
 rintro ⟨⟩
 exact go_nx Hd.plainG [1, 3, 4, 6, 8, 10, 20, 27, 37, 38, 40, 46, 48, 54, 56, 58, 64, 66, 68, 74, 76, 78, 84, 86, 88, 94, 96, 104, 106, 116, 118, 120, 122, 130, 132, 135, 137, 138, 140, 142, 148, 150, 156, 158, 160, 172, 174, 176, 182, 184, 200, 202, 204, 210, 212, 214, 219, 220, 222, 224, 227, 228] [fq (gn_pl hj0 0), fq (gn_pl hj0 1), fq (layCo.plG c), fq (layEx.plG e0), fq (gn_pl hj0 4), fq (gn_pl hj0 5), fq (gn_pl hj0 6), fq (gn_pl hj0 7)] [fbp (exC e) (layEx.pl e), fbp (coC c) (layCo.pl c)] _ _ (runS 300 (o1 ++ [pcall (hr_ref10_fits c e0 true hy1), pinc i0 (by omega)])) (by kernel_rfl) (k ([(jn j0 0), .bool true, .bool true, .bool false, (jn j0 4), (jn j0 5), (jn j0 6), (jn j0 7), (jn j0 8), (jn j0 9), (jn j0 10), (jn j0 11), (jn j0 12), (jn j0 13), (jn j0 14), (jn j0 15), (jn j0 16), (jn j0 17), (jn j0 18), (jn j0 19), (jn j0 20), (jn j0 21), (jn j0 22), (jn j0 23), (jn j0 24), (jn j0 25), (jn j0 26), (jn j0 27), (jn j0 28), (jn j0 29), (jn j0 30), (jn j0 31), (jn j0 32), (jn j0 33), (jn j0 34), (jn j0 35), (jn j0 36), (jn j0 37), (jn j0 38), (jn j0 39), (jn j0 40), (jn j0 41), (jn j0 42), (jn j0 43), (jn j0 44), (jn j0 45), (jn j0 46), (jn j0 47), (jn j0 48), (jn j0 49), (jn j0 50)], [(gn j0 0), (gn j0 1), .agg (coC c), .agg (exC e0), (gn j0 4), (gn j0 5), (gn j0 6), (gn j0 7)]) (plC (gn_pl hj0 0) (plC (gn_pl hj0 1) (plC (layCo.plG c) (plC (layEx.plG e0) (plC (gn_pl hj0 4) (plC (gn_pl hj0 5) (plC (gn_pl hj0 6) (plC (gn_pl hj0 7) rfl)))))))))
 subst hv
 rintro ⟨⟩
 exact go_retA _ _ (runS 300 (o1 ++ [pcall (hr_ref10_fits c e0 false hy1)])) (by kernel_rfl) (.rnd k) .sc
 rintro ⟨⟩ rfl jx_2 hjx_2
 revert h
 clear hres
 dsimp only [lpK]
 refine cndI (fun hb1 => ?_) fun hb1 => ?_
 let o2 : List (PC P G) := [pn hb1, pn (B := eqI e.op 18) (b := false) (by rw [eqI_T hb1]; rfl)]
 refine cndI (fun hb2 => ?_) fun hb2 => ?_
 refine cndI (fun hb3 => ?_) fun hb3 => ?_
 refine cndI (fun hb4 => ?_) fun hb4 => ?_
 refine bndI fun y3 hy3 => ?_
 intro h
 have hE := Option.some.inj h
 subst hE
 exact go_retA _ _ (runX 300 (o2 ++ [pn hb2, pn hb3, pb hb4, pcall (ref10_leaf_step c e y3 hy3)])) (by kernel_rfl) .body .sc
 refine cndI (fun hb5 => ?_) fun hb5 => ?_
 intro h
 have hE := Option.some.inj h
 subst hE
 exact go_retA _ _ (runX 300 (o2 ++ [pn hb2, pn hb3, pb hb4, pb hb5, pb (B := eqI e.op 5) (b := false) (by rw [eqI_T hb1]; rfl), pb (B := eqI e.op 18) (b := false) (by rw [eqI_T hb1]; rfl)])) (by kernel_rfl) .body .sc
 refine bndI fun y4 hy4 => ?_
 intro h
 have hE := Option.some.inj h
 subst hE
 exact go_retA _ _ (runX 300 (o2 ++ [pn hb2, pn hb3, pb hb4, pb hb5, pcall (ref10_many_step e y4 hy4)])) (by kernel_rfl) .body .sc
 intro h
 have hE := Option.some.inj h
 subst hE
 exact go_retA _ _ (runX 300 (o2 ++ [pn hb2, pn hb3])) (by kernel_rfl) .body .sc
 intro h
 have hE := Option.some.inj h
 subst hE
 exact go_retA _ _ (runX 300 (o2 ++ [pn hb2])) (by kernel_rfl) .body .sc
 let o3 : List (PC P G) := [pn hb1]
 refine cndI (fun hb6 => ?_) fun hb6 => ?_
 let o4 : List (PC P G) := o3 ++ [pn hb6, pn (B := eqI e.op 18) (b := false) (by rw [eqI_T hb6]; rfl)]
 refine cndI (fun hb7 => ?_) fun hb7 => ?_
 refine cndI (fun hb8 => ?_) fun hb8 => ?_
 refine cndI (fun hb9 => ?_) fun hb9 => ?_
 refine bndI fun y5 hy5 => ?_
 intro h
 have hE := Option.some.inj h
 subst hE
 exact go_retA _ _ (runX 300 (o4 ++ [pn hb7, pn hb8, pb hb9, pcall (ref10_leaf_step c e y5 hy5)])) (by kernel_rfl) .body .sc
 refine cndI (fun hb10 => ?_) fun hb10 => ?_
 intro h
 have hE := Option.some.inj h
 subst hE
 exact go_retA _ _ (runX 300 (o4 ++ [pn hb7, pn hb8, pb hb9, pb hb10, pb (B := eqI e.op 5) (b := false) (by rw [eqI_T hb6]; rfl), pb (B := eqI e.op 18) (b := false) (by rw [eqI_T hb6]; rfl)])) (by kernel_rfl) .body .sc
 refine bndI fun y6 hy6 => ?_
 intro h
 have hE := Option.some.inj h
 subst hE
 exact go_retA _ _ (runX 300 (o4 ++ [pn hb7, pn hb8, pb hb9, pb hb10, pcall (ref10_many_step e y6 hy6)])) (by kernel_rfl) .body .sc
 intro h
 have hE := Option.some.inj h
 subst hE
 exact go_retA _ _ (runX 300 (o4 ++ [pn hb7, pn hb8])) (by kernel_rfl) .body .sc
 intro h
 have hE := Option.some.inj h
 subst hE
 exact go_retA _ _ (runX 300 (o4 ++ [pn hb7])) (by kernel_rfl) .body .sc
 let o5 : List (PC P G) := o3 ++ [pn hb6]
 refine cndI (fun hb11 => ?_) fun hb11 => ?_
 let o6 : List (PC P G) := o5 ++ [pn hb11, pn (B := eqI e.op 18) (b := false) (by rw [eqI_T hb11]; rfl)]
 refine cndI (fun hb12 => ?_) fun hb12 => ?_
 refine cndI (fun hb13 => ?_) fun hb13 => ?_
 refine cndI (fun hb14 => ?_) fun hb14 => ?_
 refine bndI fun y7 hy7 => ?_
 intro h
 have hE := Option.some.inj h
 subst hE
 exact go_retA _ _ (runX 300 (o6 ++ [pn hb12, pn hb13, pb hb14, pcall (ref10_leaf_step c e y7 hy7)])) (by kernel_rfl) .body .sc
 refine cndI (fun hb15 => ?_) fun hb15 => ?_
 intro h
 have hE := Option.some.inj h
 subst hE
 exact go_retA _ _ (runX 300 (o6 ++ [pn hb12, pn hb13, pb hb14, pb hb15, pb (B := eqI e.op 5) (b := false) (by rw [eqI_T hb11]; rfl), pb (B := eqI e.op 18) (b := false) (by rw [eqI_T hb11]; rfl)])) (by kernel_rfl) .body .sc
 refine bndI fun y8 hy8 => ?_
 intro h
 have hE := Option.some.inj h
 subst hE
 exact go_retA _ _ (runX 300 (o6 ++ [pn hb12, pn hb13, pb hb14, pb hb15, pcall (ref10_many_step e y8 hy8)])) (by kernel_rfl) .body .sc
 intro h
 have hE := Option.some.inj h
 subst hE
 exact go_retA _ _ (runX 300 (o6 ++ [pn hb12, pn hb13])) (by kernel_rfl) .body .sc
 intro h
 have hE := Option.some.inj h
 subst hE
 exact go_retA _ _ (runX 300 (o6 ++ [pn hb12])) (by kernel_rfl) .body .sc
 let o7 : List (PC P G) := o5 ++ [pn hb11]
 refine cndI (fun hb16 => ?_) fun hb16 => ?_
 let o8 : List (PC P G) := o7 ++ [pn hb16, pn (B := eqI e.op 18) (b := false) (by rw [eqI_T hb16]; rfl)]
 refine cndI (fun hb17 => ?_) fun hb17 => ?_
 refine cndI (fun hb18 => ?_) fun hb18 => ?_
 refine cndI (fun hb19 => ?_) fun hb19 => ?_
 refine bndI fun y9 hy9 => ?_
 intro h
 have hE := Option.some.inj h
 subst hE
 exact go_retA _ _ (runX 300 (o8 ++ [pn hb17, pn hb18, pb hb19, pcall (ref10_leaf_step c e y9 hy9)])) (by kernel_rfl) .body .sc
 refine cndI (fun hb20 => ?_) fun hb20 => ?_
 intro h
 have hE := Option.some.inj h
 subst hE
 exact go_retA _ _ (runX 300 (o8 ++ [pn hb17, pn hb18, pb hb19, pb hb20, pb (B := eqI e.op 5) (b := false) (by rw [eqI_T hb16]; rfl), pb (B := eqI e.op 18) (b := false) (by rw [eqI_T hb16]; rfl)])) (by kernel_rfl) .body .sc
 refine bndI fun y10 hy10 => ?_
 intro h
 have hE := Option.some.inj h
 subst hE
 exact go_retA _ _ (runX 300 (o8 ++ [pn hb17, pn hb18, pb hb19, pb hb20, pcall (ref10_many_step e y10 hy10)])) (by kernel_rfl) .body .sc
 intro h
 have hE := Option.some.inj h
 subst hE
 exact go_retA _ _ (runX 300 (o8 ++ [pn hb17, pn hb18])) (by kernel_rfl) .body .sc
 intro h
 have hE := Option.some.inj h
 subst hE
 exact go_retA _ _ (runX 300 (o8 ++ [pn hb17])) (by kernel_rfl) .body .sc
 let o9 : List (PC P G) := o7 ++ [pn hb16]
 refine cndI (fun hb21 => ?_) fun hb21 => ?_
 let o10 : List (PC P G) := o9 ++ [pn hb21]
 refine cndI (fun hb22 => ?_) fun hb22 => ?_
 refine cndI (fun hb23 => ?_) fun hb23 => ?_
 refine bndI fun y11 hy11 => ?_
 intro h
 have hE := Option.some.inj h
 subst hE
 exact go_retA _ _ (runX 300 (o10 ++ [pn hb22, pb hb23, pcall (ref10_leaf_step c e y11 hy11)])) (by kernel_rfl) .body .sc
 refine cndI (fun hb24 => ?_) fun hb24 => ?_
 refine bndI fun x12 hx12 => ?_
 let o11 : List (PC P G) := o10 ++ [pn hb22, pb hb23, pb hb24, pb (B := eqI e.op 5) (b := false) (by rw [eqI_T hb22]; rfl), pb hb22, pix (ix58 .lost hx12)]
 refine cndI (fun hb25 => ?_) fun hb25 => ?_
 refine bndI fun y13 hy13 => ?_
 refine cndI (fun hv => ?_) fun hv => ?_
 subst hv
 refine bndI fun y14 hy14 => ?_
 intro h
 have hE := Option.some.inj h
 subst hE
 exact go_retA _ _ (runX 300 (o11 ++ [pb hb25, pcall (ref07_Cur_step e.unit true hy13), pcall (ref05_Valid_step e.tab y14 hy14)])) (by kernel_rfl) .body .sc
 subst hv
 intro h
 have hE := Option.some.inj h
 subst hE
 exact go_retA _ _ (runX 300 (o11 ++ [pb hb25, pcall (ref07_Cur_step e.unit false hy13)])) (by kernel_rfl) .body .sc
 intro h
 have hE := Option.some.inj h
 subst hE
 exact go_retA _ _ (runX 300 (o11 ++ [pb hb25])) (by kernel_rfl) .body .sc
 refine bndI fun y15 hy15 => ?_
 intro h
 have hE := Option.some.inj h
 subst hE
 exact go_retA _ _ (runX 300 (o10 ++ [pn hb22, pb hb23, pb hb24, pcall (ref10_many_step e y15 hy15)])) (by kernel_rfl) .body .sc
 refine cndI (fun hb26 => ?_) fun hb26 => ?_
 let o12 : List (PC P G) := o10 ++ [pn hb22, pn hb26]
 refine cndI (fun hb27 => ?_) fun hb27 => ?_
 refine cndI (fun hb28 => ?_) fun hb28 => ?_
 refine bndI fun y16 hy16 => ?_
 intro h
 have hE := Option.some.inj h
 subst hE
 exact go_retA _ _ (runX 300 (o12 ++ [pn hb27, pb hb28, pcall (ref10_leaf_step c e y16 hy16)])) (by kernel_rfl) .body .sc
 refine cndI (fun hb29 => ?_) fun hb29 => ?_
 let o13 : List (PC P G) := o12 ++ [pn hb27, pb hb28, pb hb29]
 refine cndI (fun hb30 => ?_) fun hb30 => ?_
 refine cndI (fun hb31 => ?_) fun hb31 => ?_
 refine bndI fun x17 hx17 => ?_
 refine cndI (fun hb32 => ?_) fun hb32 => ?_
 intro h
 have hE := Option.some.inj h
 subst hE
 exact go_retA _ _ (runX 300 (o13 ++ [pb hb30, pb hb31, pix (ix58 .lost hx17), pb hb32])) (by kernel_rfl) .body .sc
 intro h
 have hE := Option.some.inj h
 subst hE
 exact go_retA _ _ (runX 300 (o13 ++ [pb hb30, pb hb31, pix (ix58 .lost hx17), pb hb32, pb hb22])) (by kernel_rfl) .body .sc
 intro h
 have hE := Option.some.inj h
 subst hE
 exact go_retA _ _ (runX 300 (o13 ++ [pb hb30, pb hb31, pb hb22])) (by kernel_rfl) .body .sc
 intro h
 have hE := Option.some.inj h
 subst hE
 exact go_retA _ _ (runX 300 (o13 ++ [pb hb30, pb hb22])) (by kernel_rfl) .body .sc
 refine bndI fun y18 hy18 => ?_
 intro h
 have hE := Option.some.inj h
 subst hE
 exact go_retA _ _ (runX 300 (o12 ++ [pn hb27, pb hb28, pb hb29, pcall (ref10_many_step e y18 hy18)])) (by kernel_rfl) .body .sc
 intro h
 have hE := Option.some.inj h
 subst hE
 exact go_retA _ _ (runX 300 (o12 ++ [pn hb27])) (by kernel_rfl) .body .sc
 intro h
 have hE := Option.some.inj h
 subst hE
 exact go_retA _ _ (runX 300 (o10 ++ [pn hb22, pn hb26])) (by kernel_rfl) .body .sc
 intro h
 have hE := Option.some.inj h
 subst hE
 exact go_retA _ _ (runX 300 (o9 ++ [pn hb21])) (by kernel_rfl) .body .sc
 rintro v rfl
 dsimp only [lpK] at h
 cases h
 exact .outer .body
noncomputable def ref10_fits_M : Nat → Co → Ex → Option Bool
 | 0, _, _ => none
 | qn + 1, c, e => ref10_fits_B (ref10_fits_M qn) c e
theorem ref10_fits_all : ∀ qn : Nat, ∀ (c : Co) (e : Ex) (yR : Bool), ref10_fits_M qn c e = some yR → Pure P G 97 [.agg (coC c), .agg (exC e)] (.sc (.bool yR)) := by
 intro qn
 induction qn with
 | zero => exact (fun _ _ _ h => by simp only [ref10_fits_M] at h; cases h)
 | succ qn ih => exact (fun c e yR h => ref10_fits_step _ ih c e yR (by rw [ref10_fits_M] at h; exact h))
noncomputable def ref10_fits_R (c : Co) (e : Ex) : Option Bool := evt (fun qn => ref10_fits_M qn c e)
theorem ref10_fits_ok (c : Co) (e : Ex) (yR : Bool) (h : ref10_fits_R c e = some yR) : Pure P G 97 [.agg (coC c), .agg (exC e)] (.sc (.bool yR)) := by
 obtain ⟨qn, h⟩ := evtE h
 exact (ref10_fits_all qn) c e yR h
noncomputable def B59 : Code := bodyOf Tryz.f59
theorem b59 : Tryz.f59.body = some B59 := by kernel_rfl
noncomputable def ref10_Fits_B  (c : Co) (e : Ex) : Option Bool := (ref10_within_B e).bind fun y1 => cond y1 ((ref10_fits_R c e).bind fun y2 => some y2) (some false)
theorem ref10_Fits_step   (c : Co) (e : Ex) (yR : Bool) (h : ref10_Fits_B  c e = some yR) : Pure P G 59 [.agg (coC c), .agg (exC e)] (.sc (.bool yR)) := by
 unfold ref10_Fits_B at h
 refine pureM Hd.mixed Hd.plainG (WC_body Tryz.func59 b59 ?_) (plC (layCo.plG c) (plC (layEx.plG e) rfl)) rfl
 revert h
 refine bndI fun y1 hy1 => ?_
 refine cndI (fun hv => ?_) fun hv => ?_
 subst hv
 refine bndI fun y2 hy2 => ?_
 intro h
 have hE := Option.some.inj h
 subst hE
 exact rS (runS 300 [pcall (ref10_within_step e true hy1), pcall (ref10_fits_ok c e y2 hy2)]) (by kernel_rfl)
 subst hv
 rintro ⟨⟩
 exact rS (runS 300 [pcall (ref10_within_step e false hy1)]) (by kernel_rfl)
noncomputable def B23 : Code := bodyOf Tryz.f23
theorem b23 : Tryz.f23.body = some B23 := by kernel_rfl
noncomputable def ref10_Valid_L2  (c : Co) (i1 : Nat) (e1 : Ex)  : Option (Lp Unit Unit Bool) := (ref10_Fits_B c e1).bind fun y5 => cond y5 (cond (eqB e1.unit.data.toList truthS.data.toList) (some (.nx ())) (some (.rt false))) (some (.rt false))
noncomputable def ref10_Valid_L3  (c : Co) (i2 : Nat) (e2 : Int)  : Option (Lp Unit Unit Bool) := (ref10_numbered_B c e2).bind fun y7 => cond (ltI y7 0) (some (.rt false)) (some (.nx ()))
noncomputable def ref10_Valid_L1  (c : Co) (i0 : Nat) (e0 : Ar)  : Option (Lp Unit Unit Bool) := cond (ltI e0.number 1) (some (.rt false)) (cond (ltI 1000000 e0.number) (some (.rt false)) (cond (ltI e0.line 0) (some (.rt false)) (cond (leI ((c.lines.length : Nat) : Int) e0.line) (some (.rt false)) ((ref10_numbered_B c e0.number).bind fun y3 => (geti c.arts y3).bind fun x4 => cond (eqI e0.line x4.line) (cond (ltI e0.rank 0) (some (.rt false)) (cond (ltI 1000000 e0.rank) (some (.rt false)) (cond (ltI e0.fr 0) (some (.rt false)) (cond (leI e0.to e0.fr) (some (.rt false)) (cond (ltI 36525 e0.to) (some (.rt false)) (cond (ltI e0.known 0) (some (.rt false)) (cond (ltI 36524 e0.known) (some (.rt false)) ((lim e0.wh.length (foldL (fun i y x => ref10_Valid_L2  c i y ) (fun x => ()) (e0.wh.drop 0) 0 ())).bind (lpK (fun (_ : Unit) => (lim e0.un.length (foldL (fun i y x => ref10_Valid_L3  c i y ) (fun x => ()) (e0.un.drop 0) 0 ())).bind (lpK (fun (_ : Unit) => (ref10_Fits_B c e0.am).bind fun y9 => cond y9 ((geti c.lines e0.line).bind fun x10 => cond (eqB e0.am.unit.data.toList x10.unit.data.toList) (some (.nx ())) (some (.rt false))) (some (.rt false))) (fun v => some (.rt v)))) (fun v => some (.rt v))))))))))) (some (.rt false))))))
noncomputable def ref10_Valid_B  (c : Co) : Option Bool := (ref10_decls_B c.facts 0 0).bind fun y1 => cond y1 ((ref10_decls_B c.lines 1 4).bind fun y2 => cond y2 (cond (ltI 60 ((c.arts.length : Nat) : Int)) (some false) ((lim c.arts.length (foldL (fun i y x => ref10_Valid_L1  c i y ) (fun x => ()) (c.arts.drop 0) 0 ())).bind (lpK (fun (_ : Unit) => some true) (fun v => some v)))) (some false)) (some false)
theorem ref10_Valid_step   (c : Co) (yR : Bool) (h : ref10_Valid_B  c = some yR) : Pure P G 23 [.agg (coC c)] (.sc (.bool yR)) := by
 unfold ref10_Valid_B at h
 refine pureM Hd.mixed Hd.plainG (WC_body Tryz.func23 b23 ?_) (plC (layCo.plG c) rfl) rfl
 revert h
 refine bndI fun y1 hy1 => ?_
 refine cndI (fun hv => ?_) fun hv => ?_
 subst hv
 refine bndI fun y2 hy2 => ?_
 let o1 : List (PC P G) := [pcall (ref10_decls_step c.facts 0 0 true hy1)]
 refine cndI (fun hv => ?_) fun hv => ?_
 subst hv
 refine cndI (fun hb1 => ?_) fun hb1 => ?_
 rintro ⟨⟩
 exact rS (runS 300 (o1 ++ [pcall (ref10_decls_step c.lines 1 4 true hy2), pb hb1])) (by kernel_rfl)
 refine bndI fun res hres h => ?_
 have hlen := (limE hres).1
 replace hres := (limE hres).2
 refine go_at [] [0, 1, 2, 3, 9, 10, 11, 14, 15, 16, 17, 21, 22, 27, 34, 37, 38, 41, 42, 43, 46, 47, 48, 54, 55, 56, 61, 68, 69, 70, 73, 74, 75, 78, 79, 82, 83, 88, 89, 90, 93, 94, 95, 98, 99, 100, 103, 104, 109, 112, 117, 118, 119, 120, 127, 128, 133, 136, 143, 144, 146, 147, 148, 149, 160, 161] 0 (sub B23 [1, 1, 0, 1, 0, 0]) [.code (sub B23 [1, 1, 1])] _ _ (runS 300 (o1 ++ [pcall (ref10_decls_step c.lines 1 4 true hy2), pb hb1])) (by kernel_rfl) (foldP (fn := Tryz.f23) (m := 0) (fun v => .sc (.bool v)) 0 c.arts (fun i0 (_ : Unit) (j0 : JJ) => frm 162 0 [(1, .ptr 0 0), (3, .sc (.int .i64 ((i0 : Nat) : Int)))] [2, 9, 10, 11, 14, 15, 16, 17, 21, 22, 27, 37, 38, 41, 42, 43, 46, 47, 48, 54, 55, 56, 68, 69, 70, 73, 74, 75, 78, 79, 82, 83, 88, 89, 90, 93, 94, 95, 98, 99, 100, 103, 104, 109, 118, 119, 120, 127, 128, 133, 143, 147, 148, 149, 160, 161] 0 [0, 34, 61, 112, 117, 136, 144, 146] 0 j0) (fun (_ : Nat) (_ : Unit) (_ : JJ) => ⟨[(0, .cells (coC c))], 1, [], 0⟩) (fun (j : JJ) => plainL j.2 = true) (fun (_ : Unit) (jx : JJ) => frm 162 0 [] [2, 9, 10, 11, 14, 15, 16, 17, 21, 22, 27, 37, 38, 41, 42, 43, 46, 47, 48, 54, 55, 56, 68, 69, 70, 73, 74, 75, 78, 79, 82, 83, 88, 89, 90, 93, 94, 95, 98, 99, 100, 103, 104, 109, 118, 119, 120, 127, 128, 133, 143, 147, 148, 149, 160, 161] 0 [0, 34, 61, 112, 117, 136, 144, 146] 0 jx) (fun (_ : Unit) (_ : JJ) => ⟨[(0, .cells (coC c))], 1, [], 0⟩) (fun (j : JJ) => plainL j.2 = true) ?_ ?_ 0 hres ?_ ?_ ([.bool false, .bool true, .bool false, .bool false, .bool true, .bool false, .bool false, .bool false, .bool false, .bool false], [.agg (coC c), .sc undef, .sc undef, .sc undef, .sc undef, .sc undef, .sc undef, .sc undef]) (plC (layCo.plG c) (plC rfl (plC rfl (plC rfl (plC rfl (plC rfl (plC rfl (plC rfl rfl)))))))))
 rintro i0 ⟨⟩ j0 hj0 hge hq
 clear h hres
 refine WL_rnd ?_
 exact go_ex Hd.plainG [1, 4, 18, 20, 22, 28, 30, 32, 34, 42, 44, 54, 69, 74, 76, 82, 84, 86, 92, 94, 96, 108, 110, 112, 123, 136, 138, 140, 146, 148, 150, 156, 158, 164, 166, 176, 178, 180, 186, 188, 190, 196, 198, 200, 206, 208, 218, 225, 235, 236, 238, 240, 254, 256, 266, 273, 286, 289, 293, 294, 296, 298, 320, 322] [fq (gn_pl hj0 0), fq (gn_pl hj0 1), fq (gn_pl hj0 2), fq (gn_pl hj0 3), fq (gn_pl hj0 4), fq (gn_pl hj0 5), fq (gn_pl hj0 6), fq (gn_pl hj0 7)] [fbp (coC c) (layCo.pl c)] 0 _ _ (runS 300 [pb (B := ltI ((i0 : Nat) : Int) ((c.arts.length : Nat) : Int)) (b := false) (ltF hge)]) (by kernel_rfl) (hq ([(jn j0 0), (jn j0 1), (jn j0 2), (jn j0 3), (jn j0 4), (jn j0 5), (jn j0 6), (jn j0 7), (jn j0 8), (jn j0 9), .bool false, (jn j0 11), (jn j0 12), (jn j0 13), (jn j0 14), (jn j0 15), (jn j0 16), (jn j0 17), (jn j0 18), (jn j0 19), (jn j0 20), (jn j0 21), (jn j0 22), (jn j0 23), (jn j0 24), (jn j0 25), (jn j0 26), (jn j0 27), (jn j0 28), (jn j0 29), (jn j0 30), (jn j0 31), (jn j0 32), (jn j0 33), (jn j0 34), (jn j0 35), (jn j0 36), (jn j0 37), (jn j0 38), (jn j0 39), (jn j0 40), (jn j0 41), (jn j0 42), (jn j0 43), (jn j0 44), (jn j0 45), (jn j0 46), (jn j0 47), (jn j0 48), (jn j0 49), (jn j0 50), (jn j0 51), (jn j0 52), (jn j0 53), (jn j0 54), (jn j0 55)], [(gn j0 0), (gn j0 1), (gn j0 2), (gn j0 3), (gn j0 4), (gn j0 5), (gn j0 6), (gn j0 7)]) (plC (gn_pl hj0 0) (plC (gn_pl hj0 1) (plC (gn_pl hj0 2) (plC (gn_pl hj0 3) (plC (gn_pl hj0 4) (plC (gn_pl hj0 5) (plC (gn_pl hj0 6) (plC (gn_pl hj0 7) rfl)))))))))
 clear h hres
 rintro i0 e0 ⟨⟩ j0 r hj0 he0 hi0 h k
 refine WL_rnd ?_
 revert h
 show ref10_Valid_L1  c i0 e0  = some r → _
 unfold ref10_Valid_L1
 let o2 : List (PC P G) := [pb (B := ltI ((i0 : Nat) : Int) ((c.arts.length : Nat) : Int)) (b := true) (ltT hi0), pix (ix29 .lost he0)]
 refine cndI (fun hb2 => ?_) fun hb2 => ?_
 rintro ⟨⟩
 exact go_retA _ _ (runS 300 (o2 ++ [pb hb2])) (by kernel_rfl) (.rnd k) .sc
 let o3 : List (PC P G) := o2 ++ [pb hb2]
 refine cndI (fun hb3 => ?_) fun hb3 => ?_
 rintro ⟨⟩
 exact go_retA _ _ (runS 300 (o3 ++ [pb hb3])) (by kernel_rfl) (.rnd k) .sc
 let o4 : List (PC P G) := o3 ++ [pb hb3]
 refine cndI (fun hb4 => ?_) fun hb4 => ?_
 rintro ⟨⟩
 exact go_retA _ _ (runS 300 (o4 ++ [pb hb4])) (by kernel_rfl) (.rnd k) .sc
 refine cndI (fun hb5 => ?_) fun hb5 => ?_
 rintro ⟨⟩
 exact go_retA _ _ (runS 300 (o4 ++ [pb hb4, pb hb5])) (by kernel_rfl) (.rnd k) .sc
 refine bndI fun y3 hy3 => ?_
 refine bndI fun x4 hx4 => ?_
 let o5 : List (PC P G) := o4 ++ [pb hb4, pb hb5, pcall (ref10_numbered_step c e0.number y3 hy3), pix (ixz29 .lost hx4)]
 refine cndI (fun hb6 => ?_) fun hb6 => ?_
 refine cndI (fun hb7 => ?_) fun hb7 => ?_
 rintro ⟨⟩
 exact go_retA _ _ (runS 300 (o5 ++ [pn hb6, pb hb7])) (by kernel_rfl) (.rnd k) .sc
 let o6 : List (PC P G) := o5 ++ [pn hb6, pb hb7]
 refine cndI (fun hb8 => ?_) fun hb8 => ?_
 rintro ⟨⟩
 exact go_retA _ _ (runS 300 (o6 ++ [pb hb8])) (by kernel_rfl) (.rnd k) .sc
 refine cndI (fun hb9 => ?_) fun hb9 => ?_
 rintro ⟨⟩
 exact go_retA _ _ (runS 300 (o6 ++ [pb hb8, pb hb9])) (by kernel_rfl) (.rnd k) .sc
 refine cndI (fun hb10 => ?_) fun hb10 => ?_
 rintro ⟨⟩
 exact go_retA _ _ (runS 300 (o6 ++ [pb hb8, pb hb9, pb hb10])) (by kernel_rfl) (.rnd k) .sc
 refine cndI (fun hb11 => ?_) fun hb11 => ?_
 rintro ⟨⟩
 exact go_retA _ _ (runS 300 (o6 ++ [pb hb8, pb hb9, pb hb10, pb hb11])) (by kernel_rfl) (.rnd k) .sc
 refine cndI (fun hb12 => ?_) fun hb12 => ?_
 rintro ⟨⟩
 exact go_retA _ _ (runS 300 (o6 ++ [pb hb8, pb hb9, pb hb10, pb hb11, pb hb12])) (by kernel_rfl) (.rnd k) .sc
 refine cndI (fun hb13 => ?_) fun hb13 => ?_
 rintro ⟨⟩
 exact go_retA _ _ (runS 300 (o6 ++ [pb hb8, pb hb9, pb hb10, pb hb11, pb hb12, pb hb13])) (by kernel_rfl) (.rnd k) .sc
 refine bndI fun res hres h => ?_
 have hlen := (limE hres).1
 replace hres := (limE hres).2
 refine go_at [] [0, 1, 2, 3, 4, 5, 9, 10, 11, 14, 15, 16, 17, 21, 22, 27, 34, 37, 38, 41, 42, 43, 46, 47, 48, 54, 55, 56, 61, 68, 69, 70, 73, 74, 75, 78, 79, 82, 83, 88, 89, 90, 93, 94, 95, 98, 99, 100, 103, 104, 109, 112, 117, 118, 119, 120, 127, 128, 133, 136, 143, 144, 146, 147, 148, 149, 160, 161] 2 (sub B23 [1, 1, 0, 1, 0, 0, 1, 0, 0, 1, 1, 1, 0, 1, 0, 0]) [.code (sub B23 [1, 1, 0, 1, 0, 0, 1, 0, 0, 1, 1, 1, 1]), .endb 1, .code (sub B23 [1, 1, 0, 1, 0, 0, 1, 1])] _ _ (runS 300 (o6 ++ [pb hb8, pb hb9, pb hb10, pb hb11, pb hb12, pb hb13])) (by kernel_rfl) (foldP (fn := Tryz.f23) (m := 0) (fun v => .sc (.bool v)) 2 e0.wh (fun i1 (_ : Unit) (j1 : JJ) => frm 162 0 [(1, .ptr 0 0), (3, .sc (.int .i64 ((i0 : Nat) : Int))), (4, .ptr 1 0), (5, .sc (.int .i64 ((i1 : Nat) : Int)))] [2, 9, 10, 11, 14, 15, 16, 17, 21, 22, 27, 37, 38, 41, 42, 43, 46, 47, 48, 54, 55, 56, 68, 69, 70, 73, 74, 75, 78, 79, 82, 83, 88, 89, 90, 93, 94, 95, 98, 99, 100, 103, 104, 109, 118, 119, 120, 127, 128, 133, 143, 147, 148, 149, 160, 161] 0 [0, 34, 61, 112, 117, 136, 144, 146] 0 j1) (fun (_ : Nat) (_ : Unit) (_ : JJ) => ⟨[(1, .cells (arC e0)), (0, .cells (coC c))], 2, [], 0⟩) (fun (j : JJ) => plainL j.2 = true) (fun (_ : Unit) (jx : JJ) => frm 162 0 [(1, .ptr 0 0), (3, .sc (.int .i64 ((i0 : Nat) : Int))), (4, .ptr 1 0)] [2, 9, 10, 11, 14, 15, 16, 17, 21, 22, 27, 37, 38, 41, 42, 43, 46, 47, 48, 54, 55, 56, 68, 69, 70, 73, 74, 75, 78, 79, 82, 83, 88, 89, 90, 93, 94, 95, 98, 99, 100, 103, 104, 109, 118, 119, 120, 127, 128, 133, 143, 147, 148, 149, 160, 161] 0 [0, 34, 61, 112, 117, 136, 144, 146] 0 jx) (fun (_ : Unit) (_ : JJ) => ⟨[(1, .cells (arC e0)), (0, .cells (coC c))], 2, [], 0⟩) (fun (j : JJ) => plainL j.2 = true) ?_ ?_ 0 hres ?_ ?_ ([(jn j0 0), (jn j0 1), (jn j0 2), (jn j0 3), (jn j0 4), (jn j0 5), (jn j0 6), (jn j0 7), (jn j0 8), (jn j0 9), .bool true, .bool false, .bool false, .bool false, .bool false, .bool false, .bool false, .bool false, .bool false, .bool false, .bool false, .bool false, .bool false, .bool false, .bool false, .bool false, .bool false, .bool false, .bool false, .bool false, .bool false, .bool false, .bool false, .bool false, .bool false, .bool false, .bool false, .bool false, .bool false, .bool false, .bool false, .bool false, .bool false, (jn j0 43), (jn j0 44), (jn j0 45), (jn j0 46), (jn j0 47), (jn j0 48), (jn j0 49), (jn j0 50), (jn j0 51), (jn j0 52), (jn j0 53), (jn j0 54), (jn j0 55)], [(gn j0 0), .agg (arC e0), .agg (coC c), (gn j0 3), (gn j0 4), (gn j0 5), (gn j0 6), (gn j0 7)]) (plC (gn_pl hj0 0) (plC (layAr.plG e0) (plC (layCo.plG c) (plC (gn_pl hj0 3) (plC (gn_pl hj0 4) (plC (gn_pl hj0 5) (plC (gn_pl hj0 6) (plC (gn_pl hj0 7) rfl)))))))))
 rintro i1 ⟨⟩ j1 hj1 hge hq
 clear h hres
 refine WL_rnd ?_
 exact go_ex Hd.plainG [1, 2, 4, 6, 8, 18, 20, 22, 28, 30, 32, 34, 42, 44, 54, 69, 74, 76, 82, 84, 86, 92, 94, 96, 108, 110, 112, 123, 136, 138, 140, 146, 148, 150, 156, 158, 164, 166, 176, 178, 180, 186, 188, 190, 196, 198, 200, 206, 208, 218, 225, 235, 236, 238, 240, 254, 256, 266, 273, 286, 289, 293, 294, 296, 298, 320, 322] [fq (gn_pl hj1 0), fq (gn_pl hj1 1), fq (gn_pl hj1 2), fq (gn_pl hj1 3), fq (gn_pl hj1 4), fq (gn_pl hj1 5), fq (gn_pl hj1 6), fq (gn_pl hj1 7)] [fbp (arC e0) (layAr.pl e0), fbp (coC c) (layCo.pl c)] 2 _ _ (runS 300 [pb (B := ltI ((i1 : Nat) : Int) ((e0.wh.length : Nat) : Int)) (b := false) (ltF hge)]) (by kernel_rfl) (hq ([(jn j1 0), (jn j1 1), (jn j1 2), (jn j1 3), (jn j1 4), (jn j1 5), (jn j1 6), (jn j1 7), (jn j1 8), (jn j1 9), (jn j1 10), (jn j1 11), (jn j1 12), (jn j1 13), (jn j1 14), (jn j1 15), (jn j1 16), (jn j1 17), (jn j1 18), (jn j1 19), (jn j1 20), (jn j1 21), (jn j1 22), (jn j1 23), (jn j1 24), (jn j1 25), (jn j1 26), (jn j1 27), (jn j1 28), (jn j1 29), (jn j1 30), (jn j1 31), (jn j1 32), (jn j1 33), (jn j1 34), (jn j1 35), (jn j1 36), (jn j1 37), (jn j1 38), (jn j1 39), (jn j1 40), (jn j1 41), (jn j1 42), .bool false, (jn j1 44), (jn j1 45), (jn j1 46), (jn j1 47), (jn j1 48), (jn j1 49), (jn j1 50), (jn j1 51), (jn j1 52), (jn j1 53), (jn j1 54), (jn j1 55)], [(gn j1 0), (gn j1 1), (gn j1 2), (gn j1 3), (gn j1 4), (gn j1 5), (gn j1 6), (gn j1 7)]) (plC (gn_pl hj1 0) (plC (gn_pl hj1 1) (plC (gn_pl hj1 2) (plC (gn_pl hj1 3) (plC (gn_pl hj1 4) (plC (gn_pl hj1 5) (plC (gn_pl hj1 6) (plC (gn_pl hj1 7) rfl)))))))))
 clear h hres
 rintro i1 e1 ⟨⟩ j1 r hj1 he1 hi1 h k
 refine WL_rnd ?_
 revert h
 show ref10_Valid_L2  c i1 e1  = some r → _
 unfold ref10_Valid_L2
 refine bndI fun y5 hy5 => ?_
 let o7 : List (PC P G) := [pb (B := ltI ((i1 : Nat) : Int) ((e0.wh.length : Nat) : Int)) (b := true) (ltT hi1), pix (ix58 .lost he1)]
 refine cndI (fun hv => ?_) fun hv => ?_
 subst hv
 refine cndI (fun hb14 => ?_) fun hb14 => ?_
 rintro ⟨⟩
 exact go_nx Hd.plainG [1, 2, 4, 6, 8, 10, 18, 20, 22, 28, 30, 32, 34, 42, 44, 54, 69, 74, 76, 82, 84, 86, 92, 94, 96, 108, 110, 112, 123, 136, 138, 140, 146, 148, 150, 156, 158, 164, 166, 176, 178, 180, 186, 188, 190, 196, 198, 200, 206, 208, 218, 225, 235, 236, 238, 240, 254, 256, 266, 273, 286, 289, 293, 294, 296, 298, 320, 322] [fq (gn_pl hj1 0), fq (gn_pl hj1 1), fq (gn_pl hj1 2), fq (layCo.plG c), fq (layEx.plG e1), fq (gn_pl hj1 5), fq (gn_pl hj1 6), fq (gn_pl hj1 7)] [fbp (arC e0) (layAr.pl e0), fbp (coC c) (layCo.pl c)] _ _ (runS 300 (o7 ++ [pcall (ref10_Fits_step c e1 true hy5), pix (ix58 .lost he1), pn hb14, pinc i1 (by omega)])) (by kernel_rfl) (k ([(jn j1 0), (jn j1 1), (jn j1 2), (jn j1 3), (jn j1 4), (jn j1 5), (jn j1 6), (jn j1 7), (jn j1 8), (jn j1 9), (jn j1 10), (jn j1 11), (jn j1 12), (jn j1 13), (jn j1 14), (jn j1 15), (jn j1 16), (jn j1 17), (jn j1 18), (jn j1 19), (jn j1 20), (jn j1 21), (jn j1 22), (jn j1 23), (jn j1 24), (jn j1 25), (jn j1 26), (jn j1 27), (jn j1 28), (jn j1 29), (jn j1 30), (jn j1 31), (jn j1 32), (jn j1 33), (jn j1 34), (jn j1 35), (jn j1 36), (jn j1 37), (jn j1 38), (jn j1 39), (jn j1 40), (jn j1 41), (jn j1 42), .bool true, .bool true, .bool false, .bool false, .bool false, .bool false, (jn j1 49), (jn j1 50), (jn j1 51), (jn j1 52), (jn j1 53), (jn j1 54), (jn j1 55)], [(gn j1 0), (gn j1 1), (gn j1 2), .agg (coC c), .agg (exC e1), (gn j1 5), (gn j1 6), (gn j1 7)]) (plC (gn_pl hj1 0) (plC (gn_pl hj1 1) (plC (gn_pl hj1 2) (plC (layCo.plG c) (plC (layEx.plG e1) (plC (gn_pl hj1 5) (plC (gn_pl hj1 6) (plC (gn_pl hj1 7) rfl)))))))))
 rintro ⟨⟩
 exact go_retA _ _ (runS 300 (o7 ++ [pcall (ref10_Fits_step c e1 true hy5), pix (ix58 .lost he1), pn hb14])) (by kernel_rfl) (.rnd k) .sc
 subst hv
 rintro ⟨⟩
 exact go_retA _ _ (runS 300 (o7 ++ [pcall (ref10_Fits_step c e1 false hy5)])) (by kernel_rfl) (.rnd k) .sc
 rintro ⟨⟩ rfl jx_6 hjx_6
 revert h
 clear hres
 dsimp only [lpK]
 refine bndI fun res hres h => ?_
 have hlen := (limE hres).1
 replace hres := (limE hres).2
 refine go_at [] [0, 1, 2, 3, 4, 6, 9, 10, 11, 14, 15, 16, 17, 21, 22, 27, 34, 37, 38, 41, 42, 43, 46, 47, 48, 54, 55, 56, 61, 68, 69, 70, 73, 74, 75, 78, 79, 82, 83, 88, 89, 90, 93, 94, 95, 98, 99, 100, 103, 104, 109, 112, 117, 118, 119, 120, 127, 128, 133, 136, 143, 144, 146, 147, 148, 149, 160, 161] 4 (sub B23 [1, 1, 0, 1, 0, 0, 1, 0, 0, 1, 1, 1, 1, 0, 1, 0, 0]) [.code (sub B23 [1, 1, 0, 1, 0, 0, 1, 0, 0, 1, 1, 1, 1, 1]), .endb 1, .code (sub B23 [1, 1, 0, 1, 0, 0, 1, 1])] _ _ (runX 300 []) (by kernel_rfl) (foldP (fn := Tryz.f23) (m := 0) (fun v => .sc (.bool v)) 4 e0.un (fun i2 (_ : Unit) (j2 : JJ) => frm 162 0 [(1, .ptr 0 0), (3, .sc (.int .i64 ((i0 : Nat) : Int))), (4, .ptr 1 0), (6, .sc (.int .i64 ((i2 : Nat) : Int)))] [2, 9, 10, 11, 14, 15, 16, 17, 21, 22, 27, 37, 38, 41, 42, 43, 46, 47, 48, 54, 55, 56, 68, 69, 70, 73, 74, 75, 78, 79, 82, 83, 88, 89, 90, 93, 94, 95, 98, 99, 100, 103, 104, 109, 118, 119, 120, 127, 128, 133, 143, 147, 148, 149, 160, 161] 0 [0, 34, 61, 112, 117, 136, 144, 146] 0 j2) (fun (_ : Nat) (_ : Unit) (_ : JJ) => ⟨[(1, .cells (arC e0)), (0, .cells (coC c))], 2, [], 0⟩) (fun (j : JJ) => plainL j.2 = true) (fun (_ : Unit) (jx : JJ) => frm 162 0 [(1, .ptr 0 0), (3, .sc (.int .i64 ((i0 : Nat) : Int))), (4, .ptr 1 0)] [2, 9, 10, 11, 14, 15, 16, 17, 21, 22, 27, 37, 38, 41, 42, 43, 46, 47, 48, 54, 55, 56, 68, 69, 70, 73, 74, 75, 78, 79, 82, 83, 88, 89, 90, 93, 94, 95, 98, 99, 100, 103, 104, 109, 118, 119, 120, 127, 128, 133, 143, 147, 148, 149, 160, 161] 0 [0, 34, 61, 112, 117, 136, 144, 146] 0 jx) (fun (_ : Unit) (_ : JJ) => ⟨[(1, .cells (arC e0)), (0, .cells (coC c))], 2, [], 0⟩) (fun (j : JJ) => plainL j.2 = true) ?_ ?_ 0 hres ?_ ?_ ([(jn jx_6 0), (jn jx_6 1), (jn jx_6 2), (jn jx_6 3), (jn jx_6 4), (jn jx_6 5), (jn jx_6 6), (jn jx_6 7), (jn jx_6 8), (jn jx_6 9), (jn jx_6 10), (jn jx_6 11), (jn jx_6 12), (jn jx_6 13), (jn jx_6 14), (jn jx_6 15), (jn jx_6 16), (jn jx_6 17), (jn jx_6 18), (jn jx_6 19), (jn jx_6 20), (jn jx_6 21), (jn jx_6 22), (jn jx_6 23), (jn jx_6 24), (jn jx_6 25), (jn jx_6 26), (jn jx_6 27), (jn jx_6 28), (jn jx_6 29), (jn jx_6 30), (jn jx_6 31), (jn jx_6 32), (jn jx_6 33), (jn jx_6 34), (jn jx_6 35), (jn jx_6 36), (jn jx_6 37), (jn jx_6 38), (jn jx_6 39), (jn jx_6 40), (jn jx_6 41), (jn jx_6 42), (jn jx_6 43), (jn jx_6 44), (jn jx_6 45), (jn jx_6 46), (jn jx_6 47), (jn jx_6 48), (jn jx_6 49), (jn jx_6 50), (jn jx_6 51), (jn jx_6 52), (jn jx_6 53), (jn jx_6 54), (jn jx_6 55)], [(gn jx_6 0), (gn jx_6 1), (gn jx_6 2), (gn jx_6 3), (gn jx_6 4), (gn jx_6 5), (gn jx_6 6), (gn jx_6 7)]) (plC (gn_pl hjx_6 0) (plC (gn_pl hjx_6 1) (plC (gn_pl hjx_6 2) (plC (gn_pl hjx_6 3) (plC (gn_pl hjx_6 4) (plC (gn_pl hjx_6 5) (plC (gn_pl hjx_6 6) (plC (gn_pl hjx_6 7) rfl)))))))))
 rintro i2 ⟨⟩ j2 hj2 hge hq
 clear h hres
 refine WL_rnd ?_
 exact go_ex Hd.plainG [1, 2, 4, 6, 8, 18, 20, 22, 28, 30, 32, 34, 42, 44, 54, 69, 74, 76, 82, 84, 86, 92, 94, 96, 108, 110, 112, 123, 136, 138, 140, 146, 148, 150, 156, 158, 164, 166, 176, 178, 180, 186, 188, 190, 196, 198, 200, 206, 208, 218, 225, 235, 236, 238, 240, 254, 256, 266, 273, 286, 289, 293, 294, 296, 298, 320, 322] [fq (gn_pl hj2 0), fq (gn_pl hj2 1), fq (gn_pl hj2 2), fq (gn_pl hj2 3), fq (gn_pl hj2 4), fq (gn_pl hj2 5), fq (gn_pl hj2 6), fq (gn_pl hj2 7)] [fbp (arC e0) (layAr.pl e0), fbp (coC c) (layCo.pl c)] 4 _ _ (runS 300 [pb (B := ltI ((i2 : Nat) : Int) ((e0.un.length : Nat) : Int)) (b := false) (ltF hge)]) (by kernel_rfl) (hq ([(jn j2 0), (jn j2 1), (jn j2 2), (jn j2 3), (jn j2 4), (jn j2 5), (jn j2 6), (jn j2 7), (jn j2 8), (jn j2 9), (jn j2 10), (jn j2 11), (jn j2 12), (jn j2 13), (jn j2 14), (jn j2 15), (jn j2 16), (jn j2 17), (jn j2 18), (jn j2 19), (jn j2 20), (jn j2 21), (jn j2 22), (jn j2 23), (jn j2 24), (jn j2 25), (jn j2 26), (jn j2 27), (jn j2 28), (jn j2 29), (jn j2 30), (jn j2 31), (jn j2 32), (jn j2 33), (jn j2 34), (jn j2 35), (jn j2 36), (jn j2 37), (jn j2 38), (jn j2 39), (jn j2 40), (jn j2 41), (jn j2 42), (jn j2 43), (jn j2 44), (jn j2 45), (jn j2 46), (jn j2 47), (jn j2 48), .bool false, (jn j2 50), (jn j2 51), (jn j2 52), (jn j2 53), (jn j2 54), (jn j2 55)], [(gn j2 0), (gn j2 1), (gn j2 2), (gn j2 3), (gn j2 4), (gn j2 5), (gn j2 6), (gn j2 7)]) (plC (gn_pl hj2 0) (plC (gn_pl hj2 1) (plC (gn_pl hj2 2) (plC (gn_pl hj2 3) (plC (gn_pl hj2 4) (plC (gn_pl hj2 5) (plC (gn_pl hj2 6) (plC (gn_pl hj2 7) rfl)))))))))
 clear h hres
 rintro i2 e2 ⟨⟩ j2 r hj2 he2 hi2 h k
 refine WL_rnd ?_
 revert h
 show ref10_Valid_L3  c i2 e2  = some r → _
 unfold ref10_Valid_L3
 refine bndI fun y7 hy7 => ?_
 let o8 : List (PC P G) := [pb (B := ltI ((i2 : Nat) : Int) ((e0.un.length : Nat) : Int)) (b := true) (ltT hi2), pix (ix40 .lost he2), pcall (ref10_numbered_step c e2 y7 hy7)]
 refine cndI (fun hb15 => ?_) fun hb15 => ?_
 rintro ⟨⟩
 exact go_retA _ _ (runS 300 (o8 ++ [pb hb15])) (by kernel_rfl) (.rnd k) .sc
 rintro ⟨⟩
 exact go_nx Hd.plainG [1, 2, 4, 6, 8, 12, 18, 20, 22, 28, 30, 32, 34, 42, 44, 54, 69, 74, 76, 82, 84, 86, 92, 94, 96, 108, 110, 112, 123, 136, 138, 140, 146, 148, 150, 156, 158, 164, 166, 176, 178, 180, 186, 188, 190, 196, 198, 200, 206, 208, 218, 225, 235, 236, 238, 240, 254, 256, 266, 273, 286, 289, 293, 294, 296, 298, 320, 322] [fq (gn_pl hj2 0), fq (gn_pl hj2 1), fq (gn_pl hj2 2), fq (gn_pl hj2 3), fq (gn_pl hj2 4), fq (layCo.plG c), fq (gn_pl hj2 6), fq (gn_pl hj2 7)] [fbp (arC e0) (layAr.pl e0), fbp (coC c) (layCo.pl c)] _ _ (runS 300 (o8 ++ [pb hb15, pinc i2 (by omega)])) (by kernel_rfl) (k ([(jn j2 0), (jn j2 1), (jn j2 2), (jn j2 3), (jn j2 4), (jn j2 5), (jn j2 6), (jn j2 7), (jn j2 8), (jn j2 9), (jn j2 10), (jn j2 11), (jn j2 12), (jn j2 13), (jn j2 14), (jn j2 15), (jn j2 16), (jn j2 17), (jn j2 18), (jn j2 19), (jn j2 20), (jn j2 21), (jn j2 22), (jn j2 23), (jn j2 24), (jn j2 25), (jn j2 26), (jn j2 27), (jn j2 28), (jn j2 29), (jn j2 30), (jn j2 31), (jn j2 32), (jn j2 33), (jn j2 34), (jn j2 35), (jn j2 36), (jn j2 37), (jn j2 38), (jn j2 39), (jn j2 40), (jn j2 41), (jn j2 42), (jn j2 43), (jn j2 44), (jn j2 45), (jn j2 46), (jn j2 47), (jn j2 48), .bool true, .bool false, (jn j2 51), (jn j2 52), (jn j2 53), (jn j2 54), (jn j2 55)], [(gn j2 0), (gn j2 1), (gn j2 2), (gn j2 3), (gn j2 4), .agg (coC c), (gn j2 6), (gn j2 7)]) (plC (gn_pl hj2 0) (plC (gn_pl hj2 1) (plC (gn_pl hj2 2) (plC (gn_pl hj2 3) (plC (gn_pl hj2 4) (plC (layCo.plG c) (plC (gn_pl hj2 6) (plC (gn_pl hj2 7) rfl)))))))))
 rintro ⟨⟩ rfl jx_8 hjx_8
 revert h
 clear hres
 dsimp only [lpK]
 refine bndI fun y9 hy9 => ?_
 refine cndI (fun hv => ?_) fun hv => ?_
 subst hv
 refine bndI fun x10 hx10 => ?_
 refine cndI (fun hb16 => ?_) fun hb16 => ?_
 rintro ⟨⟩
 exact go_nx Hd.plainG [1, 2, 4, 6, 18, 20, 22, 28, 30, 32, 34, 42, 44, 54, 69, 74, 76, 82, 84, 86, 92, 94, 96, 108, 110, 112, 123, 136, 138, 140, 146, 148, 150, 156, 158, 164, 166, 176, 178, 180, 186, 188, 190, 196, 198, 200, 206, 208, 218, 225, 235, 236, 238, 240, 254, 256, 266, 273, 286, 289, 293, 294, 296, 298, 320, 322] [fq (gn_pl hjx_8 0), fq (gn_pl hjx_8 1), fq (gn_pl hjx_8 2), fq (gn_pl hjx_8 3), fq (gn_pl hjx_8 4), fq (gn_pl hjx_8 5), fq (layCo.plG c), fq (layEx.plG e0.am)] [fbp (coC c) (layCo.pl c)] _ _ (runX 300 [pcall (ref10_Fits_step c e0.am true hy9), pix (ixz28 .lost hx10), pn hb16, pinc i0 (by omega)]) (by kernel_rfl) (k ([(jn jx_8 0), (jn jx_8 1), (jn jx_8 2), (jn jx_8 3), (jn jx_8 4), (jn jx_8 5), (jn jx_8 6), (jn jx_8 7), (jn jx_8 8), (jn jx_8 9), (jn jx_8 10), (jn jx_8 11), (jn jx_8 12), (jn jx_8 13), (jn jx_8 14), (jn jx_8 15), (jn jx_8 16), (jn jx_8 17), (jn jx_8 18), (jn jx_8 19), (jn jx_8 20), (jn jx_8 21), (jn jx_8 22), (jn jx_8 23), (jn jx_8 24), (jn jx_8 25), (jn jx_8 26), (jn jx_8 27), (jn jx_8 28), (jn jx_8 29), (jn jx_8 30), (jn jx_8 31), (jn jx_8 32), (jn jx_8 33), (jn jx_8 34), (jn jx_8 35), (jn jx_8 36), (jn jx_8 37), (jn jx_8 38), (jn jx_8 39), (jn jx_8 40), (jn jx_8 41), (jn jx_8 42), (jn jx_8 43), (jn jx_8 44), (jn jx_8 45), (jn jx_8 46), (jn jx_8 47), (jn jx_8 48), (jn jx_8 49), (jn jx_8 50), .bool true, .bool false, .bool false, .bool false, .bool false], [(gn jx_8 0), (gn jx_8 1), (gn jx_8 2), (gn jx_8 3), (gn jx_8 4), (gn jx_8 5), .agg (coC c), .agg (exC e0.am)]) (plC (gn_pl hjx_8 0) (plC (gn_pl hjx_8 1) (plC (gn_pl hjx_8 2) (plC (gn_pl hjx_8 3) (plC (gn_pl hjx_8 4) (plC (gn_pl hjx_8 5) (plC (layCo.plG c) (plC (layEx.plG e0.am) rfl)))))))))
 rintro ⟨⟩
 exact go_retA _ _ (runX 300 [pcall (ref10_Fits_step c e0.am true hy9), pix (ixz28 .lost hx10), pn hb16]) (by kernel_rfl) (.rnd k) .sc
 subst hv
 rintro ⟨⟩
 exact go_retA _ _ (runX 300 [pcall (ref10_Fits_step c e0.am false hy9)]) (by kernel_rfl) (.rnd k) .sc
 rintro v rfl
 dsimp only [lpK] at h
 cases h
 exact .outer (.rnd k)
 rintro v rfl
 dsimp only [lpK] at h
 cases h
 exact .outer (.rnd k)
 rintro ⟨⟩
 exact go_retA _ _ (runS 300 (o5 ++ [pn hb6])) (by kernel_rfl) (.rnd k) .sc
 rintro ⟨⟩ rfl jx_11 hjx_11
 revert h
 clear hres
 dsimp only [lpK]
 intro h
 have hE := Option.some.inj h
 subst hE
 exact go_retA _ _ (runX 300 []) (by kernel_rfl) .body .sc
 rintro v rfl
 dsimp only [lpK] at h
 cases h
 exact .outer .body
 subst hv
 rintro ⟨⟩
 exact rS (runS 300 (o1 ++ [pcall (ref10_decls_step c.lines 1 4 false hy2)])) (by kernel_rfl)
 subst hv
 rintro ⟨⟩
 exact rS (runS 300 [pcall (ref10_decls_step c.facts 0 0 false hy1)]) (by kernel_rfl)
noncomputable def B100 : Code := bodyOf Tryz.f100
theorem b100 : Tryz.f100.body = some B100 := by kernel_rfl
noncomputable def api_Piece_L1  (s2 : (List Pc)) (i0 : Nat) (e0 : Pc)  : Option (Lp Unit Unit Bool) := (s2[i0]?).bind fun x1 => cond (samePc e0 x1) (some (.nx ())) (some (.rt false))
noncomputable def api_Piece_B  (s1 : (List Pc)) (s2 : (List Pc)) : Option Bool := cond (eqI ((s1.length : Nat) : Int) ((s2.length : Nat) : Int)) ((lim s1.length (foldL (fun i y x => api_Piece_L1  s2 i y ) (fun x => ()) (s1.drop 0) 0 ())).bind (lpK (fun (_ : Unit) => some true) (fun v => some v))) (some false)
theorem api_Piece_step   (s1 : (List Pc)) (s2 : (List Pc)) (yR : Bool) (h : api_Piece_B  s1 s2 = some yR) : Pure P G 100 [.sl .lost s1.length (rows pcC s1), .sl .lost s2.length (rows pcC s2)] (.sc (.bool yR)) := by
 unfold api_Piece_B at h
 refine pureM Hd.mixed Hd.plainG (WC_body Tryz.func100 b100 ?_) (plC (layPc.plS s1) (plC (layPc.plS s2) rfl)) rfl
 revert h
 refine cndI (fun hb1 => ?_) fun hb1 => ?_
 refine bndI fun res hres h => ?_
 have hlen := (limE hres).1
 replace hres := (limE hres).2
 refine go_at [] [0, 1, 4, 10, 12, 13, 14, 19, 23, 24] 0 (sub B100 [1, 1, 0, 1, 0, 0]) [.code (sub B100 [1, 1, 1])] _ _ (runS 300 [pn hb1]) (by kernel_rfl) (foldP (fn := Tryz.f100) (m := 0) (fun v => .sc (.bool v)) 0 s1 (fun i0 (_ : Unit) (j0 : JJ) => frm 26 0 [(0, .sl .lost s1.length (rows pcC s1)), (1, .sl .lost s2.length (rows pcC s2)), (12, .sc (.int .i64 ((s1.length : Nat) : Int))), (13, .sc (.int .i64 ((i0 : Nat) : Int)))] [4, 10, 14, 24] 0 [19, 23] 0 j0) (fun (_ : Nat) (_ : Unit) (_ : JJ) => ⟨[], 0, [], 0⟩) (fun (j : JJ) => plainL j.2 = true) (fun (_ : Unit) (jx : JJ) => frm 26 0 [] [4, 10, 14, 24] 0 [19, 23] 0 jx) (fun (_ : Unit) (_ : JJ) => ⟨[], 0, [], 0⟩) (fun (j : JJ) => plainL j.2 = true) ?_ ?_ 0 hres ?_ ?_ ([.bool false, .bool false], [.sc undef, .sc undef]) (plC rfl (plC rfl rfl)))
 rintro i0 ⟨⟩ j0 hj0 hge hq
 clear h hres
 refine WL_rnd ?_
 exact go_ex Hd.plainG [8, 20, 28, 39, 47, 48] [fq (gn_pl hj0 0), fq (gn_pl hj0 1)] [] 0 _ _ (runS 300 [pb (B := ltI ((i0 : Nat) : Int) ((s1.length : Nat) : Int)) (b := false) (ltF hge)]) (by kernel_rfl) (hq ([(jn j0 0), (jn j0 1), .bool false, (jn j0 3)], [(gn j0 0), (gn j0 1)]) (plC (gn_pl hj0 0) (plC (gn_pl hj0 1) rfl)))
 clear h hres
 rintro i0 e0 ⟨⟩ j0 r hj0 he0 hi0 h k
 refine WL_rnd ?_
 revert h
 show api_Piece_L1  s2 i0 e0  = some r → _
 unfold api_Piece_L1
 refine bndI fun x1 hx1 => ?_
 refine cndI (fun hb2 => ?_) fun hb2 => ?_
 rintro ⟨⟩
 exact go_nx Hd.plainG [1, 3, 8, 20, 24, 26, 28, 39, 47, 48] [fq (layPc.plS s1), fq (layPc.plS s2), fq (layPc.plG e0), fq (layPc.plG x1)] [] _ _ (runS 300 [pb (B := ltI ((i0 : Nat) : Int) ((s1.length : Nat) : Int)) (b := true) (ltT hi0), pix (ix22 .lost he0), pix (ix22 .lost hx1), pbin (neq138 hb2 (.tmp 19) (.tmp 23)), pinc i0 (by omega)]) (by kernel_rfl) (k ([(jn j0 0), (jn j0 1), .bool true, .bool false], [.agg (pcC e0), .agg (pcC x1)]) (plC (layPc.plG e0) (plC (layPc.plG x1) rfl)))
 rintro ⟨⟩
 exact go_retA _ _ (runS 300 [pb (B := ltI ((i0 : Nat) : Int) ((s1.length : Nat) : Int)) (b := true) (ltT hi0), pix (ix22 .lost he0), pix (ix22 .lost hx1), pbin (neq138 hb2 (.tmp 19) (.tmp 23))]) (by kernel_rfl) (.rnd k) .sc
 rintro ⟨⟩ rfl jx_2 hjx_2
 revert h
 clear hres
 dsimp only [lpK]
 intro h
 have hE := Option.some.inj h
 subst hE
 exact go_retA _ _ (runX 300 []) (by kernel_rfl) .body .sc
 rintro v rfl
 dsimp only [lpK] at h
 cases h
 exact .outer .body
 rintro ⟨⟩
 exact rS (runS 300 [pn hb1]) (by kernel_rfl)
noncomputable def B61 : Code := bodyOf Tryz.f61
theorem b61 : Tryz.f61.body = some B61 := by kernel_rfl
noncomputable def codex_equal_B (r_codex_equal : Ex → Ex → Option Bool) (r_api_Exprxx_equal : (List Ex) → (List Ex) → Option Bool) (a : Ex) (b : Ex) : Option Bool := cond (eqI a.op b.op) (cond (eqI a.n b.n) (cond (eqB a.unit.data.toList b.unit.data.toList) (cond (eqI a.tab.den b.tab.den) ((api_Piece_B a.tab.ps b.tab.ps).bind fun y1 => cond y1 ((r_api_Exprxx_equal a.kids b.kids).bind fun y2 => some y2) (some false)) (some false)) (some false)) (some false)) (some false)
theorem codex_equal_step (r_codex_equal : Ex → Ex → Option Bool) (r_api_Exprxx_equal : (List Ex) → (List Ex) → Option Bool) (hr_codex_equal : ∀ (a : Ex) (b : Ex) (yR : Bool), r_codex_equal a b = some yR → Pure P G 61 [.agg (exC a), .agg (exC b)] (.sc (.bool yR))) (hr_api_Exprxx_equal : ∀ (s1 : (List Ex)) (s2 : (List Ex)) (yR : Bool), r_api_Exprxx_equal s1 s2 = some yR → Pure P G 101 [.sl .lost s1.length (exsC s1), .sl .lost s2.length (exsC s2), .fn (.func 61) [] []] (.sc (.bool yR))) (a : Ex) (b : Ex) (yR : Bool) (h : codex_equal_B r_codex_equal r_api_Exprxx_equal a b = some yR) : Pure P G 61 [.agg (exC a), .agg (exC b)] (.sc (.bool yR)) := by
 unfold codex_equal_B at h
 refine pureM Hd.mixed Hd.plainG (WC_body Tryz.func61 b61 ?_) (plC (layEx.plG a) (plC (layEx.plG b) rfl)) rfl
 revert h
 refine cndI (fun hb1 => ?_) fun hb1 => ?_
 refine cndI (fun hb2 => ?_) fun hb2 => ?_
 refine cndI (fun hb3 => ?_) fun hb3 => ?_
 refine cndI (fun hb4 => ?_) fun hb4 => ?_
 refine bndI fun y1 hy1 => ?_
 refine cndI (fun hv => ?_) fun hv => ?_
 subst hv
 refine bndI fun y2 hy2 => ?_
 intro h
 have hE := Option.some.inj h
 subst hE
 exact rS (runS 300 [pn hb1, pn hb2, pn hb3, pn hb4, pcall (api_Piece_step a.tab.ps b.tab.ps true hy1), pcall (hr_api_Exprxx_equal a.kids b.kids y2 hy2)]) (by kernel_rfl)
 subst hv
 rintro ⟨⟩
 exact rS (runS 300 [pn hb1, pn hb2, pn hb3, pn hb4, pcall (api_Piece_step a.tab.ps b.tab.ps false hy1)]) (by kernel_rfl)
 rintro ⟨⟩
 exact rS (runS 300 [pn hb1, pn hb2, pn hb3, pn hb4]) (by kernel_rfl)
 rintro ⟨⟩
 exact rS (runS 300 [pn hb1, pn hb2, pn hb3]) (by kernel_rfl)
 rintro ⟨⟩
 exact rS (runS 300 [pn hb1, pn hb2]) (by kernel_rfl)
 rintro ⟨⟩
 exact rS (runS 300 [pn hb1]) (by kernel_rfl)
noncomputable def B101 : Code := bodyOf Tryz.f101
theorem b101 : Tryz.f101.body = some B101 := by kernel_rfl
noncomputable def api_Exprxx_equal_L1 (r_codex_equal : Ex → Ex → Option Bool) (r_api_Exprxx_equal : (List Ex) → (List Ex) → Option Bool) (s2 : (List Ex)) (i0 : Nat) (e0 : Ex)  : Option (Lp Unit Unit Bool) := (s2[i0]?).bind fun x1 => (r_codex_equal e0 x1).bind fun y2 => cond y2 (some (.nx ())) (some (.rt false))
noncomputable def api_Exprxx_equal_B (r_codex_equal : Ex → Ex → Option Bool) (r_api_Exprxx_equal : (List Ex) → (List Ex) → Option Bool) (s1 : (List Ex)) (s2 : (List Ex)) : Option Bool := cond (eqI ((s1.length : Nat) : Int) ((s2.length : Nat) : Int)) ((lim s1.length (foldL (fun i y x => api_Exprxx_equal_L1 r_codex_equal r_api_Exprxx_equal s2 i y ) (fun x => ()) (s1.drop 0) 0 ())).bind (lpK (fun (_ : Unit) => some true) (fun v => some v))) (some false)
theorem api_Exprxx_equal_step (r_codex_equal : Ex → Ex → Option Bool) (r_api_Exprxx_equal : (List Ex) → (List Ex) → Option Bool) (hr_codex_equal : ∀ (a : Ex) (b : Ex) (yR : Bool), r_codex_equal a b = some yR → Pure P G 61 [.agg (exC a), .agg (exC b)] (.sc (.bool yR))) (hr_api_Exprxx_equal : ∀ (s1 : (List Ex)) (s2 : (List Ex)) (yR : Bool), r_api_Exprxx_equal s1 s2 = some yR → Pure P G 101 [.sl .lost s1.length (exsC s1), .sl .lost s2.length (exsC s2), .fn (.func 61) [] []] (.sc (.bool yR))) (s1 : (List Ex)) (s2 : (List Ex)) (yR : Bool) (h : api_Exprxx_equal_B r_codex_equal r_api_Exprxx_equal s1 s2 = some yR) : Pure P G 101 [.sl .lost s1.length (exsC s1), .sl .lost s2.length (exsC s2), .fn (.func 61) [] []] (.sc (.bool yR)) := by
 unfold api_Exprxx_equal_B at h
 refine pureM Hd.mixed Hd.plainG (WC_body Tryz.func101 b101 ?_) (plC (layEx.plS s1) (plC (layEx.plS s2) (plC (plFn rfl rfl) rfl))) rfl
 revert h
 refine cndI (fun hb1 => ?_) fun hb1 => ?_
 refine bndI fun res hres h => ?_
 have hlen := (limE hres).1
 replace hres := (limE hres).2
 refine go_at [] [1, 2, 6, 14, 15, 16, 17, 18, 21, 25, 27, 28, 29, 30] 0 (sub B101 [1, 1, 0, 1, 0, 0]) [.code (sub B101 [1, 1, 1])] _ _ (runS 300 [pn hb1]) (by kernel_rfl) (foldP (fn := Tryz.f101) (m := 0) (fun v => .sc (.bool v)) 0 s1 (fun i0 (_ : Unit) (j0 : JJ) => frm 32 0 [(1, .sl .lost s2.length (exsC s2)), (2, .fn (.func 61) [] []), (15, .sl .lost s1.length (exsC s1)), (16, .sc (.int .i64 ((s1.length : Nat) : Int))), (17, .sc (.int .i64 ((i0 : Nat) : Int)))] [6, 14, 18, 29, 30] 0 [21, 25, 27, 28] 0 j0) (fun (_ : Nat) (_ : Unit) (_ : JJ) => ⟨[], 0, [], 0⟩) (fun (j : JJ) => plainL j.2 = true) (fun (_ : Unit) (jx : JJ) => frm 32 0 [] [6, 14, 18, 29, 30] 0 [21, 25, 27, 28] 0 jx) (fun (_ : Unit) (_ : JJ) => ⟨[], 0, [], 0⟩) (fun (j : JJ) => plainL j.2 = true) ?_ ?_ 0 hres ?_ ?_ ([.bool false, .bool false], [.sc undef, .sc undef, .sc undef, .sc undef]) (plC rfl (plC rfl (plC rfl (plC rfl rfl)))))
 rintro i0 ⟨⟩ j0 hj0 hge hq
 clear h hres
 refine WL_rnd ?_
 exact go_ex Hd.plainG [12, 28, 36, 43, 51, 55, 57, 58, 60] [fq (gn_pl hj0 0), fq (gn_pl hj0 1), fq (gn_pl hj0 2), fq (gn_pl hj0 3)] [] 0 _ _ (runS 300 [pb (B := ltI ((i0 : Nat) : Int) ((s1.length : Nat) : Int)) (b := false) (ltF hge)]) (by kernel_rfl) (hq ([(jn j0 0), (jn j0 1), .bool false, (jn j0 3), (jn j0 4)], [(gn j0 0), (gn j0 1), (gn j0 2), (gn j0 3)]) (plC (gn_pl hj0 0) (plC (gn_pl hj0 1) (plC (gn_pl hj0 2) (plC (gn_pl hj0 3) rfl)))))
 clear h hres
 rintro i0 e0 ⟨⟩ j0 r hj0 he0 hi0 h k
 refine WL_rnd ?_
 revert h
 show api_Exprxx_equal_L1 r_codex_equal r_api_Exprxx_equal s2 i0 e0  = some r → _
 unfold api_Exprxx_equal_L1
 refine bndI fun x1 hx1 => ?_
 refine bndI fun y2 hy2 => ?_
 refine cndI (fun hv => ?_) fun hv => ?_
 subst hv
 rintro ⟨⟩
 exact go_nx Hd.plainG [3, 5, 12, 28, 31, 32, 34, 36, 43, 51, 55, 57, 58, 60] [fq (layEx.plS s2), fp (.fn (.func 61) [] []) (plFn rfl rfl), fq (layEx.plS s1), fq (layEx.plG e0), fq (layEx.plG x1), fq (layEx.plG e0), fq (layEx.plG x1)] [] _ _ (runS 300 [pb (B := ltI ((i0 : Nat) : Int) ((s1.length : Nat) : Int)) (b := true) (ltT hi0), pix (ix58 .lost he0), pix (ix58 .lost hx1), pcall (hr_codex_equal e0 x1 true hy2), pinc i0 (by omega)]) (by kernel_rfl) (k ([(jn j0 0), (jn j0 1), .bool true, .bool true, .bool false], [.agg (exC e0), .agg (exC x1), .agg (exC e0), .agg (exC x1)]) (plC (layEx.plG e0) (plC (layEx.plG x1) (plC (layEx.plG e0) (plC (layEx.plG x1) rfl)))))
 subst hv
 rintro ⟨⟩
 exact go_retA _ _ (runS 300 [pb (B := ltI ((i0 : Nat) : Int) ((s1.length : Nat) : Int)) (b := true) (ltT hi0), pix (ix58 .lost he0), pix (ix58 .lost hx1), pcall (hr_codex_equal e0 x1 false hy2)]) (by kernel_rfl) (.rnd k) .sc
 rintro ⟨⟩ rfl jx_3 hjx_3
 revert h
 clear hres
 dsimp only [lpK]
 intro h
 have hE := Option.some.inj h
 subst hE
 exact go_retA _ _ (runX 300 []) (by kernel_rfl) .body .sc
 rintro v rfl
 dsimp only [lpK] at h
 cases h
 exact .outer .body
 rintro ⟨⟩
 exact rS (runS 300 [pn hb1]) (by kernel_rfl)
mutual
noncomputable def codex_equal_M : Nat → Ex → Ex → Option Bool
 | 0, _, _ => none
 | qn + 1, a, b => codex_equal_B (codex_equal_M qn) (api_Exprxx_equal_M qn) a b
noncomputable def api_Exprxx_equal_M : Nat → (List Ex) → (List Ex) → Option Bool
 | 0, _, _ => none
 | qn + 1, s1, s2 => api_Exprxx_equal_B (codex_equal_M qn) (api_Exprxx_equal_M qn) s1 s2
end
theorem codex_equal_all : ∀ qn : Nat, (∀ (a : Ex) (b : Ex) (yR : Bool), codex_equal_M qn a b = some yR → Pure P G 61 [.agg (exC a), .agg (exC b)] (.sc (.bool yR))) ∧ (∀ (s1 : (List Ex)) (s2 : (List Ex)) (yR : Bool), api_Exprxx_equal_M qn s1 s2 = some yR → Pure P G 101 [.sl .lost s1.length (exsC s1), .sl .lost s2.length (exsC s2), .fn (.func 61) [] []] (.sc (.bool yR))) := by
 intro qn
 induction qn with
 | zero => exact ⟨(fun _ _ _ h => by simp only [codex_equal_M] at h; cases h), (fun _ _ _ h => by simp only [api_Exprxx_equal_M] at h; cases h)⟩
 | succ qn ih => exact ⟨(fun a b yR h => codex_equal_step _ _ ih.1 ih.2 a b yR (by rw [codex_equal_M] at h; exact h)), (fun s1 s2 yR h => api_Exprxx_equal_step _ _ ih.1 ih.2 s1 s2 yR (by rw [api_Exprxx_equal_M] at h; exact h))⟩
noncomputable def codex_equal_R (a : Ex) (b : Ex) : Option Bool := evt (fun qn => codex_equal_M qn a b)
theorem codex_equal_ok (a : Ex) (b : Ex) (yR : Bool) (h : codex_equal_R a b = some yR) : Pure P G 61 [.agg (exC a), .agg (exC b)] (.sc (.bool yR)) := by
 obtain ⟨qn, h⟩ := evtE h
 exact (codex_equal_all qn).1 a b yR h
noncomputable def B99 : Code := bodyOf Tryz.f99
theorem b99 : Tryz.f99.body = some B99 := by kernel_rfl
noncomputable def api_Expr_1_equal_B  (element : Ex) (a2 : Ex) : Option Bool := (codex_equal_R element a2).bind fun y1 => some y1
theorem api_Expr_1_equal_U (element : Ex) (a2 : Ex) (yR : Bool) (hS : Sound P G (.call 99 [.agg (exC element), .ptr 0 0, .ptr 1 0] ⟨[(1, .cells (exC a2)), (0, .cells [.fn (.func 61) [] []])], 2, [], 0⟩ (.ret (.sc (.bool yR))) ⟨[(1, .cells (exC a2)), (0, .cells [.fn (.func 61) [] []])], 2, [], 0⟩)) (u0 u1 : Nat) (hnb : [u0, u1].Nodup) (hnt : ([] : List Nat).Nodup) : Cd.ok P G (.callU 99 [.agg (exC element), .ptr u0 0, .ptr u1 0] (.ret (.sc (.bool yR))) [(u0, .cells [.fn (.func 61) [] []]), (u1, .cells (exC a2))] [] [(u0, .cells [.fn (.func 61) [] []]), (u1, .cells (exC a2))] []) :=
 frameU (M := [.cells [.fn (.func 61) [] []], .cells (exC a2)]) (M2 := [.cells [.fn (.func 61) [] []], .cells (exC a2)]) (T := []) (T2 := []) (k := 2) (j := 0) Hd.plainG _ _ _ _ hS rfl rfl rfl rfl rfl hnb hnt rfl rfl (.cons (.cells (.pl (plC (plFn rfl rfl) rfl))) (.cons (.cells (.pl (layEx.pl a2))) .nil)) (.cons (.cells (.pl (plC (plFn rfl rfl) rfl))) (.cons (.cells (.pl (layEx.pl a2))) .nil)) (.cons (.pl (layEx.plG element)) (.cons (.ptr (by decide)) (.cons (.ptr (by decide)) .nil))) (.pl rfl) (by
   intro e he
   simp only [List.mem_cons, List.not_mem_nil, or_false] at he
   rcases he with rfl | rfl
   · exact (.arg (.there (.here .ptr)))
   · exact (.arg (.there (.there (.here .ptr))))
   )
theorem api_Expr_1_equal_step   (element : Ex) (a2 : Ex) (yR : Bool) (h : api_Expr_1_equal_B  element a2 = some yR) : Sound P G (.call 99 [.agg (exC element), .ptr 0 0, .ptr 1 0] ⟨[(1, .cells (exC a2)), (0, .cells [.fn (.func 61) [] []])], 2, [], 0⟩ (.ret (.sc (.bool yR))) ⟨[(1, .cells (exC a2)), (0, .cells [.fn (.func 61) [] []])], 2, [], 0⟩) := by
 unfold api_Expr_1_equal_B at h
 refine soundM Hd.mixed (WC_body Tryz.func99 b99 ?_)
 revert h
 refine bndI fun y1 hy1 => ?_
 intro h
 have hE := Option.some.inj h
 subst hE
 exact go_retM Hd.plainG _ _ [0] [] [fbp (exC a2) (layEx.pl a2), fbp [.fn (.func 61) [] []] (plC (plFn rfl rfl) rfl)] _ _ (runS 300 [pcall (codex_equal_ok element a2 y1 hy1)]) (by kernel_rfl) .body
noncomputable def B147 : Code := bodyOf Tryz.f147
theorem b147 : Tryz.f147.body = some B147 := by kernel_rfl
noncomputable def api_Exprxxx_1_equal_L1  (f : Ex) (i0 : Nat) (e0 : Ex)  : Option (Lp Unit Unit Int) := (api_Expr_1_equal_B e0 f).bind fun y1 => cond y1 (some (.rt ((i0 : Nat) : Int))) (some (.nx ()))
noncomputable def api_Exprxxx_1_equal_B  (s : (List Ex)) (f : Ex) : Option Int := (lim s.length (foldL (fun i y x => api_Exprxxx_1_equal_L1  f i y ) (fun x => ()) (s.drop 0) 0 ())).bind (lpK (fun (_ : Unit) => some (-1)) (fun v => some v))
theorem api_Exprxxx_1_equal_U (s : (List Ex)) (f : Ex) (yR : Int) (hS : Sound P G (.call 147 [.sl .lost s.length (exsC s), .fn (.func 99) [] [.ptr 0 0, .ptr 1 0]] ⟨[(1, .cells (exC f)), (0, .cells [.fn (.func 61) [] []])], 2, [], 0⟩ (.ret (.sc (.int .i64 yR))) ⟨[(1, .cells (exC f)), (0, .cells [.fn (.func 61) [] []])], 2, [], 0⟩)) (u0 u1 : Nat) (hnb : [u0, u1].Nodup) (hnt : ([] : List Nat).Nodup) : Cd.ok P G (.callU 147 [.sl .lost s.length (exsC s), .fn (.func 99) [] [.ptr u0 0, .ptr u1 0]] (.ret (.sc (.int .i64 yR))) [(u0, .cells [.fn (.func 61) [] []]), (u1, .cells (exC f))] [] [(u0, .cells [.fn (.func 61) [] []]), (u1, .cells (exC f))] []) :=
 frameU (M := [.cells [.fn (.func 61) [] []], .cells (exC f)]) (M2 := [.cells [.fn (.func 61) [] []], .cells (exC f)]) (T := []) (T2 := []) (k := 2) (j := 0) Hd.plainG _ _ _ _ hS rfl rfl rfl rfl rfl hnb hnt rfl rfl (.cons (.cells (.pl (plC (plFn rfl rfl) rfl))) (.cons (.cells (.pl (layEx.pl f))) .nil)) (.cons (.cells (.pl (plC (plFn rfl rfl) rfl))) (.cons (.cells (.pl (layEx.pl f))) .nil)) (.cons (.pl (layEx.plS s)) (.cons (.fn (.pl rfl) (.cons (.ptr (by decide)) (.cons (.ptr (by decide)) .nil))) .nil)) (.pl rfl) (by
   intro e he
   simp only [List.mem_cons, List.not_mem_nil, or_false] at he
   rcases he with rfl | rfl
   · exact (.arg (.there (.here (.fn2 (.here .ptr)))))
   · exact (.arg (.there (.here (.fn2 (.there (.here .ptr))))))
   )
theorem api_Exprxxx_1_equal_step   (s : (List Ex)) (f : Ex) (yR : Int) (h : api_Exprxxx_1_equal_B  s f = some yR) : Sound P G (.call 147 [.sl .lost s.length (exsC s), .fn (.func 99) [] [.ptr 0 0, .ptr 1 0]] ⟨[(1, .cells (exC f)), (0, .cells [.fn (.func 61) [] []])], 2, [], 0⟩ (.ret (.sc (.int .i64 yR))) ⟨[(1, .cells (exC f)), (0, .cells [.fn (.func 61) [] []])], 2, [], 0⟩) := by
 unfold api_Exprxxx_1_equal_B at h
 refine soundM Hd.mixed (WC_body Tryz.func147 b147 ?_)
 revert h
 refine bndI fun res hres h => ?_
 have hlen := (limE hres).1
 replace hres := (limE hres).2
 refine go_at [] [0, 1, 7, 8, 9, 15, 16] 0 (sub B147 [1, 0, 1, 0, 0]) [.code (sub B147 [1, 1])] _ _ (runS 300 []) (by kernel_rfl) (foldM (fn := Tryz.f147) (m := 2) (s00 := ⟨[(1, .cells (exC f)), (0, .cells [.fn (.func 61) [] []])], 2, [], 0⟩) (fun v => .sc (.int .i64 v)) (fun v => ⟨[(1, .cells (exC f)), (0, .cells [.fn (.func 61) [] []])], 2, [], 0⟩) 0 s (fun i0 (_ : Unit) (j0 : JJ) => frm 19 0 [(0, .sl .lost s.length (exsC s)), (1, .fn (.func 99) [] [.ptr 0 0, .ptr 1 0]), (7, .sc (.int .i64 ((s.length : Nat) : Int))), (8, .sc (.int .i64 ((i0 : Nat) : Int)))] [9, 16] 0 [15] 0 j0) (fun (_ : Nat) (_ : Unit) (_ : JJ) => ⟨[(1, .cells (exC f)), (0, .cells [.fn (.func 61) [] []])], 2, [], 0⟩) (fun (j : JJ) => plainL j.2 = true) (fun (_ : Unit) (jx : JJ) => frm 19 0 [] [9, 16] 0 [15] 0 jx) (fun (_ : Unit) (_ : JJ) => ⟨[(1, .cells (exC f)), (0, .cells [.fn (.func 61) [] []])], 2, [], 0⟩) (fun (j : JJ) => plainL j.2 = true) ?_ ?_ 0 hres ?_ ?_ ([], [.sc undef]) (plC rfl rfl))
 rintro i0 ⟨⟩ j0 hj0 hge hq
 clear h hres
 refine WL_rnd ?_
 exact go_ex Hd.plainG [18, 31, 32] [fq (gn_pl hj0 0)] [fbp (exC f) (layEx.pl f), fbp [.fn (.func 61) [] []] (plC (plFn rfl rfl) rfl)] 0 _ _ (runS 300 [pb (B := ltI ((i0 : Nat) : Int) ((s.length : Nat) : Int)) (b := false) (ltF hge)]) (by kernel_rfl) (hq ([.bool false, (jn j0 1)], [(gn j0 0)]) (plC (gn_pl hj0 0) rfl))
 clear h hres
 rintro i0 e0 ⟨⟩ j0 r hj0 he0 hi0 h k
 refine WL_rnd ?_
 revert h
 show api_Exprxxx_1_equal_L1  f i0 e0  = some r → _
 unfold api_Exprxxx_1_equal_L1
 refine bndI fun y1 hy1 => ?_
 let o1 : List (PC P G) := [pb (B := ltI ((i0 : Nat) : Int) ((s.length : Nat) : Int)) (b := true) (ltT hi0), pix (ix58 .lost he0)]
 refine cndI (fun hv => ?_) fun hv => ?_
 subst hv
 rintro ⟨⟩
 exact go_retM Hd.plainG _ _ [0] [] [fbp (exC f) (layEx.pl f), fbp [.fn (.func 61) [] []] (plC (plFn rfl rfl) rfl)] _ _ (runS 300 (o1 ++ [pcallU (api_Expr_1_equal_U e0 f true (api_Expr_1_equal_step e0 f true hy1) 0 1 (by decide) (by decide))])) (by kernel_rfl) (.rnd k)
 subst hv
 rintro ⟨⟩
 exact go_nx Hd.plainG [1, 3, 14, 16, 18, 31, 32] [fq (layEx.plS s), ⟨.fn (.func 99) [] [.ptr 0 0, .ptr 1 0], .fn (.func 99) [] [.ptr 0 0, .ptr 1 0], (.under (unFn rfl (unC rfl (unC rfl rfl))))⟩, fq (layEx.plG e0)] [fbp (exC f) (layEx.pl f), fbp [.fn (.func 61) [] []] (plC (plFn rfl rfl) rfl)] _ _ (runS 300 (o1 ++ [pcallU (api_Expr_1_equal_U e0 f false (api_Expr_1_equal_step e0 f false hy1) 0 1 (by decide) (by decide)), pinc i0 (by omega)])) (by kernel_rfl) (k ([.bool true, .bool false], [.agg (exC e0)]) (plC (layEx.plG e0) rfl))
 rintro ⟨⟩ rfl jx_2 hjx_2
 revert h
 clear hres
 dsimp only [lpK]
 intro h
 have hE := Option.some.inj h
 subst hE
 exact go_retM Hd.plainG _ _ [0] [] [fbp (exC f) (layEx.pl f), fbp [.fn (.func 61) [] []] (plC (plFn rfl rfl) rfl)] _ _ (runX 300 []) (by kernel_rfl) .body
 rintro v rfl
 dsimp only [lpK] at h
 cases h
 exact .outer .body
noncomputable def B98 : Code := bodyOf Tryz.f98
theorem b98 : Tryz.f98.body = some B98 := by kernel_rfl
noncomputable def api_Exprx_1_equal_B  (s : (List Ex)) (f : Ex) : Option Bool := (api_Exprxxx_1_equal_B s f).bind fun y1 => (some (leI 0 y1)).bind fun q2 => some q2
theorem api_Exprx_1_equal_U (s : (List Ex)) (f : Ex) (yR : Bool) (hS : Sound P G (.call 98 [.sl .lost s.length (exsC s), .fn (.func 99) [] [.ptr 0 0, .ptr 1 0]] ⟨[(1, .cells (exC f)), (0, .cells [.fn (.func 61) [] []])], 2, [], 0⟩ (.ret (.sc (.bool yR))) ⟨[(1, .cells (exC f)), (0, .cells [.fn (.func 61) [] []])], 2, [], 0⟩)) (u0 u1 : Nat) (hnb : [u0, u1].Nodup) (hnt : ([] : List Nat).Nodup) : Cd.ok P G (.callU 98 [.sl .lost s.length (exsC s), .fn (.func 99) [] [.ptr u0 0, .ptr u1 0]] (.ret (.sc (.bool yR))) [(u0, .cells [.fn (.func 61) [] []]), (u1, .cells (exC f))] [] [(u0, .cells [.fn (.func 61) [] []]), (u1, .cells (exC f))] []) :=
 frameU (M := [.cells [.fn (.func 61) [] []], .cells (exC f)]) (M2 := [.cells [.fn (.func 61) [] []], .cells (exC f)]) (T := []) (T2 := []) (k := 2) (j := 0) Hd.plainG _ _ _ _ hS rfl rfl rfl rfl rfl hnb hnt rfl rfl (.cons (.cells (.pl (plC (plFn rfl rfl) rfl))) (.cons (.cells (.pl (layEx.pl f))) .nil)) (.cons (.cells (.pl (plC (plFn rfl rfl) rfl))) (.cons (.cells (.pl (layEx.pl f))) .nil)) (.cons (.pl (layEx.plS s)) (.cons (.fn (.pl rfl) (.cons (.ptr (by decide)) (.cons (.ptr (by decide)) .nil))) .nil)) (.pl rfl) (by
   intro e he
   simp only [List.mem_cons, List.not_mem_nil, or_false] at he
   rcases he with rfl | rfl
   · exact (.arg (.there (.here (.fn2 (.here .ptr)))))
   · exact (.arg (.there (.here (.fn2 (.there (.here .ptr))))))
   )
theorem api_Exprx_1_equal_step   (s : (List Ex)) (f : Ex) (yR : Bool) (h : api_Exprx_1_equal_B  s f = some yR) : Sound P G (.call 98 [.sl .lost s.length (exsC s), .fn (.func 99) [] [.ptr 0 0, .ptr 1 0]] ⟨[(1, .cells (exC f)), (0, .cells [.fn (.func 61) [] []])], 2, [], 0⟩ (.ret (.sc (.bool yR))) ⟨[(1, .cells (exC f)), (0, .cells [.fn (.func 61) [] []])], 2, [], 0⟩) := by
 unfold api_Exprx_1_equal_B at h
 refine soundM Hd.mixed (WC_body Tryz.func98 b98 ?_)
 revert h
 refine bndI fun y1 hy1 => ?_
 refine bndI fun q2 hq2 => ?_
 intro h
 have hE := Option.some.inj h
 subst hE
 exact go_retM Hd.plainG _ _ [0] [] [fbp (exC f) (layEx.pl f), fbp [.fn (.func 61) [] []] (plC (plFn rfl rfl) rfl)] _ _ (runS 300 [pcallU (api_Exprxxx_1_equal_U s f y1 (api_Exprxxx_1_equal_step s f y1 hy1) 0 1 (by decide) (by decide)), pbin (zgeq3 hq2 (.tmp 7) (.const (.int .i64 0)))]) (by kernel_rfl) .body
noncomputable def B60 : Code := bodyOf Tryz.f60
theorem b60 : Tryz.f60.body = some B60 := by kernel_rfl
noncomputable def api_Expr_equal_L1  (list : (List Ex)) (i0 : Nat) (e0 : Ex)  : Option (Lp Unit Unit Bool) := (api_Exprx_1_equal_B list e0).bind fun y1 => cond y1 (some (.nx ())) (some (.rt false))
noncomputable def api_Expr_equal_B  (list : (List Ex)) (parts : (List Ex)) : Option Bool := (lim parts.length (foldL (fun i y x => api_Expr_equal_L1  list i y ) (fun x => ()) (parts.drop 0) 0 ())).bind (lpK (fun (_ : Unit) => some true) (fun v => some v))
theorem api_Expr_equal_step   (list : (List Ex)) (parts : (List Ex)) (yR : Bool) (h : api_Expr_equal_B  list parts = some yR) : Pure P G 60 [.sl .lost list.length (exsC list), .sl .lost parts.length (exsC parts), .fn (.func 61) [] []] (.sc (.bool yR)) := by
 unfold api_Expr_equal_B at h
 refine pureM Hd.mixed Hd.plainG (WC_body Tryz.func60 b60 ?_) (plC (layEx.plS list) (plC (layEx.plS parts) (plC (plFn rfl rfl) rfl))) rfl
 revert h
 refine bndI fun res hres h => ?_
 have hlen := (limE hres).1
 replace hres := (limE hres).2
 refine go_at [] [0, 5, 6, 9, 10, 11, 12, 14, 17, 18] 0 (sub B60 [1, 0, 1, 0, 0]) [.code (sub B60 [1, 1])] _ _ (runS 300 []) (by kernel_rfl) (foldP (fn := Tryz.f60) (m := 0) (fun v => .sc (.bool v)) 0 parts (fun i0 (_ : Unit) (j0 : JJ) => frm 20 0 [(0, .sl .lost list.length (exsC list)), (5, .ptr 0 0), (9, .sl .lost parts.length (exsC parts)), (10, .sc (.int .i64 ((parts.length : Nat) : Int))), (11, .sc (.int .i64 ((i0 : Nat) : Int)))] [6, 12, 17, 18] 0 [14] 0 j0) (fun (_ : Nat) (_ : Unit) (_ : JJ) => ⟨[(0, .cells [.fn (.func 61) [] []])], 1, [], 0⟩) (fun (j : JJ) => plainL j.2 = true) (fun (_ : Unit) (jx : JJ) => frm 20 0 [] [6, 12, 17, 18] 0 [14] 0 jx) (fun (_ : Unit) (_ : JJ) => ⟨[(0, .cells [.fn (.func 61) [] []])], 1, [], 0⟩) (fun (j : JJ) => plainL j.2 = true) ?_ ?_ 0 hres ?_ ?_ ([.bool false], [.sc undef]) (plC rfl rfl))
 rintro i0 ⟨⟩ j0 hj0 hge hq
 clear h hres
 refine WL_rnd ?_
 exact go_ex Hd.plainG [12, 24, 29, 34, 36] [fq (gn_pl hj0 0)] [fbp [.fn (.func 61) [] []] (plC (plFn rfl rfl) rfl)] 0 _ _ (runS 300 [pb (B := ltI ((i0 : Nat) : Int) ((parts.length : Nat) : Int)) (b := false) (ltF hge)]) (by kernel_rfl) (hq ([(jn j0 0), .bool false, (jn j0 2), (jn j0 3)], [(gn j0 0)]) (plC (gn_pl hj0 0) rfl))
 clear h hres
 rintro i0 e0 ⟨⟩ j0 r hj0 he0 hi0 h k
 refine WL_rnd ?_
 revert h
 show api_Expr_equal_L1  list i0 e0  = some r → _
 unfold api_Expr_equal_L1
 refine bndI fun y1 hy1 => ?_
 let o1 : List (PC P G) := [pb (B := ltI ((i0 : Nat) : Int) ((parts.length : Nat) : Int)) (b := true) (ltT hi0), pix (ix58 .lost he0)]
 refine cndI (fun hv => ?_) fun hv => ?_
 subst hv
 rintro ⟨⟩
 exact go_nx Hd.plainG [1, 10, 12, 19, 20, 22, 24, 29, 34, 36] [fq (layEx.plS list), fq (layEx.plS parts), fq (layEx.plG e0)] [fbp [.fn (.func 61) [] []] (plC (plFn rfl rfl) rfl)] _ _ (runS 300 (o1 ++ [pcallU (api_Exprx_1_equal_U list e0 true (api_Exprx_1_equal_step list e0 true hy1) 0 1 (by decide) (by decide)), pinc i0 (by omega)])) (by kernel_rfl) (k ([(jn j0 0), .bool true, .bool true, .bool false], [.agg (exC e0)]) (plC (layEx.plG e0) rfl))
 subst hv
 rintro ⟨⟩
 exact go_retA _ _ (runS 300 (o1 ++ [pcallU (api_Exprx_1_equal_U list e0 false (api_Exprx_1_equal_step list e0 false hy1) 0 1 (by decide) (by decide))])) (by kernel_rfl) (.rnd k) .sc
 rintro ⟨⟩ rfl jx_2 hjx_2
 revert h
 clear hres
 dsimp only [lpK]
 intro h
 have hE := Option.some.inj h
 subst hE
 exact go_retA _ _ (runX 300 []) (by kernel_rfl) .body .sc
 rintro v rfl
 dsimp only [lpK] at h
 cases h
 exact .outer .body
noncomputable def B24 : Code := bodyOf Tryz.f24
theorem b24 : Tryz.f24.body = some B24 := by kernel_rfl
noncomputable def codex_Beats_B  (c : Co) (a : Int) (b : Int) : Option Bool := cond (ltI a 0) (some false) (cond (ltI b 0) (some false) (cond (leI ((c.arts.length : Nat) : Int) a) (some false) (cond (leI ((c.arts.length : Nat) : Int) b) (some false) ((geti c.arts a).bind fun x1 => (geti c.arts b).bind fun x2 => cond (eqI x1.line x2.line) (cond (eqI x1.number x2.number) (some false) (cond (eqI x1.rank x2.rank) ((api_Expr_equal_B x1.wh x2.wh).bind fun y3 => (api_Expr_equal_B x2.wh x1.wh).bind fun y4 => cond y3 (cond y4 (cond (ltI x2.known x1.known) (some true) (some false)) (some true)) (cond y4 (some false) (cond (ltI x2.known x1.known) (some true) (some false)))) (cond (ltI x2.rank x1.rank) (some true) (some false)))) (some false)))))
theorem codex_Beats_step   (c : Co) (a : Int) (b : Int) (yR : Bool) (h : codex_Beats_B  c a b = some yR) : Pure P G 24 [.agg (coC c), .sc (.int .i64 a), .sc (.int .i64 b)] (.sc (.bool yR)) := by
 unfold codex_Beats_B at h
 refine pureM Hd.mixed Hd.plainG (WC_body Tryz.func24 b24 ?_) (plC (layCo.plG c) (plC rfl (plC rfl rfl))) rfl
 revert h
 refine cndI (fun hb1 => ?_) fun hb1 => ?_
 rintro ⟨⟩
 exact rS (runS 300 [pb hb1]) (by kernel_rfl)
 let o1 : List (PC P G) := [pb hb1]
 refine cndI (fun hb2 => ?_) fun hb2 => ?_
 rintro ⟨⟩
 exact rS (runS 300 (o1 ++ [pb hb2])) (by kernel_rfl)
 let o2 : List (PC P G) := o1 ++ [pb hb2]
 refine cndI (fun hb3 => ?_) fun hb3 => ?_
 rintro ⟨⟩
 exact rS (runS 300 (o2 ++ [pb hb3])) (by kernel_rfl)
 let o3 : List (PC P G) := o2 ++ [pb hb3]
 refine cndI (fun hb4 => ?_) fun hb4 => ?_
 rintro ⟨⟩
 exact rS (runS 300 (o3 ++ [pb hb4])) (by kernel_rfl)
 refine bndI fun x1 hx1 => ?_
 refine bndI fun x2 hx2 => ?_
 let o4 : List (PC P G) := o3 ++ [pb hb4, pix (ixz29 .lost hx1), pix (ixz29 .lost hx2)]
 refine cndI (fun hb5 => ?_) fun hb5 => ?_
 refine cndI (fun hb6 => ?_) fun hb6 => ?_
 rintro ⟨⟩
 exact rS (runS 300 (o4 ++ [pn hb5, pb hb6])) (by kernel_rfl)
 let o5 : List (PC P G) := o4 ++ [pn hb5, pb hb6]
 refine cndI (fun hb7 => ?_) fun hb7 => ?_
 refine bndI fun y3 hy3 => ?_
 refine bndI fun y4 hy4 => ?_
 refine cndI (fun hv => ?_) fun hv => ?_
 subst hv
 let o6 : List (PC P G) := o5 ++ [pn hb7, pcall (api_Expr_equal_step x1.wh x2.wh true hy3)]
 refine cndI (fun hv => ?_) fun hv => ?_
 subst hv
 refine cndI (fun hb8 => ?_) fun hb8 => ?_
 rintro ⟨⟩
 exact rS (runS 300 (o6 ++ [pcall (api_Expr_equal_step x2.wh x1.wh true hy4), pk, pb hb8])) (by kernel_rfl)
 rintro ⟨⟩
 exact rS (runS 300 (o6 ++ [pcall (api_Expr_equal_step x2.wh x1.wh true hy4), pk, pb hb8])) (by kernel_rfl)
 subst hv
 rintro ⟨⟩
 exact rS (runS 300 (o6 ++ [pcall (api_Expr_equal_step x2.wh x1.wh false hy4), pk])) (by kernel_rfl)
 subst hv
 let o7 : List (PC P G) := o5 ++ [pn hb7, pcall (api_Expr_equal_step x1.wh x2.wh false hy3)]
 refine cndI (fun hv => ?_) fun hv => ?_
 subst hv
 rintro ⟨⟩
 exact rS (runS 300 (o7 ++ [pcall (api_Expr_equal_step x2.wh x1.wh true hy4), pk])) (by kernel_rfl)
 subst hv
 refine cndI (fun hb9 => ?_) fun hb9 => ?_
 rintro ⟨⟩
 exact rS (runS 300 (o7 ++ [pcall (api_Expr_equal_step x2.wh x1.wh false hy4), pk, pb hb9])) (by kernel_rfl)
 rintro ⟨⟩
 exact rS (runS 300 (o7 ++ [pcall (api_Expr_equal_step x2.wh x1.wh false hy4), pk, pb hb9])) (by kernel_rfl)
 refine cndI (fun hb10 => ?_) fun hb10 => ?_
 rintro ⟨⟩
 exact rS (runS 300 (o5 ++ [pn hb7, pb hb10])) (by kernel_rfl)
 rintro ⟨⟩
 exact rS (runS 300 (o5 ++ [pn hb7, pb hb10])) (by kernel_rfl)
 rintro ⟨⟩
 exact rS (runS 300 (o4 ++ [pn hb5])) (by kernel_rfl)
noncomputable def B26 : Code := bodyOf Tryz.f26
theorem b26 : Tryz.f26.body = some B26 := by kernel_rfl
noncomputable def ref10_SameInts_L1  (b : (List Int)) (i0 : Nat) (e0 : Int)  : Option (Lp Unit Unit Bool) := (b[i0]?).bind fun x1 => cond (eqI e0 x1) (some (.nx ())) (some (.rt false))
noncomputable def ref10_SameInts_B  (a : (List Int)) (b : (List Int)) : Option Bool := cond (eqI ((a.length : Nat) : Int) ((b.length : Nat) : Int)) ((lim a.length (foldL (fun i y x => ref10_SameInts_L1  b i y ) (fun x => ()) (a.drop 0) 0 ())).bind (lpK (fun (_ : Unit) => some true) (fun v => some v))) (some false)
theorem ref10_SameInts_step   (a : (List Int)) (b : (List Int)) (yR : Bool) (h : ref10_SameInts_B  a b = some yR) : Pure P G 26 [.sl .lost a.length (rows inC a), .sl .lost b.length (rows inC b)] (.sc (.bool yR)) := by
 unfold ref10_SameInts_B at h
 refine pureM Hd.mixed Hd.plainG (WC_body Tryz.func26 b26 ?_) (plC (layInt.plS a) (plC (layInt.plS b) rfl)) rfl
 revert h
 refine cndI (fun hb1 => ?_) fun hb1 => ?_
 refine bndI fun res hres h => ?_
 have hlen := (limE hres).1
 replace hres := (limE hres).2
 refine go_at [] [0, 1, 4, 5, 10, 14, 25] 0 (sub B26 [1, 1, 0, 1, 0, 0]) [.code (sub B26 [1, 1, 1])] _ _ (runS 300 [pn hb1]) (by kernel_rfl) (foldP (fn := Tryz.f26) (m := 0) (fun v => .sc (.bool v)) 0 a (fun i0 (_ : Unit) (j0 : JJ) => frm 26 0 [(0, .sl .lost a.length (rows inC a)), (1, .sl .lost b.length (rows inC b)), (5, .sc (.int .i64 ((i0 : Nat) : Int)))] [4, 10, 14, 25] 0 [] 0 j0) (fun (_ : Nat) (_ : Unit) (_ : JJ) => ⟨[], 0, [], 0⟩) (fun (j : JJ) => plainL j.2 = true) (fun (_ : Unit) (jx : JJ) => frm 26 0 [] [4, 10, 14, 25] 0 [] 0 jx) (fun (_ : Unit) (_ : JJ) => ⟨[], 0, [], 0⟩) (fun (j : JJ) => plainL j.2 = true) ?_ ?_ 0 hres ?_ ?_ ([.bool false, .bool false], []) rfl)
 rintro i0 ⟨⟩ j0 hj0 hge hq
 clear h hres
 refine WL_rnd ?_
 exact go_ex Hd.plainG [8, 20, 28, 50] [] [] 0 _ _ (runS 300 [pb (B := ltI ((i0 : Nat) : Int) ((a.length : Nat) : Int)) (b := false) (ltF hge)]) (by kernel_rfl) (hq ([(jn j0 0), (jn j0 1), .bool false, (jn j0 3)], []) rfl)
 clear h hres
 rintro i0 e0 ⟨⟩ j0 r hj0 he0 hi0 h k
 refine WL_rnd ?_
 revert h
 show ref10_SameInts_L1  b i0 e0  = some r → _
 unfold ref10_SameInts_L1
 refine bndI fun x1 hx1 => ?_
 let o1 : List (PC P G) := [pb (B := ltI ((i0 : Nat) : Int) ((a.length : Nat) : Int)) (b := true) (ltT hi0), pix (ix40 .lost he0), pix (ix40 .lost hx1)]
 refine cndI (fun hb2 => ?_) fun hb2 => ?_
 rintro ⟨⟩
 exact go_nx Hd.plainG [1, 3, 8, 10, 20, 28, 50] [fq (layInt.plS a), fq (layInt.plS b)] [] _ _ (runS 300 (o1 ++ [pn hb2, pinc i0 (by omega)])) (by kernel_rfl) (k ([(jn j0 0), (jn j0 1), .bool true, .bool false], []) rfl)
 rintro ⟨⟩
 exact go_retA _ _ (runS 300 (o1 ++ [pn hb2])) (by kernel_rfl) (.rnd k) .sc
 rintro ⟨⟩ rfl jx_2 hjx_2
 revert h
 clear hres
 dsimp only [lpK]
 intro h
 have hE := Option.some.inj h
 subst hE
 exact go_retA _ _ (runX 300 []) (by kernel_rfl) .body .sc
 rintro v rfl
 dsimp only [lpK] at h
 cases h
 exact .outer .body
 rintro ⟨⟩
 exact rS (runS 300 [pn hb1]) (by kernel_rfl)
noncomputable def B77 : Code := bodyOf Tryz.f77
theorem b77 : Tryz.f77.body = some B77 := by kernel_rfl
noncomputable def parser_checker_node_B  (c : Ck) (n : Nd) (depth : Int) : Option (Bool × Int) := cond (leI (wadd c.nodes 1) 2000) ((some (leI depth 40)).bind fun q1 => some (q1, (wadd c.nodes 1))) (some (false, (wadd c.nodes 1)))
theorem parser_checker_node_U (c : Ck) (n : Nd) (depth : Int) (yR : Bool) (qc_nodesR : Int) (hS : Sound P G (.call 77 [.ptr 0 0, .agg (ndC n), .sc (.int .i64 depth)] ⟨[(0, .cells (ckC c))], 1, [], 0⟩ (.ret (.sc (.bool yR))) ⟨[(0, .cells [.sc (.int .i64 qc_nodesR)])], 1, [], 0⟩)) (u0 : Nat) (hnb : [u0].Nodup) (hnt : ([] : List Nat).Nodup) : Cd.ok P G (.callU 77 [.ptr u0 0, .agg (ndC n), .sc (.int .i64 depth)] (.ret (.sc (.bool yR))) [(u0, .cells (ckC c))] [] [(u0, .cells [.sc (.int .i64 qc_nodesR)])] []) :=
 frameU (M := [.cells (ckC c)]) (M2 := [.cells [.sc (.int .i64 qc_nodesR)]]) (T := []) (T2 := []) (k := 1) (j := 0) Hd.plainG _ _ _ _ hS rfl rfl rfl rfl rfl hnb hnt rfl rfl (.cons (.cells (.pl (layCk.pl c))) .nil) (.cons (.cells (.pl (plC rfl rfl))) .nil) (.cons (.ptr (by decide)) (.cons (.pl (layNd.plG n)) (.cons (.pl rfl) .nil))) (.pl rfl) (fun e he => by simp only [List.mem_singleton] at he; subst he; exact (.arg (.here .ptr)))
theorem parser_checker_node_step   (c : Ck) (n : Nd) (depth : Int) (yR : Bool) (qc_nodesR : Int) (h : parser_checker_node_B  c n depth = some (yR, qc_nodesR)) : Sound P G (.call 77 [.ptr 0 0, .agg (ndC n), .sc (.int .i64 depth)] ⟨[(0, .cells (ckC c))], 1, [], 0⟩ (.ret (.sc (.bool yR))) ⟨[(0, .cells [.sc (.int .i64 qc_nodesR)])], 1, [], 0⟩) := by
 unfold parser_checker_node_B at h
 refine soundM Hd.mixed (WC_body Tryz.func77 b77 ?_)
 revert h
 refine cndI (fun hb1 => ?_) fun hb1 => ?_
 refine bndI fun q1 hq1 => ?_
 intro h
 have hE := Option.some.inj h
 obtain ⟨hE0, hF0⟩ := Prod.mk.inj hE
 subst hE0 hF0
 exact go_retM Hd.plainG _ _ [0] [] [fbp [.sc (.int .i64 (wadd c.nodes 1))] (plC rfl rfl)] _ _ (runS 300 [pk, pb hb1, pbin (zleq3 hq1 (.tmp 20) (.const (.int .i64 40)))]) (by kernel_rfl) .body
 intro h
 have hE := Option.some.inj h
 obtain ⟨hE0, hF0⟩ := Prod.mk.inj hE
 subst hE0 hF0
 exact go_retM Hd.plainG _ _ [0] [] [fbp [.sc (.int .i64 (wadd c.nodes 1))] (plC rfl rfl)] _ _ (runS 300 [pk, pb hb1]) (by kernel_rfl) .body
noncomputable def B78 : Code := bodyOf Tryz.f78
theorem b78 : Tryz.f78.body = some B78 := by kernel_rfl
noncomputable def parser_bare_B  (n : Nd) (fields : Nd) : Option Bool := cond (eqB n.name.data.toList fields.name.data.toList) (cond (eqB n.unit.data.toList fields.unit.data.toList) (cond (eqI n.n fields.n) (cond (eqI n.fr fields.fr) (cond (eqI n.to fields.to) (cond (eqI n.known fields.known) (cond (eqI n.tab.den fields.tab.den) ((api_Piece_B n.tab.ps fields.tab.ps).bind fun y1 => some y1) (some false)) (some false)) (some false)) (some false)) (some false)) (some false)) (some false)
theorem parser_bare_step   (n : Nd) (fields : Nd) (yR : Bool) (h : parser_bare_B  n fields = some yR) : Pure P G 78 [.agg (ndC n), .agg (ndC fields)] (.sc (.bool yR)) := by
 unfold parser_bare_B at h
 refine pureM Hd.mixed Hd.plainG (WC_body Tryz.func78 b78 ?_) (plC (layNd.plG n) (plC (layNd.plG fields) rfl)) rfl
 revert h
 refine cndI (fun hb1 => ?_) fun hb1 => ?_
 refine cndI (fun hb2 => ?_) fun hb2 => ?_
 let o1 : List (PC P G) := [pn hb1, pn hb2]
 refine cndI (fun hb3 => ?_) fun hb3 => ?_
 refine cndI (fun hb4 => ?_) fun hb4 => ?_
 refine cndI (fun hb5 => ?_) fun hb5 => ?_
 refine cndI (fun hb6 => ?_) fun hb6 => ?_
 refine cndI (fun hb7 => ?_) fun hb7 => ?_
 refine bndI fun y1 hy1 => ?_
 intro h
 have hE := Option.some.inj h
 subst hE
 exact rS (runS 300 (o1 ++ [pn hb3, pn hb4, pn hb5, pn hb6, pb hb7, pcall (api_Piece_step n.tab.ps fields.tab.ps y1 hy1)])) (by kernel_rfl)
 rintro ⟨⟩
 exact rS (runS 300 (o1 ++ [pn hb3, pn hb4, pn hb5, pn hb6, pb hb7])) (by kernel_rfl)
 rintro ⟨⟩
 exact rS (runS 300 (o1 ++ [pn hb3, pn hb4, pn hb5, pn hb6])) (by kernel_rfl)
 rintro ⟨⟩
 exact rS (runS 300 (o1 ++ [pn hb3, pn hb4, pn hb5])) (by kernel_rfl)
 rintro ⟨⟩
 exact rS (runS 300 (o1 ++ [pn hb3, pn hb4])) (by kernel_rfl)
 rintro ⟨⟩
 exact rS (runS 300 (o1 ++ [pn hb3])) (by kernel_rfl)
 rintro ⟨⟩
 exact rS (runS 300 [pn hb1, pn hb2]) (by kernel_rfl)
 rintro ⟨⟩
 exact rS (runS 300 [pn hb1]) (by kernel_rfl)
noncomputable def B161 : Code := bodyOf Tryz.f161
theorem b161 : Tryz.f161.body = some B161 := by kernel_rfl
noncomputable def parser_goodCur_L1   (i0 : Nat) (e0 : UInt8)  : Option (Lp Unit Unit Bool) := cond (ltI ((e0.toNat : Nat) : Int) 65) (some (.rt false)) (cond (ltI 90 ((e0.toNat : Nat) : Int)) (some (.rt false)) (some (.nx ())))
noncomputable def parser_goodCur_B  (text : ByteArray) : Option Bool := cond (eqI ((text.data.toList.length : Nat) : Int) 3) ((lim text.data.toList.length (foldL (fun i y x => parser_goodCur_L1   i y ) (fun x => ()) (text.data.toList.drop 0) 0 ())).bind (lpK (fun (_ : Unit) => some true) (fun v => some v))) (some false)
theorem parser_goodCur_step   (text : ByteArray) (yR : Bool) (h : parser_goodCur_B  text = some yR) : Pure P G 161 [.sc (.string text)] (.sc (.bool yR)) := by
 unfold parser_goodCur_B at h
 refine pureM Hd.mixed Hd.plainG (WC_body Tryz.func161 b161 ?_) (plC rfl rfl) rfl
 revert h
 refine cndI (fun hb1 => ?_) fun hb1 => ?_
 refine bndI fun res hres h => ?_
 have hlen := (limE hres).1
 replace hres := (limE hres).2
 refine go_at [] [0, 2, 6, 8, 9, 10, 15, 16, 20, 21] 0 (sub B161 [1, 1, 0, 1, 0, 0]) [.code (sub B161 [1, 1, 1])] _ _ (runS 300 [pn hb1]) (by kernel_rfl) (foldP (fn := Tryz.f161) (m := 0) (fun v => .sc (.bool v)) 0 text.data.toList (fun i0 (_ : Unit) (j0 : JJ) => frm 23 0 [(0, .sc (.string text)), (8, .sc (.int .i64 ((text.data.toList.length : Nat) : Int))), (9, .sc (.int .i64 ((i0 : Nat) : Int)))] [2, 6, 10, 15, 16, 20, 21] 0 [] 0 j0) (fun (_ : Nat) (_ : Unit) (_ : JJ) => ⟨[], 0, [], 0⟩) (fun (j : JJ) => plainL j.2 = true) (fun (_ : Unit) (jx : JJ) => frm 23 0 [] [2, 6, 10, 15, 16, 20, 21] 0 [] 0 jx) (fun (_ : Unit) (_ : JJ) => ⟨[], 0, [], 0⟩) (fun (j : JJ) => plainL j.2 = true) ?_ ?_ 0 hres ?_ ?_ ([.bool false, .bool false], []) rfl)
 rintro i0 ⟨⟩ j0 hj0 hge hq
 clear h hres
 refine WL_rnd ?_
 exact go_ex Hd.plainG [4, 12, 20, 30, 32, 40, 42] [] [] 0 _ _ (runS 300 [pb (B := ltI ((i0 : Nat) : Int) ((text.data.toList.length : Nat) : Int)) (b := false) (ltF hge)]) (by kernel_rfl) (hq ([(jn j0 0), (jn j0 1), .bool false, (jn j0 3), (jn j0 4), (jn j0 5), (jn j0 6)], []) rfl)
 clear h hres
 rintro i0 e0 ⟨⟩ j0 r hj0 he0 hi0 h k
 refine WL_rnd ?_
 revert h
 show parser_goodCur_L1   i0 e0  = some r → _
 unfold parser_goodCur_L1
 let o1 : List (PC P G) := [pb (B := ltI ((i0 : Nat) : Int) ((text.data.toList.length : Nat) : Int)) (b := true) (ltT hi0), pst (ixb9 he0)]
 refine cndI (fun hb2 => ?_) fun hb2 => ?_
 rintro ⟨⟩
 exact go_retA _ _ (runS 300 (o1 ++ [pb hb2])) (by kernel_rfl) (.rnd k) .sc
 refine cndI (fun hb3 => ?_) fun hb3 => ?_
 rintro ⟨⟩
 exact go_retA _ _ (runS 300 (o1 ++ [pb hb2, pst (ixb9 he0), pb hb3])) (by kernel_rfl) (.rnd k) .sc
 rintro ⟨⟩
 exact go_nx Hd.plainG [0, 4, 12, 16, 18, 20, 30, 32, 40, 42] [] [] _ _ (runS 300 (o1 ++ [pb hb2, pst (ixb9 he0), pb hb3, pinc i0 (by omega)])) (by kernel_rfl) (k ([(jn j0 0), (jn j0 1), .bool true, .bool false, .bool false, .bool false, .bool false], []) rfl)
 rintro ⟨⟩ rfl jx_1 hjx_1
 revert h
 clear hres
 dsimp only [lpK]
 intro h
 have hE := Option.some.inj h
 subst hE
 exact go_retA _ _ (runX 300 []) (by kernel_rfl) .body .sc
 rintro v rfl
 dsimp only [lpK] at h
 cases h
 exact .outer .body
 rintro ⟨⟩
 exact rS (runS 300 [pn hb1]) (by kernel_rfl)
noncomputable def B119 : Code := bodyOf Tryz.f119
theorem b119 : Tryz.f119.body = some B119 := by kernel_rfl
noncomputable def parser_goodUnit_B  (text : ByteArray) : Option Bool := cond (eqB text.data.toList truthS.data.toList) (some true) (cond (eqB text.data.toList numberS.data.toList) (some true) (cond (eqB text.data.toList minutesS.data.toList) (some true) ((parser_goodCur_B text).bind fun y1 => some y1)))
theorem parser_goodUnit_step   (text : ByteArray) (yR : Bool) (h : parser_goodUnit_B  text = some yR) : Pure P G 119 [.sc (.string text)] (.sc (.bool yR)) := by
 unfold parser_goodUnit_B at h
 refine pureM Hd.mixed Hd.plainG (WC_body Tryz.func119 b119 ?_) (plC rfl rfl) rfl
 revert h
 refine cndI (fun hb1 => ?_) fun hb1 => ?_
 rintro ⟨⟩
 exact rS (runS 300 [pb hb1]) (by kernel_rfl)
 refine cndI (fun hb2 => ?_) fun hb2 => ?_
 rintro ⟨⟩
 exact rS (runS 300 [pb hb1, pb hb2]) (by kernel_rfl)
 refine cndI (fun hb3 => ?_) fun hb3 => ?_
 rintro ⟨⟩
 exact rS (runS 300 [pb hb1, pb hb2, pb hb3]) (by kernel_rfl)
 refine bndI fun y1 hy1 => ?_
 intro h
 have hE := Option.some.inj h
 subst hE
 exact rS (runS 300 [pb hb1, pb hb2, pb hb3, pcall (parser_goodCur_step text y1 hy1)]) (by kernel_rfl)
noncomputable def B162 : Code := bodyOf Tryz.f162
theorem b162 : Tryz.f162.body = some B162 := by kernel_rfl
noncomputable def parser_isKey_B  (word : ByteArray) : Option Bool := cond (eqB word.data.toList factS.data.toList) (some true) (cond (eqB word.data.toList lineS.data.toList) (some true) (cond (eqB word.data.toList articleS.data.toList) (some true) (cond (eqB word.data.toList forS.data.toList) (some true) (cond (eqB word.data.toList rankS.data.toList) (some true) (cond (eqB word.data.toList fromS.data.toList) (some true) (cond (eqB word.data.toList toS.data.toList) (some true) (cond (eqB word.data.toList knownS.data.toList) (some true) (cond (eqB word.data.toList whenS.data.toList) (some true) (cond (eqB word.data.toList unlessS.data.toList) (some true) (cond (eqB word.data.toList amountS.data.toList) (some true) (cond (eqB word.data.toList truthS.data.toList) (some true) (cond (eqB word.data.toList numberS.data.toList) (some true) (cond (eqB word.data.toList minutesS.data.toList) (some true) (cond (eqB word.data.toList minS.data.toList) (some true) (cond (eqB word.data.toList earnS.data.toList) (some true) (cond (eqB word.data.toList deductS.data.toList) (some true) (cond (eqB word.data.toList floorS.data.toList) (some true) (cond (eqB word.data.toList infoS.data.toList) (some true) (cond (eqB word.data.toList orS.data.toList) (some true) (cond (eqB word.data.toList andS.data.toList) (some true) (cond (eqB word.data.toList notS.data.toList) (some true) (cond (eqB word.data.toList atS.data.toList) (some true) (cond (eqB word.data.toList trueS.data.toList) (some true) (cond (eqB word.data.toList falseS.data.toList) (some true) (cond (eqB word.data.toList artS.data.toList) (some true) (cond (eqB word.data.toList weekdayS.data.toList) (some true) (cond (eqB word.data.toList dayS.data.toList) (some true) (cond (eqB word.data.toList monthS.data.toList) (some true) (cond (eqB word.data.toList yearS.data.toList) (some true) (cond (eqB word.data.toList leastS.data.toList) (some true) (cond (eqB word.data.toList greatestS.data.toList) (some true) (cond (eqB word.data.toList tableS.data.toList) (some true) (some false)))))))))))))))))))))))))))))))))
theorem parser_isKey_step   (word : ByteArray) (yR : Bool) (h : parser_isKey_B  word = some yR) : Pure P G 162 [.sc (.string word)] (.sc (.bool yR)) := by
 unfold parser_isKey_B at h
 refine pureM Hd.mixed Hd.plainG (WC_body Tryz.func162 b162 ?_) (plC rfl rfl) rfl
 revert h
 refine cndI (fun hb1 => ?_) fun hb1 => ?_
 rintro ⟨⟩
 exact rS (runS 300 [pb hb1]) (by kernel_rfl)
 let o1 : List (PC P G) := [pb hb1]
 refine cndI (fun hb2 => ?_) fun hb2 => ?_
 rintro ⟨⟩
 exact rS (runS 300 (o1 ++ [pb hb2])) (by kernel_rfl)
 let o2 : List (PC P G) := o1 ++ [pb hb2]
 refine cndI (fun hb3 => ?_) fun hb3 => ?_
 rintro ⟨⟩
 exact rS (runS 300 (o2 ++ [pb hb3])) (by kernel_rfl)
 let o3 : List (PC P G) := o2 ++ [pb hb3]
 refine cndI (fun hb4 => ?_) fun hb4 => ?_
 rintro ⟨⟩
 exact rS (runS 300 (o3 ++ [pb hb4])) (by kernel_rfl)
 let o4 : List (PC P G) := o3 ++ [pb hb4]
 refine cndI (fun hb5 => ?_) fun hb5 => ?_
 rintro ⟨⟩
 exact rS (runS 300 (o4 ++ [pb hb5])) (by kernel_rfl)
 let o5 : List (PC P G) := o4 ++ [pb hb5]
 refine cndI (fun hb6 => ?_) fun hb6 => ?_
 rintro ⟨⟩
 exact rS (runS 300 (o5 ++ [pb hb6])) (by kernel_rfl)
 let o6 : List (PC P G) := o5 ++ [pb hb6]
 refine cndI (fun hb7 => ?_) fun hb7 => ?_
 rintro ⟨⟩
 exact rS (runS 300 (o6 ++ [pb hb7])) (by kernel_rfl)
 let o7 : List (PC P G) := o6 ++ [pb hb7]
 refine cndI (fun hb8 => ?_) fun hb8 => ?_
 rintro ⟨⟩
 exact rS (runS 300 (o7 ++ [pb hb8])) (by kernel_rfl)
 let o8 : List (PC P G) := o7 ++ [pb hb8]
 refine cndI (fun hb9 => ?_) fun hb9 => ?_
 rintro ⟨⟩
 exact rS (runS 300 (o8 ++ [pb hb9])) (by kernel_rfl)
 let o9 : List (PC P G) := o8 ++ [pb hb9]
 refine cndI (fun hb10 => ?_) fun hb10 => ?_
 rintro ⟨⟩
 exact rS (runS 300 (o9 ++ [pb hb10])) (by kernel_rfl)
 let o10 : List (PC P G) := o9 ++ [pb hb10]
 refine cndI (fun hb11 => ?_) fun hb11 => ?_
 rintro ⟨⟩
 exact rS (runS 300 (o10 ++ [pb hb11])) (by kernel_rfl)
 let o11 : List (PC P G) := o10 ++ [pb hb11]
 refine cndI (fun hb12 => ?_) fun hb12 => ?_
 rintro ⟨⟩
 exact rS (runS 300 (o11 ++ [pb hb12])) (by kernel_rfl)
 let o12 : List (PC P G) := o11 ++ [pb hb12]
 refine cndI (fun hb13 => ?_) fun hb13 => ?_
 rintro ⟨⟩
 exact rS (runS 300 (o12 ++ [pb hb13])) (by kernel_rfl)
 let o13 : List (PC P G) := o12 ++ [pb hb13]
 refine cndI (fun hb14 => ?_) fun hb14 => ?_
 rintro ⟨⟩
 exact rS (runS 300 (o13 ++ [pb hb14])) (by kernel_rfl)
 let o14 : List (PC P G) := o13 ++ [pb hb14]
 refine cndI (fun hb15 => ?_) fun hb15 => ?_
 rintro ⟨⟩
 exact rS (runS 300 (o14 ++ [pb hb15])) (by kernel_rfl)
 let o15 : List (PC P G) := o14 ++ [pb hb15]
 refine cndI (fun hb16 => ?_) fun hb16 => ?_
 rintro ⟨⟩
 exact rS (runS 300 (o15 ++ [pb hb16])) (by kernel_rfl)
 let o16 : List (PC P G) := o15 ++ [pb hb16]
 refine cndI (fun hb17 => ?_) fun hb17 => ?_
 rintro ⟨⟩
 exact rS (runS 300 (o16 ++ [pb hb17])) (by kernel_rfl)
 let o17 : List (PC P G) := o16 ++ [pb hb17]
 refine cndI (fun hb18 => ?_) fun hb18 => ?_
 rintro ⟨⟩
 exact rS (runS 300 (o17 ++ [pb hb18])) (by kernel_rfl)
 let o18 : List (PC P G) := o17 ++ [pb hb18]
 refine cndI (fun hb19 => ?_) fun hb19 => ?_
 rintro ⟨⟩
 exact rS (runS 300 (o18 ++ [pb hb19])) (by kernel_rfl)
 let o19 : List (PC P G) := o18 ++ [pb hb19]
 refine cndI (fun hb20 => ?_) fun hb20 => ?_
 rintro ⟨⟩
 exact rS (runS 300 (o19 ++ [pb hb20])) (by kernel_rfl)
 let o20 : List (PC P G) := o19 ++ [pb hb20]
 refine cndI (fun hb21 => ?_) fun hb21 => ?_
 rintro ⟨⟩
 exact rS (runS 300 (o20 ++ [pb hb21])) (by kernel_rfl)
 let o21 : List (PC P G) := o20 ++ [pb hb21]
 refine cndI (fun hb22 => ?_) fun hb22 => ?_
 rintro ⟨⟩
 exact rS (runS 300 (o21 ++ [pb hb22])) (by kernel_rfl)
 let o22 : List (PC P G) := o21 ++ [pb hb22]
 refine cndI (fun hb23 => ?_) fun hb23 => ?_
 rintro ⟨⟩
 exact rS (runS 300 (o22 ++ [pb hb23])) (by kernel_rfl)
 let o23 : List (PC P G) := o22 ++ [pb hb23]
 refine cndI (fun hb24 => ?_) fun hb24 => ?_
 rintro ⟨⟩
 exact rS (runS 300 (o23 ++ [pb hb24])) (by kernel_rfl)
 let o24 : List (PC P G) := o23 ++ [pb hb24]
 refine cndI (fun hb25 => ?_) fun hb25 => ?_
 rintro ⟨⟩
 exact rS (runS 300 (o24 ++ [pb hb25])) (by kernel_rfl)
 refine cndI (fun hb26 => ?_) fun hb26 => ?_
 rintro ⟨⟩
 exact rS (runS 300 (o24 ++ [pb hb25, pb hb26])) (by kernel_rfl)
 let o25 : List (PC P G) := o24 ++ [pb hb25, pb hb26]
 refine cndI (fun hb27 => ?_) fun hb27 => ?_
 rintro ⟨⟩
 exact rS (runS 300 (o25 ++ [pb hb27])) (by kernel_rfl)
 refine cndI (fun hb28 => ?_) fun hb28 => ?_
 rintro ⟨⟩
 exact rS (runS 300 (o25 ++ [pb hb27, pb hb28])) (by kernel_rfl)
 let o26 : List (PC P G) := o25 ++ [pb hb27, pb hb28]
 refine cndI (fun hb29 => ?_) fun hb29 => ?_
 rintro ⟨⟩
 exact rS (runS 300 (o26 ++ [pb hb29])) (by kernel_rfl)
 refine cndI (fun hb30 => ?_) fun hb30 => ?_
 rintro ⟨⟩
 exact rS (runS 300 (o26 ++ [pb hb29, pb hb30])) (by kernel_rfl)
 refine cndI (fun hb31 => ?_) fun hb31 => ?_
 rintro ⟨⟩
 exact rS (runS 300 (o26 ++ [pb hb29, pb hb30, pb hb31])) (by kernel_rfl)
 refine cndI (fun hb32 => ?_) fun hb32 => ?_
 rintro ⟨⟩
 exact rS (runS 300 (o26 ++ [pb hb29, pb hb30, pb hb31, pb hb32])) (by kernel_rfl)
 refine cndI (fun hb33 => ?_) fun hb33 => ?_
 rintro ⟨⟩
 exact rS (runS 300 (o26 ++ [pb hb29, pb hb30, pb hb31, pb hb32, pb hb33])) (by kernel_rfl)
 rintro ⟨⟩
 exact rS (runS 300 (o26 ++ [pb hb29, pb hb30, pb hb31, pb hb32, pb hb33])) (by kernel_rfl)
end Mo
end Go.Proofs.YtnijkdknnmgoeaaGreat
