/- Part of a proof: see the last text. -/
import Derived.Test.YtkfplcngmiljaaaGreatDoorUll
set_option linter.unusedVariables false
set_option linter.unusedSimpArgs false
namespace Go.Proofs.YtkfplcngmiljaaaGreatDoor
open AI Go
namespace Mo
set_option maxRecDepth 100000
set_option maxHeartbeats 4000000
noncomputable def B15 : Code := bodyOf Tryz.f15
theorem b15 : Tryz.f15.body = some B15 := by kernel_rfl
noncomputable def ref07_SameDiags_L1  (b : (List Dg)) (i0 : Nat) (e0 : Dg)  : Option (Lp Unit Unit Bool) := (b[i0]?).bind fun x1 => cond (sameDg e0 x1) (some (.nx ())) (some (.rt false))
noncomputable def ref07_SameDiags_B  (a : (List Dg)) (b : (List Dg)) : Option Bool := cond (eqI ((a.length : Nat) : Int) ((b.length : Nat) : Int)) ((lim a.length (foldL (fun i y x => ref07_SameDiags_L1  b i y ) (fun x => ()) (a.drop 0) 0 ())).bind (lpK (fun (_ : Unit) => some true) (fun v => some v))) (some false)
theorem ref07_SameDiags_step   (a : (List Dg)) (b : (List Dg)) (yR : Bool) (h : ref07_SameDiags_B  a b = some yR) : Pure P G 15 [.sl .lost a.length (rows dgC a), .sl .lost b.length (rows dgC b)] (.sc (.bool yR)) := by
 unfold ref07_SameDiags_B at h
 refine pureM Hd.mixed Hd.plainG (WC_body Tryz.func15 b15 ?_) (plC (layDg.plS a) (plC (layDg.plS b) rfl)) rfl
 revert h
 refine cndI (fun hb1 => ?_) fun hb1 => ?_
 refine bndI fun res hres h => ?_
 have hlen := (limE hres).1
 replace hres := (limE hres).2
 refine go_at [] [0, 1, 4, 5, 10, 14, 20, 24, 25] 0 (sub B15 [1, 1, 0, 1, 0, 0]) [.code (sub B15 [1, 1, 1])] _ _ (runS 300 [pn hb1]) (by kernel_rfl) (foldP (fn := Tryz.f15) (m := 0) (fun v => .sc (.bool v)) 0 a (fun i0 (_ : Unit) (j0 : JJ) => frm 26 0 [(0, .sl .lost a.length (rows dgC a)), (1, .sl .lost b.length (rows dgC b)), (5, .sc (.int .i64 ((i0 : Nat) : Int)))] [4, 10, 14, 25] 0 [20, 24] 0 j0) (fun (_ : Nat) (_ : Unit) (_ : JJ) => ⟨[], 0, [], 0⟩) (fun (j : JJ) => plainL j.2 = true) (fun (_ : Unit) (jx : JJ) => frm 26 0 [] [4, 10, 14, 25] 0 [20, 24] 0 jx) (fun (_ : Unit) (_ : JJ) => ⟨[], 0, [], 0⟩) (fun (j : JJ) => plainL j.2 = true) ?_ ?_ 0 hres ?_ ?_ ([.bool false, .bool false], [.sc undef, .sc undef]) (plC rfl (plC rfl rfl)))
 rintro i0 ⟨⟩ j0 hj0 hge hq
 clear h hres
 refine WL_rnd ?_
 exact go_ex Hd.plainG [8, 20, 28, 41, 49, 50] [fq (gn_pl hj0 0), fq (gn_pl hj0 1)] [] 0 _ _ (runS 300 [pb (B := ltI ((i0 : Nat) : Int) ((a.length : Nat) : Int)) (b := false) (ltF hge)]) (by kernel_rfl) (hq ([(jn j0 0), (jn j0 1), .bool false, (jn j0 3)], [(gn j0 0), (gn j0 1)]) (plC (gn_pl hj0 0) (plC (gn_pl hj0 1) rfl)))
 clear h hres
 rintro i0 e0 ⟨⟩ j0 r hj0 he0 hi0 h k
 refine WL_rnd ?_
 revert h
 show ref07_SameDiags_L1  b i0 e0  = some r → _
 unfold ref07_SameDiags_L1
 refine bndI fun x1 hx1 => ?_
 let o1 : List (PC P G) := [pb (B := ltI ((i0 : Nat) : Int) ((a.length : Nat) : Int)) (b := true) (ltT hi0), pix (ix30 .lost he0), pix (ix30 .lost hx1)]
 refine cndI (fun hb2 => ?_) fun hb2 => ?_
 rintro ⟨⟩
 exact go_nx Hd.plainG [1, 3, 8, 10, 20, 28, 41, 49, 50] [fq (layDg.plS a), fq (layDg.plS b), fq (layDg.plG e0), fq (layDg.plG x1)] [] _ _ (runS 300 (o1 ++ [pbin (neq53 hb2 (.tmp 20) (.tmp 24)), pinc i0 (by omega)])) (by kernel_rfl) (k ([(jn j0 0), (jn j0 1), .bool true, .bool false], [.agg (dgC e0), .agg (dgC x1)]) (plC (layDg.plG e0) (plC (layDg.plG x1) rfl)))
 rintro ⟨⟩
 exact go_retA _ _ (runS 300 (o1 ++ [pbin (neq53 hb2 (.tmp 20) (.tmp 24))])) (by kernel_rfl) (.rnd k) .sc
 rintro ⟨⟩ rfl jx_2 hjx_2
 revert h
 clear hres
 dsimp only [lpK]
 intro h
 have hE := Option.some.inj h
 subst hE
 exact go_retA _ _ (runX 300 []) (by kernel_rfl) .body .sc
 rintro v rfl
 dsimp only [lpK] at h
 cases h
 exact .outer .body
 rintro ⟨⟩
 exact rS (runS 300 [pn hb1]) (by kernel_rfl)
noncomputable def B90 : Code := bodyOf Tryz.f90
theorem b90 : Tryz.f90.body = some B90 := by kernel_rfl
noncomputable def ref07_Flat_L1 (r_ref07_Flat : Nd → Int → Option Bool) (limit : Int) (i0 : Nat) (e0 : Nd)  : Option (Lp Unit Unit Bool) := (r_ref07_Flat e0 (wsub limit 1)).bind fun y1 => cond y1 (some (.nx ())) (some (.rt false))
noncomputable def ref07_Flat_B (r_ref07_Flat : Nd → Int → Option Bool) (n : Nd) (limit : Int) : Option Bool := cond (ltI limit 1) (some false) ((lim n.kids.length (foldL (fun i y x => ref07_Flat_L1 r_ref07_Flat limit i y ) (fun x => ()) (n.kids.drop 0) 0 ())).bind (lpK (fun (_ : Unit) => some true) (fun v => some v)))
theorem ref07_Flat_step (r_ref07_Flat : Nd → Int → Option Bool) (hr_ref07_Flat : ∀ (n : Nd) (limit : Int) (yR : Bool), r_ref07_Flat n limit = some yR → Pure P G 90 [.agg (ndC n), .sc (.int .i64 limit)] (.sc (.bool yR))) (n : Nd) (limit : Int) (yR : Bool) (h : ref07_Flat_B r_ref07_Flat n limit = some yR) : Pure P G 90 [.agg (ndC n), .sc (.int .i64 limit)] (.sc (.bool yR)) := by
 unfold ref07_Flat_B at h
 refine pureM Hd.mixed Hd.plainG (WC_body Tryz.func90 b90 ?_) (plC (layNd.plG n) (plC rfl rfl)) rfl
 revert h
 refine cndI (fun hb1 => ?_) fun hb1 => ?_
 rintro ⟨⟩
 exact rS (runS 300 [pb hb1]) (by kernel_rfl)
 refine bndI fun res hres h => ?_
 have hlen := (limE hres).1
 replace hres := (limE hres).2
 refine go_at [] [0, 1, 2, 4, 5, 7, 12, 19, 22, 23] 0 (sub B90 [1, 1, 0, 1, 0, 0]) [.code (sub B90 [1, 1, 1])] _ _ (runS 300 [pb hb1]) (by kernel_rfl) (foldP (fn := Tryz.f90) (m := 0) (fun v => .sc (.bool v)) 0 n.kids (fun i0 (_ : Unit) (j0 : JJ) => frm 24 0 [(1, .sc (.int .i64 limit)), (2, .ptr 0 0), (5, .sc (.int .i64 ((i0 : Nat) : Int)))] [4, 7, 12, 22, 23] 0 [0, 19] 0 j0) (fun (_ : Nat) (_ : Unit) (_ : JJ) => ⟨[(0, .cells (ndC n))], 1, [], 0⟩) (fun (j : JJ) => plainL j.2 = true) (fun (_ : Unit) (jx : JJ) => frm 24 0 [] [4, 7, 12, 22, 23] 0 [0, 19] 0 jx) (fun (_ : Unit) (_ : JJ) => ⟨[(0, .cells (ndC n))], 1, [], 0⟩) (fun (j : JJ) => plainL j.2 = true) ?_ ?_ 0 hres ?_ ?_ ([.bool false, .bool false], [.agg (ndC n), .sc undef]) (plC (layNd.plG n) (plC rfl rfl)))
 rintro i0 ⟨⟩ j0 hj0 hge hq
 clear h hres
 refine WL_rnd ?_
 exact go_ex Hd.plainG [1, 8, 14, 24, 39, 44, 46] [fq (gn_pl hj0 0), fq (gn_pl hj0 1)] [fbp (ndC n) (layNd.pl n)] 0 _ _ (runS 300 [pb (B := ltI ((i0 : Nat) : Int) ((n.kids.length : Nat) : Int)) (b := false) (ltF hge)]) (by kernel_rfl) (hq ([(jn j0 0), (jn j0 1), .bool false, (jn j0 3), (jn j0 4)], [(gn j0 0), (gn j0 1)]) (plC (gn_pl hj0 0) (plC (gn_pl hj0 1) rfl)))
 clear h hres
 rintro i0 e0 ⟨⟩ j0 r hj0 he0 hi0 h k
 refine WL_rnd ?_
 revert h
 show ref07_Flat_L1 r_ref07_Flat limit i0 e0  = some r → _
 unfold ref07_Flat_L1
 refine bndI fun y1 hy1 => ?_
 let o1 : List (PC P G) := [pb (B := ltI ((i0 : Nat) : Int) ((n.kids.length : Nat) : Int)) (b := true) (ltT hi0), pix (ix25 .lost he0), pk]
 refine cndI (fun hv => ?_) fun hv => ?_
 subst hv
 rintro ⟨⟩
 exact go_nx Hd.plainG [1, 2, 4, 8, 10, 14, 24, 39, 44, 46] [fq (gn_pl hj0 0), fq (layNd.plG e0)] [fbp (ndC n) (layNd.pl n)] _ _ (runS 300 (o1 ++ [pcall (hr_ref07_Flat e0 (wsub limit 1) true hy1), pinc i0 (by omega)])) (by kernel_rfl) (k ([(jn j0 0), (jn j0 1), .bool true, .bool true, .bool false], [(gn j0 0), .agg (ndC e0)]) (plC (gn_pl hj0 0) (plC (layNd.plG e0) rfl)))
 subst hv
 rintro ⟨⟩
 exact go_retA _ _ (runS 300 (o1 ++ [pcall (hr_ref07_Flat e0 (wsub limit 1) false hy1)])) (by kernel_rfl) (.rnd k) .sc
 rintro ⟨⟩ rfl jx_2 hjx_2
 revert h
 clear hres
 dsimp only [lpK]
 intro h
 have hE := Option.some.inj h
 subst hE
 exact go_retA _ _ (runX 300 []) (by kernel_rfl) .body .sc
 rintro v rfl
 dsimp only [lpK] at h
 cases h
 exact .outer .body
noncomputable def ref07_Flat_M : Nat → Nd → Int → Option Bool
 | 0, _, _ => none
 | qn + 1, n, limit => ref07_Flat_B (ref07_Flat_M qn) n limit
theorem ref07_Flat_all : ∀ qn : Nat, ∀ (n : Nd) (limit : Int) (yR : Bool), ref07_Flat_M qn n limit = some yR → Pure P G 90 [.agg (ndC n), .sc (.int .i64 limit)] (.sc (.bool yR)) := by
 intro qn
 induction qn with
 | zero => exact (fun _ _ _ h => by simp only [ref07_Flat_M] at h; cases h)
 | succ qn ih => exact (fun n limit yR h => ref07_Flat_step _ ih n limit yR (by rw [ref07_Flat_M] at h; exact h))
noncomputable def ref07_Flat_R (n : Nd) (limit : Int) : Option Bool := evt (fun qn => ref07_Flat_M qn n limit)
theorem ref07_Flat_ok (n : Nd) (limit : Int) (yR : Bool) (h : ref07_Flat_R n limit = some yR) : Pure P G 90 [.agg (ndC n), .sc (.int .i64 limit)] (.sc (.bool yR)) := by
 obtain ⟨qn, h⟩ := evtE h
 exact (ref07_Flat_all qn) n limit yR h
noncomputable def B63 : Code := bodyOf Tryz.f63
theorem b63 : Tryz.f63.body = some B63 := by kernel_rfl
noncomputable def ref07_fits_B  (n : Nd) : Option Bool := (ref07_Few_B n 2000).bind fun y1 => cond y1 ((ref07_Flat_R n 40).bind fun y2 => some y2) (some false)
theorem ref07_fits_step   (n : Nd) (yR : Bool) (h : ref07_fits_B  n = some yR) : Pure P G 63 [.agg (ndC n)] (.sc (.bool yR)) := by
 unfold ref07_fits_B at h
 refine pureM Hd.mixed Hd.plainG (WC_body Tryz.func63 b63 ?_) (plC (layNd.plG n) rfl) rfl
 revert h
 refine bndI fun y1 hy1 => ?_
 refine cndI (fun hv => ?_) fun hv => ?_
 subst hv
 refine bndI fun y2 hy2 => ?_
 intro h
 have hE := Option.some.inj h
 subst hE
 exact rS (runS 300 [pcall (ref07_Few_step n 2000 true hy1), pcall (ref07_Flat_ok n 40 y2 hy2)]) (by kernel_rfl)
 subst hv
 rintro ⟨⟩
 exact rS (runS 300 [pcall (ref07_Few_step n 2000 false hy1)]) (by kernel_rfl)
noncomputable def B66 : Code := bodyOf Tryz.f66
theorem b66 : Tryz.f66.body = some B66 := by kernel_rfl
noncomputable def ref07_blank_32_B  (n : Nd) : Option Bool := cond (eqB n.name.data.toList ByteArray.empty.data.toList) (cond (eqB n.unit.data.toList ByteArray.empty.data.toList) (cond (eqI n.n 0) (cond (eqI n.fr 0) (cond (eqI n.to 0) (cond (eqI n.known 0) (cond (eqI n.tab.den 0) (cond (eqI ((n.tab.ps.length : Nat) : Int) 0) (some true) (some false)) (some false)) (some false)) (some false)) (some false)) (some false)) (some false)) (some false)
theorem ref07_blank_32_step   (n : Nd) (yR : Bool) (h : ref07_blank_32_B  n = some yR) : Pure P G 66 [.agg (ndC n), .sc (.int .i64 32)] (.sc (.bool yR)) := by
 unfold ref07_blank_32_B at h
 refine pureM Hd.mixed Hd.plainG (WC_body Tryz.func66 b66 ?_) (plC (layNd.plG n) (plC rfl rfl)) rfl
 revert h
 refine cndI (fun hb1 => ?_) fun hb1 => ?_
 let o1 : List (PC P G) := [pk, pk, pb hb1, pk, pk]
 refine cndI (fun hb2 => ?_) fun hb2 => ?_
 let o2 : List (PC P G) := o1 ++ [pb hb2, pk, pk]
 refine cndI (fun hb3 => ?_) fun hb3 => ?_
 let o3 : List (PC P G) := o2 ++ [pb hb3, pk, pk]
 refine cndI (fun hb4 => ?_) fun hb4 => ?_
 refine cndI (fun hb5 => ?_) fun hb5 => ?_
 refine cndI (fun hb6 => ?_) fun hb6 => ?_
 refine cndI (fun hb7 => ?_) fun hb7 => ?_
 refine cndI (fun hb8 => ?_) fun hb8 => ?_
 rintro ⟨⟩
 exact rS (runS 300 (o3 ++ [pb hb4, pb hb5, pb hb6, pk, pk, pb hb7, pb hb8, pk, pk])) (by kernel_rfl)
 rintro ⟨⟩
 exact rS (runS 300 (o3 ++ [pb hb4, pb hb5, pb hb6, pk, pk, pb hb7, pb hb8])) (by kernel_rfl)
 rintro ⟨⟩
 exact rS (runS 300 (o3 ++ [pb hb4, pb hb5, pb hb6, pk, pk, pb hb7])) (by kernel_rfl)
 rintro ⟨⟩
 exact rS (runS 300 (o3 ++ [pb hb4, pb hb5, pb hb6])) (by kernel_rfl)
 rintro ⟨⟩
 exact rS (runS 300 (o3 ++ [pb hb4, pb hb5])) (by kernel_rfl)
 rintro ⟨⟩
 exact rS (runS 300 (o3 ++ [pb hb4])) (by kernel_rfl)
 rintro ⟨⟩
 exact rS (runS 300 (o2 ++ [pb hb3])) (by kernel_rfl)
 rintro ⟨⟩
 exact rS (runS 300 (o1 ++ [pb hb2])) (by kernel_rfl)
 rintro ⟨⟩
 exact rS (runS 300 [pk, pk, pb hb1]) (by kernel_rfl)
noncomputable def ref07_blank_6_B  (n : Nd) : Option Bool := cond (eqB n.name.data.toList ByteArray.empty.data.toList) (cond (eqI n.fr 0) (cond (eqI n.to 0) (cond (eqI n.known 0) (cond (eqI n.tab.den 0) (cond (eqI ((n.tab.ps.length : Nat) : Int) 0) (cond (eqI ((n.kids.length : Nat) : Int) 0) (some true) (some false)) (some false)) (some false)) (some false)) (some false)) (some false)) (some false)
theorem ref07_blank_6_step   (n : Nd) (yR : Bool) (h : ref07_blank_6_B  n = some yR) : Pure P G 66 [.agg (ndC n), .sc (.int .i64 6)] (.sc (.bool yR)) := by
 unfold ref07_blank_6_B at h
 refine pureM Hd.mixed Hd.plainG (WC_body Tryz.func66 b66 ?_) (plC (layNd.plG n) (plC rfl rfl)) rfl
 revert h
 refine cndI (fun hb1 => ?_) fun hb1 => ?_
 let o1 : List (PC P G) := [pk, pk, pb hb1, pk, pk, pk, pk, pk, pk]
 refine cndI (fun hb2 => ?_) fun hb2 => ?_
 refine cndI (fun hb3 => ?_) fun hb3 => ?_
 refine cndI (fun hb4 => ?_) fun hb4 => ?_
 let o2 : List (PC P G) := o1 ++ [pb hb2, pb hb3, pb hb4, pk, pk]
 refine cndI (fun hb5 => ?_) fun hb5 => ?_
 refine cndI (fun hb6 => ?_) fun hb6 => ?_
 refine cndI (fun hb7 => ?_) fun hb7 => ?_
 rintro ⟨⟩
 exact rS (runS 300 (o2 ++ [pb hb5, pb hb6, pk, pk, pb hb7])) (by kernel_rfl)
 rintro ⟨⟩
 exact rS (runS 300 (o2 ++ [pb hb5, pb hb6, pk, pk, pb hb7])) (by kernel_rfl)
 rintro ⟨⟩
 exact rS (runS 300 (o2 ++ [pb hb5, pb hb6])) (by kernel_rfl)
 rintro ⟨⟩
 exact rS (runS 300 (o2 ++ [pb hb5])) (by kernel_rfl)
 rintro ⟨⟩
 exact rS (runS 300 (o1 ++ [pb hb2, pb hb3, pb hb4])) (by kernel_rfl)
 rintro ⟨⟩
 exact rS (runS 300 (o1 ++ [pb hb2, pb hb3])) (by kernel_rfl)
 rintro ⟨⟩
 exact rS (runS 300 (o1 ++ [pb hb2])) (by kernel_rfl)
 rintro ⟨⟩
 exact rS (runS 300 [pk, pk, pb hb1]) (by kernel_rfl)
noncomputable def ref07_blank_1_B  (n : Nd) : Option Bool := cond (eqB n.unit.data.toList ByteArray.empty.data.toList) (cond (eqI n.n 0) (cond (eqI n.fr 0) (cond (eqI n.to 0) (cond (eqI n.known 0) (cond (eqI n.tab.den 0) (cond (eqI ((n.tab.ps.length : Nat) : Int) 0) (cond (eqI ((n.kids.length : Nat) : Int) 0) (some true) (some false)) (some false)) (some false)) (some false)) (some false)) (some false)) (some false)) (some false)
theorem ref07_blank_1_step   (n : Nd) (yR : Bool) (h : ref07_blank_1_B  n = some yR) : Pure P G 66 [.agg (ndC n), .sc (.int .i64 1)] (.sc (.bool yR)) := by
 unfold ref07_blank_1_B at h
 refine pureM Hd.mixed Hd.plainG (WC_body Tryz.func66 b66 ?_) (plC (layNd.plG n) (plC rfl rfl)) rfl
 revert h
 let o1 : List (PC P G) := [pk, pk, pk, pk]
 refine cndI (fun hb1 => ?_) fun hb1 => ?_
 let o2 : List (PC P G) := o1 ++ [pb hb1, pk, pk]
 refine cndI (fun hb2 => ?_) fun hb2 => ?_
 let o3 : List (PC P G) := o2 ++ [pb hb2, pk, pk]
 refine cndI (fun hb3 => ?_) fun hb3 => ?_
 refine cndI (fun hb4 => ?_) fun hb4 => ?_
 refine cndI (fun hb5 => ?_) fun hb5 => ?_
 let o4 : List (PC P G) := o3 ++ [pb hb3, pb hb4, pb hb5, pk, pk]
 refine cndI (fun hb6 => ?_) fun hb6 => ?_
 refine cndI (fun hb7 => ?_) fun hb7 => ?_
 refine cndI (fun hb8 => ?_) fun hb8 => ?_
 rintro ⟨⟩
 exact rS (runS 300 (o4 ++ [pb hb6, pb hb7, pk, pk, pb hb8])) (by kernel_rfl)
 rintro ⟨⟩
 exact rS (runS 300 (o4 ++ [pb hb6, pb hb7, pk, pk, pb hb8])) (by kernel_rfl)
 rintro ⟨⟩
 exact rS (runS 300 (o4 ++ [pb hb6, pb hb7])) (by kernel_rfl)
 rintro ⟨⟩
 exact rS (runS 300 (o4 ++ [pb hb6])) (by kernel_rfl)
 rintro ⟨⟩
 exact rS (runS 300 (o3 ++ [pb hb3, pb hb4, pb hb5])) (by kernel_rfl)
 rintro ⟨⟩
 exact rS (runS 300 (o3 ++ [pb hb3, pb hb4])) (by kernel_rfl)
 rintro ⟨⟩
 exact rS (runS 300 (o3 ++ [pb hb3])) (by kernel_rfl)
 rintro ⟨⟩
 exact rS (runS 300 (o2 ++ [pb hb2])) (by kernel_rfl)
 rintro ⟨⟩
 exact rS (runS 300 (o1 ++ [pb hb1])) (by kernel_rfl)
noncomputable def ref07_blank_4_B  (n : Nd) : Option Bool := cond (eqB n.name.data.toList ByteArray.empty.data.toList) (cond (eqB n.unit.data.toList ByteArray.empty.data.toList) (cond (eqI n.fr 0) (cond (eqI n.to 0) (cond (eqI n.known 0) (cond (eqI n.tab.den 0) (cond (eqI ((n.tab.ps.length : Nat) : Int) 0) (cond (eqI ((n.kids.length : Nat) : Int) 0) (some true) (some false)) (some false)) (some false)) (some false)) (some false)) (some false)) (some false)) (some false)
theorem ref07_blank_4_step   (n : Nd) (yR : Bool) (h : ref07_blank_4_B  n = some yR) : Pure P G 66 [.agg (ndC n), .sc (.int .i64 4)] (.sc (.bool yR)) := by
 unfold ref07_blank_4_B at h
 refine pureM Hd.mixed Hd.plainG (WC_body Tryz.func66 b66 ?_) (plC (layNd.plG n) (plC rfl rfl)) rfl
 revert h
 refine cndI (fun hb1 => ?_) fun hb1 => ?_
 let o1 : List (PC P G) := [pk, pk, pb hb1, pk, pk]
 refine cndI (fun hb2 => ?_) fun hb2 => ?_
 let o2 : List (PC P G) := o1 ++ [pb hb2, pk, pk, pk, pk]
 refine cndI (fun hb3 => ?_) fun hb3 => ?_
 refine cndI (fun hb4 => ?_) fun hb4 => ?_
 refine cndI (fun hb5 => ?_) fun hb5 => ?_
 let o3 : List (PC P G) := o2 ++ [pb hb3, pb hb4, pb hb5, pk, pk]
 refine cndI (fun hb6 => ?_) fun hb6 => ?_
 refine cndI (fun hb7 => ?_) fun hb7 => ?_
 refine cndI (fun hb8 => ?_) fun hb8 => ?_
 rintro ⟨⟩
 exact rS (runS 300 (o3 ++ [pb hb6, pb hb7, pk, pk, pb hb8])) (by kernel_rfl)
 rintro ⟨⟩
 exact rS (runS 300 (o3 ++ [pb hb6, pb hb7, pk, pk, pb hb8])) (by kernel_rfl)
 rintro ⟨⟩
 exact rS (runS 300 (o3 ++ [pb hb6, pb hb7])) (by kernel_rfl)
 rintro ⟨⟩
 exact rS (runS 300 (o3 ++ [pb hb6])) (by kernel_rfl)
 rintro ⟨⟩
 exact rS (runS 300 (o2 ++ [pb hb3, pb hb4, pb hb5])) (by kernel_rfl)
 rintro ⟨⟩
 exact rS (runS 300 (o2 ++ [pb hb3, pb hb4])) (by kernel_rfl)
 rintro ⟨⟩
 exact rS (runS 300 (o2 ++ [pb hb3])) (by kernel_rfl)
 rintro ⟨⟩
 exact rS (runS 300 (o1 ++ [pb hb2])) (by kernel_rfl)
 rintro ⟨⟩
 exact rS (runS 300 [pk, pk, pb hb1]) (by kernel_rfl)
noncomputable def ref07_blank_33_B  (n : Nd) : Option Bool := cond (eqB n.unit.data.toList ByteArray.empty.data.toList) (cond (eqI n.n 0) (cond (eqI n.fr 0) (cond (eqI n.to 0) (cond (eqI n.known 0) (cond (eqI n.tab.den 0) (cond (eqI ((n.tab.ps.length : Nat) : Int) 0) (some true) (some false)) (some false)) (some false)) (some false)) (some false)) (some false)) (some false)
theorem ref07_blank_33_step   (n : Nd) (yR : Bool) (h : ref07_blank_33_B  n = some yR) : Pure P G 66 [.agg (ndC n), .sc (.int .i64 33)] (.sc (.bool yR)) := by
 unfold ref07_blank_33_B at h
 refine pureM Hd.mixed Hd.plainG (WC_body Tryz.func66 b66 ?_) (plC (layNd.plG n) (plC rfl rfl)) rfl
 revert h
 let o1 : List (PC P G) := [pk, pk, pk, pk]
 refine cndI (fun hb1 => ?_) fun hb1 => ?_
 let o2 : List (PC P G) := o1 ++ [pb hb1, pk, pk]
 refine cndI (fun hb2 => ?_) fun hb2 => ?_
 let o3 : List (PC P G) := o2 ++ [pb hb2, pk, pk]
 refine cndI (fun hb3 => ?_) fun hb3 => ?_
 refine cndI (fun hb4 => ?_) fun hb4 => ?_
 refine cndI (fun hb5 => ?_) fun hb5 => ?_
 refine cndI (fun hb6 => ?_) fun hb6 => ?_
 refine cndI (fun hb7 => ?_) fun hb7 => ?_
 rintro ⟨⟩
 exact rS (runS 300 (o3 ++ [pb hb3, pb hb4, pb hb5, pk, pk, pb hb6, pb hb7, pk, pk])) (by kernel_rfl)
 rintro ⟨⟩
 exact rS (runS 300 (o3 ++ [pb hb3, pb hb4, pb hb5, pk, pk, pb hb6, pb hb7])) (by kernel_rfl)
 rintro ⟨⟩
 exact rS (runS 300 (o3 ++ [pb hb3, pb hb4, pb hb5, pk, pk, pb hb6])) (by kernel_rfl)
 rintro ⟨⟩
 exact rS (runS 300 (o3 ++ [pb hb3, pb hb4, pb hb5])) (by kernel_rfl)
 rintro ⟨⟩
 exact rS (runS 300 (o3 ++ [pb hb3, pb hb4])) (by kernel_rfl)
 rintro ⟨⟩
 exact rS (runS 300 (o3 ++ [pb hb3])) (by kernel_rfl)
 rintro ⟨⟩
 exact rS (runS 300 (o2 ++ [pb hb2])) (by kernel_rfl)
 rintro ⟨⟩
 exact rS (runS 300 (o1 ++ [pb hb1])) (by kernel_rfl)
noncomputable def ref07_blank_48_B  (n : Nd) : Option Bool := cond (eqB n.name.data.toList ByteArray.empty.data.toList) (cond (eqB n.unit.data.toList ByteArray.empty.data.toList) (cond (eqI n.n 0) (cond (eqI n.fr 0) (cond (eqI n.to 0) (cond (eqI n.known 0) (some true) (some false)) (some false)) (some false)) (some false)) (some false)) (some false)
theorem ref07_blank_48_step   (n : Nd) (yR : Bool) (h : ref07_blank_48_B  n = some yR) : Pure P G 66 [.agg (ndC n), .sc (.int .i64 48)] (.sc (.bool yR)) := by
 unfold ref07_blank_48_B at h
 refine pureM Hd.mixed Hd.plainG (WC_body Tryz.func66 b66 ?_) (plC (layNd.plG n) (plC rfl rfl)) rfl
 revert h
 refine cndI (fun hb1 => ?_) fun hb1 => ?_
 let o1 : List (PC P G) := [pk, pk, pb hb1, pk, pk]
 refine cndI (fun hb2 => ?_) fun hb2 => ?_
 refine cndI (fun hb3 => ?_) fun hb3 => ?_
 let o2 : List (PC P G) := o1 ++ [pb hb2, pk, pk, pb hb3, pk, pk]
 refine cndI (fun hb4 => ?_) fun hb4 => ?_
 refine cndI (fun hb5 => ?_) fun hb5 => ?_
 refine cndI (fun hb6 => ?_) fun hb6 => ?_
 rintro ⟨⟩
 exact rS (runS 300 (o2 ++ [pb hb4, pb hb5, pb hb6, pk, pk, pk, pk])) (by kernel_rfl)
 rintro ⟨⟩
 exact rS (runS 300 (o2 ++ [pb hb4, pb hb5, pb hb6])) (by kernel_rfl)
 rintro ⟨⟩
 exact rS (runS 300 (o2 ++ [pb hb4, pb hb5])) (by kernel_rfl)
 rintro ⟨⟩
 exact rS (runS 300 (o2 ++ [pb hb4])) (by kernel_rfl)
 rintro ⟨⟩
 exact rS (runS 300 (o1 ++ [pb hb2, pk, pk, pb hb3])) (by kernel_rfl)
 rintro ⟨⟩
 exact rS (runS 300 (o1 ++ [pb hb2])) (by kernel_rfl)
 rintro ⟨⟩
 exact rS (runS 300 [pk, pk, pb hb1]) (by kernel_rfl)
noncomputable def ref07_blank_3_B  (n : Nd) : Option Bool := cond (eqI n.n 0) (cond (eqI n.fr 0) (cond (eqI n.to 0) (cond (eqI n.known 0) (cond (eqI n.tab.den 0) (cond (eqI ((n.tab.ps.length : Nat) : Int) 0) (cond (eqI ((n.kids.length : Nat) : Int) 0) (some true) (some false)) (some false)) (some false)) (some false)) (some false)) (some false)) (some false)
theorem ref07_blank_3_step   (n : Nd) (yR : Bool) (h : ref07_blank_3_B  n = some yR) : Pure P G 66 [.agg (ndC n), .sc (.int .i64 3)] (.sc (.bool yR)) := by
 unfold ref07_blank_3_B at h
 refine pureM Hd.mixed Hd.plainG (WC_body Tryz.func66 b66 ?_) (plC (layNd.plG n) (plC rfl rfl)) rfl
 revert h
 let o1 : List (PC P G) := [pk, pk, pk, pk, pk, pk]
 refine cndI (fun hb1 => ?_) fun hb1 => ?_
 let o2 : List (PC P G) := o1 ++ [pb hb1, pk, pk]
 refine cndI (fun hb2 => ?_) fun hb2 => ?_
 refine cndI (fun hb3 => ?_) fun hb3 => ?_
 refine cndI (fun hb4 => ?_) fun hb4 => ?_
 let o3 : List (PC P G) := o2 ++ [pb hb2, pb hb3, pb hb4, pk, pk]
 refine cndI (fun hb5 => ?_) fun hb5 => ?_
 refine cndI (fun hb6 => ?_) fun hb6 => ?_
 refine cndI (fun hb7 => ?_) fun hb7 => ?_
 rintro ⟨⟩
 exact rS (runS 300 (o3 ++ [pb hb5, pb hb6, pk, pk, pb hb7])) (by kernel_rfl)
 rintro ⟨⟩
 exact rS (runS 300 (o3 ++ [pb hb5, pb hb6, pk, pk, pb hb7])) (by kernel_rfl)
 rintro ⟨⟩
 exact rS (runS 300 (o3 ++ [pb hb5, pb hb6])) (by kernel_rfl)
 rintro ⟨⟩
 exact rS (runS 300 (o3 ++ [pb hb5])) (by kernel_rfl)
 rintro ⟨⟩
 exact rS (runS 300 (o2 ++ [pb hb2, pb hb3, pb hb4])) (by kernel_rfl)
 rintro ⟨⟩
 exact rS (runS 300 (o2 ++ [pb hb2, pb hb3])) (by kernel_rfl)
 rintro ⟨⟩
 exact rS (runS 300 (o2 ++ [pb hb2])) (by kernel_rfl)
 rintro ⟨⟩
 exact rS (runS 300 (o1 ++ [pb hb1])) (by kernel_rfl)
noncomputable def ref07_blank_7_B  (n : Nd) : Option Bool := cond (eqI n.fr 0) (cond (eqI n.to 0) (cond (eqI n.known 0) (cond (eqI n.tab.den 0) (cond (eqI ((n.tab.ps.length : Nat) : Int) 0) (cond (eqI ((n.kids.length : Nat) : Int) 0) (some true) (some false)) (some false)) (some false)) (some false)) (some false)) (some false)
theorem ref07_blank_7_step   (n : Nd) (yR : Bool) (h : ref07_blank_7_B  n = some yR) : Pure P G 66 [.agg (ndC n), .sc (.int .i64 7)] (.sc (.bool yR)) := by
 unfold ref07_blank_7_B at h
 refine pureM Hd.mixed Hd.plainG (WC_body Tryz.func66 b66 ?_) (plC (layNd.plG n) (plC rfl rfl)) rfl
 revert h
 let o1 : List (PC P G) := [pk, pk, pk, pk, pk, pk, pk, pk]
 refine cndI (fun hb1 => ?_) fun hb1 => ?_
 refine cndI (fun hb2 => ?_) fun hb2 => ?_
 refine cndI (fun hb3 => ?_) fun hb3 => ?_
 let o2 : List (PC P G) := o1 ++ [pb hb1, pb hb2, pb hb3, pk, pk]
 refine cndI (fun hb4 => ?_) fun hb4 => ?_
 refine cndI (fun hb5 => ?_) fun hb5 => ?_
 refine cndI (fun hb6 => ?_) fun hb6 => ?_
 rintro ⟨⟩
 exact rS (runS 300 (o2 ++ [pb hb4, pb hb5, pk, pk, pb hb6])) (by kernel_rfl)
 rintro ⟨⟩
 exact rS (runS 300 (o2 ++ [pb hb4, pb hb5, pk, pk, pb hb6])) (by kernel_rfl)
 rintro ⟨⟩
 exact rS (runS 300 (o2 ++ [pb hb4, pb hb5])) (by kernel_rfl)
 rintro ⟨⟩
 exact rS (runS 300 (o2 ++ [pb hb4])) (by kernel_rfl)
 rintro ⟨⟩
 exact rS (runS 300 (o1 ++ [pb hb1, pb hb2, pb hb3])) (by kernel_rfl)
 rintro ⟨⟩
 exact rS (runS 300 (o1 ++ [pb hb1, pb hb2])) (by kernel_rfl)
 rintro ⟨⟩
 exact rS (runS 300 (o1 ++ [pb hb1])) (by kernel_rfl)
noncomputable def ref07_blank_37_B  (n : Nd) : Option Bool := cond (eqB n.unit.data.toList ByteArray.empty.data.toList) (cond (eqI n.fr 0) (cond (eqI n.to 0) (cond (eqI n.known 0) (cond (eqI n.tab.den 0) (cond (eqI ((n.tab.ps.length : Nat) : Int) 0) (some true) (some false)) (some false)) (some false)) (some false)) (some false)) (some false)
theorem ref07_blank_37_step   (n : Nd) (yR : Bool) (h : ref07_blank_37_B  n = some yR) : Pure P G 66 [.agg (ndC n), .sc (.int .i64 37)] (.sc (.bool yR)) := by
 unfold ref07_blank_37_B at h
 refine pureM Hd.mixed Hd.plainG (WC_body Tryz.func66 b66 ?_) (plC (layNd.plG n) (plC rfl rfl)) rfl
 revert h
 let o1 : List (PC P G) := [pk, pk, pk, pk]
 refine cndI (fun hb1 => ?_) fun hb1 => ?_
 let o2 : List (PC P G) := o1 ++ [pb hb1, pk, pk, pk, pk]
 refine cndI (fun hb2 => ?_) fun hb2 => ?_
 refine cndI (fun hb3 => ?_) fun hb3 => ?_
 refine cndI (fun hb4 => ?_) fun hb4 => ?_
 refine cndI (fun hb5 => ?_) fun hb5 => ?_
 refine cndI (fun hb6 => ?_) fun hb6 => ?_
 rintro ⟨⟩
 exact rS (runS 300 (o2 ++ [pb hb2, pb hb3, pb hb4, pk, pk, pb hb5, pb hb6, pk, pk])) (by kernel_rfl)
 rintro ⟨⟩
 exact rS (runS 300 (o2 ++ [pb hb2, pb hb3, pb hb4, pk, pk, pb hb5, pb hb6])) (by kernel_rfl)
 rintro ⟨⟩
 exact rS (runS 300 (o2 ++ [pb hb2, pb hb3, pb hb4, pk, pk, pb hb5])) (by kernel_rfl)
 rintro ⟨⟩
 exact rS (runS 300 (o2 ++ [pb hb2, pb hb3, pb hb4])) (by kernel_rfl)
 rintro ⟨⟩
 exact rS (runS 300 (o2 ++ [pb hb2, pb hb3])) (by kernel_rfl)
 rintro ⟨⟩
 exact rS (runS 300 (o2 ++ [pb hb2])) (by kernel_rfl)
 rintro ⟨⟩
 exact rS (runS 300 (o1 ++ [pb hb1])) (by kernel_rfl)
noncomputable def ref07_blank_12_B  (n : Nd) : Option Bool := cond (eqB n.name.data.toList ByteArray.empty.data.toList) (cond (eqB n.unit.data.toList ByteArray.empty.data.toList) (cond (eqI n.tab.den 0) (cond (eqI ((n.tab.ps.length : Nat) : Int) 0) (cond (eqI ((n.kids.length : Nat) : Int) 0) (some true) (some false)) (some false)) (some false)) (some false)) (some false)
theorem ref07_blank_12_step   (n : Nd) (yR : Bool) (h : ref07_blank_12_B  n = some yR) : Pure P G 66 [.agg (ndC n), .sc (.int .i64 12)] (.sc (.bool yR)) := by
 unfold ref07_blank_12_B at h
 refine pureM Hd.mixed Hd.plainG (WC_body Tryz.func66 b66 ?_) (plC (layNd.plG n) (plC rfl rfl)) rfl
 revert h
 refine cndI (fun hb1 => ?_) fun hb1 => ?_
 let o1 : List (PC P G) := [pk, pk, pb hb1, pk, pk]
 refine cndI (fun hb2 => ?_) fun hb2 => ?_
 let o2 : List (PC P G) := o1 ++ [pb hb2, pk, pk, pk, pk, pk, pk]
 refine cndI (fun hb3 => ?_) fun hb3 => ?_
 refine cndI (fun hb4 => ?_) fun hb4 => ?_
 refine cndI (fun hb5 => ?_) fun hb5 => ?_
 rintro ⟨⟩
 exact rS (runS 300 (o2 ++ [pb hb3, pb hb4, pk, pk, pb hb5])) (by kernel_rfl)
 rintro ⟨⟩
 exact rS (runS 300 (o2 ++ [pb hb3, pb hb4, pk, pk, pb hb5])) (by kernel_rfl)
 rintro ⟨⟩
 exact rS (runS 300 (o2 ++ [pb hb3, pb hb4])) (by kernel_rfl)
 rintro ⟨⟩
 exact rS (runS 300 (o2 ++ [pb hb3])) (by kernel_rfl)
 rintro ⟨⟩
 exact rS (runS 300 (o1 ++ [pb hb2])) (by kernel_rfl)
 rintro ⟨⟩
 exact rS (runS 300 [pk, pk, pb hb1]) (by kernel_rfl)
noncomputable def B91 : Code := bodyOf Tryz.f91
theorem b91 : Tryz.f91.body = some B91 := by kernel_rfl
noncomputable def ref07_within_B  (n : Int) (low : Int) (high : Int) : Option Bool := cond (leI low n) (cond (leI n high) (some true) (some false)) (some false)
theorem ref07_within_step   (n : Int) (low : Int) (high : Int) (yR : Bool) (h : ref07_within_B  n low high = some yR) : Pure P G 91 [.sc (.int .i64 n), .sc (.int .i64 low), .sc (.int .i64 high)] (.sc (.bool yR)) := by
 unfold ref07_within_B at h
 refine pureM Hd.mixed Hd.plainG (WC_body Tryz.func91 b91 ?_) (plC rfl (plC rfl (plC rfl rfl))) rfl
 revert h
 refine cndI (fun hb1 => ?_) fun hb1 => ?_
 refine cndI (fun hb2 => ?_) fun hb2 => ?_
 rintro ⟨⟩
 exact rS (runS 300 [pb hb1, pb hb2]) (by kernel_rfl)
 rintro ⟨⟩
 exact rS (runS 300 [pb hb1, pb hb2]) (by kernel_rfl)
 rintro ⟨⟩
 exact rS (runS 300 [pb hb1]) (by kernel_rfl)
noncomputable def B117 : Code := bodyOf Tryz.f117
theorem b117 : Tryz.f117.body = some B117 := by kernel_rfl
noncomputable def ref06_Upper_B  (c : Int) : Option Bool := cond (leI 65 c) (cond (leI c 90) (some true) (some false)) (some false)
theorem ref06_Upper_step   (c : Int) (yR : Bool) (h : ref06_Upper_B  c = some yR) : Pure P G 117 [.sc (.int .u8 c)] (.sc (.bool yR)) := by
 unfold ref06_Upper_B at h
 refine pureM Hd.mixed Hd.plainG (WC_body Tryz.func117 b117 ?_) (plC rfl rfl) rfl
 revert h
 refine cndI (fun hb1 => ?_) fun hb1 => ?_
 refine cndI (fun hb2 => ?_) fun hb2 => ?_
 rintro ⟨⟩
 exact rS (runS 300 [pb hb1, pb hb2]) (by kernel_rfl)
 rintro ⟨⟩
 exact rS (runS 300 [pb hb1, pb hb2]) (by kernel_rfl)
 rintro ⟨⟩
 exact rS (runS 300 [pb hb1]) (by kernel_rfl)
noncomputable def B92 : Code := bodyOf Tryz.f92
theorem b92 : Tryz.f92.body = some B92 := by kernel_rfl
noncomputable def ref07_Cur_B  (s : ByteArray) : Option Bool := cond (eqI ((s.data.toList.length : Nat) : Int) 3) ((s.data.toList[0]?).bind fun c1 => (ref06_Upper_B ((c1.toNat : Nat) : Int)).bind fun y2 => cond y2 ((s.data.toList[1]?).bind fun c3 => (ref06_Upper_B ((c3.toNat : Nat) : Int)).bind fun y4 => cond y4 ((s.data.toList[2]?).bind fun c5 => (ref06_Upper_B ((c5.toNat : Nat) : Int)).bind fun y6 => some y6) (some false)) (some false)) (some false)
theorem ref07_Cur_step   (s : ByteArray) (yR : Bool) (h : ref07_Cur_B  s = some yR) : Pure P G 92 [.sc (.string s)] (.sc (.bool yR)) := by
 unfold ref07_Cur_B at h
 refine pureM Hd.mixed Hd.plainG (WC_body Tryz.func92 b92 ?_) (plC rfl rfl) rfl
 revert h
 refine cndI (fun hb1 => ?_) fun hb1 => ?_
 refine bndI fun c1 hc1 => ?_
 refine bndI fun y2 hy2 => ?_
 refine cndI (fun hv => ?_) fun hv => ?_
 subst hv
 refine bndI fun c3 hc3 => ?_
 refine bndI fun y4 hy4 => ?_
 let o1 : List (PC P G) := [pb hb1, pst (ixb9 hc1), pcall (ref06_Upper_step ((c1.toNat : Nat) : Int) true hy2), pst (ixb9 hc3)]
 refine cndI (fun hv => ?_) fun hv => ?_
 subst hv
 refine bndI fun c5 hc5 => ?_
 refine bndI fun y6 hy6 => ?_
 intro h
 have hE := Option.some.inj h
 subst hE
 exact rS (runS 300 (o1 ++ [pcall (ref06_Upper_step ((c3.toNat : Nat) : Int) true hy4), pst (ixb9 hc5), pcall (ref06_Upper_step ((c5.toNat : Nat) : Int) y6 hy6)])) (by kernel_rfl)
 subst hv
 rintro ⟨⟩
 exact rS (runS 300 (o1 ++ [pcall (ref06_Upper_step ((c3.toNat : Nat) : Int) false hy4)])) (by kernel_rfl)
 subst hv
 rintro ⟨⟩
 exact rS (runS 300 [pb hb1, pst (ixb9 hc1), pcall (ref06_Upper_step ((c1.toNat : Nat) : Int) false hy2)]) (by kernel_rfl)
 rintro ⟨⟩
 exact rS (runS 300 [pb hb1]) (by kernel_rfl)
noncomputable def B94 : Code := bodyOf Tryz.f94
theorem b94 : Tryz.f94.body = some B94 := by kernel_rfl
noncomputable def ref07_In_L1  (s : ByteArray) (i0 : Nat) (e0 : ByteArray)  : Option (Lp Unit Unit Bool) := cond (eqB e0.data.toList s.data.toList) (some (.rt true)) (some (.nx ()))
noncomputable def ref07_In_B  (l : (List ByteArray)) (s : ByteArray) : Option Bool := (lim l.length (foldL (fun i y x => ref07_In_L1  s i y ) (fun x => ()) (l.drop 0) 0 ())).bind (lpK (fun (_ : Unit) => some false) (fun v => some v))
theorem ref07_In_step   (l : (List ByteArray)) (s : ByteArray) (yR : Bool) (h : ref07_In_B  l s = some yR) : Pure P G 94 [.sl .lost l.length (rows stC l), .sc (.string s)] (.sc (.bool yR)) := by
 unfold ref07_In_B at h
 refine pureM Hd.mixed Hd.plainG (WC_body Tryz.func94 b94 ?_) (plC (layStr.plS l) (plC rfl rfl)) rfl
 revert h
 refine bndI fun res hres h => ?_
 have hlen := (limE hres).1
 replace hres := (limE hres).2
 refine go_at [] [0, 1, 4, 5, 9, 17] 0 (sub B94 [1, 0, 1, 0, 0]) [.code (sub B94 [1, 1])] _ _ (runS 300 []) (by kernel_rfl) (foldP (fn := Tryz.f94) (m := 0) (fun v => .sc (.bool v)) 0 l (fun i0 (_ : Unit) (j0 : JJ) => frm 18 0 [(0, .sl .lost l.length (rows stC l)), (1, .sc (.string s)), (5, .sc (.int .i64 ((i0 : Nat) : Int)))] [4, 9, 17] 0 [] 0 j0) (fun (_ : Nat) (_ : Unit) (_ : JJ) => ⟨[], 0, [], 0⟩) (fun (j : JJ) => plainL j.2 = true) (fun (_ : Unit) (jx : JJ) => frm 18 0 [] [4, 9, 17] 0 [] 0 jx) (fun (_ : Unit) (_ : JJ) => ⟨[], 0, [], 0⟩) (fun (j : JJ) => plainL j.2 = true) ?_ ?_ 0 hres ?_ ?_ ([.bool false], []) rfl)
 rintro i0 ⟨⟩ j0 hj0 hge hq
 clear h hres
 refine WL_rnd ?_
 exact go_ex Hd.plainG [8, 18, 34] [] [] 0 _ _ (runS 300 [pb (B := ltI ((i0 : Nat) : Int) ((l.length : Nat) : Int)) (b := false) (ltF hge)]) (by kernel_rfl) (hq ([(jn j0 0), .bool false, (jn j0 2)], []) rfl)
 clear h hres
 rintro i0 e0 ⟨⟩ j0 r hj0 he0 hi0 h k
 refine WL_rnd ?_
 revert h
 show ref07_In_L1  s i0 e0  = some r → _
 unfold ref07_In_L1
 let o1 : List (PC P G) := [pb (B := ltI ((i0 : Nat) : Int) ((l.length : Nat) : Int)) (b := true) (ltT hi0), pix (ix96 .lost he0)]
 refine cndI (fun hb1 => ?_) fun hb1 => ?_
 rintro ⟨⟩
 exact go_retA _ _ (runS 300 (o1 ++ [pb hb1])) (by kernel_rfl) (.rnd k) .sc
 rintro ⟨⟩
 exact go_nx Hd.plainG [1, 2, 8, 10, 18, 34] [fq (layStr.plS l)] [] _ _ (runS 300 (o1 ++ [pb hb1, pinc i0 (by omega)])) (by kernel_rfl) (k ([(jn j0 0), .bool true, .bool false], []) rfl)
 rintro ⟨⟩ rfl jx_1 hjx_1
 revert h
 clear hres
 dsimp only [lpK]
 intro h
 have hE := Option.some.inj h
 subst hE
 exact go_retA _ _ (runX 300 []) (by kernel_rfl) .body .sc
 rintro v rfl
 dsimp only [lpK] at h
 cases h
 exact .outer .body
noncomputable def B118 : Code := bodyOf Tryz.f118
theorem b118 : Tryz.f118.body = some B118 := by kernel_rfl
noncomputable def ref06_Lower_B  (c : Int) : Option Bool := cond (leI 97 c) (cond (leI c 122) (some true) (some false)) (some false)
theorem ref06_Lower_step   (c : Int) (yR : Bool) (h : ref06_Lower_B  c = some yR) : Pure P G 118 [.sc (.int .u8 c)] (.sc (.bool yR)) := by
 unfold ref06_Lower_B at h
 refine pureM Hd.mixed Hd.plainG (WC_body Tryz.func118 b118 ?_) (plC rfl rfl) rfl
 revert h
 refine cndI (fun hb1 => ?_) fun hb1 => ?_
 refine cndI (fun hb2 => ?_) fun hb2 => ?_
 rintro ⟨⟩
 exact rS (runS 300 [pb hb1, pb hb2]) (by kernel_rfl)
 rintro ⟨⟩
 exact rS (runS 300 [pb hb1, pb hb2]) (by kernel_rfl)
 rintro ⟨⟩
 exact rS (runS 300 [pb hb1]) (by kernel_rfl)
noncomputable def B119 : Code := bodyOf Tryz.f119
theorem b119 : Tryz.f119.body = some B119 := by kernel_rfl
noncomputable def ref07_Keys_B   : Option (List ByteArray) := some [factS, lineS, articleS, forS, rankS, fromS, toS, knownS, whenS, unlessS, amountS, truthS, numberS, minutesS, minS, earnS, deductS, floorS, infoS, orS, andS, notS, atS, trueS, falseS, artS, weekdayS, dayS, monthS, yearS, leastS, greatestS, tableS]
theorem ref07_Keys_step    (yR : (List ByteArray)) (h : ref07_Keys_B   = some yR) : Pure P G 119 [] (.sl .lost yR.length (rows stC yR)) := by
 unfold ref07_Keys_B at h
 refine pureM Hd.mixed Hd.plainG (WC_body Tryz.func119 b119 ?_) rfl (layStr.plS yR)
 revert h
 intro h
 have hE := Option.some.inj h
 subst hE
 exact go_retA (v := .sl .full 33 (.sc (.string factS) :: .sc (.string lineS) :: .sc (.string articleS) :: .sc (.string forS) :: .sc (.string rankS) :: .sc (.string fromS) :: .sc (.string toS) :: .sc (.string knownS) :: .sc (.string whenS) :: .sc (.string unlessS) :: .sc (.string amountS) :: .sc (.string truthS) :: .sc (.string numberS) :: .sc (.string minutesS) :: .sc (.string minS) :: .sc (.string earnS) :: .sc (.string deductS) :: .sc (.string floorS) :: .sc (.string infoS) :: .sc (.string orS) :: .sc (.string andS) :: .sc (.string notS) :: .sc (.string atS) :: .sc (.string trueS) :: .sc (.string falseS) :: .sc (.string artS) :: .sc (.string weekdayS) :: .sc (.string dayS) :: .sc (.string monthS) :: .sc (.string yearS) :: .sc (.string leastS) :: .sc (.string greatestS) :: .sc (.string tableS) :: [])) _ _ (runS 300 []) (by kernel_rfl) .body (.wn (.d (.r (.r (.r (.r (.r (.r (.r (.r (.r (.r (.r (.r (.r (.r (.r (.r (.r (.r (.r (.r (.r (.r (.r (.r (.r (.r (.r (.r (.r (.r (.r (.r (.r .nil))))))))))))))))))))))))))))))))) (layStr.eq [factS, lineS, articleS, forS, rankS, fromS, toS, knownS, whenS, unlessS, amountS, truthS, numberS, minutesS, minS, earnS, deductS, floorS, infoS, orS, andS, notS, atS, trueS, falseS, artS, weekdayS, dayS, monthS, yearS, leastS, greatestS, tableS]).symm .nil) (layStr.plS [factS, lineS, articleS, forS, rankS, fromS, toS, knownS, whenS, unlessS, amountS, truthS, numberS, minutesS, minS, earnS, deductS, floorS, infoS, orS, andS, notS, atS, trueS, falseS, artS, weekdayS, dayS, monthS, yearS, leastS, greatestS, tableS]))
noncomputable def B120 : Code := bodyOf Tryz.f120
theorem b120 : Tryz.f120.body = some B120 := by kernel_rfl
noncomputable def ref06_Digit_B  (c : Int) : Option Bool := cond (leI 48 c) (cond (leI c 57) (some true) (some false)) (some false)
theorem ref06_Digit_step   (c : Int) (yR : Bool) (h : ref06_Digit_B  c = some yR) : Pure P G 120 [.sc (.int .u8 c)] (.sc (.bool yR)) := by
 unfold ref06_Digit_B at h
 refine pureM Hd.mixed Hd.plainG (WC_body Tryz.func120 b120 ?_) (plC rfl rfl) rfl
 revert h
 refine cndI (fun hb1 => ?_) fun hb1 => ?_
 refine cndI (fun hb2 => ?_) fun hb2 => ?_
 rintro ⟨⟩
 exact rS (runS 300 [pb hb1, pb hb2]) (by kernel_rfl)
 rintro ⟨⟩
 exact rS (runS 300 [pb hb1, pb hb2]) (by kernel_rfl)
 rintro ⟨⟩
 exact rS (runS 300 [pb hb1]) (by kernel_rfl)
noncomputable def B93 : Code := bodyOf Tryz.f93
theorem b93 : Tryz.f93.body = some B93 := by kernel_rfl
noncomputable def ref07_Name_L1   (i0 : Nat) (e0 : UInt8)  : Option (Lp Unit Unit Bool) := (ref06_Lower_B ((e0.toNat : Nat) : Int)).bind fun y5 => cond y5 (some (.nx ())) ((ref06_Digit_B ((e0.toNat : Nat) : Int)).bind fun y6 => cond y6 (some (.nx ())) (cond (eqI ((e0.toNat : Nat) : Int) 95) (some (.nx ())) (some (.rt false))))
noncomputable def ref07_Name_B  (s : ByteArray) : Option Bool := cond (ltI ((s.data.toList.length : Nat) : Int) 1) (some false) (cond (ltI 16 ((s.data.toList.length : Nat) : Int)) (some false) ((s.data.toList[0]?).bind fun c1 => (ref06_Lower_B ((c1.toNat : Nat) : Int)).bind fun y2 => cond y2 ((ref07_Keys_B).bind fun y3 => (ref07_In_B y3 s).bind fun y4 => cond y4 (some false) ((lim s.data.toList.length (foldL (fun i y x => ref07_Name_L1   i y ) (fun x => ()) (s.data.toList.drop 0) 0 ())).bind (lpK (fun (_ : Unit) => some true) (fun v => some v)))) (some false)))
theorem ref07_Name_step   (s : ByteArray) (yR : Bool) (h : ref07_Name_B  s = some yR) : Pure P G 93 [.sc (.string s)] (.sc (.bool yR)) := by
 unfold ref07_Name_B at h
 refine pureM Hd.mixed Hd.plainG (WC_body Tryz.func93 b93 ?_) (plC rfl rfl) rfl
 revert h
 refine cndI (fun hb1 => ?_) fun hb1 => ?_
 rintro ⟨⟩
 exact rS (runS 300 [pb hb1]) (by kernel_rfl)
 refine cndI (fun hb2 => ?_) fun hb2 => ?_
 rintro ⟨⟩
 exact rS (runS 300 [pb hb1, pb hb2]) (by kernel_rfl)
 refine bndI fun c1 hc1 => ?_
 refine bndI fun y2 hy2 => ?_
 refine cndI (fun hv => ?_) fun hv => ?_
 subst hv
 refine bndI fun y3 hy3 => ?_
 refine bndI fun y4 hy4 => ?_
 let o1 : List (PC P G) := [pb hb1, pb hb2, pst (ixb9 hc1), pcall (ref06_Lower_step ((c1.toNat : Nat) : Int) true hy2), pcall (ref07_Keys_step  y3 hy3)]
 refine cndI (fun hv => ?_) fun hv => ?_
 subst hv
 rintro ⟨⟩
 exact rS (runS 300 (o1 ++ [pcall (ref07_In_step y3 s true hy4)])) (by kernel_rfl)
 subst hv
 refine bndI fun res hres h => ?_
 have hlen := (limE hres).1
 replace hres := (limE hres).2
 refine go_at [] [0, 2, 3, 6, 7, 10, 11, 12, 15, 16, 17, 18, 21, 22, 26, 32, 33, 34, 38, 39, 40, 41, 45, 46] 0 (sub B93 [1, 1, 0, 1, 0, 0]) [.code (sub B93 [1, 1, 1])] _ _ (runS 300 (o1 ++ [pcall (ref07_In_step y3 s false hy4)])) (by kernel_rfl) (foldP (fn := Tryz.f93) (m := 0) (fun v => .sc (.bool v)) 0 s.data.toList (fun i0 (_ : Unit) (j0 : JJ) => frm 47 0 [(0, .sc (.string s)), (3, .sc (.int .i64 ((i0 : Nat) : Int)))] [2, 6, 7, 10, 11, 12, 15, 16, 17, 18, 21, 22, 26, 32, 33, 34, 38, 39, 40, 41, 45, 46] 0 [] 0 j0) (fun (_ : Nat) (_ : Unit) (_ : JJ) => ⟨[], 0, [], 0⟩) (fun (j : JJ) => plainL j.2 = true) (fun (_ : Unit) (jx : JJ) => frm 47 0 [] [2, 6, 7, 10, 11, 12, 15, 16, 17, 18, 21, 22, 26, 32, 33, 34, 38, 39, 40, 41, 45, 46] 0 [] 0 jx) (fun (_ : Unit) (_ : JJ) => ⟨[], 0, [], 0⟩) (fun (j : JJ) => plainL j.2 = true) ?_ ?_ 0 hres ?_ ?_ ([.bool false, .bool false, .bool false, .bool false, .bool false, .bool false, .bool true, .bool false, .bool false, .bool false, .bool false, .bool false], []) rfl)
 rintro i0 ⟨⟩ j0 hj0 hge hq
 clear h hres
 refine WL_rnd ?_
 exact go_ex Hd.plainG [4, 12, 14, 20, 22, 24, 30, 32, 34, 36, 42, 44, 52, 64, 66, 68, 76, 78, 80, 82, 90, 92] [] [] 0 _ _ (runS 300 [pb (B := ltI ((i0 : Nat) : Int) ((s.data.toList.length : Nat) : Int)) (b := false) (ltF hge)]) (by kernel_rfl) (hq ([(jn j0 0), (jn j0 1), (jn j0 2), (jn j0 3), (jn j0 4), (jn j0 5), (jn j0 6), (jn j0 7), (jn j0 8), (jn j0 9), (jn j0 10), (jn j0 11), .bool false, (jn j0 13), (jn j0 14), (jn j0 15), (jn j0 16), (jn j0 17), (jn j0 18), (jn j0 19), (jn j0 20), (jn j0 21)], []) rfl)
 clear h hres
 rintro i0 e0 ⟨⟩ j0 r hj0 he0 hi0 h k
 refine WL_rnd ?_
 revert h
 show ref07_Name_L1   i0 e0  = some r → _
 unfold ref07_Name_L1
 refine bndI fun y5 hy5 => ?_
 let o2 : List (PC P G) := [pb (B := ltI ((i0 : Nat) : Int) ((s.data.toList.length : Nat) : Int)) (b := true) (ltT hi0), pst (ixb9 he0)]
 refine cndI (fun hv => ?_) fun hv => ?_
 subst hv
 rintro ⟨⟩
 exact go_nx Hd.plainG [0, 4, 6, 12, 14, 20, 22, 24, 30, 32, 34, 36, 42, 44, 52, 64, 66, 68, 76, 78, 80, 82, 90, 92] [] [] _ _ (runS 300 (o2 ++ [pcall (ref06_Lower_step ((e0.toNat : Nat) : Int) true hy5), pinc i0 (by omega)])) (by kernel_rfl) (k ([(jn j0 0), (jn j0 1), (jn j0 2), (jn j0 3), (jn j0 4), (jn j0 5), (jn j0 6), (jn j0 7), (jn j0 8), (jn j0 9), (jn j0 10), (jn j0 11), .bool true, .bool true, .bool false, .bool false, undef, undef, .bool false, .bool false, undef, .bool false], []) rfl)
 subst hv
 refine bndI fun y6 hy6 => ?_
 let o3 : List (PC P G) := o2 ++ [pcall (ref06_Lower_step ((e0.toNat : Nat) : Int) false hy5), pst (ixb9 he0)]
 refine cndI (fun hv => ?_) fun hv => ?_
 subst hv
 rintro ⟨⟩
 exact go_nx Hd.plainG [0, 4, 6, 12, 14, 20, 22, 24, 30, 32, 34, 36, 42, 44, 52, 64, 66, 68, 76, 78, 80, 82, 90, 92] [] [] _ _ (runS 300 (o3 ++ [pcall (ref06_Digit_step ((e0.toNat : Nat) : Int) true hy6), pinc i0 (by omega)])) (by kernel_rfl) (k ([(jn j0 0), (jn j0 1), (jn j0 2), (jn j0 3), (jn j0 4), (jn j0 5), (jn j0 6), (jn j0 7), (jn j0 8), (jn j0 9), (jn j0 10), (jn j0 11), .bool true, .bool false, .bool true, .bool true, .bool true, .bool false, .bool false, .bool false, undef, .bool false], []) rfl)
 subst hv
 refine cndI (fun hb3 => ?_) fun hb3 => ?_
 rintro ⟨⟩
 exact go_nx Hd.plainG [0, 4, 6, 12, 14, 20, 22, 24, 30, 32, 34, 36, 42, 44, 52, 64, 66, 68, 76, 78, 80, 82, 90, 92] [] [] _ _ (runS 300 (o3 ++ [pcall (ref06_Digit_step ((e0.toNat : Nat) : Int) false hy6), pst (ixb9 he0), pn hb3, pinc i0 (by omega)])) (by kernel_rfl) (k ([(jn j0 0), (jn j0 1), (jn j0 2), (jn j0 3), (jn j0 4), (jn j0 5), (jn j0 6), (jn j0 7), (jn j0 8), (jn j0 9), (jn j0 10), (jn j0 11), .bool true, .bool false, .bool true, .bool true, .bool false, .bool true, .bool true, .bool true, .bool false, .bool false], []) rfl)
 rintro ⟨⟩
 exact go_retA _ _ (runS 300 (o3 ++ [pcall (ref06_Digit_step ((e0.toNat : Nat) : Int) false hy6), pst (ixb9 he0), pn hb3])) (by kernel_rfl) (.rnd k) .sc
 rintro ⟨⟩ rfl jx_7 hjx_7
 revert h
 clear hres
 dsimp only [lpK]
 intro h
 have hE := Option.some.inj h
 subst hE
 exact go_retA _ _ (runX 300 []) (by kernel_rfl) .body .sc
 rintro v rfl
 dsimp only [lpK] at h
 cases h
 exact .outer .body
 subst hv
 rintro ⟨⟩
 exact rS (runS 300 [pb hb1, pb hb2, pst (ixb9 hc1), pcall (ref06_Lower_step ((c1.toNat : Nat) : Int) false hy2)]) (by kernel_rfl)
noncomputable def B95 : Code := bodyOf Tryz.f95
theorem b95 : Tryz.f95.body = some B95 := by kernel_rfl
noncomputable def ref07_number_B  (n : Nd) : Option Bool := cond (eqI n.kind 11) ((ref07_blank_6_B n).bind fun y1 => cond y1 (cond (eqB n.unit.data.toList numberS.data.toList) ((ref07_within_B n.n 1 1000000).bind fun y2 => some y2) (some false)) (some false)) (some false)
theorem ref07_number_step   (n : Nd) (yR : Bool) (h : ref07_number_B  n = some yR) : Pure P G 95 [.agg (ndC n)] (.sc (.bool yR)) := by
 unfold ref07_number_B at h
 refine pureM Hd.mixed Hd.plainG (WC_body Tryz.func95 b95 ?_) (plC (layNd.plG n) rfl) rfl
 revert h
 refine cndI (fun hb1 => ?_) fun hb1 => ?_
 refine bndI fun y1 hy1 => ?_
 refine cndI (fun hv => ?_) fun hv => ?_
 subst hv
 refine cndI (fun hb2 => ?_) fun hb2 => ?_
 refine bndI fun y2 hy2 => ?_
 intro h
 have hE := Option.some.inj h
 subst hE
 exact rS (runS 300 [pb hb1, pcall (ref07_blank_6_step n true hy1), pb hb2, pcall (ref07_within_step n.n 1 1000000 y2 hy2)]) (by kernel_rfl)
 rintro ⟨⟩
 exact rS (runS 300 [pb hb1, pcall (ref07_blank_6_step n true hy1), pb hb2]) (by kernel_rfl)
 subst hv
 rintro ⟨⟩
 exact rS (runS 300 [pb hb1, pcall (ref07_blank_6_step n false hy1)]) (by kernel_rfl)
 rintro ⟨⟩
 exact rS (runS 300 [pb hb1]) (by kernel_rfl)
noncomputable def B97 : Code := bodyOf Tryz.f97
theorem b97 : Tryz.f97.body = some B97 := by kernel_rfl
noncomputable def ref07_table_L1  (f : Fn) (i0 : Nat) (e0 : Pc)  : Option (Lp Unit Unit Bool) := (drem e0.att f.den).bind fun z3 => cond (eqI z3 0) ((dquo e0.att f.den).bind fun z4 => (ref07_within_B z4 (-999999999999) 999999999999).bind fun y5 => cond y5 ((ref07_within_B e0.slope (-1000000) 1000000).bind fun y6 => cond y6 (cond (ltI 999999999999 e0.fr) (some (.rt false)) (cond (eqI ((i0 : Nat) : Int) 0) (cond (eqI e0.fr 0) (some (.nx ())) (some (.rt false))) (cond (ltI 0 ((i0 : Nat) : Int)) ((geti f.ps (wsub ((i0 : Nat) : Int) 1)).bind fun x7 => cond (leI e0.fr x7.fr) (some (.rt false)) (some (.nx ()))) (some (.nx ()))))) (some (.rt false))) (some (.rt false))) (some (.rt false))
noncomputable def ref07_table_B  (f : Fn) : Option Bool := (ref07_within_B f.den 1 1000000).bind fun y1 => cond y1 ((ref07_within_B ((f.ps.length : Nat) : Int) 1 64).bind fun y2 => cond y2 ((lim f.ps.length (foldL (fun i y x => ref07_table_L1  f i y ) (fun x => ()) (f.ps.drop 0) 0 ())).bind (lpK (fun (_ : Unit) => some true) (fun v => some v))) (some false)) (some false)
theorem ref07_table_step   (f : Fn) (yR : Bool) (h : ref07_table_B  f = some yR) : Pure P G 97 [.agg (fnC f)] (.sc (.bool yR)) := by
 unfold ref07_table_B at h
 refine pureM Hd.mixed Hd.plainG (WC_body Tryz.func97 b97 ?_) (plC (layFn.plG f) rfl) rfl
 revert h
 refine bndI fun y1 hy1 => ?_
 refine cndI (fun hv => ?_) fun hv => ?_
 subst hv
 refine bndI fun y2 hy2 => ?_
 refine cndI (fun hv => ?_) fun hv => ?_
 subst hv
 refine bndI fun res hres h => ?_
 have hlen := (limE hres).1
 replace hres := (limE hres).2
 refine go_at [] [0, 1, 2, 3, 7, 8, 9, 13, 14, 15, 20, 27, 33, 34, 40, 41, 42, 43, 46, 47, 48, 49, 52, 53, 54, 56, 57, 60, 61, 62, 63, 65, 66, 76, 77, 78] 0 (sub B97 [1, 1, 0, 1, 0, 0]) [.code (sub B97 [1, 1, 1])] _ _ (runS 300 [pcall (ref07_within_step f.den 1 1000000 true hy1), pcall (ref07_within_step ((f.ps.length : Nat) : Int) 1 64 true hy2)]) (by kernel_rfl) (foldP (fn := Tryz.f97) (m := 0) (fun v => .sc (.bool v)) 0 f.ps (fun i0 (_ : Unit) (j0 : JJ) => frm 79 0 [(1, .ptr 0 0), (3, .sc (.int .i64 ((i0 : Nat) : Int)))] [2, 7, 8, 9, 13, 14, 15, 20, 33, 34, 40, 41, 42, 43, 46, 47, 48, 49, 52, 53, 54, 56, 57, 60, 61, 62, 63, 65, 66, 76, 77, 78] 0 [0, 27] 0 j0) (fun (_ : Nat) (_ : Unit) (_ : JJ) => ⟨[(0, .cells (fnC f))], 1, [], 0⟩) (fun (j : JJ) => plainL j.2 = true) (fun (_ : Unit) (jx : JJ) => frm 79 0 [] [2, 7, 8, 9, 13, 14, 15, 20, 33, 34, 40, 41, 42, 43, 46, 47, 48, 49, 52, 53, 54, 56, 57, 60, 61, 62, 63, 65, 66, 76, 77, 78] 0 [0, 27] 0 jx) (fun (_ : Unit) (_ : JJ) => ⟨[(0, .cells (fnC f))], 1, [], 0⟩) (fun (j : JJ) => plainL j.2 = true) ?_ ?_ 0 hres ?_ ?_ ([.bool false, .bool true, .bool false, .bool false, .bool true, .bool false, .bool false], [.agg (fnC f), .sc undef]) (plC (layFn.plG f) (plC rfl rfl)))
 rintro i0 ⟨⟩ j0 hj0 hge hq
 clear h hres
 refine WL_rnd ?_
 exact go_ex Hd.plainG [1, 4, 14, 16, 18, 26, 28, 30, 40, 55, 66, 68, 80, 82, 84, 86, 92, 94, 96, 98, 104, 106, 108, 112, 114, 120, 122, 124, 126, 130, 132, 152, 154, 156] [fq (gn_pl hj0 0), fq (gn_pl hj0 1)] [fbp (fnC f) (layFn.pl f)] 0 _ _ (runS 300 [pb (B := ltI ((i0 : Nat) : Int) ((f.ps.length : Nat) : Int)) (b := false) (ltF hge)]) (by kernel_rfl) (hq ([(jn j0 0), (jn j0 1), (jn j0 2), (jn j0 3), (jn j0 4), (jn j0 5), (jn j0 6), .bool false, (jn j0 8), (jn j0 9), (jn j0 10), (jn j0 11), (jn j0 12), (jn j0 13), (jn j0 14), (jn j0 15), (jn j0 16), (jn j0 17), (jn j0 18), (jn j0 19), (jn j0 20), (jn j0 21), (jn j0 22), (jn j0 23), (jn j0 24), (jn j0 25), (jn j0 26), (jn j0 27), (jn j0 28), (jn j0 29), (jn j0 30), (jn j0 31)], [(gn j0 0), (gn j0 1)]) (plC (gn_pl hj0 0) (plC (gn_pl hj0 1) rfl)))
 clear h hres
 rintro i0 e0 ⟨⟩ j0 r hj0 he0 hi0 h k
 refine WL_rnd ?_
 revert h
 show ref07_table_L1  f i0 e0  = some r → _
 unfold ref07_table_L1
 refine bndI fun z3 hz3 => ?_
 let o1 : List (PC P G) := [pb (B := ltI ((i0 : Nat) : Int) ((f.ps.length : Nat) : Int)) (b := true) (ltT hi0), pix (ix22 .lost he0), pbin (rem_ok3 hz3 (.tmp 29) (.tmp 31))]
 refine cndI (fun hb1 => ?_) fun hb1 => ?_
 refine bndI fun z4 hz4 => ?_
 refine bndI fun y5 hy5 => ?_
 let o2 : List (PC P G) := o1 ++ [pn hb1, pbin (quo_ok3 hz4 (.tmp 36) (.tmp 38))]
 refine cndI (fun hv => ?_) fun hv => ?_
 subst hv
 refine bndI fun y6 hy6 => ?_
 let o3 : List (PC P G) := o2 ++ [pcall (ref07_within_step z4 (-999999999999) 999999999999 true hy5)]
 refine cndI (fun hv => ?_) fun hv => ?_
 subst hv
 let o4 : List (PC P G) := o3 ++ [pcall (ref07_within_step e0.slope (-1000000) 1000000 true hy6)]
 refine cndI (fun hb2 => ?_) fun hb2 => ?_
 rintro ⟨⟩
 exact go_retA _ _ (runS 300 (o4 ++ [pb hb2])) (by kernel_rfl) (.rnd k) .sc
 refine cndI (fun hb3 => ?_) fun hb3 => ?_
 refine cndI (fun hb4 => ?_) fun hb4 => ?_
 rintro ⟨⟩
 exact go_nx Hd.plainG [1, 2, 4, 6, 14, 16, 18, 26, 28, 30, 40, 55, 66, 68, 80, 82, 84, 86, 92, 94, 96, 98, 104, 106, 108, 112, 114, 120, 122, 124, 126, 130, 132, 152, 154, 156] [fq (gn_pl hj0 0), fq (layPc.plG e0)] [fbp (fnC f) (layFn.pl f)] _ _ (runS 300 (o4 ++ [pb hb2, pb hb3, pn hb4, pb (B := ltI 0 ((i0 : Nat) : Int)) (b := false) (ltI_f (by have := eqI_T hb3; omega)), pinc i0 (by omega)])) (by kernel_rfl) (k ([(jn j0 0), (jn j0 1), (jn j0 2), (jn j0 3), (jn j0 4), (jn j0 5), (jn j0 6), .bool true, .bool false, .bool false, .bool true, .bool false, .bool false, .bool false, .bool true, .bool false, .bool false, .bool false, .bool false, .bool false, .bool false, .bool true, .bool true, .bool false, .bool false, .bool false, .bool false, .bool false, .bool false, undef, .bool false, .bool false], [(gn j0 0), .agg (pcC e0)]) (plC (gn_pl hj0 0) (plC (layPc.plG e0) rfl)))
 rintro ⟨⟩
 exact go_retA _ _ (runS 300 (o4 ++ [pb hb2, pb hb3, pn hb4])) (by kernel_rfl) (.rnd k) .sc
 refine cndI (fun hb5 => ?_) fun hb5 => ?_
 refine bndI fun x7 hx7 => ?_
 refine cndI (fun hb6 => ?_) fun hb6 => ?_
 rintro ⟨⟩
 exact go_retA _ _ (runS 300 (o4 ++ [pb hb2, pb hb3, pb hb5, pk, pix (ixz22 .lost hx7), pb hb6])) (by kernel_rfl) (.rnd k) .sc
 rintro ⟨⟩
 exact go_nx Hd.plainG [1, 2, 4, 6, 14, 16, 18, 26, 28, 30, 40, 55, 66, 68, 80, 82, 84, 86, 92, 94, 96, 98, 104, 106, 108, 112, 114, 120, 122, 124, 126, 130, 132, 152, 154, 156] [fq (gn_pl hj0 0), fq (layPc.plG e0)] [fbp (fnC f) (layFn.pl f)] _ _ (runS 300 (o4 ++ [pb hb2, pb hb3, pb hb5, pk, pix (ixz22 .lost hx7), pb hb6, pinc i0 (by omega)])) (by kernel_rfl) (k ([(jn j0 0), (jn j0 1), (jn j0 2), (jn j0 3), (jn j0 4), (jn j0 5), (jn j0 6), .bool true, .bool false, .bool false, .bool true, .bool false, .bool false, .bool false, .bool true, .bool false, .bool false, .bool false, .bool false, .bool false, .bool false, .bool false, .bool false, undef, .bool false, .bool false, .bool false, .bool true, .bool true, .bool false, .bool false, .bool false], [(gn j0 0), .agg (pcC e0)]) (plC (gn_pl hj0 0) (plC (layPc.plG e0) rfl)))
 rintro ⟨⟩
 exact go_nx Hd.plainG [1, 2, 4, 6, 14, 16, 18, 26, 28, 30, 40, 55, 66, 68, 80, 82, 84, 86, 92, 94, 96, 98, 104, 106, 108, 112, 114, 120, 122, 124, 126, 130, 132, 152, 154, 156] [fq (gn_pl hj0 0), fq (layPc.plG e0)] [fbp (fnC f) (layFn.pl f)] _ _ (runS 300 (o4 ++ [pb hb2, pb hb3, pb hb5, pinc i0 (by omega)])) (by kernel_rfl) (k ([(jn j0 0), (jn j0 1), (jn j0 2), (jn j0 3), (jn j0 4), (jn j0 5), (jn j0 6), .bool true, .bool false, .bool false, .bool true, .bool false, .bool false, .bool false, .bool true, .bool false, .bool false, .bool false, .bool false, .bool false, .bool false, .bool false, .bool false, undef, .bool false, .bool false, .bool false, .bool false, .bool false, undef, .bool false, .bool false], [(gn j0 0), .agg (pcC e0)]) (plC (gn_pl hj0 0) (plC (layPc.plG e0) rfl)))
 subst hv
 rintro ⟨⟩
 exact go_retA _ _ (runS 300 (o3 ++ [pcall (ref07_within_step e0.slope (-1000000) 1000000 false hy6)])) (by kernel_rfl) (.rnd k) .sc
 subst hv
 rintro ⟨⟩
 exact go_retA _ _ (runS 300 (o2 ++ [pcall (ref07_within_step z4 (-999999999999) 999999999999 false hy5)])) (by kernel_rfl) (.rnd k) .sc
 rintro ⟨⟩
 exact go_retA _ _ (runS 300 (o1 ++ [pn hb1])) (by kernel_rfl) (.rnd k) .sc
 rintro ⟨⟩ rfl jx_8 hjx_8
 revert h
 clear hres
 dsimp only [lpK]
 intro h
 have hE := Option.some.inj h
 subst hE
 exact go_retA _ _ (runX 300 []) (by kernel_rfl) .body .sc
 rintro v rfl
 dsimp only [lpK] at h
 cases h
 exact .outer .body
 subst hv
 rintro ⟨⟩
 exact rS (runS 300 [pcall (ref07_within_step f.den 1 1000000 true hy1), pcall (ref07_within_step ((f.ps.length : Nat) : Int) 1 64 false hy2)]) (by kernel_rfl)
 subst hv
 rintro ⟨⟩
 exact rS (runS 300 [pcall (ref07_within_step f.den 1 1000000 false hy1)]) (by kernel_rfl)
noncomputable def B64 : Code := bodyOf Tryz.f64
theorem b64 : Tryz.f64.body = some B64 := by kernel_rfl
noncomputable def ref07_expr_B (r_ref07_expr : Nd → Option Bool) (r_ref07_exprs : (List Nd) → Option Bool) (n : Nd) : Option Bool := cond (eqI n.kind 11) ((ref07_blank_6_B n).bind fun y1 => cond y1 (cond (eqB n.unit.data.toList truthS.data.toList) ((ref07_within_B n.n 0 1).bind fun y2 => cond y2 ((ref07_within_B n.n 0 999999999999).bind fun y3 => cond y3 ((ref07_Cur_B n.unit).bind fun y4 => cond y4 (some true) (some true)) (some false)) (some false)) ((ref07_within_B n.n 0 999999999999).bind fun y5 => cond y5 ((ref07_Cur_B n.unit).bind fun y6 => cond y6 (some true) (cond (eqB n.unit.data.toList numberS.data.toList) (some true) (cond (eqB n.unit.data.toList minutesS.data.toList) (some true) (some false)))) (some false))) (some false)) (cond (eqI n.kind 12) ((ref07_blank_1_B n).bind fun y7 => cond y7 ((ref07_Name_B n.name).bind fun y8 => some y8) (some false)) (cond (eqI n.kind 13) ((ref07_blank_4_B n).bind fun y9 => cond y9 ((ref07_within_B n.n 1 1000000).bind fun y10 => some y10) (some false)) (cond (eqI n.kind 14) ((ref07_blank_1_B n).bind fun y11 => cond y11 ((ref07_In_B [weekdayS, dayS, monthS, yearS] n.name).bind fun y12 => some y12) (some false)) (cond (eqI n.kind 15) ((ref07_blank_32_B n).bind fun y13 => cond y13 (cond (eqI ((n.kids.length : Nat) : Int) 1) ((n.kids[0]?).bind fun x14 => (r_ref07_expr x14).bind fun y15 => some y15) (some false)) (some false)) (cond (eqI n.kind 16) ((ref07_blank_33_B n).bind fun y16 => cond y16 (cond (eqI ((n.kids.length : Nat) : Int) 2) (cond (eqB n.name.data.toList q2fS.data.toList) ((n.kids[1]?).bind fun x17 => (ref07_number_B x17).bind fun y18 => cond y18 ((ref07_In_B [orS, andS, q3d3dS, q213dS, q3cS, q3c3dS, q2bS, q2dS, q2aS, q2fS, atS] n.name).bind fun y19 => cond y19 ((r_ref07_exprs n.kids).bind fun y20 => some y20) (some false)) (some false)) ((ref07_In_B [orS, andS, q3d3dS, q213dS, q3cS, q3c3dS, q2bS, q2dS, q2aS, q2fS, atS] n.name).bind fun y21 => cond y21 ((r_ref07_exprs n.kids).bind fun y22 => some y22) (some false))) (some false)) (some false)) (cond (eqI n.kind 17) ((ref07_blank_33_B n).bind fun y23 => cond y23 (cond (leI 2 ((n.kids.length : Nat) : Int)) (cond (eqB n.name.data.toList leastS.data.toList) ((r_ref07_exprs n.kids).bind fun y24 => some y24) (cond (eqB n.name.data.toList greatestS.data.toList) ((r_ref07_exprs n.kids).bind fun y25 => some y25) (some false))) (some false)) (some false)) (cond (eqI n.kind 18) ((ref07_blank_48_B n).bind fun y26 => cond y26 (cond (eqI ((n.kids.length : Nat) : Int) 1) ((n.kids[0]?).bind fun x27 => (r_ref07_expr x27).bind fun y28 => cond y28 ((ref07_table_B n.tab).bind fun y29 => some y29) (some false)) (some false)) (some false)) (some false))))))))
theorem ref07_expr_step (r_ref07_expr : Nd → Option Bool) (r_ref07_exprs : (List Nd) → Option Bool) (hr_ref07_expr : ∀ (n : Nd) (yR : Bool), r_ref07_expr n = some yR → Pure P G 64 [.agg (ndC n)] (.sc (.bool yR))) (hr_ref07_exprs : ∀ (l : (List Nd)) (yR : Bool), r_ref07_exprs l = some yR → Pure P G 96 [.sl .lost l.length (ndsC l)] (.sc (.bool yR))) (n : Nd) (yR : Bool) (h : ref07_expr_B r_ref07_expr r_ref07_exprs n = some yR) : Pure P G 64 [.agg (ndC n)] (.sc (.bool yR)) := by
 unfold ref07_expr_B at h
 refine pureM Hd.mixed Hd.plainG (WC_body Tryz.func64 b64 ?_) (plC (layNd.plG n) rfl) rfl
 revert h
 refine cndI (fun hb1 => ?_) fun hb1 => ?_
 refine bndI fun y1 hy1 => ?_
 refine cndI (fun hv => ?_) fun hv => ?_
 subst hv
 let o1 : List (PC P G) := [pb hb1, pcall (ref07_blank_6_step n true hy1)]
 refine cndI (fun hb2 => ?_) fun hb2 => ?_
 refine bndI fun y2 hy2 => ?_
 refine cndI (fun hv => ?_) fun hv => ?_
 subst hv
 refine bndI fun y3 hy3 => ?_
 let o2 : List (PC P G) := o1 ++ [pb hb2, pcall (ref07_within_step n.n 0 1 true hy2)]
 refine cndI (fun hv => ?_) fun hv => ?_
 subst hv
 refine bndI fun y4 hy4 => ?_
 refine cndI (fun hv => ?_) fun hv => ?_
 subst hv
 rintro ⟨⟩
 exact rS (runS 300 (o2 ++ [pcall (ref07_within_step n.n 0 999999999999 true hy3), pcall (ref07_Cur_step n.unit true hy4)])) (by kernel_rfl)
 subst hv
 rintro ⟨⟩
 exact rS (runS 300 (o2 ++ [pcall (ref07_within_step n.n 0 999999999999 true hy3), pcall (ref07_Cur_step n.unit false hy4), pb hb2])) (by kernel_rfl)
 subst hv
 rintro ⟨⟩
 exact rS (runS 300 (o2 ++ [pcall (ref07_within_step n.n 0 999999999999 false hy3)])) (by kernel_rfl)
 subst hv
 rintro ⟨⟩
 exact rS (runS 300 (o1 ++ [pb hb2, pcall (ref07_within_step n.n 0 1 false hy2)])) (by kernel_rfl)
 refine bndI fun y5 hy5 => ?_
 refine cndI (fun hv => ?_) fun hv => ?_
 subst hv
 refine bndI fun y6 hy6 => ?_
 let o3 : List (PC P G) := o1 ++ [pb hb2, pcall (ref07_within_step n.n 0 999999999999 true hy5)]
 refine cndI (fun hv => ?_) fun hv => ?_
 subst hv
 rintro ⟨⟩
 exact rS (runS 300 (o3 ++ [pcall (ref07_Cur_step n.unit true hy6)])) (by kernel_rfl)
 subst hv
 let o4 : List (PC P G) := o3 ++ [pcall (ref07_Cur_step n.unit false hy6), pb hb2]
 refine cndI (fun hb3 => ?_) fun hb3 => ?_
 rintro ⟨⟩
 exact rS (runS 300 (o4 ++ [pb hb3])) (by kernel_rfl)
 refine cndI (fun hb4 => ?_) fun hb4 => ?_
 rintro ⟨⟩
 exact rS (runS 300 (o4 ++ [pb hb3, pb hb4])) (by kernel_rfl)
 rintro ⟨⟩
 exact rS (runS 300 (o4 ++ [pb hb3, pb hb4])) (by kernel_rfl)
 subst hv
 rintro ⟨⟩
 exact rS (runS 300 (o1 ++ [pb hb2, pcall (ref07_within_step n.n 0 999999999999 false hy5)])) (by kernel_rfl)
 subst hv
 rintro ⟨⟩
 exact rS (runS 300 [pb hb1, pcall (ref07_blank_6_step n false hy1)]) (by kernel_rfl)
 let o5 : List (PC P G) := [pb hb1]
 refine cndI (fun hb5 => ?_) fun hb5 => ?_
 refine bndI fun y7 hy7 => ?_
 refine cndI (fun hv => ?_) fun hv => ?_
 subst hv
 refine bndI fun y8 hy8 => ?_
 intro h
 have hE := Option.some.inj h
 subst hE
 exact rS (runS 300 (o5 ++ [pb hb5, pcall (ref07_blank_1_step n true hy7), pcall (ref07_Name_step n.name y8 hy8)])) (by kernel_rfl)
 subst hv
 rintro ⟨⟩
 exact rS (runS 300 (o5 ++ [pb hb5, pcall (ref07_blank_1_step n false hy7)])) (by kernel_rfl)
 let o6 : List (PC P G) := o5 ++ [pb hb5]
 refine cndI (fun hb6 => ?_) fun hb6 => ?_
 refine bndI fun y9 hy9 => ?_
 refine cndI (fun hv => ?_) fun hv => ?_
 subst hv
 refine bndI fun y10 hy10 => ?_
 intro h
 have hE := Option.some.inj h
 subst hE
 exact rS (runS 300 (o6 ++ [pb hb6, pcall (ref07_blank_4_step n true hy9), pcall (ref07_within_step n.n 1 1000000 y10 hy10)])) (by kernel_rfl)
 subst hv
 rintro ⟨⟩
 exact rS (runS 300 (o6 ++ [pb hb6, pcall (ref07_blank_4_step n false hy9)])) (by kernel_rfl)
 let o7 : List (PC P G) := o6 ++ [pb hb6]
 refine cndI (fun hb7 => ?_) fun hb7 => ?_
 refine bndI fun y11 hy11 => ?_
 refine cndI (fun hv => ?_) fun hv => ?_
 subst hv
 refine bndI fun y12 hy12 => ?_
 intro h
 have hE := Option.some.inj h
 subst hE
 exact rS (runS 300 (o7 ++ [pb hb7, pcall (ref07_blank_1_step n true hy11), pcallW (args := [.sl .full 4 [.sc (.string weekdayS), .sc (.string dayS), .sc (.string monthS), .sc (.string yearS)], .sc (.string n.name)]) (.d (.r (.r (.r (.r .nil)))) (layStr.eq [weekdayS, dayS, monthS, yearS]).symm (.r .nil)) (ref07_In_step [weekdayS, dayS, monthS, yearS] n.name y12 hy12)])) (by kernel_rfl)
 subst hv
 rintro ⟨⟩
 exact rS (runS 300 (o7 ++ [pb hb7, pcall (ref07_blank_1_step n false hy11)])) (by kernel_rfl)
 let o8 : List (PC P G) := o7 ++ [pb hb7]
 refine cndI (fun hb8 => ?_) fun hb8 => ?_
 refine bndI fun y13 hy13 => ?_
 refine cndI (fun hv => ?_) fun hv => ?_
 subst hv
 refine cndI (fun hb9 => ?_) fun hb9 => ?_
 refine bndI fun x14 hx14 => ?_
 refine bndI fun y15 hy15 => ?_
 intro h
 have hE := Option.some.inj h
 subst hE
 exact rS (runS 300 (o8 ++ [pb hb8, pcall (ref07_blank_32_step n true hy13), pb hb9, pix (ix25 .lost hx14), pcall (hr_ref07_expr x14 y15 hy15)])) (by kernel_rfl)
 rintro ⟨⟩
 exact rS (runS 300 (o8 ++ [pb hb8, pcall (ref07_blank_32_step n true hy13), pb hb9])) (by kernel_rfl)
 subst hv
 rintro ⟨⟩
 exact rS (runS 300 (o8 ++ [pb hb8, pcall (ref07_blank_32_step n false hy13)])) (by kernel_rfl)
 let o9 : List (PC P G) := o8 ++ [pb hb8]
 refine cndI (fun hb10 => ?_) fun hb10 => ?_
 refine bndI fun y16 hy16 => ?_
 refine cndI (fun hv => ?_) fun hv => ?_
 subst hv
 let o10 : List (PC P G) := o9 ++ [pb hb10, pcall (ref07_blank_33_step n true hy16)]
 refine cndI (fun hb11 => ?_) fun hb11 => ?_
 refine cndI (fun hb12 => ?_) fun hb12 => ?_
 refine bndI fun x17 hx17 => ?_
 refine bndI fun y18 hy18 => ?_
 let o11 : List (PC P G) := o10 ++ [pn hb11, pb hb12, pix (ix25 .lost hx17)]
 refine cndI (fun hv => ?_) fun hv => ?_
 subst hv
 refine bndI fun y19 hy19 => ?_
 refine cndI (fun hv => ?_) fun hv => ?_
 subst hv
 refine bndI fun y20 hy20 => ?_
 intro h
 have hE := Option.some.inj h
 subst hE
 exact rS (runS 300 (o11 ++ [pcall (ref07_number_step x17 true hy18), pcallW (args := [.sl .full 11 [.sc (.string orS), .sc (.string andS), .sc (.string q3d3dS), .sc (.string q213dS), .sc (.string q3cS), .sc (.string q3c3dS), .sc (.string q2bS), .sc (.string q2dS), .sc (.string q2aS), .sc (.string q2fS), .sc (.string atS)], .sc (.string n.name)]) (.d (.r (.r (.r (.r (.r (.r (.r (.r (.r (.r (.r .nil))))))))))) (layStr.eq [orS, andS, q3d3dS, q213dS, q3cS, q3c3dS, q2bS, q2dS, q2aS, q2fS, atS]).symm (.r .nil)) (ref07_In_step [orS, andS, q3d3dS, q213dS, q3cS, q3c3dS, q2bS, q2dS, q2aS, q2fS, atS] n.name true hy19), pcall (hr_ref07_exprs n.kids y20 hy20)])) (by kernel_rfl)
 subst hv
 rintro ⟨⟩
 exact rS (runS 300 (o11 ++ [pcall (ref07_number_step x17 true hy18), pcallW (args := [.sl .full 11 [.sc (.string orS), .sc (.string andS), .sc (.string q3d3dS), .sc (.string q213dS), .sc (.string q3cS), .sc (.string q3c3dS), .sc (.string q2bS), .sc (.string q2dS), .sc (.string q2aS), .sc (.string q2fS), .sc (.string atS)], .sc (.string n.name)]) (.d (.r (.r (.r (.r (.r (.r (.r (.r (.r (.r (.r .nil))))))))))) (layStr.eq [orS, andS, q3d3dS, q213dS, q3cS, q3c3dS, q2bS, q2dS, q2aS, q2fS, atS]).symm (.r .nil)) (ref07_In_step [orS, andS, q3d3dS, q213dS, q3cS, q3c3dS, q2bS, q2dS, q2aS, q2fS, atS] n.name false hy19)])) (by kernel_rfl)
 subst hv
 rintro ⟨⟩
 exact rS (runS 300 (o11 ++ [pcall (ref07_number_step x17 false hy18)])) (by kernel_rfl)
 refine bndI fun y21 hy21 => ?_
 refine cndI (fun hv => ?_) fun hv => ?_
 subst hv
 refine bndI fun y22 hy22 => ?_
 intro h
 have hE := Option.some.inj h
 subst hE
 exact rS (runS 300 (o10 ++ [pn hb11, pb hb12, pcallW (args := [.sl .full 11 [.sc (.string orS), .sc (.string andS), .sc (.string q3d3dS), .sc (.string q213dS), .sc (.string q3cS), .sc (.string q3c3dS), .sc (.string q2bS), .sc (.string q2dS), .sc (.string q2aS), .sc (.string q2fS), .sc (.string atS)], .sc (.string n.name)]) (.d (.r (.r (.r (.r (.r (.r (.r (.r (.r (.r (.r .nil))))))))))) (layStr.eq [orS, andS, q3d3dS, q213dS, q3cS, q3c3dS, q2bS, q2dS, q2aS, q2fS, atS]).symm (.r .nil)) (ref07_In_step [orS, andS, q3d3dS, q213dS, q3cS, q3c3dS, q2bS, q2dS, q2aS, q2fS, atS] n.name true hy21), pcall (hr_ref07_exprs n.kids y22 hy22)])) (by kernel_rfl)
 subst hv
 rintro ⟨⟩
 exact rS (runS 300 (o10 ++ [pn hb11, pb hb12, pcallW (args := [.sl .full 11 [.sc (.string orS), .sc (.string andS), .sc (.string q3d3dS), .sc (.string q213dS), .sc (.string q3cS), .sc (.string q3c3dS), .sc (.string q2bS), .sc (.string q2dS), .sc (.string q2aS), .sc (.string q2fS), .sc (.string atS)], .sc (.string n.name)]) (.d (.r (.r (.r (.r (.r (.r (.r (.r (.r (.r (.r .nil))))))))))) (layStr.eq [orS, andS, q3d3dS, q213dS, q3cS, q3c3dS, q2bS, q2dS, q2aS, q2fS, atS]).symm (.r .nil)) (ref07_In_step [orS, andS, q3d3dS, q213dS, q3cS, q3c3dS, q2bS, q2dS, q2aS, q2fS, atS] n.name false hy21)])) (by kernel_rfl)
 rintro ⟨⟩
 exact rS (runS 300 (o10 ++ [pn hb11])) (by kernel_rfl)
 subst hv
 rintro ⟨⟩
 exact rS (runS 300 (o9 ++ [pb hb10, pcall (ref07_blank_33_step n false hy16)])) (by kernel_rfl)
 let o12 : List (PC P G) := o9 ++ [pb hb10]
 refine cndI (fun hb13 => ?_) fun hb13 => ?_
 refine bndI fun y23 hy23 => ?_
 refine cndI (fun hv => ?_) fun hv => ?_
 subst hv
 let o13 : List (PC P G) := o12 ++ [pb hb13, pcall (ref07_blank_33_step n true hy23)]
 refine cndI (fun hb14 => ?_) fun hb14 => ?_
 refine cndI (fun hb15 => ?_) fun hb15 => ?_
 refine bndI fun y24 hy24 => ?_
 intro h
 have hE := Option.some.inj h
 subst hE
 exact rS (runS 300 (o13 ++ [pb hb14, pb hb15, pcall (hr_ref07_exprs n.kids y24 hy24)])) (by kernel_rfl)
 refine cndI (fun hb16 => ?_) fun hb16 => ?_
 refine bndI fun y25 hy25 => ?_
 intro h
 have hE := Option.some.inj h
 subst hE
 exact rS (runS 300 (o13 ++ [pb hb14, pb hb15, pb hb16, pcall (hr_ref07_exprs n.kids y25 hy25)])) (by kernel_rfl)
 rintro ⟨⟩
 exact rS (runS 300 (o13 ++ [pb hb14, pb hb15, pb hb16])) (by kernel_rfl)
 rintro ⟨⟩
 exact rS (runS 300 (o13 ++ [pb hb14])) (by kernel_rfl)
 subst hv
 rintro ⟨⟩
 exact rS (runS 300 (o12 ++ [pb hb13, pcall (ref07_blank_33_step n false hy23)])) (by kernel_rfl)
 refine cndI (fun hb17 => ?_) fun hb17 => ?_
 refine bndI fun y26 hy26 => ?_
 refine cndI (fun hv => ?_) fun hv => ?_
 subst hv
 let o14 : List (PC P G) := o12 ++ [pb hb13, pb hb17, pcall (ref07_blank_48_step n true hy26)]
 refine cndI (fun hb18 => ?_) fun hb18 => ?_
 refine bndI fun x27 hx27 => ?_
 refine bndI fun y28 hy28 => ?_
 refine cndI (fun hv => ?_) fun hv => ?_
 subst hv
 refine bndI fun y29 hy29 => ?_
 intro h
 have hE := Option.some.inj h
 subst hE
 exact rS (runS 300 (o14 ++ [pb hb18, pix (ix25 .lost hx27), pcall (hr_ref07_expr x27 true hy28), pcall (ref07_table_step n.tab y29 hy29)])) (by kernel_rfl)
 subst hv
 rintro ⟨⟩
 exact rS (runS 300 (o14 ++ [pb hb18, pix (ix25 .lost hx27), pcall (hr_ref07_expr x27 false hy28)])) (by kernel_rfl)
 rintro ⟨⟩
 exact rS (runS 300 (o14 ++ [pb hb18])) (by kernel_rfl)
 subst hv
 rintro ⟨⟩
 exact rS (runS 300 (o12 ++ [pb hb13, pb hb17, pcall (ref07_blank_48_step n false hy26)])) (by kernel_rfl)
 rintro ⟨⟩
 exact rS (runS 300 (o12 ++ [pb hb13, pb hb17])) (by kernel_rfl)
noncomputable def B96 : Code := bodyOf Tryz.f96
theorem b96 : Tryz.f96.body = some B96 := by kernel_rfl
noncomputable def ref07_exprs_L1 (r_ref07_expr : Nd → Option Bool) (r_ref07_exprs : (List Nd) → Option Bool)  (i0 : Nat) (e0 : Nd)  : Option (Lp Unit Unit Bool) := (r_ref07_expr e0).bind fun y1 => cond y1 (some (.nx ())) (some (.rt false))
noncomputable def ref07_exprs_B (r_ref07_expr : Nd → Option Bool) (r_ref07_exprs : (List Nd) → Option Bool) (l : (List Nd)) : Option Bool := (lim l.length (foldL (fun i y x => ref07_exprs_L1 r_ref07_expr r_ref07_exprs  i y ) (fun x => ()) (l.drop 0) 0 ())).bind (lpK (fun (_ : Unit) => some true) (fun v => some v))
theorem ref07_exprs_step (r_ref07_expr : Nd → Option Bool) (r_ref07_exprs : (List Nd) → Option Bool) (hr_ref07_expr : ∀ (n : Nd) (yR : Bool), r_ref07_expr n = some yR → Pure P G 64 [.agg (ndC n)] (.sc (.bool yR))) (hr_ref07_exprs : ∀ (l : (List Nd)) (yR : Bool), r_ref07_exprs l = some yR → Pure P G 96 [.sl .lost l.length (ndsC l)] (.sc (.bool yR))) (l : (List Nd)) (yR : Bool) (h : ref07_exprs_B r_ref07_expr r_ref07_exprs l = some yR) : Pure P G 96 [.sl .lost l.length (ndsC l)] (.sc (.bool yR)) := by
 unfold ref07_exprs_B at h
 refine pureM Hd.mixed Hd.plainG (WC_body Tryz.func96 b96 ?_) (plC (layNd.plS l) rfl) rfl
 revert h
 refine bndI fun res hres h => ?_
 have hlen := (limE hres).1
 replace hres := (limE hres).2
 refine go_at [] [0, 2, 3, 7, 13, 14, 15] 0 (sub B96 [1, 0, 1, 0, 0]) [.code (sub B96 [1, 1])] _ _ (runS 300 []) (by kernel_rfl) (foldP (fn := Tryz.f96) (m := 0) (fun v => .sc (.bool v)) 0 l (fun i0 (_ : Unit) (j0 : JJ) => frm 16 0 [(0, .sl .lost l.length (ndsC l)), (3, .sc (.int .i64 ((i0 : Nat) : Int)))] [2, 7, 14, 15] 0 [13] 0 j0) (fun (_ : Nat) (_ : Unit) (_ : JJ) => ⟨[], 0, [], 0⟩) (fun (j : JJ) => plainL j.2 = true) (fun (_ : Unit) (jx : JJ) => frm 16 0 [] [2, 7, 14, 15] 0 [13] 0 jx) (fun (_ : Unit) (_ : JJ) => ⟨[], 0, [], 0⟩) (fun (j : JJ) => plainL j.2 = true) ?_ ?_ 0 hres ?_ ?_ ([.bool false], [.sc undef]) (plC rfl rfl))
 rintro i0 ⟨⟩ j0 hj0 hge hq
 clear h hres
 refine WL_rnd ?_
 exact go_ex Hd.plainG [4, 14, 27, 28, 30] [fq (gn_pl hj0 0)] [] 0 _ _ (runS 300 [pb (B := ltI ((i0 : Nat) : Int) ((l.length : Nat) : Int)) (b := false) (ltF hge)]) (by kernel_rfl) (hq ([(jn j0 0), .bool false, (jn j0 2), (jn j0 3)], [(gn j0 0)]) (plC (gn_pl hj0 0) rfl))
 clear h hres
 rintro i0 e0 ⟨⟩ j0 r hj0 he0 hi0 h k
 refine WL_rnd ?_
 revert h
 show ref07_exprs_L1 r_ref07_expr r_ref07_exprs  i0 e0  = some r → _
 unfold ref07_exprs_L1
 refine bndI fun y1 hy1 => ?_
 let o1 : List (PC P G) := [pb (B := ltI ((i0 : Nat) : Int) ((l.length : Nat) : Int)) (b := true) (ltT hi0), pix (ix25 .lost he0)]
 refine cndI (fun hv => ?_) fun hv => ?_
 subst hv
 rintro ⟨⟩
 exact go_nx Hd.plainG [1, 4, 6, 14, 27, 28, 30] [fq (layNd.plS l), fq (layNd.plG e0)] [] _ _ (runS 300 (o1 ++ [pcall (hr_ref07_expr e0 true hy1), pinc i0 (by omega)])) (by kernel_rfl) (k ([(jn j0 0), .bool true, .bool true, .bool false], [.agg (ndC e0)]) (plC (layNd.plG e0) rfl))
 subst hv
 rintro ⟨⟩
 exact go_retA _ _ (runS 300 (o1 ++ [pcall (hr_ref07_expr e0 false hy1)])) (by kernel_rfl) (.rnd k) .sc
 rintro ⟨⟩ rfl jx_2 hjx_2
 revert h
 clear hres
 dsimp only [lpK]
 intro h
 have hE := Option.some.inj h
 subst hE
 exact go_retA _ _ (runX 300 []) (by kernel_rfl) .body .sc
 rintro v rfl
 dsimp only [lpK] at h
 cases h
 exact .outer .body
mutual
noncomputable def ref07_expr_M : Nat → Nd → Option Bool
 | 0, _ => none
 | qn + 1, n => ref07_expr_B (ref07_expr_M qn) (ref07_exprs_M qn) n
noncomputable def ref07_exprs_M : Nat → (List Nd) → Option Bool
 | 0, _ => none
 | qn + 1, l => ref07_exprs_B (ref07_expr_M qn) (ref07_exprs_M qn) l
end
theorem ref07_expr_all : ∀ qn : Nat, (∀ (n : Nd) (yR : Bool), ref07_expr_M qn n = some yR → Pure P G 64 [.agg (ndC n)] (.sc (.bool yR))) ∧ (∀ (l : (List Nd)) (yR : Bool), ref07_exprs_M qn l = some yR → Pure P G 96 [.sl .lost l.length (ndsC l)] (.sc (.bool yR))) := by
 intro qn
 induction qn with
 | zero => exact ⟨(fun _ _ h => by simp only [ref07_expr_M] at h; cases h), (fun _ _ h => by simp only [ref07_exprs_M] at h; cases h)⟩
 | succ qn ih => exact ⟨(fun n yR h => ref07_expr_step _ _ ih.1 ih.2 n yR (by rw [ref07_expr_M] at h; exact h)), (fun l yR h => ref07_exprs_step _ _ ih.1 ih.2 l yR (by rw [ref07_exprs_M] at h; exact h))⟩
noncomputable def ref07_expr_R (n : Nd) : Option Bool := evt (fun qn => ref07_expr_M qn n)
theorem ref07_expr_ok (n : Nd) (yR : Bool) (h : ref07_expr_R n = some yR) : Pure P G 64 [.agg (ndC n)] (.sc (.bool yR)) := by
 obtain ⟨qn, h⟩ := evtE h
 exact (ref07_expr_all qn).1 n yR h
noncomputable def B98 : Code := bodyOf Tryz.f98
theorem b98 : Tryz.f98.body = some B98 := by kernel_rfl
noncomputable def ref07_head_B  (n : Nd) : Option Bool := cond (eqI n.kind 5) ((ref07_blank_12_B n).bind fun y1 => cond y1 ((ref07_within_B n.n 0 1000000).bind fun y2 => cond y2 ((ref07_within_B n.fr 0 36524).bind fun y3 => cond y3 ((ref07_within_B n.to (wadd n.fr 1) 36525).bind fun y4 => cond y4 ((ref07_within_B n.known 0 36524).bind fun y5 => some y5) (some false)) (some false)) (some false)) (some false)) (some false)
theorem ref07_head_step   (n : Nd) (yR : Bool) (h : ref07_head_B  n = some yR) : Pure P G 98 [.agg (ndC n)] (.sc (.bool yR)) := by
 unfold ref07_head_B at h
 refine pureM Hd.mixed Hd.plainG (WC_body Tryz.func98 b98 ?_) (plC (layNd.plG n) rfl) rfl
 revert h
 refine cndI (fun hb1 => ?_) fun hb1 => ?_
 refine bndI fun y1 hy1 => ?_
 refine cndI (fun hv => ?_) fun hv => ?_
 subst hv
 refine bndI fun y2 hy2 => ?_
 let o1 : List (PC P G) := [pb hb1, pcall (ref07_blank_12_step n true hy1)]
 refine cndI (fun hv => ?_) fun hv => ?_
 subst hv
 refine bndI fun y3 hy3 => ?_
 let o2 : List (PC P G) := o1 ++ [pcall (ref07_within_step n.n 0 1000000 true hy2)]
 refine cndI (fun hv => ?_) fun hv => ?_
 subst hv
 refine bndI fun y4 hy4 => ?_
 refine cndI (fun hv => ?_) fun hv => ?_
 subst hv
 refine bndI fun y5 hy5 => ?_
 intro h
 have hE := Option.some.inj h
 subst hE
 exact rS (runS 300 (o2 ++ [pcall (ref07_within_step n.fr 0 36524 true hy3), pk, pcall (ref07_within_step n.to (wadd n.fr 1) 36525 true hy4), pcall (ref07_within_step n.known 0 36524 y5 hy5)])) (by kernel_rfl)
 subst hv
 rintro ⟨⟩
 exact rS (runS 300 (o2 ++ [pcall (ref07_within_step n.fr 0 36524 true hy3), pk, pcall (ref07_within_step n.to (wadd n.fr 1) 36525 false hy4)])) (by kernel_rfl)
 subst hv
 rintro ⟨⟩
 exact rS (runS 300 (o2 ++ [pcall (ref07_within_step n.fr 0 36524 false hy3)])) (by kernel_rfl)
 subst hv
 rintro ⟨⟩
 exact rS (runS 300 (o1 ++ [pcall (ref07_within_step n.n 0 1000000 false hy2)])) (by kernel_rfl)
 subst hv
 rintro ⟨⟩
 exact rS (runS 300 [pb hb1, pcall (ref07_blank_12_step n false hy1)]) (by kernel_rfl)
 rintro ⟨⟩
 exact rS (runS 300 [pb hb1]) (by kernel_rfl)
noncomputable def B121 : Code := bodyOf Tryz.f121
theorem b121 : Tryz.f121.body = some B121 := by kernel_rfl
noncomputable def ref07_numbers_L1   (i0 : Nat) (e0 : Nd)  : Option (Lp Unit Unit Bool) := (ref07_number_B e0).bind fun y1 => cond y1 (some (.nx ())) (some (.rt false))
noncomputable def ref07_numbers_B  (l : (List Nd)) : Option Bool := (lim l.length (foldL (fun i y x => ref07_numbers_L1   i y ) (fun x => ()) (l.drop 0) 0 ())).bind (lpK (fun (_ : Unit) => cond (ltI 0 ((l.length : Nat) : Int)) (some true) (some false)) (fun v => some v))
theorem ref07_numbers_step   (l : (List Nd)) (yR : Bool) (h : ref07_numbers_B  l = some yR) : Pure P G 121 [.sl .lost l.length (ndsC l)] (.sc (.bool yR)) := by
 unfold ref07_numbers_B at h
 refine pureM Hd.mixed Hd.plainG (WC_body Tryz.func121 b121 ?_) (plC (layNd.plS l) rfl) rfl
 revert h
 refine bndI fun res hres h => ?_
 have hlen := (limE hres).1
 replace hres := (limE hres).2
 refine go_at [] [0, 2, 3, 7, 13, 14, 15, 18] 0 (sub B121 [1, 0, 1, 0, 0]) [.code (sub B121 [1, 1])] _ _ (runS 300 []) (by kernel_rfl) (foldP (fn := Tryz.f121) (m := 0) (fun v => .sc (.bool v)) 0 l (fun i0 (_ : Unit) (j0 : JJ) => frm 19 0 [(0, .sl .lost l.length (ndsC l)), (3, .sc (.int .i64 ((i0 : Nat) : Int)))] [2, 7, 14, 15, 18] 0 [13] 0 j0) (fun (_ : Nat) (_ : Unit) (_ : JJ) => ⟨[], 0, [], 0⟩) (fun (j : JJ) => plainL j.2 = true) (fun (_ : Unit) (jx : JJ) => frm 19 0 [(0, .sl .lost l.length (ndsC l))] [2, 7, 14, 15, 18] 0 [13] 0 jx) (fun (_ : Unit) (_ : JJ) => ⟨[], 0, [], 0⟩) (fun (j : JJ) => plainL j.2 = true) ?_ ?_ 0 hres ?_ ?_ ([.bool false], [.sc undef]) (plC rfl rfl))
 rintro i0 ⟨⟩ j0 hj0 hge hq
 clear h hres
 refine WL_rnd ?_
 exact go_ex Hd.plainG [1, 4, 14, 27, 28, 30, 36] [fq (layNd.plS l), fq (gn_pl hj0 0)] [] 0 _ _ (runS 300 [pb (B := ltI ((i0 : Nat) : Int) ((l.length : Nat) : Int)) (b := false) (ltF hge)]) (by kernel_rfl) (hq ([(jn j0 0), .bool false, (jn j0 2), (jn j0 3), (jn j0 4)], [(gn j0 0)]) (plC (gn_pl hj0 0) rfl))
 clear h hres
 rintro i0 e0 ⟨⟩ j0 r hj0 he0 hi0 h k
 refine WL_rnd ?_
 revert h
 show ref07_numbers_L1   i0 e0  = some r → _
 unfold ref07_numbers_L1
 refine bndI fun y1 hy1 => ?_
 let o1 : List (PC P G) := [pb (B := ltI ((i0 : Nat) : Int) ((l.length : Nat) : Int)) (b := true) (ltT hi0), pix (ix25 .lost he0)]
 refine cndI (fun hv => ?_) fun hv => ?_
 subst hv
 rintro ⟨⟩
 exact go_nx Hd.plainG [1, 4, 6, 14, 27, 28, 30, 36] [fq (layNd.plS l), fq (layNd.plG e0)] [] _ _ (runS 300 (o1 ++ [pcall (ref07_number_step e0 true hy1), pinc i0 (by omega)])) (by kernel_rfl) (k ([(jn j0 0), .bool true, .bool true, .bool false, (jn j0 4)], [.agg (ndC e0)]) (plC (layNd.plG e0) rfl))
 subst hv
 rintro ⟨⟩
 exact go_retA _ _ (runS 300 (o1 ++ [pcall (ref07_number_step e0 false hy1)])) (by kernel_rfl) (.rnd k) .sc
 rintro ⟨⟩ rfl jx_2 hjx_2
 revert h
 clear hres
 dsimp only [lpK]
 refine cndI (fun hb1 => ?_) fun hb1 => ?_
 intro h
 have hE := Option.some.inj h
 subst hE
 exact go_retA _ _ (runX 300 [pb hb1]) (by kernel_rfl) .body .sc
 intro h
 have hE := Option.some.inj h
 subst hE
 exact go_retA _ _ (runX 300 [pb hb1]) (by kernel_rfl) .body .sc
 rintro v rfl
 dsimp only [lpK] at h
 cases h
 exact .outer .body
noncomputable def B99 : Code := bodyOf Tryz.f99
theorem b99 : Tryz.f99.body = some B99 := by kernel_rfl
noncomputable def ref07_clauses_L1   (i0 : Nat) (e0 : Nd) (unless3 : Int) (amount4 : Int) : Option (Lp (Int × Int) (Int × Int) Bool) := (ref07_blank_32_B e0).bind fun y1 => cond y1 (cond (eqI e0.kind 6) (cond (eqI ((e0.kids.length : Nat) : Int) 1) ((e0.kids[0]?).bind fun x2 => (ref07_expr_R x2).bind fun y3 => cond y3 (some (.nx (unless3, amount4))) (some (.rt false))) (some (.rt false))) (cond (eqI e0.kind 8) (cond (eqI ((e0.kids.length : Nat) : Int) 1) ((e0.kids[0]?).bind fun x4 => (ref07_expr_R x4).bind fun y5 => cond y5 (some (.nx (unless3, (wadd amount4 1)))) (some (.rt false))) (some (.rt false))) (cond (eqI e0.kind 7) ((ref07_numbers_B e0.kids).bind fun y6 => cond y6 (some (.nx ((wadd unless3 1), amount4))) (some (.rt false))) (some (.rt false))))) (some (.rt false))
noncomputable def ref07_clauses_B  (l : (List Nd)) : Option Bool := (lim l.length (foldL (fun i y x => ref07_clauses_L1   i y x.1 x.2) (fun x => (x.1, x.2)) (l.drop 0) 0 (0, 0))).bind (lpK (fun ((unless3_7, amount4_7) : (Int × Int)) => cond (leI unless3_7 1) (cond (eqI amount4_7 1) (some true) (some false)) (some false)) (fun v => some v))
theorem ref07_clauses_step   (l : (List Nd)) (yR : Bool) (h : ref07_clauses_B  l = some yR) : Pure P G 99 [.sl .lost l.length (ndsC l)] (.sc (.bool yR)) := by
 unfold ref07_clauses_B at h
 refine pureM Hd.mixed Hd.plainG (WC_body Tryz.func99 b99 ?_) (plC (layNd.plS l) rfl) rfl
 revert h
 refine bndI fun res hres h => ?_
 have hlen := (limE hres).1
 replace hres := (limE hres).2
 refine go_at [] [0, 2, 3, 4, 5, 9, 15, 16, 17, 23, 24, 25, 32, 33, 40, 41, 42, 43, 49, 52, 53, 61, 62, 64, 65, 67, 68] 0 (sub B99 [1, 1, 1, 0, 1, 0, 0]) [.code (sub B99 [1, 1, 1, 1])] _ _ (runS 300 []) (by kernel_rfl) (foldP (fn := Tryz.f99) (m := 0) (fun v => .sc (.bool v)) 0 l (fun i0 ((unless3, amount4) : (Int × Int)) (j0 : JJ) => frm 69 0 [(0, .sl .lost l.length (ndsC l)), (3, .sc (.int .i64 unless3)), (4, .sc (.int .i64 amount4)), (5, .sc (.int .i64 ((i0 : Nat) : Int)))] [2, 9, 16, 17, 23, 24, 25, 32, 33, 41, 42, 43, 49, 52, 53, 61, 62, 64, 65, 67, 68] 0 [15, 40] 0 j0) (fun (_ : Nat) ((unless3, amount4) : (Int × Int)) (_ : JJ) => ⟨[], 0, [], 0⟩) (fun (j : JJ) => plainL j.2 = true) (fun ((unless3, amount4) : (Int × Int)) (jx : JJ) => frm 69 0 [(3, .sc (.int .i64 unless3)), (4, .sc (.int .i64 amount4))] [2, 9, 16, 17, 23, 24, 25, 32, 33, 41, 42, 43, 49, 52, 53, 61, 62, 64, 65, 67, 68] 0 [15, 40] 0 jx) (fun ((unless3, amount4) : (Int × Int)) (_ : JJ) => ⟨[], 0, [], 0⟩) (fun (j : JJ) => plainL j.2 = true) ?_ ?_ 0 hres ?_ ?_ ([.bool false], [.sc undef, .sc undef]) (plC rfl (plC rfl rfl)))
 rintro i0 ⟨unless3, amount4⟩ j0 hj0 hge hq
 clear h hres
 refine WL_rnd ?_
 exact go_ex Hd.plainG [4, 6, 8, 18, 31, 32, 34, 46, 48, 50, 64, 66, 81, 82, 84, 86, 98, 104, 106, 122, 124, 128, 130, 134, 136] [fq (gn_pl hj0 0), fq (gn_pl hj0 1)] [] 0 _ _ (runS 300 [pb (B := ltI ((i0 : Nat) : Int) ((l.length : Nat) : Int)) (b := false) (ltF hge)]) (by kernel_rfl) (hq ([(jn j0 0), .bool false, (jn j0 2), (jn j0 3), (jn j0 4), (jn j0 5), (jn j0 6), (jn j0 7), (jn j0 8), (jn j0 9), (jn j0 10), (jn j0 11), (jn j0 12), (jn j0 13), (jn j0 14), (jn j0 15), (jn j0 16), (jn j0 17), (jn j0 18), (jn j0 19), (jn j0 20)], [(gn j0 0), (gn j0 1)]) (plC (gn_pl hj0 0) (plC (gn_pl hj0 1) rfl)))
 clear h hres
 rintro i0 e0 ⟨unless3, amount4⟩ j0 r hj0 he0 hi0 h k
 refine WL_rnd ?_
 revert h
 show ref07_clauses_L1   i0 e0 unless3 amount4 = some r → _
 unfold ref07_clauses_L1
 refine bndI fun y1 hy1 => ?_
 let o1 : List (PC P G) := [pb (B := ltI ((i0 : Nat) : Int) ((l.length : Nat) : Int)) (b := true) (ltT hi0), pix (ix25 .lost he0)]
 refine cndI (fun hv => ?_) fun hv => ?_
 subst hv
 let o2 : List (PC P G) := o1 ++ [pcall (ref07_blank_32_step e0 true hy1), pix (ix25 .lost he0)]
 refine cndI (fun hb1 => ?_) fun hb1 => ?_
 refine cndI (fun hb2 => ?_) fun hb2 => ?_
 refine bndI fun x2 hx2 => ?_
 refine bndI fun y3 hy3 => ?_
 let o3 : List (PC P G) := o2 ++ [pb hb1, pix (ix25 .lost he0), pn hb2, pix (ix25 .lost he0), pix (ix25 .lost hx2)]
 refine cndI (fun hv => ?_) fun hv => ?_
 subst hv
 rintro ⟨⟩
 exact go_nx Hd.plainG [1, 4, 6, 8, 10, 18, 31, 32, 34, 46, 48, 50, 64, 66, 81, 82, 84, 86, 98, 104, 106, 122, 124, 128, 130, 134, 136] [fq (layNd.plS l), fq (layNd.plG e0), fq (layNd.plG x2)] [] _ _ (runS 300 (o3 ++ [pcall (ref07_expr_ok x2 true hy3), pix (ix25 .lost he0), pb (B := eqI e0.kind 8) (b := false) (by rw [eqI_T hb1]; rfl), pinc i0 (by omega)])) (by kernel_rfl) (k ([(jn j0 0), .bool true, .bool true, .bool false, .bool true, .bool true, (jn j0 6), .bool false, .bool false, .bool true, .bool false, .bool false, .bool false, (jn j0 13), (jn j0 14), (jn j0 15), (jn j0 16), (jn j0 17), (jn j0 18), (jn j0 19), (jn j0 20)], [.agg (ndC e0), .agg (ndC x2)]) (plC (layNd.plG e0) (plC (layNd.plG x2) rfl)))
 subst hv
 rintro ⟨⟩
 exact go_retA _ _ (runS 300 (o3 ++ [pcall (ref07_expr_ok x2 false hy3)])) (by kernel_rfl) (.rnd k) .sc
 rintro ⟨⟩
 exact go_retA _ _ (runS 300 (o2 ++ [pb hb1, pix (ix25 .lost he0), pn hb2])) (by kernel_rfl) (.rnd k) .sc
 refine cndI (fun hb3 => ?_) fun hb3 => ?_
 refine cndI (fun hb4 => ?_) fun hb4 => ?_
 refine bndI fun x4 hx4 => ?_
 refine bndI fun y5 hy5 => ?_
 let o4 : List (PC P G) := o2 ++ [pb hb1, pb hb3, pix (ix25 .lost he0), pn hb4, pix (ix25 .lost he0), pix (ix25 .lost hx4)]
 refine cndI (fun hv => ?_) fun hv => ?_
 subst hv
 rintro ⟨⟩
 exact go_nx Hd.plainG [1, 4, 6, 8, 10, 18, 31, 32, 34, 46, 48, 50, 64, 66, 81, 82, 84, 86, 98, 104, 106, 122, 124, 128, 130, 134, 136] [fq (layNd.plS l), fq (layNd.plG e0), fq (layNd.plG x4)] [] _ _ (runS 300 (o4 ++ [pcall (ref07_expr_ok x4 true hy5), pix (ix25 .lost he0), pb hb3, pk, pinc i0 (by omega)])) (by kernel_rfl) (k ([(jn j0 0), .bool true, .bool true, .bool false, .bool true, .bool false, .bool true, .bool false, .bool false, .bool true, .bool false, .bool false, .bool true, (jn j0 13), (jn j0 14), (jn j0 15), (jn j0 16), (jn j0 17), (jn j0 18), (jn j0 19), (jn j0 20)], [.agg (ndC e0), .agg (ndC x4)]) (plC (layNd.plG e0) (plC (layNd.plG x4) rfl)))
 subst hv
 rintro ⟨⟩
 exact go_retA _ _ (runS 300 (o4 ++ [pcall (ref07_expr_ok x4 false hy5)])) (by kernel_rfl) (.rnd k) .sc
 rintro ⟨⟩
 exact go_retA _ _ (runS 300 (o2 ++ [pb hb1, pb hb3, pix (ix25 .lost he0), pn hb4])) (by kernel_rfl) (.rnd k) .sc
 refine cndI (fun hb5 => ?_) fun hb5 => ?_
 refine bndI fun y6 hy6 => ?_
 refine cndI (fun hv => ?_) fun hv => ?_
 subst hv
 rintro ⟨⟩
 exact go_nx Hd.plainG [1, 4, 6, 8, 10, 18, 31, 32, 34, 46, 48, 50, 64, 66, 81, 82, 84, 86, 98, 104, 106, 122, 124, 128, 130, 134, 136] [fq (layNd.plS l), fq (layNd.plG e0), fq (gn_pl hj0 1)] [] _ _ (runS 300 (o2 ++ [pb hb1, pb hb3, pb hb5, pk, pix (ix25 .lost he0), pcall (ref07_numbers_step e0.kids true hy6), pinc i0 (by omega)])) (by kernel_rfl) (k ([(jn j0 0), .bool true, .bool true, .bool false, .bool false, .bool false, .bool false, (jn j0 7), (jn j0 8), (jn j0 9), (jn j0 10), (jn j0 11), (jn j0 12), .bool true, .bool true, .bool true, .bool false, (jn j0 17), (jn j0 18), (jn j0 19), (jn j0 20)], [.agg (ndC e0), (gn j0 1)]) (plC (layNd.plG e0) (plC (gn_pl hj0 1) rfl)))
 subst hv
 rintro ⟨⟩
 exact go_retA _ _ (runS 300 (o2 ++ [pb hb1, pb hb3, pb hb5, pk, pix (ix25 .lost he0), pcall (ref07_numbers_step e0.kids false hy6)])) (by kernel_rfl) (.rnd k) .sc
 rintro ⟨⟩
 exact go_retA _ _ (runS 300 (o2 ++ [pb hb1, pb hb3, pb hb5])) (by kernel_rfl) (.rnd k) .sc
 subst hv
 rintro ⟨⟩
 exact go_retA _ _ (runS 300 (o1 ++ [pcall (ref07_blank_32_step e0 false hy1)])) (by kernel_rfl) (.rnd k) .sc
 rintro ⟨unless3_7, amount4_7⟩ rfl jx_7 hjx_7
 revert h
 clear hres
 dsimp only [lpK]
 refine cndI (fun hb6 => ?_) fun hb6 => ?_
 refine cndI (fun hb7 => ?_) fun hb7 => ?_
 intro h
 have hE := Option.some.inj h
 subst hE
 exact go_retA _ _ (runX 300 [pb hb6, pb hb7]) (by kernel_rfl) .body .sc
 intro h
 have hE := Option.some.inj h
 subst hE
 exact go_retA _ _ (runX 300 [pb hb6, pb hb7]) (by kernel_rfl) .body .sc
 intro h
 have hE := Option.some.inj h
 subst hE
 exact go_retA _ _ (runX 300 [pb hb6]) (by kernel_rfl) .body .sc
 rintro v rfl
 dsimp only [lpK] at h
 cases h
 exact .outer .body
noncomputable def B65 : Code := bodyOf Tryz.f65
theorem b65 : Tryz.f65.body = some B65 := by kernel_rfl
noncomputable def ref07_item_B  (n : Nd) : Option Bool := (ref07_Name_B n.name).bind fun y1 => cond y1 ((ref07_Cur_B n.unit).bind fun y2 => cond y2 (cond (eqI n.kind 2) ((ref07_blank_3_B n).bind fun y3 => cond y3 (some true) (some false)) (cond (eqI n.kind 3) ((ref07_blank_7_B n).bind fun y4 => cond y4 ((ref07_within_B n.n 1 4).bind fun y5 => some y5) (some false)) (cond (eqI n.kind 4) ((ref07_blank_37_B n).bind fun y6 => cond y6 ((ref07_within_B n.n 1 1000000).bind fun y7 => cond y7 ((some (ltI 1 ((n.kids.length : Nat) : Int))).bind fun q8 => cond q8 ((n.kids[0]?).bind fun x9 => (ref07_head_B x9).bind fun y10 => cond y10 ((subl n.kids 1 ((n.kids.length : Nat) : Int)).bind fun l11 => (ref07_clauses_B l11).bind fun y12 => some y12) (some false)) (some false)) (some false)) (some false)) (some false)))) ((some (eqB n.unit.data.toList truthS.data.toList)).bind fun q13 => cond q13 (cond (eqI n.kind 2) ((ref07_blank_3_B n).bind fun y14 => cond y14 (some true) (some false)) (cond (eqI n.kind 3) ((ref07_blank_7_B n).bind fun y15 => cond y15 ((ref07_within_B n.n 1 4).bind fun y16 => some y16) (some false)) (cond (eqI n.kind 4) ((ref07_blank_37_B n).bind fun y17 => cond y17 ((ref07_within_B n.n 1 1000000).bind fun y18 => cond y18 ((some (ltI 1 ((n.kids.length : Nat) : Int))).bind fun q19 => cond q19 ((n.kids[0]?).bind fun x20 => (ref07_head_B x20).bind fun y21 => cond y21 ((subl n.kids 1 ((n.kids.length : Nat) : Int)).bind fun l22 => (ref07_clauses_B l22).bind fun y23 => some y23) (some false)) (some false)) (some false)) (some false)) (some false)))) ((some (eqB n.unit.data.toList numberS.data.toList)).bind fun q24 => cond q24 (cond (eqI n.kind 2) ((ref07_blank_3_B n).bind fun y25 => cond y25 (some true) (some false)) (cond (eqI n.kind 3) ((ref07_blank_7_B n).bind fun y26 => cond y26 ((ref07_within_B n.n 1 4).bind fun y27 => some y27) (some false)) (cond (eqI n.kind 4) ((ref07_blank_37_B n).bind fun y28 => cond y28 ((ref07_within_B n.n 1 1000000).bind fun y29 => cond y29 ((some (ltI 1 ((n.kids.length : Nat) : Int))).bind fun q30 => cond q30 ((n.kids[0]?).bind fun x31 => (ref07_head_B x31).bind fun y32 => cond y32 ((subl n.kids 1 ((n.kids.length : Nat) : Int)).bind fun l33 => (ref07_clauses_B l33).bind fun y34 => some y34) (some false)) (some false)) (some false)) (some false)) (some false)))) ((some (eqB n.unit.data.toList minutesS.data.toList)).bind fun q35 => cond (eqI n.kind 2) ((ref07_blank_3_B n).bind fun y36 => cond y36 (some q35) (some false)) (cond (eqI n.kind 3) ((ref07_blank_7_B n).bind fun y37 => cond y37 (cond q35 ((ref07_within_B n.n 1 4).bind fun y38 => some y38) (some false)) (some false)) (cond (eqI n.kind 4) ((ref07_blank_37_B n).bind fun y39 => cond y39 ((ref07_within_B n.n 1 1000000).bind fun y40 => cond y40 ((some (ltI 1 ((n.kids.length : Nat) : Int))).bind fun q41 => cond q41 ((n.kids[0]?).bind fun x42 => (ref07_head_B x42).bind fun y43 => cond y43 ((subl n.kids 1 ((n.kids.length : Nat) : Int)).bind fun l44 => (ref07_clauses_B l44).bind fun y45 => some y45) (some false)) (some false)) (some false)) (some false)) (some false))))))) (some false)
theorem ref07_item_step   (n : Nd) (yR : Bool) (h : ref07_item_B  n = some yR) : Pure P G 65 [.agg (ndC n)] (.sc (.bool yR)) := by
 unfold ref07_item_B at h
 refine pureM Hd.mixed Hd.plainG (WC_body Tryz.func65 b65 ?_) (plC (layNd.plG n) rfl) rfl
 revert h
 refine bndI fun y1 hy1 => ?_
 refine cndI (fun hv => ?_) fun hv => ?_
 subst hv
 refine bndI fun y2 hy2 => ?_
 let o1 : List (PC P G) := [pcall (ref07_Name_step n.name true hy1)]
 refine cndI (fun hv => ?_) fun hv => ?_
 subst hv
 let o2 : List (PC P G) := o1 ++ [pcall (ref07_Cur_step n.unit true hy2)]
 refine cndI (fun hb1 => ?_) fun hb1 => ?_
 refine bndI fun y3 hy3 => ?_
 refine cndI (fun hv => ?_) fun hv => ?_
 subst hv
 rintro ⟨⟩
 exact rS (runS 300 (o2 ++ [pb hb1, pcall (ref07_blank_3_step n true hy3)])) (by kernel_rfl)
 subst hv
 rintro ⟨⟩
 exact rS (runS 300 (o2 ++ [pb hb1, pcall (ref07_blank_3_step n false hy3)])) (by kernel_rfl)
 refine cndI (fun hb2 => ?_) fun hb2 => ?_
 refine bndI fun y4 hy4 => ?_
 refine cndI (fun hv => ?_) fun hv => ?_
 subst hv
 refine bndI fun y5 hy5 => ?_
 intro h
 have hE := Option.some.inj h
 subst hE
 exact rS (runS 300 (o2 ++ [pb hb1, pb hb2, pcall (ref07_blank_7_step n true hy4), pcall (ref07_within_step n.n 1 4 y5 hy5)])) (by kernel_rfl)
 subst hv
 rintro ⟨⟩
 exact rS (runS 300 (o2 ++ [pb hb1, pb hb2, pcall (ref07_blank_7_step n false hy4)])) (by kernel_rfl)
 let o3 : List (PC P G) := o2 ++ [pb hb1, pb hb2]
 refine cndI (fun hb3 => ?_) fun hb3 => ?_
 refine bndI fun y6 hy6 => ?_
 refine cndI (fun hv => ?_) fun hv => ?_
 subst hv
 refine bndI fun y7 hy7 => ?_
 let o4 : List (PC P G) := o3 ++ [pb hb3, pcall (ref07_blank_37_step n true hy6)]
 refine cndI (fun hv => ?_) fun hv => ?_
 subst hv
 refine bndI fun q8 hq8 => ?_
 let o5 : List (PC P G) := o4 ++ [pcall (ref07_within_step n.n 1 1000000 true hy7), pbin (zgtr3 hq8 (.tmp 59) (.const (.int .i64 1)))]
 refine cndI (fun hv => ?_) fun hv => ?_
 subst hv
 refine bndI fun x9 hx9 => ?_
 refine bndI fun y10 hy10 => ?_
 refine cndI (fun hv => ?_) fun hv => ?_
 subst hv
 refine bndI fun l11 hl11 => ?_
 refine bndI fun y12 hy12 => ?_
 intro h
 have hE := Option.some.inj h
 subst hE
 exact rS (runS 300 (o5 ++ [pix (ix25 .lost hx9), pcall (ref07_head_step x9 true hy10), psli (sublL25 hl11), pcall (ref07_clauses_step l11 y12 hy12)])) (by kernel_rfl)
 subst hv
 rintro ⟨⟩
 exact rS (runS 300 (o5 ++ [pix (ix25 .lost hx9), pcall (ref07_head_step x9 false hy10)])) (by kernel_rfl)
 subst hv
 rintro ⟨⟩
 exact rS (runS 300 o5) (by kernel_rfl)
 subst hv
 rintro ⟨⟩
 exact rS (runS 300 (o4 ++ [pcall (ref07_within_step n.n 1 1000000 false hy7)])) (by kernel_rfl)
 subst hv
 rintro ⟨⟩
 exact rS (runS 300 (o3 ++ [pb hb3, pcall (ref07_blank_37_step n false hy6)])) (by kernel_rfl)
 rintro ⟨⟩
 exact rS (runS 300 (o3 ++ [pb hb3])) (by kernel_rfl)
 subst hv
 refine bndI fun q13 hq13 => ?_
 let o6 : List (PC P G) := o1 ++ [pcall (ref07_Cur_step n.unit false hy2), pbin (zeql9 hq13 (.tmp 13) (.const (.string truthS)))]
 refine cndI (fun hv => ?_) fun hv => ?_
 subst hv
 refine cndI (fun hb4 => ?_) fun hb4 => ?_
 refine bndI fun y14 hy14 => ?_
 refine cndI (fun hv => ?_) fun hv => ?_
 subst hv
 rintro ⟨⟩
 exact rS (runS 300 (o6 ++ [pb hb4, pcall (ref07_blank_3_step n true hy14)])) (by kernel_rfl)
 subst hv
 rintro ⟨⟩
 exact rS (runS 300 (o6 ++ [pb hb4, pcall (ref07_blank_3_step n false hy14)])) (by kernel_rfl)
 refine cndI (fun hb5 => ?_) fun hb5 => ?_
 refine bndI fun y15 hy15 => ?_
 refine cndI (fun hv => ?_) fun hv => ?_
 subst hv
 refine bndI fun y16 hy16 => ?_
 intro h
 have hE := Option.some.inj h
 subst hE
 exact rS (runS 300 (o6 ++ [pb hb4, pb hb5, pcall (ref07_blank_7_step n true hy15), pcall (ref07_within_step n.n 1 4 y16 hy16)])) (by kernel_rfl)
 subst hv
 rintro ⟨⟩
 exact rS (runS 300 (o6 ++ [pb hb4, pb hb5, pcall (ref07_blank_7_step n false hy15)])) (by kernel_rfl)
 let o7 : List (PC P G) := o6 ++ [pb hb4, pb hb5]
 refine cndI (fun hb6 => ?_) fun hb6 => ?_
 refine bndI fun y17 hy17 => ?_
 refine cndI (fun hv => ?_) fun hv => ?_
 subst hv
 refine bndI fun y18 hy18 => ?_
 let o8 : List (PC P G) := o7 ++ [pb hb6, pcall (ref07_blank_37_step n true hy17)]
 refine cndI (fun hv => ?_) fun hv => ?_
 subst hv
 refine bndI fun q19 hq19 => ?_
 let o9 : List (PC P G) := o8 ++ [pcall (ref07_within_step n.n 1 1000000 true hy18), pbin (zgtr3 hq19 (.tmp 59) (.const (.int .i64 1)))]
 refine cndI (fun hv => ?_) fun hv => ?_
 subst hv
 refine bndI fun x20 hx20 => ?_
 refine bndI fun y21 hy21 => ?_
 refine cndI (fun hv => ?_) fun hv => ?_
 subst hv
 refine bndI fun l22 hl22 => ?_
 refine bndI fun y23 hy23 => ?_
 intro h
 have hE := Option.some.inj h
 subst hE
 exact rS (runS 300 (o9 ++ [pix (ix25 .lost hx20), pcall (ref07_head_step x20 true hy21), psli (sublL25 hl22), pcall (ref07_clauses_step l22 y23 hy23)])) (by kernel_rfl)
 subst hv
 rintro ⟨⟩
 exact rS (runS 300 (o9 ++ [pix (ix25 .lost hx20), pcall (ref07_head_step x20 false hy21)])) (by kernel_rfl)
 subst hv
 rintro ⟨⟩
 exact rS (runS 300 o9) (by kernel_rfl)
 subst hv
 rintro ⟨⟩
 exact rS (runS 300 (o8 ++ [pcall (ref07_within_step n.n 1 1000000 false hy18)])) (by kernel_rfl)
 subst hv
 rintro ⟨⟩
 exact rS (runS 300 (o7 ++ [pb hb6, pcall (ref07_blank_37_step n false hy17)])) (by kernel_rfl)
 rintro ⟨⟩
 exact rS (runS 300 (o7 ++ [pb hb6])) (by kernel_rfl)
 subst hv
 refine bndI fun q24 hq24 => ?_
 let o10 : List (PC P G) := o6 ++ [pbin (zeql9 hq24 (.tmp 18) (.const (.string numberS)))]
 refine cndI (fun hv => ?_) fun hv => ?_
 subst hv
 refine cndI (fun hb7 => ?_) fun hb7 => ?_
 refine bndI fun y25 hy25 => ?_
 refine cndI (fun hv => ?_) fun hv => ?_
 subst hv
 rintro ⟨⟩
 exact rS (runS 300 (o10 ++ [pb hb7, pcall (ref07_blank_3_step n true hy25)])) (by kernel_rfl)
 subst hv
 rintro ⟨⟩
 exact rS (runS 300 (o10 ++ [pb hb7, pcall (ref07_blank_3_step n false hy25)])) (by kernel_rfl)
 refine cndI (fun hb8 => ?_) fun hb8 => ?_
 refine bndI fun y26 hy26 => ?_
 refine cndI (fun hv => ?_) fun hv => ?_
 subst hv
 refine bndI fun y27 hy27 => ?_
 intro h
 have hE := Option.some.inj h
 subst hE
 exact rS (runS 300 (o10 ++ [pb hb7, pb hb8, pcall (ref07_blank_7_step n true hy26), pcall (ref07_within_step n.n 1 4 y27 hy27)])) (by kernel_rfl)
 subst hv
 rintro ⟨⟩
 exact rS (runS 300 (o10 ++ [pb hb7, pb hb8, pcall (ref07_blank_7_step n false hy26)])) (by kernel_rfl)
 let o11 : List (PC P G) := o10 ++ [pb hb7, pb hb8]
 refine cndI (fun hb9 => ?_) fun hb9 => ?_
 refine bndI fun y28 hy28 => ?_
 refine cndI (fun hv => ?_) fun hv => ?_
 subst hv
 refine bndI fun y29 hy29 => ?_
 let o12 : List (PC P G) := o11 ++ [pb hb9, pcall (ref07_blank_37_step n true hy28)]
 refine cndI (fun hv => ?_) fun hv => ?_
 subst hv
 refine bndI fun q30 hq30 => ?_
 let o13 : List (PC P G) := o12 ++ [pcall (ref07_within_step n.n 1 1000000 true hy29), pbin (zgtr3 hq30 (.tmp 59) (.const (.int .i64 1)))]
 refine cndI (fun hv => ?_) fun hv => ?_
 subst hv
 refine bndI fun x31 hx31 => ?_
 refine bndI fun y32 hy32 => ?_
 refine cndI (fun hv => ?_) fun hv => ?_
 subst hv
 refine bndI fun l33 hl33 => ?_
 refine bndI fun y34 hy34 => ?_
 intro h
 have hE := Option.some.inj h
 subst hE
 exact rS (runS 300 (o13 ++ [pix (ix25 .lost hx31), pcall (ref07_head_step x31 true hy32), psli (sublL25 hl33), pcall (ref07_clauses_step l33 y34 hy34)])) (by kernel_rfl)
 subst hv
 rintro ⟨⟩
 exact rS (runS 300 (o13 ++ [pix (ix25 .lost hx31), pcall (ref07_head_step x31 false hy32)])) (by kernel_rfl)
 subst hv
 rintro ⟨⟩
 exact rS (runS 300 o13) (by kernel_rfl)
 subst hv
 rintro ⟨⟩
 exact rS (runS 300 (o12 ++ [pcall (ref07_within_step n.n 1 1000000 false hy29)])) (by kernel_rfl)
 subst hv
 rintro ⟨⟩
 exact rS (runS 300 (o11 ++ [pb hb9, pcall (ref07_blank_37_step n false hy28)])) (by kernel_rfl)
 rintro ⟨⟩
 exact rS (runS 300 (o11 ++ [pb hb9])) (by kernel_rfl)
 subst hv
 refine bndI fun q35 hq35 => ?_
 let o14 : List (PC P G) := o10 ++ [pbin (zeql9 hq35 (.tmp 23) (.const (.string minutesS)))]
 refine cndI (fun hb10 => ?_) fun hb10 => ?_
 refine bndI fun y36 hy36 => ?_
 refine cndI (fun hv => ?_) fun hv => ?_
 subst hv
 intro h
 have hE := Option.some.inj h
 subst hE
 exact rS (runS 300 (o14 ++ [pb hb10, pcall (ref07_blank_3_step n true hy36)])) (by kernel_rfl)
 subst hv
 rintro ⟨⟩
 exact rS (runS 300 (o14 ++ [pb hb10, pcall (ref07_blank_3_step n false hy36)])) (by kernel_rfl)
 refine cndI (fun hb11 => ?_) fun hb11 => ?_
 refine bndI fun y37 hy37 => ?_
 refine cndI (fun hv => ?_) fun hv => ?_
 subst hv
 refine cndI (fun hv => ?_) fun hv => ?_
 subst hv
 refine bndI fun y38 hy38 => ?_
 intro h
 have hE := Option.some.inj h
 subst hE
 exact rS (runS 300 (o14 ++ [pb hb10, pb hb11, pcall (ref07_blank_7_step n true hy37), pcall (ref07_within_step n.n 1 4 y38 hy38)])) (by kernel_rfl)
 subst hv
 rintro ⟨⟩
 exact rS (runS 300 (o14 ++ [pb hb10, pb hb11, pcall (ref07_blank_7_step n true hy37)])) (by kernel_rfl)
 subst hv
 rintro ⟨⟩
 exact rS (runS 300 (o14 ++ [pb hb10, pb hb11, pcall (ref07_blank_7_step n false hy37)])) (by kernel_rfl)
 let o15 : List (PC P G) := o14 ++ [pb hb10, pb hb11]
 refine cndI (fun hb12 => ?_) fun hb12 => ?_
 refine bndI fun y39 hy39 => ?_
 refine cndI (fun hv => ?_) fun hv => ?_
 subst hv
 refine bndI fun y40 hy40 => ?_
 let o16 : List (PC P G) := o15 ++ [pb hb12, pcall (ref07_blank_37_step n true hy39)]
 refine cndI (fun hv => ?_) fun hv => ?_
 subst hv
 refine bndI fun q41 hq41 => ?_
 let o17 : List (PC P G) := o16 ++ [pcall (ref07_within_step n.n 1 1000000 true hy40), pbin (zgtr3 hq41 (.tmp 59) (.const (.int .i64 1)))]
 refine cndI (fun hv => ?_) fun hv => ?_
 subst hv
 refine bndI fun x42 hx42 => ?_
 refine bndI fun y43 hy43 => ?_
 refine cndI (fun hv => ?_) fun hv => ?_
 subst hv
 refine bndI fun l44 hl44 => ?_
 refine bndI fun y45 hy45 => ?_
 intro h
 have hE := Option.some.inj h
 subst hE
 exact rS (runS 300 (o17 ++ [pix (ix25 .lost hx42), pcall (ref07_head_step x42 true hy43), psli (sublL25 hl44), pcall (ref07_clauses_step l44 y45 hy45)])) (by kernel_rfl)
 subst hv
 rintro ⟨⟩
 exact rS (runS 300 (o17 ++ [pix (ix25 .lost hx42), pcall (ref07_head_step x42 false hy43)])) (by kernel_rfl)
 subst hv
 rintro ⟨⟩
 exact rS (runS 300 o17) (by kernel_rfl)
 subst hv
 rintro ⟨⟩
 exact rS (runS 300 (o16 ++ [pcall (ref07_within_step n.n 1 1000000 false hy40)])) (by kernel_rfl)
 subst hv
 rintro ⟨⟩
 exact rS (runS 300 (o15 ++ [pb hb12, pcall (ref07_blank_37_step n false hy39)])) (by kernel_rfl)
 rintro ⟨⟩
 exact rS (runS 300 (o15 ++ [pb hb12])) (by kernel_rfl)
 subst hv
 rintro ⟨⟩
 exact rS (runS 300 [pcall (ref07_Name_step n.name false hy1)]) (by kernel_rfl)
noncomputable def B39 : Code := bodyOf Tryz.f39
theorem b39 : Tryz.f39.body = some B39 := by kernel_rfl
noncomputable def ref07_Valid_L1   (i0 : Nat) (e0 : Nd)  : Option (Lp Unit Unit Bool) := (ref07_item_B e0).bind fun y3 => cond y3 (some (.nx ())) (some (.rt false))
noncomputable def ref07_Valid_B  (n : Nd) : Option Bool := (ref07_fits_B n).bind fun y1 => cond y1 (cond (eqI n.kind 1) ((lim n.kids.length (foldL (fun i y x => ref07_Valid_L1   i y ) (fun x => ()) (n.kids.drop 0) 0 ())).bind (lpK (fun (_ : Unit) => (ref07_blank_32_B n).bind fun y5 => some y5) (fun v => some v))) ((ref07_expr_R n).bind fun y2 => some y2)) (some false)
theorem ref07_Valid_step   (n : Nd) (yR : Bool) (h : ref07_Valid_B  n = some yR) : Pure P G 39 [.agg (ndC n)] (.sc (.bool yR)) := by
 unfold ref07_Valid_B at h
 refine pureM Hd.mixed Hd.plainG (WC_body Tryz.func39 b39 ?_) (plC (layNd.plG n) rfl) rfl
 revert h
 refine bndI fun y1 hy1 => ?_
 refine cndI (fun hv => ?_) fun hv => ?_
 subst hv
 refine cndI (fun hb1 => ?_) fun hb1 => ?_
 refine bndI fun res hres h => ?_
 have hlen := (limE hres).1
 replace hres := (limE hres).2
 refine go_at [] [0, 1, 2, 3, 4, 5, 6, 9, 10, 11, 16, 23, 24, 25, 26, 27] 0 (sub B39 [1, 1, 1, 0, 1, 0, 0]) [.code (sub B39 [1, 1, 1, 1])] _ _ (runS 300 [pcall (ref07_fits_step n true hy1), pn hb1]) (by kernel_rfl) (foldP (fn := Tryz.f39) (m := 0) (fun v => .sc (.bool v)) 0 n.kids (fun i0 (_ : Unit) (j0 : JJ) => frm 28 0 [(1, .ptr 0 0), (3, .sc (.int .i64 ((i0 : Nat) : Int)))] [2, 5, 6, 9, 11, 16, 24, 25, 27] 0 [0, 4, 10, 23, 26] 0 j0) (fun (_ : Nat) (_ : Unit) (_ : JJ) => ⟨[(0, .cells (ndC n))], 1, [], 0⟩) (fun (j : JJ) => plainL j.2 = true) (fun (_ : Unit) (jx : JJ) => frm 28 0 [(1, .ptr 0 0)] [2, 5, 6, 9, 11, 16, 24, 25, 27] 0 [0, 4, 10, 23, 26] 0 jx) (fun (_ : Unit) (_ : JJ) => ⟨[(0, .cells (ndC n))], 1, [], 0⟩) (fun (j : JJ) => plainL j.2 = true) ?_ ?_ 0 hres ?_ ?_ ([.bool false, .bool true, .bool false, .bool false], [.agg (ndC n), .agg (ndC n), .sc undef, .sc undef, .sc undef]) (plC (layNd.plG n) (plC (layNd.plG n) (plC rfl (plC rfl (plC rfl rfl))))))
 rintro i0 ⟨⟩ j0 hj0 hge hq
 clear h hres
 refine WL_rnd ?_
 exact go_ex Hd.plainG [1, 2, 4, 9, 10, 12, 18, 21, 22, 32, 47, 48, 50, 53, 54] [fq (gn_pl hj0 0), fq (gn_pl hj0 1), fq (gn_pl hj0 2), fq (gn_pl hj0 3), fq (gn_pl hj0 4)] [fbp (ndC n) (layNd.pl n)] 0 _ _ (runS 300 [pb (B := ltI ((i0 : Nat) : Int) ((n.kids.length : Nat) : Int)) (b := false) (ltF hge)]) (by kernel_rfl) (hq ([(jn j0 0), (jn j0 1), (jn j0 2), (jn j0 3), (jn j0 4), .bool false, (jn j0 6), (jn j0 7), (jn j0 8)], [(gn j0 0), (gn j0 1), (gn j0 2), (gn j0 3), (gn j0 4)]) (plC (gn_pl hj0 0) (plC (gn_pl hj0 1) (plC (gn_pl hj0 2) (plC (gn_pl hj0 3) (plC (gn_pl hj0 4) rfl))))))
 clear h hres
 rintro i0 e0 ⟨⟩ j0 r hj0 he0 hi0 h k
 refine WL_rnd ?_
 revert h
 show ref07_Valid_L1   i0 e0  = some r → _
 unfold ref07_Valid_L1
 refine bndI fun y3 hy3 => ?_
 let o1 : List (PC P G) := [pb (B := ltI ((i0 : Nat) : Int) ((n.kids.length : Nat) : Int)) (b := true) (ltT hi0), pix (ix25 .lost he0)]
 refine cndI (fun hv => ?_) fun hv => ?_
 subst hv
 rintro ⟨⟩
 exact go_nx Hd.plainG [1, 2, 4, 6, 9, 10, 12, 18, 21, 22, 32, 47, 48, 50, 53, 54] [fq (gn_pl hj0 0), fq (gn_pl hj0 1), fq (gn_pl hj0 2), fq (layNd.plG e0), fq (gn_pl hj0 4)] [fbp (ndC n) (layNd.pl n)] _ _ (runS 300 (o1 ++ [pcall (ref07_item_step e0 true hy3), pinc i0 (by omega)])) (by kernel_rfl) (k ([(jn j0 0), (jn j0 1), (jn j0 2), (jn j0 3), (jn j0 4), .bool true, .bool true, .bool false, (jn j0 8)], [(gn j0 0), (gn j0 1), (gn j0 2), .agg (ndC e0), (gn j0 4)]) (plC (gn_pl hj0 0) (plC (gn_pl hj0 1) (plC (gn_pl hj0 2) (plC (layNd.plG e0) (plC (gn_pl hj0 4) rfl))))))
 subst hv
 rintro ⟨⟩
 exact go_retA _ _ (runS 300 (o1 ++ [pcall (ref07_item_step e0 false hy3)])) (by kernel_rfl) (.rnd k) .sc
 rintro ⟨⟩ rfl jx_4 hjx_4
 revert h
 clear hres
 dsimp only [lpK]
 refine bndI fun y5 hy5 => ?_
 intro h
 have hE := Option.some.inj h
 subst hE
 exact go_retA _ _ (runX 300 [pcall (ref07_blank_32_step n y5 hy5)]) (by kernel_rfl) .body .sc
 rintro v rfl
 dsimp only [lpK] at h
 cases h
 exact .outer .body
 refine bndI fun y2 hy2 => ?_
 intro h
 have hE := Option.some.inj h
 subst hE
 exact rS (runS 300 [pcall (ref07_fits_step n true hy1), pn hb1, pcall (ref07_expr_ok n y2 hy2)]) (by kernel_rfl)
 subst hv
 rintro ⟨⟩
 exact rS (runS 300 [pcall (ref07_fits_step n false hy1)]) (by kernel_rfl)
noncomputable def B19 : Code := bodyOf Tryz.f19
theorem b19 : Tryz.f19.body = some B19 := by kernel_rfl
noncomputable def ref09_Source_B  (n : Nd) : Option Bool := cond (eqI n.kind 1) ((ref07_Valid_B n).bind fun y1 => some y1) (some false)
theorem ref09_Source_step   (n : Nd) (yR : Bool) (h : ref09_Source_B  n = some yR) : Pure P G 19 [.agg (ndC n)] (.sc (.bool yR)) := by
 unfold ref09_Source_B at h
 refine pureM Hd.mixed Hd.plainG (WC_body Tryz.func19 b19 ?_) (plC (layNd.plG n) rfl) rfl
 revert h
 refine cndI (fun hb1 => ?_) fun hb1 => ?_
 refine bndI fun y1 hy1 => ?_
 intro h
 have hE := Option.some.inj h
 subst hE
 exact rS (runS 300 [pb hb1, pcall (ref07_Valid_step n y1 hy1)]) (by kernel_rfl)
 rintro ⟨⟩
 exact rS (runS 300 [pb hb1]) (by kernel_rfl)
noncomputable def B22 : Code := bodyOf Tryz.f22
theorem b22 : Tryz.f22.body = some B22 := by kernel_rfl
noncomputable def law09_bare_L1   (i0 : Nat) (e0 : Nd) (w2_9 : (List Nd)) : Option (Lp (List Nd) (List Nd) Nd) := cond (eqI e0.kind 4) (cond (ltI 0 ((e0.kids.length : Nat) : Int)) ((e0.kids[0]?).bind fun x2 => limA (w2_9.length + 1) (some (.nx (w2_9 ++ [(⟨e0.kind, e0.name, e0.unit, e0.n, e0.fr, e0.to, e0.known, e0.tab, [x2, (⟨8, ByteArray.empty, ByteArray.empty, 0, 0, 0, 0, (⟨0, []⟩ : Fn), [(⟨11, ByteArray.empty, EURS, 1, 0, 0, 0, (⟨0, []⟩ : Fn), [], 0⟩ : Nd)], 0⟩ : Nd)], e0.att⟩ : Nd)])))) (limA (w2_9.length + 1) (some (.nx (w2_9 ++ [e0]))))) (limA (w2_9.length + 1) (some (.nx (w2_9 ++ [e0]))))
noncomputable def law09_bare_B  (source : Nd) : Option Nd := (lim source.kids.length (foldL (fun i y x => law09_bare_L1   i y x) (fun x => x) (source.kids.drop 0) 0 [])).bind (lpK (fun (w2_9_6 : (List Nd)) => some (⟨source.kind, source.name, source.unit, source.n, source.fr, source.to, source.known, source.tab, w2_9_6, source.att⟩ : Nd)) (fun v => some v))
theorem law09_bare_step   (source : Nd) (yR : Nd) (h : law09_bare_B  source = some yR) : Pure P G 22 [.agg (ndC source)] (.agg (ndC yR)) := by
 unfold law09_bare_B at h
 refine pureM Hd.mixed Hd.plainG (WC_body Tryz.func22 b22 ?_) (plC (layNd.plG source) rfl) (layNd.plG yR)
 revert h
 refine bndI fun res hres h => ?_
 have hlen := (limE hres).1
 replace hres := (limE hres).2
 refine go_at [.b 2 9 11] [0, 1, 2, 3, 4, 7, 13, 20, 23, 24, 28, 29, 30, 34, 35, 37, 42, 46] 0 (sub B22 [1, 1, 1, 0, 1, 0, 0]) [.code (sub B22 [1, 1, 1, 1])] _ _ (runS 300 []) (by kernel_rfl) (foldP (fn := Tryz.f22) (m := 0) (fun v => .agg (ndC v)) 0 source.kids (fun i0 (w2_9 : (List Nd)) (j0 : JJ) => frm 47 0 [(1, .ptr 0 0), (2, .ptr 1 0), (3, .ptr 2 0), (4, .sc (.int .i64 ((i0 : Nat) : Int)))] [13, 23, 24, 28, 29] 0 [0, 7, 20, 30, 34, 35, 37, 42, 46] 0 j0) (fun (_ : Nat) (w2_9 : (List Nd)) (_ : JJ) => ⟨[(2, .cells [.sc (.int .i64 source.kind), .sc (.string source.name), .sc (.string source.unit), .sc (.int .i64 source.n), .sc (.int .i64 source.fr), .sc (.int .i64 source.to), .sc (.int .i64 source.known), .sc (.int .i64 source.tab.den), .sl .lost source.tab.ps.length (rows pcC source.tab.ps), .sl (.row 0 11) w2_9.length (ndsC w2_9), .sc (.int .i64 source.att)]), (1, .cells [.sc (.int .i64 0), .sc (.string ByteArray.empty), .sc (.string ByteArray.empty), .sc (.int .i64 0), .sc (.int .i64 0), .sc (.int .i64 0), .sc (.int .i64 0), .sc (.int .i64 0), .sl .full 0 [], .sl .full 0 [], .sc (.int .i64 0)]), (0, .cells (ndC source))], 3, [(0, w2_9.length)], 1⟩) (fun (j : JJ) => plainL j.2 = true) (fun (w2_9 : (List Nd)) (jx : JJ) => frm 47 0 [(2, .ptr 1 0), (3, .ptr 2 0)] [13, 23, 24, 28, 29] 0 [0, 7, 20, 30, 34, 35, 37, 42, 46] 0 jx) (fun (w2_9 : (List Nd)) (_ : JJ) => ⟨[(2, .cells [.sc (.int .i64 source.kind), .sc (.string source.name), .sc (.string source.unit), .sc (.int .i64 source.n), .sc (.int .i64 source.fr), .sc (.int .i64 source.to), .sc (.int .i64 source.known), .sc (.int .i64 source.tab.den), .sl .lost source.tab.ps.length (rows pcC source.tab.ps), .sl (.row 0 11) w2_9.length (ndsC w2_9), .sc (.int .i64 source.att)]), (1, .cells [.sc (.int .i64 0), .sc (.string ByteArray.empty), .sc (.string ByteArray.empty), .sc (.int .i64 0), .sc (.int .i64 0), .sc (.int .i64 0), .sc (.int .i64 0), .sc (.int .i64 0), .sl .full 0 [], .sl .full 0 [], .sc (.int .i64 0)]), (0, .cells (ndC source))], 3, [(0, w2_9.length)], 1⟩) (fun (j : JJ) => plainL j.2 = true) ?_ ?_ 0 hres ?_ ?_ ([], [.agg (ndC source), .agg (ndC source), .sc undef, .sc undef, .sc undef, .sc undef, .sc undef, .sc undef, .sc undef]) (plC (layNd.plG source) (plC (layNd.plG source) (plC rfl (plC rfl (plC rfl (plC rfl (plC rfl (plC rfl (plC rfl rfl))))))))))
 rintro i0 w2_9 j0 hj0 hge hq
 clear h hres
 refine WL_rnd ?_
 exact go_ex Hd.plainG [1, 4, 6, 15, 26, 41, 46, 48, 56, 58, 61, 69, 71, 75, 85, 93] [fq (gn_pl hj0 0), fq (gn_pl hj0 1), fq (gn_pl hj0 2), fq (gn_pl hj0 3), fq (gn_pl hj0 4), fq (gn_pl hj0 5), fq (gn_pl hj0 6), fq (gn_pl hj0 7), fq (gn_pl hj0 8)] [fbu [.sc (.int .i64 source.kind), .sc (.string source.name), .sc (.string source.unit), .sc (.int .i64 source.n), .sc (.int .i64 source.fr), .sc (.int .i64 source.to), .sc (.int .i64 source.known), .sc (.int .i64 source.tab.den), .sl .lost source.tab.ps.length (rows pcC source.tab.ps), .sl (.row 0 11) w2_9.length (ndsC w2_9), .sc (.int .i64 source.att)] (unC rfl (unC rfl (unC rfl (unC rfl (unC rfl (unC rfl (unC rfl (unC rfl (unC (under_plain _ _ (layPc.plS source.tab.ps)) (unC (unSl rfl (under_plainL _ _ (layNd.plC w2_9))) (unC rfl rfl))))))))))), fbp [.sc (.int .i64 0), .sc (.string ByteArray.empty), .sc (.string ByteArray.empty), .sc (.int .i64 0), .sc (.int .i64 0), .sc (.int .i64 0), .sc (.int .i64 0), .sc (.int .i64 0), .sl .full 0 [], .sl .full 0 [], .sc (.int .i64 0)] (plC rfl (plC rfl (plC rfl (plC rfl (plC rfl (plC rfl (plC rfl (plC rfl (plC (plSlF rfl) (plC (plSlF rfl) (plC rfl rfl))))))))))), fbp (ndC source) (layNd.pl source)] 0 _ _ (runS 300 [pb (B := ltI ((i0 : Nat) : Int) ((source.kids.length : Nat) : Int)) (b := false) (ltF hge)]) (by kernel_rfl) (hq ([.bool false, (jn j0 1), (jn j0 2), (jn j0 3), (jn j0 4)], [(gn j0 0), (gn j0 1), (gn j0 2), (gn j0 3), (gn j0 4), (gn j0 5), (gn j0 6), (gn j0 7), (gn j0 8)]) (plC (gn_pl hj0 0) (plC (gn_pl hj0 1) (plC (gn_pl hj0 2) (plC (gn_pl hj0 3) (plC (gn_pl hj0 4) (plC (gn_pl hj0 5) (plC (gn_pl hj0 6) (plC (gn_pl hj0 7) (plC (gn_pl hj0 8) rfl))))))))))
 clear h hres
 rintro i0 e0 w2_9 j0 r hj0 he0 hi0 h k
 refine WL_rnd ?_
 revert h
 show law09_bare_L1   i0 e0 w2_9 = some r → _
 unfold law09_bare_L1
 let o1 : List (PC P G) := [pb (B := ltI ((i0 : Nat) : Int) ((source.kids.length : Nat) : Int)) (b := true) (ltT hi0), pix (ix25 .lost he0)]
 refine cndI (fun hb3 => ?_) fun hb3 => ?_
 refine cndI (fun hb4 => ?_) fun hb4 => ?_
 refine bndI fun x2 hx2 => ?_
 refine limAI fun hl3 => ?_
 rintro ⟨⟩
 exact go_nx Hd.plainG [1, 2, 4, 6, 8, 15, 26, 41, 46, 48, 56, 58, 61, 69, 71, 75, 85, 93] [fq (gn_pl hj0 0), fq (gn_pl hj0 1), fq (layNd.plG e0), fp (.agg [.sc (.int .i64 11), .sc (.string ByteArray.empty), .sc (.string EURS), .sc (.int .i64 1), .sc (.int .i64 0), .sc (.int .i64 0), .sc (.int .i64 0), .sc (.int .i64 0), .sl .full 0 [], .sl .full 0 [], .sc (.int .i64 0)]) (plC rfl (plC rfl (plC rfl (plC rfl (plC rfl (plC rfl (plC rfl (plC rfl (plC (plSlF rfl) (plC (plSlF rfl) (plC rfl rfl))))))))))), fq (layNd.plG x2), fp (.agg [.sc (.int .i64 11), .sc (.string ByteArray.empty), .sc (.string EURS), .sc (.int .i64 1), .sc (.int .i64 0), .sc (.int .i64 0), .sc (.int .i64 0), .sc (.int .i64 0), .sl .full 0 [], .sl .full 0 [], .sc (.int .i64 0)]) (plC rfl (plC rfl (plC rfl (plC rfl (plC rfl (plC rfl (plC rfl (plC rfl (plC (plSlF rfl) (plC (plSlF rfl) (plC rfl rfl))))))))))), fp (.agg [.sc (.int .i64 8), .sc (.string ByteArray.empty), .sc (.string ByteArray.empty), .sc (.int .i64 0), .sc (.int .i64 0), .sc (.int .i64 0), .sc (.int .i64 0), .sc (.int .i64 0), .sl .full 0 [], .sl .full 1 [.sc (.int .i64 11), .sc (.string ByteArray.empty), .sc (.string EURS), .sc (.int .i64 1), .sc (.int .i64 0), .sc (.int .i64 0), .sc (.int .i64 0), .sc (.int .i64 0), .sl .full 0 [], .sl .full 0 [], .sc (.int .i64 0)], .sc (.int .i64 0)]) (plC rfl (plC rfl (plC rfl (plC rfl (plC rfl (plC rfl (plC rfl (plC rfl (plC (plSlF rfl) (plC (plSlF (plC rfl (plC rfl (plC rfl (plC rfl (plC rfl (plC rfl (plC rfl (plC rfl (plC (plSlF rfl) (plC (plSlF rfl) (plC rfl rfl)))))))))))) (plC rfl rfl))))))))))), fp (.agg [.sc (.int .i64 e0.kind), .sc (.string e0.name), .sc (.string e0.unit), .sc (.int .i64 e0.n), .sc (.int .i64 e0.fr), .sc (.int .i64 e0.to), .sc (.int .i64 e0.known), .sc (.int .i64 e0.tab.den), .sl .lost e0.tab.ps.length (rows pcC e0.tab.ps), .sl .full 2 [.sc (.int .i64 x2.kind), .sc (.string x2.name), .sc (.string x2.unit), .sc (.int .i64 x2.n), .sc (.int .i64 x2.fr), .sc (.int .i64 x2.to), .sc (.int .i64 x2.known), .sc (.int .i64 x2.tab.den), .sl .lost x2.tab.ps.length (rows pcC x2.tab.ps), .sl .lost x2.kids.length (ndsC x2.kids), .sc (.int .i64 x2.att), .sc (.int .i64 8), .sc (.string ByteArray.empty), .sc (.string ByteArray.empty), .sc (.int .i64 0), .sc (.int .i64 0), .sc (.int .i64 0), .sc (.int .i64 0), .sc (.int .i64 0), .sl .full 0 [], .sl .full 1 [.sc (.int .i64 11), .sc (.string ByteArray.empty), .sc (.string EURS), .sc (.int .i64 1), .sc (.int .i64 0), .sc (.int .i64 0), .sc (.int .i64 0), .sc (.int .i64 0), .sl .full 0 [], .sl .full 0 [], .sc (.int .i64 0)], .sc (.int .i64 0)], .sc (.int .i64 e0.att)]) (plC rfl (plC rfl (plC rfl (plC rfl (plC rfl (plC rfl (plC rfl (plC rfl (plC (layPc.plS e0.tab.ps) (plC (plSlF (plC rfl (plC rfl (plC rfl (plC rfl (plC rfl (plC rfl (plC rfl (plC rfl (plC (layPc.plS x2.tab.ps) (plC (layNd.plS x2.kids) (plC rfl (plC rfl (plC rfl (plC rfl (plC rfl (plC rfl (plC rfl (plC rfl (plC rfl (plC (plSlF rfl) (plC (plSlF (plC rfl (plC rfl (plC rfl (plC rfl (plC rfl (plC rfl (plC rfl (plC rfl (plC (plSlF rfl) (plC (plSlF rfl) (plC rfl rfl)))))))))))) (plC rfl rfl))))))))))))))))))))))) (plC rfl rfl))))))))))), fq (gn_pl hj0 8)] [fbu [.sc (.int .i64 source.kind), .sc (.string source.name), .sc (.string source.unit), .sc (.int .i64 source.n), .sc (.int .i64 source.fr), .sc (.int .i64 source.to), .sc (.int .i64 source.known), .sc (.int .i64 source.tab.den), .sl .lost source.tab.ps.length (rows pcC source.tab.ps), .sl (.row 0 11) ((w2_9 ++ [(⟨e0.kind, e0.name, e0.unit, e0.n, e0.fr, e0.to, e0.known, e0.tab, [x2, (⟨8, ByteArray.empty, ByteArray.empty, 0, 0, 0, 0, (⟨0, []⟩ : Fn), [(⟨11, ByteArray.empty, EURS, 1, 0, 0, 0, (⟨0, []⟩ : Fn), [], 0⟩ : Nd)], 0⟩ : Nd)], e0.att⟩ : Nd)]).length) (ndsC (w2_9 ++ [(⟨e0.kind, e0.name, e0.unit, e0.n, e0.fr, e0.to, e0.known, e0.tab, [x2, (⟨8, ByteArray.empty, ByteArray.empty, 0, 0, 0, 0, (⟨0, []⟩ : Fn), [(⟨11, ByteArray.empty, EURS, 1, 0, 0, 0, (⟨0, []⟩ : Fn), [], 0⟩ : Nd)], 0⟩ : Nd)], e0.att⟩ : Nd)])), .sc (.int .i64 source.att)] (unC rfl (unC rfl (unC rfl (unC rfl (unC rfl (unC rfl (unC rfl (unC rfl (unC (under_plain _ _ (layPc.plS source.tab.ps)) (unC (unSl rfl (under_plainL _ _ (layNd.plC (w2_9 ++ [(⟨e0.kind, e0.name, e0.unit, e0.n, e0.fr, e0.to, e0.known, e0.tab, [x2, (⟨8, ByteArray.empty, ByteArray.empty, 0, 0, 0, 0, (⟨0, []⟩ : Fn), [(⟨11, ByteArray.empty, EURS, 1, 0, 0, 0, (⟨0, []⟩ : Fn), [], 0⟩ : Nd)], 0⟩ : Nd)], e0.att⟩ : Nd)])))) (unC rfl rfl))))))))))), fbp [.sc (.int .i64 0), .sc (.string ByteArray.empty), .sc (.string ByteArray.empty), .sc (.int .i64 0), .sc (.int .i64 0), .sc (.int .i64 0), .sc (.int .i64 0), .sc (.int .i64 0), .sl .full 0 [], .sl .full 0 [], .sc (.int .i64 0)] (plC rfl (plC rfl (plC rfl (plC rfl (plC rfl (plC rfl (plC rfl (plC rfl (plC (plSlF rfl) (plC (plSlF rfl) (plC rfl rfl))))))))))), fbp (ndC source) (layNd.pl source)] _ _ (runS 300 (o1 ++ [pb hb3, pb hb4, pz 9, pix (ix25 .lost hx2), pgro (gro25 (.row 0 11) w2_9 [(⟨e0.kind, e0.name, e0.unit, e0.n, e0.fr, e0.to, e0.known, e0.tab, [x2, (⟨8, ByteArray.empty, ByteArray.empty, 0, 0, 0, 0, (⟨0, []⟩ : Fn), [(⟨11, ByteArray.empty, EURS, 1, 0, 0, 0, (⟨0, []⟩ : Fn), [], 0⟩ : Nd)], 0⟩ : Nd)], e0.att⟩ : Nd)] (o := .full) (n := 1) (ns := [.sc (.int .i64 e0.kind), .sc (.string e0.name), .sc (.string e0.unit), .sc (.int .i64 e0.n), .sc (.int .i64 e0.fr), .sc (.int .i64 e0.to), .sc (.int .i64 e0.known), .sc (.int .i64 e0.tab.den), .sl .lost e0.tab.ps.length (rows pcC e0.tab.ps), .sl .full 2 [.sc (.int .i64 x2.kind), .sc (.string x2.name), .sc (.string x2.unit), .sc (.int .i64 x2.n), .sc (.int .i64 x2.fr), .sc (.int .i64 x2.to), .sc (.int .i64 x2.known), .sc (.int .i64 x2.tab.den), .sl .lost x2.tab.ps.length (rows pcC x2.tab.ps), .sl .lost x2.kids.length (ndsC x2.kids), .sc (.int .i64 x2.att), .sc (.int .i64 8), .sc (.string ByteArray.empty), .sc (.string ByteArray.empty), .sc (.int .i64 0), .sc (.int .i64 0), .sc (.int .i64 0), .sc (.int .i64 0), .sc (.int .i64 0), .sl .full 0 [], .sl .full 1 [.sc (.int .i64 11), .sc (.string ByteArray.empty), .sc (.string EURS), .sc (.int .i64 1), .sc (.int .i64 0), .sc (.int .i64 0), .sc (.int .i64 0), .sc (.int .i64 0), .sl .full 0 [], .sl .full 0 [], .sc (.int .i64 0)], .sc (.int .i64 0)], .sc (.int .i64 e0.att)]) (layNd.wn [(⟨e0.kind, e0.name, e0.unit, e0.n, e0.fr, e0.to, e0.known, e0.tab, [x2, (⟨8, ByteArray.empty, ByteArray.empty, 0, 0, 0, 0, (⟨0, []⟩ : Fn), [(⟨11, ByteArray.empty, EURS, 1, 0, 0, 0, (⟨0, []⟩ : Fn), [], 0⟩ : Nd)], 0⟩ : Nd)], e0.att⟩ : Nd)] (.r (.r (.r (.r (.r (.r (.r (.r (.r (.d (.r (.r (.r (.r (.r (.r (.r (.r (.r (.r (.r (.r (.r (.r (.r (.r (.r (.r (.r (.z (.d (.r (.r (.r (.r (.r (.r (.r (.r (.z (.z (.r .nil))))))))))) (layNd.eq [(⟨11, ByteArray.empty, EURS, 1, 0, 0, 0, (⟨0, []⟩ : Fn), [], 0⟩ : Nd)]).symm (.r .nil)))))))))))))))))))))) (layNd.eq [x2, (⟨8, ByteArray.empty, ByteArray.empty, 0, 0, 0, 0, (⟨0, []⟩ : Fn), [(⟨11, ByteArray.empty, EURS, 1, 0, 0, 0, (⟨0, []⟩ : Fn), [], 0⟩ : Nd)], 0⟩ : Nd)]).symm (.r .nil)))))))))))) rfl rfl (by simp) (by simpa using hl3)), pinc i0 (by omega)])) (by kernel_rfl) (k ([.bool true, .bool true, .bool true, .bool true, .bool true], [(gn j0 0), (gn j0 1), .agg (ndC e0), .agg [.sc (.int .i64 11), .sc (.string ByteArray.empty), .sc (.string EURS), .sc (.int .i64 1), .sc (.int .i64 0), .sc (.int .i64 0), .sc (.int .i64 0), .sc (.int .i64 0), .sl .full 0 [], .sl .full 0 [], .sc (.int .i64 0)], .agg (ndC x2), .agg [.sc (.int .i64 11), .sc (.string ByteArray.empty), .sc (.string EURS), .sc (.int .i64 1), .sc (.int .i64 0), .sc (.int .i64 0), .sc (.int .i64 0), .sc (.int .i64 0), .sl .full 0 [], .sl .full 0 [], .sc (.int .i64 0)], .agg [.sc (.int .i64 8), .sc (.string ByteArray.empty), .sc (.string ByteArray.empty), .sc (.int .i64 0), .sc (.int .i64 0), .sc (.int .i64 0), .sc (.int .i64 0), .sc (.int .i64 0), .sl .full 0 [], .sl .full 1 [.sc (.int .i64 11), .sc (.string ByteArray.empty), .sc (.string EURS), .sc (.int .i64 1), .sc (.int .i64 0), .sc (.int .i64 0), .sc (.int .i64 0), .sc (.int .i64 0), .sl .full 0 [], .sl .full 0 [], .sc (.int .i64 0)], .sc (.int .i64 0)], .agg [.sc (.int .i64 e0.kind), .sc (.string e0.name), .sc (.string e0.unit), .sc (.int .i64 e0.n), .sc (.int .i64 e0.fr), .sc (.int .i64 e0.to), .sc (.int .i64 e0.known), .sc (.int .i64 e0.tab.den), .sl .lost e0.tab.ps.length (rows pcC e0.tab.ps), .sl .full 2 [.sc (.int .i64 x2.kind), .sc (.string x2.name), .sc (.string x2.unit), .sc (.int .i64 x2.n), .sc (.int .i64 x2.fr), .sc (.int .i64 x2.to), .sc (.int .i64 x2.known), .sc (.int .i64 x2.tab.den), .sl .lost x2.tab.ps.length (rows pcC x2.tab.ps), .sl .lost x2.kids.length (ndsC x2.kids), .sc (.int .i64 x2.att), .sc (.int .i64 8), .sc (.string ByteArray.empty), .sc (.string ByteArray.empty), .sc (.int .i64 0), .sc (.int .i64 0), .sc (.int .i64 0), .sc (.int .i64 0), .sc (.int .i64 0), .sl .full 0 [], .sl .full 1 [.sc (.int .i64 11), .sc (.string ByteArray.empty), .sc (.string EURS), .sc (.int .i64 1), .sc (.int .i64 0), .sc (.int .i64 0), .sc (.int .i64 0), .sc (.int .i64 0), .sl .full 0 [], .sl .full 0 [], .sc (.int .i64 0)], .sc (.int .i64 0)], .sc (.int .i64 e0.att)], (gn j0 8)]) (plC (gn_pl hj0 0) (plC (gn_pl hj0 1) (plC (layNd.plG e0) (plC (plC rfl (plC rfl (plC rfl (plC rfl (plC rfl (plC rfl (plC rfl (plC rfl (plC (plSlF rfl) (plC (plSlF rfl) (plC rfl rfl))))))))))) (plC (layNd.plG x2) (plC (plC rfl (plC rfl (plC rfl (plC rfl (plC rfl (plC rfl (plC rfl (plC rfl (plC (plSlF rfl) (plC (plSlF rfl) (plC rfl rfl))))))))))) (plC (plC rfl (plC rfl (plC rfl (plC rfl (plC rfl (plC rfl (plC rfl (plC rfl (plC (plSlF rfl) (plC (plSlF (plC rfl (plC rfl (plC rfl (plC rfl (plC rfl (plC rfl (plC rfl (plC rfl (plC (plSlF rfl) (plC (plSlF rfl) (plC rfl rfl)))))))))))) (plC rfl rfl))))))))))) (plC (plC rfl (plC rfl (plC rfl (plC rfl (plC rfl (plC rfl (plC rfl (plC rfl (plC (layPc.plS e0.tab.ps) (plC (plSlF (plC rfl (plC rfl (plC rfl (plC rfl (plC rfl (plC rfl (plC rfl (plC rfl (plC (layPc.plS x2.tab.ps) (plC (layNd.plS x2.kids) (plC rfl (plC rfl (plC rfl (plC rfl (plC rfl (plC rfl (plC rfl (plC rfl (plC rfl (plC (plSlF rfl) (plC (plSlF (plC rfl (plC rfl (plC rfl (plC rfl (plC rfl (plC rfl (plC rfl (plC rfl (plC (plSlF rfl) (plC (plSlF rfl) (plC rfl rfl)))))))))))) (plC rfl rfl))))))))))))))))))))))) (plC rfl rfl))))))))))) (plC (gn_pl hj0 8) rfl))))))))))
 refine limAI fun hl4 => ?_
 rintro ⟨⟩
 exact go_nx Hd.plainG [1, 2, 4, 6, 8, 15, 26, 41, 46, 48, 56, 58, 61, 69, 71, 75, 85, 93] [fq (gn_pl hj0 0), fq (gn_pl hj0 1), fq (layNd.plG e0), fq (gn_pl hj0 3), fq (gn_pl hj0 4), fq (gn_pl hj0 5), fq (gn_pl hj0 6), fq (layNd.plG e0), fq (gn_pl hj0 8)] [fbu [.sc (.int .i64 source.kind), .sc (.string source.name), .sc (.string source.unit), .sc (.int .i64 source.n), .sc (.int .i64 source.fr), .sc (.int .i64 source.to), .sc (.int .i64 source.known), .sc (.int .i64 source.tab.den), .sl .lost source.tab.ps.length (rows pcC source.tab.ps), .sl (.row 0 11) ((w2_9 ++ [e0]).length) (ndsC (w2_9 ++ [e0])), .sc (.int .i64 source.att)] (unC rfl (unC rfl (unC rfl (unC rfl (unC rfl (unC rfl (unC rfl (unC rfl (unC (under_plain _ _ (layPc.plS source.tab.ps)) (unC (unSl rfl (under_plainL _ _ (layNd.plC (w2_9 ++ [e0])))) (unC rfl rfl))))))))))), fbp [.sc (.int .i64 0), .sc (.string ByteArray.empty), .sc (.string ByteArray.empty), .sc (.int .i64 0), .sc (.int .i64 0), .sc (.int .i64 0), .sc (.int .i64 0), .sc (.int .i64 0), .sl .full 0 [], .sl .full 0 [], .sc (.int .i64 0)] (plC rfl (plC rfl (plC rfl (plC rfl (plC rfl (plC rfl (plC rfl (plC rfl (plC (plSlF rfl) (plC (plSlF rfl) (plC rfl rfl))))))))))), fbp (ndC source) (layNd.pl source)] _ _ (runS 300 (o1 ++ [pb hb3, pb hb4, pgro (gro25 (.row 0 11) w2_9 [e0] (o := .full) (n := 1) (ns := (ndC e0)) (layNd.wn [e0] (.r (.r (.r (.r (.r (.r (.r (.r (.r (.r (.r .nil)))))))))))) rfl rfl (by simp) (by simpa using hl4)), pinc i0 (by omega)])) (by kernel_rfl) (k ([.bool true, .bool true, .bool true, .bool false, .bool false], [(gn j0 0), (gn j0 1), .agg (ndC e0), (gn j0 3), (gn j0 4), (gn j0 5), (gn j0 6), .agg (ndC e0), (gn j0 8)]) (plC (gn_pl hj0 0) (plC (gn_pl hj0 1) (plC (layNd.plG e0) (plC (gn_pl hj0 3) (plC (gn_pl hj0 4) (plC (gn_pl hj0 5) (plC (gn_pl hj0 6) (plC (layNd.plG e0) (plC (gn_pl hj0 8) rfl))))))))))
 refine limAI fun hl5 => ?_
 rintro ⟨⟩
 exact go_nx Hd.plainG [1, 2, 4, 6, 8, 15, 26, 41, 46, 48, 56, 58, 61, 69, 71, 75, 85, 93] [fq (gn_pl hj0 0), fq (gn_pl hj0 1), fq (layNd.plG e0), fq (gn_pl hj0 3), fq (gn_pl hj0 4), fq (gn_pl hj0 5), fq (gn_pl hj0 6), fq (layNd.plG e0), fq (gn_pl hj0 8)] [fbu [.sc (.int .i64 source.kind), .sc (.string source.name), .sc (.string source.unit), .sc (.int .i64 source.n), .sc (.int .i64 source.fr), .sc (.int .i64 source.to), .sc (.int .i64 source.known), .sc (.int .i64 source.tab.den), .sl .lost source.tab.ps.length (rows pcC source.tab.ps), .sl (.row 0 11) ((w2_9 ++ [e0]).length) (ndsC (w2_9 ++ [e0])), .sc (.int .i64 source.att)] (unC rfl (unC rfl (unC rfl (unC rfl (unC rfl (unC rfl (unC rfl (unC rfl (unC (under_plain _ _ (layPc.plS source.tab.ps)) (unC (unSl rfl (under_plainL _ _ (layNd.plC (w2_9 ++ [e0])))) (unC rfl rfl))))))))))), fbp [.sc (.int .i64 0), .sc (.string ByteArray.empty), .sc (.string ByteArray.empty), .sc (.int .i64 0), .sc (.int .i64 0), .sc (.int .i64 0), .sc (.int .i64 0), .sc (.int .i64 0), .sl .full 0 [], .sl .full 0 [], .sc (.int .i64 0)] (plC rfl (plC rfl (plC rfl (plC rfl (plC rfl (plC rfl (plC rfl (plC rfl (plC (plSlF rfl) (plC (plSlF rfl) (plC rfl rfl))))))))))), fbp (ndC source) (layNd.pl source)] _ _ (runS 300 (o1 ++ [pb hb3, pgro (gro25 (.row 0 11) w2_9 [e0] (o := .full) (n := 1) (ns := (ndC e0)) (layNd.wn [e0] (.r (.r (.r (.r (.r (.r (.r (.r (.r (.r (.r .nil)))))))))))) rfl rfl (by simp) (by simpa using hl5)), pinc i0 (by omega)])) (by kernel_rfl) (k ([.bool true, .bool false, .bool false, undef, .bool false], [(gn j0 0), (gn j0 1), .agg (ndC e0), (gn j0 3), (gn j0 4), (gn j0 5), (gn j0 6), .agg (ndC e0), (gn j0 8)]) (plC (gn_pl hj0 0) (plC (gn_pl hj0 1) (plC (layNd.plG e0) (plC (gn_pl hj0 3) (plC (gn_pl hj0 4) (plC (gn_pl hj0 5) (plC (gn_pl hj0 6) (plC (layNd.plG e0) (plC (gn_pl hj0 8) rfl))))))))))
 rintro w2_9_6 rfl jx_6 hjx_6
 revert h
 clear hres
 dsimp only [lpK]
 intro h
 have hE := Option.some.inj h
 subst hE
 exact go_retA (v := .agg [.sc (.int .i64 source.kind), .sc (.string source.name), .sc (.string source.unit), .sc (.int .i64 source.n), .sc (.int .i64 source.fr), .sc (.int .i64 source.to), .sc (.int .i64 source.known), .sc (.int .i64 source.tab.den), .sl .lost source.tab.ps.length (rows pcC source.tab.ps), .sl (.row 0 11) w2_9_6.length (ndsC w2_9_6), .sc (.int .i64 source.att)]) _ _ (runX 300 []) (by kernel_rfl) .body (.wn (.g (.r (.r (.r (.r (.r (.r (.r (.r (.r (.s rfl (.r .nil))))))))))) .nil) (layNd.plG (⟨source.kind, source.name, source.unit, source.n, source.fr, source.to, source.known, source.tab, w2_9_6, source.att⟩ : Nd)))
 rintro v rfl
 dsimp only [lpK] at h
 cases h
 exact .outer .body
end Mo
end Go.Proofs.YtkfplcngmiljaaaGreatDoor
