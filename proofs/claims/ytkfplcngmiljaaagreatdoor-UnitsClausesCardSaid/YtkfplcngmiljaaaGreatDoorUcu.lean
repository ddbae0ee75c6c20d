/- Part of a proof: see the last text. -/
import Derived.Test.YtkfplcngmiljaaaGreatDoorUct
set_option linter.unusedVariables false
set_option linter.unusedSimpArgs false
namespace Go.Proofs.YtkfplcngmiljaaaGreatDoor
open AI Go
namespace Mo
set_option maxRecDepth 100000
set_option maxHeartbeats 4000000
abbrev GU (mx : Int) : Glob := HdU.G mx
theorem up {mx : Int} {f : FuncId} {args : List AV} {v : AV} (h : Pure P G f args v) : Pure P (GU mx) f args v := by
 intro s cx w vs hs ha
 have hs0 : St G cx w s := ⟨hs.len, hs.desc, hs.nodup, hs.low, hs.box, hs.rlen, hs.row, hs.rfree, hs.plow, hs.blow, hs.rdist, (fun _ _ h => nomatch h), hs.bsz⟩
 refine (h s cx w vs hs0 ha).mono ?_
 rintro e w' ⟨c', hx, st, hr⟩
 exact ⟨c', hx, ⟨st.len, st.desc, st.nodup, st.low, st.box, st.rlen, st.row, st.rfree, st.plow, st.blow, st.rdist, (fun g cs h => (hs.glob g cs h).mono hx), st.bsz⟩, hr⟩
noncomputable def law09_head_R : Option Bool := some true
theorem law09_head_ok {mx : Int} (yR : Bool) (h : law09_head_R = some yR) : Pure P (GU mx) 11 [] (.sc (.bool yR)) := by
 cases h
 exact fun s => head_ok mx s
variable {mx : Int}
noncomputable def B8 : Code := bodyOf Tryz.f8
theorem b8 : Tryz.f8.body = some B8 := by kernel_rfl
noncomputable def law09_UnitsClauses_L1   (i0 : Nat) (e0 : Nd) (w1_m : (Mm ByteArray ByteArray)) (w2_m : (Mm Int Bool)) : Option (Lp ((Mm ByteArray ByteArray) × (Mm Int Bool)) ((Mm ByteArray ByteArray) × (Mm Int Bool)) Bool) := cond (eqI e0.kind 3) (some (.nx ((w1_m.set e0.name e0.unit), w2_m))) (cond (eqI e0.kind 4) (some (.nx (w1_m, (w2_m.set e0.n true)))) (some (.nx (w1_m, w2_m))))
noncomputable def law09_UnitsClauses_L4  (source : Nd) (w1_m_4 : (Mm ByteArray ByteArray)) (w2_m_4 : (Mm Int Bool)) (e1 : Nd) (e2 : Nd) (i3 : Nat) (e3 : Nd)  : Option (Lp Unit Unit Bool) := (units_Infer_B source e3).bind fun (y5a, y5b) => cond (eqI e2.kind 6) (cond (eqB y5a.data.toList truthS.data.toList) (cond (ltI 0 ((y5b.length : Nat) : Int)) (some (.rt false)) (some (.nx ()))) (some (.rt false))) (cond (eqI e2.kind 8) (cond (eqB y5a.data.toList ((w1_m_4.get e1.name).getD ByteArray.empty).data.toList) (cond (ltI 0 ((y5b.length : Nat) : Int)) (some (.rt false)) (some (.nx ()))) (some (.rt false))) (cond (eqI e2.kind 7) (cond ((w2_m_4.get e3.n).getD false) (cond (eqI e3.n e1.n) (some (.rt false)) (some (.nx ()))) (some (.rt false))) (some (.nx ()))))
noncomputable def law09_UnitsClauses_L3  (source : Nd) (w1_m_4 : (Mm ByteArray ByteArray)) (w2_m_4 : (Mm Int Bool)) (e1 : Nd) (i2 : Nat) (e2 : Nd)  : Option (Lp Unit Unit Bool) := (lim e2.kids.length (foldL (fun i y x => law09_UnitsClauses_L4  source w1_m_4 w2_m_4 e1 e2 i y ) (fun x => ()) (e2.kids.drop 0) 0 ())).bind (lpK (fun (_ : Unit) => some (.nx ())) (fun v => some (.rt v)))
noncomputable def law09_UnitsClauses_L2  (source : Nd) (w1_m_4 : (Mm ByteArray ByteArray)) (w2_m_4 : (Mm Int Bool)) (i1 : Nat) (e1 : Nd)  : Option (Lp Unit Unit Bool) := (lim e1.kids.length (foldL (fun i y x => law09_UnitsClauses_L3  source w1_m_4 w2_m_4 e1 i y ) (fun x => ()) (e1.kids.drop 0) 0 ())).bind (lpK (fun (_ : Unit) => some (.nx ())) (fun v => some (.rt v)))
noncomputable def law09_UnitsClauses_B  (source : Nd) : Option Bool := (law09_head_R).bind fun y1 => (law09_few_B source (⟨0, ByteArray.empty, ByteArray.empty, 0, 0, 0, 0, (⟨0, []⟩ : Fn), [], 0⟩ : Nd)).bind fun y2 => cond y2 ((units_Check_B source).bind fun y3 => cond (ltI 0 ((y3.length : Nat) : Int)) (some y1) ((lim source.kids.length (foldL (fun i y x => law09_UnitsClauses_L1   i y x.1 x.2) (fun x => (x.1, x.2)) (source.kids.drop 0) 0 ((Mm.nil : Mm ByteArray ByteArray), (Mm.nil : Mm Int Bool)))).bind (lpK (fun ((w1_m_4, w2_m_4) : ((Mm ByteArray ByteArray) × (Mm Int Bool))) => (lim source.kids.length (foldL (fun i y x => law09_UnitsClauses_L2  source w1_m_4 w2_m_4 i y ) (fun x => ()) (source.kids.drop 0) 0 ())).bind (lpK (fun (_ : Unit) => some y1) (fun v => some v))) (fun v => some v)))) (some y1)
theorem law09_UnitsClauses_step   (source : Nd) (yR : Bool) (h : law09_UnitsClauses_B  source = some yR) : Pure P (GU mx) 8 [.agg (ndC source)] (.sc (.bool yR)) := by
 unfold law09_UnitsClauses_B at h
 refine pureM Hd.mixed HdU.plainG (WC_body Tryz.func8 b8 ?_) (plC (layNd.plG source) rfl) rfl
 revert h
 refine bndI fun y1 hy1 => ?_
 refine bndI fun y2 hy2 => ?_
 refine cndI (fun hv => ?_) fun hv => ?_
 subst hv
 refine bndI fun y3 hy3 => ?_
 let o1 : List (PC P (GU mx)) := [pcall (law09_head_ok  y1 hy1), pcallW (.r (.g (.r (.r (.r (.r (.r (.r (.r (.r (.z (.z (.r .nil))))))))))) .nil)) (up (law09_few_step source (⟨0, ByteArray.empty, ByteArray.empty, 0, 0, 0, 0, (⟨0, []⟩ : Fn), [], 0⟩ : Nd) true hy2)), pcall (up (units_Check_step source y3 hy3))]
 refine cndI (fun hb1 => ?_) fun hb1 => ?_
 intro h
 have hE := Option.some.inj h
 subst hE
 exact rS (runS 300 (o1 ++ [pb hb1])) (by kernel_rfl)
 refine bndI fun res hres h => ?_
 have hlen := (limE hres).1
 replace hres := (limE hres).2
 refine go_at [] [0, 1, 2, 3, 4, 5, 16, 17, 18, 19, 20, 21, 22, 25, 26, 27, 31, 32, 33, 34, 36, 39, 40, 46, 47, 56, 58, 63, 65, 70, 72, 74, 75, 81, 82, 84, 85, 88, 89, 90, 91, 97, 98, 101, 102, 103, 104, 108, 109, 110, 115, 116, 120] 0 (sub B8 [1, 1, 1, 1, 1, 0, 1, 0, 0]) [.code (sub B8 [1, 1, 1, 1, 1, 1])] _ _ (runS 300 (o1 ++ [pb hb1])) (by kernel_rfl) (foldP (fn := Tryz.f8) (m := 0) (fun v => .sc (.bool v)) 0 source.kids (fun i0 ((w1_m, w2_m) : ((Mm ByteArray ByteArray) × (Mm Int Bool))) (j0 : JJ) => frm 121 0 [(1, .ptr 0 0), (3, .sc (.bool y1)), (4, .mp 1), (5, .mp 2), (31, .sl .lost source.kids.length (ndsC source.kids)), (32, .sc (.int .i64 ((source.kids.length : Nat) : Int))), (33, .sc (.int .i64 ((i0 : Nat) : Int)))] [2, 16, 19, 20, 21, 25, 26, 27, 34, 39, 40, 46, 47, 56, 63, 70, 81, 82, 84, 85, 88, 89, 90, 91, 97, 98, 101, 102, 103, 104, 108, 109, 110, 115, 116, 120] 0 [0, 17, 18, 22, 36, 58, 65, 72, 74, 75] 0 j0) (fun (_ : Nat) ((w1_m, w2_m) : ((Mm ByteArray ByteArray) × (Mm Int Bool))) (_ : JJ) => ⟨[(2, (mbib w2_m)), (1, (mbss w1_m)), (0, .cells (ndC source))], 3, [], 0⟩) (fun (j : JJ) => plainL j.2 = true) (fun ((w1_m, w2_m) : ((Mm ByteArray ByteArray) × (Mm Int Bool))) (jx : JJ) => frm 121 0 [(1, .ptr 0 0), (3, .sc (.bool y1)), (4, .mp 1), (5, .mp 2)] [2, 16, 19, 20, 21, 25, 26, 27, 34, 39, 40, 46, 47, 56, 63, 70, 81, 82, 84, 85, 88, 89, 90, 91, 97, 98, 101, 102, 103, 104, 108, 109, 110, 115, 116, 120] 0 [0, 17, 18, 22, 36, 58, 65, 72, 74, 75] 0 jx) (fun ((w1_m, w2_m) : ((Mm ByteArray ByteArray) × (Mm Int Bool))) (_ : JJ) => ⟨[(2, (mbib w2_m)), (1, (mbss w1_m)), (0, .cells (ndC source))], 3, [], 0⟩) (fun (j : JJ) => plainL j.2 = true) ?_ ?_ 0 hres ?_ ?_ ([.bool false, .bool y1, .bool true, .bool false, .bool false, .bool false, .bool false], [.agg (ndC source), .agg (ndC source), .agg [.sc (.int .i64 0), .sc (.string ByteArray.empty), .sc (.string ByteArray.empty), .sc (.int .i64 0), .sc (.int .i64 0), .sc (.int .i64 0), .sc (.int .i64 0), .sc (.int .i64 0), .sl .full 0 [], .sl .full 0 [], .sc (.int .i64 0)], .agg (ndC source), .sc undef, .sc undef, .sc undef, .sc undef, .sc undef, .sc undef]) (plC (layNd.plG source) (plC (layNd.plG source) (plC (plC rfl (plC rfl (plC rfl (plC rfl (plC rfl (plC rfl (plC rfl (plC rfl (plC (plSlF rfl) (plC (plSlF rfl) (plC rfl rfl))))))))))) (plC (layNd.plG source) (plC rfl (plC rfl (plC rfl (plC rfl (plC rfl (plC rfl rfl)))))))))))
 rintro i0 ⟨w1_m, w2_m⟩ j0 hj0 hge hq
 clear h hres
 refine WL_rnd ?_
 exact go_ex HdU.plainG [1, 2, 4, 6, 8, 10, 32, 35, 37, 38, 40, 42, 45, 50, 52, 54, 68, 73, 78, 80, 92, 94, 112, 117, 126, 131, 140, 145, 149, 151, 162, 164, 168, 170, 176, 178, 180, 182, 194, 196, 202, 204, 206, 208, 216, 218, 220, 230, 232, 240] [fq (gn_pl hj0 0), fq (gn_pl hj0 1), fq (gn_pl hj0 2), fq (gn_pl hj0 3), fq (gn_pl hj0 4), fq (gn_pl hj0 5), fq (gn_pl hj0 6), fq (gn_pl hj0 7), fq (gn_pl hj0 8), fq (gn_pl hj0 9)] [⟨(mbib w2_m), (mbib w2_m), (mB_fits (fun _ => rfl))⟩, ⟨(mbss w1_m), (mbss w1_m), (mB_fits (fun _ => rfl))⟩, fbp (ndC source) (layNd.pl source)] 0 _ _ (runS 300 [pb (B := ltI ((i0 : Nat) : Int) ((source.kids.length : Nat) : Int)) (b := false) (ltF hge)]) (by kernel_rfl) (hq ([(jn j0 0), (jn j0 1), (jn j0 2), (jn j0 3), (jn j0 4), (jn j0 5), (jn j0 6), (jn j0 7), .bool false, (jn j0 9), (jn j0 10), (jn j0 11), (jn j0 12), (jn j0 13), (jn j0 14), (jn j0 15), (jn j0 16), (jn j0 17), (jn j0 18), (jn j0 19), (jn j0 20), (jn j0 21), (jn j0 22), (jn j0 23), (jn j0 24), (jn j0 25), (jn j0 26), (jn j0 27), (jn j0 28), (jn j0 29), (jn j0 30), (jn j0 31), (jn j0 32), (jn j0 33), (jn j0 34), (jn j0 35)], [(gn j0 0), (gn j0 1), (gn j0 2), (gn j0 3), (gn j0 4), (gn j0 5), (gn j0 6), (gn j0 7), (gn j0 8), (gn j0 9)]) (plC (gn_pl hj0 0) (plC (gn_pl hj0 1) (plC (gn_pl hj0 2) (plC (gn_pl hj0 3) (plC (gn_pl hj0 4) (plC (gn_pl hj0 5) (plC (gn_pl hj0 6) (plC (gn_pl hj0 7) (plC (gn_pl hj0 8) (plC (gn_pl hj0 9) rfl)))))))))))
 clear h hres
 rintro i0 e0 ⟨w1_m, w2_m⟩ j0 r hj0 he0 hi0 h k
 refine WL_rnd ?_
 revert h
 show law09_UnitsClauses_L1   i0 e0 w1_m w2_m = some r → _
 unfold law09_UnitsClauses_L1
 let o2 : List (PC P (GU mx)) := [pb (B := ltI ((i0 : Nat) : Int) ((source.kids.length : Nat) : Int)) (b := true) (ltT hi0), pix (ix25 .lost he0)]
 refine cndI (fun hb2 => ?_) fun hb2 => ?_
 rintro ⟨⟩
 exact go_nx HdU.plainG [1, 2, 4, 6, 8, 10, 32, 35, 37, 38, 40, 42, 45, 50, 52, 54, 63, 64, 66, 68, 73, 78, 80, 92, 94, 112, 117, 126, 131, 140, 145, 149, 151, 162, 164, 168, 170, 176, 178, 180, 182, 194, 196, 202, 204, 206, 208, 216, 218, 220, 230, 232, 240] [fq (gn_pl hj0 0), fq (gn_pl hj0 1), fq (gn_pl hj0 2), fq (gn_pl hj0 3), fq (layNd.plS source.kids), fq (layNd.plG e0), fq (gn_pl hj0 5), fq (gn_pl hj0 6), fq (gn_pl hj0 7), fq (gn_pl hj0 8), fq (gn_pl hj0 9)] [⟨(mbib w2_m), (mbib w2_m), (mB_fits (fun _ => rfl))⟩, ⟨(mbss (w1_m.set e0.name e0.unit)), (mbss (w1_m.set e0.name e0.unit)), (mB_fits (fun _ => rfl))⟩, fbp (ndC source) (layNd.pl source)] _ _ (runS 300 (o2 ++ [pb hb2, pms (ms40 w1_m e0.name e0.unit), pinc i0 (by omega)])) (by kernel_rfl) (k ([(jn j0 0), (jn j0 1), (jn j0 2), (jn j0 3), (jn j0 4), (jn j0 5), (jn j0 6), (jn j0 7), .bool true, .bool true, .bool true, (jn j0 11), (jn j0 12), (jn j0 13), (jn j0 14), (jn j0 15), (jn j0 16), (jn j0 17), (jn j0 18), (jn j0 19), (jn j0 20), (jn j0 21), (jn j0 22), (jn j0 23), (jn j0 24), (jn j0 25), (jn j0 26), (jn j0 27), (jn j0 28), (jn j0 29), (jn j0 30), (jn j0 31), (jn j0 32), (jn j0 33), (jn j0 34), (jn j0 35)], [(gn j0 0), (gn j0 1), (gn j0 2), (gn j0 3), .agg (ndC e0), (gn j0 5), (gn j0 6), (gn j0 7), (gn j0 8), (gn j0 9)]) (plC (gn_pl hj0 0) (plC (gn_pl hj0 1) (plC (gn_pl hj0 2) (plC (gn_pl hj0 3) (plC (layNd.plG e0) (plC (gn_pl hj0 5) (plC (gn_pl hj0 6) (plC (gn_pl hj0 7) (plC (gn_pl hj0 8) (plC (gn_pl hj0 9) rfl)))))))))))
 refine cndI (fun hb3 => ?_) fun hb3 => ?_
 rintro ⟨⟩
 exact go_nx HdU.plainG [1, 2, 4, 6, 8, 10, 32, 35, 37, 38, 40, 42, 45, 50, 52, 54, 63, 64, 66, 68, 73, 78, 80, 92, 94, 112, 117, 126, 131, 140, 145, 149, 151, 162, 164, 168, 170, 176, 178, 180, 182, 194, 196, 202, 204, 206, 208, 216, 218, 220, 230, 232, 240] [fq (gn_pl hj0 0), fq (gn_pl hj0 1), fq (gn_pl hj0 2), fq (gn_pl hj0 3), fq (layNd.plS source.kids), fq (layNd.plG e0), fq (gn_pl hj0 5), fq (gn_pl hj0 6), fq (gn_pl hj0 7), fq (gn_pl hj0 8), fq (gn_pl hj0 9)] [⟨(mbib (w2_m.set e0.n true)), (mbib (w2_m.set e0.n true)), (mB_fits (fun _ => rfl))⟩, ⟨(mbss w1_m), (mbss w1_m), (mB_fits (fun _ => rfl))⟩, fbp (ndC source) (layNd.pl source)] _ _ (runS 300 (o2 ++ [pb hb2, pb hb3, pms (ms41 w2_m e0.n true), pinc i0 (by omega)])) (by kernel_rfl) (k ([(jn j0 0), (jn j0 1), (jn j0 2), (jn j0 3), (jn j0 4), (jn j0 5), (jn j0 6), (jn j0 7), .bool true, .bool false, .bool false, .bool true, .bool true, (jn j0 13), (jn j0 14), (jn j0 15), (jn j0 16), (jn j0 17), (jn j0 18), (jn j0 19), (jn j0 20), (jn j0 21), (jn j0 22), (jn j0 23), (jn j0 24), (jn j0 25), (jn j0 26), (jn j0 27), (jn j0 28), (jn j0 29), (jn j0 30), (jn j0 31), (jn j0 32), (jn j0 33), (jn j0 34), (jn j0 35)], [(gn j0 0), (gn j0 1), (gn j0 2), (gn j0 3), .agg (ndC e0), (gn j0 5), (gn j0 6), (gn j0 7), (gn j0 8), (gn j0 9)]) (plC (gn_pl hj0 0) (plC (gn_pl hj0 1) (plC (gn_pl hj0 2) (plC (gn_pl hj0 3) (plC (layNd.plG e0) (plC (gn_pl hj0 5) (plC (gn_pl hj0 6) (plC (gn_pl hj0 7) (plC (gn_pl hj0 8) (plC (gn_pl hj0 9) rfl)))))))))))
 rintro ⟨⟩
 exact go_nx HdU.plainG [1, 2, 4, 6, 8, 10, 32, 35, 37, 38, 40, 42, 45, 50, 52, 54, 63, 64, 66, 68, 73, 78, 80, 92, 94, 112, 117, 126, 131, 140, 145, 149, 151, 162, 164, 168, 170, 176, 178, 180, 182, 194, 196, 202, 204, 206, 208, 216, 218, 220, 230, 232, 240] [fq (gn_pl hj0 0), fq (gn_pl hj0 1), fq (gn_pl hj0 2), fq (gn_pl hj0 3), fq (layNd.plS source.kids), fq (layNd.plG e0), fq (gn_pl hj0 5), fq (gn_pl hj0 6), fq (gn_pl hj0 7), fq (gn_pl hj0 8), fq (gn_pl hj0 9)] [⟨(mbib w2_m), (mbib w2_m), (mB_fits (fun _ => rfl))⟩, ⟨(mbss w1_m), (mbss w1_m), (mB_fits (fun _ => rfl))⟩, fbp (ndC source) (layNd.pl source)] _ _ (runS 300 (o2 ++ [pb hb2, pb hb3, pinc i0 (by omega)])) (by kernel_rfl) (k ([(jn j0 0), (jn j0 1), (jn j0 2), (jn j0 3), (jn j0 4), (jn j0 5), (jn j0 6), (jn j0 7), .bool true, .bool false, .bool false, .bool false, .bool false, (jn j0 13), (jn j0 14), (jn j0 15), (jn j0 16), (jn j0 17), (jn j0 18), (jn j0 19), (jn j0 20), (jn j0 21), (jn j0 22), (jn j0 23), (jn j0 24), (jn j0 25), (jn j0 26), (jn j0 27), (jn j0 28), (jn j0 29), (jn j0 30), (jn j0 31), (jn j0 32), (jn j0 33), (jn j0 34), (jn j0 35)], [(gn j0 0), (gn j0 1), (gn j0 2), (gn j0 3), .agg (ndC e0), (gn j0 5), (gn j0 6), (gn j0 7), (gn j0 8), (gn j0 9)]) (plC (gn_pl hj0 0) (plC (gn_pl hj0 1) (plC (gn_pl hj0 2) (plC (gn_pl hj0 3) (plC (layNd.plG e0) (plC (gn_pl hj0 5) (plC (gn_pl hj0 6) (plC (gn_pl hj0 7) (plC (gn_pl hj0 8) (plC (gn_pl hj0 9) rfl)))))))))))
 rintro ⟨w1_m_4, w2_m_4⟩ rfl jx_4 hjx_4
 revert h
 clear hres
 dsimp only [lpK]
 refine bndI fun res hres h => ?_
 have hlen := (limE hres).1
 replace hres := (limE hres).2
 refine go_at [] [0, 1, 2, 3, 4, 5, 16, 17, 18, 19, 20, 21, 22, 25, 26, 27, 34, 36, 39, 40, 46, 47, 53, 54, 55, 56, 58, 63, 65, 70, 72, 74, 75, 81, 82, 84, 85, 88, 89, 90, 91, 97, 98, 101, 102, 103, 104, 108, 109, 110, 115, 116, 120] 3 (sub B8 [1, 1, 1, 1, 1, 1, 0, 1, 0, 0]) [.code (sub B8 [1, 1, 1, 1, 1, 1, 1])] _ _ (runX 300 []) (by kernel_rfl) (foldP (fn := Tryz.f8) (m := 0) (fun v => .sc (.bool v)) 3 source.kids (fun i1 (_ : Unit) (j1 : JJ) => frm 121 0 [(0, (gn jx_4 0)), (1, .ptr 0 0), (3, .sc (.bool y1)), (4, .mp 1), (5, .mp 2), (17, (gn jx_4 1)), (18, (gn jx_4 2)), (22, (gn jx_4 3)), (36, (gn jx_4 4)), (53, .sl .lost source.kids.length (ndsC source.kids)), (54, .sc (.int .i64 ((source.kids.length : Nat) : Int))), (55, .sc (.int .i64 ((i1 : Nat) : Int)))] [2, 16, 19, 20, 21, 25, 26, 27, 34, 39, 40, 46, 47, 56, 63, 70, 81, 82, 84, 85, 88, 89, 90, 91, 97, 98, 101, 102, 103, 104, 108, 109, 110, 115, 116, 120] 0 [58, 65, 72, 74, 75] 0 j1) (fun (_ : Nat) (_ : Unit) (_ : JJ) => ⟨[(2, (mbib w2_m_4)), (1, (mbss w1_m_4)), (0, .cells (ndC source))], 3, [], 0⟩) (fun (j : JJ) => plainL j.2 = true) (fun (_ : Unit) (jx : JJ) => frm 121 0 [(0, (gn jx_4 0)), (3, .sc (.bool y1)), (17, (gn jx_4 1)), (18, (gn jx_4 2)), (22, (gn jx_4 3)), (36, (gn jx_4 4))] [2, 16, 19, 20, 21, 25, 26, 27, 34, 39, 40, 46, 47, 56, 63, 70, 81, 82, 84, 85, 88, 89, 90, 91, 97, 98, 101, 102, 103, 104, 108, 109, 110, 115, 116, 120] 0 [58, 65, 72, 74, 75] 0 jx) (fun (_ : Unit) (_ : JJ) => ⟨[(2, (mbib w2_m_4)), (1, (mbss w1_m_4)), (0, .cells (ndC source))], 3, [], 0⟩) (fun (j : JJ) => plainL j.2 = true) ?_ ?_ 0 hres ?_ ?_ ([(jn jx_4 0), (jn jx_4 1), (jn jx_4 2), (jn jx_4 3), (jn jx_4 4), (jn jx_4 5), (jn jx_4 6), (jn jx_4 7), (jn jx_4 8), (jn jx_4 9), (jn jx_4 10), (jn jx_4 11), (jn jx_4 12), (jn jx_4 13), (jn jx_4 14), (jn jx_4 15), (jn jx_4 16), (jn jx_4 17), (jn jx_4 18), (jn jx_4 19), (jn jx_4 20), (jn jx_4 21), (jn jx_4 22), (jn jx_4 23), (jn jx_4 24), (jn jx_4 25), (jn jx_4 26), (jn jx_4 27), (jn jx_4 28), (jn jx_4 29), (jn jx_4 30), (jn jx_4 31), (jn jx_4 32), (jn jx_4 33), (jn jx_4 34), (jn jx_4 35)], [(gn jx_4 5), (gn jx_4 6), (gn jx_4 7), (gn jx_4 8), (gn jx_4 9)]) (plC (gn_pl hjx_4 5) (plC (gn_pl hjx_4 6) (plC (gn_pl hjx_4 7) (plC (gn_pl hjx_4 8) (plC (gn_pl hjx_4 9) rfl))))))
 rintro i1 ⟨⟩ j1 hj1 hge hq
 clear h hres
 refine WL_rnd ?_
 exact go_ex HdU.plainG [1, 4, 6, 32, 35, 37, 38, 40, 42, 45, 50, 52, 54, 68, 73, 78, 80, 92, 94, 112, 117, 126, 131, 140, 145, 149, 151, 162, 164, 168, 170, 176, 178, 180, 182, 194, 196, 202, 204, 206, 208, 216, 218, 220, 230, 232, 240] [fq (gn_pl hjx_4 0), fq (gn_pl hjx_4 1), fq (gn_pl hjx_4 2), fq (gn_pl hjx_4 3), fq (gn_pl hjx_4 4), fq (gn_pl hj1 0), fq (gn_pl hj1 1), fq (gn_pl hj1 2), fq (gn_pl hj1 3), fq (gn_pl hj1 4)] [⟨(mbib w2_m_4), (mbib w2_m_4), (mB_fits (fun _ => rfl))⟩, ⟨(mbss w1_m_4), (mbss w1_m_4), (mB_fits (fun _ => rfl))⟩, fbp (ndC source) (layNd.pl source)] 3 _ _ (runS 300 [pb (B := ltI ((i1 : Nat) : Int) ((source.kids.length : Nat) : Int)) (b := false) (ltF hge)]) (by kernel_rfl) (hq ([(jn j1 0), (jn j1 1), (jn j1 2), (jn j1 3), (jn j1 4), (jn j1 5), (jn j1 6), (jn j1 7), (jn j1 8), (jn j1 9), (jn j1 10), (jn j1 11), (jn j1 12), .bool false, (jn j1 14), (jn j1 15), (jn j1 16), (jn j1 17), (jn j1 18), (jn j1 19), (jn j1 20), (jn j1 21), (jn j1 22), (jn j1 23), (jn j1 24), (jn j1 25), (jn j1 26), (jn j1 27), (jn j1 28), (jn j1 29), (jn j1 30), (jn j1 31), (jn j1 32), (jn j1 33), (jn j1 34), (jn j1 35)], [(gn j1 0), (gn j1 1), (gn j1 2), (gn j1 3), (gn j1 4)]) (plC (gn_pl hj1 0) (plC (gn_pl hj1 1) (plC (gn_pl hj1 2) (plC (gn_pl hj1 3) (plC (gn_pl hj1 4) rfl))))))
 clear h hres
 rintro i1 e1 ⟨⟩ j1 r hj1 he1 hi1 h k
 refine WL_rnd ?_
 revert h
 show law09_UnitsClauses_L2  source w1_m_4 w2_m_4 i1 e1  = some r → _
 unfold law09_UnitsClauses_L2
 refine bndI fun res hres h => ?_
 have hlen := (limE hres).1
 replace hres := (limE hres).2
 refine go_at [] [0, 1, 2, 3, 4, 5, 9, 16, 17, 18, 19, 20, 21, 22, 25, 26, 27, 34, 36, 39, 40, 46, 47, 53, 54, 55, 56, 58, 60, 61, 62, 63, 65, 70, 72, 74, 75, 81, 82, 84, 85, 88, 89, 90, 91, 97, 98, 101, 102, 103, 104, 108, 109, 110, 115, 116, 120] 5 (sub B8 [1, 1, 1, 1, 1, 1, 0, 1, 0, 0, 1, 1, 0, 0, 1, 1, 0, 0]) [.endb 4, .code (sub B8 [1, 1, 1, 1, 1, 1, 0, 1, 0, 0, 1, 1, 1])] _ _ (runS 300 [pb (B := ltI ((i1 : Nat) : Int) ((source.kids.length : Nat) : Int)) (b := true) (ltT hi1), pix (ix25 .lost he1)]) (by kernel_rfl) (foldP (fn := Tryz.f8) (m := 0) (fun v => .sc (.bool v)) 5 e1.kids (fun i2 (_ : Unit) (j2 : JJ) => frm 121 0 [(0, (gn jx_4 0)), (1, .ptr 0 0), (3, .sc (.bool y1)), (4, .mp 1), (5, .mp 2), (9, .ptr 3 0), (17, (gn jx_4 1)), (18, (gn jx_4 2)), (22, (gn jx_4 3)), (36, (gn jx_4 4)), (53, .sl .lost source.kids.length (ndsC source.kids)), (54, .sc (.int .i64 ((source.kids.length : Nat) : Int))), (55, .sc (.int .i64 ((i1 : Nat) : Int))), (60, .sl .lost e1.kids.length (ndsC e1.kids)), (61, .sc (.int .i64 ((e1.kids.length : Nat) : Int))), (62, .sc (.int .i64 ((i2 : Nat) : Int)))] [2, 16, 19, 20, 21, 25, 26, 27, 34, 39, 40, 46, 47, 56, 63, 70, 81, 82, 84, 85, 88, 89, 90, 91, 97, 98, 101, 102, 103, 104, 108, 109, 110, 115, 116, 120] 0 [58, 65, 72, 74, 75] 0 j2) (fun (_ : Nat) (_ : Unit) (_ : JJ) => ⟨[(3, .cells (ndC e1)), (2, (mbib w2_m_4)), (1, (mbss w1_m_4)), (0, .cells (ndC source))], 4, [], 0⟩) (fun (j : JJ) => plainL j.2 = true) (fun (_ : Unit) (jx : JJ) => frm 121 0 [(0, (gn jx_4 0)), (1, .ptr 0 0), (3, .sc (.bool y1)), (4, .mp 1), (5, .mp 2), (17, (gn jx_4 1)), (18, (gn jx_4 2)), (22, (gn jx_4 3)), (36, (gn jx_4 4)), (53, .sl .lost source.kids.length (ndsC source.kids)), (54, .sc (.int .i64 ((source.kids.length : Nat) : Int))), (55, .sc (.int .i64 ((i1 : Nat) : Int)))] [2, 16, 19, 20, 21, 25, 26, 27, 34, 39, 40, 46, 47, 56, 63, 70, 81, 82, 84, 85, 88, 89, 90, 91, 97, 98, 101, 102, 103, 104, 108, 109, 110, 115, 116, 120] 0 [58, 65, 72, 74, 75] 0 jx) (fun (_ : Unit) (_ : JJ) => ⟨[(3, .cells (ndC e1)), (2, (mbib w2_m_4)), (1, (mbss w1_m_4)), (0, .cells (ndC source))], 4, [], 0⟩) (fun (j : JJ) => plainL j.2 = true) ?_ ?_ 0 hres ?_ ?_ ([(jn j1 0), (jn j1 1), (jn j1 2), (jn j1 3), (jn j1 4), (jn j1 5), (jn j1 6), (jn j1 7), (jn j1 8), (jn j1 9), (jn j1 10), (jn j1 11), (jn j1 12), .bool true, (jn j1 14), (jn j1 15), (jn j1 16), (jn j1 17), (jn j1 18), (jn j1 19), (jn j1 20), (jn j1 21), (jn j1 22), (jn j1 23), (jn j1 24), (jn j1 25), (jn j1 26), (jn j1 27), (jn j1 28), (jn j1 29), (jn j1 30), (jn j1 31), (jn j1 32), (jn j1 33), (jn j1 34), (jn j1 35)], [.agg (ndC e1), (gn j1 1), (gn j1 2), (gn j1 3), (gn j1 4)]) (plC (layNd.plG e1) (plC (gn_pl hj1 1) (plC (gn_pl hj1 2) (plC (gn_pl hj1 3) (plC (gn_pl hj1 4) rfl))))))
 rintro i2 ⟨⟩ j2 hj2 hge hq
 clear h hres
 refine WL_rnd ?_
 exact go_ex HdU.plainG [1, 2, 4, 6, 8, 10, 32, 35, 37, 38, 40, 42, 45, 50, 52, 54, 68, 73, 78, 80, 92, 94, 107, 108, 110, 112, 117, 126, 131, 140, 145, 149, 151, 162, 164, 168, 170, 176, 178, 180, 182, 194, 196, 202, 204, 206, 208, 216, 218, 220, 230, 232, 240] [fq (gn_pl hjx_4 0), fq (gn_pl hjx_4 1), fq (gn_pl hjx_4 2), fq (gn_pl hjx_4 3), fq (gn_pl hjx_4 4), fq (layNd.plS source.kids), fq (gn_pl hj2 0), fq (gn_pl hj2 1), fq (gn_pl hj2 2), fq (gn_pl hj2 3), fq (gn_pl hj2 4)] [fbp (ndC e1) (layNd.pl e1), ⟨(mbib w2_m_4), (mbib w2_m_4), (mB_fits (fun _ => rfl))⟩, ⟨(mbss w1_m_4), (mbss w1_m_4), (mB_fits (fun _ => rfl))⟩, fbp (ndC source) (layNd.pl source)] 5 _ _ (runS 300 [pb (B := ltI ((i2 : Nat) : Int) ((e1.kids.length : Nat) : Int)) (b := false) (ltF hge)]) (by kernel_rfl) (hq ([(jn j2 0), (jn j2 1), (jn j2 2), (jn j2 3), (jn j2 4), (jn j2 5), (jn j2 6), (jn j2 7), (jn j2 8), (jn j2 9), (jn j2 10), (jn j2 11), (jn j2 12), (jn j2 13), .bool false, (jn j2 15), (jn j2 16), (jn j2 17), (jn j2 18), (jn j2 19), (jn j2 20), (jn j2 21), (jn j2 22), (jn j2 23), (jn j2 24), (jn j2 25), (jn j2 26), (jn j2 27), (jn j2 28), (jn j2 29), (jn j2 30), (jn j2 31), (jn j2 32), (jn j2 33), (jn j2 34), (jn j2 35)], [(gn j2 0), (gn j2 1), (gn j2 2), (gn j2 3), (gn j2 4)]) (plC (gn_pl hj2 0) (plC (gn_pl hj2 1) (plC (gn_pl hj2 2) (plC (gn_pl hj2 3) (plC (gn_pl hj2 4) rfl))))))
 clear h hres
 rintro i2 e2 ⟨⟩ j2 r hj2 he2 hi2 h k
 refine WL_rnd ?_
 revert h
 show law09_UnitsClauses_L3  source w1_m_4 w2_m_4 e1 i2 e2  = some r → _
 unfold law09_UnitsClauses_L3
 refine bndI fun res hres h => ?_
 have hlen := (limE hres).1
 replace hres := (limE hres).2
 refine go_at [] [0, 1, 2, 3, 4, 5, 9, 11, 16, 17, 18, 19, 20, 21, 22, 25, 26, 27, 34, 36, 39, 40, 46, 47, 53, 54, 55, 56, 58, 60, 61, 62, 63, 65, 67, 68, 69, 70, 72, 74, 75, 81, 82, 84, 85, 88, 89, 90, 91, 97, 98, 101, 102, 103, 104, 108, 109, 110, 115, 116, 120] 7 (sub B8 [1, 1, 1, 1, 1, 1, 0, 1, 0, 0, 1, 1, 0, 0, 1, 1, 0, 0, 1, 1, 0, 0, 1, 1, 0, 0]) [.endb 6, .code (sub B8 [1, 1, 1, 1, 1, 1, 0, 1, 0, 0, 1, 1, 0, 0, 1, 1, 0, 0, 1, 1, 1])] _ _ (runS 300 [pb (B := ltI ((i2 : Nat) : Int) ((e1.kids.length : Nat) : Int)) (b := true) (ltT hi2), pix (ix25 .lost he2)]) (by kernel_rfl) (foldP (fn := Tryz.f8) (m := 0) (fun v => .sc (.bool v)) 7 e2.kids (fun i3 (_ : Unit) (j3 : JJ) => frm 121 0 [(0, (gn jx_4 0)), (1, .ptr 0 0), (3, .sc (.bool y1)), (4, .mp 1), (5, .mp 2), (9, .ptr 3 0), (11, .ptr 4 0), (17, (gn jx_4 1)), (18, (gn jx_4 2)), (22, (gn jx_4 3)), (36, (gn jx_4 4)), (53, .sl .lost source.kids.length (ndsC source.kids)), (54, .sc (.int .i64 ((source.kids.length : Nat) : Int))), (55, .sc (.int .i64 ((i1 : Nat) : Int))), (58, (gn j2 0)), (60, .sl .lost e1.kids.length (ndsC e1.kids)), (61, .sc (.int .i64 ((e1.kids.length : Nat) : Int))), (62, .sc (.int .i64 ((i2 : Nat) : Int))), (67, .sl .lost e2.kids.length (ndsC e2.kids)), (68, .sc (.int .i64 ((e2.kids.length : Nat) : Int))), (69, .sc (.int .i64 ((i3 : Nat) : Int)))] [2, 16, 19, 20, 21, 25, 26, 27, 34, 39, 40, 46, 47, 56, 63, 70, 81, 82, 84, 85, 88, 89, 90, 91, 97, 98, 101, 102, 103, 104, 108, 109, 110, 115, 116, 120] 0 [65, 72, 74, 75] 0 j3) (fun (_ : Nat) (_ : Unit) (_ : JJ) => ⟨[(4, .cells (ndC e2)), (3, .cells (ndC e1)), (2, (mbib w2_m_4)), (1, (mbss w1_m_4)), (0, .cells (ndC source))], 5, [], 0⟩) (fun (j : JJ) => plainL j.2 = true) (fun (_ : Unit) (jx : JJ) => frm 121 0 [(0, (gn jx_4 0)), (1, .ptr 0 0), (3, .sc (.bool y1)), (4, .mp 1), (5, .mp 2), (9, .ptr 3 0), (17, (gn jx_4 1)), (18, (gn jx_4 2)), (22, (gn jx_4 3)), (36, (gn jx_4 4)), (53, .sl .lost source.kids.length (ndsC source.kids)), (54, .sc (.int .i64 ((source.kids.length : Nat) : Int))), (55, .sc (.int .i64 ((i1 : Nat) : Int))), (58, (gn j2 0)), (60, .sl .lost e1.kids.length (ndsC e1.kids)), (61, .sc (.int .i64 ((e1.kids.length : Nat) : Int))), (62, .sc (.int .i64 ((i2 : Nat) : Int)))] [2, 16, 19, 20, 21, 25, 26, 27, 34, 39, 40, 46, 47, 56, 63, 70, 81, 82, 84, 85, 88, 89, 90, 91, 97, 98, 101, 102, 103, 104, 108, 109, 110, 115, 116, 120] 0 [65, 72, 74, 75] 0 jx) (fun (_ : Unit) (_ : JJ) => ⟨[(4, .cells (ndC e2)), (3, .cells (ndC e1)), (2, (mbib w2_m_4)), (1, (mbss w1_m_4)), (0, .cells (ndC source))], 5, [], 0⟩) (fun (j : JJ) => plainL j.2 = true) ?_ ?_ 0 hres ?_ ?_ ([(jn j2 0), (jn j2 1), (jn j2 2), (jn j2 3), (jn j2 4), (jn j2 5), (jn j2 6), (jn j2 7), (jn j2 8), (jn j2 9), (jn j2 10), (jn j2 11), (jn j2 12), (jn j2 13), .bool true, (jn j2 15), (jn j2 16), (jn j2 17), (jn j2 18), (jn j2 19), (jn j2 20), (jn j2 21), (jn j2 22), (jn j2 23), (jn j2 24), (jn j2 25), (jn j2 26), (jn j2 27), (jn j2 28), (jn j2 29), (jn j2 30), (jn j2 31), (jn j2 32), (jn j2 33), (jn j2 34), (jn j2 35)], [.agg (ndC e2), (gn j2 2), (gn j2 3), (gn j2 4)]) (plC (layNd.plG e2) (plC (gn_pl hj2 2) (plC (gn_pl hj2 3) (plC (gn_pl hj2 4) rfl)))))
 rintro i3 ⟨⟩ j3 hj3 hge hq
 clear h hres
 refine WL_rnd ?_
 exact go_ex HdU.plainG [1, 2, 4, 6, 8, 10, 18, 32, 35, 37, 38, 40, 42, 45, 50, 52, 54, 68, 73, 78, 80, 92, 94, 107, 108, 110, 112, 117, 121, 122, 124, 126, 131, 140, 145, 149, 151, 162, 164, 168, 170, 176, 178, 180, 182, 194, 196, 202, 204, 206, 208, 216, 218, 220, 230, 232, 240] [fq (gn_pl hjx_4 0), fq (gn_pl hjx_4 1), fq (gn_pl hjx_4 2), fq (gn_pl hjx_4 3), fq (gn_pl hjx_4 4), fq (layNd.plS source.kids), fq (gn_pl hj2 0), fq (layNd.plS e1.kids), fq (gn_pl hj3 0), fq (gn_pl hj3 1), fq (gn_pl hj3 2), fq (gn_pl hj3 3)] [fbp (ndC e2) (layNd.pl e2), fbp (ndC e1) (layNd.pl e1), ⟨(mbib w2_m_4), (mbib w2_m_4), (mB_fits (fun _ => rfl))⟩, ⟨(mbss w1_m_4), (mbss w1_m_4), (mB_fits (fun _ => rfl))⟩, fbp (ndC source) (layNd.pl source)] 7 _ _ (runS 300 [pb (B := ltI ((i3 : Nat) : Int) ((e2.kids.length : Nat) : Int)) (b := false) (ltF hge)]) (by kernel_rfl) (hq ([(jn j3 0), (jn j3 1), (jn j3 2), (jn j3 3), (jn j3 4), (jn j3 5), (jn j3 6), (jn j3 7), (jn j3 8), (jn j3 9), (jn j3 10), (jn j3 11), (jn j3 12), (jn j3 13), (jn j3 14), .bool false, (jn j3 16), (jn j3 17), (jn j3 18), (jn j3 19), (jn j3 20), (jn j3 21), (jn j3 22), (jn j3 23), (jn j3 24), (jn j3 25), (jn j3 26), (jn j3 27), (jn j3 28), (jn j3 29), (jn j3 30), (jn j3 31), (jn j3 32), (jn j3 33), (jn j3 34), (jn j3 35)], [(gn j3 0), (gn j3 1), (gn j3 2), (gn j3 3)]) (plC (gn_pl hj3 0) (plC (gn_pl hj3 1) (plC (gn_pl hj3 2) (plC (gn_pl hj3 3) rfl)))))
 clear h hres
 rintro i3 e3 ⟨⟩ j3 r hj3 he3 hi3 h k
 refine WL_rnd ?_
 revert h
 show law09_UnitsClauses_L4  source w1_m_4 w2_m_4 e1 e2 i3 e3  = some r → _
 unfold law09_UnitsClauses_L4
 refine bndI ?_
 rintro ⟨y5a, y5b⟩ hy5
 dsimp only
 let o3 : List (PC P (GU mx)) := [pb (B := ltI ((i3 : Nat) : Int) ((e2.kids.length : Nat) : Int)) (b := true) (ltT hi3), pix (ix25 .lost he3), pcall (up (units_Infer_step source e3 (y5a, y5b) hy5))]
 refine cndI (fun hb4 => ?_) fun hb4 => ?_
 refine cndI (fun hb5 => ?_) fun hb5 => ?_
 refine cndI (fun hb6 => ?_) fun hb6 => ?_
 rintro ⟨⟩
 exact go_retA _ _ (runS 300 (o3 ++ [pb hb4, pn hb5, pb hb6])) (by kernel_rfl) (.rnd k) .sc
 rintro ⟨⟩
 exact go_nx HdU.plainG [1, 2, 4, 6, 8, 10, 18, 22, 32, 35, 37, 38, 40, 42, 45, 50, 52, 54, 68, 73, 78, 80, 92, 94, 107, 108, 110, 112, 117, 121, 122, 124, 126, 131, 135, 136, 138, 140, 145, 149, 151, 162, 164, 168, 170, 176, 178, 180, 182, 194, 196, 202, 204, 206, 208, 216, 218, 220, 230, 232, 240] [fq (gn_pl hjx_4 0), fq (gn_pl hjx_4 1), fq (gn_pl hjx_4 2), fq (gn_pl hjx_4 3), fq (gn_pl hjx_4 4), fq (layNd.plS source.kids), fq (gn_pl hj2 0), fq (layNd.plS e1.kids), fq (gn_pl hj3 0), fq (layNd.plS e2.kids), fq (layNd.plG e3), fq (layNd.plG source), fq (layNd.plG e3)] [fbp (ndC e2) (layNd.pl e2), fbp (ndC e1) (layNd.pl e1), ⟨(mbib w2_m_4), (mbib w2_m_4), (mB_fits (fun _ => rfl))⟩, ⟨(mbss w1_m_4), (mbss w1_m_4), (mB_fits (fun _ => rfl))⟩, fbp (ndC source) (layNd.pl source)] _ _ (runS 300 (o3 ++ [pb hb4, pn hb5, pb hb6, pinc i3 (by omega)])) (by kernel_rfl) (k ([(jn j3 0), (jn j3 1), (jn j3 2), (jn j3 3), (jn j3 4), (jn j3 5), (jn j3 6), (jn j3 7), (jn j3 8), (jn j3 9), (jn j3 10), (jn j3 11), (jn j3 12), (jn j3 13), (jn j3 14), .bool true, .bool true, .bool true, .bool false, .bool false, .bool false, .bool false, (jn j3 22), (jn j3 23), (jn j3 24), (jn j3 25), (jn j3 26), (jn j3 27), (jn j3 28), (jn j3 29), (jn j3 30), (jn j3 31), (jn j3 32), (jn j3 33), (jn j3 34), (jn j3 35)], [(gn j3 0), .agg (ndC e3), .agg (ndC source), .agg (ndC e3)]) (plC (gn_pl hj3 0) (plC (layNd.plG e3) (plC (layNd.plG source) (plC (layNd.plG e3) rfl)))))
 rintro ⟨⟩
 exact go_retA _ _ (runS 300 (o3 ++ [pb hb4, pn hb5])) (by kernel_rfl) (.rnd k) .sc
 refine cndI (fun hb7 => ?_) fun hb7 => ?_
 let o4 : List (PC P (GU mx)) := o3 ++ [pb hb4, pb hb7, plk (lk40 w1_m_4 e1.name)]
 refine cndI (fun hb8 => ?_) fun hb8 => ?_
 refine cndI (fun hb9 => ?_) fun hb9 => ?_
 rintro ⟨⟩
 exact go_retA _ _ (runS 300 (o4 ++ [pn hb8, pb hb9])) (by kernel_rfl) (.rnd k) .sc
 rintro ⟨⟩
 exact go_nx HdU.plainG [1, 2, 4, 6, 8, 10, 18, 22, 32, 35, 37, 38, 40, 42, 45, 50, 52, 54, 68, 73, 78, 80, 92, 94, 107, 108, 110, 112, 117, 121, 122, 124, 126, 131, 135, 136, 138, 140, 145, 149, 151, 162, 164, 168, 170, 176, 178, 180, 182, 194, 196, 202, 204, 206, 208, 216, 218, 220, 230, 232, 240] [fq (gn_pl hjx_4 0), fq (gn_pl hjx_4 1), fq (gn_pl hjx_4 2), fq (gn_pl hjx_4 3), fq (gn_pl hjx_4 4), fq (layNd.plS source.kids), fq (gn_pl hj2 0), fq (layNd.plS e1.kids), fq (gn_pl hj3 0), fq (layNd.plS e2.kids), fq (layNd.plG e3), fq (layNd.plG source), fq (layNd.plG e3)] [fbp (ndC e2) (layNd.pl e2), fbp (ndC e1) (layNd.pl e1), ⟨(mbib w2_m_4), (mbib w2_m_4), (mB_fits (fun _ => rfl))⟩, ⟨(mbss w1_m_4), (mbss w1_m_4), (mB_fits (fun _ => rfl))⟩, fbp (ndC source) (layNd.pl source)] _ _ (runS 300 (o4 ++ [pn hb8, pb hb9, pinc i3 (by omega)])) (by kernel_rfl) (k ([(jn j3 0), (jn j3 1), (jn j3 2), (jn j3 3), (jn j3 4), (jn j3 5), (jn j3 6), (jn j3 7), (jn j3 8), (jn j3 9), (jn j3 10), (jn j3 11), (jn j3 12), (jn j3 13), (jn j3 14), .bool true, .bool false, .bool false, (jn j3 18), (jn j3 19), (jn j3 20), (jn j3 21), .bool true, .bool true, .bool false, .bool false, .bool false, .bool false, (jn j3 28), (jn j3 29), (jn j3 30), (jn j3 31), (jn j3 32), (jn j3 33), (jn j3 34), (jn j3 35)], [(gn j3 0), .agg (ndC e3), .agg (ndC source), .agg (ndC e3)]) (plC (gn_pl hj3 0) (plC (layNd.plG e3) (plC (layNd.plG source) (plC (layNd.plG e3) rfl)))))
 rintro ⟨⟩
 exact go_retA _ _ (runS 300 (o4 ++ [pn hb8])) (by kernel_rfl) (.rnd k) .sc
 refine cndI (fun hb10 => ?_) fun hb10 => ?_
 refine cndI (fun hb11 => ?_) fun hb11 => ?_
 refine cndI (fun hb12 => ?_) fun hb12 => ?_
 rintro ⟨⟩
 exact go_retA _ _ (runS 300 (o3 ++ [pb hb4, pb hb7, pb hb10, plk (lkB41 w2_m_4 e3.n hb11), pb hb12])) (by kernel_rfl) (.rnd k) .sc
 rintro ⟨⟩
 exact go_nx HdU.plainG [1, 2, 4, 6, 8, 10, 18, 22, 32, 35, 37, 38, 40, 42, 45, 50, 52, 54, 68, 73, 78, 80, 92, 94, 107, 108, 110, 112, 117, 121, 122, 124, 126, 131, 135, 136, 138, 140, 145, 149, 151, 162, 164, 168, 170, 176, 178, 180, 182, 194, 196, 202, 204, 206, 208, 216, 218, 220, 230, 232, 240] [fq (gn_pl hjx_4 0), fq (gn_pl hjx_4 1), fq (gn_pl hjx_4 2), fq (gn_pl hjx_4 3), fq (gn_pl hjx_4 4), fq (layNd.plS source.kids), fq (gn_pl hj2 0), fq (layNd.plS e1.kids), fq (gn_pl hj3 0), fq (layNd.plS e2.kids), fq (layNd.plG e3), fq (layNd.plG source), fq (layNd.plG e3)] [fbp (ndC e2) (layNd.pl e2), fbp (ndC e1) (layNd.pl e1), ⟨(mbib w2_m_4), (mbib w2_m_4), (mB_fits (fun _ => rfl))⟩, ⟨(mbss w1_m_4), (mbss w1_m_4), (mB_fits (fun _ => rfl))⟩, fbp (ndC source) (layNd.pl source)] _ _ (runS 300 (o3 ++ [pb hb4, pb hb7, pb hb10, plk (lkB41 w2_m_4 e3.n hb11), pb hb12, pinc i3 (by omega)])) (by kernel_rfl) (k ([(jn j3 0), (jn j3 1), (jn j3 2), (jn j3 3), (jn j3 4), (jn j3 5), (jn j3 6), (jn j3 7), (jn j3 8), (jn j3 9), (jn j3 10), (jn j3 11), (jn j3 12), (jn j3 13), (jn j3 14), .bool true, .bool false, .bool false, (jn j3 18), (jn j3 19), (jn j3 20), (jn j3 21), .bool false, .bool false, (jn j3 24), (jn j3 25), (jn j3 26), (jn j3 27), .bool true, .bool true, .bool true, .bool false, .bool false, .bool false, .bool false, (jn j3 35)], [(gn j3 0), .agg (ndC e3), .agg (ndC source), .agg (ndC e3)]) (plC (gn_pl hj3 0) (plC (layNd.plG e3) (plC (layNd.plG source) (plC (layNd.plG e3) rfl)))))
 rintro ⟨⟩
 exact go_retA _ _ (runS 300 (o3 ++ [pb hb4, pb hb7, pb hb10, plk (lkB41 w2_m_4 e3.n hb11)])) (by kernel_rfl) (.rnd k) .sc
 rintro ⟨⟩
 exact go_nx HdU.plainG [1, 2, 4, 6, 8, 10, 18, 22, 32, 35, 37, 38, 40, 42, 45, 50, 52, 54, 68, 73, 78, 80, 92, 94, 107, 108, 110, 112, 117, 121, 122, 124, 126, 131, 135, 136, 138, 140, 145, 149, 151, 162, 164, 168, 170, 176, 178, 180, 182, 194, 196, 202, 204, 206, 208, 216, 218, 220, 230, 232, 240] [fq (gn_pl hjx_4 0), fq (gn_pl hjx_4 1), fq (gn_pl hjx_4 2), fq (gn_pl hjx_4 3), fq (gn_pl hjx_4 4), fq (layNd.plS source.kids), fq (gn_pl hj2 0), fq (layNd.plS e1.kids), fq (gn_pl hj3 0), fq (layNd.plS e2.kids), fq (layNd.plG e3), fq (layNd.plG source), fq (layNd.plG e3)] [fbp (ndC e2) (layNd.pl e2), fbp (ndC e1) (layNd.pl e1), ⟨(mbib w2_m_4), (mbib w2_m_4), (mB_fits (fun _ => rfl))⟩, ⟨(mbss w1_m_4), (mbss w1_m_4), (mB_fits (fun _ => rfl))⟩, fbp (ndC source) (layNd.pl source)] _ _ (runS 300 (o3 ++ [pb hb4, pb hb7, pb hb10, pinc i3 (by omega)])) (by kernel_rfl) (k ([(jn j3 0), (jn j3 1), (jn j3 2), (jn j3 3), (jn j3 4), (jn j3 5), (jn j3 6), (jn j3 7), (jn j3 8), (jn j3 9), (jn j3 10), (jn j3 11), (jn j3 12), (jn j3 13), (jn j3 14), .bool true, .bool false, .bool false, (jn j3 18), (jn j3 19), (jn j3 20), (jn j3 21), .bool false, .bool false, (jn j3 24), (jn j3 25), (jn j3 26), (jn j3 27), .bool false, .bool false, (jn j3 30), (jn j3 31), (jn j3 32), (jn j3 33), (jn j3 34), (jn j3 35)], [(gn j3 0), .agg (ndC e3), .agg (ndC source), .agg (ndC e3)]) (plC (gn_pl hj3 0) (plC (layNd.plG e3) (plC (layNd.plG source) (plC (layNd.plG e3) rfl)))))
 rintro ⟨⟩ rfl jx_6 hjx_6
 revert h
 clear hres
 dsimp only [lpK]
 rintro ⟨⟩
 exact go_nx HdU.plainG [1, 2, 4, 6, 8, 10, 18, 32, 35, 37, 38, 40, 42, 45, 50, 52, 54, 68, 73, 78, 80, 92, 94, 107, 108, 110, 112, 117, 121, 122, 124, 126, 131, 140, 145, 149, 151, 162, 164, 168, 170, 176, 178, 180, 182, 194, 196, 202, 204, 206, 208, 216, 218, 220, 230, 232, 240] [fq (gn_pl hjx_4 0), fq (gn_pl hjx_4 1), fq (gn_pl hjx_4 2), fq (gn_pl hjx_4 3), fq (gn_pl hjx_4 4), fq (layNd.plS source.kids), fq (gn_pl hj2 0), fq (layNd.plS e1.kids), fq (gn_pl hjx_6 0), fq (gn_pl hjx_6 1), fq (gn_pl hjx_6 2), fq (gn_pl hjx_6 3)] [fbp (ndC e1) (layNd.pl e1), ⟨(mbib w2_m_4), (mbib w2_m_4), (mB_fits (fun _ => rfl))⟩, ⟨(mbss w1_m_4), (mbss w1_m_4), (mB_fits (fun _ => rfl))⟩, fbp (ndC source) (layNd.pl source)] _ _ (runX 300 [pinc i2 (by omega)]) (by kernel_rfl) (k ([(jn jx_6 0), (jn jx_6 1), (jn jx_6 2), (jn jx_6 3), (jn jx_6 4), (jn jx_6 5), (jn jx_6 6), (jn jx_6 7), (jn jx_6 8), (jn jx_6 9), (jn jx_6 10), (jn jx_6 11), (jn jx_6 12), (jn jx_6 13), (jn jx_6 14), (jn jx_6 15), (jn jx_6 16), (jn jx_6 17), (jn jx_6 18), (jn jx_6 19), (jn jx_6 20), (jn jx_6 21), (jn jx_6 22), (jn jx_6 23), (jn jx_6 24), (jn jx_6 25), (jn jx_6 26), (jn jx_6 27), (jn jx_6 28), (jn jx_6 29), (jn jx_6 30), (jn jx_6 31), (jn jx_6 32), (jn jx_6 33), (jn jx_6 34), (jn jx_6 35)], [(gn j2 0), (gn jx_6 0), (gn jx_6 1), (gn jx_6 2), (gn jx_6 3)]) (plC (gn_pl hj2 0) (plC (gn_pl hjx_6 0) (plC (gn_pl hjx_6 1) (plC (gn_pl hjx_6 2) (plC (gn_pl hjx_6 3) rfl))))))
 rintro v rfl
 dsimp only [lpK] at h
 cases h
 exact .outer (.rnd k)
 rintro ⟨⟩ rfl jx_7 hjx_7
 revert h
 clear hres
 dsimp only [lpK]
 rintro ⟨⟩
 exact go_nx HdU.plainG [1, 2, 4, 6, 8, 10, 32, 35, 37, 38, 40, 42, 45, 50, 52, 54, 68, 73, 78, 80, 92, 94, 107, 108, 110, 112, 117, 126, 131, 140, 145, 149, 151, 162, 164, 168, 170, 176, 178, 180, 182, 194, 196, 202, 204, 206, 208, 216, 218, 220, 230, 232, 240] [fq (gn_pl hjx_4 0), fq (gn_pl hjx_4 1), fq (gn_pl hjx_4 2), fq (gn_pl hjx_4 3), fq (gn_pl hjx_4 4), fq (layNd.plS source.kids), fq (gn_pl hjx_7 0), fq (gn_pl hjx_7 1), fq (gn_pl hjx_7 2), fq (gn_pl hjx_7 3), fq (gn_pl hjx_7 4)] [⟨(mbib w2_m_4), (mbib w2_m_4), (mB_fits (fun _ => rfl))⟩, ⟨(mbss w1_m_4), (mbss w1_m_4), (mB_fits (fun _ => rfl))⟩, fbp (ndC source) (layNd.pl source)] _ _ (runX 300 [pinc i1 (by omega)]) (by kernel_rfl) (k ([(jn jx_7 0), (jn jx_7 1), (jn jx_7 2), (jn jx_7 3), (jn jx_7 4), (jn jx_7 5), (jn jx_7 6), (jn jx_7 7), (jn jx_7 8), (jn jx_7 9), (jn jx_7 10), (jn jx_7 11), (jn jx_7 12), (jn jx_7 13), (jn jx_7 14), (jn jx_7 15), (jn jx_7 16), (jn jx_7 17), (jn jx_7 18), (jn jx_7 19), (jn jx_7 20), (jn jx_7 21), (jn jx_7 22), (jn jx_7 23), (jn jx_7 24), (jn jx_7 25), (jn jx_7 26), (jn jx_7 27), (jn jx_7 28), (jn jx_7 29), (jn jx_7 30), (jn jx_7 31), (jn jx_7 32), (jn jx_7 33), (jn jx_7 34), (jn jx_7 35)], [(gn jx_7 0), (gn jx_7 1), (gn jx_7 2), (gn jx_7 3), (gn jx_7 4)]) (plC (gn_pl hjx_7 0) (plC (gn_pl hjx_7 1) (plC (gn_pl hjx_7 2) (plC (gn_pl hjx_7 3) (plC (gn_pl hjx_7 4) rfl))))))
 rintro v rfl
 dsimp only [lpK] at h
 cases h
 exact .outer (.rnd k)
 rintro ⟨⟩ rfl jx_8 hjx_8
 revert h
 clear hres
 dsimp only [lpK]
 intro h
 have hE := Option.some.inj h
 subst hE
 exact go_retA _ _ (runX 300 []) (by kernel_rfl) .body .sc
 rintro v rfl
 dsimp only [lpK] at h
 cases h
 exact .outer .body
 rintro v rfl
 dsimp only [lpK] at h
 cases h
 exact .outer .body
 subst hv
 intro h
 have hE := Option.some.inj h
 subst hE
 exact rS (runS 300 [pcall (law09_head_ok  y1 hy1), pcallW (.r (.g (.r (.r (.r (.r (.r (.r (.r (.r (.z (.z (.r .nil))))))))))) .nil)) (up (law09_few_step source (⟨0, ByteArray.empty, ByteArray.empty, 0, 0, 0, 0, (⟨0, []⟩ : Fn), [], 0⟩ : Nd) false hy2))]) (by kernel_rfl)
end Mo
end Go.Proofs.YtkfplcngmiljaaaGreatDoor
namespace Go.Proofs.YtkfplcngmiljaaaGreatDoor
open AI Go
namespace Mo
set_option maxRecDepth 100000
set_option maxHeartbeats 4000000
theorem fU_app (k : Int) (l m : List Nd) (x : ByteArray) : fU k (l ++ m) x = (fU k l x).or (fU k m x) := by
 induction l with
 | nil => rfl
 | cons a l ih =>
   rw [List.cons_append, fU, fU, ih]
   by_cases h : a.kind = k ∧ a.name = x
   · rw [iff_T h, iff_T h]; rfl
   · rw [iff_F h, iff_F h]
theorem fU_none {k : Int} {l : List Nd} {x : ByteArray} : fU k l x = none ↔ ∀ a ∈ l, ¬ (a.kind = k ∧ a.name = x) := by
 induction l with
 | nil => simp [fU]
 | cons a l ih =>
   rw [fU]
   by_cases h : a.kind = k ∧ a.name = x
   · rw [iff_T h]; simp [h]
   · rw [iff_F h, ih]
     simp only [List.mem_cons, forall_eq_or_imp]
     exact ⟨fun q => ⟨h, q⟩, fun q => q.2⟩
theorem fU_some {k : Int} {l : List Nd} {x u : ByteArray} (h : fU k l x = some u) : ∃ a ∈ l, a.kind = k ∧ a.name = x ∧ a.unit = u := by
 induction l with
 | nil => simp [fU] at h
 | cons a l ih =>
   rw [fU] at h
   by_cases e : a.kind = k ∧ a.name = x
   · rw [iff_T e] at h; cases h; exact ⟨a, by simp, e.1, e.2, rfl⟩
   · rw [iff_F e] at h
     obtain ⟨b, hb, r⟩ := ih h
     exact ⟨b, by simp [hb], r⟩
theorem fA_none {l : List Nd} {z : Int} : fA l z = none ↔ ∀ a ∈ l, ¬ (a.kind = 4 ∧ a.n = z) := by
 induction l with
 | nil => simp [fA]
 | cons a l ih =>
   rw [fA]
   by_cases h : a.kind = 4 ∧ a.n = z
   · rw [iff_T h]; simp [h]
   · rw [iff_F h, ih]
     simp only [List.mem_cons, forall_eq_or_imp]
     exact ⟨fun q => ⟨h, q⟩, fun q => q.2⟩
theorem iff_nil {p : Prop} {d : Dg} {r : List Dg} (h : iff_ p [d] r = []) : ¬ p ∧ r = [] := by
 by_cases hp : p
 · rw [iff_T hp] at h; cases h
 · rw [iff_F hp] at h; exact ⟨hp, h⟩
theorem maps_fold : ∀ {l b : List Nd} {i : Nat} {m1 : Mm ByteArray ByteArray} {m2 : Mm Int Bool}, declsR b l = [] → (∀ x, m1.get x = fU 3 b x) → (∀ z, (m2.get z).getD false = true ↔ ∃ a ∈ b, a.kind = 4 ∧ a.n = z) →
   ∃ x1 x2, foldL (fun i y x => law09_UnitsClauses_L1 i y x.1 x.2) (fun x => (x.1, x.2)) l i (m1, m2) = (some (.inl (x1, x2)) : Option ((Mm ByteArray ByteArray × Mm Int Bool) ⊕ Bool)) ∧ (∀ x, x1.get x = fU 3 (b ++ l) x) ∧ ∀ z, (x2.get z).getD false = true ↔ ∃ a ∈ b ++ l, a.kind = 4 ∧ a.n = z
 | [], b, i, m1, m2, _, h1, h2 => ⟨m1, m2, rfl, by simpa using h1, by simpa using h2⟩
 | a :: l, b, i, m1, m2, hd, h1, h2 => by
   rw [declsR] at hd
   obtain ⟨hd1, hd2⟩ := List.append_eq_nil_iff.1 hd
   have eb : b ++ a :: l = (b ++ [a]) ++ l := by simp
   rw [foldL, law09_UnitsClauses_L1, eb]
   simp only [eqI_mb, c_mb]
   have go : ∀ {y1 : Mm ByteArray ByteArray} {y2 : Mm Int Bool}, (∀ x, y1.get x = fU 3 (b ++ [a]) x) → (∀ z, (y2.get z).getD false = true ↔ ∃ c ∈ b ++ [a], c.kind = 4 ∧ c.n = z) → ∃ x1 x2, (some (Lp.nx (y1, y2))).bind (foldK (foldL (fun i y x => law09_UnitsClauses_L1 i y x.1 x.2) (fun x => (x.1, x.2)) l (i + 1))) = (some (.inl (x1, x2)) : Option ((Mm ByteArray ByteArray × Mm Int Bool) ⊕ Bool)) ∧ (∀ x, x1.get x = fU 3 ((b ++ [a]) ++ l) x) ∧ ∀ z, (x2.get z).getD false = true ↔ ∃ c ∈ (b ++ [a]) ++ l, c.kind = 4 ∧ c.n = z :=
     fun g1 g2 => maps_fold hd2 g1 g2
   have same4 : a.kind ≠ 4 → ∀ z, (m2.get z).getD false = true ↔ ∃ c ∈ b ++ [a], c.kind = 4 ∧ c.n = z := fun hk z => (h2 z).trans ⟨fun ⟨c, hc, e⟩ => ⟨c, by simp [hc], e⟩, fun ⟨c, hc, e⟩ => by
     rcases List.mem_append.1 hc with hc | hc
     · exact ⟨c, hc, e⟩
     · rw [List.mem_singleton.1 hc] at e; exact absurd e.1 hk⟩
   have same3 : a.kind ≠ 3 → ∀ x, m1.get x = fU 3 (b ++ [a]) x := fun hk x => by
     rw [fU_app, h1]
     have : fU 3 [a] x = none := fU_none.2 fun c hc e => by rw [List.mem_singleton.1 hc] at e; exact hk e.1
     rw [this]; simp
   by_cases k3 : a.kind = 3
   · rw [iff_T k3]
     refine go (fun x => ?_) (same4 (by omega))
     rw [Mm.get_set, fU_app]
     have hnone : fU 3 b a.name = none := fU_none.2 fun c hc e => by
       unfold declR at hd1
       rw [iff_T (.inr k3)] at hd1
       exact (iff_nil hd1).1 ⟨c, hc, e.1.trans k3.symm, e.2⟩
     by_cases e : x = a.name
     · rw [if_pos e, e, hnone, fU, iff_T ⟨k3, rfl⟩]; rfl
     · rw [if_neg e, h1]
       have : fU 3 [a] x = none := fU_none.2 fun c hc q => by rw [List.mem_singleton.1 hc] at q; exact e q.2.symm
       rw [this]; simp
   rw [iff_F k3]
   by_cases k4 : a.kind = 4
   · rw [iff_T k4]
     refine go (same3 k3) fun z => ?_
     rw [Mm.get_set]
     by_cases e : z = a.n
     · rw [if_pos e]
       exact ⟨fun _ => ⟨a, by simp, k4, e.symm⟩, fun _ => rfl⟩
     · rw [if_neg e, h2]
       exact ⟨fun ⟨c, hc, q⟩ => ⟨c, by simp [hc], q⟩, fun ⟨c, hc, q⟩ => by
         rcases List.mem_append.1 hc with hc | hc
         · exact ⟨c, hc, q⟩
         · rw [List.mem_singleton.1 hc] at q; exact absurd q.2.symm e⟩
   · rw [iff_F k4]
     exact go (same3 k3) (same4 k4)
theorem loop_nx {α : Type} {body : Nat → α → Unit → Option (Lp Unit Unit Bool)} : ∀ {l : List α} {i : Nat}, (∀ y ∈ l, ∀ i, body i y () = some (.nx ())) → foldL body (fun _ => ()) l i () = (some (.inl ()) : Option (Unit ⊕ Bool))
 | [], _, _ => rfl
 | y :: l, i, h => by
   rw [foldL, h y (by simp) i]
   exact loop_nx fun z hz => h z (by simp [hz])
theorem unit_ne {u : ByteArray} (h : unitP u) : u ≠ eS := by
 rintro rfl
 rcases h with h | h | h | h
 · exact absurd (congrArg ByteArray.data h) (by decide)
 · exact absurd (congrArg ByteArray.data h) (by decide)
 · exact absurd (congrArg ByteArray.data h) (by decide)
 · exact absurd h.1 (by decide)
theorem ex_unit {src n : Nd} (h : (exS src n).2 = []) : (exS src n).1 ≠ eS := by
 intro e
 obtain ⟨_, i2, _⟩ := inv (scP src) n []
 rw [infer_src src n (by simp)] at i2
 have := i2 (by simp) e
 rw [h] at this
 simp [cap] at this
theorem arts_nil {src : Nd} : ∀ {l : List Nd} {c : Nat}, artsR src c l = [] → ∀ a ∈ l, ∃ c', artR src c' a = []
 | [], _, _, a, ha => by cases ha
 | x :: l, c, h, a, ha => by
   rw [artsR] at h
   obtain ⟨h1, h2⟩ := List.append_eq_nil_iff.1 h
   rcases List.mem_cons.1 ha with rfl | ha
   · exact ⟨c, h1⟩
   · exact arts_nil h2 a ha
theorem law_UnitsClauses (src : Nd) (hs : okNd src) : law09_UnitsClauses_B src = some true := by
 obtain ⟨hps, hkl, hks⟩ := (okNd_iff src).1 hs
 obtain ⟨b, hb⟩ := few_s hs (b := z0) (by simp [okNd, okNds, okFn])
 rw [law09_UnitsClauses_B, hb, Check_s hs]
 show cond b _ _ = _
 cases b with
 | false => rfl
 | true =>
 rw [cond_true]
 simp only [Option.bind_some, ltI_mb, c_mb]
 by_cases h0 : (0 : Int) < (((checkQ src).length : Nat) : Int)
 · rw [iff_T h0]
 rw [iff_F h0]
 have hnil : checkQ src = [] := List.eq_nil_of_length_eq_zero (by omega)
 unfold checkQ at hnil
 by_cases hv : src.kind = 1 ∧ okV src
 rotate_left
 · rw [iff_F hv] at hnil; cases hnil
 rw [iff_T hv] at hnil
 have hR : checkR src = [] := by
   unfold cap at hnil
   rw [List.nil_append] at hnil
   cases hc : checkR src with
   | nil => rfl
   | cons a l => rw [hc] at hnil; simp at hnil
 unfold checkR at hR
 obtain ⟨hD, hA⟩ := List.append_eq_nil_iff.1 hR
 obtain ⟨_, hit, hsz, hdp⟩ := okV_src hv.2 hv.1
 obtain ⟨x1, x2, e1, g1, g2⟩ := maps_fold (l := src.kids) (b := []) (i := 0) (m1 := Mm.nil) (m2 := Mm.nil) hD (fun x => by rw [Mm.get_nil]; rfl) (fun z => by simp [Mm.get_nil])
 rw [List.nil_append] at g1 g2
 rw [lim_of hkl, List.drop_zero, e1]
 simp only [Option.bind_some, lpK]
 rw [lim_of hkl, loop_nx]
 · rfl
 intro a ha i
 rw [law09_UnitsClauses_L2]
 obtain ⟨_, hakl, haks⟩ := (okNd_iff a).1 (hks a ha)
 have hasz := szN_kid ha
 have hadp := (dpL_le (m := dpL src.kids)).1 (Nat.le_refl _) a ha
 have hdp1 := dpN_eq src
 rw [lim_of hakl, List.drop_zero, loop_nx]
 · rfl
 intro x hx i
 rw [law09_UnitsClauses_L3]
 obtain ⟨_, hxkl, hxks⟩ := (okNd_iff x).1 (haks x hx)
 have hxsz := szN_kid hx
 have hxdp := (dpL_le (m := dpL a.kids)).1 (Nat.le_refl _) x hx
 have hdp2 := dpN_eq a
 rw [lim_of hxkl, List.drop_zero, loop_nx]
 · rfl
 intro k hk i
 have hksz := szN_kid hk
 have hkdp := (dpL_le (m := dpL x.kids)).1 (Nat.le_refl _) k hk
 have hdp3 := dpN_eq x
 rw [law09_UnitsClauses_L4, Infer_s hs (hxks k hk)]
 simp only [Option.bind_some, eqI_mb, eqB_mb, ltI_mb, c_b, mb_is_true]
 rcases it_kind (hit a ha) with k2 | k3 | k4
 · have := ((it2 k2).1 (hit a ha)).2.2.1; rw [List.eq_nil_of_length_eq_zero this] at hx; cases hx
 · have := ((it3 k3).1 (hit a ha)).2.2.2.2.1; rw [List.eq_nil_of_length_eq_zero this] at hx; cases hx
 obtain ⟨_, _, _, hd, cs, hkids, hkin, _, _, hh, hcl⟩ := (it4 k4).1 (hit a ha)
 rw [hkids] at hx
 rcases List.mem_cons.1 hx with rfl | hx
 · have := hh.2.2.1; rw [List.eq_nil_of_length_eq_zero this] at hk; cases hk
 have hxk := hkin x hx
 obtain ⟨c, hc⟩ := arts_nil hA a ha
 unfold artR at hc
 rw [iff_T k4, hkids] at hc
 obtain ⟨hc1, hc2⟩ := List.append_eq_nil_iff.1 hc
 have hcx : clauseR src a x = [] := by
   have := List.flatMap_eq_nil_iff.1 hc2 x hx
   exact this
 unfold clauseR at hcx
 by_cases k7 : x.kind = 7
 · rw [iff_F (by omega), iff_F (by omega), iff_T k7]
   rw [iff_T k7] at hcx
   have hu := List.flatMap_eq_nil_iff.1 hcx k hk
   unfold unlessR at hu
   obtain ⟨u1, u2⟩ := iff_nil hu
   obtain ⟨u3, _⟩ := iff_nil u2
   rw [iff_T ((g2 k.n).2 (by
     have h3 : ¬ ∀ c ∈ src.kids, ¬ (c.kind = 4 ∧ c.n = k.n) := fun q => u3 (fA_none.2 q)
     exact Classical.byContradiction fun q => h3 fun c hc e => q ⟨c, hc, e⟩)), iff_F u1]
 · rw [iff_F k7] at hcx
   have hu := List.flatMap_eq_nil_iff.1 hcx k hk
   unfold wantR at hu
   obtain ⟨u1, u2⟩ := List.append_eq_nil_iff.1 hu
   have hU := ex_unit u1
   have hek := ((hcl x hx).2.2 k7).2 k hk
   have hkk : k.kind ≠ 1 := by
     have := ex_kind ((exP_iff k).1 hek).1
     omega
   have hvk : okV k := ⟨.inr ⟨hkk, hek⟩, by omega, by omega⟩
   have hq : inferQ src k = ((exS src k).1, cap [] []) := by rw [inferQ_eq, iff_T ⟨⟨hv.1, hkk⟩, hv.2, hvk⟩, u1]
   rw [hq]
   by_cases k6 : x.kind = 6
   · rw [iff_T k6]
     rw [iff_T k6] at u2
     have : (exS src k).1 = truthS := Classical.byContradiction fun q => (iff_nil u2).1 ⟨hU, unit_ne (.inl rfl), q⟩
     rw [iff_T this, iff_F (by simp [cap])]
   · rw [iff_F k6, iff_T (by omega)]
     rw [iff_F k6] at u2
     unfold headR at hc1
     obtain ⟨_, v2⟩ := iff_nil hc1
     obtain ⟨v3, _⟩ := iff_nil v2
     obtain ⟨u, hu3⟩ := Option.ne_none_iff_exists'.1 v3
     obtain ⟨ln, hln, hl3, hl4, rfl⟩ := fU_some hu3
     have hlu := ((it3 hl3).1 (hit ln hln)).2.1
     have hline : line src a.name = ln.unit := by unfold line; rw [hu3]; rfl
     have : (exS src k).1 = line src a.name := Classical.byContradiction fun q => (iff_nil u2).1 ⟨hU, by rw [hline]; exact unit_ne hlu, q⟩
     rw [g1, hu3]
     rw [iff_T (by rw [this, hline]; rfl), iff_F (by simp [cap])]
end Mo
end Go.Proofs.YtkfplcngmiljaaaGreatDoor
