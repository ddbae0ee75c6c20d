/- Part of a proof: see the last text. -/
import Derived.Test.YtkfplcngmiljaaaGreatDoorUnj
set_option linter.unusedVariables false
set_option linter.unusedSimpArgs false
namespace Go.Proofs.YtkfplcngmiljaaaGreatDoor
open AI Go
namespace Mo
set_option maxRecDepth 100000
set_option maxHeartbeats 4000000
noncomputable def DA  (depth:Int) (i0:Nat) (e0:Nd) (w0_0:Int):Option (Lp Int Int (Bool×Int)):=(Ci (⟨w0_0⟩:Ck) e0 depth).bind fun (y1a,y1b)=>cond y1a (some (.nx y1b)) (some (.rt (false,y1b)))
noncomputable def CT  (c:Ck) (list:(List Nd)) (depth:Int):Option (Bool×Int):=(Gv list.length (AT (fun i y x=>DA  depth i y x) (fun x=>x) (list.drop 0) 0 c.nodes)).bind (GF (fun (w0_0_2:Int)=>some (true,w0_0_2)) (fun v=>some v))
theorem IL {c:Ck} {list:(List Nd)} {depth:Int} {yR:Bool} {qc_nodesR:Int} (hS:Sound P G (.call 52 [.ptr 0 0,.sl .lost list.length (A7 list),.sc (.int .i64 depth),.fn (.func 53) [.ptr 0 0] []] ⟨[(0,.cells (EQ c))],1,[],0⟩ (.ret (.sc (.bool yR))) ⟨[(0,.cells [.sc (.int .i64 qc_nodesR)])],1,[],0⟩)) (u0:Nat) (hnb:[u0].Nodup:=by decide) (hnt:([]:List Nat).Nodup:=by decide):Cd.ok P G (.callU 52 [.ptr u0 0,.sl .lost list.length (A7 list),.sc (.int .i64 depth),.fn (.func 53) [.ptr u0 0] []] (.ret (.sc (.bool yR))) [(u0,.cells (EQ c))] [] [(u0,.cells [.sc (.int .i64 qc_nodesR)])] []) :=
 ER (M:=[.cells (EQ c)]) (M2:=[.cells [.sc (.int .i64 qc_nodesR)]]) (T:=[]) (T2:=[]) (k:=1) (j:=0) Hd.Ac _ _ _ _ hS rfl rfl rfl rfl rfl hnb hnt rfl rfl (.cons (.cells (.pl (J8.pl c))) .nil) (.cons (.cells (.pl (Bl rfl rfl))) .nil) (.cons (.ptr (by decide)) (.cons (.pl (Am.EL list)) (.cons (.pl rfl) (.cons (.fn (.cons (.ptr (by decide)) .nil) (.pl rfl)) .nil)))) (.pl rfl) (fun e he=>by simp only [List.mem_singleton] at he;subst he;exact (.arg (.here .ptr)))
theorem Hv   {c:Ck} {list:(List Nd)} {depth:Int} {yR:Bool} {qc_nodesR:Int} (h:CT  c list depth=some (yR,qc_nodesR)):Sound P G (.call 52 [.ptr 0 0,.sl .lost list.length (A7 list),.sc (.int .i64 depth),.fn (.func 53) [.ptr 0 0] []] ⟨[(0,.cells (EQ c))],1,[],0⟩ (.ret (.sc (.bool yR))) ⟨[(0,.cells [.sc (.int .i64 qc_nodesR)])],1,[],0⟩):=by
 unfold CT at h
 refine E4 Hd.mixed (AG Tryz.func52 uM ?_)
 revert h
 refine DJ (fun Q v=>Je P G Tryz.f52 1 ⟨[(0,.cells (EQ c))],1,[],0⟩ Q (.sc (.bool v.1)) ⟨[(0,.cells [.sc (.int .i64 v.2)])],1,[],0⟩) (fun i0 (w0_0:Int) (j0:List Value)=>fr 23 [(2,.sc (.int .i64 depth)),(3,.fn (.func 53) [.ptr 0 0] []),(11,.sl .lost list.length (A7 list)),(12,.sc (.int .i64 ((list.length:Nat):Int))),(13,.sc (.int .i64 ((i0:Nat):Int)))] [8,14,20,21] j0) (fun (w0_0:Int)=>⟨[(0,.cells [.sc (.int .i64 w0_0)])],1,[],0⟩) (fun (w0_0:Int) (jx:List Value)=>fr 23 [] [8,14,20,21] jx) (fun (w0_0:Int)=>⟨[(0,.cells [.sc (.int .i64 w0_0)])],1,[],0⟩) [.bool false] (DG [] 0 (sb bJ 52) [.code (sb bJ 7)] (Aa 300 []) (by kernel_rfl)) ?_ ?_ ?_ (fun v h=>by cases h;exact .outer .body)
 rintro i0 w0_0 j0 hge hq
 exact BV (Aa 300 [pb (II hge)]) (by kernel_rfl) (hq (js 4 j0 [(1,.bool false)]))
 rintro i0 e0 w0_0 j0 r he0 hi0 mi0 k
 show DA  depth i0 e0 w0_0=some r→_
 unfold DA
 refine Aj ?_
 rintro ⟨y1a,y1b⟩ hy1
 dsimp only
 let o1:List (PC P G):=[pb (F5 hi0),CL (Bu .lost he0),AK (Kf (I0 hy1) 0)]
 refine Ae (fun hv=>?_) fun hv=>?_
 subst hv
 rintro ⟨⟩
 exact B4 Hd.Ac [fq (Am.EL list)] [none] (Aa 300 (o1++[pi mi0])) (by kernel_rfl) (k [(jv j0 0),.bool true,.bool true,.bool false])
 subst hv
 rintro ⟨⟩
 exact Aq Hd.Ac _ _ [] [none] (Aa 300 o1) (by kernel_rfl) (.GX k)
 rintro w0_0_2 jx_2
 intro h
 have hE:=Option.some.inj h
 obtain ⟨hE0,hF0⟩:=Prod.mk.inj hE
 subst hE0 hF0
 exact Aq Hd.Ac _ _ [] [none] (BU 300 []) (by kernel_rfl) .body
noncomputable def B29:Code:=A4 Tryz.f29
theorem b29:Tryz.f29.body=some B29:=by kernel_rfl
noncomputable def Dz  (n:Nd):Option Bool:=cond (Br n.kind 1) ((Bf (⟨0⟩:Ck) n 1).bind fun (y1a,y1b)=>cond y1a ((A6 n (⟨0,ByteArray.empty,ByteArray.empty,0,0,0,0,(⟨0,[]⟩:Fn),[],0⟩:Nd)).bind fun y2=>cond y2 ((CT (⟨y1b⟩:Ck) n.kids 2).bind fun (y3a,y3b)=>some y3a) (some false)) (some false)) ((DE (⟨0⟩:Ck) n 1).bind fun (y4a,y4b)=>some y4a)
theorem DO   {n:Nd} {yR:Bool} (h:Dz  n=some yR):Pure P G 29 [.agg (A9 n)] (.sc (.bool yR)):=by
 unfold Dz at h
 refine BH Hd.mixed Hd.Ac (AG Tryz.func29 b29 ?_) (Bl (Am.F1 n) rfl) rfl
 revert h
 refine Ae (fun hb1=>?_) fun hb1=>?_
 refine Aj ?_
 rintro ⟨y1a,y1b⟩ hy1
 dsimp only
 let o1:List (PC P G):=[pn hb1,AK (CW (Cl hy1) 1)]
 refine Ae (fun hv=>?_) fun hv=>?_
 subst hv
 refine Aj fun y2 hy2=>?_
 let o2:List (PC P G):=o1++[Ev (.r (.g (.r (.r (.r (.r (.r (.r (.r (.r (.z (.z (.r .nil))))))))))) .nil)) (A5 hy2)]
 refine Ae (fun hv=>?_) fun hv=>?_
 subst hv
 refine Aj ?_
 rintro ⟨y3a,y3b⟩ hy3
 dsimp only
 intro h
 have hE:=Option.some.inj h
 subst hE
 exact rS (Aa 300 (o2++[AK (IL (Hv hy3) 1)])) (by kernel_rfl)
 subst hv
 rintro ⟨⟩
 exact rS (Aa 300 o2) (by kernel_rfl)
 subst hv
 rintro ⟨⟩
 exact rS (Aa 300 o1) (by kernel_rfl)
 refine Aj ?_
 rintro ⟨y4a,y4b⟩ hy4
 dsimp only
 intro h
 have hE:=Option.some.inj h
 subst hE
 exact rS (Aa 300 [pn hb1,AK (AL (Gw hy4) 1)]) (by kernel_rfl)
noncomputable def B30:Code:=A4 Tryz.f30
theorem b30:Tryz.f30.body=some B30:=by kernel_rfl
noncomputable def De  :Option Unit:=some ()
theorem IV  (hS:Sound P G (.call 30 [] ⟨[],0,[],0⟩ (.ret (.Bq [.ptr 0 0,.fn (.func 54) [] [.ptr 0 0]])) ⟨[(0,.cells [.sl .full 0 []])],1,[],0⟩)) (nx nr:Nat):Cd.ok P G (.callN 30 [] nx nr (.Bq [.ptr (nx+0) 0,.fn (.func 54) [] [.ptr (nx+0) 0]]) [((nx+0),.cells [.sl .full 0 []])] 1 [] 0) :=
 X8 Hd.Ac hS rfl (.Bq (.cons (.ptr (by decide)) (.cons (.fn (.pl rfl) (.cons (.ptr (by decide)) .nil)) .nil))) (.cons (.cells (.pl (Bl (iC rfl) rfl))) .nil)
theorem Hj  (h:De =some ()):Sound P G (.call 30 [] ⟨[],0,[],0⟩ (.ret (.Bq [.ptr 0 0,.fn (.func 54) [] [.ptr 0 0]])) ⟨[(0,.cells [.sl .full 0 []])],1,[],0⟩):=by
 unfold De at h
 refine YQ Hd.mixed (SL (m:=1) Tryz.func30 b30 ?_)
 revert h
 intro h
 exact VC (n:=1) (m0:=0) Hd.Ac _ _ [0] [1] [⟨.Bq [.ptr 0 0,.fn (.func 54) [] [.ptr 0 0]],.Bq [.ptr 0 0,.fn (.func 54) [] [.ptr 0 0]],(.under (oZ rfl (oZ (xF rfl (oZ rfl rfl)) rfl)))⟩] [fbp [.sl .full 0 []] (Bl (iC rfl) rfl)] _ _ (Aa 300 []) (Nat.zero_le _) (Nat.zero_le _) (by kernel_rfl) .body
noncomputable def wF:Code:=A4 Tryz.f31
theorem b31:Tryz.f31.body=some wF:=by kernel_rfl
noncomputable def Db   (i0:Nat) (e0:Nd) (w2_m:(Mm ByteArray ByteArray)) (w3_m:(Mm ByteArray ByteArray)) (w4_m:(Mm Int ByteArray)):Option (Lp ((Mm ByteArray ByteArray)×(Mm ByteArray ByteArray)×(Mm Int ByteArray)) ((Mm ByteArray ByteArray)×(Mm ByteArray ByteArray)×(Mm Int ByteArray)) Sc):=cond (Br e0.kind 2) (cond ((w2_m.get e0.name).isSome) (some (.nx (w2_m,w3_m,w4_m))) (some (.nx ((w2_m.set e0.name e0.unit),w3_m,w4_m)))) (cond (Br e0.kind 3) (cond ((w3_m.get e0.name).isSome) (some (.nx (w2_m,w3_m,w4_m))) (some (.nx (w2_m,(w3_m.set e0.name e0.unit),w4_m)))) (cond (Br e0.kind 4) (cond ((w4_m.get e0.n).isSome) (some (.nx (w2_m,w3_m,w4_m))) (some (.nx (w2_m,w3_m,(w4_m.set e0.n e0.name))))) (some (.nx (w2_m,w3_m,w4_m)))))
noncomputable def Dw  (source:Nd):Option Sc:=(Gv source.kids.length (AT (fun i y x=>Db   i y x.1 x.2.1 x.2.2) (fun x=>(x.1,x.2.1,x.2.2)) (source.kids.drop 0) 0 ((Mm.nil:Mm ByteArray ByteArray),(Mm.nil:Mm ByteArray ByteArray),(Mm.nil:Mm Int ByteArray)))).bind (GF (fun ((w2_m_1,w3_m_1,w4_m_1):((Mm ByteArray ByteArray)×(Mm ByteArray ByteArray)×(Mm Int ByteArray)))=>some (⟨w2_m_1,w3_m_1,w4_m_1⟩:Sc)) (fun v=>some v))
theorem Jh {source:Nd} {y0R:Sc} (hS:Sound P G (.call 31 [.agg (A9 source)] ⟨[],0,[],0⟩ (.ret (.agg [.mp 2,.mp 3,.mp 4])) ⟨[(4,(CM y0R.Ah)),(3,(Ba y0R.lines)),(2,(Ba y0R.facts))],5,[],0⟩)) (nx nr:Nat):Cd.ok P G (.callN 31 [.agg (A9 source)] nx nr (.agg [.mp (nx+2),.mp (nx+3),.mp (nx+4)]) [((nx+4),(CM y0R.Ah)),((nx+3),(Ba y0R.lines)),((nx+2),(Ba y0R.facts))] 5 [] 0) :=
 X8 Hd.Ac hS (Bl (Am.F1 source) rfl) (.agg (.cons (.mp (by decide)) (.cons (.mp (by decide)) (.cons (.mp (by decide)) .nil)))) (.cons (Il (fun _=>rfl)) (.cons (Il (fun _=>rfl)) (.cons (Il (fun _=>rfl)) .nil)))
theorem Hx {source:Nd} {y0R:Sc} (h:Dw source=some y0R):Sound P G (.call 31 [.agg (A9 source)] ⟨[],0,[],0⟩ (.ret (.agg [.mp 2,.mp 3,.mp 4])) ⟨[(4,(CM y0R.Ah)),(3,(Ba y0R.lines)),(2,(Ba y0R.facts))],5,[],0⟩):=by
 unfold Dw at h
 refine YQ Hd.mixed (SL (m:=5) Tryz.func31 b31 ?_)
 revert h
 refine DJ (fun Q v=>Je P G Tryz.f31 5 ⟨[],0,[],0⟩ Q (.agg [.mp 2,.mp 3,.mp 4]) ⟨[(4,(CM v.Ah)),(3,(Ba v.lines)),(2,(Ba v.facts))],5,[],0⟩) (fun i0 ((w2_m,w3_m,w4_m):((Mm ByteArray ByteArray)×(Mm ByteArray ByteArray)×(Mm Int ByteArray))) (j0:List Value)=>fr 81 [(2,.ptr 1 0),(3,.ptr 5 0),(17,.sl .lost source.kids.length (A7 source.kids)),(18,.sc (.int .i64 ((source.kids.length:Nat):Int))),(19,.sc (.int .i64 ((i0:Nat):Int)))] [7,9,11,20,25,26,34,35,36,43,44,52,53,54,61,62,70,71,72] j0) (fun ((w2_m,w3_m,w4_m):((Mm ByteArray ByteArray)×(Mm ByteArray ByteArray)×(Mm Int ByteArray)))=>⟨[(5,.cells [.mp 2,.mp 3,.mp 4]),(4,(CM w4_m)),(3,(Ba w3_m)),(2,(Ba w2_m)),(1,.cells [.sc (.map none),.sc (.map none),.sc (.map none)]),(0,.cells (A9 source))],6,[],0⟩) (fun ((w2_m,w3_m,w4_m):((Mm ByteArray ByteArray)×(Mm ByteArray ByteArray)×(Mm Int ByteArray))) (jx:List Value)=>fr 81 [(2,.ptr 1 0),(3,.ptr 5 0)] [7,9,11,20,25,26,34,35,36,43,44,52,53,54,61,62,70,71,72] jx) (fun ((w2_m,w3_m,w4_m):((Mm ByteArray ByteArray)×(Mm ByteArray ByteArray)×(Mm Int ByteArray)))=>⟨[(5,.cells [.mp 2,.mp 3,.mp 4]),(4,(CM w4_m)),(3,(Ba w3_m)),(2,(Ba w2_m)),(1,.cells [.sc (.map none),.sc (.map none),.sc (.map none)]),(0,.cells (A9 source))],6,[],0⟩) [] (DG [] 0 (sb wF 116) [.code (sb wF 15)] (Aa 300 []) (by kernel_rfl)) ?_ ?_ ?_ (fun v h=>by cases h;exact .outer .body)
 rintro i0 ⟨w2_m,w3_m,w4_m⟩ j0 hge hq
 exact BV (Aa 300 [pb (II hge)]) (by kernel_rfl) (hq (js 19 j0 [(3,.bool false)]))
 rintro i0 e0 ⟨w2_m,w3_m,w4_m⟩ j0 r he0 hi0 mi0 k
 show Db   i0 e0 w2_m w3_m w4_m=some r→_
 unfold Db
 let o1:List (PC P G):=[pb (F5 hi0),CL (Bu .lost he0)]
 refine Ae (fun hb1=>?_) fun hb1=>?_
 refine Ae (fun hb2=>?_) fun hb2=>?_
 rintro ⟨⟩
 exact B4 Hd.Ac [fq (Am.EL source.kids)] [none,BD w4_m,AN w3_m,AN w2_m,none,bp (Am.pl source)] (Aa 300 (o1++[pb hb1,Kg (PI w2_m e0.name hb2),pi mi0])) (by kernel_rfl) (k (js 19 j0 [(0,.bool true),(3,.bool true),(4,.bool true),(5,.bool true),(6,.bool true),(7,.bool true),(8,.bool false)]))
 rintro ⟨⟩
 exact B4 Hd.Ac [fq (Am.EL source.kids)] [none,BD w4_m,AN w3_m,AN (w2_m.set e0.name e0.unit),none,bp (Am.pl source)] (Aa 300 (o1++[pb hb1,Kg (PI w2_m e0.name hb2),WK (sD w2_m e0.name e0.unit),pi mi0])) (by kernel_rfl) (k (js 19 j0 [(0,.bool false),(3,.bool true),(4,.bool true),(5,.bool true),(6,.bool false),(7,.bool false),(8,.bool true)]))
 refine Ae (fun hb3=>?_) fun hb3=>?_
 refine Ae (fun hb4=>?_) fun hb4=>?_
 rintro ⟨⟩
 exact B4 Hd.Ac [fq (Am.EL source.kids)] [none,BD w4_m,AN w3_m,AN w2_m,none,bp (Am.pl source)] (Aa 300 (o1++[pb hb1,pb hb3,Kg (PI w3_m e0.name hb4),pi mi0])) (by kernel_rfl) (k (js 19 j0 [(1,.bool true),(3,.bool true),(4,.bool false),(5,.bool false),(9,.bool true),(10,.bool true),(11,.bool true),(12,.bool true),(13,.bool false)]))
 rintro ⟨⟩
 exact B4 Hd.Ac [fq (Am.EL source.kids)] [none,BD w4_m,AN (w3_m.set e0.name e0.unit),AN w2_m,none,bp (Am.pl source)] (Aa 300 (o1++[pb hb1,pb hb3,Kg (PI w3_m e0.name hb4),WK (sD w3_m e0.name e0.unit),pi mi0])) (by kernel_rfl) (k (js 19 j0 [(1,.bool false),(3,.bool true),(4,.bool false),(5,.bool false),(9,.bool true),(10,.bool true),(11,.bool false),(12,.bool false),(13,.bool true)]))
 refine Ae (fun hb5=>?_) fun hb5=>?_
 refine Ae (fun hb6=>?_) fun hb6=>?_
 rintro ⟨⟩
 exact B4 Hd.Ac [fq (Am.EL source.kids)] [none,BD w4_m,AN w3_m,AN w2_m,none,bp (Am.pl source)] (Aa 300 (o1++[pb hb1,pb hb3,pb hb5,Kg (U5 w4_m e0.n hb6),pi mi0])) (by kernel_rfl) (k (js 19 j0 [(2,.bool true),(3,.bool true),(4,.bool false),(5,.bool false),(9,.bool false),(10,.bool false),(14,.bool true),(15,.bool true),(16,.bool true),(17,.bool true),(18,.bool false)]))
 rintro ⟨⟩
 exact B4 Hd.Ac [fq (Am.EL source.kids)] [none,BD (w4_m.set e0.n e0.name),AN w3_m,AN w2_m,none,bp (Am.pl source)] (Aa 300 (o1++[pb hb1,pb hb3,pb hb5,Kg (U5 w4_m e0.n hb6),WK (vG w4_m e0.n e0.name),pi mi0])) (by kernel_rfl) (k (js 19 j0 [(2,.bool false),(3,.bool true),(4,.bool false),(5,.bool false),(9,.bool false),(10,.bool false),(14,.bool true),(15,.bool true),(16,.bool false),(17,.bool false),(18,.bool true)]))
 rintro ⟨⟩
 exact B4 Hd.Ac [fq (Am.EL source.kids)] [none,BD w4_m,AN w3_m,AN w2_m,none,bp (Am.pl source)] (Aa 300 (o1++[pb hb1,pb hb3,pb hb5,pi mi0])) (by kernel_rfl) (k (js 19 j0 [(3,.bool true),(4,.bool false),(5,.bool false),(9,.bool false),(10,.bool false),(14,.bool false),(15,.bool false)]))
 rintro ⟨w2_m_1,w3_m_1,w4_m_1⟩ jx_1
 dsimp only
 intro h
 have hE:=Option.some.inj h
 subst hE
 exact VC (n:=5) (m0:=0) Hd.Ac _ _ [4,3,2] [1] [⟨.agg [.mp 2,.mp 3,.mp 4],.agg [.mp 2,.mp 3,.mp 4],(.under (oZ rfl (oZ rfl (oZ rfl rfl))))⟩] [⟨(CM w4_m_1),(CM w4_m_1),(JH (fun _=>rfl))⟩,⟨(Ba w3_m_1),(Ba w3_m_1),(JH (fun _=>rfl))⟩,⟨(Ba w2_m_1),(Ba w2_m_1),(JH (fun _=>rfl))⟩] _ _ (BU 300 []) (Nat.zero_le _) (Nat.zero_le _) (by kernel_rfl) .body
noncomputable def B56:Code:=A4 Tryz.f56
theorem b56:Tryz.f56.body=some B56:=by kernel_rfl
noncomputable def DT  (unit:ByteArray):Option Bool:=cond (BL unit.data.toList ByteArray.empty.data.toList) (some false) (cond (BL unit.data.toList A3.data.toList) (some false) (cond (BL unit.data.toList By.data.toList) (some false) (cond (BL unit.data.toList Cm.data.toList) (some false) (some true))))
theorem D5   {unit:ByteArray} {yR:Bool} (h:DT  unit=some yR):Pure P G 56 [.sc (.string unit)] (.sc (.bool yR)):=by
 unfold DT at h
 refine BH Hd.mixed Hd.Ac (AG Tryz.func56 b56 ?_) (Bl rfl rfl) rfl
 revert h
 refine Ae (fun hb1=>?_) fun hb1=>?_
 rintro ⟨⟩
 exact rS (Aa 300 [pb hb1]) (by kernel_rfl)
 refine Ae (fun hb2=>?_) fun hb2=>?_
 rintro ⟨⟩
 exact rS (Aa 300 [pb hb1,pb hb2]) (by kernel_rfl)
 refine Ae (fun hb3=>?_) fun hb3=>?_
 rintro ⟨⟩
 exact rS (Aa 300 [pb hb1,pb hb2,pb hb3]) (by kernel_rfl)
 refine Ae (fun hb4=>?_) fun hb4=>?_
 rintro ⟨⟩
 exact rS (Aa 300 [pb hb1,pb hb2,pb hb3,pb hb4]) (by kernel_rfl)
 rintro ⟨⟩
 exact rS (Aa 300 [pb hb1,pb hb2,pb hb3,pb hb4]) (by kernel_rfl)
noncomputable def vB:Code:=A4 Tryz.f85
theorem b85:Tryz.f85.body=some vB:=by kernel_rfl
noncomputable def B55:Code:=A4 Tryz.f55
theorem b55:Tryz.f55.body=some B55:=by kernel_rfl
noncomputable def B54:Code:=A4 Tryz.f54
theorem b54:Tryz.f54.body=some B54:=by kernel_rfl
noncomputable def An  (err:Int) (at_:Int) (a2:(List Dg)):Option (Unit×(List Dg)):=cond (FV ((a2.length:Nat):Int) 20) (My (a2.length+1) (some ((),(a2++[(⟨err,at_⟩:Dg)])))) (some ((),a2))
theorem Ax {err:Int} {at_:Int} {a2:(List Dg)} {qa2R:(List Dg)} (hS:Sound P G (.call 54 [.sc (.int .i64 err),.sc (.int .i64 at_),.ptr 0 0] ⟨[(0,.cells [.sl (.row 0 2) a2.length (rows DX a2)])],1,[(0,a2.length)],1⟩ (.ret (.Bq [])) ⟨[(0,.cells [.sl (.row 0 2) qa2R.length (rows DX qa2R)])],1,[(0,qa2R.length)],1⟩)) (u0 v0:Nat) (hnb:[u0].Nodup:=by decide) (hnt:([v0]:List Nat).Nodup:=by decide):Cd.ok P G (.callU 54 [.sc (.int .i64 err),.sc (.int .i64 at_),.ptr u0 0] (.ret (.Bq [])) [(u0,.cells [.sl (.row v0 2) a2.length (rows DX a2)])] [(v0,a2.length)] [(u0,.cells [.sl (.row v0 2) qa2R.length (rows DX qa2R)])] [(v0,qa2R.length)]) :=
 ER (M:=[.cells [.sl (.row 0 2) a2.length (rows DX a2)]]) (M2:=[.cells [.sl (.row 0 2) qa2R.length (rows DX qa2R)]]) (T:=[a2.length]) (T2:=[qa2R.length]) (k:=1) (j:=1) Hd.Ac _ _ _ _ hS rfl rfl rfl rfl rfl hnb hnt rfl rfl (.cons (.cells (.cons (.row (by decide) (AZ.Bl a2)) .nil)) .nil) (.cons (.cells (.cons (.row (by decide) (AZ.Bl qa2R)) .nil)) .nil) (.cons (.pl rfl) (.cons (.pl rfl) (.cons (.ptr (by decide)) .nil))) (.pl rfl) (fun e he=>by simp only [List.mem_singleton] at he;subst he;exact (.arg (.there (.there (.here .ptr)))))
theorem Ao   {err:Int} {at_:Int} {a2:(List Dg)} {yR:Unit} {qa2R:(List Dg)} (h:An  err at_ a2=some (yR,qa2R)):Sound P G (.call 54 [.sc (.int .i64 err),.sc (.int .i64 at_),.ptr 0 0] ⟨[(0,.cells [.sl (.row 0 2) a2.length (rows DX a2)])],1,[(0,a2.length)],1⟩ (.ret (.Bq [])) ⟨[(0,.cells [.sl (.row 0 2) qa2R.length (rows DX qa2R)])],1,[(0,qa2R.length)],1⟩):=by
 unfold An at h
 refine E4 Hd.mixed (AG Tryz.func54 b54 ?_)
 revert h
 refine Ae (fun hb1=>?_) fun hb1=>?_
 refine Hy fun hl1=>?_
 intro h
 have hE:=Option.some.inj h
 obtain ⟨hE0,hF0⟩:=Prod.mk.inj hE
 subst hE0 hF0
 exact Ky Hd.Ac _ _ [⟨.Bq [],.Bq [],(.plain rfl)⟩] [br AZ 0 2 (a2++[(⟨err,at_⟩:Dg)])] (Aa 300 [pb hb1,K3 (qT (.row 0 2) a2 [(⟨err,at_⟩:Dg)] (o:=.full) (n:=1) (ns:=[.sc (.int .i64 err),.sc (.int .i64 at_)]) (AZ.wn [(⟨err,at_⟩:Dg)] (.r (.r .nil))) rfl rfl (by simp) (by simpa using hl1))]) (by kernel_rfl)
 intro h
 have hE:=Option.some.inj h
 obtain ⟨hE0,hF0⟩:=Prod.mk.inj hE
 subst hE0 hF0
 exact Ky Hd.Ac _ _ [⟨.Bq [],.Bq [],(.plain rfl)⟩] [br AZ 0 2 a2] (Aa 300 [pb hb1]) (by kernel_rfl)
noncomputable def FR  (units:Nat) (AM:(List ByteArray)) (i0:Nat) :Option (Lp Unit Unit Bool):=(AM[i0]?).bind fun x1=>(LD units ((0:Nat):Int)).bind fun k2=>(AM[k2]?).bind fun x3=>cond (BL x1.data.toList x3.data.toList) (some (.nx ())) (some (.rt false))
noncomputable def BJ  (units:Nat) (AM:(List ByteArray)):Option Bool:=(Gv units (Re (fun i x=>FR  units AM i ) (fun x=>()) units 0 ())).bind (GF (fun (_:Unit)=>some true) (fun v=>some v))
theorem BI {units:Nat} {AM:(List ByteArray)} {yR:Bool} (hS:Sound P G (.call 85 [.msl 0 0 units] ⟨[(0,(.cells (rows Kz AM)))],1,[],0⟩ (.ret (.sc (.bool yR))) ⟨[(0,(.cells (rows Kz AM)))],1,[],0⟩)) (u0:Nat) (hnb:[u0].Nodup:=by decide) (hnt:([]:List Nat).Nodup:=by decide):Cd.ok P G (.callU 85 [.msl u0 0 units] (.ret (.sc (.bool yR))) [(u0,(.cells (rows Kz AM)))] [] [(u0,(.cells (rows Kz AM)))] []) :=
 ER (M:=[(.cells (rows Kz AM))]) (M2:=[(.cells (rows Kz AM))]) (T:=[]) (T2:=[]) (k:=1) (j:=0) Hd.Ac _ _ _ _ hS rfl rfl rfl rfl rfl hnb hnt rfl rfl (.cons (.cells (.pl (A8.Bl AM))) .nil) (.cons (.cells (.pl (A8.Bl AM))) .nil) (.cons (.msl (by decide)) .nil) (.pl rfl) (fun e he=>by simp only [List.mem_singleton] at he;subst he;exact (.arg (.here .msl)))
theorem Be   {units:Nat} {AM:(List ByteArray)} {yR:Bool} (h:BJ  units AM=some yR):Sound P G (.call 85 [.msl 0 0 units] ⟨[(0,(.cells (rows Kz AM)))],1,[],0⟩ (.ret (.sc (.bool yR))) ⟨[(0,(.cells (rows Kz AM)))],1,[],0⟩):=by
 unfold BJ at h
 refine E4 Hd.mixed (AG Tryz.func85 b85 ?_)
 revert h
 refine xA (fun Q v=>Je P G Tryz.f85 1 ⟨[(0,(.cells (rows Kz AM)))],1,[],0⟩ Q (.sc (.bool v)) ⟨[(0,(.cells (rows Kz AM)))],1,[],0⟩) (fun i0 (_:Unit) (j0:List Value)=>fr 17 [(0,.msl 0 0 units),(5,.msl 0 0 units),(6,.sc (.int .i64 ((units:Nat):Int))),(7,.sc (.int .i64 ((i0:Nat):Int)))] [2,8,15] j0) (fun (_:Unit)=>⟨[(0,(.cells (rows Kz AM)))],1,[],0⟩) (fun (_:Unit) (jx:List Value)=>fr 17 [] [2,8,15] jx) (fun (_:Unit)=>⟨[(0,(.cells (rows Kz AM)))],1,[],0⟩) [.bool false] (DG [] 0 (sb vB 52) [.code (sb vB 7)] (Aa 300 []) (by kernel_rfl)) ?_ ?_ ?_ (fun v h=>by cases h;exact .outer .body)
 rintro ⟨⟩ j0 hge hq
 exact BV (Aa 300 [pb (II hge)]) (by kernel_rfl) (hq (js 3 j0 [(1,.bool false)]))
 rintro i0 ⟨⟩ j0 r hi0 mi0 k
 show FR  units AM i0 =some r→_
 unfold FR
 refine Aj fun x1 hx1=>?_
 refine Aj fun k2 hk2=>?_
 refine Aj fun x3 hx3=>?_
 let o1:List (PC P G):=[pb (F5 hi0),CL (XI (id:=0) (n:=units) (i:=i0) (by have:=NM (F5 hi0);omega)),hJ (NN hx1),CL (Nl (id:=0) hk2),hJ (NN hx3)]
 refine Ae (fun hb1=>?_) fun hb1=>?_
 rintro ⟨⟩
 exact C9 (Aa 300 (o1++[pn hb1,pi mi0])) (by kernel_rfl) (k [(jv j0 0),.bool true,.bool false])
 rintro ⟨⟩
 exact Aq Hd.Ac _ _ [] [bp (A8.Bl AM)] (Aa 300 (o1++[pn hb1])) (by kernel_rfl) (.GX k)
 rintro ⟨⟩ jx_4
 intro h
 have hE:=Option.some.inj h
 subst hE
 exact Aq Hd.Ac _ _ [] [bp (A8.Bl AM)] (BU 300 []) (by kernel_rfl) .body
noncomputable def B8  (operator:ByteArray) (units:Nat) (AM:(List ByteArray)):Option ByteArray:=(LD units ((0:Nat):Int)).bind fun k1=>(AM[k1]?).bind fun x2=>(LD units (RB ((units:Nat):Int) 1)).bind fun k3=>(AM[k3]?).bind fun x4=>cond (BL operator.data.toList Sl.data.toList) (cond (BL x2.data.toList A3.data.toList) ((BJ units AM).bind fun y5=>cond y5 (some A3) (some ByteArray.empty)) (some ByteArray.empty)) (cond (BL operator.data.toList IK.data.toList) (cond (BL x2.data.toList A3.data.toList) ((BJ units AM).bind fun y6=>cond y6 (some A3) (some ByteArray.empty)) (some ByteArray.empty)) (cond (BL operator.data.toList IF.data.toList) ((BJ units AM).bind fun y7=>cond y7 (some A3) (some ByteArray.empty)) (cond (BL operator.data.toList Is.data.toList) ((BJ units AM).bind fun y8=>cond y8 (some A3) (some ByteArray.empty)) (cond (BL operator.data.toList PQ.data.toList) ((BJ units AM).bind fun y9=>cond y9 (cond (BL x2.data.toList A3.data.toList) (some ByteArray.empty) (some A3)) (some ByteArray.empty)) (cond (BL operator.data.toList Iu.data.toList) ((BJ units AM).bind fun y10=>cond y10 (cond (BL x2.data.toList A3.data.toList) (some ByteArray.empty) (some A3)) (some ByteArray.empty)) (cond (BL operator.data.toList K6.data.toList) ((BJ units AM).bind fun y11=>cond y11 (cond (BL x2.data.toList A3.data.toList) (some ByteArray.empty) (some x2)) (some ByteArray.empty)) (cond (BL operator.data.toList H7.data.toList) ((BJ units AM).bind fun y12=>cond y12 (cond (BL x2.data.toList A3.data.toList) (some ByteArray.empty) (some x2)) (some ByteArray.empty)) (cond (BL operator.data.toList O7.data.toList) (cond (BL x2.data.toList By.data.toList) (cond (BL x4.data.toList A3.data.toList) (some ByteArray.empty) (some x4)) (cond (BL x4.data.toList By.data.toList) (cond (BL x2.data.toList A3.data.toList) (some ByteArray.empty) (some x2)) (some ByteArray.empty))) (cond (BL operator.data.toList Jm.data.toList) (cond (BL x2.data.toList A3.data.toList) (some ByteArray.empty) (some x2)) (cond (BL operator.data.toList Tl.data.toList) (cond (BL x2.data.toList Cm.data.toList) ((DT x4).bind fun y13=>cond y13 (some x4) (some ByteArray.empty)) (some ByteArray.empty)) (some ByteArray.empty)))))))))))
theorem Du {operator:ByteArray} {units:Nat} {AM:(List ByteArray)} {yR:ByteArray} (hS:Sound P G (.call 55 [.sc (.string operator),.msl 0 0 units] ⟨[(0,(.cells (rows Kz AM)))],1,[],0⟩ (.ret (.sc (.string yR))) ⟨[(0,(.cells (rows Kz AM)))],1,[],0⟩)) (u0:Nat) (hnb:[u0].Nodup:=by decide) (hnt:([]:List Nat).Nodup:=by decide):Cd.ok P G (.callU 55 [.sc (.string operator),.msl u0 0 units] (.ret (.sc (.string yR))) [(u0,(.cells (rows Kz AM)))] [] [(u0,(.cells (rows Kz AM)))] []) :=
 ER (M:=[(.cells (rows Kz AM))]) (M2:=[(.cells (rows Kz AM))]) (T:=[]) (T2:=[]) (k:=1) (j:=0) Hd.Ac _ _ _ _ hS rfl rfl rfl rfl rfl hnb hnt rfl rfl (.cons (.cells (.pl (A8.Bl AM))) .nil) (.cons (.cells (.pl (A8.Bl AM))) .nil) (.cons (.pl rfl) (.cons (.msl (by decide)) .nil)) (.pl rfl) (fun e he=>by simp only [List.mem_singleton] at he;subst he;exact (.arg (.there (.here .msl))))
theorem CK   {operator:ByteArray} {units:Nat} {AM:(List ByteArray)} {yR:ByteArray} (h:B8  operator units AM=some yR):Sound P G (.call 55 [.sc (.string operator),.msl 0 0 units] ⟨[(0,(.cells (rows Kz AM)))],1,[],0⟩ (.ret (.sc (.string yR))) ⟨[(0,(.cells (rows Kz AM)))],1,[],0⟩):=by
 unfold B8 at h
 refine E4 Hd.mixed (AG Tryz.func55 b55 ?_)
 revert h
 refine Aj fun k1 hk1=>?_
 refine Aj fun x2 hx2=>?_
 refine Aj fun k3 hk3=>?_
 refine Aj fun x4 hx4=>?_
 let o1:List (PC P G):=[CL (Nl (id:=0) hk1),hJ (NN hx2),pk,CL (Nl (id:=0) hk3),hJ (NN hx4)]
 refine Ae (fun hb1=>?_) fun hb1=>?_
 refine Ae (fun hb2=>?_) fun hb2=>?_
 refine Aj fun y5 hy5=>?_
 refine Ae (fun hv=>?_) fun hv=>?_
 subst hv
 intro h
 have hE:=Option.some.inj h
 subst hE
 exact Aq Hd.Ac _ _ [] [bp (A8.Bl AM)] (Aa 300 (o1++[pb hb1,pn hb2,AK (BI (Be hy5) 0)])) (by kernel_rfl) .body
 subst hv
 intro h
 have hE:=Option.some.inj h
 subst hE
 exact Aq Hd.Ac _ _ [] [bp (A8.Bl AM)] (Aa 300 (o1++[pb hb1,pn hb2,AK (BI (Be hy5) 0)])) (by kernel_rfl) .body
 intro h
 have hE:=Option.some.inj h
 subst hE
 exact Aq Hd.Ac _ _ [] [bp (A8.Bl AM)] (Aa 300 (o1++[pb hb1,pn hb2])) (by kernel_rfl) .body
 let o2:List (PC P G):=o1++[pb hb1]
 refine Ae (fun hb3=>?_) fun hb3=>?_
 refine Ae (fun hb4=>?_) fun hb4=>?_
 refine Aj fun y6 hy6=>?_
 refine Ae (fun hv=>?_) fun hv=>?_
 subst hv
 intro h
 have hE:=Option.some.inj h
 subst hE
 exact Aq Hd.Ac _ _ [] [bp (A8.Bl AM)] (Aa 300 (o2++[pb hb3,pn hb4,AK (BI (Be hy6) 0)])) (by kernel_rfl) .body
 subst hv
 intro h
 have hE:=Option.some.inj h
 subst hE
 exact Aq Hd.Ac _ _ [] [bp (A8.Bl AM)] (Aa 300 (o2++[pb hb3,pn hb4,AK (BI (Be hy6) 0)])) (by kernel_rfl) .body
 intro h
 have hE:=Option.some.inj h
 subst hE
 exact Aq Hd.Ac _ _ [] [bp (A8.Bl AM)] (Aa 300 (o2++[pb hb3,pn hb4])) (by kernel_rfl) .body
 let o3:List (PC P G):=o2++[pb hb3]
 refine Ae (fun hb5=>?_) fun hb5=>?_
 refine Aj fun y7 hy7=>?_
 refine Ae (fun hv=>?_) fun hv=>?_
 subst hv
 intro h
 have hE:=Option.some.inj h
 subst hE
 exact Aq Hd.Ac _ _ [] [bp (A8.Bl AM)] (Aa 300 (o3++[pb hb5,AK (BI (Be hy7) 0)])) (by kernel_rfl) .body
 subst hv
 intro h
 have hE:=Option.some.inj h
 subst hE
 exact Aq Hd.Ac _ _ [] [bp (A8.Bl AM)] (Aa 300 (o3++[pb hb5,AK (BI (Be hy7) 0)])) (by kernel_rfl) .body
 let o4:List (PC P G):=o3++[pb hb5]
 refine Ae (fun hb6=>?_) fun hb6=>?_
 refine Aj fun y8 hy8=>?_
 refine Ae (fun hv=>?_) fun hv=>?_
 subst hv
 intro h
 have hE:=Option.some.inj h
 subst hE
 exact Aq Hd.Ac _ _ [] [bp (A8.Bl AM)] (Aa 300 (o4++[pb hb6,AK (BI (Be hy8) 0)])) (by kernel_rfl) .body
 subst hv
 intro h
 have hE:=Option.some.inj h
 subst hE
 exact Aq Hd.Ac _ _ [] [bp (A8.Bl AM)] (Aa 300 (o4++[pb hb6,AK (BI (Be hy8) 0)])) (by kernel_rfl) .body
 let o5:List (PC P G):=o4++[pb hb6]
 refine Ae (fun hb7=>?_) fun hb7=>?_
 refine Aj fun y9 hy9=>?_
 let o6:List (PC P G):=o5++[pb hb7,AK (BI (Be hy9) 0)]
 refine Ae (fun hv=>?_) fun hv=>?_
 subst hv
 refine Ae (fun hb8=>?_) fun hb8=>?_
 intro h
 have hE:=Option.some.inj h
 subst hE
 exact Aq Hd.Ac _ _ [] [bp (A8.Bl AM)] (Aa 300 (o6++[pb hb8])) (by kernel_rfl) .body
 intro h
 have hE:=Option.some.inj h
 subst hE
 exact Aq Hd.Ac _ _ [] [bp (A8.Bl AM)] (Aa 300 (o6++[pb hb8])) (by kernel_rfl) .body
 subst hv
 intro h
 have hE:=Option.some.inj h
 subst hE
 exact Aq Hd.Ac _ _ [] [bp (A8.Bl AM)] (Aa 300 o6) (by kernel_rfl) .body
 let o7:List (PC P G):=o5++[pb hb7]
 refine Ae (fun hb9=>?_) fun hb9=>?_
 refine Aj fun y10 hy10=>?_
 let o8:List (PC P G):=o7++[pb hb9,AK (BI (Be hy10) 0)]
 refine Ae (fun hv=>?_) fun hv=>?_
 subst hv
 refine Ae (fun hb10=>?_) fun hb10=>?_
 intro h
 have hE:=Option.some.inj h
 subst hE
 exact Aq Hd.Ac _ _ [] [bp (A8.Bl AM)] (Aa 300 (o8++[pb hb10])) (by kernel_rfl) .body
 intro h
 have hE:=Option.some.inj h
 subst hE
 exact Aq Hd.Ac _ _ [] [bp (A8.Bl AM)] (Aa 300 (o8++[pb hb10])) (by kernel_rfl) .body
 subst hv
 intro h
 have hE:=Option.some.inj h
 subst hE
 exact Aq Hd.Ac _ _ [] [bp (A8.Bl AM)] (Aa 300 o8) (by kernel_rfl) .body
 let o9:List (PC P G):=o7++[pb hb9]
 refine Ae (fun hb11=>?_) fun hb11=>?_
 refine Aj fun y11 hy11=>?_
 let o10:List (PC P G):=o9++[pb hb11,AK (BI (Be hy11) 0)]
 refine Ae (fun hv=>?_) fun hv=>?_
 subst hv
 refine Ae (fun hb12=>?_) fun hb12=>?_
 intro h
 have hE:=Option.some.inj h
 subst hE
 exact Aq Hd.Ac _ _ [] [bp (A8.Bl AM)] (Aa 300 (o10++[pb hb12])) (by kernel_rfl) .body
 intro h
 have hE:=Option.some.inj h
 subst hE
 exact Aq Hd.Ac _ _ [] [bp (A8.Bl AM)] (Aa 300 (o10++[pb hb12])) (by kernel_rfl) .body
 subst hv
 intro h
 have hE:=Option.some.inj h
 subst hE
 exact Aq Hd.Ac _ _ [] [bp (A8.Bl AM)] (Aa 300 o10) (by kernel_rfl) .body
 let o11:List (PC P G):=o9++[pb hb11]
 refine Ae (fun hb13=>?_) fun hb13=>?_
 refine Aj fun y12 hy12=>?_
 let o12:List (PC P G):=o11++[pb hb13,AK (BI (Be hy12) 0)]
 refine Ae (fun hv=>?_) fun hv=>?_
 subst hv
 refine Ae (fun hb14=>?_) fun hb14=>?_
 intro h
 have hE:=Option.some.inj h
 subst hE
 exact Aq Hd.Ac _ _ [] [bp (A8.Bl AM)] (Aa 300 (o12++[pb hb14])) (by kernel_rfl) .body
 intro h
 have hE:=Option.some.inj h
 subst hE
 exact Aq Hd.Ac _ _ [] [bp (A8.Bl AM)] (Aa 300 (o12++[pb hb14])) (by kernel_rfl) .body
 subst hv
 intro h
 have hE:=Option.some.inj h
 subst hE
 exact Aq Hd.Ac _ _ [] [bp (A8.Bl AM)] (Aa 300 o12) (by kernel_rfl) .body
 let o13:List (PC P G):=o11++[pb hb13]
 refine Ae (fun hb15=>?_) fun hb15=>?_
 refine Ae (fun hb16=>?_) fun hb16=>?_
 refine Ae (fun hb17=>?_) fun hb17=>?_
 intro h
 have hE:=Option.some.inj h
 subst hE
 exact Aq Hd.Ac _ _ [] [bp (A8.Bl AM)] (Aa 300 (o13++[pb hb15,pb hb16,pb hb17])) (by kernel_rfl) .body
 intro h
 have hE:=Option.some.inj h
 subst hE
 exact Aq Hd.Ac _ _ [] [bp (A8.Bl AM)] (Aa 300 (o13++[pb hb15,pb hb16,pb hb17])) (by kernel_rfl) .body
 refine Ae (fun hb18=>?_) fun hb18=>?_
 refine Ae (fun hb19=>?_) fun hb19=>?_
 intro h
 have hE:=Option.some.inj h
 subst hE
 exact Aq Hd.Ac _ _ [] [bp (A8.Bl AM)] (Aa 300 (o13++[pb hb15,pb hb16,pn hb18,pb hb19])) (by kernel_rfl) .body
 intro h
 have hE:=Option.some.inj h
 subst hE
 exact Aq Hd.Ac _ _ [] [bp (A8.Bl AM)] (Aa 300 (o13++[pb hb15,pb hb16,pn hb18,pb hb19])) (by kernel_rfl) .body
 intro h
 have hE:=Option.some.inj h
 subst hE
 exact Aq Hd.Ac _ _ [] [bp (A8.Bl AM)] (Aa 300 (o13++[pb hb15,pb hb16,pn hb18])) (by kernel_rfl) .body
 refine Ae (fun hb20=>?_) fun hb20=>?_
 refine Ae (fun hb21=>?_) fun hb21=>?_
 intro h
 have hE:=Option.some.inj h
 subst hE
 exact Aq Hd.Ac _ _ [] [bp (A8.Bl AM)] (Aa 300 (o13++[pb hb15,pb hb20,pb hb21])) (by kernel_rfl) .body
 intro h
 have hE:=Option.some.inj h
 subst hE
 exact Aq Hd.Ac _ _ [] [bp (A8.Bl AM)] (Aa 300 (o13++[pb hb15,pb hb20,pb hb21])) (by kernel_rfl) .body
 refine Ae (fun hb22=>?_) fun hb22=>?_
 refine Ae (fun hb23=>?_) fun hb23=>?_
 refine Aj fun y13 hy13=>?_
 refine Ae (fun hv=>?_) fun hv=>?_
 subst hv
 intro h
 have hE:=Option.some.inj h
 subst hE
 exact Aq Hd.Ac _ _ [] [bp (A8.Bl AM)] (Aa 300 (o13++[pb hb15,pb hb20,pb hb22,pb hb23,Ak (D5 hy13)])) (by kernel_rfl) .body
 subst hv
 intro h
 have hE:=Option.some.inj h
 subst hE
 exact Aq Hd.Ac _ _ [] [bp (A8.Bl AM)] (Aa 300 (o13++[pb hb15,pb hb20,pb hb22,pb hb23,Ak (D5 hy13)])) (by kernel_rfl) .body
 intro h
 have hE:=Option.some.inj h
 subst hE
 exact Aq Hd.Ac _ _ [] [bp (A8.Bl AM)] (Aa 300 (o13++[pb hb15,pb hb20,pb hb22,pb hb23])) (by kernel_rfl) .body
 intro h
 have hE:=Option.some.inj h
 subst hE
 exact Aq Hd.Ac _ _ [] [bp (A8.Bl AM)] (Aa 300 (o13++[pb hb15,pb hb20,pb hb22])) (by kernel_rfl) .body
theorem DF {s:Sc} {e:Nd} {report:(List Dg)} {yR:ByteArray} {qreportR:(List Dg)} (hS:Sound P G (.call 32 [.agg [.mp 0,.mp 1,.mp 2],.agg (A9 e),.fn (.func 54) [] [.ptr 3 0]] ⟨[(3,.cells [.sl (.row 0 2) report.length (rows DX report)]),(2,(CM s.Ah)),(1,(Ba s.lines)),(0,(Ba s.facts))],4,[(0,report.length)],1⟩ (.ret (.sc (.string yR))) ⟨[(3,.cells [.sl (.row 0 2) qreportR.length (rows DX qreportR)]),(2,(CM s.Ah)),(1,(Ba s.lines)),(0,(Ba s.facts))],4,[(0,qreportR.length)],1⟩)) (u0 u1 u2 u3 v0:Nat) (hnb:[u0,u1,u2,u3].Nodup:=by decide) (hnt:([v0]:List Nat).Nodup:=by decide):Cd.ok P G (.callU 32 [.agg [.mp u0,.mp u1,.mp u2],.agg (A9 e),.fn (.func 54) [] [.ptr u3 0]] (.ret (.sc (.string yR))) [(u0,(Ba s.facts)),(u1,(Ba s.lines)),(u2,(CM s.Ah)),(u3,.cells [.sl (.row v0 2) report.length (rows DX report)])] [(v0,report.length)] [(u0,(Ba s.facts)),(u1,(Ba s.lines)),(u2,(CM s.Ah)),(u3,.cells [.sl (.row v0 2) qreportR.length (rows DX qreportR)])] [(v0,qreportR.length)]) :=
 ER (M:=[(Ba s.facts),(Ba s.lines),(CM s.Ah),.cells [.sl (.row 0 2) report.length (rows DX report)]]) (M2:=[(Ba s.facts),(Ba s.lines),(CM s.Ah),.cells [.sl (.row 0 2) qreportR.length (rows DX qreportR)]]) (T:=[report.length]) (T2:=[qreportR.length]) (k:=4) (j:=1) Hd.Ac _ _ _ _ hS rfl rfl rfl rfl rfl hnb hnt rfl rfl (.cons (Il (fun _=>rfl)) (.cons (Il (fun _=>rfl)) (.cons (Il (fun _=>rfl)) (.cons (.cells (.cons (.row (by decide) (AZ.Bl report)) .nil)) .nil)))) (.cons (Il (fun _=>rfl)) (.cons (Il (fun _=>rfl)) (.cons (Il (fun _=>rfl)) (.cons (.cells (.cons (.row (by decide) (AZ.Bl qreportR)) .nil)) .nil)))) (.cons (.agg (.cons (.mp (by decide)) (.cons (.mp (by decide)) (.cons (.mp (by decide)) .nil)))) (.cons (.pl (Am.F1 e)) (.cons (.fn (.pl rfl) (.cons (.ptr (by decide)) .nil)) .nil))) (.pl rfl) (by
   intro e he
   simp only [List.mem_cons,List.not_mem_nil,or_false] at he
   rcases he with rfl | rfl | rfl | rfl
   · exact (.arg (.here (.agg (.here .mp))))
   · exact (.arg (.here (.agg (.there (.here .mp)))))
   · exact (.arg (.here (.agg (.there (.there (.here .mp))))))
   · exact (.arg (.there (.there (.here (.fn2 (.here .ptr))))))
   )
noncomputable def vO:Code:=A4 Tryz.f32
theorem b32:Tryz.f32.body=some vO:=by kernel_rfl
noncomputable def B7 (BM:Sc→Nd→(List Dg)→Option (ByteArray×(List Dg))) (s:Sc) (i0:Nat) (e0:Nd) (whole8:Bool) (w6_l:(List ByteArray)) (w3_0:(List Dg)):Option (Lp (Bool×(List ByteArray)×(List Dg)) (Bool×(List ByteArray)×(List Dg)) (ByteArray×(List Dg))):=(BM s e0 w3_0).bind fun (y2a,y2b)=>(w6_l[i0]?).bind fun x3=>cond whole8 (((w6_l.set i0 y2a)[i0]?).bind fun x4=>cond (BL x4.data.toList ByteArray.empty.data.toList) (some (.nx (false,(w6_l.set i0 y2a),y2b))) (some (.nx (true,(w6_l.set i0 y2a),y2b)))) (some (.nx (false,(w6_l.set i0 y2a),y2b)))
noncomputable def DD (BM:Sc→Nd→(List Dg)→Option (ByteArray×(List Dg))) (s:Sc) (e:Nd) (report:(List Dg)):Option (ByteArray×(List Dg)):=dI (e.kids.length) ((Gv e.kids.length (AT (fun i y x=>B7 BM s i y x.1 x.2.1 x.2.2) (fun x=>(x.1,x.2.1,x.2.2)) (e.kids.drop 0) 0 (true,(List.replicate e.kids.length ByteArray.empty),report))).bind (GF (fun ((whole8_5,w6_l_5,w3_0_5):(Bool×(List ByteArray)×(List Dg)))=>cond whole8_5 (cond (Br e.kind 11) (cond (BL e.unit.data.toList ByteArray.empty.data.toList) ((An 11 e.att w3_0_5).bind fun (y6a,y6b)=>some (e.unit,y6b)) (some (e.unit,w3_0_5))) (cond (Br e.kind 12) (cond (BL ((s.facts.get e.name).getD ByteArray.empty).data.toList ByteArray.empty.data.toList) ((An 91 e.att w3_0_5).bind fun (y7a,y7b)=>some (((s.facts.get e.name).getD ByteArray.empty),y7b)) (some (((s.facts.get e.name).getD ByteArray.empty),w3_0_5))) (cond (Br e.kind 13) (cond (BL ((s.lines.get ((s.Ah.get e.n).getD ByteArray.empty)).getD ByteArray.empty).data.toList ByteArray.empty.data.toList) ((An 91 e.att w3_0_5).bind fun (y8a,y8b)=>some (((s.lines.get ((s.Ah.get e.n).getD ByteArray.empty)).getD ByteArray.empty),y8b)) (some (((s.lines.get ((s.Ah.get e.n).getD ByteArray.empty)).getD ByteArray.empty),w3_0_5))) (cond (Br e.kind 14) (cond (BL By.data.toList ByteArray.empty.data.toList) ((An 11 e.att w3_0_5).bind fun (y9a,y9b)=>some (By,y9b)) (some (By,w3_0_5))) (cond (Br e.kind 15) ((B8 IK e.kids.length w6_l_5).bind fun y10=>cond (BL y10.data.toList ByteArray.empty.data.toList) ((An 11 e.att w3_0_5).bind fun (y11a,y11b)=>some (y10,y11b)) (some (y10,w3_0_5))) (cond (Br e.kind 16) ((B8 e.name e.kids.length w6_l_5).bind fun y12=>cond (BL y12.data.toList ByteArray.empty.data.toList) ((An 11 e.att w3_0_5).bind fun (y13a,y13b)=>some (y12,y13b)) (some (y12,w3_0_5))) (cond (Br e.kind 17) ((B8 K6 e.kids.length w6_l_5).bind fun y14=>cond (BL y14.data.toList ByteArray.empty.data.toList) ((An 11 e.att w3_0_5).bind fun (y15a,y15b)=>some (y14,y15b)) (some (y14,w3_0_5))) (cond (Br e.kind 18) ((LD e.kids.length ((0:Nat):Int)).bind fun U7=>(w6_l_5[U7]?).bind fun x17=>(DT x17).bind fun y18=>cond y18 (cond (BL x17.data.toList ByteArray.empty.data.toList) ((An 11 e.att w3_0_5).bind fun (y19a,y19b)=>some (x17,y19b)) (some (x17,w3_0_5))) (cond (BL ByteArray.empty.data.toList ByteArray.empty.data.toList) ((An 11 e.att w3_0_5).bind fun (y20a,y20b)=>some (ByteArray.empty,y20b)) (some (ByteArray.empty,w3_0_5)))) (cond (BL ByteArray.empty.data.toList ByteArray.empty.data.toList) ((An 11 e.att w3_0_5).bind fun (y21a,y21b)=>some (ByteArray.empty,y21b)) (some (ByteArray.empty,w3_0_5))))))))))) (some (ByteArray.empty,w3_0_5))) (fun v=>some v)))
theorem IZ (BM:Sc→Nd→(List Dg)→Option (ByteArray×(List Dg))) (JD:∀ {s:Sc} {e:Nd} {report:(List Dg)} {yR:ByteArray} {qreportR:(List Dg)},BM s e report=some (yR,qreportR)→Sound P G (.call 32 [.agg [.mp 0,.mp 1,.mp 2],.agg (A9 e),.fn (.func 54) [] [.ptr 3 0]] ⟨[(3,.cells [.sl (.row 0 2) report.length (rows DX report)]),(2,(CM s.Ah)),(1,(Ba s.lines)),(0,(Ba s.facts))],4,[(0,report.length)],1⟩ (.ret (.sc (.string yR))) ⟨[(3,.cells [.sl (.row 0 2) qreportR.length (rows DX qreportR)]),(2,(CM s.Ah)),(1,(Ba s.lines)),(0,(Ba s.facts))],4,[(0,qreportR.length)],1⟩)) {s:Sc} {e:Nd} {report:(List Dg)} {yR:ByteArray} {qreportR:(List Dg)} (h:DD BM s e report=some (yR,qreportR)):Sound P G (.call 32 [.agg [.mp 0,.mp 1,.mp 2],.agg (A9 e),.fn (.func 54) [] [.ptr 3 0]] ⟨[(3,.cells [.sl (.row 0 2) report.length (rows DX report)]),(2,(CM s.Ah)),(1,(Ba s.lines)),(0,(Ba s.facts))],4,[(0,report.length)],1⟩ (.ret (.sc (.string yR))) ⟨[(3,.cells [.sl (.row 0 2) qreportR.length (rows DX qreportR)]),(2,(CM s.Ah)),(1,(Ba s.lines)),(0,(Ba s.facts))],4,[(0,qreportR.length)],1⟩):=by
 unfold DD at h
 refine E4 Hd.mixed (AG Tryz.func32 b32 ?_)
 revert h
 refine sO fun hl1=>?_
 refine DJ (fun Q v=>Je P G Tryz.f32 4 ⟨[(3,.cells [.sl (.row 0 2) report.length (rows DX report)]),(2,(CM s.Ah)),(1,(Ba s.lines)),(0,(Ba s.facts))],4,[(0,report.length)],1⟩ Q (.sc (.string v.1)) ⟨[(3,.cells [.sl (.row 0 2) v.2.length (rows DX v.2)]),(2,(CM s.Ah)),(1,(Ba s.lines)),(0,(Ba s.facts))],4,[(0,v.2.length)],1⟩) (fun i0 ((whole8,w6_l,w3_0):(Bool×(List ByteArray)×(List Dg))) (j0:List Value)=>fr 99 [(2,.fn (.func 54) [] [.ptr 3 0]),(3,.ptr 4 0),(4,.ptr 5 0),(7,.msl 6 0 e.kids.length),(8,.sc (.bool whole8)),(18,.sl .lost e.kids.length (A7 e.kids)),(19,.sc (.int .i64 ((e.kids.length:Nat):Int))),(20,.sc (.int .i64 ((i0:Nat):Int)))] [21,32,33,38,39,41,42,45,46,49,50,56,57,66,67,68,69,72,73,78,79,82,83,87,92] j0) (fun ((whole8,w6_l,w3_0):(Bool×(List ByteArray)×(List Dg)))=>⟨[(6,(.cells (rows Kz w6_l))),(5,.cells (A9 e)),(4,.cells [.mp 0,.mp 1,.mp 2]),(3,.cells [.sl (.row 0 2) w3_0.length (rows DX w3_0)]),(2,(CM s.Ah)),(1,(Ba s.lines)),(0,(Ba s.facts))],7,[(0,w3_0.length)],1⟩) (fun ((whole8,w6_l,w3_0):(Bool×(List ByteArray)×(List Dg))) (jx:List Value)=>fr 99 [(2,.fn (.func 54) [] [.ptr 3 0]),(3,.ptr 4 0),(4,.ptr 5 0),(7,.msl 6 0 e.kids.length),(8,.sc (.bool whole8))] [21,32,33,38,39,41,42,45,46,49,50,56,57,66,67,68,69,72,73,78,79,82,83,87,92] jx) (fun ((whole8,w6_l,w3_0):(Bool×(List ByteArray)×(List Dg)))=>⟨[(6,(.cells (rows Kz w6_l))),(5,.cells (A9 e)),(4,.cells [.mp 0,.mp 1,.mp 2]),(3,.cells [.sl (.row 0 2) w3_0.length (rows DX w3_0)]),(2,(CM s.Ah)),(1,(Ba s.lines)),(0,(Ba s.facts))],7,[(0,w3_0.length)],1⟩) [] (DG [] 0 (sb vO 244) [.code (sb vO 31)] (Aa 300 [pmb (qZ (n:=e.kids.length) hl1)]) (by kernel_rfl)) ?_ ?_ ?_ (fun v h=>by cases h;exact .outer .body)
 rintro i0 ⟨whole8,w6_l,w3_0⟩ j0 hge hq
 exact BV (Aa 300 [pb (II hge)]) (by kernel_rfl) (hq (js 25 j0 [(0,.bool false)]))
 rintro i0 e0 ⟨whole8,w6_l,w3_0⟩ j0 r he0 hi0 mi0 k
 show B7 BM s i0 e0 whole8 w6_l w3_0=some r→_
 unfold B7
 refine Aj ?_
 rintro ⟨y2a,y2b⟩ hy2
 dsimp only
 refine Aj fun x3 hx3=>?_
 let o1:List (PC P G):=[pb (F5 hi0),CL (Bu .lost he0),AK (DF (JD hy2) 0 1 2 3 0),CL (XI (id:=6) (n:=e.kids.length) (i:=i0) (by have:=NM (F5 hi0);omega)),psb (sZ hx3 y2a)]
 refine Ae (fun hv=>?_) fun hv=>?_
 subst hv
 refine Aj fun x4 hx4=>?_
 let o2:List (PC P G):=o1++[CL (XI (id:=6) (n:=e.kids.length) (i:=i0) (by have:=NM (F5 hi0);omega)),hJ (NN hx4)]
 refine Ae (fun hb1=>?_) fun hb1=>?_
 rintro ⟨⟩
 exact B4 Hd.Ac [fq (Am.EL e.kids)] [bp (A8.Bl (w6_l.set i0 y2a)),bp (Am.pl e),none,br AZ 0 2 y2b,BD s.Ah,AN s.lines,AN s.facts] (Aa 300 (o2++[pn hb1,pi mi0])) (by kernel_rfl) (k (js 25 j0 [(0,.bool true),(1,.bool true),(2,.bool true),(3,.bool false),(4,.bool false)]))
 rintro ⟨⟩
 exact B4 Hd.Ac [fq (Am.EL e.kids)] [bp (A8.Bl (w6_l.set i0 y2a)),bp (Am.pl e),none,br AZ 0 2 y2b,BD s.Ah,AN s.lines,AN s.facts] (Aa 300 (o2++[pn hb1,pi mi0])) (by kernel_rfl) (k (js 25 j0 [(0,.bool true),(1,.bool true),(2,.bool true),(3,.bool true),(4,.bool true)]))
 subst hv
 rintro ⟨⟩
 exact B4 Hd.Ac [fq (Am.EL e.kids)] [bp (A8.Bl (w6_l.set i0 y2a)),bp (Am.pl e),none,br AZ 0 2 y2b,BD s.Ah,AN s.lines,AN s.facts] (Aa 300 (o1++[pi mi0])) (by kernel_rfl) (k (js 25 j0 [(0,.bool true),(1,.bool false),(2,.bool false),(3,undef),(4,.bool false)]))
 rintro ⟨whole8_5,w6_l_5,w3_0_5⟩ jx_5
 dsimp only
 refine Ae (fun hv=>?_) fun hv=>?_
 subst hv
 refine Ae (fun hb2=>?_) fun hb2=>?_
 refine Ae (fun hb3=>?_) fun hb3=>?_
 refine Aj ?_
 rintro ⟨y6a,y6b⟩ hy6
 dsimp only
 intro h
 have hE:=Option.some.inj h
 obtain ⟨hE0,hF0⟩:=Prod.mk.inj hE
 subst hE0 hF0
 exact Aq Hd.Ac _ _ [] [br AZ 0 2 y6b,BD s.Ah,AN s.lines,AN s.facts] (BU 300 [pb hb2,pb hb3,AK (Ax (Ao hy6) 3 0)]) (by kernel_rfl) .body
 intro h
 have hE:=Option.some.inj h
 obtain ⟨hE0,hF0⟩:=Prod.mk.inj hE
 subst hE0 hF0
 exact Aq Hd.Ac _ _ [] [br AZ 0 2 w3_0_5,BD s.Ah,AN s.lines,AN s.facts] (BU 300 [pb hb2,pb hb3]) (by kernel_rfl) .body
 let o3:List (PC P G):=[pb hb2]
 refine Ae (fun hb4=>?_) fun hb4=>?_
 refine Ae (fun hb5=>?_) fun hb5=>?_
 refine Aj ?_
 rintro ⟨y7a,y7b⟩ hy7
 dsimp only
 intro h
 have hE:=Option.some.inj h
 obtain ⟨hE0,hF0⟩:=Prod.mk.inj hE
 subst hE0 hF0
 exact Aq Hd.Ac _ _ [] [br AZ 0 2 y7b,BD s.Ah,AN s.lines,AN s.facts] (BU 300 (o3++[pb hb4,Kg (aM s.facts e.name),pb hb5,AK (Ax (Ao hy7) 3 0)])) (by kernel_rfl) .body
 intro h
 have hE:=Option.some.inj h
 obtain ⟨hE0,hF0⟩:=Prod.mk.inj hE
 subst hE0 hF0
 exact Aq Hd.Ac _ _ [] [br AZ 0 2 w3_0_5,BD s.Ah,AN s.lines,AN s.facts] (BU 300 (o3++[pb hb4,Kg (aM s.facts e.name),pb hb5])) (by kernel_rfl) .body
 let o4:List (PC P G):=o3++[pb hb4]
 refine Ae (fun hb6=>?_) fun hb6=>?_
 let o5:List (PC P G):=o4++[pb hb6,Kg (kU s.Ah e.n),Kg (aM s.lines ((s.Ah.get e.n).getD ByteArray.empty))]
 refine Ae (fun hb7=>?_) fun hb7=>?_
 refine Aj ?_
 rintro ⟨y8a,y8b⟩ hy8
 dsimp only
 intro h
 have hE:=Option.some.inj h
 obtain ⟨hE0,hF0⟩:=Prod.mk.inj hE
 subst hE0 hF0
 exact Aq Hd.Ac _ _ [] [br AZ 0 2 y8b,BD s.Ah,AN s.lines,AN s.facts] (BU 300 (o5++[pb hb7,AK (Ax (Ao hy8) 3 0)])) (by kernel_rfl) .body
 intro h
 have hE:=Option.some.inj h
 obtain ⟨hE0,hF0⟩:=Prod.mk.inj hE
 subst hE0 hF0
 exact Aq Hd.Ac _ _ [] [br AZ 0 2 w3_0_5,BD s.Ah,AN s.lines,AN s.facts] (BU 300 (o5++[pb hb7])) (by kernel_rfl) .body
 let o6:List (PC P G):=o4++[pb hb6]
 refine Ae (fun hb8=>?_) fun hb8=>?_
 refine Ae (fun hb9=>?_) fun hb9=>?_
 refine Aj ?_
 rintro ⟨y9a,y9b⟩ hy9
 dsimp only
 intro h
 have hE:=Option.some.inj h
 obtain ⟨hE0,hF0⟩:=Prod.mk.inj hE
 subst hE0 hF0
 exact Aq Hd.Ac _ _ [] [br AZ 0 2 y9b,BD s.Ah,AN s.lines,AN s.facts] (BU 300 (o6++[pb hb8,pb hb9,AK (Ax (Ao hy9) 3 0)])) (by kernel_rfl) .body
 intro h
 have hE:=Option.some.inj h
 obtain ⟨hE0,hF0⟩:=Prod.mk.inj hE
 subst hE0 hF0
 exact Aq Hd.Ac _ _ [] [br AZ 0 2 w3_0_5,BD s.Ah,AN s.lines,AN s.facts] (BU 300 (o6++[pb hb8,pb hb9])) (by kernel_rfl) .body
 let o7:List (PC P G):=o6++[pb hb8]
 refine Ae (fun hb10=>?_) fun hb10=>?_
 refine Aj fun y10 hy10=>?_
 refine Ae (fun hb11=>?_) fun hb11=>?_
 refine Aj ?_
 rintro ⟨y11a,y11b⟩ hy11
 dsimp only
 intro h
 have hE:=Option.some.inj h
 obtain ⟨hE0,hF0⟩:=Prod.mk.inj hE
 subst hE0 hF0
 exact Aq Hd.Ac _ _ [] [br AZ 0 2 y11b,BD s.Ah,AN s.lines,AN s.facts] (BU 300 (o7++[pb hb10,AK (Du (CK hy10) 6),pb hb11,AK (Ax (Ao hy11) 3 0)])) (by kernel_rfl) .body
 intro h
 have hE:=Option.some.inj h
 obtain ⟨hE0,hF0⟩:=Prod.mk.inj hE
 subst hE0 hF0
 exact Aq Hd.Ac _ _ [] [br AZ 0 2 w3_0_5,BD s.Ah,AN s.lines,AN s.facts] (BU 300 (o7++[pb hb10,AK (Du (CK hy10) 6),pb hb11])) (by kernel_rfl) .body
 let o8:List (PC P G):=o7++[pb hb10]
 refine Ae (fun hb12=>?_) fun hb12=>?_
 refine Aj fun y12 hy12=>?_
 refine Ae (fun hb13=>?_) fun hb13=>?_
 refine Aj ?_
 rintro ⟨y13a,y13b⟩ hy13
 dsimp only
 intro h
 have hE:=Option.some.inj h
 obtain ⟨hE0,hF0⟩:=Prod.mk.inj hE
 subst hE0 hF0
 exact Aq Hd.Ac _ _ [] [br AZ 0 2 y13b,BD s.Ah,AN s.lines,AN s.facts] (BU 300 (o8++[pb hb12,AK (Du (CK hy12) 6),pb hb13,AK (Ax (Ao hy13) 3 0)])) (by kernel_rfl) .body
 intro h
 have hE:=Option.some.inj h
 obtain ⟨hE0,hF0⟩:=Prod.mk.inj hE
 subst hE0 hF0
 exact Aq Hd.Ac _ _ [] [br AZ 0 2 w3_0_5,BD s.Ah,AN s.lines,AN s.facts] (BU 300 (o8++[pb hb12,AK (Du (CK hy12) 6),pb hb13])) (by kernel_rfl) .body
 refine Ae (fun hb14=>?_) fun hb14=>?_
 refine Aj fun y14 hy14=>?_
 refine Ae (fun hb15=>?_) fun hb15=>?_
 refine Aj ?_
 rintro ⟨y15a,y15b⟩ hy15
 dsimp only
 intro h
 have hE:=Option.some.inj h
 obtain ⟨hE0,hF0⟩:=Prod.mk.inj hE
 subst hE0 hF0
 exact Aq Hd.Ac _ _ [] [br AZ 0 2 y15b,BD s.Ah,AN s.lines,AN s.facts] (BU 300 (o8++[pb hb12,pb hb14,AK (Du (CK hy14) 6),pb hb15,AK (Ax (Ao hy15) 3 0)])) (by kernel_rfl) .body
 intro h
 have hE:=Option.some.inj h
 obtain ⟨hE0,hF0⟩:=Prod.mk.inj hE
 subst hE0 hF0
 exact Aq Hd.Ac _ _ [] [br AZ 0 2 w3_0_5,BD s.Ah,AN s.lines,AN s.facts] (BU 300 (o8++[pb hb12,pb hb14,AK (Du (CK hy14) 6),pb hb15])) (by kernel_rfl) .body
 let o9:List (PC P G):=o8++[pb hb12,pb hb14]
 refine Ae (fun hb16=>?_) fun hb16=>?_
 refine Aj fun U7 hk16=>?_
 refine Aj fun x17 hx17=>?_
 refine Aj fun y18 hy18=>?_
 let o10:List (PC P G):=o9++[pb hb16,CL (Nl (id:=6) hk16),hJ (NN hx17),Ak (D5 hy18)]
 refine Ae (fun hv=>?_) fun hv=>?_
 subst hv
 refine Ae (fun hb17=>?_) fun hb17=>?_
 refine Aj ?_
 rintro ⟨y19a,y19b⟩ hy19
 dsimp only
 intro h
 have hE:=Option.some.inj h
 obtain ⟨hE0,hF0⟩:=Prod.mk.inj hE
 subst hE0 hF0
 exact Aq Hd.Ac _ _ [] [br AZ 0 2 y19b,BD s.Ah,AN s.lines,AN s.facts] (BU 300 (o10++[CL (Nl (id:=6) hk16),hJ (NN hx17),pb hb17,AK (Ax (Ao hy19) 3 0)])) (by kernel_rfl) .body
 intro h
 have hE:=Option.some.inj h
 obtain ⟨hE0,hF0⟩:=Prod.mk.inj hE
 subst hE0 hF0
 exact Aq Hd.Ac _ _ [] [br AZ 0 2 w3_0_5,BD s.Ah,AN s.lines,AN s.facts] (BU 300 (o10++[CL (Nl (id:=6) hk16),hJ (NN hx17),pb hb17])) (by kernel_rfl) .body
 subst hv
 refine Ae (fun hb18=>?_) fun hb18=>?_
 refine Aj ?_
 rintro ⟨y20a,y20b⟩ hy20
 dsimp only
 intro h
 have hE:=Option.some.inj h
 obtain ⟨hE0,hF0⟩:=Prod.mk.inj hE
 subst hE0 hF0
 exact Aq Hd.Ac _ _ [] [br AZ 0 2 y20b,BD s.Ah,AN s.lines,AN s.facts] (BU 300 (o10++[pb hb18,AK (Ax (Ao hy20) 3 0)])) (by kernel_rfl) .body
 intro h
 have hE:=Option.some.inj h
 obtain ⟨hE0,hF0⟩:=Prod.mk.inj hE
 subst hE0 hF0
 exact Aq Hd.Ac _ _ [] [br AZ 0 2 w3_0_5,BD s.Ah,AN s.lines,AN s.facts] (BU 300 (o10++[pb hb18])) (by kernel_rfl) .body
 refine Ae (fun hb19=>?_) fun hb19=>?_
 refine Aj ?_
 rintro ⟨y21a,y21b⟩ hy21
 dsimp only
 intro h
 have hE:=Option.some.inj h
 obtain ⟨hE0,hF0⟩:=Prod.mk.inj hE
 subst hE0 hF0
 exact Aq Hd.Ac _ _ [] [br AZ 0 2 y21b,BD s.Ah,AN s.lines,AN s.facts] (BU 300 (o9++[pb hb16,pb hb19,AK (Ax (Ao hy21) 3 0)])) (by kernel_rfl) .body
 intro h
 have hE:=Option.some.inj h
 obtain ⟨hE0,hF0⟩:=Prod.mk.inj hE
 subst hE0 hF0
 exact Aq Hd.Ac _ _ [] [br AZ 0 2 w3_0_5,BD s.Ah,AN s.lines,AN s.facts] (BU 300 (o9++[pb hb16,pb hb19])) (by kernel_rfl) .body
 subst hv
 intro h
 have hE:=Option.some.inj h
 obtain ⟨hE0,hF0⟩:=Prod.mk.inj hE
 subst hE0 hF0
 exact Aq Hd.Ac _ _ [] [br AZ 0 2 w3_0_5,BD s.Ah,AN s.lines,AN s.facts] (BU 300 []) (by kernel_rfl) .body
noncomputable def Bg:Nat→Sc→Nd→(List Dg)→Option (ByteArray×(List Dg))
 | 0,_,_,_=>none
 | qn+1,s,e,report=>DD (Bg qn) s e report
theorem Ja:∀ qn:Nat,∀ {s:Sc} {e:Nd} {report:(List Dg)} {yR:ByteArray} {qreportR:(List Dg)},Bg qn s e report=some (yR,qreportR)→Sound P G (.call 32 [.agg [.mp 0,.mp 1,.mp 2],.agg (A9 e),.fn (.func 54) [] [.ptr 3 0]] ⟨[(3,.cells [.sl (.row 0 2) report.length (rows DX report)]),(2,(CM s.Ah)),(1,(Ba s.lines)),(0,(Ba s.facts))],4,[(0,report.length)],1⟩ (.ret (.sc (.string yR))) ⟨[(3,.cells [.sl (.row 0 2) qreportR.length (rows DX qreportR)]),(2,(CM s.Ah)),(1,(Ba s.lines)),(0,(Ba s.facts))],4,[(0,qreportR.length)],1⟩):=by
 intro qn
 induction qn with
 | zero=>exact (fun h=>by simp only [Bg] at h;cases h)
 | succ qn ih=>exact (fun h=>IZ (Bg qn) ih (by rw [Bg] at h;exact h))
noncomputable def CU (s:Sc) (e:Nd) (report:(List Dg)):Option (ByteArray×(List Dg)):=V8 (fun qn=>Bg qn s e report)
theorem Eo {s:Sc} {e:Nd} {report:(List Dg)} {yR:ByteArray} {qreportR:(List Dg)} (h:CU s e report=some (yR,qreportR)):Sound P G (.call 32 [.agg [.mp 0,.mp 1,.mp 2],.agg (A9 e),.fn (.func 54) [] [.ptr 3 0]] ⟨[(3,.cells [.sl (.row 0 2) report.length (rows DX report)]),(2,(CM s.Ah)),(1,(Ba s.lines)),(0,(Ba s.facts))],4,[(0,report.length)],1⟩ (.ret (.sc (.string yR))) ⟨[(3,.cells [.sl (.row 0 2) qreportR.length (rows DX qreportR)]),(2,(CM s.Ah)),(1,(Ba s.lines)),(0,(Ba s.facts))],4,[(0,qreportR.length)],1⟩):=by
 obtain ⟨qn,h⟩:=Tu h
 exact (Ja qn) h
noncomputable def B13:Code:=A4 Tryz.f13
theorem b13:Tryz.f13.body=some B13:=by kernel_rfl
noncomputable def EF  (source:Nd) (e:Nd):Option (ByteArray×(List Dg)):=cond (Br source.kind 1) (cond (Br e.kind 1) (some (ByteArray.empty,[(⟨1,e.att⟩:Dg)])) ((Dz source).bind fun y1=>cond y1 ((Dz e).bind fun y2=>cond y2 ((De).bind fun y3=>(Dw source).bind fun y4=>(CU y4 e []).bind fun (y5a,y5b)=>some (y5a,y5b)) (some (ByteArray.empty,[(⟨1,e.att⟩:Dg)]))) (some (ByteArray.empty,[(⟨1,e.att⟩:Dg)])))) (some (ByteArray.empty,[(⟨1,e.att⟩:Dg)]))
theorem Jk   {source:Nd} {e:Nd} {yR:(ByteArray×(List Dg))} (h:EF  source e=some yR):Pure P G 13 [.agg (A9 source),.agg (A9 e)] (.Bq [.sc (.string yR.1),.sl .lost yR.2.length (rows DX yR.2)]):=by
 unfold EF at h
 refine BH Hd.mixed Hd.Ac (AG Tryz.func13 b13 ?_) (Bl (Am.F1 source) (Bl (Am.F1 e) rfl)) (Bl rfl (Bl (AZ.EL yR.2) rfl))
 revert h
 refine Ae (fun hb1=>?_) fun hb1=>?_
 refine Ae (fun hb2=>?_) fun hb2=>?_
 intro h
 have hE:=Option.some.inj h
 subst hE
 exact AA (v:=.Bq [.sc (.string ByteArray.empty),.sl .full 1 [.sc (.int .i64 1),.sc (.int .i64 e.att)]]) _ _ (Aa 300 [pn hb1,pb hb2]) (by kernel_rfl) .body (.wn (.u (.r (.d (.r (.r .nil)) (AZ.eq [(⟨1,e.att⟩:Dg)]).symm .nil)) .nil) (Bl rfl (Bl (AZ.EL [(⟨1,e.att⟩:Dg)]) rfl)))
 refine Aj fun y1 hy1=>?_
 let o1:List (PC P G):=[pn hb1,pb hb2,Ak (DO hy1)]
 refine Ae (fun hv=>?_) fun hv=>?_
 subst hv
 refine Aj fun y2 hy2=>?_
 refine Ae (fun hv=>?_) fun hv=>?_
 subst hv
 refine Aj fun y3 hy3=>?_
 refine Aj fun y4 hy4=>?_
 refine Aj ?_
 rintro ⟨y5a,y5b⟩ hy5
 dsimp only
 intro h
 have hE:=Option.some.inj h
 subst hE
 exact AA (v:=.Bq [.sc (.string y5a),.sl (.row 0 2) y5b.length (rows DX y5b)]) _ _ (Aa 300 (o1++[Ak (DO hy2),Ru (v:=.Bq [.ptr 2 0,.fn (.func 54) [] [.ptr 2 0]]) (h:=[(2,.cells [.sl .full 0 []])] ) (F:=[]) (IV (Hj hy3) 2 0),yW [.b 2 0 2],TH,Ru (v:=.agg [.mp 5,.mp 6,.mp 7]) (h:=[(7,(CM y4.Ah)),(6,(Ba y4.lines)),(5,(Ba y4.facts))] ) (F:=[]) (Jh (Hx hy4) 3 1),AK (DF (Eo hy5) 5 6 7 2 0)])) (by kernel_rfl) .body (.wn (.u (.r (.s rfl .nil)) .nil) (Bl rfl (Bl (AZ.EL y5b) rfl)))
 subst hv
 intro h
 have hE:=Option.some.inj h
 subst hE
 exact AA (v:=.Bq [.sc (.string ByteArray.empty),.sl .full 1 [.sc (.int .i64 1),.sc (.int .i64 e.att)]]) _ _ (Aa 300 (o1++[Ak (DO hy2)])) (by kernel_rfl) .body (.wn (.u (.r (.d (.r (.r .nil)) (AZ.eq [(⟨1,e.att⟩:Dg)]).symm .nil)) .nil) (Bl rfl (Bl (AZ.EL [(⟨1,e.att⟩:Dg)]) rfl)))
 subst hv
 intro h
 have hE:=Option.some.inj h
 subst hE
 exact AA (v:=.Bq [.sc (.string ByteArray.empty),.sl .full 1 [.sc (.int .i64 1),.sc (.int .i64 e.att)]]) _ _ (Aa 300 o1) (by kernel_rfl) .body (.wn (.u (.r (.d (.r (.r .nil)) (AZ.eq [(⟨1,e.att⟩:Dg)]).symm .nil)) .nil) (Bl rfl (Bl (AZ.EL [(⟨1,e.att⟩:Dg)]) rfl)))
 intro h
 have hE:=Option.some.inj h
 subst hE
 exact AA (v:=.Bq [.sc (.string ByteArray.empty),.sl .full 1 [.sc (.int .i64 1),.sc (.int .i64 e.att)]]) _ _ (Aa 300 [pn hb1]) (by kernel_rfl) .body (.wn (.u (.r (.d (.r (.r .nil)) (AZ.eq [(⟨1,e.att⟩:Dg)]).symm .nil)) .nil) (Bl rfl (Bl (AZ.EL [(⟨1,e.att⟩:Dg)]) rfl)))
noncomputable def vT:Code:=A4 Tryz.f15
theorem b15:Tryz.f15.body=some vT:=by kernel_rfl
noncomputable def Er  (b:(List Dg)) (i0:Nat) (e0:Dg) :Option (Lp Unit Unit Bool):=(b[i0]?).bind fun x1=>cond (M1 e0 x1) (some (.nx ())) (some (.rt false))
noncomputable def Da  (a:(List Dg)) (b:(List Dg)):Option Bool:=cond (Br ((a.length:Nat):Int) ((b.length:Nat):Int)) ((Gv a.length (AT (fun i y x=>Er  b i y ) (fun x=>()) (a.drop 0) 0 ())).bind (GF (fun (_:Unit)=>some true) (fun v=>some v))) (some false)
theorem ES   {a:(List Dg)} {b:(List Dg)} {yR:Bool} (h:Da  a b=some yR):Pure P G 15 [.sl .lost a.length (rows DX a),.sl .lost b.length (rows DX b)] (.sc (.bool yR)):=by
 unfold Da at h
 refine BH Hd.mixed Hd.Ac (AG Tryz.func15 b15 ?_) (Bl (AZ.EL a) (Bl (AZ.EL b) rfl)) rfl
 revert h
 refine Ae (fun hb1=>?_) fun hb1=>?_
 refine DJ (fun Q v=>DI P Tryz.f15 0 Q (.sc (.bool v))) (fun i0 (_:Unit) (j0:List Value)=>fr 26 [(0,.sl .lost a.length (rows DX a)),(1,.sl .lost b.length (rows DX b)),(5,.sc (.int .i64 ((i0:Nat):Int)))] [4,10,14,25] j0) (fun (_:Unit)=>⟨[],0,[],0⟩) (fun (_:Unit) (jx:List Value)=>fr 26 [] [4,10,14,25] jx) (fun (_:Unit)=>⟨[],0,[],0⟩) [.bool false,.bool false] (DG [] 0 (sb vT 116) [.code (sb vT 15)] (Aa 300 [pn hb1]) (by kernel_rfl)) ?_ ?_ ?_ (fun v h=>by cases h;exact .outer .body)
 rintro i0 ⟨⟩ j0 hge hq
 exact BV (Aa 300 [pb (II hge)]) (by kernel_rfl) (hq (js 4 j0 [(2,.bool false)]))
 rintro i0 e0 ⟨⟩ j0 r he0 hi0 mi0 k
 show Er  b i0 e0 =some r→_
 unfold Er
 refine Aj fun x1 hx1=>?_
 refine Ae (fun hb2=>?_) fun hb2=>?_
 rintro ⟨⟩
 exact C9 (Aa 300 [pb (F5 hi0),CL (bM .lost he0),CL (bM .lost hx1),K1 (gT hb2 (.tmp 20) (.tmp 24)),pi mi0]) (by kernel_rfl) (k (js 4 j0 [(2,.bool true),(3,.bool false)]))
 rintro ⟨⟩
 exact AA _ _ (Aa 300 [pb (F5 hi0),CL (bM .lost he0),CL (bM .lost hx1),K1 (gT hb2 (.tmp 20) (.tmp 24))]) (by kernel_rfl) (.GX k) .sc
 rintro ⟨⟩ jx_2
 intro h
 have hE:=Option.some.inj h
 subst hE
 exact AA _ _ (BU 300 []) (by kernel_rfl) .body .sc
 rintro ⟨⟩
 exact rS (Aa 300 [pn hb1]) (by kernel_rfl)
noncomputable def zQ:Code:=A4 Tryz.f34
theorem b34:Tryz.f34.body=some zQ:=by kernel_rfl
noncomputable def Bo   (i0:Nat) (e0:Nd) (w5_m:(Mm ByteArray Bool)) (w2_m:(Mm Int Int)) (w0_0:(List Dg)) (w4_m:(Mm ByteArray Bool)):Option (Lp ((Mm ByteArray Bool)×(Mm Int Int)×(List Dg)×(Mm ByteArray Bool)) ((Mm ByteArray Bool)×(Mm Int Int)×(List Dg)×(Mm ByteArray Bool)) (Unit×(List Dg))):=cond (Br e0.kind 4) (some (.nx (w5_m,w2_m,w0_0,w4_m))) (cond (Br e0.kind 3) (cond ((w5_m.get e0.name).getD false) ((An 5 e0.att w0_0).bind fun (y1a,y1b)=>some (.nx ((w5_m.set e0.name true),(w2_m.set e0.kind (BK ((w2_m.get e0.kind).getD 0) 1)),y1b,w4_m))) (cond (FV 32 (((w2_m.set e0.kind (BK ((w2_m.get e0.kind).getD 0) 1)).get e0.kind).getD 0)) ((An 2 e0.att w0_0).bind fun (y2a,y2b)=>some (.nx ((w5_m.set e0.name true),(w2_m.set e0.kind (BK ((w2_m.get e0.kind).getD 0) 1)),y2b,w4_m))) (cond (BL e0.unit.data.toList A3.data.toList) ((An 11 e0.att w0_0).bind fun (y3a,y3b)=>some (.nx ((w5_m.set e0.name true),(w2_m.set e0.kind (BK ((w2_m.get e0.kind).getD 0) 1)),y3b,w4_m))) (cond (Br e0.n 4) (some (.nx ((w5_m.set e0.name true),(w2_m.set e0.kind (BK ((w2_m.get e0.kind).getD 0) 1)),w0_0,w4_m))) ((DT e0.unit).bind fun y4=>cond y4 (some (.nx ((w5_m.set e0.name true),(w2_m.set e0.kind (BK ((w2_m.get e0.kind).getD 0) 1)),w0_0,w4_m))) ((An 11 e0.att w0_0).bind fun (y5a,y5b)=>some (.nx ((w5_m.set e0.name true),(w2_m.set e0.kind (BK ((w2_m.get e0.kind).getD 0) 1)),y5b,w4_m)))))))) (cond (Br e0.kind 2) (cond ((w4_m.get e0.name).getD false) ((An 5 e0.att w0_0).bind fun (y6a,y6b)=>some (.nx (w5_m,(w2_m.set e0.kind (BK ((w2_m.get e0.kind).getD 0) 1)),y6b,(w4_m.set e0.name true)))) (cond (FV 32 (((w2_m.set e0.kind (BK ((w2_m.get e0.kind).getD 0) 1)).get e0.kind).getD 0)) ((An 2 e0.att w0_0).bind fun (y7a,y7b)=>some (.nx (w5_m,(w2_m.set e0.kind (BK ((w2_m.get e0.kind).getD 0) 1)),y7b,(w4_m.set e0.name true)))) (some (.nx (w5_m,(w2_m.set e0.kind (BK ((w2_m.get e0.kind).getD 0) 1)),w0_0,(w4_m.set e0.name true)))))) (none)))
noncomputable def BP  (source:Nd) (report:(List Dg)):Option (Unit×(List Dg)):=(Gv source.kids.length (AT (fun i y x=>Bo   i y x.1 x.2.1 x.2.2.1 x.2.2.2) (fun x=>(x.1,x.2.1,x.2.2.1,x.2.2.2)) (source.kids.drop 0) 0 ((Mm.nil:Mm ByteArray Bool),(Mm.nil:Mm Int Int),report,(Mm.nil:Mm ByteArray Bool)))).bind (GF (fun ((w5_m_8,w2_m_8,w0_0_8,w4_m_8):((Mm ByteArray Bool)×(Mm Int Int)×(List Dg)×(Mm ByteArray Bool)))=>some ((),w0_0_8)) (fun v=>some v))
theorem Ia {source:Nd} {report:(List Dg)} {qreportR:(List Dg)} (hS:Sound P G (.call 34 [.agg (A9 source),.fn (.func 54) [] [.ptr 0 0]] ⟨[(0,.cells [.sl (.row 0 2) report.length (rows DX report)])],1,[(0,report.length)],1⟩ (.ret (.Bq [])) ⟨[(0,.cells [.sl (.row 0 2) qreportR.length (rows DX qreportR)])],1,[(0,qreportR.length)],1⟩)) (u0 v0:Nat) (hnb:[u0].Nodup:=by decide) (hnt:([v0]:List Nat).Nodup:=by decide):Cd.ok P G (.callU 34 [.agg (A9 source),.fn (.func 54) [] [.ptr u0 0]] (.ret (.Bq [])) [(u0,.cells [.sl (.row v0 2) report.length (rows DX report)])] [(v0,report.length)] [(u0,.cells [.sl (.row v0 2) qreportR.length (rows DX qreportR)])] [(v0,qreportR.length)]) :=
 ER (M:=[.cells [.sl (.row 0 2) report.length (rows DX report)]]) (M2:=[.cells [.sl (.row 0 2) qreportR.length (rows DX qreportR)]]) (T:=[report.length]) (T2:=[qreportR.length]) (k:=1) (j:=1) Hd.Ac _ _ _ _ hS rfl rfl rfl rfl rfl hnb hnt rfl rfl (.cons (.cells (.cons (.row (by decide) (AZ.Bl report)) .nil)) .nil) (.cons (.cells (.cons (.row (by decide) (AZ.Bl qreportR)) .nil)) .nil) (.cons (.pl (Am.F1 source)) (.cons (.fn (.pl rfl) (.cons (.ptr (by decide)) .nil)) .nil)) (.pl rfl) (fun e he=>by simp only [List.mem_singleton] at he;subst he;exact (.arg (.there (.here (.fn2 (.here .ptr))))))
theorem GO   {source:Nd} {report:(List Dg)} {yR:Unit} {qreportR:(List Dg)} (h:BP  source report=some (yR,qreportR)):Sound P G (.call 34 [.agg (A9 source),.fn (.func 54) [] [.ptr 0 0]] ⟨[(0,.cells [.sl (.row 0 2) report.length (rows DX report)])],1,[(0,report.length)],1⟩ (.ret (.Bq [])) ⟨[(0,.cells [.sl (.row 0 2) qreportR.length (rows DX qreportR)])],1,[(0,qreportR.length)],1⟩):=by
 unfold BP at h
 refine E4 Hd.mixed (AG Tryz.func34 b34 ?_)
 revert h
 refine DJ (fun Q v=>Je P G Tryz.f34 1 ⟨[(0,.cells [.sl (.row 0 2) report.length (rows DX report)])],1,[(0,report.length)],1⟩ Q (.Bq []) ⟨[(0,.cells [.sl (.row 0 2) v.2.length (rows DX v.2)])],1,[(0,v.2.length)],1⟩) (fun i0 ((w5_m,w2_m,w0_0,w4_m):((Mm ByteArray Bool)×(Mm Int Int)×(List Dg)×(Mm ByteArray Bool))) (j0:List Value)=>fr 83 [(1,.fn (.func 54) [] [.ptr 0 0]),(4,.mp 2),(5,.mp 3),(15,.sl .lost source.kids.length (A7 source.kids)),(16,.sc (.int .i64 ((source.kids.length:Nat):Int))),(17,.sc (.int .i64 ((i0:Nat):Int)))] [8,18,23,31,32,39,44,49,54,55,56,59,60,63,64,67,68,69,70,71] j0) (fun ((w5_m,w2_m,w0_0,w4_m):((Mm ByteArray Bool)×(Mm Int Int)×(List Dg)×(Mm ByteArray Bool)))=>⟨[(5,(Rh w5_m)),(4,(Rh w4_m)),(3,(.map [(.int .i64 2,.mp 4,0),(.int .i64 3,.mp 5,1)] 2)),(2,(UJ w2_m)),(1,.cells (A9 source)),(0,.cells [.sl (.row 0 2) w0_0.length (rows DX w0_0)])],6,[(0,w0_0.length)],1⟩) (fun ((w5_m,w2_m,w0_0,w4_m):((Mm ByteArray Bool)×(Mm Int Int)×(List Dg)×(Mm ByteArray Bool))) (jx:List Value)=>fr 83 [] [8,18,23,31,32,39,44,49,54,55,56,59,60,63,64,67,68,69,70,71] jx) (fun ((w5_m,w2_m,w0_0,w4_m):((Mm ByteArray Bool)×(Mm Int Int)×(List Dg)×(Mm ByteArray Bool)))=>⟨[(5,(Rh w5_m)),(4,(Rh w4_m)),(3,(.map [(.int .i64 2,.mp 4,0),(.int .i64 3,.mp 5,1)] 2)),(2,(UJ w2_m)),(1,.cells (A9 source)),(0,.cells [.sl (.row 0 2) w0_0.length (rows DX w0_0)])],6,[(0,w0_0.length)],1⟩) [] (DG [] 0 (sb zQ 124) [] (Aa 300 []) (by kernel_rfl)) ?_ ?_ ?_ (fun v h=>by cases h;exact .outer .body)
 rintro i0 ⟨w5_m,w2_m,w0_0,w4_m⟩ j0 hge hq
 exact BV (Aa 300 [pb (II hge)]) (by kernel_rfl) (hq (js 20 j0 [(1,.bool false)]))
 rintro i0 e0 ⟨w5_m,w2_m,w0_0,w4_m⟩ j0 r he0 hi0 mi0 k
 show Bo   i0 e0 w5_m w2_m w0_0 w4_m=some r→_
 unfold Bo
 let o1:List (PC P G):=[pb (F5 hi0),CL (Bu .lost he0)]
 refine Ae (fun hb1=>?_) fun hb1=>?_
 rintro ⟨⟩
 exact B4 Hd.Ac [fq (Am.EL source.kids)] [F8 w5_m,F8 w4_m,bw (.map [(.int .i64 2,.mp 4,0),(.int .i64 3,.mp 5,1)] 2) (.map [(.int .i64 2,.mp 4,0),(.int .i64 3,.mp 5,1)] 2) (.under rfl),Lk w2_m,bp (Am.pl source),br AZ 0 2 w0_0] (Aa 300 (o1++[pb hb1,pi mi0])) (by kernel_rfl) (k (js 20 j0 [(1,.bool true),(2,.bool true)]))
 let o2:List (PC P G):=o1++[pb hb1,Kg (Zz w2_m e0.kind),pk,WK (p5 w2_m e0.kind (BK ((w2_m.get e0.kind).getD 0) 1))]
 refine Ae (fun hb2=>?_) fun hb2=>?_
 let o3:List (PC P G):=o2++[pb hb2,Kg (b:=(.map [(.int .i64 2,.mp 4,0),(.int .i64 3,.mp 5,1)] 2)) (Ix (z:=e0.kind) 3 (Gk hb2) rfl)]
 refine Ae (fun hb3=>?_) fun hb3=>?_
 refine Aj ?_
 rintro ⟨y1a,y1b⟩ hy1
 dsimp only
 rintro ⟨⟩
 exact B4 Hd.Ac [fq (Am.EL source.kids)] [F8 (w5_m.set e0.name true),F8 w4_m,bw (.map [(.int .i64 2,.mp 4,0),(.int .i64 3,.mp 5,1)] 2) (.map [(.int .i64 2,.mp 4,0),(.int .i64 3,.mp 5,1)] 2) (.under rfl),Lk (w2_m.set e0.kind (BK ((w2_m.get e0.kind).getD 0) 1)),bp (Am.pl source),br AZ 0 2 y1b] (Aa 300 (o3++[Kg (R7 w5_m e0.name hb3),AK (Ax (Ao hy1) 0 0),Kg (b:=(.map [(.int .i64 2,.mp 4,0),(.int .i64 3,.mp 5,1)] 2)) (Ix (z:=e0.kind) 3 (Gk hb2) rfl),WK (MJ w5_m e0.name true),pi mi0])) (by kernel_rfl) (k (js 20 j0 [(0,.bool true),(1,.bool true),(2,.bool false),(3,.bool true),(4,.bool true),(5,.bool true)]))
 let o4:List (PC P G):=o3++[Kg (R7 w5_m e0.name hb3),Kg (Zz (w2_m.set e0.kind (BK ((w2_m.get e0.kind).getD 0) 1)) e0.kind)]
 refine Ae (fun hb4=>?_) fun hb4=>?_
 refine Aj ?_
 rintro ⟨y2a,y2b⟩ hy2
 dsimp only
 rintro ⟨⟩
 exact B4 Hd.Ac [fq (Am.EL source.kids)] [F8 (w5_m.set e0.name true),F8 w4_m,bw (.map [(.int .i64 2,.mp 4,0),(.int .i64 3,.mp 5,1)] 2) (.map [(.int .i64 2,.mp 4,0),(.int .i64 3,.mp 5,1)] 2) (.under rfl),Lk (w2_m.set e0.kind (BK ((w2_m.get e0.kind).getD 0) 1)),bp (Am.pl source),br AZ 0 2 y2b] (Aa 300 (o4++[pb hb4,AK (Ax (Ao hy2) 0 0),Kg (b:=(.map [(.int .i64 2,.mp 4,0),(.int .i64 3,.mp 5,1)] 2)) (Ix (z:=e0.kind) 3 (Gk hb2) rfl),WK (MJ w5_m e0.name true),pi mi0])) (by kernel_rfl) (k (js 20 j0 [(0,.bool true),(1,.bool true),(2,.bool false),(3,.bool true),(4,.bool false),(5,.bool false),(6,.bool true),(7,.bool true)]))
 refine Ae (fun hb5=>?_) fun hb5=>?_
 refine Aj ?_
 rintro ⟨y3a,y3b⟩ hy3
 dsimp only
 rintro ⟨⟩
 exact B4 Hd.Ac [fq (Am.EL source.kids)] [F8 (w5_m.set e0.name true),F8 w4_m,bw (.map [(.int .i64 2,.mp 4,0),(.int .i64 3,.mp 5,1)] 2) (.map [(.int .i64 2,.mp 4,0),(.int .i64 3,.mp 5,1)] 2) (.under rfl),Lk (w2_m.set e0.kind (BK ((w2_m.get e0.kind).getD 0) 1)),bp (Am.pl source),br AZ 0 2 y3b] (Aa 300 (o4++[pb hb4,pb hb5,AK (Ax (Ao hy3) 0 0),Kg (b:=(.map [(.int .i64 2,.mp 4,0),(.int .i64 3,.mp 5,1)] 2)) (Ix (z:=e0.kind) 3 (Gk hb2) rfl),WK (MJ w5_m e0.name true),pi mi0])) (by kernel_rfl) (k [.bool true,.bool true,.bool false,.bool true,.bool false,.bool false,.bool false,.bool false,.bool true,.bool true,.bool true,.bool true,.bool true,undef,undef,undef,undef,undef,.bool true,.bool true])
 refine Ae (fun hb6=>?_) fun hb6=>?_
 rintro ⟨⟩
 exact B4 Hd.Ac [fq (Am.EL source.kids)] [F8 (w5_m.set e0.name true),F8 w4_m,bw (.map [(.int .i64 2,.mp 4,0),(.int .i64 3,.mp 5,1)] 2) (.map [(.int .i64 2,.mp 4,0),(.int .i64 3,.mp 5,1)] 2) (.under rfl),Lk (w2_m.set e0.kind (BK ((w2_m.get e0.kind).getD 0) 1)),bp (Am.pl source),br AZ 0 2 w0_0] (Aa 300 (o4++[pb hb4,pb hb5,pn hb6,Kg (b:=(.map [(.int .i64 2,.mp 4,0),(.int .i64 3,.mp 5,1)] 2)) (Ix (z:=e0.kind) 3 (Gk hb2) rfl),WK (MJ w5_m e0.name true),pi mi0])) (by kernel_rfl) (k [.bool true,.bool true,.bool false,.bool true,.bool false,.bool false,.bool false,.bool false,.bool false,.bool true,.bool true,.bool false,.bool false,.bool false,.bool false,undef,undef,.bool false,.bool false,.bool false])
 refine Aj fun y4 hy4=>?_
 refine Ae (fun hv=>?_) fun hv=>?_
 subst hv
 rintro ⟨⟩
 exact B4 Hd.Ac [fq (Am.EL source.kids)] [F8 (w5_m.set e0.name true),F8 w4_m,bw (.map [(.int .i64 2,.mp 4,0),(.int .i64 3,.mp 5,1)] 2) (.map [(.int .i64 2,.mp 4,0),(.int .i64 3,.mp 5,1)] 2) (.under rfl),Lk (w2_m.set e0.kind (BK ((w2_m.get e0.kind).getD 0) 1)),bp (Am.pl source),br AZ 0 2 w0_0] (Aa 300 (o4++[pb hb4,pb hb5,pn hb6,Ak (D5 hy4),Kg (b:=(.map [(.int .i64 2,.mp 4,0),(.int .i64 3,.mp 5,1)] 2)) (Ix (z:=e0.kind) 3 (Gk hb2) rfl),WK (MJ w5_m e0.name true),pi mi0])) (by kernel_rfl) (k [.bool true,.bool true,.bool false,.bool true,.bool false,.bool false,.bool false,.bool false,.bool false,.bool true,.bool true,.bool false,.bool false,.bool true,.bool true,.bool true,.bool false,.bool false,.bool false,.bool false])
 subst hv
 refine Aj ?_
 rintro ⟨y5a,y5b⟩ hy5
 dsimp only
 rintro ⟨⟩
 exact B4 Hd.Ac [fq (Am.EL source.kids)] [F8 (w5_m.set e0.name true),F8 w4_m,bw (.map [(.int .i64 2,.mp 4,0),(.int .i64 3,.mp 5,1)] 2) (.map [(.int .i64 2,.mp 4,0),(.int .i64 3,.mp 5,1)] 2) (.under rfl),Lk (w2_m.set e0.kind (BK ((w2_m.get e0.kind).getD 0) 1)),bp (Am.pl source),br AZ 0 2 y5b] (Aa 300 (o4++[pb hb4,pb hb5,pn hb6,Ak (D5 hy4),AK (Ax (Ao hy5) 0 0),Kg (b:=(.map [(.int .i64 2,.mp 4,0),(.int .i64 3,.mp 5,1)] 2)) (Ix (z:=e0.kind) 3 (Gk hb2) rfl),WK (MJ w5_m e0.name true),pi mi0])) (by kernel_rfl) (k [.bool true,.bool true,.bool false,.bool true,.bool false,.bool false,.bool false,.bool false,.bool true,.bool true,.bool true,.bool false,.bool false,.bool true,.bool true,.bool false,.bool true,.bool true,.bool true,.bool true])
 refine Ae (fun hb7=>?_) fun hb7=>?_
 let o5:List (PC P G):=o2++[pb hb2,Kg (b:=(.map [(.int .i64 2,.mp 4,0),(.int .i64 3,.mp 5,1)] 2)) (Ix (z:=e0.kind) 2 (Gk hb7) rfl)]
 refine Ae (fun hb8=>?_) fun hb8=>?_
 refine Aj ?_
 rintro ⟨y6a,y6b⟩ hy6
 dsimp only
 rintro ⟨⟩
 exact B4 Hd.Ac [fq (Am.EL source.kids)] [F8 w5_m,F8 (w4_m.set e0.name true),bw (.map [(.int .i64 2,.mp 4,0),(.int .i64 3,.mp 5,1)] 2) (.map [(.int .i64 2,.mp 4,0),(.int .i64 3,.mp 5,1)] 2) (.under rfl),Lk (w2_m.set e0.kind (BK ((w2_m.get e0.kind).getD 0) 1)),bp (Am.pl source),br AZ 0 2 y6b] (Aa 300 (o5++[Kg (R7 w4_m e0.name hb8),AK (Ax (Ao hy6) 0 0),Kg (b:=(.map [(.int .i64 2,.mp 4,0),(.int .i64 3,.mp 5,1)] 2)) (Ix (z:=e0.kind) 2 (Gk hb7) rfl),WK (MJ w4_m e0.name true),pi mi0])) (by kernel_rfl) (k (js 20 j0 [(0,.bool false),(1,.bool true),(2,.bool false),(3,.bool false),(4,.bool true),(5,.bool true)]))
 let o6:List (PC P G):=o5++[Kg (R7 w4_m e0.name hb8),Kg (Zz (w2_m.set e0.kind (BK ((w2_m.get e0.kind).getD 0) 1)) e0.kind)]
 refine Ae (fun hb9=>?_) fun hb9=>?_
 refine Aj ?_
 rintro ⟨y7a,y7b⟩ hy7
 dsimp only
 rintro ⟨⟩
 exact B4 Hd.Ac [fq (Am.EL source.kids)] [F8 w5_m,F8 (w4_m.set e0.name true),bw (.map [(.int .i64 2,.mp 4,0),(.int .i64 3,.mp 5,1)] 2) (.map [(.int .i64 2,.mp 4,0),(.int .i64 3,.mp 5,1)] 2) (.under rfl),Lk (w2_m.set e0.kind (BK ((w2_m.get e0.kind).getD 0) 1)),bp (Am.pl source),br AZ 0 2 y7b] (Aa 300 (o6++[pb hb9,AK (Ax (Ao hy7) 0 0),Kg (b:=(.map [(.int .i64 2,.mp 4,0),(.int .i64 3,.mp 5,1)] 2)) (Ix (z:=e0.kind) 2 (Gk hb7) rfl),WK (MJ w4_m e0.name true),pi mi0])) (by kernel_rfl) (k (js 20 j0 [(0,.bool false),(1,.bool true),(2,.bool false),(3,.bool false),(4,.bool false),(5,.bool false),(6,.bool true),(7,.bool true)]))
 rintro ⟨⟩
 exact B4 Hd.Ac [fq (Am.EL source.kids)] [F8 w5_m,F8 (w4_m.set e0.name true),bw (.map [(.int .i64 2,.mp 4,0),(.int .i64 3,.mp 5,1)] 2) (.map [(.int .i64 2,.mp 4,0),(.int .i64 3,.mp 5,1)] 2) (.under rfl),Lk (w2_m.set e0.kind (BK ((w2_m.get e0.kind).getD 0) 1)),bp (Am.pl source),br AZ 0 2 w0_0] (Aa 300 (o6++[pb hb9,Kg (b:=(.map [(.int .i64 2,.mp 4,0),(.int .i64 3,.mp 5,1)] 2)) (Ix (z:=e0.kind) 2 (Gk hb7) rfl),WK (MJ w4_m e0.name true),pi mi0])) (by kernel_rfl) (k [.bool false,.bool true,.bool false,.bool false,.bool false,.bool false,.bool false,.bool false,.bool false,.bool false,.bool false,undef,undef,undef,undef,undef,undef,undef,undef,.bool false])
 exact tF
 rintro ⟨w5_m_8,w2_m_8,w0_0_8,w4_m_8⟩ jx_8
 dsimp only
 intro h
 have hE:=Option.some.inj h
 obtain ⟨hE0,hF0⟩:=Prod.mk.inj hE
 subst hE0 hF0
 exact Ky Hd.Ac _ _ [⟨.Bq [],.Bq [],(.plain rfl)⟩] [br AZ 0 2 w0_0_8] (BU 300 []) (by kernel_rfl)
noncomputable def uG:Code:=A4 Tryz.f35
theorem b35:Tryz.f35.body=some uG:=by kernel_rfl
noncomputable def Bm  (s:Sc) (Dr:Nd) (i0:Nat) (e0:Nd) (w3_0:(List Dg)):Option (Lp (List Dg) (List Dg) (Unit×(List Dg))):=cond (Br e0.n Dr.n) ((An 101 e0.att w3_0).bind fun (y7a,y7b)=>some (.nx y7b)) (cond ((s.Ah.get e0.n).isSome) (some (.nx w3_0)) ((An 91 e0.att w3_0).bind fun (y8a,y8b)=>some (.nx y8b)))
noncomputable def AU  (s:Sc) (Dr:Nd) (clause:Nd) (report:(List Dg)):Option (Unit×(List Dg)):=cond (Br clause.kind 7) ((Gv clause.kids.length (AT (fun i y x=>Bm  s Dr i y x) (fun x=>x) (clause.kids.drop 0) 0 report)).bind (GF (fun (w3_0_9:(List Dg))=>some ((),w3_0_9)) (fun v=>some v))) (cond (Br clause.kind 6) ((clause.kids[0]?).bind fun x1=>(CU s x1 report).bind fun (y2a,y2b)=>cond (BL y2a.data.toList ByteArray.empty.data.toList) (some ((),y2b)) (cond (BL A3.data.toList ByteArray.empty.data.toList) (some ((),y2b)) (cond (BL y2a.data.toList A3.data.toList) (some ((),y2b)) ((An 11 x1.att y2b).bind fun (y3a,y3b)=>some ((),y3b))))) ((clause.kids[0]?).bind fun x4=>(CU s x4 report).bind fun (y5a,y5b)=>cond (BL y5a.data.toList ByteArray.empty.data.toList) (some ((),y5b)) (cond (BL ((s.lines.get Dr.name).getD ByteArray.empty).data.toList ByteArray.empty.data.toList) (some ((),y5b)) (cond (BL y5a.data.toList ((s.lines.get Dr.name).getD ByteArray.empty).data.toList) (some ((),y5b)) ((An 11 x4.att y5b).bind fun (y6a,y6b)=>some ((),y6b))))))
theorem BN {s:Sc} {Dr:Nd} {clause:Nd} {report:(List Dg)} {qreportR:(List Dg)} (hS:Sound P G (.call 35 [.agg [.mp 0,.mp 1,.mp 2],.agg (A9 Dr),.agg (A9 clause),.fn (.func 54) [] [.ptr 3 0]] ⟨[(3,.cells [.sl (.row 0 2) report.length (rows DX report)]),(2,(CM s.Ah)),(1,(Ba s.lines)),(0,(Ba s.facts))],4,[(0,report.length)],1⟩ (.ret (.Bq [])) ⟨[(3,.cells [.sl (.row 0 2) qreportR.length (rows DX qreportR)]),(2,(CM s.Ah)),(1,(Ba s.lines)),(0,(Ba s.facts))],4,[(0,qreportR.length)],1⟩)) (u0 u1 u2 u3 v0:Nat) (hnb:[u0,u1,u2,u3].Nodup:=by decide) (hnt:([v0]:List Nat).Nodup:=by decide):Cd.ok P G (.callU 35 [.agg [.mp u0,.mp u1,.mp u2],.agg (A9 Dr),.agg (A9 clause),.fn (.func 54) [] [.ptr u3 0]] (.ret (.Bq [])) [(u0,(Ba s.facts)),(u1,(Ba s.lines)),(u2,(CM s.Ah)),(u3,.cells [.sl (.row v0 2) report.length (rows DX report)])] [(v0,report.length)] [(u0,(Ba s.facts)),(u1,(Ba s.lines)),(u2,(CM s.Ah)),(u3,.cells [.sl (.row v0 2) qreportR.length (rows DX qreportR)])] [(v0,qreportR.length)]) :=
 ER (M:=[(Ba s.facts),(Ba s.lines),(CM s.Ah),.cells [.sl (.row 0 2) report.length (rows DX report)]]) (M2:=[(Ba s.facts),(Ba s.lines),(CM s.Ah),.cells [.sl (.row 0 2) qreportR.length (rows DX qreportR)]]) (T:=[report.length]) (T2:=[qreportR.length]) (k:=4) (j:=1) Hd.Ac _ _ _ _ hS rfl rfl rfl rfl rfl hnb hnt rfl rfl (.cons (Il (fun _=>rfl)) (.cons (Il (fun _=>rfl)) (.cons (Il (fun _=>rfl)) (.cons (.cells (.cons (.row (by decide) (AZ.Bl report)) .nil)) .nil)))) (.cons (Il (fun _=>rfl)) (.cons (Il (fun _=>rfl)) (.cons (Il (fun _=>rfl)) (.cons (.cells (.cons (.row (by decide) (AZ.Bl qreportR)) .nil)) .nil)))) (.cons (.agg (.cons (.mp (by decide)) (.cons (.mp (by decide)) (.cons (.mp (by decide)) .nil)))) (.cons (.pl (Am.F1 Dr)) (.cons (.pl (Am.F1 clause)) (.cons (.fn (.pl rfl) (.cons (.ptr (by decide)) .nil)) .nil)))) (.pl rfl) (by
   intro e he
   simp only [List.mem_cons,List.not_mem_nil,or_false] at he
   rcases he with rfl | rfl | rfl | rfl
   · exact (.arg (.here (.agg (.here .mp))))
   · exact (.arg (.here (.agg (.there (.here .mp)))))
   · exact (.arg (.here (.agg (.there (.there (.here .mp))))))
   · exact (.arg (.there (.there (.there (.here (.fn2 (.here .ptr)))))))
   )
theorem BA   {s:Sc} {Dr:Nd} {clause:Nd} {report:(List Dg)} {yR:Unit} {qreportR:(List Dg)} (h:AU  s Dr clause report=some (yR,qreportR)):Sound P G (.call 35 [.agg [.mp 0,.mp 1,.mp 2],.agg (A9 Dr),.agg (A9 clause),.fn (.func 54) [] [.ptr 3 0]] ⟨[(3,.cells [.sl (.row 0 2) report.length (rows DX report)]),(2,(CM s.Ah)),(1,(Ba s.lines)),(0,(Ba s.facts))],4,[(0,report.length)],1⟩ (.ret (.Bq [])) ⟨[(3,.cells [.sl (.row 0 2) qreportR.length (rows DX qreportR)]),(2,(CM s.Ah)),(1,(Ba s.lines)),(0,(Ba s.facts))],4,[(0,qreportR.length)],1⟩):=by
 unfold AU at h
 refine E4 Hd.mixed (AG Tryz.func35 b35 ?_)
 revert h
 refine Ae (fun hb1=>?_) fun hb1=>?_
 refine DJ (fun Q v=>Je P G Tryz.f35 4 ⟨[(3,.cells [.sl (.row 0 2) report.length (rows DX report)]),(2,(CM s.Ah)),(1,(Ba s.lines)),(0,(Ba s.facts))],4,[(0,report.length)],1⟩ Q (.Bq []) ⟨[(3,.cells [.sl (.row 0 2) v.2.length (rows DX v.2)]),(2,(CM s.Ah)),(1,(Ba s.lines)),(0,(Ba s.facts))],4,[(0,v.2.length)],1⟩) (fun i0 (w3_0:(List Dg)) (j0:List Value)=>fr 80 [(3,.fn (.func 54) [] [.ptr 3 0]),(4,.ptr 4 0),(5,.ptr 5 0),(19,.sl .lost clause.kids.length (A7 clause.kids)),(20,.sc (.int .i64 ((clause.kids.length:Nat):Int))),(21,.sc (.int .i64 ((i0:Nat):Int)))] [11,17,22,29,41,42,43,56,66,67,69,70,71,74,75] j0) (fun (w3_0:(List Dg))=>⟨[(6,.cells (A9 clause)),(5,.cells (A9 Dr)),(4,.cells [.mp 0,.mp 1,.mp 2]),(3,.cells [.sl (.row 0 2) w3_0.length (rows DX w3_0)]),(2,(CM s.Ah)),(1,(Ba s.lines)),(0,(Ba s.facts))],7,[(0,w3_0.length)],1⟩) (fun (w3_0:(List Dg)) (jx:List Value)=>fr 80 [] [11,17,22,29,41,42,43,56,66,67,69,70,71,74,75] jx) (fun (w3_0:(List Dg))=>⟨[(6,.cells (A9 clause)),(5,.cells (A9 Dr)),(4,.cells [.mp 0,.mp 1,.mp 2]),(3,.cells [.sl (.row 0 2) w3_0.length (rows DX w3_0)]),(2,(CM s.Ah)),(1,(Ba s.lines)),(0,(Ba s.facts))],7,[(0,w3_0.length)],1⟩) [undef,.bool true] (DG [] 0 (sb uG 420) [.code (sb uG 53),.code (sb uG 7)] (Aa 300 [pb hb1]) (by kernel_rfl)) ?_ ?_ ?_ (fun v h=>by cases h;exact .outer .body)
 rintro i0 w3_0 j0 hge hq
 exact BV (Aa 300 [pb (II hge)]) (by kernel_rfl) (hq (js 15 j0 [(2,.bool false)]))
 rintro i0 e0 w3_0 j0 r he0 hi0 mi0 k
 show Bm  s Dr i0 e0 w3_0=some r→_
 unfold Bm
 refine Ae (fun hb9=>?_) fun hb9=>?_
 refine Aj ?_
 rintro ⟨y7a,y7b⟩ hy7
 dsimp only
 rintro ⟨⟩
 exact B4 Hd.Ac [fq (Am.EL clause.kids)] [bp (Am.pl clause),bp (Am.pl Dr),none,br AZ 0 2 y7b,BD s.Ah,AN s.lines,AN s.facts] (Aa 300 [pb (F5 hi0),CL (Bu .lost he0),pb hb9,AK (Ax (Ao hy7) 3 0),pi mi0]) (by kernel_rfl) (k (js 15 j0 [(2,.bool true),(3,.bool true)]))
 refine Ae (fun hb10=>?_) fun hb10=>?_
 rintro ⟨⟩
 exact B4 Hd.Ac [fq (Am.EL clause.kids)] [bp (Am.pl clause),bp (Am.pl Dr),none,br AZ 0 2 w3_0,BD s.Ah,AN s.lines,AN s.facts] (Aa 300 [pb (F5 hi0),CL (Bu .lost he0),pb hb9,Kg (U5 s.Ah e0.n hb10),pi mi0]) (by kernel_rfl) (k (js 15 j0 [(0,.bool true),(2,.bool true),(3,.bool false),(4,.bool true),(5,.bool true),(6,.bool false)]))
 refine Aj ?_
 rintro ⟨y8a,y8b⟩ hy8
 dsimp only
 rintro ⟨⟩
 exact B4 Hd.Ac [fq (Am.EL clause.kids)] [bp (Am.pl clause),bp (Am.pl Dr),none,br AZ 0 2 y8b,BD s.Ah,AN s.lines,AN s.facts] (Aa 300 [pb (F5 hi0),CL (Bu .lost he0),pb hb9,Kg (U5 s.Ah e0.n hb10),AK (Ax (Ao hy8) 3 0),pi mi0]) (by kernel_rfl) (k (js 15 j0 [(0,.bool false),(2,.bool true),(3,.bool false),(4,.bool false),(5,.bool false),(6,.bool true)]))
 rintro w3_0_9 jx_9
 intro h
 have hE:=Option.some.inj h
 obtain ⟨hE0,hF0⟩:=Prod.mk.inj hE
 subst hE0 hF0
 exact Aq Hd.Ac _ _ [⟨.Bq [],.Bq [],(.plain rfl)⟩] [br AZ 0 2 w3_0_9,BD s.Ah,AN s.lines,AN s.facts] (BU 300 []) (by kernel_rfl) .body
 let o1:List (PC P G):=[pb hb1,Kg (aM s.lines Dr.name)]
 refine Ae (fun hb2=>?_) fun hb2=>?_
 refine Aj fun x1 hx1=>?_
 refine Aj ?_
 rintro ⟨y2a,y2b⟩ hy2
 dsimp only
 let o2:List (PC P G):=o1++[pb hb2,CL (Bu .lost hx1),AK (DF (Eo hy2) 0 1 2 3 0)]
 refine Ae (fun hb3=>?_) fun hb3=>?_
 intro h
 have hE:=Option.some.inj h
 obtain ⟨hE0,hF0⟩:=Prod.mk.inj hE
 subst hE0 hF0
 exact Ky Hd.Ac _ _ [⟨.Bq [],.Bq [],(.plain rfl)⟩] [br AZ 0 2 y2b,BD s.Ah,AN s.lines,AN s.facts] (Aa 300 (o2++[pn hb3])) (by kernel_rfl)
 refine Ae (fun hb4=>?_) fun hb4=>?_
 intro h
 have hE:=Option.some.inj h
 obtain ⟨hE0,hF0⟩:=Prod.mk.inj hE
 subst hE0 hF0
 exact Ky Hd.Ac _ _ [⟨.Bq [],.Bq [],(.plain rfl)⟩] [br AZ 0 2 y2b,BD s.Ah,AN s.lines,AN s.facts] (Aa 300 (o2++[pn hb3,pn hb4])) (by kernel_rfl)
 refine Ae (fun hb5=>?_) fun hb5=>?_
 intro h
 have hE:=Option.some.inj h
 obtain ⟨hE0,hF0⟩:=Prod.mk.inj hE
 subst hE0 hF0
 exact Ky Hd.Ac _ _ [⟨.Bq [],.Bq [],(.plain rfl)⟩] [br AZ 0 2 y2b,BD s.Ah,AN s.lines,AN s.facts] (Aa 300 (o2++[pn hb3,pn hb4,pn hb5])) (by kernel_rfl)
 refine Aj ?_
 rintro ⟨y3a,y3b⟩ hy3
 dsimp only
 intro h
 have hE:=Option.some.inj h
 obtain ⟨hE0,hF0⟩:=Prod.mk.inj hE
 subst hE0 hF0
 exact Ky Hd.Ac _ _ [⟨.Bq [],.Bq [],(.plain rfl)⟩] [br AZ 0 2 y3b,BD s.Ah,AN s.lines,AN s.facts] (Aa 300 (o2++[pn hb3,pn hb4,pn hb5,AK (Ax (Ao hy3) 3 0)])) (by kernel_rfl)
 refine Aj fun x4 hx4=>?_
 refine Aj ?_
 rintro ⟨y5a,y5b⟩ hy5
 dsimp only
 let o3:List (PC P G):=o1++[pb hb2,CL (Bu .lost hx4),AK (DF (Eo hy5) 0 1 2 3 0)]
 refine Ae (fun hb6=>?_) fun hb6=>?_
 intro h
 have hE:=Option.some.inj h
 obtain ⟨hE0,hF0⟩:=Prod.mk.inj hE
 subst hE0 hF0
 exact Ky Hd.Ac _ _ [⟨.Bq [],.Bq [],(.plain rfl)⟩] [br AZ 0 2 y5b,BD s.Ah,AN s.lines,AN s.facts] (Aa 300 (o3++[pn hb6])) (by kernel_rfl)
 refine Ae (fun hb7=>?_) fun hb7=>?_
 intro h
 have hE:=Option.some.inj h
 obtain ⟨hE0,hF0⟩:=Prod.mk.inj hE
 subst hE0 hF0
 exact Ky Hd.Ac _ _ [⟨.Bq [],.Bq [],(.plain rfl)⟩] [br AZ 0 2 y5b,BD s.Ah,AN s.lines,AN s.facts] (Aa 300 (o3++[pn hb6,pn hb7])) (by kernel_rfl)
 refine Ae (fun hb8=>?_) fun hb8=>?_
 intro h
 have hE:=Option.some.inj h
 obtain ⟨hE0,hF0⟩:=Prod.mk.inj hE
 subst hE0 hF0
 exact Ky Hd.Ac _ _ [⟨.Bq [],.Bq [],(.plain rfl)⟩] [br AZ 0 2 y5b,BD s.Ah,AN s.lines,AN s.facts] (Aa 300 (o3++[pn hb6,pn hb7,pn hb8])) (by kernel_rfl)
 refine Aj ?_
 rintro ⟨y6a,y6b⟩ hy6
 dsimp only
 intro h
 have hE:=Option.some.inj h
 obtain ⟨hE0,hF0⟩:=Prod.mk.inj hE
 subst hE0 hF0
 exact Ky Hd.Ac _ _ [⟨.Bq [],.Bq [],(.plain rfl)⟩] [br AZ 0 2 y6b,BD s.Ah,AN s.lines,AN s.facts] (Aa 300 (o3++[pn hb6,pn hb7,pn hb8,AK (Ax (Ao hy6) 3 0)])) (by kernel_rfl)
noncomputable def Wv:Code:=A4 Tryz.f16
theorem b16:Tryz.f16.body=some Wv:=by kernel_rfl
noncomputable def GC  (y3:Sc) (e0:Nd) (i1:Nat) (e1:Nd) (w1_0:(List Dg)):Option (Lp (List Dg) (List Dg) (List Dg)):=(AU y3 e0 e1 w1_0).bind fun (y14a,y14b)=>some (.nx y14b)
noncomputable def Gn  (y3:Sc) (e0:Nd) (i2:Nat) (e2:Nd) (w1_0:(List Dg)):Option (Lp (List Dg) (List Dg) (List Dg)):=(AU y3 e0 e2 w1_0).bind fun (y16a,y16b)=>some (.nx y16b)
noncomputable def GB  (y3:Sc) (e0:Nd) (i3:Nat) (e3:Nd) (w1_0:(List Dg)):Option (Lp (List Dg) (List Dg) (List Dg)):=(AU y3 e0 e3 w1_0).bind fun (y18a,y18b)=>some (.nx y18b)
noncomputable def Gd  (y3:Sc) (e0:Nd) (i4:Nat) (e4:Nd) (w1_0:(List Dg)):Option (Lp (List Dg) (List Dg) (List Dg)):=(AU y3 e0 e4 w1_0).bind fun (y20a,y20b)=>some (.nx y20b)
noncomputable def GA  (y3:Sc) (e0:Nd) (i5:Nat) (e5:Nd) (w1_0:(List Dg)):Option (Lp (List Dg) (List Dg) (List Dg)):=(AU y3 e0 e5 w1_0).bind fun (y22a,y22b)=>some (.nx y22b)
noncomputable def Ec  (y3:Sc) (i0:Nat) (e0:Nd) (count6:Int) (w1_0:(List Dg)):Option (Lp (Int×(List Dg)) (List Dg) (List Dg)):=cond (Br e0.kind 4) (cond ((y3.lines.get e0.name).isSome) (cond (FV 60 (BK count6 1)) ((An 2 e0.att w1_0).bind fun (y5a,y5b)=>(JT e0.kids 1 ((e0.kids.length:Nat):Int)).bind fun l6=>(Gv l6.length (AT (fun i y x=>GC  y3 e0 i y x) (fun x=>x) (l6.drop 0) 0 y5b)).bind (GF (fun (w1_0_15:(List Dg))=>some (.nx ((BK count6 1),w1_0_15))) (fun v=>some (.rt v)))) (cond (BL ((y3.Ah.get e0.n).getD ByteArray.empty).data.toList e0.name.data.toList) ((JT e0.kids 1 ((e0.kids.length:Nat):Int)).bind fun l7=>(Gv l7.length (AT (fun i y x=>Gn  y3 e0 i y x) (fun x=>x) (l7.drop 0) 0 w1_0)).bind (GF (fun (w1_0_17:(List Dg))=>some (.nx ((BK count6 1),w1_0_17))) (fun v=>some (.rt v)))) ((An 101 e0.att w1_0).bind fun (y8a,y8b)=>(JT e0.kids 1 ((e0.kids.length:Nat):Int)).bind fun l9=>(Gv l9.length (AT (fun i y x=>GB  y3 e0 i y x) (fun x=>x) (l9.drop 0) 0 y8b)).bind (GF (fun (w1_0_19:(List Dg))=>some (.nx ((BK count6 1),w1_0_19))) (fun v=>some (.rt v)))))) (cond (FV 60 (BK count6 1)) ((An 2 e0.att w1_0).bind fun (y10a,y10b)=>(JT e0.kids 1 ((e0.kids.length:Nat):Int)).bind fun l11=>(Gv l11.length (AT (fun i y x=>Gd  y3 e0 i y x) (fun x=>x) (l11.drop 0) 0 y10b)).bind (GF (fun (w1_0_21:(List Dg))=>some (.nx ((BK count6 1),w1_0_21))) (fun v=>some (.rt v)))) ((An 91 e0.att w1_0).bind fun (y12a,y12b)=>(JT e0.kids 1 ((e0.kids.length:Nat):Int)).bind fun l13=>(Gv l13.length (AT (fun i y x=>GA  y3 e0 i y x) (fun x=>x) (l13.drop 0) 0 y12b)).bind (GF (fun (w1_0_23:(List Dg))=>some (.nx ((BK count6 1),w1_0_23))) (fun v=>some (.rt v)))))) (some (.nx (count6,w1_0)))
noncomputable def EC  (source:Nd):Option (List Dg):=cond (Br source.kind 1) ((Dz source).bind fun y1=>cond y1 ((De).bind fun y2=>(Dw source).bind fun y3=>(BP source []).bind fun (y4a,y4b)=>(Gv source.kids.length (AT (fun i y x=>Ec  y3 i y x.1 x.2) (fun x=>x.2) (source.kids.drop 0) 0 (0,y4b))).bind (GF (fun (w1_0_24:(List Dg))=>some w1_0_24) (fun v=>some v))) (some [(⟨1,0⟩:Dg)])) (some [(⟨1,0⟩:Dg)])
theorem Ji   {source:Nd} {yR:(List Dg)} (h:EC  source=some yR):Pure P G 16 [.agg (A9 source)] (.sl .lost yR.length (rows DX yR)):=by
 unfold EC at h
 refine BH Hd.mixed Hd.Ac (AG Tryz.func16 b16 ?_) (Bl (Am.F1 source) rfl) (AZ.EL yR)
 revert h
 refine Ae (fun hb1=>?_) fun hb1=>?_
 refine Aj fun y1 hy1=>?_
 refine Ae (fun hv=>?_) fun hv=>?_
 subst hv
 refine Aj fun y2 hy2=>?_
 refine Aj fun y3 hy3=>?_
 refine Aj ?_
 rintro ⟨y4a,y4b⟩ hy4
 dsimp only
 refine DJ (fun Q v=>DI P Tryz.f16 0 Q (.sl .lost v.length (rows DX v))) (fun i0 ((count6,w1_0):(Int×(List Dg))) (j0:List Value)=>fr 97 [(3,.ptr 1 0),(4,.fn (.func 54) [] [.ptr 1 0]),(5,.ptr 7 0),(6,.sc (.int .i64 count6)),(33,.sl .lost source.kids.length (A7 source.kids)),(34,.sc (.int .i64 ((source.kids.length:Nat):Int))),(35,.sc (.int .i64 ((i0:Nat):Int)))] [10,15,16,18,19,20,36,41,51,52,54,59,60,61,66,74,84] j0) (fun ((count6,w1_0):(Int×(List Dg)))=>⟨[(7,.cells [.mp 4,.mp 5,.mp 6]),(6,(CM y3.Ah)),(5,(Ba y3.lines)),(4,(Ba y3.facts)),(1,.cells [.sl (.row 0 2) w1_0.length (rows DX w1_0)]),(0,.cells (A9 source))],8,[(0,w1_0.length)],1⟩) (fun (w1_0:(List Dg)) (jx:List Value)=>fr 97 [(3,.ptr 1 0)] [10,15,16,18,19,20,36,41,51,52,54,59,60,61,66,74,84] jx) (fun (w1_0:(List Dg))=>⟨[(7,.cells [.mp 4,.mp 5,.mp 6]),(6,(CM y3.Ah)),(5,(Ba y3.lines)),(4,(Ba y3.facts)),(1,.cells [.sl (.row 0 2) w1_0.length (rows DX w1_0)]),(0,.cells (A9 source))],8,[(0,w1_0.length)],1⟩) [undef,.bool false,.bool false,.bool true,.bool false,.bool false] (DG [] 0 (sb Wv 2036) [.code (sb Wv 255)] (Aa 300 [pn hb1,Ak (DO hy1),Ru (v:=.Bq [.ptr 1 0,.fn (.func 54) [] [.ptr 1 0]]) (h:=[(1,.cells [.sl .full 0 []])] ) (F:=[]) (IV (Hj hy2) 1 0),Ru (v:=.agg [.mp 4,.mp 5,.mp 6]) (h:=[(6,(CM y3.Ah)),(5,(Ba y3.lines)),(4,(Ba y3.facts))] ) (F:=[]) (Jh (Hx hy3) 2 0),yW [.b 1 0 2],AK (Ia (GO hy4) 1 0)]) (by kernel_rfl)) ?_ ?_ ?_ (fun v h=>by cases h;exact .outer .body)
 rintro i0 ⟨count6,w1_0⟩ j0 hge hq
 exact BV (Aa 300 [pb (II hge)]) (by kernel_rfl) (hq (js 17 j0 [(6,.bool false)]))
 rintro i0 e0 ⟨count6,w1_0⟩ j0 r he0 hi0 mi0 k
 show Ec  y3 i0 e0 count6 w1_0=some r→_
 unfold Ec
 let o1:List (PC P G):=[pb (F5 hi0),CL (Bu .lost he0)]
 refine Ae (fun hb2=>?_) fun hb2=>?_
 refine Ae (fun hb3=>?_) fun hb3=>?_
 let o2:List (PC P G):=o1++[pn hb2,pk,Kg (PI y3.lines e0.name hb3)]
 refine Ae (fun hb4=>?_) fun hb4=>?_
 refine Aj ?_
 rintro ⟨y5a,y5b⟩ hy5
 dsimp only
 refine Aj fun l6 hl6=>?_
 refine DJ (fun Q v=>DI P Tryz.f16 0 Q (.sl .lost v.length (rows DX v))) (fun i1 (w1_0:(List Dg)) (j1:List Value)=>fr 97 [(3,.ptr 1 0),(4,.fn (.func 54) [] [.ptr 1 0]),(5,.ptr 7 0),(6,.sc (.int .i64 (BK count6 1))),(8,.ptr 8 0),(33,.sl .lost source.kids.length (A7 source.kids)),(34,.sc (.int .i64 ((source.kids.length:Nat):Int))),(35,.sc (.int .i64 ((i0:Nat):Int))),(81,.sl .lost l6.length (A7 l6)),(82,.sc (.int .i64 ((l6.length:Nat):Int))),(83,.sc (.int .i64 ((i1:Nat):Int)))] [10,15,16,18,19,20,36,41,51,52,54,59,60,61,66,74,84] j1) (fun (w1_0:(List Dg))=>⟨[(8,.cells (A9 e0)),(7,.cells [.mp 4,.mp 5,.mp 6]),(6,(CM y3.Ah)),(5,(Ba y3.lines)),(4,(Ba y3.facts)),(1,.cells [.sl (.row 0 2) w1_0.length (rows DX w1_0)]),(0,.cells (A9 source))],9,[(0,w1_0.length)],1⟩) (fun (w1_0:(List Dg)) (jx:List Value)=>fr 97 [(3,.ptr 1 0),(4,.fn (.func 54) [] [.ptr 1 0]),(5,.ptr 7 0),(6,.sc (.int .i64 (BK count6 1))),(33,.sl .lost source.kids.length (A7 source.kids)),(34,.sc (.int .i64 ((source.kids.length:Nat):Int))),(35,.sc (.int .i64 ((i0:Nat):Int)))] [10,15,16,18,19,20,36,41,51,52,54,59,60,61,66,74,84] jx) (fun (w1_0:(List Dg))=>⟨[(8,.cells (A9 e0)),(7,.cells [.mp 4,.mp 5,.mp 6]),(6,(CM y3.Ah)),(5,(Ba y3.lines)),(4,(Ba y3.facts)),(1,.cells [.sl (.row 0 2) w1_0.length (rows DX w1_0)]),(0,.cells (A9 source))],9,[(0,w1_0.length)],1⟩) (js 17 j0 [(0,.bool true),(6,.bool true),(7,.bool false),(8,.bool true),(9,.bool true),(10,.bool true)]) (DG [] 3 (sb Wv 8342780) [.endb 1,.code (sb Wv 16295)] (Aa 300 (o2++[pb hb4,AK (Ax (Ao hy5) 1 0),O1 (Gl hl6)])) (by kernel_rfl)) ?_ ?_ ?_ (fun v h=>by cases h;exact .outer (.GX k))
 rintro i1 w1_0 j1 hge hq
 exact BV (Aa 300 [pb (II hge)]) (by kernel_rfl) (hq (js 17 j1 [(16,.bool false)]))
 rintro i1 e1 w1_0 j1 r he1 hi1 mi1 k
 show GC  y3 e0 i1 e1 w1_0=some r→_
 unfold GC
 refine Aj ?_
 rintro ⟨y14a,y14b⟩ hy14
 dsimp only
 rintro ⟨⟩
 exact B4 Hd.Ac [fq (Am.EL source.kids),fq (Am.EL l6)] [bp (Am.pl e0),none,BD y3.Ah,AN y3.lines,AN y3.facts,br AZ 0 2 y14b,bp (Am.pl source)] (Aa 300 [pb (F5 hi1),CL (Bu .lost he1),AK (BN (BA hy14) 4 5 6 1 0),pi mi1]) (by kernel_rfl) (k (js 17 j1 [(16,.bool true)]))
 rintro w1_0_15 jx_15
 rintro ⟨⟩
 exact B4 Hd.Ac [fq (Am.EL source.kids)] [none,BD y3.Ah,AN y3.lines,AN y3.facts,br AZ 0 2 w1_0_15,bp (Am.pl source)] (BU 300 [pi mi0]) (by kernel_rfl) (k jx_15)
 refine Ae (fun hb5=>?_) fun hb5=>?_
 refine Aj fun l7 hl7=>?_
 refine DJ (fun Q v=>DI P Tryz.f16 0 Q (.sl .lost v.length (rows DX v))) (fun i2 (w1_0:(List Dg)) (j2:List Value)=>fr 97 [(3,.ptr 1 0),(4,.fn (.func 54) [] [.ptr 1 0]),(5,.ptr 7 0),(6,.sc (.int .i64 (BK count6 1))),(8,.ptr 8 0),(33,.sl .lost source.kids.length (A7 source.kids)),(34,.sc (.int .i64 ((source.kids.length:Nat):Int))),(35,.sc (.int .i64 ((i0:Nat):Int))),(81,.sl .lost l7.length (A7 l7)),(82,.sc (.int .i64 ((l7.length:Nat):Int))),(83,.sc (.int .i64 ((i2:Nat):Int)))] [10,15,16,18,19,20,36,41,51,52,54,59,60,61,66,74,84] j2) (fun (w1_0:(List Dg))=>⟨[(8,.cells (A9 e0)),(7,.cells [.mp 4,.mp 5,.mp 6]),(6,(CM y3.Ah)),(5,(Ba y3.lines)),(4,(Ba y3.facts)),(1,.cells [.sl (.row 0 2) w1_0.length (rows DX w1_0)]),(0,.cells (A9 source))],9,[(0,w1_0.length)],1⟩) (fun (w1_0:(List Dg)) (jx:List Value)=>fr 97 [(3,.ptr 1 0),(4,.fn (.func 54) [] [.ptr 1 0]),(5,.ptr 7 0),(6,.sc (.int .i64 (BK count6 1))),(33,.sl .lost source.kids.length (A7 source.kids)),(34,.sc (.int .i64 ((source.kids.length:Nat):Int))),(35,.sc (.int .i64 ((i0:Nat):Int)))] [10,15,16,18,19,20,36,41,51,52,54,59,60,61,66,74,84] jx) (fun (w1_0:(List Dg))=>⟨[(8,.cells (A9 e0)),(7,.cells [.mp 4,.mp 5,.mp 6]),(6,(CM y3.Ah)),(5,(Ba y3.lines)),(4,(Ba y3.facts)),(1,.cells [.sl (.row 0 2) w1_0.length (rows DX w1_0)]),(0,.cells (A9 source))],9,[(0,w1_0.length)],1⟩) [.bool true,(jv j0 1),(jv j0 2),(jv j0 3),(jv j0 4),(jv j0 5),.bool true,.bool false,.bool true,.bool false,.bool false,.bool false,.bool true,.bool false,.bool false,.bool false,(jv j0 16)] (DG [] 3 (sb Wv 8342780) [.endb 1,.code (sb Wv 16295)] (Aa 300 (o2++[pb hb4,Kg (kU y3.Ah e0.n),pn hb5,O1 (Gl hl7)])) (by kernel_rfl)) ?_ ?_ ?_ (fun v h=>by cases h;exact .outer (.GX k))
 rintro i2 w1_0 j2 hge hq
 exact BV (Aa 300 [pb (II hge)]) (by kernel_rfl) (hq (js 17 j2 [(16,.bool false)]))
 rintro i2 e2 w1_0 j2 r he2 hi2 mi2 k
 show Gn  y3 e0 i2 e2 w1_0=some r→_
 unfold Gn
 refine Aj ?_
 rintro ⟨y16a,y16b⟩ hy16
 dsimp only
 rintro ⟨⟩
 exact B4 Hd.Ac [fq (Am.EL source.kids),fq (Am.EL l7)] [bp (Am.pl e0),none,BD y3.Ah,AN y3.lines,AN y3.facts,br AZ 0 2 y16b,bp (Am.pl source)] (Aa 300 [pb (F5 hi2),CL (Bu .lost he2),AK (BN (BA hy16) 4 5 6 1 0),pi mi2]) (by kernel_rfl) (k (js 17 j2 [(16,.bool true)]))
 rintro w1_0_17 jx_17
 rintro ⟨⟩
 exact B4 Hd.Ac [fq (Am.EL source.kids)] [none,BD y3.Ah,AN y3.lines,AN y3.facts,br AZ 0 2 w1_0_17,bp (Am.pl source)] (BU 300 [pi mi0]) (by kernel_rfl) (k jx_17)
 refine Aj ?_
 rintro ⟨y8a,y8b⟩ hy8
 dsimp only
 refine Aj fun l9 hl9=>?_
 refine DJ (fun Q v=>DI P Tryz.f16 0 Q (.sl .lost v.length (rows DX v))) (fun i3 (w1_0:(List Dg)) (j3:List Value)=>fr 97 [(3,.ptr 1 0),(4,.fn (.func 54) [] [.ptr 1 0]),(5,.ptr 7 0),(6,.sc (.int .i64 (BK count6 1))),(8,.ptr 8 0),(33,.sl .lost source.kids.length (A7 source.kids)),(34,.sc (.int .i64 ((source.kids.length:Nat):Int))),(35,.sc (.int .i64 ((i0:Nat):Int))),(81,.sl .lost l9.length (A7 l9)),(82,.sc (.int .i64 ((l9.length:Nat):Int))),(83,.sc (.int .i64 ((i3:Nat):Int)))] [10,15,16,18,19,20,36,41,51,52,54,59,60,61,66,74,84] j3) (fun (w1_0:(List Dg))=>⟨[(8,.cells (A9 e0)),(7,.cells [.mp 4,.mp 5,.mp 6]),(6,(CM y3.Ah)),(5,(Ba y3.lines)),(4,(Ba y3.facts)),(1,.cells [.sl (.row 0 2) w1_0.length (rows DX w1_0)]),(0,.cells (A9 source))],9,[(0,w1_0.length)],1⟩) (fun (w1_0:(List Dg)) (jx:List Value)=>fr 97 [(3,.ptr 1 0),(4,.fn (.func 54) [] [.ptr 1 0]),(5,.ptr 7 0),(6,.sc (.int .i64 (BK count6 1))),(33,.sl .lost source.kids.length (A7 source.kids)),(34,.sc (.int .i64 ((source.kids.length:Nat):Int))),(35,.sc (.int .i64 ((i0:Nat):Int)))] [10,15,16,18,19,20,36,41,51,52,54,59,60,61,66,74,84] jx) (fun (w1_0:(List Dg))=>⟨[(8,.cells (A9 e0)),(7,.cells [.mp 4,.mp 5,.mp 6]),(6,(CM y3.Ah)),(5,(Ba y3.lines)),(4,(Ba y3.facts)),(1,.cells [.sl (.row 0 2) w1_0.length (rows DX w1_0)]),(0,.cells (A9 source))],9,[(0,w1_0.length)],1⟩) [.bool true,(jv j0 1),(jv j0 2),(jv j0 3),(jv j0 4),(jv j0 5),.bool true,.bool false,.bool true,.bool false,.bool false,.bool false,.bool true,.bool false,.bool true,.bool true,(jv j0 16)] (DG [] 3 (sb Wv 8342780) [.endb 1,.code (sb Wv 16295)] (Aa 300 (o2++[pb hb4,Kg (kU y3.Ah e0.n),pn hb5,AK (Ax (Ao hy8) 1 0),O1 (Gl hl9)])) (by kernel_rfl)) ?_ ?_ ?_ (fun v h=>by cases h;exact .outer (.GX k))
 rintro i3 w1_0 j3 hge hq
 exact BV (Aa 300 [pb (II hge)]) (by kernel_rfl) (hq (js 17 j3 [(16,.bool false)]))
 rintro i3 e3 w1_0 j3 r he3 hi3 mi3 k
 show GB  y3 e0 i3 e3 w1_0=some r→_
 unfold GB
 refine Aj ?_
 rintro ⟨y18a,y18b⟩ hy18
 dsimp only
 rintro ⟨⟩
 exact B4 Hd.Ac [fq (Am.EL source.kids),fq (Am.EL l9)] [bp (Am.pl e0),none,BD y3.Ah,AN y3.lines,AN y3.facts,br AZ 0 2 y18b,bp (Am.pl source)] (Aa 300 [pb (F5 hi3),CL (Bu .lost he3),AK (BN (BA hy18) 4 5 6 1 0),pi mi3]) (by kernel_rfl) (k (js 17 j3 [(16,.bool true)]))
 rintro w1_0_19 jx_19
 rintro ⟨⟩
 exact B4 Hd.Ac [fq (Am.EL source.kids)] [none,BD y3.Ah,AN y3.lines,AN y3.facts,br AZ 0 2 w1_0_19,bp (Am.pl source)] (BU 300 [pi mi0]) (by kernel_rfl) (k jx_19)
 refine Ae (fun hb6=>?_) fun hb6=>?_
 refine Aj ?_
 rintro ⟨y10a,y10b⟩ hy10
 dsimp only
 refine Aj fun l11 hl11=>?_
 refine DJ (fun Q v=>DI P Tryz.f16 0 Q (.sl .lost v.length (rows DX v))) (fun i4 (w1_0:(List Dg)) (j4:List Value)=>fr 97 [(3,.ptr 1 0),(4,.fn (.func 54) [] [.ptr 1 0]),(5,.ptr 7 0),(6,.sc (.int .i64 (BK count6 1))),(8,.ptr 8 0),(33,.sl .lost source.kids.length (A7 source.kids)),(34,.sc (.int .i64 ((source.kids.length:Nat):Int))),(35,.sc (.int .i64 ((i0:Nat):Int))),(81,.sl .lost l11.length (A7 l11)),(82,.sc (.int .i64 ((l11.length:Nat):Int))),(83,.sc (.int .i64 ((i4:Nat):Int)))] [10,15,16,18,19,20,36,41,51,52,54,59,60,61,66,74,84] j4) (fun (w1_0:(List Dg))=>⟨[(8,.cells (A9 e0)),(7,.cells [.mp 4,.mp 5,.mp 6]),(6,(CM y3.Ah)),(5,(Ba y3.lines)),(4,(Ba y3.facts)),(1,.cells [.sl (.row 0 2) w1_0.length (rows DX w1_0)]),(0,.cells (A9 source))],9,[(0,w1_0.length)],1⟩) (fun (w1_0:(List Dg)) (jx:List Value)=>fr 97 [(3,.ptr 1 0),(4,.fn (.func 54) [] [.ptr 1 0]),(5,.ptr 7 0),(6,.sc (.int .i64 (BK count6 1))),(33,.sl .lost source.kids.length (A7 source.kids)),(34,.sc (.int .i64 ((source.kids.length:Nat):Int))),(35,.sc (.int .i64 ((i0:Nat):Int)))] [10,15,16,18,19,20,36,41,51,52,54,59,60,61,66,74,84] jx) (fun (w1_0:(List Dg))=>⟨[(8,.cells (A9 e0)),(7,.cells [.mp 4,.mp 5,.mp 6]),(6,(CM y3.Ah)),(5,(Ba y3.lines)),(4,(Ba y3.facts)),(1,.cells [.sl (.row 0 2) w1_0.length (rows DX w1_0)]),(0,.cells (A9 source))],9,[(0,w1_0.length)],1⟩) (js 17 j0 [(0,.bool false),(6,.bool true),(7,.bool false),(8,.bool false),(9,.bool true),(10,.bool true)]) (DG [] 3 (sb Wv 8342780) [.endb 1,.code (sb Wv 16295)] (Aa 300 (o1++[pn hb2,pk,Kg (PI y3.lines e0.name hb3),pb hb6,AK (Ax (Ao hy10) 1 0),O1 (Gl hl11)])) (by kernel_rfl)) ?_ ?_ ?_ (fun v h=>by cases h;exact .outer (.GX k))
 rintro i4 w1_0 j4 hge hq
 exact BV (Aa 300 [pb (II hge)]) (by kernel_rfl) (hq (js 17 j4 [(16,.bool false)]))
 rintro i4 e4 w1_0 j4 r he4 hi4 mi4 k
 show Gd  y3 e0 i4 e4 w1_0=some r→_
 unfold Gd
 refine Aj ?_
 rintro ⟨y20a,y20b⟩ hy20
 dsimp only
 rintro ⟨⟩
 exact B4 Hd.Ac [fq (Am.EL source.kids),fq (Am.EL l11)] [bp (Am.pl e0),none,BD y3.Ah,AN y3.lines,AN y3.facts,br AZ 0 2 y20b,bp (Am.pl source)] (Aa 300 [pb (F5 hi4),CL (Bu .lost he4),AK (BN (BA hy20) 4 5 6 1 0),pi mi4]) (by kernel_rfl) (k (js 17 j4 [(16,.bool true)]))
 rintro w1_0_21 jx_21
 rintro ⟨⟩
 exact B4 Hd.Ac [fq (Am.EL source.kids)] [none,BD y3.Ah,AN y3.lines,AN y3.facts,br AZ 0 2 w1_0_21,bp (Am.pl source)] (BU 300 [pi mi0]) (by kernel_rfl) (k jx_21)
 refine Aj ?_
 rintro ⟨y12a,y12b⟩ hy12
 dsimp only
 refine Aj fun l13 hl13=>?_
 refine DJ (fun Q v=>DI P Tryz.f16 0 Q (.sl .lost v.length (rows DX v))) (fun i5 (w1_0:(List Dg)) (j5:List Value)=>fr 97 [(3,.ptr 1 0),(4,.fn (.func 54) [] [.ptr 1 0]),(5,.ptr 7 0),(6,.sc (.int .i64 (BK count6 1))),(8,.ptr 8 0),(33,.sl .lost source.kids.length (A7 source.kids)),(34,.sc (.int .i64 ((source.kids.length:Nat):Int))),(35,.sc (.int .i64 ((i0:Nat):Int))),(81,.sl .lost l13.length (A7 l13)),(82,.sc (.int .i64 ((l13.length:Nat):Int))),(83,.sc (.int .i64 ((i5:Nat):Int)))] [10,15,16,18,19,20,36,41,51,52,54,59,60,61,66,74,84] j5) (fun (w1_0:(List Dg))=>⟨[(8,.cells (A9 e0)),(7,.cells [.mp 4,.mp 5,.mp 6]),(6,(CM y3.Ah)),(5,(Ba y3.lines)),(4,(Ba y3.facts)),(1,.cells [.sl (.row 0 2) w1_0.length (rows DX w1_0)]),(0,.cells (A9 source))],9,[(0,w1_0.length)],1⟩) (fun (w1_0:(List Dg)) (jx:List Value)=>fr 97 [(3,.ptr 1 0),(4,.fn (.func 54) [] [.ptr 1 0]),(5,.ptr 7 0),(6,.sc (.int .i64 (BK count6 1))),(33,.sl .lost source.kids.length (A7 source.kids)),(34,.sc (.int .i64 ((source.kids.length:Nat):Int))),(35,.sc (.int .i64 ((i0:Nat):Int)))] [10,15,16,18,19,20,36,41,51,52,54,59,60,61,66,74,84] jx) (fun (w1_0:(List Dg))=>⟨[(8,.cells (A9 e0)),(7,.cells [.mp 4,.mp 5,.mp 6]),(6,(CM y3.Ah)),(5,(Ba y3.lines)),(4,(Ba y3.facts)),(1,.cells [.sl (.row 0 2) w1_0.length (rows DX w1_0)]),(0,.cells (A9 source))],9,[(0,w1_0.length)],1⟩) (js 17 j0 [(0,.bool false),(6,.bool true),(7,.bool false),(8,.bool false),(9,.bool false),(10,.bool false),(11,.bool true),(12,.bool false),(13,.bool true)]) (DG [] 3 (sb Wv 8342780) [.endb 1,.code (sb Wv 16295)] (Aa 300 (o1++[pn hb2,pk,Kg (PI y3.lines e0.name hb3),pb hb6,AK (Ax (Ao hy12) 1 0),O1 (Gl hl13)])) (by kernel_rfl)) ?_ ?_ ?_ (fun v h=>by cases h;exact .outer (.GX k))
 rintro i5 w1_0 j5 hge hq
 exact BV (Aa 300 [pb (II hge)]) (by kernel_rfl) (hq (js 17 j5 [(16,.bool false)]))
 rintro i5 e5 w1_0 j5 r he5 hi5 mi5 k
 show GA  y3 e0 i5 e5 w1_0=some r→_
 unfold GA
 refine Aj ?_
 rintro ⟨y22a,y22b⟩ hy22
 dsimp only
 rintro ⟨⟩
 exact B4 Hd.Ac [fq (Am.EL source.kids),fq (Am.EL l13)] [bp (Am.pl e0),none,BD y3.Ah,AN y3.lines,AN y3.facts,br AZ 0 2 y22b,bp (Am.pl source)] (Aa 300 [pb (F5 hi5),CL (Bu .lost he5),AK (BN (BA hy22) 4 5 6 1 0),pi mi5]) (by kernel_rfl) (k (js 17 j5 [(16,.bool true)]))
 rintro w1_0_23 jx_23
 rintro ⟨⟩
 exact B4 Hd.Ac [fq (Am.EL source.kids)] [none,BD y3.Ah,AN y3.lines,AN y3.facts,br AZ 0 2 w1_0_23,bp (Am.pl source)] (BU 300 [pi mi0]) (by kernel_rfl) (k jx_23)
 rintro ⟨⟩
 exact B4 Hd.Ac [fq (Am.EL source.kids)] [none,BD y3.Ah,AN y3.lines,AN y3.facts,br AZ 0 2 w1_0,bp (Am.pl source)] (Aa 300 (o1++[pn hb2,pi mi0])) (by kernel_rfl) (k (js 17 j0 [(6,.bool true),(7,.bool true)]))
 rintro w1_0_24 jx_24
 intro h
 have hE:=Option.some.inj h
 subst hE
 exact AA (v:=.sl (.row 0 2) w1_0_24.length (rows DX w1_0_24)) _ _ (BU 300 []) (by kernel_rfl) .body (.wn (.s rfl .nil) (AZ.EL w1_0_24))
 subst hv
 intro h
 have hE:=Option.some.inj h
 subst hE
 exact AA (v:=.sl .full 1 [.sc (.int .i64 1),.sc (.int .i64 0)]) _ _ (Aa 300 [pn hb1,Ak (DO hy1)]) (by kernel_rfl) .body (.wn (.d (.r (.r .nil)) (AZ.eq [(⟨1,0⟩:Dg)]).symm .nil) (AZ.EL [(⟨1,0⟩:Dg)]))
 intro h
 have hE:=Option.some.inj h
 subst hE
 exact AA (v:=.sl .full 1 [.sc (.int .i64 1),.sc (.int .i64 0)]) _ _ (Aa 300 [pn hb1]) (by kernel_rfl) .body (.wn (.d (.r (.r .nil)) (AZ.eq [(⟨1,0⟩:Dg)]).symm .nil) (AZ.EL [(⟨1,0⟩:Dg)]))
end Mo
end Go.Proofs.YtkfplcngmiljaaaGreatDoor
