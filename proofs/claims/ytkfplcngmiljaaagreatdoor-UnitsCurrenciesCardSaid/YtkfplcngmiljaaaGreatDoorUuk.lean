/- Part of a proof: see the last text. -/
import Derived.Test.YtkfplcngmiljaaaGreatDoorUuj
set_option linter.unusedVariables false
set_option linter.unusedSimpArgs false
namespace Go.Proofs.YtkfplcngmiljaaaGreatDoor
open AI Go
namespace Mo
set_option maxRecDepth 100000
set_option maxHeartbeats 4000000
noncomputable def DD  (depth:Int) (i0:Nat) (e0:Nd) (w0_0:Int):Option (Lp Int Int (Bool×Int)):=(Cj (⟨w0_0⟩:Ck) e0 depth).bind fun (y1a,y1b)=>cond y1a (some (.nx y1b)) (some (.rt (false,y1b)))
noncomputable def CV  (c:Ck) (list:(List Nd)) (depth:Int):Option (Bool×Int):=(Gy list.length (AT (fun i y x=>DD  depth i y x) (fun x=>x) (list.drop 0) 0 c.nodes)).bind (GA (fun (w0_0_2:Int)=>some (true,w0_0_2)) (fun v=>some v))
theorem IF {c:Ck} {list:(List Nd)} {depth:Int} {yR:Bool} {qc_nodesR:Int} (hS:Sound P G (.call 52 [.ptr 0 0,.sl .lost list.length (A7 list),.sc (.int .i64 depth),.fn (.func 53) [.ptr 0 0] []] ⟨[(0,.cells (EP c))],1,[],0⟩ (.ret (.sc (.bool yR))) ⟨[(0,.cells [.sc (.int .i64 qc_nodesR)])],1,[],0⟩)) (u0:Nat) (hnb:[u0].Nodup:=by decide) (hnt:([]:List Nat).Nodup:=by decide):Cd.ok P G (.callU 52 [.ptr u0 0,.sl .lost list.length (A7 list),.sc (.int .i64 depth),.fn (.func 53) [.ptr u0 0] []] (.ret (.sc (.bool yR))) [(u0,.cells (EP c))] [] [(u0,.cells [.sc (.int .i64 qc_nodesR)])] []) :=
 ER (M:=[.cells (EP c)]) (M2:=[.cells [.sc (.int .i64 qc_nodesR)]]) (T:=[]) (T2:=[]) (k:=1) (j:=0) Hd.Ac _ _ _ _ hS rfl rfl rfl rfl rfl hnb hnt rfl rfl (.cons (.cells (.pl (J2.pl c))) .nil) (.cons (.cells (.pl (Bo rfl rfl))) .nil) (.cons (.ptr (by decide)) (.cons (.pl (Am.EH list)) (.cons (.pl rfl) (.cons (.fn (.cons (.ptr (by decide)) .nil) (.pl rfl)) .nil)))) (.pl rfl) (fun e he=>by simp only [List.mem_singleton] at he;subst he;exact (.arg (.here .ptr)))
theorem Hj   {c:Ck} {list:(List Nd)} {depth:Int} {yR:Bool} {qc_nodesR:Int} (h:CV  c list depth=some (yR,qc_nodesR)):Sound P G (.call 52 [.ptr 0 0,.sl .lost list.length (A7 list),.sc (.int .i64 depth),.fn (.func 53) [.ptr 0 0] []] ⟨[(0,.cells (EP c))],1,[],0⟩ (.ret (.sc (.bool yR))) ⟨[(0,.cells [.sc (.int .i64 qc_nodesR)])],1,[],0⟩):=by
 unfold CV at h
 refine EY Hd.mixed (AJ Tryz.func52 tH ?_)
 revert h
 refine DQ (fun Q v=>Jp P G Tryz.f52 1 ⟨[(0,.cells (EP c))],1,[],0⟩ Q (.sc (.bool v.1)) ⟨[(0,.cells [.sc (.int .i64 v.2)])],1,[],0⟩) (fun i0 (w0_0:Int) (j0:List Value)=>fr 23 [(2,.sc (.int .i64 depth)),(3,.fn (.func 53) [.ptr 0 0] []),(11,.sl .lost list.length (A7 list)),(12,.sc (.int .i64 ((list.length:Nat):Int))),(13,.sc (.int .i64 ((i0:Nat):Int)))] [8,14,20,21] j0) (fun (w0_0:Int)=>⟨[(0,.cells [.sc (.int .i64 w0_0)])],1,[],0⟩) (fun (w0_0:Int) (jx:List Value)=>fr 23 [] [8,14,20,21] jx) (fun (w0_0:Int)=>⟨[(0,.cells [.sc (.int .i64 w0_0)])],1,[],0⟩) [.bool false] (DI [] 0 (sb cJ 52) [.code (sb cJ 7)] (Aa 300 []) (by kernel_rfl)) ?_ ?_ ?_ (fun v h=>by cases h;exact .outer .body)
 rintro i0 w0_0 j0 hge hq
 exact B8 (Aa 300 [pb (IG hge)]) (by kernel_rfl) (hq (js 4 j0 [(1,.bool false)]))
 rintro i0 e0 w0_0 j0 r he0 hi0 mi0 k
 show DD  depth i0 e0 w0_0=some r→_
 unfold DD
 refine Aj ?_
 rintro ⟨y1a,y1b⟩ hy1
 dsimp only
 let o1:List (PC P G):=[pb (F6 hi0),CP (Bz .lost he0),AK (J6 (IZ hy1) 0)]
 refine Ae (fun hv=>?_) fun hv=>?_
 subst hv
 rintro ⟨⟩
 exact B7 Hd.Ac [fq (Am.EH list)] [none] (Aa 300 (o1++[pi mi0])) (by kernel_rfl) (k [(jv j0 0),.bool true,.bool true,.bool false])
 subst hv
 rintro ⟨⟩
 exact Aq Hd.Ac _ _ [] [none] (Aa 300 o1) (by kernel_rfl) (.GX k)
 rintro w0_0_2 jx_2
 intro h
 have hE:=Option.some.inj h
 obtain ⟨hE0,hF0⟩:=Prod.mk.inj hE
 subst hE0 hF0
 exact Aq Hd.Ac _ _ [] [none] (BX 300 []) (by kernel_rfl) .body
noncomputable def zQ:Code:=A4 Tryz.f29
theorem b29:Tryz.f29.body=some zQ:=by kernel_rfl
noncomputable def DA  (n:Nd):Option Bool:=cond (Bs n.kind 1) ((Bg (⟨0⟩:Ck) n 1).bind fun (y1a,y1b)=>cond y1a ((A6 n (⟨0,ByteArray.empty,ByteArray.empty,0,0,0,0,(⟨0,[]⟩:Fn),[],0⟩:Nd)).bind fun y2=>cond y2 ((CV (⟨y1b⟩:Ck) n.kids 2).bind fun (y3a,y3b)=>some y3a) (some false)) (some false)) ((DF (⟨0⟩:Ck) n 1).bind fun (y4a,y4b)=>some y4a)
theorem DT   {n:Nd} {yR:Bool} (h:DA  n=some yR):Pure P G 29 [.agg (Ba n)] (.sc (.bool yR)):=by
 unfold DA at h
 refine BK Hd.mixed Hd.Ac (AJ Tryz.func29 b29 ?_) (Bo (Am.F0 n) rfl) rfl
 revert h
 refine Ae (fun hb1=>?_) fun hb1=>?_
 refine Aj ?_
 rintro ⟨y1a,y1b⟩ hy1
 dsimp only
 let o1:List (PC P G):=[pn hb1,AK (CY (Cn hy1) 1)]
 refine Ae (fun hv=>?_) fun hv=>?_
 subst hv
 refine Aj fun y2 hy2=>?_
 let o2:List (PC P G):=o1++[El (.r (.g (.r (.r (.r (.r (.r (.r (.r (.r (.z (.z (.r .nil))))))))))) .nil)) (A5 hy2)]
 refine Ae (fun hv=>?_) fun hv=>?_
 subst hv
 refine Aj ?_
 rintro ⟨y3a,y3b⟩ hy3
 dsimp only
 intro h
 have hE:=Option.some.inj h
 subst hE
 exact rS (Aa 300 (o2++[AK (IF (Hj hy3) 1)])) (by kernel_rfl)
 subst hv
 rintro ⟨⟩
 exact rS (Aa 300 o2) (by kernel_rfl)
 subst hv
 rintro ⟨⟩
 exact rS (Aa 300 o1) (by kernel_rfl)
 refine Aj ?_
 rintro ⟨y4a,y4b⟩ hy4
 dsimp only
 intro h
 have hE:=Option.some.inj h
 subst hE
 exact rS (Aa 300 [pn hb1,AK (AL (Gg hy4) 1)]) (by kernel_rfl)
noncomputable def B30:Code:=A4 Tryz.f30
theorem b30:Tryz.f30.body=some B30:=by kernel_rfl
noncomputable def Dd  :Option Unit:=some ()
theorem IT  (hS:Sound P G (.call 30 [] ⟨[],0,[],0⟩ (.ret (.Br [.ptr 0 0,.fn (.func 54) [] [.ptr 0 0]])) ⟨[(0,.cells [.sl .full 0 []])],1,[],0⟩)) (nx nr:Nat):Cd.ok P G (.callN 30 [] nx nr (.Br [.ptr (nx+0) 0,.fn (.func 54) [] [.ptr (nx+0) 0]]) [((nx+0),.cells [.sl .full 0 []])] 1 [] 0) :=
 YB Hd.Ac hS rfl (.Br (.cons (.ptr (by decide)) (.cons (.fn (.pl rfl) (.cons (.ptr (by decide)) .nil)) .nil))) (.cons (.cells (.pl (Bo (iN rfl) rfl))) .nil)
theorem Hc  (h:Dd =some ()):Sound P G (.call 30 [] ⟨[],0,[],0⟩ (.ret (.Br [.ptr 0 0,.fn (.func 54) [] [.ptr 0 0]])) ⟨[(0,.cells [.sl .full 0 []])],1,[],0⟩):=by
 unfold Dd at h
 refine Zz Hd.mixed (S9 (m:=1) Tryz.func30 b30 ?_)
 revert h
 intro h
 exact UX (n:=1) (m0:=0) Hd.Ac _ _ [0] [1] [⟨.Br [.ptr 0 0,.fn (.func 54) [] [.ptr 0 0]],.Br [.ptr 0 0,.fn (.func 54) [] [.ptr 0 0]],(.under (oT rfl (oT (vL rfl (oT rfl rfl)) rfl)))⟩] [fbp [.sl .full 0 []] (Bo (iN rfl) rfl)] _ _ (Aa 300 []) (Nat.zero_le _) (Nat.zero_le _) (by kernel_rfl) .body
noncomputable def uO:Code:=A4 Tryz.f31
theorem b31:Tryz.f31.body=some uO:=by kernel_rfl
noncomputable def Db   (i0:Nat) (e0:Nd) (w2_m:(Mm ByteArray ByteArray)) (w3_m:(Mm ByteArray ByteArray)) (w4_m:(Mm Int ByteArray)):Option (Lp ((Mm ByteArray ByteArray)×(Mm ByteArray ByteArray)×(Mm Int ByteArray)) ((Mm ByteArray ByteArray)×(Mm ByteArray ByteArray)×(Mm Int ByteArray)) Sc):=cond (Bs e0.kind 2) (cond ((w2_m.get e0.name).isSome) (some (.nx (w2_m,w3_m,w4_m))) (some (.nx ((w2_m.set e0.name e0.unit),w3_m,w4_m)))) (cond (Bs e0.kind 3) (cond ((w3_m.get e0.name).isSome) (some (.nx (w2_m,w3_m,w4_m))) (some (.nx (w2_m,(w3_m.set e0.name e0.unit),w4_m)))) (cond (Bs e0.kind 4) (cond ((w4_m.get e0.n).isSome) (some (.nx (w2_m,w3_m,w4_m))) (some (.nx (w2_m,w3_m,(w4_m.set e0.n e0.name))))) (some (.nx (w2_m,w3_m,w4_m)))))
noncomputable def Dv  (source:Nd):Option Sc:=(Gy source.kids.length (AT (fun i y x=>Db   i y x.1 x.2.1 x.2.2) (fun x=>(x.1,x.2.1,x.2.2)) (source.kids.drop 0) 0 ((Mm.nil:Mm ByteArray ByteArray),(Mm.nil:Mm ByteArray ByteArray),(Mm.nil:Mm Int ByteArray)))).bind (GA (fun ((w2_m_1,w3_m_1,w4_m_1):((Mm ByteArray ByteArray)×(Mm ByteArray ByteArray)×(Mm Int ByteArray)))=>some (⟨w2_m_1,w3_m_1,w4_m_1⟩:Sc)) (fun v=>some v))
theorem Ji {source:Nd} {y0R:Sc} (hS:Sound P G (.call 31 [.agg (Ba source)] ⟨[],0,[],0⟩ (.ret (.agg [.mp 2,.mp 3,.mp 4])) ⟨[(4,(CO y0R.Ah)),(3,(A9 y0R.lines)),(2,(A9 y0R.facts))],5,[],0⟩)) (nx nr:Nat):Cd.ok P G (.callN 31 [.agg (Ba source)] nx nr (.agg [.mp (nx+2),.mp (nx+3),.mp (nx+4)]) [((nx+4),(CO y0R.Ah)),((nx+3),(A9 y0R.lines)),((nx+2),(A9 y0R.facts))] 5 [] 0) :=
 YB Hd.Ac hS (Bo (Am.F0 source) rfl) (.agg (.cons (.mp (by decide)) (.cons (.mp (by decide)) (.cons (.mp (by decide)) .nil)))) (.cons (Ic (fun _=>rfl)) (.cons (Ic (fun _=>rfl)) (.cons (Ic (fun _=>rfl)) .nil)))
theorem Ht {source:Nd} {y0R:Sc} (h:Dv source=some y0R):Sound P G (.call 31 [.agg (Ba source)] ⟨[],0,[],0⟩ (.ret (.agg [.mp 2,.mp 3,.mp 4])) ⟨[(4,(CO y0R.Ah)),(3,(A9 y0R.lines)),(2,(A9 y0R.facts))],5,[],0⟩):=by
 unfold Dv at h
 refine Zz Hd.mixed (S9 (m:=5) Tryz.func31 b31 ?_)
 revert h
 refine DQ (fun Q v=>Jp P G Tryz.f31 5 ⟨[],0,[],0⟩ Q (.agg [.mp 2,.mp 3,.mp 4]) ⟨[(4,(CO v.Ah)),(3,(A9 v.lines)),(2,(A9 v.facts))],5,[],0⟩) (fun i0 ((w2_m,w3_m,w4_m):((Mm ByteArray ByteArray)×(Mm ByteArray ByteArray)×(Mm Int ByteArray))) (j0:List Value)=>fr 81 [(2,.ptr 1 0),(3,.ptr 5 0),(17,.sl .lost source.kids.length (A7 source.kids)),(18,.sc (.int .i64 ((source.kids.length:Nat):Int))),(19,.sc (.int .i64 ((i0:Nat):Int)))] [7,9,11,20,25,26,34,35,36,43,44,52,53,54,61,62,70,71,72] j0) (fun ((w2_m,w3_m,w4_m):((Mm ByteArray ByteArray)×(Mm ByteArray ByteArray)×(Mm Int ByteArray)))=>⟨[(5,.cells [.mp 2,.mp 3,.mp 4]),(4,(CO w4_m)),(3,(A9 w3_m)),(2,(A9 w2_m)),(1,.cells [.sc (.map none),.sc (.map none),.sc (.map none)]),(0,.cells (Ba source))],6,[],0⟩) (fun ((w2_m,w3_m,w4_m):((Mm ByteArray ByteArray)×(Mm ByteArray ByteArray)×(Mm Int ByteArray))) (jx:List Value)=>fr 81 [(2,.ptr 1 0),(3,.ptr 5 0)] [7,9,11,20,25,26,34,35,36,43,44,52,53,54,61,62,70,71,72] jx) (fun ((w2_m,w3_m,w4_m):((Mm ByteArray ByteArray)×(Mm ByteArray ByteArray)×(Mm Int ByteArray)))=>⟨[(5,.cells [.mp 2,.mp 3,.mp 4]),(4,(CO w4_m)),(3,(A9 w3_m)),(2,(A9 w2_m)),(1,.cells [.sc (.map none),.sc (.map none),.sc (.map none)]),(0,.cells (Ba source))],6,[],0⟩) [] (DI [] 0 (sb uO 116) [.code (sb uO 15)] (Aa 300 []) (by kernel_rfl)) ?_ ?_ ?_ (fun v h=>by cases h;exact .outer .body)
 rintro i0 ⟨w2_m,w3_m,w4_m⟩ j0 hge hq
 exact B8 (Aa 300 [pb (IG hge)]) (by kernel_rfl) (hq (js 19 j0 [(3,.bool false)]))
 rintro i0 e0 ⟨w2_m,w3_m,w4_m⟩ j0 r he0 hi0 mi0 k
 show Db   i0 e0 w2_m w3_m w4_m=some r→_
 unfold Db
 let o1:List (PC P G):=[pb (F6 hi0),CP (Bz .lost he0)]
 refine Ae (fun hb1=>?_) fun hb1=>?_
 refine Ae (fun hb2=>?_) fun hb2=>?_
 rintro ⟨⟩
 exact B7 Hd.Ac [fq (Am.EH source.kids)] [none,BE w4_m,AO w3_m,AO w2_m,none,bp (Am.pl source)] (Aa 300 (o1++[pb hb1,J9 (Pe w2_m e0.name hb2),pi mi0])) (by kernel_rfl) (k (js 19 j0 [(0,.bool true),(3,.bool true),(4,.bool true),(5,.bool true),(6,.bool true),(7,.bool true),(8,.bool false)]))
 rintro ⟨⟩
 exact B7 Hd.Ac [fq (Am.EH source.kids)] [none,BE w4_m,AO w3_m,AO (w2_m.set e0.name e0.unit),none,bp (Am.pl source)] (Aa 300 (o1++[pb hb1,J9 (Pe w2_m e0.name hb2),VP (pE w2_m e0.name e0.unit),pi mi0])) (by kernel_rfl) (k (js 19 j0 [(0,.bool false),(3,.bool true),(4,.bool true),(5,.bool true),(6,.bool false),(7,.bool false),(8,.bool true)]))
 refine Ae (fun hb3=>?_) fun hb3=>?_
 refine Ae (fun hb4=>?_) fun hb4=>?_
 rintro ⟨⟩
 exact B7 Hd.Ac [fq (Am.EH source.kids)] [none,BE w4_m,AO w3_m,AO w2_m,none,bp (Am.pl source)] (Aa 300 (o1++[pb hb1,pb hb3,J9 (Pe w3_m e0.name hb4),pi mi0])) (by kernel_rfl) (k (js 19 j0 [(1,.bool true),(3,.bool true),(4,.bool false),(5,.bool false),(9,.bool true),(10,.bool true),(11,.bool true),(12,.bool true),(13,.bool false)]))
 rintro ⟨⟩
 exact B7 Hd.Ac [fq (Am.EH source.kids)] [none,BE w4_m,AO (w3_m.set e0.name e0.unit),AO w2_m,none,bp (Am.pl source)] (Aa 300 (o1++[pb hb1,pb hb3,J9 (Pe w3_m e0.name hb4),VP (pE w3_m e0.name e0.unit),pi mi0])) (by kernel_rfl) (k (js 19 j0 [(1,.bool false),(3,.bool true),(4,.bool false),(5,.bool false),(9,.bool true),(10,.bool true),(11,.bool false),(12,.bool false),(13,.bool true)]))
 refine Ae (fun hb5=>?_) fun hb5=>?_
 refine Ae (fun hb6=>?_) fun hb6=>?_
 rintro ⟨⟩
 exact B7 Hd.Ac [fq (Am.EH source.kids)] [none,BE w4_m,AO w3_m,AO w2_m,none,bp (Am.pl source)] (Aa 300 (o1++[pb hb1,pb hb3,pb hb5,J9 (VD w4_m e0.n hb6),pi mi0])) (by kernel_rfl) (k (js 19 j0 [(2,.bool true),(3,.bool true),(4,.bool false),(5,.bool false),(9,.bool false),(10,.bool false),(14,.bool true),(15,.bool true),(16,.bool true),(17,.bool true),(18,.bool false)]))
 rintro ⟨⟩
 exact B7 Hd.Ac [fq (Am.EH source.kids)] [none,BE (w4_m.set e0.n e0.name),AO w3_m,AO w2_m,none,bp (Am.pl source)] (Aa 300 (o1++[pb hb1,pb hb3,pb hb5,J9 (VD w4_m e0.n hb6),VP (wM w4_m e0.n e0.name),pi mi0])) (by kernel_rfl) (k (js 19 j0 [(2,.bool false),(3,.bool true),(4,.bool false),(5,.bool false),(9,.bool false),(10,.bool false),(14,.bool true),(15,.bool true),(16,.bool false),(17,.bool false),(18,.bool true)]))
 rintro ⟨⟩
 exact B7 Hd.Ac [fq (Am.EH source.kids)] [none,BE w4_m,AO w3_m,AO w2_m,none,bp (Am.pl source)] (Aa 300 (o1++[pb hb1,pb hb3,pb hb5,pi mi0])) (by kernel_rfl) (k (js 19 j0 [(3,.bool true),(4,.bool false),(5,.bool false),(9,.bool false),(10,.bool false),(14,.bool false),(15,.bool false)]))
 rintro ⟨w2_m_1,w3_m_1,w4_m_1⟩ jx_1
 dsimp only
 intro h
 have hE:=Option.some.inj h
 subst hE
 exact UX (n:=5) (m0:=0) Hd.Ac _ _ [4,3,2] [1] [⟨.agg [.mp 2,.mp 3,.mp 4],.agg [.mp 2,.mp 3,.mp 4],(.under (oT rfl (oT rfl (oT rfl rfl))))⟩] [⟨(CO w4_m_1),(CO w4_m_1),(JC (fun _=>rfl))⟩,⟨(A9 w3_m_1),(A9 w3_m_1),(JC (fun _=>rfl))⟩,⟨(A9 w2_m_1),(A9 w2_m_1),(JC (fun _=>rfl))⟩] _ _ (BX 300 []) (Nat.zero_le _) (Nat.zero_le _) (by kernel_rfl) .body
noncomputable def B56:Code:=A4 Tryz.f56
theorem b56:Tryz.f56.body=some B56:=by kernel_rfl
noncomputable def DW  (unit:ByteArray):Option Bool:=cond (BJ unit.data.toList ByteArray.empty.data.toList) (some false) (cond (BJ unit.data.toList A3.data.toList) (some false) (cond (BJ unit.data.toList By.data.toList) (some false) (cond (BJ unit.data.toList Cm.data.toList) (some false) (some true))))
theorem Ea   {unit:ByteArray} {yR:Bool} (h:DW  unit=some yR):Pure P G 56 [.sc (.string unit)] (.sc (.bool yR)):=by
 unfold DW at h
 refine BK Hd.mixed Hd.Ac (AJ Tryz.func56 b56 ?_) (Bo rfl rfl) rfl
 revert h
 refine Ae (fun hb1=>?_) fun hb1=>?_
 rintro ⟨⟩
 exact rS (Aa 300 [pb hb1]) (by kernel_rfl)
 refine Ae (fun hb2=>?_) fun hb2=>?_
 rintro ⟨⟩
 exact rS (Aa 300 [pb hb1,pb hb2]) (by kernel_rfl)
 refine Ae (fun hb3=>?_) fun hb3=>?_
 rintro ⟨⟩
 exact rS (Aa 300 [pb hb1,pb hb2,pb hb3]) (by kernel_rfl)
 refine Ae (fun hb4=>?_) fun hb4=>?_
 rintro ⟨⟩
 exact rS (Aa 300 [pb hb1,pb hb2,pb hb3,pb hb4]) (by kernel_rfl)
 rintro ⟨⟩
 exact rS (Aa 300 [pb hb1,pb hb2,pb hb3,pb hb4]) (by kernel_rfl)
noncomputable def u6:Code:=A4 Tryz.f85
theorem b85:Tryz.f85.body=some u6:=by kernel_rfl
noncomputable def B55:Code:=A4 Tryz.f55
theorem b55:Tryz.f55.body=some B55:=by kernel_rfl
noncomputable def B54:Code:=A4 Tryz.f54
theorem b54:Tryz.f54.body=some B54:=by kernel_rfl
noncomputable def An  (err:Int) (at_:Int) (a2:(List Dg)):Option (Unit×(List Dg)):=cond (FQ ((a2.length:Nat):Int) 20) (LZ (a2.length+1) (some ((),(a2++[(⟨err,at_⟩:Dg)])))) (some ((),a2))
theorem Ax {err:Int} {at_:Int} {a2:(List Dg)} {qa2R:(List Dg)} (hS:Sound P G (.call 54 [.sc (.int .i64 err),.sc (.int .i64 at_),.ptr 0 0] ⟨[(0,.cells [.sl (.row 0 2) a2.length (rows DZ a2)])],1,[(0,a2.length)],1⟩ (.ret (.Br [])) ⟨[(0,.cells [.sl (.row 0 2) qa2R.length (rows DZ qa2R)])],1,[(0,qa2R.length)],1⟩)) (u0 v0:Nat) (hnb:[u0].Nodup:=by decide) (hnt:([v0]:List Nat).Nodup:=by decide):Cd.ok P G (.callU 54 [.sc (.int .i64 err),.sc (.int .i64 at_),.ptr u0 0] (.ret (.Br [])) [(u0,.cells [.sl (.row v0 2) a2.length (rows DZ a2)])] [(v0,a2.length)] [(u0,.cells [.sl (.row v0 2) qa2R.length (rows DZ qa2R)])] [(v0,qa2R.length)]) :=
 ER (M:=[.cells [.sl (.row 0 2) a2.length (rows DZ a2)]]) (M2:=[.cells [.sl (.row 0 2) qa2R.length (rows DZ qa2R)]]) (T:=[a2.length]) (T2:=[qa2R.length]) (k:=1) (j:=1) Hd.Ac _ _ _ _ hS rfl rfl rfl rfl rfl hnb hnt rfl rfl (.cons (.cells (.cons (.row (by decide) (AZ.Bo a2)) .nil)) .nil) (.cons (.cells (.cons (.row (by decide) (AZ.Bo qa2R)) .nil)) .nil) (.cons (.pl rfl) (.cons (.pl rfl) (.cons (.ptr (by decide)) .nil))) (.pl rfl) (fun e he=>by simp only [List.mem_singleton] at he;subst he;exact (.arg (.there (.there (.here .ptr)))))
theorem Ao   {err:Int} {at_:Int} {a2:(List Dg)} {yR:Unit} {qa2R:(List Dg)} (h:An  err at_ a2=some (yR,qa2R)):Sound P G (.call 54 [.sc (.int .i64 err),.sc (.int .i64 at_),.ptr 0 0] ⟨[(0,.cells [.sl (.row 0 2) a2.length (rows DZ a2)])],1,[(0,a2.length)],1⟩ (.ret (.Br [])) ⟨[(0,.cells [.sl (.row 0 2) qa2R.length (rows DZ qa2R)])],1,[(0,qa2R.length)],1⟩):=by
 unfold An at h
 refine EY Hd.mixed (AJ Tryz.func54 b54 ?_)
 revert h
 refine Ae (fun hb1=>?_) fun hb1=>?_
 refine Hs fun hl1=>?_
 intro h
 have hE:=Option.some.inj h
 obtain ⟨hE0,hF0⟩:=Prod.mk.inj hE
 subst hE0 hF0
 exact Ky Hd.Ac _ _ [⟨.Br [],.Br [],(.plain rfl)⟩] [br AZ 0 2 (a2++[(⟨err,at_⟩:Dg)])] (Aa 300 [pb hb1,KX (qY (.row 0 2) a2 [(⟨err,at_⟩:Dg)] (o:=.full) (n:=1) (ns:=[.sc (.int .i64 err),.sc (.int .i64 at_)]) (AZ.wn [(⟨err,at_⟩:Dg)] (.r (.r .nil))) rfl rfl (by simp) (by simpa using hl1))]) (by kernel_rfl)
 intro h
 have hE:=Option.some.inj h
 obtain ⟨hE0,hF0⟩:=Prod.mk.inj hE
 subst hE0 hF0
 exact Ky Hd.Ac _ _ [⟨.Br [],.Br [],(.plain rfl)⟩] [br AZ 0 2 a2] (Aa 300 [pb hb1]) (by kernel_rfl)
noncomputable def FR  (units:Nat) (AM:(List ByteArray)) (i0:Nat) :Option (Lp Unit Unit Bool):=(AM[i0]?).bind fun x1=>(Lm units ((0:Nat):Int)).bind fun k2=>(AM[k2]?).bind fun x3=>cond (BJ x1.data.toList x3.data.toList) (some (.nx ())) (some (.rt false))
noncomputable def BL  (units:Nat) (AM:(List ByteArray)):Option Bool:=(Gy units (RF (fun i x=>FR  units AM i ) (fun x=>()) units 0 ())).bind (GA (fun (_:Unit)=>some true) (fun v=>some v))
theorem BN {units:Nat} {AM:(List ByteArray)} {yR:Bool} (hS:Sound P G (.call 85 [.msl 0 0 units] ⟨[(0,(.cells (rows Kv AM)))],1,[],0⟩ (.ret (.sc (.bool yR))) ⟨[(0,(.cells (rows Kv AM)))],1,[],0⟩)) (u0:Nat) (hnb:[u0].Nodup:=by decide) (hnt:([]:List Nat).Nodup:=by decide):Cd.ok P G (.callU 85 [.msl u0 0 units] (.ret (.sc (.bool yR))) [(u0,(.cells (rows Kv AM)))] [] [(u0,(.cells (rows Kv AM)))] []) :=
 ER (M:=[(.cells (rows Kv AM))]) (M2:=[(.cells (rows Kv AM))]) (T:=[]) (T2:=[]) (k:=1) (j:=0) Hd.Ac _ _ _ _ hS rfl rfl rfl rfl rfl hnb hnt rfl rfl (.cons (.cells (.pl (A8.Bo AM))) .nil) (.cons (.cells (.pl (A8.Bo AM))) .nil) (.cons (.msl (by decide)) .nil) (.pl rfl) (fun e he=>by simp only [List.mem_singleton] at he;subst he;exact (.arg (.here .msl)))
theorem Be   {units:Nat} {AM:(List ByteArray)} {yR:Bool} (h:BL  units AM=some yR):Sound P G (.call 85 [.msl 0 0 units] ⟨[(0,(.cells (rows Kv AM)))],1,[],0⟩ (.ret (.sc (.bool yR))) ⟨[(0,(.cells (rows Kv AM)))],1,[],0⟩):=by
 unfold BL at h
 refine EY Hd.mixed (AJ Tryz.func85 b85 ?_)
 revert h
 refine wC (fun Q v=>Jp P G Tryz.f85 1 ⟨[(0,(.cells (rows Kv AM)))],1,[],0⟩ Q (.sc (.bool v)) ⟨[(0,(.cells (rows Kv AM)))],1,[],0⟩) (fun i0 (_:Unit) (j0:List Value)=>fr 17 [(0,.msl 0 0 units),(5,.msl 0 0 units),(6,.sc (.int .i64 ((units:Nat):Int))),(7,.sc (.int .i64 ((i0:Nat):Int)))] [2,8,15] j0) (fun (_:Unit)=>⟨[(0,(.cells (rows Kv AM)))],1,[],0⟩) (fun (_:Unit) (jx:List Value)=>fr 17 [] [2,8,15] jx) (fun (_:Unit)=>⟨[(0,(.cells (rows Kv AM)))],1,[],0⟩) [.bool false] (DI [] 0 (sb u6 52) [.code (sb u6 7)] (Aa 300 []) (by kernel_rfl)) ?_ ?_ ?_ (fun v h=>by cases h;exact .outer .body)
 rintro ⟨⟩ j0 hge hq
 exact B8 (Aa 300 [pb (IG hge)]) (by kernel_rfl) (hq (js 3 j0 [(1,.bool false)]))
 rintro i0 ⟨⟩ j0 r hi0 mi0 k
 show FR  units AM i0 =some r→_
 unfold FR
 refine Aj fun x1 hx1=>?_
 refine Aj fun k2 hk2=>?_
 refine Aj fun x3 hx3=>?_
 let o1:List (PC P G):=[pb (F6 hi0),CP (Yg (id:=0) (n:=units) (i:=i0) (by have:=Nu (F6 hi0);omega)),gH (Ny hx1),CP (Nh (id:=0) hk2),gH (Ny hx3)]
 refine Ae (fun hb1=>?_) fun hb1=>?_
 rintro ⟨⟩
 exact De (Aa 300 (o1++[pn hb1,pi mi0])) (by kernel_rfl) (k [(jv j0 0),.bool true,.bool false])
 rintro ⟨⟩
 exact Aq Hd.Ac _ _ [] [bp (A8.Bo AM)] (Aa 300 (o1++[pn hb1])) (by kernel_rfl) (.GX k)
 rintro ⟨⟩ jx_4
 intro h
 have hE:=Option.some.inj h
 subst hE
 exact Aq Hd.Ac _ _ [] [bp (A8.Bo AM)] (BX 300 []) (by kernel_rfl) .body
noncomputable def Ce  (operator:ByteArray) (units:Nat) (AM:(List ByteArray)):Option ByteArray:=(Lm units ((0:Nat):Int)).bind fun k1=>(AM[k1]?).bind fun x2=>(Lm units (Rh ((units:Nat):Int) 1)).bind fun k3=>(AM[k3]?).bind fun x4=>cond (BJ operator.data.toList Sy.data.toList) (cond (BJ x2.data.toList A3.data.toList) ((BL units AM).bind fun y5=>cond y5 (some A3) (some ByteArray.empty)) (some ByteArray.empty)) (cond (BJ operator.data.toList IH.data.toList) (cond (BJ x2.data.toList A3.data.toList) ((BL units AM).bind fun y6=>cond y6 (some A3) (some ByteArray.empty)) (some ByteArray.empty)) (cond (BJ operator.data.toList Ir.data.toList) ((BL units AM).bind fun y7=>cond y7 (some A3) (some ByteArray.empty)) (cond (BJ operator.data.toList IB.data.toList) ((BL units AM).bind fun y8=>cond y8 (some A3) (some ByteArray.empty)) (cond (BJ operator.data.toList On.data.toList) ((BL units AM).bind fun y9=>cond y9 (cond (BJ x2.data.toList A3.data.toList) (some ByteArray.empty) (some A3)) (some ByteArray.empty)) (cond (BJ operator.data.toList Iz.data.toList) ((BL units AM).bind fun y10=>cond y10 (cond (BJ x2.data.toList A3.data.toList) (some ByteArray.empty) (some A3)) (some ByteArray.empty)) (cond (BJ operator.data.toList KV.data.toList) ((BL units AM).bind fun y11=>cond y11 (cond (BJ x2.data.toList A3.data.toList) (some ByteArray.empty) (some x2)) (some ByteArray.empty)) (cond (BJ operator.data.toList IY.data.toList) ((BL units AM).bind fun y12=>cond y12 (cond (BJ x2.data.toList A3.data.toList) (some ByteArray.empty) (some x2)) (some ByteArray.empty)) (cond (BJ operator.data.toList Oi.data.toList) (cond (BJ x2.data.toList By.data.toList) (cond (BJ x4.data.toList A3.data.toList) (some ByteArray.empty) (some x4)) (cond (BJ x4.data.toList By.data.toList) (cond (BJ x2.data.toList A3.data.toList) (some ByteArray.empty) (some x2)) (some ByteArray.empty))) (cond (BJ operator.data.toList Jo.data.toList) (cond (BJ x2.data.toList A3.data.toList) (some ByteArray.empty) (some x2)) (cond (BJ operator.data.toList R7.data.toList) (cond (BJ x2.data.toList Cm.data.toList) ((DW x4).bind fun y13=>cond y13 (some x4) (some ByteArray.empty)) (some ByteArray.empty)) (some ByteArray.empty)))))))))))
theorem Dy {operator:ByteArray} {units:Nat} {AM:(List ByteArray)} {yR:ByteArray} (hS:Sound P G (.call 55 [.sc (.string operator),.msl 0 0 units] ⟨[(0,(.cells (rows Kv AM)))],1,[],0⟩ (.ret (.sc (.string yR))) ⟨[(0,(.cells (rows Kv AM)))],1,[],0⟩)) (u0:Nat) (hnb:[u0].Nodup:=by decide) (hnt:([]:List Nat).Nodup:=by decide):Cd.ok P G (.callU 55 [.sc (.string operator),.msl u0 0 units] (.ret (.sc (.string yR))) [(u0,(.cells (rows Kv AM)))] [] [(u0,(.cells (rows Kv AM)))] []) :=
 ER (M:=[(.cells (rows Kv AM))]) (M2:=[(.cells (rows Kv AM))]) (T:=[]) (T2:=[]) (k:=1) (j:=0) Hd.Ac _ _ _ _ hS rfl rfl rfl rfl rfl hnb hnt rfl rfl (.cons (.cells (.pl (A8.Bo AM))) .nil) (.cons (.cells (.pl (A8.Bo AM))) .nil) (.cons (.pl rfl) (.cons (.msl (by decide)) .nil)) (.pl rfl) (fun e he=>by simp only [List.mem_singleton] at he;subst he;exact (.arg (.there (.here .msl))))
theorem CN   {operator:ByteArray} {units:Nat} {AM:(List ByteArray)} {yR:ByteArray} (h:Ce  operator units AM=some yR):Sound P G (.call 55 [.sc (.string operator),.msl 0 0 units] ⟨[(0,(.cells (rows Kv AM)))],1,[],0⟩ (.ret (.sc (.string yR))) ⟨[(0,(.cells (rows Kv AM)))],1,[],0⟩):=by
 unfold Ce at h
 refine EY Hd.mixed (AJ Tryz.func55 b55 ?_)
 revert h
 refine Aj fun k1 hk1=>?_
 refine Aj fun x2 hx2=>?_
 refine Aj fun k3 hk3=>?_
 refine Aj fun x4 hx4=>?_
 let o1:List (PC P G):=[CP (Nh (id:=0) hk1),gH (Ny hx2),pk,CP (Nh (id:=0) hk3),gH (Ny hx4)]
 refine Ae (fun hb1=>?_) fun hb1=>?_
 refine Ae (fun hb2=>?_) fun hb2=>?_
 refine Aj fun y5 hy5=>?_
 refine Ae (fun hv=>?_) fun hv=>?_
 subst hv
 intro h
 have hE:=Option.some.inj h
 subst hE
 exact Aq Hd.Ac _ _ [] [bp (A8.Bo AM)] (Aa 300 (o1++[pb hb1,pn hb2,AK (BN (Be hy5) 0)])) (by kernel_rfl) .body
 subst hv
 intro h
 have hE:=Option.some.inj h
 subst hE
 exact Aq Hd.Ac _ _ [] [bp (A8.Bo AM)] (Aa 300 (o1++[pb hb1,pn hb2,AK (BN (Be hy5) 0)])) (by kernel_rfl) .body
 intro h
 have hE:=Option.some.inj h
 subst hE
 exact Aq Hd.Ac _ _ [] [bp (A8.Bo AM)] (Aa 300 (o1++[pb hb1,pn hb2])) (by kernel_rfl) .body
 let o2:List (PC P G):=o1++[pb hb1]
 refine Ae (fun hb3=>?_) fun hb3=>?_
 refine Ae (fun hb4=>?_) fun hb4=>?_
 refine Aj fun y6 hy6=>?_
 refine Ae (fun hv=>?_) fun hv=>?_
 subst hv
 intro h
 have hE:=Option.some.inj h
 subst hE
 exact Aq Hd.Ac _ _ [] [bp (A8.Bo AM)] (Aa 300 (o2++[pb hb3,pn hb4,AK (BN (Be hy6) 0)])) (by kernel_rfl) .body
 subst hv
 intro h
 have hE:=Option.some.inj h
 subst hE
 exact Aq Hd.Ac _ _ [] [bp (A8.Bo AM)] (Aa 300 (o2++[pb hb3,pn hb4,AK (BN (Be hy6) 0)])) (by kernel_rfl) .body
 intro h
 have hE:=Option.some.inj h
 subst hE
 exact Aq Hd.Ac _ _ [] [bp (A8.Bo AM)] (Aa 300 (o2++[pb hb3,pn hb4])) (by kernel_rfl) .body
 let o3:List (PC P G):=o2++[pb hb3]
 refine Ae (fun hb5=>?_) fun hb5=>?_
 refine Aj fun y7 hy7=>?_
 refine Ae (fun hv=>?_) fun hv=>?_
 subst hv
 intro h
 have hE:=Option.some.inj h
 subst hE
 exact Aq Hd.Ac _ _ [] [bp (A8.Bo AM)] (Aa 300 (o3++[pb hb5,AK (BN (Be hy7) 0)])) (by kernel_rfl) .body
 subst hv
 intro h
 have hE:=Option.some.inj h
 subst hE
 exact Aq Hd.Ac _ _ [] [bp (A8.Bo AM)] (Aa 300 (o3++[pb hb5,AK (BN (Be hy7) 0)])) (by kernel_rfl) .body
 let o4:List (PC P G):=o3++[pb hb5]
 refine Ae (fun hb6=>?_) fun hb6=>?_
 refine Aj fun y8 hy8=>?_
 refine Ae (fun hv=>?_) fun hv=>?_
 subst hv
 intro h
 have hE:=Option.some.inj h
 subst hE
 exact Aq Hd.Ac _ _ [] [bp (A8.Bo AM)] (Aa 300 (o4++[pb hb6,AK (BN (Be hy8) 0)])) (by kernel_rfl) .body
 subst hv
 intro h
 have hE:=Option.some.inj h
 subst hE
 exact Aq Hd.Ac _ _ [] [bp (A8.Bo AM)] (Aa 300 (o4++[pb hb6,AK (BN (Be hy8) 0)])) (by kernel_rfl) .body
 let o5:List (PC P G):=o4++[pb hb6]
 refine Ae (fun hb7=>?_) fun hb7=>?_
 refine Aj fun y9 hy9=>?_
 let o6:List (PC P G):=o5++[pb hb7,AK (BN (Be hy9) 0)]
 refine Ae (fun hv=>?_) fun hv=>?_
 subst hv
 refine Ae (fun hb8=>?_) fun hb8=>?_
 intro h
 have hE:=Option.some.inj h
 subst hE
 exact Aq Hd.Ac _ _ [] [bp (A8.Bo AM)] (Aa 300 (o6++[pb hb8])) (by kernel_rfl) .body
 intro h
 have hE:=Option.some.inj h
 subst hE
 exact Aq Hd.Ac _ _ [] [bp (A8.Bo AM)] (Aa 300 (o6++[pb hb8])) (by kernel_rfl) .body
 subst hv
 intro h
 have hE:=Option.some.inj h
 subst hE
 exact Aq Hd.Ac _ _ [] [bp (A8.Bo AM)] (Aa 300 o6) (by kernel_rfl) .body
 let o7:List (PC P G):=o5++[pb hb7]
 refine Ae (fun hb9=>?_) fun hb9=>?_
 refine Aj fun y10 hy10=>?_
 let o8:List (PC P G):=o7++[pb hb9,AK (BN (Be hy10) 0)]
 refine Ae (fun hv=>?_) fun hv=>?_
 subst hv
 refine Ae (fun hb10=>?_) fun hb10=>?_
 intro h
 have hE:=Option.some.inj h
 subst hE
 exact Aq Hd.Ac _ _ [] [bp (A8.Bo AM)] (Aa 300 (o8++[pb hb10])) (by kernel_rfl) .body
 intro h
 have hE:=Option.some.inj h
 subst hE
 exact Aq Hd.Ac _ _ [] [bp (A8.Bo AM)] (Aa 300 (o8++[pb hb10])) (by kernel_rfl) .body
 subst hv
 intro h
 have hE:=Option.some.inj h
 subst hE
 exact Aq Hd.Ac _ _ [] [bp (A8.Bo AM)] (Aa 300 o8) (by kernel_rfl) .body
 let o9:List (PC P G):=o7++[pb hb9]
 refine Ae (fun hb11=>?_) fun hb11=>?_
 refine Aj fun y11 hy11=>?_
 let o10:List (PC P G):=o9++[pb hb11,AK (BN (Be hy11) 0)]
 refine Ae (fun hv=>?_) fun hv=>?_
 subst hv
 refine Ae (fun hb12=>?_) fun hb12=>?_
 intro h
 have hE:=Option.some.inj h
 subst hE
 exact Aq Hd.Ac _ _ [] [bp (A8.Bo AM)] (Aa 300 (o10++[pb hb12])) (by kernel_rfl) .body
 intro h
 have hE:=Option.some.inj h
 subst hE
 exact Aq Hd.Ac _ _ [] [bp (A8.Bo AM)] (Aa 300 (o10++[pb hb12])) (by kernel_rfl) .body
 subst hv
 intro h
 have hE:=Option.some.inj h
 subst hE
 exact Aq Hd.Ac _ _ [] [bp (A8.Bo AM)] (Aa 300 o10) (by kernel_rfl) .body
 let o11:List (PC P G):=o9++[pb hb11]
 refine Ae (fun hb13=>?_) fun hb13=>?_
 refine Aj fun y12 hy12=>?_
 let o12:List (PC P G):=o11++[pb hb13,AK (BN (Be hy12) 0)]
 refine Ae (fun hv=>?_) fun hv=>?_
 subst hv
 refine Ae (fun hb14=>?_) fun hb14=>?_
 intro h
 have hE:=Option.some.inj h
 subst hE
 exact Aq Hd.Ac _ _ [] [bp (A8.Bo AM)] (Aa 300 (o12++[pb hb14])) (by kernel_rfl) .body
 intro h
 have hE:=Option.some.inj h
 subst hE
 exact Aq Hd.Ac _ _ [] [bp (A8.Bo AM)] (Aa 300 (o12++[pb hb14])) (by kernel_rfl) .body
 subst hv
 intro h
 have hE:=Option.some.inj h
 subst hE
 exact Aq Hd.Ac _ _ [] [bp (A8.Bo AM)] (Aa 300 o12) (by kernel_rfl) .body
 let o13:List (PC P G):=o11++[pb hb13]
 refine Ae (fun hb15=>?_) fun hb15=>?_
 refine Ae (fun hb16=>?_) fun hb16=>?_
 refine Ae (fun hb17=>?_) fun hb17=>?_
 intro h
 have hE:=Option.some.inj h
 subst hE
 exact Aq Hd.Ac _ _ [] [bp (A8.Bo AM)] (Aa 300 (o13++[pb hb15,pb hb16,pb hb17])) (by kernel_rfl) .body
 intro h
 have hE:=Option.some.inj h
 subst hE
 exact Aq Hd.Ac _ _ [] [bp (A8.Bo AM)] (Aa 300 (o13++[pb hb15,pb hb16,pb hb17])) (by kernel_rfl) .body
 refine Ae (fun hb18=>?_) fun hb18=>?_
 refine Ae (fun hb19=>?_) fun hb19=>?_
 intro h
 have hE:=Option.some.inj h
 subst hE
 exact Aq Hd.Ac _ _ [] [bp (A8.Bo AM)] (Aa 300 (o13++[pb hb15,pb hb16,pn hb18,pb hb19])) (by kernel_rfl) .body
 intro h
 have hE:=Option.some.inj h
 subst hE
 exact Aq Hd.Ac _ _ [] [bp (A8.Bo AM)] (Aa 300 (o13++[pb hb15,pb hb16,pn hb18,pb hb19])) (by kernel_rfl) .body
 intro h
 have hE:=Option.some.inj h
 subst hE
 exact Aq Hd.Ac _ _ [] [bp (A8.Bo AM)] (Aa 300 (o13++[pb hb15,pb hb16,pn hb18])) (by kernel_rfl) .body
 refine Ae (fun hb20=>?_) fun hb20=>?_
 refine Ae (fun hb21=>?_) fun hb21=>?_
 intro h
 have hE:=Option.some.inj h
 subst hE
 exact Aq Hd.Ac _ _ [] [bp (A8.Bo AM)] (Aa 300 (o13++[pb hb15,pb hb20,pb hb21])) (by kernel_rfl) .body
 intro h
 have hE:=Option.some.inj h
 subst hE
 exact Aq Hd.Ac _ _ [] [bp (A8.Bo AM)] (Aa 300 (o13++[pb hb15,pb hb20,pb hb21])) (by kernel_rfl) .body
 refine Ae (fun hb22=>?_) fun hb22=>?_
 refine Ae (fun hb23=>?_) fun hb23=>?_
 refine Aj fun y13 hy13=>?_
 refine Ae (fun hv=>?_) fun hv=>?_
 subst hv
 intro h
 have hE:=Option.some.inj h
 subst hE
 exact Aq Hd.Ac _ _ [] [bp (A8.Bo AM)] (Aa 300 (o13++[pb hb15,pb hb20,pb hb22,pb hb23,Ak (Ea hy13)])) (by kernel_rfl) .body
 subst hv
 intro h
 have hE:=Option.some.inj h
 subst hE
 exact Aq Hd.Ac _ _ [] [bp (A8.Bo AM)] (Aa 300 (o13++[pb hb15,pb hb20,pb hb22,pb hb23,Ak (Ea hy13)])) (by kernel_rfl) .body
 intro h
 have hE:=Option.some.inj h
 subst hE
 exact Aq Hd.Ac _ _ [] [bp (A8.Bo AM)] (Aa 300 (o13++[pb hb15,pb hb20,pb hb22,pb hb23])) (by kernel_rfl) .body
 intro h
 have hE:=Option.some.inj h
 subst hE
 exact Aq Hd.Ac _ _ [] [bp (A8.Bo AM)] (Aa 300 (o13++[pb hb15,pb hb20,pb hb22])) (by kernel_rfl) .body
theorem DG {s:Sc} {e:Nd} {report:(List Dg)} {yR:ByteArray} {qreportR:(List Dg)} (hS:Sound P G (.call 32 [.agg [.mp 0,.mp 1,.mp 2],.agg (Ba e),.fn (.func 54) [] [.ptr 3 0]] ⟨[(3,.cells [.sl (.row 0 2) report.length (rows DZ report)]),(2,(CO s.Ah)),(1,(A9 s.lines)),(0,(A9 s.facts))],4,[(0,report.length)],1⟩ (.ret (.sc (.string yR))) ⟨[(3,.cells [.sl (.row 0 2) qreportR.length (rows DZ qreportR)]),(2,(CO s.Ah)),(1,(A9 s.lines)),(0,(A9 s.facts))],4,[(0,qreportR.length)],1⟩)) (u0 u1 u2 u3 v0:Nat) (hnb:[u0,u1,u2,u3].Nodup:=by decide) (hnt:([v0]:List Nat).Nodup:=by decide):Cd.ok P G (.callU 32 [.agg [.mp u0,.mp u1,.mp u2],.agg (Ba e),.fn (.func 54) [] [.ptr u3 0]] (.ret (.sc (.string yR))) [(u0,(A9 s.facts)),(u1,(A9 s.lines)),(u2,(CO s.Ah)),(u3,.cells [.sl (.row v0 2) report.length (rows DZ report)])] [(v0,report.length)] [(u0,(A9 s.facts)),(u1,(A9 s.lines)),(u2,(CO s.Ah)),(u3,.cells [.sl (.row v0 2) qreportR.length (rows DZ qreportR)])] [(v0,qreportR.length)]) :=
 ER (M:=[(A9 s.facts),(A9 s.lines),(CO s.Ah),.cells [.sl (.row 0 2) report.length (rows DZ report)]]) (M2:=[(A9 s.facts),(A9 s.lines),(CO s.Ah),.cells [.sl (.row 0 2) qreportR.length (rows DZ qreportR)]]) (T:=[report.length]) (T2:=[qreportR.length]) (k:=4) (j:=1) Hd.Ac _ _ _ _ hS rfl rfl rfl rfl rfl hnb hnt rfl rfl (.cons (Ic (fun _=>rfl)) (.cons (Ic (fun _=>rfl)) (.cons (Ic (fun _=>rfl)) (.cons (.cells (.cons (.row (by decide) (AZ.Bo report)) .nil)) .nil)))) (.cons (Ic (fun _=>rfl)) (.cons (Ic (fun _=>rfl)) (.cons (Ic (fun _=>rfl)) (.cons (.cells (.cons (.row (by decide) (AZ.Bo qreportR)) .nil)) .nil)))) (.cons (.agg (.cons (.mp (by decide)) (.cons (.mp (by decide)) (.cons (.mp (by decide)) .nil)))) (.cons (.pl (Am.F0 e)) (.cons (.fn (.pl rfl) (.cons (.ptr (by decide)) .nil)) .nil))) (.pl rfl) (by
   intro e he
   simp only [List.mem_cons,List.not_mem_nil,or_false] at he
   rcases he with rfl | rfl | rfl | rfl
   · exact (.arg (.here (.agg (.here .mp))))
   · exact (.arg (.here (.agg (.there (.here .mp)))))
   · exact (.arg (.here (.agg (.there (.there (.here .mp))))))
   · exact (.arg (.there (.there (.here (.fn2 (.here .ptr))))))
   )
noncomputable def uG:Code:=A4 Tryz.f32
theorem b32:Tryz.f32.body=some uG:=by kernel_rfl
noncomputable def Ca (BP:Sc→Nd→(List Dg)→Option (ByteArray×(List Dg))) (s:Sc) (i0:Nat) (e0:Nd) (whole8:Bool) (w6_l:(List ByteArray)) (w3_0:(List Dg)):Option (Lp (Bool×(List ByteArray)×(List Dg)) (Bool×(List ByteArray)×(List Dg)) (ByteArray×(List Dg))):=(BP s e0 w3_0).bind fun (y2a,y2b)=>(w6_l[i0]?).bind fun x3=>cond whole8 (((w6_l.set i0 y2a)[i0]?).bind fun x4=>cond (BJ x4.data.toList ByteArray.empty.data.toList) (some (.nx (false,(w6_l.set i0 y2a),y2b))) (some (.nx (true,(w6_l.set i0 y2a),y2b)))) (some (.nx (false,(w6_l.set i0 y2a),y2b)))
noncomputable def DH (BP:Sc→Nd→(List Dg)→Option (ByteArray×(List Dg))) (s:Sc) (e:Nd) (report:(List Dg)):Option (ByteArray×(List Dg)):=Z4 (e.kids.length) ((Gy e.kids.length (AT (fun i y x=>Ca BP s i y x.1 x.2.1 x.2.2) (fun x=>(x.1,x.2.1,x.2.2)) (e.kids.drop 0) 0 (true,(List.replicate e.kids.length ByteArray.empty),report))).bind (GA (fun ((whole8_5,w6_l_5,w3_0_5):(Bool×(List ByteArray)×(List Dg)))=>cond whole8_5 (cond (Bs e.kind 11) (cond (BJ e.unit.data.toList ByteArray.empty.data.toList) ((An 11 e.att w3_0_5).bind fun (y6a,y6b)=>some (e.unit,y6b)) (some (e.unit,w3_0_5))) (cond (Bs e.kind 12) (cond (BJ ((s.facts.get e.name).getD ByteArray.empty).data.toList ByteArray.empty.data.toList) ((An 91 e.att w3_0_5).bind fun (y7a,y7b)=>some (((s.facts.get e.name).getD ByteArray.empty),y7b)) (some (((s.facts.get e.name).getD ByteArray.empty),w3_0_5))) (cond (Bs e.kind 13) (cond (BJ ((s.lines.get ((s.Ah.get e.n).getD ByteArray.empty)).getD ByteArray.empty).data.toList ByteArray.empty.data.toList) ((An 91 e.att w3_0_5).bind fun (y8a,y8b)=>some (((s.lines.get ((s.Ah.get e.n).getD ByteArray.empty)).getD ByteArray.empty),y8b)) (some (((s.lines.get ((s.Ah.get e.n).getD ByteArray.empty)).getD ByteArray.empty),w3_0_5))) (cond (Bs e.kind 14) (cond (BJ By.data.toList ByteArray.empty.data.toList) ((An 11 e.att w3_0_5).bind fun (y9a,y9b)=>some (By,y9b)) (some (By,w3_0_5))) (cond (Bs e.kind 15) ((Ce IH e.kids.length w6_l_5).bind fun y10=>cond (BJ y10.data.toList ByteArray.empty.data.toList) ((An 11 e.att w3_0_5).bind fun (y11a,y11b)=>some (y10,y11b)) (some (y10,w3_0_5))) (cond (Bs e.kind 16) ((Ce e.name e.kids.length w6_l_5).bind fun y12=>cond (BJ y12.data.toList ByteArray.empty.data.toList) ((An 11 e.att w3_0_5).bind fun (y13a,y13b)=>some (y12,y13b)) (some (y12,w3_0_5))) (cond (Bs e.kind 17) ((Ce KV e.kids.length w6_l_5).bind fun y14=>cond (BJ y14.data.toList ByteArray.empty.data.toList) ((An 11 e.att w3_0_5).bind fun (y15a,y15b)=>some (y14,y15b)) (some (y14,w3_0_5))) (cond (Bs e.kind 18) ((Lm e.kids.length ((0:Nat):Int)).bind fun Vc=>(w6_l_5[Vc]?).bind fun x17=>(DW x17).bind fun y18=>cond y18 (cond (BJ x17.data.toList ByteArray.empty.data.toList) ((An 11 e.att w3_0_5).bind fun (y19a,y19b)=>some (x17,y19b)) (some (x17,w3_0_5))) (cond (BJ ByteArray.empty.data.toList ByteArray.empty.data.toList) ((An 11 e.att w3_0_5).bind fun (y20a,y20b)=>some (ByteArray.empty,y20b)) (some (ByteArray.empty,w3_0_5)))) (cond (BJ ByteArray.empty.data.toList ByteArray.empty.data.toList) ((An 11 e.att w3_0_5).bind fun (y21a,y21b)=>some (ByteArray.empty,y21b)) (some (ByteArray.empty,w3_0_5))))))))))) (some (ByteArray.empty,w3_0_5))) (fun v=>some v)))
theorem IU (BP:Sc→Nd→(List Dg)→Option (ByteArray×(List Dg))) (Jt:∀ {s:Sc} {e:Nd} {report:(List Dg)} {yR:ByteArray} {qreportR:(List Dg)},BP s e report=some (yR,qreportR)→Sound P G (.call 32 [.agg [.mp 0,.mp 1,.mp 2],.agg (Ba e),.fn (.func 54) [] [.ptr 3 0]] ⟨[(3,.cells [.sl (.row 0 2) report.length (rows DZ report)]),(2,(CO s.Ah)),(1,(A9 s.lines)),(0,(A9 s.facts))],4,[(0,report.length)],1⟩ (.ret (.sc (.string yR))) ⟨[(3,.cells [.sl (.row 0 2) qreportR.length (rows DZ qreportR)]),(2,(CO s.Ah)),(1,(A9 s.lines)),(0,(A9 s.facts))],4,[(0,qreportR.length)],1⟩)) {s:Sc} {e:Nd} {report:(List Dg)} {yR:ByteArray} {qreportR:(List Dg)} (h:DH BP s e report=some (yR,qreportR)):Sound P G (.call 32 [.agg [.mp 0,.mp 1,.mp 2],.agg (Ba e),.fn (.func 54) [] [.ptr 3 0]] ⟨[(3,.cells [.sl (.row 0 2) report.length (rows DZ report)]),(2,(CO s.Ah)),(1,(A9 s.lines)),(0,(A9 s.facts))],4,[(0,report.length)],1⟩ (.ret (.sc (.string yR))) ⟨[(3,.cells [.sl (.row 0 2) qreportR.length (rows DZ qreportR)]),(2,(CO s.Ah)),(1,(A9 s.lines)),(0,(A9 s.facts))],4,[(0,qreportR.length)],1⟩):=by
 unfold DH at h
 refine EY Hd.mixed (AJ Tryz.func32 b32 ?_)
 revert h
 refine qU fun hl1=>?_
 refine DQ (fun Q v=>Jp P G Tryz.f32 4 ⟨[(3,.cells [.sl (.row 0 2) report.length (rows DZ report)]),(2,(CO s.Ah)),(1,(A9 s.lines)),(0,(A9 s.facts))],4,[(0,report.length)],1⟩ Q (.sc (.string v.1)) ⟨[(3,.cells [.sl (.row 0 2) v.2.length (rows DZ v.2)]),(2,(CO s.Ah)),(1,(A9 s.lines)),(0,(A9 s.facts))],4,[(0,v.2.length)],1⟩) (fun i0 ((whole8,w6_l,w3_0):(Bool×(List ByteArray)×(List Dg))) (j0:List Value)=>fr 99 [(2,.fn (.func 54) [] [.ptr 3 0]),(3,.ptr 4 0),(4,.ptr 5 0),(7,.msl 6 0 e.kids.length),(8,.sc (.bool whole8)),(18,.sl .lost e.kids.length (A7 e.kids)),(19,.sc (.int .i64 ((e.kids.length:Nat):Int))),(20,.sc (.int .i64 ((i0:Nat):Int)))] [21,32,33,38,39,41,42,45,46,49,50,56,57,66,67,68,69,72,73,78,79,82,83,87,92] j0) (fun ((whole8,w6_l,w3_0):(Bool×(List ByteArray)×(List Dg)))=>⟨[(6,(.cells (rows Kv w6_l))),(5,.cells (Ba e)),(4,.cells [.mp 0,.mp 1,.mp 2]),(3,.cells [.sl (.row 0 2) w3_0.length (rows DZ w3_0)]),(2,(CO s.Ah)),(1,(A9 s.lines)),(0,(A9 s.facts))],7,[(0,w3_0.length)],1⟩) (fun ((whole8,w6_l,w3_0):(Bool×(List ByteArray)×(List Dg))) (jx:List Value)=>fr 99 [(2,.fn (.func 54) [] [.ptr 3 0]),(3,.ptr 4 0),(4,.ptr 5 0),(7,.msl 6 0 e.kids.length),(8,.sc (.bool whole8))] [21,32,33,38,39,41,42,45,46,49,50,56,57,66,67,68,69,72,73,78,79,82,83,87,92] jx) (fun ((whole8,w6_l,w3_0):(Bool×(List ByteArray)×(List Dg)))=>⟨[(6,(.cells (rows Kv w6_l))),(5,.cells (Ba e)),(4,.cells [.mp 0,.mp 1,.mp 2]),(3,.cells [.sl (.row 0 2) w3_0.length (rows DZ w3_0)]),(2,(CO s.Ah)),(1,(A9 s.lines)),(0,(A9 s.facts))],7,[(0,w3_0.length)],1⟩) [] (DI [] 0 (sb uG 244) [.code (sb uG 31)] (Aa 300 [pmb (qF (n:=e.kids.length) hl1)]) (by kernel_rfl)) ?_ ?_ ?_ (fun v h=>by cases h;exact .outer .body)
 rintro i0 ⟨whole8,w6_l,w3_0⟩ j0 hge hq
 exact B8 (Aa 300 [pb (IG hge)]) (by kernel_rfl) (hq (js 25 j0 [(0,.bool false)]))
 rintro i0 e0 ⟨whole8,w6_l,w3_0⟩ j0 r he0 hi0 mi0 k
 show Ca BP s i0 e0 whole8 w6_l w3_0=some r→_
 unfold Ca
 refine Aj ?_
 rintro ⟨y2a,y2b⟩ hy2
 dsimp only
 refine Aj fun x3 hx3=>?_
 let o1:List (PC P G):=[pb (F6 hi0),CP (Bz .lost he0),AK (DG (Jt hy2) 0 1 2 3 0),CP (Yg (id:=6) (n:=e.kids.length) (i:=i0) (by have:=Nu (F6 hi0);omega)),psb (pR hx3 y2a)]
 refine Ae (fun hv=>?_) fun hv=>?_
 subst hv
 refine Aj fun x4 hx4=>?_
 let o2:List (PC P G):=o1++[CP (Yg (id:=6) (n:=e.kids.length) (i:=i0) (by have:=Nu (F6 hi0);omega)),gH (Ny hx4)]
 refine Ae (fun hb1=>?_) fun hb1=>?_
 rintro ⟨⟩
 exact B7 Hd.Ac [fq (Am.EH e.kids)] [bp (A8.Bo (w6_l.set i0 y2a)),bp (Am.pl e),none,br AZ 0 2 y2b,BE s.Ah,AO s.lines,AO s.facts] (Aa 300 (o2++[pn hb1,pi mi0])) (by kernel_rfl) (k (js 25 j0 [(0,.bool true),(1,.bool true),(2,.bool true),(3,.bool false),(4,.bool false)]))
 rintro ⟨⟩
 exact B7 Hd.Ac [fq (Am.EH e.kids)] [bp (A8.Bo (w6_l.set i0 y2a)),bp (Am.pl e),none,br AZ 0 2 y2b,BE s.Ah,AO s.lines,AO s.facts] (Aa 300 (o2++[pn hb1,pi mi0])) (by kernel_rfl) (k (js 25 j0 [(0,.bool true),(1,.bool true),(2,.bool true),(3,.bool true),(4,.bool true)]))
 subst hv
 rintro ⟨⟩
 exact B7 Hd.Ac [fq (Am.EH e.kids)] [bp (A8.Bo (w6_l.set i0 y2a)),bp (Am.pl e),none,br AZ 0 2 y2b,BE s.Ah,AO s.lines,AO s.facts] (Aa 300 (o1++[pi mi0])) (by kernel_rfl) (k (js 25 j0 [(0,.bool true),(1,.bool false),(2,.bool false),(3,undef),(4,.bool false)]))
 rintro ⟨whole8_5,w6_l_5,w3_0_5⟩ jx_5
 dsimp only
 refine Ae (fun hv=>?_) fun hv=>?_
 subst hv
 refine Ae (fun hb2=>?_) fun hb2=>?_
 refine Ae (fun hb3=>?_) fun hb3=>?_
 refine Aj ?_
 rintro ⟨y6a,y6b⟩ hy6
 dsimp only
 intro h
 have hE:=Option.some.inj h
 obtain ⟨hE0,hF0⟩:=Prod.mk.inj hE
 subst hE0 hF0
 exact Aq Hd.Ac _ _ [] [br AZ 0 2 y6b,BE s.Ah,AO s.lines,AO s.facts] (BX 300 [pb hb2,pb hb3,AK (Ax (Ao hy6) 3 0)]) (by kernel_rfl) .body
 intro h
 have hE:=Option.some.inj h
 obtain ⟨hE0,hF0⟩:=Prod.mk.inj hE
 subst hE0 hF0
 exact Aq Hd.Ac _ _ [] [br AZ 0 2 w3_0_5,BE s.Ah,AO s.lines,AO s.facts] (BX 300 [pb hb2,pb hb3]) (by kernel_rfl) .body
 let o3:List (PC P G):=[pb hb2]
 refine Ae (fun hb4=>?_) fun hb4=>?_
 refine Ae (fun hb5=>?_) fun hb5=>?_
 refine Aj ?_
 rintro ⟨y7a,y7b⟩ hy7
 dsimp only
 intro h
 have hE:=Option.some.inj h
 obtain ⟨hE0,hF0⟩:=Prod.mk.inj hE
 subst hE0 hF0
 exact Aq Hd.Ac _ _ [] [br AZ 0 2 y7b,BE s.Ah,AO s.lines,AO s.facts] (BX 300 (o3++[pb hb4,J9 (eR s.facts e.name),pb hb5,AK (Ax (Ao hy7) 3 0)])) (by kernel_rfl) .body
 intro h
 have hE:=Option.some.inj h
 obtain ⟨hE0,hF0⟩:=Prod.mk.inj hE
 subst hE0 hF0
 exact Aq Hd.Ac _ _ [] [br AZ 0 2 w3_0_5,BE s.Ah,AO s.lines,AO s.facts] (BX 300 (o3++[pb hb4,J9 (eR s.facts e.name),pb hb5])) (by kernel_rfl) .body
 let o4:List (PC P G):=o3++[pb hb4]
 refine Ae (fun hb6=>?_) fun hb6=>?_
 let o5:List (PC P G):=o4++[pb hb6,J9 (jN s.Ah e.n),J9 (eR s.lines ((s.Ah.get e.n).getD ByteArray.empty))]
 refine Ae (fun hb7=>?_) fun hb7=>?_
 refine Aj ?_
 rintro ⟨y8a,y8b⟩ hy8
 dsimp only
 intro h
 have hE:=Option.some.inj h
 obtain ⟨hE0,hF0⟩:=Prod.mk.inj hE
 subst hE0 hF0
 exact Aq Hd.Ac _ _ [] [br AZ 0 2 y8b,BE s.Ah,AO s.lines,AO s.facts] (BX 300 (o5++[pb hb7,AK (Ax (Ao hy8) 3 0)])) (by kernel_rfl) .body
 intro h
 have hE:=Option.some.inj h
 obtain ⟨hE0,hF0⟩:=Prod.mk.inj hE
 subst hE0 hF0
 exact Aq Hd.Ac _ _ [] [br AZ 0 2 w3_0_5,BE s.Ah,AO s.lines,AO s.facts] (BX 300 (o5++[pb hb7])) (by kernel_rfl) .body
 let o6:List (PC P G):=o4++[pb hb6]
 refine Ae (fun hb8=>?_) fun hb8=>?_
 refine Ae (fun hb9=>?_) fun hb9=>?_
 refine Aj ?_
 rintro ⟨y9a,y9b⟩ hy9
 dsimp only
 intro h
 have hE:=Option.some.inj h
 obtain ⟨hE0,hF0⟩:=Prod.mk.inj hE
 subst hE0 hF0
 exact Aq Hd.Ac _ _ [] [br AZ 0 2 y9b,BE s.Ah,AO s.lines,AO s.facts] (BX 300 (o6++[pb hb8,pb hb9,AK (Ax (Ao hy9) 3 0)])) (by kernel_rfl) .body
 intro h
 have hE:=Option.some.inj h
 obtain ⟨hE0,hF0⟩:=Prod.mk.inj hE
 subst hE0 hF0
 exact Aq Hd.Ac _ _ [] [br AZ 0 2 w3_0_5,BE s.Ah,AO s.lines,AO s.facts] (BX 300 (o6++[pb hb8,pb hb9])) (by kernel_rfl) .body
 let o7:List (PC P G):=o6++[pb hb8]
 refine Ae (fun hb10=>?_) fun hb10=>?_
 refine Aj fun y10 hy10=>?_
 refine Ae (fun hb11=>?_) fun hb11=>?_
 refine Aj ?_
 rintro ⟨y11a,y11b⟩ hy11
 dsimp only
 intro h
 have hE:=Option.some.inj h
 obtain ⟨hE0,hF0⟩:=Prod.mk.inj hE
 subst hE0 hF0
 exact Aq Hd.Ac _ _ [] [br AZ 0 2 y11b,BE s.Ah,AO s.lines,AO s.facts] (BX 300 (o7++[pb hb10,AK (Dy (CN hy10) 6),pb hb11,AK (Ax (Ao hy11) 3 0)])) (by kernel_rfl) .body
 intro h
 have hE:=Option.some.inj h
 obtain ⟨hE0,hF0⟩:=Prod.mk.inj hE
 subst hE0 hF0
 exact Aq Hd.Ac _ _ [] [br AZ 0 2 w3_0_5,BE s.Ah,AO s.lines,AO s.facts] (BX 300 (o7++[pb hb10,AK (Dy (CN hy10) 6),pb hb11])) (by kernel_rfl) .body
 let o8:List (PC P G):=o7++[pb hb10]
 refine Ae (fun hb12=>?_) fun hb12=>?_
 refine Aj fun y12 hy12=>?_
 refine Ae (fun hb13=>?_) fun hb13=>?_
 refine Aj ?_
 rintro ⟨y13a,y13b⟩ hy13
 dsimp only
 intro h
 have hE:=Option.some.inj h
 obtain ⟨hE0,hF0⟩:=Prod.mk.inj hE
 subst hE0 hF0
 exact Aq Hd.Ac _ _ [] [br AZ 0 2 y13b,BE s.Ah,AO s.lines,AO s.facts] (BX 300 (o8++[pb hb12,AK (Dy (CN hy12) 6),pb hb13,AK (Ax (Ao hy13) 3 0)])) (by kernel_rfl) .body
 intro h
 have hE:=Option.some.inj h
 obtain ⟨hE0,hF0⟩:=Prod.mk.inj hE
 subst hE0 hF0
 exact Aq Hd.Ac _ _ [] [br AZ 0 2 w3_0_5,BE s.Ah,AO s.lines,AO s.facts] (BX 300 (o8++[pb hb12,AK (Dy (CN hy12) 6),pb hb13])) (by kernel_rfl) .body
 refine Ae (fun hb14=>?_) fun hb14=>?_
 refine Aj fun y14 hy14=>?_
 refine Ae (fun hb15=>?_) fun hb15=>?_
 refine Aj ?_
 rintro ⟨y15a,y15b⟩ hy15
 dsimp only
 intro h
 have hE:=Option.some.inj h
 obtain ⟨hE0,hF0⟩:=Prod.mk.inj hE
 subst hE0 hF0
 exact Aq Hd.Ac _ _ [] [br AZ 0 2 y15b,BE s.Ah,AO s.lines,AO s.facts] (BX 300 (o8++[pb hb12,pb hb14,AK (Dy (CN hy14) 6),pb hb15,AK (Ax (Ao hy15) 3 0)])) (by kernel_rfl) .body
 intro h
 have hE:=Option.some.inj h
 obtain ⟨hE0,hF0⟩:=Prod.mk.inj hE
 subst hE0 hF0
 exact Aq Hd.Ac _ _ [] [br AZ 0 2 w3_0_5,BE s.Ah,AO s.lines,AO s.facts] (BX 300 (o8++[pb hb12,pb hb14,AK (Dy (CN hy14) 6),pb hb15])) (by kernel_rfl) .body
 let o9:List (PC P G):=o8++[pb hb12,pb hb14]
 refine Ae (fun hb16=>?_) fun hb16=>?_
 refine Aj fun Vc hk16=>?_
 refine Aj fun x17 hx17=>?_
 refine Aj fun y18 hy18=>?_
 let o10:List (PC P G):=o9++[pb hb16,CP (Nh (id:=6) hk16),gH (Ny hx17),Ak (Ea hy18)]
 refine Ae (fun hv=>?_) fun hv=>?_
 subst hv
 refine Ae (fun hb17=>?_) fun hb17=>?_
 refine Aj ?_
 rintro ⟨y19a,y19b⟩ hy19
 dsimp only
 intro h
 have hE:=Option.some.inj h
 obtain ⟨hE0,hF0⟩:=Prod.mk.inj hE
 subst hE0 hF0
 exact Aq Hd.Ac _ _ [] [br AZ 0 2 y19b,BE s.Ah,AO s.lines,AO s.facts] (BX 300 (o10++[CP (Nh (id:=6) hk16),gH (Ny hx17),pb hb17,AK (Ax (Ao hy19) 3 0)])) (by kernel_rfl) .body
 intro h
 have hE:=Option.some.inj h
 obtain ⟨hE0,hF0⟩:=Prod.mk.inj hE
 subst hE0 hF0
 exact Aq Hd.Ac _ _ [] [br AZ 0 2 w3_0_5,BE s.Ah,AO s.lines,AO s.facts] (BX 300 (o10++[CP (Nh (id:=6) hk16),gH (Ny hx17),pb hb17])) (by kernel_rfl) .body
 subst hv
 refine Ae (fun hb18=>?_) fun hb18=>?_
 refine Aj ?_
 rintro ⟨y20a,y20b⟩ hy20
 dsimp only
 intro h
 have hE:=Option.some.inj h
 obtain ⟨hE0,hF0⟩:=Prod.mk.inj hE
 subst hE0 hF0
 exact Aq Hd.Ac _ _ [] [br AZ 0 2 y20b,BE s.Ah,AO s.lines,AO s.facts] (BX 300 (o10++[pb hb18,AK (Ax (Ao hy20) 3 0)])) (by kernel_rfl) .body
 intro h
 have hE:=Option.some.inj h
 obtain ⟨hE0,hF0⟩:=Prod.mk.inj hE
 subst hE0 hF0
 exact Aq Hd.Ac _ _ [] [br AZ 0 2 w3_0_5,BE s.Ah,AO s.lines,AO s.facts] (BX 300 (o10++[pb hb18])) (by kernel_rfl) .body
 refine Ae (fun hb19=>?_) fun hb19=>?_
 refine Aj ?_
 rintro ⟨y21a,y21b⟩ hy21
 dsimp only
 intro h
 have hE:=Option.some.inj h
 obtain ⟨hE0,hF0⟩:=Prod.mk.inj hE
 subst hE0 hF0
 exact Aq Hd.Ac _ _ [] [br AZ 0 2 y21b,BE s.Ah,AO s.lines,AO s.facts] (BX 300 (o9++[pb hb16,pb hb19,AK (Ax (Ao hy21) 3 0)])) (by kernel_rfl) .body
 intro h
 have hE:=Option.some.inj h
 obtain ⟨hE0,hF0⟩:=Prod.mk.inj hE
 subst hE0 hF0
 exact Aq Hd.Ac _ _ [] [br AZ 0 2 w3_0_5,BE s.Ah,AO s.lines,AO s.facts] (BX 300 (o9++[pb hb16,pb hb19])) (by kernel_rfl) .body
 subst hv
 intro h
 have hE:=Option.some.inj h
 obtain ⟨hE0,hF0⟩:=Prod.mk.inj hE
 subst hE0 hF0
 exact Aq Hd.Ac _ _ [] [br AZ 0 2 w3_0_5,BE s.Ah,AO s.lines,AO s.facts] (BX 300 []) (by kernel_rfl) .body
noncomputable def Bf:Nat→Sc→Nd→(List Dg)→Option (ByteArray×(List Dg))
 | 0,_,_,_=>none
 | qn+1,s,e,report=>DH (Bf qn) s e report
theorem Jl:∀ qn:Nat,∀ {s:Sc} {e:Nd} {report:(List Dg)} {yR:ByteArray} {qreportR:(List Dg)},Bf qn s e report=some (yR,qreportR)→Sound P G (.call 32 [.agg [.mp 0,.mp 1,.mp 2],.agg (Ba e),.fn (.func 54) [] [.ptr 3 0]] ⟨[(3,.cells [.sl (.row 0 2) report.length (rows DZ report)]),(2,(CO s.Ah)),(1,(A9 s.lines)),(0,(A9 s.facts))],4,[(0,report.length)],1⟩ (.ret (.sc (.string yR))) ⟨[(3,.cells [.sl (.row 0 2) qreportR.length (rows DZ qreportR)]),(2,(CO s.Ah)),(1,(A9 s.lines)),(0,(A9 s.facts))],4,[(0,qreportR.length)],1⟩):=by
 intro qn
 induction qn with
 | zero=>exact (fun h=>by simp only [Bf] at h;cases h)
 | succ qn ih=>exact (fun h=>IU (Bf qn) ih (by rw [Bf] at h;exact h))
noncomputable def CX (s:Sc) (e:Nd) (report:(List Dg)):Option (ByteArray×(List Dg)):=W4 (fun qn=>Bf qn s e report)
theorem Ek {s:Sc} {e:Nd} {report:(List Dg)} {yR:ByteArray} {qreportR:(List Dg)} (h:CX s e report=some (yR,qreportR)):Sound P G (.call 32 [.agg [.mp 0,.mp 1,.mp 2],.agg (Ba e),.fn (.func 54) [] [.ptr 3 0]] ⟨[(3,.cells [.sl (.row 0 2) report.length (rows DZ report)]),(2,(CO s.Ah)),(1,(A9 s.lines)),(0,(A9 s.facts))],4,[(0,report.length)],1⟩ (.ret (.sc (.string yR))) ⟨[(3,.cells [.sl (.row 0 2) qreportR.length (rows DZ qreportR)]),(2,(CO s.Ah)),(1,(A9 s.lines)),(0,(A9 s.facts))],4,[(0,qreportR.length)],1⟩):=by
 obtain ⟨qn,h⟩:=Uf h
 exact (Jl qn) h
noncomputable def B13:Code:=A4 Tryz.f13
theorem b13:Tryz.f13.body=some B13:=by kernel_rfl
noncomputable def ED  (source:Nd) (e:Nd):Option (ByteArray×(List Dg)):=cond (Bs source.kind 1) (cond (Bs e.kind 1) (some (ByteArray.empty,[(⟨1,e.att⟩:Dg)])) ((DA source).bind fun y1=>cond y1 ((DA e).bind fun y2=>cond y2 ((Dd).bind fun y3=>(Dv source).bind fun y4=>(CX y4 e []).bind fun (y5a,y5b)=>some (y5a,y5b)) (some (ByteArray.empty,[(⟨1,e.att⟩:Dg)]))) (some (ByteArray.empty,[(⟨1,e.att⟩:Dg)])))) (some (ByteArray.empty,[(⟨1,e.att⟩:Dg)]))
theorem Ja   {source:Nd} {e:Nd} {yR:(ByteArray×(List Dg))} (h:ED  source e=some yR):Pure P G 13 [.agg (Ba source),.agg (Ba e)] (.Br [.sc (.string yR.1),.sl .lost yR.2.length (rows DZ yR.2)]):=by
 unfold ED at h
 refine BK Hd.mixed Hd.Ac (AJ Tryz.func13 b13 ?_) (Bo (Am.F0 source) (Bo (Am.F0 e) rfl)) (Bo rfl (Bo (AZ.EH yR.2) rfl))
 revert h
 refine Ae (fun hb1=>?_) fun hb1=>?_
 refine Ae (fun hb2=>?_) fun hb2=>?_
 intro h
 have hE:=Option.some.inj h
 subst hE
 exact AB (v:=.Br [.sc (.string ByteArray.empty),.sl .full 1 [.sc (.int .i64 1),.sc (.int .i64 e.att)]]) _ _ (Aa 300 [pn hb1,pb hb2]) (by kernel_rfl) .body (.wn (.u (.r (.d (.r (.r .nil)) (AZ.eq [(⟨1,e.att⟩:Dg)]).symm .nil)) .nil) (Bo rfl (Bo (AZ.EH [(⟨1,e.att⟩:Dg)]) rfl)))
 refine Aj fun y1 hy1=>?_
 let o1:List (PC P G):=[pn hb1,pb hb2,Ak (DT hy1)]
 refine Ae (fun hv=>?_) fun hv=>?_
 subst hv
 refine Aj fun y2 hy2=>?_
 refine Ae (fun hv=>?_) fun hv=>?_
 subst hv
 refine Aj fun y3 hy3=>?_
 refine Aj fun y4 hy4=>?_
 refine Aj ?_
 rintro ⟨y5a,y5b⟩ hy5
 dsimp only
 intro h
 have hE:=Option.some.inj h
 subst hE
 exact AB (v:=.Br [.sc (.string y5a),.sl (.row 0 2) y5b.length (rows DZ y5b)]) _ _ (Aa 300 (o1++[Ak (DT hy2),RN (v:=.Br [.ptr 2 0,.fn (.func 54) [] [.ptr 2 0]]) (h:=[(2,.cells [.sl .full 0 []])] ) (F:=[]) (IT (Hc hy3) 2 0),yN [.b 2 0 2],Tp,RN (v:=.agg [.mp 5,.mp 6,.mp 7]) (h:=[(7,(CO y4.Ah)),(6,(A9 y4.lines)),(5,(A9 y4.facts))] ) (F:=[]) (Ji (Ht hy4) 3 1),AK (DG (Ek hy5) 5 6 7 2 0)])) (by kernel_rfl) .body (.wn (.u (.r (.s rfl .nil)) .nil) (Bo rfl (Bo (AZ.EH y5b) rfl)))
 subst hv
 intro h
 have hE:=Option.some.inj h
 subst hE
 exact AB (v:=.Br [.sc (.string ByteArray.empty),.sl .full 1 [.sc (.int .i64 1),.sc (.int .i64 e.att)]]) _ _ (Aa 300 (o1++[Ak (DT hy2)])) (by kernel_rfl) .body (.wn (.u (.r (.d (.r (.r .nil)) (AZ.eq [(⟨1,e.att⟩:Dg)]).symm .nil)) .nil) (Bo rfl (Bo (AZ.EH [(⟨1,e.att⟩:Dg)]) rfl)))
 subst hv
 intro h
 have hE:=Option.some.inj h
 subst hE
 exact AB (v:=.Br [.sc (.string ByteArray.empty),.sl .full 1 [.sc (.int .i64 1),.sc (.int .i64 e.att)]]) _ _ (Aa 300 o1) (by kernel_rfl) .body (.wn (.u (.r (.d (.r (.r .nil)) (AZ.eq [(⟨1,e.att⟩:Dg)]).symm .nil)) .nil) (Bo rfl (Bo (AZ.EH [(⟨1,e.att⟩:Dg)]) rfl)))
 intro h
 have hE:=Option.some.inj h
 subst hE
 exact AB (v:=.Br [.sc (.string ByteArray.empty),.sl .full 1 [.sc (.int .i64 1),.sc (.int .i64 e.att)]]) _ _ (Aa 300 [pn hb1]) (by kernel_rfl) .body (.wn (.u (.r (.d (.r (.r .nil)) (AZ.eq [(⟨1,e.att⟩:Dg)]).symm .nil)) .nil) (Bo rfl (Bo (AZ.EH [(⟨1,e.att⟩:Dg)]) rfl)))
noncomputable def uA:Code:=A4 Tryz.f15
theorem b15:Tryz.f15.body=some uA:=by kernel_rfl
noncomputable def Eg  (b:(List Dg)) (i0:Nat) (e0:Dg) :Option (Lp Unit Unit Bool):=(b[i0]?).bind fun x1=>cond (Nf e0 x1) (some (.nx ())) (some (.rt false))
noncomputable def BG  (a:(List Dg)) (b:(List Dg)):Option Bool:=cond (Bs ((a.length:Nat):Int) ((b.length:Nat):Int)) ((Gy a.length (AT (fun i y x=>Eg  b i y ) (fun x=>()) (a.drop 0) 0 ())).bind (GA (fun (_:Unit)=>some true) (fun v=>some v))) (some false)
theorem Bp   {a:(List Dg)} {b:(List Dg)} {yR:Bool} (h:BG  a b=some yR):Pure P G 15 [.sl .lost a.length (rows DZ a),.sl .lost b.length (rows DZ b)] (.sc (.bool yR)):=by
 unfold BG at h
 refine BK Hd.mixed Hd.Ac (AJ Tryz.func15 b15 ?_) (Bo (AZ.EH a) (Bo (AZ.EH b) rfl)) rfl
 revert h
 refine Ae (fun hb1=>?_) fun hb1=>?_
 refine DQ (fun Q v=>DS P Tryz.f15 0 Q (.sc (.bool v))) (fun i0 (_:Unit) (j0:List Value)=>fr 26 [(0,.sl .lost a.length (rows DZ a)),(1,.sl .lost b.length (rows DZ b)),(5,.sc (.int .i64 ((i0:Nat):Int)))] [4,10,14,25] j0) (fun (_:Unit)=>⟨[],0,[],0⟩) (fun (_:Unit) (jx:List Value)=>fr 26 [] [4,10,14,25] jx) (fun (_:Unit)=>⟨[],0,[],0⟩) [.bool false,.bool false] (DI [] 0 (sb uA 116) [.code (sb uA 15)] (Aa 300 [pn hb1]) (by kernel_rfl)) ?_ ?_ ?_ (fun v h=>by cases h;exact .outer .body)
 rintro i0 ⟨⟩ j0 hge hq
 exact B8 (Aa 300 [pb (IG hge)]) (by kernel_rfl) (hq (js 4 j0 [(2,.bool false)]))
 rintro i0 e0 ⟨⟩ j0 r he0 hi0 mi0 k
 show Eg  b i0 e0 =some r→_
 unfold Eg
 refine Aj fun x1 hx1=>?_
 refine Ae (fun hb2=>?_) fun hb2=>?_
 rintro ⟨⟩
 exact De (Aa 300 [pb (F6 hi0),CP (ZV .lost he0),CP (ZV .lost hx1),KZ (hZ hb2 (.tmp 20) (.tmp 24)),pi mi0]) (by kernel_rfl) (k (js 4 j0 [(2,.bool true),(3,.bool false)]))
 rintro ⟨⟩
 exact AB _ _ (Aa 300 [pb (F6 hi0),CP (ZV .lost he0),CP (ZV .lost hx1),KZ (hZ hb2 (.tmp 20) (.tmp 24))]) (by kernel_rfl) (.GX k) .sc
 rintro ⟨⟩ jx_2
 intro h
 have hE:=Option.some.inj h
 subst hE
 exact AB _ _ (BX 300 []) (by kernel_rfl) .body .sc
 rintro ⟨⟩
 exact rS (Aa 300 [pn hb1]) (by kernel_rfl)
noncomputable def xZ:Code:=A4 Tryz.f34
theorem b34:Tryz.f34.body=some xZ:=by kernel_rfl
noncomputable def Bm   (i0:Nat) (e0:Nd) (w5_m:(Mm ByteArray Bool)) (w2_m:(Mm Int Int)) (w0_0:(List Dg)) (w4_m:(Mm ByteArray Bool)):Option (Lp ((Mm ByteArray Bool)×(Mm Int Int)×(List Dg)×(Mm ByteArray Bool)) ((Mm ByteArray Bool)×(Mm Int Int)×(List Dg)×(Mm ByteArray Bool)) (Unit×(List Dg))):=cond (Bs e0.kind 4) (some (.nx (w5_m,w2_m,w0_0,w4_m))) (cond (Bs e0.kind 3) (cond ((w5_m.get e0.name).getD false) ((An 5 e0.att w0_0).bind fun (y1a,y1b)=>some (.nx ((w5_m.set e0.name true),(w2_m.set e0.kind (BM ((w2_m.get e0.kind).getD 0) 1)),y1b,w4_m))) (cond (FQ 32 (((w2_m.set e0.kind (BM ((w2_m.get e0.kind).getD 0) 1)).get e0.kind).getD 0)) ((An 2 e0.att w0_0).bind fun (y2a,y2b)=>some (.nx ((w5_m.set e0.name true),(w2_m.set e0.kind (BM ((w2_m.get e0.kind).getD 0) 1)),y2b,w4_m))) (cond (BJ e0.unit.data.toList A3.data.toList) ((An 11 e0.att w0_0).bind fun (y3a,y3b)=>some (.nx ((w5_m.set e0.name true),(w2_m.set e0.kind (BM ((w2_m.get e0.kind).getD 0) 1)),y3b,w4_m))) (cond (Bs e0.n 4) (some (.nx ((w5_m.set e0.name true),(w2_m.set e0.kind (BM ((w2_m.get e0.kind).getD 0) 1)),w0_0,w4_m))) ((DW e0.unit).bind fun y4=>cond y4 (some (.nx ((w5_m.set e0.name true),(w2_m.set e0.kind (BM ((w2_m.get e0.kind).getD 0) 1)),w0_0,w4_m))) ((An 11 e0.att w0_0).bind fun (y5a,y5b)=>some (.nx ((w5_m.set e0.name true),(w2_m.set e0.kind (BM ((w2_m.get e0.kind).getD 0) 1)),y5b,w4_m)))))))) (cond (Bs e0.kind 2) (cond ((w4_m.get e0.name).getD false) ((An 5 e0.att w0_0).bind fun (y6a,y6b)=>some (.nx (w5_m,(w2_m.set e0.kind (BM ((w2_m.get e0.kind).getD 0) 1)),y6b,(w4_m.set e0.name true)))) (cond (FQ 32 (((w2_m.set e0.kind (BM ((w2_m.get e0.kind).getD 0) 1)).get e0.kind).getD 0)) ((An 2 e0.att w0_0).bind fun (y7a,y7b)=>some (.nx (w5_m,(w2_m.set e0.kind (BM ((w2_m.get e0.kind).getD 0) 1)),y7b,(w4_m.set e0.name true)))) (some (.nx (w5_m,(w2_m.set e0.kind (BM ((w2_m.get e0.kind).getD 0) 1)),w0_0,(w4_m.set e0.name true)))))) (none)))
noncomputable def BT  (source:Nd) (report:(List Dg)):Option (Unit×(List Dg)):=(Gy source.kids.length (AT (fun i y x=>Bm   i y x.1 x.2.1 x.2.2.1 x.2.2.2) (fun x=>(x.1,x.2.1,x.2.2.1,x.2.2.2)) (source.kids.drop 0) 0 ((Mm.nil:Mm ByteArray Bool),(Mm.nil:Mm Int Int),report,(Mm.nil:Mm ByteArray Bool)))).bind (GA (fun ((w5_m_8,w2_m_8,w0_0_8,w4_m_8):((Mm ByteArray Bool)×(Mm Int Int)×(List Dg)×(Mm ByteArray Bool)))=>some ((),w0_0_8)) (fun v=>some v))
theorem Hz {source:Nd} {report:(List Dg)} {qreportR:(List Dg)} (hS:Sound P G (.call 34 [.agg (Ba source),.fn (.func 54) [] [.ptr 0 0]] ⟨[(0,.cells [.sl (.row 0 2) report.length (rows DZ report)])],1,[(0,report.length)],1⟩ (.ret (.Br [])) ⟨[(0,.cells [.sl (.row 0 2) qreportR.length (rows DZ qreportR)])],1,[(0,qreportR.length)],1⟩)) (u0 v0:Nat) (hnb:[u0].Nodup:=by decide) (hnt:([v0]:List Nat).Nodup:=by decide):Cd.ok P G (.callU 34 [.agg (Ba source),.fn (.func 54) [] [.ptr u0 0]] (.ret (.Br [])) [(u0,.cells [.sl (.row v0 2) report.length (rows DZ report)])] [(v0,report.length)] [(u0,.cells [.sl (.row v0 2) qreportR.length (rows DZ qreportR)])] [(v0,qreportR.length)]) :=
 ER (M:=[.cells [.sl (.row 0 2) report.length (rows DZ report)]]) (M2:=[.cells [.sl (.row 0 2) qreportR.length (rows DZ qreportR)]]) (T:=[report.length]) (T2:=[qreportR.length]) (k:=1) (j:=1) Hd.Ac _ _ _ _ hS rfl rfl rfl rfl rfl hnb hnt rfl rfl (.cons (.cells (.cons (.row (by decide) (AZ.Bo report)) .nil)) .nil) (.cons (.cells (.cons (.row (by decide) (AZ.Bo qreportR)) .nil)) .nil) (.cons (.pl (Am.F0 source)) (.cons (.fn (.pl rfl) (.cons (.ptr (by decide)) .nil)) .nil)) (.pl rfl) (fun e he=>by simp only [List.mem_singleton] at he;subst he;exact (.arg (.there (.here (.fn2 (.here .ptr))))))
theorem GC   {source:Nd} {report:(List Dg)} {yR:Unit} {qreportR:(List Dg)} (h:BT  source report=some (yR,qreportR)):Sound P G (.call 34 [.agg (Ba source),.fn (.func 54) [] [.ptr 0 0]] ⟨[(0,.cells [.sl (.row 0 2) report.length (rows DZ report)])],1,[(0,report.length)],1⟩ (.ret (.Br [])) ⟨[(0,.cells [.sl (.row 0 2) qreportR.length (rows DZ qreportR)])],1,[(0,qreportR.length)],1⟩):=by
 unfold BT at h
 refine EY Hd.mixed (AJ Tryz.func34 b34 ?_)
 revert h
 refine DQ (fun Q v=>Jp P G Tryz.f34 1 ⟨[(0,.cells [.sl (.row 0 2) report.length (rows DZ report)])],1,[(0,report.length)],1⟩ Q (.Br []) ⟨[(0,.cells [.sl (.row 0 2) v.2.length (rows DZ v.2)])],1,[(0,v.2.length)],1⟩) (fun i0 ((w5_m,w2_m,w0_0,w4_m):((Mm ByteArray Bool)×(Mm Int Int)×(List Dg)×(Mm ByteArray Bool))) (j0:List Value)=>fr 83 [(1,.fn (.func 54) [] [.ptr 0 0]),(4,.mp 2),(5,.mp 3),(15,.sl .lost source.kids.length (A7 source.kids)),(16,.sc (.int .i64 ((source.kids.length:Nat):Int))),(17,.sc (.int .i64 ((i0:Nat):Int)))] [8,18,23,31,32,39,44,49,54,55,56,59,60,63,64,67,68,69,70,71] j0) (fun ((w5_m,w2_m,w0_0,w4_m):((Mm ByteArray Bool)×(Mm Int Int)×(List Dg)×(Mm ByteArray Bool)))=>⟨[(5,(Q6 w5_m)),(4,(Q6 w4_m)),(3,(.map [(.int .i64 2,.mp 4,0),(.int .i64 3,.mp 5,1)] 2)),(2,(T1 w2_m)),(1,.cells (Ba source)),(0,.cells [.sl (.row 0 2) w0_0.length (rows DZ w0_0)])],6,[(0,w0_0.length)],1⟩) (fun ((w5_m,w2_m,w0_0,w4_m):((Mm ByteArray Bool)×(Mm Int Int)×(List Dg)×(Mm ByteArray Bool))) (jx:List Value)=>fr 83 [] [8,18,23,31,32,39,44,49,54,55,56,59,60,63,64,67,68,69,70,71] jx) (fun ((w5_m,w2_m,w0_0,w4_m):((Mm ByteArray Bool)×(Mm Int Int)×(List Dg)×(Mm ByteArray Bool)))=>⟨[(5,(Q6 w5_m)),(4,(Q6 w4_m)),(3,(.map [(.int .i64 2,.mp 4,0),(.int .i64 3,.mp 5,1)] 2)),(2,(T1 w2_m)),(1,.cells (Ba source)),(0,.cells [.sl (.row 0 2) w0_0.length (rows DZ w0_0)])],6,[(0,w0_0.length)],1⟩) [] (DI [] 0 (sb xZ 124) [] (Aa 300 []) (by kernel_rfl)) ?_ ?_ ?_ (fun v h=>by cases h;exact .outer .body)
 rintro i0 ⟨w5_m,w2_m,w0_0,w4_m⟩ j0 hge hq
 exact B8 (Aa 300 [pb (IG hge)]) (by kernel_rfl) (hq (js 20 j0 [(1,.bool false)]))
 rintro i0 e0 ⟨w5_m,w2_m,w0_0,w4_m⟩ j0 r he0 hi0 mi0 k
 show Bm   i0 e0 w5_m w2_m w0_0 w4_m=some r→_
 unfold Bm
 let o1:List (PC P G):=[pb (F6 hi0),CP (Bz .lost he0)]
 refine Ae (fun hb1=>?_) fun hb1=>?_
 rintro ⟨⟩
 exact B7 Hd.Ac [fq (Am.EH source.kids)] [FY w5_m,FY w4_m,bw (.map [(.int .i64 2,.mp 4,0),(.int .i64 3,.mp 5,1)] 2) (.map [(.int .i64 2,.mp 4,0),(.int .i64 3,.mp 5,1)] 2) (.under rfl),K4 w2_m,bp (Am.pl source),br AZ 0 2 w0_0] (Aa 300 (o1++[pb hb1,pi mi0])) (by kernel_rfl) (k (js 20 j0 [(1,.bool true),(2,.bool true)]))
 let o2:List (PC P G):=o1++[pb hb1,J9 (YU w2_m e0.kind),pk,VP (sY w2_m e0.kind (BM ((w2_m.get e0.kind).getD 0) 1))]
 refine Ae (fun hb2=>?_) fun hb2=>?_
 let o3:List (PC P G):=o2++[pb hb2,J9 (b:=(.map [(.int .i64 2,.mp 4,0),(.int .i64 3,.mp 5,1)] 2)) (It (z:=e0.kind) 3 (Gf hb2) rfl)]
 refine Ae (fun hb3=>?_) fun hb3=>?_
 refine Aj ?_
 rintro ⟨y1a,y1b⟩ hy1
 dsimp only
 rintro ⟨⟩
 exact B7 Hd.Ac [fq (Am.EH source.kids)] [FY (w5_m.set e0.name true),FY w4_m,bw (.map [(.int .i64 2,.mp 4,0),(.int .i64 3,.mp 5,1)] 2) (.map [(.int .i64 2,.mp 4,0),(.int .i64 3,.mp 5,1)] 2) (.under rfl),K4 (w2_m.set e0.kind (BM ((w2_m.get e0.kind).getD 0) 1)),bp (Am.pl source),br AZ 0 2 y1b] (Aa 300 (o3++[J9 (Rj w5_m e0.name hb3),AK (Ax (Ao hy1) 0 0),J9 (b:=(.map [(.int .i64 2,.mp 4,0),(.int .i64 3,.mp 5,1)] 2)) (It (z:=e0.kind) 3 (Gf hb2) rfl),VP (Mw w5_m e0.name true),pi mi0])) (by kernel_rfl) (k (js 20 j0 [(0,.bool true),(1,.bool true),(2,.bool false),(3,.bool true),(4,.bool true),(5,.bool true)]))
 let o4:List (PC P G):=o3++[J9 (Rj w5_m e0.name hb3),J9 (YU (w2_m.set e0.kind (BM ((w2_m.get e0.kind).getD 0) 1)) e0.kind)]
 refine Ae (fun hb4=>?_) fun hb4=>?_
 refine Aj ?_
 rintro ⟨y2a,y2b⟩ hy2
 dsimp only
 rintro ⟨⟩
 exact B7 Hd.Ac [fq (Am.EH source.kids)] [FY (w5_m.set e0.name true),FY w4_m,bw (.map [(.int .i64 2,.mp 4,0),(.int .i64 3,.mp 5,1)] 2) (.map [(.int .i64 2,.mp 4,0),(.int .i64 3,.mp 5,1)] 2) (.under rfl),K4 (w2_m.set e0.kind (BM ((w2_m.get e0.kind).getD 0) 1)),bp (Am.pl source),br AZ 0 2 y2b] (Aa 300 (o4++[pb hb4,AK (Ax (Ao hy2) 0 0),J9 (b:=(.map [(.int .i64 2,.mp 4,0),(.int .i64 3,.mp 5,1)] 2)) (It (z:=e0.kind) 3 (Gf hb2) rfl),VP (Mw w5_m e0.name true),pi mi0])) (by kernel_rfl) (k (js 20 j0 [(0,.bool true),(1,.bool true),(2,.bool false),(3,.bool true),(4,.bool false),(5,.bool false),(6,.bool true),(7,.bool true)]))
 refine Ae (fun hb5=>?_) fun hb5=>?_
 refine Aj ?_
 rintro ⟨y3a,y3b⟩ hy3
 dsimp only
 rintro ⟨⟩
 exact B7 Hd.Ac [fq (Am.EH source.kids)] [FY (w5_m.set e0.name true),FY w4_m,bw (.map [(.int .i64 2,.mp 4,0),(.int .i64 3,.mp 5,1)] 2) (.map [(.int .i64 2,.mp 4,0),(.int .i64 3,.mp 5,1)] 2) (.under rfl),K4 (w2_m.set e0.kind (BM ((w2_m.get e0.kind).getD 0) 1)),bp (Am.pl source),br AZ 0 2 y3b] (Aa 300 (o4++[pb hb4,pb hb5,AK (Ax (Ao hy3) 0 0),J9 (b:=(.map [(.int .i64 2,.mp 4,0),(.int .i64 3,.mp 5,1)] 2)) (It (z:=e0.kind) 3 (Gf hb2) rfl),VP (Mw w5_m e0.name true),pi mi0])) (by kernel_rfl) (k [.bool true,.bool true,.bool false,.bool true,.bool false,.bool false,.bool false,.bool false,.bool true,.bool true,.bool true,.bool true,.bool true,undef,undef,undef,undef,undef,.bool true,.bool true])
 refine Ae (fun hb6=>?_) fun hb6=>?_
 rintro ⟨⟩
 exact B7 Hd.Ac [fq (Am.EH source.kids)] [FY (w5_m.set e0.name true),FY w4_m,bw (.map [(.int .i64 2,.mp 4,0),(.int .i64 3,.mp 5,1)] 2) (.map [(.int .i64 2,.mp 4,0),(.int .i64 3,.mp 5,1)] 2) (.under rfl),K4 (w2_m.set e0.kind (BM ((w2_m.get e0.kind).getD 0) 1)),bp (Am.pl source),br AZ 0 2 w0_0] (Aa 300 (o4++[pb hb4,pb hb5,pn hb6,J9 (b:=(.map [(.int .i64 2,.mp 4,0),(.int .i64 3,.mp 5,1)] 2)) (It (z:=e0.kind) 3 (Gf hb2) rfl),VP (Mw w5_m e0.name true),pi mi0])) (by kernel_rfl) (k [.bool true,.bool true,.bool false,.bool true,.bool false,.bool false,.bool false,.bool false,.bool false,.bool true,.bool true,.bool false,.bool false,.bool false,.bool false,undef,undef,.bool false,.bool false,.bool false])
 refine Aj fun y4 hy4=>?_
 refine Ae (fun hv=>?_) fun hv=>?_
 subst hv
 rintro ⟨⟩
 exact B7 Hd.Ac [fq (Am.EH source.kids)] [FY (w5_m.set e0.name true),FY w4_m,bw (.map [(.int .i64 2,.mp 4,0),(.int .i64 3,.mp 5,1)] 2) (.map [(.int .i64 2,.mp 4,0),(.int .i64 3,.mp 5,1)] 2) (.under rfl),K4 (w2_m.set e0.kind (BM ((w2_m.get e0.kind).getD 0) 1)),bp (Am.pl source),br AZ 0 2 w0_0] (Aa 300 (o4++[pb hb4,pb hb5,pn hb6,Ak (Ea hy4),J9 (b:=(.map [(.int .i64 2,.mp 4,0),(.int .i64 3,.mp 5,1)] 2)) (It (z:=e0.kind) 3 (Gf hb2) rfl),VP (Mw w5_m e0.name true),pi mi0])) (by kernel_rfl) (k [.bool true,.bool true,.bool false,.bool true,.bool false,.bool false,.bool false,.bool false,.bool false,.bool true,.bool true,.bool false,.bool false,.bool true,.bool true,.bool true,.bool false,.bool false,.bool false,.bool false])
 subst hv
 refine Aj ?_
 rintro ⟨y5a,y5b⟩ hy5
 dsimp only
 rintro ⟨⟩
 exact B7 Hd.Ac [fq (Am.EH source.kids)] [FY (w5_m.set e0.name true),FY w4_m,bw (.map [(.int .i64 2,.mp 4,0),(.int .i64 3,.mp 5,1)] 2) (.map [(.int .i64 2,.mp 4,0),(.int .i64 3,.mp 5,1)] 2) (.under rfl),K4 (w2_m.set e0.kind (BM ((w2_m.get e0.kind).getD 0) 1)),bp (Am.pl source),br AZ 0 2 y5b] (Aa 300 (o4++[pb hb4,pb hb5,pn hb6,Ak (Ea hy4),AK (Ax (Ao hy5) 0 0),J9 (b:=(.map [(.int .i64 2,.mp 4,0),(.int .i64 3,.mp 5,1)] 2)) (It (z:=e0.kind) 3 (Gf hb2) rfl),VP (Mw w5_m e0.name true),pi mi0])) (by kernel_rfl) (k [.bool true,.bool true,.bool false,.bool true,.bool false,.bool false,.bool false,.bool false,.bool true,.bool true,.bool true,.bool false,.bool false,.bool true,.bool true,.bool false,.bool true,.bool true,.bool true,.bool true])
 refine Ae (fun hb7=>?_) fun hb7=>?_
 let o5:List (PC P G):=o2++[pb hb2,J9 (b:=(.map [(.int .i64 2,.mp 4,0),(.int .i64 3,.mp 5,1)] 2)) (It (z:=e0.kind) 2 (Gf hb7) rfl)]
 refine Ae (fun hb8=>?_) fun hb8=>?_
 refine Aj ?_
 rintro ⟨y6a,y6b⟩ hy6
 dsimp only
 rintro ⟨⟩
 exact B7 Hd.Ac [fq (Am.EH source.kids)] [FY w5_m,FY (w4_m.set e0.name true),bw (.map [(.int .i64 2,.mp 4,0),(.int .i64 3,.mp 5,1)] 2) (.map [(.int .i64 2,.mp 4,0),(.int .i64 3,.mp 5,1)] 2) (.under rfl),K4 (w2_m.set e0.kind (BM ((w2_m.get e0.kind).getD 0) 1)),bp (Am.pl source),br AZ 0 2 y6b] (Aa 300 (o5++[J9 (Rj w4_m e0.name hb8),AK (Ax (Ao hy6) 0 0),J9 (b:=(.map [(.int .i64 2,.mp 4,0),(.int .i64 3,.mp 5,1)] 2)) (It (z:=e0.kind) 2 (Gf hb7) rfl),VP (Mw w4_m e0.name true),pi mi0])) (by kernel_rfl) (k (js 20 j0 [(0,.bool false),(1,.bool true),(2,.bool false),(3,.bool false),(4,.bool true),(5,.bool true)]))
 let o6:List (PC P G):=o5++[J9 (Rj w4_m e0.name hb8),J9 (YU (w2_m.set e0.kind (BM ((w2_m.get e0.kind).getD 0) 1)) e0.kind)]
 refine Ae (fun hb9=>?_) fun hb9=>?_
 refine Aj ?_
 rintro ⟨y7a,y7b⟩ hy7
 dsimp only
 rintro ⟨⟩
 exact B7 Hd.Ac [fq (Am.EH source.kids)] [FY w5_m,FY (w4_m.set e0.name true),bw (.map [(.int .i64 2,.mp 4,0),(.int .i64 3,.mp 5,1)] 2) (.map [(.int .i64 2,.mp 4,0),(.int .i64 3,.mp 5,1)] 2) (.under rfl),K4 (w2_m.set e0.kind (BM ((w2_m.get e0.kind).getD 0) 1)),bp (Am.pl source),br AZ 0 2 y7b] (Aa 300 (o6++[pb hb9,AK (Ax (Ao hy7) 0 0),J9 (b:=(.map [(.int .i64 2,.mp 4,0),(.int .i64 3,.mp 5,1)] 2)) (It (z:=e0.kind) 2 (Gf hb7) rfl),VP (Mw w4_m e0.name true),pi mi0])) (by kernel_rfl) (k (js 20 j0 [(0,.bool false),(1,.bool true),(2,.bool false),(3,.bool false),(4,.bool false),(5,.bool false),(6,.bool true),(7,.bool true)]))
 rintro ⟨⟩
 exact B7 Hd.Ac [fq (Am.EH source.kids)] [FY w5_m,FY (w4_m.set e0.name true),bw (.map [(.int .i64 2,.mp 4,0),(.int .i64 3,.mp 5,1)] 2) (.map [(.int .i64 2,.mp 4,0),(.int .i64 3,.mp 5,1)] 2) (.under rfl),K4 (w2_m.set e0.kind (BM ((w2_m.get e0.kind).getD 0) 1)),bp (Am.pl source),br AZ 0 2 w0_0] (Aa 300 (o6++[pb hb9,J9 (b:=(.map [(.int .i64 2,.mp 4,0),(.int .i64 3,.mp 5,1)] 2)) (It (z:=e0.kind) 2 (Gf hb7) rfl),VP (Mw w4_m e0.name true),pi mi0])) (by kernel_rfl) (k [.bool false,.bool true,.bool false,.bool false,.bool false,.bool false,.bool false,.bool false,.bool false,.bool false,.bool false,undef,undef,undef,undef,undef,undef,undef,undef,.bool false])
 exact o0
 rintro ⟨w5_m_8,w2_m_8,w0_0_8,w4_m_8⟩ jx_8
 dsimp only
 intro h
 have hE:=Option.some.inj h
 obtain ⟨hE0,hF0⟩:=Prod.mk.inj hE
 subst hE0 hF0
 exact Ky Hd.Ac _ _ [⟨.Br [],.Br [],(.plain rfl)⟩] [br AZ 0 2 w0_0_8] (BX 300 []) (by kernel_rfl)
noncomputable def tL:Code:=A4 Tryz.f35
theorem b35:Tryz.f35.body=some tL:=by kernel_rfl
noncomputable def Bl  (s:Sc) (Dr:Nd) (i0:Nat) (e0:Nd) (w3_0:(List Dg)):Option (Lp (List Dg) (List Dg) (Unit×(List Dg))):=cond (Bs e0.n Dr.n) ((An 101 e0.att w3_0).bind fun (y7a,y7b)=>some (.nx y7b)) (cond ((s.Ah.get e0.n).isSome) (some (.nx w3_0)) ((An 91 e0.att w3_0).bind fun (y8a,y8b)=>some (.nx y8b)))
noncomputable def AU  (s:Sc) (Dr:Nd) (clause:Nd) (report:(List Dg)):Option (Unit×(List Dg)):=cond (Bs clause.kind 7) ((Gy clause.kids.length (AT (fun i y x=>Bl  s Dr i y x) (fun x=>x) (clause.kids.drop 0) 0 report)).bind (GA (fun (w3_0_9:(List Dg))=>some ((),w3_0_9)) (fun v=>some v))) (cond (Bs clause.kind 6) ((clause.kids[0]?).bind fun x1=>(CX s x1 report).bind fun (y2a,y2b)=>cond (BJ y2a.data.toList ByteArray.empty.data.toList) (some ((),y2b)) (cond (BJ A3.data.toList ByteArray.empty.data.toList) (some ((),y2b)) (cond (BJ y2a.data.toList A3.data.toList) (some ((),y2b)) ((An 11 x1.att y2b).bind fun (y3a,y3b)=>some ((),y3b))))) ((clause.kids[0]?).bind fun x4=>(CX s x4 report).bind fun (y5a,y5b)=>cond (BJ y5a.data.toList ByteArray.empty.data.toList) (some ((),y5b)) (cond (BJ ((s.lines.get Dr.name).getD ByteArray.empty).data.toList ByteArray.empty.data.toList) (some ((),y5b)) (cond (BJ y5a.data.toList ((s.lines.get Dr.name).getD ByteArray.empty).data.toList) (some ((),y5b)) ((An 11 x4.att y5b).bind fun (y6a,y6b)=>some ((),y6b))))))
theorem BQ {s:Sc} {Dr:Nd} {clause:Nd} {report:(List Dg)} {qreportR:(List Dg)} (hS:Sound P G (.call 35 [.agg [.mp 0,.mp 1,.mp 2],.agg (Ba Dr),.agg (Ba clause),.fn (.func 54) [] [.ptr 3 0]] ⟨[(3,.cells [.sl (.row 0 2) report.length (rows DZ report)]),(2,(CO s.Ah)),(1,(A9 s.lines)),(0,(A9 s.facts))],4,[(0,report.length)],1⟩ (.ret (.Br [])) ⟨[(3,.cells [.sl (.row 0 2) qreportR.length (rows DZ qreportR)]),(2,(CO s.Ah)),(1,(A9 s.lines)),(0,(A9 s.facts))],4,[(0,qreportR.length)],1⟩)) (u0 u1 u2 u3 v0:Nat) (hnb:[u0,u1,u2,u3].Nodup:=by decide) (hnt:([v0]:List Nat).Nodup:=by decide):Cd.ok P G (.callU 35 [.agg [.mp u0,.mp u1,.mp u2],.agg (Ba Dr),.agg (Ba clause),.fn (.func 54) [] [.ptr u3 0]] (.ret (.Br [])) [(u0,(A9 s.facts)),(u1,(A9 s.lines)),(u2,(CO s.Ah)),(u3,.cells [.sl (.row v0 2) report.length (rows DZ report)])] [(v0,report.length)] [(u0,(A9 s.facts)),(u1,(A9 s.lines)),(u2,(CO s.Ah)),(u3,.cells [.sl (.row v0 2) qreportR.length (rows DZ qreportR)])] [(v0,qreportR.length)]) :=
 ER (M:=[(A9 s.facts),(A9 s.lines),(CO s.Ah),.cells [.sl (.row 0 2) report.length (rows DZ report)]]) (M2:=[(A9 s.facts),(A9 s.lines),(CO s.Ah),.cells [.sl (.row 0 2) qreportR.length (rows DZ qreportR)]]) (T:=[report.length]) (T2:=[qreportR.length]) (k:=4) (j:=1) Hd.Ac _ _ _ _ hS rfl rfl rfl rfl rfl hnb hnt rfl rfl (.cons (Ic (fun _=>rfl)) (.cons (Ic (fun _=>rfl)) (.cons (Ic (fun _=>rfl)) (.cons (.cells (.cons (.row (by decide) (AZ.Bo report)) .nil)) .nil)))) (.cons (Ic (fun _=>rfl)) (.cons (Ic (fun _=>rfl)) (.cons (Ic (fun _=>rfl)) (.cons (.cells (.cons (.row (by decide) (AZ.Bo qreportR)) .nil)) .nil)))) (.cons (.agg (.cons (.mp (by decide)) (.cons (.mp (by decide)) (.cons (.mp (by decide)) .nil)))) (.cons (.pl (Am.F0 Dr)) (.cons (.pl (Am.F0 clause)) (.cons (.fn (.pl rfl) (.cons (.ptr (by decide)) .nil)) .nil)))) (.pl rfl) (by
   intro e he
   simp only [List.mem_cons,List.not_mem_nil,or_false] at he
   rcases he with rfl | rfl | rfl | rfl
   · exact (.arg (.here (.agg (.here .mp))))
   · exact (.arg (.here (.agg (.there (.here .mp)))))
   · exact (.arg (.here (.agg (.there (.there (.here .mp))))))
   · exact (.arg (.there (.there (.there (.here (.fn2 (.here .ptr)))))))
   )
theorem BC   {s:Sc} {Dr:Nd} {clause:Nd} {report:(List Dg)} {yR:Unit} {qreportR:(List Dg)} (h:AU  s Dr clause report=some (yR,qreportR)):Sound P G (.call 35 [.agg [.mp 0,.mp 1,.mp 2],.agg (Ba Dr),.agg (Ba clause),.fn (.func 54) [] [.ptr 3 0]] ⟨[(3,.cells [.sl (.row 0 2) report.length (rows DZ report)]),(2,(CO s.Ah)),(1,(A9 s.lines)),(0,(A9 s.facts))],4,[(0,report.length)],1⟩ (.ret (.Br [])) ⟨[(3,.cells [.sl (.row 0 2) qreportR.length (rows DZ qreportR)]),(2,(CO s.Ah)),(1,(A9 s.lines)),(0,(A9 s.facts))],4,[(0,qreportR.length)],1⟩):=by
 unfold AU at h
 refine EY Hd.mixed (AJ Tryz.func35 b35 ?_)
 revert h
 refine Ae (fun hb1=>?_) fun hb1=>?_
 refine DQ (fun Q v=>Jp P G Tryz.f35 4 ⟨[(3,.cells [.sl (.row 0 2) report.length (rows DZ report)]),(2,(CO s.Ah)),(1,(A9 s.lines)),(0,(A9 s.facts))],4,[(0,report.length)],1⟩ Q (.Br []) ⟨[(3,.cells [.sl (.row 0 2) v.2.length (rows DZ v.2)]),(2,(CO s.Ah)),(1,(A9 s.lines)),(0,(A9 s.facts))],4,[(0,v.2.length)],1⟩) (fun i0 (w3_0:(List Dg)) (j0:List Value)=>fr 80 [(3,.fn (.func 54) [] [.ptr 3 0]),(4,.ptr 4 0),(5,.ptr 5 0),(19,.sl .lost clause.kids.length (A7 clause.kids)),(20,.sc (.int .i64 ((clause.kids.length:Nat):Int))),(21,.sc (.int .i64 ((i0:Nat):Int)))] [11,17,22,29,41,42,43,56,66,67,69,70,71,74,75] j0) (fun (w3_0:(List Dg))=>⟨[(6,.cells (Ba clause)),(5,.cells (Ba Dr)),(4,.cells [.mp 0,.mp 1,.mp 2]),(3,.cells [.sl (.row 0 2) w3_0.length (rows DZ w3_0)]),(2,(CO s.Ah)),(1,(A9 s.lines)),(0,(A9 s.facts))],7,[(0,w3_0.length)],1⟩) (fun (w3_0:(List Dg)) (jx:List Value)=>fr 80 [] [11,17,22,29,41,42,43,56,66,67,69,70,71,74,75] jx) (fun (w3_0:(List Dg))=>⟨[(6,.cells (Ba clause)),(5,.cells (Ba Dr)),(4,.cells [.mp 0,.mp 1,.mp 2]),(3,.cells [.sl (.row 0 2) w3_0.length (rows DZ w3_0)]),(2,(CO s.Ah)),(1,(A9 s.lines)),(0,(A9 s.facts))],7,[(0,w3_0.length)],1⟩) [undef,.bool true] (DI [] 0 (sb tL 420) [.code (sb tL 53),.code (sb tL 7)] (Aa 300 [pb hb1]) (by kernel_rfl)) ?_ ?_ ?_ (fun v h=>by cases h;exact .outer .body)
 rintro i0 w3_0 j0 hge hq
 exact B8 (Aa 300 [pb (IG hge)]) (by kernel_rfl) (hq (js 15 j0 [(2,.bool false)]))
 rintro i0 e0 w3_0 j0 r he0 hi0 mi0 k
 show Bl  s Dr i0 e0 w3_0=some r→_
 unfold Bl
 refine Ae (fun hb9=>?_) fun hb9=>?_
 refine Aj ?_
 rintro ⟨y7a,y7b⟩ hy7
 dsimp only
 rintro ⟨⟩
 exact B7 Hd.Ac [fq (Am.EH clause.kids)] [bp (Am.pl clause),bp (Am.pl Dr),none,br AZ 0 2 y7b,BE s.Ah,AO s.lines,AO s.facts] (Aa 300 [pb (F6 hi0),CP (Bz .lost he0),pb hb9,AK (Ax (Ao hy7) 3 0),pi mi0]) (by kernel_rfl) (k (js 15 j0 [(2,.bool true),(3,.bool true)]))
 refine Ae (fun hb10=>?_) fun hb10=>?_
 rintro ⟨⟩
 exact B7 Hd.Ac [fq (Am.EH clause.kids)] [bp (Am.pl clause),bp (Am.pl Dr),none,br AZ 0 2 w3_0,BE s.Ah,AO s.lines,AO s.facts] (Aa 300 [pb (F6 hi0),CP (Bz .lost he0),pb hb9,J9 (VD s.Ah e0.n hb10),pi mi0]) (by kernel_rfl) (k (js 15 j0 [(0,.bool true),(2,.bool true),(3,.bool false),(4,.bool true),(5,.bool true),(6,.bool false)]))
 refine Aj ?_
 rintro ⟨y8a,y8b⟩ hy8
 dsimp only
 rintro ⟨⟩
 exact B7 Hd.Ac [fq (Am.EH clause.kids)] [bp (Am.pl clause),bp (Am.pl Dr),none,br AZ 0 2 y8b,BE s.Ah,AO s.lines,AO s.facts] (Aa 300 [pb (F6 hi0),CP (Bz .lost he0),pb hb9,J9 (VD s.Ah e0.n hb10),AK (Ax (Ao hy8) 3 0),pi mi0]) (by kernel_rfl) (k (js 15 j0 [(0,.bool false),(2,.bool true),(3,.bool false),(4,.bool false),(5,.bool false),(6,.bool true)]))
 rintro w3_0_9 jx_9
 intro h
 have hE:=Option.some.inj h
 obtain ⟨hE0,hF0⟩:=Prod.mk.inj hE
 subst hE0 hF0
 exact Aq Hd.Ac _ _ [⟨.Br [],.Br [],(.plain rfl)⟩] [br AZ 0 2 w3_0_9,BE s.Ah,AO s.lines,AO s.facts] (BX 300 []) (by kernel_rfl) .body
 let o1:List (PC P G):=[pb hb1,J9 (eR s.lines Dr.name)]
 refine Ae (fun hb2=>?_) fun hb2=>?_
 refine Aj fun x1 hx1=>?_
 refine Aj ?_
 rintro ⟨y2a,y2b⟩ hy2
 dsimp only
 let o2:List (PC P G):=o1++[pb hb2,CP (Bz .lost hx1),AK (DG (Ek hy2) 0 1 2 3 0)]
 refine Ae (fun hb3=>?_) fun hb3=>?_
 intro h
 have hE:=Option.some.inj h
 obtain ⟨hE0,hF0⟩:=Prod.mk.inj hE
 subst hE0 hF0
 exact Ky Hd.Ac _ _ [⟨.Br [],.Br [],(.plain rfl)⟩] [br AZ 0 2 y2b,BE s.Ah,AO s.lines,AO s.facts] (Aa 300 (o2++[pn hb3])) (by kernel_rfl)
 refine Ae (fun hb4=>?_) fun hb4=>?_
 intro h
 have hE:=Option.some.inj h
 obtain ⟨hE0,hF0⟩:=Prod.mk.inj hE
 subst hE0 hF0
 exact Ky Hd.Ac _ _ [⟨.Br [],.Br [],(.plain rfl)⟩] [br AZ 0 2 y2b,BE s.Ah,AO s.lines,AO s.facts] (Aa 300 (o2++[pn hb3,pn hb4])) (by kernel_rfl)
 refine Ae (fun hb5=>?_) fun hb5=>?_
 intro h
 have hE:=Option.some.inj h
 obtain ⟨hE0,hF0⟩:=Prod.mk.inj hE
 subst hE0 hF0
 exact Ky Hd.Ac _ _ [⟨.Br [],.Br [],(.plain rfl)⟩] [br AZ 0 2 y2b,BE s.Ah,AO s.lines,AO s.facts] (Aa 300 (o2++[pn hb3,pn hb4,pn hb5])) (by kernel_rfl)
 refine Aj ?_
 rintro ⟨y3a,y3b⟩ hy3
 dsimp only
 intro h
 have hE:=Option.some.inj h
 obtain ⟨hE0,hF0⟩:=Prod.mk.inj hE
 subst hE0 hF0
 exact Ky Hd.Ac _ _ [⟨.Br [],.Br [],(.plain rfl)⟩] [br AZ 0 2 y3b,BE s.Ah,AO s.lines,AO s.facts] (Aa 300 (o2++[pn hb3,pn hb4,pn hb5,AK (Ax (Ao hy3) 3 0)])) (by kernel_rfl)
 refine Aj fun x4 hx4=>?_
 refine Aj ?_
 rintro ⟨y5a,y5b⟩ hy5
 dsimp only
 let o3:List (PC P G):=o1++[pb hb2,CP (Bz .lost hx4),AK (DG (Ek hy5) 0 1 2 3 0)]
 refine Ae (fun hb6=>?_) fun hb6=>?_
 intro h
 have hE:=Option.some.inj h
 obtain ⟨hE0,hF0⟩:=Prod.mk.inj hE
 subst hE0 hF0
 exact Ky Hd.Ac _ _ [⟨.Br [],.Br [],(.plain rfl)⟩] [br AZ 0 2 y5b,BE s.Ah,AO s.lines,AO s.facts] (Aa 300 (o3++[pn hb6])) (by kernel_rfl)
 refine Ae (fun hb7=>?_) fun hb7=>?_
 intro h
 have hE:=Option.some.inj h
 obtain ⟨hE0,hF0⟩:=Prod.mk.inj hE
 subst hE0 hF0
 exact Ky Hd.Ac _ _ [⟨.Br [],.Br [],(.plain rfl)⟩] [br AZ 0 2 y5b,BE s.Ah,AO s.lines,AO s.facts] (Aa 300 (o3++[pn hb6,pn hb7])) (by kernel_rfl)
 refine Ae (fun hb8=>?_) fun hb8=>?_
 intro h
 have hE:=Option.some.inj h
 obtain ⟨hE0,hF0⟩:=Prod.mk.inj hE
 subst hE0 hF0
 exact Ky Hd.Ac _ _ [⟨.Br [],.Br [],(.plain rfl)⟩] [br AZ 0 2 y5b,BE s.Ah,AO s.lines,AO s.facts] (Aa 300 (o3++[pn hb6,pn hb7,pn hb8])) (by kernel_rfl)
 refine Aj ?_
 rintro ⟨y6a,y6b⟩ hy6
 dsimp only
 intro h
 have hE:=Option.some.inj h
 obtain ⟨hE0,hF0⟩:=Prod.mk.inj hE
 subst hE0 hF0
 exact Ky Hd.Ac _ _ [⟨.Br [],.Br [],(.plain rfl)⟩] [br AZ 0 2 y6b,BE s.Ah,AO s.lines,AO s.facts] (Aa 300 (o3++[pn hb6,pn hb7,pn hb8,AK (Ax (Ao hy6) 3 0)])) (by kernel_rfl)
noncomputable def Wr:Code:=A4 Tryz.f16
theorem b16:Tryz.f16.body=some Wr:=by kernel_rfl
noncomputable def Gd  (y3:Sc) (e0:Nd) (i1:Nat) (e1:Nd) (w1_0:(List Dg)):Option (Lp (List Dg) (List Dg) (List Dg)):=(AU y3 e0 e1 w1_0).bind fun (y14a,y14b)=>some (.nx y14b)
noncomputable def Gv  (y3:Sc) (e0:Nd) (i2:Nat) (e2:Nd) (w1_0:(List Dg)):Option (Lp (List Dg) (List Dg) (List Dg)):=(AU y3 e0 e2 w1_0).bind fun (y16a,y16b)=>some (.nx y16b)
noncomputable def Gw  (y3:Sc) (e0:Nd) (i3:Nat) (e3:Nd) (w1_0:(List Dg)):Option (Lp (List Dg) (List Dg) (List Dg)):=(AU y3 e0 e3 w1_0).bind fun (y18a,y18b)=>some (.nx y18b)
noncomputable def Gh  (y3:Sc) (e0:Nd) (i4:Nat) (e4:Nd) (w1_0:(List Dg)):Option (Lp (List Dg) (List Dg) (List Dg)):=(AU y3 e0 e4 w1_0).bind fun (y20a,y20b)=>some (.nx y20b)
noncomputable def Ga  (y3:Sc) (e0:Nd) (i5:Nat) (e5:Nd) (w1_0:(List Dg)):Option (Lp (List Dg) (List Dg) (List Dg)):=(AU y3 e0 e5 w1_0).bind fun (y22a,y22b)=>some (.nx y22b)
noncomputable def Ec  (y3:Sc) (i0:Nat) (e0:Nd) (count6:Int) (w1_0:(List Dg)):Option (Lp (Int×(List Dg)) (List Dg) (List Dg)):=cond (Bs e0.kind 4) (cond ((y3.lines.get e0.name).isSome) (cond (FQ 60 (BM count6 1)) ((An 2 e0.att w1_0).bind fun (y5a,y5b)=>(Jz e0.kids 1 ((e0.kids.length:Nat):Int)).bind fun l6=>(Gy l6.length (AT (fun i y x=>Gd  y3 e0 i y x) (fun x=>x) (l6.drop 0) 0 y5b)).bind (GA (fun (w1_0_15:(List Dg))=>some (.nx ((BM count6 1),w1_0_15))) (fun v=>some (.rt v)))) (cond (BJ ((y3.Ah.get e0.n).getD ByteArray.empty).data.toList e0.name.data.toList) ((Jz e0.kids 1 ((e0.kids.length:Nat):Int)).bind fun l7=>(Gy l7.length (AT (fun i y x=>Gv  y3 e0 i y x) (fun x=>x) (l7.drop 0) 0 w1_0)).bind (GA (fun (w1_0_17:(List Dg))=>some (.nx ((BM count6 1),w1_0_17))) (fun v=>some (.rt v)))) ((An 101 e0.att w1_0).bind fun (y8a,y8b)=>(Jz e0.kids 1 ((e0.kids.length:Nat):Int)).bind fun l9=>(Gy l9.length (AT (fun i y x=>Gw  y3 e0 i y x) (fun x=>x) (l9.drop 0) 0 y8b)).bind (GA (fun (w1_0_19:(List Dg))=>some (.nx ((BM count6 1),w1_0_19))) (fun v=>some (.rt v)))))) (cond (FQ 60 (BM count6 1)) ((An 2 e0.att w1_0).bind fun (y10a,y10b)=>(Jz e0.kids 1 ((e0.kids.length:Nat):Int)).bind fun l11=>(Gy l11.length (AT (fun i y x=>Gh  y3 e0 i y x) (fun x=>x) (l11.drop 0) 0 y10b)).bind (GA (fun (w1_0_21:(List Dg))=>some (.nx ((BM count6 1),w1_0_21))) (fun v=>some (.rt v)))) ((An 91 e0.att w1_0).bind fun (y12a,y12b)=>(Jz e0.kids 1 ((e0.kids.length:Nat):Int)).bind fun l13=>(Gy l13.length (AT (fun i y x=>Ga  y3 e0 i y x) (fun x=>x) (l13.drop 0) 0 y12b)).bind (GA (fun (w1_0_23:(List Dg))=>some (.nx ((BM count6 1),w1_0_23))) (fun v=>some (.rt v)))))) (some (.nx (count6,w1_0)))
noncomputable def CG  (source:Nd):Option (List Dg):=cond (Bs source.kind 1) ((DA source).bind fun y1=>cond y1 ((Dd).bind fun y2=>(Dv source).bind fun y3=>(BT source []).bind fun (y4a,y4b)=>(Gy source.kids.length (AT (fun i y x=>Ec  y3 i y x.1 x.2) (fun x=>x.2) (source.kids.drop 0) 0 (0,y4b))).bind (GA (fun (w1_0_24:(List Dg))=>some w1_0_24) (fun v=>some v))) (some [(⟨1,0⟩:Dg)])) (some [(⟨1,0⟩:Dg)])
theorem Dz   {source:Nd} {yR:(List Dg)} (h:CG  source=some yR):Pure P G 16 [.agg (Ba source)] (.sl .lost yR.length (rows DZ yR)):=by
 unfold CG at h
 refine BK Hd.mixed Hd.Ac (AJ Tryz.func16 b16 ?_) (Bo (Am.F0 source) rfl) (AZ.EH yR)
 revert h
 refine Ae (fun hb1=>?_) fun hb1=>?_
 refine Aj fun y1 hy1=>?_
 refine Ae (fun hv=>?_) fun hv=>?_
 subst hv
 refine Aj fun y2 hy2=>?_
 refine Aj fun y3 hy3=>?_
 refine Aj ?_
 rintro ⟨y4a,y4b⟩ hy4
 dsimp only
 refine DQ (fun Q v=>DS P Tryz.f16 0 Q (.sl .lost v.length (rows DZ v))) (fun i0 ((count6,w1_0):(Int×(List Dg))) (j0:List Value)=>fr 97 [(3,.ptr 1 0),(4,.fn (.func 54) [] [.ptr 1 0]),(5,.ptr 7 0),(6,.sc (.int .i64 count6)),(33,.sl .lost source.kids.length (A7 source.kids)),(34,.sc (.int .i64 ((source.kids.length:Nat):Int))),(35,.sc (.int .i64 ((i0:Nat):Int)))] [10,15,16,18,19,20,36,41,51,52,54,59,60,61,66,74,84] j0) (fun ((count6,w1_0):(Int×(List Dg)))=>⟨[(7,.cells [.mp 4,.mp 5,.mp 6]),(6,(CO y3.Ah)),(5,(A9 y3.lines)),(4,(A9 y3.facts)),(1,.cells [.sl (.row 0 2) w1_0.length (rows DZ w1_0)]),(0,.cells (Ba source))],8,[(0,w1_0.length)],1⟩) (fun (w1_0:(List Dg)) (jx:List Value)=>fr 97 [(3,.ptr 1 0)] [10,15,16,18,19,20,36,41,51,52,54,59,60,61,66,74,84] jx) (fun (w1_0:(List Dg))=>⟨[(7,.cells [.mp 4,.mp 5,.mp 6]),(6,(CO y3.Ah)),(5,(A9 y3.lines)),(4,(A9 y3.facts)),(1,.cells [.sl (.row 0 2) w1_0.length (rows DZ w1_0)]),(0,.cells (Ba source))],8,[(0,w1_0.length)],1⟩) [undef,.bool false,.bool false,.bool true,.bool false,.bool false] (DI [] 0 (sb Wr 2036) [.code (sb Wr 255)] (Aa 300 [pn hb1,Ak (DT hy1),RN (v:=.Br [.ptr 1 0,.fn (.func 54) [] [.ptr 1 0]]) (h:=[(1,.cells [.sl .full 0 []])] ) (F:=[]) (IT (Hc hy2) 1 0),RN (v:=.agg [.mp 4,.mp 5,.mp 6]) (h:=[(6,(CO y3.Ah)),(5,(A9 y3.lines)),(4,(A9 y3.facts))] ) (F:=[]) (Ji (Ht hy3) 2 0),yN [.b 1 0 2],AK (Hz (GC hy4) 1 0)]) (by kernel_rfl)) ?_ ?_ ?_ (fun v h=>by cases h;exact .outer .body)
 rintro i0 ⟨count6,w1_0⟩ j0 hge hq
 exact B8 (Aa 300 [pb (IG hge)]) (by kernel_rfl) (hq (js 17 j0 [(6,.bool false)]))
 rintro i0 e0 ⟨count6,w1_0⟩ j0 r he0 hi0 mi0 k
 show Ec  y3 i0 e0 count6 w1_0=some r→_
 unfold Ec
 let o1:List (PC P G):=[pb (F6 hi0),CP (Bz .lost he0)]
 refine Ae (fun hb2=>?_) fun hb2=>?_
 refine Ae (fun hb3=>?_) fun hb3=>?_
 let o2:List (PC P G):=o1++[pn hb2,pk,J9 (Pe y3.lines e0.name hb3)]
 refine Ae (fun hb4=>?_) fun hb4=>?_
 refine Aj ?_
 rintro ⟨y5a,y5b⟩ hy5
 dsimp only
 refine Aj fun l6 hl6=>?_
 refine DQ (fun Q v=>DS P Tryz.f16 0 Q (.sl .lost v.length (rows DZ v))) (fun i1 (w1_0:(List Dg)) (j1:List Value)=>fr 97 [(3,.ptr 1 0),(4,.fn (.func 54) [] [.ptr 1 0]),(5,.ptr 7 0),(6,.sc (.int .i64 (BM count6 1))),(8,.ptr 8 0),(33,.sl .lost source.kids.length (A7 source.kids)),(34,.sc (.int .i64 ((source.kids.length:Nat):Int))),(35,.sc (.int .i64 ((i0:Nat):Int))),(81,.sl .lost l6.length (A7 l6)),(82,.sc (.int .i64 ((l6.length:Nat):Int))),(83,.sc (.int .i64 ((i1:Nat):Int)))] [10,15,16,18,19,20,36,41,51,52,54,59,60,61,66,74,84] j1) (fun (w1_0:(List Dg))=>⟨[(8,.cells (Ba e0)),(7,.cells [.mp 4,.mp 5,.mp 6]),(6,(CO y3.Ah)),(5,(A9 y3.lines)),(4,(A9 y3.facts)),(1,.cells [.sl (.row 0 2) w1_0.length (rows DZ w1_0)]),(0,.cells (Ba source))],9,[(0,w1_0.length)],1⟩) (fun (w1_0:(List Dg)) (jx:List Value)=>fr 97 [(3,.ptr 1 0),(4,.fn (.func 54) [] [.ptr 1 0]),(5,.ptr 7 0),(6,.sc (.int .i64 (BM count6 1))),(33,.sl .lost source.kids.length (A7 source.kids)),(34,.sc (.int .i64 ((source.kids.length:Nat):Int))),(35,.sc (.int .i64 ((i0:Nat):Int)))] [10,15,16,18,19,20,36,41,51,52,54,59,60,61,66,74,84] jx) (fun (w1_0:(List Dg))=>⟨[(8,.cells (Ba e0)),(7,.cells [.mp 4,.mp 5,.mp 6]),(6,(CO y3.Ah)),(5,(A9 y3.lines)),(4,(A9 y3.facts)),(1,.cells [.sl (.row 0 2) w1_0.length (rows DZ w1_0)]),(0,.cells (Ba source))],9,[(0,w1_0.length)],1⟩) (js 17 j0 [(0,.bool true),(6,.bool true),(7,.bool false),(8,.bool true),(9,.bool true),(10,.bool true)]) (DI [] 3 (sb Wr 8342780) [.endb 1,.code (sb Wr 16295)] (Aa 300 (o2++[pb hb4,AK (Ax (Ao hy5) 1 0),Oh (Gl hl6)])) (by kernel_rfl)) ?_ ?_ ?_ (fun v h=>by cases h;exact .outer (.GX k))
 rintro i1 w1_0 j1 hge hq
 exact B8 (Aa 300 [pb (IG hge)]) (by kernel_rfl) (hq (js 17 j1 [(16,.bool false)]))
 rintro i1 e1 w1_0 j1 r he1 hi1 mi1 k
 show Gd  y3 e0 i1 e1 w1_0=some r→_
 unfold Gd
 refine Aj ?_
 rintro ⟨y14a,y14b⟩ hy14
 dsimp only
 rintro ⟨⟩
 exact B7 Hd.Ac [fq (Am.EH source.kids),fq (Am.EH l6)] [bp (Am.pl e0),none,BE y3.Ah,AO y3.lines,AO y3.facts,br AZ 0 2 y14b,bp (Am.pl source)] (Aa 300 [pb (F6 hi1),CP (Bz .lost he1),AK (BQ (BC hy14) 4 5 6 1 0),pi mi1]) (by kernel_rfl) (k (js 17 j1 [(16,.bool true)]))
 rintro w1_0_15 jx_15
 rintro ⟨⟩
 exact B7 Hd.Ac [fq (Am.EH source.kids)] [none,BE y3.Ah,AO y3.lines,AO y3.facts,br AZ 0 2 w1_0_15,bp (Am.pl source)] (BX 300 [pi mi0]) (by kernel_rfl) (k jx_15)
 refine Ae (fun hb5=>?_) fun hb5=>?_
 refine Aj fun l7 hl7=>?_
 refine DQ (fun Q v=>DS P Tryz.f16 0 Q (.sl .lost v.length (rows DZ v))) (fun i2 (w1_0:(List Dg)) (j2:List Value)=>fr 97 [(3,.ptr 1 0),(4,.fn (.func 54) [] [.ptr 1 0]),(5,.ptr 7 0),(6,.sc (.int .i64 (BM count6 1))),(8,.ptr 8 0),(33,.sl .lost source.kids.length (A7 source.kids)),(34,.sc (.int .i64 ((source.kids.length:Nat):Int))),(35,.sc (.int .i64 ((i0:Nat):Int))),(81,.sl .lost l7.length (A7 l7)),(82,.sc (.int .i64 ((l7.length:Nat):Int))),(83,.sc (.int .i64 ((i2:Nat):Int)))] [10,15,16,18,19,20,36,41,51,52,54,59,60,61,66,74,84] j2) (fun (w1_0:(List Dg))=>⟨[(8,.cells (Ba e0)),(7,.cells [.mp 4,.mp 5,.mp 6]),(6,(CO y3.Ah)),(5,(A9 y3.lines)),(4,(A9 y3.facts)),(1,.cells [.sl (.row 0 2) w1_0.length (rows DZ w1_0)]),(0,.cells (Ba source))],9,[(0,w1_0.length)],1⟩) (fun (w1_0:(List Dg)) (jx:List Value)=>fr 97 [(3,.ptr 1 0),(4,.fn (.func 54) [] [.ptr 1 0]),(5,.ptr 7 0),(6,.sc (.int .i64 (BM count6 1))),(33,.sl .lost source.kids.length (A7 source.kids)),(34,.sc (.int .i64 ((source.kids.length:Nat):Int))),(35,.sc (.int .i64 ((i0:Nat):Int)))] [10,15,16,18,19,20,36,41,51,52,54,59,60,61,66,74,84] jx) (fun (w1_0:(List Dg))=>⟨[(8,.cells (Ba e0)),(7,.cells [.mp 4,.mp 5,.mp 6]),(6,(CO y3.Ah)),(5,(A9 y3.lines)),(4,(A9 y3.facts)),(1,.cells [.sl (.row 0 2) w1_0.length (rows DZ w1_0)]),(0,.cells (Ba source))],9,[(0,w1_0.length)],1⟩) [.bool true,(jv j0 1),(jv j0 2),(jv j0 3),(jv j0 4),(jv j0 5),.bool true,.bool false,.bool true,.bool false,.bool false,.bool false,.bool true,.bool false,.bool false,.bool false,(jv j0 16)] (DI [] 3 (sb Wr 8342780) [.endb 1,.code (sb Wr 16295)] (Aa 300 (o2++[pb hb4,J9 (jN y3.Ah e0.n),pn hb5,Oh (Gl hl7)])) (by kernel_rfl)) ?_ ?_ ?_ (fun v h=>by cases h;exact .outer (.GX k))
 rintro i2 w1_0 j2 hge hq
 exact B8 (Aa 300 [pb (IG hge)]) (by kernel_rfl) (hq (js 17 j2 [(16,.bool false)]))
 rintro i2 e2 w1_0 j2 r he2 hi2 mi2 k
 show Gv  y3 e0 i2 e2 w1_0=some r→_
 unfold Gv
 refine Aj ?_
 rintro ⟨y16a,y16b⟩ hy16
 dsimp only
 rintro ⟨⟩
 exact B7 Hd.Ac [fq (Am.EH source.kids),fq (Am.EH l7)] [bp (Am.pl e0),none,BE y3.Ah,AO y3.lines,AO y3.facts,br AZ 0 2 y16b,bp (Am.pl source)] (Aa 300 [pb (F6 hi2),CP (Bz .lost he2),AK (BQ (BC hy16) 4 5 6 1 0),pi mi2]) (by kernel_rfl) (k (js 17 j2 [(16,.bool true)]))
 rintro w1_0_17 jx_17
 rintro ⟨⟩
 exact B7 Hd.Ac [fq (Am.EH source.kids)] [none,BE y3.Ah,AO y3.lines,AO y3.facts,br AZ 0 2 w1_0_17,bp (Am.pl source)] (BX 300 [pi mi0]) (by kernel_rfl) (k jx_17)
 refine Aj ?_
 rintro ⟨y8a,y8b⟩ hy8
 dsimp only
 refine Aj fun l9 hl9=>?_
 refine DQ (fun Q v=>DS P Tryz.f16 0 Q (.sl .lost v.length (rows DZ v))) (fun i3 (w1_0:(List Dg)) (j3:List Value)=>fr 97 [(3,.ptr 1 0),(4,.fn (.func 54) [] [.ptr 1 0]),(5,.ptr 7 0),(6,.sc (.int .i64 (BM count6 1))),(8,.ptr 8 0),(33,.sl .lost source.kids.length (A7 source.kids)),(34,.sc (.int .i64 ((source.kids.length:Nat):Int))),(35,.sc (.int .i64 ((i0:Nat):Int))),(81,.sl .lost l9.length (A7 l9)),(82,.sc (.int .i64 ((l9.length:Nat):Int))),(83,.sc (.int .i64 ((i3:Nat):Int)))] [10,15,16,18,19,20,36,41,51,52,54,59,60,61,66,74,84] j3) (fun (w1_0:(List Dg))=>⟨[(8,.cells (Ba e0)),(7,.cells [.mp 4,.mp 5,.mp 6]),(6,(CO y3.Ah)),(5,(A9 y3.lines)),(4,(A9 y3.facts)),(1,.cells [.sl (.row 0 2) w1_0.length (rows DZ w1_0)]),(0,.cells (Ba source))],9,[(0,w1_0.length)],1⟩) (fun (w1_0:(List Dg)) (jx:List Value)=>fr 97 [(3,.ptr 1 0),(4,.fn (.func 54) [] [.ptr 1 0]),(5,.ptr 7 0),(6,.sc (.int .i64 (BM count6 1))),(33,.sl .lost source.kids.length (A7 source.kids)),(34,.sc (.int .i64 ((source.kids.length:Nat):Int))),(35,.sc (.int .i64 ((i0:Nat):Int)))] [10,15,16,18,19,20,36,41,51,52,54,59,60,61,66,74,84] jx) (fun (w1_0:(List Dg))=>⟨[(8,.cells (Ba e0)),(7,.cells [.mp 4,.mp 5,.mp 6]),(6,(CO y3.Ah)),(5,(A9 y3.lines)),(4,(A9 y3.facts)),(1,.cells [.sl (.row 0 2) w1_0.length (rows DZ w1_0)]),(0,.cells (Ba source))],9,[(0,w1_0.length)],1⟩) [.bool true,(jv j0 1),(jv j0 2),(jv j0 3),(jv j0 4),(jv j0 5),.bool true,.bool false,.bool true,.bool false,.bool false,.bool false,.bool true,.bool false,.bool true,.bool true,(jv j0 16)] (DI [] 3 (sb Wr 8342780) [.endb 1,.code (sb Wr 16295)] (Aa 300 (o2++[pb hb4,J9 (jN y3.Ah e0.n),pn hb5,AK (Ax (Ao hy8) 1 0),Oh (Gl hl9)])) (by kernel_rfl)) ?_ ?_ ?_ (fun v h=>by cases h;exact .outer (.GX k))
 rintro i3 w1_0 j3 hge hq
 exact B8 (Aa 300 [pb (IG hge)]) (by kernel_rfl) (hq (js 17 j3 [(16,.bool false)]))
 rintro i3 e3 w1_0 j3 r he3 hi3 mi3 k
 show Gw  y3 e0 i3 e3 w1_0=some r→_
 unfold Gw
 refine Aj ?_
 rintro ⟨y18a,y18b⟩ hy18
 dsimp only
 rintro ⟨⟩
 exact B7 Hd.Ac [fq (Am.EH source.kids),fq (Am.EH l9)] [bp (Am.pl e0),none,BE y3.Ah,AO y3.lines,AO y3.facts,br AZ 0 2 y18b,bp (Am.pl source)] (Aa 300 [pb (F6 hi3),CP (Bz .lost he3),AK (BQ (BC hy18) 4 5 6 1 0),pi mi3]) (by kernel_rfl) (k (js 17 j3 [(16,.bool true)]))
 rintro w1_0_19 jx_19
 rintro ⟨⟩
 exact B7 Hd.Ac [fq (Am.EH source.kids)] [none,BE y3.Ah,AO y3.lines,AO y3.facts,br AZ 0 2 w1_0_19,bp (Am.pl source)] (BX 300 [pi mi0]) (by kernel_rfl) (k jx_19)
 refine Ae (fun hb6=>?_) fun hb6=>?_
 refine Aj ?_
 rintro ⟨y10a,y10b⟩ hy10
 dsimp only
 refine Aj fun l11 hl11=>?_
 refine DQ (fun Q v=>DS P Tryz.f16 0 Q (.sl .lost v.length (rows DZ v))) (fun i4 (w1_0:(List Dg)) (j4:List Value)=>fr 97 [(3,.ptr 1 0),(4,.fn (.func 54) [] [.ptr 1 0]),(5,.ptr 7 0),(6,.sc (.int .i64 (BM count6 1))),(8,.ptr 8 0),(33,.sl .lost source.kids.length (A7 source.kids)),(34,.sc (.int .i64 ((source.kids.length:Nat):Int))),(35,.sc (.int .i64 ((i0:Nat):Int))),(81,.sl .lost l11.length (A7 l11)),(82,.sc (.int .i64 ((l11.length:Nat):Int))),(83,.sc (.int .i64 ((i4:Nat):Int)))] [10,15,16,18,19,20,36,41,51,52,54,59,60,61,66,74,84] j4) (fun (w1_0:(List Dg))=>⟨[(8,.cells (Ba e0)),(7,.cells [.mp 4,.mp 5,.mp 6]),(6,(CO y3.Ah)),(5,(A9 y3.lines)),(4,(A9 y3.facts)),(1,.cells [.sl (.row 0 2) w1_0.length (rows DZ w1_0)]),(0,.cells (Ba source))],9,[(0,w1_0.length)],1⟩) (fun (w1_0:(List Dg)) (jx:List Value)=>fr 97 [(3,.ptr 1 0),(4,.fn (.func 54) [] [.ptr 1 0]),(5,.ptr 7 0),(6,.sc (.int .i64 (BM count6 1))),(33,.sl .lost source.kids.length (A7 source.kids)),(34,.sc (.int .i64 ((source.kids.length:Nat):Int))),(35,.sc (.int .i64 ((i0:Nat):Int)))] [10,15,16,18,19,20,36,41,51,52,54,59,60,61,66,74,84] jx) (fun (w1_0:(List Dg))=>⟨[(8,.cells (Ba e0)),(7,.cells [.mp 4,.mp 5,.mp 6]),(6,(CO y3.Ah)),(5,(A9 y3.lines)),(4,(A9 y3.facts)),(1,.cells [.sl (.row 0 2) w1_0.length (rows DZ w1_0)]),(0,.cells (Ba source))],9,[(0,w1_0.length)],1⟩) (js 17 j0 [(0,.bool false),(6,.bool true),(7,.bool false),(8,.bool false),(9,.bool true),(10,.bool true)]) (DI [] 3 (sb Wr 8342780) [.endb 1,.code (sb Wr 16295)] (Aa 300 (o1++[pn hb2,pk,J9 (Pe y3.lines e0.name hb3),pb hb6,AK (Ax (Ao hy10) 1 0),Oh (Gl hl11)])) (by kernel_rfl)) ?_ ?_ ?_ (fun v h=>by cases h;exact .outer (.GX k))
 rintro i4 w1_0 j4 hge hq
 exact B8 (Aa 300 [pb (IG hge)]) (by kernel_rfl) (hq (js 17 j4 [(16,.bool false)]))
 rintro i4 e4 w1_0 j4 r he4 hi4 mi4 k
 show Gh  y3 e0 i4 e4 w1_0=some r→_
 unfold Gh
 refine Aj ?_
 rintro ⟨y20a,y20b⟩ hy20
 dsimp only
 rintro ⟨⟩
 exact B7 Hd.Ac [fq (Am.EH source.kids),fq (Am.EH l11)] [bp (Am.pl e0),none,BE y3.Ah,AO y3.lines,AO y3.facts,br AZ 0 2 y20b,bp (Am.pl source)] (Aa 300 [pb (F6 hi4),CP (Bz .lost he4),AK (BQ (BC hy20) 4 5 6 1 0),pi mi4]) (by kernel_rfl) (k (js 17 j4 [(16,.bool true)]))
 rintro w1_0_21 jx_21
 rintro ⟨⟩
 exact B7 Hd.Ac [fq (Am.EH source.kids)] [none,BE y3.Ah,AO y3.lines,AO y3.facts,br AZ 0 2 w1_0_21,bp (Am.pl source)] (BX 300 [pi mi0]) (by kernel_rfl) (k jx_21)
 refine Aj ?_
 rintro ⟨y12a,y12b⟩ hy12
 dsimp only
 refine Aj fun l13 hl13=>?_
 refine DQ (fun Q v=>DS P Tryz.f16 0 Q (.sl .lost v.length (rows DZ v))) (fun i5 (w1_0:(List Dg)) (j5:List Value)=>fr 97 [(3,.ptr 1 0),(4,.fn (.func 54) [] [.ptr 1 0]),(5,.ptr 7 0),(6,.sc (.int .i64 (BM count6 1))),(8,.ptr 8 0),(33,.sl .lost source.kids.length (A7 source.kids)),(34,.sc (.int .i64 ((source.kids.length:Nat):Int))),(35,.sc (.int .i64 ((i0:Nat):Int))),(81,.sl .lost l13.length (A7 l13)),(82,.sc (.int .i64 ((l13.length:Nat):Int))),(83,.sc (.int .i64 ((i5:Nat):Int)))] [10,15,16,18,19,20,36,41,51,52,54,59,60,61,66,74,84] j5) (fun (w1_0:(List Dg))=>⟨[(8,.cells (Ba e0)),(7,.cells [.mp 4,.mp 5,.mp 6]),(6,(CO y3.Ah)),(5,(A9 y3.lines)),(4,(A9 y3.facts)),(1,.cells [.sl (.row 0 2) w1_0.length (rows DZ w1_0)]),(0,.cells (Ba source))],9,[(0,w1_0.length)],1⟩) (fun (w1_0:(List Dg)) (jx:List Value)=>fr 97 [(3,.ptr 1 0),(4,.fn (.func 54) [] [.ptr 1 0]),(5,.ptr 7 0),(6,.sc (.int .i64 (BM count6 1))),(33,.sl .lost source.kids.length (A7 source.kids)),(34,.sc (.int .i64 ((source.kids.length:Nat):Int))),(35,.sc (.int .i64 ((i0:Nat):Int)))] [10,15,16,18,19,20,36,41,51,52,54,59,60,61,66,74,84] jx) (fun (w1_0:(List Dg))=>⟨[(8,.cells (Ba e0)),(7,.cells [.mp 4,.mp 5,.mp 6]),(6,(CO y3.Ah)),(5,(A9 y3.lines)),(4,(A9 y3.facts)),(1,.cells [.sl (.row 0 2) w1_0.length (rows DZ w1_0)]),(0,.cells (Ba source))],9,[(0,w1_0.length)],1⟩) (js 17 j0 [(0,.bool false),(6,.bool true),(7,.bool false),(8,.bool false),(9,.bool false),(10,.bool false),(11,.bool true),(12,.bool false),(13,.bool true)]) (DI [] 3 (sb Wr 8342780) [.endb 1,.code (sb Wr 16295)] (Aa 300 (o1++[pn hb2,pk,J9 (Pe y3.lines e0.name hb3),pb hb6,AK (Ax (Ao hy12) 1 0),Oh (Gl hl13)])) (by kernel_rfl)) ?_ ?_ ?_ (fun v h=>by cases h;exact .outer (.GX k))
 rintro i5 w1_0 j5 hge hq
 exact B8 (Aa 300 [pb (IG hge)]) (by kernel_rfl) (hq (js 17 j5 [(16,.bool false)]))
 rintro i5 e5 w1_0 j5 r he5 hi5 mi5 k
 show Ga  y3 e0 i5 e5 w1_0=some r→_
 unfold Ga
 refine Aj ?_
 rintro ⟨y22a,y22b⟩ hy22
 dsimp only
 rintro ⟨⟩
 exact B7 Hd.Ac [fq (Am.EH source.kids),fq (Am.EH l13)] [bp (Am.pl e0),none,BE y3.Ah,AO y3.lines,AO y3.facts,br AZ 0 2 y22b,bp (Am.pl source)] (Aa 300 [pb (F6 hi5),CP (Bz .lost he5),AK (BQ (BC hy22) 4 5 6 1 0),pi mi5]) (by kernel_rfl) (k (js 17 j5 [(16,.bool true)]))
 rintro w1_0_23 jx_23
 rintro ⟨⟩
 exact B7 Hd.Ac [fq (Am.EH source.kids)] [none,BE y3.Ah,AO y3.lines,AO y3.facts,br AZ 0 2 w1_0_23,bp (Am.pl source)] (BX 300 [pi mi0]) (by kernel_rfl) (k jx_23)
 rintro ⟨⟩
 exact B7 Hd.Ac [fq (Am.EH source.kids)] [none,BE y3.Ah,AO y3.lines,AO y3.facts,br AZ 0 2 w1_0,bp (Am.pl source)] (Aa 300 (o1++[pn hb2,pi mi0])) (by kernel_rfl) (k (js 17 j0 [(6,.bool true),(7,.bool true)]))
 rintro w1_0_24 jx_24
 intro h
 have hE:=Option.some.inj h
 subst hE
 exact AB (v:=.sl (.row 0 2) w1_0_24.length (rows DZ w1_0_24)) _ _ (BX 300 []) (by kernel_rfl) .body (.wn (.s rfl .nil) (AZ.EH w1_0_24))
 subst hv
 intro h
 have hE:=Option.some.inj h
 subst hE
 exact AB (v:=.sl .full 1 [.sc (.int .i64 1),.sc (.int .i64 0)]) _ _ (Aa 300 [pn hb1,Ak (DT hy1)]) (by kernel_rfl) .body (.wn (.d (.r (.r .nil)) (AZ.eq [(⟨1,0⟩:Dg)]).symm .nil) (AZ.EH [(⟨1,0⟩:Dg)]))
 intro h
 have hE:=Option.some.inj h
 subst hE
 exact AB (v:=.sl .full 1 [.sc (.int .i64 1),.sc (.int .i64 0)]) _ _ (Aa 300 [pn hb1]) (by kernel_rfl) .body (.wn (.d (.r (.r .nil)) (AZ.eq [(⟨1,0⟩:Dg)]).symm .nil) (AZ.EH [(⟨1,0⟩:Dg)]))
end Mo
end Go.Proofs.YtkfplcngmiljaaaGreatDoor
