/- Part of a proof: see the last text. -/
import Derived.Test.YtkfplcngmiljaaaGreatDoorUmj
set_option linter.unusedVariables false
set_option linter.unusedSimpArgs false
namespace Go.Proofs.YtkfplcngmiljaaaGreatDoor
open AI Go
namespace Mo
set_option maxRecDepth 100000
set_option maxHeartbeats 4000000
noncomputable def DV  (depth:Int) (i0:Nat) (e0:Nd) (w0_0:Int):Option (Lp Int Int (Bool×Int)):=(Cw (⟨w0_0⟩:Ck) e0 depth).bind fun (y1a,y1b)=>cond y1a (some (.nx y1b)) (some (.rt (false,y1b)))
noncomputable def C7  (c:Ck) (list:(List Nd)) (depth:Int):Option (Bool×Int):=(It list.length (AL (fun i y x=>DV  depth i y x) (fun x=>x) (list.drop 0) 0 c.nodes)).bind (Ii (fun (w0_0_2:Int)=>some (true,w0_0_2)) (fun v=>some v))
theorem Jj {c:Ck} {list:(List Nd)} {depth:Int} {yR:Bool} {qc_nodesR:Int} (hS:Sound P G (.call 52 [.ptr 0 0,.sl .lost list.length (Ba list),.sc (.int .i64 depth),.fn (.func 53) [.ptr 0 0] []] ⟨[(0,.cells (Fj c))],1,[],0⟩ (.ret (.sc (.bool yR))) ⟨[(0,.cells [.sc (.int .i64 qc_nodesR)])],1,[],0⟩)) (u0:Nat) (hnb:[u0].Nodup:=by decide) (hnt:([]:List Nat).Nodup:=by decide):Cd.ok P G (.callU 52 [.ptr u0 0,.sl .lost list.length (Ba list),.sc (.int .i64 depth),.fn (.func 53) [.ptr u0 0] []] (.ret (.sc (.bool yR))) [(u0,.cells (Fj c))] [] [(u0,.cells [.sc (.int .i64 qc_nodesR)])] []) :=
 DE (M:=[.cells (Fj c)]) (M2:=[.cells [.sc (.int .i64 qc_nodesR)]]) (T:=[]) (T2:=[]) (k:=1) (j:=0) Hd.Aa _ _ _ _ hS rfl rfl rfl rfl rfl hnb hnt rfl rfl (.cons (.cells (.pl (KD.pl c))) .nil) (.cons (.cells (.pl (A2 rfl rfl))) .nil) (.cons (.ptr (by decide)) (.cons (.pl (Al.B9 list)) (.cons (.pl rfl) (.cons (.fn (.cons (.ptr (by decide)) .nil) (.pl rfl)) .nil)))) (.pl rfl) (fun e he=>by simp only [List.mem_singleton] at he;subst he;exact (.arg (.here .ptr)))
theorem Iu   {c:Ck} {list:(List Nd)} {depth:Int} {yR:Bool} {qc_nodesR:Int} (h:C7  c list depth=some (yR,qc_nodesR)):Sound P G (.call 52 [.ptr 0 0,.sl .lost list.length (Ba list),.sc (.int .i64 depth),.fn (.func 53) [.ptr 0 0] []] ⟨[(0,.cells (Fj c))],1,[],0⟩ (.ret (.sc (.bool yR))) ⟨[(0,.cells [.sc (.int .i64 qc_nodesR)])],1,[],0⟩):=by
 unfold C7 at h
 refine DI Hd.mixed (AB Tryz.func52 uD ?_)
 revert h
 refine Fb (fun Q v=>Je P G Tryz.f52 1 ⟨[(0,.cells (Fj c))],1,[],0⟩ Q (.sc (.bool v.1)) ⟨[(0,.cells [.sc (.int .i64 v.2)])],1,[],0⟩) (fun i0 (w0_0:Int) (j0:List Value)=>fr 23 [(2,.sc (.int .i64 depth)),(3,.fn (.func 53) [.ptr 0 0] []),(11,.sl .lost list.length (Ba list)),(12,.sc (.int .i64 ((list.length:Nat):Int))),(13,.sc (.int .i64 ((i0:Nat):Int)))] [8,14,20,21] j0) (fun (w0_0:Int)=>⟨[(0,.cells [.sc (.int .i64 w0_0)])],1,[],0⟩) (fun (w0_0:Int) (jx:List Value)=>fr 23 [] [8,14,20,21] jx) (fun (w0_0:Int)=>⟨[(0,.cells [.sc (.int .i64 w0_0)])],1,[],0⟩) [.bool false] (EO [] 0 (sb eF 52) [.code (sb eF 7)] (Ab 300 []) (by kernel_rfl)) ?_ ?_ ?_ (fun v h=>by cases h;exact .outer .body)
 rintro i0 w0_0 j0 hge hq
 exact CT (Ab 300 [pb (Kz hge)]) (by kernel_rfl) (hq (js 4 j0 [(1,.bool false)]))
 rintro i0 e0 w0_0 j0 r he0 hi0 mi0 k
 show DV  depth i0 e0 w0_0=some r→_
 unfold DV
 refine Ah ?_
 rintro ⟨y1a,y1b⟩ hy1
 dsimp only
 let o1:List (PC P G):=[pb (GD hi0),Ct (BD .lost he0),Ay (KG (JA hy1) 0)]
 refine Ae (fun hv=>?_) fun hv=>?_
 subst hv
 rintro ⟨⟩
 exact BJ Hd.Aa [fq (Al.B9 list)] [none] (Ab 300 (o1++[pi mi0])) (by kernel_rfl) (k [(jv j0 0),.bool true,.bool true,.bool false])
 subst hv
 rintro ⟨⟩
 exact An Hd.Aa _ _ [] [none] (Ab 300 o1) (by kernel_rfl) (.GS k)
 rintro w0_0_2 jx_2
 intro h
 have hE:=Option.some.inj h
 obtain ⟨hE0,hF0⟩:=Prod.mk.inj hE
 subst hE0 hF0
 exact An Hd.Aa _ _ [] [none] (Cc 300 []) (by kernel_rfl) .body
noncomputable def B29:Code:=A3 Tryz.f29
theorem b29:Tryz.f29.body=some B29:=by kernel_rfl
noncomputable def DW  (n:Nd):Option Bool:=cond (Bq n.kind 1) ((Br (⟨0⟩:Ck) n 1).bind fun (y1a,y1b)=>cond y1a ((Bf n (⟨0,ByteArray.empty,ByteArray.empty,0,0,0,0,(⟨0,[]⟩:Fn),[],0⟩:Nd)).bind fun y2=>cond y2 ((C7 (⟨y1b⟩:Ck) n.kids 2).bind fun (y3a,y3b)=>some y3a) (some false)) (some false)) ((D0 (⟨0⟩:Ck) n 1).bind fun (y4a,y4b)=>some y4a)
theorem D9   {n:Nd} {yR:Bool} (h:DW  n=some yR):Pure P G 29 [.agg (Bl n)] (.sc (.bool yR)):=by
 unfold DW at h
 refine BB Hd.mixed Hd.Aa (AB Tryz.func29 b29 ?_) (A2 (Al.GB n) rfl) rfl
 revert h
 refine Ae (fun hb1=>?_) fun hb1=>?_
 refine Ah ?_
 rintro ⟨y1a,y1b⟩ hy1
 dsimp only
 let o1:List (PC P G):=[pn hb1,Ay (Da (CE hy1) 1)]
 refine Ae (fun hv=>?_) fun hv=>?_
 subst hv
 refine Ah fun y2 hy2=>?_
 let o2:List (PC P G):=o1++[Eg (.r (.g (.r (.r (.r (.r (.r (.r (.r (.r (.z (.z (.r .nil))))))))))) .nil)) (Be hy2)]
 refine Ae (fun hv=>?_) fun hv=>?_
 subst hv
 refine Ah ?_
 rintro ⟨y3a,y3b⟩ hy3
 dsimp only
 intro h
 have hE:=Option.some.inj h
 subst hE
 exact rS (Ab 300 (o2++[Ay (Jj (Iu hy3) 1)])) (by kernel_rfl)
 subst hv
 rintro ⟨⟩
 exact rS (Ab 300 o2) (by kernel_rfl)
 subst hv
 rintro ⟨⟩
 exact rS (Ab 300 o1) (by kernel_rfl)
 refine Ah ?_
 rintro ⟨y4a,y4b⟩ hy4
 dsimp only
 intro h
 have hE:=Option.some.inj h
 subst hE
 exact rS (Ab 300 [pn hb1,Ay (AP (GJ hy4) 1)]) (by kernel_rfl)
noncomputable def B30:Code:=A3 Tryz.f30
theorem b30:Tryz.f30.body=some B30:=by kernel_rfl
noncomputable def Dv  :Option Unit:=some ()
theorem Jr  (hS:Sound P G (.call 30 [] ⟨[],0,[],0⟩ (.ret (.A9 [.ptr 0 0,.fn (.func 54) [] [.ptr 0 0]])) ⟨[(0,.cells [.sl .full 0 []])],1,[],0⟩)) (nx nr:Nat):Cd.ok P G (.callN 30 [] nx nr (.A9 [.ptr (nx+0) 0,.fn (.func 54) [] [.ptr (nx+0) 0]]) [((nx+0),.cells [.sl .full 0 []])] 1 [] 0) :=
 Yx Hd.Aa hS rfl (.A9 (.cons (.ptr (by decide)) (.cons (.fn (.pl rfl) (.cons (.ptr (by decide)) .nil)) .nil))) (.cons (.cells (.pl (A2 (LW rfl) rfl))) .nil)
theorem Ih  (h:Dv =some ()):Sound P G (.call 30 [] ⟨[],0,[],0⟩ (.ret (.A9 [.ptr 0 0,.fn (.func 54) [] [.ptr 0 0]])) ⟨[(0,.cells [.sl .full 0 []])],1,[],0⟩):=by
 unfold Dv at h
 refine Yk Hd.mixed (S3 (m:=1) Tryz.func30 b30 ?_)
 revert h
 intro h
 exact VX (n:=1) (m0:=0) Hd.Aa _ _ [0] [1] [⟨.A9 [.ptr 0 0,.fn (.func 54) [] [.ptr 0 0]],.A9 [.ptr 0 0,.fn (.func 54) [] [.ptr 0 0]],(.under (A5 rfl (A5 (wI rfl (A5 rfl rfl)) rfl)))⟩] [fbp [.sl .full 0 []] (A2 (LW rfl) rfl)] _ _ (Ab 300 []) (Nat.zero_le _) (Nat.zero_le _) (by kernel_rfl) .body
noncomputable def wN:Code:=A3 Tryz.f31
theorem b31:Tryz.f31.body=some wN:=by kernel_rfl
noncomputable def Dt   (i0:Nat) (e0:Nd) (w2_m:(Mm ByteArray ByteArray)) (w3_m:(Mm ByteArray ByteArray)) (w4_m:(Mm Int ByteArray)):Option (Lp ((Mm ByteArray ByteArray)×(Mm ByteArray ByteArray)×(Mm Int ByteArray)) ((Mm ByteArray ByteArray)×(Mm ByteArray ByteArray)×(Mm Int ByteArray)) Sc):=cond (Bq e0.kind 2) (cond ((w2_m.get e0.name).isSome) (some (.nx (w2_m,w3_m,w4_m))) (some (.nx ((w2_m.set e0.name e0.unit),w3_m,w4_m)))) (cond (Bq e0.kind 3) (cond ((w3_m.get e0.name).isSome) (some (.nx (w2_m,w3_m,w4_m))) (some (.nx (w2_m,(w3_m.set e0.name e0.unit),w4_m)))) (cond (Bq e0.kind 4) (cond ((w4_m.get e0.n).isSome) (some (.nx (w2_m,w3_m,w4_m))) (some (.nx (w2_m,w3_m,(w4_m.set e0.n e0.name))))) (some (.nx (w2_m,w3_m,w4_m)))))
noncomputable def DM  (source:Nd):Option Sc:=(It source.kids.length (AL (fun i y x=>Dt   i y x.1 x.2.1 x.2.2) (fun x=>(x.1,x.2.1,x.2.2)) (source.kids.drop 0) 0 ((Mm.nil:Mm ByteArray ByteArray),(Mm.nil:Mm ByteArray ByteArray),(Mm.nil:Mm Int ByteArray)))).bind (Ii (fun ((w2_m_1,w3_m_1,w4_m_1):((Mm ByteArray ByteArray)×(Mm ByteArray ByteArray)×(Mm Int ByteArray)))=>some (⟨w2_m_1,w3_m_1,w4_m_1⟩:Sc)) (fun v=>some v))
theorem JL {source:Nd} {y0R:Sc} (hS:Sound P G (.call 31 [.agg (Bl source)] ⟨[],0,[],0⟩ (.ret (.agg [.mp 2,.mp 3,.mp 4])) ⟨[(4,(C0 y0R.Ai)),(3,(Bh y0R.lines)),(2,(Bh y0R.facts))],5,[],0⟩)) (nx nr:Nat):Cd.ok P G (.callN 31 [.agg (Bl source)] nx nr (.agg [.mp (nx+2),.mp (nx+3),.mp (nx+4)]) [((nx+4),(C0 y0R.Ai)),((nx+3),(Bh y0R.lines)),((nx+2),(Bh y0R.facts))] 5 [] 0) :=
 Yx Hd.Aa hS (A2 (Al.GB source) rfl) (.agg (.cons (.mp (by decide)) (.cons (.mp (by decide)) (.cons (.mp (by decide)) .nil)))) (.cons (I7 (fun _=>rfl)) (.cons (I7 (fun _=>rfl)) (.cons (I7 (fun _=>rfl)) .nil)))
theorem IC {source:Nd} {y0R:Sc} (h:DM source=some y0R):Sound P G (.call 31 [.agg (Bl source)] ⟨[],0,[],0⟩ (.ret (.agg [.mp 2,.mp 3,.mp 4])) ⟨[(4,(C0 y0R.Ai)),(3,(Bh y0R.lines)),(2,(Bh y0R.facts))],5,[],0⟩):=by
 unfold DM at h
 refine Yk Hd.mixed (S3 (m:=5) Tryz.func31 b31 ?_)
 revert h
 refine Fb (fun Q v=>Je P G Tryz.f31 5 ⟨[],0,[],0⟩ Q (.agg [.mp 2,.mp 3,.mp 4]) ⟨[(4,(C0 v.Ai)),(3,(Bh v.lines)),(2,(Bh v.facts))],5,[],0⟩) (fun i0 ((w2_m,w3_m,w4_m):((Mm ByteArray ByteArray)×(Mm ByteArray ByteArray)×(Mm Int ByteArray))) (j0:List Value)=>fr 81 [(2,.ptr 1 0),(3,.ptr 5 0),(17,.sl .lost source.kids.length (Ba source.kids)),(18,.sc (.int .i64 ((source.kids.length:Nat):Int))),(19,.sc (.int .i64 ((i0:Nat):Int)))] [7,9,11,20,25,26,34,35,36,43,44,52,53,54,61,62,70,71,72] j0) (fun ((w2_m,w3_m,w4_m):((Mm ByteArray ByteArray)×(Mm ByteArray ByteArray)×(Mm Int ByteArray)))=>⟨[(5,.cells [.mp 2,.mp 3,.mp 4]),(4,(C0 w4_m)),(3,(Bh w3_m)),(2,(Bh w2_m)),(1,.cells [.sc (.map none),.sc (.map none),.sc (.map none)]),(0,.cells (Bl source))],6,[],0⟩) (fun ((w2_m,w3_m,w4_m):((Mm ByteArray ByteArray)×(Mm ByteArray ByteArray)×(Mm Int ByteArray))) (jx:List Value)=>fr 81 [(2,.ptr 1 0),(3,.ptr 5 0)] [7,9,11,20,25,26,34,35,36,43,44,52,53,54,61,62,70,71,72] jx) (fun ((w2_m,w3_m,w4_m):((Mm ByteArray ByteArray)×(Mm ByteArray ByteArray)×(Mm Int ByteArray)))=>⟨[(5,.cells [.mp 2,.mp 3,.mp 4]),(4,(C0 w4_m)),(3,(Bh w3_m)),(2,(Bh w2_m)),(1,.cells [.sc (.map none),.sc (.map none),.sc (.map none)]),(0,.cells (Bl source))],6,[],0⟩) [] (EO [] 0 (sb wN 116) [.code (sb wN 15)] (Ab 300 []) (by kernel_rfl)) ?_ ?_ ?_ (fun v h=>by cases h;exact .outer .body)
 rintro i0 ⟨w2_m,w3_m,w4_m⟩ j0 hge hq
 exact CT (Ab 300 [pb (Kz hge)]) (by kernel_rfl) (hq (js 19 j0 [(3,.bool false)]))
 rintro i0 e0 ⟨w2_m,w3_m,w4_m⟩ j0 r he0 hi0 mi0 k
 show Dt   i0 e0 w2_m w3_m w4_m=some r→_
 unfold Dt
 let o1:List (PC P G):=[pb (GD hi0),Ct (BD .lost he0)]
 refine Ae (fun hb1=>?_) fun hb1=>?_
 refine Ae (fun hb2=>?_) fun hb2=>?_
 rintro ⟨⟩
 exact BJ Hd.Aa [fq (Al.B9 source.kids)] [none,BP w4_m,AU w3_m,AU w2_m,none,bp (Al.pl source)] (Ab 300 (o1++[pb hb1,KN (Pk w2_m e0.name hb2),pi mi0])) (by kernel_rfl) (k (js 19 j0 [(0,.bool true),(3,.bool true),(4,.bool true),(5,.bool true),(6,.bool true),(7,.bool true),(8,.bool false)]))
 rintro ⟨⟩
 exact BJ Hd.Aa [fq (Al.B9 source.kids)] [none,BP w4_m,AU w3_m,AU (w2_m.set e0.name e0.unit),none,bp (Al.pl source)] (Ab 300 (o1++[pb hb1,KN (Pk w2_m e0.name hb2),Xb (rU w2_m e0.name e0.unit),pi mi0])) (by kernel_rfl) (k (js 19 j0 [(0,.bool false),(3,.bool true),(4,.bool true),(5,.bool true),(6,.bool false),(7,.bool false),(8,.bool true)]))
 refine Ae (fun hb3=>?_) fun hb3=>?_
 refine Ae (fun hb4=>?_) fun hb4=>?_
 rintro ⟨⟩
 exact BJ Hd.Aa [fq (Al.B9 source.kids)] [none,BP w4_m,AU w3_m,AU w2_m,none,bp (Al.pl source)] (Ab 300 (o1++[pb hb1,pb hb3,KN (Pk w3_m e0.name hb4),pi mi0])) (by kernel_rfl) (k (js 19 j0 [(1,.bool true),(3,.bool true),(4,.bool false),(5,.bool false),(9,.bool true),(10,.bool true),(11,.bool true),(12,.bool true),(13,.bool false)]))
 rintro ⟨⟩
 exact BJ Hd.Aa [fq (Al.B9 source.kids)] [none,BP w4_m,AU (w3_m.set e0.name e0.unit),AU w2_m,none,bp (Al.pl source)] (Ab 300 (o1++[pb hb1,pb hb3,KN (Pk w3_m e0.name hb4),Xb (rU w3_m e0.name e0.unit),pi mi0])) (by kernel_rfl) (k (js 19 j0 [(1,.bool false),(3,.bool true),(4,.bool false),(5,.bool false),(9,.bool true),(10,.bool true),(11,.bool false),(12,.bool false),(13,.bool true)]))
 refine Ae (fun hb5=>?_) fun hb5=>?_
 refine Ae (fun hb6=>?_) fun hb6=>?_
 rintro ⟨⟩
 exact BJ Hd.Aa [fq (Al.B9 source.kids)] [none,BP w4_m,AU w3_m,AU w2_m,none,bp (Al.pl source)] (Ab 300 (o1++[pb hb1,pb hb3,pb hb5,KN (VW w4_m e0.n hb6),pi mi0])) (by kernel_rfl) (k (js 19 j0 [(2,.bool true),(3,.bool true),(4,.bool false),(5,.bool false),(9,.bool false),(10,.bool false),(14,.bool true),(15,.bool true),(16,.bool true),(17,.bool true),(18,.bool false)]))
 rintro ⟨⟩
 exact BJ Hd.Aa [fq (Al.B9 source.kids)] [none,BP (w4_m.set e0.n e0.name),AU w3_m,AU w2_m,none,bp (Al.pl source)] (Ab 300 (o1++[pb hb1,pb hb3,pb hb5,KN (VW w4_m e0.n hb6),Xb (xL w4_m e0.n e0.name),pi mi0])) (by kernel_rfl) (k (js 19 j0 [(2,.bool false),(3,.bool true),(4,.bool false),(5,.bool false),(9,.bool false),(10,.bool false),(14,.bool true),(15,.bool true),(16,.bool false),(17,.bool false),(18,.bool true)]))
 rintro ⟨⟩
 exact BJ Hd.Aa [fq (Al.B9 source.kids)] [none,BP w4_m,AU w3_m,AU w2_m,none,bp (Al.pl source)] (Ab 300 (o1++[pb hb1,pb hb3,pb hb5,pi mi0])) (by kernel_rfl) (k (js 19 j0 [(3,.bool true),(4,.bool false),(5,.bool false),(9,.bool false),(10,.bool false),(14,.bool false),(15,.bool false)]))
 rintro ⟨w2_m_1,w3_m_1,w4_m_1⟩ jx_1
 dsimp only
 intro h
 have hE:=Option.some.inj h
 subst hE
 exact VX (n:=5) (m0:=0) Hd.Aa _ _ [4,3,2] [1] [⟨.agg [.mp 2,.mp 3,.mp 4],.agg [.mp 2,.mp 3,.mp 4],(.under (A5 rfl (A5 rfl (A5 rfl rfl))))⟩] [⟨(C0 w4_m_1),(C0 w4_m_1),(Kr (fun _=>rfl))⟩,⟨(Bh w3_m_1),(Bh w3_m_1),(Kr (fun _=>rfl))⟩,⟨(Bh w2_m_1),(Bh w2_m_1),(Kr (fun _=>rfl))⟩] _ _ (Cc 300 []) (Nat.zero_le _) (Nat.zero_le _) (by kernel_rfl) .body
noncomputable def B56:Code:=A3 Tryz.f56
theorem b56:Tryz.f56.body=some B56:=by kernel_rfl
noncomputable def Ek  (unit:ByteArray):Option Bool:=cond (BA unit.data.toList ByteArray.empty.data.toList) (some false) (cond (BA unit.data.toList AO.data.toList) (some false) (cond (BA unit.data.toList Bj.data.toList) (some false) (cond (BA unit.data.toList B2.data.toList) (some false) (some true))))
theorem EB   {unit:ByteArray} {yR:Bool} (h:Ek  unit=some yR):Pure P G 56 [.sc (.string unit)] (.sc (.bool yR)):=by
 unfold Ek at h
 refine BB Hd.mixed Hd.Aa (AB Tryz.func56 b56 ?_) (A2 rfl rfl) rfl
 revert h
 refine Ae (fun hb1=>?_) fun hb1=>?_
 rintro ⟨⟩
 exact rS (Ab 300 [pb hb1]) (by kernel_rfl)
 refine Ae (fun hb2=>?_) fun hb2=>?_
 rintro ⟨⟩
 exact rS (Ab 300 [pb hb1,pb hb2]) (by kernel_rfl)
 refine Ae (fun hb3=>?_) fun hb3=>?_
 rintro ⟨⟩
 exact rS (Ab 300 [pb hb1,pb hb2,pb hb3]) (by kernel_rfl)
 refine Ae (fun hb4=>?_) fun hb4=>?_
 rintro ⟨⟩
 exact rS (Ab 300 [pb hb1,pb hb2,pb hb3,pb hb4]) (by kernel_rfl)
 rintro ⟨⟩
 exact rS (Ab 300 [pb hb1,pb hb2,pb hb3,pb hb4]) (by kernel_rfl)
noncomputable def vT:Code:=A3 Tryz.f85
theorem b85:Tryz.f85.body=some vT:=by kernel_rfl
noncomputable def B55:Code:=A3 Tryz.f55
theorem b55:Tryz.f55.body=some B55:=by kernel_rfl
noncomputable def B54:Code:=A3 Tryz.f54
theorem b54:Tryz.f54.body=some B54:=by kernel_rfl
noncomputable def Ao  (err:Int) (at_:Int) (a2:(List Dg)):Option (Unit×(List Dg)):=cond (F4 ((a2.length:Nat):Int) 20) (SY (a2.length+1) (some ((),(a2++[(⟨err,at_⟩:Dg)])))) (some ((),a2))
theorem Ax {err:Int} {at_:Int} {a2:(List Dg)} {qa2R:(List Dg)} (hS:Sound P G (.call 54 [.sc (.int .i64 err),.sc (.int .i64 at_),.ptr 0 0] ⟨[(0,.cells [.sl (.row 0 2) a2.length (rows BV a2)])],1,[(0,a2.length)],1⟩ (.ret (.A9 [])) ⟨[(0,.cells [.sl (.row 0 2) qa2R.length (rows BV qa2R)])],1,[(0,qa2R.length)],1⟩)) (u0 v0:Nat) (hnb:[u0].Nodup:=by decide) (hnt:([v0]:List Nat).Nodup:=by decide):Cd.ok P G (.callU 54 [.sc (.int .i64 err),.sc (.int .i64 at_),.ptr u0 0] (.ret (.A9 [])) [(u0,.cells [.sl (.row v0 2) a2.length (rows BV a2)])] [(v0,a2.length)] [(u0,.cells [.sl (.row v0 2) qa2R.length (rows BV qa2R)])] [(v0,qa2R.length)]) :=
 DE (M:=[.cells [.sl (.row 0 2) a2.length (rows BV a2)]]) (M2:=[.cells [.sl (.row 0 2) qa2R.length (rows BV qa2R)]]) (T:=[a2.length]) (T2:=[qa2R.length]) (k:=1) (j:=1) Hd.Aa _ _ _ _ hS rfl rfl rfl rfl rfl hnb hnt rfl rfl (.cons (.cells (.cons (.row (by decide) (AF.A2 a2)) .nil)) .nil) (.cons (.cells (.cons (.row (by decide) (AF.A2 qa2R)) .nil)) .nil) (.cons (.pl rfl) (.cons (.pl rfl) (.cons (.ptr (by decide)) .nil))) (.pl rfl) (fun e he=>by simp only [List.mem_singleton] at he;subst he;exact (.arg (.there (.there (.here .ptr)))))
theorem Ap   {err:Int} {at_:Int} {a2:(List Dg)} {yR:Unit} {qa2R:(List Dg)} (h:Ao  err at_ a2=some (yR,qa2R)):Sound P G (.call 54 [.sc (.int .i64 err),.sc (.int .i64 at_),.ptr 0 0] ⟨[(0,.cells [.sl (.row 0 2) a2.length (rows BV a2)])],1,[(0,a2.length)],1⟩ (.ret (.A9 [])) ⟨[(0,.cells [.sl (.row 0 2) qa2R.length (rows BV qa2R)])],1,[(0,qa2R.length)],1⟩):=by
 unfold Ao at h
 refine DI Hd.mixed (AB Tryz.func54 b54 ?_)
 revert h
 refine Ae (fun hb1=>?_) fun hb1=>?_
 refine Z0 fun hl1=>?_
 intro h
 have hE:=Option.some.inj h
 obtain ⟨hE0,hF0⟩:=Prod.mk.inj hE
 subst hE0 hF0
 exact D1 Hd.Aa _ _ [⟨.A9 [],.A9 [],(.plain rfl)⟩] [br AF 0 2 (a2++[(⟨err,at_⟩:Dg)])] (Ab 300 [pb hb1,aB (jF (.row 0 2) a2 [(⟨err,at_⟩:Dg)] (o:=.full) (n:=1) (ns:=[.sc (.int .i64 err),.sc (.int .i64 at_)]) (AF.wn [(⟨err,at_⟩:Dg)] (.r (.r .nil))) rfl rfl (by simp) (by simpa using hl1))]) (by kernel_rfl)
 intro h
 have hE:=Option.some.inj h
 obtain ⟨hE0,hF0⟩:=Prod.mk.inj hE
 subst hE0 hF0
 exact D1 Hd.Aa _ _ [⟨.A9 [],.A9 [],(.plain rfl)⟩] [br AF 0 2 a2] (Ab 300 [pb hb1]) (by kernel_rfl)
noncomputable def Gq  (units:Nat) (AT:(List ByteArray)) (i0:Nat) :Option (Lp Unit Unit Bool):=(AT[i0]?).bind fun x1=>(L9 units ((0:Nat):Int)).bind fun k2=>(AT[k2]?).bind fun x3=>cond (BA x1.data.toList x3.data.toList) (some (.nx ())) (some (.rt false))
noncomputable def BW  (units:Nat) (AT:(List ByteArray)):Option Bool:=(It units (RZ (fun i x=>Gq  units AT i ) (fun x=>()) units 0 ())).bind (Ii (fun (_:Unit)=>some true) (fun v=>some v))
theorem BX {units:Nat} {AT:(List ByteArray)} {yR:Bool} (hS:Sound P G (.call 85 [.msl 0 0 units] ⟨[(0,(.cells (rows IW AT)))],1,[],0⟩ (.ret (.sc (.bool yR))) ⟨[(0,(.cells (rows IW AT)))],1,[],0⟩)) (u0:Nat) (hnb:[u0].Nodup:=by decide) (hnt:([]:List Nat).Nodup:=by decide):Cd.ok P G (.callU 85 [.msl u0 0 units] (.ret (.sc (.bool yR))) [(u0,(.cells (rows IW AT)))] [] [(u0,(.cells (rows IW AT)))] []) :=
 DE (M:=[(.cells (rows IW AT))]) (M2:=[(.cells (rows IW AT))]) (T:=[]) (T2:=[]) (k:=1) (j:=0) Hd.Aa _ _ _ _ hS rfl rfl rfl rfl rfl hnb hnt rfl rfl (.cons (.cells (.pl (Bc.A2 AT))) .nil) (.cons (.cells (.pl (Bc.A2 AT))) .nil) (.cons (.msl (by decide)) .nil) (.pl rfl) (fun e he=>by simp only [List.mem_singleton] at he;subst he;exact (.arg (.here .msl)))
theorem Bp   {units:Nat} {AT:(List ByteArray)} {yR:Bool} (h:BW  units AT=some yR):Sound P G (.call 85 [.msl 0 0 units] ⟨[(0,(.cells (rows IW AT)))],1,[],0⟩ (.ret (.sc (.bool yR))) ⟨[(0,(.cells (rows IW AT)))],1,[],0⟩):=by
 unfold BW at h
 refine DI Hd.mixed (AB Tryz.func85 b85 ?_)
 revert h
 refine vY (fun Q v=>Je P G Tryz.f85 1 ⟨[(0,(.cells (rows IW AT)))],1,[],0⟩ Q (.sc (.bool v)) ⟨[(0,(.cells (rows IW AT)))],1,[],0⟩) (fun i0 (_:Unit) (j0:List Value)=>fr 17 [(0,.msl 0 0 units),(5,.msl 0 0 units),(6,.sc (.int .i64 ((units:Nat):Int))),(7,.sc (.int .i64 ((i0:Nat):Int)))] [2,8,15] j0) (fun (_:Unit)=>⟨[(0,(.cells (rows IW AT)))],1,[],0⟩) (fun (_:Unit) (jx:List Value)=>fr 17 [] [2,8,15] jx) (fun (_:Unit)=>⟨[(0,(.cells (rows IW AT)))],1,[],0⟩) [.bool false] (EO [] 0 (sb vT 52) [.code (sb vT 7)] (Ab 300 []) (by kernel_rfl)) ?_ ?_ ?_ (fun v h=>by cases h;exact .outer .body)
 rintro ⟨⟩ j0 hge hq
 exact CT (Ab 300 [pb (Kz hge)]) (by kernel_rfl) (hq (js 3 j0 [(1,.bool false)]))
 rintro i0 ⟨⟩ j0 r hi0 mi0 k
 show Gq  units AT i0 =some r→_
 unfold Gq
 refine Ah fun x1 hx1=>?_
 refine Ah fun k2 hk2=>?_
 refine Ah fun x3 hx3=>?_
 let o1:List (PC P G):=[pb (GD hi0),Ct (YI (id:=0) (n:=units) (i:=i0) (by have:=N0 (GD hi0);omega)),hJ (Oe hx1),Ct (No (id:=0) hk2),hJ (Oe hx3)]
 refine Ae (fun hb1=>?_) fun hb1=>?_
 rintro ⟨⟩
 exact D6 (Ab 300 (o1++[pn hb1,pi mi0])) (by kernel_rfl) (k [(jv j0 0),.bool true,.bool false])
 rintro ⟨⟩
 exact An Hd.Aa _ _ [] [bp (Bc.A2 AT)] (Ab 300 (o1++[pn hb1])) (by kernel_rfl) (.GS k)
 rintro ⟨⟩ jx_4
 intro h
 have hE:=Option.some.inj h
 subst hE
 exact An Hd.Aa _ _ [] [bp (Bc.A2 AT)] (Cc 300 []) (by kernel_rfl) .body
noncomputable def Cn  (operator:ByteArray) (units:Nat) (AT:(List ByteArray)):Option ByteArray:=(L9 units ((0:Nat):Int)).bind fun k1=>(AT[k1]?).bind fun x2=>(L9 units (RV ((units:Nat):Int) 1)).bind fun k3=>(AT[k3]?).bind fun x4=>cond (BA operator.data.toList SO.data.toList) (cond (BA x2.data.toList AO.data.toList) ((BW units AT).bind fun y5=>cond y5 (some AO) (some ByteArray.empty)) (some ByteArray.empty)) (cond (BA operator.data.toList Iq.data.toList) (cond (BA x2.data.toList AO.data.toList) ((BW units AT).bind fun y6=>cond y6 (some AO) (some ByteArray.empty)) (some ByteArray.empty)) (cond (BA operator.data.toList Ij.data.toList) ((BW units AT).bind fun y7=>cond y7 (some AO) (some ByteArray.empty)) (cond (BA operator.data.toList Hh.data.toList) ((BW units AT).bind fun y8=>cond y8 (some AO) (some ByteArray.empty)) (cond (BA operator.data.toList On.data.toList) ((BW units AT).bind fun y9=>cond y9 (cond (BA x2.data.toList AO.data.toList) (some ByteArray.empty) (some AO)) (some ByteArray.empty)) (cond (BA operator.data.toList Hp.data.toList) ((BW units AT).bind fun y10=>cond y10 (cond (BA x2.data.toList AO.data.toList) (some ByteArray.empty) (some AO)) (some ByteArray.empty)) (cond (BA operator.data.toList KK.data.toList) ((BW units AT).bind fun y11=>cond y11 (cond (BA x2.data.toList AO.data.toList) (some ByteArray.empty) (some x2)) (some ByteArray.empty)) (cond (BA operator.data.toList NW.data.toList) ((BW units AT).bind fun y12=>cond y12 (cond (BA x2.data.toList AO.data.toList) (some ByteArray.empty) (some x2)) (some ByteArray.empty)) (cond (BA operator.data.toList Om.data.toList) (cond (BA x2.data.toList Bj.data.toList) (cond (BA x4.data.toList AO.data.toList) (some ByteArray.empty) (some x4)) (cond (BA x4.data.toList Bj.data.toList) (cond (BA x2.data.toList AO.data.toList) (some ByteArray.empty) (some x2)) (some ByteArray.empty))) (cond (BA operator.data.toList JD.data.toList) (cond (BA x2.data.toList AO.data.toList) (some ByteArray.empty) (some x2)) (cond (BA operator.data.toList Tu.data.toList) (cond (BA x2.data.toList B2.data.toList) ((Ek x4).bind fun y13=>cond y13 (some x4) (some ByteArray.empty)) (some ByteArray.empty)) (some ByteArray.empty)))))))))))
theorem DR {operator:ByteArray} {units:Nat} {AT:(List ByteArray)} {yR:ByteArray} (hS:Sound P G (.call 55 [.sc (.string operator),.msl 0 0 units] ⟨[(0,(.cells (rows IW AT)))],1,[],0⟩ (.ret (.sc (.string yR))) ⟨[(0,(.cells (rows IW AT)))],1,[],0⟩)) (u0:Nat) (hnb:[u0].Nodup:=by decide) (hnt:([]:List Nat).Nodup:=by decide):Cd.ok P G (.callU 55 [.sc (.string operator),.msl u0 0 units] (.ret (.sc (.string yR))) [(u0,(.cells (rows IW AT)))] [] [(u0,(.cells (rows IW AT)))] []) :=
 DE (M:=[(.cells (rows IW AT))]) (M2:=[(.cells (rows IW AT))]) (T:=[]) (T2:=[]) (k:=1) (j:=0) Hd.Aa _ _ _ _ hS rfl rfl rfl rfl rfl hnb hnt rfl rfl (.cons (.cells (.pl (Bc.A2 AT))) .nil) (.cons (.cells (.pl (Bc.A2 AT))) .nil) (.cons (.pl rfl) (.cons (.msl (by decide)) .nil)) (.pl rfl) (fun e he=>by simp only [List.mem_singleton] at he;subst he;exact (.arg (.there (.here .msl))))
theorem CZ   {operator:ByteArray} {units:Nat} {AT:(List ByteArray)} {yR:ByteArray} (h:Cn  operator units AT=some yR):Sound P G (.call 55 [.sc (.string operator),.msl 0 0 units] ⟨[(0,(.cells (rows IW AT)))],1,[],0⟩ (.ret (.sc (.string yR))) ⟨[(0,(.cells (rows IW AT)))],1,[],0⟩):=by
 unfold Cn at h
 refine DI Hd.mixed (AB Tryz.func55 b55 ?_)
 revert h
 refine Ah fun k1 hk1=>?_
 refine Ah fun x2 hx2=>?_
 refine Ah fun k3 hk3=>?_
 refine Ah fun x4 hx4=>?_
 let o1:List (PC P G):=[Ct (No (id:=0) hk1),hJ (Oe hx2),pk,Ct (No (id:=0) hk3),hJ (Oe hx4)]
 refine Ae (fun hb1=>?_) fun hb1=>?_
 refine Ae (fun hb2=>?_) fun hb2=>?_
 refine Ah fun y5 hy5=>?_
 refine Ae (fun hv=>?_) fun hv=>?_
 subst hv
 intro h
 have hE:=Option.some.inj h
 subst hE
 exact An Hd.Aa _ _ [] [bp (Bc.A2 AT)] (Ab 300 (o1++[pb hb1,pn hb2,Ay (BX (Bp hy5) 0)])) (by kernel_rfl) .body
 subst hv
 intro h
 have hE:=Option.some.inj h
 subst hE
 exact An Hd.Aa _ _ [] [bp (Bc.A2 AT)] (Ab 300 (o1++[pb hb1,pn hb2,Ay (BX (Bp hy5) 0)])) (by kernel_rfl) .body
 intro h
 have hE:=Option.some.inj h
 subst hE
 exact An Hd.Aa _ _ [] [bp (Bc.A2 AT)] (Ab 300 (o1++[pb hb1,pn hb2])) (by kernel_rfl) .body
 let o2:List (PC P G):=o1++[pb hb1]
 refine Ae (fun hb3=>?_) fun hb3=>?_
 refine Ae (fun hb4=>?_) fun hb4=>?_
 refine Ah fun y6 hy6=>?_
 refine Ae (fun hv=>?_) fun hv=>?_
 subst hv
 intro h
 have hE:=Option.some.inj h
 subst hE
 exact An Hd.Aa _ _ [] [bp (Bc.A2 AT)] (Ab 300 (o2++[pb hb3,pn hb4,Ay (BX (Bp hy6) 0)])) (by kernel_rfl) .body
 subst hv
 intro h
 have hE:=Option.some.inj h
 subst hE
 exact An Hd.Aa _ _ [] [bp (Bc.A2 AT)] (Ab 300 (o2++[pb hb3,pn hb4,Ay (BX (Bp hy6) 0)])) (by kernel_rfl) .body
 intro h
 have hE:=Option.some.inj h
 subst hE
 exact An Hd.Aa _ _ [] [bp (Bc.A2 AT)] (Ab 300 (o2++[pb hb3,pn hb4])) (by kernel_rfl) .body
 let o3:List (PC P G):=o2++[pb hb3]
 refine Ae (fun hb5=>?_) fun hb5=>?_
 refine Ah fun y7 hy7=>?_
 refine Ae (fun hv=>?_) fun hv=>?_
 subst hv
 intro h
 have hE:=Option.some.inj h
 subst hE
 exact An Hd.Aa _ _ [] [bp (Bc.A2 AT)] (Ab 300 (o3++[pb hb5,Ay (BX (Bp hy7) 0)])) (by kernel_rfl) .body
 subst hv
 intro h
 have hE:=Option.some.inj h
 subst hE
 exact An Hd.Aa _ _ [] [bp (Bc.A2 AT)] (Ab 300 (o3++[pb hb5,Ay (BX (Bp hy7) 0)])) (by kernel_rfl) .body
 let o4:List (PC P G):=o3++[pb hb5]
 refine Ae (fun hb6=>?_) fun hb6=>?_
 refine Ah fun y8 hy8=>?_
 refine Ae (fun hv=>?_) fun hv=>?_
 subst hv
 intro h
 have hE:=Option.some.inj h
 subst hE
 exact An Hd.Aa _ _ [] [bp (Bc.A2 AT)] (Ab 300 (o4++[pb hb6,Ay (BX (Bp hy8) 0)])) (by kernel_rfl) .body
 subst hv
 intro h
 have hE:=Option.some.inj h
 subst hE
 exact An Hd.Aa _ _ [] [bp (Bc.A2 AT)] (Ab 300 (o4++[pb hb6,Ay (BX (Bp hy8) 0)])) (by kernel_rfl) .body
 let o5:List (PC P G):=o4++[pb hb6]
 refine Ae (fun hb7=>?_) fun hb7=>?_
 refine Ah fun y9 hy9=>?_
 let o6:List (PC P G):=o5++[pb hb7,Ay (BX (Bp hy9) 0)]
 refine Ae (fun hv=>?_) fun hv=>?_
 subst hv
 refine Ae (fun hb8=>?_) fun hb8=>?_
 intro h
 have hE:=Option.some.inj h
 subst hE
 exact An Hd.Aa _ _ [] [bp (Bc.A2 AT)] (Ab 300 (o6++[pb hb8])) (by kernel_rfl) .body
 intro h
 have hE:=Option.some.inj h
 subst hE
 exact An Hd.Aa _ _ [] [bp (Bc.A2 AT)] (Ab 300 (o6++[pb hb8])) (by kernel_rfl) .body
 subst hv
 intro h
 have hE:=Option.some.inj h
 subst hE
 exact An Hd.Aa _ _ [] [bp (Bc.A2 AT)] (Ab 300 o6) (by kernel_rfl) .body
 let o7:List (PC P G):=o5++[pb hb7]
 refine Ae (fun hb9=>?_) fun hb9=>?_
 refine Ah fun y10 hy10=>?_
 let o8:List (PC P G):=o7++[pb hb9,Ay (BX (Bp hy10) 0)]
 refine Ae (fun hv=>?_) fun hv=>?_
 subst hv
 refine Ae (fun hb10=>?_) fun hb10=>?_
 intro h
 have hE:=Option.some.inj h
 subst hE
 exact An Hd.Aa _ _ [] [bp (Bc.A2 AT)] (Ab 300 (o8++[pb hb10])) (by kernel_rfl) .body
 intro h
 have hE:=Option.some.inj h
 subst hE
 exact An Hd.Aa _ _ [] [bp (Bc.A2 AT)] (Ab 300 (o8++[pb hb10])) (by kernel_rfl) .body
 subst hv
 intro h
 have hE:=Option.some.inj h
 subst hE
 exact An Hd.Aa _ _ [] [bp (Bc.A2 AT)] (Ab 300 o8) (by kernel_rfl) .body
 let o9:List (PC P G):=o7++[pb hb9]
 refine Ae (fun hb11=>?_) fun hb11=>?_
 refine Ah fun y11 hy11=>?_
 let o10:List (PC P G):=o9++[pb hb11,Ay (BX (Bp hy11) 0)]
 refine Ae (fun hv=>?_) fun hv=>?_
 subst hv
 refine Ae (fun hb12=>?_) fun hb12=>?_
 intro h
 have hE:=Option.some.inj h
 subst hE
 exact An Hd.Aa _ _ [] [bp (Bc.A2 AT)] (Ab 300 (o10++[pb hb12])) (by kernel_rfl) .body
 intro h
 have hE:=Option.some.inj h
 subst hE
 exact An Hd.Aa _ _ [] [bp (Bc.A2 AT)] (Ab 300 (o10++[pb hb12])) (by kernel_rfl) .body
 subst hv
 intro h
 have hE:=Option.some.inj h
 subst hE
 exact An Hd.Aa _ _ [] [bp (Bc.A2 AT)] (Ab 300 o10) (by kernel_rfl) .body
 let o11:List (PC P G):=o9++[pb hb11]
 refine Ae (fun hb13=>?_) fun hb13=>?_
 refine Ah fun y12 hy12=>?_
 let o12:List (PC P G):=o11++[pb hb13,Ay (BX (Bp hy12) 0)]
 refine Ae (fun hv=>?_) fun hv=>?_
 subst hv
 refine Ae (fun hb14=>?_) fun hb14=>?_
 intro h
 have hE:=Option.some.inj h
 subst hE
 exact An Hd.Aa _ _ [] [bp (Bc.A2 AT)] (Ab 300 (o12++[pb hb14])) (by kernel_rfl) .body
 intro h
 have hE:=Option.some.inj h
 subst hE
 exact An Hd.Aa _ _ [] [bp (Bc.A2 AT)] (Ab 300 (o12++[pb hb14])) (by kernel_rfl) .body
 subst hv
 intro h
 have hE:=Option.some.inj h
 subst hE
 exact An Hd.Aa _ _ [] [bp (Bc.A2 AT)] (Ab 300 o12) (by kernel_rfl) .body
 let o13:List (PC P G):=o11++[pb hb13]
 refine Ae (fun hb15=>?_) fun hb15=>?_
 refine Ae (fun hb16=>?_) fun hb16=>?_
 refine Ae (fun hb17=>?_) fun hb17=>?_
 intro h
 have hE:=Option.some.inj h
 subst hE
 exact An Hd.Aa _ _ [] [bp (Bc.A2 AT)] (Ab 300 (o13++[pb hb15,pb hb16,pb hb17])) (by kernel_rfl) .body
 intro h
 have hE:=Option.some.inj h
 subst hE
 exact An Hd.Aa _ _ [] [bp (Bc.A2 AT)] (Ab 300 (o13++[pb hb15,pb hb16,pb hb17])) (by kernel_rfl) .body
 refine Ae (fun hb18=>?_) fun hb18=>?_
 refine Ae (fun hb19=>?_) fun hb19=>?_
 intro h
 have hE:=Option.some.inj h
 subst hE
 exact An Hd.Aa _ _ [] [bp (Bc.A2 AT)] (Ab 300 (o13++[pb hb15,pb hb16,pn hb18,pb hb19])) (by kernel_rfl) .body
 intro h
 have hE:=Option.some.inj h
 subst hE
 exact An Hd.Aa _ _ [] [bp (Bc.A2 AT)] (Ab 300 (o13++[pb hb15,pb hb16,pn hb18,pb hb19])) (by kernel_rfl) .body
 intro h
 have hE:=Option.some.inj h
 subst hE
 exact An Hd.Aa _ _ [] [bp (Bc.A2 AT)] (Ab 300 (o13++[pb hb15,pb hb16,pn hb18])) (by kernel_rfl) .body
 refine Ae (fun hb20=>?_) fun hb20=>?_
 refine Ae (fun hb21=>?_) fun hb21=>?_
 intro h
 have hE:=Option.some.inj h
 subst hE
 exact An Hd.Aa _ _ [] [bp (Bc.A2 AT)] (Ab 300 (o13++[pb hb15,pb hb20,pb hb21])) (by kernel_rfl) .body
 intro h
 have hE:=Option.some.inj h
 subst hE
 exact An Hd.Aa _ _ [] [bp (Bc.A2 AT)] (Ab 300 (o13++[pb hb15,pb hb20,pb hb21])) (by kernel_rfl) .body
 refine Ae (fun hb22=>?_) fun hb22=>?_
 refine Ae (fun hb23=>?_) fun hb23=>?_
 refine Ah fun y13 hy13=>?_
 refine Ae (fun hv=>?_) fun hv=>?_
 subst hv
 intro h
 have hE:=Option.some.inj h
 subst hE
 exact An Hd.Aa _ _ [] [bp (Bc.A2 AT)] (Ab 300 (o13++[pb hb15,pb hb20,pb hb22,pb hb23,Ak (EB hy13)])) (by kernel_rfl) .body
 subst hv
 intro h
 have hE:=Option.some.inj h
 subst hE
 exact An Hd.Aa _ _ [] [bp (Bc.A2 AT)] (Ab 300 (o13++[pb hb15,pb hb20,pb hb22,pb hb23,Ak (EB hy13)])) (by kernel_rfl) .body
 intro h
 have hE:=Option.some.inj h
 subst hE
 exact An Hd.Aa _ _ [] [bp (Bc.A2 AT)] (Ab 300 (o13++[pb hb15,pb hb20,pb hb22,pb hb23])) (by kernel_rfl) .body
 intro h
 have hE:=Option.some.inj h
 subst hE
 exact An Hd.Aa _ _ [] [bp (Bc.A2 AT)] (Ab 300 (o13++[pb hb15,pb hb20,pb hb22])) (by kernel_rfl) .body
theorem DY {s:Sc} {e:Nd} {report:(List Dg)} {yR:ByteArray} {qreportR:(List Dg)} (hS:Sound P G (.call 32 [.agg [.mp 0,.mp 1,.mp 2],.agg (Bl e),.fn (.func 54) [] [.ptr 3 0]] ⟨[(3,.cells [.sl (.row 0 2) report.length (rows BV report)]),(2,(C0 s.Ai)),(1,(Bh s.lines)),(0,(Bh s.facts))],4,[(0,report.length)],1⟩ (.ret (.sc (.string yR))) ⟨[(3,.cells [.sl (.row 0 2) qreportR.length (rows BV qreportR)]),(2,(C0 s.Ai)),(1,(Bh s.lines)),(0,(Bh s.facts))],4,[(0,qreportR.length)],1⟩)) (u0 u1 u2 u3 v0:Nat) (hnb:[u0,u1,u2,u3].Nodup:=by decide) (hnt:([v0]:List Nat).Nodup:=by decide):Cd.ok P G (.callU 32 [.agg [.mp u0,.mp u1,.mp u2],.agg (Bl e),.fn (.func 54) [] [.ptr u3 0]] (.ret (.sc (.string yR))) [(u0,(Bh s.facts)),(u1,(Bh s.lines)),(u2,(C0 s.Ai)),(u3,.cells [.sl (.row v0 2) report.length (rows BV report)])] [(v0,report.length)] [(u0,(Bh s.facts)),(u1,(Bh s.lines)),(u2,(C0 s.Ai)),(u3,.cells [.sl (.row v0 2) qreportR.length (rows BV qreportR)])] [(v0,qreportR.length)]) :=
 DE (M:=[(Bh s.facts),(Bh s.lines),(C0 s.Ai),.cells [.sl (.row 0 2) report.length (rows BV report)]]) (M2:=[(Bh s.facts),(Bh s.lines),(C0 s.Ai),.cells [.sl (.row 0 2) qreportR.length (rows BV qreportR)]]) (T:=[report.length]) (T2:=[qreportR.length]) (k:=4) (j:=1) Hd.Aa _ _ _ _ hS rfl rfl rfl rfl rfl hnb hnt rfl rfl (.cons (I7 (fun _=>rfl)) (.cons (I7 (fun _=>rfl)) (.cons (I7 (fun _=>rfl)) (.cons (.cells (.cons (.row (by decide) (AF.A2 report)) .nil)) .nil)))) (.cons (I7 (fun _=>rfl)) (.cons (I7 (fun _=>rfl)) (.cons (I7 (fun _=>rfl)) (.cons (.cells (.cons (.row (by decide) (AF.A2 qreportR)) .nil)) .nil)))) (.cons (.agg (.cons (.mp (by decide)) (.cons (.mp (by decide)) (.cons (.mp (by decide)) .nil)))) (.cons (.pl (Al.GB e)) (.cons (.fn (.pl rfl) (.cons (.ptr (by decide)) .nil)) .nil))) (.pl rfl) (by
   intro e he
   simp only [List.mem_cons,List.not_mem_nil,or_false] at he
   rcases he with rfl | rfl | rfl | rfl
   · exact (.arg (.here (.agg (.here .mp))))
   · exact (.arg (.here (.agg (.there (.here .mp)))))
   · exact (.arg (.here (.agg (.there (.there (.here .mp))))))
   · exact (.arg (.there (.there (.here (.fn2 (.here .ptr))))))
   )
noncomputable def wP:Code:=A3 Tryz.f32
theorem b32:Tryz.f32.body=some wP:=by kernel_rfl
noncomputable def Cj (BZ:Sc→Nd→(List Dg)→Option (ByteArray×(List Dg))) (s:Sc) (i0:Nat) (e0:Nd) (whole8:Bool) (w6_l:(List ByteArray)) (w3_0:(List Dg)):Option (Lp (Bool×(List ByteArray)×(List Dg)) (Bool×(List ByteArray)×(List Dg)) (ByteArray×(List Dg))):=(BZ s e0 w3_0).bind fun (y2a,y2b)=>(w6_l[i0]?).bind fun x3=>cond whole8 (((w6_l.set i0 y2a)[i0]?).bind fun x4=>cond (BA x4.data.toList ByteArray.empty.data.toList) (some (.nx (false,(w6_l.set i0 y2a),y2b))) (some (.nx (true,(w6_l.set i0 y2a),y2b)))) (some (.nx (false,(w6_l.set i0 y2a),y2b)))
noncomputable def DZ (BZ:Sc→Nd→(List Dg)→Option (ByteArray×(List Dg))) (s:Sc) (e:Nd) (report:(List Dg)):Option (ByteArray×(List Dg)):=bA (e.kids.length) ((It e.kids.length (AL (fun i y x=>Cj BZ s i y x.1 x.2.1 x.2.2) (fun x=>(x.1,x.2.1,x.2.2)) (e.kids.drop 0) 0 (true,(List.replicate e.kids.length ByteArray.empty),report))).bind (Ii (fun ((whole8_5,w6_l_5,w3_0_5):(Bool×(List ByteArray)×(List Dg)))=>cond whole8_5 (cond (Bq e.kind 11) (cond (BA e.unit.data.toList ByteArray.empty.data.toList) ((Ao 11 e.att w3_0_5).bind fun (y6a,y6b)=>some (e.unit,y6b)) (some (e.unit,w3_0_5))) (cond (Bq e.kind 12) (cond (BA ((s.facts.get e.name).getD ByteArray.empty).data.toList ByteArray.empty.data.toList) ((Ao 91 e.att w3_0_5).bind fun (y7a,y7b)=>some (((s.facts.get e.name).getD ByteArray.empty),y7b)) (some (((s.facts.get e.name).getD ByteArray.empty),w3_0_5))) (cond (Bq e.kind 13) (cond (BA ((s.lines.get ((s.Ai.get e.n).getD ByteArray.empty)).getD ByteArray.empty).data.toList ByteArray.empty.data.toList) ((Ao 91 e.att w3_0_5).bind fun (y8a,y8b)=>some (((s.lines.get ((s.Ai.get e.n).getD ByteArray.empty)).getD ByteArray.empty),y8b)) (some (((s.lines.get ((s.Ai.get e.n).getD ByteArray.empty)).getD ByteArray.empty),w3_0_5))) (cond (Bq e.kind 14) (cond (BA Bj.data.toList ByteArray.empty.data.toList) ((Ao 11 e.att w3_0_5).bind fun (y9a,y9b)=>some (Bj,y9b)) (some (Bj,w3_0_5))) (cond (Bq e.kind 15) ((Cn Iq e.kids.length w6_l_5).bind fun y10=>cond (BA y10.data.toList ByteArray.empty.data.toList) ((Ao 11 e.att w3_0_5).bind fun (y11a,y11b)=>some (y10,y11b)) (some (y10,w3_0_5))) (cond (Bq e.kind 16) ((Cn e.name e.kids.length w6_l_5).bind fun y12=>cond (BA y12.data.toList ByteArray.empty.data.toList) ((Ao 11 e.att w3_0_5).bind fun (y13a,y13b)=>some (y12,y13b)) (some (y12,w3_0_5))) (cond (Bq e.kind 17) ((Cn KK e.kids.length w6_l_5).bind fun y14=>cond (BA y14.data.toList ByteArray.empty.data.toList) ((Ao 11 e.att w3_0_5).bind fun (y15a,y15b)=>some (y14,y15b)) (some (y14,w3_0_5))) (cond (Bq e.kind 18) ((L9 e.kids.length ((0:Nat):Int)).bind fun VG=>(w6_l_5[VG]?).bind fun x17=>(Ek x17).bind fun y18=>cond y18 (cond (BA x17.data.toList ByteArray.empty.data.toList) ((Ao 11 e.att w3_0_5).bind fun (y19a,y19b)=>some (x17,y19b)) (some (x17,w3_0_5))) (cond (BA ByteArray.empty.data.toList ByteArray.empty.data.toList) ((Ao 11 e.att w3_0_5).bind fun (y20a,y20b)=>some (ByteArray.empty,y20b)) (some (ByteArray.empty,w3_0_5)))) (cond (BA ByteArray.empty.data.toList ByteArray.empty.data.toList) ((Ao 11 e.att w3_0_5).bind fun (y21a,y21b)=>some (ByteArray.empty,y21b)) (some (ByteArray.empty,w3_0_5))))))))))) (some (ByteArray.empty,w3_0_5))) (fun v=>some v)))
theorem JB (BZ:Sc→Nd→(List Dg)→Option (ByteArray×(List Dg))) (Kk:∀ {s:Sc} {e:Nd} {report:(List Dg)} {yR:ByteArray} {qreportR:(List Dg)},BZ s e report=some (yR,qreportR)→Sound P G (.call 32 [.agg [.mp 0,.mp 1,.mp 2],.agg (Bl e),.fn (.func 54) [] [.ptr 3 0]] ⟨[(3,.cells [.sl (.row 0 2) report.length (rows BV report)]),(2,(C0 s.Ai)),(1,(Bh s.lines)),(0,(Bh s.facts))],4,[(0,report.length)],1⟩ (.ret (.sc (.string yR))) ⟨[(3,.cells [.sl (.row 0 2) qreportR.length (rows BV qreportR)]),(2,(C0 s.Ai)),(1,(Bh s.lines)),(0,(Bh s.facts))],4,[(0,qreportR.length)],1⟩)) {s:Sc} {e:Nd} {report:(List Dg)} {yR:ByteArray} {qreportR:(List Dg)} (h:DZ BZ s e report=some (yR,qreportR)):Sound P G (.call 32 [.agg [.mp 0,.mp 1,.mp 2],.agg (Bl e),.fn (.func 54) [] [.ptr 3 0]] ⟨[(3,.cells [.sl (.row 0 2) report.length (rows BV report)]),(2,(C0 s.Ai)),(1,(Bh s.lines)),(0,(Bh s.facts))],4,[(0,report.length)],1⟩ (.ret (.sc (.string yR))) ⟨[(3,.cells [.sl (.row 0 2) qreportR.length (rows BV qreportR)]),(2,(C0 s.Ai)),(1,(Bh s.lines)),(0,(Bh s.facts))],4,[(0,qreportR.length)],1⟩):=by
 unfold DZ at h
 refine DI Hd.mixed (AB Tryz.func32 b32 ?_)
 revert h
 refine rA fun hl1=>?_
 refine Fb (fun Q v=>Je P G Tryz.f32 4 ⟨[(3,.cells [.sl (.row 0 2) report.length (rows BV report)]),(2,(C0 s.Ai)),(1,(Bh s.lines)),(0,(Bh s.facts))],4,[(0,report.length)],1⟩ Q (.sc (.string v.1)) ⟨[(3,.cells [.sl (.row 0 2) v.2.length (rows BV v.2)]),(2,(C0 s.Ai)),(1,(Bh s.lines)),(0,(Bh s.facts))],4,[(0,v.2.length)],1⟩) (fun i0 ((whole8,w6_l,w3_0):(Bool×(List ByteArray)×(List Dg))) (j0:List Value)=>fr 99 [(2,.fn (.func 54) [] [.ptr 3 0]),(3,.ptr 4 0),(4,.ptr 5 0),(7,.msl 6 0 e.kids.length),(8,.sc (.bool whole8)),(18,.sl .lost e.kids.length (Ba e.kids)),(19,.sc (.int .i64 ((e.kids.length:Nat):Int))),(20,.sc (.int .i64 ((i0:Nat):Int)))] [21,32,33,38,39,41,42,45,46,49,50,56,57,66,67,68,69,72,73,78,79,82,83,87,92] j0) (fun ((whole8,w6_l,w3_0):(Bool×(List ByteArray)×(List Dg)))=>⟨[(6,(.cells (rows IW w6_l))),(5,.cells (Bl e)),(4,.cells [.mp 0,.mp 1,.mp 2]),(3,.cells [.sl (.row 0 2) w3_0.length (rows BV w3_0)]),(2,(C0 s.Ai)),(1,(Bh s.lines)),(0,(Bh s.facts))],7,[(0,w3_0.length)],1⟩) (fun ((whole8,w6_l,w3_0):(Bool×(List ByteArray)×(List Dg))) (jx:List Value)=>fr 99 [(2,.fn (.func 54) [] [.ptr 3 0]),(3,.ptr 4 0),(4,.ptr 5 0),(7,.msl 6 0 e.kids.length),(8,.sc (.bool whole8))] [21,32,33,38,39,41,42,45,46,49,50,56,57,66,67,68,69,72,73,78,79,82,83,87,92] jx) (fun ((whole8,w6_l,w3_0):(Bool×(List ByteArray)×(List Dg)))=>⟨[(6,(.cells (rows IW w6_l))),(5,.cells (Bl e)),(4,.cells [.mp 0,.mp 1,.mp 2]),(3,.cells [.sl (.row 0 2) w3_0.length (rows BV w3_0)]),(2,(C0 s.Ai)),(1,(Bh s.lines)),(0,(Bh s.facts))],7,[(0,w3_0.length)],1⟩) [] (EO [] 0 (sb wP 244) [.code (sb wP 31)] (Ab 300 [pmb (rP (n:=e.kids.length) hl1)]) (by kernel_rfl)) ?_ ?_ ?_ (fun v h=>by cases h;exact .outer .body)
 rintro i0 ⟨whole8,w6_l,w3_0⟩ j0 hge hq
 exact CT (Ab 300 [pb (Kz hge)]) (by kernel_rfl) (hq (js 25 j0 [(0,.bool false)]))
 rintro i0 e0 ⟨whole8,w6_l,w3_0⟩ j0 r he0 hi0 mi0 k
 show Cj BZ s i0 e0 whole8 w6_l w3_0=some r→_
 unfold Cj
 refine Ah ?_
 rintro ⟨y2a,y2b⟩ hy2
 dsimp only
 refine Ah fun x3 hx3=>?_
 let o1:List (PC P G):=[pb (GD hi0),Ct (BD .lost he0),Ay (DY (Kk hy2) 0 1 2 3 0),Ct (YI (id:=6) (n:=e.kids.length) (i:=i0) (by have:=N0 (GD hi0);omega)),psb (rX hx3 y2a)]
 refine Ae (fun hv=>?_) fun hv=>?_
 subst hv
 refine Ah fun x4 hx4=>?_
 let o2:List (PC P G):=o1++[Ct (YI (id:=6) (n:=e.kids.length) (i:=i0) (by have:=N0 (GD hi0);omega)),hJ (Oe hx4)]
 refine Ae (fun hb1=>?_) fun hb1=>?_
 rintro ⟨⟩
 exact BJ Hd.Aa [fq (Al.B9 e.kids)] [bp (Bc.A2 (w6_l.set i0 y2a)),bp (Al.pl e),none,br AF 0 2 y2b,BP s.Ai,AU s.lines,AU s.facts] (Ab 300 (o2++[pn hb1,pi mi0])) (by kernel_rfl) (k (js 25 j0 [(0,.bool true),(1,.bool true),(2,.bool true),(3,.bool false),(4,.bool false)]))
 rintro ⟨⟩
 exact BJ Hd.Aa [fq (Al.B9 e.kids)] [bp (Bc.A2 (w6_l.set i0 y2a)),bp (Al.pl e),none,br AF 0 2 y2b,BP s.Ai,AU s.lines,AU s.facts] (Ab 300 (o2++[pn hb1,pi mi0])) (by kernel_rfl) (k (js 25 j0 [(0,.bool true),(1,.bool true),(2,.bool true),(3,.bool true),(4,.bool true)]))
 subst hv
 rintro ⟨⟩
 exact BJ Hd.Aa [fq (Al.B9 e.kids)] [bp (Bc.A2 (w6_l.set i0 y2a)),bp (Al.pl e),none,br AF 0 2 y2b,BP s.Ai,AU s.lines,AU s.facts] (Ab 300 (o1++[pi mi0])) (by kernel_rfl) (k (js 25 j0 [(0,.bool true),(1,.bool false),(2,.bool false),(3,undef),(4,.bool false)]))
 rintro ⟨whole8_5,w6_l_5,w3_0_5⟩ jx_5
 dsimp only
 refine Ae (fun hv=>?_) fun hv=>?_
 subst hv
 refine Ae (fun hb2=>?_) fun hb2=>?_
 refine Ae (fun hb3=>?_) fun hb3=>?_
 refine Ah ?_
 rintro ⟨y6a,y6b⟩ hy6
 dsimp only
 intro h
 have hE:=Option.some.inj h
 obtain ⟨hE0,hF0⟩:=Prod.mk.inj hE
 subst hE0 hF0
 exact An Hd.Aa _ _ [] [br AF 0 2 y6b,BP s.Ai,AU s.lines,AU s.facts] (Cc 300 [pb hb2,pb hb3,Ay (Ax (Ap hy6) 3 0)]) (by kernel_rfl) .body
 intro h
 have hE:=Option.some.inj h
 obtain ⟨hE0,hF0⟩:=Prod.mk.inj hE
 subst hE0 hF0
 exact An Hd.Aa _ _ [] [br AF 0 2 w3_0_5,BP s.Ai,AU s.lines,AU s.facts] (Cc 300 [pb hb2,pb hb3]) (by kernel_rfl) .body
 let o3:List (PC P G):=[pb hb2]
 refine Ae (fun hb4=>?_) fun hb4=>?_
 refine Ae (fun hb5=>?_) fun hb5=>?_
 refine Ah ?_
 rintro ⟨y7a,y7b⟩ hy7
 dsimp only
 intro h
 have hE:=Option.some.inj h
 obtain ⟨hE0,hF0⟩:=Prod.mk.inj hE
 subst hE0 hF0
 exact An Hd.Aa _ _ [] [br AF 0 2 y7b,BP s.Ai,AU s.lines,AU s.facts] (Cc 300 (o3++[pb hb4,KN (c7 s.facts e.name),pb hb5,Ay (Ax (Ap hy7) 3 0)])) (by kernel_rfl) .body
 intro h
 have hE:=Option.some.inj h
 obtain ⟨hE0,hF0⟩:=Prod.mk.inj hE
 subst hE0 hF0
 exact An Hd.Aa _ _ [] [br AF 0 2 w3_0_5,BP s.Ai,AU s.lines,AU s.facts] (Cc 300 (o3++[pb hb4,KN (c7 s.facts e.name),pb hb5])) (by kernel_rfl) .body
 let o4:List (PC P G):=o3++[pb hb4]
 refine Ae (fun hb6=>?_) fun hb6=>?_
 let o5:List (PC P G):=o4++[pb hb6,KN (oM s.Ai e.n),KN (c7 s.lines ((s.Ai.get e.n).getD ByteArray.empty))]
 refine Ae (fun hb7=>?_) fun hb7=>?_
 refine Ah ?_
 rintro ⟨y8a,y8b⟩ hy8
 dsimp only
 intro h
 have hE:=Option.some.inj h
 obtain ⟨hE0,hF0⟩:=Prod.mk.inj hE
 subst hE0 hF0
 exact An Hd.Aa _ _ [] [br AF 0 2 y8b,BP s.Ai,AU s.lines,AU s.facts] (Cc 300 (o5++[pb hb7,Ay (Ax (Ap hy8) 3 0)])) (by kernel_rfl) .body
 intro h
 have hE:=Option.some.inj h
 obtain ⟨hE0,hF0⟩:=Prod.mk.inj hE
 subst hE0 hF0
 exact An Hd.Aa _ _ [] [br AF 0 2 w3_0_5,BP s.Ai,AU s.lines,AU s.facts] (Cc 300 (o5++[pb hb7])) (by kernel_rfl) .body
 let o6:List (PC P G):=o4++[pb hb6]
 refine Ae (fun hb8=>?_) fun hb8=>?_
 refine Ae (fun hb9=>?_) fun hb9=>?_
 refine Ah ?_
 rintro ⟨y9a,y9b⟩ hy9
 dsimp only
 intro h
 have hE:=Option.some.inj h
 obtain ⟨hE0,hF0⟩:=Prod.mk.inj hE
 subst hE0 hF0
 exact An Hd.Aa _ _ [] [br AF 0 2 y9b,BP s.Ai,AU s.lines,AU s.facts] (Cc 300 (o6++[pb hb8,pb hb9,Ay (Ax (Ap hy9) 3 0)])) (by kernel_rfl) .body
 intro h
 have hE:=Option.some.inj h
 obtain ⟨hE0,hF0⟩:=Prod.mk.inj hE
 subst hE0 hF0
 exact An Hd.Aa _ _ [] [br AF 0 2 w3_0_5,BP s.Ai,AU s.lines,AU s.facts] (Cc 300 (o6++[pb hb8,pb hb9])) (by kernel_rfl) .body
 let o7:List (PC P G):=o6++[pb hb8]
 refine Ae (fun hb10=>?_) fun hb10=>?_
 refine Ah fun y10 hy10=>?_
 refine Ae (fun hb11=>?_) fun hb11=>?_
 refine Ah ?_
 rintro ⟨y11a,y11b⟩ hy11
 dsimp only
 intro h
 have hE:=Option.some.inj h
 obtain ⟨hE0,hF0⟩:=Prod.mk.inj hE
 subst hE0 hF0
 exact An Hd.Aa _ _ [] [br AF 0 2 y11b,BP s.Ai,AU s.lines,AU s.facts] (Cc 300 (o7++[pb hb10,Ay (DR (CZ hy10) 6),pb hb11,Ay (Ax (Ap hy11) 3 0)])) (by kernel_rfl) .body
 intro h
 have hE:=Option.some.inj h
 obtain ⟨hE0,hF0⟩:=Prod.mk.inj hE
 subst hE0 hF0
 exact An Hd.Aa _ _ [] [br AF 0 2 w3_0_5,BP s.Ai,AU s.lines,AU s.facts] (Cc 300 (o7++[pb hb10,Ay (DR (CZ hy10) 6),pb hb11])) (by kernel_rfl) .body
 let o8:List (PC P G):=o7++[pb hb10]
 refine Ae (fun hb12=>?_) fun hb12=>?_
 refine Ah fun y12 hy12=>?_
 refine Ae (fun hb13=>?_) fun hb13=>?_
 refine Ah ?_
 rintro ⟨y13a,y13b⟩ hy13
 dsimp only
 intro h
 have hE:=Option.some.inj h
 obtain ⟨hE0,hF0⟩:=Prod.mk.inj hE
 subst hE0 hF0
 exact An Hd.Aa _ _ [] [br AF 0 2 y13b,BP s.Ai,AU s.lines,AU s.facts] (Cc 300 (o8++[pb hb12,Ay (DR (CZ hy12) 6),pb hb13,Ay (Ax (Ap hy13) 3 0)])) (by kernel_rfl) .body
 intro h
 have hE:=Option.some.inj h
 obtain ⟨hE0,hF0⟩:=Prod.mk.inj hE
 subst hE0 hF0
 exact An Hd.Aa _ _ [] [br AF 0 2 w3_0_5,BP s.Ai,AU s.lines,AU s.facts] (Cc 300 (o8++[pb hb12,Ay (DR (CZ hy12) 6),pb hb13])) (by kernel_rfl) .body
 refine Ae (fun hb14=>?_) fun hb14=>?_
 refine Ah fun y14 hy14=>?_
 refine Ae (fun hb15=>?_) fun hb15=>?_
 refine Ah ?_
 rintro ⟨y15a,y15b⟩ hy15
 dsimp only
 intro h
 have hE:=Option.some.inj h
 obtain ⟨hE0,hF0⟩:=Prod.mk.inj hE
 subst hE0 hF0
 exact An Hd.Aa _ _ [] [br AF 0 2 y15b,BP s.Ai,AU s.lines,AU s.facts] (Cc 300 (o8++[pb hb12,pb hb14,Ay (DR (CZ hy14) 6),pb hb15,Ay (Ax (Ap hy15) 3 0)])) (by kernel_rfl) .body
 intro h
 have hE:=Option.some.inj h
 obtain ⟨hE0,hF0⟩:=Prod.mk.inj hE
 subst hE0 hF0
 exact An Hd.Aa _ _ [] [br AF 0 2 w3_0_5,BP s.Ai,AU s.lines,AU s.facts] (Cc 300 (o8++[pb hb12,pb hb14,Ay (DR (CZ hy14) 6),pb hb15])) (by kernel_rfl) .body
 let o9:List (PC P G):=o8++[pb hb12,pb hb14]
 refine Ae (fun hb16=>?_) fun hb16=>?_
 refine Ah fun VG hk16=>?_
 refine Ah fun x17 hx17=>?_
 refine Ah fun y18 hy18=>?_
 let o10:List (PC P G):=o9++[pb hb16,Ct (No (id:=6) hk16),hJ (Oe hx17),Ak (EB hy18)]
 refine Ae (fun hv=>?_) fun hv=>?_
 subst hv
 refine Ae (fun hb17=>?_) fun hb17=>?_
 refine Ah ?_
 rintro ⟨y19a,y19b⟩ hy19
 dsimp only
 intro h
 have hE:=Option.some.inj h
 obtain ⟨hE0,hF0⟩:=Prod.mk.inj hE
 subst hE0 hF0
 exact An Hd.Aa _ _ [] [br AF 0 2 y19b,BP s.Ai,AU s.lines,AU s.facts] (Cc 300 (o10++[Ct (No (id:=6) hk16),hJ (Oe hx17),pb hb17,Ay (Ax (Ap hy19) 3 0)])) (by kernel_rfl) .body
 intro h
 have hE:=Option.some.inj h
 obtain ⟨hE0,hF0⟩:=Prod.mk.inj hE
 subst hE0 hF0
 exact An Hd.Aa _ _ [] [br AF 0 2 w3_0_5,BP s.Ai,AU s.lines,AU s.facts] (Cc 300 (o10++[Ct (No (id:=6) hk16),hJ (Oe hx17),pb hb17])) (by kernel_rfl) .body
 subst hv
 refine Ae (fun hb18=>?_) fun hb18=>?_
 refine Ah ?_
 rintro ⟨y20a,y20b⟩ hy20
 dsimp only
 intro h
 have hE:=Option.some.inj h
 obtain ⟨hE0,hF0⟩:=Prod.mk.inj hE
 subst hE0 hF0
 exact An Hd.Aa _ _ [] [br AF 0 2 y20b,BP s.Ai,AU s.lines,AU s.facts] (Cc 300 (o10++[pb hb18,Ay (Ax (Ap hy20) 3 0)])) (by kernel_rfl) .body
 intro h
 have hE:=Option.some.inj h
 obtain ⟨hE0,hF0⟩:=Prod.mk.inj hE
 subst hE0 hF0
 exact An Hd.Aa _ _ [] [br AF 0 2 w3_0_5,BP s.Ai,AU s.lines,AU s.facts] (Cc 300 (o10++[pb hb18])) (by kernel_rfl) .body
 refine Ae (fun hb19=>?_) fun hb19=>?_
 refine Ah ?_
 rintro ⟨y21a,y21b⟩ hy21
 dsimp only
 intro h
 have hE:=Option.some.inj h
 obtain ⟨hE0,hF0⟩:=Prod.mk.inj hE
 subst hE0 hF0
 exact An Hd.Aa _ _ [] [br AF 0 2 y21b,BP s.Ai,AU s.lines,AU s.facts] (Cc 300 (o9++[pb hb16,pb hb19,Ay (Ax (Ap hy21) 3 0)])) (by kernel_rfl) .body
 intro h
 have hE:=Option.some.inj h
 obtain ⟨hE0,hF0⟩:=Prod.mk.inj hE
 subst hE0 hF0
 exact An Hd.Aa _ _ [] [br AF 0 2 w3_0_5,BP s.Ai,AU s.lines,AU s.facts] (Cc 300 (o9++[pb hb16,pb hb19])) (by kernel_rfl) .body
 subst hv
 intro h
 have hE:=Option.some.inj h
 obtain ⟨hE0,hF0⟩:=Prod.mk.inj hE
 subst hE0 hF0
 exact An Hd.Aa _ _ [] [br AF 0 2 w3_0_5,BP s.Ai,AU s.lines,AU s.facts] (Cc 300 []) (by kernel_rfl) .body
noncomputable def Bs:Nat→Sc→Nd→(List Dg)→Option (ByteArray×(List Dg))
 | 0,_,_,_=>none
 | qn+1,s,e,report=>DZ (Bs qn) s e report
theorem JH:∀ qn:Nat,∀ {s:Sc} {e:Nd} {report:(List Dg)} {yR:ByteArray} {qreportR:(List Dg)},Bs qn s e report=some (yR,qreportR)→Sound P G (.call 32 [.agg [.mp 0,.mp 1,.mp 2],.agg (Bl e),.fn (.func 54) [] [.ptr 3 0]] ⟨[(3,.cells [.sl (.row 0 2) report.length (rows BV report)]),(2,(C0 s.Ai)),(1,(Bh s.lines)),(0,(Bh s.facts))],4,[(0,report.length)],1⟩ (.ret (.sc (.string yR))) ⟨[(3,.cells [.sl (.row 0 2) qreportR.length (rows BV qreportR)]),(2,(C0 s.Ai)),(1,(Bh s.lines)),(0,(Bh s.facts))],4,[(0,qreportR.length)],1⟩):=by
 intro qn
 induction qn with
 | zero=>exact (fun h=>by simp only [Bs] at h;cases h)
 | succ qn ih=>exact (fun h=>JB (Bs qn) ih (by rw [Bs] at h;exact h))
noncomputable def C9 (s:Sc) (e:Nd) (report:(List Dg)):Option (ByteArray×(List Dg)):=Xv (fun qn=>Bs qn s e report)
theorem EM {s:Sc} {e:Nd} {report:(List Dg)} {yR:ByteArray} {qreportR:(List Dg)} (h:C9 s e report=some (yR,qreportR)):Sound P G (.call 32 [.agg [.mp 0,.mp 1,.mp 2],.agg (Bl e),.fn (.func 54) [] [.ptr 3 0]] ⟨[(3,.cells [.sl (.row 0 2) report.length (rows BV report)]),(2,(C0 s.Ai)),(1,(Bh s.lines)),(0,(Bh s.facts))],4,[(0,report.length)],1⟩ (.ret (.sc (.string yR))) ⟨[(3,.cells [.sl (.row 0 2) qreportR.length (rows BV qreportR)]),(2,(C0 s.Ai)),(1,(Bh s.lines)),(0,(Bh s.facts))],4,[(0,qreportR.length)],1⟩):=by
 obtain ⟨qn,h⟩:=UE h
 exact (JH qn) h
noncomputable def B13:Code:=A3 Tryz.f13
theorem b13:Tryz.f13.body=some B13:=by kernel_rfl
noncomputable def Gb  (source:Nd) (e:Nd):Option (ByteArray×(List Dg)):=cond (Bq source.kind 1) (cond (Bq e.kind 1) (some (ByteArray.empty,[(⟨1,e.att⟩:Dg)])) ((DW source).bind fun y1=>cond y1 ((DW e).bind fun y2=>cond y2 ((Dv).bind fun y3=>(DM source).bind fun y4=>(C9 y4 e []).bind fun (y5a,y5b)=>some (y5a,y5b)) (some (ByteArray.empty,[(⟨1,e.att⟩:Dg)]))) (some (ByteArray.empty,[(⟨1,e.att⟩:Dg)])))) (some (ByteArray.empty,[(⟨1,e.att⟩:Dg)]))
theorem NN   {source:Nd} {e:Nd} {yR:(ByteArray×(List Dg))} (h:Gb  source e=some yR):Pure P G 13 [.agg (Bl source),.agg (Bl e)] (.A9 [.sc (.string yR.1),.sl .lost yR.2.length (rows BV yR.2)]):=by
 unfold Gb at h
 refine BB Hd.mixed Hd.Aa (AB Tryz.func13 b13 ?_) (A2 (Al.GB source) (A2 (Al.GB e) rfl)) (A2 rfl (A2 (AF.B9 yR.2) rfl))
 revert h
 refine Ae (fun hb1=>?_) fun hb1=>?_
 refine Ae (fun hb2=>?_) fun hb2=>?_
 intro h
 have hE:=Option.some.inj h
 subst hE
 exact AG (v:=.A9 [.sc (.string ByteArray.empty),.sl .full 1 [.sc (.int .i64 1),.sc (.int .i64 e.att)]]) _ _ (Ab 300 [pn hb1,pb hb2]) (by kernel_rfl) .body (.wn (.u (.r (.d (.r (.r .nil)) (AF.eq [(⟨1,e.att⟩:Dg)]).symm .nil)) .nil) (A2 rfl (A2 (AF.B9 [(⟨1,e.att⟩:Dg)]) rfl)))
 refine Ah fun y1 hy1=>?_
 let o1:List (PC P G):=[pn hb1,pb hb2,Ak (D9 hy1)]
 refine Ae (fun hv=>?_) fun hv=>?_
 subst hv
 refine Ah fun y2 hy2=>?_
 refine Ae (fun hv=>?_) fun hv=>?_
 subst hv
 refine Ah fun y3 hy3=>?_
 refine Ah fun y4 hy4=>?_
 refine Ah ?_
 rintro ⟨y5a,y5b⟩ hy5
 dsimp only
 intro h
 have hE:=Option.some.inj h
 subst hE
 exact AG (v:=.A9 [.sc (.string y5a),.sl (.row 0 2) y5b.length (rows BV y5b)]) _ _ (Ab 300 (o1++[Ak (D9 hy2),SC (v:=.A9 [.ptr 2 0,.fn (.func 54) [] [.ptr 2 0]]) (h:=[(2,.cells [.sl .full 0 []])] ) (F:=[]) (Jr (Ih hy3) 2 0),uL [.b 2 0 2],pza,SC (v:=.agg [.mp 5,.mp 6,.mp 7]) (h:=[(7,(C0 y4.Ai)),(6,(Bh y4.lines)),(5,(Bh y4.facts))] ) (F:=[]) (JL (IC hy4) 3 1),Ay (DY (EM hy5) 5 6 7 2 0)])) (by kernel_rfl) .body (.wn (.u (.r (.s rfl .nil)) .nil) (A2 rfl (A2 (AF.B9 y5b) rfl)))
 subst hv
 intro h
 have hE:=Option.some.inj h
 subst hE
 exact AG (v:=.A9 [.sc (.string ByteArray.empty),.sl .full 1 [.sc (.int .i64 1),.sc (.int .i64 e.att)]]) _ _ (Ab 300 (o1++[Ak (D9 hy2)])) (by kernel_rfl) .body (.wn (.u (.r (.d (.r (.r .nil)) (AF.eq [(⟨1,e.att⟩:Dg)]).symm .nil)) .nil) (A2 rfl (A2 (AF.B9 [(⟨1,e.att⟩:Dg)]) rfl)))
 subst hv
 intro h
 have hE:=Option.some.inj h
 subst hE
 exact AG (v:=.A9 [.sc (.string ByteArray.empty),.sl .full 1 [.sc (.int .i64 1),.sc (.int .i64 e.att)]]) _ _ (Ab 300 o1) (by kernel_rfl) .body (.wn (.u (.r (.d (.r (.r .nil)) (AF.eq [(⟨1,e.att⟩:Dg)]).symm .nil)) .nil) (A2 rfl (A2 (AF.B9 [(⟨1,e.att⟩:Dg)]) rfl)))
 intro h
 have hE:=Option.some.inj h
 subst hE
 exact AG (v:=.A9 [.sc (.string ByteArray.empty),.sl .full 1 [.sc (.int .i64 1),.sc (.int .i64 e.att)]]) _ _ (Ab 300 [pn hb1]) (by kernel_rfl) .body (.wn (.u (.r (.d (.r (.r .nil)) (AF.eq [(⟨1,e.att⟩:Dg)]).symm .nil)) .nil) (A2 rfl (A2 (AF.B9 [(⟨1,e.att⟩:Dg)]) rfl)))
noncomputable def vM:Code:=A3 Tryz.f90
theorem b90:Tryz.f90.body=some vM:=by kernel_rfl
noncomputable def HN (ER:Nd→Int→Option Bool) (limit:Int) (i0:Nat) (e0:Nd) :Option (Lp Unit Unit Bool):=(ER e0 (RV limit 1)).bind fun y1=>cond y1 (some (.nx ())) (some (.rt false))
noncomputable def IP (ER:Nd→Int→Option Bool) (n:Nd) (limit:Int):Option Bool:=cond (F4 limit 1) (some false) ((It n.kids.length (AL (fun i y x=>HN ER limit i y ) (fun x=>()) (n.kids.drop 0) 0 ())).bind (Ii (fun (_:Unit)=>some true) (fun v=>some v)))
theorem Oz (ER:Nd→Int→Option Bool) (LR:∀ {n:Nd} {limit:Int} {yR:Bool},ER n limit=some yR→Pure P G 90 [.agg (Bl n),.sc (.int .i64 limit)] (.sc (.bool yR))) {n:Nd} {limit:Int} {yR:Bool} (h:IP ER n limit=some yR):Pure P G 90 [.agg (Bl n),.sc (.int .i64 limit)] (.sc (.bool yR)):=by
 unfold IP at h
 refine BB Hd.mixed Hd.Aa (AB Tryz.func90 b90 ?_) (A2 (Al.GB n) (A2 rfl rfl)) rfl
 revert h
 refine Ae (fun hb1=>?_) fun hb1=>?_
 rintro ⟨⟩
 exact rS (Ab 300 [pb hb1]) (by kernel_rfl)
 refine Fb (fun Q v=>Fq P Tryz.f90 0 Q (.sc (.bool v))) (fun i0 (_:Unit) (j0:List Value)=>fr 24 [(1,.sc (.int .i64 limit)),(2,.ptr 0 0),(5,.sc (.int .i64 ((i0:Nat):Int)))] [4,7,12,22,23] j0) (fun (_:Unit)=>⟨[(0,.cells (Bl n))],1,[],0⟩) (fun (_:Unit) (jx:List Value)=>fr 24 [] [4,7,12,22,23] jx) (fun (_:Unit)=>⟨[(0,.cells (Bl n))],1,[],0⟩) [.bool false,.bool false] (EO [] 0 (sb vM 116) [.code (sb vM 15)] (Ab 300 [pb hb1]) (by kernel_rfl)) ?_ ?_ ?_ (fun v h=>by cases h;exact .outer .body)
 rintro i0 ⟨⟩ j0 hge hq
 exact CT (Ab 300 [pb (Kz hge)]) (by kernel_rfl) (hq (js 5 j0 [(2,.bool false)]))
 rintro i0 e0 ⟨⟩ j0 r he0 hi0 mi0 k
 show HN ER limit i0 e0 =some r→_
 unfold HN
 refine Ah fun y1 hy1=>?_
 refine Ae (fun hv=>?_) fun hv=>?_
 subst hv
 rintro ⟨⟩
 exact D6 (Ab 300 [pb (GD hi0),Ct (BD .lost he0),pk,Ak (LR hy1),pi mi0]) (by kernel_rfl) (k [(jv j0 0),(jv j0 1),.bool true,.bool true,.bool false])
 subst hv
 rintro ⟨⟩
 exact AG _ _ (Ab 300 [pb (GD hi0),Ct (BD .lost he0),pk,Ak (LR hy1)]) (by kernel_rfl) (.GS k) .sc
 rintro ⟨⟩ jx_2
 intro h
 have hE:=Option.some.inj h
 subst hE
 exact AG _ _ (Cc 300 []) (by kernel_rfl) .body .sc
noncomputable def Ea:Nat→Nd→Int→Option Bool
 | 0,_,_=>none
 | qn+1,n,limit=>IP (Ea qn) n limit
theorem PA:∀ qn:Nat,∀ {n:Nd} {limit:Int} {yR:Bool},Ea qn n limit=some yR→Pure P G 90 [.agg (Bl n),.sc (.int .i64 limit)] (.sc (.bool yR)):=by
 intro qn
 induction qn with
 | zero=>exact (fun h=>by simp only [Ea] at h;cases h)
 | succ qn ih=>exact (fun h=>Oz (Ea qn) ih (by rw [Ea] at h;exact h))
noncomputable def Kd (n:Nd) (limit:Int):Option Bool:=Xv (fun qn=>Ea qn n limit)
theorem Ql {n:Nd} {limit:Int} {yR:Bool} (h:Kd n limit=some yR):Pure P G 90 [.agg (Bl n),.sc (.int .i64 limit)] (.sc (.bool yR)):=by
 obtain ⟨qn,h⟩:=UE h
 exact (PA qn) h
noncomputable def B63:Code:=A3 Tryz.f63
theorem b63:Tryz.f63.body=some B63:=by kernel_rfl
noncomputable def GW  (n:Nd):Option Bool:=(Ee n 2000).bind fun y1=>cond y1 ((Kd n 40).bind fun y2=>some y2) (some false)
theorem Iw   {n:Nd} {yR:Bool} (h:GW  n=some yR):Pure P G 63 [.agg (Bl n)] (.sc (.bool yR)):=by
 unfold GW at h
 refine BB Hd.mixed Hd.Aa (AB Tryz.func63 b63 ?_) (A2 (Al.GB n) rfl) rfl
 revert h
 refine Ah fun y1 hy1=>?_
 refine Ae (fun hv=>?_) fun hv=>?_
 subst hv
 refine Ah fun y2 hy2=>?_
 intro h
 have hE:=Option.some.inj h
 subst hE
 exact rS (Ab 300 [Ak (FH hy1),Ak (Ql hy2)]) (by kernel_rfl)
 subst hv
 rintro ⟨⟩
 exact rS (Ab 300 [Ak (FH hy1)]) (by kernel_rfl)
noncomputable def B66:Code:=A3 Tryz.f66
theorem aE:Tryz.f66.body=some B66:=by kernel_rfl
noncomputable def Dd  (n:Nd):Option Bool:=cond (BA n.name.data.toList ByteArray.empty.data.toList) (cond (BA n.unit.data.toList ByteArray.empty.data.toList) (cond (Bq n.n 0) (cond (Bq n.fr 0) (cond (Bq n.to 0) (cond (Bq n.known 0) (cond (Bq n.tab.den 0) (cond (Bq ((n.tab.ps.length:Nat):Int) 0) (some true) (some false)) (some false)) (some false)) (some false)) (some false)) (some false)) (some false)) (some false)
theorem F8   {n:Nd} {yR:Bool} (h:Dd  n=some yR):Pure P G 66 [.agg (Bl n),.sc (.int .i64 32)] (.sc (.bool yR)):=by
 unfold Dd at h
 refine BB Hd.mixed Hd.Aa (AB Tryz.func66 aE ?_) (A2 (Al.GB n) (A2 rfl rfl)) rfl
 revert h
 refine Ae (fun hb1=>?_) fun hb1=>?_
 let o1:List (PC P G):=[pk,pk,pb hb1,pk,pk]
 refine Ae (fun hb2=>?_) fun hb2=>?_
 let o2:List (PC P G):=o1++[pb hb2,pk,pk]
 refine Ae (fun hb3=>?_) fun hb3=>?_
 let o3:List (PC P G):=o2++[pb hb3,pk,pk]
 refine Ae (fun hb4=>?_) fun hb4=>?_
 refine Ae (fun hb5=>?_) fun hb5=>?_
 refine Ae (fun hb6=>?_) fun hb6=>?_
 refine Ae (fun hb7=>?_) fun hb7=>?_
 refine Ae (fun hb8=>?_) fun hb8=>?_
 rintro ⟨⟩
 exact rS (Ab 300 (o3++[pb hb4,pb hb5,pb hb6,pk,pk,pb hb7,pb hb8,pk,pk])) (by kernel_rfl)
 rintro ⟨⟩
 exact rS (Ab 300 (o3++[pb hb4,pb hb5,pb hb6,pk,pk,pb hb7,pb hb8])) (by kernel_rfl)
 rintro ⟨⟩
 exact rS (Ab 300 (o3++[pb hb4,pb hb5,pb hb6,pk,pk,pb hb7])) (by kernel_rfl)
 rintro ⟨⟩
 exact rS (Ab 300 (o3++[pb hb4,pb hb5,pb hb6])) (by kernel_rfl)
 rintro ⟨⟩
 exact rS (Ab 300 (o3++[pb hb4,pb hb5])) (by kernel_rfl)
 rintro ⟨⟩
 exact rS (Ab 300 (o3++[pb hb4])) (by kernel_rfl)
 rintro ⟨⟩
 exact rS (Ab 300 (o2++[pb hb3])) (by kernel_rfl)
 rintro ⟨⟩
 exact rS (Ab 300 (o1++[pb hb2])) (by kernel_rfl)
 rintro ⟨⟩
 exact rS (Ab 300 [pk,pk,pb hb1]) (by kernel_rfl)
noncomputable def D3  (n:Nd):Option Bool:=cond (BA n.name.data.toList ByteArray.empty.data.toList) (cond (Bq n.fr 0) (cond (Bq n.to 0) (cond (Bq n.known 0) (cond (Bq n.tab.den 0) (cond (Bq ((n.tab.ps.length:Nat):Int) 0) (cond (Bq ((n.kids.length:Nat):Int) 0) (some true) (some false)) (some false)) (some false)) (some false)) (some false)) (some false)) (some false)
theorem I9   {n:Nd} {yR:Bool} (h:D3  n=some yR):Pure P G 66 [.agg (Bl n),.sc (.int .i64 6)] (.sc (.bool yR)):=by
 unfold D3 at h
 refine BB Hd.mixed Hd.Aa (AB Tryz.func66 aE ?_) (A2 (Al.GB n) (A2 rfl rfl)) rfl
 revert h
 refine Ae (fun hb1=>?_) fun hb1=>?_
 let o1:List (PC P G):=[pk,pk,pb hb1,pk,pk,pk,pk,pk,pk]
 refine Ae (fun hb2=>?_) fun hb2=>?_
 refine Ae (fun hb3=>?_) fun hb3=>?_
 refine Ae (fun hb4=>?_) fun hb4=>?_
 let o2:List (PC P G):=o1++[pb hb2,pb hb3,pb hb4,pk,pk]
 refine Ae (fun hb5=>?_) fun hb5=>?_
 refine Ae (fun hb6=>?_) fun hb6=>?_
 refine Ae (fun hb7=>?_) fun hb7=>?_
 rintro ⟨⟩
 exact rS (Ab 300 (o2++[pb hb5,pb hb6,pk,pk,pb hb7])) (by kernel_rfl)
 rintro ⟨⟩
 exact rS (Ab 300 (o2++[pb hb5,pb hb6,pk,pk,pb hb7])) (by kernel_rfl)
 rintro ⟨⟩
 exact rS (Ab 300 (o2++[pb hb5,pb hb6])) (by kernel_rfl)
 rintro ⟨⟩
 exact rS (Ab 300 (o2++[pb hb5])) (by kernel_rfl)
 rintro ⟨⟩
 exact rS (Ab 300 (o1++[pb hb2,pb hb3,pb hb4])) (by kernel_rfl)
 rintro ⟨⟩
 exact rS (Ab 300 (o1++[pb hb2,pb hb3])) (by kernel_rfl)
 rintro ⟨⟩
 exact rS (Ab 300 (o1++[pb hb2])) (by kernel_rfl)
 rintro ⟨⟩
 exact rS (Ab 300 [pk,pk,pb hb1]) (by kernel_rfl)
noncomputable def D4  (n:Nd):Option Bool:=cond (BA n.unit.data.toList ByteArray.empty.data.toList) (cond (Bq n.n 0) (cond (Bq n.fr 0) (cond (Bq n.to 0) (cond (Bq n.known 0) (cond (Bq n.tab.den 0) (cond (Bq ((n.tab.ps.length:Nat):Int) 0) (cond (Bq ((n.kids.length:Nat):Int) 0) (some true) (some false)) (some false)) (some false)) (some false)) (some false)) (some false)) (some false)) (some false)
theorem EU   {n:Nd} {yR:Bool} (h:D4  n=some yR):Pure P G 66 [.agg (Bl n),.sc (.int .i64 1)] (.sc (.bool yR)):=by
 unfold D4 at h
 refine BB Hd.mixed Hd.Aa (AB Tryz.func66 aE ?_) (A2 (Al.GB n) (A2 rfl rfl)) rfl
 revert h
 let o1:List (PC P G):=[pk,pk,pk,pk]
 refine Ae (fun hb1=>?_) fun hb1=>?_
 let o2:List (PC P G):=o1++[pb hb1,pk,pk]
 refine Ae (fun hb2=>?_) fun hb2=>?_
 let o3:List (PC P G):=o2++[pb hb2,pk,pk]
 refine Ae (fun hb3=>?_) fun hb3=>?_
 refine Ae (fun hb4=>?_) fun hb4=>?_
 refine Ae (fun hb5=>?_) fun hb5=>?_
 let o4:List (PC P G):=o3++[pb hb3,pb hb4,pb hb5,pk,pk]
 refine Ae (fun hb6=>?_) fun hb6=>?_
 refine Ae (fun hb7=>?_) fun hb7=>?_
 refine Ae (fun hb8=>?_) fun hb8=>?_
 rintro ⟨⟩
 exact rS (Ab 300 (o4++[pb hb6,pb hb7,pk,pk,pb hb8])) (by kernel_rfl)
 rintro ⟨⟩
 exact rS (Ab 300 (o4++[pb hb6,pb hb7,pk,pk,pb hb8])) (by kernel_rfl)
 rintro ⟨⟩
 exact rS (Ab 300 (o4++[pb hb6,pb hb7])) (by kernel_rfl)
 rintro ⟨⟩
 exact rS (Ab 300 (o4++[pb hb6])) (by kernel_rfl)
 rintro ⟨⟩
 exact rS (Ab 300 (o3++[pb hb3,pb hb4,pb hb5])) (by kernel_rfl)
 rintro ⟨⟩
 exact rS (Ab 300 (o3++[pb hb3,pb hb4])) (by kernel_rfl)
 rintro ⟨⟩
 exact rS (Ab 300 (o3++[pb hb3])) (by kernel_rfl)
 rintro ⟨⟩
 exact rS (Ab 300 (o2++[pb hb2])) (by kernel_rfl)
 rintro ⟨⟩
 exact rS (Ab 300 (o1++[pb hb1])) (by kernel_rfl)
noncomputable def EY  (n:Nd):Option Bool:=cond (BA n.name.data.toList ByteArray.empty.data.toList) (cond (BA n.unit.data.toList ByteArray.empty.data.toList) (cond (Bq n.fr 0) (cond (Bq n.to 0) (cond (Bq n.known 0) (cond (Bq n.tab.den 0) (cond (Bq ((n.tab.ps.length:Nat):Int) 0) (cond (Bq ((n.kids.length:Nat):Int) 0) (some true) (some false)) (some false)) (some false)) (some false)) (some false)) (some false)) (some false)) (some false)
theorem IZ   {n:Nd} {yR:Bool} (h:EY  n=some yR):Pure P G 66 [.agg (Bl n),.sc (.int .i64 4)] (.sc (.bool yR)):=by
 unfold EY at h
 refine BB Hd.mixed Hd.Aa (AB Tryz.func66 aE ?_) (A2 (Al.GB n) (A2 rfl rfl)) rfl
 revert h
 refine Ae (fun hb1=>?_) fun hb1=>?_
 let o1:List (PC P G):=[pk,pk,pb hb1,pk,pk]
 refine Ae (fun hb2=>?_) fun hb2=>?_
 let o2:List (PC P G):=o1++[pb hb2,pk,pk,pk,pk]
 refine Ae (fun hb3=>?_) fun hb3=>?_
 refine Ae (fun hb4=>?_) fun hb4=>?_
 refine Ae (fun hb5=>?_) fun hb5=>?_
 let o3:List (PC P G):=o2++[pb hb3,pb hb4,pb hb5,pk,pk]
 refine Ae (fun hb6=>?_) fun hb6=>?_
 refine Ae (fun hb7=>?_) fun hb7=>?_
 refine Ae (fun hb8=>?_) fun hb8=>?_
 rintro ⟨⟩
 exact rS (Ab 300 (o3++[pb hb6,pb hb7,pk,pk,pb hb8])) (by kernel_rfl)
 rintro ⟨⟩
 exact rS (Ab 300 (o3++[pb hb6,pb hb7,pk,pk,pb hb8])) (by kernel_rfl)
 rintro ⟨⟩
 exact rS (Ab 300 (o3++[pb hb6,pb hb7])) (by kernel_rfl)
 rintro ⟨⟩
 exact rS (Ab 300 (o3++[pb hb6])) (by kernel_rfl)
 rintro ⟨⟩
 exact rS (Ab 300 (o2++[pb hb3,pb hb4,pb hb5])) (by kernel_rfl)
 rintro ⟨⟩
 exact rS (Ab 300 (o2++[pb hb3,pb hb4])) (by kernel_rfl)
 rintro ⟨⟩
 exact rS (Ab 300 (o2++[pb hb3])) (by kernel_rfl)
 rintro ⟨⟩
 exact rS (Ab 300 (o1++[pb hb2])) (by kernel_rfl)
 rintro ⟨⟩
 exact rS (Ab 300 [pk,pk,pb hb1]) (by kernel_rfl)
noncomputable def DP  (n:Nd):Option Bool:=cond (BA n.unit.data.toList ByteArray.empty.data.toList) (cond (Bq n.n 0) (cond (Bq n.fr 0) (cond (Bq n.to 0) (cond (Bq n.known 0) (cond (Bq n.tab.den 0) (cond (Bq ((n.tab.ps.length:Nat):Int) 0) (some true) (some false)) (some false)) (some false)) (some false)) (some false)) (some false)) (some false)
theorem Iz   {n:Nd} {yR:Bool} (h:DP  n=some yR):Pure P G 66 [.agg (Bl n),.sc (.int .i64 33)] (.sc (.bool yR)):=by
 unfold DP at h
 refine BB Hd.mixed Hd.Aa (AB Tryz.func66 aE ?_) (A2 (Al.GB n) (A2 rfl rfl)) rfl
 revert h
 let o1:List (PC P G):=[pk,pk,pk,pk]
 refine Ae (fun hb1=>?_) fun hb1=>?_
 let o2:List (PC P G):=o1++[pb hb1,pk,pk]
 refine Ae (fun hb2=>?_) fun hb2=>?_
 let o3:List (PC P G):=o2++[pb hb2,pk,pk]
 refine Ae (fun hb3=>?_) fun hb3=>?_
 refine Ae (fun hb4=>?_) fun hb4=>?_
 refine Ae (fun hb5=>?_) fun hb5=>?_
 refine Ae (fun hb6=>?_) fun hb6=>?_
 refine Ae (fun hb7=>?_) fun hb7=>?_
 rintro ⟨⟩
 exact rS (Ab 300 (o3++[pb hb3,pb hb4,pb hb5,pk,pk,pb hb6,pb hb7,pk,pk])) (by kernel_rfl)
 rintro ⟨⟩
 exact rS (Ab 300 (o3++[pb hb3,pb hb4,pb hb5,pk,pk,pb hb6,pb hb7])) (by kernel_rfl)
 rintro ⟨⟩
 exact rS (Ab 300 (o3++[pb hb3,pb hb4,pb hb5,pk,pk,pb hb6])) (by kernel_rfl)
 rintro ⟨⟩
 exact rS (Ab 300 (o3++[pb hb3,pb hb4,pb hb5])) (by kernel_rfl)
 rintro ⟨⟩
 exact rS (Ab 300 (o3++[pb hb3,pb hb4])) (by kernel_rfl)
 rintro ⟨⟩
 exact rS (Ab 300 (o3++[pb hb3])) (by kernel_rfl)
 rintro ⟨⟩
 exact rS (Ab 300 (o2++[pb hb2])) (by kernel_rfl)
 rintro ⟨⟩
 exact rS (Ab 300 (o1++[pb hb1])) (by kernel_rfl)
noncomputable def Es  (n:Nd):Option Bool:=cond (BA n.name.data.toList ByteArray.empty.data.toList) (cond (BA n.unit.data.toList ByteArray.empty.data.toList) (cond (Bq n.n 0) (cond (Bq n.fr 0) (cond (Bq n.to 0) (cond (Bq n.known 0) (some true) (some false)) (some false)) (some false)) (some false)) (some false)) (some false)
theorem LG   {n:Nd} {yR:Bool} (h:Es  n=some yR):Pure P G 66 [.agg (Bl n),.sc (.int .i64 48)] (.sc (.bool yR)):=by
 unfold Es at h
 refine BB Hd.mixed Hd.Aa (AB Tryz.func66 aE ?_) (A2 (Al.GB n) (A2 rfl rfl)) rfl
 revert h
 refine Ae (fun hb1=>?_) fun hb1=>?_
 let o1:List (PC P G):=[pk,pk,pb hb1,pk,pk]
 refine Ae (fun hb2=>?_) fun hb2=>?_
 refine Ae (fun hb3=>?_) fun hb3=>?_
 let o2:List (PC P G):=o1++[pb hb2,pk,pk,pb hb3,pk,pk]
 refine Ae (fun hb4=>?_) fun hb4=>?_
 refine Ae (fun hb5=>?_) fun hb5=>?_
 refine Ae (fun hb6=>?_) fun hb6=>?_
 rintro ⟨⟩
 exact rS (Ab 300 (o2++[pb hb4,pb hb5,pb hb6,pk,pk,pk,pk])) (by kernel_rfl)
 rintro ⟨⟩
 exact rS (Ab 300 (o2++[pb hb4,pb hb5,pb hb6])) (by kernel_rfl)
 rintro ⟨⟩
 exact rS (Ab 300 (o2++[pb hb4,pb hb5])) (by kernel_rfl)
 rintro ⟨⟩
 exact rS (Ab 300 (o2++[pb hb4])) (by kernel_rfl)
 rintro ⟨⟩
 exact rS (Ab 300 (o1++[pb hb2,pk,pk,pb hb3])) (by kernel_rfl)
 rintro ⟨⟩
 exact rS (Ab 300 (o1++[pb hb2])) (by kernel_rfl)
 rintro ⟨⟩
 exact rS (Ab 300 [pk,pk,pb hb1]) (by kernel_rfl)
noncomputable def C2  (n:Nd):Option Bool:=cond (Bq n.n 0) (cond (Bq n.fr 0) (cond (Bq n.to 0) (cond (Bq n.known 0) (cond (Bq n.tab.den 0) (cond (Bq ((n.tab.ps.length:Nat):Int) 0) (cond (Bq ((n.kids.length:Nat):Int) 0) (some true) (some false)) (some false)) (some false)) (some false)) (some false)) (some false)) (some false)
theorem Cg   {n:Nd} {yR:Bool} (h:C2  n=some yR):Pure P G 66 [.agg (Bl n),.sc (.int .i64 3)] (.sc (.bool yR)):=by
 unfold C2 at h
 refine BB Hd.mixed Hd.Aa (AB Tryz.func66 aE ?_) (A2 (Al.GB n) (A2 rfl rfl)) rfl
 revert h
 let o1:List (PC P G):=[pk,pk,pk,pk,pk,pk]
 refine Ae (fun hb1=>?_) fun hb1=>?_
 let o2:List (PC P G):=o1++[pb hb1,pk,pk]
 refine Ae (fun hb2=>?_) fun hb2=>?_
 refine Ae (fun hb3=>?_) fun hb3=>?_
 refine Ae (fun hb4=>?_) fun hb4=>?_
 let o3:List (PC P G):=o2++[pb hb2,pb hb3,pb hb4,pk,pk]
 refine Ae (fun hb5=>?_) fun hb5=>?_
 refine Ae (fun hb6=>?_) fun hb6=>?_
 refine Ae (fun hb7=>?_) fun hb7=>?_
 rintro ⟨⟩
 exact rS (Ab 300 (o3++[pb hb5,pb hb6,pk,pk,pb hb7])) (by kernel_rfl)
 rintro ⟨⟩
 exact rS (Ab 300 (o3++[pb hb5,pb hb6,pk,pk,pb hb7])) (by kernel_rfl)
 rintro ⟨⟩
 exact rS (Ab 300 (o3++[pb hb5,pb hb6])) (by kernel_rfl)
 rintro ⟨⟩
 exact rS (Ab 300 (o3++[pb hb5])) (by kernel_rfl)
 rintro ⟨⟩
 exact rS (Ab 300 (o2++[pb hb2,pb hb3,pb hb4])) (by kernel_rfl)
 rintro ⟨⟩
 exact rS (Ab 300 (o2++[pb hb2,pb hb3])) (by kernel_rfl)
 rintro ⟨⟩
 exact rS (Ab 300 (o2++[pb hb2])) (by kernel_rfl)
 rintro ⟨⟩
 exact rS (Ab 300 (o1++[pb hb1])) (by kernel_rfl)
noncomputable def C3  (n:Nd):Option Bool:=cond (Bq n.fr 0) (cond (Bq n.to 0) (cond (Bq n.known 0) (cond (Bq n.tab.den 0) (cond (Bq ((n.tab.ps.length:Nat):Int) 0) (cond (Bq ((n.kids.length:Nat):Int) 0) (some true) (some false)) (some false)) (some false)) (some false)) (some false)) (some false)
theorem CJ   {n:Nd} {yR:Bool} (h:C3  n=some yR):Pure P G 66 [.agg (Bl n),.sc (.int .i64 7)] (.sc (.bool yR)):=by
 unfold C3 at h
 refine BB Hd.mixed Hd.Aa (AB Tryz.func66 aE ?_) (A2 (Al.GB n) (A2 rfl rfl)) rfl
 revert h
 let o1:List (PC P G):=[pk,pk,pk,pk,pk,pk,pk,pk]
 refine Ae (fun hb1=>?_) fun hb1=>?_
 refine Ae (fun hb2=>?_) fun hb2=>?_
 refine Ae (fun hb3=>?_) fun hb3=>?_
 let o2:List (PC P G):=o1++[pb hb1,pb hb2,pb hb3,pk,pk]
 refine Ae (fun hb4=>?_) fun hb4=>?_
 refine Ae (fun hb5=>?_) fun hb5=>?_
 refine Ae (fun hb6=>?_) fun hb6=>?_
 rintro ⟨⟩
 exact rS (Ab 300 (o2++[pb hb4,pb hb5,pk,pk,pb hb6])) (by kernel_rfl)
 rintro ⟨⟩
 exact rS (Ab 300 (o2++[pb hb4,pb hb5,pk,pk,pb hb6])) (by kernel_rfl)
 rintro ⟨⟩
 exact rS (Ab 300 (o2++[pb hb4,pb hb5])) (by kernel_rfl)
 rintro ⟨⟩
 exact rS (Ab 300 (o2++[pb hb4])) (by kernel_rfl)
 rintro ⟨⟩
 exact rS (Ab 300 (o1++[pb hb1,pb hb2,pb hb3])) (by kernel_rfl)
 rintro ⟨⟩
 exact rS (Ab 300 (o1++[pb hb1,pb hb2])) (by kernel_rfl)
 rintro ⟨⟩
 exact rS (Ab 300 (o1++[pb hb1])) (by kernel_rfl)
noncomputable def CM  (n:Nd):Option Bool:=cond (BA n.unit.data.toList ByteArray.empty.data.toList) (cond (Bq n.fr 0) (cond (Bq n.to 0) (cond (Bq n.known 0) (cond (Bq n.tab.den 0) (cond (Bq ((n.tab.ps.length:Nat):Int) 0) (some true) (some false)) (some false)) (some false)) (some false)) (some false)) (some false)
theorem En   {n:Nd} {yR:Bool} (h:CM  n=some yR):Pure P G 66 [.agg (Bl n),.sc (.int .i64 37)] (.sc (.bool yR)):=by
 unfold CM at h
 refine BB Hd.mixed Hd.Aa (AB Tryz.func66 aE ?_) (A2 (Al.GB n) (A2 rfl rfl)) rfl
 revert h
 let o1:List (PC P G):=[pk,pk,pk,pk]
 refine Ae (fun hb1=>?_) fun hb1=>?_
 let o2:List (PC P G):=o1++[pb hb1,pk,pk,pk,pk]
 refine Ae (fun hb2=>?_) fun hb2=>?_
 refine Ae (fun hb3=>?_) fun hb3=>?_
 refine Ae (fun hb4=>?_) fun hb4=>?_
 refine Ae (fun hb5=>?_) fun hb5=>?_
 refine Ae (fun hb6=>?_) fun hb6=>?_
 rintro ⟨⟩
 exact rS (Ab 300 (o2++[pb hb2,pb hb3,pb hb4,pk,pk,pb hb5,pb hb6,pk,pk])) (by kernel_rfl)
 rintro ⟨⟩
 exact rS (Ab 300 (o2++[pb hb2,pb hb3,pb hb4,pk,pk,pb hb5,pb hb6])) (by kernel_rfl)
 rintro ⟨⟩
 exact rS (Ab 300 (o2++[pb hb2,pb hb3,pb hb4,pk,pk,pb hb5])) (by kernel_rfl)
 rintro ⟨⟩
 exact rS (Ab 300 (o2++[pb hb2,pb hb3,pb hb4])) (by kernel_rfl)
 rintro ⟨⟩
 exact rS (Ab 300 (o2++[pb hb2,pb hb3])) (by kernel_rfl)
 rintro ⟨⟩
 exact rS (Ab 300 (o2++[pb hb2])) (by kernel_rfl)
 rintro ⟨⟩
 exact rS (Ab 300 (o1++[pb hb1])) (by kernel_rfl)
noncomputable def Ez  (n:Nd):Option Bool:=cond (BA n.name.data.toList ByteArray.empty.data.toList) (cond (BA n.unit.data.toList ByteArray.empty.data.toList) (cond (Bq n.tab.den 0) (cond (Bq ((n.tab.ps.length:Nat):Int) 0) (cond (Bq ((n.kids.length:Nat):Int) 0) (some true) (some false)) (some false)) (some false)) (some false)) (some false)
theorem LD   {n:Nd} {yR:Bool} (h:Ez  n=some yR):Pure P G 66 [.agg (Bl n),.sc (.int .i64 12)] (.sc (.bool yR)):=by
 unfold Ez at h
 refine BB Hd.mixed Hd.Aa (AB Tryz.func66 aE ?_) (A2 (Al.GB n) (A2 rfl rfl)) rfl
 revert h
 refine Ae (fun hb1=>?_) fun hb1=>?_
 let o1:List (PC P G):=[pk,pk,pb hb1,pk,pk]
 refine Ae (fun hb2=>?_) fun hb2=>?_
 let o2:List (PC P G):=o1++[pb hb2,pk,pk,pk,pk,pk,pk]
 refine Ae (fun hb3=>?_) fun hb3=>?_
 refine Ae (fun hb4=>?_) fun hb4=>?_
 refine Ae (fun hb5=>?_) fun hb5=>?_
 rintro ⟨⟩
 exact rS (Ab 300 (o2++[pb hb3,pb hb4,pk,pk,pb hb5])) (by kernel_rfl)
 rintro ⟨⟩
 exact rS (Ab 300 (o2++[pb hb3,pb hb4,pk,pk,pb hb5])) (by kernel_rfl)
 rintro ⟨⟩
 exact rS (Ab 300 (o2++[pb hb3,pb hb4])) (by kernel_rfl)
 rintro ⟨⟩
 exact rS (Ab 300 (o2++[pb hb3])) (by kernel_rfl)
 rintro ⟨⟩
 exact rS (Ab 300 (o1++[pb hb2])) (by kernel_rfl)
 rintro ⟨⟩
 exact rS (Ab 300 [pk,pk,pb hb1]) (by kernel_rfl)
noncomputable def B91:Code:=A3 Tryz.f91
theorem b91:Tryz.f91.body=some B91:=by kernel_rfl
noncomputable def AZ  (n:Int) (low:Int) (high:Int):Option Bool:=cond (KL low n) (cond (KL n high) (some true) (some false)) (some false)
theorem Au   {n:Int} {low:Int} {high:Int} {yR:Bool} (h:AZ  n low high=some yR):Pure P G 91 [.sc (.int .i64 n),.sc (.int .i64 low),.sc (.int .i64 high)] (.sc (.bool yR)):=by
 unfold AZ at h
 refine BB Hd.mixed Hd.Aa (AB Tryz.func91 b91 ?_) (A2 rfl (A2 rfl (A2 rfl rfl))) rfl
 revert h
 refine Ae (fun hb1=>?_) fun hb1=>?_
 refine Ae (fun hb2=>?_) fun hb2=>?_
 rintro ⟨⟩
 exact rS (Ab 300 [pb hb1,pb hb2]) (by kernel_rfl)
 rintro ⟨⟩
 exact rS (Ab 300 [pb hb1,pb hb2]) (by kernel_rfl)
 rintro ⟨⟩
 exact rS (Ab 300 [pb hb1]) (by kernel_rfl)
noncomputable def vH:Code:=A3 Tryz.f117
theorem vD:Tryz.f117.body=some vH:=by kernel_rfl
noncomputable def Ej  (c:Int):Option Bool:=cond (KL 65 c) (cond (KL c 90) (some true) (some false)) (some false)
theorem FR   {c:Int} {yR:Bool} (h:Ej  c=some yR):Pure P G 117 [.sc (.int .u8 c)] (.sc (.bool yR)):=by
 unfold Ej at h
 refine BB Hd.mixed Hd.Aa (AB Tryz.func117 vD ?_) (A2 rfl rfl) rfl
 revert h
 refine Ae (fun hb1=>?_) fun hb1=>?_
 refine Ae (fun hb2=>?_) fun hb2=>?_
 rintro ⟨⟩
 exact rS (Ab 300 [pb hb1,pb hb2]) (by kernel_rfl)
 rintro ⟨⟩
 exact rS (Ab 300 [pb hb1,pb hb2]) (by kernel_rfl)
 rintro ⟨⟩
 exact rS (Ab 300 [pb hb1]) (by kernel_rfl)
noncomputable def B92:Code:=A3 Tryz.f92
theorem b92:Tryz.f92.body=some B92:=by kernel_rfl
noncomputable def Fv  (s:ByteArray):Option Bool:=cond (Bq ((s.data.toList.length:Nat):Int) 3) ((s.data.toList[0]?).bind fun c1=>(Ej ((c1.toNat:Nat):Int)).bind fun y2=>cond y2 ((s.data.toList[1]?).bind fun c3=>(Ej ((c3.toNat:Nat):Int)).bind fun y4=>cond y4 ((s.data.toList[2]?).bind fun c5=>(Ej ((c5.toNat:Nat):Int)).bind fun y6=>some y6) (some false)) (some false)) (some false)
theorem G9   {s:ByteArray} {yR:Bool} (h:Fv  s=some yR):Pure P G 92 [.sc (.string s)] (.sc (.bool yR)):=by
 unfold Fv at h
 refine BB Hd.mixed Hd.Aa (AB Tryz.func92 b92 ?_) (A2 rfl rfl) rfl
 revert h
 refine Ae (fun hb1=>?_) fun hb1=>?_
 refine Ah fun c1 hc1=>?_
 refine Ah fun y2 hy2=>?_
 let o1:List (PC P G):=[pb hb1,Sg (J8 hc1),Ak (FR hy2)]
 refine Ae (fun hv=>?_) fun hv=>?_
 subst hv
 refine Ah fun c3 hc3=>?_
 refine Ah fun y4 hy4=>?_
 refine Ae (fun hv=>?_) fun hv=>?_
 subst hv
 refine Ah fun c5 hc5=>?_
 refine Ah fun y6 hy6=>?_
 intro h
 have hE:=Option.some.inj h
 subst hE
 exact rS (Ab 300 (o1++[Sg (J8 hc3),Ak (FR hy4),Sg (J8 hc5),Ak (FR hy6)])) (by kernel_rfl)
 subst hv
 rintro ⟨⟩
 exact rS (Ab 300 (o1++[Sg (J8 hc3),Ak (FR hy4)])) (by kernel_rfl)
 subst hv
 rintro ⟨⟩
 exact rS (Ab 300 o1) (by kernel_rfl)
 rintro ⟨⟩
 exact rS (Ab 300 [pb hb1]) (by kernel_rfl)
noncomputable def w7:Code:=A3 Tryz.f94
theorem b94:Tryz.f94.body=some w7:=by kernel_rfl
noncomputable def Js  (s:ByteArray) (i0:Nat) (e0:ByteArray) :Option (Lp Unit Unit Bool):=cond (BA e0.data.toList s.data.toList) (some (.rt true)) (some (.nx ()))
noncomputable def Fz  (l:(List ByteArray)) (s:ByteArray):Option Bool:=(It l.length (AL (fun i y x=>Js  s i y ) (fun x=>()) (l.drop 0) 0 ())).bind (Ii (fun (_:Unit)=>some false) (fun v=>some v))
theorem Gc   {l:(List ByteArray)} {s:ByteArray} {yR:Bool} (h:Fz  l s=some yR):Pure P G 94 [.sl .lost l.length (rows IW l),.sc (.string s)] (.sc (.bool yR)):=by
 unfold Fz at h
 refine BB Hd.mixed Hd.Aa (AB Tryz.func94 b94 ?_) (A2 (Bc.B9 l) (A2 rfl rfl)) rfl
 revert h
 refine Fb (fun Q v=>Fq P Tryz.f94 0 Q (.sc (.bool v))) (fun i0 (_:Unit) (j0:List Value)=>fr 18 [(0,.sl .lost l.length (rows IW l)),(1,.sc (.string s)),(5,.sc (.int .i64 ((i0:Nat):Int)))] [4,9,17] j0) (fun (_:Unit)=>⟨[],0,[],0⟩) (fun (_:Unit) (jx:List Value)=>fr 18 [] [4,9,17] jx) (fun (_:Unit)=>⟨[],0,[],0⟩) [.bool false] (EO [] 0 (sb w7 52) [.code (sb w7 7)] (Ab 300 []) (by kernel_rfl)) ?_ ?_ ?_ (fun v h=>by cases h;exact .outer .body)
 rintro i0 ⟨⟩ j0 hge hq
 exact CT (Ab 300 [pb (Kz hge)]) (by kernel_rfl) (hq (js 3 j0 [(1,.bool false)]))
 rintro i0 e0 ⟨⟩ j0 r he0 hi0 mi0 k
 show Js  s i0 e0 =some r→_
 unfold Js
 refine Ae (fun hb1=>?_) fun hb1=>?_
 rintro ⟨⟩
 exact AG _ _ (Ab 300 [pb (GD hi0),Ct (Ni .lost he0),pb hb1]) (by kernel_rfl) (.GS k) .sc
 rintro ⟨⟩
 exact D6 (Ab 300 [pb (GD hi0),Ct (Ni .lost he0),pb hb1,pi mi0]) (by kernel_rfl) (k [(jv j0 0),.bool true,.bool false])
 rintro ⟨⟩ jx_1
 intro h
 have hE:=Option.some.inj h
 subst hE
 exact AG _ _ (Cc 300 []) (by kernel_rfl) .body .sc
noncomputable def xA:Code:=A3 Tryz.f118
theorem u6:Tryz.f118.body=some xA:=by kernel_rfl
noncomputable def E6  (c:Int):Option Bool:=cond (KL 97 c) (cond (KL c 122) (some true) (some false)) (some false)
theorem JG   {c:Int} {yR:Bool} (h:E6  c=some yR):Pure P G 118 [.sc (.int .u8 c)] (.sc (.bool yR)):=by
 unfold E6 at h
 refine BB Hd.mixed Hd.Aa (AB Tryz.func118 u6 ?_) (A2 rfl rfl) rfl
 revert h
 refine Ae (fun hb1=>?_) fun hb1=>?_
 refine Ae (fun hb2=>?_) fun hb2=>?_
 rintro ⟨⟩
 exact rS (Ab 300 [pb hb1,pb hb2]) (by kernel_rfl)
 rintro ⟨⟩
 exact rS (Ab 300 [pb hb1,pb hb2]) (by kernel_rfl)
 rintro ⟨⟩
 exact rS (Ab 300 [pb hb1]) (by kernel_rfl)
noncomputable def vS:Code:=A3 Tryz.f119
theorem u9:Tryz.f119.body=some vS:=by kernel_rfl
noncomputable def IH  :Option (List ByteArray):=some [RC,QG,JY,Xg,Rf,RB,pT,NP,Rm,Ly,Li,AO,Bj,B2,Wh,Ro,Lj,Nv,Q2,SO,Iq,Xa,Tu,QT,NA,Wt,EX,Ox,Ip,Ky,Hm,Er,NS]
theorem KB    {yR:(List ByteArray)} (h:IH  =some yR):Pure P G 119 [] (.sl .lost yR.length (rows IW yR)):=by
 unfold IH at h
 refine BB Hd.mixed Hd.Aa (AB Tryz.func119 u9 ?_) rfl (Bc.B9 yR)
 revert h
 intro h
 have hE:=Option.some.inj h
 subst hE
 exact AG (v:=.sl .full 33 (.sc (.string RC)::.sc (.string QG)::.sc (.string JY)::.sc (.string Xg)::.sc (.string Rf)::.sc (.string RB)::.sc (.string pT)::.sc (.string NP)::.sc (.string Rm)::.sc (.string Ly)::.sc (.string Li)::.sc (.string AO)::.sc (.string Bj)::.sc (.string B2)::.sc (.string Wh)::.sc (.string Ro)::.sc (.string Lj)::.sc (.string Nv)::.sc (.string Q2)::.sc (.string SO)::.sc (.string Iq)::.sc (.string Xa)::.sc (.string Tu)::.sc (.string QT)::.sc (.string NA)::.sc (.string Wt)::.sc (.string EX)::.sc (.string Ox)::.sc (.string Ip)::.sc (.string Ky)::.sc (.string Hm)::.sc (.string Er)::.sc (.string NS)::[])) _ _ (Ab 300 []) (by kernel_rfl) .body (.wn (.d (.r (.r (.r (.r (.r (.r (.r (.r (.r (.r (.r (.r (.r (.r (.r (.r (.r (.r (.r (.r (.r (.r (.r (.r (.r (.r (.r (.r (.r (.r (.r (.r (.r .nil))))))))))))))))))))))))))))))))) (Bc.eq [RC,QG,JY,Xg,Rf,RB,pT,NP,Rm,Ly,Li,AO,Bj,B2,Wh,Ro,Lj,Nv,Q2,SO,Iq,Xa,Tu,QT,NA,Wt,EX,Ox,Ip,Ky,Hm,Er,NS]).symm .nil) (Bc.B9 [RC,QG,JY,Xg,Rf,RB,pT,NP,Rm,Ly,Li,AO,Bj,B2,Wh,Ro,Lj,Nv,Q2,SO,Iq,Xa,Tu,QT,NA,Wt,EX,Ox,Ip,Ky,Hm,Er,NS]))
noncomputable def vZ:Code:=A3 Tryz.f120
theorem v7:Tryz.f120.body=some vZ:=by kernel_rfl
noncomputable def Ge  (c:Int):Option Bool:=cond (KL 48 c) (cond (KL c 57) (some true) (some false)) (some false)
theorem NV   {c:Int} {yR:Bool} (h:Ge  c=some yR):Pure P G 120 [.sc (.int .u8 c)] (.sc (.bool yR)):=by
 unfold Ge at h
 refine BB Hd.mixed Hd.Aa (AB Tryz.func120 v7 ?_) (A2 rfl rfl) rfl
 revert h
 refine Ae (fun hb1=>?_) fun hb1=>?_
 refine Ae (fun hb2=>?_) fun hb2=>?_
 rintro ⟨⟩
 exact rS (Ab 300 [pb hb1,pb hb2]) (by kernel_rfl)
 rintro ⟨⟩
 exact rS (Ab 300 [pb hb1,pb hb2]) (by kernel_rfl)
 rintro ⟨⟩
 exact rS (Ab 300 [pb hb1]) (by kernel_rfl)
noncomputable def uT:Code:=A3 Tryz.f93
theorem b93:Tryz.f93.body=some uT:=by kernel_rfl
noncomputable def Hu   (i0:Nat) (e0:UInt8) :Option (Lp Unit Unit Bool):=(E6 ((e0.toNat:Nat):Int)).bind fun y5=>cond y5 (some (.nx ())) ((Ge ((e0.toNat:Nat):Int)).bind fun y6=>cond y6 (some (.nx ())) (cond (Bq ((e0.toNat:Nat):Int) 95) (some (.nx ())) (some (.rt false))))
noncomputable def FW  (s:ByteArray):Option Bool:=cond (F4 ((s.data.toList.length:Nat):Int) 1) (some false) (cond (F4 16 ((s.data.toList.length:Nat):Int)) (some false) ((s.data.toList[0]?).bind fun c1=>(E6 ((c1.toNat:Nat):Int)).bind fun y2=>cond y2 ((IH).bind fun y3=>(Fz y3 s).bind fun y4=>cond y4 (some false) ((It s.data.toList.length (AL (fun i y x=>Hu   i y ) (fun x=>()) (s.data.toList.drop 0) 0 ())).bind (Ii (fun (_:Unit)=>some true) (fun v=>some v)))) (some false)))
theorem Kx   {s:ByteArray} {yR:Bool} (h:FW  s=some yR):Pure P G 93 [.sc (.string s)] (.sc (.bool yR)):=by
 unfold FW at h
 refine BB Hd.mixed Hd.Aa (AB Tryz.func93 b93 ?_) (A2 rfl rfl) rfl
 revert h
 refine Ae (fun hb1=>?_) fun hb1=>?_
 rintro ⟨⟩
 exact rS (Ab 300 [pb hb1]) (by kernel_rfl)
 refine Ae (fun hb2=>?_) fun hb2=>?_
 rintro ⟨⟩
 exact rS (Ab 300 [pb hb1,pb hb2]) (by kernel_rfl)
 refine Ah fun c1 hc1=>?_
 refine Ah fun y2 hy2=>?_
 let o1:List (PC P G):=[pb hb1,pb hb2,Sg (J8 hc1),Ak (JG hy2)]
 refine Ae (fun hv=>?_) fun hv=>?_
 subst hv
 refine Ah fun y3 hy3=>?_
 refine Ah fun y4 hy4=>?_
 refine Ae (fun hv=>?_) fun hv=>?_
 subst hv
 rintro ⟨⟩
 exact rS (Ab 300 (o1++[Ak (KB hy3),Ak (Gc hy4)])) (by kernel_rfl)
 subst hv
 refine Fb (fun Q v=>Fq P Tryz.f93 0 Q (.sc (.bool v))) (fun i0 (_:Unit) (j0:List Value)=>fr 47 [(0,.sc (.string s)),(3,.sc (.int .i64 ((i0:Nat):Int)))] [2,6,7,10,11,12,15,16,17,18,21,22,26,32,33,34,38,39,40,41,45,46] j0) (fun (_:Unit)=>⟨[],0,[],0⟩) (fun (_:Unit) (jx:List Value)=>fr 47 [] [2,6,7,10,11,12,15,16,17,18,21,22,26,32,33,34,38,39,40,41,45,46] jx) (fun (_:Unit)=>⟨[],0,[],0⟩) [.bool false,.bool false,.bool false,.bool false,.bool false,.bool false,.bool true,.bool false,.bool false,.bool false,.bool false,.bool false] (EO [] 0 (sb uT 116) [.code (sb uT 15)] (Ab 300 (o1++[Ak (KB hy3),Ak (Gc hy4)])) (by kernel_rfl)) ?_ ?_ ?_ (fun v h=>by cases h;exact .outer .body)
 rintro i0 ⟨⟩ j0 hge hq
 exact CT (Ab 300 [pb (Kz hge)]) (by kernel_rfl) (hq (js 22 j0 [(12,.bool false)]))
 rintro i0 e0 ⟨⟩ j0 r he0 hi0 mi0 k
 show Hu   i0 e0 =some r→_
 unfold Hu
 refine Ah fun y5 hy5=>?_
 let o2:List (PC P G):=[pb (GD hi0),Sg (J8 he0),Ak (JG hy5)]
 refine Ae (fun hv=>?_) fun hv=>?_
 subst hv
 rintro ⟨⟩
 exact D6 (Ab 300 (o2++[pi mi0])) (by kernel_rfl) (k (js 22 j0 [(12,.bool true),(13,.bool true),(14,.bool false),(15,.bool false),(16,undef),(17,undef),(18,.bool false),(19,.bool false),(20,undef),(21,.bool false)]))
 subst hv
 refine Ah fun y6 hy6=>?_
 let o3:List (PC P G):=o2++[Sg (J8 he0),Ak (NV hy6)]
 refine Ae (fun hv=>?_) fun hv=>?_
 subst hv
 rintro ⟨⟩
 exact D6 (Ab 300 (o3++[pi mi0])) (by kernel_rfl) (k (js 22 j0 [(12,.bool true),(13,.bool false),(14,.bool true),(15,.bool true),(16,.bool true),(17,.bool false),(18,.bool false),(19,.bool false),(20,undef),(21,.bool false)]))
 subst hv
 refine Ae (fun hb3=>?_) fun hb3=>?_
 rintro ⟨⟩
 exact D6 (Ab 300 (o3++[Sg (J8 he0),pn hb3,pi mi0])) (by kernel_rfl) (k (js 22 j0 [(12,.bool true),(13,.bool false),(14,.bool true),(15,.bool true),(16,.bool false),(17,.bool true),(18,.bool true),(19,.bool true),(20,.bool false),(21,.bool false)]))
 rintro ⟨⟩
 exact AG _ _ (Ab 300 (o3++[Sg (J8 he0),pn hb3])) (by kernel_rfl) (.GS k) .sc
 rintro ⟨⟩ jx_7
 intro h
 have hE:=Option.some.inj h
 subst hE
 exact AG _ _ (Cc 300 []) (by kernel_rfl) .body .sc
 subst hv
 rintro ⟨⟩
 exact rS (Ab 300 o1) (by kernel_rfl)
noncomputable def B95:Code:=A3 Tryz.f95
theorem b95:Tryz.f95.body=some B95:=by kernel_rfl
noncomputable def EA  (n:Nd):Option Bool:=cond (Bq n.kind 11) ((D3 n).bind fun y1=>cond y1 (cond (BA n.unit.data.toList Bj.data.toList) ((AZ n.n 1 1000000).bind fun y2=>some y2) (some false)) (some false)) (some false)
theorem GM   {n:Nd} {yR:Bool} (h:EA  n=some yR):Pure P G 95 [.agg (Bl n)] (.sc (.bool yR)):=by
 unfold EA at h
 refine BB Hd.mixed Hd.Aa (AB Tryz.func95 b95 ?_) (A2 (Al.GB n) rfl) rfl
 revert h
 refine Ae (fun hb1=>?_) fun hb1=>?_
 refine Ah fun y1 hy1=>?_
 let o1:List (PC P G):=[pb hb1,Ak (I9 hy1)]
 refine Ae (fun hv=>?_) fun hv=>?_
 subst hv
 refine Ae (fun hb2=>?_) fun hb2=>?_
 refine Ah fun y2 hy2=>?_
 intro h
 have hE:=Option.some.inj h
 subst hE
 exact rS (Ab 300 (o1++[pb hb2,Ak (Au hy2)])) (by kernel_rfl)
 rintro ⟨⟩
 exact rS (Ab 300 (o1++[pb hb2])) (by kernel_rfl)
 subst hv
 rintro ⟨⟩
 exact rS (Ab 300 o1) (by kernel_rfl)
 rintro ⟨⟩
 exact rS (Ab 300 [pb hb1]) (by kernel_rfl)
noncomputable def vX:Code:=A3 Tryz.f97
theorem b97:Tryz.f97.body=some vX:=by kernel_rfl
noncomputable def GZ  (f:Fn) (i0:Nat) (e0:Pc) :Option (Lp Unit Unit Bool):=(Qz e0.att f.den).bind fun z3=>cond (Bq z3 0) ((Yu e0.att f.den).bind fun z4=>(AZ z4 (-999999999999) 999999999999).bind fun y5=>cond y5 ((AZ e0.slope (-1000000) 1000000).bind fun y6=>cond y6 (cond (F4 999999999999 e0.fr) (some (.rt false)) (cond (Bq ((i0:Nat):Int) 0) (cond (Bq e0.fr 0) (some (.nx ())) (some (.rt false))) (cond (F4 0 ((i0:Nat):Int)) ((LC f.ps (RV ((i0:Nat):Int) 1)).bind fun x7=>cond (KL e0.fr x7.fr) (some (.rt false)) (some (.nx ()))) (some (.nx ()))))) (some (.rt false))) (some (.rt false))) (some (.rt false))
noncomputable def Gk  (f:Fn):Option Bool:=(AZ f.den 1 1000000).bind fun y1=>cond y1 ((AZ ((f.ps.length:Nat):Int) 1 64).bind fun y2=>cond y2 ((It f.ps.length (AL (fun i y x=>GZ  f i y ) (fun x=>()) (f.ps.drop 0) 0 ())).bind (Ii (fun (_:Unit)=>some true) (fun v=>some v))) (some false)) (some false)
theorem Nl   {f:Fn} {yR:Bool} (h:Gk  f=some yR):Pure P G 97 [.agg (XA f)] (.sc (.bool yR)):=by
 unfold Gk at h
 refine BB Hd.mixed Hd.Aa (AB Tryz.func97 b97 ?_) (A2 (O7.GB f) rfl) rfl
 revert h
 refine Ah fun y1 hy1=>?_
 refine Ae (fun hv=>?_) fun hv=>?_
 subst hv
 refine Ah fun y2 hy2=>?_
 refine Ae (fun hv=>?_) fun hv=>?_
 subst hv
 refine Fb (fun Q v=>Fq P Tryz.f97 0 Q (.sc (.bool v))) (fun i0 (_:Unit) (j0:List Value)=>fr 79 [(1,.ptr 0 0),(3,.sc (.int .i64 ((i0:Nat):Int)))] [2,7,8,9,13,14,15,20,33,34,40,41,42,43,46,47,48,49,52,53,54,56,57,60,61,62,63,65,66,76,77,78] j0) (fun (_:Unit)=>⟨[(0,.cells (XA f))],1,[],0⟩) (fun (_:Unit) (jx:List Value)=>fr 79 [] [2,7,8,9,13,14,15,20,33,34,40,41,42,43,46,47,48,49,52,53,54,56,57,60,61,62,63,65,66,76,77,78] jx) (fun (_:Unit)=>⟨[(0,.cells (XA f))],1,[],0⟩) [.bool false,.bool true,.bool false,.bool false,.bool true,.bool false,.bool false] (EO [] 0 (sb vX 116) [.code (sb vX 15)] (Ab 300 [Ak (Au hy1),Ak (Au hy2)]) (by kernel_rfl)) ?_ ?_ ?_ (fun v h=>by cases h;exact .outer .body)
 rintro i0 ⟨⟩ j0 hge hq
 exact CT (Ab 300 [pb (Kz hge)]) (by kernel_rfl) (hq (js 32 j0 [(7,.bool false)]))
 rintro i0 e0 ⟨⟩ j0 r he0 hi0 mi0 k
 show GZ  f i0 e0 =some r→_
 unfold GZ
 refine Ah fun z3 hz3=>?_
 let o1:List (PC P G):=[pb (GD hi0),Ct (T3 .lost he0),HY (SH hz3 (.tmp 29) (.tmp 31))]
 refine Ae (fun hb1=>?_) fun hb1=>?_
 refine Ah fun z4 hz4=>?_
 refine Ah fun y5 hy5=>?_
 let o2:List (PC P G):=o1++[pn hb1,HY (aR hz4 (.tmp 36) (.tmp 38)),Ak (Au hy5)]
 refine Ae (fun hv=>?_) fun hv=>?_
 subst hv
 refine Ah fun y6 hy6=>?_
 let o3:List (PC P G):=o2++[Ak (Au hy6)]
 refine Ae (fun hv=>?_) fun hv=>?_
 subst hv
 refine Ae (fun hb2=>?_) fun hb2=>?_
 rintro ⟨⟩
 exact AG _ _ (Ab 300 (o3++[pb hb2])) (by kernel_rfl) (.GS k) .sc
 refine Ae (fun hb3=>?_) fun hb3=>?_
 refine Ae (fun hb4=>?_) fun hb4=>?_
 rintro ⟨⟩
 exact BJ Hd.Aa [] [bp (O7.pl f)] (Ab 300 (o3++[pb hb2,pb hb3,pn hb4,pb (B:=F4 0 ((i0:Nat):Int)) (b:=false) (hN (by have:=GV hb3;omega)),pi mi0])) (by kernel_rfl) (k [(jv j0 0),(jv j0 1),(jv j0 2),(jv j0 3),(jv j0 4),(jv j0 5),(jv j0 6),.bool true,.bool false,.bool false,.bool true,.bool false,.bool false,.bool false,.bool true,.bool false,.bool false,.bool false,.bool false,.bool false,.bool false,.bool true,.bool true,.bool false,.bool false,.bool false,.bool false,.bool false,.bool false,undef,.bool false,.bool false])
 rintro ⟨⟩
 exact AG _ _ (Ab 300 (o3++[pb hb2,pb hb3,pn hb4])) (by kernel_rfl) (.GS k) .sc
 refine Ae (fun hb5=>?_) fun hb5=>?_
 refine Ah fun x7 hx7=>?_
 refine Ae (fun hb6=>?_) fun hb6=>?_
 rintro ⟨⟩
 exact AG _ _ (Ab 300 (o3++[pb hb2,pb hb3,pb hb5,pk,Ct (ZU .lost hx7),pb hb6])) (by kernel_rfl) (.GS k) .sc
 rintro ⟨⟩
 exact BJ Hd.Aa [] [bp (O7.pl f)] (Ab 300 (o3++[pb hb2,pb hb3,pb hb5,pk,Ct (ZU .lost hx7),pb hb6,pi mi0])) (by kernel_rfl) (k [(jv j0 0),(jv j0 1),(jv j0 2),(jv j0 3),(jv j0 4),(jv j0 5),(jv j0 6),.bool true,.bool false,.bool false,.bool true,.bool false,.bool false,.bool false,.bool true,.bool false,.bool false,.bool false,.bool false,.bool false,.bool false,.bool false,.bool false,undef,.bool false,.bool false,.bool false,.bool true,.bool true,.bool false,.bool false,.bool false])
 rintro ⟨⟩
 exact BJ Hd.Aa [] [bp (O7.pl f)] (Ab 300 (o3++[pb hb2,pb hb3,pb hb5,pi mi0])) (by kernel_rfl) (k [(jv j0 0),(jv j0 1),(jv j0 2),(jv j0 3),(jv j0 4),(jv j0 5),(jv j0 6),.bool true,.bool false,.bool false,.bool true,.bool false,.bool false,.bool false,.bool true,.bool false,.bool false,.bool false,.bool false,.bool false,.bool false,.bool false,.bool false,undef,.bool false,.bool false,.bool false,.bool false,.bool false,undef,.bool false,.bool false])
 subst hv
 rintro ⟨⟩
 exact AG _ _ (Ab 300 o3) (by kernel_rfl) (.GS k) .sc
 subst hv
 rintro ⟨⟩
 exact AG _ _ (Ab 300 o2) (by kernel_rfl) (.GS k) .sc
 rintro ⟨⟩
 exact AG _ _ (Ab 300 (o1++[pn hb1])) (by kernel_rfl) (.GS k) .sc
 rintro ⟨⟩ jx_8
 intro h
 have hE:=Option.some.inj h
 subst hE
 exact AG _ _ (Cc 300 []) (by kernel_rfl) .body .sc
 subst hv
 rintro ⟨⟩
 exact rS (Ab 300 [Ak (Au hy1),Ak (Au hy2)]) (by kernel_rfl)
 subst hv
 rintro ⟨⟩
 exact rS (Ab 300 [Ak (Au hy1)]) (by kernel_rfl)
noncomputable def B64:Code:=A3 Tryz.f64
theorem b64:Tryz.f64.body=some B64:=by kernel_rfl
noncomputable def IK (Cm:Nd→Option Bool) (BQ:(List Nd)→Option Bool) (n:Nd):Option Bool:=cond (Bq n.kind 11) ((D3 n).bind fun y1=>cond y1 (cond (BA n.unit.data.toList AO.data.toList) ((AZ n.n 0 1).bind fun y2=>cond y2 ((AZ n.n 0 999999999999).bind fun y3=>cond y3 ((Fv n.unit).bind fun y4=>cond y4 (some true) (some true)) (some false)) (some false)) ((AZ n.n 0 999999999999).bind fun y5=>cond y5 ((Fv n.unit).bind fun y6=>cond y6 (some true) (cond (BA n.unit.data.toList Bj.data.toList) (some true) (cond (BA n.unit.data.toList B2.data.toList) (some true) (some false)))) (some false))) (some false)) (cond (Bq n.kind 12) ((D4 n).bind fun y7=>cond y7 ((FW n.name).bind fun y8=>some y8) (some false)) (cond (Bq n.kind 13) ((EY n).bind fun y9=>cond y9 ((AZ n.n 1 1000000).bind fun y10=>some y10) (some false)) (cond (Bq n.kind 14) ((D4 n).bind fun y11=>cond y11 ((Fz [EX,Ox,Ip,Ky] n.name).bind fun y12=>some y12) (some false)) (cond (Bq n.kind 15) ((Dd n).bind fun y13=>cond y13 (cond (Bq ((n.kids.length:Nat):Int) 1) ((n.kids[0]?).bind fun x14=>(Cm x14).bind fun y15=>some y15) (some false)) (some false)) (cond (Bq n.kind 16) ((DP n).bind fun y16=>cond y16 (cond (Bq ((n.kids.length:Nat):Int) 2) (cond (BA n.name.data.toList JD.data.toList) ((n.kids[1]?).bind fun x17=>(EA x17).bind fun y18=>cond y18 ((Fz [SO,Iq,Ij,Hh,On,Hp,KK,NW,Om,JD,Tu] n.name).bind fun y19=>cond y19 ((BQ n.kids).bind fun y20=>some y20) (some false)) (some false)) ((Fz [SO,Iq,Ij,Hh,On,Hp,KK,NW,Om,JD,Tu] n.name).bind fun y21=>cond y21 ((BQ n.kids).bind fun y22=>some y22) (some false))) (some false)) (some false)) (cond (Bq n.kind 17) ((DP n).bind fun y23=>cond y23 (cond (KL 2 ((n.kids.length:Nat):Int)) (cond (BA n.name.data.toList Hm.data.toList) ((BQ n.kids).bind fun y24=>some y24) (cond (BA n.name.data.toList Er.data.toList) ((BQ n.kids).bind fun y25=>some y25) (some false))) (some false)) (some false)) (cond (Bq n.kind 18) ((Es n).bind fun y26=>cond y26 (cond (Bq ((n.kids.length:Nat):Int) 1) ((n.kids[0]?).bind fun x27=>(Cm x27).bind fun y28=>cond y28 ((Gk n.tab).bind fun y29=>some y29) (some false)) (some false)) (some false)) (some false))))))))
theorem Ov (Cm:Nd→Option Bool) (BQ:(List Nd)→Option Bool) (E5:∀ {n:Nd} {yR:Bool},Cm n=some yR→Pure P G 64 [.agg (Bl n)] (.sc (.bool yR))) (Fw:∀ {l:(List Nd)} {yR:Bool},BQ l=some yR→Pure P G 96 [.sl .lost l.length (Ba l)] (.sc (.bool yR))) {n:Nd} {yR:Bool} (h:IK Cm BQ n=some yR):Pure P G 64 [.agg (Bl n)] (.sc (.bool yR)):=by
 unfold IK at h
 refine BB Hd.mixed Hd.Aa (AB Tryz.func64 b64 ?_) (A2 (Al.GB n) rfl) rfl
 revert h
 refine Ae (fun hb1=>?_) fun hb1=>?_
 refine Ah fun y1 hy1=>?_
 let o1:List (PC P G):=[pb hb1,Ak (I9 hy1)]
 refine Ae (fun hv=>?_) fun hv=>?_
 subst hv
 refine Ae (fun hb2=>?_) fun hb2=>?_
 refine Ah fun y2 hy2=>?_
 let o2:List (PC P G):=o1++[pb hb2,Ak (Au hy2)]
 refine Ae (fun hv=>?_) fun hv=>?_
 subst hv
 refine Ah fun y3 hy3=>?_
 refine Ae (fun hv=>?_) fun hv=>?_
 subst hv
 refine Ah fun y4 hy4=>?_
 refine Ae (fun hv=>?_) fun hv=>?_
 subst hv
 rintro ⟨⟩
 exact rS (Ab 300 (o2++[Ak (Au hy3),Ak (G9 hy4)])) (by kernel_rfl)
 subst hv
 rintro ⟨⟩
 exact rS (Ab 300 (o2++[Ak (Au hy3),Ak (G9 hy4),pb hb2])) (by kernel_rfl)
 subst hv
 rintro ⟨⟩
 exact rS (Ab 300 (o2++[Ak (Au hy3)])) (by kernel_rfl)
 subst hv
 rintro ⟨⟩
 exact rS (Ab 300 o2) (by kernel_rfl)
 refine Ah fun y5 hy5=>?_
 let o3:List (PC P G):=o1++[pb hb2,Ak (Au hy5)]
 refine Ae (fun hv=>?_) fun hv=>?_
 subst hv
 refine Ah fun y6 hy6=>?_
 let o4:List (PC P G):=o3++[Ak (G9 hy6)]
 refine Ae (fun hv=>?_) fun hv=>?_
 subst hv
 rintro ⟨⟩
 exact rS (Ab 300 o4) (by kernel_rfl)
 subst hv
 refine Ae (fun hb3=>?_) fun hb3=>?_
 rintro ⟨⟩
 exact rS (Ab 300 (o4++[pb hb2,pb hb3])) (by kernel_rfl)
 refine Ae (fun hb4=>?_) fun hb4=>?_
 rintro ⟨⟩
 exact rS (Ab 300 (o4++[pb hb2,pb hb3,pb hb4])) (by kernel_rfl)
 rintro ⟨⟩
 exact rS (Ab 300 (o4++[pb hb2,pb hb3,pb hb4])) (by kernel_rfl)
 subst hv
 rintro ⟨⟩
 exact rS (Ab 300 o3) (by kernel_rfl)
 subst hv
 rintro ⟨⟩
 exact rS (Ab 300 o1) (by kernel_rfl)
 let o5:List (PC P G):=[pb hb1]
 refine Ae (fun hb5=>?_) fun hb5=>?_
 refine Ah fun y7 hy7=>?_
 refine Ae (fun hv=>?_) fun hv=>?_
 subst hv
 refine Ah fun y8 hy8=>?_
 intro h
 have hE:=Option.some.inj h
 subst hE
 exact rS (Ab 300 (o5++[pb hb5,Ak (EU hy7),Ak (Kx hy8)])) (by kernel_rfl)
 subst hv
 rintro ⟨⟩
 exact rS (Ab 300 (o5++[pb hb5,Ak (EU hy7)])) (by kernel_rfl)
 let o6:List (PC P G):=o5++[pb hb5]
 refine Ae (fun hb6=>?_) fun hb6=>?_
 refine Ah fun y9 hy9=>?_
 refine Ae (fun hv=>?_) fun hv=>?_
 subst hv
 refine Ah fun y10 hy10=>?_
 intro h
 have hE:=Option.some.inj h
 subst hE
 exact rS (Ab 300 (o6++[pb hb6,Ak (IZ hy9),Ak (Au hy10)])) (by kernel_rfl)
 subst hv
 rintro ⟨⟩
 exact rS (Ab 300 (o6++[pb hb6,Ak (IZ hy9)])) (by kernel_rfl)
 let o7:List (PC P G):=o6++[pb hb6]
 refine Ae (fun hb7=>?_) fun hb7=>?_
 refine Ah fun y11 hy11=>?_
 refine Ae (fun hv=>?_) fun hv=>?_
 subst hv
 refine Ah fun y12 hy12=>?_
 intro h
 have hE:=Option.some.inj h
 subst hE
 exact rS (Ab 300 (o7++[pb hb7,Ak (EU hy11),Eg (args:=[.sl .full 4 [.sc (.string EX),.sc (.string Ox),.sc (.string Ip),.sc (.string Ky)],.sc (.string n.name)]) (.d (.r (.r (.r (.r .nil)))) (Bc.eq [EX,Ox,Ip,Ky]).symm (.r .nil)) (Gc hy12)])) (by kernel_rfl)
 subst hv
 rintro ⟨⟩
 exact rS (Ab 300 (o7++[pb hb7,Ak (EU hy11)])) (by kernel_rfl)
 let o8:List (PC P G):=o7++[pb hb7]
 refine Ae (fun hb8=>?_) fun hb8=>?_
 refine Ah fun y13 hy13=>?_
 let o9:List (PC P G):=o8++[pb hb8,Ak (F8 hy13)]
 refine Ae (fun hv=>?_) fun hv=>?_
 subst hv
 refine Ae (fun hb9=>?_) fun hb9=>?_
 refine Ah fun x14 hx14=>?_
 refine Ah fun y15 hy15=>?_
 intro h
 have hE:=Option.some.inj h
 subst hE
 exact rS (Ab 300 (o9++[pb hb9,Ct (BD .lost hx14),Ak (E5 hy15)])) (by kernel_rfl)
 rintro ⟨⟩
 exact rS (Ab 300 (o9++[pb hb9])) (by kernel_rfl)
 subst hv
 rintro ⟨⟩
 exact rS (Ab 300 o9) (by kernel_rfl)
 let o10:List (PC P G):=o8++[pb hb8]
 refine Ae (fun hb10=>?_) fun hb10=>?_
 refine Ah fun y16 hy16=>?_
 let o11:List (PC P G):=o10++[pb hb10,Ak (Iz hy16)]
 refine Ae (fun hv=>?_) fun hv=>?_
 subst hv
 refine Ae (fun hb11=>?_) fun hb11=>?_
 refine Ae (fun hb12=>?_) fun hb12=>?_
 refine Ah fun x17 hx17=>?_
 refine Ah fun y18 hy18=>?_
 let o12:List (PC P G):=o11++[pn hb11,pb hb12,Ct (BD .lost hx17),Ak (GM hy18)]
 refine Ae (fun hv=>?_) fun hv=>?_
 subst hv
 refine Ah fun y19 hy19=>?_
 let o13:List (PC P G):=o12++[Eg (args:=[.sl .full 11 [.sc (.string SO),.sc (.string Iq),.sc (.string Ij),.sc (.string Hh),.sc (.string On),.sc (.string Hp),.sc (.string KK),.sc (.string NW),.sc (.string Om),.sc (.string JD),.sc (.string Tu)],.sc (.string n.name)]) (.d (.r (.r (.r (.r (.r (.r (.r (.r (.r (.r (.r .nil))))))))))) (Bc.eq [SO,Iq,Ij,Hh,On,Hp,KK,NW,Om,JD,Tu]).symm (.r .nil)) (Gc hy19)]
 refine Ae (fun hv=>?_) fun hv=>?_
 subst hv
 refine Ah fun y20 hy20=>?_
 intro h
 have hE:=Option.some.inj h
 subst hE
 exact rS (Ab 300 (o13++[Ak (Fw hy20)])) (by kernel_rfl)
 subst hv
 rintro ⟨⟩
 exact rS (Ab 300 o13) (by kernel_rfl)
 subst hv
 rintro ⟨⟩
 exact rS (Ab 300 o12) (by kernel_rfl)
 refine Ah fun y21 hy21=>?_
 let o14:List (PC P G):=o11++[pn hb11,pb hb12,Eg (args:=[.sl .full 11 [.sc (.string SO),.sc (.string Iq),.sc (.string Ij),.sc (.string Hh),.sc (.string On),.sc (.string Hp),.sc (.string KK),.sc (.string NW),.sc (.string Om),.sc (.string JD),.sc (.string Tu)],.sc (.string n.name)]) (.d (.r (.r (.r (.r (.r (.r (.r (.r (.r (.r (.r .nil))))))))))) (Bc.eq [SO,Iq,Ij,Hh,On,Hp,KK,NW,Om,JD,Tu]).symm (.r .nil)) (Gc hy21)]
 refine Ae (fun hv=>?_) fun hv=>?_
 subst hv
 refine Ah fun y22 hy22=>?_
 intro h
 have hE:=Option.some.inj h
 subst hE
 exact rS (Ab 300 (o14++[Ak (Fw hy22)])) (by kernel_rfl)
 subst hv
 rintro ⟨⟩
 exact rS (Ab 300 o14) (by kernel_rfl)
 rintro ⟨⟩
 exact rS (Ab 300 (o11++[pn hb11])) (by kernel_rfl)
 subst hv
 rintro ⟨⟩
 exact rS (Ab 300 o11) (by kernel_rfl)
 let o15:List (PC P G):=o10++[pb hb10]
 refine Ae (fun hb13=>?_) fun hb13=>?_
 refine Ah fun y23 hy23=>?_
 let o16:List (PC P G):=o15++[pb hb13,Ak (Iz hy23)]
 refine Ae (fun hv=>?_) fun hv=>?_
 subst hv
 refine Ae (fun hb14=>?_) fun hb14=>?_
 refine Ae (fun hb15=>?_) fun hb15=>?_
 refine Ah fun y24 hy24=>?_
 intro h
 have hE:=Option.some.inj h
 subst hE
 exact rS (Ab 300 (o16++[pb hb14,pb hb15,Ak (Fw hy24)])) (by kernel_rfl)
 refine Ae (fun hb16=>?_) fun hb16=>?_
 refine Ah fun y25 hy25=>?_
 intro h
 have hE:=Option.some.inj h
 subst hE
 exact rS (Ab 300 (o16++[pb hb14,pb hb15,pb hb16,Ak (Fw hy25)])) (by kernel_rfl)
 rintro ⟨⟩
 exact rS (Ab 300 (o16++[pb hb14,pb hb15,pb hb16])) (by kernel_rfl)
 rintro ⟨⟩
 exact rS (Ab 300 (o16++[pb hb14])) (by kernel_rfl)
 subst hv
 rintro ⟨⟩
 exact rS (Ab 300 o16) (by kernel_rfl)
 refine Ae (fun hb17=>?_) fun hb17=>?_
 refine Ah fun y26 hy26=>?_
 let o17:List (PC P G):=o15++[pb hb13,pb hb17,Ak (LG hy26)]
 refine Ae (fun hv=>?_) fun hv=>?_
 subst hv
 refine Ae (fun hb18=>?_) fun hb18=>?_
 refine Ah fun x27 hx27=>?_
 refine Ah fun y28 hy28=>?_
 refine Ae (fun hv=>?_) fun hv=>?_
 subst hv
 refine Ah fun y29 hy29=>?_
 intro h
 have hE:=Option.some.inj h
 subst hE
 exact rS (Ab 300 (o17++[pb hb18,Ct (BD .lost hx27),Ak (E5 hy28),Ak (Nl hy29)])) (by kernel_rfl)
 subst hv
 rintro ⟨⟩
 exact rS (Ab 300 (o17++[pb hb18,Ct (BD .lost hx27),Ak (E5 hy28)])) (by kernel_rfl)
 rintro ⟨⟩
 exact rS (Ab 300 (o17++[pb hb18])) (by kernel_rfl)
 subst hv
 rintro ⟨⟩
 exact rS (Ab 300 o17) (by kernel_rfl)
 rintro ⟨⟩
 exact rS (Ab 300 (o15++[pb hb13,pb hb17])) (by kernel_rfl)
noncomputable def w8:Code:=A3 Tryz.f96
theorem b96:Tryz.f96.body=some w8:=by kernel_rfl
noncomputable def GO (Cm:Nd→Option Bool) (BQ:(List Nd)→Option Bool)  (i0:Nat) (e0:Nd) :Option (Lp Unit Unit Bool):=(Cm e0).bind fun y1=>cond y1 (some (.nx ())) (some (.rt false))
noncomputable def Hy (Cm:Nd→Option Bool) (BQ:(List Nd)→Option Bool) (l:(List Nd)):Option Bool:=(It l.length (AL (fun i y x=>GO Cm BQ  i y ) (fun x=>()) (l.drop 0) 0 ())).bind (Ii (fun (_:Unit)=>some true) (fun v=>some v))
theorem NT (Cm:Nd→Option Bool) (BQ:(List Nd)→Option Bool) (E5:∀ {n:Nd} {yR:Bool},Cm n=some yR→Pure P G 64 [.agg (Bl n)] (.sc (.bool yR))) (Fw:∀ {l:(List Nd)} {yR:Bool},BQ l=some yR→Pure P G 96 [.sl .lost l.length (Ba l)] (.sc (.bool yR))) {l:(List Nd)} {yR:Bool} (h:Hy Cm BQ l=some yR):Pure P G 96 [.sl .lost l.length (Ba l)] (.sc (.bool yR)):=by
 unfold Hy at h
 refine BB Hd.mixed Hd.Aa (AB Tryz.func96 b96 ?_) (A2 (Al.B9 l) rfl) rfl
 revert h
 refine Fb (fun Q v=>Fq P Tryz.f96 0 Q (.sc (.bool v))) (fun i0 (_:Unit) (j0:List Value)=>fr 16 [(0,.sl .lost l.length (Ba l)),(3,.sc (.int .i64 ((i0:Nat):Int)))] [2,7,14,15] j0) (fun (_:Unit)=>⟨[],0,[],0⟩) (fun (_:Unit) (jx:List Value)=>fr 16 [] [2,7,14,15] jx) (fun (_:Unit)=>⟨[],0,[],0⟩) [.bool false] (EO [] 0 (sb w8 52) [.code (sb w8 7)] (Ab 300 []) (by kernel_rfl)) ?_ ?_ ?_ (fun v h=>by cases h;exact .outer .body)
 rintro i0 ⟨⟩ j0 hge hq
 exact CT (Ab 300 [pb (Kz hge)]) (by kernel_rfl) (hq (js 4 j0 [(1,.bool false)]))
 rintro i0 e0 ⟨⟩ j0 r he0 hi0 mi0 k
 show GO Cm BQ  i0 e0 =some r→_
 unfold GO
 refine Ah fun y1 hy1=>?_
 refine Ae (fun hv=>?_) fun hv=>?_
 subst hv
 rintro ⟨⟩
 exact D6 (Ab 300 [pb (GD hi0),Ct (BD .lost he0),Ak (E5 hy1),pi mi0]) (by kernel_rfl) (k [(jv j0 0),.bool true,.bool true,.bool false])
 subst hv
 rintro ⟨⟩
 exact AG _ _ (Ab 300 [pb (GD hi0),Ct (BD .lost he0),Ak (E5 hy1)]) (by kernel_rfl) (.GS k) .sc
 rintro ⟨⟩ jx_2
 intro h
 have hE:=Option.some.inj h
 subst hE
 exact AG _ _ (Cc 300 []) (by kernel_rfl) .body .sc
mutual
noncomputable def CH:Nat→Nd→Option Bool
 | 0,_=>none
 | qn+1,n=>IK (CH qn) (Dh qn) n
noncomputable def Dh:Nat→(List Nd)→Option Bool
 | 0,_=>none
 | qn+1,l=>Hy (CH qn) (Dh qn) l
end
theorem Ph:∀ qn:Nat,(∀ {n:Nd} {yR:Bool},CH qn n=some yR→Pure P G 64 [.agg (Bl n)] (.sc (.bool yR)))∧(∀ {l:(List Nd)} {yR:Bool},Dh qn l=some yR→Pure P G 96 [.sl .lost l.length (Ba l)] (.sc (.bool yR))):=by
 intro qn
 induction qn with
 | zero=>exact ⟨(fun h=>by simp only [CH] at h;cases h),(fun h=>by simp only [Dh] at h;cases h)⟩
 | succ qn ih=>exact ⟨(fun h=>Ov (CH qn) (Dh qn) ih.1 ih.2 (by rw [CH] at h;exact h)),(fun h=>NT (CH qn) (Dh qn) ih.1 ih.2 (by rw [Dh] at h;exact h))⟩
noncomputable def FU (n:Nd):Option Bool:=Xv (fun qn=>CH qn n)
theorem JF {n:Nd} {yR:Bool} (h:FU n=some yR):Pure P G 64 [.agg (Bl n)] (.sc (.bool yR)):=by
 obtain ⟨qn,h⟩:=UE h
 exact (Ph qn).1 h
end Mo
end Go.Proofs.YtkfplcngmiljaaaGreatDoor
