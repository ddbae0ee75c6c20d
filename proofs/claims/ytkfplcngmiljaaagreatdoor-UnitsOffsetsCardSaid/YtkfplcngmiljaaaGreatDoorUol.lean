/- Part of a proof: see the last text. -/
import Derived.Test.YtkfplcngmiljaaaGreatDoorUok
set_option linter.unusedVariables false
set_option linter.unusedSimpArgs false
namespace Go.Proofs.YtkfplcngmiljaaaGreatDoor
open AI Go
namespace Mo
set_option maxRecDepth 100000
set_option maxHeartbeats 4000000
noncomputable def CM  (depth:Int) (i0:Nat) (e0:Nd) (w0_0:Int):Option (Lp Int Int (Bool×Int)):=(BN (⟨w0_0⟩:Ck) e0 depth).bind fun (y1a,y1b)=>cond y1a (some (.nx y1b)) (some (.rt (false,y1b)))
noncomputable def Ca  (c:Ck) (list:(List Nd)) (depth:Int):Option (Bool×Int):=(IZ list.length (A2 (fun i y x=>CM  depth i y x) (fun x=>x) (list.drop 0) 0 c.nodes)).bind (JA (fun (w0_0_2:Int)=>some (true,w0_0_2)) (fun v=>some v))
theorem GK {c:Ck} {list:(List Nd)} {depth:Int} {yR:Bool} {qc_nodesR:Int} (hS:Sound P G (.call 52 [.ptr 0 0,.sl .lost list.length (AW list),.sc (.int .i64 depth),.fn (.func 53) [.ptr 0 0] []] ⟨[(0,.cells (DR c))],1,[],0⟩ (.ret (.sc (.bool yR))) ⟨[(0,.cells [.sc (.int .i64 qc_nodesR)])],1,[],0⟩)) (u0:Nat) (hnb:([u0]:List Nat).Nodup:=by decide) (hnt:([]:List Nat).Nodup:=by decide):Cd.ok P G (.callU 52 [.ptr u0 0,.sl .lost list.length (AW list),.sc (.int .i64 depth),.fn (.func 53) [.ptr u0 0] []] (.ret (.sc (.bool yR))) [(u0,.cells (DR c))] [] [(u0,.cells [.sc (.int .i64 qc_nodesR)])] []) :=
 D7 (M:=[.cells (DR c)]) (M2:=[.cells [.sc (.int .i64 qc_nodesR)]]) (T:=[]) (T2:=[]) (k:=1) (j:=0) Hd.Ac _ _ _ _ hS rfl rfl rfl rfl rfl hnb hnt rfl rfl (.cons (.cells (.pl (Iw.pl c))) .nil) (.cons (.cells (.pl (BI rfl rfl))) .nil) (.cons (.ptr (by decide)) (.cons (.pl (Ay.DH list)) (.cons (.pl rfl) (.cons (.fn (.cons (.ptr (by decide)) .nil) (.pl rfl)) .nil)))) (.pl rfl) (fun e he=>by simp only [List.mem_singleton] at he;subst he;exact (.arg (.here .ptr)))
theorem FR   {c:Ck} {list:(List Nd)} {depth:Int} {yR:Bool} {qc_nodesR:Int} (h:Ca  c list depth=some (yR,qc_nodesR)):Sound P G (.call 52 [.ptr 0 0,.sl .lost list.length (AW list),.sc (.int .i64 depth),.fn (.func 53) [.ptr 0 0] []] ⟨[(0,.cells (DR c))],1,[],0⟩ (.ret (.sc (.bool yR))) ⟨[(0,.cells [.sc (.int .i64 qc_nodesR)])],1,[],0⟩):=by
 unfold Ca at h
 refine D5 Hd.mixed (AZ Tryz.func52 sR ?_)
 revert h
 refine GM (fun Q v=>Hs P G Tryz.f52 1 ⟨[(0,.cells (DR c))],1,[],0⟩ Q (.sc (.bool v.1)) ⟨[(0,.cells [.sc (.int .i64 v.2)])],1,[],0⟩) (fun i0 (w0_0:Int) (j0:List Value)=>fr 23 [(2,.sc (.int .i64 depth)),(3,.fn (.func 53) [.ptr 0 0] []),(11,.sl .lost list.length (AW list)),(12,.sc (.int .i64 ((list.length:Nat):Int))),(13,.sc (.int .i64 ((i0:Nat):Int)))] [8,14,20,21] j0) (fun (w0_0:Int)=>⟨[(0,.cells [.sc (.int .i64 w0_0)])],1,[],0⟩) (fun (w0_0:Int) (jx:List Value)=>fr 23 [] [8,14,20,21] jx) (fun (w0_0:Int)=>⟨[(0,.cells [.sc (.int .i64 w0_0)])],1,[],0⟩) [.bool false] (GC [] 0 (sb ZT 52) [.code (sb ZT 7)] (Ae 300 []) (by kernel_rfl)) ?_ ?_ ?_ (fun v h=>by cases h;exact .outer .body)
 rintro i0 w0_0 j0 hge hq
 exact DQ (Ae 300 [pb (Mj hge)]) (by kernel_rfl) (hq (js 4 j0 [(1,.bool false)]))
 rintro i0 e0 w0_0 j0 r he0 hi0 mi0 k
 show CM  depth i0 e0 w0_0=some r→_
 unfold CM
 refine AD ?_
 rintro ⟨y1a,y1b⟩ hy1
 dsimp only
 let o1:List (PC P G):=[pb (Jb hi0),Em (DT .lost he0),AF (Iz (G9 hy1) 0)]
 refine Ai (fun hv=>?_) fun hv=>?_
 subst hv
 rintro ⟨⟩
 exact BS Hd.Ac [fq (Ay.DH list)] [none] (Ae 300 (o1++[pi mi0])) (by kernel_rfl) (k [(jv j0 0),.bool true,.bool true,.bool false])
 subst hv
 rintro ⟨⟩
 exact Am Hd.Ac _ _ [] [none] (Ae 300 o1) (by kernel_rfl) (.I5 k)
 rintro w0_0_2 jx_2
 intro h
 have hE:=Option.some.inj h
 obtain ⟨hE0,hF0⟩:=Prod.mk.inj hE
 subst hE0 hF0
 exact Am Hd.Ac _ _ [] [none] (CX 300 []) (by kernel_rfl) .body
noncomputable def B29:Code:=Bp Tryz.f29
theorem yX:Tryz.f29.body=some B29:=by kernel_rfl
noncomputable def CN  (n:Nd):Option Bool:=cond (DM n.kind 1) ((A9 (⟨0⟩:Ck) n 1).bind fun (y1a,y1b)=>cond y1a ((AT n (⟨0,ByteArray.empty,ByteArray.empty,0,0,0,0,(⟨0,[]⟩:Fn),[],0⟩:Nd)).bind fun y2=>cond y2 ((Ca (⟨y1b⟩:Ck) n.kids 2).bind fun (y3a,y3b)=>some y3a) (some false)) (some false)) ((CW (⟨0⟩:Ck) n 1).bind fun (y4a,y4b)=>some y4a)
theorem C1   {n:Nd} {yR:Bool} (h:CN  n=some yR):Pure P G 29 [.agg (BP n)] (.sc (.bool yR)):=by
 unfold CN at h
 refine D0 Hd.mixed Hd.Ac (AZ Tryz.func29 yX ?_) (BI (Ay.Lc n) rfl) rfl
 revert h
 refine Ai (fun hb1=>?_) fun hb1=>?_
 refine AD ?_
 rintro ⟨y1a,y1b⟩ hy1
 dsimp only
 let o1:List (PC P G):=[pn hb1,AF (Cb (BQ hy1) 1)]
 refine Ai (fun hv=>?_) fun hv=>?_
 subst hv
 refine AD fun y2 hy2=>?_
 let o2:List (PC P G):=o1++[Ek (.r (.g (.r (.r (.r (.r (.r (.r (.r (.r (.z (.z (.r .nil))))))))))) .nil)) (AQ hy2)]
 refine Ai (fun hv=>?_) fun hv=>?_
 subst hv
 refine AD ?_
 rintro ⟨y3a,y3b⟩ hy3
 dsimp only
 intro h
 have hE:=Option.some.inj h
 subst hE
 exact rS (Ae 300 (o2++[AF (GK (FR hy3) 1)])) (by kernel_rfl)
 subst hv
 rintro ⟨⟩
 exact rS (Ae 300 o2) (by kernel_rfl)
 subst hv
 rintro ⟨⟩
 exact rS (Ae 300 o1) (by kernel_rfl)
 refine AD ?_
 rintro ⟨y4a,y4b⟩ hy4
 dsimp only
 intro h
 have hE:=Option.some.inj h
 subst hE
 exact rS (Ae 300 [pn hb1,AF (AG (EP hy4) 1)]) (by kernel_rfl)
noncomputable def B30:Code:=Bp Tryz.f30
theorem yT:Tryz.f30.body=some B30:=by kernel_rfl
noncomputable def Cv  :Option Unit:=some ()
theorem GP  (hS:Sound P G (.call 30 [] ⟨[],0,[],0⟩ (.ret (.Bc [.ptr 0 0,.fn (.func 54) [] [.ptr 0 0]])) ⟨[(0,.cells [.sl .full 0 []])],1,[],0⟩)) (nx nr:Nat):Cd.ok P G (.callN 30 [] nx nr (.Bc [.ptr (nx+0) 0,.fn (.func 54) [] [.ptr (nx+0) 0]]) [((nx+0),.cells [.sl .full 0 []])] 1 [] 0) :=
 SC Hd.Ac hS rfl (.Bc (.cons (.ptr (by decide)) (.cons (.fn (.pl rfl) (.cons (.ptr (by decide)) .nil)) .nil))) (.cons (.cells (.pl (BI (cX rfl) rfl))) .nil)
theorem FF  (h:Cv =some ()):Sound P G (.call 30 [] ⟨[],0,[],0⟩ (.ret (.Bc [.ptr 0 0,.fn (.func 54) [] [.ptr 0 0]])) ⟨[(0,.cells [.sl .full 0 []])],1,[],0⟩):=by
 unfold Cv at h
 refine SJ Hd.mixed (M6 (m:=1) Tryz.func30 yT ?_)
 revert h
 intro h
 exact P1 (n:=1) (m0:=0) Hd.Ac _ _ [0] [1] [⟨.Bc [.ptr 0 0,.fn (.func 54) [] [.ptr 0 0]],.Bc [.ptr 0 0,.fn (.func 54) [] [.ptr 0 0]],(.under (nP rfl (nP (vL rfl (nP rfl rfl)) rfl)))⟩] [xT [.sl .full 0 []] (BI (cX rfl) rfl)] _ _ (Ae 300 []) (Nat.zero_le _) (Nat.zero_le _) (by kernel_rfl) .body
noncomputable def vC:Code:=Bp Tryz.f31
theorem b31:Tryz.f31.body=some vC:=by kernel_rfl
noncomputable def Ct   (i0:Nat) (e0:Nd) (w2_m:(Mm ByteArray ByteArray)) (w3_m:(Mm ByteArray ByteArray)) (w4_m:(Mm Int ByteArray)):Option (Lp ((Mm ByteArray ByteArray)×(Mm ByteArray ByteArray)×(Mm Int ByteArray)) ((Mm ByteArray ByteArray)×(Mm ByteArray ByteArray)×(Mm Int ByteArray)) Sc):=cond (DM e0.kind 2) (cond ((w2_m.get e0.name).isSome) (some (.nx (w2_m,w3_m,w4_m))) (some (.nx ((w2_m.set e0.name e0.unit),w3_m,w4_m)))) (cond (DM e0.kind 3) (cond ((w3_m.get e0.name).isSome) (some (.nx (w2_m,w3_m,w4_m))) (some (.nx (w2_m,(w3_m.set e0.name e0.unit),w4_m)))) (cond (DM e0.kind 4) (cond ((w4_m.get e0.n).isSome) (some (.nx (w2_m,w3_m,w4_m))) (some (.nx (w2_m,w3_m,(w4_m.set e0.n e0.name))))) (some (.nx (w2_m,w3_m,w4_m)))))
noncomputable def CJ  (source:Nd):Option Sc:=(IZ source.kids.length (A2 (fun i y x=>Ct   i y x.1 x.2.1 x.2.2) (fun x=>(x.1,x.2.1,x.2.2)) (source.kids.drop 0) 0 ((Mm.nil:Mm ByteArray ByteArray),(Mm.nil:Mm ByteArray ByteArray),(Mm.nil:Mm Int ByteArray)))).bind (JA (fun ((w2_m_1,w3_m_1,w4_m_1):((Mm ByteArray ByteArray)×(Mm ByteArray ByteArray)×(Mm Int ByteArray)))=>some (⟨w2_m_1,w3_m_1,w4_m_1⟩:Sc)) (fun v=>some v))
theorem Hh {source:Nd} {y0R:Sc} (hS:Sound P G (.call 31 [.agg (BP source)] ⟨[],0,[],0⟩ (.ret (.agg [.mp 2,.mp 3,.mp 4])) ⟨[(4,(B7 y0R.Af)),(3,(AU y0R.lines)),(2,(AU y0R.facts))],5,[],0⟩)) (nx nr:Nat):Cd.ok P G (.callN 31 [.agg (BP source)] nx nr (.agg [.mp (nx+2),.mp (nx+3),.mp (nx+4)]) [((nx+4),(B7 y0R.Af)),((nx+3),(AU y0R.lines)),((nx+2),(AU y0R.facts))] 5 [] 0) :=
 SC Hd.Ac hS (BI (Ay.Lc source) rfl) (.agg (.cons (.mp (by decide)) (.cons (.mp (by decide)) (.cons (.mp (by decide)) .nil)))) (.cons (Gl (fun _=>rfl)) (.cons (Gl (fun _=>rfl)) (.cons (Gl (fun _=>rfl)) .nil)))
theorem F4 {source:Nd} {y0R:Sc} (h:CJ source=some y0R):Sound P G (.call 31 [.agg (BP source)] ⟨[],0,[],0⟩ (.ret (.agg [.mp 2,.mp 3,.mp 4])) ⟨[(4,(B7 y0R.Af)),(3,(AU y0R.lines)),(2,(AU y0R.facts))],5,[],0⟩):=by
 unfold CJ at h
 refine SJ Hd.mixed (M6 (m:=5) Tryz.func31 b31 ?_)
 revert h
 refine GM (fun Q v=>Hs P G Tryz.f31 5 ⟨[],0,[],0⟩ Q (.agg [.mp 2,.mp 3,.mp 4]) ⟨[(4,(B7 v.Af)),(3,(AU v.lines)),(2,(AU v.facts))],5,[],0⟩) (fun i0 ((w2_m,w3_m,w4_m):((Mm ByteArray ByteArray)×(Mm ByteArray ByteArray)×(Mm Int ByteArray))) (j0:List Value)=>fr 81 [(2,.ptr 1 0),(3,.ptr 5 0),(17,.sl .lost source.kids.length (AW source.kids)),(18,.sc (.int .i64 ((source.kids.length:Nat):Int))),(19,.sc (.int .i64 ((i0:Nat):Int)))] [7,9,11,20,25,26,34,35,36,43,44,52,53,54,61,62,70,71,72] j0) (fun ((w2_m,w3_m,w4_m):((Mm ByteArray ByteArray)×(Mm ByteArray ByteArray)×(Mm Int ByteArray)))=>⟨[(5,.cells [.mp 2,.mp 3,.mp 4]),(4,(B7 w4_m)),(3,(AU w3_m)),(2,(AU w2_m)),(1,.cells [.sc (.map none),.sc (.map none),.sc (.map none)]),(0,.cells (BP source))],6,[],0⟩) (fun ((w2_m,w3_m,w4_m):((Mm ByteArray ByteArray)×(Mm ByteArray ByteArray)×(Mm Int ByteArray))) (jx:List Value)=>fr 81 [(2,.ptr 1 0),(3,.ptr 5 0)] [7,9,11,20,25,26,34,35,36,43,44,52,53,54,61,62,70,71,72] jx) (fun ((w2_m,w3_m,w4_m):((Mm ByteArray ByteArray)×(Mm ByteArray ByteArray)×(Mm Int ByteArray)))=>⟨[(5,.cells [.mp 2,.mp 3,.mp 4]),(4,(B7 w4_m)),(3,(AU w3_m)),(2,(AU w2_m)),(1,.cells [.sc (.map none),.sc (.map none),.sc (.map none)]),(0,.cells (BP source))],6,[],0⟩) [] (GC [] 0 (sb vC 116) [.code (sb vC 15)] (Ae 300 []) (by kernel_rfl)) ?_ ?_ ?_ (fun v h=>by cases h;exact .outer .body)
 rintro i0 ⟨w2_m,w3_m,w4_m⟩ j0 hge hq
 exact DQ (Ae 300 [pb (Mj hge)]) (by kernel_rfl) (hq (js 19 j0 [(3,.bool false)]))
 rintro i0 e0 ⟨w2_m,w3_m,w4_m⟩ j0 r he0 hi0 mi0 k
 show Ct   i0 e0 w2_m w3_m w4_m=some r→_
 unfold Ct
 let o1:List (PC P G):=[pb (Jb hi0),Em (DT .lost he0)]
 refine Ai (fun hb1=>?_) fun hb1=>?_
 refine Ai (fun hb2=>?_) fun hb2=>?_
 rintro ⟨⟩
 exact BS Hd.Ac [fq (Ay.DH source.kids)] [none,Bm w4_m,AJ w3_m,AJ w2_m,none,bp (Ay.pl source)] (Ae 300 (o1++[pb hb1,IC (NH w2_m e0.name hb2),pi mi0])) (by kernel_rfl) (k (js 19 j0 [(0,.bool true),(3,.bool true),(4,.bool true),(5,.bool true),(6,.bool true),(7,.bool true),(8,.bool false)]))
 rintro ⟨⟩
 exact BS Hd.Ac [fq (Ay.DH source.kids)] [none,Bm w4_m,AJ w3_m,AJ (w2_m.set e0.name e0.unit),none,bp (Ay.pl source)] (Ae 300 (o1++[pb hb1,IC (NH w2_m e0.name hb2),UD (sG w2_m e0.name e0.unit),pi mi0])) (by kernel_rfl) (k (js 19 j0 [(0,.bool false),(3,.bool true),(4,.bool true),(5,.bool true),(6,.bool false),(7,.bool false),(8,.bool true)]))
 refine Ai (fun hb3=>?_) fun hb3=>?_
 refine Ai (fun hb4=>?_) fun hb4=>?_
 rintro ⟨⟩
 exact BS Hd.Ac [fq (Ay.DH source.kids)] [none,Bm w4_m,AJ w3_m,AJ w2_m,none,bp (Ay.pl source)] (Ae 300 (o1++[pb hb1,pb hb3,IC (NH w3_m e0.name hb4),pi mi0])) (by kernel_rfl) (k (js 19 j0 [(1,.bool true),(3,.bool true),(4,.bool false),(5,.bool false),(9,.bool true),(10,.bool true),(11,.bool true),(12,.bool true),(13,.bool false)]))
 rintro ⟨⟩
 exact BS Hd.Ac [fq (Ay.DH source.kids)] [none,Bm w4_m,AJ (w3_m.set e0.name e0.unit),AJ w2_m,none,bp (Ay.pl source)] (Ae 300 (o1++[pb hb1,pb hb3,IC (NH w3_m e0.name hb4),UD (sG w3_m e0.name e0.unit),pi mi0])) (by kernel_rfl) (k (js 19 j0 [(1,.bool false),(3,.bool true),(4,.bool false),(5,.bool false),(9,.bool true),(10,.bool true),(11,.bool false),(12,.bool false),(13,.bool true)]))
 refine Ai (fun hb5=>?_) fun hb5=>?_
 refine Ai (fun hb6=>?_) fun hb6=>?_
 rintro ⟨⟩
 exact BS Hd.Ac [fq (Ay.DH source.kids)] [none,Bm w4_m,AJ w3_m,AJ w2_m,none,bp (Ay.pl source)] (Ae 300 (o1++[pb hb1,pb hb3,pb hb5,IC (Uf w4_m e0.n hb6),pi mi0])) (by kernel_rfl) (k (js 19 j0 [(2,.bool true),(3,.bool true),(4,.bool false),(5,.bool false),(9,.bool false),(10,.bool false),(14,.bool true),(15,.bool true),(16,.bool true),(17,.bool true),(18,.bool false)]))
 rintro ⟨⟩
 exact BS Hd.Ac [fq (Ay.DH source.kids)] [none,Bm (w4_m.set e0.n e0.name),AJ w3_m,AJ w2_m,none,bp (Ay.pl source)] (Ae 300 (o1++[pb hb1,pb hb3,pb hb5,IC (Uf w4_m e0.n hb6),UD (vQ w4_m e0.n e0.name),pi mi0])) (by kernel_rfl) (k (js 19 j0 [(2,.bool false),(3,.bool true),(4,.bool false),(5,.bool false),(9,.bool false),(10,.bool false),(14,.bool true),(15,.bool true),(16,.bool false),(17,.bool false),(18,.bool true)]))
 rintro ⟨⟩
 exact BS Hd.Ac [fq (Ay.DH source.kids)] [none,Bm w4_m,AJ w3_m,AJ w2_m,none,bp (Ay.pl source)] (Ae 300 (o1++[pb hb1,pb hb3,pb hb5,pi mi0])) (by kernel_rfl) (k (js 19 j0 [(3,.bool true),(4,.bool false),(5,.bool false),(9,.bool false),(10,.bool false),(14,.bool false),(15,.bool false)]))
 rintro ⟨w2_m_1,w3_m_1,w4_m_1⟩ jx_1
 dsimp only
 intro h
 have hE:=Option.some.inj h
 subst hE
 exact P1 (n:=5) (m0:=0) Hd.Ac _ _ [4,3,2] [1] [⟨.agg [.mp 2,.mp 3,.mp 4],.agg [.mp 2,.mp 3,.mp 4],(.under (nP rfl (nP rfl (nP rfl rfl))))⟩] [⟨(B7 w4_m_1),(B7 w4_m_1),(Ij (fun _=>rfl))⟩,⟨(AU w3_m_1),(AU w3_m_1),(Ij (fun _=>rfl))⟩,⟨(AU w2_m_1),(AU w2_m_1),(Ij (fun _=>rfl))⟩] _ _ (CX 300 []) (Nat.zero_le _) (Nat.zero_le _) (by kernel_rfl) .body
noncomputable def B56:Code:=Bp Tryz.f56
theorem b56:Tryz.f56.body=some B56:=by kernel_rfl
noncomputable def C8  (unit:ByteArray):Option Bool:=cond (Cc unit.data.toList ByteArray.empty.data.toList) (some false) (cond (Cc unit.data.toList A8.data.toList) (some false) (cond (Cc unit.data.toList CH.data.toList) (some false) (cond (Cc unit.data.toList FG.data.toList) (some false) (some true))))
theorem Df   {unit:ByteArray} {yR:Bool} (h:C8  unit=some yR):Pure P G 56 [.sc (.string unit)] (.sc (.bool yR)):=by
 unfold C8 at h
 refine D0 Hd.mixed Hd.Ac (AZ Tryz.func56 b56 ?_) (BI rfl rfl) rfl
 revert h
 refine Ai (fun hb1=>?_) fun hb1=>?_
 rintro ⟨⟩
 exact rS (Ae 300 [pb hb1]) (by kernel_rfl)
 refine Ai (fun hb2=>?_) fun hb2=>?_
 rintro ⟨⟩
 exact rS (Ae 300 [pb hb1,pb hb2]) (by kernel_rfl)
 refine Ai (fun hb3=>?_) fun hb3=>?_
 rintro ⟨⟩
 exact rS (Ae 300 [pb hb1,pb hb2,pb hb3]) (by kernel_rfl)
 refine Ai (fun hb4=>?_) fun hb4=>?_
 rintro ⟨⟩
 exact rS (Ae 300 [pb hb1,pb hb2,pb hb3,pb hb4]) (by kernel_rfl)
 rintro ⟨⟩
 exact rS (Ae 300 [pb hb1,pb hb2,pb hb3,pb hb4]) (by kernel_rfl)
noncomputable def tE:Code:=Bp Tryz.f85
theorem b85:Tryz.f85.body=some tE:=by kernel_rfl
noncomputable def B55:Code:=Bp Tryz.f55
theorem b55:Tryz.f55.body=some B55:=by kernel_rfl
noncomputable def yW:Code:=Bp Tryz.f54
theorem b54:Tryz.f54.body=some yW:=by kernel_rfl
noncomputable def Aj  (err:Int) (at_:Int) (a2:(List Dg)):Option (Unit×(List Dg)):=cond (Fx ((a2.length:Nat):Int) 20) (R5 (a2.length+1) (some ((),(a2++[(⟨err,at_⟩:Dg)])))) (some ((),a2))
theorem At {err:Int} {at_:Int} {a2:(List Dg)} {qa2R:(List Dg)} (hS:Sound P G (.call 54 [.sc (.int .i64 err),.sc (.int .i64 at_),.ptr 0 0] ⟨[(0,.cells [.sl (.row 0 2) a2.length (rows CZ a2)])],1,[(0,a2.length)],1⟩ (.ret (.Bc [])) ⟨[(0,.cells [.sl (.row 0 2) qa2R.length (rows CZ qa2R)])],1,[(0,qa2R.length)],1⟩)) (u0 v0:Nat) (hnb:([u0]:List Nat).Nodup:=by decide) (hnt:([v0]:List Nat).Nodup:=by decide):Cd.ok P G (.callU 54 [.sc (.int .i64 err),.sc (.int .i64 at_),.ptr u0 0] (.ret (.Bc [])) [(u0,.cells [.sl (.row v0 2) a2.length (rows CZ a2)])] [(v0,a2.length)] [(u0,.cells [.sl (.row v0 2) qa2R.length (rows CZ qa2R)])] [(v0,qa2R.length)]) :=
 D7 (M:=[.cells [.sl (.row 0 2) a2.length (rows CZ a2)]]) (M2:=[.cells [.sl (.row 0 2) qa2R.length (rows CZ qa2R)]]) (T:=[a2.length]) (T2:=[qa2R.length]) (k:=1) (j:=1) Hd.Ac _ _ _ _ hS rfl rfl rfl rfl rfl hnb hnt rfl rfl (.cons (.cells (.cons (.row (by decide) (AM.BI a2)) .nil)) .nil) (.cons (.cells (.cons (.row (by decide) (AM.BI qa2R)) .nil)) .nil) (.cons (.pl rfl) (.cons (.pl rfl) (.cons (.ptr (by decide)) .nil))) (.pl rfl) (fun e he=>by simp only [List.mem_singleton] at he;subst he;exact (.arg (.there (.there (.here .ptr)))))
theorem Ak   {err:Int} {at_:Int} {a2:(List Dg)} {yR:Unit} {qa2R:(List Dg)} (h:Aj  err at_ a2=some (yR,qa2R)):Sound P G (.call 54 [.sc (.int .i64 err),.sc (.int .i64 at_),.ptr 0 0] ⟨[(0,.cells [.sl (.row 0 2) a2.length (rows CZ a2)])],1,[(0,a2.length)],1⟩ (.ret (.Bc [])) ⟨[(0,.cells [.sl (.row 0 2) qa2R.length (rows CZ qa2R)])],1,[(0,qa2R.length)],1⟩):=by
 unfold Aj at h
 refine D5 Hd.mixed (AZ Tryz.func54 b54 ?_)
 revert h
 refine Ai (fun hb1=>?_) fun hb1=>?_
 refine eE fun hl1=>?_
 intro h
 have hE:=Option.some.inj h
 obtain ⟨hE0,hF0⟩:=Prod.mk.inj hE
 subst hE0 hF0
 exact IQ Hd.Ac _ _ [⟨.Bc [],.Bc [],(.plain rfl)⟩] [br AM 0 2 (a2++[(⟨err,at_⟩:Dg)])] (Ae 300 [pb hb1,lU (eG (.row 0 2) a2 [(⟨err,at_⟩:Dg)] (o:=.full) (n:=1) (ns:=[.sc (.int .i64 err),.sc (.int .i64 at_)]) (AM.wn [(⟨err,at_⟩:Dg)] (.r (.r .nil))) rfl rfl (by simp) (by simpa using hl1))]) (by kernel_rfl)
 intro h
 have hE:=Option.some.inj h
 obtain ⟨hE0,hF0⟩:=Prod.mk.inj hE
 subst hE0 hF0
 exact IQ Hd.Ac _ _ [⟨.Bc [],.Bc [],(.plain rfl)⟩] [br AM 0 2 a2] (Ae 300 [pb hb1]) (by kernel_rfl)
noncomputable def Ev  (units:Nat) (AH:(List ByteArray)) (i0:Nat) :Option (Lp Unit Unit Bool):=(AH[i0]?).bind fun x1=>(JH units ((0:Nat):Int)).bind fun k2=>(AH[k2]?).bind fun x3=>cond (Cc x1.data.toList x3.data.toList) (some (.nx ())) (some (.rt false))
noncomputable def Bq  (units:Nat) (AH:(List ByteArray)):Option Bool:=(IZ units (PI (fun i x=>Ev  units AH i ) (fun x=>()) units 0 ())).bind (JA (fun (_:Unit)=>some true) (fun v=>some v))
theorem Br {units:Nat} {AH:(List ByteArray)} {yR:Bool} (hS:Sound P G (.call 85 [.msl 0 0 units] ⟨[(0,(.cells (rows Kp AH)))],1,[],0⟩ (.ret (.sc (.bool yR))) ⟨[(0,(.cells (rows Kp AH)))],1,[],0⟩)) (u0:Nat) (hnb:([u0]:List Nat).Nodup:=by decide) (hnt:([]:List Nat).Nodup:=by decide):Cd.ok P G (.callU 85 [.msl u0 0 units] (.ret (.sc (.bool yR))) [(u0,(.cells (rows Kp AH)))] [] [(u0,(.cells (rows Kp AH)))] []) :=
 D7 (M:=[(.cells (rows Kp AH))]) (M2:=[(.cells (rows Kp AH))]) (T:=[]) (T2:=[]) (k:=1) (j:=0) Hd.Ac _ _ _ _ hS rfl rfl rfl rfl rfl hnb hnt rfl rfl (.cons (.cells (.pl (A7.BI AH))) .nil) (.cons (.cells (.pl (A7.BI AH))) .nil) (.cons (.msl (by decide)) .nil) (.pl rfl) (fun e he=>by simp only [List.mem_singleton] at he;subst he;exact (.arg (.here .msl)))
theorem A4   {units:Nat} {AH:(List ByteArray)} {yR:Bool} (h:Bq  units AH=some yR):Sound P G (.call 85 [.msl 0 0 units] ⟨[(0,(.cells (rows Kp AH)))],1,[],0⟩ (.ret (.sc (.bool yR))) ⟨[(0,(.cells (rows Kp AH)))],1,[],0⟩):=by
 unfold Bq at h
 refine D5 Hd.mixed (AZ Tryz.func85 b85 ?_)
 revert h
 refine uV (fun Q v=>Hs P G Tryz.f85 1 ⟨[(0,(.cells (rows Kp AH)))],1,[],0⟩ Q (.sc (.bool v)) ⟨[(0,(.cells (rows Kp AH)))],1,[],0⟩) (fun i0 (_:Unit) (j0:List Value)=>fr 17 [(0,.msl 0 0 units),(5,.msl 0 0 units),(6,.sc (.int .i64 ((units:Nat):Int))),(7,.sc (.int .i64 ((i0:Nat):Int)))] [2,8,15] j0) (fun (_:Unit)=>⟨[(0,(.cells (rows Kp AH)))],1,[],0⟩) (fun (_:Unit) (jx:List Value)=>fr 17 [] [2,8,15] jx) (fun (_:Unit)=>⟨[(0,(.cells (rows Kp AH)))],1,[],0⟩) [.bool false] (GC [] 0 (sb tE 52) [.code (sb tE 7)] (Ae 300 []) (by kernel_rfl)) ?_ ?_ ?_ (fun v h=>by cases h;exact .outer .body)
 rintro ⟨⟩ j0 hge hq
 exact DQ (Ae 300 [pb (Mj hge)]) (by kernel_rfl) (hq (js 3 j0 [(1,.bool false)]))
 rintro i0 ⟨⟩ j0 r hi0 mi0 k
 show Ev  units AH i0 =some r→_
 unfold Ev
 refine AD fun x1 hx1=>?_
 refine AD fun k2 hk2=>?_
 refine AD fun x3 hx3=>?_
 let o1:List (PC P G):=[pb (Jb hi0),Em (WZ (id:=0) (n:=units) (i:=i0) (by have:=Ly (Jb hi0);omega)),eU (LC hx1),Em (K3 (id:=0) hk2),eU (LC hx3)]
 refine Ai (fun hb1=>?_) fun hb1=>?_
 rintro ⟨⟩
 exact KE (Ae 300 (o1++[pn hb1,pi mi0])) (by kernel_rfl) (k [(jv j0 0),.bool true,.bool false])
 rintro ⟨⟩
 exact Am Hd.Ac _ _ [] [bp (A7.BI AH)] (Ae 300 (o1++[pn hb1])) (by kernel_rfl) (.I5 k)
 rintro ⟨⟩ jx_4
 intro h
 have hE:=Option.some.inj h
 subst hE
 exact Am Hd.Ac _ _ [] [bp (A7.BI AH)] (CX 300 []) (by kernel_rfl) .body
noncomputable def BH  (operator:ByteArray) (units:Nat) (AH:(List ByteArray)):Option ByteArray:=(JH units ((0:Nat):Int)).bind fun k1=>(AH[k1]?).bind fun x2=>(JH units (SM ((units:Nat):Int) 1)).bind fun k3=>(AH[k3]?).bind fun x4=>cond (Cc operator.data.toList mW.data.toList) (cond (Cc x2.data.toList A8.data.toList) ((Bq units AH).bind fun y5=>cond y5 (some A8) (some ByteArray.empty)) (some ByteArray.empty)) (cond (Cc operator.data.toList Nh.data.toList) (cond (Cc x2.data.toList A8.data.toList) ((Bq units AH).bind fun y6=>cond y6 (some A8) (some ByteArray.empty)) (some ByteArray.empty)) (cond (Cc operator.data.toList Pt.data.toList) ((Bq units AH).bind fun y7=>cond y7 (some A8) (some ByteArray.empty)) (cond (Cc operator.data.toList PB.data.toList) ((Bq units AH).bind fun y8=>cond y8 (some A8) (some ByteArray.empty)) (cond (Cc operator.data.toList Y4.data.toList) ((Bq units AH).bind fun y9=>cond y9 (cond (Cc x2.data.toList A8.data.toList) (some ByteArray.empty) (some A8)) (some ByteArray.empty)) (cond (Cc operator.data.toList PD.data.toList) ((Bq units AH).bind fun y10=>cond y10 (cond (Cc x2.data.toList A8.data.toList) (some ByteArray.empty) (some A8)) (some ByteArray.empty)) (cond (Cc operator.data.toList O8.data.toList) ((Bq units AH).bind fun y11=>cond y11 (cond (Cc x2.data.toList A8.data.toList) (some ByteArray.empty) (some x2)) (some ByteArray.empty)) (cond (Cc operator.data.toList bE.data.toList) ((Bq units AH).bind fun y12=>cond y12 (cond (Cc x2.data.toList A8.data.toList) (some ByteArray.empty) (some x2)) (some ByteArray.empty)) (cond (Cc operator.data.toList cV.data.toList) (cond (Cc x2.data.toList CH.data.toList) (cond (Cc x4.data.toList A8.data.toList) (some ByteArray.empty) (some x4)) (cond (Cc x4.data.toList CH.data.toList) (cond (Cc x2.data.toList A8.data.toList) (some ByteArray.empty) (some x2)) (some ByteArray.empty))) (cond (Cc operator.data.toList MK.data.toList) (cond (Cc x2.data.toList A8.data.toList) (some ByteArray.empty) (some x2)) (cond (Cc operator.data.toList nA.data.toList) (cond (Cc x2.data.toList FG.data.toList) ((C8 x4).bind fun y13=>cond y13 (some x4) (some ByteArray.empty)) (some ByteArray.empty)) (some ByteArray.empty)))))))))))
theorem CL {operator:ByteArray} {units:Nat} {AH:(List ByteArray)} {yR:ByteArray} (hS:Sound P G (.call 55 [.sc (.string operator),.msl 0 0 units] ⟨[(0,(.cells (rows Kp AH)))],1,[],0⟩ (.ret (.sc (.string yR))) ⟨[(0,(.cells (rows Kp AH)))],1,[],0⟩)) (u0:Nat) (hnb:([u0]:List Nat).Nodup:=by decide) (hnt:([]:List Nat).Nodup:=by decide):Cd.ok P G (.callU 55 [.sc (.string operator),.msl u0 0 units] (.ret (.sc (.string yR))) [(u0,(.cells (rows Kp AH)))] [] [(u0,(.cells (rows Kp AH)))] []) :=
 D7 (M:=[(.cells (rows Kp AH))]) (M2:=[(.cells (rows Kp AH))]) (T:=[]) (T2:=[]) (k:=1) (j:=0) Hd.Ac _ _ _ _ hS rfl rfl rfl rfl rfl hnb hnt rfl rfl (.cons (.cells (.pl (A7.BI AH))) .nil) (.cons (.cells (.pl (A7.BI AH))) .nil) (.cons (.pl rfl) (.cons (.msl (by decide)) .nil)) (.pl rfl) (fun e he=>by simp only [List.mem_singleton] at he;subst he;exact (.arg (.there (.here .msl))))
theorem B6   {operator:ByteArray} {units:Nat} {AH:(List ByteArray)} {yR:ByteArray} (h:BH  operator units AH=some yR):Sound P G (.call 55 [.sc (.string operator),.msl 0 0 units] ⟨[(0,(.cells (rows Kp AH)))],1,[],0⟩ (.ret (.sc (.string yR))) ⟨[(0,(.cells (rows Kp AH)))],1,[],0⟩):=by
 unfold BH at h
 refine D5 Hd.mixed (AZ Tryz.func55 b55 ?_)
 revert h
 refine AD fun k1 hk1=>?_
 refine AD fun x2 hx2=>?_
 refine AD fun k3 hk3=>?_
 refine AD fun x4 hx4=>?_
 let o1:List (PC P G):=[Em (K3 (id:=0) hk1),eU (LC hx2),pk,Em (K3 (id:=0) hk3),eU (LC hx4)]
 refine Ai (fun hb1=>?_) fun hb1=>?_
 refine Ai (fun hb2=>?_) fun hb2=>?_
 refine AD fun y5 hy5=>?_
 refine Ai (fun hv=>?_) fun hv=>?_
 subst hv
 intro h
 have hE:=Option.some.inj h
 subst hE
 exact Am Hd.Ac _ _ [] [bp (A7.BI AH)] (Ae 300 (o1++[pb hb1,pn hb2,AF (Br (A4 hy5) 0)])) (by kernel_rfl) .body
 subst hv
 intro h
 have hE:=Option.some.inj h
 subst hE
 exact Am Hd.Ac _ _ [] [bp (A7.BI AH)] (Ae 300 (o1++[pb hb1,pn hb2,AF (Br (A4 hy5) 0)])) (by kernel_rfl) .body
 intro h
 have hE:=Option.some.inj h
 subst hE
 exact Am Hd.Ac _ _ [] [bp (A7.BI AH)] (Ae 300 (o1++[pb hb1,pn hb2])) (by kernel_rfl) .body
 let o2:List (PC P G):=o1++[pb hb1]
 refine Ai (fun hb3=>?_) fun hb3=>?_
 refine Ai (fun hb4=>?_) fun hb4=>?_
 refine AD fun y6 hy6=>?_
 refine Ai (fun hv=>?_) fun hv=>?_
 subst hv
 intro h
 have hE:=Option.some.inj h
 subst hE
 exact Am Hd.Ac _ _ [] [bp (A7.BI AH)] (Ae 300 (o2++[pb hb3,pn hb4,AF (Br (A4 hy6) 0)])) (by kernel_rfl) .body
 subst hv
 intro h
 have hE:=Option.some.inj h
 subst hE
 exact Am Hd.Ac _ _ [] [bp (A7.BI AH)] (Ae 300 (o2++[pb hb3,pn hb4,AF (Br (A4 hy6) 0)])) (by kernel_rfl) .body
 intro h
 have hE:=Option.some.inj h
 subst hE
 exact Am Hd.Ac _ _ [] [bp (A7.BI AH)] (Ae 300 (o2++[pb hb3,pn hb4])) (by kernel_rfl) .body
 let o3:List (PC P G):=o2++[pb hb3]
 refine Ai (fun hb5=>?_) fun hb5=>?_
 refine AD fun y7 hy7=>?_
 refine Ai (fun hv=>?_) fun hv=>?_
 subst hv
 intro h
 have hE:=Option.some.inj h
 subst hE
 exact Am Hd.Ac _ _ [] [bp (A7.BI AH)] (Ae 300 (o3++[pb hb5,AF (Br (A4 hy7) 0)])) (by kernel_rfl) .body
 subst hv
 intro h
 have hE:=Option.some.inj h
 subst hE
 exact Am Hd.Ac _ _ [] [bp (A7.BI AH)] (Ae 300 (o3++[pb hb5,AF (Br (A4 hy7) 0)])) (by kernel_rfl) .body
 let o4:List (PC P G):=o3++[pb hb5]
 refine Ai (fun hb6=>?_) fun hb6=>?_
 refine AD fun y8 hy8=>?_
 refine Ai (fun hv=>?_) fun hv=>?_
 subst hv
 intro h
 have hE:=Option.some.inj h
 subst hE
 exact Am Hd.Ac _ _ [] [bp (A7.BI AH)] (Ae 300 (o4++[pb hb6,AF (Br (A4 hy8) 0)])) (by kernel_rfl) .body
 subst hv
 intro h
 have hE:=Option.some.inj h
 subst hE
 exact Am Hd.Ac _ _ [] [bp (A7.BI AH)] (Ae 300 (o4++[pb hb6,AF (Br (A4 hy8) 0)])) (by kernel_rfl) .body
 let o5:List (PC P G):=o4++[pb hb6]
 refine Ai (fun hb7=>?_) fun hb7=>?_
 refine AD fun y9 hy9=>?_
 let o6:List (PC P G):=o5++[pb hb7,AF (Br (A4 hy9) 0)]
 refine Ai (fun hv=>?_) fun hv=>?_
 subst hv
 refine Ai (fun hb8=>?_) fun hb8=>?_
 intro h
 have hE:=Option.some.inj h
 subst hE
 exact Am Hd.Ac _ _ [] [bp (A7.BI AH)] (Ae 300 (o6++[pb hb8])) (by kernel_rfl) .body
 intro h
 have hE:=Option.some.inj h
 subst hE
 exact Am Hd.Ac _ _ [] [bp (A7.BI AH)] (Ae 300 (o6++[pb hb8])) (by kernel_rfl) .body
 subst hv
 intro h
 have hE:=Option.some.inj h
 subst hE
 exact Am Hd.Ac _ _ [] [bp (A7.BI AH)] (Ae 300 o6) (by kernel_rfl) .body
 let o7:List (PC P G):=o5++[pb hb7]
 refine Ai (fun hb9=>?_) fun hb9=>?_
 refine AD fun y10 hy10=>?_
 let o8:List (PC P G):=o7++[pb hb9,AF (Br (A4 hy10) 0)]
 refine Ai (fun hv=>?_) fun hv=>?_
 subst hv
 refine Ai (fun hb10=>?_) fun hb10=>?_
 intro h
 have hE:=Option.some.inj h
 subst hE
 exact Am Hd.Ac _ _ [] [bp (A7.BI AH)] (Ae 300 (o8++[pb hb10])) (by kernel_rfl) .body
 intro h
 have hE:=Option.some.inj h
 subst hE
 exact Am Hd.Ac _ _ [] [bp (A7.BI AH)] (Ae 300 (o8++[pb hb10])) (by kernel_rfl) .body
 subst hv
 intro h
 have hE:=Option.some.inj h
 subst hE
 exact Am Hd.Ac _ _ [] [bp (A7.BI AH)] (Ae 300 o8) (by kernel_rfl) .body
 let o9:List (PC P G):=o7++[pb hb9]
 refine Ai (fun hb11=>?_) fun hb11=>?_
 refine AD fun y11 hy11=>?_
 let o10:List (PC P G):=o9++[pb hb11,AF (Br (A4 hy11) 0)]
 refine Ai (fun hv=>?_) fun hv=>?_
 subst hv
 refine Ai (fun hb12=>?_) fun hb12=>?_
 intro h
 have hE:=Option.some.inj h
 subst hE
 exact Am Hd.Ac _ _ [] [bp (A7.BI AH)] (Ae 300 (o10++[pb hb12])) (by kernel_rfl) .body
 intro h
 have hE:=Option.some.inj h
 subst hE
 exact Am Hd.Ac _ _ [] [bp (A7.BI AH)] (Ae 300 (o10++[pb hb12])) (by kernel_rfl) .body
 subst hv
 intro h
 have hE:=Option.some.inj h
 subst hE
 exact Am Hd.Ac _ _ [] [bp (A7.BI AH)] (Ae 300 o10) (by kernel_rfl) .body
 let o11:List (PC P G):=o9++[pb hb11]
 refine Ai (fun hb13=>?_) fun hb13=>?_
 refine AD fun y12 hy12=>?_
 let o12:List (PC P G):=o11++[pb hb13,AF (Br (A4 hy12) 0)]
 refine Ai (fun hv=>?_) fun hv=>?_
 subst hv
 refine Ai (fun hb14=>?_) fun hb14=>?_
 intro h
 have hE:=Option.some.inj h
 subst hE
 exact Am Hd.Ac _ _ [] [bp (A7.BI AH)] (Ae 300 (o12++[pb hb14])) (by kernel_rfl) .body
 intro h
 have hE:=Option.some.inj h
 subst hE
 exact Am Hd.Ac _ _ [] [bp (A7.BI AH)] (Ae 300 (o12++[pb hb14])) (by kernel_rfl) .body
 subst hv
 intro h
 have hE:=Option.some.inj h
 subst hE
 exact Am Hd.Ac _ _ [] [bp (A7.BI AH)] (Ae 300 o12) (by kernel_rfl) .body
 let o13:List (PC P G):=o11++[pb hb13]
 refine Ai (fun hb15=>?_) fun hb15=>?_
 refine Ai (fun hb16=>?_) fun hb16=>?_
 refine Ai (fun hb17=>?_) fun hb17=>?_
 intro h
 have hE:=Option.some.inj h
 subst hE
 exact Am Hd.Ac _ _ [] [bp (A7.BI AH)] (Ae 300 (o13++[pb hb15,pb hb16,pb hb17])) (by kernel_rfl) .body
 intro h
 have hE:=Option.some.inj h
 subst hE
 exact Am Hd.Ac _ _ [] [bp (A7.BI AH)] (Ae 300 (o13++[pb hb15,pb hb16,pb hb17])) (by kernel_rfl) .body
 refine Ai (fun hb18=>?_) fun hb18=>?_
 refine Ai (fun hb19=>?_) fun hb19=>?_
 intro h
 have hE:=Option.some.inj h
 subst hE
 exact Am Hd.Ac _ _ [] [bp (A7.BI AH)] (Ae 300 (o13++[pb hb15,pb hb16,pn hb18,pb hb19])) (by kernel_rfl) .body
 intro h
 have hE:=Option.some.inj h
 subst hE
 exact Am Hd.Ac _ _ [] [bp (A7.BI AH)] (Ae 300 (o13++[pb hb15,pb hb16,pn hb18,pb hb19])) (by kernel_rfl) .body
 intro h
 have hE:=Option.some.inj h
 subst hE
 exact Am Hd.Ac _ _ [] [bp (A7.BI AH)] (Ae 300 (o13++[pb hb15,pb hb16,pn hb18])) (by kernel_rfl) .body
 refine Ai (fun hb20=>?_) fun hb20=>?_
 refine Ai (fun hb21=>?_) fun hb21=>?_
 intro h
 have hE:=Option.some.inj h
 subst hE
 exact Am Hd.Ac _ _ [] [bp (A7.BI AH)] (Ae 300 (o13++[pb hb15,pb hb20,pb hb21])) (by kernel_rfl) .body
 intro h
 have hE:=Option.some.inj h
 subst hE
 exact Am Hd.Ac _ _ [] [bp (A7.BI AH)] (Ae 300 (o13++[pb hb15,pb hb20,pb hb21])) (by kernel_rfl) .body
 refine Ai (fun hb22=>?_) fun hb22=>?_
 refine Ai (fun hb23=>?_) fun hb23=>?_
 refine AD fun y13 hy13=>?_
 refine Ai (fun hv=>?_) fun hv=>?_
 subst hv
 intro h
 have hE:=Option.some.inj h
 subst hE
 exact Am Hd.Ac _ _ [] [bp (A7.BI AH)] (Ae 300 (o13++[pb hb15,pb hb20,pb hb22,pb hb23,Bk (Df hy13)])) (by kernel_rfl) .body
 subst hv
 intro h
 have hE:=Option.some.inj h
 subst hE
 exact Am Hd.Ac _ _ [] [bp (A7.BI AH)] (Ae 300 (o13++[pb hb15,pb hb20,pb hb22,pb hb23,Bk (Df hy13)])) (by kernel_rfl) .body
 intro h
 have hE:=Option.some.inj h
 subst hE
 exact Am Hd.Ac _ _ [] [bp (A7.BI AH)] (Ae 300 (o13++[pb hb15,pb hb20,pb hb22,pb hb23])) (by kernel_rfl) .body
 intro h
 have hE:=Option.some.inj h
 subst hE
 exact Am Hd.Ac _ _ [] [bp (A7.BI AH)] (Ae 300 (o13++[pb hb15,pb hb20,pb hb22])) (by kernel_rfl) .body
theorem CQ {s:Sc} {e:Nd} {report:(List Dg)} {yR:ByteArray} {qreportR:(List Dg)} (hS:Sound P G (.call 32 [.agg [.mp 0,.mp 1,.mp 2],.agg (BP e),.fn (.func 54) [] [.ptr 3 0]] ⟨[(3,.cells [.sl (.row 0 2) report.length (rows CZ report)]),(2,(B7 s.Af)),(1,(AU s.lines)),(0,(AU s.facts))],4,[(0,report.length)],1⟩ (.ret (.sc (.string yR))) ⟨[(3,.cells [.sl (.row 0 2) qreportR.length (rows CZ qreportR)]),(2,(B7 s.Af)),(1,(AU s.lines)),(0,(AU s.facts))],4,[(0,qreportR.length)],1⟩)) (u0 u1 u2 u3 v0:Nat) (hnb:([u0,u1,u2,u3]:List Nat).Nodup:=by decide) (hnt:([v0]:List Nat).Nodup:=by decide):Cd.ok P G (.callU 32 [.agg [.mp u0,.mp u1,.mp u2],.agg (BP e),.fn (.func 54) [] [.ptr u3 0]] (.ret (.sc (.string yR))) [(u0,(AU s.facts)),(u1,(AU s.lines)),(u2,(B7 s.Af)),(u3,.cells [.sl (.row v0 2) report.length (rows CZ report)])] [(v0,report.length)] [(u0,(AU s.facts)),(u1,(AU s.lines)),(u2,(B7 s.Af)),(u3,.cells [.sl (.row v0 2) qreportR.length (rows CZ qreportR)])] [(v0,qreportR.length)]) :=
 D7 (M:=[(AU s.facts),(AU s.lines),(B7 s.Af),.cells [.sl (.row 0 2) report.length (rows CZ report)]]) (M2:=[(AU s.facts),(AU s.lines),(B7 s.Af),.cells [.sl (.row 0 2) qreportR.length (rows CZ qreportR)]]) (T:=[report.length]) (T2:=[qreportR.length]) (k:=4) (j:=1) Hd.Ac _ _ _ _ hS rfl rfl rfl rfl rfl hnb hnt rfl rfl (.cons (Gl (fun _=>rfl)) (.cons (Gl (fun _=>rfl)) (.cons (Gl (fun _=>rfl)) (.cons (.cells (.cons (.row (by decide) (AM.BI report)) .nil)) .nil)))) (.cons (Gl (fun _=>rfl)) (.cons (Gl (fun _=>rfl)) (.cons (Gl (fun _=>rfl)) (.cons (.cells (.cons (.row (by decide) (AM.BI qreportR)) .nil)) .nil)))) (.cons (.agg (.cons (.mp (by decide)) (.cons (.mp (by decide)) (.cons (.mp (by decide)) .nil)))) (.cons (.pl (Ay.Lc e)) (.cons (.fn (.pl rfl) (.cons (.ptr (by decide)) .nil)) .nil))) (.pl rfl) (by
   intro e he
   simp only [List.mem_cons,List.not_mem_nil,or_false] at he
   rcases he with rfl | rfl | rfl | rfl
   · exact (.arg (.here (.agg (.here .mp))))
   · exact (.arg (.here (.agg (.there (.here .mp)))))
   · exact (.arg (.here (.agg (.there (.there (.here .mp))))))
   · exact (.arg (.there (.there (.here (.fn2 (.here .ptr))))))
   )
noncomputable def uU:Code:=Bp Tryz.f32
theorem b32:Tryz.f32.body=some uU:=by kernel_rfl
noncomputable def BG (Bs:Sc→Nd→(List Dg)→Option (ByteArray×(List Dg))) (s:Sc) (i0:Nat) (e0:Nd) (whole8:Bool) (w6_l:(List ByteArray)) (w3_0:(List Dg)):Option (Lp (Bool×(List ByteArray)×(List Dg)) (Bool×(List ByteArray)×(List Dg)) (ByteArray×(List Dg))):=(Bs s e0 w3_0).bind fun (y2a,y2b)=>(w6_l[i0]?).bind fun x3=>cond whole8 (((w6_l.set i0 y2a)[i0]?).bind fun x4=>cond (Cc x4.data.toList ByteArray.empty.data.toList) (some (.nx (false,(w6_l.set i0 y2a),y2b))) (some (.nx (true,(w6_l.set i0 y2a),y2b)))) (some (.nx (false,(w6_l.set i0 y2a),y2b)))
noncomputable def CV (Bs:Sc→Nd→(List Dg)→Option (ByteArray×(List Dg))) (s:Sc) (e:Nd) (report:(List Dg)):Option (ByteArray×(List Dg)):=cH (e.kids.length) ((IZ e.kids.length (A2 (fun i y x=>BG Bs s i y x.1 x.2.1 x.2.2) (fun x=>(x.1,x.2.1,x.2.2)) (e.kids.drop 0) 0 (true,(List.replicate e.kids.length ByteArray.empty),report))).bind (JA (fun ((whole8_5,w6_l_5,w3_0_5):(Bool×(List ByteArray)×(List Dg)))=>cond whole8_5 (cond (DM e.kind 11) (cond (Cc e.unit.data.toList ByteArray.empty.data.toList) ((Aj 11 e.att w3_0_5).bind fun (y6a,y6b)=>some (e.unit,y6b)) (some (e.unit,w3_0_5))) (cond (DM e.kind 12) (cond (Cc ((s.facts.get e.name).getD ByteArray.empty).data.toList ByteArray.empty.data.toList) ((Aj 91 e.att w3_0_5).bind fun (y7a,y7b)=>some (((s.facts.get e.name).getD ByteArray.empty),y7b)) (some (((s.facts.get e.name).getD ByteArray.empty),w3_0_5))) (cond (DM e.kind 13) (cond (Cc ((s.lines.get ((s.Af.get e.n).getD ByteArray.empty)).getD ByteArray.empty).data.toList ByteArray.empty.data.toList) ((Aj 91 e.att w3_0_5).bind fun (y8a,y8b)=>some (((s.lines.get ((s.Af.get e.n).getD ByteArray.empty)).getD ByteArray.empty),y8b)) (some (((s.lines.get ((s.Af.get e.n).getD ByteArray.empty)).getD ByteArray.empty),w3_0_5))) (cond (DM e.kind 14) (cond (Cc CH.data.toList ByteArray.empty.data.toList) ((Aj 11 e.att w3_0_5).bind fun (y9a,y9b)=>some (CH,y9b)) (some (CH,w3_0_5))) (cond (DM e.kind 15) ((BH Nh e.kids.length w6_l_5).bind fun y10=>cond (Cc y10.data.toList ByteArray.empty.data.toList) ((Aj 11 e.att w3_0_5).bind fun (y11a,y11b)=>some (y10,y11b)) (some (y10,w3_0_5))) (cond (DM e.kind 16) ((BH e.name e.kids.length w6_l_5).bind fun y12=>cond (Cc y12.data.toList ByteArray.empty.data.toList) ((Aj 11 e.att w3_0_5).bind fun (y13a,y13b)=>some (y12,y13b)) (some (y12,w3_0_5))) (cond (DM e.kind 17) ((BH O8 e.kids.length w6_l_5).bind fun y14=>cond (Cc y14.data.toList ByteArray.empty.data.toList) ((Aj 11 e.att w3_0_5).bind fun (y15a,y15b)=>some (y14,y15b)) (some (y14,w3_0_5))) (cond (DM e.kind 18) ((JH e.kids.length ((0:Nat):Int)).bind fun YI=>(w6_l_5[YI]?).bind fun x17=>(C8 x17).bind fun y18=>cond y18 (cond (Cc x17.data.toList ByteArray.empty.data.toList) ((Aj 11 e.att w3_0_5).bind fun (y19a,y19b)=>some (x17,y19b)) (some (x17,w3_0_5))) (cond (Cc ByteArray.empty.data.toList ByteArray.empty.data.toList) ((Aj 11 e.att w3_0_5).bind fun (y20a,y20b)=>some (ByteArray.empty,y20b)) (some (ByteArray.empty,w3_0_5)))) (cond (Cc ByteArray.empty.data.toList ByteArray.empty.data.toList) ((Aj 11 e.att w3_0_5).bind fun (y21a,y21b)=>some (ByteArray.empty,y21b)) (some (ByteArray.empty,w3_0_5))))))))))) (some (ByteArray.empty,w3_0_5))) (fun v=>some v)))
theorem G4 (Bs:Sc→Nd→(List Dg)→Option (ByteArray×(List Dg))) (HQ:∀ {s:Sc} {e:Nd} {report:(List Dg)} {yR:ByteArray} {qreportR:(List Dg)},Bs s e report=some (yR,qreportR)→Sound P G (.call 32 [.agg [.mp 0,.mp 1,.mp 2],.agg (BP e),.fn (.func 54) [] [.ptr 3 0]] ⟨[(3,.cells [.sl (.row 0 2) report.length (rows CZ report)]),(2,(B7 s.Af)),(1,(AU s.lines)),(0,(AU s.facts))],4,[(0,report.length)],1⟩ (.ret (.sc (.string yR))) ⟨[(3,.cells [.sl (.row 0 2) qreportR.length (rows CZ qreportR)]),(2,(B7 s.Af)),(1,(AU s.lines)),(0,(AU s.facts))],4,[(0,qreportR.length)],1⟩)) {s:Sc} {e:Nd} {report:(List Dg)} {yR:ByteArray} {qreportR:(List Dg)} (h:CV Bs s e report=some (yR,qreportR)):Sound P G (.call 32 [.agg [.mp 0,.mp 1,.mp 2],.agg (BP e),.fn (.func 54) [] [.ptr 3 0]] ⟨[(3,.cells [.sl (.row 0 2) report.length (rows CZ report)]),(2,(B7 s.Af)),(1,(AU s.lines)),(0,(AU s.facts))],4,[(0,report.length)],1⟩ (.ret (.sc (.string yR))) ⟨[(3,.cells [.sl (.row 0 2) qreportR.length (rows CZ qreportR)]),(2,(B7 s.Af)),(1,(AU s.lines)),(0,(AU s.facts))],4,[(0,qreportR.length)],1⟩):=by
 unfold CV at h
 refine D5 Hd.mixed (AZ Tryz.func32 b32 ?_)
 revert h
 refine oQ fun hl1=>?_
 refine GM (fun Q v=>Hs P G Tryz.f32 4 ⟨[(3,.cells [.sl (.row 0 2) report.length (rows CZ report)]),(2,(B7 s.Af)),(1,(AU s.lines)),(0,(AU s.facts))],4,[(0,report.length)],1⟩ Q (.sc (.string v.1)) ⟨[(3,.cells [.sl (.row 0 2) v.2.length (rows CZ v.2)]),(2,(B7 s.Af)),(1,(AU s.lines)),(0,(AU s.facts))],4,[(0,v.2.length)],1⟩) (fun i0 ((whole8,w6_l,w3_0):(Bool×(List ByteArray)×(List Dg))) (j0:List Value)=>fr 99 [(2,.fn (.func 54) [] [.ptr 3 0]),(3,.ptr 4 0),(4,.ptr 5 0),(7,.msl 6 0 e.kids.length),(8,.sc (.bool whole8)),(18,.sl .lost e.kids.length (AW e.kids)),(19,.sc (.int .i64 ((e.kids.length:Nat):Int))),(20,.sc (.int .i64 ((i0:Nat):Int)))] [21,32,33,38,39,41,42,45,46,49,50,56,57,66,67,68,69,72,73,78,79,82,83,87,92] j0) (fun ((whole8,w6_l,w3_0):(Bool×(List ByteArray)×(List Dg)))=>⟨[(6,(.cells (rows Kp w6_l))),(5,.cells (BP e)),(4,.cells [.mp 0,.mp 1,.mp 2]),(3,.cells [.sl (.row 0 2) w3_0.length (rows CZ w3_0)]),(2,(B7 s.Af)),(1,(AU s.lines)),(0,(AU s.facts))],7,[(0,w3_0.length)],1⟩) (fun ((whole8,w6_l,w3_0):(Bool×(List ByteArray)×(List Dg))) (jx:List Value)=>fr 99 [(2,.fn (.func 54) [] [.ptr 3 0]),(3,.ptr 4 0),(4,.ptr 5 0),(7,.msl 6 0 e.kids.length),(8,.sc (.bool whole8))] [21,32,33,38,39,41,42,45,46,49,50,56,57,66,67,68,69,72,73,78,79,82,83,87,92] jx) (fun ((whole8,w6_l,w3_0):(Bool×(List ByteArray)×(List Dg)))=>⟨[(6,(.cells (rows Kp w6_l))),(5,.cells (BP e)),(4,.cells [.mp 0,.mp 1,.mp 2]),(3,.cells [.sl (.row 0 2) w3_0.length (rows CZ w3_0)]),(2,(B7 s.Af)),(1,(AU s.lines)),(0,(AU s.facts))],7,[(0,w3_0.length)],1⟩) [] (GC [] 0 (sb uU 244) [.code (sb uU 31)] (Ae 300 [pmb (oW (n:=e.kids.length) hl1)]) (by kernel_rfl)) ?_ ?_ ?_ (fun v h=>by cases h;exact .outer .body)
 rintro i0 ⟨whole8,w6_l,w3_0⟩ j0 hge hq
 exact DQ (Ae 300 [pb (Mj hge)]) (by kernel_rfl) (hq (js 25 j0 [(0,.bool false)]))
 rintro i0 e0 ⟨whole8,w6_l,w3_0⟩ j0 r he0 hi0 mi0 k
 show BG Bs s i0 e0 whole8 w6_l w3_0=some r→_
 unfold BG
 refine AD ?_
 rintro ⟨y2a,y2b⟩ hy2
 dsimp only
 refine AD fun x3 hx3=>?_
 let o1:List (PC P G):=[pb (Jb hi0),Em (DT .lost he0),AF (CQ (HQ hy2) 0 1 2 3 0),Em (WZ (id:=6) (n:=e.kids.length) (i:=i0) (by have:=Ly (Jb hi0);omega)),psb (oO hx3 y2a)]
 refine Ai (fun hv=>?_) fun hv=>?_
 subst hv
 refine AD fun x4 hx4=>?_
 let o2:List (PC P G):=o1++[Em (WZ (id:=6) (n:=e.kids.length) (i:=i0) (by have:=Ly (Jb hi0);omega)),eU (LC hx4)]
 refine Ai (fun hb1=>?_) fun hb1=>?_
 rintro ⟨⟩
 exact BS Hd.Ac [fq (Ay.DH e.kids)] [bp (A7.BI (w6_l.set i0 y2a)),bp (Ay.pl e),none,br AM 0 2 y2b,Bm s.Af,AJ s.lines,AJ s.facts] (Ae 300 (o2++[pn hb1,pi mi0])) (by kernel_rfl) (k (js 25 j0 [(0,.bool true),(1,.bool true),(2,.bool true),(3,.bool false),(4,.bool false)]))
 rintro ⟨⟩
 exact BS Hd.Ac [fq (Ay.DH e.kids)] [bp (A7.BI (w6_l.set i0 y2a)),bp (Ay.pl e),none,br AM 0 2 y2b,Bm s.Af,AJ s.lines,AJ s.facts] (Ae 300 (o2++[pn hb1,pi mi0])) (by kernel_rfl) (k (js 25 j0 [(0,.bool true),(1,.bool true),(2,.bool true),(3,.bool true),(4,.bool true)]))
 subst hv
 rintro ⟨⟩
 exact BS Hd.Ac [fq (Ay.DH e.kids)] [bp (A7.BI (w6_l.set i0 y2a)),bp (Ay.pl e),none,br AM 0 2 y2b,Bm s.Af,AJ s.lines,AJ s.facts] (Ae 300 (o1++[pi mi0])) (by kernel_rfl) (k (js 25 j0 [(0,.bool true),(1,.bool false),(2,.bool false),(3,undef),(4,.bool false)]))
 rintro ⟨whole8_5,w6_l_5,w3_0_5⟩ jx_5
 dsimp only
 refine Ai (fun hv=>?_) fun hv=>?_
 subst hv
 refine Ai (fun hb2=>?_) fun hb2=>?_
 refine Ai (fun hb3=>?_) fun hb3=>?_
 refine AD ?_
 rintro ⟨y6a,y6b⟩ hy6
 dsimp only
 intro h
 have hE:=Option.some.inj h
 obtain ⟨hE0,hF0⟩:=Prod.mk.inj hE
 subst hE0 hF0
 exact Am Hd.Ac _ _ [] [br AM 0 2 y6b,Bm s.Af,AJ s.lines,AJ s.facts] (CX 300 [pb hb2,pb hb3,AF (At (Ak hy6) 3 0)]) (by kernel_rfl) .body
 intro h
 have hE:=Option.some.inj h
 obtain ⟨hE0,hF0⟩:=Prod.mk.inj hE
 subst hE0 hF0
 exact Am Hd.Ac _ _ [] [br AM 0 2 w3_0_5,Bm s.Af,AJ s.lines,AJ s.facts] (CX 300 [pb hb2,pb hb3]) (by kernel_rfl) .body
 let o3:List (PC P G):=[pb hb2]
 refine Ai (fun hb4=>?_) fun hb4=>?_
 refine Ai (fun hb5=>?_) fun hb5=>?_
 refine AD ?_
 rintro ⟨y7a,y7b⟩ hy7
 dsimp only
 intro h
 have hE:=Option.some.inj h
 obtain ⟨hE0,hF0⟩:=Prod.mk.inj hE
 subst hE0 hF0
 exact Am Hd.Ac _ _ [] [br AM 0 2 y7b,Bm s.Af,AJ s.lines,AJ s.facts] (CX 300 (o3++[pb hb4,IC (Y5 s.facts e.name),pb hb5,AF (At (Ak hy7) 3 0)])) (by kernel_rfl) .body
 intro h
 have hE:=Option.some.inj h
 obtain ⟨hE0,hF0⟩:=Prod.mk.inj hE
 subst hE0 hF0
 exact Am Hd.Ac _ _ [] [br AM 0 2 w3_0_5,Bm s.Af,AJ s.lines,AJ s.facts] (CX 300 (o3++[pb hb4,IC (Y5 s.facts e.name),pb hb5])) (by kernel_rfl) .body
 let o4:List (PC P G):=o3++[pb hb4]
 refine Ai (fun hb6=>?_) fun hb6=>?_
 let o5:List (PC P G):=o4++[pb hb6,IC (iA s.Af e.n),IC (Y5 s.lines ((s.Af.get e.n).getD ByteArray.empty))]
 refine Ai (fun hb7=>?_) fun hb7=>?_
 refine AD ?_
 rintro ⟨y8a,y8b⟩ hy8
 dsimp only
 intro h
 have hE:=Option.some.inj h
 obtain ⟨hE0,hF0⟩:=Prod.mk.inj hE
 subst hE0 hF0
 exact Am Hd.Ac _ _ [] [br AM 0 2 y8b,Bm s.Af,AJ s.lines,AJ s.facts] (CX 300 (o5++[pb hb7,AF (At (Ak hy8) 3 0)])) (by kernel_rfl) .body
 intro h
 have hE:=Option.some.inj h
 obtain ⟨hE0,hF0⟩:=Prod.mk.inj hE
 subst hE0 hF0
 exact Am Hd.Ac _ _ [] [br AM 0 2 w3_0_5,Bm s.Af,AJ s.lines,AJ s.facts] (CX 300 (o5++[pb hb7])) (by kernel_rfl) .body
 let o6:List (PC P G):=o4++[pb hb6]
 refine Ai (fun hb8=>?_) fun hb8=>?_
 refine Ai (fun hb9=>?_) fun hb9=>?_
 refine AD ?_
 rintro ⟨y9a,y9b⟩ hy9
 dsimp only
 intro h
 have hE:=Option.some.inj h
 obtain ⟨hE0,hF0⟩:=Prod.mk.inj hE
 subst hE0 hF0
 exact Am Hd.Ac _ _ [] [br AM 0 2 y9b,Bm s.Af,AJ s.lines,AJ s.facts] (CX 300 (o6++[pb hb8,pb hb9,AF (At (Ak hy9) 3 0)])) (by kernel_rfl) .body
 intro h
 have hE:=Option.some.inj h
 obtain ⟨hE0,hF0⟩:=Prod.mk.inj hE
 subst hE0 hF0
 exact Am Hd.Ac _ _ [] [br AM 0 2 w3_0_5,Bm s.Af,AJ s.lines,AJ s.facts] (CX 300 (o6++[pb hb8,pb hb9])) (by kernel_rfl) .body
 let o7:List (PC P G):=o6++[pb hb8]
 refine Ai (fun hb10=>?_) fun hb10=>?_
 refine AD fun y10 hy10=>?_
 refine Ai (fun hb11=>?_) fun hb11=>?_
 refine AD ?_
 rintro ⟨y11a,y11b⟩ hy11
 dsimp only
 intro h
 have hE:=Option.some.inj h
 obtain ⟨hE0,hF0⟩:=Prod.mk.inj hE
 subst hE0 hF0
 exact Am Hd.Ac _ _ [] [br AM 0 2 y11b,Bm s.Af,AJ s.lines,AJ s.facts] (CX 300 (o7++[pb hb10,AF (CL (B6 hy10) 6),pb hb11,AF (At (Ak hy11) 3 0)])) (by kernel_rfl) .body
 intro h
 have hE:=Option.some.inj h
 obtain ⟨hE0,hF0⟩:=Prod.mk.inj hE
 subst hE0 hF0
 exact Am Hd.Ac _ _ [] [br AM 0 2 w3_0_5,Bm s.Af,AJ s.lines,AJ s.facts] (CX 300 (o7++[pb hb10,AF (CL (B6 hy10) 6),pb hb11])) (by kernel_rfl) .body
 let o8:List (PC P G):=o7++[pb hb10]
 refine Ai (fun hb12=>?_) fun hb12=>?_
 refine AD fun y12 hy12=>?_
 refine Ai (fun hb13=>?_) fun hb13=>?_
 refine AD ?_
 rintro ⟨y13a,y13b⟩ hy13
 dsimp only
 intro h
 have hE:=Option.some.inj h
 obtain ⟨hE0,hF0⟩:=Prod.mk.inj hE
 subst hE0 hF0
 exact Am Hd.Ac _ _ [] [br AM 0 2 y13b,Bm s.Af,AJ s.lines,AJ s.facts] (CX 300 (o8++[pb hb12,AF (CL (B6 hy12) 6),pb hb13,AF (At (Ak hy13) 3 0)])) (by kernel_rfl) .body
 intro h
 have hE:=Option.some.inj h
 obtain ⟨hE0,hF0⟩:=Prod.mk.inj hE
 subst hE0 hF0
 exact Am Hd.Ac _ _ [] [br AM 0 2 w3_0_5,Bm s.Af,AJ s.lines,AJ s.facts] (CX 300 (o8++[pb hb12,AF (CL (B6 hy12) 6),pb hb13])) (by kernel_rfl) .body
 refine Ai (fun hb14=>?_) fun hb14=>?_
 refine AD fun y14 hy14=>?_
 refine Ai (fun hb15=>?_) fun hb15=>?_
 refine AD ?_
 rintro ⟨y15a,y15b⟩ hy15
 dsimp only
 intro h
 have hE:=Option.some.inj h
 obtain ⟨hE0,hF0⟩:=Prod.mk.inj hE
 subst hE0 hF0
 exact Am Hd.Ac _ _ [] [br AM 0 2 y15b,Bm s.Af,AJ s.lines,AJ s.facts] (CX 300 (o8++[pb hb12,pb hb14,AF (CL (B6 hy14) 6),pb hb15,AF (At (Ak hy15) 3 0)])) (by kernel_rfl) .body
 intro h
 have hE:=Option.some.inj h
 obtain ⟨hE0,hF0⟩:=Prod.mk.inj hE
 subst hE0 hF0
 exact Am Hd.Ac _ _ [] [br AM 0 2 w3_0_5,Bm s.Af,AJ s.lines,AJ s.facts] (CX 300 (o8++[pb hb12,pb hb14,AF (CL (B6 hy14) 6),pb hb15])) (by kernel_rfl) .body
 let o9:List (PC P G):=o8++[pb hb12,pb hb14]
 refine Ai (fun hb16=>?_) fun hb16=>?_
 refine AD fun YI hk16=>?_
 refine AD fun x17 hx17=>?_
 refine AD fun y18 hy18=>?_
 let o10:List (PC P G):=o9++[pb hb16,Em (K3 (id:=6) hk16),eU (LC hx17),Bk (Df hy18)]
 refine Ai (fun hv=>?_) fun hv=>?_
 subst hv
 refine Ai (fun hb17=>?_) fun hb17=>?_
 refine AD ?_
 rintro ⟨y19a,y19b⟩ hy19
 dsimp only
 intro h
 have hE:=Option.some.inj h
 obtain ⟨hE0,hF0⟩:=Prod.mk.inj hE
 subst hE0 hF0
 exact Am Hd.Ac _ _ [] [br AM 0 2 y19b,Bm s.Af,AJ s.lines,AJ s.facts] (CX 300 (o10++[Em (K3 (id:=6) hk16),eU (LC hx17),pb hb17,AF (At (Ak hy19) 3 0)])) (by kernel_rfl) .body
 intro h
 have hE:=Option.some.inj h
 obtain ⟨hE0,hF0⟩:=Prod.mk.inj hE
 subst hE0 hF0
 exact Am Hd.Ac _ _ [] [br AM 0 2 w3_0_5,Bm s.Af,AJ s.lines,AJ s.facts] (CX 300 (o10++[Em (K3 (id:=6) hk16),eU (LC hx17),pb hb17])) (by kernel_rfl) .body
 subst hv
 refine Ai (fun hb18=>?_) fun hb18=>?_
 refine AD ?_
 rintro ⟨y20a,y20b⟩ hy20
 dsimp only
 intro h
 have hE:=Option.some.inj h
 obtain ⟨hE0,hF0⟩:=Prod.mk.inj hE
 subst hE0 hF0
 exact Am Hd.Ac _ _ [] [br AM 0 2 y20b,Bm s.Af,AJ s.lines,AJ s.facts] (CX 300 (o10++[pb hb18,AF (At (Ak hy20) 3 0)])) (by kernel_rfl) .body
 intro h
 have hE:=Option.some.inj h
 obtain ⟨hE0,hF0⟩:=Prod.mk.inj hE
 subst hE0 hF0
 exact Am Hd.Ac _ _ [] [br AM 0 2 w3_0_5,Bm s.Af,AJ s.lines,AJ s.facts] (CX 300 (o10++[pb hb18])) (by kernel_rfl) .body
 refine Ai (fun hb19=>?_) fun hb19=>?_
 refine AD ?_
 rintro ⟨y21a,y21b⟩ hy21
 dsimp only
 intro h
 have hE:=Option.some.inj h
 obtain ⟨hE0,hF0⟩:=Prod.mk.inj hE
 subst hE0 hF0
 exact Am Hd.Ac _ _ [] [br AM 0 2 y21b,Bm s.Af,AJ s.lines,AJ s.facts] (CX 300 (o9++[pb hb16,pb hb19,AF (At (Ak hy21) 3 0)])) (by kernel_rfl) .body
 intro h
 have hE:=Option.some.inj h
 obtain ⟨hE0,hF0⟩:=Prod.mk.inj hE
 subst hE0 hF0
 exact Am Hd.Ac _ _ [] [br AM 0 2 w3_0_5,Bm s.Af,AJ s.lines,AJ s.facts] (CX 300 (o9++[pb hb16,pb hb19])) (by kernel_rfl) .body
 subst hv
 intro h
 have hE:=Option.some.inj h
 obtain ⟨hE0,hF0⟩:=Prod.mk.inj hE
 subst hE0 hF0
 exact Am Hd.Ac _ _ [] [br AM 0 2 w3_0_5,Bm s.Af,AJ s.lines,AJ s.facts] (CX 300 []) (by kernel_rfl) .body
noncomputable def Ba:Nat→Sc→Nd→(List Dg)→Option (ByteArray×(List Dg))
 | 0,_,_,_=>none
 | qn+1,s,e,report=>CV (Ba qn) s e report
theorem Ht:∀ qn:Nat,∀ {s:Sc} {e:Nd} {report:(List Dg)} {yR:ByteArray} {qreportR:(List Dg)},Ba qn s e report=some (yR,qreportR)→Sound P G (.call 32 [.agg [.mp 0,.mp 1,.mp 2],.agg (BP e),.fn (.func 54) [] [.ptr 3 0]] ⟨[(3,.cells [.sl (.row 0 2) report.length (rows CZ report)]),(2,(B7 s.Af)),(1,(AU s.lines)),(0,(AU s.facts))],4,[(0,report.length)],1⟩ (.ret (.sc (.string yR))) ⟨[(3,.cells [.sl (.row 0 2) qreportR.length (rows CZ qreportR)]),(2,(B7 s.Af)),(1,(AU s.lines)),(0,(AU s.facts))],4,[(0,qreportR.length)],1⟩):=by
 intro qn
 induction qn with
 | zero=>exact (fun h=>by simp only [Ba] at h;cases h)
 | succ qn ih=>exact (fun h=>G4 (Ba qn) ih (by rw [Ba] at h;exact h))
noncomputable def Cf (s:Sc) (e:Nd) (report:(List Dg)):Option (ByteArray×(List Dg)):=b6 (fun qn=>Ba qn s e report)
theorem DD {s:Sc} {e:Nd} {report:(List Dg)} {yR:ByteArray} {qreportR:(List Dg)} (h:Cf s e report=some (yR,qreportR)):Sound P G (.call 32 [.agg [.mp 0,.mp 1,.mp 2],.agg (BP e),.fn (.func 54) [] [.ptr 3 0]] ⟨[(3,.cells [.sl (.row 0 2) report.length (rows CZ report)]),(2,(B7 s.Af)),(1,(AU s.lines)),(0,(AU s.facts))],4,[(0,report.length)],1⟩ (.ret (.sc (.string yR))) ⟨[(3,.cells [.sl (.row 0 2) qreportR.length (rows CZ qreportR)]),(2,(B7 s.Af)),(1,(AU s.lines)),(0,(AU s.facts))],4,[(0,qreportR.length)],1⟩):=by
 obtain ⟨qn,h⟩:=cO h
 exact (Ht qn) h
noncomputable def B13:Code:=Bp Tryz.f13
theorem b13:Tryz.f13.body=some B13:=by kernel_rfl
noncomputable def DI  (source:Nd) (e:Nd):Option (ByteArray×(List Dg)):=cond (DM source.kind 1) (cond (DM e.kind 1) (some (ByteArray.empty,[(⟨1,e.att⟩:Dg)])) ((CN source).bind fun y1=>cond y1 ((CN e).bind fun y2=>cond y2 ((Cv).bind fun y3=>(CJ source).bind fun y4=>(Cf y4 e []).bind fun (y5a,y5b)=>some (y5a,y5b)) (some (ByteArray.empty,[(⟨1,e.att⟩:Dg)]))) (some (ByteArray.empty,[(⟨1,e.att⟩:Dg)])))) (some (ByteArray.empty,[(⟨1,e.att⟩:Dg)]))
theorem Hw   {source:Nd} {e:Nd} {yR:(ByteArray×(List Dg))} (h:DI  source e=some yR):Pure P G 13 [.agg (BP source),.agg (BP e)] (.Bc [.sc (.string yR.1),.sl .lost yR.2.length (rows CZ yR.2)]):=by
 unfold DI at h
 refine D0 Hd.mixed Hd.Ac (AZ Tryz.func13 b13 ?_) (BI (Ay.Lc source) (BI (Ay.Lc e) rfl)) (BI rfl (BI (AM.DH yR.2) rfl))
 revert h
 refine Ai (fun hb1=>?_) fun hb1=>?_
 refine Ai (fun hb2=>?_) fun hb2=>?_
 intro h
 have hE:=Option.some.inj h
 subst hE
 exact A5 (v:=.Bc [.sc (.string ByteArray.empty),.sl .full 1 [.sc (.int .i64 1),.sc (.int .i64 e.att)]]) _ _ (Ae 300 [pn hb1,pb hb2]) (by kernel_rfl) .body (.wn (.u (.r (.d (.r (.r .nil)) (AM.eq [(⟨1,e.att⟩:Dg)]).symm .nil)) .nil) (BI rfl (BI (AM.DH [(⟨1,e.att⟩:Dg)]) rfl)))
 refine AD fun y1 hy1=>?_
 let o1:List (PC P G):=[pn hb1,pb hb2,Bk (C1 hy1)]
 refine Ai (fun hv=>?_) fun hv=>?_
 subst hv
 refine AD fun y2 hy2=>?_
 refine Ai (fun hv=>?_) fun hv=>?_
 subst hv
 refine AD fun y3 hy3=>?_
 refine AD fun y4 hy4=>?_
 refine AD ?_
 rintro ⟨y5a,y5b⟩ hy5
 dsimp only
 intro h
 have hE:=Option.some.inj h
 subst hE
 exact A5 (v:=.Bc [.sc (.string y5a),.sl (.row 0 2) y5b.length (rows CZ y5b)]) _ _ (Ae 300 (o1++[Bk (C1 hy2),Nb (v:=.Bc [.ptr 2 0,.fn (.func 54) [] [.ptr 2 0]]) (h:=[(2,.cells [.sl .full 0 []])] ) (F:=[]) (GP (FF hy3) 2 0),xU [.b 2 0 2],pza,Nb (v:=.agg [.mp 5,.mp 6,.mp 7]) (h:=[(7,(B7 y4.Af)),(6,(AU y4.lines)),(5,(AU y4.facts))] ) (F:=[]) (Hh (F4 hy4) 3 1),AF (CQ (DD hy5) 5 6 7 2 0)])) (by kernel_rfl) .body (.wn (.u (.r (.s rfl .nil)) .nil) (BI rfl (BI (AM.DH y5b) rfl)))
 subst hv
 intro h
 have hE:=Option.some.inj h
 subst hE
 exact A5 (v:=.Bc [.sc (.string ByteArray.empty),.sl .full 1 [.sc (.int .i64 1),.sc (.int .i64 e.att)]]) _ _ (Ae 300 (o1++[Bk (C1 hy2)])) (by kernel_rfl) .body (.wn (.u (.r (.d (.r (.r .nil)) (AM.eq [(⟨1,e.att⟩:Dg)]).symm .nil)) .nil) (BI rfl (BI (AM.DH [(⟨1,e.att⟩:Dg)]) rfl)))
 subst hv
 intro h
 have hE:=Option.some.inj h
 subst hE
 exact A5 (v:=.Bc [.sc (.string ByteArray.empty),.sl .full 1 [.sc (.int .i64 1),.sc (.int .i64 e.att)]]) _ _ (Ae 300 o1) (by kernel_rfl) .body (.wn (.u (.r (.d (.r (.r .nil)) (AM.eq [(⟨1,e.att⟩:Dg)]).symm .nil)) .nil) (BI rfl (BI (AM.DH [(⟨1,e.att⟩:Dg)]) rfl)))
 intro h
 have hE:=Option.some.inj h
 subst hE
 exact A5 (v:=.Bc [.sc (.string ByteArray.empty),.sl .full 1 [.sc (.int .i64 1),.sc (.int .i64 e.att)]]) _ _ (Ae 300 [pn hb1]) (by kernel_rfl) .body (.wn (.u (.r (.d (.r (.r .nil)) (AM.eq [(⟨1,e.att⟩:Dg)]).symm .nil)) .nil) (BI rfl (BI (AM.DH [(⟨1,e.att⟩:Dg)]) rfl)))
noncomputable def tR:Code:=Bp Tryz.f15
theorem b15:Tryz.f15.body=some tR:=by kernel_rfl
noncomputable def DB  (b:(List Dg)) (i0:Nat) (e0:Dg) :Option (Lp Unit Unit Bool):=(b[i0]?).bind fun x1=>cond (K7 e0 x1) (some (.nx ())) (some (.rt false))
noncomputable def Cr  (a:(List Dg)) (b:(List Dg)):Option Bool:=cond (DM ((a.length:Nat):Int) ((b.length:Nat):Int)) ((IZ a.length (A2 (fun i y x=>DB  b i y ) (fun x=>()) (a.drop 0) 0 ())).bind (JA (fun (_:Unit)=>some true) (fun v=>some v))) (some false)
theorem DV   {a:(List Dg)} {b:(List Dg)} {yR:Bool} (h:Cr  a b=some yR):Pure P G 15 [.sl .lost a.length (rows CZ a),.sl .lost b.length (rows CZ b)] (.sc (.bool yR)):=by
 unfold Cr at h
 refine D0 Hd.mixed Hd.Ac (AZ Tryz.func15 b15 ?_) (BI (AM.DH a) (BI (AM.DH b) rfl)) rfl
 revert h
 refine Ai (fun hb1=>?_) fun hb1=>?_
 refine GM (fun Q v=>GJ P Tryz.f15 0 Q (.sc (.bool v))) (fun i0 (_:Unit) (j0:List Value)=>fr 26 [(0,.sl .lost a.length (rows CZ a)),(1,.sl .lost b.length (rows CZ b)),(5,.sc (.int .i64 ((i0:Nat):Int)))] [4,10,14,25] j0) (fun (_:Unit)=>⟨[],0,[],0⟩) (fun (_:Unit) (jx:List Value)=>fr 26 [] [4,10,14,25] jx) (fun (_:Unit)=>⟨[],0,[],0⟩) [.bool false,.bool false] (GC [] 0 (sb tR 116) [.code (sb tR 15)] (Ae 300 [pn hb1]) (by kernel_rfl)) ?_ ?_ ?_ (fun v h=>by cases h;exact .outer .body)
 rintro i0 ⟨⟩ j0 hge hq
 exact DQ (Ae 300 [pb (Mj hge)]) (by kernel_rfl) (hq (js 4 j0 [(2,.bool false)]))
 rintro i0 e0 ⟨⟩ j0 r he0 hi0 mi0 k
 show DB  b i0 e0 =some r→_
 unfold DB
 refine AD fun x1 hx1=>?_
 refine Ai (fun hb2=>?_) fun hb2=>?_
 rintro ⟨⟩
 exact KE (Ae 300 [pb (Jb hi0),Em (Xg .lost he0),Em (Xg .lost hx1),Sf (eA hb2 (.tmp 20) (.tmp 24)),pi mi0]) (by kernel_rfl) (k (js 4 j0 [(2,.bool true),(3,.bool false)]))
 rintro ⟨⟩
 exact A5 _ _ (Ae 300 [pb (Jb hi0),Em (Xg .lost he0),Em (Xg .lost hx1),Sf (eA hb2 (.tmp 20) (.tmp 24))]) (by kernel_rfl) (.I5 k) .sc
 rintro ⟨⟩ jx_2
 intro h
 have hE:=Option.some.inj h
 subst hE
 exact A5 _ _ (CX 300 []) (by kernel_rfl) .body .sc
 rintro ⟨⟩
 exact rS (Ae 300 [pn hb1]) (by kernel_rfl)
noncomputable def xH:Code:=Bp Tryz.f34
theorem yQ:Tryz.f34.body=some xH:=by kernel_rfl
noncomputable def Bd   (i0:Nat) (e0:Nd) (w5_m:(Mm ByteArray Bool)) (w2_m:(Mm Int Int)) (w0_0:(List Dg)) (w4_m:(Mm ByteArray Bool)):Option (Lp ((Mm ByteArray Bool)×(Mm Int Int)×(List Dg)×(Mm ByteArray Bool)) ((Mm ByteArray Bool)×(Mm Int Int)×(List Dg)×(Mm ByteArray Bool)) (Unit×(List Dg))):=cond (DM e0.kind 4) (some (.nx (w5_m,w2_m,w0_0,w4_m))) (cond (DM e0.kind 3) (cond ((w5_m.get e0.name).getD false) ((Aj 5 e0.att w0_0).bind fun (y1a,y1b)=>some (.nx ((w5_m.set e0.name true),(w2_m.set e0.kind (Bz ((w2_m.get e0.kind).getD 0) 1)),y1b,w4_m))) (cond (Fx 32 (((w2_m.set e0.kind (Bz ((w2_m.get e0.kind).getD 0) 1)).get e0.kind).getD 0)) ((Aj 2 e0.att w0_0).bind fun (y2a,y2b)=>some (.nx ((w5_m.set e0.name true),(w2_m.set e0.kind (Bz ((w2_m.get e0.kind).getD 0) 1)),y2b,w4_m))) (cond (Cc e0.unit.data.toList A8.data.toList) ((Aj 11 e0.att w0_0).bind fun (y3a,y3b)=>some (.nx ((w5_m.set e0.name true),(w2_m.set e0.kind (Bz ((w2_m.get e0.kind).getD 0) 1)),y3b,w4_m))) (cond (DM e0.n 4) (some (.nx ((w5_m.set e0.name true),(w2_m.set e0.kind (Bz ((w2_m.get e0.kind).getD 0) 1)),w0_0,w4_m))) ((C8 e0.unit).bind fun y4=>cond y4 (some (.nx ((w5_m.set e0.name true),(w2_m.set e0.kind (Bz ((w2_m.get e0.kind).getD 0) 1)),w0_0,w4_m))) ((Aj 11 e0.att w0_0).bind fun (y5a,y5b)=>some (.nx ((w5_m.set e0.name true),(w2_m.set e0.kind (Bz ((w2_m.get e0.kind).getD 0) 1)),y5b,w4_m)))))))) (cond (DM e0.kind 2) (cond ((w4_m.get e0.name).getD false) ((Aj 5 e0.att w0_0).bind fun (y6a,y6b)=>some (.nx (w5_m,(w2_m.set e0.kind (Bz ((w2_m.get e0.kind).getD 0) 1)),y6b,(w4_m.set e0.name true)))) (cond (Fx 32 (((w2_m.set e0.kind (Bz ((w2_m.get e0.kind).getD 0) 1)).get e0.kind).getD 0)) ((Aj 2 e0.att w0_0).bind fun (y7a,y7b)=>some (.nx (w5_m,(w2_m.set e0.kind (Bz ((w2_m.get e0.kind).getD 0) 1)),y7b,(w4_m.set e0.name true)))) (some (.nx (w5_m,(w2_m.set e0.kind (Bz ((w2_m.get e0.kind).getD 0) 1)),w0_0,(w4_m.set e0.name true)))))) (none)))
noncomputable def Bu  (source:Nd) (report:(List Dg)):Option (Unit×(List Dg)):=(IZ source.kids.length (A2 (fun i y x=>Bd   i y x.1 x.2.1 x.2.2.1 x.2.2.2) (fun x=>(x.1,x.2.1,x.2.2.1,x.2.2.2)) (source.kids.drop 0) 0 ((Mm.nil:Mm ByteArray Bool),(Mm.nil:Mm Int Int),report,(Mm.nil:Mm ByteArray Bool)))).bind (JA (fun ((w5_m_8,w2_m_8,w0_0_8,w4_m_8):((Mm ByteArray Bool)×(Mm Int Int)×(List Dg)×(Mm ByteArray Bool)))=>some ((),w0_0_8)) (fun v=>some v))
theorem Ga {source:Nd} {report:(List Dg)} {qreportR:(List Dg)} (hS:Sound P G (.call 34 [.agg (BP source),.fn (.func 54) [] [.ptr 0 0]] ⟨[(0,.cells [.sl (.row 0 2) report.length (rows CZ report)])],1,[(0,report.length)],1⟩ (.ret (.Bc [])) ⟨[(0,.cells [.sl (.row 0 2) qreportR.length (rows CZ qreportR)])],1,[(0,qreportR.length)],1⟩)) (u0 v0:Nat) (hnb:([u0]:List Nat).Nodup:=by decide) (hnt:([v0]:List Nat).Nodup:=by decide):Cd.ok P G (.callU 34 [.agg (BP source),.fn (.func 54) [] [.ptr u0 0]] (.ret (.Bc [])) [(u0,.cells [.sl (.row v0 2) report.length (rows CZ report)])] [(v0,report.length)] [(u0,.cells [.sl (.row v0 2) qreportR.length (rows CZ qreportR)])] [(v0,qreportR.length)]) :=
 D7 (M:=[.cells [.sl (.row 0 2) report.length (rows CZ report)]]) (M2:=[.cells [.sl (.row 0 2) qreportR.length (rows CZ qreportR)]]) (T:=[report.length]) (T2:=[qreportR.length]) (k:=1) (j:=1) Hd.Ac _ _ _ _ hS rfl rfl rfl rfl rfl hnb hnt rfl rfl (.cons (.cells (.cons (.row (by decide) (AM.BI report)) .nil)) .nil) (.cons (.cells (.cons (.row (by decide) (AM.BI qreportR)) .nil)) .nil) (.cons (.pl (Ay.Lc source)) (.cons (.fn (.pl rfl) (.cons (.ptr (by decide)) .nil)) .nil)) (.pl rfl) (fun e he=>by simp only [List.mem_singleton] at he;subst he;exact (.arg (.there (.here (.fn2 (.here .ptr))))))
theorem Fj   {source:Nd} {report:(List Dg)} {yR:Unit} {qreportR:(List Dg)} (h:Bu  source report=some (yR,qreportR)):Sound P G (.call 34 [.agg (BP source),.fn (.func 54) [] [.ptr 0 0]] ⟨[(0,.cells [.sl (.row 0 2) report.length (rows CZ report)])],1,[(0,report.length)],1⟩ (.ret (.Bc [])) ⟨[(0,.cells [.sl (.row 0 2) qreportR.length (rows CZ qreportR)])],1,[(0,qreportR.length)],1⟩):=by
 unfold Bu at h
 refine D5 Hd.mixed (AZ Tryz.func34 yQ ?_)
 revert h
 refine GM (fun Q v=>Hs P G Tryz.f34 1 ⟨[(0,.cells [.sl (.row 0 2) report.length (rows CZ report)])],1,[(0,report.length)],1⟩ Q (.Bc []) ⟨[(0,.cells [.sl (.row 0 2) v.2.length (rows CZ v.2)])],1,[(0,v.2.length)],1⟩) (fun i0 ((w5_m,w2_m,w0_0,w4_m):((Mm ByteArray Bool)×(Mm Int Int)×(List Dg)×(Mm ByteArray Bool))) (j0:List Value)=>fr 83 [(1,.fn (.func 54) [] [.ptr 0 0]),(4,.mp 2),(5,.mp 3),(15,.sl .lost source.kids.length (AW source.kids)),(16,.sc (.int .i64 ((source.kids.length:Nat):Int))),(17,.sc (.int .i64 ((i0:Nat):Int)))] [8,18,23,31,32,39,44,49,54,55,56,59,60,63,64,67,68,69,70,71] j0) (fun ((w5_m,w2_m,w0_0,w4_m):((Mm ByteArray Bool)×(Mm Int Int)×(List Dg)×(Mm ByteArray Bool)))=>⟨[(5,(P8 w5_m)),(4,(P8 w4_m)),(3,(.map [(.int .i64 2,.mp 4,0),(.int .i64 3,.mp 5,1)] 2)),(2,(RT w2_m)),(1,.cells (BP source)),(0,.cells [.sl (.row 0 2) w0_0.length (rows CZ w0_0)])],6,[(0,w0_0.length)],1⟩) (fun ((w5_m,w2_m,w0_0,w4_m):((Mm ByteArray Bool)×(Mm Int Int)×(List Dg)×(Mm ByteArray Bool))) (jx:List Value)=>fr 83 [] [8,18,23,31,32,39,44,49,54,55,56,59,60,63,64,67,68,69,70,71] jx) (fun ((w5_m,w2_m,w0_0,w4_m):((Mm ByteArray Bool)×(Mm Int Int)×(List Dg)×(Mm ByteArray Bool)))=>⟨[(5,(P8 w5_m)),(4,(P8 w4_m)),(3,(.map [(.int .i64 2,.mp 4,0),(.int .i64 3,.mp 5,1)] 2)),(2,(RT w2_m)),(1,.cells (BP source)),(0,.cells [.sl (.row 0 2) w0_0.length (rows CZ w0_0)])],6,[(0,w0_0.length)],1⟩) [] (GC [] 0 (sb xH 124) [] (Ae 300 []) (by kernel_rfl)) ?_ ?_ ?_ (fun v h=>by cases h;exact .outer .body)
 rintro i0 ⟨w5_m,w2_m,w0_0,w4_m⟩ j0 hge hq
 exact DQ (Ae 300 [pb (Mj hge)]) (by kernel_rfl) (hq (js 20 j0 [(1,.bool false)]))
 rintro i0 e0 ⟨w5_m,w2_m,w0_0,w4_m⟩ j0 r he0 hi0 mi0 k
 show Bd   i0 e0 w5_m w2_m w0_0 w4_m=some r→_
 unfold Bd
 let o1:List (PC P G):=[pb (Jb hi0),Em (DT .lost he0)]
 refine Ai (fun hb1=>?_) fun hb1=>?_
 rintro ⟨⟩
 exact BS Hd.Ac [fq (Ay.DH source.kids)] [EI w5_m,EI w4_m,bw (.map [(.int .i64 2,.mp 4,0),(.int .i64 3,.mp 5,1)] 2) (.map [(.int .i64 2,.mp 4,0),(.int .i64 3,.mp 5,1)] 2) (.under rfl),JC w2_m,bp (Ay.pl source),br AM 0 2 w0_0] (Ae 300 (o1++[pb hb1,pi mi0])) (by kernel_rfl) (k (js 20 j0 [(1,.bool true),(2,.bool true)]))
 let o2:List (PC P G):=o1++[pb hb1,IC (XL w2_m e0.kind),pk,UD (rP w2_m e0.kind (Bz ((w2_m.get e0.kind).getD 0) 1))]
 refine Ai (fun hb2=>?_) fun hb2=>?_
 let o3:List (PC P G):=o2++[pb hb2,IC (b:=(.map [(.int .i64 2,.mp 4,0),(.int .i64 3,.mp 5,1)] 2)) (Gn (z:=e0.kind) 3 (FE hb2) rfl)]
 refine Ai (fun hb3=>?_) fun hb3=>?_
 refine AD ?_
 rintro ⟨y1a,y1b⟩ hy1
 dsimp only
 rintro ⟨⟩
 exact BS Hd.Ac [fq (Ay.DH source.kids)] [EI (w5_m.set e0.name true),EI w4_m,bw (.map [(.int .i64 2,.mp 4,0),(.int .i64 3,.mp 5,1)] 2) (.map [(.int .i64 2,.mp 4,0),(.int .i64 3,.mp 5,1)] 2) (.under rfl),JC (w2_m.set e0.kind (Bz ((w2_m.get e0.kind).getD 0) 1)),bp (Ay.pl source),br AM 0 2 y1b] (Ae 300 (o3++[IC (PK w5_m e0.name hb3),AF (At (Ak hy1) 0 0),IC (b:=(.map [(.int .i64 2,.mp 4,0),(.int .i64 3,.mp 5,1)] 2)) (Gn (z:=e0.kind) 3 (FE hb2) rfl),UD (Kj w5_m e0.name true),pi mi0])) (by kernel_rfl) (k (js 20 j0 [(0,.bool true),(1,.bool true),(2,.bool false),(3,.bool true),(4,.bool true),(5,.bool true)]))
 let o4:List (PC P G):=o3++[IC (PK w5_m e0.name hb3),IC (XL (w2_m.set e0.kind (Bz ((w2_m.get e0.kind).getD 0) 1)) e0.kind)]
 refine Ai (fun hb4=>?_) fun hb4=>?_
 refine AD ?_
 rintro ⟨y2a,y2b⟩ hy2
 dsimp only
 rintro ⟨⟩
 exact BS Hd.Ac [fq (Ay.DH source.kids)] [EI (w5_m.set e0.name true),EI w4_m,bw (.map [(.int .i64 2,.mp 4,0),(.int .i64 3,.mp 5,1)] 2) (.map [(.int .i64 2,.mp 4,0),(.int .i64 3,.mp 5,1)] 2) (.under rfl),JC (w2_m.set e0.kind (Bz ((w2_m.get e0.kind).getD 0) 1)),bp (Ay.pl source),br AM 0 2 y2b] (Ae 300 (o4++[pb hb4,AF (At (Ak hy2) 0 0),IC (b:=(.map [(.int .i64 2,.mp 4,0),(.int .i64 3,.mp 5,1)] 2)) (Gn (z:=e0.kind) 3 (FE hb2) rfl),UD (Kj w5_m e0.name true),pi mi0])) (by kernel_rfl) (k (js 20 j0 [(0,.bool true),(1,.bool true),(2,.bool false),(3,.bool true),(4,.bool false),(5,.bool false),(6,.bool true),(7,.bool true)]))
 refine Ai (fun hb5=>?_) fun hb5=>?_
 refine AD ?_
 rintro ⟨y3a,y3b⟩ hy3
 dsimp only
 rintro ⟨⟩
 exact BS Hd.Ac [fq (Ay.DH source.kids)] [EI (w5_m.set e0.name true),EI w4_m,bw (.map [(.int .i64 2,.mp 4,0),(.int .i64 3,.mp 5,1)] 2) (.map [(.int .i64 2,.mp 4,0),(.int .i64 3,.mp 5,1)] 2) (.under rfl),JC (w2_m.set e0.kind (Bz ((w2_m.get e0.kind).getD 0) 1)),bp (Ay.pl source),br AM 0 2 y3b] (Ae 300 (o4++[pb hb4,pb hb5,AF (At (Ak hy3) 0 0),IC (b:=(.map [(.int .i64 2,.mp 4,0),(.int .i64 3,.mp 5,1)] 2)) (Gn (z:=e0.kind) 3 (FE hb2) rfl),UD (Kj w5_m e0.name true),pi mi0])) (by kernel_rfl) (k [.bool true,.bool true,.bool false,.bool true,.bool false,.bool false,.bool false,.bool false,.bool true,.bool true,.bool true,.bool true,.bool true,undef,undef,undef,undef,undef,.bool true,.bool true])
 refine Ai (fun hb6=>?_) fun hb6=>?_
 rintro ⟨⟩
 exact BS Hd.Ac [fq (Ay.DH source.kids)] [EI (w5_m.set e0.name true),EI w4_m,bw (.map [(.int .i64 2,.mp 4,0),(.int .i64 3,.mp 5,1)] 2) (.map [(.int .i64 2,.mp 4,0),(.int .i64 3,.mp 5,1)] 2) (.under rfl),JC (w2_m.set e0.kind (Bz ((w2_m.get e0.kind).getD 0) 1)),bp (Ay.pl source),br AM 0 2 w0_0] (Ae 300 (o4++[pb hb4,pb hb5,pn hb6,IC (b:=(.map [(.int .i64 2,.mp 4,0),(.int .i64 3,.mp 5,1)] 2)) (Gn (z:=e0.kind) 3 (FE hb2) rfl),UD (Kj w5_m e0.name true),pi mi0])) (by kernel_rfl) (k [.bool true,.bool true,.bool false,.bool true,.bool false,.bool false,.bool false,.bool false,.bool false,.bool true,.bool true,.bool false,.bool false,.bool false,.bool false,undef,undef,.bool false,.bool false,.bool false])
 refine AD fun y4 hy4=>?_
 refine Ai (fun hv=>?_) fun hv=>?_
 subst hv
 rintro ⟨⟩
 exact BS Hd.Ac [fq (Ay.DH source.kids)] [EI (w5_m.set e0.name true),EI w4_m,bw (.map [(.int .i64 2,.mp 4,0),(.int .i64 3,.mp 5,1)] 2) (.map [(.int .i64 2,.mp 4,0),(.int .i64 3,.mp 5,1)] 2) (.under rfl),JC (w2_m.set e0.kind (Bz ((w2_m.get e0.kind).getD 0) 1)),bp (Ay.pl source),br AM 0 2 w0_0] (Ae 300 (o4++[pb hb4,pb hb5,pn hb6,Bk (Df hy4),IC (b:=(.map [(.int .i64 2,.mp 4,0),(.int .i64 3,.mp 5,1)] 2)) (Gn (z:=e0.kind) 3 (FE hb2) rfl),UD (Kj w5_m e0.name true),pi mi0])) (by kernel_rfl) (k [.bool true,.bool true,.bool false,.bool true,.bool false,.bool false,.bool false,.bool false,.bool false,.bool true,.bool true,.bool false,.bool false,.bool true,.bool true,.bool true,.bool false,.bool false,.bool false,.bool false])
 subst hv
 refine AD ?_
 rintro ⟨y5a,y5b⟩ hy5
 dsimp only
 rintro ⟨⟩
 exact BS Hd.Ac [fq (Ay.DH source.kids)] [EI (w5_m.set e0.name true),EI w4_m,bw (.map [(.int .i64 2,.mp 4,0),(.int .i64 3,.mp 5,1)] 2) (.map [(.int .i64 2,.mp 4,0),(.int .i64 3,.mp 5,1)] 2) (.under rfl),JC (w2_m.set e0.kind (Bz ((w2_m.get e0.kind).getD 0) 1)),bp (Ay.pl source),br AM 0 2 y5b] (Ae 300 (o4++[pb hb4,pb hb5,pn hb6,Bk (Df hy4),AF (At (Ak hy5) 0 0),IC (b:=(.map [(.int .i64 2,.mp 4,0),(.int .i64 3,.mp 5,1)] 2)) (Gn (z:=e0.kind) 3 (FE hb2) rfl),UD (Kj w5_m e0.name true),pi mi0])) (by kernel_rfl) (k [.bool true,.bool true,.bool false,.bool true,.bool false,.bool false,.bool false,.bool false,.bool true,.bool true,.bool true,.bool false,.bool false,.bool true,.bool true,.bool false,.bool true,.bool true,.bool true,.bool true])
 refine Ai (fun hb7=>?_) fun hb7=>?_
 let o5:List (PC P G):=o2++[pb hb2,IC (b:=(.map [(.int .i64 2,.mp 4,0),(.int .i64 3,.mp 5,1)] 2)) (Gn (z:=e0.kind) 2 (FE hb7) rfl)]
 refine Ai (fun hb8=>?_) fun hb8=>?_
 refine AD ?_
 rintro ⟨y6a,y6b⟩ hy6
 dsimp only
 rintro ⟨⟩
 exact BS Hd.Ac [fq (Ay.DH source.kids)] [EI w5_m,EI (w4_m.set e0.name true),bw (.map [(.int .i64 2,.mp 4,0),(.int .i64 3,.mp 5,1)] 2) (.map [(.int .i64 2,.mp 4,0),(.int .i64 3,.mp 5,1)] 2) (.under rfl),JC (w2_m.set e0.kind (Bz ((w2_m.get e0.kind).getD 0) 1)),bp (Ay.pl source),br AM 0 2 y6b] (Ae 300 (o5++[IC (PK w4_m e0.name hb8),AF (At (Ak hy6) 0 0),IC (b:=(.map [(.int .i64 2,.mp 4,0),(.int .i64 3,.mp 5,1)] 2)) (Gn (z:=e0.kind) 2 (FE hb7) rfl),UD (Kj w4_m e0.name true),pi mi0])) (by kernel_rfl) (k (js 20 j0 [(0,.bool false),(1,.bool true),(2,.bool false),(3,.bool false),(4,.bool true),(5,.bool true)]))
 let o6:List (PC P G):=o5++[IC (PK w4_m e0.name hb8),IC (XL (w2_m.set e0.kind (Bz ((w2_m.get e0.kind).getD 0) 1)) e0.kind)]
 refine Ai (fun hb9=>?_) fun hb9=>?_
 refine AD ?_
 rintro ⟨y7a,y7b⟩ hy7
 dsimp only
 rintro ⟨⟩
 exact BS Hd.Ac [fq (Ay.DH source.kids)] [EI w5_m,EI (w4_m.set e0.name true),bw (.map [(.int .i64 2,.mp 4,0),(.int .i64 3,.mp 5,1)] 2) (.map [(.int .i64 2,.mp 4,0),(.int .i64 3,.mp 5,1)] 2) (.under rfl),JC (w2_m.set e0.kind (Bz ((w2_m.get e0.kind).getD 0) 1)),bp (Ay.pl source),br AM 0 2 y7b] (Ae 300 (o6++[pb hb9,AF (At (Ak hy7) 0 0),IC (b:=(.map [(.int .i64 2,.mp 4,0),(.int .i64 3,.mp 5,1)] 2)) (Gn (z:=e0.kind) 2 (FE hb7) rfl),UD (Kj w4_m e0.name true),pi mi0])) (by kernel_rfl) (k (js 20 j0 [(0,.bool false),(1,.bool true),(2,.bool false),(3,.bool false),(4,.bool false),(5,.bool false),(6,.bool true),(7,.bool true)]))
 rintro ⟨⟩
 exact BS Hd.Ac [fq (Ay.DH source.kids)] [EI w5_m,EI (w4_m.set e0.name true),bw (.map [(.int .i64 2,.mp 4,0),(.int .i64 3,.mp 5,1)] 2) (.map [(.int .i64 2,.mp 4,0),(.int .i64 3,.mp 5,1)] 2) (.under rfl),JC (w2_m.set e0.kind (Bz ((w2_m.get e0.kind).getD 0) 1)),bp (Ay.pl source),br AM 0 2 w0_0] (Ae 300 (o6++[pb hb9,IC (b:=(.map [(.int .i64 2,.mp 4,0),(.int .i64 3,.mp 5,1)] 2)) (Gn (z:=e0.kind) 2 (FE hb7) rfl),UD (Kj w4_m e0.name true),pi mi0])) (by kernel_rfl) (k [.bool false,.bool true,.bool false,.bool false,.bool false,.bool false,.bool false,.bool false,.bool false,.bool false,.bool false,undef,undef,undef,undef,undef,undef,undef,undef,.bool false])
 exact pJ
 rintro ⟨w5_m_8,w2_m_8,w0_0_8,w4_m_8⟩ jx_8
 dsimp only
 intro h
 have hE:=Option.some.inj h
 obtain ⟨hE0,hF0⟩:=Prod.mk.inj hE
 subst hE0 hF0
 exact IQ Hd.Ac _ _ [⟨.Bc [],.Bc [],(.plain rfl)⟩] [br AM 0 2 w0_0_8] (CX 300 []) (by kernel_rfl)
noncomputable def sW:Code:=Bp Tryz.f35
theorem zP:Tryz.f35.body=some sW:=by kernel_rfl
noncomputable def Be  (s:Sc) (CG:Nd) (i0:Nat) (e0:Nd) (w3_0:(List Dg)):Option (Lp (List Dg) (List Dg) (Unit×(List Dg))):=cond (DM e0.n CG.n) ((Aj 101 e0.att w3_0).bind fun (y7a,y7b)=>some (.nx y7b)) (cond ((s.Af.get e0.n).isSome) (some (.nx w3_0)) ((Aj 91 e0.att w3_0).bind fun (y8a,y8b)=>some (.nx y8b)))
noncomputable def AK  (s:Sc) (CG:Nd) (clause:Nd) (report:(List Dg)):Option (Unit×(List Dg)):=cond (DM clause.kind 7) ((IZ clause.kids.length (A2 (fun i y x=>Be  s CG i y x) (fun x=>x) (clause.kids.drop 0) 0 report)).bind (JA (fun (w3_0_9:(List Dg))=>some ((),w3_0_9)) (fun v=>some v))) (cond (DM clause.kind 6) ((clause.kids[0]?).bind fun x1=>(Cf s x1 report).bind fun (y2a,y2b)=>cond (Cc y2a.data.toList ByteArray.empty.data.toList) (some ((),y2b)) (cond (Cc A8.data.toList ByteArray.empty.data.toList) (some ((),y2b)) (cond (Cc y2a.data.toList A8.data.toList) (some ((),y2b)) ((Aj 11 x1.att y2b).bind fun (y3a,y3b)=>some ((),y3b))))) ((clause.kids[0]?).bind fun x4=>(Cf s x4 report).bind fun (y5a,y5b)=>cond (Cc y5a.data.toList ByteArray.empty.data.toList) (some ((),y5b)) (cond (Cc ((s.lines.get CG.name).getD ByteArray.empty).data.toList ByteArray.empty.data.toList) (some ((),y5b)) (cond (Cc y5a.data.toList ((s.lines.get CG.name).getD ByteArray.empty).data.toList) (some ((),y5b)) ((Aj 11 x4.att y5b).bind fun (y6a,y6b)=>some ((),y6b))))))
theorem Bv {s:Sc} {CG:Nd} {clause:Nd} {report:(List Dg)} {qreportR:(List Dg)} (hS:Sound P G (.call 35 [.agg [.mp 0,.mp 1,.mp 2],.agg (BP CG),.agg (BP clause),.fn (.func 54) [] [.ptr 3 0]] ⟨[(3,.cells [.sl (.row 0 2) report.length (rows CZ report)]),(2,(B7 s.Af)),(1,(AU s.lines)),(0,(AU s.facts))],4,[(0,report.length)],1⟩ (.ret (.Bc [])) ⟨[(3,.cells [.sl (.row 0 2) qreportR.length (rows CZ qreportR)]),(2,(B7 s.Af)),(1,(AU s.lines)),(0,(AU s.facts))],4,[(0,qreportR.length)],1⟩)) (u0 u1 u2 u3 v0:Nat) (hnb:([u0,u1,u2,u3]:List Nat).Nodup:=by decide) (hnt:([v0]:List Nat).Nodup:=by decide):Cd.ok P G (.callU 35 [.agg [.mp u0,.mp u1,.mp u2],.agg (BP CG),.agg (BP clause),.fn (.func 54) [] [.ptr u3 0]] (.ret (.Bc [])) [(u0,(AU s.facts)),(u1,(AU s.lines)),(u2,(B7 s.Af)),(u3,.cells [.sl (.row v0 2) report.length (rows CZ report)])] [(v0,report.length)] [(u0,(AU s.facts)),(u1,(AU s.lines)),(u2,(B7 s.Af)),(u3,.cells [.sl (.row v0 2) qreportR.length (rows CZ qreportR)])] [(v0,qreportR.length)]) :=
 D7 (M:=[(AU s.facts),(AU s.lines),(B7 s.Af),.cells [.sl (.row 0 2) report.length (rows CZ report)]]) (M2:=[(AU s.facts),(AU s.lines),(B7 s.Af),.cells [.sl (.row 0 2) qreportR.length (rows CZ qreportR)]]) (T:=[report.length]) (T2:=[qreportR.length]) (k:=4) (j:=1) Hd.Ac _ _ _ _ hS rfl rfl rfl rfl rfl hnb hnt rfl rfl (.cons (Gl (fun _=>rfl)) (.cons (Gl (fun _=>rfl)) (.cons (Gl (fun _=>rfl)) (.cons (.cells (.cons (.row (by decide) (AM.BI report)) .nil)) .nil)))) (.cons (Gl (fun _=>rfl)) (.cons (Gl (fun _=>rfl)) (.cons (Gl (fun _=>rfl)) (.cons (.cells (.cons (.row (by decide) (AM.BI qreportR)) .nil)) .nil)))) (.cons (.agg (.cons (.mp (by decide)) (.cons (.mp (by decide)) (.cons (.mp (by decide)) .nil)))) (.cons (.pl (Ay.Lc CG)) (.cons (.pl (Ay.Lc clause)) (.cons (.fn (.pl rfl) (.cons (.ptr (by decide)) .nil)) .nil)))) (.pl rfl) (by
   intro e he
   simp only [List.mem_cons,List.not_mem_nil,or_false] at he
   rcases he with rfl | rfl | rfl | rfl
   · exact (.arg (.here (.agg (.here .mp))))
   · exact (.arg (.here (.agg (.there (.here .mp)))))
   · exact (.arg (.here (.agg (.there (.there (.here .mp))))))
   · exact (.arg (.there (.there (.there (.here (.fn2 (.here .ptr)))))))
   )
theorem Bh   {s:Sc} {CG:Nd} {clause:Nd} {report:(List Dg)} {yR:Unit} {qreportR:(List Dg)} (h:AK  s CG clause report=some (yR,qreportR)):Sound P G (.call 35 [.agg [.mp 0,.mp 1,.mp 2],.agg (BP CG),.agg (BP clause),.fn (.func 54) [] [.ptr 3 0]] ⟨[(3,.cells [.sl (.row 0 2) report.length (rows CZ report)]),(2,(B7 s.Af)),(1,(AU s.lines)),(0,(AU s.facts))],4,[(0,report.length)],1⟩ (.ret (.Bc [])) ⟨[(3,.cells [.sl (.row 0 2) qreportR.length (rows CZ qreportR)]),(2,(B7 s.Af)),(1,(AU s.lines)),(0,(AU s.facts))],4,[(0,qreportR.length)],1⟩):=by
 unfold AK at h
 refine D5 Hd.mixed (AZ Tryz.func35 zP ?_)
 revert h
 refine Ai (fun hb1=>?_) fun hb1=>?_
 refine GM (fun Q v=>Hs P G Tryz.f35 4 ⟨[(3,.cells [.sl (.row 0 2) report.length (rows CZ report)]),(2,(B7 s.Af)),(1,(AU s.lines)),(0,(AU s.facts))],4,[(0,report.length)],1⟩ Q (.Bc []) ⟨[(3,.cells [.sl (.row 0 2) v.2.length (rows CZ v.2)]),(2,(B7 s.Af)),(1,(AU s.lines)),(0,(AU s.facts))],4,[(0,v.2.length)],1⟩) (fun i0 (w3_0:(List Dg)) (j0:List Value)=>fr 80 [(3,.fn (.func 54) [] [.ptr 3 0]),(4,.ptr 4 0),(5,.ptr 5 0),(19,.sl .lost clause.kids.length (AW clause.kids)),(20,.sc (.int .i64 ((clause.kids.length:Nat):Int))),(21,.sc (.int .i64 ((i0:Nat):Int)))] [11,17,22,29,41,42,43,56,66,67,69,70,71,74,75] j0) (fun (w3_0:(List Dg))=>⟨[(6,.cells (BP clause)),(5,.cells (BP CG)),(4,.cells [.mp 0,.mp 1,.mp 2]),(3,.cells [.sl (.row 0 2) w3_0.length (rows CZ w3_0)]),(2,(B7 s.Af)),(1,(AU s.lines)),(0,(AU s.facts))],7,[(0,w3_0.length)],1⟩) (fun (w3_0:(List Dg)) (jx:List Value)=>fr 80 [] [11,17,22,29,41,42,43,56,66,67,69,70,71,74,75] jx) (fun (w3_0:(List Dg))=>⟨[(6,.cells (BP clause)),(5,.cells (BP CG)),(4,.cells [.mp 0,.mp 1,.mp 2]),(3,.cells [.sl (.row 0 2) w3_0.length (rows CZ w3_0)]),(2,(B7 s.Af)),(1,(AU s.lines)),(0,(AU s.facts))],7,[(0,w3_0.length)],1⟩) [undef,.bool true] (GC [] 0 (sb sW 420) [.code (sb sW 53),.code (sb sW 7)] (Ae 300 [pb hb1]) (by kernel_rfl)) ?_ ?_ ?_ (fun v h=>by cases h;exact .outer .body)
 rintro i0 w3_0 j0 hge hq
 exact DQ (Ae 300 [pb (Mj hge)]) (by kernel_rfl) (hq (js 15 j0 [(2,.bool false)]))
 rintro i0 e0 w3_0 j0 r he0 hi0 mi0 k
 show Be  s CG i0 e0 w3_0=some r→_
 unfold Be
 refine Ai (fun hb9=>?_) fun hb9=>?_
 refine AD ?_
 rintro ⟨y7a,y7b⟩ hy7
 dsimp only
 rintro ⟨⟩
 exact BS Hd.Ac [fq (Ay.DH clause.kids)] [bp (Ay.pl clause),bp (Ay.pl CG),none,br AM 0 2 y7b,Bm s.Af,AJ s.lines,AJ s.facts] (Ae 300 [pb (Jb hi0),Em (DT .lost he0),pb hb9,AF (At (Ak hy7) 3 0),pi mi0]) (by kernel_rfl) (k (js 15 j0 [(2,.bool true),(3,.bool true)]))
 refine Ai (fun hb10=>?_) fun hb10=>?_
 rintro ⟨⟩
 exact BS Hd.Ac [fq (Ay.DH clause.kids)] [bp (Ay.pl clause),bp (Ay.pl CG),none,br AM 0 2 w3_0,Bm s.Af,AJ s.lines,AJ s.facts] (Ae 300 [pb (Jb hi0),Em (DT .lost he0),pb hb9,IC (Uf s.Af e0.n hb10),pi mi0]) (by kernel_rfl) (k (js 15 j0 [(0,.bool true),(2,.bool true),(3,.bool false),(4,.bool true),(5,.bool true),(6,.bool false)]))
 refine AD ?_
 rintro ⟨y8a,y8b⟩ hy8
 dsimp only
 rintro ⟨⟩
 exact BS Hd.Ac [fq (Ay.DH clause.kids)] [bp (Ay.pl clause),bp (Ay.pl CG),none,br AM 0 2 y8b,Bm s.Af,AJ s.lines,AJ s.facts] (Ae 300 [pb (Jb hi0),Em (DT .lost he0),pb hb9,IC (Uf s.Af e0.n hb10),AF (At (Ak hy8) 3 0),pi mi0]) (by kernel_rfl) (k (js 15 j0 [(0,.bool false),(2,.bool true),(3,.bool false),(4,.bool false),(5,.bool false),(6,.bool true)]))
 rintro w3_0_9 jx_9
 intro h
 have hE:=Option.some.inj h
 obtain ⟨hE0,hF0⟩:=Prod.mk.inj hE
 subst hE0 hF0
 exact Am Hd.Ac _ _ [⟨.Bc [],.Bc [],(.plain rfl)⟩] [br AM 0 2 w3_0_9,Bm s.Af,AJ s.lines,AJ s.facts] (CX 300 []) (by kernel_rfl) .body
 let o1:List (PC P G):=[pb hb1,IC (Y5 s.lines CG.name)]
 refine Ai (fun hb2=>?_) fun hb2=>?_
 refine AD fun x1 hx1=>?_
 refine AD ?_
 rintro ⟨y2a,y2b⟩ hy2
 dsimp only
 let o2:List (PC P G):=o1++[pb hb2,Em (DT .lost hx1),AF (CQ (DD hy2) 0 1 2 3 0)]
 refine Ai (fun hb3=>?_) fun hb3=>?_
 intro h
 have hE:=Option.some.inj h
 obtain ⟨hE0,hF0⟩:=Prod.mk.inj hE
 subst hE0 hF0
 exact IQ Hd.Ac _ _ [⟨.Bc [],.Bc [],(.plain rfl)⟩] [br AM 0 2 y2b,Bm s.Af,AJ s.lines,AJ s.facts] (Ae 300 (o2++[pn hb3])) (by kernel_rfl)
 refine Ai (fun hb4=>?_) fun hb4=>?_
 intro h
 have hE:=Option.some.inj h
 obtain ⟨hE0,hF0⟩:=Prod.mk.inj hE
 subst hE0 hF0
 exact IQ Hd.Ac _ _ [⟨.Bc [],.Bc [],(.plain rfl)⟩] [br AM 0 2 y2b,Bm s.Af,AJ s.lines,AJ s.facts] (Ae 300 (o2++[pn hb3,pn hb4])) (by kernel_rfl)
 refine Ai (fun hb5=>?_) fun hb5=>?_
 intro h
 have hE:=Option.some.inj h
 obtain ⟨hE0,hF0⟩:=Prod.mk.inj hE
 subst hE0 hF0
 exact IQ Hd.Ac _ _ [⟨.Bc [],.Bc [],(.plain rfl)⟩] [br AM 0 2 y2b,Bm s.Af,AJ s.lines,AJ s.facts] (Ae 300 (o2++[pn hb3,pn hb4,pn hb5])) (by kernel_rfl)
 refine AD ?_
 rintro ⟨y3a,y3b⟩ hy3
 dsimp only
 intro h
 have hE:=Option.some.inj h
 obtain ⟨hE0,hF0⟩:=Prod.mk.inj hE
 subst hE0 hF0
 exact IQ Hd.Ac _ _ [⟨.Bc [],.Bc [],(.plain rfl)⟩] [br AM 0 2 y3b,Bm s.Af,AJ s.lines,AJ s.facts] (Ae 300 (o2++[pn hb3,pn hb4,pn hb5,AF (At (Ak hy3) 3 0)])) (by kernel_rfl)
 refine AD fun x4 hx4=>?_
 refine AD ?_
 rintro ⟨y5a,y5b⟩ hy5
 dsimp only
 let o3:List (PC P G):=o1++[pb hb2,Em (DT .lost hx4),AF (CQ (DD hy5) 0 1 2 3 0)]
 refine Ai (fun hb6=>?_) fun hb6=>?_
 intro h
 have hE:=Option.some.inj h
 obtain ⟨hE0,hF0⟩:=Prod.mk.inj hE
 subst hE0 hF0
 exact IQ Hd.Ac _ _ [⟨.Bc [],.Bc [],(.plain rfl)⟩] [br AM 0 2 y5b,Bm s.Af,AJ s.lines,AJ s.facts] (Ae 300 (o3++[pn hb6])) (by kernel_rfl)
 refine Ai (fun hb7=>?_) fun hb7=>?_
 intro h
 have hE:=Option.some.inj h
 obtain ⟨hE0,hF0⟩:=Prod.mk.inj hE
 subst hE0 hF0
 exact IQ Hd.Ac _ _ [⟨.Bc [],.Bc [],(.plain rfl)⟩] [br AM 0 2 y5b,Bm s.Af,AJ s.lines,AJ s.facts] (Ae 300 (o3++[pn hb6,pn hb7])) (by kernel_rfl)
 refine Ai (fun hb8=>?_) fun hb8=>?_
 intro h
 have hE:=Option.some.inj h
 obtain ⟨hE0,hF0⟩:=Prod.mk.inj hE
 subst hE0 hF0
 exact IQ Hd.Ac _ _ [⟨.Bc [],.Bc [],(.plain rfl)⟩] [br AM 0 2 y5b,Bm s.Af,AJ s.lines,AJ s.facts] (Ae 300 (o3++[pn hb6,pn hb7,pn hb8])) (by kernel_rfl)
 refine AD ?_
 rintro ⟨y6a,y6b⟩ hy6
 dsimp only
 intro h
 have hE:=Option.some.inj h
 obtain ⟨hE0,hF0⟩:=Prod.mk.inj hE
 subst hE0 hF0
 exact IQ Hd.Ac _ _ [⟨.Bc [],.Bc [],(.plain rfl)⟩] [br AM 0 2 y6b,Bm s.Af,AJ s.lines,AJ s.facts] (Ae 300 (o3++[pn hb6,pn hb7,pn hb8,AF (At (Ak hy6) 3 0)])) (by kernel_rfl)
noncomputable def U3:Code:=Bp Tryz.f16
theorem zT:Tryz.f16.body=some U3:=by kernel_rfl
noncomputable def E7  (y3:Sc) (e0:Nd) (i1:Nat) (e1:Nd) (w1_0:(List Dg)):Option (Lp (List Dg) (List Dg) (List Dg)):=(AK y3 e0 e1 w1_0).bind fun (y14a,y14b)=>some (.nx y14b)
noncomputable def EX  (y3:Sc) (e0:Nd) (i2:Nat) (e2:Nd) (w1_0:(List Dg)):Option (Lp (List Dg) (List Dg) (List Dg)):=(AK y3 e0 e2 w1_0).bind fun (y16a,y16b)=>some (.nx y16b)
noncomputable def EO  (y3:Sc) (e0:Nd) (i3:Nat) (e3:Nd) (w1_0:(List Dg)):Option (Lp (List Dg) (List Dg) (List Dg)):=(AK y3 e0 e3 w1_0).bind fun (y18a,y18b)=>some (.nx y18b)
noncomputable def ET  (y3:Sc) (e0:Nd) (i4:Nat) (e4:Nd) (w1_0:(List Dg)):Option (Lp (List Dg) (List Dg) (List Dg)):=(AK y3 e0 e4 w1_0).bind fun (y20a,y20b)=>some (.nx y20b)
noncomputable def EQ  (y3:Sc) (e0:Nd) (i5:Nat) (e5:Nd) (w1_0:(List Dg)):Option (Lp (List Dg) (List Dg) (List Dg)):=(AK y3 e0 e5 w1_0).bind fun (y22a,y22b)=>some (.nx y22b)
noncomputable def Dj  (y3:Sc) (i0:Nat) (e0:Nd) (count6:Int) (w1_0:(List Dg)):Option (Lp (Int×(List Dg)) (List Dg) (List Dg)):=cond (DM e0.kind 4) (cond ((y3.lines.get e0.name).isSome) (cond (Fx 60 (Bz count6 1)) ((Aj 2 e0.att w1_0).bind fun (y5a,y5b)=>(LS e0.kids 1 ((e0.kids.length:Nat):Int)).bind fun l6=>(IZ l6.length (A2 (fun i y x=>E7  y3 e0 i y x) (fun x=>x) (l6.drop 0) 0 y5b)).bind (JA (fun (w1_0_15:(List Dg))=>some (.nx ((Bz count6 1),w1_0_15))) (fun v=>some (.rt v)))) (cond (Cc ((y3.Af.get e0.n).getD ByteArray.empty).data.toList e0.name.data.toList) ((LS e0.kids 1 ((e0.kids.length:Nat):Int)).bind fun l7=>(IZ l7.length (A2 (fun i y x=>EX  y3 e0 i y x) (fun x=>x) (l7.drop 0) 0 w1_0)).bind (JA (fun (w1_0_17:(List Dg))=>some (.nx ((Bz count6 1),w1_0_17))) (fun v=>some (.rt v)))) ((Aj 101 e0.att w1_0).bind fun (y8a,y8b)=>(LS e0.kids 1 ((e0.kids.length:Nat):Int)).bind fun l9=>(IZ l9.length (A2 (fun i y x=>EO  y3 e0 i y x) (fun x=>x) (l9.drop 0) 0 y8b)).bind (JA (fun (w1_0_19:(List Dg))=>some (.nx ((Bz count6 1),w1_0_19))) (fun v=>some (.rt v)))))) (cond (Fx 60 (Bz count6 1)) ((Aj 2 e0.att w1_0).bind fun (y10a,y10b)=>(LS e0.kids 1 ((e0.kids.length:Nat):Int)).bind fun l11=>(IZ l11.length (A2 (fun i y x=>ET  y3 e0 i y x) (fun x=>x) (l11.drop 0) 0 y10b)).bind (JA (fun (w1_0_21:(List Dg))=>some (.nx ((Bz count6 1),w1_0_21))) (fun v=>some (.rt v)))) ((Aj 91 e0.att w1_0).bind fun (y12a,y12b)=>(LS e0.kids 1 ((e0.kids.length:Nat):Int)).bind fun l13=>(IZ l13.length (A2 (fun i y x=>EQ  y3 e0 i y x) (fun x=>x) (l13.drop 0) 0 y12b)).bind (JA (fun (w1_0_23:(List Dg))=>some (.nx ((Bz count6 1),w1_0_23))) (fun v=>some (.rt v)))))) (some (.nx (count6,w1_0)))
noncomputable def DJ  (source:Nd):Option (List Dg):=cond (DM source.kind 1) ((CN source).bind fun y1=>cond y1 ((Cv).bind fun y2=>(CJ source).bind fun y3=>(Bu source []).bind fun (y4a,y4b)=>(IZ source.kids.length (A2 (fun i y x=>Dj  y3 i y x.1 x.2) (fun x=>x.2) (source.kids.drop 0) 0 (0,y4b))).bind (JA (fun (w1_0_24:(List Dg))=>some w1_0_24) (fun v=>some v))) (some [(⟨1,0⟩:Dg)])) (some [(⟨1,0⟩:Dg)])
theorem Hk   {source:Nd} {yR:(List Dg)} (h:DJ  source=some yR):Pure P G 16 [.agg (BP source)] (.sl .lost yR.length (rows CZ yR)):=by
 unfold DJ at h
 refine D0 Hd.mixed Hd.Ac (AZ Tryz.func16 zT ?_) (BI (Ay.Lc source) rfl) (AM.DH yR)
 revert h
 refine Ai (fun hb1=>?_) fun hb1=>?_
 refine AD fun y1 hy1=>?_
 refine Ai (fun hv=>?_) fun hv=>?_
 subst hv
 refine AD fun y2 hy2=>?_
 refine AD fun y3 hy3=>?_
 refine AD ?_
 rintro ⟨y4a,y4b⟩ hy4
 dsimp only
 refine GM (fun Q v=>GJ P Tryz.f16 0 Q (.sl .lost v.length (rows CZ v))) (fun i0 ((count6,w1_0):(Int×(List Dg))) (j0:List Value)=>fr 97 [(3,.ptr 1 0),(4,.fn (.func 54) [] [.ptr 1 0]),(5,.ptr 7 0),(6,.sc (.int .i64 count6)),(33,.sl .lost source.kids.length (AW source.kids)),(34,.sc (.int .i64 ((source.kids.length:Nat):Int))),(35,.sc (.int .i64 ((i0:Nat):Int)))] [10,15,16,18,19,20,36,41,51,52,54,59,60,61,66,74,84] j0) (fun ((count6,w1_0):(Int×(List Dg)))=>⟨[(7,.cells [.mp 4,.mp 5,.mp 6]),(6,(B7 y3.Af)),(5,(AU y3.lines)),(4,(AU y3.facts)),(1,.cells [.sl (.row 0 2) w1_0.length (rows CZ w1_0)]),(0,.cells (BP source))],8,[(0,w1_0.length)],1⟩) (fun (w1_0:(List Dg)) (jx:List Value)=>fr 97 [(3,.ptr 1 0)] [10,15,16,18,19,20,36,41,51,52,54,59,60,61,66,74,84] jx) (fun (w1_0:(List Dg))=>⟨[(7,.cells [.mp 4,.mp 5,.mp 6]),(6,(B7 y3.Af)),(5,(AU y3.lines)),(4,(AU y3.facts)),(1,.cells [.sl (.row 0 2) w1_0.length (rows CZ w1_0)]),(0,.cells (BP source))],8,[(0,w1_0.length)],1⟩) [undef,.bool false,.bool false,.bool true,.bool false,.bool false] (GC [] 0 (sb U3 2036) [.code (sb U3 255)] (Ae 300 [pn hb1,Bk (C1 hy1),Nb (v:=.Bc [.ptr 1 0,.fn (.func 54) [] [.ptr 1 0]]) (h:=[(1,.cells [.sl .full 0 []])] ) (F:=[]) (GP (FF hy2) 1 0),Nb (v:=.agg [.mp 4,.mp 5,.mp 6]) (h:=[(6,(B7 y3.Af)),(5,(AU y3.lines)),(4,(AU y3.facts))] ) (F:=[]) (Hh (F4 hy3) 2 0),xU [.b 1 0 2],AF (Ga (Fj hy4) 1 0)]) (by kernel_rfl)) ?_ ?_ ?_ (fun v h=>by cases h;exact .outer .body)
 rintro i0 ⟨count6,w1_0⟩ j0 hge hq
 exact DQ (Ae 300 [pb (Mj hge)]) (by kernel_rfl) (hq (js 17 j0 [(6,.bool false)]))
 rintro i0 e0 ⟨count6,w1_0⟩ j0 r he0 hi0 mi0 k
 show Dj  y3 i0 e0 count6 w1_0=some r→_
 unfold Dj
 let o1:List (PC P G):=[pb (Jb hi0),Em (DT .lost he0)]
 refine Ai (fun hb2=>?_) fun hb2=>?_
 refine Ai (fun hb3=>?_) fun hb3=>?_
 let o2:List (PC P G):=o1++[pn hb2,pk,IC (NH y3.lines e0.name hb3)]
 refine Ai (fun hb4=>?_) fun hb4=>?_
 refine AD ?_
 rintro ⟨y5a,y5b⟩ hy5
 dsimp only
 refine AD fun l6 hl6=>?_
 refine GM (fun Q v=>GJ P Tryz.f16 0 Q (.sl .lost v.length (rows CZ v))) (fun i1 (w1_0:(List Dg)) (j1:List Value)=>fr 97 [(3,.ptr 1 0),(4,.fn (.func 54) [] [.ptr 1 0]),(5,.ptr 7 0),(6,.sc (.int .i64 (Bz count6 1))),(8,.ptr 8 0),(33,.sl .lost source.kids.length (AW source.kids)),(34,.sc (.int .i64 ((source.kids.length:Nat):Int))),(35,.sc (.int .i64 ((i0:Nat):Int))),(81,.sl .lost l6.length (AW l6)),(82,.sc (.int .i64 ((l6.length:Nat):Int))),(83,.sc (.int .i64 ((i1:Nat):Int)))] [10,15,16,18,19,20,36,41,51,52,54,59,60,61,66,74,84] j1) (fun (w1_0:(List Dg))=>⟨[(8,.cells (BP e0)),(7,.cells [.mp 4,.mp 5,.mp 6]),(6,(B7 y3.Af)),(5,(AU y3.lines)),(4,(AU y3.facts)),(1,.cells [.sl (.row 0 2) w1_0.length (rows CZ w1_0)]),(0,.cells (BP source))],9,[(0,w1_0.length)],1⟩) (fun (w1_0:(List Dg)) (jx:List Value)=>fr 97 [(3,.ptr 1 0),(4,.fn (.func 54) [] [.ptr 1 0]),(5,.ptr 7 0),(6,.sc (.int .i64 (Bz count6 1))),(33,.sl .lost source.kids.length (AW source.kids)),(34,.sc (.int .i64 ((source.kids.length:Nat):Int))),(35,.sc (.int .i64 ((i0:Nat):Int)))] [10,15,16,18,19,20,36,41,51,52,54,59,60,61,66,74,84] jx) (fun (w1_0:(List Dg))=>⟨[(8,.cells (BP e0)),(7,.cells [.mp 4,.mp 5,.mp 6]),(6,(B7 y3.Af)),(5,(AU y3.lines)),(4,(AU y3.facts)),(1,.cells [.sl (.row 0 2) w1_0.length (rows CZ w1_0)]),(0,.cells (BP source))],9,[(0,w1_0.length)],1⟩) (js 17 j0 [(0,.bool true),(6,.bool true),(7,.bool false),(8,.bool true),(9,.bool true),(10,.bool true)]) (GC [] 3 (sb U3 8342780) [.endb 1,.code (sb U3 16295)] (Ae 300 (o2++[pb hb4,AF (At (Ak hy5) 1 0),R9 (Iu hl6)])) (by kernel_rfl)) ?_ ?_ ?_ (fun v h=>by cases h;exact .outer (.I5 k))
 rintro i1 w1_0 j1 hge hq
 exact DQ (Ae 300 [pb (Mj hge)]) (by kernel_rfl) (hq (js 17 j1 [(16,.bool false)]))
 rintro i1 e1 w1_0 j1 r he1 hi1 mi1 k
 show E7  y3 e0 i1 e1 w1_0=some r→_
 unfold E7
 refine AD ?_
 rintro ⟨y14a,y14b⟩ hy14
 dsimp only
 rintro ⟨⟩
 exact BS Hd.Ac [fq (Ay.DH source.kids),fq (Ay.DH l6)] [bp (Ay.pl e0),none,Bm y3.Af,AJ y3.lines,AJ y3.facts,br AM 0 2 y14b,bp (Ay.pl source)] (Ae 300 [pb (Jb hi1),Em (DT .lost he1),AF (Bv (Bh hy14) 4 5 6 1 0),pi mi1]) (by kernel_rfl) (k (js 17 j1 [(16,.bool true)]))
 rintro w1_0_15 jx_15
 rintro ⟨⟩
 exact BS Hd.Ac [fq (Ay.DH source.kids)] [none,Bm y3.Af,AJ y3.lines,AJ y3.facts,br AM 0 2 w1_0_15,bp (Ay.pl source)] (CX 300 [pi mi0]) (by kernel_rfl) (k jx_15)
 refine Ai (fun hb5=>?_) fun hb5=>?_
 refine AD fun l7 hl7=>?_
 refine GM (fun Q v=>GJ P Tryz.f16 0 Q (.sl .lost v.length (rows CZ v))) (fun i2 (w1_0:(List Dg)) (j2:List Value)=>fr 97 [(3,.ptr 1 0),(4,.fn (.func 54) [] [.ptr 1 0]),(5,.ptr 7 0),(6,.sc (.int .i64 (Bz count6 1))),(8,.ptr 8 0),(33,.sl .lost source.kids.length (AW source.kids)),(34,.sc (.int .i64 ((source.kids.length:Nat):Int))),(35,.sc (.int .i64 ((i0:Nat):Int))),(81,.sl .lost l7.length (AW l7)),(82,.sc (.int .i64 ((l7.length:Nat):Int))),(83,.sc (.int .i64 ((i2:Nat):Int)))] [10,15,16,18,19,20,36,41,51,52,54,59,60,61,66,74,84] j2) (fun (w1_0:(List Dg))=>⟨[(8,.cells (BP e0)),(7,.cells [.mp 4,.mp 5,.mp 6]),(6,(B7 y3.Af)),(5,(AU y3.lines)),(4,(AU y3.facts)),(1,.cells [.sl (.row 0 2) w1_0.length (rows CZ w1_0)]),(0,.cells (BP source))],9,[(0,w1_0.length)],1⟩) (fun (w1_0:(List Dg)) (jx:List Value)=>fr 97 [(3,.ptr 1 0),(4,.fn (.func 54) [] [.ptr 1 0]),(5,.ptr 7 0),(6,.sc (.int .i64 (Bz count6 1))),(33,.sl .lost source.kids.length (AW source.kids)),(34,.sc (.int .i64 ((source.kids.length:Nat):Int))),(35,.sc (.int .i64 ((i0:Nat):Int)))] [10,15,16,18,19,20,36,41,51,52,54,59,60,61,66,74,84] jx) (fun (w1_0:(List Dg))=>⟨[(8,.cells (BP e0)),(7,.cells [.mp 4,.mp 5,.mp 6]),(6,(B7 y3.Af)),(5,(AU y3.lines)),(4,(AU y3.facts)),(1,.cells [.sl (.row 0 2) w1_0.length (rows CZ w1_0)]),(0,.cells (BP source))],9,[(0,w1_0.length)],1⟩) [.bool true,(jv j0 1),(jv j0 2),(jv j0 3),(jv j0 4),(jv j0 5),.bool true,.bool false,.bool true,.bool false,.bool false,.bool false,.bool true,.bool false,.bool false,.bool false,(jv j0 16)] (GC [] 3 (sb U3 8342780) [.endb 1,.code (sb U3 16295)] (Ae 300 (o2++[pb hb4,IC (iA y3.Af e0.n),pn hb5,R9 (Iu hl7)])) (by kernel_rfl)) ?_ ?_ ?_ (fun v h=>by cases h;exact .outer (.I5 k))
 rintro i2 w1_0 j2 hge hq
 exact DQ (Ae 300 [pb (Mj hge)]) (by kernel_rfl) (hq (js 17 j2 [(16,.bool false)]))
 rintro i2 e2 w1_0 j2 r he2 hi2 mi2 k
 show EX  y3 e0 i2 e2 w1_0=some r→_
 unfold EX
 refine AD ?_
 rintro ⟨y16a,y16b⟩ hy16
 dsimp only
 rintro ⟨⟩
 exact BS Hd.Ac [fq (Ay.DH source.kids),fq (Ay.DH l7)] [bp (Ay.pl e0),none,Bm y3.Af,AJ y3.lines,AJ y3.facts,br AM 0 2 y16b,bp (Ay.pl source)] (Ae 300 [pb (Jb hi2),Em (DT .lost he2),AF (Bv (Bh hy16) 4 5 6 1 0),pi mi2]) (by kernel_rfl) (k (js 17 j2 [(16,.bool true)]))
 rintro w1_0_17 jx_17
 rintro ⟨⟩
 exact BS Hd.Ac [fq (Ay.DH source.kids)] [none,Bm y3.Af,AJ y3.lines,AJ y3.facts,br AM 0 2 w1_0_17,bp (Ay.pl source)] (CX 300 [pi mi0]) (by kernel_rfl) (k jx_17)
 refine AD ?_
 rintro ⟨y8a,y8b⟩ hy8
 dsimp only
 refine AD fun l9 hl9=>?_
 refine GM (fun Q v=>GJ P Tryz.f16 0 Q (.sl .lost v.length (rows CZ v))) (fun i3 (w1_0:(List Dg)) (j3:List Value)=>fr 97 [(3,.ptr 1 0),(4,.fn (.func 54) [] [.ptr 1 0]),(5,.ptr 7 0),(6,.sc (.int .i64 (Bz count6 1))),(8,.ptr 8 0),(33,.sl .lost source.kids.length (AW source.kids)),(34,.sc (.int .i64 ((source.kids.length:Nat):Int))),(35,.sc (.int .i64 ((i0:Nat):Int))),(81,.sl .lost l9.length (AW l9)),(82,.sc (.int .i64 ((l9.length:Nat):Int))),(83,.sc (.int .i64 ((i3:Nat):Int)))] [10,15,16,18,19,20,36,41,51,52,54,59,60,61,66,74,84] j3) (fun (w1_0:(List Dg))=>⟨[(8,.cells (BP e0)),(7,.cells [.mp 4,.mp 5,.mp 6]),(6,(B7 y3.Af)),(5,(AU y3.lines)),(4,(AU y3.facts)),(1,.cells [.sl (.row 0 2) w1_0.length (rows CZ w1_0)]),(0,.cells (BP source))],9,[(0,w1_0.length)],1⟩) (fun (w1_0:(List Dg)) (jx:List Value)=>fr 97 [(3,.ptr 1 0),(4,.fn (.func 54) [] [.ptr 1 0]),(5,.ptr 7 0),(6,.sc (.int .i64 (Bz count6 1))),(33,.sl .lost source.kids.length (AW source.kids)),(34,.sc (.int .i64 ((source.kids.length:Nat):Int))),(35,.sc (.int .i64 ((i0:Nat):Int)))] [10,15,16,18,19,20,36,41,51,52,54,59,60,61,66,74,84] jx) (fun (w1_0:(List Dg))=>⟨[(8,.cells (BP e0)),(7,.cells [.mp 4,.mp 5,.mp 6]),(6,(B7 y3.Af)),(5,(AU y3.lines)),(4,(AU y3.facts)),(1,.cells [.sl (.row 0 2) w1_0.length (rows CZ w1_0)]),(0,.cells (BP source))],9,[(0,w1_0.length)],1⟩) [.bool true,(jv j0 1),(jv j0 2),(jv j0 3),(jv j0 4),(jv j0 5),.bool true,.bool false,.bool true,.bool false,.bool false,.bool false,.bool true,.bool false,.bool true,.bool true,(jv j0 16)] (GC [] 3 (sb U3 8342780) [.endb 1,.code (sb U3 16295)] (Ae 300 (o2++[pb hb4,IC (iA y3.Af e0.n),pn hb5,AF (At (Ak hy8) 1 0),R9 (Iu hl9)])) (by kernel_rfl)) ?_ ?_ ?_ (fun v h=>by cases h;exact .outer (.I5 k))
 rintro i3 w1_0 j3 hge hq
 exact DQ (Ae 300 [pb (Mj hge)]) (by kernel_rfl) (hq (js 17 j3 [(16,.bool false)]))
 rintro i3 e3 w1_0 j3 r he3 hi3 mi3 k
 show EO  y3 e0 i3 e3 w1_0=some r→_
 unfold EO
 refine AD ?_
 rintro ⟨y18a,y18b⟩ hy18
 dsimp only
 rintro ⟨⟩
 exact BS Hd.Ac [fq (Ay.DH source.kids),fq (Ay.DH l9)] [bp (Ay.pl e0),none,Bm y3.Af,AJ y3.lines,AJ y3.facts,br AM 0 2 y18b,bp (Ay.pl source)] (Ae 300 [pb (Jb hi3),Em (DT .lost he3),AF (Bv (Bh hy18) 4 5 6 1 0),pi mi3]) (by kernel_rfl) (k (js 17 j3 [(16,.bool true)]))
 rintro w1_0_19 jx_19
 rintro ⟨⟩
 exact BS Hd.Ac [fq (Ay.DH source.kids)] [none,Bm y3.Af,AJ y3.lines,AJ y3.facts,br AM 0 2 w1_0_19,bp (Ay.pl source)] (CX 300 [pi mi0]) (by kernel_rfl) (k jx_19)
 refine Ai (fun hb6=>?_) fun hb6=>?_
 refine AD ?_
 rintro ⟨y10a,y10b⟩ hy10
 dsimp only
 refine AD fun l11 hl11=>?_
 refine GM (fun Q v=>GJ P Tryz.f16 0 Q (.sl .lost v.length (rows CZ v))) (fun i4 (w1_0:(List Dg)) (j4:List Value)=>fr 97 [(3,.ptr 1 0),(4,.fn (.func 54) [] [.ptr 1 0]),(5,.ptr 7 0),(6,.sc (.int .i64 (Bz count6 1))),(8,.ptr 8 0),(33,.sl .lost source.kids.length (AW source.kids)),(34,.sc (.int .i64 ((source.kids.length:Nat):Int))),(35,.sc (.int .i64 ((i0:Nat):Int))),(81,.sl .lost l11.length (AW l11)),(82,.sc (.int .i64 ((l11.length:Nat):Int))),(83,.sc (.int .i64 ((i4:Nat):Int)))] [10,15,16,18,19,20,36,41,51,52,54,59,60,61,66,74,84] j4) (fun (w1_0:(List Dg))=>⟨[(8,.cells (BP e0)),(7,.cells [.mp 4,.mp 5,.mp 6]),(6,(B7 y3.Af)),(5,(AU y3.lines)),(4,(AU y3.facts)),(1,.cells [.sl (.row 0 2) w1_0.length (rows CZ w1_0)]),(0,.cells (BP source))],9,[(0,w1_0.length)],1⟩) (fun (w1_0:(List Dg)) (jx:List Value)=>fr 97 [(3,.ptr 1 0),(4,.fn (.func 54) [] [.ptr 1 0]),(5,.ptr 7 0),(6,.sc (.int .i64 (Bz count6 1))),(33,.sl .lost source.kids.length (AW source.kids)),(34,.sc (.int .i64 ((source.kids.length:Nat):Int))),(35,.sc (.int .i64 ((i0:Nat):Int)))] [10,15,16,18,19,20,36,41,51,52,54,59,60,61,66,74,84] jx) (fun (w1_0:(List Dg))=>⟨[(8,.cells (BP e0)),(7,.cells [.mp 4,.mp 5,.mp 6]),(6,(B7 y3.Af)),(5,(AU y3.lines)),(4,(AU y3.facts)),(1,.cells [.sl (.row 0 2) w1_0.length (rows CZ w1_0)]),(0,.cells (BP source))],9,[(0,w1_0.length)],1⟩) (js 17 j0 [(0,.bool false),(6,.bool true),(7,.bool false),(8,.bool false),(9,.bool true),(10,.bool true)]) (GC [] 3 (sb U3 8342780) [.endb 1,.code (sb U3 16295)] (Ae 300 (o1++[pn hb2,pk,IC (NH y3.lines e0.name hb3),pb hb6,AF (At (Ak hy10) 1 0),R9 (Iu hl11)])) (by kernel_rfl)) ?_ ?_ ?_ (fun v h=>by cases h;exact .outer (.I5 k))
 rintro i4 w1_0 j4 hge hq
 exact DQ (Ae 300 [pb (Mj hge)]) (by kernel_rfl) (hq (js 17 j4 [(16,.bool false)]))
 rintro i4 e4 w1_0 j4 r he4 hi4 mi4 k
 show ET  y3 e0 i4 e4 w1_0=some r→_
 unfold ET
 refine AD ?_
 rintro ⟨y20a,y20b⟩ hy20
 dsimp only
 rintro ⟨⟩
 exact BS Hd.Ac [fq (Ay.DH source.kids),fq (Ay.DH l11)] [bp (Ay.pl e0),none,Bm y3.Af,AJ y3.lines,AJ y3.facts,br AM 0 2 y20b,bp (Ay.pl source)] (Ae 300 [pb (Jb hi4),Em (DT .lost he4),AF (Bv (Bh hy20) 4 5 6 1 0),pi mi4]) (by kernel_rfl) (k (js 17 j4 [(16,.bool true)]))
 rintro w1_0_21 jx_21
 rintro ⟨⟩
 exact BS Hd.Ac [fq (Ay.DH source.kids)] [none,Bm y3.Af,AJ y3.lines,AJ y3.facts,br AM 0 2 w1_0_21,bp (Ay.pl source)] (CX 300 [pi mi0]) (by kernel_rfl) (k jx_21)
 refine AD ?_
 rintro ⟨y12a,y12b⟩ hy12
 dsimp only
 refine AD fun l13 hl13=>?_
 refine GM (fun Q v=>GJ P Tryz.f16 0 Q (.sl .lost v.length (rows CZ v))) (fun i5 (w1_0:(List Dg)) (j5:List Value)=>fr 97 [(3,.ptr 1 0),(4,.fn (.func 54) [] [.ptr 1 0]),(5,.ptr 7 0),(6,.sc (.int .i64 (Bz count6 1))),(8,.ptr 8 0),(33,.sl .lost source.kids.length (AW source.kids)),(34,.sc (.int .i64 ((source.kids.length:Nat):Int))),(35,.sc (.int .i64 ((i0:Nat):Int))),(81,.sl .lost l13.length (AW l13)),(82,.sc (.int .i64 ((l13.length:Nat):Int))),(83,.sc (.int .i64 ((i5:Nat):Int)))] [10,15,16,18,19,20,36,41,51,52,54,59,60,61,66,74,84] j5) (fun (w1_0:(List Dg))=>⟨[(8,.cells (BP e0)),(7,.cells [.mp 4,.mp 5,.mp 6]),(6,(B7 y3.Af)),(5,(AU y3.lines)),(4,(AU y3.facts)),(1,.cells [.sl (.row 0 2) w1_0.length (rows CZ w1_0)]),(0,.cells (BP source))],9,[(0,w1_0.length)],1⟩) (fun (w1_0:(List Dg)) (jx:List Value)=>fr 97 [(3,.ptr 1 0),(4,.fn (.func 54) [] [.ptr 1 0]),(5,.ptr 7 0),(6,.sc (.int .i64 (Bz count6 1))),(33,.sl .lost source.kids.length (AW source.kids)),(34,.sc (.int .i64 ((source.kids.length:Nat):Int))),(35,.sc (.int .i64 ((i0:Nat):Int)))] [10,15,16,18,19,20,36,41,51,52,54,59,60,61,66,74,84] jx) (fun (w1_0:(List Dg))=>⟨[(8,.cells (BP e0)),(7,.cells [.mp 4,.mp 5,.mp 6]),(6,(B7 y3.Af)),(5,(AU y3.lines)),(4,(AU y3.facts)),(1,.cells [.sl (.row 0 2) w1_0.length (rows CZ w1_0)]),(0,.cells (BP source))],9,[(0,w1_0.length)],1⟩) (js 17 j0 [(0,.bool false),(6,.bool true),(7,.bool false),(8,.bool false),(9,.bool false),(10,.bool false),(11,.bool true),(12,.bool false),(13,.bool true)]) (GC [] 3 (sb U3 8342780) [.endb 1,.code (sb U3 16295)] (Ae 300 (o1++[pn hb2,pk,IC (NH y3.lines e0.name hb3),pb hb6,AF (At (Ak hy12) 1 0),R9 (Iu hl13)])) (by kernel_rfl)) ?_ ?_ ?_ (fun v h=>by cases h;exact .outer (.I5 k))
 rintro i5 w1_0 j5 hge hq
 exact DQ (Ae 300 [pb (Mj hge)]) (by kernel_rfl) (hq (js 17 j5 [(16,.bool false)]))
 rintro i5 e5 w1_0 j5 r he5 hi5 mi5 k
 show EQ  y3 e0 i5 e5 w1_0=some r→_
 unfold EQ
 refine AD ?_
 rintro ⟨y22a,y22b⟩ hy22
 dsimp only
 rintro ⟨⟩
 exact BS Hd.Ac [fq (Ay.DH source.kids),fq (Ay.DH l13)] [bp (Ay.pl e0),none,Bm y3.Af,AJ y3.lines,AJ y3.facts,br AM 0 2 y22b,bp (Ay.pl source)] (Ae 300 [pb (Jb hi5),Em (DT .lost he5),AF (Bv (Bh hy22) 4 5 6 1 0),pi mi5]) (by kernel_rfl) (k (js 17 j5 [(16,.bool true)]))
 rintro w1_0_23 jx_23
 rintro ⟨⟩
 exact BS Hd.Ac [fq (Ay.DH source.kids)] [none,Bm y3.Af,AJ y3.lines,AJ y3.facts,br AM 0 2 w1_0_23,bp (Ay.pl source)] (CX 300 [pi mi0]) (by kernel_rfl) (k jx_23)
 rintro ⟨⟩
 exact BS Hd.Ac [fq (Ay.DH source.kids)] [none,Bm y3.Af,AJ y3.lines,AJ y3.facts,br AM 0 2 w1_0,bp (Ay.pl source)] (Ae 300 (o1++[pn hb2,pi mi0])) (by kernel_rfl) (k (js 17 j0 [(6,.bool true),(7,.bool true)]))
 rintro w1_0_24 jx_24
 intro h
 have hE:=Option.some.inj h
 subst hE
 exact A5 (v:=.sl (.row 0 2) w1_0_24.length (rows CZ w1_0_24)) _ _ (CX 300 []) (by kernel_rfl) .body (.wn (.s rfl .nil) (AM.DH w1_0_24))
 subst hv
 intro h
 have hE:=Option.some.inj h
 subst hE
 exact A5 (v:=.sl .full 1 [.sc (.int .i64 1),.sc (.int .i64 0)]) _ _ (Ae 300 [pn hb1,Bk (C1 hy1)]) (by kernel_rfl) .body (.wn (.d (.r (.r .nil)) (AM.eq [(⟨1,0⟩:Dg)]).symm .nil) (AM.DH [(⟨1,0⟩:Dg)]))
 intro h
 have hE:=Option.some.inj h
 subst hE
 exact A5 (v:=.sl .full 1 [.sc (.int .i64 1),.sc (.int .i64 0)]) _ _ (Ae 300 [pn hb1]) (by kernel_rfl) .body (.wn (.d (.r (.r .nil)) (AM.eq [(⟨1,0⟩:Dg)]).symm .nil) (AM.DH [(⟨1,0⟩:Dg)]))
end Mo
end Go.Proofs.YtkfplcngmiljaaaGreatDoor
namespace Go.Proofs.YtkfplcngmiljaaaGreatDoor
open AI Go
namespace Mo
set_option maxRecDepth 100000
set_option maxHeartbeats 4000000
noncomputable def u5:Code:=Bp Tryz.f26
theorem b26:Tryz.f26.body=some u5:=by kernel_rfl
noncomputable def Et   (i0:Nat) (e0:Dg) (out3:(List Dg)):Option (Lp (List Dg) (List Dg) (List Dg)):=R5 (out3.length+1) (some (.nx (out3++[(⟨e0.err,0⟩:Dg)])))
noncomputable def Ef  (l:(List Dg)):Option (List Dg):=(IZ l.length (A2 (fun i y x=>Et   i y x) (fun x=>x) (l.drop 0) 0 [])).bind (JA (fun (out3_2:(List Dg))=>some out3_2) (fun v=>some v))
theorem FW   {l:(List Dg)} {yR:(List Dg)} (h:Ef  l=some yR):Pure P G 26 [.sl .lost l.length (rows CZ l)] (.sl .lost yR.length (rows CZ yR)):=by
 unfold Ef at h
 refine D0 Hd.mixed Hd.Ac (AZ Tryz.func26 b26 ?_) (BI (AM.DH l) rfl) (AM.DH yR)
 revert h
 refine GM (fun Q v=>GJ P Tryz.f26 0 Q (.sl .lost v.length (rows CZ v))) (fun i0 (out3:(List Dg)) (j0:List Value)=>fr 21 [(0,.sl .lost l.length (rows CZ l)),(3,.sl (.row 0 2) out3.length (rows CZ out3)),(4,.sc (.int .i64 ((i0:Nat):Int)))] [8] j0) (fun (out3:(List Dg))=>⟨[],0,[(0,out3.length)],1⟩) (fun (out3:(List Dg)) (jx:List Value)=>fr 21 [(3,.sl (.row 0 2) out3.length (rows CZ out3))] [8] jx) (fun (out3:(List Dg))=>⟨[],0,[(0,out3.length)],1⟩) [] (GC [.t 3 2] 0 (sb u5 116) [.code (sb u5 15)] (Ae 300 []) (by kernel_rfl)) ?_ ?_ ?_ (fun v h=>by cases h;exact .outer .body)
 rintro i0 out3 j0 hge hq
 exact DQ (Ae 300 [pb (Mj hge)]) (by kernel_rfl) (hq [.bool false])
 rintro i0 e0 out3 j0 r he0 hi0 mi0 k
 show Et   i0 e0 out3=some r→_
 unfold Et
 refine eE fun hl1=>?_
 rintro ⟨⟩
 exact KE (Ae 300 [pb (Jb hi0),Em (Xg .lost he0),lU (eG (.row 0 2) out3 [(⟨e0.err,0⟩:Dg)] (o:=.full) (n:=1) (ns:=[.sc (.int .i64 e0.err),.sc (.int .i64 0)]) (AM.wn [(⟨e0.err,0⟩:Dg)] (.r (.r .nil))) rfl rfl (by simp) (by simpa using hl1)),pi mi0]) (by kernel_rfl) (k [.bool true])
 rintro out3_2 jx_2
 intro h
 have hE:=Option.some.inj h
 subst hE
 exact A5 (v:=.sl (.row 0 2) out3_2.length (rows CZ out3_2)) _ _ (CX 300 []) (by kernel_rfl) .body (.wn (.s rfl .nil) (AM.DH out3_2))
end Mo
end Go.Proofs.YtkfplcngmiljaaaGreatDoor

namespace Go.Proofs.YtkfplcngmiljaaaGreatDoor
open AI Go
namespace Mo
set_option maxRecDepth 100000
set_option maxHeartbeats 4000000
def jX (s:ByteArray):Prop:=s.data.toList.length=3∧∀ c∈s.data.toList,65≤c.toNat∧c.toNat≤90
def No (s:ByteArray):Prop:=s=A8∨s=CH∨s=FG∨jX s
def VJ (c:UInt8):Prop:=(97≤c.toNat∧c.toNat≤122)∨(48≤c.toNat∧c.toNat≤57)∨c.toNat=95
def VZ:List ByteArray:=[dF,fB,Rk,pX,dV,eB,yN,Yu,eL,TQ,T6,A8,CH,FG,rO,eK,TN,X2,cW,mW,Nh,n8,nA,dC,W2,oC,KD,bJ,Pj,T4,J2,Gf,XB]
def KC (s:ByteArray):Prop:=(1≤s.data.toList.length∧s.data.toList.length≤16)∧(∃ b,s.data.toList[0]?=some b∧97≤b.toNat∧b.toNat≤122)∧s∉VZ∧∀ c∈s.data.toList,VJ c
theorem Gw {n:Nd} (h:DS n):n.tab.ps.length≤9223372036854775807∧n.kids.length≤9223372036854775807∧∀ k∈n.kids,DS k:=by
 obtain ⟨a,b,c⟩:=(M5 n).1 h
 exact ⟨a.1,b,c⟩
theorem W9 {α:Type} {l:List α} {P:α→Prop}:(∀ (i:Nat) (y:α),l[i]?=some y→P y)↔∀ y∈l,P y :=
 ⟨fun h y hy=>(List.getElem?_of_mem hy).elim fun i hi=>h i y hi,fun h i y hi=>h y (List.mem_of_getElem? hi)⟩
theorem oB (s:ByteArray):D4 s=some (mb (s∈VZ)):=by
 rw [D4]
 simp only [D3,C7,PS,iN]
 refine nR ?_
 simp only [VZ,List.mem_cons,List.not_mem_nil,or_false]
theorem eX (s:ByteArray):s=ByteArray.empty↔s.data.toList.length=0:=by
 constructor
 · intro h;rw [h];rfl
 · intro h
   apply ByteArray.ext
   apply Array.ext'
   rw [List.eq_nil_of_length_eq_zero h];rfl
theorem Tp (s:ByteArray):BL s=some (mb (KC s)):=by
 rw [BL]
 simp only [D3,E6,C7,oB,Option.bind_some]
 unfold KC
 by_cases h0:s=ByteArray.empty
 · rw [Ah h0];exact MY fun h=>by have:=(eX s).1 h0;omega
 have h1:s.data.toList.length≠0:=fun h=>h0 ((eX s).2 h)
 rw [Ad h0]
 by_cases h2:16 < ((s.data.toList.length:Nat):Int)
 · rw [Ah h2];exact MY fun h=>by omega
 rw [Ad h2]
 obtain ⟨b,hb⟩:∃ b,s.data.toList[0]?=some b:=⟨_,List.getElem?_eq_getElem (by omega)⟩
 rw [hb,NX (v:=false) (P:=fun _ y=>VJ y) (by omega) (fun i y _=>by
   simp only [Ds,E6,CP,C7,lF,jI,Zi,kA,ZM,s8,tW]
   congr 2
   unfold VJ
   apply propext
   omega)]
 simp only [Option.bind_some,PS,oS,W9]
 refine nR ?_
 constructor
 · rintro ⟨h3,h4,h5,h6⟩
   exact ⟨by omega,⟨b,rfl,by omega⟩,h5,h6⟩
 · rintro ⟨h3,⟨c,hc,h4⟩,h5,h6⟩
   cases hc
   exact ⟨by omega,by omega,h5,h6⟩
theorem j8 (s:ByteArray):Dl s=some (mb (jX s)):=by
 rw [Dl,CP,C7]
 unfold jX
 by_cases h:((s.data.toList.length:Nat):Int)=3
 · rw [Ah h,NX (v:=false) (P:=fun _ y=>65≤y.toNat∧y.toNat≤90) (by omega) (fun i y _=>by
     simp only [DP,E6,C7,Zi,ZM]
     congr 2;apply propext;omega),PS,W9]
   exact nR ⟨fun h2=>⟨by omega,h2⟩,fun h2=>h2.2⟩
 · rw [Ad h];exact MY fun h2=>h (by omega)
theorem TP (s:ByteArray):B5 s=some (mb (No s)):=by
 rw [B5]
 simp only [D3,C7,j8,Option.bind_some,iN]
 rfl
def Ia (n:Int):Prop:=1≤n∧n≤1000000
theorem Kq (n:Int):BB n=some (mb (Ia n)):=by
 rw [BB]
 simp only [Io,C7,PS,iF]
 rfl
def Xs (n:Int):Prop:=0≤n∧n≤36524
def RN (s:ByteArray):Prop:=s=KD∨s=bJ∨s=Pj∨s=T4
theorem V3 (s:ByteArray):CE s=some (mb (RN s)):=by
 rw [CE]
 simp only [D3,C7,PS,iN]
 rfl
theorem Xc (a b:List Pc) (ha:a.length≤9223372036854775807):EN a b=some (mb (a=b)):=by
 rw [EN,CP,C7]
 by_cases h:((a.length:Nat):Int)=((b.length:Nat):Int)
 · rw [Ah h,NX (v:=false) (P:=fun i y=>b[i]?=some y) ha (fun i y hy=>by
     have hi:i < a.length:=(List.getElem?_eq_some_iff.1 hy).1
     have hb:b[i]?=some b[i]:=List.getElem?_eq_getElem (by omega)
     simp only [Fs]
     rw [hb]
     simp only [Option.bind_some]
     have hs:K8 y b[i]=mb (b[i]?=some y):=by
       rw [Bool.eq_iff_iff,Bl,hb]
       unfold K8
       simp only [Bool.and_eq_true,JZ,beq_iff_eq,Option.some.injEq]
       generalize b[i]=z
       cases y;cases z
       simp only [Pc.mk.injEq]
       grind
     rw [hs,C7,lF,hb]),PS]
   refine nR ⟨fun h2=>?_,fun h2 i y hy=>by rw [← h2];exact hy⟩
   apply List.ext_getElem?
   intro i
   by_cases hi:i < a.length
   · rw [List.getElem?_eq_getElem hi,h2 i _ (List.getElem?_eq_getElem hi)]
   · rw [List.getElem?_eq_none (by omega),List.getElem?_eq_none (by omega)]
 · rw [Ad h];exact MY fun h2=>h (by rw [h2])
def CF (n f:Nd):Prop:=n.name=f.name∧n.unit=f.unit∧n.n=f.n∧n.fr=f.fr∧n.to=f.to∧n.known=f.known∧n.tab.den=f.tab.den∧n.tab.ps=f.tab.ps
theorem MG (n f:Nd) (h:n.tab.ps.length≤9223372036854775807):AT n f=some (mb (CF n f)):=by
 rw [AT,Xc _ _ h]
 simp only [D3,CP,C7,Option.bind_some,iF]
 rfl
end Mo
end Go.Proofs.YtkfplcngmiljaaaGreatDoor
namespace Go.Proofs.YtkfplcngmiljaaaGreatDoor
open AI Go
namespace Mo
set_option maxRecDepth 100000
set_option maxHeartbeats 4000000
theorem RM {p:Prop} (h:¬ p):mb p=false:=by rw [Lu];exact h
def Out (r:Option (Bool×Int)) (P:Prop) (t:Int):Prop:=∃ z,r=some (mb P,z)∧(P→z=t)
theorem Out.congr {r:Option (Bool×Int)} {P Q:Prop} {t u:Int} (h:Out r P t) (hp:P↔Q) (ht:Q→t=u):Out r Q u:=by
 obtain ⟨z,h1,h2⟩:=h
 exact ⟨z,by rw [h1,En hp],fun q=>(h2 (hp.2 q)).trans (ht q)⟩
theorem El {Q:Prop} {z u:Int} (h:¬ Q):Out (some (false,z)) Q u:=⟨z,by rw [RM h],fun q=>absurd q h⟩
theorem KK {P Q:Prop} {u:Int} (h:P↔Q):Out (some (mb P,u)) Q u:=⟨u,by rw [En h],fun _=>rfl⟩
theorem Db {p Q:Prop} {A:Option (Bool×Int)} {z u:Int} (h:p→Out A Q u) (hq:Q→p):Out (AO p A (some (false,z))) Q u:=by
 by_cases hp:p
 · rw [Ah hp];exact h hp
 · rw [Ad hp];exact El fun q=>hp (hq q)
theorem Rq {p Q:Prop} {A:Option (Bool×Int)} {z u:Int} (h:¬ p→Out A Q u) (hq:Q→¬ p):Out (AO p (some (false,z)) A) Q u:=by
 by_cases hp:p
 · rw [Ah hp];exact El fun q=>hq q hp
 · rw [Ad hp];exact h hp
mutual
def C5:Nd→Nat
 | ⟨_,_,_,_,_,_,_,_,kids,_⟩=>1+E8 kids
def E8:List Nd→Nat
 | []=>0
 | k::ks=>C5 k+E8 ks
end
mutual
def Jo:Nd→Nat
 | ⟨_,_,_,_,_,_,_,_,kids,_⟩=>1+Vy kids
def Vy:List Nd→Nat
 | []=>0
 | k::ks=>max (Jo k) (Vy ks)
end
theorem C9 (n:Nd):C5 n=1+E8 n.kids:=by cases n;rw [C5]
theorem H6 (n:Nd):Jo n=1+Vy n.kids:=by cases n;rw [Jo]
theorem O9 {l:List Nd} {m:Nat}:Vy l≤m↔∀ k∈l,Jo k≤m:=by
 induction l with
 | nil=>simp [Vy]
 | cons a l ih=>simp only [Vy,Nat.max_le,ih,List.mem_cons,forall_eq_or_imp]
theorem Jh {l:List Nd} {k:Nd} (h:k∈l):C5 k≤E8 l:=by
 induction l with
 | nil=>cases h
 | cons a l ih =>
   rw [E8]
   rcases List.mem_cons.1 h with rfl | h
   · omega
   · have:=ih h;omega
theorem Tl (l:List Nd):l.length≤E8 l:=by
 induction l with
 | nil=>simp [E8]
 | cons a l ih=>rw [E8,C9];simp only [List.length_cons];omega
theorem Mn {n k:Nd} (h:k∈n.kids):C5 k < C5 n:=by rw [C9 n];have:=Jh h;omega
theorem I1 {g:Ck→Nd→Int→Option (Bool×Int)} {p:Nd→Prop} {d:Int}:∀ {l:List Nd} {i:Nat} {c:Int},0≤c→c≤2000→(∀ k∈l,∀ c:Int,0≤c→c≤2000→Out (g ⟨c⟩ k d) (p k∧c+C5 k≤2000∧d+Jo k≤41) (c+C5 k)) →
   Out ((A2 (δ:=Int) (ρ:=Bool×Int) (fun _ y (x:Int)=>(g ⟨x⟩ y d).bind fun (y1a,y1b)=>cond y1a (some (.nx y1b)) (some (.rt (false,y1b)))) (fun x=>x) l i c).bind (JA (fun (w:Int)=>some (true,w)) (fun v=>some v)))
     ((∀ k∈l,p k∧d+Jo k≤41)∧c+E8 l≤2000) (c+E8 l)
 | [],i,c,h0,h1,_=>⟨c,by rw [Bl.2 ⟨fun k hk=>(by cases hk),by simp only [E8];omega⟩];rfl,fun _=>by simp [E8]⟩
 | y::l,i,c,h0,h1,hg=>by
   obtain ⟨z,hz,h2⟩:=hg y (by simp) c h0 h1
   rw [A2,hz]
   simp only [Option.bind_some]
   by_cases hp:p y∧c+C5 y≤2000∧d+Jo y≤41
   · rw [Bl.2 hp,h2 hp]
     show Out ((A2 _ _ l (i+1) (c+C5 y)).bind _) _ _
     refine (I1 (l:=l) (i:=i+1) (c:=c+C5 y) (by omega) hp.2.1 fun k hk=>hg k (by simp [hk])).congr ?_ ?_
     · rw [E8]
       simp only [List.mem_cons,forall_eq_or_imp,Int.natCast_add]
       constructor
       · rintro ⟨a,b⟩;exact ⟨⟨⟨hp.1,hp.2.2⟩,a⟩,by omega⟩
       · rintro ⟨⟨_,a⟩,b⟩;exact ⟨a,by omega⟩
     · intro _;rw [E8];omega
   · rw [RM hp]
     refine ⟨z,?_,fun q=>?_⟩
     · show some (false,z)=_
       rw [RM]
       rintro ⟨a,b⟩
       rw [E8] at b
       have:=a y (by simp)
       exact hp ⟨this.1,by omega,this.2⟩
     · exfalso
       obtain ⟨a,b⟩:=q
       rw [E8] at b
       have:=a y (by simp)
       exact hp ⟨this.1,by omega,this.2⟩
theorem MZ (n:Nd) {c d:Int} (h0:0≤c) (h1:c≤2000):Out (A9 ⟨c⟩ n d) (c+1≤2000∧d≤40) (c+1):=by
 rw [A9,CT (by show _≤c+1∧c+1≤_;omega)]
 simp only [Io,C7,Option.bind_some]
 by_cases h:c+1≤2000
 · rw [Ah h];exact KK ⟨fun a=>⟨h,a⟩,fun a=>a.2⟩
 · rw [Ad h];exact El fun a=>h a.1
def Pm (f:Fn) (i:Nat) (p:Pc):Prop:=p.fr≤999999999999∧(∀ q,0 < i→f.ps[i - 1]?=some q→q.fr < p.fr)∧S2 p.att f.den=some 0∧p.att≤Us 999999999999 f.den∧Us (-999999999999) f.den≤p.att∧p.slope≤1000000∧-1000000≤p.slope
def VR (f:Fn):Prop:=Ia f.den∧(1≤f.ps.length∧f.ps.length≤64)∧(∀ x,f.ps[0]?=some x→x.fr=0)∧∀ (i:Nat) p,f.ps[i]?=some p→Pm f i p
theorem pZ (f:Fn) (hl:f.ps.length≤9223372036854775807):CO f=some (mb (VR f)):=by
 rw [CO,Kq]
 simp only [Option.bind_some,C7,E6,CP]
 unfold VR
 by_cases hr:Ia f.den
 rotate_left
 · rw [Ad hr];exact MY fun h=>hr h.1
 rw [Ah hr]
 by_cases h1:((f.ps.length:Nat):Int) < 1
 · rw [Ah h1];exact MY fun h=>by omega
 rw [Ad h1]
 by_cases h2:64 < ((f.ps.length:Nat):Int)
 · rw [Ah h2];exact MY fun h=>by omega
 rw [Ad h2]
 have hx0:f.ps[0]?=some f.ps[0]:=List.getElem?_eq_getElem (by omega)
 rw [hx0]
 simp only [Option.bind_some]
 by_cases h3:f.ps[0].fr=0
 rotate_left
 · rw [Ad h3];exact MY fun h=>h3 (h.2.2.1 _ rfl)
 rw [Ah h3]
 have hden:f.den≠0:=by unfold Ia at hr;omega
 rw [NX (v:=false) (P:=fun i y=>Pm f i y) hl (fun i y hy=>by
   have hi:i < f.ps.length:=(List.getElem?_eq_some_iff.1 hy).1
   simp only [De,E6,C7,Io,CP]
   have hd:∃ z,S2 y.att f.den=some z:=by unfold S2;rw [if_neg hden];exact ⟨_,rfl⟩
   obtain ⟨z,hz⟩:=hd
   unfold Pm
   rw [hz]
   by_cases h0:(0:Int) < ((i:Nat):Int)
   · rw [Ah h0,Mp (by omega)]
     have hq:f.ps[i - 1]?=some f.ps[i - 1]:=List.getElem?_eq_getElem (by omega)
     have hg:UY f.ps (((i:Nat):Int) - 1)=some f.ps[i - 1]:=by
       unfold UY
       rw [show (((i:Nat):Int) - 1).toNat=i - 1 by omega]
       simp only [hq]
       first | rfl | (rw [if_pos (by omega)])
     rw [hg,hq]
     simp only [Option.bind_some,Zi,ZM,jI,kA]
     congr 2
     apply propext
     simp only [Option.some.injEq,forall_eq']
     grind
   · rw [Ad h0]
     simp only [Option.bind_some,Zi,ZM,jI,kA]
     congr 2
     apply propext
     simp only [Option.some.injEq]
     have:¬ 0 < i:=by omega
     grind),PS]
 refine nR ⟨fun h=>⟨hr,by omega,fun x hx=>by cases hx;exact h3,h⟩,fun h=>h.2.2.2⟩
def PG (s:ByteArray):Prop:=s=MK∨s=mW∨s=Nh∨s=Pt∨s=PB∨s=Y4∨s=PD∨s=O8∨s=bE∨s=cV∨s=nA
def Kc (k:Nd):Prop:=k.kind=11∧k.unit=CH∧Ia k.n
def JI (n:Nd):Prop :=
 (n.kind=11∧No n.unit∧0≤n.n∧n.n≤999999999999∧(n.unit=A8→n.n≤1)∧n.kids.length=0∧CF n ⟨0,ByteArray.empty,n.unit,n.n,0,0,0,⟨0,[]⟩,[],0⟩) ∨
 (n.kind=12∧KC n.name∧n.kids.length=0∧CF n ⟨0,n.name,ByteArray.empty,0,0,0,0,⟨0,[]⟩,[],0⟩) ∨
 (n.kind=13∧Ia n.n∧n.kids.length=0∧CF n ⟨0,ByteArray.empty,ByteArray.empty,n.n,0,0,0,⟨0,[]⟩,[],0⟩) ∨
 (n.kind=14∧RN n.name∧n.kids.length=0∧CF n ⟨0,n.name,ByteArray.empty,0,0,0,0,⟨0,[]⟩,[],0⟩) ∨
 (n.kind=15∧n.kids.length=1∧CF n ⟨0,ByteArray.empty,ByteArray.empty,0,0,0,0,⟨0,[]⟩,[],0⟩) ∨
 (n.kind=16∧CF n ⟨0,n.name,ByteArray.empty,0,0,0,0,⟨0,[]⟩,[],0⟩∧n.kids.length=2∧PG n.name∧(n.name=MK→∀ k,n.kids[1]?=some k→Kc k)) ∨
 (n.kind=17∧(n.name=J2∨n.name=Gf)∧CF n ⟨0,n.name,ByteArray.empty,0,0,0,0,⟨0,[]⟩,[],0⟩∧2≤n.kids.length) ∨
 (n.kind=18∧CF n ⟨0,ByteArray.empty,ByteArray.empty,0,0,0,0,n.tab,[],0⟩∧VR n.tab∧n.kids.length=1)
mutual
def LV:Nd→Prop
 | ⟨kind,name,unit,n,fr,to,known,tab,kids,att⟩=>JI ⟨kind,name,unit,n,fr,to,known,tab,kids,att⟩∧Wx kids
def Wx:List Nd→Prop
 | []=>True
 | k::ks=>LV k∧Wx ks
end
theorem WJ {l:List Nd}:Wx l↔∀ k∈l,LV k:=by
 induction l with
 | nil=>simp [Wx]
 | cons k l ih=>simp [Wx,ih]
theorem Mc (n:Nd):LV n↔JI n∧∀ k∈n.kids,LV k:=by cases n;rw [LV,WJ]
end Mo
end Go.Proofs.YtkfplcngmiljaaaGreatDoor
namespace Go.Proofs.YtkfplcngmiljaaaGreatDoor
open AI Go
namespace Mo
set_option maxRecDepth 100000
set_option maxHeartbeats 4000000
theorem FJ {r:Option (Bool×Int)} {P Q:Prop} {t u:Int} {f:Bool×Int→Option (Bool×Int)} (h:Out r P t) (hT:P→Out (f (true,t)) Q u) (hF:∀ z,¬ P→Out (f (false,z)) Q u):Out (r.bind f) Q u:=by
 obtain ⟨z,rfl,h2⟩:=h
 by_cases hp:P
 · rw [Bl.2 hp,h2 hp];exact hT hp
 · rw [RM hp];exact hF z hp
theorem iZ {Q:Prop} {t u:Int} (hq:Q) (h:t=u):Out (some (true,t)) Q u:=⟨t,by rw [Bl.2 hq],fun _=>h⟩
theorem FN {r:Option (Bool×Int)} {P Q:Prop} {t u:Int} (h:Out r P t) (hp:P↔Q) (ht:P→t=u):Out (r.bind fun (a,b)=>some (a,b)) Q u :=
 FJ h (fun p=>iZ (hp.1 p) (ht p)) fun _ p=>El fun q=>p (hp.2 q)
section
variable {p q r:Prop} {z:Int}
theorem Pd:AO p (some (mb q,z)) (some (false,z))=some (mb (p∧q),z):=by
 by_cases h:p
 · rw [Ah h];congr 2;exact En ⟨fun a=>⟨h,a⟩,fun a=>a.2⟩
 · rw [Ad h,RM];exact fun a=>h a.1
theorem RX:AO p (some (false,z)) (some (mb q,z))=some (mb (¬ p∧q),z):=by
 by_cases h:p
 · rw [Ah h,RM];exact fun a=>a.1 h
 · rw [Ad h];congr 2;exact En ⟨fun a=>⟨h,a⟩,fun a=>a.2⟩
theorem Vc:AO p (some (mb q,z)) (some (mb r,z))=some (mb ((p→q)∧(¬ p→r)),z):=by
 by_cases h:p
 · rw [Ah h];congr 2;exact En ⟨fun a=>⟨fun _=>a,fun b=>absurd h b⟩,fun a=>a.1 h⟩
 · rw [Ad h];congr 2;exact En ⟨fun a=>⟨fun b=>absurd b h,fun _=>a⟩,fun a=>a.2 h⟩
end
section
variable {n:Nd}
theorem tB (h:n.kind=11):JI n↔No n.unit∧0≤n.n∧n.n≤999999999999∧(n.unit=A8→n.n≤1)∧n.kids.length=0∧CF n ⟨0,ByteArray.empty,n.unit,n.n,0,0,0,⟨0,[]⟩,[],0⟩:=by unfold JI;simp [h]
theorem uG (h:n.kind=12):JI n↔KC n.name∧n.kids.length=0∧CF n ⟨0,n.name,ByteArray.empty,0,0,0,0,⟨0,[]⟩,[],0⟩:=by unfold JI;simp [h]
theorem tU (h:n.kind=13):JI n↔Ia n.n∧n.kids.length=0∧CF n ⟨0,ByteArray.empty,ByteArray.empty,n.n,0,0,0,⟨0,[]⟩,[],0⟩:=by unfold JI;simp [h]
theorem vR (h:n.kind=14):JI n↔RN n.name∧n.kids.length=0∧CF n ⟨0,n.name,ByteArray.empty,0,0,0,0,⟨0,[]⟩,[],0⟩:=by unfold JI;simp [h]
theorem sB (h:n.kind=15):JI n↔n.kids.length=1∧CF n ⟨0,ByteArray.empty,ByteArray.empty,0,0,0,0,⟨0,[]⟩,[],0⟩:=by unfold JI;simp [h]
theorem oM (h:n.kind=16):JI n↔CF n ⟨0,n.name,ByteArray.empty,0,0,0,0,⟨0,[]⟩,[],0⟩∧n.kids.length=2∧PG n.name∧(n.name=MK→∀ k,n.kids[1]?=some k→Kc k):=by unfold JI;simp [h]
theorem rW (h:n.kind=17):JI n↔(n.name=J2∨n.name=Gf)∧CF n ⟨0,n.name,ByteArray.empty,0,0,0,0,⟨0,[]⟩,[],0⟩∧2≤n.kids.length:=by unfold JI;simp [h]
theorem n4 (h:n.kind=18):JI n↔CF n ⟨0,ByteArray.empty,ByteArray.empty,0,0,0,0,n.tab,[],0⟩∧VR n.tab∧n.kids.length=1:=by unfold JI;simp [h]
theorem TT (h:JI n):n.kind=11∨n.kind=12∨n.kind=13∨n.kind=14∨n.kind=15∨n.kind=16∨n.kind=17∨n.kind=18:=by
 unfold JI at h
 rcases h with h | h | h | h | h | h | h | h
 all_goals
   have:=h.1
   simp [this]
end
def GR (l:List Nd) (c d:Int):Prop:=(∀ k∈l,LV k∧d+Jo k≤41)∧c+E8 l≤2000
theorem fH {l:List Nd} {c d:Int} (h:l.length=0) (hc:c≤2000):GR l c d∧c=c+E8 l:=by
 obtain rfl:=List.eq_nil_of_length_eq_zero h
 exact ⟨⟨(fun k hk=>(by cases hk)),(by simp only [E8];omega)⟩,(by simp [E8])⟩
theorem dA {x:Nd} {c d:Int}:GR [x] c d↔LV x∧c+C5 x≤2000∧d+Jo x≤41:=by
 unfold GR
 simp only [List.mem_singleton,forall_eq,E8,Nat.add_zero]
 exact ⟨fun a=>⟨a.1.1,a.2,a.1.2⟩,fun a=>⟨⟨a.1,a.2.2⟩,a.2.1⟩⟩
theorem Qk {x y:Nd} {c d:Int}:GR [x,y] c d↔(LV x∧c+C5 x≤2000∧d+Jo x≤41)∧LV y∧c+C5 x+C5 y≤2000∧d+Jo y≤41:=by
 unfold GR
 simp only [List.mem_cons,List.not_mem_nil,or_false,forall_eq_or_imp,forall_eq,E8,Nat.add_zero,Int.natCast_add]
 constructor
 · rintro ⟨⟨⟨a,b⟩,c',d'⟩,e⟩;exact ⟨⟨a,by omega,b⟩,c',by omega,d'⟩
 · rintro ⟨⟨a,b,c'⟩,d',e,f⟩;exact ⟨⟨⟨a,c'⟩,d',f⟩,by omega⟩
abbrev qU (g:Ck→Nd→Int→Option (Bool×Int)) (n:Nd):Prop:=∀ (c d:Int),0≤c→c≤2000→0≤d→d≤41→Out (g ⟨c⟩ n d) (LV n∧c+C5 n≤2000∧d+Jo n≤41) (c+C5 n)
theorem OP {g:Ck→Nd→Int→Option (Bool×Int)} {b a:Ck→Nd→Int→Option (Bool×Int)} {l:Ck→List Nd→Int→Option (Bool×Int)} {n:Nd} (h:qU g n) {c d:Int} (h0:0≤c) (h1:c≤2000) (h2:0≤d) (h3:d≤41) :
   Out (Bi g b a l ⟨c⟩ n d) ((LV n∧Kc n)∧c+C5 n≤2000∧d+Jo n≤41) (c+C5 n):=by
 rw [Bi]
 simp only [CP,D3,C7,Kq,Option.bind_some]
 refine FJ (h c d h0 h1 h2 h3) (fun hp=>?_) fun z hp=>El fun q=>hp ⟨q.1.1,q.2⟩
 show Out (AO (n.kind=11) (AO (n.unit=CH) (some (mb (Ia n.n),c+C5 n)) (some (false,c+C5 n))) (some (false,c+C5 n))) _ _
 rw [Pd,Pd]
 exact KK ⟨fun a=>⟨⟨hp.1,a⟩,hp.2⟩,fun a=>a.1.2⟩
theorem UE {g n':Ck→Nd→Int→Option (Bool×Int)} {b:Ck→Nd→Int→Option (Bool×Int)} {l:Ck→List Nd→Int→Option (Bool×Int)} {n:Nd} (hg:∀ k∈n.kids,qU g k)
   (hn:∀ k∈n.kids,∀ c d:Int,0≤c→c≤2000→0≤d→d≤41→Out (n' ⟨c⟩ k d) ((LV k∧Kc k)∧c+C5 k≤2000∧d+Jo k≤41) (c+C5 k)) {c d:Int} (h0:0≤c) (h1:c≤2000) (h2:0≤d) (h3:d≤40) :
   Out (Bj g b n' l ⟨c⟩ n d) ((n.kids.length=2∧PG n.name∧(n.name=MK→∀ k,n.kids[1]?=some k→Kc k))∧GR n.kids c (d+1)) (c+E8 n.kids):=by
 rw [Bj,CT (by omega)]
 simp only [CP,D3,C7]
 generalize hl:n.kids=ks at *
 by_cases hlen:((ks.length:Nat):Int)=2
 rotate_left
 · rw [Ad hlen];exact El fun q=>hlen (by have:=q.1.1;omega)
 rw [Ah hlen]
 match ks,hlen with
 | [x,y],_ =>
 simp only [List.getElem?_cons_zero,List.getElem?_cons_succ,Option.bind_some]
 refine FJ (hg x (by simp) c (d+1) h0 h1 (by omega) (by omega)) (fun hx=>?_) fun z hx=>El fun q=>hx (Qk.1 q.2).1
 dsimp only
 rw [cond_true]
 have hsz:E8 [x,y]=C5 x+C5 y:=by simp [E8]
 have hy:=fun hc=>hg y (by simp) (c+C5 x) (d+1) (by omega) hc (by omega) (by omega)
 have hn':=fun hc=>hn y (by simp) (c+C5 x) (d+1) (by omega) hc (by omega) (by omega)
 have hy:=hy hx.2.1
 have hn':=hn' hx.2.1
 by_cases hs:n.name=MK
 · rw [Ah hs]
   refine FN hn' ⟨fun a=>⟨⟨rfl,.inl hs,fun _ k hk=>by cases hk;exact a.1.2⟩,Qk.2 ⟨hx,a.1.1,a.2⟩⟩,fun a=>?_⟩ (fun a=>by rw [hsz];omega)
   have:=(Qk.1 a.2).2
   exact ⟨⟨this.1,a.1.2.2 hs y rfl⟩,this.2⟩
 · rw [Ad hs]
   have fin:∀ hop:PG n.name,Out ((g ⟨c+C5 x⟩ y (d+1)).bind fun (a,b)=>some (a,b)) ((([x,y]:List Nd).length=2∧PG n.name∧(n.name=MK→∀ k,some y=some k→Kc k))∧GR [x,y] c (d+1)) (c+E8 [x,y]):=fun hop =>
     FN hy ⟨fun a=>⟨⟨rfl,hop,fun e=>absurd e hs⟩,Qk.2 ⟨hx,a⟩⟩,fun a=>(Qk.1 a.2).2⟩ (fun a=>by rw [hsz];omega)
   have step:∀ {s:ByteArray} {A:Option (Bool×Int)},(n.name=s→PG n.name)→(n.name≠s→Out A ((([x,y]:List Nd).length=2∧PG n.name∧(n.name=MK→∀ k,some y=some k→Kc k))∧GR [x,y] c (d+1)) (c+E8 [x,y])) →
       Out (AO (n.name=s) ((g ⟨c+C5 x⟩ y (d+1)).bind fun (a,b)=>some (a,b)) A) ((([x,y]:List Nd).length=2∧PG n.name∧(n.name=MK→∀ k,some y=some k→Kc k))∧GR [x,y] c (d+1)) (c+E8 [x,y]):=by
     intro s A h4 h5
     by_cases h:n.name=s
     · rw [Ah h];exact fin (h4 h)
     · rw [Ad h];exact h5 h
   refine step (fun e=>by unfold PG;simp [e]) fun e1=>?_
   refine step (fun e=>by unfold PG;simp [e]) fun e2=>?_
   refine step (fun e=>by unfold PG;simp [e]) fun e3=>?_
   refine step (fun e=>by unfold PG;simp [e]) fun e4=>?_
   refine step (fun e=>by unfold PG;simp [e]) fun e5=>?_
   refine step (fun e=>by unfold PG;simp [e]) fun e6=>?_
   refine step (fun e=>by unfold PG;simp [e]) fun e7=>?_
   refine step (fun e=>by unfold PG;simp [e]) fun e8=>?_
   refine step (fun e=>by unfold PG;simp [e]) fun e9=>?_
   refine step (fun e=>by unfold PG;simp [e]) fun nH=>?_
   exact El fun q=>by
     have:=q.1.2.1
     unfold PG at this
     simp [hs,e1,e2,e3,e4,e5,e6,e7,e8,e9,nH] at this
theorem Xo {A L B T:Prop} {x:Int}:(A∧¬ x < 0∧¬ 999999999999 < x∧(T→¬ 1 < x∧L∧B)∧(¬ T→L∧B))↔A∧0≤x∧x≤999999999999∧(T→x≤1)∧L∧B:=by
 constructor
 · rintro ⟨a,b,c,d,e⟩
   by_cases t:T
   · exact ⟨a,by omega,by omega,fun _=>by have:=(d t).1;omega,(d t).2⟩
   · exact ⟨a,by omega,by omega,fun h=>absurd h t,e t⟩
 · rintro ⟨a,b,c,d,e⟩
   exact ⟨a,by omega,by omega,fun t=>⟨by have:=d t;omega,e⟩,fun _=>e⟩
theorem VP:∀ (q:Nat) (n:Nd),DS n→3*C5 n≤q→qU (Ao q) n:=by
 intro q
 induction q using Nat.strongRecOn with
 | _ q ih =>
 intro n hok hq c d h0 h1 h2 h3
 have hsz:=C9 n
 obtain ⟨q,rfl⟩:∃ k,q=k+1:=⟨q - 1,by omega⟩
 obtain ⟨hps,hkl,hks⟩:=Gw hok
 have hE:∀ k∈n.kids,∀ q',q≤q'+2→q' < q+1→qU (Ao q') k:=fun k hk q' h4 h5=>ih q' h5 k (hks k hk) (by have:=Jh hk;omega)
 rw [Ao,BM]
 refine FJ (MZ n h0 h1) (fun hp=>?_) fun z hp=>El fun a=>hp ⟨by omega,by have:=H6 n;omega⟩
 dsimp only
 rw [cond_true]
 refine Out.congr (P:=JI n∧GR n.kids (c+1) (d+1)) (t:=(c+1)+E8 n.kids) ?_ ?_ (fun _=>by omega)
 rotate_left
 · rw [Mc,H6]
   unfold GR
   have hd:=@O9 n.kids
   constructor
   · rintro ⟨a,b,e⟩
     refine ⟨⟨a,fun k hk=>(b k hk).1⟩,by omega,?_⟩
     have:=(hd (m:=(40 - d).toNat)).2 fun k hk=>by have:=(b k hk).2;omega
     omega
   · rintro ⟨⟨a,b⟩,e,f⟩
     refine ⟨a,fun k hk=>⟨b k hk,?_⟩,by omega⟩
     have:=(hd (m:=Vy n.kids)).1 (Nat.le_refl _) k hk
     omega
 have hc1:=hp.1
 have hd1:=hp.2
 rw [CT (a:=d) (b:=1) (by omega)]
 have e0:(((n.kids.length:Nat):Int)=0)=(n.kids.length=0):=propext (by omega)
 simp only [CP,Io,E6,D3,C7,TP,Tp,Kq,V3,pZ _ hps,MG _ _ hps,Option.bind_some,e0]
 have hleaf:∀ {B:Prop},(B↔JI n)→(B→n.kids.length=0)→Out (some (mb B,c+1)) (JI n∧GR n.kids (c+1) (d+1)) (c+1+E8 n.kids):=fun hB hk=>(KK hB).congr ⟨fun a=>⟨a,(fH (hk (hB.2 a)) hc1).1⟩,fun a=>a.1⟩ fun a=>(fH (d:=d+1) (hk (hB.2 a.1)) hc1).2
 have hone:∀ {B:Prop},(JI n↔B∧n.kids.length=1)→B→n.kids.length=1→Out ((n.kids[0]?).bind fun x=>(Ao q ⟨c+1⟩ x (d+1)).bind fun (a,b)=>some (a,b)) (JI n∧GR n.kids (c+1) (d+1)) (c+1+E8 n.kids):=by
   intro B hB hb hl
   have hE0:=fun k hk=>hE k hk q (by omega) (by omega)
   have hx:=hB.2 ⟨hb,hl⟩
   generalize n.kids=ks at *
   match ks,hl with
   | [x],_ =>
   simp only [List.getElem?_cons_zero,Option.bind_some]
   refine FN (hE0 x (by simp) (c+1) (d+1) (by omega) hc1 (by omega) (by omega)) ⟨fun a=>⟨hx,dA.2 a⟩,fun a=>dA.1 a.2⟩ fun _=>?_
   simp [E8]
 by_cases jC:n.kind=11
 · rw [Ah jC]
   simp only [Pd,RX,Vc]
   refine hleaf ?_ ?_
   · rw [tB jC];exact Xo
   · intro h;exact (Xo.1 h).2.2.2.2.1
 rw [Ad jC]
 by_cases iI:n.kind=12
 · rw [Ah iI]
   simp only [Pd,RX,Vc]
   refine hleaf ?_ ?_
   · rw [uG iI]
   · intro h;exact h.2.1
 rw [Ad iI]
 by_cases lS:n.kind=13
 · rw [Ah lS]
   simp only [Pd,RX,Vc]
   refine hleaf ?_ ?_
   · rw [tU lS]
   · intro h;exact h.2.1
 rw [Ad lS]
 by_cases kD:n.kind=14
 · rw [Ah kD]
   simp only [Pd,RX,Vc]
   refine hleaf ?_ ?_
   · rw [vR kD]
   · intro h;exact h.2.1
 rw [Ad kD]
 by_cases kR:n.kind=15
 · rw [Ah kR]
   have e:=sB kR
   refine Db (fun hl=>Db (fun hb=>hone (e.trans And.comm) hb (by omega)) fun a=>(e.1 a.1).2) fun a=>?_
   have:=(e.1 a.1).1
   omega
 rw [Ad kR]
 by_cases YI:n.kind=16
 · rw [Ah YI]
   have e:=oM YI
   refine Db (fun hb=>?_) fun a=>(e.1 a.1).1
   obtain ⟨q,rfl⟩:∃ k,q=k+1:=⟨q - 1,by omega⟩
   rw [Ax]
   refine FN (UE (g:=Ao q) (b:=Ax q) (n':=As q) (l:=An q) (fun k hk=>hE k hk q (by omega) (by omega)) (fun k hk c d a1 a2 a3 a4=>?_) (by omega) hc1 h2 hd1) ?_ fun _=>rfl
   · obtain ⟨q,rfl⟩:∃ k,q=k+1:=⟨q - 1,by have:=Mn hk;have:=C9 k;omega⟩
     rw [As]
     exact OP (hE k hk q (by omega) (by omega)) a1 a2 a3 a4
   · rw [e]
     exact ⟨fun a=>⟨⟨hb,a.1⟩,a.2⟩,fun a=>⟨a.1.2,a.2⟩⟩
 rw [Ad YI]
 by_cases hO:n.kind=17
 · rw [Ah hO]
   have e:=rW hO
   have hall:(n.name=J2∨n.name=Gf)→Out (AO (CF n ⟨0,n.name,ByteArray.empty,0,0,0,0,⟨0,[]⟩,[],0⟩) (AO (2≤((n.kids.length:Nat):Int)) ((An q ⟨c+1⟩ n.kids (d+1)).bind fun (a,b)=>some (a,b)) (some (false,c+1))) (some (false,c+1))) (JI n∧GR n.kids (c+1) (d+1)) (c+1+E8 n.kids):=by
     intro hn
     refine Db (fun hb=>Db (fun hl=>?_) fun a=>?_) fun a=>(e.1 a.1).2.1
     · obtain ⟨q,rfl⟩:∃ k,q=k+1:=⟨q - 1,by have:=Tl n.kids;omega⟩
       rw [An,Bo,EA hkl,List.drop_zero]
       dsimp only
       refine FN (I1 (g:=Ao q) (p:=LV) (d:=d+1) (by omega) hc1 fun k hk c' b0 b1=>hE k hk q (by omega) (by omega) c' (d+1) b0 b1 (by omega) (by omega)) ?_ fun _=>rfl
       rw [e]
       exact ⟨fun a=>⟨⟨hn,hb,by omega⟩,a⟩,fun a=>a.2⟩
     · have:=(e.1 a.1).2.2
       omega
   by_cases hn1:n.name=J2
   · rw [Ah hn1];exact hall (.inl hn1)
   · rw [Ad hn1]
     exact Db (fun hn2=>hall (.inr hn2)) fun a=>(e.1 a.1).1.resolve_left hn1
 rw [Ad hO]
 by_cases iC:n.kind=18
 · rw [Ah iC]
   have e:=n4 iC
   refine Db (fun hb=>Db (fun ht=>Db (fun hl=>hone (B:=CF n ⟨0,ByteArray.empty,ByteArray.empty,0,0,0,0,n.tab,[],0⟩∧VR n.tab) (e.trans (by rw [and_assoc])) ⟨hb,ht⟩ (by omega)) fun a=>?_) fun a=>(e.1 a.1).2.1) fun a=>(e.1 a.1).1
   have:=(e.1 a.1).2.2
   omega
 rw [Ad iC]
 exact El fun a=>by have:=TT a.1;omega
def Le {β:Type} (a b:Option β):Prop:=∀ y,a=some y→b=some y
section
variable {α β γ δ ρ:Type}
theorem Le.refl (a:Option β):Le a a:=fun _ h=>h
theorem GQ {a a':Option α} {f g:α→Option β} (h:Le a a') (k:∀ x,Le (f x) (g x)):Le (a.bind f) (a'.bind g):=by
 intro y hy
 cases a with
 | none=>cases hy
 | some x=>rw [h x rfl];exact k x y hy
theorem Un {b:Bool} {x x' y y':Option β} (h:Le x x') (k:Le y y'):Le (cond b x y) (cond b x' y'):=by cases b;exact k;exact h
theorem gK {n:Nat} {x x':Option β} (h:Le x x'):Le (IZ n x) (IZ n x'):=by
 unfold IZ
 split
 · exact h
 · exact Le.refl _
theorem Ta {body body':Nat→α→γ→Option (Lp γ δ ρ)} {done:γ→δ} (h:∀ i y x,Le (body i y x) (body' i y x)):∀ (l:List α) (i:Nat) (x:γ),Le (A2 body done l i x) (A2 body' done l i x)
 | [],_,_=>Le.refl _
 | a::l,i,x=>by
   rw [A2,A2]
   refine GQ (h i a x) fun z=>?_
   cases z with
   | nx x'=>exact Ta h l (i+1) x'
   | ex d=>exact Le.refl _
   | rt v=>exact Le.refl _
end
theorem PA:∀ q:Nat,(∀ c n d,Le (Ao q c n d) (Ao (q+1) c n d))∧(∀ c n d,Le (Ax q c n d) (Ax (q+1) c n d))∧(∀ c n d,Le (As q c n d) (As (q+1) c n d))∧(∀ c n d,Le (An q c n d) (An (q+1) c n d))
 | 0=>⟨(fun _ _ _ _ h=>nomatch h),(fun _ _ _ _ h=>nomatch h),(fun _ _ _ _ h=>nomatch h),(fun _ _ _ _ h=>nomatch h)⟩
 | q+1=>by
   obtain ⟨i1,i2,i3,i4⟩:=PA q
   refine ⟨fun c n d=>?_,fun c n d=>?_,fun c n d=>?_,fun c n d=>?_⟩
   · rw [Ao,Ao,BM,BM]
     repeat' first
       | exact Le.refl _
       | exact i1 _ _ _
       | exact i2 _ _ _
       | exact i4 _ _ _
       | refine Un ?_ ?_
       | refine GQ ?_ fun ⟨_,_⟩=>?_
       | refine GQ ?_ fun _=>?_
   · rw [Ax,Ax,Bj,Bj]
     repeat' first
       | exact Le.refl _
       | exact i1 _ _ _
       | exact i3 _ _ _
       | refine Un ?_ ?_
       | refine GQ ?_ fun ⟨_,_⟩=>?_
       | refine GQ ?_ fun _=>?_
   · rw [As,As,Bi,Bi]
     exact GQ (i1 _ _ _) fun _=>Le.refl _
   · rw [An,An,Bo,Bo]
     refine GQ (gK (Ta (fun i y x=>?_) _ _ _)) fun _=>Le.refl _
     rw [BC,BC]
     exact GQ (i1 _ _ _) fun _=>Le.refl _
theorem Xj {β:Type} {f:Nat→Option β} (h:∀ q,Le (f q) (f (q+1))) {q:Nat} {y:β} (hy:f q=some y):b6 f=some y:=by
 refine RZ q fun m hm=>?_
 induction m with
 | zero=>obtain rfl:q=0:=by omega
         exact hy
 | succ m ih =>
   rcases Nat.lt_or_ge m q with hlt | hge
   · obtain rfl:q=m+1:=by omega
     exact hy
   · exact h m y (ih hge)
theorem WT {n:Nd} (hok:DS n):qU CW n:=by
 intro c d h0 h1 h2 h3
 obtain ⟨z,hz,hz2⟩:=VP (3*C5 n) n hok (Nat.le_refl _) c d h0 h1 h2 h3
 exact ⟨z,Xj (fun q=>(PA q).1 _ _ _) hz,hz2⟩
theorem W7 {n:Nd} (hok:DS n) {c d:Int} (h0:0≤c) (h1:c≤2000) (h2:0≤d) (h3:d≤41):Out (Cp ⟨c⟩ n d) ((LV n∧Kc n)∧c+C5 n≤2000∧d+Jo n≤41) (c+C5 n):=by
 obtain ⟨z,hz,hz2⟩:=OP (g:=Ao (3*C5 n)) (b:=Ax (3*C5 n)) (a:=As (3*C5 n)) (l:=An (3*C5 n)) (VP (3*C5 n) n hok (Nat.le_refl _)) h0 h1 h2 h3
 exact ⟨z,Xj (q:=3*C5 n+1) (fun q=>(PA q).2.2.1 _ _ _) (by rw [As];exact hz),hz2⟩
end Mo
end Go.Proofs.YtkfplcngmiljaaaGreatDoor
