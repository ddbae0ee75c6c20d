/- Part of a proof: see the last text. -/
import Derived.Test.YtnijkdknnmgoeaaGreatAxi
set_option linter.unusedVariables false
set_option linter.unusedSimpArgs false
namespace Go.Proofs.YtnijkdknnmgoeaaGreat
open AI Go
namespace Mo
set_option maxRecDepth 100000
set_option maxHeartbeats 4000000
noncomputable def DG  (depth:Int) (i0:Nat) (e0:Nd) (w0_0:Int):Option (Lp Int Int (Bool×Int)):=(Cw (⟨w0_0⟩:Ck) e0 depth).bind fun (y1a,y1b)=>cond y1a (some (.nx y1b)) (some (.rt (false,y1b)))
noncomputable def CS  (c:Ck) (list:(List Nd)) (depth:Int):Option (Bool×Int):=(G8 list.length (Bk (fun i y x=>DG  depth i y x) (fun x=>x) (list.drop 0) 0 c.nodes)).bind (Hv (fun (w0_0_2:Int)=>some (true,w0_0_2)) (fun v=>some v))
theorem Hw {c:Ck} {list:(List Nd)} {depth:Int} {yR:Bool} {qc_nodesR:Int} (hS:Sound P G (.call 79 [.ptr 0 0,.sl .lost list.length (B5 list),.sc (.int .i64 depth),.fn (.func 80) [.ptr 0 0] []] ⟨[(0,.cells (EB c))],1,[],0⟩ (.ret (.sc (.bool yR))) ⟨[(0,.cells [.sc (.int .i64 qc_nodesR)])],1,[],0⟩)) (u0:Nat) (hnb:[u0].Nodup:=by decide) (hnt:([]:List Nat).Nodup:=by decide):Cd.ok P G (.callU 79 [.ptr u0 0,.sl .lost list.length (B5 list),.sc (.int .i64 depth),.fn (.func 80) [.ptr u0 0] []] (.ret (.sc (.bool yR))) [(u0,.cells (EB c))] [] [(u0,.cells [.sc (.int .i64 qc_nodesR)])] []) :=
 Dh (M:=[.cells (EB c)]) (M2:=[.cells [.sc (.int .i64 qc_nodesR)]]) (T:=[]) (T2:=[]) (k:=1) (j:=0) Hd.Ab _ _ _ _ hS rfl rfl rfl rfl rfl hnb hnt rfl rfl (.cons (.cells (.pl (IT.pl c))) .nil) (.cons (.cells (.pl (Bi rfl rfl))) .nil) (.cons (.ptr (by decide)) (.cons (.pl (Au.CI list)) (.cons (.pl rfl) (.cons (.fn (.cons (.ptr (by decide)) .nil) (.pl rfl)) .nil)))) (.pl rfl) (fun e he=>by simp only [List.mem_singleton] at he;subst he;exact (.arg (.here .ptr)))
theorem Gy   {c:Ck} {list:(List Nd)} {depth:Int} {yR:Bool} {qc_nodesR:Int} (h:CS  c list depth=some (yR,qc_nodesR)):Sound P G (.call 79 [.ptr 0 0,.sl .lost list.length (B5 list),.sc (.int .i64 depth),.fn (.func 80) [.ptr 0 0] []] ⟨[(0,.cells (EB c))],1,[],0⟩ (.ret (.sc (.bool yR))) ⟨[(0,.cells [.sc (.int .i64 qc_nodesR)])],1,[],0⟩):=by
 unfold CS at h
 refine Di Hd.mixed (Ba Tryz.func79 pR ?_)
 revert h
 refine EQ (fun Q v=>GH P G Tryz.f79 1 ⟨[(0,.cells (EB c))],1,[],0⟩ Q (.sc (.bool v.1)) ⟨[(0,.cells [.sc (.int .i64 v.2)])],1,[],0⟩) (fun i0 (w0_0:Int) (j0:List Value)=>fr 23 [(2,.sc (.int .i64 depth)),(3,.fn (.func 80) [.ptr 0 0] []),(11,.sl .lost list.length (B5 list)),(12,.sc (.int .i64 ((list.length:Nat):Int))),(13,.sc (.int .i64 ((i0:Nat):Int)))] [8,14,20,21] j0) (fun (w0_0:Int)=>⟨[(0,.cells [.sc (.int .i64 w0_0)])],1,[],0⟩) (fun (w0_0:Int) (jx:List Value)=>fr 23 [] [8,14,20,21] jx) (fun (w0_0:Int)=>⟨[(0,.cells [.sc (.int .i64 w0_0)])],1,[],0⟩) [.bool false] (EH [] 0 (sb XV 52) [.code (sb XV 7)] (Ae 300 []) (by kernel_rfl)) ?_ ?_ ?_ (fun v h=>by cases h;exact .outer .body)
 rintro i0 w0_0 j0 hge hq
 exact C0 (Ae 300 [pb (I3 hge)]) (by kernel_rfl) (hq (js 4 j0 [(1,.bool false)]))
 rintro i0 e0 w0_0 j0 r he0 hi0 mi0 k
 show DG  depth i0 e0 w0_0=some r→_
 unfold DG
 refine AB ?_
 rintro ⟨y1a,y1b⟩ hy1
 dsimp only
 let o1:List (PC P G):=[pb (Gw hi0),Dw (Dp .lost he0),AM (IX (HZ hy1) 0)]
 refine Ai (fun hv=>?_) fun hv=>?_
 subst hv
 rintro ⟨⟩
 exact BD Hd.Ab [fq (Au.CI list)] [none] (Ae 300 (o1++[pi mi0])) (by kernel_rfl) (k [(jv j0 0),.bool true,.bool true,.bool false])
 subst hv
 rintro ⟨⟩
 exact Aq Hd.Ab _ _ [] [none] (Ae 300 o1) (by kernel_rfl) (.Ia k)
 rintro w0_0_2 jx_2
 intro h
 have hE:=Option.some.inj h
 obtain ⟨hE0,hF0⟩:=Prod.mk.inj hE
 subst hE0 hF0
 exact Aq Hd.Ab _ _ [] [none] (CH 300 []) (by kernel_rfl) .body
noncomputable def yC:Code:=Bo Tryz.f45
theorem yV:Tryz.f45.body=some yC:=by kernel_rfl
noncomputable def DC  (n:Nd):Option Bool:=cond (CN n.kind 1) ((BA (⟨0⟩:Ck) n 1).bind fun (y1a,y1b)=>cond y1a ((Bl n (⟨0,ByteArray.empty,ByteArray.empty,0,0,0,0,(⟨0,[]⟩:Fn),[],0⟩:Nd)).bind fun y2=>cond y2 ((CS (⟨y1b⟩:Ck) n.kids 2).bind fun (y3a,y3b)=>some y3a) (some false)) (some false)) ((DL (⟨0⟩:Ck) n 1).bind fun (y4a,y4b)=>some y4a)
theorem DT   {n:Nd} {yR:Bool} (h:DC  n=some yR):Pure P G 45 [.agg (Bq n)] (.sc (.bool yR)):=by
 unfold DC at h
 refine DD Hd.mixed Hd.Ab (Ba Tryz.func45 yV ?_) (Bi (Au.D1 n) rfl) rfl
 revert h
 refine Ai (fun hb1=>?_) fun hb1=>?_
 refine AB ?_
 rintro ⟨y1a,y1b⟩ hy1
 dsimp only
 let o1:List (PC P G):=[pn hb1,AM (CV (Cy hy1) 1)]
 refine Ai (fun hv=>?_) fun hv=>?_
 subst hv
 refine AB fun y2 hy2=>?_
 let o2:List (PC P G):=o1++[Et (.r (.g (.r (.r (.r (.r (.r (.r (.r (.r (.z (.z (.r .nil))))))))))) .nil)) (Bj hy2)]
 refine Ai (fun hv=>?_) fun hv=>?_
 subst hv
 refine AB ?_
 rintro ⟨y3a,y3b⟩ hy3
 dsimp only
 intro h
 have hE:=Option.some.inj h
 subst hE
 exact rS (Ae 300 (o2++[AM (Hw (Gy hy3) 1)])) (by kernel_rfl)
 subst hv
 rintro ⟨⟩
 exact rS (Ae 300 o2) (by kernel_rfl)
 subst hv
 rintro ⟨⟩
 exact rS (Ae 300 o1) (by kernel_rfl)
 refine AB ?_
 rintro ⟨y4a,y4b⟩ hy4
 dsimp only
 intro h
 have hE:=Option.some.inj h
 subst hE
 exact rS (Ae 300 [pn hb1,AM (AZ (FE hy4) 1)]) (by kernel_rfl)
noncomputable def zC:Code:=Bo Tryz.f81
theorem xK:Tryz.f81.body=some zC:=by kernel_rfl
noncomputable def Ey  :Option Unit:=some ()
theorem Kq  (hS:Sound P G (.call 81 [] ⟨[],0,[],0⟩ (.ret (.Bh [.ptr 0 0,.fn (.func 127) [] [.ptr 0 0]])) ⟨[(0,.cells [.sl .full 0 []])],1,[],0⟩)) (nx nr:Nat):Cd.ok P G (.callN 81 [] nx nr (.Bh [.ptr (nx+0) 0,.fn (.func 127) [] [.ptr (nx+0) 0]]) [((nx+0),.cells [.sl .full 0 []])] 1 [] 0) :=
 Sy Hd.Ab hS rfl (.Bh (.cons (.ptr (by decide)) (.cons (.fn (.pl rfl) (.cons (.ptr (by decide)) .nil)) .nil))) (.cons (.cells (.pl (Bi (FV rfl) rfl))) .nil)
theorem I9  (h:Ey =some ()):Sound P G (.call 81 [] ⟨[],0,[],0⟩ (.ret (.Bh [.ptr 0 0,.fn (.func 127) [] [.ptr 0 0]])) ⟨[(0,.cells [.sl .full 0 []])],1,[],0⟩):=by
 unfold Ey at h
 refine RB Hd.mixed (NS (m:=1) Tryz.func81 xK ?_)
 revert h
 intro h
 exact PU (n:=1) (m0:=0) Hd.Ab _ _ [0] [1] [⟨.Bh [.ptr 0 0,.fn (.func 127) [] [.ptr 0 0]],.Bh [.ptr 0 0,.fn (.func 127) [] [.ptr 0 0]],(.under (BE rfl (BE (rG rfl (BE rfl rfl)) rfl)))⟩] [yW [.sl .full 0 []] (Bi (FV rfl) rfl)] _ _ (Ae 300 []) (Nat.zero_le _) (Nat.zero_le _) (by kernel_rfl) .body
noncomputable def rW:Code:=Bo Tryz.f82
theorem xD:Tryz.f82.body=some rW:=by kernel_rfl
noncomputable def Db   (i0:Nat) (e0:Nd) (w2_m:(Mm ByteArray ByteArray)) (w3_m:(Mm ByteArray ByteArray)) (w4_m:(Mm Int ByteArray)):Option (Lp ((Mm ByteArray ByteArray)×(Mm ByteArray ByteArray)×(Mm Int ByteArray)) ((Mm ByteArray ByteArray)×(Mm ByteArray ByteArray)×(Mm Int ByteArray)) Sc):=cond (CN e0.kind 2) (cond ((w2_m.get e0.name).isSome) (some (.nx (w2_m,w3_m,w4_m))) (some (.nx ((w2_m.set e0.name e0.unit),w3_m,w4_m)))) (cond (CN e0.kind 3) (cond ((w3_m.get e0.name).isSome) (some (.nx (w2_m,w3_m,w4_m))) (some (.nx (w2_m,(w3_m.set e0.name e0.unit),w4_m)))) (cond (CN e0.kind 4) (cond ((w4_m.get e0.n).isSome) (some (.nx (w2_m,w3_m,w4_m))) (some (.nx (w2_m,w3_m,(w4_m.set e0.n e0.name))))) (some (.nx (w2_m,w3_m,w4_m)))))
noncomputable def D2  (source:Nd):Option Sc:=(G8 source.kids.length (Bk (fun i y x=>Db   i y x.1 x.2.1 x.2.2) (fun x=>(x.1,x.2.1,x.2.2)) (source.kids.drop 0) 0 ((Mm.nil:Mm ByteArray ByteArray),(Mm.nil:Mm ByteArray ByteArray),(Mm.nil:Mm Int ByteArray)))).bind (Hv (fun ((w2_m_1,w3_m_1,w4_m_1):((Mm ByteArray ByteArray)×(Mm ByteArray ByteArray)×(Mm Int ByteArray)))=>some (⟨w2_m_1,w3_m_1,w4_m_1⟩:Sc)) (fun v=>some v))
theorem Lw {source:Nd} {y0R:Sc} (hS:Sound P G (.call 82 [.agg (Bq source)] ⟨[],0,[],0⟩ (.ret (.agg [.mp 2,.mp 3,.mp 4])) ⟨[(4,(CP y0R.Aa)),(3,(Bp y0R.lines)),(2,(Bp y0R.facts))],5,[],0⟩)) (nx nr:Nat):Cd.ok P G (.callN 82 [.agg (Bq source)] nx nr (.agg [.mp (nx+2),.mp (nx+3),.mp (nx+4)]) [((nx+4),(CP y0R.Aa)),((nx+3),(Bp y0R.lines)),((nx+2),(Bp y0R.facts))] 5 [] 0) :=
 Sy Hd.Ab hS (Bi (Au.D1 source) rfl) (.agg (.cons (.mp (by decide)) (.cons (.mp (by decide)) (.cons (.mp (by decide)) .nil)))) (.cons (Bv (fun _=>rfl)) (.cons (Bv (fun _=>rfl)) (.cons (Bv (fun _=>rfl)) .nil)))
theorem JK {source:Nd} {y0R:Sc} (h:D2 source=some y0R):Sound P G (.call 82 [.agg (Bq source)] ⟨[],0,[],0⟩ (.ret (.agg [.mp 2,.mp 3,.mp 4])) ⟨[(4,(CP y0R.Aa)),(3,(Bp y0R.lines)),(2,(Bp y0R.facts))],5,[],0⟩):=by
 unfold D2 at h
 refine RB Hd.mixed (NS (m:=5) Tryz.func82 xD ?_)
 revert h
 refine EQ (fun Q v=>GH P G Tryz.f82 5 ⟨[],0,[],0⟩ Q (.agg [.mp 2,.mp 3,.mp 4]) ⟨[(4,(CP v.Aa)),(3,(Bp v.lines)),(2,(Bp v.facts))],5,[],0⟩) (fun i0 ((w2_m,w3_m,w4_m):((Mm ByteArray ByteArray)×(Mm ByteArray ByteArray)×(Mm Int ByteArray))) (j0:List Value)=>fr 81 [(2,.ptr 1 0),(3,.ptr 5 0),(17,.sl .lost source.kids.length (B5 source.kids)),(18,.sc (.int .i64 ((source.kids.length:Nat):Int))),(19,.sc (.int .i64 ((i0:Nat):Int)))] [7,9,11,20,25,26,34,35,36,43,44,52,53,54,61,62,70,71,72] j0) (fun ((w2_m,w3_m,w4_m):((Mm ByteArray ByteArray)×(Mm ByteArray ByteArray)×(Mm Int ByteArray)))=>⟨[(5,.cells [.mp 2,.mp 3,.mp 4]),(4,(CP w4_m)),(3,(Bp w3_m)),(2,(Bp w2_m)),(1,.cells [.sc (.map none),.sc (.map none),.sc (.map none)]),(0,.cells (Bq source))],6,[],0⟩) (fun ((w2_m,w3_m,w4_m):((Mm ByteArray ByteArray)×(Mm ByteArray ByteArray)×(Mm Int ByteArray))) (jx:List Value)=>fr 81 [(2,.ptr 1 0),(3,.ptr 5 0)] [7,9,11,20,25,26,34,35,36,43,44,52,53,54,61,62,70,71,72] jx) (fun ((w2_m,w3_m,w4_m):((Mm ByteArray ByteArray)×(Mm ByteArray ByteArray)×(Mm Int ByteArray)))=>⟨[(5,.cells [.mp 2,.mp 3,.mp 4]),(4,(CP w4_m)),(3,(Bp w3_m)),(2,(Bp w2_m)),(1,.cells [.sc (.map none),.sc (.map none),.sc (.map none)]),(0,.cells (Bq source))],6,[],0⟩) [] (EH [] 0 (sb rW 116) [.code (sb rW 15)] (Ae 300 []) (by kernel_rfl)) ?_ ?_ ?_ (fun v h=>by cases h;exact .outer .body)
 rintro i0 ⟨w2_m,w3_m,w4_m⟩ j0 hge hq
 exact C0 (Ae 300 [pb (I3 hge)]) (by kernel_rfl) (hq (js 19 j0 [(3,.bool false)]))
 rintro i0 e0 ⟨w2_m,w3_m,w4_m⟩ j0 r he0 hi0 mi0 k
 show Db   i0 e0 w2_m w3_m w4_m=some r→_
 unfold Db
 let o1:List (PC P G):=[pb (Gw hi0),Dw (Dp .lost he0)]
 refine Ai (fun hb1=>?_) fun hb1=>?_
 refine Ai (fun hb2=>?_) fun hb2=>?_
 rintro ⟨⟩
 exact BD Hd.Ab [fq (Au.CI source.kids)] [none,BQ w4_m,A6 w3_m,A6 w2_m,none,bp (Au.pl source)] (Ae 300 (o1++[pb hb1,Is (J0 w2_m e0.name hb2),pi mi0])) (by kernel_rfl) (k (js 19 j0 [(0,.bool true),(3,.bool true),(4,.bool true),(5,.bool true),(6,.bool true),(7,.bool true),(8,.bool false)]))
 rintro ⟨⟩
 exact BD Hd.Ab [fq (Au.CI source.kids)] [none,BQ w4_m,A6 w3_m,A6 (w2_m.set e0.name e0.unit),none,bp (Au.pl source)] (Ae 300 (o1++[pb hb1,Is (J0 w2_m e0.name hb2),Rg (aF w2_m e0.name e0.unit),pi mi0])) (by kernel_rfl) (k (js 19 j0 [(0,.bool false),(3,.bool true),(4,.bool true),(5,.bool true),(6,.bool false),(7,.bool false),(8,.bool true)]))
 refine Ai (fun hb3=>?_) fun hb3=>?_
 refine Ai (fun hb4=>?_) fun hb4=>?_
 rintro ⟨⟩
 exact BD Hd.Ab [fq (Au.CI source.kids)] [none,BQ w4_m,A6 w3_m,A6 w2_m,none,bp (Au.pl source)] (Ae 300 (o1++[pb hb1,pb hb3,Is (J0 w3_m e0.name hb4),pi mi0])) (by kernel_rfl) (k (js 19 j0 [(1,.bool true),(3,.bool true),(4,.bool false),(5,.bool false),(9,.bool true),(10,.bool true),(11,.bool true),(12,.bool true),(13,.bool false)]))
 rintro ⟨⟩
 exact BD Hd.Ab [fq (Au.CI source.kids)] [none,BQ w4_m,A6 (w3_m.set e0.name e0.unit),A6 w2_m,none,bp (Au.pl source)] (Ae 300 (o1++[pb hb1,pb hb3,Is (J0 w3_m e0.name hb4),Rg (aF w3_m e0.name e0.unit),pi mi0])) (by kernel_rfl) (k (js 19 j0 [(1,.bool false),(3,.bool true),(4,.bool false),(5,.bool false),(9,.bool true),(10,.bool true),(11,.bool false),(12,.bool false),(13,.bool true)]))
 refine Ai (fun hb5=>?_) fun hb5=>?_
 refine Ai (fun hb6=>?_) fun hb6=>?_
 rintro ⟨⟩
 exact BD Hd.Ab [fq (Au.CI source.kids)] [none,BQ w4_m,A6 w3_m,A6 w2_m,none,bp (Au.pl source)] (Ae 300 (o1++[pb hb1,pb hb3,pb hb5,Is (PG w4_m e0.n hb6),pi mi0])) (by kernel_rfl) (k (js 19 j0 [(2,.bool true),(3,.bool true),(4,.bool false),(5,.bool false),(9,.bool false),(10,.bool false),(14,.bool true),(15,.bool true),(16,.bool true),(17,.bool true),(18,.bool false)]))
 rintro ⟨⟩
 exact BD Hd.Ab [fq (Au.CI source.kids)] [none,BQ (w4_m.set e0.n e0.name),A6 w3_m,A6 w2_m,none,bp (Au.pl source)] (Ae 300 (o1++[pb hb1,pb hb3,pb hb5,Is (PG w4_m e0.n hb6),Rg (lX w4_m e0.n e0.name),pi mi0])) (by kernel_rfl) (k (js 19 j0 [(2,.bool false),(3,.bool true),(4,.bool false),(5,.bool false),(9,.bool false),(10,.bool false),(14,.bool true),(15,.bool true),(16,.bool false),(17,.bool false),(18,.bool true)]))
 rintro ⟨⟩
 exact BD Hd.Ab [fq (Au.CI source.kids)] [none,BQ w4_m,A6 w3_m,A6 w2_m,none,bp (Au.pl source)] (Ae 300 (o1++[pb hb1,pb hb3,pb hb5,pi mi0])) (by kernel_rfl) (k (js 19 j0 [(3,.bool true),(4,.bool false),(5,.bool false),(9,.bool false),(10,.bool false),(14,.bool false),(15,.bool false)]))
 rintro ⟨w2_m_1,w3_m_1,w4_m_1⟩ jx_1
 dsimp only
 intro h
 have hE:=Option.some.inj h
 subst hE
 exact PU (n:=5) (m0:=0) Hd.Ab _ _ [4,3,2] [1] [⟨.agg [.mp 2,.mp 3,.mp 4],.agg [.mp 2,.mp 3,.mp 4],(.under (BE rfl (BE rfl (BE rfl rfl))))⟩] [⟨(CP w4_m_1),(CP w4_m_1),(FQ (fun _=>rfl))⟩,⟨(Bp w3_m_1),(Bp w3_m_1),(FQ (fun _=>rfl))⟩,⟨(Bp w2_m_1),(Bp w2_m_1),(FQ (fun _=>rfl))⟩] _ _ (CH 300 []) (Nat.zero_le _) (Nat.zero_le _) (by kernel_rfl) .body
noncomputable def qC:Code:=Bo Tryz.f128
theorem tJ:Tryz.f128.body=some qC:=by kernel_rfl
noncomputable def DX  (unit:ByteArray):Option Bool:=cond (Cu unit.data.toList ByteArray.empty.data.toList) (some false) (cond (Cu unit.data.toList AO.data.toList) (some false) (cond (Cu unit.data.toList Bm.data.toList) (some false) (cond (Cu unit.data.toList Gi.data.toList) (some false) (some true))))
theorem D8   {unit:ByteArray} {yR:Bool} (h:DX  unit=some yR):Pure P G 128 [.sc (.string unit)] (.sc (.bool yR)):=by
 unfold DX at h
 refine DD Hd.mixed Hd.Ab (Ba Tryz.func128 tJ ?_) (Bi rfl rfl) rfl
 revert h
 refine Ai (fun hb1=>?_) fun hb1=>?_
 rintro ⟨⟩
 exact rS (Ae 300 [pb hb1]) (by kernel_rfl)
 refine Ai (fun hb2=>?_) fun hb2=>?_
 rintro ⟨⟩
 exact rS (Ae 300 [pb hb1,pb hb2]) (by kernel_rfl)
 refine Ai (fun hb3=>?_) fun hb3=>?_
 rintro ⟨⟩
 exact rS (Ae 300 [pb hb1,pb hb2,pb hb3]) (by kernel_rfl)
 refine Ai (fun hb4=>?_) fun hb4=>?_
 rintro ⟨⟩
 exact rS (Ae 300 [pb hb1,pb hb2,pb hb3,pb hb4]) (by kernel_rfl)
 rintro ⟨⟩
 exact rS (Ae 300 [pb hb1,pb hb2,pb hb3,pb hb4]) (by kernel_rfl)
noncomputable def eA:Code:=Bo Tryz.f189
theorem rT:Tryz.f189.body=some eA:=by kernel_rfl
noncomputable def qS:Code:=Bo Tryz.f165
theorem sM:Tryz.f165.body=some qS:=by kernel_rfl
noncomputable def qI:Code:=Bo Tryz.f127
theorem qD:Tryz.f127.body=some qI:=by kernel_rfl
noncomputable def Av  (err:Int) (at_:Int) (a2:(List Dg)):Option (Unit×(List Dg)):=cond (Fu ((a2.length:Nat):Int) 20) (Hy (a2.length+1) (some ((),(a2++[(⟨err,at_⟩:Dg)])))) (some ((),a2))
theorem AD {err:Int} {at_:Int} {a2:(List Dg)} {qa2R:(List Dg)} (hS:Sound P G (.call 127 [.sc (.int .i64 err),.sc (.int .i64 at_),.ptr 0 0] ⟨[(0,.cells [.sl (.row 0 2) a2.length (rows CA a2)])],1,[(0,a2.length)],1⟩ (.ret (.Bh [])) ⟨[(0,.cells [.sl (.row 0 2) qa2R.length (rows CA qa2R)])],1,[(0,qa2R.length)],1⟩)) (u0 v0:Nat) (hnb:[u0].Nodup:=by decide) (hnt:([v0]:List Nat).Nodup:=by decide):Cd.ok P G (.callU 127 [.sc (.int .i64 err),.sc (.int .i64 at_),.ptr u0 0] (.ret (.Bh [])) [(u0,.cells [.sl (.row v0 2) a2.length (rows CA a2)])] [(v0,a2.length)] [(u0,.cells [.sl (.row v0 2) qa2R.length (rows CA qa2R)])] [(v0,qa2R.length)]) :=
 Dh (M:=[.cells [.sl (.row 0 2) a2.length (rows CA a2)]]) (M2:=[.cells [.sl (.row 0 2) qa2R.length (rows CA qa2R)]]) (T:=[a2.length]) (T2:=[qa2R.length]) (k:=1) (j:=1) Hd.Ab _ _ _ _ hS rfl rfl rfl rfl rfl hnb hnt rfl rfl (.cons (.cells (.cons (.row (by decide) (A7.Bi a2)) .nil)) .nil) (.cons (.cells (.cons (.row (by decide) (A7.Bi qa2R)) .nil)) .nil) (.cons (.pl rfl) (.cons (.pl rfl) (.cons (.ptr (by decide)) .nil))) (.pl rfl) (fun e he=>by simp only [List.mem_singleton] at he;subst he;exact (.arg (.there (.there (.here .ptr)))))
theorem Aw   {err:Int} {at_:Int} {a2:(List Dg)} {yR:Unit} {qa2R:(List Dg)} (h:Av  err at_ a2=some (yR,qa2R)):Sound P G (.call 127 [.sc (.int .i64 err),.sc (.int .i64 at_),.ptr 0 0] ⟨[(0,.cells [.sl (.row 0 2) a2.length (rows CA a2)])],1,[(0,a2.length)],1⟩ (.ret (.Bh [])) ⟨[(0,.cells [.sl (.row 0 2) qa2R.length (rows CA qa2R)])],1,[(0,qa2R.length)],1⟩):=by
 unfold Av at h
 refine Di Hd.mixed (Ba Tryz.func127 qD ?_)
 revert h
 refine Ai (fun hb1=>?_) fun hb1=>?_
 refine GJ fun hl1=>?_
 intro h
 have hE:=Option.some.inj h
 obtain ⟨hE0,hF0⟩:=Prod.mk.inj hE
 subst hE0 hF0
 exact Jl Hd.Ab _ _ [⟨.Bh [],.Bh [],(.plain rfl)⟩] [br A7 0 2 (a2++[(⟨err,at_⟩:Dg)])] (Ae 300 [pb hb1,JI (WK (.row 0 2) a2 [(⟨err,at_⟩:Dg)] (o:=.full) (n:=1) (ns:=[.sc (.int .i64 err),.sc (.int .i64 at_)]) (A7.wn [(⟨err,at_⟩:Dg)] (.r (.r .nil))) rfl rfl (by simp) (by simpa using hl1))]) (by kernel_rfl)
 intro h
 have hE:=Option.some.inj h
 obtain ⟨hE0,hF0⟩:=Prod.mk.inj hE
 subst hE0 hF0
 exact Jl Hd.Ab _ _ [⟨.Bh [],.Bh [],(.plain rfl)⟩] [br A7 0 2 a2] (Ae 300 [pb hb1]) (by kernel_rfl)
noncomputable def wI:Code:=Bo Tryz.f83
theorem xZ:Tryz.f83.body=some wI:=by kernel_rfl
noncomputable def BF   (i0:Nat) (e0:Nd) (w5_m:(Mm ByteArray Bool)) (w2_m:(Mm Int Int)) (w0_0:(List Dg)) (w4_m:(Mm ByteArray Bool)):Option (Lp ((Mm ByteArray Bool)×(Mm Int Int)×(List Dg)×(Mm ByteArray Bool)) ((Mm ByteArray Bool)×(Mm Int Int)×(List Dg)×(Mm ByteArray Bool)) (Unit×(List Dg))):=cond (CN e0.kind 4) (some (.nx (w5_m,w2_m,w0_0,w4_m))) (cond (CN e0.kind 3) (cond ((w5_m.get e0.name).getD false) ((Av 5 e0.att w0_0).bind fun (y1a,y1b)=>some (.nx ((w5_m.set e0.name true),(w2_m.set e0.kind (BU ((w2_m.get e0.kind).getD 0) 1)),y1b,w4_m))) (cond (Fu 32 (((w2_m.set e0.kind (BU ((w2_m.get e0.kind).getD 0) 1)).get e0.kind).getD 0)) ((Av 2 e0.att w0_0).bind fun (y2a,y2b)=>some (.nx ((w5_m.set e0.name true),(w2_m.set e0.kind (BU ((w2_m.get e0.kind).getD 0) 1)),y2b,w4_m))) (cond (Cu e0.unit.data.toList AO.data.toList) ((Av 11 e0.att w0_0).bind fun (y3a,y3b)=>some (.nx ((w5_m.set e0.name true),(w2_m.set e0.kind (BU ((w2_m.get e0.kind).getD 0) 1)),y3b,w4_m))) (cond (CN e0.n 4) (some (.nx ((w5_m.set e0.name true),(w2_m.set e0.kind (BU ((w2_m.get e0.kind).getD 0) 1)),w0_0,w4_m))) ((DX e0.unit).bind fun y4=>cond y4 (some (.nx ((w5_m.set e0.name true),(w2_m.set e0.kind (BU ((w2_m.get e0.kind).getD 0) 1)),w0_0,w4_m))) ((Av 11 e0.att w0_0).bind fun (y5a,y5b)=>some (.nx ((w5_m.set e0.name true),(w2_m.set e0.kind (BU ((w2_m.get e0.kind).getD 0) 1)),y5b,w4_m)))))))) (cond (CN e0.kind 2) (cond ((w4_m.get e0.name).getD false) ((Av 5 e0.att w0_0).bind fun (y6a,y6b)=>some (.nx (w5_m,(w2_m.set e0.kind (BU ((w2_m.get e0.kind).getD 0) 1)),y6b,(w4_m.set e0.name true)))) (cond (Fu 32 (((w2_m.set e0.kind (BU ((w2_m.get e0.kind).getD 0) 1)).get e0.kind).getD 0)) ((Av 2 e0.att w0_0).bind fun (y7a,y7b)=>some (.nx (w5_m,(w2_m.set e0.kind (BU ((w2_m.get e0.kind).getD 0) 1)),y7b,(w4_m.set e0.name true)))) (some (.nx (w5_m,(w2_m.set e0.kind (BU ((w2_m.get e0.kind).getD 0) 1)),w0_0,(w4_m.set e0.name true)))))) (none)))
noncomputable def B7  (source:Nd) (report:(List Dg)):Option (Unit×(List Dg)):=(G8 source.kids.length (Bk (fun i y x=>BF   i y x.1 x.2.1 x.2.2.1 x.2.2.2) (fun x=>(x.1,x.2.1,x.2.2.1,x.2.2.2)) (source.kids.drop 0) 0 ((Mm.nil:Mm ByteArray Bool),(Mm.nil:Mm Int Int),report,(Mm.nil:Mm ByteArray Bool)))).bind (Hv (fun ((w5_m_8,w2_m_8,w0_0_8,w4_m_8):((Mm ByteArray Bool)×(Mm Int Int)×(List Dg)×(Mm ByteArray Bool)))=>some ((),w0_0_8)) (fun v=>some v))
theorem G4 {source:Nd} {report:(List Dg)} {qreportR:(List Dg)} (hS:Sound P G (.call 83 [.agg (Bq source),.fn (.func 127) [] [.ptr 0 0]] ⟨[(0,.cells [.sl (.row 0 2) report.length (rows CA report)])],1,[(0,report.length)],1⟩ (.ret (.Bh [])) ⟨[(0,.cells [.sl (.row 0 2) qreportR.length (rows CA qreportR)])],1,[(0,qreportR.length)],1⟩)) (u0 v0:Nat) (hnb:[u0].Nodup:=by decide) (hnt:([v0]:List Nat).Nodup:=by decide):Cd.ok P G (.callU 83 [.agg (Bq source),.fn (.func 127) [] [.ptr u0 0]] (.ret (.Bh [])) [(u0,.cells [.sl (.row v0 2) report.length (rows CA report)])] [(v0,report.length)] [(u0,.cells [.sl (.row v0 2) qreportR.length (rows CA qreportR)])] [(v0,qreportR.length)]) :=
 Dh (M:=[.cells [.sl (.row 0 2) report.length (rows CA report)]]) (M2:=[.cells [.sl (.row 0 2) qreportR.length (rows CA qreportR)]]) (T:=[report.length]) (T2:=[qreportR.length]) (k:=1) (j:=1) Hd.Ab _ _ _ _ hS rfl rfl rfl rfl rfl hnb hnt rfl rfl (.cons (.cells (.cons (.row (by decide) (A7.Bi report)) .nil)) .nil) (.cons (.cells (.cons (.row (by decide) (A7.Bi qreportR)) .nil)) .nil) (.cons (.pl (Au.D1 source)) (.cons (.fn (.pl rfl) (.cons (.ptr (by decide)) .nil)) .nil)) (.pl rfl) (fun e he=>by simp only [List.mem_singleton] at he;subst he;exact (.arg (.there (.here (.fn2 (.here .ptr))))))
theorem F8   {source:Nd} {report:(List Dg)} {yR:Unit} {qreportR:(List Dg)} (h:B7  source report=some (yR,qreportR)):Sound P G (.call 83 [.agg (Bq source),.fn (.func 127) [] [.ptr 0 0]] ⟨[(0,.cells [.sl (.row 0 2) report.length (rows CA report)])],1,[(0,report.length)],1⟩ (.ret (.Bh [])) ⟨[(0,.cells [.sl (.row 0 2) qreportR.length (rows CA qreportR)])],1,[(0,qreportR.length)],1⟩):=by
 unfold B7 at h
 refine Di Hd.mixed (Ba Tryz.func83 xZ ?_)
 revert h
 refine EQ (fun Q v=>GH P G Tryz.f83 1 ⟨[(0,.cells [.sl (.row 0 2) report.length (rows CA report)])],1,[(0,report.length)],1⟩ Q (.Bh []) ⟨[(0,.cells [.sl (.row 0 2) v.2.length (rows CA v.2)])],1,[(0,v.2.length)],1⟩) (fun i0 ((w5_m,w2_m,w0_0,w4_m):((Mm ByteArray Bool)×(Mm Int Int)×(List Dg)×(Mm ByteArray Bool))) (j0:List Value)=>fr 83 [(1,.fn (.func 127) [] [.ptr 0 0]),(4,.mp 2),(5,.mp 3),(15,.sl .lost source.kids.length (B5 source.kids)),(16,.sc (.int .i64 ((source.kids.length:Nat):Int))),(17,.sc (.int .i64 ((i0:Nat):Int)))] [8,18,23,31,32,39,44,49,54,55,56,59,60,63,64,67,68,69,70,71] j0) (fun ((w5_m,w2_m,w0_0,w4_m):((Mm ByteArray Bool)×(Mm Int Int)×(List Dg)×(Mm ByteArray Bool)))=>⟨[(5,(PH w5_m)),(4,(PH w4_m)),(3,(.map [(.int .i64 2,.mp 4,0),(.int .i64 3,.mp 5,1)] 2)),(2,(AQ w2_m)),(1,.cells (Bq source)),(0,.cells [.sl (.row 0 2) w0_0.length (rows CA w0_0)])],6,[(0,w0_0.length)],1⟩) (fun ((w5_m,w2_m,w0_0,w4_m):((Mm ByteArray Bool)×(Mm Int Int)×(List Dg)×(Mm ByteArray Bool))) (jx:List Value)=>fr 83 [] [8,18,23,31,32,39,44,49,54,55,56,59,60,63,64,67,68,69,70,71] jx) (fun ((w5_m,w2_m,w0_0,w4_m):((Mm ByteArray Bool)×(Mm Int Int)×(List Dg)×(Mm ByteArray Bool)))=>⟨[(5,(PH w5_m)),(4,(PH w4_m)),(3,(.map [(.int .i64 2,.mp 4,0),(.int .i64 3,.mp 5,1)] 2)),(2,(AQ w2_m)),(1,.cells (Bq source)),(0,.cells [.sl (.row 0 2) w0_0.length (rows CA w0_0)])],6,[(0,w0_0.length)],1⟩) [] (EH [] 0 (sb wI 124) [] (Ae 300 []) (by kernel_rfl)) ?_ ?_ ?_ (fun v h=>by cases h;exact .outer .body)
 rintro i0 ⟨w5_m,w2_m,w0_0,w4_m⟩ j0 hge hq
 exact C0 (Ae 300 [pb (I3 hge)]) (by kernel_rfl) (hq (js 20 j0 [(1,.bool false)]))
 rintro i0 e0 ⟨w5_m,w2_m,w0_0,w4_m⟩ j0 r he0 hi0 mi0 k
 show BF   i0 e0 w5_m w2_m w0_0 w4_m=some r→_
 unfold BF
 let o1:List (PC P G):=[pb (Gw hi0),Dw (Dp .lost he0)]
 refine Ai (fun hb1=>?_) fun hb1=>?_
 rintro ⟨⟩
 exact BD Hd.Ab [fq (Au.CI source.kids)] [Fl w5_m,Fl w4_m,bw (.map [(.int .i64 2,.mp 4,0),(.int .i64 3,.mp 5,1)] 2) (.map [(.int .i64 2,.mp 4,0),(.int .i64 3,.mp 5,1)] 2) (.under rfl),BH w2_m,bp (Au.pl source),br A7 0 2 w0_0] (Ae 300 (o1++[pb hb1,pi mi0])) (by kernel_rfl) (k (js 20 j0 [(1,.bool true),(2,.bool true)]))
 let o2:List (PC P G):=o1++[pb hb1,Is (ZQ w2_m e0.kind),pk,Rg (oP w2_m e0.kind (BU ((w2_m.get e0.kind).getD 0) 1))]
 refine Ai (fun hb2=>?_) fun hb2=>?_
 let o3:List (PC P G):=o2++[pb hb2,Is (b:=(.map [(.int .i64 2,.mp 4,0),(.int .i64 3,.mp 5,1)] 2)) (Ha (z:=e0.kind) 3 (Fk hb2) rfl)]
 refine Ai (fun hb3=>?_) fun hb3=>?_
 refine AB ?_
 rintro ⟨y1a,y1b⟩ hy1
 dsimp only
 rintro ⟨⟩
 exact BD Hd.Ab [fq (Au.CI source.kids)] [Fl (w5_m.set e0.name true),Fl w4_m,bw (.map [(.int .i64 2,.mp 4,0),(.int .i64 3,.mp 5,1)] 2) (.map [(.int .i64 2,.mp 4,0),(.int .i64 3,.mp 5,1)] 2) (.under rfl),BH (w2_m.set e0.kind (BU ((w2_m.get e0.kind).getD 0) 1)),bp (Au.pl source),br A7 0 2 y1b] (Ae 300 (o3++[Is (PA w5_m e0.name hb3),AM (AD (Aw hy1) 0 0),Is (b:=(.map [(.int .i64 2,.mp 4,0),(.int .i64 3,.mp 5,1)] 2)) (Ha (z:=e0.kind) 3 (Fk hb2) rfl),Rg (Ky w5_m e0.name true),pi mi0])) (by kernel_rfl) (k (js 20 j0 [(0,.bool true),(1,.bool true),(2,.bool false),(3,.bool true),(4,.bool true),(5,.bool true)]))
 let o4:List (PC P G):=o3++[Is (PA w5_m e0.name hb3),Is (ZQ (w2_m.set e0.kind (BU ((w2_m.get e0.kind).getD 0) 1)) e0.kind)]
 refine Ai (fun hb4=>?_) fun hb4=>?_
 refine AB ?_
 rintro ⟨y2a,y2b⟩ hy2
 dsimp only
 rintro ⟨⟩
 exact BD Hd.Ab [fq (Au.CI source.kids)] [Fl (w5_m.set e0.name true),Fl w4_m,bw (.map [(.int .i64 2,.mp 4,0),(.int .i64 3,.mp 5,1)] 2) (.map [(.int .i64 2,.mp 4,0),(.int .i64 3,.mp 5,1)] 2) (.under rfl),BH (w2_m.set e0.kind (BU ((w2_m.get e0.kind).getD 0) 1)),bp (Au.pl source),br A7 0 2 y2b] (Ae 300 (o4++[pb hb4,AM (AD (Aw hy2) 0 0),Is (b:=(.map [(.int .i64 2,.mp 4,0),(.int .i64 3,.mp 5,1)] 2)) (Ha (z:=e0.kind) 3 (Fk hb2) rfl),Rg (Ky w5_m e0.name true),pi mi0])) (by kernel_rfl) (k (js 20 j0 [(0,.bool true),(1,.bool true),(2,.bool false),(3,.bool true),(4,.bool false),(5,.bool false),(6,.bool true),(7,.bool true)]))
 refine Ai (fun hb5=>?_) fun hb5=>?_
 refine AB ?_
 rintro ⟨y3a,y3b⟩ hy3
 dsimp only
 rintro ⟨⟩
 exact BD Hd.Ab [fq (Au.CI source.kids)] [Fl (w5_m.set e0.name true),Fl w4_m,bw (.map [(.int .i64 2,.mp 4,0),(.int .i64 3,.mp 5,1)] 2) (.map [(.int .i64 2,.mp 4,0),(.int .i64 3,.mp 5,1)] 2) (.under rfl),BH (w2_m.set e0.kind (BU ((w2_m.get e0.kind).getD 0) 1)),bp (Au.pl source),br A7 0 2 y3b] (Ae 300 (o4++[pb hb4,pb hb5,AM (AD (Aw hy3) 0 0),Is (b:=(.map [(.int .i64 2,.mp 4,0),(.int .i64 3,.mp 5,1)] 2)) (Ha (z:=e0.kind) 3 (Fk hb2) rfl),Rg (Ky w5_m e0.name true),pi mi0])) (by kernel_rfl) (k [.bool true,.bool true,.bool false,.bool true,.bool false,.bool false,.bool false,.bool false,.bool true,.bool true,.bool true,.bool true,.bool true,undef,undef,undef,undef,undef,.bool true,.bool true])
 refine Ai (fun hb6=>?_) fun hb6=>?_
 rintro ⟨⟩
 exact BD Hd.Ab [fq (Au.CI source.kids)] [Fl (w5_m.set e0.name true),Fl w4_m,bw (.map [(.int .i64 2,.mp 4,0),(.int .i64 3,.mp 5,1)] 2) (.map [(.int .i64 2,.mp 4,0),(.int .i64 3,.mp 5,1)] 2) (.under rfl),BH (w2_m.set e0.kind (BU ((w2_m.get e0.kind).getD 0) 1)),bp (Au.pl source),br A7 0 2 w0_0] (Ae 300 (o4++[pb hb4,pb hb5,pn hb6,Is (b:=(.map [(.int .i64 2,.mp 4,0),(.int .i64 3,.mp 5,1)] 2)) (Ha (z:=e0.kind) 3 (Fk hb2) rfl),Rg (Ky w5_m e0.name true),pi mi0])) (by kernel_rfl) (k [.bool true,.bool true,.bool false,.bool true,.bool false,.bool false,.bool false,.bool false,.bool false,.bool true,.bool true,.bool false,.bool false,.bool false,.bool false,undef,undef,.bool false,.bool false,.bool false])
 refine AB fun y4 hy4=>?_
 refine Ai (fun hv=>?_) fun hv=>?_
 subst hv
 rintro ⟨⟩
 exact BD Hd.Ab [fq (Au.CI source.kids)] [Fl (w5_m.set e0.name true),Fl w4_m,bw (.map [(.int .i64 2,.mp 4,0),(.int .i64 3,.mp 5,1)] 2) (.map [(.int .i64 2,.mp 4,0),(.int .i64 3,.mp 5,1)] 2) (.under rfl),BH (w2_m.set e0.kind (BU ((w2_m.get e0.kind).getD 0) 1)),bp (Au.pl source),br A7 0 2 w0_0] (Ae 300 (o4++[pb hb4,pb hb5,pn hb6,Bu (D8 hy4),Is (b:=(.map [(.int .i64 2,.mp 4,0),(.int .i64 3,.mp 5,1)] 2)) (Ha (z:=e0.kind) 3 (Fk hb2) rfl),Rg (Ky w5_m e0.name true),pi mi0])) (by kernel_rfl) (k [.bool true,.bool true,.bool false,.bool true,.bool false,.bool false,.bool false,.bool false,.bool false,.bool true,.bool true,.bool false,.bool false,.bool true,.bool true,.bool true,.bool false,.bool false,.bool false,.bool false])
 subst hv
 refine AB ?_
 rintro ⟨y5a,y5b⟩ hy5
 dsimp only
 rintro ⟨⟩
 exact BD Hd.Ab [fq (Au.CI source.kids)] [Fl (w5_m.set e0.name true),Fl w4_m,bw (.map [(.int .i64 2,.mp 4,0),(.int .i64 3,.mp 5,1)] 2) (.map [(.int .i64 2,.mp 4,0),(.int .i64 3,.mp 5,1)] 2) (.under rfl),BH (w2_m.set e0.kind (BU ((w2_m.get e0.kind).getD 0) 1)),bp (Au.pl source),br A7 0 2 y5b] (Ae 300 (o4++[pb hb4,pb hb5,pn hb6,Bu (D8 hy4),AM (AD (Aw hy5) 0 0),Is (b:=(.map [(.int .i64 2,.mp 4,0),(.int .i64 3,.mp 5,1)] 2)) (Ha (z:=e0.kind) 3 (Fk hb2) rfl),Rg (Ky w5_m e0.name true),pi mi0])) (by kernel_rfl) (k [.bool true,.bool true,.bool false,.bool true,.bool false,.bool false,.bool false,.bool false,.bool true,.bool true,.bool true,.bool false,.bool false,.bool true,.bool true,.bool false,.bool true,.bool true,.bool true,.bool true])
 refine Ai (fun hb7=>?_) fun hb7=>?_
 let o5:List (PC P G):=o2++[pb hb2,Is (b:=(.map [(.int .i64 2,.mp 4,0),(.int .i64 3,.mp 5,1)] 2)) (Ha (z:=e0.kind) 2 (Fk hb7) rfl)]
 refine Ai (fun hb8=>?_) fun hb8=>?_
 refine AB ?_
 rintro ⟨y6a,y6b⟩ hy6
 dsimp only
 rintro ⟨⟩
 exact BD Hd.Ab [fq (Au.CI source.kids)] [Fl w5_m,Fl (w4_m.set e0.name true),bw (.map [(.int .i64 2,.mp 4,0),(.int .i64 3,.mp 5,1)] 2) (.map [(.int .i64 2,.mp 4,0),(.int .i64 3,.mp 5,1)] 2) (.under rfl),BH (w2_m.set e0.kind (BU ((w2_m.get e0.kind).getD 0) 1)),bp (Au.pl source),br A7 0 2 y6b] (Ae 300 (o5++[Is (PA w4_m e0.name hb8),AM (AD (Aw hy6) 0 0),Is (b:=(.map [(.int .i64 2,.mp 4,0),(.int .i64 3,.mp 5,1)] 2)) (Ha (z:=e0.kind) 2 (Fk hb7) rfl),Rg (Ky w4_m e0.name true),pi mi0])) (by kernel_rfl) (k (js 20 j0 [(0,.bool false),(1,.bool true),(2,.bool false),(3,.bool false),(4,.bool true),(5,.bool true)]))
 let o6:List (PC P G):=o5++[Is (PA w4_m e0.name hb8),Is (ZQ (w2_m.set e0.kind (BU ((w2_m.get e0.kind).getD 0) 1)) e0.kind)]
 refine Ai (fun hb9=>?_) fun hb9=>?_
 refine AB ?_
 rintro ⟨y7a,y7b⟩ hy7
 dsimp only
 rintro ⟨⟩
 exact BD Hd.Ab [fq (Au.CI source.kids)] [Fl w5_m,Fl (w4_m.set e0.name true),bw (.map [(.int .i64 2,.mp 4,0),(.int .i64 3,.mp 5,1)] 2) (.map [(.int .i64 2,.mp 4,0),(.int .i64 3,.mp 5,1)] 2) (.under rfl),BH (w2_m.set e0.kind (BU ((w2_m.get e0.kind).getD 0) 1)),bp (Au.pl source),br A7 0 2 y7b] (Ae 300 (o6++[pb hb9,AM (AD (Aw hy7) 0 0),Is (b:=(.map [(.int .i64 2,.mp 4,0),(.int .i64 3,.mp 5,1)] 2)) (Ha (z:=e0.kind) 2 (Fk hb7) rfl),Rg (Ky w4_m e0.name true),pi mi0])) (by kernel_rfl) (k (js 20 j0 [(0,.bool false),(1,.bool true),(2,.bool false),(3,.bool false),(4,.bool false),(5,.bool false),(6,.bool true),(7,.bool true)]))
 rintro ⟨⟩
 exact BD Hd.Ab [fq (Au.CI source.kids)] [Fl w5_m,Fl (w4_m.set e0.name true),bw (.map [(.int .i64 2,.mp 4,0),(.int .i64 3,.mp 5,1)] 2) (.map [(.int .i64 2,.mp 4,0),(.int .i64 3,.mp 5,1)] 2) (.under rfl),BH (w2_m.set e0.kind (BU ((w2_m.get e0.kind).getD 0) 1)),bp (Au.pl source),br A7 0 2 w0_0] (Ae 300 (o6++[pb hb9,Is (b:=(.map [(.int .i64 2,.mp 4,0),(.int .i64 3,.mp 5,1)] 2)) (Ha (z:=e0.kind) 2 (Fk hb7) rfl),Rg (Ky w4_m e0.name true),pi mi0])) (by kernel_rfl) (k [.bool false,.bool true,.bool false,.bool false,.bool false,.bool false,.bool false,.bool false,.bool false,.bool false,.bool false,undef,undef,undef,undef,undef,undef,undef,undef,.bool false])
 exact nT
 rintro ⟨w5_m_8,w2_m_8,w0_0_8,w4_m_8⟩ jx_8
 dsimp only
 intro h
 have hE:=Option.some.inj h
 obtain ⟨hE0,hF0⟩:=Prod.mk.inj hE
 subst hE0 hF0
 exact Jl Hd.Ab _ _ [⟨.Bh [],.Bh [],(.plain rfl)⟩] [br A7 0 2 w0_0_8] (CH 300 []) (by kernel_rfl)
noncomputable def E9  (units:Nat) (A5:(List ByteArray)) (i0:Nat) :Option (Lp Unit Unit Bool):=(A5[i0]?).bind fun x1=>(Ke units ((0:Nat):Int)).bind fun k2=>(A5[k2]?).bind fun x3=>cond (Cu x1.data.toList x3.data.toList) (some (.nx ())) (some (.rt false))
noncomputable def B0  (units:Nat) (A5:(List ByteArray)):Option Bool:=(G8 units (Pn (fun i x=>E9  units A5 i ) (fun x=>()) units 0 ())).bind (Hv (fun (_:Unit)=>some true) (fun v=>some v))
theorem B1 {units:Nat} {A5:(List ByteArray)} {yR:Bool} (hS:Sound P G (.call 189 [.msl 0 0 units] ⟨[(0,(.cells (rows KM A5)))],1,[],0⟩ (.ret (.sc (.bool yR))) ⟨[(0,(.cells (rows KM A5)))],1,[],0⟩)) (u0:Nat) (hnb:[u0].Nodup:=by decide) (hnt:([]:List Nat).Nodup:=by decide):Cd.ok P G (.callU 189 [.msl u0 0 units] (.ret (.sc (.bool yR))) [(u0,(.cells (rows KM A5)))] [] [(u0,(.cells (rows KM A5)))] []) :=
 Dh (M:=[(.cells (rows KM A5))]) (M2:=[(.cells (rows KM A5))]) (T:=[]) (T2:=[]) (k:=1) (j:=0) Hd.Ab _ _ _ _ hS rfl rfl rfl rfl rfl hnb hnt rfl rfl (.cons (.cells (.pl (Bz.Bi A5))) .nil) (.cons (.cells (.pl (Bz.Bi A5))) .nil) (.cons (.msl (by decide)) .nil) (.pl rfl) (fun e he=>by simp only [List.mem_singleton] at he;subst he;exact (.arg (.here .msl)))
theorem By   {units:Nat} {A5:(List ByteArray)} {yR:Bool} (h:B0  units A5=some yR):Sound P G (.call 189 [.msl 0 0 units] ⟨[(0,(.cells (rows KM A5)))],1,[],0⟩ (.ret (.sc (.bool yR))) ⟨[(0,(.cells (rows KM A5)))],1,[],0⟩):=by
 unfold B0 at h
 refine Di Hd.mixed (Ba Tryz.func189 rT ?_)
 revert h
 refine tF (fun Q v=>GH P G Tryz.f189 1 ⟨[(0,(.cells (rows KM A5)))],1,[],0⟩ Q (.sc (.bool v)) ⟨[(0,(.cells (rows KM A5)))],1,[],0⟩) (fun i0 (_:Unit) (j0:List Value)=>fr 17 [(0,.msl 0 0 units),(5,.msl 0 0 units),(6,.sc (.int .i64 ((units:Nat):Int))),(7,.sc (.int .i64 ((i0:Nat):Int)))] [2,8,15] j0) (fun (_:Unit)=>⟨[(0,(.cells (rows KM A5)))],1,[],0⟩) (fun (_:Unit) (jx:List Value)=>fr 17 [] [2,8,15] jx) (fun (_:Unit)=>⟨[(0,(.cells (rows KM A5)))],1,[],0⟩) [.bool false] (EH [] 0 (sb eA 52) [.code (sb eA 7)] (Ae 300 []) (by kernel_rfl)) ?_ ?_ ?_ (fun v h=>by cases h;exact .outer .body)
 rintro ⟨⟩ j0 hge hq
 exact C0 (Ae 300 [pb (I3 hge)]) (by kernel_rfl) (hq (js 3 j0 [(1,.bool false)]))
 rintro i0 ⟨⟩ j0 r hi0 mi0 k
 show E9  units A5 i0 =some r→_
 unfold E9
 refine AB fun x1 hx1=>?_
 refine AB fun k2 hk2=>?_
 refine AB fun x3 hx3=>?_
 let o1:List (PC P G):=[pb (Gw hi0),Dw (Sz (id:=0) (n:=units) (i:=i0) (by have:=LJ (Gw hi0);omega)),aM (Jn hx1),Dw (JE (id:=0) hk2),aM (Jn hx3)]
 refine Ai (fun hb1=>?_) fun hb1=>?_
 rintro ⟨⟩
 exact HM (Ae 300 (o1++[pn hb1,pi mi0])) (by kernel_rfl) (k [(jv j0 0),.bool true,.bool false])
 rintro ⟨⟩
 exact Aq Hd.Ab _ _ [] [bp (Bz.Bi A5)] (Ae 300 (o1++[pn hb1])) (by kernel_rfl) (.Ia k)
 rintro ⟨⟩ jx_4
 intro h
 have hE:=Option.some.inj h
 subst hE
 exact Aq Hd.Ab _ _ [] [bp (Bz.Bi A5)] (CH 300 []) (by kernel_rfl) .body
noncomputable def Cl  (operator:ByteArray) (units:Nat) (A5:(List ByteArray)):Option ByteArray:=(Ke units ((0:Nat):Int)).bind fun k1=>(A5[k1]?).bind fun x2=>(Ke units (SI ((units:Nat):Int) 1)).bind fun k3=>(A5[k3]?).bind fun x4=>cond (Cu operator.data.toList b7.data.toList) (cond (Cu x2.data.toList AO.data.toList) ((B0 units A5).bind fun y5=>cond y5 (some AO) (some ByteArray.empty)) (some ByteArray.empty)) (cond (Cu operator.data.toList Lm.data.toList) (cond (Cu x2.data.toList AO.data.toList) ((B0 units A5).bind fun y6=>cond y6 (some AO) (some ByteArray.empty)) (some ByteArray.empty)) (cond (Cu operator.data.toList LF.data.toList) ((B0 units A5).bind fun y7=>cond y7 (some AO) (some ByteArray.empty)) (cond (Cu operator.data.toList Ls.data.toList) ((B0 units A5).bind fun y8=>cond y8 (some AO) (some ByteArray.empty)) (cond (Cu operator.data.toList UT.data.toList) ((B0 units A5).bind fun y9=>cond y9 (cond (Cu x2.data.toList AO.data.toList) (some ByteArray.empty) (some AO)) (some ByteArray.empty)) (cond (Cu operator.data.toList Ll.data.toList) ((B0 units A5).bind fun y10=>cond y10 (cond (Cu x2.data.toList AO.data.toList) (some ByteArray.empty) (some AO)) (some ByteArray.empty)) (cond (Cu operator.data.toList NY.data.toList) ((B0 units A5).bind fun y11=>cond y11 (cond (Cu x2.data.toList AO.data.toList) (some ByteArray.empty) (some x2)) (some ByteArray.empty)) (cond (Cu operator.data.toList UW.data.toList) ((B0 units A5).bind fun y12=>cond y12 (cond (Cu x2.data.toList AO.data.toList) (some ByteArray.empty) (some x2)) (some ByteArray.empty)) (cond (Cu operator.data.toList Ul.data.toList) (cond (Cu x2.data.toList Bm.data.toList) (cond (Cu x4.data.toList AO.data.toList) (some ByteArray.empty) (some x4)) (cond (Cu x4.data.toList Bm.data.toList) (cond (Cu x2.data.toList AO.data.toList) (some ByteArray.empty) (some x2)) (some ByteArray.empty))) (cond (Cu operator.data.toList Lq.data.toList) (cond (Cu x2.data.toList AO.data.toList) (some ByteArray.empty) (some x2)) (cond (Cu operator.data.toList bT.data.toList) (cond (Cu x2.data.toList Gi.data.toList) ((DX x4).bind fun y13=>cond y13 (some x4) (some ByteArray.empty)) (some ByteArray.empty)) (some ByteArray.empty)))))))))))
theorem DA {operator:ByteArray} {units:Nat} {A5:(List ByteArray)} {yR:ByteArray} (hS:Sound P G (.call 165 [.sc (.string operator),.msl 0 0 units] ⟨[(0,(.cells (rows KM A5)))],1,[],0⟩ (.ret (.sc (.string yR))) ⟨[(0,(.cells (rows KM A5)))],1,[],0⟩)) (u0:Nat) (hnb:[u0].Nodup:=by decide) (hnt:([]:List Nat).Nodup:=by decide):Cd.ok P G (.callU 165 [.sc (.string operator),.msl u0 0 units] (.ret (.sc (.string yR))) [(u0,(.cells (rows KM A5)))] [] [(u0,(.cells (rows KM A5)))] []) :=
 Dh (M:=[(.cells (rows KM A5))]) (M2:=[(.cells (rows KM A5))]) (T:=[]) (T2:=[]) (k:=1) (j:=0) Hd.Ab _ _ _ _ hS rfl rfl rfl rfl rfl hnb hnt rfl rfl (.cons (.cells (.pl (Bz.Bi A5))) .nil) (.cons (.cells (.pl (Bz.Bi A5))) .nil) (.cons (.pl rfl) (.cons (.msl (by decide)) .nil)) (.pl rfl) (fun e he=>by simp only [List.mem_singleton] at he;subst he;exact (.arg (.there (.here .msl))))
theorem CM   {operator:ByteArray} {units:Nat} {A5:(List ByteArray)} {yR:ByteArray} (h:Cl  operator units A5=some yR):Sound P G (.call 165 [.sc (.string operator),.msl 0 0 units] ⟨[(0,(.cells (rows KM A5)))],1,[],0⟩ (.ret (.sc (.string yR))) ⟨[(0,(.cells (rows KM A5)))],1,[],0⟩):=by
 unfold Cl at h
 refine Di Hd.mixed (Ba Tryz.func165 sM ?_)
 revert h
 refine AB fun k1 hk1=>?_
 refine AB fun x2 hx2=>?_
 refine AB fun k3 hk3=>?_
 refine AB fun x4 hx4=>?_
 let o1:List (PC P G):=[Dw (JE (id:=0) hk1),aM (Jn hx2),pk,Dw (JE (id:=0) hk3),aM (Jn hx4)]
 refine Ai (fun hb1=>?_) fun hb1=>?_
 refine Ai (fun hb2=>?_) fun hb2=>?_
 refine AB fun y5 hy5=>?_
 refine Ai (fun hv=>?_) fun hv=>?_
 subst hv
 intro h
 have hE:=Option.some.inj h
 subst hE
 exact Aq Hd.Ab _ _ [] [bp (Bz.Bi A5)] (Ae 300 (o1++[pb hb1,pn hb2,AM (B1 (By hy5) 0)])) (by kernel_rfl) .body
 subst hv
 intro h
 have hE:=Option.some.inj h
 subst hE
 exact Aq Hd.Ab _ _ [] [bp (Bz.Bi A5)] (Ae 300 (o1++[pb hb1,pn hb2,AM (B1 (By hy5) 0)])) (by kernel_rfl) .body
 intro h
 have hE:=Option.some.inj h
 subst hE
 exact Aq Hd.Ab _ _ [] [bp (Bz.Bi A5)] (Ae 300 (o1++[pb hb1,pn hb2])) (by kernel_rfl) .body
 let o2:List (PC P G):=o1++[pb hb1]
 refine Ai (fun hb3=>?_) fun hb3=>?_
 refine Ai (fun hb4=>?_) fun hb4=>?_
 refine AB fun y6 hy6=>?_
 refine Ai (fun hv=>?_) fun hv=>?_
 subst hv
 intro h
 have hE:=Option.some.inj h
 subst hE
 exact Aq Hd.Ab _ _ [] [bp (Bz.Bi A5)] (Ae 300 (o2++[pb hb3,pn hb4,AM (B1 (By hy6) 0)])) (by kernel_rfl) .body
 subst hv
 intro h
 have hE:=Option.some.inj h
 subst hE
 exact Aq Hd.Ab _ _ [] [bp (Bz.Bi A5)] (Ae 300 (o2++[pb hb3,pn hb4,AM (B1 (By hy6) 0)])) (by kernel_rfl) .body
 intro h
 have hE:=Option.some.inj h
 subst hE
 exact Aq Hd.Ab _ _ [] [bp (Bz.Bi A5)] (Ae 300 (o2++[pb hb3,pn hb4])) (by kernel_rfl) .body
 let o3:List (PC P G):=o2++[pb hb3]
 refine Ai (fun hb5=>?_) fun hb5=>?_
 refine AB fun y7 hy7=>?_
 refine Ai (fun hv=>?_) fun hv=>?_
 subst hv
 intro h
 have hE:=Option.some.inj h
 subst hE
 exact Aq Hd.Ab _ _ [] [bp (Bz.Bi A5)] (Ae 300 (o3++[pb hb5,AM (B1 (By hy7) 0)])) (by kernel_rfl) .body
 subst hv
 intro h
 have hE:=Option.some.inj h
 subst hE
 exact Aq Hd.Ab _ _ [] [bp (Bz.Bi A5)] (Ae 300 (o3++[pb hb5,AM (B1 (By hy7) 0)])) (by kernel_rfl) .body
 let o4:List (PC P G):=o3++[pb hb5]
 refine Ai (fun hb6=>?_) fun hb6=>?_
 refine AB fun y8 hy8=>?_
 refine Ai (fun hv=>?_) fun hv=>?_
 subst hv
 intro h
 have hE:=Option.some.inj h
 subst hE
 exact Aq Hd.Ab _ _ [] [bp (Bz.Bi A5)] (Ae 300 (o4++[pb hb6,AM (B1 (By hy8) 0)])) (by kernel_rfl) .body
 subst hv
 intro h
 have hE:=Option.some.inj h
 subst hE
 exact Aq Hd.Ab _ _ [] [bp (Bz.Bi A5)] (Ae 300 (o4++[pb hb6,AM (B1 (By hy8) 0)])) (by kernel_rfl) .body
 let o5:List (PC P G):=o4++[pb hb6]
 refine Ai (fun hb7=>?_) fun hb7=>?_
 refine AB fun y9 hy9=>?_
 let o6:List (PC P G):=o5++[pb hb7,AM (B1 (By hy9) 0)]
 refine Ai (fun hv=>?_) fun hv=>?_
 subst hv
 refine Ai (fun hb8=>?_) fun hb8=>?_
 intro h
 have hE:=Option.some.inj h
 subst hE
 exact Aq Hd.Ab _ _ [] [bp (Bz.Bi A5)] (Ae 300 (o6++[pb hb8])) (by kernel_rfl) .body
 intro h
 have hE:=Option.some.inj h
 subst hE
 exact Aq Hd.Ab _ _ [] [bp (Bz.Bi A5)] (Ae 300 (o6++[pb hb8])) (by kernel_rfl) .body
 subst hv
 intro h
 have hE:=Option.some.inj h
 subst hE
 exact Aq Hd.Ab _ _ [] [bp (Bz.Bi A5)] (Ae 300 o6) (by kernel_rfl) .body
 let o7:List (PC P G):=o5++[pb hb7]
 refine Ai (fun hb9=>?_) fun hb9=>?_
 refine AB fun y10 hy10=>?_
 let o8:List (PC P G):=o7++[pb hb9,AM (B1 (By hy10) 0)]
 refine Ai (fun hv=>?_) fun hv=>?_
 subst hv
 refine Ai (fun hb10=>?_) fun hb10=>?_
 intro h
 have hE:=Option.some.inj h
 subst hE
 exact Aq Hd.Ab _ _ [] [bp (Bz.Bi A5)] (Ae 300 (o8++[pb hb10])) (by kernel_rfl) .body
 intro h
 have hE:=Option.some.inj h
 subst hE
 exact Aq Hd.Ab _ _ [] [bp (Bz.Bi A5)] (Ae 300 (o8++[pb hb10])) (by kernel_rfl) .body
 subst hv
 intro h
 have hE:=Option.some.inj h
 subst hE
 exact Aq Hd.Ab _ _ [] [bp (Bz.Bi A5)] (Ae 300 o8) (by kernel_rfl) .body
 let o9:List (PC P G):=o7++[pb hb9]
 refine Ai (fun hb11=>?_) fun hb11=>?_
 refine AB fun y11 hy11=>?_
 let o10:List (PC P G):=o9++[pb hb11,AM (B1 (By hy11) 0)]
 refine Ai (fun hv=>?_) fun hv=>?_
 subst hv
 refine Ai (fun hb12=>?_) fun hb12=>?_
 intro h
 have hE:=Option.some.inj h
 subst hE
 exact Aq Hd.Ab _ _ [] [bp (Bz.Bi A5)] (Ae 300 (o10++[pb hb12])) (by kernel_rfl) .body
 intro h
 have hE:=Option.some.inj h
 subst hE
 exact Aq Hd.Ab _ _ [] [bp (Bz.Bi A5)] (Ae 300 (o10++[pb hb12])) (by kernel_rfl) .body
 subst hv
 intro h
 have hE:=Option.some.inj h
 subst hE
 exact Aq Hd.Ab _ _ [] [bp (Bz.Bi A5)] (Ae 300 o10) (by kernel_rfl) .body
 let o11:List (PC P G):=o9++[pb hb11]
 refine Ai (fun hb13=>?_) fun hb13=>?_
 refine AB fun y12 hy12=>?_
 let o12:List (PC P G):=o11++[pb hb13,AM (B1 (By hy12) 0)]
 refine Ai (fun hv=>?_) fun hv=>?_
 subst hv
 refine Ai (fun hb14=>?_) fun hb14=>?_
 intro h
 have hE:=Option.some.inj h
 subst hE
 exact Aq Hd.Ab _ _ [] [bp (Bz.Bi A5)] (Ae 300 (o12++[pb hb14])) (by kernel_rfl) .body
 intro h
 have hE:=Option.some.inj h
 subst hE
 exact Aq Hd.Ab _ _ [] [bp (Bz.Bi A5)] (Ae 300 (o12++[pb hb14])) (by kernel_rfl) .body
 subst hv
 intro h
 have hE:=Option.some.inj h
 subst hE
 exact Aq Hd.Ab _ _ [] [bp (Bz.Bi A5)] (Ae 300 o12) (by kernel_rfl) .body
 let o13:List (PC P G):=o11++[pb hb13]
 refine Ai (fun hb15=>?_) fun hb15=>?_
 refine Ai (fun hb16=>?_) fun hb16=>?_
 refine Ai (fun hb17=>?_) fun hb17=>?_
 intro h
 have hE:=Option.some.inj h
 subst hE
 exact Aq Hd.Ab _ _ [] [bp (Bz.Bi A5)] (Ae 300 (o13++[pb hb15,pb hb16,pb hb17])) (by kernel_rfl) .body
 intro h
 have hE:=Option.some.inj h
 subst hE
 exact Aq Hd.Ab _ _ [] [bp (Bz.Bi A5)] (Ae 300 (o13++[pb hb15,pb hb16,pb hb17])) (by kernel_rfl) .body
 refine Ai (fun hb18=>?_) fun hb18=>?_
 refine Ai (fun hb19=>?_) fun hb19=>?_
 intro h
 have hE:=Option.some.inj h
 subst hE
 exact Aq Hd.Ab _ _ [] [bp (Bz.Bi A5)] (Ae 300 (o13++[pb hb15,pb hb16,pn hb18,pb hb19])) (by kernel_rfl) .body
 intro h
 have hE:=Option.some.inj h
 subst hE
 exact Aq Hd.Ab _ _ [] [bp (Bz.Bi A5)] (Ae 300 (o13++[pb hb15,pb hb16,pn hb18,pb hb19])) (by kernel_rfl) .body
 intro h
 have hE:=Option.some.inj h
 subst hE
 exact Aq Hd.Ab _ _ [] [bp (Bz.Bi A5)] (Ae 300 (o13++[pb hb15,pb hb16,pn hb18])) (by kernel_rfl) .body
 refine Ai (fun hb20=>?_) fun hb20=>?_
 refine Ai (fun hb21=>?_) fun hb21=>?_
 intro h
 have hE:=Option.some.inj h
 subst hE
 exact Aq Hd.Ab _ _ [] [bp (Bz.Bi A5)] (Ae 300 (o13++[pb hb15,pb hb20,pb hb21])) (by kernel_rfl) .body
 intro h
 have hE:=Option.some.inj h
 subst hE
 exact Aq Hd.Ab _ _ [] [bp (Bz.Bi A5)] (Ae 300 (o13++[pb hb15,pb hb20,pb hb21])) (by kernel_rfl) .body
 refine Ai (fun hb22=>?_) fun hb22=>?_
 refine Ai (fun hb23=>?_) fun hb23=>?_
 refine AB fun y13 hy13=>?_
 refine Ai (fun hv=>?_) fun hv=>?_
 subst hv
 intro h
 have hE:=Option.some.inj h
 subst hE
 exact Aq Hd.Ab _ _ [] [bp (Bz.Bi A5)] (Ae 300 (o13++[pb hb15,pb hb20,pb hb22,pb hb23,Bu (D8 hy13)])) (by kernel_rfl) .body
 subst hv
 intro h
 have hE:=Option.some.inj h
 subst hE
 exact Aq Hd.Ab _ _ [] [bp (Bz.Bi A5)] (Ae 300 (o13++[pb hb15,pb hb20,pb hb22,pb hb23,Bu (D8 hy13)])) (by kernel_rfl) .body
 intro h
 have hE:=Option.some.inj h
 subst hE
 exact Aq Hd.Ab _ _ [] [bp (Bz.Bi A5)] (Ae 300 (o13++[pb hb15,pb hb20,pb hb22,pb hb23])) (by kernel_rfl) .body
 intro h
 have hE:=Option.some.inj h
 subst hE
 exact Aq Hd.Ab _ _ [] [bp (Bz.Bi A5)] (Ae 300 (o13++[pb hb15,pb hb20,pb hb22])) (by kernel_rfl) .body
theorem Es {s:Sc} {e:Nd} {report:(List Dg)} {yR:ByteArray} {qreportR:(List Dg)} (hS:Sound P G (.call 129 [.agg [.mp 0,.mp 1,.mp 2],.agg (Bq e),.fn (.func 127) [] [.ptr 3 0]] ⟨[(3,.cells [.sl (.row 0 2) report.length (rows CA report)]),(2,(CP s.Aa)),(1,(Bp s.lines)),(0,(Bp s.facts))],4,[(0,report.length)],1⟩ (.ret (.sc (.string yR))) ⟨[(3,.cells [.sl (.row 0 2) qreportR.length (rows CA qreportR)]),(2,(CP s.Aa)),(1,(Bp s.lines)),(0,(Bp s.facts))],4,[(0,qreportR.length)],1⟩)) (u0 u1 u2 u3 v0:Nat) (hnb:[u0,u1,u2,u3].Nodup:=by decide) (hnt:([v0]:List Nat).Nodup:=by decide):Cd.ok P G (.callU 129 [.agg [.mp u0,.mp u1,.mp u2],.agg (Bq e),.fn (.func 127) [] [.ptr u3 0]] (.ret (.sc (.string yR))) [(u0,(Bp s.facts)),(u1,(Bp s.lines)),(u2,(CP s.Aa)),(u3,.cells [.sl (.row v0 2) report.length (rows CA report)])] [(v0,report.length)] [(u0,(Bp s.facts)),(u1,(Bp s.lines)),(u2,(CP s.Aa)),(u3,.cells [.sl (.row v0 2) qreportR.length (rows CA qreportR)])] [(v0,qreportR.length)]) :=
 Dh (M:=[(Bp s.facts),(Bp s.lines),(CP s.Aa),.cells [.sl (.row 0 2) report.length (rows CA report)]]) (M2:=[(Bp s.facts),(Bp s.lines),(CP s.Aa),.cells [.sl (.row 0 2) qreportR.length (rows CA qreportR)]]) (T:=[report.length]) (T2:=[qreportR.length]) (k:=4) (j:=1) Hd.Ab _ _ _ _ hS rfl rfl rfl rfl rfl hnb hnt rfl rfl (.cons (Bv (fun _=>rfl)) (.cons (Bv (fun _=>rfl)) (.cons (Bv (fun _=>rfl)) (.cons (.cells (.cons (.row (by decide) (A7.Bi report)) .nil)) .nil)))) (.cons (Bv (fun _=>rfl)) (.cons (Bv (fun _=>rfl)) (.cons (Bv (fun _=>rfl)) (.cons (.cells (.cons (.row (by decide) (A7.Bi qreportR)) .nil)) .nil)))) (.cons (.agg (.cons (.mp (by decide)) (.cons (.mp (by decide)) (.cons (.mp (by decide)) .nil)))) (.cons (.pl (Au.D1 e)) (.cons (.fn (.pl rfl) (.cons (.ptr (by decide)) .nil)) .nil))) (.pl rfl) (by
   intro e he
   simp only [List.mem_cons,List.not_mem_nil,or_false] at he
   rcases he with rfl | rfl | rfl | rfl
   · exact (.arg (.here (.agg (.here .mp))))
   · exact (.arg (.here (.agg (.there (.here .mp)))))
   · exact (.arg (.here (.agg (.there (.there (.here .mp))))))
   · exact (.arg (.there (.there (.here (.fn2 (.here .ptr))))))
   )
noncomputable def cH:Code:=Bo Tryz.f129
theorem sH:Tryz.f129.body=some cH:=by kernel_rfl
noncomputable def Ci (B4:Sc→Nd→(List Dg)→Option (ByteArray×(List Dg))) (s:Sc) (i0:Nat) (e0:Nd) (whole8:Bool) (w6_l:(List ByteArray)) (w3_0:(List Dg)):Option (Lp (Bool×(List ByteArray)×(List Dg)) (Bool×(List ByteArray)×(List Dg)) (ByteArray×(List Dg))):=(B4 s e0 w3_0).bind fun (y2a,y2b)=>(w6_l[i0]?).bind fun x3=>cond whole8 (((w6_l.set i0 y2a)[i0]?).bind fun x4=>cond (Cu x4.data.toList ByteArray.empty.data.toList) (some (.nx (false,(w6_l.set i0 y2a),y2b))) (some (.nx (true,(w6_l.set i0 y2a),y2b)))) (some (.nx (false,(w6_l.set i0 y2a),y2b)))
noncomputable def DJ (B4:Sc→Nd→(List Dg)→Option (ByteArray×(List Dg))) (s:Sc) (e:Nd) (report:(List Dg)):Option (ByteArray×(List Dg)):=ZO (e.kids.length) ((G8 e.kids.length (Bk (fun i y x=>Ci B4 s i y x.1 x.2.1 x.2.2) (fun x=>(x.1,x.2.1,x.2.2)) (e.kids.drop 0) 0 (true,(List.replicate e.kids.length ByteArray.empty),report))).bind (Hv (fun ((whole8_5,w6_l_5,w3_0_5):(Bool×(List ByteArray)×(List Dg)))=>cond whole8_5 (cond (CN e.kind 11) (cond (Cu e.unit.data.toList ByteArray.empty.data.toList) ((Av 11 e.att w3_0_5).bind fun (y6a,y6b)=>some (e.unit,y6b)) (some (e.unit,w3_0_5))) (cond (CN e.kind 12) (cond (Cu ((s.facts.get e.name).getD ByteArray.empty).data.toList ByteArray.empty.data.toList) ((Av 91 e.att w3_0_5).bind fun (y7a,y7b)=>some (((s.facts.get e.name).getD ByteArray.empty),y7b)) (some (((s.facts.get e.name).getD ByteArray.empty),w3_0_5))) (cond (CN e.kind 13) (cond (Cu ((s.lines.get ((s.Aa.get e.n).getD ByteArray.empty)).getD ByteArray.empty).data.toList ByteArray.empty.data.toList) ((Av 91 e.att w3_0_5).bind fun (y8a,y8b)=>some (((s.lines.get ((s.Aa.get e.n).getD ByteArray.empty)).getD ByteArray.empty),y8b)) (some (((s.lines.get ((s.Aa.get e.n).getD ByteArray.empty)).getD ByteArray.empty),w3_0_5))) (cond (CN e.kind 14) (cond (Cu Bm.data.toList ByteArray.empty.data.toList) ((Av 11 e.att w3_0_5).bind fun (y9a,y9b)=>some (Bm,y9b)) (some (Bm,w3_0_5))) (cond (CN e.kind 15) ((Cl Lm e.kids.length w6_l_5).bind fun y10=>cond (Cu y10.data.toList ByteArray.empty.data.toList) ((Av 11 e.att w3_0_5).bind fun (y11a,y11b)=>some (y10,y11b)) (some (y10,w3_0_5))) (cond (CN e.kind 16) ((Cl e.name e.kids.length w6_l_5).bind fun y12=>cond (Cu y12.data.toList ByteArray.empty.data.toList) ((Av 11 e.att w3_0_5).bind fun (y13a,y13b)=>some (y12,y13b)) (some (y12,w3_0_5))) (cond (CN e.kind 17) ((Cl NY e.kids.length w6_l_5).bind fun y14=>cond (Cu y14.data.toList ByteArray.empty.data.toList) ((Av 11 e.att w3_0_5).bind fun (y15a,y15b)=>some (y14,y15b)) (some (y14,w3_0_5))) (cond (CN e.kind 18) ((Ke e.kids.length ((0:Nat):Int)).bind fun ZB=>(w6_l_5[ZB]?).bind fun x17=>(DX x17).bind fun y18=>cond y18 (cond (Cu x17.data.toList ByteArray.empty.data.toList) ((Av 11 e.att w3_0_5).bind fun (y19a,y19b)=>some (x17,y19b)) (some (x17,w3_0_5))) (cond (Cu ByteArray.empty.data.toList ByteArray.empty.data.toList) ((Av 11 e.att w3_0_5).bind fun (y20a,y20b)=>some (ByteArray.empty,y20b)) (some (ByteArray.empty,w3_0_5)))) (cond (Cu ByteArray.empty.data.toList ByteArray.empty.data.toList) ((Av 11 e.att w3_0_5).bind fun (y21a,y21b)=>some (ByteArray.empty,y21b)) (some (ByteArray.empty,w3_0_5))))))))))) (some (ByteArray.empty,w3_0_5))) (fun v=>some v)))
theorem H9 (B4:Sc→Nd→(List Dg)→Option (ByteArray×(List Dg))) (IS:∀ {s:Sc} {e:Nd} {report:(List Dg)} {yR:ByteArray} {qreportR:(List Dg)},B4 s e report=some (yR,qreportR)→Sound P G (.call 129 [.agg [.mp 0,.mp 1,.mp 2],.agg (Bq e),.fn (.func 127) [] [.ptr 3 0]] ⟨[(3,.cells [.sl (.row 0 2) report.length (rows CA report)]),(2,(CP s.Aa)),(1,(Bp s.lines)),(0,(Bp s.facts))],4,[(0,report.length)],1⟩ (.ret (.sc (.string yR))) ⟨[(3,.cells [.sl (.row 0 2) qreportR.length (rows CA qreportR)]),(2,(CP s.Aa)),(1,(Bp s.lines)),(0,(Bp s.facts))],4,[(0,qreportR.length)],1⟩)) {s:Sc} {e:Nd} {report:(List Dg)} {yR:ByteArray} {qreportR:(List Dg)} (h:DJ B4 s e report=some (yR,qreportR)):Sound P G (.call 129 [.agg [.mp 0,.mp 1,.mp 2],.agg (Bq e),.fn (.func 127) [] [.ptr 3 0]] ⟨[(3,.cells [.sl (.row 0 2) report.length (rows CA report)]),(2,(CP s.Aa)),(1,(Bp s.lines)),(0,(Bp s.facts))],4,[(0,report.length)],1⟩ (.ret (.sc (.string yR))) ⟨[(3,.cells [.sl (.row 0 2) qreportR.length (rows CA qreportR)]),(2,(CP s.Aa)),(1,(Bp s.lines)),(0,(Bp s.facts))],4,[(0,qreportR.length)],1⟩):=by
 unfold DJ at h
 refine Di Hd.mixed (Ba Tryz.func129 sH ?_)
 revert h
 refine nK fun hl1=>?_
 refine EQ (fun Q v=>GH P G Tryz.f129 4 ⟨[(3,.cells [.sl (.row 0 2) report.length (rows CA report)]),(2,(CP s.Aa)),(1,(Bp s.lines)),(0,(Bp s.facts))],4,[(0,report.length)],1⟩ Q (.sc (.string v.1)) ⟨[(3,.cells [.sl (.row 0 2) v.2.length (rows CA v.2)]),(2,(CP s.Aa)),(1,(Bp s.lines)),(0,(Bp s.facts))],4,[(0,v.2.length)],1⟩) (fun i0 ((whole8,w6_l,w3_0):(Bool×(List ByteArray)×(List Dg))) (j0:List Value)=>fr 99 [(2,.fn (.func 127) [] [.ptr 3 0]),(3,.ptr 4 0),(4,.ptr 5 0),(7,.msl 6 0 e.kids.length),(8,.sc (.bool whole8)),(18,.sl .lost e.kids.length (B5 e.kids)),(19,.sc (.int .i64 ((e.kids.length:Nat):Int))),(20,.sc (.int .i64 ((i0:Nat):Int)))] [21,32,33,38,39,41,42,45,46,49,50,56,57,66,67,68,69,72,73,78,79,82,83,87,92] j0) (fun ((whole8,w6_l,w3_0):(Bool×(List ByteArray)×(List Dg)))=>⟨[(6,(.cells (rows KM w6_l))),(5,.cells (Bq e)),(4,.cells [.mp 0,.mp 1,.mp 2]),(3,.cells [.sl (.row 0 2) w3_0.length (rows CA w3_0)]),(2,(CP s.Aa)),(1,(Bp s.lines)),(0,(Bp s.facts))],7,[(0,w3_0.length)],1⟩) (fun ((whole8,w6_l,w3_0):(Bool×(List ByteArray)×(List Dg))) (jx:List Value)=>fr 99 [(2,.fn (.func 127) [] [.ptr 3 0]),(3,.ptr 4 0),(4,.ptr 5 0),(7,.msl 6 0 e.kids.length),(8,.sc (.bool whole8))] [21,32,33,38,39,41,42,45,46,49,50,56,57,66,67,68,69,72,73,78,79,82,83,87,92] jx) (fun ((whole8,w6_l,w3_0):(Bool×(List ByteArray)×(List Dg)))=>⟨[(6,(.cells (rows KM w6_l))),(5,.cells (Bq e)),(4,.cells [.mp 0,.mp 1,.mp 2]),(3,.cells [.sl (.row 0 2) w3_0.length (rows CA w3_0)]),(2,(CP s.Aa)),(1,(Bp s.lines)),(0,(Bp s.facts))],7,[(0,w3_0.length)],1⟩) [] (EH [] 0 (sb cH 244) [.code (sb cH 31)] (Ae 300 [zA (gX (n:=e.kids.length) hl1)]) (by kernel_rfl)) ?_ ?_ ?_ (fun v h=>by cases h;exact .outer .body)
 rintro i0 ⟨whole8,w6_l,w3_0⟩ j0 hge hq
 exact C0 (Ae 300 [pb (I3 hge)]) (by kernel_rfl) (hq (js 25 j0 [(0,.bool false)]))
 rintro i0 e0 ⟨whole8,w6_l,w3_0⟩ j0 r he0 hi0 mi0 k
 show Ci B4 s i0 e0 whole8 w6_l w3_0=some r→_
 unfold Ci
 refine AB ?_
 rintro ⟨y2a,y2b⟩ hy2
 dsimp only
 refine AB fun x3 hx3=>?_
 let o1:List (PC P G):=[pb (Gw hi0),Dw (Dp .lost he0),AM (Es (IS hy2) 0 1 2 3 0),Dw (Sz (id:=6) (n:=e.kids.length) (i:=i0) (by have:=LJ (Gw hi0);omega)),xB (g9 hx3 y2a)]
 refine Ai (fun hv=>?_) fun hv=>?_
 subst hv
 refine AB fun x4 hx4=>?_
 let o2:List (PC P G):=o1++[Dw (Sz (id:=6) (n:=e.kids.length) (i:=i0) (by have:=LJ (Gw hi0);omega)),aM (Jn hx4)]
 refine Ai (fun hb1=>?_) fun hb1=>?_
 rintro ⟨⟩
 exact BD Hd.Ab [fq (Au.CI e.kids)] [bp (Bz.Bi (w6_l.set i0 y2a)),bp (Au.pl e),none,br A7 0 2 y2b,BQ s.Aa,A6 s.lines,A6 s.facts] (Ae 300 (o2++[pn hb1,pi mi0])) (by kernel_rfl) (k (js 25 j0 [(0,.bool true),(1,.bool true),(2,.bool true),(3,.bool false),(4,.bool false)]))
 rintro ⟨⟩
 exact BD Hd.Ab [fq (Au.CI e.kids)] [bp (Bz.Bi (w6_l.set i0 y2a)),bp (Au.pl e),none,br A7 0 2 y2b,BQ s.Aa,A6 s.lines,A6 s.facts] (Ae 300 (o2++[pn hb1,pi mi0])) (by kernel_rfl) (k (js 25 j0 [(0,.bool true),(1,.bool true),(2,.bool true),(3,.bool true),(4,.bool true)]))
 subst hv
 rintro ⟨⟩
 exact BD Hd.Ab [fq (Au.CI e.kids)] [bp (Bz.Bi (w6_l.set i0 y2a)),bp (Au.pl e),none,br A7 0 2 y2b,BQ s.Aa,A6 s.lines,A6 s.facts] (Ae 300 (o1++[pi mi0])) (by kernel_rfl) (k (js 25 j0 [(0,.bool true),(1,.bool false),(2,.bool false),(3,undef),(4,.bool false)]))
 rintro ⟨whole8_5,w6_l_5,w3_0_5⟩ jx_5
 dsimp only
 refine Ai (fun hv=>?_) fun hv=>?_
 subst hv
 refine Ai (fun hb2=>?_) fun hb2=>?_
 refine Ai (fun hb3=>?_) fun hb3=>?_
 refine AB ?_
 rintro ⟨y6a,y6b⟩ hy6
 dsimp only
 intro h
 have hE:=Option.some.inj h
 obtain ⟨hE0,hF0⟩:=Prod.mk.inj hE
 subst hE0 hF0
 exact Aq Hd.Ab _ _ [] [br A7 0 2 y6b,BQ s.Aa,A6 s.lines,A6 s.facts] (CH 300 [pb hb2,pb hb3,AM (AD (Aw hy6) 3 0)]) (by kernel_rfl) .body
 intro h
 have hE:=Option.some.inj h
 obtain ⟨hE0,hF0⟩:=Prod.mk.inj hE
 subst hE0 hF0
 exact Aq Hd.Ab _ _ [] [br A7 0 2 w3_0_5,BQ s.Aa,A6 s.lines,A6 s.facts] (CH 300 [pb hb2,pb hb3]) (by kernel_rfl) .body
 let o3:List (PC P G):=[pb hb2]
 refine Ai (fun hb4=>?_) fun hb4=>?_
 refine Ai (fun hb5=>?_) fun hb5=>?_
 refine AB ?_
 rintro ⟨y7a,y7b⟩ hy7
 dsimp only
 intro h
 have hE:=Option.some.inj h
 obtain ⟨hE0,hF0⟩:=Prod.mk.inj hE
 subst hE0 hF0
 exact Aq Hd.Ab _ _ [] [br A7 0 2 y7b,BQ s.Aa,A6 s.lines,A6 s.facts] (CH 300 (o3++[pb hb4,Is (SQ s.facts e.name),pb hb5,AM (AD (Aw hy7) 3 0)])) (by kernel_rfl) .body
 intro h
 have hE:=Option.some.inj h
 obtain ⟨hE0,hF0⟩:=Prod.mk.inj hE
 subst hE0 hF0
 exact Aq Hd.Ab _ _ [] [br A7 0 2 w3_0_5,BQ s.Aa,A6 s.lines,A6 s.facts] (CH 300 (o3++[pb hb4,Is (SQ s.facts e.name),pb hb5])) (by kernel_rfl) .body
 let o4:List (PC P G):=o3++[pb hb4]
 refine Ai (fun hb6=>?_) fun hb6=>?_
 let o5:List (PC P G):=o4++[pb hb6,Is (Vg s.Aa e.n),Is (SQ s.lines ((s.Aa.get e.n).getD ByteArray.empty))]
 refine Ai (fun hb7=>?_) fun hb7=>?_
 refine AB ?_
 rintro ⟨y8a,y8b⟩ hy8
 dsimp only
 intro h
 have hE:=Option.some.inj h
 obtain ⟨hE0,hF0⟩:=Prod.mk.inj hE
 subst hE0 hF0
 exact Aq Hd.Ab _ _ [] [br A7 0 2 y8b,BQ s.Aa,A6 s.lines,A6 s.facts] (CH 300 (o5++[pb hb7,AM (AD (Aw hy8) 3 0)])) (by kernel_rfl) .body
 intro h
 have hE:=Option.some.inj h
 obtain ⟨hE0,hF0⟩:=Prod.mk.inj hE
 subst hE0 hF0
 exact Aq Hd.Ab _ _ [] [br A7 0 2 w3_0_5,BQ s.Aa,A6 s.lines,A6 s.facts] (CH 300 (o5++[pb hb7])) (by kernel_rfl) .body
 let o6:List (PC P G):=o4++[pb hb6]
 refine Ai (fun hb8=>?_) fun hb8=>?_
 refine Ai (fun hb9=>?_) fun hb9=>?_
 refine AB ?_
 rintro ⟨y9a,y9b⟩ hy9
 dsimp only
 intro h
 have hE:=Option.some.inj h
 obtain ⟨hE0,hF0⟩:=Prod.mk.inj hE
 subst hE0 hF0
 exact Aq Hd.Ab _ _ [] [br A7 0 2 y9b,BQ s.Aa,A6 s.lines,A6 s.facts] (CH 300 (o6++[pb hb8,pb hb9,AM (AD (Aw hy9) 3 0)])) (by kernel_rfl) .body
 intro h
 have hE:=Option.some.inj h
 obtain ⟨hE0,hF0⟩:=Prod.mk.inj hE
 subst hE0 hF0
 exact Aq Hd.Ab _ _ [] [br A7 0 2 w3_0_5,BQ s.Aa,A6 s.lines,A6 s.facts] (CH 300 (o6++[pb hb8,pb hb9])) (by kernel_rfl) .body
 let o7:List (PC P G):=o6++[pb hb8]
 refine Ai (fun hb10=>?_) fun hb10=>?_
 refine AB fun y10 hy10=>?_
 refine Ai (fun hb11=>?_) fun hb11=>?_
 refine AB ?_
 rintro ⟨y11a,y11b⟩ hy11
 dsimp only
 intro h
 have hE:=Option.some.inj h
 obtain ⟨hE0,hF0⟩:=Prod.mk.inj hE
 subst hE0 hF0
 exact Aq Hd.Ab _ _ [] [br A7 0 2 y11b,BQ s.Aa,A6 s.lines,A6 s.facts] (CH 300 (o7++[pb hb10,AM (DA (CM hy10) 6),pb hb11,AM (AD (Aw hy11) 3 0)])) (by kernel_rfl) .body
 intro h
 have hE:=Option.some.inj h
 obtain ⟨hE0,hF0⟩:=Prod.mk.inj hE
 subst hE0 hF0
 exact Aq Hd.Ab _ _ [] [br A7 0 2 w3_0_5,BQ s.Aa,A6 s.lines,A6 s.facts] (CH 300 (o7++[pb hb10,AM (DA (CM hy10) 6),pb hb11])) (by kernel_rfl) .body
 let o8:List (PC P G):=o7++[pb hb10]
 refine Ai (fun hb12=>?_) fun hb12=>?_
 refine AB fun y12 hy12=>?_
 refine Ai (fun hb13=>?_) fun hb13=>?_
 refine AB ?_
 rintro ⟨y13a,y13b⟩ hy13
 dsimp only
 intro h
 have hE:=Option.some.inj h
 obtain ⟨hE0,hF0⟩:=Prod.mk.inj hE
 subst hE0 hF0
 exact Aq Hd.Ab _ _ [] [br A7 0 2 y13b,BQ s.Aa,A6 s.lines,A6 s.facts] (CH 300 (o8++[pb hb12,AM (DA (CM hy12) 6),pb hb13,AM (AD (Aw hy13) 3 0)])) (by kernel_rfl) .body
 intro h
 have hE:=Option.some.inj h
 obtain ⟨hE0,hF0⟩:=Prod.mk.inj hE
 subst hE0 hF0
 exact Aq Hd.Ab _ _ [] [br A7 0 2 w3_0_5,BQ s.Aa,A6 s.lines,A6 s.facts] (CH 300 (o8++[pb hb12,AM (DA (CM hy12) 6),pb hb13])) (by kernel_rfl) .body
 refine Ai (fun hb14=>?_) fun hb14=>?_
 refine AB fun y14 hy14=>?_
 refine Ai (fun hb15=>?_) fun hb15=>?_
 refine AB ?_
 rintro ⟨y15a,y15b⟩ hy15
 dsimp only
 intro h
 have hE:=Option.some.inj h
 obtain ⟨hE0,hF0⟩:=Prod.mk.inj hE
 subst hE0 hF0
 exact Aq Hd.Ab _ _ [] [br A7 0 2 y15b,BQ s.Aa,A6 s.lines,A6 s.facts] (CH 300 (o8++[pb hb12,pb hb14,AM (DA (CM hy14) 6),pb hb15,AM (AD (Aw hy15) 3 0)])) (by kernel_rfl) .body
 intro h
 have hE:=Option.some.inj h
 obtain ⟨hE0,hF0⟩:=Prod.mk.inj hE
 subst hE0 hF0
 exact Aq Hd.Ab _ _ [] [br A7 0 2 w3_0_5,BQ s.Aa,A6 s.lines,A6 s.facts] (CH 300 (o8++[pb hb12,pb hb14,AM (DA (CM hy14) 6),pb hb15])) (by kernel_rfl) .body
 let o9:List (PC P G):=o8++[pb hb12,pb hb14]
 refine Ai (fun hb16=>?_) fun hb16=>?_
 refine AB fun ZB hk16=>?_
 refine AB fun x17 hx17=>?_
 refine AB fun y18 hy18=>?_
 let o10:List (PC P G):=o9++[pb hb16,Dw (JE (id:=6) hk16),aM (Jn hx17),Bu (D8 hy18)]
 refine Ai (fun hv=>?_) fun hv=>?_
 subst hv
 refine Ai (fun hb17=>?_) fun hb17=>?_
 refine AB ?_
 rintro ⟨y19a,y19b⟩ hy19
 dsimp only
 intro h
 have hE:=Option.some.inj h
 obtain ⟨hE0,hF0⟩:=Prod.mk.inj hE
 subst hE0 hF0
 exact Aq Hd.Ab _ _ [] [br A7 0 2 y19b,BQ s.Aa,A6 s.lines,A6 s.facts] (CH 300 (o10++[Dw (JE (id:=6) hk16),aM (Jn hx17),pb hb17,AM (AD (Aw hy19) 3 0)])) (by kernel_rfl) .body
 intro h
 have hE:=Option.some.inj h
 obtain ⟨hE0,hF0⟩:=Prod.mk.inj hE
 subst hE0 hF0
 exact Aq Hd.Ab _ _ [] [br A7 0 2 w3_0_5,BQ s.Aa,A6 s.lines,A6 s.facts] (CH 300 (o10++[Dw (JE (id:=6) hk16),aM (Jn hx17),pb hb17])) (by kernel_rfl) .body
 subst hv
 refine Ai (fun hb18=>?_) fun hb18=>?_
 refine AB ?_
 rintro ⟨y20a,y20b⟩ hy20
 dsimp only
 intro h
 have hE:=Option.some.inj h
 obtain ⟨hE0,hF0⟩:=Prod.mk.inj hE
 subst hE0 hF0
 exact Aq Hd.Ab _ _ [] [br A7 0 2 y20b,BQ s.Aa,A6 s.lines,A6 s.facts] (CH 300 (o10++[pb hb18,AM (AD (Aw hy20) 3 0)])) (by kernel_rfl) .body
 intro h
 have hE:=Option.some.inj h
 obtain ⟨hE0,hF0⟩:=Prod.mk.inj hE
 subst hE0 hF0
 exact Aq Hd.Ab _ _ [] [br A7 0 2 w3_0_5,BQ s.Aa,A6 s.lines,A6 s.facts] (CH 300 (o10++[pb hb18])) (by kernel_rfl) .body
 refine Ai (fun hb19=>?_) fun hb19=>?_
 refine AB ?_
 rintro ⟨y21a,y21b⟩ hy21
 dsimp only
 intro h
 have hE:=Option.some.inj h
 obtain ⟨hE0,hF0⟩:=Prod.mk.inj hE
 subst hE0 hF0
 exact Aq Hd.Ab _ _ [] [br A7 0 2 y21b,BQ s.Aa,A6 s.lines,A6 s.facts] (CH 300 (o9++[pb hb16,pb hb19,AM (AD (Aw hy21) 3 0)])) (by kernel_rfl) .body
 intro h
 have hE:=Option.some.inj h
 obtain ⟨hE0,hF0⟩:=Prod.mk.inj hE
 subst hE0 hF0
 exact Aq Hd.Ab _ _ [] [br A7 0 2 w3_0_5,BQ s.Aa,A6 s.lines,A6 s.facts] (CH 300 (o9++[pb hb16,pb hb19])) (by kernel_rfl) .body
 subst hv
 intro h
 have hE:=Option.some.inj h
 obtain ⟨hE0,hF0⟩:=Prod.mk.inj hE
 subst hE0 hF0
 exact Aq Hd.Ab _ _ [] [br A7 0 2 w3_0_5,BQ s.Aa,A6 s.lines,A6 s.facts] (CH 300 []) (by kernel_rfl) .body
noncomputable def BB:Nat→Sc→Nd→(List Dg)→Option (ByteArray×(List Dg))
 | 0,_,_,_=>none
 | qn+1,s,e,report=>DJ (BB qn) s e report
theorem Ig:∀ qn:Nat,∀ {s:Sc} {e:Nd} {report:(List Dg)} {yR:ByteArray} {qreportR:(List Dg)},BB qn s e report=some (yR,qreportR)→Sound P G (.call 129 [.agg [.mp 0,.mp 1,.mp 2],.agg (Bq e),.fn (.func 127) [] [.ptr 3 0]] ⟨[(3,.cells [.sl (.row 0 2) report.length (rows CA report)]),(2,(CP s.Aa)),(1,(Bp s.lines)),(0,(Bp s.facts))],4,[(0,report.length)],1⟩ (.ret (.sc (.string yR))) ⟨[(3,.cells [.sl (.row 0 2) qreportR.length (rows CA qreportR)]),(2,(CP s.Aa)),(1,(Bp s.lines)),(0,(Bp s.facts))],4,[(0,qreportR.length)],1⟩):=by
 intro qn
 induction qn with
 | zero=>exact (fun h=>by simp only [BB] at h;cases h)
 | succ qn ih=>exact (fun h=>H9 (BB qn) ih (by rw [BB] at h;exact h))
noncomputable def DI (s:Sc) (e:Nd) (report:(List Dg)):Option (ByteArray×(List Dg)):=UN (fun qn=>BB qn s e report)
theorem FN {s:Sc} {e:Nd} {report:(List Dg)} {yR:ByteArray} {qreportR:(List Dg)} (h:DI s e report=some (yR,qreportR)):Sound P G (.call 129 [.agg [.mp 0,.mp 1,.mp 2],.agg (Bq e),.fn (.func 127) [] [.ptr 3 0]] ⟨[(3,.cells [.sl (.row 0 2) report.length (rows CA report)]),(2,(CP s.Aa)),(1,(Bp s.lines)),(0,(Bp s.facts))],4,[(0,report.length)],1⟩ (.ret (.sc (.string yR))) ⟨[(3,.cells [.sl (.row 0 2) qreportR.length (rows CA qreportR)]),(2,(CP s.Aa)),(1,(Bp s.lines)),(0,(Bp s.facts))],4,[(0,qreportR.length)],1⟩):=by
 obtain ⟨qn,h⟩:=QW h
 exact (Ig qn) h
noncomputable def p5:Code:=Bo Tryz.f84
theorem yQ:Tryz.f84.body=some p5:=by kernel_rfl
noncomputable def BG  (s:Sc) (Bf:Nd) (i0:Nat) (e0:Nd) (w3_0:(List Dg)):Option (Lp (List Dg) (List Dg) (Unit×(List Dg))):=cond (CN e0.n Bf.n) ((Av 101 e0.att w3_0).bind fun (y7a,y7b)=>some (.nx y7b)) (cond ((s.Aa.get e0.n).isSome) (some (.nx w3_0)) ((Av 91 e0.att w3_0).bind fun (y8a,y8b)=>some (.nx y8b)))
noncomputable def A8  (s:Sc) (Bf:Nd) (clause:Nd) (report:(List Dg)):Option (Unit×(List Dg)):=cond (CN clause.kind 7) ((G8 clause.kids.length (Bk (fun i y x=>BG  s Bf i y x) (fun x=>x) (clause.kids.drop 0) 0 report)).bind (Hv (fun (w3_0_9:(List Dg))=>some ((),w3_0_9)) (fun v=>some v))) (cond (CN clause.kind 6) ((clause.kids[0]?).bind fun x1=>(DI s x1 report).bind fun (y2a,y2b)=>cond (Cu y2a.data.toList ByteArray.empty.data.toList) (some ((),y2b)) (cond (Cu AO.data.toList ByteArray.empty.data.toList) (some ((),y2b)) (cond (Cu y2a.data.toList AO.data.toList) (some ((),y2b)) ((Av 11 x1.att y2b).bind fun (y3a,y3b)=>some ((),y3b))))) ((clause.kids[0]?).bind fun x4=>(DI s x4 report).bind fun (y5a,y5b)=>cond (Cu y5a.data.toList ByteArray.empty.data.toList) (some ((),y5b)) (cond (Cu ((s.lines.get Bf.name).getD ByteArray.empty).data.toList ByteArray.empty.data.toList) (some ((),y5b)) (cond (Cu y5a.data.toList ((s.lines.get Bf.name).getD ByteArray.empty).data.toList) (some ((),y5b)) ((Av 11 x4.att y5b).bind fun (y6a,y6b)=>some ((),y6b))))))
theorem B6 {s:Sc} {Bf:Nd} {clause:Nd} {report:(List Dg)} {qreportR:(List Dg)} (hS:Sound P G (.call 84 [.agg [.mp 0,.mp 1,.mp 2],.agg (Bq Bf),.agg (Bq clause),.fn (.func 127) [] [.ptr 3 0]] ⟨[(3,.cells [.sl (.row 0 2) report.length (rows CA report)]),(2,(CP s.Aa)),(1,(Bp s.lines)),(0,(Bp s.facts))],4,[(0,report.length)],1⟩ (.ret (.Bh [])) ⟨[(3,.cells [.sl (.row 0 2) qreportR.length (rows CA qreportR)]),(2,(CP s.Aa)),(1,(Bp s.lines)),(0,(Bp s.facts))],4,[(0,qreportR.length)],1⟩)) (u0 u1 u2 u3 v0:Nat) (hnb:[u0,u1,u2,u3].Nodup:=by decide) (hnt:([v0]:List Nat).Nodup:=by decide):Cd.ok P G (.callU 84 [.agg [.mp u0,.mp u1,.mp u2],.agg (Bq Bf),.agg (Bq clause),.fn (.func 127) [] [.ptr u3 0]] (.ret (.Bh [])) [(u0,(Bp s.facts)),(u1,(Bp s.lines)),(u2,(CP s.Aa)),(u3,.cells [.sl (.row v0 2) report.length (rows CA report)])] [(v0,report.length)] [(u0,(Bp s.facts)),(u1,(Bp s.lines)),(u2,(CP s.Aa)),(u3,.cells [.sl (.row v0 2) qreportR.length (rows CA qreportR)])] [(v0,qreportR.length)]) :=
 Dh (M:=[(Bp s.facts),(Bp s.lines),(CP s.Aa),.cells [.sl (.row 0 2) report.length (rows CA report)]]) (M2:=[(Bp s.facts),(Bp s.lines),(CP s.Aa),.cells [.sl (.row 0 2) qreportR.length (rows CA qreportR)]]) (T:=[report.length]) (T2:=[qreportR.length]) (k:=4) (j:=1) Hd.Ab _ _ _ _ hS rfl rfl rfl rfl rfl hnb hnt rfl rfl (.cons (Bv (fun _=>rfl)) (.cons (Bv (fun _=>rfl)) (.cons (Bv (fun _=>rfl)) (.cons (.cells (.cons (.row (by decide) (A7.Bi report)) .nil)) .nil)))) (.cons (Bv (fun _=>rfl)) (.cons (Bv (fun _=>rfl)) (.cons (Bv (fun _=>rfl)) (.cons (.cells (.cons (.row (by decide) (A7.Bi qreportR)) .nil)) .nil)))) (.cons (.agg (.cons (.mp (by decide)) (.cons (.mp (by decide)) (.cons (.mp (by decide)) .nil)))) (.cons (.pl (Au.D1 Bf)) (.cons (.pl (Au.D1 clause)) (.cons (.fn (.pl rfl) (.cons (.ptr (by decide)) .nil)) .nil)))) (.pl rfl) (by
   intro e he
   simp only [List.mem_cons,List.not_mem_nil,or_false] at he
   rcases he with rfl | rfl | rfl | rfl
   · exact (.arg (.here (.agg (.here .mp))))
   · exact (.arg (.here (.agg (.there (.here .mp)))))
   · exact (.arg (.here (.agg (.there (.there (.here .mp))))))
   · exact (.arg (.there (.there (.there (.here (.fn2 (.here .ptr)))))))
   )
theorem BL   {s:Sc} {Bf:Nd} {clause:Nd} {report:(List Dg)} {yR:Unit} {qreportR:(List Dg)} (h:A8  s Bf clause report=some (yR,qreportR)):Sound P G (.call 84 [.agg [.mp 0,.mp 1,.mp 2],.agg (Bq Bf),.agg (Bq clause),.fn (.func 127) [] [.ptr 3 0]] ⟨[(3,.cells [.sl (.row 0 2) report.length (rows CA report)]),(2,(CP s.Aa)),(1,(Bp s.lines)),(0,(Bp s.facts))],4,[(0,report.length)],1⟩ (.ret (.Bh [])) ⟨[(3,.cells [.sl (.row 0 2) qreportR.length (rows CA qreportR)]),(2,(CP s.Aa)),(1,(Bp s.lines)),(0,(Bp s.facts))],4,[(0,qreportR.length)],1⟩):=by
 unfold A8 at h
 refine Di Hd.mixed (Ba Tryz.func84 yQ ?_)
 revert h
 refine Ai (fun hb1=>?_) fun hb1=>?_
 refine EQ (fun Q v=>GH P G Tryz.f84 4 ⟨[(3,.cells [.sl (.row 0 2) report.length (rows CA report)]),(2,(CP s.Aa)),(1,(Bp s.lines)),(0,(Bp s.facts))],4,[(0,report.length)],1⟩ Q (.Bh []) ⟨[(3,.cells [.sl (.row 0 2) v.2.length (rows CA v.2)]),(2,(CP s.Aa)),(1,(Bp s.lines)),(0,(Bp s.facts))],4,[(0,v.2.length)],1⟩) (fun i0 (w3_0:(List Dg)) (j0:List Value)=>fr 80 [(3,.fn (.func 127) [] [.ptr 3 0]),(4,.ptr 4 0),(5,.ptr 5 0),(19,.sl .lost clause.kids.length (B5 clause.kids)),(20,.sc (.int .i64 ((clause.kids.length:Nat):Int))),(21,.sc (.int .i64 ((i0:Nat):Int)))] [11,17,22,29,41,42,43,56,66,67,69,70,71,74,75] j0) (fun (w3_0:(List Dg))=>⟨[(6,.cells (Bq clause)),(5,.cells (Bq Bf)),(4,.cells [.mp 0,.mp 1,.mp 2]),(3,.cells [.sl (.row 0 2) w3_0.length (rows CA w3_0)]),(2,(CP s.Aa)),(1,(Bp s.lines)),(0,(Bp s.facts))],7,[(0,w3_0.length)],1⟩) (fun (w3_0:(List Dg)) (jx:List Value)=>fr 80 [] [11,17,22,29,41,42,43,56,66,67,69,70,71,74,75] jx) (fun (w3_0:(List Dg))=>⟨[(6,.cells (Bq clause)),(5,.cells (Bq Bf)),(4,.cells [.mp 0,.mp 1,.mp 2]),(3,.cells [.sl (.row 0 2) w3_0.length (rows CA w3_0)]),(2,(CP s.Aa)),(1,(Bp s.lines)),(0,(Bp s.facts))],7,[(0,w3_0.length)],1⟩) [undef,.bool true] (EH [] 0 (sb p5 420) [.code (sb p5 53),.code (sb p5 7)] (Ae 300 [pb hb1]) (by kernel_rfl)) ?_ ?_ ?_ (fun v h=>by cases h;exact .outer .body)
 rintro i0 w3_0 j0 hge hq
 exact C0 (Ae 300 [pb (I3 hge)]) (by kernel_rfl) (hq (js 15 j0 [(2,.bool false)]))
 rintro i0 e0 w3_0 j0 r he0 hi0 mi0 k
 show BG  s Bf i0 e0 w3_0=some r→_
 unfold BG
 refine Ai (fun hb9=>?_) fun hb9=>?_
 refine AB ?_
 rintro ⟨y7a,y7b⟩ hy7
 dsimp only
 rintro ⟨⟩
 exact BD Hd.Ab [fq (Au.CI clause.kids)] [bp (Au.pl clause),bp (Au.pl Bf),none,br A7 0 2 y7b,BQ s.Aa,A6 s.lines,A6 s.facts] (Ae 300 [pb (Gw hi0),Dw (Dp .lost he0),pb hb9,AM (AD (Aw hy7) 3 0),pi mi0]) (by kernel_rfl) (k (js 15 j0 [(2,.bool true),(3,.bool true)]))
 refine Ai (fun hb10=>?_) fun hb10=>?_
 rintro ⟨⟩
 exact BD Hd.Ab [fq (Au.CI clause.kids)] [bp (Au.pl clause),bp (Au.pl Bf),none,br A7 0 2 w3_0,BQ s.Aa,A6 s.lines,A6 s.facts] (Ae 300 [pb (Gw hi0),Dw (Dp .lost he0),pb hb9,Is (PG s.Aa e0.n hb10),pi mi0]) (by kernel_rfl) (k (js 15 j0 [(0,.bool true),(2,.bool true),(3,.bool false),(4,.bool true),(5,.bool true),(6,.bool false)]))
 refine AB ?_
 rintro ⟨y8a,y8b⟩ hy8
 dsimp only
 rintro ⟨⟩
 exact BD Hd.Ab [fq (Au.CI clause.kids)] [bp (Au.pl clause),bp (Au.pl Bf),none,br A7 0 2 y8b,BQ s.Aa,A6 s.lines,A6 s.facts] (Ae 300 [pb (Gw hi0),Dw (Dp .lost he0),pb hb9,Is (PG s.Aa e0.n hb10),AM (AD (Aw hy8) 3 0),pi mi0]) (by kernel_rfl) (k (js 15 j0 [(0,.bool false),(2,.bool true),(3,.bool false),(4,.bool false),(5,.bool false),(6,.bool true)]))
 rintro w3_0_9 jx_9
 intro h
 have hE:=Option.some.inj h
 obtain ⟨hE0,hF0⟩:=Prod.mk.inj hE
 subst hE0 hF0
 exact Aq Hd.Ab _ _ [⟨.Bh [],.Bh [],(.plain rfl)⟩] [br A7 0 2 w3_0_9,BQ s.Aa,A6 s.lines,A6 s.facts] (CH 300 []) (by kernel_rfl) .body
 let o1:List (PC P G):=[pb hb1,Is (SQ s.lines Bf.name)]
 refine Ai (fun hb2=>?_) fun hb2=>?_
 refine AB fun x1 hx1=>?_
 refine AB ?_
 rintro ⟨y2a,y2b⟩ hy2
 dsimp only
 let o2:List (PC P G):=o1++[pb hb2,Dw (Dp .lost hx1),AM (Es (FN hy2) 0 1 2 3 0)]
 refine Ai (fun hb3=>?_) fun hb3=>?_
 intro h
 have hE:=Option.some.inj h
 obtain ⟨hE0,hF0⟩:=Prod.mk.inj hE
 subst hE0 hF0
 exact Jl Hd.Ab _ _ [⟨.Bh [],.Bh [],(.plain rfl)⟩] [br A7 0 2 y2b,BQ s.Aa,A6 s.lines,A6 s.facts] (Ae 300 (o2++[pn hb3])) (by kernel_rfl)
 refine Ai (fun hb4=>?_) fun hb4=>?_
 intro h
 have hE:=Option.some.inj h
 obtain ⟨hE0,hF0⟩:=Prod.mk.inj hE
 subst hE0 hF0
 exact Jl Hd.Ab _ _ [⟨.Bh [],.Bh [],(.plain rfl)⟩] [br A7 0 2 y2b,BQ s.Aa,A6 s.lines,A6 s.facts] (Ae 300 (o2++[pn hb3,pn hb4])) (by kernel_rfl)
 refine Ai (fun hb5=>?_) fun hb5=>?_
 intro h
 have hE:=Option.some.inj h
 obtain ⟨hE0,hF0⟩:=Prod.mk.inj hE
 subst hE0 hF0
 exact Jl Hd.Ab _ _ [⟨.Bh [],.Bh [],(.plain rfl)⟩] [br A7 0 2 y2b,BQ s.Aa,A6 s.lines,A6 s.facts] (Ae 300 (o2++[pn hb3,pn hb4,pn hb5])) (by kernel_rfl)
 refine AB ?_
 rintro ⟨y3a,y3b⟩ hy3
 dsimp only
 intro h
 have hE:=Option.some.inj h
 obtain ⟨hE0,hF0⟩:=Prod.mk.inj hE
 subst hE0 hF0
 exact Jl Hd.Ab _ _ [⟨.Bh [],.Bh [],(.plain rfl)⟩] [br A7 0 2 y3b,BQ s.Aa,A6 s.lines,A6 s.facts] (Ae 300 (o2++[pn hb3,pn hb4,pn hb5,AM (AD (Aw hy3) 3 0)])) (by kernel_rfl)
 refine AB fun x4 hx4=>?_
 refine AB ?_
 rintro ⟨y5a,y5b⟩ hy5
 dsimp only
 let o3:List (PC P G):=o1++[pb hb2,Dw (Dp .lost hx4),AM (Es (FN hy5) 0 1 2 3 0)]
 refine Ai (fun hb6=>?_) fun hb6=>?_
 intro h
 have hE:=Option.some.inj h
 obtain ⟨hE0,hF0⟩:=Prod.mk.inj hE
 subst hE0 hF0
 exact Jl Hd.Ab _ _ [⟨.Bh [],.Bh [],(.plain rfl)⟩] [br A7 0 2 y5b,BQ s.Aa,A6 s.lines,A6 s.facts] (Ae 300 (o3++[pn hb6])) (by kernel_rfl)
 refine Ai (fun hb7=>?_) fun hb7=>?_
 intro h
 have hE:=Option.some.inj h
 obtain ⟨hE0,hF0⟩:=Prod.mk.inj hE
 subst hE0 hF0
 exact Jl Hd.Ab _ _ [⟨.Bh [],.Bh [],(.plain rfl)⟩] [br A7 0 2 y5b,BQ s.Aa,A6 s.lines,A6 s.facts] (Ae 300 (o3++[pn hb6,pn hb7])) (by kernel_rfl)
 refine Ai (fun hb8=>?_) fun hb8=>?_
 intro h
 have hE:=Option.some.inj h
 obtain ⟨hE0,hF0⟩:=Prod.mk.inj hE
 subst hE0 hF0
 exact Jl Hd.Ab _ _ [⟨.Bh [],.Bh [],(.plain rfl)⟩] [br A7 0 2 y5b,BQ s.Aa,A6 s.lines,A6 s.facts] (Ae 300 (o3++[pn hb6,pn hb7,pn hb8])) (by kernel_rfl)
 refine AB ?_
 rintro ⟨y6a,y6b⟩ hy6
 dsimp only
 intro h
 have hE:=Option.some.inj h
 obtain ⟨hE0,hF0⟩:=Prod.mk.inj hE
 subst hE0 hF0
 exact Jl Hd.Ab _ _ [⟨.Bh [],.Bh [],(.plain rfl)⟩] [br A7 0 2 y6b,BQ s.Aa,A6 s.lines,A6 s.facts] (Ae 300 (o3++[pn hb6,pn hb7,pn hb8,AM (AD (Aw hy6) 3 0)])) (by kernel_rfl)
noncomputable def Um:Code:=Bo Tryz.f46
theorem xR:Tryz.f46.body=some Um:=by kernel_rfl
noncomputable def FK  (y3:Sc) (e0:Nd) (i1:Nat) (e1:Nd) (w1_0:(List Dg)):Option (Lp (List Dg) (List Dg) (List Dg)):=(A8 y3 e0 e1 w1_0).bind fun (y14a,y14b)=>some (.nx y14b)
noncomputable def Fv  (y3:Sc) (e0:Nd) (i2:Nat) (e2:Nd) (w1_0:(List Dg)):Option (Lp (List Dg) (List Dg) (List Dg)):=(A8 y3 e0 e2 w1_0).bind fun (y16a,y16b)=>some (.nx y16b)
noncomputable def Fx  (y3:Sc) (e0:Nd) (i3:Nat) (e3:Nd) (w1_0:(List Dg)):Option (Lp (List Dg) (List Dg) (List Dg)):=(A8 y3 e0 e3 w1_0).bind fun (y18a,y18b)=>some (.nx y18b)
noncomputable def FA  (y3:Sc) (e0:Nd) (i4:Nat) (e4:Nd) (w1_0:(List Dg)):Option (Lp (List Dg) (List Dg) (List Dg)):=(A8 y3 e0 e4 w1_0).bind fun (y20a,y20b)=>some (.nx y20b)
noncomputable def FL  (y3:Sc) (e0:Nd) (i5:Nat) (e5:Nd) (w1_0:(List Dg)):Option (Lp (List Dg) (List Dg) (List Dg)):=(A8 y3 e0 e5 w1_0).bind fun (y22a,y22b)=>some (.nx y22b)
noncomputable def D9  (y3:Sc) (i0:Nat) (e0:Nd) (count6:Int) (w1_0:(List Dg)):Option (Lp (Int×(List Dg)) (List Dg) (List Dg)):=cond (CN e0.kind 4) (cond ((y3.lines.get e0.name).isSome) (cond (Fu 60 (BU count6 1)) ((Av 2 e0.att w1_0).bind fun (y5a,y5b)=>(FZ e0.kids 1 ((e0.kids.length:Nat):Int)).bind fun l6=>(G8 l6.length (Bk (fun i y x=>FK  y3 e0 i y x) (fun x=>x) (l6.drop 0) 0 y5b)).bind (Hv (fun (w1_0_15:(List Dg))=>some (.nx ((BU count6 1),w1_0_15))) (fun v=>some (.rt v)))) (cond (Cu ((y3.Aa.get e0.n).getD ByteArray.empty).data.toList e0.name.data.toList) ((FZ e0.kids 1 ((e0.kids.length:Nat):Int)).bind fun l7=>(G8 l7.length (Bk (fun i y x=>Fv  y3 e0 i y x) (fun x=>x) (l7.drop 0) 0 w1_0)).bind (Hv (fun (w1_0_17:(List Dg))=>some (.nx ((BU count6 1),w1_0_17))) (fun v=>some (.rt v)))) ((Av 101 e0.att w1_0).bind fun (y8a,y8b)=>(FZ e0.kids 1 ((e0.kids.length:Nat):Int)).bind fun l9=>(G8 l9.length (Bk (fun i y x=>Fx  y3 e0 i y x) (fun x=>x) (l9.drop 0) 0 y8b)).bind (Hv (fun (w1_0_19:(List Dg))=>some (.nx ((BU count6 1),w1_0_19))) (fun v=>some (.rt v)))))) (cond (Fu 60 (BU count6 1)) ((Av 2 e0.att w1_0).bind fun (y10a,y10b)=>(FZ e0.kids 1 ((e0.kids.length:Nat):Int)).bind fun l11=>(G8 l11.length (Bk (fun i y x=>FA  y3 e0 i y x) (fun x=>x) (l11.drop 0) 0 y10b)).bind (Hv (fun (w1_0_21:(List Dg))=>some (.nx ((BU count6 1),w1_0_21))) (fun v=>some (.rt v)))) ((Av 91 e0.att w1_0).bind fun (y12a,y12b)=>(FZ e0.kids 1 ((e0.kids.length:Nat):Int)).bind fun l13=>(G8 l13.length (Bk (fun i y x=>FL  y3 e0 i y x) (fun x=>x) (l13.drop 0) 0 y12b)).bind (Hv (fun (w1_0_23:(List Dg))=>some (.nx ((BU count6 1),w1_0_23))) (fun v=>some (.rt v)))))) (some (.nx (count6,w1_0)))
noncomputable def En  (source:Nd):Option (List Dg):=cond (CN source.kind 1) ((DC source).bind fun y1=>cond y1 ((Ey).bind fun y2=>(D2 source).bind fun y3=>(B7 source []).bind fun (y4a,y4b)=>(G8 source.kids.length (Bk (fun i y x=>D9  y3 i y x.1 x.2) (fun x=>x.2) (source.kids.drop 0) 0 (0,y4b))).bind (Hv (fun (w1_0_24:(List Dg))=>some w1_0_24) (fun v=>some v))) (some [(⟨1,0⟩:Dg)])) (some [(⟨1,0⟩:Dg)])
theorem Ic   {source:Nd} {yR:(List Dg)} (h:En  source=some yR):Pure P G 46 [.agg (Bq source)] (.sl .lost yR.length (rows CA yR)):=by
 unfold En at h
 refine DD Hd.mixed Hd.Ab (Ba Tryz.func46 xR ?_) (Bi (Au.D1 source) rfl) (A7.CI yR)
 revert h
 refine Ai (fun hb1=>?_) fun hb1=>?_
 refine AB fun y1 hy1=>?_
 refine Ai (fun hv=>?_) fun hv=>?_
 subst hv
 refine AB fun y2 hy2=>?_
 refine AB fun y3 hy3=>?_
 refine AB ?_
 rintro ⟨y4a,y4b⟩ hy4
 dsimp only
 refine EQ (fun Q v=>FF P Tryz.f46 0 Q (.sl .lost v.length (rows CA v))) (fun i0 ((count6,w1_0):(Int×(List Dg))) (j0:List Value)=>fr 97 [(3,.ptr 1 0),(4,.fn (.func 127) [] [.ptr 1 0]),(5,.ptr 7 0),(6,.sc (.int .i64 count6)),(33,.sl .lost source.kids.length (B5 source.kids)),(34,.sc (.int .i64 ((source.kids.length:Nat):Int))),(35,.sc (.int .i64 ((i0:Nat):Int)))] [10,15,16,18,19,20,36,41,51,52,54,59,60,61,66,74,84] j0) (fun ((count6,w1_0):(Int×(List Dg)))=>⟨[(7,.cells [.mp 4,.mp 5,.mp 6]),(6,(CP y3.Aa)),(5,(Bp y3.lines)),(4,(Bp y3.facts)),(1,.cells [.sl (.row 0 2) w1_0.length (rows CA w1_0)]),(0,.cells (Bq source))],8,[(0,w1_0.length)],1⟩) (fun (w1_0:(List Dg)) (jx:List Value)=>fr 97 [(3,.ptr 1 0)] [10,15,16,18,19,20,36,41,51,52,54,59,60,61,66,74,84] jx) (fun (w1_0:(List Dg))=>⟨[(7,.cells [.mp 4,.mp 5,.mp 6]),(6,(CP y3.Aa)),(5,(Bp y3.lines)),(4,(Bp y3.facts)),(1,.cells [.sl (.row 0 2) w1_0.length (rows CA w1_0)]),(0,.cells (Bq source))],8,[(0,w1_0.length)],1⟩) [undef,.bool false,.bool false,.bool true,.bool false,.bool false] (EH [] 0 (sb Um 2036) [.code (sb Um 255)] (Ae 300 [pn hb1,Bu (DT hy1),Rr (v:=.Bh [.ptr 1 0,.fn (.func 127) [] [.ptr 1 0]]) (h:=[(1,.cells [.sl .full 0 []])] ) (F:=[]) (Kq (I9 hy2) 1 0),Rr (v:=.agg [.mp 4,.mp 5,.mp 6]) (h:=[(6,(CP y3.Aa)),(5,(Bp y3.lines)),(4,(Bp y3.facts))] ) (F:=[]) (Lw (JK hy3) 2 0),yF [.b 1 0 2],AM (G4 (F8 hy4) 1 0)]) (by kernel_rfl)) ?_ ?_ ?_ (fun v h=>by cases h;exact .outer .body)
 rintro i0 ⟨count6,w1_0⟩ j0 hge hq
 exact C0 (Ae 300 [pb (I3 hge)]) (by kernel_rfl) (hq (js 17 j0 [(6,.bool false)]))
 rintro i0 e0 ⟨count6,w1_0⟩ j0 r he0 hi0 mi0 k
 show D9  y3 i0 e0 count6 w1_0=some r→_
 unfold D9
 let o1:List (PC P G):=[pb (Gw hi0),Dw (Dp .lost he0)]
 refine Ai (fun hb2=>?_) fun hb2=>?_
 refine Ai (fun hb3=>?_) fun hb3=>?_
 let o2:List (PC P G):=o1++[pn hb2,pk,Is (J0 y3.lines e0.name hb3)]
 refine Ai (fun hb4=>?_) fun hb4=>?_
 refine AB ?_
 rintro ⟨y5a,y5b⟩ hy5
 dsimp only
 refine AB fun l6 hl6=>?_
 refine EQ (fun Q v=>FF P Tryz.f46 0 Q (.sl .lost v.length (rows CA v))) (fun i1 (w1_0:(List Dg)) (j1:List Value)=>fr 97 [(3,.ptr 1 0),(4,.fn (.func 127) [] [.ptr 1 0]),(5,.ptr 7 0),(6,.sc (.int .i64 (BU count6 1))),(8,.ptr 8 0),(33,.sl .lost source.kids.length (B5 source.kids)),(34,.sc (.int .i64 ((source.kids.length:Nat):Int))),(35,.sc (.int .i64 ((i0:Nat):Int))),(81,.sl .lost l6.length (B5 l6)),(82,.sc (.int .i64 ((l6.length:Nat):Int))),(83,.sc (.int .i64 ((i1:Nat):Int)))] [10,15,16,18,19,20,36,41,51,52,54,59,60,61,66,74,84] j1) (fun (w1_0:(List Dg))=>⟨[(8,.cells (Bq e0)),(7,.cells [.mp 4,.mp 5,.mp 6]),(6,(CP y3.Aa)),(5,(Bp y3.lines)),(4,(Bp y3.facts)),(1,.cells [.sl (.row 0 2) w1_0.length (rows CA w1_0)]),(0,.cells (Bq source))],9,[(0,w1_0.length)],1⟩) (fun (w1_0:(List Dg)) (jx:List Value)=>fr 97 [(3,.ptr 1 0),(4,.fn (.func 127) [] [.ptr 1 0]),(5,.ptr 7 0),(6,.sc (.int .i64 (BU count6 1))),(33,.sl .lost source.kids.length (B5 source.kids)),(34,.sc (.int .i64 ((source.kids.length:Nat):Int))),(35,.sc (.int .i64 ((i0:Nat):Int)))] [10,15,16,18,19,20,36,41,51,52,54,59,60,61,66,74,84] jx) (fun (w1_0:(List Dg))=>⟨[(8,.cells (Bq e0)),(7,.cells [.mp 4,.mp 5,.mp 6]),(6,(CP y3.Aa)),(5,(Bp y3.lines)),(4,(Bp y3.facts)),(1,.cells [.sl (.row 0 2) w1_0.length (rows CA w1_0)]),(0,.cells (Bq source))],9,[(0,w1_0.length)],1⟩) (js 17 j0 [(0,.bool true),(6,.bool true),(7,.bool false),(8,.bool true),(9,.bool true),(10,.bool true)]) (EH [] 3 (sb Um 8342780) [.endb 1,.code (sb Um 16295)] (Ae 300 (o2++[pb hb4,AM (AD (Aw hy5) 1 0),KA (HH hl6)])) (by kernel_rfl)) ?_ ?_ ?_ (fun v h=>by cases h;exact .outer (.Ia k))
 rintro i1 w1_0 j1 hge hq
 exact C0 (Ae 300 [pb (I3 hge)]) (by kernel_rfl) (hq (js 17 j1 [(16,.bool false)]))
 rintro i1 e1 w1_0 j1 r he1 hi1 mi1 k
 show FK  y3 e0 i1 e1 w1_0=some r→_
 unfold FK
 refine AB ?_
 rintro ⟨y14a,y14b⟩ hy14
 dsimp only
 rintro ⟨⟩
 exact BD Hd.Ab [fq (Au.CI source.kids),fq (Au.CI l6)] [bp (Au.pl e0),none,BQ y3.Aa,A6 y3.lines,A6 y3.facts,br A7 0 2 y14b,bp (Au.pl source)] (Ae 300 [pb (Gw hi1),Dw (Dp .lost he1),AM (B6 (BL hy14) 4 5 6 1 0),pi mi1]) (by kernel_rfl) (k (js 17 j1 [(16,.bool true)]))
 rintro w1_0_15 jx_15
 rintro ⟨⟩
 exact BD Hd.Ab [fq (Au.CI source.kids)] [none,BQ y3.Aa,A6 y3.lines,A6 y3.facts,br A7 0 2 w1_0_15,bp (Au.pl source)] (CH 300 [pi mi0]) (by kernel_rfl) (k jx_15)
 refine Ai (fun hb5=>?_) fun hb5=>?_
 refine AB fun l7 hl7=>?_
 refine EQ (fun Q v=>FF P Tryz.f46 0 Q (.sl .lost v.length (rows CA v))) (fun i2 (w1_0:(List Dg)) (j2:List Value)=>fr 97 [(3,.ptr 1 0),(4,.fn (.func 127) [] [.ptr 1 0]),(5,.ptr 7 0),(6,.sc (.int .i64 (BU count6 1))),(8,.ptr 8 0),(33,.sl .lost source.kids.length (B5 source.kids)),(34,.sc (.int .i64 ((source.kids.length:Nat):Int))),(35,.sc (.int .i64 ((i0:Nat):Int))),(81,.sl .lost l7.length (B5 l7)),(82,.sc (.int .i64 ((l7.length:Nat):Int))),(83,.sc (.int .i64 ((i2:Nat):Int)))] [10,15,16,18,19,20,36,41,51,52,54,59,60,61,66,74,84] j2) (fun (w1_0:(List Dg))=>⟨[(8,.cells (Bq e0)),(7,.cells [.mp 4,.mp 5,.mp 6]),(6,(CP y3.Aa)),(5,(Bp y3.lines)),(4,(Bp y3.facts)),(1,.cells [.sl (.row 0 2) w1_0.length (rows CA w1_0)]),(0,.cells (Bq source))],9,[(0,w1_0.length)],1⟩) (fun (w1_0:(List Dg)) (jx:List Value)=>fr 97 [(3,.ptr 1 0),(4,.fn (.func 127) [] [.ptr 1 0]),(5,.ptr 7 0),(6,.sc (.int .i64 (BU count6 1))),(33,.sl .lost source.kids.length (B5 source.kids)),(34,.sc (.int .i64 ((source.kids.length:Nat):Int))),(35,.sc (.int .i64 ((i0:Nat):Int)))] [10,15,16,18,19,20,36,41,51,52,54,59,60,61,66,74,84] jx) (fun (w1_0:(List Dg))=>⟨[(8,.cells (Bq e0)),(7,.cells [.mp 4,.mp 5,.mp 6]),(6,(CP y3.Aa)),(5,(Bp y3.lines)),(4,(Bp y3.facts)),(1,.cells [.sl (.row 0 2) w1_0.length (rows CA w1_0)]),(0,.cells (Bq source))],9,[(0,w1_0.length)],1⟩) [.bool true,(jv j0 1),(jv j0 2),(jv j0 3),(jv j0 4),(jv j0 5),.bool true,.bool false,.bool true,.bool false,.bool false,.bool false,.bool true,.bool false,.bool false,.bool false,(jv j0 16)] (EH [] 3 (sb Um 8342780) [.endb 1,.code (sb Um 16295)] (Ae 300 (o2++[pb hb4,Is (Vg y3.Aa e0.n),pn hb5,KA (HH hl7)])) (by kernel_rfl)) ?_ ?_ ?_ (fun v h=>by cases h;exact .outer (.Ia k))
 rintro i2 w1_0 j2 hge hq
 exact C0 (Ae 300 [pb (I3 hge)]) (by kernel_rfl) (hq (js 17 j2 [(16,.bool false)]))
 rintro i2 e2 w1_0 j2 r he2 hi2 mi2 k
 show Fv  y3 e0 i2 e2 w1_0=some r→_
 unfold Fv
 refine AB ?_
 rintro ⟨y16a,y16b⟩ hy16
 dsimp only
 rintro ⟨⟩
 exact BD Hd.Ab [fq (Au.CI source.kids),fq (Au.CI l7)] [bp (Au.pl e0),none,BQ y3.Aa,A6 y3.lines,A6 y3.facts,br A7 0 2 y16b,bp (Au.pl source)] (Ae 300 [pb (Gw hi2),Dw (Dp .lost he2),AM (B6 (BL hy16) 4 5 6 1 0),pi mi2]) (by kernel_rfl) (k (js 17 j2 [(16,.bool true)]))
 rintro w1_0_17 jx_17
 rintro ⟨⟩
 exact BD Hd.Ab [fq (Au.CI source.kids)] [none,BQ y3.Aa,A6 y3.lines,A6 y3.facts,br A7 0 2 w1_0_17,bp (Au.pl source)] (CH 300 [pi mi0]) (by kernel_rfl) (k jx_17)
 refine AB ?_
 rintro ⟨y8a,y8b⟩ hy8
 dsimp only
 refine AB fun l9 hl9=>?_
 refine EQ (fun Q v=>FF P Tryz.f46 0 Q (.sl .lost v.length (rows CA v))) (fun i3 (w1_0:(List Dg)) (j3:List Value)=>fr 97 [(3,.ptr 1 0),(4,.fn (.func 127) [] [.ptr 1 0]),(5,.ptr 7 0),(6,.sc (.int .i64 (BU count6 1))),(8,.ptr 8 0),(33,.sl .lost source.kids.length (B5 source.kids)),(34,.sc (.int .i64 ((source.kids.length:Nat):Int))),(35,.sc (.int .i64 ((i0:Nat):Int))),(81,.sl .lost l9.length (B5 l9)),(82,.sc (.int .i64 ((l9.length:Nat):Int))),(83,.sc (.int .i64 ((i3:Nat):Int)))] [10,15,16,18,19,20,36,41,51,52,54,59,60,61,66,74,84] j3) (fun (w1_0:(List Dg))=>⟨[(8,.cells (Bq e0)),(7,.cells [.mp 4,.mp 5,.mp 6]),(6,(CP y3.Aa)),(5,(Bp y3.lines)),(4,(Bp y3.facts)),(1,.cells [.sl (.row 0 2) w1_0.length (rows CA w1_0)]),(0,.cells (Bq source))],9,[(0,w1_0.length)],1⟩) (fun (w1_0:(List Dg)) (jx:List Value)=>fr 97 [(3,.ptr 1 0),(4,.fn (.func 127) [] [.ptr 1 0]),(5,.ptr 7 0),(6,.sc (.int .i64 (BU count6 1))),(33,.sl .lost source.kids.length (B5 source.kids)),(34,.sc (.int .i64 ((source.kids.length:Nat):Int))),(35,.sc (.int .i64 ((i0:Nat):Int)))] [10,15,16,18,19,20,36,41,51,52,54,59,60,61,66,74,84] jx) (fun (w1_0:(List Dg))=>⟨[(8,.cells (Bq e0)),(7,.cells [.mp 4,.mp 5,.mp 6]),(6,(CP y3.Aa)),(5,(Bp y3.lines)),(4,(Bp y3.facts)),(1,.cells [.sl (.row 0 2) w1_0.length (rows CA w1_0)]),(0,.cells (Bq source))],9,[(0,w1_0.length)],1⟩) [.bool true,(jv j0 1),(jv j0 2),(jv j0 3),(jv j0 4),(jv j0 5),.bool true,.bool false,.bool true,.bool false,.bool false,.bool false,.bool true,.bool false,.bool true,.bool true,(jv j0 16)] (EH [] 3 (sb Um 8342780) [.endb 1,.code (sb Um 16295)] (Ae 300 (o2++[pb hb4,Is (Vg y3.Aa e0.n),pn hb5,AM (AD (Aw hy8) 1 0),KA (HH hl9)])) (by kernel_rfl)) ?_ ?_ ?_ (fun v h=>by cases h;exact .outer (.Ia k))
 rintro i3 w1_0 j3 hge hq
 exact C0 (Ae 300 [pb (I3 hge)]) (by kernel_rfl) (hq (js 17 j3 [(16,.bool false)]))
 rintro i3 e3 w1_0 j3 r he3 hi3 mi3 k
 show Fx  y3 e0 i3 e3 w1_0=some r→_
 unfold Fx
 refine AB ?_
 rintro ⟨y18a,y18b⟩ hy18
 dsimp only
 rintro ⟨⟩
 exact BD Hd.Ab [fq (Au.CI source.kids),fq (Au.CI l9)] [bp (Au.pl e0),none,BQ y3.Aa,A6 y3.lines,A6 y3.facts,br A7 0 2 y18b,bp (Au.pl source)] (Ae 300 [pb (Gw hi3),Dw (Dp .lost he3),AM (B6 (BL hy18) 4 5 6 1 0),pi mi3]) (by kernel_rfl) (k (js 17 j3 [(16,.bool true)]))
 rintro w1_0_19 jx_19
 rintro ⟨⟩
 exact BD Hd.Ab [fq (Au.CI source.kids)] [none,BQ y3.Aa,A6 y3.lines,A6 y3.facts,br A7 0 2 w1_0_19,bp (Au.pl source)] (CH 300 [pi mi0]) (by kernel_rfl) (k jx_19)
 refine Ai (fun hb6=>?_) fun hb6=>?_
 refine AB ?_
 rintro ⟨y10a,y10b⟩ hy10
 dsimp only
 refine AB fun l11 hl11=>?_
 refine EQ (fun Q v=>FF P Tryz.f46 0 Q (.sl .lost v.length (rows CA v))) (fun i4 (w1_0:(List Dg)) (j4:List Value)=>fr 97 [(3,.ptr 1 0),(4,.fn (.func 127) [] [.ptr 1 0]),(5,.ptr 7 0),(6,.sc (.int .i64 (BU count6 1))),(8,.ptr 8 0),(33,.sl .lost source.kids.length (B5 source.kids)),(34,.sc (.int .i64 ((source.kids.length:Nat):Int))),(35,.sc (.int .i64 ((i0:Nat):Int))),(81,.sl .lost l11.length (B5 l11)),(82,.sc (.int .i64 ((l11.length:Nat):Int))),(83,.sc (.int .i64 ((i4:Nat):Int)))] [10,15,16,18,19,20,36,41,51,52,54,59,60,61,66,74,84] j4) (fun (w1_0:(List Dg))=>⟨[(8,.cells (Bq e0)),(7,.cells [.mp 4,.mp 5,.mp 6]),(6,(CP y3.Aa)),(5,(Bp y3.lines)),(4,(Bp y3.facts)),(1,.cells [.sl (.row 0 2) w1_0.length (rows CA w1_0)]),(0,.cells (Bq source))],9,[(0,w1_0.length)],1⟩) (fun (w1_0:(List Dg)) (jx:List Value)=>fr 97 [(3,.ptr 1 0),(4,.fn (.func 127) [] [.ptr 1 0]),(5,.ptr 7 0),(6,.sc (.int .i64 (BU count6 1))),(33,.sl .lost source.kids.length (B5 source.kids)),(34,.sc (.int .i64 ((source.kids.length:Nat):Int))),(35,.sc (.int .i64 ((i0:Nat):Int)))] [10,15,16,18,19,20,36,41,51,52,54,59,60,61,66,74,84] jx) (fun (w1_0:(List Dg))=>⟨[(8,.cells (Bq e0)),(7,.cells [.mp 4,.mp 5,.mp 6]),(6,(CP y3.Aa)),(5,(Bp y3.lines)),(4,(Bp y3.facts)),(1,.cells [.sl (.row 0 2) w1_0.length (rows CA w1_0)]),(0,.cells (Bq source))],9,[(0,w1_0.length)],1⟩) (js 17 j0 [(0,.bool false),(6,.bool true),(7,.bool false),(8,.bool false),(9,.bool true),(10,.bool true)]) (EH [] 3 (sb Um 8342780) [.endb 1,.code (sb Um 16295)] (Ae 300 (o1++[pn hb2,pk,Is (J0 y3.lines e0.name hb3),pb hb6,AM (AD (Aw hy10) 1 0),KA (HH hl11)])) (by kernel_rfl)) ?_ ?_ ?_ (fun v h=>by cases h;exact .outer (.Ia k))
 rintro i4 w1_0 j4 hge hq
 exact C0 (Ae 300 [pb (I3 hge)]) (by kernel_rfl) (hq (js 17 j4 [(16,.bool false)]))
 rintro i4 e4 w1_0 j4 r he4 hi4 mi4 k
 show FA  y3 e0 i4 e4 w1_0=some r→_
 unfold FA
 refine AB ?_
 rintro ⟨y20a,y20b⟩ hy20
 dsimp only
 rintro ⟨⟩
 exact BD Hd.Ab [fq (Au.CI source.kids),fq (Au.CI l11)] [bp (Au.pl e0),none,BQ y3.Aa,A6 y3.lines,A6 y3.facts,br A7 0 2 y20b,bp (Au.pl source)] (Ae 300 [pb (Gw hi4),Dw (Dp .lost he4),AM (B6 (BL hy20) 4 5 6 1 0),pi mi4]) (by kernel_rfl) (k (js 17 j4 [(16,.bool true)]))
 rintro w1_0_21 jx_21
 rintro ⟨⟩
 exact BD Hd.Ab [fq (Au.CI source.kids)] [none,BQ y3.Aa,A6 y3.lines,A6 y3.facts,br A7 0 2 w1_0_21,bp (Au.pl source)] (CH 300 [pi mi0]) (by kernel_rfl) (k jx_21)
 refine AB ?_
 rintro ⟨y12a,y12b⟩ hy12
 dsimp only
 refine AB fun l13 hl13=>?_
 refine EQ (fun Q v=>FF P Tryz.f46 0 Q (.sl .lost v.length (rows CA v))) (fun i5 (w1_0:(List Dg)) (j5:List Value)=>fr 97 [(3,.ptr 1 0),(4,.fn (.func 127) [] [.ptr 1 0]),(5,.ptr 7 0),(6,.sc (.int .i64 (BU count6 1))),(8,.ptr 8 0),(33,.sl .lost source.kids.length (B5 source.kids)),(34,.sc (.int .i64 ((source.kids.length:Nat):Int))),(35,.sc (.int .i64 ((i0:Nat):Int))),(81,.sl .lost l13.length (B5 l13)),(82,.sc (.int .i64 ((l13.length:Nat):Int))),(83,.sc (.int .i64 ((i5:Nat):Int)))] [10,15,16,18,19,20,36,41,51,52,54,59,60,61,66,74,84] j5) (fun (w1_0:(List Dg))=>⟨[(8,.cells (Bq e0)),(7,.cells [.mp 4,.mp 5,.mp 6]),(6,(CP y3.Aa)),(5,(Bp y3.lines)),(4,(Bp y3.facts)),(1,.cells [.sl (.row 0 2) w1_0.length (rows CA w1_0)]),(0,.cells (Bq source))],9,[(0,w1_0.length)],1⟩) (fun (w1_0:(List Dg)) (jx:List Value)=>fr 97 [(3,.ptr 1 0),(4,.fn (.func 127) [] [.ptr 1 0]),(5,.ptr 7 0),(6,.sc (.int .i64 (BU count6 1))),(33,.sl .lost source.kids.length (B5 source.kids)),(34,.sc (.int .i64 ((source.kids.length:Nat):Int))),(35,.sc (.int .i64 ((i0:Nat):Int)))] [10,15,16,18,19,20,36,41,51,52,54,59,60,61,66,74,84] jx) (fun (w1_0:(List Dg))=>⟨[(8,.cells (Bq e0)),(7,.cells [.mp 4,.mp 5,.mp 6]),(6,(CP y3.Aa)),(5,(Bp y3.lines)),(4,(Bp y3.facts)),(1,.cells [.sl (.row 0 2) w1_0.length (rows CA w1_0)]),(0,.cells (Bq source))],9,[(0,w1_0.length)],1⟩) (js 17 j0 [(0,.bool false),(6,.bool true),(7,.bool false),(8,.bool false),(9,.bool false),(10,.bool false),(11,.bool true),(12,.bool false),(13,.bool true)]) (EH [] 3 (sb Um 8342780) [.endb 1,.code (sb Um 16295)] (Ae 300 (o1++[pn hb2,pk,Is (J0 y3.lines e0.name hb3),pb hb6,AM (AD (Aw hy12) 1 0),KA (HH hl13)])) (by kernel_rfl)) ?_ ?_ ?_ (fun v h=>by cases h;exact .outer (.Ia k))
 rintro i5 w1_0 j5 hge hq
 exact C0 (Ae 300 [pb (I3 hge)]) (by kernel_rfl) (hq (js 17 j5 [(16,.bool false)]))
 rintro i5 e5 w1_0 j5 r he5 hi5 mi5 k
 show FL  y3 e0 i5 e5 w1_0=some r→_
 unfold FL
 refine AB ?_
 rintro ⟨y22a,y22b⟩ hy22
 dsimp only
 rintro ⟨⟩
 exact BD Hd.Ab [fq (Au.CI source.kids),fq (Au.CI l13)] [bp (Au.pl e0),none,BQ y3.Aa,A6 y3.lines,A6 y3.facts,br A7 0 2 y22b,bp (Au.pl source)] (Ae 300 [pb (Gw hi5),Dw (Dp .lost he5),AM (B6 (BL hy22) 4 5 6 1 0),pi mi5]) (by kernel_rfl) (k (js 17 j5 [(16,.bool true)]))
 rintro w1_0_23 jx_23
 rintro ⟨⟩
 exact BD Hd.Ab [fq (Au.CI source.kids)] [none,BQ y3.Aa,A6 y3.lines,A6 y3.facts,br A7 0 2 w1_0_23,bp (Au.pl source)] (CH 300 [pi mi0]) (by kernel_rfl) (k jx_23)
 rintro ⟨⟩
 exact BD Hd.Ab [fq (Au.CI source.kids)] [none,BQ y3.Aa,A6 y3.lines,A6 y3.facts,br A7 0 2 w1_0,bp (Au.pl source)] (Ae 300 (o1++[pn hb2,pi mi0])) (by kernel_rfl) (k (js 17 j0 [(6,.bool true),(7,.bool true)]))
 rintro w1_0_24 jx_24
 intro h
 have hE:=Option.some.inj h
 subst hE
 exact Be (v:=.sl (.row 0 2) w1_0_24.length (rows CA w1_0_24)) _ _ (CH 300 []) (by kernel_rfl) .body (.wn (.s rfl .nil) (A7.CI w1_0_24))
 subst hv
 intro h
 have hE:=Option.some.inj h
 subst hE
 exact Be (v:=.sl .full 1 [.sc (.int .i64 1),.sc (.int .i64 0)]) _ _ (Ae 300 [pn hb1,Bu (DT hy1)]) (by kernel_rfl) .body (.wn (.d (.r (.r .nil)) (A7.eq [(⟨1,0⟩:Dg)]).symm .nil) (A7.CI [(⟨1,0⟩:Dg)]))
 intro h
 have hE:=Option.some.inj h
 subst hE
 exact Be (v:=.sl .full 1 [.sc (.int .i64 1),.sc (.int .i64 0)]) _ _ (Ae 300 [pn hb1]) (by kernel_rfl) .body (.wn (.d (.r (.r .nil)) (A7.eq [(⟨1,0⟩:Dg)]).symm .nil) (A7.CI [(⟨1,0⟩:Dg)]))
end Mo
end Go.Proofs.YtnijkdknnmgoeaaGreat
