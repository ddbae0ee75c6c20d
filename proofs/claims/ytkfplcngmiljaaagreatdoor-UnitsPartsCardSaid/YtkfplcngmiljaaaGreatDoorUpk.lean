/- Part of a proof: see the last text. -/
import Derived.Test.YtkfplcngmiljaaaGreatDoorUpj
set_option linter.unusedVariables false
set_option linter.unusedSimpArgs false
namespace Go.Proofs.YtkfplcngmiljaaaGreatDoor
open AI Go
namespace Mo
set_option maxRecDepth 100000
set_option maxHeartbeats 4000000
noncomputable def C1  (depth:Int) (i0:Nat) (e0:Nd) (w0_0:Int):Option (Lp Int Int (Bool×Int)):=(BU (⟨w0_0⟩:Ck) e0 depth).bind fun (y1a,y1b)=>cond y1a (some (.nx y1b)) (some (.rt (false,y1b)))
noncomputable def Cs  (c:Ck) (list:(List Nd)) (depth:Int):Option (Bool×Int):=(JQ list.length (Bb (fun i y x=>C1  depth i y x) (fun x=>x) (list.drop 0) 0 c.nodes)).bind (Kx (fun (w0_0_2:Int)=>some (true,w0_0_2)) (fun v=>some v))
theorem He {c:Ck} {list:(List Nd)} {depth:Int} {yR:Bool} {qc_nodesR:Int} (hS:Sound P G (.call 52 [.ptr 0 0,.sl .lost list.length (CC list),.sc (.int .i64 depth),.fn (.func 53) [.ptr 0 0] []] ⟨[(0,.cells (D7 c))],1,[],0⟩ (.ret (.sc (.bool yR))) ⟨[(0,.cells [.sc (.int .i64 qc_nodesR)])],1,[],0⟩)) (u0:Nat) (hnb:[u0].Nodup:=by decide) (hnt:([]:List Nat).Nodup:=by decide):Cd.ok P G (.callU 52 [.ptr u0 0,.sl .lost list.length (CC list),.sc (.int .i64 depth),.fn (.func 53) [.ptr u0 0] []] (.ret (.sc (.bool yR))) [(u0,.cells (D7 c))] [] [(u0,.cells [.sc (.int .i64 qc_nodesR)])] []) :=
 E3 (M:=[.cells (D7 c)]) (M2:=[.cells [.sc (.int .i64 qc_nodesR)]]) (T:=[]) (T2:=[]) (k:=1) (j:=0) Hd.Ad _ _ _ _ hS rfl rfl rfl rfl rfl hnb hnt rfl rfl (.cons (.cells (.pl (IS.pl c))) .nil) (.cons (.cells (.pl (Bd rfl rfl))) .nil) (.cons (.ptr (by decide)) (.cons (.pl (AK.Hx list)) (.cons (.pl rfl) (.cons (.fn (.cons (.ptr (by decide)) .nil) (.pl rfl)) .nil)))) (.pl rfl) (fun e he=>by simp only [List.mem_singleton] at he;subst he;exact (.arg (.here .ptr)))
theorem Gi   {c:Ck} {list:(List Nd)} {depth:Int} {yR:Bool} {qc_nodesR:Int} (h:Cs  c list depth=some (yR,qc_nodesR)):Sound P G (.call 52 [.ptr 0 0,.sl .lost list.length (CC list),.sc (.int .i64 depth),.fn (.func 53) [.ptr 0 0] []] ⟨[(0,.cells (D7 c))],1,[],0⟩ (.ret (.sc (.bool yR))) ⟨[(0,.cells [.sc (.int .i64 qc_nodesR)])],1,[],0⟩):=by
 unfold Cs at h
 refine E4 Hd.mixed (AF Tryz.func52 o0 ?_)
 revert h
 refine H7 (fun Q v=>IX P G Tryz.f52 1 ⟨[(0,.cells (D7 c))],1,[],0⟩ Q (.sc (.bool v.1)) ⟨[(0,.cells [.sc (.int .i64 v.2)])],1,[],0⟩) (fun i0 (w0_0:Int) (j0:List Value)=>fr 23 [(2,.sc (.int .i64 depth)),(3,.fn (.func 53) [.ptr 0 0] []),(11,.sl .lost list.length (CC list)),(12,.sc (.int .i64 ((list.length:Nat):Int))),(13,.sc (.int .i64 ((i0:Nat):Int)))] [8,14,20,21] j0) (fun (w0_0:Int)=>⟨[(0,.cells [.sc (.int .i64 w0_0)])],1,[],0⟩) (fun (w0_0:Int) (jx:List Value)=>fr 23 [] [8,14,20,21] jx) (fun (w0_0:Int)=>⟨[(0,.cells [.sc (.int .i64 w0_0)])],1,[],0⟩) [.bool false] (HH [] 0 (sb Zs 52) [.code (sb Zs 7)] (Ac 300 []) (by kernel_rfl)) ?_ ?_ ?_ (fun v h=>by cases h;exact .outer .body)
 rintro i0 w0_0 j0 hge hq
 exact ED (Ac 300 [pb (On hge)]) (by kernel_rfl) (hq (js 4 j0 [(1,.bool false)]))
 rintro i0 e0 w0_0 j0 r he0 hi0 mi0 k
 show C1  depth i0 e0 w0_0=some r→_
 unfold C1
 refine Ai ?_
 rintro ⟨y1a,y1b⟩ hy1
 dsimp only
 let o1:List (PC P G):=[pb (JR hi0),Dh (Cp .lost he0),AO (I0 (Hw hy1) 0)]
 refine Ae (fun hv=>?_) fun hv=>?_
 subst hv
 rintro ⟨⟩
 exact EG Hd.Ad [fq (AK.Hx list)] [none] (Ac 300 (o1++[pi mi0])) (by kernel_rfl) (k [(jv j0 0),.bool true,.bool true,.bool false])
 subst hv
 rintro ⟨⟩
 exact Al Hd.Ad _ _ [] [none] (Ac 300 o1) (by kernel_rfl) (.GF k)
 rintro w0_0_2 jx_2
 intro h
 have hE:=Option.some.inj h
 obtain ⟨hE0,hF0⟩:=Prod.mk.inj hE
 subst hE0 hF0
 exact Al Hd.Ad _ _ [] [none] (C2 300 []) (by kernel_rfl) .body
noncomputable def vI:Code:=AU Tryz.f29
theorem yA:Tryz.f29.body=some vI:=by kernel_rfl
noncomputable def Dr  (n:Nd):Option Bool:=cond (Bi n.kind 1) ((A7 (⟨0⟩:Ck) n 1).bind fun (y1a,y1b)=>cond y1a ((AT n (⟨0,ByteArray.empty,ByteArray.empty,0,0,0,0,(⟨0,[]⟩:Fn),[],0⟩:Nd)).bind fun y2=>cond y2 ((Cs (⟨y1b⟩:Ck) n.kids 2).bind fun (y3a,y3b)=>some y3a) (some false)) (some false)) ((C6 (⟨0⟩:Ck) n 1).bind fun (y4a,y4b)=>some y4a)
theorem Ff   {n:Nd} {yR:Bool} (h:Dr  n=some yR):Pure P G 29 [.agg (BA n)] (.sc (.bool yR)):=by
 unfold Dr at h
 refine BF Hd.mixed Hd.Ad (AF Tryz.func29 yA ?_) (Bd (AK.Gt n) rfl) rfl
 revert h
 refine Ae (fun hb1=>?_) fun hb1=>?_
 refine Ai ?_
 rintro ⟨y1a,y1b⟩ hy1
 dsimp only
 let o1:List (PC P G):=[pn hb1,AO (Cu (BW hy1) 1)]
 refine Ae (fun hv=>?_) fun hv=>?_
 subst hv
 refine Ai fun y2 hy2=>?_
 let o2:List (PC P G):=o1++[DI (.r (.g (.r (.r (.r (.r (.r (.r (.r (.r (.z (.z (.r .nil))))))))))) .nil)) (AQ hy2)]
 refine Ae (fun hv=>?_) fun hv=>?_
 subst hv
 refine Ai ?_
 rintro ⟨y3a,y3b⟩ hy3
 dsimp only
 intro h
 have hE:=Option.some.inj h
 subst hE
 exact rS (Ac 300 (o2++[AO (He (Gi hy3) 1)])) (by kernel_rfl)
 subst hv
 rintro ⟨⟩
 exact rS (Ac 300 o2) (by kernel_rfl)
 subst hv
 rintro ⟨⟩
 exact rS (Ac 300 o1) (by kernel_rfl)
 refine Ai ?_
 rintro ⟨y4a,y4b⟩ hy4
 dsimp only
 intro h
 have hE:=Option.some.inj h
 subst hE
 exact rS (Ac 300 [pn hb1,AO (AB (Fq hy4) 1)]) (by kernel_rfl)
noncomputable def wK:Code:=AU Tryz.f30
theorem wW:Tryz.f30.body=some wK:=by kernel_rfl
noncomputable def D5  :Option Unit:=some ()
theorem K1  (hS:Sound P G (.call 30 [] ⟨[],0,[],0⟩ (.ret (.Bq [.ptr 0 0,.fn (.func 54) [] [.ptr 0 0]])) ⟨[(0,.cells [.sl .full 0 []])],1,[],0⟩)) (nx nr:Nat):Cd.ok P G (.callN 30 [] nx nr (.Bq [.ptr (nx+0) 0,.fn (.func 54) [] [.ptr (nx+0) 0]]) [((nx+0),.cells [.sl .full 0 []])] 1 [] 0) :=
 W6 Hd.Ad hS rfl (.Bq (.cons (.ptr (by decide)) (.cons (.fn (.pl rfl) (.cons (.ptr (by decide)) .nil)) .nil))) (.cons (.cells (.pl (Bd (bE rfl) rfl))) .nil)
theorem Js  (h:D5 =some ()):Sound P G (.call 30 [] ⟨[],0,[],0⟩ (.ret (.Bq [.ptr 0 0,.fn (.func 54) [] [.ptr 0 0]])) ⟨[(0,.cells [.sl .full 0 []])],1,[],0⟩):=by
 unfold D5 at h
 refine Xk Hd.mixed (QE (m:=1) Tryz.func30 wW ?_)
 revert h
 intro h
 exact TD (n:=1) (m0:=0) Hd.Ad _ _ [0] [1] [⟨.Bq [.ptr 0 0,.fn (.func 54) [] [.ptr 0 0]],.Bq [.ptr 0 0,.fn (.func 54) [] [.ptr 0 0]],(.under (jU rfl (jU (qN rfl (jU rfl rfl)) rfl)))⟩] [wM [.sl .full 0 []] (Bd (bE rfl) rfl)] _ _ (Ac 300 []) (Nat.zero_le _) (Nat.zero_le _) (by kernel_rfl) .body
noncomputable def qB:Code:=AU Tryz.f31
theorem yI:Tryz.f31.body=some qB:=by kernel_rfl
noncomputable def CO   (i0:Nat) (e0:Nd) (w2_m:(Mm ByteArray ByteArray)) (w3_m:(Mm ByteArray ByteArray)) (w4_m:(Mm Int ByteArray)):Option (Lp ((Mm ByteArray ByteArray)×(Mm ByteArray ByteArray)×(Mm Int ByteArray)) ((Mm ByteArray ByteArray)×(Mm ByteArray ByteArray)×(Mm Int ByteArray)) Sc):=cond (Bi e0.kind 2) (cond ((w2_m.get e0.name).isSome) (some (.nx (w2_m,w3_m,w4_m))) (some (.nx ((w2_m.set e0.name e0.unit),w3_m,w4_m)))) (cond (Bi e0.kind 3) (cond ((w3_m.get e0.name).isSome) (some (.nx (w2_m,w3_m,w4_m))) (some (.nx (w2_m,(w3_m.set e0.name e0.unit),w4_m)))) (cond (Bi e0.kind 4) (cond ((w4_m.get e0.n).isSome) (some (.nx (w2_m,w3_m,w4_m))) (some (.nx (w2_m,w3_m,(w4_m.set e0.n e0.name))))) (some (.nx (w2_m,w3_m,w4_m)))))
noncomputable def Dt  (source:Nd):Option Sc:=(JQ source.kids.length (Bb (fun i y x=>CO   i y x.1 x.2.1 x.2.2) (fun x=>(x.1,x.2.1,x.2.2)) (source.kids.drop 0) 0 ((Mm.nil:Mm ByteArray ByteArray),(Mm.nil:Mm ByteArray ByteArray),(Mm.nil:Mm Int ByteArray)))).bind (Kx (fun ((w2_m_1,w3_m_1,w4_m_1):((Mm ByteArray ByteArray)×(Mm ByteArray ByteArray)×(Mm Int ByteArray)))=>some (⟨w2_m_1,w3_m_1,w4_m_1⟩:Sc)) (fun v=>some v))
theorem L1 {source:Nd} {y0R:Sc} (hS:Sound P G (.call 31 [.agg (BA source)] ⟨[],0,[],0⟩ (.ret (.agg [.mp 2,.mp 3,.mp 4])) ⟨[(4,(EL y0R.AA)),(3,(Cc y0R.lines)),(2,(Cc y0R.facts))],5,[],0⟩)) (nx nr:Nat):Cd.ok P G (.callN 31 [.agg (BA source)] nx nr (.agg [.mp (nx+2),.mp (nx+3),.mp (nx+4)]) [((nx+4),(EL y0R.AA)),((nx+3),(Cc y0R.lines)),((nx+2),(Cc y0R.facts))] 5 [] 0) :=
 W6 Hd.Ad hS (Bd (AK.Gt source) rfl) (.agg (.cons (.mp (by decide)) (.cons (.mp (by decide)) (.cons (.mp (by decide)) .nil)))) (.cons (K5 (fun _=>rfl)) (.cons (K5 (fun _=>rfl)) (.cons (K5 (fun _=>rfl)) .nil)))
theorem JT {source:Nd} {y0R:Sc} (h:Dt source=some y0R):Sound P G (.call 31 [.agg (BA source)] ⟨[],0,[],0⟩ (.ret (.agg [.mp 2,.mp 3,.mp 4])) ⟨[(4,(EL y0R.AA)),(3,(Cc y0R.lines)),(2,(Cc y0R.facts))],5,[],0⟩):=by
 unfold Dt at h
 refine Xk Hd.mixed (QE (m:=5) Tryz.func31 yI ?_)
 revert h
 refine H7 (fun Q v=>IX P G Tryz.f31 5 ⟨[],0,[],0⟩ Q (.agg [.mp 2,.mp 3,.mp 4]) ⟨[(4,(EL v.AA)),(3,(Cc v.lines)),(2,(Cc v.facts))],5,[],0⟩) (fun i0 ((w2_m,w3_m,w4_m):((Mm ByteArray ByteArray)×(Mm ByteArray ByteArray)×(Mm Int ByteArray))) (j0:List Value)=>fr 81 [(2,.ptr 1 0),(3,.ptr 5 0),(17,.sl .lost source.kids.length (CC source.kids)),(18,.sc (.int .i64 ((source.kids.length:Nat):Int))),(19,.sc (.int .i64 ((i0:Nat):Int)))] [7,9,11,20,25,26,34,35,36,43,44,52,53,54,61,62,70,71,72] j0) (fun ((w2_m,w3_m,w4_m):((Mm ByteArray ByteArray)×(Mm ByteArray ByteArray)×(Mm Int ByteArray)))=>⟨[(5,.cells [.mp 2,.mp 3,.mp 4]),(4,(EL w4_m)),(3,(Cc w3_m)),(2,(Cc w2_m)),(1,.cells [.sc (.map none),.sc (.map none),.sc (.map none)]),(0,.cells (BA source))],6,[],0⟩) (fun ((w2_m,w3_m,w4_m):((Mm ByteArray ByteArray)×(Mm ByteArray ByteArray)×(Mm Int ByteArray))) (jx:List Value)=>fr 81 [(2,.ptr 1 0),(3,.ptr 5 0)] [7,9,11,20,25,26,34,35,36,43,44,52,53,54,61,62,70,71,72] jx) (fun ((w2_m,w3_m,w4_m):((Mm ByteArray ByteArray)×(Mm ByteArray ByteArray)×(Mm Int ByteArray)))=>⟨[(5,.cells [.mp 2,.mp 3,.mp 4]),(4,(EL w4_m)),(3,(Cc w3_m)),(2,(Cc w2_m)),(1,.cells [.sc (.map none),.sc (.map none),.sc (.map none)]),(0,.cells (BA source))],6,[],0⟩) [] (HH [] 0 (sb qB 116) [.code (sb qB 15)] (Ac 300 []) (by kernel_rfl)) ?_ ?_ ?_ (fun v h=>by cases h;exact .outer .body)
 rintro i0 ⟨w2_m,w3_m,w4_m⟩ j0 hge hq
 exact ED (Ac 300 [pb (On hge)]) (by kernel_rfl) (hq (js 19 j0 [(3,.bool false)]))
 rintro i0 e0 ⟨w2_m,w3_m,w4_m⟩ j0 r he0 hi0 mi0 k
 show CO   i0 e0 w2_m w3_m w4_m=some r→_
 unfold CO
 let o1:List (PC P G):=[pb (JR hi0),Dh (Cp .lost he0)]
 refine Ae (fun hb1=>?_) fun hb1=>?_
 refine Ae (fun hb2=>?_) fun hb2=>?_
 rintro ⟨⟩
 exact EG Hd.Ad [fq (AK.Hx source.kids)] [none,C3 w4_m,A9 w3_m,A9 w2_m,none,bp (AK.pl source)] (Ac 300 (o1++[pb hb1,XZ (Tx w2_m e0.name hb2),pi mi0])) (by kernel_rfl) (k (js 19 j0 [(0,.bool true),(3,.bool true),(4,.bool true),(5,.bool true),(6,.bool true),(7,.bool true),(8,.bool false)]))
 rintro ⟨⟩
 exact EG Hd.Ad [fq (AK.Hx source.kids)] [none,C3 w4_m,A9 w3_m,A9 (w2_m.set e0.name e0.unit),none,bp (AK.pl source)] (Ac 300 (o1++[pb hb1,XZ (Tx w2_m e0.name hb2),pX (lI w2_m e0.name e0.unit),pi mi0])) (by kernel_rfl) (k (js 19 j0 [(0,.bool false),(3,.bool true),(4,.bool true),(5,.bool true),(6,.bool false),(7,.bool false),(8,.bool true)]))
 refine Ae (fun hb3=>?_) fun hb3=>?_
 refine Ae (fun hb4=>?_) fun hb4=>?_
 rintro ⟨⟩
 exact EG Hd.Ad [fq (AK.Hx source.kids)] [none,C3 w4_m,A9 w3_m,A9 w2_m,none,bp (AK.pl source)] (Ac 300 (o1++[pb hb1,pb hb3,XZ (Tx w3_m e0.name hb4),pi mi0])) (by kernel_rfl) (k (js 19 j0 [(1,.bool true),(3,.bool true),(4,.bool false),(5,.bool false),(9,.bool true),(10,.bool true),(11,.bool true),(12,.bool true),(13,.bool false)]))
 rintro ⟨⟩
 exact EG Hd.Ad [fq (AK.Hx source.kids)] [none,C3 w4_m,A9 (w3_m.set e0.name e0.unit),A9 w2_m,none,bp (AK.pl source)] (Ac 300 (o1++[pb hb1,pb hb3,XZ (Tx w3_m e0.name hb4),pX (lI w3_m e0.name e0.unit),pi mi0])) (by kernel_rfl) (k (js 19 j0 [(1,.bool false),(3,.bool true),(4,.bool false),(5,.bool false),(9,.bool true),(10,.bool true),(11,.bool false),(12,.bool false),(13,.bool true)]))
 refine Ae (fun hb5=>?_) fun hb5=>?_
 refine Ae (fun hb6=>?_) fun hb6=>?_
 rintro ⟨⟩
 exact EG Hd.Ad [fq (AK.Hx source.kids)] [none,C3 w4_m,A9 w3_m,A9 w2_m,none,bp (AK.pl source)] (Ac 300 (o1++[pb hb1,pb hb3,pb hb5,XZ (aZ w4_m e0.n hb6),pi mi0])) (by kernel_rfl) (k (js 19 j0 [(2,.bool true),(3,.bool true),(4,.bool false),(5,.bool false),(9,.bool false),(10,.bool false),(14,.bool true),(15,.bool true),(16,.bool true),(17,.bool true),(18,.bool false)]))
 rintro ⟨⟩
 exact EG Hd.Ad [fq (AK.Hx source.kids)] [none,C3 (w4_m.set e0.n e0.name),A9 w3_m,A9 w2_m,none,bp (AK.pl source)] (Ac 300 (o1++[pb hb1,pb hb3,pb hb5,XZ (aZ w4_m e0.n hb6),pX (pP w4_m e0.n e0.name),pi mi0])) (by kernel_rfl) (k (js 19 j0 [(2,.bool false),(3,.bool true),(4,.bool false),(5,.bool false),(9,.bool false),(10,.bool false),(14,.bool true),(15,.bool true),(16,.bool false),(17,.bool false),(18,.bool true)]))
 rintro ⟨⟩
 exact EG Hd.Ad [fq (AK.Hx source.kids)] [none,C3 w4_m,A9 w3_m,A9 w2_m,none,bp (AK.pl source)] (Ac 300 (o1++[pb hb1,pb hb3,pb hb5,pi mi0])) (by kernel_rfl) (k (js 19 j0 [(3,.bool true),(4,.bool false),(5,.bool false),(9,.bool false),(10,.bool false),(14,.bool false),(15,.bool false)]))
 rintro ⟨w2_m_1,w3_m_1,w4_m_1⟩ jx_1
 dsimp only
 intro h
 have hE:=Option.some.inj h
 subst hE
 exact TD (n:=5) (m0:=0) Hd.Ad _ _ [4,3,2] [1] [⟨.agg [.mp 2,.mp 3,.mp 4],.agg [.mp 2,.mp 3,.mp 4],(.under (jU rfl (jU rfl (jU rfl rfl))))⟩] [⟨(EL w4_m_1),(EL w4_m_1),(KX (fun _=>rfl))⟩,⟨(Cc w3_m_1),(Cc w3_m_1),(KX (fun _=>rfl))⟩,⟨(Cc w2_m_1),(Cc w2_m_1),(KX (fun _=>rfl))⟩] _ _ (C2 300 []) (Nat.zero_le _) (Nat.zero_le _) (by kernel_rfl) .body
noncomputable def vG:Code:=AU Tryz.f56
theorem u5:Tryz.f56.body=some vG:=by kernel_rfl
noncomputable def DX  (unit:ByteArray):Option Bool:=cond (BT unit.data.toList ByteArray.empty.data.toList) (some false) (cond (BT unit.data.toList A4.data.toList) (some false) (cond (BT unit.data.toList Bw.data.toList) (some false) (cond (BT unit.data.toList Cw.data.toList) (some false) (some true))))
theorem FH   {unit:ByteArray} {yR:Bool} (h:DX  unit=some yR):Pure P G 56 [.sc (.string unit)] (.sc (.bool yR)):=by
 unfold DX at h
 refine BF Hd.mixed Hd.Ad (AF Tryz.func56 u5 ?_) (Bd rfl rfl) rfl
 revert h
 refine Ae (fun hb1=>?_) fun hb1=>?_
 rintro ⟨⟩
 exact rS (Ac 300 [pb hb1]) (by kernel_rfl)
 refine Ae (fun hb2=>?_) fun hb2=>?_
 rintro ⟨⟩
 exact rS (Ac 300 [pb hb1,pb hb2]) (by kernel_rfl)
 refine Ae (fun hb3=>?_) fun hb3=>?_
 rintro ⟨⟩
 exact rS (Ac 300 [pb hb1,pb hb2,pb hb3]) (by kernel_rfl)
 refine Ae (fun hb4=>?_) fun hb4=>?_
 rintro ⟨⟩
 exact rS (Ac 300 [pb hb1,pb hb2,pb hb3,pb hb4]) (by kernel_rfl)
 rintro ⟨⟩
 exact rS (Ac 300 [pb hb1,pb hb2,pb hb3,pb hb4]) (by kernel_rfl)
noncomputable def pZ:Code:=AU Tryz.f85
theorem vO:Tryz.f85.body=some pZ:=by kernel_rfl
noncomputable def yD:Code:=AU Tryz.f55
theorem wS:Tryz.f55.body=some yD:=by kernel_rfl
noncomputable def wP:Code:=AU Tryz.f54
theorem yF:Tryz.f54.body=some wP:=by kernel_rfl
noncomputable def AP  (err:Int) (at_:Int) (a2:(List Dg)):Option (Unit×(List Dg)):=cond (ES ((a2.length:Nat):Int) 20) (Sv (a2.length+1) (some ((),(a2++[(⟨err,at_⟩:Dg)])))) (some ((),a2))
theorem Ba {err:Int} {at_:Int} {a2:(List Dg)} {qa2R:(List Dg)} (hS:Sound P G (.call 54 [.sc (.int .i64 err),.sc (.int .i64 at_),.ptr 0 0] ⟨[(0,.cells [.sl (.row 0 2) a2.length (rows JV a2)])],1,[(0,a2.length)],1⟩ (.ret (.Bq [])) ⟨[(0,.cells [.sl (.row 0 2) qa2R.length (rows JV qa2R)])],1,[(0,qa2R.length)],1⟩)) (u0 v0:Nat) (hnb:[u0].Nodup:=by decide) (hnt:([v0]:List Nat).Nodup:=by decide):Cd.ok P G (.callU 54 [.sc (.int .i64 err),.sc (.int .i64 at_),.ptr u0 0] (.ret (.Bq [])) [(u0,.cells [.sl (.row v0 2) a2.length (rows JV a2)])] [(v0,a2.length)] [(u0,.cells [.sl (.row v0 2) qa2R.length (rows JV qa2R)])] [(v0,qa2R.length)]) :=
 E3 (M:=[.cells [.sl (.row 0 2) a2.length (rows JV a2)]]) (M2:=[.cells [.sl (.row 0 2) qa2R.length (rows JV qa2R)]]) (T:=[a2.length]) (T2:=[qa2R.length]) (k:=1) (j:=1) Hd.Ad _ _ _ _ hS rfl rfl rfl rfl rfl hnb hnt rfl rfl (.cons (.cells (.cons (.row (by decide) (B0.Bd a2)) .nil)) .nil) (.cons (.cells (.cons (.row (by decide) (B0.Bd qa2R)) .nil)) .nil) (.cons (.pl rfl) (.cons (.pl rfl) (.cons (.ptr (by decide)) .nil))) (.pl rfl) (fun e he=>by simp only [List.mem_singleton] at he;subst he;exact (.arg (.there (.there (.here .ptr)))))
theorem AY   {err:Int} {at_:Int} {a2:(List Dg)} {yR:Unit} {qa2R:(List Dg)} (h:AP  err at_ a2=some (yR,qa2R)):Sound P G (.call 54 [.sc (.int .i64 err),.sc (.int .i64 at_),.ptr 0 0] ⟨[(0,.cells [.sl (.row 0 2) a2.length (rows JV a2)])],1,[(0,a2.length)],1⟩ (.ret (.Bq [])) ⟨[(0,.cells [.sl (.row 0 2) qa2R.length (rows JV qa2R)])],1,[(0,qa2R.length)],1⟩):=by
 unfold AP at h
 refine E4 Hd.mixed (AF Tryz.func54 yF ?_)
 revert h
 refine Ae (fun hb1=>?_) fun hb1=>?_
 refine bF fun hl1=>?_
 intro h
 have hE:=Option.some.inj h
 obtain ⟨hE0,hF0⟩:=Prod.mk.inj hE
 subst hE0 hF0
 exact cM Hd.Ad _ _ [⟨.Bq [],.Bq [],(.plain rfl)⟩] [br B0 0 2 (a2++[(⟨err,at_⟩:Dg)])] (Ac 300 [pb hb1,r6 (kG (.row 0 2) a2 [(⟨err,at_⟩:Dg)] (o:=.full) (n:=1) (ns:=[.sc (.int .i64 err),.sc (.int .i64 at_)]) (B0.wn [(⟨err,at_⟩:Dg)] (.r (.r .nil))) rfl rfl (by simp) (by simpa using hl1))]) (by kernel_rfl)
 intro h
 have hE:=Option.some.inj h
 obtain ⟨hE0,hF0⟩:=Prod.mk.inj hE
 subst hE0 hF0
 exact cM Hd.Ad _ _ [⟨.Bq [],.Bq [],(.plain rfl)⟩] [br B0 0 2 a2] (Ac 300 [pb hb1]) (by kernel_rfl)
noncomputable def EX  (units:Nat) (AD:(List ByteArray)) (i0:Nat) :Option (Lp Unit Unit Bool):=(AD[i0]?).bind fun x1=>(Iv units ((0:Nat):Int)).bind fun k2=>(AD[k2]?).bind fun x3=>cond (BT x1.data.toList x3.data.toList) (some (.nx ())) (some (.rt false))
noncomputable def Bt  (units:Nat) (AD:(List ByteArray)):Option Bool:=(JQ units (Qh (fun i x=>EX  units AD i ) (fun x=>()) units 0 ())).bind (Kx (fun (_:Unit)=>some true) (fun v=>some v))
theorem Br {units:Nat} {AD:(List ByteArray)} {yR:Bool} (hS:Sound P G (.call 85 [.msl 0 0 units] ⟨[(0,(.cells (rows Jf AD)))],1,[],0⟩ (.ret (.sc (.bool yR))) ⟨[(0,(.cells (rows Jf AD)))],1,[],0⟩)) (u0:Nat) (hnb:[u0].Nodup:=by decide) (hnt:([]:List Nat).Nodup:=by decide):Cd.ok P G (.callU 85 [.msl u0 0 units] (.ret (.sc (.bool yR))) [(u0,(.cells (rows Jf AD)))] [] [(u0,(.cells (rows Jf AD)))] []) :=
 E3 (M:=[(.cells (rows Jf AD))]) (M2:=[(.cells (rows Jf AD))]) (T:=[]) (T2:=[]) (k:=1) (j:=0) Hd.Ad _ _ _ _ hS rfl rfl rfl rfl rfl hnb hnt rfl rfl (.cons (.cells (.pl (AW.Bd AD))) .nil) (.cons (.cells (.pl (AW.Bd AD))) .nil) (.cons (.msl (by decide)) .nil) (.pl rfl) (fun e he=>by simp only [List.mem_singleton] at he;subst he;exact (.arg (.here .msl)))
theorem A5   {units:Nat} {AD:(List ByteArray)} {yR:Bool} (h:Bt  units AD=some yR):Sound P G (.call 85 [.msl 0 0 units] ⟨[(0,(.cells (rows Jf AD)))],1,[],0⟩ (.ret (.sc (.bool yR))) ⟨[(0,(.cells (rows Jf AD)))],1,[],0⟩):=by
 unfold Bt at h
 refine E4 Hd.mixed (AF Tryz.func85 vO ?_)
 revert h
 refine pU (fun Q v=>IX P G Tryz.f85 1 ⟨[(0,(.cells (rows Jf AD)))],1,[],0⟩ Q (.sc (.bool v)) ⟨[(0,(.cells (rows Jf AD)))],1,[],0⟩) (fun i0 (_:Unit) (j0:List Value)=>fr 17 [(0,.msl 0 0 units),(5,.msl 0 0 units),(6,.sc (.int .i64 ((units:Nat):Int))),(7,.sc (.int .i64 ((i0:Nat):Int)))] [2,8,15] j0) (fun (_:Unit)=>⟨[(0,(.cells (rows Jf AD)))],1,[],0⟩) (fun (_:Unit) (jx:List Value)=>fr 17 [] [2,8,15] jx) (fun (_:Unit)=>⟨[(0,(.cells (rows Jf AD)))],1,[],0⟩) [.bool false] (HH [] 0 (sb pZ 52) [.code (sb pZ 7)] (Ac 300 []) (by kernel_rfl)) ?_ ?_ ?_ (fun v h=>by cases h;exact .outer .body)
 rintro ⟨⟩ j0 hge hq
 exact ED (Ac 300 [pb (On hge)]) (by kernel_rfl) (hq (js 3 j0 [(1,.bool false)]))
 rintro i0 ⟨⟩ j0 r hi0 mi0 k
 show EX  units AD i0 =some r→_
 unfold EX
 refine Ai fun x1 hx1=>?_
 refine Ai fun k2 hk2=>?_
 refine Ai fun x3 hx3=>?_
 let o1:List (PC P G):=[pb (JR hi0),Dh (WU (id:=0) (n:=units) (i:=i0) (by have:=Mh (JR hi0);omega)),bT (Md hx1),Dh (LK (id:=0) hk2),bT (Md hx3)]
 refine Ae (fun hb1=>?_) fun hb1=>?_
 rintro ⟨⟩
 exact Fy (Ac 300 (o1++[pn hb1,pi mi0])) (by kernel_rfl) (k [(jv j0 0),.bool true,.bool false])
 rintro ⟨⟩
 exact Al Hd.Ad _ _ [] [bp (AW.Bd AD)] (Ac 300 (o1++[pn hb1])) (by kernel_rfl) (.GF k)
 rintro ⟨⟩ jx_4
 intro h
 have hE:=Option.some.inj h
 subst hE
 exact Al Hd.Ad _ _ [] [bp (AW.Bd AD)] (C2 300 []) (by kernel_rfl) .body
noncomputable def BM  (operator:ByteArray) (units:Nat) (AD:(List ByteArray)):Option ByteArray:=(Iv units ((0:Nat):Int)).bind fun k1=>(AD[k1]?).bind fun x2=>(Iv units (P5 ((units:Nat):Int) 1)).bind fun k3=>(AD[k3]?).bind fun x4=>cond (BT operator.data.toList QT.data.toList) (cond (BT x2.data.toList A4.data.toList) ((Bt units AD).bind fun y5=>cond y5 (some A4) (some ByteArray.empty)) (some ByteArray.empty)) (cond (BT operator.data.toList Hc.data.toList) (cond (BT x2.data.toList A4.data.toList) ((Bt units AD).bind fun y6=>cond y6 (some A4) (some ByteArray.empty)) (some ByteArray.empty)) (cond (BT operator.data.toList GX.data.toList) ((Bt units AD).bind fun y7=>cond y7 (some A4) (some ByteArray.empty)) (cond (BT operator.data.toList GO.data.toList) ((Bt units AD).bind fun y8=>cond y8 (some A4) (some ByteArray.empty)) (cond (BT operator.data.toList Nb.data.toList) ((Bt units AD).bind fun y9=>cond y9 (cond (BT x2.data.toList A4.data.toList) (some ByteArray.empty) (some A4)) (some ByteArray.empty)) (cond (BT operator.data.toList GP.data.toList) ((Bt units AD).bind fun y10=>cond y10 (cond (BT x2.data.toList A4.data.toList) (some ByteArray.empty) (some A4)) (some ByteArray.empty)) (cond (BT operator.data.toList JY.data.toList) ((Bt units AD).bind fun y11=>cond y11 (cond (BT x2.data.toList A4.data.toList) (some ByteArray.empty) (some x2)) (some ByteArray.empty)) (cond (BT operator.data.toList M0.data.toList) ((Bt units AD).bind fun y12=>cond y12 (cond (BT x2.data.toList A4.data.toList) (some ByteArray.empty) (some x2)) (some ByteArray.empty)) (cond (BT operator.data.toList NO.data.toList) (cond (BT x2.data.toList Bw.data.toList) (cond (BT x4.data.toList A4.data.toList) (some ByteArray.empty) (some x4)) (cond (BT x4.data.toList Bw.data.toList) (cond (BT x2.data.toList A4.data.toList) (some ByteArray.empty) (some x2)) (some ByteArray.empty))) (cond (BT operator.data.toList H8.data.toList) (cond (BT x2.data.toList A4.data.toList) (some ByteArray.empty) (some x2)) (cond (BT operator.data.toList RE.data.toList) (cond (BT x2.data.toList Cw.data.toList) ((DX x4).bind fun y13=>cond y13 (some x4) (some ByteArray.empty)) (some ByteArray.empty)) (some ByteArray.empty)))))))))))
theorem CY {operator:ByteArray} {units:Nat} {AD:(List ByteArray)} {yR:ByteArray} (hS:Sound P G (.call 55 [.sc (.string operator),.msl 0 0 units] ⟨[(0,(.cells (rows Jf AD)))],1,[],0⟩ (.ret (.sc (.string yR))) ⟨[(0,(.cells (rows Jf AD)))],1,[],0⟩)) (u0:Nat) (hnb:[u0].Nodup:=by decide) (hnt:([]:List Nat).Nodup:=by decide):Cd.ok P G (.callU 55 [.sc (.string operator),.msl u0 0 units] (.ret (.sc (.string yR))) [(u0,(.cells (rows Jf AD)))] [] [(u0,(.cells (rows Jf AD)))] []) :=
 E3 (M:=[(.cells (rows Jf AD))]) (M2:=[(.cells (rows Jf AD))]) (T:=[]) (T2:=[]) (k:=1) (j:=0) Hd.Ad _ _ _ _ hS rfl rfl rfl rfl rfl hnb hnt rfl rfl (.cons (.cells (.pl (AW.Bd AD))) .nil) (.cons (.cells (.pl (AW.Bd AD))) .nil) (.cons (.pl rfl) (.cons (.msl (by decide)) .nil)) (.pl rfl) (fun e he=>by simp only [List.mem_singleton] at he;subst he;exact (.arg (.there (.here .msl))))
theorem Cj   {operator:ByteArray} {units:Nat} {AD:(List ByteArray)} {yR:ByteArray} (h:BM  operator units AD=some yR):Sound P G (.call 55 [.sc (.string operator),.msl 0 0 units] ⟨[(0,(.cells (rows Jf AD)))],1,[],0⟩ (.ret (.sc (.string yR))) ⟨[(0,(.cells (rows Jf AD)))],1,[],0⟩):=by
 unfold BM at h
 refine E4 Hd.mixed (AF Tryz.func55 wS ?_)
 revert h
 refine Ai fun k1 hk1=>?_
 refine Ai fun x2 hx2=>?_
 refine Ai fun k3 hk3=>?_
 refine Ai fun x4 hx4=>?_
 let o1:List (PC P G):=[Dh (LK (id:=0) hk1),bT (Md hx2),pk,Dh (LK (id:=0) hk3),bT (Md hx4)]
 refine Ae (fun hb1=>?_) fun hb1=>?_
 refine Ae (fun hb2=>?_) fun hb2=>?_
 refine Ai fun y5 hy5=>?_
 refine Ae (fun hv=>?_) fun hv=>?_
 subst hv
 intro h
 have hE:=Option.some.inj h
 subst hE
 exact Al Hd.Ad _ _ [] [bp (AW.Bd AD)] (Ac 300 (o1++[pb hb1,pn hb2,AO (Br (A5 hy5) 0)])) (by kernel_rfl) .body
 subst hv
 intro h
 have hE:=Option.some.inj h
 subst hE
 exact Al Hd.Ad _ _ [] [bp (AW.Bd AD)] (Ac 300 (o1++[pb hb1,pn hb2,AO (Br (A5 hy5) 0)])) (by kernel_rfl) .body
 intro h
 have hE:=Option.some.inj h
 subst hE
 exact Al Hd.Ad _ _ [] [bp (AW.Bd AD)] (Ac 300 (o1++[pb hb1,pn hb2])) (by kernel_rfl) .body
 let o2:List (PC P G):=o1++[pb hb1]
 refine Ae (fun hb3=>?_) fun hb3=>?_
 refine Ae (fun hb4=>?_) fun hb4=>?_
 refine Ai fun y6 hy6=>?_
 refine Ae (fun hv=>?_) fun hv=>?_
 subst hv
 intro h
 have hE:=Option.some.inj h
 subst hE
 exact Al Hd.Ad _ _ [] [bp (AW.Bd AD)] (Ac 300 (o2++[pb hb3,pn hb4,AO (Br (A5 hy6) 0)])) (by kernel_rfl) .body
 subst hv
 intro h
 have hE:=Option.some.inj h
 subst hE
 exact Al Hd.Ad _ _ [] [bp (AW.Bd AD)] (Ac 300 (o2++[pb hb3,pn hb4,AO (Br (A5 hy6) 0)])) (by kernel_rfl) .body
 intro h
 have hE:=Option.some.inj h
 subst hE
 exact Al Hd.Ad _ _ [] [bp (AW.Bd AD)] (Ac 300 (o2++[pb hb3,pn hb4])) (by kernel_rfl) .body
 let o3:List (PC P G):=o2++[pb hb3]
 refine Ae (fun hb5=>?_) fun hb5=>?_
 refine Ai fun y7 hy7=>?_
 refine Ae (fun hv=>?_) fun hv=>?_
 subst hv
 intro h
 have hE:=Option.some.inj h
 subst hE
 exact Al Hd.Ad _ _ [] [bp (AW.Bd AD)] (Ac 300 (o3++[pb hb5,AO (Br (A5 hy7) 0)])) (by kernel_rfl) .body
 subst hv
 intro h
 have hE:=Option.some.inj h
 subst hE
 exact Al Hd.Ad _ _ [] [bp (AW.Bd AD)] (Ac 300 (o3++[pb hb5,AO (Br (A5 hy7) 0)])) (by kernel_rfl) .body
 let o4:List (PC P G):=o3++[pb hb5]
 refine Ae (fun hb6=>?_) fun hb6=>?_
 refine Ai fun y8 hy8=>?_
 refine Ae (fun hv=>?_) fun hv=>?_
 subst hv
 intro h
 have hE:=Option.some.inj h
 subst hE
 exact Al Hd.Ad _ _ [] [bp (AW.Bd AD)] (Ac 300 (o4++[pb hb6,AO (Br (A5 hy8) 0)])) (by kernel_rfl) .body
 subst hv
 intro h
 have hE:=Option.some.inj h
 subst hE
 exact Al Hd.Ad _ _ [] [bp (AW.Bd AD)] (Ac 300 (o4++[pb hb6,AO (Br (A5 hy8) 0)])) (by kernel_rfl) .body
 let o5:List (PC P G):=o4++[pb hb6]
 refine Ae (fun hb7=>?_) fun hb7=>?_
 refine Ai fun y9 hy9=>?_
 let o6:List (PC P G):=o5++[pb hb7,AO (Br (A5 hy9) 0)]
 refine Ae (fun hv=>?_) fun hv=>?_
 subst hv
 refine Ae (fun hb8=>?_) fun hb8=>?_
 intro h
 have hE:=Option.some.inj h
 subst hE
 exact Al Hd.Ad _ _ [] [bp (AW.Bd AD)] (Ac 300 (o6++[pb hb8])) (by kernel_rfl) .body
 intro h
 have hE:=Option.some.inj h
 subst hE
 exact Al Hd.Ad _ _ [] [bp (AW.Bd AD)] (Ac 300 (o6++[pb hb8])) (by kernel_rfl) .body
 subst hv
 intro h
 have hE:=Option.some.inj h
 subst hE
 exact Al Hd.Ad _ _ [] [bp (AW.Bd AD)] (Ac 300 o6) (by kernel_rfl) .body
 let o7:List (PC P G):=o5++[pb hb7]
 refine Ae (fun hb9=>?_) fun hb9=>?_
 refine Ai fun y10 hy10=>?_
 let o8:List (PC P G):=o7++[pb hb9,AO (Br (A5 hy10) 0)]
 refine Ae (fun hv=>?_) fun hv=>?_
 subst hv
 refine Ae (fun hb10=>?_) fun hb10=>?_
 intro h
 have hE:=Option.some.inj h
 subst hE
 exact Al Hd.Ad _ _ [] [bp (AW.Bd AD)] (Ac 300 (o8++[pb hb10])) (by kernel_rfl) .body
 intro h
 have hE:=Option.some.inj h
 subst hE
 exact Al Hd.Ad _ _ [] [bp (AW.Bd AD)] (Ac 300 (o8++[pb hb10])) (by kernel_rfl) .body
 subst hv
 intro h
 have hE:=Option.some.inj h
 subst hE
 exact Al Hd.Ad _ _ [] [bp (AW.Bd AD)] (Ac 300 o8) (by kernel_rfl) .body
 let o9:List (PC P G):=o7++[pb hb9]
 refine Ae (fun hb11=>?_) fun hb11=>?_
 refine Ai fun y11 hy11=>?_
 let o10:List (PC P G):=o9++[pb hb11,AO (Br (A5 hy11) 0)]
 refine Ae (fun hv=>?_) fun hv=>?_
 subst hv
 refine Ae (fun hb12=>?_) fun hb12=>?_
 intro h
 have hE:=Option.some.inj h
 subst hE
 exact Al Hd.Ad _ _ [] [bp (AW.Bd AD)] (Ac 300 (o10++[pb hb12])) (by kernel_rfl) .body
 intro h
 have hE:=Option.some.inj h
 subst hE
 exact Al Hd.Ad _ _ [] [bp (AW.Bd AD)] (Ac 300 (o10++[pb hb12])) (by kernel_rfl) .body
 subst hv
 intro h
 have hE:=Option.some.inj h
 subst hE
 exact Al Hd.Ad _ _ [] [bp (AW.Bd AD)] (Ac 300 o10) (by kernel_rfl) .body
 let o11:List (PC P G):=o9++[pb hb11]
 refine Ae (fun hb13=>?_) fun hb13=>?_
 refine Ai fun y12 hy12=>?_
 let o12:List (PC P G):=o11++[pb hb13,AO (Br (A5 hy12) 0)]
 refine Ae (fun hv=>?_) fun hv=>?_
 subst hv
 refine Ae (fun hb14=>?_) fun hb14=>?_
 intro h
 have hE:=Option.some.inj h
 subst hE
 exact Al Hd.Ad _ _ [] [bp (AW.Bd AD)] (Ac 300 (o12++[pb hb14])) (by kernel_rfl) .body
 intro h
 have hE:=Option.some.inj h
 subst hE
 exact Al Hd.Ad _ _ [] [bp (AW.Bd AD)] (Ac 300 (o12++[pb hb14])) (by kernel_rfl) .body
 subst hv
 intro h
 have hE:=Option.some.inj h
 subst hE
 exact Al Hd.Ad _ _ [] [bp (AW.Bd AD)] (Ac 300 o12) (by kernel_rfl) .body
 let o13:List (PC P G):=o11++[pb hb13]
 refine Ae (fun hb15=>?_) fun hb15=>?_
 refine Ae (fun hb16=>?_) fun hb16=>?_
 refine Ae (fun hb17=>?_) fun hb17=>?_
 intro h
 have hE:=Option.some.inj h
 subst hE
 exact Al Hd.Ad _ _ [] [bp (AW.Bd AD)] (Ac 300 (o13++[pb hb15,pb hb16,pb hb17])) (by kernel_rfl) .body
 intro h
 have hE:=Option.some.inj h
 subst hE
 exact Al Hd.Ad _ _ [] [bp (AW.Bd AD)] (Ac 300 (o13++[pb hb15,pb hb16,pb hb17])) (by kernel_rfl) .body
 refine Ae (fun hb18=>?_) fun hb18=>?_
 refine Ae (fun hb19=>?_) fun hb19=>?_
 intro h
 have hE:=Option.some.inj h
 subst hE
 exact Al Hd.Ad _ _ [] [bp (AW.Bd AD)] (Ac 300 (o13++[pb hb15,pb hb16,pn hb18,pb hb19])) (by kernel_rfl) .body
 intro h
 have hE:=Option.some.inj h
 subst hE
 exact Al Hd.Ad _ _ [] [bp (AW.Bd AD)] (Ac 300 (o13++[pb hb15,pb hb16,pn hb18,pb hb19])) (by kernel_rfl) .body
 intro h
 have hE:=Option.some.inj h
 subst hE
 exact Al Hd.Ad _ _ [] [bp (AW.Bd AD)] (Ac 300 (o13++[pb hb15,pb hb16,pn hb18])) (by kernel_rfl) .body
 refine Ae (fun hb20=>?_) fun hb20=>?_
 refine Ae (fun hb21=>?_) fun hb21=>?_
 intro h
 have hE:=Option.some.inj h
 subst hE
 exact Al Hd.Ad _ _ [] [bp (AW.Bd AD)] (Ac 300 (o13++[pb hb15,pb hb20,pb hb21])) (by kernel_rfl) .body
 intro h
 have hE:=Option.some.inj h
 subst hE
 exact Al Hd.Ad _ _ [] [bp (AW.Bd AD)] (Ac 300 (o13++[pb hb15,pb hb20,pb hb21])) (by kernel_rfl) .body
 refine Ae (fun hb22=>?_) fun hb22=>?_
 refine Ae (fun hb23=>?_) fun hb23=>?_
 refine Ai fun y13 hy13=>?_
 refine Ae (fun hv=>?_) fun hv=>?_
 subst hv
 intro h
 have hE:=Option.some.inj h
 subst hE
 exact Al Hd.Ad _ _ [] [bp (AW.Bd AD)] (Ac 300 (o13++[pb hb15,pb hb20,pb hb22,pb hb23,Aj (FH hy13)])) (by kernel_rfl) .body
 subst hv
 intro h
 have hE:=Option.some.inj h
 subst hE
 exact Al Hd.Ad _ _ [] [bp (AW.Bd AD)] (Ac 300 (o13++[pb hb15,pb hb20,pb hb22,pb hb23,Aj (FH hy13)])) (by kernel_rfl) .body
 intro h
 have hE:=Option.some.inj h
 subst hE
 exact Al Hd.Ad _ _ [] [bp (AW.Bd AD)] (Ac 300 (o13++[pb hb15,pb hb20,pb hb22,pb hb23])) (by kernel_rfl) .body
 intro h
 have hE:=Option.some.inj h
 subst hE
 exact Al Hd.Ad _ _ [] [bp (AW.Bd AD)] (Ac 300 (o13++[pb hb15,pb hb20,pb hb22])) (by kernel_rfl) .body
theorem Fx {s:Sc} {e:Nd} {report:(List Dg)} {yR:ByteArray} {qreportR:(List Dg)} (hS:Sound P G (.call 32 [.agg [.mp 0,.mp 1,.mp 2],.agg (BA e),.fn (.func 54) [] [.ptr 3 0]] ⟨[(3,.cells [.sl (.row 0 2) report.length (rows JV report)]),(2,(EL s.AA)),(1,(Cc s.lines)),(0,(Cc s.facts))],4,[(0,report.length)],1⟩ (.ret (.sc (.string yR))) ⟨[(3,.cells [.sl (.row 0 2) qreportR.length (rows JV qreportR)]),(2,(EL s.AA)),(1,(Cc s.lines)),(0,(Cc s.facts))],4,[(0,qreportR.length)],1⟩)) (u0 u1 u2 u3 v0:Nat) (hnb:[u0,u1,u2,u3].Nodup:=by decide) (hnt:([v0]:List Nat).Nodup:=by decide):Cd.ok P G (.callU 32 [.agg [.mp u0,.mp u1,.mp u2],.agg (BA e),.fn (.func 54) [] [.ptr u3 0]] (.ret (.sc (.string yR))) [(u0,(Cc s.facts)),(u1,(Cc s.lines)),(u2,(EL s.AA)),(u3,.cells [.sl (.row v0 2) report.length (rows JV report)])] [(v0,report.length)] [(u0,(Cc s.facts)),(u1,(Cc s.lines)),(u2,(EL s.AA)),(u3,.cells [.sl (.row v0 2) qreportR.length (rows JV qreportR)])] [(v0,qreportR.length)]) :=
 E3 (M:=[(Cc s.facts),(Cc s.lines),(EL s.AA),.cells [.sl (.row 0 2) report.length (rows JV report)]]) (M2:=[(Cc s.facts),(Cc s.lines),(EL s.AA),.cells [.sl (.row 0 2) qreportR.length (rows JV qreportR)]]) (T:=[report.length]) (T2:=[qreportR.length]) (k:=4) (j:=1) Hd.Ad _ _ _ _ hS rfl rfl rfl rfl rfl hnb hnt rfl rfl (.cons (K5 (fun _=>rfl)) (.cons (K5 (fun _=>rfl)) (.cons (K5 (fun _=>rfl)) (.cons (.cells (.cons (.row (by decide) (B0.Bd report)) .nil)) .nil)))) (.cons (K5 (fun _=>rfl)) (.cons (K5 (fun _=>rfl)) (.cons (K5 (fun _=>rfl)) (.cons (.cells (.cons (.row (by decide) (B0.Bd qreportR)) .nil)) .nil)))) (.cons (.agg (.cons (.mp (by decide)) (.cons (.mp (by decide)) (.cons (.mp (by decide)) .nil)))) (.cons (.pl (AK.Gt e)) (.cons (.fn (.pl rfl) (.cons (.ptr (by decide)) .nil)) .nil))) (.pl rfl) (by
   intro e he
   simp only [List.mem_cons,List.not_mem_nil,or_false] at he
   rcases he with rfl | rfl | rfl | rfl
   · exact (.arg (.here (.agg (.here .mp))))
   · exact (.arg (.here (.agg (.there (.here .mp)))))
   · exact (.arg (.here (.agg (.there (.there (.here .mp))))))
   · exact (.arg (.there (.there (.here (.fn2 (.here .ptr))))))
   )
noncomputable def rD:Code:=AU Tryz.f32
theorem vW:Tryz.f32.body=some rD:=by kernel_rfl
noncomputable def BK (By:Sc→Nd→(List Dg)→Option (ByteArray×(List Dg))) (s:Sc) (i0:Nat) (e0:Nd) (whole8:Bool) (w6_l:(List ByteArray)) (w3_0:(List Dg)):Option (Lp (Bool×(List ByteArray)×(List Dg)) (Bool×(List ByteArray)×(List Dg)) (ByteArray×(List Dg))):=(By s e0 w3_0).bind fun (y2a,y2b)=>(w6_l[i0]?).bind fun x3=>cond whole8 (((w6_l.set i0 y2a)[i0]?).bind fun x4=>cond (BT x4.data.toList ByteArray.empty.data.toList) (some (.nx (false,(w6_l.set i0 y2a),y2b))) (some (.nx (true,(w6_l.set i0 y2a),y2b)))) (some (.nx (false,(w6_l.set i0 y2a),y2b)))
noncomputable def C7 (By:Sc→Nd→(List Dg)→Option (ByteArray×(List Dg))) (s:Sc) (e:Nd) (report:(List Dg)):Option (ByteArray×(List Dg)):=Ys (e.kids.length) ((JQ e.kids.length (Bb (fun i y x=>BK By s i y x.1 x.2.1 x.2.2) (fun x=>(x.1,x.2.1,x.2.2)) (e.kids.drop 0) 0 (true,(List.replicate e.kids.length ByteArray.empty),report))).bind (Kx (fun ((whole8_5,w6_l_5,w3_0_5):(Bool×(List ByteArray)×(List Dg)))=>cond whole8_5 (cond (Bi e.kind 11) (cond (BT e.unit.data.toList ByteArray.empty.data.toList) ((AP 11 e.att w3_0_5).bind fun (y6a,y6b)=>some (e.unit,y6b)) (some (e.unit,w3_0_5))) (cond (Bi e.kind 12) (cond (BT ((s.facts.get e.name).getD ByteArray.empty).data.toList ByteArray.empty.data.toList) ((AP 91 e.att w3_0_5).bind fun (y7a,y7b)=>some (((s.facts.get e.name).getD ByteArray.empty),y7b)) (some (((s.facts.get e.name).getD ByteArray.empty),w3_0_5))) (cond (Bi e.kind 13) (cond (BT ((s.lines.get ((s.AA.get e.n).getD ByteArray.empty)).getD ByteArray.empty).data.toList ByteArray.empty.data.toList) ((AP 91 e.att w3_0_5).bind fun (y8a,y8b)=>some (((s.lines.get ((s.AA.get e.n).getD ByteArray.empty)).getD ByteArray.empty),y8b)) (some (((s.lines.get ((s.AA.get e.n).getD ByteArray.empty)).getD ByteArray.empty),w3_0_5))) (cond (Bi e.kind 14) (cond (BT Bw.data.toList ByteArray.empty.data.toList) ((AP 11 e.att w3_0_5).bind fun (y9a,y9b)=>some (Bw,y9b)) (some (Bw,w3_0_5))) (cond (Bi e.kind 15) ((BM Hc e.kids.length w6_l_5).bind fun y10=>cond (BT y10.data.toList ByteArray.empty.data.toList) ((AP 11 e.att w3_0_5).bind fun (y11a,y11b)=>some (y10,y11b)) (some (y10,w3_0_5))) (cond (Bi e.kind 16) ((BM e.name e.kids.length w6_l_5).bind fun y12=>cond (BT y12.data.toList ByteArray.empty.data.toList) ((AP 11 e.att w3_0_5).bind fun (y13a,y13b)=>some (y12,y13b)) (some (y12,w3_0_5))) (cond (Bi e.kind 17) ((BM JY e.kids.length w6_l_5).bind fun y14=>cond (BT y14.data.toList ByteArray.empty.data.toList) ((AP 11 e.att w3_0_5).bind fun (y15a,y15b)=>some (y14,y15b)) (some (y14,w3_0_5))) (cond (Bi e.kind 18) ((Iv e.kids.length ((0:Nat):Int)).bind fun TX=>(w6_l_5[TX]?).bind fun x17=>(DX x17).bind fun y18=>cond y18 (cond (BT x17.data.toList ByteArray.empty.data.toList) ((AP 11 e.att w3_0_5).bind fun (y19a,y19b)=>some (x17,y19b)) (some (x17,w3_0_5))) (cond (BT ByteArray.empty.data.toList ByteArray.empty.data.toList) ((AP 11 e.att w3_0_5).bind fun (y20a,y20b)=>some (ByteArray.empty,y20b)) (some (ByteArray.empty,w3_0_5)))) (cond (BT ByteArray.empty.data.toList ByteArray.empty.data.toList) ((AP 11 e.att w3_0_5).bind fun (y21a,y21b)=>some (ByteArray.empty,y21b)) (some (ByteArray.empty,w3_0_5))))))))))) (some (ByteArray.empty,w3_0_5))) (fun v=>some v)))
theorem HN (By:Sc→Nd→(List Dg)→Option (ByteArray×(List Dg))) (Ir:∀ {s:Sc} {e:Nd} {report:(List Dg)} {yR:ByteArray} {qreportR:(List Dg)},By s e report=some (yR,qreportR)→Sound P G (.call 32 [.agg [.mp 0,.mp 1,.mp 2],.agg (BA e),.fn (.func 54) [] [.ptr 3 0]] ⟨[(3,.cells [.sl (.row 0 2) report.length (rows JV report)]),(2,(EL s.AA)),(1,(Cc s.lines)),(0,(Cc s.facts))],4,[(0,report.length)],1⟩ (.ret (.sc (.string yR))) ⟨[(3,.cells [.sl (.row 0 2) qreportR.length (rows JV qreportR)]),(2,(EL s.AA)),(1,(Cc s.lines)),(0,(Cc s.facts))],4,[(0,qreportR.length)],1⟩)) {s:Sc} {e:Nd} {report:(List Dg)} {yR:ByteArray} {qreportR:(List Dg)} (h:C7 By s e report=some (yR,qreportR)):Sound P G (.call 32 [.agg [.mp 0,.mp 1,.mp 2],.agg (BA e),.fn (.func 54) [] [.ptr 3 0]] ⟨[(3,.cells [.sl (.row 0 2) report.length (rows JV report)]),(2,(EL s.AA)),(1,(Cc s.lines)),(0,(Cc s.facts))],4,[(0,report.length)],1⟩ (.ret (.sc (.string yR))) ⟨[(3,.cells [.sl (.row 0 2) qreportR.length (rows JV qreportR)]),(2,(EL s.AA)),(1,(Cc s.lines)),(0,(Cc s.facts))],4,[(0,qreportR.length)],1⟩):=by
 unfold C7 at h
 refine E4 Hd.mixed (AF Tryz.func32 vW ?_)
 revert h
 refine oA fun hl1=>?_
 refine H7 (fun Q v=>IX P G Tryz.f32 4 ⟨[(3,.cells [.sl (.row 0 2) report.length (rows JV report)]),(2,(EL s.AA)),(1,(Cc s.lines)),(0,(Cc s.facts))],4,[(0,report.length)],1⟩ Q (.sc (.string v.1)) ⟨[(3,.cells [.sl (.row 0 2) v.2.length (rows JV v.2)]),(2,(EL s.AA)),(1,(Cc s.lines)),(0,(Cc s.facts))],4,[(0,v.2.length)],1⟩) (fun i0 ((whole8,w6_l,w3_0):(Bool×(List ByteArray)×(List Dg))) (j0:List Value)=>fr 99 [(2,.fn (.func 54) [] [.ptr 3 0]),(3,.ptr 4 0),(4,.ptr 5 0),(7,.msl 6 0 e.kids.length),(8,.sc (.bool whole8)),(18,.sl .lost e.kids.length (CC e.kids)),(19,.sc (.int .i64 ((e.kids.length:Nat):Int))),(20,.sc (.int .i64 ((i0:Nat):Int)))] [21,32,33,38,39,41,42,45,46,49,50,56,57,66,67,68,69,72,73,78,79,82,83,87,92] j0) (fun ((whole8,w6_l,w3_0):(Bool×(List ByteArray)×(List Dg)))=>⟨[(6,(.cells (rows Jf w6_l))),(5,.cells (BA e)),(4,.cells [.mp 0,.mp 1,.mp 2]),(3,.cells [.sl (.row 0 2) w3_0.length (rows JV w3_0)]),(2,(EL s.AA)),(1,(Cc s.lines)),(0,(Cc s.facts))],7,[(0,w3_0.length)],1⟩) (fun ((whole8,w6_l,w3_0):(Bool×(List ByteArray)×(List Dg))) (jx:List Value)=>fr 99 [(2,.fn (.func 54) [] [.ptr 3 0]),(3,.ptr 4 0),(4,.ptr 5 0),(7,.msl 6 0 e.kids.length),(8,.sc (.bool whole8))] [21,32,33,38,39,41,42,45,46,49,50,56,57,66,67,68,69,72,73,78,79,82,83,87,92] jx) (fun ((whole8,w6_l,w3_0):(Bool×(List ByteArray)×(List Dg)))=>⟨[(6,(.cells (rows Jf w6_l))),(5,.cells (BA e)),(4,.cells [.mp 0,.mp 1,.mp 2]),(3,.cells [.sl (.row 0 2) w3_0.length (rows JV w3_0)]),(2,(EL s.AA)),(1,(Cc s.lines)),(0,(Cc s.facts))],7,[(0,w3_0.length)],1⟩) [] (HH [] 0 (sb rD 244) [.code (sb rD 31)] (Ac 300 [vM (mR (n:=e.kids.length) hl1)]) (by kernel_rfl)) ?_ ?_ ?_ (fun v h=>by cases h;exact .outer .body)
 rintro i0 ⟨whole8,w6_l,w3_0⟩ j0 hge hq
 exact ED (Ac 300 [pb (On hge)]) (by kernel_rfl) (hq (js 25 j0 [(0,.bool false)]))
 rintro i0 e0 ⟨whole8,w6_l,w3_0⟩ j0 r he0 hi0 mi0 k
 show BK By s i0 e0 whole8 w6_l w3_0=some r→_
 unfold BK
 refine Ai ?_
 rintro ⟨y2a,y2b⟩ hy2
 dsimp only
 refine Ai fun x3 hx3=>?_
 let o1:List (PC P G):=[pb (JR hi0),Dh (Cp .lost he0),AO (Fx (Ir hy2) 0 1 2 3 0),Dh (WU (id:=6) (n:=e.kids.length) (i:=i0) (by have:=Mh (JR hi0);omega)),sT (mH hx3 y2a)]
 refine Ae (fun hv=>?_) fun hv=>?_
 subst hv
 refine Ai fun x4 hx4=>?_
 let o2:List (PC P G):=o1++[Dh (WU (id:=6) (n:=e.kids.length) (i:=i0) (by have:=Mh (JR hi0);omega)),bT (Md hx4)]
 refine Ae (fun hb1=>?_) fun hb1=>?_
 rintro ⟨⟩
 exact EG Hd.Ad [fq (AK.Hx e.kids)] [bp (AW.Bd (w6_l.set i0 y2a)),bp (AK.pl e),none,br B0 0 2 y2b,C3 s.AA,A9 s.lines,A9 s.facts] (Ac 300 (o2++[pn hb1,pi mi0])) (by kernel_rfl) (k (js 25 j0 [(0,.bool true),(1,.bool true),(2,.bool true),(3,.bool false),(4,.bool false)]))
 rintro ⟨⟩
 exact EG Hd.Ad [fq (AK.Hx e.kids)] [bp (AW.Bd (w6_l.set i0 y2a)),bp (AK.pl e),none,br B0 0 2 y2b,C3 s.AA,A9 s.lines,A9 s.facts] (Ac 300 (o2++[pn hb1,pi mi0])) (by kernel_rfl) (k (js 25 j0 [(0,.bool true),(1,.bool true),(2,.bool true),(3,.bool true),(4,.bool true)]))
 subst hv
 rintro ⟨⟩
 exact EG Hd.Ad [fq (AK.Hx e.kids)] [bp (AW.Bd (w6_l.set i0 y2a)),bp (AK.pl e),none,br B0 0 2 y2b,C3 s.AA,A9 s.lines,A9 s.facts] (Ac 300 (o1++[pi mi0])) (by kernel_rfl) (k (js 25 j0 [(0,.bool true),(1,.bool false),(2,.bool false),(3,undef),(4,.bool false)]))
 rintro ⟨whole8_5,w6_l_5,w3_0_5⟩ jx_5
 dsimp only
 refine Ae (fun hv=>?_) fun hv=>?_
 subst hv
 refine Ae (fun hb2=>?_) fun hb2=>?_
 refine Ae (fun hb3=>?_) fun hb3=>?_
 refine Ai ?_
 rintro ⟨y6a,y6b⟩ hy6
 dsimp only
 intro h
 have hE:=Option.some.inj h
 obtain ⟨hE0,hF0⟩:=Prod.mk.inj hE
 subst hE0 hF0
 exact Al Hd.Ad _ _ [] [br B0 0 2 y6b,C3 s.AA,A9 s.lines,A9 s.facts] (C2 300 [pb hb2,pb hb3,AO (Ba (AY hy6) 3 0)]) (by kernel_rfl) .body
 intro h
 have hE:=Option.some.inj h
 obtain ⟨hE0,hF0⟩:=Prod.mk.inj hE
 subst hE0 hF0
 exact Al Hd.Ad _ _ [] [br B0 0 2 w3_0_5,C3 s.AA,A9 s.lines,A9 s.facts] (C2 300 [pb hb2,pb hb3]) (by kernel_rfl) .body
 let o3:List (PC P G):=[pb hb2]
 refine Ae (fun hb4=>?_) fun hb4=>?_
 refine Ae (fun hb5=>?_) fun hb5=>?_
 refine Ai ?_
 rintro ⟨y7a,y7b⟩ hy7
 dsimp only
 intro h
 have hE:=Option.some.inj h
 obtain ⟨hE0,hF0⟩:=Prod.mk.inj hE
 subst hE0 hF0
 exact Al Hd.Ad _ _ [] [br B0 0 2 y7b,C3 s.AA,A9 s.lines,A9 s.facts] (C2 300 (o3++[pb hb4,XZ (iV s.facts e.name),pb hb5,AO (Ba (AY hy7) 3 0)])) (by kernel_rfl) .body
 intro h
 have hE:=Option.some.inj h
 obtain ⟨hE0,hF0⟩:=Prod.mk.inj hE
 subst hE0 hF0
 exact Al Hd.Ad _ _ [] [br B0 0 2 w3_0_5,C3 s.AA,A9 s.lines,A9 s.facts] (C2 300 (o3++[pb hb4,XZ (iV s.facts e.name),pb hb5])) (by kernel_rfl) .body
 let o4:List (PC P G):=o3++[pb hb4]
 refine Ae (fun hb6=>?_) fun hb6=>?_
 let o5:List (PC P G):=o4++[pb hb6,XZ (pR s.AA e.n),XZ (iV s.lines ((s.AA.get e.n).getD ByteArray.empty))]
 refine Ae (fun hb7=>?_) fun hb7=>?_
 refine Ai ?_
 rintro ⟨y8a,y8b⟩ hy8
 dsimp only
 intro h
 have hE:=Option.some.inj h
 obtain ⟨hE0,hF0⟩:=Prod.mk.inj hE
 subst hE0 hF0
 exact Al Hd.Ad _ _ [] [br B0 0 2 y8b,C3 s.AA,A9 s.lines,A9 s.facts] (C2 300 (o5++[pb hb7,AO (Ba (AY hy8) 3 0)])) (by kernel_rfl) .body
 intro h
 have hE:=Option.some.inj h
 obtain ⟨hE0,hF0⟩:=Prod.mk.inj hE
 subst hE0 hF0
 exact Al Hd.Ad _ _ [] [br B0 0 2 w3_0_5,C3 s.AA,A9 s.lines,A9 s.facts] (C2 300 (o5++[pb hb7])) (by kernel_rfl) .body
 let o6:List (PC P G):=o4++[pb hb6]
 refine Ae (fun hb8=>?_) fun hb8=>?_
 refine Ae (fun hb9=>?_) fun hb9=>?_
 refine Ai ?_
 rintro ⟨y9a,y9b⟩ hy9
 dsimp only
 intro h
 have hE:=Option.some.inj h
 obtain ⟨hE0,hF0⟩:=Prod.mk.inj hE
 subst hE0 hF0
 exact Al Hd.Ad _ _ [] [br B0 0 2 y9b,C3 s.AA,A9 s.lines,A9 s.facts] (C2 300 (o6++[pb hb8,pb hb9,AO (Ba (AY hy9) 3 0)])) (by kernel_rfl) .body
 intro h
 have hE:=Option.some.inj h
 obtain ⟨hE0,hF0⟩:=Prod.mk.inj hE
 subst hE0 hF0
 exact Al Hd.Ad _ _ [] [br B0 0 2 w3_0_5,C3 s.AA,A9 s.lines,A9 s.facts] (C2 300 (o6++[pb hb8,pb hb9])) (by kernel_rfl) .body
 let o7:List (PC P G):=o6++[pb hb8]
 refine Ae (fun hb10=>?_) fun hb10=>?_
 refine Ai fun y10 hy10=>?_
 refine Ae (fun hb11=>?_) fun hb11=>?_
 refine Ai ?_
 rintro ⟨y11a,y11b⟩ hy11
 dsimp only
 intro h
 have hE:=Option.some.inj h
 obtain ⟨hE0,hF0⟩:=Prod.mk.inj hE
 subst hE0 hF0
 exact Al Hd.Ad _ _ [] [br B0 0 2 y11b,C3 s.AA,A9 s.lines,A9 s.facts] (C2 300 (o7++[pb hb10,AO (CY (Cj hy10) 6),pb hb11,AO (Ba (AY hy11) 3 0)])) (by kernel_rfl) .body
 intro h
 have hE:=Option.some.inj h
 obtain ⟨hE0,hF0⟩:=Prod.mk.inj hE
 subst hE0 hF0
 exact Al Hd.Ad _ _ [] [br B0 0 2 w3_0_5,C3 s.AA,A9 s.lines,A9 s.facts] (C2 300 (o7++[pb hb10,AO (CY (Cj hy10) 6),pb hb11])) (by kernel_rfl) .body
 let o8:List (PC P G):=o7++[pb hb10]
 refine Ae (fun hb12=>?_) fun hb12=>?_
 refine Ai fun y12 hy12=>?_
 refine Ae (fun hb13=>?_) fun hb13=>?_
 refine Ai ?_
 rintro ⟨y13a,y13b⟩ hy13
 dsimp only
 intro h
 have hE:=Option.some.inj h
 obtain ⟨hE0,hF0⟩:=Prod.mk.inj hE
 subst hE0 hF0
 exact Al Hd.Ad _ _ [] [br B0 0 2 y13b,C3 s.AA,A9 s.lines,A9 s.facts] (C2 300 (o8++[pb hb12,AO (CY (Cj hy12) 6),pb hb13,AO (Ba (AY hy13) 3 0)])) (by kernel_rfl) .body
 intro h
 have hE:=Option.some.inj h
 obtain ⟨hE0,hF0⟩:=Prod.mk.inj hE
 subst hE0 hF0
 exact Al Hd.Ad _ _ [] [br B0 0 2 w3_0_5,C3 s.AA,A9 s.lines,A9 s.facts] (C2 300 (o8++[pb hb12,AO (CY (Cj hy12) 6),pb hb13])) (by kernel_rfl) .body
 refine Ae (fun hb14=>?_) fun hb14=>?_
 refine Ai fun y14 hy14=>?_
 refine Ae (fun hb15=>?_) fun hb15=>?_
 refine Ai ?_
 rintro ⟨y15a,y15b⟩ hy15
 dsimp only
 intro h
 have hE:=Option.some.inj h
 obtain ⟨hE0,hF0⟩:=Prod.mk.inj hE
 subst hE0 hF0
 exact Al Hd.Ad _ _ [] [br B0 0 2 y15b,C3 s.AA,A9 s.lines,A9 s.facts] (C2 300 (o8++[pb hb12,pb hb14,AO (CY (Cj hy14) 6),pb hb15,AO (Ba (AY hy15) 3 0)])) (by kernel_rfl) .body
 intro h
 have hE:=Option.some.inj h
 obtain ⟨hE0,hF0⟩:=Prod.mk.inj hE
 subst hE0 hF0
 exact Al Hd.Ad _ _ [] [br B0 0 2 w3_0_5,C3 s.AA,A9 s.lines,A9 s.facts] (C2 300 (o8++[pb hb12,pb hb14,AO (CY (Cj hy14) 6),pb hb15])) (by kernel_rfl) .body
 let o9:List (PC P G):=o8++[pb hb12,pb hb14]
 refine Ae (fun hb16=>?_) fun hb16=>?_
 refine Ai fun TX hk16=>?_
 refine Ai fun x17 hx17=>?_
 refine Ai fun y18 hy18=>?_
 let o10:List (PC P G):=o9++[pb hb16,Dh (LK (id:=6) hk16),bT (Md hx17),Aj (FH hy18)]
 refine Ae (fun hv=>?_) fun hv=>?_
 subst hv
 refine Ae (fun hb17=>?_) fun hb17=>?_
 refine Ai ?_
 rintro ⟨y19a,y19b⟩ hy19
 dsimp only
 intro h
 have hE:=Option.some.inj h
 obtain ⟨hE0,hF0⟩:=Prod.mk.inj hE
 subst hE0 hF0
 exact Al Hd.Ad _ _ [] [br B0 0 2 y19b,C3 s.AA,A9 s.lines,A9 s.facts] (C2 300 (o10++[Dh (LK (id:=6) hk16),bT (Md hx17),pb hb17,AO (Ba (AY hy19) 3 0)])) (by kernel_rfl) .body
 intro h
 have hE:=Option.some.inj h
 obtain ⟨hE0,hF0⟩:=Prod.mk.inj hE
 subst hE0 hF0
 exact Al Hd.Ad _ _ [] [br B0 0 2 w3_0_5,C3 s.AA,A9 s.lines,A9 s.facts] (C2 300 (o10++[Dh (LK (id:=6) hk16),bT (Md hx17),pb hb17])) (by kernel_rfl) .body
 subst hv
 refine Ae (fun hb18=>?_) fun hb18=>?_
 refine Ai ?_
 rintro ⟨y20a,y20b⟩ hy20
 dsimp only
 intro h
 have hE:=Option.some.inj h
 obtain ⟨hE0,hF0⟩:=Prod.mk.inj hE
 subst hE0 hF0
 exact Al Hd.Ad _ _ [] [br B0 0 2 y20b,C3 s.AA,A9 s.lines,A9 s.facts] (C2 300 (o10++[pb hb18,AO (Ba (AY hy20) 3 0)])) (by kernel_rfl) .body
 intro h
 have hE:=Option.some.inj h
 obtain ⟨hE0,hF0⟩:=Prod.mk.inj hE
 subst hE0 hF0
 exact Al Hd.Ad _ _ [] [br B0 0 2 w3_0_5,C3 s.AA,A9 s.lines,A9 s.facts] (C2 300 (o10++[pb hb18])) (by kernel_rfl) .body
 refine Ae (fun hb19=>?_) fun hb19=>?_
 refine Ai ?_
 rintro ⟨y21a,y21b⟩ hy21
 dsimp only
 intro h
 have hE:=Option.some.inj h
 obtain ⟨hE0,hF0⟩:=Prod.mk.inj hE
 subst hE0 hF0
 exact Al Hd.Ad _ _ [] [br B0 0 2 y21b,C3 s.AA,A9 s.lines,A9 s.facts] (C2 300 (o9++[pb hb16,pb hb19,AO (Ba (AY hy21) 3 0)])) (by kernel_rfl) .body
 intro h
 have hE:=Option.some.inj h
 obtain ⟨hE0,hF0⟩:=Prod.mk.inj hE
 subst hE0 hF0
 exact Al Hd.Ad _ _ [] [br B0 0 2 w3_0_5,C3 s.AA,A9 s.lines,A9 s.facts] (C2 300 (o9++[pb hb16,pb hb19])) (by kernel_rfl) .body
 subst hv
 intro h
 have hE:=Option.some.inj h
 obtain ⟨hE0,hF0⟩:=Prod.mk.inj hE
 subst hE0 hF0
 exact Al Hd.Ad _ _ [] [br B0 0 2 w3_0_5,C3 s.AA,A9 s.lines,A9 s.facts] (C2 300 []) (by kernel_rfl) .body
noncomputable def A6:Nat→Sc→Nd→(List Dg)→Option (ByteArray×(List Dg))
 | 0,_,_,_=>none
 | qn+1,s,e,report=>C7 (A6 qn) s e report
theorem Ik:∀ qn:Nat,∀ {s:Sc} {e:Nd} {report:(List Dg)} {yR:ByteArray} {qreportR:(List Dg)},A6 qn s e report=some (yR,qreportR)→Sound P G (.call 32 [.agg [.mp 0,.mp 1,.mp 2],.agg (BA e),.fn (.func 54) [] [.ptr 3 0]] ⟨[(3,.cells [.sl (.row 0 2) report.length (rows JV report)]),(2,(EL s.AA)),(1,(Cc s.lines)),(0,(Cc s.facts))],4,[(0,report.length)],1⟩ (.ret (.sc (.string yR))) ⟨[(3,.cells [.sl (.row 0 2) qreportR.length (rows JV qreportR)]),(2,(EL s.AA)),(1,(Cc s.lines)),(0,(Cc s.facts))],4,[(0,qreportR.length)],1⟩):=by
 intro qn
 induction qn with
 | zero=>exact (fun h=>by simp only [A6] at h;cases h)
 | succ qn ih=>exact (fun h=>HN (A6 qn) ih (by rw [A6] at h;exact h))
noncomputable def D2 (s:Sc) (e:Nd) (report:(List Dg)):Option (ByteArray×(List Dg)):=Vf (fun qn=>A6 qn s e report)
theorem IK {s:Sc} {e:Nd} {report:(List Dg)} {yR:ByteArray} {qreportR:(List Dg)} (h:D2 s e report=some (yR,qreportR)):Sound P G (.call 32 [.agg [.mp 0,.mp 1,.mp 2],.agg (BA e),.fn (.func 54) [] [.ptr 3 0]] ⟨[(3,.cells [.sl (.row 0 2) report.length (rows JV report)]),(2,(EL s.AA)),(1,(Cc s.lines)),(0,(Cc s.facts))],4,[(0,report.length)],1⟩ (.ret (.sc (.string yR))) ⟨[(3,.cells [.sl (.row 0 2) qreportR.length (rows JV qreportR)]),(2,(EL s.AA)),(1,(Cc s.lines)),(0,(Cc s.facts))],4,[(0,qreportR.length)],1⟩):=by
 obtain ⟨qn,h⟩:=Sg h
 exact (Ik qn) h
noncomputable def vD:Code:=AU Tryz.f13
theorem vA:Tryz.f13.body=some vD:=by kernel_rfl
noncomputable def CW  (source:Nd) (e:Nd):Option (ByteArray×(List Dg)):=cond (Bi source.kind 1) (cond (Bi e.kind 1) (some (ByteArray.empty,[(⟨1,e.att⟩:Dg)])) ((Dr source).bind fun y1=>cond y1 ((Dr e).bind fun y2=>cond y2 ((D5).bind fun y3=>(Dt source).bind fun y4=>(D2 y4 e []).bind fun (y5a,y5b)=>some (y5a,y5b)) (some (ByteArray.empty,[(⟨1,e.att⟩:Dg)]))) (some (ByteArray.empty,[(⟨1,e.att⟩:Dg)])))) (some (ByteArray.empty,[(⟨1,e.att⟩:Dg)]))
theorem Es   {source:Nd} {e:Nd} {yR:(ByteArray×(List Dg))} (h:CW  source e=some yR):Pure P G 13 [.agg (BA source),.agg (BA e)] (.Bq [.sc (.string yR.1),.sl .lost yR.2.length (rows JV yR.2)]):=by
 unfold CW at h
 refine BF Hd.mixed Hd.Ad (AF Tryz.func13 vA ?_) (Bd (AK.Gt source) (Bd (AK.Gt e) rfl)) (Bd rfl (Bd (B0.Hx yR.2) rfl))
 revert h
 refine Ae (fun hb1=>?_) fun hb1=>?_
 refine Ae (fun hb2=>?_) fun hb2=>?_
 intro h
 have hE:=Option.some.inj h
 subst hE
 exact AH (v:=.Bq [.sc (.string ByteArray.empty),.sl .full 1 [.sc (.int .i64 1),.sc (.int .i64 e.att)]]) _ _ (Ac 300 [pn hb1,pb hb2]) (by kernel_rfl) .body (.wn (.u (.r (.d (.r (.r .nil)) (B0.eq [(⟨1,e.att⟩:Dg)]).symm .nil)) .nil) (Bd rfl (Bd (B0.Hx [(⟨1,e.att⟩:Dg)]) rfl)))
 refine Ai fun y1 hy1=>?_
 let o1:List (PC P G):=[pn hb1,pb hb2,Aj (Ff hy1)]
 refine Ae (fun hv=>?_) fun hv=>?_
 subst hv
 refine Ai fun y2 hy2=>?_
 refine Ae (fun hv=>?_) fun hv=>?_
 subst hv
 refine Ai fun y3 hy3=>?_
 refine Ai fun y4 hy4=>?_
 refine Ai ?_
 rintro ⟨y5a,y5b⟩ hy5
 dsimp only
 intro h
 have hE:=Option.some.inj h
 subst hE
 exact AH (v:=.Bq [.sc (.string y5a),.sl (.row 0 2) y5b.length (rows JV y5b)]) _ _ (Ac 300 (o1++[Aj (Ff hy2),VP (v:=.Bq [.ptr 2 0,.fn (.func 54) [] [.ptr 2 0]]) (h:=[(2,.cells [.sl .full 0 []])] ) (F:=[]) (K1 (Js hy3) 2 0),wN [.b 2 0 2],oR,VP (v:=.agg [.mp 5,.mp 6,.mp 7]) (h:=[(7,(EL y4.AA)),(6,(Cc y4.lines)),(5,(Cc y4.facts))] ) (F:=[]) (L1 (JT hy4) 3 1),AO (Fx (IK hy5) 5 6 7 2 0)])) (by kernel_rfl) .body (.wn (.u (.r (.s rfl .nil)) .nil) (Bd rfl (Bd (B0.Hx y5b) rfl)))
 subst hv
 intro h
 have hE:=Option.some.inj h
 subst hE
 exact AH (v:=.Bq [.sc (.string ByteArray.empty),.sl .full 1 [.sc (.int .i64 1),.sc (.int .i64 e.att)]]) _ _ (Ac 300 (o1++[Aj (Ff hy2)])) (by kernel_rfl) .body (.wn (.u (.r (.d (.r (.r .nil)) (B0.eq [(⟨1,e.att⟩:Dg)]).symm .nil)) .nil) (Bd rfl (Bd (B0.Hx [(⟨1,e.att⟩:Dg)]) rfl)))
 subst hv
 intro h
 have hE:=Option.some.inj h
 subst hE
 exact AH (v:=.Bq [.sc (.string ByteArray.empty),.sl .full 1 [.sc (.int .i64 1),.sc (.int .i64 e.att)]]) _ _ (Ac 300 o1) (by kernel_rfl) .body (.wn (.u (.r (.d (.r (.r .nil)) (B0.eq [(⟨1,e.att⟩:Dg)]).symm .nil)) .nil) (Bd rfl (Bd (B0.Hx [(⟨1,e.att⟩:Dg)]) rfl)))
 intro h
 have hE:=Option.some.inj h
 subst hE
 exact AH (v:=.Bq [.sc (.string ByteArray.empty),.sl .full 1 [.sc (.int .i64 1),.sc (.int .i64 e.att)]]) _ _ (Ac 300 [pn hb1]) (by kernel_rfl) .body (.wn (.u (.r (.d (.r (.r .nil)) (B0.eq [(⟨1,e.att⟩:Dg)]).symm .nil)) .nil) (Bd rfl (Bd (B0.Hx [(⟨1,e.att⟩:Dg)]) rfl)))
noncomputable def pY:Code:=AU Tryz.f90
theorem yE:Tryz.f90.body=some pY:=by kernel_rfl
noncomputable def FV (DH:Nd→Int→Option Bool) (limit:Int) (i0:Nat) (e0:Nd) :Option (Lp Unit Unit Bool):=(DH e0 (P5 limit 1)).bind fun y1=>cond y1 (some (.nx ())) (some (.rt false))
noncomputable def GC (DH:Nd→Int→Option Bool) (n:Nd) (limit:Int):Option Bool:=cond (ES limit 1) (some false) ((JQ n.kids.length (Bb (fun i y x=>FV DH limit i y ) (fun x=>()) (n.kids.drop 0) 0 ())).bind (Kx (fun (_:Unit)=>some true) (fun v=>some v)))
theorem MA (DH:Nd→Int→Option Bool) (J2:∀ {n:Nd} {limit:Int} {yR:Bool},DH n limit=some yR→Pure P G 90 [.agg (BA n),.sc (.int .i64 limit)] (.sc (.bool yR))) {n:Nd} {limit:Int} {yR:Bool} (h:GC DH n limit=some yR):Pure P G 90 [.agg (BA n),.sc (.int .i64 limit)] (.sc (.bool yR)):=by
 unfold GC at h
 refine BF Hd.mixed Hd.Ad (AF Tryz.func90 yE ?_) (Bd (AK.Gt n) (Bd rfl rfl)) rfl
 revert h
 refine Ae (fun hb1=>?_) fun hb1=>?_
 rintro ⟨⟩
 exact rS (Ac 300 [pb hb1]) (by kernel_rfl)
 refine H7 (fun Q v=>Hf P Tryz.f90 0 Q (.sc (.bool v))) (fun i0 (_:Unit) (j0:List Value)=>fr 24 [(1,.sc (.int .i64 limit)),(2,.ptr 0 0),(5,.sc (.int .i64 ((i0:Nat):Int)))] [4,7,12,22,23] j0) (fun (_:Unit)=>⟨[(0,.cells (BA n))],1,[],0⟩) (fun (_:Unit) (jx:List Value)=>fr 24 [] [4,7,12,22,23] jx) (fun (_:Unit)=>⟨[(0,.cells (BA n))],1,[],0⟩) [.bool false,.bool false] (HH [] 0 (sb pY 116) [.code (sb pY 15)] (Ac 300 [pb hb1]) (by kernel_rfl)) ?_ ?_ ?_ (fun v h=>by cases h;exact .outer .body)
 rintro i0 ⟨⟩ j0 hge hq
 exact ED (Ac 300 [pb (On hge)]) (by kernel_rfl) (hq (js 5 j0 [(2,.bool false)]))
 rintro i0 e0 ⟨⟩ j0 r he0 hi0 mi0 k
 show FV DH limit i0 e0 =some r→_
 unfold FV
 refine Ai fun y1 hy1=>?_
 refine Ae (fun hv=>?_) fun hv=>?_
 subst hv
 rintro ⟨⟩
 exact Fy (Ac 300 [pb (JR hi0),Dh (Cp .lost he0),pk,Aj (J2 hy1),pi mi0]) (by kernel_rfl) (k [(jv j0 0),(jv j0 1),.bool true,.bool true,.bool false])
 subst hv
 rintro ⟨⟩
 exact AH _ _ (Ac 300 [pb (JR hi0),Dh (Cp .lost he0),pk,Aj (J2 hy1)]) (by kernel_rfl) (.GF k) .sc
 rintro ⟨⟩ jx_2
 intro h
 have hE:=Option.some.inj h
 subst hE
 exact AH _ _ (C2 300 []) (by kernel_rfl) .body .sc
noncomputable def De:Nat→Nd→Int→Option Bool
 | 0,_,_=>none
 | qn+1,n,limit=>GC (De qn) n limit
theorem Oi:∀ qn:Nat,∀ {n:Nd} {limit:Int} {yR:Bool},De qn n limit=some yR→Pure P G 90 [.agg (BA n),.sc (.int .i64 limit)] (.sc (.bool yR)):=by
 intro qn
 induction qn with
 | zero=>exact (fun h=>by simp only [De] at h;cases h)
 | succ qn ih=>exact (fun h=>MA (De qn) ih (by rw [De] at h;exact h))
noncomputable def Iy (n:Nd) (limit:Int):Option Bool:=Vf (fun qn=>De qn n limit)
theorem Ot {n:Nd} {limit:Int} {yR:Bool} (h:Iy n limit=some yR):Pure P G 90 [.agg (BA n),.sc (.int .i64 limit)] (.sc (.bool yR)):=by
 obtain ⟨qn,h⟩:=Sg h
 exact (Oi qn) h
noncomputable def wJ:Code:=AU Tryz.f63
theorem xH:Tryz.f63.body=some wJ:=by kernel_rfl
noncomputable def Fl  (n:Nd):Option Bool:=(CX n 2000).bind fun y1=>cond y1 ((Iy n 40).bind fun y2=>some y2) (some false)
theorem Ga   {n:Nd} {yR:Bool} (h:Fl  n=some yR):Pure P G 63 [.agg (BA n)] (.sc (.bool yR)):=by
 unfold Fl at h
 refine BF Hd.mixed Hd.Ad (AF Tryz.func63 xH ?_) (Bd (AK.Gt n) rfl) rfl
 revert h
 refine Ai fun y1 hy1=>?_
 refine Ae (fun hv=>?_) fun hv=>?_
 subst hv
 refine Ai fun y2 hy2=>?_
 intro h
 have hE:=Option.some.inj h
 subst hE
 exact rS (Ac 300 [Aj (DA hy1),Aj (Ot hy2)]) (by kernel_rfl)
 subst hv
 rintro ⟨⟩
 exact rS (Ac 300 [Aj (DA hy1)]) (by kernel_rfl)
noncomputable def wD:Code:=AU Tryz.f66
theorem XT:Tryz.f66.body=some wD:=by kernel_rfl
noncomputable def Cz  (n:Nd):Option Bool:=cond (BT n.name.data.toList ByteArray.empty.data.toList) (cond (BT n.unit.data.toList ByteArray.empty.data.toList) (cond (Bi n.n 0) (cond (Bi n.fr 0) (cond (Bi n.to 0) (cond (Bi n.known 0) (cond (Bi n.tab.den 0) (cond (Bi ((n.tab.ps.length:Nat):Int) 0) (some true) (some false)) (some false)) (some false)) (some false)) (some false)) (some false)) (some false)) (some false)
theorem EK   {n:Nd} {yR:Bool} (h:Cz  n=some yR):Pure P G 66 [.agg (BA n),.sc (.int .i64 32)] (.sc (.bool yR)):=by
 unfold Cz at h
 refine BF Hd.mixed Hd.Ad (AF Tryz.func66 XT ?_) (Bd (AK.Gt n) (Bd rfl rfl)) rfl
 revert h
 refine Ae (fun hb1=>?_) fun hb1=>?_
 let o1:List (PC P G):=[pk,pk,pb hb1,pk,pk]
 refine Ae (fun hb2=>?_) fun hb2=>?_
 let o2:List (PC P G):=o1++[pb hb2,pk,pk]
 refine Ae (fun hb3=>?_) fun hb3=>?_
 let o3:List (PC P G):=o2++[pb hb3,pk,pk]
 refine Ae (fun hb4=>?_) fun hb4=>?_
 refine Ae (fun hb5=>?_) fun hb5=>?_
 refine Ae (fun hb6=>?_) fun hb6=>?_
 refine Ae (fun hb7=>?_) fun hb7=>?_
 refine Ae (fun hb8=>?_) fun hb8=>?_
 rintro ⟨⟩
 exact rS (Ac 300 (o3++[pb hb4,pb hb5,pb hb6,pk,pk,pb hb7,pb hb8,pk,pk])) (by kernel_rfl)
 rintro ⟨⟩
 exact rS (Ac 300 (o3++[pb hb4,pb hb5,pb hb6,pk,pk,pb hb7,pb hb8])) (by kernel_rfl)
 rintro ⟨⟩
 exact rS (Ac 300 (o3++[pb hb4,pb hb5,pb hb6,pk,pk,pb hb7])) (by kernel_rfl)
 rintro ⟨⟩
 exact rS (Ac 300 (o3++[pb hb4,pb hb5,pb hb6])) (by kernel_rfl)
 rintro ⟨⟩
 exact rS (Ac 300 (o3++[pb hb4,pb hb5])) (by kernel_rfl)
 rintro ⟨⟩
 exact rS (Ac 300 (o3++[pb hb4])) (by kernel_rfl)
 rintro ⟨⟩
 exact rS (Ac 300 (o2++[pb hb3])) (by kernel_rfl)
 rintro ⟨⟩
 exact rS (Ac 300 (o1++[pb hb2])) (by kernel_rfl)
 rintro ⟨⟩
 exact rS (Ac 300 [pk,pk,pb hb1]) (by kernel_rfl)
noncomputable def Db  (n:Nd):Option Bool:=cond (BT n.name.data.toList ByteArray.empty.data.toList) (cond (Bi n.fr 0) (cond (Bi n.to 0) (cond (Bi n.known 0) (cond (Bi n.tab.den 0) (cond (Bi ((n.tab.ps.length:Nat):Int) 0) (cond (Bi ((n.kids.length:Nat):Int) 0) (some true) (some false)) (some false)) (some false)) (some false)) (some false)) (some false)) (some false)
theorem Ha   {n:Nd} {yR:Bool} (h:Db  n=some yR):Pure P G 66 [.agg (BA n),.sc (.int .i64 6)] (.sc (.bool yR)):=by
 unfold Db at h
 refine BF Hd.mixed Hd.Ad (AF Tryz.func66 XT ?_) (Bd (AK.Gt n) (Bd rfl rfl)) rfl
 revert h
 refine Ae (fun hb1=>?_) fun hb1=>?_
 let o1:List (PC P G):=[pk,pk,pb hb1,pk,pk,pk,pk,pk,pk]
 refine Ae (fun hb2=>?_) fun hb2=>?_
 refine Ae (fun hb3=>?_) fun hb3=>?_
 refine Ae (fun hb4=>?_) fun hb4=>?_
 let o2:List (PC P G):=o1++[pb hb2,pb hb3,pb hb4,pk,pk]
 refine Ae (fun hb5=>?_) fun hb5=>?_
 refine Ae (fun hb6=>?_) fun hb6=>?_
 refine Ae (fun hb7=>?_) fun hb7=>?_
 rintro ⟨⟩
 exact rS (Ac 300 (o2++[pb hb5,pb hb6,pk,pk,pb hb7])) (by kernel_rfl)
 rintro ⟨⟩
 exact rS (Ac 300 (o2++[pb hb5,pb hb6,pk,pk,pb hb7])) (by kernel_rfl)
 rintro ⟨⟩
 exact rS (Ac 300 (o2++[pb hb5,pb hb6])) (by kernel_rfl)
 rintro ⟨⟩
 exact rS (Ac 300 (o2++[pb hb5])) (by kernel_rfl)
 rintro ⟨⟩
 exact rS (Ac 300 (o1++[pb hb2,pb hb3,pb hb4])) (by kernel_rfl)
 rintro ⟨⟩
 exact rS (Ac 300 (o1++[pb hb2,pb hb3])) (by kernel_rfl)
 rintro ⟨⟩
 exact rS (Ac 300 (o1++[pb hb2])) (by kernel_rfl)
 rintro ⟨⟩
 exact rS (Ac 300 [pk,pk,pb hb1]) (by kernel_rfl)
noncomputable def Da  (n:Nd):Option Bool:=cond (BT n.unit.data.toList ByteArray.empty.data.toList) (cond (Bi n.n 0) (cond (Bi n.fr 0) (cond (Bi n.to 0) (cond (Bi n.known 0) (cond (Bi n.tab.den 0) (cond (Bi ((n.tab.ps.length:Nat):Int) 0) (cond (Bi ((n.kids.length:Nat):Int) 0) (some true) (some false)) (some false)) (some false)) (some false)) (some false)) (some false)) (some false)) (some false)
theorem DN   {n:Nd} {yR:Bool} (h:Da  n=some yR):Pure P G 66 [.agg (BA n),.sc (.int .i64 1)] (.sc (.bool yR)):=by
 unfold Da at h
 refine BF Hd.mixed Hd.Ad (AF Tryz.func66 XT ?_) (Bd (AK.Gt n) (Bd rfl rfl)) rfl
 revert h
 let o1:List (PC P G):=[pk,pk,pk,pk]
 refine Ae (fun hb1=>?_) fun hb1=>?_
 let o2:List (PC P G):=o1++[pb hb1,pk,pk]
 refine Ae (fun hb2=>?_) fun hb2=>?_
 let o3:List (PC P G):=o2++[pb hb2,pk,pk]
 refine Ae (fun hb3=>?_) fun hb3=>?_
 refine Ae (fun hb4=>?_) fun hb4=>?_
 refine Ae (fun hb5=>?_) fun hb5=>?_
 let o4:List (PC P G):=o3++[pb hb3,pb hb4,pb hb5,pk,pk]
 refine Ae (fun hb6=>?_) fun hb6=>?_
 refine Ae (fun hb7=>?_) fun hb7=>?_
 refine Ae (fun hb8=>?_) fun hb8=>?_
 rintro ⟨⟩
 exact rS (Ac 300 (o4++[pb hb6,pb hb7,pk,pk,pb hb8])) (by kernel_rfl)
 rintro ⟨⟩
 exact rS (Ac 300 (o4++[pb hb6,pb hb7,pk,pk,pb hb8])) (by kernel_rfl)
 rintro ⟨⟩
 exact rS (Ac 300 (o4++[pb hb6,pb hb7])) (by kernel_rfl)
 rintro ⟨⟩
 exact rS (Ac 300 (o4++[pb hb6])) (by kernel_rfl)
 rintro ⟨⟩
 exact rS (Ac 300 (o3++[pb hb3,pb hb4,pb hb5])) (by kernel_rfl)
 rintro ⟨⟩
 exact rS (Ac 300 (o3++[pb hb3,pb hb4])) (by kernel_rfl)
 rintro ⟨⟩
 exact rS (Ac 300 (o3++[pb hb3])) (by kernel_rfl)
 rintro ⟨⟩
 exact rS (Ac 300 (o2++[pb hb2])) (by kernel_rfl)
 rintro ⟨⟩
 exact rS (Ac 300 (o1++[pb hb1])) (by kernel_rfl)
noncomputable def DV  (n:Nd):Option Bool:=cond (BT n.name.data.toList ByteArray.empty.data.toList) (cond (BT n.unit.data.toList ByteArray.empty.data.toList) (cond (Bi n.fr 0) (cond (Bi n.to 0) (cond (Bi n.known 0) (cond (Bi n.tab.den 0) (cond (Bi ((n.tab.ps.length:Nat):Int) 0) (cond (Bi ((n.kids.length:Nat):Int) 0) (some true) (some false)) (some false)) (some false)) (some false)) (some false)) (some false)) (some false)) (some false)
theorem GS   {n:Nd} {yR:Bool} (h:DV  n=some yR):Pure P G 66 [.agg (BA n),.sc (.int .i64 4)] (.sc (.bool yR)):=by
 unfold DV at h
 refine BF Hd.mixed Hd.Ad (AF Tryz.func66 XT ?_) (Bd (AK.Gt n) (Bd rfl rfl)) rfl
 revert h
 refine Ae (fun hb1=>?_) fun hb1=>?_
 let o1:List (PC P G):=[pk,pk,pb hb1,pk,pk]
 refine Ae (fun hb2=>?_) fun hb2=>?_
 let o2:List (PC P G):=o1++[pb hb2,pk,pk,pk,pk]
 refine Ae (fun hb3=>?_) fun hb3=>?_
 refine Ae (fun hb4=>?_) fun hb4=>?_
 refine Ae (fun hb5=>?_) fun hb5=>?_
 let o3:List (PC P G):=o2++[pb hb3,pb hb4,pb hb5,pk,pk]
 refine Ae (fun hb6=>?_) fun hb6=>?_
 refine Ae (fun hb7=>?_) fun hb7=>?_
 refine Ae (fun hb8=>?_) fun hb8=>?_
 rintro ⟨⟩
 exact rS (Ac 300 (o3++[pb hb6,pb hb7,pk,pk,pb hb8])) (by kernel_rfl)
 rintro ⟨⟩
 exact rS (Ac 300 (o3++[pb hb6,pb hb7,pk,pk,pb hb8])) (by kernel_rfl)
 rintro ⟨⟩
 exact rS (Ac 300 (o3++[pb hb6,pb hb7])) (by kernel_rfl)
 rintro ⟨⟩
 exact rS (Ac 300 (o3++[pb hb6])) (by kernel_rfl)
 rintro ⟨⟩
 exact rS (Ac 300 (o2++[pb hb3,pb hb4,pb hb5])) (by kernel_rfl)
 rintro ⟨⟩
 exact rS (Ac 300 (o2++[pb hb3,pb hb4])) (by kernel_rfl)
 rintro ⟨⟩
 exact rS (Ac 300 (o2++[pb hb3])) (by kernel_rfl)
 rintro ⟨⟩
 exact rS (Ac 300 (o1++[pb hb2])) (by kernel_rfl)
 rintro ⟨⟩
 exact rS (Ac 300 [pk,pk,pb hb1]) (by kernel_rfl)
noncomputable def CZ  (n:Nd):Option Bool:=cond (BT n.unit.data.toList ByteArray.empty.data.toList) (cond (Bi n.n 0) (cond (Bi n.fr 0) (cond (Bi n.to 0) (cond (Bi n.known 0) (cond (Bi n.tab.den 0) (cond (Bi ((n.tab.ps.length:Nat):Int) 0) (some true) (some false)) (some false)) (some false)) (some false)) (some false)) (some false)) (some false)
theorem Gq   {n:Nd} {yR:Bool} (h:CZ  n=some yR):Pure P G 66 [.agg (BA n),.sc (.int .i64 33)] (.sc (.bool yR)):=by
 unfold CZ at h
 refine BF Hd.mixed Hd.Ad (AF Tryz.func66 XT ?_) (Bd (AK.Gt n) (Bd rfl rfl)) rfl
 revert h
 let o1:List (PC P G):=[pk,pk,pk,pk]
 refine Ae (fun hb1=>?_) fun hb1=>?_
 let o2:List (PC P G):=o1++[pb hb1,pk,pk]
 refine Ae (fun hb2=>?_) fun hb2=>?_
 let o3:List (PC P G):=o2++[pb hb2,pk,pk]
 refine Ae (fun hb3=>?_) fun hb3=>?_
 refine Ae (fun hb4=>?_) fun hb4=>?_
 refine Ae (fun hb5=>?_) fun hb5=>?_
 refine Ae (fun hb6=>?_) fun hb6=>?_
 refine Ae (fun hb7=>?_) fun hb7=>?_
 rintro ⟨⟩
 exact rS (Ac 300 (o3++[pb hb3,pb hb4,pb hb5,pk,pk,pb hb6,pb hb7,pk,pk])) (by kernel_rfl)
 rintro ⟨⟩
 exact rS (Ac 300 (o3++[pb hb3,pb hb4,pb hb5,pk,pk,pb hb6,pb hb7])) (by kernel_rfl)
 rintro ⟨⟩
 exact rS (Ac 300 (o3++[pb hb3,pb hb4,pb hb5,pk,pk,pb hb6])) (by kernel_rfl)
 rintro ⟨⟩
 exact rS (Ac 300 (o3++[pb hb3,pb hb4,pb hb5])) (by kernel_rfl)
 rintro ⟨⟩
 exact rS (Ac 300 (o3++[pb hb3,pb hb4])) (by kernel_rfl)
 rintro ⟨⟩
 exact rS (Ac 300 (o3++[pb hb3])) (by kernel_rfl)
 rintro ⟨⟩
 exact rS (Ac 300 (o2++[pb hb2])) (by kernel_rfl)
 rintro ⟨⟩
 exact rS (Ac 300 (o1++[pb hb1])) (by kernel_rfl)
noncomputable def Dv  (n:Nd):Option Bool:=cond (BT n.name.data.toList ByteArray.empty.data.toList) (cond (BT n.unit.data.toList ByteArray.empty.data.toList) (cond (Bi n.n 0) (cond (Bi n.fr 0) (cond (Bi n.to 0) (cond (Bi n.known 0) (some true) (some false)) (some false)) (some false)) (some false)) (some false)) (some false)
theorem J1   {n:Nd} {yR:Bool} (h:Dv  n=some yR):Pure P G 66 [.agg (BA n),.sc (.int .i64 48)] (.sc (.bool yR)):=by
 unfold Dv at h
 refine BF Hd.mixed Hd.Ad (AF Tryz.func66 XT ?_) (Bd (AK.Gt n) (Bd rfl rfl)) rfl
 revert h
 refine Ae (fun hb1=>?_) fun hb1=>?_
 let o1:List (PC P G):=[pk,pk,pb hb1,pk,pk]
 refine Ae (fun hb2=>?_) fun hb2=>?_
 refine Ae (fun hb3=>?_) fun hb3=>?_
 let o2:List (PC P G):=o1++[pb hb2,pk,pk,pb hb3,pk,pk]
 refine Ae (fun hb4=>?_) fun hb4=>?_
 refine Ae (fun hb5=>?_) fun hb5=>?_
 refine Ae (fun hb6=>?_) fun hb6=>?_
 rintro ⟨⟩
 exact rS (Ac 300 (o2++[pb hb4,pb hb5,pb hb6,pk,pk,pk,pk])) (by kernel_rfl)
 rintro ⟨⟩
 exact rS (Ac 300 (o2++[pb hb4,pb hb5,pb hb6])) (by kernel_rfl)
 rintro ⟨⟩
 exact rS (Ac 300 (o2++[pb hb4,pb hb5])) (by kernel_rfl)
 rintro ⟨⟩
 exact rS (Ac 300 (o2++[pb hb4])) (by kernel_rfl)
 rintro ⟨⟩
 exact rS (Ac 300 (o1++[pb hb2,pk,pk,pb hb3])) (by kernel_rfl)
 rintro ⟨⟩
 exact rS (Ac 300 (o1++[pb hb2])) (by kernel_rfl)
 rintro ⟨⟩
 exact rS (Ac 300 [pk,pk,pb hb1]) (by kernel_rfl)
noncomputable def Cl  (n:Nd):Option Bool:=cond (Bi n.n 0) (cond (Bi n.fr 0) (cond (Bi n.to 0) (cond (Bi n.known 0) (cond (Bi n.tab.den 0) (cond (Bi ((n.tab.ps.length:Nat):Int) 0) (cond (Bi ((n.kids.length:Nat):Int) 0) (some true) (some false)) (some false)) (some false)) (some false)) (some false)) (some false)) (some false)
theorem BG   {n:Nd} {yR:Bool} (h:Cl  n=some yR):Pure P G 66 [.agg (BA n),.sc (.int .i64 3)] (.sc (.bool yR)):=by
 unfold Cl at h
 refine BF Hd.mixed Hd.Ad (AF Tryz.func66 XT ?_) (Bd (AK.Gt n) (Bd rfl rfl)) rfl
 revert h
 let o1:List (PC P G):=[pk,pk,pk,pk,pk,pk]
 refine Ae (fun hb1=>?_) fun hb1=>?_
 let o2:List (PC P G):=o1++[pb hb1,pk,pk]
 refine Ae (fun hb2=>?_) fun hb2=>?_
 refine Ae (fun hb3=>?_) fun hb3=>?_
 refine Ae (fun hb4=>?_) fun hb4=>?_
 let o3:List (PC P G):=o2++[pb hb2,pb hb3,pb hb4,pk,pk]
 refine Ae (fun hb5=>?_) fun hb5=>?_
 refine Ae (fun hb6=>?_) fun hb6=>?_
 refine Ae (fun hb7=>?_) fun hb7=>?_
 rintro ⟨⟩
 exact rS (Ac 300 (o3++[pb hb5,pb hb6,pk,pk,pb hb7])) (by kernel_rfl)
 rintro ⟨⟩
 exact rS (Ac 300 (o3++[pb hb5,pb hb6,pk,pk,pb hb7])) (by kernel_rfl)
 rintro ⟨⟩
 exact rS (Ac 300 (o3++[pb hb5,pb hb6])) (by kernel_rfl)
 rintro ⟨⟩
 exact rS (Ac 300 (o3++[pb hb5])) (by kernel_rfl)
 rintro ⟨⟩
 exact rS (Ac 300 (o2++[pb hb2,pb hb3,pb hb4])) (by kernel_rfl)
 rintro ⟨⟩
 exact rS (Ac 300 (o2++[pb hb2,pb hb3])) (by kernel_rfl)
 rintro ⟨⟩
 exact rS (Ac 300 (o2++[pb hb2])) (by kernel_rfl)
 rintro ⟨⟩
 exact rS (Ac 300 (o1++[pb hb1])) (by kernel_rfl)
noncomputable def Cm  (n:Nd):Option Bool:=cond (Bi n.fr 0) (cond (Bi n.to 0) (cond (Bi n.known 0) (cond (Bi n.tab.den 0) (cond (Bi ((n.tab.ps.length:Nat):Int) 0) (cond (Bi ((n.kids.length:Nat):Int) 0) (some true) (some false)) (some false)) (some false)) (some false)) (some false)) (some false)
theorem B2   {n:Nd} {yR:Bool} (h:Cm  n=some yR):Pure P G 66 [.agg (BA n),.sc (.int .i64 7)] (.sc (.bool yR)):=by
 unfold Cm at h
 refine BF Hd.mixed Hd.Ad (AF Tryz.func66 XT ?_) (Bd (AK.Gt n) (Bd rfl rfl)) rfl
 revert h
 let o1:List (PC P G):=[pk,pk,pk,pk,pk,pk,pk,pk]
 refine Ae (fun hb1=>?_) fun hb1=>?_
 refine Ae (fun hb2=>?_) fun hb2=>?_
 refine Ae (fun hb3=>?_) fun hb3=>?_
 let o2:List (PC P G):=o1++[pb hb1,pb hb2,pb hb3,pk,pk]
 refine Ae (fun hb4=>?_) fun hb4=>?_
 refine Ae (fun hb5=>?_) fun hb5=>?_
 refine Ae (fun hb6=>?_) fun hb6=>?_
 rintro ⟨⟩
 exact rS (Ac 300 (o2++[pb hb4,pb hb5,pk,pk,pb hb6])) (by kernel_rfl)
 rintro ⟨⟩
 exact rS (Ac 300 (o2++[pb hb4,pb hb5,pk,pk,pb hb6])) (by kernel_rfl)
 rintro ⟨⟩
 exact rS (Ac 300 (o2++[pb hb4,pb hb5])) (by kernel_rfl)
 rintro ⟨⟩
 exact rS (Ac 300 (o2++[pb hb4])) (by kernel_rfl)
 rintro ⟨⟩
 exact rS (Ac 300 (o1++[pb hb1,pb hb2,pb hb3])) (by kernel_rfl)
 rintro ⟨⟩
 exact rS (Ac 300 (o1++[pb hb1,pb hb2])) (by kernel_rfl)
 rintro ⟨⟩
 exact rS (Ac 300 (o1++[pb hb1])) (by kernel_rfl)
noncomputable def B7  (n:Nd):Option Bool:=cond (BT n.unit.data.toList ByteArray.empty.data.toList) (cond (Bi n.fr 0) (cond (Bi n.to 0) (cond (Bi n.known 0) (cond (Bi n.tab.den 0) (cond (Bi ((n.tab.ps.length:Nat):Int) 0) (some true) (some false)) (some false)) (some false)) (some false)) (some false)) (some false)
theorem Dm   {n:Nd} {yR:Bool} (h:B7  n=some yR):Pure P G 66 [.agg (BA n),.sc (.int .i64 37)] (.sc (.bool yR)):=by
 unfold B7 at h
 refine BF Hd.mixed Hd.Ad (AF Tryz.func66 XT ?_) (Bd (AK.Gt n) (Bd rfl rfl)) rfl
 revert h
 let o1:List (PC P G):=[pk,pk,pk,pk]
 refine Ae (fun hb1=>?_) fun hb1=>?_
 let o2:List (PC P G):=o1++[pb hb1,pk,pk,pk,pk]
 refine Ae (fun hb2=>?_) fun hb2=>?_
 refine Ae (fun hb3=>?_) fun hb3=>?_
 refine Ae (fun hb4=>?_) fun hb4=>?_
 refine Ae (fun hb5=>?_) fun hb5=>?_
 refine Ae (fun hb6=>?_) fun hb6=>?_
 rintro ⟨⟩
 exact rS (Ac 300 (o2++[pb hb2,pb hb3,pb hb4,pk,pk,pb hb5,pb hb6,pk,pk])) (by kernel_rfl)
 rintro ⟨⟩
 exact rS (Ac 300 (o2++[pb hb2,pb hb3,pb hb4,pk,pk,pb hb5,pb hb6])) (by kernel_rfl)
 rintro ⟨⟩
 exact rS (Ac 300 (o2++[pb hb2,pb hb3,pb hb4,pk,pk,pb hb5])) (by kernel_rfl)
 rintro ⟨⟩
 exact rS (Ac 300 (o2++[pb hb2,pb hb3,pb hb4])) (by kernel_rfl)
 rintro ⟨⟩
 exact rS (Ac 300 (o2++[pb hb2,pb hb3])) (by kernel_rfl)
 rintro ⟨⟩
 exact rS (Ac 300 (o2++[pb hb2])) (by kernel_rfl)
 rintro ⟨⟩
 exact rS (Ac 300 (o1++[pb hb1])) (by kernel_rfl)
noncomputable def Dx  (n:Nd):Option Bool:=cond (BT n.name.data.toList ByteArray.empty.data.toList) (cond (BT n.unit.data.toList ByteArray.empty.data.toList) (cond (Bi n.tab.den 0) (cond (Bi ((n.tab.ps.length:Nat):Int) 0) (cond (Bi ((n.kids.length:Nat):Int) 0) (some true) (some false)) (some false)) (some false)) (some false)) (some false)
theorem JZ   {n:Nd} {yR:Bool} (h:Dx  n=some yR):Pure P G 66 [.agg (BA n),.sc (.int .i64 12)] (.sc (.bool yR)):=by
 unfold Dx at h
 refine BF Hd.mixed Hd.Ad (AF Tryz.func66 XT ?_) (Bd (AK.Gt n) (Bd rfl rfl)) rfl
 revert h
 refine Ae (fun hb1=>?_) fun hb1=>?_
 let o1:List (PC P G):=[pk,pk,pb hb1,pk,pk]
 refine Ae (fun hb2=>?_) fun hb2=>?_
 let o2:List (PC P G):=o1++[pb hb2,pk,pk,pk,pk,pk,pk]
 refine Ae (fun hb3=>?_) fun hb3=>?_
 refine Ae (fun hb4=>?_) fun hb4=>?_
 refine Ae (fun hb5=>?_) fun hb5=>?_
 rintro ⟨⟩
 exact rS (Ac 300 (o2++[pb hb3,pb hb4,pk,pk,pb hb5])) (by kernel_rfl)
 rintro ⟨⟩
 exact rS (Ac 300 (o2++[pb hb3,pb hb4,pk,pk,pb hb5])) (by kernel_rfl)
 rintro ⟨⟩
 exact rS (Ac 300 (o2++[pb hb3,pb hb4])) (by kernel_rfl)
 rintro ⟨⟩
 exact rS (Ac 300 (o2++[pb hb3])) (by kernel_rfl)
 rintro ⟨⟩
 exact rS (Ac 300 (o1++[pb hb2])) (by kernel_rfl)
 rintro ⟨⟩
 exact rS (Ac 300 [pk,pk,pb hb1]) (by kernel_rfl)
noncomputable def wH:Code:=AU Tryz.f91
theorem xG:Tryz.f91.body=some wH:=by kernel_rfl
noncomputable def AG  (n:Int) (low:Int) (high:Int):Option Bool:=cond (J0 low n) (cond (J0 n high) (some true) (some false)) (some false)
theorem Ao   {n:Int} {low:Int} {high:Int} {yR:Bool} (h:AG  n low high=some yR):Pure P G 91 [.sc (.int .i64 n),.sc (.int .i64 low),.sc (.int .i64 high)] (.sc (.bool yR)):=by
 unfold AG at h
 refine BF Hd.mixed Hd.Ad (AF Tryz.func91 xG ?_) (Bd rfl (Bd rfl (Bd rfl rfl))) rfl
 revert h
 refine Ae (fun hb1=>?_) fun hb1=>?_
 refine Ae (fun hb2=>?_) fun hb2=>?_
 rintro ⟨⟩
 exact rS (Ac 300 [pb hb1,pb hb2]) (by kernel_rfl)
 rintro ⟨⟩
 exact rS (Ac 300 [pb hb1,pb hb2]) (by kernel_rfl)
 rintro ⟨⟩
 exact rS (Ac 300 [pb hb1]) (by kernel_rfl)
noncomputable def rH:Code:=AU Tryz.f117
theorem qG:Tryz.f117.body=some rH:=by kernel_rfl
noncomputable def Dk  (c:Int):Option Bool:=cond (J0 65 c) (cond (J0 c 90) (some true) (some false)) (some false)
theorem Eu   {c:Int} {yR:Bool} (h:Dk  c=some yR):Pure P G 117 [.sc (.int .u8 c)] (.sc (.bool yR)):=by
 unfold Dk at h
 refine BF Hd.mixed Hd.Ad (AF Tryz.func117 qG ?_) (Bd rfl rfl) rfl
 revert h
 refine Ae (fun hb1=>?_) fun hb1=>?_
 refine Ae (fun hb2=>?_) fun hb2=>?_
 rintro ⟨⟩
 exact rS (Ac 300 [pb hb1,pb hb2]) (by kernel_rfl)
 rintro ⟨⟩
 exact rS (Ac 300 [pb hb1,pb hb2]) (by kernel_rfl)
 rintro ⟨⟩
 exact rS (Ac 300 [pb hb1]) (by kernel_rfl)
noncomputable def xB:Code:=AU Tryz.f92
theorem wO:Tryz.f92.body=some xB:=by kernel_rfl
noncomputable def Eg  (s:ByteArray):Option Bool:=cond (Bi ((s.data.toList.length:Nat):Int) 3) ((s.data.toList[0]?).bind fun c1=>(Dk ((c1.toNat:Nat):Int)).bind fun y2=>cond y2 ((s.data.toList[1]?).bind fun c3=>(Dk ((c3.toNat:Nat):Int)).bind fun y4=>cond y4 ((s.data.toList[2]?).bind fun c5=>(Dk ((c5.toNat:Nat):Int)).bind fun y6=>some y6) (some false)) (some false)) (some false)
theorem Fe   {s:ByteArray} {yR:Bool} (h:Eg  s=some yR):Pure P G 92 [.sc (.string s)] (.sc (.bool yR)):=by
 unfold Eg at h
 refine BF Hd.mixed Hd.Ad (AF Tryz.func92 wO ?_) (Bd rfl rfl) rfl
 revert h
 refine Ae (fun hb1=>?_) fun hb1=>?_
 refine Ai fun c1 hc1=>?_
 refine Ai fun y2 hy2=>?_
 let o1:List (PC P G):=[pb hb1,Pz (IG hc1),Aj (Eu hy2)]
 refine Ae (fun hv=>?_) fun hv=>?_
 subst hv
 refine Ai fun c3 hc3=>?_
 refine Ai fun y4 hy4=>?_
 refine Ae (fun hv=>?_) fun hv=>?_
 subst hv
 refine Ai fun c5 hc5=>?_
 refine Ai fun y6 hy6=>?_
 intro h
 have hE:=Option.some.inj h
 subst hE
 exact rS (Ac 300 (o1++[Pz (IG hc3),Aj (Eu hy4),Pz (IG hc5),Aj (Eu hy6)])) (by kernel_rfl)
 subst hv
 rintro ⟨⟩
 exact rS (Ac 300 (o1++[Pz (IG hc3),Aj (Eu hy4)])) (by kernel_rfl)
 subst hv
 rintro ⟨⟩
 exact rS (Ac 300 o1) (by kernel_rfl)
 rintro ⟨⟩
 exact rS (Ac 300 [pb hb1]) (by kernel_rfl)
noncomputable def rQ:Code:=AU Tryz.f94
theorem wE:Tryz.f94.body=some rQ:=by kernel_rfl
noncomputable def Hq  (s:ByteArray) (i0:Nat) (e0:ByteArray) :Option (Lp Unit Unit Bool):=cond (BT e0.data.toList s.data.toList) (some (.rt true)) (some (.nx ()))
noncomputable def Em  (l:(List ByteArray)) (s:ByteArray):Option Bool:=(JQ l.length (Bb (fun i y x=>Hq  s i y ) (fun x=>()) (l.drop 0) 0 ())).bind (Kx (fun (_:Unit)=>some false) (fun v=>some v))
theorem ET   {l:(List ByteArray)} {s:ByteArray} {yR:Bool} (h:Em  l s=some yR):Pure P G 94 [.sl .lost l.length (rows Jf l),.sc (.string s)] (.sc (.bool yR)):=by
 unfold Em at h
 refine BF Hd.mixed Hd.Ad (AF Tryz.func94 wE ?_) (Bd (AW.Hx l) (Bd rfl rfl)) rfl
 revert h
 refine H7 (fun Q v=>Hf P Tryz.f94 0 Q (.sc (.bool v))) (fun i0 (_:Unit) (j0:List Value)=>fr 18 [(0,.sl .lost l.length (rows Jf l)),(1,.sc (.string s)),(5,.sc (.int .i64 ((i0:Nat):Int)))] [4,9,17] j0) (fun (_:Unit)=>⟨[],0,[],0⟩) (fun (_:Unit) (jx:List Value)=>fr 18 [] [4,9,17] jx) (fun (_:Unit)=>⟨[],0,[],0⟩) [.bool false] (HH [] 0 (sb rQ 52) [.code (sb rQ 7)] (Ac 300 []) (by kernel_rfl)) ?_ ?_ ?_ (fun v h=>by cases h;exact .outer .body)
 rintro i0 ⟨⟩ j0 hge hq
 exact ED (Ac 300 [pb (On hge)]) (by kernel_rfl) (hq (js 3 j0 [(1,.bool false)]))
 rintro i0 e0 ⟨⟩ j0 r he0 hi0 mi0 k
 show Hq  s i0 e0 =some r→_
 unfold Hq
 refine Ae (fun hb1=>?_) fun hb1=>?_
 rintro ⟨⟩
 exact AH _ _ (Ac 300 [pb (JR hi0),Dh (nB .lost he0),pb hb1]) (by kernel_rfl) (.GF k) .sc
 rintro ⟨⟩
 exact Fy (Ac 300 [pb (JR hi0),Dh (nB .lost he0),pb hb1,pi mi0]) (by kernel_rfl) (k [(jv j0 0),.bool true,.bool false])
 rintro ⟨⟩ jx_1
 intro h
 have hE:=Option.some.inj h
 subst hE
 exact AH _ _ (C2 300 []) (by kernel_rfl) .body .sc
noncomputable def qI:Code:=AU Tryz.f118
theorem rM:Tryz.f118.body=some qI:=by kernel_rfl
noncomputable def DY  (c:Int):Option Bool:=cond (J0 97 c) (cond (J0 c 122) (some true) (some false)) (some false)
theorem Ih   {c:Int} {yR:Bool} (h:DY  c=some yR):Pure P G 118 [.sc (.int .u8 c)] (.sc (.bool yR)):=by
 unfold DY at h
 refine BF Hd.mixed Hd.Ad (AF Tryz.func118 rM ?_) (Bd rfl rfl) rfl
 revert h
 refine Ae (fun hb1=>?_) fun hb1=>?_
 refine Ae (fun hb2=>?_) fun hb2=>?_
 rintro ⟨⟩
 exact rS (Ac 300 [pb hb1,pb hb2]) (by kernel_rfl)
 rintro ⟨⟩
 exact rS (Ac 300 [pb hb1,pb hb2]) (by kernel_rfl)
 rintro ⟨⟩
 exact rS (Ac 300 [pb hb1]) (by kernel_rfl)
noncomputable def pG:Code:=AU Tryz.f119
theorem rX:Tryz.f119.body=some pG:=by kernel_rfl
noncomputable def GB  :Option (List ByteArray):=some [OP,OI,Ie,UD,OY,O1,jX,LD,OX,JG,JP,A4,Bw,Cw,T3,OW,JM,LY,Pv,QT,Hc,Ub,RE,OU,L2,Ut,DU,My,Gb,IQ,FJ,Dz,L0]
theorem IT    {yR:(List ByteArray)} (h:GB  =some yR):Pure P G 119 [] (.sl .lost yR.length (rows Jf yR)):=by
 unfold GB at h
 refine BF Hd.mixed Hd.Ad (AF Tryz.func119 rX ?_) rfl (AW.Hx yR)
 revert h
 intro h
 have hE:=Option.some.inj h
 subst hE
 exact AH (v:=.sl .full 33 (.sc (.string OP)::.sc (.string OI)::.sc (.string Ie)::.sc (.string UD)::.sc (.string OY)::.sc (.string O1)::.sc (.string jX)::.sc (.string LD)::.sc (.string OX)::.sc (.string JG)::.sc (.string JP)::.sc (.string A4)::.sc (.string Bw)::.sc (.string Cw)::.sc (.string T3)::.sc (.string OW)::.sc (.string JM)::.sc (.string LY)::.sc (.string Pv)::.sc (.string QT)::.sc (.string Hc)::.sc (.string Ub)::.sc (.string RE)::.sc (.string OU)::.sc (.string L2)::.sc (.string Ut)::.sc (.string DU)::.sc (.string My)::.sc (.string Gb)::.sc (.string IQ)::.sc (.string FJ)::.sc (.string Dz)::.sc (.string L0)::[])) _ _ (Ac 300 []) (by kernel_rfl) .body (.wn (.d (.r (.r (.r (.r (.r (.r (.r (.r (.r (.r (.r (.r (.r (.r (.r (.r (.r (.r (.r (.r (.r (.r (.r (.r (.r (.r (.r (.r (.r (.r (.r (.r (.r .nil))))))))))))))))))))))))))))))))) (AW.eq [OP,OI,Ie,UD,OY,O1,jX,LD,OX,JG,JP,A4,Bw,Cw,T3,OW,JM,LY,Pv,QT,Hc,Ub,RE,OU,L2,Ut,DU,My,Gb,IQ,FJ,Dz,L0]).symm .nil) (AW.Hx [OP,OI,Ie,UD,OY,O1,jX,LD,OX,JG,JP,A4,Bw,Cw,T3,OW,JM,LY,Pv,QT,Hc,Ub,RE,OU,L2,Ut,DU,My,Gb,IQ,FJ,Dz,L0]))
noncomputable def rR:Code:=AU Tryz.f120
theorem pT:Tryz.f120.body=some rR:=by kernel_rfl
noncomputable def ER  (c:Int):Option Bool:=cond (J0 48 c) (cond (J0 c 57) (some true) (some false)) (some false)
theorem LF   {c:Int} {yR:Bool} (h:ER  c=some yR):Pure P G 120 [.sc (.int .u8 c)] (.sc (.bool yR)):=by
 unfold ER at h
 refine BF Hd.mixed Hd.Ad (AF Tryz.func120 pT ?_) (Bd rfl rfl) rfl
 revert h
 refine Ae (fun hb1=>?_) fun hb1=>?_
 refine Ae (fun hb2=>?_) fun hb2=>?_
 rintro ⟨⟩
 exact rS (Ac 300 [pb hb1,pb hb2]) (by kernel_rfl)
 rintro ⟨⟩
 exact rS (Ac 300 [pb hb1,pb hb2]) (by kernel_rfl)
 rintro ⟨⟩
 exact rS (Ac 300 [pb hb1]) (by kernel_rfl)
noncomputable def rK:Code:=AU Tryz.f93
theorem u4:Tryz.f93.body=some rK:=by kernel_rfl
noncomputable def FT   (i0:Nat) (e0:UInt8) :Option (Lp Unit Unit Bool):=(DY ((e0.toNat:Nat):Int)).bind fun y5=>cond y5 (some (.nx ())) ((ER ((e0.toNat:Nat):Int)).bind fun y6=>cond y6 (some (.nx ())) (cond (Bi ((e0.toNat:Nat):Int) 95) (some (.nx ())) (some (.rt false))))
noncomputable def Et  (s:ByteArray):Option Bool:=cond (ES ((s.data.toList.length:Nat):Int) 1) (some false) (cond (ES 16 ((s.data.toList.length:Nat):Int)) (some false) ((s.data.toList[0]?).bind fun c1=>(DY ((c1.toNat:Nat):Int)).bind fun y2=>cond y2 ((GB).bind fun y3=>(Em y3 s).bind fun y4=>cond y4 (some false) ((JQ s.data.toList.length (Bb (fun i y x=>FT   i y ) (fun x=>()) (s.data.toList.drop 0) 0 ())).bind (Kx (fun (_:Unit)=>some true) (fun v=>some v)))) (some false)))
theorem IW   {s:ByteArray} {yR:Bool} (h:Et  s=some yR):Pure P G 93 [.sc (.string s)] (.sc (.bool yR)):=by
 unfold Et at h
 refine BF Hd.mixed Hd.Ad (AF Tryz.func93 u4 ?_) (Bd rfl rfl) rfl
 revert h
 refine Ae (fun hb1=>?_) fun hb1=>?_
 rintro ⟨⟩
 exact rS (Ac 300 [pb hb1]) (by kernel_rfl)
 refine Ae (fun hb2=>?_) fun hb2=>?_
 rintro ⟨⟩
 exact rS (Ac 300 [pb hb1,pb hb2]) (by kernel_rfl)
 refine Ai fun c1 hc1=>?_
 refine Ai fun y2 hy2=>?_
 let o1:List (PC P G):=[pb hb1,pb hb2,Pz (IG hc1),Aj (Ih hy2)]
 refine Ae (fun hv=>?_) fun hv=>?_
 subst hv
 refine Ai fun y3 hy3=>?_
 refine Ai fun y4 hy4=>?_
 refine Ae (fun hv=>?_) fun hv=>?_
 subst hv
 rintro ⟨⟩
 exact rS (Ac 300 (o1++[Aj (IT hy3),Aj (ET hy4)])) (by kernel_rfl)
 subst hv
 refine H7 (fun Q v=>Hf P Tryz.f93 0 Q (.sc (.bool v))) (fun i0 (_:Unit) (j0:List Value)=>fr 47 [(0,.sc (.string s)),(3,.sc (.int .i64 ((i0:Nat):Int)))] [2,6,7,10,11,12,15,16,17,18,21,22,26,32,33,34,38,39,40,41,45,46] j0) (fun (_:Unit)=>⟨[],0,[],0⟩) (fun (_:Unit) (jx:List Value)=>fr 47 [] [2,6,7,10,11,12,15,16,17,18,21,22,26,32,33,34,38,39,40,41,45,46] jx) (fun (_:Unit)=>⟨[],0,[],0⟩) [.bool false,.bool false,.bool false,.bool false,.bool false,.bool false,.bool true,.bool false,.bool false,.bool false,.bool false,.bool false] (HH [] 0 (sb rK 116) [.code (sb rK 15)] (Ac 300 (o1++[Aj (IT hy3),Aj (ET hy4)])) (by kernel_rfl)) ?_ ?_ ?_ (fun v h=>by cases h;exact .outer .body)
 rintro i0 ⟨⟩ j0 hge hq
 exact ED (Ac 300 [pb (On hge)]) (by kernel_rfl) (hq (js 22 j0 [(12,.bool false)]))
 rintro i0 e0 ⟨⟩ j0 r he0 hi0 mi0 k
 show FT   i0 e0 =some r→_
 unfold FT
 refine Ai fun y5 hy5=>?_
 let o2:List (PC P G):=[pb (JR hi0),Pz (IG he0),Aj (Ih hy5)]
 refine Ae (fun hv=>?_) fun hv=>?_
 subst hv
 rintro ⟨⟩
 exact Fy (Ac 300 (o2++[pi mi0])) (by kernel_rfl) (k (js 22 j0 [(12,.bool true),(13,.bool true),(14,.bool false),(15,.bool false),(16,undef),(17,undef),(18,.bool false),(19,.bool false),(20,undef),(21,.bool false)]))
 subst hv
 refine Ai fun y6 hy6=>?_
 let o3:List (PC P G):=o2++[Pz (IG he0),Aj (LF hy6)]
 refine Ae (fun hv=>?_) fun hv=>?_
 subst hv
 rintro ⟨⟩
 exact Fy (Ac 300 (o3++[pi mi0])) (by kernel_rfl) (k (js 22 j0 [(12,.bool true),(13,.bool false),(14,.bool true),(15,.bool true),(16,.bool true),(17,.bool false),(18,.bool false),(19,.bool false),(20,undef),(21,.bool false)]))
 subst hv
 refine Ae (fun hb3=>?_) fun hb3=>?_
 rintro ⟨⟩
 exact Fy (Ac 300 (o3++[Pz (IG he0),pn hb3,pi mi0])) (by kernel_rfl) (k (js 22 j0 [(12,.bool true),(13,.bool false),(14,.bool true),(15,.bool true),(16,.bool false),(17,.bool true),(18,.bool true),(19,.bool true),(20,.bool false),(21,.bool false)]))
 rintro ⟨⟩
 exact AH _ _ (Ac 300 (o3++[Pz (IG he0),pn hb3])) (by kernel_rfl) (.GF k) .sc
 rintro ⟨⟩ jx_7
 intro h
 have hE:=Option.some.inj h
 subst hE
 exact AH _ _ (C2 300 []) (by kernel_rfl) .body .sc
 subst hv
 rintro ⟨⟩
 exact rS (Ac 300 o1) (by kernel_rfl)
noncomputable def vS:Code:=AU Tryz.f95
theorem vX:Tryz.f95.body=some vS:=by kernel_rfl
noncomputable def Dw  (n:Nd):Option Bool:=cond (Bi n.kind 11) ((Db n).bind fun y1=>cond y1 (cond (BT n.unit.data.toList Bw.data.toList) ((AG n.n 1 1000000).bind fun y2=>some y2) (some false)) (some false)) (some false)
theorem Fp   {n:Nd} {yR:Bool} (h:Dw  n=some yR):Pure P G 95 [.agg (BA n)] (.sc (.bool yR)):=by
 unfold Dw at h
 refine BF Hd.mixed Hd.Ad (AF Tryz.func95 vX ?_) (Bd (AK.Gt n) rfl) rfl
 revert h
 refine Ae (fun hb1=>?_) fun hb1=>?_
 refine Ai fun y1 hy1=>?_
 let o1:List (PC P G):=[pb hb1,Aj (Ha hy1)]
 refine Ae (fun hv=>?_) fun hv=>?_
 subst hv
 refine Ae (fun hb2=>?_) fun hb2=>?_
 refine Ai fun y2 hy2=>?_
 intro h
 have hE:=Option.some.inj h
 subst hE
 exact rS (Ac 300 (o1++[pb hb2,Aj (Ao hy2)])) (by kernel_rfl)
 rintro ⟨⟩
 exact rS (Ac 300 (o1++[pb hb2])) (by kernel_rfl)
 subst hv
 rintro ⟨⟩
 exact rS (Ac 300 o1) (by kernel_rfl)
 rintro ⟨⟩
 exact rS (Ac 300 [pb hb1]) (by kernel_rfl)
noncomputable def r5:Code:=AU Tryz.f97
theorem xN:Tryz.f97.body=some r5:=by kernel_rfl
noncomputable def Fk  (f:Fn) (i0:Nat) (e0:Pc) :Option (Lp Unit Unit Bool):=(LS e0.att f.den).bind fun z3=>cond (Bi z3 0) ((Wp e0.att f.den).bind fun z4=>(AG z4 (-999999999999) 999999999999).bind fun y5=>cond y5 ((AG e0.slope (-1000000) 1000000).bind fun y6=>cond y6 (cond (ES 999999999999 e0.fr) (some (.rt false)) (cond (Bi ((i0:Nat):Int) 0) (cond (Bi e0.fr 0) (some (.nx ())) (some (.rt false))) (cond (ES 0 ((i0:Nat):Int)) ((LP f.ps (P5 ((i0:Nat):Int) 1)).bind fun x7=>cond (J0 e0.fr x7.fr) (some (.rt false)) (some (.nx ()))) (some (.nx ()))))) (some (.rt false))) (some (.rt false))) (some (.rt false))
noncomputable def EO  (f:Fn):Option Bool:=(AG f.den 1 1000000).bind fun y1=>cond y1 ((AG ((f.ps.length:Nat):Int) 1 64).bind fun y2=>cond y2 ((JQ f.ps.length (Bb (fun i y x=>Fk  f i y ) (fun x=>()) (f.ps.drop 0) 0 ())).bind (Kx (fun (_:Unit)=>some true) (fun v=>some v))) (some false)) (some false)
theorem LI   {f:Fn} {yR:Bool} (h:EO  f=some yR):Pure P G 97 [.agg (Ve f)] (.sc (.bool yR)):=by
 unfold EO at h
 refine BF Hd.mixed Hd.Ad (AF Tryz.func97 xN ?_) (Bd (NL.Gt f) rfl) rfl
 revert h
 refine Ai fun y1 hy1=>?_
 refine Ae (fun hv=>?_) fun hv=>?_
 subst hv
 refine Ai fun y2 hy2=>?_
 refine Ae (fun hv=>?_) fun hv=>?_
 subst hv
 refine H7 (fun Q v=>Hf P Tryz.f97 0 Q (.sc (.bool v))) (fun i0 (_:Unit) (j0:List Value)=>fr 79 [(1,.ptr 0 0),(3,.sc (.int .i64 ((i0:Nat):Int)))] [2,7,8,9,13,14,15,20,33,34,40,41,42,43,46,47,48,49,52,53,54,56,57,60,61,62,63,65,66,76,77,78] j0) (fun (_:Unit)=>⟨[(0,.cells (Ve f))],1,[],0⟩) (fun (_:Unit) (jx:List Value)=>fr 79 [] [2,7,8,9,13,14,15,20,33,34,40,41,42,43,46,47,48,49,52,53,54,56,57,60,61,62,63,65,66,76,77,78] jx) (fun (_:Unit)=>⟨[(0,.cells (Ve f))],1,[],0⟩) [.bool false,.bool true,.bool false,.bool false,.bool true,.bool false,.bool false] (HH [] 0 (sb r5 116) [.code (sb r5 15)] (Ac 300 [Aj (Ao hy1),Aj (Ao hy2)]) (by kernel_rfl)) ?_ ?_ ?_ (fun v h=>by cases h;exact .outer .body)
 rintro i0 ⟨⟩ j0 hge hq
 exact ED (Ac 300 [pb (On hge)]) (by kernel_rfl) (hq (js 32 j0 [(7,.bool false)]))
 rintro i0 e0 ⟨⟩ j0 r he0 hi0 mi0 k
 show Fk  f i0 e0 =some r→_
 unfold Fk
 refine Ai fun z3 hz3=>?_
 let o1:List (PC P G):=[pb (JR hi0),Dh (Qz .lost he0),Kl (MQ hz3 (.tmp 29) (.tmp 31))]
 refine Ae (fun hb1=>?_) fun hb1=>?_
 refine Ai fun z4 hz4=>?_
 refine Ai fun y5 hy5=>?_
 let o2:List (PC P G):=o1++[pn hb1,Kl (YR hz4 (.tmp 36) (.tmp 38)),Aj (Ao hy5)]
 refine Ae (fun hv=>?_) fun hv=>?_
 subst hv
 refine Ai fun y6 hy6=>?_
 let o3:List (PC P G):=o2++[Aj (Ao hy6)]
 refine Ae (fun hv=>?_) fun hv=>?_
 subst hv
 refine Ae (fun hb2=>?_) fun hb2=>?_
 rintro ⟨⟩
 exact AH _ _ (Ac 300 (o3++[pb hb2])) (by kernel_rfl) (.GF k) .sc
 refine Ae (fun hb3=>?_) fun hb3=>?_
 refine Ae (fun hb4=>?_) fun hb4=>?_
 rintro ⟨⟩
 exact EG Hd.Ad [] [bp (NL.pl f)] (Ac 300 (o3++[pb hb2,pb hb3,pn hb4,pb (B:=ES 0 ((i0:Nat):Int)) (b:=false) (cK (by have:=Me hb3;omega)),pi mi0])) (by kernel_rfl) (k [(jv j0 0),(jv j0 1),(jv j0 2),(jv j0 3),(jv j0 4),(jv j0 5),(jv j0 6),.bool true,.bool false,.bool false,.bool true,.bool false,.bool false,.bool false,.bool true,.bool false,.bool false,.bool false,.bool false,.bool false,.bool false,.bool true,.bool true,.bool false,.bool false,.bool false,.bool false,.bool false,.bool false,undef,.bool false,.bool false])
 rintro ⟨⟩
 exact AH _ _ (Ac 300 (o3++[pb hb2,pb hb3,pn hb4])) (by kernel_rfl) (.GF k) .sc
 refine Ae (fun hb5=>?_) fun hb5=>?_
 refine Ai fun x7 hx7=>?_
 refine Ae (fun hb6=>?_) fun hb6=>?_
 rintro ⟨⟩
 exact AH _ _ (Ac 300 (o3++[pb hb2,pb hb3,pb hb5,pk,Dh (Xi .lost hx7),pb hb6])) (by kernel_rfl) (.GF k) .sc
 rintro ⟨⟩
 exact EG Hd.Ad [] [bp (NL.pl f)] (Ac 300 (o3++[pb hb2,pb hb3,pb hb5,pk,Dh (Xi .lost hx7),pb hb6,pi mi0])) (by kernel_rfl) (k [(jv j0 0),(jv j0 1),(jv j0 2),(jv j0 3),(jv j0 4),(jv j0 5),(jv j0 6),.bool true,.bool false,.bool false,.bool true,.bool false,.bool false,.bool false,.bool true,.bool false,.bool false,.bool false,.bool false,.bool false,.bool false,.bool false,.bool false,undef,.bool false,.bool false,.bool false,.bool true,.bool true,.bool false,.bool false,.bool false])
 rintro ⟨⟩
 exact EG Hd.Ad [] [bp (NL.pl f)] (Ac 300 (o3++[pb hb2,pb hb3,pb hb5,pi mi0])) (by kernel_rfl) (k [(jv j0 0),(jv j0 1),(jv j0 2),(jv j0 3),(jv j0 4),(jv j0 5),(jv j0 6),.bool true,.bool false,.bool false,.bool true,.bool false,.bool false,.bool false,.bool true,.bool false,.bool false,.bool false,.bool false,.bool false,.bool false,.bool false,.bool false,undef,.bool false,.bool false,.bool false,.bool false,.bool false,undef,.bool false,.bool false])
 subst hv
 rintro ⟨⟩
 exact AH _ _ (Ac 300 o3) (by kernel_rfl) (.GF k) .sc
 subst hv
 rintro ⟨⟩
 exact AH _ _ (Ac 300 o2) (by kernel_rfl) (.GF k) .sc
 rintro ⟨⟩
 exact AH _ _ (Ac 300 (o1++[pn hb1])) (by kernel_rfl) (.GF k) .sc
 rintro ⟨⟩ jx_8
 intro h
 have hE:=Option.some.inj h
 subst hE
 exact AH _ _ (C2 300 []) (by kernel_rfl) .body .sc
 subst hv
 rintro ⟨⟩
 exact rS (Ac 300 [Aj (Ao hy1),Aj (Ao hy2)]) (by kernel_rfl)
 subst hv
 rintro ⟨⟩
 exact rS (Ac 300 [Aj (Ao hy1)]) (by kernel_rfl)
noncomputable def w8:Code:=AU Tryz.f64
theorem vP:Tryz.f64.body=some w8:=by kernel_rfl
noncomputable def GA (BI:Nd→Option Bool) (Bl:(List Nd)→Option Bool) (n:Nd):Option Bool:=cond (Bi n.kind 11) ((Db n).bind fun y1=>cond y1 (cond (BT n.unit.data.toList A4.data.toList) ((AG n.n 0 1).bind fun y2=>cond y2 ((AG n.n 0 999999999999).bind fun y3=>cond y3 ((Eg n.unit).bind fun y4=>cond y4 (some true) (some true)) (some false)) (some false)) ((AG n.n 0 999999999999).bind fun y5=>cond y5 ((Eg n.unit).bind fun y6=>cond y6 (some true) (cond (BT n.unit.data.toList Bw.data.toList) (some true) (cond (BT n.unit.data.toList Cw.data.toList) (some true) (some false)))) (some false))) (some false)) (cond (Bi n.kind 12) ((Da n).bind fun y7=>cond y7 ((Et n.name).bind fun y8=>some y8) (some false)) (cond (Bi n.kind 13) ((DV n).bind fun y9=>cond y9 ((AG n.n 1 1000000).bind fun y10=>some y10) (some false)) (cond (Bi n.kind 14) ((Da n).bind fun y11=>cond y11 ((Em [DU,My,Gb,IQ] n.name).bind fun y12=>some y12) (some false)) (cond (Bi n.kind 15) ((Cz n).bind fun y13=>cond y13 (cond (Bi ((n.kids.length:Nat):Int) 1) ((n.kids[0]?).bind fun x14=>(BI x14).bind fun y15=>some y15) (some false)) (some false)) (cond (Bi n.kind 16) ((CZ n).bind fun y16=>cond y16 (cond (Bi ((n.kids.length:Nat):Int) 2) (cond (BT n.name.data.toList H8.data.toList) ((n.kids[1]?).bind fun x17=>(Dw x17).bind fun y18=>cond y18 ((Em [QT,Hc,GX,GO,Nb,GP,JY,M0,NO,H8,RE] n.name).bind fun y19=>cond y19 ((Bl n.kids).bind fun y20=>some y20) (some false)) (some false)) ((Em [QT,Hc,GX,GO,Nb,GP,JY,M0,NO,H8,RE] n.name).bind fun y21=>cond y21 ((Bl n.kids).bind fun y22=>some y22) (some false))) (some false)) (some false)) (cond (Bi n.kind 17) ((CZ n).bind fun y23=>cond y23 (cond (J0 2 ((n.kids.length:Nat):Int)) (cond (BT n.name.data.toList FJ.data.toList) ((Bl n.kids).bind fun y24=>some y24) (cond (BT n.name.data.toList Dz.data.toList) ((Bl n.kids).bind fun y25=>some y25) (some false))) (some false)) (some false)) (cond (Bi n.kind 18) ((Dv n).bind fun y26=>cond y26 (cond (Bi ((n.kids.length:Nat):Int) 1) ((n.kids[0]?).bind fun x27=>(BI x27).bind fun y28=>cond y28 ((EO n.tab).bind fun y29=>some y29) (some false)) (some false)) (some false)) (some false))))))))
theorem MF (BI:Nd→Option Bool) (Bl:(List Nd)→Option Bool) (DW:∀ {n:Nd} {yR:Bool},BI n=some yR→Pure P G 64 [.agg (BA n)] (.sc (.bool yR))) (El:∀ {l:(List Nd)} {yR:Bool},Bl l=some yR→Pure P G 96 [.sl .lost l.length (CC l)] (.sc (.bool yR))) {n:Nd} {yR:Bool} (h:GA BI Bl n=some yR):Pure P G 64 [.agg (BA n)] (.sc (.bool yR)):=by
 unfold GA at h
 refine BF Hd.mixed Hd.Ad (AF Tryz.func64 vP ?_) (Bd (AK.Gt n) rfl) rfl
 revert h
 refine Ae (fun hb1=>?_) fun hb1=>?_
 refine Ai fun y1 hy1=>?_
 let o1:List (PC P G):=[pb hb1,Aj (Ha hy1)]
 refine Ae (fun hv=>?_) fun hv=>?_
 subst hv
 refine Ae (fun hb2=>?_) fun hb2=>?_
 refine Ai fun y2 hy2=>?_
 let o2:List (PC P G):=o1++[pb hb2,Aj (Ao hy2)]
 refine Ae (fun hv=>?_) fun hv=>?_
 subst hv
 refine Ai fun y3 hy3=>?_
 refine Ae (fun hv=>?_) fun hv=>?_
 subst hv
 refine Ai fun y4 hy4=>?_
 refine Ae (fun hv=>?_) fun hv=>?_
 subst hv
 rintro ⟨⟩
 exact rS (Ac 300 (o2++[Aj (Ao hy3),Aj (Fe hy4)])) (by kernel_rfl)
 subst hv
 rintro ⟨⟩
 exact rS (Ac 300 (o2++[Aj (Ao hy3),Aj (Fe hy4),pb hb2])) (by kernel_rfl)
 subst hv
 rintro ⟨⟩
 exact rS (Ac 300 (o2++[Aj (Ao hy3)])) (by kernel_rfl)
 subst hv
 rintro ⟨⟩
 exact rS (Ac 300 o2) (by kernel_rfl)
 refine Ai fun y5 hy5=>?_
 let o3:List (PC P G):=o1++[pb hb2,Aj (Ao hy5)]
 refine Ae (fun hv=>?_) fun hv=>?_
 subst hv
 refine Ai fun y6 hy6=>?_
 let o4:List (PC P G):=o3++[Aj (Fe hy6)]
 refine Ae (fun hv=>?_) fun hv=>?_
 subst hv
 rintro ⟨⟩
 exact rS (Ac 300 o4) (by kernel_rfl)
 subst hv
 refine Ae (fun hb3=>?_) fun hb3=>?_
 rintro ⟨⟩
 exact rS (Ac 300 (o4++[pb hb2,pb hb3])) (by kernel_rfl)
 refine Ae (fun hb4=>?_) fun hb4=>?_
 rintro ⟨⟩
 exact rS (Ac 300 (o4++[pb hb2,pb hb3,pb hb4])) (by kernel_rfl)
 rintro ⟨⟩
 exact rS (Ac 300 (o4++[pb hb2,pb hb3,pb hb4])) (by kernel_rfl)
 subst hv
 rintro ⟨⟩
 exact rS (Ac 300 o3) (by kernel_rfl)
 subst hv
 rintro ⟨⟩
 exact rS (Ac 300 o1) (by kernel_rfl)
 let o5:List (PC P G):=[pb hb1]
 refine Ae (fun hb5=>?_) fun hb5=>?_
 refine Ai fun y7 hy7=>?_
 refine Ae (fun hv=>?_) fun hv=>?_
 subst hv
 refine Ai fun y8 hy8=>?_
 intro h
 have hE:=Option.some.inj h
 subst hE
 exact rS (Ac 300 (o5++[pb hb5,Aj (DN hy7),Aj (IW hy8)])) (by kernel_rfl)
 subst hv
 rintro ⟨⟩
 exact rS (Ac 300 (o5++[pb hb5,Aj (DN hy7)])) (by kernel_rfl)
 let o6:List (PC P G):=o5++[pb hb5]
 refine Ae (fun hb6=>?_) fun hb6=>?_
 refine Ai fun y9 hy9=>?_
 refine Ae (fun hv=>?_) fun hv=>?_
 subst hv
 refine Ai fun y10 hy10=>?_
 intro h
 have hE:=Option.some.inj h
 subst hE
 exact rS (Ac 300 (o6++[pb hb6,Aj (GS hy9),Aj (Ao hy10)])) (by kernel_rfl)
 subst hv
 rintro ⟨⟩
 exact rS (Ac 300 (o6++[pb hb6,Aj (GS hy9)])) (by kernel_rfl)
 let o7:List (PC P G):=o6++[pb hb6]
 refine Ae (fun hb7=>?_) fun hb7=>?_
 refine Ai fun y11 hy11=>?_
 refine Ae (fun hv=>?_) fun hv=>?_
 subst hv
 refine Ai fun y12 hy12=>?_
 intro h
 have hE:=Option.some.inj h
 subst hE
 exact rS (Ac 300 (o7++[pb hb7,Aj (DN hy11),DI (args:=[.sl .full 4 [.sc (.string DU),.sc (.string My),.sc (.string Gb),.sc (.string IQ)],.sc (.string n.name)]) (.d (.r (.r (.r (.r .nil)))) (AW.eq [DU,My,Gb,IQ]).symm (.r .nil)) (ET hy12)])) (by kernel_rfl)
 subst hv
 rintro ⟨⟩
 exact rS (Ac 300 (o7++[pb hb7,Aj (DN hy11)])) (by kernel_rfl)
 let o8:List (PC P G):=o7++[pb hb7]
 refine Ae (fun hb8=>?_) fun hb8=>?_
 refine Ai fun y13 hy13=>?_
 let o9:List (PC P G):=o8++[pb hb8,Aj (EK hy13)]
 refine Ae (fun hv=>?_) fun hv=>?_
 subst hv
 refine Ae (fun hb9=>?_) fun hb9=>?_
 refine Ai fun x14 hx14=>?_
 refine Ai fun y15 hy15=>?_
 intro h
 have hE:=Option.some.inj h
 subst hE
 exact rS (Ac 300 (o9++[pb hb9,Dh (Cp .lost hx14),Aj (DW hy15)])) (by kernel_rfl)
 rintro ⟨⟩
 exact rS (Ac 300 (o9++[pb hb9])) (by kernel_rfl)
 subst hv
 rintro ⟨⟩
 exact rS (Ac 300 o9) (by kernel_rfl)
 let o10:List (PC P G):=o8++[pb hb8]
 refine Ae (fun hb10=>?_) fun hb10=>?_
 refine Ai fun y16 hy16=>?_
 let o11:List (PC P G):=o10++[pb hb10,Aj (Gq hy16)]
 refine Ae (fun hv=>?_) fun hv=>?_
 subst hv
 refine Ae (fun hb11=>?_) fun hb11=>?_
 refine Ae (fun hb12=>?_) fun hb12=>?_
 refine Ai fun x17 hx17=>?_
 refine Ai fun y18 hy18=>?_
 let o12:List (PC P G):=o11++[pn hb11,pb hb12,Dh (Cp .lost hx17),Aj (Fp hy18)]
 refine Ae (fun hv=>?_) fun hv=>?_
 subst hv
 refine Ai fun y19 hy19=>?_
 let o13:List (PC P G):=o12++[DI (args:=[.sl .full 11 [.sc (.string QT),.sc (.string Hc),.sc (.string GX),.sc (.string GO),.sc (.string Nb),.sc (.string GP),.sc (.string JY),.sc (.string M0),.sc (.string NO),.sc (.string H8),.sc (.string RE)],.sc (.string n.name)]) (.d (.r (.r (.r (.r (.r (.r (.r (.r (.r (.r (.r .nil))))))))))) (AW.eq [QT,Hc,GX,GO,Nb,GP,JY,M0,NO,H8,RE]).symm (.r .nil)) (ET hy19)]
 refine Ae (fun hv=>?_) fun hv=>?_
 subst hv
 refine Ai fun y20 hy20=>?_
 intro h
 have hE:=Option.some.inj h
 subst hE
 exact rS (Ac 300 (o13++[Aj (El hy20)])) (by kernel_rfl)
 subst hv
 rintro ⟨⟩
 exact rS (Ac 300 o13) (by kernel_rfl)
 subst hv
 rintro ⟨⟩
 exact rS (Ac 300 o12) (by kernel_rfl)
 refine Ai fun y21 hy21=>?_
 let o14:List (PC P G):=o11++[pn hb11,pb hb12,DI (args:=[.sl .full 11 [.sc (.string QT),.sc (.string Hc),.sc (.string GX),.sc (.string GO),.sc (.string Nb),.sc (.string GP),.sc (.string JY),.sc (.string M0),.sc (.string NO),.sc (.string H8),.sc (.string RE)],.sc (.string n.name)]) (.d (.r (.r (.r (.r (.r (.r (.r (.r (.r (.r (.r .nil))))))))))) (AW.eq [QT,Hc,GX,GO,Nb,GP,JY,M0,NO,H8,RE]).symm (.r .nil)) (ET hy21)]
 refine Ae (fun hv=>?_) fun hv=>?_
 subst hv
 refine Ai fun y22 hy22=>?_
 intro h
 have hE:=Option.some.inj h
 subst hE
 exact rS (Ac 300 (o14++[Aj (El hy22)])) (by kernel_rfl)
 subst hv
 rintro ⟨⟩
 exact rS (Ac 300 o14) (by kernel_rfl)
 rintro ⟨⟩
 exact rS (Ac 300 (o11++[pn hb11])) (by kernel_rfl)
 subst hv
 rintro ⟨⟩
 exact rS (Ac 300 o11) (by kernel_rfl)
 let o15:List (PC P G):=o10++[pb hb10]
 refine Ae (fun hb13=>?_) fun hb13=>?_
 refine Ai fun y23 hy23=>?_
 let o16:List (PC P G):=o15++[pb hb13,Aj (Gq hy23)]
 refine Ae (fun hv=>?_) fun hv=>?_
 subst hv
 refine Ae (fun hb14=>?_) fun hb14=>?_
 refine Ae (fun hb15=>?_) fun hb15=>?_
 refine Ai fun y24 hy24=>?_
 intro h
 have hE:=Option.some.inj h
 subst hE
 exact rS (Ac 300 (o16++[pb hb14,pb hb15,Aj (El hy24)])) (by kernel_rfl)
 refine Ae (fun hb16=>?_) fun hb16=>?_
 refine Ai fun y25 hy25=>?_
 intro h
 have hE:=Option.some.inj h
 subst hE
 exact rS (Ac 300 (o16++[pb hb14,pb hb15,pb hb16,Aj (El hy25)])) (by kernel_rfl)
 rintro ⟨⟩
 exact rS (Ac 300 (o16++[pb hb14,pb hb15,pb hb16])) (by kernel_rfl)
 rintro ⟨⟩
 exact rS (Ac 300 (o16++[pb hb14])) (by kernel_rfl)
 subst hv
 rintro ⟨⟩
 exact rS (Ac 300 o16) (by kernel_rfl)
 refine Ae (fun hb17=>?_) fun hb17=>?_
 refine Ai fun y26 hy26=>?_
 let o17:List (PC P G):=o15++[pb hb13,pb hb17,Aj (J1 hy26)]
 refine Ae (fun hv=>?_) fun hv=>?_
 subst hv
 refine Ae (fun hb18=>?_) fun hb18=>?_
 refine Ai fun x27 hx27=>?_
 refine Ai fun y28 hy28=>?_
 refine Ae (fun hv=>?_) fun hv=>?_
 subst hv
 refine Ai fun y29 hy29=>?_
 intro h
 have hE:=Option.some.inj h
 subst hE
 exact rS (Ac 300 (o17++[pb hb18,Dh (Cp .lost hx27),Aj (DW hy28),Aj (LI hy29)])) (by kernel_rfl)
 subst hv
 rintro ⟨⟩
 exact rS (Ac 300 (o17++[pb hb18,Dh (Cp .lost hx27),Aj (DW hy28)])) (by kernel_rfl)
 rintro ⟨⟩
 exact rS (Ac 300 (o17++[pb hb18])) (by kernel_rfl)
 subst hv
 rintro ⟨⟩
 exact rS (Ac 300 o17) (by kernel_rfl)
 rintro ⟨⟩
 exact rS (Ac 300 (o15++[pb hb13,pb hb17])) (by kernel_rfl)
noncomputable def pO:Code:=AU Tryz.f96
theorem vZ:Tryz.f96.body=some pO:=by kernel_rfl
noncomputable def Fs (BI:Nd→Option Bool) (Bl:(List Nd)→Option Bool)  (i0:Nat) (e0:Nd) :Option (Lp Unit Unit Bool):=(BI e0).bind fun y1=>cond y1 (some (.nx ())) (some (.rt false))
noncomputable def FQ (BI:Nd→Option Bool) (Bl:(List Nd)→Option Bool) (l:(List Nd)):Option Bool:=(JQ l.length (Bb (fun i y x=>Fs BI Bl  i y ) (fun x=>()) (l.drop 0) 0 ())).bind (Kx (fun (_:Unit)=>some true) (fun v=>some v))
theorem Lx (BI:Nd→Option Bool) (Bl:(List Nd)→Option Bool) (DW:∀ {n:Nd} {yR:Bool},BI n=some yR→Pure P G 64 [.agg (BA n)] (.sc (.bool yR))) (El:∀ {l:(List Nd)} {yR:Bool},Bl l=some yR→Pure P G 96 [.sl .lost l.length (CC l)] (.sc (.bool yR))) {l:(List Nd)} {yR:Bool} (h:FQ BI Bl l=some yR):Pure P G 96 [.sl .lost l.length (CC l)] (.sc (.bool yR)):=by
 unfold FQ at h
 refine BF Hd.mixed Hd.Ad (AF Tryz.func96 vZ ?_) (Bd (AK.Hx l) rfl) rfl
 revert h
 refine H7 (fun Q v=>Hf P Tryz.f96 0 Q (.sc (.bool v))) (fun i0 (_:Unit) (j0:List Value)=>fr 16 [(0,.sl .lost l.length (CC l)),(3,.sc (.int .i64 ((i0:Nat):Int)))] [2,7,14,15] j0) (fun (_:Unit)=>⟨[],0,[],0⟩) (fun (_:Unit) (jx:List Value)=>fr 16 [] [2,7,14,15] jx) (fun (_:Unit)=>⟨[],0,[],0⟩) [.bool false] (HH [] 0 (sb pO 52) [.code (sb pO 7)] (Ac 300 []) (by kernel_rfl)) ?_ ?_ ?_ (fun v h=>by cases h;exact .outer .body)
 rintro i0 ⟨⟩ j0 hge hq
 exact ED (Ac 300 [pb (On hge)]) (by kernel_rfl) (hq (js 4 j0 [(1,.bool false)]))
 rintro i0 e0 ⟨⟩ j0 r he0 hi0 mi0 k
 show Fs BI Bl  i0 e0 =some r→_
 unfold Fs
 refine Ai fun y1 hy1=>?_
 refine Ae (fun hv=>?_) fun hv=>?_
 subst hv
 rintro ⟨⟩
 exact Fy (Ac 300 [pb (JR hi0),Dh (Cp .lost he0),Aj (DW hy1),pi mi0]) (by kernel_rfl) (k [(jv j0 0),.bool true,.bool true,.bool false])
 subst hv
 rintro ⟨⟩
 exact AH _ _ (Ac 300 [pb (JR hi0),Dh (Cp .lost he0),Aj (DW hy1)]) (by kernel_rfl) (.GF k) .sc
 rintro ⟨⟩ jx_2
 intro h
 have hE:=Option.some.inj h
 subst hE
 exact AH _ _ (C2 300 []) (by kernel_rfl) .body .sc
mutual
noncomputable def BX:Nat→Nd→Option Bool
 | 0,_=>none
 | qn+1,n=>GA (BX qn) (CF qn) n
noncomputable def CF:Nat→(List Nd)→Option Bool
 | 0,_=>none
 | qn+1,l=>FQ (BX qn) (CF qn) l
end
theorem ND:∀ qn:Nat,(∀ {n:Nd} {yR:Bool},BX qn n=some yR→Pure P G 64 [.agg (BA n)] (.sc (.bool yR)))∧(∀ {l:(List Nd)} {yR:Bool},CF qn l=some yR→Pure P G 96 [.sl .lost l.length (CC l)] (.sc (.bool yR))):=by
 intro qn
 induction qn with
 | zero=>exact ⟨(fun h=>by simp only [BX] at h;cases h),(fun h=>by simp only [CF] at h;cases h)⟩
 | succ qn ih=>exact ⟨(fun h=>MF (BX qn) (CF qn) ih.1 ih.2 (by rw [BX] at h;exact h)),(fun h=>Lx (BX qn) (CF qn) ih.1 ih.2 (by rw [CF] at h;exact h))⟩
noncomputable def Er (n:Nd):Option Bool:=Vf (fun qn=>BX qn n)
theorem Hy {n:Nd} {yR:Bool} (h:Er n=some yR):Pure P G 64 [.agg (BA n)] (.sc (.bool yR)):=by
 obtain ⟨qn,h⟩:=Sg h
 exact (ND qn).1 h
end Mo
end Go.Proofs.YtkfplcngmiljaaaGreatDoor
namespace Go.Proofs.YtkfplcngmiljaaaGreatDoor
open AI Go
namespace Mo
set_option maxRecDepth 100000
set_option maxHeartbeats 4000000
noncomputable def wZ:Code:=AU Tryz.f98
theorem vJ:Tryz.f98.body=some wZ:=by kernel_rfl
noncomputable def CV  (n:Nd):Option Bool:=cond (Bi n.kind 5) ((Dx n).bind fun y1=>cond y1 ((AG n.n 0 1000000).bind fun y2=>cond y2 ((AG n.fr 0 36524).bind fun y3=>cond y3 ((AG n.to (Ek n.fr 1) 36525).bind fun y4=>cond y4 ((AG n.known 0 36524).bind fun y5=>some y5) (some false)) (some false)) (some false)) (some false)) (some false)
theorem Cn   {n:Nd} {yR:Bool} (h:CV  n=some yR):Pure P G 98 [.agg (BA n)] (.sc (.bool yR)):=by
 unfold CV at h
 refine BF Hd.mixed Hd.Ad (AF Tryz.func98 vJ ?_) (Bd (AK.Gt n) rfl) rfl
 revert h
 refine Ae (fun hb1=>?_) fun hb1=>?_
 refine Ai fun y1 hy1=>?_
 let o1:List (PC P G):=[pb hb1,Aj (JZ hy1)]
 refine Ae (fun hv=>?_) fun hv=>?_
 subst hv
 refine Ai fun y2 hy2=>?_
 let o2:List (PC P G):=o1++[Aj (Ao hy2)]
 refine Ae (fun hv=>?_) fun hv=>?_
 subst hv
 refine Ai fun y3 hy3=>?_
 refine Ae (fun hv=>?_) fun hv=>?_
 subst hv
 refine Ai fun y4 hy4=>?_
 refine Ae (fun hv=>?_) fun hv=>?_
 subst hv
 refine Ai fun y5 hy5=>?_
 intro h
 have hE:=Option.some.inj h
 subst hE
 exact rS (Ac 300 (o2++[Aj (Ao hy3),pk,Aj (Ao hy4),Aj (Ao hy5)])) (by kernel_rfl)
 subst hv
 rintro ⟨⟩
 exact rS (Ac 300 (o2++[Aj (Ao hy3),pk,Aj (Ao hy4)])) (by kernel_rfl)
 subst hv
 rintro ⟨⟩
 exact rS (Ac 300 (o2++[Aj (Ao hy3)])) (by kernel_rfl)
 subst hv
 rintro ⟨⟩
 exact rS (Ac 300 o2) (by kernel_rfl)
 subst hv
 rintro ⟨⟩
 exact rS (Ac 300 o1) (by kernel_rfl)
 rintro ⟨⟩
 exact rS (Ac 300 [pb hb1]) (by kernel_rfl)
noncomputable def iM:Code:=AU Tryz.f121
theorem pV:Tryz.f121.body=some iM:=by kernel_rfl
noncomputable def Eo   (i0:Nat) (e0:Nd) :Option (Lp Unit Unit Bool):=(Dw e0).bind fun y1=>cond y1 (some (.nx ())) (some (.rt false))
noncomputable def DT  (l:(List Nd)):Option Bool:=(JQ l.length (Bb (fun i y x=>Eo   i y ) (fun x=>()) (l.drop 0) 0 ())).bind (Kx (fun (_:Unit)=>cond (ES 0 ((l.length:Nat):Int)) (some true) (some false)) (fun v=>some v))
theorem Kn   {l:(List Nd)} {yR:Bool} (h:DT  l=some yR):Pure P G 121 [.sl .lost l.length (CC l)] (.sc (.bool yR)):=by
 unfold DT at h
 refine BF Hd.mixed Hd.Ad (AF Tryz.func121 pV ?_) (Bd (AK.Hx l) rfl) rfl
 revert h
 refine H7 (fun Q v=>Hf P Tryz.f121 0 Q (.sc (.bool v))) (fun i0 (_:Unit) (j0:List Value)=>fr 19 [(0,.sl .lost l.length (CC l)),(3,.sc (.int .i64 ((i0:Nat):Int)))] [2,7,14,15,18] j0) (fun (_:Unit)=>⟨[],0,[],0⟩) (fun (_:Unit) (jx:List Value)=>fr 19 [(0,.sl .lost l.length (CC l))] [2,7,14,15,18] jx) (fun (_:Unit)=>⟨[],0,[],0⟩) [.bool false] (HH [] 0 (sb iM 52) [.code (sb iM 7)] (Ac 300 []) (by kernel_rfl)) ?_ ?_ ?_ (fun v h=>by cases h;exact .outer .body)
 rintro i0 ⟨⟩ j0 hge hq
 exact ED (Ac 300 [pb (On hge)]) (by kernel_rfl) (hq (js 5 j0 [(1,.bool false)]))
 rintro i0 e0 ⟨⟩ j0 r he0 hi0 mi0 k
 show Eo   i0 e0 =some r→_
 unfold Eo
 refine Ai fun y1 hy1=>?_
 refine Ae (fun hv=>?_) fun hv=>?_
 subst hv
 rintro ⟨⟩
 exact Fy (Ac 300 [pb (JR hi0),Dh (Cp .lost he0),Aj (Fp hy1),pi mi0]) (by kernel_rfl) (k [(jv j0 0),.bool true,.bool true,.bool false,(jv j0 4)])
 subst hv
 rintro ⟨⟩
 exact AH _ _ (Ac 300 [pb (JR hi0),Dh (Cp .lost he0),Aj (Fp hy1)]) (by kernel_rfl) (.GF k) .sc
 rintro ⟨⟩ jx_2
 refine Ae (fun hb1=>?_) fun hb1=>?_
 intro h
 have hE:=Option.some.inj h
 subst hE
 exact AH _ _ (C2 300 [pb hb1]) (by kernel_rfl) .body .sc
 intro h
 have hE:=Option.some.inj h
 subst hE
 exact AH _ _ (C2 300 [pb hb1]) (by kernel_rfl) .body .sc
noncomputable def pK:Code:=AU Tryz.f99
theorem vB:Tryz.f99.body=some pK:=by kernel_rfl
noncomputable def BL   (i0:Nat) (e0:Nd) (unless3:Int) (amount4:Int):Option (Lp (Int×Int) (Int×Int) Bool):=(Cz e0).bind fun y1=>cond y1 (cond (Bi e0.kind 6) (cond (Bi ((e0.kids.length:Nat):Int) 1) ((e0.kids[0]?).bind fun x2=>(Er x2).bind fun y3=>cond y3 (some (.nx (unless3,amount4))) (some (.rt false))) (some (.rt false))) (cond (Bi e0.kind 8) (cond (Bi ((e0.kids.length:Nat):Int) 1) ((e0.kids[0]?).bind fun x4=>(Er x4).bind fun y5=>cond y5 (some (.nx (unless3,(Ek amount4 1)))) (some (.rt false))) (some (.rt false))) (cond (Bi e0.kind 7) ((DT e0.kids).bind fun y6=>cond y6 (some (.nx ((Ek unless3 1),amount4))) (some (.rt false))) (some (.rt false))))) (some (.rt false))
noncomputable def BY  (l:(List Nd)):Option Bool:=(JQ l.length (Bb (fun i y x=>BL   i y x.1 x.2) (fun x=>(x.1,x.2)) (l.drop 0) 0 (0,0))).bind (Kx (fun ((unless3_7,amount4_7):(Int×Int))=>cond (J0 unless3_7 1) (cond (Bi amount4_7 1) (some true) (some false)) (some false)) (fun v=>some v))
theorem DS   {l:(List Nd)} {yR:Bool} (h:BY  l=some yR):Pure P G 99 [.sl .lost l.length (CC l)] (.sc (.bool yR)):=by
 unfold BY at h
 refine BF Hd.mixed Hd.Ad (AF Tryz.func99 vB ?_) (Bd (AK.Hx l) rfl) rfl
 revert h
 refine H7 (fun Q v=>Hf P Tryz.f99 0 Q (.sc (.bool v))) (fun i0 ((unless3,amount4):(Int×Int)) (j0:List Value)=>fr 69 [(0,.sl .lost l.length (CC l)),(3,.sc (.int .i64 unless3)),(4,.sc (.int .i64 amount4)),(5,.sc (.int .i64 ((i0:Nat):Int)))] [2,9,16,17,23,24,25,32,33,41,42,43,49,52,53,61,62,64,65,67,68] j0) (fun ((unless3,amount4):(Int×Int))=>⟨[],0,[],0⟩) (fun ((unless3,amount4):(Int×Int)) (jx:List Value)=>fr 69 [(3,.sc (.int .i64 unless3)),(4,.sc (.int .i64 amount4))] [2,9,16,17,23,24,25,32,33,41,42,43,49,52,53,61,62,64,65,67,68] jx) (fun ((unless3,amount4):(Int×Int))=>⟨[],0,[],0⟩) [.bool false] (HH [] 0 (sb pK 244) [.code (sb pK 31)] (Ac 300 []) (by kernel_rfl)) ?_ ?_ ?_ (fun v h=>by cases h;exact .outer .body)
 rintro i0 ⟨unless3,amount4⟩ j0 hge hq
 exact ED (Ac 300 [pb (On hge)]) (by kernel_rfl) (hq (js 21 j0 [(1,.bool false)]))
 rintro i0 e0 ⟨unless3,amount4⟩ j0 r he0 hi0 mi0 k
 show BL   i0 e0 unless3 amount4=some r→_
 unfold BL
 refine Ai fun y1 hy1=>?_
 let o1:List (PC P G):=[pb (JR hi0),Dh (Cp .lost he0),Aj (EK hy1)]
 refine Ae (fun hv=>?_) fun hv=>?_
 subst hv
 let o2:List (PC P G):=o1++[Dh (Cp .lost he0)]
 refine Ae (fun hb1=>?_) fun hb1=>?_
 refine Ae (fun hb2=>?_) fun hb2=>?_
 refine Ai fun x2 hx2=>?_
 refine Ai fun y3 hy3=>?_
 let o3:List (PC P G):=o2++[pb hb1,Dh (Cp .lost he0),pn hb2,Dh (Cp .lost he0),Dh (Cp .lost hx2),Aj (Hy hy3)]
 refine Ae (fun hv=>?_) fun hv=>?_
 subst hv
 rintro ⟨⟩
 exact Fy (Ac 300 (o3++[Dh (Cp .lost he0),pb (B:=Bi e0.kind 8) (b:=false) (by rw [Me hb1];rfl),pi mi0])) (by kernel_rfl) (k (js 21 j0 [(1,.bool true),(2,.bool true),(3,.bool false),(4,.bool true),(5,.bool true),(7,.bool false),(8,.bool false),(9,.bool true),(10,.bool false),(11,.bool false),(12,.bool false)]))
 subst hv
 rintro ⟨⟩
 exact AH _ _ (Ac 300 o3) (by kernel_rfl) (.GF k) .sc
 rintro ⟨⟩
 exact AH _ _ (Ac 300 (o2++[pb hb1,Dh (Cp .lost he0),pn hb2])) (by kernel_rfl) (.GF k) .sc
 refine Ae (fun hb3=>?_) fun hb3=>?_
 refine Ae (fun hb4=>?_) fun hb4=>?_
 refine Ai fun x4 hx4=>?_
 refine Ai fun y5 hy5=>?_
 let o4:List (PC P G):=o2++[pb hb1,pb hb3,Dh (Cp .lost he0),pn hb4,Dh (Cp .lost he0),Dh (Cp .lost hx4),Aj (Hy hy5)]
 refine Ae (fun hv=>?_) fun hv=>?_
 subst hv
 rintro ⟨⟩
 exact Fy (Ac 300 (o4++[Dh (Cp .lost he0),pb hb3,pk,pi mi0])) (by kernel_rfl) (k (js 21 j0 [(1,.bool true),(2,.bool true),(3,.bool false),(4,.bool true),(5,.bool false),(6,.bool true),(7,.bool false),(8,.bool false),(9,.bool true),(10,.bool false),(11,.bool false),(12,.bool true)]))
 subst hv
 rintro ⟨⟩
 exact AH _ _ (Ac 300 o4) (by kernel_rfl) (.GF k) .sc
 rintro ⟨⟩
 exact AH _ _ (Ac 300 (o2++[pb hb1,pb hb3,Dh (Cp .lost he0),pn hb4])) (by kernel_rfl) (.GF k) .sc
 refine Ae (fun hb5=>?_) fun hb5=>?_
 refine Ai fun y6 hy6=>?_
 let o5:List (PC P G):=o2++[pb hb1,pb hb3,pb hb5,pk,Dh (Cp .lost he0),Aj (Kn hy6)]
 refine Ae (fun hv=>?_) fun hv=>?_
 subst hv
 rintro ⟨⟩
 exact Fy (Ac 300 (o5++[pi mi0])) (by kernel_rfl) (k (js 21 j0 [(1,.bool true),(2,.bool true),(3,.bool false),(4,.bool false),(5,.bool false),(6,.bool false),(13,.bool true),(14,.bool true),(15,.bool true),(16,.bool false)]))
 subst hv
 rintro ⟨⟩
 exact AH _ _ (Ac 300 o5) (by kernel_rfl) (.GF k) .sc
 rintro ⟨⟩
 exact AH _ _ (Ac 300 (o2++[pb hb1,pb hb3,pb hb5])) (by kernel_rfl) (.GF k) .sc
 subst hv
 rintro ⟨⟩
 exact AH _ _ (Ac 300 o1) (by kernel_rfl) (.GF k) .sc
 rintro ⟨unless3_7,amount4_7⟩ jx_7
 dsimp only
 refine Ae (fun hb6=>?_) fun hb6=>?_
 refine Ae (fun hb7=>?_) fun hb7=>?_
 intro h
 have hE:=Option.some.inj h
 subst hE
 exact AH _ _ (C2 300 [pb hb6,pb hb7]) (by kernel_rfl) .body .sc
 intro h
 have hE:=Option.some.inj h
 subst hE
 exact AH _ _ (C2 300 [pb hb6,pb hb7]) (by kernel_rfl) .body .sc
 intro h
 have hE:=Option.some.inj h
 subst hE
 exact AH _ _ (C2 300 [pb hb6]) (by kernel_rfl) .body .sc
noncomputable def vU:Code:=AU Tryz.f65
theorem uT:Tryz.f65.body=some vU:=by kernel_rfl
noncomputable def Fu  (n:Nd):Option Bool:=(Et n.name).bind fun y1=>cond y1 ((Eg n.unit).bind fun y2=>cond y2 (cond (Bi n.kind 2) ((Cl n).bind fun y3=>cond y3 (some true) (some false)) (cond (Bi n.kind 3) ((Cm n).bind fun y4=>cond y4 ((AG n.n 1 4).bind fun y5=>some y5) (some false)) (cond (Bi n.kind 4) ((B7 n).bind fun y6=>cond y6 ((AG n.n 1 1000000).bind fun y7=>cond y7 ((some (ES 1 ((n.kids.length:Nat):Int))).bind fun q8=>cond q8 ((n.kids[0]?).bind fun x9=>(CV x9).bind fun y10=>cond y10 ((Jn n.kids 1 ((n.kids.length:Nat):Int)).bind fun l11=>(BY l11).bind fun y12=>some y12) (some false)) (some false)) (some false)) (some false)) (some false)))) ((some (BT n.unit.data.toList A4.data.toList)).bind fun q13=>cond q13 (cond (Bi n.kind 2) ((Cl n).bind fun y14=>cond y14 (some true) (some false)) (cond (Bi n.kind 3) ((Cm n).bind fun y15=>cond y15 ((AG n.n 1 4).bind fun y16=>some y16) (some false)) (cond (Bi n.kind 4) ((B7 n).bind fun y17=>cond y17 ((AG n.n 1 1000000).bind fun y18=>cond y18 ((some (ES 1 ((n.kids.length:Nat):Int))).bind fun q19=>cond q19 ((n.kids[0]?).bind fun x20=>(CV x20).bind fun y21=>cond y21 ((Jn n.kids 1 ((n.kids.length:Nat):Int)).bind fun l22=>(BY l22).bind fun y23=>some y23) (some false)) (some false)) (some false)) (some false)) (some false)))) ((some (BT n.unit.data.toList Bw.data.toList)).bind fun q24=>cond q24 (cond (Bi n.kind 2) ((Cl n).bind fun y25=>cond y25 (some true) (some false)) (cond (Bi n.kind 3) ((Cm n).bind fun y26=>cond y26 ((AG n.n 1 4).bind fun y27=>some y27) (some false)) (cond (Bi n.kind 4) ((B7 n).bind fun y28=>cond y28 ((AG n.n 1 1000000).bind fun y29=>cond y29 ((some (ES 1 ((n.kids.length:Nat):Int))).bind fun q30=>cond q30 ((n.kids[0]?).bind fun x31=>(CV x31).bind fun y32=>cond y32 ((Jn n.kids 1 ((n.kids.length:Nat):Int)).bind fun l33=>(BY l33).bind fun y34=>some y34) (some false)) (some false)) (some false)) (some false)) (some false)))) ((some (BT n.unit.data.toList Cw.data.toList)).bind fun q35=>cond (Bi n.kind 2) ((Cl n).bind fun y36=>cond y36 (some q35) (some false)) (cond (Bi n.kind 3) ((Cm n).bind fun y37=>cond y37 (cond q35 ((AG n.n 1 4).bind fun y38=>some y38) (some false)) (some false)) (cond (Bi n.kind 4) ((B7 n).bind fun y39=>cond y39 ((AG n.n 1 1000000).bind fun y40=>cond y40 ((some (ES 1 ((n.kids.length:Nat):Int))).bind fun q41=>cond q41 ((n.kids[0]?).bind fun x42=>(CV x42).bind fun y43=>cond y43 ((Jn n.kids 1 ((n.kids.length:Nat):Int)).bind fun l44=>(BY l44).bind fun y45=>some y45) (some false)) (some false)) (some false)) (some false)) (some false))))))) (some false)
theorem IR   {n:Nd} {yR:Bool} (h:Fu  n=some yR):Pure P G 65 [.agg (BA n)] (.sc (.bool yR)):=by
 unfold Fu at h
 refine BF Hd.mixed Hd.Ad (AF Tryz.func65 uT ?_) (Bd (AK.Gt n) rfl) rfl
 revert h
 refine Ai fun y1 hy1=>?_
 let o1:List (PC P G):=[Aj (IW hy1)]
 refine Ae (fun hv=>?_) fun hv=>?_
 subst hv
 refine Ai fun y2 hy2=>?_
 let o2:List (PC P G):=o1++[Aj (Fe hy2)]
 refine Ae (fun hv=>?_) fun hv=>?_
 subst hv
 refine Ae (fun hb1=>?_) fun hb1=>?_
 refine Ai fun y3 hy3=>?_
 refine Ae (fun hv=>?_) fun hv=>?_
 subst hv
 rintro ⟨⟩
 exact rS (Ac 300 (o2++[pb hb1,Aj (BG hy3)])) (by kernel_rfl)
 subst hv
 rintro ⟨⟩
 exact rS (Ac 300 (o2++[pb hb1,Aj (BG hy3)])) (by kernel_rfl)
 refine Ae (fun hb2=>?_) fun hb2=>?_
 refine Ai fun y4 hy4=>?_
 refine Ae (fun hv=>?_) fun hv=>?_
 subst hv
 refine Ai fun y5 hy5=>?_
 intro h
 have hE:=Option.some.inj h
 subst hE
 exact rS (Ac 300 (o2++[pb hb1,pb hb2,Aj (B2 hy4),Aj (Ao hy5)])) (by kernel_rfl)
 subst hv
 rintro ⟨⟩
 exact rS (Ac 300 (o2++[pb hb1,pb hb2,Aj (B2 hy4)])) (by kernel_rfl)
 let o3:List (PC P G):=o2++[pb hb1,pb hb2]
 refine Ae (fun hb3=>?_) fun hb3=>?_
 refine Ai fun y6 hy6=>?_
 let o4:List (PC P G):=o3++[pb hb3,Aj (Dm hy6)]
 refine Ae (fun hv=>?_) fun hv=>?_
 subst hv
 refine Ai fun y7 hy7=>?_
 let o5:List (PC P G):=o4++[Aj (Ao hy7)]
 refine Ae (fun hv=>?_) fun hv=>?_
 subst hv
 refine Ai fun q8 hq8=>?_
 let o6:List (PC P G):=o5++[Kl (Tl hq8 (.tmp 59) (.const (.int .i64 1)))]
 refine Ae (fun hv=>?_) fun hv=>?_
 subst hv
 refine Ai fun x9 hx9=>?_
 refine Ai fun y10 hy10=>?_
 refine Ae (fun hv=>?_) fun hv=>?_
 subst hv
 refine Ai fun l11 hl11=>?_
 refine Ai fun y12 hy12=>?_
 intro h
 have hE:=Option.some.inj h
 subst hE
 exact rS (Ac 300 (o6++[Dh (Cp .lost hx9),Aj (Cn hy10),S0 (JC hl11),Aj (DS hy12)])) (by kernel_rfl)
 subst hv
 rintro ⟨⟩
 exact rS (Ac 300 (o6++[Dh (Cp .lost hx9),Aj (Cn hy10)])) (by kernel_rfl)
 subst hv
 rintro ⟨⟩
 exact rS (Ac 300 o6) (by kernel_rfl)
 subst hv
 rintro ⟨⟩
 exact rS (Ac 300 o5) (by kernel_rfl)
 subst hv
 rintro ⟨⟩
 exact rS (Ac 300 o4) (by kernel_rfl)
 rintro ⟨⟩
 exact rS (Ac 300 (o3++[pb hb3])) (by kernel_rfl)
 subst hv
 refine Ai fun q13 hq13=>?_
 let o7:List (PC P G):=o2++[Kl (VF hq13 (.tmp 13) (.const (.string A4)))]
 refine Ae (fun hv=>?_) fun hv=>?_
 subst hv
 refine Ae (fun hb4=>?_) fun hb4=>?_
 refine Ai fun y14 hy14=>?_
 refine Ae (fun hv=>?_) fun hv=>?_
 subst hv
 rintro ⟨⟩
 exact rS (Ac 300 (o7++[pb hb4,Aj (BG hy14)])) (by kernel_rfl)
 subst hv
 rintro ⟨⟩
 exact rS (Ac 300 (o7++[pb hb4,Aj (BG hy14)])) (by kernel_rfl)
 refine Ae (fun hb5=>?_) fun hb5=>?_
 refine Ai fun y15 hy15=>?_
 refine Ae (fun hv=>?_) fun hv=>?_
 subst hv
 refine Ai fun y16 hy16=>?_
 intro h
 have hE:=Option.some.inj h
 subst hE
 exact rS (Ac 300 (o7++[pb hb4,pb hb5,Aj (B2 hy15),Aj (Ao hy16)])) (by kernel_rfl)
 subst hv
 rintro ⟨⟩
 exact rS (Ac 300 (o7++[pb hb4,pb hb5,Aj (B2 hy15)])) (by kernel_rfl)
 let o8:List (PC P G):=o7++[pb hb4,pb hb5]
 refine Ae (fun hb6=>?_) fun hb6=>?_
 refine Ai fun y17 hy17=>?_
 let o9:List (PC P G):=o8++[pb hb6,Aj (Dm hy17)]
 refine Ae (fun hv=>?_) fun hv=>?_
 subst hv
 refine Ai fun y18 hy18=>?_
 let o10:List (PC P G):=o9++[Aj (Ao hy18)]
 refine Ae (fun hv=>?_) fun hv=>?_
 subst hv
 refine Ai fun q19 hq19=>?_
 let o11:List (PC P G):=o10++[Kl (Tl hq19 (.tmp 59) (.const (.int .i64 1)))]
 refine Ae (fun hv=>?_) fun hv=>?_
 subst hv
 refine Ai fun x20 hx20=>?_
 refine Ai fun y21 hy21=>?_
 refine Ae (fun hv=>?_) fun hv=>?_
 subst hv
 refine Ai fun l22 hl22=>?_
 refine Ai fun y23 hy23=>?_
 intro h
 have hE:=Option.some.inj h
 subst hE
 exact rS (Ac 300 (o11++[Dh (Cp .lost hx20),Aj (Cn hy21),S0 (JC hl22),Aj (DS hy23)])) (by kernel_rfl)
 subst hv
 rintro ⟨⟩
 exact rS (Ac 300 (o11++[Dh (Cp .lost hx20),Aj (Cn hy21)])) (by kernel_rfl)
 subst hv
 rintro ⟨⟩
 exact rS (Ac 300 o11) (by kernel_rfl)
 subst hv
 rintro ⟨⟩
 exact rS (Ac 300 o10) (by kernel_rfl)
 subst hv
 rintro ⟨⟩
 exact rS (Ac 300 o9) (by kernel_rfl)
 rintro ⟨⟩
 exact rS (Ac 300 (o8++[pb hb6])) (by kernel_rfl)
 subst hv
 refine Ai fun q24 hq24=>?_
 let o12:List (PC P G):=o7++[Kl (VF hq24 (.tmp 18) (.const (.string Bw)))]
 refine Ae (fun hv=>?_) fun hv=>?_
 subst hv
 refine Ae (fun hb7=>?_) fun hb7=>?_
 refine Ai fun y25 hy25=>?_
 refine Ae (fun hv=>?_) fun hv=>?_
 subst hv
 rintro ⟨⟩
 exact rS (Ac 300 (o12++[pb hb7,Aj (BG hy25)])) (by kernel_rfl)
 subst hv
 rintro ⟨⟩
 exact rS (Ac 300 (o12++[pb hb7,Aj (BG hy25)])) (by kernel_rfl)
 refine Ae (fun hb8=>?_) fun hb8=>?_
 refine Ai fun y26 hy26=>?_
 refine Ae (fun hv=>?_) fun hv=>?_
 subst hv
 refine Ai fun y27 hy27=>?_
 intro h
 have hE:=Option.some.inj h
 subst hE
 exact rS (Ac 300 (o12++[pb hb7,pb hb8,Aj (B2 hy26),Aj (Ao hy27)])) (by kernel_rfl)
 subst hv
 rintro ⟨⟩
 exact rS (Ac 300 (o12++[pb hb7,pb hb8,Aj (B2 hy26)])) (by kernel_rfl)
 let o13:List (PC P G):=o12++[pb hb7,pb hb8]
 refine Ae (fun hb9=>?_) fun hb9=>?_
 refine Ai fun y28 hy28=>?_
 let o14:List (PC P G):=o13++[pb hb9,Aj (Dm hy28)]
 refine Ae (fun hv=>?_) fun hv=>?_
 subst hv
 refine Ai fun y29 hy29=>?_
 let o15:List (PC P G):=o14++[Aj (Ao hy29)]
 refine Ae (fun hv=>?_) fun hv=>?_
 subst hv
 refine Ai fun q30 hq30=>?_
 let o16:List (PC P G):=o15++[Kl (Tl hq30 (.tmp 59) (.const (.int .i64 1)))]
 refine Ae (fun hv=>?_) fun hv=>?_
 subst hv
 refine Ai fun x31 hx31=>?_
 refine Ai fun y32 hy32=>?_
 refine Ae (fun hv=>?_) fun hv=>?_
 subst hv
 refine Ai fun l33 hl33=>?_
 refine Ai fun y34 hy34=>?_
 intro h
 have hE:=Option.some.inj h
 subst hE
 exact rS (Ac 300 (o16++[Dh (Cp .lost hx31),Aj (Cn hy32),S0 (JC hl33),Aj (DS hy34)])) (by kernel_rfl)
 subst hv
 rintro ⟨⟩
 exact rS (Ac 300 (o16++[Dh (Cp .lost hx31),Aj (Cn hy32)])) (by kernel_rfl)
 subst hv
 rintro ⟨⟩
 exact rS (Ac 300 o16) (by kernel_rfl)
 subst hv
 rintro ⟨⟩
 exact rS (Ac 300 o15) (by kernel_rfl)
 subst hv
 rintro ⟨⟩
 exact rS (Ac 300 o14) (by kernel_rfl)
 rintro ⟨⟩
 exact rS (Ac 300 (o13++[pb hb9])) (by kernel_rfl)
 subst hv
 refine Ai fun q35 hq35=>?_
 let o17:List (PC P G):=o12++[Kl (VF hq35 (.tmp 23) (.const (.string Cw)))]
 refine Ae (fun hb10=>?_) fun hb10=>?_
 refine Ai fun y36 hy36=>?_
 refine Ae (fun hv=>?_) fun hv=>?_
 subst hv
 intro h
 have hE:=Option.some.inj h
 subst hE
 exact rS (Ac 300 (o17++[pb hb10,Aj (BG hy36)])) (by kernel_rfl)
 subst hv
 rintro ⟨⟩
 exact rS (Ac 300 (o17++[pb hb10,Aj (BG hy36)])) (by kernel_rfl)
 refine Ae (fun hb11=>?_) fun hb11=>?_
 refine Ai fun y37 hy37=>?_
 let o18:List (PC P G):=o17++[pb hb10,pb hb11,Aj (B2 hy37)]
 refine Ae (fun hv=>?_) fun hv=>?_
 subst hv
 refine Ae (fun hv=>?_) fun hv=>?_
 subst hv
 refine Ai fun y38 hy38=>?_
 intro h
 have hE:=Option.some.inj h
 subst hE
 exact rS (Ac 300 (o18++[Aj (Ao hy38)])) (by kernel_rfl)
 subst hv
 rintro ⟨⟩
 exact rS (Ac 300 o18) (by kernel_rfl)
 subst hv
 rintro ⟨⟩
 exact rS (Ac 300 o18) (by kernel_rfl)
 let o19:List (PC P G):=o17++[pb hb10,pb hb11]
 refine Ae (fun hb12=>?_) fun hb12=>?_
 refine Ai fun y39 hy39=>?_
 let o20:List (PC P G):=o19++[pb hb12,Aj (Dm hy39)]
 refine Ae (fun hv=>?_) fun hv=>?_
 subst hv
 refine Ai fun y40 hy40=>?_
 let o21:List (PC P G):=o20++[Aj (Ao hy40)]
 refine Ae (fun hv=>?_) fun hv=>?_
 subst hv
 refine Ai fun q41 hq41=>?_
 let o22:List (PC P G):=o21++[Kl (Tl hq41 (.tmp 59) (.const (.int .i64 1)))]
 refine Ae (fun hv=>?_) fun hv=>?_
 subst hv
 refine Ai fun x42 hx42=>?_
 refine Ai fun y43 hy43=>?_
 refine Ae (fun hv=>?_) fun hv=>?_
 subst hv
 refine Ai fun l44 hl44=>?_
 refine Ai fun y45 hy45=>?_
 intro h
 have hE:=Option.some.inj h
 subst hE
 exact rS (Ac 300 (o22++[Dh (Cp .lost hx42),Aj (Cn hy43),S0 (JC hl44),Aj (DS hy45)])) (by kernel_rfl)
 subst hv
 rintro ⟨⟩
 exact rS (Ac 300 (o22++[Dh (Cp .lost hx42),Aj (Cn hy43)])) (by kernel_rfl)
 subst hv
 rintro ⟨⟩
 exact rS (Ac 300 o22) (by kernel_rfl)
 subst hv
 rintro ⟨⟩
 exact rS (Ac 300 o21) (by kernel_rfl)
 subst hv
 rintro ⟨⟩
 exact rS (Ac 300 o20) (by kernel_rfl)
 rintro ⟨⟩
 exact rS (Ac 300 (o19++[pb hb12])) (by kernel_rfl)
 subst hv
 rintro ⟨⟩
 exact rS (Ac 300 o1) (by kernel_rfl)
noncomputable def rP:Code:=AU Tryz.f39
theorem xC:Tryz.f39.body=some rP:=by kernel_rfl
noncomputable def Fo   (i0:Nat) (e0:Nd) :Option (Lp Unit Unit Bool):=(Fu e0).bind fun y3=>cond y3 (some (.nx ())) (some (.rt false))
noncomputable def EP  (n:Nd):Option Bool:=(Fl n).bind fun y1=>cond y1 (cond (Bi n.kind 1) ((JQ n.kids.length (Bb (fun i y x=>Fo   i y ) (fun x=>()) (n.kids.drop 0) 0 ())).bind (Kx (fun (_:Unit)=>(Cz n).bind fun y5=>some y5) (fun v=>some v))) ((Er n).bind fun y2=>some y2)) (some false)
theorem LU   {n:Nd} {yR:Bool} (h:EP  n=some yR):Pure P G 39 [.agg (BA n)] (.sc (.bool yR)):=by
 unfold EP at h
 refine BF Hd.mixed Hd.Ad (AF Tryz.func39 xC ?_) (Bd (AK.Gt n) rfl) rfl
 revert h
 refine Ai fun y1 hy1=>?_
 refine Ae (fun hv=>?_) fun hv=>?_
 subst hv
 refine Ae (fun hb1=>?_) fun hb1=>?_
 refine H7 (fun Q v=>Hf P Tryz.f39 0 Q (.sc (.bool v))) (fun i0 (_:Unit) (j0:List Value)=>fr 28 [(1,.ptr 0 0),(3,.sc (.int .i64 ((i0:Nat):Int)))] [2,5,6,9,11,16,24,25,27] j0) (fun (_:Unit)=>⟨[(0,.cells (BA n))],1,[],0⟩) (fun (_:Unit) (jx:List Value)=>fr 28 [(1,.ptr 0 0)] [2,5,6,9,11,16,24,25,27] jx) (fun (_:Unit)=>⟨[(0,.cells (BA n))],1,[],0⟩) [.bool false,.bool true,.bool false,.bool false] (HH [] 0 (sb rP 244) [.code (sb rP 31)] (Ac 300 [Aj (Ga hy1),pn hb1]) (by kernel_rfl)) ?_ ?_ ?_ (fun v h=>by cases h;exact .outer .body)
 rintro i0 ⟨⟩ j0 hge hq
 exact ED (Ac 300 [pb (On hge)]) (by kernel_rfl) (hq (js 9 j0 [(5,.bool false)]))
 rintro i0 e0 ⟨⟩ j0 r he0 hi0 mi0 k
 show Fo   i0 e0 =some r→_
 unfold Fo
 refine Ai fun y3 hy3=>?_
 refine Ae (fun hv=>?_) fun hv=>?_
 subst hv
 rintro ⟨⟩
 exact Fy (Ac 300 [pb (JR hi0),Dh (Cp .lost he0),Aj (IR hy3),pi mi0]) (by kernel_rfl) (k (js 9 j0 [(5,.bool true),(6,.bool true),(7,.bool false)]))
 subst hv
 rintro ⟨⟩
 exact AH _ _ (Ac 300 [pb (JR hi0),Dh (Cp .lost he0),Aj (IR hy3)]) (by kernel_rfl) (.GF k) .sc
 rintro ⟨⟩ jx_4
 refine Ai fun y5 hy5=>?_
 intro h
 have hE:=Option.some.inj h
 subst hE
 exact AH _ _ (C2 300 [Aj (EK hy5)]) (by kernel_rfl) .body .sc
 refine Ai fun y2 hy2=>?_
 intro h
 have hE:=Option.some.inj h
 subst hE
 exact rS (Ac 300 [Aj (Ga hy1),pn hb1,Aj (Hy hy2)]) (by kernel_rfl)
 subst hv
 rintro ⟨⟩
 exact rS (Ac 300 [Aj (Ga hy1)]) (by kernel_rfl)
noncomputable def xI:Code:=AU Tryz.f20
theorem wI:Tryz.f20.body=some xI:=by kernel_rfl
noncomputable def CE  (n:Nd):Option Bool:=cond (Bi n.kind 1) (some false) ((EP n).bind fun y1=>some y1)
theorem Fw   {n:Nd} {yR:Bool} (h:CE  n=some yR):Pure P G 20 [.agg (BA n)] (.sc (.bool yR)):=by
 unfold CE at h
 refine BF Hd.mixed Hd.Ad (AF Tryz.func20 wI ?_) (Bd (AK.Gt n) rfl) rfl
 revert h
 refine Ae (fun hb1=>?_) fun hb1=>?_
 rintro ⟨⟩
 exact rS (Ac 300 [pn hb1]) (by kernel_rfl)
 refine Ai fun y1 hy1=>?_
 intro h
 have hE:=Option.some.inj h
 subst hE
 exact rS (Ac 300 [pn hb1,Aj (LU hy1)]) (by kernel_rfl)
end Mo
end Go.Proofs.YtkfplcngmiljaaaGreatDoor
namespace Go.Proofs.YtkfplcngmiljaaaGreatDoor
open AI Go
namespace Mo
set_option maxRecDepth 100000
set_option maxHeartbeats 4000000
noncomputable def yC:Code:=AU Tryz.f24
theorem u9:Tryz.f24.body=some yC:=by kernel_rfl
noncomputable def Hp (Hi:Nd→(List Int)→Nd→Option (Nd×Nd)) (e:Nd) (path:(List Int)) (part:Nd):Option (Nd×Nd):=cond (Bi ((path.length:Nat):Int) 0) (some (part,e)) (cond (Bi ((e.kids.length:Nat):Int) 0) (some (part,e)) ((path[0]?).bind fun x1=>(LS (rB x1) ((e.kids.length:Nat):Int)).bind fun z2=>(LP e.kids z2).bind fun x3=>(Jn path 1 ((path.length:Nat):Int)).bind fun l4=>(Hi x3 l4 part).bind fun (y5a,y5b)=>Sv (e.kids.length) ((Iv e.kids.length z2).bind fun k7=>(e.kids[k7]?).bind fun x8=>some ((⟨e.kind,e.name,e.unit,e.n,e.fr,e.to,e.known,e.tab,(e.kids.set k7 y5a),e.att⟩:Nd),y5b))))
theorem Nl (Hi:Nd→(List Int)→Nd→Option (Nd×Nd)) (Qk:∀ {e:Nd} {path:(List Int)} {part:Nd} {yR:(Nd×Nd)},Hi e path part=some yR→Pure P G 24 [.agg (BA e),.sl .lost path.length (rows QW path),.agg (BA part)] (.Bq [.agg (BA yR.1),.agg (BA yR.2)])) {e:Nd} {path:(List Int)} {part:Nd} {yR:(Nd×Nd)} (h:Hp Hi e path part=some yR):Pure P G 24 [.agg (BA e),.sl .lost path.length (rows QW path),.agg (BA part)] (.Bq [.agg (BA yR.1),.agg (BA yR.2)]):=by
 unfold Hp at h
 refine kI Hd.mixed Hd.Ad (Xj Tryz.func24 u9 ?_) (Bd (AK.Gt e) (Bd (Tz.Hx path) (Bd (AK.Gt part) rfl))) (Bd (AK.Gt yR.1) (Bd (AK.Gt yR.2) rfl))
 revert h
 refine Ae (fun hb1=>?_) fun hb1=>?_
 intro h
 have hE:=Option.some.inj h
 subst hE
 exact cO (.Bq [.agg (BA part),.agg (BA e)]) ⟨[(3,.cells (BA e)),(2,.cells (BA part)),(1,.cells (BA part)),(0,.cells (BA e))],4,[],0⟩ (Ac 300 [pb hb1,oR]) (by kernel_rfl) (.r (.plain (Bd (AK.Gt part) (Bd (AK.Gt e) rfl))) .nil)
 refine Ae (fun hb2=>?_) fun hb2=>?_
 intro h
 have hE:=Option.some.inj h
 subst hE
 exact cO (.Bq [.agg (BA part),.agg (BA e)]) ⟨[(3,.cells (BA e)),(2,.cells (BA part)),(1,.cells (BA part)),(0,.cells (BA e))],4,[],0⟩ (Ac 300 [pb hb1,pb hb2,oR]) (by kernel_rfl) (.r (.plain (Bd (AK.Gt part) (Bd (AK.Gt e) rfl))) .nil)
 refine Ai fun x1 hx1=>?_
 refine Ai fun z2 hz2=>?_
 refine Ai fun x3 hx3=>?_
 refine Ai fun l4 hl4=>?_
 refine Ai ?_
 rintro ⟨y5a,y5b⟩ hy5
 dsimp only
 refine bF fun hl6=>?_
 refine Ai fun k7 hk7=>?_
 refine Ai fun x8 hx8=>?_
 intro h
 have hE:=Option.some.inj h
 subst hE
 exact cO (.Bq [.agg [.sc (.int .i64 e.kind),.sc (.string e.name),.sc (.string e.unit),.sc (.int .i64 e.n),.sc (.int .i64 e.fr),.sc (.int .i64 e.to),.sc (.int .i64 e.known),.sc (.int .i64 e.tab.den),.sl .lost e.tab.ps.length (rows MH e.tab.ps),.msl 7 0 e.kids.length,.sc (.int .i64 e.att)],.agg (BA y5b)]) ⟨[(7,(.cells (CC (e.kids.set k7 y5a)))),(6,.cells [.sc (.int .i64 e.kind),.sc (.string e.name),.sc (.string e.unit),.sc (.int .i64 e.n),.sc (.int .i64 e.fr),.sc (.int .i64 e.to),.sc (.int .i64 e.known),.sc (.int .i64 e.tab.den),.sl .lost e.tab.ps.length (rows MH e.tab.ps),.msl 7 0 e.kids.length,.sc (.int .i64 e.att)]),(5,.cells (BA y5b)),(4,.cells (BA y5a)),(3,.cells (BA y5b)),(2,.cells [.sc (.int .i64 e.kind),.sc (.string e.name),.sc (.string e.unit),.sc (.int .i64 e.n),.sc (.int .i64 e.fr),.sc (.int .i64 e.to),.sc (.int .i64 e.known),.sc (.int .i64 e.tab.den),.sl .lost e.tab.ps.length (rows MH e.tab.ps),.msl 7 0 e.kids.length,.sc (.int .i64 e.att)]),(1,.cells (BA part)),(0,.cells (BA e))],8,[],0⟩ (Ac 300 [pb hb1,pb hb2,Dh (rI .lost hx1),Kl (MQ hz2 (.tmp 26) (.tmp 29)),Dh (oG .lost hx3),S0 (aL hl4),Aj (Qk hy5),qX (lY e.kids (o:=.lost) (by have:=lM hb2;omega) hl6),Dh (gI (id:=7) hk7),sT (mT hx8 y5a),oR]) (by kernel_rfl) (.u (.g (.r .sc (.r .sc (.r .sc (.r .sc (.r .sc (.r .sc (.r .sc (.r .sc (.r (.plain (J7.Hx e.tab.ps)) (.fl rfl (AK.Bd (e.kids.set k7 y5a)) (by simp) (.r .sc .nil))))))))))) (.r (.plain (AK.Gt y5b)) .nil)) .nil)
noncomputable def DC:Nat→Nd→(List Int)→Nd→Option (Nd×Nd)
 | 0,_,_,_=>none
 | qn+1,e,path,part=>Hp (DC qn) e path part
theorem OA:∀ qn:Nat,∀ {e:Nd} {path:(List Int)} {part:Nd} {yR:(Nd×Nd)},DC qn e path part=some yR→Pure P G 24 [.agg (BA e),.sl .lost path.length (rows QW path),.agg (BA part)] (.Bq [.agg (BA yR.1),.agg (BA yR.2)]):=by
 intro qn
 induction qn with
 | zero=>exact (fun h=>by simp only [DC] at h;cases h)
 | succ qn ih=>exact (fun h=>Nl (DC qn) ih (by rw [DC] at h;exact h))
noncomputable def Jh (e:Nd) (path:(List Int)) (part:Nd):Option (Nd×Nd):=Vf (fun qn=>DC qn e path part)
theorem P9 {e:Nd} {path:(List Int)} {part:Nd} {yR:(Nd×Nd)} (h:Jh e path part=some yR):Pure P G 24 [.agg (BA e),.sl .lost path.length (rows QW path),.agg (BA part)] (.Bq [.agg (BA yR.1),.agg (BA yR.2)]):=by
 obtain ⟨qn,h⟩:=Sg h
 exact (OA qn) h
end Mo
end Go.Proofs.YtkfplcngmiljaaaGreatDoor

