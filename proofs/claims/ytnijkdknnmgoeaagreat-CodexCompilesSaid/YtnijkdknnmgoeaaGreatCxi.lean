/- Part of a proof: see the last text. -/
import Derived.Test.YtnijkdknnmgoeaaGreatCxh
set_option linter.unusedVariables false
set_option linter.unusedSimpArgs false
namespace Go.Proofs.YtnijkdknnmgoeaaGreat
open AI Go
namespace Mo
set_option maxRecDepth 100000
set_option maxHeartbeats 4000000
noncomputable def Fu  (depth:Int) (i0:Nat) (e0:Nd) (w0_0:Int):Option (Lp Int Int (Bool×Int)):=(De (⟨w0_0⟩:Ck) e0 depth).bind fun (y1a,y1b)=>cond y1a (some (.nx y1b)) (some (.rt (false,y1b)))
noncomputable def D2  (c:Ck) (list:(List Nd)) (depth:Int):Option (Bool×Int):=(GW list.length (AL (fun i y x=>Fu  depth i y x) (fun x=>x) (list.drop 0) 0 c.nodes)).bind (GQ (fun (w0_0_2:Int)=>some (true,w0_0_2)) (fun v=>some v))
theorem Lq {c:Ck} {list:(List Nd)} {depth:Int} {yR:Bool} {qc_nodesR:Int} (hS:Sound P G (.call 79 [.ptr 0 0,.sl .lost list.length (Cg list),.zi depth,.fn (.func 80) [.ptr 0 0] []] ⟨[(0,.cells (He c))],1,[],0⟩ (.ret (.zb yR)) ⟨[(0,.cells [.zi qc_nodesR])],1,[],0⟩)) (u0:Nat) (hnb:([u0]:List Nat).Nodup:=by decide) (hnt:([]:List Nat).Nodup:=by decide):Cd.ok P G (.callU 79 [.ptr u0 0,.sl .lost list.length (Cg list),.zi depth,.fn (.func 80) [.ptr u0 0] []] (.ret (.zb yR)) [(u0,.cells (He c))] [] [(u0,.cells [.zi qc_nodesR])] []) :=
 CS (M:=[.cells (He c)]) (M2:=[.cells [.zi qc_nodesR]]) (T:=[]) (T2:=[]) (k:=1) (j:=0) Hd.Aa _ _ _ _ hS rfl rfl rfl rfl rfl hnb hnt rfl rfl (.cons (.cells (.pl (Ni.pl c))) .nil) (.cons (.cells (.pl (AW rfl rfl))) .nil) (.cons (.ptr (by decide)) (.cons (.pl (Am.Bk list)) (.cons (.pl rfl) (.cons (.fn (.cons (.ptr (by decide)) .nil) (.pl rfl)) .nil)))) (.pl rfl) (fun e he=>by simp only [List.mem_singleton] at he;subst he;exact (.arg (.here .ptr)))
theorem Ke   {c:Ck} {list:(List Nd)} {depth:Int} {yR:Bool} {qc_nodesR:Int} (h:D2  c list depth=some (yR,qc_nodesR)):Sound P G (.call 79 [.ptr 0 0,.sl .lost list.length (Cg list),.zi depth,.fn (.func 80) [.ptr 0 0] []] ⟨[(0,.cells (He c))],1,[],0⟩ (.ret (.zb yR)) ⟨[(0,.cells [.zi qc_nodesR])],1,[],0⟩):=by
 unfold D2 at h
 refine CT Hd.mixed (Ay Tryz.func79 b79 ?_)
 revert h
 refine DF (fun Q v=>Iu P G Tryz.f79 1 ⟨[(0,.cells (He c))],1,[],0⟩ Q (.zb v.1) ⟨[(0,.cells [.zi v.2])],1,[],0⟩) (fun i0 (w0_0:Int) (j0:List Value)=>fr 23 [(2,.zi depth),(3,.fn (.func 80) [.ptr 0 0] []),(11,.sl .lost list.length (Cg list)),(12,.zi ((list.length:Nat):Int)),(13,.zi ((i0:Nat):Int))] [8,14,20,21] j0) (fun (w0_0:Int)=>⟨[(0,.cells [.zi w0_0])],1,[],0⟩) (fun (w0_0:Int) (jx:List Value)=>fr 23 [] [8,14,20,21] jx) (fun (w0_0:Int)=>⟨[(0,.cells [.zi w0_0])],1,[],0⟩) [bF] (Dq [] 0 (sb oT 52) [.code (sb oT 7)] (Ag 300 []) (by kernel_rfl)) ?_ ?_ ?_ (fun v h=>by cases h;exact .outer .body)
 rintro i0 w0_0 j0 hge hq
 exact B1 (Ag 300 [pb (IJ hge)]) (by kernel_rfl) (hq (js 4 j0 [(1,bF)]))
 rintro i0 e0 w0_0 j0 r he0 hi0 mi0 k
 show Fu  depth i0 e0 w0_0=some r→_
 unfold Fu
 refine Ah ?_
 rintro ⟨y1a,y1b⟩ hy1
 dsimp only
 let o1:LP:=[pb (Fk hi0),BT (BQ .lost he0),AG (Nr (LY hy1) 0)]
 refine Ad (fun hv=>?_) fun hv=>?_
 subst hv
 rintro ⟨⟩
 exact Bt Hd.Aa [fq (Am.Bk list)] [none] (Ag 300 (o1++[pi mi0])) (by kernel_rfl) (k [(jv j0 0),bT,bT,bF])
 subst hv
 rintro ⟨⟩
 exact Ao Hd.Aa _ _ [] [none] (Ag 300 o1) (by kernel_rfl) (.Em k)
 rintro w0_0_2 jx_2
 rintro ⟨⟩
 exact Ao Hd.Aa _ _ [] [none] (BJ 300 []) (by kernel_rfl) .body
noncomputable def B45:Code:=AY Tryz.f45
theorem b45:Tryz.f45.body=some B45:=by kernel_rfl
noncomputable def DO  (n:Nd):Option Bool:=cond (Bp n.kind 1) ((BI (⟨0⟩:Ck) n 1).bind fun (y1a,y1b)=>cond y1a ((Bx n (⟨0,ByteArray.empty,ByteArray.empty,0,0,0,0,(⟨0,[]⟩:Fn),[],0⟩:Nd)).bind fun y2=>cond y2 ((D2 (⟨y1b⟩:Ck) n.kids 2).bind fun (y3a,y3b)=>some y3a) (some false)) (some false)) ((D5 (⟨0⟩:Ck) n 1).bind fun (y4a,y4b)=>some y4a)
theorem EI   {n:Nd} {yR:Bool} (h:DO  n=some yR):Pure P G 45 [.agg (Bo n)] (.zb yR):=by
 unfold DO at h
 refine BF Hd.mixed Hd.Aa (Ay Tryz.func45 b45 ?_) (AW (Am.Dp n) rfl) rfl
 revert h
 refine Ad (fun hb1=>?_) fun hb1=>?_
 refine Ah ?_
 rintro ⟨y1a,y1b⟩ hy1
 dsimp only
 let o1:LP:=[pn hb1,AG (D4 (Df hy1) 1)]
 refine Ad (fun hv=>?_) fun hv=>?_
 subst hv
 refine Ah fun y2 hy2=>?_
 let o2:LP:=o1++[Fl (.r (.g (.r (.r (.r (.r (.r (.r (.r (.r (.z (.z (.r .nil))))))))))) .nil)) (BD hy2)]
 refine Ad (fun hv=>?_) fun hv=>?_
 subst hv
 refine Ah ?_
 rintro ⟨y3a,y3b⟩ hy3
 dsimp only
 rintro ⟨⟩
 exact rT (o2++[AG (Lq (Ke hy3) 1)])
 subst hv
 rintro ⟨⟩
 exact rT o2
 subst hv
 rintro ⟨⟩
 exact rT o1
 refine Ah ?_
 rintro ⟨y4a,y4b⟩ hy4
 dsimp only
 rintro ⟨⟩
 exact rT [pn hb1,AG (A9 (I4 hy4) 1)]
noncomputable def B81:Code:=AY Tryz.f81
theorem b81:Tryz.f81.body=some B81:=by kernel_rfl
noncomputable def G8  :Option Unit:=some ()
theorem Qm  (hS:Sound P G (.call 81 [] ⟨[],0,[],0⟩ (.ret (.Bd [.ptr 0 0,.fn (.func 127) [] [.ptr 0 0]])) ⟨[(0,.cells [.sl .full 0 []])],1,[],0⟩)) (nx nr:Nat):Cd.ok P G (.callN 81 [] nx nr (.Bd [.ptr (nx+0) 0,.fn (.func 127) [] [.ptr (nx+0) 0]]) [((nx+0),.cells [.sl .full 0 []])] 1 [] 0) :=
 Yr Hd.Aa hS rfl (.Bd (.cons (.ptr (by decide)) (.cons (.fn (.pl rfl) (.cons (.ptr (by decide)) .nil)) .nil))) (.cons (.cells (.pl (AW (Gx rfl) rfl))) .nil)
theorem NA  (h:G8 =some ()):Sound P G (.call 81 [] ⟨[],0,[],0⟩ (.ret (.Bd [.ptr 0 0,.fn (.func 127) [] [.ptr 0 0]])) ⟨[(0,.cells [.sl .full 0 []])],1,[],0⟩):=by
 unfold G8 at h
 refine YE Hd.mixed (Ta (m:=1) Tryz.func81 b81 ?_)
 revert h
 intro h
 exact V7 (n:=1) (m0:=0) Hd.Aa _ _ [0] [1] [⟨.Bd [.ptr 0 0,.fn (.func 127) [] [.ptr 0 0]],.Bd [.ptr 0 0,.fn (.func 127) [] [.ptr 0 0]],(.under (Av rfl (Av (aem rfl (Av rfl rfl)) rfl)))⟩] [fbp [.sl .full 0 []] (AW (Gx rfl) rfl)] _ _ (Ag 300 []) (Nat.zero_le _) (Nat.zero_le _) (by kernel_rfl) .body
noncomputable def B82:Code:=AY Tryz.f82
theorem b82:Tryz.f82.body=some B82:=by kernel_rfl
noncomputable def Eu   (i0:Nat) (e0:Nd) (w2_m:(Mm ByteArray ByteArray)) (w3_m:(Mm ByteArray ByteArray)) (w4_m:(Mm Int ByteArray)):Option (Lp ((Mm ByteArray ByteArray)×(Mm ByteArray ByteArray)×(Mm Int ByteArray)) ((Mm ByteArray ByteArray)×(Mm ByteArray ByteArray)×(Mm Int ByteArray)) Sc):=cond (Bp e0.kind 2) (cond ((w2_m.get e0.name).isSome) (some (.nx (w2_m,w3_m,w4_m))) (some (.nx ((w2_m.set e0.name e0.unit),w3_m,w4_m)))) (cond (Bp e0.kind 3) (cond ((w3_m.get e0.name).isSome) (some (.nx (w2_m,w3_m,w4_m))) (some (.nx (w2_m,(w3_m.set e0.name e0.unit),w4_m)))) (cond (Bp e0.kind 4) (cond ((w4_m.get e0.n).isSome) (some (.nx (w2_m,w3_m,w4_m))) (some (.nx (w2_m,w3_m,(w4_m.set e0.n e0.name))))) (some (.nx (w2_m,w3_m,w4_m)))))
noncomputable def Gf  (source:Nd):Option Sc:=(GW source.kids.length (AL (fun i y x=>Eu   i y x.1 x.2.1 x.2.2) (fun x=>(x.1,x.2.1,x.2.2)) (source.kids.drop 0) 0 ((Mm.nil:Mm ByteArray ByteArray),(Mm.nil:Mm ByteArray ByteArray),(Mm.nil:Mm Int ByteArray)))).bind (GQ (fun ((w2_m_1,w3_m_1,w4_m_1):((Mm ByteArray ByteArray)×(Mm ByteArray ByteArray)×(Mm Int ByteArray)))=>some (⟨w2_m_1,w3_m_1,w4_m_1⟩:Sc)) (fun v=>some v))
theorem QY {source:Nd} {y0R:Sc} (hS:Sound P G (.call 82 [.agg (Bo source)] ⟨[],0,[],0⟩ (.ret (.agg [.mp 2,.mp 3,.mp 4])) ⟨[(4,(D1 y0R.Af)),(3,(BP y0R.lines)),(2,(BP y0R.facts))],5,[],0⟩)) (nx nr:Nat):Cd.ok P G (.callN 82 [.agg (Bo source)] nx nr (.agg [.mp (nx+2),.mp (nx+3),.mp (nx+4)]) [((nx+4),(D1 y0R.Af)),((nx+3),(BP y0R.lines)),((nx+2),(BP y0R.facts))] 5 [] 0) :=
 Yr Hd.Aa hS (AW (Am.Dp source) rfl) (.agg (.cons (.mp (by decide)) (.cons (.mp (by decide)) (.cons (.mp (by decide)) .nil)))) (.cons (BK (fun _=>rfl)) (.cons (BK (fun _=>rfl)) (.cons (BK (fun _=>rfl)) .nil)))
theorem Ox {source:Nd} {y0R:Sc} (h:Gf source=some y0R):Sound P G (.call 82 [.agg (Bo source)] ⟨[],0,[],0⟩ (.ret (.agg [.mp 2,.mp 3,.mp 4])) ⟨[(4,(D1 y0R.Af)),(3,(BP y0R.lines)),(2,(BP y0R.facts))],5,[],0⟩):=by
 unfold Gf at h
 refine YE Hd.mixed (Ta (m:=5) Tryz.func82 b82 ?_)
 revert h
 refine DF (fun Q v=>Iu P G Tryz.f82 5 ⟨[],0,[],0⟩ Q (.agg [.mp 2,.mp 3,.mp 4]) ⟨[(4,(D1 v.Af)),(3,(BP v.lines)),(2,(BP v.facts))],5,[],0⟩) (fun i0 ((w2_m,w3_m,w4_m):((Mm ByteArray ByteArray)×(Mm ByteArray ByteArray)×(Mm Int ByteArray))) (j0:List Value)=>fr 81 [(2,.ptr 1 0),(3,.ptr 5 0),(17,.sl .lost source.kids.length (Cg source.kids)),(18,.zi ((source.kids.length:Nat):Int)),(19,.zi ((i0:Nat):Int))] [7,9,11,20,25,26,34,35,36,43,44,52,53,54,61,62,70,71,72] j0) (fun ((w2_m,w3_m,w4_m):((Mm ByteArray ByteArray)×(Mm ByteArray ByteArray)×(Mm Int ByteArray)))=>⟨[(5,.cells [.mp 2,.mp 3,.mp 4]),(4,(D1 w4_m)),(3,(BP w3_m)),(2,(BP w2_m)),(1,.cells [.sc (.map none),.sc (.map none),.sc (.map none)]),(0,.cells (Bo source))],6,[],0⟩) (fun ((w2_m,w3_m,w4_m):((Mm ByteArray ByteArray)×(Mm ByteArray ByteArray)×(Mm Int ByteArray))) (jx:List Value)=>fr 81 [(2,.ptr 1 0),(3,.ptr 5 0)] [7,9,11,20,25,26,34,35,36,43,44,52,53,54,61,62,70,71,72] jx) (fun ((w2_m,w3_m,w4_m):((Mm ByteArray ByteArray)×(Mm ByteArray ByteArray)×(Mm Int ByteArray)))=>⟨[(5,.cells [.mp 2,.mp 3,.mp 4]),(4,(D1 w4_m)),(3,(BP w3_m)),(2,(BP w2_m)),(1,.cells [.sc (.map none),.sc (.map none),.sc (.map none)]),(0,.cells (Bo source))],6,[],0⟩) [] (Dq [] 0 (sb B82 116) [.code (sb B82 15)] (Ag 300 []) (by kernel_rfl)) ?_ ?_ ?_ (fun v h=>by cases h;exact .outer .body)
 rintro i0 ⟨w2_m,w3_m,w4_m⟩ j0 hge hq
 exact B1 (Ag 300 [pb (IJ hge)]) (by kernel_rfl) (hq (js 19 j0 [(3,bF)]))
 rintro i0 e0 ⟨w2_m,w3_m,w4_m⟩ j0 r he0 hi0 mi0 k
 show Eu   i0 e0 w2_m w3_m w4_m=some r→_
 unfold Eu
 let o1:LP:=[pb (Fk hi0),BT (BQ .lost he0)]
 refine Ad (fun hb1=>?_) fun hb1=>?_
 refine Ad (fun hb2=>?_) fun hb2=>?_
 rintro ⟨⟩
 exact Bt Hd.Aa [fq (Am.Bk source.kids)] [none,Cv w4_m,Bg w3_m,Bg w2_m,none,bp (Am.pl source)] (Ag 300 (o1++[pb hb1,Ko (Pk w2_m e0.name hb2),pi mi0])) (by kernel_rfl) (k (js 19 j0 [(0,bT),(3,bT),(4,bT),(5,bT),(6,bT),(7,bT),(8,bF)]))
 rintro ⟨⟩
 exact Bt Hd.Aa [fq (Am.Bk source.kids)] [none,Cv w4_m,Bg w3_m,Bg (w2_m.set e0.name e0.unit),none,bp (Am.pl source)] (Ag 300 (o1++[pb hb1,Ko (Pk w2_m e0.name hb2),VS (tW w2_m e0.name e0.unit),pi mi0])) (by kernel_rfl) (k (js 19 j0 [(0,bF),(3,bT),(4,bT),(5,bT),(6,bF),(7,bF),(8,bT)]))
 refine Ad (fun hb3=>?_) fun hb3=>?_
 refine Ad (fun hb4=>?_) fun hb4=>?_
 rintro ⟨⟩
 exact Bt Hd.Aa [fq (Am.Bk source.kids)] [none,Cv w4_m,Bg w3_m,Bg w2_m,none,bp (Am.pl source)] (Ag 300 (o1++[pb hb1,pb hb3,Ko (Pk w3_m e0.name hb4),pi mi0])) (by kernel_rfl) (k (js 19 j0 [(1,bT),(3,bT),(4,bF),(5,bF),(9,bT),(10,bT),(11,bT),(12,bT),(13,bF)]))
 rintro ⟨⟩
 exact Bt Hd.Aa [fq (Am.Bk source.kids)] [none,Cv w4_m,Bg (w3_m.set e0.name e0.unit),Bg w2_m,none,bp (Am.pl source)] (Ag 300 (o1++[pb hb1,pb hb3,Ko (Pk w3_m e0.name hb4),VS (tW w3_m e0.name e0.unit),pi mi0])) (by kernel_rfl) (k (js 19 j0 [(1,bF),(3,bT),(4,bF),(5,bF),(9,bT),(10,bT),(11,bF),(12,bF),(13,bT)]))
 refine Ad (fun hb5=>?_) fun hb5=>?_
 refine Ad (fun hb6=>?_) fun hb6=>?_
 rintro ⟨⟩
 exact Bt Hd.Aa [fq (Am.Bk source.kids)] [none,Cv w4_m,Bg w3_m,Bg w2_m,none,bp (Am.pl source)] (Ag 300 (o1++[pb hb1,pb hb3,pb hb5,Ko (Vo w4_m e0.n hb6),pi mi0])) (by kernel_rfl) (k (js 19 j0 [(2,bT),(3,bT),(4,bF),(5,bF),(9,bF),(10,bF),(14,bT),(15,bT),(16,bT),(17,bT),(18,bF)]))
 rintro ⟨⟩
 exact Bt Hd.Aa [fq (Am.Bk source.kids)] [none,Cv (w4_m.set e0.n e0.name),Bg w3_m,Bg w2_m,none,bp (Am.pl source)] (Ag 300 (o1++[pb hb1,pb hb3,pb hb5,Ko (Vo w4_m e0.n hb6),VS (ab8 w4_m e0.n e0.name),pi mi0])) (by kernel_rfl) (k (js 19 j0 [(2,bF),(3,bT),(4,bF),(5,bF),(9,bF),(10,bF),(14,bT),(15,bT),(16,bF),(17,bF),(18,bT)]))
 rintro ⟨⟩
 exact Bt Hd.Aa [fq (Am.Bk source.kids)] [none,Cv w4_m,Bg w3_m,Bg w2_m,none,bp (Am.pl source)] (Ag 300 (o1++[pb hb1,pb hb3,pb hb5,pi mi0])) (by kernel_rfl) (k (js 19 j0 [(3,bT),(4,bF),(5,bF),(9,bF),(10,bF),(14,bF),(15,bF)]))
 rintro ⟨w2_m_1,w3_m_1,w4_m_1⟩ jx_1
 dsimp only
 rintro ⟨⟩
 exact V7 (n:=5) (m0:=0) Hd.Aa _ _ [4,3,2] [1] [⟨.agg [.mp 2,.mp 3,.mp 4],.agg [.mp 2,.mp 3,.mp 4],(.under (Av rfl (Av rfl (Av rfl rfl))))⟩] [⟨(D1 w4_m_1),(D1 w4_m_1),(Jo (fun _=>rfl))⟩,⟨(BP w3_m_1),(BP w3_m_1),(Jo (fun _=>rfl))⟩,⟨(BP w2_m_1),(BP w2_m_1),(Jo (fun _=>rfl))⟩] _ _ (BJ 300 []) (Nat.zero_le _) (Nat.zero_le _) (by kernel_rfl) .body
noncomputable def ad9:Code:=AY Tryz.f128
theorem ae2:Tryz.f128.body=some ad9:=by kernel_rfl
noncomputable def F6  (unit:ByteArray):Option Bool:=cond (BC unit.data.toList ByteArray.empty.data.toList) (some false) (cond (BC unit.data.toList Ak.data.toList) (some false) (cond (BC unit.data.toList AF.data.toList) (some false) (cond (BC unit.data.toList BM.data.toList) (some false) (some true))))
theorem Gm   {unit:ByteArray} {yR:Bool} (h:F6  unit=some yR):Pure P G 128 [.zs unit] (.zb yR):=by
 unfold F6 at h
 refine BF Hd.mixed Hd.Aa (Ay Tryz.func128 ae2 ?_) (AW rfl rfl) rfl
 revert h
 refine Ad (fun hb1=>?_) fun hb1=>?_
 rintro ⟨⟩
 exact rT [pb hb1]
 refine Ad (fun hb2=>?_) fun hb2=>?_
 rintro ⟨⟩
 exact rT [pb hb1,pb hb2]
 refine Ad (fun hb3=>?_) fun hb3=>?_
 rintro ⟨⟩
 exact rT [pb hb1,pb hb2,pb hb3]
 refine Ad (fun hb4=>?_) fun hb4=>?_
 rintro ⟨⟩
 exact rT [pb hb1,pb hb2,pb hb3,pb hb4]
 rintro ⟨⟩
 exact rT [pb hb1,pb hb2,pb hb3,pb hb4]
noncomputable def aaT:Code:=AY Tryz.f189
theorem aeu:Tryz.f189.body=some aaT:=by kernel_rfl
noncomputable def aeg:Code:=AY Tryz.f165
theorem aeW:Tryz.f165.body=some aeg:=by kernel_rfl
noncomputable def aeY:Code:=AY Tryz.f127
theorem adw:Tryz.f127.body=some aeY:=by kernel_rfl
noncomputable def AD  (err:Int) (at_:Int) (a2:(List Dg)):Option (Unit×(List Dg)):=cond (DH ((a2.length:Nat):Int) 20) (Lt (a2.length+1) (some ((),(a2++[(⟨err,at_⟩:Dg)])))) (some ((),a2))
theorem AP {err:Int} {at_:Int} {a2:(List Dg)} {qa2R:(List Dg)} (hS:Sound P G (.call 127 [.zi err,.zi at_,.ptr 0 0] ⟨[(0,.cells [.sl (.row 0 2) a2.length (rows BX a2)])],1,[(0,a2.length)],1⟩ (.ret (.Bd [])) ⟨[(0,.cells [.sl (.row 0 2) qa2R.length (rows BX qa2R)])],1,[(0,qa2R.length)],1⟩)) (u0 v0:Nat) (hnb:([u0]:List Nat).Nodup:=by decide) (hnt:([v0]:List Nat).Nodup:=by decide):Cd.ok P G (.callU 127 [.zi err,.zi at_,.ptr u0 0] (.ret (.Bd [])) [(u0,.cells [.sl (.row v0 2) a2.length (rows BX a2)])] [(v0,a2.length)] [(u0,.cells [.sl (.row v0 2) qa2R.length (rows BX qa2R)])] [(v0,qa2R.length)]) :=
 CS (M:=[.cells [.sl (.row 0 2) a2.length (rows BX a2)]]) (M2:=[.cells [.sl (.row 0 2) qa2R.length (rows BX qa2R)]]) (T:=[a2.length]) (T2:=[qa2R.length]) (k:=1) (j:=1) Hd.Aa _ _ _ _ hS rfl rfl rfl rfl rfl hnb hnt rfl rfl (.cons (.cells (.cons (.row (by decide) (AO.AW a2)) .nil)) .nil) (.cons (.cells (.cons (.row (by decide) (AO.AW qa2R)) .nil)) .nil) (.cons (.pl rfl) (.cons (.pl rfl) (.cons (.ptr (by decide)) .nil))) (.pl rfl) (fun e he=>by simp only [List.mem_singleton] at he;subst he;exact (.arg (.there (.there (.here .ptr)))))
theorem AE   {err:Int} {at_:Int} {a2:(List Dg)} {yR:Unit} {qa2R:(List Dg)} (h:AD  err at_ a2=some (yR,qa2R)):Sound P G (.call 127 [.zi err,.zi at_,.ptr 0 0] ⟨[(0,.cells [.sl (.row 0 2) a2.length (rows BX a2)])],1,[(0,a2.length)],1⟩ (.ret (.Bd [])) ⟨[(0,.cells [.sl (.row 0 2) qa2R.length (rows BX qa2R)])],1,[(0,qa2R.length)],1⟩):=by
 unfold AD at h
 refine CT Hd.mixed (Ay Tryz.func127 adw ?_)
 revert h
 refine Ad (fun hb1=>?_) fun hb1=>?_
 refine Kz fun hl1=>?_
 rintro ⟨⟩
 exact FL Hd.Aa _ _ [⟨.Bd [],.Bd [],(.plain rfl)⟩] [br AO 0 2 (a2++[(⟨err,at_⟩:Dg)])] (Ag 300 [pb hb1,Nk (ZC (.row 0 2) a2 [(⟨err,at_⟩:Dg)] (o:=.full) (n:=1) (ns:=[.zi err,.zi at_]) (AO.wn [(⟨err,at_⟩:Dg)] (.r (.r .nil))) rfl rfl (by simp) (by simpa using hl1))]) (by kernel_rfl)
 rintro ⟨⟩
 exact FL Hd.Aa _ _ [⟨.Bd [],.Bd [],(.plain rfl)⟩] [br AO 0 2 a2] (Ag 300 [pb hb1]) (by kernel_rfl)
noncomputable def B83:Code:=AY Tryz.f83
theorem b83:Tryz.f83.body=some B83:=by kernel_rfl
noncomputable def Cb   (i0:Nat) (e0:Nd) (w5_m:(Mm ByteArray Bool)) (w2_m:(Mm Int Int)) (w0_0:(List Dg)) (w4_m:(Mm ByteArray Bool)):Option (Lp ((Mm ByteArray Bool)×(Mm Int Int)×(List Dg)×(Mm ByteArray Bool)) ((Mm ByteArray Bool)×(Mm Int Int)×(List Dg)×(Mm ByteArray Bool)) (Unit×(List Dg))):=cond (Bp e0.kind 4) (some (.nx (w5_m,w2_m,w0_0,w4_m))) (cond (Bp e0.kind 3) (cond ((w5_m.get e0.name).getD false) ((AD 5 e0.att w0_0).bind fun (y1a,y1b)=>some (.nx ((w5_m.set e0.name true),(w2_m.set e0.kind (BW ((w2_m.get e0.kind).getD 0) 1)),y1b,w4_m))) (cond (DH 32 (((w2_m.set e0.kind (BW ((w2_m.get e0.kind).getD 0) 1)).get e0.kind).getD 0)) ((AD 2 e0.att w0_0).bind fun (y2a,y2b)=>some (.nx ((w5_m.set e0.name true),(w2_m.set e0.kind (BW ((w2_m.get e0.kind).getD 0) 1)),y2b,w4_m))) (cond (BC e0.unit.data.toList Ak.data.toList) ((AD 11 e0.att w0_0).bind fun (y3a,y3b)=>some (.nx ((w5_m.set e0.name true),(w2_m.set e0.kind (BW ((w2_m.get e0.kind).getD 0) 1)),y3b,w4_m))) (cond (Bp e0.n 4) (some (.nx ((w5_m.set e0.name true),(w2_m.set e0.kind (BW ((w2_m.get e0.kind).getD 0) 1)),w0_0,w4_m))) ((F6 e0.unit).bind fun y4=>cond y4 (some (.nx ((w5_m.set e0.name true),(w2_m.set e0.kind (BW ((w2_m.get e0.kind).getD 0) 1)),w0_0,w4_m))) ((AD 11 e0.att w0_0).bind fun (y5a,y5b)=>some (.nx ((w5_m.set e0.name true),(w2_m.set e0.kind (BW ((w2_m.get e0.kind).getD 0) 1)),y5b,w4_m)))))))) (cond (Bp e0.kind 2) (cond ((w4_m.get e0.name).getD false) ((AD 5 e0.att w0_0).bind fun (y6a,y6b)=>some (.nx (w5_m,(w2_m.set e0.kind (BW ((w2_m.get e0.kind).getD 0) 1)),y6b,(w4_m.set e0.name true)))) (cond (DH 32 (((w2_m.set e0.kind (BW ((w2_m.get e0.kind).getD 0) 1)).get e0.kind).getD 0)) ((AD 2 e0.att w0_0).bind fun (y7a,y7b)=>some (.nx (w5_m,(w2_m.set e0.kind (BW ((w2_m.get e0.kind).getD 0) 1)),y7b,(w4_m.set e0.name true)))) (some (.nx (w5_m,(w2_m.set e0.kind (BW ((w2_m.get e0.kind).getD 0) 1)),w0_0,(w4_m.set e0.name true)))))) (none)))
noncomputable def CQ  (source:Nd) (report:(List Dg)):Option (Unit×(List Dg)):=(GW source.kids.length (AL (fun i y x=>Cb   i y x.1 x.2.1 x.2.2.1 x.2.2.2) (fun x=>(x.1,x.2.1,x.2.2.1,x.2.2.2)) (source.kids.drop 0) 0 ((Mm.nil:Mm ByteArray Bool),(Mm.nil:Mm Int Int),report,(Mm.nil:Mm ByteArray Bool)))).bind (GQ (fun ((w5_m_8,w2_m_8,w0_0_8,w4_m_8):((Mm ByteArray Bool)×(Mm Int Int)×(List Dg)×(Mm ByteArray Bool)))=>some ((),w0_0_8)) (fun v=>some v))
theorem KC {source:Nd} {report:(List Dg)} {qreportR:(List Dg)} (hS:Sound P G (.call 83 [.agg (Bo source),.fn (.func 127) [] [.ptr 0 0]] ⟨[(0,.cells [.sl (.row 0 2) report.length (rows BX report)])],1,[(0,report.length)],1⟩ (.ret (.Bd [])) ⟨[(0,.cells [.sl (.row 0 2) qreportR.length (rows BX qreportR)])],1,[(0,qreportR.length)],1⟩)) (u0 v0:Nat) (hnb:([u0]:List Nat).Nodup:=by decide) (hnt:([v0]:List Nat).Nodup:=by decide):Cd.ok P G (.callU 83 [.agg (Bo source),.fn (.func 127) [] [.ptr u0 0]] (.ret (.Bd [])) [(u0,.cells [.sl (.row v0 2) report.length (rows BX report)])] [(v0,report.length)] [(u0,.cells [.sl (.row v0 2) qreportR.length (rows BX qreportR)])] [(v0,qreportR.length)]) :=
 CS (M:=[.cells [.sl (.row 0 2) report.length (rows BX report)]]) (M2:=[.cells [.sl (.row 0 2) qreportR.length (rows BX qreportR)]]) (T:=[report.length]) (T2:=[qreportR.length]) (k:=1) (j:=1) Hd.Aa _ _ _ _ hS rfl rfl rfl rfl rfl hnb hnt rfl rfl (.cons (.cells (.cons (.row (by decide) (AO.AW report)) .nil)) .nil) (.cons (.cells (.cons (.row (by decide) (AO.AW qreportR)) .nil)) .nil) (.cons (.pl (Am.Dp source)) (.cons (.fn (.pl rfl) (.cons (.ptr (by decide)) .nil)) .nil)) (.pl rfl) (fun e he=>by simp only [List.mem_singleton] at he;subst he;exact (.arg (.there (.here (.fn2 (.here .ptr))))))
theorem JF   {source:Nd} {report:(List Dg)} {yR:Unit} {qreportR:(List Dg)} (h:CQ  source report=some (yR,qreportR)):Sound P G (.call 83 [.agg (Bo source),.fn (.func 127) [] [.ptr 0 0]] ⟨[(0,.cells [.sl (.row 0 2) report.length (rows BX report)])],1,[(0,report.length)],1⟩ (.ret (.Bd [])) ⟨[(0,.cells [.sl (.row 0 2) qreportR.length (rows BX qreportR)])],1,[(0,qreportR.length)],1⟩):=by
 unfold CQ at h
 refine CT Hd.mixed (Ay Tryz.func83 b83 ?_)
 revert h
 refine DF (fun Q v=>Iu P G Tryz.f83 1 ⟨[(0,.cells [.sl (.row 0 2) report.length (rows BX report)])],1,[(0,report.length)],1⟩ Q (.Bd []) ⟨[(0,.cells [.sl (.row 0 2) v.2.length (rows BX v.2)])],1,[(0,v.2.length)],1⟩) (fun i0 ((w5_m,w2_m,w0_0,w4_m):((Mm ByteArray Bool)×(Mm Int Int)×(List Dg)×(Mm ByteArray Bool))) (j0:List Value)=>fr 83 [(1,.fn (.func 127) [] [.ptr 0 0]),(4,.mp 2),(5,.mp 3),(15,.sl .lost source.kids.length (Cg source.kids)),(16,.zi ((source.kids.length:Nat):Int)),(17,.zi ((i0:Nat):Int))] [8,18,23,31,32,39,44,49,54,55,56,59,60,63,64,67,68,69,70,71] j0) (fun ((w5_m,w2_m,w0_0,w4_m):((Mm ByteArray Bool)×(Mm Int Int)×(List Dg)×(Mm ByteArray Bool)))=>⟨[(5,(TQ w5_m)),(4,(TQ w4_m)),(3,(.map [(.int .i64 2,.mp 4,0),(.int .i64 3,.mp 5,1)] 2)),(2,(BA w2_m)),(1,.cells (Bo source)),(0,.cells [.sl (.row 0 2) w0_0.length (rows BX w0_0)])],6,[(0,w0_0.length)],1⟩) (fun ((w5_m,w2_m,w0_0,w4_m):((Mm ByteArray Bool)×(Mm Int Int)×(List Dg)×(Mm ByteArray Bool))) (jx:List Value)=>fr 83 [] [8,18,23,31,32,39,44,49,54,55,56,59,60,63,64,67,68,69,70,71] jx) (fun ((w5_m,w2_m,w0_0,w4_m):((Mm ByteArray Bool)×(Mm Int Int)×(List Dg)×(Mm ByteArray Bool)))=>⟨[(5,(TQ w5_m)),(4,(TQ w4_m)),(3,(.map [(.int .i64 2,.mp 4,0),(.int .i64 3,.mp 5,1)] 2)),(2,(BA w2_m)),(1,.cells (Bo source)),(0,.cells [.sl (.row 0 2) w0_0.length (rows BX w0_0)])],6,[(0,w0_0.length)],1⟩) [] (Dq [] 0 (sb B83 124) [] (Ag 300 []) (by kernel_rfl)) ?_ ?_ ?_ (fun v h=>by cases h;exact .outer .body)
 rintro i0 ⟨w5_m,w2_m,w0_0,w4_m⟩ j0 hge hq
 exact B1 (Ag 300 [pb (IJ hge)]) (by kernel_rfl) (hq (js 20 j0 [(1,bF)]))
 rintro i0 e0 ⟨w5_m,w2_m,w0_0,w4_m⟩ j0 r he0 hi0 mi0 k
 show Cb   i0 e0 w5_m w2_m w0_0 w4_m=some r→_
 unfold Cb
 let o1:LP:=[pb (Fk hi0),BT (BQ .lost he0)]
 refine Ad (fun hb1=>?_) fun hb1=>?_
 rintro ⟨⟩
 exact Bt Hd.Aa [fq (Am.Bk source.kids)] [Ig w5_m,Ig w4_m,bw (.map [(.int .i64 2,.mp 4,0),(.int .i64 3,.mp 5,1)] 2) (.map [(.int .i64 2,.mp 4,0),(.int .i64 3,.mp 5,1)] 2) (.under rfl),Bc w2_m,bp (Am.pl source),br AO 0 2 w0_0] (Ag 300 (o1++[pb hb1,pi mi0])) (by kernel_rfl) (k (js 20 j0 [(1,bT),(2,bT)]))
 let o2:LP:=o1++[pb hb1,Ko (qR w2_m e0.kind),pk,VS (qO w2_m e0.kind (BW ((w2_m.get e0.kind).getD 0) 1))]
 refine Ad (fun hb2=>?_) fun hb2=>?_
 let o3:LP:=o2++[pb hb2,Ko (b:=(.map [(.int .i64 2,.mp 4,0),(.int .i64 3,.mp 5,1)] 2)) (K1 (z:=e0.kind) 3 (H2 hb2) rfl)]
 refine Ad (fun hb3=>?_) fun hb3=>?_
 refine Ah ?_
 rintro ⟨y1a,y1b⟩ hy1
 dsimp only
 rintro ⟨⟩
 exact Bt Hd.Aa [fq (Am.Bk source.kids)] [Ig (w5_m.set e0.name true),Ig w4_m,bw (.map [(.int .i64 2,.mp 4,0),(.int .i64 3,.mp 5,1)] 2) (.map [(.int .i64 2,.mp 4,0),(.int .i64 3,.mp 5,1)] 2) (.under rfl),Bc (w2_m.set e0.kind (BW ((w2_m.get e0.kind).getD 0) 1)),bp (Am.pl source),br AO 0 2 y1b] (Ag 300 (o3++[Ko (QS w5_m e0.name hb3),AG (AP (AE hy1) 0 0),Ko (b:=(.map [(.int .i64 2,.mp 4,0),(.int .i64 3,.mp 5,1)] 2)) (K1 (z:=e0.kind) 3 (H2 hb2) rfl),VS (OC w5_m e0.name true),pi mi0])) (by kernel_rfl) (k (js 20 j0 [(0,bT),(1,bT),(2,bF),(3,bT),(4,bT),(5,bT)]))
 let o4:LP:=o3++[Ko (QS w5_m e0.name hb3),Ko (qR (w2_m.set e0.kind (BW ((w2_m.get e0.kind).getD 0) 1)) e0.kind)]
 refine Ad (fun hb4=>?_) fun hb4=>?_
 refine Ah ?_
 rintro ⟨y2a,y2b⟩ hy2
 dsimp only
 rintro ⟨⟩
 exact Bt Hd.Aa [fq (Am.Bk source.kids)] [Ig (w5_m.set e0.name true),Ig w4_m,bw (.map [(.int .i64 2,.mp 4,0),(.int .i64 3,.mp 5,1)] 2) (.map [(.int .i64 2,.mp 4,0),(.int .i64 3,.mp 5,1)] 2) (.under rfl),Bc (w2_m.set e0.kind (BW ((w2_m.get e0.kind).getD 0) 1)),bp (Am.pl source),br AO 0 2 y2b] (Ag 300 (o4++[pb hb4,AG (AP (AE hy2) 0 0),Ko (b:=(.map [(.int .i64 2,.mp 4,0),(.int .i64 3,.mp 5,1)] 2)) (K1 (z:=e0.kind) 3 (H2 hb2) rfl),VS (OC w5_m e0.name true),pi mi0])) (by kernel_rfl) (k (js 20 j0 [(0,bT),(1,bT),(2,bF),(3,bT),(4,bF),(5,bF),(6,bT),(7,bT)]))
 refine Ad (fun hb5=>?_) fun hb5=>?_
 refine Ah ?_
 rintro ⟨y3a,y3b⟩ hy3
 dsimp only
 rintro ⟨⟩
 exact Bt Hd.Aa [fq (Am.Bk source.kids)] [Ig (w5_m.set e0.name true),Ig w4_m,bw (.map [(.int .i64 2,.mp 4,0),(.int .i64 3,.mp 5,1)] 2) (.map [(.int .i64 2,.mp 4,0),(.int .i64 3,.mp 5,1)] 2) (.under rfl),Bc (w2_m.set e0.kind (BW ((w2_m.get e0.kind).getD 0) 1)),bp (Am.pl source),br AO 0 2 y3b] (Ag 300 (o4++[pb hb4,pb hb5,AG (AP (AE hy3) 0 0),Ko (b:=(.map [(.int .i64 2,.mp 4,0),(.int .i64 3,.mp 5,1)] 2)) (K1 (z:=e0.kind) 3 (H2 hb2) rfl),VS (OC w5_m e0.name true),pi mi0])) (by kernel_rfl) (k [bT,bT,bF,bT,bF,bF,bF,bF,bT,bT,bT,bT,bT,undef,undef,undef,undef,undef,bT,bT])
 refine Ad (fun hb6=>?_) fun hb6=>?_
 rintro ⟨⟩
 exact Bt Hd.Aa [fq (Am.Bk source.kids)] [Ig (w5_m.set e0.name true),Ig w4_m,bw (.map [(.int .i64 2,.mp 4,0),(.int .i64 3,.mp 5,1)] 2) (.map [(.int .i64 2,.mp 4,0),(.int .i64 3,.mp 5,1)] 2) (.under rfl),Bc (w2_m.set e0.kind (BW ((w2_m.get e0.kind).getD 0) 1)),bp (Am.pl source),br AO 0 2 w0_0] (Ag 300 (o4++[pb hb4,pb hb5,pn hb6,Ko (b:=(.map [(.int .i64 2,.mp 4,0),(.int .i64 3,.mp 5,1)] 2)) (K1 (z:=e0.kind) 3 (H2 hb2) rfl),VS (OC w5_m e0.name true),pi mi0])) (by kernel_rfl) (k [bT,bT,bF,bT,bF,bF,bF,bF,bF,bT,bT,bF,bF,bF,bF,undef,undef,bF,bF,bF])
 refine Ah fun y4 hy4=>?_
 refine Ad (fun hv=>?_) fun hv=>?_
 subst hv
 rintro ⟨⟩
 exact Bt Hd.Aa [fq (Am.Bk source.kids)] [Ig (w5_m.set e0.name true),Ig w4_m,bw (.map [(.int .i64 2,.mp 4,0),(.int .i64 3,.mp 5,1)] 2) (.map [(.int .i64 2,.mp 4,0),(.int .i64 3,.mp 5,1)] 2) (.under rfl),Bc (w2_m.set e0.kind (BW ((w2_m.get e0.kind).getD 0) 1)),bp (Am.pl source),br AO 0 2 w0_0] (Ag 300 (o4++[pb hb4,pb hb5,pn hb6,An (Gm hy4),Ko (b:=(.map [(.int .i64 2,.mp 4,0),(.int .i64 3,.mp 5,1)] 2)) (K1 (z:=e0.kind) 3 (H2 hb2) rfl),VS (OC w5_m e0.name true),pi mi0])) (by kernel_rfl) (k [bT,bT,bF,bT,bF,bF,bF,bF,bF,bT,bT,bF,bF,bT,bT,bT,bF,bF,bF,bF])
 subst hv
 refine Ah ?_
 rintro ⟨y5a,y5b⟩ hy5
 dsimp only
 rintro ⟨⟩
 exact Bt Hd.Aa [fq (Am.Bk source.kids)] [Ig (w5_m.set e0.name true),Ig w4_m,bw (.map [(.int .i64 2,.mp 4,0),(.int .i64 3,.mp 5,1)] 2) (.map [(.int .i64 2,.mp 4,0),(.int .i64 3,.mp 5,1)] 2) (.under rfl),Bc (w2_m.set e0.kind (BW ((w2_m.get e0.kind).getD 0) 1)),bp (Am.pl source),br AO 0 2 y5b] (Ag 300 (o4++[pb hb4,pb hb5,pn hb6,An (Gm hy4),AG (AP (AE hy5) 0 0),Ko (b:=(.map [(.int .i64 2,.mp 4,0),(.int .i64 3,.mp 5,1)] 2)) (K1 (z:=e0.kind) 3 (H2 hb2) rfl),VS (OC w5_m e0.name true),pi mi0])) (by kernel_rfl) (k [bT,bT,bF,bT,bF,bF,bF,bF,bT,bT,bT,bF,bF,bT,bT,bF,bT,bT,bT,bT])
 refine Ad (fun hb7=>?_) fun hb7=>?_
 let o5:LP:=o2++[pb hb2,Ko (b:=(.map [(.int .i64 2,.mp 4,0),(.int .i64 3,.mp 5,1)] 2)) (K1 (z:=e0.kind) 2 (H2 hb7) rfl)]
 refine Ad (fun hb8=>?_) fun hb8=>?_
 refine Ah ?_
 rintro ⟨y6a,y6b⟩ hy6
 dsimp only
 rintro ⟨⟩
 exact Bt Hd.Aa [fq (Am.Bk source.kids)] [Ig w5_m,Ig (w4_m.set e0.name true),bw (.map [(.int .i64 2,.mp 4,0),(.int .i64 3,.mp 5,1)] 2) (.map [(.int .i64 2,.mp 4,0),(.int .i64 3,.mp 5,1)] 2) (.under rfl),Bc (w2_m.set e0.kind (BW ((w2_m.get e0.kind).getD 0) 1)),bp (Am.pl source),br AO 0 2 y6b] (Ag 300 (o5++[Ko (QS w4_m e0.name hb8),AG (AP (AE hy6) 0 0),Ko (b:=(.map [(.int .i64 2,.mp 4,0),(.int .i64 3,.mp 5,1)] 2)) (K1 (z:=e0.kind) 2 (H2 hb7) rfl),VS (OC w4_m e0.name true),pi mi0])) (by kernel_rfl) (k (js 20 j0 [(0,bF),(1,bT),(2,bF),(3,bF),(4,bT),(5,bT)]))
 let o6:LP:=o5++[Ko (QS w4_m e0.name hb8),Ko (qR (w2_m.set e0.kind (BW ((w2_m.get e0.kind).getD 0) 1)) e0.kind)]
 refine Ad (fun hb9=>?_) fun hb9=>?_
 refine Ah ?_
 rintro ⟨y7a,y7b⟩ hy7
 dsimp only
 rintro ⟨⟩
 exact Bt Hd.Aa [fq (Am.Bk source.kids)] [Ig w5_m,Ig (w4_m.set e0.name true),bw (.map [(.int .i64 2,.mp 4,0),(.int .i64 3,.mp 5,1)] 2) (.map [(.int .i64 2,.mp 4,0),(.int .i64 3,.mp 5,1)] 2) (.under rfl),Bc (w2_m.set e0.kind (BW ((w2_m.get e0.kind).getD 0) 1)),bp (Am.pl source),br AO 0 2 y7b] (Ag 300 (o6++[pb hb9,AG (AP (AE hy7) 0 0),Ko (b:=(.map [(.int .i64 2,.mp 4,0),(.int .i64 3,.mp 5,1)] 2)) (K1 (z:=e0.kind) 2 (H2 hb7) rfl),VS (OC w4_m e0.name true),pi mi0])) (by kernel_rfl) (k (js 20 j0 [(0,bF),(1,bT),(2,bF),(3,bF),(4,bF),(5,bF),(6,bT),(7,bT)]))
 rintro ⟨⟩
 exact Bt Hd.Aa [fq (Am.Bk source.kids)] [Ig w5_m,Ig (w4_m.set e0.name true),bw (.map [(.int .i64 2,.mp 4,0),(.int .i64 3,.mp 5,1)] 2) (.map [(.int .i64 2,.mp 4,0),(.int .i64 3,.mp 5,1)] 2) (.under rfl),Bc (w2_m.set e0.kind (BW ((w2_m.get e0.kind).getD 0) 1)),bp (Am.pl source),br AO 0 2 w0_0] (Ag 300 (o6++[pb hb9,Ko (b:=(.map [(.int .i64 2,.mp 4,0),(.int .i64 3,.mp 5,1)] 2)) (K1 (z:=e0.kind) 2 (H2 hb7) rfl),VS (OC w4_m e0.name true),pi mi0])) (by kernel_rfl) (k [bF,bT,bF,bF,bF,bF,bF,bF,bF,bF,bF,undef,undef,undef,undef,undef,undef,undef,undef,bF])
 exact abM
 rintro ⟨w5_m_8,w2_m_8,w0_0_8,w4_m_8⟩ jx_8
 dsimp only
 refine Gv ?_
 rintro rfl rfl
 exact FL Hd.Aa _ _ [⟨.Bd [],.Bd [],(.plain rfl)⟩] [br AO 0 2 w0_0_8] (BJ 300 []) (by kernel_rfl)
noncomputable def It  (units:Nat) (Bf:(List ByteArray)) (i0:Nat) :Option (Lp Unit Unit Bool):=(Bf[i0]?).bind fun x1=>(OW units ((0:Nat):Int)).bind fun k2=>(Bf[k2]?).bind fun x3=>cond (BC x1.data.toList x3.data.toList) (some (.nx ())) (some (.rt false))
noncomputable def CF  (units:Nat) (Bf:(List ByteArray)):Option Bool:=(GW units (Vz (fun i x=>It  units Bf i ) (fun x=>()) units 0 ())).bind (GQ (fun (_:Unit)=>some true) (fun v=>some v))
theorem CH {units:Nat} {Bf:(List ByteArray)} {yR:Bool} (hS:Sound P G (.call 189 [.msl 0 0 units] ⟨[(0,(.cells (rows K8 Bf)))],1,[],0⟩ (.ret (.zb yR)) ⟨[(0,(.cells (rows K8 Bf)))],1,[],0⟩)) (u0:Nat) (hnb:([u0]:List Nat).Nodup:=by decide) (hnt:([]:List Nat).Nodup:=by decide):Cd.ok P G (.callU 189 [.msl u0 0 units] (.ret (.zb yR)) [(u0,(.cells (rows K8 Bf)))] [] [(u0,(.cells (rows K8 Bf)))] []) :=
 CS (M:=[(.cells (rows K8 Bf))]) (M2:=[(.cells (rows K8 Bf))]) (T:=[]) (T2:=[]) (k:=1) (j:=0) Hd.Aa _ _ _ _ hS rfl rfl rfl rfl rfl hnb hnt rfl rfl (.cons (.cells (.pl (Bw.AW Bf))) .nil) (.cons (.cells (.pl (Bw.AW Bf))) .nil) (.cons (.msl (by decide)) .nil) (.pl rfl) (fun e he=>by simp only [List.mem_singleton] at he;subst he;exact (.arg (.here .msl)))
theorem BZ   {units:Nat} {Bf:(List ByteArray)} {yR:Bool} (h:CF  units Bf=some yR):Sound P G (.call 189 [.msl 0 0 units] ⟨[(0,(.cells (rows K8 Bf)))],1,[],0⟩ (.ret (.zb yR)) ⟨[(0,(.cells (rows K8 Bf)))],1,[],0⟩):=by
 unfold CF at h
 refine CT Hd.mixed (Ay Tryz.func189 aeu ?_)
 revert h
 refine ae1 (fun Q v=>Iu P G Tryz.f189 1 ⟨[(0,(.cells (rows K8 Bf)))],1,[],0⟩ Q (.zb v) ⟨[(0,(.cells (rows K8 Bf)))],1,[],0⟩) (fun i0 (_:Unit) (j0:List Value)=>fr 17 [(0,.msl 0 0 units),(5,.msl 0 0 units),(6,.zi ((units:Nat):Int)),(7,.zi ((i0:Nat):Int))] [2,8,15] j0) (fun (_:Unit)=>⟨[(0,(.cells (rows K8 Bf)))],1,[],0⟩) (fun (_:Unit) (jx:List Value)=>fr 17 [] [2,8,15] jx) (fun (_:Unit)=>⟨[(0,(.cells (rows K8 Bf)))],1,[],0⟩) [bF] (Dq [] 0 (sb aaT 52) [.code (sb aaT 7)] (Ag 300 []) (by kernel_rfl)) ?_ ?_ ?_ (fun v h=>by cases h;exact .outer .body)
 rintro ⟨⟩ j0 hge hq
 exact B1 (Ag 300 [pb (IJ hge)]) (by kernel_rfl) (hq (js 3 j0 [(1,bF)]))
 rintro i0 ⟨⟩ j0 r hi0 mi0 k
 show It  units Bf i0 =some r→_
 unfold It
 refine Ah fun x1 hx1=>?_
 refine Ah fun k2 hk2=>?_
 refine Ah fun x3 hx3=>?_
 let o1:LP:=[pb (Fk hi0),BT (Yx (id:=0) (n:=units) (i:=i0) (by have:=Ra (Fk hi0);omega)),tB (NI hx1),BT (Ol (id:=0) hk2),tB (NI hx3)]
 refine Ad (fun hb1=>?_) fun hb1=>?_
 rintro ⟨⟩
 exact D9 (Ag 300 (o1++[pn hb1,pi mi0])) (by kernel_rfl) (k [(jv j0 0),bT,bF])
 rintro ⟨⟩
 exact Ao Hd.Aa _ _ [] [bp (Bw.AW Bf)] (Ag 300 (o1++[pn hb1])) (by kernel_rfl) (.Em k)
 rintro ⟨⟩ jx_4
 rintro ⟨⟩
 exact Ao Hd.Aa _ _ [] [bp (Bw.AW Bf)] (BJ 300 []) (by kernel_rfl) .body
noncomputable def C4  (operator:ByteArray) (units:Nat) (Bf:(List ByteArray)):Option ByteArray:=(OW units ((0:Nat):Int)).bind fun k1=>(Bf[k1]?).bind fun x2=>(OW units (Ua ((units:Nat):Int) 1)).bind fun k3=>(Bf[k3]?).bind fun x4=>cond (BC operator.data.toList Um.data.toList) (cond (BC x2.data.toList Ak.data.toList) ((CF units Bf).bind fun y5=>cond y5 (some Ak) (some ByteArray.empty)) (some ByteArray.empty)) (cond (BC operator.data.toList IP.data.toList) (cond (BC x2.data.toList Ak.data.toList) ((CF units Bf).bind fun y6=>cond y6 (some Ak) (some ByteArray.empty)) (some ByteArray.empty)) (cond (BC operator.data.toList I2.data.toList) ((CF units Bf).bind fun y7=>cond y7 (some Ak) (some ByteArray.empty)) (cond (BC operator.data.toList Iw.data.toList) ((CF units Bf).bind fun y8=>cond y8 (some Ak) (some ByteArray.empty)) (cond (BC operator.data.toList PK.data.toList) ((CF units Bf).bind fun y9=>cond y9 (cond (BC x2.data.toList Ak.data.toList) (some ByteArray.empty) (some Ak)) (some ByteArray.empty)) (cond (BC operator.data.toList Ix.data.toList) ((CF units Bf).bind fun y10=>cond y10 (cond (BC x2.data.toList Ak.data.toList) (some ByteArray.empty) (some Ak)) (some ByteArray.empty)) (cond (BC operator.data.toList K5.data.toList) ((CF units Bf).bind fun y11=>cond y11 (cond (BC x2.data.toList Ak.data.toList) (some ByteArray.empty) (some x2)) (some ByteArray.empty)) (cond (BC operator.data.toList Pe.data.toList) ((CF units Bf).bind fun y12=>cond y12 (cond (BC x2.data.toList Ak.data.toList) (some ByteArray.empty) (some x2)) (some ByteArray.empty)) (cond (BC operator.data.toList PY.data.toList) (cond (BC x2.data.toList AF.data.toList) (cond (BC x4.data.toList Ak.data.toList) (some ByteArray.empty) (some x4)) (cond (BC x4.data.toList AF.data.toList) (cond (BC x2.data.toList Ak.data.toList) (some ByteArray.empty) (some x2)) (some ByteArray.empty))) (cond (BC operator.data.toList Kf.data.toList) (cond (BC x2.data.toList Ak.data.toList) (some ByteArray.empty) (some x2)) (cond (BC operator.data.toList U0.data.toList) (cond (BC x2.data.toList BM.data.toList) ((F6 x4).bind fun y13=>cond y13 (some x4) (some ByteArray.empty)) (some ByteArray.empty)) (some ByteArray.empty)))))))))))
theorem Fh {operator:ByteArray} {units:Nat} {Bf:(List ByteArray)} {yR:ByteArray} (hS:Sound P G (.call 165 [.zs operator,.msl 0 0 units] ⟨[(0,(.cells (rows K8 Bf)))],1,[],0⟩ (.ret (.zs yR)) ⟨[(0,(.cells (rows K8 Bf)))],1,[],0⟩)) (u0:Nat) (hnb:([u0]:List Nat).Nodup:=by decide) (hnt:([]:List Nat).Nodup:=by decide):Cd.ok P G (.callU 165 [.zs operator,.msl u0 0 units] (.ret (.zs yR)) [(u0,(.cells (rows K8 Bf)))] [] [(u0,(.cells (rows K8 Bf)))] []) :=
 CS (M:=[(.cells (rows K8 Bf))]) (M2:=[(.cells (rows K8 Bf))]) (T:=[]) (T2:=[]) (k:=1) (j:=0) Hd.Aa _ _ _ _ hS rfl rfl rfl rfl rfl hnb hnt rfl rfl (.cons (.cells (.pl (Bw.AW Bf))) .nil) (.cons (.cells (.pl (Bw.AW Bf))) .nil) (.cons (.pl rfl) (.cons (.msl (by decide)) .nil)) (.pl rfl) (fun e he=>by simp only [List.mem_singleton] at he;subst he;exact (.arg (.there (.here .msl))))
theorem DU   {operator:ByteArray} {units:Nat} {Bf:(List ByteArray)} {yR:ByteArray} (h:C4  operator units Bf=some yR):Sound P G (.call 165 [.zs operator,.msl 0 0 units] ⟨[(0,(.cells (rows K8 Bf)))],1,[],0⟩ (.ret (.zs yR)) ⟨[(0,(.cells (rows K8 Bf)))],1,[],0⟩):=by
 unfold C4 at h
 refine CT Hd.mixed (Ay Tryz.func165 aeW ?_)
 revert h
 refine Ah fun k1 hk1=>?_
 refine Ah fun x2 hx2=>?_
 refine Ah fun k3 hk3=>?_
 refine Ah fun x4 hx4=>?_
 let o1:LP:=[BT (Ol (id:=0) hk1),tB (NI hx2),pk,BT (Ol (id:=0) hk3),tB (NI hx4)]
 refine Ad (fun hb1=>?_) fun hb1=>?_
 refine Ad (fun hb2=>?_) fun hb2=>?_
 refine Ah fun y5 hy5=>?_
 refine Ad (fun hv=>?_) fun hv=>?_
 subst hv
 rintro ⟨⟩
 exact Ao Hd.Aa _ _ [] [bp (Bw.AW Bf)] (Ag 300 (o1++[pb hb1,pn hb2,AG (CH (BZ hy5) 0)])) (by kernel_rfl) .body
 subst hv
 rintro ⟨⟩
 exact Ao Hd.Aa _ _ [] [bp (Bw.AW Bf)] (Ag 300 (o1++[pb hb1,pn hb2,AG (CH (BZ hy5) 0)])) (by kernel_rfl) .body
 rintro ⟨⟩
 exact Ao Hd.Aa _ _ [] [bp (Bw.AW Bf)] (Ag 300 (o1++[pb hb1,pn hb2])) (by kernel_rfl) .body
 let o2:LP:=o1++[pb hb1]
 refine Ad (fun hb3=>?_) fun hb3=>?_
 refine Ad (fun hb4=>?_) fun hb4=>?_
 refine Ah fun y6 hy6=>?_
 refine Ad (fun hv=>?_) fun hv=>?_
 subst hv
 rintro ⟨⟩
 exact Ao Hd.Aa _ _ [] [bp (Bw.AW Bf)] (Ag 300 (o2++[pb hb3,pn hb4,AG (CH (BZ hy6) 0)])) (by kernel_rfl) .body
 subst hv
 rintro ⟨⟩
 exact Ao Hd.Aa _ _ [] [bp (Bw.AW Bf)] (Ag 300 (o2++[pb hb3,pn hb4,AG (CH (BZ hy6) 0)])) (by kernel_rfl) .body
 rintro ⟨⟩
 exact Ao Hd.Aa _ _ [] [bp (Bw.AW Bf)] (Ag 300 (o2++[pb hb3,pn hb4])) (by kernel_rfl) .body
 let o3:LP:=o2++[pb hb3]
 refine Ad (fun hb5=>?_) fun hb5=>?_
 refine Ah fun y7 hy7=>?_
 refine Ad (fun hv=>?_) fun hv=>?_
 subst hv
 rintro ⟨⟩
 exact Ao Hd.Aa _ _ [] [bp (Bw.AW Bf)] (Ag 300 (o3++[pb hb5,AG (CH (BZ hy7) 0)])) (by kernel_rfl) .body
 subst hv
 rintro ⟨⟩
 exact Ao Hd.Aa _ _ [] [bp (Bw.AW Bf)] (Ag 300 (o3++[pb hb5,AG (CH (BZ hy7) 0)])) (by kernel_rfl) .body
 let o4:LP:=o3++[pb hb5]
 refine Ad (fun hb6=>?_) fun hb6=>?_
 refine Ah fun y8 hy8=>?_
 refine Ad (fun hv=>?_) fun hv=>?_
 subst hv
 rintro ⟨⟩
 exact Ao Hd.Aa _ _ [] [bp (Bw.AW Bf)] (Ag 300 (o4++[pb hb6,AG (CH (BZ hy8) 0)])) (by kernel_rfl) .body
 subst hv
 rintro ⟨⟩
 exact Ao Hd.Aa _ _ [] [bp (Bw.AW Bf)] (Ag 300 (o4++[pb hb6,AG (CH (BZ hy8) 0)])) (by kernel_rfl) .body
 let o5:LP:=o4++[pb hb6]
 refine Ad (fun hb7=>?_) fun hb7=>?_
 refine Ah fun y9 hy9=>?_
 let o6:LP:=o5++[pb hb7,AG (CH (BZ hy9) 0)]
 refine Ad (fun hv=>?_) fun hv=>?_
 subst hv
 refine Ad (fun hb8=>?_) fun hb8=>?_
 rintro ⟨⟩
 exact Ao Hd.Aa _ _ [] [bp (Bw.AW Bf)] (Ag 300 (o6++[pb hb8])) (by kernel_rfl) .body
 rintro ⟨⟩
 exact Ao Hd.Aa _ _ [] [bp (Bw.AW Bf)] (Ag 300 (o6++[pb hb8])) (by kernel_rfl) .body
 subst hv
 rintro ⟨⟩
 exact Ao Hd.Aa _ _ [] [bp (Bw.AW Bf)] (Ag 300 o6) (by kernel_rfl) .body
 let o7:LP:=o5++[pb hb7]
 refine Ad (fun hb9=>?_) fun hb9=>?_
 refine Ah fun y10 hy10=>?_
 let o8:LP:=o7++[pb hb9,AG (CH (BZ hy10) 0)]
 refine Ad (fun hv=>?_) fun hv=>?_
 subst hv
 refine Ad (fun hb10=>?_) fun hb10=>?_
 rintro ⟨⟩
 exact Ao Hd.Aa _ _ [] [bp (Bw.AW Bf)] (Ag 300 (o8++[pb hb10])) (by kernel_rfl) .body
 rintro ⟨⟩
 exact Ao Hd.Aa _ _ [] [bp (Bw.AW Bf)] (Ag 300 (o8++[pb hb10])) (by kernel_rfl) .body
 subst hv
 rintro ⟨⟩
 exact Ao Hd.Aa _ _ [] [bp (Bw.AW Bf)] (Ag 300 o8) (by kernel_rfl) .body
 let o9:LP:=o7++[pb hb9]
 refine Ad (fun hb11=>?_) fun hb11=>?_
 refine Ah fun y11 hy11=>?_
 let o10:LP:=o9++[pb hb11,AG (CH (BZ hy11) 0)]
 refine Ad (fun hv=>?_) fun hv=>?_
 subst hv
 refine Ad (fun hb12=>?_) fun hb12=>?_
 rintro ⟨⟩
 exact Ao Hd.Aa _ _ [] [bp (Bw.AW Bf)] (Ag 300 (o10++[pb hb12])) (by kernel_rfl) .body
 rintro ⟨⟩
 exact Ao Hd.Aa _ _ [] [bp (Bw.AW Bf)] (Ag 300 (o10++[pb hb12])) (by kernel_rfl) .body
 subst hv
 rintro ⟨⟩
 exact Ao Hd.Aa _ _ [] [bp (Bw.AW Bf)] (Ag 300 o10) (by kernel_rfl) .body
 let o11:LP:=o9++[pb hb11]
 refine Ad (fun hb13=>?_) fun hb13=>?_
 refine Ah fun y12 hy12=>?_
 let o12:LP:=o11++[pb hb13,AG (CH (BZ hy12) 0)]
 refine Ad (fun hv=>?_) fun hv=>?_
 subst hv
 refine Ad (fun hb14=>?_) fun hb14=>?_
 rintro ⟨⟩
 exact Ao Hd.Aa _ _ [] [bp (Bw.AW Bf)] (Ag 300 (o12++[pb hb14])) (by kernel_rfl) .body
 rintro ⟨⟩
 exact Ao Hd.Aa _ _ [] [bp (Bw.AW Bf)] (Ag 300 (o12++[pb hb14])) (by kernel_rfl) .body
 subst hv
 rintro ⟨⟩
 exact Ao Hd.Aa _ _ [] [bp (Bw.AW Bf)] (Ag 300 o12) (by kernel_rfl) .body
 let o13:LP:=o11++[pb hb13]
 refine Ad (fun hb15=>?_) fun hb15=>?_
 refine Ad (fun hb16=>?_) fun hb16=>?_
 refine Ad (fun hb17=>?_) fun hb17=>?_
 rintro ⟨⟩
 exact Ao Hd.Aa _ _ [] [bp (Bw.AW Bf)] (Ag 300 (o13++[pb hb15,pb hb16,pb hb17])) (by kernel_rfl) .body
 rintro ⟨⟩
 exact Ao Hd.Aa _ _ [] [bp (Bw.AW Bf)] (Ag 300 (o13++[pb hb15,pb hb16,pb hb17])) (by kernel_rfl) .body
 refine Ad (fun hb18=>?_) fun hb18=>?_
 refine Ad (fun hb19=>?_) fun hb19=>?_
 rintro ⟨⟩
 exact Ao Hd.Aa _ _ [] [bp (Bw.AW Bf)] (Ag 300 (o13++[pb hb15,pb hb16,pn hb18,pb hb19])) (by kernel_rfl) .body
 rintro ⟨⟩
 exact Ao Hd.Aa _ _ [] [bp (Bw.AW Bf)] (Ag 300 (o13++[pb hb15,pb hb16,pn hb18,pb hb19])) (by kernel_rfl) .body
 rintro ⟨⟩
 exact Ao Hd.Aa _ _ [] [bp (Bw.AW Bf)] (Ag 300 (o13++[pb hb15,pb hb16,pn hb18])) (by kernel_rfl) .body
 refine Ad (fun hb20=>?_) fun hb20=>?_
 refine Ad (fun hb21=>?_) fun hb21=>?_
 rintro ⟨⟩
 exact Ao Hd.Aa _ _ [] [bp (Bw.AW Bf)] (Ag 300 (o13++[pb hb15,pb hb20,pb hb21])) (by kernel_rfl) .body
 rintro ⟨⟩
 exact Ao Hd.Aa _ _ [] [bp (Bw.AW Bf)] (Ag 300 (o13++[pb hb15,pb hb20,pb hb21])) (by kernel_rfl) .body
 refine Ad (fun hb22=>?_) fun hb22=>?_
 refine Ad (fun hb23=>?_) fun hb23=>?_
 refine Ah fun y13 hy13=>?_
 refine Ad (fun hv=>?_) fun hv=>?_
 subst hv
 rintro ⟨⟩
 exact Ao Hd.Aa _ _ [] [bp (Bw.AW Bf)] (Ag 300 (o13++[pb hb15,pb hb20,pb hb22,pb hb23,An (Gm hy13)])) (by kernel_rfl) .body
 subst hv
 rintro ⟨⟩
 exact Ao Hd.Aa _ _ [] [bp (Bw.AW Bf)] (Ag 300 (o13++[pb hb15,pb hb20,pb hb22,pb hb23,An (Gm hy13)])) (by kernel_rfl) .body
 rintro ⟨⟩
 exact Ao Hd.Aa _ _ [] [bp (Bw.AW Bf)] (Ag 300 (o13++[pb hb15,pb hb20,pb hb22,pb hb23])) (by kernel_rfl) .body
 rintro ⟨⟩
 exact Ao Hd.Aa _ _ [] [bp (Bw.AW Bf)] (Ag 300 (o13++[pb hb15,pb hb20,pb hb22])) (by kernel_rfl) .body
theorem G5 {s:Sc} {e:Nd} {report:(List Dg)} {yR:ByteArray} {qreportR:(List Dg)} (hS:Sound P G (.call 129 [.agg [.mp 0,.mp 1,.mp 2],.agg (Bo e),.fn (.func 127) [] [.ptr 3 0]] ⟨[(3,.cells [.sl (.row 0 2) report.length (rows BX report)]),(2,(D1 s.Af)),(1,(BP s.lines)),(0,(BP s.facts))],4,[(0,report.length)],1⟩ (.ret (.zs yR)) ⟨[(3,.cells [.sl (.row 0 2) qreportR.length (rows BX qreportR)]),(2,(D1 s.Af)),(1,(BP s.lines)),(0,(BP s.facts))],4,[(0,qreportR.length)],1⟩)) (u0 u1 u2 u3 v0:Nat) (hnb:([u0,u1,u2,u3]:List Nat).Nodup:=by decide) (hnt:([v0]:List Nat).Nodup:=by decide):Cd.ok P G (.callU 129 [.agg [.mp u0,.mp u1,.mp u2],.agg (Bo e),.fn (.func 127) [] [.ptr u3 0]] (.ret (.zs yR)) [(u0,(BP s.facts)),(u1,(BP s.lines)),(u2,(D1 s.Af)),(u3,.cells [.sl (.row v0 2) report.length (rows BX report)])] [(v0,report.length)] [(u0,(BP s.facts)),(u1,(BP s.lines)),(u2,(D1 s.Af)),(u3,.cells [.sl (.row v0 2) qreportR.length (rows BX qreportR)])] [(v0,qreportR.length)]) :=
 CS (M:=[(BP s.facts),(BP s.lines),(D1 s.Af),.cells [.sl (.row 0 2) report.length (rows BX report)]]) (M2:=[(BP s.facts),(BP s.lines),(D1 s.Af),.cells [.sl (.row 0 2) qreportR.length (rows BX qreportR)]]) (T:=[report.length]) (T2:=[qreportR.length]) (k:=4) (j:=1) Hd.Aa _ _ _ _ hS rfl rfl rfl rfl rfl hnb hnt rfl rfl (.cons (BK (fun _=>rfl)) (.cons (BK (fun _=>rfl)) (.cons (BK (fun _=>rfl)) (.cons (.cells (.cons (.row (by decide) (AO.AW report)) .nil)) .nil)))) (.cons (BK (fun _=>rfl)) (.cons (BK (fun _=>rfl)) (.cons (BK (fun _=>rfl)) (.cons (.cells (.cons (.row (by decide) (AO.AW qreportR)) .nil)) .nil)))) (.cons (.agg (.cons (.mp (by decide)) (.cons (.mp (by decide)) (.cons (.mp (by decide)) .nil)))) (.cons (.pl (Am.Dp e)) (.cons (.fn (.pl rfl) (.cons (.ptr (by decide)) .nil)) .nil))) (.pl rfl) (by
   intro e he
   simp only [List.mem_cons,List.not_mem_nil,or_false] at he
   rcases he with rfl | rfl | rfl | rfl
   · exact (.arg (.here (.agg (.here .mp))))
   · exact (.arg (.here (.agg (.there (.here .mp)))))
   · exact (.arg (.here (.agg (.there (.there (.here .mp))))))
   · exact (.arg (.there (.there (.here (.fn2 (.here .ptr))))))
   )
noncomputable def yZ:Code:=AY Tryz.f129
theorem ads:Tryz.f129.body=some yZ:=by kernel_rfl
noncomputable def C6 (CL:Sc→Nd→(List Dg)→Option (ByteArray×(List Dg))) (s:Sc) (i0:Nat) (e0:Nd) (whole8:Bool) (w6_l:(List ByteArray)) (w3_0:(List Dg)):Option (Lp (Bool×(List ByteArray)×(List Dg)) (Bool×(List ByteArray)×(List Dg)) (ByteArray×(List Dg))):=(CL s e0 w3_0).bind fun (y2a,y2b)=>(w6_l[i0]?).bind fun x3=>cond whole8 (((w6_l.set i0 y2a)[i0]?).bind fun x4=>cond (BC x4.data.toList ByteArray.empty.data.toList) (some (.nx (false,(w6_l.set i0 y2a),y2b))) (some (.nx (true,(w6_l.set i0 y2a),y2b)))) (some (.nx (false,(w6_l.set i0 y2a),y2b)))
noncomputable def FE (CL:Sc→Nd→(List Dg)→Option (ByteArray×(List Dg))) (s:Sc) (e:Nd) (report:(List Dg)):Option (ByteArray×(List Dg)):=p6 (e.kids.length) ((GW e.kids.length (AL (fun i y x=>C6 CL s i y x.1 x.2.1 x.2.2) (fun x=>(x.1,x.2.1,x.2.2)) (e.kids.drop 0) 0 (true,(List.replicate e.kids.length ByteArray.empty),report))).bind (GQ (fun ((whole8_5,w6_l_5,w3_0_5):(Bool×(List ByteArray)×(List Dg)))=>cond whole8_5 (cond (Bp e.kind 11) (cond (BC e.unit.data.toList ByteArray.empty.data.toList) ((AD 11 e.att w3_0_5).bind fun (y6a,y6b)=>some (e.unit,y6b)) (some (e.unit,w3_0_5))) (cond (Bp e.kind 12) (cond (BC ((s.facts.get e.name).getD ByteArray.empty).data.toList ByteArray.empty.data.toList) ((AD 91 e.att w3_0_5).bind fun (y7a,y7b)=>some (((s.facts.get e.name).getD ByteArray.empty),y7b)) (some (((s.facts.get e.name).getD ByteArray.empty),w3_0_5))) (cond (Bp e.kind 13) (cond (BC ((s.lines.get ((s.Af.get e.n).getD ByteArray.empty)).getD ByteArray.empty).data.toList ByteArray.empty.data.toList) ((AD 91 e.att w3_0_5).bind fun (y8a,y8b)=>some (((s.lines.get ((s.Af.get e.n).getD ByteArray.empty)).getD ByteArray.empty),y8b)) (some (((s.lines.get ((s.Af.get e.n).getD ByteArray.empty)).getD ByteArray.empty),w3_0_5))) (cond (Bp e.kind 14) (cond (BC AF.data.toList ByteArray.empty.data.toList) ((AD 11 e.att w3_0_5).bind fun (y9a,y9b)=>some (AF,y9b)) (some (AF,w3_0_5))) (cond (Bp e.kind 15) ((C4 IP e.kids.length w6_l_5).bind fun y10=>cond (BC y10.data.toList ByteArray.empty.data.toList) ((AD 11 e.att w3_0_5).bind fun (y11a,y11b)=>some (y10,y11b)) (some (y10,w3_0_5))) (cond (Bp e.kind 16) ((C4 e.name e.kids.length w6_l_5).bind fun y12=>cond (BC y12.data.toList ByteArray.empty.data.toList) ((AD 11 e.att w3_0_5).bind fun (y13a,y13b)=>some (y12,y13b)) (some (y12,w3_0_5))) (cond (Bp e.kind 17) ((C4 K5 e.kids.length w6_l_5).bind fun y14=>cond (BC y14.data.toList ByteArray.empty.data.toList) ((AD 11 e.att w3_0_5).bind fun (y15a,y15b)=>some (y14,y15b)) (some (y14,w3_0_5))) (cond (Bp e.kind 18) ((OW e.kids.length ((0:Nat):Int)).bind fun dO=>(w6_l_5[dO]?).bind fun x17=>(F6 x17).bind fun y18=>cond y18 (cond (BC x17.data.toList ByteArray.empty.data.toList) ((AD 11 e.att w3_0_5).bind fun (y19a,y19b)=>some (x17,y19b)) (some (x17,w3_0_5))) (cond (BC ByteArray.empty.data.toList ByteArray.empty.data.toList) ((AD 11 e.att w3_0_5).bind fun (y20a,y20b)=>some (ByteArray.empty,y20b)) (some (ByteArray.empty,w3_0_5)))) (cond (BC ByteArray.empty.data.toList ByteArray.empty.data.toList) ((AD 11 e.att w3_0_5).bind fun (y21a,y21b)=>some (ByteArray.empty,y21b)) (some (ByteArray.empty,w3_0_5))))))))))) (some (ByteArray.empty,w3_0_5))) (fun v=>some v)))
theorem LR (CL:Sc→Nd→(List Dg)→Option (ByteArray×(List Dg))) (MK:∀ {s:Sc} {e:Nd} {report:(List Dg)} {yR:ByteArray} {qreportR:(List Dg)},CL s e report=some (yR,qreportR)→Sound P G (.call 129 [.agg [.mp 0,.mp 1,.mp 2],.agg (Bo e),.fn (.func 127) [] [.ptr 3 0]] ⟨[(3,.cells [.sl (.row 0 2) report.length (rows BX report)]),(2,(D1 s.Af)),(1,(BP s.lines)),(0,(BP s.facts))],4,[(0,report.length)],1⟩ (.ret (.zs yR)) ⟨[(3,.cells [.sl (.row 0 2) qreportR.length (rows BX qreportR)]),(2,(D1 s.Af)),(1,(BP s.lines)),(0,(BP s.facts))],4,[(0,qreportR.length)],1⟩)) {s:Sc} {e:Nd} {report:(List Dg)} {yR:ByteArray} {qreportR:(List Dg)} (h:FE CL s e report=some (yR,qreportR)):Sound P G (.call 129 [.agg [.mp 0,.mp 1,.mp 2],.agg (Bo e),.fn (.func 127) [] [.ptr 3 0]] ⟨[(3,.cells [.sl (.row 0 2) report.length (rows BX report)]),(2,(D1 s.Af)),(1,(BP s.lines)),(0,(BP s.facts))],4,[(0,report.length)],1⟩ (.ret (.zs yR)) ⟨[(3,.cells [.sl (.row 0 2) qreportR.length (rows BX qreportR)]),(2,(D1 s.Af)),(1,(BP s.lines)),(0,(BP s.facts))],4,[(0,qreportR.length)],1⟩):=by
 unfold FE at h
 refine CT Hd.mixed (Ay Tryz.func129 ads ?_)
 revert h
 refine abx fun hl1=>?_
 refine DF (fun Q v=>Iu P G Tryz.f129 4 ⟨[(3,.cells [.sl (.row 0 2) report.length (rows BX report)]),(2,(D1 s.Af)),(1,(BP s.lines)),(0,(BP s.facts))],4,[(0,report.length)],1⟩ Q (.zs v.1) ⟨[(3,.cells [.sl (.row 0 2) v.2.length (rows BX v.2)]),(2,(D1 s.Af)),(1,(BP s.lines)),(0,(BP s.facts))],4,[(0,v.2.length)],1⟩) (fun i0 ((whole8,w6_l,w3_0):(Bool×(List ByteArray)×(List Dg))) (j0:List Value)=>fr 99 [(2,.fn (.func 127) [] [.ptr 3 0]),(3,.ptr 4 0),(4,.ptr 5 0),(7,.msl 6 0 e.kids.length),(8,.zb whole8),(18,.sl .lost e.kids.length (Cg e.kids)),(19,.zi ((e.kids.length:Nat):Int)),(20,.zi ((i0:Nat):Int))] [21,32,33,38,39,41,42,45,46,49,50,56,57,66,67,68,69,72,73,78,79,82,83,87,92] j0) (fun ((whole8,w6_l,w3_0):(Bool×(List ByteArray)×(List Dg)))=>⟨[(6,(.cells (rows K8 w6_l))),(5,.cells (Bo e)),(4,.cells [.mp 0,.mp 1,.mp 2]),(3,.cells [.sl (.row 0 2) w3_0.length (rows BX w3_0)]),(2,(D1 s.Af)),(1,(BP s.lines)),(0,(BP s.facts))],7,[(0,w3_0.length)],1⟩) (fun ((whole8,w6_l,w3_0):(Bool×(List ByteArray)×(List Dg))) (jx:List Value)=>fr 99 [(2,.fn (.func 127) [] [.ptr 3 0]),(3,.ptr 4 0),(4,.ptr 5 0),(7,.msl 6 0 e.kids.length),(8,.zb whole8)] [21,32,33,38,39,41,42,45,46,49,50,56,57,66,67,68,69,72,73,78,79,82,83,87,92] jx) (fun ((whole8,w6_l,w3_0):(Bool×(List ByteArray)×(List Dg)))=>⟨[(6,(.cells (rows K8 w6_l))),(5,.cells (Bo e)),(4,.cells [.mp 0,.mp 1,.mp 2]),(3,.cells [.sl (.row 0 2) w3_0.length (rows BX w3_0)]),(2,(D1 s.Af)),(1,(BP s.lines)),(0,(BP s.facts))],7,[(0,w3_0.length)],1⟩) [] (Dq [] 0 (sb yZ 244) [.code (sb yZ 31)] (Ag 300 [pmb (xL (n:=e.kids.length) hl1)]) (by kernel_rfl)) ?_ ?_ ?_ (fun v h=>by cases h;exact .outer .body)
 rintro i0 ⟨whole8,w6_l,w3_0⟩ j0 hge hq
 exact B1 (Ag 300 [pb (IJ hge)]) (by kernel_rfl) (hq (js 25 j0 [(0,bF)]))
 rintro i0 e0 ⟨whole8,w6_l,w3_0⟩ j0 r he0 hi0 mi0 k
 show C6 CL s i0 e0 whole8 w6_l w3_0=some r→_
 unfold C6
 refine Ah ?_
 rintro ⟨y2a,y2b⟩ hy2
 dsimp only
 refine Ah fun x3 hx3=>?_
 let o1:LP:=[pb (Fk hi0),BT (BQ .lost he0),AG (G5 (MK hy2) 0 1 2 3 0),BT (Yx (id:=6) (n:=e.kids.length) (i:=i0) (by have:=Ra (Fk hi0);omega)),psb (vK hx3 y2a)]
 refine Ad (fun hv=>?_) fun hv=>?_
 subst hv
 refine Ah fun x4 hx4=>?_
 let o2:LP:=o1++[BT (Yx (id:=6) (n:=e.kids.length) (i:=i0) (by have:=Ra (Fk hi0);omega)),tB (NI hx4)]
 refine Ad (fun hb1=>?_) fun hb1=>?_
 rintro ⟨⟩
 exact Bt Hd.Aa [fq (Am.Bk e.kids)] [bp (Bw.AW (w6_l.set i0 y2a)),bp (Am.pl e),none,br AO 0 2 y2b,Cv s.Af,Bg s.lines,Bg s.facts] (Ag 300 (o2++[pn hb1,pi mi0])) (by kernel_rfl) (k (js 25 j0 [(0,bT),(1,bT),(2,bT),(3,bF),(4,bF)]))
 rintro ⟨⟩
 exact Bt Hd.Aa [fq (Am.Bk e.kids)] [bp (Bw.AW (w6_l.set i0 y2a)),bp (Am.pl e),none,br AO 0 2 y2b,Cv s.Af,Bg s.lines,Bg s.facts] (Ag 300 (o2++[pn hb1,pi mi0])) (by kernel_rfl) (k (js 25 j0 [(0,bT),(1,bT),(2,bT),(3,bT),(4,bT)]))
 subst hv
 rintro ⟨⟩
 exact Bt Hd.Aa [fq (Am.Bk e.kids)] [bp (Bw.AW (w6_l.set i0 y2a)),bp (Am.pl e),none,br AO 0 2 y2b,Cv s.Af,Bg s.lines,Bg s.facts] (Ag 300 (o1++[pi mi0])) (by kernel_rfl) (k (js 25 j0 [(0,bT),(1,bF),(2,bF),(3,undef),(4,bF)]))
 rintro ⟨whole8_5,w6_l_5,w3_0_5⟩ jx_5
 dsimp only
 refine Ad (fun hv=>?_) fun hv=>?_
 subst hv
 refine Ad (fun hb2=>?_) fun hb2=>?_
 refine Ad (fun hb3=>?_) fun hb3=>?_
 refine Ah ?_
 rintro ⟨y6a,y6b⟩ hy6
 dsimp only
 refine Gv ?_
 rintro rfl rfl
 exact Ao Hd.Aa _ _ [] [br AO 0 2 y6b,Cv s.Af,Bg s.lines,Bg s.facts] (BJ 300 [pb hb2,pb hb3,AG (AP (AE hy6) 3 0)]) (by kernel_rfl) .body
 refine Gv ?_
 rintro rfl rfl
 exact Ao Hd.Aa _ _ [] [br AO 0 2 w3_0_5,Cv s.Af,Bg s.lines,Bg s.facts] (BJ 300 [pb hb2,pb hb3]) (by kernel_rfl) .body
 let o3:LP:=[pb hb2]
 refine Ad (fun hb4=>?_) fun hb4=>?_
 refine Ad (fun hb5=>?_) fun hb5=>?_
 refine Ah ?_
 rintro ⟨y7a,y7b⟩ hy7
 dsimp only
 refine Gv ?_
 rintro rfl rfl
 exact Ao Hd.Aa _ _ [] [br AO 0 2 y7b,Cv s.Af,Bg s.lines,Bg s.facts] (BJ 300 (o3++[pb hb4,Ko (aL s.facts e.name),pb hb5,AG (AP (AE hy7) 3 0)])) (by kernel_rfl) .body
 refine Gv ?_
 rintro rfl rfl
 exact Ao Hd.Aa _ _ [] [br AO 0 2 w3_0_5,Cv s.Af,Bg s.lines,Bg s.facts] (BJ 300 (o3++[pb hb4,Ko (aL s.facts e.name),pb hb5])) (by kernel_rfl) .body
 let o4:LP:=o3++[pb hb4]
 refine Ad (fun hb6=>?_) fun hb6=>?_
 let o5:LP:=o4++[pb hb6,Ko (fJ s.Af e.n),Ko (aL s.lines ((s.Af.get e.n).getD ByteArray.empty))]
 refine Ad (fun hb7=>?_) fun hb7=>?_
 refine Ah ?_
 rintro ⟨y8a,y8b⟩ hy8
 dsimp only
 refine Gv ?_
 rintro rfl rfl
 exact Ao Hd.Aa _ _ [] [br AO 0 2 y8b,Cv s.Af,Bg s.lines,Bg s.facts] (BJ 300 (o5++[pb hb7,AG (AP (AE hy8) 3 0)])) (by kernel_rfl) .body
 refine Gv ?_
 rintro rfl rfl
 exact Ao Hd.Aa _ _ [] [br AO 0 2 w3_0_5,Cv s.Af,Bg s.lines,Bg s.facts] (BJ 300 (o5++[pb hb7])) (by kernel_rfl) .body
 let o6:LP:=o4++[pb hb6]
 refine Ad (fun hb8=>?_) fun hb8=>?_
 refine Ad (fun hb9=>?_) fun hb9=>?_
 refine Ah ?_
 rintro ⟨y9a,y9b⟩ hy9
 dsimp only
 refine Gv ?_
 rintro rfl rfl
 exact Ao Hd.Aa _ _ [] [br AO 0 2 y9b,Cv s.Af,Bg s.lines,Bg s.facts] (BJ 300 (o6++[pb hb8,pb hb9,AG (AP (AE hy9) 3 0)])) (by kernel_rfl) .body
 refine Gv ?_
 rintro rfl rfl
 exact Ao Hd.Aa _ _ [] [br AO 0 2 w3_0_5,Cv s.Af,Bg s.lines,Bg s.facts] (BJ 300 (o6++[pb hb8,pb hb9])) (by kernel_rfl) .body
 let o7:LP:=o6++[pb hb8]
 refine Ad (fun hb10=>?_) fun hb10=>?_
 refine Ah fun y10 hy10=>?_
 refine Ad (fun hb11=>?_) fun hb11=>?_
 refine Ah ?_
 rintro ⟨y11a,y11b⟩ hy11
 dsimp only
 refine Gv ?_
 rintro rfl rfl
 exact Ao Hd.Aa _ _ [] [br AO 0 2 y11b,Cv s.Af,Bg s.lines,Bg s.facts] (BJ 300 (o7++[pb hb10,AG (Fh (DU hy10) 6),pb hb11,AG (AP (AE hy11) 3 0)])) (by kernel_rfl) .body
 refine Gv ?_
 rintro rfl rfl
 exact Ao Hd.Aa _ _ [] [br AO 0 2 w3_0_5,Cv s.Af,Bg s.lines,Bg s.facts] (BJ 300 (o7++[pb hb10,AG (Fh (DU hy10) 6),pb hb11])) (by kernel_rfl) .body
 let o8:LP:=o7++[pb hb10]
 refine Ad (fun hb12=>?_) fun hb12=>?_
 refine Ah fun y12 hy12=>?_
 refine Ad (fun hb13=>?_) fun hb13=>?_
 refine Ah ?_
 rintro ⟨y13a,y13b⟩ hy13
 dsimp only
 refine Gv ?_
 rintro rfl rfl
 exact Ao Hd.Aa _ _ [] [br AO 0 2 y13b,Cv s.Af,Bg s.lines,Bg s.facts] (BJ 300 (o8++[pb hb12,AG (Fh (DU hy12) 6),pb hb13,AG (AP (AE hy13) 3 0)])) (by kernel_rfl) .body
 refine Gv ?_
 rintro rfl rfl
 exact Ao Hd.Aa _ _ [] [br AO 0 2 w3_0_5,Cv s.Af,Bg s.lines,Bg s.facts] (BJ 300 (o8++[pb hb12,AG (Fh (DU hy12) 6),pb hb13])) (by kernel_rfl) .body
 refine Ad (fun hb14=>?_) fun hb14=>?_
 refine Ah fun y14 hy14=>?_
 refine Ad (fun hb15=>?_) fun hb15=>?_
 refine Ah ?_
 rintro ⟨y15a,y15b⟩ hy15
 dsimp only
 refine Gv ?_
 rintro rfl rfl
 exact Ao Hd.Aa _ _ [] [br AO 0 2 y15b,Cv s.Af,Bg s.lines,Bg s.facts] (BJ 300 (o8++[pb hb12,pb hb14,AG (Fh (DU hy14) 6),pb hb15,AG (AP (AE hy15) 3 0)])) (by kernel_rfl) .body
 refine Gv ?_
 rintro rfl rfl
 exact Ao Hd.Aa _ _ [] [br AO 0 2 w3_0_5,Cv s.Af,Bg s.lines,Bg s.facts] (BJ 300 (o8++[pb hb12,pb hb14,AG (Fh (DU hy14) 6),pb hb15])) (by kernel_rfl) .body
 let o9:LP:=o8++[pb hb12,pb hb14]
 refine Ad (fun hb16=>?_) fun hb16=>?_
 refine Ah fun dO hk16=>?_
 refine Ah fun x17 hx17=>?_
 refine Ah fun y18 hy18=>?_
 let o10:LP:=o9++[pb hb16,BT (Ol (id:=6) hk16),tB (NI hx17),An (Gm hy18)]
 refine Ad (fun hv=>?_) fun hv=>?_
 subst hv
 refine Ad (fun hb17=>?_) fun hb17=>?_
 refine Ah ?_
 rintro ⟨y19a,y19b⟩ hy19
 dsimp only
 refine Gv ?_
 rintro rfl rfl
 exact Ao Hd.Aa _ _ [] [br AO 0 2 y19b,Cv s.Af,Bg s.lines,Bg s.facts] (BJ 300 (o10++[BT (Ol (id:=6) hk16),tB (NI hx17),pb hb17,AG (AP (AE hy19) 3 0)])) (by kernel_rfl) .body
 refine Gv ?_
 rintro rfl rfl
 exact Ao Hd.Aa _ _ [] [br AO 0 2 w3_0_5,Cv s.Af,Bg s.lines,Bg s.facts] (BJ 300 (o10++[BT (Ol (id:=6) hk16),tB (NI hx17),pb hb17])) (by kernel_rfl) .body
 subst hv
 refine Ad (fun hb18=>?_) fun hb18=>?_
 refine Ah ?_
 rintro ⟨y20a,y20b⟩ hy20
 dsimp only
 refine Gv ?_
 rintro rfl rfl
 exact Ao Hd.Aa _ _ [] [br AO 0 2 y20b,Cv s.Af,Bg s.lines,Bg s.facts] (BJ 300 (o10++[pb hb18,AG (AP (AE hy20) 3 0)])) (by kernel_rfl) .body
 refine Gv ?_
 rintro rfl rfl
 exact Ao Hd.Aa _ _ [] [br AO 0 2 w3_0_5,Cv s.Af,Bg s.lines,Bg s.facts] (BJ 300 (o10++[pb hb18])) (by kernel_rfl) .body
 refine Ad (fun hb19=>?_) fun hb19=>?_
 refine Ah ?_
 rintro ⟨y21a,y21b⟩ hy21
 dsimp only
 refine Gv ?_
 rintro rfl rfl
 exact Ao Hd.Aa _ _ [] [br AO 0 2 y21b,Cv s.Af,Bg s.lines,Bg s.facts] (BJ 300 (o9++[pb hb16,pb hb19,AG (AP (AE hy21) 3 0)])) (by kernel_rfl) .body
 refine Gv ?_
 rintro rfl rfl
 exact Ao Hd.Aa _ _ [] [br AO 0 2 w3_0_5,Cv s.Af,Bg s.lines,Bg s.facts] (BJ 300 (o9++[pb hb16,pb hb19])) (by kernel_rfl) .body
 subst hv
 refine Gv ?_
 rintro rfl rfl
 exact Ao Hd.Aa _ _ [] [br AO 0 2 w3_0_5,Cv s.Af,Bg s.lines,Bg s.facts] (BJ 300 []) (by kernel_rfl) .body
noncomputable def B3:Nat→Sc→Nd→(List Dg)→Option (ByteArray×(List Dg))
 | 0,_,_,_=>none
 | qn+1,s,e,report=>FE (B3 qn) s e report
theorem Ma:∀ qn:Nat,∀ {s:Sc} {e:Nd} {report:(List Dg)} {yR:ByteArray} {qreportR:(List Dg)},B3 qn s e report=some (yR,qreportR)→Sound P G (.call 129 [.agg [.mp 0,.mp 1,.mp 2],.agg (Bo e),.fn (.func 127) [] [.ptr 3 0]] ⟨[(3,.cells [.sl (.row 0 2) report.length (rows BX report)]),(2,(D1 s.Af)),(1,(BP s.lines)),(0,(BP s.facts))],4,[(0,report.length)],1⟩ (.ret (.zs yR)) ⟨[(3,.cells [.sl (.row 0 2) qreportR.length (rows BX qreportR)]),(2,(D1 s.Af)),(1,(BP s.lines)),(0,(BP s.facts))],4,[(0,qreportR.length)],1⟩):=by
 intro qn
 induction qn with
 | zero=>exact (fun h=>by simp only [B3] at h;cases h)
 | succ qn ih=>exact (fun h=>LR (B3 qn) ih (by rw [B3] at h;exact h))
noncomputable def FD (s:Sc) (e:Nd) (report:(List Dg)):Option (ByteArray×(List Dg)):=W5 (fun qn=>B3 qn s e report)
theorem Jj {s:Sc} {e:Nd} {report:(List Dg)} {yR:ByteArray} {qreportR:(List Dg)} (h:FD s e report=some (yR,qreportR)):Sound P G (.call 129 [.agg [.mp 0,.mp 1,.mp 2],.agg (Bo e),.fn (.func 127) [] [.ptr 3 0]] ⟨[(3,.cells [.sl (.row 0 2) report.length (rows BX report)]),(2,(D1 s.Af)),(1,(BP s.lines)),(0,(BP s.facts))],4,[(0,report.length)],1⟩ (.ret (.zs yR)) ⟨[(3,.cells [.sl (.row 0 2) qreportR.length (rows BX qreportR)]),(2,(D1 s.Af)),(1,(BP s.lines)),(0,(BP s.facts))],4,[(0,qreportR.length)],1⟩):=by
 obtain ⟨qn,h⟩:=Ru h
 exact (Ma qn) h
noncomputable def B84:Code:=AY Tryz.f84
theorem b84:Tryz.f84.body=some B84:=by kernel_rfl
noncomputable def B9  (s:Sc) (E3:Nd) (i0:Nat) (e0:Nd) (w3_0:(List Dg)):Option (Lp (List Dg) (List Dg) (Unit×(List Dg))):=cond (Bp e0.n E3.n) ((AD 101 e0.att w3_0).bind fun (y7a,y7b)=>some (.nx y7b)) (cond ((s.Af.get e0.n).isSome) (some (.nx w3_0)) ((AD 91 e0.att w3_0).bind fun (y8a,y8b)=>some (.nx y8b)))
noncomputable def Bn  (s:Sc) (E3:Nd) (clause:Nd) (report:(List Dg)):Option (Unit×(List Dg)):=cond (Bp clause.kind 7) ((GW clause.kids.length (AL (fun i y x=>B9  s E3 i y x) (fun x=>x) (clause.kids.drop 0) 0 report)).bind (GQ (fun (w3_0_9:(List Dg))=>some ((),w3_0_9)) (fun v=>some v))) (cond (Bp clause.kind 6) ((clause.kids[0]?).bind fun x1=>(FD s x1 report).bind fun (y2a,y2b)=>cond (BC y2a.data.toList ByteArray.empty.data.toList) (some ((),y2b)) (cond (BC Ak.data.toList ByteArray.empty.data.toList) (some ((),y2b)) (cond (BC y2a.data.toList Ak.data.toList) (some ((),y2b)) ((AD 11 x1.att y2b).bind fun (y3a,y3b)=>some ((),y3b))))) ((clause.kids[0]?).bind fun x4=>(FD s x4 report).bind fun (y5a,y5b)=>cond (BC y5a.data.toList ByteArray.empty.data.toList) (some ((),y5b)) (cond (BC ((s.lines.get E3.name).getD ByteArray.empty).data.toList ByteArray.empty.data.toList) (some ((),y5b)) (cond (BC y5a.data.toList ((s.lines.get E3.name).getD ByteArray.empty).data.toList) (some ((),y5b)) ((AD 11 x4.att y5b).bind fun (y6a,y6b)=>some ((),y6b))))))
theorem CO {s:Sc} {E3:Nd} {clause:Nd} {report:(List Dg)} {qreportR:(List Dg)} (hS:Sound P G (.call 84 [.agg [.mp 0,.mp 1,.mp 2],.agg (Bo E3),.agg (Bo clause),.fn (.func 127) [] [.ptr 3 0]] ⟨[(3,.cells [.sl (.row 0 2) report.length (rows BX report)]),(2,(D1 s.Af)),(1,(BP s.lines)),(0,(BP s.facts))],4,[(0,report.length)],1⟩ (.ret (.Bd [])) ⟨[(3,.cells [.sl (.row 0 2) qreportR.length (rows BX qreportR)]),(2,(D1 s.Af)),(1,(BP s.lines)),(0,(BP s.facts))],4,[(0,qreportR.length)],1⟩)) (u0 u1 u2 u3 v0:Nat) (hnb:([u0,u1,u2,u3]:List Nat).Nodup:=by decide) (hnt:([v0]:List Nat).Nodup:=by decide):Cd.ok P G (.callU 84 [.agg [.mp u0,.mp u1,.mp u2],.agg (Bo E3),.agg (Bo clause),.fn (.func 127) [] [.ptr u3 0]] (.ret (.Bd [])) [(u0,(BP s.facts)),(u1,(BP s.lines)),(u2,(D1 s.Af)),(u3,.cells [.sl (.row v0 2) report.length (rows BX report)])] [(v0,report.length)] [(u0,(BP s.facts)),(u1,(BP s.lines)),(u2,(D1 s.Af)),(u3,.cells [.sl (.row v0 2) qreportR.length (rows BX qreportR)])] [(v0,qreportR.length)]) :=
 CS (M:=[(BP s.facts),(BP s.lines),(D1 s.Af),.cells [.sl (.row 0 2) report.length (rows BX report)]]) (M2:=[(BP s.facts),(BP s.lines),(D1 s.Af),.cells [.sl (.row 0 2) qreportR.length (rows BX qreportR)]]) (T:=[report.length]) (T2:=[qreportR.length]) (k:=4) (j:=1) Hd.Aa _ _ _ _ hS rfl rfl rfl rfl rfl hnb hnt rfl rfl (.cons (BK (fun _=>rfl)) (.cons (BK (fun _=>rfl)) (.cons (BK (fun _=>rfl)) (.cons (.cells (.cons (.row (by decide) (AO.AW report)) .nil)) .nil)))) (.cons (BK (fun _=>rfl)) (.cons (BK (fun _=>rfl)) (.cons (BK (fun _=>rfl)) (.cons (.cells (.cons (.row (by decide) (AO.AW qreportR)) .nil)) .nil)))) (.cons (.agg (.cons (.mp (by decide)) (.cons (.mp (by decide)) (.cons (.mp (by decide)) .nil)))) (.cons (.pl (Am.Dp E3)) (.cons (.pl (Am.Dp clause)) (.cons (.fn (.pl rfl) (.cons (.ptr (by decide)) .nil)) .nil)))) (.pl rfl) (by
   intro e he
   simp only [List.mem_cons,List.not_mem_nil,or_false] at he
   rcases he with rfl | rfl | rfl | rfl
   · exact (.arg (.here (.agg (.here .mp))))
   · exact (.arg (.here (.agg (.there (.here .mp)))))
   · exact (.arg (.here (.agg (.there (.there (.here .mp))))))
   · exact (.arg (.there (.there (.there (.here (.fn2 (.here .ptr)))))))
   )
theorem Cm   {s:Sc} {E3:Nd} {clause:Nd} {report:(List Dg)} {yR:Unit} {qreportR:(List Dg)} (h:Bn  s E3 clause report=some (yR,qreportR)):Sound P G (.call 84 [.agg [.mp 0,.mp 1,.mp 2],.agg (Bo E3),.agg (Bo clause),.fn (.func 127) [] [.ptr 3 0]] ⟨[(3,.cells [.sl (.row 0 2) report.length (rows BX report)]),(2,(D1 s.Af)),(1,(BP s.lines)),(0,(BP s.facts))],4,[(0,report.length)],1⟩ (.ret (.Bd [])) ⟨[(3,.cells [.sl (.row 0 2) qreportR.length (rows BX qreportR)]),(2,(D1 s.Af)),(1,(BP s.lines)),(0,(BP s.facts))],4,[(0,qreportR.length)],1⟩):=by
 unfold Bn at h
 refine CT Hd.mixed (Ay Tryz.func84 b84 ?_)
 revert h
 refine Ad (fun hb1=>?_) fun hb1=>?_
 refine DF (fun Q v=>Iu P G Tryz.f84 4 ⟨[(3,.cells [.sl (.row 0 2) report.length (rows BX report)]),(2,(D1 s.Af)),(1,(BP s.lines)),(0,(BP s.facts))],4,[(0,report.length)],1⟩ Q (.Bd []) ⟨[(3,.cells [.sl (.row 0 2) v.2.length (rows BX v.2)]),(2,(D1 s.Af)),(1,(BP s.lines)),(0,(BP s.facts))],4,[(0,v.2.length)],1⟩) (fun i0 (w3_0:(List Dg)) (j0:List Value)=>fr 80 [(3,.fn (.func 127) [] [.ptr 3 0]),(4,.ptr 4 0),(5,.ptr 5 0),(19,.sl .lost clause.kids.length (Cg clause.kids)),(20,.zi ((clause.kids.length:Nat):Int)),(21,.zi ((i0:Nat):Int))] [11,17,22,29,41,42,43,56,66,67,69,70,71,74,75] j0) (fun (w3_0:(List Dg))=>⟨[(6,.cells (Bo clause)),(5,.cells (Bo E3)),(4,.cells [.mp 0,.mp 1,.mp 2]),(3,.cells [.sl (.row 0 2) w3_0.length (rows BX w3_0)]),(2,(D1 s.Af)),(1,(BP s.lines)),(0,(BP s.facts))],7,[(0,w3_0.length)],1⟩) (fun (w3_0:(List Dg)) (jx:List Value)=>fr 80 [] [11,17,22,29,41,42,43,56,66,67,69,70,71,74,75] jx) (fun (w3_0:(List Dg))=>⟨[(6,.cells (Bo clause)),(5,.cells (Bo E3)),(4,.cells [.mp 0,.mp 1,.mp 2]),(3,.cells [.sl (.row 0 2) w3_0.length (rows BX w3_0)]),(2,(D1 s.Af)),(1,(BP s.lines)),(0,(BP s.facts))],7,[(0,w3_0.length)],1⟩) [undef,bT] (Dq [] 0 (sb B84 420) [.code (sb B84 53),.code (sb B84 7)] (Ag 300 [pb hb1]) (by kernel_rfl)) ?_ ?_ ?_ (fun v h=>by cases h;exact .outer .body)
 rintro i0 w3_0 j0 hge hq
 exact B1 (Ag 300 [pb (IJ hge)]) (by kernel_rfl) (hq (js 15 j0 [(2,bF)]))
 rintro i0 e0 w3_0 j0 r he0 hi0 mi0 k
 show B9  s E3 i0 e0 w3_0=some r→_
 unfold B9
 refine Ad (fun hb9=>?_) fun hb9=>?_
 refine Ah ?_
 rintro ⟨y7a,y7b⟩ hy7
 dsimp only
 rintro ⟨⟩
 exact Bt Hd.Aa [fq (Am.Bk clause.kids)] [bp (Am.pl clause),bp (Am.pl E3),none,br AO 0 2 y7b,Cv s.Af,Bg s.lines,Bg s.facts] (Ag 300 [pb (Fk hi0),BT (BQ .lost he0),pb hb9,AG (AP (AE hy7) 3 0),pi mi0]) (by kernel_rfl) (k (js 15 j0 [(2,bT),(3,bT)]))
 refine Ad (fun hb10=>?_) fun hb10=>?_
 rintro ⟨⟩
 exact Bt Hd.Aa [fq (Am.Bk clause.kids)] [bp (Am.pl clause),bp (Am.pl E3),none,br AO 0 2 w3_0,Cv s.Af,Bg s.lines,Bg s.facts] (Ag 300 [pb (Fk hi0),BT (BQ .lost he0),pb hb9,Ko (Vo s.Af e0.n hb10),pi mi0]) (by kernel_rfl) (k (js 15 j0 [(0,bT),(2,bT),(3,bF),(4,bT),(5,bT),(6,bF)]))
 refine Ah ?_
 rintro ⟨y8a,y8b⟩ hy8
 dsimp only
 rintro ⟨⟩
 exact Bt Hd.Aa [fq (Am.Bk clause.kids)] [bp (Am.pl clause),bp (Am.pl E3),none,br AO 0 2 y8b,Cv s.Af,Bg s.lines,Bg s.facts] (Ag 300 [pb (Fk hi0),BT (BQ .lost he0),pb hb9,Ko (Vo s.Af e0.n hb10),AG (AP (AE hy8) 3 0),pi mi0]) (by kernel_rfl) (k (js 15 j0 [(0,bF),(2,bT),(3,bF),(4,bF),(5,bF),(6,bT)]))
 rintro w3_0_9 jx_9
 refine Gv ?_
 rintro rfl rfl
 exact Ao Hd.Aa _ _ [⟨.Bd [],.Bd [],(.plain rfl)⟩] [br AO 0 2 w3_0_9,Cv s.Af,Bg s.lines,Bg s.facts] (BJ 300 []) (by kernel_rfl) .body
 let o1:LP:=[pb hb1,Ko (aL s.lines E3.name)]
 refine Ad (fun hb2=>?_) fun hb2=>?_
 refine Ah fun x1 hx1=>?_
 refine Ah ?_
 rintro ⟨y2a,y2b⟩ hy2
 dsimp only
 let o2:LP:=o1++[pb hb2,BT (BQ .lost hx1),AG (G5 (Jj hy2) 0 1 2 3 0)]
 refine Ad (fun hb3=>?_) fun hb3=>?_
 refine Gv ?_
 rintro rfl rfl
 exact FL Hd.Aa _ _ [⟨.Bd [],.Bd [],(.plain rfl)⟩] [br AO 0 2 y2b,Cv s.Af,Bg s.lines,Bg s.facts] (Ag 300 (o2++[pn hb3])) (by kernel_rfl)
 refine Ad (fun hb4=>?_) fun hb4=>?_
 refine Gv ?_
 rintro rfl rfl
 exact FL Hd.Aa _ _ [⟨.Bd [],.Bd [],(.plain rfl)⟩] [br AO 0 2 y2b,Cv s.Af,Bg s.lines,Bg s.facts] (Ag 300 (o2++[pn hb3,pn hb4])) (by kernel_rfl)
 refine Ad (fun hb5=>?_) fun hb5=>?_
 refine Gv ?_
 rintro rfl rfl
 exact FL Hd.Aa _ _ [⟨.Bd [],.Bd [],(.plain rfl)⟩] [br AO 0 2 y2b,Cv s.Af,Bg s.lines,Bg s.facts] (Ag 300 (o2++[pn hb3,pn hb4,pn hb5])) (by kernel_rfl)
 refine Ah ?_
 rintro ⟨y3a,y3b⟩ hy3
 dsimp only
 refine Gv ?_
 rintro rfl rfl
 exact FL Hd.Aa _ _ [⟨.Bd [],.Bd [],(.plain rfl)⟩] [br AO 0 2 y3b,Cv s.Af,Bg s.lines,Bg s.facts] (Ag 300 (o2++[pn hb3,pn hb4,pn hb5,AG (AP (AE hy3) 3 0)])) (by kernel_rfl)
 refine Ah fun x4 hx4=>?_
 refine Ah ?_
 rintro ⟨y5a,y5b⟩ hy5
 dsimp only
 let o3:LP:=o1++[pb hb2,BT (BQ .lost hx4),AG (G5 (Jj hy5) 0 1 2 3 0)]
 refine Ad (fun hb6=>?_) fun hb6=>?_
 refine Gv ?_
 rintro rfl rfl
 exact FL Hd.Aa _ _ [⟨.Bd [],.Bd [],(.plain rfl)⟩] [br AO 0 2 y5b,Cv s.Af,Bg s.lines,Bg s.facts] (Ag 300 (o3++[pn hb6])) (by kernel_rfl)
 refine Ad (fun hb7=>?_) fun hb7=>?_
 refine Gv ?_
 rintro rfl rfl
 exact FL Hd.Aa _ _ [⟨.Bd [],.Bd [],(.plain rfl)⟩] [br AO 0 2 y5b,Cv s.Af,Bg s.lines,Bg s.facts] (Ag 300 (o3++[pn hb6,pn hb7])) (by kernel_rfl)
 refine Ad (fun hb8=>?_) fun hb8=>?_
 refine Gv ?_
 rintro rfl rfl
 exact FL Hd.Aa _ _ [⟨.Bd [],.Bd [],(.plain rfl)⟩] [br AO 0 2 y5b,Cv s.Af,Bg s.lines,Bg s.facts] (Ag 300 (o3++[pn hb6,pn hb7,pn hb8])) (by kernel_rfl)
 refine Ah ?_
 rintro ⟨y6a,y6b⟩ hy6
 dsimp only
 refine Gv ?_
 rintro rfl rfl
 exact FL Hd.Aa _ _ [⟨.Bd [],.Bd [],(.plain rfl)⟩] [br AO 0 2 y6b,Cv s.Af,Bg s.lines,Bg s.facts] (Ag 300 (o3++[pn hb6,pn hb7,pn hb8,AG (AP (AE hy6) 3 0)])) (by kernel_rfl)
noncomputable def bB:Code:=AY Tryz.f46
theorem b46:Tryz.f46.body=some bB:=by kernel_rfl
noncomputable def I3  (y3:Sc) (e0:Nd) (i1:Nat) (e1:Nd) (w1_0:(List Dg)):Option (Lp (List Dg) (List Dg) (List Dg)):=(Bn y3 e0 e1 w1_0).bind fun (y14a,y14b)=>some (.nx y14b)
noncomputable def IZ  (y3:Sc) (e0:Nd) (i2:Nat) (e2:Nd) (w1_0:(List Dg)):Option (Lp (List Dg) (List Dg) (List Dg)):=(Bn y3 e0 e2 w1_0).bind fun (y16a,y16b)=>some (.nx y16b)
noncomputable def Jc  (y3:Sc) (e0:Nd) (i3:Nat) (e3:Nd) (w1_0:(List Dg)):Option (Lp (List Dg) (List Dg) (List Dg)):=(Bn y3 e0 e3 w1_0).bind fun (y18a,y18b)=>some (.nx y18b)
noncomputable def Jp  (y3:Sc) (e0:Nd) (i4:Nat) (e4:Nd) (w1_0:(List Dg)):Option (Lp (List Dg) (List Dg) (List Dg)):=(Bn y3 e0 e4 w1_0).bind fun (y20a,y20b)=>some (.nx y20b)
noncomputable def IS  (y3:Sc) (e0:Nd) (i5:Nat) (e5:Nd) (w1_0:(List Dg)):Option (Lp (List Dg) (List Dg) (List Dg)):=(Bn y3 e0 e5 w1_0).bind fun (y22a,y22b)=>some (.nx y22b)
noncomputable def Gr  (y3:Sc) (i0:Nat) (e0:Nd) (count6:Int) (w1_0:(List Dg)):Option (Lp (Int×(List Dg)) (List Dg) (List Dg)):=cond (Bp e0.kind 4) (cond ((y3.lines.get e0.name).isSome) (cond (DH 60 (BW count6 1)) ((AD 2 e0.att w1_0).bind fun (y5a,y5b)=>(Jv e0.kids 1 ((e0.kids.length:Nat):Int)).bind fun l6=>(GW l6.length (AL (fun i y x=>I3  y3 e0 i y x) (fun x=>x) (l6.drop 0) 0 y5b)).bind (GQ (fun (w1_0_15:(List Dg))=>some (.nx ((BW count6 1),w1_0_15))) (fun v=>some (.rt v)))) (cond (BC ((y3.Af.get e0.n).getD ByteArray.empty).data.toList e0.name.data.toList) ((Jv e0.kids 1 ((e0.kids.length:Nat):Int)).bind fun l7=>(GW l7.length (AL (fun i y x=>IZ  y3 e0 i y x) (fun x=>x) (l7.drop 0) 0 w1_0)).bind (GQ (fun (w1_0_17:(List Dg))=>some (.nx ((BW count6 1),w1_0_17))) (fun v=>some (.rt v)))) ((AD 101 e0.att w1_0).bind fun (y8a,y8b)=>(Jv e0.kids 1 ((e0.kids.length:Nat):Int)).bind fun l9=>(GW l9.length (AL (fun i y x=>Jc  y3 e0 i y x) (fun x=>x) (l9.drop 0) 0 y8b)).bind (GQ (fun (w1_0_19:(List Dg))=>some (.nx ((BW count6 1),w1_0_19))) (fun v=>some (.rt v)))))) (cond (DH 60 (BW count6 1)) ((AD 2 e0.att w1_0).bind fun (y10a,y10b)=>(Jv e0.kids 1 ((e0.kids.length:Nat):Int)).bind fun l11=>(GW l11.length (AL (fun i y x=>Jp  y3 e0 i y x) (fun x=>x) (l11.drop 0) 0 y10b)).bind (GQ (fun (w1_0_21:(List Dg))=>some (.nx ((BW count6 1),w1_0_21))) (fun v=>some (.rt v)))) ((AD 91 e0.att w1_0).bind fun (y12a,y12b)=>(Jv e0.kids 1 ((e0.kids.length:Nat):Int)).bind fun l13=>(GW l13.length (AL (fun i y x=>IS  y3 e0 i y x) (fun x=>x) (l13.drop 0) 0 y12b)).bind (GQ (fun (w1_0_23:(List Dg))=>some (.nx ((BW count6 1),w1_0_23))) (fun v=>some (.rt v)))))) (some (.nx (count6,w1_0)))
noncomputable def GU  (source:Nd):Option (List Dg):=cond (Bp source.kind 1) ((DO source).bind fun y1=>cond y1 ((G8).bind fun y2=>(Gf source).bind fun y3=>(CQ source []).bind fun (y4a,y4b)=>(GW source.kids.length (AL (fun i y x=>Gr  y3 i y x.1 x.2) (fun x=>x.2) (source.kids.drop 0) 0 (0,y4b))).bind (GQ (fun (w1_0_24:(List Dg))=>some w1_0_24) (fun v=>some v))) (some [(⟨1,0⟩:Dg)])) (some [(⟨1,0⟩:Dg)])
theorem Mq   {source:Nd} {yR:(List Dg)} (h:GU  source=some yR):Pure P G 46 [.agg (Bo source)] (.sl .lost yR.length (rows BX yR)):=by
 unfold GU at h
 refine BF Hd.mixed Hd.Aa (Ay Tryz.func46 b46 ?_) (AW (Am.Dp source) rfl) (AO.Bk yR)
 revert h
 refine Ad (fun hb1=>?_) fun hb1=>?_
 refine Ah fun y1 hy1=>?_
 refine Ad (fun hv=>?_) fun hv=>?_
 subst hv
 refine Ah fun y2 hy2=>?_
 refine Ah fun y3 hy3=>?_
 refine Ah ?_
 rintro ⟨y4a,y4b⟩ hy4
 dsimp only
 refine DF (fun Q v=>EQ P Tryz.f46 0 Q (.sl .lost v.length (rows BX v))) (fun i0 ((count6,w1_0):(Int×(List Dg))) (j0:List Value)=>fr 97 [(3,.ptr 1 0),(4,.fn (.func 127) [] [.ptr 1 0]),(5,.ptr 7 0),(6,.zi count6),(33,.sl .lost source.kids.length (Cg source.kids)),(34,.zi ((source.kids.length:Nat):Int)),(35,.zi ((i0:Nat):Int))] [10,15,16,18,19,20,36,41,51,52,54,59,60,61,66,74,84] j0) (fun ((count6,w1_0):(Int×(List Dg)))=>⟨[(7,.cells [.mp 4,.mp 5,.mp 6]),(6,(D1 y3.Af)),(5,(BP y3.lines)),(4,(BP y3.facts)),(1,.cells [.sl (.row 0 2) w1_0.length (rows BX w1_0)]),(0,.cells (Bo source))],8,[(0,w1_0.length)],1⟩) (fun (w1_0:(List Dg)) (jx:List Value)=>fr 97 [(3,.ptr 1 0)] [10,15,16,18,19,20,36,41,51,52,54,59,60,61,66,74,84] jx) (fun (w1_0:(List Dg))=>⟨[(7,.cells [.mp 4,.mp 5,.mp 6]),(6,(D1 y3.Af)),(5,(BP y3.lines)),(4,(BP y3.facts)),(1,.cells [.sl (.row 0 2) w1_0.length (rows BX w1_0)]),(0,.cells (Bo source))],8,[(0,w1_0.length)],1⟩) [undef,bF,bF,bT,bF,bF] (Dq [] 0 (sb bB 2036) [.code (sb bB 255)] (Ag 300 [pn hb1,An (EI hy1),YY (v:=.Bd [.ptr 1 0,.fn (.func 127) [] [.ptr 1 0]]) (h:=[(1,.cells [.sl .full 0 []])] ) (F:=[]) (Qm (NA hy2) 1 0),YY (v:=.agg [.mp 4,.mp 5,.mp 6]) (h:=[(6,(D1 y3.Af)),(5,(BP y3.lines)),(4,(BP y3.facts))] ) (F:=[]) (QY (Ox hy3) 2 0),pnz [.b 1 0 2],AG (KC (JF hy4) 1 0)]) (by kernel_rfl)) ?_ ?_ ?_ (fun v h=>by cases h;exact .outer .body)
 rintro i0 ⟨count6,w1_0⟩ j0 hge hq
 exact B1 (Ag 300 [pb (IJ hge)]) (by kernel_rfl) (hq (js 17 j0 [(6,bF)]))
 rintro i0 e0 ⟨count6,w1_0⟩ j0 r he0 hi0 mi0 k
 show Gr  y3 i0 e0 count6 w1_0=some r→_
 unfold Gr
 let o1:LP:=[pb (Fk hi0),BT (BQ .lost he0)]
 refine Ad (fun hb2=>?_) fun hb2=>?_
 refine Ad (fun hb3=>?_) fun hb3=>?_
 let o2:LP:=o1++[pn hb2,pk,Ko (Pk y3.lines e0.name hb3)]
 refine Ad (fun hb4=>?_) fun hb4=>?_
 refine Ah ?_
 rintro ⟨y5a,y5b⟩ hy5
 dsimp only
 refine Ah fun l6 hl6=>?_
 refine DF (fun Q v=>EQ P Tryz.f46 0 Q (.sl .lost v.length (rows BX v))) (fun i1 (w1_0:(List Dg)) (j1:List Value)=>fr 97 [(3,.ptr 1 0),(4,.fn (.func 127) [] [.ptr 1 0]),(5,.ptr 7 0),(6,.zi (BW count6 1)),(8,.ptr 8 0),(33,.sl .lost source.kids.length (Cg source.kids)),(34,.zi ((source.kids.length:Nat):Int)),(35,.zi ((i0:Nat):Int)),(81,.sl .lost l6.length (Cg l6)),(82,.zi ((l6.length:Nat):Int)),(83,.zi ((i1:Nat):Int))] [10,15,16,18,19,20,36,41,51,52,54,59,60,61,66,74,84] j1) (fun (w1_0:(List Dg))=>⟨[(8,.cells (Bo e0)),(7,.cells [.mp 4,.mp 5,.mp 6]),(6,(D1 y3.Af)),(5,(BP y3.lines)),(4,(BP y3.facts)),(1,.cells [.sl (.row 0 2) w1_0.length (rows BX w1_0)]),(0,.cells (Bo source))],9,[(0,w1_0.length)],1⟩) (fun (w1_0:(List Dg)) (jx:List Value)=>fr 97 [(3,.ptr 1 0),(4,.fn (.func 127) [] [.ptr 1 0]),(5,.ptr 7 0),(6,.zi (BW count6 1)),(33,.sl .lost source.kids.length (Cg source.kids)),(34,.zi ((source.kids.length:Nat):Int)),(35,.zi ((i0:Nat):Int))] [10,15,16,18,19,20,36,41,51,52,54,59,60,61,66,74,84] jx) (fun (w1_0:(List Dg))=>⟨[(8,.cells (Bo e0)),(7,.cells [.mp 4,.mp 5,.mp 6]),(6,(D1 y3.Af)),(5,(BP y3.lines)),(4,(BP y3.facts)),(1,.cells [.sl (.row 0 2) w1_0.length (rows BX w1_0)]),(0,.cells (Bo source))],9,[(0,w1_0.length)],1⟩) (js 17 j0 [(0,bT),(6,bT),(7,bF),(8,bT),(9,bT),(10,bT)]) (Dq [] 3 (sb bB 8342780) [.endb 1,.code (sb bB 16295)] (Ag 300 (o2++[pb hb4,AG (AP (AE hy5) 1 0),PA (Ir hl6)])) (by kernel_rfl)) ?_ ?_ ?_ (fun v h=>by cases h;exact .outer (.Em k))
 rintro i1 w1_0 j1 hge hq
 exact B1 (Ag 300 [pb (IJ hge)]) (by kernel_rfl) (hq (js 17 j1 [(16,bF)]))
 rintro i1 e1 w1_0 j1 r he1 hi1 mi1 k
 show I3  y3 e0 i1 e1 w1_0=some r→_
 unfold I3
 refine Ah ?_
 rintro ⟨y14a,y14b⟩ hy14
 dsimp only
 rintro ⟨⟩
 exact Bt Hd.Aa [fq (Am.Bk source.kids),fq (Am.Bk l6)] [bp (Am.pl e0),none,Cv y3.Af,Bg y3.lines,Bg y3.facts,br AO 0 2 y14b,bp (Am.pl source)] (Ag 300 [pb (Fk hi1),BT (BQ .lost he1),AG (CO (Cm hy14) 4 5 6 1 0),pi mi1]) (by kernel_rfl) (k (js 17 j1 [(16,bT)]))
 rintro w1_0_15 jx_15
 rintro ⟨⟩
 exact Bt Hd.Aa [fq (Am.Bk source.kids)] [none,Cv y3.Af,Bg y3.lines,Bg y3.facts,br AO 0 2 w1_0_15,bp (Am.pl source)] (BJ 300 [pi mi0]) (by kernel_rfl) (k jx_15)
 refine Ad (fun hb5=>?_) fun hb5=>?_
 refine Ah fun l7 hl7=>?_
 refine DF (fun Q v=>EQ P Tryz.f46 0 Q (.sl .lost v.length (rows BX v))) (fun i2 (w1_0:(List Dg)) (j2:List Value)=>fr 97 [(3,.ptr 1 0),(4,.fn (.func 127) [] [.ptr 1 0]),(5,.ptr 7 0),(6,.zi (BW count6 1)),(8,.ptr 8 0),(33,.sl .lost source.kids.length (Cg source.kids)),(34,.zi ((source.kids.length:Nat):Int)),(35,.zi ((i0:Nat):Int)),(81,.sl .lost l7.length (Cg l7)),(82,.zi ((l7.length:Nat):Int)),(83,.zi ((i2:Nat):Int))] [10,15,16,18,19,20,36,41,51,52,54,59,60,61,66,74,84] j2) (fun (w1_0:(List Dg))=>⟨[(8,.cells (Bo e0)),(7,.cells [.mp 4,.mp 5,.mp 6]),(6,(D1 y3.Af)),(5,(BP y3.lines)),(4,(BP y3.facts)),(1,.cells [.sl (.row 0 2) w1_0.length (rows BX w1_0)]),(0,.cells (Bo source))],9,[(0,w1_0.length)],1⟩) (fun (w1_0:(List Dg)) (jx:List Value)=>fr 97 [(3,.ptr 1 0),(4,.fn (.func 127) [] [.ptr 1 0]),(5,.ptr 7 0),(6,.zi (BW count6 1)),(33,.sl .lost source.kids.length (Cg source.kids)),(34,.zi ((source.kids.length:Nat):Int)),(35,.zi ((i0:Nat):Int))] [10,15,16,18,19,20,36,41,51,52,54,59,60,61,66,74,84] jx) (fun (w1_0:(List Dg))=>⟨[(8,.cells (Bo e0)),(7,.cells [.mp 4,.mp 5,.mp 6]),(6,(D1 y3.Af)),(5,(BP y3.lines)),(4,(BP y3.facts)),(1,.cells [.sl (.row 0 2) w1_0.length (rows BX w1_0)]),(0,.cells (Bo source))],9,[(0,w1_0.length)],1⟩) [bT,(jv j0 1),(jv j0 2),(jv j0 3),(jv j0 4),(jv j0 5),bT,bF,bT,bF,bF,bF,bT,bF,bF,bF,(jv j0 16)] (Dq [] 3 (sb bB 8342780) [.endb 1,.code (sb bB 16295)] (Ag 300 (o2++[pb hb4,Ko (fJ y3.Af e0.n),pn hb5,PA (Ir hl7)])) (by kernel_rfl)) ?_ ?_ ?_ (fun v h=>by cases h;exact .outer (.Em k))
 rintro i2 w1_0 j2 hge hq
 exact B1 (Ag 300 [pb (IJ hge)]) (by kernel_rfl) (hq (js 17 j2 [(16,bF)]))
 rintro i2 e2 w1_0 j2 r he2 hi2 mi2 k
 show IZ  y3 e0 i2 e2 w1_0=some r→_
 unfold IZ
 refine Ah ?_
 rintro ⟨y16a,y16b⟩ hy16
 dsimp only
 rintro ⟨⟩
 exact Bt Hd.Aa [fq (Am.Bk source.kids),fq (Am.Bk l7)] [bp (Am.pl e0),none,Cv y3.Af,Bg y3.lines,Bg y3.facts,br AO 0 2 y16b,bp (Am.pl source)] (Ag 300 [pb (Fk hi2),BT (BQ .lost he2),AG (CO (Cm hy16) 4 5 6 1 0),pi mi2]) (by kernel_rfl) (k (js 17 j2 [(16,bT)]))
 rintro w1_0_17 jx_17
 rintro ⟨⟩
 exact Bt Hd.Aa [fq (Am.Bk source.kids)] [none,Cv y3.Af,Bg y3.lines,Bg y3.facts,br AO 0 2 w1_0_17,bp (Am.pl source)] (BJ 300 [pi mi0]) (by kernel_rfl) (k jx_17)
 refine Ah ?_
 rintro ⟨y8a,y8b⟩ hy8
 dsimp only
 refine Ah fun l9 hl9=>?_
 refine DF (fun Q v=>EQ P Tryz.f46 0 Q (.sl .lost v.length (rows BX v))) (fun i3 (w1_0:(List Dg)) (j3:List Value)=>fr 97 [(3,.ptr 1 0),(4,.fn (.func 127) [] [.ptr 1 0]),(5,.ptr 7 0),(6,.zi (BW count6 1)),(8,.ptr 8 0),(33,.sl .lost source.kids.length (Cg source.kids)),(34,.zi ((source.kids.length:Nat):Int)),(35,.zi ((i0:Nat):Int)),(81,.sl .lost l9.length (Cg l9)),(82,.zi ((l9.length:Nat):Int)),(83,.zi ((i3:Nat):Int))] [10,15,16,18,19,20,36,41,51,52,54,59,60,61,66,74,84] j3) (fun (w1_0:(List Dg))=>⟨[(8,.cells (Bo e0)),(7,.cells [.mp 4,.mp 5,.mp 6]),(6,(D1 y3.Af)),(5,(BP y3.lines)),(4,(BP y3.facts)),(1,.cells [.sl (.row 0 2) w1_0.length (rows BX w1_0)]),(0,.cells (Bo source))],9,[(0,w1_0.length)],1⟩) (fun (w1_0:(List Dg)) (jx:List Value)=>fr 97 [(3,.ptr 1 0),(4,.fn (.func 127) [] [.ptr 1 0]),(5,.ptr 7 0),(6,.zi (BW count6 1)),(33,.sl .lost source.kids.length (Cg source.kids)),(34,.zi ((source.kids.length:Nat):Int)),(35,.zi ((i0:Nat):Int))] [10,15,16,18,19,20,36,41,51,52,54,59,60,61,66,74,84] jx) (fun (w1_0:(List Dg))=>⟨[(8,.cells (Bo e0)),(7,.cells [.mp 4,.mp 5,.mp 6]),(6,(D1 y3.Af)),(5,(BP y3.lines)),(4,(BP y3.facts)),(1,.cells [.sl (.row 0 2) w1_0.length (rows BX w1_0)]),(0,.cells (Bo source))],9,[(0,w1_0.length)],1⟩) [bT,(jv j0 1),(jv j0 2),(jv j0 3),(jv j0 4),(jv j0 5),bT,bF,bT,bF,bF,bF,bT,bF,bT,bT,(jv j0 16)] (Dq [] 3 (sb bB 8342780) [.endb 1,.code (sb bB 16295)] (Ag 300 (o2++[pb hb4,Ko (fJ y3.Af e0.n),pn hb5,AG (AP (AE hy8) 1 0),PA (Ir hl9)])) (by kernel_rfl)) ?_ ?_ ?_ (fun v h=>by cases h;exact .outer (.Em k))
 rintro i3 w1_0 j3 hge hq
 exact B1 (Ag 300 [pb (IJ hge)]) (by kernel_rfl) (hq (js 17 j3 [(16,bF)]))
 rintro i3 e3 w1_0 j3 r he3 hi3 mi3 k
 show Jc  y3 e0 i3 e3 w1_0=some r→_
 unfold Jc
 refine Ah ?_
 rintro ⟨y18a,y18b⟩ hy18
 dsimp only
 rintro ⟨⟩
 exact Bt Hd.Aa [fq (Am.Bk source.kids),fq (Am.Bk l9)] [bp (Am.pl e0),none,Cv y3.Af,Bg y3.lines,Bg y3.facts,br AO 0 2 y18b,bp (Am.pl source)] (Ag 300 [pb (Fk hi3),BT (BQ .lost he3),AG (CO (Cm hy18) 4 5 6 1 0),pi mi3]) (by kernel_rfl) (k (js 17 j3 [(16,bT)]))
 rintro w1_0_19 jx_19
 rintro ⟨⟩
 exact Bt Hd.Aa [fq (Am.Bk source.kids)] [none,Cv y3.Af,Bg y3.lines,Bg y3.facts,br AO 0 2 w1_0_19,bp (Am.pl source)] (BJ 300 [pi mi0]) (by kernel_rfl) (k jx_19)
 refine Ad (fun hb6=>?_) fun hb6=>?_
 refine Ah ?_
 rintro ⟨y10a,y10b⟩ hy10
 dsimp only
 refine Ah fun l11 hl11=>?_
 refine DF (fun Q v=>EQ P Tryz.f46 0 Q (.sl .lost v.length (rows BX v))) (fun i4 (w1_0:(List Dg)) (j4:List Value)=>fr 97 [(3,.ptr 1 0),(4,.fn (.func 127) [] [.ptr 1 0]),(5,.ptr 7 0),(6,.zi (BW count6 1)),(8,.ptr 8 0),(33,.sl .lost source.kids.length (Cg source.kids)),(34,.zi ((source.kids.length:Nat):Int)),(35,.zi ((i0:Nat):Int)),(81,.sl .lost l11.length (Cg l11)),(82,.zi ((l11.length:Nat):Int)),(83,.zi ((i4:Nat):Int))] [10,15,16,18,19,20,36,41,51,52,54,59,60,61,66,74,84] j4) (fun (w1_0:(List Dg))=>⟨[(8,.cells (Bo e0)),(7,.cells [.mp 4,.mp 5,.mp 6]),(6,(D1 y3.Af)),(5,(BP y3.lines)),(4,(BP y3.facts)),(1,.cells [.sl (.row 0 2) w1_0.length (rows BX w1_0)]),(0,.cells (Bo source))],9,[(0,w1_0.length)],1⟩) (fun (w1_0:(List Dg)) (jx:List Value)=>fr 97 [(3,.ptr 1 0),(4,.fn (.func 127) [] [.ptr 1 0]),(5,.ptr 7 0),(6,.zi (BW count6 1)),(33,.sl .lost source.kids.length (Cg source.kids)),(34,.zi ((source.kids.length:Nat):Int)),(35,.zi ((i0:Nat):Int))] [10,15,16,18,19,20,36,41,51,52,54,59,60,61,66,74,84] jx) (fun (w1_0:(List Dg))=>⟨[(8,.cells (Bo e0)),(7,.cells [.mp 4,.mp 5,.mp 6]),(6,(D1 y3.Af)),(5,(BP y3.lines)),(4,(BP y3.facts)),(1,.cells [.sl (.row 0 2) w1_0.length (rows BX w1_0)]),(0,.cells (Bo source))],9,[(0,w1_0.length)],1⟩) (js 17 j0 [(0,bF),(6,bT),(7,bF),(8,bF),(9,bT),(10,bT)]) (Dq [] 3 (sb bB 8342780) [.endb 1,.code (sb bB 16295)] (Ag 300 (o1++[pn hb2,pk,Ko (Pk y3.lines e0.name hb3),pb hb6,AG (AP (AE hy10) 1 0),PA (Ir hl11)])) (by kernel_rfl)) ?_ ?_ ?_ (fun v h=>by cases h;exact .outer (.Em k))
 rintro i4 w1_0 j4 hge hq
 exact B1 (Ag 300 [pb (IJ hge)]) (by kernel_rfl) (hq (js 17 j4 [(16,bF)]))
 rintro i4 e4 w1_0 j4 r he4 hi4 mi4 k
 show Jp  y3 e0 i4 e4 w1_0=some r→_
 unfold Jp
 refine Ah ?_
 rintro ⟨y20a,y20b⟩ hy20
 dsimp only
 rintro ⟨⟩
 exact Bt Hd.Aa [fq (Am.Bk source.kids),fq (Am.Bk l11)] [bp (Am.pl e0),none,Cv y3.Af,Bg y3.lines,Bg y3.facts,br AO 0 2 y20b,bp (Am.pl source)] (Ag 300 [pb (Fk hi4),BT (BQ .lost he4),AG (CO (Cm hy20) 4 5 6 1 0),pi mi4]) (by kernel_rfl) (k (js 17 j4 [(16,bT)]))
 rintro w1_0_21 jx_21
 rintro ⟨⟩
 exact Bt Hd.Aa [fq (Am.Bk source.kids)] [none,Cv y3.Af,Bg y3.lines,Bg y3.facts,br AO 0 2 w1_0_21,bp (Am.pl source)] (BJ 300 [pi mi0]) (by kernel_rfl) (k jx_21)
 refine Ah ?_
 rintro ⟨y12a,y12b⟩ hy12
 dsimp only
 refine Ah fun l13 hl13=>?_
 refine DF (fun Q v=>EQ P Tryz.f46 0 Q (.sl .lost v.length (rows BX v))) (fun i5 (w1_0:(List Dg)) (j5:List Value)=>fr 97 [(3,.ptr 1 0),(4,.fn (.func 127) [] [.ptr 1 0]),(5,.ptr 7 0),(6,.zi (BW count6 1)),(8,.ptr 8 0),(33,.sl .lost source.kids.length (Cg source.kids)),(34,.zi ((source.kids.length:Nat):Int)),(35,.zi ((i0:Nat):Int)),(81,.sl .lost l13.length (Cg l13)),(82,.zi ((l13.length:Nat):Int)),(83,.zi ((i5:Nat):Int))] [10,15,16,18,19,20,36,41,51,52,54,59,60,61,66,74,84] j5) (fun (w1_0:(List Dg))=>⟨[(8,.cells (Bo e0)),(7,.cells [.mp 4,.mp 5,.mp 6]),(6,(D1 y3.Af)),(5,(BP y3.lines)),(4,(BP y3.facts)),(1,.cells [.sl (.row 0 2) w1_0.length (rows BX w1_0)]),(0,.cells (Bo source))],9,[(0,w1_0.length)],1⟩) (fun (w1_0:(List Dg)) (jx:List Value)=>fr 97 [(3,.ptr 1 0),(4,.fn (.func 127) [] [.ptr 1 0]),(5,.ptr 7 0),(6,.zi (BW count6 1)),(33,.sl .lost source.kids.length (Cg source.kids)),(34,.zi ((source.kids.length:Nat):Int)),(35,.zi ((i0:Nat):Int))] [10,15,16,18,19,20,36,41,51,52,54,59,60,61,66,74,84] jx) (fun (w1_0:(List Dg))=>⟨[(8,.cells (Bo e0)),(7,.cells [.mp 4,.mp 5,.mp 6]),(6,(D1 y3.Af)),(5,(BP y3.lines)),(4,(BP y3.facts)),(1,.cells [.sl (.row 0 2) w1_0.length (rows BX w1_0)]),(0,.cells (Bo source))],9,[(0,w1_0.length)],1⟩) (js 17 j0 [(0,bF),(6,bT),(7,bF),(8,bF),(9,bF),(10,bF),(11,bT),(12,bF),(13,bT)]) (Dq [] 3 (sb bB 8342780) [.endb 1,.code (sb bB 16295)] (Ag 300 (o1++[pn hb2,pk,Ko (Pk y3.lines e0.name hb3),pb hb6,AG (AP (AE hy12) 1 0),PA (Ir hl13)])) (by kernel_rfl)) ?_ ?_ ?_ (fun v h=>by cases h;exact .outer (.Em k))
 rintro i5 w1_0 j5 hge hq
 exact B1 (Ag 300 [pb (IJ hge)]) (by kernel_rfl) (hq (js 17 j5 [(16,bF)]))
 rintro i5 e5 w1_0 j5 r he5 hi5 mi5 k
 show IS  y3 e0 i5 e5 w1_0=some r→_
 unfold IS
 refine Ah ?_
 rintro ⟨y22a,y22b⟩ hy22
 dsimp only
 rintro ⟨⟩
 exact Bt Hd.Aa [fq (Am.Bk source.kids),fq (Am.Bk l13)] [bp (Am.pl e0),none,Cv y3.Af,Bg y3.lines,Bg y3.facts,br AO 0 2 y22b,bp (Am.pl source)] (Ag 300 [pb (Fk hi5),BT (BQ .lost he5),AG (CO (Cm hy22) 4 5 6 1 0),pi mi5]) (by kernel_rfl) (k (js 17 j5 [(16,bT)]))
 rintro w1_0_23 jx_23
 rintro ⟨⟩
 exact Bt Hd.Aa [fq (Am.Bk source.kids)] [none,Cv y3.Af,Bg y3.lines,Bg y3.facts,br AO 0 2 w1_0_23,bp (Am.pl source)] (BJ 300 [pi mi0]) (by kernel_rfl) (k jx_23)
 rintro ⟨⟩
 exact Bt Hd.Aa [fq (Am.Bk source.kids)] [none,Cv y3.Af,Bg y3.lines,Bg y3.facts,br AO 0 2 w1_0,bp (Am.pl source)] (Ag 300 (o1++[pn hb2,pi mi0])) (by kernel_rfl) (k (js 17 j0 [(6,bT),(7,bT)]))
 rintro w1_0_24 jx_24
 refine sJ ?_
 rintro rfl
 exact Ap (v:=.sl (.row 0 2) w1_0_24.length (rows BX w1_0_24)) _ _ (BJ 300 []) (by kernel_rfl) .body (.wn (.s rfl .nil) (AO.Bk w1_0_24))
 subst hv
 refine sJ ?_
 rintro rfl
 exact Ap (v:=.sl .full 1 [.zi 1,.zi 0]) _ _ (Ag 300 [pn hb1,An (EI hy1)]) (by kernel_rfl) .body (.wn (.d (.r (.r .nil)) (AO.eq [(⟨1,0⟩:Dg)]).symm .nil) (AO.Bk [(⟨1,0⟩:Dg)]))
 refine sJ ?_
 rintro rfl
 exact Ap (v:=.sl .full 1 [.zi 1,.zi 0]) _ _ (Ag 300 [pn hb1]) (by kernel_rfl) .body (.wn (.d (.r (.r .nil)) (AO.eq [(⟨1,0⟩:Dg)]).symm .nil) (AO.Bk [(⟨1,0⟩:Dg)]))
end Mo
end Go.Proofs.YtnijkdknnmgoeaaGreat
