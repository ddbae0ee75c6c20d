/- Part of a proof: see the last text. -/
import Derived.Test.YtnijkdknnmgoeaaGreatCxl
set_option linter.unusedVariables false
set_option linter.unusedSimpArgs false
namespace Go.Proofs.YtnijkdknnmgoeaaGreat
open AI Go
namespace Mo
set_option maxRecDepth 100000
set_option maxHeartbeats 4000000
noncomputable def wM:Code:=AY Tryz.f113
theorem adM:Tryz.f113.body=some wM:=by kernel_rfl
noncomputable def Ff  (number:Int) (i0:Nat) (e0:Nd) :Option (Lp Unit Unit (Nd×Bool)):=cond (Bp e0.kind 4) (cond (Bp e0.n number) (some (.rt (e0,true))) (some (.nx ()))) (some (.nx ()))
noncomputable def EN  (source:Nd) (number:Int):Option (Nd×Bool):=(GW source.kids.length (AL (fun i y x=>Ff  number i y ) (fun x=>()) (source.kids.drop 0) 0 ())).bind (GQ (fun (_:Unit)=>some ((⟨0,ByteArray.empty,ByteArray.empty,0,0,0,0,(⟨0,[]⟩:Fn),[],0⟩:Nd),false)) (fun v=>some v))
theorem IC   {source:Nd} {number:Int} {yR:(Nd×Bool)} (h:EN  source number=some yR):Pure P G 113 [.agg (Bo source),.zi number] (.Bd [.agg (Bo yR.1),.zb yR.2]):=by
 unfold EN at h
 refine BF Hd.mixed Hd.Aa (Ay Tryz.func113 adM ?_) (AW (Am.Dp source) (AW rfl rfl)) (AW (Am.Dp yR.1) (AW rfl rfl))
 revert h
 refine DF (fun Q v=>EQ P Tryz.f113 0 Q (.Bd [.agg (Bo v.1),.zb v.2])) (fun i0 (_:Unit) (j0:List Value)=>fr 31 [(1,.zi number),(2,.ptr 0 0),(4,.ptr 1 0),(6,.zi ((i0:Nat):Int))] [5,12,22,23,27,28] j0) (fun (_:Unit)=>⟨[(1,.cells [.zi 0,.zs ByteArray.empty,.zs ByteArray.empty,.zi 0,.zi 0,.zi 0,.zi 0,.zi 0,.sl .full 0 [],.sl .full 0 [],.zi 0]),(0,.cells (Bo source))],2,[],0⟩) (fun (_:Unit) (jx:List Value)=>fr 31 [(4,.ptr 1 0)] [5,12,22,23,27,28] jx) (fun (_:Unit)=>⟨[(1,.cells [.zi 0,.zs ByteArray.empty,.zs ByteArray.empty,.zi 0,.zi 0,.zi 0,.zi 0,.zi 0,.sl .full 0 [],.sl .full 0 [],.zi 0]),(0,.cells (Bo source))],2,[],0⟩) [bF] (Dq [] 0 (sb wM 52) [.code (sb wM 7)] (Ag 300 []) (by kernel_rfl)) ?_ ?_ ?_ (fun v h=>by cases h;exact .outer .body)
 rintro i0 ⟨⟩ j0 hge hq
 exact B1 (Ag 300 [pb (IJ hge)]) (by kernel_rfl) (hq (js 6 j0 [(1,bF)]))
 rintro i0 e0 ⟨⟩ j0 r he0 hi0 mi0 k
 show Ff  number i0 e0 =some r→_
 unfold Ff
 refine Ad (fun hb1=>?_) fun hb1=>?_
 refine Ad (fun hb2=>?_) fun hb2=>?_
 rintro ⟨⟩
 exact Ap _ _ (Ag 300 [pb (Fk hi0),BT (BQ .lost he0),pb hb1,pb hb2]) (by kernel_rfl) (.Em k) (.plain (AW (Am.Dp e0) (AW rfl rfl)))
 rintro ⟨⟩
 exact Bt Hd.Aa [] [bw (.cells [.zi 0,.zs ByteArray.empty,.zs ByteArray.empty,.zi 0,.zi 0,.zi 0,.zi 0,.zi 0,.sl .full 0 [],.sl .full 0 [],.zi 0]) (.cells [.zi 0,.zs ByteArray.empty,.zs ByteArray.empty,.zi 0,.zi 0,.zi 0,.zi 0,.zi 0,.sl .full 0 [],.sl .full 0 [],.zi 0]) (.cells (.plain (AW rfl (AW rfl (AW rfl (AW rfl (AW rfl (AW rfl (AW rfl (AW rfl (AW (Gx rfl) (AW (Gx rfl) (AW rfl rfl))))))))))))),bp (Am.pl source)] (Ag 300 [pb (Fk hi0),BT (BQ .lost he0),pb hb1,pb hb2,pi mi0]) (by kernel_rfl) (k [(jv j0 0),bT,bT,bT,bF,bF])
 rintro ⟨⟩
 exact Bt Hd.Aa [] [bw (.cells [.zi 0,.zs ByteArray.empty,.zs ByteArray.empty,.zi 0,.zi 0,.zi 0,.zi 0,.zi 0,.sl .full 0 [],.sl .full 0 [],.zi 0]) (.cells [.zi 0,.zs ByteArray.empty,.zs ByteArray.empty,.zi 0,.zi 0,.zi 0,.zi 0,.zi 0,.sl .full 0 [],.sl .full 0 [],.zi 0]) (.cells (.plain (AW rfl (AW rfl (AW rfl (AW rfl (AW rfl (AW rfl (AW rfl (AW rfl (AW (Gx rfl) (AW (Gx rfl) (AW rfl rfl))))))))))))),bp (Am.pl source)] (Ag 300 [pb (Fk hi0),BT (BQ .lost he0),pb hb1,pi mi0]) (by kernel_rfl) (k [(jv j0 0),bT,bF,bF,undef,bF])
 rintro ⟨⟩ jx_1
 rintro ⟨⟩
 exact Ap (v:=.Bd [.agg [.zi 0,.zs ByteArray.empty,.zs ByteArray.empty,.zi 0,.zi 0,.zi 0,.zi 0,.zi 0,.sl .full 0 [],.sl .full 0 [],.zi 0],.zb false]) _ _ (BJ 300 []) (by kernel_rfl) .body (.wn (.u (.g (.r (.r (.r (.r (.r (.r (.r (.r (.z (.z (.r .nil))))))))))) (.r .nil)) .nil) (AW (Am.Dp (⟨0,ByteArray.empty,ByteArray.empty,0,0,0,0,(⟨0,[]⟩:Fn),[],0⟩:Nd)) (AW rfl rfl)))
noncomputable def B69:Code:=AY Tryz.f69
theorem b69:Tryz.f69.body=some B69:=by kernel_rfl
noncomputable def Ep  (c:Cq) (n:Nd) (many:Int):Option (Unit×(List Dg)):=(Fa c.src 3 n.name).bind fun (y1a,y1b)=>(EN c.src n.n).bind fun (y2a,y2b)=>cond (Kt 60 many) ((Bh c 2 n.att).bind fun (y3a,y3b)=>some ((),y3b)) (cond y1b (cond (BC y2a.name.data.toList n.name.data.toList) (some ((),c.diags)) ((Bh c 101 n.att).bind fun (y4a,y4b)=>some ((),y4b))) ((Bh c 91 n.att).bind fun (y5a,y5b)=>some ((),y5b)))
theorem NT {c:Cq} {n:Nd} {many:Int} {qc_diagsR:(List Dg)} (hS:Sound P G (.call 69 [.ptr 0 0,.agg (Bo n),.zi many] ⟨[(0,.cells (I9 0 c))],1,[(0,c.diags.length)],1⟩ (.ret (.Bd [])) ⟨[(0,.cells (Iy c.src [.sl (.row 0 2) qc_diagsR.length (rows BX qc_diagsR)]))],1,[(0,qc_diagsR.length)],1⟩)) (u0 v0:Nat) (hnb:([u0]:List Nat).Nodup:=by decide) (hnt:([v0]:List Nat).Nodup:=by decide):Cd.ok P G (.callU 69 [.ptr u0 0,.agg (Bo n),.zi many] (.ret (.Bd [])) [(u0,.cells (I9 v0 c))] [(v0,c.diags.length)] [(u0,.cells (Iy c.src [.sl (.row v0 2) qc_diagsR.length (rows BX qc_diagsR)]))] [(v0,qc_diagsR.length)]) :=
 CS (M:=[.cells (I9 0 c)]) (M2:=[.cells (Iy c.src [.sl (.row 0 2) qc_diagsR.length (rows BX qc_diagsR)])]) (T:=[c.diags.length]) (T2:=[qc_diagsR.length]) (k:=1) (j:=1) Hd.Aa _ _ _ _ hS rfl rfl rfl rfl rfl hnb hnt rfl rfl (.cons (.cells (N1 c (by decide))) .nil) (.cons (.cells (.cons (.pl rfl) (.cons (.pl rfl) (.cons (.pl rfl) (.cons (.pl rfl) (.cons (.pl rfl) (.cons (.pl rfl) (.cons (.pl rfl) (.cons (.pl rfl) (.cons (.pl (Ch.Bk c.src.tab.ps)) (.cons (.pl (Am.Bk c.src.kids)) (.cons (.pl rfl) (.cons (.row (by decide) (AO.AW qc_diagsR)) .nil))))))))))))) .nil) (.cons (.ptr (by decide)) (.cons (.pl (Am.Dp n)) (.cons (.pl rfl) .nil))) (.pl rfl) (fun e he=>by simp only [List.mem_singleton] at he;subst he;exact (.arg (.here .ptr)))
theorem L8   {c:Cq} {n:Nd} {many:Int} {yR:Unit} {qc_diagsR:(List Dg)} (h:Ep  c n many=some (yR,qc_diagsR)):Sound P G (.call 69 [.ptr 0 0,.agg (Bo n),.zi many] ⟨[(0,.cells (I9 0 c))],1,[(0,c.diags.length)],1⟩ (.ret (.Bd [])) ⟨[(0,.cells (Iy c.src [.sl (.row 0 2) qc_diagsR.length (rows BX qc_diagsR)]))],1,[(0,qc_diagsR.length)],1⟩):=by
 unfold Ep at h
 refine CT Hd.mixed (Ay Tryz.func69 b69 ?_)
 revert h
 refine Ah ?_
 rintro ⟨y1a,y1b⟩ hy1
 dsimp only
 refine Ah ?_
 rintro ⟨y2a,y2b⟩ hy2
 dsimp only
 let o1:LP:=[An (HP hy1),An (IC hy2)]
 refine Ad (fun hb1=>?_) fun hb1=>?_
 refine Ah ?_
 rintro ⟨y3a,y3b⟩ hy3
 dsimp only
 refine Gv ?_
 rintro rfl rfl
 exact FL Hd.Aa _ _ [⟨.Bd [],.Bd [],(.plain rfl)⟩] [bu (Iy c.src [.sl (.row 0 2) y3b.length (rows BX y3b)]) (Av rfl (Av rfl (Av rfl (Av rfl (Av rfl (Av rfl (Av rfl (Av rfl (Av (Ae _ _ (Ch.Bk c.src.tab.ps)) (Av (Ae _ _ (Am.Bk c.src.kids)) (Av rfl (Av (CC rfl (Aj _ _ (AO.AW y3b))) rfl))))))))))))] (Ag 300 (o1++[pb hb1,AG (BB (Br hy3) 0 0)])) (by kernel_rfl)
 refine Ad (fun hv=>?_) fun hv=>?_
 subst hv
 refine Ad (fun hb2=>?_) fun hb2=>?_
 refine Gv ?_
 rintro rfl rfl
 exact FL Hd.Aa _ _ [⟨.Bd [],.Bd [],(.plain rfl)⟩] [bu (I9 0 c) (H4 rfl)] (Ag 300 (o1++[pb hb1,pn hb2])) (by kernel_rfl)
 refine Ah ?_
 rintro ⟨y4a,y4b⟩ hy4
 dsimp only
 refine Gv ?_
 rintro rfl rfl
 exact FL Hd.Aa _ _ [⟨.Bd [],.Bd [],(.plain rfl)⟩] [bu (Iy c.src [.sl (.row 0 2) y4b.length (rows BX y4b)]) (Av rfl (Av rfl (Av rfl (Av rfl (Av rfl (Av rfl (Av rfl (Av rfl (Av (Ae _ _ (Ch.Bk c.src.tab.ps)) (Av (Ae _ _ (Am.Bk c.src.kids)) (Av rfl (Av (CC rfl (Aj _ _ (AO.AW y4b))) rfl))))))))))))] (Ag 300 (o1++[pb hb1,pn hb2,AG (BB (Br hy4) 0 0)])) (by kernel_rfl)
 subst hv
 refine Ah ?_
 rintro ⟨y5a,y5b⟩ hy5
 dsimp only
 refine Gv ?_
 rintro rfl rfl
 exact FL Hd.Aa _ _ [⟨.Bd [],.Bd [],(.plain rfl)⟩] [bu (Iy c.src [.sl (.row 0 2) y5b.length (rows BX y5b)]) (Av rfl (Av rfl (Av rfl (Av rfl (Av rfl (Av rfl (Av rfl (Av rfl (Av (Ae _ _ (Ch.Bk c.src.tab.ps)) (Av (Ae _ _ (Am.Bk c.src.kids)) (Av rfl (Av (CC rfl (Aj _ _ (AO.AW y5b))) rfl))))))))))))] (Ag 300 (o1++[pb hb1,AG (BB (Br hy5) 0 0)])) (by kernel_rfl)
noncomputable def aep:Code:=AY Tryz.f191
theorem ae6:Tryz.f191.body=some aep:=by kernel_rfl
noncomputable def BS  (is:Bool):Option ByteArray:=cond is (some Ak) (some ByteArray.empty)
theorem Ca   {is:Bool} {yR:ByteArray} (h:BS  is=some yR):Pure P G 191 [.zb is] (.zs yR):=by
 unfold BS at h
 refine BF Hd.mixed Hd.Aa (Ay Tryz.func191 ae6 ?_) (AW rfl rfl) rfl
 revert h
 refine Ad (fun hv=>?_) fun hv=>?_
 subst hv
 rintro ⟨⟩
 exact rT []
 subst hv
 rintro ⟨⟩
 exact rT []
noncomputable def adt:Code:=AY Tryz.f193
theorem aez:Tryz.f193.body=some adt:=by kernel_rfl
noncomputable def DJ  (unit:ByteArray):Option ByteArray:=cond (BC unit.data.toList Ak.data.toList) (some ByteArray.empty) (some unit)
theorem Fc   {unit:ByteArray} {yR:ByteArray} (h:DJ  unit=some yR):Pure P G 193 [.zs unit] (.zs yR):=by
 unfold DJ at h
 refine BF Hd.mixed Hd.Aa (Ay Tryz.func193 aez ?_) (AW rfl rfl) rfl
 revert h
 refine Ad (fun hb1=>?_) fun hb1=>?_
 rintro ⟨⟩
 exact rT [pb hb1]
 rintro ⟨⟩
 exact rT [pb hb1]
noncomputable def uE:Code:=AY Tryz.f194
theorem adK:Tryz.f194.body=some uE:=by kernel_rfl
noncomputable def Hj  (l:(List ByteArray)) (i0:Nat) (e0:ByteArray) :Option (Lp Unit Unit ByteArray):=(l[0]?).bind fun x1=>cond (BC e0.data.toList x1.data.toList) (some (.nx ())) (some (.rt ByteArray.empty))
noncomputable def E5  (l:(List ByteArray)):Option ByteArray:=(GW l.length (AL (fun i y x=>Hj  l i y ) (fun x=>()) (l.drop 1) 1 ())).bind (GQ (fun (_:Unit)=>(l[0]?).bind fun x3=>some x3) (fun v=>some v))
theorem JB   {l:(List ByteArray)} {yR:ByteArray} (h:E5  l=some yR):Pure P G 194 [.sl .lost l.length (rows K8 l)] (.zs yR):=by
 unfold E5 at h
 refine BF Hd.mixed Hd.Aa (Ay Tryz.func194 adK ?_) (AW (Bw.Bk l) rfl) rfl
 revert h
 refine DF (fun Q v=>EQ P Tryz.f194 0 Q (.zs v)) (fun i0 (_:Unit) (j0:List Value)=>fr 21 [(0,.sl .lost l.length (rows K8 l)),(3,.zi ((i0:Nat):Int))] [7,17] j0) (fun (_:Unit)=>⟨[],0,[],0⟩) (fun (_:Unit) (jx:List Value)=>fr 21 [(0,.sl .lost l.length (rows K8 l))] [7,17] jx) (fun (_:Unit)=>⟨[],0,[],0⟩) [] (Dq [] 0 (sb uE 52) [.code (sb uE 7)] (Ag 300 []) (by kernel_rfl)) ?_ ?_ ?_ (fun v h=>by cases h;exact .outer .body)
 rintro i0 ⟨⟩ j0 hge hq
 exact B1 (Ag 300 [pb (IJ hge)]) (by kernel_rfl) (hq [bF,(jv j0 1)])
 rintro i0 e0 ⟨⟩ j0 r he0 hi0 mi0 k
 show Hj  l i0 e0 =some r→_
 unfold Hj
 refine Ah fun x1 hx1=>?_
 refine Ad (fun hb1=>?_) fun hb1=>?_
 rintro ⟨⟩
 exact D9 (Ag 300 [pb (Fk hi0),BT (Mr .lost he0),BT (Mr .lost hx1),pn hb1,pi mi0]) (by kernel_rfl) (k [bT,bF])
 rintro ⟨⟩
 exact Ap _ _ (Ag 300 [pb (Fk hi0),BT (Mr .lost he0),BT (Mr .lost hx1),pn hb1]) (by kernel_rfl) (.Em k) .sc
 rintro ⟨⟩ jx_2
 refine Ah fun x3 hx3=>?_
 rintro ⟨⟩
 exact Ap _ _ (BJ 300 [BT (Mr .lost hx3)]) (by kernel_rfl) .body .sc
noncomputable def ady:Code:=AY Tryz.f192
theorem adR:Tryz.f192.body=some ady:=by kernel_rfl
noncomputable def HB  (op:ByteArray) (a:ByteArray) (b:ByteArray):Option ByteArray:=cond (BC op.data.toList Um.data.toList) (cond (BC a.data.toList Ak.data.toList) ((some (BC b.data.toList Ak.data.toList)).bind fun q1=>(BS q1).bind fun y2=>some y2) ((BS false).bind fun y3=>some y3)) ((some (BC op.data.toList IP.data.toList)).bind fun q4=>cond q4 (cond (BC a.data.toList Ak.data.toList) ((some (BC b.data.toList Ak.data.toList)).bind fun q5=>(BS q5).bind fun y6=>some y6) ((BS false).bind fun y7=>some y7)) (cond (BC op.data.toList I2.data.toList) ((some (BC a.data.toList b.data.toList)).bind fun q8=>(BS q8).bind fun y9=>some y9) ((some (BC op.data.toList Iw.data.toList)).bind fun q10=>cond q10 ((some (BC a.data.toList b.data.toList)).bind fun q11=>(BS q11).bind fun y12=>some y12) (cond (BC op.data.toList PK.data.toList) (cond (BC a.data.toList b.data.toList) ((some (!BC a.data.toList Ak.data.toList)).bind fun q13=>(BS q13).bind fun y14=>some y14) ((BS false).bind fun y15=>some y15)) ((some (BC op.data.toList Ix.data.toList)).bind fun q16=>cond q16 (cond (BC a.data.toList b.data.toList) ((some (!BC a.data.toList Ak.data.toList)).bind fun q17=>(BS q17).bind fun y18=>some y18) ((BS false).bind fun y19=>some y19)) (cond (BC op.data.toList K5.data.toList) ((E5 [a,b]).bind fun y20=>(DJ y20).bind fun y21=>some y21) ((some (BC op.data.toList Pe.data.toList)).bind fun q22=>cond q22 ((E5 [a,b]).bind fun y23=>(DJ y23).bind fun y24=>some y24) (cond (BC op.data.toList PY.data.toList) (cond (BC a.data.toList AF.data.toList) ((DJ b).bind fun y25=>some y25) (cond (BC b.data.toList AF.data.toList) ((DJ a).bind fun y26=>some y26) (some ByteArray.empty))) (cond (BC op.data.toList Kf.data.toList) ((DJ a).bind fun y27=>some y27) (cond (BC a.data.toList BM.data.toList) ((Ed b).bind fun y28=>cond y28 (some b) (some ByteArray.empty)) (some ByteArray.empty)))))))))))
theorem Px   {op:ByteArray} {a:ByteArray} {b:ByteArray} {yR:ByteArray} (h:HB  op a b=some yR):Pure P G 192 [.zs op,.zs a,.zs b] (.zs yR):=by
 unfold HB at h
 refine BF Hd.mixed Hd.Aa (Ay Tryz.func192 adR ?_) (AW rfl (AW rfl (AW rfl rfl))) rfl
 revert h
 refine Ad (fun hb1=>?_) fun hb1=>?_
 refine Ad (fun hb2=>?_) fun hb2=>?_
 refine Ah fun q1 hq1=>?_
 refine Ah fun y2 hy2=>?_
 rintro ⟨⟩
 exact rT [pb hb1,pb hb2,CD (DW hq1 (.tmp 14) (.const (.string Ak))),An (Ca hy2)]
 refine Ah fun y3 hy3=>?_
 rintro ⟨⟩
 exact rT [pb hb1,pb hb2,An (Ca hy3)]
 refine Ah fun q4 hq4=>?_
 let o1:LP:=[pb hb1,CD (DW hq4 (.tmp 7) (.const (.string IP)))]
 refine Ad (fun hv=>?_) fun hv=>?_
 subst hv
 refine Ad (fun hb3=>?_) fun hb3=>?_
 refine Ah fun q5 hq5=>?_
 refine Ah fun y6 hy6=>?_
 rintro ⟨⟩
 exact rT (o1++[pb hb3,CD (DW hq5 (.tmp 14) (.const (.string Ak))),An (Ca hy6)])
 refine Ah fun y7 hy7=>?_
 rintro ⟨⟩
 exact rT (o1++[pb hb3,An (Ca hy7)])
 subst hv
 refine Ad (fun hb4=>?_) fun hb4=>?_
 refine Ah fun q8 hq8=>?_
 refine Ah fun y9 hy9=>?_
 rintro ⟨⟩
 exact rT (o1++[pb hb4,CD (DW hq8 (.tmp 21) (.tmp 22)),An (Ca hy9)])
 refine Ah fun q10 hq10=>?_
 let o2:LP:=o1++[pb hb4,CD (DW hq10 (.tmp 7) (.const (.string Iw)))]
 refine Ad (fun hv=>?_) fun hv=>?_
 subst hv
 refine Ah fun q11 hq11=>?_
 refine Ah fun y12 hy12=>?_
 rintro ⟨⟩
 exact rT (o2++[CD (DW hq11 (.tmp 21) (.tmp 22)),An (Ca hy12)])
 subst hv
 refine Ad (fun hb5=>?_) fun hb5=>?_
 refine Ad (fun hb6=>?_) fun hb6=>?_
 refine Ah fun q13 hq13=>?_
 refine Ah fun y14 hy14=>?_
 rintro ⟨⟩
 exact rT (o2++[pb hb5,pb hb6,CD (Si hq13 (.tmp 32) (.const (.string Ak))),An (Ca hy14)])
 refine Ah fun y15 hy15=>?_
 rintro ⟨⟩
 exact rT (o2++[pb hb5,pb hb6,An (Ca hy15)])
 refine Ah fun q16 hq16=>?_
 let o3:LP:=o2++[pb hb5,CD (DW hq16 (.tmp 7) (.const (.string Ix)))]
 refine Ad (fun hv=>?_) fun hv=>?_
 subst hv
 refine Ad (fun hb7=>?_) fun hb7=>?_
 refine Ah fun q17 hq17=>?_
 refine Ah fun y18 hy18=>?_
 rintro ⟨⟩
 exact rT (o3++[pb hb7,CD (Si hq17 (.tmp 32) (.const (.string Ak))),An (Ca hy18)])
 refine Ah fun y19 hy19=>?_
 rintro ⟨⟩
 exact rT (o3++[pb hb7,An (Ca hy19)])
 subst hv
 refine Ad (fun hb8=>?_) fun hb8=>?_
 refine Ah fun y20 hy20=>?_
 refine Ah fun y21 hy21=>?_
 rintro ⟨⟩
 exact rT (o3++[pb hb8,Fl (args:=[.sl .full 2 [.zs a,.zs b]]) (.d (.r (.r .nil)) (Bw.eq [a,b]).symm .nil) (JB hy20),An (Fc hy21)])
 refine Ah fun q22 hq22=>?_
 let o4:LP:=o3++[pb hb8,CD (DW hq22 (.tmp 7) (.const (.string Pe)))]
 refine Ad (fun hv=>?_) fun hv=>?_
 subst hv
 refine Ah fun y23 hy23=>?_
 refine Ah fun y24 hy24=>?_
 rintro ⟨⟩
 exact rT (o4++[Fl (args:=[.sl .full 2 [.zs a,.zs b]]) (.d (.r (.r .nil)) (Bw.eq [a,b]).symm .nil) (JB hy23),An (Fc hy24)])
 subst hv
 refine Ad (fun hb9=>?_) fun hb9=>?_
 refine Ad (fun hb10=>?_) fun hb10=>?_
 refine Ah fun y25 hy25=>?_
 rintro ⟨⟩
 exact rT (o4++[pb hb9,pb hb10,An (Fc hy25)])
 refine Ad (fun hb11=>?_) fun hb11=>?_
 refine Ah fun y26 hy26=>?_
 rintro ⟨⟩
 exact rT (o4++[pb hb9,pb hb10,pb hb11,An (Fc hy26)])
 rintro ⟨⟩
 exact rT (o4++[pb hb9,pb hb10,pb hb11])
 refine Ad (fun hb12=>?_) fun hb12=>?_
 refine Ah fun y27 hy27=>?_
 rintro ⟨⟩
 exact rT (o4++[pb hb9,pb hb12,An (Fc hy27)])
 refine Ad (fun hb13=>?_) fun hb13=>?_
 refine Ah fun y28 hy28=>?_
 refine Ad (fun hv=>?_) fun hv=>?_
 subst hv
 rintro ⟨⟩
 exact rT (o4++[pb hb9,pb hb12,pb hb13,An (EU hy28)])
 subst hv
 rintro ⟨⟩
 exact rT (o4++[pb hb9,pb hb12,pb hb13,An (EU hy28)])
 rintro ⟨⟩
 exact rT (o4++[pb hb9,pb hb12,pb hb13])
noncomputable def ad1:Code:=AY Tryz.f173
theorem adO:Tryz.f173.body=some ad1:=by kernel_rfl
noncomputable def En  (c:Cq) (e:Nd) (l:(List ByteArray)):Option (ByteArray×Int):=cond (Bp e.kind 11) (some (e.unit,0)) (cond (Bp e.kind 12) ((Fa c.src 2 e.name).bind fun (y1a,y1b)=>some (y1a.unit,91)) (cond (Bp e.kind 13) ((EN c.src e.n).bind fun (y2a,y2b)=>(Fa c.src 3 y2a.name).bind fun (y3a,y3b)=>some (y3a.unit,91)) (cond (Bp e.kind 14) (some (AF,0)) (cond (Bp e.kind 15) ((l[0]?).bind fun x4=>cond (BC x4.data.toList Ak.data.toList) ((BS true).bind fun y5=>some (y5,11)) ((BS false).bind fun y6=>some (y6,11))) (cond (Bp e.kind 16) ((l[0]?).bind fun x7=>(l[1]?).bind fun x8=>(HB e.name x7 x8).bind fun y9=>some (y9,11)) (cond (Bp e.kind 17) ((E5 l).bind fun y10=>(DJ y10).bind fun y11=>some (y11,11)) ((l[0]?).bind fun x12=>(Ed x12).bind fun y13=>cond y13 (some (x12,0)) (some (ByteArray.empty,11)))))))))
theorem NB {c:Cq} {e:Nd} {l:(List ByteArray)} {yR:(ByteArray×Int)} (hS:Sound P G (.call 173 [.ptr 0 0,.agg (Bo e),.sl .lost l.length (rows K8 l)] ⟨[(0,.cells (I9 0 c))],1,[(0,c.diags.length)],1⟩ (.ret (.Bd [.zs yR.1,.zi yR.2])) ⟨[(0,.cells (I9 0 c))],1,[(0,c.diags.length)],1⟩)) (u0 v0:Nat) (hnb:([u0]:List Nat).Nodup:=by decide) (hnt:([v0]:List Nat).Nodup:=by decide):Cd.ok P G (.callU 173 [.ptr u0 0,.agg (Bo e),.sl .lost l.length (rows K8 l)] (.ret (.Bd [.zs yR.1,.zi yR.2])) [(u0,.cells (I9 v0 c))] [(v0,c.diags.length)] [(u0,.cells (I9 v0 c))] [(v0,c.diags.length)]) :=
 CS (M:=[.cells (I9 0 c)]) (M2:=[.cells (I9 0 c)]) (T:=[c.diags.length]) (T2:=[c.diags.length]) (k:=1) (j:=1) Hd.Aa _ _ _ _ hS rfl rfl rfl rfl rfl hnb hnt rfl rfl (.cons (.cells (N1 c (by decide))) .nil) (.cons (.cells (N1 c (by decide))) .nil) (.cons (.ptr (by decide)) (.cons (.pl (Am.Dp e)) (.cons (.pl (Bw.Bk l)) .nil))) (.pl (AW rfl (AW rfl rfl))) (fun e he=>by simp only [List.mem_singleton] at he;subst he;exact (.arg (.here .ptr)))
theorem Mt   {c:Cq} {e:Nd} {l:(List ByteArray)} {yR:(ByteArray×Int)} (h:En  c e l=some yR):Sound P G (.call 173 [.ptr 0 0,.agg (Bo e),.sl .lost l.length (rows K8 l)] ⟨[(0,.cells (I9 0 c))],1,[(0,c.diags.length)],1⟩ (.ret (.Bd [.zs yR.1,.zi yR.2])) ⟨[(0,.cells (I9 0 c))],1,[(0,c.diags.length)],1⟩):=by
 unfold En at h
 refine CT Hd.mixed (Ay Tryz.func173 adO ?_)
 revert h
 refine Ad (fun hb1=>?_) fun hb1=>?_
 rintro ⟨⟩
 exact Ao Hd.Aa _ _ [⟨.Bd [.zs e.unit,.zi 0],.Bd [.zs e.unit,.zi 0],(.plain (AW rfl (AW rfl rfl)))⟩] [bu (I9 0 c) (H4 rfl)] (Ag 300 [pb hb1]) (by kernel_rfl) .body
 refine Ad (fun hb2=>?_) fun hb2=>?_
 refine Ah ?_
 rintro ⟨y1a,y1b⟩ hy1
 dsimp only
 rintro ⟨⟩
 exact Ao Hd.Aa _ _ [⟨.Bd [.zs y1a.unit,.zi 91],.Bd [.zs y1a.unit,.zi 91],(.plain (AW rfl (AW rfl rfl)))⟩] [bu (I9 0 c) (H4 rfl)] (Ag 300 [pb hb1,pb hb2,An (HP hy1)]) (by kernel_rfl) .body
 let o1:LP:=[pb hb1,pb hb2]
 refine Ad (fun hb3=>?_) fun hb3=>?_
 refine Ah ?_
 rintro ⟨y2a,y2b⟩ hy2
 dsimp only
 refine Ah ?_
 rintro ⟨y3a,y3b⟩ hy3
 dsimp only
 rintro ⟨⟩
 exact Ao Hd.Aa _ _ [⟨.Bd [.zs y3a.unit,.zi 91],.Bd [.zs y3a.unit,.zi 91],(.plain (AW rfl (AW rfl rfl)))⟩] [bu (I9 0 c) (H4 rfl)] (Ag 300 (o1++[pb hb3,An (IC hy2),An (HP hy3)])) (by kernel_rfl) .body
 refine Ad (fun hb4=>?_) fun hb4=>?_
 rintro ⟨⟩
 exact Ao Hd.Aa _ _ [⟨.Bd [.zs AF,.zi 0],.Bd [.zs AF,.zi 0],(.plain (AW rfl (AW rfl rfl)))⟩] [bu (I9 0 c) (H4 rfl)] (Ag 300 (o1++[pb hb3,pb hb4])) (by kernel_rfl) .body
 let o2:LP:=o1++[pb hb3,pb hb4]
 refine Ad (fun hb5=>?_) fun hb5=>?_
 refine Ah fun x4 hx4=>?_
 refine Ad (fun hb6=>?_) fun hb6=>?_
 refine Ah fun y5 hy5=>?_
 rintro ⟨⟩
 exact Ao Hd.Aa _ _ [⟨.Bd [.zs y5,.zi 11],.Bd [.zs y5,.zi 11],(.plain (AW rfl (AW rfl rfl)))⟩] [bu (I9 0 c) (H4 rfl)] (Ag 300 (o2++[pb hb5,BT (Mr .lost hx4),pb hb6,An (Ca hy5)])) (by kernel_rfl) .body
 refine Ah fun y6 hy6=>?_
 rintro ⟨⟩
 exact Ao Hd.Aa _ _ [⟨.Bd [.zs y6,.zi 11],.Bd [.zs y6,.zi 11],(.plain (AW rfl (AW rfl rfl)))⟩] [bu (I9 0 c) (H4 rfl)] (Ag 300 (o2++[pb hb5,BT (Mr .lost hx4),pb hb6,An (Ca hy6)])) (by kernel_rfl) .body
 refine Ad (fun hb7=>?_) fun hb7=>?_
 refine Ah fun x7 hx7=>?_
 refine Ah fun x8 hx8=>?_
 refine Ah fun y9 hy9=>?_
 rintro ⟨⟩
 exact Ao Hd.Aa _ _ [⟨.Bd [.zs y9,.zi 11],.Bd [.zs y9,.zi 11],(.plain (AW rfl (AW rfl rfl)))⟩] [bu (I9 0 c) (H4 rfl)] (Ag 300 (o2++[pb hb5,pb hb7,BT (Mr .lost hx7),BT (Mr .lost hx8),An (Px hy9)])) (by kernel_rfl) .body
 refine Ad (fun hb8=>?_) fun hb8=>?_
 refine Ah fun y10 hy10=>?_
 refine Ah fun y11 hy11=>?_
 rintro ⟨⟩
 exact Ao Hd.Aa _ _ [⟨.Bd [.zs y11,.zi 11],.Bd [.zs y11,.zi 11],(.plain (AW rfl (AW rfl rfl)))⟩] [bu (I9 0 c) (H4 rfl)] (Ag 300 (o2++[pb hb5,pb hb7,pb hb8,An (JB hy10),An (Fc hy11)])) (by kernel_rfl) .body
 refine Ah fun x12 hx12=>?_
 refine Ah fun y13 hy13=>?_
 let o3:LP:=o2++[pb hb5,pb hb7,pb hb8,BT (Mr .lost hx12),An (EU hy13)]
 refine Ad (fun hv=>?_) fun hv=>?_
 subst hv
 rintro ⟨⟩
 exact Ao Hd.Aa _ _ [⟨.Bd [.zs x12,.zi 0],.Bd [.zs x12,.zi 0],(.plain (AW rfl (AW rfl rfl)))⟩] [bu (I9 0 c) (H4 rfl)] (Ag 300 (o3++[BT (Mr .lost hx12)])) (by kernel_rfl) .body
 subst hv
 rintro ⟨⟩
 exact Ao Hd.Aa _ _ [⟨.Bd [.zs ByteArray.empty,.zi 11],.Bd [.zs ByteArray.empty,.zi 11],(.plain (AW rfl (AW rfl rfl)))⟩] [bu (I9 0 c) (H4 rfl)] (Ag 300 o3) (by kernel_rfl) .body
theorem J2 {c:Cq} {e:Nd} {yR:ByteArray} {qc_diagsR:(List Dg)} (hS:Sound P G (.call 150 [.ptr 0 0,.agg (Bo e)] ⟨[(0,.cells (I9 0 c))],1,[(0,c.diags.length)],1⟩ (.ret (.zs yR)) ⟨[(0,.cells (Iy c.src [.sl (.row 0 2) qc_diagsR.length (rows BX qc_diagsR)]))],1,[(0,qc_diagsR.length)],1⟩)) (u0 v0:Nat) (hnb:([u0]:List Nat).Nodup:=by decide) (hnt:([v0]:List Nat).Nodup:=by decide):Cd.ok P G (.callU 150 [.ptr u0 0,.agg (Bo e)] (.ret (.zs yR)) [(u0,.cells (I9 v0 c))] [(v0,c.diags.length)] [(u0,.cells (Iy c.src [.sl (.row v0 2) qc_diagsR.length (rows BX qc_diagsR)]))] [(v0,qc_diagsR.length)]) :=
 CS (M:=[.cells (I9 0 c)]) (M2:=[.cells (Iy c.src [.sl (.row 0 2) qc_diagsR.length (rows BX qc_diagsR)])]) (T:=[c.diags.length]) (T2:=[qc_diagsR.length]) (k:=1) (j:=1) Hd.Aa _ _ _ _ hS rfl rfl rfl rfl rfl hnb hnt rfl rfl (.cons (.cells (N1 c (by decide))) .nil) (.cons (.cells (.cons (.pl rfl) (.cons (.pl rfl) (.cons (.pl rfl) (.cons (.pl rfl) (.cons (.pl rfl) (.cons (.pl rfl) (.cons (.pl rfl) (.cons (.pl rfl) (.cons (.pl (Ch.Bk c.src.tab.ps)) (.cons (.pl (Am.Bk c.src.kids)) (.cons (.pl rfl) (.cons (.row (by decide) (AO.AW qc_diagsR)) .nil))))))))))))) .nil) (.cons (.ptr (by decide)) (.cons (.pl (Am.Dp e)) .nil)) (.pl rfl) (fun e he=>by simp only [List.mem_singleton] at he;subst he;exact (.arg (.here .ptr)))
noncomputable def zA:Code:=AY Tryz.f150
theorem aeV:Tryz.f150.body=some zA:=by kernel_rfl
noncomputable def Dd (CY:Cq→Nd→Option (ByteArray×(List Dg))) (c:Cq) (i0:Nat) (e0:Nd) (l5:(List ByteArray)) (whole6:Bool) (w0_11:(List Dg)):Option (Lp ((List ByteArray)×Bool×(List Dg)) ((List ByteArray)×Bool×(List Dg)) (ByteArray×(List Dg))):=(CY (⟨c.src,w0_11⟩:Cq) e0).bind fun (y2a,y2b)=>Lt (l5.length+1) (cond whole6 (cond (BC y2a.data.toList ByteArray.empty.data.toList) (some (.nx ((l5++[y2a]),false,y2b))) (some (.nx ((l5++[y2a]),true,y2b)))) (some (.nx ((l5++[y2a]),false,y2b))))
noncomputable def FX (CY:Cq→Nd→Option (ByteArray×(List Dg))) (c:Cq) (e:Nd):Option (ByteArray×(List Dg)):=(GW e.kids.length (AL (fun i y x=>Dd CY c i y x.1 x.2.1 x.2.2) (fun x=>(x.1,x.2.1,x.2.2)) (e.kids.drop 0) 0 ([],true,c.diags))).bind (GQ (fun ((l5_4,whole6_4,w0_11_4):((List ByteArray)×Bool×(List Dg)))=>cond whole6_4 ((En (⟨c.src,w0_11_4⟩:Cq) e l5_4).bind fun (y5a,y5b)=>cond (BC y5a.data.toList ByteArray.empty.data.toList) ((Bh (⟨c.src,w0_11_4⟩:Cq) y5b e.att).bind fun (y6a,y6b)=>some (y5a,y6b)) (some (y5a,w0_11_4))) (some (ByteArray.empty,w0_11_4))) (fun v=>some v))
theorem Mf (CY:Cq→Nd→Option (ByteArray×(List Dg))) (Nl:∀ {c:Cq} {e:Nd} {yR:ByteArray} {qc_diagsR:(List Dg)},CY c e=some (yR,qc_diagsR)→Sound P G (.call 150 [.ptr 0 0,.agg (Bo e)] ⟨[(0,.cells (I9 0 c))],1,[(0,c.diags.length)],1⟩ (.ret (.zs yR)) ⟨[(0,.cells (Iy c.src [.sl (.row 0 2) qc_diagsR.length (rows BX qc_diagsR)]))],1,[(0,qc_diagsR.length)],1⟩)) {c:Cq} {e:Nd} {yR:ByteArray} {qc_diagsR:(List Dg)} (h:FX CY c e=some (yR,qc_diagsR)):Sound P G (.call 150 [.ptr 0 0,.agg (Bo e)] ⟨[(0,.cells (I9 0 c))],1,[(0,c.diags.length)],1⟩ (.ret (.zs yR)) ⟨[(0,.cells (Iy c.src [.sl (.row 0 2) qc_diagsR.length (rows BX qc_diagsR)]))],1,[(0,qc_diagsR.length)],1⟩):=by
 unfold FX at h
 refine CT Hd.mixed (Ay Tryz.func150 aeV ?_)
 revert h
 refine DF (fun Q v=>Iu P G Tryz.f150 1 ⟨[(0,.cells (I9 0 c))],1,[(0,c.diags.length)],1⟩ Q (.zs v.1) ⟨[(0,.cells (Iy c.src [.sl (.row 0 2) v.2.length (rows BX v.2)]))],1,[(0,v.2.length)],1⟩) (fun i0 ((l5,whole6,w0_11):((List ByteArray)×Bool×(List Dg))) (j0:List Value)=>fr 51 [(0,.ptr 0 0),(3,.ptr 1 0),(5,.sl (.row 1 1) l5.length (rows K8 l5)),(6,.zb whole6),(7,.zi ((i0:Nat):Int))] [15,29,30,32,33,34,35,44] j0) (fun ((l5,whole6,w0_11):((List ByteArray)×Bool×(List Dg)))=>⟨[(1,.cells (Bo e)),(0,.cells (Iy c.src [.sl (.row 0 2) w0_11.length (rows BX w0_11)]))],2,[(1,l5.length),(0,w0_11.length)],2⟩) (fun ((l5,whole6,w0_11):((List ByteArray)×Bool×(List Dg))) (jx:List Value)=>fr 51 [(0,.ptr 0 0),(3,.ptr 1 0),(5,.sl (.row 1 1) l5.length (rows K8 l5)),(6,.zb whole6)] [15,29,30,32,33,34,35,44] jx) (fun ((l5,whole6,w0_11):((List ByteArray)×Bool×(List Dg)))=>⟨[(1,.cells (Bo e)),(0,.cells (Iy c.src [.sl (.row 0 2) w0_11.length (rows BX w0_11)]))],2,[(1,l5.length),(0,w0_11.length)],2⟩) [] (Dq [.t 5 1] 0 (sb zA 244) [.code (sb zA 31)] (Ag 300 []) (by kernel_rfl)) ?_ ?_ ?_ (fun v h=>by cases h;exact .outer .body)
 rintro i0 ⟨l5,whole6,w0_11⟩ j0 hge hq
 exact B1 (Ag 300 [pb (IJ hge)]) (by kernel_rfl) (hq (js 8 j0 [(0,bF)]))
 rintro i0 e0 ⟨l5,whole6,w0_11⟩ j0 r he0 hi0 mi0 k
 show Dd CY c i0 e0 l5 whole6 w0_11=some r→_
 unfold Dd
 refine Ah ?_
 rintro ⟨y2a,y2b⟩ hy2
 dsimp only
 refine Kz fun hl3=>?_
 let o1:LP:=[pb (Fk hi0),BT (BQ .lost he0),AG (J2 (Nl hy2) 0 0)]
 refine Ad (fun hv=>?_) fun hv=>?_
 subst hv
 refine Ad (fun hb1=>?_) fun hb1=>?_
 rintro ⟨⟩
 exact D9 (Ag 300 (o1++[Nk (Yz (.row 1 1) l5 [y2a] (o:=.full) (n:=1) (ns:=[.zs y2a]) (Bw.wn [y2a] (.r .nil)) rfl rfl (by simp) (by simpa using hl3)),pn hb1,pi mi0])) (by kernel_rfl) (k [bT,bT,bT,bF,bF,(jv j0 5),(jv j0 6),(jv j0 7)])
 rintro ⟨⟩
 exact D9 (Ag 300 (o1++[Nk (Yz (.row 1 1) l5 [y2a] (o:=.full) (n:=1) (ns:=[.zs y2a]) (Bw.wn [y2a] (.r .nil)) rfl rfl (by simp) (by simpa using hl3)),pn hb1,pi mi0])) (by kernel_rfl) (k [bT,bT,bT,bT,bT,(jv j0 5),(jv j0 6),(jv j0 7)])
 subst hv
 rintro ⟨⟩
 exact D9 (Ag 300 (o1++[Nk (Yz (.row 1 1) l5 [y2a] (o:=.full) (n:=1) (ns:=[.zs y2a]) (Bw.wn [y2a] (.r .nil)) rfl rfl (by simp) (by simpa using hl3)),pi mi0])) (by kernel_rfl) (k [bT,bF,bF,undef,bF,(jv j0 5),(jv j0 6),(jv j0 7)])
 rintro ⟨l5_4,whole6_4,w0_11_4⟩ jx_4
 dsimp only
 refine Ad (fun hv=>?_) fun hv=>?_
 subst hv
 refine Ah ?_
 rintro ⟨y5a,y5b⟩ hy5
 dsimp only
 let o2:LP:=[oQ (args:=[.ptr 0 0,.agg (Bo e),.sl (.row 1 1) l5_4.length (rows K8 l5_4)]) (.r (.r (.s rfl .nil))) (NB (Mt hy5) 0 0)]
 refine Ad (fun hb2=>?_) fun hb2=>?_
 refine Ah ?_
 rintro ⟨y6a,y6b⟩ hy6
 dsimp only
 refine Gv ?_
 rintro rfl rfl
 exact Ao Hd.Aa _ _ [] [bu (Iy c.src [.sl (.row 0 2) y6b.length (rows BX y6b)]) (Av rfl (Av rfl (Av rfl (Av rfl (Av rfl (Av rfl (Av rfl (Av rfl (Av (Ae _ _ (Ch.Bk c.src.tab.ps)) (Av (Ae _ _ (Am.Bk c.src.kids)) (Av rfl (Av (CC rfl (Aj _ _ (AO.AW y6b))) rfl))))))))))))] (BJ 300 (o2++[pb hb2,AG (BB (Br hy6) 0 0)])) (by kernel_rfl) .body
 refine Gv ?_
 rintro rfl rfl
 exact Ao Hd.Aa _ _ [] [bu (Iy c.src [.sl (.row 0 2) w0_11_4.length (rows BX w0_11_4)]) (Av rfl (Av rfl (Av rfl (Av rfl (Av rfl (Av rfl (Av rfl (Av rfl (Av (Ae _ _ (Ch.Bk c.src.tab.ps)) (Av (Ae _ _ (Am.Bk c.src.kids)) (Av rfl (Av (CC rfl (Aj _ _ (AO.AW w0_11_4))) rfl))))))))))))] (BJ 300 (o2++[pb hb2])) (by kernel_rfl) .body
 subst hv
 refine Gv ?_
 rintro rfl rfl
 exact Ao Hd.Aa _ _ [] [bu (Iy c.src [.sl (.row 0 2) w0_11_4.length (rows BX w0_11_4)]) (Av rfl (Av rfl (Av rfl (Av rfl (Av rfl (Av rfl (Av rfl (Av rfl (Av (Ae _ _ (Ch.Bk c.src.tab.ps)) (Av (Ae _ _ (Am.Bk c.src.kids)) (Av rfl (Av (CC rfl (Aj _ _ (AO.AW w0_11_4))) rfl))))))))))))] (BJ 300 []) (by kernel_rfl) .body
noncomputable def Cc:Nat→Cq→Nd→Option (ByteArray×(List Dg))
 | 0,_,_=>none
 | qn+1,c,e=>FX (Cc qn) c e
theorem MV:∀ qn:Nat,∀ {c:Cq} {e:Nd} {yR:ByteArray} {qc_diagsR:(List Dg)},Cc qn c e=some (yR,qc_diagsR)→Sound P G (.call 150 [.ptr 0 0,.agg (Bo e)] ⟨[(0,.cells (I9 0 c))],1,[(0,c.diags.length)],1⟩ (.ret (.zs yR)) ⟨[(0,.cells (Iy c.src [.sl (.row 0 2) qc_diagsR.length (rows BX qc_diagsR)]))],1,[(0,qc_diagsR.length)],1⟩):=by
 intro qn
 induction qn with
 | zero=>exact (fun h=>by simp only [Cc] at h;cases h)
 | succ qn ih=>exact (fun h=>Mf (Cc qn) ih (by rw [Cc] at h;exact h))
noncomputable def HF (c:Cq) (e:Nd):Option (ByteArray×(List Dg)):=W5 (fun qn=>Cc qn c e)
theorem Nt {c:Cq} {e:Nd} {yR:ByteArray} {qc_diagsR:(List Dg)} (h:HF c e=some (yR,qc_diagsR)):Sound P G (.call 150 [.ptr 0 0,.agg (Bo e)] ⟨[(0,.cells (I9 0 c))],1,[(0,c.diags.length)],1⟩ (.ret (.zs yR)) ⟨[(0,.cells (Iy c.src [.sl (.row 0 2) qc_diagsR.length (rows BX qc_diagsR)]))],1,[(0,qc_diagsR.length)],1⟩):=by
 obtain ⟨qn,h⟩:=Ru h
 exact (MV qn) h
noncomputable def adY:Code:=AY Tryz.f114
theorem aeq:Tryz.f114.body=some adY:=by kernel_rfl
noncomputable def Dt  (c:Cq) (e:Nd) (unit:ByteArray):Option (Unit×(List Dg)):=(HF c e).bind fun (y1a,y1b)=>cond (BC y1a.data.toList ByteArray.empty.data.toList) (some ((),y1b)) (cond (BC unit.data.toList ByteArray.empty.data.toList) (some ((),y1b)) (cond (BC y1a.data.toList unit.data.toList) (some ((),y1b)) ((Bh (⟨c.src,y1b⟩:Cq) 11 e.att).bind fun (y2a,y2b)=>some ((),y2b))))
theorem J3 {c:Cq} {e:Nd} {unit:ByteArray} {qc_diagsR:(List Dg)} (hS:Sound P G (.call 114 [.ptr 0 0,.agg (Bo e),.zs unit] ⟨[(0,.cells (I9 0 c))],1,[(0,c.diags.length)],1⟩ (.ret (.Bd [])) ⟨[(0,.cells (Iy c.src [.sl (.row 0 2) qc_diagsR.length (rows BX qc_diagsR)]))],1,[(0,qc_diagsR.length)],1⟩)) (u0 v0:Nat) (hnb:([u0]:List Nat).Nodup:=by decide) (hnt:([v0]:List Nat).Nodup:=by decide):Cd.ok P G (.callU 114 [.ptr u0 0,.agg (Bo e),.zs unit] (.ret (.Bd [])) [(u0,.cells (I9 v0 c))] [(v0,c.diags.length)] [(u0,.cells (Iy c.src [.sl (.row v0 2) qc_diagsR.length (rows BX qc_diagsR)]))] [(v0,qc_diagsR.length)]) :=
 CS (M:=[.cells (I9 0 c)]) (M2:=[.cells (Iy c.src [.sl (.row 0 2) qc_diagsR.length (rows BX qc_diagsR)])]) (T:=[c.diags.length]) (T2:=[qc_diagsR.length]) (k:=1) (j:=1) Hd.Aa _ _ _ _ hS rfl rfl rfl rfl rfl hnb hnt rfl rfl (.cons (.cells (N1 c (by decide))) .nil) (.cons (.cells (.cons (.pl rfl) (.cons (.pl rfl) (.cons (.pl rfl) (.cons (.pl rfl) (.cons (.pl rfl) (.cons (.pl rfl) (.cons (.pl rfl) (.cons (.pl rfl) (.cons (.pl (Ch.Bk c.src.tab.ps)) (.cons (.pl (Am.Bk c.src.kids)) (.cons (.pl rfl) (.cons (.row (by decide) (AO.AW qc_diagsR)) .nil))))))))))))) .nil) (.cons (.ptr (by decide)) (.cons (.pl (Am.Dp e)) (.cons (.pl rfl) .nil))) (.pl rfl) (fun e he=>by simp only [List.mem_singleton] at he;subst he;exact (.arg (.here .ptr)))
theorem II   {c:Cq} {e:Nd} {unit:ByteArray} {yR:Unit} {qc_diagsR:(List Dg)} (h:Dt  c e unit=some (yR,qc_diagsR)):Sound P G (.call 114 [.ptr 0 0,.agg (Bo e),.zs unit] ⟨[(0,.cells (I9 0 c))],1,[(0,c.diags.length)],1⟩ (.ret (.Bd [])) ⟨[(0,.cells (Iy c.src [.sl (.row 0 2) qc_diagsR.length (rows BX qc_diagsR)]))],1,[(0,qc_diagsR.length)],1⟩):=by
 unfold Dt at h
 refine CT Hd.mixed (Ay Tryz.func114 aeq ?_)
 revert h
 refine Ah ?_
 rintro ⟨y1a,y1b⟩ hy1
 dsimp only
 let o1:LP:=[AG (J2 (Nt hy1) 0 0)]
 refine Ad (fun hb1=>?_) fun hb1=>?_
 refine Gv ?_
 rintro rfl rfl
 exact FL Hd.Aa _ _ [⟨.Bd [],.Bd [],(.plain rfl)⟩] [bu (Iy c.src [.sl (.row 0 2) y1b.length (rows BX y1b)]) (Av rfl (Av rfl (Av rfl (Av rfl (Av rfl (Av rfl (Av rfl (Av rfl (Av (Ae _ _ (Ch.Bk c.src.tab.ps)) (Av (Ae _ _ (Am.Bk c.src.kids)) (Av rfl (Av (CC rfl (Aj _ _ (AO.AW y1b))) rfl))))))))))))] (Ag 300 (o1++[pn hb1])) (by kernel_rfl)
 refine Ad (fun hb2=>?_) fun hb2=>?_
 refine Gv ?_
 rintro rfl rfl
 exact FL Hd.Aa _ _ [⟨.Bd [],.Bd [],(.plain rfl)⟩] [bu (Iy c.src [.sl (.row 0 2) y1b.length (rows BX y1b)]) (Av rfl (Av rfl (Av rfl (Av rfl (Av rfl (Av rfl (Av rfl (Av rfl (Av (Ae _ _ (Ch.Bk c.src.tab.ps)) (Av (Ae _ _ (Am.Bk c.src.kids)) (Av rfl (Av (CC rfl (Aj _ _ (AO.AW y1b))) rfl))))))))))))] (Ag 300 (o1++[pn hb1,pn hb2])) (by kernel_rfl)
 refine Ad (fun hb3=>?_) fun hb3=>?_
 refine Gv ?_
 rintro rfl rfl
 exact FL Hd.Aa _ _ [⟨.Bd [],.Bd [],(.plain rfl)⟩] [bu (Iy c.src [.sl (.row 0 2) y1b.length (rows BX y1b)]) (Av rfl (Av rfl (Av rfl (Av rfl (Av rfl (Av rfl (Av rfl (Av rfl (Av (Ae _ _ (Ch.Bk c.src.tab.ps)) (Av (Ae _ _ (Am.Bk c.src.kids)) (Av rfl (Av (CC rfl (Aj _ _ (AO.AW y1b))) rfl))))))))))))] (Ag 300 (o1++[pn hb1,pn hb2,pn hb3])) (by kernel_rfl)
 refine Ah ?_
 rintro ⟨y2a,y2b⟩ hy2
 dsimp only
 refine Gv ?_
 rintro rfl rfl
 exact FL Hd.Aa _ _ [⟨.Bd [],.Bd [],(.plain rfl)⟩] [bu (Iy c.src [.sl (.row 0 2) y2b.length (rows BX y2b)]) (Av rfl (Av rfl (Av rfl (Av rfl (Av rfl (Av rfl (Av rfl (Av rfl (Av (Ae _ _ (Ch.Bk c.src.tab.ps)) (Av (Ae _ _ (Am.Bk c.src.kids)) (Av rfl (Av (CC rfl (Aj _ _ (AO.AW y2b))) rfl))))))))))))] (Ag 300 (o1++[pn hb1,pn hb2,pn hb3,AG (BB (Br hy2) 0 0)])) (by kernel_rfl)
noncomputable def B70:Code:=AY Tryz.f70
theorem b70:Tryz.f70.body=some B70:=by kernel_rfl
noncomputable def Dv  (c:Cq) (n:Nd) (i0:Nat) (e0:Nd) (w0_11:(List Dg)):Option (Lp (List Dg) (List Dg) (Unit×(List Dg))):=(EN c.src e0.n).bind fun (y6a,y6b)=>cond (Bp e0.n n.n) ((Bh (⟨c.src,w0_11⟩:Cq) 101 e0.att).bind fun (y7a,y7b)=>some (.nx y7b)) (cond y6b (some (.nx w0_11)) ((Bh (⟨c.src,w0_11⟩:Cq) 91 e0.att).bind fun (y8a,y8b)=>some (.nx y8b)))
noncomputable def DS  (c:Cq) (n:Nd) (x:Nd):Option (Unit×(List Dg)):=cond (Bp x.kind 6) ((x.kids[0]?).bind fun x1=>(Dt c x1 Ak).bind fun (y2a,y2b)=>some ((),y2b)) (cond (Bp x.kind 8) ((Fa c.src 3 n.name).bind fun (y3a,y3b)=>(x.kids[0]?).bind fun x4=>(Dt c x4 y3a.unit).bind fun (y5a,y5b)=>some ((),y5b)) (cond (Bp x.kind 7) ((GW x.kids.length (AL (fun i y x=>Dv  c n i y x) (fun x=>x) (x.kids.drop 0) 0 c.diags)).bind (GQ (fun (w0_11_9:(List Dg))=>some ((),w0_11_9)) (fun v=>some v))) (some ((),c.diags))))
theorem My {c:Cq} {n:Nd} {x:Nd} {qc_diagsR:(List Dg)} (hS:Sound P G (.call 70 [.ptr 0 0,.agg (Bo n),.agg (Bo x)] ⟨[(0,.cells (I9 0 c))],1,[(0,c.diags.length)],1⟩ (.ret (.Bd [])) ⟨[(0,.cells (Iy c.src [.sl (.row 0 2) qc_diagsR.length (rows BX qc_diagsR)]))],1,[(0,qc_diagsR.length)],1⟩)) (u0 v0:Nat) (hnb:([u0]:List Nat).Nodup:=by decide) (hnt:([v0]:List Nat).Nodup:=by decide):Cd.ok P G (.callU 70 [.ptr u0 0,.agg (Bo n),.agg (Bo x)] (.ret (.Bd [])) [(u0,.cells (I9 v0 c))] [(v0,c.diags.length)] [(u0,.cells (Iy c.src [.sl (.row v0 2) qc_diagsR.length (rows BX qc_diagsR)]))] [(v0,qc_diagsR.length)]) :=
 CS (M:=[.cells (I9 0 c)]) (M2:=[.cells (Iy c.src [.sl (.row 0 2) qc_diagsR.length (rows BX qc_diagsR)])]) (T:=[c.diags.length]) (T2:=[qc_diagsR.length]) (k:=1) (j:=1) Hd.Aa _ _ _ _ hS rfl rfl rfl rfl rfl hnb hnt rfl rfl (.cons (.cells (N1 c (by decide))) .nil) (.cons (.cells (.cons (.pl rfl) (.cons (.pl rfl) (.cons (.pl rfl) (.cons (.pl rfl) (.cons (.pl rfl) (.cons (.pl rfl) (.cons (.pl rfl) (.cons (.pl rfl) (.cons (.pl (Ch.Bk c.src.tab.ps)) (.cons (.pl (Am.Bk c.src.kids)) (.cons (.pl rfl) (.cons (.row (by decide) (AO.AW qc_diagsR)) .nil))))))))))))) .nil) (.cons (.ptr (by decide)) (.cons (.pl (Am.Dp n)) (.cons (.pl (Am.Dp x)) .nil))) (.pl rfl) (fun e he=>by simp only [List.mem_singleton] at he;subst he;exact (.arg (.here .ptr)))
theorem Lm   {c:Cq} {n:Nd} {x:Nd} {yR:Unit} {qc_diagsR:(List Dg)} (h:DS  c n x=some (yR,qc_diagsR)):Sound P G (.call 70 [.ptr 0 0,.agg (Bo n),.agg (Bo x)] ⟨[(0,.cells (I9 0 c))],1,[(0,c.diags.length)],1⟩ (.ret (.Bd [])) ⟨[(0,.cells (Iy c.src [.sl (.row 0 2) qc_diagsR.length (rows BX qc_diagsR)]))],1,[(0,qc_diagsR.length)],1⟩):=by
 unfold DS at h
 refine CT Hd.mixed (Ay Tryz.func70 b70 ?_)
 revert h
 refine Ad (fun hb1=>?_) fun hb1=>?_
 refine Ah fun x1 hx1=>?_
 refine Ah ?_
 rintro ⟨y2a,y2b⟩ hy2
 dsimp only
 refine Gv ?_
 rintro rfl rfl
 exact FL Hd.Aa _ _ [⟨.Bd [],.Bd [],(.plain rfl)⟩] [bu (Iy c.src [.sl (.row 0 2) y2b.length (rows BX y2b)]) (Av rfl (Av rfl (Av rfl (Av rfl (Av rfl (Av rfl (Av rfl (Av rfl (Av (Ae _ _ (Ch.Bk c.src.tab.ps)) (Av (Ae _ _ (Am.Bk c.src.kids)) (Av rfl (Av (CC rfl (Aj _ _ (AO.AW y2b))) rfl))))))))))))] (Ag 300 [pb hb1,BT (BQ .lost hx1),AG (J3 (II hy2) 0 0)]) (by kernel_rfl)
 refine Ad (fun hb2=>?_) fun hb2=>?_
 refine Ah ?_
 rintro ⟨y3a,y3b⟩ hy3
 dsimp only
 refine Ah fun x4 hx4=>?_
 refine Ah ?_
 rintro ⟨y5a,y5b⟩ hy5
 dsimp only
 refine Gv ?_
 rintro rfl rfl
 exact FL Hd.Aa _ _ [⟨.Bd [],.Bd [],(.plain rfl)⟩] [bu (Iy c.src [.sl (.row 0 2) y5b.length (rows BX y5b)]) (Av rfl (Av rfl (Av rfl (Av rfl (Av rfl (Av rfl (Av rfl (Av rfl (Av (Ae _ _ (Ch.Bk c.src.tab.ps)) (Av (Ae _ _ (Am.Bk c.src.kids)) (Av rfl (Av (CC rfl (Aj _ _ (AO.AW y5b))) rfl))))))))))))] (Ag 300 [pb hb1,pb hb2,An (HP hy3),pz 7,BT (BQ .lost hx4),AG (J3 (II hy5) 0 0)]) (by kernel_rfl)
 refine Ad (fun hb3=>?_) fun hb3=>?_
 refine DF (fun Q v=>Iu P G Tryz.f70 1 ⟨[(0,.cells (I9 0 c))],1,[(0,c.diags.length)],1⟩ Q (.Bd []) ⟨[(0,.cells (Iy c.src [.sl (.row 0 2) v.2.length (rows BX v.2)]))],1,[(0,v.2.length)],1⟩) (fun i0 (w0_11:(List Dg)) (j0:List Value)=>fr 91 [(0,.ptr 0 0),(4,.ptr 1 0),(5,.ptr 2 0),(8,.zi ((i0:Nat):Int))] [7,10,13,14,21,22,32,41,42,47,63,72,81,82] j0) (fun (w0_11:(List Dg))=>⟨[(2,.cells (Bo x)),(1,.cells (Bo n)),(0,.cells (Iy c.src [.sl (.row 0 2) w0_11.length (rows BX w0_11)]))],3,[(0,w0_11.length)],1⟩) (fun (w0_11:(List Dg)) (jx:List Value)=>fr 91 [] [7,10,13,14,21,22,32,41,42,47,63,72,81,82] jx) (fun (w0_11:(List Dg))=>⟨[(2,.cells (Bo x)),(1,.cells (Bo n)),(0,.cells (Iy c.src [.sl (.row 0 2) w0_11.length (rows BX w0_11)]))],3,[(0,w0_11.length)],1⟩) [undef,undef,bF,bF,bF,bF,undef,bT,bT] (Dq [] 1 (sb B70 7668) [.endb 0] (Ag 300 [pb hb1,pb hb2,pb hb3]) (by kernel_rfl)) ?_ ?_ ?_ (fun v h=>by cases h;exact .outer .body)
 rintro i0 w0_11 j0 hge hq
 exact B1 (Ag 300 [pb (IJ hge)]) (by kernel_rfl) (hq (js 14 j0 [(9,bF)]))
 rintro i0 e0 w0_11 j0 r he0 hi0 mi0 k
 show Dv  c n i0 e0 w0_11=some r→_
 unfold Dv
 refine Ah ?_
 rintro ⟨y6a,y6b⟩ hy6
 dsimp only
 let o1:LP:=[pb (Fk hi0),BT (BQ .lost he0),An (IC hy6),BT (BQ .lost he0)]
 refine Ad (fun hb4=>?_) fun hb4=>?_
 refine Ah ?_
 rintro ⟨y7a,y7b⟩ hy7
 dsimp only
 rintro ⟨⟩
 exact Bt Hd.Aa [] [bp (Am.pl x),bp (Am.pl n),bu (Iy c.src [.sl (.row 0 2) y7b.length (rows BX y7b)]) (Av rfl (Av rfl (Av rfl (Av rfl (Av rfl (Av rfl (Av rfl (Av rfl (Av (Ae _ _ (Ch.Bk c.src.tab.ps)) (Av (Ae _ _ (Am.Bk c.src.kids)) (Av rfl (Av (CC rfl (Aj _ _ (AO.AW y7b))) rfl))))))))))))] (Ag 300 (o1++[pb hb4,BT (BQ .lost he0),AG (BB (Br hy7) 0 0),pi mi0])) (by kernel_rfl) (k (js 14 j0 [(1,.bool y6b),(9,bT),(10,.bool y6b),(11,bT)]))
 refine Ad (fun hv=>?_) fun hv=>?_
 subst hv
 rintro ⟨⟩
 exact Bt Hd.Aa [] [bp (Am.pl x),bp (Am.pl n),bu (Iy c.src [.sl (.row 0 2) w0_11.length (rows BX w0_11)]) (Av rfl (Av rfl (Av rfl (Av rfl (Av rfl (Av rfl (Av rfl (Av rfl (Av (Ae _ _ (Ch.Bk c.src.tab.ps)) (Av (Ae _ _ (Am.Bk c.src.kids)) (Av rfl (Av (CC rfl (Aj _ _ (AO.AW w0_11))) rfl))))))))))))] (Ag 300 (o1++[pb hb4,pi mi0])) (by kernel_rfl) (k (js 14 j0 [(1,bT),(9,bT),(10,bT),(11,bF),(12,bT),(13,bF)]))
 subst hv
 refine Ah ?_
 rintro ⟨y8a,y8b⟩ hy8
 dsimp only
 rintro ⟨⟩
 exact Bt Hd.Aa [] [bp (Am.pl x),bp (Am.pl n),bu (Iy c.src [.sl (.row 0 2) y8b.length (rows BX y8b)]) (Av rfl (Av rfl (Av rfl (Av rfl (Av rfl (Av rfl (Av rfl (Av rfl (Av (Ae _ _ (Ch.Bk c.src.tab.ps)) (Av (Ae _ _ (Am.Bk c.src.kids)) (Av rfl (Av (CC rfl (Aj _ _ (AO.AW y8b))) rfl))))))))))))] (Ag 300 (o1++[pb hb4,BT (BQ .lost he0),AG (BB (Br hy8) 0 0),pi mi0])) (by kernel_rfl) (k (js 14 j0 [(1,bF),(9,bT),(10,bF),(11,bF),(12,bF),(13,bT)]))
 rintro w0_11_9 jx_9
 refine Gv ?_
 rintro rfl rfl
 exact FL Hd.Aa _ _ [⟨.Bd [],.Bd [],(.plain rfl)⟩] [bu (Iy c.src [.sl (.row 0 2) w0_11_9.length (rows BX w0_11_9)]) (Av rfl (Av rfl (Av rfl (Av rfl (Av rfl (Av rfl (Av rfl (Av rfl (Av (Ae _ _ (Ch.Bk c.src.tab.ps)) (Av (Ae _ _ (Am.Bk c.src.kids)) (Av rfl (Av (CC rfl (Aj _ _ (AO.AW w0_11_9))) rfl))))))))))))] (BJ 300 []) (by kernel_rfl)
 refine Gv ?_
 rintro rfl rfl
 exact FL Hd.Aa _ _ [⟨.Bd [],.Bd [],(.plain rfl)⟩] [bu (I9 0 c) (H4 rfl)] (Ag 300 [pb hb1,pb hb2,pb hb3]) (by kernel_rfl)
noncomputable def yW:Code:=AY Tryz.f31
theorem b31:Tryz.f31.body=some yW:=by kernel_rfl
noncomputable def Gj  (source:Nd) (i0:Nat) (e0:Nd) (facts4:Int) (lines5:Int) (w1_11:(List Dg)):Option (Lp (Int×Int×(List Dg)) (List Dg) (List Dg)):=cond (Bp e0.kind 2) ((Cf (⟨source,w1_11⟩:Cq) ((i0:Nat):Int) facts4).bind fun (y2a,y2b)=>some (.nx ((BW facts4 1),lines5,y2b))) (cond (Bp e0.kind 3) ((Cf (⟨source,w1_11⟩:Cq) ((i0:Nat):Int) lines5).bind fun (y3a,y3b)=>some (.nx (facts4,(BW lines5 1),y3b))) (some (.nx (facts4,lines5,w1_11))))
noncomputable def Hz  (source:Nd) (e1:Nd) (i2:Nat) (e2:Nd) (w1_11:(List Dg)):Option (Lp (List Dg) (List Dg) (List Dg)):=(DS (⟨source,w1_11⟩:Cq) e1 e2).bind fun (y6a,y6b)=>some (.nx y6b)
noncomputable def Fx  (source:Nd) (i1:Nat) (e1:Nd) (many7:Int) (w1_11:(List Dg)):Option (Lp (Int×(List Dg)) (List Dg) (List Dg)):=cond (Bp e1.kind 4) ((Ep (⟨source,w1_11⟩:Cq) e1 many7).bind fun (y5a,y5b)=>(GW e1.kids.length (AL (fun i y x=>Hz  source e1 i y x) (fun x=>x) (e1.kids.drop 1) 1 y5b)).bind (GQ (fun (w1_11_7:(List Dg))=>some (.nx ((BW many7 1),w1_11_7))) (fun v=>some (.rt v)))) (some (.nx (many7,w1_11)))
noncomputable def Ib  (source:Nd):Option (List Dg):=(Hh source).bind fun y1=>cond y1 ((GW source.kids.length (AL (fun i y x=>Gj  source i y x.1 x.2.1 x.2.2) (fun x=>x.2.2) (source.kids.drop 0) 0 (0,0,[]))).bind (GQ (fun (w1_11_4:(List Dg))=>(GW source.kids.length (AL (fun i y x=>Fx  source i y x.1 x.2) (fun x=>x.2) (source.kids.drop 0) 0 (0,w1_11_4))).bind (GQ (fun (w1_11_8:(List Dg))=>some w1_11_8) (fun v=>some v))) (fun v=>some v))) (some [(⟨1,0⟩:Dg)])
theorem Q1   {source:Nd} {yR:(List Dg)} (h:Ib  source=some yR):Pure P G 31 [.agg (Bo source)] (.sl .lost yR.length (rows BX yR)):=by
 unfold Ib at h
 refine BF Hd.mixed Hd.Aa (Ay Tryz.func31 b31 ?_) (AW (Am.Dp source) rfl) (AO.Bk yR)
 revert h
 refine Ah fun y1 hy1=>?_
 refine Ad (fun hv=>?_) fun hv=>?_
 subst hv
 refine DF (fun Q v=>EQ P Tryz.f31 0 Q (.sl .lost v.length (rows BX v))) (fun i0 ((facts4,lines5,w1_11):(Int×Int×(List Dg))) (j0:List Value)=>fr 88 [(1,.ptr 0 0),(3,.ptr 1 0),(4,.zi facts4),(5,.zi lines5),(6,.zi ((i0:Nat):Int))] [12,13,23,32,33,40,41,52,62,73] j0) (fun ((facts4,lines5,w1_11):(Int×Int×(List Dg)))=>⟨[(1,.cells (Iy source [.sl (.row 0 2) w1_11.length (rows BX w1_11)])),(0,.cells (Bo source))],2,[(0,w1_11.length)],1⟩) (fun (w1_11:(List Dg)) (jx:List Value)=>fr 88 [(1,.ptr 0 0),(3,.ptr 1 0)] [12,13,23,32,33,40,41,52,62,73] jx) (fun (w1_11:(List Dg))=>⟨[(1,.cells (Iy source [.sl (.row 0 2) w1_11.length (rows BX w1_11)])),(0,.cells (Bo source))],2,[(0,w1_11.length)],1⟩) [bT,bF] (Dq [.b 1 11 2] 0 (sb yW 1012) [.code (sb yW 127)] (Ag 300 [An (Lx hy1)]) (by kernel_rfl)) ?_ ?_ ?_ (fun v h=>by cases h;exact .outer .body)
 rintro i0 ⟨facts4,lines5,w1_11⟩ j0 hge hq
 exact B1 (Ag 300 [pb (IJ hge)]) (by kernel_rfl) (hq (js 10 j0 [(2,bF)]))
 rintro i0 e0 ⟨facts4,lines5,w1_11⟩ j0 r he0 hi0 mi0 k
 show Gj  source i0 e0 facts4 lines5 w1_11=some r→_
 unfold Gj
 refine Ad (fun hb2=>?_) fun hb2=>?_
 refine Ah ?_
 rintro ⟨y2a,y2b⟩ hy2
 dsimp only
 rintro ⟨⟩
 exact D9 (Ag 300 [pb (Fk hi0),BT (BQ .lost he0),pb hb2,AG (G6 (Gq hy2) 1 0),pk,pi mi0]) (by kernel_rfl) (k (js 10 j0 [(2,bT),(3,bT),(4,bT)]))
 refine Ad (fun hb3=>?_) fun hb3=>?_
 refine Ah ?_
 rintro ⟨y3a,y3b⟩ hy3
 dsimp only
 rintro ⟨⟩
 exact D9 (Ag 300 [pb (Fk hi0),BT (BQ .lost he0),pb hb2,pb hb3,AG (G6 (Gq hy3) 1 0),pk,pi mi0]) (by kernel_rfl) (k (js 10 j0 [(2,bT),(3,bF),(4,bF),(5,bT),(6,bT)]))
 rintro ⟨⟩
 exact D9 (Ag 300 [pb (Fk hi0),BT (BQ .lost he0),pb hb2,pb hb3,pi mi0]) (by kernel_rfl) (k (js 10 j0 [(2,bT),(3,bF),(4,bF),(5,bF),(6,bF)]))
 rintro w1_11_4 jx_4
 refine DF (fun Q v=>EQ P Tryz.f31 0 Q (.sl .lost v.length (rows BX v))) (fun i1 ((many7,w1_11):(Int×(List Dg))) (j1:List Value)=>fr 88 [(1,.ptr 0 0),(3,.ptr 1 0),(7,.zi many7),(8,.zi ((i1:Nat):Int))] [12,13,23,32,33,40,41,52,62,73] j1) (fun ((many7,w1_11):(Int×(List Dg)))=>⟨[(1,.cells (Iy source [.sl (.row 0 2) w1_11.length (rows BX w1_11)])),(0,.cells (Bo source))],2,[(0,w1_11.length)],1⟩) (fun (w1_11:(List Dg)) (jx:List Value)=>fr 88 [(3,.ptr 1 0)] [12,13,23,32,33,40,41,52,62,73] jx) (fun (w1_11:(List Dg))=>⟨[(1,.cells (Iy source [.sl (.row 0 2) w1_11.length (rows BX w1_11)])),(0,.cells (Bo source))],2,[(0,w1_11.length)],1⟩) jx_4 (Dq [] 3 (sb yW 4084) [.code (sb yW 511)] (BJ 300 []) (by kernel_rfl)) ?_ ?_ ?_ (fun v h=>by cases h;exact .outer .body)
 rintro i1 ⟨many7,w1_11⟩ j1 hge hq
 exact B1 (Ag 300 [pb (IJ hge)]) (by kernel_rfl) (hq (js 10 j1 [(7,bF)]))
 rintro i1 e1 ⟨many7,w1_11⟩ j1 r he1 hi1 mi1 k
 show Fx  source i1 e1 many7 w1_11=some r→_
 unfold Fx
 refine Ad (fun hb4=>?_) fun hb4=>?_
 refine Ah ?_
 rintro ⟨y5a,y5b⟩ hy5
 dsimp only
 refine DF (fun Q v=>EQ P Tryz.f31 0 Q (.sl .lost v.length (rows BX v))) (fun i2 (w1_11:(List Dg)) (j2:List Value)=>fr 88 [(1,.ptr 0 0),(3,.ptr 1 0),(7,.zi (BW many7 1)),(8,.zi ((i1:Nat):Int)),(9,.ptr 2 0),(10,.zi ((i2:Nat):Int))] [12,13,23,32,33,40,41,52,62,73] j2) (fun (w1_11:(List Dg))=>⟨[(2,.cells (Bo e1)),(1,.cells (Iy source [.sl (.row 0 2) w1_11.length (rows BX w1_11)])),(0,.cells (Bo source))],3,[(0,w1_11.length)],1⟩) (fun (w1_11:(List Dg)) (jx:List Value)=>fr 88 [(1,.ptr 0 0),(3,.ptr 1 0),(7,.zi (BW many7 1)),(8,.zi ((i1:Nat):Int))] [12,13,23,32,33,40,41,52,62,73] jx) (fun (w1_11:(List Dg))=>⟨[(2,.cells (Bo e1)),(1,.cells (Iy source [.sl (.row 0 2) w1_11.length (rows BX w1_11)])),(0,.cells (Bo source))],3,[(0,w1_11.length)],1⟩) (js 10 j1 [(7,bT),(8,bF)]) (Dq [] 5 (sb yW 4182652) [.endb 4,.code (sb yW 16339)] (Ag 300 [pb (Fk hi1),BT (BQ .lost he1),pn hb4,AG (NT (L8 hy5) 1 0),pk]) (by kernel_rfl)) ?_ ?_ ?_ (fun v h=>by cases h;exact .outer (.Em k))
 rintro i2 w1_11 j2 hge hq
 exact B1 (Ag 300 [pb (IJ hge)]) (by kernel_rfl) (hq (js 10 j2 [(9,bF)]))
 rintro i2 e2 w1_11 j2 r he2 hi2 mi2 k
 show Hz  source e1 i2 e2 w1_11=some r→_
 unfold Hz
 refine Ah ?_
 rintro ⟨y6a,y6b⟩ hy6
 dsimp only
 rintro ⟨⟩
 exact D9 (Ag 300 [pb (Fk hi2),pz 7,BT (BQ .lost he2),AG (My (Lm hy6) 1 0),pi mi2]) (by kernel_rfl) (k (js 10 j2 [(9,bT)]))
 rintro w1_11_7 jx_7
 rintro ⟨⟩
 exact Bt Hd.Aa [] [bu (Iy source [.sl (.row 0 2) w1_11_7.length (rows BX w1_11_7)]) (Av rfl (Av rfl (Av rfl (Av rfl (Av rfl (Av rfl (Av rfl (Av rfl (Av (Ae _ _ (Ch.Bk source.tab.ps)) (Av (Ae _ _ (Am.Bk source.kids)) (Av rfl (Av (CC rfl (Aj _ _ (AO.AW w1_11_7))) rfl)))))))))))),bp (Am.pl source)] (BJ 300 [pi mi1]) (by kernel_rfl) (k jx_7)
 rintro ⟨⟩
 exact Bt Hd.Aa [] [bu (Iy source [.sl (.row 0 2) w1_11.length (rows BX w1_11)]) (Av rfl (Av rfl (Av rfl (Av rfl (Av rfl (Av rfl (Av rfl (Av rfl (Av (Ae _ _ (Ch.Bk source.tab.ps)) (Av (Ae _ _ (Am.Bk source.kids)) (Av rfl (Av (CC rfl (Aj _ _ (AO.AW w1_11))) rfl)))))))))))),bp (Am.pl source)] (Ag 300 [pb (Fk hi1),BT (BQ .lost he1),pn hb4,pi mi1]) (by kernel_rfl) (k (js 10 j1 [(7,bT),(8,bT)]))
 rintro w1_11_8 jx_8
 refine sJ ?_
 rintro rfl
 exact Ap (v:=.sl (.row 0 2) w1_11_8.length (rows BX w1_11_8)) _ _ (BJ 300 []) (by kernel_rfl) .body (.wn (.s rfl .nil) (AO.Bk w1_11_8))
 subst hv
 refine sJ ?_
 rintro rfl
 exact Ap (v:=.sl .full 1 [.zi 1,.zi 0]) _ _ (Ag 300 [An (Lx hy1)]) (by kernel_rfl) .body (.wn (.d (.r (.r .nil)) (AO.eq [(⟨1,0⟩:Dg)]).symm .nil) (AO.Bk [(⟨1,0⟩:Dg)]))
noncomputable def B32:Code:=AY Tryz.f32
theorem b32:Tryz.f32.body=some B32:=by kernel_rfl
noncomputable def I0  (kind:Int) (i0:Nat) (e0:Nd) (many5:Int):Option (Lp Int Int Int):=cond (Bp e0.kind kind) (some (.nx (BW many5 1))) (some (.nx many5))
noncomputable def DL  (n:Nd) (kind:Int):Option Int:=(GW n.kids.length (AL (fun i y x=>I0  kind i y x) (fun x=>x) (n.kids.drop 0) 0 0)).bind (GQ (fun (many5_1:Int)=>some many5_1) (fun v=>some v))
theorem Cp   {n:Nd} {kind:Int} {yR:Int} (h:DL  n kind=some yR):Pure P G 32 [.agg (Bo n),.zi kind] (.zi yR):=by
 unfold DL at h
 refine BF Hd.mixed Hd.Aa (Ay Tryz.func32 b32 ?_) (AW (Am.Dp n) (AW rfl rfl)) rfl
 revert h
 refine DF (fun Q v=>EQ P Tryz.f32 0 Q (.zi v)) (fun i0 (many5:Int) (j0:List Value)=>fr 23 [(1,.zi kind),(5,.zi many5),(9,.sl .lost n.kids.length (Cg n.kids)),(10,.zi ((n.kids.length:Nat):Int)),(11,.zi ((i0:Nat):Int))] [12,18] j0) (fun (many5:Int)=>⟨[(0,.cells (Bo n))],1,[],0⟩) (fun (many5:Int) (jx:List Value)=>fr 23 [(5,.zi many5)] [12,18] jx) (fun (many5:Int)=>⟨[(0,.cells (Bo n))],1,[],0⟩) [] (Dq [] 0 (sb B32 116) [.code (sb B32 15)] (Ag 300 []) (by kernel_rfl)) ?_ ?_ ?_ (fun v h=>by cases h;exact .outer .body)
 rintro i0 many5 j0 hge hq
 exact B1 (Ag 300 [pb (IJ hge)]) (by kernel_rfl) (hq [bF,(jv j0 1)])
 rintro i0 e0 many5 j0 r he0 hi0 mi0 k
 show I0  kind i0 e0 many5=some r→_
 unfold I0
 refine Ad (fun hb1=>?_) fun hb1=>?_
 rintro ⟨⟩
 exact Bt Hd.Aa [fq (Am.Bk n.kids)] [bp (Am.pl n)] (Ag 300 [pb (Fk hi0),BT (BQ .lost he0),pb hb1,pk,pi mi0]) (by kernel_rfl) (k [bT,bT])
 rintro ⟨⟩
 exact Bt Hd.Aa [fq (Am.Bk n.kids)] [bp (Am.pl n)] (Ag 300 [pb (Fk hi0),BT (BQ .lost he0),pb hb1,pi mi0]) (by kernel_rfl) (k [bT,bF])
 rintro many5_1 jx_1
 rintro ⟨⟩
 exact Ap _ _ (BJ 300 []) (by kernel_rfl) .body .sc
end Mo
end Go.Proofs.YtnijkdknnmgoeaaGreat

namespace Go.Proofs.YtnijkdknnmgoeaaGreat
open AI Go
namespace Mo
set_option maxRecDepth 100000
set_option maxHeartbeats 4000000
def Ns (s:ByteArray):Prop:=s.data.toList.length=3∧∀ c∈s.data.toList,65≤c.toNat∧c.toNat≤90
def EB (s:ByteArray):Prop:=s=Ak∨s=AF∨s=BM∨Ns s
def Nf (c:UInt8):Prop:=(97≤c.toNat∧c.toNat≤122)∨(48≤c.toNat∧c.toNat≤57)∨c.toNat=95
def Q9:List ByteArray:=[Tn,S3,KY,Y5,Sn,SY,u6,Pg,TB,MI,MC,Ak,AF,BM,X6,SV,M8,Pb,Tp,Um,IP,YV,U0,SA,O6,XX,EV,Oo,H8,Ks,Jt,Ec,O9]
def FK (s:ByteArray):Prop:=(1≤s.data.toList.length∧s.data.toList.length≤16)∧(∃ b,s.data.toList[0]?=some b∧97≤b.toNat∧b.toNat≤122)∧s∉Q9∧∀ c∈s.data.toList,Nf c
theorem H7 {n:Nd} (h:FM n):n.tab.ps.length≤9223372036854775807∧n.kids.length≤9223372036854775807∧∀ k∈n.kids,FM k:=by
 obtain ⟨a,b,c⟩:=(Qa n).1 h
 exact ⟨a.1,b,c⟩
theorem Lg {α:Type} {l:List α} {P:α→Prop}:(∀ (i:Nat) (y:α),l[i]?=some y→P y)↔∀ y∈l,P y :=
 ⟨fun h y hy=>(List.getElem?_of_mem hy).elim fun i hi=>h i y hi,fun h i y hi=>h y (List.mem_of_getElem? hi)⟩
theorem eL (s:ByteArray):Fo s=some (mb (s∈Q9)):=by
 rw [Fo]
 simp only [B8,BH,Hf,Za]
 refine Lh ?_
 simp only [Q9,List.mem_cons,List.not_mem_nil,or_false]
theorem Xb (s:ByteArray):s=ByteArray.empty↔s.data.toList.length=0:=by
 constructor
 · intro h;rw [h];rfl
 · intro h
   apply ByteArray.ext
   apply Array.ext'
   rw [List.eq_nil_of_length_eq_zero h];rfl
theorem RJ (s:ByteArray):Cu s=some (mb (FK s)):=by
 rw [Cu]
 simp only [B8,Di,BH,eL,Option.bind_some]
 unfold FK
 by_cases h0:s=ByteArray.empty
 · rw [Ac h0];exact Hq fun h=>by have:=(Xb s).1 h0;omega
 have h1:s.data.toList.length≠0:=fun h=>h0 ((Xb s).2 h)
 rw [Ab h0]
 by_cases h2:16 < ((s.data.toList.length:Nat):Int)
 · rw [Ac h2];exact Hq fun h=>by omega
 rw [Ab h2]
 obtain ⟨b,hb⟩:∃ b,s.data.toList[0]?=some b:=⟨_,List.getElem?_eq_getElem (by omega)⟩
 rw [hb,ID (v:=false) (P:=fun _ y=>Nf y) (by omega) (fun i y _=>by
   simp only [Fq,Di,BV,BH,TN,Xs,T9,mX,T3,acp,wI]
   congr 2
   unfold Nf
   apply propext
   omega)]
 simp only [Option.bind_some,Hf,bP,Lg]
 refine Lh ?_
 constructor
 · rintro ⟨h3,h4,h5,h6⟩
   exact ⟨by omega,⟨b,rfl,by omega⟩,h5,h6⟩
 · rintro ⟨h3,⟨c,hc,h4⟩,h5,h6⟩
   cases hc
   exact ⟨by omega,by omega,h5,h6⟩
theorem Ty (s:ByteArray):Gh s=some (mb (Ns s)):=by
 rw [Gh,BV,BH]
 unfold Ns
 by_cases h:((s.data.toList.length:Nat):Int)=3
 · rw [Ac h,ID (v:=false) (P:=fun _ y=>65≤y.toNat∧y.toNat≤90) (by omega) (fun i y _=>by
     simp only [Ha,Di,BH,T9,T3]
     congr 2;apply propext;omega),Hf,Lg]
   exact Lh ⟨fun h2=>⟨by omega,h2⟩,fun h2=>h2.2⟩
 · rw [Ab h];exact Hq fun h2=>h (by omega)
theorem P3 (s:ByteArray):DP s=some (mb (EB s)):=by
 rw [DP]
 simp only [B8,BH,Ty,Option.bind_some,Za]
 rfl
def G3 (n:Int):Prop:=1≤n∧n≤1000000
theorem P4 (n:Int):CW n=some (mb (G3 n)):=by
 rw [CW]
 simp only [Fw,BH,Hf,F1]
 rfl
def cG (n:Int):Prop:=0≤n∧n≤36524
def SI (s:ByteArray):Prop:=s=EV∨s=Oo∨s=H8∨s=Ks
theorem eE (s:ByteArray):ET s=some (mb (SI s)):=by
 rw [ET]
 simp only [B8,BH,Hf,Za]
 rfl
theorem gA (a b:List Pc) (ha:a.length≤9223372036854775807):HE a b=some (mb (a=b)):=by
 rw [HE,BV,BH]
 by_cases h:((a.length:Nat):Int)=((b.length:Nat):Int)
 · rw [Ac h,ID (v:=false) (P:=fun i y=>b[i]?=some y) ha (fun i y hy=>by
     have hi:i < a.length:=(List.getElem?_eq_some_iff.1 hy).1
     have hb:b[i]?=some b[i]:=List.getElem?_eq_getElem (by omega)
     simp only [KQ]
     rw [hb]
     simp only [Option.bind_some]
     have hs:MY y b[i]=mb (b[i]?=some y):=by
       rw [Bool.eq_iff_iff,BG,hb]
       unfold MY
       simp only [Bool.and_eq_true,MU,beq_iff_eq,Option.some.injEq]
       generalize b[i]=z
       cases y;cases z
       simp only [Pc.mk.injEq]
       grind
     rw [hs,BH,TN,hb]),Hf]
   refine Lh ⟨fun h2=>?_,fun h2 i y hy=>by rw [← h2];exact hy⟩
   apply List.ext_getElem?
   intro i
   by_cases hi:i < a.length
   · rw [List.getElem?_eq_getElem hi,h2 i _ (List.getElem?_eq_getElem hi)]
   · rw [List.getElem?_eq_none (by omega),List.getElem?_eq_none (by omega)]
 · rw [Ab h];exact Hq fun h2=>h (by rw [h2])
def DQ (n f:Nd):Prop:=n.name=f.name∧n.unit=f.unit∧n.n=f.n∧n.fr=f.fr∧n.to=f.to∧n.known=f.known∧n.tab.den=f.tab.den∧n.tab.ps=f.tab.ps
theorem R9 (n f:Nd) (h:n.tab.ps.length≤9223372036854775807):Bx n f=some (mb (DQ n f)):=by
 rw [Bx,gA _ _ h]
 simp only [B8,BV,BH,Option.bind_some,F1]
 rfl
end Mo
end Go.Proofs.YtnijkdknnmgoeaaGreat
namespace Go.Proofs.YtnijkdknnmgoeaaGreat
open AI Go
namespace Mo
set_option maxRecDepth 100000
set_option maxHeartbeats 4000000
theorem Vj {p:Prop} (h:¬ p):mb p=false:=by rw [NJ];exact h
def Out (r:Option (Bool×Int)) (P:Prop) (t:Int):Prop:=∃ z,r=some (mb P,z)∧(P→z=t)
theorem Out.congr {r:Option (Bool×Int)} {P Q:Prop} {t u:Int} (h:Out r P t) (hp:P↔Q) (ht:Q→t=u):Out r Q u:=by
 obtain ⟨z,h1,h2⟩:=h
 exact ⟨z,by rw [h1,Dh hp],fun q=>(h2 (hp.2 q)).trans (ht q)⟩
theorem Ia {Q:Prop} {z u:Int} (h:¬ Q):Out (some (false,z)) Q u:=⟨z,by rw [Vj h],fun q=>absurd q h⟩
theorem Qq {P Q:Prop} {u:Int} (h:P↔Q):Out (some (mb P,u)) Q u:=⟨u,by rw [Dh h],fun _=>rfl⟩
theorem Gb {p Q:Prop} {A:Option (Bool×Int)} {z u:Int} (h:p→Out A Q u) (hq:Q→p):Out (AB p A (some (false,z))) Q u:=by
 by_cases hp:p
 · rw [Ac hp];exact h hp
 · rw [Ab hp];exact Ia fun q=>hp (hq q)
theorem WY {p Q:Prop} {A:Option (Bool×Int)} {z u:Int} (h:¬ p→Out A Q u) (hq:Q→¬ p):Out (AB p (some (false,z)) A) Q u:=by
 by_cases hp:p
 · rw [Ac hp];exact Ia fun q=>hq q hp
 · rw [Ab hp];exact h hp
mutual
def DG:Nd→Nat
 | ⟨_,_,_,_,_,_,_,_,kids,_⟩=>1+GR kids
def GR:List Nd→Nat
 | []=>0
 | k::ks=>DG k+GR ks
end
mutual
def L3:Nd→Nat
 | ⟨_,_,_,_,_,_,_,_,kids,_⟩=>1+ZU kids
def ZU:List Nd→Nat
 | []=>0
 | k::ks=>max (L3 k) (ZU ks)
end
theorem B6 (n:Nd):DG n=1+GR n.kids:=by cases n;rw [DG]
theorem LM (n:Nd):L3 n=1+ZU n.kids:=by cases n;rw [L3]
theorem SM {l:List Nd} {m:Nat}:ZU l≤m↔∀ k∈l,L3 k≤m:=by
 induction l with
 | nil=>simp [ZU]
 | cons a l ih=>simp only [ZU,Nat.max_le,ih,List.mem_cons,forall_eq_or_imp]
theorem EY {l:List Nd} {k:Nd} (h:k∈l):DG k≤GR l:=by
 induction l with
 | nil=>cases h
 | cons a l ih =>
   rw [GR]
   rcases List.mem_cons.1 h with rfl | h
   · omega
   · have:=ih h;omega
theorem FG (l:List Nd):l.length≤GR l:=by
 induction l with
 | nil=>simp [GR]
 | cons a l ih=>rw [GR,B6];simp only [List.length_cons];omega
theorem JQ {n k:Nd} (h:k∈n.kids):DG k < DG n:=by rw [B6 n];have:=EY h;omega
theorem NP {g:Ck→Nd→Int→Option (Bool×Int)} {p:Nd→Prop} {d:Int}:∀ {l:List Nd} {i:Nat} {c:Int},0≤c→c≤2000→(∀ k∈l,∀ c:Int,0≤c→c≤2000→Out (g ⟨c⟩ k d) (p k∧c+DG k≤2000∧d+L3 k≤41) (c+DG k)) →
   Out ((AL (δ:=Int) (ρ:=Bool×Int) (fun _ y (x:Int)=>(g ⟨x⟩ y d).bind fun (y1a,y1b)=>cond y1a (some (.nx y1b)) (some (.rt (false,y1b)))) (fun x=>x) l i c).bind (GQ (fun (w:Int)=>some (true,w)) (fun v=>some v)))
     ((∀ k∈l,p k∧d+L3 k≤41)∧c+GR l≤2000) (c+GR l)
 | [],i,c,h0,h1,_=>⟨c,by rw [BG.2 ⟨fun k hk=>(by cases hk),by simp only [GR];omega⟩];rfl,fun _=>by simp [GR]⟩
 | y::l,i,c,h0,h1,hg=>by
   obtain ⟨z,hz,h2⟩:=hg y (by simp) c h0 h1
   rw [AL,hz]
   simp only [Option.bind_some]
   by_cases hp:p y∧c+DG y≤2000∧d+L3 y≤41
   · rw [BG.2 hp,h2 hp]
     show Out ((AL _ _ l (i+1) (c+DG y)).bind _) _ _
     refine (NP (l:=l) (i:=i+1) (c:=c+DG y) (by omega) hp.2.1 fun k hk=>hg k (by simp [hk])).congr ?_ ?_
     · rw [GR]
       simp only [List.mem_cons,forall_eq_or_imp,Int.natCast_add]
       constructor
       · rintro ⟨a,b⟩;exact ⟨⟨⟨hp.1,hp.2.2⟩,a⟩,by omega⟩
       · rintro ⟨⟨_,a⟩,b⟩;exact ⟨a,by omega⟩
     · intro _;rw [GR];omega
   · rw [Vj hp]
     refine ⟨z,?_,fun q=>?_⟩
     · show some (false,z)=_
       rw [Vj]
       rintro ⟨a,b⟩
       rw [GR] at b
       have:=a y (by simp)
       exact hp ⟨this.1,by omega,this.2⟩
     · exfalso
       obtain ⟨a,b⟩:=q
       rw [GR] at b
       have:=a y (by simp)
       exact hp ⟨this.1,by omega,this.2⟩
theorem Tl (n:Nd) {c d:Int} (h0:0≤c) (h1:c≤2000):Out (BI ⟨c⟩ n d) (c+1≤2000∧d≤40) (c+1):=by
 rw [BI,Ce (by show _≤c+1∧c+1≤_;omega)]
 simp only [Fw,BH,Option.bind_some]
 by_cases h:c+1≤2000
 · rw [Ac h];exact Qq ⟨fun a=>⟨h,a⟩,fun a=>a.2⟩
 · rw [Ab h];exact Ia fun a=>h a.1
def Qh (f:Fn) (i:Nat) (p:Pc):Prop:=p.fr≤999999999999∧(∀ q,0 < i→f.ps[i - 1]?=some q→q.fr < p.fr)∧T4 p.att f.den=some 0∧p.att≤Ub 999999999999 f.den∧Ub (-999999999999) f.den≤p.att∧p.slope≤1000000∧-1000000≤p.slope
def Uc (f:Fn):Prop:=G3 f.den∧(1≤f.ps.length∧f.ps.length≤64)∧(∀ x,f.ps[0]?=some x→x.fr=0)∧∀ (i:Nat) p,f.ps[i]?=some p→Qh f i p
theorem abm (f:Fn) (hl:f.ps.length≤9223372036854775807):Fp f=some (mb (Uc f)):=by
 rw [Fp,P4]
 simp only [Option.bind_some,BH,Di,BV]
 unfold Uc
 by_cases hr:G3 f.den
 rotate_left
 · rw [Ab hr];exact Hq fun h=>hr h.1
 rw [Ac hr]
 by_cases h1:((f.ps.length:Nat):Int) < 1
 · rw [Ac h1];exact Hq fun h=>by omega
 rw [Ab h1]
 by_cases h2:64 < ((f.ps.length:Nat):Int)
 · rw [Ac h2];exact Hq fun h=>by omega
 rw [Ab h2]
 have hx0:f.ps[0]?=some f.ps[0]:=List.getElem?_eq_getElem (by omega)
 rw [hx0]
 simp only [Option.bind_some]
 by_cases h3:f.ps[0].fr=0
 rotate_left
 · rw [Ab h3];exact Hq fun h=>h3 (h.2.2.1 _ rfl)
 rw [Ac h3]
 have hden:f.den≠0:=by unfold G3 at hr;omega
 rw [ID (v:=false) (P:=fun i y=>Qh f i y) hl (fun i y hy=>by
   have hi:i < f.ps.length:=(List.getElem?_eq_some_iff.1 hy).1
   simp only [Ge,Di,BH,Fw,BV]
   have hd:∃ z,T4 y.att f.den=some z:=by unfold T4;rw [if_neg hden];exact ⟨_,rfl⟩
   obtain ⟨z,hz⟩:=hd
   unfold Qh
   rw [hz]
   by_cases h0:(0:Int) < ((i:Nat):Int)
   · rw [Ac h0,MB (by omega)]
     have hq:f.ps[i - 1]?=some f.ps[i - 1]:=List.getElem?_eq_getElem (by omega)
     have hg:CP f.ps (((i:Nat):Int) - 1)=some f.ps[i - 1]:=by
       unfold CP
       rw [show (((i:Nat):Int) - 1).toNat=i - 1 by omega]
       simp only [hq]
       first | rfl | (rw [if_pos (by omega)])
     rw [hg,hq]
     simp only [Option.bind_some,T9,T3,Xs,mX]
     congr 2
     apply propext
     simp only [Option.some.injEq,forall_eq']
     grind
   · rw [Ab h0]
     simp only [Option.bind_some,T9,T3,Xs,mX]
     congr 2
     apply propext
     simp only [Option.some.injEq]
     have:¬ 0 < i:=by omega
     grind),Hf]
 refine Lh ⟨fun h=>⟨hr,by omega,fun x hx=>by cases hx;exact h3,h⟩,fun h=>h.2.2.2⟩
def SW (s:ByteArray):Prop:=s=Kf∨s=Um∨s=IP∨s=I2∨s=Iw∨s=PK∨s=Ix∨s=K5∨s=Pe∨s=PY∨s=U0
def MA (k:Nd):Prop:=k.kind=11∧k.unit=AF∧G3 k.n
def NW (n:Nd):Prop :=
 (n.kind=11∧EB n.unit∧0≤n.n∧n.n≤999999999999∧(n.unit=Ak→n.n≤1)∧n.kids.length=0∧DQ n ⟨0,ByteArray.empty,n.unit,n.n,0,0,0,⟨0,[]⟩,[],0⟩) ∨
 (n.kind=12∧FK n.name∧n.kids.length=0∧DQ n ⟨0,n.name,ByteArray.empty,0,0,0,0,⟨0,[]⟩,[],0⟩) ∨
 (n.kind=13∧G3 n.n∧n.kids.length=0∧DQ n ⟨0,ByteArray.empty,ByteArray.empty,n.n,0,0,0,⟨0,[]⟩,[],0⟩) ∨
 (n.kind=14∧SI n.name∧n.kids.length=0∧DQ n ⟨0,n.name,ByteArray.empty,0,0,0,0,⟨0,[]⟩,[],0⟩) ∨
 (n.kind=15∧n.kids.length=1∧DQ n ⟨0,ByteArray.empty,ByteArray.empty,0,0,0,0,⟨0,[]⟩,[],0⟩) ∨
 (n.kind=16∧DQ n ⟨0,n.name,ByteArray.empty,0,0,0,0,⟨0,[]⟩,[],0⟩∧n.kids.length=2∧SW n.name∧(n.name=Kf→∀ k,n.kids[1]?=some k→MA k)) ∨
 (n.kind=17∧(n.name=Jt∨n.name=Ec)∧DQ n ⟨0,n.name,ByteArray.empty,0,0,0,0,⟨0,[]⟩,[],0⟩∧2≤n.kids.length) ∨
 (n.kind=18∧DQ n ⟨0,ByteArray.empty,ByteArray.empty,0,0,0,0,n.tab,[],0⟩∧Uc n.tab∧n.kids.length=1)
mutual
def Lv:Nd→Prop
 | ⟨kind,name,unit,n,fr,to,known,tab,kids,att⟩=>NW ⟨kind,name,unit,n,fr,to,known,tab,kids,att⟩∧fN kids
def fN:List Nd→Prop
 | []=>True
 | k::ks=>Lv k∧fN ks
end
theorem kI {l:List Nd}:fN l↔∀ k∈l,Lv k:=by
 induction l with
 | nil=>simp [fN]
 | cons k l ih=>simp [fN,ih]
theorem JL (n:Nd):Lv n↔NW n∧∀ k∈n.kids,Lv k:=by cases n;rw [Lv,kI]
end Mo
end Go.Proofs.YtnijkdknnmgoeaaGreat
namespace Go.Proofs.YtnijkdknnmgoeaaGreat
open AI Go
namespace Mo
set_option maxRecDepth 100000
set_option maxHeartbeats 4000000
theorem Tt {β:Type} {p:Prop} {a b:β}:AB p (some a) (some b)=some (AB p a b):=by
 by_cases h:p
 · rw [Ac h,Ac h]
 · rw [Ab h,Ab h]
def NN (l:List Dc) (z:Int):ByteArray:=((CP l z).map (·.unit)).getD ByteArray.empty
noncomputable def Xh (s:ByteArray):Int:=AB (s=EV) 1 (AB (s=Oo) 2 (AB (s=H8) 3 (AB (s=Ks) 4 0)))
noncomputable def dX (t:Tr) (n:Nd):Ex :=
 AB (n.kind=11) ⟨1,n.n,n.unit,⟨0,[]⟩,[]⟩
 (AB (n.kind=12) ⟨2,(t.facts.get n.name).getD 0,NN t.codex.facts ((t.facts.get n.name).getD 0),⟨0,[]⟩,[]⟩
 (AB (n.kind=13) ⟨3,n.n,NN t.codex.lines ((t.Af.get n.n).getD 0),⟨0,[]⟩,[]⟩
 ⟨4,Xh n.name,AF,⟨0,[]⟩,[]⟩))
noncomputable def Wa (s:ByteArray) (u v:ByteArray) (ks:List Ex):Ex :=
 AB (s=IP) ⟨6,0,Ak,⟨0,[]⟩,ks⟩ (AB (s=Um) ⟨7,0,Ak,⟨0,[]⟩,ks⟩ (AB (s=I2) ⟨8,0,Ak,⟨0,[]⟩,ks⟩
 (AB (s=Iw) ⟨5,0,Ak,⟨0,[]⟩,[⟨8,0,Ak,⟨0,[]⟩,ks⟩]⟩ (AB (s=PK) ⟨9,0,Ak,⟨0,[]⟩,ks⟩ (AB (s=Ix) ⟨10,0,Ak,⟨0,[]⟩,ks⟩
 (AB (s=K5) ⟨11,0,u,⟨0,[]⟩,ks⟩ (AB (s=Pe) ⟨12,0,u,⟨0,[]⟩,ks⟩ (AB (s=Kf) ⟨14,0,u,⟨0,[]⟩,ks⟩
 (AB (s=PY) ⟨13,0,AB (u=AF) v u,⟨0,[]⟩,ks⟩ (AB (s=U0) ⟨15,0,v,⟨0,[]⟩,ks⟩ ⟨0,0,Ak,⟨0,[]⟩,ks⟩))))))))))
def unK (ks:List Ex) (i:Nat):ByteArray:=((ks[i]?).map (·.unit)).getD ByteArray.empty
noncomputable def bX (t:Tr) (n:Nd) (ks:List Ex):Ex :=
 AB (n.kind=15) ⟨5,0,Ak,⟨0,[]⟩,ks⟩
 (AB (n.kind=16) (Wa n.name (unK ks 0) (unK ks 1) ks)
 (AB (n.kind=17) (AB (n.name=Ec) ⟨17,0,unK ks 0,⟨0,[]⟩,ks⟩ ⟨16,0,unK ks 0,⟨0,[]⟩,ks⟩)
 (AB (n.kind=18) ⟨18,0,unK ks 0,⟨n.tab.den,n.tab.ps⟩,ks⟩ (dX t n))))
mutual
noncomputable def Kk (t:Tr):Nd→Ex
 | ⟨kind,name,unit,n,fr,to,known,tab,kids,att⟩=>bX t ⟨kind,name,unit,n,fr,to,known,tab,kids,att⟩ (Pq t kids)
noncomputable def Pq (t:Tr):List Nd→List Ex
 | []=>[]
 | k::ks=>Kk t k::Pq t ks
end
theorem WO (t:Tr):∀ l:List Nd,Pq t l=l.map (Kk t)
 | []=>by rw [Pq];rfl
 | k::l=>by rw [Pq,WO t l];rfl
theorem QI (t:Tr) (e:Nd):Kk t e=bX t e (e.kids.map (Kk t)):=by cases e;rw [Kk,WO]
mutual
def Md (t:Tr):Nd→Prop
 | ⟨kind,name,_,n,_,_,_,tab,kids,_⟩=>(kind=16→2≤kids.length)∧(kind=17∨kind=18→1≤kids.length)∧(kind=12→(CP t.codex.facts ((t.facts.get name).getD 0)).isSome=true)∧(kind=13→(CP t.codex.lines ((t.Af.get n).getD 0)).isSome=true)∧(kind=18→tab.ps.length≤100000000)∧LZ t kids
def LZ (t:Tr):List Nd→Prop
 | []=>True
 | k::ks=>Md t k∧LZ t ks
end
theorem Ym {t:Tr} {l:List Nd}:LZ t l↔∀ k∈l,Md t k:=by
 induction l with
 | nil=>simp [LZ]
 | cons k l ih=>simp [LZ,ih]
theorem UA (t:Tr) (e:Nd):Md t e↔(e.kind=16→2≤e.kids.length)∧(e.kind=17∨e.kind=18→1≤e.kids.length)∧(e.kind=12→(CP t.codex.facts ((t.facts.get e.name).getD 0)).isSome=true)∧(e.kind=13→(CP t.codex.lines ((t.Af.get e.n).getD 0)).isSome=true)∧(e.kind=18→e.tab.ps.length≤100000000)∧∀ k∈e.kids,Md t k:=by
 cases e;rw [Md,Ym]
theorem abL {t:Tr} {n:Nd} (h2:n.kind=12→(CP t.codex.facts ((t.facts.get n.name).getD 0)).isSome=true) (h3:n.kind=13→(CP t.codex.lines ((t.Af.get n.n).getD 0)).isSome=true):Dw t n=some (dX t n):=by
 rw [Dw,dX]
 simp only [HN,Nc]
 by_cases k1:n.kind=11
 · rw [Ac k1,Ac k1]
 rw [Ab k1,Ab k1]
 by_cases k2:n.kind=12
 · rw [Ac k2,Ac k2]
   obtain ⟨x,hx⟩:=Option.isSome_iff_exists.1 (h2 k2)
   rw [hx,Option.bind_some,NN,hx]
   rfl
 rw [Ab k2,Ab k2]
 by_cases k3:n.kind=13
 · rw [Ac k3,Ac k3]
   obtain ⟨x,hx⟩:=Option.isSome_iff_exists.1 (h3 k3)
   rw [hx,Option.bind_some,NN,hx]
   rfl
 rw [Ab k3,Ab k3,Xh]
 by_cases k4:n.name=EV
 · rw [Ac k4,Ac k4]
 rw [Ab k4,Ab k4]
 by_cases k5:n.name=Oo
 · rw [Ac k5,Ac k5]
 rw [Ab k5,Ab k5]
 by_cases k6:n.name=H8
 · rw [Ac k6,Ac k6]
 rw [Ab k6,Ab k6]
 by_cases k7:n.name=Ks
 · rw [Ac k7,Ac k7]
 rw [Ab k7,Ab k7]
theorem acU (u v:ByteArray):CG u v=some (AB (u=AF) v u):=by
 rw [CG,Nc,Tt]
theorem nR {q:Nat} {t:Tr} {n:Nd} {f:Nd→Ex} (hf:∀ k∈n.kids,AT q t k=some (f k)) (hl:n.kids.length≤100000):A1 (q+1) t n=some (n.kids.map f):=by
 rw [A1,EF,K2]
 refine FA (fun i x=>x=(n.kids.take i).map f) (by omega) (by simp) (fun i y x hy hI=>?_) (fun x hI=>?_)
 · have hmem:=List.mem_of_getElem? hy
   have hi:=(List.getElem?_eq_some_iff.1 hy).1
   rw [El,hf y hmem,Option.bind_some,G9 (by rw [hI,List.length_map,List.length_take];omega),Bm,F0,List.take_add_one,hy,hI]
   simp
 · rw [hI,List.take_length,Bm]
theorem acx (t:Tr):∀ (m q:Nat) (e:Nd),DG e≤m→3*m≤q→DG e≤100000→Md t e→AT q t e=some (Kk t e):=by
 intro m
 induction m with
 | zero=>intro q e h;have:=B6 e;omega
 | succ m ih =>
   intro q e hm hq hz hs
   obtain ⟨s1,s2,s3,s4,s5,s6⟩:=(UA t e).1 hs
   have he:=B6 e
   have hl:=FG e.kids
   obtain ⟨q,rfl⟩:∃ p,q=p+3:=⟨q - 3,by omega⟩
   have hk:A1 (q+1) t e=some (e.kids.map (Kk t)):=nR (fun k hk=>by
     have:=JQ hk
     exact ih q k (by omega) (by omega) (by omega) (s6 k hk)) (by omega)
   rw [AT,EK,QI,bX]
   simp only [HN]
   have hlen:(e.kids.map (Kk t)).length=e.kids.length:=List.length_map _
   generalize e.kids.map (Kk t)=ks at hk hlen
   by_cases k1:e.kind=15
   · rw [Ac k1,Ac k1,Ba,E1,hk]
     rfl
   rw [Ab k1,Ab k1]
   by_cases k2:e.kind=16
   · rw [Ac k2,Ac k2,A3,D3,hk]
     have h2:=s1 k2
     match ks,hlen with
     | [],hlen=>simp at hlen;omega
     | [_],hlen=>simp at hlen;omega
     | a::b::l,_ =>
       simp only [Option.bind_some,List.getElem?_cons_zero,List.getElem?_cons_succ,Nc,acU,Tt]
       rfl
   rw [Ab k2,Ab k2]
   by_cases k3:e.kind=17
   · rw [Ac k3,Ac k3,A7,EJ,hk]
     have h2:=s2 (.inl k3)
     match ks,hlen with
     | [],hlen=>simp at hlen;omega
     | a::l,_ =>
       simp only [Option.bind_some,List.getElem?_cons_zero,Nc,Tt]
       rfl
   rw [Ab k3,Ab k3]
   by_cases k4:e.kind=18
   · rw [Ac k4,Ac k4,A6,Eh,hk]
     have h2:=s2 (.inr k4)
     match ks,hlen with
     | [],hlen=>simp at hlen;omega
     | a::l,_ =>
       rw [KH,G9 (by simpa using s5 k4)]
       simp only [Option.bind_some,List.getElem?_cons_zero]
       rfl
   rw [Ab k4,Ab k4,abL s3 s4]
   rfl
theorem acv {t:Tr} {e:Nd} (hz:DG e≤100000) (hs:Md t e):Gu t e=some (Kk t e) :=
 Jw (3*DG e) fun q hq=>acx t (DG e) q e (Nat.le_refl _) hq hz hs
end Mo
end Go.Proofs.YtnijkdknnmgoeaaGreat
namespace Go.Proofs.YtnijkdknnmgoeaaGreat
open AI Go
namespace Mo
set_option maxRecDepth 100000
set_option maxHeartbeats 4000000
mutual
def LS:Ex→Nat
 | ⟨_,_,_,_,kids⟩=>1+IB kids
def IB:List Ex→Nat
 | []=>0
 | k::ks=>LS k+IB ks
end
mutual
def U1:Ex→Nat
 | ⟨_,_,_,_,kids⟩=>MS kids+1
def MS:List Ex→Nat
 | []=>0
 | k::ks=>max (U1 k) (MS ks)
end
theorem O2 (e:Ex):LS e=1+IB e.kids:=by cases e;rw [LS]
theorem wL (e:Ex):U1 e=MS e.kids+1:=by cases e;rw [U1]
theorem Xq (l m:List Ex):IB (l++m)=IB l+IB m:=by
 induction l with
 | nil=>simp [IB]
 | cons k l ih=>simp only [List.cons_append,IB,ih];omega
theorem jD (l m:List Ex):MS (l++m)=max (MS l) (MS m):=by
 induction l with
 | nil=>simp [MS]
 | cons k l ih=>simp only [List.cons_append,MS,ih];omega
theorem TH {l:List Ex} {k:Ex} (h:k∈l):LS k≤IB l:=by
 induction l with
 | nil=>cases h
 | cons a l ih =>
   rw [IB]
   rcases List.mem_cons.1 h with rfl | h
   · omega
   · have:=ih h;omega
theorem cR {l:List Ex} {i:Nat} {y:Ex} (h:l[i]?=some y):IB (l.take (i+1))=IB (l.take i)+LS y:=by
 rw [List.take_add_one,h,Xq];simp [IB]
theorem cC {l:List Ex} {i:Nat} {y:Ex} (h:l[i]?=some y):MS (l.take (i+1))=max (MS (l.take i)) (U1 y):=by
 rw [List.take_add_one,h,jD];simp [MS]
theorem cD (l:List Ex) (i:Nat):IB (l.take i)≤IB l:=by
 have:=Xq (l.take i) (l.drop i)
 rw [List.take_append_drop] at this
 omega
theorem SO (l:List Ex):l.length≤IB l:=by
 induction l with
 | nil=>exact Nat.le_refl _
 | cons k l ih=>have:=O2 k;rw [IB,List.length_cons];omega
mutual
theorem iW:∀ e:Ex,U1 e≤LS e
 | ⟨_,_,_,_,kids⟩=>by rw [U1,LS];have:=QX kids;omega
theorem QX:∀ l:List Ex,MS l≤IB l
 | []=>by rw [MS,IB];exact Nat.le_refl _
 | k::l=>by rw [MS,IB];have:=iW k;have:=QX l;omega
end
theorem bK:∀ (q:Nat) (e:Ex),LS e≤q→LS e≤1000000→DX q e=some (((LS e:Nat):Int),((U1 e:Nat):Int)):=by
 intro q
 induction q with
 | zero=>intro e h;have:=O2 e;omega
 | succ q ih =>
   intro e hq hz
   have he:=O2 e
   have hl:=SO e.kids
   rw [DX,Is,K2]
   refine FA (fun i x=>x=(((1+IB (e.kids.take i):Nat):Int),((MS (e.kids.take i):Nat):Int))) (by omega) (by simp [IB,MS]) (fun i y x hy hI=>?_) (fun x hI=>?_)
   · have hmem:=List.mem_of_getElem? hy
     have hm:=TH hmem
     have h1:=cR hy
     have h2:=cC hy
     have h3:=cD e.kids (i+1)
     rw [HJ,ih y (by omega) (by omega)]
     simp only [Option.bind_some,Bm,F0,hI]
     rw [Ce (by omega),h1,h2]
     unfold acX
     refine Prod.ext ?_ ?_
     · show _+_=_;omega
     · show (if _ then _ else _)=_
       split<;>omega
   · have h3:=QX e.kids
     rw [hI,List.take_length]
     simp only [Bm]
     rw [Ce (by omega),he,wL]
     refine Prod.ext rfl ?_
     show _+_=_;omega
theorem bM {e:Ex} (hz:LS e≤1000000):Kg e=some (((LS e:Nat):Int),((U1 e:Nat):Int)) :=
 Jw (LS e) fun q hq=>bK q e hq hz
noncomputable def Ga (t:Tr) (s:List Dg×List Int×List Ex×Ex) (e:Nd):List Dg×List Int×List Ex×Ex :=
 AB (e.kind=7) (s.1,s.2.1++e.kids.map (·.n),s.2.2)
 (AB (e.kind=6)
   (AB (400 < LS (Kk t (e.kids.headD e))∨40 < U1 (Kk t (e.kids.headD e))) (s.1++[⟨2,e.att⟩]) s.1,s.2.1,s.2.2.1++[Kk t (e.kids.headD e)],s.2.2.2)
   (AB (400 < LS (Kk t (e.kids.headD e))∨40 < U1 (Kk t (e.kids.headD e))) (s.1++[⟨2,e.att⟩]) s.1,s.2.1,s.2.2.1,Kk t (e.kids.headD e)))
noncomputable def D8 (t:Tr) (l:List Nd):List Dg×List Int×List Ex×Ex:=l.foldl (Ga t) ([],[],[],⟨0,0,ByteArray.empty,⟨0,[]⟩,[]⟩)
noncomputable def Pr (t:Tr) (item:Nd):Ar :=
 ⟨item.n,(t.lines.get item.name).getD 0,(item.kids.headD item).n,(item.kids.headD item).fr,(item.kids.headD item).to,(item.kids.headD item).known,
  (D8 t item.kids.tail).2.2.1,(D8 t item.kids.tail).2.1,(D8 t item.kids.tail).2.2.2⟩
end Mo
end Go.Proofs.YtnijkdknnmgoeaaGreat
namespace Go.Proofs.YtnijkdknnmgoeaaGreat
open AI Go
namespace Mo
set_option maxRecDepth 100000
set_option maxHeartbeats 4000000
theorem Xe (l m:List Nd):GR (l++m)=GR l+GR m:=by
 induction l with
 | nil=>simp [GR]
 | cons k l ih=>simp only [List.cons_append,GR,ih];omega
theorem Vd {l:List Nd} {i:Nat} {y:Nd} (h:l[i]?=some y):GR (l.take (i+1))=GR (l.take i)+DG y:=by
 rw [List.take_add_one,h,Xe];simp [GR]
theorem Vg (l:List Nd) (i:Nat):GR (l.take i)≤GR l:=by
 have:=Xe (l.take i) (l.drop i)
 rw [List.take_append_drop] at this
 omega
theorem uK {p:Prop} {f:Ex→Nat} {a b:Ex} {m:Nat} (ha:f a≤m) (hb:f b≤m):f (AB p a b)≤m:=by
 by_cases h:p
 · rw [Ac h];exact ha
 · rw [Ab h];exact hb
theorem vR (t:Tr) (n:Nd) (ks:List Ex):LS (bX t n ks)≤2+IB ks:=by
 unfold bX Wa dX
 repeat' apply uK (f:=LS)
 all_goals simp only [LS,IB]
 all_goals omega
mutual
theorem X2 (t:Tr):∀ e:Nd,LS (Kk t e)≤2*DG e
 | ⟨kind,name,unit,n,fr,to,known,tab,kids,att⟩=>by
   have h:=ZY t kids
   rw [Kk,DG]
   have:=vR t ⟨kind,name,unit,n,fr,to,known,tab,kids,att⟩ (Pq t kids)
   omega
theorem ZY (t:Tr):∀ l:List Nd,IB (Pq t l)≤2*GR l
 | []=>by rw [Pq,IB,GR];exact Nat.le_refl _
 | k::l=>by
   have h:=X2 t k
   have h2:=ZY t l
   rw [Pq,IB,GR]
   omega
end
def Zq (s:List Dg×List Int×List Ex×Ex):List Dg×List Int×List Ex×Int×Int×ByteArray×Int×List Pc×List Ex:=(s.1,s.2.1,s.2.2.1,s.2.2.2.op,s.2.2.2.n,s.2.2.2.unit,s.2.2.2.tab.den,s.2.2.2.tab.ps,s.2.2.2.kids)
theorem Iq {α β:Type} (f:β→α→β) (b:β) {l:List α} {i:Nat} {y:α} (h:l[i]?=some y):(l.take (i+1)).foldl f b=f ((l.take i).foldl f b) y:=by
 rw [List.take_add_one,h,List.foldl_append];rfl
def aJ (t:Tr) (item:Nd):Prop:=item.kids≠[]∧∀ e∈item.kids.tail,e.kind≠7→∃ k,e.kids[0]?=some k∧Md t k
theorem acQ {t:Tr} {item:Nd} (hz:DG item≤100000) (hs:aJ t item) (ha:t.codex.arts.length≤1000000):C1 t item=some ((D8 t item.kids.tail).1,t.codex.arts++[Pr t item]):=by
 obtain ⟨hne,hs⟩:=hs
 have hsz:=B6 item
 rw [C1,K2]
 unfold Pr
 cases hk:item.kids with
 | nil=>exact absurd hk hne
 | cons a l =>
   rw [hk] at hs hsz
   rw [GR] at hsz
   simp only [List.tail_cons] at hs
   have hll:=FG l
   have hsub:Jv (a::l) 1 (((a::l).length:Nat):Int)=some l:=by
     unfold Jv
     rw [if_pos ⟨by omega,by simp only [List.length_cons];omega,by omega⟩]
     simp only [List.length_cons]
     rw [show (1:Int).toNat=1 from rfl,List.drop_one,List.tail_cons,List.take_of_length_le (by omega)]
   rw [List.getElem?_cons_zero,hsub]
   simp only [Option.bind_some,List.tail_cons,List.headD_cons]
   refine FA (fun i x=>∃ s,s=(l.take i).foldl (Ga t) ([],[],[],⟨0,0,ByteArray.empty,⟨0,[]⟩,[]⟩)∧x=Zq s∧s.1.length≤i∧s.2.2.1.length≤i∧s.2.1.length≤GR (l.take i)) (by omega) ⟨_,rfl,rfl,by simp,by simp,by simp⟩ (fun i y x hy hI=>?_) (fun x hI=>?_)
   · obtain ⟨s,hs0,rfl,n1,n2,n3⟩:=hI
     have hmem:=List.mem_of_getElem? hy
     have hi:=(List.getElem?_eq_some_iff.1 hy).1
     have hst:=Vd hy
     have htk:=Vg l (i+1)
     have hyz:=B6 y
     have hyl:=FG y.kids
     have hfold:=Iq (Ga t) ([],[],[],⟨0,0,ByteArray.empty,⟨0,[]⟩,[]⟩) hy
     rw [← hs0] at hfold
     obtain ⟨d,u,w,am⟩:=s
     simp only [Zq] at n1 n2 n3 ⊢
     rw [DB]
     simp only [HN,Xo]
     by_cases k7:y.kind=7
     · rw [Ac k7]
       refine FA (fun j x=>x=u++(y.kids.take j).map (·.n)) (by omega) (by simp) (fun j z x hz2 hJ=>?_) (fun x hJ=>?_)
       · have hj:=(List.getElem?_eq_some_iff.1 hz2).1
         rw [DD,G9 (by rw [hJ,List.length_append,List.length_map,List.length_take];omega),Bm,F0,hJ,List.take_add_one,hz2]
         simp
       · rw [hJ,List.take_length,Bm,F0]
         have hc:Ga t (d,u,w,am) y=(d,u++y.kids.map (·.n),w,am):=by rw [Ga,Ac k7]
         rw [hc] at hfold
         exact ⟨_,hfold.symm,rfl,by simp only;omega,by simp only;omega,by simp only [List.length_append,List.length_map];omega⟩
     · rw [Ab k7]
       obtain ⟨k,hk0,hsane⟩:=hs y hmem k7
       have hkm:=List.mem_of_getElem? hk0
       have hkz:=EY hkm
       have hx:=X2 t k
       have hhd:y.kids.headD y=k:=by
         cases hyk:y.kids with
         | nil=>rw [hyk] at hk0;cases hk0
         | cons b m=>rw [hyk,List.getElem?_cons_zero] at hk0;cases hk0;rfl
       rw [hk0]
       simp only [Option.bind_some]
       rw [acv (by omega) hsane]
       simp only [Option.bind_some]
       rw [bM (by omega)]
       simp only [Option.bind_some]
       have hc:Ga t (d,u,w,am) y=(AB (y.kind=6)
   (AB (400 < LS (Kk t k)∨40 < U1 (Kk t k)) (d++[⟨2,y.att⟩]) d,u,w++[Kk t k],am)
   (AB (400 < LS (Kk t k)∨40 < U1 (Kk t k)) (d++[⟨2,y.att⟩]) d,u,w,Kk t k)):=by rw [Ga,Ab k7,hhd]
       rw [hc] at hfold
       generalize Kk t k=e at *
       have fin:∀ (Qx:List Dg×List Int×List Ex×Int×Int×ByteArray×Int×List Pc×List Ex→Prop) (Qr:List Dg×List Ar→Prop) (d2:List Dg),d2.length≤i+1→(AB (400 < LS e∨40 < U1 e) (d++[⟨2,y.att⟩]) d)=d2→Sp (AB (y.kind=6) (Lt (w.length+1) (some (Lp.nx (d2,u,w++[e],am.op,am.n,am.unit,am.tab.den,am.tab.ps,am.kids)))) (some (.nx (d2,u,w,e.op,e.n,e.unit,e.tab.den,e.tab.ps,e.kids)))) (RQ (fun x=>∃ s,s=(l.take (i+1)).foldl (Ga t) ([],[],[],⟨0,0,ByteArray.empty,⟨0,[]⟩,[]⟩)∧x=Zq s∧s.1.length≤i+1∧s.2.2.1.length≤i+1∧s.2.1.length≤GR (l.take (i+1))) Qx Qr):=by
         intro Qx Qr d2 hd2 hde
         rw [hde] at hfold
         by_cases k6:y.kind=6
         · rw [Ac k6] at hfold ⊢
           rw [G9 (by omega),Bm,F0]
           exact ⟨_,hfold.symm,rfl,by simp only;omega,by simp only [List.length_append,List.length_singleton];omega,by simp only;omega⟩
         · rw [Ab k6] at hfold ⊢
           rw [Bm,F0]
           exact ⟨_,hfold.symm,rfl,by simp only;omega,by simp only;omega,by simp only;omega⟩
       by_cases k4:(400:Int) < ((LS e:Nat):Int)
       · rw [Ac k4,G9 (by omega)]
         exact fin _ _ _ (by simp only [List.length_append,List.length_singleton];omega) (Ac (.inl (by omega)))
       · rw [Ab k4]
         by_cases k5:(40:Int) < ((U1 e:Nat):Int)
         · rw [Ac k5,G9 (by omega)]
           exact fin _ _ _ (by simp only [List.length_append,List.length_singleton];omega) (Ac (.inr (by omega)))
         · rw [Ab k5]
           exact fin _ _ _ (by omega) (Ab (by omega))
   · obtain ⟨s,hs0,rfl,n1,n2,n3⟩:=hI
     rw [List.take_length] at hs0
     simp only [Zq]
     rw [G9 (by omega),Bm,show D8 t l=s from hs0.symm]
     obtain ⟨d,u,w,op,n,unit,⟨den,ps⟩,kids⟩:=s
     rfl
end Mo
end Go.Proofs.YtnijkdknnmgoeaaGreat
namespace Go.Proofs.YtnijkdknnmgoeaaGreat
open AI Go
namespace Mo
set_option maxRecDepth 100000
set_option maxHeartbeats 4000000
noncomputable def P6 (s:List Dc×Mm ByteArray Int×List Dc×Mm ByteArray Int) (e:Nd):List Dc×Mm ByteArray Int×List Dc×Mm ByteArray Int :=
 AB (e.kind=2) (s.1++[⟨e.name,e.unit,0⟩],s.2.1.set e.name ((s.1.length:Nat):Int),s.2.2.1,s.2.2.2)
 (AB (e.kind=3) (s.1,s.2.1,s.2.2.1++[⟨e.name,e.unit,e.n⟩],s.2.2.2.set e.name ((s.2.2.1.length:Nat):Int)) s)
noncomputable def FJ (l:List Nd):List Dc×Mm ByteArray Int×List Dc×Mm ByteArray Int:=l.foldl P6 ([],Mm.nil,[],Mm.nil)
noncomputable def na1 (lm:Mm ByteArray Int) (m:Mm Int Int) (e:Nd):Mm Int Int:=AB (e.kind=4) (m.set e.n ((lm.get e.name).getD 0)) m
noncomputable def Vk (lm:Mm ByteArray Int) (l:List Nd):Mm Int Int:=l.foldl (na1 lm) Mm.nil
noncomputable def Fj (l:List Nd):Tr:=⟨⟨(FJ l).1,(FJ l).2.2.1,[]⟩,(FJ l).2.1,(FJ l).2.2.2,Vk (FJ l).2.2.2 l⟩
theorem vT {src:Nd} (hl:src.kids.length≤100000):D7 src=some ((FJ src.kids).1,(FJ src.kids).2.2.1,(FJ src.kids).2.1,(FJ src.kids).2.2.2,Vk (FJ src.kids).2.2.2 src.kids):=by
 rw [D7,K2]
 refine FA (fun i x=>x=(src.kids.take i).foldl P6 ([],Mm.nil,[],Mm.nil)∧x.1.length≤i∧x.2.2.1.length≤i) (by omega) ⟨rfl,by simp,by simp⟩ (fun i y x hy hI=>?_) (fun x hI=>?_)
 · obtain ⟨h0,n1,n2⟩:=hI
   have hi:=(List.getElem?_eq_some_iff.1 hy).1
   have hf:=Iq P6 ([],Mm.nil,[],Mm.nil) hy
   rw [← h0] at hf
   obtain ⟨f,fm,l,lm⟩:=x
   simp only at n1 n2 ⊢
   rw [E2]
   simp only [HN]
   rw [P6] at hf
   simp only at hf
   by_cases k2:y.kind=2
   · rw [Ac k2] at hf ⊢
     rw [G9 (by omega),Bm,F0]
     exact ⟨hf.symm,by simp only [List.length_append,List.length_singleton];omega,by simp only;omega⟩
   rw [Ab k2] at hf ⊢
   by_cases k3:y.kind=3
   · rw [Ac k3] at hf ⊢
     rw [G9 (by omega),Bm,F0]
     exact ⟨hf.symm,by simp only;omega,by simp only [List.length_append,List.length_singleton];omega⟩
   rw [Ab k3] at hf ⊢
   rw [Bm,F0]
   exact ⟨hf.symm,by simp only;omega,by simp only;omega⟩
 · obtain ⟨h0,n1,n2⟩:=hI
   rw [List.take_length] at h0
   have h0:x=FJ src.kids:=h0
   subst h0
   simp only
   generalize FJ src.kids=s
   refine FA (fun i x=>x=(src.kids.take i).foldl (na1 s.2.2.2) Mm.nil) (by omega) rfl (fun i y x hy hI=>?_) (fun x hI=>?_)
   · have hf:=Iq (na1 s.2.2.2) Mm.nil hy
     rw [← hI,na1] at hf
     rw [EZ]
     simp only [HN]
     by_cases k4:y.kind=4
     · rw [Ac k4] at hf ⊢
       rw [Bm,F0];exact hf.symm
     · rw [Ab k4] at hf ⊢
       rw [Bm,F0];exact hf.symm
   · rw [List.take_length] at hI
     subst hI
     rw [Bm];rfl
mutual
def fC (t u:Tr):Nd→Prop
 | ⟨kind,_,_,n,_,_,_,_,kids,_⟩=>(kind=13→t.Af.get n=u.Af.get n)∧Vm t u kids
def Vm (t u:Tr):List Nd→Prop
 | []=>True
 | k::ks=>fC t u k∧Vm t u ks
end
mutual
theorem Tu {t u:Tr} (h:t.Af=u.Af):∀ e:Nd,fC t u e
 | ⟨_,_,_,_,_,_,_,_,kids,_⟩=>by rw [fC];exact ⟨fun _=>by rw [h],UG h kids⟩
theorem UG {t u:Tr} (h:t.Af=u.Af):∀ l:List Nd,Vm t u l
 | []=>by rw [Vm];trivial
 | k::l=>by rw [Vm];exact ⟨Tu h k,UG h l⟩
end
theorem bW {t u:Tr} (hf:t.codex.facts=u.codex.facts) (hl:t.codex.lines=u.codex.lines) (hm:t.facts=u.facts) {n:Nd} (h:n.kind=13→t.Af.get n.n=u.Af.get n.n) (ks:List Ex):bX t n ks=bX u n ks:=by
 unfold bX dX
 rw [hf,hl,hm]
 by_cases k:n.kind=13
 · rw [h k]
 · simp only [Ab k]
mutual
theorem Us {t u:Tr} (hf:t.codex.facts=u.codex.facts) (hl:t.codex.lines=u.codex.lines) (hm:t.facts=u.facts):∀ e:Nd,fC t u e→Kk t e=Kk u e
 | ⟨kind,name,unit,n,fr,to,known,tab,kids,att⟩=>fun h=>by
   rw [fC] at h
   rw [Kk,Kk,Sv hf hl hm kids h.2]
   exact bW hf hl hm h.1 _
theorem Sv {t u:Tr} (hf:t.codex.facts=u.codex.facts) (hl:t.codex.lines=u.codex.lines) (hm:t.facts=u.facts):∀ l:List Nd,Vm t u l→Pq t l=Pq u l
 | []=>fun _=>by rw [Pq,Pq]
 | k::l=>fun h=>by
   rw [Vm] at h
   rw [Pq,Pq,Us hf hl hm k h.1,Sv hf hl hm l h.2]
end
mutual
theorem Rf {t u:Tr} (hf:t.codex.facts=u.codex.facts) (hl:t.codex.lines=u.codex.lines) (hm:t.facts=u.facts):∀ e:Nd,fC t u e→Md t e→Md u e
 | ⟨kind,name,unit,n,fr,to,known,tab,kids,att⟩=>fun h=>by
   rw [fC] at h
   rw [Md,Md,hf,hl,hm]
   rintro ⟨s1,s2,s3,s4,s5,s6⟩
   exact ⟨s1,s2,s3,fun k=>by rw [← h.1 k];exact s4 k,s5,PP hf hl hm kids h.2 s6⟩
theorem PP {t u:Tr} (hf:t.codex.facts=u.codex.facts) (hl:t.codex.lines=u.codex.lines) (hm:t.facts=u.facts):∀ l:List Nd,Vm t u l→LZ t l→LZ u l
 | []=>fun _ _=>by rw [LZ];trivial
 | k::l=>fun h=>by
   rw [Vm] at h
   rw [LZ,LZ]
   exact fun s=>⟨Rf hf hl hm k h.1 s.1,PP hf hl hm l h.2 s.2⟩
end
end Mo
end Go.Proofs.YtnijkdknnmgoeaaGreat
namespace Go.Proofs.YtnijkdknnmgoeaaGreat
open AI Go
namespace Mo
set_option maxRecDepth 100000
set_option maxHeartbeats 4000000
theorem Rc {t u:Tr} (hf:t.codex.facts=u.codex.facts) (hl:t.codex.lines=u.codex.lines) (hm:t.facts=u.facts) {l:List Nd} (h:∀ e∈l,fC t u (e.kids.headD e)):D8 t l=D8 u l:=by
 unfold D8
 generalize (([],[],[],⟨0,0,ByteArray.empty,⟨0,[]⟩,[]⟩):List Dg×List Int×List Ex×Ex)=s
 induction l generalizing s with
 | nil=>rfl
 | cons k l ih =>
   rw [List.foldl_cons,List.foldl_cons,show Ga t s k=Ga u s k by unfold Ga;rw [Us hf hl hm _ (h k (by simp))]]
   exact ih (fun e he=>h e (by simp [he])) _
theorem dC {t u:Tr} (hf:t.codex.facts=u.codex.facts) (hl:t.codex.lines=u.codex.lines) (hm:t.facts=u.facts) (hn:t.lines=u.lines) {it:Nd} (h:∀ e∈it.kids.tail,fC t u (e.kids.headD e)):Pr t it=Pr u it:=by
 unfold Pr
 rw [Rc hf hl hm h,hn]
theorem cA (t:Tr) (l:List Nd):(D8 t l).1.length≤l.length:=by
 unfold D8
 have:∀ (s:List Dg×List Int×List Ex×Ex),(l.foldl (Ga t) s).1.length≤s.1.length+l.length:=by
   induction l with
   | nil=>intro s;exact Nat.le_refl _
   | cons k l ih =>
     intro s
     rw [List.foldl_cons]
     have h1:=ih (Ga t s k)
     have h2:(Ga t s k).1.length≤s.1.length+1:=by
       have hh:∀ p:Prop,(AB p (s.1++[(⟨2,k.att⟩:Dg)]) s.1).length≤s.1.length+1:=fun p=>by
         by_cases h:p
         · rw [Ac h];simp
         · rw [Ab h];omega
       unfold Ga
       by_cases k7:k.kind=7
       · rw [Ac k7];exact Nat.le_succ _
       rw [Ab k7]
       by_cases k6:k.kind=6
       · rw [Ac k6];exact hh _
       · rw [Ab k6];exact hh _
     rw [List.length_cons]
     omega
 have:=this ([],[],[],⟨0,0,ByteArray.empty,⟨0,[]⟩,[]⟩)
 simpa using this
noncomputable def b1 (t:Tr) (s:List Dg×List Ar) (e:Nd):List Dg×List Ar:=AB (e.kind=4) (s.1++(D8 t e.kids.tail).1,s.2++[Pr t e]) s
noncomputable def Ls (t:Tr) (l:List Nd):List Dg×List Ar:=l.foldl (b1 t) ([],[])
theorem oD {src:Nd} (hk:src.kind=1) (hv:DO src=some true) (hc:GU src=some []) (hz:DG src≤100000) (hs:∀ it∈src.kids,it.kind=4→aJ (Fj src.kids) it) :
   DK src=some (AB ((Ls (Fj src.kids) src.kids).1=[]) (⟨(Fj src.kids).codex.facts,(Fj src.kids).codex.lines,(Ls (Fj src.kids) src.kids).2⟩,[]) (⟨[],[],[]⟩,(Ls (Fj src.kids) src.kids).1.take 20)):=by
 have hsz:=B6 src
 have hll:=FG src.kids
 rw [DK,K2]
 simp only [HN]
 rw [Ac hk,hv]
 simp only [Option.bind_some,cond_true]
 rw [hc]
 simp only [Option.bind_some,Xo]
 rw [Ab (by simp),vT (by omega)]
 simp only [Option.bind_some]
 refine FA (fun i x=>x=(src.kids.take i).foldl (b1 (Fj src.kids)) ([],[])∧x.1.length≤GR (src.kids.take i)∧x.2.length≤i) (by omega) ⟨rfl,by simp,by simp⟩ (fun i y x hy hI=>?_) (fun x hI=>?_)
 · obtain ⟨h0,n1,n2⟩:=hI
   have hmem:=List.mem_of_getElem? hy
   have hi:=(List.getElem?_eq_some_iff.1 hy).1
   have hst:=Vd hy
   have htk:=Vg src.kids (i+1)
   have hyz:=B6 y
   have hyl:=FG y.kids
   have hf:=Iq (b1 (Fj src.kids)) ([],[]) hy
   rw [← h0,b1] at hf
   obtain ⟨d,a⟩:=x
   simp only at n1 n2 hf ⊢
   rw [Ja]
   simp only [HN]
   by_cases k4:y.kind=4
   · rw [Ac k4] at hf ⊢
     have hsa:=hs y hmem k4
     have hA:∀ e,fC ⟨⟨(FJ src.kids).1,(FJ src.kids).2.2.1,a⟩,(FJ src.kids).2.1,(FJ src.kids).2.2.2,Vk (FJ src.kids).2.2.2 src.kids⟩ (Fj src.kids) e:=fun e=>Tu (t:=⟨⟨(FJ src.kids).1,(FJ src.kids).2.2.1,a⟩,(FJ src.kids).2.1,(FJ src.kids).2.2.2,Vk (FJ src.kids).2.2.2 src.kids⟩) (u:=Fj src.kids) rfl e
     have hB:∀ e,fC (Fj src.kids) ⟨⟨(FJ src.kids).1,(FJ src.kids).2.2.1,a⟩,(FJ src.kids).2.1,(FJ src.kids).2.2.2,Vk (FJ src.kids).2.2.2 src.kids⟩ e:=fun e=>Tu (u:=⟨⟨(FJ src.kids).1,(FJ src.kids).2.2.1,a⟩,(FJ src.kids).2.1,(FJ src.kids).2.2.2,Vk (FJ src.kids).2.2.2 src.kids⟩) (t:=Fj src.kids) rfl e
     have e1:D8 ⟨⟨(FJ src.kids).1,(FJ src.kids).2.2.1,a⟩,(FJ src.kids).2.1,(FJ src.kids).2.2.2,Vk (FJ src.kids).2.2.2 src.kids⟩ y.kids.tail=D8 (Fj src.kids) y.kids.tail:=Rc (t:=⟨⟨(FJ src.kids).1,(FJ src.kids).2.2.1,a⟩,(FJ src.kids).2.1,(FJ src.kids).2.2.2,Vk (FJ src.kids).2.2.2 src.kids⟩) (u:=Fj src.kids) rfl rfl rfl (fun e _=>hA _)
     have e2:Pr ⟨⟨(FJ src.kids).1,(FJ src.kids).2.2.1,a⟩,(FJ src.kids).2.1,(FJ src.kids).2.2.2,Vk (FJ src.kids).2.2.2 src.kids⟩ y=Pr (Fj src.kids) y:=dC (t:=⟨⟨(FJ src.kids).1,(FJ src.kids).2.2.1,a⟩,(FJ src.kids).2.1,(FJ src.kids).2.2.2,Vk (FJ src.kids).2.2.2 src.kids⟩) (u:=Fj src.kids) rfl rfl rfl rfl (fun e _=>hA _)
     have e3:aJ ⟨⟨(FJ src.kids).1,(FJ src.kids).2.2.1,a⟩,(FJ src.kids).2.1,(FJ src.kids).2.2.2,Vk (FJ src.kids).2.2.2 src.kids⟩ y:=⟨hsa.1,fun e he k7=>by
       obtain ⟨k,h1,h2⟩:=hsa.2 e he k7
       exact ⟨k,h1,Rf (t:=Fj src.kids) (u:=⟨⟨(FJ src.kids).1,(FJ src.kids).2.2.1,a⟩,(FJ src.kids).2.1,(FJ src.kids).2.2.2,Vk (FJ src.kids).2.2.2 src.kids⟩) rfl rfl rfl k (hB k) h2⟩⟩
     have hcl:=cA (Fj src.kids) y.kids.tail
     rw [List.length_tail] at hcl
     rw [acQ (by omega) e3 (by show a.length≤_;omega),e1,e2]
     simp only [Option.bind_some]
     rw [G9 (by omega)]
     by_cases k5:(((D8 (Fj src.kids) y.kids.tail).1.length:Nat):Int)=0
     · rw [Ac k5,Bm,F0]
       have:(D8 (Fj src.kids) y.kids.tail).1=[]:=List.eq_nil_of_length_eq_zero (by omega)
       rw [this,List.append_nil] at hf
       exact ⟨hf.symm,by simp only;omega,by simp only [List.length_append,List.length_singleton];omega⟩
     · rw [Ab k5,Bm,F0]
       exact ⟨hf.symm,by simp only [List.length_append];omega,by simp only [List.length_append,List.length_singleton];omega⟩
   · rw [Ab k4] at hf ⊢
     rw [Bm,F0]
     exact ⟨hf.symm,by simp only;omega,by simp only;omega⟩
 · obtain ⟨h0,n1,n2⟩:=hI
   rw [List.take_length] at h0 n1
   have h0:x=Ls (Fj src.kids) src.kids:=h0
   rw [← h0]
   obtain ⟨d,a⟩:=x
   simp only at n1 n2 ⊢
   cases d with
   | nil =>
     rw [Ab (by simp),Ac rfl,Bm]
     rfl
   | cons g d =>
     rw [Ac (by simp only [List.length_cons];omega),Ab (p:=g::d=[]) (by simp)]
     by_cases oX:cF (((g::d).length:Nat):Int) 20=(((g::d).length:Nat):Int)
     · rw [Ac oX,Bm]
       have:(g::d).length≤20:=by unfold cF at oX;split at oX<;>omega
       rw [List.take_of_length_le this]
     · rw [Ab oX]
       have:cF (((g::d).length:Nat):Int) 20=20∧20 < (g::d).length:=by unfold cF at oX ⊢;split at oX<;>constructor<;>first | omega | (split<;>omega)
       rw [this.1]
       have hsub:Jv (g::d) 0 20=some ((g::d).take 20):=by
         unfold Jv
         rw [if_pos ⟨by omega,by omega,by omega⟩]
         rfl
       rw [hsub,Option.bind_some,Bm]
end Mo
end Go.Proofs.YtnijkdknnmgoeaaGreat
namespace Go.Proofs.YtnijkdknnmgoeaaGreat
open AI Go
namespace Mo
set_option maxRecDepth 100000
set_option maxHeartbeats 4000000
theorem JY {r:Option (Bool×Int)} {P Q:Prop} {t u:Int} {f:Bool×Int→Option (Bool×Int)} (h:Out r P t) (hT:P→Out (f (true,t)) Q u) (hF:∀ z,¬ P→Out (f (false,z)) Q u):Out (r.bind f) Q u:=by
 obtain ⟨z,rfl,h2⟩:=h
 by_cases hp:P
 · rw [BG.2 hp,h2 hp];exact hT hp
 · rw [Vj hp];exact hF z hp
theorem u7 {Q:Prop} {t u:Int} (hq:Q) (h:t=u):Out (some (true,t)) Q u:=⟨t,by rw [BG.2 hq],fun _=>h⟩
theorem JW {r:Option (Bool×Int)} {P Q:Prop} {t u:Int} (h:Out r P t) (hp:P↔Q) (ht:P→t=u):Out (r.bind fun (a,b)=>some (a,b)) Q u :=
 JY h (fun p=>u7 (hp.1 p) (ht p)) fun _ p=>Ia fun q=>p (hp.2 q)
section
variable {p q r:Prop} {z:Int}
theorem Vi:AB p (some (mb q,z)) (some (false,z))=some (mb (p∧q),z):=by
 by_cases h:p
 · rw [Ac h];congr 2;exact Dh ⟨fun a=>⟨h,a⟩,fun a=>a.2⟩
 · rw [Ab h,Vj];exact fun a=>h a.1
theorem Yc:AB p (some (false,z)) (some (mb q,z))=some (mb (¬ p∧q),z):=by
 by_cases h:p
 · rw [Ac h,Vj];exact fun a=>a.1 h
 · rw [Ab h];congr 2;exact Dh ⟨fun a=>⟨h,a⟩,fun a=>a.2⟩
theorem dR:AB p (some (mb q,z)) (some (mb r,z))=some (mb ((p→q)∧(¬ p→r)),z):=by
 by_cases h:p
 · rw [Ac h];congr 2;exact Dh ⟨fun a=>⟨fun _=>a,fun b=>absurd h b⟩,fun a=>a.1 h⟩
 · rw [Ab h];congr 2;exact Dh ⟨fun a=>⟨fun b=>absurd b h,fun _=>a⟩,fun a=>a.2 h⟩
end
section
variable {n:Nd}
theorem iJ (h:n.kind=11):NW n↔EB n.unit∧0≤n.n∧n.n≤999999999999∧(n.unit=Ak→n.n≤1)∧n.kids.length=0∧DQ n ⟨0,ByteArray.empty,n.unit,n.n,0,0,0,⟨0,[]⟩,[],0⟩:=by unfold NW;simp [h]
theorem acf (h:n.kind=12):NW n↔FK n.name∧n.kids.length=0∧DQ n ⟨0,n.name,ByteArray.empty,0,0,0,0,⟨0,[]⟩,[],0⟩:=by unfold NW;simp [h]
theorem ac2 (h:n.kind=13):NW n↔G3 n.n∧n.kids.length=0∧DQ n ⟨0,ByteArray.empty,ByteArray.empty,n.n,0,0,0,⟨0,[]⟩,[],0⟩:=by unfold NW;simp [h]
theorem abw (h:n.kind=14):NW n↔SI n.name∧n.kids.length=0∧DQ n ⟨0,n.name,ByteArray.empty,0,0,0,0,⟨0,[]⟩,[],0⟩:=by unfold NW;simp [h]
theorem qD (h:n.kind=15):NW n↔n.kids.length=1∧DQ n ⟨0,ByteArray.empty,ByteArray.empty,0,0,0,0,⟨0,[]⟩,[],0⟩:=by unfold NW;simp [h]
theorem rP (h:n.kind=16):NW n↔DQ n ⟨0,n.name,ByteArray.empty,0,0,0,0,⟨0,[]⟩,[],0⟩∧n.kids.length=2∧SW n.name∧(n.name=Kf→∀ k,n.kids[1]?=some k→MA k):=by unfold NW;simp [h]
theorem lX (h:n.kind=17):NW n↔(n.name=Jt∨n.name=Ec)∧DQ n ⟨0,n.name,ByteArray.empty,0,0,0,0,⟨0,[]⟩,[],0⟩∧2≤n.kids.length:=by unfold NW;simp [h]
theorem oI (h:n.kind=18):NW n↔DQ n ⟨0,ByteArray.empty,ByteArray.empty,0,0,0,0,n.tab,[],0⟩∧Uc n.tab∧n.kids.length=1:=by unfold NW;simp [h]
theorem R5 (h:NW n):n.kind=11∨n.kind=12∨n.kind=13∨n.kind=14∨n.kind=15∨n.kind=16∨n.kind=17∨n.kind=18:=by
 unfold NW at h
 rcases h with h | h | h | h | h | h | h | h
 all_goals
   have:=h.1
   simp [this]
end
def Lu (l:List Nd) (c d:Int):Prop:=(∀ k∈l,Lv k∧d+L3 k≤41)∧c+GR l≤2000
theorem tU {l:List Nd} {c d:Int} (h:l.length=0) (hc:c≤2000):Lu l c d∧c=c+GR l:=by
 obtain rfl:=List.eq_nil_of_length_eq_zero h
 exact ⟨⟨(fun k hk=>(by cases hk)),(by simp only [GR];omega)⟩,(by simp [GR])⟩
theorem tC {x:Nd} {c d:Int}:Lu [x] c d↔Lv x∧c+DG x≤2000∧d+L3 x≤41:=by
 unfold Lu
 simp only [List.mem_singleton,forall_eq,GR,Nat.add_zero]
 exact ⟨fun a=>⟨a.1.1,a.2,a.1.2⟩,fun a=>⟨⟨a.1,a.2.2⟩,a.2.1⟩⟩
theorem Wk {x y:Nd} {c d:Int}:Lu [x,y] c d↔(Lv x∧c+DG x≤2000∧d+L3 x≤41)∧Lv y∧c+DG x+DG y≤2000∧d+L3 y≤41:=by
 unfold Lu
 simp only [List.mem_cons,List.not_mem_nil,or_false,forall_eq_or_imp,forall_eq,GR,Nat.add_zero,Int.natCast_add]
 constructor
 · rintro ⟨⟨⟨a,b⟩,c',d'⟩,e⟩;exact ⟨⟨a,by omega,b⟩,c',by omega,d'⟩
 · rintro ⟨⟨a,b,c'⟩,d',e,f⟩;exact ⟨⟨⟨a,c'⟩,d',f⟩,by omega⟩
abbrev ExS (g:Ck→Nd→Int→Option (Bool×Int)) (n:Nd):Prop:=∀ (c d:Int),0≤c→c≤2000→0≤d→d≤41→Out (g ⟨c⟩ n d) (Lv n∧c+DG n≤2000∧d+L3 n≤41) (c+DG n)
theorem U5 {g:Ck→Nd→Int→Option (Bool×Int)} {b a:Ck→Nd→Int→Option (Bool×Int)} {l:Ck→List Nd→Int→Option (Bool×Int)} {n:Nd} (h:ExS g n) {c d:Int} (h0:0≤c) (h1:c≤2000) (h2:0≤d) (h3:d≤41) :
   Out (Cs g b a l ⟨c⟩ n d) ((Lv n∧MA n)∧c+DG n≤2000∧d+L3 n≤41) (c+DG n):=by
 rw [Cs]
 simp only [BV,B8,BH,P4,Option.bind_some]
 refine JY (h c d h0 h1 h2 h3) (fun hp=>?_) fun z hp=>Ia fun q=>hp ⟨q.1.1,q.2⟩
 show Out (AB (n.kind=11) (AB (n.unit=AF) (some (mb (G3 n.n),c+DG n)) (some (false,c+DG n))) (some (false,c+DG n))) _ _
 rw [Vi,Vi]
 exact Qq ⟨fun a=>⟨⟨hp.1,a⟩,hp.2⟩,fun a=>a.1.2⟩
theorem dK {g n':Ck→Nd→Int→Option (Bool×Int)} {b:Ck→Nd→Int→Option (Bool×Int)} {l:Ck→List Nd→Int→Option (Bool×Int)} {n:Nd} (hg:∀ k∈n.kids,ExS g k)
   (hn:∀ k∈n.kids,∀ c d:Int,0≤c→c≤2000→0≤d→d≤41→Out (n' ⟨c⟩ k d) ((Lv k∧MA k)∧c+DG k≤2000∧d+L3 k≤41) (c+DG k)) {c d:Int} (h0:0≤c) (h1:c≤2000) (h2:0≤d) (h3:d≤40) :
   Out (Cn g b n' l ⟨c⟩ n d) ((n.kids.length=2∧SW n.name∧(n.name=Kf→∀ k,n.kids[1]?=some k→MA k))∧Lu n.kids c (d+1)) (c+GR n.kids):=by
 rw [Cn,Ce (by omega)]
 simp only [BV,B8,BH]
 generalize hl:n.kids=ks at *
 by_cases hlen:((ks.length:Nat):Int)=2
 rotate_left
 · rw [Ab hlen];exact Ia fun q=>hlen (by have:=q.1.1;omega)
 rw [Ac hlen]
 match ks,hlen with
 | [x,y],_ =>
 simp only [List.getElem?_cons_zero,List.getElem?_cons_succ,Option.bind_some]
 refine JY (hg x (by simp) c (d+1) h0 h1 (by omega) (by omega)) (fun hx=>?_) fun z hx=>Ia fun q=>hx (Wk.1 q.2).1
 dsimp only
 rw [cond_true]
 have hsz:GR [x,y]=DG x+DG y:=by simp [GR]
 have hy:=fun hc=>hg y (by simp) (c+DG x) (d+1) (by omega) hc (by omega) (by omega)
 have hn':=fun hc=>hn y (by simp) (c+DG x) (d+1) (by omega) hc (by omega) (by omega)
 have hy:=hy hx.2.1
 have hn':=hn' hx.2.1
 by_cases hs:n.name=Kf
 · rw [Ac hs]
   refine JW hn' ⟨fun a=>⟨⟨rfl,.inl hs,fun _ k hk=>by cases hk;exact a.1.2⟩,Wk.2 ⟨hx,a.1.1,a.2⟩⟩,fun a=>?_⟩ (fun a=>by rw [hsz];omega)
   have:=(Wk.1 a.2).2
   exact ⟨⟨this.1,a.1.2.2 hs y rfl⟩,this.2⟩
 · rw [Ab hs]
   have fin:∀ hop:SW n.name,Out ((g ⟨c+DG x⟩ y (d+1)).bind fun (a,b)=>some (a,b)) ((([x,y]:List Nd).length=2∧SW n.name∧(n.name=Kf→∀ k,some y=some k→MA k))∧Lu [x,y] c (d+1)) (c+GR [x,y]):=fun hop =>
     JW hy ⟨fun a=>⟨⟨rfl,hop,fun e=>absurd e hs⟩,Wk.2 ⟨hx,a⟩⟩,fun a=>(Wk.1 a.2).2⟩ (fun a=>by rw [hsz];omega)
   have step:∀ {s:ByteArray} {A:Option (Bool×Int)},(n.name=s→SW n.name)→(n.name≠s→Out A ((([x,y]:List Nd).length=2∧SW n.name∧(n.name=Kf→∀ k,some y=some k→MA k))∧Lu [x,y] c (d+1)) (c+GR [x,y])) →
       Out (AB (n.name=s) ((g ⟨c+DG x⟩ y (d+1)).bind fun (a,b)=>some (a,b)) A) ((([x,y]:List Nd).length=2∧SW n.name∧(n.name=Kf→∀ k,some y=some k→MA k))∧Lu [x,y] c (d+1)) (c+GR [x,y]):=by
     intro s A h4 h5
     by_cases h:n.name=s
     · rw [Ac h];exact fin (h4 h)
     · rw [Ab h];exact h5 h
   refine step (fun e=>by unfold SW;simp [e]) fun e1=>?_
   refine step (fun e=>by unfold SW;simp [e]) fun e2=>?_
   refine step (fun e=>by unfold SW;simp [e]) fun e3=>?_
   refine step (fun e=>by unfold SW;simp [e]) fun e4=>?_
   refine step (fun e=>by unfold SW;simp [e]) fun e5=>?_
   refine step (fun e=>by unfold SW;simp [e]) fun e6=>?_
   refine step (fun e=>by unfold SW;simp [e]) fun e7=>?_
   refine step (fun e=>by unfold SW;simp [e]) fun e8=>?_
   refine step (fun e=>by unfold SW;simp [e]) fun e9=>?_
   refine step (fun e=>by unfold SW;simp [e]) fun e10=>?_
   exact Ia fun q=>by
     have:=q.1.2.1
     unfold SW at this
     simp [hs,e1,e2,e3,e4,e5,e6,e7,e8,e9,e10] at this
theorem j7 {A L B T:Prop} {x:Int}:(A∧¬ x < 0∧¬ 999999999999 < x∧(T→¬ 1 < x∧L∧B)∧(¬ T→L∧B))↔A∧0≤x∧x≤999999999999∧(T→x≤1)∧L∧B:=by
 constructor
 · rintro ⟨a,b,c,d,e⟩
   by_cases t:T
   · exact ⟨a,by omega,by omega,fun _=>by have:=(d t).1;omega,(d t).2⟩
   · exact ⟨a,by omega,by omega,fun h=>absurd h t,e t⟩
 · rintro ⟨a,b,c,d,e⟩
   exact ⟨a,by omega,by omega,fun t=>⟨by have:=d t;omega,e⟩,fun _=>e⟩
theorem eR:∀ (q:Nat) (n:Nd),FM n→3*DG n≤q→ExS (AJ q) n:=by
 intro q
 induction q using Nat.strongRecOn with
 | _ q ih =>
 intro n hok hq c d h0 h1 h2 h3
 have hsz:=B6 n
 obtain ⟨q,rfl⟩:∃ k,q=k+1:=⟨q - 1,by omega⟩
 obtain ⟨hps,hkl,hks⟩:=H7 hok
 have hE:∀ k∈n.kids,∀ q',q≤q'+2→q' < q+1→ExS (AJ q') k:=fun k hk q' h4 h5=>ih q' h5 k (hks k hk) (by have:=EY hk;omega)
 rw [AJ,CN]
 refine JY (Tl n h0 h1) (fun hp=>?_) fun z hp=>Ia fun a=>hp ⟨by omega,by have:=LM n;omega⟩
 dsimp only
 rw [cond_true]
 refine Out.congr (P:=NW n∧Lu n.kids (c+1) (d+1)) (t:=(c+1)+GR n.kids) ?_ ?_ (fun _=>by omega)
 rotate_left
 · rw [JL,LM]
   unfold Lu
   have hd:=@SM n.kids
   constructor
   · rintro ⟨a,b,e⟩
     refine ⟨⟨a,fun k hk=>(b k hk).1⟩,by omega,?_⟩
     have:=(hd (m:=(40 - d).toNat)).2 fun k hk=>by have:=(b k hk).2;omega
     omega
   · rintro ⟨⟨a,b⟩,e,f⟩
     refine ⟨a,fun k hk=>⟨b k hk,?_⟩,by omega⟩
     have:=(hd (m:=ZU n.kids)).1 (Nat.le_refl _) k hk
     omega
 have hc1:=hp.1
 have hd1:=hp.2
 rw [Ce (a:=d) (b:=1) (by omega)]
 have e0:(((n.kids.length:Nat):Int)=0)=(n.kids.length=0):=propext (by omega)
 simp only [BV,Fw,Di,B8,BH,P3,RJ,P4,eE,abm _ hps,R9 _ _ hps,Option.bind_some,e0]
 have hleaf:∀ {B:Prop},(B↔NW n)→(B→n.kids.length=0)→Out (some (mb B,c+1)) (NW n∧Lu n.kids (c+1) (d+1)) (c+1+GR n.kids):=fun hB hk=>(Qq hB).congr ⟨fun a=>⟨a,(tU (hk (hB.2 a)) hc1).1⟩,fun a=>a.1⟩ fun a=>(tU (d:=d+1) (hk (hB.2 a.1)) hc1).2
 have hone:∀ {B:Prop},(NW n↔B∧n.kids.length=1)→B→n.kids.length=1→Out ((n.kids[0]?).bind fun x=>(AJ q ⟨c+1⟩ x (d+1)).bind fun (a,b)=>some (a,b)) (NW n∧Lu n.kids (c+1) (d+1)) (c+1+GR n.kids):=by
   intro B hB hb hl
   have hE0:=fun k hk=>hE k hk q (by omega) (by omega)
   have hx:=hB.2 ⟨hb,hl⟩
   generalize n.kids=ks at *
   match ks,hl with
   | [x],_ =>
   simp only [List.getElem?_cons_zero,Option.bind_some]
   refine JW (hE0 x (by simp) (c+1) (d+1) (by omega) hc1 (by omega) (by omega)) ⟨fun a=>⟨hx,tC.2 a⟩,fun a=>tC.1 a.2⟩ fun _=>?_
   simp [GR]
 by_cases lE:n.kind=11
 · rw [Ac lE]
   simp only [Vi,Yc,dR]
   refine hleaf ?_ ?_
   · rw [iJ lE];exact j7
   · intro h;exact (j7.1 h).2.2.2.2.1
 rw [Ab lE]
 by_cases lD:n.kind=12
 · rw [Ac lD]
   simp only [Vi,Yc,dR]
   refine hleaf ?_ ?_
   · rw [acf lD]
   · intro h;exact h.2.1
 rw [Ab lD]
 by_cases lJ:n.kind=13
 · rw [Ac lJ]
   simp only [Vi,Yc,dR]
   refine hleaf ?_ ?_
   · rw [ac2 lJ]
   · intro h;exact h.2.1
 rw [Ab lJ]
 by_cases rQ:n.kind=14
 · rw [Ac rQ]
   simp only [Vi,Yc,dR]
   refine hleaf ?_ ?_
   · rw [abw rQ]
   · intro h;exact h.2.1
 rw [Ab rQ]
 by_cases gH:n.kind=15
 · rw [Ac gH]
   have e:=qD gH
   refine Gb (fun hl=>Gb (fun hb=>hone (e.trans And.comm) hb (by omega)) fun a=>(e.1 a.1).2) fun a=>?_
   have:=(e.1 a.1).1
   omega
 rw [Ab gH]
 by_cases dO:n.kind=16
 · rw [Ac dO]
   have e:=rP dO
   refine Gb (fun hb=>?_) fun a=>(e.1 a.1).1
   obtain ⟨q,rfl⟩:∃ k,q=k+1:=⟨q - 1,by omega⟩
   rw [A2]
   refine JW (dK (g:=AJ q) (b:=A2 q) (n':=AN q) (l:=AK q) (fun k hk=>hE k hk q (by omega) (by omega)) (fun k hk c d a1 a2 a3 a4=>?_) (by omega) hc1 h2 hd1) ?_ fun _=>rfl
   · obtain ⟨q,rfl⟩:∃ k,q=k+1:=⟨q - 1,by have:=JQ hk;have:=B6 k;omega⟩
     rw [AN]
     exact U5 (hE k hk q (by omega) (by omega)) a1 a2 a3 a4
   · rw [e]
     exact ⟨fun a=>⟨⟨hb,a.1⟩,a.2⟩,fun a=>⟨a.1.2,a.2⟩⟩
 rw [Ab dO]
 by_cases lO:n.kind=17
 · rw [Ac lO]
   have e:=lX lO
   have hall:(n.name=Jt∨n.name=Ec)→Out (AB (DQ n ⟨0,n.name,ByteArray.empty,0,0,0,0,⟨0,[]⟩,[],0⟩) (AB (2≤((n.kids.length:Nat):Int)) ((AK q ⟨c+1⟩ n.kids (d+1)).bind fun (a,b)=>some (a,b)) (some (false,c+1))) (some (false,c+1))) (NW n∧Lu n.kids (c+1) (d+1)) (c+1+GR n.kids):=by
     intro hn
     refine Gb (fun hb=>Gb (fun hl=>?_) fun a=>?_) fun a=>(e.1 a.1).2.1
     · obtain ⟨q,rfl⟩:∃ k,q=k+1:=⟨q - 1,by have:=FG n.kids;omega⟩
       rw [AK,Cy,Fy hkl,List.drop_zero]
       dsimp only
       refine JW (NP (g:=AJ q) (p:=Lv) (d:=d+1) (by omega) hc1 fun k hk c' b0 b1=>hE k hk q (by omega) (by omega) c' (d+1) b0 b1 (by omega) (by omega)) ?_ fun _=>rfl
       rw [e]
       exact ⟨fun a=>⟨⟨hn,hb,by omega⟩,a⟩,fun a=>a.2⟩
     · have:=(e.1 a.1).2.2
       omega
   by_cases hn1:n.name=Jt
   · rw [Ac hn1];exact hall (.inl hn1)
   · rw [Ab hn1]
     exact Gb (fun hn2=>hall (.inr hn2)) fun a=>(e.1 a.1).1.resolve_left hn1
 rw [Ab lO]
 by_cases lP:n.kind=18
 · rw [Ac lP]
   have e:=oI lP
   refine Gb (fun hb=>Gb (fun ht=>Gb (fun hl=>hone (B:=DQ n ⟨0,ByteArray.empty,ByteArray.empty,0,0,0,0,n.tab,[],0⟩∧Uc n.tab) (e.trans (by rw [and_assoc])) ⟨hb,ht⟩ (by omega)) fun a=>?_) fun a=>(e.1 a.1).2.1) fun a=>(e.1 a.1).1
   have:=(e.1 a.1).2.2
   omega
 rw [Ab lP]
 exact Ia fun a=>by have:=R5 a.1;omega
def Le {β:Type} (a b:Option β):Prop:=∀ y,a=some y→b=some y
section
variable {α β γ δ ρ:Type}
theorem Le.refl (a:Option β):Le a a:=fun _ h=>h
theorem LF {a a':Option α} {f g:α→Option β} (h:Le a a') (k:∀ x,Le (f x) (g x)):Le (a.bind f) (a'.bind g):=by
 intro y hy
 cases a with
 | none=>cases hy
 | some x=>rw [h x rfl];exact k x y hy
theorem Zv {b:Bool} {x x' y y':Option β} (h:Le x x') (k:Le y y'):Le (cond b x y) (cond b x' y'):=by cases b;exact k;exact h
theorem xD {n:Nat} {x x':Option β} (h:Le x x'):Le (GW n x) (GW n x'):=by
 unfold GW
 split
 · exact h
 · exact Le.refl _
theorem aK {body body':Nat→α→γ→Option (Lp γ δ ρ)} {done:γ→δ} (h:∀ i y x,Le (body i y x) (body' i y x)):∀ (l:List α) (i:Nat) (x:γ),Le (AL body done l i x) (AL body' done l i x)
 | [],_,_=>Le.refl _
 | a::l,i,x=>by
   rw [AL,AL]
   refine LF (h i a x) fun z=>?_
   cases z with
   | nx x'=>exact aK h l (i+1) x'
   | ex d=>exact Le.refl _
   | rt v=>exact Le.refl _
end
theorem VB:∀ q:Nat,(∀ c n d,Le (AJ q c n d) (AJ (q+1) c n d))∧(∀ c n d,Le (A2 q c n d) (A2 (q+1) c n d))∧(∀ c n d,Le (AN q c n d) (AN (q+1) c n d))∧(∀ c n d,Le (AK q c n d) (AK (q+1) c n d))
 | 0=>⟨(fun _ _ _ _ h=>nomatch h),(fun _ _ _ _ h=>nomatch h),(fun _ _ _ _ h=>nomatch h),(fun _ _ _ _ h=>nomatch h)⟩
 | q+1=>by
   obtain ⟨i1,i2,i3,i4⟩:=VB q
   refine ⟨fun c n d=>?_,fun c n d=>?_,fun c n d=>?_,fun c n d=>?_⟩
   · rw [AJ,AJ,CN,CN]
     repeat' first
       | exact Le.refl _
       | exact i1 _ _ _
       | exact i2 _ _ _
       | exact i4 _ _ _
       | refine Zv ?_ ?_
       | refine LF ?_ fun ⟨_,_⟩=>?_
       | refine LF ?_ fun _=>?_
   · rw [A2,A2,Cn,Cn]
     repeat' first
       | exact Le.refl _
       | exact i1 _ _ _
       | exact i3 _ _ _
       | refine Zv ?_ ?_
       | refine LF ?_ fun ⟨_,_⟩=>?_
       | refine LF ?_ fun _=>?_
   · rw [AN,AN,Cs,Cs]
     exact LF (i1 _ _ _) fun _=>Le.refl _
   · rw [AK,AK,Cy,Cy]
     refine LF (xD (aK (fun i y x=>?_) _ _ _)) fun _=>Le.refl _
     rw [CX,CX]
     exact LF (i1 _ _ _) fun _=>Le.refl _
theorem fY {β:Type} {f:Nat→Option β} (h:∀ q,Le (f q) (f (q+1))) {q:Nat} {y:β} (hy:f q=some y):W5 f=some y:=by
 refine Jw q fun m hm=>?_
 induction m with
 | zero=>obtain rfl:q=0:=by omega
         exact hy
 | succ m ih =>
   rcases Nat.lt_or_ge m q with hlt | hge
   · obtain rfl:q=m+1:=by omega
     exact hy
   · exact h m y (ih hge)
theorem iK {n:Nd} (hok:FM n):ExS D5 n:=by
 intro c d h0 h1 h2 h3
 obtain ⟨z,hz,hz2⟩:=eR (3*DG n) n hok (Nat.le_refl _) c d h0 h1 h2 h3
 exact ⟨z,fY (fun q=>(VB q).1 _ _ _) hz,hz2⟩
theorem gD {n:Nd} (hok:FM n) {c d:Int} (h0:0≤c) (h1:c≤2000) (h2:0≤d) (h3:d≤41):Out (EA ⟨c⟩ n d) ((Lv n∧MA n)∧c+DG n≤2000∧d+L3 n≤41) (c+DG n):=by
 obtain ⟨z,hz,hz2⟩:=U5 (g:=AJ (3*DG n)) (b:=A2 (3*DG n)) (a:=AN (3*DG n)) (l:=AK (3*DG n)) (eR (3*DG n) n hok (Nat.le_refl _)) h0 h1 h2 h3
 exact ⟨z,fY (q:=3*DG n+1) (fun q=>(VB q).2.2.1 _ _ _) (by rw [AN];exact hz),hz2⟩
end Mo
end Go.Proofs.YtnijkdknnmgoeaaGreat
namespace Go.Proofs.YtnijkdknnmgoeaaGreat
open AI Go
namespace Mo
set_option maxRecDepth 100000
set_option maxHeartbeats 4000000
abbrev z0:Nd:=⟨0,ByteArray.empty,ByteArray.empty,0,0,0,0,⟨0,[]⟩,[],0⟩
theorem yF (n:Int):Fb n=some (mb (cG n)):=by
 rw [Fb]
 simp only [Fw,BH,Hf,F1]
 rfl
def IG (n:Nd):Prop:=n.kind=5∧(0≤n.n∧n.n≤1000000)∧n.kids.length=0∧cG n.fr∧(n.fr < n.to∧n.to≤36525)∧cG n.known∧DQ n ⟨0,ByteArray.empty,ByteArray.empty,n.n,n.fr,n.to,n.known,⟨0,[]⟩,[],0⟩
def B0 (n:Nd):Prop:=DQ n z0∧(n.kind=7→0 < n.kids.length∧∀ k∈n.kids,Lv k∧MA k)∧(n.kind≠7→n.kids.length=1∧∀ k∈n.kids,Lv k)
theorem aF {n:Nd} (h:n.kids.length=0):DG n=1∧L3 n=1:=by
 have:=List.eq_nil_of_length_eq_zero h
 rw [B6,LM,this]
 exact ⟨rfl,rfl⟩
theorem uZ {n:Nd} (hok:FM n) {c d:Int} (h0:0≤c) (h1:c≤2000):Out (D6 ⟨c⟩ n d) (IG n∧c+DG n≤2000∧d+L3 n≤41) (c+DG n):=by
 obtain ⟨hps,hkl,hks⟩:=H7 hok
 have hsz:=B6 n
 have hdp:=LM n
 rw [D6]
 refine JY (Tl n h0 h1) (fun hp=>?_) fun z hp=>Ia fun a=>hp ⟨by omega,by omega⟩
 dsimp only
 rw [cond_true]
 simp only [BV,Fw,Di,BH,yF,R9 _ _ hps,Option.bind_some,Vi,Yc]
 have key:(n.kind=5∧¬ n.n < 0∧¬ 1000000 < n.n∧¬ (0:Int) < ((n.kids.length:Nat):Int)∧cG n.fr∧¬ n.to≤n.fr∧¬ 36525 < n.to∧cG n.known∧DQ n ⟨0,ByteArray.empty,ByteArray.empty,n.n,n.fr,n.to,n.known,⟨0,[]⟩,[],0⟩)↔IG n:=by
   unfold IG
   constructor
   · rintro ⟨a,b,c',e,f,g,h,i,j⟩;exact ⟨a,⟨by omega,by omega⟩,by omega,f,⟨by omega,by omega⟩,i,j⟩
   · rintro ⟨a,b,c',f,g,i,j⟩;exact ⟨a,by omega,by omega,by omega,f,by omega,by omega,i,j⟩
 refine (Qq key).congr ⟨fun a=>⟨a,?_⟩,fun a=>a.1⟩ fun a=>?_
 · have:=aF a.2.2.1;omega
 · have:=aF a.1.2.2.1;omega
theorem gO {n:Nd} (hok:FM n) {c d:Int} (h0:0≤c) (h1:c≤2000) (h2:0≤d):Out (CV ⟨c⟩ n d) (B0 n∧c+DG n≤2000∧d+L3 n≤41) (c+DG n):=by
 obtain ⟨hps,hkl,hks⟩:=H7 hok
 have hsz:=B6 n
 have hdp:=LM n
 have hd:=@SM n.kids
 rw [CV]
 refine JY (Tl n h0 h1) (fun hp=>?_) fun z hp=>Ia fun a=>hp ⟨by omega,by omega⟩
 dsimp only
 rw [cond_true,Ce (a:=d) (b:=1) (by omega)]
 simp only [BV,Di,BH,R9 _ _ hps,Option.bind_some]
 have hc1:=hp.1
 have hd1:=hp.2
 have Qs:(∀ k∈n.kids,d+1+L3 k≤41)↔d+L3 n≤41:=by
   constructor
   · intro h
     have:=(hd (m:=(40 - d).toNat)).2 fun k hk=>by have:=h k hk;omega
     omega
   · intro h k hk
     have:=(hd (m:=ZU n.kids)).1 (Nat.le_refl _) k hk
     omega
 refine Gb (fun hb=>?_) fun a=>a.1.1
 by_cases k7:n.kind=7
 · rw [Ac k7]
   refine Gb (fun hl=>?_) fun a=>by have:=(a.1.2.1 k7).1;omega
   rw [DA,Fy hkl,List.drop_zero]
   dsimp only
   refine JW (NP (g:=EA) (p:=fun k=>Lv k∧MA k) (d:=d+1) (by omega) hc1 fun k hk c' b0 b1=>gD (hks k hk) b0 b1 (by omega) (by omega)) ⟨fun a=>⟨⟨hb,fun _=>⟨by omega,fun k hk=>(a.1 k hk).1⟩,fun h=>absurd k7 h⟩,by omega,Qs.1 fun k hk=>(a.1 k hk).2⟩,fun a=>⟨fun k hk=>⟨(a.1.2.1 k7).2 k hk,Qs.2 a.2.2 k hk⟩,by omega⟩⟩ fun _=>by omega
 · rw [Ab k7]
   refine Gb (fun hl=>?_) fun a=>by have:=(a.1.2.2 k7).1;omega
   have hl1:n.kids.length=1:=by omega
   unfold B0
   generalize n.kids=ks at *
   match ks,hl1 with
   | [x],_ =>
   simp only [List.getElem?_cons_zero,Option.bind_some]
   have e1:GR [x]=DG x:=by simp [GR]
   refine JW (iK (hks x (by simp)) (c+1) (d+1) (by omega) hc1 (by omega) (by omega)) ⟨fun a=>⟨⟨hb,fun h=>absurd h k7,fun _=>⟨rfl,fun k hk=>by rw [List.mem_singleton.1 hk];exact a.1⟩⟩,by omega,Qs.1 fun k hk=>by rw [List.mem_singleton.1 hk];exact a.2.2⟩,fun a=>⟨(a.1.2.2 k7).2 x (by simp),by omega,Qs.2 a.2.2 x (by simp)⟩⟩ fun _=>by omega
def Bi (k:Int):List Nd→Nat
 | []=>0
 | a::l=>(if a.kind=k then 1 else 0)+Bi k l
theorem Jg (k:Int) (l:List Nd):Bi k l≤l.length:=by
 induction l with
 | nil=>simp [Bi]
 | cons a l ih=>simp only [Bi,List.length_cons];split<;>omega
def kinds (l:List Nd):Prop:=∀ k∈l,6≤k.kind∧k.kind≤8
theorem TT {y:Int}:∀ {l:List Nd} {i:Nat} {a b c:Int},0≤a→0≤b→0≤c→a+l.length≤9223372036854775807→b+l.length≤9223372036854775807→c+l.length≤9223372036854775807 →
   AL (fun i z x=>C3 y i z x.1 x.2.1 x.2.2) (fun x=>(x.1,x.2.1,x.2.2)) l i (a,b,c)=some (AB (kinds l) (.inl (a+Bi 6 l,b+Bi 7 l,c+Bi 8 l)) (.inr (false,y)))
 | [],i,a,b,c,_,_,_,_,_,_=>by rw [Ac (show kinds [] from fun k hk=>(by cases hk))];simp [AL,Bi]
 | z::l,i,a,b,c,h1,h2,h3,h4,h5,h6=>by
   simp only [List.length_cons] at h4 h5 h6
   rw [AL,C3]
   simp only [Di,BV,BH]
   have hk:kinds (z::l)↔(6≤z.kind∧z.kind≤8)∧kinds l:=by unfold kinds;simp
   have go:∀ {a' b' c':Int},0≤a'→0≤b'→0≤c'→a'≤a+1→b'≤b+1→c'≤c+1→6≤z.kind∧z.kind≤8→a'+Bi 6 l=a+Bi 6 (z::l)→b'+Bi 7 l=b+Bi 7 (z::l)→c'+Bi 8 l=c+Bi 8 (z::l) →
       (some (Lp.nx (a',b',c'))).bind (Im (AL (fun i z x=>C3 y i z x.1 x.2.1 x.2.2) (fun x=>(x.1,x.2.1,x.2.2)) l (i+1)))=some (AB (kinds (z::l)) (.inl (a+Bi 6 (z::l),b+Bi 7 (z::l),c+Bi 8 (z::l))) (.inr (false,y))):=by
     intro a' b' c' g1 g2 g3 g4 g5 g6 gk e1 e2 e3
     show AL _ _ l (i+1) (a',b',c')=_
     rw [TT g1 g2 g3 (by omega) (by omega) (by omega),e1,e2,e3]
     by_cases hl:kinds l
     · rw [Ac hl,Ac (hk.2 ⟨gk,hl⟩)]
     · rw [Ab hl,Ab fun q=>hl (hk.1 q).2]
   by_cases k6:z.kind < 6
   · rw [Ac k6,Ab fun q=>by have:=(hk.1 q).1;omega];rfl
   rw [Ab k6]
   by_cases k8:8 < z.kind
   · rw [Ac k8,Ab fun q=>by have:=(hk.1 q).1;omega];rfl
   rw [Ab k8]
   by_cases e6:z.kind=6
   · rw [Ac e6,Ce (by omega)]
     exact go (by omega) h2 h3 (by omega) (by omega) (by omega) (by omega) (by simp [Bi,e6];omega) (by simp [Bi,e6]) (by simp [Bi,e6])
   rw [Ab e6]
   by_cases e7:z.kind=7
   · rw [Ac e7,Ce (by omega)]
     exact go h1 (by omega) h3 (by omega) (by omega) (by omega) (by omega) (by simp [Bi,e7]) (by simp [Bi,e7];omega) (by simp [Bi,e7])
   rw [Ab e7]
   have e8:z.kind=8:=by omega
   rw [Ac e8,Ce (by omega)]
   exact go h1 h2 (by omega) (by omega) (by omega) (by omega) (by omega) (by simp [Bi,e8]) (by simp [Bi,e8]) (by simp [Bi,e8];omega)
def X1 (n:Nd):Prop:=G3 n.n∧FK n.name∧DQ n ⟨0,n.name,ByteArray.empty,n.n,0,0,0,⟨0,[]⟩,[],0⟩∧∃ h cs,n.kids=h::cs∧kinds cs∧Bi 8 cs=1∧Bi 7 cs≤1∧IG h∧∀ k∈cs,B0 k
def FW (n:Nd):Prop :=
 (n.kind=2∧FK n.name∧EB n.unit∧n.kids.length=0∧DQ n ⟨0,n.name,n.unit,0,0,0,0,⟨0,[]⟩,[],0⟩) ∨
 (n.kind=3∧FK n.name∧EB n.unit∧1≤n.n∧n.n≤4∧n.kids.length=0∧DQ n ⟨0,n.name,n.unit,n.n,0,0,0,⟨0,[]⟩,[],0⟩) ∨
 (n.kind=4∧X1 n)
theorem it2 {n:Nd} (h:n.kind=2):FW n↔FK n.name∧EB n.unit∧n.kids.length=0∧DQ n ⟨0,n.name,n.unit,0,0,0,0,⟨0,[]⟩,[],0⟩:=by unfold FW;simp [h]
theorem it3 {n:Nd} (h:n.kind=3):FW n↔FK n.name∧EB n.unit∧1≤n.n∧n.n≤4∧n.kids.length=0∧DQ n ⟨0,n.name,n.unit,n.n,0,0,0,⟨0,[]⟩,[],0⟩:=by unfold FW;simp [h]
theorem sF {n:Nd} (h:n.kind=4):FW n↔X1 n:=by unfold FW;simp [h]
theorem VM {n:Nd} (h:FW n):n.kind=2∨n.kind=3∨n.kind=4:=by
 unfold FW at h
 rcases h with h | h | h
 all_goals
   have:=h.1
   simp [this]
theorem aaG {n:Nd} (hok:FM n) {c d:Int} (h0:0≤c) (h1:c≤2000) (h2:0≤d):Out (De ⟨c⟩ n d) (FW n∧c+DG n≤2000∧d+L3 n≤41) (c+DG n):=by
 obtain ⟨hps,hkl,hks⟩:=H7 hok
 have hsz:=B6 n
 have hdp:=LM n
 have hd:=@SM n.kids
 rw [De]
 refine JY (Tl n h0 h1) (fun hp=>?_) fun z hp=>Ia fun a=>hp ⟨by omega,by omega⟩
 dsimp only
 rw [cond_true,Ce (a:=d) (b:=1) (by omega)]
 have e0:(((n.kids.length:Nat):Int)=0)=(n.kids.length=0):=propext (by omega)
 simp only [BV,Fw,Di,BH,P3,RJ,P4,R9 _ _ hps,Option.bind_some,e0]
 have hc1:=hp.1
 have hd1:=hp.2
 have hleaf:∀ {B:Prop},(B↔FW n)→(B→n.kids.length=0)→Out (some (mb B,c+1)) (FW n∧c+DG n≤2000∧d+L3 n≤41) (c+DG n):=fun hB hk=>(Qq hB).congr ⟨fun a=>⟨a,by have:=aF (hk (hB.2 a));omega⟩,fun a=>a.1⟩ fun a=>by have:=aF (hk (hB.2 a.1));omega
 by_cases k2:n.kind=2
 · rw [Ac k2]
   simp only [Vi,Yc,dR]
   refine hleaf ?_ ?_
   · rw [it2 k2]
   · intro h;exact h.2.2.1
 rw [Ab k2]
 by_cases k3:n.kind=3
 · rw [Ac k3]
   simp only [Vi,Yc,dR]
   refine hleaf ?_ ?_
   · rw [it3 k3]
   · intro h;exact h.2.2.2.2.1
 rw [Ab k3]
 by_cases k4:n.kind=4
 rotate_left
 · rw [Ab k4];exact Ia fun a=>by have:=VM a.1;omega
 rw [Ac k4,sF k4]
 refine Gb (fun hr=>Gb (fun hn=>Gb (fun hb=>?_) fun a=>a.1.2.2.1) fun a=>a.1.2.1) fun a=>a.1.1
 refine WY (fun hl0=>?_) fun a h=>by obtain ⟨h',cs,hk,_⟩:=a.1.2.2.2;rw [hk] at h;simp at h
 have Qs:(∀ k∈n.kids,d+1+L3 k≤41)↔d+L3 n≤41:=by
   constructor
   · intro h
     have:=(hd (m:=(40 - d).toNat)).2 fun k hk=>by have:=h k hk;omega
     omega
   · intro h k hk
     have:=(hd (m:=ZU n.kids)).1 (Nat.le_refl _) k hk
     omega
 unfold X1
 generalize n.kids=ks at *
 match ks,hl0 with
 | x::l,_ =>
 have hsub:Jv (x::l) 1 (((x::l).length:Nat):Int)=some l:=by
   unfold Jv
   rw [if_pos (by simp only [List.length_cons];omega)]
   simp
 rw [hsub]
 simp only [Option.bind_some,List.length_cons] at hkl ⊢
 have e2:∀ {A:Prop},(∃ h cs,x::l=h::cs∧kinds cs∧Bi 8 cs=1∧Bi 7 cs≤1∧IG h∧∀ k∈cs,B0 k)↔(kinds l∧Bi 8 l=1∧Bi 7 l≤1∧IG x∧∀ k∈l,B0 k):=by
   intro _
   constructor
   · rintro ⟨h,cs,e,r⟩;cases e;exact r
   · intro r;exact ⟨x,l,rfl,r⟩
 rw [Fy (by omega),List.drop_zero,TT (by omega) (by omega) (by omega) (by omega) (by omega) (by omega)]
 simp only [Option.bind_some]
 by_cases hK:kinds l
 rotate_left
 · rw [Ab hK]
   show Out (some (false,c+1)) _ _
   exact Ia fun a=>hK ((e2 (A:=True)).1 a.1.2.2.2).1
 rw [Ac hK]
 show Out (AB ((0:Int)+Bi 8 l=1) (AB (1 < (0:Int)+Bi 7 l) (some (false,c+1)) _) (some (false,c+1))) _ _
 refine Gb (fun h8=>WY (fun h7=>?_) fun a=>?_) fun a=>?_
 rotate_left
 · have:=((e2 (A:=True)).1 a.1.2.2.2).2.2.1;omega
 · have:=((e2 (A:=True)).1 a.1.2.2.2).2.1;omega
 simp only [List.getElem?_cons_zero,Option.bind_some]
 have hdx:=fun h=>Qs.2 h x (by simp)
 have hsl:GR (x::l)=DG x+GR l:=by simp [GR]
 refine JY (uZ (hks x (by simp)) (c:=c+1) (d:=d+1) (by omega) hc1) (fun hx=>?_) fun z hx=>Ia fun a=>hx ⟨((e2 (A:=True)).1 a.1.2.2.2).2.2.2.1,by omega,hdx a.2.2⟩
 dsimp only
 rw [cond_true,Dy,Fy (by omega),List.drop_zero]
 dsimp only
 refine JW (NP (g:=CV) (p:=B0) (d:=d+1) (by omega) hx.2.1 fun k hk c' b0 b1=>gO (hks k (by simp [hk])) b0 b1 (by omega)) ?_ fun _=>by omega
 constructor
 · rintro ⟨a,b⟩
   refine ⟨⟨hr,hn,hb,(e2 (A:=True)).2 ⟨hK,by omega,by omega,hx.1,fun k hk=>(a k hk).1⟩⟩,by omega,Qs.1 fun k hk=>?_⟩
   rcases List.mem_cons.1 hk with rfl | hk
   · exact hx.2.2
   · exact (a k hk).2
 · rintro ⟨a,b,e⟩
   exact ⟨fun k hk=>⟨((e2 (A:=True)).1 a.2.2.2).2.2.2.2 k hk,Qs.2 e k (by simp [hk])⟩,by omega⟩
def Rb (n:Nd):Prop:=((n.kind=1∧DQ n z0∧∀ k∈n.kids,FW k)∨(n.kind≠1∧Lv n))∧DG n≤2000∧L3 n≤40
theorem ZR {n:Nd} (hok:FM n):DO n=some (mb (Rb n)):=by
 obtain ⟨hps,hkl,hks⟩:=H7 hok
 have hsz:=B6 n
 have hdp:=LM n
 have hd:=@SM n.kids
 rw [DO,BV,BH]
 have fin:∀ {r:Option (Bool×Int)} {P:Prop} {t:Int},Out r P t→(P↔Rb n)→(r.bind fun (a,_)=>some a)=some (mb (Rb n)):=by
   rintro r P t ⟨z,rfl,_⟩ h
   rw [Dh h];rfl
 by_cases k1:n.kind=1
 rotate_left
 · rw [Ab k1]
   refine fin (iK hok 0 1 (by omega) (by omega) (by omega) (by omega)) ?_
   unfold Rb
   constructor
   · rintro ⟨a,b,c⟩;exact ⟨.inr ⟨k1,a⟩,by omega,by omega⟩
   · rintro ⟨a | a,b,c⟩
     · exact absurd a.1 k1
     · exact ⟨a.2,by omega,by omega⟩
 rw [Ac k1]
 obtain ⟨z,hz,hz2⟩:=Tl n (c:=0) (d:=1) (by omega) (by omega)
 rw [hz]
 simp only [Option.bind_some,R9 _ _ hps,BH]
 by_cases h1:(0:Int)+1≤2000∧(1:Int)≤40
 rotate_left
 · exact absurd ⟨by omega,by omega⟩ h1
 rw [Ac h1,hz2 h1]
 by_cases hb:DQ n z0
 rotate_left
 · rw [Ab hb]
   refine Hq ?_
   rintro ⟨a | a,_⟩
   · exact hb a.2.1
   · exact a.1 k1
 rw [Ac hb,D2,Fy hkl,List.drop_zero]
 dsimp only
 refine fin (NP (g:=De) (p:=FW) (d:=2) (by omega) (by omega) fun k hk c' b0 b1=>aaG (hks k hk) b0 b1 (by omega)) ?_
 unfold Rb
 constructor
 · rintro ⟨a,b⟩
   refine ⟨.inl ⟨k1,hb,fun k hk=>(a k hk).1⟩,by omega,?_⟩
   have:=(hd (m:=39)).2 fun k hk=>by have:=(a k hk).2;omega
   omega
 · rintro ⟨a | a,b,e⟩
   · refine ⟨fun k hk=>⟨a.2.2 k hk,?_⟩,by omega⟩
     have:=(hd (m:=ZU n.kids)).1 (Nat.le_refl _) k hk
     omega
   · exact absurd k1 a.1
end Mo
end Go.Proofs.YtnijkdknnmgoeaaGreat
namespace Go.Proofs.YtnijkdknnmgoeaaGreat
open AI Go
namespace Mo
set_option maxRecDepth 100000
set_option maxHeartbeats 4000000
theorem Sy {β:Type} {p:Prop} {x y:β}:some (AB p x y)=AB p (some x) (some y):=by
 by_cases h:p
 · rw [Ac h,Ac h]
 · rw [Ab h,Ab h]
abbrev eS:ByteArray:=ByteArray.empty
def dW (s:ByteArray):Prop:=s≠eS∧s≠Ak∧s≠AF∧s≠BM
theorem Wg (s:ByteArray):F6 s=some (mb (dW s)):=by
 rw [F6]
 simp only [B8,BH,lW,bP]
 rfl
theorem eQ {us:List ByteArray} {a:ByteArray} (ha:us[0]?=some a) (hl:us.length≤9223372036854775807):CF us.length us=some (mb (∀ u∈us,u=a)):=by
 rw [CF,K2]
 have h0:0 < us.length:=(List.getElem?_eq_some_iff.1 ha).1
 refine vI (fun i _=>∀ j u,j < i→us[j]?=some u→u=a) hl (fun j u hj=>by omega) (fun i x hi hI=>?_) (fun x hI=>?_)
 · have hx:us[i]?=some us[i]:=List.getElem?_eq_getElem hi
   rw [It,hx]
   have hk:OW us.length ((0:Nat):Int)=some 0:=by unfold OW;rw [if_pos (by omega)];rfl
   rw [hk]
   simp only [Option.bind_some,ha,B8,BH]
   by_cases h:us[i]=a
   · rw [Ac h]
     refine ⟨_,rfl,fun j u hj hu=>?_⟩
     rcases Nat.lt_or_ge j i with hlt | hge
     · exact hI j u hlt hu
     · obtain rfl:j=i:=by omega
       rw [hx] at hu;cases hu;exact h
   · rw [Ab h]
     refine ⟨_,rfl,?_⟩
     exact ⟨_,rfl,(Vj fun q=>h (q _ (List.getElem_mem hi))).symm⟩
 · refine ⟨_,rfl,(BG.2 fun u hu=>?_).symm⟩
   obtain ⟨j,hj⟩:=List.getElem?_of_mem hu
   exact hI j u (List.getElem?_eq_some_iff.1 hj).1 hj
noncomputable def GO (op a b:ByteArray) (E:Prop):ByteArray :=
 AB (op=Um) (AB (a=Ak) (AB E Ak eS) eS) (AB (op=IP) (AB (a=Ak) (AB E Ak eS) eS) (AB (op=I2) (AB E Ak eS) (AB (op=Iw) (AB E Ak eS)
   (AB (op=PK) (AB E (AB (a=Ak) eS Ak) eS) (AB (op=Ix) (AB E (AB (a=Ak) eS Ak) eS) (AB (op=K5) (AB E (AB (a=Ak) eS a) eS) (AB (op=Pe) (AB E (AB (a=Ak) eS a) eS)
     (AB (op=PY) (AB (a=AF) (AB (b=Ak) eS b) (AB (b=AF) (AB (a=Ak) eS a) eS)) (AB (op=Kf) (AB (a=Ak) eS a) (AB (op=U0) (AB (a=BM) (AB (dW b) b eS) eS) eS))))))))))
theorem VT {op a b:ByteArray} {us:List ByteArray} (ha:us[0]?=some a) (hb:us[us.length - 1]?=some b) (hl:us.length≤9223372036854775807):C4 op us.length us=some (GO op a b (∀ u∈us,u=a)):=by
 have h0:0 < us.length:=(List.getElem?_eq_some_iff.1 ha).1
 have hk:OW us.length ((0:Nat):Int)=some 0:=by unfold OW;rw [if_pos (by omega)];rfl
 have hk2:OW us.length (Ua ((us.length:Nat):Int) 1)=some (us.length - 1):=by
   rw [MB (by omega)]
   unfold OW
   rw [if_pos (by omega)]
   congr 1
   omega
 rw [C4,hk,hk2]
 simp only [Option.bind_some,ha,hb,eQ ha hl,Wg,B8,BH]
 unfold GO
 simp only [Sy]
noncomputable def HY (op:ByteArray) (us:List ByteArray):ByteArray:=GO op (us.headD eS) (us.getLastD eS) (∀ u∈us,u=us.headD eS)
theorem mM {op:ByteArray} {us:List ByteArray} (h0:us≠[]) (hl:us.length≤9223372036854775807):C4 op us.length us=some (HY op us):=by
 cases us with
 | nil=>exact absurd rfl h0
 | cons a l =>
   refine VT (a:=a) (b:=(a::l).getLastD eS) rfl ?_ hl
   rw [List.getLastD_cons,← List.getLast?_eq_getElem?,List.getLast?_cons,List.getLastD_eq_getLast?]
def Of (e at_:Int) (ds:List Dg):List Dg:=if ds.length < 20 then ds++[⟨e,at_⟩] else ds
theorem W3 (e at_:Int) (ds:List Dg):AD e at_ ds=some ((),Of e at_ ds):=by
 rw [AD,Di,BH]
 unfold Of
 by_cases h:ds.length < 20
 · rw [Ac (by omega),if_pos h,G9 (by omega)]
 · rw [Ab (by omega),if_neg h]
noncomputable def GH (s:Sc) (n:Nd) (us:List ByteArray):ByteArray :=
 AB (n.kind=11) n.unit (AB (n.kind=12) ((s.facts.get n.name).getD eS) (AB (n.kind=13) ((s.lines.get ((s.Af.get n.n).getD eS)).getD eS) (AB (n.kind=14) AF
   (AB (n.kind=15) (HY IP us) (AB (n.kind=16) (HY n.name us) (AB (n.kind=17) (HY K5 us) (AB (n.kind=18) (AB (dW (us.headD eS)) (us.headD eS) eS) eS)))))))
noncomputable def NQ (n:Nd):Int:=AB (n.kind=12) 91 (AB (n.kind=13) 91 11)
noncomputable def nH (s:Sc) (n:Nd) (r:List ByteArray×List Dg):ByteArray×List Dg :=
 AB (∀ u∈r.1,u≠eS) (AB (GH s n r.1=eS) (GH s n r.1,Of (NQ n) n.att r.2) (GH s n r.1,r.2)) (eS,r.2)
mutual
noncomputable def Ea (s:Sc):Nd→List Dg→ByteArray×List Dg
 | ⟨kind,name,unit,n,fr,to,known,tab,kids,att⟩,ds=>nH s ⟨kind,name,unit,n,fr,to,known,tab,kids,att⟩ (Ey s kids ds)
noncomputable def Ey (s:Sc):List Nd→List Dg→List ByteArray×List Dg
 | [],ds=>([],ds)
 | k::ks,ds=>((Ea s k ds).1::(Ey s ks (Ea s k ds).2).1,(Ey s ks (Ea s k ds).2).2)
end
theorem UL (s:Sc) (n:Nd) (ds:List Dg):Ea s n ds=nH s n (Ey s n.kids ds):=by cases n;rw [Ea]
theorem Rd (s:Sc):∀ (l:List Nd) (ds:List Dg),(Ey s l ds).1.length=l.length
 | [],_=>by rw [Ey];rfl
 | k::l,ds=>by rw [Ey];simp [Rd s l]
theorem UD {s:Sc} {g:Sc→Nd→List Dg→Option (ByteArray×List Dg)}:∀ {l:List Nd} {done:List ByteArray} {w:Prop} {ds:List Dg},(∀ k∈l,∀ ds,g s k ds=some (Ea s k ds)) →
   AL (fun i y x=>C6 g s i y x.1 x.2.1 x.2.2) (fun x=>(x.1,x.2.1,x.2.2)) l done.length (mb w,done++List.replicate l.length eS,ds)=some (.inl (mb (w∧∀ u∈(Ey s l ds).1,u≠eS),done++(Ey s l ds).1,(Ey s l ds).2))
 | [],done,w,ds,_=>by
   rw [AL,Ey]
   simp
 | k::l,done,w,ds,h=>by
   rw [AL,C6,h k (by simp)]
   have hlt:done.length < (done++List.replicate (k::l).length eS).length:=by simp
   have hx:(done++List.replicate (k::l).length eS)[done.length]?=some eS:=by
     rw [List.getElem?_append_right (Nat.le_refl _)];simp
   have hset:(done++List.replicate (k::l).length eS).set done.length (Ea s k ds).1=(done++[(Ea s k ds).1])++List.replicate l.length eS:=by
     rw [List.set_append_right _ _ (Nat.le_refl _)]
     simp [List.replicate_succ]
   have hg:((done++[(Ea s k ds).1])++List.replicate l.length eS)[done.length]?=some (Ea s k ds).1:=by
     rw [List.append_assoc,List.getElem?_append_right (Nat.le_refl _)];simp
   have ih:=fun w'=>UD (s:=s) (g:=g) (l:=l) (done:=done++[(Ea s k ds).1]) (w:=w') (ds:=(Ea s k ds).2) fun k' hk'=>h k' (by simp [hk'])
   simp only [List.length_append,List.length_cons,List.length_nil,Nat.zero_add] at ih
   simp only [Option.bind_some,hx,hset,hg,B8,BH]
   rw [Ey]
   have fin:∀ w',(w'↔w∧(Ea s k ds).1≠eS)→(Im (AL (fun i y x=>C6 g s i y x.1 x.2.1 x.2.2) (fun x=>(x.1,x.2.1,x.2.2)) l (done.length+1)) (.nx (mb w',done++[(Ea s k ds).1]++List.replicate l.length eS,(Ea s k ds).2)))=some (.inl (mb (w∧∀ u∈(Ea s k ds).1::(Ey s l (Ea s k ds).2).1,u≠eS),done++((Ea s k ds).1::(Ey s l (Ea s k ds).2).1),(Ey s l (Ea s k ds).2).2)):=by
     intro w' hw
     show AL _ _ l (done.length+1) _=_
     rw [ih w']
     congr 2
     refine Prod.ext (Dh ?_) (Prod.ext (by simp) rfl)
     simp only [List.mem_cons,forall_eq_or_imp,hw]
     exact and_assoc
   by_cases hw:w
   · rw [Ac hw]
     by_cases hu:(Ea s k ds).1=eS
     · rw [Ac hu,mbF]
       exact fin False ⟨fun q=>q.elim,fun q=>q.2 hu⟩
     · rw [Ab hu,tL]
       exact fin True ⟨fun _=>⟨hw,hu⟩,fun _=>trivial⟩
   · rw [Ab hw,mbF]
     exact fin False ⟨fun q=>q.elim,fun q=>hw q.1⟩
section
variable {s:Sc} {n:Nd} {us:List ByteArray}
theorem u11 (h:n.kind=11):GH s n us=n.unit:=by unfold GH;rw [Ac h]
theorem u12 (h:n.kind=12):GH s n us=(s.facts.get n.name).getD eS:=by unfold GH;rw [Ab (by omega),Ac h]
theorem u13 (h:n.kind=13):GH s n us=(s.lines.get ((s.Af.get n.n).getD eS)).getD eS:=by unfold GH;rw [Ab (by omega),Ab (by omega),Ac h]
theorem u14 (h:n.kind=14):GH s n us=AF:=by unfold GH;rw [Ab (by omega),Ab (by omega),Ab (by omega),Ac h]
theorem u15 (h:n.kind=15):GH s n us=HY IP us:=by unfold GH;rw [Ab (by omega),Ab (by omega),Ab (by omega),Ab (by omega),Ac h]
theorem u16 (h:n.kind=16):GH s n us=HY n.name us:=by unfold GH;rw [Ab (by omega),Ab (by omega),Ab (by omega),Ab (by omega),Ab (by omega),Ac h]
theorem u17 (h:n.kind=17):GH s n us=HY K5 us:=by unfold GH;rw [Ab (by omega),Ab (by omega),Ab (by omega),Ab (by omega),Ab (by omega),Ab (by omega),Ac h]
theorem u18 (h:n.kind=18):GH s n us=AB (dW (us.headD eS)) (us.headD eS) eS:=by unfold GH;rw [Ab (by omega),Ab (by omega),Ab (by omega),Ab (by omega),Ab (by omega),Ab (by omega),Ab (by omega),Ac h]
theorem adp (h:n.kind=12∨n.kind=13):NQ n=91:=by
 unfold NQ
 by_cases e:n.kind=12
 · rw [Ac e]
 · rw [Ab e,Ac (h.resolve_left e)]
theorem aW (h1:n.kind≠12) (h2:n.kind≠13):NQ n=11:=by unfold NQ;rw [Ab h1,Ab h2]
end
theorem adl {n:Nd} (h:NW n) (hk:n.kind=15∨n.kind=16∨n.kind=17∨n.kind=18):0 < n.kids.length:=by
 rcases hk with e | e | e | e
 · have:=((qD e).1 h).1;omega
 · have:=((rP e).1 h).2.1;omega
 · have:=((lX e).1 h).2.2;omega
 · have:=((oI e).1 h).2.2;omega
theorem m8:∀ (q:Nat) (s:Sc) (n:Nd) (ds:List Dg),Lv n→DG n≤q→DG n≤2000→B3 q s n ds=some (Ea s n ds):=by
 intro q
 induction q with
 | zero=>intro s n ds _ h;have:=B6 n;omega
 | succ q ih =>
 intro s n ds he hq h2
 obtain ⟨hQ,hks⟩:=(JL n).1 he
 have hsz:=B6 n
 have hkl:=FG n.kids
 rw [B3,FE,UL]
 have hl:=Rd s n.kids ds
 have hf:=UD (s:=s) (g:=B3 q) (l:=n.kids) (done:=[]) (w:=True) (ds:=ds) fun k hk ds'=>ih s k ds' (hks k hk) (by have:=EY hk;omega) (by have:=EY hk;omega)
 simp only [List.nil_append,List.length_nil,true_and,← tL] at hf
 unfold p6
 rw [if_pos (by omega),Fy (by omega),List.drop_zero,hf]
 show cond (mb (∀ u∈(Ey s n.kids ds).1,u≠eS)) _ _=_
 unfold nH
 generalize hr:Ey s n.kids ds=r at *
 obtain ⟨us,ds2⟩:=r
 dsimp only at hl ⊢
 rw [← hl]
 simp only [BH,BV,B8,W3,Wg]
 rw [Sy]
 congr 1
 rw [Sy]
 have hne:=fun hk=>adl hQ hk
 have hul:us.length≤9223372036854775807:=by omega
 have hop:∀ op,0 < n.kids.length→C4 op us.length us=some (HY op us):=fun op h=>mM (fun e=>by rw [e] at hl;simp at hl;omega) hul
 rcases R5 hQ with k | k | k | k | k | k | k | k
 · rw [Ac k,u11 k,aW (by omega) (by omega)];rfl
 · rw [Ab (by omega),Ac k,u12 k,adp (.inl k)];rfl
 · rw [Ab (by omega),Ab (by omega),Ac k,u13 k,adp (.inr k)];rfl
 · rw [Ab (by omega),Ab (by omega),Ab (by omega),Ac k,u14 k,aW (by omega) (by omega)];rfl
 · rw [Ab (by omega),Ab (by omega),Ab (by omega),Ab (by omega),Ac k,u15 k,aW (by omega) (by omega),hop IP (hne (by omega))];rfl
 · rw [Ab (by omega),Ab (by omega),Ab (by omega),Ab (by omega),Ab (by omega),Ac k,u16 k,aW (by omega) (by omega),hop n.name (hne (by omega))];rfl
 · rw [Ab (by omega),Ab (by omega),Ab (by omega),Ab (by omega),Ab (by omega),Ab (by omega),Ac k,u17 k,aW (by omega) (by omega),hop K5 (hne (by omega))];rfl
 · rw [Ab (by omega),Ab (by omega),Ab (by omega),Ab (by omega),Ab (by omega),Ab (by omega),Ab (by omega),Ac k,u18 k,aW (by omega) (by omega)]
   have h0:=hne (by omega)
   cases us with
   | nil=>simp at hl;omega
   | cons a l =>
   have hk0:OW (a::l).length ((0:Nat):Int)=some 0:=by unfold OW;rw [if_pos (by simp only [List.length_cons];omega)];rfl
   rw [hk0]
   simp only [Option.bind_some,List.getElem?_cons_zero,List.headD_cons,BH]
   by_cases hc:dW a
   · rw [Ac hc,Ac hc]
   · rw [Ab hc,Ab hc,Ac trivial,Ac rfl]
theorem mV {s:Sc} {n:Nd} {ds:List Dg} (he:Lv n) (h:DG n≤2000):FD s n ds=some (Ea s n ds) :=
 Jw (DG n) fun q hq=>m8 q s n ds he hq h
end Mo
end Go.Proofs.YtnijkdknnmgoeaaGreat
