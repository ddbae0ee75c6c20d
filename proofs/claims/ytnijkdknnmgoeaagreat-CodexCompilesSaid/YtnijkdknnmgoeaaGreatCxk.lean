/- Part of a proof: see the last text. -/
import Derived.Test.YtnijkdknnmgoeaaGreatCxj
set_option linter.unusedVariables false
set_option linter.unusedSimpArgs false
namespace Go.Proofs.YtnijkdknnmgoeaaGreat
open AI Go
namespace Mo
set_option maxRecDepth 100000
set_option maxHeartbeats 4000000
noncomputable def B14:Code:=AY Tryz.f14
theorem b14:Tryz.f14.body=some B14:=by kernel_rfl
noncomputable def Ja  (y3a:(List Dc)) (y3b:(List Dc)) (y3c:(Mm ByteArray Int)) (y3d:(Mm ByteArray Int)) (y3e:(Mm Int Int)) (i0:Nat) (e0:Nd) (diags6:(List Dg)) (w6_2:(List Ar)):Option (Lp ((List Dg)×(List Ar)) ((List Dg)×(List Ar)) (Co×(List Dg))):=cond (Bp e0.kind 4) ((C1 (⟨(⟨y3a,y3b,w6_2⟩:Co),y3c,y3d,y3e⟩:Tr) e0).bind fun (y5a,y5b)=>Lt (diags6.length+y5a.length) (cond (Bp ((y5a.length:Nat):Int) 0) (some (.nx (diags6,y5b))) (some (.nx ((diags6++y5a),y5b))))) (some (.nx (diags6,w6_2)))
noncomputable def DK  (source:Nd):Option (Co×(List Dg)):=cond (Bp source.kind 1) ((DO source).bind fun y1=>cond y1 ((GU source).bind fun y2=>cond (DH 0 ((y2.length:Nat):Int)) (some ((⟨[],[],[]⟩:Co),y2)) ((D7 source).bind fun (y3a,y3b,y3c,y3d,y3e)=>(GW source.kids.length (AL (fun i y x=>Ja  y3a y3b y3c y3d y3e i y x.1 x.2) (fun x=>(x.1,x.2)) (source.kids.drop 0) 0 ([],[]))).bind (GQ (fun ((diags6_7,w6_2_7):((List Dg)×(List Ar)))=>cond (DH 0 ((diags6_7.length:Nat):Int)) (cond (Bp (cF ((diags6_7.length:Nat):Int) 20) ((diags6_7.length:Nat):Int)) (some ((⟨[],[],[]⟩:Co),diags6_7)) ((Jv diags6_7 0 (cF ((diags6_7.length:Nat):Int) 20)).bind fun l8=>some ((⟨[],[],[]⟩:Co),l8))) (some ((⟨y3a,y3b,w6_2_7⟩:Co),[]))) (fun v=>some v)))) (some ((⟨[],[],[]⟩:Co),[(⟨1,0⟩:Dg)]))) (some ((⟨[],[],[]⟩:Co),[(⟨1,0⟩:Dg)]))
theorem L4   {source:Nd} {yR:(Co×(List Dg))} (h:DK  source=some yR):Pure P G 14 [.agg (Bo source)] (.Bd [.agg (Wf yR.1),.sl .lost yR.2.length (rows BX yR.2)]):=by
 unfold DK at h
 refine BF Hd.mixed Hd.Aa (Ay Tryz.func14 b14 ?_) (AW (Am.Dp source) rfl) (AW (Hu.Dp yR.1) (AW (AO.Bk yR.2) rfl))
 revert h
 refine Ad (fun hb1=>?_) fun hb1=>?_
 refine Ah fun y1 hy1=>?_
 refine Ad (fun hv=>?_) fun hv=>?_
 subst hv
 refine Ah fun y2 hy2=>?_
 refine Ad (fun hb2=>?_) fun hb2=>?_
 rintro ⟨⟩
 exact Ap (v:=.Bd [.agg [.sl .full 0 [],.sl .full 0 [],.sl .full 0 []],.sl .lost y2.length (rows BX y2)]) _ _ (Ag 300 [pn hb1,An (EI hy1),An (Mq hy2),pb hb2]) (by kernel_rfl) .body (.wn (.u (.g (.z (.z (.z .nil))) (.r .nil)) .nil) (AW (Hu.Dp (⟨[],[],[]⟩:Co)) (AW (AO.Bk y2) rfl)))
 refine Ah ?_
 rintro ⟨y3a,y3b,y3c,y3d,y3e⟩ hy3
 dsimp only
 refine DF (fun Q v=>EQ P Tryz.f14 0 Q (.Bd [.agg (Wf v.1),.sl .lost v.2.length (rows BX v.2)])) (fun i0 ((diags6,w6_2):((List Dg)×(List Ar))) (j0:List Value)=>fr 58 [(2,.ptr 1 0),(5,.ptr 6 0),(6,.sl (.row 2 2) diags6.length (rows BX diags6)),(30,.sl .lost source.kids.length (Cg source.kids)),(31,.zi ((source.kids.length:Nat):Int)),(32,.zi ((i0:Nat):Int))] [11,12,14,15,16,24,33,38,47] j0) (fun ((diags6,w6_2):((List Dg)×(List Ar)))=>⟨[(6,.cells [.sl (.row 0 3) y3a.length (rows B7 y3a),.sl (.row 1 3) y3b.length (rows B7 y3b),.sl (.row 3 14) w6_2.length (rows FU w6_2),.mp 3,.mp 4,.mp 5]),(5,(BA y3e)),(4,(Bz y3d)),(3,(Bz y3c)),(1,.cells [.sl .full 0 [],.sl .full 0 [],.sl .full 0 []]),(0,.cells (Bo source))],7,[(3,w6_2.length),(2,diags6.length),(1,y3b.length),(0,y3a.length)],4⟩) (fun ((diags6,w6_2):((List Dg)×(List Ar))) (jx:List Value)=>fr 58 [(2,.ptr 1 0),(5,.ptr 6 0),(6,.sl (.row 2 2) diags6.length (rows BX diags6))] [11,12,14,15,16,24,33,38,47] jx) (fun ((diags6,w6_2):((List Dg)×(List Ar)))=>⟨[(6,.cells [.sl (.row 0 3) y3a.length (rows B7 y3a),.sl (.row 1 3) y3b.length (rows B7 y3b),.sl (.row 3 14) w6_2.length (rows FU w6_2),.mp 3,.mp 4,.mp 5]),(5,(BA y3e)),(4,(Bz y3d)),(3,(Bz y3c)),(1,.cells [.sl .full 0 [],.sl .full 0 [],.sl .full 0 []]),(0,.cells (Bo source))],7,[(3,w6_2.length),(2,diags6.length),(1,y3b.length),(0,y3a.length)],4⟩) [bF,bF,bT,bF,bF,bF] (Dq [.t 6 2,.b 6 2 14] 0 (sb B14 1012) [.code (sb B14 127)] (Ag 300 [pn hb1,An (EI hy1),An (Mq hy2),pb hb2,YY (v:=.ptr 6 0) (h:=[(6,.cells [.sl (.row 0 3) y3a.length (rows B7 y3a),.sl (.row 1 3) y3b.length (rows B7 y3b),.sl .full 0 [],.mp 3,.mp 4,.mp 5]),(5,(BA y3e)),(4,(Bz y3d)),(3,(Bz y3c))] ) (F:=[(1,y3b.length),(0,y3a.length)]) (Nm (LW hy3) 2 0)]) (by kernel_rfl)) ?_ ?_ ?_ (fun v h=>by cases h;exact .outer .body)
 rintro i0 ⟨diags6,w6_2⟩ j0 hge hq
 exact B1 (Ag 300 [pb (IJ hge)]) (by kernel_rfl) (hq (js 9 j0 [(6,bF)]))
 rintro i0 e0 ⟨diags6,w6_2⟩ j0 r he0 hi0 mi0 k
 show Ja  y3a y3b y3c y3d y3e i0 e0 diags6 w6_2=some r→_
 unfold Ja
 refine Ad (fun hb5=>?_) fun hb5=>?_
 refine Ah ?_
 rintro ⟨y5a,y5b⟩ hy5
 dsimp only
 refine Kz fun hl6=>?_
 let o1:LP:=[pb (Fk hi0),BT (BQ .lost he0),pb hb5,AG (K7 (J5 hy5) 6 3 4 5 0 1 3)]
 refine Ad (fun hb6=>?_) fun hb6=>?_
 rintro ⟨⟩
 exact Bt Hd.Aa [⟨.sl (.row 2 2) diags6.length (rows BX diags6),.sl (.row 2 2) diags6.length (rows BX diags6),(.under (CC rfl (Aj _ _ (AO.AW diags6))))⟩,fq (Am.Bk source.kids)] [bu [.sl (.row 0 3) y3a.length (rows B7 y3a),.sl (.row 1 3) y3b.length (rows B7 y3b),.sl (.row 3 14) y5b.length (rows FU y5b),.mp 3,.mp 4,.mp 5] (Av (CC rfl (Aj _ _ (Bl.AW y3a))) (Av (CC rfl (Aj _ _ (Bl.AW y3b))) (Av (CC rfl (Aj _ _ (CK.AW y5b))) (Av rfl (Av rfl (Av rfl rfl)))))),Bc y3e,Bq y3d,Bq y3c,bw (.cells [.sl .full 0 [],.sl .full 0 [],.sl .full 0 []]) (.cells [.sl .full 0 [],.sl .full 0 [],.sl .full 0 []]) (.cells (.plain (AW (Gx rfl) (AW (Gx rfl) (AW (Gx rfl) rfl))))),bp (Am.pl source)] (Ag 300 (o1++[pga (aeB (.row 2 2) diags6 y5a (o:=.lost) ⟨[(7,.cells (Bo e0)),(6,.cells [.sl (.row 0 3) y3a.length (rows B7 y3a),.sl (.row 1 3) y3b.length (rows B7 y3b),.sl (.row 3 14) y5b.length (rows FU y5b),.mp 3,.mp 4,.mp 5]),(5,(BA y3e)),(4,(Bz y3d)),(3,(Bz y3c)),(1,.cells [.sl .full 0 [],.sl .full 0 [],.sl .full 0 []]),(0,.cells (Bo source))],8,[(3,y5b.length),(2,diags6.length),(1,y3b.length),(0,y3a.length)],4⟩ (by have:=H2 hb6;omega) hl6),pi mi0])) (by kernel_rfl) (k (js 9 j0 [(6,bT),(7,bT)]))
 rintro ⟨⟩
 exact Bt Hd.Aa [⟨.sl (.row 2 2) ((diags6++y5a).length) (rows BX (diags6++y5a)),.sl (.row 2 2) ((diags6++y5a).length) (rows BX (diags6++y5a)),(.under (CC rfl (Aj _ _ (AO.AW (diags6++y5a)))))⟩,fq (Am.Bk source.kids)] [bu [.sl (.row 0 3) y3a.length (rows B7 y3a),.sl (.row 1 3) y3b.length (rows B7 y3b),.sl (.row 3 14) y5b.length (rows FU y5b),.mp 3,.mp 4,.mp 5] (Av (CC rfl (Aj _ _ (Bl.AW y3a))) (Av (CC rfl (Aj _ _ (Bl.AW y3b))) (Av (CC rfl (Aj _ _ (CK.AW y5b))) (Av rfl (Av rfl (Av rfl rfl)))))),Bc y3e,Bq y3d,Bq y3c,bw (.cells [.sl .full 0 [],.sl .full 0 [],.sl .full 0 []]) (.cells [.sl .full 0 [],.sl .full 0 [],.sl .full 0 []]) (.cells (.plain (AW (Gx rfl) (AW (Gx rfl) (AW (Gx rfl) rfl))))),bp (Am.pl source)] (Ag 300 (o1++[Nk (acn (.row 2 2) diags6 y5a (o:=.lost) (by have:=tD hb6;omega) hl6),pi mi0])) (by kernel_rfl) (k (js 9 j0 [(6,bT),(7,bT)]))
 rintro ⟨⟩
 exact Bt Hd.Aa [⟨.sl (.row 2 2) diags6.length (rows BX diags6),.sl (.row 2 2) diags6.length (rows BX diags6),(.under (CC rfl (Aj _ _ (AO.AW diags6))))⟩,fq (Am.Bk source.kids)] [bu [.sl (.row 0 3) y3a.length (rows B7 y3a),.sl (.row 1 3) y3b.length (rows B7 y3b),.sl (.row 3 14) w6_2.length (rows FU w6_2),.mp 3,.mp 4,.mp 5] (Av (CC rfl (Aj _ _ (Bl.AW y3a))) (Av (CC rfl (Aj _ _ (Bl.AW y3b))) (Av (CC rfl (Aj _ _ (CK.AW w6_2))) (Av rfl (Av rfl (Av rfl rfl)))))),Bc y3e,Bq y3d,Bq y3c,bw (.cells [.sl .full 0 [],.sl .full 0 [],.sl .full 0 []]) (.cells [.sl .full 0 [],.sl .full 0 [],.sl .full 0 []]) (.cells (.plain (AW (Gx rfl) (AW (Gx rfl) (AW (Gx rfl) rfl))))),bp (Am.pl source)] (Ag 300 [pb (Fk hi0),BT (BQ .lost he0),pb hb5,pi mi0]) (by kernel_rfl) (k (js 9 j0 [(6,bT),(7,bF)]))
 rintro ⟨diags6_7,w6_2_7⟩ jx_7
 dsimp only
 refine Ad (fun hb7=>?_) fun hb7=>?_
 refine Ad (fun hb8=>?_) fun hb8=>?_
 rintro ⟨⟩
 exact Ap (v:=.Bd [.agg [.sl .full 0 [],.sl .full 0 [],.sl .full 0 []],.sl (.row 2 2) diags6_7.length (rows BX diags6_7)]) _ _ (BJ 300 [pb hb7,pza,PA (aau (.row 2 2) hb8)]) (by kernel_rfl) .body (.wn (.u (.g (.z (.z (.z .nil))) (.s rfl .nil)) .nil) (AW (Hu.Dp (⟨[],[],[]⟩:Co)) (AW (AO.Bk diags6_7) rfl)))
 refine Ah fun l8 hl8=>?_
 rintro ⟨⟩
 exact Ap (v:=.Bd [.agg [.sl .full 0 [],.sl .full 0 [],.sl .full 0 []],.sl .lost l8.length (rows BX l8)]) _ _ (BJ 300 [pb hb7,pza,PA (zQ (.row 2 2) hl8 hb8)]) (by kernel_rfl) .body (.wn (.u (.g (.z (.z (.z .nil))) (.r .nil)) .nil) (AW (Hu.Dp (⟨[],[],[]⟩:Co)) (AW (AO.Bk l8) rfl)))
 rintro ⟨⟩
 exact Ap (v:=.Bd [.agg [.sl (.row 0 3) y3a.length (rows B7 y3a),.sl (.row 1 3) y3b.length (rows B7 y3b),.sl (.row 3 14) w6_2_7.length (rows FU w6_2_7)],.sl .full 0 []]) _ _ (BJ 300 [pb hb7]) (by kernel_rfl) .body (.wn (.u (.g (.s rfl (.s rfl (.s rfl .nil))) (.z .nil)) .nil) (AW (Hu.Dp (⟨y3a,y3b,w6_2_7⟩:Co)) (AW (AO.Bk []) rfl)))
 subst hv
 rintro ⟨⟩
 exact Ap (v:=.Bd [.agg [.sl .full 0 [],.sl .full 0 [],.sl .full 0 []],.sl .full 1 [.zi 1,.zi 0]]) _ _ (Ag 300 [pn hb1,An (EI hy1)]) (by kernel_rfl) .body (.wn (.u (.g (.z (.z (.z .nil))) (.d (.r (.r .nil)) (AO.eq [(⟨1,0⟩:Dg)]).symm .nil)) .nil) (AW (Hu.Dp (⟨[],[],[]⟩:Co)) (AW (AO.Bk [(⟨1,0⟩:Dg)]) rfl)))
 rintro ⟨⟩
 exact Ap (v:=.Bd [.agg [.sl .full 0 [],.sl .full 0 [],.sl .full 0 []],.sl .full 1 [.zi 1,.zi 0]]) _ _ (Ag 300 [pn hb1]) (by kernel_rfl) .body (.wn (.u (.g (.z (.z (.z .nil))) (.d (.r (.r .nil)) (AO.eq [(⟨1,0⟩:Dg)]).symm .nil)) .nil) (AW (Hu.Dp (⟨[],[],[]⟩:Co)) (AW (AO.Bk [(⟨1,0⟩:Dg)]) rfl)))
noncomputable def B26:Code:=AY Tryz.f26
theorem b26:Tryz.f26.body=some B26:=by kernel_rfl
noncomputable def Hc  (b:(List Int)) (i0:Nat) (e0:Int) :Option (Lp Unit Unit Bool):=(b[i0]?).bind fun x1=>cond (Bp e0 x1) (some (.nx ())) (some (.rt false))
noncomputable def Gn  (a:(List Int)) (b:(List Int)):Option Bool:=cond (Bp ((a.length:Nat):Int) ((b.length:Nat):Int)) ((GW a.length (AL (fun i y x=>Hc  b i y ) (fun x=>()) (a.drop 0) 0 ())).bind (GQ (fun (_:Unit)=>some true) (fun v=>some v))) (some false)
theorem Kr   {a:(List Int)} {b:(List Int)} {yR:Bool} (h:Gn  a b=some yR):Pure P G 26 [.sl .lost a.length (rows Qt a),.sl .lost b.length (rows Qt b)] (.zb yR):=by
 unfold Gn at h
 refine BF Hd.mixed Hd.Aa (Ay Tryz.func26 b26 ?_) (AW (Jb.Bk a) (AW (Jb.Bk b) rfl)) rfl
 revert h
 refine Ad (fun hb1=>?_) fun hb1=>?_
 refine DF (fun Q v=>EQ P Tryz.f26 0 Q (.zb v)) (fun i0 (_:Unit) (j0:List Value)=>fr 26 [(0,.sl .lost a.length (rows Qt a)),(1,.sl .lost b.length (rows Qt b)),(5,.zi ((i0:Nat):Int))] [4,10,14,25] j0) (fun (_:Unit)=>⟨[],0,[],0⟩) (fun (_:Unit) (jx:List Value)=>fr 26 [] [4,10,14,25] jx) (fun (_:Unit)=>⟨[],0,[],0⟩) [bF,bF] (Dq [] 0 (sb B26 116) [.code (sb B26 15)] (Ag 300 [pn hb1]) (by kernel_rfl)) ?_ ?_ ?_ (fun v h=>by cases h;exact .outer .body)
 rintro i0 ⟨⟩ j0 hge hq
 exact B1 (Ag 300 [pb (IJ hge)]) (by kernel_rfl) (hq (js 4 j0 [(2,bF)]))
 rintro i0 e0 ⟨⟩ j0 r he0 hi0 mi0 k
 show Hc  b i0 e0 =some r→_
 unfold Hc
 refine Ah fun x1 hx1=>?_
 refine Ad (fun hb2=>?_) fun hb2=>?_
 rintro ⟨⟩
 exact D9 (Ag 300 [pb (Fk hi0),BT (bR .lost he0),BT (bR .lost hx1),pn hb2,pi mi0]) (by kernel_rfl) (k (js 4 j0 [(2,bT),(3,bF)]))
 rintro ⟨⟩
 exact Ap _ _ (Ag 300 [pb (Fk hi0),BT (bR .lost he0),BT (bR .lost hx1),pn hb2]) (by kernel_rfl) (.Em k) .sc
 rintro ⟨⟩ jx_2
 rintro ⟨⟩
 exact Ap _ _ (BJ 300 []) (by kernel_rfl) .body .sc
 rintro ⟨⟩
 exact rT [pn hb1]
noncomputable def B73:Code:=AY Tryz.f73
theorem b73:Tryz.f73.body=some B73:=by kernel_rfl
noncomputable def G7  (b:Fn) (i0:Nat) (e0:Pc) :Option (Lp Unit Unit Bool):=(b.ps[i0]?).bind fun x1=>cond (MY e0 x1) (some (.nx ())) (some (.rt false))
noncomputable def Gg  (a:Fn) (b:Fn):Option Bool:=cond (Bp a.den b.den) (cond (Bp ((a.ps.length:Nat):Int) ((b.ps.length:Nat):Int)) ((GW a.ps.length (AL (fun i y x=>G7  b i y ) (fun x=>()) (a.ps.drop 0) 0 ())).bind (GQ (fun (_:Unit)=>some true) (fun v=>some v))) (some false)) (some false)
theorem Ot   {a:Fn} {b:Fn} {yR:Bool} (h:Gg  a b=some yR):Pure P G 73 [.agg (Uh a),.agg (Uh b)] (.zb yR):=by
 unfold Gg at h
 refine BF Hd.mixed Hd.Aa (Ay Tryz.func73 b73 ?_) (AW (L6.Dp a) (AW (L6.Dp b) rfl)) rfl
 revert h
 refine Ad (fun hb1=>?_) fun hb1=>?_
 refine Ad (fun hb2=>?_) fun hb2=>?_
 refine DF (fun Q v=>EQ P Tryz.f73 0 Q (.zb v)) (fun i0 (_:Unit) (j0:List Value)=>fr 38 [(2,.ptr 0 0),(3,.ptr 1 0),(5,.zi ((i0:Nat):Int))] [4,10,11,18,19,24,37] j0) (fun (_:Unit)=>⟨[(1,.cells (Uh b)),(0,.cells (Uh a))],2,[],0⟩) (fun (_:Unit) (jx:List Value)=>fr 38 [] [4,10,11,18,19,24,37] jx) (fun (_:Unit)=>⟨[(1,.cells (Uh b)),(0,.cells (Uh a))],2,[],0⟩) [bF,bF,bF,bF,bF] (Dq [] 0 (sb B73 116) [.code (sb B73 15)] (Ag 300 [pn hb1,pn hb2]) (by kernel_rfl)) ?_ ?_ ?_ (fun v h=>by cases h;exact .outer .body)
 rintro i0 ⟨⟩ j0 hge hq
 exact B1 (Ag 300 [pb (IJ hge)]) (by kernel_rfl) (hq (js 7 j0 [(5,bF)]))
 rintro i0 e0 ⟨⟩ j0 r he0 hi0 mi0 k
 show G7  b i0 e0 =some r→_
 unfold G7
 refine Ah fun x1 hx1=>?_
 refine Ad (fun hb3=>?_) fun hb3=>?_
 rintro ⟨⟩
 exact D9 (Ag 300 [pb (Fk hi0),BT (QB .lost he0),BT (QB .lost hx1),CD (VY hb3 (.tmp 31) (.tmp 36)),pi mi0]) (by kernel_rfl) (k (js 7 j0 [(5,bT),(6,bF)]))
 rintro ⟨⟩
 exact Ap _ _ (Ag 300 [pb (Fk hi0),BT (QB .lost he0),BT (QB .lost hx1),CD (VY hb3 (.tmp 31) (.tmp 36))]) (by kernel_rfl) (.Em k) .sc
 rintro ⟨⟩ jx_2
 rintro ⟨⟩
 exact Ap _ _ (BJ 300 []) (by kernel_rfl) .body .sc
 rintro ⟨⟩
 exact rT [pn hb1,pn hb2]
 rintro ⟨⟩
 exact rT [pn hb1]
noncomputable def B41:Code:=AY Tryz.f41
theorem b41:Tryz.f41.body=some B41:=by kernel_rfl
noncomputable def JV (GJ:Ex→Ex→Option Bool) (b:Ex) (i0:Nat) (e0:Ex) :Option (Lp Unit Unit Bool):=(b.kids[i0]?).bind fun x2=>(GJ e0 x2).bind fun y3=>cond y3 (some (.nx ())) (some (.rt false))
noncomputable def KN (GJ:Ex→Ex→Option Bool) (a:Ex) (b:Ex):Option Bool:=cond (Bp a.op b.op) (cond (Bp a.n b.n) (cond (BC a.unit.data.toList b.unit.data.toList) ((Gg a.tab b.tab).bind fun y1=>cond y1 (cond (Bp ((a.kids.length:Nat):Int) ((b.kids.length:Nat):Int)) ((GW a.kids.length (AL (fun i y x=>JV GJ b i y ) (fun x=>()) (a.kids.drop 0) 0 ())).bind (GQ (fun (_:Unit)=>some true) (fun v=>some v))) (some false)) (some false)) (some false)) (some false)) (some false)
theorem Ro (GJ:Ex→Ex→Option Bool) (T8:∀ {a:Ex} {b:Ex} {yR:Bool},GJ a b=some yR→Pure P G 41 [.agg (Er a),.agg (Er b)] (.zb yR)) {a:Ex} {b:Ex} {yR:Bool} (h:KN GJ a b=some yR):Pure P G 41 [.agg (Er a),.agg (Er b)] (.zb yR):=by
 unfold KN at h
 refine BF Hd.mixed Hd.Aa (Ay Tryz.func41 b41 ?_) (AW (By.Dp a) (AW (By.Dp b) rfl)) rfl
 revert h
 refine Ad (fun hb1=>?_) fun hb1=>?_
 refine Ad (fun hb2=>?_) fun hb2=>?_
 refine Ad (fun hb3=>?_) fun hb3=>?_
 refine Ah fun y1 hy1=>?_
 let o1:LP:=[pn hb1,pn hb2,pn hb3,An (Ot hy1)]
 refine Ad (fun hv=>?_) fun hv=>?_
 subst hv
 refine Ad (fun hb4=>?_) fun hb4=>?_
 refine DF (fun Q v=>EQ P Tryz.f41 0 Q (.zb v)) (fun i0 (_:Unit) (j0:List Value)=>fr 61 [(2,.ptr 0 0),(3,.ptr 1 0),(5,.zi ((i0:Nat):Int))] [4,10,11,16,17,18,23,24,25,30,31,32,33,40,41,46,59,60] j0) (fun (_:Unit)=>⟨[(1,.cells (Er b)),(0,.cells (Er a))],2,[],0⟩) (fun (_:Unit) (jx:List Value)=>fr 61 [] [4,10,11,16,17,18,23,24,25,30,31,32,33,40,41,46,59,60] jx) (fun (_:Unit)=>⟨[(1,.cells (Er b)),(0,.cells (Er a))],2,[],0⟩) [bF,bF,bF,bF,bF,bF,bF,bF,bF,bT,bF,bF,bF,bF,bF] (Dq [] 0 (sb B41 116) [.code (sb B41 15)] (Ag 300 (o1++[pn hb4])) (by kernel_rfl)) ?_ ?_ ?_ (fun v h=>by cases h;exact .outer .body)
 rintro i0 ⟨⟩ j0 hge hq
 exact B1 (Ag 300 [pb (IJ hge)]) (by kernel_rfl) (hq (js 18 j0 [(15,bF)]))
 rintro i0 e0 ⟨⟩ j0 r he0 hi0 mi0 k
 show JV GJ b i0 e0 =some r→_
 unfold JV
 refine Ah fun x2 hx2=>?_
 refine Ah fun y3 hy3=>?_
 let o2:LP:=[pb (Fk hi0),BT (No .lost he0),BT (No .lost hx2),An (T8 hy3)]
 refine Ad (fun hv=>?_) fun hv=>?_
 subst hv
 rintro ⟨⟩
 exact D9 (Ag 300 (o2++[pi mi0])) (by kernel_rfl) (k (js 18 j0 [(15,bT),(16,bT),(17,bF)]))
 subst hv
 rintro ⟨⟩
 exact Ap _ _ (Ag 300 o2) (by kernel_rfl) (.Em k) .sc
 rintro ⟨⟩ jx_4
 rintro ⟨⟩
 exact Ap _ _ (BJ 300 []) (by kernel_rfl) .body .sc
 rintro ⟨⟩
 exact rT (o1++[pn hb4])
 subst hv
 rintro ⟨⟩
 exact rT o1
 rintro ⟨⟩
 exact rT [pn hb1,pn hb2,pn hb3]
 rintro ⟨⟩
 exact rT [pn hb1,pn hb2]
 rintro ⟨⟩
 exact rT [pn hb1]
noncomputable def F4:Nat→Ex→Ex→Option Bool
 | 0,_,_=>none
 | qn+1,a,b=>KN (F4 qn) a b
theorem Sf:∀ qn:Nat,∀ {a:Ex} {b:Ex} {yR:Bool},F4 qn a b=some yR→Pure P G 41 [.agg (Er a),.agg (Er b)] (.zb yR):=by
 intro qn
 induction qn with
 | zero=>exact (fun h=>by simp only [F4] at h;cases h)
 | succ qn ih=>exact (fun h=>Ro (F4 qn) ih (by rw [F4] at h;exact h))
noncomputable def KK (a:Ex) (b:Ex):Option Bool:=W5 (fun qn=>F4 qn a b)
theorem OD {a:Ex} {b:Ex} {yR:Bool} (h:KK a b=some yR):Pure P G 41 [.agg (Er a),.agg (Er b)] (.zb yR):=by
 obtain ⟨qn,h⟩:=Ru h
 exact (Sf qn) h
noncomputable def B71:Code:=AY Tryz.f71
theorem b71:Tryz.f71.body=some B71:=by kernel_rfl
noncomputable def Gy  (b:(List Ex)) (i0:Nat) (e0:Ex) :Option (Lp Unit Unit Bool):=(b[i0]?).bind fun x1=>(KK e0 x1).bind fun y2=>cond y2 (some (.nx ())) (some (.rt false))
noncomputable def FV  (a:(List Ex)) (b:(List Ex)):Option Bool:=cond (Bp ((a.length:Nat):Int) ((b.length:Nat):Int)) ((GW a.length (AL (fun i y x=>Gy  b i y ) (fun x=>()) (a.drop 0) 0 ())).bind (GQ (fun (_:Unit)=>some true) (fun v=>some v))) (some false)
theorem NX   {a:(List Ex)} {b:(List Ex)} {yR:Bool} (h:FV  a b=some yR):Pure P G 71 [.sl .lost a.length (BL a),.sl .lost b.length (BL b)] (.zb yR):=by
 unfold FV at h
 refine BF Hd.mixed Hd.Aa (Ay Tryz.func71 b71 ?_) (AW (By.Bk a) (AW (By.Bk b) rfl)) rfl
 revert h
 refine Ad (fun hb1=>?_) fun hb1=>?_
 refine DF (fun Q v=>EQ P Tryz.f71 0 Q (.zb v)) (fun i0 (_:Unit) (j0:List Value)=>fr 27 [(0,.sl .lost a.length (BL a)),(1,.sl .lost b.length (BL b)),(5,.zi ((i0:Nat):Int))] [4,10,14,25,26] j0) (fun (_:Unit)=>⟨[],0,[],0⟩) (fun (_:Unit) (jx:List Value)=>fr 27 [] [4,10,14,25,26] jx) (fun (_:Unit)=>⟨[],0,[],0⟩) [bF,bF] (Dq [] 0 (sb B71 116) [.code (sb B71 15)] (Ag 300 [pn hb1]) (by kernel_rfl)) ?_ ?_ ?_ (fun v h=>by cases h;exact .outer .body)
 rintro i0 ⟨⟩ j0 hge hq
 exact B1 (Ag 300 [pb (IJ hge)]) (by kernel_rfl) (hq (js 5 j0 [(2,bF)]))
 rintro i0 e0 ⟨⟩ j0 r he0 hi0 mi0 k
 show Gy  b i0 e0 =some r→_
 unfold Gy
 refine Ah fun x1 hx1=>?_
 refine Ah fun y2 hy2=>?_
 let o1:LP:=[pb (Fk hi0),BT (No .lost he0),BT (No .lost hx1),An (OD hy2)]
 refine Ad (fun hv=>?_) fun hv=>?_
 subst hv
 rintro ⟨⟩
 exact D9 (Ag 300 (o1++[pi mi0])) (by kernel_rfl) (k [(jv j0 0),(jv j0 1),bT,bT,bF])
 subst hv
 rintro ⟨⟩
 exact Ap _ _ (Ag 300 o1) (by kernel_rfl) (.Em k) .sc
 rintro ⟨⟩ jx_3
 rintro ⟨⟩
 exact Ap _ _ (BJ 300 []) (by kernel_rfl) .body .sc
 rintro ⟨⟩
 exact rT [pn hb1]
noncomputable def B34:Code:=AY Tryz.f34
theorem b34:Tryz.f34.body=some B34:=by kernel_rfl
noncomputable def ER  (a:Ar) (b:Ar):Option Bool:=cond (Bp a.number b.number) (cond (Bp a.line b.line) (cond (Bp a.rank b.rank) (cond (Bp a.fr b.fr) (cond (Bp a.to b.to) (cond (Bp a.known b.known) ((FV a.wh b.wh).bind fun y1=>cond y1 ((Gn a.un b.un).bind fun y2=>cond y2 ((KK a.am b.am).bind fun y3=>some y3) (some false)) (some false)) (some false)) (some false)) (some false)) (some false)) (some false)) (some false)
theorem M1   {a:Ar} {b:Ar} {yR:Bool} (h:ER  a b=some yR):Pure P G 34 [.agg (FU a),.agg (FU b)] (.zb yR):=by
 unfold ER at h
 refine BF Hd.mixed Hd.Aa (Ay Tryz.func34 b34 ?_) (AW (CK.Dp a) (AW (CK.Dp b) rfl)) rfl
 revert h
 refine Ad (fun hb1=>?_) fun hb1=>?_
 refine Ad (fun hb2=>?_) fun hb2=>?_
 let o1:LP:=[pb hb1,pb hb2]
 refine Ad (fun hb3=>?_) fun hb3=>?_
 refine Ad (fun hb4=>?_) fun hb4=>?_
 refine Ad (fun hb5=>?_) fun hb5=>?_
 refine Ad (fun hb6=>?_) fun hb6=>?_
 refine Ah fun y1 hy1=>?_
 let o2:LP:=o1++[pb hb3,pb hb4,pb hb5,pb hb6,An (NX hy1)]
 refine Ad (fun hv=>?_) fun hv=>?_
 subst hv
 refine Ah fun y2 hy2=>?_
 refine Ad (fun hv=>?_) fun hv=>?_
 subst hv
 refine Ah fun y3 hy3=>?_
 rintro ⟨⟩
 exact rT (o2++[An (Kr hy2),An (OD hy3)])
 subst hv
 rintro ⟨⟩
 exact rT (o2++[An (Kr hy2)])
 subst hv
 rintro ⟨⟩
 exact rT o2
 rintro ⟨⟩
 exact rT (o1++[pb hb3,pb hb4,pb hb5,pb hb6])
 rintro ⟨⟩
 exact rT (o1++[pb hb3,pb hb4,pb hb5])
 rintro ⟨⟩
 exact rT (o1++[pb hb3,pb hb4])
 rintro ⟨⟩
 exact rT (o1++[pb hb3])
 rintro ⟨⟩
 exact rT [pb hb1,pb hb2]
 rintro ⟨⟩
 exact rT [pb hb1]
noncomputable def B54:Code:=AY Tryz.f54
theorem b54:Tryz.f54.body=some B54:=by kernel_rfl
noncomputable def GI  (b:(List Dc)) (i0:Nat) (e0:Dc) :Option (Lp Unit Unit Bool):=(b[i0]?).bind fun x1=>cond (LI e0 x1) (some (.nx ())) (some (.rt false))
noncomputable def ED  (a:(List Dc)) (b:(List Dc)):Option Bool:=cond (Bp ((a.length:Nat):Int) ((b.length:Nat):Int)) ((GW a.length (AL (fun i y x=>GI  b i y ) (fun x=>()) (a.drop 0) 0 ())).bind (GQ (fun (_:Unit)=>some true) (fun v=>some v))) (some false)
theorem F3   {a:(List Dc)} {b:(List Dc)} {yR:Bool} (h:ED  a b=some yR):Pure P G 54 [.sl .lost a.length (rows B7 a),.sl .lost b.length (rows B7 b)] (.zb yR):=by
 unfold ED at h
 refine BF Hd.mixed Hd.Aa (Ay Tryz.func54 b54 ?_) (AW (Bl.Bk a) (AW (Bl.Bk b) rfl)) rfl
 revert h
 refine Ad (fun hb1=>?_) fun hb1=>?_
 refine DF (fun Q v=>EQ P Tryz.f54 0 Q (.zb v)) (fun i0 (_:Unit) (j0:List Value)=>fr 26 [(0,.sl .lost a.length (rows B7 a)),(1,.sl .lost b.length (rows B7 b)),(5,.zi ((i0:Nat):Int))] [4,10,14,25] j0) (fun (_:Unit)=>⟨[],0,[],0⟩) (fun (_:Unit) (jx:List Value)=>fr 26 [] [4,10,14,25] jx) (fun (_:Unit)=>⟨[],0,[],0⟩) [bF,bF] (Dq [] 0 (sb B54 116) [.code (sb B54 15)] (Ag 300 [pn hb1]) (by kernel_rfl)) ?_ ?_ ?_ (fun v h=>by cases h;exact .outer .body)
 rintro i0 ⟨⟩ j0 hge hq
 exact B1 (Ag 300 [pb (IJ hge)]) (by kernel_rfl) (hq (js 4 j0 [(2,bF)]))
 rintro i0 e0 ⟨⟩ j0 r he0 hi0 mi0 k
 show GI  b i0 e0 =some r→_
 unfold GI
 refine Ah fun x1 hx1=>?_
 refine Ad (fun hb2=>?_) fun hb2=>?_
 rintro ⟨⟩
 exact D9 (Ag 300 [pb (Fk hi0),BT (fK .lost he0),BT (fK .lost hx1),CD (Uq hb2 (.tmp 20) (.tmp 24)),pi mi0]) (by kernel_rfl) (k (js 4 j0 [(2,bT),(3,bF)]))
 rintro ⟨⟩
 exact Ap _ _ (Ag 300 [pb (Fk hi0),BT (fK .lost he0),BT (fK .lost hx1),CD (Uq hb2 (.tmp 20) (.tmp 24))]) (by kernel_rfl) (.Em k) .sc
 rintro ⟨⟩ jx_2
 rintro ⟨⟩
 exact Ap _ _ (BJ 300 []) (by kernel_rfl) .body .sc
 rintro ⟨⟩
 exact rT [pn hb1]
noncomputable def B20:Code:=AY Tryz.f20
theorem b20:Tryz.f20.body=some B20:=by kernel_rfl
noncomputable def GM  (b:Co) (i0:Nat) (e0:Ar) :Option (Lp Unit Unit Bool):=(b.arts[i0]?).bind fun x3=>(ER e0 x3).bind fun y4=>cond y4 (some (.nx ())) (some (.rt false))
noncomputable def Db  (a:Co) (b:Co):Option Bool:=(ED a.facts b.facts).bind fun y1=>cond y1 ((ED a.lines b.lines).bind fun y2=>cond y2 (cond (Bp ((a.arts.length:Nat):Int) ((b.arts.length:Nat):Int)) ((GW a.arts.length (AL (fun i y x=>GM  b i y ) (fun x=>()) (a.arts.drop 0) 0 ())).bind (GQ (fun (_:Unit)=>some true) (fun v=>some v))) (some false)) (some false)) (some false)
theorem JZ   {a:Co} {b:Co} {yR:Bool} (h:Db  a b=some yR):Pure P G 20 [.agg (Wf a),.agg (Wf b)] (.zb yR):=by
 unfold Db at h
 refine BF Hd.mixed Hd.Aa (Ay Tryz.func20 b20 ?_) (AW (Hu.Dp a) (AW (Hu.Dp b) rfl)) rfl
 revert h
 refine Ah fun y1 hy1=>?_
 let o1:LP:=[An (F3 hy1)]
 refine Ad (fun hv=>?_) fun hv=>?_
 subst hv
 refine Ah fun y2 hy2=>?_
 refine Ad (fun hv=>?_) fun hv=>?_
 subst hv
 refine Ad (fun hb1=>?_) fun hb1=>?_
 refine DF (fun Q v=>EQ P Tryz.f20 0 Q (.zb v)) (fun i0 (_:Unit) (j0:List Value)=>fr 48 [(2,.ptr 0 0),(3,.ptr 1 0),(5,.zi ((i0:Nat):Int))] [4,10,11,12,17,18,19,20,27,28,33,46,47] j0) (fun (_:Unit)=>⟨[(1,.cells (Wf b)),(0,.cells (Wf a))],2,[],0⟩) (fun (_:Unit) (jx:List Value)=>fr 48 [] [4,10,11,12,17,18,19,20,27,28,33,46,47] jx) (fun (_:Unit)=>⟨[(1,.cells (Wf b)),(0,.cells (Wf a))],2,[],0⟩) [bF,bT,bF,bF,bT,bF,bF,bF,bF,bF] (Dq [] 0 (sb B20 116) [.code (sb B20 15)] (Ag 300 (o1++[An (F3 hy2),pn hb1])) (by kernel_rfl)) ?_ ?_ ?_ (fun v h=>by cases h;exact .outer .body)
 rintro i0 ⟨⟩ j0 hge hq
 exact B1 (Ag 300 [pb (IJ hge)]) (by kernel_rfl) (hq (js 13 j0 [(10,bF)]))
 rintro i0 e0 ⟨⟩ j0 r he0 hi0 mi0 k
 show GM  b i0 e0 =some r→_
 unfold GM
 refine Ah fun x3 hx3=>?_
 refine Ah fun y4 hy4=>?_
 let o2:LP:=[pb (Fk hi0),BT (pW .lost he0),BT (pW .lost hx3),An (M1 hy4)]
 refine Ad (fun hv=>?_) fun hv=>?_
 subst hv
 rintro ⟨⟩
 exact D9 (Ag 300 (o2++[pi mi0])) (by kernel_rfl) (k (js 13 j0 [(10,bT),(11,bT),(12,bF)]))
 subst hv
 rintro ⟨⟩
 exact Ap _ _ (Ag 300 o2) (by kernel_rfl) (.Em k) .sc
 rintro ⟨⟩ jx_5
 rintro ⟨⟩
 exact Ap _ _ (BJ 300 []) (by kernel_rfl) .body .sc
 rintro ⟨⟩
 exact rT (o1++[An (F3 hy2),pn hb1])
 subst hv
 rintro ⟨⟩
 exact rT (o1++[An (F3 hy2)])
 subst hv
 rintro ⟨⟩
 exact rT o1
noncomputable def B92:Code:=AY Tryz.f92
theorem b92:Tryz.f92.body=some B92:=by kernel_rfl
noncomputable def HG  (text:ByteArray):Option Bool:=(DO (⟨12,text,ByteArray.empty,0,0,0,0,(⟨0,[]⟩:Fn),[],0⟩:Nd)).bind fun y1=>some y1
theorem PV   {text:ByteArray} {yR:Bool} (h:HG  text=some yR):Pure P G 92 [.zs text] (.zb yR):=by
 unfold HG at h
 refine BF Hd.mixed Hd.Aa (Ay Tryz.func92 b92 ?_) (AW rfl rfl) rfl
 revert h
 refine Ah fun y1 hy1=>?_
 rintro ⟨⟩
 exact rT [Fl (.g (.r (.r (.r (.r (.r (.r (.r (.r (.z (.z (.r .nil))))))))))) .nil) (EI hy1)]
noncomputable def vV:Code:=AY Tryz.f139
theorem ad3:Tryz.f139.body=some vV:=by kernel_rfl
noncomputable def Jm   (i0:Nat) (e0:UInt8) :Option (Lp Unit Unit Bool):=cond (DH ((e0.toNat:Nat):Int) 65) (some (.rt false)) (cond (DH 90 ((e0.toNat:Nat):Int)) (some (.rt false)) (some (.nx ())))
noncomputable def E6  (unit:ByteArray):Option Bool:=cond (Bp ((unit.data.toList.length:Nat):Int) 3) ((GW unit.data.toList.length (AL (fun i y x=>Jm   i y ) (fun x=>()) (unit.data.toList.drop 0) 0 ())).bind (GQ (fun (_:Unit)=>some true) (fun v=>some v))) (some false)
theorem Fe   {unit:ByteArray} {yR:Bool} (h:E6  unit=some yR):Pure P G 139 [.zs unit] (.zb yR):=by
 unfold E6 at h
 refine BF Hd.mixed Hd.Aa (Ay Tryz.func139 ad3 ?_) (AW rfl rfl) rfl
 revert h
 refine Ad (fun hb1=>?_) fun hb1=>?_
 refine DF (fun Q v=>EQ P Tryz.f139 0 Q (.zb v)) (fun i0 (_:Unit) (j0:List Value)=>fr 23 [(0,.zs unit),(8,.zi ((unit.data.toList.length:Nat):Int)),(9,.zi ((i0:Nat):Int))] [2,6,10,15,16,20,21] j0) (fun (_:Unit)=>⟨[],0,[],0⟩) (fun (_:Unit) (jx:List Value)=>fr 23 [] [2,6,10,15,16,20,21] jx) (fun (_:Unit)=>⟨[],0,[],0⟩) [bF,bF] (Dq [] 0 (sb vV 116) [.code (sb vV 15)] (Ag 300 [pn hb1]) (by kernel_rfl)) ?_ ?_ ?_ (fun v h=>by cases h;exact .outer .body)
 rintro i0 ⟨⟩ j0 hge hq
 exact B1 (Ag 300 [pb (IJ hge)]) (by kernel_rfl) (hq (js 7 j0 [(2,bF)]))
 rintro i0 e0 ⟨⟩ j0 r he0 hi0 mi0 k
 show Jm   i0 e0 =some r→_
 unfold Jm
 refine Ad (fun hb2=>?_) fun hb2=>?_
 rintro ⟨⟩
 exact Ap _ _ (Ag 300 [pb (Fk hi0),R6 (KP he0),pb hb2]) (by kernel_rfl) (.Em k) .sc
 refine Ad (fun hb3=>?_) fun hb3=>?_
 rintro ⟨⟩
 exact Ap _ _ (Ag 300 [pb (Fk hi0),R6 (KP he0),pb hb2,R6 (KP he0),pb hb3]) (by kernel_rfl) (.Em k) .sc
 rintro ⟨⟩
 exact D9 (Ag 300 [pb (Fk hi0),R6 (KP he0),pb hb2,R6 (KP he0),pb hb3,pi mi0]) (by kernel_rfl) (k [(jv j0 0),(jv j0 1),bT,bF,bF,bF,bF])
 rintro ⟨⟩ jx_1
 rintro ⟨⟩
 exact Ap _ _ (BJ 300 []) (by kernel_rfl) .body .sc
 rintro ⟨⟩
 exact rT [pn hb1]
noncomputable def B93:Code:=AY Tryz.f93
theorem b93:Tryz.f93.body=some B93:=by kernel_rfl
noncomputable def Gt  (text:ByteArray):Option Bool:=cond (BC text.data.toList Ak.data.toList) (some true) (cond (BC text.data.toList AF.data.toList) (some true) (cond (BC text.data.toList BM.data.toList) (some true) ((E6 text).bind fun y1=>some y1)))
theorem Je   {text:ByteArray} {yR:Bool} (h:Gt  text=some yR):Pure P G 93 [.zs text] (.zb yR):=by
 unfold Gt at h
 refine BF Hd.mixed Hd.Aa (Ay Tryz.func93 b93 ?_) (AW rfl rfl) rfl
 revert h
 refine Ad (fun hb1=>?_) fun hb1=>?_
 rintro ⟨⟩
 exact rT [pb hb1]
 refine Ad (fun hb2=>?_) fun hb2=>?_
 rintro ⟨⟩
 exact rT [pb hb1,pb hb2]
 refine Ad (fun hb3=>?_) fun hb3=>?_
 rintro ⟨⟩
 exact rT [pb hb1,pb hb2,pb hb3]
 refine Ah fun y1 hy1=>?_
 rintro ⟨⟩
 exact rT [pb hb1,pb hb2,pb hb3,An (Fe hy1)]
noncomputable def B55:Code:=AY Tryz.f55
theorem b55:Tryz.f55.body=some B55:=by kernel_rfl
noncomputable def GG  (least:Int) (most:Int) (i0:Nat) (e0:Dc) (w0_m:(Mm ByteArray Bool)):Option (Lp (Mm ByteArray Bool) (Mm ByteArray Bool) Bool):=(HG e0.name).bind fun y1=>cond y1 (cond ((w0_m.get e0.name).getD false) (some (.rt false)) ((Gt e0.unit).bind fun y2=>cond y2 (cond (DH e0.role least) (some (.rt false)) (cond (DH most e0.role) (some (.rt false)) (some (.nx (w0_m.set e0.name true))))) (some (.rt false)))) (some (.rt false))
noncomputable def Es  (list:(List Dc)) (least:Int) (most:Int):Option Bool:=(GW list.length (AL (fun i y x=>GG  least most i y x) (fun x=>x) (list.drop 0) 0 (Mm.nil:Mm ByteArray Bool))).bind (GQ (fun (w0_m_3:(Mm ByteArray Bool))=>some true) (fun v=>some v))
theorem Hs   {list:(List Dc)} {least:Int} {most:Int} {yR:Bool} (h:Es  list least most=some yR):Pure P G 55 [.sl .lost list.length (rows B7 list),.zi least,.zi most] (.zb yR):=by
 unfold Es at h
 refine BF Hd.mixed Hd.Aa (Ay Tryz.func55 b55 ?_) (AW (Bl.Bk list) (AW rfl (AW rfl rfl))) rfl
 revert h
 refine DF (fun Q v=>EQ P Tryz.f55 0 Q (.zb v)) (fun i0 (w0_m:(Mm ByteArray Bool)) (j0:List Value)=>fr 49 [(1,.zi least),(2,.zi most),(7,.mp 0),(11,.sl .lost list.length (rows B7 list)),(12,.zi ((list.length:Nat):Int)),(13,.zi ((i0:Nat):Int))] [6,14,19,20,21,25,26,27,30,31,32,33,37,38,39,43,44] j0) (fun (w0_m:(Mm ByteArray Bool))=>⟨[(0,(TQ w0_m))],1,[],0⟩) (fun (w0_m:(Mm ByteArray Bool)) (jx:List Value)=>fr 49 [] [6,14,19,20,21,25,26,27,30,31,32,33,37,38,39,43,44] jx) (fun (w0_m:(Mm ByteArray Bool))=>⟨[(0,(TQ w0_m))],1,[],0⟩) [bF] (Dq [] 0 (sb B55 116) [.code (sb B55 15)] (Ag 300 []) (by kernel_rfl)) ?_ ?_ ?_ (fun v h=>by cases h;exact .outer .body)
 rintro i0 w0_m j0 hge hq
 exact B1 (Ag 300 [pb (IJ hge)]) (by kernel_rfl) (hq (js 17 j0 [(1,bF)]))
 rintro i0 e0 w0_m j0 r he0 hi0 mi0 k
 show GG  least most i0 e0 w0_m=some r→_
 unfold GG
 refine Ah fun y1 hy1=>?_
 let o1:LP:=[pb (Fk hi0),BT (fK .lost he0),An (PV hy1)]
 refine Ad (fun hv=>?_) fun hv=>?_
 subst hv
 refine Ad (fun hb1=>?_) fun hb1=>?_
 rintro ⟨⟩
 exact Ap _ _ (Ag 300 (o1++[Ko (QS w0_m e0.name hb1)])) (by kernel_rfl) (.Em k) .sc
 refine Ah fun y2 hy2=>?_
 let o2:LP:=o1++[Ko (QS w0_m e0.name hb1),An (Je hy2)]
 refine Ad (fun hv=>?_) fun hv=>?_
 subst hv
 refine Ad (fun hb2=>?_) fun hb2=>?_
 rintro ⟨⟩
 exact Ap _ _ (Ag 300 (o2++[pb hb2])) (by kernel_rfl) (.Em k) .sc
 refine Ad (fun hb3=>?_) fun hb3=>?_
 rintro ⟨⟩
 exact Ap _ _ (Ag 300 (o2++[pb hb2,pb hb3])) (by kernel_rfl) (.Em k) .sc
 rintro ⟨⟩
 exact Bt Hd.Aa [fq (Bl.Bk list)] [Ig (w0_m.set e0.name true)] (Ag 300 (o2++[pb hb2,pb hb3,VS (OC w0_m e0.name true),pi mi0])) (by kernel_rfl) (k [(jv j0 0),bT,bT,bF,bF,bF,bF,bF,bT,bF,bF,bF,bF,bF,bF,bF,bF])
 subst hv
 rintro ⟨⟩
 exact Ap _ _ (Ag 300 o2) (by kernel_rfl) (.Em k) .sc
 subst hv
 rintro ⟨⟩
 exact Ap _ _ (Ag 300 o1) (by kernel_rfl) (.Em k) .sc
 rintro w0_m_3 jx_3
 rintro ⟨⟩
 exact Ap _ _ (BJ 300 []) (by kernel_rfl) .body .sc
noncomputable def zH:Code:=AY Tryz.f169
theorem aea:Tryz.f169.body=some zH:=by kernel_rfl
noncomputable def GA  (f:Fn) (i0:Nat) (e0:Pc) :Option (Lp Unit Unit Bool):=cond (Bp ((i0:Nat):Int) 0) (cond (Bp e0.fr 0) (cond (DH e0.slope (-1000000)) (some (.rt false)) (cond (DH 1000000 e0.slope) (some (.rt false)) (cond (DH e0.att (-1000000000000000000)) (some (.rt false)) (cond (DH 1000000000000000000 e0.att) (some (.rt false)) (some (.nx ())))))) (some (.rt false))) (cond (DH 0 ((i0:Nat):Int)) ((CP f.ps (Ua ((i0:Nat):Int) 1)).bind fun x1=>cond (Kt e0.fr x1.fr) (some (.rt false)) (cond (DH 1000000000000 e0.fr) (some (.rt false)) (cond (DH e0.slope (-1000000)) (some (.rt false)) (cond (DH 1000000 e0.slope) (some (.rt false)) (cond (DH e0.att (-1000000000000000000)) (some (.rt false)) (cond (DH 1000000000000000000 e0.att) (some (.rt false)) (some (.nx ())))))))) (cond (DH e0.slope (-1000000)) (some (.rt false)) (cond (DH 1000000 e0.slope) (some (.rt false)) (cond (DH e0.att (-1000000000000000000)) (some (.rt false)) (cond (DH 1000000000000000000 e0.att) (some (.rt false)) (some (.nx ())))))))
noncomputable def FY  (f:Fn):Option Bool:=cond (DH f.den 1) (some false) (cond (DH 1000000 f.den) (some false) (cond (DH ((f.ps.length:Nat):Int) 1) (some false) (cond (DH 64 ((f.ps.length:Nat):Int)) (some false) ((GW f.ps.length (AL (fun i y x=>GA  f i y ) (fun x=>()) (f.ps.drop 0) 0 ())).bind (GQ (fun (_:Unit)=>some true) (fun v=>some v))))))
theorem Ny   {f:Fn} {yR:Bool} (h:FY  f=some yR):Pure P G 169 [.agg (Uh f)] (.zb yR):=by
 unfold FY at h
 refine BF Hd.mixed Hd.Aa (Ay Tryz.func169 aea ?_) (AW (L6.Dp f) rfl) rfl
 revert h
 refine Ad (fun hb1=>?_) fun hb1=>?_
 rintro ⟨⟩
 exact rT [pb hb1]
 refine Ad (fun hb2=>?_) fun hb2=>?_
 rintro ⟨⟩
 exact rT [pb hb1,pb hb2]
 refine Ad (fun hb3=>?_) fun hb3=>?_
 rintro ⟨⟩
 exact rT [pb hb1,pb hb2,pb hb3]
 refine Ad (fun hb4=>?_) fun hb4=>?_
 rintro ⟨⟩
 exact rT [pb hb1,pb hb2,pb hb3,pb hb4]
 refine DF (fun Q v=>EQ P Tryz.f169 0 Q (.zb v)) (fun i0 (_:Unit) (j0:List Value)=>fr 78 [(1,.ptr 0 0),(26,.sl .lost f.ps.length (rows GY f.ps)),(27,.zi ((f.ps.length:Nat):Int)),(28,.zi ((i0:Nat):Int))] [2,7,8,11,12,13,17,18,19,23,24,29,34,35,38,39,41,42,52,53,56,57,58,61,62,65,66,67,70,71,72,75,76] j0) (fun (_:Unit)=>⟨[(0,.cells (Uh f))],1,[],0⟩) (fun (_:Unit) (jx:List Value)=>fr 78 [] [2,7,8,11,12,13,17,18,19,23,24,29,34,35,38,39,41,42,52,53,56,57,58,61,62,65,66,67,70,71,72,75,76] jx) (fun (_:Unit)=>⟨[(0,.cells (Uh f))],1,[],0⟩) [bF,bF,bF,bF,bF,bF,bF,bF,bF,bF,bF] (Dq [] 0 (sb zH 116) [.code (sb zH 15)] (Ag 300 [pb hb1,pb hb2,pb hb3,pb hb4]) (by kernel_rfl)) ?_ ?_ ?_ (fun v h=>by cases h;exact .outer .body)
 rintro i0 ⟨⟩ j0 hge hq
 exact B1 (Ag 300 [pb (IJ hge)]) (by kernel_rfl) (hq (js 33 j0 [(11,bF)]))
 rintro i0 e0 ⟨⟩ j0 r he0 hi0 mi0 k
 show GA  f i0 e0 =some r→_
 unfold GA
 let o1:LP:=[pb (Fk hi0),BT (QB .lost he0)]
 refine Ad (fun hb5=>?_) fun hb5=>?_
 refine Ad (fun hb6=>?_) fun hb6=>?_
 let o2:LP:=o1++[pb hb5,pn hb6,pb (B:=DH 0 ((i0:Nat):Int)) (b:=false) (fL (by have:=H2 hb5;omega))]
 refine Ad (fun hb7=>?_) fun hb7=>?_
 rintro ⟨⟩
 exact Ap _ _ (Ag 300 (o2++[pb hb7])) (by kernel_rfl) (.Em k) .sc
 refine Ad (fun hb8=>?_) fun hb8=>?_
 rintro ⟨⟩
 exact Ap _ _ (Ag 300 (o2++[pb hb7,pb hb8])) (by kernel_rfl) (.Em k) .sc
 refine Ad (fun hb9=>?_) fun hb9=>?_
 rintro ⟨⟩
 exact Ap _ _ (Ag 300 (o2++[pb hb7,pb hb8,pb hb9])) (by kernel_rfl) (.Em k) .sc
 refine Ad (fun hb10=>?_) fun hb10=>?_
 rintro ⟨⟩
 exact Ap _ _ (Ag 300 (o2++[pb hb7,pb hb8,pb hb9,pb hb10])) (by kernel_rfl) (.Em k) .sc
 rintro ⟨⟩
 exact Bt Hd.Aa [fq (Ch.Bk f.ps)] [bp (L6.pl f)] (Ag 300 (o2++[pb hb7,pb hb8,pb hb9,pb hb10,pi mi0])) (by kernel_rfl) (k [(jv j0 0),(jv j0 1),(jv j0 2),(jv j0 3),(jv j0 4),(jv j0 5),(jv j0 6),(jv j0 7),(jv j0 8),(jv j0 9),(jv j0 10),bT,bT,bT,bF,bF,bF,bF,undef,undef,undef,undef,bF,bF,bF,bF,bF,bF,bF,bF,bF,bF,bF])
 rintro ⟨⟩
 exact Ap _ _ (Ag 300 (o1++[pb hb5,pn hb6])) (by kernel_rfl) (.Em k) .sc
 let o3:LP:=o1++[pb hb5]
 refine Ad (fun hb11=>?_) fun hb11=>?_
 refine Ah fun x1 hx1=>?_
 let o4:LP:=o3++[pb hb11,pk,BT (Z2 .lost hx1)]
 refine Ad (fun hb12=>?_) fun hb12=>?_
 rintro ⟨⟩
 exact Ap _ _ (Ag 300 (o4++[pb hb12])) (by kernel_rfl) (.Em k) .sc
 refine Ad (fun hb13=>?_) fun hb13=>?_
 rintro ⟨⟩
 exact Ap _ _ (Ag 300 (o4++[pb hb12,pb hb13])) (by kernel_rfl) (.Em k) .sc
 refine Ad (fun hb14=>?_) fun hb14=>?_
 rintro ⟨⟩
 exact Ap _ _ (Ag 300 (o4++[pb hb12,pb hb13,pb hb14])) (by kernel_rfl) (.Em k) .sc
 let o5:LP:=o4++[pb hb12,pb hb13,pb hb14]
 refine Ad (fun hb15=>?_) fun hb15=>?_
 rintro ⟨⟩
 exact Ap _ _ (Ag 300 (o5++[pb hb15])) (by kernel_rfl) (.Em k) .sc
 refine Ad (fun hb16=>?_) fun hb16=>?_
 rintro ⟨⟩
 exact Ap _ _ (Ag 300 (o5++[pb hb15,pb hb16])) (by kernel_rfl) (.Em k) .sc
 refine Ad (fun hb17=>?_) fun hb17=>?_
 rintro ⟨⟩
 exact Ap _ _ (Ag 300 (o5++[pb hb15,pb hb16,pb hb17])) (by kernel_rfl) (.Em k) .sc
 rintro ⟨⟩
 exact Bt Hd.Aa [fq (Ch.Bk f.ps)] [bp (L6.pl f)] (Ag 300 (o5++[pb hb15,pb hb16,pb hb17,pi mi0])) (by kernel_rfl) (k [(jv j0 0),(jv j0 1),(jv j0 2),(jv j0 3),(jv j0 4),(jv j0 5),(jv j0 6),(jv j0 7),(jv j0 8),(jv j0 9),(jv j0 10),bT,bF,bF,undef,bF,bT,bT,bF,bF,bF,bF,bF,bF,bF,bF,bF,bF,bF,bF,bF,bF,bF])
 refine Ad (fun hb18=>?_) fun hb18=>?_
 rintro ⟨⟩
 exact Ap _ _ (Ag 300 (o3++[pb hb11,pb hb18])) (by kernel_rfl) (.Em k) .sc
 refine Ad (fun hb19=>?_) fun hb19=>?_
 rintro ⟨⟩
 exact Ap _ _ (Ag 300 (o3++[pb hb11,pb hb18,pb hb19])) (by kernel_rfl) (.Em k) .sc
 refine Ad (fun hb20=>?_) fun hb20=>?_
 rintro ⟨⟩
 exact Ap _ _ (Ag 300 (o3++[pb hb11,pb hb18,pb hb19,pb hb20])) (by kernel_rfl) (.Em k) .sc
 refine Ad (fun hb21=>?_) fun hb21=>?_
 rintro ⟨⟩
 exact Ap _ _ (Ag 300 (o3++[pb hb11,pb hb18,pb hb19,pb hb20,pb hb21])) (by kernel_rfl) (.Em k) .sc
 rintro ⟨⟩
 exact Bt Hd.Aa [fq (Ch.Bk f.ps)] [bp (L6.pl f)] (Ag 300 (o3++[pb hb11,pb hb18,pb hb19,pb hb20,pb hb21,pi mi0])) (by kernel_rfl) (k [(jv j0 0),(jv j0 1),(jv j0 2),(jv j0 3),(jv j0 4),(jv j0 5),(jv j0 6),(jv j0 7),(jv j0 8),(jv j0 9),(jv j0 10),bT,bF,bF,undef,bF,bF,bF,undef,undef,undef,undef,bF,bF,bF,bF,bF,bF,bF,bF,bF,bF,bF])
 rintro ⟨⟩ jx_2
 rintro ⟨⟩
 exact Ap _ _ (BJ 300 []) (by kernel_rfl) .body .sc
noncomputable def aeo:Code:=AY Tryz.f170
theorem aeJ:Tryz.f170.body=some aeo:=by kernel_rfl
noncomputable def ES  (f:Ft) (e:Ex):Option Bool:=cond (Bp e.op 1) (cond (Kt 0 e.n) (cond (Kt e.n 999999999999) (cond (BC e.unit.data.toList Ak.data.toList) (cond (Kt e.n 1) (some true) (some false)) (some true)) (some false)) (some false)) (cond (Bp e.op 2) (cond (Kt 0 e.n) (cond (DH e.n ((f.codex.facts.length:Nat):Int)) ((CP f.codex.facts e.n).bind fun x1=>cond (BC e.unit.data.toList x1.unit.data.toList) (some true) (some false)) (some false)) (some false)) (cond (Bp e.op 3) (cond ((f.lines.get e.n).isSome) ((CP f.codex.lines ((f.lines.get e.n).getD 0)).bind fun x2=>cond (BC e.unit.data.toList x2.unit.data.toList) (some true) (some false)) (some false)) (cond (Kt 1 e.n) (cond (Kt e.n 4) (cond (BC e.unit.data.toList AF.data.toList) (some true) (some false)) (some false)) (some false))))
theorem On {f:Ft} {e:Ex} {yR:Bool} (hS:Sound P G (.call 170 [.ptr 0 0,.agg (Er e)] ⟨[(1,(BA f.lines)),(0,.cells (Jy 1 f))],2,[],0⟩ (.ret (.zb yR)) ⟨[(1,(BA f.lines)),(0,.cells (Jy 1 f))],2,[],0⟩)) (u0 u1:Nat) (hnb:([u0,u1]:List Nat).Nodup:=by decide) (hnt:([]:List Nat).Nodup:=by decide):Cd.ok P G (.callU 170 [.ptr u0 0,.agg (Er e)] (.ret (.zb yR)) [(u0,.cells (Jy u1 f)),(u1,(BA f.lines))] [] [(u0,.cells (Jy u1 f)),(u1,(BA f.lines))] []) :=
 CS (M:=[.cells (Jy 1 f),(BA f.lines)]) (M2:=[.cells (Jy 1 f),(BA f.lines)]) (T:=[]) (T2:=[]) (k:=2) (j:=0) Hd.Aa _ _ _ _ hS rfl rfl rfl rfl rfl hnb hnt rfl rfl (.cons (.cells (SS f (by decide))) (.cons (BK (fun _=>rfl)) .nil)) (.cons (.cells (SS f (by decide))) (.cons (BK (fun _=>rfl)) .nil)) (.cons (.ptr (by decide)) (.cons (.pl (By.Dp e)) .nil)) (.pl rfl) (by
   intro e he
   simp only [List.mem_cons,List.not_mem_nil,or_false] at he
   rcases he with rfl | rfl
   · exact (.arg (.here .ptr))
   · exact (.box (p:=0) (.arg (.here .ptr)) rfl (.there (.there (.there (.here .mp)))))
   )
theorem MT   {f:Ft} {e:Ex} {yR:Bool} (h:ES  f e=some yR):Sound P G (.call 170 [.ptr 0 0,.agg (Er e)] ⟨[(1,(BA f.lines)),(0,.cells (Jy 1 f))],2,[],0⟩ (.ret (.zb yR)) ⟨[(1,(BA f.lines)),(0,.cells (Jy 1 f))],2,[],0⟩):=by
 unfold ES at h
 refine CT Hd.mixed (Ay Tryz.func170 aeJ ?_)
 revert h
 refine Ad (fun hb1=>?_) fun hb1=>?_
 refine Ad (fun hb2=>?_) fun hb2=>?_
 refine Ad (fun hb3=>?_) fun hb3=>?_
 refine Ad (fun hb4=>?_) fun hb4=>?_
 refine Ad (fun hb5=>?_) fun hb5=>?_
 rintro ⟨⟩
 exact Ao Hd.Aa _ _ [] [Bc f.lines,bu (Jy 1 f) (E0 rfl)] (Ag 300 [pb hb1,pb hb2,pb hb3,pn hb4,pb hb5]) (by kernel_rfl) .body
 rintro ⟨⟩
 exact Ao Hd.Aa _ _ [] [Bc f.lines,bu (Jy 1 f) (E0 rfl)] (Ag 300 [pb hb1,pb hb2,pb hb3,pn hb4,pb hb5]) (by kernel_rfl) .body
 rintro ⟨⟩
 exact Ao Hd.Aa _ _ [] [Bc f.lines,bu (Jy 1 f) (E0 rfl)] (Ag 300 [pb hb1,pb hb2,pb hb3,pn hb4]) (by kernel_rfl) .body
 rintro ⟨⟩
 exact Ao Hd.Aa _ _ [] [Bc f.lines,bu (Jy 1 f) (E0 rfl)] (Ag 300 [pb hb1,pb hb2,pb hb3]) (by kernel_rfl) .body
 rintro ⟨⟩
 exact Ao Hd.Aa _ _ [] [Bc f.lines,bu (Jy 1 f) (E0 rfl)] (Ag 300 [pb hb1,pb hb2]) (by kernel_rfl) .body
 let o1:LP:=[pb hb1]
 refine Ad (fun hb6=>?_) fun hb6=>?_
 refine Ad (fun hb7=>?_) fun hb7=>?_
 refine Ad (fun hb8=>?_) fun hb8=>?_
 refine Ah fun x1 hx1=>?_
 refine Ad (fun hb9=>?_) fun hb9=>?_
 rintro ⟨⟩
 exact Ao Hd.Aa _ _ [] [Bc f.lines,bu (Jy 1 f) (E0 rfl)] (Ag 300 (o1++[pb hb6,pb hb7,pb hb8,BT (Nh .lost hx1),pb hb9])) (by kernel_rfl) .body
 rintro ⟨⟩
 exact Ao Hd.Aa _ _ [] [Bc f.lines,bu (Jy 1 f) (E0 rfl)] (Ag 300 (o1++[pb hb6,pb hb7,pb hb8,BT (Nh .lost hx1),pb hb9])) (by kernel_rfl) .body
 rintro ⟨⟩
 exact Ao Hd.Aa _ _ [] [Bc f.lines,bu (Jy 1 f) (E0 rfl)] (Ag 300 (o1++[pb hb6,pb hb7,pb hb8])) (by kernel_rfl) .body
 rintro ⟨⟩
 exact Ao Hd.Aa _ _ [] [Bc f.lines,bu (Jy 1 f) (E0 rfl)] (Ag 300 (o1++[pb hb6,pb hb7])) (by kernel_rfl) .body
 refine Ad (fun hb10=>?_) fun hb10=>?_
 refine Ad (fun hb11=>?_) fun hb11=>?_
 refine Ah fun x2 hx2=>?_
 refine Ad (fun hb12=>?_) fun hb12=>?_
 rintro ⟨⟩
 exact Ao Hd.Aa _ _ [] [Bc f.lines,bu (Jy 1 f) (E0 rfl)] (Ag 300 (o1++[pb hb6,pb hb10,Ko (Rh f.lines e.n hb11),BT (Nh .lost hx2),pb hb12])) (by kernel_rfl) .body
 rintro ⟨⟩
 exact Ao Hd.Aa _ _ [] [Bc f.lines,bu (Jy 1 f) (E0 rfl)] (Ag 300 (o1++[pb hb6,pb hb10,Ko (Rh f.lines e.n hb11),BT (Nh .lost hx2),pb hb12])) (by kernel_rfl) .body
 rintro ⟨⟩
 exact Ao Hd.Aa _ _ [] [Bc f.lines,bu (Jy 1 f) (E0 rfl)] (Ag 300 (o1++[pb hb6,pb hb10,Ko (Rh f.lines e.n hb11)])) (by kernel_rfl) .body
 refine Ad (fun hb13=>?_) fun hb13=>?_
 refine Ad (fun hb14=>?_) fun hb14=>?_
 refine Ad (fun hb15=>?_) fun hb15=>?_
 rintro ⟨⟩
 exact Ao Hd.Aa _ _ [] [Bc f.lines,bu (Jy 1 f) (E0 rfl)] (Ag 300 (o1++[pb hb6,pb hb10,pb hb13,pb hb14,pb hb15])) (by kernel_rfl) .body
 rintro ⟨⟩
 exact Ao Hd.Aa _ _ [] [Bc f.lines,bu (Jy 1 f) (E0 rfl)] (Ag 300 (o1++[pb hb6,pb hb10,pb hb13,pb hb14,pb hb15])) (by kernel_rfl) .body
 rintro ⟨⟩
 exact Ao Hd.Aa _ _ [] [Bc f.lines,bu (Jy 1 f) (E0 rfl)] (Ag 300 (o1++[pb hb6,pb hb10,pb hb13,pb hb14])) (by kernel_rfl) .body
 rintro ⟨⟩
 exact Ao Hd.Aa _ _ [] [Bc f.lines,bu (Jy 1 f) (E0 rfl)] (Ag 300 (o1++[pb hb6,pb hb10,pb hb13])) (by kernel_rfl) .body
noncomputable def u5:Code:=AY Tryz.f190
theorem adX:Tryz.f190.body=some u5:=by kernel_rfl
noncomputable def JP  (kids:(List Ex)) (i0:Nat) (e0:Ex) :Option (Lp Unit Unit Bool):=(kids[0]?).bind fun x1=>cond (BC e0.unit.data.toList x1.unit.data.toList) (some (.nx ())) (some (.rt false))
noncomputable def I5  (kids:(List Ex)):Option Bool:=(GW kids.length (AL (fun i y x=>JP  kids i y ) (fun x=>()) (kids.drop 0) 0 ())).bind (GQ (fun (_:Unit)=>some true) (fun v=>some v))
theorem EL   {kids:(List Ex)} {yR:Bool} (h:I5  kids=some yR):Pure P G 190 [.sl .lost kids.length (BL kids)] (.zb yR):=by
 unfold I5 at h
 refine BF Hd.mixed Hd.Aa (Ay Tryz.func190 adX ?_) (AW (By.Bk kids) rfl) rfl
 revert h
 refine DF (fun Q v=>EQ P Tryz.f190 0 Q (.zb v)) (fun i0 (_:Unit) (j0:List Value)=>fr 19 [(0,.sl .lost kids.length (BL kids)),(5,.sl .lost kids.length (BL kids)),(6,.zi ((kids.length:Nat):Int)),(7,.zi ((i0:Nat):Int))] [2,8,17] j0) (fun (_:Unit)=>⟨[],0,[],0⟩) (fun (_:Unit) (jx:List Value)=>fr 19 [] [2,8,17] jx) (fun (_:Unit)=>⟨[],0,[],0⟩) [bF] (Dq [] 0 (sb u5 52) [.code (sb u5 7)] (Ag 300 []) (by kernel_rfl)) ?_ ?_ ?_ (fun v h=>by cases h;exact .outer .body)
 rintro i0 ⟨⟩ j0 hge hq
 exact B1 (Ag 300 [pb (IJ hge)]) (by kernel_rfl) (hq (js 3 j0 [(1,bF)]))
 rintro i0 e0 ⟨⟩ j0 r he0 hi0 mi0 k
 show JP  kids i0 e0 =some r→_
 unfold JP
 refine Ah fun x1 hx1=>?_
 refine Ad (fun hb1=>?_) fun hb1=>?_
 rintro ⟨⟩
 exact Bt Hd.Aa [fq (By.Bk kids),fq (By.Bk kids)] [] (Ag 300 [pb (Fk hi0),BT (No .lost he0),BT (No .lost hx1),pn hb1,pi mi0]) (by kernel_rfl) (k [(jv j0 0),bT,bF])
 rintro ⟨⟩
 exact Ap _ _ (Ag 300 [pb (Fk hi0),BT (No .lost he0),BT (No .lost hx1),pn hb1]) (by kernel_rfl) (.Em k) .sc
 rintro ⟨⟩ jx_2
 rintro ⟨⟩
 exact Ap _ _ (BJ 300 []) (by kernel_rfl) .body .sc
noncomputable def afd:Code:=AY Tryz.f171
theorem adv:Tryz.f171.body=some afd:=by kernel_rfl
noncomputable def EG  (e:Ex):Option Bool:=(e.kids[0]?).bind fun x1=>(CP e.kids (Ua ((e.kids.length:Nat):Int) 1)).bind fun x2=>(some (BC e.unit.data.toList Ak.data.toList)).bind fun q3=>(some (Bp ((e.kids.length:Nat):Int) 2)).bind fun q4=>(I5 e.kids).bind fun y5=>cond y5 ((some (!BC x1.unit.data.toList Ak.data.toList)).bind fun q6=>cond (Bp e.op 5) (cond (Bp ((e.kids.length:Nat):Int) 1) (cond q3 ((some (BC x1.unit.data.toList Ak.data.toList)).bind fun q7=>some q7) (some false)) (some false)) (cond (Bp e.op 6) (cond q4 (cond q3 ((some (BC x1.unit.data.toList Ak.data.toList)).bind fun q8=>some q8) (some false)) (some false)) ((some (Bp e.op 7)).bind fun q9=>cond q9 (cond q4 (cond q3 ((some (BC x1.unit.data.toList Ak.data.toList)).bind fun q10=>some q10) (some false)) (some false)) (cond (Bp e.op 8) (cond q4 (cond q3 (some true) (some false)) (some false)) (cond (Bp e.op 9) (cond q4 (cond q3 (some q6) (some false)) (some false)) ((some (Bp e.op 10)).bind fun q11=>cond q11 (cond q4 (cond q3 (some q6) (some false)) (some false)) (cond (Bp e.op 11) (cond q4 (cond q6 ((some (BC e.unit.data.toList x1.unit.data.toList)).bind fun q12=>some q12) (some false)) (some false)) ((some (Bp e.op 12)).bind fun q13=>cond q13 (cond q4 (cond q6 ((some (BC e.unit.data.toList x1.unit.data.toList)).bind fun q14=>some q14) (some false)) (some false)) (cond (Bp e.op 16) (cond (Kt 2 ((e.kids.length:Nat):Int)) (cond q6 ((some (BC e.unit.data.toList x1.unit.data.toList)).bind fun q15=>some q15) (some false)) (some false)) ((some (Bp e.op 17)).bind fun q16=>cond q16 (cond (Kt 2 ((e.kids.length:Nat):Int)) (cond q6 ((some (BC e.unit.data.toList x1.unit.data.toList)).bind fun q17=>some q17) (some false)) (some false)) (cond (Bp e.op 13) (cond q4 ((some (BC x1.unit.data.toList Ak.data.toList)).bind fun q18=>cond q18 (some false) ((some (BC x2.unit.data.toList Ak.data.toList)).bind fun q19=>cond q19 (some false) (cond (BC x1.unit.data.toList AF.data.toList) ((CG x1.unit x2.unit).bind fun y20=>(some (BC e.unit.data.toList y20.data.toList)).bind fun q21=>some q21) ((some (BC x2.unit.data.toList AF.data.toList)).bind fun q22=>cond q22 ((CG x1.unit x2.unit).bind fun y23=>(some (BC e.unit.data.toList y23.data.toList)).bind fun q24=>some q24) (some false))))) (some false)) (cond (Bp e.op 14) (cond q4 ((some (!Bp x2.op 1)).bind fun q25=>cond q25 (some false) ((some (!BC x2.unit.data.toList AF.data.toList)).bind fun q26=>cond q26 (some false) ((some (DH x2.n 1)).bind fun q27=>cond q27 (some false) ((some (DH 1000000 x2.n)).bind fun q28=>cond q28 (some false) (cond q6 ((some (BC e.unit.data.toList x1.unit.data.toList)).bind fun q29=>some q29) (some false)))))) (some false)) (cond (Bp e.op 15) (cond q4 ((some (BC x1.unit.data.toList BM.data.toList)).bind fun q30=>cond q30 ((E6 x2.unit).bind fun y31=>cond y31 ((some (BC e.unit.data.toList x2.unit.data.toList)).bind fun q32=>some q32) (some false)) (some false)) (some false)) (some false)))))))))))))) (cond (Bp e.op 5) (cond (Bp ((e.kids.length:Nat):Int) 1) (cond q3 ((some (BC x1.unit.data.toList Ak.data.toList)).bind fun q33=>some q33) (some false)) (some false)) (cond (Bp e.op 6) (cond q4 (cond q3 (some false) (some false)) (some false)) ((some (Bp e.op 7)).bind fun q34=>cond q34 (cond q4 (cond q3 (some false) (some false)) (some false)) (cond (Bp e.op 8) (cond q4 (cond q3 (some false) (some false)) (some false)) (cond (Bp e.op 9) (cond q4 (cond q3 (some false) (some false)) (some false)) ((some (Bp e.op 10)).bind fun q35=>cond q35 (cond q4 (cond q3 (some false) (some false)) (some false)) (cond (Bp e.op 11) (cond q4 (some false) (some false)) ((some (Bp e.op 12)).bind fun q36=>cond q36 (cond q4 (some false) (some false)) (cond (Bp e.op 16) (cond (Kt 2 ((e.kids.length:Nat):Int)) (some false) (some false)) ((some (Bp e.op 17)).bind fun q37=>cond q37 (cond (Kt 2 ((e.kids.length:Nat):Int)) (some false) (some false)) (cond (Bp e.op 13) (cond q4 ((some (BC x1.unit.data.toList Ak.data.toList)).bind fun q38=>cond q38 (some false) ((some (BC x2.unit.data.toList Ak.data.toList)).bind fun q39=>cond q39 (some false) (cond (BC x1.unit.data.toList AF.data.toList) ((CG x1.unit x2.unit).bind fun y40=>(some (BC e.unit.data.toList y40.data.toList)).bind fun q41=>some q41) ((some (BC x2.unit.data.toList AF.data.toList)).bind fun q42=>cond q42 ((CG x1.unit x2.unit).bind fun y43=>(some (BC e.unit.data.toList y43.data.toList)).bind fun q44=>some q44) (some false))))) (some false)) (cond (Bp e.op 14) (cond q4 ((some (!Bp x2.op 1)).bind fun q45=>cond q45 (some false) ((some (!BC x2.unit.data.toList AF.data.toList)).bind fun q46=>cond q46 (some false) ((some (DH x2.n 1)).bind fun q47=>cond q47 (some false) ((some (DH 1000000 x2.n)).bind fun q48=>cond q48 (some false) (cond (BC x1.unit.data.toList Ak.data.toList) (some false) ((some (BC e.unit.data.toList x1.unit.data.toList)).bind fun q49=>some q49)))))) (some false)) (cond (Bp e.op 15) (cond q4 ((some (BC x1.unit.data.toList BM.data.toList)).bind fun q50=>cond q50 ((E6 x2.unit).bind fun y51=>cond y51 ((some (BC e.unit.data.toList x2.unit.data.toList)).bind fun q52=>some q52) (some false)) (some false)) (some false)) (some false))))))))))))))
theorem J4   {e:Ex} {yR:Bool} (h:EG  e=some yR):Pure P G 171 [.agg (Er e)] (.zb yR):=by
 unfold EG at h
 refine BF Hd.mixed Hd.Aa (Ay Tryz.func171 adv ?_) (AW (By.Dp e) rfl) rfl
 revert h
 refine Ah fun x1 hx1=>?_
 refine Ah fun x2 hx2=>?_
 refine Ah fun q3 hq3=>?_
 refine Ah fun q4 hq4=>?_
 refine Ah fun y5 hy5=>?_
 let o1:LP:=[BT (No .lost hx1),pk,BT (ac1 .lost hx2),CD (DW hq3 (.tmp 21) (.const (.string Ak))),CD (P9 hq4 (.tmp 25) (.const (.int .i64 2))),An (EL hy5)]
 refine Ad (fun hv=>?_) fun hv=>?_
 subst hv
 refine Ah fun q6 hq6=>?_
 let o2:LP:=o1++[CD (Si hq6 (.tmp 32) (.const (.string Ak)))]
 refine Ad (fun hb1=>?_) fun hb1=>?_
 refine Ad (fun hb2=>?_) fun hb2=>?_
 refine Ad (fun hv=>?_) fun hv=>?_
 subst hv
 refine Ah fun q7 hq7=>?_
 rintro ⟨⟩
 exact rT (o2++[pb hb1,pb hb2,CD (DW hq7 (.tmp 48) (.const (.string Ak)))])
 subst hv
 rintro ⟨⟩
 exact rT (o2++[pb hb1,pb hb2])
 rintro ⟨⟩
 exact rT (o2++[pb hb1,pb hb2])
 let o3:LP:=o2++[pb hb1]
 refine Ad (fun hb3=>?_) fun hb3=>?_
 refine Ad (fun hv=>?_) fun hv=>?_
 subst hv
 refine Ad (fun hv=>?_) fun hv=>?_
 subst hv
 refine Ah fun q8 hq8=>?_
 rintro ⟨⟩
 exact rT (o3++[pb hb3,An (EL hy5),CD (DW hq8 (.tmp 65) (.const (.string Ak)))])
 subst hv
 rintro ⟨⟩
 exact rT (o3++[pb hb3])
 subst hv
 rintro ⟨⟩
 exact rT (o3++[pb hb3])
 refine Ah fun q9 hq9=>?_
 let o4:LP:=o3++[pb hb3,CD (P9 hq9 (.tmp 36) (.const (.int .i64 7)))]
 refine Ad (fun hv=>?_) fun hv=>?_
 subst hv
 refine Ad (fun hv=>?_) fun hv=>?_
 subst hv
 refine Ad (fun hv=>?_) fun hv=>?_
 subst hv
 refine Ah fun q10 hq10=>?_
 rintro ⟨⟩
 exact rT (o4++[An (EL hy5),CD (DW hq10 (.tmp 65) (.const (.string Ak)))])
 subst hv
 rintro ⟨⟩
 exact rT o4
 subst hv
 rintro ⟨⟩
 exact rT o4
 subst hv
 refine Ad (fun hb4=>?_) fun hb4=>?_
 refine Ad (fun hv=>?_) fun hv=>?_
 subst hv
 refine Ad (fun hv=>?_) fun hv=>?_
 subst hv
 rintro ⟨⟩
 exact rT (o4++[pb hb4,An (EL hy5)])
 subst hv
 rintro ⟨⟩
 exact rT (o4++[pb hb4])
 subst hv
 rintro ⟨⟩
 exact rT (o4++[pb hb4])
 let o5:LP:=o4++[pb hb4]
 refine Ad (fun hb5=>?_) fun hb5=>?_
 refine Ad (fun hv=>?_) fun hv=>?_
 subst hv
 refine Ad (fun hv=>?_) fun hv=>?_
 subst hv
 rintro ⟨⟩
 exact rT (o5++[pb hb5])
 subst hv
 rintro ⟨⟩
 exact rT (o5++[pb hb5])
 subst hv
 rintro ⟨⟩
 exact rT (o5++[pb hb5])
 refine Ah fun q11 hq11=>?_
 let o6:LP:=o5++[pb hb5,CD (P9 hq11 (.tmp 36) (.const (.int .i64 10)))]
 refine Ad (fun hv=>?_) fun hv=>?_
 subst hv
 refine Ad (fun hv=>?_) fun hv=>?_
 subst hv
 refine Ad (fun hv=>?_) fun hv=>?_
 subst hv
 rintro ⟨⟩
 exact rT o6
 subst hv
 rintro ⟨⟩
 exact rT o6
 subst hv
 rintro ⟨⟩
 exact rT o6
 subst hv
 refine Ad (fun hb6=>?_) fun hb6=>?_
 refine Ad (fun hv=>?_) fun hv=>?_
 subst hv
 refine Ad (fun hv=>?_) fun hv=>?_
 subst hv
 refine Ah fun q12 hq12=>?_
 rintro ⟨⟩
 exact rT (o6++[pb hb6,CD (DW hq12 (.tmp 98) (.tmp 100))])
 subst hv
 rintro ⟨⟩
 exact rT (o6++[pb hb6])
 subst hv
 rintro ⟨⟩
 exact rT (o6++[pb hb6])
 refine Ah fun q13 hq13=>?_
 let o7:LP:=o6++[pb hb6,CD (P9 hq13 (.tmp 36) (.const (.int .i64 12)))]
 refine Ad (fun hv=>?_) fun hv=>?_
 subst hv
 refine Ad (fun hv=>?_) fun hv=>?_
 subst hv
 refine Ad (fun hv=>?_) fun hv=>?_
 subst hv
 refine Ah fun q14 hq14=>?_
 rintro ⟨⟩
 exact rT (o7++[CD (DW hq14 (.tmp 98) (.tmp 100))])
 subst hv
 rintro ⟨⟩
 exact rT o7
 subst hv
 rintro ⟨⟩
 exact rT o7
 subst hv
 refine Ad (fun hb7=>?_) fun hb7=>?_
 refine Ad (fun hb8=>?_) fun hb8=>?_
 refine Ad (fun hv=>?_) fun hv=>?_
 subst hv
 refine Ah fun q15 hq15=>?_
 rintro ⟨⟩
 exact rT (o7++[pb hb7,pb hb8,CD (DW hq15 (.tmp 115) (.tmp 117))])
 subst hv
 rintro ⟨⟩
 exact rT (o7++[pb hb7,pb hb8])
 rintro ⟨⟩
 exact rT (o7++[pb hb7,pb hb8])
 refine Ah fun q16 hq16=>?_
 let o8:LP:=o7++[pb hb7,CD (P9 hq16 (.tmp 36) (.const (.int .i64 17)))]
 refine Ad (fun hv=>?_) fun hv=>?_
 subst hv
 refine Ad (fun hb9=>?_) fun hb9=>?_
 refine Ad (fun hv=>?_) fun hv=>?_
 subst hv
 refine Ah fun q17 hq17=>?_
 rintro ⟨⟩
 exact rT (o8++[pb hb9,CD (DW hq17 (.tmp 115) (.tmp 117))])
 subst hv
 rintro ⟨⟩
 exact rT (o8++[pb hb9])
 rintro ⟨⟩
 exact rT (o8++[pb hb9])
 subst hv
 refine Ad (fun hb10=>?_) fun hb10=>?_
 refine Ad (fun hv=>?_) fun hv=>?_
 subst hv
 refine Ah fun q18 hq18=>?_
 let o9:LP:=o8++[pb hb10,CD (DW hq18 (.tmp 126) (.const (.string Ak)))]
 refine Ad (fun hv=>?_) fun hv=>?_
 subst hv
 rintro ⟨⟩
 exact rT o9
 subst hv
 refine Ah fun q19 hq19=>?_
 let o10:LP:=o9++[CD (DW hq19 (.tmp 131) (.const (.string Ak)))]
 refine Ad (fun hv=>?_) fun hv=>?_
 subst hv
 rintro ⟨⟩
 exact rT o10
 subst hv
 refine Ad (fun hb11=>?_) fun hb11=>?_
 refine Ah fun y20 hy20=>?_
 refine Ah fun q21 hq21=>?_
 rintro ⟨⟩
 exact rT (o10++[pb hb11,An (Fv hy20),CD (DW hq21 (.tmp 144) (.tmp 149))])
 refine Ah fun q22 hq22=>?_
 refine Ad (fun hv=>?_) fun hv=>?_
 subst hv
 refine Ah fun y23 hy23=>?_
 refine Ah fun q24 hq24=>?_
 rintro ⟨⟩
 exact rT (o10++[pb hb11,CD (DW hq22 (.tmp 139) (.const (.string AF))),An (Fv hy23),CD (DW hq24 (.tmp 144) (.tmp 149))])
 subst hv
 rintro ⟨⟩
 exact rT (o10++[pb hb11,CD (DW hq22 (.tmp 139) (.const (.string AF)))])
 subst hv
 rintro ⟨⟩
 exact rT (o8++[pb hb10])
 let o11:LP:=o8++[pb hb10]
 refine Ad (fun hb12=>?_) fun hb12=>?_
 refine Ad (fun hv=>?_) fun hv=>?_
 subst hv
 refine Ah fun q25 hq25=>?_
 let o12:LP:=o11++[pb hb12,CD (tI hq25 (.tmp 158) (.const (.int .i64 1)))]
 refine Ad (fun hv=>?_) fun hv=>?_
 subst hv
 rintro ⟨⟩
 exact rT o12
 subst hv
 refine Ah fun q26 hq26=>?_
 let o13:LP:=o12++[CD (Si hq26 (.tmp 163) (.const (.string AF)))]
 refine Ad (fun hv=>?_) fun hv=>?_
 subst hv
 rintro ⟨⟩
 exact rT o13
 subst hv
 refine Ah fun q27 hq27=>?_
 let o14:LP:=o13++[CD (tR hq27 (.tmp 168) (.const (.int .i64 1)))]
 refine Ad (fun hv=>?_) fun hv=>?_
 subst hv
 rintro ⟨⟩
 exact rT o14
 subst hv
 refine Ah fun q28 hq28=>?_
 let o15:LP:=o14++[CD (Uz hq28 (.tmp 173) (.const (.int .i64 1000000)))]
 refine Ad (fun hv=>?_) fun hv=>?_
 subst hv
 rintro ⟨⟩
 exact rT o15
 subst hv
 refine Ad (fun hv=>?_) fun hv=>?_
 subst hv
 refine Ah fun q29 hq29=>?_
 rintro ⟨⟩
 exact rT (o15++[CD (Si hq6 (.tmp 177) (.const (.string Ak))),CD (DW hq29 (.tmp 181) (.tmp 183))])
 subst hv
 rintro ⟨⟩
 exact rT (o15++[CD (Si hq6 (.tmp 177) (.const (.string Ak)))])
 subst hv
 rintro ⟨⟩
 exact rT (o11++[pb hb12])
 refine Ad (fun hb13=>?_) fun hb13=>?_
 refine Ad (fun hv=>?_) fun hv=>?_
 subst hv
 refine Ah fun q30 hq30=>?_
 let o16:LP:=o11++[pb hb12,pb hb13,CD (DW hq30 (.tmp 191) (.const (.string BM)))]
 refine Ad (fun hv=>?_) fun hv=>?_
 subst hv
 refine Ah fun y31 hy31=>?_
 refine Ad (fun hv=>?_) fun hv=>?_
 subst hv
 refine Ah fun q32 hq32=>?_
 rintro ⟨⟩
 exact rT (o16++[An (Fe hy31),CD (DW hq32 (.tmp 201) (.tmp 203))])
 subst hv
 rintro ⟨⟩
 exact rT (o16++[An (Fe hy31)])
 subst hv
 rintro ⟨⟩
 exact rT o16
 subst hv
 rintro ⟨⟩
 exact rT (o11++[pb hb12,pb hb13])
 rintro ⟨⟩
 exact rT (o11++[pb hb12,pb hb13])
 subst hv
 refine Ad (fun hb14=>?_) fun hb14=>?_
 refine Ad (fun hb15=>?_) fun hb15=>?_
 refine Ad (fun hv=>?_) fun hv=>?_
 subst hv
 refine Ah fun q33 hq33=>?_
 rintro ⟨⟩
 exact rT (o1++[pb hb14,pb hb15,CD (DW hq33 (.tmp 48) (.const (.string Ak)))])
 subst hv
 rintro ⟨⟩
 exact rT (o1++[pb hb14,pb hb15])
 rintro ⟨⟩
 exact rT (o1++[pb hb14,pb hb15])
 let o17:LP:=o1++[pb hb14]
 refine Ad (fun hb16=>?_) fun hb16=>?_
 refine Ad (fun hv=>?_) fun hv=>?_
 subst hv
 refine Ad (fun hv=>?_) fun hv=>?_
 subst hv
 rintro ⟨⟩
 exact rT (o17++[pb hb16,An (EL hy5)])
 subst hv
 rintro ⟨⟩
 exact rT (o17++[pb hb16])
 subst hv
 rintro ⟨⟩
 exact rT (o17++[pb hb16])
 refine Ah fun q34 hq34=>?_
 let o18:LP:=o17++[pb hb16,CD (P9 hq34 (.tmp 36) (.const (.int .i64 7)))]
 refine Ad (fun hv=>?_) fun hv=>?_
 subst hv
 refine Ad (fun hv=>?_) fun hv=>?_
 subst hv
 refine Ad (fun hv=>?_) fun hv=>?_
 subst hv
 rintro ⟨⟩
 exact rT (o18++[An (EL hy5)])
 subst hv
 rintro ⟨⟩
 exact rT o18
 subst hv
 rintro ⟨⟩
 exact rT o18
 subst hv
 refine Ad (fun hb17=>?_) fun hb17=>?_
 refine Ad (fun hv=>?_) fun hv=>?_
 subst hv
 refine Ad (fun hv=>?_) fun hv=>?_
 subst hv
 rintro ⟨⟩
 exact rT (o18++[pb hb17,An (EL hy5)])
 subst hv
 rintro ⟨⟩
 exact rT (o18++[pb hb17])
 subst hv
 rintro ⟨⟩
 exact rT (o18++[pb hb17])
 let o19:LP:=o18++[pb hb17]
 refine Ad (fun hb18=>?_) fun hb18=>?_
 refine Ad (fun hv=>?_) fun hv=>?_
 subst hv
 refine Ad (fun hv=>?_) fun hv=>?_
 subst hv
 rintro ⟨⟩
 exact rT (o19++[pb hb18])
 subst hv
 rintro ⟨⟩
 exact rT (o19++[pb hb18])
 subst hv
 rintro ⟨⟩
 exact rT (o19++[pb hb18])
 refine Ah fun q35 hq35=>?_
 let o20:LP:=o19++[pb hb18,CD (P9 hq35 (.tmp 36) (.const (.int .i64 10)))]
 refine Ad (fun hv=>?_) fun hv=>?_
 subst hv
 refine Ad (fun hv=>?_) fun hv=>?_
 subst hv
 refine Ad (fun hv=>?_) fun hv=>?_
 subst hv
 rintro ⟨⟩
 exact rT o20
 subst hv
 rintro ⟨⟩
 exact rT o20
 subst hv
 rintro ⟨⟩
 exact rT o20
 subst hv
 refine Ad (fun hb19=>?_) fun hb19=>?_
 refine Ad (fun hv=>?_) fun hv=>?_
 subst hv
 rintro ⟨⟩
 exact rT (o20++[pb hb19])
 subst hv
 rintro ⟨⟩
 exact rT (o20++[pb hb19])
 refine Ah fun q36 hq36=>?_
 let o21:LP:=o20++[pb hb19,CD (P9 hq36 (.tmp 36) (.const (.int .i64 12)))]
 refine Ad (fun hv=>?_) fun hv=>?_
 subst hv
 refine Ad (fun hv=>?_) fun hv=>?_
 subst hv
 rintro ⟨⟩
 exact rT o21
 subst hv
 rintro ⟨⟩
 exact rT o21
 subst hv
 refine Ad (fun hb20=>?_) fun hb20=>?_
 refine Ad (fun hb21=>?_) fun hb21=>?_
 rintro ⟨⟩
 exact rT (o21++[pb hb20,pb hb21])
 rintro ⟨⟩
 exact rT (o21++[pb hb20,pb hb21])
 refine Ah fun q37 hq37=>?_
 let o22:LP:=o21++[pb hb20,CD (P9 hq37 (.tmp 36) (.const (.int .i64 17)))]
 refine Ad (fun hv=>?_) fun hv=>?_
 subst hv
 refine Ad (fun hb22=>?_) fun hb22=>?_
 rintro ⟨⟩
 exact rT (o22++[pb hb22])
 rintro ⟨⟩
 exact rT (o22++[pb hb22])
 subst hv
 refine Ad (fun hb23=>?_) fun hb23=>?_
 refine Ad (fun hv=>?_) fun hv=>?_
 subst hv
 refine Ah fun q38 hq38=>?_
 let o23:LP:=o22++[pb hb23,CD (DW hq38 (.tmp 126) (.const (.string Ak)))]
 refine Ad (fun hv=>?_) fun hv=>?_
 subst hv
 rintro ⟨⟩
 exact rT o23
 subst hv
 refine Ah fun q39 hq39=>?_
 let lL:LP:=o23++[CD (DW hq39 (.tmp 131) (.const (.string Ak)))]
 refine Ad (fun hv=>?_) fun hv=>?_
 subst hv
 rintro ⟨⟩
 exact rT lL
 subst hv
 refine Ad (fun hb24=>?_) fun hb24=>?_
 refine Ah fun y40 hy40=>?_
 refine Ah fun q41 hq41=>?_
 rintro ⟨⟩
 exact rT (lL++[pb hb24,An (Fv hy40),CD (DW hq41 (.tmp 144) (.tmp 149))])
 refine Ah fun q42 hq42=>?_
 refine Ad (fun hv=>?_) fun hv=>?_
 subst hv
 refine Ah fun y43 hy43=>?_
 refine Ah fun q44 hq44=>?_
 rintro ⟨⟩
 exact rT (lL++[pb hb24,CD (DW hq42 (.tmp 139) (.const (.string AF))),An (Fv hy43),CD (DW hq44 (.tmp 144) (.tmp 149))])
 subst hv
 rintro ⟨⟩
 exact rT (lL++[pb hb24,CD (DW hq42 (.tmp 139) (.const (.string AF)))])
 subst hv
 rintro ⟨⟩
 exact rT (o22++[pb hb23])
 let o25:LP:=o22++[pb hb23]
 refine Ad (fun hb25=>?_) fun hb25=>?_
 refine Ad (fun hv=>?_) fun hv=>?_
 subst hv
 refine Ah fun q45 hq45=>?_
 let o26:LP:=o25++[pb hb25,CD (tI hq45 (.tmp 158) (.const (.int .i64 1)))]
 refine Ad (fun hv=>?_) fun hv=>?_
 subst hv
 rintro ⟨⟩
 exact rT o26
 subst hv
 refine Ah fun q46 hq46=>?_
 let o27:LP:=o26++[CD (Si hq46 (.tmp 163) (.const (.string AF)))]
 refine Ad (fun hv=>?_) fun hv=>?_
 subst hv
 rintro ⟨⟩
 exact rT o27
 subst hv
 refine Ah fun q47 hq47=>?_
 let o28:LP:=o27++[CD (tR hq47 (.tmp 168) (.const (.int .i64 1)))]
 refine Ad (fun hv=>?_) fun hv=>?_
 subst hv
 rintro ⟨⟩
 exact rT o28
 subst hv
 refine Ah fun q48 hq48=>?_
 let o29:LP:=o28++[CD (Uz hq48 (.tmp 173) (.const (.int .i64 1000000)))]
 refine Ad (fun hv=>?_) fun hv=>?_
 subst hv
 rintro ⟨⟩
 exact rT o29
 subst hv
 refine Ad (fun hb26=>?_) fun hb26=>?_
 rintro ⟨⟩
 exact rT (o29++[pn hb26])
 refine Ah fun q49 hq49=>?_
 rintro ⟨⟩
 exact rT (o29++[pn hb26,CD (DW hq49 (.tmp 181) (.tmp 183))])
 subst hv
 rintro ⟨⟩
 exact rT (o25++[pb hb25])
 refine Ad (fun hb27=>?_) fun hb27=>?_
 refine Ad (fun hv=>?_) fun hv=>?_
 subst hv
 refine Ah fun q50 hq50=>?_
 let o30:LP:=o25++[pb hb25,pb hb27,CD (DW hq50 (.tmp 191) (.const (.string BM)))]
 refine Ad (fun hv=>?_) fun hv=>?_
 subst hv
 refine Ah fun y51 hy51=>?_
 refine Ad (fun hv=>?_) fun hv=>?_
 subst hv
 refine Ah fun q52 hq52=>?_
 rintro ⟨⟩
 exact rT (o30++[An (Fe hy51),CD (DW hq52 (.tmp 201) (.tmp 203))])
 subst hv
 rintro ⟨⟩
 exact rT (o30++[An (Fe hy51)])
 subst hv
 rintro ⟨⟩
 exact rT o30
 subst hv
 rintro ⟨⟩
 exact rT (o25++[pb hb25,pb hb27])
 rintro ⟨⟩
 exact rT (o25++[pb hb25,pb hb27])
theorem Ku {f:Ft} {e:Ex} {depth:Int} {yR:Bool} {qf_nodesR:Int} (hS:Sound P G (.call 140 [.ptr 0 0,.agg (Er e),.zi depth] ⟨[(1,(BA f.lines)),(0,.cells (Jy 1 f))],2,[],0⟩ (.ret (.zb yR)) ⟨[(1,(BA f.lines)),(0,.cells [.sl .lost f.codex.facts.length (rows B7 f.codex.facts),.sl .lost f.codex.lines.length (rows B7 f.codex.lines),.sl .lost f.codex.arts.length (rows FU f.codex.arts),.mp 1,.zi qf_nodesR])],2,[],0⟩)) (u0 u1:Nat) (hnb:([u0,u1]:List Nat).Nodup:=by decide) (hnt:([]:List Nat).Nodup:=by decide):Cd.ok P G (.callU 140 [.ptr u0 0,.agg (Er e),.zi depth] (.ret (.zb yR)) [(u0,.cells (Jy u1 f)),(u1,(BA f.lines))] [] [(u0,.cells [.sl .lost f.codex.facts.length (rows B7 f.codex.facts),.sl .lost f.codex.lines.length (rows B7 f.codex.lines),.sl .lost f.codex.arts.length (rows FU f.codex.arts),.mp u1,.zi qf_nodesR]),(u1,(BA f.lines))] []) :=
 CS (M:=[.cells (Jy 1 f),(BA f.lines)]) (M2:=[.cells [.sl .lost f.codex.facts.length (rows B7 f.codex.facts),.sl .lost f.codex.lines.length (rows B7 f.codex.lines),.sl .lost f.codex.arts.length (rows FU f.codex.arts),.mp 1,.zi qf_nodesR],(BA f.lines)]) (T:=[]) (T2:=[]) (k:=2) (j:=0) Hd.Aa _ _ _ _ hS rfl rfl rfl rfl rfl hnb hnt rfl rfl (.cons (.cells (SS f (by decide))) (.cons (BK (fun _=>rfl)) .nil)) (.cons (.cells (.cons (.pl (Bl.Bk f.codex.facts)) (.cons (.pl (Bl.Bk f.codex.lines)) (.cons (.pl (CK.Bk f.codex.arts)) (.cons (.mp (by decide)) (.cons (.pl rfl) .nil)))))) (.cons (BK (fun _=>rfl)) .nil)) (.cons (.ptr (by decide)) (.cons (.pl (By.Dp e)) (.cons (.pl rfl) .nil))) (.pl rfl) (by
   intro e he
   simp only [List.mem_cons,List.not_mem_nil,or_false] at he
   rcases he with rfl | rfl
   · exact (.arg (.here .ptr))
   · exact (.box (p:=0) (.arg (.here .ptr)) rfl (.there (.there (.there (.here .mp)))))
   )
noncomputable def vG:Code:=AY Tryz.f140
theorem ad8:Tryz.f140.body=some vG:=by kernel_rfl
noncomputable def Dx (Da:Ft→Ex→Int→Option (Bool×Int)) (f:Ft) (depth:Int) (i0:Nat) (e0:Ex) (w0_4:Int):Option (Lp Int Int (Bool×Int)):=(Da (⟨f.codex,f.lines,w0_4⟩:Ft) e0 (BW depth 1)).bind fun (y2a,y2b)=>cond y2a (some (.nx y2b)) (some (.rt (false,y2b)))
noncomputable def DV (Da:Ft→Ex→Int→Option (Bool×Int)) (f:Ft) (e:Ex) (depth:Int):Option (Bool×Int):=cond (DH 400 (BW f.nodes 1)) (some (false,(BW f.nodes 1))) (cond (DH 40 depth) (some (false,(BW f.nodes 1))) ((Gt e.unit).bind fun y1=>cond y1 ((GW e.kids.length (AL (fun i y x=>Dx Da f depth i y x) (fun x=>x) (e.kids.drop 0) 0 (BW f.nodes 1))).bind (GQ (fun (w0_4_3:Int)=>cond (Bp e.op 18) (cond (Bp e.n 0) (cond (Bp ((e.kids.length:Nat):Int) 1) ((E6 e.unit).bind fun y4=>cond y4 ((e.kids[0]?).bind fun x5=>cond (BC e.unit.data.toList x5.unit.data.toList) ((FY e.tab).bind fun y6=>some (y6,w0_4_3)) (some (false,w0_4_3))) (some (false,w0_4_3))) (some (false,w0_4_3))) (some (false,w0_4_3))) (cond (Bp e.tab.den 0) (cond (DH 0 ((e.tab.ps.length:Nat):Int)) (some (false,w0_4_3)) (cond (Kt 1 e.op) (cond (Kt e.op 4) (cond (Bp ((e.kids.length:Nat):Int) 0) ((ES (⟨f.codex,f.lines,w0_4_3⟩:Ft) e).bind fun y7=>some (y7,w0_4_3)) (some (false,w0_4_3))) (cond (Bp e.n 0) (cond (DH 0 ((e.kids.length:Nat):Int)) ((EG e).bind fun y8=>some (y8,w0_4_3)) (some (false,w0_4_3))) (some (false,w0_4_3)))) (cond (Bp e.n 0) (cond (DH 0 ((e.kids.length:Nat):Int)) ((EG e).bind fun y9=>some (y9,w0_4_3)) (some (false,w0_4_3))) (some (false,w0_4_3))))) (some (false,w0_4_3)))) (fun v=>some v))) (some (false,(BW f.nodes 1)))))
theorem Mz (Da:Ft→Ex→Int→Option (Bool×Int)) (NF:∀ {f:Ft} {e:Ex} {depth:Int} {yR:Bool} {qf_nodesR:Int},Da f e depth=some (yR,qf_nodesR)→Sound P G (.call 140 [.ptr 0 0,.agg (Er e),.zi depth] ⟨[(1,(BA f.lines)),(0,.cells (Jy 1 f))],2,[],0⟩ (.ret (.zb yR)) ⟨[(1,(BA f.lines)),(0,.cells [.sl .lost f.codex.facts.length (rows B7 f.codex.facts),.sl .lost f.codex.lines.length (rows B7 f.codex.lines),.sl .lost f.codex.arts.length (rows FU f.codex.arts),.mp 1,.zi qf_nodesR])],2,[],0⟩)) {f:Ft} {e:Ex} {depth:Int} {yR:Bool} {qf_nodesR:Int} (h:DV Da f e depth=some (yR,qf_nodesR)):Sound P G (.call 140 [.ptr 0 0,.agg (Er e),.zi depth] ⟨[(1,(BA f.lines)),(0,.cells (Jy 1 f))],2,[],0⟩ (.ret (.zb yR)) ⟨[(1,(BA f.lines)),(0,.cells [.sl .lost f.codex.facts.length (rows B7 f.codex.facts),.sl .lost f.codex.lines.length (rows B7 f.codex.lines),.sl .lost f.codex.arts.length (rows FU f.codex.arts),.mp 1,.zi qf_nodesR])],2,[],0⟩):=by
 unfold DV at h
 refine CT Hd.mixed (Ay Tryz.func140 ad8 ?_)
 revert h
 refine Ad (fun hb1=>?_) fun hb1=>?_
 refine Gv ?_
 rintro rfl rfl
 exact Ao Hd.Aa _ _ [] [Bc f.lines,bu [.sl .lost f.codex.facts.length (rows B7 f.codex.facts),.sl .lost f.codex.lines.length (rows B7 f.codex.lines),.sl .lost f.codex.arts.length (rows FU f.codex.arts),.mp 1,.zi (BW f.nodes 1)] (Av (Ae _ _ (Bl.Bk f.codex.facts)) (Av (Ae _ _ (Bl.Bk f.codex.lines)) (Av (Ae _ _ (CK.Bk f.codex.arts)) (Av rfl (Av rfl rfl)))))] (Ag 300 [pk,pb hb1]) (by kernel_rfl) .body
 refine Ad (fun hb2=>?_) fun hb2=>?_
 refine Gv ?_
 rintro rfl rfl
 exact Ao Hd.Aa _ _ [] [Bc f.lines,bu [.sl .lost f.codex.facts.length (rows B7 f.codex.facts),.sl .lost f.codex.lines.length (rows B7 f.codex.lines),.sl .lost f.codex.arts.length (rows FU f.codex.arts),.mp 1,.zi (BW f.nodes 1)] (Av (Ae _ _ (Bl.Bk f.codex.facts)) (Av (Ae _ _ (Bl.Bk f.codex.lines)) (Av (Ae _ _ (CK.Bk f.codex.arts)) (Av rfl (Av rfl rfl)))))] (Ag 300 [pk,pb hb1,pb hb2]) (by kernel_rfl) .body
 refine Ah fun y1 hy1=>?_
 refine Ad (fun hv=>?_) fun hv=>?_
 subst hv
 refine DF (fun Q v=>Iu P G Tryz.f140 2 ⟨[(1,(BA f.lines)),(0,.cells (Jy 1 f))],2,[],0⟩ Q (.zb v.1) ⟨[(1,(BA f.lines)),(0,.cells [.sl .lost f.codex.facts.length (rows B7 f.codex.facts),.sl .lost f.codex.lines.length (rows B7 f.codex.lines),.sl .lost f.codex.arts.length (rows FU f.codex.arts),.mp 1,.zi v.2])],2,[],0⟩) (fun i0 (w0_4:Int) (j0:List Value)=>fr 118 [(0,.ptr 0 0),(2,.zi depth),(4,.ptr 2 0),(32,.sl .lost e.kids.length (BL e.kids)),(33,.zi ((e.kids.length:Nat):Int)),(34,.zi ((i0:Nat):Int))] [6,20,21,23,24,25,28,29,30,35,42,43,47,50,51,55,56,57,60,61,62,70,71,72,75,76,80,81,86,87,90,91,94,95,99,100,103,104,107,108,112,113,114,116,117] j0) (fun (w0_4:Int)=>⟨[(2,.cells (Er e)),(1,(BA f.lines)),(0,.cells [.sl .lost f.codex.facts.length (rows B7 f.codex.facts),.sl .lost f.codex.lines.length (rows B7 f.codex.lines),.sl .lost f.codex.arts.length (rows FU f.codex.arts),.mp 1,.zi w0_4])],3,[],0⟩) (fun (w0_4:Int) (jx:List Value)=>fr 118 [(0,.ptr 0 0),(4,.ptr 2 0)] [6,20,21,23,24,25,28,29,30,35,42,43,47,50,51,55,56,57,60,61,62,70,71,72,75,76,80,81,86,87,90,91,94,95,99,100,103,104,107,108,112,113,114,116,117] jx) (fun (w0_4:Int)=>⟨[(2,.cells (Er e)),(1,(BA f.lines)),(0,.cells [.sl .lost f.codex.facts.length (rows B7 f.codex.facts),.sl .lost f.codex.lines.length (rows B7 f.codex.lines),.sl .lost f.codex.arts.length (rows FU f.codex.arts),.mp 1,.zi w0_4])],3,[],0⟩) [bF,bF,bF,bF,bF,bF,bT,bF,bF] (Dq [] 0 (sb vG 244) [.code (sb vG 31)] (Ag 300 [pk,pb hb1,pb hb2,An (Je hy1)]) (by kernel_rfl)) ?_ ?_ ?_ (fun v h=>by cases h;exact .outer .body)
 rintro i0 w0_4 j0 hge hq
 exact B1 (Ag 300 [pb (IJ hge)]) (by kernel_rfl) (hq (js 45 j0 [(9,bF)]))
 rintro i0 e0 w0_4 j0 r he0 hi0 mi0 k
 show Dx Da f depth i0 e0 w0_4=some r→_
 unfold Dx
 refine Ah ?_
 rintro ⟨y2a,y2b⟩ hy2
 dsimp only
 let o1:LP:=[pb (Fk hi0),BT (No .lost he0),pk,AG (Ku (NF hy2) 0 1)]
 refine Ad (fun hv=>?_) fun hv=>?_
 subst hv
 rintro ⟨⟩
 exact Bt Hd.Aa [fq (By.Bk e.kids)] [bp (By.pl e),Bc f.lines,bu [.sl .lost f.codex.facts.length (rows B7 f.codex.facts),.sl .lost f.codex.lines.length (rows B7 f.codex.lines),.sl .lost f.codex.arts.length (rows FU f.codex.arts),.mp 1,.zi y2b] (Av (Ae _ _ (Bl.Bk f.codex.facts)) (Av (Ae _ _ (Bl.Bk f.codex.lines)) (Av (Ae _ _ (CK.Bk f.codex.arts)) (Av rfl (Av rfl rfl)))))] (Ag 300 (o1++[pi mi0])) (by kernel_rfl) (k (js 45 j0 [(9,bT),(10,bT),(11,bF)]))
 subst hv
 rintro ⟨⟩
 exact Ao Hd.Aa _ _ [] [Bc f.lines,bu [.sl .lost f.codex.facts.length (rows B7 f.codex.facts),.sl .lost f.codex.lines.length (rows B7 f.codex.lines),.sl .lost f.codex.arts.length (rows FU f.codex.arts),.mp 1,.zi y2b] (Av (Ae _ _ (Bl.Bk f.codex.facts)) (Av (Ae _ _ (Bl.Bk f.codex.lines)) (Av (Ae _ _ (CK.Bk f.codex.arts)) (Av rfl (Av rfl rfl)))))] (Ag 300 o1) (by kernel_rfl) (.Em k)
 rintro w0_4_3 jx_3
 refine Ad (fun hb3=>?_) fun hb3=>?_
 refine Ad (fun hb4=>?_) fun hb4=>?_
 refine Ad (fun hb5=>?_) fun hb5=>?_
 refine Ah fun y4 hy4=>?_
 let o2:LP:=[pb hb3,pb hb4,pb hb5,An (Fe hy4)]
 refine Ad (fun hv=>?_) fun hv=>?_
 subst hv
 refine Ah fun x5 hx5=>?_
 refine Ad (fun hb6=>?_) fun hb6=>?_
 refine Ah fun y6 hy6=>?_
 refine Gv ?_
 rintro rfl rfl
 exact Ao Hd.Aa _ _ [] [Bc f.lines,bu [.sl .lost f.codex.facts.length (rows B7 f.codex.facts),.sl .lost f.codex.lines.length (rows B7 f.codex.lines),.sl .lost f.codex.arts.length (rows FU f.codex.arts),.mp 1,.zi w0_4_3] (Av (Ae _ _ (Bl.Bk f.codex.facts)) (Av (Ae _ _ (Bl.Bk f.codex.lines)) (Av (Ae _ _ (CK.Bk f.codex.arts)) (Av rfl (Av rfl rfl)))))] (BJ 300 (o2++[BT (No .lost hx5),pb hb6,An (Ny hy6)])) (by kernel_rfl) .body
 refine Gv ?_
 rintro rfl rfl
 exact Ao Hd.Aa _ _ [] [Bc f.lines,bu [.sl .lost f.codex.facts.length (rows B7 f.codex.facts),.sl .lost f.codex.lines.length (rows B7 f.codex.lines),.sl .lost f.codex.arts.length (rows FU f.codex.arts),.mp 1,.zi w0_4_3] (Av (Ae _ _ (Bl.Bk f.codex.facts)) (Av (Ae _ _ (Bl.Bk f.codex.lines)) (Av (Ae _ _ (CK.Bk f.codex.arts)) (Av rfl (Av rfl rfl)))))] (BJ 300 (o2++[BT (No .lost hx5),pb hb6])) (by kernel_rfl) .body
 subst hv
 refine Gv ?_
 rintro rfl rfl
 exact Ao Hd.Aa _ _ [] [Bc f.lines,bu [.sl .lost f.codex.facts.length (rows B7 f.codex.facts),.sl .lost f.codex.lines.length (rows B7 f.codex.lines),.sl .lost f.codex.arts.length (rows FU f.codex.arts),.mp 1,.zi w0_4_3] (Av (Ae _ _ (Bl.Bk f.codex.facts)) (Av (Ae _ _ (Bl.Bk f.codex.lines)) (Av (Ae _ _ (CK.Bk f.codex.arts)) (Av rfl (Av rfl rfl)))))] (BJ 300 o2) (by kernel_rfl) .body
 refine Gv ?_
 rintro rfl rfl
 exact Ao Hd.Aa _ _ [] [Bc f.lines,bu [.sl .lost f.codex.facts.length (rows B7 f.codex.facts),.sl .lost f.codex.lines.length (rows B7 f.codex.lines),.sl .lost f.codex.arts.length (rows FU f.codex.arts),.mp 1,.zi w0_4_3] (Av (Ae _ _ (Bl.Bk f.codex.facts)) (Av (Ae _ _ (Bl.Bk f.codex.lines)) (Av (Ae _ _ (CK.Bk f.codex.arts)) (Av rfl (Av rfl rfl)))))] (BJ 300 [pb hb3,pb hb4,pb hb5]) (by kernel_rfl) .body
 refine Gv ?_
 rintro rfl rfl
 exact Ao Hd.Aa _ _ [] [Bc f.lines,bu [.sl .lost f.codex.facts.length (rows B7 f.codex.facts),.sl .lost f.codex.lines.length (rows B7 f.codex.lines),.sl .lost f.codex.arts.length (rows FU f.codex.arts),.mp 1,.zi w0_4_3] (Av (Ae _ _ (Bl.Bk f.codex.facts)) (Av (Ae _ _ (Bl.Bk f.codex.lines)) (Av (Ae _ _ (CK.Bk f.codex.arts)) (Av rfl (Av rfl rfl)))))] (BJ 300 [pb hb3,pb hb4]) (by kernel_rfl) .body
 refine Ad (fun hb7=>?_) fun hb7=>?_
 let o3:LP:=[pb hb3,pn hb7]
 refine Ad (fun hb8=>?_) fun hb8=>?_
 refine Gv ?_
 rintro rfl rfl
 exact Ao Hd.Aa _ _ [] [Bc f.lines,bu [.sl .lost f.codex.facts.length (rows B7 f.codex.facts),.sl .lost f.codex.lines.length (rows B7 f.codex.lines),.sl .lost f.codex.arts.length (rows FU f.codex.arts),.mp 1,.zi w0_4_3] (Av (Ae _ _ (Bl.Bk f.codex.facts)) (Av (Ae _ _ (Bl.Bk f.codex.lines)) (Av (Ae _ _ (CK.Bk f.codex.arts)) (Av rfl (Av rfl rfl)))))] (BJ 300 (o3++[pb hb8])) (by kernel_rfl) .body
 refine Ad (fun hb9=>?_) fun hb9=>?_
 refine Ad (fun hb10=>?_) fun hb10=>?_
 refine Ad (fun hb11=>?_) fun hb11=>?_
 refine Ah fun y7 hy7=>?_
 refine Gv ?_
 rintro rfl rfl
 exact Ao Hd.Aa _ _ [] [Bc f.lines,bu [.sl .lost f.codex.facts.length (rows B7 f.codex.facts),.sl .lost f.codex.lines.length (rows B7 f.codex.lines),.sl .lost f.codex.arts.length (rows FU f.codex.arts),.mp 1,.zi w0_4_3] (Av (Ae _ _ (Bl.Bk f.codex.facts)) (Av (Ae _ _ (Bl.Bk f.codex.lines)) (Av (Ae _ _ (CK.Bk f.codex.arts)) (Av rfl (Av rfl rfl)))))] (BJ 300 (o3++[pb hb8,pb hb9,pb hb10,pb hb11,AG (On (MT hy7) 0 1)])) (by kernel_rfl) .body
 refine Gv ?_
 rintro rfl rfl
 exact Ao Hd.Aa _ _ [] [Bc f.lines,bu [.sl .lost f.codex.facts.length (rows B7 f.codex.facts),.sl .lost f.codex.lines.length (rows B7 f.codex.lines),.sl .lost f.codex.arts.length (rows FU f.codex.arts),.mp 1,.zi w0_4_3] (Av (Ae _ _ (Bl.Bk f.codex.facts)) (Av (Ae _ _ (Bl.Bk f.codex.lines)) (Av (Ae _ _ (CK.Bk f.codex.arts)) (Av rfl (Av rfl rfl)))))] (BJ 300 (o3++[pb hb8,pb hb9,pb hb10,pb hb11])) (by kernel_rfl) .body
 refine Ad (fun hb12=>?_) fun hb12=>?_
 refine Ad (fun hb13=>?_) fun hb13=>?_
 refine Ah fun y8 hy8=>?_
 refine Gv ?_
 rintro rfl rfl
 exact Ao Hd.Aa _ _ [] [Bc f.lines,bu [.sl .lost f.codex.facts.length (rows B7 f.codex.facts),.sl .lost f.codex.lines.length (rows B7 f.codex.lines),.sl .lost f.codex.arts.length (rows FU f.codex.arts),.mp 1,.zi w0_4_3] (Av (Ae _ _ (Bl.Bk f.codex.facts)) (Av (Ae _ _ (Bl.Bk f.codex.lines)) (Av (Ae _ _ (CK.Bk f.codex.arts)) (Av rfl (Av rfl rfl)))))] (BJ 300 (o3++[pb hb8,pb hb9,pb hb10,pb hb12,pb hb13,An (J4 hy8)])) (by kernel_rfl) .body
 refine Gv ?_
 rintro rfl rfl
 exact Ao Hd.Aa _ _ [] [Bc f.lines,bu [.sl .lost f.codex.facts.length (rows B7 f.codex.facts),.sl .lost f.codex.lines.length (rows B7 f.codex.lines),.sl .lost f.codex.arts.length (rows FU f.codex.arts),.mp 1,.zi w0_4_3] (Av (Ae _ _ (Bl.Bk f.codex.facts)) (Av (Ae _ _ (Bl.Bk f.codex.lines)) (Av (Ae _ _ (CK.Bk f.codex.arts)) (Av rfl (Av rfl rfl)))))] (BJ 300 (o3++[pb hb8,pb hb9,pb hb10,pb hb12,pb hb13])) (by kernel_rfl) .body
 refine Gv ?_
 rintro rfl rfl
 exact Ao Hd.Aa _ _ [] [Bc f.lines,bu [.sl .lost f.codex.facts.length (rows B7 f.codex.facts),.sl .lost f.codex.lines.length (rows B7 f.codex.lines),.sl .lost f.codex.arts.length (rows FU f.codex.arts),.mp 1,.zi w0_4_3] (Av (Ae _ _ (Bl.Bk f.codex.facts)) (Av (Ae _ _ (Bl.Bk f.codex.lines)) (Av (Ae _ _ (CK.Bk f.codex.arts)) (Av rfl (Av rfl rfl)))))] (BJ 300 (o3++[pb hb8,pb hb9,pb hb10,pb hb12])) (by kernel_rfl) .body
 refine Ad (fun hb14=>?_) fun hb14=>?_
 refine Ad (fun hb15=>?_) fun hb15=>?_
 refine Ah fun y9 hy9=>?_
 refine Gv ?_
 rintro rfl rfl
 exact Ao Hd.Aa _ _ [] [Bc f.lines,bu [.sl .lost f.codex.facts.length (rows B7 f.codex.facts),.sl .lost f.codex.lines.length (rows B7 f.codex.lines),.sl .lost f.codex.arts.length (rows FU f.codex.arts),.mp 1,.zi w0_4_3] (Av (Ae _ _ (Bl.Bk f.codex.facts)) (Av (Ae _ _ (Bl.Bk f.codex.lines)) (Av (Ae _ _ (CK.Bk f.codex.arts)) (Av rfl (Av rfl rfl)))))] (BJ 300 (o3++[pb hb8,pb hb9,pb hb14,pb hb15,An (J4 hy9)])) (by kernel_rfl) .body
 refine Gv ?_
 rintro rfl rfl
 exact Ao Hd.Aa _ _ [] [Bc f.lines,bu [.sl .lost f.codex.facts.length (rows B7 f.codex.facts),.sl .lost f.codex.lines.length (rows B7 f.codex.lines),.sl .lost f.codex.arts.length (rows FU f.codex.arts),.mp 1,.zi w0_4_3] (Av (Ae _ _ (Bl.Bk f.codex.facts)) (Av (Ae _ _ (Bl.Bk f.codex.lines)) (Av (Ae _ _ (CK.Bk f.codex.arts)) (Av rfl (Av rfl rfl)))))] (BJ 300 (o3++[pb hb8,pb hb9,pb hb14,pb hb15])) (by kernel_rfl) .body
 refine Gv ?_
 rintro rfl rfl
 exact Ao Hd.Aa _ _ [] [Bc f.lines,bu [.sl .lost f.codex.facts.length (rows B7 f.codex.facts),.sl .lost f.codex.lines.length (rows B7 f.codex.lines),.sl .lost f.codex.arts.length (rows FU f.codex.arts),.mp 1,.zi w0_4_3] (Av (Ae _ _ (Bl.Bk f.codex.facts)) (Av (Ae _ _ (Bl.Bk f.codex.lines)) (Av (Ae _ _ (CK.Bk f.codex.arts)) (Av rfl (Av rfl rfl)))))] (BJ 300 (o3++[pb hb8,pb hb9,pb hb14])) (by kernel_rfl) .body
 refine Gv ?_
 rintro rfl rfl
 exact Ao Hd.Aa _ _ [] [Bc f.lines,bu [.sl .lost f.codex.facts.length (rows B7 f.codex.facts),.sl .lost f.codex.lines.length (rows B7 f.codex.lines),.sl .lost f.codex.arts.length (rows FU f.codex.arts),.mp 1,.zi w0_4_3] (Av (Ae _ _ (Bl.Bk f.codex.facts)) (Av (Ae _ _ (Bl.Bk f.codex.lines)) (Av (Ae _ _ (CK.Bk f.codex.arts)) (Av rfl (Av rfl rfl)))))] (BJ 300 [pb hb3,pn hb7]) (by kernel_rfl) .body
 subst hv
 refine Gv ?_
 rintro rfl rfl
 exact Ao Hd.Aa _ _ [] [Bc f.lines,bu [.sl .lost f.codex.facts.length (rows B7 f.codex.facts),.sl .lost f.codex.lines.length (rows B7 f.codex.lines),.sl .lost f.codex.arts.length (rows FU f.codex.arts),.mp 1,.zi (BW f.nodes 1)] (Av (Ae _ _ (Bl.Bk f.codex.facts)) (Av (Ae _ _ (Bl.Bk f.codex.lines)) (Av (Ae _ _ (CK.Bk f.codex.arts)) (Av rfl (Av rfl rfl)))))] (Ag 300 [pk,pb hb1,pb hb2,An (Je hy1)]) (by kernel_rfl) .body
noncomputable def BE:Nat→Ft→Ex→Int→Option (Bool×Int)
 | 0,_,_,_=>none
 | qn+1,f,e,depth=>DV (BE qn) f e depth
theorem Nq:∀ qn:Nat,∀ {f:Ft} {e:Ex} {depth:Int} {yR:Bool} {qf_nodesR:Int},BE qn f e depth=some (yR,qf_nodesR)→Sound P G (.call 140 [.ptr 0 0,.agg (Er e),.zi depth] ⟨[(1,(BA f.lines)),(0,.cells (Jy 1 f))],2,[],0⟩ (.ret (.zb yR)) ⟨[(1,(BA f.lines)),(0,.cells [.sl .lost f.codex.facts.length (rows B7 f.codex.facts),.sl .lost f.codex.lines.length (rows B7 f.codex.lines),.sl .lost f.codex.arts.length (rows FU f.codex.arts),.mp 1,.zi qf_nodesR])],2,[],0⟩):=by
 intro qn
 induction qn with
 | zero=>exact (fun h=>by simp only [BE] at h;cases h)
 | succ qn ih=>exact (fun h=>Mz (BE qn) ih (by rw [BE] at h;exact h))
noncomputable def H6 (f:Ft) (e:Ex) (depth:Int):Option (Bool×Int):=W5 (fun qn=>BE qn f e depth)
theorem NV {f:Ft} {e:Ex} {depth:Int} {yR:Bool} {qf_nodesR:Int} (h:H6 f e depth=some (yR,qf_nodesR)):Sound P G (.call 140 [.ptr 0 0,.agg (Er e),.zi depth] ⟨[(1,(BA f.lines)),(0,.cells (Jy 1 f))],2,[],0⟩ (.ret (.zb yR)) ⟨[(1,(BA f.lines)),(0,.cells [.sl .lost f.codex.facts.length (rows B7 f.codex.facts),.sl .lost f.codex.lines.length (rows B7 f.codex.lines),.sl .lost f.codex.arts.length (rows FU f.codex.arts),.mp 1,.zi qf_nodesR])],2,[],0⟩):=by
 obtain ⟨qn,h⟩:=Ru h
 exact (Nq qn) h
noncomputable def B94:Code:=AY Tryz.f94
theorem b94:Tryz.f94.body=some B94:=by kernel_rfl
noncomputable def Ds  (f:Ft) (e:Ex) (unit:ByteArray):Option (Bool×Int):=cond (BC e.unit.data.toList unit.data.toList) ((H6 (⟨f.codex,f.lines,0⟩:Ft) e 1).bind fun (y1a,y1b)=>some (y1a,y1b)) (some (false,0))
theorem J8 {f:Ft} {e:Ex} {unit:ByteArray} {yR:Bool} {qf_nodesR:Int} (hS:Sound P G (.call 94 [.ptr 0 0,.agg (Er e),.zs unit] ⟨[(1,(BA f.lines)),(0,.cells (Jy 1 f))],2,[],0⟩ (.ret (.zb yR)) ⟨[(1,(BA f.lines)),(0,.cells [.sl .lost f.codex.facts.length (rows B7 f.codex.facts),.sl .lost f.codex.lines.length (rows B7 f.codex.lines),.sl .lost f.codex.arts.length (rows FU f.codex.arts),.mp 1,.zi qf_nodesR])],2,[],0⟩)) (u0 u1:Nat) (hnb:([u0,u1]:List Nat).Nodup:=by decide) (hnt:([]:List Nat).Nodup:=by decide):Cd.ok P G (.callU 94 [.ptr u0 0,.agg (Er e),.zs unit] (.ret (.zb yR)) [(u0,.cells (Jy u1 f)),(u1,(BA f.lines))] [] [(u0,.cells [.sl .lost f.codex.facts.length (rows B7 f.codex.facts),.sl .lost f.codex.lines.length (rows B7 f.codex.lines),.sl .lost f.codex.arts.length (rows FU f.codex.arts),.mp u1,.zi qf_nodesR]),(u1,(BA f.lines))] []) :=
 CS (M:=[.cells (Jy 1 f),(BA f.lines)]) (M2:=[.cells [.sl .lost f.codex.facts.length (rows B7 f.codex.facts),.sl .lost f.codex.lines.length (rows B7 f.codex.lines),.sl .lost f.codex.arts.length (rows FU f.codex.arts),.mp 1,.zi qf_nodesR],(BA f.lines)]) (T:=[]) (T2:=[]) (k:=2) (j:=0) Hd.Aa _ _ _ _ hS rfl rfl rfl rfl rfl hnb hnt rfl rfl (.cons (.cells (SS f (by decide))) (.cons (BK (fun _=>rfl)) .nil)) (.cons (.cells (.cons (.pl (Bl.Bk f.codex.facts)) (.cons (.pl (Bl.Bk f.codex.lines)) (.cons (.pl (CK.Bk f.codex.arts)) (.cons (.mp (by decide)) (.cons (.pl rfl) .nil)))))) (.cons (BK (fun _=>rfl)) .nil)) (.cons (.ptr (by decide)) (.cons (.pl (By.Dp e)) (.cons (.pl rfl) .nil))) (.pl rfl) (by
   intro e he
   simp only [List.mem_cons,List.not_mem_nil,or_false] at he
   rcases he with rfl | rfl
   · exact (.arg (.here .ptr))
   · exact (.box (p:=0) (.arg (.here .ptr)) rfl (.there (.there (.there (.here .mp)))))
   )
theorem IF   {f:Ft} {e:Ex} {unit:ByteArray} {yR:Bool} {qf_nodesR:Int} (h:Ds  f e unit=some (yR,qf_nodesR)):Sound P G (.call 94 [.ptr 0 0,.agg (Er e),.zs unit] ⟨[(1,(BA f.lines)),(0,.cells (Jy 1 f))],2,[],0⟩ (.ret (.zb yR)) ⟨[(1,(BA f.lines)),(0,.cells [.sl .lost f.codex.facts.length (rows B7 f.codex.facts),.sl .lost f.codex.lines.length (rows B7 f.codex.lines),.sl .lost f.codex.arts.length (rows FU f.codex.arts),.mp 1,.zi qf_nodesR])],2,[],0⟩):=by
 unfold Ds at h
 refine CT Hd.mixed (Ay Tryz.func94 b94 ?_)
 revert h
 refine Ad (fun hb1=>?_) fun hb1=>?_
 refine Ah ?_
 rintro ⟨y1a,y1b⟩ hy1
 dsimp only
 refine Gv ?_
 rintro rfl rfl
 exact Ao Hd.Aa _ _ [] [Bc f.lines,bu [.sl .lost f.codex.facts.length (rows B7 f.codex.facts),.sl .lost f.codex.lines.length (rows B7 f.codex.lines),.sl .lost f.codex.arts.length (rows FU f.codex.arts),.mp 1,.zi y1b] (Av (Ae _ _ (Bl.Bk f.codex.facts)) (Av (Ae _ _ (Bl.Bk f.codex.lines)) (Av (Ae _ _ (CK.Bk f.codex.arts)) (Av rfl (Av rfl rfl)))))] (Ag 300 [pb hb1,AG (Ku (NV hy1) 0 1)]) (by kernel_rfl) .body
 refine Gv ?_
 rintro rfl rfl
 exact Ao Hd.Aa _ _ [] [Bc f.lines,bu [.sl .lost f.codex.facts.length (rows B7 f.codex.facts),.sl .lost f.codex.lines.length (rows B7 f.codex.lines),.sl .lost f.codex.arts.length (rows FU f.codex.arts),.mp 1,.zi 0] (Av (Ae _ _ (Bl.Bk f.codex.facts)) (Av (Ae _ _ (Bl.Bk f.codex.lines)) (Av (Ae _ _ (CK.Bk f.codex.arts)) (Av rfl (Av rfl rfl)))))] (Ag 300 [pb hb1]) (by kernel_rfl) .body
noncomputable def B56:Code:=AY Tryz.f56
theorem b56:Tryz.f56.body=some B56:=by kernel_rfl
noncomputable def Et  (f:Ft) (i0:Nat) (e0:Int) :Option (Lp Unit Unit (Bool×Int)):=cond ((f.lines.get e0).isSome) (some (.nx ())) (some (.rt (false,f.nodes)))
noncomputable def Ez  (f:Ft) (i1:Nat) (e1:Ex) (w0_4:Int):Option (Lp Int Int (Bool×Int)):=(Ds (⟨f.codex,f.lines,w0_4⟩:Ft) e1 Ak).bind fun (y2a,y2b)=>cond y2a (some (.nx y2b)) (some (.rt (false,y2b)))
noncomputable def DN  (f:Ft) (a:Ar):Option (Bool×Int):=cond (DH a.rank 0) (some (false,f.nodes)) (cond (DH 1000000 a.rank) (some (false,f.nodes)) (cond (DH a.fr 0) (some (false,f.nodes)) (cond (Kt a.to a.fr) (some (false,f.nodes)) (cond (DH 36525 a.to) (some (false,f.nodes)) (cond (DH a.known 0) (some (false,f.nodes)) (cond (DH 36524 a.known) (some (false,f.nodes)) ((GW a.un.length (AL (fun i y x=>Et  f i y ) (fun x=>()) (a.un.drop 0) 0 ())).bind (GQ (fun (_:Unit)=>(GW a.wh.length (AL (fun i y x=>Ez  f i y x) (fun x=>x) (a.wh.drop 0) 0 f.nodes)).bind (GQ (fun (w0_4_3:Int)=>(CP f.codex.lines a.line).bind fun x4=>(Ds (⟨f.codex,f.lines,w0_4_3⟩:Ft) a.am x4.unit).bind fun (y5a,y5b)=>some (y5a,y5b)) (fun v=>some v))) (fun v=>some v)))))))))
theorem M7 {f:Ft} {a:Ar} {yR:Bool} {qf_nodesR:Int} (hS:Sound P G (.call 56 [.ptr 0 0,.agg (FU a)] ⟨[(1,(BA f.lines)),(0,.cells (Jy 1 f))],2,[],0⟩ (.ret (.zb yR)) ⟨[(1,(BA f.lines)),(0,.cells [.sl .lost f.codex.facts.length (rows B7 f.codex.facts),.sl .lost f.codex.lines.length (rows B7 f.codex.lines),.sl .lost f.codex.arts.length (rows FU f.codex.arts),.mp 1,.zi qf_nodesR])],2,[],0⟩)) (u0 u1:Nat) (hnb:([u0,u1]:List Nat).Nodup:=by decide) (hnt:([]:List Nat).Nodup:=by decide):Cd.ok P G (.callU 56 [.ptr u0 0,.agg (FU a)] (.ret (.zb yR)) [(u0,.cells (Jy u1 f)),(u1,(BA f.lines))] [] [(u0,.cells [.sl .lost f.codex.facts.length (rows B7 f.codex.facts),.sl .lost f.codex.lines.length (rows B7 f.codex.lines),.sl .lost f.codex.arts.length (rows FU f.codex.arts),.mp u1,.zi qf_nodesR]),(u1,(BA f.lines))] []) :=
 CS (M:=[.cells (Jy 1 f),(BA f.lines)]) (M2:=[.cells [.sl .lost f.codex.facts.length (rows B7 f.codex.facts),.sl .lost f.codex.lines.length (rows B7 f.codex.lines),.sl .lost f.codex.arts.length (rows FU f.codex.arts),.mp 1,.zi qf_nodesR],(BA f.lines)]) (T:=[]) (T2:=[]) (k:=2) (j:=0) Hd.Aa _ _ _ _ hS rfl rfl rfl rfl rfl hnb hnt rfl rfl (.cons (.cells (SS f (by decide))) (.cons (BK (fun _=>rfl)) .nil)) (.cons (.cells (.cons (.pl (Bl.Bk f.codex.facts)) (.cons (.pl (Bl.Bk f.codex.lines)) (.cons (.pl (CK.Bk f.codex.arts)) (.cons (.mp (by decide)) (.cons (.pl rfl) .nil)))))) (.cons (BK (fun _=>rfl)) .nil)) (.cons (.ptr (by decide)) (.cons (.pl (CK.Dp a)) .nil)) (.pl rfl) (by
   intro e he
   simp only [List.mem_cons,List.not_mem_nil,or_false] at he
   rcases he with rfl | rfl
   · exact (.arg (.here .ptr))
   · exact (.box (p:=0) (.arg (.here .ptr)) rfl (.there (.there (.there (.here .mp)))))
   )
theorem Lr   {f:Ft} {a:Ar} {yR:Bool} {qf_nodesR:Int} (h:DN  f a=some (yR,qf_nodesR)):Sound P G (.call 56 [.ptr 0 0,.agg (FU a)] ⟨[(1,(BA f.lines)),(0,.cells (Jy 1 f))],2,[],0⟩ (.ret (.zb yR)) ⟨[(1,(BA f.lines)),(0,.cells [.sl .lost f.codex.facts.length (rows B7 f.codex.facts),.sl .lost f.codex.lines.length (rows B7 f.codex.lines),.sl .lost f.codex.arts.length (rows FU f.codex.arts),.mp 1,.zi qf_nodesR])],2,[],0⟩):=by
 unfold DN at h
 refine CT Hd.mixed (Ay Tryz.func56 b56 ?_)
 revert h
 refine Ad (fun hb1=>?_) fun hb1=>?_
 refine Gv ?_
 rintro rfl rfl
 exact Ao Hd.Aa _ _ [] [Bc f.lines,bu (Jy 1 f) (E0 rfl)] (Ag 300 [pb hb1]) (by kernel_rfl) .body
 refine Ad (fun hb2=>?_) fun hb2=>?_
 refine Gv ?_
 rintro rfl rfl
 exact Ao Hd.Aa _ _ [] [Bc f.lines,bu (Jy 1 f) (E0 rfl)] (Ag 300 [pb hb1,pb hb2]) (by kernel_rfl) .body
 let o1:LP:=[pb hb1,pb hb2]
 refine Ad (fun hb3=>?_) fun hb3=>?_
 refine Gv ?_
 rintro rfl rfl
 exact Ao Hd.Aa _ _ [] [Bc f.lines,bu (Jy 1 f) (E0 rfl)] (Ag 300 (o1++[pb hb3])) (by kernel_rfl) .body
 refine Ad (fun hb4=>?_) fun hb4=>?_
 refine Gv ?_
 rintro rfl rfl
 exact Ao Hd.Aa _ _ [] [Bc f.lines,bu (Jy 1 f) (E0 rfl)] (Ag 300 (o1++[pb hb3,pb hb4])) (by kernel_rfl) .body
 refine Ad (fun hb5=>?_) fun hb5=>?_
 refine Gv ?_
 rintro rfl rfl
 exact Ao Hd.Aa _ _ [] [Bc f.lines,bu (Jy 1 f) (E0 rfl)] (Ag 300 (o1++[pb hb3,pb hb4,pb hb5])) (by kernel_rfl) .body
 refine Ad (fun hb6=>?_) fun hb6=>?_
 refine Gv ?_
 rintro rfl rfl
 exact Ao Hd.Aa _ _ [] [Bc f.lines,bu (Jy 1 f) (E0 rfl)] (Ag 300 (o1++[pb hb3,pb hb4,pb hb5,pb hb6])) (by kernel_rfl) .body
 refine Ad (fun hb7=>?_) fun hb7=>?_
 refine Gv ?_
 rintro rfl rfl
 exact Ao Hd.Aa _ _ [] [Bc f.lines,bu (Jy 1 f) (E0 rfl)] (Ag 300 (o1++[pb hb3,pb hb4,pb hb5,pb hb6,pb hb7])) (by kernel_rfl) .body
 refine DF (fun Q v=>Iu P G Tryz.f56 2 ⟨[(1,(BA f.lines)),(0,.cells (Jy 1 f))],2,[],0⟩ Q (.zb v.1) ⟨[(1,(BA f.lines)),(0,.cells [.sl .lost f.codex.facts.length (rows B7 f.codex.facts),.sl .lost f.codex.lines.length (rows B7 f.codex.lines),.sl .lost f.codex.arts.length (rows FU f.codex.arts),.mp 1,.zi v.2])],2,[],0⟩) (fun i0 (_:Unit) (j0:List Value)=>fr 89 [(0,.ptr 0 0),(3,.ptr 2 0),(45,.sl .lost a.un.length (rows Qt a.un)),(46,.zi ((a.un.length:Nat):Int)),(47,.zi ((i0:Nat):Int))] [4,8,13,14,17,18,19,22,23,24,29,30,31,34,35,38,39,42,43,48,59,60,61,67,72,73,88] j0) (fun (_:Unit)=>⟨[(2,.cells (FU a)),(1,(BA f.lines)),(0,.cells (Jy 1 f))],3,[],0⟩) (fun (_:Unit) (jx:List Value)=>fr 89 [(0,.ptr 0 0),(3,.ptr 2 0)] [4,8,13,14,17,18,19,22,23,24,29,30,31,34,35,38,39,42,43,48,59,60,61,67,72,73,88] jx) (fun (_:Unit)=>⟨[(2,.cells (FU a)),(1,(BA f.lines)),(0,.cells (Jy 1 f))],3,[],0⟩) [bF,undef,bF,bF,bF,bF,bF,bF,bF,bF,bF,bF,bF,bF,bF,bF,bF,bF,bF] (Dq [] 0 (sb B56 244) [.code (sb B56 31)] (Ag 300 (o1++[pb hb3,pb hb4,pb hb5,pb hb6,pb hb7])) (by kernel_rfl)) ?_ ?_ ?_ (fun v h=>by cases h;exact .outer .body)
 rintro i0 ⟨⟩ j0 hge hq
 exact B1 (Ag 300 [pb (IJ hge)]) (by kernel_rfl) (hq (js 27 j0 [(19,bF)]))
 rintro i0 e0 ⟨⟩ j0 r he0 hi0 mi0 k
 show Et  f i0 e0 =some r→_
 unfold Et
 refine Ad (fun hb8=>?_) fun hb8=>?_
 rintro ⟨⟩
 exact D9 (Ag 300 [pb (Fk hi0),BT (bR .lost he0),Ko (Rh f.lines e0 hb8),pi mi0]) (by kernel_rfl) (k (js 27 j0 [(1,bT),(19,bT),(20,bT),(21,bT),(22,bF)]))
 rintro ⟨⟩
 exact Ao Hd.Aa _ _ [] [Bc f.lines,bu (Jy 1 f) (E0 rfl)] (Ag 300 [pb (Fk hi0),BT (bR .lost he0),Ko (Rh f.lines e0 hb8)]) (by kernel_rfl) (.Em k)
 rintro ⟨⟩ jx_1
 refine DF (fun Q v=>Iu P G Tryz.f56 2 ⟨[(1,(BA f.lines)),(0,.cells (Jy 1 f))],2,[],0⟩ Q (.zb v.1) ⟨[(1,(BA f.lines)),(0,.cells [.sl .lost f.codex.facts.length (rows B7 f.codex.facts),.sl .lost f.codex.lines.length (rows B7 f.codex.lines),.sl .lost f.codex.arts.length (rows FU f.codex.arts),.mp 1,.zi v.2])],2,[],0⟩) (fun i1 (w0_4:Int) (j1:List Value)=>fr 89 [(0,.ptr 0 0),(3,.ptr 2 0),(64,.sl .lost a.wh.length (BL a.wh)),(65,.zi ((a.wh.length:Nat):Int)),(66,.zi ((i1:Nat):Int))] [4,8,13,14,17,18,19,22,23,24,29,30,31,34,35,38,39,42,43,48,59,60,61,67,72,73,88] j1) (fun (w0_4:Int)=>⟨[(2,.cells (FU a)),(1,(BA f.lines)),(0,.cells [.sl .lost f.codex.facts.length (rows B7 f.codex.facts),.sl .lost f.codex.lines.length (rows B7 f.codex.lines),.sl .lost f.codex.arts.length (rows FU f.codex.arts),.mp 1,.zi w0_4])],3,[],0⟩) (fun (w0_4:Int) (jx:List Value)=>fr 89 [(0,.ptr 0 0),(3,.ptr 2 0)] [4,8,13,14,17,18,19,22,23,24,29,30,31,34,35,38,39,42,43,48,59,60,61,67,72,73,88] jx) (fun (w0_4:Int)=>⟨[(2,.cells (FU a)),(1,(BA f.lines)),(0,.cells [.sl .lost f.codex.facts.length (rows B7 f.codex.facts),.sl .lost f.codex.lines.length (rows B7 f.codex.lines),.sl .lost f.codex.arts.length (rows FU f.codex.arts),.mp 1,.zi w0_4])],3,[],0⟩) jx_1 (Dq [] 2 (sb B56 500) [.code (sb B56 63)] (BJ 300 []) (by kernel_rfl)) ?_ ?_ ?_ (fun v h=>by cases h;exact .outer .body)
 rintro i1 w0_4 j1 hge hq
 exact B1 (Ag 300 [pb (IJ hge)]) (by kernel_rfl) (hq (js 27 j1 [(23,bF)]))
 rintro i1 e1 w0_4 j1 r he1 hi1 mi1 k
 show Ez  f i1 e1 w0_4=some r→_
 unfold Ez
 refine Ah ?_
 rintro ⟨y2a,y2b⟩ hy2
 dsimp only
 let o2:LP:=[pb (Fk hi1),BT (No .lost he1),AG (J8 (IF hy2) 0 1)]
 refine Ad (fun hv=>?_) fun hv=>?_
 subst hv
 rintro ⟨⟩
 exact Bt Hd.Aa [fq (By.Bk a.wh)] [bp (CK.pl a),Bc f.lines,bu [.sl .lost f.codex.facts.length (rows B7 f.codex.facts),.sl .lost f.codex.lines.length (rows B7 f.codex.lines),.sl .lost f.codex.arts.length (rows FU f.codex.arts),.mp 1,.zi y2b] (Av (Ae _ _ (Bl.Bk f.codex.facts)) (Av (Ae _ _ (Bl.Bk f.codex.lines)) (Av (Ae _ _ (CK.Bk f.codex.arts)) (Av rfl (Av rfl rfl)))))] (Ag 300 (o2++[pi mi1])) (by kernel_rfl) (k (js 27 j1 [(23,bT),(24,bT),(25,bF)]))
 subst hv
 rintro ⟨⟩
 exact Ao Hd.Aa _ _ [] [Bc f.lines,bu [.sl .lost f.codex.facts.length (rows B7 f.codex.facts),.sl .lost f.codex.lines.length (rows B7 f.codex.lines),.sl .lost f.codex.arts.length (rows FU f.codex.arts),.mp 1,.zi y2b] (Av (Ae _ _ (Bl.Bk f.codex.facts)) (Av (Ae _ _ (Bl.Bk f.codex.lines)) (Av (Ae _ _ (CK.Bk f.codex.arts)) (Av rfl (Av rfl rfl)))))] (Ag 300 o2) (by kernel_rfl) (.Em k)
 rintro w0_4_3 jx_3
 refine Ah fun x4 hx4=>?_
 refine Ah ?_
 rintro ⟨y5a,y5b⟩ hy5
 dsimp only
 refine Gv ?_
 rintro rfl rfl
 exact Ao Hd.Aa _ _ [] [Bc f.lines,bu [.sl .lost f.codex.facts.length (rows B7 f.codex.facts),.sl .lost f.codex.lines.length (rows B7 f.codex.lines),.sl .lost f.codex.arts.length (rows FU f.codex.arts),.mp 1,.zi y5b] (Av (Ae _ _ (Bl.Bk f.codex.facts)) (Av (Ae _ _ (Bl.Bk f.codex.lines)) (Av (Ae _ _ (CK.Bk f.codex.arts)) (Av rfl (Av rfl rfl)))))] (BJ 300 [pz 13,BT (Nh .lost hx4),AG (J8 (IF hy5) 0 1)]) (by kernel_rfl) .body
end Mo
end Go.Proofs.YtnijkdknnmgoeaaGreat
