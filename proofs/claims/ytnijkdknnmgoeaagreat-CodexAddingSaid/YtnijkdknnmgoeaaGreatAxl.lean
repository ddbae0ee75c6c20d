/- Part of a proof: see the last text. -/
import Derived.Test.YtnijkdknnmgoeaaGreatAxk
set_option linter.unusedVariables false
set_option linter.unusedSimpArgs false
namespace Go.Proofs.YtnijkdknnmgoeaaGreat
open AI Go
namespace Mo
set_option maxRecDepth 100000
set_option maxHeartbeats 4000000
noncomputable def rB:Code:=Bo Tryz.f14
theorem xJ:Tryz.f14.body=some rB:=by kernel_rfl
noncomputable def FC  (y3a:(List Dc)) (y3b:(List Dc)) (y3c:(Mm ByteArray Int)) (y3d:(Mm ByteArray Int)) (y3e:(Mm Int Int)) (i0:Nat) (e0:Nd) (diags6:(List Dg)) (w6_2:(List Ar)):Option (Lp ((List Dg)×(List Ar)) ((List Dg)×(List Ar)) (Co×(List Dg))):=cond (CN e0.kind 4) ((Cg (⟨(⟨y3a,y3b,w6_2⟩:Co),y3c,y3d,y3e⟩:Tr) e0).bind fun (y5a,y5b)=>Hy (diags6.length+y5a.length) (cond (CN ((y5a.length:Nat):Int) 0) (some (.nx (diags6,y5b))) (some (.nx ((diags6++y5a),y5b))))) (some (.nx (diags6,w6_2)))
noncomputable def Ch  (source:Nd):Option (Co×(List Dg)):=cond (CN source.kind 1) ((DC source).bind fun y1=>cond y1 ((En source).bind fun y2=>cond (Fu 0 ((y2.length:Nat):Int)) (some ((⟨[],[],[]⟩:Co),y2)) ((CW source).bind fun (y3a,y3b,y3c,y3d,y3e)=>(G8 source.kids.length (Bk (fun i y x=>FC  y3a y3b y3c y3d y3e i y x.1 x.2) (fun x=>(x.1,x.2)) (source.kids.drop 0) 0 ([],[]))).bind (Hv (fun ((diags6_7,w6_2_7):((List Dg)×(List Ar)))=>cond (Fu 0 ((diags6_7.length:Nat):Int)) (cond (CN (Uj ((diags6_7.length:Nat):Int) 20) ((diags6_7.length:Nat):Int)) (some ((⟨[],[],[]⟩:Co),diags6_7)) ((FZ diags6_7 0 (Uj ((diags6_7.length:Nat):Int) 20)).bind fun l8=>some ((⟨[],[],[]⟩:Co),l8))) (some ((⟨y3a,y3b,w6_2_7⟩:Co),[]))) (fun v=>some v)))) (some ((⟨[],[],[]⟩:Co),[(⟨1,0⟩:Dg)]))) (some ((⟨[],[],[]⟩:Co),[(⟨1,0⟩:Dg)]))
theorem F7   {source:Nd} {yR:(Co×(List Dg))} (h:Ch  source=some yR):Pure P G 14 [.agg (Bq source)] (.Bh [.agg (W3 yR.1),.sl .lost yR.2.length (rows CA yR.2)]):=by
 unfold Ch at h
 refine DD Hd.mixed Hd.Ab (Ba Tryz.func14 xJ ?_) (Bi (Au.D1 source) rfl) (Bi (KY.D1 yR.1) (Bi (A7.CI yR.2) rfl))
 revert h
 refine Ai (fun hb1=>?_) fun hb1=>?_
 refine AB fun y1 hy1=>?_
 refine Ai (fun hv=>?_) fun hv=>?_
 subst hv
 refine AB fun y2 hy2=>?_
 refine Ai (fun hb2=>?_) fun hb2=>?_
 intro h
 have hE:=Option.some.inj h
 subst hE
 exact Be (v:=.Bh [.agg [.sl .full 0 [],.sl .full 0 [],.sl .full 0 []],.sl .lost y2.length (rows CA y2)]) _ _ (Ae 300 [pn hb1,Bu (DT hy1),Bu (Ic hy2),pb hb2]) (by kernel_rfl) .body (.wn (.u (.g (.z (.z (.z .nil))) (.r .nil)) .nil) (Bi (KY.D1 (⟨[],[],[]⟩:Co)) (Bi (A7.CI y2) rfl)))
 refine AB ?_
 rintro ⟨y3a,y3b,y3c,y3d,y3e⟩ hy3
 dsimp only
 refine EQ (fun Q v=>FF P Tryz.f14 0 Q (.Bh [.agg (W3 v.1),.sl .lost v.2.length (rows CA v.2)])) (fun i0 ((diags6,w6_2):((List Dg)×(List Ar))) (j0:List Value)=>fr 58 [(2,.ptr 1 0),(5,.ptr 6 0),(6,.sl (.row 2 2) diags6.length (rows CA diags6)),(30,.sl .lost source.kids.length (B5 source.kids)),(31,.sc (.int .i64 ((source.kids.length:Nat):Int))),(32,.sc (.int .i64 ((i0:Nat):Int)))] [11,12,14,15,16,24,33,38,47] j0) (fun ((diags6,w6_2):((List Dg)×(List Ar)))=>⟨[(6,.cells [.sl (.row 0 3) y3a.length (rows Eb y3a),.sl (.row 1 3) y3b.length (rows Eb y3b),.sl (.row 3 14) w6_2.length (rows Kp w6_2),.mp 3,.mp 4,.mp 5]),(5,(AQ y3e)),(4,(Ah y3d)),(3,(Ah y3c)),(1,.cells [.sl .full 0 [],.sl .full 0 [],.sl .full 0 []]),(0,.cells (Bq source))],7,[(3,w6_2.length),(2,diags6.length),(1,y3b.length),(0,y3a.length)],4⟩) (fun ((diags6,w6_2):((List Dg)×(List Ar))) (jx:List Value)=>fr 58 [(2,.ptr 1 0),(5,.ptr 6 0),(6,.sl (.row 2 2) diags6.length (rows CA diags6))] [11,12,14,15,16,24,33,38,47] jx) (fun ((diags6,w6_2):((List Dg)×(List Ar)))=>⟨[(6,.cells [.sl (.row 0 3) y3a.length (rows Eb y3a),.sl (.row 1 3) y3b.length (rows Eb y3b),.sl (.row 3 14) w6_2.length (rows Kp w6_2),.mp 3,.mp 4,.mp 5]),(5,(AQ y3e)),(4,(Ah y3d)),(3,(Ah y3c)),(1,.cells [.sl .full 0 [],.sl .full 0 [],.sl .full 0 []]),(0,.cells (Bq source))],7,[(3,w6_2.length),(2,diags6.length),(1,y3b.length),(0,y3a.length)],4⟩) [.bool false,.bool false,.bool true,.bool false,.bool false,.bool false] (EH [.t 6 2,.b 6 2 14] 0 (sb rB 1012) [.code (sb rB 127)] (Ae 300 [pn hb1,Bu (DT hy1),Bu (Ic hy2),pb hb2,Rr (v:=.ptr 6 0) (h:=[(6,.cells [.sl (.row 0 3) y3a.length (rows Eb y3a),.sl (.row 1 3) y3b.length (rows Eb y3b),.sl .full 0 [],.mp 3,.mp 4,.mp 5]),(5,(AQ y3e)),(4,(Ah y3d)),(3,(Ah y3c))] ) (F:=[(1,y3b.length),(0,y3a.length)]) (IY (HY hy3) 2 0)]) (by kernel_rfl)) ?_ ?_ ?_ (fun v h=>by cases h;exact .outer .body)
 rintro i0 ⟨diags6,w6_2⟩ j0 hge hq
 exact C0 (Ae 300 [pb (I3 hge)]) (by kernel_rfl) (hq (js 9 j0 [(6,.bool false)]))
 rintro i0 e0 ⟨diags6,w6_2⟩ j0 r he0 hi0 mi0 k
 show FC  y3a y3b y3c y3d y3e i0 e0 diags6 w6_2=some r→_
 unfold FC
 refine Ai (fun hb5=>?_) fun hb5=>?_
 refine AB ?_
 rintro ⟨y5a,y5b⟩ hy5
 dsimp only
 refine GJ fun hl6=>?_
 let o1:List (PC P G):=[pb (Gw hi0),Dw (Dp .lost he0),pb hb5,AM (Ho (Gs hy5) 6 3 4 5 0 1 3)]
 refine Ai (fun hb6=>?_) fun hb6=>?_
 rintro ⟨⟩
 exact BD Hd.Ab [⟨.sl (.row 2 2) diags6.length (rows CA diags6),.sl (.row 2 2) diags6.length (rows CA diags6),(.under (CY rfl (Aj _ _ (A7.Bi diags6))))⟩,fq (Au.CI source.kids)] [bu [.sl (.row 0 3) y3a.length (rows Eb y3a),.sl (.row 1 3) y3b.length (rows Eb y3b),.sl (.row 3 14) y5b.length (rows Kp y5b),.mp 3,.mp 4,.mp 5] (BE (CY rfl (Aj _ _ (CU.Bi y3a))) (BE (CY rfl (Aj _ _ (CU.Bi y3b))) (BE (CY rfl (Aj _ _ (HL.Bi y5b))) (BE rfl (BE rfl (BE rfl rfl)))))),BH y3e,A9 y3d,A9 y3c,bw (.cells [.sl .full 0 [],.sl .full 0 [],.sl .full 0 []]) (.cells [.sl .full 0 [],.sl .full 0 [],.sl .full 0 []]) (.cells (.plain (Bi (FV rfl) (Bi (FV rfl) (Bi (FV rfl) rfl))))),bp (Au.pl source)] (Ae 300 (o1++[wB (tE (.row 2 2) diags6 y5a (o:=.lost) ⟨[(7,.cells (Bq e0)),(6,.cells [.sl (.row 0 3) y3a.length (rows Eb y3a),.sl (.row 1 3) y3b.length (rows Eb y3b),.sl (.row 3 14) y5b.length (rows Kp y5b),.mp 3,.mp 4,.mp 5]),(5,(AQ y3e)),(4,(Ah y3d)),(3,(Ah y3c)),(1,.cells [.sl .full 0 [],.sl .full 0 [],.sl .full 0 []]),(0,.cells (Bq source))],8,[(3,y5b.length),(2,diags6.length),(1,y3b.length),(0,y3a.length)],4⟩ (by have:=Fk hb6;omega) hl6),pi mi0])) (by kernel_rfl) (k (js 9 j0 [(6,.bool true),(7,.bool true)]))
 rintro ⟨⟩
 exact BD Hd.Ab [⟨.sl (.row 2 2) ((diags6++y5a).length) (rows CA (diags6++y5a)),.sl (.row 2 2) ((diags6++y5a).length) (rows CA (diags6++y5a)),(.under (CY rfl (Aj _ _ (A7.Bi (diags6++y5a)))))⟩,fq (Au.CI source.kids)] [bu [.sl (.row 0 3) y3a.length (rows Eb y3a),.sl (.row 1 3) y3b.length (rows Eb y3b),.sl (.row 3 14) y5b.length (rows Kp y5b),.mp 3,.mp 4,.mp 5] (BE (CY rfl (Aj _ _ (CU.Bi y3a))) (BE (CY rfl (Aj _ _ (CU.Bi y3b))) (BE (CY rfl (Aj _ _ (HL.Bi y5b))) (BE rfl (BE rfl (BE rfl rfl)))))),BH y3e,A9 y3d,A9 y3c,bw (.cells [.sl .full 0 [],.sl .full 0 [],.sl .full 0 []]) (.cells [.sl .full 0 [],.sl .full 0 [],.sl .full 0 []]) (.cells (.plain (Bi (FV rfl) (Bi (FV rfl) (Bi (FV rfl) rfl))))),bp (Au.pl source)] (Ae 300 (o1++[JI (nF (.row 2 2) diags6 y5a (o:=.lost) (by have:=W0 hb6;omega) hl6),pi mi0])) (by kernel_rfl) (k (js 9 j0 [(6,.bool true),(7,.bool true)]))
 rintro ⟨⟩
 exact BD Hd.Ab [⟨.sl (.row 2 2) diags6.length (rows CA diags6),.sl (.row 2 2) diags6.length (rows CA diags6),(.under (CY rfl (Aj _ _ (A7.Bi diags6))))⟩,fq (Au.CI source.kids)] [bu [.sl (.row 0 3) y3a.length (rows Eb y3a),.sl (.row 1 3) y3b.length (rows Eb y3b),.sl (.row 3 14) w6_2.length (rows Kp w6_2),.mp 3,.mp 4,.mp 5] (BE (CY rfl (Aj _ _ (CU.Bi y3a))) (BE (CY rfl (Aj _ _ (CU.Bi y3b))) (BE (CY rfl (Aj _ _ (HL.Bi w6_2))) (BE rfl (BE rfl (BE rfl rfl)))))),BH y3e,A9 y3d,A9 y3c,bw (.cells [.sl .full 0 [],.sl .full 0 [],.sl .full 0 []]) (.cells [.sl .full 0 [],.sl .full 0 [],.sl .full 0 []]) (.cells (.plain (Bi (FV rfl) (Bi (FV rfl) (Bi (FV rfl) rfl))))),bp (Au.pl source)] (Ae 300 [pb (Gw hi0),Dw (Dp .lost he0),pb hb5,pi mi0]) (by kernel_rfl) (k (js 9 j0 [(6,.bool true),(7,.bool false)]))
 rintro ⟨diags6_7,w6_2_7⟩ jx_7
 dsimp only
 refine Ai (fun hb7=>?_) fun hb7=>?_
 refine Ai (fun hb8=>?_) fun hb8=>?_
 intro h
 have hE:=Option.some.inj h
 subst hE
 exact Be (v:=.Bh [.agg [.sl .full 0 [],.sl .full 0 [],.sl .full 0 []],.sl (.row 2 2) diags6_7.length (rows CA diags6_7)]) _ _ (CH 300 [pb hb7,kI,KA (gC (.row 2 2) hb8)]) (by kernel_rfl) .body (.wn (.u (.g (.z (.z (.z .nil))) (.s rfl .nil)) .nil) (Bi (KY.D1 (⟨[],[],[]⟩:Co)) (Bi (A7.CI diags6_7) rfl)))
 refine AB fun l8 hl8=>?_
 intro h
 have hE:=Option.some.inj h
 subst hE
 exact Be (v:=.Bh [.agg [.sl .full 0 [],.sl .full 0 [],.sl .full 0 []],.sl .lost l8.length (rows CA l8)]) _ _ (CH 300 [pb hb7,kI,KA (dL (.row 2 2) hl8 hb8)]) (by kernel_rfl) .body (.wn (.u (.g (.z (.z (.z .nil))) (.r .nil)) .nil) (Bi (KY.D1 (⟨[],[],[]⟩:Co)) (Bi (A7.CI l8) rfl)))
 intro h
 have hE:=Option.some.inj h
 subst hE
 exact Be (v:=.Bh [.agg [.sl (.row 0 3) y3a.length (rows Eb y3a),.sl (.row 1 3) y3b.length (rows Eb y3b),.sl (.row 3 14) w6_2_7.length (rows Kp w6_2_7)],.sl .full 0 []]) _ _ (CH 300 [pb hb7]) (by kernel_rfl) .body (.wn (.u (.g (.s rfl (.s rfl (.s rfl .nil))) (.z .nil)) .nil) (Bi (KY.D1 (⟨y3a,y3b,w6_2_7⟩:Co)) (Bi (A7.CI []) rfl)))
 subst hv
 intro h
 have hE:=Option.some.inj h
 subst hE
 exact Be (v:=.Bh [.agg [.sl .full 0 [],.sl .full 0 [],.sl .full 0 []],.sl .full 1 [.sc (.int .i64 1),.sc (.int .i64 0)]]) _ _ (Ae 300 [pn hb1,Bu (DT hy1)]) (by kernel_rfl) .body (.wn (.u (.g (.z (.z (.z .nil))) (.d (.r (.r .nil)) (A7.eq [(⟨1,0⟩:Dg)]).symm .nil)) .nil) (Bi (KY.D1 (⟨[],[],[]⟩:Co)) (Bi (A7.CI [(⟨1,0⟩:Dg)]) rfl)))
 intro h
 have hE:=Option.some.inj h
 subst hE
 exact Be (v:=.Bh [.agg [.sl .full 0 [],.sl .full 0 [],.sl .full 0 []],.sl .full 1 [.sc (.int .i64 1),.sc (.int .i64 0)]]) _ _ (Ae 300 [pn hb1]) (by kernel_rfl) .body (.wn (.u (.g (.z (.z (.z .nil))) (.d (.r (.r .nil)) (A7.eq [(⟨1,0⟩:Dg)]).symm .nil)) .nil) (Bi (KY.D1 (⟨[],[],[]⟩:Co)) (Bi (A7.CI [(⟨1,0⟩:Dg)]) rfl)))
noncomputable def qT:Code:=Bo Tryz.f26
theorem yI:Tryz.f26.body=some qT:=by kernel_rfl
noncomputable def Ez  (b:(List Int)) (i0:Nat) (e0:Int) :Option (Lp Unit Unit Bool):=(b[i0]?).bind fun x1=>cond (CN e0 x1) (some (.nx ())) (some (.rt false))
noncomputable def D7  (a:(List Int)) (b:(List Int)):Option Bool:=cond (CN ((a.length:Nat):Int) ((b.length:Nat):Int)) ((G8 a.length (Bk (fun i y x=>Ez  b i y ) (fun x=>()) (a.drop 0) 0 ())).bind (Hv (fun (_:Unit)=>some true) (fun v=>some v))) (some false)
theorem GK   {a:(List Int)} {b:(List Int)} {yR:Bool} (h:D7  a b=some yR):Pure P G 26 [.sl .lost a.length (rows Lz a),.sl .lost b.length (rows Lz b)] (.sc (.bool yR)):=by
 unfold D7 at h
 refine DD Hd.mixed Hd.Ab (Ba Tryz.func26 yI ?_) (Bi (FH.CI a) (Bi (FH.CI b) rfl)) rfl
 revert h
 refine Ai (fun hb1=>?_) fun hb1=>?_
 refine EQ (fun Q v=>FF P Tryz.f26 0 Q (.sc (.bool v))) (fun i0 (_:Unit) (j0:List Value)=>fr 26 [(0,.sl .lost a.length (rows Lz a)),(1,.sl .lost b.length (rows Lz b)),(5,.sc (.int .i64 ((i0:Nat):Int)))] [4,10,14,25] j0) (fun (_:Unit)=>⟨[],0,[],0⟩) (fun (_:Unit) (jx:List Value)=>fr 26 [] [4,10,14,25] jx) (fun (_:Unit)=>⟨[],0,[],0⟩) [.bool false,.bool false] (EH [] 0 (sb qT 116) [.code (sb qT 15)] (Ae 300 [pn hb1]) (by kernel_rfl)) ?_ ?_ ?_ (fun v h=>by cases h;exact .outer .body)
 rintro i0 ⟨⟩ j0 hge hq
 exact C0 (Ae 300 [pb (I3 hge)]) (by kernel_rfl) (hq (js 4 j0 [(2,.bool false)]))
 rintro i0 e0 ⟨⟩ j0 r he0 hi0 mi0 k
 show Ez  b i0 e0 =some r→_
 unfold Ez
 refine AB fun x1 hx1=>?_
 refine Ai (fun hb2=>?_) fun hb2=>?_
 rintro ⟨⟩
 exact HM (Ae 300 [pb (Gw hi0),Dw (XY .lost he0),Dw (XY .lost hx1),pn hb2,pi mi0]) (by kernel_rfl) (k (js 4 j0 [(2,.bool true),(3,.bool false)]))
 rintro ⟨⟩
 exact Be _ _ (Ae 300 [pb (Gw hi0),Dw (XY .lost he0),Dw (XY .lost hx1),pn hb2]) (by kernel_rfl) (.Ia k) .sc
 rintro ⟨⟩ jx_2
 intro h
 have hE:=Option.some.inj h
 subst hE
 exact Be _ _ (CH 300 []) (by kernel_rfl) .body .sc
 rintro ⟨⟩
 exact rS (Ae 300 [pn hb1]) (by kernel_rfl)
noncomputable def tA:Code:=Bo Tryz.f73
theorem xW:Tryz.f73.body=some tA:=by kernel_rfl
noncomputable def Eu  (b:Fn) (i0:Nat) (e0:Pc) :Option (Lp Unit Unit Bool):=(b.ps[i0]?).bind fun x1=>cond (II e0 x1) (some (.nx ())) (some (.rt false))
noncomputable def D3  (a:Fn) (b:Fn):Option Bool:=cond (CN a.den b.den) (cond (CN ((a.ps.length:Nat):Int) ((b.ps.length:Nat):Int)) ((G8 a.ps.length (Bk (fun i y x=>Eu  b i y ) (fun x=>()) (a.ps.drop 0) 0 ())).bind (Hv (fun (_:Unit)=>some true) (fun v=>some v))) (some false)) (some false)
theorem JO   {a:Fn} {b:Fn} {yR:Bool} (h:D3  a b=some yR):Pure P G 73 [.agg (RK a),.agg (RK b)] (.sc (.bool yR)):=by
 unfold D3 at h
 refine DD Hd.mixed Hd.Ab (Ba Tryz.func73 xW ?_) (Bi (QG.D1 a) (Bi (QG.D1 b) rfl)) rfl
 revert h
 refine Ai (fun hb1=>?_) fun hb1=>?_
 refine Ai (fun hb2=>?_) fun hb2=>?_
 refine EQ (fun Q v=>FF P Tryz.f73 0 Q (.sc (.bool v))) (fun i0 (_:Unit) (j0:List Value)=>fr 38 [(2,.ptr 0 0),(3,.ptr 1 0),(5,.sc (.int .i64 ((i0:Nat):Int)))] [4,10,11,18,19,24,37] j0) (fun (_:Unit)=>⟨[(1,.cells (RK b)),(0,.cells (RK a))],2,[],0⟩) (fun (_:Unit) (jx:List Value)=>fr 38 [] [4,10,11,18,19,24,37] jx) (fun (_:Unit)=>⟨[(1,.cells (RK b)),(0,.cells (RK a))],2,[],0⟩) [.bool false,.bool false,.bool false,.bool false,.bool false] (EH [] 0 (sb tA 116) [.code (sb tA 15)] (Ae 300 [pn hb1,pn hb2]) (by kernel_rfl)) ?_ ?_ ?_ (fun v h=>by cases h;exact .outer .body)
 rintro i0 ⟨⟩ j0 hge hq
 exact C0 (Ae 300 [pb (I3 hge)]) (by kernel_rfl) (hq (js 7 j0 [(5,.bool false)]))
 rintro i0 e0 ⟨⟩ j0 r he0 hi0 mi0 k
 show Eu  b i0 e0 =some r→_
 unfold Eu
 refine AB fun x1 hx1=>?_
 refine Ai (fun hb3=>?_) fun hb3=>?_
 rintro ⟨⟩
 exact HM (Ae 300 [pb (Gw hi0),Dw (M4 .lost he0),Dw (M4 .lost hx1),Pw (PY hb3 (.tmp 31) (.tmp 36)),pi mi0]) (by kernel_rfl) (k (js 7 j0 [(5,.bool true),(6,.bool false)]))
 rintro ⟨⟩
 exact Be _ _ (Ae 300 [pb (Gw hi0),Dw (M4 .lost he0),Dw (M4 .lost hx1),Pw (PY hb3 (.tmp 31) (.tmp 36))]) (by kernel_rfl) (.Ia k) .sc
 rintro ⟨⟩ jx_2
 intro h
 have hE:=Option.some.inj h
 subst hE
 exact Be _ _ (CH 300 []) (by kernel_rfl) .body .sc
 rintro ⟨⟩
 exact rS (Ae 300 [pn hb1,pn hb2]) (by kernel_rfl)
 rintro ⟨⟩
 exact rS (Ae 300 [pn hb1]) (by kernel_rfl)
noncomputable def qZ:Code:=Bo Tryz.f41
theorem x8:Tryz.f41.body=some qZ:=by kernel_rfl
noncomputable def Gf (Ei:Ex→Ex→Option Bool) (b:Ex) (i0:Nat) (e0:Ex) :Option (Lp Unit Unit Bool):=(b.kids[i0]?).bind fun x2=>(Ei e0 x2).bind fun y3=>cond y3 (some (.nx ())) (some (.rt false))
noncomputable def GX (Ei:Ex→Ex→Option Bool) (a:Ex) (b:Ex):Option Bool:=cond (CN a.op b.op) (cond (CN a.n b.n) (cond (Cu a.unit.data.toList b.unit.data.toList) ((D3 a.tab b.tab).bind fun y1=>cond y1 (cond (CN ((a.kids.length:Nat):Int) ((b.kids.length:Nat):Int)) ((G8 a.kids.length (Bk (fun i y x=>Gf Ei b i y ) (fun x=>()) (a.kids.drop 0) 0 ())).bind (Hv (fun (_:Unit)=>some true) (fun v=>some v))) (some false)) (some false)) (some false)) (some false)) (some false)
theorem L7 (Ei:Ex→Ex→Option Bool) (N7:∀ {a:Ex} {b:Ex} {yR:Bool},Ei a b=some yR→Pure P G 41 [.agg (DM a),.agg (DM b)] (.sc (.bool yR))) {a:Ex} {b:Ex} {yR:Bool} (h:GX Ei a b=some yR):Pure P G 41 [.agg (DM a),.agg (DM b)] (.sc (.bool yR)):=by
 unfold GX at h
 refine DD Hd.mixed Hd.Ab (Ba Tryz.func41 x8 ?_) (Bi (Br.D1 a) (Bi (Br.D1 b) rfl)) rfl
 revert h
 refine Ai (fun hb1=>?_) fun hb1=>?_
 refine Ai (fun hb2=>?_) fun hb2=>?_
 refine Ai (fun hb3=>?_) fun hb3=>?_
 refine AB fun y1 hy1=>?_
 let o1:List (PC P G):=[pn hb1,pn hb2,pn hb3,Bu (JO hy1)]
 refine Ai (fun hv=>?_) fun hv=>?_
 subst hv
 refine Ai (fun hb4=>?_) fun hb4=>?_
 refine EQ (fun Q v=>FF P Tryz.f41 0 Q (.sc (.bool v))) (fun i0 (_:Unit) (j0:List Value)=>fr 61 [(2,.ptr 0 0),(3,.ptr 1 0),(5,.sc (.int .i64 ((i0:Nat):Int)))] [4,10,11,16,17,18,23,24,25,30,31,32,33,40,41,46,59,60] j0) (fun (_:Unit)=>⟨[(1,.cells (DM b)),(0,.cells (DM a))],2,[],0⟩) (fun (_:Unit) (jx:List Value)=>fr 61 [] [4,10,11,16,17,18,23,24,25,30,31,32,33,40,41,46,59,60] jx) (fun (_:Unit)=>⟨[(1,.cells (DM b)),(0,.cells (DM a))],2,[],0⟩) [.bool false,.bool false,.bool false,.bool false,.bool false,.bool false,.bool false,.bool false,.bool false,.bool true,.bool false,.bool false,.bool false,.bool false,.bool false] (EH [] 0 (sb qZ 116) [.code (sb qZ 15)] (Ae 300 (o1++[pn hb4])) (by kernel_rfl)) ?_ ?_ ?_ (fun v h=>by cases h;exact .outer .body)
 rintro i0 ⟨⟩ j0 hge hq
 exact C0 (Ae 300 [pb (I3 hge)]) (by kernel_rfl) (hq (js 18 j0 [(15,.bool false)]))
 rintro i0 e0 ⟨⟩ j0 r he0 hi0 mi0 k
 show Gf Ei b i0 e0 =some r→_
 unfold Gf
 refine AB fun x2 hx2=>?_
 refine AB fun y3 hy3=>?_
 let o2:List (PC P G):=[pb (Gw hi0),Dw (Pb .lost he0),Dw (Pb .lost hx2),Bu (N7 hy3)]
 refine Ai (fun hv=>?_) fun hv=>?_
 subst hv
 rintro ⟨⟩
 exact HM (Ae 300 (o2++[pi mi0])) (by kernel_rfl) (k (js 18 j0 [(15,.bool true),(16,.bool true),(17,.bool false)]))
 subst hv
 rintro ⟨⟩
 exact Be _ _ (Ae 300 o2) (by kernel_rfl) (.Ia k) .sc
 rintro ⟨⟩ jx_4
 intro h
 have hE:=Option.some.inj h
 subst hE
 exact Be _ _ (CH 300 []) (by kernel_rfl) .body .sc
 rintro ⟨⟩
 exact rS (Ae 300 (o1++[pn hb4])) (by kernel_rfl)
 subst hv
 rintro ⟨⟩
 exact rS (Ae 300 o1) (by kernel_rfl)
 rintro ⟨⟩
 exact rS (Ae 300 [pn hb1,pn hb2,pn hb3]) (by kernel_rfl)
 rintro ⟨⟩
 exact rS (Ae 300 [pn hb1,pn hb2]) (by kernel_rfl)
 rintro ⟨⟩
 exact rS (Ae 300 [pn hb1]) (by kernel_rfl)
noncomputable def DP:Nat→Ex→Ex→Option Bool
 | 0,_,_=>none
 | qn+1,a,b=>GX (DP qn) a b
theorem ME:∀ qn:Nat,∀ {a:Ex} {b:Ex} {yR:Bool},DP qn a b=some yR→Pure P G 41 [.agg (DM a),.agg (DM b)] (.sc (.bool yR)):=by
 intro qn
 induction qn with
 | zero=>exact (fun h=>by simp only [DP] at h;cases h)
 | succ qn ih=>exact (fun h=>L7 (DP qn) ih (by rw [DP] at h;exact h))
noncomputable def GW (a:Ex) (b:Ex):Option Bool:=UN (fun qn=>DP qn a b)
theorem JW {a:Ex} {b:Ex} {yR:Bool} (h:GW a b=some yR):Pure P G 41 [.agg (DM a),.agg (DM b)] (.sc (.bool yR)):=by
 obtain ⟨qn,h⟩:=QW h
 exact (ME qn) h
noncomputable def s7:Code:=Bo Tryz.f71
theorem yX:Tryz.f71.body=some s7:=by kernel_rfl
noncomputable def Eg  (b:(List Ex)) (i0:Nat) (e0:Ex) :Option (Lp Unit Unit Bool):=(b[i0]?).bind fun x1=>(GW e0 x1).bind fun y2=>cond y2 (some (.nx ())) (some (.rt false))
noncomputable def DN  (a:(List Ex)) (b:(List Ex)):Option Bool:=cond (CN ((a.length:Nat):Int) ((b.length:Nat):Int)) ((G8 a.length (Bk (fun i y x=>Eg  b i y ) (fun x=>()) (a.drop 0) 0 ())).bind (Hv (fun (_:Unit)=>some true) (fun v=>some v))) (some false)
theorem Jj   {a:(List Ex)} {b:(List Ex)} {yR:Bool} (h:DN  a b=some yR):Pure P G 71 [.sl .lost a.length (Bs a),.sl .lost b.length (Bs b)] (.sc (.bool yR)):=by
 unfold DN at h
 refine DD Hd.mixed Hd.Ab (Ba Tryz.func71 yX ?_) (Bi (Br.CI a) (Bi (Br.CI b) rfl)) rfl
 revert h
 refine Ai (fun hb1=>?_) fun hb1=>?_
 refine EQ (fun Q v=>FF P Tryz.f71 0 Q (.sc (.bool v))) (fun i0 (_:Unit) (j0:List Value)=>fr 27 [(0,.sl .lost a.length (Bs a)),(1,.sl .lost b.length (Bs b)),(5,.sc (.int .i64 ((i0:Nat):Int)))] [4,10,14,25,26] j0) (fun (_:Unit)=>⟨[],0,[],0⟩) (fun (_:Unit) (jx:List Value)=>fr 27 [] [4,10,14,25,26] jx) (fun (_:Unit)=>⟨[],0,[],0⟩) [.bool false,.bool false] (EH [] 0 (sb s7 116) [.code (sb s7 15)] (Ae 300 [pn hb1]) (by kernel_rfl)) ?_ ?_ ?_ (fun v h=>by cases h;exact .outer .body)
 rintro i0 ⟨⟩ j0 hge hq
 exact C0 (Ae 300 [pb (I3 hge)]) (by kernel_rfl) (hq (js 5 j0 [(2,.bool false)]))
 rintro i0 e0 ⟨⟩ j0 r he0 hi0 mi0 k
 show Eg  b i0 e0 =some r→_
 unfold Eg
 refine AB fun x1 hx1=>?_
 refine AB fun y2 hy2=>?_
 let o1:List (PC P G):=[pb (Gw hi0),Dw (Pb .lost he0),Dw (Pb .lost hx1),Bu (JW hy2)]
 refine Ai (fun hv=>?_) fun hv=>?_
 subst hv
 rintro ⟨⟩
 exact HM (Ae 300 (o1++[pi mi0])) (by kernel_rfl) (k [(jv j0 0),(jv j0 1),.bool true,.bool true,.bool false])
 subst hv
 rintro ⟨⟩
 exact Be _ _ (Ae 300 o1) (by kernel_rfl) (.Ia k) .sc
 rintro ⟨⟩ jx_3
 intro h
 have hE:=Option.some.inj h
 subst hE
 exact Be _ _ (CH 300 []) (by kernel_rfl) .body .sc
 rintro ⟨⟩
 exact rS (Ae 300 [pn hb1]) (by kernel_rfl)
noncomputable def zF:Code:=Bo Tryz.f34
theorem xV:Tryz.f34.body=some zF:=by kernel_rfl
noncomputable def Dm  (a:Ar) (b:Ar):Option Bool:=cond (CN a.number b.number) (cond (CN a.line b.line) (cond (CN a.rank b.rank) (cond (CN a.fr b.fr) (cond (CN a.to b.to) (cond (CN a.known b.known) ((DN a.wh b.wh).bind fun y1=>cond y1 ((D7 a.un b.un).bind fun y2=>cond y2 ((GW a.am b.am).bind fun y3=>some y3) (some false)) (some false)) (some false)) (some false)) (some false)) (some false)) (some false)) (some false)
theorem Iw   {a:Ar} {b:Ar} {yR:Bool} (h:Dm  a b=some yR):Pure P G 34 [.agg (Kp a),.agg (Kp b)] (.sc (.bool yR)):=by
 unfold Dm at h
 refine DD Hd.mixed Hd.Ab (Ba Tryz.func34 xV ?_) (Bi (HL.D1 a) (Bi (HL.D1 b) rfl)) rfl
 revert h
 refine Ai (fun hb1=>?_) fun hb1=>?_
 refine Ai (fun hb2=>?_) fun hb2=>?_
 let o1:List (PC P G):=[pb hb1,pb hb2]
 refine Ai (fun hb3=>?_) fun hb3=>?_
 refine Ai (fun hb4=>?_) fun hb4=>?_
 refine Ai (fun hb5=>?_) fun hb5=>?_
 refine Ai (fun hb6=>?_) fun hb6=>?_
 refine AB fun y1 hy1=>?_
 let o2:List (PC P G):=o1++[pb hb3,pb hb4,pb hb5,pb hb6,Bu (Jj hy1)]
 refine Ai (fun hv=>?_) fun hv=>?_
 subst hv
 refine AB fun y2 hy2=>?_
 refine Ai (fun hv=>?_) fun hv=>?_
 subst hv
 refine AB fun y3 hy3=>?_
 intro h
 have hE:=Option.some.inj h
 subst hE
 exact rS (Ae 300 (o2++[Bu (GK hy2),Bu (JW hy3)])) (by kernel_rfl)
 subst hv
 rintro ⟨⟩
 exact rS (Ae 300 (o2++[Bu (GK hy2)])) (by kernel_rfl)
 subst hv
 rintro ⟨⟩
 exact rS (Ae 300 o2) (by kernel_rfl)
 rintro ⟨⟩
 exact rS (Ae 300 (o1++[pb hb3,pb hb4,pb hb5,pb hb6])) (by kernel_rfl)
 rintro ⟨⟩
 exact rS (Ae 300 (o1++[pb hb3,pb hb4,pb hb5])) (by kernel_rfl)
 rintro ⟨⟩
 exact rS (Ae 300 (o1++[pb hb3,pb hb4])) (by kernel_rfl)
 rintro ⟨⟩
 exact rS (Ae 300 (o1++[pb hb3])) (by kernel_rfl)
 rintro ⟨⟩
 exact rS (Ae 300 [pb hb1,pb hb2]) (by kernel_rfl)
 rintro ⟨⟩
 exact rS (Ae 300 [pb hb1]) (by kernel_rfl)
noncomputable def qU:Code:=Bo Tryz.f54
theorem xO:Tryz.f54.body=some qU:=by kernel_rfl
noncomputable def El  (b:(List Dc)) (i0:Nat) (e0:Dc) :Option (Lp Unit Unit Bool):=(b[i0]?).bind fun x1=>cond (Lg e0 x1) (some (.nx ())) (some (.rt false))
noncomputable def Da  (a:(List Dc)) (b:(List Dc)):Option Bool:=cond (CN ((a.length:Nat):Int) ((b.length:Nat):Int)) ((G8 a.length (Bk (fun i y x=>El  b i y ) (fun x=>()) (a.drop 0) 0 ())).bind (Hv (fun (_:Unit)=>some true) (fun v=>some v))) (some false)
theorem DU   {a:(List Dc)} {b:(List Dc)} {yR:Bool} (h:Da  a b=some yR):Pure P G 54 [.sl .lost a.length (rows Eb a),.sl .lost b.length (rows Eb b)] (.sc (.bool yR)):=by
 unfold Da at h
 refine DD Hd.mixed Hd.Ab (Ba Tryz.func54 xO ?_) (Bi (CU.CI a) (Bi (CU.CI b) rfl)) rfl
 revert h
 refine Ai (fun hb1=>?_) fun hb1=>?_
 refine EQ (fun Q v=>FF P Tryz.f54 0 Q (.sc (.bool v))) (fun i0 (_:Unit) (j0:List Value)=>fr 26 [(0,.sl .lost a.length (rows Eb a)),(1,.sl .lost b.length (rows Eb b)),(5,.sc (.int .i64 ((i0:Nat):Int)))] [4,10,14,25] j0) (fun (_:Unit)=>⟨[],0,[],0⟩) (fun (_:Unit) (jx:List Value)=>fr 26 [] [4,10,14,25] jx) (fun (_:Unit)=>⟨[],0,[],0⟩) [.bool false,.bool false] (EH [] 0 (sb qU 116) [.code (sb qU 15)] (Ae 300 [pn hb1]) (by kernel_rfl)) ?_ ?_ ?_ (fun v h=>by cases h;exact .outer .body)
 rintro i0 ⟨⟩ j0 hge hq
 exact C0 (Ae 300 [pb (I3 hge)]) (by kernel_rfl) (hq (js 4 j0 [(2,.bool false)]))
 rintro i0 e0 ⟨⟩ j0 r he0 hi0 mi0 k
 show El  b i0 e0 =some r→_
 unfold El
 refine AB fun x1 hx1=>?_
 refine Ai (fun hb2=>?_) fun hb2=>?_
 rintro ⟨⟩
 exact HM (Ae 300 [pb (Gw hi0),Dw (YJ .lost he0),Dw (YJ .lost hx1),Pw (aU hb2 (.tmp 20) (.tmp 24)),pi mi0]) (by kernel_rfl) (k (js 4 j0 [(2,.bool true),(3,.bool false)]))
 rintro ⟨⟩
 exact Be _ _ (Ae 300 [pb (Gw hi0),Dw (YJ .lost he0),Dw (YJ .lost hx1),Pw (aU hb2 (.tmp 20) (.tmp 24))]) (by kernel_rfl) (.Ia k) .sc
 rintro ⟨⟩ jx_2
 intro h
 have hE:=Option.some.inj h
 subst hE
 exact Be _ _ (CH 300 []) (by kernel_rfl) .body .sc
 rintro ⟨⟩
 exact rS (Ae 300 [pn hb1]) (by kernel_rfl)
noncomputable def sK:Code:=Bo Tryz.f20
theorem yU:Tryz.f20.body=some sK:=by kernel_rfl
noncomputable def Ec  (b:Co) (i0:Nat) (e0:Ar) :Option (Lp Unit Unit Bool):=(b.arts[i0]?).bind fun x3=>(Dm e0 x3).bind fun y4=>cond y4 (some (.nx ())) (some (.rt false))
noncomputable def Cs  (a:Co) (b:Co):Option Bool:=(Da a.facts b.facts).bind fun y1=>cond y1 ((Da a.lines b.lines).bind fun y2=>cond y2 (cond (CN ((a.arts.length:Nat):Int) ((b.arts.length:Nat):Int)) ((G8 a.arts.length (Bk (fun i y x=>Ec  b i y ) (fun x=>()) (a.arts.drop 0) 0 ())).bind (Hv (fun (_:Unit)=>some true) (fun v=>some v))) (some false)) (some false)) (some false)
theorem Gu   {a:Co} {b:Co} {yR:Bool} (h:Cs  a b=some yR):Pure P G 20 [.agg (W3 a),.agg (W3 b)] (.sc (.bool yR)):=by
 unfold Cs at h
 refine DD Hd.mixed Hd.Ab (Ba Tryz.func20 yU ?_) (Bi (KY.D1 a) (Bi (KY.D1 b) rfl)) rfl
 revert h
 refine AB fun y1 hy1=>?_
 let o1:List (PC P G):=[Bu (DU hy1)]
 refine Ai (fun hv=>?_) fun hv=>?_
 subst hv
 refine AB fun y2 hy2=>?_
 refine Ai (fun hv=>?_) fun hv=>?_
 subst hv
 refine Ai (fun hb1=>?_) fun hb1=>?_
 refine EQ (fun Q v=>FF P Tryz.f20 0 Q (.sc (.bool v))) (fun i0 (_:Unit) (j0:List Value)=>fr 48 [(2,.ptr 0 0),(3,.ptr 1 0),(5,.sc (.int .i64 ((i0:Nat):Int)))] [4,10,11,12,17,18,19,20,27,28,33,46,47] j0) (fun (_:Unit)=>⟨[(1,.cells (W3 b)),(0,.cells (W3 a))],2,[],0⟩) (fun (_:Unit) (jx:List Value)=>fr 48 [] [4,10,11,12,17,18,19,20,27,28,33,46,47] jx) (fun (_:Unit)=>⟨[(1,.cells (W3 b)),(0,.cells (W3 a))],2,[],0⟩) [.bool false,.bool true,.bool false,.bool false,.bool true,.bool false,.bool false,.bool false,.bool false,.bool false] (EH [] 0 (sb sK 116) [.code (sb sK 15)] (Ae 300 (o1++[Bu (DU hy2),pn hb1])) (by kernel_rfl)) ?_ ?_ ?_ (fun v h=>by cases h;exact .outer .body)
 rintro i0 ⟨⟩ j0 hge hq
 exact C0 (Ae 300 [pb (I3 hge)]) (by kernel_rfl) (hq (js 13 j0 [(10,.bool false)]))
 rintro i0 e0 ⟨⟩ j0 r he0 hi0 mi0 k
 show Ec  b i0 e0 =some r→_
 unfold Ec
 refine AB fun x3 hx3=>?_
 refine AB fun y4 hy4=>?_
 let o2:List (PC P G):=[pb (Gw hi0),Dw (mQ .lost he0),Dw (mQ .lost hx3),Bu (Iw hy4)]
 refine Ai (fun hv=>?_) fun hv=>?_
 subst hv
 rintro ⟨⟩
 exact HM (Ae 300 (o2++[pi mi0])) (by kernel_rfl) (k (js 13 j0 [(10,.bool true),(11,.bool true),(12,.bool false)]))
 subst hv
 rintro ⟨⟩
 exact Be _ _ (Ae 300 o2) (by kernel_rfl) (.Ia k) .sc
 rintro ⟨⟩ jx_5
 intro h
 have hE:=Option.some.inj h
 subst hE
 exact Be _ _ (CH 300 []) (by kernel_rfl) .body .sc
 rintro ⟨⟩
 exact rS (Ae 300 (o1++[Bu (DU hy2),pn hb1])) (by kernel_rfl)
 subst hv
 rintro ⟨⟩
 exact rS (Ae 300 (o1++[Bu (DU hy2)])) (by kernel_rfl)
 subst hv
 rintro ⟨⟩
 exact rS (Ae 300 o1) (by kernel_rfl)
end Mo
end Go.Proofs.YtnijkdknnmgoeaaGreat

namespace Go.Proofs.YtnijkdknnmgoeaaGreat
open AI Go
namespace Mo
set_option maxRecDepth 100000
set_option maxHeartbeats 4000000
def hH (s:ByteArray):Prop:=s.data.toList.length=3∧∀ c∈s.data.toList,65≤c.toNat∧c.toNat≤90
def MF (s:ByteArray):Prop:=s=AO∨s=Bm∨s=Gi∨hH s
def OC (c:UInt8):Prop:=(97≤c.toNat∧c.toNat≤122)∨(48≤c.toNat∧c.toNat≤57)∨c.toNat=95
def Vm:List ByteArray:=[bI,aH,QN,oX,bU,cE,vL,Vc,cC,Ta,TM,AO,Bm,Gi,nP,aK,Te,VT,Z7,b7,Lm,nB,bT,aA,VL,lO,Hr,SL,Kk,MB,J6,Fp,VA]
def I1 (s:ByteArray):Prop:=(1≤s.data.toList.length∧s.data.toList.length≤16)∧(∃ b,s.data.toList[0]?=some b∧97≤b.toNat∧b.toNat≤122)∧s∉Vm∧∀ c∈s.data.toList,OC c
theorem GG {n:Nd} (h:E1 n):n.tab.ps.length≤9223372036854775807∧n.kids.length≤9223372036854775807∧∀ k∈n.kids,E1 k:=by
 obtain ⟨a,b,c⟩:=(M6 n).1 h
 exact ⟨a.1,b,c⟩
theorem RJ {α:Type} {l:List α} {P:α→Prop}:(∀ (i:Nat) (y:α),l[i]?=some y→P y)↔∀ y∈l,P y :=
 ⟨fun h y hy=>(List.getElem?_of_mem hy).elim fun i hi=>h i y hi,fun h i y hi=>h y (List.mem_of_getElem? hi)⟩
theorem oC (s:ByteArray):EJ s=some (mb (s∈Vm)):=by
 rw [EJ]
 simp only [E2,D5,Pp,c4]
 refine j9 ?_
 simp only [Vm,List.mem_cons,List.not_mem_nil,or_false]
theorem bL (s:ByteArray):s=ByteArray.empty↔s.data.toList.length=0:=by
 constructor
 · intro h;rw [h];rfl
 · intro h
   apply ByteArray.ext
   apply Array.ext'
   rw [List.eq_nil_of_length_eq_zero h];rfl
theorem TR (s:ByteArray):Ct s=some (mb (I1 s)):=by
 rw [Ct]
 simp only [E2,Fe,D5,oC,Option.bind_some]
 unfold I1
 by_cases h0:s=ByteArray.empty
 · rw [Af h0];exact N9 fun h=>by have:=(bL s).1 h0;omega
 have h1:s.data.toList.length≠0:=fun h=>h0 ((bL s).2 h)
 rw [Ac h0]
 by_cases h2:16 < ((s.data.toList.length:Nat):Int)
 · rw [Af h2];exact N9 fun h=>by omega
 rw [Ac h2]
 obtain ⟨b,hb⟩:∃ b,s.data.toList[0]?=some b:=⟨_,List.getElem?_eq_getElem (by omega)⟩
 rw [hb,N1 (v:=false) (P:=fun _ y=>OC y) (by omega) (fun i y _=>by
   simp only [Ed,Fe,DW,D5,eN,hN,Ya,fW,Zc,tM,rQ]
   congr 2
   unfold OC
   apply propext
   omega)]
 simp only [Option.bind_some,Pp,mE,RJ]
 refine j9 ?_
 constructor
 · rintro ⟨h3,h4,h5,h6⟩
   exact ⟨by omega,⟨b,rfl,by omega⟩,h5,h6⟩
 · rintro ⟨h3,⟨c,hc,h4⟩,h5,h6⟩
   cases hc
   exact ⟨by omega,by omega,h5,h6⟩
theorem eP (s:ByteArray):D6 s=some (mb (hH s)):=by
 rw [D6,DW,D5]
 unfold hH
 by_cases h:((s.data.toList.length:Nat):Int)=3
 · rw [Af h,N1 (v:=false) (P:=fun _ y=>65≤y.toNat∧y.toNat≤90) (by omega) (fun i y _=>by
     simp only [Ew,Fe,D5,Ya,Zc]
     congr 2;apply propext;omega),Pp,RJ]
   exact j9 ⟨fun h2=>⟨by omega,h2⟩,fun h2=>h2.2⟩
 · rw [Ac h];exact N9 fun h2=>h (by omega)
theorem SM (s:ByteArray):CK s=some (mb (MF s)):=by
 rw [CK]
 simp only [E2,D5,eP,Option.bind_some,c4]
 rfl
def IH (n:Int):Prop:=1≤n∧n≤1000000
theorem KQ (n:Int):Cc n=some (mb (IH n)):=by
 rw [Cc]
 simp only [ID,D5,Pp,YO]
 rfl
def WX (n:Int):Prop:=0≤n∧n≤36524
def Rx (s:ByteArray):Prop:=s=Hr∨s=SL∨s=Kk∨s=MB
theorem WA (s:ByteArray):Dq s=some (mb (Rx s)):=by
 rw [Dq]
 simp only [E2,D5,Pp,c4]
 rfl
theorem Vz (a b:List Pc) (ha:a.length≤9223372036854775807):Gj a b=some (mb (a=b)):=by
 rw [Gj,DW,D5]
 by_cases h:((a.length:Nat):Int)=((b.length:Nat):Int)
 · rw [Af h,N1 (v:=false) (P:=fun i y=>b[i]?=some y) ha (fun i y hy=>by
     have hi:i < a.length:=(List.getElem?_eq_some_iff.1 hy).1
     have hb:b[i]?=some b[i]:=List.getElem?_eq_getElem (by omega)
     simp only [G5]
     rw [hb]
     simp only [Option.bind_some]
     have hs:II y b[i]=mb (b[i]?=some y):=by
       rw [Bool.eq_iff_iff,BZ,hb]
       unfold II
       simp only [Bool.and_eq_true,IK,beq_iff_eq,Option.some.injEq]
       generalize b[i]=z
       cases y;cases z
       simp only [Pc.mk.injEq]
       grind
     rw [hs,D5,eN,hb]),Pp]
   refine j9 ⟨fun h2=>?_,fun h2 i y hy=>by rw [← h2];exact hy⟩
   apply List.ext_getElem?
   intro i
   by_cases hi:i < a.length
   · rw [List.getElem?_eq_getElem hi,h2 i _ (List.getElem?_eq_getElem hi)]
   · rw [List.getElem?_eq_none (by omega),List.getElem?_eq_none (by omega)]
 · rw [Ac h];exact N9 fun h2=>h (by rw [h2])
def DF (n f:Nd):Prop:=n.name=f.name∧n.unit=f.unit∧n.n=f.n∧n.fr=f.fr∧n.to=f.to∧n.known=f.known∧n.tab.den=f.tab.den∧n.tab.ps=f.tab.ps
theorem NI (n f:Nd) (h:n.tab.ps.length≤9223372036854775807):Bl n f=some (mb (DF n f)):=by
 rw [Bl,Vz _ _ h]
 simp only [E2,DW,D5,Option.bind_some,YO]
 rfl
end Mo
end Go.Proofs.YtnijkdknnmgoeaaGreat
namespace Go.Proofs.YtnijkdknnmgoeaaGreat
open AI Go
namespace Mo
set_option maxRecDepth 100000
set_option maxHeartbeats 4000000
theorem SF {p:Prop} (h:¬ p):mb p=false:=by rw [LN];exact h
def Out (r:Option (Bool×Int)) (P:Prop) (t:Int):Prop:=∃ z,r=some (mb P,z)∧(P→z=t)
theorem Out.congr {r:Option (Bool×Int)} {P Q:Prop} {t u:Int} (h:Out r P t) (hp:P↔Q) (ht:Q→t=u):Out r Q u:=by
 obtain ⟨z,h1,h2⟩:=h
 exact ⟨z,by rw [h1,E4 hp],fun q=>(h2 (hp.2 q)).trans (ht q)⟩
theorem E0 {Q:Prop} {z u:Int} (h:¬ Q):Out (some (false,z)) Q u:=⟨z,by rw [SF h],fun q=>absurd q h⟩
theorem K2 {P Q:Prop} {u:Int} (h:P↔Q):Out (some (mb P,u)) Q u:=⟨u,by rw [E4 h],fun _=>rfl⟩
theorem DY {p Q:Prop} {A:Option (Bool×Int)} {z u:Int} (h:p→Out A Q u) (hq:Q→p):Out (AU p A (some (false,z))) Q u:=by
 by_cases hp:p
 · rw [Af hp];exact h hp
 · rw [Ac hp];exact E0 fun q=>hp (hq q)
theorem QE {p Q:Prop} {A:Option (Bool×Int)} {z u:Int} (h:¬ p→Out A Q u) (hq:Q→¬ p):Out (AU p (some (false,z)) A) Q u:=by
 by_cases hp:p
 · rw [Af hp];exact E0 fun q=>hq q hp
 · rw [Ac hp];exact h hp
mutual
def DB:Nd→Nat
 | ⟨_,_,_,_,_,_,_,_,kids,_⟩=>1+Er kids
def Er:List Nd→Nat
 | []=>0
 | k::ks=>DB k+Er ks
end
mutual
def JM:Nd→Nat
 | ⟨_,_,_,_,_,_,_,_,kids,_⟩=>1+Vv kids
def Vv:List Nd→Nat
 | []=>0
 | k::ks=>max (JM k) (Vv ks)
end
theorem Cm (n:Nd):DB n=1+Er n.kids:=by cases n;rw [DB]
theorem Js (n:Nd):JM n=1+Vv n.kids:=by cases n;rw [JM]
theorem Ng {l:List Nd} {m:Nat}:Vv l≤m↔∀ k∈l,JM k≤m:=by
 induction l with
 | nil=>simp [Vv]
 | cons a l ih=>simp only [Vv,Nat.max_le,ih,List.mem_cons,forall_eq_or_imp]
theorem G3 {l:List Nd} {k:Nd} (h:k∈l):DB k≤Er l:=by
 induction l with
 | nil=>cases h
 | cons a l ih =>
   rw [Er]
   rcases List.mem_cons.1 h with rfl | h
   · omega
   · have:=ih h;omega
theorem FI (l:List Nd):l.length≤Er l:=by
 induction l with
 | nil=>simp [Er]
 | cons a l ih=>rw [Er,Cm];simp only [List.length_cons];omega
theorem Ge {n k:Nd} (h:k∈n.kids):DB k < DB n:=by rw [Cm n];have:=G3 h;omega
theorem Ja {g:Ck→Nd→Int→Option (Bool×Int)} {p:Nd→Prop} {d:Int}:∀ {l:List Nd} {i:Nat} {c:Int},0≤c→c≤2000→(∀ k∈l,∀ c:Int,0≤c→c≤2000→Out (g ⟨c⟩ k d) (p k∧c+DB k≤2000∧d+JM k≤41) (c+DB k)) →
   Out ((Bk (δ:=Int) (ρ:=Bool×Int) (fun _ y (x:Int)=>(g ⟨x⟩ y d).bind fun (y1a,y1b)=>cond y1a (some (.nx y1b)) (some (.rt (false,y1b)))) (fun x=>x) l i c).bind (Hv (fun (w:Int)=>some (true,w)) (fun v=>some v)))
     ((∀ k∈l,p k∧d+JM k≤41)∧c+Er l≤2000) (c+Er l)
 | [],i,c,h0,h1,_=>⟨c,by rw [BZ.2 ⟨fun k hk=>(by cases hk),by simp only [Er];omega⟩];rfl,fun _=>by simp [Er]⟩
 | y::l,i,c,h0,h1,hg=>by
   obtain ⟨z,hz,h2⟩:=hg y (by simp) c h0 h1
   rw [Bk,hz]
   simp only [Option.bind_some]
   by_cases hp:p y∧c+DB y≤2000∧d+JM y≤41
   · rw [BZ.2 hp,h2 hp]
     show Out ((Bk _ _ l (i+1) (c+DB y)).bind _) _ _
     refine (Ja (l:=l) (i:=i+1) (c:=c+DB y) (by omega) hp.2.1 fun k hk=>hg k (by simp [hk])).congr ?_ ?_
     · rw [Er]
       simp only [List.mem_cons,forall_eq_or_imp,Int.natCast_add]
       constructor
       · rintro ⟨a,b⟩;exact ⟨⟨⟨hp.1,hp.2.2⟩,a⟩,by omega⟩
       · rintro ⟨⟨_,a⟩,b⟩;exact ⟨a,by omega⟩
     · intro _;rw [Er];omega
   · rw [SF hp]
     refine ⟨z,?_,fun q=>?_⟩
     · show some (false,z)=_
       rw [SF]
       rintro ⟨a,b⟩
       rw [Er] at b
       have:=a y (by simp)
       exact hp ⟨this.1,by omega,this.2⟩
     · exfalso
       obtain ⟨a,b⟩:=q
       rw [Er] at b
       have:=a y (by simp)
       exact hp ⟨this.1,by omega,this.2⟩
theorem MM (n:Nd) {c d:Int} (h0:0≤c) (h1:c≤2000):Out (BA ⟨c⟩ n d) (c+1≤2000∧d≤40) (c+1):=by
 rw [BA,CT (by show _≤c+1∧c+1≤_;omega)]
 simp only [ID,D5,Option.bind_some]
 by_cases h:c+1≤2000
 · rw [Af h];exact K2 ⟨fun a=>⟨h,a⟩,fun a=>a.2⟩
 · rw [Ac h];exact E0 fun a=>h a.1
def Pq (f:Fn) (i:Nat) (p:Pc):Prop:=p.fr≤999999999999∧(∀ q,0 < i→f.ps[i - 1]?=some q→q.fr < p.fr)∧R7 p.att f.den=some 0∧p.att≤TW 999999999999 f.den∧TW (-999999999999) f.den≤p.att∧p.slope≤1000000∧-1000000≤p.slope
def SB (f:Fn):Prop:=IH f.den∧(1≤f.ps.length∧f.ps.length≤64)∧(∀ x,f.ps[0]?=some x→x.fr=0)∧∀ (i:Nat) p,f.ps[i]?=some p→Pq f i p
theorem lV (f:Fn) (hl:f.ps.length≤9223372036854775807):DE f=some (mb (SB f)):=by
 rw [DE,KQ]
 simp only [Option.bind_some,D5,Fe,DW]
 unfold SB
 by_cases hr:IH f.den
 rotate_left
 · rw [Ac hr];exact N9 fun h=>hr h.1
 rw [Af hr]
 by_cases h1:((f.ps.length:Nat):Int) < 1
 · rw [Af h1];exact N9 fun h=>by omega
 rw [Ac h1]
 by_cases h2:64 < ((f.ps.length:Nat):Int)
 · rw [Af h2];exact N9 fun h=>by omega
 rw [Ac h2]
 have hx0:f.ps[0]?=some f.ps[0]:=List.getElem?_eq_getElem (by omega)
 rw [hx0]
 simp only [Option.bind_some]
 by_cases h3:f.ps[0].fr=0
 rotate_left
 · rw [Ac h3];exact N9 fun h=>h3 (h.2.2.1 _ rfl)
 rw [Af h3]
 have hden:f.den≠0:=by unfold IH at hr;omega
 rw [N1 (v:=false) (P:=fun i y=>Pq f i y) hl (fun i y hy=>by
   have hi:i < f.ps.length:=(List.getElem?_eq_some_iff.1 hy).1
   simp only [DZ,Fe,D5,ID,DW]
   have hd:∃ z,R7 y.att f.den=some z:=by unfold R7;rw [if_neg hden];exact ⟨_,rfl⟩
   obtain ⟨z,hz⟩:=hd
   unfold Pq
   rw [hz]
   by_cases h0:(0:Int) < ((i:Nat):Int)
   · rw [Af h0,Mj (by omega)]
     have hq:f.ps[i - 1]?=some f.ps[i - 1]:=List.getElem?_eq_getElem (by omega)
     have hg:Hi f.ps (((i:Nat):Int) - 1)=some f.ps[i - 1]:=by
       unfold Hi
       rw [show (((i:Nat):Int) - 1).toNat=i - 1 by omega]
       simp only [hq]
       first | rfl | (rw [if_pos (by omega)])
     rw [hg,hq]
     simp only [Option.bind_some,Ya,Zc,hN,fW]
     congr 2
     apply propext
     simp only [Option.some.injEq,forall_eq']
     grind
   · rw [Ac h0]
     simp only [Option.bind_some,Ya,Zc,hN,fW]
     congr 2
     apply propext
     simp only [Option.some.injEq]
     have:¬ 0 < i:=by omega
     grind),Pp]
 refine j9 ⟨fun h=>⟨hr,by omega,fun x hx=>by cases hx;exact h3,h⟩,fun h=>h.2.2.2⟩
def Pu (s:ByteArray):Prop:=s=Lq∨s=b7∨s=Lm∨s=LF∨s=Ls∨s=UT∨s=Ll∨s=NY∨s=UW∨s=Ul∨s=bT
def MY (k:Nd):Prop:=k.kind=11∧k.unit=Bm∧IH k.n
def JR (n:Nd):Prop :=
 (n.kind=11∧MF n.unit∧0≤n.n∧n.n≤999999999999∧(n.unit=AO→n.n≤1)∧n.kids.length=0∧DF n ⟨0,ByteArray.empty,n.unit,n.n,0,0,0,⟨0,[]⟩,[],0⟩) ∨
 (n.kind=12∧I1 n.name∧n.kids.length=0∧DF n ⟨0,n.name,ByteArray.empty,0,0,0,0,⟨0,[]⟩,[],0⟩) ∨
 (n.kind=13∧IH n.n∧n.kids.length=0∧DF n ⟨0,ByteArray.empty,ByteArray.empty,n.n,0,0,0,⟨0,[]⟩,[],0⟩) ∨
 (n.kind=14∧Rx n.name∧n.kids.length=0∧DF n ⟨0,n.name,ByteArray.empty,0,0,0,0,⟨0,[]⟩,[],0⟩) ∨
 (n.kind=15∧n.kids.length=1∧DF n ⟨0,ByteArray.empty,ByteArray.empty,0,0,0,0,⟨0,[]⟩,[],0⟩) ∨
 (n.kind=16∧DF n ⟨0,n.name,ByteArray.empty,0,0,0,0,⟨0,[]⟩,[],0⟩∧n.kids.length=2∧Pu n.name∧(n.name=Lq→∀ k,n.kids[1]?=some k→MY k)) ∨
 (n.kind=17∧(n.name=J6∨n.name=Fp)∧DF n ⟨0,n.name,ByteArray.empty,0,0,0,0,⟨0,[]⟩,[],0⟩∧2≤n.kids.length) ∨
 (n.kind=18∧DF n ⟨0,ByteArray.empty,ByteArray.empty,0,0,0,0,n.tab,[],0⟩∧SB n.tab∧n.kids.length=1)
mutual
def Mb:Nd→Prop
 | ⟨kind,name,unit,n,fr,to,known,tab,kids,att⟩=>JR ⟨kind,name,unit,n,fr,to,known,tab,kids,att⟩∧Vx kids
def Vx:List Nd→Prop
 | []=>True
 | k::ks=>Mb k∧Vx ks
end
theorem W7 {l:List Nd}:Vx l↔∀ k∈l,Mb k:=by
 induction l with
 | nil=>simp [Vx]
 | cons k l ih=>simp [Vx,ih]
theorem Ju (n:Nd):Mb n↔JR n∧∀ k∈n.kids,Mb k:=by cases n;rw [Mb,W7]
end Mo
end Go.Proofs.YtnijkdknnmgoeaaGreat
namespace Go.Proofs.YtnijkdknnmgoeaaGreat
open AI Go
namespace Mo
set_option maxRecDepth 100000
set_option maxHeartbeats 4000000
theorem NT {β:Type} {p:Prop} {a b:β}:AU p (some a) (some b)=some (AU p a b):=by
 by_cases h:p
 · rw [Af h,Af h]
 · rw [Ac h,Ac h]
def O9 (l:List Dc) (z:Int):ByteArray:=((Hi l z).map (·.unit)).getD ByteArray.empty
noncomputable def bO (s:ByteArray):Int:=AU (s=Hr) 1 (AU (s=SL) 2 (AU (s=Kk) 3 (AU (s=MB) 4 0)))
noncomputable def kB (t:Tr) (n:Nd):Ex :=
 AU (n.kind=11) ⟨1,n.n,n.unit,⟨0,[]⟩,[]⟩
 (AU (n.kind=12) ⟨2,(t.facts.get n.name).getD 0,O9 t.codex.facts ((t.facts.get n.name).getD 0),⟨0,[]⟩,[]⟩
 (AU (n.kind=13) ⟨3,n.n,O9 t.codex.lines ((t.Aa.get n.n).getD 0),⟨0,[]⟩,[]⟩
 ⟨4,bO n.name,Bm,⟨0,[]⟩,[]⟩))
noncomputable def qW (s:ByteArray) (u v:ByteArray) (ks:List Ex):Ex :=
 AU (s=Lm) ⟨6,0,AO,⟨0,[]⟩,ks⟩ (AU (s=b7) ⟨7,0,AO,⟨0,[]⟩,ks⟩ (AU (s=LF) ⟨8,0,AO,⟨0,[]⟩,ks⟩
 (AU (s=Ls) ⟨5,0,AO,⟨0,[]⟩,[⟨8,0,AO,⟨0,[]⟩,ks⟩]⟩ (AU (s=UT) ⟨9,0,AO,⟨0,[]⟩,ks⟩ (AU (s=Ll) ⟨10,0,AO,⟨0,[]⟩,ks⟩
 (AU (s=NY) ⟨11,0,u,⟨0,[]⟩,ks⟩ (AU (s=UW) ⟨12,0,u,⟨0,[]⟩,ks⟩ (AU (s=Lq) ⟨14,0,u,⟨0,[]⟩,ks⟩
 (AU (s=Ul) ⟨13,0,AU (u=Bm) v u,⟨0,[]⟩,ks⟩ (AU (s=bT) ⟨15,0,v,⟨0,[]⟩,ks⟩ ⟨0,0,AO,⟨0,[]⟩,ks⟩))))))))))
def nW (ks:List Ex) (i:Nat):ByteArray:=((ks[i]?).map (·.unit)).getD ByteArray.empty
noncomputable def Xw (t:Tr) (n:Nd) (ks:List Ex):Ex :=
 AU (n.kind=15) ⟨5,0,AO,⟨0,[]⟩,ks⟩
 (AU (n.kind=16) (qW n.name (nW ks 0) (nW ks 1) ks)
 (AU (n.kind=17) (AU (n.name=Fp) ⟨17,0,nW ks 0,⟨0,[]⟩,ks⟩ ⟨16,0,nW ks 0,⟨0,[]⟩,ks⟩)
 (AU (n.kind=18) ⟨18,0,nW ks 0,⟨n.tab.den,n.tab.ps⟩,ks⟩ (kB t n))))
mutual
noncomputable def Ko (t:Tr):Nd→Ex
 | ⟨kind,name,unit,n,fr,to,known,tab,kids,att⟩=>Xw t ⟨kind,name,unit,n,fr,to,known,tab,kids,att⟩ (Kd t kids)
noncomputable def Kd (t:Tr):List Nd→List Ex
 | []=>[]
 | k::ks=>Ko t k::Kd t ks
end
theorem Qe (t:Tr):∀ l:List Nd,Kd t l=l.map (Ko t)
 | []=>by rw [Kd];rfl
 | k::l=>by rw [Kd,Qe t l];rfl
theorem WE (t:Tr) (e:Nd):Ko t e=Xw t e (e.kids.map (Ko t)):=by cases e;rw [Ko,Qe]
mutual
def Ij (t:Tr):Nd→Prop
 | ⟨kind,name,_,n,_,_,_,tab,kids,_⟩=>(kind=16→2≤kids.length)∧(kind=17∨kind=18→1≤kids.length)∧(kind=12→(Hi t.codex.facts ((t.facts.get name).getD 0)).isSome=true)∧(kind=13→(Hi t.codex.lines ((t.Aa.get n).getD 0)).isSome=true)∧(kind=18→tab.ps.length≤100000000)∧H3 t kids
def H3 (t:Tr):List Nd→Prop
 | []=>True
 | k::ks=>Ij t k∧H3 t ks
end
theorem R4 {t:Tr} {l:List Nd}:H3 t l↔∀ k∈l,Ij t k:=by
 induction l with
 | nil=>simp [H3]
 | cons k l ih=>simp [H3,ih]
theorem OX (t:Tr) (e:Nd):Ij t e↔(e.kind=16→2≤e.kids.length)∧(e.kind=17∨e.kind=18→1≤e.kids.length)∧(e.kind=12→(Hi t.codex.facts ((t.facts.get e.name).getD 0)).isSome=true)∧(e.kind=13→(Hi t.codex.lines ((t.Aa.get e.n).getD 0)).isSome=true)∧(e.kind=18→e.tab.ps.length≤100000000)∧∀ k∈e.kids,Ij t k:=by
 cases e;rw [Ij,R4]
theorem nO {t:Tr} {n:Nd} (h2:n.kind=12→(Hi t.codex.facts ((t.facts.get n.name).getD 0)).isSome=true) (h3:n.kind=13→(Hi t.codex.lines ((t.Aa.get n.n).getD 0)).isSome=true):CC t n=some (kB t n):=by
 rw [CC,kB]
 simp only [H2,Qj]
 by_cases k1:n.kind=11
 · rw [Af k1,Af k1]
 rw [Ac k1,Ac k1]
 by_cases k2:n.kind=12
 · rw [Af k2,Af k2]
   obtain ⟨x,hx⟩:=Option.isSome_iff_exists.1 (h2 k2)
   rw [hx,Option.bind_some,O9,hx]
   rfl
 rw [Ac k2,Ac k2]
 by_cases k3:n.kind=13
 · rw [Af k3,Af k3]
   obtain ⟨x,hx⟩:=Option.isSome_iff_exists.1 (h3 k3)
   rw [hx,Option.bind_some,O9,hx]
   rfl
 rw [Ac k3,Ac k3,bO]
 by_cases k4:n.name=Hr
 · rw [Af k4,Af k4]
 rw [Ac k4,Ac k4]
 by_cases k5:n.name=SL
 · rw [Af k5,Af k5]
 rw [Ac k5,Ac k5]
 by_cases k6:n.name=Kk
 · rw [Af k6,Af k6]
 rw [Ac k6,Ac k6]
 by_cases k7:n.name=MB
 · rw [Af k7,Af k7]
 rw [Ac k7,Ac k7]
theorem kY (u v:ByteArray):Em u v=some (AU (u=Bm) v u):=by
 rw [Em,Qj,NT]
theorem Zd {q:Nat} {t:Tr} {n:Nd} {f:Nd→Ex} (hf:∀ k∈n.kids,AG q t k=some (f k)) (hl:n.kids.length≤100000):AJ (q+1) t n=some (n.kids.map f):=by
 rw [AJ,Df,KD]
 refine GU (fun i x=>x=(n.kids.take i).map f) (by omega) (by simp) (fun i y x hy hI=>?_) (fun x hI=>?_)
 · have hmem:=List.mem_of_getElem? hy
   have hi:=(List.getElem?_eq_some_iff.1 hy).1
   rw [C4,hf y hmem,Option.bind_some,EA (by rw [hI,List.length_map,List.length_take];omega),Cb,GL,List.take_add_one,hy,hI]
   simp
 · rw [hI,List.take_length,Cb]
theorem lJ (t:Tr):∀ (m q:Nat) (e:Nd),DB e≤m→3*m≤q→DB e≤100000→Ij t e→AG q t e=some (Ko t e):=by
 intro m
 induction m with
 | zero=>intro q e h;have:=Cm e;omega
 | succ m ih =>
   intro q e hm hq hz hs
   obtain ⟨s1,s2,s3,s4,s5,s6⟩:=(OX t e).1 hs
   have he:=Cm e
   have hl:=FI e.kids
   obtain ⟨q,rfl⟩:∃ p,q=p+3:=⟨q - 3,by omega⟩
   have hk:AJ (q+1) t e=some (e.kids.map (Ko t)):=Zd (fun k hk=>by
     have:=Ge hk
     exact ih q k (by omega) (by omega) (by omega) (s6 k hk)) (by omega)
   rw [AG,Dd,WE,Xw]
   simp only [H2]
   have hlen:(e.kids.map (Ko t)).length=e.kids.length:=List.length_map _
   generalize e.kids.map (Ko t)=ks at hk hlen
   by_cases k1:e.kind=15
   · rw [Af k1,Af k1,A3,Dr,hk]
     rfl
   rw [Ac k1,Ac k1]
   by_cases k2:e.kind=16
   · rw [Af k2,Af k2,AL,CQ,hk]
     have h2:=s1 k2
     match ks,hlen with
     | [],hlen=>simp at hlen;omega
     | [_],hlen=>simp at hlen;omega
     | a::b::l,_ =>
       simp only [Option.bind_some,List.getElem?_cons_zero,List.getElem?_cons_succ,Qj,kY,NT]
       rfl
   rw [Ac k2,Ac k2]
   by_cases k3:e.kind=17
   · rw [Af k3,Af k3,AW,C8,hk]
     have h2:=s2 (.inl k3)
     match ks,hlen with
     | [],hlen=>simp at hlen;omega
     | a::l,_ =>
       simp only [Option.bind_some,List.getElem?_cons_zero,Qj,NT]
       rfl
   rw [Ac k3,Ac k3]
   by_cases k4:e.kind=18
   · rw [Af k4,Af k4,AP,C2,hk]
     have h2:=s2 (.inr k4)
     match ks,hlen with
     | [],hlen=>simp at hlen;omega
     | a::l,_ =>
       rw [GZ,EA (by simpa using s5 k4)]
       simp only [Option.bind_some,List.getElem?_cons_zero]
       rfl
   rw [Ac k4,Ac k4,nO s3 s4]
   rfl
theorem lI {t:Tr} {e:Nd} (hz:DB e≤100000) (hs:Ij t e):Ea t e=some (Ko t e) :=
 Ka (3*DB e) fun q hq=>lJ t (DB e) q e (Nat.le_refl _) hq hz hs
end Mo
end Go.Proofs.YtnijkdknnmgoeaaGreat
namespace Go.Proofs.YtnijkdknnmgoeaaGreat
open AI Go
namespace Mo
set_option maxRecDepth 100000
set_option maxHeartbeats 4000000
mutual
def JG:Ex→Nat
 | ⟨_,_,_,_,kids⟩=>1+FT kids
def FT:List Ex→Nat
 | []=>0
 | k::ks=>JG k+FT ks
end
mutual
def Th:Ex→Nat
 | ⟨_,_,_,_,kids⟩=>JN kids+1
def JN:List Ex→Nat
 | []=>0
 | k::ks=>max (Th k) (JN ks)
end
theorem NE (e:Ex):JG e=1+FT e.kids:=by cases e;rw [JG]
theorem iW (e:Ex):Th e=JN e.kids+1:=by cases e;rw [Th]
theorem Qs (l m:List Ex):FT (l++m)=FT l+FT m:=by
 induction l with
 | nil=>simp [FT]
 | cons k l ih=>simp only [List.cons_append,FT,ih];omega
theorem WS (l m:List Ex):JN (l++m)=max (JN l) (JN m):=by
 induction l with
 | nil=>simp [JN]
 | cons k l ih=>simp only [List.cons_append,JN,ih];omega
theorem QR {l:List Ex} {k:Ex} (h:k∈l):JG k≤FT l:=by
 induction l with
 | nil=>cases h
 | cons a l ih =>
   rw [FT]
   rcases List.mem_cons.1 h with rfl | h
   · omega
   · have:=ih h;omega
theorem T1 {l:List Ex} {i:Nat} {y:Ex} (h:l[i]?=some y):FT (l.take (i+1))=FT (l.take i)+JG y:=by
 rw [List.take_add_one,h,Qs];simp [FT]
theorem TT {l:List Ex} {i:Nat} {y:Ex} (h:l[i]?=some y):JN (l.take (i+1))=max (JN (l.take i)) (Th y):=by
 rw [List.take_add_one,h,WS];simp [JN]
theorem UY (l:List Ex) (i:Nat):FT (l.take i)≤FT l:=by
 have:=Qs (l.take i) (l.drop i)
 rw [List.take_append_drop] at this
 omega
theorem Qi (l:List Ex):l.length≤FT l:=by
 induction l with
 | nil=>exact Nat.le_refl _
 | cons k l ih=>have:=NE k;rw [FT,List.length_cons];omega
mutual
theorem W9:∀ e:Ex,Th e≤JG e
 | ⟨_,_,_,_,kids⟩=>by rw [Th,JG];have:=Lk kids;omega
theorem Lk:∀ l:List Ex,JN l≤FT l
 | []=>by rw [JN,FT];exact Nat.le_refl _
 | k::l=>by rw [JN,FT];have:=W9 k;have:=Lk l;omega
end
theorem Ua:∀ (q:Nat) (e:Ex),JG e≤q→JG e≤1000000→CO q e=some (((JG e:Nat):Int),((Th e:Nat):Int)):=by
 intro q
 induction q with
 | zero=>intro e h;have:=NE e;omega
 | succ q ih =>
   intro e hq hz
   have he:=NE e
   have hl:=Qi e.kids
   rw [CO,Fc,KD]
   refine GU (fun i x=>x=(((1+FT (e.kids.take i):Nat):Int),((JN (e.kids.take i):Nat):Int))) (by omega) (by simp [FT,JN]) (fun i y x hy hI=>?_) (fun x hI=>?_)
   · have hmem:=List.mem_of_getElem? hy
     have hm:=QR hmem
     have h1:=T1 hy
     have h2:=TT hy
     have h3:=UY e.kids (i+1)
     rw [EV,ih y (by omega) (by omega)]
     simp only [Option.bind_some,Cb,GL,hI]
     rw [CT (by omega),h1,h2]
     unfold kN
     refine Prod.ext ?_ ?_
     · show _+_=_;omega
     · show (if _ then _ else _)=_
       split<;>omega
   · have h3:=Lk e.kids
     rw [hI,List.take_length]
     simp only [Cb]
     rw [CT (by omega),he,iW]
     refine Prod.ext rfl ?_
     show _+_=_;omega
theorem UQ {e:Ex} (hz:JG e≤1000000):Gx e=some (((JG e:Nat):Int),((Th e:Nat):Int)) :=
 Ka (JG e) fun q hq=>Ua q e hq hz
noncomputable def Hj (t:Tr) (s:List Dg×List Int×List Ex×Ex) (e:Nd):List Dg×List Int×List Ex×Ex :=
 AU (e.kind=7) (s.1,s.2.1++e.kids.map (·.n),s.2.2)
 (AU (e.kind=6)
   (AU (400 < JG (Ko t (e.kids.headD e))∨40 < Th (Ko t (e.kids.headD e))) (s.1++[⟨2,e.att⟩]) s.1,s.2.1,s.2.2.1++[Ko t (e.kids.headD e)],s.2.2.2)
   (AU (400 < JG (Ko t (e.kids.headD e))∨40 < Th (Ko t (e.kids.headD e))) (s.1++[⟨2,e.att⟩]) s.1,s.2.1,s.2.2.1,Ko t (e.kids.headD e)))
noncomputable def FG (t:Tr) (l:List Nd):List Dg×List Int×List Ex×Ex:=l.foldl (Hj t) ([],[],[],⟨0,0,ByteArray.empty,⟨0,[]⟩,[]⟩)
noncomputable def Wv (t:Tr) (item:Nd):Ar :=
 ⟨item.n,(t.lines.get item.name).getD 0,(item.kids.headD item).n,(item.kids.headD item).fr,(item.kids.headD item).to,(item.kids.headD item).known,
  (FG t item.kids.tail).2.2.1,(FG t item.kids.tail).2.1,(FG t item.kids.tail).2.2.2⟩
end Mo
end Go.Proofs.YtnijkdknnmgoeaaGreat
namespace Go.Proofs.YtnijkdknnmgoeaaGreat
open AI Go
namespace Mo
set_option maxRecDepth 100000
set_option maxHeartbeats 4000000
theorem NB (l m:List Nd):Er (l++m)=Er l+Er m:=by
 induction l with
 | nil=>simp [Er]
 | cons k l ih=>simp only [List.cons_append,Er,ih];omega
theorem O5 {l:List Nd} {i:Nat} {y:Nd} (h:l[i]?=some y):Er (l.take (i+1))=Er (l.take i)+DB y:=by
 rw [List.take_add_one,h,NB];simp [Er]
theorem Ot (l:List Nd) (i:Nat):Er (l.take i)≤Er l:=by
 have:=NB (l.take i) (l.drop i)
 rw [List.take_append_drop] at this
 omega
theorem jR {p:Prop} {f:Ex→Nat} {a b:Ex} {m:Nat} (ha:f a≤m) (hb:f b≤m):f (AU p a b)≤m:=by
 by_cases h:p
 · rw [Af h];exact ha
 · rw [Ac h];exact hb
theorem dX (t:Tr) (n:Nd) (ks:List Ex):JG (Xw t n ks)≤2+FT ks:=by
 unfold Xw qW kB
 repeat' apply jR (f:=JG)
 all_goals simp only [JG,FT]
 all_goals omega
mutual
theorem Rk (t:Tr):∀ e:Nd,JG (Ko t e)≤2*DB e
 | ⟨kind,name,unit,n,fr,to,known,tab,kids,att⟩=>by
   have h:=TP t kids
   rw [Ko,DB]
   have:=dX t ⟨kind,name,unit,n,fr,to,known,tab,kids,att⟩ (Kd t kids)
   omega
theorem TP (t:Tr):∀ l:List Nd,FT (Kd t l)≤2*Er l
 | []=>by rw [Kd,FT,Er];exact Nat.le_refl _
 | k::l=>by
   have h:=Rk t k
   have h2:=TP t l
   rw [Kd,FT,Er]
   omega
end
def TL (s:List Dg×List Int×List Ex×Ex):List Dg×List Int×List Ex×Int×Int×ByteArray×Int×List Pc×List Ex:=(s.1,s.2.1,s.2.2.1,s.2.2.2.op,s.2.2.2.n,s.2.2.2.unit,s.2.2.2.tab.den,s.2.2.2.tab.ps,s.2.2.2.kids)
theorem Fa {α β:Type} (f:β→α→β) (b:β) {l:List α} {i:Nat} {y:α} (h:l[i]?=some y):(l.take (i+1)).foldl f b=f ((l.take i).foldl f b) y:=by
 rw [List.take_add_one,h,List.foldl_append];rfl
def To (t:Tr) (item:Nd):Prop:=item.kids≠[]∧∀ e∈item.kids.tail,e.kind≠7→∃ k,e.kids[0]?=some k∧Ij t k
theorem mA {t:Tr} {item:Nd} (hz:DB item≤100000) (hs:To t item) (ha:t.codex.arts.length≤1000000):Cg t item=some ((FG t item.kids.tail).1,t.codex.arts++[Wv t item]):=by
 obtain ⟨hne,hs⟩:=hs
 have hsz:=Cm item
 rw [Cg,KD]
 unfold Wv
 cases hk:item.kids with
 | nil=>exact absurd hk hne
 | cons a l =>
   rw [hk] at hs hsz
   rw [Er] at hsz
   simp only [List.tail_cons] at hs
   have hll:=FI l
   have hsub:FZ (a::l) 1 (((a::l).length:Nat):Int)=some l:=by
     unfold FZ
     rw [if_pos ⟨by omega,by simp only [List.length_cons];omega,by omega⟩]
     simp only [List.length_cons]
     rw [show (1:Int).toNat=1 from rfl,List.drop_one,List.tail_cons,List.take_of_length_le (by omega)]
   rw [List.getElem?_cons_zero,hsub]
   simp only [Option.bind_some,List.tail_cons,List.headD_cons]
   refine GU (fun i x=>∃ s,s=(l.take i).foldl (Hj t) ([],[],[],⟨0,0,ByteArray.empty,⟨0,[]⟩,[]⟩)∧x=TL s∧s.1.length≤i∧s.2.2.1.length≤i∧s.2.1.length≤Er (l.take i)) (by omega) ⟨_,rfl,rfl,by simp,by simp,by simp⟩ (fun i y x hy hI=>?_) (fun x hI=>?_)
   · obtain ⟨s,hs0,rfl,n1,n2,n3⟩:=hI
     have hmem:=List.mem_of_getElem? hy
     have hi:=(List.getElem?_eq_some_iff.1 hy).1
     have hst:=O5 hy
     have htk:=Ot l (i+1)
     have hyz:=Cm y
     have hyl:=FI y.kids
     have hfold:=Fa (Hj t) ([],[],[],⟨0,0,ByteArray.empty,⟨0,[]⟩,[]⟩) hy
     rw [← hs0] at hfold
     obtain ⟨d,u,w,am⟩:=s
     simp only [TL] at n1 n2 n3 ⊢
     rw [CD]
     simp only [H2,ZT]
     by_cases k7:y.kind=7
     · rw [Af k7]
       refine GU (fun j x=>x=u++(y.kids.take j).map (·.n)) (by omega) (by simp) (fun j z x hz2 hJ=>?_) (fun x hJ=>?_)
       · have hj:=(List.getElem?_eq_some_iff.1 hz2).1
         rw [CE,EA (by rw [hJ,List.length_append,List.length_map,List.length_take];omega),Cb,GL,hJ,List.take_add_one,hz2]
         simp
       · rw [hJ,List.take_length,Cb,GL]
         have hc:Hj t (d,u,w,am) y=(d,u++y.kids.map (·.n),w,am):=by rw [Hj,Af k7]
         rw [hc] at hfold
         exact ⟨_,hfold.symm,rfl,by simp only;omega,by simp only;omega,by simp only [List.length_append,List.length_map];omega⟩
     · rw [Ac k7]
       obtain ⟨k,hk0,hsane⟩:=hs y hmem k7
       have hkm:=List.mem_of_getElem? hk0
       have hkz:=G3 hkm
       have hx:=Rk t k
       have hhd:y.kids.headD y=k:=by
         cases hyk:y.kids with
         | nil=>rw [hyk] at hk0;cases hk0
         | cons b m=>rw [hyk,List.getElem?_cons_zero] at hk0;cases hk0;rfl
       rw [hk0]
       simp only [Option.bind_some]
       rw [lI (by omega) hsane]
       simp only [Option.bind_some]
       rw [UQ (by omega)]
       simp only [Option.bind_some]
       have hc:Hj t (d,u,w,am) y=(AU (y.kind=6)
   (AU (400 < JG (Ko t k)∨40 < Th (Ko t k)) (d++[⟨2,y.att⟩]) d,u,w++[Ko t k],am)
   (AU (400 < JG (Ko t k)∨40 < Th (Ko t k)) (d++[⟨2,y.att⟩]) d,u,w,Ko t k)):=by rw [Hj,Ac k7,hhd]
       rw [hc] at hfold
       generalize Ko t k=e at *
       have fin:∀ (Qx:List Dg×List Int×List Ex×Int×Int×ByteArray×Int×List Pc×List Ex→Prop) (Qr:List Dg×List Ar→Prop) (d2:List Dg),d2.length≤i+1→(AU (400 < JG e∨40 < Th e) (d++[⟨2,y.att⟩]) d)=d2→Sp (AU (y.kind=6) (Hy (w.length+1) (some (Lp.nx (d2,u,w++[e],am.op,am.n,am.unit,am.tab.den,am.tab.ps,am.kids)))) (some (.nx (d2,u,w,e.op,e.n,e.unit,e.tab.den,e.tab.ps,e.kids)))) (RQ (fun x=>∃ s,s=(l.take (i+1)).foldl (Hj t) ([],[],[],⟨0,0,ByteArray.empty,⟨0,[]⟩,[]⟩)∧x=TL s∧s.1.length≤i+1∧s.2.2.1.length≤i+1∧s.2.1.length≤Er (l.take (i+1))) Qx Qr):=by
         intro Qx Qr d2 hd2 hde
         rw [hde] at hfold
         by_cases k6:y.kind=6
         · rw [Af k6] at hfold ⊢
           rw [EA (by omega),Cb,GL]
           exact ⟨_,hfold.symm,rfl,by simp only;omega,by simp only [List.length_append,List.length_singleton];omega,by simp only;omega⟩
         · rw [Ac k6] at hfold ⊢
           rw [Cb,GL]
           exact ⟨_,hfold.symm,rfl,by simp only;omega,by simp only;omega,by simp only;omega⟩
       by_cases k4:(400:Int) < ((JG e:Nat):Int)
       · rw [Af k4,EA (by omega)]
         exact fin _ _ _ (by simp only [List.length_append,List.length_singleton];omega) (Af (.inl (by omega)))
       · rw [Ac k4]
         by_cases k5:(40:Int) < ((Th e:Nat):Int)
         · rw [Af k5,EA (by omega)]
           exact fin _ _ _ (by simp only [List.length_append,List.length_singleton];omega) (Af (.inr (by omega)))
         · rw [Ac k5]
           exact fin _ _ _ (by omega) (Ac (by omega))
   · obtain ⟨s,hs0,rfl,n1,n2,n3⟩:=hI
     rw [List.take_length] at hs0
     simp only [TL]
     rw [EA (by omega),Cb,show FG t l=s from hs0.symm]
     obtain ⟨d,u,w,op,n,unit,⟨den,ps⟩,kids⟩:=s
     rfl
end Mo
end Go.Proofs.YtnijkdknnmgoeaaGreat
namespace Go.Proofs.YtnijkdknnmgoeaaGreat
open AI Go
namespace Mo
set_option maxRecDepth 100000
set_option maxHeartbeats 4000000
noncomputable def N4 (s:List Dc×Mm ByteArray Int×List Dc×Mm ByteArray Int) (e:Nd):List Dc×Mm ByteArray Int×List Dc×Mm ByteArray Int :=
 AU (e.kind=2) (s.1++[⟨e.name,e.unit,0⟩],s.2.1.set e.name ((s.1.length:Nat):Int),s.2.2.1,s.2.2.2)
 (AU (e.kind=3) (s.1,s.2.1,s.2.2.1++[⟨e.name,e.unit,e.n⟩],s.2.2.2.set e.name ((s.2.2.1.length:Nat):Int)) s)
noncomputable def DK (l:List Nd):List Dc×Mm ByteArray Int×List Dc×Mm ByteArray Int:=l.foldl N4 ([],Mm.nil,[],Mm.nil)
noncomputable def bD (lm:Mm ByteArray Int) (m:Mm Int Int) (e:Nd):Mm Int Int:=AU (e.kind=4) (m.set e.n ((lm.get e.name).getD 0)) m
noncomputable def PX (lm:Mm ByteArray Int) (l:List Nd):Mm Int Int:=l.foldl (bD lm) Mm.nil
noncomputable def Gv (l:List Nd):Tr:=⟨⟨(DK l).1,(DK l).2.2.1,[]⟩,(DK l).2.1,(DK l).2.2.2,PX (DK l).2.2.2 l⟩
theorem fT {src:Nd} (hl:src.kids.length≤100000):CW src=some ((DK src.kids).1,(DK src.kids).2.2.1,(DK src.kids).2.1,(DK src.kids).2.2.2,PX (DK src.kids).2.2.2 src.kids):=by
 rw [CW,KD]
 refine GU (fun i x=>x=(src.kids.take i).foldl N4 ([],Mm.nil,[],Mm.nil)∧x.1.length≤i∧x.2.2.1.length≤i) (by omega) ⟨rfl,by simp,by simp⟩ (fun i y x hy hI=>?_) (fun x hI=>?_)
 · obtain ⟨h0,n1,n2⟩:=hI
   have hi:=(List.getElem?_eq_some_iff.1 hy).1
   have hf:=Fa N4 ([],Mm.nil,[],Mm.nil) hy
   rw [← h0] at hf
   obtain ⟨f,fm,l,lm⟩:=x
   simp only at n1 n2 ⊢
   rw [Du]
   simp only [H2]
   rw [N4] at hf
   simp only at hf
   by_cases k2:y.kind=2
   · rw [Af k2] at hf ⊢
     rw [EA (by omega),Cb,GL]
     exact ⟨hf.symm,by simp only [List.length_append,List.length_singleton];omega,by simp only;omega⟩
   rw [Ac k2] at hf ⊢
   by_cases k3:y.kind=3
   · rw [Af k3] at hf ⊢
     rw [EA (by omega),Cb,GL]
     exact ⟨hf.symm,by simp only;omega,by simp only [List.length_append,List.length_singleton];omega⟩
   rw [Ac k3] at hf ⊢
   rw [Cb,GL]
   exact ⟨hf.symm,by simp only;omega,by simp only;omega⟩
 · obtain ⟨h0,n1,n2⟩:=hI
   rw [List.take_length] at h0
   have h0:x=DK src.kids:=h0
   subst h0
   simp only
   generalize DK src.kids=s
   refine GU (fun i x=>x=(src.kids.take i).foldl (bD s.2.2.2) Mm.nil) (by omega) rfl (fun i y x hy hI=>?_) (fun x hI=>?_)
   · have hf:=Fa (bD s.2.2.2) Mm.nil hy
     rw [← hI,bD] at hf
     rw [Ds]
     simp only [H2]
     by_cases k4:y.kind=4
     · rw [Af k4] at hf ⊢
       rw [Cb,GL];exact hf.symm
     · rw [Ac k4] at hf ⊢
       rw [Cb,GL];exact hf.symm
   · rw [List.take_length] at hI
     subst hI
     rw [Cb];rfl
mutual
def Pr (t u:Tr):Nd→Prop
 | ⟨kind,_,_,n,_,_,_,_,kids,_⟩=>(kind=13→t.Aa.get n=u.Aa.get n)∧Ma t u kids
def Ma (t u:Tr):List Nd→Prop
 | []=>True
 | k::ks=>Pr t u k∧Ma t u ks
end
theorem Ws {t u:Tr} {l:List Nd}:Ma t u l↔∀ k∈l,Pr t u k:=by
 induction l with
 | nil=>simp [Ma]
 | cons k l ih=>simp [Ma,ih]
theorem SU (t u:Tr) (e:Nd):Pr t u e↔(e.kind=13→t.Aa.get e.n=u.Aa.get e.n)∧∀ k∈e.kids,Pr t u k:=by
 cases e;rw [Pr,Ws]
mutual
theorem M3 {t u:Tr} (h:t.Aa=u.Aa):∀ e:Nd,Pr t u e
 | ⟨_,_,_,_,_,_,_,_,kids,_⟩=>by rw [Pr];exact ⟨fun _=>by rw [h],OR h kids⟩
theorem OR {t u:Tr} (h:t.Aa=u.Aa):∀ l:List Nd,Ma t u l
 | []=>by rw [Ma];trivial
 | k::l=>by rw [Ma];exact ⟨M3 h k,OR h l⟩
end
theorem Ux {t u:Tr} (hf:t.codex.facts=u.codex.facts) (hl:t.codex.lines=u.codex.lines) (hm:t.facts=u.facts) {n:Nd} (h:n.kind=13→t.Aa.get n.n=u.Aa.get n.n) (ks:List Ex):Xw t n ks=Xw u n ks:=by
 unfold Xw kB
 rw [hf,hl,hm]
 by_cases k:n.kind=13
 · rw [h k]
 · simp only [Ac k]
mutual
theorem O4 {t u:Tr} (hf:t.codex.facts=u.codex.facts) (hl:t.codex.lines=u.codex.lines) (hm:t.facts=u.facts):∀ e:Nd,Pr t u e→Ko t e=Ko u e
 | ⟨kind,name,unit,n,fr,to,known,tab,kids,att⟩=>fun h=>by
   rw [Pr] at h
   rw [Ko,Ko,NH hf hl hm kids h.2]
   exact Ux hf hl hm h.1 _
theorem NH {t u:Tr} (hf:t.codex.facts=u.codex.facts) (hl:t.codex.lines=u.codex.lines) (hm:t.facts=u.facts):∀ l:List Nd,Ma t u l→Kd t l=Kd u l
 | []=>fun _=>by rw [Kd,Kd]
 | k::l=>fun h=>by
   rw [Ma] at h
   rw [Kd,Kd,O4 hf hl hm k h.1,NH hf hl hm l h.2]
end
mutual
theorem LO {t u:Tr} (hf:t.codex.facts=u.codex.facts) (hl:t.codex.lines=u.codex.lines) (hm:t.facts=u.facts):∀ e:Nd,Pr t u e→Ij t e→Ij u e
 | ⟨kind,name,unit,n,fr,to,known,tab,kids,att⟩=>fun h=>by
   rw [Pr] at h
   rw [Ij,Ij,hf,hl,hm]
   rintro ⟨s1,s2,s3,s4,s5,s6⟩
   exact ⟨s1,s2,s3,fun k=>by rw [← h.1 k];exact s4 k,s5,KB hf hl hm kids h.2 s6⟩
theorem KB {t u:Tr} (hf:t.codex.facts=u.codex.facts) (hl:t.codex.lines=u.codex.lines) (hm:t.facts=u.facts):∀ l:List Nd,Ma t u l→H3 t l→H3 u l
 | []=>fun _ _=>by rw [H3];trivial
 | k::l=>fun h=>by
   rw [Ma] at h
   rw [H3,H3]
   exact fun s=>⟨LO hf hl hm k h.1 s.1,KB hf hl hm l h.2 s.2⟩
end
end Mo
end Go.Proofs.YtnijkdknnmgoeaaGreat
namespace Go.Proofs.YtnijkdknnmgoeaaGreat
open AI Go
namespace Mo
set_option maxRecDepth 100000
set_option maxHeartbeats 4000000
theorem Jg {t u:Tr} (hf:t.codex.facts=u.codex.facts) (hl:t.codex.lines=u.codex.lines) (hm:t.facts=u.facts) {l:List Nd} (h:∀ e∈l,Pr t u (e.kids.headD e)):FG t l=FG u l:=by
 unfold FG
 generalize (([],[],[],⟨0,0,ByteArray.empty,⟨0,[]⟩,[]⟩):List Dg×List Int×List Ex×Ex)=s
 induction l generalizing s with
 | nil=>rfl
 | cons k l ih =>
   rw [List.foldl_cons,List.foldl_cons,show Hj t s k=Hj u s k by unfold Hj;rw [O4 hf hl hm _ (h k (by simp))]]
   exact ih (fun e he=>h e (by simp [he])) _
theorem O0 {t u:Tr} (hf:t.codex.facts=u.codex.facts) (hl:t.codex.lines=u.codex.lines) (hm:t.facts=u.facts) (hn:t.lines=u.lines) {it:Nd} (h:∀ e∈it.kids.tail,Pr t u (e.kids.headD e)):Wv t it=Wv u it:=by
 unfold Wv
 rw [Jg hf hl hm h,hn]
theorem Uv (t:Tr) (l:List Nd):(FG t l).1.length≤l.length:=by
 unfold FG
 have:∀ (s:List Dg×List Int×List Ex×Ex),(l.foldl (Hj t) s).1.length≤s.1.length+l.length:=by
   induction l with
   | nil=>intro s;exact Nat.le_refl _
   | cons k l ih =>
     intro s
     rw [List.foldl_cons]
     have h1:=ih (Hj t s k)
     have h2:(Hj t s k).1.length≤s.1.length+1:=by
       have hh:∀ p:Prop,(AU p (s.1++[(⟨2,k.att⟩:Dg)]) s.1).length≤s.1.length+1:=fun p=>by
         by_cases h:p
         · rw [Af h];simp
         · rw [Ac h];omega
       unfold Hj
       by_cases k7:k.kind=7
       · rw [Af k7];exact Nat.le_succ _
       rw [Ac k7]
       by_cases k6:k.kind=6
       · rw [Af k6];exact hh _
       · rw [Ac k6];exact hh _
     rw [List.length_cons]
     omega
 have:=this ([],[],[],⟨0,0,ByteArray.empty,⟨0,[]⟩,[]⟩)
 simpa using this
noncomputable def b1 (t:Tr) (s:List Dg×List Ar) (e:Nd):List Dg×List Ar:=AU (e.kind=4) (s.1++(FG t e.kids.tail).1,s.2++[Wv t e]) s
noncomputable def Hq (t:Tr) (l:List Nd):List Dg×List Ar:=l.foldl (b1 t) ([],[])
theorem XO {src:Nd} (hk:src.kind=1) (hv:DC src=some true) (hc:En src=some []) (hz:DB src≤100000) (hs:∀ it∈src.kids,it.kind=4→To (Gv src.kids) it) :
   Ch src=some (AU ((Hq (Gv src.kids) src.kids).1=[]) (⟨(Gv src.kids).codex.facts,(Gv src.kids).codex.lines,(Hq (Gv src.kids) src.kids).2⟩,[]) (⟨[],[],[]⟩,(Hq (Gv src.kids) src.kids).1.take 20)):=by
 have hsz:=Cm src
 have hll:=FI src.kids
 rw [Ch,KD]
 simp only [H2]
 rw [Af hk,hv]
 simp only [Option.bind_some,cond_true]
 rw [hc]
 simp only [Option.bind_some,ZT]
 rw [Ac (by simp),fT (by omega)]
 simp only [Option.bind_some]
 refine GU (fun i x=>x=(src.kids.take i).foldl (b1 (Gv src.kids)) ([],[])∧x.1.length≤Er (src.kids.take i)∧x.2.length≤i) (by omega) ⟨rfl,by simp,by simp⟩ (fun i y x hy hI=>?_) (fun x hI=>?_)
 · obtain ⟨h0,n1,n2⟩:=hI
   have hmem:=List.mem_of_getElem? hy
   have hi:=(List.getElem?_eq_some_iff.1 hy).1
   have hst:=O5 hy
   have htk:=Ot src.kids (i+1)
   have hyz:=Cm y
   have hyl:=FI y.kids
   have hf:=Fa (b1 (Gv src.kids)) ([],[]) hy
   rw [← h0,b1] at hf
   obtain ⟨d,a⟩:=x
   simp only at n1 n2 hf ⊢
   rw [FC]
   simp only [H2]
   by_cases k4:y.kind=4
   · rw [Af k4] at hf ⊢
     have hsa:=hs y hmem k4
     have hA:∀ e,Pr ⟨⟨(DK src.kids).1,(DK src.kids).2.2.1,a⟩,(DK src.kids).2.1,(DK src.kids).2.2.2,PX (DK src.kids).2.2.2 src.kids⟩ (Gv src.kids) e:=fun e=>M3 (t:=⟨⟨(DK src.kids).1,(DK src.kids).2.2.1,a⟩,(DK src.kids).2.1,(DK src.kids).2.2.2,PX (DK src.kids).2.2.2 src.kids⟩) (u:=Gv src.kids) rfl e
     have hB:∀ e,Pr (Gv src.kids) ⟨⟨(DK src.kids).1,(DK src.kids).2.2.1,a⟩,(DK src.kids).2.1,(DK src.kids).2.2.2,PX (DK src.kids).2.2.2 src.kids⟩ e:=fun e=>M3 (u:=⟨⟨(DK src.kids).1,(DK src.kids).2.2.1,a⟩,(DK src.kids).2.1,(DK src.kids).2.2.2,PX (DK src.kids).2.2.2 src.kids⟩) (t:=Gv src.kids) rfl e
     have e1:FG ⟨⟨(DK src.kids).1,(DK src.kids).2.2.1,a⟩,(DK src.kids).2.1,(DK src.kids).2.2.2,PX (DK src.kids).2.2.2 src.kids⟩ y.kids.tail=FG (Gv src.kids) y.kids.tail:=Jg (t:=⟨⟨(DK src.kids).1,(DK src.kids).2.2.1,a⟩,(DK src.kids).2.1,(DK src.kids).2.2.2,PX (DK src.kids).2.2.2 src.kids⟩) (u:=Gv src.kids) rfl rfl rfl (fun e _=>hA _)
     have e2:Wv ⟨⟨(DK src.kids).1,(DK src.kids).2.2.1,a⟩,(DK src.kids).2.1,(DK src.kids).2.2.2,PX (DK src.kids).2.2.2 src.kids⟩ y=Wv (Gv src.kids) y:=O0 (t:=⟨⟨(DK src.kids).1,(DK src.kids).2.2.1,a⟩,(DK src.kids).2.1,(DK src.kids).2.2.2,PX (DK src.kids).2.2.2 src.kids⟩) (u:=Gv src.kids) rfl rfl rfl rfl (fun e _=>hA _)
     have e3:To ⟨⟨(DK src.kids).1,(DK src.kids).2.2.1,a⟩,(DK src.kids).2.1,(DK src.kids).2.2.2,PX (DK src.kids).2.2.2 src.kids⟩ y:=⟨hsa.1,fun e he k7=>by
       obtain ⟨k,h1,h2⟩:=hsa.2 e he k7
       exact ⟨k,h1,LO (t:=Gv src.kids) (u:=⟨⟨(DK src.kids).1,(DK src.kids).2.2.1,a⟩,(DK src.kids).2.1,(DK src.kids).2.2.2,PX (DK src.kids).2.2.2 src.kids⟩) rfl rfl rfl k (hB k) h2⟩⟩
     have hcl:=Uv (Gv src.kids) y.kids.tail
     rw [List.length_tail] at hcl
     rw [mA (by omega) e3 (by show a.length≤_;omega),e1,e2]
     simp only [Option.bind_some]
     rw [EA (by omega)]
     by_cases k5:(((FG (Gv src.kids) y.kids.tail).1.length:Nat):Int)=0
     · rw [Af k5,Cb,GL]
       have:(FG (Gv src.kids) y.kids.tail).1=[]:=List.eq_nil_of_length_eq_zero (by omega)
       rw [this,List.append_nil] at hf
       exact ⟨hf.symm,by simp only;omega,by simp only [List.length_append,List.length_singleton];omega⟩
     · rw [Ac k5,Cb,GL]
       exact ⟨hf.symm,by simp only [List.length_append];omega,by simp only [List.length_append,List.length_singleton];omega⟩
   · rw [Ac k4] at hf ⊢
     rw [Cb,GL]
     exact ⟨hf.symm,by simp only;omega,by simp only;omega⟩
 · obtain ⟨h0,n1,n2⟩:=hI
   rw [List.take_length] at h0 n1
   have h0:x=Hq (Gv src.kids) src.kids:=h0
   rw [← h0]
   obtain ⟨d,a⟩:=x
   simp only at n1 n2 ⊢
   cases d with
   | nil =>
     rw [Ac (by simp),Af rfl,Cb]
     rfl
   | cons g d =>
     rw [Af (by simp only [List.length_cons];omega),Ac (p:=g::d=[]) (by simp)]
     by_cases X8:Uj (((g::d).length:Nat):Int) 20=(((g::d).length:Nat):Int)
     · rw [Af X8,Cb]
       have:(g::d).length≤20:=by unfold Uj at X8;split at X8<;>omega
       rw [List.take_of_length_le this]
     · rw [Ac X8]
       have:Uj (((g::d).length:Nat):Int) 20=20∧20 < (g::d).length:=by unfold Uj at X8 ⊢;split at X8<;>constructor<;>first | omega | (split<;>omega)
       rw [this.1]
       have hsub:FZ (g::d) 0 20=some ((g::d).take 20):=by
         unfold FZ
         rw [if_pos ⟨by omega,by omega,by omega⟩]
         rfl
       rw [hsub,Option.bind_some,Cb]
end Mo
end Go.Proofs.YtnijkdknnmgoeaaGreat
namespace Go.Proofs.YtnijkdknnmgoeaaGreat
open AI Go
namespace Mo
set_option maxRecDepth 100000
set_option maxHeartbeats 4000000
theorem Gp {r:Option (Bool×Int)} {P Q:Prop} {t u:Int} {f:Bool×Int→Option (Bool×Int)} (h:Out r P t) (hT:P→Out (f (true,t)) Q u) (hF:∀ z,¬ P→Out (f (false,z)) Q u):Out (r.bind f) Q u:=by
 obtain ⟨z,rfl,h2⟩:=h
 by_cases hp:P
 · rw [BZ.2 hp,h2 hp];exact hT hp
 · rw [SF hp];exact hF z hp
theorem c6 {Q:Prop} {t u:Int} (hq:Q) (h:t=u):Out (some (true,t)) Q u:=⟨t,by rw [BZ.2 hq],fun _=>h⟩
theorem Gq {r:Option (Bool×Int)} {P Q:Prop} {t u:Int} (h:Out r P t) (hp:P↔Q) (ht:P→t=u):Out (r.bind fun (a,b)=>some (a,b)) Q u :=
 Gp h (fun p=>c6 (hp.1 p) (ht p)) fun _ p=>E0 fun q=>p (hp.2 q)
section
variable {p q r:Prop} {z:Int}
theorem P2:AU p (some (mb q,z)) (some (false,z))=some (mb (p∧q),z):=by
 by_cases h:p
 · rw [Af h];congr 2;exact E4 ⟨fun a=>⟨h,a⟩,fun a=>a.2⟩
 · rw [Ac h,SF];exact fun a=>h a.1
theorem SE:AU p (some (false,z)) (some (mb q,z))=some (mb (¬ p∧q),z):=by
 by_cases h:p
 · rw [Af h,SF];exact fun a=>a.1 h
 · rw [Ac h];congr 2;exact E4 ⟨fun a=>⟨h,a⟩,fun a=>a.2⟩
theorem Uh:AU p (some (mb q,z)) (some (mb r,z))=some (mb ((p→q)∧(¬ p→r)),z):=by
 by_cases h:p
 · rw [Af h];congr 2;exact E4 ⟨fun a=>⟨fun _=>a,fun b=>absurd h b⟩,fun a=>a.1 h⟩
 · rw [Ac h];congr 2;exact E4 ⟨fun a=>⟨fun b=>absurd b h,fun _=>a⟩,fun a=>a.2 h⟩
end
section
variable {n:Nd}
theorem sW (h:n.kind=11):JR n↔MF n.unit∧0≤n.n∧n.n≤999999999999∧(n.unit=AO→n.n≤1)∧n.kids.length=0∧DF n ⟨0,ByteArray.empty,n.unit,n.n,0,0,0,⟨0,[]⟩,[],0⟩:=by unfold JR;simp [h]
theorem sP (h:n.kind=12):JR n↔I1 n.name∧n.kids.length=0∧DF n ⟨0,n.name,ByteArray.empty,0,0,0,0,⟨0,[]⟩,[],0⟩:=by unfold JR;simp [h]
theorem qK (h:n.kind=13):JR n↔IH n.n∧n.kids.length=0∧DF n ⟨0,ByteArray.empty,ByteArray.empty,n.n,0,0,0,⟨0,[]⟩,[],0⟩:=by unfold JR;simp [h]
theorem rP (h:n.kind=14):JR n↔Rx n.name∧n.kids.length=0∧DF n ⟨0,n.name,ByteArray.empty,0,0,0,0,⟨0,[]⟩,[],0⟩:=by unfold JR;simp [h]
theorem oG (h:n.kind=15):JR n↔n.kids.length=1∧DF n ⟨0,ByteArray.empty,ByteArray.empty,0,0,0,0,⟨0,[]⟩,[],0⟩:=by unfold JR;simp [h]
theorem mK (h:n.kind=16):JR n↔DF n ⟨0,n.name,ByteArray.empty,0,0,0,0,⟨0,[]⟩,[],0⟩∧n.kids.length=2∧Pu n.name∧(n.name=Lq→∀ k,n.kids[1]?=some k→MY k):=by unfold JR;simp [h]
theorem oT (h:n.kind=17):JR n↔(n.name=J6∨n.name=Fp)∧DF n ⟨0,n.name,ByteArray.empty,0,0,0,0,⟨0,[]⟩,[],0⟩∧2≤n.kids.length:=by unfold JR;simp [h]
theorem m9 (h:n.kind=18):JR n↔DF n ⟨0,ByteArray.empty,ByteArray.empty,0,0,0,0,n.tab,[],0⟩∧SB n.tab∧n.kids.length=1:=by unfold JR;simp [h]
theorem S3 (h:JR n):n.kind=11∨n.kind=12∨n.kind=13∨n.kind=14∨n.kind=15∨n.kind=16∨n.kind=17∨n.kind=18:=by
 unfold JR at h
 rcases h with h | h | h | h | h | h | h | h
 all_goals
   have:=h.1
   simp [this]
end
def HQ (l:List Nd) (c d:Int):Prop:=(∀ k∈l,Mb k∧d+JM k≤41)∧c+Er l≤2000
theorem aC {l:List Nd} {c d:Int} (h:l.length=0) (hc:c≤2000):HQ l c d∧c=c+Er l:=by
 obtain rfl:=List.eq_nil_of_length_eq_zero h
 exact ⟨⟨(fun k hk=>(by cases hk)),(by simp only [Er];omega)⟩,(by simp [Er])⟩
theorem bV {x:Nd} {c d:Int}:HQ [x] c d↔Mb x∧c+DB x≤2000∧d+JM x≤41:=by
 unfold HQ
 simp only [List.mem_singleton,forall_eq,Er,Nat.add_zero]
 exact ⟨fun a=>⟨a.1.1,a.2,a.1.2⟩,fun a=>⟨⟨a.1,a.2.2⟩,a.2.1⟩⟩
theorem QH {x y:Nd} {c d:Int}:HQ [x,y] c d↔(Mb x∧c+DB x≤2000∧d+JM x≤41)∧Mb y∧c+DB x+DB y≤2000∧d+JM y≤41:=by
 unfold HQ
 simp only [List.mem_cons,List.not_mem_nil,or_false,forall_eq_or_imp,forall_eq,Er,Nat.add_zero,Int.natCast_add]
 constructor
 · rintro ⟨⟨⟨a,b⟩,c',d'⟩,e⟩;exact ⟨⟨a,by omega,b⟩,c',by omega,d'⟩
 · rintro ⟨⟨a,b,c'⟩,d',e,f⟩;exact ⟨⟨⟨a,c'⟩,d',f⟩,by omega⟩
abbrev n5 (g:Ck→Nd→Int→Option (Bool×Int)) (n:Nd):Prop:=∀ (c d:Int),0≤c→c≤2000→0≤d→d≤41→Out (g ⟨c⟩ n d) (Mb n∧c+DB n≤2000∧d+JM n≤41) (c+DB n)
theorem Oj {g:Ck→Nd→Int→Option (Bool×Int)} {b a:Ck→Nd→Int→Option (Bool×Int)} {l:Ck→List Nd→Int→Option (Bool×Int)} {n:Nd} (h:n5 g n) {c d:Int} (h0:0≤c) (h1:c≤2000) (h2:0≤d) (h3:d≤41) :
   Out (BP g b a l ⟨c⟩ n d) ((Mb n∧MY n)∧c+DB n≤2000∧d+JM n≤41) (c+DB n):=by
 rw [BP]
 simp only [DW,E2,D5,KQ,Option.bind_some]
 refine Gp (h c d h0 h1 h2 h3) (fun hp=>?_) fun z hp=>E0 fun q=>hp ⟨q.1.1,q.2⟩
 show Out (AU (n.kind=11) (AU (n.unit=Bm) (some (mb (IH n.n),c+DB n)) (some (false,c+DB n))) (some (false,c+DB n))) _ _
 rw [P2,P2]
 exact K2 ⟨fun a=>⟨⟨hp.1,a⟩,hp.2⟩,fun a=>a.1.2⟩
theorem UD {g n':Ck→Nd→Int→Option (Bool×Int)} {b:Ck→Nd→Int→Option (Bool×Int)} {l:Ck→List Nd→Int→Option (Bool×Int)} {n:Nd} (hg:∀ k∈n.kids,n5 g k)
   (hn:∀ k∈n.kids,∀ c d:Int,0≤c→c≤2000→0≤d→d≤41→Out (n' ⟨c⟩ k d) ((Mb k∧MY k)∧c+DB k≤2000∧d+JM k≤41) (c+DB k)) {c d:Int} (h0:0≤c) (h1:c≤2000) (h2:0≤d) (h3:d≤40) :
   Out (BN g b n' l ⟨c⟩ n d) ((n.kids.length=2∧Pu n.name∧(n.name=Lq→∀ k,n.kids[1]?=some k→MY k))∧HQ n.kids c (d+1)) (c+Er n.kids):=by
 rw [BN,CT (by omega)]
 simp only [DW,E2,D5]
 generalize hl:n.kids=ks at *
 by_cases hlen:((ks.length:Nat):Int)=2
 rotate_left
 · rw [Ac hlen];exact E0 fun q=>hlen (by have:=q.1.1;omega)
 rw [Af hlen]
 match ks,hlen with
 | [x,y],_ =>
 simp only [List.getElem?_cons_zero,List.getElem?_cons_succ,Option.bind_some]
 refine Gp (hg x (by simp) c (d+1) h0 h1 (by omega) (by omega)) (fun hx=>?_) fun z hx=>E0 fun q=>hx (QH.1 q.2).1
 dsimp only
 rw [cond_true]
 have hsz:Er [x,y]=DB x+DB y:=by simp [Er]
 have hy:=fun hc=>hg y (by simp) (c+DB x) (d+1) (by omega) hc (by omega) (by omega)
 have hn':=fun hc=>hn y (by simp) (c+DB x) (d+1) (by omega) hc (by omega) (by omega)
 have hy:=hy hx.2.1
 have hn':=hn' hx.2.1
 by_cases hs:n.name=Lq
 · rw [Af hs]
   refine Gq hn' ⟨fun a=>⟨⟨rfl,.inl hs,fun _ k hk=>by cases hk;exact a.1.2⟩,QH.2 ⟨hx,a.1.1,a.2⟩⟩,fun a=>?_⟩ (fun a=>by rw [hsz];omega)
   have:=(QH.1 a.2).2
   exact ⟨⟨this.1,a.1.2.2 hs y rfl⟩,this.2⟩
 · rw [Ac hs]
   have fin:∀ hop:Pu n.name,Out ((g ⟨c+DB x⟩ y (d+1)).bind fun (a,b)=>some (a,b)) ((([x,y]:List Nd).length=2∧Pu n.name∧(n.name=Lq→∀ k,some y=some k→MY k))∧HQ [x,y] c (d+1)) (c+Er [x,y]):=fun hop =>
     Gq hy ⟨fun a=>⟨⟨rfl,hop,fun e=>absurd e hs⟩,QH.2 ⟨hx,a⟩⟩,fun a=>(QH.1 a.2).2⟩ (fun a=>by rw [hsz];omega)
   have step:∀ {s:ByteArray} {A:Option (Bool×Int)},(n.name=s→Pu n.name)→(n.name≠s→Out A ((([x,y]:List Nd).length=2∧Pu n.name∧(n.name=Lq→∀ k,some y=some k→MY k))∧HQ [x,y] c (d+1)) (c+Er [x,y])) →
       Out (AU (n.name=s) ((g ⟨c+DB x⟩ y (d+1)).bind fun (a,b)=>some (a,b)) A) ((([x,y]:List Nd).length=2∧Pu n.name∧(n.name=Lq→∀ k,some y=some k→MY k))∧HQ [x,y] c (d+1)) (c+Er [x,y]):=by
     intro s A h4 h5
     by_cases h:n.name=s
     · rw [Af h];exact fin (h4 h)
     · rw [Ac h];exact h5 h
   refine step (fun e=>by unfold Pu;simp [e]) fun e1=>?_
   refine step (fun e=>by unfold Pu;simp [e]) fun e2=>?_
   refine step (fun e=>by unfold Pu;simp [e]) fun e3=>?_
   refine step (fun e=>by unfold Pu;simp [e]) fun e4=>?_
   refine step (fun e=>by unfold Pu;simp [e]) fun e5=>?_
   refine step (fun e=>by unfold Pu;simp [e]) fun e6=>?_
   refine step (fun e=>by unfold Pu;simp [e]) fun e7=>?_
   refine step (fun e=>by unfold Pu;simp [e]) fun e8=>?_
   refine step (fun e=>by unfold Pu;simp [e]) fun e9=>?_
   refine step (fun e=>by unfold Pu;simp [e]) fun pY=>?_
   exact E0 fun q=>by
     have:=q.1.2.1
     unfold Pu at this
     simp [hs,e1,e2,e3,e4,e5,e6,e7,e8,e9,pY] at this
theorem VS {A L B T:Prop} {x:Int}:(A∧¬ x < 0∧¬ 999999999999 < x∧(T→¬ 1 < x∧L∧B)∧(¬ T→L∧B))↔A∧0≤x∧x≤999999999999∧(T→x≤1)∧L∧B:=by
 constructor
 · rintro ⟨a,b,c,d,e⟩
   by_cases t:T
   · exact ⟨a,by omega,by omega,fun _=>by have:=(d t).1;omega,(d t).2⟩
   · exact ⟨a,by omega,by omega,fun h=>absurd h t,e t⟩
 · rintro ⟨a,b,c,d,e⟩
   exact ⟨a,by omega,by omega,fun t=>⟨by have:=d t;omega,e⟩,fun _=>e⟩
theorem V1:∀ (q:Nat) (n:Nd),E1 n→3*DB n≤q→n5 (Az q) n:=by
 intro q
 induction q using Nat.strongRecOn with
 | _ q ih =>
 intro n hok hq c d h0 h1 h2 h3
 have hsz:=Cm n
 obtain ⟨q,rfl⟩:∃ k,q=k+1:=⟨q - 1,by omega⟩
 obtain ⟨hps,hkl,hks⟩:=GG hok
 have hE:∀ k∈n.kids,∀ q',q≤q'+2→q' < q+1→n5 (Az q') k:=fun k hk q' h4 h5=>ih q' h5 k (hks k hk) (by have:=G3 hk;omega)
 rw [Az,Cv]
 refine Gp (MM n h0 h1) (fun hp=>?_) fun z hp=>E0 fun a=>hp ⟨by omega,by have:=Js n;omega⟩
 dsimp only
 rw [cond_true]
 refine Out.congr (P:=JR n∧HQ n.kids (c+1) (d+1)) (t:=(c+1)+Er n.kids) ?_ ?_ (fun _=>by omega)
 rotate_left
 · rw [Ju,Js]
   unfold HQ
   have hd:=@Ng n.kids
   constructor
   · rintro ⟨a,b,e⟩
     refine ⟨⟨a,fun k hk=>(b k hk).1⟩,by omega,?_⟩
     have:=(hd (m:=(40 - d).toNat)).2 fun k hk=>by have:=(b k hk).2;omega
     omega
   · rintro ⟨⟨a,b⟩,e,f⟩
     refine ⟨a,fun k hk=>⟨b k hk,?_⟩,by omega⟩
     have:=(hd (m:=Vv n.kids)).1 (Nat.le_refl _) k hk
     omega
 have hc1:=hp.1
 have hd1:=hp.2
 rw [CT (a:=d) (b:=1) (by omega)]
 have e0:(((n.kids.length:Nat):Int)=0)=(n.kids.length=0):=propext (by omega)
 simp only [DW,ID,Fe,E2,D5,SM,TR,KQ,WA,lV _ hps,NI _ _ hps,Option.bind_some,e0]
 have hleaf:∀ {B:Prop},(B↔JR n)→(B→n.kids.length=0)→Out (some (mb B,c+1)) (JR n∧HQ n.kids (c+1) (d+1)) (c+1+Er n.kids):=fun hB hk=>(K2 hB).congr ⟨fun a=>⟨a,(aC (hk (hB.2 a)) hc1).1⟩,fun a=>a.1⟩ fun a=>(aC (d:=d+1) (hk (hB.2 a.1)) hc1).2
 have hone:∀ {B:Prop},(JR n↔B∧n.kids.length=1)→B→n.kids.length=1→Out ((n.kids[0]?).bind fun x=>(Az q ⟨c+1⟩ x (d+1)).bind fun (a,b)=>some (a,b)) (JR n∧HQ n.kids (c+1) (d+1)) (c+1+Er n.kids):=by
   intro B hB hb hl
   have hE0:=fun k hk=>hE k hk q (by omega) (by omega)
   have hx:=hB.2 ⟨hb,hl⟩
   generalize n.kids=ks at *
   match ks,hl with
   | [x],_ =>
   simp only [List.getElem?_cons_zero,Option.bind_some]
   refine Gq (hE0 x (by simp) (c+1) (d+1) (by omega) hc1 (by omega) (by omega)) ⟨fun a=>⟨hx,bV.2 a⟩,fun a=>bV.1 a.2⟩ fun _=>?_
   simp [Er]
 by_cases kE:n.kind=11
 · rw [Af kE]
   simp only [P2,SE,Uh]
   refine hleaf ?_ ?_
   · rw [sW kE];exact VS
   · intro h;exact (VS.1 h).2.2.2.2.1
 rw [Ac kE]
 by_cases kC:n.kind=12
 · rw [Af kC]
   simp only [P2,SE,Uh]
   refine hleaf ?_ ?_
   · rw [sP kC]
   · intro h;exact h.2.1
 rw [Ac kC]
 by_cases kJ:n.kind=13
 · rw [Af kJ]
   simp only [P2,SE,Uh]
   refine hleaf ?_ ?_
   · rw [qK kJ]
   · intro h;exact h.2.1
 rw [Ac kJ]
 by_cases mX:n.kind=14
 · rw [Af mX]
   simp only [P2,SE,Uh]
   refine hleaf ?_ ?_
   · rw [rP mX]
   · intro h;exact h.2.1
 rw [Ac mX]
 by_cases iS:n.kind=15
 · rw [Af iS]
   have e:=oG iS
   refine DY (fun hl=>DY (fun hb=>hone (e.trans And.comm) hb (by omega)) fun a=>(e.1 a.1).2) fun a=>?_
   have:=(e.1 a.1).1
   omega
 rw [Ac iS]
 by_cases ZB:n.kind=16
 · rw [Af ZB]
   have e:=mK ZB
   refine DY (fun hb=>?_) fun a=>(e.1 a.1).1
   obtain ⟨q,rfl⟩:∃ k,q=k+1:=⟨q - 1,by omega⟩
   rw [AK]
   refine Gq (UD (g:=Az q) (b:=AK q) (n':=AA q) (l:=Ay q) (fun k hk=>hE k hk q (by omega) (by omega)) (fun k hk c d a1 a2 a3 a4=>?_) (by omega) hc1 h2 hd1) ?_ fun _=>rfl
   · obtain ⟨q,rfl⟩:∃ k,q=k+1:=⟨q - 1,by have:=Ge hk;have:=Cm k;omega⟩
     rw [AA]
     exact Oj (hE k hk q (by omega) (by omega)) a1 a2 a3 a4
   · rw [e]
     exact ⟨fun a=>⟨⟨hb,a.1⟩,a.2⟩,fun a=>⟨a.1.2,a.2⟩⟩
 rw [Ac ZB]
 by_cases kD:n.kind=17
 · rw [Af kD]
   have e:=oT kD
   have hall:(n.name=J6∨n.name=Fp)→Out (AU (DF n ⟨0,n.name,ByteArray.empty,0,0,0,0,⟨0,[]⟩,[],0⟩) (AU (2≤((n.kids.length:Nat):Int)) ((Ay q ⟨c+1⟩ n.kids (d+1)).bind fun (a,b)=>some (a,b)) (some (false,c+1))) (some (false,c+1))) (JR n∧HQ n.kids (c+1) (d+1)) (c+1+Er n.kids):=by
     intro hn
     refine DY (fun hb=>DY (fun hl=>?_) fun a=>?_) fun a=>(e.1 a.1).2.1
     · obtain ⟨q,rfl⟩:∃ k,q=k+1:=⟨q - 1,by have:=FI n.kids;omega⟩
       rw [Ay,BW,FR hkl,List.drop_zero]
       dsimp only
       refine Gq (Ja (g:=Az q) (p:=Mb) (d:=d+1) (by omega) hc1 fun k hk c' b0 b1=>hE k hk q (by omega) (by omega) c' (d+1) b0 b1 (by omega) (by omega)) ?_ fun _=>rfl
       rw [e]
       exact ⟨fun a=>⟨⟨hn,hb,by omega⟩,a⟩,fun a=>a.2⟩
     · have:=(e.1 a.1).2.2
       omega
   by_cases hn1:n.name=J6
   · rw [Af hn1];exact hall (.inl hn1)
   · rw [Ac hn1]
     exact DY (fun hn2=>hall (.inr hn2)) fun a=>(e.1 a.1).1.resolve_left hn1
 rw [Ac kD]
 by_cases jY:n.kind=18
 · rw [Af jY]
   have e:=m9 jY
   refine DY (fun hb=>DY (fun ht=>DY (fun hl=>hone (B:=DF n ⟨0,ByteArray.empty,ByteArray.empty,0,0,0,0,n.tab,[],0⟩∧SB n.tab) (e.trans (by rw [and_assoc])) ⟨hb,ht⟩ (by omega)) fun a=>?_) fun a=>(e.1 a.1).2.1) fun a=>(e.1 a.1).1
   have:=(e.1 a.1).2.2
   omega
 rw [Ac jY]
 exact E0 fun a=>by have:=S3 a.1;omega
def Le {β:Type} (a b:Option β):Prop:=∀ y,a=some y→b=some y
section
variable {α β γ δ ρ:Type}
theorem Le.refl (a:Option β):Le a a:=fun _ h=>h
theorem HI {a a':Option α} {f g:α→Option β} (h:Le a a') (k:∀ x,Le (f x) (g x)):Le (a.bind f) (a'.bind g):=by
 intro y hy
 cases a with
 | none=>cases hy
 | some x=>rw [h x rfl];exact k x y hy
theorem Tt {b:Bool} {x x' y y':Option β} (h:Le x x') (k:Le y y'):Le (cond b x y) (cond b x' y'):=by cases b;exact k;exact h
theorem jQ {n:Nat} {x x':Option β} (h:Le x x'):Le (G8 n x) (G8 n x'):=by
 unfold G8
 split
 · exact h
 · exact Le.refl _
theorem Tx {body body':Nat→α→γ→Option (Lp γ δ ρ)} {done:γ→δ} (h:∀ i y x,Le (body i y x) (body' i y x)):∀ (l:List α) (i:Nat) (x:γ),Le (Bk body done l i x) (Bk body' done l i x)
 | [],_,_=>Le.refl _
 | a::l,i,x=>by
   rw [Bk,Bk]
   refine HI (h i a x) fun z=>?_
   cases z with
   | nx x'=>exact Tx h l (i+1) x'
   | ex d=>exact Le.refl _
   | rt v=>exact Le.refl _
end
theorem Pa:∀ q:Nat,(∀ c n d,Le (Az q c n d) (Az (q+1) c n d))∧(∀ c n d,Le (AK q c n d) (AK (q+1) c n d))∧(∀ c n d,Le (AA q c n d) (AA (q+1) c n d))∧(∀ c n d,Le (Ay q c n d) (Ay (q+1) c n d))
 | 0=>⟨(fun _ _ _ _ h=>nomatch h),(fun _ _ _ _ h=>nomatch h),(fun _ _ _ _ h=>nomatch h),(fun _ _ _ _ h=>nomatch h)⟩
 | q+1=>by
   obtain ⟨i1,i2,i3,i4⟩:=Pa q
   refine ⟨fun c n d=>?_,fun c n d=>?_,fun c n d=>?_,fun c n d=>?_⟩
   · rw [Az,Az,Cv,Cv]
     repeat' first
       | exact Le.refl _
       | exact i1 _ _ _
       | exact i2 _ _ _
       | exact i4 _ _ _
       | refine Tt ?_ ?_
       | refine HI ?_ fun ⟨_,_⟩=>?_
       | refine HI ?_ fun _=>?_
   · rw [AK,AK,BN,BN]
     repeat' first
       | exact Le.refl _
       | exact i1 _ _ _
       | exact i3 _ _ _
       | refine Tt ?_ ?_
       | refine HI ?_ fun ⟨_,_⟩=>?_
       | refine HI ?_ fun _=>?_
   · rw [AA,AA,BP,BP]
     exact HI (i1 _ _ _) fun _=>Le.refl _
   · rw [Ay,Ay,BW,BW]
     refine HI (jQ (Tx (fun i y x=>?_) _ _ _)) fun _=>Le.refl _
     rw [Cf,Cf]
     exact HI (i1 _ _ _) fun _=>Le.refl _
theorem WM {β:Type} {f:Nat→Option β} (h:∀ q,Le (f q) (f (q+1))) {q:Nat} {y:β} (hy:f q=some y):UN f=some y:=by
 refine Ka q fun m hm=>?_
 induction m with
 | zero=>obtain rfl:q=0:=by omega
         exact hy
 | succ m ih =>
   rcases Nat.lt_or_ge m q with hlt | hge
   · obtain rfl:q=m+1:=by omega
     exact hy
   · exact h m y (ih hge)
theorem VN {n:Nd} (hok:E1 n):n5 DL n:=by
 intro c d h0 h1 h2 h3
 obtain ⟨z,hz,hz2⟩:=V1 (3*DB n) n hok (Nat.le_refl _) c d h0 h1 h2 h3
 exact ⟨z,WM (fun q=>(Pa q).1 _ _ _) hz,hz2⟩
theorem W5 {n:Nd} (hok:E1 n) {c d:Int} (h0:0≤c) (h1:c≤2000) (h2:0≤d) (h3:d≤41):Out (De ⟨c⟩ n d) ((Mb n∧MY n)∧c+DB n≤2000∧d+JM n≤41) (c+DB n):=by
 obtain ⟨z,hz,hz2⟩:=Oj (g:=Az (3*DB n)) (b:=AK (3*DB n)) (a:=AA (3*DB n)) (l:=Ay (3*DB n)) (V1 (3*DB n) n hok (Nat.le_refl _)) h0 h1 h2 h3
 exact ⟨z,WM (q:=3*DB n+1) (fun q=>(Pa q).2.2.1 _ _ _) (by rw [AA];exact hz),hz2⟩
end Mo
end Go.Proofs.YtnijkdknnmgoeaaGreat
namespace Go.Proofs.YtnijkdknnmgoeaaGreat
open AI Go
namespace Mo
set_option maxRecDepth 100000
set_option maxHeartbeats 4000000
abbrev z0:Nd:=⟨0,ByteArray.empty,ByteArray.empty,0,0,0,0,⟨0,[]⟩,[],0⟩
theorem cV (n:Int):Dz n=some (mb (WX n)):=by
 rw [Dz]
 simp only [ID,D5,Pp,YO]
 rfl
def OG (n:Nd):Prop:=n.kind=5∧(0≤n.n∧n.n≤1000000)∧n.kids.length=0∧WX n.fr∧(n.fr < n.to∧n.to≤36525)∧WX n.known∧DF n ⟨0,ByteArray.empty,ByteArray.empty,n.n,n.fr,n.to,n.known,⟨0,[]⟩,[],0⟩
def G1 (n:Nd):Prop:=DF n z0∧(n.kind=7→0 < n.kids.length∧∀ k∈n.kids,Mb k∧MY k)∧(n.kind≠7→n.kids.length=1∧∀ k∈n.kids,Mb k)
theorem S7 {n:Nd} (h:n.kids.length=0):DB n=1∧JM n=1:=by
 have:=List.eq_nil_of_length_eq_zero h
 rw [Cm,Js,this]
 exact ⟨rfl,rfl⟩
theorem iT {n:Nd} (hok:E1 n) {c d:Int} (h0:0≤c) (h1:c≤2000):Out (CX ⟨c⟩ n d) (OG n∧c+DB n≤2000∧d+JM n≤41) (c+DB n):=by
 obtain ⟨hps,hkl,hks⟩:=GG hok
 have hsz:=Cm n
 have hdp:=Js n
 rw [CX]
 refine Gp (MM n h0 h1) (fun hp=>?_) fun z hp=>E0 fun a=>hp ⟨by omega,by omega⟩
 dsimp only
 rw [cond_true]
 simp only [DW,ID,Fe,D5,cV,NI _ _ hps,Option.bind_some,P2,SE]
 have key:(n.kind=5∧¬ n.n < 0∧¬ 1000000 < n.n∧¬ (0:Int) < ((n.kids.length:Nat):Int)∧WX n.fr∧¬ n.to≤n.fr∧¬ 36525 < n.to∧WX n.known∧DF n ⟨0,ByteArray.empty,ByteArray.empty,n.n,n.fr,n.to,n.known,⟨0,[]⟩,[],0⟩)↔OG n:=by
   unfold OG
   constructor
   · rintro ⟨a,b,c',e,f,g,h,i,j⟩;exact ⟨a,⟨by omega,by omega⟩,by omega,f,⟨by omega,by omega⟩,i,j⟩
   · rintro ⟨a,b,c',f,g,i,j⟩;exact ⟨a,by omega,by omega,by omega,f,by omega,by omega,i,j⟩
 refine (K2 key).congr ⟨fun a=>⟨a,?_⟩,fun a=>a.1⟩ fun a=>?_
 · have:=S7 a.2.2.1;omega
 · have:=S7 a.1.2.2.1;omega
theorem W1 {n:Nd} (hok:E1 n) {c d:Int} (h0:0≤c) (h1:c≤2000) (h2:0≤d):Out (Ca ⟨c⟩ n d) (G1 n∧c+DB n≤2000∧d+JM n≤41) (c+DB n):=by
 obtain ⟨hps,hkl,hks⟩:=GG hok
 have hsz:=Cm n
 have hdp:=Js n
 have hd:=@Ng n.kids
 rw [Ca]
 refine Gp (MM n h0 h1) (fun hp=>?_) fun z hp=>E0 fun a=>hp ⟨by omega,by omega⟩
 dsimp only
 rw [cond_true,CT (a:=d) (b:=1) (by omega)]
 simp only [DW,Fe,D5,NI _ _ hps,Option.bind_some]
 have hc1:=hp.1
 have hd1:=hp.2
 have Lf:(∀ k∈n.kids,d+1+JM k≤41)↔d+JM n≤41:=by
   constructor
   · intro h
     have:=(hd (m:=(40 - d).toNat)).2 fun k hk=>by have:=h k hk;omega
     omega
   · intro h k hk
     have:=(hd (m:=Vv n.kids)).1 (Nat.le_refl _) k hk
     omega
 refine DY (fun hb=>?_) fun a=>a.1.1
 by_cases k7:n.kind=7
 · rw [Af k7]
   refine DY (fun hl=>?_) fun a=>by have:=(a.1.2.1 k7).1;omega
   rw [CG,FR hkl,List.drop_zero]
   dsimp only
   refine Gq (Ja (g:=De) (p:=fun k=>Mb k∧MY k) (d:=d+1) (by omega) hc1 fun k hk c' b0 b1=>W5 (hks k hk) b0 b1 (by omega) (by omega)) ⟨fun a=>⟨⟨hb,fun _=>⟨by omega,fun k hk=>(a.1 k hk).1⟩,fun h=>absurd k7 h⟩,by omega,Lf.1 fun k hk=>(a.1 k hk).2⟩,fun a=>⟨fun k hk=>⟨(a.1.2.1 k7).2 k hk,Lf.2 a.2.2 k hk⟩,by omega⟩⟩ fun _=>by omega
 · rw [Ac k7]
   refine DY (fun hl=>?_) fun a=>by have:=(a.1.2.2 k7).1;omega
   have hl1:n.kids.length=1:=by omega
   unfold G1
   generalize n.kids=ks at *
   match ks,hl1 with
   | [x],_ =>
   simp only [List.getElem?_cons_zero,Option.bind_some]
   have e1:Er [x]=DB x:=by simp [Er]
   refine Gq (VN (hks x (by simp)) (c+1) (d+1) (by omega) hc1 (by omega) (by omega)) ⟨fun a=>⟨⟨hb,fun h=>absurd h k7,fun _=>⟨rfl,fun k hk=>by rw [List.mem_singleton.1 hk];exact a.1⟩⟩,by omega,Lf.1 fun k hk=>by rw [List.mem_singleton.1 hk];exact a.2.2⟩,fun a=>⟨(a.1.2.2 k7).2 x (by simp),by omega,Lf.2 a.2.2 x (by simp)⟩⟩ fun _=>by omega
def C3 (k:Int):List Nd→Nat
 | []=>0
 | a::l=>(if a.kind=k then 1 else 0)+C3 k l
theorem Ms (k:Int) (l:List Nd):C3 k l≤l.length:=by
 induction l with
 | nil=>simp [C3]
 | cons a l ih=>simp only [C3,List.length_cons];split<;>omega
def kinds (l:List Nd):Prop:=∀ k∈l,6≤k.kind∧k.kind≤8
theorem NL {y:Int}:∀ {l:List Nd} {i:Nat} {a b c:Int},0≤a→0≤b→0≤c→a+l.length≤9223372036854775807→b+l.length≤9223372036854775807→c+l.length≤9223372036854775807 →
   Bk (fun i z x=>Cj y i z x.1 x.2.1 x.2.2) (fun x=>(x.1,x.2.1,x.2.2)) l i (a,b,c)=some (AU (kinds l) (.inl (a+C3 6 l,b+C3 7 l,c+C3 8 l)) (.inr (false,y)))
 | [],i,a,b,c,_,_,_,_,_,_=>by rw [Af (show kinds [] from fun k hk=>(by cases hk))];simp [Bk,C3]
 | z::l,i,a,b,c,h1,h2,h3,h4,h5,h6=>by
   simp only [List.length_cons] at h4 h5 h6
   rw [Bk,Cj]
   simp only [Fe,DW,D5]
   have hk:kinds (z::l)↔(6≤z.kind∧z.kind≤8)∧kinds l:=by unfold kinds;simp
   have go:∀ {a' b' c':Int},0≤a'→0≤b'→0≤c'→a'≤a+1→b'≤b+1→c'≤c+1→6≤z.kind∧z.kind≤8→a'+C3 6 l=a+C3 6 (z::l)→b'+C3 7 l=b+C3 7 (z::l)→c'+C3 8 l=c+C3 8 (z::l) →
       (some (Lp.nx (a',b',c'))).bind (HG (Bk (fun i z x=>Cj y i z x.1 x.2.1 x.2.2) (fun x=>(x.1,x.2.1,x.2.2)) l (i+1)))=some (AU (kinds (z::l)) (.inl (a+C3 6 (z::l),b+C3 7 (z::l),c+C3 8 (z::l))) (.inr (false,y))):=by
     intro a' b' c' g1 g2 g3 g4 g5 g6 gk e1 e2 e3
     show Bk _ _ l (i+1) (a',b',c')=_
     rw [NL g1 g2 g3 (by omega) (by omega) (by omega),e1,e2,e3]
     by_cases hl:kinds l
     · rw [Af hl,Af (hk.2 ⟨gk,hl⟩)]
     · rw [Ac hl,Ac fun q=>hl (hk.1 q).2]
   by_cases k6:z.kind < 6
   · rw [Af k6,Ac fun q=>by have:=(hk.1 q).1;omega];rfl
   rw [Ac k6]
   by_cases k8:8 < z.kind
   · rw [Af k8,Ac fun q=>by have:=(hk.1 q).1;omega];rfl
   rw [Ac k8]
   by_cases e6:z.kind=6
   · rw [Af e6,CT (by omega)]
     exact go (by omega) h2 h3 (by omega) (by omega) (by omega) (by omega) (by simp [C3,e6];omega) (by simp [C3,e6]) (by simp [C3,e6])
   rw [Ac e6]
   by_cases e7:z.kind=7
   · rw [Af e7,CT (by omega)]
     exact go h1 (by omega) h3 (by omega) (by omega) (by omega) (by omega) (by simp [C3,e7]) (by simp [C3,e7];omega) (by simp [C3,e7])
   rw [Ac e7]
   have e8:z.kind=8:=by omega
   rw [Af e8,CT (by omega)]
   exact go h1 h2 (by omega) (by omega) (by omega) (by omega) (by omega) (by simp [C3,e8]) (by simp [C3,e8]) (by simp [C3,e8];omega)
def jD (n:Nd):Prop:=IH n.n∧I1 n.name∧DF n ⟨0,n.name,ByteArray.empty,n.n,0,0,0,⟨0,[]⟩,[],0⟩∧∃ h cs,n.kids=h::cs∧kinds cs∧C3 8 cs=1∧C3 7 cs≤1∧OG h∧∀ k∈cs,G1 k
def Gm (n:Nd):Prop :=
 (n.kind=2∧I1 n.name∧MF n.unit∧n.kids.length=0∧DF n ⟨0,n.name,n.unit,0,0,0,0,⟨0,[]⟩,[],0⟩) ∨
 (n.kind=3∧I1 n.name∧MF n.unit∧1≤n.n∧n.n≤4∧n.kids.length=0∧DF n ⟨0,n.name,n.unit,n.n,0,0,0,⟨0,[]⟩,[],0⟩) ∨
 (n.kind=4∧jD n)
theorem zD {n:Nd} (h:n.kind=2):Gm n↔I1 n.name∧MF n.unit∧n.kids.length=0∧DF n ⟨0,n.name,n.unit,0,0,0,0,⟨0,[]⟩,[],0⟩:=by unfold Gm;simp [h]
theorem sG {n:Nd} (h:n.kind=3):Gm n↔I1 n.name∧MF n.unit∧1≤n.n∧n.n≤4∧n.kids.length=0∧DF n ⟨0,n.name,n.unit,n.n,0,0,0,⟨0,[]⟩,[],0⟩:=by unfold Gm;simp [h]
theorem oU {n:Nd} (h:n.kind=4):Gm n↔jD n:=by unfold Gm;simp [h]
theorem Tj {n:Nd} (h:Gm n):n.kind=2∨n.kind=3∨n.kind=4:=by
 unfold Gm at h
 rcases h with h | h | h
 all_goals
   have:=h.1
   simp [this]
theorem hR {n:Nd} (hok:E1 n) {c d:Int} (h0:0≤c) (h1:c≤2000) (h2:0≤d):Out (Cw ⟨c⟩ n d) (Gm n∧c+DB n≤2000∧d+JM n≤41) (c+DB n):=by
 obtain ⟨hps,hkl,hks⟩:=GG hok
 have hsz:=Cm n
 have hdp:=Js n
 have hd:=@Ng n.kids
 rw [Cw]
 refine Gp (MM n h0 h1) (fun hp=>?_) fun z hp=>E0 fun a=>hp ⟨by omega,by omega⟩
 dsimp only
 rw [cond_true,CT (a:=d) (b:=1) (by omega)]
 have e0:(((n.kids.length:Nat):Int)=0)=(n.kids.length=0):=propext (by omega)
 simp only [DW,ID,Fe,D5,SM,TR,KQ,NI _ _ hps,Option.bind_some,e0]
 have hc1:=hp.1
 have hd1:=hp.2
 have hleaf:∀ {B:Prop},(B↔Gm n)→(B→n.kids.length=0)→Out (some (mb B,c+1)) (Gm n∧c+DB n≤2000∧d+JM n≤41) (c+DB n):=fun hB hk=>(K2 hB).congr ⟨fun a=>⟨a,by have:=S7 (hk (hB.2 a));omega⟩,fun a=>a.1⟩ fun a=>by have:=S7 (hk (hB.2 a.1));omega
 by_cases k2:n.kind=2
 · rw [Af k2]
   simp only [P2,SE,Uh]
   refine hleaf ?_ ?_
   · rw [zD k2]
   · intro h;exact h.2.2.1
 rw [Ac k2]
 by_cases k3:n.kind=3
 · rw [Af k3]
   simp only [P2,SE,Uh]
   refine hleaf ?_ ?_
   · rw [sG k3]
   · intro h;exact h.2.2.2.2.1
 rw [Ac k3]
 by_cases k4:n.kind=4
 rotate_left
 · rw [Ac k4];exact E0 fun a=>by have:=Tj a.1;omega
 rw [Af k4,oU k4]
 refine DY (fun hr=>DY (fun hn=>DY (fun hb=>?_) fun a=>a.1.2.2.1) fun a=>a.1.2.1) fun a=>a.1.1
 refine QE (fun hl0=>?_) fun a h=>by obtain ⟨h',cs,hk,_⟩:=a.1.2.2.2;rw [hk] at h;simp at h
 have Lf:(∀ k∈n.kids,d+1+JM k≤41)↔d+JM n≤41:=by
   constructor
   · intro h
     have:=(hd (m:=(40 - d).toNat)).2 fun k hk=>by have:=h k hk;omega
     omega
   · intro h k hk
     have:=(hd (m:=Vv n.kids)).1 (Nat.le_refl _) k hk
     omega
 unfold jD
 generalize n.kids=ks at *
 match ks,hl0 with
 | x::l,_ =>
 have hsub:FZ (x::l) 1 (((x::l).length:Nat):Int)=some l:=by
   unfold FZ
   rw [if_pos (by simp only [List.length_cons];omega)]
   simp
 rw [hsub]
 simp only [Option.bind_some,List.length_cons] at hkl ⊢
 have e2:∀ {A:Prop},(∃ h cs,x::l=h::cs∧kinds cs∧C3 8 cs=1∧C3 7 cs≤1∧OG h∧∀ k∈cs,G1 k)↔(kinds l∧C3 8 l=1∧C3 7 l≤1∧OG x∧∀ k∈l,G1 k):=by
   intro _
   constructor
   · rintro ⟨h,cs,e,r⟩;cases e;exact r
   · intro r;exact ⟨x,l,rfl,r⟩
 rw [FR (by omega),List.drop_zero,NL (by omega) (by omega) (by omega) (by omega) (by omega) (by omega)]
 simp only [Option.bind_some]
 by_cases hK:kinds l
 rotate_left
 · rw [Ac hK]
   show Out (some (false,c+1)) _ _
   exact E0 fun a=>hK ((e2 (A:=True)).1 a.1.2.2.2).1
 rw [Af hK]
 show Out (AU ((0:Int)+C3 8 l=1) (AU (1 < (0:Int)+C3 7 l) (some (false,c+1)) _) (some (false,c+1))) _ _
 refine DY (fun h8=>QE (fun h7=>?_) fun a=>?_) fun a=>?_
 rotate_left
 · have:=((e2 (A:=True)).1 a.1.2.2.2).2.2.1;omega
 · have:=((e2 (A:=True)).1 a.1.2.2.2).2.1;omega
 simp only [List.getElem?_cons_zero,Option.bind_some]
 have hdx:=fun h=>Lf.2 h x (by simp)
 have hsl:Er (x::l)=DB x+Er l:=by simp [Er]
 refine Gp (iT (hks x (by simp)) (c:=c+1) (d:=d+1) (by omega) hc1) (fun hx=>?_) fun z hx=>E0 fun a=>hx ⟨((e2 (A:=True)).1 a.1.2.2.2).2.2.2.1,by omega,hdx a.2.2⟩
 dsimp only
 rw [cond_true,CF,FR (by omega),List.drop_zero]
 dsimp only
 refine Gq (Ja (g:=Ca) (p:=G1) (d:=d+1) (by omega) hx.2.1 fun k hk c' b0 b1=>W1 (hks k (by simp [hk])) b0 b1 (by omega)) ?_ fun _=>by omega
 constructor
 · rintro ⟨a,b⟩
   refine ⟨⟨hr,hn,hb,(e2 (A:=True)).2 ⟨hK,by omega,by omega,hx.1,fun k hk=>(a k hk).1⟩⟩,by omega,Lf.1 fun k hk=>?_⟩
   rcases List.mem_cons.1 hk with rfl | hk
   · exact hx.2.2
   · exact (a k hk).2
 · rintro ⟨a,b,e⟩
   exact ⟨fun k hk=>⟨((e2 (A:=True)).1 a.2.2.2).2.2.2.2 k hk,Lf.2 e k (by simp [hk])⟩,by omega⟩
def Re (n:Nd):Prop:=((n.kind=1∧DF n z0∧∀ k∈n.kids,Gm k)∨(n.kind≠1∧Mb n))∧DB n≤2000∧JM n≤40
theorem SZ {n:Nd} (hok:E1 n):DC n=some (mb (Re n)):=by
 obtain ⟨hps,hkl,hks⟩:=GG hok
 have hsz:=Cm n
 have hdp:=Js n
 have hd:=@Ng n.kids
 rw [DC,DW,D5]
 have fin:∀ {r:Option (Bool×Int)} {P:Prop} {t:Int},Out r P t→(P↔Re n)→(r.bind fun (a,_)=>some a)=some (mb (Re n)):=by
   rintro r P t ⟨z,rfl,_⟩ h
   rw [E4 h];rfl
 by_cases k1:n.kind=1
 rotate_left
 · rw [Ac k1]
   refine fin (VN hok 0 1 (by omega) (by omega) (by omega) (by omega)) ?_
   unfold Re
   constructor
   · rintro ⟨a,b,c⟩;exact ⟨.inr ⟨k1,a⟩,by omega,by omega⟩
   · rintro ⟨a | a,b,c⟩
     · exact absurd a.1 k1
     · exact ⟨a.2,by omega,by omega⟩
 rw [Af k1]
 obtain ⟨z,hz,hz2⟩:=MM n (c:=0) (d:=1) (by omega) (by omega)
 rw [hz]
 simp only [Option.bind_some,NI _ _ hps,D5]
 by_cases h1:(0:Int)+1≤2000∧(1:Int)≤40
 rotate_left
 · exact absurd ⟨by omega,by omega⟩ h1
 rw [Af h1,hz2 h1]
 by_cases hb:DF n z0
 rotate_left
 · rw [Ac hb]
   refine N9 ?_
   rintro ⟨a | a,_⟩
   · exact hb a.2.1
   · exact a.1 k1
 rw [Af hb,CS,FR hkl,List.drop_zero]
 dsimp only
 refine fin (Ja (g:=Cw) (p:=Gm) (d:=2) (by omega) (by omega) fun k hk c' b0 b1=>hR (hks k hk) b0 b1 (by omega)) ?_
 unfold Re
 constructor
 · rintro ⟨a,b⟩
   refine ⟨.inl ⟨k1,hb,fun k hk=>(a k hk).1⟩,by omega,?_⟩
   have:=(hd (m:=39)).2 fun k hk=>by have:=(a k hk).2;omega
   omega
 · rintro ⟨a | a,b,e⟩
   · refine ⟨fun k hk=>⟨a.2.2 k hk,?_⟩,by omega⟩
     have:=(hd (m:=Vv n.kids)).1 (Nat.le_refl _) k hk
     omega
   · exact absurd k1 a.1
end Mo
end Go.Proofs.YtnijkdknnmgoeaaGreat
namespace Go.Proofs.YtnijkdknnmgoeaaGreat
open AI Go
namespace Mo
set_option maxRecDepth 100000
set_option maxHeartbeats 4000000
theorem NC {β:Type} {p:Prop} {x y:β}:some (AU p x y)=AU p (some x) (some y):=by
 by_cases h:p
 · rw [Af h,Af h]
 · rw [Ac h,Ac h]
abbrev eS:ByteArray:=ByteArray.empty
def XM (s:ByteArray):Prop:=s≠eS∧s≠AO∧s≠Bm∧s≠Gi
theorem Ph (s:ByteArray):DX s=some (mb (XM s)):=by
 rw [DX]
 simp only [E2,D5,qB,mE]
 rfl
theorem WJ {us:List ByteArray} {a:ByteArray} (ha:us[0]?=some a) (hl:us.length≤9223372036854775807):B0 us.length us=some (mb (∀ u∈us,u=a)):=by
 rw [B0,KD]
 have h0:0 < us.length:=(List.getElem?_eq_some_iff.1 ha).1
 refine jM (fun i _=>∀ j u,j < i→us[j]?=some u→u=a) hl (fun j u hj=>by omega) (fun i x hi hI=>?_) (fun x hI=>?_)
 · have hx:us[i]?=some us[i]:=List.getElem?_eq_getElem hi
   rw [E9,hx]
   have hk:Ke us.length ((0:Nat):Int)=some 0:=by unfold Ke;rw [if_pos (by omega)];rfl
   rw [hk]
   simp only [Option.bind_some,ha,E2,D5]
   by_cases h:us[i]=a
   · rw [Af h]
     refine ⟨_,rfl,fun j u hj hu=>?_⟩
     rcases Nat.lt_or_ge j i with hlt | hge
     · exact hI j u hlt hu
     · obtain rfl:j=i:=by omega
       rw [hx] at hu;cases hu;exact h
   · rw [Ac h]
     refine ⟨_,rfl,?_⟩
     exact ⟨_,rfl,(SF fun q=>h (q _ (List.getElem_mem hi))).symm⟩
 · refine ⟨_,rfl,(BZ.2 fun u hu=>?_).symm⟩
   obtain ⟨j,hj⟩:=List.getElem?_of_mem hu
   exact hI j u (List.getElem?_eq_some_iff.1 hj).1 hj
noncomputable def VU (op a b:ByteArray) (E:Prop):ByteArray :=
 AU (op=b7) (AU (a=AO) (AU E AO eS) eS) (AU (op=Lm) (AU (a=AO) (AU E AO eS) eS) (AU (op=LF) (AU E AO eS) (AU (op=Ls) (AU E AO eS)
   (AU (op=UT) (AU E (AU (a=AO) eS AO) eS) (AU (op=Ll) (AU E (AU (a=AO) eS AO) eS) (AU (op=NY) (AU E (AU (a=AO) eS a) eS) (AU (op=UW) (AU E (AU (a=AO) eS a) eS)
     (AU (op=Ul) (AU (a=Bm) (AU (b=AO) eS b) (AU (b=Bm) (AU (a=AO) eS a) eS)) (AU (op=Lq) (AU (a=AO) eS a) (AU (op=bT) (AU (a=Gi) (AU (XM b) b eS) eS) eS))))))))))
theorem jA {op a b:ByteArray} {us:List ByteArray} (ha:us[0]?=some a) (hb:us[us.length - 1]?=some b) (hl:us.length≤9223372036854775807):Cl op us.length us=some (VU op a b (∀ u∈us,u=a)):=by
 have h0:0 < us.length:=(List.getElem?_eq_some_iff.1 ha).1
 have hk:Ke us.length ((0:Nat):Int)=some 0:=by unfold Ke;rw [if_pos (by omega)];rfl
 have hk2:Ke us.length (SI ((us.length:Nat):Int) 1)=some (us.length - 1):=by
   rw [Mj (by omega)]
   unfold Ke
   rw [if_pos (by omega)]
   congr 1
   omega
 rw [Cl,hk,hk2]
 simp only [Option.bind_some,ha,hb,WJ ha hl,Ph,E2,D5]
 unfold VU
 simp only [NC]
noncomputable def Jt (op:ByteArray) (us:List ByteArray):ByteArray:=VU op (us.headD eS) (us.getLastD eS) (∀ u∈us,u=us.headD eS)
theorem ZE {op:ByteArray} {us:List ByteArray} (h0:us≠[]) (hl:us.length≤9223372036854775807):Cl op us.length us=some (Jt op us):=by
 cases us with
 | nil=>exact absurd rfl h0
 | cons a l =>
   refine jA (a:=a) (b:=(a::l).getLastD eS) rfl ?_ hl
   rw [List.getLastD_cons,← List.getLast?_eq_getElem?,List.getLast?_cons,List.getLastD_eq_getLast?]
def Lc (e at_:Int) (ds:List Dg):List Dg:=if ds.length < 20 then ds++[⟨e,at_⟩] else ds
theorem QT (e at_:Int) (ds:List Dg):Av e at_ ds=some ((),Lc e at_ ds):=by
 rw [Av,Fe,D5]
 unfold Lc
 by_cases h:ds.length < 20
 · rw [Af (by omega),if_pos h,EA (by omega)]
 · rw [Ac (by omega),if_neg h]
noncomputable def Ej (s:Sc) (n:Nd) (us:List ByteArray):ByteArray :=
 AU (n.kind=11) n.unit (AU (n.kind=12) ((s.facts.get n.name).getD eS) (AU (n.kind=13) ((s.lines.get ((s.Aa.get n.n).getD eS)).getD eS) (AU (n.kind=14) Bm
   (AU (n.kind=15) (Jt Lm us) (AU (n.kind=16) (Jt n.name us) (AU (n.kind=17) (Jt NY us) (AU (n.kind=18) (AU (XM (us.headD eS)) (us.headD eS) eS) eS)))))))
noncomputable def OD (n:Nd):Int:=AU (n.kind=12) 91 (AU (n.kind=13) 91 11)
noncomputable def ZF (s:Sc) (n:Nd) (r:List ByteArray×List Dg):ByteArray×List Dg :=
 AU (∀ u∈r.1,u≠eS) (AU (Ej s n r.1=eS) (Ej s n r.1,Lc (OD n) n.att r.2) (Ej s n r.1,r.2)) (eS,r.2)
mutual
noncomputable def CZ (s:Sc):Nd→List Dg→ByteArray×List Dg
 | ⟨kind,name,unit,n,fr,to,known,tab,kids,att⟩,ds=>ZF s ⟨kind,name,unit,n,fr,to,known,tab,kids,att⟩ (C7 s kids ds)
noncomputable def C7 (s:Sc):List Nd→List Dg→List ByteArray×List Dg
 | [],ds=>([],ds)
 | k::ks,ds=>((CZ s k ds).1::(C7 s ks (CZ s k ds).2).1,(C7 s ks (CZ s k ds).2).2)
end
theorem OY (s:Sc) (n:Nd) (ds:List Dg):CZ s n ds=ZF s n (C7 s n.kids ds):=by cases n;rw [CZ]
theorem L3 (s:Sc):∀ (l:List Nd) (ds:List Dg),(C7 s l ds).1.length=l.length
 | [],_=>by rw [C7];rfl
 | k::l,ds=>by rw [C7];simp [L3 s l]
theorem Ov {s:Sc} {g:Sc→Nd→List Dg→Option (ByteArray×List Dg)}:∀ {l:List Nd} {done:List ByteArray} {w:Prop} {ds:List Dg},(∀ k∈l,∀ ds,g s k ds=some (CZ s k ds)) →
   Bk (fun i y x=>Ci g s i y x.1 x.2.1 x.2.2) (fun x=>(x.1,x.2.1,x.2.2)) l done.length (mb w,done++List.replicate l.length eS,ds)=some (.inl (mb (w∧∀ u∈(C7 s l ds).1,u≠eS),done++(C7 s l ds).1,(C7 s l ds).2))
 | [],done,w,ds,_=>by
   rw [Bk,C7]
   simp
 | k::l,done,w,ds,h=>by
   rw [Bk,Ci,h k (by simp)]
   have hlt:done.length < (done++List.replicate (k::l).length eS).length:=by simp
   have hx:(done++List.replicate (k::l).length eS)[done.length]?=some eS:=by
     rw [List.getElem?_append_right (Nat.le_refl _)];simp
   have hset:(done++List.replicate (k::l).length eS).set done.length (CZ s k ds).1=(done++[(CZ s k ds).1])++List.replicate l.length eS:=by
     rw [List.set_append_right _ _ (Nat.le_refl _)]
     simp [List.replicate_succ]
   have hg:((done++[(CZ s k ds).1])++List.replicate l.length eS)[done.length]?=some (CZ s k ds).1:=by
     rw [List.append_assoc,List.getElem?_append_right (Nat.le_refl _)];simp
   have ih:=fun w'=>Ov (s:=s) (g:=g) (l:=l) (done:=done++[(CZ s k ds).1]) (w:=w') (ds:=(CZ s k ds).2) fun k' hk'=>h k' (by simp [hk'])
   simp only [List.length_append,List.length_cons,List.length_nil,Nat.zero_add] at ih
   simp only [Option.bind_some,hx,hset,hg,E2,D5]
   rw [C7]
   have fin:∀ w',(w'↔w∧(CZ s k ds).1≠eS)→(HG (Bk (fun i y x=>Ci g s i y x.1 x.2.1 x.2.2) (fun x=>(x.1,x.2.1,x.2.2)) l (done.length+1)) (.nx (mb w',done++[(CZ s k ds).1]++List.replicate l.length eS,(CZ s k ds).2)))=some (.inl (mb (w∧∀ u∈(CZ s k ds).1::(C7 s l (CZ s k ds).2).1,u≠eS),done++((CZ s k ds).1::(C7 s l (CZ s k ds).2).1),(C7 s l (CZ s k ds).2).2)):=by
     intro w' hw
     show Bk _ _ l (done.length+1) _=_
     rw [ih w']
     congr 2
     refine Prod.ext (E4 ?_) (Prod.ext (by simp) rfl)
     simp only [List.mem_cons,forall_eq_or_imp,hw]
     exact and_assoc
   by_cases hw:w
   · rw [Af hw]
     by_cases hu:(CZ s k ds).1=eS
     · rw [Af hu,wU]
       exact fin False ⟨fun q=>q.elim,fun q=>q.2 hu⟩
     · rw [Ac hu,s8]
       exact fin True ⟨fun _=>⟨hw,hu⟩,fun _=>trivial⟩
   · rw [Ac hw,wU]
     exact fin False ⟨fun q=>q.elim,fun q=>hw q.1⟩
section
variable {s:Sc} {n:Nd} {us:List ByteArray}
theorem xQ (h:n.kind=11):Ej s n us=n.unit:=by unfold Ej;rw [Af h]
theorem yE (h:n.kind=12):Ej s n us=(s.facts.get n.name).getD eS:=by unfold Ej;rw [Ac (by omega),Af h]
theorem yT (h:n.kind=13):Ej s n us=(s.lines.get ((s.Aa.get n.n).getD eS)).getD eS:=by unfold Ej;rw [Ac (by omega),Ac (by omega),Af h]
theorem xN (h:n.kind=14):Ej s n us=Bm:=by unfold Ej;rw [Ac (by omega),Ac (by omega),Ac (by omega),Af h]
theorem xG (h:n.kind=15):Ej s n us=Jt Lm us:=by unfold Ej;rw [Ac (by omega),Ac (by omega),Ac (by omega),Ac (by omega),Af h]
theorem u16 (h:n.kind=16):Ej s n us=Jt n.name us:=by unfold Ej;rw [Ac (by omega),Ac (by omega),Ac (by omega),Ac (by omega),Ac (by omega),Af h]
theorem yM (h:n.kind=17):Ej s n us=Jt NY us:=by unfold Ej;rw [Ac (by omega),Ac (by omega),Ac (by omega),Ac (by omega),Ac (by omega),Ac (by omega),Af h]
theorem yK (h:n.kind=18):Ej s n us=AU (XM (us.headD eS)) (us.headD eS) eS:=by unfold Ej;rw [Ac (by omega),Ac (by omega),Ac (by omega),Ac (by omega),Ac (by omega),Ac (by omega),Ac (by omega),Af h]
theorem lE (h:n.kind=12∨n.kind=13):OD n=91:=by
 unfold OD
 by_cases e:n.kind=12
 · rw [Af e]
 · rw [Ac e,Af (h.resolve_left e)]
theorem UJ (h1:n.kind≠12) (h2:n.kind≠13):OD n=11:=by unfold OD;rw [Ac h1,Ac h2]
end
theorem kR {n:Nd} (h:JR n) (hk:n.kind=15∨n.kind=16∨n.kind=17∨n.kind=18):0 < n.kids.length:=by
 rcases hk with e | e | e | e
 · have:=((oG e).1 h).1;omega
 · have:=((mK e).1 h).2.1;omega
 · have:=((oT e).1 h).2.2;omega
 · have:=((m9 e).1 h).2.2;omega
theorem Zi:∀ (q:Nat) (s:Sc) (n:Nd) (ds:List Dg),Mb n→DB n≤q→DB n≤2000→BB q s n ds=some (CZ s n ds):=by
 intro q
 induction q with
 | zero=>intro s n ds _ h;have:=Cm n;omega
 | succ q ih =>
 intro s n ds he hq h2
 obtain ⟨hQ,hks⟩:=(Ju n).1 he
 have hsz:=Cm n
 have hkl:=FI n.kids
 rw [BB,DJ,OY]
 have hl:=L3 s n.kids ds
 have hf:=Ov (s:=s) (g:=BB q) (l:=n.kids) (done:=[]) (w:=True) (ds:=ds) fun k hk ds'=>ih s k ds' (hks k hk) (by have:=G3 hk;omega) (by have:=G3 hk;omega)
 simp only [List.nil_append,List.length_nil,true_and,← s8] at hf
 unfold ZO
 rw [if_pos (by omega),FR (by omega),List.drop_zero,hf]
 show cond (mb (∀ u∈(C7 s n.kids ds).1,u≠eS)) _ _=_
 unfold ZF
 generalize hr:C7 s n.kids ds=r at *
 obtain ⟨us,ds2⟩:=r
 dsimp only at hl ⊢
 rw [← hl]
 simp only [D5,DW,E2,QT,Ph]
 rw [NC]
 congr 1
 rw [NC]
 have hne:=fun hk=>kR hQ hk
 have hul:us.length≤9223372036854775807:=by omega
 have hop:∀ op,0 < n.kids.length→Cl op us.length us=some (Jt op us):=fun op h=>ZE (fun e=>by rw [e] at hl;simp at hl;omega) hul
 rcases S3 hQ with k | k | k | k | k | k | k | k
 · rw [Af k,xQ k,UJ (by omega) (by omega)];rfl
 · rw [Ac (by omega),Af k,yE k,lE (.inl k)];rfl
 · rw [Ac (by omega),Ac (by omega),Af k,yT k,lE (.inr k)];rfl
 · rw [Ac (by omega),Ac (by omega),Ac (by omega),Af k,xN k,UJ (by omega) (by omega)];rfl
 · rw [Ac (by omega),Ac (by omega),Ac (by omega),Ac (by omega),Af k,xG k,UJ (by omega) (by omega),hop Lm (hne (by omega))];rfl
 · rw [Ac (by omega),Ac (by omega),Ac (by omega),Ac (by omega),Ac (by omega),Af k,u16 k,UJ (by omega) (by omega),hop n.name (hne (by omega))];rfl
 · rw [Ac (by omega),Ac (by omega),Ac (by omega),Ac (by omega),Ac (by omega),Ac (by omega),Af k,yM k,UJ (by omega) (by omega),hop NY (hne (by omega))];rfl
 · rw [Ac (by omega),Ac (by omega),Ac (by omega),Ac (by omega),Ac (by omega),Ac (by omega),Ac (by omega),Af k,yK k,UJ (by omega) (by omega)]
   have h0:=hne (by omega)
   cases us with
   | nil=>simp at hl;omega
   | cons a l =>
   have hk0:Ke (a::l).length ((0:Nat):Int)=some 0:=by unfold Ke;rw [if_pos (by simp only [List.length_cons];omega)];rfl
   rw [hk0]
   simp only [Option.bind_some,List.getElem?_cons_zero,List.headD_cons,D5]
   by_cases hc:XM a
   · rw [Af hc,Af hc]
   · rw [Ac hc,Ac hc,Af trivial,Af rfl]
theorem Y2 {s:Sc} {n:Nd} {ds:List Dg} (he:Mb n) (h:DB n≤2000):DI s n ds=some (CZ s n ds) :=
 Ka (DB n) fun q hq=>Zi q s n ds he hq h
end Mo
end Go.Proofs.YtnijkdknnmgoeaaGreat
namespace Go.Proofs.YtnijkdknnmgoeaaGreat
open AI Go
namespace Mo
set_option maxRecDepth 100000
set_option maxHeartbeats 4000000
noncomputable def fU (k:Int):List Nd→ByteArray→Option ByteArray
 | [],_=>none
 | a::l,x=>AU (a.kind=k∧a.name=x) (some a.unit) (fU k l x)
noncomputable def fA:List Nd→Int→Option ByteArray
 | [],_=>none
 | a::l,z=>AU (a.kind=4∧a.n=z) (some a.name) (fA l z)
abbrev X5:Type:=Mm ByteArray ByteArray×Mm ByteArray ByteArray×Mm Int ByteArray
noncomputable def IC (a:Nd) (x:X5):X5 :=
 AU (a.kind=2) (AU ((x.1.get a.name).isSome=true) x (x.1.set a.name a.unit,x.2.1,x.2.2))
   (AU (a.kind=3) (AU ((x.2.1.get a.name).isSome=true) x (x.1,x.2.1.set a.name a.unit,x.2.2))
     (AU (a.kind=4) (AU ((x.2.2.get a.n).isSome=true) x (x.1,x.2.1,x.2.2.set a.n a.name)) x))
noncomputable def PB:List Nd→X5→X5
 | [],x=>x
 | a::l,x=>PB l (IC a x)
noncomputable def PW (n:Nd):Sc:=⟨(PB n.kids (Mm.nil,Mm.nil,Mm.nil)).1,(PB n.kids (Mm.nil,Mm.nil,Mm.nil)).2.1,(PB n.kids (Mm.nil,Mm.nil,Mm.nil)).2.2⟩
theorem Qh:∀ (l:List Nd) (i:Nat) (x:X5),Bk (fun i y x=>Db i y x.1 x.2.1 x.2.2) (fun x=>(x.1,x.2.1,x.2.2)) l i x=(some (.inl (PB l x)):Option (X5⊕Sc))
 | [],_,_=>rfl
 | a::l,i,x=>by
   rw [Bk,Db,PB]
   have e:∀ x',(some (Lp.nx x'):Option (Lp X5 X5 Sc)).bind (HG (Bk (fun i y x=>Db i y x.1 x.2.1 x.2.2) (fun x=>(x.1,x.2.1,x.2.2)) l (i+1)))=some (.inl (PB l x')):=fun x'=>Qh l (i+1) x'
   simp only [DW,D5,mH,Fi]
   unfold IC
   by_cases k2:a.kind=2
   · rw [Af k2,Af k2]
     by_cases h:(x.1.get a.name).isSome=true
     · rw [Af h,Af h];exact e _
     · rw [Ac h,Ac h];exact e _
   rw [Ac k2,Ac k2]
   by_cases k3:a.kind=3
   · rw [Af k3,Af k3]
     by_cases h:(x.2.1.get a.name).isSome=true
     · rw [Af h,Af h];exact e _
     · rw [Ac h,Ac h];exact e _
   rw [Ac k3,Ac k3]
   by_cases k4:a.kind=4
   · rw [Af k4,Af k4]
     by_cases h:(x.2.2.get a.n).isSome=true
     · rw [Af h,Af h];exact e _
     · rw [Ac h,Ac h];exact e _
   rw [Ac k4,Ac k4]
   exact e _
theorem XE {n:Nd} (hok:E1 n):D2 n=some (PW n):=by
 obtain ⟨hps,hkl,hks⟩:=GG hok
 rw [D2,FR hkl,List.drop_zero,Qh]
 rfl
theorem Mr:∀ (l:List Nd) (x:X5),(∀ y,(PB l x).1.get y=(x.1.get y).or (fU 2 l y))∧(∀ y,(PB l x).2.1.get y=(x.2.1.get y).or (fU 3 l y))∧∀ z,(PB l x).2.2.get z=(x.2.2.get z).or (fA l z)
 | [],x=>⟨fun y=>by simp [PB,fU],fun y=>by simp [PB,fU],fun z=>by simp [PB,fA]⟩
 | a::l,x=>by
   obtain ⟨h1,h2,h3⟩:=Mr l (IC a x)
   have s1:∀ y,(IC a x).1.get y=(x.1.get y).or (AU (a.kind=2∧a.name=y) (some a.unit) none):=by
     intro y
     unfold IC
     by_cases k2:a.kind=2
     · rw [Af k2]
       by_cases h:(x.1.get a.name).isSome=true
       · rw [Af h]
         by_cases e:a.name=y
         · subst e
           obtain ⟨v,hv⟩:=Option.isSome_iff_exists.1 h
           rw [hv];rfl
         · rw [Ac (show ¬ (a.kind=2∧a.name=y) from fun q=>e q.2)];simp
       · rw [Ac h]
         show (x.1.set a.name a.unit).get y=_
         rw [Mm.Dt]
         by_cases e:y=a.name
         · subst e
           rw [if_pos rfl,Af ⟨k2,rfl⟩]
           have:x.1.get a.name=none:=by simpa using h
           rw [this];rfl
         · rw [if_neg e,Ac (show ¬ (a.kind=2∧a.name=y) from fun q=>e q.2.symm)];simp
     · rw [Ac k2,Ac (show ¬ (a.kind=2∧a.name=y) from fun q=>k2 q.1)]
       by_cases k3:a.kind=3
       · rw [Af k3]
         by_cases h:(x.2.1.get a.name).isSome=true
         · rw [Af h];simp
         · rw [Ac h];simp
       · rw [Ac k3]
         by_cases k4:a.kind=4
         · rw [Af k4]
           by_cases h:(x.2.2.get a.n).isSome=true
           · rw [Af h];simp
           · rw [Ac h];simp
         · rw [Ac k4];simp
   have s2:∀ y,(IC a x).2.1.get y=(x.2.1.get y).or (AU (a.kind=3∧a.name=y) (some a.unit) none):=by
     intro y
     unfold IC
     by_cases k2:a.kind=2
     · rw [Af k2,Ac (show ¬ (a.kind=3∧a.name=y) from fun q=>by omega)]
       by_cases h:(x.1.get a.name).isSome=true
       · rw [Af h];simp
       · rw [Ac h];simp
     · rw [Ac k2]
       by_cases k3:a.kind=3
       · rw [Af k3]
         by_cases h:(x.2.1.get a.name).isSome=true
         · rw [Af h]
           by_cases e:a.name=y
           · subst e
             obtain ⟨v,hv⟩:=Option.isSome_iff_exists.1 h
             rw [hv];rfl
           · rw [Ac (show ¬ (a.kind=3∧a.name=y) from fun q=>e q.2)];simp
         · rw [Ac h]
           show (x.2.1.set a.name a.unit).get y=_
           rw [Mm.Dt]
           by_cases e:y=a.name
           · subst e
             rw [if_pos rfl,Af ⟨k3,rfl⟩]
             have:x.2.1.get a.name=none:=by simpa using h
             rw [this];rfl
           · rw [if_neg e,Ac (show ¬ (a.kind=3∧a.name=y) from fun q=>e q.2.symm)];simp
       · rw [Ac k3,Ac (show ¬ (a.kind=3∧a.name=y) from fun q=>k3 q.1)]
         by_cases k4:a.kind=4
         · rw [Af k4]
           by_cases h:(x.2.2.get a.n).isSome=true
           · rw [Af h];simp
           · rw [Ac h];simp
         · rw [Ac k4];simp
   have s3:∀ z,(IC a x).2.2.get z=(x.2.2.get z).or (AU (a.kind=4∧a.n=z) (some a.name) none):=by
     intro z
     unfold IC
     by_cases k2:a.kind=2
     · rw [Af k2,Ac (show ¬ (a.kind=4∧a.n=z) from fun q=>by omega)]
       by_cases h:(x.1.get a.name).isSome=true
       · rw [Af h];simp
       · rw [Ac h];simp
     · rw [Ac k2]
       by_cases k3:a.kind=3
       · rw [Af k3,Ac (show ¬ (a.kind=4∧a.n=z) from fun q=>by omega)]
         by_cases h:(x.2.1.get a.name).isSome=true
         · rw [Af h];simp
         · rw [Ac h];simp
       · rw [Ac k3]
         by_cases k4:a.kind=4
         · rw [Af k4]
           by_cases h:(x.2.2.get a.n).isSome=true
           · rw [Af h]
             by_cases e:a.n=z
             · subst e
               obtain ⟨v,hv⟩:=Option.isSome_iff_exists.1 h
               rw [hv];rfl
             · rw [Ac (show ¬ (a.kind=4∧a.n=z) from fun q=>e q.2)];simp
           · rw [Ac h]
             show (x.2.2.set a.n a.name).get z=_
             rw [Mm.Dt]
             by_cases e:z=a.n
             · subst e
               rw [if_pos rfl,Af ⟨k4,rfl⟩]
               have:x.2.2.get a.n=none:=by simpa using h
               rw [this];rfl
             · rw [if_neg e,Ac (show ¬ (a.kind=4∧a.n=z) from fun q=>e q.2.symm)];simp
         · rw [Ac k4,Ac (show ¬ (a.kind=4∧a.n=z) from fun q=>k4 q.1)];simp
   have or_if:∀ {p:Prop} {u:ByteArray} {o f:Option ByteArray},(o.or (AU p (some u) none)).or f=o.or (AU p (some u) f):=by
     intro p u o f
     by_cases h:p
     · rw [Af h,Af h];cases o<;>rfl
     · rw [Ac h,Ac h];cases o<;>rfl
   refine ⟨fun y=>?_,fun y=>?_,fun z=>?_⟩
   · rw [PB,h1,s1,fU,or_if]
   · rw [PB,h2,s2,fU,or_if]
   · rw [PB,h3,s3,fA,or_if]
theorem Wm (n:Nd) (x:ByteArray):(PW n).facts.get x=fU 2 n.kids x:=by
 have:=(Mr n.kids (Mm.nil,Mm.nil,Mm.nil)).1 x
 exact this.trans (by rw [Mm.get_nil];rfl)
theorem MH (n:Nd) (x:ByteArray):(PW n).lines.get x=fU 3 n.kids x:=by
 have:=(Mr n.kids (Mm.nil,Mm.nil,Mm.nil)).2.1 x
 exact this.trans (by rw [Mm.get_nil];rfl)
theorem Pm (n:Nd) (z:Int):(PW n).Aa.get z=fA n.kids z:=by
 have:=(Mr n.kids (Mm.nil,Mm.nil,Mm.nil)).2.2 z
 exact this.trans (by rw [Mm.get_nil];rfl)
end Mo
end Go.Proofs.YtnijkdknnmgoeaaGreat
namespace Go.Proofs.YtnijkdknnmgoeaaGreat
open AI Go
namespace Mo
set_option maxRecDepth 100000
set_option maxHeartbeats 4000000
def oJ (s:List Dc×Mm ByteArray Int×List Dc×Mm ByteArray Int):Prop:=(∀ x i,s.2.1.get x=some i→0≤i∧i < ((s.1.length:Nat):Int))∧(∀ x i,s.2.2.2.get x=some i→0≤i∧i < ((s.2.2.1.length:Nat):Int))
theorem oB {s:List Dc×Mm ByteArray Int×List Dc×Mm ByteArray Int} (h:oJ s) (e:Nd):oJ (N4 s e):=by
 obtain ⟨h1,h2⟩:=h
 unfold N4
 by_cases k2:e.kind=2
 · rw [Af k2]
   refine ⟨fun x i hx=>?_,h2⟩
   simp only [List.length_append,List.length_singleton] at hx ⊢
   rw [Mm.Dt] at hx
   split at hx
   · cases hx;omega
   · have:=h1 x i hx;omega
 rw [Ac k2]
 by_cases k3:e.kind=3
 · rw [Af k3]
   refine ⟨h1,fun x i hx=>?_⟩
   simp only [List.length_append,List.length_singleton] at hx ⊢
   rw [Mm.Dt] at hx
   split at hx
   · cases hx;omega
   · have:=h2 x i hx;omega
 rw [Ac k3]
 exact ⟨h1,h2⟩
theorem cB {s:List Dc×Mm ByteArray Int×List Dc×Mm ByteArray Int} {e:Nd} {x:ByteArray} (h:s.2.1.get x≠none∨(e.kind=2∧e.name=x)):(N4 s e).2.1.get x≠none:=by
 unfold N4
 by_cases k2:e.kind=2
 · rw [Af k2]
   simp only
   rw [Mm.Dt]
   split
   · simp
   · rename_i hx
     rcases h with h | h
     · exact h
     · exact absurd h.2.symm hx
 rw [Ac k2]
 rcases h with h | h
 · by_cases k3:e.kind=3
   · rw [Af k3];exact h
   · rw [Ac k3];exact h
 · exact absurd h.1 k2
theorem cD {s:List Dc×Mm ByteArray Int×List Dc×Mm ByteArray Int} {e:Nd} {x:ByteArray} (h:s.2.2.2.get x≠none∨(e.kind=3∧e.name=x)):(N4 s e).2.2.2.get x≠none:=by
 unfold N4
 by_cases k2:e.kind=2
 · rw [Af k2]
   rcases h with h | h
   · exact h
   · omega
 rw [Ac k2]
 by_cases k3:e.kind=3
 · rw [Af k3]
   simp only
   rw [Mm.Dt]
   split
   · simp
   · rename_i hx
     rcases h with h | h
     · exact h
     · exact absurd h.2.symm hx
 rw [Ac k3]
 rcases h with h | h
 · exact h
 · exact absurd h.1 k3
theorem Pt {k:Int} {a:Nd} {l:List Nd} {x:ByteArray} (h:fU k (a::l) x≠none):(a.kind=k∧a.name=x)∨fU k l x≠none:=by
 rw [fU] at h
 by_cases c:a.kind=k∧a.name=x
 · exact .inl c
 · rw [Ac c] at h;exact .inr h
theorem P1:∀ (l:List Nd) (s:List Dc×Mm ByteArray Int×List Dc×Mm ByteArray Int),oJ s→oJ (l.foldl N4 s)∧(∀ x,s.2.1.get x≠none∨fU 2 l x≠none→(l.foldl N4 s).2.1.get x≠none)∧(∀ x,s.2.2.2.get x≠none∨fU 3 l x≠none→(l.foldl N4 s).2.2.2.get x≠none)
 | [],s,h=>⟨h,fun x hx=>hx.elim id fun h=>absurd (by rw [fU]) h,fun x hx=>hx.elim id fun h=>absurd (by rw [fU]) h⟩
 | a::l,s,h=>by
   rw [List.foldl_cons]
   obtain ⟨h1,h2,h3⟩:=P1 l (N4 s a) (oB h a)
   refine ⟨h1,fun x hx=>?_,fun x hx=>?_⟩
   · rcases hx with hx | hx
     · exact h2 x (.inl (cB (.inl hx)))
     · rcases Pt hx with hx | hx
       · exact h2 x (.inl (cB (.inr hx)))
       · exact h2 x (.inr hx)
   · rcases hx with hx | hx
     · exact h3 x (.inl (cD (.inl hx)))
     · rcases Pt hx with hx | hx
       · exact h3 x (.inl (cD (.inr hx)))
       · exact h3 x (.inr hx)
theorem Tu:oJ ([],Mm.nil,[],Mm.nil):=⟨fun x i h=>by simp [Mm.get_nil] at h,fun x i h=>by simp [Mm.get_nil] at h⟩
theorem TF {α:Type} {l:List α} {z:Int} (h0:0≤z) (h1:z < ((l.length:Nat):Int)):(Hi l z).isSome=true:=by
 unfold Hi
 rw [if_pos h0,List.getElem?_eq_getElem (by omega)]
 rfl
theorem YC {l:List Nd} {x:ByteArray} (h:fU 2 l x≠none):(Hi (Gv l).codex.facts (((Gv l).facts.get x).getD 0)).isSome=true:=by
 obtain ⟨h1,h2,_⟩:=P1 l ([],Mm.nil,[],Mm.nil) Tu
 show (Hi (DK l).1 (((DK l).2.1.get x).getD 0)).isSome=true
 have h2:(DK l).2.1.get x≠none:=h2 x (.inr h)
 cases hg:(DK l).2.1.get x with
 | none=>exact absurd hg h2
 | some i =>
   have:=h1.1 x i hg
   exact TF this.1 this.2
theorem YD {l:List Nd} {x:ByteArray} (h:fU 3 l x≠none):∃ i,(DK l).2.2.2.get x=some i∧(Hi (Gv l).codex.lines i).isSome=true:=by
 obtain ⟨h1,_,h3⟩:=P1 l ([],Mm.nil,[],Mm.nil) Tu
 have h3:(DK l).2.2.2.get x≠none:=h3 x (.inr h)
 cases hg:(DK l).2.2.2.get x with
 | none=>exact absurd hg h3
 | some i =>
   have:=h1.2 x i hg
   exact ⟨i,rfl,TF this.1 this.2⟩
theorem PS {lm:Mm ByteArray Int} {z:Int} {w:ByteArray}:∀ (l:List Nd) (m:Mm Int Int),(∀ a∈l,a.kind=4→a.n=z→a.name=w)→((m.get z=some ((lm.get w).getD 0))∨fA l z≠none)→(l.foldl (bD lm) m).get z=some ((lm.get w).getD 0)
 | [],m,_,h=>h.elim id fun h=>absurd (by rw [fA]) h
 | a::l,m,hw,h=>by
   rw [List.foldl_cons]
   refine PS l _ (fun b hb=>hw b (by simp [hb])) ?_
   unfold bD
   by_cases k4:a.kind=4
   · rw [Af k4,Mm.Dt]
     by_cases hz:z=a.n
     · rw [if_pos hz,hw a (by simp) k4 hz.symm];exact .inl rfl
     · rw [if_neg hz]
       rcases h with h | h
       · exact .inl h
       · rw [fA,Ac (fun q=>hz q.2.symm)] at h;exact .inr h
   · rw [Ac k4]
     rcases h with h | h
     · exact .inl h
     · rw [fA,Ac (fun q=>k4 q.1)] at h;exact .inr h
theorem gK {l:List Nd} {z:Int} {w:ByteArray} (hw:∀ a∈l,a.kind=4→a.n=z→a.name=w) (hz:fA l z≠none) (h:fU 3 l w≠none):(Hi (Gv l).codex.lines (((Gv l).Aa.get z).getD 0)).isSome=true:=by
 obtain ⟨i,h1,h2⟩:=YD h
 have:=PS (lm:=(DK l).2.2.2) l Mm.nil hw (.inr hz)
 show (Hi (DK l).2.2.1 (((PX (DK l).2.2.2 l).get z).getD 0)).isSome=true
 unfold PX
 rw [this,h1]
 exact h2
end Mo
end Go.Proofs.YtnijkdknnmgoeaaGreat
namespace Go.Proofs.YtnijkdknnmgoeaaGreat
open AI Go
namespace Mo
set_option maxRecDepth 100000
set_option maxHeartbeats 4000000
def cap (ds r:List Dg):List Dg:=(ds++r).take 20
theorem GP (ds a b:List Dg):cap (cap ds a) b=cap ds (a++b):=by
 unfold cap
 rw [← List.append_assoc]
 generalize ds++a=l
 rw [List.take_append,List.take_append,List.take_take,Nat.min_self,List.length_take]
 by_cases h:l.length≤20
 · rw [Nat.min_eq_right h]
 · rw [Nat.min_eq_left (by omega),show 20 - 20=0 by omega,show 20 - l.length=0 by omega]
theorem Fb {ds:List Dg} (h:ds.length≤20):cap ds []=ds:=by
 unfold cap
 rw [List.append_nil,List.take_of_length_le h]
theorem Gb (ds r:List Dg):(cap ds r).length≤20:=by unfold cap;rw [List.length_take];omega
theorem NX {ds:List Dg} (h:ds.length≤20) (e at_:Int):Lc e at_ ds=cap ds [⟨e,at_⟩]:=by
 unfold Lc cap
 by_cases h2:ds.length < 20
 · rw [if_pos h2,List.take_of_length_le (by simp;omega)]
 · rw [if_neg h2,List.take_append,List.take_of_length_le h,show 20 - ds.length=0 by omega]
   simp
noncomputable def HE (F:ByteArray→ByteArray) (A:Int→ByteArray) (n:Nd) (us:List ByteArray):ByteArray :=
 AU (n.kind=11) n.unit (AU (n.kind=12) (F n.name) (AU (n.kind=13) (A n.n) (AU (n.kind=14) Bm
   (AU (n.kind=15) (Jt Lm us) (AU (n.kind=16) (Jt n.name us) (AU (n.kind=17) (Jt NY us) (AU (n.kind=18) (AU (XM (us.headD eS)) (us.headD eS) eS) eS)))))))
noncomputable def Zf (F:ByteArray→ByteArray) (A:Int→ByteArray) (n:Nd) (r:List ByteArray×List Dg):ByteArray×List Dg :=
 AU (∀ u∈r.1,u≠eS) (AU (HE F A n r.1=eS) (HE F A n r.1,r.2++[⟨OD n,n.att⟩]) (HE F A n r.1,r.2)) (eS,r.2)
mutual
noncomputable def N2 (F:ByteArray→ByteArray) (A:Int→ByteArray):Nd→ByteArray×List Dg
 | ⟨kind,name,unit,n,fr,to,known,tab,kids,att⟩=>Zf F A ⟨kind,name,unit,n,fr,to,known,tab,kids,att⟩ (HX F A kids)
noncomputable def HX (F:ByteArray→ByteArray) (A:Int→ByteArray):List Nd→List ByteArray×List Dg
 | []=>([],[])
 | k::ks=>((N2 F A k).1::(HX F A ks).1,(N2 F A k).2++(HX F A ks).2)
end
theorem Xi (F:ByteArray→ByteArray) (A:Int→ByteArray) (n:Nd):N2 F A n=Zf F A n (HX F A n.kids):=by cases n;rw [N2]
theorem Q7 (F:ByteArray→ByteArray) (A:Int→ByteArray):∀ l:List Nd,HX F A l=(l.map fun k=>(N2 F A k).1,l.flatMap fun k=>(N2 F A k).2)
 | []=>by rw [HX];rfl
 | k::l=>by rw [HX,Q7 F A l];rfl
noncomputable def FS (s:Sc) (x:ByteArray):ByteArray:=(s.facts.get x).getD eS
noncomputable def Rd (s:Sc) (z:Int):ByteArray:=(s.lines.get ((s.Aa.get z).getD eS)).getD eS
theorem I7 {s:Sc}:∀ {l:List Nd},(∀ k∈l,∀ ds:List Dg,ds.length≤20→CZ s k ds=((N2 (FS s) (Rd s) k).1,cap ds (N2 (FS s) (Rd s) k).2))→∀ ds:List Dg,ds.length≤20→C7 s l ds=((HX (FS s) (Rd s) l).1,cap ds (HX (FS s) (Rd s) l).2)
 | [],_,ds,h=>by rw [C7,HX,Fb h]
 | a::l,hk,ds,h=>by
   rw [C7,HX,hk a (by simp) ds h]
   dsimp only
   rw [I7 (fun k h'=>hk k (by simp [h'])) _ (Gb _ _),GP]
theorem QC (s:Sc):∀ (m:Nat) (n:Nd),DB n≤m→∀ ds:List Dg,ds.length≤20→CZ s n ds=((N2 (FS s) (Rd s) n).1,cap ds (N2 (FS s) (Rd s) n).2):=by
 intro m
 induction m with
 | zero=>intro n h;have:=Cm n;omega
 | succ m ih =>
   intro n hn ds hd
   have hsz:=Cm n
   rw [OY,Xi,I7 (fun k hk=>ih k (by have:=G3 hk;omega)) ds hd]
   unfold ZF Zf
   show AU _ (AU (HE (FS s) (Rd s) n _=eS) (HE (FS s) (Rd s) n _,_) (HE (FS s) (Rd s) n _,_)) _=_
   by_cases hu:∀ u∈(HX (FS s) (Rd s) n.kids).1,u≠eS
   · rw [Af hu,Af hu]
     by_cases hU:HE (FS s) (Rd s) n (HX (FS s) (Rd s) n.kids).1=eS
     · rw [Af hU,Af hU]
       dsimp only
       rw [NX (Gb _ _),GP]
     · rw [Ac hU,Ac hU]
   · rw [Ac hu,Ac hu]
theorem UG (s:Sc) (n:Nd) {ds:List Dg} (h:ds.length≤20):CZ s n ds=((N2 (FS s) (Rd s) n).1,cap ds (N2 (FS s) (Rd s) n).2):=QC s (DB n) n (Nat.le_refl _) ds h
noncomputable def fact (src:Nd) (x:ByteArray):ByteArray:=(fU 2 src.kids x).getD eS
noncomputable def line (src:Nd) (x:ByteArray):ByteArray:=(fU 3 src.kids x).getD eS
noncomputable def kH (src:Nd) (z:Int):ByteArray:=line src ((fA src.kids z).getD eS)
theorem iC (src:Nd):FS (PW src)=fact src:=funext fun x=>by unfold FS fact;rw [Wm]
theorem iY (src:Nd):Rd (PW src)=kH src:=funext fun z=>by unfold Rd kH line;rw [MH,Pm]
noncomputable def So (src n:Nd):ByteArray×List Dg:=N2 (fact src) (kH src) n
theorem Uo (src n:Nd) {ds:List Dg} (h:ds.length≤20):CZ (PW src) n ds=((So src n).1,cap ds (So src n).2):=by
 rw [UG _ _ h,iC,iY];rfl
noncomputable def KP (before:List Nd) (a:Nd):List Dg :=
 AU (a.kind=2∨a.kind=3) (AU (∃ b∈before,b.kind=a.kind∧b.name=a.name) [⟨5,a.att⟩] (AU (32≤C3 a.kind before) [⟨2,a.att⟩] (AU (a.kind=3∧(a.unit=AO∨(a.n≠4∧¬ XM a.unit))) [⟨11,a.att⟩] []))) []
noncomputable def Jo:List Nd→List Nd→List Dg
 | _,[]=>[]
 | b,a::l=>KP b a++Jo (b++[a]) l
noncomputable def FU (src:Nd) (c:Nat) (a:Nd):List Dg :=
 AU (60≤c) [⟨2,a.att⟩] (AU (fU 3 src.kids a.name=none) [⟨91,a.att⟩] (AU ((fA src.kids a.n).getD eS≠a.name) [⟨101,a.att⟩] []))
noncomputable def E8 (src a k:Nd):List Dg:=AU (k.n=a.n) [⟨101,k.att⟩] (AU (fA src.kids k.n=none) [⟨91,k.att⟩] [])
noncomputable def QO (src:Nd) (w:ByteArray) (k:Nd):List Dg:=(So src k).2++AU ((So src k).1≠eS∧w≠eS∧(So src k).1≠w) [⟨11,k.att⟩] []
noncomputable def GR (src a x:Nd):List Dg :=
 AU (x.kind=7) (x.kids.flatMap (E8 src a)) (x.kids.flatMap (QO src (AU (x.kind=6) AO (line src a.name))))
noncomputable def WQ (src:Nd) (c:Nat) (a:Nd):List Dg:=AU (a.kind=4) (FU src c a++a.kids.tail.flatMap (GR src a)) []
noncomputable def LV (src:Nd):Nat→List Nd→List Dg
 | _,[]=>[]
 | c,a::l=>WQ src c a++LV src (c+C3 4 [a]) l
noncomputable def PE (src:Nd):List Dg:=Jo [] src.kids++LV src 0 src.kids
noncomputable def FY (src:Nd):List Dg:=AU (src.kind=1∧Re src) (cap [] (PE src)) [⟨1,0⟩]
end Mo
end Go.Proofs.YtnijkdknnmgoeaaGreat

