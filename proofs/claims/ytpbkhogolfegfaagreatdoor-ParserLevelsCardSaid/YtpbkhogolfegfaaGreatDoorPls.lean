/- Part of a proof: see the last text. -/
import Derived.Test.YtpbkhogolfegfaaGreatDoorPlr
set_option linter.unusedVariables false
set_option linter.unusedSimpArgs false
set_option linter.defProp false
noncomputable section
namespace Go.Proofs.YtpbkhogolfegfaaGreatDoor
open AI Go
namespace Mo
set_option maxRecDepth 100000
set_option maxHeartbeats 4000000
variable {mx:Int}
def B4:Code:=Bk Tryz.f4
def b4:Tryz.f4.body=some B4:=by kernel_rfl
def B6:Code:=Bk Tryz.f6
def b6:Tryz.f6.body=some B6:=by kernel_rfl
def B66:Code:=Bk Tryz.f66
def b66:Tryz.f66.body=some B66:=by kernel_rfl
def Ez(op:ByteArray):Option Int:=cond (BS op.data.toList Sf.data.toList) (some 0) (cond (BS op.data.toList J2.data.toList) (some 1) (cond (BS op.data.toList EU.data.toList) (some 2) (cond (BS op.data.toList Fw.data.toList) (some 2) (cond (BS op.data.toList GP.data.toList) (some 2) (cond (BS op.data.toList D0.data.toList) (some 2) (cond (BS op.data.toList Gf.data.toList) (some 2) (cond (BS op.data.toList Dk.data.toList) (some 2) (cond (BS op.data.toList K6.data.toList) (some 3) (cond (BS op.data.toList Jl.data.toList) (some 3) (some 4))))))))))
def Gh{op:ByteArray}{yR:Int}(h:Ez  op=some yR):Pure P (G mx) 66 [.zs op] (.zi yR):=by
 unfold Ez at h;refine D6 Hd.mixed Hd.Ab (AA Tryz.func66 b66 ?_) (Bz rfl rfl) rfl;revert h;refine Ai (λBq=>?_) λBq=>?_;rintro⟨⟩;exact rT [pb Bq];refine Ai (λhb2=>?_) λhb2=>?_;rintro⟨⟩;exact rT [pb Bq,pb hb2];let o1:List (PC P (G mx)):=[pb Bq,pb hb2];refine Ai (λhb3=>?_) λhb3=>?_;rintro⟨⟩;exact rT (o1++[pb hb3]);refine Ai (λFp=>?_) λFp=>?_;rintro⟨⟩;exact rT (o1++[pb hb3,pb Fp]);let o2:List (PC P (G mx)):=o1++[pb hb3,pb Fp];refine Ai (λGZ=>?_) λGZ=>?_;rintro⟨⟩;exact rT (o2++[pb GZ]);refine Ai (λHq=>?_) λHq=>?_;rintro⟨⟩;exact rT (o2++[pb GZ,pb Hq]);refine Ai (λIi=>?_) λIi=>?_;rintro⟨⟩;exact rT (o2++[pb GZ,pb Hq,pb Ii]);refine Ai (λJL=>?_) λJL=>?_;rintro⟨⟩;exact rT (o2++[pb GZ,pb Hq,pb Ii,pb JL]);refine Ai (λJn=>?_) λJn=>?_;rintro⟨⟩;exact rT (o2++[pb GZ,pb Hq,pb Ii,pb JL,pb Jn]);refine Ai (λGF=>?_) λGF=>?_;rintro⟨⟩;exact rT (o2++[pb GZ,pb Hq,pb Ii,pb JL,pb Jn,pb GF]);rintro⟨⟩;exact rT (o2++[pb GZ,pb Hq,pb Ii,pb JL,pb Jn,pb GF])
def B31:Code:=Bk Tryz.f31
def b31:Tryz.f31.body=some B31:=by kernel_rfl
def GJ(Ej:(List ByteArray)->(List ByteArray)->Option (Nd×Bool))(ops:(List ByteArray))(i0:Nat)(e0:ByteArray)(at6:Int):Option (Lp Int Int (Nd×Bool)):=(Ez e0).bind λy3=>(IA ops at6).bind λx4=>(Ez x4).bind λy5=>cond (S7 y3 y5) (some (.nx ((i0:Nat):Int))) (some (.nx at6))
def Jy(Ej:(List ByteArray)->(List ByteArray)->Option (Nd×Bool))(i1:Nat)(e1:ByteArray)(RI:Int):Option (Lp Int Int (Nd×Bool)):=(Ez e1).bind λy7=>cond (Dr y7 2) (some (.nx (BK RI 1))) (some (.nx RI))
def LK(Ej:(List ByteArray)->(List ByteArray)->Option (Nd×Bool))(names:(List ByteArray))(ops:(List ByteArray)):Option (Nd×Bool):=cond (Dr ((ops.length:Nat):Int) 0) ((names[0]?).bind λx1=>(IE x1).bind λy2=>some (y2,true)) ((Lk ops.length (CX (λi y x=>GJ Ej ops i y x) (λx=>x) (ops.drop 0) 0 0)).bind (N4 (λ(VZ:Int)=>(Lk ops.length (CX (λi y x=>Jy Ej  i y x) (λx=>x) (ops.drop 0) 0 0)).bind (N4 (λ(tL:Int)=>(Qt names 0 (BK VZ 1)).bind λl9=>(Qt ops 0 VZ).bind λl10=>(Ej l9 l10).bind λ(Q5,Li)=>(Qt names (BK VZ 1) ((names.length:Nat):Int)).bind λl12=>(Qt ops (BK VZ 1) ((ops.length:Nat):Int)).bind λl13=>(Ej l12 l13).bind λ(RZ,Q6)=>cond Li (cond Q6 ((IA ops VZ).bind λvU=>(Ez vU).bind λy16=>cond (Dr y16 2) (cond (E3 1 tL) (some ((⟨0,ByteArray.empty,ByteArray.empty,0,0,0,0,(⟨0,[]⟩:Fn),[],0⟩:Nd),false)) (cond (BS vU.data.toList Gf.data.toList) ((DK GP RZ Q5).bind λy17=>some (y17,true)) (cond (BS vU.data.toList Dk.data.toList) ((DK D0 RZ Q5).bind λy18=>some (y18,true)) ((DK vU Q5 RZ).bind λy19=>some (y19,true))))) (cond (BS vU.data.toList Gf.data.toList) ((DK GP RZ Q5).bind λy20=>some (y20,true)) (cond (BS vU.data.toList Dk.data.toList) ((DK D0 RZ Q5).bind λy21=>some (y21,true)) ((DK vU Q5 RZ).bind λy22=>some (y22,true))))) (some ((⟨0,ByteArray.empty,ByteArray.empty,0,0,0,0,(⟨0,[]⟩:Fn),[],0⟩:Nd),false))) (some ((⟨0,ByteArray.empty,ByteArray.empty,0,0,0,0,(⟨0,[]⟩:Fn),[],0⟩:Nd),false))) (λv=>some v))) (λv=>some v)))
def Vv(Ej:(List ByteArray)->(List ByteArray)->Option (Nd×Bool))(RD:∀{names:(List ByteArray)} {ops:(List ByteArray)} {yR:(Nd×Bool)},Ej names ops=some yR->Pure P (G mx) 31 [.sl .lost names.length (rows O9 names),.sl .lost ops.length (rows O9 ops)] (.Dd [.agg (CS yR.1),.zb yR.2])){names:(List ByteArray)}{ops:(List ByteArray)}{yR:(Nd×Bool)}(h:LK Ej names ops=some yR):Pure P (G mx) 31 [.sl .lost names.length (rows O9 names),.sl .lost ops.length (rows O9 ops)] (.Dd [.agg (CS yR.1),.zb yR.2]):=by
 unfold LK at h;refine D6 Hd.mixed Hd.Ab (AA Tryz.func31 b31 ?_) (Bz (Nx.Kx names) (Bz (Nx.Kx ops) rfl)) (Bz (Az.CN yR.1) (Bz rfl rfl));revert h;refine Ai (λBq=>?_) λBq=>?_;refine Ay λx1 fO=>?_;refine Ay λy2 Ev=>?_;rintro⟨⟩;exact AJ _ _ (Ae 300 [pb Bq,G5 (anS .lost fO),Bb (Jz Ev)]) (by kernel_rfl) .body (.plain (Bz (Az.CN y2) (Bz rfl rfl)));refine Rl (λQ v=>MK P Tryz.f31 0 Q (.Dd [.agg (CS v.1),.zb v.2])) (λi0 (at6:Int) (j0:List Value)=>fr 115 [(0,.sl .lost names.length (rows O9 names)),(1,.sl .lost ops.length (rows O9 ops)),(4,.ptr 0 0),(6,.zi at6),(7,.zi 0),(23,.sl .lost ops.length (rows O9 ops)),(24,.zi ((ops.length:Nat):Int)),(25,.zi ((i0:Nat):Int))] [5,13,15,18,26,37,43,48,62,74,75,76,77,78,79,80,81,87,88,90,91,92,98,99,103,104] j0) (λ(at6:Int)=>⟨[(0,.cells PX)],1,[],0⟩) (λ(at6:Int) (jx:List Value)=>fr 115 [(0,.sl .lost names.length (rows O9 names)),(1,.sl .lost ops.length (rows O9 ops)),(4,.ptr 0 0),(6,.zi at6),(7,.zi 0)] [5,13,15,18,26,37,43,48,62,74,75,76,77,78,79,80,81,87,88,90,91,92,98,99,103,104] jx) (λ(at6:Int)=>⟨[(0,.cells PX)],1,[],0⟩) [bF,undef,undef,bF] (IV [] 0 (sb B31 244) [.code (sb B31 31)] (Ae 300 [pb Bq]) (by kernel_rfl)) ?_ ?_ ?_ (λv h=>by cases h;exact .outer .body);rintro i0 at6 j0 hge hq;exact E7 (Ae 300 [pb (dJ hge)]) (by kernel_rfl) (hq (js 26 j0 [(4,bF)]));rintro i0 e0 at6 j0 r RA PW Pv k;show GJ Ej ops i0 e0 at6=some r->_;unfold GJ;refine Ay λy3 GH=>?_;refine Ay λx4 hx4=>?_;refine Ay λy5 Kc=>?_;let o1:List (PC P (G mx)):=[pb (W6 PW),G5 (anS .lost RA),Bb (Gh GH),G5 (S6 .lost hx4),Bb (Gh Kc)];refine Ai (λhb2=>?_) λhb2=>?_;rintro⟨⟩;exact Jw (Ae 300 (o1++[pb hb2,pi Pv])) (by kernel_rfl) (k (js 26 j0 [(4,bT),(5,bT)]));rintro⟨⟩;exact Jw (Ae 300 (o1++[pb hb2,pi Pv])) (by kernel_rfl) (k (js 26 j0 [(4,bT),(5,bF)]));rintro VZ aDX;refine Rl (λQ v=>MK P Tryz.f31 0 Q (.Dd [.agg (CS v.1),.zb v.2])) (λi1 (RI:Int) (j1:List Value)=>fr 115 [(0,.sl .lost names.length (rows O9 names)),(1,.sl .lost ops.length (rows O9 ops)),(4,.ptr 0 0),(6,.zi VZ),(7,.zi RI),(40,.sl .lost ops.length (rows O9 ops)),(41,.zi ((ops.length:Nat):Int)),(42,.zi ((i1:Nat):Int))] [5,13,15,18,26,37,43,48,62,74,75,76,77,78,79,80,81,87,88,90,91,92,98,99,103,104] j1) (λ(RI:Int)=>⟨[(0,.cells PX)],1,[],0⟩) (λ(RI:Int) (jx:List Value)=>fr 115 [(0,.sl .lost names.length (rows O9 names)),(1,.sl .lost ops.length (rows O9 ops)),(4,.ptr 0 0),(6,.zi VZ),(7,.zi RI)] [5,13,15,18,26,37,43,48,62,74,75,76,77,78,79,80,81,87,88,90,91,92,98,99,103,104] jx) (λ(RI:Int)=>⟨[(0,.cells PX)],1,[],0⟩) aDX (IV [] 2 (sb B31 500) [.code (sb B31 63)] (HY 300 []) (by kernel_rfl)) ?_ ?_ ?_ (λv h=>by cases h;exact .outer .body);rintro i1 RI j1 hge hq;exact E7 (Ae 300 [pb (dJ hge)]) (by kernel_rfl) (hq (js 26 j1 [(6,bF)]));rintro i1 e1 RI j1 r he1 hi1 mi1 k;show Jy Ej  i1 e1 RI=some r->_;unfold Jy;refine Ay λy7 RE=>?_;refine Ai (λhb3=>?_) λhb3=>?_;rintro⟨⟩;exact Jw (Ae 300 [pb (W6 hi1),G5 (anS .lost he1),Bb (Gh RE),pb hb3,pk,pi mi1]) (by kernel_rfl) (k (js 26 j1 [(6,bT),(7,bT)]));rintro⟨⟩;exact Jw (Ae 300 [pb (W6 hi1),G5 (anS .lost he1),Bb (Gh RE),pb hb3,pi mi1]) (by kernel_rfl) (k (js 26 j1 [(6,bT),(7,bF)]));rintro tL aOO;refine Ay λl9 hl9=>?_;refine Ay λl10 hl10=>?_;refine Ay ?_;rintro⟨Q5,Li⟩ Tw;dsimp only;refine Ay λl12 axG=>?_;refine Ay λl13 axH=>?_;refine Ay ?_;rintro⟨RZ,Q6⟩ Vs;dsimp only;let o2:List (PC P (G mx)):=[pk,yI (uZ hl9),yI (uZ hl10),Bb (RD Tw),pk,yI (vB axG),pk,yI (vB axH),Bb (RD Vs)];refine Ai (λhv=>?_) λhv=>?_;subst hv;refine Ai (λhv=>?_) λhv=>?_;subst hv;refine Ay λvU Ye=>?_;refine Ay λy16 oM=>?_;let o3:List (PC P (G mx)):=o2++[G5 (S6 .lost Ye),Bb (Gh oM)];refine Ai (λFp=>?_) λFp=>?_;refine Ai (λGZ=>?_) λGZ=>?_;rintro⟨⟩;exact AJ (v:=.Dd [.agg PX,.zb false]) _ _ (HY 300 (o3++[pb Fp,pb GZ])) (by kernel_rfl) .body (.wn (.u (.g (.r (.r (.r (.r (.r (.r (.r (.r (.z (.z (.r .nil))))))))))) (.r .nil)) .nil) (Bz (Az.CN (⟨0,ByteArray.empty,ByteArray.empty,0,0,0,0,(⟨0,[]⟩:Fn),[],0⟩:Nd)) (Bz rfl rfl)));let o4:List (PC P (G mx)):=o3++[pb Fp,pb GZ,G5 (S6 .lost Ye)];refine Ai (λHq=>?_) λHq=>?_;refine Ay λy17 axS=>?_;rintro⟨⟩;exact AJ _ _ (HY 300 (o4++[pb Hq,Bb (EJ axS)])) (by kernel_rfl) .body (.plain (Bz (Az.CN y17) (Bz rfl rfl)));refine Ai (λIi=>?_) λIi=>?_;refine Ay λy18 aeO=>?_;rintro⟨⟩;exact AJ _ _ (HY 300 (o4++[pb Hq,pb Ii,Bb (EJ aeO)])) (by kernel_rfl) .body (.plain (Bz (Az.CN y18) (Bz rfl rfl)));refine Ay λy19 oN=>?_;rintro⟨⟩;exact AJ _ _ (HY 300 (o4++[pb Hq,pb Ii,fS,G5 (S6 .lost Ye),Bb (EJ oN)])) (by kernel_rfl) .body (.plain (Bz (Az.CN y19) (Bz rfl rfl)));refine Ai (λJL=>?_) λJL=>?_;refine Ay λy20 oO=>?_;rintro⟨⟩;exact AJ _ _ (HY 300 (o3++[pb Fp,G5 (S6 .lost Ye),pb JL,Bb (EJ oO)])) (by kernel_rfl) .body (.plain (Bz (Az.CN y20) (Bz rfl rfl)));refine Ai (λJn=>?_) λJn=>?_;refine Ay λy21 cZ=>?_;rintro⟨⟩;exact AJ _ _ (HY 300 (o3++[pb Fp,G5 (S6 .lost Ye),pb JL,pb Jn,Bb (EJ cZ)])) (by kernel_rfl) .body (.plain (Bz (Az.CN y21) (Bz rfl rfl)));refine Ay λy22 dA=>?_;rintro⟨⟩;exact AJ _ _ (HY 300 (o3++[pb Fp,G5 (S6 .lost Ye),pb JL,pb Jn,fS,G5 (S6 .lost Ye),Bb (EJ dA)])) (by kernel_rfl) .body (.plain (Bz (Az.CN y22) (Bz rfl rfl)));subst hv;rintro⟨⟩;exact AJ (v:=.Dd [.agg PX,.zb false]) _ _ (HY 300 o2) (by kernel_rfl) .body (.wn (.u (.g (.r (.r (.r (.r (.r (.r (.r (.r (.z (.z (.r .nil))))))))))) (.r .nil)) .nil) (Bz (Az.CN (⟨0,ByteArray.empty,ByteArray.empty,0,0,0,0,(⟨0,[]⟩:Fn),[],0⟩:Nd)) (Bz rfl rfl)));subst hv;rintro⟨⟩;exact AJ (v:=.Dd [.agg PX,.zb false]) _ _ (HY 300 o2) (by kernel_rfl) .body (.wn (.u (.g (.r (.r (.r (.r (.r (.r (.r (.r (.z (.z (.r .nil))))))))))) (.r .nil)) .nil) (Bz (Az.CN (⟨0,ByteArray.empty,ByteArray.empty,0,0,0,0,(⟨0,[]⟩:Fn),[],0⟩:Nd)) (Bz rfl rfl)))
def EH:Nat->(List ByteArray)->(List ByteArray)->Option (Nd×Bool)
 | 0,_,_=>none
 | qn+1,names,ops=>LK (EH qn) names ops
def Wz:∀qn:Nat,∀{names:(List ByteArray)} {ops:(List ByteArray)} {yR:(Nd×Bool)},EH qn names ops=some yR->Pure P (G mx) 31 [.sl .lost names.length (rows O9 names),.sl .lost ops.length (rows O9 ops)] (.Dd [.agg (CS yR.1),.zb yR.2]):=by
 intro qn
 induction qn with
 | zero=>exact(λh=>by simp only[EH] at h;cases h)
 | succ qn ih=>exact(λh=>Vv (EH qn) ih (by rw[EH] at h;exact h))
def Ke(names:(List ByteArray))(ops:(List ByteArray)):Option (Nd×Bool):=evt (λqn=>EH qn names ops)
def RG{names:(List ByteArray)}{ops:(List ByteArray)}{yR:(Nd×Bool)}(h:Ke names ops=some yR):Pure P (G mx) 31 [.sl .lost names.length (rows O9 names),.sl .lost ops.length (rows O9 ops)] (.Dd [.agg (CS yR.1),.zb yR.2]):=by
 obtain⟨qn,h⟩:=nT h;exact(Wz qn) h
def B9:Code:=Bk Tryz.f9
def b9:Tryz.f9.body=some B9:=by kernel_rfl
def Cr(EB:(List Int))(i0:Nat)(J5:(List ByteArray))(RW:ByteArray)(SH:(List ByteArray)):Option (Lp ((List ByteArray)×ByteArray×(List ByteArray)) ((List ByteArray)×ByteArray×(List ByteArray)) Bool):=(EB[i0]?).bind λx20=>(IA [Sf,J2,EU,Fw,GP,D0,Gf,Dk,K6,Jl,MY,Vf] (U2 (w64 x20) 12)).bind λlS=>Lz (J5.length+1) (Lz (SH.length+1) (Lk (HU.data.toList.length+lS.data.toList.length) (Lk ((HU++lS).data.toList.length+HU.data.toList.length) (Lk (((HU++lS)++HU).data.toList.length+(Oa [(w8 (BK 98 ((i0:Nat):Int)))]).data.toList.length) (Lk (RW.data.toList.length+(((HU++lS)++HU)++(Oa [(w8 (BK 98 ((i0:Nat):Int)))])).data.toList.length) (some (.nx ((J5++[(Oa [(w8 (BK 98 ((i0:Nat):Int)))])]),(RW++(((HU++lS)++HU)++(Oa [(w8 (BK 98 ((i0:Nat):Int)))]))),(SH++[lS])))))))))
def FH(EB:(List Int)):Option Bool:=(JQ).bind λy1=>cond (E3 12 ((EB.length:Nat):Int)) (some y1) (cond (E3 0 ((EB.length:Nat):Int)) ((EB[0]?).bind λx2=>(IA [Sf,J2,EU,Fw,GP,D0,Gf,Dk,K6,Jl,MY,Vf] (U2 (w64 x2) 12)).bind λx3=>Lz ([aS].length+1) (Lz (0+1) (Lk (HU.data.toList.length+x3.data.toList.length) (Lk ((HU++x3).data.toList.length+HU.data.toList.length) (Lk (((HU++x3)++HU).data.toList.length+(Oa [98]).data.toList.length) (Lk (aS.data.toList.length+(((HU++x3)++HU)++(Oa [98])).data.toList.length) ((Lk EB.length (cB (λi x=>Cr  EB i x.1 x.2.1 x.2.2) (λx=>(x.1,x.2.1,x.2.2)) (EB.length - 1) 1 (([aS]++[(Oa [98])]),(aS++(((HU++x3)++HU)++(Oa [98]))),([]++[x3])))).bind (N4 (λ((Se,lH,Xb):((List ByteArray)×ByteArray×(List ByteArray)))=>(Ke Se Xb).bind λ(aaG,ZK)=>(BY lH).bind λ(aaH,U7)=>cond ZK (cond y1 (cond (Dr ((U7.length:Nat):Int) 0) ((GK aaH).bind λy31=>(IM y31 aaG).bind λy32=>some y32) (some false)) (some false)) (cond y1 (cond (Dr ((U7.length:Nat):Int) 1) ((U7[0]?).bind λx33=>cond (Dr x33.err 71) (some true) (some false)) (some false)) (some false))) (λv=>some v))))))))) ((Ke [aS] []).bind λ(U3,JV)=>(BY aS).bind λ(Q5,Li)=>cond JV (cond y1 (cond (Dr ((Li.length:Nat):Int) 0) ((GK Q5).bind λy12=>(IM y12 U3).bind λy13=>some y13) (some false)) (some false)) (cond y1 (cond (Dr ((Li.length:Nat):Int) 1) ((Li[0]?).bind λx14=>cond (Dr x14.err 71) (some true) (some false)) (some false)) (some false))))
def Pq{EB:(List Int)}{yR:Bool}(h:FH  EB=some yR):Pure P (G mx) 9 [.sl .lost EB.length (rows mU EB)] (.zb yR):=by
 unfold FH at h;refine D6 Hd.mixed Hd.Ab (AA Tryz.func9 b9 ?_) (Bz (auF.Kx EB) rfl) rfl;revert h;refine Ay λy1 Cs=>?_;refine Ai (λBq=>?_) λBq=>?_;rintro⟨⟩;exact rT [Bb (QN Cs),pb Bq];refine Dl (IV (fr2:=fr 97 [(2,.zb false),(3,.zb y1),(4,.sl .full 12 [.zs Sf,.zs J2,.zs EU,.zs Fw,.zs GP,.zs D0,.zs Gf,.zs Dk,.zs K6,.zs Jl,.zs MY,.zs Vf]),(5,.sl .full 1 [.zs aS]),(6,.zs aS),(7,.sl .full 0 []),(16,.zb y1),(19,.zb false),(23,.sl .lost EB.length (rows mU EB)),(24,.zi ((EB.length:Nat):Int)),(25,.zi 0)] [] []) (s2:=⟨[],0,[],0⟩) [] 0 (sb B9 2036) [.code (sb B9 255)] (Ae 300 [Bb (QN Cs),pb Bq]) (by kernel_rfl)) ?_;refine Ai (λhb2=>?_) λhb2=>?_;refine Ay λx2 mR=>?_;refine Ay λx3 hx3=>?_;refine KY λhl4=>?_;refine KY λhl5=>?_;refine jI λhl6=>?_;refine jI λhl7=>?_;refine jI λhl8=>?_;refine jI λhl9=>?_;refine aBL (λQ v=>MK P Tryz.f9 0 Q (.zb v)) (le1 (by assumption)) (λi0 ((J5,RW,SH):((List ByteArray)×ByteArray×(List ByteArray))) (j0:List Value)=>fr 97 [(3,.zb y1),(4,.sl .full 12 [.zs Sf,.zs J2,.zs EU,.zs Fw,.zs GP,.zs D0,.zs Gf,.zs Dk,.zs K6,.zs Jl,.zs MY,.zs Vf]),(5,.sl (.row 0 1) J5.length (rows O9 J5)),(6,.zs RW),(7,.sl (.row 1 1) SH.length (rows O9 SH)),(23,.sl .lost EB.length (rows mU EB)),(24,.zi ((EB.length:Nat):Int)),(25,.zi ((i0:Nat):Int))] [2,16,19,26] j0) (λ((J5,RW,SH):((List ByteArray)×ByteArray×(List ByteArray)))=>⟨[],0,[(1,SH.length),(0,J5.length)],2⟩) (λ((J5,RW,SH):((List ByteArray)×ByteArray×(List ByteArray))) (jx:List Value)=>fr 97 [(3,.zb y1),(5,.sl (.row 0 1) J5.length (rows O9 J5)),(6,.zs RW),(7,.sl (.row 1 1) SH.length (rows O9 SH))] [2,16,19,26] jx) (λ((J5,RW,SH):((List ByteArray)×ByteArray×(List ByteArray)))=>⟨[],0,[(1,SH.length),(0,J5.length)],2⟩) [bF,.bool y1,bF,bT] (D2 [] (Ae 300 [pb hb2,G5 (aDT .lost mR),pk,G5 (S6 .full hx3),pk,pcv (acA .full [98]),PG (sH .full [aS] [(Oa [98])] (o:=.full) (n:=1) (ns:=[.zs (Oa [98])]) (Nx.wn [(Oa [98])] (.r .nil)) rfl rfl (by simp) (Nat.le_of_ble_eq_true rfl)),PG (sH .full [] [x3] (o:=.full) (n:=1) (ns:=[.zs x3]) (Nx.wn [x3] (.r .nil)) rfl rfl (by simp) (Nat.le_of_ble_eq_true rfl)),Lg (gJ hl6 (.const (.string HU)) (.tmp 52)),Lg (gJ hl7 (.tmp 53) (.const (.string HU))),Lg (gJ hl8 (.tmp 54) (.tmp 55)),Lg (gJ hl9 (.tmp 51) (.tmp 56)),pk]) (by kernel_rfl)) ?_ ?_ ?_ (λv h=>by cases h;exact .outer .body);rintro⟨J5,RW,SH⟩ j0 hge hq;exact E7 (Ae 300 [pb (dJ hge)]) (by kernel_rfl) (hq (js 4 j0 [(3,bF)]));rintro i0 ⟨J5,RW,SH⟩ j0 r PW Pv k;show Cr  EB i0 J5 RW SH=some r->_;unfold Cr;refine Ay λx20 xL=>?_;refine Ay λlS xM=>?_;refine KY λaKX=>?_;refine KY λaKY=>?_;refine jI λaKZ=>?_;refine jI λaLA=>?_;refine jI λaLB=>?_;refine jI λaLC=>?_;rintro⟨⟩;exact Jw (Ae 300 [pb (W6 PW),G5 (aDT .lost xL),pk,G5 (S6 .full xM),pk,pcv (acA .full [(w8 (BK 98 ((i0:Nat):Int)))]),PG (sH (.row 0 1) J5 [(Oa [(w8 (BK 98 ((i0:Nat):Int)))])] (o:=.full) (n:=1) (ns:=[.zs (Oa [(w8 (BK 98 ((i0:Nat):Int)))])]) (Nx.wn [(Oa [(w8 (BK 98 ((i0:Nat):Int)))])] (.r .nil)) rfl rfl (by simp) (by simpa using aKX)),PG (sH (.row 1 1) SH [lS] (o:=.full) (n:=1) (ns:=[.zs lS]) (Nx.wn [lS] (.r .nil)) rfl rfl (by simp) (by simpa using aKY)),Lg (gJ aKZ (.const (.string HU)) (.tmp 52)),Lg (gJ aLA (.tmp 53) (.const (.string HU))),Lg (gJ aLB (.tmp 54) (.tmp 55)),Lg (gJ aLC (.tmp 51) (.tmp 56)),pi Pv]) (by kernel_rfl) (k (js 4 j0 [(3,bT)]))
 rintro⟨Se,lH,Xb⟩ aOD;dsimp only;refine Ay ?_;rintro⟨aaG,ZK⟩ aeQ;dsimp only;refine Ay ?_;rintro⟨aaH,U7⟩ aeR;dsimp only;let o1:List (PC P (G mx)):=[Hz (args:=[.sl (.row 0 1) Se.length (rows O9 Se),.sl (.row 1 1) Xb.length (rows O9 Xb)]) (.s rfl (.s rfl .nil)) (RG aeQ),Bb (D9 aeR)];refine Ai (λhv=>?_) λhv=>?_;subst hv;refine Ai (λhv=>?_) λhv=>?_;subst hv;refine Ai (λHq=>?_) λHq=>?_;refine Ay λy31 aeS=>?_;refine Ay λy32 aeT=>?_;rintro⟨⟩;exact AJ _ _ (HY 300 (o1++[pb Hq,Bb (Ot aeS),Bb (O0 aeT)])) (by kernel_rfl) .body .sc;rintro⟨⟩;exact AJ _ _ (HY 300 (o1++[pb Hq])) (by kernel_rfl) .body .sc;subst hv;rintro⟨⟩;exact AJ _ _ (HY 300 o1) (by kernel_rfl) .body .sc;subst hv;refine Ai (λhv=>?_) λhv=>?_;subst hv;refine Ai (λIi=>?_) λIi=>?_;refine Ay λx33 aDR=>?_;refine Ai (λJL=>?_) λJL=>?_;rintro⟨⟩;exact AJ _ _ (HY 300 (o1++[pb Ii,G5 (jC .lost aDR),pb JL])) (by kernel_rfl) .body .sc;rintro⟨⟩;exact AJ _ _ (HY 300 (o1++[pb Ii,G5 (jC .lost aDR),pb JL])) (by kernel_rfl) .body .sc;rintro⟨⟩;exact AJ _ _ (HY 300 (o1++[pb Ii])) (by kernel_rfl) .body .sc;subst hv;rintro⟨⟩;exact AJ _ _ (HY 300 o1) (by kernel_rfl) .body .sc;refine Zt (E7 (id:=0) (fr2:=fr 97 [(2,.zb false),(3,.zb y1),(5,.sl .full 1 [.zs aS]),(6,.zs aS),(7,.sl .full 0 []),(16,.zb y1),(19,.zb false),(26,.zb false)] [] []) (s2:=⟨[],0,[],0⟩) (Ae 300 [pb hb2]) (by kernel_rfl)) ?_;refine Ay ?_;rintro⟨U3,JV⟩ Po;dsimp only;refine Ay ?_;rintro⟨Q5,Li⟩ Tw;dsimp only;let o2:List (PC P (G mx)):=[Hz (args:=[.sl .full 1 [.zs aS],.sl .full 0 []]) (.d (.r .nil) (Nx.eq [aS]).symm (.z .nil)) (RG Po),Bb (D9 Tw)];refine Ai (λhv=>?_) λhv=>?_;subst hv;refine Ai (λhv=>?_) λhv=>?_;subst hv;refine Ai (λhb3=>?_) λhb3=>?_;refine Ay λy12 cY=>?_;refine Ay λy13 Tx=>?_;rintro⟨⟩;exact AJ _ _ (SM 300 (o2++[pb hb3,Bb (Ot cY),Bb (O0 Tx)])) (by kernel_rfl) .body .sc;rintro⟨⟩;exact AJ _ _ (SM 300 (o2++[pb hb3])) (by kernel_rfl) .body .sc;subst hv;rintro⟨⟩;exact AJ _ _ (SM 300 o2) (by kernel_rfl) .body .sc;subst hv;refine Ai (λhv=>?_) λhv=>?_;subst hv;refine Ai (λFp=>?_) λFp=>?_;refine Ay λx14 aDQ=>?_;refine Ai (λGZ=>?_) λGZ=>?_;rintro⟨⟩;exact AJ _ _ (SM 300 (o2++[pb Fp,G5 (jC .lost aDQ),pb GZ])) (by kernel_rfl) .body .sc;rintro⟨⟩;exact AJ _ _ (SM 300 (o2++[pb Fp,G5 (jC .lost aDQ),pb GZ])) (by kernel_rfl) .body .sc;rintro⟨⟩;exact AJ _ _ (SM 300 (o2++[pb Fp])) (by kernel_rfl) .body .sc;subst hv;rintro⟨⟩;exact AJ _ _ (SM 300 o2) (by kernel_rfl) .body .sc
end Mo
end Go.Proofs.YtpbkhogolfegfaaGreatDoor

namespace Go.Proofs.YtpbkhogolfegfaaGreatDoor
open AI Go
namespace Mo
set_option maxRecDepth 100000
set_option maxHeartbeats 4000000
def wR(s:ByteArray):Prop:=s.data.toList.length=3/\∀c∈s.data.toList,65<=c.toNat/\c.toNat<=90
def UR(s:ByteArray):Prop:=s=G7\/s=ED\/s=JA\/wR s
def vT(c:UInt8):Prop:=(97<=c.toNat/\c.toNat<=122)\/(48<=c.toNat/\c.toNat<=57)\/c.toNat=95
def tB:List ByteArray:=[S0,Ol,Ig,acW,uF,sB,toS,Vt,bH,Sr,P0,G7,ED,JA,aoE,SZ,LI,OO,S5,Sf,J2,SG,Vf,YY,Tq,bR,Lb,cE,Qc,U9,Kt,FX,Qu]
def QP(s:ByteArray):Prop:=(1<=s.data.toList.length/\s.data.toList.length<=16)/\(∃b,s.data.toList[0]?=some b/\97<=b.toNat/\b.toNat<=122)/\s∉tB/\∀c∈s.data.toList,vT c
def Yt{n:Nd}(h:KJ n):n.CL.ps.length<=9223372036854775807/\n.kids.length<=9223372036854775807/\∀k∈n.kids,KJ k:=by
 obtain⟨a,b,c⟩:=(Py n).1 h;exact⟨a.1,b,c⟩
def afS{α:Type}{l:List α}{P:α->Prop}:(∀(i:Nat) (y:α),l[i]?=some y->P y)↔∀y∈l,P y :=
 ⟨λh y hy=>(List.getElem?_of_mem hy).elim λi hi=>h i y hi,λh i y hi=>h y (List.mem_of_getElem? hi)⟩
def aeZ(s:ByteArray):Il s=some (mb (s∈tB)):=by
 rw[Il];simp only[Rx,MO,jK,ayV];refine smb ?_;simp only[tB,List.mem_cons,List.not_mem_nil,or_false]
def auT(s:ByteArray):s=ByteArray.empty↔s.data.toList.length=0:=by
 constructor;intro h;rw[h];rfl;intro h;apply ByteArray.ext;apply Array.ext';rw[List.eq_nil_of_length_eq_zero h];rfl
def sG(s:ByteArray):D5 s=some (mb (QP s)):=by
 rw[D5];simp only[Rx,OS,MO,aeZ,Option.bind_some];unfold QP;by_cases h0:s=ByteArray.empty;rw[B0 h0];exact eO λh=>by have:=(auT s).1 h0;omega
 have h1:s.data.toList.length≠0:=λh=>h0 ((auT s).2 h);rw[B5 h0];by_cases h2:16 < ((s.data.toList.length:Nat):Int);rw[B0 h2];exact eO λh=>by omega
 rw[B5 h2];obtain⟨b,hb⟩:∃b,s.data.toList[0]?=some b:=⟨_,List.getElem?_eq_getElem (by omega)⟩
 rw[hb,dF (v:=false) (P:=λ_ y=>vT y) (by omega) (λi y _=>by
   simp only[IK,OS,KS,MO,aDY,ayM,anU,ayL,anV,aMN,aMM];congr 2;unfold vT;apply propext;omega)]
 simp only[Option.bind_some,jK,aMQ,afS];refine smb ?_;constructor;rintro⟨h3,h4,h5,h6⟩;exact⟨by omega,⟨b,rfl,by omega⟩,h5,h6⟩;rintro⟨h3,⟨c,hc,h4⟩,h5,h6⟩;cases hc;exact⟨by omega,by omega,h5,h6⟩
def azK(s:ByteArray):Ik s=some (mb (wR s)):=by
 rw[Ik,KS,MO];unfold wR;by_cases h:((s.data.toList.length:Nat):Int)=3
 rw[B0 h,dF (v:=false) (P:=λ_ y=>65<=y.toNat/\y.toNat<=90) (by omega) (λi y _=>by
   simp only[Je,OS,MO,anU,anV];congr 2;apply propext;omega),jK,afS]
 exact smb ⟨λh2=>⟨by omega,h2⟩,λh2=>h2.2⟩;rw[B5 h];exact eO λh2=>h (by omega)
def uD(s:ByteArray):EL s=some (mb (UR s)):=by
 rw[EL];simp only[Rx,MO,azK,Option.bind_some,ayV];rfl
def OZ(n:Int):Prop:=1<=n/\n<=1000000
def UF(n:Int):DN n=some (mb (OZ n)):=by
 rw[DN];simp only[Tz,MO,jK,ayU];rfl
def acC(n:Int):Prop:=0<=n/\n<=36524
def cF(s:ByteArray):Prop:=s=Lb\/s=cE\/s=Qc\/s=U9
def agN(s:ByteArray):Gi s=some (mb (cF s)):=by
 rw[Gi];simp only[Rx,MO,jK,ayV];rfl
def agP(a b:List Pc)(ha:a.length<=9223372036854775807):KO a b=some (mb (a=b)):=by
 rw[KO,KS,MO];by_cases h:((a.length:Nat):Int)=((b.length:Nat):Int)
 rw[B0 h,dF (v:=false) (P:=λi y=>b[i]?=some y) ha (λi y hy=>by
   have hi:i < a.length:=(List.getElem?_eq_some_iff.1 hy).1;have hb:b[i]?=some b[i]:=List.getElem?_eq_getElem (by omega);simp only[LH];rw[hb];simp only[Option.bind_some]
   have hs:O1 y b[i]=mb (b[i]?=some y):=by
     rw[Bool.eq_iff_iff,Ds,hb];unfold O1;simp only[Bool.and_eq_true,Nn,beq_iff_eq,Option.some.injEq];generalize b[i]=z;cases y;cases z;simp only[Pc.mk.injEq];grind
   rw[hs,MO,aDY,hb]),jK]
 refine smb ⟨λh2=>?_,λh2 i y hy=>by rw[<- h2];exact hy⟩;apply List.ext_getElem?;intro i;by_cases hi:i < a.length;rw[List.getElem?_eq_getElem hi,h2 i _ (List.getElem?_eq_getElem hi)];rw[List.getElem?_eq_none (by omega),List.getElem?_eq_none (by omega)];rw[B5 h];exact eO λh2=>h (by rw[h2])
def Gs(n f:Nd):Prop:=n.name=f.name/\n.unit=f.unit/\n.n=f.n/\n.fr=f.fr/\n.to=f.to/\n.known=f.known/\n.CL.den=f.CL.den/\n.CL.ps=f.CL.ps
def XE(n f:Nd)(h:n.CL.ps.length<=9223372036854775807):B7 n f=some (mb (Gs n f)):=by
 rw[B7,agP _ _ h];simp only[Rx,KS,MO,Option.bind_some,ayU];rfl
end Mo
end Go.Proofs.YtpbkhogolfegfaaGreatDoor
namespace Go.Proofs.YtpbkhogolfegfaaGreatDoor
open AI Go
namespace Mo
set_option maxRecDepth 100000
set_option maxHeartbeats 4000000
def pD{p:Prop}(h:¬p):mb p=false:=by rw[We];exact h
def Out(r:Option (Bool×Int))(P:Prop)(t:Int):Prop:=∃z,r=some (mb P,z)/\(P->z=t)
def Out.congr{r:Option (Bool×Int)}{P Q:Prop}{t u:Int}(h:Out r P t)(hp:P↔Q)(ht:Q->t=u):Out r Q u:=by
 obtain⟨z,h1,h2⟩:=h;exact⟨z,by rw[h1,L1 hp],λq=>(h2 (hp.2 q)).trans (ht q)⟩
def J6{Q:Prop}{z u:Int}(h:¬Q):Out (some (false,z)) Q u:=⟨z,by rw[pD h],λq=>absurd q h⟩
def UE{P Q:Prop}{u:Int}(h:P↔Q):Out (some (mb P,u)) Q u:=⟨u,by rw[L1 h],λ_=>rfl⟩
def H9{p Q:Prop}{A:Option (Bool×Int)}{z u:Int}(h:p->Out A Q u)(hq:Q->p):Out (J4 p A (some (false,z))) Q u:=by
 by_cases hp:p;rw[B0 hp];exact h hp;rw[B5 hp];exact J6 λq=>hp (hq q)
def jW{p Q:Prop}{A:Option (Bool×Int)}{z u:Int}(h:¬p->Out A Q u)(hq:Q->¬p):Out (J4 p (some (false,z)) A) Q u:=by
 by_cases hp:p;rw[B0 hp];exact J6 λq=>hq q hp;rw[B5 hp];exact h hp
mutual
def D7:Nd->Nat
 | ⟨_,_,_,_,_,_,_,_,kids,_⟩=>1+Ha kids
def Ha:List Nd->Nat
 | []=>0
 | k::ks=>D7 k+Ha ks
end
mutual
def Of:Nd->Nat
 | ⟨_,_,_,_,_,_,_,_,kids,_⟩=>1+fI kids
def fI:List Nd->Nat
 | []=>0
 | k::ks=>max (Of k) (fI ks)
end
def FU(n:Nd):D7 n=1+Ha n.kids:=by cases n;rw[D7]
def Ni(n:Nd):Of n=1+fI n.kids:=by cases n;rw[Of]
def XP{l:List Nd}{m:Nat}:fI l<=m↔∀k∈l,Of k<=m:=by
 induction l with
 | nil=>simp[fI]
 | cons a l ih=>simp only[fI,Nat.max_le,ih,List.mem_cons,forall_eq_or_imp]
def M5{l:List Nd}{k:Nd}(h:k∈l):D7 k<=Ha l:=by
 induction l with
 | nil=>cases h
 | cons a l ih =>
   rw[Ha];rcases List.mem_cons.1 h with rfl | h
   omega;have:=ih h;omega
def Sj(l:List Nd):l.length<=Ha l:=by
 induction l with
 | nil=>simp[Ha]
 | cons a l ih=>rw[Ha,FU];simp only[List.length_cons];omega
def Sk{n k:Nd}(h:k∈n.kids):D7 k < D7 n:=by rw[FU n];have:=M5 h;omega
def Rh{g:Ck->Nd->Int->Option (Bool×Int)}{p:Nd->Prop}{d:Int}:∀{l:List Nd} {i:Nat} {c:Int},0<=c->c<=2000->(∀k∈l,∀c:Int,0<=c->c<=2000->Out (g ⟨c⟩ k d) (p k/\c+D7 k<=2000/\d+Of k<=41) (c+D7 k)) ->
   Out ((CX (δ:=Int) (ρ:=Bool×Int) (λ_ y (x:Int)=>(g ⟨x⟩ y d).bind λ(En,Bi)=>cond En (some (.nx Bi)) (some (.rt (false,Bi)))) (λx=>x) l i c).bind (N4 (λ(w:Int)=>some (true,w)) (λv=>some v)))
     ((∀k∈l,p k/\d+Of k<=41)/\c+Ha l<=2000) (c+Ha l)
 | [],i,c,h0,h1,_=>⟨c,by rw[Ds.2 ⟨λk hk=>(by cases hk),by simp only[Ha];omega⟩];rfl,λ_=>by simp[Ha]⟩
 | y::l,i,c,h0,h1,hg=>by
   obtain⟨z,hz,h2⟩:=hg y (by simp) c h0 h1;rw[CX,hz];simp only[Option.bind_some];by_cases hp:p y/\c+D7 y<=2000/\d+Of y<=41;rw[Ds.2 hp,h2 hp];show Out ((CX _ _ l (i+1) (c+D7 y)).bind _) _ _;refine(Rh (l:=l) (i:=i+1) (c:=c+D7 y) (by omega) hp.2.1 λk hk=>hg k (by simp[hk])).congr ?_ ?_;rw[Ha];simp only[List.mem_cons,forall_eq_or_imp,Int.natCast_add];constructor;rintro⟨a,b⟩;exact⟨⟨⟨hp.1,hp.2.2⟩,a⟩,by omega⟩;rintro⟨⟨_,a⟩,b⟩;exact⟨a,by omega⟩;intro _;rw[Ha];omega;rw[pD hp];refine⟨z,?_,λq=>?_⟩;show some (false,z)=_;rw[pD];rintro⟨a,b⟩;rw[Ha] at b;have:=a y (by simp);exact hp ⟨this.1,by omega,this.2⟩;exfalso;obtain⟨a,b⟩:=q;rw[Ha] at b;have:=a y (by simp);exact hp ⟨this.1,by omega,this.2⟩
def Ys(n:Nd){c d:Int}(h0:0<=c)(h1:c<=2000):Out (Cz ⟨c⟩ n d) (c+1<=2000/\d<=40) (c+1):=by
 rw[Cz,Gr (by show _<=c+1/\c+1<=_;omega)];simp only[Tz,MO,Option.bind_some];by_cases h:c+1<=2000;rw[B0 h];exact UE ⟨λa=>⟨h,a⟩,λa=>a.2⟩;rw[B5 h];exact J6 λa=>h a.1
def dX(f:Fn)(i:Nat)(p:Pc):Prop:=p.fr<=999999999999/\(∀q,0 < i->f.ps[i - 1]?=some q->q.fr < p.fr)/\XR p.AU f.den=some 0/\p.AU<=BQ 999999999999 f.den/\BQ (-999999999999) f.den<=p.AU/\p.Mg<=1000000/\-1000000<=p.Mg
def lG(f:Fn):Prop:=OZ f.den/\(1<=f.ps.length/\f.ps.length<=64)/\(∀x,f.ps[0]?=some x->x.fr=0)/\∀(i:Nat) p,f.ps[i]?=some p->dX f i p
def aFH(f:Fn)(hl:f.ps.length<=9223372036854775807):GM f=some (mb (lG f)):=by
 rw[GM,UF];simp only[Option.bind_some,MO,OS,KS];unfold lG;by_cases hr:OZ f.den;rotate_left;rw[B5 hr];exact eO λh=>hr h.1;rw[B0 hr];by_cases h1:((f.ps.length:Nat):Int) < 1;rw[B0 h1];exact eO λh=>by omega
 rw[B5 h1];by_cases h2:64 < ((f.ps.length:Nat):Int);rw[B0 h2];exact eO λh=>by omega
 rw[B5 h2];have hx0:f.ps[0]?=some f.ps[0]:=List.getElem?_eq_getElem (by omega);rw[hx0];simp only[Option.bind_some];by_cases h3:f.ps[0].fr=0;rotate_left;rw[B5 h3];exact eO λh=>h3 (h.2.2.1 _ rfl);rw[B0 h3];have aKO:f.den≠0:=by unfold OZ at hr;omega
 rw[dF (v:=false) (P:=λi y=>dX f i y) hl (λi y hy=>by
   have hi:i < f.ps.length:=(List.getElem?_eq_some_iff.1 hy).1;simp only[Ia,OS,MO,Tz,KS];have hd:∃z,XR y.AU f.den=some z:=by unfold XR;rw[if_neg aKO];exact⟨_,rfl⟩
   obtain⟨z,hz⟩:=hd;unfold dX;rw[hz];by_cases h0:(0:Int) < ((i:Nat):Int);rw[B0 h0,QC (by omega)];have hq:f.ps[i - 1]?=some f.ps[i - 1]:=List.getElem?_eq_getElem (by omega)
   have hg:IA f.ps (((i:Nat):Int) - 1)=some f.ps[i - 1]:=by
     unfold IA;rw[show(((i:Nat):Int) - 1).toNat=i - 1 by omega];simp only[hq]
     first | rfl | (rw[if_pos (by omega)])
   rw[hg,hq];simp only[Option.bind_some,anU,anV,ayM,ayL];congr 2;apply propext;simp only[Option.some.injEq,forall_eq'];grind;rw[B5 h0];simp only[Option.bind_some,anU,anV,ayM,ayL];congr 2;apply propext;simp only[Option.some.injEq];have:¬0 < i:=by omega
   grind),jK]
 refine smb ⟨λh=>⟨hr,by omega,λx hx=>by cases hx;exact h3,h⟩,λh=>h.2.2.2⟩
def Yw(s:ByteArray):Prop:=s=E9\/s=Sf\/s=J2\/s=EU\/s=Fw\/s=GP\/s=D0\/s=K6\/s=Jl\/s=MY\/s=Vf
def Qe(k:Nd):Prop:=k.kind=11/\k.unit=ED/\OZ k.n
def SC(n:Nd):Prop :=
 (n.kind=11/\UR n.unit/\0<=n.n/\n.n<=999999999999/\(n.unit=G7->n.n<=1)/\n.kids.length=0/\Gs n ⟨0,ByteArray.empty,n.unit,n.n,0,0,0,⟨0,[]⟩,[],0⟩) \/
 (n.kind=12/\QP n.name/\n.kids.length=0/\Gs n ⟨0,n.name,ByteArray.empty,0,0,0,0,⟨0,[]⟩,[],0⟩) \/
 (n.kind=13/\OZ n.n/\n.kids.length=0/\Gs n ⟨0,ByteArray.empty,ByteArray.empty,n.n,0,0,0,⟨0,[]⟩,[],0⟩) \/
 (n.kind=14/\cF n.name/\n.kids.length=0/\Gs n ⟨0,n.name,ByteArray.empty,0,0,0,0,⟨0,[]⟩,[],0⟩) \/
 (n.kind=15/\n.kids.length=1/\Gs n ⟨0,ByteArray.empty,ByteArray.empty,0,0,0,0,⟨0,[]⟩,[],0⟩) \/
 (n.kind=16/\Gs n ⟨0,n.name,ByteArray.empty,0,0,0,0,⟨0,[]⟩,[],0⟩/\n.kids.length=2/\Yw n.name/\(n.name=E9->∀k,n.kids[1]?=some k->Qe k)) \/
 (n.kind=17/\(n.name=Kt\/n.name=FX)/\Gs n ⟨0,n.name,ByteArray.empty,0,0,0,0,⟨0,[]⟩,[],0⟩/\2<=n.kids.length) \/
 (n.kind=18/\Gs n ⟨0,ByteArray.empty,ByteArray.empty,0,0,0,0,n.CL,[],0⟩/\lG n.CL/\n.kids.length=1)
mutual
def JN:Nd->Prop
 | ⟨kind,name,unit,n,fr,to,known,CL,kids,AU⟩=>SC ⟨kind,name,unit,n,fr,to,known,CL,kids,AU⟩/\acS kids
def acS:List Nd->Prop
 | []=>True
 | k::ks=>JN k/\acS ks
end
def acT{l:List Nd}:acS l↔∀k∈l,JN k:=by
 induction l with
 | nil=>simp[acS]
 | cons k l ih=>simp[acS,ih]
def Ja(n:Nd):JN n↔SC n/\∀k∈n.kids,JN k:=by cases n;rw[JN,acT]
end Mo
end Go.Proofs.YtpbkhogolfegfaaGreatDoor
namespace Go.Proofs.YtpbkhogolfegfaaGreatDoor
open AI Go
namespace Mo
set_option maxRecDepth 100000
set_option maxHeartbeats 4000000
def L4{r:Option (Bool×Int)}{P Q:Prop}{t u:Int}{f:Bool×Int->Option (Bool×Int)}(h:Out r P t)(hT:P->Out (f (true,t)) Q u)(hF:∀z,¬P->Out (f (false,z)) Q u):Out (r.bind f) Q u:=by
 obtain⟨z,rfl,h2⟩:=h;by_cases hp:P;rw[Ds.2 hp,h2 hp];exact hT hp;rw[pD hp];exact hF z hp
def azI{Q:Prop}{t u:Int}(hq:Q)(h:t=u):Out (some (true,t)) Q u:=⟨t,by rw[Ds.2 hq],λ_=>h⟩
def L3{r:Option (Bool×Int)}{P Q:Prop}{t u:Int}(h:Out r P t)(hp:P↔Q)(ht:P->t=u):Out (r.bind λ(a,b)=>some (a,b)) Q u :=
 L4 h (λp=>azI (hp.1 p) (ht p)) λ_ p=>J6 λq=>p (hp.2 q)
section
variable {p q r:Prop} {z:Int}
def dU:J4 p (some (mb q,z)) (some (false,z))=some (mb (p/\q),z):=by
 by_cases h:p;rw[B0 h];congr 2;exact L1 ⟨λa=>⟨h,a⟩,λa=>a.2⟩;rw[B5 h,pD];exact λa=>h a.1
def pT:J4 p (some (false,z)) (some (mb q,z))=some (mb (¬p/\q),z):=by
 by_cases h:p;rw[B0 h,pD];exact λa=>a.1 h;rw[B5 h];congr 2;exact L1 ⟨λa=>⟨h,a⟩,λa=>a.2⟩
def yF:J4 p (some (mb q,z)) (some (mb r,z))=some (mb ((p->q)/\(¬p->r)),z):=by
 by_cases h:p;rw[B0 h];congr 2;exact L1 ⟨λa=>⟨λ_=>a,λb=>absurd h b⟩,λa=>a.1 h⟩;rw[B5 h];congr 2;exact L1 ⟨λa=>⟨λb=>absurd b h,λ_=>a⟩,λa=>a.2 h⟩
end
section
variable {n:Nd}
def aJR(h:n.kind=11):SC n↔UR n.unit/\0<=n.n/\n.n<=999999999999/\(n.unit=G7->n.n<=1)/\n.kids.length=0/\Gs n ⟨0,ByteArray.empty,n.unit,n.n,0,0,0,⟨0,[]⟩,[],0⟩:=by unfold SC;simp[h]
def aJS(h:n.kind=12):SC n↔QP n.name/\n.kids.length=0/\Gs n ⟨0,n.name,ByteArray.empty,0,0,0,0,⟨0,[]⟩,[],0⟩:=by unfold SC;simp[h]
def aJT(h:n.kind=13):SC n↔OZ n.n/\n.kids.length=0/\Gs n ⟨0,ByteArray.empty,ByteArray.empty,n.n,0,0,0,⟨0,[]⟩,[],0⟩:=by unfold SC;simp[h]
def aJU(h:n.kind=14):SC n↔cF n.name/\n.kids.length=0/\Gs n ⟨0,n.name,ByteArray.empty,0,0,0,0,⟨0,[]⟩,[],0⟩:=by unfold SC;simp[h]
def aJV(h:n.kind=15):SC n↔n.kids.length=1/\Gs n ⟨0,ByteArray.empty,ByteArray.empty,0,0,0,0,⟨0,[]⟩,[],0⟩:=by unfold SC;simp[h]
def aJW(h:n.kind=16):SC n↔Gs n ⟨0,n.name,ByteArray.empty,0,0,0,0,⟨0,[]⟩,[],0⟩/\n.kids.length=2/\Yw n.name/\(n.name=E9->∀k,n.kids[1]?=some k->Qe k):=by unfold SC;simp[h]
def aJX(h:n.kind=17):SC n↔(n.name=Kt\/n.name=FX)/\Gs n ⟨0,n.name,ByteArray.empty,0,0,0,0,⟨0,[]⟩,[],0⟩/\2<=n.kids.length:=by unfold SC;simp[h]
def aJY(h:n.kind=18):SC n↔Gs n ⟨0,ByteArray.empty,ByteArray.empty,0,0,0,0,n.CL,[],0⟩/\lG n.CL/\n.kids.length=1:=by unfold SC;simp[h]
def amN(h:SC n):n.kind=11\/n.kind=12\/n.kind=13\/n.kind=14\/n.kind=15\/n.kind=16\/n.kind=17\/n.kind=18:=by
 unfold SC at h;rcases h with h | h | h | h | h | h | h | h
 all_goals
   have:=h.1;simp[this]
end
def Oh(l:List Nd)(c d:Int):Prop:=(∀k∈l,JN k/\d+Of k<=41)/\c+Ha l<=2000
def auD{l:List Nd}{c d:Int}(h:l.length=0)(hc:c<=2000):Oh l c d/\c=c+Ha l:=by
 obtain rfl:=List.eq_nil_of_length_eq_zero h;exact⟨⟨(λk hk=>(by cases hk)),(by simp only[Ha];omega)⟩,(by simp[Ha])⟩
def auE{x:Nd}{c d:Int}:Oh [x] c d↔JN x/\c+D7 x<=2000/\d+Of x<=41:=by
 unfold Oh;simp only[List.mem_singleton,forall_eq,Ha,Nat.add_zero];exact⟨λa=>⟨a.1.1,a.2,a.1.2⟩,λa=>⟨⟨a.1,a.2.2⟩,a.2.1⟩⟩
def jE{x y:Nd}{c d:Int}:Oh [x,y] c d↔(JN x/\c+D7 x<=2000/\d+Of x<=41)/\JN y/\c+D7 x+D7 y<=2000/\d+Of y<=41:=by
 unfold Oh;simp only[List.mem_cons,List.not_mem_nil,or_false,forall_eq_or_imp,forall_eq,Ha,Nat.add_zero,Int.natCast_add];constructor;rintro⟨⟨⟨a,b⟩,c',d'⟩,e⟩;exact⟨⟨a,by omega,b⟩,c',by omega,d'⟩;rintro⟨⟨a,b,c'⟩,d',e,f⟩;exact⟨⟨⟨a,c'⟩,d',f⟩,by omega⟩
abbrev ExS(g:Ck->Nd->Int->Option (Bool×Int))(n:Nd):Prop:=∀(c d:Int),0<=c->c<=2000->0<=d->d<=41->Out (g ⟨c⟩ n d) (JN n/\c+D7 n<=2000/\d+Of n<=41) (c+D7 n)
def aC{g:Ck->Nd->Int->Option (Bool×Int)}{b a:Ck->Nd->Int->Option (Bool×Int)}{l:Ck->List Nd->Int->Option (Bool×Int)}{n:Nd}(h:ExS g n){c d:Int}(h0:0<=c)(h1:c<=2000)(h2:0<=d)(h3:d<=41) :
   Out (C5 g b a l ⟨c⟩ n d) ((JN n/\Qe n)/\c+D7 n<=2000/\d+Of n<=41) (c+D7 n):=by
 rw[C5];simp only[KS,Rx,MO,UF,Option.bind_some];refine L4 (h c d h0 h1 h2 h3) (λhp=>?_) λz hp=>J6 λq=>hp ⟨q.1.1,q.2⟩;show Out (J4 (n.kind=11) (J4 (n.unit=ED) (some (mb (OZ n.n),c+D7 n)) (some (false,c+D7 n))) (some (false,c+D7 n))) _ _;rw[dU,dU];exact UE ⟨λa=>⟨⟨hp.1,a⟩,hp.2⟩,λa=>a.1.2⟩
def wJ{g n':Ck->Nd->Int->Option (Bool×Int)}{b:Ck->Nd->Int->Option (Bool×Int)}{l:Ck->List Nd->Int->Option (Bool×Int)}{n:Nd}(hg:∀k∈n.kids,ExS g k)
   (hn:∀k∈n.kids,∀c d:Int,0<=c->c<=2000->0<=d->d<=41->Out (n' ⟨c⟩ k d) ((JN k/\Qe k)/\c+D7 k<=2000/\d+Of k<=41) (c+D7 k)) {c d:Int} (h0:0<=c) (h1:c<=2000) (h2:0<=d) (h3:d<=40) :
   Out (C4 g b n' l ⟨c⟩ n d) ((n.kids.length=2/\Yw n.name/\(n.name=E9->∀k,n.kids[1]?=some k->Qe k))/\Oh n.kids c (d+1)) (c+Ha n.kids):=by
 rw[C4,Gr (by omega)];simp only[KS,Rx,MO];generalize hl:n.kids=ks at *;by_cases hlen:((ks.length:Nat):Int)=2;rotate_left;rw[B5 hlen];exact J6 λq=>hlen (by have:=q.1.1;omega);rw[B0 hlen]
 match ks,hlen with
 | [x,y],_ =>
 simp only[List.getElem?_cons_zero,List.getElem?_cons_succ,Option.bind_some];refine L4 (hg x (by simp) c (d+1) h0 h1 (by omega) (by omega)) (λhx=>?_) λz hx=>J6 λq=>hx (jE.1 q.2).1;dsimp only;rw[cond_true];have hsz:Ha [x,y]=D7 x+D7 y:=by simp[Ha]
 have hy:=λhc=>hg y (by simp) (c+D7 x) (d+1) (by omega) hc (by omega) (by omega);have hn':=λhc=>hn y (by simp) (c+D7 x) (d+1) (by omega) hc (by omega) (by omega);have hy:=hy hx.2.1;have hn':=hn' hx.2.1;by_cases hs:n.name=E9;rw[B0 hs];refine L3 hn' ⟨λa=>⟨⟨rfl,.inl hs,λ_ k hk=>by cases hk;exact a.1.2⟩,jE.2 ⟨hx,a.1.1,a.2⟩⟩,λa=>?_⟩ (λa=>by rw[hsz];omega);have:=(jE.1 a.2).2;exact⟨⟨this.1,a.1.2.2 hs y rfl⟩,this.2⟩;rw[B5 hs]
 have fin:∀iU:Yw n.name,Out ((g ⟨c+D7 x⟩ y (d+1)).bind λ(a,b)=>some (a,b)) ((([x,y]:List Nd).length=2/\Yw n.name/\(n.name=E9->∀k,some y=some k->Qe k))/\Oh [x,y] c (d+1)) (c+Ha [x,y]):=λiU =>
   L3 hy ⟨λa=>⟨⟨rfl,iU,λe=>absurd e hs⟩,jE.2 ⟨hx,a⟩⟩,λa=>(jE.1 a.2).2⟩ (λa=>by rw[hsz];omega)
 have step:∀{s:ByteArray} {A:Option (Bool×Int)},(n.name=s->Yw n.name)->(n.name≠s->Out A ((([x,y]:List Nd).length=2/\Yw n.name/\(n.name=E9->∀k,some y=some k->Qe k))/\Oh [x,y] c (d+1)) (c+Ha [x,y])) ->
     Out (J4 (n.name=s) ((g ⟨c+D7 x⟩ y (d+1)).bind λ(a,b)=>some (a,b)) A) ((([x,y]:List Nd).length=2/\Yw n.name/\(n.name=E9->∀k,some y=some k->Qe k))/\Oh [x,y] c (d+1)) (c+Ha [x,y]):=by
   intro s A h4 h5;by_cases h:n.name=s;rw[B0 h];exact fin (h4 h);rw[B5 h];exact h5 h
 refine step (λe=>by unfold Yw;simp[e]) λe1=>?_;refine step (λe=>by unfold Yw;simp[e]) λe2=>?_;refine step (λe=>by unfold Yw;simp[e]) λe3=>?_;refine step (λe=>by unfold Yw;simp[e]) λe4=>?_;refine step (λe=>by unfold Yw;simp[e]) λe5=>?_;refine step (λe=>by unfold Yw;simp[e]) λe6=>?_;refine step (λe=>by unfold Yw;simp[e]) λe7=>?_;refine step (λe=>by unfold Yw;simp[e]) λe8=>?_;refine step (λe=>by unfold Yw;simp[e]) λe9=>?_;refine step (λe=>by unfold Yw;simp[e]) λe10=>?_
 exact J6 λq=>by
   have:=q.1.2.1;unfold Yw at this;simp[hs,e1,e2,e3,e4,e5,e6,e7,e8,e9,e10] at this
def afD{A L B T:Prop}{x:Int}:(A/\¬x < 0/\¬999999999999 < x/\(T->¬1 < x/\L/\B)/\(¬T->L/\B))↔A/\0<=x/\x<=999999999999/\(T->x<=1)/\L/\B:=by
 constructor;rintro⟨a,b,c,d,e⟩;by_cases t:T;exact⟨a,by omega,by omega,λ_=>by have:=(d t).1;omega,(d t).2⟩;exact⟨a,by omega,by omega,λh=>absurd h t,e t⟩;rintro⟨a,b,c,d,e⟩;exact⟨a,by omega,by omega,λt=>⟨by have:=d t;omega,e⟩,λ_=>e⟩
def acQ:∀(q:Nat) (n:Nd),KJ n->3*D7 n<=q->ExS (AG q) n:=by
 intro q
 induction q using Nat.strongRecOn with
 | _ q ih =>
 intro n RB hq c d h0 h1 h2 h3;have hsz:=FU n;obtain⟨q,rfl⟩:∃k,q=k+1:=⟨q - 1,by omega⟩;obtain⟨sT,hkl,fM⟩:=Yt RB;have hE:∀k∈n.kids,∀q',q<=q'+2->q' < q+1->ExS (AG q') k:=λk hk q' h4 h5=>ih q' h5 k (fM k hk) (by have:=M5 hk;omega);rw[AG,Ea];refine L4 (Ys n h0 h1) (λhp=>?_) λz hp=>J6 λa=>hp ⟨by omega,by have:=Ni n;omega⟩;dsimp only;rw[cond_true];refine Out.congr (P:=SC n/\Oh n.kids (c+1) (d+1)) (t:=(c+1)+Ha n.kids) ?_ ?_ (λ_=>by omega);rotate_left;rw[Ja,Ni];unfold Oh;have hd:=@XP n.kids;constructor;rintro⟨a,b,e⟩;refine⟨⟨a,λk hk=>(b k hk).1⟩,by omega,?_⟩;have:=(hd (m:=(40 - d).toNat)).2 λk hk=>by have:=(b k hk).2;omega
 omega;rintro⟨⟨a,b⟩,e,f⟩;refine⟨a,λk hk=>⟨b k hk,?_⟩,by omega⟩;have:=(hd (m:=fI n.kids)).1 (Nat.le_refl _) k hk;omega;have hc1:=hp.1;have hd1:=hp.2;rw[Gr (a:=d) (b:=1) (by omega)];have e0:(((n.kids.length:Nat):Int)=0)=(n.kids.length=0):=propext (by omega);simp only[KS,Tz,OS,Rx,MO,uD,sG,UF,agN,aFH _ sT,XE _ _ sT,Option.bind_some,e0];have Yb:∀{B:Prop},(B↔SC n)->(B->n.kids.length=0)->Out (some (mb B,c+1)) (SC n/\Oh n.kids (c+1) (d+1)) (c+1+Ha n.kids):=λhB hk=>(UE hB).congr ⟨λa=>⟨a,(auD (hk (hB.2 a)) hc1).1⟩,λa=>a.1⟩ λa=>(auD (d:=d+1) (hk (hB.2 a.1)) hc1).2
 have hone:∀{B:Prop},(SC n↔B/\n.kids.length=1)->B->n.kids.length=1->Out ((n.kids[0]?).bind λx=>(AG q ⟨c+1⟩ x (d+1)).bind λ(a,b)=>some (a,b)) (SC n/\Oh n.kids (c+1) (d+1)) (c+1+Ha n.kids):=by
   intro B hB hb hl;have Gm:=λk hk=>hE k hk q (by omega) (by omega);have hx:=hB.2 ⟨hb,hl⟩;generalize n.kids=ks at *
   match ks,hl with
   | [x],_ =>
   simp only[List.getElem?_cons_zero,Option.bind_some];refine L3 (Gm x (by simp) (c+1) (d+1) (by omega) hc1 (by omega) (by omega)) ⟨λa=>⟨hx,auE.2 a⟩,λa=>auE.1 a.2⟩ λ_=>?_;simp[Ha]
 by_cases k11:n.kind=11;rw[B0 k11];simp only[dU,pT,yF];refine Yb ?_ ?_;rw[aJR k11];exact afD;intro h;exact(afD.1 h).2.2.2.2.1;rw[B5 k11];by_cases k12:n.kind=12;rw[B0 k12];simp only[dU,pT,yF];refine Yb ?_ ?_;rw[aJS k12];intro h;exact h.2.1;rw[B5 k12];by_cases k13:n.kind=13;rw[B0 k13];simp only[dU,pT,yF];refine Yb ?_ ?_;rw[aJT k13];intro h;exact h.2.1;rw[B5 k13];by_cases k14:n.kind=14;rw[B0 k14];simp only[dU,pT,yF];refine Yb ?_ ?_;rw[aJU k14];intro h;exact h.2.1;rw[B5 k14];by_cases k15:n.kind=15;rw[B0 k15];have e:=aJV k15;refine H9 (λhl=>H9 (λhb=>hone (e.trans And.comm) hb (by omega)) λa=>(e.1 a.1).2) λa=>?_;have:=(e.1 a.1).1;omega;rw[B5 k15];by_cases k16:n.kind=16;rw[B0 k16];have e:=aJW k16;refine H9 (λhb=>?_) λa=>(e.1 a.1).1;obtain⟨q,rfl⟩:∃k,q=k+1:=⟨q - 1,by omega⟩;rw[AW];refine L3 (wJ (g:=AG q) (b:=AW q) (n':=AK q) (l:=AF q) (λk hk=>hE k hk q (by omega) (by omega)) (λk hk c d a1 a2 a3 a4=>?_) (by omega) hc1 h2 hd1) ?_ λ_=>rfl;obtain⟨q,rfl⟩:∃k,q=k+1:=⟨q - 1,by have:=Sk hk;have:=FU k;omega⟩;rw[AK];exact aC (hE k hk q (by omega) (by omega)) a1 a2 a3 a4;rw[e];exact⟨λa=>⟨⟨hb,a.1⟩,a.2⟩,λa=>⟨a.1.2,a.2⟩⟩;rw[B5 k16];by_cases k17:n.kind=17;rw[B0 k17];have e:=aJX k17
 have I2:(n.name=Kt\/n.name=FX)->Out (J4 (Gs n ⟨0,n.name,ByteArray.empty,0,0,0,0,⟨0,[]⟩,[],0⟩) (J4 (2<=((n.kids.length:Nat):Int)) ((AF q ⟨c+1⟩ n.kids (d+1)).bind λ(a,b)=>some (a,b)) (some (false,c+1))) (some (false,c+1))) (SC n/\Oh n.kids (c+1) (d+1)) (c+1+Ha n.kids):=by
   intro hn;refine H9 (λhb=>H9 (λhl=>?_) λa=>?_) λa=>(e.1 a.1).2.1;obtain⟨q,rfl⟩:∃k,q=k+1:=⟨q - 1,by have:=Sj n.kids;omega⟩;rw[AF,Df,Hw hkl,List.drop_zero];dsimp only;refine L3 (Rh (g:=AG q) (p:=JN) (d:=d+1) (by omega) hc1 λk hk c' b0 b1=>hE k hk q (by omega) (by omega) c' (d+1) b0 b1 (by omega) (by omega)) ?_ λ_=>rfl;rw[e];exact⟨λa=>⟨⟨hn,hb,by omega⟩,a⟩,λa=>a.2⟩;have:=(e.1 a.1).2.2;omega
 by_cases hn1:n.name=Kt;rw[B0 hn1];exact I2 (.inl hn1);rw[B5 hn1];exact H9 (λhn2=>I2 (.inr hn2)) λa=>(e.1 a.1).1.resolve_left hn1;rw[B5 k17];by_cases k18:n.kind=18;rw[B0 k18];have e:=aJY k18;refine H9 (λhb=>H9 (λht=>H9 (λhl=>hone (B:=Gs n ⟨0,ByteArray.empty,ByteArray.empty,0,0,0,0,n.CL,[],0⟩/\lG n.CL) (e.trans (by rw[and_assoc])) ⟨hb,ht⟩ (by omega)) λa=>?_) λa=>(e.1 a.1).2.1) λa=>(e.1 a.1).1;have:=(e.1 a.1).2.2;omega;rw[B5 k18];exact J6 λa=>by have:=amN a.1;omega
def Le{β:Type}(a b:Option β):Prop:=∀y,a=some y->b=some y
section
variable {α β γ δ ρ:Type}
def Le.refl(a:Option β):Le a a:=λ_ h=>h
def Oi{a a':Option α}{f g:α->Option β}(h:Le a a')(k:∀x,Le (f x) (g x)):Le (a.bind f) (a'.bind g):=by
 intro y hy;cases a with
 | none=>cases hy
 | some x=>rw[h x rfl];exact k x y hy
def tD{b:Bool}{x x' y y':Option β}(h:Le x x')(k:Le y y'):Le (cond b x y) (cond b x' y'):=by cases b;exact k;exact h
def ayQ{n:Nat}{x x':Option β}(h:Le x x'):Le (Lk n x) (Lk n x'):=by
 unfold Lk;split;exact h;exact Le.refl _
def tE{body atB:Nat->α->γ->Option (Lp γ δ ρ)}{done:γ->δ}(h:∀i y x,Le (body i y x) (atB i y x)):∀(l:List α) (i:Nat) (x:γ),Le (CX body done l i x) (CX atB done l i x)
 | [],_,_=>Le.refl _
 | a::l,i,x=>by
   rw[CX,CX];refine Oi (h i a x) λz=>?_;cases z with
   | nx x'=>exact tE h l (i+1) x'
   | ex d=>exact Le.refl _
   | rt v=>exact Le.refl _
end
def cJ:∀q:Nat,(∀c n d,Le (AG q c n d) (AG (q+1) c n d))/\(∀c n d,Le (AW q c n d) (AW (q+1) c n d))/\(∀c n d,Le (AK q c n d) (AK (q+1) c n d))/\(∀c n d,Le (AF q c n d) (AF (q+1) c n d))
 | 0=>⟨(λ_ _ _ _ h=>nomatch h),(λ_ _ _ _ h=>nomatch h),(λ_ _ _ _ h=>nomatch h),(λ_ _ _ _ h=>nomatch h)⟩
 | q+1=>by
   obtain⟨i1,i2,i3,i4⟩:=cJ q;refine⟨λc n d=>?_,λc n d=>?_,λc n d=>?_,λc n d=>?_⟩
   · rw[AG,AG,Ea,Ea]
     repeat' first
       | exact Le.refl _
       | exact i1 _ _ _
       | exact i2 _ _ _
       | exact i4 _ _ _
       | refine tD ?_ ?_
       | refine Oi ?_ λ⟨_,_⟩=>?_
       | refine Oi ?_ λ_=>?_
   · rw[AW,AW,C4,C4]
     repeat' first
       | exact Le.refl _
       | exact i1 _ _ _
       | exact i3 _ _ _
       | refine tD ?_ ?_
       | refine Oi ?_ λ⟨_,_⟩=>?_
       | refine Oi ?_ λ_=>?_
   rw[AK,AK,C5,C5];exact Oi (i1 _ _ _) λ_=>Le.refl _;rw[AF,AF,Df,Df];refine Oi (ayQ (tE (λi y x=>?_) _ _ _)) λ_=>Le.refl _;rw[DM,DM];exact Oi (i1 _ _ _) λ_=>Le.refl _
def acP{β:Type}{f:Nat->Option β}(h:∀q,Le (f q) (f (q+1))){q:Nat}{y:β}(hy:f q=some y):evt f=some y:=by
 refine Vk q λm hm=>?_
 induction m with
 | zero=>obtain rfl:q=0:=by omega
         exact hy
 | succ m ih =>
   rcases Nat.lt_or_ge m q with hlt | hge
   obtain rfl:q=m+1:=by omega
   exact hy;exact h m y (ih hge)
def acR{n:Nd}(RB:KJ n):ExS GU n:=by
 intro c d h0 h1 h2 h3;obtain⟨z,hz,hz2⟩:=acQ (3*D7 n) n RB (Nat.le_refl _) c d h0 h1 h2 h3;exact⟨z,acP (λq=>(cJ q).1 _ _ _) hz,hz2⟩
def agE{n:Nd}(RB:KJ n){c d:Int}(h0:0<=c)(h1:c<=2000)(h2:0<=d)(h3:d<=41):Out (FY ⟨c⟩ n d) ((JN n/\Qe n)/\c+D7 n<=2000/\d+Of n<=41) (c+D7 n):=by
 obtain⟨z,hz,hz2⟩:=aC (g:=AG (3*D7 n)) (b:=AW (3*D7 n)) (a:=AK (3*D7 n)) (l:=AF (3*D7 n)) (acQ (3*D7 n) n RB (Nat.le_refl _)) h0 h1 h2 h3;exact⟨z,acP (q:=3*D7 n+1) (λq=>(cJ q).2.2.1 _ _ _) (by rw[AK];exact hz),hz2⟩
end Mo
end Go.Proofs.YtpbkhogolfegfaaGreatDoor
namespace Go.Proofs.YtpbkhogolfegfaaGreatDoor
open AI Go
namespace Mo
set_option maxRecDepth 100000
set_option maxHeartbeats 4000000
abbrev z0:Nd:=⟨0,ByteArray.empty,ByteArray.empty,0,0,0,0,⟨0,[]⟩,[],0⟩
def azL(n:Int):Gw n=some (mb (acC n)):=by
 rw[Gw];simp only[Tz,MO,jK,ayU];rfl
def QJ(n:Nd):Prop:=n.kind=5/\(0<=n.n/\n.n<=1000000)/\n.kids.length=0/\acC n.fr/\(n.fr < n.to/\n.to<=36525)/\acC n.known/\Gs n ⟨0,ByteArray.empty,ByteArray.empty,n.n,n.fr,n.to,n.known,⟨0,[]⟩,[],0⟩
def Km(n:Nd):Prop:=Gs n z0/\(n.kind=7->0 < n.kids.length/\∀k∈n.kids,JN k/\Qe k)/\(n.kind≠7->n.kids.length=1/\∀k∈n.kids,JN k)
def tF{n:Nd}(h:n.kids.length=0):D7 n=1/\Of n=1:=by
 have:=List.eq_nil_of_length_eq_zero h;rw[FU,Ni,this];exact⟨rfl,rfl⟩
def axF{n:Nd}(RB:KJ n){c d:Int}(h0:0<=c)(h1:c<=2000):Out (Fi ⟨c⟩ n d) (QJ n/\c+D7 n<=2000/\d+Of n<=41) (c+D7 n):=by
 obtain⟨sT,hkl,fM⟩:=Yt RB;have hsz:=FU n;have hdp:=Ni n;rw[Fi];refine L4 (Ys n h0 h1) (λhp=>?_) λz hp=>J6 λa=>hp ⟨by omega,by omega⟩;dsimp only;rw[cond_true];simp only[KS,Tz,OS,MO,azL,XE _ _ sT,Option.bind_some,dU,pT]
 have key:(n.kind=5/\¬n.n < 0/\¬1000000 < n.n/\¬(0:Int) < ((n.kids.length:Nat):Int)/\acC n.fr/\¬n.to<=n.fr/\¬36525 < n.to/\acC n.known/\Gs n ⟨0,ByteArray.empty,ByteArray.empty,n.n,n.fr,n.to,n.known,⟨0,[]⟩,[],0⟩)↔QJ n:=by
   unfold QJ;constructor;rintro⟨a,b,c',e,f,g,h,i,j⟩;exact⟨a,⟨by omega,by omega⟩,by omega,f,⟨by omega,by omega⟩,i,j⟩;rintro⟨a,b,c',f,g,i,j⟩;exact⟨a,by omega,by omega,by omega,f,by omega,by omega,i,j⟩
 refine(UE key).congr ⟨λa=>⟨a,?_⟩,λa=>a.1⟩ λa=>?_;have:=tF a.2.2.1;omega;have:=tF a.1.2.2.1;omega
def abT{n:Nd}(RB:KJ n){c d:Int}(h0:0<=c)(h1:c<=2000)(h2:0<=d):Out (DD ⟨c⟩ n d) (Km n/\c+D7 n<=2000/\d+Of n<=41) (c+D7 n):=by
 obtain⟨sT,hkl,fM⟩:=Yt RB;have hsz:=FU n;have hdp:=Ni n;have hd:=@XP n.kids;rw[DD];refine L4 (Ys n h0 h1) (λhp=>?_) λz hp=>J6 λa=>hp ⟨by omega,by omega⟩;dsimp only;rw[cond_true,Gr (a:=d) (b:=1) (by omega)];simp only[KS,OS,MO,XE _ _ sT,Option.bind_some];have hc1:=hp.1;have hd1:=hp.2
 have R7:(∀k∈n.kids,d+1+Of k<=41)↔d+Of n<=41:=by
   constructor;intro h;have:=(hd (m:=(40 - d).toNat)).2 λk hk=>by have:=h k hk;omega
   omega;intro h k hk;have:=(hd (m:=fI n.kids)).1 (Nat.le_refl _) k hk;omega
 refine H9 (λhb=>?_) λa=>a.1.1;by_cases k7:n.kind=7;rw[B0 k7];refine H9 (λhl=>?_) λa=>by have:=(a.1.2.1 k7).1;omega
 rw[EF,Hw hkl,List.drop_zero];dsimp only;refine L3 (Rh (g:=FY) (p:=λk=>JN k/\Qe k) (d:=d+1) (by omega) hc1 λk hk c' b0 b1=>agE (fM k hk) b0 b1 (by omega) (by omega)) ⟨λa=>⟨⟨hb,λ_=>⟨by omega,λk hk=>(a.1 k hk).1⟩,λh=>absurd k7 h⟩,by omega,R7.1 λk hk=>(a.1 k hk).2⟩,λa=>⟨λk hk=>⟨(a.1.2.1 k7).2 k hk,R7.2 a.2.2 k hk⟩,by omega⟩⟩ λ_=>by omega
 · rw[B5 k7]
   refine H9 (λhl=>?_) λa=>by have:=(a.1.2.2 k7).1;omega
   have hl1:n.kids.length=1:=by omega
   unfold Km;generalize n.kids=ks at *
   match ks,hl1 with
   | [x],_ =>
   simp only[List.getElem?_cons_zero,Option.bind_some];have e1:Ha [x]=D7 x:=by simp[Ha]
   refine L3 (acR (fM x (by simp)) (c+1) (d+1) (by omega) hc1 (by omega) (by omega)) ⟨λa=>⟨⟨hb,λh=>absurd h k7,λ_=>⟨rfl,λk hk=>by rw[List.mem_singleton.1 hk];exact a.1⟩⟩,by omega,R7.1 λk hk=>by rw[List.mem_singleton.1 hk];exact a.2.2⟩,λa=>⟨(a.1.2.2 k7).2 x (by simp),by omega,R7.2 a.2.2 x (by simp)⟩⟩ λ_=>by omega
def Hb(k:Int):List Nd->Nat
 | []=>0
 | a::l=>(if a.kind=k then 1 else 0)+Hb k l
def kinds(l:List Nd):Prop:=∀k∈l,6<=k.kind/\k.kind<=8
def Yi{y:Int}:∀{l:List Nd} {i:Nat} {a b c:Int},0<=a->0<=b->0<=c->a+l.length<=9223372036854775807->b+l.length<=9223372036854775807->c+l.length<=9223372036854775807 ->
   CX (λi z x=>DU y i z x.1 x.2.1 x.2.2) (λx=>(x.1,x.2.1,x.2.2)) l i (a,b,c)=some (J4 (kinds l) (.inl (a+Hb 6 l,b+Hb 7 l,c+Hb 8 l)) (.inr (false,y)))
 | [],i,a,b,c,_,_,_,_,_,_=>by rw[B0 (show kinds [] from λk hk=>(by cases hk))];simp[CX,Hb]
 | z::l,i,a,b,c,h1,h2,h3,h4,h5,h6=>by
   simp only[List.length_cons] at h4 h5 h6;rw[CX,DU];simp only[OS,KS,MO];have hk:kinds (z::l)↔(6<=z.kind/\z.kind<=8)/\kinds l:=by unfold kinds;simp
   have go:∀{a' b' c':Int},0<=a'->0<=b'->0<=c'->a'<=a+1->b'<=b+1->c'<=c+1->6<=z.kind/\z.kind<=8->a'+Hb 6 l=a+Hb 6 (z::l)->b'+Hb 7 l=b+Hb 7 (z::l)->c'+Hb 8 l=c+Hb 8 (z::l) ->
       (some (Lp.nx (a',b',c'))).bind (Og (CX (λi z x=>DU y i z x.1 x.2.1 x.2.2) (λx=>(x.1,x.2.1,x.2.2)) l (i+1)))=some (J4 (kinds (z::l)) (.inl (a+Hb 6 (z::l),b+Hb 7 (z::l),c+Hb 8 (z::l))) (.inr (false,y))):=by
     intro a' b' c' g1 g2 g3 g4 g5 g6 gk e1 e2 e3;show CX _ _ l (i+1) (a',b',c')=_;rw[Yi g1 g2 g3 (by omega) (by omega) (by omega),e1,e2,e3];by_cases hl:kinds l;rw[B0 hl,B0 (hk.2 ⟨gk,hl⟩)];rw[B5 hl,B5 λq=>hl (hk.1 q).2]
   by_cases k6:z.kind < 6;rw[B0 k6,B5 λq=>by have:=(hk.1 q).1;omega];rfl;rw[B5 k6];by_cases k8:8 < z.kind;rw[B0 k8,B5 λq=>by have:=(hk.1 q).1;omega];rfl;rw[B5 k8];by_cases e6:z.kind=6;rw[B0 e6,Gr (by omega)];exact go (by omega) h2 h3 (by omega) (by omega) (by omega) (by omega) (by simp[Hb,e6];omega) (by simp[Hb,e6]) (by simp[Hb,e6]);rw[B5 e6];by_cases e7:z.kind=7;rw[B0 e7,Gr (by omega)];exact go h1 (by omega) h3 (by omega) (by omega) (by omega) (by omega) (by simp[Hb,e7]) (by simp[Hb,e7];omega) (by simp[Hb,e7]);rw[B5 e7];have e8:z.kind=8:=by omega
   rw[B0 e8,Gr (by omega)];exact go h1 h2 (by omega) (by omega) (by omega) (by omega) (by omega) (by simp[Hb,e8]) (by simp[Hb,e8]) (by simp[Hb,e8];omega)
def wD(n:Nd):Prop:=OZ n.n/\QP n.name/\Gs n ⟨0,n.name,ByteArray.empty,n.n,0,0,0,⟨0,[]⟩,[],0⟩/\∃h cs,n.kids=h::cs/\kinds cs/\Hb 8 cs=1/\Hb 7 cs<=1/\QJ h/\∀k∈cs,Km k
def ID(n:Nd):Prop :=
 (n.kind=2/\QP n.name/\UR n.unit/\n.kids.length=0/\Gs n ⟨0,n.name,n.unit,0,0,0,0,⟨0,[]⟩,[],0⟩) \/
 (n.kind=3/\QP n.name/\UR n.unit/\1<=n.n/\n.n<=4/\n.kids.length=0/\Gs n ⟨0,n.name,n.unit,n.n,0,0,0,⟨0,[]⟩,[],0⟩) \/
 (n.kind=4/\wD n)
def it2{n:Nd}(h:n.kind=2):ID n↔QP n.name/\UR n.unit/\n.kids.length=0/\Gs n ⟨0,n.name,n.unit,0,0,0,0,⟨0,[]⟩,[],0⟩:=by unfold ID;simp[h]
def it3{n:Nd}(h:n.kind=3):ID n↔QP n.name/\UR n.unit/\1<=n.n/\n.n<=4/\n.kids.length=0/\Gs n ⟨0,n.name,n.unit,n.n,0,0,0,⟨0,[]⟩,[],0⟩:=by unfold ID;simp[h]
def it4{n:Nd}(h:n.kind=4):ID n↔wD n:=by unfold ID;simp[h]
def anQ{n:Nd}(h:ID n):n.kind=2\/n.kind=3\/n.kind=4:=by
 unfold ID at h;rcases h with h | h | h
 all_goals
   have:=h.1;simp[this]
def ayI{n:Nd}(RB:KJ n){c d:Int}(h0:0<=c)(h1:c<=2000)(h2:0<=d):Out (Eb ⟨c⟩ n d) (ID n/\c+D7 n<=2000/\d+Of n<=41) (c+D7 n):=by
 obtain⟨sT,hkl,fM⟩:=Yt RB;have hsz:=FU n;have hdp:=Ni n;have hd:=@XP n.kids;rw[Eb];refine L4 (Ys n h0 h1) (λhp=>?_) λz hp=>J6 λa=>hp ⟨by omega,by omega⟩;dsimp only;rw[cond_true,Gr (a:=d) (b:=1) (by omega)];have e0:(((n.kids.length:Nat):Int)=0)=(n.kids.length=0):=propext (by omega);simp only[KS,Tz,OS,MO,uD,sG,UF,XE _ _ sT,Option.bind_some,e0];have hc1:=hp.1;have hd1:=hp.2;have Yb:∀{B:Prop},(B↔ID n)->(B->n.kids.length=0)->Out (some (mb B,c+1)) (ID n/\c+D7 n<=2000/\d+Of n<=41) (c+D7 n):=λhB hk=>(UE hB).congr ⟨λa=>⟨a,by have:=tF (hk (hB.2 a));omega⟩,λa=>a.1⟩ λa=>by have:=tF (hk (hB.2 a.1));omega
 by_cases k2:n.kind=2;rw[B0 k2];simp only[dU,pT,yF];refine Yb ?_ ?_;rw[it2 k2];intro h;exact h.2.2.1;rw[B5 k2];by_cases k3:n.kind=3;rw[B0 k3];simp only[dU,pT,yF];refine Yb ?_ ?_;rw[it3 k3];intro h;exact h.2.2.2.2.1;rw[B5 k3];by_cases k4:n.kind=4;rotate_left;rw[B5 k4];exact J6 λa=>by have:=anQ a.1;omega
 rw[B0 k4,it4 k4];refine H9 (λhr=>H9 (λhn=>H9 (λhb=>?_) λa=>a.1.2.2.1) λa=>a.1.2.1) λa=>a.1.1;refine jW (λhl0=>?_) λa h=>by obtain⟨h',cs,hk,_⟩:=a.1.2.2.2;rw[hk] at h;simp at h
 have R7:(∀k∈n.kids,d+1+Of k<=41)↔d+Of n<=41:=by
   constructor;intro h;have:=(hd (m:=(40 - d).toNat)).2 λk hk=>by have:=h k hk;omega
   omega;intro h k hk;have:=(hd (m:=fI n.kids)).1 (Nat.le_refl _) k hk;omega
 unfold wD;generalize n.kids=ks at *
 match ks,hl0 with
 | x::l,_ =>
 have Lv:Qt (x::l) 1 (((x::l).length:Nat):Int)=some l:=by
   unfold Qt;rw[if_pos (by simp only[List.length_cons];omega)];simp
 rw[Lv];simp only[Option.bind_some,List.length_cons] at hkl ⊢
 have e2:∀{A:Prop},(∃h cs,x::l=h::cs/\kinds cs/\Hb 8 cs=1/\Hb 7 cs<=1/\QJ h/\∀k∈cs,Km k)↔(kinds l/\Hb 8 l=1/\Hb 7 l<=1/\QJ x/\∀k∈l,Km k):=by
   intro _;constructor;rintro⟨h,cs,e,r⟩;cases e;exact r;intro r;exact⟨x,l,rfl,r⟩
 rw[Hw (by omega),List.drop_zero,Yi (by omega) (by omega) (by omega) (by omega) (by omega) (by omega)];simp only[Option.bind_some];by_cases hK:kinds l;rotate_left;rw[B5 hK];show Out (some (false,c+1)) _ _;exact J6 λa=>hK ((e2 (A:=True)).1 a.1.2.2.2).1;rw[B0 hK];show Out (J4 ((0:Int)+Hb 8 l=1) (J4 (1 < (0:Int)+Hb 7 l) (some (false,c+1)) _) (some (false,c+1))) _ _;refine H9 (λh8=>jW (λh7=>?_) λa=>?_) λa=>?_;rotate_left;have:=((e2 (A:=True)).1 a.1.2.2.2).2.2.1;omega;have:=((e2 (A:=True)).1 a.1.2.2.2).2.1;omega;simp only[List.getElem?_cons_zero,Option.bind_some];have hdx:=λh=>R7.2 h x (by simp);have hsl:Ha (x::l)=D7 x+Ha l:=by simp[Ha]
 refine L4 (axF (fM x (by simp)) (c:=c+1) (d:=d+1) (by omega) hc1) (λhx=>?_) λz hx=>J6 λa=>hx ⟨((e2 (A:=True)).1 a.1.2.2.2).2.2.2.1,by omega,hdx a.2.2⟩;dsimp only;rw[cond_true,EE,Hw (by omega),List.drop_zero];dsimp only;refine L3 (Rh (g:=DD) (p:=Km) (d:=d+1) (by omega) hx.2.1 λk hk c' b0 b1=>abT (fM k (by simp[hk])) b0 b1 (by omega)) ?_ λ_=>by omega
 constructor;rintro⟨a,b⟩;refine⟨⟨hr,hn,hb,(e2 (A:=True)).2 ⟨hK,by omega,by omega,hx.1,λk hk=>(a k hk).1⟩⟩,by omega,R7.1 λk hk=>?_⟩;rcases List.mem_cons.1 hk with rfl | hk
 exact hx.2.2;exact(a k hk).2;rintro⟨a,b,e⟩;exact⟨λk hk=>⟨((e2 (A:=True)).1 a.2.2.2).2.2.2.2 k hk,R7.2 e k (by simp[hk])⟩,by omega⟩
def okV(n:Nd):Prop:=((n.kind=1/\Gs n z0/\∀k∈n.kids,ID k)\/(n.kind≠1/\JN n))/\D7 n<=2000/\Of n<=40
def eX{n:Nd}(RB:KJ n):Ef n=some (mb (okV n)):=by
 obtain⟨sT,hkl,fM⟩:=Yt RB;have hsz:=FU n;have hdp:=Ni n;have hd:=@XP n.kids;rw[Ef,KS,MO]
 have fin:∀{r:Option (Bool×Int)} {P:Prop} {t:Int},Out r P t->(P↔okV n)->(r.bind λ(a,_)=>some a)=some (mb (okV n)):=by
   rintro r P t ⟨z,rfl,_⟩ h;rw[L1 h];rfl
 by_cases k1:n.kind=1;rotate_left;rw[B5 k1];refine fin (acR RB 0 1 (by omega) (by omega) (by omega) (by omega)) ?_;unfold okV;constructor;rintro⟨a,b,c⟩;exact⟨.inr ⟨k1,a⟩,by omega,by omega⟩;rintro⟨a | a,b,c⟩;exact absurd a.1 k1;exact⟨a.2,by omega,by omega⟩;rw[B0 k1];obtain⟨z,hz,hz2⟩:=Ys n (c:=0) (d:=1) (by omega) (by omega);rw[hz];simp only[Option.bind_some,XE _ _ sT,MO];by_cases h1:(0:Int)+1<=2000/\(1:Int)<=40;rotate_left;exact absurd ⟨by omega,by omega⟩ h1;rw[B0 h1,hz2 h1];by_cases hb:Gs n z0;rotate_left;rw[B5 hb];refine eO ?_;rintro⟨a | a,_⟩;exact hb a.2.1;exact a.1 k1;rw[B0 hb,Fb,Hw hkl,List.drop_zero];dsimp only;refine fin (Rh (g:=Eb) (p:=ID) (d:=2) (by omega) (by omega) λk hk c' b0 b1=>ayI (fM k hk) b0 b1 (by omega)) ?_;unfold okV;constructor;rintro⟨a,b⟩;refine⟨.inl ⟨k1,hb,λk hk=>(a k hk).1⟩,by omega,?_⟩;have:=(hd (m:=39)).2 λk hk=>by have:=(a k hk).2;omega
 omega;rintro⟨a | a,b,e⟩;refine⟨λk hk=>⟨a.2.2 k hk,?_⟩,by omega⟩;have:=(hd (m:=fI n.kids)).1 (Nat.le_refl _) k hk;omega;exact absurd k1 a.1
end Mo
end Go.Proofs.YtpbkhogolfegfaaGreatDoor
namespace Go.Proofs.YtpbkhogolfegfaaGreatDoor
open AI Go
namespace Mo
set_option maxRecDepth 100000
abbrev Rd(α:Type):=List Tk->Option ((α⊕Dg)×List Tk)
section
variable {α β:Type}
def Gj(a:α):Rd α:=λl=>some (.inl a,l)
def Mv(e p:Int):Rd α:=λl=>some (.inr ⟨e,p⟩,l)
def Cu(m:Rd α)(k:α->Rd β):Rd β:=λl=>match m l with
 | none=>none
 | some (.inl a,s)=>k a s
 | some (.inr d,s)=>some (.inr d,s)
def Lh(x:Option α)(k:α->Rd β):Rd β:=λl=>match x with
 | none=>none
 | some a=>k a l
def Wj(en:Int)(k:Tk->Rd β):Rd β:=λl=>match l with
 | []=>some (.inr ⟨72,en⟩,[])
 | t::s=>k t (t::s)
def Xe(k:Rd β):Rd β:=λl=>match l with
 | []=>none
 | _::s=>k s
def Ji(x:ByteArray):List Tk->Bool
 | []=>false
 | t::_=>BS t.text.data.toList x.data.toList
def N9(x:ByteArray)(yes no:Rd β):Rd β:=λl=>cond (Ji x l) (Xe yes l) (no l)
end
def Mi(en:Int)(fits:Tk->Option Bool):Rd Tk:=Wj en λt=>Lh (fits t) λb=>cond b (Xe (Gj t)) (Mv 71 t.AU)
def JO(en:Int)(x:ByteArray):Rd Tk:=Mi en λt=>Dq t x
def tO(en:Int):Rd Tk:=Mi en BT
def ajH(en:Int):Rd Tk:=Mi en E8
def uL(en:Int):Rd Tk:=Mi en BW
def Om(en:Int):Rd (Int×Int):=Cu (Mi en Eh) λt=>Lh (Ro t.text) λn=>Gj (n.1,t.AU)
def Mw(en least:Int):Rd (Int×Int):=Cu (Om en) λp=>cond (E3 p.1 least) (Mv 3 p.2) (cond (E3 1000000 p.1) (Mv 3 p.2) (Gj p))
def V3(en least:Int):Rd Int:=Cu (Mi en EN) λt=>Lh (Fo t.text) λd=>cond (Dr d.2 0) (cond (E3 d.1 least) (Mv 21 t.AU) (Gj d.1)) (Mv 21 t.AU)
abbrev bE:ByteArray:=ByteArray.empty
def Ee(kind:Int)(name unit:ByteArray)(n:Int)(kids:List Nd)(p:Int):Nd:=⟨kind,name,unit,n,0,0,0,⟨0,[]⟩,kids,p⟩
def iN(en:Int):Rd Nd:=Cu (JO en uF) λt=>Cu (Mw en 0) λn=>Cu (JO en sB) λ_=>Cu (V3 en 0) λf =>
 N9 toS (Cu (V3 en (BK f 1)) λu=>Cu (JO en Vt) λ_=>Cu (V3 en 0) λk=>Gj ⟨5,bE,bE,n.1,f,u,k,⟨0,[]⟩,[],t.AU⟩)
   (Cu (JO en Vt) λ_=>Cu (V3 en 0) λk=>Gj ⟨5,bE,bE,n.1,f,36525,k,⟨0,[]⟩,[],t.AU⟩)
def V4(en:Int):Rd Nd:=Wj en λt=>Xe<|Cu (tO en) λm=>Cu (JO en kE) λ_=>Cu (ajH en) λu =>
 cond (BS t.text.data.toList Ol.data.toList)
   (Cu (uL en) λr=>Lh (Ep r.text) λn=>Cu (JO en WD) λ_=>Gj (Ee 3 m.text u.text n [] t.AU))
   (Cu (JO en WD) λ_=>Gj (Ee 2 m.text u.text 0 [] t.AU))
def He(en:Int):Rd Nd:=Cu (Mw en 1) λp=>Gj (Ee 11 bE ED p.1 [] p.2)
def PI{β:Type}(n:Nat)(m:Rd β):Rd β:=λs=>Lz n (m s)
def RL(read:Rd Nd):Nat->List Nd->Rd (List Nd)
 | 0,_=>λ_=>none
 | q+1,l=>N9 dZ (Cu read λn=>PI (l.length+1) (RL read q (l++[n]))) (Gj l)
def S8(read:Rd Nd):Rd (List Nd):=Cu read λn s=>RL read (s.length+1) [n] s
def O2(en:Int):Rd (Int×Int):=Cu (Mi en Db) λt=>Lh (Cw t) λc=>cond (Dr t.kind 3) (cond (Dr c 0) (Gj (c,t.AU)) (Mv 3 t.AU)) (Gj (c,t.AU))
def YN(en:Int):Rd Int:=Cu (Mi en ES) λt=>cond (BS t.text.data.toList Jl.data.toList) (Gj (-1)) (Gj 1)
def nW:Nat->Int->Int->Int
 | 0,a,_=>a
 | n+1,a,b=>if b=0 then a else nW n b (a % b)
def adD(a b:Int):Option Int:=if 1<=a/\0<=b then some (nW (b.toNat+1) a b) else none
def Qj(en Ax from_ a:Int):Rd (Pt×Int):=Cu (YN en) λs=>Cu (Mw en 0) λm=>Cu (JO en E9) λ_=>Cu (Mw en 1) λd =>
 Lh (adD Ax d.1) λg=>Lh (SB Ax g) λz=>cond (E3 1000000 (BQ z d.1)) (Mv 2 d.2) (Gj (⟨from_,a,BQ m.1 s,d.1⟩,BQ z d.1))
def Ow(en Ax from_:Int):Rd (Pt×Int):=Cu (JO en kE) λ_=>N9 Jl (Cu (O2 en) λa=>Qj en Ax from_ (BQ a.1 (-1))) (Cu (O2 en) λa=>Qj en Ax from_ (BQ a.1 1))
def TJ(en:Int)(before:List Pt)(Ax:Int):Rd (Pt×Int):=Cu (O2 en) λv =>
 cond (Dr ((before.length:Nat):Int) 0) (cond (Dr v.1 0) (Ow en Ax v.1) (Mv 3 v.2))
   (Lh (before[before.length - 1]?) λq=>cond (S7 v.1 q.fr) (Mv 3 v.2) (cond (S7 64 ((before.length:Nat):Int)) (Mv 2 v.2) (Ow en Ax v.1)))
def MW(en:Int):Nat->List Pt->Int->Rd (List Pt×Int)
 | 0,_,_=>λ_=>none
 | q+1,l,c=>Cu (TJ en l c) λp=>PI (l.length+1) (N9 dZ (MW en q (l++[p.1]) p.2) (Gj (l++[p.1],p.2)))
def M1(c p:Int):List Pt->List Pc->Rd (List Pc)
 | [],acc=>Gj acc
 | x::xs,acc=>Lh (SB c x.den) λz=>cond (E3 1000000 (BQ x.num z)) (Mv 2 p) (cond (E3 (BQ x.num z) (-1000000)) (Mv 2 p) (PI (acc.length+1) (M1 c p xs (acc++[⟨x.fr,BQ x.AU c,BQ x.num z⟩]))))
inductive Ek where
 | ex | lv (i:Nat) | at_ | wd (t:Tk) | ca | ta
def YT(en:Int)(g:Ek->Rd Nd):Rd Nd:=Cu (JO en Qu) λt=>Cu (JO en dY) λ_=>Cu (g .ex) λa=>Cu (JO en WD) λ_=>Cu (λs=>MW en (s.length+1) [] 1 s) λl=>Cu (JO en pY) λe =>
 PI l.1.length (Cu (M1 l.2 e.AU l.1 []) λr=>Gj ⟨18,bE,bE,0,0,0,0,⟨l.2,r⟩,[a],t.AU⟩)
def XJ(en:Int)(g:Ek->Rd Nd)(li:Rd (List Nd)):Rd Nd:=Wj en λt=>Xe<|Cu (JO en dY) λ_=>Cu (g .ex) λa=>Cu (JO en dZ) λ_=>Cu li λl=>PI (1+l.length)<|Cu (JO en pY) λ_=>Gj (Ee 17 t.text bE 0 (a::l) t.AU)
def V2(t:Tk):Rd Nd:=Xe (Gj (Ee 14 t.text bE 0 [] t.AU))
def Tf(en:Int)(g:Ek->Rd Nd)(t:Tk):Rd Nd :=
 cond (BS t.text.data.toList YY.data.toList) (Xe (Gj (Ee 11 bE G7 1 [] t.AU))) <|
 cond (BS t.text.data.toList Tq.data.toList) (Xe (Gj (Ee 11 bE G7 0 [] t.AU))) <|
 cond (BS t.text.data.toList bR.data.toList) (Xe (Cu (Mw en 1) λp=>Gj (Ee 13 bE bE p.1 [] t.AU))) <|
 cond (BS t.text.data.toList Lb.data.toList) (V2 t)<|cond (BS t.text.data.toList cE.data.toList) (V2 t)<|cond (BS t.text.data.toList Qc.data.toList) (V2 t)<|cond (BS t.text.data.toList U9.data.toList) (V2 t) <|
 cond (BS t.text.data.toList Kt.data.toList) (g .ca)<|cond (BS t.text.data.toList FX.data.toList) (g .ca)<|cond (BS t.text.data.toList Qu.data.toList) (g .ta) <|
 cond (BS t.text.data.toList dY.data.toList) (Xe (Cu (g .ex) λa=>Cu (JO en pY) λ_=>Gj a)) (Mv 71 t.AU)
def V0(en:Int)(g:Ek->Rd Nd):Rd Nd:=Wj en λt =>
 cond (Dr t.kind 3) (Cu (Om en) λn=>N9 aoE (Gj (Ee 11 bE JA n.1 [] n.2)) (Gj (Ee 11 bE ED n.1 [] n.2)))
   (cond (Dr t.kind 2) (Xe (Cu (Mi en EM) λa=>Lh (Cw a) λc=>Gj (Ee 11 bE t.text c [] t.AU)))
     (Lh (BT t) λb=>cond b (Xe (Gj (Ee 12 t.text bE 0 [] t.AU))) (g (.wd t))))
def opsOf:Nat->List ByteArray
 | 0=>[Sf]
 | 1=>[J2]
 | 3=>[EU,Fw,GP,D0,Gf,Dk]
 | 4=>[K6,Jl]
 | 5=>[MY,E9,Vf]
 | _=>[]
def Zz{β:Type}(yes:ByteArray->Rd β)(no:Rd β):List ByteArray->Rd β
 | []=>no
 | x::xs=>N9 x (yes x) (Zz yes no xs)
def Ky(en:Int)(sub:Rd Nd)(op:ByteArray)(l:Nd):Rd Nd:=Cu (cond (BS op.data.toList E9.data.toList) (He en) sub) λr=>Lh (A9 op l r) λb=>Gj b
def GC(en:Int)(ops:List ByteArray)(sub:Rd Nd):Nat->Nd->Rd Nd
 | 0,_=>λ_=>none
 | q+1,l=>Zz (λop=>Cu (Ky en sub op l) λb=>GC en ops sub q b) (Gj l) ops
def Lx(en:Int)(g:Ek->Rd Nd)(i:Nat):Rd Nd:=Cu (g (.lv (i+1))) λl s=>GC en (opsOf i) (g (.lv (i+1))) (s.length+1) l s
def V1(en:Int)(g:Ek->Rd Nd):Rd Nd:=Cu (g (.lv 4)) λl=>Zz (λop=>Ky en (g (.lv 4)) op l) (Gj l) (opsOf 3)
def WA(en:Int)(g:Ek->Rd Nd):Rd Nd:=λs=>cond (Ji SG s) (Cu (JO en SG) (λt=>Cu (g (.lv 2)) λk=>Gj (Ee 15 bE bE 0 [k] t.AU)) s) (g (.lv 3) s)
def QS(en:Int)(g:Ek->Rd Nd)(li:Rd (List Nd)):Ek->Rd Nd
 | .ex=>g (.lv 0)
 | .lv 2=>WA en g
 | .lv 3=>V1 en g
 | .lv 6=>g .at_
 | .lv i=>Lx en g i
 | .at_=>V0 en g
 | .wd t=>Tf en g t
 | .ca=>XJ en g li
 | .ta=>YT en g
def gP(en:Int):Nat->(Ek->Rd Nd)×Rd (List Nd)
 | 0=>(λ_ _=>none,λ_=>none)
 | q+1=>(QS en (gP en q).1 (gP en q).2,S8 ((gP en q).1 .ex))
def KR(en:Int)(ex:Rd Nd)(kind:Int):Rd Nd:=Wj en λt=>Xe <|
 cond (Dr kind 7) (Cu (S8 (He en)) λl=>Cu (JO en WD) λ_=>Gj (Ee kind bE bE 0 l t.AU)) (Cu ex λe=>Cu (JO en WD) λ_=>Gj (Ee kind bE bE 0 [e] t.AU))
def Kw(en:Int)(ex:Rd Nd)(mk:List Nd->Nd):Nat->List Nd->Bool->Bool->Rd Nd
 | 0,_,_,_=>λ_=>none
 | q+1,l,un,am=>Wj en λt =>
   cond (BS t.text.data.toList bH.data.toList) (Cu (KR en ex 6) λc=>PI (l.length+1) (Kw en ex mk q (l++[c]) un am)) <|
   cond (BS t.text.data.toList Sr.data.toList) (cond un (Mv 5 t.AU) (Cu (KR en ex 7) λc=>PI (l.length+1) (Kw en ex mk q (l++[c]) true am))) <|
   cond (BS t.text.data.toList P0.data.toList) (cond am (Mv 5 t.AU) (Cu (KR en ex 8) λc=>PI (l.length+1) (Kw en ex mk q (l++[c]) un true))) <|
   cond (BS t.text.data.toList apG.data.toList) (cond am (Xe (Gj (mk l))) (Mv 71 t.AU)) (Mv 71 t.AU)
def Rm(en:Int)(ex:Rd Nd):Rd Nd:=Cu (JO en Ig) λt=>Cu (Mw en 1) λn=>Cu (JO en acW) λ_=>Cu (tO en) λm=>Cu (iN en) λh=>Cu (JO en azS) λ_=>λs =>
 Kw en ex (λl=>Ee 4 m.text bE n.1 l t.AU) (s.length+1) [h] false false s
def Uw(en:Int)(ex:Rd Nd):Rd Nd:=Wj en λt =>
 cond (BS t.text.data.toList S0.data.toList) (V4 en)<|cond (BS t.text.data.toList Ol.data.toList) (V4 en)<|cond (BS t.text.data.toList Ig.data.toList) (Rm en ex) (Mv 71 t.AU)
end Mo
end Go.Proofs.YtpbkhogolfegfaaGreatDoor
namespace Go.Proofs.YtpbkhogolfegfaaGreatDoor
open AI Go
namespace Mo
set_option maxRecDepth 100000
theorem iF:∀(n:Nat) (a b:Int),1<=a->0<=b->b < n->∃m,Hc (λx:Int×Int=>D4 x.1 x.2) m (a,b)=some (.inl (nW n a b))/\1<=nW n a b/\nW n a b∣a/\nW n a b∣b:=by
 intro n
 induction n with
 | zero=>intro a b h1 h2 h3;omega
 | succ n ih =>
   intro a b h1 h2 h3;unfold nW;by_cases hb:b=0;rw[if_pos hb];subst hb;refine⟨1,?_,h1,Int.dvd_refl a,Int.dvd_zero a⟩;show(D4 a 0).bind _=_;rw[D4,No rfl];rfl;rw[if_neg hb];obtain⟨m,h4,h5,h6,h7⟩:=ih b (a % b) (by omega) (Int.emod_nonneg a hb) (by have:=Int.emod_lt_of_pos a (show 0 < b by omega);omega);refine⟨m+1,?_,h5,?_,h6⟩;show(D4 a b).bind _=_;rw[D4,Pk hb]
   have:XR a b=some (a % b):=by
     unfold XR U2;rw[if_neg hb,Int.tmod_eq_emod_of_nonneg (by omega)]
   dsimp only[cond];rw[this];exact h4;have:=Int.dvd_add h7 (Int.dvd_mul_of_dvd_left h6:_∣b*(a / b));rwa[Int.emod_add_mul_ediv] at this
theorem adE{a b g:Int}(h:adD a b=some g):CM a b=some g:=by
 unfold adD at h;split at h;rename_i hc;cases h;obtain⟨m,h1,_⟩:=iF (b.toNat+1) a b hc.1 hc.2 (by omega);unfold CM;rw[Jb h1];rfl;cases h
theorem adF{a b:Int}(ha:1<=a)(hb:0<=b):∃g,adD a b=some g/\1<=g/\g∣a/\g∣b:=by
 obtain⟨m,_,h1⟩:=iF (b.toNat+1) a b ha hb (by omega);exact⟨_,if_pos ⟨ha,hb⟩,h1⟩
section
variable {α β γ:Type} {ts:List Tk} {k:Nat} {en:Int} {r:α⊕Dg} {l:List Tk}
def Jj(ts:List Tk)(k:Nat)(X:Option ((α⊕Dg)×Int))(r:α⊕Dg)(l:List Tk):Prop:=∃k':Nat,k<=k'/\k'<=ts.length/\l=ts.drop k'/\X=some (r,(k':Int))
theorem El(hk:k<=ts.length){q:α⊕Dg}{z:Int}(hz:z=(k:Int))(h:some (q,ts.drop k)=some (r,l)):Jj ts k (some (q,z)) r l:=by
 simp only[Option.some.injEq,Prod.mk.injEq] at h;exact⟨k,Nat.le_refl k,hk,h.2.symm,by rw[h.1,hz]⟩
theorem K7{k2:Nat}{X:Option ((α⊕Dg)×Int)}(h1:k<=k2)(h:Jj ts k2 X r l):Jj ts k X r l:=by
 obtain⟨k',a,b,c,d⟩:=h;exact⟨k',Nat.le_trans h1 a,b,c,d⟩
theorem BB{F1:Option ((γ⊕Dg)×Int)}{F2:(γ⊕Dg)×Int->Option ((α⊕Dg)×Int)}{m:Rd γ}{K:γ->Rd α}
   (h1:∀{r l},m (ts.drop k)=some (r,l)->Jj ts k F1 r l)
   (h2:∀a k',k<=k'->k'<=ts.length->K a (ts.drop k')=some (r,l)->Jj ts k' (F2 (.inl a,(k':Int))) r l)
   (h3:∀d z,F2 (.inr d,z)=some (.inr d,z)) (hS:Cu m K (ts.drop k)=some (r,l)):Jj ts k (F1.bind F2) r l:=by
 unfold Cu at hS;split at hS;cases hS;rename_i a s hm;obtain⟨k',a1,a2,rfl,a4⟩:=h1 hm;rw[a4];exact K7 a1 (h2 _ _ a1 a2 hS);rename_i d s hm;obtain⟨k',a1,a2,rfl,a4⟩:=h1 hm;rw[a4,Option.bind_some,h3];simp only[Option.some.injEq,Prod.mk.injEq] at hS;exact⟨k',a1,a2,hS.2.symm,by rw[hS.1]⟩
theorem JX{X:Option γ}{K:γ->Rd α}{s:List Tk}(h:Lh X K s=some (r,l)):∃a,X=some a/\K a s=some (r,l):=by
 unfold Lh at h;split at h;cases h;exact⟨_,rfl,h⟩
theorem Jv(ts:List Tk)(hk:k<=ts.length):(k=ts.length/\ts.drop k=[])\/∃t,k+1<=ts.length/\ts[k]?=some t/\ts.drop k=t::ts.drop (k+1):=by
 by_cases h:k < ts.length;exact .inr ⟨ts[k],h,List.getElem?_eq_getElem h,(List.drop_eq_getElem_cons h)⟩;exact .inl ⟨by omega,List.drop_eq_nil_of_le (by omega)⟩
theorem VJ{F2:Tk⊕Dg->Option ((α⊕Dg)×Int)}{K:Tk->Rd α}(hk:k<=ts.length)
   (h2:∀t,k+1<=ts.length->ts.drop k=t::ts.drop (k+1)->K t (ts.drop k)=some (r,l)->Jj ts k (F2 (.inl t)) r l)
   (h3:∀d,F2 (.inr d)=some (.inr d,(k:Int))) (hS:Wj en K (ts.drop k)=some (r,l)):Jj ts k ((AD ⟨ts,k,en⟩).bind F2) r l:=by
 unfold Wj at hS;rcases Jv ts hk with ⟨h1,mO⟩ | ⟨t,h1,mO,h3'⟩
 rw[mO] at hS;dsimp only at hS
 have:AD ⟨ts,k,en⟩=some (.inr ⟨72,en⟩):=by
   unfold AD;rw[auG (by dsimp only;omega)];rfl
 rw[this,Option.bind_some,h3];simp only[Option.some.injEq,Prod.mk.injEq] at hS;exact⟨k,Nat.le_refl k,hk,by rw[mO,hS.2],by rw[hS.1]⟩;rw[h3'] at hS;dsimp only at hS
 have:AD ⟨ts,k,en⟩=some (.inl t):=by
   unfold AD;rw[tC (by dsimp only;omega)];dsimp only[cond];unfold IA;rw[if_pos (by omega),Int.toNat_natCast,mO];rfl
 rw[this,Option.bind_some];exact h2 t h1 h3' (by rw[h3'];exact hS)
theorem GQ(hk:k<=ts.length)(x:ByteArray):Aq ⟨ts,k,en⟩ x=some (Ji x (ts.drop k)):=by
 unfold Aq;rcases Jv ts hk with ⟨h1,mO⟩ | ⟨t,h1,mO,h3'⟩
 rw[mO,KZ (by dsimp only;omega)];rfl;rw[h3',Ny (by dsimp only;omega)];dsimp only[cond];unfold IA;rw[if_pos (by omega),Int.toNat_natCast,mO];rfl
theorem YM{x:ByteArray}(hk:k<=ts.length)(h:Ji x (ts.drop k)=true):∃t,k+1<=ts.length/\ts.drop k=t::ts.drop (k+1):=by
 rcases Jv ts hk with ⟨h1,mO⟩ | ⟨t,h1,mO,h3'⟩
 rw[mO] at h;cases h;exact⟨t,h1,h3'⟩
theorem Es(DT:ts.length<=1000000)(hk:k<=ts.length):BK (k:Int) 1=((k+1:Nat):Int):=by
 rw[Gr (by omega)];rfl
theorem Zy{K:Rd α}{t:Tk}(ht:ts.drop k=t::ts.drop (k+1))(h:Xe K (ts.drop k)=some (r,l)):K (ts.drop (k+1))=some (r,l):=by
 rw[ht] at h;exact h
theorem uJ{F2:Bool->Option ((α⊕Dg)×Int)}{A B:Rd α}{x:ByteArray}(hk:k<=ts.length)
   (h1:k+1<=ts.length->A (ts.drop (k+1))=some (r,l)->Jj ts (k+1) (F2 true) r l) (h2:B (ts.drop k)=some (r,l)->Jj ts k (F2 false) r l)
   (hS:N9 x A B (ts.drop k)=some (r,l)):Jj ts k ((Aq ⟨ts,k,en⟩ x).bind F2) r l:=by
 unfold N9 at hS;rw[GQ hk,Option.bind_some];cases hx:Ji x (ts.drop k) with
 | true =>
   rw[hx] at hS;obtain⟨t,ht1,ht2⟩:=YM hk hx;exact K7 (Nat.le_succ k) (h1 ht1 (Zy ht2 hS))
 | false =>
   rw[hx] at hS;exact h2 hS
end
section
variable {ts:List Tk} (DT:ts.length<=1000000) {en:Int}
include DT
theorem Qv(fits:Tk->Option Bool){k:Nat}(hk:k<=ts.length){r l}(hS:Mi en fits (ts.drop k)=some (r,l)) :
   Jj ts k ((AD ⟨ts,k,en⟩).bind λy1=>Sum.elim (λ(CI:Tk)=>(fits CI).bind λy2=>cond y2 (some ((Sum.inl CI:(Tk⊕Dg)),(BK (k:Int) 1))) (some ((Sum.inr (⟨71,CI.AU⟩:Dg):(Tk⊕Dg)),(k:Int)))) (λ(Lj:Dg)=>some ((Sum.inr Lj:(Tk⊕Dg)),(k:Int))) y1) r l:=by
 refine VJ hk (λt h1 h2 hS=>?_) (λ_=>rfl) hS;obtain⟨b,hb,hS⟩:=JX hS;dsimp only[Sum.elim];rw[hb,Option.bind_some];cases b with
 | true =>
   have:=Zy h2 hS;rw[cond,Es DT hk];exact K7 (Nat.le_succ k) (El h1 rfl this)
 | false=>exact El hk rfl hS
theorem IT(x:ByteArray){k:Nat}(hk:k<=ts.length){r l}(hS:JO en x (ts.drop k)=some (r,l)):Jj ts k (Ak ⟨ts,k,en⟩ x) r l:=by
 obtain⟨k',a1,a2,a3,a4⟩:=Qv DT (λt=>Dq t x) hk hS;refine⟨k',a1,a2,a3,?_⟩;unfold Ak Gn;rw[a4,Option.bind_some];cases r<;>rfl
theorem afV{k:Nat}(hk:k<=ts.length){r l}(hS:tO en (ts.drop k)=some (r,l)):Jj ts k (Dv ⟨ts,k,en⟩) r l:=Qv DT BT hk hS
theorem aAU{k:Nat}(hk:k<=ts.length){r l}(hS:ajH en (ts.drop k)=some (r,l)):Jj ts k (EG ⟨ts,k,en⟩) r l:=Qv DT E8 hk hS
theorem azW{k:Nat}(hk:k<=ts.length){r l}(hS:uL en (ts.drop k)=some (r,l)):Jj ts k (F8 ⟨ts,k,en⟩) r l:=Qv DT BW hk hS
theorem jR{k:Nat}(hk:k<=ts.length){r l}(hS:Om en (ts.drop k)=some (r,l)):Jj ts k (EP ⟨ts,k,en⟩) r l:=by
 refine BB (λh=>Qv DT Eh hk h) (λt k' h1 h2 hS=>?_) (λ_ _=>rfl) hS;obtain⟨n,hn,hS⟩:=JX hS;dsimp only[Sum.elim];rw[hn];exact El h2 rfl hS
theorem Oy(least:Int){k:Nat}(hk:k<=ts.length){r l}(hS:Mw en least (ts.drop k)=some (r,l)):Jj ts k (AH ⟨ts,k,en⟩ least) r l:=by
 refine BB (λh=>jR DT hk h) (λt k' h1 h2 hS=>?_) (λ_ _=>rfl) hS;dsimp only[Sum.elim];revert hS;cases E3 t.1 least;cases E3 1000000 t.1<;>exact λhS=>El h2 rfl hS
 exact λhS=>El h2 rfl hS
theorem cD(least:Int){k:Nat}(hk:k<=ts.length){r l}(hS:V3 en least (ts.drop k)=some (r,l)):Jj ts k (DO ⟨ts,k,en⟩ least) r l:=by
 refine BB (λh=>Qv DT EN hk h) (λt k' h1 h2 hS=>?_) (λ_ _=>rfl) hS;obtain⟨n,hn,hS⟩:=JX hS;dsimp only[Sum.elim];rw[hn,Option.bind_some];revert hS;cases Dr n.2 0;exact λhS=>El h2 rfl hS;cases E3 n.1 least<;>exact λhS=>El h2 rfl hS
theorem axE{k:Nat}(hk:k<=ts.length){r l}(hS:iN en (ts.drop k)=some (r,l)):Jj ts k (Hj ⟨ts,k,en⟩) r l:=by
 refine BB (λh=>IT DT _ hk h) (λt k h hk hS=>?_) (λ_ _=>rfl) hS;refine BB (λh=>Oy DT _ hk h) (λn k h hk hS=>?_) (λ_ _=>rfl) hS;refine BB (λh=>IT DT _ hk h) (λ_ k h hk hS=>?_) (λ_ _=>rfl) hS;refine BB (λh=>cD DT _ hk h) (λf k h hk hS=>?_) (λ_ _=>rfl) hS;refine uJ hk (λhk1 hS=>?_) (λhS=>?_) hS;dsimp only[cond];rw[Es DT hk];refine BB (λh=>cD DT _ hk1 h) (λu k h hk hS=>?_) (λ_ _=>rfl) hS;refine BB (λh=>IT DT _ hk h) (λ_ k h hk hS=>?_) (λ_ _=>rfl) hS;refine BB (λh=>cD DT _ hk h) (λf k h hk hS=>?_) (λ_ _=>rfl) hS;exact El hk rfl hS;refine BB (λh=>IT DT _ hk h) (λ_ k h hk hS=>?_) (λ_ _=>rfl) hS;refine BB (λh=>cD DT _ hk h) (λf k h hk hS=>?_) (λ_ _=>rfl) hS;exact El hk rfl hS
theorem acE{k:Nat}(hk:k<=ts.length){r l}(hS:V4 en (ts.drop k)=some (r,l)):Jj ts k (Du ⟨ts,k,en⟩) r l:=by
 refine VJ hk (λt h1 h2 hS=>?_) (λ_=>rfl) hS;have hS:=Zy h2 hS;dsimp only[Sum.elim];rw[Es DT hk];refine K7 (Nat.le_succ k) ?_;refine BB (λh=>afV DT h1 h) (λm k h hk hS=>?_) (λ_ _=>rfl) hS;refine BB (λh=>IT DT _ hk h) (λ_ k h hk hS=>?_) (λ_ _=>rfl) hS;refine BB (λh=>aAU DT hk h) (λu k h hk hS=>?_) (λ_ _=>rfl) hS;dsimp only[Sum.elim];revert hS;cases BS t.text.data.toList Ol.data.toList;intro hS;refine BB (λh=>IT DT _ hk h) (λ_ k h hk hS=>?_) (λ_ _=>rfl) hS;exact El hk rfl hS;intro hS;refine BB (λh=>azW DT hk h) (λq k h hk hS=>?_) (λ_ _=>rfl) hS;obtain⟨n,hn,hS⟩:=JX hS;dsimp only[Sum.elim];rw[hn,Option.bind_some];refine BB (λh=>IT DT _ hk h) (λ_ k h hk hS=>?_) (λ_ _=>rfl) hS;exact El hk rfl hS
theorem UB{k:Nat}(hk:k<=ts.length){r l}(hS:He en (ts.drop k)=some (r,l)):Jj ts k (AN ⟨ts,k,en⟩) r l:=by
 refine BB (λh=>Oy DT _ hk h) (λn k h hk hS=>?_) (λ_ _=>rfl) hS;exact El hk rfl hS
theorem eY{k:Nat}(hk:k<=ts.length){r l}(hS:O2 en (ts.drop k)=some (r,l)):Jj ts k (BU ⟨ts,k,en⟩) r l:=by
 refine BB (λh=>Qv DT Db hk h) (λt k' h1 h2 hS=>?_) (λ_ _=>rfl) hS;obtain⟨n,hn,hS⟩:=JX hS;dsimp only[Sum.elim];rw[hn,Option.bind_some];revert hS;cases Dr t.kind 3;exact λhS=>El h2 rfl hS;cases Dr n 0<;>exact λhS=>El h2 rfl hS
theorem ahX{k:Nat}(hk:k<=ts.length){r l}(hS:YN en (ts.drop k)=some (r,l)):Jj ts k (Ci ⟨ts,k,en⟩) r l:=by
 refine BB (λh=>Qv DT ES hk h) (λt k' h1 h2 hS=>?_) (λ_ _=>rfl) hS;dsimp only[Sum.elim];revert hS;cases BS t.text.data.toList Jl.data.toList<;>exact λhS=>El h2 rfl hS
end
end Mo
end Go.Proofs.YtpbkhogolfegfaaGreatDoor
namespace Go.Proofs.YtpbkhogolfegfaaGreatDoor
open AI Go
namespace Mo
set_option maxRecDepth 100000
section
variable {α β:Type} {ts:List Tk} {k:Nat} {en:Int} {r:α⊕Dg} {l:List Tk}
theorem Qd(N:Nd):(⟨N.kind,N.name,N.unit,N.n,N.fr,N.to,N.known,⟨N.CL.den,N.CL.ps⟩,N.kids,N.AU⟩:Nd)=N:=by cases N;rfl
theorem JW{m:Rd β}{K:β->Rd α}{s:List Tk}(h:Cu m K s=some (r,l)):(∃a s',m s=some (.inl a,s')/\K a s'=some (r,l))\/∃d,m s=some (.inr d,l)/\r=.inr d:=by
 unfold Cu at h;split at h;cases h;rename_i a s' hm;exact .inl ⟨a,s',hm,h⟩;rename_i d s' hm;simp only[Option.some.injEq,Prod.mk.injEq] at h;exact .inr ⟨d,by rw[hm,h.2],h.1.symm⟩
theorem K9{A B:Rd α}{x:ByteArray}(hk:k<=ts.length)(h:N9 x A B (ts.drop k)=some (r,l)) :
   (Ji x (ts.drop k)=true/\k+1<=ts.length/\A (ts.drop (k+1))=some (r,l))\/(Ji x (ts.drop k)=false/\B (ts.drop k)=some (r,l)):=by
 unfold N9 at h;cases hx:Ji x (ts.drop k) with
 | true =>
   rw[hx] at h;obtain⟨t,ht1,ht2⟩:=YM hk hx;exact .inl ⟨rfl,ht1,Zy ht2 h⟩
 | false =>
   rw[hx] at h;exact .inr ⟨rfl,h⟩
theorem agF{K:Rd α}(hk:k<=ts.length)(h:Xe K (ts.drop k)=some (r,l)):k+1<=ts.length/\K (ts.drop (k+1))=some (r,l):=by
 rcases Jv ts hk with ⟨h1,mO⟩ | ⟨t,h1,mO,h3'⟩
 rw[mO] at h;cases h;exact⟨h1,Zy h3' h⟩
theorem Oj{n:Nat}{m:Rd α}{s:List Tk}(h:PI n m s=some (r,l)):n<=100000000/\m s=some (r,l):=afM h
theorem Ln{a:β}{q:β⊕Dg}{s:List Tk}(h:Gj a s=some (q,l)):q=.inl a/\l=s:=by
 simp only[Gj,Option.some.injEq,Prod.mk.injEq] at h;exact⟨h.1.symm,h.2.symm⟩
theorem Np{e p:Int}{s:List Tk}(h:Mv e p s=some (r,l)):r=.inr ⟨e,p⟩/\l=s:=by
 simp only[Mv,Option.some.injEq,Prod.mk.injEq] at h;exact⟨h.1.symm,h.2.symm⟩
theorem aoN{yes:ByteArray->Rd α}{no:Rd α}(hk:k<=ts.length)(hS:Zz yes no (opsOf 0) (ts.drop k)=some (r,l)) :
   (∃x,k+1<=ts.length/\C6 ⟨ts,k,en⟩=some (x,true)/\yes x (ts.drop (k+1))=some (r,l))\/(C6 ⟨ts,k,en⟩=some (bE,false)/\no (ts.drop k)=some (r,l)):=by
 unfold C6;simp only[GQ hk,Option.bind_some];rcases K9 hk hS with ⟨h0,h,hy⟩ | ⟨h0,hS⟩
 refine .inl ⟨_,h,?_,hy⟩;simp only[h0,cond_true,cond_false];refine .inr ⟨?_,hS⟩;simp only[h0,cond_false]
theorem aoO{yes:ByteArray->Rd α}{no:Rd α}(hk:k<=ts.length)(hS:Zz yes no (opsOf 1) (ts.drop k)=some (r,l)) :
   (∃x,k+1<=ts.length/\C7 ⟨ts,k,en⟩=some (x,true)/\yes x (ts.drop (k+1))=some (r,l))\/(C7 ⟨ts,k,en⟩=some (bE,false)/\no (ts.drop k)=some (r,l)):=by
 unfold C7;simp only[GQ hk,Option.bind_some];rcases K9 hk hS with ⟨h0,h,hy⟩ | ⟨h0,hS⟩
 refine .inl ⟨_,h,?_,hy⟩;simp only[h0,cond_true,cond_false];refine .inr ⟨?_,hS⟩;simp only[h0,cond_false]
theorem aoP{yes:ByteArray->Rd α}{no:Rd α}(hk:k<=ts.length)(hS:Zz yes no (opsOf 3) (ts.drop k)=some (r,l)) :
   (∃x,k+1<=ts.length/\C8 ⟨ts,k,en⟩=some (x,true)/\yes x (ts.drop (k+1))=some (r,l))\/(C8 ⟨ts,k,en⟩=some (bE,false)/\no (ts.drop k)=some (r,l)):=by
 unfold C8;simp only[GQ hk,Option.bind_some];rcases K9 hk hS with ⟨h0,h,hy⟩ | ⟨h0,hS⟩
 refine .inl ⟨_,h,?_,hy⟩;simp only[h0,cond_true,cond_false];rcases K9 hk hS with ⟨h1,h,hy⟩ | ⟨h1,hS⟩
 refine .inl ⟨_,h,?_,hy⟩;simp only[h0,h1,cond_true,cond_false];rcases K9 hk hS with ⟨h2,h,hy⟩ | ⟨h2,hS⟩
 refine .inl ⟨_,h,?_,hy⟩;simp only[h0,h1,h2,cond_true,cond_false];rcases K9 hk hS with ⟨h3,h,hy⟩ | ⟨h3,hS⟩
 refine .inl ⟨_,h,?_,hy⟩;simp only[h0,h1,h2,h3,cond_true,cond_false];rcases K9 hk hS with ⟨h4,h,hy⟩ | ⟨h4,hS⟩
 refine .inl ⟨_,h,?_,hy⟩;simp only[h0,h1,h2,h3,h4,cond_true,cond_false];rcases K9 hk hS with ⟨h5,h,hy⟩ | ⟨h5,hS⟩
 refine .inl ⟨_,h,?_,hy⟩;simp only[h0,h1,h2,h3,h4,h5,cond_true,cond_false];refine .inr ⟨?_,hS⟩;simp only[h0,h1,h2,h3,h4,h5,cond_false]
theorem aoQ{yes:ByteArray->Rd α}{no:Rd α}(hk:k<=ts.length)(hS:Zz yes no (opsOf 4) (ts.drop k)=some (r,l)) :
   (∃x,k+1<=ts.length/\C9 ⟨ts,k,en⟩=some (x,true)/\yes x (ts.drop (k+1))=some (r,l))\/(C9 ⟨ts,k,en⟩=some (bE,false)/\no (ts.drop k)=some (r,l)):=by
 unfold C9;simp only[GQ hk,Option.bind_some];rcases K9 hk hS with ⟨h0,h,hy⟩ | ⟨h0,hS⟩
 refine .inl ⟨_,h,?_,hy⟩;simp only[h0,cond_true,cond_false];rcases K9 hk hS with ⟨h1,h,hy⟩ | ⟨h1,hS⟩
 refine .inl ⟨_,h,?_,hy⟩;simp only[h0,h1,cond_true,cond_false];refine .inr ⟨?_,hS⟩;simp only[h0,h1,cond_false]
theorem aoR{yes:ByteArray->Rd α}{no:Rd α}(hk:k<=ts.length)(hS:Zz yes no (opsOf 5) (ts.drop k)=some (r,l)) :
   (∃x,k+1<=ts.length/\Da ⟨ts,k,en⟩=some (x,true)/\yes x (ts.drop (k+1))=some (r,l))\/(Da ⟨ts,k,en⟩=some (bE,false)/\no (ts.drop k)=some (r,l)):=by
 unfold Da;simp only[GQ hk,Option.bind_some];rcases K9 hk hS with ⟨h0,h,hy⟩ | ⟨h0,hS⟩
 refine .inl ⟨_,h,?_,hy⟩;simp only[h0,cond_true,cond_false];rcases K9 hk hS with ⟨h1,h,hy⟩ | ⟨h1,hS⟩
 refine .inl ⟨_,h,?_,hy⟩;simp only[h0,h1,cond_true,cond_false];rcases K9 hk hS with ⟨h2,h,hy⟩ | ⟨h2,hS⟩
 refine .inl ⟨_,h,?_,hy⟩;simp only[h0,h1,h2,cond_true,cond_false];refine .inr ⟨?_,hS⟩;simp only[h0,h1,h2,cond_false]
end
structure Agr(R:Ac)(ts:List Tk)(en:Int)(g:Ek->Rd Nd)(li:Rd (List Nd)):Prop where
 ex:∀{k:Nat},k<=ts.length->∀{r l},g .ex (ts.drop k)=some (r,l)->Jj ts k (R.AM ⟨ts,k,en⟩) r l
 l0:∀{k:Nat},k<=ts.length->∀{r l},g (.lv 0) (ts.drop k)=some (r,l)->Jj ts k (R.Ed ⟨ts,k,en⟩) r l
 l1:∀{k:Nat},k<=ts.length->∀{r l},g (.lv 1) (ts.drop k)=some (r,l)->Jj ts k (R.B8 ⟨ts,k,en⟩) r l
 l2:∀{k:Nat},k<=ts.length->∀{r l},g (.lv 2) (ts.drop k)=some (r,l)->Jj ts k (R.BD ⟨ts,k,en⟩) r l
 l3:∀{k:Nat},k<=ts.length->∀{r l},g (.lv 3) (ts.drop k)=some (r,l)->Jj ts k (R.CC ⟨ts,k,en⟩) r l
 l4:∀{k:Nat},k<=ts.length->∀{r l},g (.lv 4) (ts.drop k)=some (r,l)->Jj ts k (R.CE ⟨ts,k,en⟩) r l
 l5:∀{k:Nat},k<=ts.length->∀{r l},g (.lv 5) (ts.drop k)=some (r,l)->Jj ts k (R.Ca ⟨ts,k,en⟩) r l
 l6:∀{k:Nat},k<=ts.length->∀{r l},g (.lv 6) (ts.drop k)=some (r,l)->Jj ts k (R.Cb ⟨ts,k,en⟩) r l
 at_:∀{k:Nat},k<=ts.length->∀{r l},g .at_ (ts.drop k)=some (r,l)->Jj ts k (R.Fs ⟨ts,k,en⟩) r l
 wd:∀(t:Tk) {k:Nat},k<=ts.length->∀{r l},g (.wd t) (ts.drop k)=some (r,l)->Jj ts k (R.Fv ⟨ts,k,en⟩ t) r l
 ca:∀{k:Nat},k<=ts.length->∀{r l},g .ca (ts.drop k)=some (r,l)->Jj ts k (R.Dj ⟨ts,k,en⟩) r l
 ta:∀{k:Nat},k<=ts.length->∀{r l},g .ta (ts.drop k)=some (r,l)->Jj ts k (R.EZ ⟨ts,k,en⟩) r l
 li:∀{k:Nat},k<=ts.length->∀{r l},li (ts.drop k)=some (r,l)->Jj ts k (R.DE ⟨ts,k,en⟩) r l
section
variable {ts:List Tk} (DT:ts.length<=1000000) {en:Int}
include DT
theorem M0{sub:Rd Nd}{F:Pr->Option ((Nd⊕Dg)×Int)}{k:Nat}(hk:k<=ts.length)(Lv:∀{r l},sub (ts.drop k)=some (r,l)->Jj ts k (F ⟨ts,k,en⟩) r l){x:ByteArray}{N:Nd}{r l}(hS:Ky en sub x N (ts.drop k)=some (r,l)) :
   ∃k':Nat,k<=k'/\k'<=ts.length/\l=ts.drop k'/\((∃n b,cond (BS x.data.toList E9.data.toList) (AN ⟨ts,k,en⟩) (F ⟨ts,k,en⟩)=some (.inl n,(k':Int))/\A9 x N n=some b/\r=.inl b)\/∃d,cond (BS x.data.toList E9.data.toList) (AN ⟨ts,k,en⟩) (F ⟨ts,k,en⟩)=some (.inr d,(k':Int))/\r=.inr d):=by
 have key:∀{r l},(cond (BS x.data.toList E9.data.toList) (He en) sub) (ts.drop k)=some (r,l)->Jj ts k (cond (BS x.data.toList E9.data.toList) (AN ⟨ts,k,en⟩) (F ⟨ts,k,en⟩)) r l:=by
   intro r l h;revert h;cases BS x.data.toList E9.data.toList;exact λh=>Lv h;exact λh=>UB DT hk h
 rcases JW hS with ⟨n,s',h1,h2⟩ | ⟨d,h1,h2⟩
 obtain⟨b,hb,h2⟩:=JX h2;obtain⟨rfl,rfl⟩:=Ln h2;obtain⟨k',a1,a2,a3,a4⟩:=key h1;exact⟨k',a1,a2,a3,.inl ⟨n,b,a4,hb,rfl⟩⟩;obtain⟨k',a1,a2,a3,a4⟩:=key h1;exact⟨k',a1,a2,a3,.inr ⟨d,a4,h2⟩⟩
theorem abN{R:Ac}{sub:Rd Nd}(Lv:∀{k:Nat},k<=ts.length->∀{r l},sub (ts.drop k)=some (r,l)->Jj ts k (R.B8 ⟨ts,k,en⟩) r l)(k0:Int) :
   ∀(q:Nat) (N:Nd) (k:Nat) (r:Nd⊕Dg) (l:List Tk),k<=ts.length->GC en (opsOf 0) sub q N (ts.drop k)=some (r,l) ->
   ∃k':Nat,k<=k'/\k'<=ts.length/\l=ts.drop k'/\∃n,Hc (λx=>Bt R ⟨ts,k0,en⟩ x.1 x.2.1 x.2.2.1 x.2.2.2.1 x.2.2.2.2.1 x.2.2.2.2.2.1 x.2.2.2.2.2.2.1 x.2.2.2.2.2.2.2.1 x.2.2.2.2.2.2.2.2.1 x.2.2.2.2.2.2.2.2.2.1 x.2.2.2.2.2.2.2.2.2.2.1 x.2.2.2.2.2.2.2.2.2.2.2) n (N.kind,N.name,N.unit,N.n,N.fr,N.to,N.known,N.CL.den,N.CL.ps,N.kids,N.AU,(k:Int))=some (.inr (r,(k':Int))):=by
 intro q
 induction q with
 | zero=>intro N k r l hk hS;cases hS
 | succ q ih =>
   intro N k r l hk hS;rcases aoN (en:=en) hk hS with ⟨x,h1,h2,hS⟩ | ⟨h2,hS⟩
   rcases JW hS with ⟨b,s',h3,h4⟩ | ⟨d,h3,rfl⟩
   obtain⟨k',a1,a2,rfl,⟨n,b',hX,hb,hr⟩ | ⟨d,hX,hr⟩⟩:=M0 DT h1 (λh=>Lv h1 h) h3;cases hr;obtain⟨k2,b1,b2,b3,m,b4⟩:=ih b k' r l a2 h4;refine⟨k2,by omega,b2,b3,m+1,?_⟩
   have hL:Bt R ⟨ts,k0,en⟩ N.kind N.name N.unit N.n N.fr N.to N.known N.CL.den N.CL.ps N.kids N.AU (k:Int)=some (.nx (b.kind,b.name,b.unit,b.n,b.fr,b.to,b.known,b.CL.den,b.CL.ps,b.kids,b.AU,(k':Int))):=by
     unfold Bt;dsimp only;rw[h2];dsimp only[Option.bind,cond];rw[Es DT hk];cases hE:BS x.data.toList E9.data.toList <;>
     · rw[hE] at hX;dsimp only[cond] at hX;dsimp only
       rw[hX];dsimp only[Sum.elim];rw[Qd,hb]
   show(Bt R ⟨ts,k0,en⟩ N.kind N.name N.unit N.n N.fr N.to N.known N.CL.den N.CL.ps N.kids N.AU (k:Int)).bind _=_;rw[hL];exact b4;cases hr;obtain⟨k',a1,a2,rfl,⟨n,b',hX,hb,hr⟩ | ⟨d',hX,hr⟩⟩:=M0 DT h1 (λh=>Lv h1 h) h3;cases hr;cases hr;refine⟨k',by omega,a2,rfl,1,?_⟩
   have hL:Bt R ⟨ts,k0,en⟩ N.kind N.name N.unit N.n N.fr N.to N.known N.CL.den N.CL.ps N.kids N.AU (k:Int)=some (.rt (.inr d,(k':Int))):=by
     unfold Bt;dsimp only;rw[h2];dsimp only[Option.bind,cond];rw[Es DT hk];cases hE:BS x.data.toList E9.data.toList <;>
     · rw[hE] at hX;dsimp only[cond] at hX;dsimp only
       rw[hX];rfl
   show(Bt R ⟨ts,k0,en⟩ N.kind N.name N.unit N.n N.fr N.to N.known N.CL.den N.CL.ps N.kids N.AU (k:Int)).bind _=_;rw[hL];rfl;obtain⟨rfl,rfl⟩:=Ln hS;refine⟨k,Nat.le_refl k,hk,rfl,1,?_⟩
   have hL:Bt R ⟨ts,k0,en⟩ N.kind N.name N.unit N.n N.fr N.to N.known N.CL.den N.CL.ps N.kids N.AU (k:Int)=some (.rt (.inl N,(k:Int))):=by
     unfold Bt;dsimp only;rw[h2,Qd];rfl
   show(Bt R ⟨ts,k0,en⟩ N.kind N.name N.unit N.n N.fr N.to N.known N.CL.den N.CL.ps N.kids N.AU (k:Int)).bind _=_;rw[hL];rfl
theorem afF{R:Ac}{g:Ek->Rd Nd}(Lv:∀{k:Nat},k<=ts.length->∀{r l},g (.lv 1) (ts.drop k)=some (r,l)->Jj ts k (R.B8 ⟨ts,k,en⟩) r l){k:Nat}(hk:k<=ts.length){r l}(hS:Lx en g 0 (ts.drop k)=some (r,l)) :
   Jj ts k (F3 R ⟨ts,k,en⟩) r l:=by
 refine BB (λh=>Lv hk h) (λN k' h1 h2 hS=>?_) (λ_ _=>rfl) hS;obtain⟨k2,a1,a2,a3,n,a4⟩:=abN DT Lv (k:Int) _ N k' r l h2 hS;refine⟨k2,a1,a2,a3,?_⟩;dsimp only[Sum.elim];rw[Jb a4];rfl
theorem abO{R:Ac}{sub:Rd Nd}(Lv:∀{k:Nat},k<=ts.length->∀{r l},sub (ts.drop k)=some (r,l)->Jj ts k (R.BD ⟨ts,k,en⟩) r l)(k0:Int) :
   ∀(q:Nat) (N:Nd) (k:Nat) (r:Nd⊕Dg) (l:List Tk),k<=ts.length->GC en (opsOf 1) sub q N (ts.drop k)=some (r,l) ->
   ∃k':Nat,k<=k'/\k'<=ts.length/\l=ts.drop k'/\∃n,Hc (λx=>Bu R ⟨ts,k0,en⟩ x.1 x.2.1 x.2.2.1 x.2.2.2.1 x.2.2.2.2.1 x.2.2.2.2.2.1 x.2.2.2.2.2.2.1 x.2.2.2.2.2.2.2.1 x.2.2.2.2.2.2.2.2.1 x.2.2.2.2.2.2.2.2.2.1 x.2.2.2.2.2.2.2.2.2.2.1 x.2.2.2.2.2.2.2.2.2.2.2) n (N.kind,N.name,N.unit,N.n,N.fr,N.to,N.known,N.CL.den,N.CL.ps,N.kids,N.AU,(k:Int))=some (.inr (r,(k':Int))):=by
 intro q
 induction q with
 | zero=>intro N k r l hk hS;cases hS
 | succ q ih =>
   intro N k r l hk hS;rcases aoO (en:=en) hk hS with ⟨x,h1,h2,hS⟩ | ⟨h2,hS⟩
   rcases JW hS with ⟨b,s',h3,h4⟩ | ⟨d,h3,rfl⟩
   obtain⟨k',a1,a2,rfl,⟨n,b',hX,hb,hr⟩ | ⟨d,hX,hr⟩⟩:=M0 DT h1 (λh=>Lv h1 h) h3;cases hr;obtain⟨k2,b1,b2,b3,m,b4⟩:=ih b k' r l a2 h4;refine⟨k2,by omega,b2,b3,m+1,?_⟩
   have hL:Bu R ⟨ts,k0,en⟩ N.kind N.name N.unit N.n N.fr N.to N.known N.CL.den N.CL.ps N.kids N.AU (k:Int)=some (.nx (b.kind,b.name,b.unit,b.n,b.fr,b.to,b.known,b.CL.den,b.CL.ps,b.kids,b.AU,(k':Int))):=by
     unfold Bu;dsimp only;rw[h2];dsimp only[Option.bind,cond];rw[Es DT hk];cases hE:BS x.data.toList E9.data.toList <;>
     · rw[hE] at hX;dsimp only[cond] at hX;dsimp only
       rw[hX];dsimp only[Sum.elim];rw[Qd,hb]
   show(Bu R ⟨ts,k0,en⟩ N.kind N.name N.unit N.n N.fr N.to N.known N.CL.den N.CL.ps N.kids N.AU (k:Int)).bind _=_;rw[hL];exact b4;cases hr;obtain⟨k',a1,a2,rfl,⟨n,b',hX,hb,hr⟩ | ⟨d',hX,hr⟩⟩:=M0 DT h1 (λh=>Lv h1 h) h3;cases hr;cases hr;refine⟨k',by omega,a2,rfl,1,?_⟩
   have hL:Bu R ⟨ts,k0,en⟩ N.kind N.name N.unit N.n N.fr N.to N.known N.CL.den N.CL.ps N.kids N.AU (k:Int)=some (.rt (.inr d,(k':Int))):=by
     unfold Bu;dsimp only;rw[h2];dsimp only[Option.bind,cond];rw[Es DT hk];cases hE:BS x.data.toList E9.data.toList <;>
     · rw[hE] at hX;dsimp only[cond] at hX;dsimp only
       rw[hX];rfl
   show(Bu R ⟨ts,k0,en⟩ N.kind N.name N.unit N.n N.fr N.to N.known N.CL.den N.CL.ps N.kids N.AU (k:Int)).bind _=_;rw[hL];rfl;obtain⟨rfl,rfl⟩:=Ln hS;refine⟨k,Nat.le_refl k,hk,rfl,1,?_⟩
   have hL:Bu R ⟨ts,k0,en⟩ N.kind N.name N.unit N.n N.fr N.to N.known N.CL.den N.CL.ps N.kids N.AU (k:Int)=some (.rt (.inl N,(k:Int))):=by
     unfold Bu;dsimp only;rw[h2,Qd];rfl
   show(Bu R ⟨ts,k0,en⟩ N.kind N.name N.unit N.n N.fr N.to N.known N.CL.den N.CL.ps N.kids N.AU (k:Int)).bind _=_;rw[hL];rfl
theorem afG{R:Ac}{g:Ek->Rd Nd}(Lv:∀{k:Nat},k<=ts.length->∀{r l},g (.lv 2) (ts.drop k)=some (r,l)->Jj ts k (R.BD ⟨ts,k,en⟩) r l){k:Nat}(hk:k<=ts.length){r l}(hS:Lx en g 1 (ts.drop k)=some (r,l)) :
   Jj ts k (F4 R ⟨ts,k,en⟩) r l:=by
 refine BB (λh=>Lv hk h) (λN k' h1 h2 hS=>?_) (λ_ _=>rfl) hS;obtain⟨k2,a1,a2,a3,n,a4⟩:=abO DT Lv (k:Int) _ N k' r l h2 hS;refine⟨k2,a1,a2,a3,?_⟩;dsimp only[Sum.elim];rw[Jb a4];rfl
theorem abP{R:Ac}{sub:Rd Nd}(Lv:∀{k:Nat},k<=ts.length->∀{r l},sub (ts.drop k)=some (r,l)->Jj ts k (R.Ca ⟨ts,k,en⟩) r l)(k0:Int) :
   ∀(q:Nat) (N:Nd) (k:Nat) (r:Nd⊕Dg) (l:List Tk),k<=ts.length->GC en (opsOf 4) sub q N (ts.drop k)=some (r,l) ->
   ∃k':Nat,k<=k'/\k'<=ts.length/\l=ts.drop k'/\∃n,Hc (λx=>Bv R ⟨ts,k0,en⟩ x.1 x.2.1 x.2.2.1 x.2.2.2.1 x.2.2.2.2.1 x.2.2.2.2.2.1 x.2.2.2.2.2.2.1 x.2.2.2.2.2.2.2.1 x.2.2.2.2.2.2.2.2.1 x.2.2.2.2.2.2.2.2.2.1 x.2.2.2.2.2.2.2.2.2.2.1 x.2.2.2.2.2.2.2.2.2.2.2) n (N.kind,N.name,N.unit,N.n,N.fr,N.to,N.known,N.CL.den,N.CL.ps,N.kids,N.AU,(k:Int))=some (.inr (r,(k':Int))):=by
 intro q
 induction q with
 | zero=>intro N k r l hk hS;cases hS
 | succ q ih =>
   intro N k r l hk hS;rcases aoQ (en:=en) hk hS with ⟨x,h1,h2,hS⟩ | ⟨h2,hS⟩
   rcases JW hS with ⟨b,s',h3,h4⟩ | ⟨d,h3,rfl⟩
   obtain⟨k',a1,a2,rfl,⟨n,b',hX,hb,hr⟩ | ⟨d,hX,hr⟩⟩:=M0 DT h1 (λh=>Lv h1 h) h3;cases hr;obtain⟨k2,b1,b2,b3,m,b4⟩:=ih b k' r l a2 h4;refine⟨k2,by omega,b2,b3,m+1,?_⟩
   have hL:Bv R ⟨ts,k0,en⟩ N.kind N.name N.unit N.n N.fr N.to N.known N.CL.den N.CL.ps N.kids N.AU (k:Int)=some (.nx (b.kind,b.name,b.unit,b.n,b.fr,b.to,b.known,b.CL.den,b.CL.ps,b.kids,b.AU,(k':Int))):=by
     unfold Bv;dsimp only;rw[h2];dsimp only[Option.bind,cond];rw[Es DT hk];cases hE:BS x.data.toList E9.data.toList <;>
     · rw[hE] at hX;dsimp only[cond] at hX;dsimp only
       rw[hX];dsimp only[Sum.elim];rw[Qd,hb]
   show(Bv R ⟨ts,k0,en⟩ N.kind N.name N.unit N.n N.fr N.to N.known N.CL.den N.CL.ps N.kids N.AU (k:Int)).bind _=_;rw[hL];exact b4;cases hr;obtain⟨k',a1,a2,rfl,⟨n,b',hX,hb,hr⟩ | ⟨d',hX,hr⟩⟩:=M0 DT h1 (λh=>Lv h1 h) h3;cases hr;cases hr;refine⟨k',by omega,a2,rfl,1,?_⟩
   have hL:Bv R ⟨ts,k0,en⟩ N.kind N.name N.unit N.n N.fr N.to N.known N.CL.den N.CL.ps N.kids N.AU (k:Int)=some (.rt (.inr d,(k':Int))):=by
     unfold Bv;dsimp only;rw[h2];dsimp only[Option.bind,cond];rw[Es DT hk];cases hE:BS x.data.toList E9.data.toList <;>
     · rw[hE] at hX;dsimp only[cond] at hX;dsimp only
       rw[hX];rfl
   show(Bv R ⟨ts,k0,en⟩ N.kind N.name N.unit N.n N.fr N.to N.known N.CL.den N.CL.ps N.kids N.AU (k:Int)).bind _=_;rw[hL];rfl;obtain⟨rfl,rfl⟩:=Ln hS;refine⟨k,Nat.le_refl k,hk,rfl,1,?_⟩
   have hL:Bv R ⟨ts,k0,en⟩ N.kind N.name N.unit N.n N.fr N.to N.known N.CL.den N.CL.ps N.kids N.AU (k:Int)=some (.rt (.inl N,(k:Int))):=by
     unfold Bv;dsimp only;rw[h2,Qd];rfl
   show(Bv R ⟨ts,k0,en⟩ N.kind N.name N.unit N.n N.fr N.to N.known N.CL.den N.CL.ps N.kids N.AU (k:Int)).bind _=_;rw[hL];rfl
theorem afH{R:Ac}{g:Ek->Rd Nd}(Lv:∀{k:Nat},k<=ts.length->∀{r l},g (.lv 5) (ts.drop k)=some (r,l)->Jj ts k (R.Ca ⟨ts,k,en⟩) r l){k:Nat}(hk:k<=ts.length){r l}(hS:Lx en g 4 (ts.drop k)=some (r,l)) :
   Jj ts k (F6 R ⟨ts,k,en⟩) r l:=by
 refine BB (λh=>Lv hk h) (λN k' h1 h2 hS=>?_) (λ_ _=>rfl) hS;obtain⟨k2,a1,a2,a3,n,a4⟩:=abP DT Lv (k:Int) _ N k' r l h2 hS;refine⟨k2,a1,a2,a3,?_⟩;dsimp only[Sum.elim];rw[Jb a4];rfl
theorem abQ{R:Ac}{sub:Rd Nd}(Lv:∀{k:Nat},k<=ts.length->∀{r l},sub (ts.drop k)=some (r,l)->Jj ts k (R.Cb ⟨ts,k,en⟩) r l)(k0:Int) :
   ∀(q:Nat) (N:Nd) (k:Nat) (r:Nd⊕Dg) (l:List Tk),k<=ts.length->GC en (opsOf 5) sub q N (ts.drop k)=some (r,l) ->
   ∃k':Nat,k<=k'/\k'<=ts.length/\l=ts.drop k'/\∃n,Hc (λx=>Bw R ⟨ts,k0,en⟩ x.1 x.2.1 x.2.2.1 x.2.2.2.1 x.2.2.2.2.1 x.2.2.2.2.2.1 x.2.2.2.2.2.2.1 x.2.2.2.2.2.2.2.1 x.2.2.2.2.2.2.2.2.1 x.2.2.2.2.2.2.2.2.2.1 x.2.2.2.2.2.2.2.2.2.2.1 x.2.2.2.2.2.2.2.2.2.2.2) n (N.kind,N.name,N.unit,N.n,N.fr,N.to,N.known,N.CL.den,N.CL.ps,N.kids,N.AU,(k:Int))=some (.inr (r,(k':Int))):=by
 intro q
 induction q with
 | zero=>intro N k r l hk hS;cases hS
 | succ q ih =>
   intro N k r l hk hS;rcases aoR (en:=en) hk hS with ⟨x,h1,h2,hS⟩ | ⟨h2,hS⟩
   rcases JW hS with ⟨b,s',h3,h4⟩ | ⟨d,h3,rfl⟩
   obtain⟨k',a1,a2,rfl,⟨n,b',hX,hb,hr⟩ | ⟨d,hX,hr⟩⟩:=M0 DT h1 (λh=>Lv h1 h) h3;cases hr;obtain⟨k2,b1,b2,b3,m,b4⟩:=ih b k' r l a2 h4;refine⟨k2,by omega,b2,b3,m+1,?_⟩
   have hL:Bw R ⟨ts,k0,en⟩ N.kind N.name N.unit N.n N.fr N.to N.known N.CL.den N.CL.ps N.kids N.AU (k:Int)=some (.nx (b.kind,b.name,b.unit,b.n,b.fr,b.to,b.known,b.CL.den,b.CL.ps,b.kids,b.AU,(k':Int))):=by
     unfold Bw;dsimp only;rw[h2];dsimp only[Option.bind,cond];rw[Es DT hk];cases hE:BS x.data.toList E9.data.toList <;>
     · rw[hE] at hX;dsimp only[cond] at hX;dsimp only
       rw[hX];dsimp only[Sum.elim];rw[Qd,hb]
   show(Bw R ⟨ts,k0,en⟩ N.kind N.name N.unit N.n N.fr N.to N.known N.CL.den N.CL.ps N.kids N.AU (k:Int)).bind _=_;rw[hL];exact b4;cases hr;obtain⟨k',a1,a2,rfl,⟨n,b',hX,hb,hr⟩ | ⟨d',hX,hr⟩⟩:=M0 DT h1 (λh=>Lv h1 h) h3;cases hr;cases hr;refine⟨k',by omega,a2,rfl,1,?_⟩
   have hL:Bw R ⟨ts,k0,en⟩ N.kind N.name N.unit N.n N.fr N.to N.known N.CL.den N.CL.ps N.kids N.AU (k:Int)=some (.rt (.inr d,(k':Int))):=by
     unfold Bw;dsimp only;rw[h2];dsimp only[Option.bind,cond];rw[Es DT hk];cases hE:BS x.data.toList E9.data.toList <;>
     · rw[hE] at hX;dsimp only[cond] at hX;dsimp only
       rw[hX];rfl
   show(Bw R ⟨ts,k0,en⟩ N.kind N.name N.unit N.n N.fr N.to N.known N.CL.den N.CL.ps N.kids N.AU (k:Int)).bind _=_;rw[hL];rfl;obtain⟨rfl,rfl⟩:=Ln hS;refine⟨k,Nat.le_refl k,hk,rfl,1,?_⟩
   have hL:Bw R ⟨ts,k0,en⟩ N.kind N.name N.unit N.n N.fr N.to N.known N.CL.den N.CL.ps N.kids N.AU (k:Int)=some (.rt (.inl N,(k:Int))):=by
     unfold Bw;dsimp only;rw[h2,Qd];rfl
   show(Bw R ⟨ts,k0,en⟩ N.kind N.name N.unit N.n N.fr N.to N.known N.CL.den N.CL.ps N.kids N.AU (k:Int)).bind _=_;rw[hL];rfl
theorem afI{R:Ac}{g:Ek->Rd Nd}(Lv:∀{k:Nat},k<=ts.length->∀{r l},g (.lv 6) (ts.drop k)=some (r,l)->Jj ts k (R.Cb ⟨ts,k,en⟩) r l){k:Nat}(hk:k<=ts.length){r l}(hS:Lx en g 5 (ts.drop k)=some (r,l)) :
   Jj ts k (F7 R ⟨ts,k,en⟩) r l:=by
 refine BB (λh=>Lv hk h) (λN k' h1 h2 hS=>?_) (λ_ _=>rfl) hS;obtain⟨k2,a1,a2,a3,n,a4⟩:=abQ DT Lv (k:Int) _ N k' r l h2 hS;refine⟨k2,a1,a2,a3,?_⟩;dsimp only[Sum.elim];rw[Jb a4];rfl
end
end Mo
end Go.Proofs.YtpbkhogolfegfaaGreatDoor
namespace Go.Proofs.YtpbkhogolfegfaaGreatDoor
open AI Go
namespace Mo
set_option maxRecDepth 100000
section
variable {α β γ:Type} {ts:List Tk} {k:Nat} {en:Int} {l:List Tk}
def bK(ts:List Tk)(k:Nat)(X:Option ((Pt⊕Dg)×Int×Int))(r:(Pt×Int)⊕Dg)(l:List Tk):Prop:=∃k':Nat,k<=k'/\k'<=ts.length/\l=ts.drop k'/\match r with
 | .inl x=>X=some (.inl x.1,(k':Int),x.2)
 | .inr d=>∃c,X=some (.inr d,(k':Int),c)
variable {r:(Pt×Int)⊕Dg}
theorem uI{k2:Nat}{X:Option ((Pt⊕Dg)×Int×Int)}(h1:k<=k2)(h:bK ts k2 X r l):bK ts k X r l:=by
 obtain⟨k',a,b,c,d⟩:=h;exact⟨k',Nat.le_trans h1 a,b,c,d⟩
theorem IY{F1:Option ((γ⊕Dg)×Int)}{F2:(γ⊕Dg)×Int->Option ((Pt⊕Dg)×Int×Int)}{m:Rd γ}{K:γ->Rd (Pt×Int)}
   (h1:∀{r l},m (ts.drop k)=some (r,l)->Jj ts k F1 r l)
   (h2:∀a k',k<=k'->k'<=ts.length->K a (ts.drop k')=some (r,l)->bK ts k' (F2 (.inl a,(k':Int))) r l)
   (h3:∀d z,∃c,F2 (.inr d,z)=some (.inr d,z,c)) (hS:Cu m K (ts.drop k)=some (r,l)):bK ts k (F1.bind F2) r l:=by
 rcases JW hS with ⟨a,s',hm,hS⟩ | ⟨d,hm,rfl⟩
 obtain⟨k',a1,a2,rfl,a4⟩:=h1 hm;rw[a4];exact uI a1 (h2 _ _ a1 a2 hS);obtain⟨k',a1,a2,a3,a4⟩:=h1 hm;obtain⟨c,hc⟩:=h3 d k';exact⟨k',a1,a2,a3,c,by rw[a4,Option.bind_some,hc]⟩
theorem agW{F2:Bool->Option ((Pt⊕Dg)×Int×Int)}{A B:Rd (Pt×Int)}{x:ByteArray}(hk:k<=ts.length)
   (h1:k+1<=ts.length->A (ts.drop (k+1))=some (r,l)->bK ts (k+1) (F2 true) r l) (h2:B (ts.drop k)=some (r,l)->bK ts k (F2 false) r l)
   (hS:N9 x A B (ts.drop k)=some (r,l)):bK ts k ((Aq ⟨ts,k,en⟩ x).bind F2) r l:=by
 rw[GQ hk,Option.bind_some];rcases K9 hk hS with ⟨h,h3,hS⟩ | ⟨h,hS⟩
 rw[h];exact uI (Nat.le_succ k) (h1 h3 hS);rw[h];exact h2 hS
end
def azM(p:Pr)(Ax Bi:Int)(Aw:Int×Int):Option ((Pt⊕Dg)×Int×Int):=((Ak (⟨p.Br,Bi,p.DC⟩:Pr) kE).bind λ(Ka,EI)=>Sum.elim (λ(CZ:Tk)=>(Aq (⟨p.Br,EI,p.DC⟩:Pr) Jl).bind λy3=>cond y3 ((BU (⟨p.Br,(BK EI 1),p.DC⟩:Pr)).bind λ(VV,Jm)=>Sum.elim (λ(De:(Int×Int))=>(Ci (⟨p.Br,Jm,p.DC⟩:Pr)).bind λ(T6,H7)=>Sum.elim (λ(Ix:Int)=>(AH (⟨p.Br,H7,p.DC⟩:Pr) 0).bind λ(mL,N1)=>Sum.elim (λ(I8:(Int×Int))=>(Ak (⟨p.Br,N1,p.DC⟩:Pr) E9).bind λ(y7a,Sv)=>Sum.elim (λ(U8:Tk)=>(AH (⟨p.Br,Sv,p.DC⟩:Pr) 1).bind λ(Zc,Ld)=>Sum.elim (λ(GY:(Int×Int))=>(CM Ax GY.1).bind λy9=>(SB Ax y9).bind λz10=>cond (E3 1000000 (BQ z10 GY.1)) (some ((Sum.inr (⟨2,GY.2⟩:Dg):(Pt⊕Dg)),Ld,(BQ z10 GY.1))) (some ((Sum.inl (⟨Aw.1,(BQ De.1 (-1)),(BQ I8.1 Ix),GY.1⟩:Pt):(Pt⊕Dg)),Ld,(BQ z10 GY.1)))) (λ(Lc:Dg)=>some ((Sum.inr Lc:(Pt⊕Dg)),Ld,Ax)) Zc) (λ(O4:Dg)=>some ((Sum.inr O4:(Pt⊕Dg)),Sv,Ax)) y7a) (λ(Mz:Dg)=>some ((Sum.inr Mz:(Pt⊕Dg)),N1,Ax)) mL) (λ(G9:Dg)=>some ((Sum.inr G9:(Pt⊕Dg)),H7,Ax)) T6) (λ(Iw:Dg)=>some ((Sum.inr Iw:(Pt⊕Dg)),Jm,Ax)) VV) ((BU (⟨p.Br,EI,p.DC⟩:Pr)).bind λ(Q5,Li)=>Sum.elim (λ(MI:(Int×Int))=>(Ci (⟨p.Br,Li,p.DC⟩:Pr)).bind λ(Za,U5)=>Sum.elim (λ(Zb:Int)=>(AH (⟨p.Br,U5,p.DC⟩:Pr) 0).bind λ(WM,Ob)=>Sum.elim (λ(MJ:(Int×Int))=>(Ak (⟨p.Br,Ob,p.DC⟩:Pr) E9).bind λ(RZ,Q6)=>Sum.elim (λ(avE:Tk)=>(AH (⟨p.Br,Q6,p.DC⟩:Pr) 1).bind λ(fA,QD)=>Sum.elim (λ(Kk:(Int×Int))=>(CM Ax Kk.1).bind λy16=>(SB Ax y16).bind λz17=>cond (E3 1000000 (BQ z17 Kk.1)) (some ((Sum.inr (⟨2,Kk.2⟩:Dg):(Pt⊕Dg)),QD,(BQ z17 Kk.1))) (some ((Sum.inl (⟨Aw.1,(BQ MI.1 1),(BQ MJ.1 Zb),Kk.1⟩:Pt):(Pt⊕Dg)),QD,(BQ z17 Kk.1)))) (λ(lV:Dg)=>some ((Sum.inr lV:(Pt⊕Dg)),QD,Ax)) fA) (λ(lU:Dg)=>some ((Sum.inr lU:(Pt⊕Dg)),Q6,Ax)) RZ) (λ(U6:Dg)=>some ((Sum.inr U6:(Pt⊕Dg)),Ob,Ax)) WM) (λ(lT:Dg)=>some ((Sum.inr lT:(Pt⊕Dg)),U5,Ax)) Za) (λ(U4:Dg)=>some ((Sum.inr U4:(Pt⊕Dg)),Li,Ax)) Q5)) (λ(G8:Dg)=>some ((Sum.inr G8:(Pt⊕Dg)),EI,Ax)) Ka)
section
variable {ts:List Tk} (DT:ts.length<=1000000) {en:Int}
include DT
theorem jX(k0 Ax:Int)(v:Int×Int){k:Nat}(hk:k<=ts.length){r l}(hS:Ow en Ax v.1 (ts.drop k)=some (r,l)):bK ts k (azM ⟨ts,k0,en⟩ Ax k v) r l:=by
 refine IY (λh=>IT DT _ hk h) (λ_ k h hk hS=>?_) (λ_ _=>⟨_,rfl⟩) hS;refine agW hk (λhk1 hS=>?_) (λhS=>?_) hS;dsimp only[cond];rw[Es DT hk];refine IY (λh=>eY DT hk1 h) (λa k h hk hS=>?_) (λ_ _=>⟨_,rfl⟩) hS;refine IY (λh=>ahX DT hk h) (λs k h hk hS=>?_) (λ_ _=>⟨_,rfl⟩) hS;refine IY (λh=>Oy DT _ hk h) (λm k h hk hS=>?_) (λ_ _=>⟨_,rfl⟩) hS;refine IY (λh=>IT DT _ hk h) (λ_ k h hk hS=>?_) (λ_ _=>⟨_,rfl⟩) hS;refine IY (λh=>Oy DT _ hk h) (λd k h hk hS=>?_) (λ_ _=>⟨_,rfl⟩) hS;obtain⟨g,hg,hS⟩:=JX hS;have hg:=adE hg;obtain⟨z,hz,hS⟩:=JX hS;dsimp only[Sum.elim];rw[hg,Option.bind_some,hz,Option.bind_some];revert hS;cases E3 1000000 (BQ z d.1);exact λhS=>by obtain⟨rfl,rfl⟩:=Ln hS;exact⟨k,Nat.le_refl k,hk,rfl,rfl⟩
 exact λhS=>by obtain⟨rfl,rfl⟩:=Np hS;exact⟨k,Nat.le_refl k,hk,rfl,_,rfl⟩
 refine IY (λh=>eY DT hk h) (λa k h hk hS=>?_) (λ_ _=>⟨_,rfl⟩) hS;refine IY (λh=>ahX DT hk h) (λs k h hk hS=>?_) (λ_ _=>⟨_,rfl⟩) hS;refine IY (λh=>Oy DT _ hk h) (λm k h hk hS=>?_) (λ_ _=>⟨_,rfl⟩) hS;refine IY (λh=>IT DT _ hk h) (λ_ k h hk hS=>?_) (λ_ _=>⟨_,rfl⟩) hS;refine IY (λh=>Oy DT _ hk h) (λd k h hk hS=>?_) (λ_ _=>⟨_,rfl⟩) hS;obtain⟨g,hg,hS⟩:=JX hS;have hg:=adE hg;obtain⟨z,hz,hS⟩:=JX hS;dsimp only[Sum.elim];rw[hg,Option.bind_some,hz,Option.bind_some];revert hS;cases E3 1000000 (BQ z d.1);exact λhS=>by obtain⟨rfl,rfl⟩:=Ln hS;exact⟨k,Nat.le_refl k,hk,rfl,rfl⟩
 exact λhS=>by obtain⟨rfl,rfl⟩:=Np hS;exact⟨k,Nat.le_refl k,hk,rfl,_,rfl⟩
theorem uA(before:List Pt)(hb:before.length<=100000000)(Ax:Int){k:Nat}(hk:k<=ts.length){r l}(hS:TJ en before Ax (ts.drop k)=some (r,l)):bK ts k (GW ⟨ts,k,en⟩ before Ax) r l:=by
 refine IY (λh=>eY DT hk h) (λv k1 h hk hS=>?_) (λ_ _=>⟨_,rfl⟩) hS;dsimp only[Sum.elim];revert hS;cases hE:Dr ((before.length:Nat):Int) 0 with
 | true =>
   cases Dr v.1 0;exact λhS=>by obtain⟨rfl,rfl⟩:=Np hS;exact⟨k1,Nat.le_refl k1,hk,rfl,_,rfl⟩
   exact λhS=>jX DT k Ax v hk hS
 | false =>
   intro hS;have h0:before.length≠0:=λh=>ZW hE (by rw[h];rfl);obtain⟨x,hx,hS⟩:=JX hS;dsimp only[cond];rw[Ny (by omega)]
   have hg:IA before (SP ((before.length:Nat):Int) 1)=some x:=by
     have:SP ((before.length:Nat):Int) 1=((before.length - 1:Nat):Int):=by
       rw[QC (by omega)];omega
     rw[this];unfold IA;rw[if_pos (by omega),Int.toNat_natCast,hx]
   dsimp only;rw[hg,Option.bind_some];revert hS;cases S7 v.1 x.fr;cases S7 64 ((before.length:Nat):Int);exact λhS=>jX DT k Ax v hk hS;exact λhS=>by obtain⟨rfl,rfl⟩:=Np hS;exact⟨k1,Nat.le_refl k1,hk,rfl,_,rfl⟩
   exact λhS=>by obtain⟨rfl,rfl⟩:=Np hS;exact⟨k1,Nat.le_refl k1,hk,rfl,_,rfl⟩
theorem jY(R:Ac)(k0:Int):∀(q:Nat) (ps:List Pt) (c:Int) (k:Nat) (r:(List Pt×Int)⊕Dg) (l:List Tk),ps.length<=100000000->k<=ts.length->MW en q ps c (ts.drop k)=some (r,l) ->
   ∃k':Nat,k<=k'/\k'<=ts.length/\l=ts.drop k'/\∃n,Hc (λx=>BG R ⟨ts,k0,en⟩ x.1 x.2.1 x.2.2) n (ps,c,(k:Int))=some (match r with | .inl x=>.inl (x.1,x.2,(k':Int)) | .inr d=>.inr (.inr d,(k':Int))):=by
 intro q
 induction q with
 | zero=>intro ps c k r l hp hk hS;cases hS
 | succ q ih =>
   intro ps c k r l hp hk hS;rcases JW hS with ⟨x,s',h3,h4⟩ | ⟨d,h3,rfl⟩
   obtain⟨k',a1,a2,rfl,a4⟩:=uA DT ps hp c hk h3;obtain⟨hl,h4⟩:=Oj h4;rcases K9 a2 h4 with ⟨h5,h6,h7⟩ | ⟨h5,h7⟩
   obtain⟨k2,b1,b2,b3,n,b4⟩:=ih (ps++[x.1]) x.2 (k'+1) r l (by simp only[List.length_append,List.length_singleton];omega) h6 h7;refine⟨k2,by omega,b2,b3,n+1,?_⟩
   have hL:BG R ⟨ts,k0,en⟩ ps c (k:Int)=some (.nx (ps++[x.1],x.2,((k'+1:Nat):Int))):=by
     unfold BG;dsimp only at a4 ⊢;rw[a4,Option.bind_some];dsimp only[Sum.elim];rw[EK hl,GQ a2,h5,Option.bind_some,Es DT a2];rfl
   show(BG R ⟨ts,k0,en⟩ ps c (k:Int)).bind _=_;rw[hL];exact b4;obtain⟨rfl,rfl⟩:=Ln h7;refine⟨k',a1,a2,rfl,1,?_⟩
   have hL:BG R ⟨ts,k0,en⟩ ps c (k:Int)=some (.ex (ps++[x.1],x.2,(k':Int))):=by
     unfold BG;dsimp only at a4 ⊢;rw[a4,Option.bind_some];dsimp only[Sum.elim];rw[EK hl,GQ a2,h5,Option.bind_some];rfl
   show(BG R ⟨ts,k0,en⟩ ps c (k:Int)).bind _=_;rw[hL];rfl;obtain⟨k',a1,a2,a3,c',a4⟩:=uA DT ps hp c hk h3;refine⟨k',a1,a2,a3,1,?_⟩
   have hL:BG R ⟨ts,k0,en⟩ ps c (k:Int)=some (.rt (.inr d,(k':Int))):=by
     unfold BG;dsimp only at a4 ⊢;rw[a4,Option.bind_some];rfl
   show(BG R ⟨ts,k0,en⟩ ps c (k:Int)).bind _=_;rw[hL];rfl
omit DT in
theorem kZ(R:Ac)(c:Int)(t:Tk)(kz:Int):∀(ps:List Pt) (acc:List Pc) (i:Nat) (r:(List Pc)⊕Dg) (s l:List Tk),M1 c t.AU ps acc s=some (r,l) ->
   l=s/\CX (λi y x=>ET R c kz t i y x) (λx=>x) ps i acc=some (match r with | .inl x=>.inl x | .inr d=>.inr (.inr d,kz)):=by
 intro ps
 induction ps with
 | nil =>
   intro acc i r s l hS;obtain⟨rfl,rfl⟩:=Ln hS;exact⟨rfl,rfl⟩
 | cons x ps ih =>
   intro acc i r s l hS;unfold M1 at hS;obtain⟨z,hz,hS⟩:=JX hS;rw[CX];unfold ET;rw[hz,Option.bind_some];revert hS;cases E3 1000000 (BQ x.num z);cases E3 (BQ x.num z) (-1000000);intro hS;obtain⟨hl,hS⟩:=Oj hS;obtain⟨rfl,h⟩:=ih _ (i+1) r s l hS;refine⟨rfl,?_⟩;dsimp only[cond];rw[EK hl,Option.bind_some];exact h;intro hS;obtain⟨rfl,rfl⟩:=Np hS;exact⟨rfl,rfl⟩;intro hS;obtain⟨rfl,rfl⟩:=Np hS;exact⟨rfl,rfl⟩
theorem arK{R:Ac}{g:Ek->Rd Nd}(hex:∀{k:Nat},k<=ts.length->∀{r l},g .ex (ts.drop k)=some (r,l)->Jj ts k (R.AM ⟨ts,k,en⟩) r l){k:Nat}(hk:k<=ts.length){r l}(hS:YT en g (ts.drop k)=some (r,l)) :
   Jj ts k (GX R ⟨ts,k,en⟩) r l:=by
 refine BB (λh=>IT DT _ hk h) (λt k1 h hk1 hS=>?_) (λ_ _=>rfl) hS;refine BB (λh=>IT DT _ hk1 h) (λ_ k2 h hk2 hS=>?_) (λ_ _=>rfl) hS;refine BB (λh=>hex hk2 h) (λa k3 h hk3 hS=>?_) (λ_ _=>rfl) hS;refine BB (λh=>IT DT _ hk3 h) (λ_ k4 h hk4 hS=>?_) (λ_ _=>rfl) hS;dsimp only[Sum.elim];rcases JW hS with ⟨x,s',h3,h4⟩ | ⟨d,h3,rfl⟩
 obtain⟨k',a1,a2,rfl,n,a4⟩:=jY DT R (k:Int) _ [] 1 k4 _ _ (by simp) hk4 h3;rw[Jb a4,Option.bind_some];refine K7 a1 ?_;dsimp only[N4];refine BB (λh=>IT DT _ a2 h) (λe k5 h hk5 hS=>?_) (λ_ _=>rfl) h4;obtain⟨hl,hS⟩:=Oj hS;dsimp only[Sum.elim];rw[List.drop_zero,show Lk x.1.length=λy=>y from funext λy=>if_pos (by omega)];dsimp only;rcases JW hS with ⟨y,s2,h5,h6⟩ | ⟨d,h5,rfl⟩
 obtain⟨rfl,h⟩:=kZ R x.2 e (k5:Int) x.1 [] 0 _ _ _ h5;rw[h];exact El hk5 rfl h6;obtain⟨rfl,h⟩:=kZ R x.2 e (k5:Int) x.1 [] 0 _ _ _ h5;rw[h];exact⟨k5,Nat.le_refl _,hk5,rfl,rfl⟩;obtain⟨k',a1,a2,a3,n,a4⟩:=jY DT R (k:Int) _ [] 1 k4 _ _ (by simp) hk4 h3;rw[Jb a4,Option.bind_some];exact⟨k',a1,a2,a3,rfl⟩
theorem oY{R:Ac}{read:Rd Nd}(k0:Int)(Nt:∀{k:Nat},k<=ts.length->∀{r l},read (ts.drop k)=some (r,l)->Jj ts k (R.AM ⟨ts,k,en⟩) r l):∀(q:Nat) (ns:List Nd) (k:Nat) (r:(List Nd)⊕Dg) (l:List Tk),k<=ts.length->RL read q ns (ts.drop k)=some (r,l) ->
   ∃k':Nat,k<=k'/\k'<=ts.length/\l=ts.drop k'/\∃n,Hc (λx=>Bj R ⟨ts,k0,en⟩ x.1 x.2) n (ns,(k:Int))=some (match r with | .inl x=>.inl (x,(k':Int)) | .inr d=>.inr (.inr d,(k':Int))):=by
 intro q
 induction q with
 | zero=>intro ns k r l hk hS;cases hS
 | succ q ih =>
   intro ns k r l hk hS;rcases K9 hk hS with ⟨h1,h2,hS⟩ | ⟨h1,hS⟩
   rcases JW hS with ⟨x,s',h3,h4⟩ | ⟨d,h3,rfl⟩
   obtain⟨k',a1,a2,rfl,a4⟩:=Nt h2 h3;obtain⟨hl,h4⟩:=Oj h4;obtain⟨k2,b1,b2,b3,n,b4⟩:=ih (ns++[x]) k' r l a2 h4;refine⟨k2,by omega,b2,b3,n+1,?_⟩
   have hL:Bj R ⟨ts,k0,en⟩ ns (k:Int)=some (.nx (ns++[x],(k':Int))):=by
     unfold Bj;dsimp only;rw[GQ hk,h1,Option.bind_some,Es DT hk];dsimp only[cond];rw[a4,Option.bind_some];dsimp only[Sum.elim];rw[EK hl]
   show(Bj R ⟨ts,k0,en⟩ ns (k:Int)).bind _=_;rw[hL];exact b4;obtain⟨k',a1,a2,a3,a4⟩:=Nt h2 h3;refine⟨k',by omega,a2,a3,1,?_⟩
   have hL:Bj R ⟨ts,k0,en⟩ ns (k:Int)=some (.rt (.inr d,(k':Int))):=by
     unfold Bj;dsimp only;rw[GQ hk,h1,Option.bind_some,Es DT hk];dsimp only[cond];rw[a4,Option.bind_some];rfl
   show(Bj R ⟨ts,k0,en⟩ ns (k:Int)).bind _=_;rw[hL];rfl;obtain⟨rfl,rfl⟩:=Ln hS;refine⟨k,Nat.le_refl k,hk,rfl,1,?_⟩
   have hL:Bj R ⟨ts,k0,en⟩ ns (k:Int)=some (.ex (ns,(k:Int))):=by
     unfold Bj;dsimp only;rw[GQ hk,h1,Option.bind_some];rfl
   show(Bj R ⟨ts,k0,en⟩ ns (k:Int)).bind _=_;rw[hL];rfl
theorem aoB{R:Ac}{read:Rd Nd}(Nt:∀{k:Nat},k<=ts.length->∀{r l},read (ts.drop k)=some (r,l)->Jj ts k (R.AM ⟨ts,k,en⟩) r l){k:Nat}(hk:k<=ts.length){r l}(hS:S8 read (ts.drop k)=some (r,l)):Jj ts k (Fc R ⟨ts,k,en⟩) r l:=by
 refine BB (λh=>Nt hk h) (λx k1 h hk1 hS=>?_) (λ_ _=>rfl) hS;dsimp only[Sum.elim];rcases K9 hk1 hS with ⟨h1,h2,hS⟩ | ⟨h1,hS⟩
 rw[GQ hk1,h1,Option.bind_some,Es DT hk1];refine K7 (Nat.le_succ k1) ?_;refine BB (λh=>Nt h2 h) (λy k2 h hk2 hS=>?_) (λ_ _=>rfl) hS;obtain⟨hl,hS⟩:=Oj hS;dsimp only[Sum.elim];rw[EK hl];obtain⟨k',a1,a2,a3,n,a4⟩:=oY DT (k:Int) Nt _ _ k2 _ _ hk2 hS;rw[Jb a4,Option.bind_some];refine⟨k',a1,a2,a3,?_⟩;cases r<;>rfl
 rw[GQ hk1,h1,Option.bind_some];exact El hk1 rfl hS
theorem oZ{read:Rd Nd}(k0:Int)(Nt:∀{k:Nat},k<=ts.length->∀{r l},read (ts.drop k)=some (r,l)->Jj ts k (AN ⟨ts,k,en⟩) r l):∀(q:Nat) (ns:List Nd) (k:Nat) (r:(List Nd)⊕Dg) (l:List Tk),k<=ts.length->RL read q ns (ts.drop k)=some (r,l) ->
   ∃k':Nat,k<=k'/\k'<=ts.length/\l=ts.drop k'/\∃n,Hc (λx=>AO ⟨ts,k0,en⟩ x.1 x.2) n (ns,(k:Int))=some (match r with | .inl x=>.inl (x,(k':Int)) | .inr d=>.inr (.inr d,(k':Int))):=by
 intro q
 induction q with
 | zero=>intro ns k r l hk hS;cases hS
 | succ q ih =>
   intro ns k r l hk hS;rcases K9 hk hS with ⟨h1,h2,hS⟩ | ⟨h1,hS⟩
   rcases JW hS with ⟨x,s',h3,h4⟩ | ⟨d,h3,rfl⟩
   obtain⟨k',a1,a2,rfl,a4⟩:=Nt h2 h3;obtain⟨hl,h4⟩:=Oj h4;obtain⟨k2,b1,b2,b3,n,b4⟩:=ih (ns++[x]) k' r l a2 h4;refine⟨k2,by omega,b2,b3,n+1,?_⟩
   have hL:AO ⟨ts,k0,en⟩ ns (k:Int)=some (.nx (ns++[x],(k':Int))):=by
     unfold AO;dsimp only;rw[GQ hk,h1,Option.bind_some,Es DT hk];dsimp only[cond];rw[a4,Option.bind_some];dsimp only[Sum.elim];rw[EK hl]
   show(AO ⟨ts,k0,en⟩ ns (k:Int)).bind _=_;rw[hL];exact b4;obtain⟨k',a1,a2,a3,a4⟩:=Nt h2 h3;refine⟨k',by omega,a2,a3,1,?_⟩
   have hL:AO ⟨ts,k0,en⟩ ns (k:Int)=some (.rt (.inr d,(k':Int))):=by
     unfold AO;dsimp only;rw[GQ hk,h1,Option.bind_some,Es DT hk];dsimp only[cond];rw[a4,Option.bind_some];rfl
   show(AO ⟨ts,k0,en⟩ ns (k:Int)).bind _=_;rw[hL];rfl;obtain⟨rfl,rfl⟩:=Ln hS;refine⟨k,Nat.le_refl k,hk,rfl,1,?_⟩
   have hL:AO ⟨ts,k0,en⟩ ns (k:Int)=some (.ex (ns,(k:Int))):=by
     unfold AO;dsimp only;rw[GQ hk,h1,Option.bind_some];rfl
   show(AO ⟨ts,k0,en⟩ ns (k:Int)).bind _=_;rw[hL];rfl
theorem aoC{read:Rd Nd}(Nt:∀{k:Nat},k<=ts.length->∀{r l},read (ts.drop k)=some (r,l)->Jj ts k (AN ⟨ts,k,en⟩) r l){k:Nat}(hk:k<=ts.length){r l}(hS:S8 read (ts.drop k)=some (r,l)):Jj ts k (DF ⟨ts,k,en⟩) r l:=by
 refine BB (λh=>Nt hk h) (λx k1 h hk1 hS=>?_) (λ_ _=>rfl) hS;dsimp only[Sum.elim];rcases K9 hk1 hS with ⟨h1,h2,hS⟩ | ⟨h1,hS⟩
 rw[GQ hk1,h1,Option.bind_some,Es DT hk1];refine K7 (Nat.le_succ k1) ?_;refine BB (λh=>Nt h2 h) (λy k2 h hk2 hS=>?_) (λ_ _=>rfl) hS;obtain⟨hl,hS⟩:=Oj hS;dsimp only[Sum.elim];rw[EK hl];obtain⟨k',a1,a2,a3,n,a4⟩:=oZ DT (k:Int) Nt _ _ k2 _ _ hk2 hS;rw[Jb a4,Option.bind_some];refine⟨k',a1,a2,a3,?_⟩;cases r<;>rfl
 rw[GQ hk1,h1,Option.bind_some];exact El hk1 rfl hS
end
end Mo
end Go.Proofs.YtpbkhogolfegfaaGreatDoor
namespace Go.Proofs.YtpbkhogolfegfaaGreatDoor
open AI Go
namespace Mo
set_option maxRecDepth 100000
section
variable {ts:List Tk} (DT:ts.length<=1000000) {en:Int} {R:Ac} {g:Ek->Rd Nd} {li:Rd (List Nd)} (A:Agr R ts en g li)
include DT A
theorem awC{k:Nat}(hk:k<=ts.length){r l}(hS:V1 en g (ts.drop k)=some (r,l)):Jj ts k (F5 R ⟨ts,k,en⟩) r l:=by
 refine BB (λh=>A.l4 hk h) (λN k h hk hS=>?_) (λ_ _=>rfl) hS;dsimp only[Sum.elim]
 have fin:∀{y:(Nd⊕Dg)×Int} (k0:Int),BX R ⟨ts,k0,en⟩ (k:Int) N=some (.rt y)->(P7 (λ_:Unit=>BX R ⟨ts,k0,en⟩ (k:Int) N) ()).bind (N4 (λ(_:Unit)=>none) (λv=>some v))=some y:=by
   intro y k0 hL
   have:Hc (λ_:Unit=>BX R ⟨ts,k0,en⟩ (k:Int) N) 1 ()=some (.inr y):=by
     show(BX R ⟨ts,k0,en⟩ (k:Int) N).bind _=_;rw[hL];rfl
   rw[Jb this];rfl
 rcases aoP (en:=en) hk hS with ⟨x,h1,h2,hS⟩ | ⟨h2,hS⟩
 obtain⟨k',a1,a2,rfl,⟨n,b,hX,hb,rfl⟩ | ⟨d,hX,rfl⟩⟩:=M0 DT h1 (λh=>A.l4 h1 h) hS;refine⟨k',by omega,a2,rfl,fin _ ?_⟩;unfold BX;dsimp only;rw[h2];dsimp only[Option.bind,cond];rw[Es DT hk];cases hE:BS x.data.toList E9.data.toList <;>
 · rw[hE] at hX;dsimp only[cond] at hX;dsimp only
   rw[hX];dsimp only[Sum.elim];rw[hb]
 refine⟨k',by omega,a2,rfl,fin _ ?_⟩;unfold BX;dsimp only;rw[h2];dsimp only[Option.bind,cond];rw[Es DT hk];cases hE:BS x.data.toList E9.data.toList <;>
 · rw[hE] at hX;dsimp only[cond] at hX;dsimp only
   rw[hX];rfl
 obtain⟨rfl,rfl⟩:=Ln hS;refine⟨k,Nat.le_refl k,hk,rfl,fin _ ?_⟩;unfold BX;dsimp only;rw[h2];rfl
theorem aEG{k:Nat}(hk:k<=ts.length){r l}(hS:WA en g (ts.drop k)=some (r,l)):Jj ts k (EA R ⟨ts,k,en⟩) r l:=by
 unfold WA at hS;unfold EA;rw[GQ hk,Option.bind_some];cases hx:Ji SG (ts.drop k) with
 | true =>
   rw[hx] at hS;refine BB (λh=>IT DT _ hk h) (λt k h hk hS=>?_) (λ_ _=>rfl) hS;refine BB (λh=>A.l2 hk h) (λN k h hk hS=>?_) (λ_ _=>rfl) hS;exact El hk rfl hS
 | false =>
   rw[hx] at hS;obtain⟨k',a1,a2,a3,a4⟩:=A.l3 hk hS;refine⟨k',a1,a2,a3,?_⟩;dsimp only[cond];rw[a4,Option.bind_some];cases r with
   | inr d=>rfl
   | inl N =>
     dsimp only[Sum.elim]
     have hL:Hc (λx:Int×ByteArray×ByteArray×Int×Int×Int×Int×Int×List Pc×List Nd×Int×Int=>CU R ⟨ts,k,en⟩ x.1 x.2.1 x.2.2.1 x.2.2.2.1 x.2.2.2.2.1 x.2.2.2.2.2.1 x.2.2.2.2.2.2.1 x.2.2.2.2.2.2.2.1 x.2.2.2.2.2.2.2.2.1 x.2.2.2.2.2.2.2.2.2.1 x.2.2.2.2.2.2.2.2.2.2.1 x.2.2.2.2.2.2.2.2.2.2.2) 1 (N.kind,N.name,N.unit,N.n,N.fr,N.to,N.known,N.CL.den,N.CL.ps,N.kids,N.AU,(k':Int))=some (.inr (.inl N,(k':Int))):=by
       have:CU R ⟨ts,k,en⟩ N.kind N.name N.unit N.n N.fr N.to N.known N.CL.den N.CL.ps N.kids N.AU (k':Int)=some (.rt (.inl N,(k':Int))):=by
         unfold CU EQ;dsimp only[Option.bind,cond];rw[Qd]
       show(CU R ⟨ts,k,en⟩ N.kind N.name N.unit N.n N.fr N.to N.known N.CL.den N.CL.ps N.kids N.AU (k':Int)).bind _=_;rw[this];rfl
     rw[Jb hL];rfl
omit DT A in
theorem Qi{F:Option ((Nd⊕Dg)×Int)}{k:Nat}{r l}(h:Jj ts k F r l):Jj ts k (F.bind λ(En,Bi)=>Sum.elim (λ(Aw:Nd)=>some ((Sum.inl Aw:(Nd⊕Dg)),Bi)) (λ(CQ:Dg)=>some ((Sum.inr CQ:(Nd⊕Dg)),Bi)) En) r l:=by
 obtain⟨k',a1,a2,a3,a4⟩:=h;refine⟨k',a1,a2,a3,?_⟩;rw[a4,Option.bind_some];cases r<;>rfl
theorem awA{k:Nat}(hk:k<=ts.length){r l}(hS:XJ en g li (ts.drop k)=some (r,l)):Jj ts k (Hi R ⟨ts,k,en⟩) r l:=by
 refine VJ hk (λt h1 h2 hS=>?_) (λ_=>rfl) hS;have hS:=Zy h2 hS;dsimp only[Sum.elim];rw[Es DT hk];refine K7 (Nat.le_succ k) ?_;refine BB (λh=>IT DT _ h1 h) (λ_ k h hk hS=>?_) (λ_ _=>rfl) hS;refine BB (λh=>A.ex hk h) (λa k h hk hS=>?_) (λ_ _=>rfl) hS;dsimp only[Sum.elim];rw[EK (by omega)];refine BB (λh=>IT DT _ hk h) (λ_ k h hk hS=>?_) (λ_ _=>rfl) hS;refine BB (λh=>A.li hk h) (λns k h hk hS=>?_) (λ_ _=>rfl) hS;obtain⟨hl,hS⟩:=Oj hS;dsimp only[Sum.elim];rw[EK (by simpa using hl)]
 cases hE:Dr ((ns.length:Nat):Int) 0 with
 | true =>
   have:ns=[]:=List.eq_nil_of_length_eq_zero (by have:=FG hE;omega);subst this;refine BB (λh=>IT DT _ hk h) (λ_ k h hk hS=>?_) (λ_ _=>rfl) hS;exact El hk rfl hS
 | false =>
   refine BB (λh=>IT DT _ hk h) (λ_ k h hk hS=>?_) (λ_ _=>rfl) hS;exact El hk rfl hS
theorem aBB(t:Tk){k:Nat}(hk:k<=ts.length){r l}(hS:Tf en g t (ts.drop k)=some (r,l)):Jj ts k (FN R ⟨ts,k,en⟩ t) r l:=by
 have one:∀{X:Nd} {r l},Xe (Gj X) (ts.drop k)=some (r,l)->Jj ts k (some (.inl X,BK (k:Int) 1)) r l:=by
   intro X r l h;obtain⟨h1,h2⟩:=agF hk h;rw[Es DT hk];exact K7 (Nat.le_succ k) (El h1 rfl h2)
 revert hS;unfold Tf FN;cases BS t.text.data.toList YY.data.toList;rotate_left;exact one;cases BS t.text.data.toList Tq.data.toList;rotate_left;exact one;cases BS t.text.data.toList bR.data.toList;rotate_left;intro hS;obtain⟨h1,hS⟩:=agF hk hS;dsimp only[cond];rw[Es DT hk];refine K7 (Nat.le_succ k) ?_;refine BB (λh=>Oy DT _ h1 h) (λa k h hk hS=>?_) (λ_ _=>rfl) hS;exact El hk rfl hS;cases BS t.text.data.toList Lb.data.toList;rotate_left;exact one;cases BS t.text.data.toList cE.data.toList;rotate_left;exact one;cases BS t.text.data.toList Qc.data.toList;rotate_left;exact one;cases BS t.text.data.toList U9.data.toList;rotate_left;exact one;cases BS t.text.data.toList Kt.data.toList;rotate_left;exact λhS=>Qi (A.ca hk hS);cases BS t.text.data.toList FX.data.toList;rotate_left;exact λhS=>Qi (A.ca hk hS);cases BS t.text.data.toList Qu.data.toList;rotate_left;exact λhS=>Qi (A.ta hk hS);cases BS t.text.data.toList dY.data.toList;rotate_left;intro hS;obtain⟨h1,hS⟩:=agF hk hS;dsimp only[cond];rw[Es DT hk];refine K7 (Nat.le_succ k) ?_;refine BB (λh=>A.ex h1 h) (λa k h hk hS=>?_) (λ_ _=>rfl) hS;refine BB (λh=>IT DT _ hk h) (λ_ k h hk hS=>?_) (λ_ _=>rfl) hS;exact El hk rfl hS;exact λhS=>El hk rfl hS
theorem avX{k:Nat}(hk:k<=ts.length){r l}(hS:V0 en g (ts.drop k)=some (r,l)):Jj ts k (Hh R ⟨ts,k,en⟩) r l:=by
 refine VJ hk (λt h1 h2 hS=>?_) (λ_=>rfl) hS;revert hS;dsimp only[Sum.elim];cases Dr t.kind 3;rotate_left;intro hS;refine BB (λh=>jR DT hk h) (λn k h hk hS=>?_) (λ_ _=>rfl) hS;refine uJ hk (λhk1 hS=>?_) (λhS=>?_) hS;refine El hk1 (Es DT hk) hS;exact El hk rfl hS;cases Dr t.kind 2;rotate_left;intro hS;have hS:=Zy h2 hS;dsimp only[cond];rw[Es DT hk];refine K7 (Nat.le_succ k) ?_;refine BB (λh=>Qv DT EM h1 h) (λa k h hk hS=>?_) (λ_ _=>rfl) hS;obtain⟨c,hc,hS⟩:=JX hS;dsimp only[Sum.elim];rw[hc];exact El hk rfl hS;intro hS;obtain⟨b,hb,hS⟩:=JX hS;dsimp only[cond];rw[hb,Option.bind_some];cases b;exact Qi (A.wd t hk hS);have hS:=Zy h2 hS;dsimp only;rw[Es DT hk];exact K7 (Nat.le_succ k) (El h1 rfl hS)
end
theorem alO{ts:List Tk}(DT:ts.length<=1000000)(en:Int):∀q:Nat,Agr (Aj q) ts en (gP en q).1 (gP en q).2:=by
 intro q
 induction q with
 | zero=>constructor<;>intros<;>rename_i h<;>cases h
 | succ q A =>
   constructor
   case ex=>intro k hk r l h;simp only[Aj,Bd];exact Qi (A.l0 hk h)
   case l0=>intro k hk r l h;simp only[Aj,A1];exact afF DT (λhk _ _ h=>A.l1 hk h) hk h
   case l1=>intro k hk r l h;simp only[Aj,A2];exact afG DT (λhk _ _ h=>A.l2 hk h) hk h
   case l2=>intro k hk r l h;simp only[Aj,A3];exact aEG DT A hk h
   case l3=>intro k hk r l h;simp only[Aj,A4];exact awC DT A hk h
   case l4=>intro k hk r l h;simp only[Aj,A5];exact afH DT (λhk _ _ h=>A.l5 hk h) hk h
   case l5=>intro k hk r l h;simp only[Aj,A6];exact afI DT (λhk _ _ h=>A.l6 hk h) hk h
   case l6=>intro k hk r l h;simp only[Aj,A7];exact Qi (A.at_ hk h)
   case at_=>intro k hk r l h;simp only[Aj,Bm];exact avX DT A hk h
   case wd=>intro t k hk r l h;simp only[Aj,Bp];exact aBB DT A t hk h
   case ca=>intro k hk r l h;simp only[Aj,Bo];exact awA DT A hk h
   case ta=>intro k hk r l h;simp only[Aj,Bh];exact arK DT (λhk _ _ h=>A.ex hk h) hk h
   case li=>intro k hk r l h;simp only[Aj,AT];exact aoB DT (λhk _ _ h=>A.ex hk h) hk h
end Mo
end Go.Proofs.YtpbkhogolfegfaaGreatDoor
namespace Go.Proofs.YtpbkhogolfegfaaGreatDoor
open AI Go
namespace Mo
set_option maxRecDepth 100000
section
variable (S:Int->Int->Prop) (en en':Int) (w:List Tk)
def TR(t t':Tk):Prop:=t.kind=t'.kind/\t.text=t'.text/\S t.AU t'.AU
inductive F2:List Tk->List Tk->Prop
 | nil:F2 [] []
 | cons {t t':Tk} {l l':List Tk}:TR S t t'->F2 l l'->F2 (t::l) (t'::l')
mutual
inductive NR:Nd->Nd->Prop
 | mk {k:Int} {nm u:ByteArray} {n f t kn:Int} {tb:Fn} {ks ks':List Nd} {a a':Int}:NRs ks ks'->S a a'->NR ⟨k,nm,u,n,f,t,kn,tb,ks,a⟩ ⟨k,nm,u,n,f,t,kn,tb,ks',a'⟩
inductive NRs:List Nd->List Nd->Prop
 | nil:NRs [] []
 | cons {n n':Nd} {l l':List Nd}:NR n n'->NRs l l'->NRs (n::l) (n'::l')
end
def DR(d d':Dg):Prop:=d.err=d'.err/\(S d.AU d'.AU\/d=⟨72,en⟩/\d'=⟨72,en'⟩)
inductive RR{α:Type}(Q:α->α->Prop):α⊕Dg->α⊕Dg->Prop
 | l {a a':α}:Q a a'->RR Q (.inl a) (.inl a')
 | r {d d':Dg}:DR S en en' d d'->RR Q (.inr d) (.inr d')
def Ends{α:Type}(b:Bool)(r:α⊕Dg)(s:List Tk):Prop:=s=[]/\(r=.inr ⟨72,en⟩\/b=false/\∃a,r=.inl a)
def RP{α:Type}(b:Bool)(Q:α->α->Prop)(m m':Rd α):Prop:=∀⦃l l1 s s':List Tk⦄ ⦃r r':α⊕Dg⦄,F2 S l l1->m l=some (r,s)->m' (l1++w)=some (r',s') ->
 (∃s1,s'=s1++w/\F2 S s s1/\RR S en en' Q r r')\/w≠[]/\Ends en b r s
def EO{α:Type}(b:Bool)(m:Rd α):Prop:=∀⦃r:α⊕Dg⦄ ⦃s:List Tk⦄,m []=some (r,s)->Ends en b r s
end
section
variable {S:Int->Int->Prop} {en en':Int} {w:List Tk} {α β:Type} {b:Bool} {Q:α->α->Prop} {Q2:β->β->Prop}
def Ends.Y7{r:α⊕Dg}{s:List Tk}(h:Ends en true r s):Ends en b r s:=by
 refine⟨h.1,?_⟩;rcases h.2 with h | ⟨h,_⟩
 exact .inl h;cases h
def RP.Y7{m m':Rd α}(h:RP S en en' w true Q m m'):RP S en en' w b Q m m':=λ_ _ _ _ _ _ f h1 h2=>(h f h1 h2).imp id λh=>⟨h.1,h.2.Y7⟩
def EO.Y7{m:Rd α}(h:EO en true m):EO en b m:=λ_ _ h1=>(h h1).Y7
def FA{a a':α}(h:Q a a'):RP S en en' w b Q (Gj a) (Gj a'):=by
 intro l l1 s s' r r' f h1 h2;obtain⟨rfl,rfl⟩:=Ln h1;obtain⟨rfl,rfl⟩:=Ln h2;exact .inl ⟨l1,rfl,f,.l h⟩
def NQ{e p p':Int}(h:S p p'):RP S en en' w b Q (Mv e p) (Mv e p'):=by
 intro l l1 s s' r r' f h1 h2;obtain⟨rfl,rfl⟩:=Np h1;obtain⟨rfl,rfl⟩:=Np h2;exact .inl ⟨l1,rfl,f,.r ⟨rfl,.inl h⟩⟩
def Ko{m m':Rd α}{K K':α->Rd β}(h1:RP S en en' w false Q m m')(h2:∀a a',Q a a'->RP S en en' w b Q2 (K a) (K' a'))(h3:∀a,EO en b (K a)):RP S en en' w b Q2 (Cu m K) (Cu m' K'):=by
 intro l l1 s s' r r' f e1 e2;rcases JW e1 with ⟨a,t,e3,e4⟩ | ⟨d,e3,rfl⟩
 rcases JW e2 with ⟨a',t',e5,e6⟩ | ⟨d',e5,rfl⟩
 rcases h1 f e3 e5 with ⟨s1,rfl,f1,q⟩ | ⟨hw,rfl,_⟩
 cases q with
 | l q=>exact h2 _ _ q f1 e4 e6
 exact .inr ⟨hw,h3 a e4⟩;rcases h1 f e3 e5 with ⟨s1,rfl,f1,q⟩ | ⟨hw,rfl,_⟩
 cases q;exact .inr ⟨hw,h3 a e4⟩;rcases JW e2 with ⟨a',t',e5,e6⟩ | ⟨d',e5,rfl⟩
 rcases h1 f e3 e5 with ⟨s1,rfl,f1,q⟩ | ⟨hw,rfl,hq⟩
 cases q;rcases hq with hq | ⟨_,a,hq⟩
 cases hq;exact .inr ⟨hw,rfl,.inl rfl⟩;cases hq;rcases h1 f e3 e5 with ⟨s1,rfl,f1,q⟩ | ⟨hw,rfl,hq⟩
 cases q with
 | r q=>exact .inl ⟨s1,rfl,f1,.r q⟩
 rcases hq with hq | ⟨_,a,hq⟩
 cases hq;exact .inr ⟨hw,rfl,.inl rfl⟩;cases hq
def Fy{m m':Rd α}{K K':α->Rd β}(h1:RP S en en' w true Q m m')(h2:∀a a',Q a a'->RP S en en' w b Q2 (K a) (K' a')):RP S en en' w b Q2 (Cu m K) (Cu m' K'):=by
 intro l l1 s s' r r' f e1 e2
 have no:∀{a:α} {t:List Tk},m l=some (.inl a,t)->¬Ends en true (Sum.inl a:α⊕Dg) t:=by
   rintro a t _ ⟨_,h | ⟨h,_⟩⟩<;>cases h
 rcases JW e1 with ⟨a,t,e3,e4⟩ | ⟨d,e3,rfl⟩
 rcases JW e2 with ⟨a',t',e5,e6⟩ | ⟨d',e5,rfl⟩
 rcases h1 f e3 e5 with ⟨s1,rfl,f1,q⟩ | ⟨hw,h⟩
 cases q with
 | l q=>exact h2 _ _ q f1 e4 e6
 exact absurd h (no e3);rcases h1 f e3 e5 with ⟨s1,rfl,f1,q⟩ | ⟨hw,h⟩
 cases q;exact absurd h (no e3);rcases JW e2 with ⟨a',t',e5,e6⟩ | ⟨d',e5,rfl⟩
 rcases h1 f e3 e5 with ⟨s1,rfl,f1,q⟩ | ⟨hw,rfl,hq⟩
 cases q;rcases hq with hq | ⟨hq,_⟩
 cases hq;exact .inr ⟨hw,rfl,.inl rfl⟩;cases hq;rcases h1 f e3 e5 with ⟨s1,rfl,f1,q⟩ | ⟨hw,rfl,hq⟩
 cases q with
 | r q=>exact .inl ⟨s1,rfl,f1,.r q⟩
 rcases hq with hq | ⟨hq,_⟩
 cases hq;exact .inr ⟨hw,rfl,.inl rfl⟩;cases hq
def Ql{X:Option β}{K K':β->Rd α}(h:∀a,X=some a->RP S en en' w b Q (K a) (K' a)):RP S en en' w b Q (Lh X K) (Lh X K'):=by
 intro l l1 s s' r r' f e1 e2;obtain⟨a,ha,e1⟩:=JX e1;obtain⟨a',ha',e2⟩:=JX e2;rw[ha] at ha';cases ha';exact h a ha f e1 e2
def ahD{K K':Tk->Rd α}(h:∀t t',TR S t t'->RP S en en' w b Q (K t) (K' t')):RP S en en' w b Q (Wj en K) (Wj en' K'):=by
 intro l l1 s s' r r' f e1 e2;cases f with
 | nil =>
   simp only[Wj,Option.some.injEq,Prod.mk.injEq] at e1;obtain⟨rfl,rfl⟩:=e1;by_cases hw:w=[];subst hw;simp only[Wj,List.append_nil,Option.some.injEq,Prod.mk.injEq] at e2;obtain⟨rfl,rfl⟩:=e2;exact .inl ⟨[],rfl,.nil,.r ⟨rfl,.inr ⟨rfl,rfl⟩⟩⟩;exact .inr ⟨hw,rfl,.inl rfl⟩
 | cons ht f=>exact h _ _ ht (.cons ht f) e1 e2
def UH{K K':Rd α}(h:RP S en en' w b Q K K'):RP S en en' w b Q (Xe K) (Xe K'):=by
 intro l l1 s s' r r' f e1 e2;cases f with
 | nil=>cases e1
 | cons ht f=>exact h f e1 e2
def YH{x:ByteArray}{A A' B B':Rd α}(h1:RP S en en' w b Q A A')(h2:RP S en en' w b Q B B')(h3:EO en b B):RP S en en' w b Q (N9 x A B) (N9 x A' B'):=by
 intro l l1 s s' r r' f e1 e2;cases f with
 | nil =>
   by_cases hw:w=[];subst hw;exact h2 .nil e1 e2;exact .inr ⟨hw,h3 e1⟩
 | cons ht f =>
   rename_i t t' l l';unfold N9 at e1 e2
   have:Ji x (t::l)=Ji x (t'::l'++w):=by
     show BS t.text.data.toList _=BS t'.text.data.toList _;rw[ht.2.1]
   rw[<- this] at e2;cases hx:Ji x (t::l) with
   | true=>rw[hx] at e1 e2;exact h1 f e1 e2
   | false=>rw[hx] at e1 e2;exact h2 (.cons ht f) e1 e2
def YG{n n':Nat}{m m':Rd α}(h:RP S en en' w b Q m m'):RP S en en' w b Q (PI n m) (PI n' m'):=by
 intro l l1 s s' r r' f e1 e2;exact h f (Oj e1).2 (Oj e2).2
def DG{c:Bool}{A A' B B':Rd α}(h1:c=true->RP S en en' w b Q A A')(h2:c=false->RP S en en' w b Q B B'):RP S en en' w b Q (cond c A B) (cond c A' B'):=by
 cases c;exact h2 rfl;exact h1 rfl
def ahB{K K':Nat->Rd α}(h:∀n n',RP S en en' w b Q (K n) (K' n')):RP S en en' w b Q (λs=>K (s.length+1) s) (λs=>K' (s.length+1) s):=by
 intro l l1 s s' r r' f e1 e2;exact h _ _ f e1 e2
def rR{K:Tk->Rd α}:EO en b (Wj en K):=by
 intro r s h;simp only[Wj,Option.some.injEq,Prod.mk.injEq] at h;obtain⟨rfl,rfl⟩:=h;exact⟨rfl,.inl rfl⟩
def ON{a:α}:EO en false (Gj a):=by
 intro r s h;obtain⟨rfl,rfl⟩:=Ln h;exact⟨rfl,.inr ⟨rfl,a,rfl⟩⟩
def Nl{m:Rd α}{K:α->Rd β}(h:EO en true m):EO en b (Cu m K):=by
 intro r s e1;rcases JW e1 with ⟨a,t,e3,e4⟩ | ⟨d,e3,rfl⟩
 obtain⟨_,h | ⟨h,_⟩⟩:=h e3<;>cases h
 obtain⟨h1,h | ⟨h,_⟩⟩:=h e3;cases h;exact⟨h1,.inl rfl⟩;cases h
def awD{X:Option β}{K:β->Rd α}(h:∀a,EO en b (K a)):EO en b (Lh X K):=by
 intro r s e1;obtain⟨a,_,e1⟩:=JX e1;exact h a e1
def nR{x:ByteArray}{A B:Rd α}(h:EO en b B):EO en b (N9 x A B):=λ_ _ e1=>h e1
def acL{n:Nat}{m:Rd α}(h:EO en b m):EO en b (PI n m):=λ_ _ e1=>h (Oj e1).2
end
end Mo
end Go.Proofs.YtpbkhogolfegfaaGreatDoor
