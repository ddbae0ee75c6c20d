/- Part of a proof: see the last text. -/
import Derived.Test.YtpbkhogolfegfaaGreatDoorPpq
set_option linter.unusedVariables false
set_option linter.unusedSimpArgs false
set_option linter.defProp false
noncomputable section
namespace Go.Proofs.YtpbkhogolfegfaaGreatDoor
open AI Go
namespace Mo
set_option maxRecDepth 100000
set_option maxHeartbeats 4000000
variable {mx:Int}
def an2:Code:=A3 Tryz.f145
def aoM:Tryz.f145.body=some an2:=by kernel_rfl
def GL(day:Int):Option Bool:=cond (Oe 0 day) (cond (Oe day 36524) (some true) (some false)) (some false)
def KA{day:Int}{yR:Bool}(h:GL  day=some yR):Pure P (G mx) 145 [.zi day] (.zb yR):=by
 unfold GL at h;refine C9 Hd.mixed Hd.Aa (Ay Tryz.func145 aoM ?_) (A1 rfl rfl) rfl;revert h;refine Ag (λA0=>?_) λA0=>?_;refine Ag (λCg=>?_) λCg=>?_;rintro⟨⟩;exact rT [pb A0,pb Cg];rintro⟨⟩;exact rT [pb A0,pb Cg];rintro⟨⟩;exact rT [pb A0]
def anM:Code:=A3 Tryz.f102
def aos:Tryz.f102.body=some anM:=by kernel_rfl
def Fx(c:Ck)(n:Nd)(depth:Int):Option (Bool×Int):=(CH c n depth).bind λ(EA,Bm)=>cond EA (cond (CV n.kind 5) (cond (DS n.n 0) (some (false,Bm)) (cond (DS 1000000 n.n) (some (false,Bm)) (cond (DS 0 ((n.kids.length:Nat):Int)) (some (false,Bm)) ((GL n.fr).bind λy2=>cond y2 (cond (Oe n.to n.fr) (some (false,Bm)) (cond (DS 36525 n.to) (some (false,Bm)) ((GL n.known).bind λy3=>cond y3 ((B5 n (⟨0,ByteArray.empty,ByteArray.empty,n.n,n.fr,n.to,n.known,(⟨0,[]⟩:Fn),[],0⟩:Nd)).bind λy4=>some (y4,Bm)) (some (false,Bm))))) (some (false,Bm)))))) (some (false,Bm))) (some (false,Bm))
def RW{c:Ck}{n:Nd}{depth:Int}{yR:Bool}{Ae:Int}(hS:Sound P (G mx) (.call 102 [.ptr 0 0,.agg (Dd n),.zi depth] ⟨[(0,.cells (JF c))],1,[],0⟩ (.ret (.zb yR)) ⟨[(0,.cells [.zi Ae])],1,[],0⟩))(u0:Nat)(Qa:([u0]:List Nat).Nodup:=by decide)(Qb:([]:List Nat).Nodup:=by decide):Cd.ok P (G mx) (.Ff 102 [.ptr u0 0,.agg (Dd n),.zi depth] (.ret (.zb yR)) [(u0,.cells (JF c))] [] [(u0,.cells [.zi Ae])] []) :=
 H5 (M:=[.cells (JF c)]) (M2:=[.cells [.zi Ae]]) (T:=[]) (T2:=[]) (k:=1) (j:=0) Hd.Aa _ _ _ _ hS rfl rfl rfl rfl rfl Qa Qb rfl rfl (.cons (.cells (.pl (RD.pl c))) .nil) (.cons (.cells (.pl (A1 rfl rfl))) .nil) (.cons (.ptr (by decide)) (.cons (.pl (AD.Cw n)) (.cons (.pl rfl) .nil))) (.pl rfl) (λe he=>by simp only[List.mem_singleton] at he;subst he;exact(.arg (.here .ptr)))
def PJ{c:Ck}{n:Nd}{depth:Int}{yR:Bool}{Ae:Int}(h:Fx  c n depth=some (yR,Ae)):Sound P (G mx) (.call 102 [.ptr 0 0,.agg (Dd n),.zi depth] ⟨[(0,.cells (JF c))],1,[],0⟩ (.ret (.zb yR)) ⟨[(0,.cells [.zi Ae])],1,[],0⟩):=by
 unfold Fx at h;refine B0 Hd.mixed (Ay Tryz.func102 aos ?_);revert h;refine Aq ?_;rintro⟨EA,Bm⟩ Cj;dsimp only;let o1:List (PC P (G mx)):=[Af (Fy (Et Cj) 0)];refine Ag (λhv=>?_) λhv=>?_;subst hv;refine Ag (λA0=>?_) λA0=>?_;refine Ag (λCg=>?_) λCg=>?_;rintro⟨⟩;exact Aw Hd.Aa _ _ [] [none] (Ac 300 (o1++[pn A0,pb Cg])) (by kernel_rfl) .body;let o2:List (PC P (G mx)):=o1++[pn A0,pb Cg];refine Ag (λDC=>?_) λDC=>?_;rintro⟨⟩;exact Aw Hd.Aa _ _ [] [none] (Ac 300 (o2++[pb DC])) (by kernel_rfl) .body;refine Ag (λFh=>?_) λFh=>?_;rintro⟨⟩;exact Aw Hd.Aa _ _ [] [none] (Ac 300 (o2++[pb DC,pb Fh])) (by kernel_rfl) .body;refine Aq λy2 D8=>?_;let o3:List (PC P (G mx)):=o2++[pb DC,pb Fh,AM (KA D8)];refine Ag (λhv=>?_) λhv=>?_;subst hv;refine Ag (λH7=>?_) λH7=>?_;rintro⟨⟩;exact Aw Hd.Aa _ _ [] [none] (Ac 300 (o3++[pb H7])) (by kernel_rfl) .body;refine Ag (λIP=>?_) λIP=>?_;rintro⟨⟩;exact Aw Hd.Aa _ _ [] [none] (Ac 300 (o3++[pb H7,pb IP])) (by kernel_rfl) .body;refine Aq λy3 Fj=>?_;refine Ag (λhv=>?_) λhv=>?_;subst hv;refine Aq λy4 Kd=>?_;rintro⟨⟩;exact Aw Hd.Aa _ _ [] [none] (Ac 300 (o3++[pb H7,pb IP,AM (KA Fj),Ix (.r (.g (.r (.r (.r (.r (.r (.r (.r (.r (.z (.z (.r .nil))))))))))) .nil)) (BZ Kd)])) (by kernel_rfl) .body;subst hv;rintro⟨⟩;exact Aw Hd.Aa _ _ [] [none] (Ac 300 (o3++[pb H7,pb IP,AM (KA Fj)])) (by kernel_rfl) .body;subst hv;rintro⟨⟩;exact Aw Hd.Aa _ _ [] [none] (Ac 300 o3) (by kernel_rfl) .body;rintro⟨⟩;exact Aw Hd.Aa _ _ [] [none] (Ac 300 (o1++[pn A0])) (by kernel_rfl) .body;subst hv;rintro⟨⟩;exact Aw Hd.Aa _ _ [] [none] (Ac 300 o1) (by kernel_rfl) .body
def Gf(depth:Int)(i0:Nat)(e0:Nd)(Fe:Int):Option (Lp Int Int (Bool×Int)):=(F3 (⟨Fe⟩:Ck) e0 depth).bind λ(EA,Bm)=>cond EA (some (.nx Bm)) (some (.rt (false,Bm)))
def EM(c:Ck)(list:(List Nd))(depth:Int):Option (Bool×Int):=(TA list.length (C8 (λi y x=>Gf  depth i y x) (λx=>x) (list.drop 0) 0 c.nodes)).bind (MN (λ(OP:Int)=>some (true,OP)) (λv=>some v))
def NI{c:Ck}{list:(List Nd)}{depth:Int}{yR:Bool}{Ae:Int}(hS:Sound P (G mx) (.call 55 [.ptr 0 0,.sl .lost list.length (BF list),.zi depth,.fn (.func 144) [.ptr 0 0] []] ⟨[(0,.cells (JF c))],1,[],0⟩ (.ret (.zb yR)) ⟨[(0,.cells [.zi Ae])],1,[],0⟩))(u0:Nat)(Qa:([u0]:List Nat).Nodup:=by decide)(Qb:([]:List Nat).Nodup:=by decide):Cd.ok P (G mx) (.Ff 55 [.ptr u0 0,.sl .lost list.length (BF list),.zi depth,.fn (.func 144) [.ptr u0 0] []] (.ret (.zb yR)) [(u0,.cells (JF c))] [] [(u0,.cells [.zi Ae])] []) :=
 H5 (M:=[.cells (JF c)]) (M2:=[.cells [.zi Ae]]) (T:=[]) (T2:=[]) (k:=1) (j:=0) Hd.Aa _ _ _ _ hS rfl rfl rfl rfl rfl Qa Qb rfl rfl (.cons (.cells (.pl (RD.pl c))) .nil) (.cons (.cells (.pl (A1 rfl rfl))) .nil) (.cons (.ptr (by decide)) (.cons (.pl (AD.IH list)) (.cons (.pl rfl) (.cons (.fn (.cons (.ptr (by decide)) .nil) (.pl rfl)) .nil)))) (.pl rfl) (λe he=>by simp only[List.mem_singleton] at he;subst he;exact(.arg (.here .ptr)))
def Ml{c:Ck}{list:(List Nd)}{depth:Int}{yR:Bool}{Ae:Int}(h:EM  c list depth=some (yR,Ae)):Sound P (G mx) (.call 55 [.ptr 0 0,.sl .lost list.length (BF list),.zi depth,.fn (.func 144) [.ptr 0 0] []] ⟨[(0,.cells (JF c))],1,[],0⟩ (.ret (.zb yR)) ⟨[(0,.cells [.zi Ae])],1,[],0⟩):=by
 unfold EM at h;refine B0 Hd.mixed (Ay Tryz.func55 b55 ?_);revert h;refine R9 (λQ v=>RS P (G mx) Tryz.f55 1 ⟨[(0,.cells (JF c))],1,[],0⟩ Q (.zb v.1) ⟨[(0,.cells [.zi v.2])],1,[],0⟩) (λi0 (Fe:Int) (j0:List Value)=>fr 23 [(2,.zi depth),(3,.fn (.func 144) [.ptr 0 0] []),(11,.sl .lost list.length (BF list)),(12,.zi ((list.length:Nat):Int)),(13,.zi ((i0:Nat):Int))] [8,14,20,21] j0) (λ(Fe:Int)=>⟨[(0,.cells [.zi Fe])],1,[],0⟩) (λ(Fe:Int) (jx:List Value)=>fr 23 [] [8,14,20,21] jx) (λ(Fe:Int)=>⟨[(0,.cells [.zi Fe])],1,[],0⟩) [bF] (He [] 0 (sb B55 52) [.code (sb B55 7)] (Ac 300 []) (by kernel_rfl)) ?_ ?_ ?_ (λv h=>by cases h;exact .outer .body);rintro i0 Fe j0 OT hq;exact DZ (Ac 300 [pb (j7 OT)]) (by kernel_rfl) (hq (js 4 j0 [(1,bF)]));rintro i0 e0 Fe j0 r QU P9 OZ k;show Gf  depth i0 e0 Fe=some r->_;unfold Gf;refine Aq ?_;rintro⟨EA,Bm⟩ Cj;dsimp only;let o1:List (PC P (G mx)):=[pb (ZN P9),IV (Ky .lost QU),Af (Lg (PM Cj) 0)];refine Ag (λhv=>?_) λhv=>?_;subst hv;rintro⟨⟩;exact Gq Hd.Aa [fq (AD.IH list)] [none] (Ac 300 (o1++[pi OZ])) (by kernel_rfl) (k [(jv j0 0),bT,bT,bF]);subst hv;rintro⟨⟩;exact Aw Hd.Aa _ _ [] [none] (Ac 300 o1) (by kernel_rfl) (.Gi k);rintro OP pG;rintro⟨⟩;exact Aw Hd.Aa _ _ [] [none] (HH 300 []) (by kernel_rfl) .body
def anN:Code:=A3 Tryz.f103
def aot:Tryz.f103.body=some anN:=by kernel_rfl
def DT(c:Ck)(n:Nd)(depth:Int):Option (Bool×Int):=(CH c n depth).bind λ(EA,Bm)=>cond EA ((B5 n (⟨0,ByteArray.empty,ByteArray.empty,0,0,0,0,(⟨0,[]⟩:Fn),[],0⟩:Nd)).bind λy2=>cond y2 (cond (CV n.kind 7) (cond (DS 0 ((n.kids.length:Nat):Int)) ((EM (⟨Bm⟩:Ck) n.kids (BC depth 1)).bind λ(IW,EU)=>some (IW,EU)) (some (false,Bm))) (cond (CV ((n.kids.length:Nat):Int) 1) ((n.kids[0]?).bind λx4=>(G5 (⟨Bm⟩:Ck) x4 (BC depth 1)).bind λ(SH,HV)=>some (SH,HV)) (some (false,Bm)))) (some (false,Bm))) (some (false,Bm))
def Qm{c:Ck}{n:Nd}{depth:Int}{yR:Bool}{Ae:Int}(hS:Sound P (G mx) (.call 103 [.ptr 0 0,.agg (Dd n),.zi depth] ⟨[(0,.cells (JF c))],1,[],0⟩ (.ret (.zb yR)) ⟨[(0,.cells [.zi Ae])],1,[],0⟩))(u0:Nat)(Qa:([u0]:List Nat).Nodup:=by decide)(Qb:([]:List Nat).Nodup:=by decide):Cd.ok P (G mx) (.Ff 103 [.ptr u0 0,.agg (Dd n),.zi depth] (.ret (.zb yR)) [(u0,.cells (JF c))] [] [(u0,.cells [.zi Ae])] []) :=
 H5 (M:=[.cells (JF c)]) (M2:=[.cells [.zi Ae]]) (T:=[]) (T2:=[]) (k:=1) (j:=0) Hd.Aa _ _ _ _ hS rfl rfl rfl rfl rfl Qa Qb rfl rfl (.cons (.cells (.pl (RD.pl c))) .nil) (.cons (.cells (.pl (A1 rfl rfl))) .nil) (.cons (.ptr (by decide)) (.cons (.pl (AD.Cw n)) (.cons (.pl rfl) .nil))) (.pl rfl) (λe he=>by simp only[List.mem_singleton] at he;subst he;exact(.arg (.here .ptr)))
def Ol{c:Ck}{n:Nd}{depth:Int}{yR:Bool}{Ae:Int}(h:DT  c n depth=some (yR,Ae)):Sound P (G mx) (.call 103 [.ptr 0 0,.agg (Dd n),.zi depth] ⟨[(0,.cells (JF c))],1,[],0⟩ (.ret (.zb yR)) ⟨[(0,.cells [.zi Ae])],1,[],0⟩):=by
 unfold DT at h;refine B0 Hd.mixed (Ay Tryz.func103 aot ?_);revert h;refine Aq ?_;rintro⟨EA,Bm⟩ Cj;dsimp only;let o1:List (PC P (G mx)):=[Af (Fy (Et Cj) 0)];refine Ag (λhv=>?_) λhv=>?_;subst hv;refine Aq λy2 D8=>?_;let o2:List (PC P (G mx)):=o1++[Ix (.r (.g (.r (.r (.r (.r (.r (.r (.r (.r (.z (.z (.r .nil))))))))))) .nil)) (BZ D8)];refine Ag (λhv=>?_) λhv=>?_;subst hv;refine Ag (λA0=>?_) λA0=>?_;refine Ag (λCg=>?_) λCg=>?_;refine Aq ?_;rintro⟨IW,EU⟩ Fj;dsimp only;rintro⟨⟩;exact Aw Hd.Aa _ _ [] [none] (Ac 300 (o2++[pb A0,pb Cg,pk,Af (NI (Ml Fj) 0)])) (by kernel_rfl) .body;rintro⟨⟩;exact Aw Hd.Aa _ _ [] [none] (Ac 300 (o2++[pb A0,pb Cg])) (by kernel_rfl) .body;refine Ag (λDC=>?_) λDC=>?_;refine Aq λx4 hx4=>?_;refine Aq ?_;rintro⟨SH,HV⟩ Kx;dsimp only;rintro⟨⟩;exact Aw Hd.Aa _ _ [] [none] (Ac 300 (o2++[pb A0,pb DC,IV (Ky .lost hx4),pk,Af (Bh (LO Kx) 0)])) (by kernel_rfl) .body;rintro⟨⟩;exact Aw Hd.Aa _ _ [] [none] (Ac 300 (o2++[pb A0,pb DC])) (by kernel_rfl) .body;subst hv;rintro⟨⟩;exact Aw Hd.Aa _ _ [] [none] (Ac 300 o2) (by kernel_rfl) .body;subst hv;rintro⟨⟩;exact Aw Hd.Aa _ _ [] [none] (Ac 300 o1) (by kernel_rfl) .body
def Ge(depth:Int)(i0:Nat)(e0:Nd)(Fe:Int):Option (Lp Int Int (Bool×Int)):=(DT (⟨Fe⟩:Ck) e0 depth).bind λ(EA,Bm)=>cond EA (some (.nx Bm)) (some (.rt (false,Bm)))
def EL(c:Ck)(list:(List Nd))(depth:Int):Option (Bool×Int):=(TA list.length (C8 (λi y x=>Ge  depth i y x) (λx=>x) (list.drop 0) 0 c.nodes)).bind (MN (λ(OP:Int)=>some (true,OP)) (λv=>some v))
def NH{c:Ck}{list:(List Nd)}{depth:Int}{yR:Bool}{Ae:Int}(hS:Sound P (G mx) (.call 55 [.ptr 0 0,.sl .lost list.length (BF list),.zi depth,.fn (.func 103) [.ptr 0 0] []] ⟨[(0,.cells (JF c))],1,[],0⟩ (.ret (.zb yR)) ⟨[(0,.cells [.zi Ae])],1,[],0⟩))(u0:Nat)(Qa:([u0]:List Nat).Nodup:=by decide)(Qb:([]:List Nat).Nodup:=by decide):Cd.ok P (G mx) (.Ff 55 [.ptr u0 0,.sl .lost list.length (BF list),.zi depth,.fn (.func 103) [.ptr u0 0] []] (.ret (.zb yR)) [(u0,.cells (JF c))] [] [(u0,.cells [.zi Ae])] []) :=
 H5 (M:=[.cells (JF c)]) (M2:=[.cells [.zi Ae]]) (T:=[]) (T2:=[]) (k:=1) (j:=0) Hd.Aa _ _ _ _ hS rfl rfl rfl rfl rfl Qa Qb rfl rfl (.cons (.cells (.pl (RD.pl c))) .nil) (.cons (.cells (.pl (A1 rfl rfl))) .nil) (.cons (.ptr (by decide)) (.cons (.pl (AD.IH list)) (.cons (.pl rfl) (.cons (.fn (.cons (.ptr (by decide)) .nil) (.pl rfl)) .nil)))) (.pl rfl) (λe he=>by simp only[List.mem_singleton] at he;subst he;exact(.arg (.here .ptr)))
def Mk{c:Ck}{list:(List Nd)}{depth:Int}{yR:Bool}{Ae:Int}(h:EL  c list depth=some (yR,Ae)):Sound P (G mx) (.call 55 [.ptr 0 0,.sl .lost list.length (BF list),.zi depth,.fn (.func 103) [.ptr 0 0] []] ⟨[(0,.cells (JF c))],1,[],0⟩ (.ret (.zb yR)) ⟨[(0,.cells [.zi Ae])],1,[],0⟩):=by
 unfold EL at h;refine B0 Hd.mixed (Ay Tryz.func55 b55 ?_);revert h;refine R9 (λQ v=>RS P (G mx) Tryz.f55 1 ⟨[(0,.cells (JF c))],1,[],0⟩ Q (.zb v.1) ⟨[(0,.cells [.zi v.2])],1,[],0⟩) (λi0 (Fe:Int) (j0:List Value)=>fr 23 [(2,.zi depth),(3,.fn (.func 103) [.ptr 0 0] []),(11,.sl .lost list.length (BF list)),(12,.zi ((list.length:Nat):Int)),(13,.zi ((i0:Nat):Int))] [8,14,20,21] j0) (λ(Fe:Int)=>⟨[(0,.cells [.zi Fe])],1,[],0⟩) (λ(Fe:Int) (jx:List Value)=>fr 23 [] [8,14,20,21] jx) (λ(Fe:Int)=>⟨[(0,.cells [.zi Fe])],1,[],0⟩) [bF] (He [] 0 (sb B55 52) [.code (sb B55 7)] (Ac 300 []) (by kernel_rfl)) ?_ ?_ ?_ (λv h=>by cases h;exact .outer .body);rintro i0 Fe j0 OT hq;exact DZ (Ac 300 [pb (j7 OT)]) (by kernel_rfl) (hq (js 4 j0 [(1,bF)]));rintro i0 e0 Fe j0 r QU P9 OZ k;show Ge  depth i0 e0 Fe=some r->_;unfold Ge;refine Aq ?_;rintro⟨EA,Bm⟩ Cj;dsimp only;let o1:List (PC P (G mx)):=[pb (ZN P9),IV (Ky .lost QU),Af (Qm (Ol Cj) 0)];refine Ag (λhv=>?_) λhv=>?_;subst hv;rintro⟨⟩;exact Gq Hd.Aa [fq (AD.IH list)] [none] (Ac 300 (o1++[pi OZ])) (by kernel_rfl) (k [(jv j0 0),bT,bT,bF]);subst hv;rintro⟨⟩;exact Aw Hd.Aa _ _ [] [none] (Ac 300 o1) (by kernel_rfl) (.Gi k);rintro OP pG;rintro⟨⟩;exact Aw Hd.Aa _ _ [] [none] (HH 300 []) (by kernel_rfl) .body
def B56:Code:=A3 Tryz.f56
def b56:Tryz.f56.body=some B56:=by kernel_rfl
def Ea(Bm:Int)(i0:Nat)(e0:Nd)(C0:Int)(C4:Int)(BT:Int):Option (Lp (Int×Int×Int) (Int×Int×Int) (Bool×Int)):=cond (DS e0.kind 6) (some (.rt (false,Bm))) (cond (DS 8 e0.kind) (some (.rt (false,Bm))) (cond (CV e0.kind 6) (some (.nx ((BC C0 1),C4,BT))) (cond (CV e0.kind 7) (some (.nx (C0,(BC C4 1),BT))) (cond (CV e0.kind 8) (some (.nx (C0,C4,(BC BT 1)))) (none)))))
def Em(c:Ck)(n:Nd)(depth:Int):Option (Bool×Int):=(CH c n depth).bind λ(EA,Bm)=>cond EA (cond (CV n.kind 2) ((Ei n.name).bind λy2=>cond y2 ((EY n.unit).bind λy3=>cond y3 (cond (CV ((n.kids.length:Nat):Int) 0) ((B5 n (⟨0,n.name,n.unit,0,0,0,0,(⟨0,[]⟩:Fn),[],0⟩:Nd)).bind λy4=>some (y4,Bm)) (some (false,Bm))) (some (false,Bm))) (some (false,Bm))) (cond (CV n.kind 3) ((Ei n.name).bind λy5=>cond y5 ((EY n.unit).bind λy6=>cond y6 (cond (Oe 1 n.n) (cond (Oe n.n 4) (cond (CV ((n.kids.length:Nat):Int) 0) ((B5 n (⟨0,n.name,n.unit,n.n,0,0,0,(⟨0,[]⟩:Fn),[],0⟩:Nd)).bind λy7=>some (y7,Bm)) (some (false,Bm))) (some (false,Bm))) (some (false,Bm))) (some (false,Bm))) (some (false,Bm))) (cond (CV n.kind 4) ((D2 n.n).bind λy8=>cond y8 ((Ei n.name).bind λy9=>cond y9 ((B5 n (⟨0,n.name,ByteArray.empty,n.n,0,0,0,(⟨0,[]⟩:Fn),[],0⟩:Nd)).bind λyS=>cond yS (cond (CV ((n.kids.length:Nat):Int) 0) (some (false,Bm)) ((adp n.kids 1 ((n.kids.length:Nat):Int)).bind λl11=>(TA l11.length (C8 (λi y x=>Ea  Bm i y x.1 x.2.1 x.2.2) (λx=>(x.1,x.2.1,x.2.2)) (l11.drop 0) 0 (0,0,0))).bind (MN (λ((ahz,uY,uZ):(Int×Int×Int))=>cond (CV uZ 1) (cond (DS 1 uY) (some (false,Bm)) ((n.kids[0]?).bind λx13=>(Fx (⟨Bm⟩:Ck) x13 (BC depth 1)).bind λ(gL,Ux)=>cond gL ((EL (⟨Ux⟩:Ck) l11 (BC depth 1)).bind λ(gM,Rt)=>some (gM,Rt)) (some (false,Ux)))) (some (false,Bm))) (λv=>some v)))) (some (false,Bm))) (some (false,Bm))) (some (false,Bm))) (some (false,Bm))))) (some (false,Bm))
def RX{c:Ck}{n:Nd}{depth:Int}{yR:Bool}{Ae:Int}(hS:Sound P (G mx) (.call 56 [.ptr 0 0,.agg (Dd n),.zi depth] ⟨[(0,.cells (JF c))],1,[],0⟩ (.ret (.zb yR)) ⟨[(0,.cells [.zi Ae])],1,[],0⟩))(u0:Nat)(Qa:([u0]:List Nat).Nodup:=by decide)(Qb:([]:List Nat).Nodup:=by decide):Cd.ok P (G mx) (.Ff 56 [.ptr u0 0,.agg (Dd n),.zi depth] (.ret (.zb yR)) [(u0,.cells (JF c))] [] [(u0,.cells [.zi Ae])] []) :=
 H5 (M:=[.cells (JF c)]) (M2:=[.cells [.zi Ae]]) (T:=[]) (T2:=[]) (k:=1) (j:=0) Hd.Aa _ _ _ _ hS rfl rfl rfl rfl rfl Qa Qb rfl rfl (.cons (.cells (.pl (RD.pl c))) .nil) (.cons (.cells (.pl (A1 rfl rfl))) .nil) (.cons (.ptr (by decide)) (.cons (.pl (AD.Cw n)) (.cons (.pl rfl) .nil))) (.pl rfl) (λe he=>by simp only[List.mem_singleton] at he;subst he;exact(.arg (.here .ptr)))
def PK{c:Ck}{n:Nd}{depth:Int}{yR:Bool}{Ae:Int}(h:Em  c n depth=some (yR,Ae)):Sound P (G mx) (.call 56 [.ptr 0 0,.agg (Dd n),.zi depth] ⟨[(0,.cells (JF c))],1,[],0⟩ (.ret (.zb yR)) ⟨[(0,.cells [.zi Ae])],1,[],0⟩):=by
 unfold Em at h;refine B0 Hd.mixed (Ay Tryz.func56 b56 ?_);revert h;refine Aq ?_;rintro⟨EA,Bm⟩ Cj;dsimp only;let o1:List (PC P (G mx)):=[Af (Fy (Et Cj) 0)];refine Ag (λhv=>?_) λhv=>?_;subst hv;refine Ag (λA0=>?_) λA0=>?_;refine Aq λy2 D8=>?_;let o2:List (PC P (G mx)):=o1++[pb A0,AM (Hs D8)];refine Ag (λhv=>?_) λhv=>?_;subst hv;refine Aq λy3 Fj=>?_;refine Ag (λhv=>?_) λhv=>?_;subst hv;refine Ag (λCg=>?_) λCg=>?_;refine Aq λy4 Kd=>?_;rintro⟨⟩;exact Aw Hd.Aa _ _ [] [none] (Ac 300 (o2++[AM (FU Fj),pb Cg,Ix (.r (.g (.r (.r (.r (.r (.r (.r (.r (.r (.z (.z (.r .nil))))))))))) .nil)) (BZ Kd)])) (by kernel_rfl) .body;rintro⟨⟩;exact Aw Hd.Aa _ _ [] [none] (Ac 300 (o2++[AM (FU Fj),pb Cg])) (by kernel_rfl) .body;subst hv;rintro⟨⟩;exact Aw Hd.Aa _ _ [] [none] (Ac 300 (o2++[AM (FU Fj)])) (by kernel_rfl) .body;subst hv;rintro⟨⟩;exact Aw Hd.Aa _ _ [] [none] (Ac 300 o2) (by kernel_rfl) .body;let o3:List (PC P (G mx)):=o1++[pb A0];refine Ag (λDC=>?_) λDC=>?_;refine Aq λy5 Kx=>?_;let o4:List (PC P (G mx)):=o3++[pb DC,AM (Hs Kx)];refine Ag (λhv=>?_) λhv=>?_;subst hv;refine Aq λy6 Mh=>?_;let o5:List (PC P (G mx)):=o4++[AM (FU Mh)];refine Ag (λhv=>?_) λhv=>?_;subst hv;refine Ag (λFh=>?_) λFh=>?_;refine Ag (λH7=>?_) λH7=>?_;refine Ag (λIP=>?_) λIP=>?_;refine Aq λy7 SV=>?_;rintro⟨⟩;exact Aw Hd.Aa _ _ [] [none] (Ac 300 (o5++[pb Fh,pb H7,pb IP,Ix (.r (.g (.r (.r (.r (.r (.r (.r (.r (.r (.z (.z (.r .nil))))))))))) .nil)) (BZ SV)])) (by kernel_rfl) .body;rintro⟨⟩;exact Aw Hd.Aa _ _ [] [none] (Ac 300 (o5++[pb Fh,pb H7,pb IP])) (by kernel_rfl) .body;rintro⟨⟩;exact Aw Hd.Aa _ _ [] [none] (Ac 300 (o5++[pb Fh,pb H7])) (by kernel_rfl) .body;rintro⟨⟩;exact Aw Hd.Aa _ _ [] [none] (Ac 300 (o5++[pb Fh])) (by kernel_rfl) .body;subst hv;rintro⟨⟩;exact Aw Hd.Aa _ _ [] [none] (Ac 300 o5) (by kernel_rfl) .body;subst hv;rintro⟨⟩;exact Aw Hd.Aa _ _ [] [none] (Ac 300 o4) (by kernel_rfl) .body;refine Ag (λJe=>?_) λJe=>?_;refine Aq λy8 OU=>?_;let o6:List (PC P (G mx)):=o3++[pb DC,pb Je,AM (G6 OU)];refine Ag (λhv=>?_) λhv=>?_;subst hv;refine Aq λy9 U1=>?_;let o7:List (PC P (G mx)):=o6++[AM (Hs U1)];refine Ag (λhv=>?_) λhv=>?_;subst hv;refine Aq λyS Qd=>?_;let o8:List (PC P (G mx)):=o7++[Ix (.r (.g (.r (.r (.r (.r (.r (.r (.r (.r (.z (.z (.r .nil))))))))))) .nil)) (BZ Qd)];refine Ag (λhv=>?_) λhv=>?_;subst hv;refine Ag (λKZ=>?_) λKZ=>?_;rintro⟨⟩;exact Aw Hd.Aa _ _ [] [none] (Ac 300 (o8++[pb KZ])) (by kernel_rfl) .body;refine Aq λl11 afs=>?_;refine R9 (λQ v=>RS P (G mx) Tryz.f56 1 ⟨[(0,.cells (JF c))],1,[],0⟩ Q (.zb v.1) ⟨[(0,.cells [.zi v.2])],1,[],0⟩) (λi0 ((C0,C4,BT):(Int×Int×Int)) (j0:List Value)=>fr 158 [(0,.ptr 0 0),(2,.zi depth),(4,.ptr 1 0),(7,.ptr 2 0),(110,.sl .lost l11.length (BF l11)),(111,.zi ((l11.length:Nat):Int)),(112,.zi ((i0:Nat):Int))] [6,13,14,17,18,21,22,25,26,27,31,32,33,40,41,42,43,46,47,50,51,52,55,56,57,60,61,62,66,67,68,77,78,79,80,83,84,85,88,89,90,91,98,99,100,101,105,106,113,118,119,122,123,133,134,137,138,146,147,156,157] j0) (λ((C0,C4,BT):(Int×Int×Int))=>⟨[(2,.cells [.zi 0,.zi 0,.zi 0,.zi 0,.zi 0,.zi 0,.zi C0,.zi C4,.zi BT]),(1,.cells (Dd n)),(0,.cells [.zi Bm])],3,[],0⟩) (λ((C0,C4,BT):(Int×Int×Int)) (jx:List Value)=>fr 158 [(0,.ptr 0 0),(2,.zi depth),(4,.ptr 1 0),(7,.ptr 2 0)] [6,13,14,17,18,21,22,25,26,27,31,32,33,40,41,42,43,46,47,50,51,52,55,56,57,60,61,62,66,67,68,77,78,79,80,83,84,85,88,89,90,91,98,99,100,101,105,106,113,118,119,122,123,133,134,137,138,146,147,156,157] jx) (λ((C0,C4,BT):(Int×Int×Int))=>⟨[(2,.cells [.zi 0,.zi 0,.zi 0,.zi 0,.zi 0,.zi 0,.zi C0,.zi C4,.zi BT]),(1,.cells (Dd n)),(0,.cells [.zi Bm])],3,[],0⟩) [bF,bT,bF,bF,bF,undef,undef,undef,undef,undef,undef,undef,undef,undef,undef,bF,bF,undef,undef,undef,undef,undef,undef,undef,undef,undef,undef,undef,undef,undef,undef,undef,undef,bT,bT,bT,bF,bF,bT,bF,bF,bF,bT,bF,bF,bF,bF,bF] (He [] 1 (sb B56 241588) [.code (sb B56 30199),.iZ 0,.code (sb B56 15)] (Ac 300 (o8++[pb KZ,Oz (uK afs)])) (by kernel_rfl)) ?_ ?_ ?_ (λv h=>by cases h;exact .outer .body);rintro i0 ⟨C0,C4,BT⟩ j0 OT hq;exact DZ (Ac 300 [pb (j7 OT)]) (by kernel_rfl) (hq (js 61 j0 [(48,bF)]));rintro i0 e0 ⟨C0,C4,BT⟩ j0 r QU P9 OZ k;show Ea  Bm i0 e0 C0 C4 BT=some r->_;unfold Ea;let o9:List (PC P (G mx)):=[pb (ZN P9),IV (Ky .lost QU)];refine Ag (λKq=>?_) λKq=>?_;rintro⟨⟩;exact Aw Hd.Aa _ _ [] [none] (Ac 300 (o9++[pb Kq])) (by kernel_rfl) (.Gi k);refine Ag (λGN=>?_) λGN=>?_;rintro⟨⟩;exact Aw Hd.Aa _ _ [] [none] (Ac 300 (o9++[pb Kq,pb GN])) (by kernel_rfl) (.Gi k);refine Ag (λIZ=>?_) λIZ=>?_;rintro⟨⟩;exact Gq Hd.Aa [fq (AD.IH l11)] [none,bp (AD.pl n),none] (Ac 300 (o9++[pb Kq,pb GN,IV (t:=116) (a:=.ptr 2 0) (b:=.zi e0.kind) (v:=.ptr 2 6) (by rw[FR IZ];kernel_rfl),pk,IV (t:=116) (a:=.ptr 2 0) (b:=.zi e0.kind) (v:=.ptr 2 6) (by rw[FR IZ];kernel_rfl),pi OZ])) (by kernel_rfl) (k (js 61 j0 [(48,bT),(49,bF),(50,bF),(51,bF),(52,bF)]));refine Ag (λJG=>?_) λJG=>?_;rintro⟨⟩;exact Gq Hd.Aa [fq (AD.IH l11)] [none,bp (AD.pl n),none] (Ac 300 (o9++[pb Kq,pb GN,IV (t:=116) (a:=.ptr 2 0) (b:=.zi e0.kind) (v:=.ptr 2 7) (by rw[FR JG];kernel_rfl),pk,IV (t:=116) (a:=.ptr 2 0) (b:=.zi e0.kind) (v:=.ptr 2 7) (by rw[FR JG];kernel_rfl),pi OZ])) (by kernel_rfl) (k (js 61 j0 [(48,bT),(49,bF),(50,bF),(51,bF),(52,bF)]));refine Ag (λJH=>?_) λJH=>?_;rintro⟨⟩;exact Gq Hd.Aa [fq (AD.IH l11)] [none,bp (AD.pl n),none] (Ac 300 (o9++[pb Kq,pb GN,IV (t:=116) (a:=.ptr 2 0) (b:=.zi e0.kind) (v:=.ptr 2 8) (by rw[FR JH];kernel_rfl),pk,IV (t:=116) (a:=.ptr 2 0) (b:=.zi e0.kind) (v:=.ptr 2 8) (by rw[FR JH];kernel_rfl),pi OZ])) (by kernel_rfl) (k (js 61 j0 [(48,bT),(49,bF),(50,bF),(51,bF),(52,bF)]));exact fC;rintro⟨ahz,uY,uZ⟩ amG;dsimp only;refine Ag (λKY=>?_) λKY=>?_;refine Ag (λLs=>?_) λLs=>?_;rintro⟨⟩;exact Aw Hd.Aa _ _ [] [none] (HH 300 [pk,pn KY,pk,pb Ls]) (by kernel_rfl) .body;refine Aq λx13 ajS=>?_;refine Aq ?_;rintro⟨gL,Ux⟩ YH;dsimp only;let tI:List (PC P (G mx)):=[pk,pn KY,pk,pb Ls,IV (Ky .lost ajS),pk,Af (RW (PJ YH) 0)];refine Ag (λhv=>?_) λhv=>?_;subst hv;refine Aq ?_;rintro⟨gM,Rt⟩ eM;dsimp only;rintro⟨⟩;exact Aw Hd.Aa _ _ [] [none] (HH 300 (tI++[Oz (uK afs),pk,Af (NH (Mk eM) 0)])) (by kernel_rfl) .body;subst hv;rintro⟨⟩;exact Aw Hd.Aa _ _ [] [none] (HH 300 tI) (by kernel_rfl) .body;rintro⟨⟩;exact Aw Hd.Aa _ _ [] [none] (HH 300 [pk,pn KY]) (by kernel_rfl) .body;subst hv;rintro⟨⟩;exact Aw Hd.Aa _ _ [] [none] (Ac 300 o8) (by kernel_rfl) .body;subst hv;rintro⟨⟩;exact Aw Hd.Aa _ _ [] [none] (Ac 300 o7) (by kernel_rfl) .body;subst hv;rintro⟨⟩;exact Aw Hd.Aa _ _ [] [none] (Ac 300 o6) (by kernel_rfl) .body;rintro⟨⟩;exact Aw Hd.Aa _ _ [] [none] (Ac 300 (o3++[pb DC,pb Je])) (by kernel_rfl) .body;subst hv;rintro⟨⟩;exact Aw Hd.Aa _ _ [] [none] (Ac 300 o1) (by kernel_rfl) .body
def GR(depth:Int)(i0:Nat)(e0:Nd)(Fe:Int):Option (Lp Int Int (Bool×Int)):=(Em (⟨Fe⟩:Ck) e0 depth).bind λ(EA,Bm)=>cond EA (some (.nx Bm)) (some (.rt (false,Bm)))
def Fo(c:Ck)(list:(List Nd))(depth:Int):Option (Bool×Int):=(TA list.length (C8 (λi y x=>GR  depth i y x) (λx=>x) (list.drop 0) 0 c.nodes)).bind (MN (λ(OP:Int)=>some (true,OP)) (λv=>some v))
def O1{c:Ck}{list:(List Nd)}{depth:Int}{yR:Bool}{Ae:Int}(hS:Sound P (G mx) (.call 55 [.ptr 0 0,.sl .lost list.length (BF list),.zi depth,.fn (.func 56) [.ptr 0 0] []] ⟨[(0,.cells (JF c))],1,[],0⟩ (.ret (.zb yR)) ⟨[(0,.cells [.zi Ae])],1,[],0⟩))(u0:Nat)(Qa:([u0]:List Nat).Nodup:=by decide)(Qb:([]:List Nat).Nodup:=by decide):Cd.ok P (G mx) (.Ff 55 [.ptr u0 0,.sl .lost list.length (BF list),.zi depth,.fn (.func 56) [.ptr u0 0] []] (.ret (.zb yR)) [(u0,.cells (JF c))] [] [(u0,.cells [.zi Ae])] []) :=
 H5 (M:=[.cells (JF c)]) (M2:=[.cells [.zi Ae]]) (T:=[]) (T2:=[]) (k:=1) (j:=0) Hd.Aa _ _ _ _ hS rfl rfl rfl rfl rfl Qa Qb rfl rfl (.cons (.cells (.pl (RD.pl c))) .nil) (.cons (.cells (.pl (A1 rfl rfl))) .nil) (.cons (.ptr (by decide)) (.cons (.pl (AD.IH list)) (.cons (.pl rfl) (.cons (.fn (.cons (.ptr (by decide)) .nil) (.pl rfl)) .nil)))) (.pl rfl) (λe he=>by simp only[List.mem_singleton] at he;subst he;exact(.arg (.here .ptr)))
def Nf{c:Ck}{list:(List Nd)}{depth:Int}{yR:Bool}{Ae:Int}(h:Fo  c list depth=some (yR,Ae)):Sound P (G mx) (.call 55 [.ptr 0 0,.sl .lost list.length (BF list),.zi depth,.fn (.func 56) [.ptr 0 0] []] ⟨[(0,.cells (JF c))],1,[],0⟩ (.ret (.zb yR)) ⟨[(0,.cells [.zi Ae])],1,[],0⟩):=by
 unfold Fo at h;refine B0 Hd.mixed (Ay Tryz.func55 b55 ?_);revert h;refine R9 (λQ v=>RS P (G mx) Tryz.f55 1 ⟨[(0,.cells (JF c))],1,[],0⟩ Q (.zb v.1) ⟨[(0,.cells [.zi v.2])],1,[],0⟩) (λi0 (Fe:Int) (j0:List Value)=>fr 23 [(2,.zi depth),(3,.fn (.func 56) [.ptr 0 0] []),(11,.sl .lost list.length (BF list)),(12,.zi ((list.length:Nat):Int)),(13,.zi ((i0:Nat):Int))] [8,14,20,21] j0) (λ(Fe:Int)=>⟨[(0,.cells [.zi Fe])],1,[],0⟩) (λ(Fe:Int) (jx:List Value)=>fr 23 [] [8,14,20,21] jx) (λ(Fe:Int)=>⟨[(0,.cells [.zi Fe])],1,[],0⟩) [bF] (He [] 0 (sb B55 52) [.code (sb B55 7)] (Ac 300 []) (by kernel_rfl)) ?_ ?_ ?_ (λv h=>by cases h;exact .outer .body);rintro i0 Fe j0 OT hq;exact DZ (Ac 300 [pb (j7 OT)]) (by kernel_rfl) (hq (js 4 j0 [(1,bF)]));rintro i0 e0 Fe j0 r QU P9 OZ k;show GR  depth i0 e0 Fe=some r->_;unfold GR;refine Aq ?_;rintro⟨EA,Bm⟩ Cj;dsimp only;let o1:List (PC P (G mx)):=[pb (ZN P9),IV (Ky .lost QU),Af (RX (PK Cj) 0)];refine Ag (λhv=>?_) λhv=>?_;subst hv;rintro⟨⟩;exact Gq Hd.Aa [fq (AD.IH list)] [none] (Ac 300 (o1++[pi OZ])) (by kernel_rfl) (k [(jv j0 0),bT,bT,bF]);subst hv;rintro⟨⟩;exact Aw Hd.Aa _ _ [] [none] (Ac 300 o1) (by kernel_rfl) (.Gi k);rintro OP pG;rintro⟨⟩;exact Aw Hd.Aa _ _ [] [none] (HH 300 []) (by kernel_rfl) .body
def B22:Code:=A3 Tryz.f22
def b22:Tryz.f22.body=some B22:=by kernel_rfl
def Es(n:Nd):Option Bool:=cond (CV n.kind 1) ((CH (⟨0⟩:Ck) n 1).bind λ(EA,Bm)=>cond EA ((B5 n (⟨0,ByteArray.empty,ByteArray.empty,0,0,0,0,(⟨0,[]⟩:Fn),[],0⟩:Nd)).bind λy2=>cond y2 ((Fo (⟨Bm⟩:Ck) n.kids 2).bind λ(IW,EU)=>some IW) (some false)) (some false)) ((G5 (⟨0⟩:Ck) n 1).bind λ(Wg,JM)=>some Wg)
def Jt{n:Nd}{yR:Bool}(h:Es  n=some yR):Pure P (G mx) 22 [.agg (Dd n)] (.zb yR):=by
 unfold Es at h;refine C9 Hd.mixed Hd.Aa (Ay Tryz.func22 b22 ?_) (A1 (AD.Cw n) rfl) rfl;revert h;refine Ag (λA0=>?_) λA0=>?_;refine Aq ?_;rintro⟨EA,Bm⟩ Cj;dsimp only;let o1:List (PC P (G mx)):=[pn A0,Af (Fy (Et Cj) 1)];refine Ag (λhv=>?_) λhv=>?_;subst hv;refine Aq λy2 D8=>?_;let o2:List (PC P (G mx)):=o1++[Ix (.r (.g (.r (.r (.r (.r (.r (.r (.r (.r (.z (.z (.r .nil))))))))))) .nil)) (BZ D8)];refine Ag (λhv=>?_) λhv=>?_;subst hv;refine Aq ?_;rintro⟨IW,EU⟩ Fj;dsimp only;rintro⟨⟩;exact rT (o2++[Af (O1 (Nf Fj) 1)]);subst hv;rintro⟨⟩;exact rT o2;subst hv;rintro⟨⟩;exact rT o1;refine Aq ?_;rintro⟨Wg,JM⟩ Kd;dsimp only;rintro⟨⟩;exact rT [pn A0,Af (Bh (LO Kd) 1)]
def B25:Code:=A3 Tryz.f25
def b25:Tryz.f25.body=some B25:=by kernel_rfl
def J1(Ic:Nd->Option Nd)(i0:Nat)(e0:Nd)(Bf:(List Nd)):Option (Lp (List Nd) (List Nd) Nd):=(Ic e0).bind λy2=>ML (Bf.length+1) (some (.nx (Bf++[y2])))
def My(Ic:Nd->Option Nd)(n:Nd):Option Nd:=(TA n.kids.length (C8 (λi y x=>J1 Ic  i y x) (λx=>x) (n.kids.drop 0) 0 [])).bind (MN (λ(ZC:(List Nd))=>some (⟨n.kind,n.name,n.unit,n.n,n.fr,n.to,n.known,n.CZ,ZC,0⟩:Nd)) (λv=>some v))
def V0(Ic:Nd->Option Nd)(YF:∀{n:Nd} {yR:Nd},Ic n=some yR->Pure P (G mx) 25 [.agg (Dd n)] (.agg (Dd yR))){n:Nd}{yR:Nd}(h:My Ic n=some yR):Pure P (G mx) 25 [.agg (Dd n)] (.agg (Dd yR)):=by
 unfold My at h;refine C9 Hd.mixed Hd.Aa (Ay Tryz.func25 b25 ?_) (A1 (AD.Cw n) rfl) (AD.Cw yR);revert h;refine R9 (λQ v=>KW P Tryz.f25 0 Q (.agg (Dd v))) (λi0 (Bf:(List Nd)) (j0:List Value)=>fr 27 [(1,.ptr 0 0),(2,.ptr 1 0),(3,.ptr 2 0),(4,.zi ((i0:Nat):Int))] [12] j0) (λ(Bf:(List Nd))=>⟨[(2,.cells [.zi n.kind,.zs n.name,.zs n.unit,.zi n.n,.zi n.fr,.zi n.to,.zi n.known,.zi n.CZ.den,.sl .lost n.CZ.ps.length (rows Jj n.CZ.ps),.sl (.row 0 11) Bf.length (BF Bf),.zi 0]),(1,.cells Tl),(0,.cells (Dd n))],3,[(0,Bf.length)],1⟩) (λ(Bf:(List Nd)) (jx:List Value)=>fr 27 [(2,.ptr 1 0),(3,.ptr 2 0)] [12] jx) (λ(Bf:(List Nd))=>⟨[(2,.cells [.zi n.kind,.zs n.name,.zs n.unit,.zi n.n,.zi n.fr,.zi n.to,.zi n.known,.zi n.CZ.den,.sl .lost n.CZ.ps.length (rows Jj n.CZ.ps),.sl (.row 0 11) Bf.length (BF Bf),.zi 0]),(1,.cells Tl),(0,.cells (Dd n))],3,[(0,Bf.length)],1⟩) [] (He [.b 2 9 11] 0 (sb B25 500) [.code (sb B25 63)] (Ac 300 []) (by kernel_rfl)) ?_ ?_ ?_ (λv h=>by cases h;exact .outer .body);rintro i0 Bf j0 OT hq;exact DZ (Ac 300 [pb (j7 OT)]) (by kernel_rfl) (hq [bF]);rintro i0 e0 Bf j0 r QU P9 OZ k;show J1 Ic  i0 e0 Bf=some r->_;unfold J1;refine Aq λy2 D8=>?_;refine LM λhl3=>?_;rintro⟨⟩;exact Ho (Ac 300 [pb (ZN P9),nG,IV (Ky .lost QU),AM (YF D8),Ra (P8 (.row 0 11) Bf [y2] (o:=.full) (n:=1) (ns:=(Dd y2)) (AD.wn [y2] (.r (.r (.r (.r (.r (.r (.r (.r (.r (.r (.r .nil)))))))))))) rfl rfl (by simp) (by simpa using hl3)),pi OZ]) (by kernel_rfl) (k [bT])
 rintro ZC akj;rintro⟨⟩;exact Az (v:=.agg [.zi n.kind,.zs n.name,.zs n.unit,.zi n.n,.zi n.fr,.zi n.to,.zi n.known,.zi n.CZ.den,.sl .lost n.CZ.ps.length (rows Jj n.CZ.ps),.sl (.row 0 11) ZC.length (BF ZC),.zi 0]) _ _ (HH 300 []) (by kernel_rfl) .body (.wn (.g (.r (.r (.r (.r (.r (.r (.r (.r (.r (.s rfl (.r .nil))))))))))) .nil) (AD.Cw (⟨n.kind,n.name,n.unit,n.n,n.fr,n.to,n.known,n.CZ,ZC,0⟩:Nd)))
def FN:Nat->Nd->Option Nd
 | 0,_=>none
 | qn+1,n=>My (FN qn) n
def W7:∀qn:Nat,∀{n:Nd} {yR:Nd},FN qn n=some yR->Pure P (G mx) 25 [.agg (Dd n)] (.agg (Dd yR)):=by
 intro qn
 induction qn with
 | zero=>exact(λh=>by simp only[FN] at h;cases h)
 | succ qn ih=>exact(λh=>V0 (FN qn) ih (by rw[FN] at h;exact h))
def Mz(n:Nd):Option Nd:=evt (λqn=>FN qn n)
def Zc{n:Nd}{yR:Nd}(h:Mz n=some yR):Pure P (G mx) 25 [.agg (Dd n)] (.agg (Dd yR)):=by
 obtain⟨qn,h⟩:=vX h;exact(W7 qn) h
def B32:Code:=A3 Tryz.f32
def b32:Tryz.f32.body=some B32:=by kernel_rfl
def Lb(op:ByteArray)(a:Nd)(b:Nd):Option Nd:=some (⟨16,op,ByteArray.empty,0,0,0,0,(⟨0,[]⟩:Fn),[a,b],0⟩:Nd)
def Od{op:ByteArray}{a:Nd}{b:Nd}{yR:Nd}(h:Lb  op a b=some yR):Pure P (G mx) 32 [.zs op,.agg (Dd a),.agg (Dd b)] (.agg (Dd yR)):=by
 unfold Lb at h;refine C9 Hd.mixed Hd.Aa (Ay Tryz.func32 b32 ?_) (A1 rfl (A1 (AD.Cw a) (A1 (AD.Cw b) rfl))) (AD.Cw yR);revert h;rintro⟨⟩;exact Az (v:=.agg [.zi 16,.zs op,.zs ByteArray.empty,.zi 0,.zi 0,.zi 0,.zi 0,.zi 0,.sl .full 0 [],.sl .full 2 (ndL a (ndL b [])),.zi 0]) _ _ (Ac 300 []) (by kernel_rfl) .body (.wn (.g (.r (.r (.r (.r (.r (.r (.r (.r (.z (.d (.r (.r (.r (.r (.r (.r (.r (.r (.r (.r (.r (.r (.r (.r (.r (.r (.r (.r (.r (.r (.r (.r .nil)))))))))))))))))))))) (AD.eq [a,b]).symm (.r .nil))))))))))) .nil) (AD.Cw (⟨16,op,ByteArray.empty,0,0,0,0,(⟨0,[]⟩:Fn),[a,b],0⟩:Nd)))
def B33:Code:=A3 Tryz.f33
def b33:Tryz.f33.body=some B33:=by kernel_rfl
def JT(name:ByteArray):Option Nd:=some (⟨12,name,ByteArray.empty,0,0,0,0,(⟨0,[]⟩:Fn),[],0⟩:Nd)
def LL{name:ByteArray}{yR:Nd}(h:JT  name=some yR):Pure P (G mx) 33 [.zs name] (.agg (Dd yR)):=by
 unfold JT at h;refine C9 Hd.mixed Hd.Aa (Ay Tryz.func33 b33 ?_) (A1 rfl rfl) (AD.Cw yR);revert h;rintro⟨⟩;exact Az (v:=.agg [.zi 12,.zs name,.zs ByteArray.empty,.zi 0,.zi 0,.zi 0,.zi 0,.zi 0,.sl .full 0 [],.sl .full 0 [],.zi 0]) _ _ (Ac 300 []) (by kernel_rfl) .body (.wn (.g (.r (.r (.r (.r (.r (.r (.r (.r (.z (.z (.r .nil))))))))))) .nil) (AD.Cw (⟨12,name,ByteArray.empty,0,0,0,0,(⟨0,[]⟩:Fn),[],0⟩:Nd)))
def B10:Code:=A3 Tryz.f10
def b10:Tryz.f10.body=some B10:=by kernel_rfl
def Ke  :Option Bool:=(Du E8).bind λ(EA,Bm)=>(JT aS).bind λy2=>(Lb Kh (⟨11,ByteArray.empty,EK,3,0,0,0,(⟨0,[]⟩:Fn),[],0⟩:Nd) y2).bind λy3=>(JT bS).bind λy4=>(JT cS).bind λy5=>(Lb GW y4 y5).bind λy6=>(Lb P1 y3 (⟨15,ByteArray.empty,ByteArray.empty,0,0,0,0,(⟨0,[]⟩:Fn),[y6],0⟩:Nd)).bind λy7=>(Du EI).bind λ(ZJ,L5)=>(Du M1).bind λ(gV,RM)=>(Du BI).bind λ(ZF,K6)=>(CE Ev).bind λ(qY,QJ)=>(CE Av).bind λ(ZH,Vw)=>cond (DS 0 (BC (BC (BC ((Bm.length:Nat):Int) ((L5.length:Nat):Int)) ((K6.length:Nat):Int)) ((Vw.length:Nat):Int))) (some false) ((Mz EA).bind λy13=>(Kn y13 y7).bind λy14=>cond y14 (cond (CV ((ZJ.kids.length:Nat):Int) 2) (cond (B2 ZJ.name.data.toList OA.data.toList) ((ZJ.kids[1]?).bind λx15=>cond (CV x15.n 3) (cond (CV ((RM.length:Nat):Int) 1) ((RM[0]?).bind λx16=>cond (Ri x16 (⟨71,6⟩:Dg)) (cond (CV ZF.CZ.den 20) (cond (CV ((ZF.CZ.ps.length:Nat):Int) 2) ((ZF.CZ.ps[1]?).bind λx17=>cond (PT x17 (⟨50000,100000,5⟩:Pc)) (cond (CV ((QJ.length:Nat):Int) 2) ((QJ[0]?).bind λx18=>cond (CV x18.AH 16) ((QJ[1]?).bind λx19=>cond (CV x19.err 72) (cond (CV x19.AH 22) (cond (CV ((ZH.kids.length:Nat):Int) 2) ((ZH.kids[1]?).bind λx20=>cond (CV x20.AH 21) (cond (CV ((x20.kids.length:Nat):Int) 2) ((x20.kids[0]?).bind λx21=>cond (CV x21.fr 8766) (cond (CV x21.to 36525) ((Es ZH).bind λy22=>cond y22 ((Es y7).bind λy23=>cond y23 ((JT dF).bind λy24=>(Es y24).bind λy25=>cond y25 (some false) (some true)) (some false)) (some false)) (some false)) (some false)) (some false)) (some false)) (some false)) (some false)) (some false)) (some false)) (some false)) (some false)) (some false)) (some false)) (some false)) (some false)) (some false)) (some false)) (some false)) (some false))
def WZ{yR:Bool}(h:Ke  =some yR):Pure P (G mx) 10 [] (.zb yR):=by
 unfold Ke at h;refine C9 Hd.mixed Hd.Aa (Ay Tryz.func10 b10 ?_) rfl rfl;revert h;refine Aq ?_;rintro⟨EA,Bm⟩ Cj;dsimp only;refine Aq λy2 D8=>?_;refine Aq λy3 Fj=>?_;refine Aq λy4 Kd=>?_;refine Aq λy5 Kx=>?_;refine Aq λy6 Mh=>?_;refine Aq λy7 SV=>?_;refine Aq ?_;rintro⟨ZJ,L5⟩ OU;dsimp only;refine Aq ?_;rintro⟨gV,RM⟩ U1;dsimp only;refine Aq ?_;rintro⟨ZF,K6⟩ Qd;dsimp only;refine Aq ?_;rintro⟨qY,QJ⟩ YG;dsimp only;refine Aq ?_;rintro⟨ZH,Vw⟩ eK;dsimp only;let o1:List (PC P (G mx)):=[AM (G4 Cj),AM (LL D8),Ix (.r (.g (.r (.r (.r (.r (.r (.r (.r (.r (.z (.z (.r .nil))))))))))) (.r .nil))) (Od Fj),AM (LL Kd),AM (LL Kx),AM (Od Mh),Ix (args:=[.zs P1,.agg (Dd y3),.agg [.zi 15,.zs ByteArray.empty,.zs ByteArray.empty,.zi 0,.zi 0,.zi 0,.zi 0,.zi 0,.sl .full 0 [],.sl .full 1 (Dd y6),.zi 0]]) (.r (.r (.g (.r (.r (.r (.r (.r (.r (.r (.r (.z (.d (.r (.r (.r (.r (.r (.r (.r (.r (.r (.r (.r .nil))))))))))) (AD.eq [y6]).symm (.r .nil))))))))))) .nil))) (Od SV),AM (G4 OU),AM (G4 U1),AM (G4 Qd),AM (Js YG),AM (Js eK),pk,pk,pk];refine Ag (λA0=>?_) λA0=>?_;rintro⟨⟩;exact rT (o1++[pb A0]);refine Aq λy13 VM=>?_;refine Aq λy14 YH=>?_;let o2:List (PC P (G mx)):=o1++[pb A0,AM (Zc VM),AM (TC YH)];refine Ag (λhv=>?_) λhv=>?_;subst hv;refine Ag (λCg=>?_) λCg=>?_;let o3:List (PC P (G mx)):=o2++[pn Cg];refine Ag (λDC=>?_) λDC=>?_;refine Aq λx15 ajT=>?_;let o4:List (PC P (G mx)):=o3++[pn DC,IV (Ky .lost ajT)];refine Ag (λFh=>?_) λFh=>?_;let o5:List (PC P (G mx)):=o4++[pn Fh];refine Ag (λH7=>?_) λH7=>?_;refine Aq λx16 aqe=>?_;let o6:List (PC P (G mx)):=o5++[pn H7,IV (wM .lost aqe)];refine Ag (λIP=>?_) λIP=>?_;let o7:List (PC P (G mx)):=o6++[KH (aip IP (.tmp 95) (.tmp 96))];refine Ag (λJe=>?_) λJe=>?_;let o8:List (PC P (G mx)):=o7++[pn Je];refine Ag (λKZ=>?_) λKZ=>?_;refine Aq λx17 ajU=>?_;let o9:List (PC P (G mx)):=o8++[pn KZ,IV (WX .lost ajU)];refine Ag (λKq=>?_) λKq=>?_;let tI:List (PC P (G mx)):=o9++[KH (bB Kq (.tmp 115) (.tmp 116))];refine Ag (λGN=>?_) λGN=>?_;refine Aq λx18 ajV=>?_;let o11:List (PC P (G mx)):=tI++[pn GN,IV (wM .lost ajV)];refine Ag (λIZ=>?_) λIZ=>?_;refine Aq λx19 aft=>?_;let o12:List (PC P (G mx)):=o11++[pn IZ,IV (wM .lost aft)];refine Ag (λJG=>?_) λJG=>?_;let pU:List (PC P (G mx)):=o12++[pn JG,IV (wM .lost aft)];refine Ag (λJH=>?_) λJH=>?_;refine Ag (λKY=>?_) λKY=>?_;refine Aq λx20 oY=>?_;let zL:List (PC P (G mx)):=pU++[pn JH,pb KY,IV (Ky .lost oY)];refine Ag (λLs=>?_) λLs=>?_;let zM:List (PC P (G mx)):=zL++[pb Ls,IV (Ky .lost oY)];refine Ag (λN8=>?_) λN8=>?_;refine Aq λx21 afu=>?_;let wZ:List (PC P (G mx)):=zM++[pb N8,IV (Ky .lost oY),IV (Ky .lost afu)];refine Ag (λUU=>?_) λUU=>?_;let o17:List (PC P (G mx)):=wZ++[pb UU,IV (Ky .lost oY),IV (Ky .lost afu)];refine Ag (λWU=>?_) λWU=>?_;refine Aq λy22 eO=>?_;let o18:List (PC P (G mx)):=o17++[pb WU,AM (Jt eO)];refine Ag (λhv=>?_) λhv=>?_;subst hv;refine Aq λy23 jV=>?_;refine Ag (λhv=>?_) λhv=>?_;subst hv;refine Aq λy24 eQ=>?_;refine Aq λy25 abQ=>?_;let o19:List (PC P (G mx)):=o18++[AM (Jt jV),AM (LL eQ),AM (Jt abQ)];refine Ag (λhv=>?_) λhv=>?_;subst hv;rintro⟨⟩;exact rT o19;subst hv;rintro⟨⟩;exact rT o19;subst hv;rintro⟨⟩;exact rT (o18++[AM (Jt jV)]);subst hv;rintro⟨⟩;exact rT o18;rintro⟨⟩;exact rT (o17++[pb WU]);rintro⟨⟩;exact rT (wZ++[pb UU]);rintro⟨⟩;exact rT (zM++[pb N8]);rintro⟨⟩;exact rT (zL++[pb Ls]);rintro⟨⟩;exact rT (pU++[pn JH,pb KY]);rintro⟨⟩;exact rT (pU++[pn JH]);rintro⟨⟩;exact rT (o12++[pn JG]);rintro⟨⟩;exact rT (o11++[pn IZ]);rintro⟨⟩;exact rT (tI++[pn GN]);rintro⟨⟩;exact rT (o9++[KH (bB Kq (.tmp 115) (.tmp 116))]);rintro⟨⟩;exact rT (o8++[pn KZ]);rintro⟨⟩;exact rT (o7++[pn Je]);rintro⟨⟩;exact rT (o6++[KH (aip IP (.tmp 95) (.tmp 96))]);rintro⟨⟩;exact rT (o5++[pn H7]);rintro⟨⟩;exact rT (o4++[pn Fh]);rintro⟨⟩;exact rT (o3++[pn DC]);rintro⟨⟩;exact rT (o2++[pn Cg]);subst hv;rintro⟨⟩;exact rT o2
def B73:Code:=A3 Tryz.f73
def b73:Tryz.f73.body=some B73:=by kernel_rfl
def KL(c:Int):Option Bool:=cond (CV c 32) (some true) (cond (CV c 9) (some true) (cond (CV c 10) (some true) (cond (CV c 13) (some true) (some false))))
def VZ{c:Int}{yR:Bool}(h:KL  c=some yR):Pure P (G mx) 73 [.sc (.int .u8 c)] (.zb yR):=by
 unfold KL at h;refine C9 Hd.mixed Hd.Aa (Ay Tryz.func73 b73 ?_) (A1 rfl rfl) rfl;revert h;refine Ag (λA0=>?_) λA0=>?_;rintro⟨⟩;exact rT [pb A0];refine Ag (λCg=>?_) λCg=>?_;rintro⟨⟩;exact rT [pb A0,pb Cg];refine Ag (λDC=>?_) λDC=>?_;rintro⟨⟩;exact rT [pb A0,pb Cg,pb DC];refine Ag (λFh=>?_) λFh=>?_;rintro⟨⟩;exact rT [pb A0,pb Cg,pb DC,pb Fh];rintro⟨⟩;exact rT [pb A0,pb Cg,pb DC,pb Fh]
def B74:Code:=A3 Tryz.f74
def b74:Tryz.f74.body=some B74:=by kernel_rfl
def Iy(s:ByteArray)(at_:Int)(t:ByteArray):Option Bool:=cond (Oe ((t.data.toList.length:Nat):Int) (L3 ((s.data.toList.length:Nat):Int) at_)) ((OJ s at_ (BC at_ ((t.data.toList.length:Nat):Int))).bind λs1=>cond (B2 s1.data.toList t.data.toList) (some true) (some false)) (some false)
def Jz{s:ByteArray}{at_:Int}{t:ByteArray}{yR:Bool}(h:Iy  s at_ t=some yR):Pure P (G mx) 74 [.zs s,.zi at_,.zs t] (.zb yR):=by
 unfold Iy at h;refine C9 Hd.mixed Hd.Aa (Ay Tryz.func74 b74 ?_) (A1 rfl (A1 rfl (A1 rfl rfl))) rfl;revert h;refine Ag (λA0=>?_) λA0=>?_;refine Aq λs1 R3=>?_;refine Ag (λCg=>?_) λCg=>?_;rintro⟨⟩;exact rT [pk,pb A0,pk,Oz (IA R3),pb Cg];rintro⟨⟩;exact rT [pk,pb A0,pk,Oz (IA R3),pb Cg];rintro⟨⟩;exact rT [pk,pb A0]
def B41:Code:=A3 Tryz.f41
def b41:Tryz.f41.body=some B41:=by kernel_rfl
def Ew(s:ByteArray)(L7:Int):Option (Lp Int Int Int):=cond (DS L7 ((s.data.toList.length:Nat):Int)) ((Hc s.data.toList L7).bind λc4=>cond (CV ((c4.toNat:Nat):Int) 10) (some (.ex L7)) (some (.nx (BC L7 1)))) (some (.ex L7))
def DA(s:ByteArray)(L7:Int):Option (Lp Int Int Int):=cond (DS L7 ((s.data.toList.length:Nat):Int)) ((Hc s.data.toList L7).bind λc1=>(KL ((c1.toNat:Nat):Int)).bind λy2=>cond y2 (some (.nx (BC L7 1))) ((Iy s L7 qC).bind λy3=>cond y3 ((Mg (λx=>Ew  s x) L7).bind (MN (λ(ahP:Int)=>some (.nx ahP)) (λv=>some (.rt v)))) (some (.rt L7)))) (some (.ex L7))
def Kj(s:ByteArray)(at_:Int):Option Int:=(Mg (λx=>DA  s x) at_).bind (MN (λ(ahQ:Int)=>some ahQ) (λv=>some v))
def RI{s:ByteArray}{at_:Int}{yR:Int}(h:Kj  s at_=some yR):Pure P (G mx) 41 [.zs s,.zi at_] (.zi yR):=by
 unfold Kj at h;refine C9 Hd.mixed Hd.Aa (Ay Tryz.func41 b41 ?_) (A1 rfl (A1 rfl rfl)) rfl;revert h;refine Pw (λQ v=>KW P Tryz.f41 0 Q (.zi v)) (λ(L7:Int) (j0:List Value)=>fr 33 [(0,.zs s),(1,.zi L7)] [8,12,17,18,23,24,28,29] j0) (λ(L7:Int)=>⟨[],0,[],0⟩) (λ(L7:Int) (jx:List Value)=>fr 33 [(1,.zi L7)] [8,12,17,18,23,24,28,29] jx) (λ(L7:Int)=>⟨[],0,[],0⟩) [] (He [] 0 (sb B41 24) [.code (sb B41 7)] (Ac 300 []) (by kernel_rfl)) ?_ ?_ (λv h=>by cases h;exact .outer .body);rintro L7 j0 r k;show DA  s L7=some r->_;unfold DA;refine Ag (λA0=>?_) λA0=>?_;refine Aq λc1 RV=>?_;refine Aq λy2 D8=>?_;let o1:List (PC P (G mx)):=[pb A0,Sz (Jr RV),AM (VZ D8)];refine Ag (λhv=>?_) λhv=>?_;subst hv;rintro⟨⟩;exact Ho (Ac 300 (o1++[pk])) (by kernel_rfl) (k (js 8 j0 [(0,bT),(1,bT)]));subst hv;refine Aq λy3 Fj=>?_;refine Ag (λhv=>?_) λhv=>?_;subst hv;refine Pw (λQ v=>KW P Tryz.f41 0 Q (.zi v)) (λ(L7:Int) (j1:List Value)=>fr 33 [(0,.zs s),(1,.zi L7)] [8,12,17,18,23,24,28,29] j1) (λ(L7:Int)=>⟨[],0,[],0⟩) (λ(L7:Int) (jx:List Value)=>fr 33 [(0,.zs s),(1,.zi L7)] [8,12,17,18,23,24,28,29] jx) (λ(L7:Int)=>⟨[],0,[],0⟩) (js 8 j0 [(0,bT),(1,bF),(2,bT),(3,bF)]) (He [] 2 (sb B41 1580) [.iZ 1] (Ac 300 (o1++[AM (Jz Fj)])) (by kernel_rfl)) ?_ ?_ (λv h=>by cases h;exact .outer (.Gi k));rintro L7 j1 r k;show Ew  s L7=some r->_;unfold Ew;refine Ag (λCg=>?_) λCg=>?_;refine Aq λc4 hc4=>?_;refine Ag (λDC=>?_) λDC=>?_;rintro⟨⟩;exact DZ (Ac 300 [pb Cg,Sz (Jr hc4),pn DC]) (by kernel_rfl) (k (js 8 j1 [(4,bT),(5,bT),(6,bF),(7,bF)]));rintro⟨⟩;exact Ho (Ac 300 [pb Cg,Sz (Jr hc4),pn DC,pk]) (by kernel_rfl) (k (js 8 j1 [(4,bT),(5,bT),(6,bT),(7,bT)]));rintro⟨⟩;exact DZ (Ac 300 [pb Cg]) (by kernel_rfl) (k (js 8 j1 [(4,bF),(5,bF),(6,undef),(7,bF)]));rintro ahP aqu;rintro⟨⟩;exact Ho (HH 300 []) (by kernel_rfl) (k aqu);subst hv;rintro⟨⟩;exact Az _ _ (Ac 300 (o1++[AM (Jz Fj)])) (by kernel_rfl) (.Gi k) .sc;rintro⟨⟩;exact DZ (Ac 300 [pb A0]) (by kernel_rfl) (k (js 8 j0 [(0,bF)]));rintro ahQ amI;rintro⟨⟩;exact Az _ _ (HH 300 []) (by kernel_rfl) .body .sc
def B75:Code:=A3 Tryz.f75
def b75:Tryz.f75.body=some B75:=by kernel_rfl
def GD(c:Int):Option Bool:=cond (Oe 48 c) (cond (Oe c 57) (some true) (some false)) (some false)
def EJ{c:Int}{yR:Bool}(h:GD  c=some yR):Pure P (G mx) 75 [.sc (.int .u8 c)] (.zb yR):=by
 unfold GD at h;refine C9 Hd.mixed Hd.Aa (Ay Tryz.func75 b75 ?_) (A1 rfl rfl) rfl;revert h;refine Ag (λA0=>?_) λA0=>?_;refine Ag (λCg=>?_) λCg=>?_;rintro⟨⟩;exact rT [pb A0,pb Cg];rintro⟨⟩;exact rT [pb A0,pb Cg];rintro⟨⟩;exact rT [pb A0]
def aiT:Code:=A3 Tryz.f127
def aoC:Tryz.f127.body=some aiT:=by kernel_rfl
def FM(s:ByteArray)(at_:Int)(i5:Int):Option (Lp Int Unit Bool):=cond (DS i5 10) ((Hc s.data.toList (BC at_ i5)).bind λc5=>cond (CV i5 4) (cond (CV ((c5.toNat:Nat):Int) 45) (some (.nx (BC i5 1))) (some (.rt false))) (cond (CV i5 7) (cond (CV ((c5.toNat:Nat):Int) 45) (some (.nx (BC i5 1))) (some (.rt false))) ((GD ((c5.toNat:Nat):Int)).bind λy6=>cond y6 (some (.nx (BC i5 1))) (some (.rt false))))) (some (.ex ()))
def LW(s:ByteArray)(at_:Int):Option Bool:=cond (DS (L3 ((s.data.toList.length:Nat):Int) at_) 10) (some false) ((Mg (λx=>FM  s at_ x) 0).bind (MN (λ(_:Unit)=>some true) (λv=>some v)))
def W4{s:ByteArray}{at_:Int}{yR:Bool}(h:LW  s at_=some yR):Pure P (G mx) 127 [.zs s,.zi at_] (.zb yR):=by
 unfold LW at h;refine C9 Hd.mixed Hd.Aa (Ay Tryz.func127 aoC ?_) (A1 rfl (A1 rfl rfl)) rfl;revert h;refine Ag (λA0=>?_) λA0=>?_;rintro⟨⟩;exact rT [pk,pb A0];refine Pw (λQ v=>KW P Tryz.f127 0 Q (.zb v)) (λ(i5:Int) (j0:List Value)=>fr 32 [(0,.zs s),(1,.zi at_),(5,.zi i5)] [4,11,13,22,23,25,26,28,30,31] j0) (λ(i5:Int)=>⟨[],0,[],0⟩) (λ(_:Unit) (jx:List Value)=>fr 32 [] [4,11,13,22,23,25,26,28,30,31] jx) (λ(_:Unit)=>⟨[],0,[],0⟩) [bF,bF] (He [] 0 (sb aiT 116) [.code (sb aiT 15)] (Ac 300 [pk,pb A0]) (by kernel_rfl)) ?_ ?_ (λv h=>by cases h;exact .outer .body);rintro i5 j0 r k;show FM  s at_ i5=some r->_;unfold FM;refine Ag (λJG=>?_) λJG=>?_;refine Aq λc5 hc5=>?_;let o1:List (PC P (G mx)):=[pb JG,pk,Sz (Jr hc5)];refine Ag (λJH=>?_) λJH=>?_;refine Ag (λKY=>?_) λKY=>?_;rintro⟨⟩;exact Ho (Ac 300 (o1++[pb JH,pn KY,pk])) (by kernel_rfl) (k (js 10 j0 [(2,bT),(3,bT),(4,bT),(5,undef),(6,bT),(7,bF)]));rintro⟨⟩;exact Az _ _ (Ac 300 (o1++[pb JH,pn KY])) (by kernel_rfl) (.Gi k) .sc;refine Ag (λLs=>?_) λLs=>?_;refine Ag (λN8=>?_) λN8=>?_;rintro⟨⟩;exact Ho (Ac 300 (o1++[pb JH,pb Ls,pn N8,pk])) (by kernel_rfl) (k (js 10 j0 [(2,bT),(3,bF),(4,bF),(5,bT),(6,bT),(7,bF)]));rintro⟨⟩;exact Az _ _ (Ac 300 (o1++[pb JH,pb Ls,pn N8])) (by kernel_rfl) (.Gi k) .sc;refine Aq λy6 Mh=>?_;refine Ag (λhv=>?_) λhv=>?_;subst hv;rintro⟨⟩;exact Ho (Ac 300 (o1++[pb JH,pb Ls,AM (EJ Mh),pk])) (by kernel_rfl) (k [(jv j0 0),(jv j0 1),bT,bF,bF,bF,bF,(jv j0 7),bT,bF]);subst hv;rintro⟨⟩;exact Az _ _ (Ac 300 (o1++[pb JH,pb Ls,AM (EJ Mh)])) (by kernel_rfl) (.Gi k) .sc;rintro⟨⟩;exact DZ (Ac 300 [pb JG]) (by kernel_rfl) (k (js 10 j0 [(2,bF)]));rintro⟨⟩ abU;rintro⟨⟩;exact Az _ _ (HH 300 []) (by kernel_rfl) .body .sc
def B77:Code:=A3 Tryz.f77
def b77:Tryz.f77.body=some B77:=by kernel_rfl
def I6(c:Int):Option Bool:=cond (Oe 97 c) (cond (Oe c 122) (some true) (some false)) (some false)
def Qv{c:Int}{yR:Bool}(h:I6  c=some yR):Pure P (G mx) 77 [.sc (.int .u8 c)] (.zb yR):=by
 unfold I6 at h;refine C9 Hd.mixed Hd.Aa (Ay Tryz.func77 b77 ?_) (A1 rfl rfl) rfl;revert h;refine Ag (λA0=>?_) λA0=>?_;refine Ag (λCg=>?_) λCg=>?_;rintro⟨⟩;exact rT [pb A0,pb Cg];rintro⟨⟩;exact rT [pb A0,pb Cg];rintro⟨⟩;exact rT [pb A0]
def B79:Code:=A3 Tryz.f79
def b79:Tryz.f79.body=some B79:=by kernel_rfl
def GF(c:Int):Option Bool:=cond (Oe 65 c) (cond (Oe c 90) (some true) (some false)) (some false)
def FH{c:Int}{yR:Bool}(h:GF  c=some yR):Pure P (G mx) 79 [.sc (.int .u8 c)] (.zb yR):=by
 unfold GF at h;refine C9 Hd.mixed Hd.Aa (Ay Tryz.func79 b79 ?_) (A1 rfl rfl) rfl;revert h;refine Ag (λA0=>?_) λA0=>?_;refine Ag (λCg=>?_) λCg=>?_;rintro⟨⟩;exact rT [pb A0,pb Cg];rintro⟨⟩;exact rT [pb A0,pb Cg];rintro⟨⟩;exact rT [pb A0]
def an6:Code:=A3 Tryz.f158
def aoQ:Tryz.f158.body=some an6:=by kernel_rfl
def Kk(c:Int):Option Bool:=(I6 c).bind λy1=>cond y1 (some true) ((GF c).bind λy2=>cond y2 (some true) ((GD c).bind λy3=>cond y3 (some true) (cond (CV c 95) (some true) (some false))))
def Nh{c:Int}{yR:Bool}(h:Kk  c=some yR):Pure P (G mx) 158 [.sc (.int .u8 c)] (.zb yR):=by
 unfold Kk at h;refine C9 Hd.mixed Hd.Aa (Ay Tryz.func158 aoQ ?_) (A1 rfl rfl) rfl;revert h;refine Aq λy1 Cj=>?_;let o1:List (PC P (G mx)):=[AM (Qv Cj)];refine Ag (λhv=>?_) λhv=>?_;subst hv;rintro⟨⟩;exact rT o1;subst hv;refine Aq λy2 D8=>?_;let o2:List (PC P (G mx)):=o1++[AM (FH D8)];refine Ag (λhv=>?_) λhv=>?_;subst hv;rintro⟨⟩;exact rT o2;subst hv;refine Aq λy3 Fj=>?_;refine Ag (λhv=>?_) λhv=>?_;subst hv;rintro⟨⟩;exact rT (o2++[AM (EJ Fj)]);subst hv;refine Ag (λA0=>?_) λA0=>?_;rintro⟨⟩;exact rT (o2++[AM (EJ Fj),pb A0]);rintro⟨⟩;exact rT (o2++[AM (EJ Fj),pb A0])
def anW:Code:=A3 Tryz.f128
def aoD:Tryz.f128.body=some anW:=by kernel_rfl
def Ed(s:ByteArray)(at_:Int):Option Bool:=cond (Oe ((s.data.toList.length:Nat):Int) at_) (some true) ((Hc s.data.toList at_).bind λc1=>(Kk ((c1.toNat:Nat):Int)).bind λy2=>cond y2 (some false) (cond (CV ((c1.toNat:Nat):Int) 46) (some false) (some true)))
def Gh{s:ByteArray}{at_:Int}{yR:Bool}(h:Ed  s at_=some yR):Pure P (G mx) 128 [.zs s,.zi at_] (.zb yR):=by
 unfold Ed at h;refine C9 Hd.mixed Hd.Aa (Ay Tryz.func128 aoD ?_) (A1 rfl (A1 rfl rfl)) rfl;revert h;refine Ag (λA0=>?_) λA0=>?_;rintro⟨⟩;exact rT [pb A0];refine Aq λc1 RV=>?_;refine Aq λy2 D8=>?_;let o1:List (PC P (G mx)):=[pb A0,Sz (Jr RV),AM (Nh D8)];refine Ag (λhv=>?_) λhv=>?_;subst hv;rintro⟨⟩;exact rT o1;subst hv;refine Ag (λCg=>?_) λCg=>?_;rintro⟨⟩;exact rT (o1++[Sz (Jr RV),pn Cg]);rintro⟨⟩;exact rT (o1++[Sz (Jr RV),pn Cg])
def aiU:Code:=A3 Tryz.f129
def aoE:Tryz.f129.body=some aiU:=by kernel_rfl
def Hk(s:ByteArray)(L7:Int):Option (Lp Int Int Int):=cond (DS L7 ((s.data.toList.length:Nat):Int)) ((Hc s.data.toList L7).bind λc1=>(GD ((c1.toNat:Nat):Int)).bind λy2=>cond y2 (some (.nx (BC L7 1))) (some (.ex L7))) (some (.ex L7))
def E9(s:ByteArray)(at_:Int):Option Int:=(Mg (λx=>Hk  s x) at_).bind (MN (λ(iL:Int)=>some iL) (λv=>some v))
def JA{s:ByteArray}{at_:Int}{yR:Int}(h:E9  s at_=some yR):Pure P (G mx) 129 [.zs s,.zi at_] (.zi yR):=by
 unfold E9 at h;refine C9 Hd.mixed Hd.Aa (Ay Tryz.func129 aoE ?_) (A1 rfl (A1 rfl rfl)) rfl;revert h;refine Pw (λQ v=>KW P Tryz.f129 0 Q (.zi v)) (λ(L7:Int) (j0:List Value)=>fr 18 [(0,.zs s),(1,.zi L7)] [8,9,13,14] j0) (λ(L7:Int)=>⟨[],0,[],0⟩) (λ(L7:Int) (jx:List Value)=>fr 18 [(1,.zi L7)] [8,9,13,14] jx) (λ(L7:Int)=>⟨[],0,[],0⟩) [] (He [] 0 (sb aiU 24) [.code (sb aiU 7)] (Ac 300 []) (by kernel_rfl)) ?_ ?_ (λv h=>by cases h;exact .outer .body);rintro L7 j0 r k;show Hk  s L7=some r->_;unfold Hk;refine Ag (λA0=>?_) λA0=>?_;refine Aq λc1 RV=>?_;refine Aq λy2 D8=>?_;refine Ag (λhv=>?_) λhv=>?_;subst hv;rintro⟨⟩;exact Ho (Ac 300 [pb A0,Sz (Jr RV),AM (EJ D8),pk]) (by kernel_rfl) (k [bT,bT,bT,bT]);subst hv;rintro⟨⟩;exact DZ (Ac 300 [pb A0,Sz (Jr RV),AM (EJ D8)]) (by kernel_rfl) (k [bT,bT,bF,bF]);rintro⟨⟩;exact DZ (Ac 300 [pb A0]) (by kernel_rfl) (k [bF,bF,undef,bF]);rintro iL amH;rintro⟨⟩;exact Az _ _ (HH 300 []) (by kernel_rfl) .body .sc
def B76:Code:=A3 Tryz.f76
def b76:Tryz.f76.body=some B76:=by kernel_rfl
def I2(s:ByteArray)(at_:Int):Option (Tk×Bool):=(LW s at_).bind λy1=>cond y1 ((OJ s at_ (BC at_ 10)).bind λs2=>(Ed s (BC at_ 10)).bind λy3=>some ((⟨5,s2,at_⟩:Tk),y3)) ((E9 s at_).bind λy4=>cond (CV y4 (BC at_ 1)) (cond (DS y4 ((s.data.toList.length:Nat):Int)) ((Hc s.data.toList y4).bind λc5=>cond (CV ((c5.toNat:Nat):Int) 46) ((E9 s (BC y4 1)).bind λy6=>(OJ s at_ y6).bind λs7=>cond (Oe (L3 y4 at_) 10) (cond (CV y6 (BC y4 3)) ((Ed s y6).bind λy8=>some ((⟨4,s7,at_⟩:Tk),y8)) (some ((⟨4,s7,at_⟩:Tk),false))) (some ((⟨4,s7,at_⟩:Tk),false))) ((OJ s at_ y4).bind λs9=>cond (Oe (L3 y4 at_) 12) ((Ed s y4).bind λyS=>some ((⟨3,s9,at_⟩:Tk),yS)) (some ((⟨3,s9,at_⟩:Tk),false)))) ((OJ s at_ y4).bind λs11=>cond (Oe (L3 y4 at_) 12) ((Ed s y4).bind λy12=>some ((⟨3,s11,at_⟩:Tk),y12)) (some ((⟨3,s11,at_⟩:Tk),false)))) ((Hc s.data.toList at_).bind λc13=>cond (CV ((c13.toNat:Nat):Int) 48) (cond (DS y4 ((s.data.toList.length:Nat):Int)) ((Hc s.data.toList y4).bind λc14=>cond (CV ((c14.toNat:Nat):Int) 46) ((E9 s (BC y4 1)).bind λy15=>(OJ s at_ y15).bind λs16=>some ((⟨4,s16,at_⟩:Tk),false)) ((OJ s at_ y4).bind λs17=>some ((⟨3,s17,at_⟩:Tk),false))) ((OJ s at_ y4).bind λs18=>some ((⟨3,s18,at_⟩:Tk),false))) (cond (DS y4 ((s.data.toList.length:Nat):Int)) ((Hc s.data.toList y4).bind λc19=>cond (CV ((c19.toNat:Nat):Int) 46) ((E9 s (BC y4 1)).bind λy20=>(OJ s at_ y20).bind λs21=>cond (Oe (L3 y4 at_) 10) (cond (CV y20 (BC y4 3)) ((Ed s y20).bind λy22=>some ((⟨4,s21,at_⟩:Tk),y22)) (some ((⟨4,s21,at_⟩:Tk),false))) (some ((⟨4,s21,at_⟩:Tk),false))) ((OJ s at_ y4).bind λs23=>cond (Oe (L3 y4 at_) 12) ((Ed s y4).bind λy24=>some ((⟨3,s23,at_⟩:Tk),y24)) (some ((⟨3,s23,at_⟩:Tk),false)))) ((OJ s at_ y4).bind λs25=>cond (Oe (L3 y4 at_) 12) ((Ed s y4).bind λy26=>some ((⟨3,s25,at_⟩:Tk),y26)) (some ((⟨3,s25,at_⟩:Tk),false))))))
def Ug{s:ByteArray}{at_:Int}{yR:(Tk×Bool)}(h:I2  s at_=some yR):Pure P (G mx) 76 [.zs s,.zi at_] (.C6 [.agg (GA yR.1),.zb yR.2]):=by
 unfold I2 at h;refine C9 Hd.mixed Hd.Aa (Ay Tryz.func76 b76 ?_) (A1 rfl (A1 rfl rfl)) (A1 (BK.Cw yR.1) (A1 rfl rfl));revert h;refine Aq λy1 Cj=>?_;let o1:List (PC P (G mx)):=[AM (W4 Cj)];refine Ag (λhv=>?_) λhv=>?_;subst hv;refine Aq λs2 aR=>?_;refine Aq λy3 Fj=>?_;rintro⟨⟩;exact Az _ _ (Ac 300 (o1++[pz 11,pk,Oz (IA aR),pk,AM (Gh Fj)])) (by kernel_rfl) .body (.plain (A1 (BK.Cw (⟨5,s2,at_⟩:Tk)) (A1 rfl rfl)));subst hv;refine Aq λy4 Kd=>?_;let o2:List (PC P (G mx)):=o1++[AM (JA Kd),pk];refine Ag (λA0=>?_) λA0=>?_;refine Ag (λCg=>?_) λCg=>?_;refine Aq λc5 hc5=>?_;let o3:List (PC P (G mx)):=o2++[pb A0,pb Cg,Sz (Jr hc5)];refine Ag (λDC=>?_) λDC=>?_;refine Aq λy6 Mh=>?_;refine Aq λs7 hs7=>?_;let o4:List (PC P (G mx)):=o3++[pb DC,pk,AM (JA Mh),pz 24,Oz (IA hs7),pk];refine Ag (λFh=>?_) λFh=>?_;refine Ag (λH7=>?_) λH7=>?_;refine Aq λy8 OU=>?_;rintro⟨⟩;exact Az _ _ (Ac 300 (o4++[pb Fh,pk,pb H7,AM (Gh OU)])) (by kernel_rfl) .body (.plain (A1 (BK.Cw (⟨4,s7,at_⟩:Tk)) (A1 rfl rfl)));rintro⟨⟩;exact Az _ _ (Ac 300 (o4++[pb Fh,pk,pb H7])) (by kernel_rfl) .body (.plain (A1 (BK.Cw (⟨4,s7,at_⟩:Tk)) (A1 rfl rfl)));rintro⟨⟩;exact Az _ _ (Ac 300 (o4++[pb Fh])) (by kernel_rfl) .body (.plain (A1 (BK.Cw (⟨4,s7,at_⟩:Tk)) (A1 rfl rfl)));refine Aq λs9 hs9=>?_;refine Ag (λIP=>?_) λIP=>?_;refine Aq λyS Qd=>?_;rintro⟨⟩;exact Az _ _ (Ac 300 (o3++[pb DC,pz 18,Oz (IA hs9),pk,pb IP,AM (Gh Qd)])) (by kernel_rfl) .body (.plain (A1 (BK.Cw (⟨3,s9,at_⟩:Tk)) (A1 rfl rfl)));rintro⟨⟩;exact Az _ _ (Ac 300 (o3++[pb DC,pz 18,Oz (IA hs9),pk,pb IP])) (by kernel_rfl) .body (.plain (A1 (BK.Cw (⟨3,s9,at_⟩:Tk)) (A1 rfl rfl)));refine Aq λs11 amu=>?_;refine Ag (λJe=>?_) λJe=>?_;refine Aq λy12 eK=>?_;rintro⟨⟩;exact Az _ _ (Ac 300 (o2++[pb A0,pb Cg,pz 18,Oz (IA amu),pk,pb Je,AM (Gh eK)])) (by kernel_rfl) .body (.plain (A1 (BK.Cw (⟨3,s11,at_⟩:Tk)) (A1 rfl rfl)));rintro⟨⟩;exact Az _ _ (Ac 300 (o2++[pb A0,pb Cg,pz 18,Oz (IA amu),pk,pb Je])) (by kernel_rfl) .body (.plain (A1 (BK.Cw (⟨3,s11,at_⟩:Tk)) (A1 rfl rfl)));refine Aq λc13 apA=>?_;let o5:List (PC P (G mx)):=o2++[pb A0,Sz (Jr apA)];refine Ag (λKZ=>?_) λKZ=>?_;refine Ag (λKq=>?_) λKq=>?_;refine Aq λc14 al7=>?_;refine Ag (λGN=>?_) λGN=>?_;refine Aq λy15 eM=>?_;refine Aq λs16 apZ=>?_;rintro⟨⟩;exact Az _ _ (Ac 300 (o5++[pn KZ,pb Kq,Sz (Jr al7),pb GN,pk,AM (JA eM),pz 24,Oz (IA apZ)])) (by kernel_rfl) .body (.plain (A1 (BK.Cw (⟨4,s16,at_⟩:Tk)) (A1 rfl rfl)));refine Aq λs17 ap0=>?_;rintro⟨⟩;exact Az _ _ (Ac 300 (o5++[pn KZ,pb Kq,Sz (Jr al7),pb GN,pz 18,Oz (IA ap0)])) (by kernel_rfl) .body (.plain (A1 (BK.Cw (⟨3,s17,at_⟩:Tk)) (A1 rfl rfl)));refine Aq λs18 ap1=>?_;rintro⟨⟩;exact Az _ _ (Ac 300 (o5++[pn KZ,pb Kq,pz 18,Oz (IA ap1)])) (by kernel_rfl) .body (.plain (A1 (BK.Cw (⟨3,s18,at_⟩:Tk)) (A1 rfl rfl)));refine Ag (λIZ=>?_) λIZ=>?_;refine Aq λc19 apC=>?_;let o6:List (PC P (G mx)):=o5++[pn KZ,pb IZ,Sz (Jr apC)];refine Ag (λJG=>?_) λJG=>?_;refine Aq λy20 oZ=>?_;refine Aq λs21 ap2=>?_;let o7:List (PC P (G mx)):=o6++[pb JG,pk,AM (JA oZ),pz 24,Oz (IA ap2),pk];refine Ag (λJH=>?_) λJH=>?_;refine Ag (λKY=>?_) λKY=>?_;refine Aq λy22 eO=>?_;rintro⟨⟩;exact Az _ _ (Ac 300 (o7++[pb JH,pk,pb KY,AM (Gh eO)])) (by kernel_rfl) .body (.plain (A1 (BK.Cw (⟨4,s21,at_⟩:Tk)) (A1 rfl rfl)));rintro⟨⟩;exact Az _ _ (Ac 300 (o7++[pb JH,pk,pb KY])) (by kernel_rfl) .body (.plain (A1 (BK.Cw (⟨4,s21,at_⟩:Tk)) (A1 rfl rfl)));rintro⟨⟩;exact Az _ _ (Ac 300 (o7++[pb JH])) (by kernel_rfl) .body (.plain (A1 (BK.Cw (⟨4,s21,at_⟩:Tk)) (A1 rfl rfl)));refine Aq λs23 amv=>?_;refine Ag (λLs=>?_) λLs=>?_;refine Aq λy24 eQ=>?_;rintro⟨⟩;exact Az _ _ (Ac 300 (o6++[pb JG,pz 18,Oz (IA amv),pk,pb Ls,AM (Gh eQ)])) (by kernel_rfl) .body (.plain (A1 (BK.Cw (⟨3,s23,at_⟩:Tk)) (A1 rfl rfl)));rintro⟨⟩;exact Az _ _ (Ac 300 (o6++[pb JG,pz 18,Oz (IA amv),pk,pb Ls])) (by kernel_rfl) .body (.plain (A1 (BK.Cw (⟨3,s23,at_⟩:Tk)) (A1 rfl rfl)));refine Aq λs25 amw=>?_;refine Ag (λN8=>?_) λN8=>?_;refine Aq λy26 ajW=>?_;rintro⟨⟩;exact Az _ _ (Ac 300 (o5++[pn KZ,pb IZ,pz 18,Oz (IA amw),pk,pb N8,AM (Gh ajW)])) (by kernel_rfl) .body (.plain (A1 (BK.Cw (⟨3,s25,at_⟩:Tk)) (A1 rfl rfl)));rintro⟨⟩;exact Az _ _ (Ac 300 (o5++[pn KZ,pb IZ,pz 18,Oz (IA amw),pk,pb N8])) (by kernel_rfl) .body (.plain (A1 (BK.Cw (⟨3,s25,at_⟩:Tk)) (A1 rfl rfl)))
def aiV:Code:=A3 Tryz.f130
def aoF:Tryz.f130.body=some aiV:=by kernel_rfl
def Km(s:ByteArray)(L7:Int):Option (Lp Int Int Int):=cond (DS L7 ((s.data.toList.length:Nat):Int)) ((Hc s.data.toList L7).bind λc1=>(Kk ((c1.toNat:Nat):Int)).bind λy2=>cond y2 (some (.nx (BC L7 1))) (some (.ex L7))) (some (.ex L7))
def Ll(s:ByteArray)(at_:Int):Option Int:=(Mg (λx=>Km  s x) at_).bind (MN (λ(iL:Int)=>some iL) (λv=>some v))
def SA{s:ByteArray}{at_:Int}{yR:Int}(h:Ll  s at_=some yR):Pure P (G mx) 130 [.zs s,.zi at_] (.zi yR):=by
 unfold Ll at h;refine C9 Hd.mixed Hd.Aa (Ay Tryz.func130 aoF ?_) (A1 rfl (A1 rfl rfl)) rfl;revert h;refine Pw (λQ v=>KW P Tryz.f130 0 Q (.zi v)) (λ(L7:Int) (j0:List Value)=>fr 18 [(0,.zs s),(1,.zi L7)] [8,9,13,14] j0) (λ(L7:Int)=>⟨[],0,[],0⟩) (λ(L7:Int) (jx:List Value)=>fr 18 [(1,.zi L7)] [8,9,13,14] jx) (λ(L7:Int)=>⟨[],0,[],0⟩) [] (He [] 0 (sb aiV 24) [.code (sb aiV 7)] (Ac 300 []) (by kernel_rfl)) ?_ ?_ (λv h=>by cases h;exact .outer .body);rintro L7 j0 r k;show Km  s L7=some r->_;unfold Km;refine Ag (λA0=>?_) λA0=>?_;refine Aq λc1 RV=>?_;refine Aq λy2 D8=>?_;refine Ag (λhv=>?_) λhv=>?_;subst hv;rintro⟨⟩;exact Ho (Ac 300 [pb A0,Sz (Jr RV),AM (Nh D8),pk]) (by kernel_rfl) (k [bT,bT,bT,bT]);subst hv;rintro⟨⟩;exact DZ (Ac 300 [pb A0,Sz (Jr RV),AM (Nh D8)]) (by kernel_rfl) (k [bT,bT,bF,bF]);rintro⟨⟩;exact DZ (Ac 300 [pb A0]) (by kernel_rfl) (k [bF,bF,undef,bF]);rintro iL amH;rintro⟨⟩;exact Az _ _ (HH 300 []) (by kernel_rfl) .body .sc
def B78:Code:=A3 Tryz.f78
def b78:Tryz.f78.body=some B78:=by kernel_rfl
def I7(s:ByteArray)(y1:Int)(i7:Int):Option (Lp Int Unit (Tk×Bool)):=cond (DS i7 y1) ((Hc s.data.toList i7).bind λc2=>(GF ((c2.toNat:Nat):Int)).bind λy3=>cond y3 (some (.rt ((⟨0,ByteArray.empty,0⟩:Tk),false))) (some (.nx (BC i7 1)))) (some (.ex ()))
def LX(s:ByteArray)(at_:Int):Option (Tk×Bool):=(Ll s at_).bind λy1=>(Mg (λx=>I7  s y1 x) at_).bind (MN (λ(_:Unit)=>(OJ s at_ y1).bind λs5=>cond (Oe (L3 y1 at_) 16) (some ((⟨1,s5,at_⟩:Tk),true)) (some ((⟨1,s5,at_⟩:Tk),false))) (λv=>some v))
def W5{s:ByteArray}{at_:Int}{yR:(Tk×Bool)}(h:LX  s at_=some yR):Pure P (G mx) 78 [.zs s,.zi at_] (.C6 [.agg (GA yR.1),.zb yR.2]):=by
 unfold LX at h;refine C9 Hd.mixed Hd.Aa (Ay Tryz.func78 b78 ?_) (A1 rfl (A1 rfl rfl)) (A1 (BK.Cw yR.1) (A1 rfl rfl));revert h;refine Aq λy1 Cj=>?_;refine Pw (λQ v=>KW P Tryz.f78 0 Q (.C6 [.agg (GA v.1),.zb v.2])) (λ(i7:Int) (j0:List Value)=>fr 32 [(0,.zs s),(1,.zi at_),(4,.ptr 0 0),(6,.zi y1),(7,.zi i7)] [5,14,20,31] j0) (λ(i7:Int)=>⟨[(0,.cells [.zi 0,.zs ByteArray.empty,.zi 0])],1,[],0⟩) (λ(_:Unit) (jx:List Value)=>fr 32 [(0,.zs s),(1,.zi at_),(4,.ptr 0 0),(6,.zi y1)] [5,14,20,31] jx) (λ(_:Unit)=>⟨[(0,.cells [.zi 0,.zs ByteArray.empty,.zi 0])],1,[],0⟩) [bF] (He [] 0 (sb B78 116) [.code (sb B78 15)] (Ac 300 [AM (SA Cj)]) (by kernel_rfl)) ?_ ?_ (λv h=>by cases h;exact .outer .body);rintro i7 j0 r k;show I7  s y1 i7=some r->_;unfold I7;refine Ag (λA0=>?_) λA0=>?_;refine Aq λc2 hH=>?_;refine Aq λy3 Fj=>?_;refine Ag (λhv=>?_) λhv=>?_;subst hv;rintro⟨⟩;exact Az _ _ (Ac 300 [pb A0,Sz (Jr hH),AM (FH Fj)]) (by kernel_rfl) (.Gi k) (.plain (A1 (BK.Cw (⟨0,ByteArray.empty,0⟩:Tk)) (A1 rfl rfl)));subst hv;rintro⟨⟩;exact Ho (Ac 300 [pb A0,Sz (Jr hH),AM (FH Fj),pk]) (by kernel_rfl) (k (js 4 j0 [(1,bT),(2,bF)]));rintro⟨⟩;exact DZ (Ac 300 [pb A0]) (by kernel_rfl) (k (js 4 j0 [(1,bF)]));rintro⟨⟩ akj;refine Aq λs5 hs5=>?_;refine Ag (λCg=>?_) λCg=>?_;rintro⟨⟩;exact Az _ _ (HH 300 [Oz (IA hs5),pk,pb Cg]) (by kernel_rfl) .body (.plain (A1 (BK.Cw (⟨1,s5,at_⟩:Tk)) (A1 rfl rfl)));rintro⟨⟩;exact Az _ _ (HH 300 [Oz (IA hs5),pk,pb Cg]) (by kernel_rfl) .body (.plain (A1 (BK.Cw (⟨1,s5,at_⟩:Tk)) (A1 rfl rfl)))
def B80:Code:=A3 Tryz.f80
def b80:Tryz.f80.body=some B80:=by kernel_rfl
def Kl(s:ByteArray)(y1:Int)(i7:Int):Option (Lp Int Unit (Tk×Bool)):=cond (DS i7 y1) ((Hc s.data.toList i7).bind λc2=>(GF ((c2.toNat:Nat):Int)).bind λy3=>cond y3 (some (.nx (BC i7 1))) (some (.rt ((⟨0,ByteArray.empty,0⟩:Tk),false)))) (some (.ex ()))
def M3(s:ByteArray)(at_:Int):Option (Tk×Bool):=(Ll s at_).bind λy1=>(Mg (λx=>Kl  s y1 x) at_).bind (MN (λ(_:Unit)=>(OJ s at_ y1).bind λs5=>cond (CV (L3 y1 at_) 3) (some ((⟨2,s5,at_⟩:Tk),true)) (some ((⟨2,s5,at_⟩:Tk),false))) (λv=>some v))
def Za{s:ByteArray}{at_:Int}{yR:(Tk×Bool)}(h:M3  s at_=some yR):Pure P (G mx) 80 [.zs s,.zi at_] (.C6 [.agg (GA yR.1),.zb yR.2]):=by
 unfold M3 at h;refine C9 Hd.mixed Hd.Aa (Ay Tryz.func80 b80 ?_) (A1 rfl (A1 rfl rfl)) (A1 (BK.Cw yR.1) (A1 rfl rfl));revert h;refine Aq λy1 Cj=>?_;refine Pw (λQ v=>KW P Tryz.f80 0 Q (.C6 [.agg (GA v.1),.zb v.2])) (λ(i7:Int) (j0:List Value)=>fr 33 [(0,.zs s),(1,.zi at_),(4,.ptr 0 0),(6,.zi y1),(7,.zi i7)] [5,14,20,21,32] j0) (λ(i7:Int)=>⟨[(0,.cells [.zi 0,.zs ByteArray.empty,.zi 0])],1,[],0⟩) (λ(_:Unit) (jx:List Value)=>fr 33 [(0,.zs s),(1,.zi at_),(4,.ptr 0 0),(6,.zi y1)] [5,14,20,21,32] jx) (λ(_:Unit)=>⟨[(0,.cells [.zi 0,.zs ByteArray.empty,.zi 0])],1,[],0⟩) [bF] (He [] 0 (sb B80 116) [.code (sb B80 15)] (Ac 300 [AM (SA Cj)]) (by kernel_rfl)) ?_ ?_ (λv h=>by cases h;exact .outer .body);rintro i7 j0 r k;show Kl  s y1 i7=some r->_;unfold Kl;refine Ag (λA0=>?_) λA0=>?_;refine Aq λc2 hH=>?_;refine Aq λy3 Fj=>?_;refine Ag (λhv=>?_) λhv=>?_;subst hv;rintro⟨⟩;exact Ho (Ac 300 [pb A0,Sz (Jr hH),AM (FH Fj),pk]) (by kernel_rfl) (k [(jv j0 0),bT,bT,bF,(jv j0 4)]);subst hv;rintro⟨⟩;exact Az _ _ (Ac 300 [pb A0,Sz (Jr hH),AM (FH Fj)]) (by kernel_rfl) (.Gi k) (.plain (A1 (BK.Cw (⟨0,ByteArray.empty,0⟩:Tk)) (A1 rfl rfl)));rintro⟨⟩;exact DZ (Ac 300 [pb A0]) (by kernel_rfl) (k (js 5 j0 [(1,bF)]));rintro⟨⟩ akj;refine Aq λs5 hs5=>?_;refine Ag (λCg=>?_) λCg=>?_;rintro⟨⟩;exact Az _ _ (HH 300 [Oz (IA hs5),pk,pb Cg]) (by kernel_rfl) .body (.plain (A1 (BK.Cw (⟨2,s5,at_⟩:Tk)) (A1 rfl rfl)));rintro⟨⟩;exact Az _ _ (HH 300 [Oz (IA hs5),pk,pb Cg]) (by kernel_rfl) .body (.plain (A1 (BK.Cw (⟨2,s5,at_⟩:Tk)) (A1 rfl rfl)))
def B81:Code:=A3 Tryz.f81
def b81:Tryz.f81.body=some B81:=by kernel_rfl
def KU  :Option (List ByteArray):=some [GW,Ib,Hg,FX,Kh,JK,OA,Lu,PQ,EH,Ub,VX,fJ,Z5,Vd,RY,Uc]
def Uf{yR:(List ByteArray)}(h:KU  =some yR):Pure P (G mx) 81 [] (.sl .lost yR.length (rows stC yR)):=by
 unfold KU at h;refine C9 Hd.mixed Hd.Aa (Ay Tryz.func81 b81 ?_) rfl (eX.IH yR);revert h;rintro⟨⟩;exact Az (v:=.sl .full 17 [.zs GW,.zs Ib,.zs Hg,.zs FX,.zs Kh,.zs JK,.zs OA,.zs Lu,.zs PQ,.zs EH,.zs Ub,.zs VX,.zs fJ,.zs Z5,.zs Vd,.zs RY,.zs Uc]) _ _ (Ac 300 []) (by kernel_rfl) .body (.wn (.d (.r (.r (.r (.r (.r (.r (.r (.r (.r (.r (.r (.r (.r (.r (.r (.r (.r .nil))))))))))))))))) (eX.eq [GW,Ib,Hg,FX,Kh,JK,OA,Lu,PQ,EH,Ub,VX,fJ,Z5,Vd,RY,Uc]).symm .nil) (eX.IH [GW,Ib,Hg,FX,Kh,JK,OA,Lu,PQ,EH,Ub,VX,fJ,Z5,Vd,RY,Uc]))
def B42:Code:=A3 Tryz.f42
def b42:Tryz.f42.body=some B42:=by kernel_rfl
def J0(s:ByteArray)(at_:Int)(i0:Nat)(e0:ByteArray) :Option (Lp Unit Unit (Tk×Bool)):=(Iy s at_ e0).bind λy9=>cond y9 (some (.rt ((⟨6,e0,at_⟩:Tk),true))) (some (.nx ()))
def KM(s:ByteArray)(at_:Int):Option (Tk×Bool):=(Hc s.data.toList at_).bind λc1=>(GD ((c1.toNat:Nat):Int)).bind λy2=>cond y2 ((I2 s at_).bind λ(IW,EU)=>some (IW,EU)) ((I6 ((c1.toNat:Nat):Int)).bind λy4=>cond y4 ((LX s at_).bind λ(SH,HV)=>some (SH,HV)) ((GF ((c1.toNat:Nat):Int)).bind λy6=>cond y6 ((M3 s at_).bind λ(rA,R0)=>some (rA,R0)) ((KU).bind λy8=>(TA y8.length (C8 (λi y x=>J0  s at_ i y ) (λx=>()) (y8.drop 0) 0 ())).bind (MN (λ(_:Unit)=>some ((⟨0,ByteArray.empty,0⟩:Tk),false)) (λv=>some v)))))
def Qw{s:ByteArray}{at_:Int}{yR:(Tk×Bool)}(h:KM  s at_=some yR):Pure P (G mx) 42 [.zs s,.zi at_] (.C6 [.agg (GA yR.1),.zb yR.2]):=by
 unfold KM at h;refine C9 Hd.mixed Hd.Aa (Ay Tryz.func42 b42 ?_) (A1 rfl (A1 rfl rfl)) (A1 (BK.Cw yR.1) (A1 rfl rfl));revert h;refine Aq λc1 RV=>?_;refine Aq λy2 D8=>?_;let o1:List (PC P (G mx)):=[Sz (Jr RV),AM (EJ D8)];refine Ag (λhv=>?_) λhv=>?_;subst hv;refine Aq ?_;rintro⟨IW,EU⟩ Fj;dsimp only;rintro⟨⟩;exact Az _ _ (Ac 300 (o1++[AM (Ug Fj)])) (by kernel_rfl) .body (.plain (A1 (BK.Cw IW) (A1 rfl rfl)));subst hv;refine Aq λy4 Kd=>?_;let o2:List (PC P (G mx)):=o1++[Sz (Jr RV),AM (Qv Kd)];refine Ag (λhv=>?_) λhv=>?_;subst hv;refine Aq ?_;rintro⟨SH,HV⟩ Kx;dsimp only;rintro⟨⟩;exact Az _ _ (Ac 300 (o2++[AM (W5 Kx)])) (by kernel_rfl) .body (.plain (A1 (BK.Cw SH) (A1 rfl rfl)));subst hv;refine Aq λy6 Mh=>?_;refine Ag (λhv=>?_) λhv=>?_;subst hv;refine Aq ?_;rintro⟨rA,R0⟩ SV;dsimp only;rintro⟨⟩;exact Az _ _ (Ac 300 (o2++[Sz (Jr RV),AM (FH Mh),AM (Za SV)])) (by kernel_rfl) .body (.plain (A1 (BK.Cw rA) (A1 rfl rfl)));subst hv;refine Aq λy8 OU=>?_;refine R9 (λQ v=>KW P Tryz.f42 0 Q (.C6 [.agg (GA v.1),.zb v.2])) (λi0 (_:Unit) (j0:List Value)=>fr 59 [(0,.zs s),(1,.zi at_),(4,.ptr 0 0),(6,.sl .lost y8.length (rows stC y8)),(7,.zi ((i0:Nat):Int))] [5,8,12,17,18,22,27,28,32,37,42,51] j0) (λ(_:Unit)=>⟨[(0,.cells [.zi 0,.zs ByteArray.empty,.zi 0])],1,[],0⟩) (λ(_:Unit) (jx:List Value)=>fr 59 [(4,.ptr 0 0)] [5,8,12,17,18,22,27,28,32,37,42,51] jx) (λ(_:Unit)=>⟨[(0,.cells [.zi 0,.zs ByteArray.empty,.zi 0])],1,[],0⟩) [bF,bF,bF,undef,bF,bF,undef,bF,bF] (He [] 1 (sb B42 244) [.code (sb B42 31)] (Ac 300 (o2++[Sz (Jr RV),AM (FH Mh),AM (Uf OU)])) (by kernel_rfl)) ?_ ?_ ?_ (λv h=>by cases h;exact .outer .body);rintro i0 ⟨⟩ j0 OT hq;exact DZ (Ac 300 [pb (j7 OT)]) (by kernel_rfl) (hq (js 12 j0 [(10,bF)]));rintro i0 e0 ⟨⟩ j0 r QU P9 OZ k;show J0  s at_ i0 e0 =some r->_;unfold J0;refine Aq λy9 U1=>?_;refine Ag (λhv=>?_) λhv=>?_;subst hv;rintro⟨⟩;exact Az _ _ (Ac 300 [pb (ZN P9),IV (akh .lost QU),AM (Jz U1),IV (akh .lost QU)]) (by kernel_rfl) (.Gi k) (.plain (A1 (BK.Cw (⟨6,e0,at_⟩:Tk)) (A1 rfl rfl)));subst hv;rintro⟨⟩;exact Ho (Ac 300 [pb (ZN P9),IV (akh .lost QU),AM (Jz U1),pi OZ]) (by kernel_rfl) (k (js 12 j0 [(10,bT),(11,bF)]));rintro⟨⟩ abT;rintro⟨⟩;exact Az _ _ (HH 300 []) (by kernel_rfl) .body (.plain (A1 (BK.Cw (⟨0,ByteArray.empty,0⟩:Tk)) (A1 rfl rfl)))
def B16:Code:=A3 Tryz.f16
def b16:Tryz.f16.body=some B16:=by kernel_rfl
def CT(s:ByteArray)(O0:(List Tk))(yX:Int):Option (Lp ((List Tk)×Int) (List Tk) ((List Tk)×Int×Int)):=cond (DS yX ((s.data.toList.length:Nat):Int)) (cond (CV ((O0.length:Nat):Int) 2000) (some (.rt ([],2,yX))) ((KM s yX).bind λ(IW,EU)=>cond EU (ML (O0.length+1) ((Kj s (BC yX ((IW.text.data.toList.length:Nat):Int))).bind λy5=>some (.nx ((O0++[IW]),y5)))) (some (.rt ([],61,yX))))) (some (.ex O0))
def Lk(s:ByteArray):Option ((List Tk)×Int×Int):=cond (DS 6000 ((s.data.toList.length:Nat):Int)) (some ([],2,0)) ((Kj s 0).bind λy1=>(Mg (λx=>CT  s x.1 x.2) ([],y1)).bind (MN (λ(Y2:(List Tk))=>some (Y2,0,0)) (λv=>some v)))
def Y9{s:ByteArray}{yR:((List Tk)×Int×Int)}(h:Lk  s=some yR):Pure P (G mx) 16 [.zs s] (.C6 [.sl .lost yR.1.length (rows GA yR.1),.zi yR.2.1,.zi yR.2.2]):=by
 unfold Lk at h;refine C9 Hd.mixed Hd.Aa (Ay Tryz.func16 b16 ?_) (A1 rfl rfl) (A1 (BK.IH yR.1) (A1 rfl (A1 rfl rfl)));revert h;refine Ag (λA0=>?_) λA0=>?_;rintro⟨⟩;exact Az (v:=.C6 [.sl .full 0 [],.zi 2,.zi 0]) _ _ (Ac 300 [pb A0]) (by kernel_rfl) .body (.wn (.u (.z (.r (.r .nil))) .nil) (A1 (BK.IH []) (A1 rfl (A1 rfl rfl))));refine Aq λy1 Cj=>?_;refine Pw (λQ v=>KW P Tryz.f16 0 Q (.C6 [.sl .lost v.1.length (rows GA v.1),.zi v.2.1,.zi v.2.2])) (λ((O0,yX):((List Tk)×Int)) (j0:List Value)=>fr 43 [(0,.zs s),(5,.sl (.row 0 3) O0.length (rows GA O0)),(6,.zi yX)] [8,11,17,20,27,28,29] j0) (λ((O0,yX):((List Tk)×Int))=>⟨[],0,[(0,O0.length)],1⟩) (λ(O0:(List Tk)) (jx:List Value)=>fr 43 [(5,.sl (.row 0 3) O0.length (rows GA O0))] [8,11,17,20,27,28,29] jx) (λ(O0:(List Tk))=>⟨[],0,[(0,O0.length)],1⟩) [undef,bF] (He [.t 5 3] 0 (sb B16 248) [.code (sb B16 63)] (Ac 300 [pb A0,AM (RI Cj)]) (by kernel_rfl)) ?_ ?_ (λv h=>by cases h;exact .outer .body);rintro⟨O0,yX⟩ j0 r k;show CT  s O0 yX=some r->_;unfold CT;refine Ag (λFh=>?_) λFh=>?_;refine Ag (λH7=>?_) λH7=>?_;rintro⟨⟩;exact Az (v:=.C6 [.sl .full 0 [],.zi 2,.zi yX]) _ _ (Ac 300 [pb Fh,pb H7]) (by kernel_rfl) (.Gi k) (.wn (.u (.z (.r (.r .nil))) .nil) (A1 (BK.IH []) (A1 rfl (A1 rfl rfl))));refine Aq ?_;rintro⟨IW,EU⟩ Fj;dsimp only;refine Ag (λhv=>?_) λhv=>?_;subst hv;refine LM λhl4=>?_;refine Aq λy5 Kx=>?_;rintro⟨⟩;exact Gq Hd.Aa [⟨.sl (.row 0 3) ((O0++[IW]).length) (rows GA (O0++[IW])),.sl (.row 0 3) ((O0++[IW]).length) (rows GA (O0++[IW])),(.under (Tj rfl (BN _ _ (BK.A1 (O0++[IW])))))⟩] [] (Ac 300 [pb Fh,pb H7,AM (Qw Fj),Ra (alX (.row 0 3) O0 [IW] (o:=.full) (n:=1) (ns:=(GA IW)) (BK.wn [IW] (.r (.r (.r .nil)))) rfl rfl (by simp) (by simpa using hl4)),pk,AM (RI Kx)]) (by kernel_rfl) (k [bT,(jv j0 1),bT,bF,bT,bT,bF])
 subst hv;rintro⟨⟩;exact Az (v:=.C6 [.sl .full 0 [],.zi 61,.zi yX]) _ _ (Ac 300 [pb Fh,pb H7,AM (Qw Fj)]) (by kernel_rfl) (.Gi k) (.wn (.u (.z (.r (.r .nil))) .nil) (A1 (BK.IH []) (A1 rfl (A1 rfl rfl))));rintro⟨⟩;exact DZ (Ac 300 [pb Fh]) (by kernel_rfl) (k (js 7 j0 [(2,bF)]));rintro Y2 amI;rintro⟨⟩;exact Az (v:=.C6 [.sl (.row 0 3) Y2.length (rows GA Y2),.zi 0,.zi 0]) _ _ (HH 300 []) (by kernel_rfl) .body (.wn (.u (.s rfl (.r (.r .nil))) .nil) (A1 (BK.IH Y2) (A1 rfl (A1 rfl rfl))))
def B3:Code:=A3 Tryz.f3
def b3:Tryz.f3.body=some B3:=by kernel_rfl
end Mo
end Go.Proofs.YtpbkhogolfegfaaGreatDoor
namespace Go.Proofs.YtpbkhogolfegfaaGreatDoor
open AI Go
namespace Mo
set_option maxRecDepth 100000
set_option maxHeartbeats 4000000
variable {mx:Int}
def B4:Code:=A3 Tryz.f4
def b4:Tryz.f4.body=some B4:=by kernel_rfl
def DQ(Ij:(List Tk))(z6:Int)(s8:ByteArray)(i0:Nat)(e0:Nd)(ME:Bool)(Cf:(List Nd)):Option (Lp (Bool×(List Nd)) (Bool×(List Nd)) Bool):=cond ME (cond (DS e0.AH ((s8.data.toList.length:Nat):Int)) (ML (Cf.length+1) (some (.nx (true,(Cf++[e0]))))) (some (.nx (true,Cf)))) ((Hc Ij (alr (BC 1 z6) (L3 ((Ij.length:Nat):Int) 1))).bind λhZ=>cond (CV e0.AH hZ.AH) ((some (DS (BC 1 z6) ((Ij.length:Nat):Int))).bind λq13=>cond (DS e0.AH ((s8.data.toList.length:Nat):Int)) (ML (Cf.length+1) (some (.nx (q13,(Cf++[e0]))))) (some (.nx (q13,Cf)))) (cond (DS e0.AH ((s8.data.toList.length:Nat):Int)) (ML (Cf.length+1) (some (.nx (false,(Cf++[e0]))))) (some (.nx (false,Cf)))))
def EX(source:ByteArray)(cut:Int):Option Bool:=(Ke).bind λy1=>(Lk source).bind λ(Ij,ES,y2c)=>(CE source).bind λ(IW,EU)=>cond (CV ES 0) ((some (DS 0 ((EU.length:Nat):Int))).bind λq4=>cond q4 (some y1) ((some (CV ((Ij.length:Nat):Int) 0)).bind λq5=>cond q5 (some y1) ((VI (w64 cut) ((Ij.length:Nat):Int)).bind λz6=>(Hc Ij (L3 (BC 1 z6) 1)).bind λx7=>(OJ source 0 (BC x7.AH ((x7.text.data.toList.length:Nat):Int))).bind λs8=>(CE s8).bind λ(gV,RM)=>(some (CV (BC 1 z6) ((Ij.length:Nat):Int))).bind λq10=>(TA IW.kids.length (C8 (λi y x=>DQ  Ij z6 s8 i y x.1 x.2) (λx=>(x.1,x.2)) (IW.kids.drop 0) 0 (q10,[]))).bind (MN (λ((ZD,SW):(Bool×(List Nd)))=>cond ZD (cond y1 ((some (CV ((RM.length:Nat):Int) 0)).bind λq17=>cond q17 ((Kn gV (⟨1,ByteArray.empty,ByteArray.empty,0,0,0,0,(⟨0,[]⟩:Fn),SW,0⟩:Nd)).bind λy18=>some y18) (some false)) (some false)) (cond y1 ((some (CV ((RM.length:Nat):Int) 1)).bind λq19=>cond q19 ((RM[0]?).bind λx20=>cond (Ri x20 (⟨72,((s8.data.toList.length:Nat):Int)⟩:Dg)) (some true) (some false)) (some false)) (some false))) (λv=>some v))))) (some y1)
def OY{source:ByteArray}{cut:Int}{yR:Bool}(h:EX  source cut=some yR):Pure P (G mx) 4 [.zs source,.sc (.int .u16 cut)] (.zb yR):=by
 unfold EX at h;refine C9 Hd.mixed Hd.Aa (Ay Tryz.func4 b4 ?_) (A1 rfl (A1 rfl rfl)) rfl;revert h;refine Aq λy1 Cj=>?_;refine Aq ?_;rintro⟨Ij,ES,y2c⟩ D8;dsimp only;refine Aq ?_;rintro⟨IW,EU⟩ Fj;dsimp only;let o1:List (PC P (G mx)):=[AM (WZ Cj),AM (Y9 D8),AM (Js Fj)];refine Ag (λA0=>?_) λA0=>?_;refine Aq λq4 hq4=>?_;let o2:List (PC P (G mx)):=o1++[pn A0,KH (anK hq4 (.tmp 35) (.const (.int .i64 0)))];refine Ag (λhv=>?_) λhv=>?_;subst hv;rintro⟨⟩;exact rT o2;subst hv;refine Aq λq5 hq5=>?_;refine Ag (λhv=>?_) λhv=>?_;subst hv;rintro⟨⟩;exact rT (o2++[KH (cU hq5 (.tmp 40) (.const (.int .i64 0)))]);subst hv;refine Aq λz6 hz6=>?_;refine Aq λx7 hx7=>?_;refine Aq λs8 hs8=>?_;refine Aq ?_;rintro⟨gV,RM⟩ U1;dsimp only;refine Aq λq10 apW=>?_;refine R9 (λQ v=>KW P Tryz.f4 0 Q (.zb v)) (λi0 ((ME,Cf):(Bool×(List Nd))) (j0:List Value)=>fr 142 [(5,.zb y1),(6,.sl .lost Ij.length (rows GA Ij)),(11,.zi (BC 1 z6)),(12,.zs s8),(13,.ptr 1 0),(14,.sl .lost RM.length (rows OX RM)),(15,.zb ME),(16,.sl (.row 0 11) Cf.length (BF Cf)),(76,.sl .lost IW.kids.length (BF IW.kids)),(77,.zi ((IW.kids.length:Nat):Int)),(78,.zi ((i0:Nat):Int))] [4,19,32,33,36,37,38,41,42,43,74,79,82,83,95,96,100,101,102,107,113,114,115,116,119,120,121,128,129,130,131,134,135,136,140,141] j0) (λ((ME,Cf):(Bool×(List Nd)))=>⟨[(1,.cells (Dd gV)),(0,.cells (Dd IW))],2,[(0,Cf.length)],1⟩) (λ((ME,Cf):(Bool×(List Nd))) (jx:List Value)=>fr 142 [(5,.zb y1),(12,.zs s8),(13,.ptr 1 0),(14,.sl .lost RM.length (rows OX RM)),(15,.zb ME),(16,.sl (.row 0 11) Cf.length (BF Cf))] [4,19,32,33,36,37,38,41,42,43,74,79,82,83,95,96,100,101,102,107,113,114,115,116,119,120,121,128,129,130,131,134,135,136,140,141] jx) (λ((ME,Cf):(Bool×(List Nd)))=>⟨[(1,.cells (Dd gV)),(0,.cells (Dd IW))],2,[(0,Cf.length)],1⟩) [bF,.bool y1,bF,bF,bF,bF,bF,bF,bF,undef,.bool q10] (He [.t 16 11] 0 (sb B4 32756) [.code (sb B4 4095)] (Ac 300 (o2++[KH (cU hq5 (.tmp 40) (.const (.int .i64 0))),KH (XA hz6 (.tmp 45) (.tmp 47)),pk,pk,IV (aU .lost hx7),pk,IV (aU .lost hx7),pk,Oz (ani hs8),AM (Js U1),KH (cU apW (.tmp 71) (.tmp 73))])) (by kernel_rfl)) ?_ ?_ ?_ (λv h=>by cases h;exact .outer .body);rintro i0 ⟨ME,Cf⟩ j0 OT hq;exact DZ (Ac 300 [pb (j7 OT)]) (by kernel_rfl) (hq (js 36 j0 [(11,bF)]));rintro i0 e0 ⟨ME,Cf⟩ j0 r QU P9 OZ k;show DQ  Ij z6 s8 i0 e0 ME Cf=some r->_;unfold DQ;let o3:List (PC P (G mx)):=[pb (ZN P9),IV (Ky .lost QU)];refine Ag (λhv=>?_) λhv=>?_;subst hv;refine Ag (λDC=>?_) λDC=>?_;refine LM λafs=>?_;rintro⟨⟩;exact Gq Hd.Aa [fq (BK.IH Ij),fq (B7.IH RM),⟨.sl (.row 0 11) ((Cf++[e0]).length) (BF (Cf++[e0])),.sl (.row 0 11) ((Cf++[e0]).length) (BF (Cf++[e0])),(.under (Tj rfl (BN _ _ (AD.A1 (Cf++[e0])))))⟩,fq (AD.IH IW.kids)] [bp (AD.pl gV),bp (AD.pl IW)] (Ac 300 (o3++[pb DC,Ra (P8 (.row 0 11) Cf [e0] (o:=.full) (n:=1) (ns:=(Dd e0)) (AD.wn [e0] (.r (.r (.r (.r (.r (.r (.r (.r (.r (.r (.r .nil)))))))))))) rfl rfl (by simp) (by simpa using afs)),pi OZ])) (by kernel_rfl) (k (js 36 j0 [(11,bT),(12,bT),(13,bT),(14,undef),(15,undef),(16,undef),(17,undef),(18,bT),(19,bT)]))
 rintro⟨⟩;exact Gq Hd.Aa [fq (BK.IH Ij),fq (B7.IH RM),⟨.sl (.row 0 11) Cf.length (BF Cf),.sl (.row 0 11) Cf.length (BF Cf),(.under (Tj rfl (BN _ _ (AD.A1 Cf))))⟩,fq (AD.IH IW.kids)] [bp (AD.pl gV),bp (AD.pl IW)] (Ac 300 (o3++[pb DC,pi OZ])) (by kernel_rfl) (k (js 36 j0 [(11,bT),(12,bT),(13,bT),(14,undef),(15,undef),(16,undef),(17,undef),(18,bT),(19,bF)]));subst hv;refine Aq λhZ eH=>?_;let o4:List (PC P (G mx)):=o3++[pk,IV (aU .lost eH)];refine Ag (λFh=>?_) λFh=>?_;refine Aq λq13 amq=>?_;refine Ag (λH7=>?_) λH7=>?_;refine LM λajK=>?_;rintro⟨⟩;exact Gq Hd.Aa [fq (BK.IH Ij),fq (B7.IH RM),⟨.sl (.row 0 11) ((Cf++[e0]).length) (BF (Cf++[e0])),.sl (.row 0 11) ((Cf++[e0]).length) (BF (Cf++[e0])),(.under (Tj rfl (BN _ _ (AD.A1 (Cf++[e0])))))⟩,fq (AD.IH IW.kids)] [bp (AD.pl gV),bp (AD.pl IW)] (Ac 300 (o4++[pb Fh,KH (aiP amq (.tmp 97) (.tmp 99)),pb H7,Ra (P8 (.row 0 11) Cf [e0] (o:=.full) (n:=1) (ns:=(Dd e0)) (AD.wn [e0] (.r (.r (.r (.r (.r (.r (.r (.r (.r (.r (.r .nil)))))))))))) rfl rfl (by simp) (by simpa using ajK)),pi OZ])) (by kernel_rfl) (k (js 36 j0 [(11,bT),(12,bF),(13,bF),(14,bT),(15,bT),(16,.bool q13),(17,.bool q13),(18,.bool q13),(19,bT)]))
 rintro⟨⟩;exact Gq Hd.Aa [fq (BK.IH Ij),fq (B7.IH RM),⟨.sl (.row 0 11) Cf.length (BF Cf),.sl (.row 0 11) Cf.length (BF Cf),(.under (Tj rfl (BN _ _ (AD.A1 Cf))))⟩,fq (AD.IH IW.kids)] [bp (AD.pl gV),bp (AD.pl IW)] (Ac 300 (o4++[pb Fh,KH (aiP amq (.tmp 97) (.tmp 99)),pb H7,pi OZ])) (by kernel_rfl) (k (js 36 j0 [(11,bT),(12,bF),(13,bF),(14,bT),(15,bT),(16,.bool q13),(17,.bool q13),(18,.bool q13),(19,bF)]));refine Ag (λIP=>?_) λIP=>?_;refine LM λapQ=>?_;rintro⟨⟩;exact Gq Hd.Aa [fq (BK.IH Ij),fq (B7.IH RM),⟨.sl (.row 0 11) ((Cf++[e0]).length) (BF (Cf++[e0])),.sl (.row 0 11) ((Cf++[e0]).length) (BF (Cf++[e0])),(.under (Tj rfl (BN _ _ (AD.A1 (Cf++[e0])))))⟩,fq (AD.IH IW.kids)] [bp (AD.pl gV),bp (AD.pl IW)] (Ac 300 (o4++[pb Fh,pb IP,Ra (P8 (.row 0 11) Cf [e0] (o:=.full) (n:=1) (ns:=(Dd e0)) (AD.wn [e0] (.r (.r (.r (.r (.r (.r (.r (.r (.r (.r (.r .nil)))))))))))) rfl rfl (by simp) (by simpa using apQ)),pi OZ])) (by kernel_rfl) (k (js 36 j0 [(11,bT),(12,bF),(13,bF),(14,bF),(15,bF),(16,undef),(17,bF),(18,bF),(19,bT)]))
 rintro⟨⟩;exact Gq Hd.Aa [fq (BK.IH Ij),fq (B7.IH RM),⟨.sl (.row 0 11) Cf.length (BF Cf),.sl (.row 0 11) Cf.length (BF Cf),(.under (Tj rfl (BN _ _ (AD.A1 Cf))))⟩,fq (AD.IH IW.kids)] [bp (AD.pl gV),bp (AD.pl IW)] (Ac 300 (o4++[pb Fh,pb IP,pi OZ])) (by kernel_rfl) (k (js 36 j0 [(11,bT),(12,bF),(13,bF),(14,bF),(15,bF),(16,undef),(17,bF),(18,bF),(19,bF)]));rintro⟨ZD,SW⟩ arf;dsimp only;refine Ag (λhv=>?_) λhv=>?_;subst hv;refine Ag (λhv=>?_) λhv=>?_;subst hv;refine Aq λq17 amr=>?_;refine Ag (λhv=>?_) λhv=>?_;subst hv;refine Aq λy18 abO=>?_;rintro⟨⟩;exact Az _ _ (HH 300 [KH (cU amr (.tmp 133) (.const (.int .i64 0))),Ix (args:=[.agg (Dd gV),.agg [.zi 1,.zs ByteArray.empty,.zs ByteArray.empty,.zi 0,.zi 0,.zi 0,.zi 0,.zi 0,.sl .full 0 [],.sl (.row 0 11) SW.length (BF SW),.zi 0]]) (.r (.g (.r (.r (.r (.r (.r (.r (.r (.r (.z (.s rfl (.r .nil))))))))))) .nil)) (TC abO)]) (by kernel_rfl) .body .sc;subst hv;rintro⟨⟩;exact Az _ _ (HH 300 [KH (cU amr (.tmp 133) (.const (.int .i64 0)))]) (by kernel_rfl) .body .sc;subst hv;rintro⟨⟩;exact Az _ _ (HH 300 []) (by kernel_rfl) .body .sc;subst hv;refine Ag (λhv=>?_) λhv=>?_;subst hv;refine Aq λq19 apX=>?_;let o5:List (PC P (G mx)):=[KH (cU apX (.tmp 118) (.const (.int .i64 1)))];refine Ag (λhv=>?_) λhv=>?_;subst hv;refine Aq λx20 oY=>?_;refine Ag (λJe=>?_) λJe=>?_;rintro⟨⟩;exact Az _ _ (HH 300 (o5++[IV (wM .lost oY),KH (ah2 Je (.tmp 124) (.tmp 127))])) (by kernel_rfl) .body .sc;rintro⟨⟩;exact Az _ _ (HH 300 (o5++[IV (wM .lost oY),KH (ah2 Je (.tmp 124) (.tmp 127))])) (by kernel_rfl) .body .sc;subst hv;rintro⟨⟩;exact Az _ _ (HH 300 o5) (by kernel_rfl) .body .sc;subst hv;rintro⟨⟩;exact Az _ _ (HH 300 []) (by kernel_rfl) .body .sc;rintro⟨⟩;exact rT (o1++[pn A0])
def B6:Code:=A3 Tryz.f6
def b6:Tryz.f6.body=some B6:=by kernel_rfl
def B9:Code:=A3 Tryz.f9
def b9:Tryz.f9.body=some B9:=by kernel_rfl
end Mo
end Go.Proofs.YtpbkhogolfegfaaGreatDoor

namespace Go.Proofs.YtpbkhogolfegfaaGreatDoor
open AI Go
namespace Mo
set_option maxRecDepth 100000
set_option maxHeartbeats 4000000
def vS(s:ByteArray):Prop:=s.data.toList.length=3/\∀c∈s.data.toList,65<=c.toNat/\c.toNat<=90
def Vp(s:ByteArray):Prop:=s=Hh\/s=EK\/s=JV\/vS s
def u4(c:UInt8):Prop:=(97<=c.toNat/\c.toNat<=122)\/(48<=c.toNat/\c.toNat<=57)\/c.toNat=95
def sQ:List ByteArray:=[Si,Of,Hl,aa1,tS,r4,toS,VN,cR,S4,QN,Hh,EK,JV,afS,Tu,Mr,PA,Ty,kI,P1,VT,iM,Zt,TP,dF,L2,dO,Q1,VA,K2,F0,Rl]
def RG(s:ByteArray):Prop:=(1<=s.data.toList.length/\s.data.toList.length<=16)/\(∃b,s.data.toList[0]?=some b/\97<=b.toNat/\b.toNat<=122)/\s∉sQ/\∀c∈s.data.toList,u4 c
def YY{n:Nd}(h:K3 n):n.CZ.ps.length<=9223372036854775807/\n.kids.length<=9223372036854775807/\∀k∈n.kids,K3 k:=by
 obtain⟨a,b,c⟩:=(Qj n).1 h;exact⟨a.1,b,c⟩
def aci{α:Type}{l:List α}{P:α->Prop}:(∀(i:Nat) (y:α),l[i]?=some y->P y)↔∀y∈l,P y :=
 ⟨λh y hy=>(List.getElem?_of_mem hy).elim λi hi=>h i y hi,λh i y hi=>h y (List.mem_of_getElem? hi)⟩
def abV(s:ByteArray):It s=some (mb (s∈sQ)):=by
 rw[It];simp only[Sh,NA,j9,akv];refine smb ?_;simp only[sQ,List.mem_cons,List.not_mem_nil,or_false]
def aiB(s:ByteArray):s=ByteArray.empty↔s.data.toList.length=0:=by
 constructor;intro h;rw[h];rfl;intro h;apply ByteArray.ext;apply Array.ext';rw[List.eq_nil_of_length_eq_zero h];rfl
def r5(s:ByteArray):Ei s=some (mb (RG s)):=by
 rw[Ei];simp only[Sh,PG,NA,abV,Option.bind_some];unfold RG;by_cases h0:s=ByteArray.empty;rw[CL h0];exact fV λh=>by have:=(aiB s).1 h0;omega
 have h1:s.data.toList.length≠0:=λh=>h0 ((aiB s).2 h);rw[CO h0];by_cases h2:16 < ((s.data.toList.length:Nat):Int);rw[CL h2];exact fV λh=>by omega
 rw[CO h2];obtain⟨b,hb⟩:∃b,s.data.toList[0]?=some b:=⟨_,List.getElem?_eq_getElem (by omega)⟩
 rw[hb,eW (v:=false) (P:=λ_ y=>u4 y) (by omega) (λi y _=>by
   simp only[IQ,PG,LG,NA,amJ,akl,afC,akk,afD,aqx,aqw];congr 2;unfold u4;apply propext;omega)]
 simp only[Option.bind_some,j9,aqA,aci];refine smb ?_;constructor;rintro⟨h3,h4,h5,h6⟩;exact⟨by omega,⟨b,rfl,by omega⟩,h5,h6⟩;rintro⟨h3,⟨c,hc,h4⟩,h5,h6⟩;cases hc;exact⟨by omega,by omega,h5,h6⟩
def akJ(s:ByteArray):Is s=some (mb (vS s)):=by
 rw[Is,LG,NA];unfold vS;by_cases h:((s.data.toList.length:Nat):Int)=3
 rw[CL h,eW (v:=false) (P:=λ_ y=>65<=y.toNat/\y.toNat<=90) (by omega) (λi y _=>by
   simp only[Ju,PG,NA,afC,afD];congr 2;apply propext;omega),j9,aci]
 exact smb ⟨λh2=>⟨by omega,h2⟩,λh2=>h2.2⟩;rw[CO h];exact fV λh2=>h (by omega)
def tQ(s:ByteArray):EY s=some (mb (Vp s)):=by
 rw[EY];simp only[Sh,NA,akJ,Option.bind_some,akv];rfl
def PR(n:Int):Prop:=1<=n/\n<=1000000
def Vb(n:Int):D2 n=some (mb (PR n)):=by
 rw[D2];simp only[TY,NA,j9,aku];rfl
def aaD(n:Int):Prop:=0<=n/\n<=36524
def dP(s:ByteArray):Prop:=s=L2\/s=dO\/s=Q1\/s=VA
def acz(s:ByteArray):Gs s=some (mb (dP s)):=by
 rw[Gs];simp only[Sh,NA,j9,akv];rfl
def acB(a b:List Pc)(ha:a.length<=9223372036854775807):LA a b=some (mb (a=b)):=by
 rw[LA,LG,NA];by_cases h:((a.length:Nat):Int)=((b.length:Nat):Int)
 rw[CL h,eW (v:=false) (P:=λi y=>b[i]?=some y) ha (λi y hy=>by
   have hi:i < a.length:=(List.getElem?_eq_some_iff.1 hy).1;have hb:b[i]?=some b[i]:=List.getElem?_eq_getElem (by omega);simp only[Mq];rw[hb];simp only[Option.bind_some]
   have hs:PT y b[i]=mb (b[i]?=some y):=by
     rw[Bool.eq_iff_iff,DF,hb];unfold PT;simp only[Bool.and_eq_true,QT,beq_iff_eq,Option.some.injEq];generalize b[i]=z;cases y;cases z;simp only[Pc.mk.injEq];grind
   rw[hs,NA,amJ,hb]),j9]
 refine smb ⟨λh2=>?_,λh2 i y hy=>by rw[<- h2];exact hy⟩;apply List.ext_getElem?;intro i;by_cases hi:i < a.length;rw[List.getElem?_eq_getElem hi,h2 i _ (List.getElem?_eq_getElem hi)];rw[List.getElem?_eq_none (by omega),List.getElem?_eq_none (by omega)];rw[CO h];exact fV λh2=>h (by rw[h2])
def GB(n f:Nd):Prop:=n.name=f.name/\n.unit=f.unit/\n.n=f.n/\n.fr=f.fr/\n.to=f.to/\n.known=f.known/\n.CZ.den=f.CZ.den/\n.CZ.ps=f.CZ.ps
def X7(n f:Nd)(h:n.CZ.ps.length<=9223372036854775807):B5 n f=some (mb (GB n f)):=by
 rw[B5,acB _ _ h];simp only[Sh,LG,NA,Option.bind_some,aku];rfl
end Mo
end Go.Proofs.YtpbkhogolfegfaaGreatDoor
namespace Go.Proofs.YtpbkhogolfegfaaGreatDoor
open AI Go
namespace Mo
set_option maxRecDepth 100000
set_option maxHeartbeats 4000000
def pN{p:Prop}(h:¬p):mb p=false:=by rw[WD];exact h
def Out(r:Option (Bool×Int))(P:Prop)(t:Int):Prop:=∃z,r=some (mb P,z)/\(P->z=t)
def Out.congr{r:Option (Bool×Int)}{P Q:Prop}{t u:Int}(h:Out r P t)(hp:P↔Q)(ht:Q->t=u):Out r Q u:=by
 obtain⟨z,h1,h2⟩:=h;exact⟨z,by rw[h1,MO hp],λq=>(h2 (hp.2 q)).trans (ht q)⟩
def Kz{Q:Prop}{z u:Int}(h:¬Q):Out (some (false,z)) Q u:=⟨z,by rw[pN h],λq=>absurd q h⟩
def U9{P Q:Prop}{u:Int}(h:P↔Q):Out (some (mb P,u)) Q u:=⟨u,by rw[MO h],λ_=>rfl⟩
def Il{p Q:Prop}{A:Option (Bool×Int)}{z u:Int}(h:p->Out A Q u)(hq:Q->p):Out (Lt p A (some (false,z))) Q u:=by
 by_cases hp:p;rw[CL hp];exact h hp;rw[CO hp];exact Kz λq=>hp (hq q)
def kK{p Q:Prop}{A:Option (Bool×Int)}{z u:Int}(h:¬p->Out A Q u)(hq:Q->¬p):Out (Lt p (some (false,z)) A) Q u:=by
 by_cases hp:p;rw[CL hp];exact Kz λq=>hq q hp;rw[CO hp];exact h hp
mutual
def Ez:Nd->Nat
 | ⟨_,_,_,_,_,_,_,_,kids,_⟩=>1+Hb kids
def Hb:List Nd->Nat
 | []=>0
 | k::ks=>Ez k+Hb ks
end
mutual
def OS:Nd->Nat
 | ⟨_,_,_,_,_,_,_,_,kids,_⟩=>1+Wp kids
def Wp:List Nd->Nat
 | []=>0
 | k::ks=>max (OS k) (Wp ks)
end
def Gk(n:Nd):Ez n=1+Hb n.kids:=by cases n;rw[Ez]
def N5(n:Nd):OS n=1+Wp n.kids:=by cases n;rw[OS]
def Yi{l:List Nd}{m:Nat}:Wp l<=m↔∀k∈l,OS k<=m:=by
 induction l with
 | nil=>simp[Wp]
 | cons a l ih=>simp only[Wp,Nat.max_le,ih,List.mem_cons,forall_eq_or_imp]
def NQ{l:List Nd}{k:Nd}(h:k∈l):Ez k<=Hb l:=by
 induction l with
 | nil=>cases h
 | cons a l ih =>
   rw[Hb];rcases List.mem_cons.1 h with rfl | h
   omega;have:=ih h;omega
def Rk(l:List Nd):l.length<=Hb l:=by
 induction l with
 | nil=>simp[Hb]
 | cons a l ih=>rw[Hb,Gk];simp only[List.length_cons];omega
def S2{n k:Nd}(h:k∈n.kids):Ez k < Ez n:=by rw[Gk n];have:=NQ h;omega
def R7{g:Ck->Nd->Int->Option (Bool×Int)}{p:Nd->Prop}{d:Int}:∀{l:List Nd} {i:Nat} {c:Int},0<=c->c<=2000->(∀k∈l,∀c:Int,0<=c->c<=2000->Out (g ⟨c⟩ k d) (p k/\c+Ez k<=2000/\d+OS k<=41) (c+Ez k)) ->
   Out ((C8 (δ:=Int) (ρ:=Bool×Int) (λ_ y (x:Int)=>(g ⟨x⟩ y d).bind λ(EA,Bm)=>cond EA (some (.nx Bm)) (some (.rt (false,Bm)))) (λx=>x) l i c).bind (MN (λ(w:Int)=>some (true,w)) (λv=>some v)))
     ((∀k∈l,p k/\d+OS k<=41)/\c+Hb l<=2000) (c+Hb l)
 | [],i,c,h0,h1,_=>⟨c,by rw[DF.2 ⟨λk hk=>(by cases hk),by simp only[Hb];omega⟩];rfl,λ_=>by simp[Hb]⟩
 | y::l,i,c,h0,h1,hg=>by
   obtain⟨z,hz,h2⟩:=hg y (by simp) c h0 h1;rw[C8,hz];simp only[Option.bind_some];by_cases hp:p y/\c+Ez y<=2000/\d+OS y<=41;rw[DF.2 hp,h2 hp];show Out ((C8 _ _ l (i+1) (c+Ez y)).bind _) _ _;refine(R7 (l:=l) (i:=i+1) (c:=c+Ez y) (by omega) hp.2.1 λk hk=>hg k (by simp[hk])).congr ?_ ?_;rw[Hb];simp only[List.mem_cons,forall_eq_or_imp,Int.natCast_add];constructor;rintro⟨a,b⟩;exact⟨⟨⟨hp.1,hp.2.2⟩,a⟩,by omega⟩;rintro⟨⟨_,a⟩,b⟩;exact⟨a,by omega⟩;intro _;rw[Hb];omega;rw[pN hp];refine⟨z,?_,λq=>?_⟩;show some (false,z)=_;rw[pN];rintro⟨a,b⟩;rw[Hb] at b;have:=a y (by simp);exact hp ⟨this.1,by omega,this.2⟩;exfalso;obtain⟨a,b⟩:=q;rw[Hb] at b;have:=a y (by simp);exact hp ⟨this.1,by omega,this.2⟩
def YX(n:Nd){c d:Int}(h0:0<=c)(h1:c<=2000):Out (CH ⟨c⟩ n d) (c+1<=2000/\d<=40) (c+1):=by
 rw[CH,C5 (by show _<=c+1/\c+1<=_;omega)];simp only[TY,NA,Option.bind_some];by_cases h:c+1<=2000;rw[CL h];exact U9 ⟨λa=>⟨h,a⟩,λa=>a.2⟩;rw[CO h];exact Kz λa=>h a.1
def fI(f:Fn)(i:Nat)(p:Pc):Prop:=p.fr<=999999999999/\(∀q,0 < i->f.ps[i - 1]?=some q->q.fr < p.fr)/\VI p.AH f.den=some 0/\p.AH<=BU 999999999999 f.den/\BU (-999999999999) f.den<=p.AH/\p.M5<=1000000/\-1000000<=p.M5
def lU(f:Fn):Prop:=PR f.den/\(1<=f.ps.length/\f.ps.length<=64)/\(∀x,f.ps[0]?=some x->x.fr=0)/\∀(i:Nat) p,f.ps[i]?=some p->fI f i p
def anl(f:Fn)(hl:f.ps.length<=9223372036854775807):GS f=some (mb (lU f)):=by
 rw[GS,Vb];simp only[Option.bind_some,NA,PG,LG];unfold lU;by_cases hr:PR f.den;rotate_left;rw[CO hr];exact fV λh=>hr h.1;rw[CL hr];by_cases h1:((f.ps.length:Nat):Int) < 1;rw[CL h1];exact fV λh=>by omega
 rw[CO h1];by_cases h2:64 < ((f.ps.length:Nat):Int);rw[CL h2];exact fV λh=>by omega
 rw[CO h2];have sM:f.ps[0]?=some f.ps[0]:=List.getElem?_eq_getElem (by omega);rw[sM];simp only[Option.bind_some];by_cases h3:f.ps[0].fr=0;rotate_left;rw[CO h3];exact fV λh=>h3 (h.2.2.1 _ rfl);rw[CL h3];have apH:f.den≠0:=by unfold PR at hr;omega
 rw[eW (v:=false) (P:=λi y=>fI f i y) hl (λi y hy=>by
   have hi:i < f.ps.length:=(List.getElem?_eq_some_iff.1 hy).1;simp only[Im,PG,NA,TY,LG];have hd:∃z,VI y.AH f.den=some z:=by unfold VI;rw[if_neg apH];exact⟨_,rfl⟩
   obtain⟨z,hz⟩:=hd;unfold fI;rw[hz];by_cases h0:(0:Int) < ((i:Nat):Int);rw[CL h0,Kp (by omega)];have hq:f.ps[i - 1]?=some f.ps[i - 1]:=List.getElem?_eq_getElem (by omega)
   have hg:Hc f.ps (((i:Nat):Int) - 1)=some f.ps[i - 1]:=by
     unfold Hc;rw[show(((i:Nat):Int) - 1).toNat=i - 1 by omega];simp only[hq]
     first | rfl | (rw[if_pos (by omega)])
   rw[hg,hq];simp only[Option.bind_some,afC,afD,akl,akk];congr 2;apply propext;simp only[Option.some.injEq,forall_eq'];grind;rw[CO h0];simp only[Option.bind_some,afC,afD,akl,akk];congr 2;apply propext;simp only[Option.some.injEq];have:¬0 < i:=by omega
   grind),j9]
 refine smb ⟨λh=>⟨hr,by omega,λx hx=>by cases hx;exact h3,h⟩,λh=>h.2.2.2⟩
def YZ(s:ByteArray):Prop:=s=EH\/s=kI\/s=P1\/s=GW\/s=Ib\/s=Kh\/s=Hg\/s=OA\/s=Lu\/s=PQ\/s=iM
def Q4(k:Nd):Prop:=k.kind=11/\k.unit=EK/\PR k.n
def Tc(n:Nd):Prop :=
 (n.kind=11/\Vp n.unit/\0<=n.n/\n.n<=999999999999/\(n.unit=Hh->n.n<=1)/\n.kids.length=0/\GB n ⟨0,ByteArray.empty,n.unit,n.n,0,0,0,⟨0,[]⟩,[],0⟩) \/
 (n.kind=12/\RG n.name/\n.kids.length=0/\GB n ⟨0,n.name,ByteArray.empty,0,0,0,0,⟨0,[]⟩,[],0⟩) \/
 (n.kind=13/\PR n.n/\n.kids.length=0/\GB n ⟨0,ByteArray.empty,ByteArray.empty,n.n,0,0,0,⟨0,[]⟩,[],0⟩) \/
 (n.kind=14/\dP n.name/\n.kids.length=0/\GB n ⟨0,n.name,ByteArray.empty,0,0,0,0,⟨0,[]⟩,[],0⟩) \/
 (n.kind=15/\n.kids.length=1/\GB n ⟨0,ByteArray.empty,ByteArray.empty,0,0,0,0,⟨0,[]⟩,[],0⟩) \/
 (n.kind=16/\GB n ⟨0,n.name,ByteArray.empty,0,0,0,0,⟨0,[]⟩,[],0⟩/\n.kids.length=2/\YZ n.name/\(n.name=EH->∀k,n.kids[1]?=some k->Q4 k)) \/
 (n.kind=17/\(n.name=K2\/n.name=F0)/\GB n ⟨0,n.name,ByteArray.empty,0,0,0,0,⟨0,[]⟩,[],0⟩/\2<=n.kids.length) \/
 (n.kind=18/\GB n ⟨0,ByteArray.empty,ByteArray.empty,0,0,0,0,n.CZ,[],0⟩/\lU n.CZ/\n.kids.length=1)
mutual
def Kc:Nd->Prop
 | ⟨kind,name,unit,n,fr,to,known,CZ,kids,AH⟩=>Tc ⟨kind,name,unit,n,fr,to,known,CZ,kids,AH⟩/\aaV kids
def aaV:List Nd->Prop
 | []=>True
 | k::ks=>Kc k/\aaV ks
end
def aaW{l:List Nd}:aaV l↔∀k∈l,Kc k:=by
 induction l with
 | nil=>simp[aaV]
 | cons k l ih=>simp[aaV,ih]
def Jq(n:Nd):Kc n↔Tc n/\∀k∈n.kids,Kc k:=by cases n;rw[Kc,aaW]
end Mo
end Go.Proofs.YtpbkhogolfegfaaGreatDoor
namespace Go.Proofs.YtpbkhogolfegfaaGreatDoor
open AI Go
namespace Mo
set_option maxRecDepth 100000
set_option maxHeartbeats 4000000
def MS{r:Option (Bool×Int)}{P Q:Prop}{t u:Int}{f:Bool×Int->Option (Bool×Int)}(h:Out r P t)(hT:P->Out (f (true,t)) Q u)(hF:∀z,¬P->Out (f (false,z)) Q u):Out (r.bind f) Q u:=by
 obtain⟨z,rfl,h2⟩:=h;by_cases hp:P;rw[DF.2 hp,h2 hp];exact hT hp;rw[pN hp];exact hF z hp
def akI{Q:Prop}{t u:Int}(hq:Q)(h:t=u):Out (some (true,t)) Q u:=⟨t,by rw[DF.2 hq],λ_=>h⟩
def MQ{r:Option (Bool×Int)}{P Q:Prop}{t u:Int}(h:Out r P t)(hp:P↔Q)(ht:P->t=u):Out (r.bind λ(a,b)=>some (a,b)) Q u :=
 MS h (λp=>akI (hp.1 p) (ht p)) λ_ p=>Kz λq=>p (hp.2 q)
section
variable {p q r:Prop} {z:Int}
def fH:Lt p (some (mb q,z)) (some (false,z))=some (mb (p/\q),z):=by
 by_cases h:p;rw[CL h];congr 2;exact MO ⟨λa=>⟨h,a⟩,λa=>a.2⟩;rw[CO h,pN];exact λa=>h a.1
def p5:Lt p (some (false,z)) (some (mb q,z))=some (mb (¬p/\q),z):=by
 by_cases h:p;rw[CL h,pN];exact λa=>a.1 h;rw[CO h];congr 2;exact MO ⟨λa=>⟨h,a⟩,λa=>a.2⟩
def xB:Lt p (some (mb q,z)) (some (mb r,z))=some (mb ((p->q)/\(¬p->r)),z):=by
 by_cases h:p;rw[CL h];congr 2;exact MO ⟨λa=>⟨λ_=>a,λb=>absurd h b⟩,λa=>a.1 h⟩;rw[CO h];congr 2;exact MO ⟨λa=>⟨λb=>absurd b h,λ_=>a⟩,λa=>a.2 h⟩
end
section
variable {n:Nd}
def apk(h:n.kind=11):Tc n↔Vp n.unit/\0<=n.n/\n.n<=999999999999/\(n.unit=Hh->n.n<=1)/\n.kids.length=0/\GB n ⟨0,ByteArray.empty,n.unit,n.n,0,0,0,⟨0,[]⟩,[],0⟩:=by unfold Tc;simp[h]
def apl(h:n.kind=12):Tc n↔RG n.name/\n.kids.length=0/\GB n ⟨0,n.name,ByteArray.empty,0,0,0,0,⟨0,[]⟩,[],0⟩:=by unfold Tc;simp[h]
def apm(h:n.kind=13):Tc n↔PR n.n/\n.kids.length=0/\GB n ⟨0,ByteArray.empty,ByteArray.empty,n.n,0,0,0,⟨0,[]⟩,[],0⟩:=by unfold Tc;simp[h]
def apn(h:n.kind=14):Tc n↔dP n.name/\n.kids.length=0/\GB n ⟨0,n.name,ByteArray.empty,0,0,0,0,⟨0,[]⟩,[],0⟩:=by unfold Tc;simp[h]
def apo(h:n.kind=15):Tc n↔n.kids.length=1/\GB n ⟨0,ByteArray.empty,ByteArray.empty,0,0,0,0,⟨0,[]⟩,[],0⟩:=by unfold Tc;simp[h]
def apq(h:n.kind=16):Tc n↔GB n ⟨0,n.name,ByteArray.empty,0,0,0,0,⟨0,[]⟩,[],0⟩/\n.kids.length=2/\YZ n.name/\(n.name=EH->∀k,n.kids[1]?=some k->Q4 k):=by unfold Tc;simp[h]
def apr(h:n.kind=17):Tc n↔(n.name=K2\/n.name=F0)/\GB n ⟨0,n.name,ByteArray.empty,0,0,0,0,⟨0,[]⟩,[],0⟩/\2<=n.kids.length:=by unfold Tc;simp[h]
def aps(h:n.kind=18):Tc n↔GB n ⟨0,ByteArray.empty,ByteArray.empty,0,0,0,0,n.CZ,[],0⟩/\lU n.CZ/\n.kids.length=1:=by unfold Tc;simp[h]
def ae4(h:Tc n):n.kind=11\/n.kind=12\/n.kind=13\/n.kind=14\/n.kind=15\/n.kind=16\/n.kind=17\/n.kind=18:=by
 unfold Tc at h;rcases h with h | h | h | h | h | h | h | h
 all_goals
   have:=h.1;simp[this]
end
def Pe(l:List Nd)(c d:Int):Prop:=(∀k∈l,Kc k/\d+OS k<=41)/\c+Hb l<=2000
def aik{l:List Nd}{c d:Int}(h:l.length=0)(hc:c<=2000):Pe l c d/\c=c+Hb l:=by
 obtain rfl:=List.eq_nil_of_length_eq_zero h;exact⟨⟨(λk hk=>(by cases hk)),(by simp only[Hb];omega)⟩,(by simp[Hb])⟩
def ail{x:Nd}{c d:Int}:Pe [x] c d↔Kc x/\c+Ez x<=2000/\d+OS x<=41:=by
 unfold Pe;simp only[List.mem_singleton,forall_eq,Hb,Nat.add_zero];exact⟨λa=>⟨a.1.1,a.2,a.1.2⟩,λa=>⟨⟨a.1,a.2.2⟩,a.2.1⟩⟩
def jZ{x y:Nd}{c d:Int}:Pe [x,y] c d↔(Kc x/\c+Ez x<=2000/\d+OS x<=41)/\Kc y/\c+Ez x+Ez y<=2000/\d+OS y<=41:=by
 unfold Pe;simp only[List.mem_cons,List.not_mem_nil,or_false,forall_eq_or_imp,forall_eq,Hb,Nat.add_zero,Int.natCast_add];constructor;rintro⟨⟨⟨a,b⟩,c',d'⟩,e⟩;exact⟨⟨a,by omega,b⟩,c',by omega,d'⟩;rintro⟨⟨a,b,c'⟩,d',e,f⟩;exact⟨⟨⟨a,c'⟩,d',f⟩,by omega⟩
abbrev ExS(g:Ck->Nd->Int->Option (Bool×Int))(n:Nd):Prop:=∀(c d:Int),0<=c->c<=2000->0<=d->d<=41->Out (g ⟨c⟩ n d) (Kc n/\c+Ez n<=2000/\d+OS n<=41) (c+Ez n)
def bC{g:Ck->Nd->Int->Option (Bool×Int)}{b a:Ck->Nd->Int->Option (Bool×Int)}{l:Ck->List Nd->Int->Option (Bool×Int)}{n:Nd}(h:ExS g n){c d:Int}(h0:0<=c)(h1:c<=2000)(h2:0<=d)(h3:d<=41) :
   Out (Di g b a l ⟨c⟩ n d) ((Kc n/\Q4 n)/\c+Ez n<=2000/\d+OS n<=41) (c+Ez n):=by
 rw[Di];simp only[LG,Sh,NA,Vb,Option.bind_some];refine MS (h c d h0 h1 h2 h3) (λhp=>?_) λz hp=>Kz λq=>hp ⟨q.1.1,q.2⟩;show Out (Lt (n.kind=11) (Lt (n.unit=EK) (some (mb (PR n.n),c+Ez n)) (some (false,c+Ez n))) (some (false,c+Ez n))) _ _;rw[fH,fH];exact U9 ⟨λa=>⟨⟨hp.1,a⟩,hp.2⟩,λa=>a.1.2⟩
def vK{g n':Ck->Nd->Int->Option (Bool×Int)}{b:Ck->Nd->Int->Option (Bool×Int)}{l:Ck->List Nd->Int->Option (Bool×Int)}{n:Nd}(hg:∀k∈n.kids,ExS g k)
   (hn:∀k∈n.kids,∀c d:Int,0<=c->c<=2000->0<=d->d<=41->Out (n' ⟨c⟩ k d) ((Kc k/\Q4 k)/\c+Ez k<=2000/\d+OS k<=41) (c+Ez k)) {c d:Int} (h0:0<=c) (h1:c<=2000) (h2:0<=d) (h3:d<=40) :
   Out (Dh g b n' l ⟨c⟩ n d) ((n.kids.length=2/\YZ n.name/\(n.name=EH->∀k,n.kids[1]?=some k->Q4 k))/\Pe n.kids c (d+1)) (c+Hb n.kids):=by
 rw[Dh,C5 (by omega)];simp only[LG,Sh,NA];generalize hl:n.kids=ks at *;by_cases hlen:((ks.length:Nat):Int)=2;rotate_left;rw[CO hlen];exact Kz λq=>hlen (by have:=q.1.1;omega);rw[CL hlen]
 match ks,hlen with
 | [x,y],_ =>
 simp only[List.getElem?_cons_zero,List.getElem?_cons_succ,Option.bind_some];refine MS (hg x (by simp) c (d+1) h0 h1 (by omega) (by omega)) (λhx=>?_) λz hx=>Kz λq=>hx (jZ.1 q.2).1;dsimp only;rw[cond_true];have Qc:Hb [x,y]=Ez x+Ez y:=by simp[Hb]
 have hy:=λhc=>hg y (by simp) (c+Ez x) (d+1) (by omega) hc (by omega) (by omega);have hn':=λhc=>hn y (by simp) (c+Ez x) (d+1) (by omega) hc (by omega) (by omega);have hy:=hy hx.2.1;have hn':=hn' hx.2.1;by_cases hs:n.name=EH;rw[CL hs];refine MQ hn' ⟨λa=>⟨⟨rfl,.inl hs,λ_ k hk=>by cases hk;exact a.1.2⟩,jZ.2 ⟨hx,a.1.1,a.2⟩⟩,λa=>?_⟩ (λa=>by rw[Qc];omega);have:=(jZ.1 a.2).2;exact⟨⟨this.1,a.1.2.2 hs y rfl⟩,this.2⟩;rw[CO hs]
 have fin:∀jS:YZ n.name,Out ((g ⟨c+Ez x⟩ y (d+1)).bind λ(a,b)=>some (a,b)) ((([x,y]:List Nd).length=2/\YZ n.name/\(n.name=EH->∀k,some y=some k->Q4 k))/\Pe [x,y] c (d+1)) (c+Hb [x,y]):=λjS =>
   MQ hy ⟨λa=>⟨⟨rfl,jS,λe=>absurd e hs⟩,jZ.2 ⟨hx,a⟩⟩,λa=>(jZ.1 a.2).2⟩ (λa=>by rw[Qc];omega)
 have step:∀{s:ByteArray} {A:Option (Bool×Int)},(n.name=s->YZ n.name)->(n.name≠s->Out A ((([x,y]:List Nd).length=2/\YZ n.name/\(n.name=EH->∀k,some y=some k->Q4 k))/\Pe [x,y] c (d+1)) (c+Hb [x,y])) ->
     Out (Lt (n.name=s) ((g ⟨c+Ez x⟩ y (d+1)).bind λ(a,b)=>some (a,b)) A) ((([x,y]:List Nd).length=2/\YZ n.name/\(n.name=EH->∀k,some y=some k->Q4 k))/\Pe [x,y] c (d+1)) (c+Hb [x,y]):=by
   intro s A h4 h5;by_cases h:n.name=s;rw[CL h];exact fin (h4 h);rw[CO h];exact h5 h
 refine step (λe=>by unfold YZ;simp[e]) λe1=>?_;refine step (λe=>by unfold YZ;simp[e]) λe2=>?_;refine step (λe=>by unfold YZ;simp[e]) λe3=>?_;refine step (λe=>by unfold YZ;simp[e]) λe4=>?_;refine step (λe=>by unfold YZ;simp[e]) λe5=>?_;refine step (λe=>by unfold YZ;simp[e]) λe6=>?_;refine step (λe=>by unfold YZ;simp[e]) λe7=>?_;refine step (λe=>by unfold YZ;simp[e]) λe8=>?_;refine step (λe=>by unfold YZ;simp[e]) λe9=>?_;refine step (λe=>by unfold YZ;simp[e]) λe10=>?_
 exact Kz λq=>by
   have:=q.1.2.1;unfold YZ at this;simp[hs,e1,e2,e3,e4,e5,e6,e7,e8,e9,e10] at this
def ab3{A L B T:Prop}{x:Int}:(A/\¬x < 0/\¬999999999999 < x/\(T->¬1 < x/\L/\B)/\(¬T->L/\B))↔A/\0<=x/\x<=999999999999/\(T->x<=1)/\L/\B:=by
 constructor;rintro⟨a,b,c,d,e⟩;by_cases t:T;exact⟨a,by omega,by omega,λ_=>by have:=(d t).1;omega,(d t).2⟩;exact⟨a,by omega,by omega,λh=>absurd h t,e t⟩;rintro⟨a,b,c,d,e⟩;exact⟨a,by omega,by omega,λt=>⟨by have:=d t;omega,e⟩,λ_=>e⟩
def aaT:∀(q:Nat) (n:Nd),K3 n->3*Ez n<=q->ExS (AK q) n:=by
 intro q
 induction q using Nat.strongRecOn with
 | _ q ih =>
 intro n Xq hq c d h0 h1 h2 h3;have Qc:=Gk n;obtain⟨q,rfl⟩:∃k,q=k+1:=⟨q - 1,by omega⟩;obtain⟨sJ,hkl,hJ⟩:=YY Xq;have hE:∀k∈n.kids,∀q',q<=q'+2->q' < q+1->ExS (AK q') k:=λk hk q' h4 h5=>ih q' h5 k (hJ k hk) (by have:=NQ hk;omega);rw[AK,El];refine MS (YX n h0 h1) (λhp=>?_) λz hp=>Kz λa=>hp ⟨by omega,by have:=N5 n;omega⟩;dsimp only;rw[cond_true];refine Out.congr (P:=Tc n/\Pe n.kids (c+1) (d+1)) (t:=(c+1)+Hb n.kids) ?_ ?_ (λ_=>by omega);rotate_left;rw[Jq,N5];unfold Pe;have hd:=@Yi n.kids;constructor;rintro⟨a,b,e⟩;refine⟨⟨a,λk hk=>(b k hk).1⟩,by omega,?_⟩;have:=(hd (m:=(40 - d).toNat)).2 λk hk=>by have:=(b k hk).2;omega
 omega;rintro⟨⟨a,b⟩,e,f⟩;refine⟨a,λk hk=>⟨b k hk,?_⟩,by omega⟩;have:=(hd (m:=Wp n.kids)).1 (Nat.le_refl _) k hk;omega;have RV:=hp.1;have ZV:=hp.2;rw[C5 (a:=d) (b:=1) (by omega)];have e0:(((n.kids.length:Nat):Int)=0)=(n.kids.length=0):=propext (by omega);simp only[LG,TY,PG,Sh,NA,tQ,r5,Vb,acz,anl _ sJ,X7 _ _ sJ,Option.bind_some,e0];have YD:∀{B:Prop},(B↔Tc n)->(B->n.kids.length=0)->Out (some (mb B,c+1)) (Tc n/\Pe n.kids (c+1) (d+1)) (c+1+Hb n.kids):=λhB hk=>(U9 hB).congr ⟨λa=>⟨a,(aik (hk (hB.2 a)) RV).1⟩,λa=>a.1⟩ λa=>(aik (d:=d+1) (hk (hB.2 a.1)) RV).2
 have abE:∀{B:Prop},(Tc n↔B/\n.kids.length=1)->B->n.kids.length=1->Out ((n.kids[0]?).bind λx=>(AK q ⟨c+1⟩ x (d+1)).bind λ(a,b)=>some (a,b)) (Tc n/\Pe n.kids (c+1) (d+1)) (c+1+Hb n.kids):=by
   intro B hB hb hl;have Gt:=λk hk=>hE k hk q (by omega) (by omega);have hx:=hB.2 ⟨hb,hl⟩;generalize n.kids=ks at *
   match ks,hl with
   | [x],_ =>
   simp only[List.getElem?_cons_zero,Option.bind_some];refine MQ (Gt x (by simp) (c+1) (d+1) (by omega) RV (by omega) (by omega)) ⟨λa=>⟨hx,ail.2 a⟩,λa=>ail.1 a.2⟩ λ_=>?_;simp[Hb]
 by_cases k11:n.kind=11;rw[CL k11];simp only[fH,p5,xB];refine YD ?_ ?_;rw[apk k11];exact ab3;intro h;exact(ab3.1 h).2.2.2.2.1;rw[CO k11];by_cases k12:n.kind=12;rw[CL k12];simp only[fH,p5,xB];refine YD ?_ ?_;rw[apl k12];intro h;exact h.2.1;rw[CO k12];by_cases k13:n.kind=13;rw[CL k13];simp only[fH,p5,xB];refine YD ?_ ?_;rw[apm k13];intro h;exact h.2.1;rw[CO k13];by_cases k14:n.kind=14;rw[CL k14];simp only[fH,p5,xB];refine YD ?_ ?_;rw[apn k14];intro h;exact h.2.1;rw[CO k14];by_cases k15:n.kind=15;rw[CL k15];have e:=apo k15;refine Il (λhl=>Il (λhb=>abE (e.trans And.comm) hb (by omega)) λa=>(e.1 a.1).2) λa=>?_;have:=(e.1 a.1).1;omega;rw[CO k15];by_cases k16:n.kind=16;rw[CL k16];have e:=apq k16;refine Il (λhb=>?_) λa=>(e.1 a.1).1;obtain⟨q,rfl⟩:∃k,q=k+1:=⟨q - 1,by omega⟩;rw[AY];refine MQ (vK (g:=AK q) (b:=AY q) (n':=AN q) (l:=AJ q) (λk hk=>hE k hk q (by omega) (by omega)) (λk hk c d a1 a2 a3 a4=>?_) (by omega) RV h2 ZV) ?_ λ_=>rfl;obtain⟨q,rfl⟩:∃k,q=k+1:=⟨q - 1,by have:=S2 hk;have:=Gk k;omega⟩;rw[AN];exact bC (hE k hk q (by omega) (by omega)) a1 a2 a3 a4;rw[e];exact⟨λa=>⟨⟨hb,a.1⟩,a.2⟩,λa=>⟨a.1.2,a.2⟩⟩;rw[CO k16];by_cases k17:n.kind=17;rw[CL k17];have e:=apr k17
 have H6:(n.name=K2\/n.name=F0)->Out (Lt (GB n ⟨0,n.name,ByteArray.empty,0,0,0,0,⟨0,[]⟩,[],0⟩) (Lt (2<=((n.kids.length:Nat):Int)) ((AJ q ⟨c+1⟩ n.kids (d+1)).bind λ(a,b)=>some (a,b)) (some (false,c+1))) (some (false,c+1))) (Tc n/\Pe n.kids (c+1) (d+1)) (c+1+Hb n.kids):=by
   intro hn;refine Il (λhb=>Il (λhl=>?_) λa=>?_) λa=>(e.1 a.1).2.1;obtain⟨q,rfl⟩:∃k,q=k+1:=⟨q - 1,by have:=Rk n.kids;omega⟩;rw[AJ,Ds,Sv hkl,List.drop_zero];dsimp only;refine MQ (R7 (g:=AK q) (p:=Kc) (d:=d+1) (by omega) RV λk hk c' b0 b1=>hE k hk q (by omega) (by omega) c' (d+1) b0 b1 (by omega) (by omega)) ?_ λ_=>rfl;rw[e];exact⟨λa=>⟨⟨hn,hb,by omega⟩,a⟩,λa=>a.2⟩;have:=(e.1 a.1).2.2;omega
 by_cases aP:n.name=K2;rw[CL aP];exact H6 (.inl aP);rw[CO aP];exact Il (λhn2=>H6 (.inr hn2)) λa=>(e.1 a.1).1.resolve_left aP;rw[CO k17];by_cases k18:n.kind=18;rw[CL k18];have e:=aps k18;refine Il (λhb=>Il (λht=>Il (λhl=>abE (B:=GB n ⟨0,ByteArray.empty,ByteArray.empty,0,0,0,0,n.CZ,[],0⟩/\lU n.CZ) (e.trans (by rw[and_assoc])) ⟨hb,ht⟩ (by omega)) λa=>?_) λa=>(e.1 a.1).2.1) λa=>(e.1 a.1).1;have:=(e.1 a.1).2.2;omega;rw[CO k18];exact Kz λa=>by have:=ae4 a.1;omega
def Le{β:Type}(a b:Option β):Prop:=∀y,a=some y->b=some y
section
variable {α β γ δ ρ:Type}
def Le.refl(a:Option β):Le a a:=λ_ h=>h
def Pf{a a':Option α}{f g:α->Option β}(h:Le a a')(k:∀x,Le (f x) (g x)):Le (a.bind f) (a'.bind g):=by
 intro y hy;cases a with
 | none=>cases hy
 | some x=>rw[h x rfl];exact k x y hy
def sV{b:Bool}{x x' y y':Option β}(h:Le x x')(k:Le y y'):Le (cond b x y) (cond b x' y'):=by cases b;exact k;exact h
def akq{n:Nat}{x x':Option β}(h:Le x x'):Le (TA n x) (TA n x'):=by
 unfold TA;split;exact h;exact Le.refl _
def sW{body ahT:Nat->α->γ->Option (Lp γ δ ρ)}{done:γ->δ}(h:∀i y x,Le (body i y x) (ahT i y x)):∀(l:List α) (i:Nat) (x:γ),Le (C8 body done l i x) (C8 ahT done l i x)
 | [],_,_=>Le.refl _
 | a::l,i,x=>by
   rw[C8,C8];refine Pf (h i a x) λz=>?_;cases z with
   | nx x'=>exact sW h l (i+1) x'
   | ex d=>exact Le.refl _
   | rt v=>exact Le.refl _
end
def dS:∀q:Nat,(∀c n d,Le (AK q c n d) (AK (q+1) c n d))/\(∀c n d,Le (AY q c n d) (AY (q+1) c n d))/\(∀c n d,Le (AN q c n d) (AN (q+1) c n d))/\(∀c n d,Le (AJ q c n d) (AJ (q+1) c n d))
 | 0=>⟨(λ_ _ _ _ h=>nomatch h),(λ_ _ _ _ h=>nomatch h),(λ_ _ _ _ h=>nomatch h),(λ_ _ _ _ h=>nomatch h)⟩
 | q+1=>by
   obtain⟨i1,i2,i3,i4⟩:=dS q;refine⟨λc n d=>?_,λc n d=>?_,λc n d=>?_,λc n d=>?_⟩
   . rw[AK,AK,El,El]
     repeat' first
       | exact Le.refl _
       | exact i1 _ _ _
       | exact i2 _ _ _
       | exact i4 _ _ _
       | refine sV ?_ ?_
       | refine Pf ?_ λ⟨_,_⟩=>?_
       | refine Pf ?_ λ_=>?_
   . rw[AY,AY,Dh,Dh]
     repeat' first
       | exact Le.refl _
       | exact i1 _ _ _
       | exact i3 _ _ _
       | refine sV ?_ ?_
       | refine Pf ?_ λ⟨_,_⟩=>?_
       | refine Pf ?_ λ_=>?_
   rw[AN,AN,Di,Di];exact Pf (i1 _ _ _) λ_=>Le.refl _;rw[AJ,AJ,Ds,Ds];refine Pf (akq (sW (λi y x=>?_) _ _ _)) λ_=>Le.refl _;rw[D1,D1];exact Pf (i1 _ _ _) λ_=>Le.refl _
def aaS{β:Type}{f:Nat->Option β}(h:∀q,Le (f q) (f (q+1))){q:Nat}{y:β}(hy:f q=some y):evt f=some y:=by
 refine Yp q λm hm=>?_
 induction m with
 | zero=>obtain rfl:q=0:=by omega
         exact hy
 | succ m ih =>
   rcases Nat.lt_or_ge m q with Gm | OT
   obtain rfl:q=m+1:=by omega
   exact hy;exact h m y (ih OT)
def aaU{n:Nd}(Xq:K3 n):ExS G5 n:=by
 intro c d h0 h1 h2 h3;obtain⟨z,hz,hz2⟩:=aaT (3*Ez n) n Xq (Nat.le_refl _) c d h0 h1 h2 h3;exact⟨z,aaS (λq=>(dS q).1 _ _ _) hz,hz2⟩
def acr{n:Nd}(Xq:K3 n){c d:Int}(h0:0<=c)(h1:c<=2000)(h2:0<=d)(h3:d<=41):Out (F3 ⟨c⟩ n d) ((Kc n/\Q4 n)/\c+Ez n<=2000/\d+OS n<=41) (c+Ez n):=by
 obtain⟨z,hz,hz2⟩:=bC (g:=AK (3*Ez n)) (b:=AY (3*Ez n)) (a:=AN (3*Ez n)) (l:=AJ (3*Ez n)) (aaT (3*Ez n) n Xq (Nat.le_refl _)) h0 h1 h2 h3;exact⟨z,aaS (q:=3*Ez n+1) (λq=>(dS q).2.2.1 _ _ _) (by rw[AN];exact hz),hz2⟩
end Mo
end Go.Proofs.YtpbkhogolfegfaaGreatDoor
namespace Go.Proofs.YtpbkhogolfegfaaGreatDoor
open AI Go
namespace Mo
set_option maxRecDepth 100000
set_option maxHeartbeats 4000000
abbrev z0:Nd:=⟨0,ByteArray.empty,ByteArray.empty,0,0,0,0,⟨0,[]⟩,[],0⟩
def akK(n:Int):GL n=some (mb (aaD n)):=by
 rw[GL];simp only[TY,NA,j9,aku];rfl
def RB(n:Nd):Prop:=n.kind=5/\(0<=n.n/\n.n<=1000000)/\n.kids.length=0/\aaD n.fr/\(n.fr < n.to/\n.to<=36525)/\aaD n.known/\GB n ⟨0,ByteArray.empty,ByteArray.empty,n.n,n.fr,n.to,n.known,⟨0,[]⟩,[],0⟩
def KS(n:Nd):Prop:=GB n z0/\(n.kind=7->0 < n.kids.length/\∀k∈n.kids,Kc k/\Q4 k)/\(n.kind≠7->n.kids.length=1/\∀k∈n.kids,Kc k)
def sX{n:Nd}(h:n.kids.length=0):Ez n=1/\OS n=1:=by
 have:=List.eq_nil_of_length_eq_zero h;rw[Gk,N5,this];exact⟨rfl,rfl⟩
def ajJ{n:Nd}(Xq:K3 n){c d:Int}(h0:0<=c)(h1:c<=2000):Out (Fx ⟨c⟩ n d) (RB n/\c+Ez n<=2000/\d+OS n<=41) (c+Ez n):=by
 obtain⟨sJ,hkl,hJ⟩:=YY Xq;have Qc:=Gk n;have hdp:=N5 n;rw[Fx];refine MS (YX n h0 h1) (λhp=>?_) λz hp=>Kz λa=>hp ⟨by omega,by omega⟩;dsimp only;rw[cond_true];simp only[LG,TY,PG,NA,akK,X7 _ _ sJ,Option.bind_some,fH,p5]
 have key:(n.kind=5/\¬n.n < 0/\¬1000000 < n.n/\¬(0:Int) < ((n.kids.length:Nat):Int)/\aaD n.fr/\¬n.to<=n.fr/\¬36525 < n.to/\aaD n.known/\GB n ⟨0,ByteArray.empty,ByteArray.empty,n.n,n.fr,n.to,n.known,⟨0,[]⟩,[],0⟩)↔RB n:=by
   unfold RB;constructor;rintro⟨a,b,c',e,f,g,h,i,j⟩;exact⟨a,⟨by omega,by omega⟩,by omega,f,⟨by omega,by omega⟩,i,j⟩;rintro⟨a,b,c',f,g,i,j⟩;exact⟨a,by omega,by omega,by omega,f,by omega,by omega,i,j⟩
 refine(U9 key).congr ⟨λa=>⟨a,?_⟩,λa=>a.1⟩ λa=>?_;have:=sX a.2.2.1;omega;have:=sX a.1.2.2.1;omega
def aay{n:Nd}(Xq:K3 n){c d:Int}(h0:0<=c)(h1:c<=2000)(h2:0<=d):Out (DT ⟨c⟩ n d) (KS n/\c+Ez n<=2000/\d+OS n<=41) (c+Ez n):=by
 obtain⟨sJ,hkl,hJ⟩:=YY Xq;have Qc:=Gk n;have hdp:=N5 n;have hd:=@Yi n.kids;rw[DT];refine MS (YX n h0 h1) (λhp=>?_) λz hp=>Kz λa=>hp ⟨by omega,by omega⟩;dsimp only;rw[cond_true,C5 (a:=d) (b:=1) (by omega)];simp only[LG,PG,NA,X7 _ _ sJ,Option.bind_some];have RV:=hp.1;have ZV:=hp.2
 have SN:(∀k∈n.kids,d+1+OS k<=41)↔d+OS n<=41:=by
   constructor;intro h;have:=(hd (m:=(40 - d).toNat)).2 λk hk=>by have:=h k hk;omega
   omega;intro h k hk;have:=(hd (m:=Wp n.kids)).1 (Nat.le_refl _) k hk;omega
 refine Il (λhb=>?_) λa=>a.1.1;by_cases k7:n.kind=7;rw[CL k7];refine Il (λhl=>?_) λa=>by have:=(a.1.2.1 k7).1;omega
 rw[EM,Sv hkl,List.drop_zero];dsimp only;refine MQ (R7 (g:=F3) (p:=λk=>Kc k/\Q4 k) (d:=d+1) (by omega) RV λk hk c' b0 b1=>acr (hJ k hk) b0 b1 (by omega) (by omega)) ⟨λa=>⟨⟨hb,λ_=>⟨by omega,λk hk=>(a.1 k hk).1⟩,λh=>absurd k7 h⟩,by omega,SN.1 λk hk=>(a.1 k hk).2⟩,λa=>⟨λk hk=>⟨(a.1.2.1 k7).2 k hk,SN.2 a.2.2 k hk⟩,by omega⟩⟩ λ_=>by omega
 rw[CO k7];refine Il (λhl=>?_) λa=>by have:=(a.1.2.2 k7).1;omega
 have hl1:n.kids.length=1:=by omega
 unfold KS;generalize n.kids=ks at *
 match ks,hl1 with
 | [x],_ =>
 simp only[List.getElem?_cons_zero,Option.bind_some];have e1:Hb [x]=Ez x:=by simp[Hb]
 refine MQ (aaU (hJ x (by simp)) (c+1) (d+1) (by omega) RV (by omega) (by omega)) ⟨λa=>⟨⟨hb,λh=>absurd h k7,λ_=>⟨rfl,λk hk=>by rw[List.mem_singleton.1 hk];exact a.1⟩⟩,by omega,SN.1 λk hk=>by rw[List.mem_singleton.1 hk];exact a.2.2⟩,λa=>⟨(a.1.2.2 k7).2 x (by simp),by omega,SN.2 a.2.2 x (by simp)⟩⟩ λ_=>by omega
def Hm(k:Int):List Nd->Nat
 | []=>0
 | a::l=>(if a.kind=k then 1 else 0)+Hm k l
def kinds(l:List Nd):Prop:=∀k∈l,6<=k.kind/\k.kind<=8
def YK{y:Int}:∀{l:List Nd} {i:Nat} {a b c:Int},0<=a->0<=b->0<=c->a+l.length<=9223372036854775807->b+l.length<=9223372036854775807->c+l.length<=9223372036854775807 ->
   C8 (λi z x=>Ea y i z x.1 x.2.1 x.2.2) (λx=>(x.1,x.2.1,x.2.2)) l i (a,b,c)=some (Lt (kinds l) (.inl (a+Hm 6 l,b+Hm 7 l,c+Hm 8 l)) (.inr (false,y)))
 | [],i,a,b,c,_,_,_,_,_,_=>by rw[CL (show kinds [] from λk hk=>(by cases hk))];simp[C8,Hm]
 | z::l,i,a,b,c,h1,h2,h3,h4,h5,h6=>by
   simp only[List.length_cons] at h4 h5 h6;rw[C8,Ea];simp only[PG,LG,NA];have hk:kinds (z::l)↔(6<=z.kind/\z.kind<=8)/\kinds l:=by unfold kinds;simp
   have go:∀{a' b' c':Int},0<=a'->0<=b'->0<=c'->a'<=a+1->b'<=b+1->c'<=c+1->6<=z.kind/\z.kind<=8->a'+Hm 6 l=a+Hm 6 (z::l)->b'+Hm 7 l=b+Hm 7 (z::l)->c'+Hm 8 l=c+Hm 8 (z::l) ->
       (some (Lp.nx (a',b',c'))).bind (RA (C8 (λi z x=>Ea y i z x.1 x.2.1 x.2.2) (λx=>(x.1,x.2.1,x.2.2)) l (i+1)))=some (Lt (kinds (z::l)) (.inl (a+Hm 6 (z::l),b+Hm 7 (z::l),c+Hm 8 (z::l))) (.inr (false,y))):=by
     intro a' b' c' g1 g2 g3 g4 g5 g6 gk e1 e2 e3;show C8 _ _ l (i+1) (a',b',c')=_;rw[YK g1 g2 g3 (by omega) (by omega) (by omega),e1,e2,e3];by_cases hl:kinds l;rw[CL hl,CL (hk.2 ⟨gk,hl⟩)];rw[CO hl,CO λq=>hl (hk.1 q).2]
   by_cases k6:z.kind < 6;rw[CL k6,CO λq=>by have:=(hk.1 q).1;omega];rfl;rw[CO k6];by_cases k8:8 < z.kind;rw[CL k8,CO λq=>by have:=(hk.1 q).1;omega];rfl;rw[CO k8];by_cases e6:z.kind=6;rw[CL e6,C5 (by omega)];exact go (by omega) h2 h3 (by omega) (by omega) (by omega) (by omega) (by simp[Hm,e6];omega) (by simp[Hm,e6]) (by simp[Hm,e6]);rw[CO e6];by_cases e7:z.kind=7;rw[CL e7,C5 (by omega)];exact go h1 (by omega) h3 (by omega) (by omega) (by omega) (by omega) (by simp[Hm,e7]) (by simp[Hm,e7];omega) (by simp[Hm,e7]);rw[CO e7];have e8:z.kind=8:=by omega
   rw[CL e8,C5 (by omega)];exact go h1 h2 (by omega) (by omega) (by omega) (by omega) (by omega) (by simp[Hm,e8]) (by simp[Hm,e8]) (by simp[Hm,e8];omega)
def vD(n:Nd):Prop:=PR n.n/\RG n.name/\GB n ⟨0,n.name,ByteArray.empty,n.n,0,0,0,⟨0,[]⟩,[],0⟩/\∃h cs,n.kids=h::cs/\kinds cs/\Hm 8 cs=1/\Hm 7 cs<=1/\RB h/\∀k∈cs,KS k
def IK(n:Nd):Prop :=
 (n.kind=2/\RG n.name/\Vp n.unit/\n.kids.length=0/\GB n ⟨0,n.name,n.unit,0,0,0,0,⟨0,[]⟩,[],0⟩) \/
 (n.kind=3/\RG n.name/\Vp n.unit/\1<=n.n/\n.n<=4/\n.kids.length=0/\GB n ⟨0,n.name,n.unit,n.n,0,0,0,⟨0,[]⟩,[],0⟩) \/
 (n.kind=4/\vD n)
def it2{n:Nd}(h:n.kind=2):IK n↔RG n.name/\Vp n.unit/\n.kids.length=0/\GB n ⟨0,n.name,n.unit,0,0,0,0,⟨0,[]⟩,[],0⟩:=by unfold IK;simp[h]
def it3{n:Nd}(h:n.kind=3):IK n↔RG n.name/\Vp n.unit/\1<=n.n/\n.n<=4/\n.kids.length=0/\GB n ⟨0,n.name,n.unit,n.n,0,0,0,⟨0,[]⟩,[],0⟩:=by unfold IK;simp[h]
def it4{n:Nd}(h:n.kind=4):IK n↔vD n:=by unfold IK;simp[h]
def afA{n:Nd}(h:IK n):n.kind=2\/n.kind=3\/n.kind=4:=by
 unfold IK at h;rcases h with h | h | h
 all_goals
   have:=h.1;simp[this]
def akg{n:Nd}(Xq:K3 n){c d:Int}(h0:0<=c)(h1:c<=2000)(h2:0<=d):Out (Em ⟨c⟩ n d) (IK n/\c+Ez n<=2000/\d+OS n<=41) (c+Ez n):=by
 obtain⟨sJ,hkl,hJ⟩:=YY Xq;have Qc:=Gk n;have hdp:=N5 n;have hd:=@Yi n.kids;rw[Em];refine MS (YX n h0 h1) (λhp=>?_) λz hp=>Kz λa=>hp ⟨by omega,by omega⟩;dsimp only;rw[cond_true,C5 (a:=d) (b:=1) (by omega)];have e0:(((n.kids.length:Nat):Int)=0)=(n.kids.length=0):=propext (by omega);simp only[LG,TY,PG,NA,tQ,r5,Vb,X7 _ _ sJ,Option.bind_some,e0];have RV:=hp.1;have ZV:=hp.2;have YD:∀{B:Prop},(B↔IK n)->(B->n.kids.length=0)->Out (some (mb B,c+1)) (IK n/\c+Ez n<=2000/\d+OS n<=41) (c+Ez n):=λhB hk=>(U9 hB).congr ⟨λa=>⟨a,by have:=sX (hk (hB.2 a));omega⟩,λa=>a.1⟩ λa=>by have:=sX (hk (hB.2 a.1));omega
 by_cases k2:n.kind=2;rw[CL k2];simp only[fH,p5,xB];refine YD ?_ ?_;rw[it2 k2];intro h;exact h.2.2.1;rw[CO k2];by_cases k3:n.kind=3;rw[CL k3];simp only[fH,p5,xB];refine YD ?_ ?_;rw[it3 k3];intro h;exact h.2.2.2.2.1;rw[CO k3];by_cases k4:n.kind=4;rotate_left;rw[CO k4];exact Kz λa=>by have:=afA a.1;omega
 rw[CL k4,it4 k4];refine Il (λhr=>Il (λhn=>Il (λhb=>?_) λa=>a.1.2.2.1) λa=>a.1.2.1) λa=>a.1.1;refine kK (λhl0=>?_) λa h=>by obtain⟨h',cs,hk,_⟩:=a.1.2.2.2;rw[hk] at h;simp at h
 have SN:(∀k∈n.kids,d+1+OS k<=41)↔d+OS n<=41:=by
   constructor;intro h;have:=(hd (m:=(40 - d).toNat)).2 λk hk=>by have:=h k hk;omega
   omega;intro h k hk;have:=(hd (m:=Wp n.kids)).1 (Nat.le_refl _) k hk;omega
 unfold vD;generalize n.kids=ks at *
 match ks,hl0 with
 | x::l,_ =>
 have LI:adp (x::l) 1 (((x::l).length:Nat):Int)=some l:=by
   unfold adp;rw[if_pos (by simp only[List.length_cons];omega)];simp
 rw[LI];simp only[Option.bind_some,List.length_cons] at hkl ⊢
 have e2:∀{A:Prop},(∃h cs,x::l=h::cs/\kinds cs/\Hm 8 cs=1/\Hm 7 cs<=1/\RB h/\∀k∈cs,KS k)↔(kinds l/\Hm 8 l=1/\Hm 7 l<=1/\RB x/\∀k∈l,KS k):=by
   intro _;constructor;rintro⟨h,cs,e,r⟩;cases e;exact r;intro r;exact⟨x,l,rfl,r⟩
 rw[Sv (by omega),List.drop_zero,YK (by omega) (by omega) (by omega) (by omega) (by omega) (by omega)];simp only[Option.bind_some];by_cases hK:kinds l;rotate_left;rw[CO hK];show Out (some (false,c+1)) _ _;exact Kz λa=>hK ((e2 (A:=True)).1 a.1.2.2.2).1;rw[CL hK];show Out (Lt ((0:Int)+Hm 8 l=1) (Lt (1 < (0:Int)+Hm 7 l) (some (false,c+1)) _) (some (false,c+1))) _ _;refine Il (λh8=>kK (λh7=>?_) λa=>?_) λa=>?_;rotate_left;have:=((e2 (A:=True)).1 a.1.2.2.2).2.2.1;omega;have:=((e2 (A:=True)).1 a.1.2.2.2).2.1;omega;simp only[List.getElem?_cons_zero,Option.bind_some];have hdx:=λh=>SN.2 h x (by simp);have hsl:Hb (x::l)=Ez x+Hb l:=by simp[Hb]
 refine MS (ajJ (hJ x (by simp)) (c:=c+1) (d:=d+1) (by omega) RV) (λhx=>?_) λz hx=>Kz λa=>hx ⟨((e2 (A:=True)).1 a.1.2.2.2).2.2.2.1,by omega,hdx a.2.2⟩;dsimp only;rw[cond_true,EL,Sv (by omega),List.drop_zero];dsimp only;refine MQ (R7 (g:=DT) (p:=KS) (d:=d+1) (by omega) hx.2.1 λk hk c' b0 b1=>aay (hJ k (by simp[hk])) b0 b1 (by omega)) ?_ λ_=>by omega
 constructor;rintro⟨a,b⟩;refine⟨⟨hr,hn,hb,(e2 (A:=True)).2 ⟨hK,by omega,by omega,hx.1,λk hk=>(a k hk).1⟩⟩,by omega,SN.1 λk hk=>?_⟩;rcases List.mem_cons.1 hk with rfl | hk
 exact hx.2.2;exact(a k hk).2;rintro⟨a,b,e⟩;exact⟨λk hk=>⟨((e2 (A:=True)).1 a.2.2.2).2.2.2.2 k hk,SN.2 e k (by simp[hk])⟩,by omega⟩
def okV(n:Nd):Prop:=((n.kind=1/\GB n z0/\∀k∈n.kids,IK k)\/(n.kind≠1/\Kc n))/\Ez n<=2000/\OS n<=40
def gG{n:Nd}(Xq:K3 n):Es n=some (mb (okV n)):=by
 obtain⟨sJ,hkl,hJ⟩:=YY Xq;have Qc:=Gk n;have hdp:=N5 n;have hd:=@Yi n.kids;rw[Es,LG,NA]
 have fin:∀{r:Option (Bool×Int)} {P:Prop} {t:Int},Out r P t->(P↔okV n)->(r.bind λ(a,_)=>some a)=some (mb (okV n)):=by
   rintro r P t ⟨z,rfl,_⟩ h;rw[MO h];rfl
 by_cases k1:n.kind=1;rotate_left;rw[CO k1];refine fin (aaU Xq 0 1 (by omega) (by omega) (by omega) (by omega)) ?_;unfold okV;constructor;rintro⟨a,b,c⟩;exact⟨.inr ⟨k1,a⟩,by omega,by omega⟩;rintro⟨a | a,b,c⟩;exact absurd a.1 k1;exact⟨a.2,by omega,by omega⟩;rw[CL k1];obtain⟨z,hz,hz2⟩:=YX n (c:=0) (d:=1) (by omega) (by omega);rw[hz];simp only[Option.bind_some,X7 _ _ sJ,NA];by_cases h1:(0:Int)+1<=2000/\(1:Int)<=40;rotate_left;exact absurd ⟨by omega,by omega⟩ h1;rw[CL h1,hz2 h1];by_cases hb:GB n z0;rotate_left;rw[CO hb];refine fV ?_;rintro⟨a | a,_⟩;exact hb a.2.1;exact a.1 k1;rw[CL hb,Fo,Sv hkl,List.drop_zero];dsimp only;refine fin (R7 (g:=Em) (p:=IK) (d:=2) (by omega) (by omega) λk hk c' b0 b1=>akg (hJ k hk) b0 b1 (by omega)) ?_;unfold okV;constructor;rintro⟨a,b⟩;refine⟨.inl ⟨k1,hb,λk hk=>(a k hk).1⟩,by omega,?_⟩;have:=(hd (m:=39)).2 λk hk=>by have:=(a k hk).2;omega
 omega;rintro⟨a | a,b,e⟩;refine⟨λk hk=>⟨a.2.2 k hk,?_⟩,by omega⟩;have:=(hd (m:=Wp n.kids)).1 (Nat.le_refl _) k hk;omega;exact absurd k1 a.1
end Mo
end Go.Proofs.YtpbkhogolfegfaaGreatDoor
namespace Go.Proofs.YtpbkhogolfegfaaGreatDoor
open AI Go
namespace Mo
set_option maxRecDepth 100000
abbrev Rd(α:Type):=List Tk->Option ((α⊕Dg)×List Tk)
section
variable {α β:Type}
def FZ(a:α):Rd α:=λl=>some (.inl a,l)
def L8(e p:Int):Rd α:=λl=>some (.inr ⟨e,p⟩,l)
def Cv(m:Rd α)(k:α->Rd β):Rd β:=λl=>match m l with
 | none=>none
 | some (.inl a,s)=>k a s
 | some (.inr d,s)=>some (.inr d,s)
def Lv(x:Option α)(k:α->Rd β):Rd β:=λl=>match x with
 | none=>none
 | some a=>k a l
def Ue(en:Int)(k:Tk->Rd β):Rd β:=λl=>match l with
 | []=>some (.inr ⟨72,en⟩,[])
 | t::s=>k t (t::s)
def Uz(k:Rd β):Rd β:=λl=>match l with
 | []=>none
 | _::s=>k s
def Ii(x:ByteArray):List Tk->Bool
 | []=>false
 | t::_=>B2 t.text.data.toList x.data.toList
def OD(x:ByteArray)(yes no:Rd β):Rd β:=λl=>cond (Ii x l) (Uz yes l) (no l)
end
def Lm(en:Int)(fits:Tk->Option Bool):Rd Tk:=Ue en λt=>Lv (fits t) λb=>cond b (Uz (FZ t)) (L8 71 t.AH)
def Jc(en:Int)(x:ByteArray):Rd Tk:=Lm en λt=>Dz t x
def bA(en:Int):Rd Tk:=Lm en Cz
def lY(en:Int):Rd Tk:=Lm en Fi
def bO(en:Int):Rd Tk:=Lm en BX
def Mu(en:Int):Rd (Int×Int):=Cv (Lm en Eu) λt=>Lv (Sa t.text) λn=>FZ (n.1,t.AH)
def LU(en least:Int):Rd (Int×Int):=Cv (Mu en) λp=>cond (DS p.1 least) (L8 3 p.2) (cond (DS 1000000 p.1) (L8 3 p.2) (FZ p))
def Rz(en least:Int):Rd Int:=Cv (Lm en E3) λt=>Lv (FA t.text) λd=>cond (CV d.2 0) (cond (DS d.1 least) (L8 21 t.AH) (FZ d.1)) (L8 21 t.AH)
abbrev bE:ByteArray:=ByteArray.empty
def Fw(kind:Int)(name unit:ByteArray)(n:Int)(kids:List Nd)(p:Int):Nd:=⟨kind,name,unit,n,0,0,0,⟨0,[]⟩,kids,p⟩
def UX(en:Int):Rd Nd:=Cv (Jc en tS) λt=>Cv (LU en 0) λn=>Cv (Jc en r4) λ_=>Cv (Rz en 0) λf =>
 OD toS (Cv (Rz en (BC f 1)) λu=>Cv (Jc en VN) λ_=>Cv (Rz en 0) λk=>FZ ⟨5,bE,bE,n.1,f,u,k,⟨0,[]⟩,[],t.AH⟩)
   (Cv (Jc en VN) λ_=>Cv (Rz en 0) λk=>FZ ⟨5,bE,bE,n.1,f,36525,k,⟨0,[]⟩,[],t.AH⟩)
def Pa(en:Int):Rd Nd:=Ue en λt=>Uz<|Cv (bA en) λm=>Cv (Jc en Vd) λ_=>Cv (lY en) λu =>
 cond (B2 t.text.data.toList Of.data.toList)
   (Cv (bO en) λr=>Lv (EB r.text) λn=>Cv (Jc en RY) λ_=>FZ (Fw 3 m.text u.text n [] t.AH))
   (Cv (Jc en RY) λ_=>FZ (Fw 2 m.text u.text 0 [] t.AH))
def FT(en:Int):Rd Nd:=Cv (LU en 1) λp=>FZ (Fw 11 bE EK p.1 [] p.2)
def OC{β:Type}(n:Nat)(m:Rd β):Rd β:=λs=>ML n (m s)
def Nq(read:Rd Nd):Nat->List Nd->Rd (List Nd)
 | 0,_=>λ_=>none
 | q+1,l=>OD Uc (Cv read λn=>OC (l.length+1) (Nq read q (l++[n]))) (FZ l)
def RF(read:Rd Nd):Rd (List Nd):=Cv read λn s=>Nq read (s.length+1) [n] s
def Nk(en:Int):Rd (Int×Int):=Cv (Lm en Dq) λt=>Lv (CF t) λc=>cond (CV t.kind 3) (cond (CV c 0) (FZ (c,t.AH)) (L8 3 t.AH)) (FZ (c,t.AH))
def Vh(en:Int):Rd Int:=Cv (Lm en E6) λt=>cond (B2 t.text.data.toList Lu.data.toList) (FZ (-1)) (FZ 1)
def oE:Nat->Int->Int->Int
 | 0,a,_=>a
 | n+1,a,b=>if b=0 then a else oE n b (a % b)
def aa6(a b:Int):Option Int:=if 1<=a/\0<=b then some (oE (b.toNat+1) a b) else none
def NL(en Ax from_ a:Int):Rd (Pt×Int):=Cv (Vh en) λs=>Cv (LU en 0) λm=>Cv (Jc en EH) λ_=>Cv (LU en 1) λd =>
 Lv (aa6 Ax d.1) λg=>Lv (Tb Ax g) λz=>cond (DS 1000000 (BU z d.1)) (L8 2 d.2) (FZ (⟨from_,a,BU m.1 s,d.1⟩,BU z d.1))
def Mw(en Ax from_:Int):Rd (Pt×Int):=Cv (Jc en Vd) λ_=>OD Lu (Cv (Nk en) λa=>NL en Ax from_ (BU a.1 (-1))) (Cv (Nk en) λa=>NL en Ax from_ (BU a.1 1))
def Rc(en:Int)(before:List Pt)(Ax:Int):Rd (Pt×Int):=Cv (Nk en) λv =>
 cond (CV ((before.length:Nat):Int) 0) (cond (CV v.1 0) (Mw en Ax v.1) (L8 3 v.2))
   (Lv (before[before.length - 1]?) λq=>cond (Oe v.1 q.fr) (L8 3 v.2) (cond (Oe 64 ((before.length:Nat):Int)) (L8 2 v.2) (Mw en Ax v.1)))
def Jy(en:Int):Nat->List Pt->Int->Rd (List Pt×Int)
 | 0,_,_=>λ_=>none
 | q+1,l,c=>Cv (Rc en l c) λp=>OC (l.length+1) (OD Uc (Jy en q (l++[p.1]) p.2) (FZ (l++[p.1],p.2)))
def L0(c p:Int):List Pt->List Pc->Rd (List Pc)
 | [],acc=>FZ acc
 | x::xs,acc=>Lv (Tb c x.den) λz=>cond (DS 1000000 (BU x.num z)) (L8 2 p) (cond (DS (BU x.num z) (-1000000)) (L8 2 p) (OC (acc.length+1) (L0 c p xs (acc++[⟨x.fr,BU x.AH c,BU x.num z⟩]))))
inductive Ek where
 | ex | lv (i:Nat) | at_ | wd (t:Tk) | ca | ta
def Uj(en:Int)(g:Ek->Rd Nd):Rd Nd:=Cv (Jc en Rl) λt=>Cv (Jc en Ub) λ_=>Cv (g .ex) λa=>Cv (Jc en RY) λ_=>Cv (λs=>Jy en (s.length+1) [] 1 s) λl=>Cv (Jc en VX) λe =>
 OC l.1.length (Cv (L0 l.2 e.AH l.1 []) λr=>FZ ⟨18,bE,bE,0,0,0,0,⟨l.2,r⟩,[a],t.AH⟩)
def UM(en:Int)(g:Ek->Rd Nd)(li:Rd (List Nd)):Rd Nd:=Ue en λt=>Uz<|Cv (Jc en Ub) λ_=>Cv (g .ex) λa=>Cv (Jc en Uc) λ_=>Cv li λl=>OC (1+l.length)<|Cv (Jc en VX) λ_=>FZ (Fw 17 t.text bE 0 (a::l) t.AH)
def Wo(t:Tk):Rd Nd:=Uz (FZ (Fw 14 t.text bE 0 [] t.AH))
def RL(en:Int)(g:Ek->Rd Nd)(t:Tk):Rd Nd :=
 cond (B2 t.text.data.toList Zt.data.toList) (Uz (FZ (Fw 11 bE Hh 1 [] t.AH))) <|
 cond (B2 t.text.data.toList TP.data.toList) (Uz (FZ (Fw 11 bE Hh 0 [] t.AH))) <|
 cond (B2 t.text.data.toList dF.data.toList) (Uz (Cv (LU en 1) λp=>FZ (Fw 13 bE bE p.1 [] t.AH))) <|
 cond (B2 t.text.data.toList L2.data.toList) (Wo t)<|cond (B2 t.text.data.toList dO.data.toList) (Wo t)<|cond (B2 t.text.data.toList Q1.data.toList) (Wo t)<|cond (B2 t.text.data.toList VA.data.toList) (Wo t) <|
 cond (B2 t.text.data.toList K2.data.toList) (g .ca)<|cond (B2 t.text.data.toList F0.data.toList) (g .ca)<|cond (B2 t.text.data.toList Rl.data.toList) (g .ta) <|
 cond (B2 t.text.data.toList Ub.data.toList) (Uz (Cv (g .ex) λa=>Cv (Jc en VX) λ_=>FZ a)) (L8 71 t.AH)
def Wm(en:Int)(g:Ek->Rd Nd):Rd Nd:=Ue en λt =>
 cond (CV t.kind 3) (Cv (Mu en) λn=>OD afS (FZ (Fw 11 bE JV n.1 [] n.2)) (FZ (Fw 11 bE EK n.1 [] n.2)))
   (cond (CV t.kind 2) (Uz (Cv (Lm en EZ) λa=>Lv (CF a) λc=>FZ (Fw 11 bE t.text c [] t.AH)))
     (Lv (Cz t) λb=>cond b (Uz (FZ (Fw 12 t.text bE 0 [] t.AH))) (g (.wd t))))
def opsOf:Nat->List ByteArray
 | 0=>[kI]
 | 1=>[P1]
 | 3=>[GW,Ib,Kh,Hg,JK,FX]
 | 4=>[OA,Lu]
 | 5=>[PQ,EH,iM]
 | _=>[]
def kH{β:Type}(yes:ByteArray->Rd β)(no:Rd β):List ByteArray->Rd β
 | []=>no
 | x::xs=>OD x (yes x) (kH yes no xs)
def PS(en:Int)(sub:Rd Nd)(op:ByteArray)(l:Nd):Rd Nd:=Cv (cond (B2 op.data.toList EH.data.toList) (FT en) sub) λr=>Lv (Bl op l r) λb=>FZ b
def Jb(en:Int)(ops:List ByteArray)(sub:Rd Nd):Nat->Nd->Rd Nd
 | 0,_=>λ_=>none
 | q+1,l=>kH (λop=>Cv (PS en sub op l) λb=>Jb en ops sub q b) (FZ l) ops
def Nb(en:Int)(g:Ek->Rd Nd)(i:Nat):Rd Nd:=Cv (g (.lv (i+1))) λl s=>Jb en (opsOf i) (g (.lv (i+1))) (s.length+1) l s
def Yd(en:Int)(g:Ek->Rd Nd):Rd Nd:=Cv (g (.lv 4)) λl=>kH (λop=>PS en (g (.lv 4)) op l) (FZ l) (opsOf 3)
def W1(en:Int)(g:Ek->Rd Nd):Rd Nd:=λs=>cond (Ii VT s) (Cv (Jc en VT) (λt=>Cv (g (.lv 2)) λk=>FZ (Fw 15 bE bE 0 [k] t.AH)) s) (g (.lv 3) s)
def OI(en:Int)(g:Ek->Rd Nd)(li:Rd (List Nd)):Ek->Rd Nd
 | .ex=>g (.lv 0)
 | .lv 2=>W1 en g
 | .lv 3=>Yd en g
 | .lv 6=>g .at_
 | .lv i=>Nb en g i
 | .at_=>Wm en g
 | .wd t=>RL en g t
 | .ca=>UM en g li
 | .ta=>Uj en g
def gP(en:Int):Nat->(Ek->Rd Nd)×Rd (List Nd)
 | 0=>(λ_ _=>none,λ_=>none)
 | q+1=>(OI en (gP en q).1 (gP en q).2,RF ((gP en q).1 .ex))
def IN(en:Int)(ex:Rd Nd)(kind:Int):Rd Nd:=Ue en λt=>Uz <|
 cond (CV kind 7) (Cv (RF (FT en)) λl=>Cv (Jc en RY) λ_=>FZ (Fw kind bE bE 0 l t.AH)) (Cv ex λe=>Cv (Jc en RY) λ_=>FZ (Fw kind bE bE 0 [e] t.AH))
def Gz(en:Int)(ex:Rd Nd)(mk:List Nd->Nd):Nat->List Nd->Bool->Bool->Rd Nd
 | 0,_,_,_=>λ_=>none
 | q+1,l,un,am=>Ue en λt =>
   cond (B2 t.text.data.toList cR.data.toList) (Cv (IN en ex 6) λc=>OC (l.length+1) (Gz en ex mk q (l++[c]) un am)) <|
   cond (B2 t.text.data.toList S4.data.toList) (cond un (L8 5 t.AH) (Cv (IN en ex 7) λc=>OC (l.length+1) (Gz en ex mk q (l++[c]) true am))) <|
   cond (B2 t.text.data.toList QN.data.toList) (cond am (L8 5 t.AH) (Cv (IN en ex 8) λc=>OC (l.length+1) (Gz en ex mk q (l++[c]) un true))) <|
   cond (B2 t.text.data.toList Z5.data.toList) (cond am (Uz (FZ (mk l))) (L8 71 t.AH)) (L8 71 t.AH)
def JP(en:Int)(ex:Rd Nd):Rd Nd:=Cv (Jc en Hl) λt=>Cv (LU en 1) λn=>Cv (Jc en aa1) λ_=>Cv (bA en) λm=>Cv (UX en) λh=>Cv (Jc en fJ) λ_=>λs =>
 Gz en ex (λl=>Fw 4 m.text bE n.1 l t.AH) (s.length+1) [h] false false s
def Oc(en:Int)(ex:Rd Nd):Rd Nd:=Ue en λt =>
 cond (B2 t.text.data.toList Si.data.toList) (Pa en)<|cond (B2 t.text.data.toList Of.data.toList) (Pa en)<|cond (B2 t.text.data.toList Hl.data.toList) (JP en ex) (L8 71 t.AH)
end Mo
end Go.Proofs.YtpbkhogolfegfaaGreatDoor
