/- Part of a proof: see the last text. -/
import Derived.Test.YtpbkhogolfegfaaGreatDoorPgr
set_option linter.unusedVariables false
set_option linter.unusedSimpArgs false
set_option linter.defProp false
noncomputable section
namespace Go.Proofs.YtpbkhogolfegfaaGreatDoor
open AI Go
namespace Mo
set_option maxRecDepth 100000
set_option maxHeartbeats 4000000
variable {mx:Int}
def aJC:Code:=AY Tryz.f145
def aKU:Tryz.f145.body=some aJC:=by kernel_rfl
def GJ(day:Int):Option Bool:=cond (NS 0 day) (cond (NS day 36524) (some true) (some false)) (some false)
def Kx{day:Int}{yR:Bool}(h:GJ  day=some yR):Pure P (G mx) 145 [.zi day] (.zb yR):=by
 unfold GJ at h;refine CN Hd.mixed Hd.Aa (Au Tryz.func145 aKU ?_) (A3 rfl rfl) rfl;revert h;refine Ag (λA2=>?_) λA2=>?_;refine Ag (λhb2=>?_) λhb2=>?_;rintro⟨⟩;exact rT [pb A2,pb hb2];rintro⟨⟩;exact rT [pb A2,pb hb2];rintro⟨⟩;exact rT [pb A2]
def aIM:Code:=AY Tryz.f102
def aKA:Tryz.f102.body=some aIM:=by kernel_rfl
def Fp(c:Ck)(n:Nd)(depth:Int):Option (Bool×Int):=(Cw c n depth).bind λ(Es,Bm)=>cond Es (cond (Dh n.kind 5) (cond (Ev n.n 0) (some (false,Bm)) (cond (Ev 1000000 n.n) (some (false,Bm)) (cond (Ev 0 ((n.kids.length:Nat):Int)) (some (false,Bm)) ((GJ n.fr).bind λy2=>cond y2 (cond (NS n.to n.fr) (some (false,Bm)) (cond (Ev 36525 n.to) (some (false,Bm)) ((GJ n.known).bind λy3=>cond y3 ((B0 n (⟨0,ByteArray.empty,ByteArray.empty,n.n,n.fr,n.to,n.known,(⟨0,[]⟩:Fn),[],0⟩:Nd)).bind λy4=>some (y4,Bm)) (some (false,Bm))))) (some (false,Bm)))))) (some (false,Bm))) (some (false,Bm))
def RJ{c:Ck}{n:Nd}{depth:Int}{yR:Bool}{Ae:Int}(hS:Sound P (G mx) (.call 102 [.ptr 0 0,.agg (CW n),.zi depth] ⟨[(0,.cells (JF c))],1,[],0⟩ (.ret (.zb yR)) ⟨[(0,.cells [.zi Ae])],1,[],0⟩))(u0:Nat)(P0:([u0]:List Nat).Nodup:=by decide)(P1:([]:List Nat).Nodup:=by decide):Cd.ok P (G mx) (.Fa 102 [.ptr u0 0,.agg (CW n),.zi depth] (.ret (.zb yR)) [(u0,.cells (JF c))] [] [(u0,.cells [.zi Ae])] []) :=
 H8 (M:=[.cells (JF c)]) (M2:=[.cells [.zi Ae]]) (T:=[]) (T2:=[]) (k:=1) (j:=0) Hd.Aa _ _ _ _ hS rfl rfl rfl rfl rfl P0 P1 rfl rfl (.cons (.cells (.pl (Ro.pl c))) .nil) (.cons (.cells (.pl (A3 rfl rfl))) .nil) (.cons (.ptr (by decide)) (.cons (.pl (AE.Cr n)) (.cons (.pl rfl) .nil))) (.pl rfl) (λe he=>by simp only[List.mem_singleton] at he;subst he;exact(.arg (.here .ptr)))
def PB{c:Ck}{n:Nd}{depth:Int}{yR:Bool}{Ae:Int}(h:Fp  c n depth=some (yR,Ae)):Sound P (G mx) (.call 102 [.ptr 0 0,.agg (CW n),.zi depth] ⟨[(0,.cells (JF c))],1,[],0⟩ (.ret (.zb yR)) ⟨[(0,.cells [.zi Ae])],1,[],0⟩):=by
 unfold Fp at h;refine BY Hd.mixed (Au Tryz.func102 aKA ?_);revert h;refine As ?_;rintro⟨Es,Bm⟩ Cg;dsimp only;let o1:List (PC P (G mx)):=[Af (Fq (Em Cg) 0)];refine Ag (λhv=>?_) λhv=>?_;subst hv;refine Ag (λA2=>?_) λA2=>?_;refine Ag (λhb2=>?_) λhb2=>?_;rintro⟨⟩;exact Aw Hd.Aa _ _ [] [none] (Ac 300 (o1++[pn A2,pb hb2])) (by kernel_rfl) .body;let o2:List (PC P (G mx)):=o1++[pn A2,pb hb2];refine Ag (λhb3=>?_) λhb3=>?_;rintro⟨⟩;exact Aw Hd.Aa _ _ [] [none] (Ac 300 (o2++[pb hb3])) (by kernel_rfl) .body;refine Ag (λFl=>?_) λFl=>?_;rintro⟨⟩;exact Aw Hd.Aa _ _ [] [none] (Ac 300 (o2++[pb hb3,pb Fl])) (by kernel_rfl) .body;refine As λy2 DZ=>?_;let o3:List (PC P (G mx)):=o2++[pb hb3,pb Fl,AG (Kx DZ)];refine Ag (λhv=>?_) λhv=>?_;subst hv;refine Ag (λH9=>?_) λH9=>?_;rintro⟨⟩;exact Aw Hd.Aa _ _ [] [none] (Ac 300 (o3++[pb H9])) (by kernel_rfl) .body;refine Ag (λI5=>?_) λI5=>?_;rintro⟨⟩;exact Aw Hd.Aa _ _ [] [none] (Ac 300 (o3++[pb H9,pb I5])) (by kernel_rfl) .body;refine As λy3 Fo=>?_;refine Ag (λhv=>?_) λhv=>?_;subst hv;refine As λy4 J9=>?_;rintro⟨⟩;exact Aw Hd.Aa _ _ [] [none] (Ac 300 (o3++[pb H9,pb I5,AG (Kx Fo),I0 (.r (.g (.r (.r (.r (.r (.r (.r (.r (.r (.z (.z (.r .nil))))))))))) .nil)) (BX J9)])) (by kernel_rfl) .body;subst hv;rintro⟨⟩;exact Aw Hd.Aa _ _ [] [none] (Ac 300 (o3++[pb H9,pb I5,AG (Kx Fo)])) (by kernel_rfl) .body;subst hv;rintro⟨⟩;exact Aw Hd.Aa _ _ [] [none] (Ac 300 o3) (by kernel_rfl) .body;rintro⟨⟩;exact Aw Hd.Aa _ _ [] [none] (Ac 300 (o1++[pn A2])) (by kernel_rfl) .body;subst hv;rintro⟨⟩;exact Aw Hd.Aa _ _ [] [none] (Ac 300 o1) (by kernel_rfl) .body
def Gh(depth:Int)(i0:Nat)(e0:Nd)(E9:Int):Option (Lp Int Int (Bool×Int)):=(F4 (⟨E9⟩:Ck) e0 depth).bind λ(Es,Bm)=>cond Es (some (.nx Bm)) (some (.rt (false,Bm)))
def EI(c:Ck)(list:(List Nd))(depth:Int):Option (Bool×Int):=(S6 list.length (CQ (λi y x=>Gh  depth i y x) (λx=>x) (list.drop 0) 0 c.nodes)).bind (L8 (λ(OI:Int)=>some (true,OI)) (λv=>some v))
def NA{c:Ck}{list:(List Nd)}{depth:Int}{yR:Bool}{Ae:Int}(hS:Sound P (G mx) (.call 55 [.ptr 0 0,.sl .lost list.length (Bi list),.zi depth,.fn (.func 144) [.ptr 0 0] []] ⟨[(0,.cells (JF c))],1,[],0⟩ (.ret (.zb yR)) ⟨[(0,.cells [.zi Ae])],1,[],0⟩))(u0:Nat)(P0:([u0]:List Nat).Nodup:=by decide)(P1:([]:List Nat).Nodup:=by decide):Cd.ok P (G mx) (.Fa 55 [.ptr u0 0,.sl .lost list.length (Bi list),.zi depth,.fn (.func 144) [.ptr u0 0] []] (.ret (.zb yR)) [(u0,.cells (JF c))] [] [(u0,.cells [.zi Ae])] []) :=
 H8 (M:=[.cells (JF c)]) (M2:=[.cells [.zi Ae]]) (T:=[]) (T2:=[]) (k:=1) (j:=0) Hd.Aa _ _ _ _ hS rfl rfl rfl rfl rfl P0 P1 rfl rfl (.cons (.cells (.pl (Ro.pl c))) .nil) (.cons (.cells (.pl (A3 rfl rfl))) .nil) (.cons (.ptr (by decide)) (.cons (.pl (AE.Ks list)) (.cons (.pl rfl) (.cons (.fn (.cons (.ptr (by decide)) .nil) (.pl rfl)) .nil)))) (.pl rfl) (λe he=>by simp only[List.mem_singleton] at he;subst he;exact(.arg (.here .ptr)))
def Ma{c:Ck}{list:(List Nd)}{depth:Int}{yR:Bool}{Ae:Int}(h:EI  c list depth=some (yR,Ae)):Sound P (G mx) (.call 55 [.ptr 0 0,.sl .lost list.length (Bi list),.zi depth,.fn (.func 144) [.ptr 0 0] []] ⟨[(0,.cells (JF c))],1,[],0⟩ (.ret (.zb yR)) ⟨[(0,.cells [.zi Ae])],1,[],0⟩):=by
 unfold EI at h;refine BY Hd.mixed (Au Tryz.func55 b55 ?_);revert h;refine RB (λQ v=>QD P (G mx) Tryz.f55 1 ⟨[(0,.cells (JF c))],1,[],0⟩ Q (.zb v.1) ⟨[(0,.cells [.zi v.2])],1,[],0⟩) (λi0 (E9:Int) (j0:List Value)=>fr 23 [(2,.zi depth),(3,.fn (.func 144) [.ptr 0 0] []),(11,.sl .lost list.length (Bi list)),(12,.zi ((list.length:Nat):Int)),(13,.zi ((i0:Nat):Int))] [8,14,20,21] j0) (λ(E9:Int)=>⟨[(0,.cells [.zi E9])],1,[],0⟩) (λ(E9:Int) (jx:List Value)=>fr 23 [] [8,14,20,21] jx) (λ(E9:Int)=>⟨[(0,.cells [.zi E9])],1,[],0⟩) [bF] (Hb [] 0 (sb B55 52) [.code (sb B55 7)] (Ac 300 []) (by kernel_rfl)) ?_ ?_ ?_ (λv h=>by cases h;exact .outer .body);rintro i0 E9 j0 hge hq;exact Dx (Ac 300 [pb (fA hge)]) (by kernel_rfl) (hq (js 4 j0 [(1,bF)]));rintro i0 e0 E9 j0 r QN PS P6 k;show Gh  depth i0 e0 E9=some r->_;unfold Gh;refine As ?_;rintro⟨Es,Bm⟩ Cg;dsimp only;let o1:List (PC P (G mx)):=[pb (WD PS),IR (KA .lost QN),Af (K7 (PE Cg) 0)];refine Ag (λhv=>?_) λhv=>?_;subst hv;rintro⟨⟩;exact Iw Hd.Aa [fq (AE.Ks list)] [none] (Ac 300 (o1++[pi P6])) (by kernel_rfl) (k [(jv j0 0),bT,bT,bF]);subst hv;rintro⟨⟩;exact Aw Hd.Aa _ _ [] [none] (Ac 300 o1) (by kernel_rfl) (.Ge k);rintro OI qA;rintro⟨⟩;exact Aw Hd.Aa _ _ [] [none] (Ip 300 []) (by kernel_rfl) .body
def aIN:Code:=AY Tryz.f103
def aKB:Tryz.f103.body=some aIN:=by kernel_rfl
def DK(c:Ck)(n:Nd)(depth:Int):Option (Bool×Int):=(Cw c n depth).bind λ(Es,Bm)=>cond Es ((B0 n (⟨0,ByteArray.empty,ByteArray.empty,0,0,0,0,(⟨0,[]⟩:Fn),[],0⟩:Nd)).bind λy2=>cond y2 (cond (Dh n.kind 7) (cond (Ev 0 ((n.kids.length:Nat):Int)) ((EI (⟨Bm⟩:Ck) n.kids (BF depth 1)).bind λ(LV,E5)=>some (LV,E5)) (some (false,Bm))) (cond (Dh ((n.kids.length:Nat):Int) 1) ((n.kids[0]?).bind λx4=>(G6 (⟨Bm⟩:Ck) x4 (BF depth 1)).bind λ(SC,H3)=>some (SC,H3)) (some (false,Bm)))) (some (false,Bm))) (some (false,Bm))
def Qa{c:Ck}{n:Nd}{depth:Int}{yR:Bool}{Ae:Int}(hS:Sound P (G mx) (.call 103 [.ptr 0 0,.agg (CW n),.zi depth] ⟨[(0,.cells (JF c))],1,[],0⟩ (.ret (.zb yR)) ⟨[(0,.cells [.zi Ae])],1,[],0⟩))(u0:Nat)(P0:([u0]:List Nat).Nodup:=by decide)(P1:([]:List Nat).Nodup:=by decide):Cd.ok P (G mx) (.Fa 103 [.ptr u0 0,.agg (CW n),.zi depth] (.ret (.zb yR)) [(u0,.cells (JF c))] [] [(u0,.cells [.zi Ae])] []) :=
 H8 (M:=[.cells (JF c)]) (M2:=[.cells [.zi Ae]]) (T:=[]) (T2:=[]) (k:=1) (j:=0) Hd.Aa _ _ _ _ hS rfl rfl rfl rfl rfl P0 P1 rfl rfl (.cons (.cells (.pl (Ro.pl c))) .nil) (.cons (.cells (.pl (A3 rfl rfl))) .nil) (.cons (.ptr (by decide)) (.cons (.pl (AE.Cr n)) (.cons (.pl rfl) .nil))) (.pl rfl) (λe he=>by simp only[List.mem_singleton] at he;subst he;exact(.arg (.here .ptr)))
def Oj{c:Ck}{n:Nd}{depth:Int}{yR:Bool}{Ae:Int}(h:DK  c n depth=some (yR,Ae)):Sound P (G mx) (.call 103 [.ptr 0 0,.agg (CW n),.zi depth] ⟨[(0,.cells (JF c))],1,[],0⟩ (.ret (.zb yR)) ⟨[(0,.cells [.zi Ae])],1,[],0⟩):=by
 unfold DK at h;refine BY Hd.mixed (Au Tryz.func103 aKB ?_);revert h;refine As ?_;rintro⟨Es,Bm⟩ Cg;dsimp only;let o1:List (PC P (G mx)):=[Af (Fq (Em Cg) 0)];refine Ag (λhv=>?_) λhv=>?_;subst hv;refine As λy2 DZ=>?_;let o2:List (PC P (G mx)):=o1++[I0 (.r (.g (.r (.r (.r (.r (.r (.r (.r (.r (.z (.z (.r .nil))))))))))) .nil)) (BX DZ)];refine Ag (λhv=>?_) λhv=>?_;subst hv;refine Ag (λA2=>?_) λA2=>?_;refine Ag (λhb2=>?_) λhb2=>?_;refine As ?_;rintro⟨LV,E5⟩ Fo;dsimp only;rintro⟨⟩;exact Aw Hd.Aa _ _ [] [none] (Ac 300 (o2++[pb A2,pb hb2,pk,Af (NA (Ma Fo) 0)])) (by kernel_rfl) .body;rintro⟨⟩;exact Aw Hd.Aa _ _ [] [none] (Ac 300 (o2++[pb A2,pb hb2])) (by kernel_rfl) .body;refine Ag (λhb3=>?_) λhb3=>?_;refine As λx4 hx4=>?_;refine As ?_;rintro⟨SC,H3⟩ Ka;dsimp only;rintro⟨⟩;exact Aw Hd.Aa _ _ [] [none] (Ac 300 (o2++[pb A2,pb hb3,IR (KA .lost hx4),pk,Af (Bj (LB Ka) 0)])) (by kernel_rfl) .body;rintro⟨⟩;exact Aw Hd.Aa _ _ [] [none] (Ac 300 (o2++[pb A2,pb hb3])) (by kernel_rfl) .body;subst hv;rintro⟨⟩;exact Aw Hd.Aa _ _ [] [none] (Ac 300 o2) (by kernel_rfl) .body;subst hv;rintro⟨⟩;exact Aw Hd.Aa _ _ [] [none] (Ac 300 o1) (by kernel_rfl) .body
def Gg(depth:Int)(i0:Nat)(e0:Nd)(E9:Int):Option (Lp Int Int (Bool×Int)):=(DK (⟨E9⟩:Ck) e0 depth).bind λ(Es,Bm)=>cond Es (some (.nx Bm)) (some (.rt (false,Bm)))
def EH(c:Ck)(list:(List Nd))(depth:Int):Option (Bool×Int):=(S6 list.length (CQ (λi y x=>Gg  depth i y x) (λx=>x) (list.drop 0) 0 c.nodes)).bind (L8 (λ(OI:Int)=>some (true,OI)) (λv=>some v))
def Nz{c:Ck}{list:(List Nd)}{depth:Int}{yR:Bool}{Ae:Int}(hS:Sound P (G mx) (.call 55 [.ptr 0 0,.sl .lost list.length (Bi list),.zi depth,.fn (.func 103) [.ptr 0 0] []] ⟨[(0,.cells (JF c))],1,[],0⟩ (.ret (.zb yR)) ⟨[(0,.cells [.zi Ae])],1,[],0⟩))(u0:Nat)(P0:([u0]:List Nat).Nodup:=by decide)(P1:([]:List Nat).Nodup:=by decide):Cd.ok P (G mx) (.Fa 55 [.ptr u0 0,.sl .lost list.length (Bi list),.zi depth,.fn (.func 103) [.ptr u0 0] []] (.ret (.zb yR)) [(u0,.cells (JF c))] [] [(u0,.cells [.zi Ae])] []) :=
 H8 (M:=[.cells (JF c)]) (M2:=[.cells [.zi Ae]]) (T:=[]) (T2:=[]) (k:=1) (j:=0) Hd.Aa _ _ _ _ hS rfl rfl rfl rfl rfl P0 P1 rfl rfl (.cons (.cells (.pl (Ro.pl c))) .nil) (.cons (.cells (.pl (A3 rfl rfl))) .nil) (.cons (.ptr (by decide)) (.cons (.pl (AE.Ks list)) (.cons (.pl rfl) (.cons (.fn (.cons (.ptr (by decide)) .nil) (.pl rfl)) .nil)))) (.pl rfl) (λe he=>by simp only[List.mem_singleton] at he;subst he;exact(.arg (.here .ptr)))
def L9{c:Ck}{list:(List Nd)}{depth:Int}{yR:Bool}{Ae:Int}(h:EH  c list depth=some (yR,Ae)):Sound P (G mx) (.call 55 [.ptr 0 0,.sl .lost list.length (Bi list),.zi depth,.fn (.func 103) [.ptr 0 0] []] ⟨[(0,.cells (JF c))],1,[],0⟩ (.ret (.zb yR)) ⟨[(0,.cells [.zi Ae])],1,[],0⟩):=by
 unfold EH at h;refine BY Hd.mixed (Au Tryz.func55 b55 ?_);revert h;refine RB (λQ v=>QD P (G mx) Tryz.f55 1 ⟨[(0,.cells (JF c))],1,[],0⟩ Q (.zb v.1) ⟨[(0,.cells [.zi v.2])],1,[],0⟩) (λi0 (E9:Int) (j0:List Value)=>fr 23 [(2,.zi depth),(3,.fn (.func 103) [.ptr 0 0] []),(11,.sl .lost list.length (Bi list)),(12,.zi ((list.length:Nat):Int)),(13,.zi ((i0:Nat):Int))] [8,14,20,21] j0) (λ(E9:Int)=>⟨[(0,.cells [.zi E9])],1,[],0⟩) (λ(E9:Int) (jx:List Value)=>fr 23 [] [8,14,20,21] jx) (λ(E9:Int)=>⟨[(0,.cells [.zi E9])],1,[],0⟩) [bF] (Hb [] 0 (sb B55 52) [.code (sb B55 7)] (Ac 300 []) (by kernel_rfl)) ?_ ?_ ?_ (λv h=>by cases h;exact .outer .body);rintro i0 E9 j0 hge hq;exact Dx (Ac 300 [pb (fA hge)]) (by kernel_rfl) (hq (js 4 j0 [(1,bF)]));rintro i0 e0 E9 j0 r QN PS P6 k;show Gg  depth i0 e0 E9=some r->_;unfold Gg;refine As ?_;rintro⟨Es,Bm⟩ Cg;dsimp only;let o1:List (PC P (G mx)):=[pb (WD PS),IR (KA .lost QN),Af (Qa (Oj Cg) 0)];refine Ag (λhv=>?_) λhv=>?_;subst hv;rintro⟨⟩;exact Iw Hd.Aa [fq (AE.Ks list)] [none] (Ac 300 (o1++[pi P6])) (by kernel_rfl) (k [(jv j0 0),bT,bT,bF]);subst hv;rintro⟨⟩;exact Aw Hd.Aa _ _ [] [none] (Ac 300 o1) (by kernel_rfl) (.Ge k);rintro OI qA;rintro⟨⟩;exact Aw Hd.Aa _ _ [] [none] (Ip 300 []) (by kernel_rfl) .body
def B56:Code:=AY Tryz.f56
def b56:Tryz.f56.body=some B56:=by kernel_rfl
def D1(Bm:Int)(i0:Nat)(e0:Nd)(CZ:Int)(C0:Int)(BQ:Int):Option (Lp (Int×Int×Int) (Int×Int×Int) (Bool×Int)):=cond (Ev e0.kind 6) (some (.rt (false,Bm))) (cond (Ev 8 e0.kind) (some (.rt (false,Bm))) (cond (Dh e0.kind 6) (some (.nx ((BF CZ 1),C0,BQ))) (cond (Dh e0.kind 7) (some (.nx (CZ,(BF C0 1),BQ))) (cond (Dh e0.kind 8) (some (.nx (CZ,C0,(BF BQ 1)))) (none)))))
def Ef(c:Ck)(n:Nd)(depth:Int):Option (Bool×Int):=(Cw c n depth).bind λ(Es,Bm)=>cond Es (cond (Dh n.kind 2) ((Ec n.name).bind λy2=>cond y2 ((EP n.unit).bind λy3=>cond y3 (cond (Dh ((n.kids.length:Nat):Int) 0) ((B0 n (⟨0,n.name,n.unit,0,0,0,0,(⟨0,[]⟩:Fn),[],0⟩:Nd)).bind λy4=>some (y4,Bm)) (some (false,Bm))) (some (false,Bm))) (some (false,Bm))) (cond (Dh n.kind 3) ((Ec n.name).bind λy5=>cond y5 ((EP n.unit).bind λy6=>cond y6 (cond (NS 1 n.n) (cond (NS n.n 4) (cond (Dh ((n.kids.length:Nat):Int) 0) ((B0 n (⟨0,n.name,n.unit,n.n,0,0,0,(⟨0,[]⟩:Fn),[],0⟩:Nd)).bind λy7=>some (y7,Bm)) (some (false,Bm))) (some (false,Bm))) (some (false,Bm))) (some (false,Bm))) (some (false,Bm))) (cond (Dh n.kind 4) ((DS n.n).bind λy8=>cond y8 ((Ec n.name).bind λy9=>cond y9 ((B0 n (⟨0,n.name,ByteArray.empty,n.n,0,0,0,(⟨0,[]⟩:Fn),[],0⟩:Nd)).bind λy10=>cond y10 (cond (Dh ((n.kids.length:Nat):Int) 0) (some (false,Bm)) ((ajM n.kids 1 ((n.kids.length:Nat):Int)).bind λl11=>(S6 l11.length (CQ (λi y x=>D1  Bm i y x.1 x.2.1 x.2.2) (λx=>(x.1,x.2.1,x.2.2)) (l11.drop 0) 0 (0,0,0))).bind (L8 (λ((atU,wP,wQ):(Int×Int×Int))=>cond (Dh wQ 1) (cond (Ev 1 wP) (some (false,Bm)) ((n.kids[0]?).bind λx13=>(Fp (⟨Bm⟩:Ck) x13 (BF depth 1)).bind λ(gJ,UC)=>cond gJ ((EH (⟨UC⟩:Ck) l11 (BF depth 1)).bind λ(gK,Re)=>some (gK,Re)) (some (false,UC)))) (some (false,Bm))) (λv=>some v)))) (some (false,Bm))) (some (false,Bm))) (some (false,Bm))) (some (false,Bm))))) (some (false,Bm))
def RL{c:Ck}{n:Nd}{depth:Int}{yR:Bool}{Ae:Int}(hS:Sound P (G mx) (.call 56 [.ptr 0 0,.agg (CW n),.zi depth] ⟨[(0,.cells (JF c))],1,[],0⟩ (.ret (.zb yR)) ⟨[(0,.cells [.zi Ae])],1,[],0⟩))(u0:Nat)(P0:([u0]:List Nat).Nodup:=by decide)(P1:([]:List Nat).Nodup:=by decide):Cd.ok P (G mx) (.Fa 56 [.ptr u0 0,.agg (CW n),.zi depth] (.ret (.zb yR)) [(u0,.cells (JF c))] [] [(u0,.cells [.zi Ae])] []) :=
 H8 (M:=[.cells (JF c)]) (M2:=[.cells [.zi Ae]]) (T:=[]) (T2:=[]) (k:=1) (j:=0) Hd.Aa _ _ _ _ hS rfl rfl rfl rfl rfl P0 P1 rfl rfl (.cons (.cells (.pl (Ro.pl c))) .nil) (.cons (.cells (.pl (A3 rfl rfl))) .nil) (.cons (.ptr (by decide)) (.cons (.pl (AE.Cr n)) (.cons (.pl rfl) .nil))) (.pl rfl) (λe he=>by simp only[List.mem_singleton] at he;subst he;exact(.arg (.here .ptr)))
def PD{c:Ck}{n:Nd}{depth:Int}{yR:Bool}{Ae:Int}(h:Ef  c n depth=some (yR,Ae)):Sound P (G mx) (.call 56 [.ptr 0 0,.agg (CW n),.zi depth] ⟨[(0,.cells (JF c))],1,[],0⟩ (.ret (.zb yR)) ⟨[(0,.cells [.zi Ae])],1,[],0⟩):=by
 unfold Ef at h;refine BY Hd.mixed (Au Tryz.func56 b56 ?_);revert h;refine As ?_;rintro⟨Es,Bm⟩ Cg;dsimp only;let o1:List (PC P (G mx)):=[Af (Fq (Em Cg) 0)];refine Ag (λhv=>?_) λhv=>?_;subst hv;refine Ag (λA2=>?_) λA2=>?_;refine As λy2 DZ=>?_;let o2:List (PC P (G mx)):=o1++[pb A2,AG (Ht DZ)];refine Ag (λhv=>?_) λhv=>?_;subst hv;refine As λy3 Fo=>?_;refine Ag (λhv=>?_) λhv=>?_;subst hv;refine Ag (λhb2=>?_) λhb2=>?_;refine As λy4 J9=>?_;rintro⟨⟩;exact Aw Hd.Aa _ _ [] [none] (Ac 300 (o2++[AG (FU Fo),pb hb2,I0 (.r (.g (.r (.r (.r (.r (.r (.r (.r (.r (.z (.z (.r .nil))))))))))) .nil)) (BX J9)])) (by kernel_rfl) .body;rintro⟨⟩;exact Aw Hd.Aa _ _ [] [none] (Ac 300 (o2++[AG (FU Fo),pb hb2])) (by kernel_rfl) .body;subst hv;rintro⟨⟩;exact Aw Hd.Aa _ _ [] [none] (Ac 300 (o2++[AG (FU Fo)])) (by kernel_rfl) .body;subst hv;rintro⟨⟩;exact Aw Hd.Aa _ _ [] [none] (Ac 300 o2) (by kernel_rfl) .body;let o3:List (PC P (G mx)):=o1++[pb A2];refine Ag (λhb3=>?_) λhb3=>?_;refine As λy5 Ka=>?_;let o4:List (PC P (G mx)):=o3++[pb hb3,AG (Ht Ka)];refine Ag (λhv=>?_) λhv=>?_;subst hv;refine As λy6 L5=>?_;let o5:List (PC P (G mx)):=o4++[AG (FU L5)];refine Ag (λhv=>?_) λhv=>?_;subst hv;refine Ag (λFl=>?_) λFl=>?_;refine Ag (λH9=>?_) λH9=>?_;refine Ag (λI5=>?_) λI5=>?_;refine As λy7 SM=>?_;rintro⟨⟩;exact Aw Hd.Aa _ _ [] [none] (Ac 300 (o5++[pb Fl,pb H9,pb I5,I0 (.r (.g (.r (.r (.r (.r (.r (.r (.r (.r (.z (.z (.r .nil))))))))))) .nil)) (BX SM)])) (by kernel_rfl) .body;rintro⟨⟩;exact Aw Hd.Aa _ _ [] [none] (Ac 300 (o5++[pb Fl,pb H9,pb I5])) (by kernel_rfl) .body;rintro⟨⟩;exact Aw Hd.Aa _ _ [] [none] (Ac 300 (o5++[pb Fl,pb H9])) (by kernel_rfl) .body;rintro⟨⟩;exact Aw Hd.Aa _ _ [] [none] (Ac 300 (o5++[pb Fl])) (by kernel_rfl) .body;subst hv;rintro⟨⟩;exact Aw Hd.Aa _ _ [] [none] (Ac 300 o5) (by kernel_rfl) .body;subst hv;rintro⟨⟩;exact Aw Hd.Aa _ _ [] [none] (Ac 300 o4) (by kernel_rfl) .body;refine Ag (λJi=>?_) λJi=>?_;refine As λy8 OK=>?_;let o6:List (PC P (G mx)):=o3++[pb hb3,pb Ji,AG (G7 OK)];refine Ag (λhv=>?_) λhv=>?_;subst hv;refine As λy9 U6=>?_;let o7:List (PC P (G mx)):=o6++[AG (Ht U6)];refine Ag (λhv=>?_) λhv=>?_;subst hv;refine As λy10 OP=>?_;let o8:List (PC P (G mx)):=o7++[I0 (.r (.g (.r (.r (.r (.r (.r (.r (.r (.r (.z (.z (.r .nil))))))))))) .nil)) (BX OP)];refine Ag (λhv=>?_) λhv=>?_;subst hv;refine Ag (λKv=>?_) λKv=>?_;rintro⟨⟩;exact Aw Hd.Aa _ _ [] [none] (Ac 300 (o8++[pb Kv])) (by kernel_rfl) .body;refine As λl11 aFF=>?_;refine RB (λQ v=>QD P (G mx) Tryz.f56 1 ⟨[(0,.cells (JF c))],1,[],0⟩ Q (.zb v.1) ⟨[(0,.cells [.zi v.2])],1,[],0⟩) (λi0 ((CZ,C0,BQ):(Int×Int×Int)) (j0:List Value)=>fr 158 [(0,.ptr 0 0),(2,.zi depth),(4,.ptr 1 0),(7,.ptr 2 0),(110,.sl .lost l11.length (Bi l11)),(111,.zi ((l11.length:Nat):Int)),(112,.zi ((i0:Nat):Int))] [6,13,14,17,18,21,22,25,26,27,31,32,33,40,41,42,43,46,47,50,51,52,55,56,57,60,61,62,66,67,68,77,78,79,80,83,84,85,88,89,90,91,98,99,100,101,105,106,113,118,119,122,123,133,134,137,138,146,147,156,157] j0) (λ((CZ,C0,BQ):(Int×Int×Int))=>⟨[(2,.cells [.zi 0,.zi 0,.zi 0,.zi 0,.zi 0,.zi 0,.zi CZ,.zi C0,.zi BQ]),(1,.cells (CW n)),(0,.cells [.zi Bm])],3,[],0⟩) (λ((CZ,C0,BQ):(Int×Int×Int)) (jx:List Value)=>fr 158 [(0,.ptr 0 0),(2,.zi depth),(4,.ptr 1 0),(7,.ptr 2 0)] [6,13,14,17,18,21,22,25,26,27,31,32,33,40,41,42,43,46,47,50,51,52,55,56,57,60,61,62,66,67,68,77,78,79,80,83,84,85,88,89,90,91,98,99,100,101,105,106,113,118,119,122,123,133,134,137,138,146,147,156,157] jx) (λ((CZ,C0,BQ):(Int×Int×Int))=>⟨[(2,.cells [.zi 0,.zi 0,.zi 0,.zi 0,.zi 0,.zi 0,.zi CZ,.zi C0,.zi BQ]),(1,.cells (CW n)),(0,.cells [.zi Bm])],3,[],0⟩) [bF,bT,bF,bF,bF,undef,undef,undef,undef,undef,undef,undef,undef,undef,undef,bF,bF,undef,undef,undef,undef,undef,undef,undef,undef,undef,undef,undef,undef,undef,undef,undef,undef,bT,bT,bT,bF,bF,bT,bF,bF,bF,bT,bF,bF,bF,bF,bF] (Hb [] 1 (sb B56 241588) [.code (sb B56 30199),.iZ 0,.code (sb B56 15)] (Ac 300 (o8++[pb Kv,OV (wA aFF)])) (by kernel_rfl)) ?_ ?_ ?_ (λv h=>by cases h;exact .outer .body);rintro i0 ⟨CZ,C0,BQ⟩ j0 hge hq;exact Dx (Ac 300 [pb (fA hge)]) (by kernel_rfl) (hq (js 61 j0 [(48,bF)]));rintro i0 e0 ⟨CZ,C0,BQ⟩ j0 r QN PS P6 k;show D1  Bm i0 e0 CZ C0 BQ=some r->_;unfold D1;let o9:List (PC P (G mx)):=[pb (WD PS),IR (KA .lost QN)];refine Ag (λJL=>?_) λJL=>?_;rintro⟨⟩;exact Aw Hd.Aa _ _ [] [none] (Ac 300 (o9++[pb JL])) (by kernel_rfl) (.Ge k);refine Ag (λGO=>?_) λGO=>?_;rintro⟨⟩;exact Aw Hd.Aa _ _ [] [none] (Ac 300 (o9++[pb JL,pb GO])) (by kernel_rfl) (.Ge k);refine Ag (λI8=>?_) λI8=>?_;rintro⟨⟩;exact Iw Hd.Aa [fq (AE.Ks l11)] [none,bp (AE.pl n),none] (Ac 300 (o9++[pb JL,pb GO,IR (t:=116) (a:=.ptr 2 0) (b:=.zi e0.kind) (v:=.ptr 2 6) (by rw[FQ I8];kernel_rfl),pk,IR (t:=116) (a:=.ptr 2 0) (b:=.zi e0.kind) (v:=.ptr 2 6) (by rw[FQ I8];kernel_rfl),pi P6])) (by kernel_rfl) (k (js 61 j0 [(48,bT),(49,bF),(50,bF),(51,bF),(52,bF)]));refine Ag (λJG=>?_) λJG=>?_;rintro⟨⟩;exact Iw Hd.Aa [fq (AE.Ks l11)] [none,bp (AE.pl n),none] (Ac 300 (o9++[pb JL,pb GO,IR (t:=116) (a:=.ptr 2 0) (b:=.zi e0.kind) (v:=.ptr 2 7) (by rw[FQ JG];kernel_rfl),pk,IR (t:=116) (a:=.ptr 2 0) (b:=.zi e0.kind) (v:=.ptr 2 7) (by rw[FQ JG];kernel_rfl),pi P6])) (by kernel_rfl) (k (js 61 j0 [(48,bT),(49,bF),(50,bF),(51,bF),(52,bF)]));refine Ag (λJH=>?_) λJH=>?_;rintro⟨⟩;exact Iw Hd.Aa [fq (AE.Ks l11)] [none,bp (AE.pl n),none] (Ac 300 (o9++[pb JL,pb GO,IR (t:=116) (a:=.ptr 2 0) (b:=.zi e0.kind) (v:=.ptr 2 8) (by rw[FQ JH];kernel_rfl),pk,IR (t:=116) (a:=.ptr 2 0) (b:=.zi e0.kind) (v:=.ptr 2 8) (by rw[FQ JH];kernel_rfl),pi P6])) (by kernel_rfl) (k (js 61 j0 [(48,bT),(49,bF),(50,bF),(51,bF),(52,bF)]));exact YV;rintro⟨atU,wP,wQ⟩ avJ;dsimp only;refine Ag (λKU=>?_) λKU=>?_;refine Ag (λLf=>?_) λLf=>?_;rintro⟨⟩;exact Aw Hd.Aa _ _ [] [none] (Ip 300 [pk,pn KU,pk,pb Lf]) (by kernel_rfl) .body;refine As λx13 azC=>?_;refine As ?_;rintro⟨gJ,UC⟩ VO;dsimp only;let uV:List (PC P (G mx)):=[pk,pn KU,pk,pb Lf,IR (KA .lost azC),pk,Af (RJ (PB VO) 0)];refine Ag (λhv=>?_) λhv=>?_;subst hv;refine As ?_;rintro⟨gK,Re⟩ YD;dsimp only;rintro⟨⟩;exact Aw Hd.Aa _ _ [] [none] (Ip 300 (uV++[OV (wA aFF),pk,Af (Nz (L9 YD) 0)])) (by kernel_rfl) .body;subst hv;rintro⟨⟩;exact Aw Hd.Aa _ _ [] [none] (Ip 300 uV) (by kernel_rfl) .body;rintro⟨⟩;exact Aw Hd.Aa _ _ [] [none] (Ip 300 [pk,pn KU]) (by kernel_rfl) .body;subst hv;rintro⟨⟩;exact Aw Hd.Aa _ _ [] [none] (Ac 300 o8) (by kernel_rfl) .body;subst hv;rintro⟨⟩;exact Aw Hd.Aa _ _ [] [none] (Ac 300 o7) (by kernel_rfl) .body;subst hv;rintro⟨⟩;exact Aw Hd.Aa _ _ [] [none] (Ac 300 o6) (by kernel_rfl) .body;rintro⟨⟩;exact Aw Hd.Aa _ _ [] [none] (Ac 300 (o3++[pb hb3,pb Ji])) (by kernel_rfl) .body;subst hv;rintro⟨⟩;exact Aw Hd.Aa _ _ [] [none] (Ac 300 o1) (by kernel_rfl) .body
def GS(depth:Int)(i0:Nat)(e0:Nd)(E9:Int):Option (Lp Int Int (Bool×Int)):=(Ef (⟨E9⟩:Ck) e0 depth).bind λ(Es,Bm)=>cond Es (some (.nx Bm)) (some (.rt (false,Bm)))
def Ff(c:Ck)(list:(List Nd))(depth:Int):Option (Bool×Int):=(S6 list.length (CQ (λi y x=>GS  depth i y x) (λx=>x) (list.drop 0) 0 c.nodes)).bind (L8 (λ(OI:Int)=>some (true,OI)) (λv=>some v))
def OR{c:Ck}{list:(List Nd)}{depth:Int}{yR:Bool}{Ae:Int}(hS:Sound P (G mx) (.call 55 [.ptr 0 0,.sl .lost list.length (Bi list),.zi depth,.fn (.func 56) [.ptr 0 0] []] ⟨[(0,.cells (JF c))],1,[],0⟩ (.ret (.zb yR)) ⟨[(0,.cells [.zi Ae])],1,[],0⟩))(u0:Nat)(P0:([u0]:List Nat).Nodup:=by decide)(P1:([]:List Nat).Nodup:=by decide):Cd.ok P (G mx) (.Fa 55 [.ptr u0 0,.sl .lost list.length (Bi list),.zi depth,.fn (.func 56) [.ptr u0 0] []] (.ret (.zb yR)) [(u0,.cells (JF c))] [] [(u0,.cells [.zi Ae])] []) :=
 H8 (M:=[.cells (JF c)]) (M2:=[.cells [.zi Ae]]) (T:=[]) (T2:=[]) (k:=1) (j:=0) Hd.Aa _ _ _ _ hS rfl rfl rfl rfl rfl P0 P1 rfl rfl (.cons (.cells (.pl (Ro.pl c))) .nil) (.cons (.cells (.pl (A3 rfl rfl))) .nil) (.cons (.ptr (by decide)) (.cons (.pl (AE.Ks list)) (.cons (.pl rfl) (.cons (.fn (.cons (.ptr (by decide)) .nil) (.pl rfl)) .nil)))) (.pl rfl) (λe he=>by simp only[List.mem_singleton] at he;subst he;exact(.arg (.here .ptr)))
def M8{c:Ck}{list:(List Nd)}{depth:Int}{yR:Bool}{Ae:Int}(h:Ff  c list depth=some (yR,Ae)):Sound P (G mx) (.call 55 [.ptr 0 0,.sl .lost list.length (Bi list),.zi depth,.fn (.func 56) [.ptr 0 0] []] ⟨[(0,.cells (JF c))],1,[],0⟩ (.ret (.zb yR)) ⟨[(0,.cells [.zi Ae])],1,[],0⟩):=by
 unfold Ff at h;refine BY Hd.mixed (Au Tryz.func55 b55 ?_);revert h;refine RB (λQ v=>QD P (G mx) Tryz.f55 1 ⟨[(0,.cells (JF c))],1,[],0⟩ Q (.zb v.1) ⟨[(0,.cells [.zi v.2])],1,[],0⟩) (λi0 (E9:Int) (j0:List Value)=>fr 23 [(2,.zi depth),(3,.fn (.func 56) [.ptr 0 0] []),(11,.sl .lost list.length (Bi list)),(12,.zi ((list.length:Nat):Int)),(13,.zi ((i0:Nat):Int))] [8,14,20,21] j0) (λ(E9:Int)=>⟨[(0,.cells [.zi E9])],1,[],0⟩) (λ(E9:Int) (jx:List Value)=>fr 23 [] [8,14,20,21] jx) (λ(E9:Int)=>⟨[(0,.cells [.zi E9])],1,[],0⟩) [bF] (Hb [] 0 (sb B55 52) [.code (sb B55 7)] (Ac 300 []) (by kernel_rfl)) ?_ ?_ ?_ (λv h=>by cases h;exact .outer .body);rintro i0 E9 j0 hge hq;exact Dx (Ac 300 [pb (fA hge)]) (by kernel_rfl) (hq (js 4 j0 [(1,bF)]));rintro i0 e0 E9 j0 r QN PS P6 k;show GS  depth i0 e0 E9=some r->_;unfold GS;refine As ?_;rintro⟨Es,Bm⟩ Cg;dsimp only;let o1:List (PC P (G mx)):=[pb (WD PS),IR (KA .lost QN),Af (RL (PD Cg) 0)];refine Ag (λhv=>?_) λhv=>?_;subst hv;rintro⟨⟩;exact Iw Hd.Aa [fq (AE.Ks list)] [none] (Ac 300 (o1++[pi P6])) (by kernel_rfl) (k [(jv j0 0),bT,bT,bF]);subst hv;rintro⟨⟩;exact Aw Hd.Aa _ _ [] [none] (Ac 300 o1) (by kernel_rfl) (.Ge k);rintro OI qA;rintro⟨⟩;exact Aw Hd.Aa _ _ [] [none] (Ip 300 []) (by kernel_rfl) .body
def B22:Code:=AY Tryz.f22
def b22:Tryz.f22.body=some B22:=by kernel_rfl
def El(n:Nd):Option Bool:=cond (Dh n.kind 1) ((Cw (⟨0⟩:Ck) n 1).bind λ(Es,Bm)=>cond Es ((B0 n (⟨0,ByteArray.empty,ByteArray.empty,0,0,0,0,(⟨0,[]⟩:Fn),[],0⟩:Nd)).bind λy2=>cond y2 ((Ff (⟨Bm⟩:Ck) n.kids 2).bind λ(LV,E5)=>some LV) (some false)) (some false)) ((G6 (⟨0⟩:Ck) n 1).bind λ(Wj,JK)=>some Wj)
def Jv{n:Nd}{yR:Bool}(h:El  n=some yR):Pure P (G mx) 22 [.agg (CW n)] (.zb yR):=by
 unfold El at h;refine CN Hd.mixed Hd.Aa (Au Tryz.func22 b22 ?_) (A3 (AE.Cr n) rfl) rfl;revert h;refine Ag (λA2=>?_) λA2=>?_;refine As ?_;rintro⟨Es,Bm⟩ Cg;dsimp only;let o1:List (PC P (G mx)):=[pn A2,Af (Fq (Em Cg) 1)];refine Ag (λhv=>?_) λhv=>?_;subst hv;refine As λy2 DZ=>?_;let o2:List (PC P (G mx)):=o1++[I0 (.r (.g (.r (.r (.r (.r (.r (.r (.r (.r (.z (.z (.r .nil))))))))))) .nil)) (BX DZ)];refine Ag (λhv=>?_) λhv=>?_;subst hv;refine As ?_;rintro⟨LV,E5⟩ Fo;dsimp only;rintro⟨⟩;exact rT (o2++[Af (OR (M8 Fo) 1)]);subst hv;rintro⟨⟩;exact rT o2;subst hv;rintro⟨⟩;exact rT o1;refine As ?_;rintro⟨Wj,JK⟩ J9;dsimp only;rintro⟨⟩;exact rT [pn A2,Af (Bj (LB J9) 1)]
def B25:Code:=AY Tryz.f25
def b25:Tryz.f25.body=some B25:=by kernel_rfl
def J1(Ih:Nd->Option Nd)(i0:Nat)(e0:Nd)(Bh:(List Nd)):Option (Lp (List Nd) (List Nd) Nd):=(Ih e0).bind λy2=>M6 (Bh.length+1) (some (.nx (Bh++[y2])))
def Ml(Ih:Nd->Option Nd)(n:Nd):Option Nd:=(S6 n.kids.length (CQ (λi y x=>J1 Ih  i y x) (λx=>x) (n.kids.drop 0) 0 [])).bind (L8 (λ(Zy:(List Nd))=>some (⟨n.kind,n.name,n.unit,n.n,n.fr,n.to,n.known,n.CO,Zy,0⟩:Nd)) (λv=>some v))
def V4(Ih:Nd->Option Nd)(YB:∀{n:Nd} {yR:Nd},Ih n=some yR->Pure P (G mx) 25 [.agg (CW n)] (.agg (CW yR))){n:Nd}{yR:Nd}(h:Ml Ih n=some yR):Pure P (G mx) 25 [.agg (CW n)] (.agg (CW yR)):=by
 unfold Ml at h;refine CN Hd.mixed Hd.Aa (Au Tryz.func25 b25 ?_) (A3 (AE.Cr n) rfl) (AE.Cr yR);revert h;refine RB (λQ v=>Kz P Tryz.f25 0 Q (.agg (CW v))) (λi0 (Bh:(List Nd)) (j0:List Value)=>fr 27 [(1,.ptr 0 0),(2,.ptr 1 0),(3,.ptr 2 0),(4,.zi ((i0:Nat):Int))] [12] j0) (λ(Bh:(List Nd))=>⟨[(2,.cells [.zi n.kind,.zs n.name,.zs n.unit,.zi n.n,.zi n.fr,.zi n.to,.zi n.known,.zi n.CO.den,.sl .lost n.CO.ps.length (rows IE n.CO.ps),.sl (.row 0 11) Bh.length (Bi Bh),.zi 0]),(1,.cells Tf),(0,.cells (CW n))],3,[(0,Bh.length)],1⟩) (λ(Bh:(List Nd)) (jx:List Value)=>fr 27 [(2,.ptr 1 0),(3,.ptr 2 0)] [12] jx) (λ(Bh:(List Nd))=>⟨[(2,.cells [.zi n.kind,.zs n.name,.zs n.unit,.zi n.n,.zi n.fr,.zi n.to,.zi n.known,.zi n.CO.den,.sl .lost n.CO.ps.length (rows IE n.CO.ps),.sl (.row 0 11) Bh.length (Bi Bh),.zi 0]),(1,.cells Tf),(0,.cells (CW n))],3,[(0,Bh.length)],1⟩) [] (Hb [.b 2 9 11] 0 (sb B25 500) [.code (sb B25 63)] (Ac 300 []) (by kernel_rfl)) ?_ ?_ ?_ (λv h=>by cases h;exact .outer .body);rintro i0 Bh j0 hge hq;exact Dx (Ac 300 [pb (fA hge)]) (by kernel_rfl) (hq [bF]);rintro i0 e0 Bh j0 r QN PS P6 k;show J1 Ih  i0 e0 Bh=some r->_;unfold J1;refine As λy2 DZ=>?_;refine Ly λhl3=>?_;rintro⟨⟩;exact GB (Ac 300 [pb (WD PS),nU,IR (KA .lost QN),AG (YB DZ),Qg (Tv (.row 0 11) Bh [y2] (o:=.full) (n:=1) (ns:=(CW y2)) (AE.wn [y2] (.r (.r (.r (.r (.r (.r (.r (.r (.r (.r (.r .nil)))))))))))) rfl rfl (by simp) (by simpa using hl3)),pi P6]) (by kernel_rfl) (k [bT])
 rintro Zy aAF;rintro⟨⟩;exact Ax (v:=.agg [.zi n.kind,.zs n.name,.zs n.unit,.zi n.n,.zi n.fr,.zi n.to,.zi n.known,.zi n.CO.den,.sl .lost n.CO.ps.length (rows IE n.CO.ps),.sl (.row 0 11) Zy.length (Bi Zy),.zi 0]) _ _ (Ip 300 []) (by kernel_rfl) .body (.wn (.g (.r (.r (.r (.r (.r (.r (.r (.r (.r (.s rfl (.r .nil))))))))))) .nil) (AE.Cr (⟨n.kind,n.name,n.unit,n.n,n.fr,n.to,n.known,n.CO,Zy,0⟩:Nd)))
def FJ:Nat->Nd->Option Nd
 | 0,_=>none
 | qn+1,n=>Ml (FJ qn) n
def W5:∀qn:Nat,∀{n:Nd} {yR:Nd},FJ qn n=some yR->Pure P (G mx) 25 [.agg (CW n)] (.agg (CW yR)):=by
 intro qn
 induction qn with
 | zero=>exact(λh=>by simp only[FJ] at h;cases h)
 | succ qn ih=>exact(λh=>V4 (FJ qn) ih (by rw[FJ] at h;exact h))
def Mn(n:Nd):Option Nd:=evt (λqn=>FJ qn n)
def Y8{n:Nd}{yR:Nd}(h:Mn n=some yR):Pure P (G mx) 25 [.agg (CW n)] (.agg (CW yR)):=by
 obtain⟨qn,h⟩:=xX h;exact(W5 qn) h
def B32:Code:=AY Tryz.f32
def b32:Tryz.f32.body=some B32:=by kernel_rfl
def K3(op:ByteArray)(a:Nd)(b:Nd):Option Nd:=some (⟨16,op,ByteArray.empty,0,0,0,0,(⟨0,[]⟩:Fn),[a,b],0⟩:Nd)
def Oe{op:ByteArray}{a:Nd}{b:Nd}{yR:Nd}(h:K3  op a b=some yR):Pure P (G mx) 32 [.zs op,.agg (CW a),.agg (CW b)] (.agg (CW yR)):=by
 unfold K3 at h;refine CN Hd.mixed Hd.Aa (Au Tryz.func32 b32 ?_) (A3 rfl (A3 (AE.Cr a) (A3 (AE.Cr b) rfl))) (AE.Cr yR);revert h;rintro⟨⟩;exact Ax (v:=.agg [.zi 16,.zs op,.zs ByteArray.empty,.zi 0,.zi 0,.zi 0,.zi 0,.zi 0,.sl .full 0 [],.sl .full 2 (ndL a (ndL b [])),.zi 0]) _ _ (Ac 300 []) (by kernel_rfl) .body (.wn (.g (.r (.r (.r (.r (.r (.r (.r (.r (.z (.d (.r (.r (.r (.r (.r (.r (.r (.r (.r (.r (.r (.r (.r (.r (.r (.r (.r (.r (.r (.r (.r (.r .nil)))))))))))))))))))))) (AE.eq [a,b]).symm (.r .nil))))))))))) .nil) (AE.Cr (⟨16,op,ByteArray.empty,0,0,0,0,(⟨0,[]⟩:Fn),[a,b],0⟩:Nd)))
def B33:Code:=AY Tryz.f33
def b33:Tryz.f33.body=some B33:=by kernel_rfl
def JU(name:ByteArray):Option Nd:=some (⟨12,name,ByteArray.empty,0,0,0,0,(⟨0,[]⟩:Fn),[],0⟩:Nd)
def Lw{name:ByteArray}{yR:Nd}(h:JU  name=some yR):Pure P (G mx) 33 [.zs name] (.agg (CW yR)):=by
 unfold JU at h;refine CN Hd.mixed Hd.Aa (Au Tryz.func33 b33 ?_) (A3 rfl rfl) (AE.Cr yR);revert h;rintro⟨⟩;exact Ax (v:=.agg [.zi 12,.zs name,.zs ByteArray.empty,.zi 0,.zi 0,.zi 0,.zi 0,.zi 0,.sl .full 0 [],.sl .full 0 [],.zi 0]) _ _ (Ac 300 []) (by kernel_rfl) .body (.wn (.g (.r (.r (.r (.r (.r (.r (.r (.r (.z (.z (.r .nil))))))))))) .nil) (AE.Cr (⟨12,name,ByteArray.empty,0,0,0,0,(⟨0,[]⟩:Fn),[],0⟩:Nd)))
def B10:Code:=AY Tryz.f10
def b10:Tryz.f10.body=some B10:=by kernel_rfl
def Kb  :Option Bool:=(Dl EY).bind λ(Es,Bm)=>(JU aS).bind λy2=>(K3 Kf (⟨11,ByteArray.empty,EG,3,0,0,0,(⟨0,[]⟩:Fn),[],0⟩:Nd) y2).bind λy3=>(JU bS).bind λy4=>(JU cS).bind λy5=>(K3 GX y4 y5).bind λy6=>(K3 PW y3 (⟨15,ByteArray.empty,ByteArray.empty,0,0,0,0,(⟨0,[]⟩:Fn),[y6],0⟩:Nd)).bind λy7=>(Dl EE).bind λ(ZE,LO)=>(Dl MN).bind λ(y9a,UD)=>(Dl BH).bind λ(Te,IS)=>(CS Eo).bind λ(sC,Qy)=>(CS Av).bind λ(ZC,Vz)=>cond (Ev 0 (BF (BF (BF ((Bm.length:Nat):Int) ((LO.length:Nat):Int)) ((IS.length:Nat):Int)) ((Vz.length:Nat):Int))) (some false) ((Mn Es).bind λy13=>(LI y13 y7).bind λy14=>cond y14 (cond (Dh ((ZE.kids.length:Nat):Int) 2) (cond (B1 ZE.name.data.toList Oy.data.toList) ((ZE.kids[1]?).bind λx15=>cond (Dh x15.n 3) (cond (Dh ((UD.length:Nat):Int) 1) ((UD[0]?).bind λx16=>cond (fV x16 (⟨71,6⟩:Dg)) (cond (Dh Te.CO.den 20) (cond (Dh ((Te.CO.ps.length:Nat):Int) 2) ((Te.CO.ps[1]?).bind λx17=>cond (PK x17 (⟨50000,100000,5⟩:Pc)) (cond (Dh ((Qy.length:Nat):Int) 2) ((Qy[0]?).bind λx18=>cond (Dh x18.AW 16) ((Qy[1]?).bind λx19=>cond (Dh x19.err 72) (cond (Dh x19.AW 22) (cond (Dh ((ZC.kids.length:Nat):Int) 2) ((ZC.kids[1]?).bind λx20=>cond (Dh x20.AW 21) (cond (Dh ((x20.kids.length:Nat):Int) 2) ((x20.kids[0]?).bind λx21=>cond (Dh x21.fr 8766) (cond (Dh x21.to 36525) ((El ZC).bind λy22=>cond y22 ((El y7).bind λy23=>cond y23 ((JU dC).bind λy24=>(El y24).bind λy25=>cond y25 (some false) (some true)) (some false)) (some false)) (some false)) (some false)) (some false)) (some false)) (some false)) (some false)) (some false)) (some false)) (some false)) (some false)) (some false)) (some false)) (some false)) (some false)) (some false)) (some false)) (some false)) (some false))
def Rm{yR:Bool}(h:Kb  =some yR):Pure P (G mx) 10 [] (.zb yR):=by
 unfold Kb at h;refine CN Hd.mixed Hd.Aa (Au Tryz.func10 b10 ?_) rfl rfl;revert h;refine As ?_;rintro⟨Es,Bm⟩ Cg;dsimp only;refine As λy2 DZ=>?_;refine As λy3 Fo=>?_;refine As λy4 J9=>?_;refine As λy5 Ka=>?_;refine As λy6 L5=>?_;refine As λy7 SM=>?_;refine As ?_;rintro⟨ZE,LO⟩ OK;dsimp only;refine As ?_;rintro⟨y9a,UD⟩ U6;dsimp only;refine As ?_;rintro⟨Te,IS⟩ OP;dsimp only;refine As ?_;rintro⟨sC,Qy⟩ YC;dsimp only;refine As ?_;rintro⟨ZC,Vz⟩ eK;dsimp only;let o1:List (PC P (G mx)):=[AG (G5 Cg),AG (Lw DZ),I0 (.r (.g (.r (.r (.r (.r (.r (.r (.r (.r (.z (.z (.r .nil))))))))))) (.r .nil))) (Oe Fo),AG (Lw J9),AG (Lw Ka),AG (Oe L5),I0 (args:=[.zs PW,.agg (CW y3),.agg [.zi 15,.zs ByteArray.empty,.zs ByteArray.empty,.zi 0,.zi 0,.zi 0,.zi 0,.zi 0,.sl .full 0 [],.sl .full 1 (CW y6),.zi 0]]) (.r (.r (.g (.r (.r (.r (.r (.r (.r (.r (.r (.z (.d (.r (.r (.r (.r (.r (.r (.r (.r (.r (.r (.r .nil))))))))))) (AE.eq [y6]).symm (.r .nil))))))))))) .nil))) (Oe SM),AG (G5 OK),AG (G5 U6),AG (G5 OP),AG (Ju YC),AG (Ju eK),pk,pk,pk];refine Ag (λA2=>?_) λA2=>?_;rintro⟨⟩;exact rT (o1++[pb A2]);refine As λy13 T1=>?_;refine As λy14 VO=>?_;let o2:List (PC P (G mx)):=o1++[pb A2,AG (Y8 T1),AG (TD VO)];refine Ag (λhv=>?_) λhv=>?_;subst hv;refine Ag (λhb2=>?_) λhb2=>?_;let o3:List (PC P (G mx)):=o2++[pn hb2];refine Ag (λhb3=>?_) λhb3=>?_;refine As λx15 azD=>?_;let o4:List (PC P (G mx)):=o3++[pn hb3,IR (KA .lost azD)];refine Ag (λFl=>?_) λFl=>?_;let o5:List (PC P (G mx)):=o4++[pn Fl];refine Ag (λH9=>?_) λH9=>?_;refine As λx16 aOB=>?_;let o6:List (PC P (G mx)):=o5++[pn H9,IR (kC .lost aOB)];refine Ag (λI5=>?_) λI5=>?_;let o7:List (PC P (G mx)):=o6++[Qf (avP I5 (.tmp 95) (.tmp 96))];refine Ag (λJi=>?_) λJi=>?_;let o8:List (PC P (G mx)):=o7++[pn Ji];refine Ag (λKv=>?_) λKv=>?_;refine As λx17 azE=>?_;let o9:List (PC P (G mx)):=o8++[pn Kv,IR (WW .lost azE)];refine Ag (λJL=>?_) λJL=>?_;let uV:List (PC P (G mx)):=o9++[Qf (bD JL (.tmp 115) (.tmp 116))];refine Ag (λGO=>?_) λGO=>?_;refine As λx18 azF=>?_;let o11:List (PC P (G mx)):=uV++[pn GO,IR (kC .lost azF)];refine Ag (λI8=>?_) λI8=>?_;refine As λx19 aoM=>?_;let o12:List (PC P (G mx)):=o11++[pn I8,IR (kC .lost aoM)];refine Ag (λJG=>?_) λJG=>?_;let qN:List (PC P (G mx)):=o12++[pn JG,IR (kC .lost aoM)];refine Ag (λJH=>?_) λJH=>?_;refine Ag (λKU=>?_) λKU=>?_;refine As λx20 aoN=>?_;let o14:List (PC P (G mx)):=qN++[pn JH,pb KU,IR (KA .lost aoN)];refine Ag (λLf=>?_) λLf=>?_;let o15:List (PC P (G mx)):=o14++[pb Lf,IR (KA .lost aoN)];refine Ag (λN8=>?_) λN8=>?_;refine As λx21 aoO=>?_;let zG:List (PC P (G mx)):=o15++[pb N8,IR (KA .lost aoN),IR (KA .lost aoO)];refine Ag (λU0=>?_) λU0=>?_;let o17:List (PC P (G mx)):=zG++[pb U0,IR (KA .lost aoN),IR (KA .lost aoO)];refine Ag (λWV=>?_) λWV=>?_;refine As λy22 eM=>?_;let o18:List (PC P (G mx)):=o17++[pb WV,AG (Jv eM)];refine Ag (λhv=>?_) λhv=>?_;subst hv;refine As λy23 kA=>?_;refine Ag (λhv=>?_) λhv=>?_;subst hv;refine As λy24 eO=>?_;refine As λy25 afL=>?_;let o19:List (PC P (G mx)):=o18++[AG (Jv kA),AG (Lw eO),AG (Jv afL)];refine Ag (λhv=>?_) λhv=>?_;subst hv;rintro⟨⟩;exact rT o19;subst hv;rintro⟨⟩;exact rT o19;subst hv;rintro⟨⟩;exact rT (o18++[AG (Jv kA)]);subst hv;rintro⟨⟩;exact rT o18;rintro⟨⟩;exact rT (o17++[pb WV]);rintro⟨⟩;exact rT (zG++[pb U0]);rintro⟨⟩;exact rT (o15++[pb N8]);rintro⟨⟩;exact rT (o14++[pb Lf]);rintro⟨⟩;exact rT (qN++[pn JH,pb KU]);rintro⟨⟩;exact rT (qN++[pn JH]);rintro⟨⟩;exact rT (o12++[pn JG]);rintro⟨⟩;exact rT (o11++[pn I8]);rintro⟨⟩;exact rT (uV++[pn GO]);rintro⟨⟩;exact rT (o9++[Qf (bD JL (.tmp 115) (.tmp 116))]);rintro⟨⟩;exact rT (o8++[pn Kv]);rintro⟨⟩;exact rT (o7++[pn Ji]);rintro⟨⟩;exact rT (o6++[Qf (avP I5 (.tmp 95) (.tmp 96))]);rintro⟨⟩;exact rT (o5++[pn H9]);rintro⟨⟩;exact rT (o4++[pn Fl]);rintro⟨⟩;exact rT (o3++[pn hb3]);rintro⟨⟩;exact rT (o2++[pn hb2]);subst hv;rintro⟨⟩;exact rT o2
def B73:Code:=AY Tryz.f73
def b73:Tryz.f73.body=some B73:=by kernel_rfl
def KE(c:Int):Option Bool:=cond (Dh c 32) (some true) (cond (Dh c 9) (some true) (cond (Dh c 10) (some true) (cond (Dh c 13) (some true) (some false))))
def V3{c:Int}{yR:Bool}(h:KE  c=some yR):Pure P (G mx) 73 [.sc (.int .u8 c)] (.zb yR):=by
 unfold KE at h;refine CN Hd.mixed Hd.Aa (Au Tryz.func73 b73 ?_) (A3 rfl rfl) rfl;revert h;refine Ag (λA2=>?_) λA2=>?_;rintro⟨⟩;exact rT [pb A2];refine Ag (λhb2=>?_) λhb2=>?_;rintro⟨⟩;exact rT [pb A2,pb hb2];refine Ag (λhb3=>?_) λhb3=>?_;rintro⟨⟩;exact rT [pb A2,pb hb2,pb hb3];refine Ag (λFl=>?_) λFl=>?_;rintro⟨⟩;exact rT [pb A2,pb hb2,pb hb3,pb Fl];rintro⟨⟩;exact rT [pb A2,pb hb2,pb hb3,pb Fl]
def B74:Code:=AY Tryz.f74
def b74:Tryz.f74.body=some B74:=by kernel_rfl
def IF(s:ByteArray)(at_:Int)(t:ByteArray):Option Bool:=cond (NS ((t.data.toList.length:Nat):Int) (LS ((s.data.toList.length:Nat):Int) at_)) ((Qs s at_ (BF at_ ((t.data.toList.length:Nat):Int))).bind λs1=>cond (B1 s1.data.toList t.data.toList) (some true) (some false)) (some false)
def JA{s:ByteArray}{at_:Int}{t:ByteArray}{yR:Bool}(h:IF  s at_ t=some yR):Pure P (G mx) 74 [.zs s,.zi at_,.zs t] (.zb yR):=by
 unfold IF at h;refine CN Hd.mixed Hd.Aa (Au Tryz.func74 b74 ?_) (A3 rfl (A3 rfl (A3 rfl rfl))) rfl;revert h;refine Ag (λA2=>?_) λA2=>?_;refine As λs1 RU=>?_;refine Ag (λhb2=>?_) λhb2=>?_;rintro⟨⟩;exact rT [pk,pb A2,pk,OV (II RU),pb hb2];rintro⟨⟩;exact rT [pk,pb A2,pk,OV (II RU),pb hb2];rintro⟨⟩;exact rT [pk,pb A2]
def B41:Code:=AY Tryz.f41
def b41:Tryz.f41.body=some B41:=by kernel_rfl
def Ep(s:ByteArray)(LR:Int):Option (Lp Int Int Int):=cond (Ev LR ((s.data.toList.length:Nat):Int)) ((Ha s.data.toList LR).bind λc4=>cond (Dh ((c4.toNat:Nat):Int) 10) (some (.ex LR)) (some (.nx (BF LR 1)))) (some (.ex LR))
def Du(s:ByteArray)(LR:Int):Option (Lp Int Int Int):=cond (Ev LR ((s.data.toList.length:Nat):Int)) ((Ha s.data.toList LR).bind λc1=>(KE ((c1.toNat:Nat):Int)).bind λy2=>cond y2 (some (.nx (BF LR 1))) ((IF s LR qZ).bind λy3=>cond y3 ((L2 (λx=>Ep  s x) LR).bind (L8 (λ(auI:Int)=>some (.nx auI)) (λv=>some (.rt v)))) (some (.rt LR)))) (some (.ex LR))
def Kh(s:ByteArray)(at_:Int):Option Int:=(L2 (λx=>Du  s x) at_).bind (L8 (λ(auJ:Int)=>some auJ) (λv=>some v))
def Rt{s:ByteArray}{at_:Int}{yR:Int}(h:Kh  s at_=some yR):Pure P (G mx) 41 [.zs s,.zi at_] (.zi yR):=by
 unfold Kh at h;refine CN Hd.mixed Hd.Aa (Au Tryz.func41 b41 ?_) (A3 rfl (A3 rfl rfl)) rfl;revert h;refine Pn (λQ v=>Kz P Tryz.f41 0 Q (.zi v)) (λ(LR:Int) (j0:List Value)=>fr 33 [(0,.zs s),(1,.zi LR)] [8,12,17,18,23,24,28,29] j0) (λ(LR:Int)=>⟨[],0,[],0⟩) (λ(LR:Int) (jx:List Value)=>fr 33 [(1,.zi LR)] [8,12,17,18,23,24,28,29] jx) (λ(LR:Int)=>⟨[],0,[],0⟩) [] (Hb [] 0 (sb B41 24) [.code (sb B41 7)] (Ac 300 []) (by kernel_rfl)) ?_ ?_ (λv h=>by cases h;exact .outer .body);rintro LR j0 r k;show Du  s LR=some r->_;unfold Du;refine Ag (λA2=>?_) λA2=>?_;refine As λc1 hc1=>?_;refine As λy2 DZ=>?_;let o1:List (PC P (G mx)):=[pb A2,Sn (Jt hc1),AG (V3 DZ)];refine Ag (λhv=>?_) λhv=>?_;subst hv;rintro⟨⟩;exact GB (Ac 300 (o1++[pk])) (by kernel_rfl) (k (js 8 j0 [(0,bT),(1,bT)]));subst hv;refine As λy3 Fo=>?_;refine Ag (λhv=>?_) λhv=>?_;subst hv;refine Pn (λQ v=>Kz P Tryz.f41 0 Q (.zi v)) (λ(LR:Int) (j1:List Value)=>fr 33 [(0,.zs s),(1,.zi LR)] [8,12,17,18,23,24,28,29] j1) (λ(LR:Int)=>⟨[],0,[],0⟩) (λ(LR:Int) (jx:List Value)=>fr 33 [(0,.zs s),(1,.zi LR)] [8,12,17,18,23,24,28,29] jx) (λ(LR:Int)=>⟨[],0,[],0⟩) (js 8 j0 [(0,bT),(1,bF),(2,bT),(3,bF)]) (Hb [] 2 (sb B41 1580) [.iZ 1] (Ac 300 (o1++[AG (JA Fo)])) (by kernel_rfl)) ?_ ?_ (λv h=>by cases h;exact .outer (.Ge k));rintro LR j1 r k;show Ep  s LR=some r->_;unfold Ep;refine Ag (λhb2=>?_) λhb2=>?_;refine As λc4 hc4=>?_;refine Ag (λhb3=>?_) λhb3=>?_;rintro⟨⟩;exact Dx (Ac 300 [pb hb2,Sn (Jt hc4),pn hb3]) (by kernel_rfl) (k (js 8 j1 [(4,bT),(5,bT),(6,bF),(7,bF)]));rintro⟨⟩;exact GB (Ac 300 [pb hb2,Sn (Jt hc4),pn hb3,pk]) (by kernel_rfl) (k (js 8 j1 [(4,bT),(5,bT),(6,bT),(7,bT)]));rintro⟨⟩;exact Dx (Ac 300 [pb hb2]) (by kernel_rfl) (k (js 8 j1 [(4,bF),(5,bF),(6,undef),(7,bF)]));rintro auI aOT;rintro⟨⟩;exact GB (Ip 300 []) (by kernel_rfl) (k aOT);subst hv;rintro⟨⟩;exact Ax _ _ (Ac 300 (o1++[AG (JA Fo)])) (by kernel_rfl) (.Ge k) .sc;rintro⟨⟩;exact Dx (Ac 300 [pb A2]) (by kernel_rfl) (k (js 8 j0 [(0,bF)]));rintro auJ aGA;rintro⟨⟩;exact Ax _ _ (Ip 300 []) (by kernel_rfl) .body .sc
def B75:Code:=AY Tryz.f75
def b75:Tryz.f75.body=some B75:=by kernel_rfl
def GC(c:Int):Option Bool:=cond (NS 48 c) (cond (NS c 57) (some true) (some false)) (some false)
def EF{c:Int}{yR:Bool}(h:GC  c=some yR):Pure P (G mx) 75 [.sc (.int .u8 c)] (.zb yR):=by
 unfold GC at h;refine CN Hd.mixed Hd.Aa (Au Tryz.func75 b75 ?_) (A3 rfl rfl) rfl;revert h;refine Ag (λA2=>?_) λA2=>?_;refine Ag (λhb2=>?_) λhb2=>?_;rintro⟨⟩;exact rT [pb A2,pb hb2];rintro⟨⟩;exact rT [pb A2,pb hb2];rintro⟨⟩;exact rT [pb A2]
def awT:Code:=AY Tryz.f127
def aKK:Tryz.f127.body=some awT:=by kernel_rfl
def FH(s:ByteArray)(at_:Int)(i5:Int):Option (Lp Int Unit Bool):=cond (Ev i5 10) ((Ha s.data.toList (BF at_ i5)).bind λc5=>cond (Dh i5 4) (cond (Dh ((c5.toNat:Nat):Int) 45) (some (.nx (BF i5 1))) (some (.rt false))) (cond (Dh i5 7) (cond (Dh ((c5.toNat:Nat):Int) 45) (some (.nx (BF i5 1))) (some (.rt false))) ((GC ((c5.toNat:Nat):Int)).bind λy6=>cond y6 (some (.nx (BF i5 1))) (some (.rt false))))) (some (.ex ()))
def LG(s:ByteArray)(at_:Int):Option Bool:=cond (Ev (LS ((s.data.toList.length:Nat):Int) at_) 10) (some false) ((L2 (λx=>FH  s at_ x) 0).bind (L8 (λ(_:Unit)=>some true) (λv=>some v)))
def W1{s:ByteArray}{at_:Int}{yR:Bool}(h:LG  s at_=some yR):Pure P (G mx) 127 [.zs s,.zi at_] (.zb yR):=by
 unfold LG at h;refine CN Hd.mixed Hd.Aa (Au Tryz.func127 aKK ?_) (A3 rfl (A3 rfl rfl)) rfl;revert h;refine Ag (λA2=>?_) λA2=>?_;rintro⟨⟩;exact rT [pk,pb A2];refine Pn (λQ v=>Kz P Tryz.f127 0 Q (.zb v)) (λ(i5:Int) (j0:List Value)=>fr 32 [(0,.zs s),(1,.zi at_),(5,.zi i5)] [4,11,13,22,23,25,26,28,30,31] j0) (λ(i5:Int)=>⟨[],0,[],0⟩) (λ(_:Unit) (jx:List Value)=>fr 32 [] [4,11,13,22,23,25,26,28,30,31] jx) (λ(_:Unit)=>⟨[],0,[],0⟩) [bF,bF] (Hb [] 0 (sb awT 116) [.code (sb awT 15)] (Ac 300 [pk,pb A2]) (by kernel_rfl)) ?_ ?_ (λv h=>by cases h;exact .outer .body);rintro i5 j0 r k;show FH  s at_ i5=some r->_;unfold FH;refine Ag (λJG=>?_) λJG=>?_;refine As λc5 hc5=>?_;let o1:List (PC P (G mx)):=[pb JG,pk,Sn (Jt hc5)];refine Ag (λJH=>?_) λJH=>?_;refine Ag (λKU=>?_) λKU=>?_;rintro⟨⟩;exact GB (Ac 300 (o1++[pb JH,pn KU,pk])) (by kernel_rfl) (k (js 10 j0 [(2,bT),(3,bT),(4,bT),(5,undef),(6,bT),(7,bF)]));rintro⟨⟩;exact Ax _ _ (Ac 300 (o1++[pb JH,pn KU])) (by kernel_rfl) (.Ge k) .sc;refine Ag (λLf=>?_) λLf=>?_;refine Ag (λN8=>?_) λN8=>?_;rintro⟨⟩;exact GB (Ac 300 (o1++[pb JH,pb Lf,pn N8,pk])) (by kernel_rfl) (k (js 10 j0 [(2,bT),(3,bF),(4,bF),(5,bT),(6,bT),(7,bF)]));rintro⟨⟩;exact Ax _ _ (Ac 300 (o1++[pb JH,pb Lf,pn N8])) (by kernel_rfl) (.Ge k) .sc;refine As λy6 L5=>?_;refine Ag (λhv=>?_) λhv=>?_;subst hv;rintro⟨⟩;exact GB (Ac 300 (o1++[pb JH,pb Lf,AG (EF L5),pk])) (by kernel_rfl) (k [(jv j0 0),(jv j0 1),bT,bF,bF,bF,bF,(jv j0 7),bT,bF]);subst hv;rintro⟨⟩;exact Ax _ _ (Ac 300 (o1++[pb JH,pb Lf,AG (EF L5)])) (by kernel_rfl) (.Ge k) .sc;rintro⟨⟩;exact Dx (Ac 300 [pb JG]) (by kernel_rfl) (k (js 10 j0 [(2,bF)]));rintro⟨⟩ afS;rintro⟨⟩;exact Ax _ _ (Ip 300 []) (by kernel_rfl) .body .sc
def B77:Code:=AY Tryz.f77
def b77:Tryz.f77.body=some B77:=by kernel_rfl
def Jg(c:Int):Option Bool:=cond (NS 97 c) (cond (NS c 122) (some true) (some false)) (some false)
def Qj{c:Int}{yR:Bool}(h:Jg  c=some yR):Pure P (G mx) 77 [.sc (.int .u8 c)] (.zb yR):=by
 unfold Jg at h;refine CN Hd.mixed Hd.Aa (Au Tryz.func77 b77 ?_) (A3 rfl rfl) rfl;revert h;refine Ag (λA2=>?_) λA2=>?_;refine Ag (λhb2=>?_) λhb2=>?_;rintro⟨⟩;exact rT [pb A2,pb hb2];rintro⟨⟩;exact rT [pb A2,pb hb2];rintro⟨⟩;exact rT [pb A2]
def B79:Code:=AY Tryz.f79
def b79:Tryz.f79.body=some B79:=by kernel_rfl
def GD(c:Int):Option Bool:=cond (NS 65 c) (cond (NS c 90) (some true) (some false)) (some false)
def FA{c:Int}{yR:Bool}(h:GD  c=some yR):Pure P (G mx) 79 [.sc (.int .u8 c)] (.zb yR):=by
 unfold GD at h;refine CN Hd.mixed Hd.Aa (Au Tryz.func79 b79 ?_) (A3 rfl rfl) rfl;revert h;refine Ag (λA2=>?_) λA2=>?_;refine Ag (λhb2=>?_) λhb2=>?_;rintro⟨⟩;exact rT [pb A2,pb hb2];rintro⟨⟩;exact rT [pb A2,pb hb2];rintro⟨⟩;exact rT [pb A2]
def aJG:Code:=AY Tryz.f158
def aKY:Tryz.f158.body=some aJG:=by kernel_rfl
def Ki(c:Int):Option Bool:=(Jg c).bind λy1=>cond y1 (some true) ((GD c).bind λy2=>cond y2 (some true) ((GC c).bind λy3=>cond y3 (some true) (cond (Dh c 95) (some true) (some false))))
def Nf{c:Int}{yR:Bool}(h:Ki  c=some yR):Pure P (G mx) 158 [.sc (.int .u8 c)] (.zb yR):=by
 unfold Ki at h;refine CN Hd.mixed Hd.Aa (Au Tryz.func158 aKY ?_) (A3 rfl rfl) rfl;revert h;refine As λy1 Cg=>?_;let o1:List (PC P (G mx)):=[AG (Qj Cg)];refine Ag (λhv=>?_) λhv=>?_;subst hv;rintro⟨⟩;exact rT o1;subst hv;refine As λy2 DZ=>?_;let o2:List (PC P (G mx)):=o1++[AG (FA DZ)];refine Ag (λhv=>?_) λhv=>?_;subst hv;rintro⟨⟩;exact rT o2;subst hv;refine As λy3 Fo=>?_;refine Ag (λhv=>?_) λhv=>?_;subst hv;rintro⟨⟩;exact rT (o2++[AG (EF Fo)]);subst hv;refine Ag (λA2=>?_) λA2=>?_;rintro⟨⟩;exact rT (o2++[AG (EF Fo),pb A2]);rintro⟨⟩;exact rT (o2++[AG (EF Fo),pb A2])
def aIW:Code:=AY Tryz.f128
def aKL:Tryz.f128.body=some aIW:=by kernel_rfl
def D4(s:ByteArray)(at_:Int):Option Bool:=cond (NS ((s.data.toList.length:Nat):Int) at_) (some true) ((Ha s.data.toList at_).bind λc1=>(Ki ((c1.toNat:Nat):Int)).bind λy2=>cond y2 (some false) (cond (Dh ((c1.toNat:Nat):Int) 46) (some false) (some true)))
def Gj{s:ByteArray}{at_:Int}{yR:Bool}(h:D4  s at_=some yR):Pure P (G mx) 128 [.zs s,.zi at_] (.zb yR):=by
 unfold D4 at h;refine CN Hd.mixed Hd.Aa (Au Tryz.func128 aKL ?_) (A3 rfl (A3 rfl rfl)) rfl;revert h;refine Ag (λA2=>?_) λA2=>?_;rintro⟨⟩;exact rT [pb A2];refine As λc1 hc1=>?_;refine As λy2 DZ=>?_;let o1:List (PC P (G mx)):=[pb A2,Sn (Jt hc1),AG (Nf DZ)];refine Ag (λhv=>?_) λhv=>?_;subst hv;rintro⟨⟩;exact rT o1;subst hv;refine Ag (λhb2=>?_) λhb2=>?_;rintro⟨⟩;exact rT (o1++[Sn (Jt hc1),pn hb2]);rintro⟨⟩;exact rT (o1++[Sn (Jt hc1),pn hb2])
def awU:Code:=AY Tryz.f129
def aKM:Tryz.f129.body=some awU:=by kernel_rfl
def Ho(s:ByteArray)(LR:Int):Option (Lp Int Int Int):=cond (Ev LR ((s.data.toList.length:Nat):Int)) ((Ha s.data.toList LR).bind λc1=>(GC ((c1.toNat:Nat):Int)).bind λy2=>cond y2 (some (.nx (BF LR 1))) (some (.ex LR))) (some (.ex LR))
def EZ(s:ByteArray)(at_:Int):Option Int:=(L2 (λx=>Ho  s x) at_).bind (L8 (λ(iI:Int)=>some iI) (λv=>some v))
def JB{s:ByteArray}{at_:Int}{yR:Int}(h:EZ  s at_=some yR):Pure P (G mx) 129 [.zs s,.zi at_] (.zi yR):=by
 unfold EZ at h;refine CN Hd.mixed Hd.Aa (Au Tryz.func129 aKM ?_) (A3 rfl (A3 rfl rfl)) rfl;revert h;refine Pn (λQ v=>Kz P Tryz.f129 0 Q (.zi v)) (λ(LR:Int) (j0:List Value)=>fr 18 [(0,.zs s),(1,.zi LR)] [8,9,13,14] j0) (λ(LR:Int)=>⟨[],0,[],0⟩) (λ(LR:Int) (jx:List Value)=>fr 18 [(1,.zi LR)] [8,9,13,14] jx) (λ(LR:Int)=>⟨[],0,[],0⟩) [] (Hb [] 0 (sb awU 24) [.code (sb awU 7)] (Ac 300 []) (by kernel_rfl)) ?_ ?_ (λv h=>by cases h;exact .outer .body);rintro LR j0 r k;show Ho  s LR=some r->_;unfold Ho;refine Ag (λA2=>?_) λA2=>?_;refine As λc1 hc1=>?_;refine As λy2 DZ=>?_;refine Ag (λhv=>?_) λhv=>?_;subst hv;rintro⟨⟩;exact GB (Ac 300 [pb A2,Sn (Jt hc1),AG (EF DZ),pk]) (by kernel_rfl) (k [bT,bT,bT,bT]);subst hv;rintro⟨⟩;exact Dx (Ac 300 [pb A2,Sn (Jt hc1),AG (EF DZ)]) (by kernel_rfl) (k [bT,bT,bF,bF]);rintro⟨⟩;exact Dx (Ac 300 [pb A2]) (by kernel_rfl) (k [bF,bF,undef,bF]);rintro iI aFZ;rintro⟨⟩;exact Ax _ _ (Ip 300 []) (by kernel_rfl) .body .sc
def B76:Code:=AY Tryz.f76
def b76:Tryz.f76.body=some B76:=by kernel_rfl
def Jb(s:ByteArray)(at_:Int):Option (Tk×Bool):=(LG s at_).bind λy1=>cond y1 ((Qs s at_ (BF at_ 10)).bind λs2=>(D4 s (BF at_ 10)).bind λy3=>some ((⟨5,s2,at_⟩:Tk),y3)) ((EZ s at_).bind λy4=>cond (Dh y4 (BF at_ 1)) (cond (Ev y4 ((s.data.toList.length:Nat):Int)) ((Ha s.data.toList y4).bind λc5=>cond (Dh ((c5.toNat:Nat):Int) 46) ((EZ s (BF y4 1)).bind λy6=>(Qs s at_ y6).bind λs7=>cond (NS (LS y4 at_) 10) (cond (Dh y6 (BF y4 3)) ((D4 s y6).bind λy8=>some ((⟨4,s7,at_⟩:Tk),y8)) (some ((⟨4,s7,at_⟩:Tk),false))) (some ((⟨4,s7,at_⟩:Tk),false))) ((Qs s at_ y4).bind λs9=>cond (NS (LS y4 at_) 12) ((D4 s y4).bind λy10=>some ((⟨3,s9,at_⟩:Tk),y10)) (some ((⟨3,s9,at_⟩:Tk),false)))) ((Qs s at_ y4).bind λs11=>cond (NS (LS y4 at_) 12) ((D4 s y4).bind λy12=>some ((⟨3,s11,at_⟩:Tk),y12)) (some ((⟨3,s11,at_⟩:Tk),false)))) ((Ha s.data.toList at_).bind λc13=>cond (Dh ((c13.toNat:Nat):Int) 48) (cond (Ev y4 ((s.data.toList.length:Nat):Int)) ((Ha s.data.toList y4).bind λc14=>cond (Dh ((c14.toNat:Nat):Int) 46) ((EZ s (BF y4 1)).bind λy15=>(Qs s at_ y15).bind λs16=>some ((⟨4,s16,at_⟩:Tk),false)) ((Qs s at_ y4).bind λs17=>some ((⟨3,s17,at_⟩:Tk),false))) ((Qs s at_ y4).bind λs18=>some ((⟨3,s18,at_⟩:Tk),false))) (cond (Ev y4 ((s.data.toList.length:Nat):Int)) ((Ha s.data.toList y4).bind λc19=>cond (Dh ((c19.toNat:Nat):Int) 46) ((EZ s (BF y4 1)).bind λy20=>(Qs s at_ y20).bind λs21=>cond (NS (LS y4 at_) 10) (cond (Dh y20 (BF y4 3)) ((D4 s y20).bind λy22=>some ((⟨4,s21,at_⟩:Tk),y22)) (some ((⟨4,s21,at_⟩:Tk),false))) (some ((⟨4,s21,at_⟩:Tk),false))) ((Qs s at_ y4).bind λs23=>cond (NS (LS y4 at_) 12) ((D4 s y4).bind λy24=>some ((⟨3,s23,at_⟩:Tk),y24)) (some ((⟨3,s23,at_⟩:Tk),false)))) ((Qs s at_ y4).bind λs25=>cond (NS (LS y4 at_) 12) ((D4 s y4).bind λy26=>some ((⟨3,s25,at_⟩:Tk),y26)) (some ((⟨3,s25,at_⟩:Tk),false))))))
def Uk{s:ByteArray}{at_:Int}{yR:(Tk×Bool)}(h:Jb  s at_=some yR):Pure P (G mx) 76 [.zs s,.zi at_] (.C4 [.agg (Gn yR.1),.zb yR.2]):=by
 unfold Jb at h;refine CN Hd.mixed Hd.Aa (Au Tryz.func76 b76 ?_) (A3 rfl (A3 rfl rfl)) (A3 (BP.Cr yR.1) (A3 rfl rfl));revert h;refine As λy1 Cg=>?_;let o1:List (PC P (G mx)):=[AG (W1 Cg)];refine Ag (λhv=>?_) λhv=>?_;subst hv;refine As λs2 ZI=>?_;refine As λy3 Fo=>?_;rintro⟨⟩;exact Ax _ _ (Ac 300 (o1++[pz 11,pk,OV (II ZI),pk,AG (Gj Fo)])) (by kernel_rfl) .body (.plain (A3 (BP.Cr (⟨5,s2,at_⟩:Tk)) (A3 rfl rfl)));subst hv;refine As λy4 J9=>?_;let o2:List (PC P (G mx)):=o1++[AG (JB J9),pk];refine Ag (λA2=>?_) λA2=>?_;refine Ag (λhb2=>?_) λhb2=>?_;refine As λc5 hc5=>?_;let o3:List (PC P (G mx)):=o2++[pb A2,pb hb2,Sn (Jt hc5)];refine Ag (λhb3=>?_) λhb3=>?_;refine As λy6 L5=>?_;refine As λs7 hs7=>?_;let o4:List (PC P (G mx)):=o3++[pb hb3,pk,AG (JB L5),pz 24,OV (II hs7),pk];refine Ag (λFl=>?_) λFl=>?_;refine Ag (λH9=>?_) λH9=>?_;refine As λy8 OK=>?_;rintro⟨⟩;exact Ax _ _ (Ac 300 (o4++[pb Fl,pk,pb H9,AG (Gj OK)])) (by kernel_rfl) .body (.plain (A3 (BP.Cr (⟨4,s7,at_⟩:Tk)) (A3 rfl rfl)));rintro⟨⟩;exact Ax _ _ (Ac 300 (o4++[pb Fl,pk,pb H9])) (by kernel_rfl) .body (.plain (A3 (BP.Cr (⟨4,s7,at_⟩:Tk)) (A3 rfl rfl)));rintro⟨⟩;exact Ax _ _ (Ac 300 (o4++[pb Fl])) (by kernel_rfl) .body (.plain (A3 (BP.Cr (⟨4,s7,at_⟩:Tk)) (A3 rfl rfl)));refine As λs9 hs9=>?_;refine Ag (λI5=>?_) λI5=>?_;refine As λy10 OP=>?_;rintro⟨⟩;exact Ax _ _ (Ac 300 (o3++[pb hb3,pz 18,OV (II hs9),pk,pb I5,AG (Gj OP)])) (by kernel_rfl) .body (.plain (A3 (BP.Cr (⟨3,s9,at_⟩:Tk)) (A3 rfl rfl)));rintro⟨⟩;exact Ax _ _ (Ac 300 (o3++[pb hb3,pz 18,OV (II hs9),pk,pb I5])) (by kernel_rfl) .body (.plain (A3 (BP.Cr (⟨3,s9,at_⟩:Tk)) (A3 rfl rfl)));refine As λs11 aFO=>?_;refine Ag (λJi=>?_) λJi=>?_;refine As λy12 eK=>?_;rintro⟨⟩;exact Ax _ _ (Ac 300 (o2++[pb A2,pb hb2,pz 18,OV (II aFO),pk,pb Ji,AG (Gj eK)])) (by kernel_rfl) .body (.plain (A3 (BP.Cr (⟨3,s11,at_⟩:Tk)) (A3 rfl rfl)));rintro⟨⟩;exact Ax _ _ (Ac 300 (o2++[pb A2,pb hb2,pz 18,OV (II aFO),pk,pb Ji])) (by kernel_rfl) .body (.plain (A3 (BP.Cr (⟨3,s11,at_⟩:Tk)) (A3 rfl rfl)));refine As λc13 aMR=>?_;let o5:List (PC P (G mx)):=o2++[pb A2,Sn (Jt aMR)];refine Ag (λKv=>?_) λKv=>?_;refine Ag (λJL=>?_) λJL=>?_;refine As λc14 aEW=>?_;refine Ag (λGO=>?_) λGO=>?_;refine As λy15 YD=>?_;refine As λs16 aNP=>?_;rintro⟨⟩;exact Ax _ _ (Ac 300 (o5++[pn Kv,pb JL,Sn (Jt aEW),pb GO,pk,AG (JB YD),pz 24,OV (II aNP)])) (by kernel_rfl) .body (.plain (A3 (BP.Cr (⟨4,s16,at_⟩:Tk)) (A3 rfl rfl)));refine As λs17 aNQ=>?_;rintro⟨⟩;exact Ax _ _ (Ac 300 (o5++[pn Kv,pb JL,Sn (Jt aEW),pb GO,pz 18,OV (II aNQ)])) (by kernel_rfl) .body (.plain (A3 (BP.Cr (⟨3,s17,at_⟩:Tk)) (A3 rfl rfl)));refine As λs18 aNR=>?_;rintro⟨⟩;exact Ax _ _ (Ac 300 (o5++[pn Kv,pb JL,pz 18,OV (II aNR)])) (by kernel_rfl) .body (.plain (A3 (BP.Cr (⟨3,s18,at_⟩:Tk)) (A3 rfl rfl)));refine Ag (λI8=>?_) λI8=>?_;refine As λc19 aMS=>?_;let o6:List (PC P (G mx)):=o5++[pn Kv,pb I8,Sn (Jt aMS)];refine Ag (λJG=>?_) λJG=>?_;refine As λy20 pP=>?_;refine As λs21 aNS=>?_;let o7:List (PC P (G mx)):=o6++[pb JG,pk,AG (JB pP),pz 24,OV (II aNS),pk];refine Ag (λJH=>?_) λJH=>?_;refine Ag (λKU=>?_) λKU=>?_;refine As λy22 eM=>?_;rintro⟨⟩;exact Ax _ _ (Ac 300 (o7++[pb JH,pk,pb KU,AG (Gj eM)])) (by kernel_rfl) .body (.plain (A3 (BP.Cr (⟨4,s21,at_⟩:Tk)) (A3 rfl rfl)));rintro⟨⟩;exact Ax _ _ (Ac 300 (o7++[pb JH,pk,pb KU])) (by kernel_rfl) .body (.plain (A3 (BP.Cr (⟨4,s21,at_⟩:Tk)) (A3 rfl rfl)));rintro⟨⟩;exact Ax _ _ (Ac 300 (o7++[pb JH])) (by kernel_rfl) .body (.plain (A3 (BP.Cr (⟨4,s21,at_⟩:Tk)) (A3 rfl rfl)));refine As λs23 aFP=>?_;refine Ag (λLf=>?_) λLf=>?_;refine As λy24 eO=>?_;rintro⟨⟩;exact Ax _ _ (Ac 300 (o6++[pb JG,pz 18,OV (II aFP),pk,pb Lf,AG (Gj eO)])) (by kernel_rfl) .body (.plain (A3 (BP.Cr (⟨3,s23,at_⟩:Tk)) (A3 rfl rfl)));rintro⟨⟩;exact Ax _ _ (Ac 300 (o6++[pb JG,pz 18,OV (II aFP),pk,pb Lf])) (by kernel_rfl) .body (.plain (A3 (BP.Cr (⟨3,s23,at_⟩:Tk)) (A3 rfl rfl)));refine As λs25 aFQ=>?_;refine Ag (λN8=>?_) λN8=>?_;refine As λy26 azH=>?_;rintro⟨⟩;exact Ax _ _ (Ac 300 (o5++[pn Kv,pb I8,pz 18,OV (II aFQ),pk,pb N8,AG (Gj azH)])) (by kernel_rfl) .body (.plain (A3 (BP.Cr (⟨3,s25,at_⟩:Tk)) (A3 rfl rfl)));rintro⟨⟩;exact Ax _ _ (Ac 300 (o5++[pn Kv,pb I8,pz 18,OV (II aFQ),pk,pb N8])) (by kernel_rfl) .body (.plain (A3 (BP.Cr (⟨3,s25,at_⟩:Tk)) (A3 rfl rfl)))
def awV:Code:=AY Tryz.f130
def aKN:Tryz.f130.body=some awV:=by kernel_rfl
def Kk(s:ByteArray)(LR:Int):Option (Lp Int Int Int):=cond (Ev LR ((s.data.toList.length:Nat):Int)) ((Ha s.data.toList LR).bind λc1=>(Ki ((c1.toNat:Nat):Int)).bind λy2=>cond y2 (some (.nx (BF LR 1))) (some (.ex LR))) (some (.ex LR))
def Lc(s:ByteArray)(at_:Int):Option Int:=(L2 (λx=>Kk  s x) at_).bind (L8 (λ(iI:Int)=>some iI) (λv=>some v))
def Su{s:ByteArray}{at_:Int}{yR:Int}(h:Lc  s at_=some yR):Pure P (G mx) 130 [.zs s,.zi at_] (.zi yR):=by
 unfold Lc at h;refine CN Hd.mixed Hd.Aa (Au Tryz.func130 aKN ?_) (A3 rfl (A3 rfl rfl)) rfl;revert h;refine Pn (λQ v=>Kz P Tryz.f130 0 Q (.zi v)) (λ(LR:Int) (j0:List Value)=>fr 18 [(0,.zs s),(1,.zi LR)] [8,9,13,14] j0) (λ(LR:Int)=>⟨[],0,[],0⟩) (λ(LR:Int) (jx:List Value)=>fr 18 [(1,.zi LR)] [8,9,13,14] jx) (λ(LR:Int)=>⟨[],0,[],0⟩) [] (Hb [] 0 (sb awV 24) [.code (sb awV 7)] (Ac 300 []) (by kernel_rfl)) ?_ ?_ (λv h=>by cases h;exact .outer .body);rintro LR j0 r k;show Kk  s LR=some r->_;unfold Kk;refine Ag (λA2=>?_) λA2=>?_;refine As λc1 hc1=>?_;refine As λy2 DZ=>?_;refine Ag (λhv=>?_) λhv=>?_;subst hv;rintro⟨⟩;exact GB (Ac 300 [pb A2,Sn (Jt hc1),AG (Nf DZ),pk]) (by kernel_rfl) (k [bT,bT,bT,bT]);subst hv;rintro⟨⟩;exact Dx (Ac 300 [pb A2,Sn (Jt hc1),AG (Nf DZ)]) (by kernel_rfl) (k [bT,bT,bF,bF]);rintro⟨⟩;exact Dx (Ac 300 [pb A2]) (by kernel_rfl) (k [bF,bF,undef,bF]);rintro iI aFZ;rintro⟨⟩;exact Ax _ _ (Ip 300 []) (by kernel_rfl) .body .sc
def B78:Code:=AY Tryz.f78
def b78:Tryz.f78.body=some B78:=by kernel_rfl
def Jh(s:ByteArray)(y1:Int)(i7:Int):Option (Lp Int Unit (Tk×Bool)):=cond (Ev i7 y1) ((Ha s.data.toList i7).bind λc2=>(GD ((c2.toNat:Nat):Int)).bind λy3=>cond y3 (some (.rt ((⟨0,ByteArray.empty,0⟩:Tk),false))) (some (.nx (BF i7 1)))) (some (.ex ()))
def LH(s:ByteArray)(at_:Int):Option (Tk×Bool):=(Lc s at_).bind λy1=>(L2 (λx=>Jh  s y1 x) at_).bind (L8 (λ(_:Unit)=>(Qs s at_ y1).bind λs5=>cond (NS (LS y1 at_) 16) (some ((⟨1,s5,at_⟩:Tk),true)) (some ((⟨1,s5,at_⟩:Tk),false))) (λv=>some v))
def W2{s:ByteArray}{at_:Int}{yR:(Tk×Bool)}(h:LH  s at_=some yR):Pure P (G mx) 78 [.zs s,.zi at_] (.C4 [.agg (Gn yR.1),.zb yR.2]):=by
 unfold LH at h;refine CN Hd.mixed Hd.Aa (Au Tryz.func78 b78 ?_) (A3 rfl (A3 rfl rfl)) (A3 (BP.Cr yR.1) (A3 rfl rfl));revert h;refine As λy1 Cg=>?_;refine Pn (λQ v=>Kz P Tryz.f78 0 Q (.C4 [.agg (Gn v.1),.zb v.2])) (λ(i7:Int) (j0:List Value)=>fr 32 [(0,.zs s),(1,.zi at_),(4,.ptr 0 0),(6,.zi y1),(7,.zi i7)] [5,14,20,31] j0) (λ(i7:Int)=>⟨[(0,.cells [.zi 0,.zs ByteArray.empty,.zi 0])],1,[],0⟩) (λ(_:Unit) (jx:List Value)=>fr 32 [(0,.zs s),(1,.zi at_),(4,.ptr 0 0),(6,.zi y1)] [5,14,20,31] jx) (λ(_:Unit)=>⟨[(0,.cells [.zi 0,.zs ByteArray.empty,.zi 0])],1,[],0⟩) [bF] (Hb [] 0 (sb B78 116) [.code (sb B78 15)] (Ac 300 [AG (Su Cg)]) (by kernel_rfl)) ?_ ?_ (λv h=>by cases h;exact .outer .body);rintro i7 j0 r k;show Jh  s y1 i7=some r->_;unfold Jh;refine Ag (λA2=>?_) λA2=>?_;refine As λc2 gY=>?_;refine As λy3 Fo=>?_;refine Ag (λhv=>?_) λhv=>?_;subst hv;rintro⟨⟩;exact Ax _ _ (Ac 300 [pb A2,Sn (Jt gY),AG (FA Fo)]) (by kernel_rfl) (.Ge k) (.plain (A3 (BP.Cr (⟨0,ByteArray.empty,0⟩:Tk)) (A3 rfl rfl)));subst hv;rintro⟨⟩;exact GB (Ac 300 [pb A2,Sn (Jt gY),AG (FA Fo),pk]) (by kernel_rfl) (k (js 4 j0 [(1,bT),(2,bF)]));rintro⟨⟩;exact Dx (Ac 300 [pb A2]) (by kernel_rfl) (k (js 4 j0 [(1,bF)]));rintro⟨⟩ aAF;refine As λs5 hs5=>?_;refine Ag (λhb2=>?_) λhb2=>?_;rintro⟨⟩;exact Ax _ _ (Ip 300 [OV (II hs5),pk,pb hb2]) (by kernel_rfl) .body (.plain (A3 (BP.Cr (⟨1,s5,at_⟩:Tk)) (A3 rfl rfl)));rintro⟨⟩;exact Ax _ _ (Ip 300 [OV (II hs5),pk,pb hb2]) (by kernel_rfl) .body (.plain (A3 (BP.Cr (⟨1,s5,at_⟩:Tk)) (A3 rfl rfl)))
def B80:Code:=AY Tryz.f80
def b80:Tryz.f80.body=some B80:=by kernel_rfl
def Kj(s:ByteArray)(y1:Int)(i7:Int):Option (Lp Int Unit (Tk×Bool)):=cond (Ev i7 y1) ((Ha s.data.toList i7).bind λc2=>(GD ((c2.toNat:Nat):Int)).bind λy3=>cond y3 (some (.nx (BF i7 1))) (some (.rt ((⟨0,ByteArray.empty,0⟩:Tk),false)))) (some (.ex ()))
def MP(s:ByteArray)(at_:Int):Option (Tk×Bool):=(Lc s at_).bind λy1=>(L2 (λx=>Kj  s y1 x) at_).bind (L8 (λ(_:Unit)=>(Qs s at_ y1).bind λs5=>cond (Dh (LS y1 at_) 3) (some ((⟨2,s5,at_⟩:Tk),true)) (some ((⟨2,s5,at_⟩:Tk),false))) (λv=>some v))
def Y6{s:ByteArray}{at_:Int}{yR:(Tk×Bool)}(h:MP  s at_=some yR):Pure P (G mx) 80 [.zs s,.zi at_] (.C4 [.agg (Gn yR.1),.zb yR.2]):=by
 unfold MP at h;refine CN Hd.mixed Hd.Aa (Au Tryz.func80 b80 ?_) (A3 rfl (A3 rfl rfl)) (A3 (BP.Cr yR.1) (A3 rfl rfl));revert h;refine As λy1 Cg=>?_;refine Pn (λQ v=>Kz P Tryz.f80 0 Q (.C4 [.agg (Gn v.1),.zb v.2])) (λ(i7:Int) (j0:List Value)=>fr 33 [(0,.zs s),(1,.zi at_),(4,.ptr 0 0),(6,.zi y1),(7,.zi i7)] [5,14,20,21,32] j0) (λ(i7:Int)=>⟨[(0,.cells [.zi 0,.zs ByteArray.empty,.zi 0])],1,[],0⟩) (λ(_:Unit) (jx:List Value)=>fr 33 [(0,.zs s),(1,.zi at_),(4,.ptr 0 0),(6,.zi y1)] [5,14,20,21,32] jx) (λ(_:Unit)=>⟨[(0,.cells [.zi 0,.zs ByteArray.empty,.zi 0])],1,[],0⟩) [bF] (Hb [] 0 (sb B80 116) [.code (sb B80 15)] (Ac 300 [AG (Su Cg)]) (by kernel_rfl)) ?_ ?_ (λv h=>by cases h;exact .outer .body);rintro i7 j0 r k;show Kj  s y1 i7=some r->_;unfold Kj;refine Ag (λA2=>?_) λA2=>?_;refine As λc2 gY=>?_;refine As λy3 Fo=>?_;refine Ag (λhv=>?_) λhv=>?_;subst hv;rintro⟨⟩;exact GB (Ac 300 [pb A2,Sn (Jt gY),AG (FA Fo),pk]) (by kernel_rfl) (k [(jv j0 0),bT,bT,bF,(jv j0 4)]);subst hv;rintro⟨⟩;exact Ax _ _ (Ac 300 [pb A2,Sn (Jt gY),AG (FA Fo)]) (by kernel_rfl) (.Ge k) (.plain (A3 (BP.Cr (⟨0,ByteArray.empty,0⟩:Tk)) (A3 rfl rfl)));rintro⟨⟩;exact Dx (Ac 300 [pb A2]) (by kernel_rfl) (k (js 5 j0 [(1,bF)]));rintro⟨⟩ aAF;refine As λs5 hs5=>?_;refine Ag (λhb2=>?_) λhb2=>?_;rintro⟨⟩;exact Ax _ _ (Ip 300 [OV (II hs5),pk,pb hb2]) (by kernel_rfl) .body (.plain (A3 (BP.Cr (⟨2,s5,at_⟩:Tk)) (A3 rfl rfl)));rintro⟨⟩;exact Ax _ _ (Ip 300 [OV (II hs5),pk,pb hb2]) (by kernel_rfl) .body (.plain (A3 (BP.Cr (⟨2,s5,at_⟩:Tk)) (A3 rfl rfl)))
def B81:Code:=AY Tryz.f81
def b81:Tryz.f81.body=some B81:=by kernel_rfl
def KP  :Option (List ByteArray):=some [GX,Ig,Hj,FX,Kf,JI,Oy,Li,PH,ED,Ug,V1,fK,Z3,Vi,RM,Uh]
def Uj{yR:(List ByteArray)}(h:KP  =some yR):Pure P (G mx) 81 [] (.sl .lost yR.length (rows stC yR)):=by
 unfold KP at h;refine CN Hd.mixed Hd.Aa (Au Tryz.func81 b81 ?_) rfl (YL.Ks yR);revert h;rintro⟨⟩;exact Ax (v:=.sl .full 17 [.zs GX,.zs Ig,.zs Hj,.zs FX,.zs Kf,.zs JI,.zs Oy,.zs Li,.zs PH,.zs ED,.zs Ug,.zs V1,.zs fK,.zs Z3,.zs Vi,.zs RM,.zs Uh]) _ _ (Ac 300 []) (by kernel_rfl) .body (.wn (.d (.r (.r (.r (.r (.r (.r (.r (.r (.r (.r (.r (.r (.r (.r (.r (.r (.r .nil))))))))))))))))) (YL.eq [GX,Ig,Hj,FX,Kf,JI,Oy,Li,PH,ED,Ug,V1,fK,Z3,Vi,RM,Uh]).symm .nil) (YL.Ks [GX,Ig,Hj,FX,Kf,JI,Oy,Li,PH,ED,Ug,V1,fK,Z3,Vi,RM,Uh]))
def B42:Code:=AY Tryz.f42
def b42:Tryz.f42.body=some B42:=by kernel_rfl
def J0(s:ByteArray)(at_:Int)(i0:Nat)(e0:ByteArray) :Option (Lp Unit Unit (Tk×Bool)):=(IF s at_ e0).bind λy9=>cond y9 (some (.rt ((⟨6,e0,at_⟩:Tk),true))) (some (.nx ()))
def KF(s:ByteArray)(at_:Int):Option (Tk×Bool):=(Ha s.data.toList at_).bind λc1=>(GC ((c1.toNat:Nat):Int)).bind λy2=>cond y2 ((Jb s at_).bind λ(LV,E5)=>some (LV,E5)) ((Jg ((c1.toNat:Nat):Int)).bind λy4=>cond y4 ((LH s at_).bind λ(SC,H3)=>some (SC,H3)) ((GD ((c1.toNat:Nat):Int)).bind λy6=>cond y6 ((MP s at_).bind λ(sF,RT)=>some (sF,RT)) ((KP).bind λy8=>(S6 y8.length (CQ (λi y x=>J0  s at_ i y ) (λx=>()) (y8.drop 0) 0 ())).bind (L8 (λ(_:Unit)=>some ((⟨0,ByteArray.empty,0⟩:Tk),false)) (λv=>some v)))))
def Qk{s:ByteArray}{at_:Int}{yR:(Tk×Bool)}(h:KF  s at_=some yR):Pure P (G mx) 42 [.zs s,.zi at_] (.C4 [.agg (Gn yR.1),.zb yR.2]):=by
 unfold KF at h;refine CN Hd.mixed Hd.Aa (Au Tryz.func42 b42 ?_) (A3 rfl (A3 rfl rfl)) (A3 (BP.Cr yR.1) (A3 rfl rfl));revert h;refine As λc1 hc1=>?_;refine As λy2 DZ=>?_;let o1:List (PC P (G mx)):=[Sn (Jt hc1),AG (EF DZ)];refine Ag (λhv=>?_) λhv=>?_;subst hv;refine As ?_;rintro⟨LV,E5⟩ Fo;dsimp only;rintro⟨⟩;exact Ax _ _ (Ac 300 (o1++[AG (Uk Fo)])) (by kernel_rfl) .body (.plain (A3 (BP.Cr LV) (A3 rfl rfl)));subst hv;refine As λy4 J9=>?_;let o2:List (PC P (G mx)):=o1++[Sn (Jt hc1),AG (Qj J9)];refine Ag (λhv=>?_) λhv=>?_;subst hv;refine As ?_;rintro⟨SC,H3⟩ Ka;dsimp only;rintro⟨⟩;exact Ax _ _ (Ac 300 (o2++[AG (W2 Ka)])) (by kernel_rfl) .body (.plain (A3 (BP.Cr SC) (A3 rfl rfl)));subst hv;refine As λy6 L5=>?_;refine Ag (λhv=>?_) λhv=>?_;subst hv;refine As ?_;rintro⟨sF,RT⟩ SM;dsimp only;rintro⟨⟩;exact Ax _ _ (Ac 300 (o2++[Sn (Jt hc1),AG (FA L5),AG (Y6 SM)])) (by kernel_rfl) .body (.plain (A3 (BP.Cr sF) (A3 rfl rfl)));subst hv;refine As λy8 OK=>?_;refine RB (λQ v=>Kz P Tryz.f42 0 Q (.C4 [.agg (Gn v.1),.zb v.2])) (λi0 (_:Unit) (j0:List Value)=>fr 59 [(0,.zs s),(1,.zi at_),(4,.ptr 0 0),(6,.sl .lost y8.length (rows stC y8)),(7,.zi ((i0:Nat):Int))] [5,8,12,17,18,22,27,28,32,37,42,51] j0) (λ(_:Unit)=>⟨[(0,.cells [.zi 0,.zs ByteArray.empty,.zi 0])],1,[],0⟩) (λ(_:Unit) (jx:List Value)=>fr 59 [(4,.ptr 0 0)] [5,8,12,17,18,22,27,28,32,37,42,51] jx) (λ(_:Unit)=>⟨[(0,.cells [.zi 0,.zs ByteArray.empty,.zi 0])],1,[],0⟩) [bF,bF,bF,undef,bF,bF,undef,bF,bF] (Hb [] 1 (sb B42 244) [.code (sb B42 31)] (Ac 300 (o2++[Sn (Jt hc1),AG (FA L5),AG (Uj OK)])) (by kernel_rfl)) ?_ ?_ ?_ (λv h=>by cases h;exact .outer .body);rintro i0 ⟨⟩ j0 hge hq;exact Dx (Ac 300 [pb (fA hge)]) (by kernel_rfl) (hq (js 12 j0 [(10,bF)]));rintro i0 e0 ⟨⟩ j0 r QN PS P6 k;show J0  s at_ i0 e0 =some r->_;unfold J0;refine As λy9 U6=>?_;refine Ag (λhv=>?_) λhv=>?_;subst hv;rintro⟨⟩;exact Ax _ _ (Ac 300 [pb (WD PS),IR (aAC .lost QN),AG (JA U6),IR (aAC .lost QN)]) (by kernel_rfl) (.Ge k) (.plain (A3 (BP.Cr (⟨6,e0,at_⟩:Tk)) (A3 rfl rfl)));subst hv;rintro⟨⟩;exact GB (Ac 300 [pb (WD PS),IR (aAC .lost QN),AG (JA U6),pi P6]) (by kernel_rfl) (k (js 12 j0 [(10,bT),(11,bF)]));rintro⟨⟩ afR;rintro⟨⟩;exact Ax _ _ (Ip 300 []) (by kernel_rfl) .body (.plain (A3 (BP.Cr (⟨0,ByteArray.empty,0⟩:Tk)) (A3 rfl rfl)))
def B16:Code:=AY Tryz.f16
def b16:Tryz.f16.body=some B16:=by kernel_rfl
def CU(s:ByteArray)(OQ:(List Tk))(at6:Int):Option (Lp ((List Tk)×Int) (List Tk) ((List Tk)×Int×Int)):=cond (Ev at6 ((s.data.toList.length:Nat):Int)) (cond (Dh ((OQ.length:Nat):Int) 2000) (some (.rt ([],2,at6))) ((KF s at6).bind λ(LV,E5)=>cond E5 (M6 (OQ.length+1) ((Kh s (BF at6 ((LV.text.data.toList.length:Nat):Int))).bind λy5=>some (.nx ((OQ++[LV]),y5)))) (some (.rt ([],61,at6))))) (some (.ex OQ))
def Lb(s:ByteArray):Option ((List Tk)×Int×Int):=cond (Ev 6000 ((s.data.toList.length:Nat):Int)) (some ([],2,0)) ((Kh s 0).bind λy1=>(L2 (λx=>CU  s x.1 x.2) ([],y1)).bind (L8 (λ(Y0:(List Tk))=>some (Y0,0,0)) (λv=>some v)))
def Sr{s:ByteArray}{yR:((List Tk)×Int×Int)}(h:Lb  s=some yR):Pure P (G mx) 16 [.zs s] (.C4 [.sl .lost yR.1.length (rows Gn yR.1),.zi yR.2.1,.zi yR.2.2]):=by
 unfold Lb at h;refine CN Hd.mixed Hd.Aa (Au Tryz.func16 b16 ?_) (A3 rfl rfl) (A3 (BP.Ks yR.1) (A3 rfl (A3 rfl rfl)));revert h;refine Ag (λA2=>?_) λA2=>?_;rintro⟨⟩;exact Ax (v:=.C4 [.sl .full 0 [],.zi 2,.zi 0]) _ _ (Ac 300 [pb A2]) (by kernel_rfl) .body (.wn (.u (.z (.r (.r .nil))) .nil) (A3 (BP.Ks []) (A3 rfl (A3 rfl rfl))));refine As λy1 Cg=>?_;refine Pn (λQ v=>Kz P Tryz.f16 0 Q (.C4 [.sl .lost v.1.length (rows Gn v.1),.zi v.2.1,.zi v.2.2])) (λ((OQ,at6):((List Tk)×Int)) (j0:List Value)=>fr 43 [(0,.zs s),(5,.sl (.row 0 3) OQ.length (rows Gn OQ)),(6,.zi at6)] [8,11,17,20,27,28,29] j0) (λ((OQ,at6):((List Tk)×Int))=>⟨[],0,[(0,OQ.length)],1⟩) (λ(OQ:(List Tk)) (jx:List Value)=>fr 43 [(5,.sl (.row 0 3) OQ.length (rows Gn OQ))] [8,11,17,20,27,28,29] jx) (λ(OQ:(List Tk))=>⟨[],0,[(0,OQ.length)],1⟩) [undef,bF] (Hb [.t 5 3] 0 (sb B16 248) [.code (sb B16 63)] (Ac 300 [pb A2,AG (Rt Cg)]) (by kernel_rfl)) ?_ ?_ (λv h=>by cases h;exact .outer .body);rintro⟨OQ,at6⟩ j0 r k;show CU  s OQ at6=some r->_;unfold CU;refine Ag (λFl=>?_) λFl=>?_;refine Ag (λH9=>?_) λH9=>?_;rintro⟨⟩;exact Ax (v:=.C4 [.sl .full 0 [],.zi 2,.zi at6]) _ _ (Ac 300 [pb Fl,pb H9]) (by kernel_rfl) (.Ge k) (.wn (.u (.z (.r (.r .nil))) .nil) (A3 (BP.Ks []) (A3 rfl (A3 rfl rfl))));refine As ?_;rintro⟨LV,E5⟩ Fo;dsimp only;refine Ag (λhv=>?_) λhv=>?_;subst hv;refine Ly λhl4=>?_;refine As λy5 Ka=>?_;rintro⟨⟩;exact Iw Hd.Aa [⟨.sl (.row 0 3) ((OQ++[LV]).length) (rows Gn (OQ++[LV])),.sl (.row 0 3) ((OQ++[LV]).length) (rows Gn (OQ++[LV])),(.under (Z9 rfl (Cf _ _ (BP.A3 (OQ++[LV])))))⟩] [] (Ac 300 [pb Fl,pb H9,AG (Qk Fo),Qg (aEL (.row 0 3) OQ [LV] (o:=.full) (n:=1) (ns:=(Gn LV)) (BP.wn [LV] (.r (.r (.r .nil)))) rfl rfl (by simp) (by simpa using hl4)),pk,AG (Rt Ka)]) (by kernel_rfl) (k [bT,(jv j0 1),bT,bF,bT,bT,bF])
 subst hv;rintro⟨⟩;exact Ax (v:=.C4 [.sl .full 0 [],.zi 61,.zi at6]) _ _ (Ac 300 [pb Fl,pb H9,AG (Qk Fo)]) (by kernel_rfl) (.Ge k) (.wn (.u (.z (.r (.r .nil))) .nil) (A3 (BP.Ks []) (A3 rfl (A3 rfl rfl))));rintro⟨⟩;exact Dx (Ac 300 [pb Fl]) (by kernel_rfl) (k (js 7 j0 [(2,bF)]));rintro Y0 aGA;rintro⟨⟩;exact Ax (v:=.C4 [.sl (.row 0 3) Y0.length (rows Gn Y0),.zi 0,.zi 0]) _ _ (Ip 300 []) (by kernel_rfl) .body (.wn (.u (.s rfl (.r (.r .nil))) .nil) (A3 (BP.Ks Y0) (A3 rfl (A3 rfl rfl))))
def B3:Code:=AY Tryz.f3
def b3:Tryz.f3.body=some B3:=by kernel_rfl
end Mo
end Go.Proofs.YtpbkhogolfegfaaGreatDoor
namespace Go.Proofs.YtpbkhogolfegfaaGreatDoor
open AI Go
namespace Mo
set_option maxRecDepth 100000
set_option maxHeartbeats 4000000
variable {mx:Int}
def B4:Code:=AY Tryz.f4
def b4:Tryz.f4.body=some B4:=by kernel_rfl
def B6:Code:=AY Tryz.f6
def b6:Tryz.f6.body=some B6:=by kernel_rfl
def B28:Code:=AY Tryz.f28
def b28:Tryz.f28.body=some B28:=by kernel_rfl
def My(n:Int):Option ByteArray:=(Ha [aBN,aBM,qX,Ie,qY,Uf] (aC (w64 n) 6)).bind λx1=>some x1
def YJ{n:Int}{yR:ByteArray}(h:My  n=some yR):Pure P (G mx) 28 [.sc (.int .u8 n)] (.zs yR):=by
 unfold My at h;refine CN Hd.mixed Hd.Aa (Au Tryz.func28 b28 ?_) (A3 rfl rfl) rfl;revert h;refine As λx1 nT=>?_;rintro⟨⟩;exact rT [pk,IR (aFX .full nT)]
def B7:Code:=AY Tryz.f7
def b7:Tryz.f7.body=some B7:=by kernel_rfl
def Dv(N7:(List Int))(i0:Nat)(e0:Tk)(b9:(List Int)):Option (Lp (List Int) (List Int) Bool):=cond (NS ((b9.length:Nat):Int) 6000) (cond (Dh ((e0.text.data.toList.length:Nat):Int) 0) (none) (M6 (b9.length+e0.text.data.toList.length) (cond (Ev ((i0:Nat):Int) ((N7.length:Nat):Int)) ((N7[i0]?).bind λx4=>(My x4).bind λy5=>cond (Dh ((y5.data.toList.length:Nat):Int) 0) (none) (M6 ((b9++xM e0.text).length+y5.data.toList.length) (some (.nx ((b9++xM e0.text)++xM y5))))) (M6 ((b9++xM e0.text).length+1) (some (.nx ((b9++xM e0.text)++[32]))))))) (some (.ex b9))
def Gr(IS:(List Dg))(i1:Nat)(e1:Dg) :Option (Lp Unit Unit Bool):=(IS[i1]?).bind λx11=>cond (Dh e1.err x11.err) (some (.nx ())) (some (.rt false))
def GR(source:ByteArray)(N7:(List Int)):Option Bool:=(Kb).bind λy1=>(Lb source).bind λ(JM,EL,y2c)=>cond (Dh EL 0) ((S6 JM.length (CQ (λi y x=>Dv  N7 i y x) (λx=>x) (JM.drop 0) 0 [])).bind (L8 (λ(xG:(List Int))=>cond (Ev 6000 ((xG.length:Nat):Int)) (some y1) ((CS source).bind λ(y9a,UD)=>(CS (arY xG)).bind λ(Te,IS)=>cond (Dh ((UD.length:Nat):Int) ((IS.length:Nat):Int)) ((S6 UD.length (CQ (λi y x=>Gr  IS i y ) (λx=>()) (UD.drop 0) 0 ())).bind (L8 (λ(_:Unit)=>cond y1 ((Iy y9a).bind λy13=>(Iy Te).bind λy14=>(LI y13 y14).bind λy15=>some y15) (some false)) (λv=>some v))) (some false))) (λv=>some v))) (some y1)
def RH{source:ByteArray}{N7:(List Int)}{yR:Bool}(h:GR  source N7=some yR):Pure P (G mx) 7 [.zs source,.sl .lost N7.length (rows XG N7)] (.zb yR):=by
 unfold GR at h;refine CN Hd.mixed Hd.Aa (Au Tryz.func7 b7 ?_) (A3 rfl (A3 (uD.Ks N7) rfl)) rfl;revert h;refine As λy1 Cg=>?_;refine As ?_;rintro⟨JM,EL,y2c⟩ DZ;dsimp only;refine Ag (λA2=>?_) λA2=>?_;refine RB (λQ v=>Kz P Tryz.f7 0 Q (.zb v)) (λi0 (b9:(List Int)) (j0:List Value)=>fr 103 [(0,.zs source),(1,.sl .lost N7.length (rows XG N7)),(5,.zb y1),(6,.sl .lost JM.length (rows Gn JM)),(9,.sl (.row 0 1) b9.length (rows XG b9)),(10,.zi ((i0:Nat):Int))] [4,16,24,25,29,30,33,34,47,60,61,77,81,93,95,96,101,102] j0) (λ(b9:(List Int))=>⟨[],0,[(0,b9.length)],1⟩) (λ(b9:(List Int)) (jx:List Value)=>fr 103 [(0,.zs source),(5,.zb y1),(9,.sl (.row 0 1) b9.length (rows XG b9))] [4,16,24,25,29,30,33,34,47,60,61,77,81,93,95,96,101,102] jx) (λ(b9:(List Int))=>⟨[],0,[(0,b9.length)],1⟩) [bF,.bool y1,bF] (Hb [.t 9 1] 0 (sb B7 1012) [.code (sb B7 127)] (Ac 300 [AG (Rm Cg),AG (Sr DZ),pn A2]) (by kernel_rfl)) ?_ ?_ ?_ (λv h=>by cases h;exact .outer .body);rintro i0 b9 j0 hge hq;exact Dx (Ac 300 [pb (fA hge)]) (by kernel_rfl) (hq (js 18 j0 [(4,bF),(5,bF),(6,undef),(7,bF)]));rintro i0 e0 b9 j0 r QN PS P6 k;show Dv  N7 i0 e0 b9=some r->_;unfold Dv;refine Ag (λhb3=>?_) λhb3=>?_;refine Ag (λFl=>?_) λFl=>?_;exact YV;refine Ly λhl3=>?_;let o1:List (PC P (G mx)):=[pb (WD PS),pb hb3,IR (aOQ .lost QN),Qg (tM (.row 0 1) b9 e0.text (by have:=Wo Fl;omega) hl3)];refine Ag (λH9=>?_) λH9=>?_;refine As λx4 hx4=>?_;refine As λy5 Ka=>?_;refine Ag (λI5=>?_) λI5=>?_;exact YV;refine Ly λhl6=>?_;rintro⟨⟩;exact GB (Ac 300 (o1++[pb H9,IR (aOR .lost hx4),AG (YJ Ka),Qg (tM (.row 0 1) (b9++xM e0.text) y5 (by have:=Wo I5;omega) hl6),pi P6])) (by kernel_rfl) (k (js 18 j0 [(4,bT),(5,bT),(6,bT),(7,bT),(8,bT)]));refine Ly λhl7=>?_;rintro⟨⟩;exact GB (Ac 300 (o1++[pb H9,Qg (aEM (.row 0 1) (b9++xM e0.text) [32] (o:=.full) (n:=1) (ns:=[.sc (.int .u8 32)]) (uD.wn [32] (.r .nil)) rfl rfl (by simp) (by simpa using hl7)),pi P6])) (by kernel_rfl) (k (js 18 j0 [(4,bT),(5,bT),(6,bT),(7,bT),(8,bF)]))
 rintro⟨⟩;exact Dx (Ac 300 [pb (WD PS),pb hb3]) (by kernel_rfl) (k (js 18 j0 [(4,bT),(5,bT),(6,bF),(7,bF)]));rintro xG aOU;refine Ag (λJi=>?_) λJi=>?_;rintro⟨⟩;exact Ax _ _ (Ip 300 [pb Ji]) (by kernel_rfl) .body .sc;refine As ?_;rintro⟨y9a,UD⟩ U6;dsimp only;refine As ?_;rintro⟨Te,IS⟩ OP;dsimp only;let o2:List (PC P (G mx)):=[pb Ji,AG (Ju U6),pcv (axP (.row 0 1) xG),AG (Ju OP)];refine Ag (λKv=>?_) λKv=>?_;refine RB (λQ v=>Kz P Tryz.f7 0 Q (.zb v)) (λi1 (_:Unit) (j1:List Value)=>fr 103 [(5,.zb y1),(11,.ptr 0 0),(12,.sl .lost UD.length (rows Pq UD)),(13,.ptr 1 0),(14,.sl .lost IS.length (rows Pq IS)),(79,.zi ((UD.length:Nat):Int)),(80,.zi ((i1:Nat):Int))] [4,16,24,25,29,30,33,34,47,60,61,77,81,93,95,96,101,102] j1) (λ(_:Unit)=>⟨[(1,.cells (CW Te)),(0,.cells (CW y9a))],2,[(0,xG.length)],1⟩) (λ(_:Unit) (jx:List Value)=>fr 103 [(5,.zb y1),(11,.ptr 0 0),(13,.ptr 1 0)] [4,16,24,25,29,30,33,34,47,60,61,77,81,93,95,96,101,102] jx) (λ(_:Unit)=>⟨[(1,.cells (CW Te)),(0,.cells (CW y9a))],2,[(0,xG.length)],1⟩) (js 18 aOU [(9,bF),(11,bF)]) (Hb [] 2 (sb B7 32756) [.code (sb B7 4095)] (Ip 300 (o2++[pn Kv])) (by kernel_rfl)) ?_ ?_ ?_ (λv h=>by cases h;exact .outer .body);rintro i1 ⟨⟩ j1 hge hq;exact Dx (Ac 300 [pb (fA hge)]) (by kernel_rfl) (hq (js 18 j1 [(12,bF)]));rintro i1 e1 ⟨⟩ j1 r he1 hi1 mi1 k;show Gr  IS i1 e1 =some r->_;unfold Gr;refine As λx11 aoL=>?_;refine Ag (λJL=>?_) λJL=>?_;rintro⟨⟩;exact GB (Ac 300 [pb (WD hi1),IR (kC .lost he1),IR (kC .lost aoL),pn JL,pi mi1]) (by kernel_rfl) (k (js 18 j1 [(12,bT),(13,bF)]));rintro⟨⟩;exact Ax _ _ (Ac 300 [pb (WD hi1),IR (kC .lost he1),IR (kC .lost aoL),pn JL]) (by kernel_rfl) (.Ge k) .sc;rintro⟨⟩ avJ;refine Ag (λhv=>?_) λhv=>?_;subst hv;refine As λy13 T1=>?_;refine As λy14 VO=>?_;refine As λy15 YD=>?_;rintro⟨⟩;exact Ax _ _ (Ip 300 [AG (O7 T1),AG (O7 VO),AG (TD YD)]) (by kernel_rfl) .body .sc;subst hv;rintro⟨⟩;exact Ax _ _ (Ip 300 []) (by kernel_rfl) .body .sc;rintro⟨⟩;exact Ax _ _ (Ip 300 (o2++[pn Kv])) (by kernel_rfl) .body .sc;rintro⟨⟩;exact rT [AG (Rm Cg),AG (Sr DZ),pn A2]
def B9:Code:=AY Tryz.f9
def b9:Tryz.f9.body=some B9:=by kernel_rfl
end Mo
end Go.Proofs.YtpbkhogolfegfaaGreatDoor

namespace Go.Proofs.YtpbkhogolfegfaaGreatDoor
open AI Go
namespace Mo
set_option maxRecDepth 100000
set_option maxHeartbeats 4000000
def xR(s:ByteArray):Prop:=s.data.toList.length=3/\∀c∈s.data.toList,65<=c.toNat/\c.toNat<=90
def Vp(s:ByteArray):Prop:=s=Hk\/s=EG\/s=JV\/xR s
def wR(c:UInt8):Prop:=(97<=c.toNat/\c.toNat<=122)\/(48<=c.toNat/\c.toNat<=57)\/c.toNat=95
def uC:List ByteArray:=[Tt,O4,Iu,adT,vG,tJ,toS,VP,cP,SW,QF,Hk,EG,JV,apH,Tq,Mg,Pv,Ty,kV,PW,VV,iJ,Zq,TW,dC,LM,dO,QS,VC,KW,F3,Q7]
def Rq(s:ByteArray):Prop:=(1<=s.data.toList.length/\s.data.toList.length<=16)/\(∃b,s.data.toList[0]?=some b/\97<=b.toNat/\b.toNat<=122)/\s∉uC/\∀c∈s.data.toList,wR c
def YW{n:Nd}(h:KY n):n.CO.ps.length<=9223372036854775807/\n.kids.length<=9223372036854775807/\∀k∈n.kids,KY k:=by
 obtain⟨a,b,c⟩:=(P8 n).1 h;exact⟨a.1,b,c⟩
def agO{α:Type}{l:List α}{P:α->Prop}:(∀(i:Nat) (y:α),l[i]?=some y->P y)↔∀y∈l,P y :=
 ⟨λh y hy=>(List.getElem?_of_mem hy).elim λi hi=>h i y hi,λh i y hi=>h y (List.mem_of_getElem? hi)⟩
def afT(s:ByteArray):IA s=some (mb (s∈uC)):=by
 rw[IA];simp only[R9,Nw,kI,aAQ];refine smb ?_;simp only[uC,List.mem_cons,List.not_mem_nil,or_false]
def awB(s:ByteArray):s=ByteArray.empty↔s.data.toList.length=0:=by
 constructor;intro h;rw[h];rfl;intro h;apply ByteArray.ext;apply Array.ext';rw[List.eq_nil_of_length_eq_zero h];rfl
def tL(s:ByteArray):Ec s=some (mb (Rq s)):=by
 rw[Ec];simp only[R9,Pz,Nw,afT,Option.bind_some];unfold Rq;by_cases h0:s=ByteArray.empty;rw[CI h0];exact fX λh=>by have:=(awB s).1 h0;omega
 have h1:s.data.toList.length≠0:=λh=>h0 ((awB s).2 h);rw[CL h0];by_cases h2:16 < ((s.data.toList.length:Nat):Int);rw[CI h2];exact fX λh=>by omega
 rw[CL h2];obtain⟨b,hb⟩:∃b,s.data.toList[0]?=some b:=⟨_,List.getElem?_eq_getElem (by omega)⟩
 rw[hb,eV (v:=false) (P:=λ_ y=>wR y) (by omega) (λi y _=>by
   simp only[IZ,Pz,Ls,Nw,aGB,aAH,aoW,aAG,aoX,aOX,aOW];congr 2;unfold wR;apply propext;omega)]
 simp only[Option.bind_some,kI,aPA,agO];refine smb ?_;constructor;rintro⟨h3,h4,h5,h6⟩;exact⟨by omega,⟨b,rfl,by omega⟩,h5,h6⟩;rintro⟨h3,⟨c,hc,h4⟩,h5,h6⟩;cases hc;exact⟨by omega,by omega,h5,h6⟩
def aBF(s:ByteArray):Iz s=some (mb (xR s)):=by
 rw[Iz,Ls,Nw];unfold xR;by_cases h:((s.data.toList.length:Nat):Int)=3
 rw[CI h,eV (v:=false) (P:=λ_ y=>65<=y.toNat/\y.toNat<=90) (by omega) (λi y _=>by
   simp only[Jw,Pz,Nw,aoW,aoX];congr 2;apply propext;omega),kI,agO]
 exact smb ⟨λh2=>⟨by omega,h2⟩,λh2=>h2.2⟩;rw[CL h];exact fX λh2=>h (by omega)
def vE(s:ByteArray):EP s=some (mb (Vp s)):=by
 rw[EP];simp only[R9,Nw,aBF,Option.bind_some,aAQ];rfl
def PJ(n:Int):Prop:=1<=n/\n<=1000000
def Vf(n:Int):DS n=some (mb (PJ n)):=by
 rw[DS];simp only[T3,Nw,kI,aAP];rfl
def acY(n:Int):Prop:=0<=n/\n<=36524
def dP(s:ByteArray):Prop:=s=LM\/s=dO\/s=QS\/s=VC
def ahK(s:ByteArray):Gt s=some (mb (dP s)):=by
 rw[Gt];simp only[R9,Nw,kI,aAQ];rfl
def ahM(a b:List Pc)(ha:a.length<=9223372036854775807):Ln a b=some (mb (a=b)):=by
 rw[Ln,Ls,Nw];by_cases h:((a.length:Nat):Int)=((b.length:Nat):Int)
 rw[CI h,eV (v:=false) (P:=λi y=>b[i]?=some y) ha (λi y hy=>by
   have hi:i < a.length:=(List.getElem?_eq_some_iff.1 hy).1;have hb:b[i]?=some b[i]:=List.getElem?_eq_getElem (by omega);simp only[Mf];rw[hb];simp only[Option.bind_some]
   have hs:PK y b[i]=mb (b[i]?=some y):=by
     rw[Bool.eq_iff_iff,Dy,hb];unfold PK;simp only[Bool.and_eq_true,QL,beq_iff_eq,Option.some.injEq];generalize b[i]=z;cases y;cases z;simp only[Pc.mk.injEq];grind
   rw[hs,Nw,aGB,hb]),kI]
 refine smb ⟨λh2=>?_,λh2 i y hy=>by rw[<- h2];exact hy⟩;apply List.ext_getElem?;intro i;by_cases hi:i < a.length;rw[List.getElem?_eq_getElem hi,h2 i _ (List.getElem?_eq_getElem hi)];rw[List.getElem?_eq_none (by omega),List.getElem?_eq_none (by omega)];rw[CL h];exact fX λh2=>h (by rw[h2])
def GA(n f:Nd):Prop:=n.name=f.name/\n.unit=f.unit/\n.n=f.n/\n.fr=f.fr/\n.to=f.to/\n.known=f.known/\n.CO.den=f.CO.den/\n.CO.ps=f.CO.ps
def X2(n f:Nd)(h:n.CO.ps.length<=9223372036854775807):B0 n f=some (mb (GA n f)):=by
 rw[B0,ahM _ _ h];simp only[R9,Ls,Nw,Option.bind_some,aAP];rfl
end Mo
end Go.Proofs.YtpbkhogolfegfaaGreatDoor
namespace Go.Proofs.YtpbkhogolfegfaaGreatDoor
open AI Go
namespace Mo
set_option maxRecDepth 100000
set_option maxHeartbeats 4000000
def qH{p:Prop}(h:¬p):mb p=false:=by rw[WG];exact h
def Out(r:Option (Bool×Int))(P:Prop)(t:Int):Prop:=∃z,r=some (mb P,z)/\(P->z=t)
def Out.congr{r:Option (Bool×Int)}{P Q:Prop}{t u:Int}(h:Out r P t)(hp:P↔Q)(ht:Q->t=u):Out r Q u:=by
 obtain⟨z,h1,h2⟩:=h;exact⟨z,by rw[h1,MA hp],λq=>(h2 (hp.2 q)).trans (ht q)⟩
def Kw{Q:Prop}{z u:Int}(h:¬Q):Out (some (false,z)) Q u:=⟨z,by rw[qH h],λq=>absurd q h⟩
def Ve{P Q:Prop}{u:Int}(h:P↔Q):Out (some (mb P,u)) Q u:=⟨u,by rw[MA h],λ_=>rfl⟩
def Iq{p Q:Prop}{A:Option (Bool×Int)}{z u:Int}(h:p->Out A Q u)(hq:Q->p):Out (Lh p A (some (false,z))) Q u:=by
 by_cases hp:p;rw[CI hp];exact h hp;rw[CL hp];exact Kw λq=>hp (hq q)
def kX{p Q:Prop}{A:Option (Bool×Int)}{z u:Int}(h:¬p->Out A Q u)(hq:Q->¬p):Out (Lh p (some (false,z)) A) Q u:=by
 by_cases hp:p;rw[CI hp];exact Kw λq=>hq q hp;rw[CL hp];exact h hp
mutual
def DW:Nd->Nat
 | ⟨_,_,_,_,_,_,_,_,kids,_⟩=>1+Gu kids
def Gu:List Nd->Nat
 | []=>0
 | k::ks=>DW k+Gu ks
end
mutual
def Mx:Nd->Nat
 | ⟨_,_,_,_,_,_,_,_,kids,_⟩=>1+Xg kids
def Xg:List Nd->Nat
 | []=>0
 | k::ks=>max (Mx k) (Xg ks)
end
def F0(n:Nd):DW n=1+Gu n.kids:=by cases n;rw[DW]
def N3(n:Nd):Mx n=1+Xg n.kids:=by cases n;rw[Mx]
def Yc{l:List Nd}{m:Nat}:Xg l<=m↔∀k∈l,Mx k<=m:=by
 induction l with
 | nil=>simp[Xg]
 | cons a l ih=>simp only[Xg,Nat.max_le,ih,List.mem_cons,forall_eq_or_imp]
def NL{l:List Nd}{k:Nd}(h:k∈l):DW k<=Gu l:=by
 induction l with
 | nil=>cases h
 | cons a l ih =>
   rw[Gu];rcases List.mem_cons.1 h with rfl | h
   omega;have:=ih h;omega
def SR(l:List Nd):l.length<=Gu l:=by
 induction l with
 | nil=>simp[Gu]
 | cons a l ih=>rw[Gu,F0];simp only[List.length_cons];omega
def SS{n k:Nd}(h:k∈n.kids):DW k < DW n:=by rw[F0 n];have:=NL h;omega
def R0{g:Ck->Nd->Int->Option (Bool×Int)}{p:Nd->Prop}{d:Int}:∀{l:List Nd} {i:Nat} {c:Int},0<=c->c<=2000->(∀k∈l,∀c:Int,0<=c->c<=2000->Out (g ⟨c⟩ k d) (p k/\c+DW k<=2000/\d+Mx k<=41) (c+DW k)) ->
   Out ((CQ (δ:=Int) (ρ:=Bool×Int) (λ_ y (x:Int)=>(g ⟨x⟩ y d).bind λ(Es,Bm)=>cond Es (some (.nx Bm)) (some (.rt (false,Bm)))) (λx=>x) l i c).bind (L8 (λ(w:Int)=>some (true,w)) (λv=>some v)))
     ((∀k∈l,p k/\d+Mx k<=41)/\c+Gu l<=2000) (c+Gu l)
 | [],i,c,h0,h1,_=>⟨c,by rw[Dy.2 ⟨λk hk=>(by cases hk),by simp only[Gu];omega⟩];rfl,λ_=>by simp[Gu]⟩
 | y::l,i,c,h0,h1,hg=>by
   obtain⟨z,hz,h2⟩:=hg y (by simp) c h0 h1;rw[CQ,hz];simp only[Option.bind_some];by_cases hp:p y/\c+DW y<=2000/\d+Mx y<=41;rw[Dy.2 hp,h2 hp];show Out ((CQ _ _ l (i+1) (c+DW y)).bind _) _ _;refine(R0 (l:=l) (i:=i+1) (c:=c+DW y) (by omega) hp.2.1 λk hk=>hg k (by simp[hk])).congr ?_ ?_;rw[Gu];simp only[List.mem_cons,forall_eq_or_imp,Int.natCast_add];constructor;rintro⟨a,b⟩;exact⟨⟨⟨hp.1,hp.2.2⟩,a⟩,by omega⟩;rintro⟨⟨_,a⟩,b⟩;exact⟨a,by omega⟩;intro _;rw[Gu];omega;rw[qH hp];refine⟨z,?_,λq=>?_⟩;show some (false,z)=_;rw[qH];rintro⟨a,b⟩;rw[Gu] at b;have:=a y (by simp);exact hp ⟨this.1,by omega,this.2⟩;exfalso;obtain⟨a,b⟩:=q;rw[Gu] at b;have:=a y (by simp);exact hp ⟨this.1,by omega,this.2⟩
def YU(n:Nd){c d:Int}(h0:0<=c)(h1:c<=2000):Out (Cw ⟨c⟩ n d) (c+1<=2000/\d<=40) (c+1):=by
 rw[Cw,Dq (by show _<=c+1/\c+1<=_;omega)];simp only[T3,Nw,Option.bind_some];by_cases h:c+1<=2000;rw[CI h];exact Ve ⟨λa=>⟨h,a⟩,λa=>a.2⟩;rw[CL h];exact Kw λa=>h a.1
def fI(f:Fn)(i:Nat)(p:Pc):Prop:=p.fr<=999999999999/\(∀q,0 < i->f.ps[i - 1]?=some q->q.fr < p.fr)/\Ye p.AW f.den=some 0/\p.AW<=BS 999999999999 f.den/\BS (-999999999999) f.den<=p.AW/\p.MT<=1000000/\-1000000<=p.MT
def mJ(f:Fn):Prop:=PJ f.den/\(1<=f.ps.length/\f.ps.length<=64)/\(∀x,f.ps[0]?=some x->x.fr=0)/\∀(i:Nat) p,f.ps[i]?=some p->fI f i p
def aHM(f:Fn)(hl:f.ps.length<=9223372036854775807):GU f=some (mb (mJ f)):=by
 rw[GU,Vf];simp only[Option.bind_some,Nw,Pz,Ls];unfold mJ;by_cases hr:PJ f.den;rotate_left;rw[CL hr];exact fX λh=>hr h.1;rw[CI hr];by_cases h1:((f.ps.length:Nat):Int) < 1;rw[CI h1];exact fX λh=>by omega
 rw[CL h1];by_cases h2:64 < ((f.ps.length:Nat):Int);rw[CI h2];exact fX λh=>by omega
 rw[CL h2];have hx0:f.ps[0]?=some f.ps[0]:=List.getElem?_eq_getElem (by omega);rw[hx0];simp only[Option.bind_some];by_cases h3:f.ps[0].fr=0;rotate_left;rw[CL h3];exact fX λh=>h3 (h.2.2.1 _ rfl);rw[CI h3];have aMY:f.den≠0:=by unfold PJ at hr;omega
 rw[eV (v:=false) (P:=λi y=>fI f i y) hl (λi y hy=>by
   have hi:i < f.ps.length:=(List.getElem?_eq_some_iff.1 hy).1;simp only[Ir,Pz,Nw,T3,Ls];have hd:∃z,Ye y.AW f.den=some z:=by unfold Ye;rw[if_neg aMY];exact⟨_,rfl⟩
   obtain⟨z,hz⟩:=hd;unfold fI;rw[hz];by_cases h0:(0:Int) < ((i:Nat):Int);rw[CI h0,KQ (by omega)];have hq:f.ps[i - 1]?=some f.ps[i - 1]:=List.getElem?_eq_getElem (by omega)
   have hg:Ha f.ps (((i:Nat):Int) - 1)=some f.ps[i - 1]:=by
     unfold Ha;rw[show(((i:Nat):Int) - 1).toNat=i - 1 by omega];simp only[hq]
     first | rfl | (rw[if_pos (by omega)])
   rw[hg,hq];simp only[Option.bind_some,aoW,aoX,aAH,aAG];congr 2;apply propext;simp only[Option.some.injEq,forall_eq'];grind;rw[CL h0];simp only[Option.bind_some,aoW,aoX,aAH,aAG];congr 2;apply propext;simp only[Option.some.injEq];have:¬0 < i:=by omega
   grind),kI]
 refine smb ⟨λh=>⟨hr,by omega,λx hx=>by cases hx;exact h3,h⟩,λh=>h.2.2.2⟩
def YX(s:ByteArray):Prop:=s=ED\/s=kV\/s=PW\/s=GX\/s=Ig\/s=Kf\/s=Hj\/s=Oy\/s=Li\/s=PH\/s=iJ
def QU(k:Nd):Prop:=k.kind=11/\k.unit=EG/\PJ k.n
def S4(n:Nd):Prop :=
 (n.kind=11/\Vp n.unit/\0<=n.n/\n.n<=999999999999/\(n.unit=Hk->n.n<=1)/\n.kids.length=0/\GA n ⟨0,ByteArray.empty,n.unit,n.n,0,0,0,⟨0,[]⟩,[],0⟩) \/
 (n.kind=12/\Rq n.name/\n.kids.length=0/\GA n ⟨0,n.name,ByteArray.empty,0,0,0,0,⟨0,[]⟩,[],0⟩) \/
 (n.kind=13/\PJ n.n/\n.kids.length=0/\GA n ⟨0,ByteArray.empty,ByteArray.empty,n.n,0,0,0,⟨0,[]⟩,[],0⟩) \/
 (n.kind=14/\dP n.name/\n.kids.length=0/\GA n ⟨0,n.name,ByteArray.empty,0,0,0,0,⟨0,[]⟩,[],0⟩) \/
 (n.kind=15/\n.kids.length=1/\GA n ⟨0,ByteArray.empty,ByteArray.empty,0,0,0,0,⟨0,[]⟩,[],0⟩) \/
 (n.kind=16/\GA n ⟨0,n.name,ByteArray.empty,0,0,0,0,⟨0,[]⟩,[],0⟩/\n.kids.length=2/\YX n.name/\(n.name=ED->∀k,n.kids[1]?=some k->QU k)) \/
 (n.kind=17/\(n.name=KW\/n.name=F3)/\GA n ⟨0,n.name,ByteArray.empty,0,0,0,0,⟨0,[]⟩,[],0⟩/\2<=n.kids.length) \/
 (n.kind=18/\GA n ⟨0,ByteArray.empty,ByteArray.empty,0,0,0,0,n.CO,[],0⟩/\mJ n.CO/\n.kids.length=1)
mutual
def J7:Nd->Prop
 | ⟨kind,name,unit,n,fr,to,known,CO,kids,AW⟩=>S4 ⟨kind,name,unit,n,fr,to,known,CO,kids,AW⟩/\adP kids
def adP:List Nd->Prop
 | []=>True
 | k::ks=>J7 k/\adP ks
end
def adQ{l:List Nd}:adP l↔∀k∈l,J7 k:=by
 induction l with
 | nil=>simp[adP]
 | cons k l ih=>simp[adP,ih]
def Js(n:Nd):J7 n↔S4 n/\∀k∈n.kids,J7 k:=by cases n;rw[J7,adQ]
end Mo
end Go.Proofs.YtpbkhogolfegfaaGreatDoor
namespace Go.Proofs.YtpbkhogolfegfaaGreatDoor
open AI Go
namespace Mo
set_option maxRecDepth 100000
set_option maxHeartbeats 4000000
def MD{r:Option (Bool×Int)}{P Q:Prop}{t u:Int}{f:Bool×Int->Option (Bool×Int)}(h:Out r P t)(hT:P->Out (f (true,t)) Q u)(hF:∀z,¬P->Out (f (false,z)) Q u):Out (r.bind f) Q u:=by
 obtain⟨z,rfl,h2⟩:=h;by_cases hp:P;rw[Dy.2 hp,h2 hp];exact hT hp;rw[qH hp];exact hF z hp
def aBD{Q:Prop}{t u:Int}(hq:Q)(h:t=u):Out (some (true,t)) Q u:=⟨t,by rw[Dy.2 hq],λ_=>h⟩
def MC{r:Option (Bool×Int)}{P Q:Prop}{t u:Int}(h:Out r P t)(hp:P↔Q)(ht:P->t=u):Out (r.bind λ(a,b)=>some (a,b)) Q u :=
 MD h (λp=>aBD (hp.1 p) (ht p)) λ_ p=>Kw λq=>p (hp.2 q)
section
variable {p q r:Prop} {z:Int}
def fG:Lh p (some (mb q,z)) (some (false,z))=some (mb (p/\q),z):=by
 by_cases h:p;rw[CI h];congr 2;exact MA ⟨λa=>⟨h,a⟩,λa=>a.2⟩;rw[CL h,qH];exact λa=>h a.1
def qT:Lh p (some (false,z)) (some (mb q,z))=some (mb (¬p/\q),z):=by
 by_cases h:p;rw[CI h,qH];exact λa=>a.1 h;rw[CL h];congr 2;exact MA ⟨λa=>⟨h,a⟩,λa=>a.2⟩
def zL:Lh p (some (mb q,z)) (some (mb r,z))=some (mb ((p->q)/\(¬p->r)),z):=by
 by_cases h:p;rw[CI h];congr 2;exact MA ⟨λa=>⟨λ_=>a,λb=>absurd h b⟩,λa=>a.1 h⟩;rw[CL h];congr 2;exact MA ⟨λa=>⟨λb=>absurd b h,λ_=>a⟩,λa=>a.2 h⟩
end
section
variable {n:Nd}
def aMA(h:n.kind=11):S4 n↔Vp n.unit/\0<=n.n/\n.n<=999999999999/\(n.unit=Hk->n.n<=1)/\n.kids.length=0/\GA n ⟨0,ByteArray.empty,n.unit,n.n,0,0,0,⟨0,[]⟩,[],0⟩:=by unfold S4;simp[h]
def aMB(h:n.kind=12):S4 n↔Rq n.name/\n.kids.length=0/\GA n ⟨0,n.name,ByteArray.empty,0,0,0,0,⟨0,[]⟩,[],0⟩:=by unfold S4;simp[h]
def aMC(h:n.kind=13):S4 n↔PJ n.n/\n.kids.length=0/\GA n ⟨0,ByteArray.empty,ByteArray.empty,n.n,0,0,0,⟨0,[]⟩,[],0⟩:=by unfold S4;simp[h]
def aMD(h:n.kind=14):S4 n↔dP n.name/\n.kids.length=0/\GA n ⟨0,n.name,ByteArray.empty,0,0,0,0,⟨0,[]⟩,[],0⟩:=by unfold S4;simp[h]
def aME(h:n.kind=15):S4 n↔n.kids.length=1/\GA n ⟨0,ByteArray.empty,ByteArray.empty,0,0,0,0,⟨0,[]⟩,[],0⟩:=by unfold S4;simp[h]
def aMF(h:n.kind=16):S4 n↔GA n ⟨0,n.name,ByteArray.empty,0,0,0,0,⟨0,[]⟩,[],0⟩/\n.kids.length=2/\YX n.name/\(n.name=ED->∀k,n.kids[1]?=some k->QU k):=by unfold S4;simp[h]
def aMG(h:n.kind=17):S4 n↔(n.name=KW\/n.name=F3)/\GA n ⟨0,n.name,ByteArray.empty,0,0,0,0,⟨0,[]⟩,[],0⟩/\2<=n.kids.length:=by unfold S4;simp[h]
def aMH(h:n.kind=18):S4 n↔GA n ⟨0,ByteArray.empty,ByteArray.empty,0,0,0,0,n.CO,[],0⟩/\mJ n.CO/\n.kids.length=1:=by unfold S4;simp[h]
def anN(h:S4 n):n.kind=11\/n.kind=12\/n.kind=13\/n.kind=14\/n.kind=15\/n.kind=16\/n.kind=17\/n.kind=18:=by
 unfold S4 at h;rcases h with h | h | h | h | h | h | h | h
 all_goals
   have:=h.1;simp[this]
end
def O1(l:List Nd)(c d:Int):Prop:=(∀k∈l,J7 k/\d+Mx k<=41)/\c+Gu l<=2000
def avM{l:List Nd}{c d:Int}(h:l.length=0)(hc:c<=2000):O1 l c d/\c=c+Gu l:=by
 obtain rfl:=List.eq_nil_of_length_eq_zero h;exact⟨⟨(λk hk=>(by cases hk)),(by simp only[Gu];omega)⟩,(by simp[Gu])⟩
def avN{x:Nd}{c d:Int}:O1 [x] c d↔J7 x/\c+DW x<=2000/\d+Mx x<=41:=by
 unfold O1;simp only[List.mem_singleton,forall_eq,Gu,Nat.add_zero];exact⟨λa=>⟨a.1.1,a.2,a.1.2⟩,λa=>⟨⟨a.1,a.2.2⟩,a.2.1⟩⟩
def kE{x y:Nd}{c d:Int}:O1 [x,y] c d↔(J7 x/\c+DW x<=2000/\d+Mx x<=41)/\J7 y/\c+DW x+DW y<=2000/\d+Mx y<=41:=by
 unfold O1;simp only[List.mem_cons,List.not_mem_nil,or_false,forall_eq_or_imp,forall_eq,Gu,Nat.add_zero,Int.natCast_add];constructor;rintro⟨⟨⟨a,b⟩,c',d'⟩,e⟩;exact⟨⟨a,by omega,b⟩,c',by omega,d'⟩;rintro⟨⟨a,b,c'⟩,d',e,f⟩;exact⟨⟨⟨a,c'⟩,d',f⟩,by omega⟩
abbrev ExS(g:Ck->Nd->Int->Option (Bool×Int))(n:Nd):Prop:=∀(c d:Int),0<=c->c<=2000->0<=d->d<=41->Out (g ⟨c⟩ n d) (J7 n/\c+DW n<=2000/\d+Mx n<=41) (c+DW n)
def bG{g:Ck->Nd->Int->Option (Bool×Int)}{b a:Ck->Nd->Int->Option (Bool×Int)}{l:Ck->List Nd->Int->Option (Bool×Int)}{n:Nd}(h:ExS g n){c d:Int}(h0:0<=c)(h1:c<=2000)(h2:0<=d)(h3:d<=41) :
   Out (C8 g b a l ⟨c⟩ n d) ((J7 n/\QU n)/\c+DW n<=2000/\d+Mx n<=41) (c+DW n):=by
 rw[C8];simp only[Ls,R9,Nw,Vf,Option.bind_some];refine MD (h c d h0 h1 h2 h3) (λhp=>?_) λz hp=>Kw λq=>hp ⟨q.1.1,q.2⟩;show Out (Lh (n.kind=11) (Lh (n.unit=EG) (some (mb (PJ n.n),c+DW n)) (some (false,c+DW n))) (some (false,c+DW n))) _ _;rw[fG,fG];exact Ve ⟨λa=>⟨⟨hp.1,a⟩,hp.2⟩,λa=>a.1.2⟩
def xI{g n':Ck->Nd->Int->Option (Bool×Int)}{b:Ck->Nd->Int->Option (Bool×Int)}{l:Ck->List Nd->Int->Option (Bool×Int)}{n:Nd}(hg:∀k∈n.kids,ExS g k)
   (hn:∀k∈n.kids,∀c d:Int,0<=c->c<=2000->0<=d->d<=41->Out (n' ⟨c⟩ k d) ((J7 k/\QU k)/\c+DW k<=2000/\d+Mx k<=41) (c+DW k)) {c d:Int} (h0:0<=c) (h1:c<=2000) (h2:0<=d) (h3:d<=40) :
   Out (C7 g b n' l ⟨c⟩ n d) ((n.kids.length=2/\YX n.name/\(n.name=ED->∀k,n.kids[1]?=some k->QU k))/\O1 n.kids c (d+1)) (c+Gu n.kids):=by
 rw[C7,Dq (by omega)];simp only[Ls,R9,Nw];generalize hl:n.kids=ks at *;by_cases hlen:((ks.length:Nat):Int)=2;rotate_left;rw[CL hlen];exact Kw λq=>hlen (by have:=q.1.1;omega);rw[CI hlen]
 match ks,hlen with
 | [x,y],_ =>
 simp only[List.getElem?_cons_zero,List.getElem?_cons_succ,Option.bind_some];refine MD (hg x (by simp) c (d+1) h0 h1 (by omega) (by omega)) (λhx=>?_) λz hx=>Kw λq=>hx (kE.1 q.2).1;dsimp only;rw[cond_true];have hsz:Gu [x,y]=DW x+DW y:=by simp[Gu]
 have hy:=λhc=>hg y (by simp) (c+DW x) (d+1) (by omega) hc (by omega) (by omega);have hn':=λhc=>hn y (by simp) (c+DW x) (d+1) (by omega) hc (by omega) (by omega);have hy:=hy hx.2.1;have hn':=hn' hx.2.1;by_cases hs:n.name=ED;rw[CI hs];refine MC hn' ⟨λa=>⟨⟨rfl,.inl hs,λ_ k hk=>by cases hk;exact a.1.2⟩,kE.2 ⟨hx,a.1.1,a.2⟩⟩,λa=>?_⟩ (λa=>by rw[hsz];omega);have:=(kE.1 a.2).2;exact⟨⟨this.1,a.1.2.2 hs y rfl⟩,this.2⟩;rw[CL hs]
 have fin:∀jV:YX n.name,Out ((g ⟨c+DW x⟩ y (d+1)).bind λ(a,b)=>some (a,b)) ((([x,y]:List Nd).length=2/\YX n.name/\(n.name=ED->∀k,some y=some k->QU k))/\O1 [x,y] c (d+1)) (c+Gu [x,y]):=λjV =>
   MC hy ⟨λa=>⟨⟨rfl,jV,λe=>absurd e hs⟩,kE.2 ⟨hx,a⟩⟩,λa=>(kE.1 a.2).2⟩ (λa=>by rw[hsz];omega)
 have step:∀{s:ByteArray} {A:Option (Bool×Int)},(n.name=s->YX n.name)->(n.name≠s->Out A ((([x,y]:List Nd).length=2/\YX n.name/\(n.name=ED->∀k,some y=some k->QU k))/\O1 [x,y] c (d+1)) (c+Gu [x,y])) ->
     Out (Lh (n.name=s) ((g ⟨c+DW x⟩ y (d+1)).bind λ(a,b)=>some (a,b)) A) ((([x,y]:List Nd).length=2/\YX n.name/\(n.name=ED->∀k,some y=some k->QU k))/\O1 [x,y] c (d+1)) (c+Gu [x,y]):=by
   intro s A h4 h5;by_cases h:n.name=s;rw[CI h];exact fin (h4 h);rw[CL h];exact h5 h
 refine step (λe=>by unfold YX;simp[e]) λe1=>?_;refine step (λe=>by unfold YX;simp[e]) λe2=>?_;refine step (λe=>by unfold YX;simp[e]) λe3=>?_;refine step (λe=>by unfold YX;simp[e]) λe4=>?_;refine step (λe=>by unfold YX;simp[e]) λe5=>?_;refine step (λe=>by unfold YX;simp[e]) λe6=>?_;refine step (λe=>by unfold YX;simp[e]) λe7=>?_;refine step (λe=>by unfold YX;simp[e]) λe8=>?_;refine step (λe=>by unfold YX;simp[e]) λe9=>?_;refine step (λe=>by unfold YX;simp[e]) λe10=>?_
 exact Kw λq=>by
   have:=q.1.2.1;unfold YX at this;simp[hs,e1,e2,e3,e4,e5,e6,e7,e8,e9,e10] at this
def afX{A L B T:Prop}{x:Int}:(A/\¬x < 0/\¬999999999999 < x/\(T->¬1 < x/\L/\B)/\(¬T->L/\B))↔A/\0<=x/\x<=999999999999/\(T->x<=1)/\L/\B:=by
 constructor;rintro⟨a,b,c,d,e⟩;by_cases t:T;exact⟨a,by omega,by omega,λ_=>by have:=(d t).1;omega,(d t).2⟩;exact⟨a,by omega,by omega,λh=>absurd h t,e t⟩;rintro⟨a,b,c,d,e⟩;exact⟨a,by omega,by omega,λt=>⟨by have:=d t;omega,e⟩,λ_=>e⟩
def adN:∀(q:Nat) (n:Nd),KY n->3*DW n<=q->ExS (AJ q) n:=by
 intro q
 induction q using Nat.strongRecOn with
 | _ q ih =>
 intro n U3 hq c d h0 h1 h2 h3;have hsz:=F0 n;obtain⟨q,rfl⟩:∃k,q=k+1:=⟨q - 1,by omega⟩;obtain⟨tU,hkl,gZ⟩:=YW U3;have hE:∀k∈n.kids,∀q',q<=q'+2->q' < q+1->ExS (AJ q') k:=λk hk q' h4 h5=>ih q' h5 k (gZ k hk) (by have:=NL hk;omega);rw[AJ,Ee];refine MD (YU n h0 h1) (λhp=>?_) λz hp=>Kw λa=>hp ⟨by omega,by have:=N3 n;omega⟩;dsimp only;rw[cond_true];refine Out.congr (P:=S4 n/\O1 n.kids (c+1) (d+1)) (t:=(c+1)+Gu n.kids) ?_ ?_ (λ_=>by omega);rotate_left;rw[Js,N3];unfold O1;have hd:=@Yc n.kids;constructor;rintro⟨a,b,e⟩;refine⟨⟨a,λk hk=>(b k hk).1⟩,by omega,?_⟩;have:=(hd (m:=(40 - d).toNat)).2 λk hk=>by have:=(b k hk).2;omega
 omega;rintro⟨⟨a,b⟩,e,f⟩;refine⟨a,λk hk=>⟨b k hk,?_⟩,by omega⟩;have:=(hd (m:=Xg n.kids)).1 (Nat.le_refl _) k hk;omega;have hc1:=hp.1;have hd1:=hp.2;rw[Dq (a:=d) (b:=1) (by omega)];have e0:(((n.kids.length:Nat):Int)=0)=(n.kids.length=0):=propext (by omega);simp only[Ls,T3,Pz,R9,Nw,vE,tL,Vf,ahK,aHM _ tU,X2 _ _ tU,Option.bind_some,e0];have Yz:∀{B:Prop},(B↔S4 n)->(B->n.kids.length=0)->Out (some (mb B,c+1)) (S4 n/\O1 n.kids (c+1) (d+1)) (c+1+Gu n.kids):=λhB hk=>(Ve hB).congr ⟨λa=>⟨a,(avM (hk (hB.2 a)) hc1).1⟩,λa=>a.1⟩ λa=>(avM (d:=d+1) (hk (hB.2 a.1)) hc1).2
 have hone:∀{B:Prop},(S4 n↔B/\n.kids.length=1)->B->n.kids.length=1->Out ((n.kids[0]?).bind λx=>(AJ q ⟨c+1⟩ x (d+1)).bind λ(a,b)=>some (a,b)) (S4 n/\O1 n.kids (c+1) (d+1)) (c+1+Gu n.kids):=by
   intro B hB hb hl;have Gv:=λk hk=>hE k hk q (by omega) (by omega);have hx:=hB.2 ⟨hb,hl⟩;generalize n.kids=ks at *
   match ks,hl with
   | [x],_ =>
   simp only[List.getElem?_cons_zero,Option.bind_some];refine MC (Gv x (by simp) (c+1) (d+1) (by omega) hc1 (by omega) (by omega)) ⟨λa=>⟨hx,avN.2 a⟩,λa=>avN.1 a.2⟩ λ_=>?_;simp[Gu]
 by_cases k11:n.kind=11;rw[CI k11];simp only[fG,qT,zL];refine Yz ?_ ?_;rw[aMA k11];exact afX;intro h;exact(afX.1 h).2.2.2.2.1;rw[CL k11];by_cases k12:n.kind=12;rw[CI k12];simp only[fG,qT,zL];refine Yz ?_ ?_;rw[aMB k12];intro h;exact h.2.1;rw[CL k12];by_cases k13:n.kind=13;rw[CI k13];simp only[fG,qT,zL];refine Yz ?_ ?_;rw[aMC k13];intro h;exact h.2.1;rw[CL k13];by_cases k14:n.kind=14;rw[CI k14];simp only[fG,qT,zL];refine Yz ?_ ?_;rw[aMD k14];intro h;exact h.2.1;rw[CL k14];by_cases k15:n.kind=15;rw[CI k15];have e:=aME k15;refine Iq (λhl=>Iq (λhb=>hone (e.trans And.comm) hb (by omega)) λa=>(e.1 a.1).2) λa=>?_;have:=(e.1 a.1).1;omega;rw[CL k15];by_cases k16:n.kind=16;rw[CI k16];have e:=aMF k16;refine Iq (λhb=>?_) λa=>(e.1 a.1).1;obtain⟨q,rfl⟩:∃k,q=k+1:=⟨q - 1,by omega⟩;rw[AZ];refine MC (xI (g:=AJ q) (b:=AZ q) (n':=AL q) (l:=AH q) (λk hk=>hE k hk q (by omega) (by omega)) (λk hk c d a1 a2 a3 a4=>?_) (by omega) hc1 h2 hd1) ?_ λ_=>rfl;obtain⟨q,rfl⟩:∃k,q=k+1:=⟨q - 1,by have:=SS hk;have:=F0 k;omega⟩;rw[AL];exact bG (hE k hk q (by omega) (by omega)) a1 a2 a3 a4;rw[e];exact⟨λa=>⟨⟨hb,a.1⟩,a.2⟩,λa=>⟨a.1.2,a.2⟩⟩;rw[CL k16];by_cases k17:n.kind=17;rw[CI k17];have e:=aMG k17
 have Hg:(n.name=KW\/n.name=F3)->Out (Lh (GA n ⟨0,n.name,ByteArray.empty,0,0,0,0,⟨0,[]⟩,[],0⟩) (Lh (2<=((n.kids.length:Nat):Int)) ((AH q ⟨c+1⟩ n.kids (d+1)).bind λ(a,b)=>some (a,b)) (some (false,c+1))) (some (false,c+1))) (S4 n/\O1 n.kids (c+1) (d+1)) (c+1+Gu n.kids):=by
   intro hn;refine Iq (λhb=>Iq (λhl=>?_) λa=>?_) λa=>(e.1 a.1).2.1;obtain⟨q,rfl⟩:∃k,q=k+1:=⟨q - 1,by have:=SR n.kids;omega⟩;rw[AH,Dj,QR hkl,List.drop_zero];dsimp only;refine MC (R0 (g:=AJ q) (p:=J7) (d:=d+1) (by omega) hc1 λk hk c' b0 b1=>hE k hk q (by omega) (by omega) c' (d+1) b0 b1 (by omega) (by omega)) ?_ λ_=>rfl;rw[e];exact⟨λa=>⟨⟨hn,hb,by omega⟩,a⟩,λa=>a.2⟩;have:=(e.1 a.1).2.2;omega
 by_cases hn1:n.name=KW;rw[CI hn1];exact Hg (.inl hn1);rw[CL hn1];exact Iq (λhn2=>Hg (.inr hn2)) λa=>(e.1 a.1).1.resolve_left hn1;rw[CL k17];by_cases k18:n.kind=18;rw[CI k18];have e:=aMH k18;refine Iq (λhb=>Iq (λht=>Iq (λhl=>hone (B:=GA n ⟨0,ByteArray.empty,ByteArray.empty,0,0,0,0,n.CO,[],0⟩/\mJ n.CO) (e.trans (by rw[and_assoc])) ⟨hb,ht⟩ (by omega)) λa=>?_) λa=>(e.1 a.1).2.1) λa=>(e.1 a.1).1;have:=(e.1 a.1).2.2;omega;rw[CL k18];exact Kw λa=>by have:=anN a.1;omega
def Le{β:Type}(a b:Option β):Prop:=∀y,a=some y->b=some y
section
variable {α β γ δ ρ:Type}
def Le.refl(a:Option β):Le a a:=λ_ h=>h
def O2{a a':Option α}{f g:α->Option β}(h:Le a a')(k:∀x,Le (f x) (g x)):Le (a.bind f) (a'.bind g):=by
 intro y hy;cases a with
 | none=>cases hy
 | some x=>rw[h x rfl];exact k x y hy
def uE{b:Bool}{x x' y y':Option β}(h:Le x x')(k:Le y y'):Le (cond b x y) (cond b x' y'):=by cases b;exact k;exact h
def aAL{n:Nat}{x x':Option β}(h:Le x x'):Le (S6 n x) (S6 n x'):=by
 unfold S6;split;exact h;exact Le.refl _
def uF{body auM:Nat->α->γ->Option (Lp γ δ ρ)}{done:γ->δ}(h:∀i y x,Le (body i y x) (auM i y x)):∀(l:List α) (i:Nat) (x:γ),Le (CQ body done l i x) (CQ auM done l i x)
 | [],_,_=>Le.refl _
 | a::l,i,x=>by
   rw[CQ,CQ];refine O2 (h i a x) λz=>?_;cases z with
   | nx x'=>exact uF h l (i+1) x'
   | ex d=>exact Le.refl _
   | rt v=>exact Le.refl _
end
def dT:∀q:Nat,(∀c n d,Le (AJ q c n d) (AJ (q+1) c n d))/\(∀c n d,Le (AZ q c n d) (AZ (q+1) c n d))/\(∀c n d,Le (AL q c n d) (AL (q+1) c n d))/\(∀c n d,Le (AH q c n d) (AH (q+1) c n d))
 | 0=>⟨(λ_ _ _ _ h=>nomatch h),(λ_ _ _ _ h=>nomatch h),(λ_ _ _ _ h=>nomatch h),(λ_ _ _ _ h=>nomatch h)⟩
 | q+1=>by
   obtain⟨i1,i2,i3,i4⟩:=dT q;refine⟨λc n d=>?_,λc n d=>?_,λc n d=>?_,λc n d=>?_⟩
   · rw[AJ,AJ,Ee,Ee]
     repeat' first
       | exact Le.refl _
       | exact i1 _ _ _
       | exact i2 _ _ _
       | exact i4 _ _ _
       | refine uE ?_ ?_
       | refine O2 ?_ λ⟨_,_⟩=>?_
       | refine O2 ?_ λ_=>?_
   · rw[AZ,AZ,C7,C7]
     repeat' first
       | exact Le.refl _
       | exact i1 _ _ _
       | exact i3 _ _ _
       | refine uE ?_ ?_
       | refine O2 ?_ λ⟨_,_⟩=>?_
       | refine O2 ?_ λ_=>?_
   rw[AL,AL,C8,C8];exact O2 (i1 _ _ _) λ_=>Le.refl _;rw[AH,AH,Dj,Dj];refine O2 (aAL (uF (λi y x=>?_) _ _ _)) λ_=>Le.refl _;rw[DQ,DQ];exact O2 (i1 _ _ _) λ_=>Le.refl _
def adM{β:Type}{f:Nat->Option β}(h:∀q,Le (f q) (f (q+1))){q:Nat}{y:β}(hy:f q=some y):evt f=some y:=by
 refine Yj q λm hm=>?_
 induction m with
 | zero=>obtain rfl:q=0:=by omega
         exact hy
 | succ m ih =>
   rcases Nat.lt_or_ge m q with hlt | hge
   obtain rfl:q=m+1:=by omega
   exact hy;exact h m y (ih hge)
def adO{n:Nd}(U3:KY n):ExS G6 n:=by
 intro c d h0 h1 h2 h3;obtain⟨z,hz,hz2⟩:=adN (3*DW n) n U3 (Nat.le_refl _) c d h0 h1 h2 h3;exact⟨z,adM (λq=>(dT q).1 _ _ _) hz,hz2⟩
def ahA{n:Nd}(U3:KY n){c d:Int}(h0:0<=c)(h1:c<=2000)(h2:0<=d)(h3:d<=41):Out (F4 ⟨c⟩ n d) ((J7 n/\QU n)/\c+DW n<=2000/\d+Mx n<=41) (c+DW n):=by
 obtain⟨z,hz,hz2⟩:=bG (g:=AJ (3*DW n)) (b:=AZ (3*DW n)) (a:=AL (3*DW n)) (l:=AH (3*DW n)) (adN (3*DW n) n U3 (Nat.le_refl _)) h0 h1 h2 h3;exact⟨z,adM (q:=3*DW n+1) (λq=>(dT q).2.2.1 _ _ _) (by rw[AL];exact hz),hz2⟩
end Mo
end Go.Proofs.YtpbkhogolfegfaaGreatDoor
namespace Go.Proofs.YtpbkhogolfegfaaGreatDoor
open AI Go
namespace Mo
set_option maxRecDepth 100000
set_option maxHeartbeats 4000000
abbrev z0:Nd:=⟨0,ByteArray.empty,ByteArray.empty,0,0,0,0,⟨0,[]⟩,[],0⟩
def aBG(n:Int):GJ n=some (mb (acY n)):=by
 rw[GJ];simp only[T3,Nw,kI,aAP];rfl
def Rk(n:Nd):Prop:=n.kind=5/\(0<=n.n/\n.n<=1000000)/\n.kids.length=0/\acY n.fr/\(n.fr < n.to/\n.to<=36525)/\acY n.known/\GA n ⟨0,ByteArray.empty,ByteArray.empty,n.n,n.fr,n.to,n.known,⟨0,[]⟩,[],0⟩
def KN(n:Nd):Prop:=GA n z0/\(n.kind=7->0 < n.kids.length/\∀k∈n.kids,J7 k/\QU k)/\(n.kind≠7->n.kids.length=1/\∀k∈n.kids,J7 k)
def uG{n:Nd}(h:n.kids.length=0):DW n=1/\Mx n=1:=by
 have:=List.eq_nil_of_length_eq_zero h;rw[F0,N3,this];exact⟨rfl,rfl⟩
def ayV{n:Nd}(U3:KY n){c d:Int}(h0:0<=c)(h1:c<=2000):Out (Fp ⟨c⟩ n d) (Rk n/\c+DW n<=2000/\d+Mx n<=41) (c+DW n):=by
 obtain⟨tU,hkl,gZ⟩:=YW U3;have hsz:=F0 n;have hdp:=N3 n;rw[Fp];refine MD (YU n h0 h1) (λhp=>?_) λz hp=>Kw λa=>hp ⟨by omega,by omega⟩;dsimp only;rw[cond_true];simp only[Ls,T3,Pz,Nw,aBG,X2 _ _ tU,Option.bind_some,fG,qT]
 have key:(n.kind=5/\¬n.n < 0/\¬1000000 < n.n/\¬(0:Int) < ((n.kids.length:Nat):Int)/\acY n.fr/\¬n.to<=n.fr/\¬36525 < n.to/\acY n.known/\GA n ⟨0,ByteArray.empty,ByteArray.empty,n.n,n.fr,n.to,n.known,⟨0,[]⟩,[],0⟩)↔Rk n:=by
   unfold Rk;constructor;rintro⟨a,b,c',e,f,g,h,i,j⟩;exact⟨a,⟨by omega,by omega⟩,by omega,f,⟨by omega,by omega⟩,i,j⟩;rintro⟨a,b,c',f,g,i,j⟩;exact⟨a,by omega,by omega,by omega,f,by omega,by omega,i,j⟩
 refine(Ve key).congr ⟨λa=>⟨a,?_⟩,λa=>a.1⟩ λa=>?_;have:=uG a.2.2.1;omega;have:=uG a.1.2.2.1;omega
def acQ{n:Nd}(U3:KY n){c d:Int}(h0:0<=c)(h1:c<=2000)(h2:0<=d):Out (DK ⟨c⟩ n d) (KN n/\c+DW n<=2000/\d+Mx n<=41) (c+DW n):=by
 obtain⟨tU,hkl,gZ⟩:=YW U3;have hsz:=F0 n;have hdp:=N3 n;have hd:=@Yc n.kids;rw[DK];refine MD (YU n h0 h1) (λhp=>?_) λz hp=>Kw λa=>hp ⟨by omega,by omega⟩;dsimp only;rw[cond_true,Dq (a:=d) (b:=1) (by omega)];simp only[Ls,Pz,Nw,X2 _ _ tU,Option.bind_some];have hc1:=hp.1;have hd1:=hp.2
 have SH:(∀k∈n.kids,d+1+Mx k<=41)↔d+Mx n<=41:=by
   constructor;intro h;have:=(hd (m:=(40 - d).toNat)).2 λk hk=>by have:=h k hk;omega
   omega;intro h k hk;have:=(hd (m:=Xg n.kids)).1 (Nat.le_refl _) k hk;omega
 refine Iq (λhb=>?_) λa=>a.1.1;by_cases k7:n.kind=7;rw[CI k7];refine Iq (λhl=>?_) λa=>by have:=(a.1.2.1 k7).1;omega
 rw[EI,QR hkl,List.drop_zero];dsimp only;refine MC (R0 (g:=F4) (p:=λk=>J7 k/\QU k) (d:=d+1) (by omega) hc1 λk hk c' b0 b1=>ahA (gZ k hk) b0 b1 (by omega) (by omega)) ⟨λa=>⟨⟨hb,λ_=>⟨by omega,λk hk=>(a.1 k hk).1⟩,λh=>absurd k7 h⟩,by omega,SH.1 λk hk=>(a.1 k hk).2⟩,λa=>⟨λk hk=>⟨(a.1.2.1 k7).2 k hk,SH.2 a.2.2 k hk⟩,by omega⟩⟩ λ_=>by omega
 · rw[CL k7]
   refine Iq (λhl=>?_) λa=>by have:=(a.1.2.2 k7).1;omega
   have hl1:n.kids.length=1:=by omega
   unfold KN;generalize n.kids=ks at *
   match ks,hl1 with
   | [x],_ =>
   simp only[List.getElem?_cons_zero,Option.bind_some];have e1:Gu [x]=DW x:=by simp[Gu]
   refine MC (adO (gZ x (by simp)) (c+1) (d+1) (by omega) hc1 (by omega) (by omega)) ⟨λa=>⟨⟨hb,λh=>absurd h k7,λ_=>⟨rfl,λk hk=>by rw[List.mem_singleton.1 hk];exact a.1⟩⟩,by omega,SH.1 λk hk=>by rw[List.mem_singleton.1 hk];exact a.2.2⟩,λa=>⟨(a.1.2.2 k7).2 x (by simp),by omega,SH.2 a.2.2 x (by simp)⟩⟩ λ_=>by omega
def Hq(k:Int):List Nd->Nat
 | []=>0
 | a::l=>(if a.kind=k then 1 else 0)+Hq k l
def kinds(l:List Nd):Prop:=∀k∈l,6<=k.kind/\k.kind<=8
def YH{y:Int}:∀{l:List Nd} {i:Nat} {a b c:Int},0<=a->0<=b->0<=c->a+l.length<=9223372036854775807->b+l.length<=9223372036854775807->c+l.length<=9223372036854775807 ->
   CQ (λi z x=>D1 y i z x.1 x.2.1 x.2.2) (λx=>(x.1,x.2.1,x.2.2)) l i (a,b,c)=some (Lh (kinds l) (.inl (a+Hq 6 l,b+Hq 7 l,c+Hq 8 l)) (.inr (false,y)))
 | [],i,a,b,c,_,_,_,_,_,_=>by rw[CI (show kinds [] from λk hk=>(by cases hk))];simp[CQ,Hq]
 | z::l,i,a,b,c,h1,h2,h3,h4,h5,h6=>by
   simp only[List.length_cons] at h4 h5 h6;rw[CQ,D1];simp only[Pz,Ls,Nw];have hk:kinds (z::l)↔(6<=z.kind/\z.kind<=8)/\kinds l:=by unfold kinds;simp
   have go:∀{a' b' c':Int},0<=a'->0<=b'->0<=c'->a'<=a+1->b'<=b+1->c'<=c+1->6<=z.kind/\z.kind<=8->a'+Hq 6 l=a+Hq 6 (z::l)->b'+Hq 7 l=b+Hq 7 (z::l)->c'+Hq 8 l=c+Hq 8 (z::l) ->
       (some (Lp.nx (a',b',c'))).bind (Ri (CQ (λi z x=>D1 y i z x.1 x.2.1 x.2.2) (λx=>(x.1,x.2.1,x.2.2)) l (i+1)))=some (Lh (kinds (z::l)) (.inl (a+Hq 6 (z::l),b+Hq 7 (z::l),c+Hq 8 (z::l))) (.inr (false,y))):=by
     intro a' b' c' g1 g2 g3 g4 g5 g6 gk e1 e2 e3;show CQ _ _ l (i+1) (a',b',c')=_;rw[YH g1 g2 g3 (by omega) (by omega) (by omega),e1,e2,e3];by_cases hl:kinds l;rw[CI hl,CI (hk.2 ⟨gk,hl⟩)];rw[CL hl,CL λq=>hl (hk.1 q).2]
   by_cases k6:z.kind < 6;rw[CI k6,CL λq=>by have:=(hk.1 q).1;omega];rfl;rw[CL k6];by_cases k8:8 < z.kind;rw[CI k8,CL λq=>by have:=(hk.1 q).1;omega];rfl;rw[CL k8];by_cases e6:z.kind=6;rw[CI e6,Dq (by omega)];exact go (by omega) h2 h3 (by omega) (by omega) (by omega) (by omega) (by simp[Hq,e6];omega) (by simp[Hq,e6]) (by simp[Hq,e6]);rw[CL e6];by_cases e7:z.kind=7;rw[CI e7,Dq (by omega)];exact go h1 (by omega) h3 (by omega) (by omega) (by omega) (by omega) (by simp[Hq,e7]) (by simp[Hq,e7];omega) (by simp[Hq,e7]);rw[CL e7];have e8:z.kind=8:=by omega
   rw[CI e8,Dq (by omega)];exact go h1 h2 (by omega) (by omega) (by omega) (by omega) (by omega) (by simp[Hq,e8]) (by simp[Hq,e8]) (by simp[Hq,e8];omega)
def xA(n:Nd):Prop:=PJ n.n/\Rq n.name/\GA n ⟨0,n.name,ByteArray.empty,n.n,0,0,0,⟨0,[]⟩,[],0⟩/\∃h cs,n.kids=h::cs/\kinds cs/\Hq 8 cs=1/\Hq 7 cs<=1/\Rk h/\∀k∈cs,KN k
def IT(n:Nd):Prop :=
 (n.kind=2/\Rq n.name/\Vp n.unit/\n.kids.length=0/\GA n ⟨0,n.name,n.unit,0,0,0,0,⟨0,[]⟩,[],0⟩) \/
 (n.kind=3/\Rq n.name/\Vp n.unit/\1<=n.n/\n.n<=4/\n.kids.length=0/\GA n ⟨0,n.name,n.unit,n.n,0,0,0,⟨0,[]⟩,[],0⟩) \/
 (n.kind=4/\xA n)
def it2{n:Nd}(h:n.kind=2):IT n↔Rq n.name/\Vp n.unit/\n.kids.length=0/\GA n ⟨0,n.name,n.unit,0,0,0,0,⟨0,[]⟩,[],0⟩:=by unfold IT;simp[h]
def it3{n:Nd}(h:n.kind=3):IT n↔Rq n.name/\Vp n.unit/\1<=n.n/\n.n<=4/\n.kids.length=0/\GA n ⟨0,n.name,n.unit,n.n,0,0,0,⟨0,[]⟩,[],0⟩:=by unfold IT;simp[h]
def it4{n:Nd}(h:n.kind=4):IT n↔xA n:=by unfold IT;simp[h]
def aoU{n:Nd}(h:IT n):n.kind=2\/n.kind=3\/n.kind=4:=by
 unfold IT at h;rcases h with h | h | h
 all_goals
   have:=h.1;simp[this]
def aAB{n:Nd}(U3:KY n){c d:Int}(h0:0<=c)(h1:c<=2000)(h2:0<=d):Out (Ef ⟨c⟩ n d) (IT n/\c+DW n<=2000/\d+Mx n<=41) (c+DW n):=by
 obtain⟨tU,hkl,gZ⟩:=YW U3;have hsz:=F0 n;have hdp:=N3 n;have hd:=@Yc n.kids;rw[Ef];refine MD (YU n h0 h1) (λhp=>?_) λz hp=>Kw λa=>hp ⟨by omega,by omega⟩;dsimp only;rw[cond_true,Dq (a:=d) (b:=1) (by omega)];have e0:(((n.kids.length:Nat):Int)=0)=(n.kids.length=0):=propext (by omega);simp only[Ls,T3,Pz,Nw,vE,tL,Vf,X2 _ _ tU,Option.bind_some,e0];have hc1:=hp.1;have hd1:=hp.2;have Yz:∀{B:Prop},(B↔IT n)->(B->n.kids.length=0)->Out (some (mb B,c+1)) (IT n/\c+DW n<=2000/\d+Mx n<=41) (c+DW n):=λhB hk=>(Ve hB).congr ⟨λa=>⟨a,by have:=uG (hk (hB.2 a));omega⟩,λa=>a.1⟩ λa=>by have:=uG (hk (hB.2 a.1));omega
 by_cases k2:n.kind=2;rw[CI k2];simp only[fG,qT,zL];refine Yz ?_ ?_;rw[it2 k2];intro h;exact h.2.2.1;rw[CL k2];by_cases k3:n.kind=3;rw[CI k3];simp only[fG,qT,zL];refine Yz ?_ ?_;rw[it3 k3];intro h;exact h.2.2.2.2.1;rw[CL k3];by_cases k4:n.kind=4;rotate_left;rw[CL k4];exact Kw λa=>by have:=aoU a.1;omega
 rw[CI k4,it4 k4];refine Iq (λhr=>Iq (λhn=>Iq (λhb=>?_) λa=>a.1.2.2.1) λa=>a.1.2.1) λa=>a.1.1;refine kX (λhl0=>?_) λa h=>by obtain⟨h',cs,hk,_⟩:=a.1.2.2.2;rw[hk] at h;simp at h
 have SH:(∀k∈n.kids,d+1+Mx k<=41)↔d+Mx n<=41:=by
   constructor;intro h;have:=(hd (m:=(40 - d).toNat)).2 λk hk=>by have:=h k hk;omega
   omega;intro h k hk;have:=(hd (m:=Xg n.kids)).1 (Nat.le_refl _) k hk;omega
 unfold xA;generalize n.kids=ks at *
 match ks,hl0 with
 | x::l,_ =>
 have L4:ajM (x::l) 1 (((x::l).length:Nat):Int)=some l:=by
   unfold ajM;rw[if_pos (by simp only[List.length_cons];omega)];simp
 rw[L4];simp only[Option.bind_some,List.length_cons] at hkl ⊢
 have e2:∀{A:Prop},(∃h cs,x::l=h::cs/\kinds cs/\Hq 8 cs=1/\Hq 7 cs<=1/\Rk h/\∀k∈cs,KN k)↔(kinds l/\Hq 8 l=1/\Hq 7 l<=1/\Rk x/\∀k∈l,KN k):=by
   intro _;constructor;rintro⟨h,cs,e,r⟩;cases e;exact r;intro r;exact⟨x,l,rfl,r⟩
 rw[QR (by omega),List.drop_zero,YH (by omega) (by omega) (by omega) (by omega) (by omega) (by omega)];simp only[Option.bind_some];by_cases hK:kinds l;rotate_left;rw[CL hK];show Out (some (false,c+1)) _ _;exact Kw λa=>hK ((e2 (A:=True)).1 a.1.2.2.2).1;rw[CI hK];show Out (Lh ((0:Int)+Hq 8 l=1) (Lh (1 < (0:Int)+Hq 7 l) (some (false,c+1)) _) (some (false,c+1))) _ _;refine Iq (λh8=>kX (λh7=>?_) λa=>?_) λa=>?_;rotate_left;have:=((e2 (A:=True)).1 a.1.2.2.2).2.2.1;omega;have:=((e2 (A:=True)).1 a.1.2.2.2).2.1;omega;simp only[List.getElem?_cons_zero,Option.bind_some];have hdx:=λh=>SH.2 h x (by simp);have hsl:Gu (x::l)=DW x+Gu l:=by simp[Gu]
 refine MD (ayV (gZ x (by simp)) (c:=c+1) (d:=d+1) (by omega) hc1) (λhx=>?_) λz hx=>Kw λa=>hx ⟨((e2 (A:=True)).1 a.1.2.2.2).2.2.2.1,by omega,hdx a.2.2⟩;dsimp only;rw[cond_true,EH,QR (by omega),List.drop_zero];dsimp only;refine MC (R0 (g:=DK) (p:=KN) (d:=d+1) (by omega) hx.2.1 λk hk c' b0 b1=>acQ (gZ k (by simp[hk])) b0 b1 (by omega)) ?_ λ_=>by omega
 constructor;rintro⟨a,b⟩;refine⟨⟨hr,hn,hb,(e2 (A:=True)).2 ⟨hK,by omega,by omega,hx.1,λk hk=>(a k hk).1⟩⟩,by omega,SH.1 λk hk=>?_⟩;rcases List.mem_cons.1 hk with rfl | hk
 exact hx.2.2;exact(a k hk).2;rintro⟨a,b,e⟩;exact⟨λk hk=>⟨((e2 (A:=True)).1 a.2.2.2).2.2.2.2 k hk,SH.2 e k (by simp[hk])⟩,by omega⟩
def okV(n:Nd):Prop:=((n.kind=1/\GA n z0/\∀k∈n.kids,IT k)\/(n.kind≠1/\J7 n))/\DW n<=2000/\Mx n<=40
def gG{n:Nd}(U3:KY n):El n=some (mb (okV n)):=by
 obtain⟨tU,hkl,gZ⟩:=YW U3;have hsz:=F0 n;have hdp:=N3 n;have hd:=@Yc n.kids;rw[El,Ls,Nw]
 have fin:∀{r:Option (Bool×Int)} {P:Prop} {t:Int},Out r P t->(P↔okV n)->(r.bind λ(a,_)=>some a)=some (mb (okV n)):=by
   rintro r P t ⟨z,rfl,_⟩ h;rw[MA h];rfl
 by_cases k1:n.kind=1;rotate_left;rw[CL k1];refine fin (adO U3 0 1 (by omega) (by omega) (by omega) (by omega)) ?_;unfold okV;constructor;rintro⟨a,b,c⟩;exact⟨.inr ⟨k1,a⟩,by omega,by omega⟩;rintro⟨a | a,b,c⟩;exact absurd a.1 k1;exact⟨a.2,by omega,by omega⟩;rw[CI k1];obtain⟨z,hz,hz2⟩:=YU n (c:=0) (d:=1) (by omega) (by omega);rw[hz];simp only[Option.bind_some,X2 _ _ tU,Nw];by_cases h1:(0:Int)+1<=2000/\(1:Int)<=40;rotate_left;exact absurd ⟨by omega,by omega⟩ h1;rw[CI h1,hz2 h1];by_cases hb:GA n z0;rotate_left;rw[CL hb];refine fX ?_;rintro⟨a | a,_⟩;exact hb a.2.1;exact a.1 k1;rw[CI hb,Ff,QR hkl,List.drop_zero];dsimp only;refine fin (R0 (g:=Ef) (p:=IT) (d:=2) (by omega) (by omega) λk hk c' b0 b1=>aAB (gZ k hk) b0 b1 (by omega)) ?_;unfold okV;constructor;rintro⟨a,b⟩;refine⟨.inl ⟨k1,hb,λk hk=>(a k hk).1⟩,by omega,?_⟩;have:=(hd (m:=39)).2 λk hk=>by have:=(a k hk).2;omega
 omega;rintro⟨a | a,b,e⟩;refine⟨λk hk=>⟨a.2.2 k hk,?_⟩,by omega⟩;have:=(hd (m:=Xg n.kids)).1 (Nat.le_refl _) k hk;omega;exact absurd k1 a.1
end Mo
end Go.Proofs.YtpbkhogolfegfaaGreatDoor
namespace Go.Proofs.YtpbkhogolfegfaaGreatDoor
open AI Go
namespace Mo
set_option maxRecDepth 100000
abbrev Rd(α:Type):=List Tk->Option ((α⊕Dg)×List Tk)
section
variable {α β:Type}
def GK(a:α):Rd α:=λl=>some (.inl a,l)
def Nb(e p:Int):Rd α:=λl=>some (.inr ⟨e,p⟩,l)
def CF(m:Rd α)(k:α->Rd β):Rd β:=λl=>match m l with
 | none=>none
 | some (.inl a,s)=>k a s
 | some (.inr d,s)=>some (.inr d,s)
def MO(x:Option α)(k:α->Rd β):Rd β:=λl=>match x with
 | none=>none
 | some a=>k a l
def WZ(en:Int)(k:Tk->Rd β):Rd β:=λl=>match l with
 | []=>some (.inr ⟨72,en⟩,[])
 | t::s=>k t (t::s)
def Xw(k:Rd β):Rd β:=λl=>match l with
 | []=>none
 | _::s=>k s
def Ku(x:ByteArray):List Tk->Bool
 | []=>false
 | t::_=>B1 t.text.data.toList x.data.toList
def PI(x:ByteArray)(yes no:Rd β):Rd β:=λl=>cond (Ku x l) (Xw yes l) (no l)
end
def MU(en:Int)(fits:Tk->Option Bool):Rd Tk:=WZ en λt=>MO (fits t) λb=>cond b (Xw (GK t)) (Nb 71 t.AW)
def J8(en:Int)(x:ByteArray):Rd Tk:=MU en λt=>Dt t x
def bC(en:Int):Rd Tk:=MU en Ct
def mL(en:Int):Rd Tk:=MU en Fb
def bM(en:Int):Rd Tk:=MU en BV
def O5(en:Int):Rd (Int×Int):=CF (MU en En) λt=>MO (R4 t.text) λn=>GK (n.1,t.AW)
def Nc(en least:Int):Rd (Int×Int):=CF (O5 en) λp=>cond (Ev p.1 least) (Nb 3 p.2) (cond (Ev 1000000 p.1) (Nb 3 p.2) (GK p))
def Tn(en least:Int):Rd Int:=CF (MU en ES) λt=>MO (Fs t.text) λd=>cond (Dh d.2 0) (cond (Ev d.1 least) (Nb 21 t.AW) (GK d.1)) (Nb 21 t.AW)
abbrev bE:ByteArray:=ByteArray.empty
def FR(kind:Int)(name unit:ByteArray)(n:Int)(kids:List Nd)(p:Int):Nd:=⟨kind,name,unit,n,0,0,0,⟨0,[]⟩,kids,p⟩
def Yv(en:Int):Rd Nd:=CF (J8 en vG) λt=>CF (Nc en 0) λn=>CF (J8 en tJ) λ_=>CF (Tn en 0) λf =>
 PI toS (CF (Tn en (BF f 1)) λu=>CF (J8 en VP) λ_=>CF (Tn en 0) λk=>GK ⟨5,bE,bE,n.1,f,u,k,⟨0,[]⟩,[],t.AW⟩)
   (CF (J8 en VP) λ_=>CF (Tn en 0) λk=>GK ⟨5,bE,bE,n.1,f,36525,k,⟨0,[]⟩,[],t.AW⟩)
def To(en:Int):Rd Nd:=WZ en λt=>Xw<|CF (bC en) λm=>CF (J8 en Vi) λ_=>CF (mL en) λu =>
 cond (B1 t.text.data.toList O4.data.toList)
   (CF (bM en) λr=>MO (Eu r.text) λn=>CF (J8 en RM) λ_=>GK (FR 3 m.text u.text n [] t.AW))
   (CF (J8 en RM) λ_=>GK (FR 2 m.text u.text 0 [] t.AW))
def Hr(en:Int):Rd Nd:=CF (Nc en 1) λp=>GK (FR 11 bE EG p.1 [] p.2)
def Qi{β:Type}(n:Nat)(m:Rd β):Rd β:=λs=>M6 n (m s)
def Sk(read:Rd Nd):Nat->List Nd->Rd (List Nd)
 | 0,_=>λ_=>none
 | q+1,l=>PI Uh (CF read λn=>Qi (l.length+1) (Sk read q (l++[n]))) (GK l)
def TA(read:Rd Nd):Rd (List Nd):=CF read λn s=>Sk read (s.length+1) [n] s
def PM(en:Int):Rd (Int×Int):=CF (MU en Df) λt=>MO (Cu t) λc=>cond (Dh t.kind 3) (cond (Dh c 0) (GK (c,t.AW)) (Nb 3 t.AW)) (GK (c,t.AW))
def Zf(en:Int):Rd Int:=CF (MU en EV) λt=>cond (B1 t.text.data.toList Li.data.toList) (GK (-1)) (GK 1)
def oZ:Nat->Int->Int->Int
 | 0,a,_=>a
 | n+1,a,b=>if b=0 then a else oZ n b (a % b)
def adY(a b:Int):Option Int:=if 1<=a/\0<=b then some (oZ (b.toNat+1) a b) else none
def QZ(en AA from_ a:Int):Rd (Pt×Int):=CF (Zf en) λs=>CF (Nc en 0) λm=>CF (J8 en ED) λ_=>CF (Nc en 1) λd =>
 MO (adY AA d.1) λg=>MO (S3 AA g) λz=>cond (Ev 1000000 (BS z d.1)) (Nb 2 d.2) (GK (⟨from_,a,BS m.1 s,d.1⟩,BS z d.1))
def Pa(en AA from_:Int):Rd (Pt×Int):=CF (J8 en Vi) λ_=>PI Li (CF (PM en) λa=>QZ en AA from_ (BS a.1 (-1))) (CF (PM en) λa=>QZ en AA from_ (BS a.1 1))
def Uc(en:Int)(before:List Pt)(AA:Int):Rd (Pt×Int):=CF (PM en) λv =>
 cond (Dh ((before.length:Nat):Int) 0) (cond (Dh v.1 0) (Pa en AA v.1) (Nb 3 v.2))
   (MO (before[before.length - 1]?) λq=>cond (NS v.1 q.fr) (Nb 3 v.2) (cond (NS 64 ((before.length:Nat):Int)) (Nb 2 v.2) (Pa en AA v.1)))
def ND(en:Int):Nat->List Pt->Int->Rd (List Pt×Int)
 | 0,_,_=>λ_=>none
 | q+1,l,c=>CF (Uc en l c) λp=>Qi (l.length+1) (PI Uh (ND en q (l++[p.1]) p.2) (GK (l++[p.1],p.2)))
def NJ(c p:Int):List Pt->List Pc->Rd (List Pc)
 | [],acc=>GK acc
 | x::xs,acc=>MO (S3 c x.den) λz=>cond (Ev 1000000 (BS x.num z)) (Nb 2 p) (cond (Ev (BS x.num z) (-1000000)) (Nb 2 p) (Qi (acc.length+1) (NJ c p xs (acc++[⟨x.fr,BS x.AW c,BS x.num z⟩]))))
inductive Ek where
 | ex | lv (i:Nat) | at_ | wd (t:Tk) | ca | ta
def Zl(en:Int)(g:Ek->Rd Nd):Rd Nd:=CF (J8 en Q7) λt=>CF (J8 en Ug) λ_=>CF (g .ex) λa=>CF (J8 en RM) λ_=>CF (λs=>ND en (s.length+1) [] 1 s) λl=>CF (J8 en V1) λe =>
 Qi l.1.length (CF (NJ l.2 e.AW l.1 []) λr=>GK ⟨18,bE,bE,0,0,0,0,⟨l.2,r⟩,[a],t.AW⟩)
def X6(en:Int)(g:Ek->Rd Nd)(li:Rd (List Nd)):Rd Nd:=WZ en λt=>Xw<|CF (J8 en Ug) λ_=>CF (g .ex) λa=>CF (J8 en Uh) λ_=>CF li λl=>Qi (1+l.length)<|CF (J8 en V1) λ_=>GK (FR 17 t.text bE 0 (a::l) t.AW)
def Wm(t:Tk):Rd Nd:=Xw (GK (FR 14 t.text bE 0 [] t.AW))
def TJ(en:Int)(g:Ek->Rd Nd)(t:Tk):Rd Nd :=
 cond (B1 t.text.data.toList Zq.data.toList) (Xw (GK (FR 11 bE Hk 1 [] t.AW))) <|
 cond (B1 t.text.data.toList TW.data.toList) (Xw (GK (FR 11 bE Hk 0 [] t.AW))) <|
 cond (B1 t.text.data.toList dC.data.toList) (Xw (CF (Nc en 1) λp=>GK (FR 13 bE bE p.1 [] t.AW))) <|
 cond (B1 t.text.data.toList LM.data.toList) (Wm t)<|cond (B1 t.text.data.toList dO.data.toList) (Wm t)<|cond (B1 t.text.data.toList QS.data.toList) (Wm t)<|cond (B1 t.text.data.toList VC.data.toList) (Wm t) <|
 cond (B1 t.text.data.toList KW.data.toList) (g .ca)<|cond (B1 t.text.data.toList F3.data.toList) (g .ca)<|cond (B1 t.text.data.toList Q7.data.toList) (g .ta) <|
 cond (B1 t.text.data.toList Ug.data.toList) (Xw (CF (g .ex) λa=>CF (J8 en V1) λ_=>GK a)) (Nb 71 t.AW)
def aH(en:Int)(g:Ek->Rd Nd):Rd Nd:=WZ en λt =>
 cond (Dh t.kind 3) (CF (O5 en) λn=>PI apH (GK (FR 11 bE JV n.1 [] n.2)) (GK (FR 11 bE EG n.1 [] n.2)))
   (cond (Dh t.kind 2) (Xw (CF (MU en EQ) λa=>MO (Cu a) λc=>GK (FR 11 bE t.text c [] t.AW)))
     (MO (Ct t) λb=>cond b (Xw (GK (FR 12 t.text bE 0 [] t.AW))) (g (.wd t))))
def opsOf:Nat->List ByteArray
 | 0=>[kV]
 | 1=>[PW]
 | 3=>[GX,Ig,Kf,Hj,JI,FX]
 | 4=>[Oy,Li]
 | 5=>[PH,ED,iJ]
 | _=>[]
def qQ{β:Type}(yes:ByteArray->Rd β)(no:Rd β):List ByteArray->Rd β
 | []=>no
 | x::xs=>PI x (yes x) (qQ yes no xs)
def Sw(en:Int)(sub:Rd Nd)(op:ByteArray)(l:Nd):Rd Nd:=CF (cond (B1 op.data.toList ED.data.toList) (Hr en) sub) λr=>MO (Bl op l r) λb=>GK b
def L0(en:Int)(ops:List ByteArray)(sub:Rd Nd):Nat->Nd->Rd Nd
 | 0,_=>λ_=>none
 | q+1,l=>qQ (λop=>CF (Sw en sub op l) λb=>L0 en ops sub q b) (GK l) ops
def Py(en:Int)(g:Ek->Rd Nd)(i:Nat):Rd Nd:=CF (g (.lv (i+1))) λl s=>L0 en (opsOf i) (g (.lv (i+1))) (s.length+1) l s
def iT(en:Int)(g:Ek->Rd Nd):Rd Nd:=CF (g (.lv 4)) λl=>qQ (λop=>Sw en (g (.lv 4)) op l) (GK l) (opsOf 3)
def Z0(en:Int)(g:Ek->Rd Nd):Rd Nd:=λs=>cond (Ku VV s) (CF (J8 en VV) (λt=>CF (g (.lv 2)) λk=>GK (FR 15 bE bE 0 [k] t.AW)) s) (g (.lv 3) s)
def Rx(en:Int)(g:Ek->Rd Nd)(li:Rd (List Nd)):Ek->Rd Nd
 | .ex=>g (.lv 0)
 | .lv 2=>Z0 en g
 | .lv 3=>iT en g
 | .lv 6=>g .at_
 | .lv i=>Py en g i
 | .at_=>aH en g
 | .wd t=>TJ en g t
 | .ca=>X6 en g li
 | .ta=>Zl en g
def gP(en:Int):Nat->(Ek->Rd Nd)×Rd (List Nd)
 | 0=>(λ_ _=>none,λ_=>none)
 | q+1=>(Rx en (gP en q).1 (gP en q).2,TA ((gP en q).1 .ex))
def J6(en:Int)(ex:Rd Nd)(kind:Int):Rd Nd:=WZ en λt=>Xw <|
 cond (Dh kind 7) (CF (TA (Hr en)) λl=>CF (J8 en RM) λ_=>GK (FR kind bE bE 0 l t.AW)) (CF ex λe=>CF (J8 en RM) λ_=>GK (FR kind bE bE 0 [e] t.AW))
def JZ(en:Int)(ex:Rd Nd)(mk:List Nd->Nd):Nat->List Nd->Bool->Bool->Rd Nd
 | 0,_,_,_=>λ_=>none
 | q+1,l,un,am=>WZ en λt =>
   cond (B1 t.text.data.toList cP.data.toList) (CF (J6 en ex 6) λc=>Qi (l.length+1) (JZ en ex mk q (l++[c]) un am)) <|
   cond (B1 t.text.data.toList SW.data.toList) (cond un (Nb 5 t.AW) (CF (J6 en ex 7) λc=>Qi (l.length+1) (JZ en ex mk q (l++[c]) true am))) <|
   cond (B1 t.text.data.toList QF.data.toList) (cond am (Nb 5 t.AW) (CF (J6 en ex 8) λc=>Qi (l.length+1) (JZ en ex mk q (l++[c]) un true))) <|
   cond (B1 t.text.data.toList Z3.data.toList) (cond am (Xw (GK (mk l))) (Nb 71 t.AW)) (Nb 71 t.AW)
def N0(en:Int)(ex:Rd Nd):Rd Nd:=CF (J8 en Iu) λt=>CF (Nc en 1) λn=>CF (J8 en adT) λ_=>CF (bC en) λm=>CF (Yv en) λh=>CF (J8 en fK) λ_=>λs =>
 JZ en ex (λl=>FR 4 m.text bE n.1 l t.AW) (s.length+1) [h] false false s
def Sg(en:Int)(ex:Rd Nd):Rd Nd:=WZ en λt =>
 cond (B1 t.text.data.toList Tt.data.toList) (To en)<|cond (B1 t.text.data.toList O4.data.toList) (To en)<|cond (B1 t.text.data.toList Iu.data.toList) (N0 en ex) (Nb 71 t.AW)
end Mo
end Go.Proofs.YtpbkhogolfegfaaGreatDoor
