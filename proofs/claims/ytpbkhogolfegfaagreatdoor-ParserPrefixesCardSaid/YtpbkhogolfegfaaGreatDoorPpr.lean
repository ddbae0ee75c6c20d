/- Part of a proof: see the last text. -/
import Derived.Test.YtpbkhogolfegfaaGreatDoorPpq
set_option linter.unusedVariables false
set_option linter.unusedSimpArgs false
set_option linter.defProp false
noncomputable section
namespace Go.Proofs.YtpbkhogolfegfaaGreatDoor
open AI Go
namespace Mo
set_option maxRecDepth 100000
set_option maxHeartbeats 4000000
variable {mx:Int}
def aFW:Code:=A3 Tryz.f145
def aHP:Tryz.f145.body=some aFW:=by kernel_rfl
def GD(day:Int):Option Bool:=cond (N1 0 day) (cond (N1 day 36524) (some true) (some false)) (some false)
def Kr{day:Int}{yR:Bool}(h:GD  day=some yR):Pure P (G mx) 145 [.zi day] (.zb yR):=by
 unfold GD at h;refine C5 Hd.mixed Hd.Aa (Ay Tryz.func145 aHP ?_) (A1 rfl rfl) rfl;revert h;refine Ag (λA0=>?_) λA0=>?_;refine Ag (λhb2=>?_) λhb2=>?_;rintro⟨⟩;exact rT [pb A0,pb hb2];rintro⟨⟩;exact rT [pb A0,pb hb2];rintro⟨⟩;exact rT [pb A0]
def aFG:Code:=A3 Tryz.f102
def aGV:Tryz.f102.body=some aFG:=by kernel_rfl
def Fp(c:Ck)(n:Nd)(depth:Int):Option (Bool×Int):=(CE c n depth).bind λ(Eu,Bm)=>cond Eu (cond (CS n.kind 5) (cond (DM n.n 0) (some (false,Bm)) (cond (DM 1000000 n.n) (some (false,Bm)) (cond (DM 0 ((n.kids.length:Nat):Int)) (some (false,Bm)) ((GD n.fr).bind λy2=>cond y2 (cond (N1 n.to n.fr) (some (false,Bm)) (cond (DM 36525 n.to) (some (false,Bm)) ((GD n.known).bind λy3=>cond y3 ((B5 n (⟨0,ByteArray.empty,ByteArray.empty,n.n,n.fr,n.to,n.known,(⟨0,[]⟩:Fn),[],0⟩:Nd)).bind λy4=>some (y4,Bm)) (some (false,Bm))))) (some (false,Bm)))))) (some (false,Bm))) (some (false,Bm))
def Rx{c:Ck}{n:Nd}{depth:Int}{yR:Bool}{Ae:Int}(hS:Sound P (G mx) (.call 102 [.ptr 0 0,.agg (C8 n),.zi depth] ⟨[(0,.cells (Jy c))],1,[],0⟩ (.ret (.zb yR)) ⟨[(0,.cells [.zi Ae])],1,[],0⟩))(u0:Nat)(PS:([u0]:List Nat).Nodup:=by decide)(PT:([]:List Nat).Nodup:=by decide):Cd.ok P (G mx) (.E9 102 [.ptr u0 0,.agg (C8 n),.zi depth] (.ret (.zb yR)) [(u0,.cells (Jy c))] [] [(u0,.cells [.zi Ae])] []) :=
 Hy (M:=[.cells (Jy c)]) (M2:=[.cells [.zi Ae]]) (T:=[]) (T2:=[]) (k:=1) (j:=0) Hd.Aa _ _ _ _ hS rfl rfl rfl rfl rfl PS PT rfl rfl (.cons (.cells (.pl (Rf.pl c))) .nil) (.cons (.cells (.pl (A1 rfl rfl))) .nil) (.cons (.ptr (by decide)) (.cons (.pl (AD.Cu n)) (.cons (.pl rfl) .nil))) (.pl rfl) (λe he=>by simp only[List.mem_singleton] at he;subst he;exact(.arg (.here .ptr)))
def Pp{c:Ck}{n:Nd}{depth:Int}{yR:Bool}{Ae:Int}(h:Fp  c n depth=some (yR,Ae)):Sound P (G mx) (.call 102 [.ptr 0 0,.agg (C8 n),.zi depth] ⟨[(0,.cells (Jy c))],1,[],0⟩ (.ret (.zb yR)) ⟨[(0,.cells [.zi Ae])],1,[],0⟩):=by
 unfold Fp at h;refine B0 Hd.mixed (Ay Tryz.func102 aGV ?_);revert h;refine Aq ?_;rintro⟨Eu,Bm⟩ Ci;dsimp only;let o1:List (PC P (G mx)):=[Af (Fq (En Ci) 0)];refine Ag (λhv=>?_) λhv=>?_;subst hv;refine Ag (λA0=>?_) λA0=>?_;refine Ag (λhb2=>?_) λhb2=>?_;rintro⟨⟩;exact Aw Hd.Aa _ _ [] [none] (Ac 300 (o1++[pn A0,pb hb2])) (by kernel_rfl) .body;let o2:List (PC P (G mx)):=o1++[pn A0,pb hb2];refine Ag (λhb3=>?_) λhb3=>?_;rintro⟨⟩;exact Aw Hd.Aa _ _ [] [none] (Ac 300 (o2++[pb hb3])) (by kernel_rfl) .body;refine Ag (λFa=>?_) λFa=>?_;rintro⟨⟩;exact Aw Hd.Aa _ _ [] [none] (Ac 300 (o2++[pb hb3,pb Fa])) (by kernel_rfl) .body;refine Aq λy2 D3=>?_;let o3:List (PC P (G mx)):=o2++[pb hb3,pb Fa,AM (Kr D3)];refine Ag (λhv=>?_) λhv=>?_;subst hv;refine Ag (λHH=>?_) λHH=>?_;rintro⟨⟩;exact Aw Hd.Aa _ _ [] [none] (Ac 300 (o3++[pb HH])) (by kernel_rfl) .body;refine Ag (λIH=>?_) λIH=>?_;rintro⟨⟩;exact Aw Hd.Aa _ _ [] [none] (Ac 300 (o3++[pb HH,pb IH])) (by kernel_rfl) .body;refine Aq λy3 Fc=>?_;refine Ag (λhv=>?_) λhv=>?_;subst hv;refine Aq λy4 J5=>?_;rintro⟨⟩;exact Aw Hd.Aa _ _ [] [none] (Ac 300 (o3++[pb HH,pb IH,AM (Kr Fc),Iq (.r (.g (.r (.r (.r (.r (.r (.r (.r (.r (.z (.z (.r .nil))))))))))) .nil)) (BZ J5)])) (by kernel_rfl) .body;subst hv;rintro⟨⟩;exact Aw Hd.Aa _ _ [] [none] (Ac 300 (o3++[pb HH,pb IH,AM (Kr Fc)])) (by kernel_rfl) .body;subst hv;rintro⟨⟩;exact Aw Hd.Aa _ _ [] [none] (Ac 300 o3) (by kernel_rfl) .body;rintro⟨⟩;exact Aw Hd.Aa _ _ [] [none] (Ac 300 (o1++[pn A0])) (by kernel_rfl) .body;subst hv;rintro⟨⟩;exact Aw Hd.Aa _ _ [] [none] (Ac 300 o1) (by kernel_rfl) .body
def F8(depth:Int)(i0:Nat)(e0:Nd)(E8:Int):Option (Lp Int Int (Bool×Int)):=(FV (⟨E8⟩:Ck) e0 depth).bind λ(Eu,Bm)=>cond Eu (some (.nx Bm)) (some (.rt (false,Bm)))
def EH(c:Ck)(list:(List Nd))(depth:Int):Option (Bool×Int):=(Tc list.length (C4 (λi y x=>F8  depth i y x) (λx=>x) (list.drop 0) 0 c.nodes)).bind (MC (λ(OB:Int)=>some (true,OB)) (λv=>some v))
def Nv{c:Ck}{list:(List Nd)}{depth:Int}{yR:Bool}{Ae:Int}(hS:Sound P (G mx) (.call 55 [.ptr 0 0,.sl .lost list.length (BF list),.zi depth,.fn (.func 144) [.ptr 0 0] []] ⟨[(0,.cells (Jy c))],1,[],0⟩ (.ret (.zb yR)) ⟨[(0,.cells [.zi Ae])],1,[],0⟩))(u0:Nat)(PS:([u0]:List Nat).Nodup:=by decide)(PT:([]:List Nat).Nodup:=by decide):Cd.ok P (G mx) (.E9 55 [.ptr u0 0,.sl .lost list.length (BF list),.zi depth,.fn (.func 144) [.ptr u0 0] []] (.ret (.zb yR)) [(u0,.cells (Jy c))] [] [(u0,.cells [.zi Ae])] []) :=
 Hy (M:=[.cells (Jy c)]) (M2:=[.cells [.zi Ae]]) (T:=[]) (T2:=[]) (k:=1) (j:=0) Hd.Aa _ _ _ _ hS rfl rfl rfl rfl rfl PS PT rfl rfl (.cons (.cells (.pl (Rf.pl c))) .nil) (.cons (.cells (.pl (A1 rfl rfl))) .nil) (.cons (.ptr (by decide)) (.cons (.pl (AD.IA list)) (.cons (.pl rfl) (.cons (.fn (.cons (.ptr (by decide)) .nil) (.pl rfl)) .nil)))) (.pl rfl) (λe he=>by simp only[List.mem_singleton] at he;subst he;exact(.arg (.here .ptr)))
def Ma{c:Ck}{list:(List Nd)}{depth:Int}{yR:Bool}{Ae:Int}(h:EH  c list depth=some (yR,Ae)):Sound P (G mx) (.call 55 [.ptr 0 0,.sl .lost list.length (BF list),.zi depth,.fn (.func 144) [.ptr 0 0] []] ⟨[(0,.cells (Jy c))],1,[],0⟩ (.ret (.zb yR)) ⟨[(0,.cells [.zi Ae])],1,[],0⟩):=by
 unfold EH at h;refine B0 Hd.mixed (Ay Tryz.func55 b55 ?_);revert h;refine RL (λQ v=>Rr P (G mx) Tryz.f55 1 ⟨[(0,.cells (Jy c))],1,[],0⟩ Q (.zb v.1) ⟨[(0,.cells [.zi v.2])],1,[],0⟩) (λi0 (E8:Int) (j0:List Value)=>fr 23 [(2,.zi depth),(3,.fn (.func 144) [.ptr 0 0] []),(11,.sl .lost list.length (BF list)),(12,.zi ((list.length:Nat):Int)),(13,.zi ((i0:Nat):Int))] [8,14,20,21] j0) (λ(E8:Int)=>⟨[(0,.cells [.zi E8])],1,[],0⟩) (λ(E8:Int) (jx:List Value)=>fr 23 [] [8,14,20,21] jx) (λ(E8:Int)=>⟨[(0,.cells [.zi E8])],1,[],0⟩) [bF] (G6 [] 0 (sb B55 52) [.code (sb B55 7)] (Ac 300 []) (by kernel_rfl)) ?_ ?_ ?_ (λv h=>by cases h;exact .outer .body);rintro i0 E8 j0 hge hq;exact DU (Ac 300 [pb (iW hge)]) (by kernel_rfl) (hq (js 4 j0 [(1,bF)]));rintro i0 e0 E8 j0 r Qz PR OK k;show F8  depth i0 e0 E8=some r->_;unfold F8;refine Aq ?_;rintro⟨Eu,Bm⟩ Ci;dsimp only;let o1:List (PC P (G mx)):=[pb (Zp PR),IN (Kp .lost Qz),Af (K5 (Pu Ci) 0)];refine Ag (λhv=>?_) λhv=>?_;subst hv;rintro⟨⟩;exact Gh Hd.Aa [fq (AD.IA list)] [none] (Ac 300 (o1++[pi OK])) (by kernel_rfl) (k [(jv j0 0),bT,bT,bF]);subst hv;rintro⟨⟩;exact Aw Hd.Aa _ _ [] [none] (Ac 300 o1) (by kernel_rfl) (.Gb k);rintro OB oK;rintro⟨⟩;exact Aw Hd.Aa _ _ [] [none] (Ht 300 []) (by kernel_rfl) .body
def aFH:Code:=A3 Tryz.f103
def aGW:Tryz.f103.body=some aFH:=by kernel_rfl
def DN(c:Ck)(n:Nd)(depth:Int):Option (Bool×Int):=(CE c n depth).bind λ(Eu,Bm)=>cond Eu ((B5 n (⟨0,ByteArray.empty,ByteArray.empty,0,0,0,0,(⟨0,[]⟩:Fn),[],0⟩:Nd)).bind λy2=>cond y2 (cond (CS n.kind 7) (cond (DM 0 ((n.kids.length:Nat):Int)) ((EH (⟨Bm⟩:Ck) n.kids (BC depth 1)).bind λ(IP,EN)=>some (IP,EN)) (some (false,Bm))) (cond (CS ((n.kids.length:Nat):Int) 1) ((n.kids[0]?).bind λx4=>(GV (⟨Bm⟩:Ck) x4 (BC depth 1)).bind λ(Sh,Hv)=>some (Sh,Hv)) (some (false,Bm)))) (some (false,Bm))) (some (false,Bm))
def P4{c:Ck}{n:Nd}{depth:Int}{yR:Bool}{Ae:Int}(hS:Sound P (G mx) (.call 103 [.ptr 0 0,.agg (C8 n),.zi depth] ⟨[(0,.cells (Jy c))],1,[],0⟩ (.ret (.zb yR)) ⟨[(0,.cells [.zi Ae])],1,[],0⟩))(u0:Nat)(PS:([u0]:List Nat).Nodup:=by decide)(PT:([]:List Nat).Nodup:=by decide):Cd.ok P (G mx) (.E9 103 [.ptr u0 0,.agg (C8 n),.zi depth] (.ret (.zb yR)) [(u0,.cells (Jy c))] [] [(u0,.cells [.zi Ae])] []) :=
 Hy (M:=[.cells (Jy c)]) (M2:=[.cells [.zi Ae]]) (T:=[]) (T2:=[]) (k:=1) (j:=0) Hd.Aa _ _ _ _ hS rfl rfl rfl rfl rfl PS PT rfl rfl (.cons (.cells (.pl (Rf.pl c))) .nil) (.cons (.cells (.pl (A1 rfl rfl))) .nil) (.cons (.ptr (by decide)) (.cons (.pl (AD.Cu n)) (.cons (.pl rfl) .nil))) (.pl rfl) (λe he=>by simp only[List.mem_singleton] at he;subst he;exact(.arg (.here .ptr)))
def N6{c:Ck}{n:Nd}{depth:Int}{yR:Bool}{Ae:Int}(h:DN  c n depth=some (yR,Ae)):Sound P (G mx) (.call 103 [.ptr 0 0,.agg (C8 n),.zi depth] ⟨[(0,.cells (Jy c))],1,[],0⟩ (.ret (.zb yR)) ⟨[(0,.cells [.zi Ae])],1,[],0⟩):=by
 unfold DN at h;refine B0 Hd.mixed (Ay Tryz.func103 aGW ?_);revert h;refine Aq ?_;rintro⟨Eu,Bm⟩ Ci;dsimp only;let o1:List (PC P (G mx)):=[Af (Fq (En Ci) 0)];refine Ag (λhv=>?_) λhv=>?_;subst hv;refine Aq λy2 D3=>?_;let o2:List (PC P (G mx)):=o1++[Iq (.r (.g (.r (.r (.r (.r (.r (.r (.r (.r (.z (.z (.r .nil))))))))))) .nil)) (BZ D3)];refine Ag (λhv=>?_) λhv=>?_;subst hv;refine Ag (λA0=>?_) λA0=>?_;refine Ag (λhb2=>?_) λhb2=>?_;refine Aq ?_;rintro⟨IP,EN⟩ Fc;dsimp only;rintro⟨⟩;exact Aw Hd.Aa _ _ [] [none] (Ac 300 (o2++[pb A0,pb hb2,pk,Af (Nv (Ma Fc) 0)])) (by kernel_rfl) .body;rintro⟨⟩;exact Aw Hd.Aa _ _ [] [none] (Ac 300 (o2++[pb A0,pb hb2])) (by kernel_rfl) .body;refine Ag (λhb3=>?_) λhb3=>?_;refine Aq λx4 hx4=>?_;refine Aq ?_;rintro⟨Sh,Hv⟩ Ko;dsimp only;rintro⟨⟩;exact Aw Hd.Aa _ _ [] [none] (Ac 300 (o2++[pb A0,pb hb3,IN (Kp .lost hx4),pk,Af (Bh (LB Ko) 0)])) (by kernel_rfl) .body;rintro⟨⟩;exact Aw Hd.Aa _ _ [] [none] (Ac 300 (o2++[pb A0,pb hb3])) (by kernel_rfl) .body;subst hv;rintro⟨⟩;exact Aw Hd.Aa _ _ [] [none] (Ac 300 o2) (by kernel_rfl) .body;subst hv;rintro⟨⟩;exact Aw Hd.Aa _ _ [] [none] (Ac 300 o1) (by kernel_rfl) .body
def F7(depth:Int)(i0:Nat)(e0:Nd)(E8:Int):Option (Lp Int Int (Bool×Int)):=(DN (⟨E8⟩:Ck) e0 depth).bind λ(Eu,Bm)=>cond Eu (some (.nx Bm)) (some (.rt (false,Bm)))
def EG(c:Ck)(list:(List Nd))(depth:Int):Option (Bool×Int):=(Tc list.length (C4 (λi y x=>F7  depth i y x) (λx=>x) (list.drop 0) 0 c.nodes)).bind (MC (λ(OB:Int)=>some (true,OB)) (λv=>some v))
def Nu{c:Ck}{list:(List Nd)}{depth:Int}{yR:Bool}{Ae:Int}(hS:Sound P (G mx) (.call 55 [.ptr 0 0,.sl .lost list.length (BF list),.zi depth,.fn (.func 103) [.ptr 0 0] []] ⟨[(0,.cells (Jy c))],1,[],0⟩ (.ret (.zb yR)) ⟨[(0,.cells [.zi Ae])],1,[],0⟩))(u0:Nat)(PS:([u0]:List Nat).Nodup:=by decide)(PT:([]:List Nat).Nodup:=by decide):Cd.ok P (G mx) (.E9 55 [.ptr u0 0,.sl .lost list.length (BF list),.zi depth,.fn (.func 103) [.ptr u0 0] []] (.ret (.zb yR)) [(u0,.cells (Jy c))] [] [(u0,.cells [.zi Ae])] []) :=
 Hy (M:=[.cells (Jy c)]) (M2:=[.cells [.zi Ae]]) (T:=[]) (T2:=[]) (k:=1) (j:=0) Hd.Aa _ _ _ _ hS rfl rfl rfl rfl rfl PS PT rfl rfl (.cons (.cells (.pl (Rf.pl c))) .nil) (.cons (.cells (.pl (A1 rfl rfl))) .nil) (.cons (.ptr (by decide)) (.cons (.pl (AD.IA list)) (.cons (.pl rfl) (.cons (.fn (.cons (.ptr (by decide)) .nil) (.pl rfl)) .nil)))) (.pl rfl) (λe he=>by simp only[List.mem_singleton] at he;subst he;exact(.arg (.here .ptr)))
def L9{c:Ck}{list:(List Nd)}{depth:Int}{yR:Bool}{Ae:Int}(h:EG  c list depth=some (yR,Ae)):Sound P (G mx) (.call 55 [.ptr 0 0,.sl .lost list.length (BF list),.zi depth,.fn (.func 103) [.ptr 0 0] []] ⟨[(0,.cells (Jy c))],1,[],0⟩ (.ret (.zb yR)) ⟨[(0,.cells [.zi Ae])],1,[],0⟩):=by
 unfold EG at h;refine B0 Hd.mixed (Ay Tryz.func55 b55 ?_);revert h;refine RL (λQ v=>Rr P (G mx) Tryz.f55 1 ⟨[(0,.cells (Jy c))],1,[],0⟩ Q (.zb v.1) ⟨[(0,.cells [.zi v.2])],1,[],0⟩) (λi0 (E8:Int) (j0:List Value)=>fr 23 [(2,.zi depth),(3,.fn (.func 103) [.ptr 0 0] []),(11,.sl .lost list.length (BF list)),(12,.zi ((list.length:Nat):Int)),(13,.zi ((i0:Nat):Int))] [8,14,20,21] j0) (λ(E8:Int)=>⟨[(0,.cells [.zi E8])],1,[],0⟩) (λ(E8:Int) (jx:List Value)=>fr 23 [] [8,14,20,21] jx) (λ(E8:Int)=>⟨[(0,.cells [.zi E8])],1,[],0⟩) [bF] (G6 [] 0 (sb B55 52) [.code (sb B55 7)] (Ac 300 []) (by kernel_rfl)) ?_ ?_ ?_ (λv h=>by cases h;exact .outer .body);rintro i0 E8 j0 hge hq;exact DU (Ac 300 [pb (iW hge)]) (by kernel_rfl) (hq (js 4 j0 [(1,bF)]));rintro i0 e0 E8 j0 r Qz PR OK k;show F7  depth i0 e0 E8=some r->_;unfold F7;refine Aq ?_;rintro⟨Eu,Bm⟩ Ci;dsimp only;let o1:List (PC P (G mx)):=[pb (Zp PR),IN (Kp .lost Qz),Af (P4 (N6 Ci) 0)];refine Ag (λhv=>?_) λhv=>?_;subst hv;rintro⟨⟩;exact Gh Hd.Aa [fq (AD.IA list)] [none] (Ac 300 (o1++[pi OK])) (by kernel_rfl) (k [(jv j0 0),bT,bT,bF]);subst hv;rintro⟨⟩;exact Aw Hd.Aa _ _ [] [none] (Ac 300 o1) (by kernel_rfl) (.Gb k);rintro OB oK;rintro⟨⟩;exact Aw Hd.Aa _ _ [] [none] (Ht 300 []) (by kernel_rfl) .body
def B56:Code:=A3 Tryz.f56
def b56:Tryz.f56.body=some B56:=by kernel_rfl
def D5(Bm:Int)(i0:Nat)(e0:Nd)(CW:Int)(CX:Int)(BT:Int):Option (Lp (Int×Int×Int) (Int×Int×Int) (Bool×Int)):=cond (DM e0.kind 6) (some (.rt (false,Bm))) (cond (DM 8 e0.kind) (some (.rt (false,Bm))) (cond (CS e0.kind 6) (some (.nx ((BC CW 1),CX,BT))) (cond (CS e0.kind 7) (some (.nx (CW,(BC CX 1),BT))) (cond (CS e0.kind 8) (some (.nx (CW,CX,(BC BT 1)))) (none)))))
def Eg(c:Ck)(n:Nd)(depth:Int):Option (Bool×Int):=(CE c n depth).bind λ(Eu,Bm)=>cond Eu (cond (CS n.kind 2) ((Ed n.name).bind λy2=>cond y2 ((ES n.unit).bind λy3=>cond y3 (cond (CS ((n.kids.length:Nat):Int) 0) ((B5 n (⟨0,n.name,n.unit,0,0,0,0,(⟨0,[]⟩:Fn),[],0⟩:Nd)).bind λy4=>some (y4,Bm)) (some (false,Bm))) (some (false,Bm))) (some (false,Bm))) (cond (CS n.kind 3) ((Ed n.name).bind λy5=>cond y5 ((ES n.unit).bind λy6=>cond y6 (cond (N1 1 n.n) (cond (N1 n.n 4) (cond (CS ((n.kids.length:Nat):Int) 0) ((B5 n (⟨0,n.name,n.unit,n.n,0,0,0,(⟨0,[]⟩:Fn),[],0⟩:Nd)).bind λy7=>some (y7,Bm)) (some (false,Bm))) (some (false,Bm))) (some (false,Bm))) (some (false,Bm))) (some (false,Bm))) (cond (CS n.kind 4) ((DX n.n).bind λy8=>cond y8 ((Ed n.name).bind λy9=>cond y9 ((B5 n (⟨0,n.name,ByteArray.empty,n.n,0,0,0,(⟨0,[]⟩:Fn),[],0⟩:Nd)).bind λyK=>cond yK (cond (CS ((n.kids.length:Nat):Int) 0) (some (false,Bm)) ((ahE n.kids 1 ((n.kids.length:Nat):Int)).bind λl11=>(Tc l11.length (C4 (λi y x=>D5  Bm i y x.1 x.2.1 x.2.2) (λx=>(x.1,x.2.1,x.2.2)) (l11.drop 0) 0 (0,0,0))).bind (MC (λ((aqZ,uH,uI):(Int×Int×Int))=>cond (CS uI 1) (cond (DM 1 uH) (some (false,Bm)) ((n.kids[0]?).bind λx13=>(Fp (⟨Bm⟩:Ck) x13 (BC depth 1)).bind λ(fF,Uc)=>cond fF ((EG (⟨Uc⟩:Ck) l11 (BC depth 1)).bind λ(fG,Q6)=>some (fG,Q6)) (some (false,Uc)))) (some (false,Bm))) (λv=>some v)))) (some (false,Bm))) (some (false,Bm))) (some (false,Bm))) (some (false,Bm))))) (some (false,Bm))
def Ry{c:Ck}{n:Nd}{depth:Int}{yR:Bool}{Ae:Int}(hS:Sound P (G mx) (.call 56 [.ptr 0 0,.agg (C8 n),.zi depth] ⟨[(0,.cells (Jy c))],1,[],0⟩ (.ret (.zb yR)) ⟨[(0,.cells [.zi Ae])],1,[],0⟩))(u0:Nat)(PS:([u0]:List Nat).Nodup:=by decide)(PT:([]:List Nat).Nodup:=by decide):Cd.ok P (G mx) (.E9 56 [.ptr u0 0,.agg (C8 n),.zi depth] (.ret (.zb yR)) [(u0,.cells (Jy c))] [] [(u0,.cells [.zi Ae])] []) :=
 Hy (M:=[.cells (Jy c)]) (M2:=[.cells [.zi Ae]]) (T:=[]) (T2:=[]) (k:=1) (j:=0) Hd.Aa _ _ _ _ hS rfl rfl rfl rfl rfl PS PT rfl rfl (.cons (.cells (.pl (Rf.pl c))) .nil) (.cons (.cells (.pl (A1 rfl rfl))) .nil) (.cons (.ptr (by decide)) (.cons (.pl (AD.Cu n)) (.cons (.pl rfl) .nil))) (.pl rfl) (λe he=>by simp only[List.mem_singleton] at he;subst he;exact(.arg (.here .ptr)))
def Pq{c:Ck}{n:Nd}{depth:Int}{yR:Bool}{Ae:Int}(h:Eg  c n depth=some (yR,Ae)):Sound P (G mx) (.call 56 [.ptr 0 0,.agg (C8 n),.zi depth] ⟨[(0,.cells (Jy c))],1,[],0⟩ (.ret (.zb yR)) ⟨[(0,.cells [.zi Ae])],1,[],0⟩):=by
 unfold Eg at h;refine B0 Hd.mixed (Ay Tryz.func56 b56 ?_);revert h;refine Aq ?_;rintro⟨Eu,Bm⟩ Ci;dsimp only;let o1:List (PC P (G mx)):=[Af (Fq (En Ci) 0)];refine Ag (λhv=>?_) λhv=>?_;subst hv;refine Ag (λA0=>?_) λA0=>?_;refine Aq λy2 D3=>?_;let o2:List (PC P (G mx)):=o1++[pb A0,AM (Hk D3)];refine Ag (λhv=>?_) λhv=>?_;subst hv;refine Aq λy3 Fc=>?_;refine Ag (λhv=>?_) λhv=>?_;subst hv;refine Ag (λhb2=>?_) λhb2=>?_;refine Aq λy4 J5=>?_;rintro⟨⟩;exact Aw Hd.Aa _ _ [] [none] (Ac 300 (o2++[AM (FL Fc),pb hb2,Iq (.r (.g (.r (.r (.r (.r (.r (.r (.r (.r (.z (.z (.r .nil))))))))))) .nil)) (BZ J5)])) (by kernel_rfl) .body;rintro⟨⟩;exact Aw Hd.Aa _ _ [] [none] (Ac 300 (o2++[AM (FL Fc),pb hb2])) (by kernel_rfl) .body;subst hv;rintro⟨⟩;exact Aw Hd.Aa _ _ [] [none] (Ac 300 (o2++[AM (FL Fc)])) (by kernel_rfl) .body;subst hv;rintro⟨⟩;exact Aw Hd.Aa _ _ [] [none] (Ac 300 o2) (by kernel_rfl) .body;let o3:List (PC P (G mx)):=o1++[pb A0];refine Ag (λhb3=>?_) λhb3=>?_;refine Aq λy5 Ko=>?_;let o4:List (PC P (G mx)):=o3++[pb hb3,AM (Hk Ko)];refine Ag (λhv=>?_) λhv=>?_;subst hv;refine Aq λy6 L6=>?_;let o5:List (PC P (G mx)):=o4++[AM (FL L6)];refine Ag (λhv=>?_) λhv=>?_;subst hv;refine Ag (λFa=>?_) λFa=>?_;refine Ag (λHH=>?_) λHH=>?_;refine Ag (λIH=>?_) λIH=>?_;refine Aq λy7 Sz=>?_;rintro⟨⟩;exact Aw Hd.Aa _ _ [] [none] (Ac 300 (o5++[pb Fa,pb HH,pb IH,Iq (.r (.g (.r (.r (.r (.r (.r (.r (.r (.r (.z (.z (.r .nil))))))))))) .nil)) (BZ Sz)])) (by kernel_rfl) .body;rintro⟨⟩;exact Aw Hd.Aa _ _ [] [none] (Ac 300 (o5++[pb Fa,pb HH,pb IH])) (by kernel_rfl) .body;rintro⟨⟩;exact Aw Hd.Aa _ _ [] [none] (Ac 300 (o5++[pb Fa,pb HH])) (by kernel_rfl) .body;rintro⟨⟩;exact Aw Hd.Aa _ _ [] [none] (Ac 300 (o5++[pb Fa])) (by kernel_rfl) .body;subst hv;rintro⟨⟩;exact Aw Hd.Aa _ _ [] [none] (Ac 300 o5) (by kernel_rfl) .body;subst hv;rintro⟨⟩;exact Aw Hd.Aa _ _ [] [none] (Ac 300 o4) (by kernel_rfl) .body;refine Ag (λI6=>?_) λI6=>?_;refine Aq λy8 OF=>?_;let o6:List (PC P (G mx)):=o3++[pb hb3,pb I6,AM (GW OF)];refine Ag (λhv=>?_) λhv=>?_;subst hv;refine Aq λy9 UD=>?_;let o7:List (PC P (G mx)):=o6++[AM (Hk UD)];refine Ag (λhv=>?_) λhv=>?_;subst hv;refine Aq λyK PU=>?_;let o8:List (PC P (G mx)):=o7++[Iq (.r (.g (.r (.r (.r (.r (.r (.r (.r (.r (.z (.z (.r .nil))))))))))) .nil)) (BZ PU)];refine Ag (λhv=>?_) λhv=>?_;subst hv;refine Ag (λKP=>?_) λKP=>?_;rintro⟨⟩;exact Aw Hd.Aa _ _ [] [none] (Ac 300 (o8++[pb KP])) (by kernel_rfl) .body;refine Aq λl11 alY=>?_;refine RL (λQ v=>Rr P (G mx) Tryz.f56 1 ⟨[(0,.cells (Jy c))],1,[],0⟩ Q (.zb v.1) ⟨[(0,.cells [.zi v.2])],1,[],0⟩) (λi0 ((CW,CX,BT):(Int×Int×Int)) (j0:List Value)=>fr 158 [(0,.ptr 0 0),(2,.zi depth),(4,.ptr 1 0),(7,.ptr 2 0),(110,.sl .lost l11.length (BF l11)),(111,.zi ((l11.length:Nat):Int)),(112,.zi ((i0:Nat):Int))] [6,13,14,17,18,21,22,25,26,27,31,32,33,40,41,42,43,46,47,50,51,52,55,56,57,60,61,62,66,67,68,77,78,79,80,83,84,85,88,89,90,91,98,99,100,101,105,106,113,118,119,122,123,133,134,137,138,146,147,156,157] j0) (λ((CW,CX,BT):(Int×Int×Int))=>⟨[(2,.cells [.zi 0,.zi 0,.zi 0,.zi 0,.zi 0,.zi 0,.zi CW,.zi CX,.zi BT]),(1,.cells (C8 n)),(0,.cells [.zi Bm])],3,[],0⟩) (λ((CW,CX,BT):(Int×Int×Int)) (jx:List Value)=>fr 158 [(0,.ptr 0 0),(2,.zi depth),(4,.ptr 1 0),(7,.ptr 2 0)] [6,13,14,17,18,21,22,25,26,27,31,32,33,40,41,42,43,46,47,50,51,52,55,56,57,60,61,62,66,67,68,77,78,79,80,83,84,85,88,89,90,91,98,99,100,101,105,106,113,118,119,122,123,133,134,137,138,146,147,156,157] jx) (λ((CW,CX,BT):(Int×Int×Int))=>⟨[(2,.cells [.zi 0,.zi 0,.zi 0,.zi 0,.zi 0,.zi 0,.zi CW,.zi CX,.zi BT]),(1,.cells (C8 n)),(0,.cells [.zi Bm])],3,[],0⟩) [bF,bT,bF,bF,bF,undef,undef,undef,undef,undef,undef,undef,undef,undef,undef,bF,bF,undef,undef,undef,undef,undef,undef,undef,undef,undef,undef,undef,undef,undef,undef,undef,undef,bT,bT,bT,bF,bF,bT,bF,bF,bF,bT,bF,bF,bF,bF,bF] (G6 [] 1 (sb B56 241588) [.code (sb B56 30199),.gZ 0,.code (sb B56 15)] (Ac 300 (o8++[pb KP,Oh (tT alY)])) (by kernel_rfl)) ?_ ?_ ?_ (λv h=>by cases h;exact .outer .body);rintro i0 ⟨CW,CX,BT⟩ j0 hge hq;exact DU (Ac 300 [pb (iW hge)]) (by kernel_rfl) (hq (js 61 j0 [(48,bF)]));rintro i0 e0 ⟨CW,CX,BT⟩ j0 r Qz PR OK k;show D5  Bm i0 e0 CW CX BT=some r->_;unfold D5;let o9:List (PC P (G mx)):=[pb (Zp PR),IN (Kp .lost Qz)];refine Ag (λKi=>?_) λKi=>?_;rintro⟨⟩;exact Aw Hd.Aa _ _ [] [none] (Ac 300 (o9++[pb Ki])) (by kernel_rfl) (.Gb k);refine Ag (λGG=>?_) λGG=>?_;rintro⟨⟩;exact Aw Hd.Aa _ _ [] [none] (Ac 300 (o9++[pb Ki,pb GG])) (by kernel_rfl) (.Gb k);refine Ag (λIS=>?_) λIS=>?_;rintro⟨⟩;exact Gh Hd.Aa [fq (AD.IA l11)] [none,bp (AD.pl n),none] (Ac 300 (o9++[pb Ki,pb GG,IN (t:=116) (a:=.ptr 2 0) (b:=.zi e0.kind) (v:=.ptr 2 6) (by rw[FJ IS];kernel_rfl),pk,IN (t:=116) (a:=.ptr 2 0) (b:=.zi e0.kind) (v:=.ptr 2 6) (by rw[FJ IS];kernel_rfl),pi OK])) (by kernel_rfl) (k (js 61 j0 [(48,bT),(49,bF),(50,bF),(51,bF),(52,bF)]));refine Ag (λJz=>?_) λJz=>?_;rintro⟨⟩;exact Gh Hd.Aa [fq (AD.IA l11)] [none,bp (AD.pl n),none] (Ac 300 (o9++[pb Ki,pb GG,IN (t:=116) (a:=.ptr 2 0) (b:=.zi e0.kind) (v:=.ptr 2 7) (by rw[FJ Jz];kernel_rfl),pk,IN (t:=116) (a:=.ptr 2 0) (b:=.zi e0.kind) (v:=.ptr 2 7) (by rw[FJ Jz];kernel_rfl),pi OK])) (by kernel_rfl) (k (js 61 j0 [(48,bT),(49,bF),(50,bF),(51,bF),(52,bF)]));refine Ag (λJA=>?_) λJA=>?_;rintro⟨⟩;exact Gh Hd.Aa [fq (AD.IA l11)] [none,bp (AD.pl n),none] (Ac 300 (o9++[pb Ki,pb GG,IN (t:=116) (a:=.ptr 2 0) (b:=.zi e0.kind) (v:=.ptr 2 8) (by rw[FJ JA];kernel_rfl),pk,IN (t:=116) (a:=.ptr 2 0) (b:=.zi e0.kind) (v:=.ptr 2 8) (by rw[FJ JA];kernel_rfl),pi OK])) (by kernel_rfl) (k (js 61 j0 [(48,bT),(49,bF),(50,bF),(51,bF),(52,bF)]));exact dS;rintro⟨aqZ,uH,uI⟩ aCS;dsimp only;refine Ag (λKO=>?_) λKO=>?_;refine Ag (λLf=>?_) λLf=>?_;rintro⟨⟩;exact Aw Hd.Aa _ _ [] [none] (Ht 300 [pk,pn KO,pk,pb Lf]) (by kernel_rfl) .body;refine Aq λx13 awH=>?_;refine Aq ?_;rintro⟨fF,Uc⟩ Yj;dsimp only;let sR:List (PC P (G mx)):=[pk,pn KO,pk,pb Lf,IN (Kp .lost awH),pk,Af (Rx (Pp Yj) 0)];refine Ag (λhv=>?_) λhv=>?_;subst hv;refine Aq ?_;rintro⟨fG,Q6⟩ dF;dsimp only;rintro⟨⟩;exact Aw Hd.Aa _ _ [] [none] (Ht 300 (sR++[Oh (tT alY),pk,Af (Nu (L9 dF) 0)])) (by kernel_rfl) .body;subst hv;rintro⟨⟩;exact Aw Hd.Aa _ _ [] [none] (Ht 300 sR) (by kernel_rfl) .body;rintro⟨⟩;exact Aw Hd.Aa _ _ [] [none] (Ht 300 [pk,pn KO]) (by kernel_rfl) .body;subst hv;rintro⟨⟩;exact Aw Hd.Aa _ _ [] [none] (Ac 300 o8) (by kernel_rfl) .body;subst hv;rintro⟨⟩;exact Aw Hd.Aa _ _ [] [none] (Ac 300 o7) (by kernel_rfl) .body;subst hv;rintro⟨⟩;exact Aw Hd.Aa _ _ [] [none] (Ac 300 o6) (by kernel_rfl) .body;rintro⟨⟩;exact Aw Hd.Aa _ _ [] [none] (Ac 300 (o3++[pb hb3,pb I6])) (by kernel_rfl) .body;subst hv;rintro⟨⟩;exact Aw Hd.Aa _ _ [] [none] (Ac 300 o1) (by kernel_rfl) .body
def GK(depth:Int)(i0:Nat)(e0:Nd)(E8:Int):Option (Lp Int Int (Bool×Int)):=(Eg (⟨E8⟩:Ck) e0 depth).bind λ(Eu,Bm)=>cond Eu (some (.nx Bm)) (some (.rt (false,Bm)))
def Fh(c:Ck)(list:(List Nd))(depth:Int):Option (Bool×Int):=(Tc list.length (C4 (λi y x=>GK  depth i y x) (λx=>x) (list.drop 0) 0 c.nodes)).bind (MC (λ(OB:Int)=>some (true,OB)) (λv=>some v))
def OM{c:Ck}{list:(List Nd)}{depth:Int}{yR:Bool}{Ae:Int}(hS:Sound P (G mx) (.call 55 [.ptr 0 0,.sl .lost list.length (BF list),.zi depth,.fn (.func 56) [.ptr 0 0] []] ⟨[(0,.cells (Jy c))],1,[],0⟩ (.ret (.zb yR)) ⟨[(0,.cells [.zi Ae])],1,[],0⟩))(u0:Nat)(PS:([u0]:List Nat).Nodup:=by decide)(PT:([]:List Nat).Nodup:=by decide):Cd.ok P (G mx) (.E9 55 [.ptr u0 0,.sl .lost list.length (BF list),.zi depth,.fn (.func 56) [.ptr u0 0] []] (.ret (.zb yR)) [(u0,.cells (Jy c))] [] [(u0,.cells [.zi Ae])] []) :=
 Hy (M:=[.cells (Jy c)]) (M2:=[.cells [.zi Ae]]) (T:=[]) (T2:=[]) (k:=1) (j:=0) Hd.Aa _ _ _ _ hS rfl rfl rfl rfl rfl PS PT rfl rfl (.cons (.cells (.pl (Rf.pl c))) .nil) (.cons (.cells (.pl (A1 rfl rfl))) .nil) (.cons (.ptr (by decide)) (.cons (.pl (AD.IA list)) (.cons (.pl rfl) (.cons (.fn (.cons (.ptr (by decide)) .nil) (.pl rfl)) .nil)))) (.pl rfl) (λe he=>by simp only[List.mem_singleton] at he;subst he;exact(.arg (.here .ptr)))
def M0{c:Ck}{list:(List Nd)}{depth:Int}{yR:Bool}{Ae:Int}(h:Fh  c list depth=some (yR,Ae)):Sound P (G mx) (.call 55 [.ptr 0 0,.sl .lost list.length (BF list),.zi depth,.fn (.func 56) [.ptr 0 0] []] ⟨[(0,.cells (Jy c))],1,[],0⟩ (.ret (.zb yR)) ⟨[(0,.cells [.zi Ae])],1,[],0⟩):=by
 unfold Fh at h;refine B0 Hd.mixed (Ay Tryz.func55 b55 ?_);revert h;refine RL (λQ v=>Rr P (G mx) Tryz.f55 1 ⟨[(0,.cells (Jy c))],1,[],0⟩ Q (.zb v.1) ⟨[(0,.cells [.zi v.2])],1,[],0⟩) (λi0 (E8:Int) (j0:List Value)=>fr 23 [(2,.zi depth),(3,.fn (.func 56) [.ptr 0 0] []),(11,.sl .lost list.length (BF list)),(12,.zi ((list.length:Nat):Int)),(13,.zi ((i0:Nat):Int))] [8,14,20,21] j0) (λ(E8:Int)=>⟨[(0,.cells [.zi E8])],1,[],0⟩) (λ(E8:Int) (jx:List Value)=>fr 23 [] [8,14,20,21] jx) (λ(E8:Int)=>⟨[(0,.cells [.zi E8])],1,[],0⟩) [bF] (G6 [] 0 (sb B55 52) [.code (sb B55 7)] (Ac 300 []) (by kernel_rfl)) ?_ ?_ ?_ (λv h=>by cases h;exact .outer .body);rintro i0 E8 j0 hge hq;exact DU (Ac 300 [pb (iW hge)]) (by kernel_rfl) (hq (js 4 j0 [(1,bF)]));rintro i0 e0 E8 j0 r Qz PR OK k;show GK  depth i0 e0 E8=some r->_;unfold GK;refine Aq ?_;rintro⟨Eu,Bm⟩ Ci;dsimp only;let o1:List (PC P (G mx)):=[pb (Zp PR),IN (Kp .lost Qz),Af (Ry (Pq Ci) 0)];refine Ag (λhv=>?_) λhv=>?_;subst hv;rintro⟨⟩;exact Gh Hd.Aa [fq (AD.IA list)] [none] (Ac 300 (o1++[pi OK])) (by kernel_rfl) (k [(jv j0 0),bT,bT,bF]);subst hv;rintro⟨⟩;exact Aw Hd.Aa _ _ [] [none] (Ac 300 o1) (by kernel_rfl) (.Gb k);rintro OB oK;rintro⟨⟩;exact Aw Hd.Aa _ _ [] [none] (Ht 300 []) (by kernel_rfl) .body
def B22:Code:=A3 Tryz.f22
def b22:Tryz.f22.body=some B22:=by kernel_rfl
def Em(n:Nd):Option Bool:=cond (CS n.kind 1) ((CE (⟨0⟩:Ck) n 1).bind λ(Eu,Bm)=>cond Eu ((B5 n (⟨0,ByteArray.empty,ByteArray.empty,0,0,0,0,(⟨0,[]⟩:Fn),[],0⟩:Nd)).bind λy2=>cond y2 ((Fh (⟨Bm⟩:Ck) n.kids 2).bind λ(IP,EN)=>some IP) (some false)) (some false)) ((GV (⟨0⟩:Ck) n 1).bind λ(VV,JD)=>some VV)
def Jm{n:Nd}{yR:Bool}(h:Em  n=some yR):Pure P (G mx) 22 [.agg (C8 n)] (.zb yR):=by
 unfold Em at h;refine C5 Hd.mixed Hd.Aa (Ay Tryz.func22 b22 ?_) (A1 (AD.Cu n) rfl) rfl;revert h;refine Ag (λA0=>?_) λA0=>?_;refine Aq ?_;rintro⟨Eu,Bm⟩ Ci;dsimp only;let o1:List (PC P (G mx)):=[pn A0,Af (Fq (En Ci) 1)];refine Ag (λhv=>?_) λhv=>?_;subst hv;refine Aq λy2 D3=>?_;let o2:List (PC P (G mx)):=o1++[Iq (.r (.g (.r (.r (.r (.r (.r (.r (.r (.r (.z (.z (.r .nil))))))))))) .nil)) (BZ D3)];refine Ag (λhv=>?_) λhv=>?_;subst hv;refine Aq ?_;rintro⟨IP,EN⟩ Fc;dsimp only;rintro⟨⟩;exact rT (o2++[Af (OM (M0 Fc) 1)]);subst hv;rintro⟨⟩;exact rT o2;subst hv;rintro⟨⟩;exact rT o1;refine Aq ?_;rintro⟨VV,JD⟩ J5;dsimp only;rintro⟨⟩;exact rT [pn A0,Af (Bh (LB J5) 1)]
def B25:Code:=A3 Tryz.f25
def b25:Tryz.f25.body=some B25:=by kernel_rfl
def JT(H5:Nd->Option Nd)(i0:Nat)(e0:Nd)(Bf:(List Nd)):Option (Lp (List Nd) (List Nd) Nd):=(H5 e0).bind λy2=>MA (Bf.length+1) (some (.nx (Bf++[y2])))
def Ml(H5:Nd->Option Nd)(n:Nd):Option Nd:=(Tc n.kids.length (C4 (λi y x=>JT H5  i y x) (λx=>x) (n.kids.drop 0) 0 [])).bind (MC (λ(Ze:(List Nd))=>some (⟨n.kind,n.name,n.unit,n.n,n.fr,n.to,n.known,n.CV,Ze,0⟩:Nd)) (λv=>some v))
def VF(H5:Nd->Option Nd)(Yh:∀{n:Nd} {yR:Nd},H5 n=some yR->Pure P (G mx) 25 [.agg (C8 n)] (.agg (C8 yR))){n:Nd}{yR:Nd}(h:Ml H5 n=some yR):Pure P (G mx) 25 [.agg (C8 n)] (.agg (C8 yR)):=by
 unfold Ml at h;refine C5 Hd.mixed Hd.Aa (Ay Tryz.func25 b25 ?_) (A1 (AD.Cu n) rfl) (AD.Cu yR);revert h;refine RL (λQ v=>KM P Tryz.f25 0 Q (.agg (C8 v))) (λi0 (Bf:(List Nd)) (j0:List Value)=>fr 27 [(1,.ptr 0 0),(2,.ptr 1 0),(3,.ptr 2 0),(4,.zi ((i0:Nat):Int))] [12] j0) (λ(Bf:(List Nd))=>⟨[(2,.cells [.zi n.kind,.zs n.name,.zs n.unit,.zi n.n,.zi n.fr,.zi n.to,.zi n.known,.zi n.CV.den,.sl .lost n.CV.ps.length (rows Jb n.CV.ps),.sl (.row 0 11) Bf.length (BF Bf),.zi 0]),(1,.cells SZ),(0,.cells (C8 n))],3,[(0,Bf.length)],1⟩) (λ(Bf:(List Nd)) (jx:List Value)=>fr 27 [(2,.ptr 1 0),(3,.ptr 2 0)] [12] jx) (λ(Bf:(List Nd))=>⟨[(2,.cells [.zi n.kind,.zs n.name,.zs n.unit,.zi n.n,.zi n.fr,.zi n.to,.zi n.known,.zi n.CV.den,.sl .lost n.CV.ps.length (rows Jb n.CV.ps),.sl (.row 0 11) Bf.length (BF Bf),.zi 0]),(1,.cells SZ),(0,.cells (C8 n))],3,[(0,Bf.length)],1⟩) [] (G6 [.b 2 9 11] 0 (sb B25 500) [.code (sb B25 63)] (Ac 300 []) (by kernel_rfl)) ?_ ?_ ?_ (λv h=>by cases h;exact .outer .body);rintro i0 Bf j0 hge hq;exact DU (Ac 300 [pb (iW hge)]) (by kernel_rfl) (hq [bF]);rintro i0 e0 Bf j0 r Qz PR OK k;show JT H5  i0 e0 Bf=some r->_;unfold JT;refine Aq λy2 D3=>?_;refine Lz λhl3=>?_;rintro⟨⟩;exact Hg (Ac 300 [pb (Zp PR),mI,IN (Kp .lost Qz),AM (Yh D3),QP (PQ (.row 0 11) Bf [y2] (o:=.full) (n:=1) (ns:=(C8 y2)) (AD.wn [y2] (.r (.r (.r (.r (.r (.r (.r (.r (.r (.r (.r .nil)))))))))))) rfl rfl (by simp) (by simpa using hl3)),pi OK]) (by kernel_rfl) (k [bT])
 rintro Ze axI;rintro⟨⟩;exact Az (v:=.agg [.zi n.kind,.zs n.name,.zs n.unit,.zi n.n,.zi n.fr,.zi n.to,.zi n.known,.zi n.CV.den,.sl .lost n.CV.ps.length (rows Jb n.CV.ps),.sl (.row 0 11) Ze.length (BF Ze),.zi 0]) _ _ (Ht 300 []) (by kernel_rfl) .body (.wn (.g (.r (.r (.r (.r (.r (.r (.r (.r (.r (.s rfl (.r .nil))))))))))) .nil) (AD.Cu (⟨n.kind,n.name,n.unit,n.n,n.fr,n.to,n.known,n.CV,Ze,0⟩:Nd)))
def FH:Nat->Nd->Option Nd
 | 0,_=>none
 | qn+1,n=>Ml (FH qn) n
def WG:∀qn:Nat,∀{n:Nd} {yR:Nd},FH qn n=some yR->Pure P (G mx) 25 [.agg (C8 n)] (.agg (C8 yR)):=by
 intro qn
 induction qn with
 | zero=>exact(λh=>by simp only[FH] at h;cases h)
 | succ qn ih=>exact(λh=>VF (FH qn) ih (by rw[FH] at h;exact h))
def Mn(n:Nd):Option Nd:=evt (λqn=>FH qn n)
def YO{n:Nd}{yR:Nd}(h:Mn n=some yR):Pure P (G mx) 25 [.agg (C8 n)] (.agg (C8 yR)):=by
 obtain⟨qn,h⟩:=vL h;exact(WG qn) h
def B32:Code:=A3 Tryz.f32
def b32:Tryz.f32.body=some B32:=by kernel_rfl
def K1(op:ByteArray)(a:Nd)(b:Nd):Option Nd:=some (⟨16,op,ByteArray.empty,0,0,0,0,(⟨0,[]⟩:Fn),[a,b],0⟩:Nd)
def N0{op:ByteArray}{a:Nd}{b:Nd}{yR:Nd}(h:K1  op a b=some yR):Pure P (G mx) 32 [.zs op,.agg (C8 a),.agg (C8 b)] (.agg (C8 yR)):=by
 unfold K1 at h;refine C5 Hd.mixed Hd.Aa (Ay Tryz.func32 b32 ?_) (A1 rfl (A1 (AD.Cu a) (A1 (AD.Cu b) rfl))) (AD.Cu yR);revert h;rintro⟨⟩;exact Az (v:=.agg [.zi 16,.zs op,.zs ByteArray.empty,.zi 0,.zi 0,.zi 0,.zi 0,.zi 0,.sl .full 0 [],.sl .full 2 (ndL a (ndL b [])),.zi 0]) _ _ (Ac 300 []) (by kernel_rfl) .body (.wn (.g (.r (.r (.r (.r (.r (.r (.r (.r (.z (.d (.r (.r (.r (.r (.r (.r (.r (.r (.r (.r (.r (.r (.r (.r (.r (.r (.r (.r (.r (.r (.r (.r .nil)))))))))))))))))))))) (AD.eq [a,b]).symm (.r .nil))))))))))) .nil) (AD.Cu (⟨16,op,ByteArray.empty,0,0,0,0,(⟨0,[]⟩:Fn),[a,b],0⟩:Nd)))
def B33:Code:=A3 Tryz.f33
def b33:Tryz.f33.body=some B33:=by kernel_rfl
def JL(name:ByteArray):Option Nd:=some (⟨12,name,ByteArray.empty,0,0,0,0,(⟨0,[]⟩:Fn),[],0⟩:Nd)
def Ly{name:ByteArray}{yR:Nd}(h:JL  name=some yR):Pure P (G mx) 33 [.zs name] (.agg (C8 yR)):=by
 unfold JL at h;refine C5 Hd.mixed Hd.Aa (Ay Tryz.func33 b33 ?_) (A1 rfl rfl) (AD.Cu yR);revert h;rintro⟨⟩;exact Az (v:=.agg [.zi 12,.zs name,.zs ByteArray.empty,.zi 0,.zi 0,.zi 0,.zi 0,.zi 0,.sl .full 0 [],.sl .full 0 [],.zi 0]) _ _ (Ac 300 []) (by kernel_rfl) .body (.wn (.g (.r (.r (.r (.r (.r (.r (.r (.r (.z (.z (.r .nil))))))))))) .nil) (AD.Cu (⟨12,name,ByteArray.empty,0,0,0,0,(⟨0,[]⟩:Fn),[],0⟩:Nd)))
def B10:Code:=A3 Tryz.f10
def b10:Tryz.f10.body=some B10:=by kernel_rfl
def J6  :Option Bool:=(Dq E3).bind λ(Eu,Bm)=>(JL aS).bind λy2=>(K1 J9 (⟨11,ByteArray.empty,EF,3,0,0,0,(⟨0,[]⟩:Fn),[],0⟩:Nd) y2).bind λy3=>(JL bS).bind λy4=>(JL cS).bind λy5=>(K1 GO y4 y5).bind λy6=>(K1 PJ y3 (⟨15,ByteArray.empty,ByteArray.empty,0,0,0,0,(⟨0,[]⟩:Fn),[y6],0⟩:Nd)).bind λy7=>(Dq ED).bind λ(Zl,LU)=>(Dq MP).bind λ(fL,Ro)=>(Dq BI).bind λ(Zh,KW)=>(Cy Ep).bind λ(qG,Qm)=>(Cy Av).bind λ(Zj,U9)=>cond (DM 0 (BC (BC (BC ((Bm.length:Nat):Int) ((LU.length:Nat):Int)) ((KW.length:Nat):Int)) ((U9.length:Nat):Int))) (some false) ((Mn Eu).bind λy13=>(Kf y13 y7).bind λy14=>cond y14 (cond (CS ((Zl.kids.length:Nat):Int) 2) (cond (B2 Zl.name.data.toList Oi.data.toList) ((Zl.kids[1]?).bind λx15=>cond (CS x15.n 3) (cond (CS ((Ro.length:Nat):Int) 1) ((Ro[0]?).bind λx16=>cond (QW x16 (⟨71,6⟩:Dg)) (cond (CS Zh.CV.den 20) (cond (CS ((Zh.CV.ps.length:Nat):Int) 2) ((Zh.CV.ps[1]?).bind λx17=>cond (PA x17 (⟨50000,100000,5⟩:Pc)) (cond (CS ((Qm.length:Nat):Int) 2) ((Qm[0]?).bind λx18=>cond (CS x18.AH 16) ((Qm[1]?).bind λx19=>cond (CS x19.err 72) (cond (CS x19.AH 22) (cond (CS ((Zj.kids.length:Nat):Int) 2) ((Zj.kids[1]?).bind λx20=>cond (CS x20.AH 21) (cond (CS ((x20.kids.length:Nat):Int) 2) ((x20.kids[0]?).bind λx21=>cond (CS x21.fr 8766) (cond (CS x21.to 36525) ((Em Zj).bind λy22=>cond y22 ((Em y7).bind λy23=>cond y23 ((JL cA).bind λy24=>(Em y24).bind λy25=>cond y25 (some false) (some true)) (some false)) (some false)) (some false)) (some false)) (some false)) (some false)) (some false)) (some false)) (some false)) (some false)) (some false)) (some false)) (some false)) (some false)) (some false)) (some false)) (some false)) (some false)) (some false)) (some false))
def Wx{yR:Bool}(h:J6  =some yR):Pure P (G mx) 10 [] (.zb yR):=by
 unfold J6 at h;refine C5 Hd.mixed Hd.Aa (Ay Tryz.func10 b10 ?_) rfl rfl;revert h;refine Aq ?_;rintro⟨Eu,Bm⟩ Ci;dsimp only;refine Aq λy2 D3=>?_;refine Aq λy3 Fc=>?_;refine Aq λy4 J5=>?_;refine Aq λy5 Ko=>?_;refine Aq λy6 L6=>?_;refine Aq λy7 Sz=>?_;refine Aq ?_;rintro⟨Zl,LU⟩ OF;dsimp only;refine Aq ?_;rintro⟨fL,Ro⟩ UD;dsimp only;refine Aq ?_;rintro⟨Zh,KW⟩ PU;dsimp only;refine Aq ?_;rintro⟨qG,Qm⟩ Yi;dsimp only;refine Aq ?_;rintro⟨Zj,U9⟩ dE;dsimp only;let o1:List (PC P (G mx)):=[AM (GU Ci),AM (Ly D3),Iq (.r (.g (.r (.r (.r (.r (.r (.r (.r (.r (.z (.z (.r .nil))))))))))) (.r .nil))) (N0 Fc),AM (Ly J5),AM (Ly Ko),AM (N0 L6),Iq (args:=[.zs PJ,.agg (C8 y3),.agg [.zi 15,.zs ByteArray.empty,.zs ByteArray.empty,.zi 0,.zi 0,.zi 0,.zi 0,.zi 0,.sl .full 0 [],.sl .full 1 (C8 y6),.zi 0]]) (.r (.r (.g (.r (.r (.r (.r (.r (.r (.r (.r (.z (.d (.r (.r (.r (.r (.r (.r (.r (.r (.r (.r (.r .nil))))))))))) (AD.eq [y6]).symm (.r .nil))))))))))) .nil))) (N0 Sz),AM (GU OF),AM (GU UD),AM (GU PU),AM (Jl Yi),AM (Jl dE),pk,pk,pk];refine Ag (λA0=>?_) λA0=>?_;rintro⟨⟩;exact rT (o1++[pb A0]);refine Aq λy13 Vq=>?_;refine Aq λy14 Yj=>?_;let o2:List (PC P (G mx)):=o1++[pb A0,AM (YO Vq),AM (Te Yj)];refine Ag (λhv=>?_) λhv=>?_;subst hv;refine Ag (λhb2=>?_) λhb2=>?_;let o3:List (PC P (G mx)):=o2++[pn hb2];refine Ag (λhb3=>?_) λhb3=>?_;refine Aq λx15 awI=>?_;let o4:List (PC P (G mx)):=o3++[pn hb3,IN (Kp .lost awI)];refine Ag (λFa=>?_) λFa=>?_;let o5:List (PC P (G mx)):=o4++[pn Fa];refine Ag (λHH=>?_) λHH=>?_;refine Aq λx16 aKV=>?_;let o6:List (PC P (G mx)):=o5++[pn HH,IN (wB .lost aKV)];refine Ag (λIH=>?_) λIH=>?_;let o7:List (PC P (G mx)):=o6++[Kx (asW IH (.tmp 95) (.tmp 96))];refine Ag (λI6=>?_) λI6=>?_;let o8:List (PC P (G mx)):=o7++[pn I6];refine Ag (λKP=>?_) λKP=>?_;refine Aq λx17 awJ=>?_;let o9:List (PC P (G mx)):=o8++[pn KP,IN (Wv .lost awJ)];refine Ag (λKi=>?_) λKi=>?_;let sR:List (PC P (G mx)):=o9++[Kx (Z9 Ki (.tmp 115) (.tmp 116))];refine Ag (λGG=>?_) λGG=>?_;refine Aq λx18 awK=>?_;let o11:List (PC P (G mx)):=sR++[pn GG,IN (wB .lost awK)];refine Ag (λIS=>?_) λIS=>?_;refine Aq λx19 alZ=>?_;let o12:List (PC P (G mx)):=o11++[pn IS,IN (wB .lost alZ)];refine Ag (λJz=>?_) λJz=>?_;let oW:List (PC P (G mx)):=o12++[pn Jz,IN (wB .lost alZ)];refine Ag (λJA=>?_) λJA=>?_;refine Ag (λKO=>?_) λKO=>?_;refine Aq λx20 oC=>?_;let zD:List (PC P (G mx)):=oW++[pn JA,pb KO,IN (Kp .lost oC)];refine Ag (λLf=>?_) λLf=>?_;let zE:List (PC P (G mx)):=zD++[pb Lf,IN (Kp .lost oC)];refine Ag (λNU=>?_) λNU=>?_;refine Aq λx21 amA=>?_;let wO:List (PC P (G mx)):=zE++[pb NU,IN (Kp .lost oC),IN (Kp .lost amA)];refine Ag (λUy=>?_) λUy=>?_;let o17:List (PC P (G mx)):=wO++[pb Uy,IN (Kp .lost oC),IN (Kp .lost amA)];refine Ag (λWt=>?_) λWt=>?_;refine Aq λy22 dG=>?_;let o18:List (PC P (G mx)):=o17++[pb Wt,AM (Jm dG)];refine Ag (λhv=>?_) λhv=>?_;subst hv;refine Aq λy23 iO=>?_;refine Ag (λhv=>?_) λhv=>?_;subst hv;refine Aq λy24 dH=>?_;refine Aq λy25 adQ=>?_;let o19:List (PC P (G mx)):=o18++[AM (Jm iO),AM (Ly dH),AM (Jm adQ)];refine Ag (λhv=>?_) λhv=>?_;subst hv;rintro⟨⟩;exact rT o19;subst hv;rintro⟨⟩;exact rT o19;subst hv;rintro⟨⟩;exact rT (o18++[AM (Jm iO)]);subst hv;rintro⟨⟩;exact rT o18;rintro⟨⟩;exact rT (o17++[pb Wt]);rintro⟨⟩;exact rT (wO++[pb Uy]);rintro⟨⟩;exact rT (zE++[pb NU]);rintro⟨⟩;exact rT (zD++[pb Lf]);rintro⟨⟩;exact rT (oW++[pn JA,pb KO]);rintro⟨⟩;exact rT (oW++[pn JA]);rintro⟨⟩;exact rT (o12++[pn Jz]);rintro⟨⟩;exact rT (o11++[pn IS]);rintro⟨⟩;exact rT (sR++[pn GG]);rintro⟨⟩;exact rT (o9++[Kx (Z9 Ki (.tmp 115) (.tmp 116))]);rintro⟨⟩;exact rT (o8++[pn KP]);rintro⟨⟩;exact rT (o7++[pn I6]);rintro⟨⟩;exact rT (o6++[Kx (asW IH (.tmp 95) (.tmp 96))]);rintro⟨⟩;exact rT (o5++[pn HH]);rintro⟨⟩;exact rT (o4++[pn Fa]);rintro⟨⟩;exact rT (o3++[pn hb3]);rintro⟨⟩;exact rT (o2++[pn hb2]);subst hv;rintro⟨⟩;exact rT o2
def B73:Code:=A3 Tryz.f73
def b73:Tryz.f73.body=some B73:=by kernel_rfl
def Kz(c:Int):Option Bool:=cond (CS c 32) (some true) (cond (CS c 9) (some true) (cond (CS c 10) (some true) (cond (CS c 13) (some true) (some false))))
def VE{c:Int}{yR:Bool}(h:Kz  c=some yR):Pure P (G mx) 73 [.sc (.int .u8 c)] (.zb yR):=by
 unfold Kz at h;refine C5 Hd.mixed Hd.Aa (Ay Tryz.func73 b73 ?_) (A1 rfl rfl) rfl;revert h;refine Ag (λA0=>?_) λA0=>?_;rintro⟨⟩;exact rT [pb A0];refine Ag (λhb2=>?_) λhb2=>?_;rintro⟨⟩;exact rT [pb A0,pb hb2];refine Ag (λhb3=>?_) λhb3=>?_;rintro⟨⟩;exact rT [pb A0,pb hb2,pb hb3];refine Ag (λFa=>?_) λFa=>?_;rintro⟨⟩;exact rT [pb A0,pb hb2,pb hb3,pb Fa];rintro⟨⟩;exact rT [pb A0,pb hb2,pb hb3,pb Fa]
def B74:Code:=A3 Tryz.f74
def b74:Tryz.f74.body=some B74:=by kernel_rfl
def Ir(s:ByteArray)(at_:Int)(t:ByteArray):Option Bool:=cond (N1 ((t.data.toList.length:Nat):Int) (LR ((s.data.toList.length:Nat):Int) at_)) ((Ov s at_ (BC at_ ((t.data.toList.length:Nat):Int))).bind λs1=>cond (B2 s1.data.toList t.data.toList) (some true) (some false)) (some false)
def Jr{s:ByteArray}{at_:Int}{t:ByteArray}{yR:Bool}(h:Ir  s at_ t=some yR):Pure P (G mx) 74 [.zs s,.zi at_,.zs t] (.zb yR):=by
 unfold Ir at h;refine C5 Hd.mixed Hd.Aa (Ay Tryz.func74 b74 ?_) (A1 rfl (A1 rfl (A1 rfl rfl))) rfl;revert h;refine Ag (λA0=>?_) λA0=>?_;refine Aq λs1 RE=>?_;refine Ag (λhb2=>?_) λhb2=>?_;rintro⟨⟩;exact rT [pk,pb A0,pk,Oh (It RE),pb hb2];rintro⟨⟩;exact rT [pk,pb A0,pk,Oh (It RE),pb hb2];rintro⟨⟩;exact rT [pk,pb A0]
def B41:Code:=A3 Tryz.f41
def b41:Tryz.f41.body=some B41:=by kernel_rfl
def Er(s:ByteArray)(LW:Int):Option (Lp Int Int Int):=cond (DM LW ((s.data.toList.length:Nat):Int)) ((G5 s.data.toList LW).bind λc4=>cond (CS ((c4.toNat:Nat):Int) 10) (some (.ex LW)) (some (.nx (BC LW 1)))) (some (.ex LW))
def Dw(s:ByteArray)(LW:Int):Option (Lp Int Int Int):=cond (DM LW ((s.data.toList.length:Nat):Int)) ((G5 s.data.toList LW).bind λc1=>(Kz ((c1.toNat:Nat):Int)).bind λy2=>cond y2 (some (.nx (BC LW 1))) ((Ir s LW pG).bind λy3=>cond y3 ((L5 (λx=>Er  s x) LW).bind (MC (λ(arP:Int)=>some (.nx arP)) (λv=>some (.rt v)))) (some (.rt LW)))) (some (.ex LW))
def Kb(s:ByteArray)(at_:Int):Option Int:=(L5 (λx=>Dw  s x) at_).bind (MC (λ(arQ:Int)=>some arQ) (λv=>some v))
def Rk{s:ByteArray}{at_:Int}{yR:Int}(h:Kb  s at_=some yR):Pure P (G mx) 41 [.zs s,.zi at_] (.zi yR):=by
 unfold Kb at h;refine C5 Hd.mixed Hd.Aa (Ay Tryz.func41 b41 ?_) (A1 rfl (A1 rfl rfl)) rfl;revert h;refine Pb (λQ v=>KM P Tryz.f41 0 Q (.zi v)) (λ(LW:Int) (j0:List Value)=>fr 33 [(0,.zs s),(1,.zi LW)] [8,12,17,18,23,24,28,29] j0) (λ(LW:Int)=>⟨[],0,[],0⟩) (λ(LW:Int) (jx:List Value)=>fr 33 [(1,.zi LW)] [8,12,17,18,23,24,28,29] jx) (λ(LW:Int)=>⟨[],0,[],0⟩) [] (G6 [] 0 (sb B41 24) [.code (sb B41 7)] (Ac 300 []) (by kernel_rfl)) ?_ ?_ (λv h=>by cases h;exact .outer .body);rintro LW j0 r k;show Dw  s LW=some r->_;unfold Dw;refine Ag (λA0=>?_) λA0=>?_;refine Aq λc1 hc1=>?_;refine Aq λy2 D3=>?_;let o1:List (PC P (G mx)):=[pb A0,R8 (Jk hc1),AM (VE D3)];refine Ag (λhv=>?_) λhv=>?_;subst hv;rintro⟨⟩;exact Hg (Ac 300 (o1++[pk])) (by kernel_rfl) (k (js 8 j0 [(0,bT),(1,bT)]));subst hv;refine Aq λy3 Fc=>?_;refine Ag (λhv=>?_) λhv=>?_;subst hv;refine Pb (λQ v=>KM P Tryz.f41 0 Q (.zi v)) (λ(LW:Int) (j1:List Value)=>fr 33 [(0,.zs s),(1,.zi LW)] [8,12,17,18,23,24,28,29] j1) (λ(LW:Int)=>⟨[],0,[],0⟩) (λ(LW:Int) (jx:List Value)=>fr 33 [(0,.zs s),(1,.zi LW)] [8,12,17,18,23,24,28,29] jx) (λ(LW:Int)=>⟨[],0,[],0⟩) (js 8 j0 [(0,bT),(1,bF),(2,bT),(3,bF)]) (G6 [] 2 (sb B41 1580) [.gZ 1] (Ac 300 (o1++[AM (Jr Fc)])) (by kernel_rfl)) ?_ ?_ (λv h=>by cases h;exact .outer (.Gb k));rintro LW j1 r k;show Er  s LW=some r->_;unfold Er;refine Ag (λhb2=>?_) λhb2=>?_;refine Aq λc4 hc4=>?_;refine Ag (λhb3=>?_) λhb3=>?_;rintro⟨⟩;exact DU (Ac 300 [pb hb2,R8 (Jk hc4),pn hb3]) (by kernel_rfl) (k (js 8 j1 [(4,bT),(5,bT),(6,bF),(7,bF)]));rintro⟨⟩;exact Hg (Ac 300 [pb hb2,R8 (Jk hc4),pn hb3,pk]) (by kernel_rfl) (k (js 8 j1 [(4,bT),(5,bT),(6,bT),(7,bT)]));rintro⟨⟩;exact DU (Ac 300 [pb hb2]) (by kernel_rfl) (k (js 8 j1 [(4,bF),(5,bF),(6,undef),(7,bF)]));rintro arP aLL;rintro⟨⟩;exact Hg (Ht 300 []) (by kernel_rfl) (k aLL);subst hv;rintro⟨⟩;exact Az _ _ (Ac 300 (o1++[AM (Jr Fc)])) (by kernel_rfl) (.Gb k) .sc;rintro⟨⟩;exact DU (Ac 300 [pb A0]) (by kernel_rfl) (k (js 8 j0 [(0,bF)]));rintro arQ aCU;rintro⟨⟩;exact Az _ _ (Ht 300 []) (by kernel_rfl) .body .sc
def B75:Code:=A3 Tryz.f75
def b75:Tryz.f75.body=some B75:=by kernel_rfl
def Gu(c:Int):Option Bool:=cond (N1 48 c) (cond (N1 c 57) (some true) (some false)) (some false)
def EE{c:Int}{yR:Bool}(h:Gu  c=some yR):Pure P (G mx) 75 [.sc (.int .u8 c)] (.zb yR):=by
 unfold Gu at h;refine C5 Hd.mixed Hd.Aa (Ay Tryz.func75 b75 ?_) (A1 rfl rfl) rfl;revert h;refine Ag (λA0=>?_) λA0=>?_;refine Ag (λhb2=>?_) λhb2=>?_;rintro⟨⟩;exact rT [pb A0,pb hb2];rintro⟨⟩;exact rT [pb A0,pb hb2];rintro⟨⟩;exact rT [pb A0]
def auB:Code:=A3 Tryz.f127
def aHF:Tryz.f127.body=some auB:=by kernel_rfl
def FG(s:ByteArray)(at_:Int)(i5:Int):Option (Lp Int Unit Bool):=cond (DM i5 10) ((G5 s.data.toList (BC at_ i5)).bind λc5=>cond (CS i5 4) (cond (CS ((c5.toNat:Nat):Int) 45) (some (.nx (BC i5 1))) (some (.rt false))) (cond (CS i5 7) (cond (CS ((c5.toNat:Nat):Int) 45) (some (.nx (BC i5 1))) (some (.rt false))) ((Gu ((c5.toNat:Nat):Int)).bind λy6=>cond y6 (some (.nx (BC i5 1))) (some (.rt false))))) (some (.ex ()))
def LJ(s:ByteArray)(at_:Int):Option Bool:=cond (DM (LR ((s.data.toList.length:Nat):Int) at_) 10) (some false) ((L5 (λx=>FG  s at_ x) 0).bind (MC (λ(_:Unit)=>some true) (λv=>some v)))
def WA{s:ByteArray}{at_:Int}{yR:Bool}(h:LJ  s at_=some yR):Pure P (G mx) 127 [.zs s,.zi at_] (.zb yR):=by
 unfold LJ at h;refine C5 Hd.mixed Hd.Aa (Ay Tryz.func127 aHF ?_) (A1 rfl (A1 rfl rfl)) rfl;revert h;refine Ag (λA0=>?_) λA0=>?_;rintro⟨⟩;exact rT [pk,pb A0];refine Pb (λQ v=>KM P Tryz.f127 0 Q (.zb v)) (λ(i5:Int) (j0:List Value)=>fr 32 [(0,.zs s),(1,.zi at_),(5,.zi i5)] [4,11,13,22,23,25,26,28,30,31] j0) (λ(i5:Int)=>⟨[],0,[],0⟩) (λ(_:Unit) (jx:List Value)=>fr 32 [] [4,11,13,22,23,25,26,28,30,31] jx) (λ(_:Unit)=>⟨[],0,[],0⟩) [bF,bF] (G6 [] 0 (sb auB 116) [.code (sb auB 15)] (Ac 300 [pk,pb A0]) (by kernel_rfl)) ?_ ?_ (λv h=>by cases h;exact .outer .body);rintro i5 j0 r k;show FG  s at_ i5=some r->_;unfold FG;refine Ag (λJz=>?_) λJz=>?_;refine Aq λc5 hc5=>?_;let o1:List (PC P (G mx)):=[pb Jz,pk,R8 (Jk hc5)];refine Ag (λJA=>?_) λJA=>?_;refine Ag (λKO=>?_) λKO=>?_;rintro⟨⟩;exact Hg (Ac 300 (o1++[pb JA,pn KO,pk])) (by kernel_rfl) (k (js 10 j0 [(2,bT),(3,bT),(4,bT),(5,undef),(6,bT),(7,bF)]));rintro⟨⟩;exact Az _ _ (Ac 300 (o1++[pb JA,pn KO])) (by kernel_rfl) (.Gb k) .sc;refine Ag (λLf=>?_) λLf=>?_;refine Ag (λNU=>?_) λNU=>?_;rintro⟨⟩;exact Hg (Ac 300 (o1++[pb JA,pb Lf,pn NU,pk])) (by kernel_rfl) (k (js 10 j0 [(2,bT),(3,bF),(4,bF),(5,bT),(6,bT),(7,bF)]));rintro⟨⟩;exact Az _ _ (Ac 300 (o1++[pb JA,pb Lf,pn NU])) (by kernel_rfl) (.Gb k) .sc;refine Aq λy6 L6=>?_;refine Ag (λhv=>?_) λhv=>?_;subst hv;rintro⟨⟩;exact Hg (Ac 300 (o1++[pb JA,pb Lf,AM (EE L6),pk])) (by kernel_rfl) (k [(jv j0 0),(jv j0 1),bT,bF,bF,bF,bF,(jv j0 7),bT,bF]);subst hv;rintro⟨⟩;exact Az _ _ (Ac 300 (o1++[pb JA,pb Lf,AM (EE L6)])) (by kernel_rfl) (.Gb k) .sc;rintro⟨⟩;exact DU (Ac 300 [pb Jz]) (by kernel_rfl) (k (js 10 j0 [(2,bF)]));rintro⟨⟩ adU;rintro⟨⟩;exact Az _ _ (Ht 300 []) (by kernel_rfl) .body .sc
def B77:Code:=A3 Tryz.f77
def b77:Tryz.f77.body=some B77:=by kernel_rfl
def IZ(c:Int):Option Bool:=cond (N1 97 c) (cond (N1 c 122) (some true) (some false)) (some false)
def Qb{c:Int}{yR:Bool}(h:IZ  c=some yR):Pure P (G mx) 77 [.sc (.int .u8 c)] (.zb yR):=by
 unfold IZ at h;refine C5 Hd.mixed Hd.Aa (Ay Tryz.func77 b77 ?_) (A1 rfl rfl) rfl;revert h;refine Ag (λA0=>?_) λA0=>?_;refine Ag (λhb2=>?_) λhb2=>?_;rintro⟨⟩;exact rT [pb A0,pb hb2];rintro⟨⟩;exact rT [pb A0,pb hb2];rintro⟨⟩;exact rT [pb A0]
def B79:Code:=A3 Tryz.f79
def b79:Tryz.f79.body=some B79:=by kernel_rfl
def Gv(c:Int):Option Bool:=cond (N1 65 c) (cond (N1 c 90) (some true) (some false)) (some false)
def FA{c:Int}{yR:Bool}(h:Gv  c=some yR):Pure P (G mx) 79 [.sc (.int .u8 c)] (.zb yR):=by
 unfold Gv at h;refine C5 Hd.mixed Hd.Aa (Ay Tryz.func79 b79 ?_) (A1 rfl rfl) rfl;revert h;refine Ag (λA0=>?_) λA0=>?_;refine Ag (λhb2=>?_) λhb2=>?_;rintro⟨⟩;exact rT [pb A0,pb hb2];rintro⟨⟩;exact rT [pb A0,pb hb2];rintro⟨⟩;exact rT [pb A0]
def aGA:Code:=A3 Tryz.f158
def aHT:Tryz.f158.body=some aGA:=by kernel_rfl
def Kc(c:Int):Option Bool:=(IZ c).bind λy1=>cond y1 (some true) ((Gv c).bind λy2=>cond y2 (some true) ((Gu c).bind λy3=>cond y3 (some true) (cond (CS c 95) (some true) (some false))))
def M3{c:Int}{yR:Bool}(h:Kc  c=some yR):Pure P (G mx) 158 [.sc (.int .u8 c)] (.zb yR):=by
 unfold Kc at h;refine C5 Hd.mixed Hd.Aa (Ay Tryz.func158 aHT ?_) (A1 rfl rfl) rfl;revert h;refine Aq λy1 Ci=>?_;let o1:List (PC P (G mx)):=[AM (Qb Ci)];refine Ag (λhv=>?_) λhv=>?_;subst hv;rintro⟨⟩;exact rT o1;subst hv;refine Aq λy2 D3=>?_;let o2:List (PC P (G mx)):=o1++[AM (FA D3)];refine Ag (λhv=>?_) λhv=>?_;subst hv;rintro⟨⟩;exact rT o2;subst hv;refine Aq λy3 Fc=>?_;refine Ag (λhv=>?_) λhv=>?_;subst hv;rintro⟨⟩;exact rT (o2++[AM (EE Fc)]);subst hv;refine Ag (λA0=>?_) λA0=>?_;rintro⟨⟩;exact rT (o2++[AM (EE Fc),pb A0]);rintro⟨⟩;exact rT (o2++[AM (EE Fc),pb A0])
def aFQ:Code:=A3 Tryz.f128
def aHG:Tryz.f128.body=some aFQ:=by kernel_rfl
def D8(s:ByteArray)(at_:Int):Option Bool:=cond (N1 ((s.data.toList.length:Nat):Int) at_) (some true) ((G5 s.data.toList at_).bind λc1=>(Kc ((c1.toNat:Nat):Int)).bind λy2=>cond y2 (some false) (cond (CS ((c1.toNat:Nat):Int) 46) (some false) (some true)))
def Ga{s:ByteArray}{at_:Int}{yR:Bool}(h:D8  s at_=some yR):Pure P (G mx) 128 [.zs s,.zi at_] (.zb yR):=by
 unfold D8 at h;refine C5 Hd.mixed Hd.Aa (Ay Tryz.func128 aHG ?_) (A1 rfl (A1 rfl rfl)) rfl;revert h;refine Ag (λA0=>?_) λA0=>?_;rintro⟨⟩;exact rT [pb A0];refine Aq λc1 hc1=>?_;refine Aq λy2 D3=>?_;let o1:List (PC P (G mx)):=[pb A0,R8 (Jk hc1),AM (M3 D3)];refine Ag (λhv=>?_) λhv=>?_;subst hv;rintro⟨⟩;exact rT o1;subst hv;refine Ag (λhb2=>?_) λhb2=>?_;rintro⟨⟩;exact rT (o1++[R8 (Jk hc1),pn hb2]);rintro⟨⟩;exact rT (o1++[R8 (Jk hc1),pn hb2])
def auC:Code:=A3 Tryz.f129
def aHH:Tryz.f129.body=some auC:=by kernel_rfl
def Hc(s:ByteArray)(LW:Int):Option (Lp Int Int Int):=cond (DM LW ((s.data.toList.length:Nat):Int)) ((G5 s.data.toList LW).bind λc1=>(Gu ((c1.toNat:Nat):Int)).bind λy2=>cond y2 (some (.nx (BC LW 1))) (some (.ex LW))) (some (.ex LW))
def E4(s:ByteArray)(at_:Int):Option Int:=(L5 (λx=>Hc  s x) at_).bind (MC (λ(gH:Int)=>some gH) (λv=>some v))
def Js{s:ByteArray}{at_:Int}{yR:Int}(h:E4  s at_=some yR):Pure P (G mx) 129 [.zs s,.zi at_] (.zi yR):=by
 unfold E4 at h;refine C5 Hd.mixed Hd.Aa (Ay Tryz.func129 aHH ?_) (A1 rfl (A1 rfl rfl)) rfl;revert h;refine Pb (λQ v=>KM P Tryz.f129 0 Q (.zi v)) (λ(LW:Int) (j0:List Value)=>fr 18 [(0,.zs s),(1,.zi LW)] [8,9,13,14] j0) (λ(LW:Int)=>⟨[],0,[],0⟩) (λ(LW:Int) (jx:List Value)=>fr 18 [(1,.zi LW)] [8,9,13,14] jx) (λ(LW:Int)=>⟨[],0,[],0⟩) [] (G6 [] 0 (sb auC 24) [.code (sb auC 7)] (Ac 300 []) (by kernel_rfl)) ?_ ?_ (λv h=>by cases h;exact .outer .body);rintro LW j0 r k;show Hc  s LW=some r->_;unfold Hc;refine Ag (λA0=>?_) λA0=>?_;refine Aq λc1 hc1=>?_;refine Aq λy2 D3=>?_;refine Ag (λhv=>?_) λhv=>?_;subst hv;rintro⟨⟩;exact Hg (Ac 300 [pb A0,R8 (Jk hc1),AM (EE D3),pk]) (by kernel_rfl) (k [bT,bT,bT,bT]);subst hv;rintro⟨⟩;exact DU (Ac 300 [pb A0,R8 (Jk hc1),AM (EE D3)]) (by kernel_rfl) (k [bT,bT,bF,bF]);rintro⟨⟩;exact DU (Ac 300 [pb A0]) (by kernel_rfl) (k [bF,bF,undef,bF]);rintro gH aCT;rintro⟨⟩;exact Az _ _ (Ht 300 []) (by kernel_rfl) .body .sc
def B76:Code:=A3 Tryz.f76
def b76:Tryz.f76.body=some B76:=by kernel_rfl
def IV(s:ByteArray)(at_:Int):Option (Tk×Bool):=(LJ s at_).bind λy1=>cond y1 ((Ov s at_ (BC at_ 10)).bind λs2=>(D8 s (BC at_ 10)).bind λy3=>some ((⟨5,s2,at_⟩:Tk),y3)) ((E4 s at_).bind λy4=>cond (CS y4 (BC at_ 1)) (cond (DM y4 ((s.data.toList.length:Nat):Int)) ((G5 s.data.toList y4).bind λc5=>cond (CS ((c5.toNat:Nat):Int) 46) ((E4 s (BC y4 1)).bind λy6=>(Ov s at_ y6).bind λs7=>cond (N1 (LR y4 at_) 10) (cond (CS y6 (BC y4 3)) ((D8 s y6).bind λy8=>some ((⟨4,s7,at_⟩:Tk),y8)) (some ((⟨4,s7,at_⟩:Tk),false))) (some ((⟨4,s7,at_⟩:Tk),false))) ((Ov s at_ y4).bind λs9=>cond (N1 (LR y4 at_) 12) ((D8 s y4).bind λyK=>some ((⟨3,s9,at_⟩:Tk),yK)) (some ((⟨3,s9,at_⟩:Tk),false)))) ((Ov s at_ y4).bind λs11=>cond (N1 (LR y4 at_) 12) ((D8 s y4).bind λy12=>some ((⟨3,s11,at_⟩:Tk),y12)) (some ((⟨3,s11,at_⟩:Tk),false)))) ((G5 s.data.toList at_).bind λc13=>cond (CS ((c13.toNat:Nat):Int) 48) (cond (DM y4 ((s.data.toList.length:Nat):Int)) ((G5 s.data.toList y4).bind λc14=>cond (CS ((c14.toNat:Nat):Int) 46) ((E4 s (BC y4 1)).bind λy15=>(Ov s at_ y15).bind λs16=>some ((⟨4,s16,at_⟩:Tk),false)) ((Ov s at_ y4).bind λs17=>some ((⟨3,s17,at_⟩:Tk),false))) ((Ov s at_ y4).bind λs18=>some ((⟨3,s18,at_⟩:Tk),false))) (cond (DM y4 ((s.data.toList.length:Nat):Int)) ((G5 s.data.toList y4).bind λc19=>cond (CS ((c19.toNat:Nat):Int) 46) ((E4 s (BC y4 1)).bind λy20=>(Ov s at_ y20).bind λs21=>cond (N1 (LR y4 at_) 10) (cond (CS y20 (BC y4 3)) ((D8 s y20).bind λy22=>some ((⟨4,s21,at_⟩:Tk),y22)) (some ((⟨4,s21,at_⟩:Tk),false))) (some ((⟨4,s21,at_⟩:Tk),false))) ((Ov s at_ y4).bind λs23=>cond (N1 (LR y4 at_) 12) ((D8 s y4).bind λy24=>some ((⟨3,s23,at_⟩:Tk),y24)) (some ((⟨3,s23,at_⟩:Tk),false)))) ((Ov s at_ y4).bind λs25=>cond (N1 (LR y4 at_) 12) ((D8 s y4).bind λy26=>some ((⟨3,s25,at_⟩:Tk),y26)) (some ((⟨3,s25,at_⟩:Tk),false))))))
def TU{s:ByteArray}{at_:Int}{yR:(Tk×Bool)}(h:IV  s at_=some yR):Pure P (G mx) 76 [.zs s,.zi at_] (.CZ [.agg (Gr yR.1),.zb yR.2]):=by
 unfold IV at h;refine C5 Hd.mixed Hd.Aa (Ay Tryz.func76 b76 ?_) (A1 rfl (A1 rfl rfl)) (A1 (BK.Cu yR.1) (A1 rfl rfl));revert h;refine Aq λy1 Ci=>?_;let o1:List (PC P (G mx)):=[AM (WA Ci)];refine Ag (λhv=>?_) λhv=>?_;subst hv;refine Aq λs2 Z0=>?_;refine Aq λy3 Fc=>?_;rintro⟨⟩;exact Az _ _ (Ac 300 (o1++[pz 11,pk,Oh (It Z0),pk,AM (Ga Fc)])) (by kernel_rfl) .body (.plain (A1 (BK.Cu (⟨5,s2,at_⟩:Tk)) (A1 rfl rfl)));subst hv;refine Aq λy4 J5=>?_;let o2:List (PC P (G mx)):=o1++[AM (Js J5),pk];refine Ag (λA0=>?_) λA0=>?_;refine Ag (λhb2=>?_) λhb2=>?_;refine Aq λc5 hc5=>?_;let o3:List (PC P (G mx)):=o2++[pb A0,pb hb2,R8 (Jk hc5)];refine Ag (λhb3=>?_) λhb3=>?_;refine Aq λy6 L6=>?_;refine Aq λs7 hs7=>?_;let o4:List (PC P (G mx)):=o3++[pb hb3,pk,AM (Js L6),pz 24,Oh (It hs7),pk];refine Ag (λFa=>?_) λFa=>?_;refine Ag (λHH=>?_) λHH=>?_;refine Aq λy8 OF=>?_;rintro⟨⟩;exact Az _ _ (Ac 300 (o4++[pb Fa,pk,pb HH,AM (Ga OF)])) (by kernel_rfl) .body (.plain (A1 (BK.Cu (⟨4,s7,at_⟩:Tk)) (A1 rfl rfl)));rintro⟨⟩;exact Az _ _ (Ac 300 (o4++[pb Fa,pk,pb HH])) (by kernel_rfl) .body (.plain (A1 (BK.Cu (⟨4,s7,at_⟩:Tk)) (A1 rfl rfl)));rintro⟨⟩;exact Az _ _ (Ac 300 (o4++[pb Fa])) (by kernel_rfl) .body (.plain (A1 (BK.Cu (⟨4,s7,at_⟩:Tk)) (A1 rfl rfl)));refine Aq λs9 hs9=>?_;refine Ag (λIH=>?_) λIH=>?_;refine Aq λyK PU=>?_;rintro⟨⟩;exact Az _ _ (Ac 300 (o3++[pb hb3,pz 18,Oh (It hs9),pk,pb IH,AM (Ga PU)])) (by kernel_rfl) .body (.plain (A1 (BK.Cu (⟨3,s9,at_⟩:Tk)) (A1 rfl rfl)));rintro⟨⟩;exact Az _ _ (Ac 300 (o3++[pb hb3,pz 18,Oh (It hs9),pk,pb IH])) (by kernel_rfl) .body (.plain (A1 (BK.Cu (⟨3,s9,at_⟩:Tk)) (A1 rfl rfl)));refine Aq λs11 aCH=>?_;refine Ag (λI6=>?_) λI6=>?_;refine Aq λy12 dE=>?_;rintro⟨⟩;exact Az _ _ (Ac 300 (o2++[pb A0,pb hb2,pz 18,Oh (It aCH),pk,pb I6,AM (Ga dE)])) (by kernel_rfl) .body (.plain (A1 (BK.Cu (⟨3,s11,at_⟩:Tk)) (A1 rfl rfl)));rintro⟨⟩;exact Az _ _ (Ac 300 (o2++[pb A0,pb hb2,pz 18,Oh (It aCH),pk,pb I6])) (by kernel_rfl) .body (.plain (A1 (BK.Cu (⟨3,s11,at_⟩:Tk)) (A1 rfl rfl)));refine Aq λc13 aJK=>?_;let o5:List (PC P (G mx)):=o2++[pb A0,R8 (Jk aJK)];refine Ag (λKP=>?_) λKP=>?_;refine Ag (λKi=>?_) λKi=>?_;refine Aq λc14 aBO=>?_;refine Ag (λGG=>?_) λGG=>?_;refine Aq λy15 dF=>?_;refine Aq λs16 aKH=>?_;rintro⟨⟩;exact Az _ _ (Ac 300 (o5++[pn KP,pb Ki,R8 (Jk aBO),pb GG,pk,AM (Js dF),pz 24,Oh (It aKH)])) (by kernel_rfl) .body (.plain (A1 (BK.Cu (⟨4,s16,at_⟩:Tk)) (A1 rfl rfl)));refine Aq λs17 aKI=>?_;rintro⟨⟩;exact Az _ _ (Ac 300 (o5++[pn KP,pb Ki,R8 (Jk aBO),pb GG,pz 18,Oh (It aKI)])) (by kernel_rfl) .body (.plain (A1 (BK.Cu (⟨3,s17,at_⟩:Tk)) (A1 rfl rfl)));refine Aq λs18 aKJ=>?_;rintro⟨⟩;exact Az _ _ (Ac 300 (o5++[pn KP,pb Ki,pz 18,Oh (It aKJ)])) (by kernel_rfl) .body (.plain (A1 (BK.Cu (⟨3,s18,at_⟩:Tk)) (A1 rfl rfl)));refine Ag (λIS=>?_) λIS=>?_;refine Aq λc19 aJL=>?_;let o6:List (PC P (G mx)):=o5++[pn KP,pb IS,R8 (Jk aJL)];refine Ag (λJz=>?_) λJz=>?_;refine Aq λy20 oD=>?_;refine Aq λs21 aKK=>?_;let o7:List (PC P (G mx)):=o6++[pb Jz,pk,AM (Js oD),pz 24,Oh (It aKK),pk];refine Ag (λJA=>?_) λJA=>?_;refine Ag (λKO=>?_) λKO=>?_;refine Aq λy22 dG=>?_;rintro⟨⟩;exact Az _ _ (Ac 300 (o7++[pb JA,pk,pb KO,AM (Ga dG)])) (by kernel_rfl) .body (.plain (A1 (BK.Cu (⟨4,s21,at_⟩:Tk)) (A1 rfl rfl)));rintro⟨⟩;exact Az _ _ (Ac 300 (o7++[pb JA,pk,pb KO])) (by kernel_rfl) .body (.plain (A1 (BK.Cu (⟨4,s21,at_⟩:Tk)) (A1 rfl rfl)));rintro⟨⟩;exact Az _ _ (Ac 300 (o7++[pb JA])) (by kernel_rfl) .body (.plain (A1 (BK.Cu (⟨4,s21,at_⟩:Tk)) (A1 rfl rfl)));refine Aq λs23 aCI=>?_;refine Ag (λLf=>?_) λLf=>?_;refine Aq λy24 dH=>?_;rintro⟨⟩;exact Az _ _ (Ac 300 (o6++[pb Jz,pz 18,Oh (It aCI),pk,pb Lf,AM (Ga dH)])) (by kernel_rfl) .body (.plain (A1 (BK.Cu (⟨3,s23,at_⟩:Tk)) (A1 rfl rfl)));rintro⟨⟩;exact Az _ _ (Ac 300 (o6++[pb Jz,pz 18,Oh (It aCI),pk,pb Lf])) (by kernel_rfl) .body (.plain (A1 (BK.Cu (⟨3,s23,at_⟩:Tk)) (A1 rfl rfl)));refine Aq λs25 aCJ=>?_;refine Ag (λNU=>?_) λNU=>?_;refine Aq λy26 awL=>?_;rintro⟨⟩;exact Az _ _ (Ac 300 (o5++[pn KP,pb IS,pz 18,Oh (It aCJ),pk,pb NU,AM (Ga awL)])) (by kernel_rfl) .body (.plain (A1 (BK.Cu (⟨3,s25,at_⟩:Tk)) (A1 rfl rfl)));rintro⟨⟩;exact Az _ _ (Ac 300 (o5++[pn KP,pb IS,pz 18,Oh (It aCJ),pk,pb NU])) (by kernel_rfl) .body (.plain (A1 (BK.Cu (⟨3,s25,at_⟩:Tk)) (A1 rfl rfl)))
def auD:Code:=A3 Tryz.f130
def aHI:Tryz.f130.body=some auD:=by kernel_rfl
def Ke(s:ByteArray)(LW:Int):Option (Lp Int Int Int):=cond (DM LW ((s.data.toList.length:Nat):Int)) ((G5 s.data.toList LW).bind λc1=>(Kc ((c1.toNat:Nat):Int)).bind λy2=>cond y2 (some (.nx (BC LW 1))) (some (.ex LW))) (some (.ex LW))
def La(s:ByteArray)(at_:Int):Option Int:=(L5 (λx=>Ke  s x) at_).bind (MC (λ(gH:Int)=>some gH) (λv=>some v))
def R9{s:ByteArray}{at_:Int}{yR:Int}(h:La  s at_=some yR):Pure P (G mx) 130 [.zs s,.zi at_] (.zi yR):=by
 unfold La at h;refine C5 Hd.mixed Hd.Aa (Ay Tryz.func130 aHI ?_) (A1 rfl (A1 rfl rfl)) rfl;revert h;refine Pb (λQ v=>KM P Tryz.f130 0 Q (.zi v)) (λ(LW:Int) (j0:List Value)=>fr 18 [(0,.zs s),(1,.zi LW)] [8,9,13,14] j0) (λ(LW:Int)=>⟨[],0,[],0⟩) (λ(LW:Int) (jx:List Value)=>fr 18 [(1,.zi LW)] [8,9,13,14] jx) (λ(LW:Int)=>⟨[],0,[],0⟩) [] (G6 [] 0 (sb auD 24) [.code (sb auD 7)] (Ac 300 []) (by kernel_rfl)) ?_ ?_ (λv h=>by cases h;exact .outer .body);rintro LW j0 r k;show Ke  s LW=some r->_;unfold Ke;refine Ag (λA0=>?_) λA0=>?_;refine Aq λc1 hc1=>?_;refine Aq λy2 D3=>?_;refine Ag (λhv=>?_) λhv=>?_;subst hv;rintro⟨⟩;exact Hg (Ac 300 [pb A0,R8 (Jk hc1),AM (M3 D3),pk]) (by kernel_rfl) (k [bT,bT,bT,bT]);subst hv;rintro⟨⟩;exact DU (Ac 300 [pb A0,R8 (Jk hc1),AM (M3 D3)]) (by kernel_rfl) (k [bT,bT,bF,bF]);rintro⟨⟩;exact DU (Ac 300 [pb A0]) (by kernel_rfl) (k [bF,bF,undef,bF]);rintro gH aCT;rintro⟨⟩;exact Az _ _ (Ht 300 []) (by kernel_rfl) .body .sc
def B78:Code:=A3 Tryz.f78
def b78:Tryz.f78.body=some B78:=by kernel_rfl
def I0(s:ByteArray)(y1:Int)(i7:Int):Option (Lp Int Unit (Tk×Bool)):=cond (DM i7 y1) ((G5 s.data.toList i7).bind λc2=>(Gv ((c2.toNat:Nat):Int)).bind λy3=>cond y3 (some (.rt ((⟨0,ByteArray.empty,0⟩:Tk),false))) (some (.nx (BC i7 1)))) (some (.ex ()))
def LK(s:ByteArray)(at_:Int):Option (Tk×Bool):=(La s at_).bind λy1=>(L5 (λx=>I0  s y1 x) at_).bind (MC (λ(_:Unit)=>(Ov s at_ y1).bind λs5=>cond (N1 (LR y1 at_) 16) (some ((⟨1,s5,at_⟩:Tk),true)) (some ((⟨1,s5,at_⟩:Tk),false))) (λv=>some v))
def WB{s:ByteArray}{at_:Int}{yR:(Tk×Bool)}(h:LK  s at_=some yR):Pure P (G mx) 78 [.zs s,.zi at_] (.CZ [.agg (Gr yR.1),.zb yR.2]):=by
 unfold LK at h;refine C5 Hd.mixed Hd.Aa (Ay Tryz.func78 b78 ?_) (A1 rfl (A1 rfl rfl)) (A1 (BK.Cu yR.1) (A1 rfl rfl));revert h;refine Aq λy1 Ci=>?_;refine Pb (λQ v=>KM P Tryz.f78 0 Q (.CZ [.agg (Gr v.1),.zb v.2])) (λ(i7:Int) (j0:List Value)=>fr 32 [(0,.zs s),(1,.zi at_),(4,.ptr 0 0),(6,.zi y1),(7,.zi i7)] [5,14,20,31] j0) (λ(i7:Int)=>⟨[(0,.cells [.zi 0,.zs ByteArray.empty,.zi 0])],1,[],0⟩) (λ(_:Unit) (jx:List Value)=>fr 32 [(0,.zs s),(1,.zi at_),(4,.ptr 0 0),(6,.zi y1)] [5,14,20,31] jx) (λ(_:Unit)=>⟨[(0,.cells [.zi 0,.zs ByteArray.empty,.zi 0])],1,[],0⟩) [bF] (G6 [] 0 (sb B78 116) [.code (sb B78 15)] (Ac 300 [AM (R9 Ci)]) (by kernel_rfl)) ?_ ?_ (λv h=>by cases h;exact .outer .body);rintro i7 j0 r k;show I0  s y1 i7=some r->_;unfold I0;refine Ag (λA0=>?_) λA0=>?_;refine Aq λc2 fQ=>?_;refine Aq λy3 Fc=>?_;refine Ag (λhv=>?_) λhv=>?_;subst hv;rintro⟨⟩;exact Az _ _ (Ac 300 [pb A0,R8 (Jk fQ),AM (FA Fc)]) (by kernel_rfl) (.Gb k) (.plain (A1 (BK.Cu (⟨0,ByteArray.empty,0⟩:Tk)) (A1 rfl rfl)));subst hv;rintro⟨⟩;exact Hg (Ac 300 [pb A0,R8 (Jk fQ),AM (FA Fc),pk]) (by kernel_rfl) (k (js 4 j0 [(1,bT),(2,bF)]));rintro⟨⟩;exact DU (Ac 300 [pb A0]) (by kernel_rfl) (k (js 4 j0 [(1,bF)]));rintro⟨⟩ axI;refine Aq λs5 hs5=>?_;refine Ag (λhb2=>?_) λhb2=>?_;rintro⟨⟩;exact Az _ _ (Ht 300 [Oh (It hs5),pk,pb hb2]) (by kernel_rfl) .body (.plain (A1 (BK.Cu (⟨1,s5,at_⟩:Tk)) (A1 rfl rfl)));rintro⟨⟩;exact Az _ _ (Ht 300 [Oh (It hs5),pk,pb hb2]) (by kernel_rfl) .body (.plain (A1 (BK.Cu (⟨1,s5,at_⟩:Tk)) (A1 rfl rfl)))
def B80:Code:=A3 Tryz.f80
def b80:Tryz.f80.body=some B80:=by kernel_rfl
def Kd(s:ByteArray)(y1:Int)(i7:Int):Option (Lp Int Unit (Tk×Bool)):=cond (DM i7 y1) ((G5 s.data.toList i7).bind λc2=>(Gv ((c2.toNat:Nat):Int)).bind λy3=>cond y3 (some (.nx (BC i7 1))) (some (.rt ((⟨0,ByteArray.empty,0⟩:Tk),false)))) (some (.ex ()))
def MQ(s:ByteArray)(at_:Int):Option (Tk×Bool):=(La s at_).bind λy1=>(L5 (λx=>Kd  s y1 x) at_).bind (MC (λ(_:Unit)=>(Ov s at_ y1).bind λs5=>cond (CS (LR y1 at_) 3) (some ((⟨2,s5,at_⟩:Tk),true)) (some ((⟨2,s5,at_⟩:Tk),false))) (λv=>some v))
def YM{s:ByteArray}{at_:Int}{yR:(Tk×Bool)}(h:MQ  s at_=some yR):Pure P (G mx) 80 [.zs s,.zi at_] (.CZ [.agg (Gr yR.1),.zb yR.2]):=by
 unfold MQ at h;refine C5 Hd.mixed Hd.Aa (Ay Tryz.func80 b80 ?_) (A1 rfl (A1 rfl rfl)) (A1 (BK.Cu yR.1) (A1 rfl rfl));revert h;refine Aq λy1 Ci=>?_;refine Pb (λQ v=>KM P Tryz.f80 0 Q (.CZ [.agg (Gr v.1),.zb v.2])) (λ(i7:Int) (j0:List Value)=>fr 33 [(0,.zs s),(1,.zi at_),(4,.ptr 0 0),(6,.zi y1),(7,.zi i7)] [5,14,20,21,32] j0) (λ(i7:Int)=>⟨[(0,.cells [.zi 0,.zs ByteArray.empty,.zi 0])],1,[],0⟩) (λ(_:Unit) (jx:List Value)=>fr 33 [(0,.zs s),(1,.zi at_),(4,.ptr 0 0),(6,.zi y1)] [5,14,20,21,32] jx) (λ(_:Unit)=>⟨[(0,.cells [.zi 0,.zs ByteArray.empty,.zi 0])],1,[],0⟩) [bF] (G6 [] 0 (sb B80 116) [.code (sb B80 15)] (Ac 300 [AM (R9 Ci)]) (by kernel_rfl)) ?_ ?_ (λv h=>by cases h;exact .outer .body);rintro i7 j0 r k;show Kd  s y1 i7=some r->_;unfold Kd;refine Ag (λA0=>?_) λA0=>?_;refine Aq λc2 fQ=>?_;refine Aq λy3 Fc=>?_;refine Ag (λhv=>?_) λhv=>?_;subst hv;rintro⟨⟩;exact Hg (Ac 300 [pb A0,R8 (Jk fQ),AM (FA Fc),pk]) (by kernel_rfl) (k [(jv j0 0),bT,bT,bF,(jv j0 4)]);subst hv;rintro⟨⟩;exact Az _ _ (Ac 300 [pb A0,R8 (Jk fQ),AM (FA Fc)]) (by kernel_rfl) (.Gb k) (.plain (A1 (BK.Cu (⟨0,ByteArray.empty,0⟩:Tk)) (A1 rfl rfl)));rintro⟨⟩;exact DU (Ac 300 [pb A0]) (by kernel_rfl) (k (js 5 j0 [(1,bF)]));rintro⟨⟩ axI;refine Aq λs5 hs5=>?_;refine Ag (λhb2=>?_) λhb2=>?_;rintro⟨⟩;exact Az _ _ (Ht 300 [Oh (It hs5),pk,pb hb2]) (by kernel_rfl) .body (.plain (A1 (BK.Cu (⟨2,s5,at_⟩:Tk)) (A1 rfl rfl)));rintro⟨⟩;exact Az _ _ (Ht 300 [Oh (It hs5),pk,pb hb2]) (by kernel_rfl) .body (.plain (A1 (BK.Cu (⟨2,s5,at_⟩:Tk)) (A1 rfl rfl)))
def B81:Code:=A3 Tryz.f81
def b81:Tryz.f81.body=some B81:=by kernel_rfl
def KJ  :Option (List ByteArray):=some [GO,H3,G8,FQ,J9,JB,Oi,Lh,Px,EC,TN,VC,eA,ZF,UO,Rz,TO]
def TS{yR:(List ByteArray)}(h:KJ  =some yR):Pure P (G mx) 81 [] (.sl .lost yR.length (rows stC yR)):=by
 unfold KJ at h;refine C5 Hd.mixed Hd.Aa (Ay Tryz.func81 b81 ?_) rfl (dN.IA yR);revert h;rintro⟨⟩;exact Az (v:=.sl .full 17 [.zs GO,.zs H3,.zs G8,.zs FQ,.zs J9,.zs JB,.zs Oi,.zs Lh,.zs Px,.zs EC,.zs TN,.zs VC,.zs eA,.zs ZF,.zs UO,.zs Rz,.zs TO]) _ _ (Ac 300 []) (by kernel_rfl) .body (.wn (.d (.r (.r (.r (.r (.r (.r (.r (.r (.r (.r (.r (.r (.r (.r (.r (.r (.r .nil))))))))))))))))) (dN.eq [GO,H3,G8,FQ,J9,JB,Oi,Lh,Px,EC,TN,VC,eA,ZF,UO,Rz,TO]).symm .nil) (dN.IA [GO,H3,G8,FQ,J9,JB,Oi,Lh,Px,EC,TN,VC,eA,ZF,UO,Rz,TO]))
def B42:Code:=A3 Tryz.f42
def b42:Tryz.f42.body=some B42:=by kernel_rfl
def JS(s:ByteArray)(at_:Int)(i0:Nat)(e0:ByteArray) :Option (Lp Unit Unit (Tk×Bool)):=(Ir s at_ e0).bind λy9=>cond y9 (some (.rt ((⟨6,e0,at_⟩:Tk),true))) (some (.nx ()))
def KA(s:ByteArray)(at_:Int):Option (Tk×Bool):=(G5 s.data.toList at_).bind λc1=>(Gu ((c1.toNat:Nat):Int)).bind λy2=>cond y2 ((IV s at_).bind λ(IP,EN)=>some (IP,EN)) ((IZ ((c1.toNat:Nat):Int)).bind λy4=>cond y4 ((LK s at_).bind λ(Sh,Hv)=>some (Sh,Hv)) ((Gv ((c1.toNat:Nat):Int)).bind λy6=>cond y6 ((MQ s at_).bind λ(qI,RB)=>some (qI,RB)) ((KJ).bind λy8=>(Tc y8.length (C4 (λi y x=>JS  s at_ i y ) (λx=>()) (y8.drop 0) 0 ())).bind (MC (λ(_:Unit)=>some ((⟨0,ByteArray.empty,0⟩:Tk),false)) (λv=>some v)))))
def Qc{s:ByteArray}{at_:Int}{yR:(Tk×Bool)}(h:KA  s at_=some yR):Pure P (G mx) 42 [.zs s,.zi at_] (.CZ [.agg (Gr yR.1),.zb yR.2]):=by
 unfold KA at h;refine C5 Hd.mixed Hd.Aa (Ay Tryz.func42 b42 ?_) (A1 rfl (A1 rfl rfl)) (A1 (BK.Cu yR.1) (A1 rfl rfl));revert h;refine Aq λc1 hc1=>?_;refine Aq λy2 D3=>?_;let o1:List (PC P (G mx)):=[R8 (Jk hc1),AM (EE D3)];refine Ag (λhv=>?_) λhv=>?_;subst hv;refine Aq ?_;rintro⟨IP,EN⟩ Fc;dsimp only;rintro⟨⟩;exact Az _ _ (Ac 300 (o1++[AM (TU Fc)])) (by kernel_rfl) .body (.plain (A1 (BK.Cu IP) (A1 rfl rfl)));subst hv;refine Aq λy4 J5=>?_;let o2:List (PC P (G mx)):=o1++[R8 (Jk hc1),AM (Qb J5)];refine Ag (λhv=>?_) λhv=>?_;subst hv;refine Aq ?_;rintro⟨Sh,Hv⟩ Ko;dsimp only;rintro⟨⟩;exact Az _ _ (Ac 300 (o2++[AM (WB Ko)])) (by kernel_rfl) .body (.plain (A1 (BK.Cu Sh) (A1 rfl rfl)));subst hv;refine Aq λy6 L6=>?_;refine Ag (λhv=>?_) λhv=>?_;subst hv;refine Aq ?_;rintro⟨qI,RB⟩ Sz;dsimp only;rintro⟨⟩;exact Az _ _ (Ac 300 (o2++[R8 (Jk hc1),AM (FA L6),AM (YM Sz)])) (by kernel_rfl) .body (.plain (A1 (BK.Cu qI) (A1 rfl rfl)));subst hv;refine Aq λy8 OF=>?_;refine RL (λQ v=>KM P Tryz.f42 0 Q (.CZ [.agg (Gr v.1),.zb v.2])) (λi0 (_:Unit) (j0:List Value)=>fr 59 [(0,.zs s),(1,.zi at_),(4,.ptr 0 0),(6,.sl .lost y8.length (rows stC y8)),(7,.zi ((i0:Nat):Int))] [5,8,12,17,18,22,27,28,32,37,42,51] j0) (λ(_:Unit)=>⟨[(0,.cells [.zi 0,.zs ByteArray.empty,.zi 0])],1,[],0⟩) (λ(_:Unit) (jx:List Value)=>fr 59 [(4,.ptr 0 0)] [5,8,12,17,18,22,27,28,32,37,42,51] jx) (λ(_:Unit)=>⟨[(0,.cells [.zi 0,.zs ByteArray.empty,.zi 0])],1,[],0⟩) [bF,bF,bF,undef,bF,bF,undef,bF,bF] (G6 [] 1 (sb B42 244) [.code (sb B42 31)] (Ac 300 (o2++[R8 (Jk hc1),AM (FA L6),AM (TS OF)])) (by kernel_rfl)) ?_ ?_ ?_ (λv h=>by cases h;exact .outer .body);rintro i0 ⟨⟩ j0 hge hq;exact DU (Ac 300 [pb (iW hge)]) (by kernel_rfl) (hq (js 12 j0 [(10,bF)]));rintro i0 e0 ⟨⟩ j0 r Qz PR OK k;show JS  s at_ i0 e0 =some r->_;unfold JS;refine Aq λy9 UD=>?_;refine Ag (λhv=>?_) λhv=>?_;subst hv;rintro⟨⟩;exact Az _ _ (Ac 300 [pb (Zp PR),IN (axG .lost Qz),AM (Jr UD),IN (axG .lost Qz)]) (by kernel_rfl) (.Gb k) (.plain (A1 (BK.Cu (⟨6,e0,at_⟩:Tk)) (A1 rfl rfl)));subst hv;rintro⟨⟩;exact Hg (Ac 300 [pb (Zp PR),IN (axG .lost Qz),AM (Jr UD),pi OK]) (by kernel_rfl) (k (js 12 j0 [(10,bT),(11,bF)]));rintro⟨⟩ adT;rintro⟨⟩;exact Az _ _ (Ht 300 []) (by kernel_rfl) .body (.plain (A1 (BK.Cu (⟨0,ByteArray.empty,0⟩:Tk)) (A1 rfl rfl)))
def B16:Code:=A3 Tryz.f16
def b16:Tryz.f16.body=some B16:=by kernel_rfl
def CP(s:ByteArray)(OL:(List Tk))(yO:Int):Option (Lp ((List Tk)×Int) (List Tk) ((List Tk)×Int×Int)):=cond (DM yO ((s.data.toList.length:Nat):Int)) (cond (CS ((OL.length:Nat):Int) 2000) (some (.rt ([],2,yO))) ((KA s yO).bind λ(IP,EN)=>cond EN (MA (OL.length+1) ((Kb s (BC yO ((IP.text.data.toList.length:Nat):Int))).bind λy5=>some (.nx ((OL++[IP]),y5)))) (some (.rt ([],61,yO))))) (some (.ex OL))
def K9(s:ByteArray):Option ((List Tk)×Int×Int):=cond (DM 6000 ((s.data.toList.length:Nat):Int)) (some ([],2,0)) ((Kb s 0).bind λy1=>(L5 (λx=>CP  s x.1 x.2) ([],y1)).bind (MC (λ(YE:(List Tk))=>some (YE,0,0)) (λv=>some v)))
def YL{s:ByteArray}{yR:((List Tk)×Int×Int)}(h:K9  s=some yR):Pure P (G mx) 16 [.zs s] (.CZ [.sl .lost yR.1.length (rows Gr yR.1),.zi yR.2.1,.zi yR.2.2]):=by
 unfold K9 at h;refine C5 Hd.mixed Hd.Aa (Ay Tryz.func16 b16 ?_) (A1 rfl rfl) (A1 (BK.IA yR.1) (A1 rfl (A1 rfl rfl)));revert h;refine Ag (λA0=>?_) λA0=>?_;rintro⟨⟩;exact Az (v:=.CZ [.sl .full 0 [],.zi 2,.zi 0]) _ _ (Ac 300 [pb A0]) (by kernel_rfl) .body (.wn (.u (.z (.r (.r .nil))) .nil) (A1 (BK.IA []) (A1 rfl (A1 rfl rfl))));refine Aq λy1 Ci=>?_;refine Pb (λQ v=>KM P Tryz.f16 0 Q (.CZ [.sl .lost v.1.length (rows Gr v.1),.zi v.2.1,.zi v.2.2])) (λ((OL,yO):((List Tk)×Int)) (j0:List Value)=>fr 43 [(0,.zs s),(5,.sl (.row 0 3) OL.length (rows Gr OL)),(6,.zi yO)] [8,11,17,20,27,28,29] j0) (λ((OL,yO):((List Tk)×Int))=>⟨[],0,[(0,OL.length)],1⟩) (λ(OL:(List Tk)) (jx:List Value)=>fr 43 [(5,.sl (.row 0 3) OL.length (rows Gr OL))] [8,11,17,20,27,28,29] jx) (λ(OL:(List Tk))=>⟨[],0,[(0,OL.length)],1⟩) [undef,bF] (G6 [.t 5 3] 0 (sb B16 248) [.code (sb B16 63)] (Ac 300 [pb A0,AM (Rk Ci)]) (by kernel_rfl)) ?_ ?_ (λv h=>by cases h;exact .outer .body);rintro⟨OL,yO⟩ j0 r k;show CP  s OL yO=some r->_;unfold CP;refine Ag (λFa=>?_) λFa=>?_;refine Ag (λHH=>?_) λHH=>?_;rintro⟨⟩;exact Az (v:=.CZ [.sl .full 0 [],.zi 2,.zi yO]) _ _ (Ac 300 [pb Fa,pb HH]) (by kernel_rfl) (.Gb k) (.wn (.u (.z (.r (.r .nil))) .nil) (A1 (BK.IA []) (A1 rfl (A1 rfl rfl))));refine Aq ?_;rintro⟨IP,EN⟩ Fc;dsimp only;refine Ag (λhv=>?_) λhv=>?_;subst hv;refine Lz λhl4=>?_;refine Aq λy5 Ko=>?_;rintro⟨⟩;exact Gh Hd.Aa [⟨.sl (.row 0 3) ((OL++[IP]).length) (rows Gr (OL++[IP])),.sl (.row 0 3) ((OL++[IP]).length) (rows Gr (OL++[IP])),(.under (SY rfl (BN _ _ (BK.A1 (OL++[IP])))))⟩] [] (Ac 300 [pb Fa,pb HH,AM (Qc Fc),QP (aBF (.row 0 3) OL [IP] (o:=.full) (n:=1) (ns:=(Gr IP)) (BK.wn [IP] (.r (.r (.r .nil)))) rfl rfl (by simp) (by simpa using hl4)),pk,AM (Rk Ko)]) (by kernel_rfl) (k [bT,(jv j0 1),bT,bF,bT,bT,bF])
 subst hv;rintro⟨⟩;exact Az (v:=.CZ [.sl .full 0 [],.zi 61,.zi yO]) _ _ (Ac 300 [pb Fa,pb HH,AM (Qc Fc)]) (by kernel_rfl) (.Gb k) (.wn (.u (.z (.r (.r .nil))) .nil) (A1 (BK.IA []) (A1 rfl (A1 rfl rfl))));rintro⟨⟩;exact DU (Ac 300 [pb Fa]) (by kernel_rfl) (k (js 7 j0 [(2,bF)]));rintro YE aCU;rintro⟨⟩;exact Az (v:=.CZ [.sl (.row 0 3) YE.length (rows Gr YE),.zi 0,.zi 0]) _ _ (Ht 300 []) (by kernel_rfl) .body (.wn (.u (.s rfl (.r (.r .nil))) .nil) (A1 (BK.IA YE) (A1 rfl (A1 rfl rfl))))
def B3:Code:=A3 Tryz.f3
def b3:Tryz.f3.body=some B3:=by kernel_rfl
end Mo
end Go.Proofs.YtpbkhogolfegfaaGreatDoor
namespace Go.Proofs.YtpbkhogolfegfaaGreatDoor
open AI Go
namespace Mo
set_option maxRecDepth 100000
set_option maxHeartbeats 4000000
variable {mx:Int}
def B4:Code:=A3 Tryz.f4
def b4:Tryz.f4.body=some B4:=by kernel_rfl
def DL(Ia:(List Tk))(z6:Int)(s8:ByteArray)(i0:Nat)(e0:Nd)(Mt:Bool)(Cf:(List Nd)):Option (Lp (Bool×(List Nd)) (Bool×(List Nd)) Bool):=cond Mt (cond (DM e0.AH ((s8.data.toList.length:Nat):Int)) (MA (Cf.length+1) (some (.nx (true,(Cf++[e0]))))) (some (.nx (true,Cf)))) ((G5 Ia (azZ (BC 1 z6) (LR ((Ia.length:Nat):Int) 1))).bind λfS=>cond (CS e0.AH fS.AH) ((some (DM (BC 1 z6) ((Ia.length:Nat):Int))).bind λq13=>cond (DM e0.AH ((s8.data.toList.length:Nat):Int)) (MA (Cf.length+1) (some (.nx (q13,(Cf++[e0]))))) (some (.nx (q13,Cf)))) (cond (DM e0.AH ((s8.data.toList.length:Nat):Int)) (MA (Cf.length+1) (some (.nx (false,(Cf++[e0]))))) (some (.nx (false,Cf)))))
def EQ(source:ByteArray)(cut:Int):Option Bool:=(J6).bind λy1=>(K9 source).bind λ(Ia,EL,y2c)=>(Cy source).bind λ(IP,EN)=>cond (CS EL 0) ((some (DM 0 ((EN.length:Nat):Int))).bind λq4=>cond q4 (some y1) ((some (CS ((Ia.length:Nat):Int) 0)).bind λq5=>cond q5 (some y1) ((Vl (w64 cut) ((Ia.length:Nat):Int)).bind λz6=>(G5 Ia (LR (BC 1 z6) 1)).bind λx7=>(Ov source 0 (BC x7.AH ((x7.text.data.toList.length:Nat):Int))).bind λs8=>(Cy s8).bind λ(fL,Ro)=>(some (CS (BC 1 z6) ((Ia.length:Nat):Int))).bind λq10=>(Tc IP.kids.length (C4 (λi y x=>DL  Ia z6 s8 i y x.1 x.2) (λx=>(x.1,x.2)) (IP.kids.drop 0) 0 (q10,[]))).bind (MC (λ((Zf,SA):(Bool×(List Nd)))=>cond Zf (cond y1 ((some (CS ((Ro.length:Nat):Int) 0)).bind λq17=>cond q17 ((Kf fL (⟨1,ByteArray.empty,ByteArray.empty,0,0,0,0,(⟨0,[]⟩:Fn),SA,0⟩:Nd)).bind λy18=>some y18) (some false)) (some false)) (cond y1 ((some (CS ((Ro.length:Nat):Int) 1)).bind λq19=>cond q19 ((Ro[0]?).bind λx20=>cond (QW x20 (⟨72,((s8.data.toList.length:Nat):Int)⟩:Dg)) (some true) (some false)) (some false)) (some false))) (λv=>some v))))) (some y1)
def OJ{source:ByteArray}{cut:Int}{yR:Bool}(h:EQ  source cut=some yR):Pure P (G mx) 4 [.zs source,.sc (.int .u16 cut)] (.zb yR):=by
 unfold EQ at h;refine C5 Hd.mixed Hd.Aa (Ay Tryz.func4 b4 ?_) (A1 rfl (A1 rfl rfl)) rfl;revert h;refine Aq λy1 Ci=>?_;refine Aq ?_;rintro⟨Ia,EL,y2c⟩ D3;dsimp only;refine Aq ?_;rintro⟨IP,EN⟩ Fc;dsimp only;let o1:List (PC P (G mx)):=[AM (Wx Ci),AM (YL D3),AM (Jl Fc)];refine Ag (λA0=>?_) λA0=>?_;refine Aq λq4 hq4=>?_;let o2:List (PC P (G mx)):=o1++[pn A0,Kx (aFE hq4 (.tmp 35) (.const (.int .i64 0)))];refine Ag (λhv=>?_) λhv=>?_;subst hv;rintro⟨⟩;exact rT o2;subst hv;refine Aq λq5 hq5=>?_;refine Ag (λhv=>?_) λhv=>?_;subst hv;rintro⟨⟩;exact rT (o2++[Kx (bM hq5 (.tmp 40) (.const (.int .i64 0)))]);subst hv;refine Aq λz6 hz6=>?_;refine Aq λx7 hx7=>?_;refine Aq λs8 hs8=>?_;refine Aq ?_;rintro⟨fL,Ro⟩ UD;dsimp only;refine Aq λq10 aKE=>?_;refine RL (λQ v=>KM P Tryz.f4 0 Q (.zb v)) (λi0 ((Mt,Cf):(Bool×(List Nd))) (j0:List Value)=>fr 142 [(5,.zb y1),(6,.sl .lost Ia.length (rows Gr Ia)),(11,.zi (BC 1 z6)),(12,.zs s8),(13,.ptr 1 0),(14,.sl .lost Ro.length (rows OI Ro)),(15,.zb Mt),(16,.sl (.row 0 11) Cf.length (BF Cf)),(76,.sl .lost IP.kids.length (BF IP.kids)),(77,.zi ((IP.kids.length:Nat):Int)),(78,.zi ((i0:Nat):Int))] [4,19,32,33,36,37,38,41,42,43,74,79,82,83,95,96,100,101,102,107,113,114,115,116,119,120,121,128,129,130,131,134,135,136,140,141] j0) (λ((Mt,Cf):(Bool×(List Nd)))=>⟨[(1,.cells (C8 fL)),(0,.cells (C8 IP))],2,[(0,Cf.length)],1⟩) (λ((Mt,Cf):(Bool×(List Nd))) (jx:List Value)=>fr 142 [(5,.zb y1),(12,.zs s8),(13,.ptr 1 0),(14,.sl .lost Ro.length (rows OI Ro)),(15,.zb Mt),(16,.sl (.row 0 11) Cf.length (BF Cf))] [4,19,32,33,36,37,38,41,42,43,74,79,82,83,95,96,100,101,102,107,113,114,115,116,119,120,121,128,129,130,131,134,135,136,140,141] jx) (λ((Mt,Cf):(Bool×(List Nd)))=>⟨[(1,.cells (C8 fL)),(0,.cells (C8 IP))],2,[(0,Cf.length)],1⟩) [bF,.bool y1,bF,bF,bF,bF,bF,bF,bF,undef,.bool q10] (G6 [.t 16 11] 0 (sb B4 32756) [.code (sb B4 4095)] (Ac 300 (o2++[Kx (bM hq5 (.tmp 40) (.const (.int .i64 0))),Kx (Xc hz6 (.tmp 45) (.tmp 47)),pk,pk,IN (Z2 .lost hx7),pk,IN (Z2 .lost hx7),pk,Oh (aED hs8),AM (Jl UD),Kx (bM aKE (.tmp 71) (.tmp 73))])) (by kernel_rfl)) ?_ ?_ ?_ (λv h=>by cases h;exact .outer .body);rintro i0 ⟨Mt,Cf⟩ j0 hge hq;exact DU (Ac 300 [pb (iW hge)]) (by kernel_rfl) (hq (js 36 j0 [(11,bF)]));rintro i0 e0 ⟨Mt,Cf⟩ j0 r Qz PR OK k;show DL  Ia z6 s8 i0 e0 Mt Cf=some r->_;unfold DL;let o3:List (PC P (G mx)):=[pb (Zp PR),IN (Kp .lost Qz)];refine Ag (λhv=>?_) λhv=>?_;subst hv;refine Ag (λhb3=>?_) λhb3=>?_;refine Lz λalY=>?_;rintro⟨⟩;exact Gh Hd.Aa [fq (BK.IA Ia),fq (B7.IA Ro),⟨.sl (.row 0 11) ((Cf++[e0]).length) (BF (Cf++[e0])),.sl (.row 0 11) ((Cf++[e0]).length) (BF (Cf++[e0])),(.under (SY rfl (BN _ _ (AD.A1 (Cf++[e0])))))⟩,fq (AD.IA IP.kids)] [bp (AD.pl fL),bp (AD.pl IP)] (Ac 300 (o3++[pb hb3,QP (PQ (.row 0 11) Cf [e0] (o:=.full) (n:=1) (ns:=(C8 e0)) (AD.wn [e0] (.r (.r (.r (.r (.r (.r (.r (.r (.r (.r (.r .nil)))))))))))) rfl rfl (by simp) (by simpa using alY)),pi OK])) (by kernel_rfl) (k (js 36 j0 [(11,bT),(12,bT),(13,bT),(14,undef),(15,undef),(16,undef),(17,undef),(18,bT),(19,bT)]))
 rintro⟨⟩;exact Gh Hd.Aa [fq (BK.IA Ia),fq (B7.IA Ro),⟨.sl (.row 0 11) Cf.length (BF Cf),.sl (.row 0 11) Cf.length (BF Cf),(.under (SY rfl (BN _ _ (AD.A1 Cf))))⟩,fq (AD.IA IP.kids)] [bp (AD.pl fL),bp (AD.pl IP)] (Ac 300 (o3++[pb hb3,pi OK])) (by kernel_rfl) (k (js 36 j0 [(11,bT),(12,bT),(13,bT),(14,undef),(15,undef),(16,undef),(17,undef),(18,bT),(19,bF)]));subst hv;refine Aq λfS dD=>?_;let o4:List (PC P (G mx)):=o3++[pk,IN (Z2 .lost dD)];refine Ag (λFa=>?_) λFa=>?_;refine Aq λq13 aCD=>?_;refine Ag (λHH=>?_) λHH=>?_;refine Lz λawA=>?_;rintro⟨⟩;exact Gh Hd.Aa [fq (BK.IA Ia),fq (B7.IA Ro),⟨.sl (.row 0 11) ((Cf++[e0]).length) (BF (Cf++[e0])),.sl (.row 0 11) ((Cf++[e0]).length) (BF (Cf++[e0])),(.under (SY rfl (BN _ _ (AD.A1 (Cf++[e0])))))⟩,fq (AD.IA IP.kids)] [bp (AD.pl fL),bp (AD.pl IP)] (Ac 300 (o4++[pb Fa,Kx (atX aCD (.tmp 97) (.tmp 99)),pb HH,QP (PQ (.row 0 11) Cf [e0] (o:=.full) (n:=1) (ns:=(C8 e0)) (AD.wn [e0] (.r (.r (.r (.r (.r (.r (.r (.r (.r (.r (.r .nil)))))))))))) rfl rfl (by simp) (by simpa using awA)),pi OK])) (by kernel_rfl) (k (js 36 j0 [(11,bT),(12,bF),(13,bF),(14,bT),(15,bT),(16,.bool q13),(17,.bool q13),(18,.bool q13),(19,bT)]))
 rintro⟨⟩;exact Gh Hd.Aa [fq (BK.IA Ia),fq (B7.IA Ro),⟨.sl (.row 0 11) Cf.length (BF Cf),.sl (.row 0 11) Cf.length (BF Cf),(.under (SY rfl (BN _ _ (AD.A1 Cf))))⟩,fq (AD.IA IP.kids)] [bp (AD.pl fL),bp (AD.pl IP)] (Ac 300 (o4++[pb Fa,Kx (atX aCD (.tmp 97) (.tmp 99)),pb HH,pi OK])) (by kernel_rfl) (k (js 36 j0 [(11,bT),(12,bF),(13,bF),(14,bT),(15,bT),(16,.bool q13),(17,.bool q13),(18,.bool q13),(19,bF)]));refine Ag (λIH=>?_) λIH=>?_;refine Lz λaJZ=>?_;rintro⟨⟩;exact Gh Hd.Aa [fq (BK.IA Ia),fq (B7.IA Ro),⟨.sl (.row 0 11) ((Cf++[e0]).length) (BF (Cf++[e0])),.sl (.row 0 11) ((Cf++[e0]).length) (BF (Cf++[e0])),(.under (SY rfl (BN _ _ (AD.A1 (Cf++[e0])))))⟩,fq (AD.IA IP.kids)] [bp (AD.pl fL),bp (AD.pl IP)] (Ac 300 (o4++[pb Fa,pb IH,QP (PQ (.row 0 11) Cf [e0] (o:=.full) (n:=1) (ns:=(C8 e0)) (AD.wn [e0] (.r (.r (.r (.r (.r (.r (.r (.r (.r (.r (.r .nil)))))))))))) rfl rfl (by simp) (by simpa using aJZ)),pi OK])) (by kernel_rfl) (k (js 36 j0 [(11,bT),(12,bF),(13,bF),(14,bF),(15,bF),(16,undef),(17,bF),(18,bF),(19,bT)]))
 rintro⟨⟩;exact Gh Hd.Aa [fq (BK.IA Ia),fq (B7.IA Ro),⟨.sl (.row 0 11) Cf.length (BF Cf),.sl (.row 0 11) Cf.length (BF Cf),(.under (SY rfl (BN _ _ (AD.A1 Cf))))⟩,fq (AD.IA IP.kids)] [bp (AD.pl fL),bp (AD.pl IP)] (Ac 300 (o4++[pb Fa,pb IH,pi OK])) (by kernel_rfl) (k (js 36 j0 [(11,bT),(12,bF),(13,bF),(14,bF),(15,bF),(16,undef),(17,bF),(18,bF),(19,bF)]));rintro⟨Zf,SA⟩ aNF;dsimp only;refine Ag (λhv=>?_) λhv=>?_;subst hv;refine Ag (λhv=>?_) λhv=>?_;subst hv;refine Aq λq17 aCE=>?_;refine Ag (λhv=>?_) λhv=>?_;subst hv;refine Aq λy18 adO=>?_;rintro⟨⟩;exact Az _ _ (Ht 300 [Kx (bM aCE (.tmp 133) (.const (.int .i64 0))),Iq (args:=[.agg (C8 fL),.agg [.zi 1,.zs ByteArray.empty,.zs ByteArray.empty,.zi 0,.zi 0,.zi 0,.zi 0,.zi 0,.sl .full 0 [],.sl (.row 0 11) SA.length (BF SA),.zi 0]]) (.r (.g (.r (.r (.r (.r (.r (.r (.r (.r (.z (.s rfl (.r .nil))))))))))) .nil)) (Te adO)]) (by kernel_rfl) .body .sc;subst hv;rintro⟨⟩;exact Az _ _ (Ht 300 [Kx (bM aCE (.tmp 133) (.const (.int .i64 0)))]) (by kernel_rfl) .body .sc;subst hv;rintro⟨⟩;exact Az _ _ (Ht 300 []) (by kernel_rfl) .body .sc;subst hv;refine Ag (λhv=>?_) λhv=>?_;subst hv;refine Aq λq19 aKF=>?_;let o5:List (PC P (G mx)):=[Kx (bM aKF (.tmp 118) (.const (.int .i64 1)))];refine Ag (λhv=>?_) λhv=>?_;subst hv;refine Aq λx20 oC=>?_;refine Ag (λI6=>?_) λI6=>?_;rintro⟨⟩;exact Az _ _ (Ht 300 (o5++[IN (wB .lost oC),Kx (asC I6 (.tmp 124) (.tmp 127))])) (by kernel_rfl) .body .sc;rintro⟨⟩;exact Az _ _ (Ht 300 (o5++[IN (wB .lost oC),Kx (asC I6 (.tmp 124) (.tmp 127))])) (by kernel_rfl) .body .sc;subst hv;rintro⟨⟩;exact Az _ _ (Ht 300 o5) (by kernel_rfl) .body .sc;subst hv;rintro⟨⟩;exact Az _ _ (Ht 300 []) (by kernel_rfl) .body .sc;rintro⟨⟩;exact rT (o1++[pn A0])
def B6:Code:=A3 Tryz.f6
def b6:Tryz.f6.body=some B6:=by kernel_rfl
def B9:Code:=A3 Tryz.f9
def b9:Tryz.f9.body=some B9:=by kernel_rfl
end Mo
end Go.Proofs.YtpbkhogolfegfaaGreatDoor

namespace Go.Proofs.YtpbkhogolfegfaaGreatDoor
open AI Go
namespace Mo
set_option maxRecDepth 100000
set_option maxHeartbeats 4000000
def vG(s:ByteArray):Prop:=s.data.toList.length=3/\∀c∈s.data.toList,65<=c.toNat/\c.toNat<=90
def U2(s:ByteArray):Prop:=s=G9\/s=EF\/s=JN\/vG s
def uJ(c:UInt8):Prop:=(97<=c.toNat/\c.toNat<=122)\/(48<=c.toNat/\c.toNat<=57)\/c.toNat=95
def rZ:List ByteArray:=[RX,N2,He,abV,tB,rG,toS,Vr,bK,SH,Qq,G9,EF,JN,amY,S6,Me,Pg,Ta,jH,PJ,Vy,gI,Y5,Tu,cA,LP,cJ,QG,Vd,KS,FU,QZ]
def Ri(s:ByteArray):Prop:=(1<=s.data.toList.length/\s.data.toList.length<=16)/\(∃b,s.data.toList[0]?=some b/\97<=b.toNat/\b.toNat<=122)/\s∉rZ/\∀c∈s.data.toList,uJ c
def YA{n:Nd}(h:KT n):n.CV.ps.length<=9223372036854775807/\n.kids.length<=9223372036854775807/\∀k∈n.kids,KT k:=by
 obtain⟨a,b,c⟩:=(P0 n).1 h;exact⟨a.1,b,c⟩
def aeR{α:Type}{l:List α}{P:α->Prop}:(∀(i:Nat) (y:α),l[i]?=some y->P y)↔∀y∈l,P y :=
 ⟨λh y hy=>(List.getElem?_of_mem hy).elim λi hi=>h i y hi,λh i y hi=>h y (List.mem_of_getElem? hi)⟩
def adV(s:ByteArray):Il s=some (mb (s∈rZ)):=by
 rw[Il];simp only[RW,No,iY,axU];refine smb ?_;simp only[rZ,List.mem_cons,List.not_mem_nil,or_false]
def atH(s:ByteArray):s=ByteArray.empty↔s.data.toList.length=0:=by
 constructor;intro h;rw[h];rfl;intro h;apply ByteArray.ext;apply Array.ext';rw[List.eq_nil_of_length_eq_zero h];rfl
def rH(s:ByteArray):Ed s=some (mb (Ri s)):=by
 rw[Ed];simp only[RW,Pm,No,adV,Option.bind_some];unfold Ri;by_cases h0:s=ByteArray.empty;rw[CI h0];exact eR λh=>by have:=(atH s).1 h0;omega
 have h1:s.data.toList.length≠0:=λh=>h0 ((atH s).2 h);rw[CL h0];by_cases h2:16 < ((s.data.toList.length:Nat):Int);rw[CI h2];exact eR λh=>by omega
 rw[CL h2];obtain⟨b,hb⟩:∃b,s.data.toList[0]?=some b:=⟨_,List.getElem?_eq_getElem (by omega)⟩
 rw[hb,dM (v:=false) (P:=λ_ y=>uJ y) (by omega) (λi y _=>by
   simp only[II,Pm,Lt,No,aCV,axK,amI,axJ,amJ,aLO,aLN];congr 2;unfold uJ;apply propext;omega)]
 simp only[Option.bind_some,iY,aLR,aeR];refine smb ?_;constructor;rintro⟨h3,h4,h5,h6⟩;exact⟨by omega,⟨b,rfl,by omega⟩,h5,h6⟩;rintro⟨h3,⟨c,hc,h4⟩,h5,h6⟩;cases hc;exact⟨by omega,by omega,h5,h6⟩
def ayI(s:ByteArray):Ik s=some (mb (vG s)):=by
 rw[Ik,Lt,No];unfold vG;by_cases h:((s.data.toList.length:Nat):Int)=3
 rw[CI h,dM (v:=false) (P:=λ_ y=>65<=y.toNat/\y.toNat<=90) (by omega) (λi y _=>by
   simp only[Jn,Pm,No,amI,amJ];congr 2;apply propext;omega),iY,aeR]
 exact smb ⟨λh2=>⟨by omega,h2⟩,λh2=>h2.2⟩;rw[CL h];exact eR λh2=>h (by omega)
def sZ(s:ByteArray):ES s=some (mb (U2 s)):=by
 rw[ES];simp only[RW,No,ayI,Option.bind_some,axU];rfl
def Py(n:Int):Prop:=1<=n/\n<=1000000
def UM(n:Int):DX n=some (mb (Py n)):=by
 rw[DX];simp only[TC,No,iY,axT];rfl
def aaX(n:Int):Prop:=0<=n/\n<=36524
def cK(s:ByteArray):Prop:=s=LP\/s=cJ\/s=QG\/s=Vd
def afG(s:ByteArray):Gj s=some (mb (cK s)):=by
 rw[Gj];simp only[RW,No,iY,axU];rfl
def afI(a b:List Pc)(ha:a.length<=9223372036854775807):Ln a b=some (mb (a=b)):=by
 rw[Ln,Lt,No];by_cases h:((a.length:Nat):Int)=((b.length:Nat):Int)
 rw[CI h,dM (v:=false) (P:=λi y=>b[i]?=some y) ha (λi y hy=>by
   have hi:i < a.length:=(List.getElem?_eq_some_iff.1 hy).1;have hb:b[i]?=some b[i]:=List.getElem?_eq_getElem (by omega);simp only[Md];rw[hb];simp only[Option.bind_some]
   have hs:PA y b[i]=mb (b[i]?=some y):=by
     rw[Bool.eq_iff_iff,DA,hb];unfold PA;simp only[Bool.and_eq_true,Qy,beq_iff_eq,Option.some.injEq];generalize b[i]=z;cases y;cases z;simp only[Pc.mk.injEq];grind
   rw[hs,No,aCV,hb]),iY]
 refine smb ⟨λh2=>?_,λh2 i y hy=>by rw[<- h2];exact hy⟩;apply List.ext_getElem?;intro i;by_cases hi:i < a.length;rw[List.getElem?_eq_getElem hi,h2 i _ (List.getElem?_eq_getElem hi)];rw[List.getElem?_eq_none (by omega),List.getElem?_eq_none (by omega)];rw[CL h];exact eR λh2=>h (by rw[h2])
def Gs(n f:Nd):Prop:=n.name=f.name/\n.unit=f.unit/\n.n=f.n/\n.fr=f.fr/\n.to=f.to/\n.known=f.known/\n.CV.den=f.CV.den/\n.CV.ps=f.CV.ps
def XI(n f:Nd)(h:n.CV.ps.length<=9223372036854775807):B5 n f=some (mb (Gs n f)):=by
 rw[B5,afI _ _ h];simp only[RW,Lt,No,Option.bind_some,axT];rfl
end Mo
end Go.Proofs.YtpbkhogolfegfaaGreatDoor
namespace Go.Proofs.YtpbkhogolfegfaaGreatDoor
open AI Go
namespace Mo
set_option maxRecDepth 100000
set_option maxHeartbeats 4000000
def oR{p:Prop}(h:¬p):mb p=false:=by rw[Wf];exact h
def Out(r:Option (Bool×Int))(P:Prop)(t:Int):Prop:=∃z,r=some (mb P,z)/\(P->z=t)
def Out.congr{r:Option (Bool×Int)}{P Q:Prop}{t u:Int}(h:Out r P t)(hp:P↔Q)(ht:Q->t=u):Out r Q u:=by
 obtain⟨z,h1,h2⟩:=h;exact⟨z,by rw[h1,MD hp],λq=>(h2 (hp.2 q)).trans (ht q)⟩
def Kq{Q:Prop}{z u:Int}(h:¬Q):Out (some (false,z)) Q u:=⟨z,by rw[oR h],λq=>absurd q h⟩
def UL{P Q:Prop}{u:Int}(h:P↔Q):Out (some (mb P,u)) Q u:=⟨u,by rw[MD h],λ_=>rfl⟩
def Ic{p Q:Prop}{A:Option (Bool×Int)}{z u:Int}(h:p->Out A Q u)(hq:Q->p):Out (Lg p A (some (false,z))) Q u:=by
 by_cases hp:p;rw[CI hp];exact h hp;rw[CL hp];exact Kq λq=>hp (hq q)
def jJ{p Q:Prop}{A:Option (Bool×Int)}{z u:Int}(h:¬p->Out A Q u)(hq:Q->¬p):Out (Lg p (some (false,z)) A) Q u:=by
 by_cases hp:p;rw[CI hp];exact Kq λq=>hq q hp;rw[CL hp];exact h hp
mutual
def Et:Nd->Nat
 | ⟨_,_,_,_,_,_,_,_,kids,_⟩=>1+G4 kids
def G4:List Nd->Nat
 | []=>0
 | k::ks=>Et k+G4 ks
end
mutual
def OE:Nd->Nat
 | ⟨_,_,_,_,_,_,_,_,kids,_⟩=>1+V3 kids
def V3:List Nd->Nat
 | []=>0
 | k::ks=>max (OE k) (V3 ks)
end
def Ge(n:Nd):Et n=1+G4 n.kids:=by cases n;rw[Et]
def NQ(n:Nd):OE n=1+V3 n.kids:=by cases n;rw[OE]
def XU{l:List Nd}{m:Nat}:V3 l<=m↔∀k∈l,OE k<=m:=by
 induction l with
 | nil=>simp[V3]
 | cons a l ih=>simp only[V3,Nat.max_le,ih,List.mem_cons,forall_eq_or_imp]
def ND{l:List Nd}{k:Nd}(h:k∈l):Et k<=G4 l:=by
 induction l with
 | nil=>cases h
 | cons a l ih =>
   rw[G4];rcases List.mem_cons.1 h with rfl | h
   omega;have:=ih h;omega
def QY(l:List Nd):l.length<=G4 l:=by
 induction l with
 | nil=>simp[G4]
 | cons a l ih=>rw[G4,Ge];simp only[List.length_cons];omega
def SF{n k:Nd}(h:k∈n.kids):Et k < Et n:=by rw[Ge n];have:=ND h;omega
def RI{g:Ck->Nd->Int->Option (Bool×Int)}{p:Nd->Prop}{d:Int}:∀{l:List Nd} {i:Nat} {c:Int},0<=c->c<=2000->(∀k∈l,∀c:Int,0<=c->c<=2000->Out (g ⟨c⟩ k d) (p k/\c+Et k<=2000/\d+OE k<=41) (c+Et k)) ->
   Out ((C4 (δ:=Int) (ρ:=Bool×Int) (λ_ y (x:Int)=>(g ⟨x⟩ y d).bind λ(Eu,Bm)=>cond Eu (some (.nx Bm)) (some (.rt (false,Bm)))) (λx=>x) l i c).bind (MC (λ(w:Int)=>some (true,w)) (λv=>some v)))
     ((∀k∈l,p k/\d+OE k<=41)/\c+G4 l<=2000) (c+G4 l)
 | [],i,c,h0,h1,_=>⟨c,by rw[DA.2 ⟨λk hk=>(by cases hk),by simp only[G4];omega⟩];rfl,λ_=>by simp[G4]⟩
 | y::l,i,c,h0,h1,hg=>by
   obtain⟨z,hz,h2⟩:=hg y (by simp) c h0 h1;rw[C4,hz];simp only[Option.bind_some];by_cases hp:p y/\c+Et y<=2000/\d+OE y<=41;rw[DA.2 hp,h2 hp];show Out ((C4 _ _ l (i+1) (c+Et y)).bind _) _ _;refine(RI (l:=l) (i:=i+1) (c:=c+Et y) (by omega) hp.2.1 λk hk=>hg k (by simp[hk])).congr ?_ ?_;rw[G4];simp only[List.mem_cons,forall_eq_or_imp,Int.natCast_add];constructor;rintro⟨a,b⟩;exact⟨⟨⟨hp.1,hp.2.2⟩,a⟩,by omega⟩;rintro⟨⟨_,a⟩,b⟩;exact⟨a,by omega⟩;intro _;rw[G4];omega;rw[oR hp];refine⟨z,?_,λq=>?_⟩;show some (false,z)=_;rw[oR];rintro⟨a,b⟩;rw[G4] at b;have:=a y (by simp);exact hp ⟨this.1,by omega,this.2⟩;exfalso;obtain⟨a,b⟩:=q;rw[G4] at b;have:=a y (by simp);exact hp ⟨this.1,by omega,this.2⟩
def Yz(n:Nd){c d:Int}(h0:0<=c)(h1:c<=2000):Out (CE ⟨c⟩ n d) (c+1<=2000/\d<=40) (c+1):=by
 rw[CE,CY (by show _<=c+1/\c+1<=_;omega)];simp only[TC,No,Option.bind_some];by_cases h:c+1<=2000;rw[CI h];exact UL ⟨λa=>⟨h,a⟩,λa=>a.2⟩;rw[CL h];exact Kq λa=>h a.1
def dZ(f:Fn)(i:Nat)(p:Pc):Prop:=p.fr<=999999999999/\(∀q,0 < i->f.ps[i - 1]?=some q->q.fr < p.fr)/\Vl p.AH f.den=some 0/\p.AH<=BU 999999999999 f.den/\BU (-999999999999) f.den<=p.AH/\p.MT<=1000000/\-1000000<=p.MT
def kU(f:Fn):Prop:=Py f.den/\(1<=f.ps.length/\f.ps.length<=64)/\(∀x,f.ps[0]?=some x->x.fr=0)/\∀(i:Nat) p,f.ps[i]?=some p->dZ f i p
def aEG(f:Fn)(hl:f.ps.length<=9223372036854775807):GL f=some (mb (kU f)):=by
 rw[GL,UM];simp only[Option.bind_some,No,Pm,Lt];unfold kU;by_cases hr:Py f.den;rotate_left;rw[CL hr];exact eR λh=>hr h.1;rw[CI hr];by_cases h1:((f.ps.length:Nat):Int) < 1;rw[CI h1];exact eR λh=>by omega
 rw[CL h1];by_cases h2:64 < ((f.ps.length:Nat):Int);rw[CI h2];exact eR λh=>by omega
 rw[CL h2];have hx0:f.ps[0]?=some f.ps[0]:=List.getElem?_eq_getElem (by omega);rw[hx0];simp only[Option.bind_some];by_cases h3:f.ps[0].fr=0;rotate_left;rw[CL h3];exact eR λh=>h3 (h.2.2.1 _ rfl);rw[CI h3];have aJQ:f.den≠0:=by unfold Py at hr;omega
 rw[dM (v:=false) (P:=λi y=>dZ f i y) hl (λi y hy=>by
   have hi:i < f.ps.length:=(List.getElem?_eq_some_iff.1 hy).1;simp only[Ie,Pm,No,TC,Lt];have hd:∃z,Vl y.AH f.den=some z:=by unfold Vl;rw[if_neg aJQ];exact⟨_,rfl⟩
   obtain⟨z,hz⟩:=hd;unfold dZ;rw[hz];by_cases h0:(0:Int) < ((i:Nat):Int);rw[CI h0,Kh (by omega)];have hq:f.ps[i - 1]?=some f.ps[i - 1]:=List.getElem?_eq_getElem (by omega)
   have hg:G5 f.ps (((i:Nat):Int) - 1)=some f.ps[i - 1]:=by
     unfold G5;rw[show(((i:Nat):Int) - 1).toNat=i - 1 by omega];simp only[hq]
     first | rfl | (rw[if_pos (by omega)])
   rw[hg,hq];simp only[Option.bind_some,amI,amJ,axK,axJ];congr 2;apply propext;simp only[Option.some.injEq,forall_eq'];grind;rw[CL h0];simp only[Option.bind_some,amI,amJ,axK,axJ];congr 2;apply propext;simp only[Option.some.injEq];have:¬0 < i:=by omega
   grind),iY]
 refine smb ⟨λh=>⟨hr,by omega,λx hx=>by cases hx;exact h3,h⟩,λh=>h.2.2.2⟩
def YB(s:ByteArray):Prop:=s=EC\/s=jH\/s=PJ\/s=GO\/s=H3\/s=J9\/s=G8\/s=Oi\/s=Lh\/s=Px\/s=gI
def QI(k:Nd):Prop:=k.kind=11/\k.unit=EF/\Py k.n
def SP(n:Nd):Prop :=
 (n.kind=11/\U2 n.unit/\0<=n.n/\n.n<=999999999999/\(n.unit=G9->n.n<=1)/\n.kids.length=0/\Gs n ⟨0,ByteArray.empty,n.unit,n.n,0,0,0,⟨0,[]⟩,[],0⟩) \/
 (n.kind=12/\Ri n.name/\n.kids.length=0/\Gs n ⟨0,n.name,ByteArray.empty,0,0,0,0,⟨0,[]⟩,[],0⟩) \/
 (n.kind=13/\Py n.n/\n.kids.length=0/\Gs n ⟨0,ByteArray.empty,ByteArray.empty,n.n,0,0,0,⟨0,[]⟩,[],0⟩) \/
 (n.kind=14/\cK n.name/\n.kids.length=0/\Gs n ⟨0,n.name,ByteArray.empty,0,0,0,0,⟨0,[]⟩,[],0⟩) \/
 (n.kind=15/\n.kids.length=1/\Gs n ⟨0,ByteArray.empty,ByteArray.empty,0,0,0,0,⟨0,[]⟩,[],0⟩) \/
 (n.kind=16/\Gs n ⟨0,n.name,ByteArray.empty,0,0,0,0,⟨0,[]⟩,[],0⟩/\n.kids.length=2/\YB n.name/\(n.name=EC->∀k,n.kids[1]?=some k->QI k)) \/
 (n.kind=17/\(n.name=KS\/n.name=FU)/\Gs n ⟨0,n.name,ByteArray.empty,0,0,0,0,⟨0,[]⟩,[],0⟩/\2<=n.kids.length) \/
 (n.kind=18/\Gs n ⟨0,ByteArray.empty,ByteArray.empty,0,0,0,0,n.CV,[],0⟩/\kU n.CV/\n.kids.length=1)
mutual
def J4:Nd->Prop
 | ⟨kind,name,unit,n,fr,to,known,CV,kids,AH⟩=>SP ⟨kind,name,unit,n,fr,to,known,CV,kids,AH⟩/\abP kids
def abP:List Nd->Prop
 | []=>True
 | k::ks=>J4 k/\abP ks
end
def abQ{l:List Nd}:abP l↔∀k∈l,J4 k:=by
 induction l with
 | nil=>simp[abP]
 | cons k l ih=>simp[abP,ih]
def Jj(n:Nd):J4 n↔SP n/\∀k∈n.kids,J4 k:=by cases n;rw[J4,abQ]
end Mo
end Go.Proofs.YtpbkhogolfegfaaGreatDoor
namespace Go.Proofs.YtpbkhogolfegfaaGreatDoor
open AI Go
namespace Mo
set_option maxRecDepth 100000
set_option maxHeartbeats 4000000
def MG{r:Option (Bool×Int)}{P Q:Prop}{t u:Int}{f:Bool×Int->Option (Bool×Int)}(h:Out r P t)(hT:P->Out (f (true,t)) Q u)(hF:∀z,¬P->Out (f (false,z)) Q u):Out (r.bind f) Q u:=by
 obtain⟨z,rfl,h2⟩:=h;by_cases hp:P;rw[DA.2 hp,h2 hp];exact hT hp;rw[oR hp];exact hF z hp
def ayH{Q:Prop}{t u:Int}(hq:Q)(h:t=u):Out (some (true,t)) Q u:=⟨t,by rw[DA.2 hq],λ_=>h⟩
def MF{r:Option (Bool×Int)}{P Q:Prop}{t u:Int}(h:Out r P t)(hp:P↔Q)(ht:P->t=u):Out (r.bind λ(a,b)=>some (a,b)) Q u :=
 MG h (λp=>ayH (hp.1 p) (ht p)) λ_ p=>Kq λq=>p (hp.2 q)
section
variable {p q r:Prop} {z:Int}
def dY:Lg p (some (mb q,z)) (some (false,z))=some (mb (p/\q),z):=by
 by_cases h:p;rw[CI h];congr 2;exact MD ⟨λa=>⟨h,a⟩,λa=>a.2⟩;rw[CL h,oR];exact λa=>h a.1
def pB:Lg p (some (false,z)) (some (mb q,z))=some (mb (¬p/\q),z):=by
 by_cases h:p;rw[CI h,oR];exact λa=>a.1 h;rw[CL h];congr 2;exact MD ⟨λa=>⟨h,a⟩,λa=>a.2⟩
def wS:Lg p (some (mb q,z)) (some (mb r,z))=some (mb ((p->q)/\(¬p->r)),z):=by
 by_cases h:p;rw[CI h];congr 2;exact MD ⟨λa=>⟨λ_=>a,λb=>absurd h b⟩,λa=>a.1 h⟩;rw[CL h];congr 2;exact MD ⟨λa=>⟨λb=>absurd b h,λ_=>a⟩,λa=>a.2 h⟩
end
section
variable {n:Nd}
def aIW(h:n.kind=11):SP n↔U2 n.unit/\0<=n.n/\n.n<=999999999999/\(n.unit=G9->n.n<=1)/\n.kids.length=0/\Gs n ⟨0,ByteArray.empty,n.unit,n.n,0,0,0,⟨0,[]⟩,[],0⟩:=by unfold SP;simp[h]
def aIX(h:n.kind=12):SP n↔Ri n.name/\n.kids.length=0/\Gs n ⟨0,n.name,ByteArray.empty,0,0,0,0,⟨0,[]⟩,[],0⟩:=by unfold SP;simp[h]
def aIY(h:n.kind=13):SP n↔Py n.n/\n.kids.length=0/\Gs n ⟨0,ByteArray.empty,ByteArray.empty,n.n,0,0,0,⟨0,[]⟩,[],0⟩:=by unfold SP;simp[h]
def aIZ(h:n.kind=14):SP n↔cK n.name/\n.kids.length=0/\Gs n ⟨0,n.name,ByteArray.empty,0,0,0,0,⟨0,[]⟩,[],0⟩:=by unfold SP;simp[h]
def aJA(h:n.kind=15):SP n↔n.kids.length=1/\Gs n ⟨0,ByteArray.empty,ByteArray.empty,0,0,0,0,⟨0,[]⟩,[],0⟩:=by unfold SP;simp[h]
def aJB(h:n.kind=16):SP n↔Gs n ⟨0,n.name,ByteArray.empty,0,0,0,0,⟨0,[]⟩,[],0⟩/\n.kids.length=2/\YB n.name/\(n.name=EC->∀k,n.kids[1]?=some k->QI k):=by unfold SP;simp[h]
def aJC(h:n.kind=17):SP n↔(n.name=KS\/n.name=FU)/\Gs n ⟨0,n.name,ByteArray.empty,0,0,0,0,⟨0,[]⟩,[],0⟩/\2<=n.kids.length:=by unfold SP;simp[h]
def aJD(h:n.kind=18):SP n↔Gs n ⟨0,ByteArray.empty,ByteArray.empty,0,0,0,0,n.CV,[],0⟩/\kU n.CV/\n.kids.length=1:=by unfold SP;simp[h]
def alD(h:SP n):n.kind=11\/n.kind=12\/n.kind=13\/n.kind=14\/n.kind=15\/n.kind=16\/n.kind=17\/n.kind=18:=by
 unfold SP at h;rcases h with h | h | h | h | h | h | h | h
 all_goals
   have:=h.1;simp[this]
end
def OX(l:List Nd)(c d:Int):Prop:=(∀k∈l,J4 k/\d+OE k<=41)/\c+G4 l<=2000
def asS{l:List Nd}{c d:Int}(h:l.length=0)(hc:c<=2000):OX l c d/\c=c+G4 l:=by
 obtain rfl:=List.eq_nil_of_length_eq_zero h;exact⟨⟨(λk hk=>(by cases hk)),(by simp only[G4];omega)⟩,(by simp[G4])⟩
def asT{x:Nd}{c d:Int}:OX [x] c d↔J4 x/\c+Et x<=2000/\d+OE x<=41:=by
 unfold OX;simp only[List.mem_singleton,forall_eq,G4,Nat.add_zero];exact⟨λa=>⟨a.1.1,a.2,a.1.2⟩,λa=>⟨⟨a.1,a.2.2⟩,a.2.1⟩⟩
def iQ{x y:Nd}{c d:Int}:OX [x,y] c d↔(J4 x/\c+Et x<=2000/\d+OE x<=41)/\J4 y/\c+Et x+Et y<=2000/\d+OE y<=41:=by
 unfold OX;simp only[List.mem_cons,List.not_mem_nil,or_false,forall_eq_or_imp,forall_eq,G4,Nat.add_zero,Int.natCast_add];constructor;rintro⟨⟨⟨a,b⟩,c',d'⟩,e⟩;exact⟨⟨a,by omega,b⟩,c',by omega,d'⟩;rintro⟨⟨a,b,c'⟩,d',e,f⟩;exact⟨⟨⟨a,c'⟩,d',f⟩,by omega⟩
abbrev ExS(g:Ck->Nd->Int->Option (Bool×Int))(n:Nd):Prop:=∀(c d:Int),0<=c->c<=2000->0<=d->d<=41->Out (g ⟨c⟩ n d) (J4 n/\c+Et n<=2000/\d+OE n<=41) (c+Et n)
def aA{g:Ck->Nd->Int->Option (Bool×Int)}{b a:Ck->Nd->Int->Option (Bool×Int)}{l:Ck->List Nd->Int->Option (Bool×Int)}{n:Nd}(h:ExS g n){c d:Int}(h0:0<=c)(h1:c<=2000)(h2:0<=d)(h3:d<=41) :
   Out (Dd g b a l ⟨c⟩ n d) ((J4 n/\QI n)/\c+Et n<=2000/\d+OE n<=41) (c+Et n):=by
 rw[Dd];simp only[Lt,RW,No,UM,Option.bind_some];refine MG (h c d h0 h1 h2 h3) (λhp=>?_) λz hp=>Kq λq=>hp ⟨q.1.1,q.2⟩;show Out (Lg (n.kind=11) (Lg (n.unit=EF) (some (mb (Py n.n),c+Et n)) (some (false,c+Et n))) (some (false,c+Et n))) _ _;rw[dY,dY];exact UL ⟨λa=>⟨⟨hp.1,a⟩,hp.2⟩,λa=>a.1.2⟩
def uY{g n':Ck->Nd->Int->Option (Bool×Int)}{b:Ck->Nd->Int->Option (Bool×Int)}{l:Ck->List Nd->Int->Option (Bool×Int)}{n:Nd}(hg:∀k∈n.kids,ExS g k)
   (hn:∀k∈n.kids,∀c d:Int,0<=c->c<=2000->0<=d->d<=41->Out (n' ⟨c⟩ k d) ((J4 k/\QI k)/\c+Et k<=2000/\d+OE k<=41) (c+Et k)) {c d:Int} (h0:0<=c) (h1:c<=2000) (h2:0<=d) (h3:d<=40) :
   Out (Db g b n' l ⟨c⟩ n d) ((n.kids.length=2/\YB n.name/\(n.name=EC->∀k,n.kids[1]?=some k->QI k))/\OX n.kids c (d+1)) (c+G4 n.kids):=by
 rw[Db,CY (by omega)];simp only[Lt,RW,No];generalize hl:n.kids=ks at *;by_cases hlen:((ks.length:Nat):Int)=2;rotate_left;rw[CL hlen];exact Kq λq=>hlen (by have:=q.1.1;omega);rw[CI hlen]
 match ks,hlen with
 | [x,y],_ =>
 simp only[List.getElem?_cons_zero,List.getElem?_cons_succ,Option.bind_some];refine MG (hg x (by simp) c (d+1) h0 h1 (by omega) (by omega)) (λhx=>?_) λz hx=>Kq λq=>hx (iQ.1 q.2).1;dsimp only;rw[cond_true];have hsz:G4 [x,y]=Et x+Et y:=by simp[G4]
 have hy:=λhc=>hg y (by simp) (c+Et x) (d+1) (by omega) hc (by omega) (by omega);have hn':=λhc=>hn y (by simp) (c+Et x) (d+1) (by omega) hc (by omega) (by omega);have hy:=hy hx.2.1;have hn':=hn' hx.2.1;by_cases hs:n.name=EC;rw[CI hs];refine MF hn' ⟨λa=>⟨⟨rfl,.inl hs,λ_ k hk=>by cases hk;exact a.1.2⟩,iQ.2 ⟨hx,a.1.1,a.2⟩⟩,λa=>?_⟩ (λa=>by rw[hsz];omega);have:=(iQ.1 a.2).2;exact⟨⟨this.1,a.1.2.2 hs y rfl⟩,this.2⟩;rw[CL hs]
 have fin:∀iL:YB n.name,Out ((g ⟨c+Et x⟩ y (d+1)).bind λ(a,b)=>some (a,b)) ((([x,y]:List Nd).length=2/\YB n.name/\(n.name=EC->∀k,some y=some k->QI k))/\OX [x,y] c (d+1)) (c+G4 [x,y]):=λiL =>
   MF hy ⟨λa=>⟨⟨rfl,iL,λe=>absurd e hs⟩,iQ.2 ⟨hx,a⟩⟩,λa=>(iQ.1 a.2).2⟩ (λa=>by rw[hsz];omega)
 have step:∀{s:ByteArray} {A:Option (Bool×Int)},(n.name=s->YB n.name)->(n.name≠s->Out A ((([x,y]:List Nd).length=2/\YB n.name/\(n.name=EC->∀k,some y=some k->QI k))/\OX [x,y] c (d+1)) (c+G4 [x,y])) ->
     Out (Lg (n.name=s) ((g ⟨c+Et x⟩ y (d+1)).bind λ(a,b)=>some (a,b)) A) ((([x,y]:List Nd).length=2/\YB n.name/\(n.name=EC->∀k,some y=some k->QI k))/\OX [x,y] c (d+1)) (c+G4 [x,y]):=by
   intro s A h4 h5;by_cases h:n.name=s;rw[CI h];exact fin (h4 h);rw[CL h];exact h5 h
 refine step (λe=>by unfold YB;simp[e]) λe1=>?_;refine step (λe=>by unfold YB;simp[e]) λe2=>?_;refine step (λe=>by unfold YB;simp[e]) λe3=>?_;refine step (λe=>by unfold YB;simp[e]) λe4=>?_;refine step (λe=>by unfold YB;simp[e]) λe5=>?_;refine step (λe=>by unfold YB;simp[e]) λe6=>?_;refine step (λe=>by unfold YB;simp[e]) λe7=>?_;refine step (λe=>by unfold YB;simp[e]) λe8=>?_;refine step (λe=>by unfold YB;simp[e]) λe9=>?_;refine step (λe=>by unfold YB;simp[e]) λe10=>?_
 exact Kq λq=>by
   have:=q.1.2.1;unfold YB at this;simp[hs,e1,e2,e3,e4,e5,e6,e7,e8,e9,e10] at this
def aeD{A L B T:Prop}{x:Int}:(A/\¬x < 0/\¬999999999999 < x/\(T->¬1 < x/\L/\B)/\(¬T->L/\B))↔A/\0<=x/\x<=999999999999/\(T->x<=1)/\L/\B:=by
 constructor;rintro⟨a,b,c,d,e⟩;by_cases t:T;exact⟨a,by omega,by omega,λ_=>by have:=(d t).1;omega,(d t).2⟩;exact⟨a,by omega,by omega,λh=>absurd h t,e t⟩;rintro⟨a,b,c,d,e⟩;exact⟨a,by omega,by omega,λt=>⟨by have:=d t;omega,e⟩,λ_=>e⟩
def abN:∀(q:Nat) (n:Nd),KT n->3*Et n<=q->ExS (AK q) n:=by
 intro q
 induction q using Nat.strongRecOn with
 | _ q ih =>
 intro n W1 hq c d h0 h1 h2 h3;have hsz:=Ge n;obtain⟨q,rfl⟩:∃k,q=k+1:=⟨q - 1,by omega⟩;obtain⟨rR,hkl,fR⟩:=YA W1;have hE:∀k∈n.kids,∀q',q<=q'+2->q' < q+1->ExS (AK q') k:=λk hk q' h4 h5=>ih q' h5 k (fR k hk) (by have:=ND hk;omega);rw[AK,Ef];refine MG (Yz n h0 h1) (λhp=>?_) λz hp=>Kq λa=>hp ⟨by omega,by have:=NQ n;omega⟩;dsimp only;rw[cond_true];refine Out.congr (P:=SP n/\OX n.kids (c+1) (d+1)) (t:=(c+1)+G4 n.kids) ?_ ?_ (λ_=>by omega);rotate_left;rw[Jj,NQ];unfold OX;have hd:=@XU n.kids;constructor;rintro⟨a,b,e⟩;refine⟨⟨a,λk hk=>(b k hk).1⟩,by omega,?_⟩;have:=(hd (m:=(40 - d).toNat)).2 λk hk=>by have:=(b k hk).2;omega
 omega;rintro⟨⟨a,b⟩,e,f⟩;refine⟨a,λk hk=>⟨b k hk,?_⟩,by omega⟩;have:=(hd (m:=V3 n.kids)).1 (Nat.le_refl _) k hk;omega;have hc1:=hp.1;have hd1:=hp.2;rw[CY (a:=d) (b:=1) (by omega)];have e0:(((n.kids.length:Nat):Int)=0)=(n.kids.length=0):=propext (by omega);simp only[Lt,TC,Pm,RW,No,sZ,rH,UM,afG,aEG _ rR,XI _ _ rR,Option.bind_some,e0];have Yf:∀{B:Prop},(B↔SP n)->(B->n.kids.length=0)->Out (some (mb B,c+1)) (SP n/\OX n.kids (c+1) (d+1)) (c+1+G4 n.kids):=λhB hk=>(UL hB).congr ⟨λa=>⟨a,(asS (hk (hB.2 a)) hc1).1⟩,λa=>a.1⟩ λa=>(asS (d:=d+1) (hk (hB.2 a.1)) hc1).2
 have hone:∀{B:Prop},(SP n↔B/\n.kids.length=1)->B->n.kids.length=1->Out ((n.kids[0]?).bind λx=>(AK q ⟨c+1⟩ x (d+1)).bind λ(a,b)=>some (a,b)) (SP n/\OX n.kids (c+1) (d+1)) (c+1+G4 n.kids):=by
   intro B hB hb hl;have Gk:=λk hk=>hE k hk q (by omega) (by omega);have hx:=hB.2 ⟨hb,hl⟩;generalize n.kids=ks at *
   match ks,hl with
   | [x],_ =>
   simp only[List.getElem?_cons_zero,Option.bind_some];refine MF (Gk x (by simp) (c+1) (d+1) (by omega) hc1 (by omega) (by omega)) ⟨λa=>⟨hx,asT.2 a⟩,λa=>asT.1 a.2⟩ λ_=>?_;simp[G4]
 by_cases k11:n.kind=11;rw[CI k11];simp only[dY,pB,wS];refine Yf ?_ ?_;rw[aIW k11];exact aeD;intro h;exact(aeD.1 h).2.2.2.2.1;rw[CL k11];by_cases k12:n.kind=12;rw[CI k12];simp only[dY,pB,wS];refine Yf ?_ ?_;rw[aIX k12];intro h;exact h.2.1;rw[CL k12];by_cases k13:n.kind=13;rw[CI k13];simp only[dY,pB,wS];refine Yf ?_ ?_;rw[aIY k13];intro h;exact h.2.1;rw[CL k13];by_cases k14:n.kind=14;rw[CI k14];simp only[dY,pB,wS];refine Yf ?_ ?_;rw[aIZ k14];intro h;exact h.2.1;rw[CL k14];by_cases k15:n.kind=15;rw[CI k15];have e:=aJA k15;refine Ic (λhl=>Ic (λhb=>hone (e.trans And.comm) hb (by omega)) λa=>(e.1 a.1).2) λa=>?_;have:=(e.1 a.1).1;omega;rw[CL k15];by_cases k16:n.kind=16;rw[CI k16];have e:=aJB k16;refine Ic (λhb=>?_) λa=>(e.1 a.1).1;obtain⟨q,rfl⟩:∃k,q=k+1:=⟨q - 1,by omega⟩;rw[AY];refine MF (uY (g:=AK q) (b:=AY q) (n':=AN q) (l:=AJ q) (λk hk=>hE k hk q (by omega) (by omega)) (λk hk c d a1 a2 a3 a4=>?_) (by omega) hc1 h2 hd1) ?_ λ_=>rfl;obtain⟨q,rfl⟩:∃k,q=k+1:=⟨q - 1,by have:=SF hk;have:=Ge k;omega⟩;rw[AN];exact aA (hE k hk q (by omega) (by omega)) a1 a2 a3 a4;rw[e];exact⟨λa=>⟨⟨hb,a.1⟩,a.2⟩,λa=>⟨a.1.2,a.2⟩⟩;rw[CL k16];by_cases k17:n.kind=17;rw[CI k17];have e:=aJC k17
 have Hz:(n.name=KS\/n.name=FU)->Out (Lg (Gs n ⟨0,n.name,ByteArray.empty,0,0,0,0,⟨0,[]⟩,[],0⟩) (Lg (2<=((n.kids.length:Nat):Int)) ((AJ q ⟨c+1⟩ n.kids (d+1)).bind λ(a,b)=>some (a,b)) (some (false,c+1))) (some (false,c+1))) (SP n/\OX n.kids (c+1) (d+1)) (c+1+G4 n.kids):=by
   intro hn;refine Ic (λhb=>Ic (λhl=>?_) λa=>?_) λa=>(e.1 a.1).2.1;obtain⟨q,rfl⟩:∃k,q=k+1:=⟨q - 1,by have:=QY n.kids;omega⟩;rw[AJ,Dm,R4 hkl,List.drop_zero];dsimp only;refine MF (RI (g:=AK q) (p:=J4) (d:=d+1) (by omega) hc1 λk hk c' b0 b1=>hE k hk q (by omega) (by omega) c' (d+1) b0 b1 (by omega) (by omega)) ?_ λ_=>rfl;rw[e];exact⟨λa=>⟨⟨hn,hb,by omega⟩,a⟩,λa=>a.2⟩;have:=(e.1 a.1).2.2;omega
 by_cases hn1:n.name=KS;rw[CI hn1];exact Hz (.inl hn1);rw[CL hn1];exact Ic (λhn2=>Hz (.inr hn2)) λa=>(e.1 a.1).1.resolve_left hn1;rw[CL k17];by_cases k18:n.kind=18;rw[CI k18];have e:=aJD k18;refine Ic (λhb=>Ic (λht=>Ic (λhl=>hone (B:=Gs n ⟨0,ByteArray.empty,ByteArray.empty,0,0,0,0,n.CV,[],0⟩/\kU n.CV) (e.trans (by rw[and_assoc])) ⟨hb,ht⟩ (by omega)) λa=>?_) λa=>(e.1 a.1).2.1) λa=>(e.1 a.1).1;have:=(e.1 a.1).2.2;omega;rw[CL k18];exact Kq λa=>by have:=alD a.1;omega
def Le{β:Type}(a b:Option β):Prop:=∀y,a=some y->b=some y
section
variable {α β γ δ ρ:Type}
def Le.refl(a:Option β):Le a a:=λ_ h=>h
def OY{a a':Option α}{f g:α->Option β}(h:Le a a')(k:∀x,Le (f x) (g x)):Le (a.bind f) (a'.bind g):=by
 intro y hy;cases a with
 | none=>cases hy
 | some x=>rw[h x rfl];exact k x y hy
def sE{b:Bool}{x x' y y':Option β}(h:Le x x')(k:Le y y'):Le (cond b x y) (cond b x' y'):=by cases b;exact k;exact h
def axP{n:Nat}{x x':Option β}(h:Le x x'):Le (Tc n x) (Tc n x'):=by
 unfold Tc;split;exact h;exact Le.refl _
def sF{body arT:Nat->α->γ->Option (Lp γ δ ρ)}{done:γ->δ}(h:∀i y x,Le (body i y x) (arT i y x)):∀(l:List α) (i:Nat) (x:γ),Le (C4 body done l i x) (C4 arT done l i x)
 | [],_,_=>Le.refl _
 | a::l,i,x=>by
   rw[C4,C4];refine OY (h i a x) λz=>?_;cases z with
   | nx x'=>exact sF h l (i+1) x'
   | ex d=>exact Le.refl _
   | rt v=>exact Le.refl _
end
def cP:∀q:Nat,(∀c n d,Le (AK q c n d) (AK (q+1) c n d))/\(∀c n d,Le (AY q c n d) (AY (q+1) c n d))/\(∀c n d,Le (AN q c n d) (AN (q+1) c n d))/\(∀c n d,Le (AJ q c n d) (AJ (q+1) c n d))
 | 0=>⟨(λ_ _ _ _ h=>nomatch h),(λ_ _ _ _ h=>nomatch h),(λ_ _ _ _ h=>nomatch h),(λ_ _ _ _ h=>nomatch h)⟩
 | q+1=>by
   obtain⟨i1,i2,i3,i4⟩:=cP q;refine⟨λc n d=>?_,λc n d=>?_,λc n d=>?_,λc n d=>?_⟩
   · rw[AK,AK,Ef,Ef]
     repeat' first
       | exact Le.refl _
       | exact i1 _ _ _
       | exact i2 _ _ _
       | exact i4 _ _ _
       | refine sE ?_ ?_
       | refine OY ?_ λ⟨_,_⟩=>?_
       | refine OY ?_ λ_=>?_
   · rw[AY,AY,Db,Db]
     repeat' first
       | exact Le.refl _
       | exact i1 _ _ _
       | exact i3 _ _ _
       | refine sE ?_ ?_
       | refine OY ?_ λ⟨_,_⟩=>?_
       | refine OY ?_ λ_=>?_
   rw[AN,AN,Dd,Dd];exact OY (i1 _ _ _) λ_=>Le.refl _;rw[AJ,AJ,Dm,Dm];refine OY (axP (sF (λi y x=>?_) _ _ _)) λ_=>Le.refl _;rw[DW,DW];exact OY (i1 _ _ _) λ_=>Le.refl _
def abM{β:Type}{f:Nat->Option β}(h:∀q,Le (f q) (f (q+1))){q:Nat}{y:β}(hy:f q=some y):evt f=some y:=by
 refine X1 q λm hm=>?_
 induction m with
 | zero=>obtain rfl:q=0:=by omega
         exact hy
 | succ m ih =>
   rcases Nat.lt_or_ge m q with hlt | hge
   obtain rfl:q=m+1:=by omega
   exact hy;exact h m y (ih hge)
def abO{n:Nd}(W1:KT n):ExS GV n:=by
 intro c d h0 h1 h2 h3;obtain⟨z,hz,hz2⟩:=abN (3*Et n) n W1 (Nat.le_refl _) c d h0 h1 h2 h3;exact⟨z,abM (λq=>(cP q).1 _ _ _) hz,hz2⟩
def aeZ{n:Nd}(W1:KT n){c d:Int}(h0:0<=c)(h1:c<=2000)(h2:0<=d)(h3:d<=41):Out (FV ⟨c⟩ n d) ((J4 n/\QI n)/\c+Et n<=2000/\d+OE n<=41) (c+Et n):=by
 obtain⟨z,hz,hz2⟩:=aA (g:=AK (3*Et n)) (b:=AY (3*Et n)) (a:=AN (3*Et n)) (l:=AJ (3*Et n)) (abN (3*Et n) n W1 (Nat.le_refl _)) h0 h1 h2 h3;exact⟨z,abM (q:=3*Et n+1) (λq=>(cP q).2.2.1 _ _ _) (by rw[AN];exact hz),hz2⟩
end Mo
end Go.Proofs.YtpbkhogolfegfaaGreatDoor
namespace Go.Proofs.YtpbkhogolfegfaaGreatDoor
open AI Go
namespace Mo
set_option maxRecDepth 100000
set_option maxHeartbeats 4000000
abbrev z0:Nd:=⟨0,ByteArray.empty,ByteArray.empty,0,0,0,0,⟨0,[]⟩,[],0⟩
def ayJ(n:Int):GD n=some (mb (aaX n)):=by
 rw[GD];simp only[TC,No,iY,axT];rfl
def Rc(n:Nd):Prop:=n.kind=5/\(0<=n.n/\n.n<=1000000)/\n.kids.length=0/\aaX n.fr/\(n.fr < n.to/\n.to<=36525)/\aaX n.known/\Gs n ⟨0,ByteArray.empty,ByteArray.empty,n.n,n.fr,n.to,n.known,⟨0,[]⟩,[],0⟩
def KG(n:Nd):Prop:=Gs n z0/\(n.kind=7->0 < n.kids.length/\∀k∈n.kids,J4 k/\QI k)/\(n.kind≠7->n.kids.length=1/\∀k∈n.kids,J4 k)
def sG{n:Nd}(h:n.kids.length=0):Et n=1/\OE n=1:=by
 have:=List.eq_nil_of_length_eq_zero h;rw[Ge,NQ,this];exact⟨rfl,rfl⟩
def avZ{n:Nd}(W1:KT n){c d:Int}(h0:0<=c)(h1:c<=2000):Out (Fp ⟨c⟩ n d) (Rc n/\c+Et n<=2000/\d+OE n<=41) (c+Et n):=by
 obtain⟨rR,hkl,fR⟩:=YA W1;have hsz:=Ge n;have hdp:=NQ n;rw[Fp];refine MG (Yz n h0 h1) (λhp=>?_) λz hp=>Kq λa=>hp ⟨by omega,by omega⟩;dsimp only;rw[cond_true];simp only[Lt,TC,Pm,No,ayJ,XI _ _ rR,Option.bind_some,dY,pB]
 have key:(n.kind=5/\¬n.n < 0/\¬1000000 < n.n/\¬(0:Int) < ((n.kids.length:Nat):Int)/\aaX n.fr/\¬n.to<=n.fr/\¬36525 < n.to/\aaX n.known/\Gs n ⟨0,ByteArray.empty,ByteArray.empty,n.n,n.fr,n.to,n.known,⟨0,[]⟩,[],0⟩)↔Rc n:=by
   unfold Rc;constructor;rintro⟨a,b,c',e,f,g,h,i,j⟩;exact⟨a,⟨by omega,by omega⟩,by omega,f,⟨by omega,by omega⟩,i,j⟩;rintro⟨a,b,c',f,g,i,j⟩;exact⟨a,by omega,by omega,by omega,f,by omega,by omega,i,j⟩
 refine(UL key).congr ⟨λa=>⟨a,?_⟩,λa=>a.1⟩ λa=>?_;have:=sG a.2.2.1;omega;have:=sG a.1.2.2.1;omega
def aaS{n:Nd}(W1:KT n){c d:Int}(h0:0<=c)(h1:c<=2000)(h2:0<=d):Out (DN ⟨c⟩ n d) (KG n/\c+Et n<=2000/\d+OE n<=41) (c+Et n):=by
 obtain⟨rR,hkl,fR⟩:=YA W1;have hsz:=Ge n;have hdp:=NQ n;have hd:=@XU n.kids;rw[DN];refine MG (Yz n h0 h1) (λhp=>?_) λz hp=>Kq λa=>hp ⟨by omega,by omega⟩;dsimp only;rw[cond_true,CY (a:=d) (b:=1) (by omega)];simp only[Lt,Pm,No,XI _ _ rR,Option.bind_some];have hc1:=hp.1;have hd1:=hp.2
 have Sr:(∀k∈n.kids,d+1+OE k<=41)↔d+OE n<=41:=by
   constructor;intro h;have:=(hd (m:=(40 - d).toNat)).2 λk hk=>by have:=h k hk;omega
   omega;intro h k hk;have:=(hd (m:=V3 n.kids)).1 (Nat.le_refl _) k hk;omega
 refine Ic (λhb=>?_) λa=>a.1.1;by_cases k7:n.kind=7;rw[CI k7];refine Ic (λhl=>?_) λa=>by have:=(a.1.2.1 k7).1;omega
 rw[EH,R4 hkl,List.drop_zero];dsimp only;refine MF (RI (g:=FV) (p:=λk=>J4 k/\QI k) (d:=d+1) (by omega) hc1 λk hk c' b0 b1=>aeZ (fR k hk) b0 b1 (by omega) (by omega)) ⟨λa=>⟨⟨hb,λ_=>⟨by omega,λk hk=>(a.1 k hk).1⟩,λh=>absurd k7 h⟩,by omega,Sr.1 λk hk=>(a.1 k hk).2⟩,λa=>⟨λk hk=>⟨(a.1.2.1 k7).2 k hk,Sr.2 a.2.2 k hk⟩,by omega⟩⟩ λ_=>by omega
 · rw[CL k7]
   refine Ic (λhl=>?_) λa=>by have:=(a.1.2.2 k7).1;omega
   have hl1:n.kids.length=1:=by omega
   unfold KG;generalize n.kids=ks at *
   match ks,hl1 with
   | [x],_ =>
   simp only[List.getElem?_cons_zero,Option.bind_some];have e1:G4 [x]=Et x:=by simp[G4]
   refine MF (abO (fR x (by simp)) (c+1) (d+1) (by omega) hc1 (by omega) (by omega)) ⟨λa=>⟨⟨hb,λh=>absurd h k7,λ_=>⟨rfl,λk hk=>by rw[List.mem_singleton.1 hk];exact a.1⟩⟩,by omega,Sr.1 λk hk=>by rw[List.mem_singleton.1 hk];exact a.2.2⟩,λa=>⟨(a.1.2.2 k7).2 x (by simp),by omega,Sr.2 a.2.2 x (by simp)⟩⟩ λ_=>by omega
def Hf(k:Int):List Nd->Nat
 | []=>0
 | a::l=>(if a.kind=k then 1 else 0)+Hf k l
def kinds(l:List Nd):Prop:=∀k∈l,6<=k.kind/\k.kind<=8
def Ym{y:Int}:∀{l:List Nd} {i:Nat} {a b c:Int},0<=a->0<=b->0<=c->a+l.length<=9223372036854775807->b+l.length<=9223372036854775807->c+l.length<=9223372036854775807 ->
   C4 (λi z x=>D5 y i z x.1 x.2.1 x.2.2) (λx=>(x.1,x.2.1,x.2.2)) l i (a,b,c)=some (Lg (kinds l) (.inl (a+Hf 6 l,b+Hf 7 l,c+Hf 8 l)) (.inr (false,y)))
 | [],i,a,b,c,_,_,_,_,_,_=>by rw[CI (show kinds [] from λk hk=>(by cases hk))];simp[C4,Hf]
 | z::l,i,a,b,c,h1,h2,h3,h4,h5,h6=>by
   simp only[List.length_cons] at h4 h5 h6;rw[C4,D5];simp only[Pm,Lt,No];have hk:kinds (z::l)↔(6<=z.kind/\z.kind<=8)/\kinds l:=by unfold kinds;simp
   have go:∀{a' b' c':Int},0<=a'->0<=b'->0<=c'->a'<=a+1->b'<=b+1->c'<=c+1->6<=z.kind/\z.kind<=8->a'+Hf 6 l=a+Hf 6 (z::l)->b'+Hf 7 l=b+Hf 7 (z::l)->c'+Hf 8 l=c+Hf 8 (z::l) ->
       (some (Lp.nx (a',b',c'))).bind (Rb (C4 (λi z x=>D5 y i z x.1 x.2.1 x.2.2) (λx=>(x.1,x.2.1,x.2.2)) l (i+1)))=some (Lg (kinds (z::l)) (.inl (a+Hf 6 (z::l),b+Hf 7 (z::l),c+Hf 8 (z::l))) (.inr (false,y))):=by
     intro a' b' c' g1 g2 g3 g4 g5 g6 gk e1 e2 e3;show C4 _ _ l (i+1) (a',b',c')=_;rw[Ym g1 g2 g3 (by omega) (by omega) (by omega),e1,e2,e3];by_cases hl:kinds l;rw[CI hl,CI (hk.2 ⟨gk,hl⟩)];rw[CL hl,CL λq=>hl (hk.1 q).2]
   by_cases k6:z.kind < 6;rw[CI k6,CL λq=>by have:=(hk.1 q).1;omega];rfl;rw[CL k6];by_cases k8:8 < z.kind;rw[CI k8,CL λq=>by have:=(hk.1 q).1;omega];rfl;rw[CL k8];by_cases e6:z.kind=6;rw[CI e6,CY (by omega)];exact go (by omega) h2 h3 (by omega) (by omega) (by omega) (by omega) (by simp[Hf,e6];omega) (by simp[Hf,e6]) (by simp[Hf,e6]);rw[CL e6];by_cases e7:z.kind=7;rw[CI e7,CY (by omega)];exact go h1 (by omega) h3 (by omega) (by omega) (by omega) (by omega) (by simp[Hf,e7]) (by simp[Hf,e7];omega) (by simp[Hf,e7]);rw[CL e7];have e8:z.kind=8:=by omega
   rw[CI e8,CY (by omega)];exact go h1 h2 (by omega) (by omega) (by omega) (by omega) (by omega) (by simp[Hf,e8]) (by simp[Hf,e8]) (by simp[Hf,e8];omega)
def uR(n:Nd):Prop:=Py n.n/\Ri n.name/\Gs n ⟨0,n.name,ByteArray.empty,n.n,0,0,0,⟨0,[]⟩,[],0⟩/\∃h cs,n.kids=h::cs/\kinds cs/\Hf 8 cs=1/\Hf 7 cs<=1/\Rc h/\∀k∈cs,KG k
def ID(n:Nd):Prop :=
 (n.kind=2/\Ri n.name/\U2 n.unit/\n.kids.length=0/\Gs n ⟨0,n.name,n.unit,0,0,0,0,⟨0,[]⟩,[],0⟩) \/
 (n.kind=3/\Ri n.name/\U2 n.unit/\1<=n.n/\n.n<=4/\n.kids.length=0/\Gs n ⟨0,n.name,n.unit,n.n,0,0,0,⟨0,[]⟩,[],0⟩) \/
 (n.kind=4/\uR n)
def it2{n:Nd}(h:n.kind=2):ID n↔Ri n.name/\U2 n.unit/\n.kids.length=0/\Gs n ⟨0,n.name,n.unit,0,0,0,0,⟨0,[]⟩,[],0⟩:=by unfold ID;simp[h]
def it3{n:Nd}(h:n.kind=3):ID n↔Ri n.name/\U2 n.unit/\1<=n.n/\n.n<=4/\n.kids.length=0/\Gs n ⟨0,n.name,n.unit,n.n,0,0,0,⟨0,[]⟩,[],0⟩:=by unfold ID;simp[h]
def it4{n:Nd}(h:n.kind=4):ID n↔uR n:=by unfold ID;simp[h]
def amG{n:Nd}(h:ID n):n.kind=2\/n.kind=3\/n.kind=4:=by
 unfold ID at h;rcases h with h | h | h
 all_goals
   have:=h.1;simp[this]
def axF{n:Nd}(W1:KT n){c d:Int}(h0:0<=c)(h1:c<=2000)(h2:0<=d):Out (Eg ⟨c⟩ n d) (ID n/\c+Et n<=2000/\d+OE n<=41) (c+Et n):=by
 obtain⟨rR,hkl,fR⟩:=YA W1;have hsz:=Ge n;have hdp:=NQ n;have hd:=@XU n.kids;rw[Eg];refine MG (Yz n h0 h1) (λhp=>?_) λz hp=>Kq λa=>hp ⟨by omega,by omega⟩;dsimp only;rw[cond_true,CY (a:=d) (b:=1) (by omega)];have e0:(((n.kids.length:Nat):Int)=0)=(n.kids.length=0):=propext (by omega);simp only[Lt,TC,Pm,No,sZ,rH,UM,XI _ _ rR,Option.bind_some,e0];have hc1:=hp.1;have hd1:=hp.2;have Yf:∀{B:Prop},(B↔ID n)->(B->n.kids.length=0)->Out (some (mb B,c+1)) (ID n/\c+Et n<=2000/\d+OE n<=41) (c+Et n):=λhB hk=>(UL hB).congr ⟨λa=>⟨a,by have:=sG (hk (hB.2 a));omega⟩,λa=>a.1⟩ λa=>by have:=sG (hk (hB.2 a.1));omega
 by_cases k2:n.kind=2;rw[CI k2];simp only[dY,pB,wS];refine Yf ?_ ?_;rw[it2 k2];intro h;exact h.2.2.1;rw[CL k2];by_cases k3:n.kind=3;rw[CI k3];simp only[dY,pB,wS];refine Yf ?_ ?_;rw[it3 k3];intro h;exact h.2.2.2.2.1;rw[CL k3];by_cases k4:n.kind=4;rotate_left;rw[CL k4];exact Kq λa=>by have:=amG a.1;omega
 rw[CI k4,it4 k4];refine Ic (λhr=>Ic (λhn=>Ic (λhb=>?_) λa=>a.1.2.2.1) λa=>a.1.2.1) λa=>a.1.1;refine jJ (λhl0=>?_) λa h=>by obtain⟨h',cs,hk,_⟩:=a.1.2.2.2;rw[hk] at h;simp at h
 have Sr:(∀k∈n.kids,d+1+OE k<=41)↔d+OE n<=41:=by
   constructor;intro h;have:=(hd (m:=(40 - d).toNat)).2 λk hk=>by have:=h k hk;omega
   omega;intro h k hk;have:=(hd (m:=V3 n.kids)).1 (Nat.le_refl _) k hk;omega
 unfold uR;generalize n.kids=ks at *
 match ks,hl0 with
 | x::l,_ =>
 have Lv:ahE (x::l) 1 (((x::l).length:Nat):Int)=some l:=by
   unfold ahE;rw[if_pos (by simp only[List.length_cons];omega)];simp
 rw[Lv];simp only[Option.bind_some,List.length_cons] at hkl ⊢
 have e2:∀{A:Prop},(∃h cs,x::l=h::cs/\kinds cs/\Hf 8 cs=1/\Hf 7 cs<=1/\Rc h/\∀k∈cs,KG k)↔(kinds l/\Hf 8 l=1/\Hf 7 l<=1/\Rc x/\∀k∈l,KG k):=by
   intro _;constructor;rintro⟨h,cs,e,r⟩;cases e;exact r;intro r;exact⟨x,l,rfl,r⟩
 rw[R4 (by omega),List.drop_zero,Ym (by omega) (by omega) (by omega) (by omega) (by omega) (by omega)];simp only[Option.bind_some];by_cases hK:kinds l;rotate_left;rw[CL hK];show Out (some (false,c+1)) _ _;exact Kq λa=>hK ((e2 (A:=True)).1 a.1.2.2.2).1;rw[CI hK];show Out (Lg ((0:Int)+Hf 8 l=1) (Lg (1 < (0:Int)+Hf 7 l) (some (false,c+1)) _) (some (false,c+1))) _ _;refine Ic (λh8=>jJ (λh7=>?_) λa=>?_) λa=>?_;rotate_left;have:=((e2 (A:=True)).1 a.1.2.2.2).2.2.1;omega;have:=((e2 (A:=True)).1 a.1.2.2.2).2.1;omega;simp only[List.getElem?_cons_zero,Option.bind_some];have hdx:=λh=>Sr.2 h x (by simp);have hsl:G4 (x::l)=Et x+G4 l:=by simp[G4]
 refine MG (avZ (fR x (by simp)) (c:=c+1) (d:=d+1) (by omega) hc1) (λhx=>?_) λz hx=>Kq λa=>hx ⟨((e2 (A:=True)).1 a.1.2.2.2).2.2.2.1,by omega,hdx a.2.2⟩;dsimp only;rw[cond_true,EG,R4 (by omega),List.drop_zero];dsimp only;refine MF (RI (g:=DN) (p:=KG) (d:=d+1) (by omega) hx.2.1 λk hk c' b0 b1=>aaS (fR k (by simp[hk])) b0 b1 (by omega)) ?_ λ_=>by omega
 constructor;rintro⟨a,b⟩;refine⟨⟨hr,hn,hb,(e2 (A:=True)).2 ⟨hK,by omega,by omega,hx.1,λk hk=>(a k hk).1⟩⟩,by omega,Sr.1 λk hk=>?_⟩;rcases List.mem_cons.1 hk with rfl | hk
 exact hx.2.2;exact(a k hk).2;rintro⟨a,b,e⟩;exact⟨λk hk=>⟨((e2 (A:=True)).1 a.2.2.2).2.2.2.2 k hk,Sr.2 e k (by simp[hk])⟩,by omega⟩
def okV(n:Nd):Prop:=((n.kind=1/\Gs n z0/\∀k∈n.kids,ID k)\/(n.kind≠1/\J4 n))/\Et n<=2000/\OE n<=40
def fA{n:Nd}(W1:KT n):Em n=some (mb (okV n)):=by
 obtain⟨rR,hkl,fR⟩:=YA W1;have hsz:=Ge n;have hdp:=NQ n;have hd:=@XU n.kids;rw[Em,Lt,No]
 have fin:∀{r:Option (Bool×Int)} {P:Prop} {t:Int},Out r P t->(P↔okV n)->(r.bind λ(a,_)=>some a)=some (mb (okV n)):=by
   rintro r P t ⟨z,rfl,_⟩ h;rw[MD h];rfl
 by_cases k1:n.kind=1;rotate_left;rw[CL k1];refine fin (abO W1 0 1 (by omega) (by omega) (by omega) (by omega)) ?_;unfold okV;constructor;rintro⟨a,b,c⟩;exact⟨.inr ⟨k1,a⟩,by omega,by omega⟩;rintro⟨a | a,b,c⟩;exact absurd a.1 k1;exact⟨a.2,by omega,by omega⟩;rw[CI k1];obtain⟨z,hz,hz2⟩:=Yz n (c:=0) (d:=1) (by omega) (by omega);rw[hz];simp only[Option.bind_some,XI _ _ rR,No];by_cases h1:(0:Int)+1<=2000/\(1:Int)<=40;rotate_left;exact absurd ⟨by omega,by omega⟩ h1;rw[CI h1,hz2 h1];by_cases hb:Gs n z0;rotate_left;rw[CL hb];refine eR ?_;rintro⟨a | a,_⟩;exact hb a.2.1;exact a.1 k1;rw[CI hb,Fh,R4 hkl,List.drop_zero];dsimp only;refine fin (RI (g:=Eg) (p:=ID) (d:=2) (by omega) (by omega) λk hk c' b0 b1=>axF (fR k hk) b0 b1 (by omega)) ?_;unfold okV;constructor;rintro⟨a,b⟩;refine⟨.inl ⟨k1,hb,λk hk=>(a k hk).1⟩,by omega,?_⟩;have:=(hd (m:=39)).2 λk hk=>by have:=(a k hk).2;omega
 omega;rintro⟨a | a,b,e⟩;refine⟨λk hk=>⟨a.2.2 k hk,?_⟩,by omega⟩;have:=(hd (m:=V3 n.kids)).1 (Nat.le_refl _) k hk;omega;exact absurd k1 a.1
end Mo
end Go.Proofs.YtpbkhogolfegfaaGreatDoor
namespace Go.Proofs.YtpbkhogolfegfaaGreatDoor
open AI Go
namespace Mo
set_option maxRecDepth 100000
abbrev Rd(α:Type):=List Tk->Option ((α⊕Dg)×List Tk)
section
variable {α β:Type}
def FT(a:α):Rd α:=λl=>some (.inl a,l)
def LX(e p:Int):Rd α:=λl=>some (.inr ⟨e,p⟩,l)
def Ct(m:Rd α)(k:α->Rd β):Rd β:=λl=>match m l with
 | none=>none
 | some (.inl a,s)=>k a s
 | some (.inr d,s)=>some (.inr d,s)
def Li(x:Option α)(k:α->Rd β):Rd β:=λl=>match x with
 | none=>none
 | some a=>k a l
def TQ(en:Int)(k:Tk->Rd β):Rd β:=λl=>match l with
 | []=>some (.inr ⟨72,en⟩,[])
 | t::s=>k t (t::s)
def Ue(k:Rd β):Rd β:=λl=>match l with
 | []=>none
 | _::s=>k s
def H9(x:ByteArray):List Tk->Bool
 | []=>false
 | t::_=>B2 t.text.data.toList x.data.toList
def Om(x:ByteArray)(yes no:Rd β):Rd β:=λl=>cond (H9 x l) (Ue yes l) (no l)
end
def Lb(en:Int)(fits:Tk->Option Bool):Rd Tk:=TQ en λt=>Li (fits t) λb=>cond b (Ue (FT t)) (LX 71 t.AH)
def I5(en:Int)(x:ByteArray):Rd Tk:=Lb en λt=>Dv t x
def Z8(en:Int):Rd Tk:=Lb en Cw
def kY(en:Int):Rd Tk:=Lb en Fb
def aI(en:Int):Rd Tk:=Lb en BX
def Mh(en:Int):Rd (Int×Int):=Ct (Lb en Eo) λt=>Li (RM t.text) λn=>FT (n.1,t.AH)
def LH(en least:Int):Rd (Int×Int):=Ct (Mh en) λp=>cond (DM p.1 least) (LX 3 p.2) (cond (DM 1000000 p.1) (LX 3 p.2) (FT p))
def Ra(en least:Int):Rd Int:=Ct (Lb en EU) λt=>Li (Fs t.text) λd=>cond (CS d.2 0) (cond (DM d.1 least) (LX 21 t.AH) (FT d.1)) (LX 21 t.AH)
abbrev bE:ByteArray:=ByteArray.empty
def Fo(kind:Int)(name unit:ByteArray)(n:Int)(kids:List Nd)(p:Int):Nd:=⟨kind,name,unit,n,0,0,0,⟨0,[]⟩,kids,p⟩
def Uz(en:Int):Rd Nd:=Ct (I5 en tB) λt=>Ct (LH en 0) λn=>Ct (I5 en rG) λ_=>Ct (Ra en 0) λf =>
 Om toS (Ct (Ra en (BC f 1)) λu=>Ct (I5 en Vr) λ_=>Ct (Ra en 0) λk=>FT ⟨5,bE,bE,n.1,f,u,k,⟨0,[]⟩,[],t.AH⟩)
   (Ct (I5 en Vr) λ_=>Ct (Ra en 0) λk=>FT ⟨5,bE,bE,n.1,f,36525,k,⟨0,[]⟩,[],t.AH⟩)
def OV(en:Int):Rd Nd:=TQ en λt=>Ue<|Ct (Z8 en) λm=>Ct (I5 en UO) λ_=>Ct (kY en) λu =>
 cond (B2 t.text.data.toList N2.data.toList)
   (Ct (aI en) λr=>Li (Ev r.text) λn=>Ct (I5 en Rz) λ_=>FT (Fo 3 m.text u.text n [] t.AH))
   (Ct (I5 en Rz) λ_=>FT (Fo 2 m.text u.text 0 [] t.AH))
def FK(en:Int):Rd Nd:=Ct (LH en 1) λp=>FT (Fo 11 bE EF p.1 [] p.2)
def Ol{β:Type}(n:Nat)(m:Rd β):Rd β:=λs=>MA n (m s)
def Nb(read:Rd Nd):Nat->List Nd->Rd (List Nd)
 | 0,_=>λ_=>none
 | q+1,l=>Om TO (Ct read λn=>Ol (l.length+1) (Nb read q (l++[n]))) (FT l)
def Rh(read:Rd Nd):Rd (List Nd):=Ct read λn s=>Nb read (s.length+1) [n] s
def M6(en:Int):Rd (Int×Int):=Ct (Lb en Dk) λt=>Li (Cz t) λc=>cond (CS t.kind 3) (cond (CS c 0) (FT (c,t.AH)) (LX 3 t.AH)) (FT (c,t.AH))
def US(en:Int):Rd Int:=Ct (Lb en EY) λt=>cond (B2 t.text.data.toList Lh.data.toList) (FT (-1)) (FT 1)
def nL:Nat->Int->Int->Int
 | 0,a,_=>a
 | n+1,a,b=>if b=0 then a else nL n b (a % b)
def acA(a b:Int):Option Int:=if 1<=a/\0<=b then some (nL (b.toNat+1) a b) else none
def Ny(en Ax from_ a:Int):Rd (Pt×Int):=Ct (US en) λs=>Ct (LH en 0) λm=>Ct (I5 en EC) λ_=>Ct (LH en 1) λd =>
 Li (acA Ax d.1) λg=>Li (SO Ax g) λz=>cond (DM 1000000 (BU z d.1)) (LX 2 d.2) (FT (⟨from_,a,BU m.1 s,d.1⟩,BU z d.1))
def Mj(en Ax from_:Int):Rd (Pt×Int):=Ct (I5 en UO) λ_=>Om Lh (Ct (M6 en) λa=>Ny en Ax from_ (BU a.1 (-1))) (Ct (M6 en) λa=>Ny en Ax from_ (BU a.1 1))
def QR(en:Int)(before:List Pt)(Ax:Int):Rd (Pt×Int):=Ct (M6 en) λv =>
 cond (CS ((before.length:Nat):Int) 0) (cond (CS v.1 0) (Mj en Ax v.1) (LX 3 v.2))
   (Li (before[before.length - 1]?) λq=>cond (N1 v.1 q.fr) (LX 3 v.2) (cond (N1 64 ((before.length:Nat):Int)) (LX 2 v.2) (Mj en Ax v.1)))
def Jq(en:Int):Nat->List Pt->Int->Rd (List Pt×Int)
 | 0,_,_=>λ_=>none
 | q+1,l,c=>Ct (QR en l c) λp=>Ol (l.length+1) (Om TO (Jq en q (l++[p.1]) p.2) (FT (l++[p.1],p.2)))
def LN(c p:Int):List Pt->List Pc->Rd (List Pc)
 | [],acc=>FT acc
 | x::xs,acc=>Li (SO c x.den) λz=>cond (DM 1000000 (BU x.num z)) (LX 2 p) (cond (DM (BU x.num z) (-1000000)) (LX 2 p) (Ol (acc.length+1) (LN c p xs (acc++[⟨x.fr,BU x.AH c,BU x.num z⟩]))))
inductive Ek where
 | ex | lv (i:Nat) | at_ | wd (t:Tk) | ca | ta
def TX(en:Int)(g:Ek->Rd Nd):Rd Nd:=Ct (I5 en QZ) λt=>Ct (I5 en TN) λ_=>Ct (g .ex) λa=>Ct (I5 en Rz) λ_=>Ct (λs=>Jq en (s.length+1) [] 1 s) λl=>Ct (I5 en VC) λe =>
 Ol l.1.length (Ct (LN l.2 e.AH l.1 []) λr=>FT ⟨18,bE,bE,0,0,0,0,⟨l.2,r⟩,[a],t.AH⟩)
def Ur(en:Int)(g:Ek->Rd Nd)(li:Rd (List Nd)):Rd Nd:=TQ en λt=>Ue<|Ct (I5 en TN) λ_=>Ct (g .ex) λa=>Ct (I5 en TO) λ_=>Ct li λl=>Ol (1+l.length)<|Ct (I5 en VC) λ_=>FT (Fo 17 t.text bE 0 (a::l) t.AH)
def V2(t:Tk):Rd Nd:=Ue (FT (Fo 14 t.text bE 0 [] t.AH))
def Rm(en:Int)(g:Ek->Rd Nd)(t:Tk):Rd Nd :=
 cond (B2 t.text.data.toList Y5.data.toList) (Ue (FT (Fo 11 bE G9 1 [] t.AH))) <|
 cond (B2 t.text.data.toList Tu.data.toList) (Ue (FT (Fo 11 bE G9 0 [] t.AH))) <|
 cond (B2 t.text.data.toList cA.data.toList) (Ue (Ct (LH en 1) λp=>FT (Fo 13 bE bE p.1 [] t.AH))) <|
 cond (B2 t.text.data.toList LP.data.toList) (V2 t)<|cond (B2 t.text.data.toList cJ.data.toList) (V2 t)<|cond (B2 t.text.data.toList QG.data.toList) (V2 t)<|cond (B2 t.text.data.toList Vd.data.toList) (V2 t) <|
 cond (B2 t.text.data.toList KS.data.toList) (g .ca)<|cond (B2 t.text.data.toList FU.data.toList) (g .ca)<|cond (B2 t.text.data.toList QZ.data.toList) (g .ta) <|
 cond (B2 t.text.data.toList TN.data.toList) (Ue (Ct (g .ex) λa=>Ct (I5 en VC) λ_=>FT a)) (LX 71 t.AH)
def V1(en:Int)(g:Ek->Rd Nd):Rd Nd:=TQ en λt =>
 cond (CS t.kind 3) (Ct (Mh en) λn=>Om amY (FT (Fo 11 bE JN n.1 [] n.2)) (FT (Fo 11 bE EF n.1 [] n.2)))
   (cond (CS t.kind 2) (Ue (Ct (Lb en ET) λa=>Li (Cz a) λc=>FT (Fo 11 bE t.text c [] t.AH)))
     (Li (Cw t) λb=>cond b (Ue (FT (Fo 12 t.text bE 0 [] t.AH))) (g (.wd t))))
def opsOf:Nat->List ByteArray
 | 0=>[jH]
 | 1=>[PJ]
 | 3=>[GO,H3,J9,G8,JB,FQ]
 | 4=>[Oi,Lh]
 | 5=>[Px,EC,gI]
 | _=>[]
def jG{β:Type}(yes:ByteArray->Rd β)(no:Rd β):List ByteArray->Rd β
 | []=>no
 | x::xs=>Om x (yes x) (jG yes no xs)
def Pz(en:Int)(sub:Rd Nd)(op:ByteArray)(l:Nd):Rd Nd:=Ct (cond (B2 op.data.toList EC.data.toList) (FK en) sub) λr=>Li (Bl op l r) λb=>FT b
def I4(en:Int)(ops:List ByteArray)(sub:Rd Nd):Nat->Nd->Rd Nd
 | 0,_=>λ_=>none
 | q+1,l=>jG (λop=>Ct (Pz en sub op l) λb=>I4 en ops sub q b) (FT l) ops
def MY(en:Int)(g:Ek->Rd Nd)(i:Nat):Rd Nd:=Ct (g (.lv (i+1))) λl s=>I4 en (opsOf i) (g (.lv (i+1))) (s.length+1) l s
def XO(en:Int)(g:Ek->Rd Nd):Rd Nd:=Ct (g (.lv 4)) λl=>jG (λop=>Pz en (g (.lv 4)) op l) (FT l) (opsOf 3)
def Wy(en:Int)(g:Ek->Rd Nd):Rd Nd:=λs=>cond (H9 Vy s) (Ct (I5 en Vy) (λt=>Ct (g (.lv 2)) λk=>FT (Fo 15 bE bE 0 [k] t.AH)) s) (g (.lv 3) s)
def Ou(en:Int)(g:Ek->Rd Nd)(li:Rd (List Nd)):Ek->Rd Nd
 | .ex=>g (.lv 0)
 | .lv 2=>Wy en g
 | .lv 3=>XO en g
 | .lv 6=>g .at_
 | .lv i=>MY en g i
 | .at_=>V1 en g
 | .wd t=>Rm en g t
 | .ca=>Ur en g li
 | .ta=>TX en g
def gP(en:Int):Nat->(Ek->Rd Nd)×Rd (List Nd)
 | 0=>(λ_ _=>none,λ_=>none)
 | q+1=>(Ou en (gP en q).1 (gP en q).2,Rh ((gP en q).1 .ex))
def IG(en:Int)(ex:Rd Nd)(kind:Int):Rd Nd:=TQ en λt=>Ue <|
 cond (CS kind 7) (Ct (Rh (FK en)) λl=>Ct (I5 en Rz) λ_=>FT (Fo kind bE bE 0 l t.AH)) (Ct ex λe=>Ct (I5 en Rz) λ_=>FT (Fo kind bE bE 0 [e] t.AH))
def Gq(en:Int)(ex:Rd Nd)(mk:List Nd->Nd):Nat->List Nd->Bool->Bool->Rd Nd
 | 0,_,_,_=>λ_=>none
 | q+1,l,un,am=>TQ en λt =>
   cond (B2 t.text.data.toList bK.data.toList) (Ct (IG en ex 6) λc=>Ol (l.length+1) (Gq en ex mk q (l++[c]) un am)) <|
   cond (B2 t.text.data.toList SH.data.toList) (cond un (LX 5 t.AH) (Ct (IG en ex 7) λc=>Ol (l.length+1) (Gq en ex mk q (l++[c]) true am))) <|
   cond (B2 t.text.data.toList Qq.data.toList) (cond am (LX 5 t.AH) (Ct (IG en ex 8) λc=>Ol (l.length+1) (Gq en ex mk q (l++[c]) un true))) <|
   cond (B2 t.text.data.toList ZF.data.toList) (cond am (Ue (FT (mk l))) (LX 71 t.AH)) (LX 71 t.AH)
def JG(en:Int)(ex:Rd Nd):Rd Nd:=Ct (I5 en He) λt=>Ct (LH en 1) λn=>Ct (I5 en abV) λ_=>Ct (Z8 en) λm=>Ct (Uz en) λh=>Ct (I5 en eA) λ_=>λs =>
 Gq en ex (λl=>Fo 4 m.text bE n.1 l t.AH) (s.length+1) [h] false false s
def NY(en:Int)(ex:Rd Nd):Rd Nd:=TQ en λt =>
 cond (B2 t.text.data.toList RX.data.toList) (OV en)<|cond (B2 t.text.data.toList N2.data.toList) (OV en)<|cond (B2 t.text.data.toList He.data.toList) (JG en ex) (LX 71 t.AH)
end Mo
end Go.Proofs.YtpbkhogolfegfaaGreatDoor
