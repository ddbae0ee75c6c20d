/- Part of a proof: see the last text. -/
import Derived.Test.YtpbkhogolfegfaaGreatDoorPiq
set_option linter.unusedVariables false
set_option linter.unusedSimpArgs false
set_option linter.defProp false
noncomputable section
namespace Go.Proofs.YtpbkhogolfegfaaGreatDoor
open AI Go
namespace Mo
set_option maxRecDepth 100000
set_option maxHeartbeats 4000000
variable {mx:Int}
def aGK:Code:=A0 Tryz.f145
def aID:Tryz.f145.body=some aGK:=by kernel_rfl
def GG(day:Int):Option Bool:=cond (Nv 0 day) (cond (Nv day 36524) (some true) (some false)) (some false)
def Kr{day:Int}{yR:Bool}(h:GG  day=some yR):Pure P (G mx) 145 [.zi day] (.zb yR):=by
 unfold GG at h;refine CN Hd.mixed Hd.Aa (Au Tryz.func145 aID ?_) (A1 rfl rfl) rfl;revert h;refine Ag (λAW=>?_) λAW=>?_;refine Ag (λhb2=>?_) λhb2=>?_;rintro⟨⟩;exact rT [pb AW,pb hb2];rintro⟨⟩;exact rT [pb AW,pb hb2];rintro⟨⟩;exact rT [pb AW]
def aFU:Code:=A0 Tryz.f102
def aHJ:Tryz.f102.body=some aFU:=by kernel_rfl
def Fp(c:Ck)(n:Nd)(depth:Int):Option (Bool×Int):=(CE c n depth).bind λ(Ej,Bj)=>cond Ej (cond (CV n.kind 5) (cond (Et n.n 0) (some (false,Bj)) (cond (Et 1000000 n.n) (some (false,Bj)) (cond (Et 0 ((n.kids.length:Nat):Int)) (some (false,Bj)) ((GG n.fr).bind λy2=>cond y2 (cond (Nv n.to n.fr) (some (false,Bj)) (cond (Et 36525 n.to) (some (false,Bj)) ((GG n.known).bind λy3=>cond y3 ((BZ n (⟨0,ByteArray.empty,ByteArray.empty,n.n,n.fr,n.to,n.known,(⟨0,[]⟩:Fn),[],0⟩:Nd)).bind λy4=>some (y4,Bj)) (some (false,Bj))))) (some (false,Bj)))))) (some (false,Bj))) (some (false,Bj))
def RI{c:Ck}{n:Nd}{depth:Int}{yR:Bool}{Ae:Int}(hS:Sound P (G mx) (.call 102 [.ptr 0 0,.agg (CP n),.zi depth] ⟨[(0,.cells (Jy c))],1,[],0⟩ (.ret (.zb yR)) ⟨[(0,.cells [.zi Ae])],1,[],0⟩))(u0:Nat)(PY:([u0]:List Nat).Nodup:=by decide)(PZ:([]:List Nat).Nodup:=by decide):Cd.ok P (G mx) (.E7 102 [.ptr u0 0,.agg (CP n),.zi depth] (.ret (.zb yR)) [(u0,.cells (Jy c))] [] [(u0,.cells [.zi Ae])] []) :=
 Ht (M:=[.cells (Jy c)]) (M2:=[.cells [.zi Ae]]) (T:=[]) (T2:=[]) (k:=1) (j:=0) Hd.Aa _ _ _ _ hS rfl rfl rfl rfl rfl PY PZ rfl rfl (.cons (.cells (.pl (Rr.pl c))) .nil) (.cons (.cells (.pl (A1 rfl rfl))) .nil) (.cons (.ptr (by decide)) (.cons (.pl (AE.Cp n)) (.cons (.pl rfl) .nil))) (.pl rfl) (λe he=>by simp only[List.mem_singleton] at he;subst he;exact(.arg (.here .ptr)))
def Pw{c:Ck}{n:Nd}{depth:Int}{yR:Bool}{Ae:Int}(h:Fp  c n depth=some (yR,Ae)):Sound P (G mx) (.call 102 [.ptr 0 0,.agg (CP n),.zi depth] ⟨[(0,.cells (Jy c))],1,[],0⟩ (.ret (.zb yR)) ⟨[(0,.cells [.zi Ae])],1,[],0⟩):=by
 unfold Fp at h;refine BW Hd.mixed (Au Tryz.func102 aHJ ?_);revert h;refine Aq ?_;rintro⟨Ej,Bj⟩ B7;dsimp only;let o1:List (PC P (G mx)):=[Af (Fq (En B7) 0)];refine Ag (λhv=>?_) λhv=>?_;subst hv;refine Ag (λAW=>?_) λAW=>?_;refine Ag (λhb2=>?_) λhb2=>?_;rintro⟨⟩;exact Aw Hd.Aa _ _ [] [none] (Ac 300 (o1++[pn AW,pb hb2])) (by kernel_rfl) .body;let o2:List (PC P (G mx)):=o1++[pn AW,pb hb2];refine Ag (λhb3=>?_) λhb3=>?_;rintro⟨⟩;exact Aw Hd.Aa _ _ [] [none] (Ac 300 (o2++[pb hb3])) (by kernel_rfl) .body;refine Ag (λFe=>?_) λFe=>?_;rintro⟨⟩;exact Aw Hd.Aa _ _ [] [none] (Ac 300 (o2++[pb hb3,pb Fe])) (by kernel_rfl) .body;refine Aq λy2 D1=>?_;let o3:List (PC P (G mx)):=o2++[pb hb3,pb Fe,AG (Kr D1)];refine Ag (λhv=>?_) λhv=>?_;subst hv;refine Ag (λHw=>?_) λHw=>?_;rintro⟨⟩;exact Aw Hd.Aa _ _ [] [none] (Ac 300 (o3++[pb Hw])) (by kernel_rfl) .body;refine Ag (λIG=>?_) λIG=>?_;rintro⟨⟩;exact Aw Hd.Aa _ _ [] [none] (Ac 300 (o3++[pb Hw,pb IG])) (by kernel_rfl) .body;refine Aq λy3 Fl=>?_;refine Ag (λhv=>?_) λhv=>?_;subst hv;refine Aq λy4 JM=>?_;rintro⟨⟩;exact Aw Hd.Aa _ _ [] [none] (Ac 300 (o3++[pb Hw,pb IG,AG (Kr Fl),GO (.r (.g (.r (.r (.r (.r (.r (.r (.r (.r (.z (.z (.r .nil))))))))))) .nil)) (BV JM)])) (by kernel_rfl) .body;subst hv;rintro⟨⟩;exact Aw Hd.Aa _ _ [] [none] (Ac 300 (o3++[pb Hw,pb IG,AG (Kr Fl)])) (by kernel_rfl) .body;subst hv;rintro⟨⟩;exact Aw Hd.Aa _ _ [] [none] (Ac 300 o3) (by kernel_rfl) .body;rintro⟨⟩;exact Aw Hd.Aa _ _ [] [none] (Ac 300 (o1++[pn AW])) (by kernel_rfl) .body;subst hv;rintro⟨⟩;exact Aw Hd.Aa _ _ [] [none] (Ac 300 o1) (by kernel_rfl) .body
def F7(depth:Int)(i0:Nat)(e0:Nd)(E6:Int):Option (Lp Int Int (Bool×Int)):=(FT (⟨E6⟩:Ck) e0 depth).bind λ(Ej,Bj)=>cond Ej (some (.nx Bj)) (some (.rt (false,Bj)))
def EH(c:Ck)(list:(List Nd))(depth:Int):Option (Bool×Int):=(Rt list.length (CL (λi y x=>F7  depth i y x) (λx=>x) (list.drop 0) 0 c.nodes)).bind (LZ (λ(OE:Int)=>some (true,OE)) (λv=>some v))
def NA{c:Ck}{list:(List Nd)}{depth:Int}{yR:Bool}{Ae:Int}(hS:Sound P (G mx) (.call 55 [.ptr 0 0,.sl .lost list.length (BH list),.zi depth,.fn (.func 144) [.ptr 0 0] []] ⟨[(0,.cells (Jy c))],1,[],0⟩ (.ret (.zb yR)) ⟨[(0,.cells [.zi Ae])],1,[],0⟩))(u0:Nat)(PY:([u0]:List Nat).Nodup:=by decide)(PZ:([]:List Nat).Nodup:=by decide):Cd.ok P (G mx) (.E7 55 [.ptr u0 0,.sl .lost list.length (BH list),.zi depth,.fn (.func 144) [.ptr u0 0] []] (.ret (.zb yR)) [(u0,.cells (Jy c))] [] [(u0,.cells [.zi Ae])] []) :=
 Ht (M:=[.cells (Jy c)]) (M2:=[.cells [.zi Ae]]) (T:=[]) (T2:=[]) (k:=1) (j:=0) Hd.Aa _ _ _ _ hS rfl rfl rfl rfl rfl PY PZ rfl rfl (.cons (.cells (.pl (Rr.pl c))) .nil) (.cons (.cells (.pl (A1 rfl rfl))) .nil) (.cons (.ptr (by decide)) (.cons (.pl (AE.Ky list)) (.cons (.pl rfl) (.cons (.fn (.cons (.ptr (by decide)) .nil) (.pl rfl)) .nil)))) (.pl rfl) (λe he=>by simp only[List.mem_singleton] at he;subst he;exact(.arg (.here .ptr)))
def Mc{c:Ck}{list:(List Nd)}{depth:Int}{yR:Bool}{Ae:Int}(h:EH  c list depth=some (yR,Ae)):Sound P (G mx) (.call 55 [.ptr 0 0,.sl .lost list.length (BH list),.zi depth,.fn (.func 144) [.ptr 0 0] []] ⟨[(0,.cells (Jy c))],1,[],0⟩ (.ret (.zb yR)) ⟨[(0,.cells [.zi Ae])],1,[],0⟩):=by
 unfold EH at h;refine BW Hd.mixed (Au Tryz.func55 b55 ?_);revert h;refine RF (λQ v=>RE P (G mx) Tryz.f55 1 ⟨[(0,.cells (Jy c))],1,[],0⟩ Q (.zb v.1) ⟨[(0,.cells [.zi v.2])],1,[],0⟩) (λi0 (E6:Int) (j0:List Value)=>fr 23 [(2,.zi depth),(3,.fn (.func 144) [.ptr 0 0] []),(11,.sl .lost list.length (BH list)),(12,.zi ((list.length:Nat):Int)),(13,.zi ((i0:Nat):Int))] [8,14,20,21] j0) (λ(E6:Int)=>⟨[(0,.cells [.zi E6])],1,[],0⟩) (λ(E6:Int) (jx:List Value)=>fr 23 [] [8,14,20,21] jx) (λ(E6:Int)=>⟨[(0,.cells [.zi E6])],1,[],0⟩) [bF] (G4 [] 0 (sb B55 52) [.code (sb B55 7)] (Ac 300 []) (by kernel_rfl)) ?_ ?_ ?_ (λv h=>by cases h;exact .outer .body);rintro i0 E6 j0 hge hq;exact Dx (Ac 300 [pb (gM hge)]) (by kernel_rfl) (hq (js 4 j0 [(1,bF)]));rintro i0 e0 E6 j0 r PX OU PK k;show F7  depth i0 e0 E6=some r->_;unfold F7;refine Aq ?_;rintro⟨Ej,Bj⟩ B7;dsimp only;let o1:List (PC P (G mx)):=[pb (Xo OU),Jp (J7 .lost PX),Af (K5 (Py B7) 0)];refine Ag (λhv=>?_) λhv=>?_;subst hv;rintro⟨⟩;exact H3 Hd.Aa [fq (AE.Ky list)] [none] (Ac 300 (o1++[pi PK])) (by kernel_rfl) (k [(jv j0 0),bT,bT,bF]);subst hv;rintro⟨⟩;exact Aw Hd.Aa _ _ [] [none] (Ac 300 o1) (by kernel_rfl) (.Gb k);rintro OE jI;rintro⟨⟩;exact Aw Hd.Aa _ _ [] [none] (IN 300 []) (by kernel_rfl) .body
def aFV:Code:=A0 Tryz.f103
def aHK:Tryz.f103.body=some aFV:=by kernel_rfl
def DJ(c:Ck)(n:Nd)(depth:Int):Option (Bool×Int):=(CE c n depth).bind λ(Ej,Bj)=>cond Ej ((BZ n (⟨0,ByteArray.empty,ByteArray.empty,0,0,0,0,(⟨0,[]⟩:Fn),[],0⟩:Nd)).bind λy2=>cond y2 (cond (CV n.kind 7) (cond (Et 0 ((n.kids.length:Nat):Int)) ((EH (⟨Bj⟩:Ck) n.kids (Bt depth 1)).bind λ(LX,E3)=>some (LX,E3)) (some (false,Bj))) (cond (CV ((n.kids.length:Nat):Int) 1) ((n.kids[0]?).bind λx4=>(GX (⟨Bj⟩:Ck) x4 (Bt depth 1)).bind λ(Nb,G7)=>some (Nb,G7)) (some (false,Bj)))) (some (false,Bj))) (some (false,Bj))
def Qb{c:Ck}{n:Nd}{depth:Int}{yR:Bool}{Ae:Int}(hS:Sound P (G mx) (.call 103 [.ptr 0 0,.agg (CP n),.zi depth] ⟨[(0,.cells (Jy c))],1,[],0⟩ (.ret (.zb yR)) ⟨[(0,.cells [.zi Ae])],1,[],0⟩))(u0:Nat)(PY:([u0]:List Nat).Nodup:=by decide)(PZ:([]:List Nat).Nodup:=by decide):Cd.ok P (G mx) (.E7 103 [.ptr u0 0,.agg (CP n),.zi depth] (.ret (.zb yR)) [(u0,.cells (Jy c))] [] [(u0,.cells [.zi Ae])] []) :=
 Ht (M:=[.cells (Jy c)]) (M2:=[.cells [.zi Ae]]) (T:=[]) (T2:=[]) (k:=1) (j:=0) Hd.Aa _ _ _ _ hS rfl rfl rfl rfl rfl PY PZ rfl rfl (.cons (.cells (.pl (Rr.pl c))) .nil) (.cons (.cells (.pl (A1 rfl rfl))) .nil) (.cons (.ptr (by decide)) (.cons (.pl (AE.Cp n)) (.cons (.pl rfl) .nil))) (.pl rfl) (λe he=>by simp only[List.mem_singleton] at he;subst he;exact(.arg (.here .ptr)))
def Oc{c:Ck}{n:Nd}{depth:Int}{yR:Bool}{Ae:Int}(h:DJ  c n depth=some (yR,Ae)):Sound P (G mx) (.call 103 [.ptr 0 0,.agg (CP n),.zi depth] ⟨[(0,.cells (Jy c))],1,[],0⟩ (.ret (.zb yR)) ⟨[(0,.cells [.zi Ae])],1,[],0⟩):=by
 unfold DJ at h;refine BW Hd.mixed (Au Tryz.func103 aHK ?_);revert h;refine Aq ?_;rintro⟨Ej,Bj⟩ B7;dsimp only;let o1:List (PC P (G mx)):=[Af (Fq (En B7) 0)];refine Ag (λhv=>?_) λhv=>?_;subst hv;refine Aq λy2 D1=>?_;let o2:List (PC P (G mx)):=o1++[GO (.r (.g (.r (.r (.r (.r (.r (.r (.r (.r (.z (.z (.r .nil))))))))))) .nil)) (BV D1)];refine Ag (λhv=>?_) λhv=>?_;subst hv;refine Ag (λAW=>?_) λAW=>?_;refine Ag (λhb2=>?_) λhb2=>?_;refine Aq ?_;rintro⟨LX,E3⟩ Fl;dsimp only;rintro⟨⟩;exact Aw Hd.Aa _ _ [] [none] (Ac 300 (o2++[pb AW,pb hb2,pk,Af (NA (Mc Fl) 0)])) (by kernel_rfl) .body;rintro⟨⟩;exact Aw Hd.Aa _ _ [] [none] (Ac 300 (o2++[pb AW,pb hb2])) (by kernel_rfl) .body;refine Ag (λhb3=>?_) λhb3=>?_;refine Aq λx4 hx4=>?_;refine Aq ?_;rintro⟨Nb,G7⟩ J6;dsimp only;rintro⟨⟩;exact Aw Hd.Aa _ _ [] [none] (Ac 300 (o2++[pb AW,pb hb3,Jp (J7 .lost hx4),pk,Af (Bh (Lx J6) 0)])) (by kernel_rfl) .body;rintro⟨⟩;exact Aw Hd.Aa _ _ [] [none] (Ac 300 (o2++[pb AW,pb hb3])) (by kernel_rfl) .body;subst hv;rintro⟨⟩;exact Aw Hd.Aa _ _ [] [none] (Ac 300 o2) (by kernel_rfl) .body;subst hv;rintro⟨⟩;exact Aw Hd.Aa _ _ [] [none] (Ac 300 o1) (by kernel_rfl) .body
def F6(depth:Int)(i0:Nat)(e0:Nd)(E6:Int):Option (Lp Int Int (Bool×Int)):=(DJ (⟨E6⟩:Ck) e0 depth).bind λ(Ej,Bj)=>cond Ej (some (.nx Bj)) (some (.rt (false,Bj)))
def EG(c:Ck)(list:(List Nd))(depth:Int):Option (Bool×Int):=(Rt list.length (CL (λi y x=>F6  depth i y x) (λx=>x) (list.drop 0) 0 c.nodes)).bind (LZ (λ(OE:Int)=>some (true,OE)) (λv=>some v))
def Nz{c:Ck}{list:(List Nd)}{depth:Int}{yR:Bool}{Ae:Int}(hS:Sound P (G mx) (.call 55 [.ptr 0 0,.sl .lost list.length (BH list),.zi depth,.fn (.func 103) [.ptr 0 0] []] ⟨[(0,.cells (Jy c))],1,[],0⟩ (.ret (.zb yR)) ⟨[(0,.cells [.zi Ae])],1,[],0⟩))(u0:Nat)(PY:([u0]:List Nat).Nodup:=by decide)(PZ:([]:List Nat).Nodup:=by decide):Cd.ok P (G mx) (.E7 55 [.ptr u0 0,.sl .lost list.length (BH list),.zi depth,.fn (.func 103) [.ptr u0 0] []] (.ret (.zb yR)) [(u0,.cells (Jy c))] [] [(u0,.cells [.zi Ae])] []) :=
 Ht (M:=[.cells (Jy c)]) (M2:=[.cells [.zi Ae]]) (T:=[]) (T2:=[]) (k:=1) (j:=0) Hd.Aa _ _ _ _ hS rfl rfl rfl rfl rfl PY PZ rfl rfl (.cons (.cells (.pl (Rr.pl c))) .nil) (.cons (.cells (.pl (A1 rfl rfl))) .nil) (.cons (.ptr (by decide)) (.cons (.pl (AE.Ky list)) (.cons (.pl rfl) (.cons (.fn (.cons (.ptr (by decide)) .nil) (.pl rfl)) .nil)))) (.pl rfl) (λe he=>by simp only[List.mem_singleton] at he;subst he;exact(.arg (.here .ptr)))
def Mb{c:Ck}{list:(List Nd)}{depth:Int}{yR:Bool}{Ae:Int}(h:EG  c list depth=some (yR,Ae)):Sound P (G mx) (.call 55 [.ptr 0 0,.sl .lost list.length (BH list),.zi depth,.fn (.func 103) [.ptr 0 0] []] ⟨[(0,.cells (Jy c))],1,[],0⟩ (.ret (.zb yR)) ⟨[(0,.cells [.zi Ae])],1,[],0⟩):=by
 unfold EG at h;refine BW Hd.mixed (Au Tryz.func55 b55 ?_);revert h;refine RF (λQ v=>RE P (G mx) Tryz.f55 1 ⟨[(0,.cells (Jy c))],1,[],0⟩ Q (.zb v.1) ⟨[(0,.cells [.zi v.2])],1,[],0⟩) (λi0 (E6:Int) (j0:List Value)=>fr 23 [(2,.zi depth),(3,.fn (.func 103) [.ptr 0 0] []),(11,.sl .lost list.length (BH list)),(12,.zi ((list.length:Nat):Int)),(13,.zi ((i0:Nat):Int))] [8,14,20,21] j0) (λ(E6:Int)=>⟨[(0,.cells [.zi E6])],1,[],0⟩) (λ(E6:Int) (jx:List Value)=>fr 23 [] [8,14,20,21] jx) (λ(E6:Int)=>⟨[(0,.cells [.zi E6])],1,[],0⟩) [bF] (G4 [] 0 (sb B55 52) [.code (sb B55 7)] (Ac 300 []) (by kernel_rfl)) ?_ ?_ ?_ (λv h=>by cases h;exact .outer .body);rintro i0 E6 j0 hge hq;exact Dx (Ac 300 [pb (gM hge)]) (by kernel_rfl) (hq (js 4 j0 [(1,bF)]));rintro i0 e0 E6 j0 r PX OU PK k;show F6  depth i0 e0 E6=some r->_;unfold F6;refine Aq ?_;rintro⟨Ej,Bj⟩ B7;dsimp only;let o1:List (PC P (G mx)):=[pb (Xo OU),Jp (J7 .lost PX),Af (Qb (Oc B7) 0)];refine Ag (λhv=>?_) λhv=>?_;subst hv;rintro⟨⟩;exact H3 Hd.Aa [fq (AE.Ky list)] [none] (Ac 300 (o1++[pi PK])) (by kernel_rfl) (k [(jv j0 0),bT,bT,bF]);subst hv;rintro⟨⟩;exact Aw Hd.Aa _ _ [] [none] (Ac 300 o1) (by kernel_rfl) (.Gb k);rintro OE jI;rintro⟨⟩;exact Aw Hd.Aa _ _ [] [none] (IN 300 []) (by kernel_rfl) .body
def B56:Code:=A0 Tryz.f56
def b56:Tryz.f56.body=some B56:=by kernel_rfl
def D3(Bj:Int)(i0:Nat)(e0:Nd)(CX:Int)(CY:Int)(BP:Int):Option (Lp (Int×Int×Int) (Int×Int×Int) (Bool×Int)):=cond (Et e0.kind 6) (some (.rt (false,Bj))) (cond (Et 8 e0.kind) (some (.rt (false,Bj))) (cond (CV e0.kind 6) (some (.nx ((Bt CX 1),CY,BP))) (cond (CV e0.kind 7) (some (.nx (CX,(Bt CY 1),BP))) (cond (CV e0.kind 8) (some (.nx (CX,CY,(Bt BP 1)))) (none)))))
def Eg(c:Ck)(n:Nd)(depth:Int):Option (Bool×Int):=(CE c n depth).bind λ(Ej,Bj)=>cond Ej (cond (CV n.kind 2) ((Ed n.name).bind λy2=>cond y2 ((EN n.unit).bind λy3=>cond y3 (cond (CV ((n.kids.length:Nat):Int) 0) ((BZ n (⟨0,n.name,n.unit,0,0,0,0,(⟨0,[]⟩:Fn),[],0⟩:Nd)).bind λy4=>some (y4,Bj)) (some (false,Bj))) (some (false,Bj))) (some (false,Bj))) (cond (CV n.kind 3) ((Ed n.name).bind λy5=>cond y5 ((EN n.unit).bind λy6=>cond y6 (cond (Nv 1 n.n) (cond (Nv n.n 4) (cond (CV ((n.kids.length:Nat):Int) 0) ((BZ n (⟨0,n.name,n.unit,n.n,0,0,0,(⟨0,[]⟩:Fn),[],0⟩:Nd)).bind λy7=>some (y7,Bj)) (some (false,Bj))) (some (false,Bj))) (some (false,Bj))) (some (false,Bj))) (some (false,Bj))) (cond (CV n.kind 4) ((DT n.n).bind λy8=>cond y8 ((Ed n.name).bind λy9=>cond y9 ((BZ n (⟨0,n.name,ByteArray.empty,n.n,0,0,0,(⟨0,[]⟩:Fn),[],0⟩:Nd)).bind λzG=>cond zG (cond (CV ((n.kids.length:Nat):Int) 0) (some (false,Bj)) ((ahM n.kids 1 ((n.kids.length:Nat):Int)).bind λl11=>(Rt l11.length (CL (λi y x=>D3  Bj i y x.1 x.2.1 x.2.2) (λx=>(x.1,x.2.1,x.2.2)) (l11.drop 0) 0 (0,0,0))).bind (LZ (λ((arN,uW,uX):(Int×Int×Int))=>cond (CV uX 1) (cond (Et 1 uW) (some (false,Bj)) ((n.kids[0]?).bind λx13=>(Fp (⟨Bj⟩:Ck) x13 (Bt depth 1)).bind λ(fV,Un)=>cond fV ((EG (⟨Un⟩:Ck) l11 (Bt depth 1)).bind λ(fW,Rh)=>some (fW,Rh)) (some (false,Un)))) (some (false,Bj))) (λv=>some v)))) (some (false,Bj))) (some (false,Bj))) (some (false,Bj))) (some (false,Bj))))) (some (false,Bj))
def RJ{c:Ck}{n:Nd}{depth:Int}{yR:Bool}{Ae:Int}(hS:Sound P (G mx) (.call 56 [.ptr 0 0,.agg (CP n),.zi depth] ⟨[(0,.cells (Jy c))],1,[],0⟩ (.ret (.zb yR)) ⟨[(0,.cells [.zi Ae])],1,[],0⟩))(u0:Nat)(PY:([u0]:List Nat).Nodup:=by decide)(PZ:([]:List Nat).Nodup:=by decide):Cd.ok P (G mx) (.E7 56 [.ptr u0 0,.agg (CP n),.zi depth] (.ret (.zb yR)) [(u0,.cells (Jy c))] [] [(u0,.cells [.zi Ae])] []) :=
 Ht (M:=[.cells (Jy c)]) (M2:=[.cells [.zi Ae]]) (T:=[]) (T2:=[]) (k:=1) (j:=0) Hd.Aa _ _ _ _ hS rfl rfl rfl rfl rfl PY PZ rfl rfl (.cons (.cells (.pl (Rr.pl c))) .nil) (.cons (.cells (.pl (A1 rfl rfl))) .nil) (.cons (.ptr (by decide)) (.cons (.pl (AE.Cp n)) (.cons (.pl rfl) .nil))) (.pl rfl) (λe he=>by simp only[List.mem_singleton] at he;subst he;exact(.arg (.here .ptr)))
def Px{c:Ck}{n:Nd}{depth:Int}{yR:Bool}{Ae:Int}(h:Eg  c n depth=some (yR,Ae)):Sound P (G mx) (.call 56 [.ptr 0 0,.agg (CP n),.zi depth] ⟨[(0,.cells (Jy c))],1,[],0⟩ (.ret (.zb yR)) ⟨[(0,.cells [.zi Ae])],1,[],0⟩):=by
 unfold Eg at h;refine BW Hd.mixed (Au Tryz.func56 b56 ?_);revert h;refine Aq ?_;rintro⟨Ej,Bj⟩ B7;dsimp only;let o1:List (PC P (G mx)):=[Af (Fq (En B7) 0)];refine Ag (λhv=>?_) λhv=>?_;subst hv;refine Ag (λAW=>?_) λAW=>?_;refine Aq λy2 D1=>?_;let o2:List (PC P (G mx)):=o1++[pb AW,AG (Hj D1)];refine Ag (λhv=>?_) λhv=>?_;subst hv;refine Aq λy3 Fl=>?_;refine Ag (λhv=>?_) λhv=>?_;subst hv;refine Ag (λhb2=>?_) λhb2=>?_;refine Aq λy4 JM=>?_;rintro⟨⟩;exact Aw Hd.Aa _ _ [] [none] (Ac 300 (o2++[AG (FK Fl),pb hb2,GO (.r (.g (.r (.r (.r (.r (.r (.r (.r (.r (.z (.z (.r .nil))))))))))) .nil)) (BV JM)])) (by kernel_rfl) .body;rintro⟨⟩;exact Aw Hd.Aa _ _ [] [none] (Ac 300 (o2++[AG (FK Fl),pb hb2])) (by kernel_rfl) .body;subst hv;rintro⟨⟩;exact Aw Hd.Aa _ _ [] [none] (Ac 300 (o2++[AG (FK Fl)])) (by kernel_rfl) .body;subst hv;rintro⟨⟩;exact Aw Hd.Aa _ _ [] [none] (Ac 300 o2) (by kernel_rfl) .body;let o3:List (PC P (G mx)):=o1++[pb AW];refine Ag (λhb3=>?_) λhb3=>?_;refine Aq λy5 J6=>?_;let o4:List (PC P (G mx)):=o3++[pb hb3,AG (Hj J6)];refine Ag (λhv=>?_) λhv=>?_;subst hv;refine Aq λy6 LS=>?_;let o5:List (PC P (G mx)):=o4++[AG (FK LS)];refine Ag (λhv=>?_) λhv=>?_;subst hv;refine Ag (λFe=>?_) λFe=>?_;refine Ag (λHw=>?_) λHw=>?_;refine Ag (λIG=>?_) λIG=>?_;refine Aq λy7 RU=>?_;rintro⟨⟩;exact Aw Hd.Aa _ _ [] [none] (Ac 300 (o5++[pb Fe,pb Hw,pb IG,GO (.r (.g (.r (.r (.r (.r (.r (.r (.r (.r (.z (.z (.r .nil))))))))))) .nil)) (BV RU)])) (by kernel_rfl) .body;rintro⟨⟩;exact Aw Hd.Aa _ _ [] [none] (Ac 300 (o5++[pb Fe,pb Hw,pb IG])) (by kernel_rfl) .body;rintro⟨⟩;exact Aw Hd.Aa _ _ [] [none] (Ac 300 (o5++[pb Fe,pb Hw])) (by kernel_rfl) .body;rintro⟨⟩;exact Aw Hd.Aa _ _ [] [none] (Ac 300 (o5++[pb Fe])) (by kernel_rfl) .body;subst hv;rintro⟨⟩;exact Aw Hd.Aa _ _ [] [none] (Ac 300 o5) (by kernel_rfl) .body;subst hv;rintro⟨⟩;exact Aw Hd.Aa _ _ [] [none] (Ac 300 o4) (by kernel_rfl) .body;refine Ag (λI4=>?_) λI4=>?_;refine Aq λy8 NP=>?_;let o6:List (PC P (G mx)):=o3++[pb hb3,pb I4,AG (GY NP)];refine Ag (λhv=>?_) λhv=>?_;subst hv;refine Aq λy9 UR=>?_;let o7:List (PC P (G mx)):=o6++[AG (Hj UR)];refine Ag (λhv=>?_) λhv=>?_;subst hv;refine Aq λzG P0=>?_;let o8:List (PC P (G mx)):=o7++[GO (.r (.g (.r (.r (.r (.r (.r (.r (.r (.r (.z (.z (.r .nil))))))))))) .nil)) (BV P0)];refine Ag (λhv=>?_) λhv=>?_;subst hv;refine Ag (λKp=>?_) λKp=>?_;rintro⟨⟩;exact Aw Hd.Aa _ _ [] [none] (Ac 300 (o8++[pb Kp])) (by kernel_rfl) .body;refine Aq λl11 aCL=>?_;refine RF (λQ v=>RE P (G mx) Tryz.f56 1 ⟨[(0,.cells (Jy c))],1,[],0⟩ Q (.zb v.1) ⟨[(0,.cells [.zi v.2])],1,[],0⟩) (λi0 ((CX,CY,BP):(Int×Int×Int)) (j0:List Value)=>fr 158 [(0,.ptr 0 0),(2,.zi depth),(4,.ptr 1 0),(7,.ptr 2 0),(110,.sl .lost l11.length (BH l11)),(111,.zi ((l11.length:Nat):Int)),(112,.zi ((i0:Nat):Int))] [6,13,14,17,18,21,22,25,26,27,31,32,33,40,41,42,43,46,47,50,51,52,55,56,57,60,61,62,66,67,68,77,78,79,80,83,84,85,88,89,90,91,98,99,100,101,105,106,113,118,119,122,123,133,134,137,138,146,147,156,157] j0) (λ((CX,CY,BP):(Int×Int×Int))=>⟨[(2,.cells [.zi 0,.zi 0,.zi 0,.zi 0,.zi 0,.zi 0,.zi CX,.zi CY,.zi BP]),(1,.cells (CP n)),(0,.cells [.zi Bj])],3,[],0⟩) (λ((CX,CY,BP):(Int×Int×Int)) (jx:List Value)=>fr 158 [(0,.ptr 0 0),(2,.zi depth),(4,.ptr 1 0),(7,.ptr 2 0)] [6,13,14,17,18,21,22,25,26,27,31,32,33,40,41,42,43,46,47,50,51,52,55,56,57,60,61,62,66,67,68,77,78,79,80,83,84,85,88,89,90,91,98,99,100,101,105,106,113,118,119,122,123,133,134,137,138,146,147,156,157] jx) (λ((CX,CY,BP):(Int×Int×Int))=>⟨[(2,.cells [.zi 0,.zi 0,.zi 0,.zi 0,.zi 0,.zi 0,.zi CX,.zi CY,.zi BP]),(1,.cells (CP n)),(0,.cells [.zi Bj])],3,[],0⟩) [bF,bT,bF,bF,bF,undef,undef,undef,undef,undef,undef,undef,undef,undef,undef,bF,bF,undef,undef,undef,undef,undef,undef,undef,undef,undef,undef,undef,undef,undef,undef,undef,undef,bT,bT,bT,bF,bF,bT,bF,bF,bF,bT,bF,bF,bF,bF,bF] (G4 [] 1 (sb B56 241588) [.code (sb B56 30199),.iN 0,.code (sb B56 15)] (Ac 300 (o8++[pb Kp,OO (uE aCL)])) (by kernel_rfl)) ?_ ?_ ?_ (λv h=>by cases h;exact .outer .body);rintro i0 ⟨CX,CY,BP⟩ j0 hge hq;exact Dx (Ac 300 [pb (gM hge)]) (by kernel_rfl) (hq (js 61 j0 [(48,bF)]));rintro i0 e0 ⟨CX,CY,BP⟩ j0 r PX OU PK k;show D3  Bj i0 e0 CX CY BP=some r->_;unfold D3;let o9:List (PC P (G mx)):=[pb (Xo OU),Jp (J7 .lost PX)];refine Ag (λKi=>?_) λKi=>?_;rintro⟨⟩;exact Aw Hd.Aa _ _ [] [none] (Ac 300 (o9++[pb Ki])) (by kernel_rfl) (.Gb k);refine Ag (λGI=>?_) λGI=>?_;rintro⟨⟩;exact Aw Hd.Aa _ _ [] [none] (Ac 300 (o9++[pb Ki,pb GI])) (by kernel_rfl) (.Gb k);refine Ag (λIS=>?_) λIS=>?_;rintro⟨⟩;exact H3 Hd.Aa [fq (AE.Ky l11)] [none,bp (AE.pl n),none] (Ac 300 (o9++[pb Ki,pb GI,Jp (t:=116) (a:=.ptr 2 0) (b:=.zi e0.kind) (v:=.ptr 2 6) (by rw[E8 IS];kernel_rfl),pk,Jp (t:=116) (a:=.ptr 2 0) (b:=.zi e0.kind) (v:=.ptr 2 6) (by rw[E8 IS];kernel_rfl),pi PK])) (by kernel_rfl) (k (js 61 j0 [(48,bT),(49,bF),(50,bF),(51,bF),(52,bF)]));refine Ag (λJz=>?_) λJz=>?_;rintro⟨⟩;exact H3 Hd.Aa [fq (AE.Ky l11)] [none,bp (AE.pl n),none] (Ac 300 (o9++[pb Ki,pb GI,Jp (t:=116) (a:=.ptr 2 0) (b:=.zi e0.kind) (v:=.ptr 2 7) (by rw[E8 Jz];kernel_rfl),pk,Jp (t:=116) (a:=.ptr 2 0) (b:=.zi e0.kind) (v:=.ptr 2 7) (by rw[E8 Jz];kernel_rfl),pi PK])) (by kernel_rfl) (k (js 61 j0 [(48,bT),(49,bF),(50,bF),(51,bF),(52,bF)]));refine Ag (λJA=>?_) λJA=>?_;rintro⟨⟩;exact H3 Hd.Aa [fq (AE.Ky l11)] [none,bp (AE.pl n),none] (Ac 300 (o9++[pb Ki,pb GI,Jp (t:=116) (a:=.ptr 2 0) (b:=.zi e0.kind) (v:=.ptr 2 8) (by rw[E8 JA];kernel_rfl),pk,Jp (t:=116) (a:=.ptr 2 0) (b:=.zi e0.kind) (v:=.ptr 2 8) (by rw[E8 JA];kernel_rfl),pi PK])) (by kernel_rfl) (k (js 61 j0 [(48,bT),(49,bF),(50,bF),(51,bF),(52,bF)]));exact eR;rintro⟨arN,uW,uX⟩ aDE;dsimp only;refine Ag (λKR=>?_) λKR=>?_;refine Ag (λLf=>?_) λLf=>?_;rintro⟨⟩;exact Aw Hd.Aa _ _ [] [none] (IN 300 [pk,pn KR,pk,pb Lf]) (by kernel_rfl) .body;refine Aq λx13 awT=>?_;refine Aq ?_;rintro⟨fV,Un⟩ VM;dsimp only;let gN:List (PC P (G mx)):=[pk,pn KR,pk,pb Lf,Jp (J7 .lost awT),pk,Af (RI (Pw VM) 0)];refine Ag (λhv=>?_) λhv=>?_;subst hv;refine Aq ?_;rintro⟨fW,Rh⟩ YE;dsimp only;rintro⟨⟩;exact Aw Hd.Aa _ _ [] [none] (IN 300 (gN++[OO (uE aCL),pk,Af (Nz (Mb YE) 0)])) (by kernel_rfl) .body;subst hv;rintro⟨⟩;exact Aw Hd.Aa _ _ [] [none] (IN 300 gN) (by kernel_rfl) .body;rintro⟨⟩;exact Aw Hd.Aa _ _ [] [none] (IN 300 [pk,pn KR]) (by kernel_rfl) .body;subst hv;rintro⟨⟩;exact Aw Hd.Aa _ _ [] [none] (Ac 300 o8) (by kernel_rfl) .body;subst hv;rintro⟨⟩;exact Aw Hd.Aa _ _ [] [none] (Ac 300 o7) (by kernel_rfl) .body;subst hv;rintro⟨⟩;exact Aw Hd.Aa _ _ [] [none] (Ac 300 o6) (by kernel_rfl) .body;rintro⟨⟩;exact Aw Hd.Aa _ _ [] [none] (Ac 300 (o3++[pb hb3,pb I4])) (by kernel_rfl) .body;subst hv;rintro⟨⟩;exact Aw Hd.Aa _ _ [] [none] (Ac 300 o1) (by kernel_rfl) .body
def GK(depth:Int)(i0:Nat)(e0:Nd)(E6:Int):Option (Lp Int Int (Bool×Int)):=(Eg (⟨E6⟩:Ck) e0 depth).bind λ(Ej,Bj)=>cond Ej (some (.nx Bj)) (some (.rt (false,Bj)))
def Fh(c:Ck)(list:(List Nd))(depth:Int):Option (Bool×Int):=(Rt list.length (CL (λi y x=>GK  depth i y x) (λx=>x) (list.drop 0) 0 c.nodes)).bind (LZ (λ(OE:Int)=>some (true,OE)) (λv=>some v))
def OJ{c:Ck}{list:(List Nd)}{depth:Int}{yR:Bool}{Ae:Int}(hS:Sound P (G mx) (.call 55 [.ptr 0 0,.sl .lost list.length (BH list),.zi depth,.fn (.func 56) [.ptr 0 0] []] ⟨[(0,.cells (Jy c))],1,[],0⟩ (.ret (.zb yR)) ⟨[(0,.cells [.zi Ae])],1,[],0⟩))(u0:Nat)(PY:([u0]:List Nat).Nodup:=by decide)(PZ:([]:List Nat).Nodup:=by decide):Cd.ok P (G mx) (.E7 55 [.ptr u0 0,.sl .lost list.length (BH list),.zi depth,.fn (.func 56) [.ptr u0 0] []] (.ret (.zb yR)) [(u0,.cells (Jy c))] [] [(u0,.cells [.zi Ae])] []) :=
 Ht (M:=[.cells (Jy c)]) (M2:=[.cells [.zi Ae]]) (T:=[]) (T2:=[]) (k:=1) (j:=0) Hd.Aa _ _ _ _ hS rfl rfl rfl rfl rfl PY PZ rfl rfl (.cons (.cells (.pl (Rr.pl c))) .nil) (.cons (.cells (.pl (A1 rfl rfl))) .nil) (.cons (.ptr (by decide)) (.cons (.pl (AE.Ky list)) (.cons (.pl rfl) (.cons (.fn (.cons (.ptr (by decide)) .nil) (.pl rfl)) .nil)))) (.pl rfl) (λe he=>by simp only[List.mem_singleton] at he;subst he;exact(.arg (.here .ptr)))
def M6{c:Ck}{list:(List Nd)}{depth:Int}{yR:Bool}{Ae:Int}(h:Fh  c list depth=some (yR,Ae)):Sound P (G mx) (.call 55 [.ptr 0 0,.sl .lost list.length (BH list),.zi depth,.fn (.func 56) [.ptr 0 0] []] ⟨[(0,.cells (Jy c))],1,[],0⟩ (.ret (.zb yR)) ⟨[(0,.cells [.zi Ae])],1,[],0⟩):=by
 unfold Fh at h;refine BW Hd.mixed (Au Tryz.func55 b55 ?_);revert h;refine RF (λQ v=>RE P (G mx) Tryz.f55 1 ⟨[(0,.cells (Jy c))],1,[],0⟩ Q (.zb v.1) ⟨[(0,.cells [.zi v.2])],1,[],0⟩) (λi0 (E6:Int) (j0:List Value)=>fr 23 [(2,.zi depth),(3,.fn (.func 56) [.ptr 0 0] []),(11,.sl .lost list.length (BH list)),(12,.zi ((list.length:Nat):Int)),(13,.zi ((i0:Nat):Int))] [8,14,20,21] j0) (λ(E6:Int)=>⟨[(0,.cells [.zi E6])],1,[],0⟩) (λ(E6:Int) (jx:List Value)=>fr 23 [] [8,14,20,21] jx) (λ(E6:Int)=>⟨[(0,.cells [.zi E6])],1,[],0⟩) [bF] (G4 [] 0 (sb B55 52) [.code (sb B55 7)] (Ac 300 []) (by kernel_rfl)) ?_ ?_ ?_ (λv h=>by cases h;exact .outer .body);rintro i0 E6 j0 hge hq;exact Dx (Ac 300 [pb (gM hge)]) (by kernel_rfl) (hq (js 4 j0 [(1,bF)]));rintro i0 e0 E6 j0 r PX OU PK k;show GK  depth i0 e0 E6=some r->_;unfold GK;refine Aq ?_;rintro⟨Ej,Bj⟩ B7;dsimp only;let o1:List (PC P (G mx)):=[pb (Xo OU),Jp (J7 .lost PX),Af (RJ (Px B7) 0)];refine Ag (λhv=>?_) λhv=>?_;subst hv;rintro⟨⟩;exact H3 Hd.Aa [fq (AE.Ky list)] [none] (Ac 300 (o1++[pi PK])) (by kernel_rfl) (k [(jv j0 0),bT,bT,bF]);subst hv;rintro⟨⟩;exact Aw Hd.Aa _ _ [] [none] (Ac 300 o1) (by kernel_rfl) (.Gb k);rintro OE jI;rintro⟨⟩;exact Aw Hd.Aa _ _ [] [none] (IN 300 []) (by kernel_rfl) .body
def B22:Code:=A0 Tryz.f22
def b22:Tryz.f22.body=some B22:=by kernel_rfl
def Em(n:Nd):Option Bool:=cond (CV n.kind 1) ((CE (⟨0⟩:Ck) n 1).bind λ(Ej,Bj)=>cond Ej ((BZ n (⟨0,ByteArray.empty,ByteArray.empty,0,0,0,0,(⟨0,[]⟩:Fn),[],0⟩:Nd)).bind λy2=>cond y2 ((Fh (⟨Bj⟩:Ck) n.kids 2).bind λ(LX,E3)=>some LX) (some false)) (some false)) ((GX (⟨0⟩:Ck) n 1).bind λ(Wh,JD)=>some Wh)
def Jl{n:Nd}{yR:Bool}(h:Em  n=some yR):Pure P (G mx) 22 [.agg (CP n)] (.zb yR):=by
 unfold Em at h;refine CN Hd.mixed Hd.Aa (Au Tryz.func22 b22 ?_) (A1 (AE.Cp n) rfl) rfl;revert h;refine Ag (λAW=>?_) λAW=>?_;refine Aq ?_;rintro⟨Ej,Bj⟩ B7;dsimp only;let o1:List (PC P (G mx)):=[pn AW,Af (Fq (En B7) 1)];refine Ag (λhv=>?_) λhv=>?_;subst hv;refine Aq λy2 D1=>?_;let o2:List (PC P (G mx)):=o1++[GO (.r (.g (.r (.r (.r (.r (.r (.r (.r (.r (.z (.z (.r .nil))))))))))) .nil)) (BV D1)];refine Ag (λhv=>?_) λhv=>?_;subst hv;refine Aq ?_;rintro⟨LX,E3⟩ Fl;dsimp only;rintro⟨⟩;exact rT (o2++[Af (OJ (M6 Fl) 1)]);subst hv;rintro⟨⟩;exact rT o2;subst hv;rintro⟨⟩;exact rT o1;refine Aq ?_;rintro⟨Wh,JD⟩ JM;dsimp only;rintro⟨⟩;exact rT [pn AW,Af (Bh (Lx JM) 1)]
def B25:Code:=A0 Tryz.f25
def b25:Tryz.f25.body=some B25:=by kernel_rfl
def JW(HV:Nd->Option Nd)(i0:Nat)(e0:Nd)(Bf:(List Nd)):Option (Lp (List Nd) (List Nd) Nd):=(HV e0).bind λy2=>MH (Bf.length+1) (some (.nx (Bf++[y2])))
def Ms(HV:Nd->Option Nd)(n:Nd):Option Nd:=(Rt n.kids.length (CL (λi y x=>JW HV  i y x) (λx=>x) (n.kids.drop 0) 0 [])).bind (LZ (λ(Zy:(List Nd))=>some (⟨n.kind,n.name,n.unit,n.n,n.fr,n.to,n.known,n.Cz,Zy,0⟩:Nd)) (λv=>some v))
def V0(HV:Nd->Option Nd)(YC:∀{n:Nd} {yR:Nd},HV n=some yR->Pure P (G mx) 25 [.agg (CP n)] (.agg (CP yR))){n:Nd}{yR:Nd}(h:Ms HV n=some yR):Pure P (G mx) 25 [.agg (CP n)] (.agg (CP yR)):=by
 unfold Ms at h;refine CN Hd.mixed Hd.Aa (Au Tryz.func25 b25 ?_) (A1 (AE.Cp n) rfl) (AE.Cp yR);revert h;refine RF (λQ v=>Ku P Tryz.f25 0 Q (.agg (CP v))) (λi0 (Bf:(List Nd)) (j0:List Value)=>fr 27 [(1,.ptr 0 0),(2,.ptr 1 0),(3,.ptr 2 0),(4,.zi ((i0:Nat):Int))] [12] j0) (λ(Bf:(List Nd))=>⟨[(2,.cells [.zi n.kind,.zs n.name,.zs n.unit,.zi n.n,.zi n.fr,.zi n.to,.zi n.known,.zi n.Cz.den,.sl .lost n.Cz.ps.length (rows IJ n.Cz.ps),.sl (.row 0 11) Bf.length (BH Bf),.zi 0]),(1,.cells SE),(0,.cells (CP n))],3,[(0,Bf.length)],1⟩) (λ(Bf:(List Nd)) (jx:List Value)=>fr 27 [(2,.ptr 1 0),(3,.ptr 2 0)] [12] jx) (λ(Bf:(List Nd))=>⟨[(2,.cells [.zi n.kind,.zs n.name,.zs n.unit,.zi n.n,.zi n.fr,.zi n.to,.zi n.known,.zi n.Cz.den,.sl .lost n.Cz.ps.length (rows IJ n.Cz.ps),.sl (.row 0 11) Bf.length (BH Bf),.zi 0]),(1,.cells SE),(0,.cells (CP n))],3,[(0,Bf.length)],1⟩) [] (G4 [.b 2 9 11] 0 (sb B25 500) [.code (sb B25 63)] (Ac 300 []) (by kernel_rfl)) ?_ ?_ ?_ (λv h=>by cases h;exact .outer .body);rintro i0 Bf j0 hge hq;exact Dx (Ac 300 [pb (gM hge)]) (by kernel_rfl) (hq [bF]);rintro i0 e0 Bf j0 r PX OU PK k;show JW HV  i0 e0 Bf=some r->_;unfold JW;refine Aq λy2 D1=>?_;refine K1 λhl3=>?_;rintro⟨⟩;exact G6 (Ac 300 [pb (Xo OU),kJ,Jp (J7 .lost PX),AG (YC D1),Qg (Sb (.row 0 11) Bf [y2] (o:=.full) (n:=1) (ns:=(CP y2)) (AE.wn [y2] (.r (.r (.r (.r (.r (.r (.r (.r (.r (.r (.r .nil)))))))))))) rfl rfl (by simp) (by simpa using hl3)),pi PK]) (by kernel_rfl) (k [bT])
 rintro Zy amX;rintro⟨⟩;exact AA (v:=.agg [.zi n.kind,.zs n.name,.zs n.unit,.zi n.n,.zi n.fr,.zi n.to,.zi n.known,.zi n.Cz.den,.sl .lost n.Cz.ps.length (rows IJ n.Cz.ps),.sl (.row 0 11) Zy.length (BH Zy),.zi 0]) _ _ (IN 300 []) (by kernel_rfl) .body (.wn (.g (.r (.r (.r (.r (.r (.r (.r (.r (.r (.s rfl (.r .nil))))))))))) .nil) (AE.Cp (⟨n.kind,n.name,n.unit,n.n,n.fr,n.to,n.known,n.Cz,Zy,0⟩:Nd)))
def FI:Nat->Nd->Option Nd
 | 0,_=>none
 | qn+1,n=>Ms (FI qn) n
def W7:∀qn:Nat,∀{n:Nd} {yR:Nd},FI qn n=some yR->Pure P (G mx) 25 [.agg (CP n)] (.agg (CP yR)):=by
 intro qn
 induction qn with
 | zero=>exact(λh=>by simp only[FI] at h;cases h)
 | succ qn ih=>exact(λh=>V0 (FI qn) ih (by rw[FI] at h;exact h))
def Mt(n:Nd):Option Nd:=wC (λqn=>FI qn n)
def Y4{n:Nd}{yR:Nd}(h:Mt n=some yR):Pure P (G mx) 25 [.agg (CP n)] (.agg (CP yR)):=by
 obtain⟨qn,h⟩:=iQ h;exact(W7 qn) h
def B32:Code:=A0 Tryz.f32
def b32:Tryz.f32.body=some B32:=by kernel_rfl
def K0(op:ByteArray)(a:Nd)(b:Nd):Option Nd:=some (⟨16,op,ByteArray.empty,0,0,0,0,(⟨0,[]⟩:Fn),[a,b],0⟩:Nd)
def N5{op:ByteArray}{a:Nd}{b:Nd}{yR:Nd}(h:K0  op a b=some yR):Pure P (G mx) 32 [.zs op,.agg (CP a),.agg (CP b)] (.agg (CP yR)):=by
 unfold K0 at h;refine CN Hd.mixed Hd.Aa (Au Tryz.func32 b32 ?_) (A1 rfl (A1 (AE.Cp a) (A1 (AE.Cp b) rfl))) (AE.Cp yR);revert h;rintro⟨⟩;exact AA (v:=.agg [.zi 16,.zs op,.zs ByteArray.empty,.zi 0,.zi 0,.zi 0,.zi 0,.zi 0,.sl .full 0 [],.sl .full 2 (ndL a (ndL b [])),.zi 0]) _ _ (Ac 300 []) (by kernel_rfl) .body (.wn (.g (.r (.r (.r (.r (.r (.r (.r (.r (.z (.d (.r (.r (.r (.r (.r (.r (.r (.r (.r (.r (.r (.r (.r (.r (.r (.r (.r (.r (.r (.r (.r (.r .nil)))))))))))))))))))))) (AE.eq [a,b]).symm (.r .nil))))))))))) .nil) (AE.Cp (⟨16,op,ByteArray.empty,0,0,0,0,(⟨0,[]⟩:Fn),[a,b],0⟩:Nd)))
def B33:Code:=A0 Tryz.f33
def b33:Tryz.f33.body=some B33:=by kernel_rfl
def JN(name:ByteArray):Option Nd:=some (⟨12,name,ByteArray.empty,0,0,0,0,(⟨0,[]⟩:Fn),[],0⟩:Nd)
def Lv{name:ByteArray}{yR:Nd}(h:JN  name=some yR):Pure P (G mx) 33 [.zs name] (.agg (CP yR)):=by
 unfold JN at h;refine CN Hd.mixed Hd.Aa (Au Tryz.func33 b33 ?_) (A1 rfl rfl) (AE.Cp yR);revert h;rintro⟨⟩;exact AA (v:=.agg [.zi 12,.zs name,.zs ByteArray.empty,.zi 0,.zi 0,.zi 0,.zi 0,.zi 0,.sl .full 0 [],.sl .full 0 [],.zi 0]) _ _ (Ac 300 []) (by kernel_rfl) .body (.wn (.g (.r (.r (.r (.r (.r (.r (.r (.r (.z (.z (.r .nil))))))))))) .nil) (AE.Cp (⟨12,name,ByteArray.empty,0,0,0,0,(⟨0,[]⟩:Fn),[],0⟩:Nd)))
def B10:Code:=A0 Tryz.f10
def b10:Tryz.f10.body=some B10:=by kernel_rfl
def J8  :Option Bool:=(Dl EV).bind λ(Ej,Bj)=>(JN aS).bind λy2=>(K0 JC (⟨11,ByteArray.empty,EF,3,0,0,0,(⟨0,[]⟩:Fn),[],0⟩:Nd) y2).bind λy3=>(JN bS).bind λy4=>(JN cS).bind λy5=>(K0 GP y4 y5).bind λy6=>(K0 PQ y3 (⟨15,ByteArray.empty,ByteArray.empty,0,0,0,0,(⟨0,[]⟩:Fn),[y6],0⟩:Nd)).bind λy7=>(Dl ED).bind λ(ZF,LN)=>(Dl MV).bind λ(nD,Vw)=>(Dl BE).bind λ(ZB,KW)=>(Cf Ep).bind λ(qT,QB)=>(Cf Av).bind λ(ZD,Vt)=>cond (Et 0 (Bt (Bt (Bt ((Bj.length:Nat):Int) ((LN.length:Nat):Int)) ((KW.length:Nat):Int)) ((Vt.length:Nat):Int))) (some false) ((Mt Ej).bind λy13=>(Gp y13 y7).bind λy14=>cond y14 (cond (CV ((ZF.kids.length:Nat):Int) 2) (cond (BY ZF.name.data.toList Oo.data.toList) ((ZF.kids[1]?).bind λx15=>cond (CV x15.n 3) (cond (CV ((Vw.length:Nat):Int) 1) ((Vw[0]?).bind λx16=>cond (fJ x16 (⟨71,6⟩:Dg)) (cond (CV ZB.Cz.den 20) (cond (CV ((ZB.Cz.ps.length:Nat):Int) 2) ((ZB.Cz.ps[1]?).bind λx17=>cond (PG x17 (⟨50000,100000,5⟩:Pc)) (cond (CV ((QB.length:Nat):Int) 2) ((QB[0]?).bind λx18=>cond (CV x18.AH 16) ((QB[1]?).bind λx19=>cond (CV x19.err 72) (cond (CV x19.AH 22) (cond (CV ((ZD.kids.length:Nat):Int) 2) ((ZD.kids[1]?).bind λx20=>cond (CV x20.AH 21) (cond (CV ((x20.kids.length:Nat):Int) 2) ((x20.kids[0]?).bind λx21=>cond (CV x21.fr 8766) (cond (CV x21.to 36525) ((Em ZD).bind λy22=>cond y22 ((Em y7).bind λy23=>cond y23 ((JN cW).bind λy24=>(Em y24).bind λy25=>cond y25 (some false) (some true)) (some false)) (some false)) (some false)) (some false)) (some false)) (some false)) (some false)) (some false)) (some false)) (some false)) (some false)) (some false)) (some false)) (some false)) (some false)) (some false)) (some false)) (some false)) (some false)) (some false))
def WY{yR:Bool}(h:J8  =some yR):Pure P (G mx) 10 [] (.zb yR):=by
 unfold J8 at h;refine CN Hd.mixed Hd.Aa (Au Tryz.func10 b10 ?_) rfl rfl;revert h;refine Aq ?_;rintro⟨Ej,Bj⟩ B7;dsimp only;refine Aq λy2 D1=>?_;refine Aq λy3 Fl=>?_;refine Aq λy4 JM=>?_;refine Aq λy5 J6=>?_;refine Aq λy6 LS=>?_;refine Aq λy7 RU=>?_;refine Aq ?_;rintro⟨ZF,LN⟩ NP;dsimp only;refine Aq ?_;rintro⟨nD,Vw⟩ UR;dsimp only;refine Aq ?_;rintro⟨ZB,KW⟩ P0;dsimp only;refine Aq ?_;rintro⟨qT,QB⟩ VL;dsimp only;refine Aq ?_;rintro⟨ZD,Vt⟩ dZ;dsimp only;let o1:List (PC P (G mx)):=[AG (GW B7),AG (Lv D1),GO (.r (.g (.r (.r (.r (.r (.r (.r (.r (.r (.z (.z (.r .nil))))))))))) (.r .nil))) (N5 Fl),AG (Lv JM),AG (Lv J6),AG (N5 LS),GO (args:=[.zs PQ,.agg (CP y3),.agg [.zi 15,.zs ByteArray.empty,.zs ByteArray.empty,.zi 0,.zi 0,.zi 0,.zi 0,.zi 0,.sl .full 0 [],.sl .full 1 (CP y6),.zi 0]]) (.r (.r (.g (.r (.r (.r (.r (.r (.r (.r (.r (.z (.d (.r (.r (.r (.r (.r (.r (.r (.r (.r (.r (.r .nil))))))))))) (AE.eq [y6]).symm (.r .nil))))))))))) .nil))) (N5 RU),AG (GW NP),AG (GW UR),AG (GW P0),AG (Hi VL),AG (Hi dZ),pk,pk,pk];refine Ag (λAW=>?_) λAW=>?_;rintro⟨⟩;exact rT (o1++[pb AW]);refine Aq λy13 TO=>?_;refine Aq λy14 VM=>?_;let o2:List (PC P (G mx)):=o1++[pb AW,AG (Y4 TO),AG (KC VM)];refine Ag (λhv=>?_) λhv=>?_;subst hv;refine Ag (λhb2=>?_) λhb2=>?_;let o3:List (PC P (G mx)):=o2++[pn hb2];refine Ag (λhb3=>?_) λhb3=>?_;refine Aq λx15 awU=>?_;let o4:List (PC P (G mx)):=o3++[pn hb3,Jp (J7 .lost awU)];refine Ag (λFe=>?_) λFe=>?_;let o5:List (PC P (G mx)):=o4++[pn Fe];refine Ag (λHw=>?_) λHw=>?_;refine Aq λx16 aLG=>?_;let o6:List (PC P (G mx)):=o5++[pn Hw,Jp (amW .lost aLG)];refine Ag (λIG=>?_) λIG=>?_;let o7:List (PC P (G mx)):=o6++[ND (atI IG (.tmp 95) (.tmp 96))];refine Ag (λI4=>?_) λI4=>?_;let o8:List (PC P (G mx)):=o7++[pn I4];refine Ag (λKp=>?_) λKp=>?_;refine Aq λx17 awV=>?_;let o9:List (PC P (G mx)):=o8++[pn Kp,Jp (WW .lost awV)];refine Ag (λKi=>?_) λKi=>?_;let gN:List (PC P (G mx)):=o9++[ND (aQ Ki (.tmp 115) (.tmp 116))];refine Ag (λGI=>?_) λGI=>?_;refine Aq λx18 awW=>?_;let pI:List (PC P (G mx)):=gN++[pn GI,Jp (amW .lost awW)];refine Ag (λIS=>?_) λIS=>?_;refine Aq λx19 amM=>?_;let o12:List (PC P (G mx)):=pI++[pn IS,Jp (amW .lost amM)];refine Ag (λJz=>?_) λJz=>?_;let pJ:List (PC P (G mx)):=o12++[pn Jz,Jp (amW .lost amM)];refine Ag (λJA=>?_) λJA=>?_;refine Ag (λKR=>?_) λKR=>?_;refine Aq λx20 amN=>?_;let o14:List (PC P (G mx)):=pJ++[pn JA,pb KR,Jp (J7 .lost amN)];refine Ag (λLf=>?_) λLf=>?_;let o15:List (PC P (G mx)):=o14++[pb Lf,Jp (J7 .lost amN)];refine Ag (λN1=>?_) λN1=>?_;refine Aq λx21 amO=>?_;let xB:List (PC P (G mx)):=o15++[pb N1,Jp (J7 .lost amN),Jp (J7 .lost amO)];refine Ag (λUN=>?_) λUN=>?_;let o17:List (PC P (G mx)):=xB++[pb UN,Jp (J7 .lost amN),Jp (J7 .lost amO)];refine Ag (λWV=>?_) λWV=>?_;refine Aq λy22 eA=>?_;let o18:List (PC P (G mx)):=o17++[pb WV,AG (Jl eA)];refine Ag (λhv=>?_) λhv=>?_;subst hv;refine Aq λy23 jG=>?_;refine Ag (λhv=>?_) λhv=>?_;subst hv;refine Aq λy24 eB=>?_;refine Aq λy25 adY=>?_;let o19:List (PC P (G mx)):=o18++[AG (Jl jG),AG (Lv eB),AG (Jl adY)];refine Ag (λhv=>?_) λhv=>?_;subst hv;rintro⟨⟩;exact rT o19;subst hv;rintro⟨⟩;exact rT o19;subst hv;rintro⟨⟩;exact rT (o18++[AG (Jl jG)]);subst hv;rintro⟨⟩;exact rT o18;rintro⟨⟩;exact rT (o17++[pb WV]);rintro⟨⟩;exact rT (xB++[pb UN]);rintro⟨⟩;exact rT (o15++[pb N1]);rintro⟨⟩;exact rT (o14++[pb Lf]);rintro⟨⟩;exact rT (pJ++[pn JA,pb KR]);rintro⟨⟩;exact rT (pJ++[pn JA]);rintro⟨⟩;exact rT (o12++[pn Jz]);rintro⟨⟩;exact rT (pI++[pn IS]);rintro⟨⟩;exact rT (gN++[pn GI]);rintro⟨⟩;exact rT (o9++[ND (aQ Ki (.tmp 115) (.tmp 116))]);rintro⟨⟩;exact rT (o8++[pn Kp]);rintro⟨⟩;exact rT (o7++[pn I4]);rintro⟨⟩;exact rT (o6++[ND (atI IG (.tmp 95) (.tmp 96))]);rintro⟨⟩;exact rT (o5++[pn Hw]);rintro⟨⟩;exact rT (o4++[pn Fe]);rintro⟨⟩;exact rT (o3++[pn hb3]);rintro⟨⟩;exact rT (o2++[pn hb2]);subst hv;rintro⟨⟩;exact rT o2
def B73:Code:=A0 Tryz.f73
def b73:Tryz.f73.body=some B73:=by kernel_rfl
def KA(c:Int):Option Bool:=cond (CV c 32) (some true) (cond (CV c 9) (some true) (cond (CV c 10) (some true) (cond (CV c 13) (some true) (some false))))
def VY{c:Int}{yR:Bool}(h:KA  c=some yR):Pure P (G mx) 73 [.sc (.int .u8 c)] (.zb yR):=by
 unfold KA at h;refine CN Hd.mixed Hd.Aa (Au Tryz.func73 b73 ?_) (A1 rfl rfl) rfl;revert h;refine Ag (λAW=>?_) λAW=>?_;rintro⟨⟩;exact rT [pb AW];refine Ag (λhb2=>?_) λhb2=>?_;rintro⟨⟩;exact rT [pb AW,pb hb2];refine Ag (λhb3=>?_) λhb3=>?_;rintro⟨⟩;exact rT [pb AW,pb hb2,pb hb3];refine Ag (λFe=>?_) λFe=>?_;rintro⟨⟩;exact rT [pb AW,pb hb2,pb hb3,pb Fe];rintro⟨⟩;exact rT [pb AW,pb hb2,pb hb3,pb Fe]
def B74:Code:=A0 Tryz.f74
def b74:Tryz.f74.body=some B74:=by kernel_rfl
def Is(s:ByteArray)(at_:Int)(t:ByteArray):Option Bool:=cond (Nv ((t.data.toList.length:Nat):Int) (LV ((s.data.toList.length:Nat):Int) at_)) ((Qq s at_ (Bt at_ ((t.data.toList.length:Nat):Int))).bind λs1=>cond (BY s1.data.toList t.data.toList) (some true) (some false)) (some false)
def Jq{s:ByteArray}{at_:Int}{t:ByteArray}{yR:Bool}(h:Is  s at_ t=some yR):Pure P (G mx) 74 [.zs s,.zi at_,.zs t] (.zb yR):=by
 unfold Is at h;refine CN Hd.mixed Hd.Aa (Au Tryz.func74 b74 ?_) (A1 rfl (A1 rfl (A1 rfl rfl))) rfl;revert h;refine Ag (λAW=>?_) λAW=>?_;refine Aq λs1 RT=>?_;refine Ag (λhb2=>?_) λhb2=>?_;rintro⟨⟩;exact rT [pk,pb AW,pk,OO (Iu RT),pb hb2];rintro⟨⟩;exact rT [pk,pb AW,pk,OO (Iu RT),pb hb2];rintro⟨⟩;exact rT [pk,pb AW]
def B41:Code:=A0 Tryz.f41
def b41:Tryz.f41.body=some B41:=by kernel_rfl
def Er(s:ByteArray)(LR:Int):Option (Lp Int Int Int):=cond (Et LR ((s.data.toList.length:Nat):Int)) ((Hu s.data.toList LR).bind λc4=>cond (CV ((c4.toNat:Nat):Int) 10) (some (.ex LR)) (some (.nx (Bt LR 1)))) (some (.ex LR))
def Dt(s:ByteArray)(LR:Int):Option (Lp Int Int Int):=cond (Et LR ((s.data.toList.length:Nat):Int)) ((Hu s.data.toList LR).bind λc1=>(KA ((c1.toNat:Nat):Int)).bind λy2=>cond y2 (some (.nx (Bt LR 1))) ((Is s LR pU).bind λy3=>cond y3 ((L6 (λx=>Er  s x) LR).bind (LZ (λ(asD:Int)=>some (.nx asD)) (λv=>some (.rt v)))) (some (.rt LR)))) (some (.ex LR))
def Kd(s:ByteArray)(at_:Int):Option Int:=(L6 (λx=>Dt  s x) at_).bind (LZ (λ(asE:Int)=>some asE) (λv=>some v))
def Rz{s:ByteArray}{at_:Int}{yR:Int}(h:Kd  s at_=some yR):Pure P (G mx) 41 [.zs s,.zi at_] (.zi yR):=by
 unfold Kd at h;refine CN Hd.mixed Hd.Aa (Au Tryz.func41 b41 ?_) (A1 rfl (A1 rfl rfl)) rfl;revert h;refine Pg (λQ v=>Ku P Tryz.f41 0 Q (.zi v)) (λ(LR:Int) (j0:List Value)=>fr 33 [(0,.zs s),(1,.zi LR)] [8,12,17,18,23,24,28,29] j0) (λ(LR:Int)=>⟨[],0,[],0⟩) (λ(LR:Int) (jx:List Value)=>fr 33 [(1,.zi LR)] [8,12,17,18,23,24,28,29] jx) (λ(LR:Int)=>⟨[],0,[],0⟩) [] (G4 [] 0 (sb B41 24) [.code (sb B41 7)] (Ac 300 []) (by kernel_rfl)) ?_ ?_ (λv h=>by cases h;exact .outer .body);rintro LR j0 r k;show Dt  s LR=some r->_;unfold Dt;refine Ag (λAW=>?_) λAW=>?_;refine Aq λc1 hc1=>?_;refine Aq λy2 D1=>?_;let o1:List (PC P (G mx)):=[pb AW,Sl (Ji hc1),AG (VY D1)];refine Ag (λhv=>?_) λhv=>?_;subst hv;rintro⟨⟩;exact G6 (Ac 300 (o1++[pk])) (by kernel_rfl) (k (js 8 j0 [(0,bT),(1,bT)]));subst hv;refine Aq λy3 Fl=>?_;refine Ag (λhv=>?_) λhv=>?_;subst hv;refine Pg (λQ v=>Ku P Tryz.f41 0 Q (.zi v)) (λ(LR:Int) (j1:List Value)=>fr 33 [(0,.zs s),(1,.zi LR)] [8,12,17,18,23,24,28,29] j1) (λ(LR:Int)=>⟨[],0,[],0⟩) (λ(LR:Int) (jx:List Value)=>fr 33 [(0,.zs s),(1,.zi LR)] [8,12,17,18,23,24,28,29] jx) (λ(LR:Int)=>⟨[],0,[],0⟩) (js 8 j0 [(0,bT),(1,bF),(2,bT),(3,bF)]) (G4 [] 2 (sb B41 1580) [.iN 1] (Ac 300 (o1++[AG (Jq Fl)])) (by kernel_rfl)) ?_ ?_ (λv h=>by cases h;exact .outer (.Gb k));rintro LR j1 r k;show Er  s LR=some r->_;unfold Er;refine Ag (λhb2=>?_) λhb2=>?_;refine Aq λc4 hc4=>?_;refine Ag (λhb3=>?_) λhb3=>?_;rintro⟨⟩;exact Dx (Ac 300 [pb hb2,Sl (Ji hc4),pn hb3]) (by kernel_rfl) (k (js 8 j1 [(4,bT),(5,bT),(6,bF),(7,bF)]));rintro⟨⟩;exact G6 (Ac 300 [pb hb2,Sl (Ji hc4),pn hb3,pk]) (by kernel_rfl) (k (js 8 j1 [(4,bT),(5,bT),(6,bT),(7,bT)]));rintro⟨⟩;exact Dx (Ac 300 [pb hb2]) (by kernel_rfl) (k (js 8 j1 [(4,bF),(5,bF),(6,undef),(7,bF)]));rintro asD aLV;rintro⟨⟩;exact G6 (IN 300 []) (by kernel_rfl) (k aLV);subst hv;rintro⟨⟩;exact AA _ _ (Ac 300 (o1++[AG (Jq Fl)])) (by kernel_rfl) (.Gb k) .sc;rintro⟨⟩;exact Dx (Ac 300 [pb AW]) (by kernel_rfl) (k (js 8 j0 [(0,bF)]));rintro asE aDG;rintro⟨⟩;exact AA _ _ (IN 300 []) (by kernel_rfl) .body .sc
def B75:Code:=A0 Tryz.f75
def b75:Tryz.f75.body=some B75:=by kernel_rfl
def Gt(c:Int):Option Bool:=cond (Nv 48 c) (cond (Nv c 57) (some true) (some false)) (some false)
def EE{c:Int}{yR:Bool}(h:Gt  c=some yR):Pure P (G mx) 75 [.sc (.int .u8 c)] (.zb yR):=by
 unfold Gt at h;refine CN Hd.mixed Hd.Aa (Au Tryz.func75 b75 ?_) (A1 rfl rfl) rfl;revert h;refine Ag (λAW=>?_) λAW=>?_;refine Ag (λhb2=>?_) λhb2=>?_;rintro⟨⟩;exact rT [pb AW,pb hb2];rintro⟨⟩;exact rT [pb AW,pb hb2];rintro⟨⟩;exact rT [pb AW]
def auN:Code:=A0 Tryz.f127
def aHT:Tryz.f127.body=some auN:=by kernel_rfl
def FH(s:ByteArray)(at_:Int)(i5:Int):Option (Lp Int Unit Bool):=cond (Et i5 10) ((Hu s.data.toList (Bt at_ i5)).bind λc5=>cond (CV i5 4) (cond (CV ((c5.toNat:Nat):Int) 45) (some (.nx (Bt i5 1))) (some (.rt false))) (cond (CV i5 7) (cond (CV ((c5.toNat:Nat):Int) 45) (some (.nx (Bt i5 1))) (some (.rt false))) ((Gt ((c5.toNat:Nat):Int)).bind λy6=>cond y6 (some (.nx (Bt i5 1))) (some (.rt false))))) (some (.ex ()))
def LB(s:ByteArray)(at_:Int):Option Bool:=cond (Et (LV ((s.data.toList.length:Nat):Int) at_) 10) (some false) ((L6 (λx=>FH  s at_ x) 0).bind (LZ (λ(_:Unit)=>some true) (λv=>some v)))
def W2{s:ByteArray}{at_:Int}{yR:Bool}(h:LB  s at_=some yR):Pure P (G mx) 127 [.zs s,.zi at_] (.zb yR):=by
 unfold LB at h;refine CN Hd.mixed Hd.Aa (Au Tryz.func127 aHT ?_) (A1 rfl (A1 rfl rfl)) rfl;revert h;refine Ag (λAW=>?_) λAW=>?_;rintro⟨⟩;exact rT [pk,pb AW];refine Pg (λQ v=>Ku P Tryz.f127 0 Q (.zb v)) (λ(i5:Int) (j0:List Value)=>fr 32 [(0,.zs s),(1,.zi at_),(5,.zi i5)] [4,11,13,22,23,25,26,28,30,31] j0) (λ(i5:Int)=>⟨[],0,[],0⟩) (λ(_:Unit) (jx:List Value)=>fr 32 [] [4,11,13,22,23,25,26,28,30,31] jx) (λ(_:Unit)=>⟨[],0,[],0⟩) [bF,bF] (G4 [] 0 (sb auN 116) [.code (sb auN 15)] (Ac 300 [pk,pb AW]) (by kernel_rfl)) ?_ ?_ (λv h=>by cases h;exact .outer .body);rintro i5 j0 r k;show FH  s at_ i5=some r->_;unfold FH;refine Ag (λJz=>?_) λJz=>?_;refine Aq λc5 hc5=>?_;let o1:List (PC P (G mx)):=[pb Jz,pk,Sl (Ji hc5)];refine Ag (λJA=>?_) λJA=>?_;refine Ag (λKR=>?_) λKR=>?_;rintro⟨⟩;exact G6 (Ac 300 (o1++[pb JA,pn KR,pk])) (by kernel_rfl) (k (js 10 j0 [(2,bT),(3,bT),(4,bT),(5,undef),(6,bT),(7,bF)]));rintro⟨⟩;exact AA _ _ (Ac 300 (o1++[pb JA,pn KR])) (by kernel_rfl) (.Gb k) .sc;refine Ag (λLf=>?_) λLf=>?_;refine Ag (λN1=>?_) λN1=>?_;rintro⟨⟩;exact G6 (Ac 300 (o1++[pb JA,pb Lf,pn N1,pk])) (by kernel_rfl) (k (js 10 j0 [(2,bT),(3,bF),(4,bF),(5,bT),(6,bT),(7,bF)]));rintro⟨⟩;exact AA _ _ (Ac 300 (o1++[pb JA,pb Lf,pn N1])) (by kernel_rfl) (.Gb k) .sc;refine Aq λy6 LS=>?_;refine Ag (λhv=>?_) λhv=>?_;subst hv;rintro⟨⟩;exact G6 (Ac 300 (o1++[pb JA,pb Lf,AG (EE LS),pk])) (by kernel_rfl) (k [(jv j0 0),(jv j0 1),bT,bF,bF,bF,bF,(jv j0 7),bT,bF]);subst hv;rintro⟨⟩;exact AA _ _ (Ac 300 (o1++[pb JA,pb Lf,AG (EE LS)])) (by kernel_rfl) (.Gb k) .sc;rintro⟨⟩;exact Dx (Ac 300 [pb Jz]) (by kernel_rfl) (k (js 10 j0 [(2,bF)]));rintro⟨⟩ aeD;rintro⟨⟩;exact AA _ _ (IN 300 []) (by kernel_rfl) .body .sc
def B77:Code:=A0 Tryz.f77
def b77:Tryz.f77.body=some B77:=by kernel_rfl
def I0(c:Int):Option Bool:=cond (Nv 97 c) (cond (Nv c 122) (some true) (some false)) (some false)
def Qi{c:Int}{yR:Bool}(h:I0  c=some yR):Pure P (G mx) 77 [.sc (.int .u8 c)] (.zb yR):=by
 unfold I0 at h;refine CN Hd.mixed Hd.Aa (Au Tryz.func77 b77 ?_) (A1 rfl rfl) rfl;revert h;refine Ag (λAW=>?_) λAW=>?_;refine Ag (λhb2=>?_) λhb2=>?_;rintro⟨⟩;exact rT [pb AW,pb hb2];rintro⟨⟩;exact rT [pb AW,pb hb2];rintro⟨⟩;exact rT [pb AW]
def B79:Code:=A0 Tryz.f79
def b79:Tryz.f79.body=some B79:=by kernel_rfl
def Gu(c:Int):Option Bool:=cond (Nv 65 c) (cond (Nv c 90) (some true) (some false)) (some false)
def FC{c:Int}{yR:Bool}(h:Gu  c=some yR):Pure P (G mx) 79 [.sc (.int .u8 c)] (.zb yR):=by
 unfold Gu at h;refine CN Hd.mixed Hd.Aa (Au Tryz.func79 b79 ?_) (A1 rfl rfl) rfl;revert h;refine Ag (λAW=>?_) λAW=>?_;refine Ag (λhb2=>?_) λhb2=>?_;rintro⟨⟩;exact rT [pb AW,pb hb2];rintro⟨⟩;exact rT [pb AW,pb hb2];rintro⟨⟩;exact rT [pb AW]
def aGO:Code:=A0 Tryz.f158
def aIH:Tryz.f158.body=some aGO:=by kernel_rfl
def Ke(c:Int):Option Bool:=(I0 c).bind λy1=>cond y1 (some true) ((Gu c).bind λy2=>cond y2 (some true) ((Gt c).bind λy3=>cond y3 (some true) (cond (CV c 95) (some true) (some false))))
def M8{c:Int}{yR:Bool}(h:Ke  c=some yR):Pure P (G mx) 158 [.sc (.int .u8 c)] (.zb yR):=by
 unfold Ke at h;refine CN Hd.mixed Hd.Aa (Au Tryz.func158 aIH ?_) (A1 rfl rfl) rfl;revert h;refine Aq λy1 B7=>?_;let o1:List (PC P (G mx)):=[AG (Qi B7)];refine Ag (λhv=>?_) λhv=>?_;subst hv;rintro⟨⟩;exact rT o1;subst hv;refine Aq λy2 D1=>?_;let o2:List (PC P (G mx)):=o1++[AG (FC D1)];refine Ag (λhv=>?_) λhv=>?_;subst hv;rintro⟨⟩;exact rT o2;subst hv;refine Aq λy3 Fl=>?_;refine Ag (λhv=>?_) λhv=>?_;subst hv;rintro⟨⟩;exact rT (o2++[AG (EE Fl)]);subst hv;refine Ag (λAW=>?_) λAW=>?_;rintro⟨⟩;exact rT (o2++[AG (EE Fl),pb AW]);rintro⟨⟩;exact rT (o2++[AG (EE Fl),pb AW])
def aGE:Code:=A0 Tryz.f128
def aHU:Tryz.f128.body=some aGE:=by kernel_rfl
def D7(s:ByteArray)(at_:Int):Option Bool:=cond (Nv ((s.data.toList.length:Nat):Int) at_) (some true) ((Hu s.data.toList at_).bind λc1=>(Ke ((c1.toNat:Nat):Int)).bind λy2=>cond y2 (some false) (cond (CV ((c1.toNat:Nat):Int) 46) (some false) (some true)))
def Ga{s:ByteArray}{at_:Int}{yR:Bool}(h:D7  s at_=some yR):Pure P (G mx) 128 [.zs s,.zi at_] (.zb yR):=by
 unfold D7 at h;refine CN Hd.mixed Hd.Aa (Au Tryz.func128 aHU ?_) (A1 rfl (A1 rfl rfl)) rfl;revert h;refine Ag (λAW=>?_) λAW=>?_;rintro⟨⟩;exact rT [pb AW];refine Aq λc1 hc1=>?_;refine Aq λy2 D1=>?_;let o1:List (PC P (G mx)):=[pb AW,Sl (Ji hc1),AG (M8 D1)];refine Ag (λhv=>?_) λhv=>?_;subst hv;rintro⟨⟩;exact rT o1;subst hv;refine Ag (λhb2=>?_) λhb2=>?_;rintro⟨⟩;exact rT (o1++[Sl (Ji hc1),pn hb2]);rintro⟨⟩;exact rT (o1++[Sl (Ji hc1),pn hb2])
def auO:Code:=A0 Tryz.f129
def aHV:Tryz.f129.body=some auO:=by kernel_rfl
def He(s:ByteArray)(LR:Int):Option (Lp Int Int Int):=cond (Et LR ((s.data.toList.length:Nat):Int)) ((Hu s.data.toList LR).bind λc1=>(Gt ((c1.toNat:Nat):Int)).bind λy2=>cond y2 (some (.nx (Bt LR 1))) (some (.ex LR))) (some (.ex LR))
def EX(s:ByteArray)(at_:Int):Option Int:=(L6 (λx=>He  s x) at_).bind (LZ (λ(hZ:Int)=>some hZ) (λv=>some v))
def Jr{s:ByteArray}{at_:Int}{yR:Int}(h:EX  s at_=some yR):Pure P (G mx) 129 [.zs s,.zi at_] (.zi yR):=by
 unfold EX at h;refine CN Hd.mixed Hd.Aa (Au Tryz.func129 aHV ?_) (A1 rfl (A1 rfl rfl)) rfl;revert h;refine Pg (λQ v=>Ku P Tryz.f129 0 Q (.zi v)) (λ(LR:Int) (j0:List Value)=>fr 18 [(0,.zs s),(1,.zi LR)] [8,9,13,14] j0) (λ(LR:Int)=>⟨[],0,[],0⟩) (λ(LR:Int) (jx:List Value)=>fr 18 [(1,.zi LR)] [8,9,13,14] jx) (λ(LR:Int)=>⟨[],0,[],0⟩) [] (G4 [] 0 (sb auO 24) [.code (sb auO 7)] (Ac 300 []) (by kernel_rfl)) ?_ ?_ (λv h=>by cases h;exact .outer .body);rintro LR j0 r k;show He  s LR=some r->_;unfold He;refine Ag (λAW=>?_) λAW=>?_;refine Aq λc1 hc1=>?_;refine Aq λy2 D1=>?_;refine Ag (λhv=>?_) λhv=>?_;subst hv;rintro⟨⟩;exact G6 (Ac 300 [pb AW,Sl (Ji hc1),AG (EE D1),pk]) (by kernel_rfl) (k [bT,bT,bT,bT]);subst hv;rintro⟨⟩;exact Dx (Ac 300 [pb AW,Sl (Ji hc1),AG (EE D1)]) (by kernel_rfl) (k [bT,bT,bF,bF]);rintro⟨⟩;exact Dx (Ac 300 [pb AW]) (by kernel_rfl) (k [bF,bF,undef,bF]);rintro hZ aDF;rintro⟨⟩;exact AA _ _ (IN 300 []) (by kernel_rfl) .body .sc
def B76:Code:=A0 Tryz.f76
def b76:Tryz.f76.body=some B76:=by kernel_rfl
def IV(s:ByteArray)(at_:Int):Option (Tk×Bool):=(LB s at_).bind λy1=>cond y1 ((Qq s at_ (Bt at_ 10)).bind λs2=>(D7 s (Bt at_ 10)).bind λy3=>some ((⟨5,s2,at_⟩:Tk),y3)) ((EX s at_).bind λy4=>cond (CV y4 (Bt at_ 1)) (cond (Et y4 ((s.data.toList.length:Nat):Int)) ((Hu s.data.toList y4).bind λc5=>cond (CV ((c5.toNat:Nat):Int) 46) ((EX s (Bt y4 1)).bind λy6=>(Qq s at_ y6).bind λs7=>cond (Nv (LV y4 at_) 10) (cond (CV y6 (Bt y4 3)) ((D7 s y6).bind λy8=>some ((⟨4,s7,at_⟩:Tk),y8)) (some ((⟨4,s7,at_⟩:Tk),false))) (some ((⟨4,s7,at_⟩:Tk),false))) ((Qq s at_ y4).bind λs9=>cond (Nv (LV y4 at_) 12) ((D7 s y4).bind λzG=>some ((⟨3,s9,at_⟩:Tk),zG)) (some ((⟨3,s9,at_⟩:Tk),false)))) ((Qq s at_ y4).bind λs11=>cond (Nv (LV y4 at_) 12) ((D7 s y4).bind λy12=>some ((⟨3,s11,at_⟩:Tk),y12)) (some ((⟨3,s11,at_⟩:Tk),false)))) ((Hu s.data.toList at_).bind λc13=>cond (CV ((c13.toNat:Nat):Int) 48) (cond (Et y4 ((s.data.toList.length:Nat):Int)) ((Hu s.data.toList y4).bind λc14=>cond (CV ((c14.toNat:Nat):Int) 46) ((EX s (Bt y4 1)).bind λy15=>(Qq s at_ y15).bind λs16=>some ((⟨4,s16,at_⟩:Tk),false)) ((Qq s at_ y4).bind λs17=>some ((⟨3,s17,at_⟩:Tk),false))) ((Qq s at_ y4).bind λs18=>some ((⟨3,s18,at_⟩:Tk),false))) (cond (Et y4 ((s.data.toList.length:Nat):Int)) ((Hu s.data.toList y4).bind λc19=>cond (CV ((c19.toNat:Nat):Int) 46) ((EX s (Bt y4 1)).bind λy20=>(Qq s at_ y20).bind λs21=>cond (Nv (LV y4 at_) 10) (cond (CV y20 (Bt y4 3)) ((D7 s y20).bind λy22=>some ((⟨4,s21,at_⟩:Tk),y22)) (some ((⟨4,s21,at_⟩:Tk),false))) (some ((⟨4,s21,at_⟩:Tk),false))) ((Qq s at_ y4).bind λs23=>cond (Nv (LV y4 at_) 12) ((D7 s y4).bind λy24=>some ((⟨3,s23,at_⟩:Tk),y24)) (some ((⟨3,s23,at_⟩:Tk),false)))) ((Qq s at_ y4).bind λs25=>cond (Nv (LV y4 at_) 12) ((D7 s y4).bind λy26=>some ((⟨3,s25,at_⟩:Tk),y26)) (some ((⟨3,s25,at_⟩:Tk),false))))))
def T8{s:ByteArray}{at_:Int}{yR:(Tk×Bool)}(h:IV  s at_=some yR):Pure P (G mx) 76 [.zs s,.zi at_] (.CZ [.agg (Gz yR.1),.zb yR.2]):=by
 unfold IV at h;refine CN Hd.mixed Hd.Aa (Au Tryz.func76 b76 ?_) (A1 rfl (A1 rfl rfl)) (A1 (BM.Cp yR.1) (A1 rfl rfl));revert h;refine Aq λy1 B7=>?_;let o1:List (PC P (G mx)):=[AG (W2 B7)];refine Ag (λhv=>?_) λhv=>?_;subst hv;refine Aq λs2 aL=>?_;refine Aq λy3 Fl=>?_;rintro⟨⟩;exact AA _ _ (Ac 300 (o1++[pz 11,pk,OO (Iu aL),pk,AG (Ga Fl)])) (by kernel_rfl) .body (.plain (A1 (BM.Cp (⟨5,s2,at_⟩:Tk)) (A1 rfl rfl)));subst hv;refine Aq λy4 JM=>?_;let o2:List (PC P (G mx)):=o1++[AG (Jr JM),pk];refine Ag (λAW=>?_) λAW=>?_;refine Ag (λhb2=>?_) λhb2=>?_;refine Aq λc5 hc5=>?_;let o3:List (PC P (G mx)):=o2++[pb AW,pb hb2,Sl (Ji hc5)];refine Ag (λhb3=>?_) λhb3=>?_;refine Aq λy6 LS=>?_;refine Aq λs7 hs7=>?_;let o4:List (PC P (G mx)):=o3++[pb hb3,pk,AG (Jr LS),pz 24,OO (Iu hs7),pk];refine Ag (λFe=>?_) λFe=>?_;refine Ag (λHw=>?_) λHw=>?_;refine Aq λy8 NP=>?_;rintro⟨⟩;exact AA _ _ (Ac 300 (o4++[pb Fe,pk,pb Hw,AG (Ga NP)])) (by kernel_rfl) .body (.plain (A1 (BM.Cp (⟨4,s7,at_⟩:Tk)) (A1 rfl rfl)));rintro⟨⟩;exact AA _ _ (Ac 300 (o4++[pb Fe,pk,pb Hw])) (by kernel_rfl) .body (.plain (A1 (BM.Cp (⟨4,s7,at_⟩:Tk)) (A1 rfl rfl)));rintro⟨⟩;exact AA _ _ (Ac 300 (o4++[pb Fe])) (by kernel_rfl) .body (.plain (A1 (BM.Cp (⟨4,s7,at_⟩:Tk)) (A1 rfl rfl)));refine Aq λs9 hs9=>?_;refine Ag (λIG=>?_) λIG=>?_;refine Aq λzG P0=>?_;rintro⟨⟩;exact AA _ _ (Ac 300 (o3++[pb hb3,pz 18,OO (Iu hs9),pk,pb IG,AG (Ga P0)])) (by kernel_rfl) .body (.plain (A1 (BM.Cp (⟨3,s9,at_⟩:Tk)) (A1 rfl rfl)));rintro⟨⟩;exact AA _ _ (Ac 300 (o3++[pb hb3,pz 18,OO (Iu hs9),pk,pb IG])) (by kernel_rfl) .body (.plain (A1 (BM.Cp (⟨3,s9,at_⟩:Tk)) (A1 rfl rfl)));refine Aq λs11 aCU=>?_;refine Ag (λI4=>?_) λI4=>?_;refine Aq λy12 dZ=>?_;rintro⟨⟩;exact AA _ _ (Ac 300 (o2++[pb AW,pb hb2,pz 18,OO (Iu aCU),pk,pb I4,AG (Ga dZ)])) (by kernel_rfl) .body (.plain (A1 (BM.Cp (⟨3,s11,at_⟩:Tk)) (A1 rfl rfl)));rintro⟨⟩;exact AA _ _ (Ac 300 (o2++[pb AW,pb hb2,pz 18,OO (Iu aCU),pk,pb I4])) (by kernel_rfl) .body (.plain (A1 (BM.Cp (⟨3,s11,at_⟩:Tk)) (A1 rfl rfl)));refine Aq λc13 aJZ=>?_;let o5:List (PC P (G mx)):=o2++[pb AW,Sl (Ji aJZ)];refine Ag (λKp=>?_) λKp=>?_;refine Ag (λKi=>?_) λKi=>?_;refine Aq λc14 aCC=>?_;refine Ag (λGI=>?_) λGI=>?_;refine Aq λy15 YE=>?_;refine Aq λs16 aKS=>?_;rintro⟨⟩;exact AA _ _ (Ac 300 (o5++[pn Kp,pb Ki,Sl (Ji aCC),pb GI,pk,AG (Jr YE),pz 24,OO (Iu aKS)])) (by kernel_rfl) .body (.plain (A1 (BM.Cp (⟨4,s16,at_⟩:Tk)) (A1 rfl rfl)));refine Aq λs17 aKT=>?_;rintro⟨⟩;exact AA _ _ (Ac 300 (o5++[pn Kp,pb Ki,Sl (Ji aCC),pb GI,pz 18,OO (Iu aKT)])) (by kernel_rfl) .body (.plain (A1 (BM.Cp (⟨3,s17,at_⟩:Tk)) (A1 rfl rfl)));refine Aq λs18 aKU=>?_;rintro⟨⟩;exact AA _ _ (Ac 300 (o5++[pn Kp,pb Ki,pz 18,OO (Iu aKU)])) (by kernel_rfl) .body (.plain (A1 (BM.Cp (⟨3,s18,at_⟩:Tk)) (A1 rfl rfl)));refine Ag (λIS=>?_) λIS=>?_;refine Aq λc19 aKA=>?_;let o6:List (PC P (G mx)):=o5++[pn Kp,pb IS,Sl (Ji aKA)];refine Ag (λJz=>?_) λJz=>?_;refine Aq λy20 oS=>?_;refine Aq λs21 aKV=>?_;let o7:List (PC P (G mx)):=o6++[pb Jz,pk,AG (Jr oS),pz 24,OO (Iu aKV),pk];refine Ag (λJA=>?_) λJA=>?_;refine Ag (λKR=>?_) λKR=>?_;refine Aq λy22 eA=>?_;rintro⟨⟩;exact AA _ _ (Ac 300 (o7++[pb JA,pk,pb KR,AG (Ga eA)])) (by kernel_rfl) .body (.plain (A1 (BM.Cp (⟨4,s21,at_⟩:Tk)) (A1 rfl rfl)));rintro⟨⟩;exact AA _ _ (Ac 300 (o7++[pb JA,pk,pb KR])) (by kernel_rfl) .body (.plain (A1 (BM.Cp (⟨4,s21,at_⟩:Tk)) (A1 rfl rfl)));rintro⟨⟩;exact AA _ _ (Ac 300 (o7++[pb JA])) (by kernel_rfl) .body (.plain (A1 (BM.Cp (⟨4,s21,at_⟩:Tk)) (A1 rfl rfl)));refine Aq λs23 aCV=>?_;refine Ag (λLf=>?_) λLf=>?_;refine Aq λy24 eB=>?_;rintro⟨⟩;exact AA _ _ (Ac 300 (o6++[pb Jz,pz 18,OO (Iu aCV),pk,pb Lf,AG (Ga eB)])) (by kernel_rfl) .body (.plain (A1 (BM.Cp (⟨3,s23,at_⟩:Tk)) (A1 rfl rfl)));rintro⟨⟩;exact AA _ _ (Ac 300 (o6++[pb Jz,pz 18,OO (Iu aCV),pk,pb Lf])) (by kernel_rfl) .body (.plain (A1 (BM.Cp (⟨3,s23,at_⟩:Tk)) (A1 rfl rfl)));refine Aq λs25 aCW=>?_;refine Ag (λN1=>?_) λN1=>?_;refine Aq λy26 awY=>?_;rintro⟨⟩;exact AA _ _ (Ac 300 (o5++[pn Kp,pb IS,pz 18,OO (Iu aCW),pk,pb N1,AG (Ga awY)])) (by kernel_rfl) .body (.plain (A1 (BM.Cp (⟨3,s25,at_⟩:Tk)) (A1 rfl rfl)));rintro⟨⟩;exact AA _ _ (Ac 300 (o5++[pn Kp,pb IS,pz 18,OO (Iu aCW),pk,pb N1])) (by kernel_rfl) .body (.plain (A1 (BM.Cp (⟨3,s25,at_⟩:Tk)) (A1 rfl rfl)))
def auP:Code:=A0 Tryz.f130
def aHW:Tryz.f130.body=some auP:=by kernel_rfl
def Kg(s:ByteArray)(LR:Int):Option (Lp Int Int Int):=cond (Et LR ((s.data.toList.length:Nat):Int)) ((Hu s.data.toList LR).bind λc1=>(Ke ((c1.toNat:Nat):Int)).bind λy2=>cond y2 (some (.nx (Bt LR 1))) (some (.ex LR))) (some (.ex LR))
def La(s:ByteArray)(at_:Int):Option Int:=(L6 (λx=>Kg  s x) at_).bind (LZ (λ(hZ:Int)=>some hZ) (λv=>some v))
def Sr{s:ByteArray}{at_:Int}{yR:Int}(h:La  s at_=some yR):Pure P (G mx) 130 [.zs s,.zi at_] (.zi yR):=by
 unfold La at h;refine CN Hd.mixed Hd.Aa (Au Tryz.func130 aHW ?_) (A1 rfl (A1 rfl rfl)) rfl;revert h;refine Pg (λQ v=>Ku P Tryz.f130 0 Q (.zi v)) (λ(LR:Int) (j0:List Value)=>fr 18 [(0,.zs s),(1,.zi LR)] [8,9,13,14] j0) (λ(LR:Int)=>⟨[],0,[],0⟩) (λ(LR:Int) (jx:List Value)=>fr 18 [(1,.zi LR)] [8,9,13,14] jx) (λ(LR:Int)=>⟨[],0,[],0⟩) [] (G4 [] 0 (sb auP 24) [.code (sb auP 7)] (Ac 300 []) (by kernel_rfl)) ?_ ?_ (λv h=>by cases h;exact .outer .body);rintro LR j0 r k;show Kg  s LR=some r->_;unfold Kg;refine Ag (λAW=>?_) λAW=>?_;refine Aq λc1 hc1=>?_;refine Aq λy2 D1=>?_;refine Ag (λhv=>?_) λhv=>?_;subst hv;rintro⟨⟩;exact G6 (Ac 300 [pb AW,Sl (Ji hc1),AG (M8 D1),pk]) (by kernel_rfl) (k [bT,bT,bT,bT]);subst hv;rintro⟨⟩;exact Dx (Ac 300 [pb AW,Sl (Ji hc1),AG (M8 D1)]) (by kernel_rfl) (k [bT,bT,bF,bF]);rintro⟨⟩;exact Dx (Ac 300 [pb AW]) (by kernel_rfl) (k [bF,bF,undef,bF]);rintro hZ aDF;rintro⟨⟩;exact AA _ _ (IN 300 []) (by kernel_rfl) .body .sc
def B78:Code:=A0 Tryz.f78
def b78:Tryz.f78.body=some B78:=by kernel_rfl
def I1(s:ByteArray)(y1:Int)(i7:Int):Option (Lp Int Unit (Tk×Bool)):=cond (Et i7 y1) ((Hu s.data.toList i7).bind λc2=>(Gu ((c2.toNat:Nat):Int)).bind λy3=>cond y3 (some (.rt ((⟨0,ByteArray.empty,0⟩:Tk),false))) (some (.nx (Bt i7 1)))) (some (.ex ()))
def LC(s:ByteArray)(at_:Int):Option (Tk×Bool):=(La s at_).bind λy1=>(L6 (λx=>I1  s y1 x) at_).bind (LZ (λ(_:Unit)=>(Qq s at_ y1).bind λs5=>cond (Nv (LV y1 at_) 16) (some ((⟨1,s5,at_⟩:Tk),true)) (some ((⟨1,s5,at_⟩:Tk),false))) (λv=>some v))
def W4{s:ByteArray}{at_:Int}{yR:(Tk×Bool)}(h:LC  s at_=some yR):Pure P (G mx) 78 [.zs s,.zi at_] (.CZ [.agg (Gz yR.1),.zb yR.2]):=by
 unfold LC at h;refine CN Hd.mixed Hd.Aa (Au Tryz.func78 b78 ?_) (A1 rfl (A1 rfl rfl)) (A1 (BM.Cp yR.1) (A1 rfl rfl));revert h;refine Aq λy1 B7=>?_;refine Pg (λQ v=>Ku P Tryz.f78 0 Q (.CZ [.agg (Gz v.1),.zb v.2])) (λ(i7:Int) (j0:List Value)=>fr 32 [(0,.zs s),(1,.zi at_),(4,.ptr 0 0),(6,.zi y1),(7,.zi i7)] [5,14,20,31] j0) (λ(i7:Int)=>⟨[(0,.cells [.zi 0,.zs ByteArray.empty,.zi 0])],1,[],0⟩) (λ(_:Unit) (jx:List Value)=>fr 32 [(0,.zs s),(1,.zi at_),(4,.ptr 0 0),(6,.zi y1)] [5,14,20,31] jx) (λ(_:Unit)=>⟨[(0,.cells [.zi 0,.zs ByteArray.empty,.zi 0])],1,[],0⟩) [bF] (G4 [] 0 (sb B78 116) [.code (sb B78 15)] (Ac 300 [AG (Sr B7)]) (by kernel_rfl)) ?_ ?_ (λv h=>by cases h;exact .outer .body);rintro i7 j0 r k;show I1  s y1 i7=some r->_;unfold I1;refine Ag (λAW=>?_) λAW=>?_;refine Aq λc2 gK=>?_;refine Aq λy3 Fl=>?_;refine Ag (λhv=>?_) λhv=>?_;subst hv;rintro⟨⟩;exact AA _ _ (Ac 300 [pb AW,Sl (Ji gK),AG (FC Fl)]) (by kernel_rfl) (.Gb k) (.plain (A1 (BM.Cp (⟨0,ByteArray.empty,0⟩:Tk)) (A1 rfl rfl)));subst hv;rintro⟨⟩;exact G6 (Ac 300 [pb AW,Sl (Ji gK),AG (FC Fl),pk]) (by kernel_rfl) (k (js 4 j0 [(1,bT),(2,bF)]));rintro⟨⟩;exact Dx (Ac 300 [pb AW]) (by kernel_rfl) (k (js 4 j0 [(1,bF)]));rintro⟨⟩ amX;refine Aq λs5 hs5=>?_;refine Ag (λhb2=>?_) λhb2=>?_;rintro⟨⟩;exact AA _ _ (IN 300 [OO (Iu hs5),pk,pb hb2]) (by kernel_rfl) .body (.plain (A1 (BM.Cp (⟨1,s5,at_⟩:Tk)) (A1 rfl rfl)));rintro⟨⟩;exact AA _ _ (IN 300 [OO (Iu hs5),pk,pb hb2]) (by kernel_rfl) .body (.plain (A1 (BM.Cp (⟨1,s5,at_⟩:Tk)) (A1 rfl rfl)))
def B80:Code:=A0 Tryz.f80
def b80:Tryz.f80.body=some B80:=by kernel_rfl
def Kf(s:ByteArray)(y1:Int)(i7:Int):Option (Lp Int Unit (Tk×Bool)):=cond (Et i7 y1) ((Hu s.data.toList i7).bind λc2=>(Gu ((c2.toNat:Nat):Int)).bind λy3=>cond y3 (some (.nx (Bt i7 1))) (some (.rt ((⟨0,ByteArray.empty,0⟩:Tk),false)))) (some (.ex ()))
def MX(s:ByteArray)(at_:Int):Option (Tk×Bool):=(La s at_).bind λy1=>(L6 (λx=>Kf  s y1 x) at_).bind (LZ (λ(_:Unit)=>(Qq s at_ y1).bind λs5=>cond (CV (LV y1 at_) 3) (some ((⟨2,s5,at_⟩:Tk),true)) (some ((⟨2,s5,at_⟩:Tk),false))) (λv=>some v))
def Y2{s:ByteArray}{at_:Int}{yR:(Tk×Bool)}(h:MX  s at_=some yR):Pure P (G mx) 80 [.zs s,.zi at_] (.CZ [.agg (Gz yR.1),.zb yR.2]):=by
 unfold MX at h;refine CN Hd.mixed Hd.Aa (Au Tryz.func80 b80 ?_) (A1 rfl (A1 rfl rfl)) (A1 (BM.Cp yR.1) (A1 rfl rfl));revert h;refine Aq λy1 B7=>?_;refine Pg (λQ v=>Ku P Tryz.f80 0 Q (.CZ [.agg (Gz v.1),.zb v.2])) (λ(i7:Int) (j0:List Value)=>fr 33 [(0,.zs s),(1,.zi at_),(4,.ptr 0 0),(6,.zi y1),(7,.zi i7)] [5,14,20,21,32] j0) (λ(i7:Int)=>⟨[(0,.cells [.zi 0,.zs ByteArray.empty,.zi 0])],1,[],0⟩) (λ(_:Unit) (jx:List Value)=>fr 33 [(0,.zs s),(1,.zi at_),(4,.ptr 0 0),(6,.zi y1)] [5,14,20,21,32] jx) (λ(_:Unit)=>⟨[(0,.cells [.zi 0,.zs ByteArray.empty,.zi 0])],1,[],0⟩) [bF] (G4 [] 0 (sb B80 116) [.code (sb B80 15)] (Ac 300 [AG (Sr B7)]) (by kernel_rfl)) ?_ ?_ (λv h=>by cases h;exact .outer .body);rintro i7 j0 r k;show Kf  s y1 i7=some r->_;unfold Kf;refine Ag (λAW=>?_) λAW=>?_;refine Aq λc2 gK=>?_;refine Aq λy3 Fl=>?_;refine Ag (λhv=>?_) λhv=>?_;subst hv;rintro⟨⟩;exact G6 (Ac 300 [pb AW,Sl (Ji gK),AG (FC Fl),pk]) (by kernel_rfl) (k [(jv j0 0),bT,bT,bF,(jv j0 4)]);subst hv;rintro⟨⟩;exact AA _ _ (Ac 300 [pb AW,Sl (Ji gK),AG (FC Fl)]) (by kernel_rfl) (.Gb k) (.plain (A1 (BM.Cp (⟨0,ByteArray.empty,0⟩:Tk)) (A1 rfl rfl)));rintro⟨⟩;exact Dx (Ac 300 [pb AW]) (by kernel_rfl) (k (js 5 j0 [(1,bF)]));rintro⟨⟩ amX;refine Aq λs5 hs5=>?_;refine Ag (λhb2=>?_) λhb2=>?_;rintro⟨⟩;exact AA _ _ (IN 300 [OO (Iu hs5),pk,pb hb2]) (by kernel_rfl) .body (.plain (A1 (BM.Cp (⟨2,s5,at_⟩:Tk)) (A1 rfl rfl)));rintro⟨⟩;exact AA _ _ (IN 300 [OO (Iu hs5),pk,pb hb2]) (by kernel_rfl) .body (.plain (A1 (BM.Cp (⟨2,s5,at_⟩:Tk)) (A1 rfl rfl)))
def B81:Code:=A0 Tryz.f81
def b81:Tryz.f81.body=some B81:=by kernel_rfl
def KN  :Option (List ByteArray):=some [GP,HH,G9,Fy,JC,IK,Oo,Lh,PD,EC,T4,VW,eZ,Z0,Vb,RL,T5]
def T7{yR:(List ByteArray)}(h:KN  =some yR):Pure P (G mx) 81 [] (.sl .lost yR.length (rows stC yR)):=by
 unfold KN at h;refine CN Hd.mixed Hd.Aa (Au Tryz.func81 b81 ?_) rfl (eK.Ky yR);revert h;rintro⟨⟩;exact AA (v:=.sl .full 17 [.zs GP,.zs HH,.zs G9,.zs Fy,.zs JC,.zs IK,.zs Oo,.zs Lh,.zs PD,.zs EC,.zs T4,.zs VW,.zs eZ,.zs Z0,.zs Vb,.zs RL,.zs T5]) _ _ (Ac 300 []) (by kernel_rfl) .body (.wn (.d (.r (.r (.r (.r (.r (.r (.r (.r (.r (.r (.r (.r (.r (.r (.r (.r (.r .nil))))))))))))))))) (eK.eq [GP,HH,G9,Fy,JC,IK,Oo,Lh,PD,EC,T4,VW,eZ,Z0,Vb,RL,T5]).symm .nil) (eK.Ky [GP,HH,G9,Fy,JC,IK,Oo,Lh,PD,EC,T4,VW,eZ,Z0,Vb,RL,T5]))
def B42:Code:=A0 Tryz.f42
def b42:Tryz.f42.body=some B42:=by kernel_rfl
def JV(s:ByteArray)(at_:Int)(i0:Nat)(e0:ByteArray) :Option (Lp Unit Unit (Tk×Bool)):=(Is s at_ e0).bind λy9=>cond y9 (some (.rt ((⟨6,e0,at_⟩:Tk),true))) (some (.nx ()))
def KB(s:ByteArray)(at_:Int):Option (Tk×Bool):=(Hu s.data.toList at_).bind λc1=>(Gt ((c1.toNat:Nat):Int)).bind λy2=>cond y2 ((IV s at_).bind λ(LX,E3)=>some (LX,E3)) ((I0 ((c1.toNat:Nat):Int)).bind λy4=>cond y4 ((LC s at_).bind λ(Nb,G7)=>some (Nb,G7)) ((Gu ((c1.toNat:Nat):Int)).bind λy6=>cond y6 ((MX s at_).bind λ(qV,RN)=>some (qV,RN)) ((KN).bind λy8=>(Rt y8.length (CL (λi y x=>JV  s at_ i y ) (λx=>()) (y8.drop 0) 0 ())).bind (LZ (λ(_:Unit)=>some ((⟨0,ByteArray.empty,0⟩:Tk),false)) (λv=>some v)))))
def Qj{s:ByteArray}{at_:Int}{yR:(Tk×Bool)}(h:KB  s at_=some yR):Pure P (G mx) 42 [.zs s,.zi at_] (.CZ [.agg (Gz yR.1),.zb yR.2]):=by
 unfold KB at h;refine CN Hd.mixed Hd.Aa (Au Tryz.func42 b42 ?_) (A1 rfl (A1 rfl rfl)) (A1 (BM.Cp yR.1) (A1 rfl rfl));revert h;refine Aq λc1 hc1=>?_;refine Aq λy2 D1=>?_;let o1:List (PC P (G mx)):=[Sl (Ji hc1),AG (EE D1)];refine Ag (λhv=>?_) λhv=>?_;subst hv;refine Aq ?_;rintro⟨LX,E3⟩ Fl;dsimp only;rintro⟨⟩;exact AA _ _ (Ac 300 (o1++[AG (T8 Fl)])) (by kernel_rfl) .body (.plain (A1 (BM.Cp LX) (A1 rfl rfl)));subst hv;refine Aq λy4 JM=>?_;let o2:List (PC P (G mx)):=o1++[Sl (Ji hc1),AG (Qi JM)];refine Ag (λhv=>?_) λhv=>?_;subst hv;refine Aq ?_;rintro⟨Nb,G7⟩ J6;dsimp only;rintro⟨⟩;exact AA _ _ (Ac 300 (o2++[AG (W4 J6)])) (by kernel_rfl) .body (.plain (A1 (BM.Cp Nb) (A1 rfl rfl)));subst hv;refine Aq λy6 LS=>?_;refine Ag (λhv=>?_) λhv=>?_;subst hv;refine Aq ?_;rintro⟨qV,RN⟩ RU;dsimp only;rintro⟨⟩;exact AA _ _ (Ac 300 (o2++[Sl (Ji hc1),AG (FC LS),AG (Y2 RU)])) (by kernel_rfl) .body (.plain (A1 (BM.Cp qV) (A1 rfl rfl)));subst hv;refine Aq λy8 NP=>?_;refine RF (λQ v=>Ku P Tryz.f42 0 Q (.CZ [.agg (Gz v.1),.zb v.2])) (λi0 (_:Unit) (j0:List Value)=>fr 59 [(0,.zs s),(1,.zi at_),(4,.ptr 0 0),(6,.sl .lost y8.length (rows stC y8)),(7,.zi ((i0:Nat):Int))] [5,8,12,17,18,22,27,28,32,37,42,51] j0) (λ(_:Unit)=>⟨[(0,.cells [.zi 0,.zs ByteArray.empty,.zi 0])],1,[],0⟩) (λ(_:Unit) (jx:List Value)=>fr 59 [(4,.ptr 0 0)] [5,8,12,17,18,22,27,28,32,37,42,51] jx) (λ(_:Unit)=>⟨[(0,.cells [.zi 0,.zs ByteArray.empty,.zi 0])],1,[],0⟩) [bF,bF,bF,undef,bF,bF,undef,bF,bF] (G4 [] 1 (sb B42 244) [.code (sb B42 31)] (Ac 300 (o2++[Sl (Ji hc1),AG (FC LS),AG (T7 NP)])) (by kernel_rfl)) ?_ ?_ ?_ (λv h=>by cases h;exact .outer .body);rintro i0 ⟨⟩ j0 hge hq;exact Dx (Ac 300 [pb (gM hge)]) (by kernel_rfl) (hq (js 12 j0 [(10,bF)]));rintro i0 e0 ⟨⟩ j0 r PX OU PK k;show JV  s at_ i0 e0 =some r->_;unfold JV;refine Aq λy9 UR=>?_;refine Ag (λhv=>?_) λhv=>?_;subst hv;rintro⟨⟩;exact AA _ _ (Ac 300 [pb (Xo OU),Jp (axT .lost PX),AG (Jq UR),Jp (axT .lost PX)]) (by kernel_rfl) (.Gb k) (.plain (A1 (BM.Cp (⟨6,e0,at_⟩:Tk)) (A1 rfl rfl)));subst hv;rintro⟨⟩;exact G6 (Ac 300 [pb (Xo OU),Jp (axT .lost PX),AG (Jq UR),pi PK]) (by kernel_rfl) (k (js 12 j0 [(10,bT),(11,bF)]));rintro⟨⟩ aeC;rintro⟨⟩;exact AA _ _ (IN 300 []) (by kernel_rfl) .body (.plain (A1 (BM.Cp (⟨0,ByteArray.empty,0⟩:Tk)) (A1 rfl rfl)))
def B16:Code:=A0 Tryz.f16
def b16:Tryz.f16.body=some B16:=by kernel_rfl
def CS(s:ByteArray)(JB:(List Tk))(zK:Int):Option (Lp ((List Tk)×Int) (List Tk) ((List Tk)×Int×Int)):=cond (Et zK ((s.data.toList.length:Nat):Int)) (cond (CV ((JB.length:Nat):Int) 2000) (some (.rt ([],2,zK))) ((KB s zK).bind λ(LX,E3)=>cond E3 (MH (JB.length+1) ((Kd s (Bt zK ((LX.text.data.toList.length:Nat):Int))).bind λy5=>some (.nx ((JB++[LX]),y5)))) (some (.rt ([],61,zK))))) (some (.ex JB))
def K9(s:ByteArray):Option ((List Tk)×Int×Int):=cond (Et 6000 ((s.data.toList.length:Nat):Int)) (some ([],2,0)) ((Kd s 0).bind λy1=>(L6 (λx=>CS  s x.1 x.2) ([],y1)).bind (LZ (λ(YX:(List Tk))=>some (YX,0,0)) (λv=>some v)))
def Sn{s:ByteArray}{yR:((List Tk)×Int×Int)}(h:K9  s=some yR):Pure P (G mx) 16 [.zs s] (.CZ [.sl .lost yR.1.length (rows Gz yR.1),.zi yR.2.1,.zi yR.2.2]):=by
 unfold K9 at h;refine CN Hd.mixed Hd.Aa (Au Tryz.func16 b16 ?_) (A1 rfl rfl) (A1 (BM.Ky yR.1) (A1 rfl (A1 rfl rfl)));revert h;refine Ag (λAW=>?_) λAW=>?_;rintro⟨⟩;exact AA (v:=.CZ [.sl .full 0 [],.zi 2,.zi 0]) _ _ (Ac 300 [pb AW]) (by kernel_rfl) .body (.wn (.u (.z (.r (.r .nil))) .nil) (A1 (BM.Ky []) (A1 rfl (A1 rfl rfl))));refine Aq λy1 B7=>?_;refine Pg (λQ v=>Ku P Tryz.f16 0 Q (.CZ [.sl .lost v.1.length (rows Gz v.1),.zi v.2.1,.zi v.2.2])) (λ((JB,zK):((List Tk)×Int)) (j0:List Value)=>fr 43 [(0,.zs s),(5,.sl (.row 0 3) JB.length (rows Gz JB)),(6,.zi zK)] [8,11,17,20,27,28,29] j0) (λ((JB,zK):((List Tk)×Int))=>⟨[],0,[(0,JB.length)],1⟩) (λ(JB:(List Tk)) (jx:List Value)=>fr 43 [(5,.sl (.row 0 3) JB.length (rows Gz JB))] [8,11,17,20,27,28,29] jx) (λ(JB:(List Tk))=>⟨[],0,[(0,JB.length)],1⟩) [undef,bF] (G4 [.t 5 3] 0 (sb B16 248) [.code (sb B16 63)] (Ac 300 [pb AW,AG (Rz B7)]) (by kernel_rfl)) ?_ ?_ (λv h=>by cases h;exact .outer .body);rintro⟨JB,zK⟩ j0 r k;show CS  s JB zK=some r->_;unfold CS;refine Ag (λFe=>?_) λFe=>?_;refine Ag (λHw=>?_) λHw=>?_;rintro⟨⟩;exact AA (v:=.CZ [.sl .full 0 [],.zi 2,.zi zK]) _ _ (Ac 300 [pb Fe,pb Hw]) (by kernel_rfl) (.Gb k) (.wn (.u (.z (.r (.r .nil))) .nil) (A1 (BM.Ky []) (A1 rfl (A1 rfl rfl))));refine Aq ?_;rintro⟨LX,E3⟩ Fl;dsimp only;refine Ag (λhv=>?_) λhv=>?_;subst hv;refine K1 λhl4=>?_;refine Aq λy5 J6=>?_;rintro⟨⟩;exact H3 Hd.Aa [⟨.sl (.row 0 3) ((JB++[LX]).length) (rows Gz (JB++[LX])),.sl (.row 0 3) ((JB++[LX]).length) (rows Gz (JB++[LX])),(.under (Zn rfl (Ce _ _ (BM.A1 (JB++[LX])))))⟩] [] (Ac 300 [pb Fe,pb Hw,AG (Qj Fl),Qg (aBU (.row 0 3) JB [LX] (o:=.full) (n:=1) (ns:=(Gz LX)) (BM.wn [LX] (.r (.r (.r .nil)))) rfl rfl (by simp) (by simpa using hl4)),pk,AG (Rz J6)]) (by kernel_rfl) (k [bT,(jv j0 1),bT,bF,bT,bT,bF])
 subst hv;rintro⟨⟩;exact AA (v:=.CZ [.sl .full 0 [],.zi 61,.zi zK]) _ _ (Ac 300 [pb Fe,pb Hw,AG (Qj Fl)]) (by kernel_rfl) (.Gb k) (.wn (.u (.z (.r (.r .nil))) .nil) (A1 (BM.Ky []) (A1 rfl (A1 rfl rfl))));rintro⟨⟩;exact Dx (Ac 300 [pb Fe]) (by kernel_rfl) (k (js 7 j0 [(2,bF)]));rintro YX aDG;rintro⟨⟩;exact AA (v:=.CZ [.sl (.row 0 3) YX.length (rows Gz YX),.zi 0,.zi 0]) _ _ (IN 300 []) (by kernel_rfl) .body (.wn (.u (.s rfl (.r (.r .nil))) .nil) (A1 (BM.Ky YX) (A1 rfl (A1 rfl rfl))))
def B11:Code:=A0 Tryz.f11
def b11:Tryz.f11.body=some B11:=by kernel_rfl
def JO(s:ByteArray):Option Bool:=(K9 s).bind λ(Ej,Bj,zH)=>cond (CV Bj 0) (some true) (some false)
def UZ{s:ByteArray}{yR:Bool}(h:JO  s=some yR):Pure P (G mx) 11 [.zs s] (.zb yR):=by
 unfold JO at h;refine CN Hd.mixed Hd.Aa (Au Tryz.func11 b11 ?_) (A1 rfl rfl) rfl;revert h;refine Aq ?_;rintro⟨Ej,Bj,zH⟩ B7;dsimp only;refine Ag (λAW=>?_) λAW=>?_;rintro⟨⟩;exact rT [AG (Sn B7),pb AW];rintro⟨⟩;exact rT [AG (Sn B7),pb AW]
def B39:Code:=A0 Tryz.f39
def b39:Tryz.f39.body=some B39:=by kernel_rfl
def LD(HU:Nd->Int->Option Int)(Hg:Int)(i0:Nat)(e0:Nd)(JB:Int):Option (Lp Int Int Int):=cond (Et JB Hg) ((HU e0 (LV Hg JB)).bind λy1=>some (.nx (Bt JB y1))) (some (.ex JB))
def Mq(HU:Nd->Int->Option Int)(n:Nd)(Hg:Int):Option Int:=cond (Nv Hg 0) (some 0) ((Rt n.kids.length (CL (λi y x=>LD HU Hg i y x) (λx=>x) (n.kids.drop 0) 0 1)).bind (LZ (λ(afK:Int)=>some afK) (λv=>some v)))
def VZ(HU:Nd->Int->Option Int)(YB:∀{n:Nd} {Hg:Int} {yR:Int},HU n Hg=some yR->Pure P (G mx) 39 [.agg (CP n),.zi Hg] (.zi yR)){n:Nd}{Hg:Int}{yR:Int}(h:Mq HU n Hg=some yR):Pure P (G mx) 39 [.agg (CP n),.zi Hg] (.zi yR):=by
 unfold Mq at h;refine CN Hd.mixed Hd.Aa (Au Tryz.func39 b39 ?_) (A1 (AE.Cp n) (A1 rfl rfl)) rfl;revert h;refine Ag (λAW=>?_) λAW=>?_;rintro⟨⟩;exact rT [pb AW];refine RF (λQ v=>Ku P Tryz.f39 0 Q (.zi v)) (λi0 (JB:Int) (j0:List Value)=>fr 33 [(1,.zi Hg),(2,.ptr 0 0),(5,.zi JB),(6,.zi ((i0:Nat):Int))] [8,13,14,17,18] j0) (λ(JB:Int)=>⟨[(0,.cells (CP n))],1,[],0⟩) (λ(JB:Int) (jx:List Value)=>fr 33 [(5,.zi JB)] [8,13,14,17,18] jx) (λ(JB:Int)=>⟨[(0,.cells (CP n))],1,[],0⟩) [bF] (G4 [] 0 (sb B39 244) [.code (sb B39 31)] (Ac 300 [pb AW]) (by kernel_rfl)) ?_ ?_ ?_ (λv h=>by cases h;exact .outer .body);rintro i0 JB j0 hge hq;exact Dx (Ac 300 [pb (gM hge)]) (by kernel_rfl) (hq [(jv j0 0),bF,bF,undef,bF]);rintro i0 e0 JB j0 r PX OU PK k;show LD HU Hg i0 e0 JB=some r->_;unfold LD;refine Ag (λhb2=>?_) λhb2=>?_;refine Aq λy1 B7=>?_;rintro⟨⟩;exact G6 (Ac 300 [pb (Xo OU),pb hb2,Jp (J7 .lost PX),pk,AG (YB B7),pk,pi PK]) (by kernel_rfl) (k [(jv j0 0),bT,bT,bT,bT]);rintro⟨⟩;exact Dx (Ac 300 [pb (Xo OU),pb hb2]) (by kernel_rfl) (k [(jv j0 0),bT,bT,bF,bF]);rintro afK jI;rintro⟨⟩;exact AA _ _ (IN 300 []) (by kernel_rfl) .body .sc
def Gv:Nat->Nd->Int->Option Int
 | 0,_,_=>none
 | qn+1,n,Hg=>Mq (Gv qn) n Hg
def W5:∀qn:Nat,∀{n:Nd} {Hg:Int} {yR:Int},Gv qn n Hg=some yR->Pure P (G mx) 39 [.agg (CP n),.zi Hg] (.zi yR):=by
 intro qn
 induction qn with
 | zero=>exact(λh=>by simp only[Gv] at h;cases h)
 | succ qn ih=>exact(λh=>VZ (Gv qn) ih (by rw[Gv] at h;exact h))
def PF(n:Nd)(Hg:Int):Option Int:=wC (λqn=>Gv qn n Hg)
def Su{n:Nd}{Hg:Int}{yR:Int}(h:PF n Hg=some yR):Pure P (G mx) 39 [.agg (CP n),.zi Hg] (.zi yR):=by
 obtain⟨qn,h⟩:=iQ h;exact(W5 qn) h
def B13:Code:=A0 Tryz.f13
def b13:Tryz.f13.body=some B13:=by kernel_rfl
def Lb(n:Nd)(Hg:Int):Option Bool:=(PF n (Bt Hg 1)).bind λy1=>cond (Nv y1 Hg) (some true) (some false)
def Sv{n:Nd}{Hg:Int}{yR:Bool}(h:Lb  n Hg=some yR):Pure P (G mx) 13 [.agg (CP n),.zi Hg] (.zb yR):=by
 unfold Lb at h;refine CN Hd.mixed Hd.Aa (Au Tryz.func13 b13 ?_) (A1 (AE.Cp n) (A1 rfl rfl)) rfl;revert h;refine Aq λy1 B7=>?_;refine Ag (λAW=>?_) λAW=>?_;rintro⟨⟩;exact rT [pk,AG (Su B7),pb AW];rintro⟨⟩;exact rT [pk,AG (Su B7),pb AW]
def B14:Code:=A0 Tryz.f14
def b14:Tryz.f14.body=some B14:=by kernel_rfl
def Ii(F9:Nd->Int->Option Nd)(VE:Int)(i0:Nat)(e0:Nd)(Re:(List Nd)):Option (Lp (List Nd) (List Nd) Nd):=(F9 e0 VE).bind λy2=>MH (Re.length+1) (some (.nx (Re++[y2])))
def KJ(F9:Nd->Int->Option Nd)(n:Nd)(VE:Int):Option Nd:=(Rt n.kids.length (CL (λi y x=>Ii F9 VE i y x) (λx=>x) (n.kids.drop 0) 0 [])).bind (LZ (λ(Zx:(List Nd))=>some (⟨n.kind,n.name,n.unit,n.n,n.fr,n.to,n.known,n.Cz,Zx,(Bt n.AH VE)⟩:Nd)) (λv=>some v))
def TP(F9:Nd->Int->Option Nd)(VK:∀{n:Nd} {VE:Int} {yR:Nd},F9 n VE=some yR->Pure P (G mx) 14 [.agg (CP n),.zi VE] (.agg (CP yR))){n:Nd}{VE:Int}{yR:Nd}(h:KJ F9 n VE=some yR):Pure P (G mx) 14 [.agg (CP n),.zi VE] (.agg (CP yR)):=by
 unfold KJ at h;refine CN Hd.mixed Hd.Aa (Au Tryz.func14 b14 ?_) (A1 (AE.Cp n) (A1 rfl rfl)) (AE.Cp yR);revert h;refine RF (λQ v=>Ku P Tryz.f14 0 Q (.agg (CP v))) (λi0 (Re:(List Nd)) (j0:List Value)=>fr 32 [(1,.zi VE),(2,.ptr 0 0),(4,.ptr 1 0),(16,.sl .lost n.kids.length (BH n.kids)),(17,.zi ((n.kids.length:Nat):Int)),(18,.zi ((i0:Nat):Int))] [19] j0) (λ(Re:(List Nd))=>⟨[(1,.cells SE),(0,.cells [.zi n.kind,.zs n.name,.zs n.unit,.zi n.n,.zi n.fr,.zi n.to,.zi n.known,.zi n.Cz.den,.sl .lost n.Cz.ps.length (rows IJ n.Cz.ps),.sl (.row 0 11) Re.length (BH Re),.zi (Bt n.AH VE)])],2,[(0,Re.length)],1⟩) (λ(Re:(List Nd)) (jx:List Value)=>fr 32 [(2,.ptr 0 0),(4,.ptr 1 0)] [19] jx) (λ(Re:(List Nd))=>⟨[(1,.cells SE),(0,.cells [.zi n.kind,.zs n.name,.zs n.unit,.zi n.n,.zi n.fr,.zi n.to,.zi n.known,.zi n.Cz.den,.sl .lost n.Cz.ps.length (rows IJ n.Cz.ps),.sl (.row 0 11) Re.length (BH Re),.zi (Bt n.AH VE)])],2,[(0,Re.length)],1⟩) [] (G4 [.b 0 9 11] 0 (sb B14 500) [.code (sb B14 63)] (Ac 300 [pk]) (by kernel_rfl)) ?_ ?_ ?_ (λv h=>by cases h;exact .outer .body);rintro i0 Re j0 hge hq;exact Dx (Ac 300 [pb (gM hge)]) (by kernel_rfl) (hq [bF]);rintro i0 e0 Re j0 r PX OU PK k;show Ii F9 VE i0 e0 Re=some r->_;unfold Ii;refine Aq λy2 D1=>?_;refine K1 λhl3=>?_;rintro⟨⟩;exact H3 Hd.Aa [fq (AE.Ky n.kids)] [kL,bu [.zi n.kind,.zs n.name,.zs n.unit,.zi n.n,.zi n.fr,.zi n.to,.zi n.known,.zi n.Cz.den,.sl .lost n.Cz.ps.length (rows IJ n.Cz.ps),.sl (.row 0 11) ((Re++[y2]).length) (BH (Re++[y2])),.zi (Bt n.AH VE)] (IX rfl (IX rfl (IX rfl (IX rfl (IX rfl (IX rfl (IX rfl (IX rfl (IX (GA _ _ (P4.Ky n.Cz.ps)) (IX (Zn rfl (Ce _ _ (AE.A1 (Re++[y2])))) (IX rfl rfl)))))))))))] (Ac 300 [pb (Xo OU),Jp (J7 .lost PX),kJ,AG (VK D1),Qg (Sb (.row 0 11) Re [y2] (o:=.full) (n:=1) (ns:=(CP y2)) (AE.wn [y2] (.r (.r (.r (.r (.r (.r (.r (.r (.r (.r (.r .nil)))))))))))) rfl rfl (by simp) (by simpa using hl3)),pi PK]) (by kernel_rfl) (k [bT])
 rintro Zx amX;rintro⟨⟩;exact AA (v:=.agg [.zi n.kind,.zs n.name,.zs n.unit,.zi n.n,.zi n.fr,.zi n.to,.zi n.known,.zi n.Cz.den,.sl .lost n.Cz.ps.length (rows IJ n.Cz.ps),.sl (.row 0 11) Zx.length (BH Zx),.zi (Bt n.AH VE)]) _ _ (IN 300 []) (by kernel_rfl) .body (.wn (.g (.r (.r (.r (.r (.r (.r (.r (.r (.r (.s rfl (.r .nil))))))))))) .nil) (AE.Cp (⟨n.kind,n.name,n.unit,n.n,n.fr,n.to,n.known,n.Cz,Zx,(Bt n.AH VE)⟩:Nd)))
def Eu:Nat->Nd->Int->Option Nd
 | 0,_,_=>none
 | qn+1,n,VE=>KJ (Eu qn) n VE
def UY:∀qn:Nat,∀{n:Nd} {VE:Int} {yR:Nd},Eu qn n VE=some yR->Pure P (G mx) 14 [.agg (CP n),.zi VE] (.agg (CP yR)):=by
 intro qn
 induction qn with
 | zero=>exact(λh=>by simp only[Eu] at h;cases h)
 | succ qn ih=>exact(λh=>TP (Eu qn) ih (by rw[Eu] at h;exact h))
def IT(n:Nd)(VE:Int):Option Nd:=wC (λqn=>Eu qn n VE)
def P3{n:Nd}{VE:Int}{yR:Nd}(h:IT n VE=some yR):Pure P (G mx) 14 [.agg (CP n),.zi VE] (.agg (CP yR)):=by
 obtain⟨qn,h⟩:=iQ h;exact(UY qn) h
def B3:Code:=A0 Tryz.f3
def b3:Tryz.f3.body=some B3:=by kernel_rfl
def Gh(a:ByteArray)(b:ByteArray):Option Bool:=(J8).bind λy1=>Rt (a.data.toList.length+ZZ.data.toList.length) (Rt ((a++ZZ).data.toList.length+b.data.toList.length) ((JO ((a++ZZ)++b)).bind λy4=>cond y4 ((Cf a).bind λ(Nb,G7)=>(Cf b).bind λ(ZJ,NL)=>cond (Et 0 (Bt ((G7.length:Nat):Int) ((NL.length:Nat):Int))) (some y1) ((Lb Nb 999).bind λy7=>cond y7 ((Lb ZJ 999).bind λy8=>cond y8 ((Cf ((a++ZZ)++b)).bind λ(nD,Vw)=>MH (([]:List Nd).length+Nb.kids.length) (cond (CV ((Nb.kids.length:Nat):Int) 0) ((IT ZJ (Bt ((a.data.toList.length:Nat):Int) 1)).bind λy11=>MH (([]:List Nd).length+y11.kids.length) (cond (CV ((y11.kids.length:Nat):Int) 0) (cond y1 (cond (CV ((Vw.length:Nat):Int) 0) ((Gp nD (⟨1,ByteArray.empty,ByteArray.empty,0,0,0,0,(⟨0,[]⟩:Fn),[],0⟩:Nd)).bind λy13=>some y13) (some false)) (some false)) (cond y1 (cond (CV ((Vw.length:Nat):Int) 0) ((Gp nD (⟨1,ByteArray.empty,ByteArray.empty,0,0,0,0,(⟨0,[]⟩:Fn),(([]:List Nd)++y11.kids),0⟩:Nd)).bind λy14=>some y14) (some false)) (some false)))) ((IT ZJ (Bt ((a.data.toList.length:Nat):Int) 1)).bind λy15=>MH ((([]:List Nd)++Nb.kids).length+y15.kids.length) (cond (CV ((y15.kids.length:Nat):Int) 0) (cond y1 (cond (CV ((Vw.length:Nat):Int) 0) ((Gp nD (⟨1,ByteArray.empty,ByteArray.empty,0,0,0,0,(⟨0,[]⟩:Fn),(([]:List Nd)++Nb.kids),0⟩:Nd)).bind λy17=>some y17) (some false)) (some false)) (cond y1 (cond (CV ((Vw.length:Nat):Int) 0) ((Gp nD (⟨1,ByteArray.empty,ByteArray.empty,0,0,0,0,(⟨0,[]⟩:Fn),((([]:List Nd)++Nb.kids)++y15.kids),0⟩:Nd)).bind λy18=>some y18) (some false)) (some false)))))) (some y1)) (some y1))) (some y1)))
def QR{a:ByteArray}{b:ByteArray}{yR:Bool}(h:Gh  a b=some yR):Pure P (G mx) 3 [.zs a,.zs b] (.zb yR):=by
 unfold Gh at h;refine CN Hd.mixed Hd.Aa (Au Tryz.func3 b3 ?_) (A1 rfl (A1 rfl rfl)) rfl;revert h;refine Aq λy1 B7=>?_;refine aDN λhl2=>?_;refine aDN λhl3=>?_;refine Aq λy4 JM=>?_;let o1:List (PC P (G mx)):=[AG (WY B7),ND (alD hl2 (.tmp 14) (.const (.string ZZ))),ND (alD hl3 (.tmp 15) (.tmp 16)),AG (UZ JM)];refine Ag (λhv=>?_) λhv=>?_;subst hv;refine Aq ?_;rintro⟨Nb,G7⟩ J6;dsimp only;refine Aq ?_;rintro⟨ZJ,NL⟩ LS;dsimp only;let o2:List (PC P (G mx)):=o1++[AG (Hi J6),AG (Hi LS),pk];refine Ag (λAW=>?_) λAW=>?_;rintro⟨⟩;exact rT (o2++[pb AW]);refine Aq λy7 RU=>?_;let o3:List (PC P (G mx)):=o2++[pb AW,AG (Sv RU)];refine Ag (λhv=>?_) λhv=>?_;subst hv;refine Aq λy8 NP=>?_;let o4:List (PC P (G mx)):=o3++[AG (Sv NP)];refine Ag (λhv=>?_) λhv=>?_;subst hv;refine Aq ?_;rintro⟨nD,Vw⟩ UR;dsimp only;refine K1 λhl10=>?_;let o5:List (PC P (G mx)):=o4++[ND (alD hl2 (.tmp 49) (.const (.string ZZ))),ND (alD hl3 (.tmp 50) (.tmp 51)),AG (Hi UR)];refine Ag (λhb2=>?_) λhb2=>?_;refine Aq λy11 VL=>?_;refine K1 λamL=>?_;let o6:List (PC P (G mx)):=o5++[ayX (λs=>alW .full ([]:List Nd) Nb.kids (o:=.lost) s (by have:=E8 hb2;omega) hl10),pk,AG (P3 VL)];refine Ag (λhb3=>?_) λhb3=>?_;let o7:List (PC P (G mx)):=o6++[ayX (λs=>alW .full ([]:List Nd) y11.kids (o:=.lost) s (by have:=E8 hb3;omega) amL)];refine Ag (λhv=>?_) λhv=>?_;subst hv;refine Ag (λFe=>?_) λFe=>?_;refine Aq λy13 TO=>?_;rintro⟨⟩;exact rT (o7++[pb Fe,GO (.r (.g (.r (.r (.r (.r (.r (.r (.r (.r (.z (.z (.r .nil))))))))))) .nil)) (KC TO)]);rintro⟨⟩;exact rT (o7++[pb Fe]);subst hv;rintro⟨⟩;exact rT o7;let o8:List (PC P (G mx)):=o6++[Qg (rZ .full ([]:List Nd) y11.kids (o:=.lost) (by have:=UL hb3;omega) amL)];refine Ag (λhv=>?_) λhv=>?_;subst hv;refine Ag (λHw=>?_) λHw=>?_;refine Aq λy14 VM=>?_;rintro⟨⟩;exact rT (o8++[pb Hw,GO (args:=[.agg (CP nD),.agg [.zi 1,.zs ByteArray.empty,.zs ByteArray.empty,.zi 0,.zi 0,.zi 0,.zi 0,.zi 0,.sl .full 0 [],.sl (.row 0 11) ((([]:List Nd)++y11.kids).length) (BH (([]:List Nd)++y11.kids)),.zi 0]]) (.r (.g (.r (.r (.r (.r (.r (.r (.r (.r (.z (.s rfl (.r .nil))))))))))) .nil)) (KC VM)]);rintro⟨⟩;exact rT (o8++[pb Hw]);subst hv;rintro⟨⟩;exact rT o8;refine Aq λy15 YE=>?_;refine K1 λaCM=>?_;let o9:List (PC P (G mx)):=o5++[Qg (rZ .full ([]:List Nd) Nb.kids (o:=.lost) (by have:=UL hb2;omega) hl10),pk,AG (P3 YE)];refine Ag (λIG=>?_) λIG=>?_;let gN:List (PC P (G mx)):=o9++[ayX (λs=>alW (.row 0 11) (([]:List Nd)++Nb.kids) y15.kids (o:=.lost) s (by have:=E8 IG;omega) aCM)];refine Ag (λhv=>?_) λhv=>?_;subst hv;refine Ag (λI4=>?_) λI4=>?_;refine Aq λy17 awX=>?_;rintro⟨⟩;exact rT (gN++[pb I4,GO (args:=[.agg (CP nD),.agg [.zi 1,.zs ByteArray.empty,.zs ByteArray.empty,.zi 0,.zi 0,.zi 0,.zi 0,.zi 0,.sl .full 0 [],.sl (.row 0 11) ((([]:List Nd)++Nb.kids).length) (BH (([]:List Nd)++Nb.kids)),.zi 0]]) (.r (.g (.r (.r (.r (.r (.r (.r (.r (.r (.z (.s rfl (.r .nil))))))))))) .nil)) (KC awX)]);rintro⟨⟩;exact rT (gN++[pb I4]);subst hv;rintro⟨⟩;exact rT gN;let pI:List (PC P (G mx)):=o9++[Qg (rZ (.row 0 11) (([]:List Nd)++Nb.kids) y15.kids (o:=.lost) (by have:=UL IG;omega) aCM)];refine Ag (λhv=>?_) λhv=>?_;subst hv;refine Ag (λKp=>?_) λKp=>?_;refine Aq λy18 adW=>?_;rintro⟨⟩;exact rT (pI++[pb Kp,GO (args:=[.agg (CP nD),.agg [.zi 1,.zs ByteArray.empty,.zs ByteArray.empty,.zi 0,.zi 0,.zi 0,.zi 0,.zi 0,.sl .full 0 [],.sl (.row 0 11) (((([]:List Nd)++Nb.kids)++y15.kids).length) (BH ((([]:List Nd)++Nb.kids)++y15.kids)),.zi 0]]) (.r (.g (.r (.r (.r (.r (.r (.r (.r (.r (.z (.s rfl (.r .nil))))))))))) .nil)) (KC adW)]);rintro⟨⟩;exact rT (pI++[pb Kp]);subst hv;rintro⟨⟩;exact rT pI;subst hv;rintro⟨⟩;exact rT o4;subst hv;rintro⟨⟩;exact rT o3;subst hv;rintro⟨⟩;exact rT o1
end Mo
end Go.Proofs.YtpbkhogolfegfaaGreatDoor
namespace Go.Proofs.YtpbkhogolfegfaaGreatDoor
open AI Go
namespace Mo
set_option maxRecDepth 100000
set_option maxHeartbeats 4000000
variable {mx:Int}
def B4:Code:=A0 Tryz.f4
def b4:Tryz.f4.body=some B4:=by kernel_rfl
def B6:Code:=A0 Tryz.f6
def b6:Tryz.f6.body=some B6:=by kernel_rfl
def B9:Code:=A0 Tryz.f9
def b9:Tryz.f9.body=some B9:=by kernel_rfl
end Mo
end Go.Proofs.YtpbkhogolfegfaaGreatDoor

namespace Go.Proofs.YtpbkhogolfegfaaGreatDoor
open AI Go
namespace Mo
set_option maxRecDepth 100000
set_option maxHeartbeats 4000000
def vX(s:ByteArray):Prop:=s.data.toList.length=3/\∀c∈s.data.toList,65<=c.toNat/\c.toNat<=90
def Vl(s:ByteArray):Prop:=s=Ha\/s=EF\/s=JQ\/vX s
def uY(c:UInt8):Prop:=(97<=c.toNat/\c.toNat<=122)\/(48<=c.toNat/\c.toNat<=57)\/c.toNat=95
def sP:List ByteArray:=[Tl,OX,Ig,acF,tM,rW,toS,VN,cG,SZ,QG,Ha,EF,JQ,anG,Tj,Mk,Pl,Tq,jW,PQ,U3,iA,Zm,TI,cW,LL,dF,QT,Vy,KT,FR,Ra]
def Rx(s:ByteArray):Prop:=(1<=s.data.toList.length/\s.data.toList.length<=16)/\(∃b,s.data.toList[0]?=some b/\97<=b.toNat/\b.toNat<=122)/\s∉sP/\∀c∈s.data.toList,uY c
def YT{n:Nd}(h:KU n):n.Cz.ps.length<=9223372036854775807/\n.kids.length<=9223372036854775807/\∀k∈n.kids,KU k:=by
 obtain⟨a,b,c⟩:=(P8 n).1 h;exact⟨a.1,b,c⟩
def aeW{α:Type}{l:List α}{P:α->Prop}:(∀(i:Nat) (y:α),l[i]?=some y->P y)↔∀y∈l,P y :=
 ⟨λh y hy=>(List.getElem?_of_mem hy).elim λi hi=>h i y hi,λh i y hi=>h y (List.mem_of_getElem? hi)⟩
def aeE(s:ByteArray):Im s=some (mb (s∈sP)):=by
 rw[Im];simp only[R8,L4,jO,ayF];refine smb ?_;simp only[sP,List.mem_cons,List.not_mem_nil,or_false]
def atV(s:ByteArray):s=ByteArray.empty↔s.data.toList.length=0:=by
 constructor;intro h;rw[h];rfl;intro h;apply ByteArray.ext;apply Array.ext';rw[List.eq_nil_of_length_eq_zero h];rfl
def rY(s:ByteArray):Ed s=some (mb (Rx s)):=by
 rw[Ed];simp only[R8,N8,L4,aeE,Option.bind_some];unfold Rx;by_cases h0:s=ByteArray.empty;rw[Cv h0];exact fM λh=>by have:=(atV s).1 h0;omega
 have h1:s.data.toList.length≠0:=λh=>h0 ((atV s).2 h);rw[Cy h0];by_cases h2:16 < ((s.data.toList.length:Nat):Int);rw[Cv h2];exact fM λh=>by omega
 rw[Cy h2];obtain⟨b,hb⟩:∃b,s.data.toList[0]?=some b:=⟨_,List.getElem?_eq_getElem (by omega)⟩
 rw[hb,eH (v:=false) (P:=λ_ y=>uY y) (by omega) (λi y _=>by
   simp only[II,N8,Lr,L4,aDH,axW,amY,axV,amZ,aLY,aLX];congr 2;unfold uY;apply propext;omega)]
 simp only[Option.bind_some,jO,aMA,aeW];refine smb ?_;constructor;rintro⟨h3,h4,h5,h6⟩;exact⟨by omega,⟨b,rfl,by omega⟩,h5,h6⟩;rintro⟨h3,⟨c,hc,h4⟩,h5,h6⟩;cases hc;exact⟨by omega,by omega,h5,h6⟩
def ayV(s:ByteArray):Il s=some (mb (vX s)):=by
 rw[Il,Lr,L4];unfold vX;by_cases h:((s.data.toList.length:Nat):Int)=3
 rw[Cv h,eH (v:=false) (P:=λ_ y=>65<=y.toNat/\y.toNat<=90) (by omega) (λi y _=>by
   simp only[Jm,N8,L4,amY,amZ];congr 2;apply propext;omega),jO,aeW]
 exact smb ⟨λh2=>⟨by omega,h2⟩,λh2=>h2.2⟩;rw[Cy h];exact fM λh2=>h (by omega)
def tK(s:ByteArray):EN s=some (mb (Vl s)):=by
 rw[EN];simp only[R8,L4,ayV,Option.bind_some,ayF];rfl
def PE(n:Int):Prop:=1<=n/\n<=1000000
def U8(n:Int):DT n=some (mb (PE n)):=by
 rw[DT];simp only[QS,L4,jO,ayE];rfl
def abI(n:Int):Prop:=0<=n/\n<=36524
def dH(s:ByteArray):Prop:=s=LL\/s=dF\/s=QT\/s=Vy
def afM(s:ByteArray):Gj s=some (mb (dH s)):=by
 rw[Gj];simp only[R8,L4,jO,ayF];rfl
def afO(a b:List Pc)(ha:a.length<=9223372036854775807):Ll a b=some (mb (a=b)):=by
 rw[Ll,Lr,L4];by_cases h:((a.length:Nat):Int)=((b.length:Nat):Int)
 rw[Cv h,eH (v:=false) (P:=λi y=>b[i]?=some y) ha (λi y hy=>by
   have hi:i < a.length:=(List.getElem?_eq_some_iff.1 hy).1;have hb:b[i]?=some b[i]:=List.getElem?_eq_getElem (by omega);simp only[Mj];rw[hb];simp only[Option.bind_some]
   have hs:PG y b[i]=mb (b[i]?=some y):=by
     rw[Bool.eq_iff_iff,C4,hb];unfold PG;simp only[Bool.and_eq_true,NY,beq_iff_eq,Option.some.injEq];generalize b[i]=z;cases y;cases z;simp only[Pc.mk.injEq];grind
   rw[hs,L4,aDH,hb]),jO]
 refine smb ⟨λh2=>?_,λh2 i y hy=>by rw[<- h2];exact hy⟩;apply List.ext_getElem?;intro i;by_cases hi:i < a.length;rw[List.getElem?_eq_getElem hi,h2 i _ (List.getElem?_eq_getElem hi)];rw[List.getElem?_eq_none (by omega),List.getElem?_eq_none (by omega)];rw[Cy h];exact fM λh2=>h (by rw[h2])
def Gq(n f:Nd):Prop:=n.name=f.name/\n.unit=f.unit/\n.n=f.n/\n.fr=f.fr/\n.to=f.to/\n.known=f.known/\n.Cz.den=f.Cz.den/\n.Cz.ps=f.Cz.ps
def X1(n f:Nd)(h:n.Cz.ps.length<=9223372036854775807):BZ n f=some (mb (Gq n f)):=by
 rw[BZ,afO _ _ h];simp only[R8,Lr,L4,Option.bind_some,ayE];rfl
end Mo
end Go.Proofs.YtpbkhogolfegfaaGreatDoor
namespace Go.Proofs.YtpbkhogolfegfaaGreatDoor
open AI Go
namespace Mo
set_option maxRecDepth 100000
set_option maxHeartbeats 4000000
def YP{p:Prop}(h:¬p):mb p=false:=by rw[WD];exact h
def Out(r:Option (Bool×Int))(P:Prop)(t:Int):Prop:=∃z,r=some (mb P,z)/\(P->z=t)
def Out.congr{r:Option (Bool×Int)}{P Q:Prop}{t u:Int}(h:Out r P t)(hp:P↔Q)(ht:Q->t=u):Out r Q u:=by
 obtain⟨z,h1,h2⟩:=h;exact⟨z,by rw[h1,MI hp],λq=>(h2 (hp.2 q)).trans (ht q)⟩
def Kq{Q:Prop}{z u:Int}(h:¬Q):Out (some (false,z)) Q u:=⟨z,by rw[YP h],λq=>absurd q h⟩
def U6{P Q:Prop}{u:Int}(h:P↔Q):Out (some (mb P,u)) Q u:=⟨u,by rw[MI h],λ_=>rfl⟩
def Ia{p Q:Prop}{A:Option (Bool×Int)}{z u:Int}(h:p->Out A Q u)(hq:Q->p):Out (Kv p A (some (false,z))) Q u:=by
 by_cases hp:p;rw[Cv hp];exact h hp;rw[Cy hp];exact Kq λq=>hp (hq q)
def jY{p Q:Prop}{A:Option (Bool×Int)}{z u:Int}(h:¬p->Out A Q u)(hq:Q->¬p):Out (Kv p (some (false,z)) A) Q u:=by
 by_cases hp:p;rw[Cv hp];exact Kq λq=>hq q hp;rw[Cy hp];exact h hp
mutual
def DB:Nd->Nat
 | ⟨_,_,_,_,_,_,_,_,kids,_⟩=>1+Ge kids
def Ge:List Nd->Nat
 | []=>0
 | k::ks=>DB k+Ge ks
end
mutual
def M3:Nd->Nat
 | ⟨_,_,_,_,_,_,_,_,kids,_⟩=>1+Uq kids
def Uq:List Nd->Nat
 | []=>0
 | k::ks=>max (M3 k) (Uq ks)
end
def EY(n:Nd):DB n=1+Ge n.kids:=by cases n;rw[DB]
def NW(n:Nd):M3 n=1+Uq n.kids:=by cases n;rw[M3]
def Yc{l:List Nd}{m:Nat}:Uq l<=m↔∀k∈l,M3 k<=m:=by
 induction l with
 | nil=>simp[Uq]
 | cons a l ih=>simp only[Uq,Nat.max_le,ih,List.mem_cons,forall_eq_or_imp]
def LJ{l:List Nd}{k:Nd}(h:k∈l):DB k<=Ge l:=by
 induction l with
 | nil=>cases h
 | cons a l ih =>
   rw[Ge];rcases List.mem_cons.1 h with rfl | h
   omega;have:=ih h;omega
def My(l:List Nd):l.length<=Ge l:=by
 induction l with
 | nil=>simp[Ge]
 | cons a l ih=>rw[Ge,EY];simp only[List.length_cons];omega
def SW{n k:Nd}(h:k∈n.kids):DB k < DB n:=by rw[EY n];have:=LJ h;omega
def RY{g:Ck->Nd->Int->Option (Bool×Int)}{p:Nd->Prop}{d:Int}:∀{l:List Nd} {i:Nat} {c:Int},0<=c->c<=2000->(∀k∈l,∀c:Int,0<=c->c<=2000->Out (g ⟨c⟩ k d) (p k/\c+DB k<=2000/\d+M3 k<=41) (c+DB k)) ->
   Out ((CL (δ:=Int) (ρ:=Bool×Int) (λ_ y (x:Int)=>(g ⟨x⟩ y d).bind λ(Ej,Bj)=>cond Ej (some (.nx Bj)) (some (.rt (false,Bj)))) (λx=>x) l i c).bind (LZ (λ(w:Int)=>some (true,w)) (λv=>some v)))
     ((∀k∈l,p k/\d+M3 k<=41)/\c+Ge l<=2000) (c+Ge l)
 | [],i,c,h0,h1,_=>⟨c,by rw[C4.2 ⟨λk hk=>(by cases hk),by simp only[Ge];omega⟩];rfl,λ_=>by simp[Ge]⟩
 | y::l,i,c,h0,h1,hg=>by
   obtain⟨z,hz,h2⟩:=hg y (by simp) c h0 h1;rw[CL,hz];simp only[Option.bind_some];by_cases hp:p y/\c+DB y<=2000/\d+M3 y<=41;rw[C4.2 hp,h2 hp];show Out ((CL _ _ l (i+1) (c+DB y)).bind _) _ _;refine(RY (l:=l) (i:=i+1) (c:=c+DB y) (by omega) hp.2.1 λk hk=>hg k (by simp[hk])).congr ?_ ?_;rw[Ge];simp only[List.mem_cons,forall_eq_or_imp,Int.natCast_add];constructor;rintro⟨a,b⟩;exact⟨⟨⟨hp.1,hp.2.2⟩,a⟩,by omega⟩;rintro⟨⟨_,a⟩,b⟩;exact⟨a,by omega⟩;intro _;rw[Ge];omega;rw[YP hp];refine⟨z,?_,λq=>?_⟩;show some (false,z)=_;rw[YP];rintro⟨a,b⟩;rw[Ge] at b;have:=a y (by simp);exact hp ⟨this.1,by omega,this.2⟩;exfalso;obtain⟨a,b⟩:=q;rw[Ge] at b;have:=a y (by simp);exact hp ⟨this.1,by omega,this.2⟩
def YR(n:Nd){c d:Int}(h0:0<=c)(h1:c<=2000):Out (CE ⟨c⟩ n d) (c+1<=2000/\d<=40) (c+1):=by
 rw[CE,CJ (by show _<=c+1/\c+1<=_;omega)];simp only[QS,L4,Option.bind_some];by_cases h:c+1<=2000;rw[Cv h];exact U6 ⟨λa=>⟨h,a⟩,λa=>a.2⟩;rw[Cy h];exact Kq λa=>h a.1
def eY(f:Fn)(i:Nat)(p:Pc):Prop:=p.fr<=999999999999/\(∀q,0 < i->f.ps[i - 1]?=some q->q.fr < p.fr)/\Ye p.AH f.den=some 0/\p.AH<=BQ 999999999999 f.den/\BQ (-999999999999) f.den<=p.AH/\p.MZ<=1000000/\-1000000<=p.MZ
def lN(f:Fn):Prop:=PE f.den/\(1<=f.ps.length/\f.ps.length<=64)/\(∀x,f.ps[0]?=some x->x.fr=0)/\∀(i:Nat) p,f.ps[i]?=some p->eY f i p
def aES(f:Fn)(hl:f.ps.length<=9223372036854775807):GL f=some (mb (lN f)):=by
 rw[GL,U8];simp only[Option.bind_some,L4,N8,Lr];unfold lN;by_cases hr:PE f.den;rotate_left;rw[Cy hr];exact fM λh=>hr h.1;rw[Cv hr];by_cases h1:((f.ps.length:Nat):Int) < 1;rw[Cv h1];exact fM λh=>by omega
 rw[Cy h1];by_cases h2:64 < ((f.ps.length:Nat):Int);rw[Cv h2];exact fM λh=>by omega
 rw[Cy h2];have hx0:f.ps[0]?=some f.ps[0]:=List.getElem?_eq_getElem (by omega);rw[hx0];simp only[Option.bind_some];by_cases h3:f.ps[0].fr=0;rotate_left;rw[Cy h3];exact fM λh=>h3 (h.2.2.1 _ rfl);rw[Cv h3];have aKF:f.den≠0:=by unfold PE at hr;omega
 rw[eH (v:=false) (P:=λi y=>eY f i y) hl (λi y hy=>by
   have hi:i < f.ps.length:=(List.getElem?_eq_some_iff.1 hy).1;simp only[Ib,N8,L4,QS,Lr];have hd:∃z,Ye y.AH f.den=some z:=by unfold Ye;rw[if_neg aKF];exact⟨_,rfl⟩
   obtain⟨z,hz⟩:=hd;unfold eY;rw[hz];by_cases h0:(0:Int) < ((i:Nat):Int);rw[Cv h0,KP (by omega)];have hq:f.ps[i - 1]?=some f.ps[i - 1]:=List.getElem?_eq_getElem (by omega)
   have hg:Hu f.ps (((i:Nat):Int) - 1)=some f.ps[i - 1]:=by
     unfold Hu;rw[show(((i:Nat):Int) - 1).toNat=i - 1 by omega];simp only[hq]
     first | rfl | (rw[if_pos (by omega)])
   rw[hg,hq];simp only[Option.bind_some,amY,amZ,axW,axV];congr 2;apply propext;simp only[Option.some.injEq,forall_eq'];grind;rw[Cy h0];simp only[Option.bind_some,amY,amZ,axW,axV];congr 2;apply propext;simp only[Option.some.injEq];have:¬0 < i:=by omega
   grind),jO]
 refine smb ⟨λh=>⟨hr,by omega,λx hx=>by cases hx;exact h3,h⟩,λh=>h.2.2.2⟩
def YU(s:ByteArray):Prop:=s=EC\/s=jW\/s=PQ\/s=GP\/s=HH\/s=JC\/s=G9\/s=Oo\/s=Lh\/s=PD\/s=iA
def QV(k:Nd):Prop:=k.kind=11/\k.unit=EF/\PE k.n
def S7(n:Nd):Prop :=
 (n.kind=11/\Vl n.unit/\0<=n.n/\n.n<=999999999999/\(n.unit=Ha->n.n<=1)/\n.kids.length=0/\Gq n ⟨0,ByteArray.empty,n.unit,n.n,0,0,0,⟨0,[]⟩,[],0⟩) \/
 (n.kind=12/\Rx n.name/\n.kids.length=0/\Gq n ⟨0,n.name,ByteArray.empty,0,0,0,0,⟨0,[]⟩,[],0⟩) \/
 (n.kind=13/\PE n.n/\n.kids.length=0/\Gq n ⟨0,ByteArray.empty,ByteArray.empty,n.n,0,0,0,⟨0,[]⟩,[],0⟩) \/
 (n.kind=14/\dH n.name/\n.kids.length=0/\Gq n ⟨0,n.name,ByteArray.empty,0,0,0,0,⟨0,[]⟩,[],0⟩) \/
 (n.kind=15/\n.kids.length=1/\Gq n ⟨0,ByteArray.empty,ByteArray.empty,0,0,0,0,⟨0,[]⟩,[],0⟩) \/
 (n.kind=16/\Gq n ⟨0,n.name,ByteArray.empty,0,0,0,0,⟨0,[]⟩,[],0⟩/\n.kids.length=2/\YU n.name/\(n.name=EC->∀k,n.kids[1]?=some k->QV k)) \/
 (n.kind=17/\(n.name=KT\/n.name=FR)/\Gq n ⟨0,n.name,ByteArray.empty,0,0,0,0,⟨0,[]⟩,[],0⟩/\2<=n.kids.length) \/
 (n.kind=18/\Gq n ⟨0,ByteArray.empty,ByteArray.empty,0,0,0,0,n.Cz,[],0⟩/\lN n.Cz/\n.kids.length=1)
mutual
def J5:Nd->Prop
 | ⟨kind,name,unit,n,fr,to,known,Cz,kids,AH⟩=>S7 ⟨kind,name,unit,n,fr,to,known,Cz,kids,AH⟩/\acA kids
def acA:List Nd->Prop
 | []=>True
 | k::ks=>J5 k/\acA ks
end
def acB{l:List Nd}:acA l↔∀k∈l,J5 k:=by
 induction l with
 | nil=>simp[acA]
 | cons k l ih=>simp[acA,ih]
def Jh(n:Nd):J5 n↔S7 n/\∀k∈n.kids,J5 k:=by cases n;rw[J5,acB]
end Mo
end Go.Proofs.YtpbkhogolfegfaaGreatDoor
namespace Go.Proofs.YtpbkhogolfegfaaGreatDoor
open AI Go
namespace Mo
set_option maxRecDepth 100000
set_option maxHeartbeats 4000000
def ML{r:Option (Bool×Int)}{P Q:Prop}{t u:Int}{f:Bool×Int->Option (Bool×Int)}(h:Out r P t)(hT:P->Out (f (true,t)) Q u)(hF:∀z,¬P->Out (f (false,z)) Q u):Out (r.bind f) Q u:=by
 obtain⟨z,rfl,h2⟩:=h;by_cases hp:P;rw[C4.2 hp,h2 hp];exact hT hp;rw[YP hp];exact hF z hp
def ayU{Q:Prop}{t u:Int}(hq:Q)(h:t=u):Out (some (true,t)) Q u:=⟨t,by rw[C4.2 hq],λ_=>h⟩
def MK{r:Option (Bool×Int)}{P Q:Prop}{t u:Int}(h:Out r P t)(hp:P↔Q)(ht:P->t=u):Out (r.bind λ(a,b)=>some (a,b)) Q u :=
 ML h (λp=>ayU (hp.1 p) (ht p)) λ_ p=>Kq λq=>p (hp.2 q)
section
variable {p q r:Prop} {z:Int}
def eX:Kv p (some (mb q,z)) (some (false,z))=some (mb (p/\q),z):=by
 by_cases h:p;rw[Cv h];congr 2;exact MI ⟨λa=>⟨h,a⟩,λa=>a.2⟩;rw[Cy h,YP];exact λa=>h a.1
def pO:Kv p (some (false,z)) (some (mb q,z))=some (mb (¬p/\q),z):=by
 by_cases h:p;rw[Cv h,YP];exact λa=>a.1 h;rw[Cy h];congr 2;exact MI ⟨λa=>⟨h,a⟩,λa=>a.2⟩
def xF:Kv p (some (mb q,z)) (some (mb r,z))=some (mb ((p->q)/\(¬p->r)),z):=by
 by_cases h:p;rw[Cv h];congr 2;exact MI ⟨λa=>⟨λ_=>a,λb=>absurd h b⟩,λa=>a.1 h⟩;rw[Cy h];congr 2;exact MI ⟨λa=>⟨λb=>absurd b h,λ_=>a⟩,λa=>a.2 h⟩
end
section
variable {n:Nd}
def aJL(h:n.kind=11):S7 n↔Vl n.unit/\0<=n.n/\n.n<=999999999999/\(n.unit=Ha->n.n<=1)/\n.kids.length=0/\Gq n ⟨0,ByteArray.empty,n.unit,n.n,0,0,0,⟨0,[]⟩,[],0⟩:=by unfold S7;simp[h]
def aJM(h:n.kind=12):S7 n↔Rx n.name/\n.kids.length=0/\Gq n ⟨0,n.name,ByteArray.empty,0,0,0,0,⟨0,[]⟩,[],0⟩:=by unfold S7;simp[h]
def aJN(h:n.kind=13):S7 n↔PE n.n/\n.kids.length=0/\Gq n ⟨0,ByteArray.empty,ByteArray.empty,n.n,0,0,0,⟨0,[]⟩,[],0⟩:=by unfold S7;simp[h]
def aJO(h:n.kind=14):S7 n↔dH n.name/\n.kids.length=0/\Gq n ⟨0,n.name,ByteArray.empty,0,0,0,0,⟨0,[]⟩,[],0⟩:=by unfold S7;simp[h]
def aJP(h:n.kind=15):S7 n↔n.kids.length=1/\Gq n ⟨0,ByteArray.empty,ByteArray.empty,0,0,0,0,⟨0,[]⟩,[],0⟩:=by unfold S7;simp[h]
def aJQ(h:n.kind=16):S7 n↔Gq n ⟨0,n.name,ByteArray.empty,0,0,0,0,⟨0,[]⟩,[],0⟩/\n.kids.length=2/\YU n.name/\(n.name=EC->∀k,n.kids[1]?=some k->QV k):=by unfold S7;simp[h]
def aJR(h:n.kind=17):S7 n↔(n.name=KT\/n.name=FR)/\Gq n ⟨0,n.name,ByteArray.empty,0,0,0,0,⟨0,[]⟩,[],0⟩/\2<=n.kids.length:=by unfold S7;simp[h]
def aJS(h:n.kind=18):S7 n↔Gq n ⟨0,ByteArray.empty,ByteArray.empty,0,0,0,0,n.Cz,[],0⟩/\lN n.Cz/\n.kids.length=1:=by unfold S7;simp[h]
def alP(h:S7 n):n.kind=11\/n.kind=12\/n.kind=13\/n.kind=14\/n.kind=15\/n.kind=16\/n.kind=17\/n.kind=18:=by
 unfold S7 at h;rcases h with h | h | h | h | h | h | h | h
 all_goals
   have:=h.1;simp[this]
end
def OV(l:List Nd)(c d:Int):Prop:=(∀k∈l,J5 k/\d+M3 k<=41)/\c+Ge l<=2000
def atF{l:List Nd}{c d:Int}(h:l.length=0)(hc:c<=2000):OV l c d/\c=c+Ge l:=by
 obtain rfl:=List.eq_nil_of_length_eq_zero h;exact⟨⟨(λk hk=>(by cases hk)),(by simp only[Ge];omega)⟩,(by simp[Ge])⟩
def atG{x:Nd}{c d:Int}:OV [x] c d↔J5 x/\c+DB x<=2000/\d+M3 x<=41:=by
 unfold OV;simp only[List.mem_singleton,forall_eq,Ge,Nat.add_zero];exact⟨λa=>⟨a.1.1,a.2,a.1.2⟩,λa=>⟨⟨a.1,a.2.2⟩,a.2.1⟩⟩
def jJ{x y:Nd}{c d:Int}:OV [x,y] c d↔(J5 x/\c+DB x<=2000/\d+M3 x<=41)/\J5 y/\c+DB x+DB y<=2000/\d+M3 y<=41:=by
 unfold OV;simp only[List.mem_cons,List.not_mem_nil,or_false,forall_eq_or_imp,forall_eq,Ge,Nat.add_zero,Int.natCast_add];constructor;rintro⟨⟨⟨a,b⟩,c',d'⟩,e⟩;exact⟨⟨a,by omega,b⟩,c',by omega,d'⟩;rintro⟨⟨a,b,c'⟩,d',e,f⟩;exact⟨⟨⟨a,c'⟩,d',f⟩,by omega⟩
abbrev ExS(g:Ck->Nd->Int->Option (Bool×Int))(n:Nd):Prop:=∀(c d:Int),0<=c->c<=2000->0<=d->d<=41->Out (g ⟨c⟩ n d) (J5 n/\c+DB n<=2000/\d+M3 n<=41) (c+DB n)
def aR{g:Ck->Nd->Int->Option (Bool×Int)}{b a:Ck->Nd->Int->Option (Bool×Int)}{l:Ck->List Nd->Int->Option (Bool×Int)}{n:Nd}(h:ExS g n){c d:Int}(h0:0<=c)(h1:c<=2000)(h2:0<=d)(h3:d<=41) :
   Out (C8 g b a l ⟨c⟩ n d) ((J5 n/\QV n)/\c+DB n<=2000/\d+M3 n<=41) (c+DB n):=by
 rw[C8];simp only[Lr,R8,L4,U8,Option.bind_some];refine ML (h c d h0 h1 h2 h3) (λhp=>?_) λz hp=>Kq λq=>hp ⟨q.1.1,q.2⟩;show Out (Kv (n.kind=11) (Kv (n.unit=EF) (some (mb (PE n.n),c+DB n)) (some (false,c+DB n))) (some (false,c+DB n))) _ _;rw[eX,eX];exact U6 ⟨λa=>⟨⟨hp.1,a⟩,hp.2⟩,λa=>a.1.2⟩
def vO{g n':Ck->Nd->Int->Option (Bool×Int)}{b:Ck->Nd->Int->Option (Bool×Int)}{l:Ck->List Nd->Int->Option (Bool×Int)}{n:Nd}(hg:∀k∈n.kids,ExS g k)
   (hn:∀k∈n.kids,∀c d:Int,0<=c->c<=2000->0<=d->d<=41->Out (n' ⟨c⟩ k d) ((J5 k/\QV k)/\c+DB k<=2000/\d+M3 k<=41) (c+DB k)) {c d:Int} (h0:0<=c) (h1:c<=2000) (h2:0<=d) (h3:d<=40) :
   Out (C7 g b n' l ⟨c⟩ n d) ((n.kids.length=2/\YU n.name/\(n.name=EC->∀k,n.kids[1]?=some k->QV k))/\OV n.kids c (d+1)) (c+Ge n.kids):=by
 rw[C7,CJ (by omega)];simp only[Lr,R8,L4];generalize hl:n.kids=ks at *;by_cases hlen:((ks.length:Nat):Int)=2;rotate_left;rw[Cy hlen];exact Kq λq=>hlen (by have:=q.1.1;omega);rw[Cv hlen]
 match ks,hlen with
 | [x,y],_ =>
 simp only[List.getElem?_cons_zero,List.getElem?_cons_succ,Option.bind_some];refine ML (hg x (by simp) c (d+1) h0 h1 (by omega) (by omega)) (λhx=>?_) λz hx=>Kq λq=>hx (jJ.1 q.2).1;dsimp only;rw[cond_true];have hsz:Ge [x,y]=DB x+DB y:=by simp[Ge]
 have hy:=λhc=>hg y (by simp) (c+DB x) (d+1) (by omega) hc (by omega) (by omega);have hn':=λhc=>hn y (by simp) (c+DB x) (d+1) (by omega) hc (by omega) (by omega);have hy:=hy hx.2.1;have hn':=hn' hx.2.1;by_cases hs:n.name=EC;rw[Cv hs];refine MK hn' ⟨λa=>⟨⟨rfl,.inl hs,λ_ k hk=>by cases hk;exact a.1.2⟩,jJ.2 ⟨hx,a.1.1,a.2⟩⟩,λa=>?_⟩ (λa=>by rw[hsz];omega);have:=(jJ.1 a.2).2;exact⟨⟨this.1,a.1.2.2 hs y rfl⟩,this.2⟩;rw[Cy hs]
 have fin:∀jE:YU n.name,Out ((g ⟨c+DB x⟩ y (d+1)).bind λ(a,b)=>some (a,b)) ((([x,y]:List Nd).length=2/\YU n.name/\(n.name=EC->∀k,some y=some k->QV k))/\OV [x,y] c (d+1)) (c+Ge [x,y]):=λjE =>
   MK hy ⟨λa=>⟨⟨rfl,jE,λe=>absurd e hs⟩,jJ.2 ⟨hx,a⟩⟩,λa=>(jJ.1 a.2).2⟩ (λa=>by rw[hsz];omega)
 have step:∀{s:ByteArray} {A:Option (Bool×Int)},(n.name=s->YU n.name)->(n.name≠s->Out A ((([x,y]:List Nd).length=2/\YU n.name/\(n.name=EC->∀k,some y=some k->QV k))/\OV [x,y] c (d+1)) (c+Ge [x,y])) ->
     Out (Kv (n.name=s) ((g ⟨c+DB x⟩ y (d+1)).bind λ(a,b)=>some (a,b)) A) ((([x,y]:List Nd).length=2/\YU n.name/\(n.name=EC->∀k,some y=some k->QV k))/\OV [x,y] c (d+1)) (c+Ge [x,y]):=by
   intro s A h4 h5;by_cases h:n.name=s;rw[Cv h];exact fin (h4 h);rw[Cy h];exact h5 h
 refine step (λe=>by unfold YU;simp[e]) λe1=>?_;refine step (λe=>by unfold YU;simp[e]) λe2=>?_;refine step (λe=>by unfold YU;simp[e]) λe3=>?_;refine step (λe=>by unfold YU;simp[e]) λe4=>?_;refine step (λe=>by unfold YU;simp[e]) λe5=>?_;refine step (λe=>by unfold YU;simp[e]) λe6=>?_;refine step (λe=>by unfold YU;simp[e]) λe7=>?_;refine step (λe=>by unfold YU;simp[e]) λe8=>?_;refine step (λe=>by unfold YU;simp[e]) λe9=>?_;refine step (λe=>by unfold YU;simp[e]) λe10=>?_
 exact Kq λq=>by
   have:=q.1.2.1;unfold YU at this;simp[hs,e1,e2,e3,e4,e5,e6,e7,e8,e9,e10] at this
def aeI{A L B T:Prop}{x:Int}:(A/\¬x < 0/\¬999999999999 < x/\(T->¬1 < x/\L/\B)/\(¬T->L/\B))↔A/\0<=x/\x<=999999999999/\(T->x<=1)/\L/\B:=by
 constructor;rintro⟨a,b,c,d,e⟩;by_cases t:T;exact⟨a,by omega,by omega,λ_=>by have:=(d t).1;omega,(d t).2⟩;exact⟨a,by omega,by omega,λh=>absurd h t,e t⟩;rintro⟨a,b,c,d,e⟩;exact⟨a,by omega,by omega,λt=>⟨by have:=d t;omega,e⟩,λ_=>e⟩
def abY:∀(q:Nat) (n:Nd),KU n->3*DB n<=q->ExS (AK q) n:=by
 intro q
 induction q using Nat.strongRecOn with
 | _ q ih =>
 intro n Xm hq c d h0 h1 h2 h3;have hsz:=EY n;obtain⟨q,rfl⟩:∃k,q=k+1:=⟨q - 1,by omega⟩;obtain⟨sJ,hkl,gL⟩:=YT Xm;have hE:∀k∈n.kids,∀q',q<=q'+2->q' < q+1->ExS (AK q') k:=λk hk q' h4 h5=>ih q' h5 k (gL k hk) (by have:=LJ hk;omega);rw[AK,Ef];refine ML (YR n h0 h1) (λhp=>?_) λz hp=>Kq λa=>hp ⟨by omega,by have:=NW n;omega⟩;dsimp only;rw[cond_true];refine Out.congr (P:=S7 n/\OV n.kids (c+1) (d+1)) (t:=(c+1)+Ge n.kids) ?_ ?_ (λ_=>by omega);rotate_left;rw[Jh,NW];unfold OV;have hd:=@Yc n.kids;constructor;rintro⟨a,b,e⟩;refine⟨⟨a,λk hk=>(b k hk).1⟩,by omega,?_⟩;have:=(hd (m:=(40 - d).toNat)).2 λk hk=>by have:=(b k hk).2;omega
 omega;rintro⟨⟨a,b⟩,e,f⟩;refine⟨a,λk hk=>⟨b k hk,?_⟩,by omega⟩;have:=(hd (m:=Uq n.kids)).1 (Nat.le_refl _) k hk;omega;have hc1:=hp.1;have hd1:=hp.2;rw[CJ (a:=d) (b:=1) (by omega)];have e0:(((n.kids.length:Nat):Int)=0)=(n.kids.length=0):=propext (by omega);simp only[Lr,QS,N8,R8,L4,tK,rY,U8,afM,aES _ sJ,X1 _ _ sJ,Option.bind_some,e0];have Yz:∀{B:Prop},(B↔S7 n)->(B->n.kids.length=0)->Out (some (mb B,c+1)) (S7 n/\OV n.kids (c+1) (d+1)) (c+1+Ge n.kids):=λhB hk=>(U6 hB).congr ⟨λa=>⟨a,(atF (hk (hB.2 a)) hc1).1⟩,λa=>a.1⟩ λa=>(atF (d:=d+1) (hk (hB.2 a.1)) hc1).2
 have hone:∀{B:Prop},(S7 n↔B/\n.kids.length=1)->B->n.kids.length=1->Out ((n.kids[0]?).bind λx=>(AK q ⟨c+1⟩ x (d+1)).bind λ(a,b)=>some (a,b)) (S7 n/\OV n.kids (c+1) (d+1)) (c+1+Ge n.kids):=by
   intro B hB hb hl;have Gk:=λk hk=>hE k hk q (by omega) (by omega);have hx:=hB.2 ⟨hb,hl⟩;generalize n.kids=ks at *
   match ks,hl with
   | [x],_ =>
   simp only[List.getElem?_cons_zero,Option.bind_some];refine MK (Gk x (by simp) (c+1) (d+1) (by omega) hc1 (by omega) (by omega)) ⟨λa=>⟨hx,atG.2 a⟩,λa=>atG.1 a.2⟩ λ_=>?_;simp[Ge]
 by_cases k11:n.kind=11;rw[Cv k11];simp only[eX,pO,xF];refine Yz ?_ ?_;rw[aJL k11];exact aeI;intro h;exact(aeI.1 h).2.2.2.2.1;rw[Cy k11];by_cases k12:n.kind=12;rw[Cv k12];simp only[eX,pO,xF];refine Yz ?_ ?_;rw[aJM k12];intro h;exact h.2.1;rw[Cy k12];by_cases k13:n.kind=13;rw[Cv k13];simp only[eX,pO,xF];refine Yz ?_ ?_;rw[aJN k13];intro h;exact h.2.1;rw[Cy k13];by_cases k14:n.kind=14;rw[Cv k14];simp only[eX,pO,xF];refine Yz ?_ ?_;rw[aJO k14];intro h;exact h.2.1;rw[Cy k14];by_cases k15:n.kind=15;rw[Cv k15];have e:=aJP k15;refine Ia (λhl=>Ia (λhb=>hone (e.trans And.comm) hb (by omega)) λa=>(e.1 a.1).2) λa=>?_;have:=(e.1 a.1).1;omega;rw[Cy k15];by_cases k16:n.kind=16;rw[Cv k16];have e:=aJQ k16;refine Ia (λhb=>?_) λa=>(e.1 a.1).1;obtain⟨q,rfl⟩:∃k,q=k+1:=⟨q - 1,by omega⟩;rw[AY];refine MK (vO (g:=AK q) (b:=AY q) (n':=AM q) (l:=AJ q) (λk hk=>hE k hk q (by omega) (by omega)) (λk hk c d a1 a2 a3 a4=>?_) (by omega) hc1 h2 hd1) ?_ λ_=>rfl;obtain⟨q,rfl⟩:∃k,q=k+1:=⟨q - 1,by have:=SW hk;have:=EY k;omega⟩;rw[AM];exact aR (hE k hk q (by omega) (by omega)) a1 a2 a3 a4;rw[e];exact⟨λa=>⟨⟨hb,a.1⟩,a.2⟩,λa=>⟨a.1.2,a.2⟩⟩;rw[Cy k16];by_cases k17:n.kind=17;rw[Cv k17];have e:=aJR k17
 have Hv:(n.name=KT\/n.name=FR)->Out (Kv (Gq n ⟨0,n.name,ByteArray.empty,0,0,0,0,⟨0,[]⟩,[],0⟩) (Kv (2<=((n.kids.length:Nat):Int)) ((AJ q ⟨c+1⟩ n.kids (d+1)).bind λ(a,b)=>some (a,b)) (some (false,c+1))) (some (false,c+1))) (S7 n/\OV n.kids (c+1) (d+1)) (c+1+Ge n.kids):=by
   intro hn;refine Ia (λhb=>Ia (λhl=>?_) λa=>?_) λa=>(e.1 a.1).2.1;obtain⟨q,rfl⟩:∃k,q=k+1:=⟨q - 1,by have:=My n.kids;omega⟩;rw[AJ,Dj,Pq hkl,List.drop_zero];dsimp only;refine MK (RY (g:=AK q) (p:=J5) (d:=d+1) (by omega) hc1 λk hk c' b0 b1=>hE k hk q (by omega) (by omega) c' (d+1) b0 b1 (by omega) (by omega)) ?_ λ_=>rfl;rw[e];exact⟨λa=>⟨⟨hn,hb,by omega⟩,a⟩,λa=>a.2⟩;have:=(e.1 a.1).2.2;omega
 by_cases hn1:n.name=KT;rw[Cv hn1];exact Hv (.inl hn1);rw[Cy hn1];exact Ia (λhn2=>Hv (.inr hn2)) λa=>(e.1 a.1).1.resolve_left hn1;rw[Cy k17];by_cases k18:n.kind=18;rw[Cv k18];have e:=aJS k18;refine Ia (λhb=>Ia (λht=>Ia (λhl=>hone (B:=Gq n ⟨0,ByteArray.empty,ByteArray.empty,0,0,0,0,n.Cz,[],0⟩/\lN n.Cz) (e.trans (by rw[and_assoc])) ⟨hb,ht⟩ (by omega)) λa=>?_) λa=>(e.1 a.1).2.1) λa=>(e.1 a.1).1;have:=(e.1 a.1).2.2;omega;rw[Cy k18];exact Kq λa=>by have:=alP a.1;omega
def Le{β:Type}(a b:Option β):Prop:=∀y,a=some y->b=some y
section
variable {α β γ δ ρ:Type}
def Le.refl(a:Option β):Le a a:=λ_ h=>h
def OW{a a':Option α}{f g:α->Option β}(h:Le a a')(k:∀x,Le (f x) (g x)):Le (a.bind f) (a'.bind g):=by
 intro y hy;cases a with
 | none=>cases hy
 | some x=>rw[h x rfl];exact k x y hy
def sQ{b:Bool}{x x' y y':Option β}(h:Le x x')(k:Le y y'):Le (cond b x y) (cond b x' y'):=by cases b;exact k;exact h
def axZ{n:Nat}{x x':Option β}(h:Le x x'):Le (Rt n x) (Rt n x'):=by
 unfold Rt;split;exact h;exact Le.refl _
def sR{body asG:Nat->α->γ->Option (Lp γ δ ρ)}{done:γ->δ}(h:∀i y x,Le (body i y x) (asG i y x)):∀(l:List α) (i:Nat) (x:γ),Le (CL body done l i x) (CL asG done l i x)
 | [],_,_=>Le.refl _
 | a::l,i,x=>by
   rw[CL,CL];refine OW (h i a x) λz=>?_;cases z with
   | nx x'=>exact sR h l (i+1) x'
   | ex d=>exact Le.refl _
   | rt v=>exact Le.refl _
end
def dK:∀q:Nat,(∀c n d,Le (AK q c n d) (AK (q+1) c n d))/\(∀c n d,Le (AY q c n d) (AY (q+1) c n d))/\(∀c n d,Le (AM q c n d) (AM (q+1) c n d))/\(∀c n d,Le (AJ q c n d) (AJ (q+1) c n d))
 | 0=>⟨(λ_ _ _ _ h=>nomatch h),(λ_ _ _ _ h=>nomatch h),(λ_ _ _ _ h=>nomatch h),(λ_ _ _ _ h=>nomatch h)⟩
 | q+1=>by
   obtain⟨i1,i2,i3,i4⟩:=dK q;refine⟨λc n d=>?_,λc n d=>?_,λc n d=>?_,λc n d=>?_⟩
   · rw[AK,AK,Ef,Ef]
     repeat' first
       | exact Le.refl _
       | exact i1 _ _ _
       | exact i2 _ _ _
       | exact i4 _ _ _
       | refine sQ ?_ ?_
       | refine OW ?_ λ⟨_,_⟩=>?_
       | refine OW ?_ λ_=>?_
   · rw[AY,AY,C7,C7]
     repeat' first
       | exact Le.refl _
       | exact i1 _ _ _
       | exact i3 _ _ _
       | refine sQ ?_ ?_
       | refine OW ?_ λ⟨_,_⟩=>?_
       | refine OW ?_ λ_=>?_
   rw[AM,AM,C8,C8];exact OW (i1 _ _ _) λ_=>Le.refl _;rw[AJ,AJ,Dj,Dj];refine OW (axZ (sR (λi y x=>?_) _ _ _)) λ_=>Le.refl _;rw[DS,DS];exact OW (i1 _ _ _) λ_=>Le.refl _
def abX{β:Type}{f:Nat->Option β}(h:∀q,Le (f q) (f (q+1))){q:Nat}{y:β}(hy:f q=some y):wC f=some y:=by
 refine TH q λm hm=>?_
 induction m with
 | zero=>obtain rfl:q=0:=by omega
         exact hy
 | succ m ih =>
   rcases Nat.lt_or_ge m q with hlt | hge
   obtain rfl:q=m+1:=by omega
   exact hy;exact h m y (ih hge)
def abZ{n:Nd}(Xm:KU n):ExS GX n:=by
 intro c d h0 h1 h2 h3;obtain⟨z,hz,hz2⟩:=abY (3*DB n) n Xm (Nat.le_refl _) c d h0 h1 h2 h3;exact⟨z,abX (λq=>(dK q).1 _ _ _) hz,hz2⟩
def afE{n:Nd}(Xm:KU n){c d:Int}(h0:0<=c)(h1:c<=2000)(h2:0<=d)(h3:d<=41):Out (FT ⟨c⟩ n d) ((J5 n/\QV n)/\c+DB n<=2000/\d+M3 n<=41) (c+DB n):=by
 obtain⟨z,hz,hz2⟩:=aR (g:=AK (3*DB n)) (b:=AY (3*DB n)) (a:=AM (3*DB n)) (l:=AJ (3*DB n)) (abY (3*DB n) n Xm (Nat.le_refl _)) h0 h1 h2 h3;exact⟨z,abX (q:=3*DB n+1) (λq=>(dK q).2.2.1 _ _ _) (by rw[AM];exact hz),hz2⟩
end Mo
end Go.Proofs.YtpbkhogolfegfaaGreatDoor
namespace Go.Proofs.YtpbkhogolfegfaaGreatDoor
open AI Go
namespace Mo
set_option maxRecDepth 100000
set_option maxHeartbeats 4000000
abbrev z0:Nd:=⟨0,ByteArray.empty,ByteArray.empty,0,0,0,0,⟨0,[]⟩,[],0⟩
def ayW(n:Int):GG n=some (mb (abI n)):=by
 rw[GG];simp only[QS,L4,jO,ayE];rfl
def Ro(n:Nd):Prop:=n.kind=5/\(0<=n.n/\n.n<=1000000)/\n.kids.length=0/\abI n.fr/\(n.fr < n.to/\n.to<=36525)/\abI n.known/\Gq n ⟨0,ByteArray.empty,ByteArray.empty,n.n,n.fr,n.to,n.known,⟨0,[]⟩,[],0⟩
def KH(n:Nd):Prop:=Gq n z0/\(n.kind=7->0 < n.kids.length/\∀k∈n.kids,J5 k/\QV k)/\(n.kind≠7->n.kids.length=1/\∀k∈n.kids,J5 k)
def sS{n:Nd}(h:n.kids.length=0):DB n=1/\M3 n=1:=by
 have:=List.eq_nil_of_length_eq_zero h;rw[EY,NW,this];exact⟨rfl,rfl⟩
def awL{n:Nd}(Xm:KU n){c d:Int}(h0:0<=c)(h1:c<=2000):Out (Fp ⟨c⟩ n d) (Ro n/\c+DB n<=2000/\d+M3 n<=41) (c+DB n):=by
 obtain⟨sJ,hkl,gL⟩:=YT Xm;have hsz:=EY n;have hdp:=NW n;rw[Fp];refine ML (YR n h0 h1) (λhp=>?_) λz hp=>Kq λa=>hp ⟨by omega,by omega⟩;dsimp only;rw[cond_true];simp only[Lr,QS,N8,L4,ayW,X1 _ _ sJ,Option.bind_some,eX,pO]
 have key:(n.kind=5/\¬n.n < 0/\¬1000000 < n.n/\¬(0:Int) < ((n.kids.length:Nat):Int)/\abI n.fr/\¬n.to<=n.fr/\¬36525 < n.to/\abI n.known/\Gq n ⟨0,ByteArray.empty,ByteArray.empty,n.n,n.fr,n.to,n.known,⟨0,[]⟩,[],0⟩)↔Ro n:=by
   unfold Ro;constructor;rintro⟨a,b,c',e,f,g,h,i,j⟩;exact⟨a,⟨by omega,by omega⟩,by omega,f,⟨by omega,by omega⟩,i,j⟩;rintro⟨a,b,c',f,g,i,j⟩;exact⟨a,by omega,by omega,by omega,f,by omega,by omega,i,j⟩
 refine(U6 key).congr ⟨λa=>⟨a,?_⟩,λa=>a.1⟩ λa=>?_;have:=sS a.2.2.1;omega;have:=sS a.1.2.2.1;omega
def abD{n:Nd}(Xm:KU n){c d:Int}(h0:0<=c)(h1:c<=2000)(h2:0<=d):Out (DJ ⟨c⟩ n d) (KH n/\c+DB n<=2000/\d+M3 n<=41) (c+DB n):=by
 obtain⟨sJ,hkl,gL⟩:=YT Xm;have hsz:=EY n;have hdp:=NW n;have hd:=@Yc n.kids;rw[DJ];refine ML (YR n h0 h1) (λhp=>?_) λz hp=>Kq λa=>hp ⟨by omega,by omega⟩;dsimp only;rw[cond_true,CJ (a:=d) (b:=1) (by omega)];simp only[Lr,N8,L4,X1 _ _ sJ,Option.bind_some];have hc1:=hp.1;have hd1:=hp.2
 have SK:(∀k∈n.kids,d+1+M3 k<=41)↔d+M3 n<=41:=by
   constructor;intro h;have:=(hd (m:=(40 - d).toNat)).2 λk hk=>by have:=h k hk;omega
   omega;intro h k hk;have:=(hd (m:=Uq n.kids)).1 (Nat.le_refl _) k hk;omega
 refine Ia (λhb=>?_) λa=>a.1.1;by_cases k7:n.kind=7;rw[Cv k7];refine Ia (λhl=>?_) λa=>by have:=(a.1.2.1 k7).1;omega
 rw[EH,Pq hkl,List.drop_zero];dsimp only;refine MK (RY (g:=FT) (p:=λk=>J5 k/\QV k) (d:=d+1) (by omega) hc1 λk hk c' b0 b1=>afE (gL k hk) b0 b1 (by omega) (by omega)) ⟨λa=>⟨⟨hb,λ_=>⟨by omega,λk hk=>(a.1 k hk).1⟩,λh=>absurd k7 h⟩,by omega,SK.1 λk hk=>(a.1 k hk).2⟩,λa=>⟨λk hk=>⟨(a.1.2.1 k7).2 k hk,SK.2 a.2.2 k hk⟩,by omega⟩⟩ λ_=>by omega
 · rw[Cy k7]
   refine Ia (λhl=>?_) λa=>by have:=(a.1.2.2 k7).1;omega
   have hl1:n.kids.length=1:=by omega
   unfold KH;generalize n.kids=ks at *
   match ks,hl1 with
   | [x],_ =>
   simp only[List.getElem?_cons_zero,Option.bind_some];have e1:Ge [x]=DB x:=by simp[Ge]
   refine MK (abZ (gL x (by simp)) (c+1) (d+1) (by omega) hc1 (by omega) (by omega)) ⟨λa=>⟨⟨hb,λh=>absurd h k7,λ_=>⟨rfl,λk hk=>by rw[List.mem_singleton.1 hk];exact a.1⟩⟩,by omega,SK.1 λk hk=>by rw[List.mem_singleton.1 hk];exact a.2.2⟩,λa=>⟨(a.1.2.2 k7).2 x (by simp),by omega,SK.2 a.2.2 x (by simp)⟩⟩ λ_=>by omega
def Hf(k:Int):List Nd->Nat
 | []=>0
 | a::l=>(if a.kind=k then 1 else 0)+Hf k l
def kinds(l:List Nd):Prop:=∀k∈l,6<=k.kind/\k.kind<=8
def YG{y:Int}:∀{l:List Nd} {i:Nat} {a b c:Int},0<=a->0<=b->0<=c->a+l.length<=9223372036854775807->b+l.length<=9223372036854775807->c+l.length<=9223372036854775807 ->
   CL (λi z x=>D3 y i z x.1 x.2.1 x.2.2) (λx=>(x.1,x.2.1,x.2.2)) l i (a,b,c)=some (Kv (kinds l) (.inl (a+Hf 6 l,b+Hf 7 l,c+Hf 8 l)) (.inr (false,y)))
 | [],i,a,b,c,_,_,_,_,_,_=>by rw[Cv (show kinds [] from λk hk=>(by cases hk))];simp[CL,Hf]
 | z::l,i,a,b,c,h1,h2,h3,h4,h5,h6=>by
   simp only[List.length_cons] at h4 h5 h6;rw[CL,D3];simp only[N8,Lr,L4];have hk:kinds (z::l)↔(6<=z.kind/\z.kind<=8)/\kinds l:=by unfold kinds;simp
   have go:∀{a' b' c':Int},0<=a'->0<=b'->0<=c'->a'<=a+1->b'<=b+1->c'<=c+1->6<=z.kind/\z.kind<=8->a'+Hf 6 l=a+Hf 6 (z::l)->b'+Hf 7 l=b+Hf 7 (z::l)->c'+Hf 8 l=c+Hf 8 (z::l) ->
       (some (Lp.nx (a',b',c'))).bind (PW (CL (λi z x=>D3 y i z x.1 x.2.1 x.2.2) (λx=>(x.1,x.2.1,x.2.2)) l (i+1)))=some (Kv (kinds (z::l)) (.inl (a+Hf 6 (z::l),b+Hf 7 (z::l),c+Hf 8 (z::l))) (.inr (false,y))):=by
     intro a' b' c' g1 g2 g3 g4 g5 g6 gk e1 e2 e3;show CL _ _ l (i+1) (a',b',c')=_;rw[YG g1 g2 g3 (by omega) (by omega) (by omega),e1,e2,e3];by_cases hl:kinds l;rw[Cv hl,Cv (hk.2 ⟨gk,hl⟩)];rw[Cy hl,Cy λq=>hl (hk.1 q).2]
   by_cases k6:z.kind < 6;rw[Cv k6,Cy λq=>by have:=(hk.1 q).1;omega];rfl;rw[Cy k6];by_cases k8:8 < z.kind;rw[Cv k8,Cy λq=>by have:=(hk.1 q).1;omega];rfl;rw[Cy k8];by_cases e6:z.kind=6;rw[Cv e6,CJ (by omega)];exact go (by omega) h2 h3 (by omega) (by omega) (by omega) (by omega) (by simp[Hf,e6];omega) (by simp[Hf,e6]) (by simp[Hf,e6]);rw[Cy e6];by_cases e7:z.kind=7;rw[Cv e7,CJ (by omega)];exact go h1 (by omega) h3 (by omega) (by omega) (by omega) (by omega) (by simp[Hf,e7]) (by simp[Hf,e7];omega) (by simp[Hf,e7]);rw[Cy e7];have e8:z.kind=8:=by omega
   rw[Cv e8,CJ (by omega)];exact go h1 h2 (by omega) (by omega) (by omega) (by omega) (by omega) (by simp[Hf,e8]) (by simp[Hf,e8]) (by simp[Hf,e8];omega)
def vI(n:Nd):Prop:=PE n.n/\Rx n.name/\Gq n ⟨0,n.name,ByteArray.empty,n.n,0,0,0,⟨0,[]⟩,[],0⟩/\∃h cs,n.kids=h::cs/\kinds cs/\Hf 8 cs=1/\Hf 7 cs<=1/\Ro h/\∀k∈cs,KH k
def IC(n:Nd):Prop :=
 (n.kind=2/\Rx n.name/\Vl n.unit/\n.kids.length=0/\Gq n ⟨0,n.name,n.unit,0,0,0,0,⟨0,[]⟩,[],0⟩) \/
 (n.kind=3/\Rx n.name/\Vl n.unit/\1<=n.n/\n.n<=4/\n.kids.length=0/\Gq n ⟨0,n.name,n.unit,n.n,0,0,0,⟨0,[]⟩,[],0⟩) \/
 (n.kind=4/\vI n)
def it2{n:Nd}(h:n.kind=2):IC n↔Rx n.name/\Vl n.unit/\n.kids.length=0/\Gq n ⟨0,n.name,n.unit,0,0,0,0,⟨0,[]⟩,[],0⟩:=by unfold IC;simp[h]
def it3{n:Nd}(h:n.kind=3):IC n↔Rx n.name/\Vl n.unit/\1<=n.n/\n.n<=4/\n.kids.length=0/\Gq n ⟨0,n.name,n.unit,n.n,0,0,0,⟨0,[]⟩,[],0⟩:=by unfold IC;simp[h]
def it4{n:Nd}(h:n.kind=4):IC n↔vI n:=by unfold IC;simp[h]
def amU{n:Nd}(h:IC n):n.kind=2\/n.kind=3\/n.kind=4:=by
 unfold IC at h;rcases h with h | h | h
 all_goals
   have:=h.1;simp[this]
def axS{n:Nd}(Xm:KU n){c d:Int}(h0:0<=c)(h1:c<=2000)(h2:0<=d):Out (Eg ⟨c⟩ n d) (IC n/\c+DB n<=2000/\d+M3 n<=41) (c+DB n):=by
 obtain⟨sJ,hkl,gL⟩:=YT Xm;have hsz:=EY n;have hdp:=NW n;have hd:=@Yc n.kids;rw[Eg];refine ML (YR n h0 h1) (λhp=>?_) λz hp=>Kq λa=>hp ⟨by omega,by omega⟩;dsimp only;rw[cond_true,CJ (a:=d) (b:=1) (by omega)];have e0:(((n.kids.length:Nat):Int)=0)=(n.kids.length=0):=propext (by omega);simp only[Lr,QS,N8,L4,tK,rY,U8,X1 _ _ sJ,Option.bind_some,e0];have hc1:=hp.1;have hd1:=hp.2;have Yz:∀{B:Prop},(B↔IC n)->(B->n.kids.length=0)->Out (some (mb B,c+1)) (IC n/\c+DB n<=2000/\d+M3 n<=41) (c+DB n):=λhB hk=>(U6 hB).congr ⟨λa=>⟨a,by have:=sS (hk (hB.2 a));omega⟩,λa=>a.1⟩ λa=>by have:=sS (hk (hB.2 a.1));omega
 by_cases k2:n.kind=2;rw[Cv k2];simp only[eX,pO,xF];refine Yz ?_ ?_;rw[it2 k2];intro h;exact h.2.2.1;rw[Cy k2];by_cases k3:n.kind=3;rw[Cv k3];simp only[eX,pO,xF];refine Yz ?_ ?_;rw[it3 k3];intro h;exact h.2.2.2.2.1;rw[Cy k3];by_cases k4:n.kind=4;rotate_left;rw[Cy k4];exact Kq λa=>by have:=amU a.1;omega
 rw[Cv k4,it4 k4];refine Ia (λhr=>Ia (λhn=>Ia (λhb=>?_) λa=>a.1.2.2.1) λa=>a.1.2.1) λa=>a.1.1;refine jY (λhl0=>?_) λa h=>by obtain⟨h',cs,hk,_⟩:=a.1.2.2.2;rw[hk] at h;simp at h
 have SK:(∀k∈n.kids,d+1+M3 k<=41)↔d+M3 n<=41:=by
   constructor;intro h;have:=(hd (m:=(40 - d).toNat)).2 λk hk=>by have:=h k hk;omega
   omega;intro h k hk;have:=(hd (m:=Uq n.kids)).1 (Nat.le_refl _) k hk;omega
 unfold vI;generalize n.kids=ks at *
 match ks,hl0 with
 | x::l,_ =>
 have L7:ahM (x::l) 1 (((x::l).length:Nat):Int)=some l:=by
   unfold ahM;rw[if_pos (by simp only[List.length_cons];omega)];simp
 rw[L7];simp only[Option.bind_some,List.length_cons] at hkl ⊢
 have e2:∀{A:Prop},(∃h cs,x::l=h::cs/\kinds cs/\Hf 8 cs=1/\Hf 7 cs<=1/\Ro h/\∀k∈cs,KH k)↔(kinds l/\Hf 8 l=1/\Hf 7 l<=1/\Ro x/\∀k∈l,KH k):=by
   intro _;constructor;rintro⟨h,cs,e,r⟩;cases e;exact r;intro r;exact⟨x,l,rfl,r⟩
 rw[Pq (by omega),List.drop_zero,YG (by omega) (by omega) (by omega) (by omega) (by omega) (by omega)];simp only[Option.bind_some];by_cases hK:kinds l;rotate_left;rw[Cy hK];show Out (some (false,c+1)) _ _;exact Kq λa=>hK ((e2 (A:=True)).1 a.1.2.2.2).1;rw[Cv hK];show Out (Kv ((0:Int)+Hf 8 l=1) (Kv (1 < (0:Int)+Hf 7 l) (some (false,c+1)) _) (some (false,c+1))) _ _;refine Ia (λh8=>jY (λh7=>?_) λa=>?_) λa=>?_;rotate_left;have:=((e2 (A:=True)).1 a.1.2.2.2).2.2.1;omega;have:=((e2 (A:=True)).1 a.1.2.2.2).2.1;omega;simp only[List.getElem?_cons_zero,Option.bind_some];have hdx:=λh=>SK.2 h x (by simp);have hsl:Ge (x::l)=DB x+Ge l:=by simp[Ge]
 refine ML (awL (gL x (by simp)) (c:=c+1) (d:=d+1) (by omega) hc1) (λhx=>?_) λz hx=>Kq λa=>hx ⟨((e2 (A:=True)).1 a.1.2.2.2).2.2.2.1,by omega,hdx a.2.2⟩;dsimp only;rw[cond_true,EG,Pq (by omega),List.drop_zero];dsimp only;refine MK (RY (g:=DJ) (p:=KH) (d:=d+1) (by omega) hx.2.1 λk hk c' b0 b1=>abD (gL k (by simp[hk])) b0 b1 (by omega)) ?_ λ_=>by omega
 constructor;rintro⟨a,b⟩;refine⟨⟨hr,hn,hb,(e2 (A:=True)).2 ⟨hK,by omega,by omega,hx.1,λk hk=>(a k hk).1⟩⟩,by omega,SK.1 λk hk=>?_⟩;rcases List.mem_cons.1 hk with rfl | hk
 exact hx.2.2;exact(a k hk).2;rintro⟨a,b,e⟩;exact⟨λk hk=>⟨((e2 (A:=True)).1 a.2.2.2).2.2.2.2 k hk,SK.2 e k (by simp[hk])⟩,by omega⟩
def okV(n:Nd):Prop:=((n.kind=1/\Gq n z0/\∀k∈n.kids,IC k)\/(n.kind≠1/\J5 n))/\DB n<=2000/\M3 n<=40
def fS{n:Nd}(Xm:KU n):Em n=some (mb (okV n)):=by
 obtain⟨sJ,hkl,gL⟩:=YT Xm;have hsz:=EY n;have hdp:=NW n;have hd:=@Yc n.kids;rw[Em,Lr,L4]
 have fin:∀{r:Option (Bool×Int)} {P:Prop} {t:Int},Out r P t->(P↔okV n)->(r.bind λ(a,_)=>some a)=some (mb (okV n)):=by
   rintro r P t ⟨z,rfl,_⟩ h;rw[MI h];rfl
 by_cases k1:n.kind=1;rotate_left;rw[Cy k1];refine fin (abZ Xm 0 1 (by omega) (by omega) (by omega) (by omega)) ?_;unfold okV;constructor;rintro⟨a,b,c⟩;exact⟨.inr ⟨k1,a⟩,by omega,by omega⟩;rintro⟨a | a,b,c⟩;exact absurd a.1 k1;exact⟨a.2,by omega,by omega⟩;rw[Cv k1];obtain⟨z,hz,hz2⟩:=YR n (c:=0) (d:=1) (by omega) (by omega);rw[hz];simp only[Option.bind_some,X1 _ _ sJ,L4];by_cases h1:(0:Int)+1<=2000/\(1:Int)<=40;rotate_left;exact absurd ⟨by omega,by omega⟩ h1;rw[Cv h1,hz2 h1];by_cases hb:Gq n z0;rotate_left;rw[Cy hb];refine fM ?_;rintro⟨a | a,_⟩;exact hb a.2.1;exact a.1 k1;rw[Cv hb,Fh,Pq hkl,List.drop_zero];dsimp only;refine fin (RY (g:=Eg) (p:=IC) (d:=2) (by omega) (by omega) λk hk c' b0 b1=>axS (gL k hk) b0 b1 (by omega)) ?_;unfold okV;constructor;rintro⟨a,b⟩;refine⟨.inl ⟨k1,hb,λk hk=>(a k hk).1⟩,by omega,?_⟩;have:=(hd (m:=39)).2 λk hk=>by have:=(a k hk).2;omega
 omega;rintro⟨a | a,b,e⟩;refine⟨λk hk=>⟨a.2.2 k hk,?_⟩,by omega⟩;have:=(hd (m:=Uq n.kids)).1 (Nat.le_refl _) k hk;omega;exact absurd k1 a.1
end Mo
end Go.Proofs.YtpbkhogolfegfaaGreatDoor
namespace Go.Proofs.YtpbkhogolfegfaaGreatDoor
open AI Go
namespace Mo
set_option maxRecDepth 100000
abbrev Rd(α:Type):=List Tk->Option ((α⊕Dg)×List Tk)
section
variable {α β:Type}
def FQ(a:α):Rd α:=λl=>some (.inl a,l)
def MW(e p:Int):Rd α:=λl=>some (.inr ⟨e,p⟩,l)
def Cu(m:Rd α)(k:α->Rd β):Rd β:=λl=>match m l with
 | none=>none
 | some (.inl a,s)=>k a s
 | some (.inr d,s)=>some (.inr d,s)
def LU(x:Option α)(k:α->Rd β):Rd β:=λl=>match x with
 | none=>none
 | some a=>k a l
def Vc(en:Int)(k:Tk->Rd β):Rd β:=λl=>match l with
 | []=>some (.inr ⟨72,en⟩,[])
 | t::s=>k t (t::s)
def Vz(k:Rd β):Rd β:=λl=>match l with
 | []=>none
 | _::s=>k s
def Ju(x:ByteArray):List Tk->Bool
 | []=>false
 | t::_=>BY t.text.data.toList x.data.toList
def Ot(x:ByteArray)(yes no:Rd β):Rd β:=λl=>cond (Ju x l) (Vz yes l) (no l)
end
def LK(en:Int)(fits:Tk->Option Bool):Rd Tk:=Vc en λt=>LU (fits t) λb=>cond b (Vz (FQ t)) (MW 71 t.AH)
def JL(en:Int)(x:ByteArray):Rd Tk:=LK en λt=>Ds t x
def aP(en:Int):Rd Tk:=LK en Cw
def lQ(en:Int):Rd Tk:=LK en Fa
def bB(en:Int):Rd Tk:=LK en BT
def Ny(en:Int):Rd (Int×Int):=Cu (LK en Eo) λt=>LU (R0 t.text) λn=>FQ (n.1,t.AH)
def Me(en least:Int):Rd (Int×Int):=Cu (Ny en) λp=>cond (Et p.1 least) (MW 3 p.2) (cond (Et 1000000 p.1) (MW 3 p.2) (FQ p))
def R6(en least:Int):Rd Int:=Cu (LK en EP) λt=>LU (Fs t.text) λd=>cond (CV d.2 0) (cond (Et d.1 least) (MW 21 t.AH) (FQ d.1)) (MW 21 t.AH)
abbrev bE:ByteArray:=ByteArray.empty
def E9(kind:Int)(name unit:ByteArray)(n:Int)(kids:List Nd)(p:Int):Nd:=⟨kind,name,unit,n,0,0,0,⟨0,[]⟩,kids,p⟩
def Wt(en:Int):Rd Nd:=Cu (JL en tM) λt=>Cu (Me en 0) λn=>Cu (JL en rW) λ_=>Cu (R6 en 0) λf =>
 Ot toS (Cu (R6 en (Bt f 1)) λu=>Cu (JL en VN) λ_=>Cu (R6 en 0) λk=>FQ ⟨5,bE,bE,n.1,f,u,k,⟨0,[]⟩,[],t.AH⟩)
   (Cu (JL en VN) λ_=>Cu (R6 en 0) λk=>FQ ⟨5,bE,bE,n.1,f,36525,k,⟨0,[]⟩,[],t.AH⟩)
def R7(en:Int):Rd Nd:=Vc en λt=>Vz<|Cu (aP en) λm=>Cu (JL en Vb) λ_=>Cu (lQ en) λu =>
 cond (BY t.text.data.toList OX.data.toList)
   (Cu (bB en) λr=>LU (Ev r.text) λn=>Cu (JL en RL) λ_=>FQ (E9 3 m.text u.text n [] t.AH))
   (Cu (JL en RL) λ_=>FQ (E9 2 m.text u.text 0 [] t.AH))
def Gs(en:Int):Rd Nd:=Cu (Me en 1) λp=>FQ (E9 11 bE EF p.1 [] p.2)
def OP{β:Type}(n:Nat)(m:Rd β):Rd β:=λs=>MH n (m s)
def Ru(read:Rd Nd):Nat->List Nd->Rd (List Nd)
 | 0,_=>λ_=>none
 | q+1,l=>Ot T5 (Cu read λn=>OP (l.length+1) (Ru read q (l++[n]))) (FQ l)
def Sf(read:Rd Nd):Rd (List Nd):=Cu read λn s=>Ru read (s.length+1) [n] s
def OC(en:Int):Rd (Int×Int):=Cu (LK en Df) λt=>LU (Cr t) λc=>cond (CV t.kind 3) (cond (CV c 0) (FQ (c,t.AH)) (MW 3 t.AH)) (FQ (c,t.AH))
def WN(en:Int):Rd Int:=Cu (LK en ET) λt=>cond (BY t.text.data.toList Lh.data.toList) (FQ (-1)) (FQ 1)
def oC:Nat->Int->Int->Int
 | 0,a,_=>a
 | n+1,a,b=>if b=0 then a else oC n b (a % b)
def acI(a b:Int):Option Int:=if 1<=a/\0<=b then some (oC (b.toNat+1) a b) else none
def O0(en Az from_ a:Int):Rd (Pt×Int):=Cu (WN en) λs=>Cu (Me en 0) λm=>Cu (JL en EC) λ_=>Cu (Me en 1) λd =>
 LU (acI Az d.1) λg=>LU (S6 Az g) λz=>cond (Et 1000000 (BQ z d.1)) (MW 2 d.2) (FQ (⟨from_,a,BQ m.1 s,d.1⟩,BQ z d.1))
def NE(en Az from_:Int):Rd (Pt×Int):=Cu (JL en Vb) λ_=>Ot Lh (Cu (OC en) λa=>O0 en Az from_ (BQ a.1 (-1))) (Cu (OC en) λa=>O0 en Az from_ (BQ a.1 1))
def Sk(en:Int)(before:List Pt)(Az:Int):Rd (Pt×Int):=Cu (OC en) λv =>
 cond (CV ((before.length:Nat):Int) 0) (cond (CV v.1 0) (NE en Az v.1) (MW 3 v.2))
   (LU (before[before.length - 1]?) λq=>cond (Nv v.1 q.fr) (MW 3 v.2) (cond (Nv 64 ((before.length:Nat):Int)) (MW 2 v.2) (NE en Az v.1)))
def Mp(en:Int):Nat->List Pt->Int->Rd (List Pt×Int)
 | 0,_,_=>λ_=>none
 | q+1,l,c=>Cu (Sk en l c) λp=>OP (l.length+1) (Ot T5 (Mp en q (l++[p.1]) p.2) (FQ (l++[p.1],p.2)))
def Mv(c p:Int):List Pt->List Pc->Rd (List Pc)
 | [],acc=>FQ acc
 | x::xs,acc=>LU (S6 c x.den) λz=>cond (Et 1000000 (BQ x.num z)) (MW 2 p) (cond (Et (BQ x.num z) (-1000000)) (MW 2 p) (OP (acc.length+1) (Mv c p xs (acc++[⟨x.fr,BQ x.AH c,BQ x.num z⟩]))))
inductive Ek where
 | ex | lv (i:Nat) | at_ | wd (t:Tk) | ca | ta
def Zg(en:Int)(g:Ek->Rd Nd):Rd Nd:=Cu (JL en Ra) λt=>Cu (JL en T4) λ_=>Cu (g .ex) λa=>Cu (JL en RL) λ_=>Cu (λs=>Mp en (s.length+1) [] 1 s) λl=>Cu (JL en VW) λe =>
 OP l.1.length (Cu (Mv l.2 e.AH l.1 []) λr=>FQ ⟨18,bE,bE,0,0,0,0,⟨l.2,r⟩,[a],t.AH⟩)
def X5(en:Int)(g:Ek->Rd Nd)(li:Rd (List Nd)):Rd Nd:=Vc en λt=>Vz<|Cu (JL en T4) λ_=>Cu (g .ex) λa=>Cu (JL en T5) λ_=>Cu li λl=>OP (1+l.length)<|Cu (JL en VW) λ_=>FQ (E9 17 t.text bE 0 (a::l) t.AH)
def UJ(t:Tk):Rd Nd:=Vz (FQ (E9 14 t.text bE 0 [] t.AH))
def RC(en:Int)(g:Ek->Rd Nd)(t:Tk):Rd Nd :=
 cond (BY t.text.data.toList Zm.data.toList) (Vz (FQ (E9 11 bE Ha 1 [] t.AH))) <|
 cond (BY t.text.data.toList TI.data.toList) (Vz (FQ (E9 11 bE Ha 0 [] t.AH))) <|
 cond (BY t.text.data.toList cW.data.toList) (Vz (Cu (Me en 1) λp=>FQ (E9 13 bE bE p.1 [] t.AH))) <|
 cond (BY t.text.data.toList LL.data.toList) (UJ t)<|cond (BY t.text.data.toList dF.data.toList) (UJ t)<|cond (BY t.text.data.toList QT.data.toList) (UJ t)<|cond (BY t.text.data.toList Vy.data.toList) (UJ t) <|
 cond (BY t.text.data.toList KT.data.toList) (g .ca)<|cond (BY t.text.data.toList FR.data.toList) (g .ca)<|cond (BY t.text.data.toList Ra.data.toList) (g .ta) <|
 cond (BY t.text.data.toList T4.data.toList) (Vz (Cu (g .ex) λa=>Cu (JL en VW) λ_=>FQ a)) (MW 71 t.AH)
def X0(en:Int)(g:Ek->Rd Nd):Rd Nd:=Vc en λt =>
 cond (CV t.kind 3) (Cu (Ny en) λn=>Ot anG (FQ (E9 11 bE JQ n.1 [] n.2)) (FQ (E9 11 bE EF n.1 [] n.2)))
   (cond (CV t.kind 2) (Vz (Cu (LK en D4) λa=>LU (Cr a) λc=>FQ (E9 11 bE t.text c [] t.AH)))
     (LU (Cw t) λb=>cond b (Vz (FQ (E9 12 t.text bE 0 [] t.AH))) (g (.wd t))))
def opsOf:Nat->List ByteArray
 | 0=>[jW]
 | 1=>[PQ]
 | 3=>[GP,HH,JC,G9,IK,Fy]
 | 4=>[Oo,Lh]
 | 5=>[PD,EC,iA]
 | _=>[]
def nA{β:Type}(yes:ByteArray->Rd β)(no:Rd β):List ByteArray->Rd β
 | []=>no
 | x::xs=>Ot x (yes x) (nA yes no xs)
def Q5(en:Int)(sub:Rd Nd)(op:ByteArray)(l:Nd):Rd Nd:=Cu (cond (BY op.data.toList EC.data.toList) (Gs en) sub) λr=>LU (Bb op l r) λb=>FQ b
def Ln(en:Int)(ops:List ByteArray)(sub:Rd Nd):Nat->Nd->Rd Nd
 | 0,_=>λ_=>none
 | q+1,l=>nA (λop=>Cu (Q5 en sub op l) λb=>Ln en ops sub q b) (FQ l) ops
def N6(en:Int)(g:Ek->Rd Nd)(i:Nat):Rd Nd:=Cu (g (.lv (i+1))) λl s=>Ln en (opsOf i) (g (.lv (i+1))) (s.length+1) l s
def iI(en:Int)(g:Ek->Rd Nd):Rd Nd:=Cu (g (.lv 4)) λl=>nA (λop=>Q5 en (g (.lv 4)) op l) (FQ l) (opsOf 3)
def YS(en:Int)(g:Ek->Rd Nd):Rd Nd:=λs=>cond (Ju U3 s) (Cu (JL en U3) (λt=>Cu (g (.lv 2)) λk=>FQ (E9 15 bE bE 0 [k] t.AH)) s) (g (.lv 3) s)
def O4(en:Int)(g:Ek->Rd Nd)(li:Rd (List Nd)):Ek->Rd Nd
 | .ex=>g (.lv 0)
 | .lv 2=>YS en g
 | .lv 3=>iI en g
 | .lv 6=>g .at_
 | .lv i=>N6 en g i
 | .at_=>X0 en g
 | .wd t=>RC en g t
 | .ca=>X5 en g li
 | .ta=>Zg en g
def gP(en:Int):Nat->(Ek->Rd Nd)×Rd (List Nd)
 | 0=>(λ_ _=>none,λ_=>none)
 | q+1=>(O4 en (gP en q).1 (gP en q).2,Sf ((gP en q).1 .ex))
def IF(en:Int)(ex:Rd Nd)(kind:Int):Rd Nd:=Vc en λt=>Vz <|
 cond (CV kind 7) (Cu (Sf (Gs en)) λl=>Cu (JL en RL) λ_=>FQ (E9 kind bE bE 0 l t.AH)) (Cu ex λe=>Cu (JL en RL) λ_=>FQ (E9 kind bE bE 0 [e] t.AH))
def Ir(en:Int)(ex:Rd Nd)(mk:List Nd->Nd):Nat->List Nd->Bool->Bool->Rd Nd
 | 0,_,_,_=>λ_=>none
 | q+1,l,un,am=>Vc en λt =>
   cond (BY t.text.data.toList cG.data.toList) (Cu (IF en ex 6) λc=>OP (l.length+1) (Ir en ex mk q (l++[c]) un am)) <|
   cond (BY t.text.data.toList SZ.data.toList) (cond un (MW 5 t.AH) (Cu (IF en ex 7) λc=>OP (l.length+1) (Ir en ex mk q (l++[c]) true am))) <|
   cond (BY t.text.data.toList QG.data.toList) (cond am (MW 5 t.AH) (Cu (IF en ex 8) λc=>OP (l.length+1) (Ir en ex mk q (l++[c]) un true))) <|
   cond (BY t.text.data.toList Z0.data.toList) (cond am (Vz (FQ (mk l))) (MW 71 t.AH)) (MW 71 t.AH)
def MD(en:Int)(ex:Rd Nd):Rd Nd:=Cu (JL en Ig) λt=>Cu (Me en 1) λn=>Cu (JL en acF) λ_=>Cu (aP en) λm=>Cu (Wt en) λh=>Cu (JL en eZ) λ_=>λs =>
 Ir en ex (λl=>E9 4 m.text bE n.1 l t.AH) (s.length+1) [h] false false s
def P1(en:Int)(ex:Rd Nd):Rd Nd:=Vc en λt =>
 cond (BY t.text.data.toList Tl.data.toList) (R7 en)<|cond (BY t.text.data.toList OX.data.toList) (R7 en)<|cond (BY t.text.data.toList Ig.data.toList) (MD en ex) (MW 71 t.AH)
end Mo
end Go.Proofs.YtpbkhogolfegfaaGreatDoor
