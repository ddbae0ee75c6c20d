/- Part of a proof: see the last text. -/
import Derived.Test.YtpbkhogolfegfaaGreatDoorPiq
set_option linter.unusedVariables false
set_option linter.unusedSimpArgs false
set_option linter.defProp false
noncomputable section
namespace Go.Proofs.YtpbkhogolfegfaaGreatDoor
open AI Go
namespace Mo
set_option maxRecDepth 100000
set_option maxHeartbeats 4000000
variable {mx:Int}
def an9:Code:=A0 Tryz.f145
def aoT:Tryz.f145.body=some an9:=by kernel_rfl
def GN(day:Int):Option Bool:=cond (NI 0 day) (cond (NI day 36524) (some true) (some false)) (some false)
def Kz{day:Int}{yR:Bool}(h:GN  day=some yR):Pure P (G mx) 145 [.zi day] (.zb yR):=by
 unfold GN at h;refine CQ Hd.mixed Hd.Aa (Au Tryz.func145 aoT ?_) (A1 rfl rfl) rfl;revert h;refine Ag (λAW=>?_) λAW=>?_;refine Ag (λBZ=>?_) λBZ=>?_;rintro⟨⟩;exact rT [pb AW,pb BZ];rintro⟨⟩;exact rT [pb AW,pb BZ];rintro⟨⟩;exact rT [pb AW]
def anT:Code:=A0 Tryz.f102
def aoz:Tryz.f102.body=some anT:=by kernel_rfl
def Fx(c:Ck)(n:Nd)(depth:Int):Option (Bool×Int):=(CH c n depth).bind λ(Ep,Bj)=>cond Ep (cond (CZ n.kind 5) (cond (Ez n.n 0) (some (false,Bj)) (cond (Ez 1000000 n.n) (some (false,Bj)) (cond (Ez 0 ((n.kids.length:Nat):Int)) (some (false,Bj)) ((GN n.fr).bind λy2=>cond y2 (cond (NI n.to n.fr) (some (false,Bj)) (cond (Ez 36525 n.to) (some (false,Bj)) ((GN n.known).bind λy3=>cond y3 ((B0 n (⟨0,ByteArray.empty,ByteArray.empty,n.n,n.fr,n.to,n.known,(⟨0,[]⟩:Fn),[],0⟩:Nd)).bind λy4=>some (y4,Bj)) (some (false,Bj))))) (some (false,Bj)))))) (some (false,Bj))) (some (false,Bj))
def R7{c:Ck}{n:Nd}{depth:Int}{yR:Bool}{Ae:Int}(hS:Sound P (G mx) (.call 102 [.ptr 0 0,.agg (CT n),.zi depth] ⟨[(0,.cells (JF c))],1,[],0⟩ (.ret (.zb yR)) ⟨[(0,.cells [.zi Ae])],1,[],0⟩))(u0:Nat)(Qg:([u0]:List Nat).Nodup:=by decide)(Qh:([]:List Nat).Nodup:=by decide):Cd.ok P (G mx) (.Fc 102 [.ptr u0 0,.agg (CT n),.zi depth] (.ret (.zb yR)) [(u0,.cells (JF c))] [] [(u0,.cells [.zi Ae])] []) :=
 HH (M:=[.cells (JF c)]) (M2:=[.cells [.zi Ae]]) (T:=[]) (T2:=[]) (k:=1) (j:=0) Hd.Aa _ _ _ _ hS rfl rfl rfl rfl rfl Qg Qh rfl rfl (.cons (.cells (.pl (RS.pl c))) .nil) (.cons (.cells (.pl (A1 rfl rfl))) .nil) (.cons (.ptr (by decide)) (.cons (.pl (AE.Cs n)) (.cons (.pl rfl) .nil))) (.pl rfl) (λe he=>by simp only[List.mem_singleton] at he;subst he;exact(.arg (.here .ptr)))
def PQ{c:Ck}{n:Nd}{depth:Int}{yR:Bool}{Ae:Int}(h:Fx  c n depth=some (yR,Ae)):Sound P (G mx) (.call 102 [.ptr 0 0,.agg (CT n),.zi depth] ⟨[(0,.cells (JF c))],1,[],0⟩ (.ret (.zb yR)) ⟨[(0,.cells [.zi Ae])],1,[],0⟩):=by
 unfold Fx at h;refine BW Hd.mixed (Au Tryz.func102 aoz ?_);revert h;refine Aq ?_;rintro⟨Ep,Bj⟩ B8;dsimp only;let o1:List (PC P (G mx)):=[Af (Fy (Et B8) 0)];refine Ag (λhv=>?_) λhv=>?_;subst hv;refine Ag (λAW=>?_) λAW=>?_;refine Ag (λBZ=>?_) λBZ=>?_;rintro⟨⟩;exact Aw Hd.Aa _ _ [] [none] (Ac 300 (o1++[pn AW,pb BZ])) (by kernel_rfl) .body;let o2:List (PC P (G mx)):=o1++[pn AW,pb BZ];refine Ag (λDz=>?_) λDz=>?_;rintro⟨⟩;exact Aw Hd.Aa _ _ [] [none] (Ac 300 (o2++[pb Dz])) (by kernel_rfl) .body;refine Ag (λFk=>?_) λFk=>?_;rintro⟨⟩;exact Aw Hd.Aa _ _ [] [none] (Ac 300 (o2++[pb Dz,pb Fk])) (by kernel_rfl) .body;refine Aq λy2 D6=>?_;let o3:List (PC P (G mx)):=o2++[pb Dz,pb Fk,AG (Kz D6)];refine Ag (λhv=>?_) λhv=>?_;subst hv;refine Ag (λHY=>?_) λHY=>?_;rintro⟨⟩;exact Aw Hd.Aa _ _ [] [none] (Ac 300 (o3++[pb HY])) (by kernel_rfl) .body;refine Ag (λIN=>?_) λIN=>?_;rintro⟨⟩;exact Aw Hd.Aa _ _ [] [none] (Ac 300 (o3++[pb HY,pb IN])) (by kernel_rfl) .body;refine Aq λy3 Fu=>?_;refine Ag (λhv=>?_) λhv=>?_;subst hv;refine Aq λy4 JU=>?_;rintro⟨⟩;exact Aw Hd.Aa _ _ [] [none] (Ac 300 (o3++[pb HY,pb IN,AG (Kz Fu),GW (.r (.g (.r (.r (.r (.r (.r (.r (.r (.r (.z (.z (.r .nil))))))))))) .nil)) (BV JU)])) (by kernel_rfl) .body;subst hv;rintro⟨⟩;exact Aw Hd.Aa _ _ [] [none] (Ac 300 (o3++[pb HY,pb IN,AG (Kz Fu)])) (by kernel_rfl) .body;subst hv;rintro⟨⟩;exact Aw Hd.Aa _ _ [] [none] (Ac 300 o3) (by kernel_rfl) .body;rintro⟨⟩;exact Aw Hd.Aa _ _ [] [none] (Ac 300 (o1++[pn AW])) (by kernel_rfl) .body;subst hv;rintro⟨⟩;exact Aw Hd.Aa _ _ [] [none] (Ac 300 o1) (by kernel_rfl) .body
def Ge(depth:Int)(i0:Nat)(e0:Nd)(Fb:Int):Option (Lp Int Int (Bool×Int)):=(FZ (⟨Fb⟩:Ck) e0 depth).bind λ(Ep,Bj)=>cond Ep (some (.nx Bj)) (some (.rt (false,Bj)))
def EM(c:Ck)(list:(List Nd))(depth:Int):Option (Bool×Int):=(RT list.length (CO (λi y x=>Ge  depth i y x) (λx=>x) (list.drop 0) 0 c.nodes)).bind (Ma (λ(OT:Int)=>some (true,OT)) (λv=>some v))
def NN{c:Ck}{list:(List Nd)}{depth:Int}{yR:Bool}{Ae:Int}(hS:Sound P (G mx) (.call 55 [.ptr 0 0,.sl .lost list.length (BH list),.zi depth,.fn (.func 144) [.ptr 0 0] []] ⟨[(0,.cells (JF c))],1,[],0⟩ (.ret (.zb yR)) ⟨[(0,.cells [.zi Ae])],1,[],0⟩))(u0:Nat)(Qg:([u0]:List Nat).Nodup:=by decide)(Qh:([]:List Nat).Nodup:=by decide):Cd.ok P (G mx) (.Fc 55 [.ptr u0 0,.sl .lost list.length (BH list),.zi depth,.fn (.func 144) [.ptr u0 0] []] (.ret (.zb yR)) [(u0,.cells (JF c))] [] [(u0,.cells [.zi Ae])] []) :=
 HH (M:=[.cells (JF c)]) (M2:=[.cells [.zi Ae]]) (T:=[]) (T2:=[]) (k:=1) (j:=0) Hd.Aa _ _ _ _ hS rfl rfl rfl rfl rfl Qg Qh rfl rfl (.cons (.cells (.pl (RS.pl c))) .nil) (.cons (.cells (.pl (A1 rfl rfl))) .nil) (.cons (.ptr (by decide)) (.cons (.pl (AE.KJ list)) (.cons (.pl rfl) (.cons (.fn (.cons (.ptr (by decide)) .nil) (.pl rfl)) .nil)))) (.pl rfl) (λe he=>by simp only[List.mem_singleton] at he;subst he;exact(.arg (.here .ptr)))
def Mp{c:Ck}{list:(List Nd)}{depth:Int}{yR:Bool}{Ae:Int}(h:EM  c list depth=some (yR,Ae)):Sound P (G mx) (.call 55 [.ptr 0 0,.sl .lost list.length (BH list),.zi depth,.fn (.func 144) [.ptr 0 0] []] ⟨[(0,.cells (JF c))],1,[],0⟩ (.ret (.zb yR)) ⟨[(0,.cells [.zi Ae])],1,[],0⟩):=by
 unfold EM at h;refine BW Hd.mixed (Au Tryz.func55 b55 ?_);revert h;refine R3 (λQ v=>R2 P (G mx) Tryz.f55 1 ⟨[(0,.cells (JF c))],1,[],0⟩ Q (.zb v.1) ⟨[(0,.cells [.zi v.2])],1,[],0⟩) (λi0 (Fb:Int) (j0:List Value)=>fr 23 [(2,.zi depth),(3,.fn (.func 144) [.ptr 0 0] []),(11,.sl .lost list.length (BH list)),(12,.zi ((list.length:Nat):Int)),(13,.zi ((i0:Nat):Int))] [8,14,20,21] j0) (λ(Fb:Int)=>⟨[(0,.cells [.zi Fb])],1,[],0⟩) (λ(Fb:Int) (jx:List Value)=>fr 23 [] [8,14,20,21] jx) (λ(Fb:Int)=>⟨[(0,.cells [.zi Fb])],1,[],0⟩) [bF] (Hb [] 0 (sb B55 52) [.code (sb B55 7)] (Ac 300 []) (by kernel_rfl)) ?_ ?_ ?_ (λv h=>by cases h;exact .outer .body);rintro i0 Fb j0 N4 hq;exact DC (Ac 300 [pb (iT N4)]) (by kernel_rfl) (hq (js 4 j0 [(1,bF)]));rintro i0 e0 Fb j0 r Qf Pa P4 k;show Ge  depth i0 e0 Fb=some r->_;unfold Ge;refine Aq ?_;rintro⟨Ep,Bj⟩ B8;dsimp only;let o1:List (PC P (G mx)):=[pb (XM Pa),Jw (Kf .lost Qf),Af (Lg (PS B8) 0)];refine Ag (λhv=>?_) λhv=>?_;subst hv;rintro⟨⟩;exact Ib Hd.Aa [fq (AE.KJ list)] [none] (Ac 300 (o1++[pi P4])) (by kernel_rfl) (k [(jv j0 0),bT,bT,bF]);subst hv;rintro⟨⟩;exact Aw Hd.Aa _ _ [] [none] (Ac 300 o1) (by kernel_rfl) (.Gi k);rintro OT kL;rintro⟨⟩;exact Aw Hd.Aa _ _ [] [none] (IV 300 []) (by kernel_rfl) .body
def anU:Code:=A0 Tryz.f103
def aoA:Tryz.f103.body=some anU:=by kernel_rfl
def DO(c:Ck)(n:Nd)(depth:Int):Option (Bool×Int):=(CH c n depth).bind λ(Ep,Bj)=>cond Ep ((B0 n (⟨0,ByteArray.empty,ByteArray.empty,0,0,0,0,(⟨0,[]⟩:Fn),[],0⟩:Nd)).bind λy2=>cond y2 (cond (CZ n.kind 7) (cond (Ez 0 ((n.kids.length:Nat):Int)) ((EM (⟨Bj⟩:Ck) n.kids (Bt depth 1)).bind λ(L8,E8)=>some (L8,E8)) (some (false,Bj))) (cond (CZ ((n.kids.length:Nat):Int) 1) ((n.kids[0]?).bind λx4=>(G7 (⟨Bj⟩:Ck) x4 (Bt depth 1)).bind λ(Nq,Hf)=>some (Nq,Hf)) (some (false,Bj)))) (some (false,Bj))) (some (false,Bj))
def Qv{c:Ck}{n:Nd}{depth:Int}{yR:Bool}{Ae:Int}(hS:Sound P (G mx) (.call 103 [.ptr 0 0,.agg (CT n),.zi depth] ⟨[(0,.cells (JF c))],1,[],0⟩ (.ret (.zb yR)) ⟨[(0,.cells [.zi Ae])],1,[],0⟩))(u0:Nat)(Qg:([u0]:List Nat).Nodup:=by decide)(Qh:([]:List Nat).Nodup:=by decide):Cd.ok P (G mx) (.Fc 103 [.ptr u0 0,.agg (CT n),.zi depth] (.ret (.zb yR)) [(u0,.cells (JF c))] [] [(u0,.cells [.zi Ae])] []) :=
 HH (M:=[.cells (JF c)]) (M2:=[.cells [.zi Ae]]) (T:=[]) (T2:=[]) (k:=1) (j:=0) Hd.Aa _ _ _ _ hS rfl rfl rfl rfl rfl Qg Qh rfl rfl (.cons (.cells (.pl (RS.pl c))) .nil) (.cons (.cells (.pl (A1 rfl rfl))) .nil) (.cons (.ptr (by decide)) (.cons (.pl (AE.Cs n)) (.cons (.pl rfl) .nil))) (.pl rfl) (λe he=>by simp only[List.mem_singleton] at he;subst he;exact(.arg (.here .ptr)))
def Ov{c:Ck}{n:Nd}{depth:Int}{yR:Bool}{Ae:Int}(h:DO  c n depth=some (yR,Ae)):Sound P (G mx) (.call 103 [.ptr 0 0,.agg (CT n),.zi depth] ⟨[(0,.cells (JF c))],1,[],0⟩ (.ret (.zb yR)) ⟨[(0,.cells [.zi Ae])],1,[],0⟩):=by
 unfold DO at h;refine BW Hd.mixed (Au Tryz.func103 aoA ?_);revert h;refine Aq ?_;rintro⟨Ep,Bj⟩ B8;dsimp only;let o1:List (PC P (G mx)):=[Af (Fy (Et B8) 0)];refine Ag (λhv=>?_) λhv=>?_;subst hv;refine Aq λy2 D6=>?_;let o2:List (PC P (G mx)):=o1++[GW (.r (.g (.r (.r (.r (.r (.r (.r (.r (.r (.z (.z (.r .nil))))))))))) .nil)) (BV D6)];refine Ag (λhv=>?_) λhv=>?_;subst hv;refine Ag (λAW=>?_) λAW=>?_;refine Ag (λBZ=>?_) λBZ=>?_;refine Aq ?_;rintro⟨L8,E8⟩ Fu;dsimp only;rintro⟨⟩;exact Aw Hd.Aa _ _ [] [none] (Ac 300 (o2++[pb AW,pb BZ,pk,Af (NN (Mp Fu) 0)])) (by kernel_rfl) .body;rintro⟨⟩;exact Aw Hd.Aa _ _ [] [none] (Ac 300 (o2++[pb AW,pb BZ])) (by kernel_rfl) .body;refine Ag (λDz=>?_) λDz=>?_;refine Aq λx4 hx4=>?_;refine Aq ?_;rintro⟨Nq,Hf⟩ Ke;dsimp only;rintro⟨⟩;exact Aw Hd.Aa _ _ [] [none] (Ac 300 (o2++[pb AW,pb Dz,Jw (Kf .lost hx4),pk,Af (Bh (LJ Ke) 0)])) (by kernel_rfl) .body;rintro⟨⟩;exact Aw Hd.Aa _ _ [] [none] (Ac 300 (o2++[pb AW,pb Dz])) (by kernel_rfl) .body;subst hv;rintro⟨⟩;exact Aw Hd.Aa _ _ [] [none] (Ac 300 o2) (by kernel_rfl) .body;subst hv;rintro⟨⟩;exact Aw Hd.Aa _ _ [] [none] (Ac 300 o1) (by kernel_rfl) .body
def Gc(depth:Int)(i0:Nat)(e0:Nd)(Fb:Int):Option (Lp Int Int (Bool×Int)):=(DO (⟨Fb⟩:Ck) e0 depth).bind λ(Ep,Bj)=>cond Ep (some (.nx Bj)) (some (.rt (false,Bj)))
def EL(c:Ck)(list:(List Nd))(depth:Int):Option (Bool×Int):=(RT list.length (CO (λi y x=>Gc  depth i y x) (λx=>x) (list.drop 0) 0 c.nodes)).bind (Ma (λ(OT:Int)=>some (true,OT)) (λv=>some v))
def NM{c:Ck}{list:(List Nd)}{depth:Int}{yR:Bool}{Ae:Int}(hS:Sound P (G mx) (.call 55 [.ptr 0 0,.sl .lost list.length (BH list),.zi depth,.fn (.func 103) [.ptr 0 0] []] ⟨[(0,.cells (JF c))],1,[],0⟩ (.ret (.zb yR)) ⟨[(0,.cells [.zi Ae])],1,[],0⟩))(u0:Nat)(Qg:([u0]:List Nat).Nodup:=by decide)(Qh:([]:List Nat).Nodup:=by decide):Cd.ok P (G mx) (.Fc 55 [.ptr u0 0,.sl .lost list.length (BH list),.zi depth,.fn (.func 103) [.ptr u0 0] []] (.ret (.zb yR)) [(u0,.cells (JF c))] [] [(u0,.cells [.zi Ae])] []) :=
 HH (M:=[.cells (JF c)]) (M2:=[.cells [.zi Ae]]) (T:=[]) (T2:=[]) (k:=1) (j:=0) Hd.Aa _ _ _ _ hS rfl rfl rfl rfl rfl Qg Qh rfl rfl (.cons (.cells (.pl (RS.pl c))) .nil) (.cons (.cells (.pl (A1 rfl rfl))) .nil) (.cons (.ptr (by decide)) (.cons (.pl (AE.KJ list)) (.cons (.pl rfl) (.cons (.fn (.cons (.ptr (by decide)) .nil) (.pl rfl)) .nil)))) (.pl rfl) (λe he=>by simp only[List.mem_singleton] at he;subst he;exact(.arg (.here .ptr)))
def Mn{c:Ck}{list:(List Nd)}{depth:Int}{yR:Bool}{Ae:Int}(h:EL  c list depth=some (yR,Ae)):Sound P (G mx) (.call 55 [.ptr 0 0,.sl .lost list.length (BH list),.zi depth,.fn (.func 103) [.ptr 0 0] []] ⟨[(0,.cells (JF c))],1,[],0⟩ (.ret (.zb yR)) ⟨[(0,.cells [.zi Ae])],1,[],0⟩):=by
 unfold EL at h;refine BW Hd.mixed (Au Tryz.func55 b55 ?_);revert h;refine R3 (λQ v=>R2 P (G mx) Tryz.f55 1 ⟨[(0,.cells (JF c))],1,[],0⟩ Q (.zb v.1) ⟨[(0,.cells [.zi v.2])],1,[],0⟩) (λi0 (Fb:Int) (j0:List Value)=>fr 23 [(2,.zi depth),(3,.fn (.func 103) [.ptr 0 0] []),(11,.sl .lost list.length (BH list)),(12,.zi ((list.length:Nat):Int)),(13,.zi ((i0:Nat):Int))] [8,14,20,21] j0) (λ(Fb:Int)=>⟨[(0,.cells [.zi Fb])],1,[],0⟩) (λ(Fb:Int) (jx:List Value)=>fr 23 [] [8,14,20,21] jx) (λ(Fb:Int)=>⟨[(0,.cells [.zi Fb])],1,[],0⟩) [bF] (Hb [] 0 (sb B55 52) [.code (sb B55 7)] (Ac 300 []) (by kernel_rfl)) ?_ ?_ ?_ (λv h=>by cases h;exact .outer .body);rintro i0 Fb j0 N4 hq;exact DC (Ac 300 [pb (iT N4)]) (by kernel_rfl) (hq (js 4 j0 [(1,bF)]));rintro i0 e0 Fb j0 r Qf Pa P4 k;show Gc  depth i0 e0 Fb=some r->_;unfold Gc;refine Aq ?_;rintro⟨Ep,Bj⟩ B8;dsimp only;let o1:List (PC P (G mx)):=[pb (XM Pa),Jw (Kf .lost Qf),Af (Qv (Ov B8) 0)];refine Ag (λhv=>?_) λhv=>?_;subst hv;rintro⟨⟩;exact Ib Hd.Aa [fq (AE.KJ list)] [none] (Ac 300 (o1++[pi P4])) (by kernel_rfl) (k [(jv j0 0),bT,bT,bF]);subst hv;rintro⟨⟩;exact Aw Hd.Aa _ _ [] [none] (Ac 300 o1) (by kernel_rfl) (.Gi k);rintro OT kL;rintro⟨⟩;exact Aw Hd.Aa _ _ [] [none] (IV 300 []) (by kernel_rfl) .body
def B56:Code:=A0 Tryz.f56
def b56:Tryz.f56.body=some B56:=by kernel_rfl
def D8(Bj:Int)(i0:Nat)(e0:Nd)(C4:Int)(C5:Int)(BP:Int):Option (Lp (Int×Int×Int) (Int×Int×Int) (Bool×Int)):=cond (Ez e0.kind 6) (some (.rt (false,Bj))) (cond (Ez 8 e0.kind) (some (.rt (false,Bj))) (cond (CZ e0.kind 6) (some (.nx ((Bt C4 1),C5,BP))) (cond (CZ e0.kind 7) (some (.nx (C4,(Bt C5 1),BP))) (cond (CZ e0.kind 8) (some (.nx (C4,C5,(Bt BP 1)))) (none)))))
def Em(c:Ck)(n:Nd)(depth:Int):Option (Bool×Int):=(CH c n depth).bind λ(Ep,Bj)=>cond Ep (cond (CZ n.kind 2) ((Ei n.name).bind λy2=>cond y2 ((EU n.unit).bind λy3=>cond y3 (cond (CZ ((n.kids.length:Nat):Int) 0) ((B0 n (⟨0,n.name,n.unit,0,0,0,0,(⟨0,[]⟩:Fn),[],0⟩:Nd)).bind λy4=>some (y4,Bj)) (some (false,Bj))) (some (false,Bj))) (some (false,Bj))) (cond (CZ n.kind 3) ((Ei n.name).bind λy5=>cond y5 ((EU n.unit).bind λy6=>cond y6 (cond (NI 1 n.n) (cond (NI n.n 4) (cond (CZ ((n.kids.length:Nat):Int) 0) ((B0 n (⟨0,n.name,n.unit,n.n,0,0,0,(⟨0,[]⟩:Fn),[],0⟩:Nd)).bind λy7=>some (y7,Bj)) (some (false,Bj))) (some (false,Bj))) (some (false,Bj))) (some (false,Bj))) (some (false,Bj))) (cond (CZ n.kind 4) ((DY n.n).bind λy8=>cond y8 ((Ei n.name).bind λy9=>cond y9 ((B0 n (⟨0,n.name,ByteArray.empty,n.n,0,0,0,(⟨0,[]⟩:Fn),[],0⟩:Nd)).bind λzQ=>cond zQ (cond (CZ ((n.kids.length:Nat):Int) 0) (some (false,Bj)) ((adr n.kids 1 ((n.kids.length:Nat):Int)).bind λl11=>(RT l11.length (CO (λi y x=>D8  Bj i y x.1 x.2.1 x.2.2) (λx=>(x.1,x.2.1,x.2.2)) (l11.drop 0) 0 (0,0,0))).bind (Ma (λ((ahG,vH,vI):(Int×Int×Int))=>cond (CZ vI 1) (cond (Ez 1 vH) (some (false,Bj)) ((n.kids[0]?).bind λx13=>(Fx (⟨Bj⟩:Ck) x13 (Bt depth 1)).bind λ(iE,UI)=>cond iE ((EL (⟨UI⟩:Ck) l11 (Bt depth 1)).bind λ(iF,RF)=>some (iF,RF)) (some (false,UI)))) (some (false,Bj))) (λv=>some v)))) (some (false,Bj))) (some (false,Bj))) (some (false,Bj))) (some (false,Bj))))) (some (false,Bj))
def R8{c:Ck}{n:Nd}{depth:Int}{yR:Bool}{Ae:Int}(hS:Sound P (G mx) (.call 56 [.ptr 0 0,.agg (CT n),.zi depth] ⟨[(0,.cells (JF c))],1,[],0⟩ (.ret (.zb yR)) ⟨[(0,.cells [.zi Ae])],1,[],0⟩))(u0:Nat)(Qg:([u0]:List Nat).Nodup:=by decide)(Qh:([]:List Nat).Nodup:=by decide):Cd.ok P (G mx) (.Fc 56 [.ptr u0 0,.agg (CT n),.zi depth] (.ret (.zb yR)) [(u0,.cells (JF c))] [] [(u0,.cells [.zi Ae])] []) :=
 HH (M:=[.cells (JF c)]) (M2:=[.cells [.zi Ae]]) (T:=[]) (T2:=[]) (k:=1) (j:=0) Hd.Aa _ _ _ _ hS rfl rfl rfl rfl rfl Qg Qh rfl rfl (.cons (.cells (.pl (RS.pl c))) .nil) (.cons (.cells (.pl (A1 rfl rfl))) .nil) (.cons (.ptr (by decide)) (.cons (.pl (AE.Cs n)) (.cons (.pl rfl) .nil))) (.pl rfl) (λe he=>by simp only[List.mem_singleton] at he;subst he;exact(.arg (.here .ptr)))
def PR{c:Ck}{n:Nd}{depth:Int}{yR:Bool}{Ae:Int}(h:Em  c n depth=some (yR,Ae)):Sound P (G mx) (.call 56 [.ptr 0 0,.agg (CT n),.zi depth] ⟨[(0,.cells (JF c))],1,[],0⟩ (.ret (.zb yR)) ⟨[(0,.cells [.zi Ae])],1,[],0⟩):=by
 unfold Em at h;refine BW Hd.mixed (Au Tryz.func56 b56 ?_);revert h;refine Aq ?_;rintro⟨Ep,Bj⟩ B8;dsimp only;let o1:List (PC P (G mx)):=[Af (Fy (Et B8) 0)];refine Ag (λhv=>?_) λhv=>?_;subst hv;refine Ag (λAW=>?_) λAW=>?_;refine Aq λy2 D6=>?_;let o2:List (PC P (G mx)):=o1++[pb AW,AG (Hr D6)];refine Ag (λhv=>?_) λhv=>?_;subst hv;refine Aq λy3 Fu=>?_;refine Ag (λhv=>?_) λhv=>?_;subst hv;refine Ag (λBZ=>?_) λBZ=>?_;refine Aq λy4 JU=>?_;rintro⟨⟩;exact Aw Hd.Aa _ _ [] [none] (Ac 300 (o2++[AG (FT Fu),pb BZ,GW (.r (.g (.r (.r (.r (.r (.r (.r (.r (.r (.z (.z (.r .nil))))))))))) .nil)) (BV JU)])) (by kernel_rfl) .body;rintro⟨⟩;exact Aw Hd.Aa _ _ [] [none] (Ac 300 (o2++[AG (FT Fu),pb BZ])) (by kernel_rfl) .body;subst hv;rintro⟨⟩;exact Aw Hd.Aa _ _ [] [none] (Ac 300 (o2++[AG (FT Fu)])) (by kernel_rfl) .body;subst hv;rintro⟨⟩;exact Aw Hd.Aa _ _ [] [none] (Ac 300 o2) (by kernel_rfl) .body;let o3:List (PC P (G mx)):=o1++[pb AW];refine Ag (λDz=>?_) λDz=>?_;refine Aq λy5 Ke=>?_;let o4:List (PC P (G mx)):=o3++[pb Dz,AG (Hr Ke)];refine Ag (λhv=>?_) λhv=>?_;subst hv;refine Aq λy6 L4=>?_;let o5:List (PC P (G mx)):=o4++[AG (FT L4)];refine Ag (λhv=>?_) λhv=>?_;subst hv;refine Ag (λFk=>?_) λFk=>?_;refine Ag (λHY=>?_) λHY=>?_;refine Ag (λIN=>?_) λIN=>?_;refine Aq λy7 Sf=>?_;rintro⟨⟩;exact Aw Hd.Aa _ _ [] [none] (Ac 300 (o5++[pb Fk,pb HY,pb IN,GW (.r (.g (.r (.r (.r (.r (.r (.r (.r (.r (.z (.z (.r .nil))))))))))) .nil)) (BV Sf)])) (by kernel_rfl) .body;rintro⟨⟩;exact Aw Hd.Aa _ _ [] [none] (Ac 300 (o5++[pb Fk,pb HY,pb IN])) (by kernel_rfl) .body;rintro⟨⟩;exact Aw Hd.Aa _ _ [] [none] (Ac 300 (o5++[pb Fk,pb HY])) (by kernel_rfl) .body;rintro⟨⟩;exact Aw Hd.Aa _ _ [] [none] (Ac 300 (o5++[pb Fk])) (by kernel_rfl) .body;subst hv;rintro⟨⟩;exact Aw Hd.Aa _ _ [] [none] (Ac 300 o5) (by kernel_rfl) .body;subst hv;rintro⟨⟩;exact Aw Hd.Aa _ _ [] [none] (Ac 300 o4) (by kernel_rfl) .body;refine Ag (λJb=>?_) λJb=>?_;refine Aq λy8 N5=>?_;let o6:List (PC P (G mx)):=o3++[pb Dz,pb Jb,AG (G8 N5)];refine Ag (λhv=>?_) λhv=>?_;subst hv;refine Aq λy9 Vg=>?_;let o7:List (PC P (G mx)):=o6++[AG (Hr Vg)];refine Ag (λhv=>?_) λhv=>?_;subst hv;refine Aq λzQ Qj=>?_;let o8:List (PC P (G mx)):=o7++[GW (.r (.g (.r (.r (.r (.r (.r (.r (.r (.r (.z (.z (.r .nil))))))))))) .nil)) (BV Qj)];refine Ag (λhv=>?_) λhv=>?_;subst hv;refine Ag (λKx=>?_) λKx=>?_;rintro⟨⟩;exact Aw Hd.Aa _ _ [] [none] (Ac 300 (o8++[pb Kx])) (by kernel_rfl) .body;refine Aq λl11 amr=>?_;refine R3 (λQ v=>R2 P (G mx) Tryz.f56 1 ⟨[(0,.cells (JF c))],1,[],0⟩ Q (.zb v.1) ⟨[(0,.cells [.zi v.2])],1,[],0⟩) (λi0 ((C4,C5,BP):(Int×Int×Int)) (j0:List Value)=>fr 158 [(0,.ptr 0 0),(2,.zi depth),(4,.ptr 1 0),(7,.ptr 2 0),(110,.sl .lost l11.length (BH l11)),(111,.zi ((l11.length:Nat):Int)),(112,.zi ((i0:Nat):Int))] [6,13,14,17,18,21,22,25,26,27,31,32,33,40,41,42,43,46,47,50,51,52,55,56,57,60,61,62,66,67,68,77,78,79,80,83,84,85,88,89,90,91,98,99,100,101,105,106,113,118,119,122,123,133,134,137,138,146,147,156,157] j0) (λ((C4,C5,BP):(Int×Int×Int))=>⟨[(2,.cells [.zi 0,.zi 0,.zi 0,.zi 0,.zi 0,.zi 0,.zi C4,.zi C5,.zi BP]),(1,.cells (CT n)),(0,.cells [.zi Bj])],3,[],0⟩) (λ((C4,C5,BP):(Int×Int×Int)) (jx:List Value)=>fr 158 [(0,.ptr 0 0),(2,.zi depth),(4,.ptr 1 0),(7,.ptr 2 0)] [6,13,14,17,18,21,22,25,26,27,31,32,33,40,41,42,43,46,47,50,51,52,55,56,57,60,61,62,66,67,68,77,78,79,80,83,84,85,88,89,90,91,98,99,100,101,105,106,113,118,119,122,123,133,134,137,138,146,147,156,157] jx) (λ((C4,C5,BP):(Int×Int×Int))=>⟨[(2,.cells [.zi 0,.zi 0,.zi 0,.zi 0,.zi 0,.zi 0,.zi C4,.zi C5,.zi BP]),(1,.cells (CT n)),(0,.cells [.zi Bj])],3,[],0⟩) [bF,bT,bF,bF,bF,undef,undef,undef,undef,undef,undef,undef,undef,undef,undef,bF,bF,undef,undef,undef,undef,undef,undef,undef,undef,undef,undef,undef,undef,undef,undef,undef,undef,bT,bT,bT,bF,bF,bT,bF,bF,bF,bT,bF,bF,bF,bF,bF] (Hb [] 1 (sb B56 241588) [.code (sb B56 30199),.jV 0,.code (sb B56 15)] (Ac 300 (o8++[pb Kx,O3 (uU amr)])) (by kernel_rfl)) ?_ ?_ ?_ (λv h=>by cases h;exact .outer .body);rintro i0 ⟨C4,C5,BP⟩ j0 N4 hq;exact DC (Ac 300 [pb (iT N4)]) (by kernel_rfl) (hq (js 61 j0 [(48,bF)]));rintro i0 e0 ⟨C4,C5,BP⟩ j0 r Qf Pa P4 k;show D8  Bj i0 e0 C4 C5 BP=some r->_;unfold D8;let o9:List (PC P (G mx)):=[pb (XM Pa),Jw (Kf .lost Qf)];refine Ag (λKq=>?_) λKq=>?_;rintro⟨⟩;exact Aw Hd.Aa _ _ [] [none] (Ac 300 (o9++[pb Kq])) (by kernel_rfl) (.Gi k);refine Ag (λGP=>?_) λGP=>?_;rintro⟨⟩;exact Aw Hd.Aa _ _ [] [none] (Ac 300 (o9++[pb Kq,pb GP])) (by kernel_rfl) (.Gi k);refine Ag (λIZ=>?_) λIZ=>?_;rintro⟨⟩;exact Ib Hd.Aa [fq (AE.KJ l11)] [none,bp (AE.pl n),none] (Ac 300 (o9++[pb Kq,pb GP,Jw (t:=116) (a:=.ptr 2 0) (b:=.zi e0.kind) (v:=.ptr 2 6) (by rw[Fe IZ];kernel_rfl),pk,Jw (t:=116) (a:=.ptr 2 0) (b:=.zi e0.kind) (v:=.ptr 2 6) (by rw[Fe IZ];kernel_rfl),pi P4])) (by kernel_rfl) (k (js 61 j0 [(48,bT),(49,bF),(50,bF),(51,bF),(52,bF)]));refine Ag (λJG=>?_) λJG=>?_;rintro⟨⟩;exact Ib Hd.Aa [fq (AE.KJ l11)] [none,bp (AE.pl n),none] (Ac 300 (o9++[pb Kq,pb GP,Jw (t:=116) (a:=.ptr 2 0) (b:=.zi e0.kind) (v:=.ptr 2 7) (by rw[Fe JG];kernel_rfl),pk,Jw (t:=116) (a:=.ptr 2 0) (b:=.zi e0.kind) (v:=.ptr 2 7) (by rw[Fe JG];kernel_rfl),pi P4])) (by kernel_rfl) (k (js 61 j0 [(48,bT),(49,bF),(50,bF),(51,bF),(52,bF)]));refine Ag (λJH=>?_) λJH=>?_;rintro⟨⟩;exact Ib Hd.Aa [fq (AE.KJ l11)] [none,bp (AE.pl n),none] (Ac 300 (o9++[pb Kq,pb GP,Jw (t:=116) (a:=.ptr 2 0) (b:=.zi e0.kind) (v:=.ptr 2 8) (by rw[Fe JH];kernel_rfl),pk,Jw (t:=116) (a:=.ptr 2 0) (b:=.zi e0.kind) (v:=.ptr 2 8) (by rw[Fe JH];kernel_rfl),pi P4])) (by kernel_rfl) (k (js 61 j0 [(48,bT),(49,bF),(50,bF),(51,bF),(52,bF)]));exact fY;rintro⟨ahG,vH,vI⟩ amL;dsimp only;refine Ag (λK1=>?_) λK1=>?_;refine Ag (λLs=>?_) λLs=>?_;rintro⟨⟩;exact Aw Hd.Aa _ _ [] [none] (IV 300 [pk,pn K1,pk,pb Ls]) (by kernel_rfl) .body;refine Aq λx13 ajX=>?_;refine Aq ?_;rintro⟨iE,UI⟩ V8;dsimp only;let iU:List (PC P (G mx)):=[pk,pn K1,pk,pb Ls,Jw (Kf .lost ajX),pk,Af (R7 (PQ V8) 0)];refine Ag (λhv=>?_) λhv=>?_;subst hv;refine Aq ?_;rintro⟨iF,RF⟩ Y1;dsimp only;rintro⟨⟩;exact Aw Hd.Aa _ _ [] [none] (IV 300 (iU++[O3 (uU amr),pk,Af (NM (Mn Y1) 0)])) (by kernel_rfl) .body;subst hv;rintro⟨⟩;exact Aw Hd.Aa _ _ [] [none] (IV 300 iU) (by kernel_rfl) .body;rintro⟨⟩;exact Aw Hd.Aa _ _ [] [none] (IV 300 [pk,pn K1]) (by kernel_rfl) .body;subst hv;rintro⟨⟩;exact Aw Hd.Aa _ _ [] [none] (Ac 300 o8) (by kernel_rfl) .body;subst hv;rintro⟨⟩;exact Aw Hd.Aa _ _ [] [none] (Ac 300 o7) (by kernel_rfl) .body;subst hv;rintro⟨⟩;exact Aw Hd.Aa _ _ [] [none] (Ac 300 o6) (by kernel_rfl) .body;rintro⟨⟩;exact Aw Hd.Aa _ _ [] [none] (Ac 300 (o3++[pb Dz,pb Jb])) (by kernel_rfl) .body;subst hv;rintro⟨⟩;exact Aw Hd.Aa _ _ [] [none] (Ac 300 o1) (by kernel_rfl) .body
def GR(depth:Int)(i0:Nat)(e0:Nd)(Fb:Int):Option (Lp Int Int (Bool×Int)):=(Em (⟨Fb⟩:Ck) e0 depth).bind λ(Ep,Bj)=>cond Ep (some (.nx Bj)) (some (.rt (false,Bj)))
def Fo(c:Ck)(list:(List Nd))(depth:Int):Option (Bool×Int):=(RT list.length (CO (λi y x=>GR  depth i y x) (λx=>x) (list.drop 0) 0 c.nodes)).bind (Ma (λ(OT:Int)=>some (true,OT)) (λv=>some v))
def OY{c:Ck}{list:(List Nd)}{depth:Int}{yR:Bool}{Ae:Int}(hS:Sound P (G mx) (.call 55 [.ptr 0 0,.sl .lost list.length (BH list),.zi depth,.fn (.func 56) [.ptr 0 0] []] ⟨[(0,.cells (JF c))],1,[],0⟩ (.ret (.zb yR)) ⟨[(0,.cells [.zi Ae])],1,[],0⟩))(u0:Nat)(Qg:([u0]:List Nat).Nodup:=by decide)(Qh:([]:List Nat).Nodup:=by decide):Cd.ok P (G mx) (.Fc 55 [.ptr u0 0,.sl .lost list.length (BH list),.zi depth,.fn (.func 56) [.ptr u0 0] []] (.ret (.zb yR)) [(u0,.cells (JF c))] [] [(u0,.cells [.zi Ae])] []) :=
 HH (M:=[.cells (JF c)]) (M2:=[.cells [.zi Ae]]) (T:=[]) (T2:=[]) (k:=1) (j:=0) Hd.Aa _ _ _ _ hS rfl rfl rfl rfl rfl Qg Qh rfl rfl (.cons (.cells (.pl (RS.pl c))) .nil) (.cons (.cells (.pl (A1 rfl rfl))) .nil) (.cons (.ptr (by decide)) (.cons (.pl (AE.KJ list)) (.cons (.pl rfl) (.cons (.fn (.cons (.ptr (by decide)) .nil) (.pl rfl)) .nil)))) (.pl rfl) (λe he=>by simp only[List.mem_singleton] at he;subst he;exact(.arg (.here .ptr)))
def Nk{c:Ck}{list:(List Nd)}{depth:Int}{yR:Bool}{Ae:Int}(h:Fo  c list depth=some (yR,Ae)):Sound P (G mx) (.call 55 [.ptr 0 0,.sl .lost list.length (BH list),.zi depth,.fn (.func 56) [.ptr 0 0] []] ⟨[(0,.cells (JF c))],1,[],0⟩ (.ret (.zb yR)) ⟨[(0,.cells [.zi Ae])],1,[],0⟩):=by
 unfold Fo at h;refine BW Hd.mixed (Au Tryz.func55 b55 ?_);revert h;refine R3 (λQ v=>R2 P (G mx) Tryz.f55 1 ⟨[(0,.cells (JF c))],1,[],0⟩ Q (.zb v.1) ⟨[(0,.cells [.zi v.2])],1,[],0⟩) (λi0 (Fb:Int) (j0:List Value)=>fr 23 [(2,.zi depth),(3,.fn (.func 56) [.ptr 0 0] []),(11,.sl .lost list.length (BH list)),(12,.zi ((list.length:Nat):Int)),(13,.zi ((i0:Nat):Int))] [8,14,20,21] j0) (λ(Fb:Int)=>⟨[(0,.cells [.zi Fb])],1,[],0⟩) (λ(Fb:Int) (jx:List Value)=>fr 23 [] [8,14,20,21] jx) (λ(Fb:Int)=>⟨[(0,.cells [.zi Fb])],1,[],0⟩) [bF] (Hb [] 0 (sb B55 52) [.code (sb B55 7)] (Ac 300 []) (by kernel_rfl)) ?_ ?_ ?_ (λv h=>by cases h;exact .outer .body);rintro i0 Fb j0 N4 hq;exact DC (Ac 300 [pb (iT N4)]) (by kernel_rfl) (hq (js 4 j0 [(1,bF)]));rintro i0 e0 Fb j0 r Qf Pa P4 k;show GR  depth i0 e0 Fb=some r->_;unfold GR;refine Aq ?_;rintro⟨Ep,Bj⟩ B8;dsimp only;let o1:List (PC P (G mx)):=[pb (XM Pa),Jw (Kf .lost Qf),Af (R8 (PR B8) 0)];refine Ag (λhv=>?_) λhv=>?_;subst hv;rintro⟨⟩;exact Ib Hd.Aa [fq (AE.KJ list)] [none] (Ac 300 (o1++[pi P4])) (by kernel_rfl) (k [(jv j0 0),bT,bT,bF]);subst hv;rintro⟨⟩;exact Aw Hd.Aa _ _ [] [none] (Ac 300 o1) (by kernel_rfl) (.Gi k);rintro OT kL;rintro⟨⟩;exact Aw Hd.Aa _ _ [] [none] (IV 300 []) (by kernel_rfl) .body
def B22:Code:=A0 Tryz.f22
def b22:Tryz.f22.body=some B22:=by kernel_rfl
def Es(n:Nd):Option Bool:=cond (CZ n.kind 1) ((CH (⟨0⟩:Ck) n 1).bind λ(Ep,Bj)=>cond Ep ((B0 n (⟨0,ByteArray.empty,ByteArray.empty,0,0,0,0,(⟨0,[]⟩:Fn),[],0⟩:Nd)).bind λy2=>cond y2 ((Fo (⟨Bj⟩:Ck) n.kids 2).bind λ(L8,E8)=>some L8) (some false)) (some false)) ((G7 (⟨0⟩:Ck) n 1).bind λ(WH,JM)=>some WH)
def Js{n:Nd}{yR:Bool}(h:Es  n=some yR):Pure P (G mx) 22 [.agg (CT n)] (.zb yR):=by
 unfold Es at h;refine CQ Hd.mixed Hd.Aa (Au Tryz.func22 b22 ?_) (A1 (AE.Cs n) rfl) rfl;revert h;refine Ag (λAW=>?_) λAW=>?_;refine Aq ?_;rintro⟨Ep,Bj⟩ B8;dsimp only;let o1:List (PC P (G mx)):=[pn AW,Af (Fy (Et B8) 1)];refine Ag (λhv=>?_) λhv=>?_;subst hv;refine Aq λy2 D6=>?_;let o2:List (PC P (G mx)):=o1++[GW (.r (.g (.r (.r (.r (.r (.r (.r (.r (.r (.z (.z (.r .nil))))))))))) .nil)) (BV D6)];refine Ag (λhv=>?_) λhv=>?_;subst hv;refine Aq ?_;rintro⟨L8,E8⟩ Fu;dsimp only;rintro⟨⟩;exact rT (o2++[Af (OY (Nk Fu) 1)]);subst hv;rintro⟨⟩;exact rT o2;subst hv;rintro⟨⟩;exact rT o1;refine Aq ?_;rintro⟨WH,JM⟩ JU;dsimp only;rintro⟨⟩;exact rT [pn AW,Af (Bh (LJ JU) 1)]
def B25:Code:=A0 Tryz.f25
def b25:Tryz.f25.body=some B25:=by kernel_rfl
def J4(H9:Nd->Option Nd)(i0:Nat)(e0:Nd)(Bf:(List Nd)):Option (Lp (List Nd) (List Nd) Nd):=(H9 e0).bind λy2=>MT (Bf.length+1) (some (.nx (Bf++[y2])))
def MD(H9:Nd->Option Nd)(n:Nd):Option Nd:=(RT n.kids.length (CO (λi y x=>J4 H9  i y x) (λx=>x) (n.kids.drop 0) 0 [])).bind (Ma (λ(ZW:(List Nd))=>some (⟨n.kind,n.name,n.unit,n.n,n.fr,n.to,n.known,n.CF,ZW,0⟩:Nd)) (λv=>some v))
def Wm(H9:Nd->Option Nd)(YZ:∀{n:Nd} {yR:Nd},H9 n=some yR->Pure P (G mx) 25 [.agg (CT n)] (.agg (CT yR))){n:Nd}{yR:Nd}(h:MD H9 n=some yR):Pure P (G mx) 25 [.agg (CT n)] (.agg (CT yR)):=by
 unfold MD at h;refine CQ Hd.mixed Hd.Aa (Au Tryz.func25 b25 ?_) (A1 (AE.Cs n) rfl) (AE.Cs yR);revert h;refine R3 (λQ v=>KD P Tryz.f25 0 Q (.agg (CT v))) (λi0 (Bf:(List Nd)) (j0:List Value)=>fr 27 [(1,.ptr 0 0),(2,.ptr 1 0),(3,.ptr 2 0),(4,.zi ((i0:Nat):Int))] [12] j0) (λ(Bf:(List Nd))=>⟨[(2,.cells [.zi n.kind,.zs n.name,.zs n.unit,.zi n.n,.zi n.fr,.zi n.to,.zi n.known,.zi n.CF.den,.sl .lost n.CF.ps.length (rows IR n.CF.ps),.sl (.row 0 11) Bf.length (BH Bf),.zi 0]),(1,.cells S1),(0,.cells (CT n))],3,[(0,Bf.length)],1⟩) (λ(Bf:(List Nd)) (jx:List Value)=>fr 27 [(2,.ptr 1 0),(3,.ptr 2 0)] [12] jx) (λ(Bf:(List Nd))=>⟨[(2,.cells [.zi n.kind,.zs n.name,.zs n.unit,.zi n.n,.zi n.fr,.zi n.to,.zi n.known,.zi n.CF.den,.sl .lost n.CF.ps.length (rows IR n.CF.ps),.sl (.row 0 11) Bf.length (BH Bf),.zi 0]),(1,.cells S1),(0,.cells (CT n))],3,[(0,Bf.length)],1⟩) [] (Hb [.b 2 9 11] 0 (sb B25 500) [.code (sb B25 63)] (Ac 300 []) (by kernel_rfl)) ?_ ?_ ?_ (λv h=>by cases h;exact .outer .body);rintro i0 Bf j0 N4 hq;exact DC (Ac 300 [pb (iT N4)]) (by kernel_rfl) (hq [bF]);rintro i0 e0 Bf j0 r Qf Pa P4 k;show J4 H9  i0 e0 Bf=some r->_;unfold J4;refine Aq λy2 D6=>?_;refine Lb λhl3=>?_;rintro⟨⟩;exact He (Ac 300 [pb (XM Pa),lL,Jw (Kf .lost Qf),AG (YZ D6),QC (SD (.row 0 11) Bf [y2] (o:=.full) (n:=1) (ns:=(CT y2)) (AE.wn [y2] (.r (.r (.r (.r (.r (.r (.r (.r (.r (.r (.r .nil)))))))))))) rfl rfl (by simp) (by simpa using hl3)),pi P4]) (by kernel_rfl) (k [bT])
 rintro ZW afK;rintro⟨⟩;exact AA (v:=.agg [.zi n.kind,.zs n.name,.zs n.unit,.zi n.n,.zi n.fr,.zi n.to,.zi n.known,.zi n.CF.den,.sl .lost n.CF.ps.length (rows IR n.CF.ps),.sl (.row 0 11) ZW.length (BH ZW),.zi 0]) _ _ (IV 300 []) (by kernel_rfl) .body (.wn (.g (.r (.r (.r (.r (.r (.r (.r (.r (.r (.s rfl (.r .nil))))))))))) .nil) (AE.Cs (⟨n.kind,n.name,n.unit,n.n,n.fr,n.to,n.known,n.CF,ZW,0⟩:Nd)))
def FQ:Nat->Nd->Option Nd
 | 0,_=>none
 | qn+1,n=>MD (FQ qn) n
def Xu:∀qn:Nat,∀{n:Nd} {yR:Nd},FQ qn n=some yR->Pure P (G mx) 25 [.agg (CT n)] (.agg (CT yR)):=by
 intro qn
 induction qn with
 | zero=>exact(λh=>by simp only[FQ] at h;cases h)
 | succ qn ih=>exact(λh=>Wm (FQ qn) ih (by rw[FQ] at h;exact h))
def ME(n:Nd):Option Nd:=wL (λqn=>FQ qn n)
def Zs{n:Nd}{yR:Nd}(h:ME n=some yR):Pure P (G mx) 25 [.agg (CT n)] (.agg (CT yR)):=by
 obtain⟨qn,h⟩:=jY h;exact(Xu qn) h
def B32:Code:=A0 Tryz.f32
def b32:Tryz.f32.body=some B32:=by kernel_rfl
def La(op:ByteArray)(a:Nd)(b:Nd):Option Nd:=some (⟨16,op,ByteArray.empty,0,0,0,0,(⟨0,[]⟩:Fn),[a,b],0⟩:Nd)
def Oj{op:ByteArray}{a:Nd}{b:Nd}{yR:Nd}(h:La  op a b=some yR):Pure P (G mx) 32 [.zs op,.agg (CT a),.agg (CT b)] (.agg (CT yR)):=by
 unfold La at h;refine CQ Hd.mixed Hd.Aa (Au Tryz.func32 b32 ?_) (A1 rfl (A1 (AE.Cs a) (A1 (AE.Cs b) rfl))) (AE.Cs yR);revert h;rintro⟨⟩;exact AA (v:=.agg [.zi 16,.zs op,.zs ByteArray.empty,.zi 0,.zi 0,.zi 0,.zi 0,.zi 0,.sl .full 0 [],.sl .full 2 (ndL a (ndL b [])),.zi 0]) _ _ (Ac 300 []) (by kernel_rfl) .body (.wn (.g (.r (.r (.r (.r (.r (.r (.r (.r (.z (.d (.r (.r (.r (.r (.r (.r (.r (.r (.r (.r (.r (.r (.r (.r (.r (.r (.r (.r (.r (.r (.r (.r .nil)))))))))))))))))))))) (AE.eq [a,b]).symm (.r .nil))))))))))) .nil) (AE.Cs (⟨16,op,ByteArray.empty,0,0,0,0,(⟨0,[]⟩:Fn),[a,b],0⟩:Nd)))
def B33:Code:=A0 Tryz.f33
def b33:Tryz.f33.body=some B33:=by kernel_rfl
def JV(name:ByteArray):Option Nd:=some (⟨12,name,ByteArray.empty,0,0,0,0,(⟨0,[]⟩:Fn),[],0⟩:Nd)
def LH{name:ByteArray}{yR:Nd}(h:JV  name=some yR):Pure P (G mx) 33 [.zs name] (.agg (CT yR)):=by
 unfold JV at h;refine CQ Hd.mixed Hd.Aa (Au Tryz.func33 b33 ?_) (A1 rfl rfl) (AE.Cs yR);revert h;rintro⟨⟩;exact AA (v:=.agg [.zi 12,.zs name,.zs ByteArray.empty,.zi 0,.zi 0,.zi 0,.zi 0,.zi 0,.sl .full 0 [],.sl .full 0 [],.zi 0]) _ _ (Ac 300 []) (by kernel_rfl) .body (.wn (.g (.r (.r (.r (.r (.r (.r (.r (.r (.z (.z (.r .nil))))))))))) .nil) (AE.Cs (⟨12,name,ByteArray.empty,0,0,0,0,(⟨0,[]⟩:Fn),[],0⟩:Nd)))
def B10:Code:=A0 Tryz.f10
def b10:Tryz.f10.body=some B10:=by kernel_rfl
def Kg  :Option Bool:=(Dr E4).bind λ(Ep,Bj)=>(JV aS).bind λy2=>(La JL (⟨11,ByteArray.empty,EK,3,0,0,0,(⟨0,[]⟩:Fn),[],0⟩:Nd) y2).bind λy3=>(JV bS).bind λy4=>(JV cS).bind λy5=>(La GX y4 y5).bind λy6=>(La P8 y3 (⟨15,ByteArray.empty,ByteArray.empty,0,0,0,0,(⟨0,[]⟩:Fn),[y6],0⟩:Nd)).bind λy7=>(Dr EI).bind λ(Z3,L0)=>(Dr M7).bind λ(n8,VS)=>(Dr BE).bind λ(ZZ,K6)=>(Cg Ev).bind λ(rM,QV)=>(Cg Av).bind λ(Z1,VP)=>cond (Ez 0 (Bt (Bt (Bt ((Bj.length:Nat):Int) ((L0.length:Nat):Int)) ((K6.length:Nat):Int)) ((VP.length:Nat):Int))) (some false) ((ME Ep).bind λy13=>(Gv y13 y7).bind λy14=>cond y14 (cond (CZ ((Z3.kids.length:Nat):Int) 2) (cond (BY Z3.name.data.toList OG.data.toList) ((Z3.kids[1]?).bind λx15=>cond (CZ x15.n 3) (cond (CZ ((VS.length:Nat):Int) 1) ((VS[0]?).bind λx16=>cond (gY x16 (⟨71,6⟩:Dg)) (cond (CZ ZZ.CF.den 20) (cond (CZ ((ZZ.CF.ps.length:Nat):Int) 2) ((ZZ.CF.ps[1]?).bind λx17=>cond (PZ x17 (⟨50000,100000,5⟩:Pc)) (cond (CZ ((QV.length:Nat):Int) 2) ((QV[0]?).bind λx18=>cond (CZ x18.AH 16) ((QV[1]?).bind λx19=>cond (CZ x19.err 72) (cond (CZ x19.AH 22) (cond (CZ ((Z1.kids.length:Nat):Int) 2) ((Z1.kids[1]?).bind λx20=>cond (CZ x20.AH 21) (cond (CZ ((x20.kids.length:Nat):Int) 2) ((x20.kids[0]?).bind λx21=>cond (CZ x21.fr 8766) (cond (CZ x21.to 36525) ((Es Z1).bind λy22=>cond y22 ((Es y7).bind λy23=>cond y23 ((JV eA).bind λy24=>(Es y24).bind λy25=>cond y25 (some false) (some true)) (some false)) (some false)) (some false)) (some false)) (some false)) (some false)) (some false)) (some false)) (some false)) (some false)) (some false)) (some false)) (some false)) (some false)) (some false)) (some false)) (some false)) (some false)) (some false)) (some false))
def Xn{yR:Bool}(h:Kg  =some yR):Pure P (G mx) 10 [] (.zb yR):=by
 unfold Kg at h;refine CQ Hd.mixed Hd.Aa (Au Tryz.func10 b10 ?_) rfl rfl;revert h;refine Aq ?_;rintro⟨Ep,Bj⟩ B8;dsimp only;refine Aq λy2 D6=>?_;refine Aq λy3 Fu=>?_;refine Aq λy4 JU=>?_;refine Aq λy5 Ke=>?_;refine Aq λy6 L4=>?_;refine Aq λy7 Sf=>?_;refine Aq ?_;rintro⟨Z3,L0⟩ N5;dsimp only;refine Aq ?_;rintro⟨n8,VS⟩ Vg;dsimp only;refine Aq ?_;rintro⟨ZZ,K6⟩ Qj;dsimp only;refine Aq ?_;rintro⟨rM,QV⟩ V7;dsimp only;refine Aq ?_;rintro⟨Z1,VP⟩ fM;dsimp only;let o1:List (PC P (G mx)):=[AG (G6 B8),AG (LH D6),GW (.r (.g (.r (.r (.r (.r (.r (.r (.r (.r (.z (.z (.r .nil))))))))))) (.r .nil))) (Oj Fu),AG (LH JU),AG (LH Ke),AG (Oj L4),GW (args:=[.zs P8,.agg (CT y3),.agg [.zi 15,.zs ByteArray.empty,.zs ByteArray.empty,.zi 0,.zi 0,.zi 0,.zi 0,.zi 0,.sl .full 0 [],.sl .full 1 (CT y6),.zi 0]]) (.r (.r (.g (.r (.r (.r (.r (.r (.r (.r (.r (.z (.d (.r (.r (.r (.r (.r (.r (.r (.r (.r (.r (.r .nil))))))))))) (AE.eq [y6]).symm (.r .nil))))))))))) .nil))) (Oj Sf),AG (G6 N5),AG (G6 Vg),AG (G6 Qj),AG (Hq V7),AG (Hq fM),pk,pk,pk];refine Ag (λAW=>?_) λAW=>?_;rintro⟨⟩;exact rT (o1++[pb AW]);refine Aq λy13 Uc=>?_;refine Aq λy14 V8=>?_;let o2:List (PC P (G mx)):=o1++[pb AW,AG (Zs Uc),AG (KO V8)];refine Ag (λhv=>?_) λhv=>?_;subst hv;refine Ag (λBZ=>?_) λBZ=>?_;let o3:List (PC P (G mx)):=o2++[pn BZ];refine Ag (λDz=>?_) λDz=>?_;refine Aq λx15 ajY=>?_;let o4:List (PC P (G mx)):=o3++[pn Dz,Jw (Kf .lost ajY)];refine Ag (λFk=>?_) λFk=>?_;let o5:List (PC P (G mx)):=o4++[pn Fk];refine Ag (λHY=>?_) λHY=>?_;refine Aq λx16 aqi=>?_;let o6:List (PC P (G mx)):=o5++[pn HY,Jw (afJ .lost aqi)];refine Ag (λIN=>?_) λIN=>?_;let o7:List (PC P (G mx)):=o6++[NQ (aiu IN (.tmp 95) (.tmp 96))];refine Ag (λJb=>?_) λJb=>?_;let o8:List (PC P (G mx)):=o7++[pn Jb];refine Ag (λKx=>?_) λKx=>?_;refine Aq λx17 ajZ=>?_;let o9:List (PC P (G mx)):=o8++[pn Kx,Jw (Xl .lost ajZ)];refine Ag (λKq=>?_) λKq=>?_;let iU:List (PC P (G mx)):=o9++[NQ (bY Kq (.tmp 115) (.tmp 116))];refine Ag (λGP=>?_) λGP=>?_;refine Aq λx18 aj0=>?_;let qF:List (PC P (G mx)):=iU++[pn GP,Jw (afJ .lost aj0)];refine Ag (λIZ=>?_) λIZ=>?_;refine Aq λx19 afz=>?_;let o12:List (PC P (G mx)):=qF++[pn IZ,Jw (afJ .lost afz)];refine Ag (λJG=>?_) λJG=>?_;let qG:List (PC P (G mx)):=o12++[pn JG,Jw (afJ .lost afz)];refine Ag (λJH=>?_) λJH=>?_;refine Ag (λK1=>?_) λK1=>?_;refine Aq λx20 afA=>?_;let o14:List (PC P (G mx)):=qG++[pn JH,pb K1,Jw (Kf .lost afA)];refine Ag (λLs=>?_) λLs=>?_;let o15:List (PC P (G mx)):=o14++[pb Ls,Jw (Kf .lost afA)];refine Ag (λOf=>?_) λOf=>?_;refine Aq λx21 afB=>?_;let xK:List (PC P (G mx)):=o15++[pb Of,Jw (Kf .lost afA),Jw (Kf .lost afB)];refine Ag (λVc=>?_) λVc=>?_;let o17:List (PC P (G mx)):=xK++[pb Vc,Jw (Kf .lost afA),Jw (Kf .lost afB)];refine Ag (λXk=>?_) λXk=>?_;refine Aq λy22 fN=>?_;let o18:List (PC P (G mx)):=o17++[pb Xk,AG (Js fN)];refine Ag (λhv=>?_) λhv=>?_;subst hv;refine Aq λy23 kH=>?_;refine Ag (λhv=>?_) λhv=>?_;subst hv;refine Aq λy24 fO=>?_;refine Aq λy25 abS=>?_;let o19:List (PC P (G mx)):=o18++[AG (Js kH),AG (LH fO),AG (Js abS)];refine Ag (λhv=>?_) λhv=>?_;subst hv;rintro⟨⟩;exact rT o19;subst hv;rintro⟨⟩;exact rT o19;subst hv;rintro⟨⟩;exact rT (o18++[AG (Js kH)]);subst hv;rintro⟨⟩;exact rT o18;rintro⟨⟩;exact rT (o17++[pb Xk]);rintro⟨⟩;exact rT (xK++[pb Vc]);rintro⟨⟩;exact rT (o15++[pb Of]);rintro⟨⟩;exact rT (o14++[pb Ls]);rintro⟨⟩;exact rT (qG++[pn JH,pb K1]);rintro⟨⟩;exact rT (qG++[pn JH]);rintro⟨⟩;exact rT (o12++[pn JG]);rintro⟨⟩;exact rT (qF++[pn IZ]);rintro⟨⟩;exact rT (iU++[pn GP]);rintro⟨⟩;exact rT (o9++[NQ (bY Kq (.tmp 115) (.tmp 116))]);rintro⟨⟩;exact rT (o8++[pn Kx]);rintro⟨⟩;exact rT (o7++[pn Jb]);rintro⟨⟩;exact rT (o6++[NQ (aiu IN (.tmp 95) (.tmp 96))]);rintro⟨⟩;exact rT (o5++[pn HY]);rintro⟨⟩;exact rT (o4++[pn Fk]);rintro⟨⟩;exact rT (o3++[pn Dz]);rintro⟨⟩;exact rT (o2++[pn BZ]);subst hv;rintro⟨⟩;exact rT o2
def B73:Code:=A0 Tryz.f73
def b73:Tryz.f73.body=some B73:=by kernel_rfl
def KM(c:Int):Option Bool:=cond (CZ c 32) (some true) (cond (CZ c 9) (some true) (cond (CZ c 10) (some true) (cond (CZ c 13) (some true) (some false))))
def Wk{c:Int}{yR:Bool}(h:KM  c=some yR):Pure P (G mx) 73 [.sc (.int .u8 c)] (.zb yR):=by
 unfold KM at h;refine CQ Hd.mixed Hd.Aa (Au Tryz.func73 b73 ?_) (A1 rfl rfl) rfl;revert h;refine Ag (λAW=>?_) λAW=>?_;rintro⟨⟩;exact rT [pb AW];refine Ag (λBZ=>?_) λBZ=>?_;rintro⟨⟩;exact rT [pb AW,pb BZ];refine Ag (λDz=>?_) λDz=>?_;rintro⟨⟩;exact rT [pb AW,pb BZ,pb Dz];refine Ag (λFk=>?_) λFk=>?_;rintro⟨⟩;exact rT [pb AW,pb BZ,pb Dz,pb Fk];rintro⟨⟩;exact rT [pb AW,pb BZ,pb Dz,pb Fk]
def B74:Code:=A0 Tryz.f74
def b74:Tryz.f74.body=some B74:=by kernel_rfl
def Iz(s:ByteArray)(at_:Int)(t:ByteArray):Option Bool:=cond (NI ((t.data.toList.length:Nat):Int) (L6 ((s.data.toList.length:Nat):Int) at_)) ((QN s at_ (Bt at_ ((t.data.toList.length:Nat):Int))).bind λs1=>cond (BY s1.data.toList t.data.toList) (some true) (some false)) (some false)
def Jy{s:ByteArray}{at_:Int}{t:ByteArray}{yR:Bool}(h:Iz  s at_ t=some yR):Pure P (G mx) 74 [.zs s,.zi at_,.zs t] (.zb yR):=by
 unfold Iz at h;refine CQ Hd.mixed Hd.Aa (Au Tryz.func74 b74 ?_) (A1 rfl (A1 rfl (A1 rfl rfl))) rfl;revert h;refine Ag (λAW=>?_) λAW=>?_;refine Aq λs1 Se=>?_;refine Ag (λBZ=>?_) λBZ=>?_;rintro⟨⟩;exact rT [pk,pb AW,pk,O3 (IB Se),pb BZ];rintro⟨⟩;exact rT [pk,pb AW,pk,O3 (IB Se),pb BZ];rintro⟨⟩;exact rT [pk,pb AW]
def B41:Code:=A0 Tryz.f41
def b41:Tryz.f41.body=some B41:=by kernel_rfl
def Ew(s:ByteArray)(L3:Int):Option (Lp Int Int Int):=cond (Ez L3 ((s.data.toList.length:Nat):Int)) ((HU s.data.toList L3).bind λc4=>cond (CZ ((c4.toNat:Nat):Int) 10) (some (.ex L3)) (some (.nx (Bt L3 1)))) (some (.ex L3))
def Dx(s:ByteArray)(L3:Int):Option (Lp Int Int Int):=cond (Ez L3 ((s.data.toList.length:Nat):Int)) ((HU s.data.toList L3).bind λc1=>(KM ((c1.toNat:Nat):Int)).bind λy2=>cond y2 (some (.nx (Bt L3 1))) ((Iz s L3 qP).bind λy3=>cond y3 ((Mh (λx=>Ew  s x) L3).bind (Ma (λ(ahW:Int)=>some (.nx ahW)) (λv=>some (.rt v)))) (some (.rt L3)))) (some (.ex L3))
def Kl(s:ByteArray)(at_:Int):Option Int:=(Mh (λx=>Dx  s x) at_).bind (Ma (λ(ahX:Int)=>some ahX) (λv=>some v))
def RX{s:ByteArray}{at_:Int}{yR:Int}(h:Kl  s at_=some yR):Pure P (G mx) 41 [.zs s,.zi at_] (.zi yR):=by
 unfold Kl at h;refine CQ Hd.mixed Hd.Aa (Au Tryz.func41 b41 ?_) (A1 rfl (A1 rfl rfl)) rfl;revert h;refine PB (λQ v=>KD P Tryz.f41 0 Q (.zi v)) (λ(L3:Int) (j0:List Value)=>fr 33 [(0,.zs s),(1,.zi L3)] [8,12,17,18,23,24,28,29] j0) (λ(L3:Int)=>⟨[],0,[],0⟩) (λ(L3:Int) (jx:List Value)=>fr 33 [(1,.zi L3)] [8,12,17,18,23,24,28,29] jx) (λ(L3:Int)=>⟨[],0,[],0⟩) [] (Hb [] 0 (sb B41 24) [.code (sb B41 7)] (Ac 300 []) (by kernel_rfl)) ?_ ?_ (λv h=>by cases h;exact .outer .body);rintro L3 j0 r k;show Dx  s L3=some r->_;unfold Dx;refine Ag (λAW=>?_) λAW=>?_;refine Aq λc1 R6=>?_;refine Aq λy2 D6=>?_;let o1:List (PC P (G mx)):=[pb AW,SL (Jp R6),AG (Wk D6)];refine Ag (λhv=>?_) λhv=>?_;subst hv;rintro⟨⟩;exact He (Ac 300 (o1++[pk])) (by kernel_rfl) (k (js 8 j0 [(0,bT),(1,bT)]));subst hv;refine Aq λy3 Fu=>?_;refine Ag (λhv=>?_) λhv=>?_;subst hv;refine PB (λQ v=>KD P Tryz.f41 0 Q (.zi v)) (λ(L3:Int) (j1:List Value)=>fr 33 [(0,.zs s),(1,.zi L3)] [8,12,17,18,23,24,28,29] j1) (λ(L3:Int)=>⟨[],0,[],0⟩) (λ(L3:Int) (jx:List Value)=>fr 33 [(0,.zs s),(1,.zi L3)] [8,12,17,18,23,24,28,29] jx) (λ(L3:Int)=>⟨[],0,[],0⟩) (js 8 j0 [(0,bT),(1,bF),(2,bT),(3,bF)]) (Hb [] 2 (sb B41 1580) [.jV 1] (Ac 300 (o1++[AG (Jy Fu)])) (by kernel_rfl)) ?_ ?_ (λv h=>by cases h;exact .outer (.Gi k));rintro L3 j1 r k;show Ew  s L3=some r->_;unfold Ew;refine Ag (λBZ=>?_) λBZ=>?_;refine Aq λc4 hc4=>?_;refine Ag (λDz=>?_) λDz=>?_;rintro⟨⟩;exact DC (Ac 300 [pb BZ,SL (Jp hc4),pn Dz]) (by kernel_rfl) (k (js 8 j1 [(4,bT),(5,bT),(6,bF),(7,bF)]));rintro⟨⟩;exact He (Ac 300 [pb BZ,SL (Jp hc4),pn Dz,pk]) (by kernel_rfl) (k (js 8 j1 [(4,bT),(5,bT),(6,bT),(7,bT)]));rintro⟨⟩;exact DC (Ac 300 [pb BZ]) (by kernel_rfl) (k (js 8 j1 [(4,bF),(5,bF),(6,undef),(7,bF)]));rintro ahW aqx;rintro⟨⟩;exact He (IV 300 []) (by kernel_rfl) (k aqx);subst hv;rintro⟨⟩;exact AA _ _ (Ac 300 (o1++[AG (Jy Fu)])) (by kernel_rfl) (.Gi k) .sc;rintro⟨⟩;exact DC (Ac 300 [pb AW]) (by kernel_rfl) (k (js 8 j0 [(0,bF)]));rintro ahX amN;rintro⟨⟩;exact AA _ _ (IV 300 []) (by kernel_rfl) .body .sc
def B75:Code:=A0 Tryz.f75
def b75:Tryz.f75.body=some B75:=by kernel_rfl
def GB(c:Int):Option Bool:=cond (NI 48 c) (cond (NI c 57) (some true) (some false)) (some false)
def EJ{c:Int}{yR:Bool}(h:GB  c=some yR):Pure P (G mx) 75 [.sc (.int .u8 c)] (.zb yR):=by
 unfold GB at h;refine CQ Hd.mixed Hd.Aa (Au Tryz.func75 b75 ?_) (A1 rfl rfl) rfl;revert h;refine Ag (λAW=>?_) λAW=>?_;refine Ag (λBZ=>?_) λBZ=>?_;rintro⟨⟩;exact rT [pb AW,pb BZ];rintro⟨⟩;exact rT [pb AW,pb BZ];rintro⟨⟩;exact rT [pb AW]
def aiY:Code:=A0 Tryz.f127
def aoJ:Tryz.f127.body=some aiY:=by kernel_rfl
def FN(s:ByteArray)(at_:Int)(i5:Int):Option (Lp Int Unit Bool):=cond (Ez i5 10) ((HU s.data.toList (Bt at_ i5)).bind λc5=>cond (CZ i5 4) (cond (CZ ((c5.toNat:Nat):Int) 45) (some (.nx (Bt i5 1))) (some (.rt false))) (cond (CZ i5 7) (cond (CZ ((c5.toNat:Nat):Int) 45) (some (.nx (Bt i5 1))) (some (.rt false))) ((GB ((c5.toNat:Nat):Int)).bind λy6=>cond y6 (some (.nx (Bt i5 1))) (some (.rt false))))) (some (.ex ()))
def LN(s:ByteArray)(at_:Int):Option Bool:=cond (Ez (L6 ((s.data.toList.length:Nat):Int) at_) 10) (some false) ((Mh (λx=>FN  s at_ x) 0).bind (Ma (λ(_:Unit)=>some true) (λv=>some v)))
def Xq{s:ByteArray}{at_:Int}{yR:Bool}(h:LN  s at_=some yR):Pure P (G mx) 127 [.zs s,.zi at_] (.zb yR):=by
 unfold LN at h;refine CQ Hd.mixed Hd.Aa (Au Tryz.func127 aoJ ?_) (A1 rfl (A1 rfl rfl)) rfl;revert h;refine Ag (λAW=>?_) λAW=>?_;rintro⟨⟩;exact rT [pk,pb AW];refine PB (λQ v=>KD P Tryz.f127 0 Q (.zb v)) (λ(i5:Int) (j0:List Value)=>fr 32 [(0,.zs s),(1,.zi at_),(5,.zi i5)] [4,11,13,22,23,25,26,28,30,31] j0) (λ(i5:Int)=>⟨[],0,[],0⟩) (λ(_:Unit) (jx:List Value)=>fr 32 [] [4,11,13,22,23,25,26,28,30,31] jx) (λ(_:Unit)=>⟨[],0,[],0⟩) [bF,bF] (Hb [] 0 (sb aiY 116) [.code (sb aiY 15)] (Ac 300 [pk,pb AW]) (by kernel_rfl)) ?_ ?_ (λv h=>by cases h;exact .outer .body);rintro i5 j0 r k;show FN  s at_ i5=some r->_;unfold FN;refine Ag (λJG=>?_) λJG=>?_;refine Aq λc5 hc5=>?_;let o1:List (PC P (G mx)):=[pb JG,pk,SL (Jp hc5)];refine Ag (λJH=>?_) λJH=>?_;refine Ag (λK1=>?_) λK1=>?_;rintro⟨⟩;exact He (Ac 300 (o1++[pb JH,pn K1,pk])) (by kernel_rfl) (k (js 10 j0 [(2,bT),(3,bT),(4,bT),(5,undef),(6,bT),(7,bF)]));rintro⟨⟩;exact AA _ _ (Ac 300 (o1++[pb JH,pn K1])) (by kernel_rfl) (.Gi k) .sc;refine Ag (λLs=>?_) λLs=>?_;refine Ag (λOf=>?_) λOf=>?_;rintro⟨⟩;exact He (Ac 300 (o1++[pb JH,pb Ls,pn Of,pk])) (by kernel_rfl) (k (js 10 j0 [(2,bT),(3,bF),(4,bF),(5,bT),(6,bT),(7,bF)]));rintro⟨⟩;exact AA _ _ (Ac 300 (o1++[pb JH,pb Ls,pn Of])) (by kernel_rfl) (.Gi k) .sc;refine Aq λy6 L4=>?_;refine Ag (λhv=>?_) λhv=>?_;subst hv;rintro⟨⟩;exact He (Ac 300 (o1++[pb JH,pb Ls,AG (EJ L4),pk])) (by kernel_rfl) (k [(jv j0 0),(jv j0 1),bT,bF,bF,bF,bF,(jv j0 7),bT,bF]);subst hv;rintro⟨⟩;exact AA _ _ (Ac 300 (o1++[pb JH,pb Ls,AG (EJ L4)])) (by kernel_rfl) (.Gi k) .sc;rintro⟨⟩;exact DC (Ac 300 [pb JG]) (by kernel_rfl) (k (js 10 j0 [(2,bF)]));rintro⟨⟩ abX;rintro⟨⟩;exact AA _ _ (IV 300 []) (by kernel_rfl) .body .sc
def B77:Code:=A0 Tryz.f77
def b77:Tryz.f77.body=some B77:=by kernel_rfl
def I7(c:Int):Option Bool:=cond (NI 97 c) (cond (NI c 122) (some true) (some false)) (some false)
def QF{c:Int}{yR:Bool}(h:I7  c=some yR):Pure P (G mx) 77 [.sc (.int .u8 c)] (.zb yR):=by
 unfold I7 at h;refine CQ Hd.mixed Hd.Aa (Au Tryz.func77 b77 ?_) (A1 rfl rfl) rfl;revert h;refine Ag (λAW=>?_) λAW=>?_;refine Ag (λBZ=>?_) λBZ=>?_;rintro⟨⟩;exact rT [pb AW,pb BZ];rintro⟨⟩;exact rT [pb AW,pb BZ];rintro⟨⟩;exact rT [pb AW]
def B79:Code:=A0 Tryz.f79
def b79:Tryz.f79.body=some B79:=by kernel_rfl
def GC(c:Int):Option Bool:=cond (NI 65 c) (cond (NI c 90) (some true) (some false)) (some false)
def FI{c:Int}{yR:Bool}(h:GC  c=some yR):Pure P (G mx) 79 [.sc (.int .u8 c)] (.zb yR):=by
 unfold GC at h;refine CQ Hd.mixed Hd.Aa (Au Tryz.func79 b79 ?_) (A1 rfl rfl) rfl;revert h;refine Ag (λAW=>?_) λAW=>?_;refine Ag (λBZ=>?_) λBZ=>?_;rintro⟨⟩;exact rT [pb AW,pb BZ];rintro⟨⟩;exact rT [pb AW,pb BZ];rintro⟨⟩;exact rT [pb AW]
def aod:Code:=A0 Tryz.f158
def aoX:Tryz.f158.body=some aod:=by kernel_rfl
def Km(c:Int):Option Bool:=(I7 c).bind λy1=>cond y1 (some true) ((GC c).bind λy2=>cond y2 (some true) ((GB c).bind λy3=>cond y3 (some true) (cond (CZ c 95) (some true) (some false))))
def Nn{c:Int}{yR:Bool}(h:Km  c=some yR):Pure P (G mx) 158 [.sc (.int .u8 c)] (.zb yR):=by
 unfold Km at h;refine CQ Hd.mixed Hd.Aa (Au Tryz.func158 aoX ?_) (A1 rfl rfl) rfl;revert h;refine Aq λy1 B8=>?_;let o1:List (PC P (G mx)):=[AG (QF B8)];refine Ag (λhv=>?_) λhv=>?_;subst hv;rintro⟨⟩;exact rT o1;subst hv;refine Aq λy2 D6=>?_;let o2:List (PC P (G mx)):=o1++[AG (FI D6)];refine Ag (λhv=>?_) λhv=>?_;subst hv;rintro⟨⟩;exact rT o2;subst hv;refine Aq λy3 Fu=>?_;refine Ag (λhv=>?_) λhv=>?_;subst hv;rintro⟨⟩;exact rT (o2++[AG (EJ Fu)]);subst hv;refine Ag (λAW=>?_) λAW=>?_;rintro⟨⟩;exact rT (o2++[AG (EJ Fu),pb AW]);rintro⟨⟩;exact rT (o2++[AG (EJ Fu),pb AW])
def an3:Code:=A0 Tryz.f128
def aoK:Tryz.f128.body=some an3:=by kernel_rfl
def Ec(s:ByteArray)(at_:Int):Option Bool:=cond (NI ((s.data.toList.length:Nat):Int) at_) (some true) ((HU s.data.toList at_).bind λc1=>(Km ((c1.toNat:Nat):Int)).bind λy2=>cond y2 (some false) (cond (CZ ((c1.toNat:Nat):Int) 46) (some false) (some true)))
def Gh{s:ByteArray}{at_:Int}{yR:Bool}(h:Ec  s at_=some yR):Pure P (G mx) 128 [.zs s,.zi at_] (.zb yR):=by
 unfold Ec at h;refine CQ Hd.mixed Hd.Aa (Au Tryz.func128 aoK ?_) (A1 rfl (A1 rfl rfl)) rfl;revert h;refine Ag (λAW=>?_) λAW=>?_;rintro⟨⟩;exact rT [pb AW];refine Aq λc1 R6=>?_;refine Aq λy2 D6=>?_;let o1:List (PC P (G mx)):=[pb AW,SL (Jp R6),AG (Nn D6)];refine Ag (λhv=>?_) λhv=>?_;subst hv;rintro⟨⟩;exact rT o1;subst hv;refine Ag (λBZ=>?_) λBZ=>?_;rintro⟨⟩;exact rT (o1++[SL (Jp R6),pn BZ]);rintro⟨⟩;exact rT (o1++[SL (Jp R6),pn BZ])
def aiZ:Code:=A0 Tryz.f129
def aoL:Tryz.f129.body=some aiZ:=by kernel_rfl
def Hl(s:ByteArray)(L3:Int):Option (Lp Int Int Int):=cond (Ez L3 ((s.data.toList.length:Nat):Int)) ((HU s.data.toList L3).bind λc1=>(GB ((c1.toNat:Nat):Int)).bind λy2=>cond y2 (some (.nx (Bt L3 1))) (some (.ex L3))) (some (.ex L3))
def E5(s:ByteArray)(at_:Int):Option Int:=(Mh (λx=>Hl  s x) at_).bind (Ma (λ(jH:Int)=>some jH) (λv=>some v))
def Jz{s:ByteArray}{at_:Int}{yR:Int}(h:E5  s at_=some yR):Pure P (G mx) 129 [.zs s,.zi at_] (.zi yR):=by
 unfold E5 at h;refine CQ Hd.mixed Hd.Aa (Au Tryz.func129 aoL ?_) (A1 rfl (A1 rfl rfl)) rfl;revert h;refine PB (λQ v=>KD P Tryz.f129 0 Q (.zi v)) (λ(L3:Int) (j0:List Value)=>fr 18 [(0,.zs s),(1,.zi L3)] [8,9,13,14] j0) (λ(L3:Int)=>⟨[],0,[],0⟩) (λ(L3:Int) (jx:List Value)=>fr 18 [(1,.zi L3)] [8,9,13,14] jx) (λ(L3:Int)=>⟨[],0,[],0⟩) [] (Hb [] 0 (sb aiZ 24) [.code (sb aiZ 7)] (Ac 300 []) (by kernel_rfl)) ?_ ?_ (λv h=>by cases h;exact .outer .body);rintro L3 j0 r k;show Hl  s L3=some r->_;unfold Hl;refine Ag (λAW=>?_) λAW=>?_;refine Aq λc1 R6=>?_;refine Aq λy2 D6=>?_;refine Ag (λhv=>?_) λhv=>?_;subst hv;rintro⟨⟩;exact He (Ac 300 [pb AW,SL (Jp R6),AG (EJ D6),pk]) (by kernel_rfl) (k [bT,bT,bT,bT]);subst hv;rintro⟨⟩;exact DC (Ac 300 [pb AW,SL (Jp R6),AG (EJ D6)]) (by kernel_rfl) (k [bT,bT,bF,bF]);rintro⟨⟩;exact DC (Ac 300 [pb AW]) (by kernel_rfl) (k [bF,bF,undef,bF]);rintro jH amM;rintro⟨⟩;exact AA _ _ (IV 300 []) (by kernel_rfl) .body .sc
def B76:Code:=A0 Tryz.f76
def b76:Tryz.f76.body=some B76:=by kernel_rfl
def I2(s:ByteArray)(at_:Int):Option (Tk×Bool):=(LN s at_).bind λy1=>cond y1 ((QN s at_ (Bt at_ 10)).bind λs2=>(Ec s (Bt at_ 10)).bind λy3=>some ((⟨5,s2,at_⟩:Tk),y3)) ((E5 s at_).bind λy4=>cond (CZ y4 (Bt at_ 1)) (cond (Ez y4 ((s.data.toList.length:Nat):Int)) ((HU s.data.toList y4).bind λc5=>cond (CZ ((c5.toNat:Nat):Int) 46) ((E5 s (Bt y4 1)).bind λy6=>(QN s at_ y6).bind λs7=>cond (NI (L6 y4 at_) 10) (cond (CZ y6 (Bt y4 3)) ((Ec s y6).bind λy8=>some ((⟨4,s7,at_⟩:Tk),y8)) (some ((⟨4,s7,at_⟩:Tk),false))) (some ((⟨4,s7,at_⟩:Tk),false))) ((QN s at_ y4).bind λs9=>cond (NI (L6 y4 at_) 12) ((Ec s y4).bind λzQ=>some ((⟨3,s9,at_⟩:Tk),zQ)) (some ((⟨3,s9,at_⟩:Tk),false)))) ((QN s at_ y4).bind λs11=>cond (NI (L6 y4 at_) 12) ((Ec s y4).bind λy12=>some ((⟨3,s11,at_⟩:Tk),y12)) (some ((⟨3,s11,at_⟩:Tk),false)))) ((HU s.data.toList at_).bind λc13=>cond (CZ ((c13.toNat:Nat):Int) 48) (cond (Ez y4 ((s.data.toList.length:Nat):Int)) ((HU s.data.toList y4).bind λc14=>cond (CZ ((c14.toNat:Nat):Int) 46) ((E5 s (Bt y4 1)).bind λy15=>(QN s at_ y15).bind λs16=>some ((⟨4,s16,at_⟩:Tk),false)) ((QN s at_ y4).bind λs17=>some ((⟨3,s17,at_⟩:Tk),false))) ((QN s at_ y4).bind λs18=>some ((⟨3,s18,at_⟩:Tk),false))) (cond (Ez y4 ((s.data.toList.length:Nat):Int)) ((HU s.data.toList y4).bind λc19=>cond (CZ ((c19.toNat:Nat):Int) 46) ((E5 s (Bt y4 1)).bind λy20=>(QN s at_ y20).bind λs21=>cond (NI (L6 y4 at_) 10) (cond (CZ y20 (Bt y4 3)) ((Ec s y20).bind λy22=>some ((⟨4,s21,at_⟩:Tk),y22)) (some ((⟨4,s21,at_⟩:Tk),false))) (some ((⟨4,s21,at_⟩:Tk),false))) ((QN s at_ y4).bind λs23=>cond (NI (L6 y4 at_) 12) ((Ec s y4).bind λy24=>some ((⟨3,s23,at_⟩:Tk),y24)) (some ((⟨3,s23,at_⟩:Tk),false)))) ((QN s at_ y4).bind λs25=>cond (NI (L6 y4 at_) 12) ((Ec s y4).bind λy26=>some ((⟨3,s25,at_⟩:Tk),y26)) (some ((⟨3,s25,at_⟩:Tk),false))))))
def Ut{s:ByteArray}{at_:Int}{yR:(Tk×Bool)}(h:I2  s at_=some yR):Pure P (G mx) 76 [.zs s,.zi at_] (.C6 [.agg (GG yR.1),.zb yR.2]):=by
 unfold I2 at h;refine CQ Hd.mixed Hd.Aa (Au Tryz.func76 b76 ?_) (A1 rfl (A1 rfl rfl)) (A1 (BM.Cs yR.1) (A1 rfl rfl));revert h;refine Aq λy1 B8=>?_;let o1:List (PC P (G mx)):=[AG (Xq B8)];refine Ag (λhv=>?_) λhv=>?_;subst hv;refine Aq λs2 bQ=>?_;refine Aq λy3 Fu=>?_;rintro⟨⟩;exact AA _ _ (Ac 300 (o1++[pz 11,pk,O3 (IB bQ),pk,AG (Gh Fu)])) (by kernel_rfl) .body (.plain (A1 (BM.Cs (⟨5,s2,at_⟩:Tk)) (A1 rfl rfl)));subst hv;refine Aq λy4 JU=>?_;let o2:List (PC P (G mx)):=o1++[AG (Jz JU),pk];refine Ag (λAW=>?_) λAW=>?_;refine Ag (λBZ=>?_) λBZ=>?_;refine Aq λc5 hc5=>?_;let o3:List (PC P (G mx)):=o2++[pb AW,pb BZ,SL (Jp hc5)];refine Ag (λDz=>?_) λDz=>?_;refine Aq λy6 L4=>?_;refine Aq λs7 hs7=>?_;let o4:List (PC P (G mx)):=o3++[pb Dz,pk,AG (Jz L4),pz 24,O3 (IB hs7),pk];refine Ag (λFk=>?_) λFk=>?_;refine Ag (λHY=>?_) λHY=>?_;refine Aq λy8 N5=>?_;rintro⟨⟩;exact AA _ _ (Ac 300 (o4++[pb Fk,pk,pb HY,AG (Gh N5)])) (by kernel_rfl) .body (.plain (A1 (BM.Cs (⟨4,s7,at_⟩:Tk)) (A1 rfl rfl)));rintro⟨⟩;exact AA _ _ (Ac 300 (o4++[pb Fk,pk,pb HY])) (by kernel_rfl) .body (.plain (A1 (BM.Cs (⟨4,s7,at_⟩:Tk)) (A1 rfl rfl)));rintro⟨⟩;exact AA _ _ (Ac 300 (o4++[pb Fk])) (by kernel_rfl) .body (.plain (A1 (BM.Cs (⟨4,s7,at_⟩:Tk)) (A1 rfl rfl)));refine Aq λs9 hs9=>?_;refine Ag (λIN=>?_) λIN=>?_;refine Aq λzQ Qj=>?_;rintro⟨⟩;exact AA _ _ (Ac 300 (o3++[pb Dz,pz 18,O3 (IB hs9),pk,pb IN,AG (Gh Qj)])) (by kernel_rfl) .body (.plain (A1 (BM.Cs (⟨3,s9,at_⟩:Tk)) (A1 rfl rfl)));rintro⟨⟩;exact AA _ _ (Ac 300 (o3++[pb Dz,pz 18,O3 (IB hs9),pk,pb IN])) (by kernel_rfl) .body (.plain (A1 (BM.Cs (⟨3,s9,at_⟩:Tk)) (A1 rfl rfl)));refine Aq λs11 amA=>?_;refine Ag (λJb=>?_) λJb=>?_;refine Aq λy12 fM=>?_;rintro⟨⟩;exact AA _ _ (Ac 300 (o2++[pb AW,pb BZ,pz 18,O3 (IB amA),pk,pb Jb,AG (Gh fM)])) (by kernel_rfl) .body (.plain (A1 (BM.Cs (⟨3,s11,at_⟩:Tk)) (A1 rfl rfl)));rintro⟨⟩;exact AA _ _ (Ac 300 (o2++[pb AW,pb BZ,pz 18,O3 (IB amA),pk,pb Jb])) (by kernel_rfl) .body (.plain (A1 (BM.Cs (⟨3,s11,at_⟩:Tk)) (A1 rfl rfl)));refine Aq λc13 apJ=>?_;let o5:List (PC P (G mx)):=o2++[pb AW,SL (Jp apJ)];refine Ag (λKx=>?_) λKx=>?_;refine Ag (λKq=>?_) λKq=>?_;refine Aq λc14 ame=>?_;refine Ag (λGP=>?_) λGP=>?_;refine Aq λy15 Y1=>?_;refine Aq λs16 ap3=>?_;rintro⟨⟩;exact AA _ _ (Ac 300 (o5++[pn Kx,pb Kq,SL (Jp ame),pb GP,pk,AG (Jz Y1),pz 24,O3 (IB ap3)])) (by kernel_rfl) .body (.plain (A1 (BM.Cs (⟨4,s16,at_⟩:Tk)) (A1 rfl rfl)));refine Aq λs17 ap4=>?_;rintro⟨⟩;exact AA _ _ (Ac 300 (o5++[pn Kx,pb Kq,SL (Jp ame),pb GP,pz 18,O3 (IB ap4)])) (by kernel_rfl) .body (.plain (A1 (BM.Cs (⟨3,s17,at_⟩:Tk)) (A1 rfl rfl)));refine Aq λs18 ap5=>?_;rintro⟨⟩;exact AA _ _ (Ac 300 (o5++[pn Kx,pb Kq,pz 18,O3 (IB ap5)])) (by kernel_rfl) .body (.plain (A1 (BM.Cs (⟨3,s18,at_⟩:Tk)) (A1 rfl rfl)));refine Ag (λIZ=>?_) λIZ=>?_;refine Aq λc19 apK=>?_;let o6:List (PC P (G mx)):=o5++[pn Kx,pb IZ,SL (Jp apK)];refine Ag (λJG=>?_) λJG=>?_;refine Aq λy20 pP=>?_;refine Aq λs21 ap6=>?_;let o7:List (PC P (G mx)):=o6++[pb JG,pk,AG (Jz pP),pz 24,O3 (IB ap6),pk];refine Ag (λJH=>?_) λJH=>?_;refine Ag (λK1=>?_) λK1=>?_;refine Aq λy22 fN=>?_;rintro⟨⟩;exact AA _ _ (Ac 300 (o7++[pb JH,pk,pb K1,AG (Gh fN)])) (by kernel_rfl) .body (.plain (A1 (BM.Cs (⟨4,s21,at_⟩:Tk)) (A1 rfl rfl)));rintro⟨⟩;exact AA _ _ (Ac 300 (o7++[pb JH,pk,pb K1])) (by kernel_rfl) .body (.plain (A1 (BM.Cs (⟨4,s21,at_⟩:Tk)) (A1 rfl rfl)));rintro⟨⟩;exact AA _ _ (Ac 300 (o7++[pb JH])) (by kernel_rfl) .body (.plain (A1 (BM.Cs (⟨4,s21,at_⟩:Tk)) (A1 rfl rfl)));refine Aq λs23 amB=>?_;refine Ag (λLs=>?_) λLs=>?_;refine Aq λy24 fO=>?_;rintro⟨⟩;exact AA _ _ (Ac 300 (o6++[pb JG,pz 18,O3 (IB amB),pk,pb Ls,AG (Gh fO)])) (by kernel_rfl) .body (.plain (A1 (BM.Cs (⟨3,s23,at_⟩:Tk)) (A1 rfl rfl)));rintro⟨⟩;exact AA _ _ (Ac 300 (o6++[pb JG,pz 18,O3 (IB amB),pk,pb Ls])) (by kernel_rfl) .body (.plain (A1 (BM.Cs (⟨3,s23,at_⟩:Tk)) (A1 rfl rfl)));refine Aq λs25 amC=>?_;refine Ag (λOf=>?_) λOf=>?_;refine Aq λy26 aj2=>?_;rintro⟨⟩;exact AA _ _ (Ac 300 (o5++[pn Kx,pb IZ,pz 18,O3 (IB amC),pk,pb Of,AG (Gh aj2)])) (by kernel_rfl) .body (.plain (A1 (BM.Cs (⟨3,s25,at_⟩:Tk)) (A1 rfl rfl)));rintro⟨⟩;exact AA _ _ (Ac 300 (o5++[pn Kx,pb IZ,pz 18,O3 (IB amC),pk,pb Of])) (by kernel_rfl) .body (.plain (A1 (BM.Cs (⟨3,s25,at_⟩:Tk)) (A1 rfl rfl)))
def ai0:Code:=A0 Tryz.f130
def aoM:Tryz.f130.body=some ai0:=by kernel_rfl
def Ko(s:ByteArray)(L3:Int):Option (Lp Int Int Int):=cond (Ez L3 ((s.data.toList.length:Nat):Int)) ((HU s.data.toList L3).bind λc1=>(Km ((c1.toNat:Nat):Int)).bind λy2=>cond y2 (some (.nx (Bt L3 1))) (some (.ex L3))) (some (.ex L3))
def Ll(s:ByteArray)(at_:Int):Option Int:=(Mh (λx=>Ko  s x) at_).bind (Ma (λ(jH:Int)=>some jH) (λv=>some v))
def SN{s:ByteArray}{at_:Int}{yR:Int}(h:Ll  s at_=some yR):Pure P (G mx) 130 [.zs s,.zi at_] (.zi yR):=by
 unfold Ll at h;refine CQ Hd.mixed Hd.Aa (Au Tryz.func130 aoM ?_) (A1 rfl (A1 rfl rfl)) rfl;revert h;refine PB (λQ v=>KD P Tryz.f130 0 Q (.zi v)) (λ(L3:Int) (j0:List Value)=>fr 18 [(0,.zs s),(1,.zi L3)] [8,9,13,14] j0) (λ(L3:Int)=>⟨[],0,[],0⟩) (λ(L3:Int) (jx:List Value)=>fr 18 [(1,.zi L3)] [8,9,13,14] jx) (λ(L3:Int)=>⟨[],0,[],0⟩) [] (Hb [] 0 (sb ai0 24) [.code (sb ai0 7)] (Ac 300 []) (by kernel_rfl)) ?_ ?_ (λv h=>by cases h;exact .outer .body);rintro L3 j0 r k;show Ko  s L3=some r->_;unfold Ko;refine Ag (λAW=>?_) λAW=>?_;refine Aq λc1 R6=>?_;refine Aq λy2 D6=>?_;refine Ag (λhv=>?_) λhv=>?_;subst hv;rintro⟨⟩;exact He (Ac 300 [pb AW,SL (Jp R6),AG (Nn D6),pk]) (by kernel_rfl) (k [bT,bT,bT,bT]);subst hv;rintro⟨⟩;exact DC (Ac 300 [pb AW,SL (Jp R6),AG (Nn D6)]) (by kernel_rfl) (k [bT,bT,bF,bF]);rintro⟨⟩;exact DC (Ac 300 [pb AW]) (by kernel_rfl) (k [bF,bF,undef,bF]);rintro jH amM;rintro⟨⟩;exact AA _ _ (IV 300 []) (by kernel_rfl) .body .sc
def B78:Code:=A0 Tryz.f78
def b78:Tryz.f78.body=some B78:=by kernel_rfl
def I8(s:ByteArray)(y1:Int)(i7:Int):Option (Lp Int Unit (Tk×Bool)):=cond (Ez i7 y1) ((HU s.data.toList i7).bind λc2=>(GC ((c2.toNat:Nat):Int)).bind λy3=>cond y3 (some (.rt ((⟨0,ByteArray.empty,0⟩:Tk),false))) (some (.nx (Bt i7 1)))) (some (.ex ()))
def LO(s:ByteArray)(at_:Int):Option (Tk×Bool):=(Ll s at_).bind λy1=>(Mh (λx=>I8  s y1 x) at_).bind (Ma (λ(_:Unit)=>(QN s at_ y1).bind λs5=>cond (NI (L6 y1 at_) 16) (some ((⟨1,s5,at_⟩:Tk),true)) (some ((⟨1,s5,at_⟩:Tk),false))) (λv=>some v))
def Xr{s:ByteArray}{at_:Int}{yR:(Tk×Bool)}(h:LO  s at_=some yR):Pure P (G mx) 78 [.zs s,.zi at_] (.C6 [.agg (GG yR.1),.zb yR.2]):=by
 unfold LO at h;refine CQ Hd.mixed Hd.Aa (Au Tryz.func78 b78 ?_) (A1 rfl (A1 rfl rfl)) (A1 (BM.Cs yR.1) (A1 rfl rfl));revert h;refine Aq λy1 B8=>?_;refine PB (λQ v=>KD P Tryz.f78 0 Q (.C6 [.agg (GG v.1),.zb v.2])) (λ(i7:Int) (j0:List Value)=>fr 32 [(0,.zs s),(1,.zi at_),(4,.ptr 0 0),(6,.zi y1),(7,.zi i7)] [5,14,20,31] j0) (λ(i7:Int)=>⟨[(0,.cells [.zi 0,.zs ByteArray.empty,.zi 0])],1,[],0⟩) (λ(_:Unit) (jx:List Value)=>fr 32 [(0,.zs s),(1,.zi at_),(4,.ptr 0 0),(6,.zi y1)] [5,14,20,31] jx) (λ(_:Unit)=>⟨[(0,.cells [.zi 0,.zs ByteArray.empty,.zi 0])],1,[],0⟩) [bF] (Hb [] 0 (sb B78 116) [.code (sb B78 15)] (Ac 300 [AG (SN B8)]) (by kernel_rfl)) ?_ ?_ (λv h=>by cases h;exact .outer .body);rintro i7 j0 r k;show I8  s y1 i7=some r->_;unfold I8;refine Ag (λAW=>?_) λAW=>?_;refine Aq λc2 iQ=>?_;refine Aq λy3 Fu=>?_;refine Ag (λhv=>?_) λhv=>?_;subst hv;rintro⟨⟩;exact AA _ _ (Ac 300 [pb AW,SL (Jp iQ),AG (FI Fu)]) (by kernel_rfl) (.Gi k) (.plain (A1 (BM.Cs (⟨0,ByteArray.empty,0⟩:Tk)) (A1 rfl rfl)));subst hv;rintro⟨⟩;exact He (Ac 300 [pb AW,SL (Jp iQ),AG (FI Fu),pk]) (by kernel_rfl) (k (js 4 j0 [(1,bT),(2,bF)]));rintro⟨⟩;exact DC (Ac 300 [pb AW]) (by kernel_rfl) (k (js 4 j0 [(1,bF)]));rintro⟨⟩ afK;refine Aq λs5 hs5=>?_;refine Ag (λBZ=>?_) λBZ=>?_;rintro⟨⟩;exact AA _ _ (IV 300 [O3 (IB hs5),pk,pb BZ]) (by kernel_rfl) .body (.plain (A1 (BM.Cs (⟨1,s5,at_⟩:Tk)) (A1 rfl rfl)));rintro⟨⟩;exact AA _ _ (IV 300 [O3 (IB hs5),pk,pb BZ]) (by kernel_rfl) .body (.plain (A1 (BM.Cs (⟨1,s5,at_⟩:Tk)) (A1 rfl rfl)))
def B80:Code:=A0 Tryz.f80
def b80:Tryz.f80.body=some B80:=by kernel_rfl
def Kn(s:ByteArray)(y1:Int)(i7:Int):Option (Lp Int Unit (Tk×Bool)):=cond (Ez i7 y1) ((HU s.data.toList i7).bind λc2=>(GC ((c2.toNat:Nat):Int)).bind λy3=>cond y3 (some (.nx (Bt i7 1))) (some (.rt ((⟨0,ByteArray.empty,0⟩:Tk),false)))) (some (.ex ()))
def M9(s:ByteArray)(at_:Int):Option (Tk×Bool):=(Ll s at_).bind λy1=>(Mh (λx=>Kn  s y1 x) at_).bind (Ma (λ(_:Unit)=>(QN s at_ y1).bind λs5=>cond (CZ (L6 y1 at_) 3) (some ((⟨2,s5,at_⟩:Tk),true)) (some ((⟨2,s5,at_⟩:Tk),false))) (λv=>some v))
def Zq{s:ByteArray}{at_:Int}{yR:(Tk×Bool)}(h:M9  s at_=some yR):Pure P (G mx) 80 [.zs s,.zi at_] (.C6 [.agg (GG yR.1),.zb yR.2]):=by
 unfold M9 at h;refine CQ Hd.mixed Hd.Aa (Au Tryz.func80 b80 ?_) (A1 rfl (A1 rfl rfl)) (A1 (BM.Cs yR.1) (A1 rfl rfl));revert h;refine Aq λy1 B8=>?_;refine PB (λQ v=>KD P Tryz.f80 0 Q (.C6 [.agg (GG v.1),.zb v.2])) (λ(i7:Int) (j0:List Value)=>fr 33 [(0,.zs s),(1,.zi at_),(4,.ptr 0 0),(6,.zi y1),(7,.zi i7)] [5,14,20,21,32] j0) (λ(i7:Int)=>⟨[(0,.cells [.zi 0,.zs ByteArray.empty,.zi 0])],1,[],0⟩) (λ(_:Unit) (jx:List Value)=>fr 33 [(0,.zs s),(1,.zi at_),(4,.ptr 0 0),(6,.zi y1)] [5,14,20,21,32] jx) (λ(_:Unit)=>⟨[(0,.cells [.zi 0,.zs ByteArray.empty,.zi 0])],1,[],0⟩) [bF] (Hb [] 0 (sb B80 116) [.code (sb B80 15)] (Ac 300 [AG (SN B8)]) (by kernel_rfl)) ?_ ?_ (λv h=>by cases h;exact .outer .body);rintro i7 j0 r k;show Kn  s y1 i7=some r->_;unfold Kn;refine Ag (λAW=>?_) λAW=>?_;refine Aq λc2 iQ=>?_;refine Aq λy3 Fu=>?_;refine Ag (λhv=>?_) λhv=>?_;subst hv;rintro⟨⟩;exact He (Ac 300 [pb AW,SL (Jp iQ),AG (FI Fu),pk]) (by kernel_rfl) (k [(jv j0 0),bT,bT,bF,(jv j0 4)]);subst hv;rintro⟨⟩;exact AA _ _ (Ac 300 [pb AW,SL (Jp iQ),AG (FI Fu)]) (by kernel_rfl) (.Gi k) (.plain (A1 (BM.Cs (⟨0,ByteArray.empty,0⟩:Tk)) (A1 rfl rfl)));rintro⟨⟩;exact DC (Ac 300 [pb AW]) (by kernel_rfl) (k (js 5 j0 [(1,bF)]));rintro⟨⟩ afK;refine Aq λs5 hs5=>?_;refine Ag (λBZ=>?_) λBZ=>?_;rintro⟨⟩;exact AA _ _ (IV 300 [O3 (IB hs5),pk,pb BZ]) (by kernel_rfl) .body (.plain (A1 (BM.Cs (⟨2,s5,at_⟩:Tk)) (A1 rfl rfl)));rintro⟨⟩;exact AA _ _ (IV 300 [O3 (IB hs5),pk,pb BZ]) (by kernel_rfl) .body (.plain (A1 (BM.Cs (⟨2,s5,at_⟩:Tk)) (A1 rfl rfl)))
def B81:Code:=A0 Tryz.f81
def b81:Tryz.f81.body=some B81:=by kernel_rfl
def KX  :Option (List ByteArray):=some [GX,H7,Hh,FG,JL,IS,OG,Lu,PW,EH,Uo,Wi,gI,aQ,Vy,R9,Uq]
def Us{yR:(List ByteArray)}(h:KX  =some yR):Pure P (G mx) 81 [] (.sl .lost yR.length (rows stC yR)):=by
 unfold KX at h;refine CQ Hd.mixed Hd.Aa (Au Tryz.func81 b81 ?_) rfl (fU.KJ yR);revert h;rintro⟨⟩;exact AA (v:=.sl .full 17 [.zs GX,.zs H7,.zs Hh,.zs FG,.zs JL,.zs IS,.zs OG,.zs Lu,.zs PW,.zs EH,.zs Uo,.zs Wi,.zs gI,.zs aQ,.zs Vy,.zs R9,.zs Uq]) _ _ (Ac 300 []) (by kernel_rfl) .body (.wn (.d (.r (.r (.r (.r (.r (.r (.r (.r (.r (.r (.r (.r (.r (.r (.r (.r (.r .nil))))))))))))))))) (fU.eq [GX,H7,Hh,FG,JL,IS,OG,Lu,PW,EH,Uo,Wi,gI,aQ,Vy,R9,Uq]).symm .nil) (fU.KJ [GX,H7,Hh,FG,JL,IS,OG,Lu,PW,EH,Uo,Wi,gI,aQ,Vy,R9,Uq]))
def B42:Code:=A0 Tryz.f42
def b42:Tryz.f42.body=some B42:=by kernel_rfl
def J3(s:ByteArray)(at_:Int)(i0:Nat)(e0:ByteArray) :Option (Lp Unit Unit (Tk×Bool)):=(Iz s at_ e0).bind λy9=>cond y9 (some (.rt ((⟨6,e0,at_⟩:Tk),true))) (some (.nx ()))
def KN(s:ByteArray)(at_:Int):Option (Tk×Bool):=(HU s.data.toList at_).bind λc1=>(GB ((c1.toNat:Nat):Int)).bind λy2=>cond y2 ((I2 s at_).bind λ(L8,E8)=>some (L8,E8)) ((I7 ((c1.toNat:Nat):Int)).bind λy4=>cond y4 ((LO s at_).bind λ(Nq,Hf)=>some (Nq,Hf)) ((GC ((c1.toNat:Nat):Int)).bind λy6=>cond y6 ((M9 s at_).bind λ(rO,Sb)=>some (rO,Sb)) ((KX).bind λy8=>(RT y8.length (CO (λi y x=>J3  s at_ i y ) (λx=>()) (y8.drop 0) 0 ())).bind (Ma (λ(_:Unit)=>some ((⟨0,ByteArray.empty,0⟩:Tk),false)) (λv=>some v)))))
def QG{s:ByteArray}{at_:Int}{yR:(Tk×Bool)}(h:KN  s at_=some yR):Pure P (G mx) 42 [.zs s,.zi at_] (.C6 [.agg (GG yR.1),.zb yR.2]):=by
 unfold KN at h;refine CQ Hd.mixed Hd.Aa (Au Tryz.func42 b42 ?_) (A1 rfl (A1 rfl rfl)) (A1 (BM.Cs yR.1) (A1 rfl rfl));revert h;refine Aq λc1 R6=>?_;refine Aq λy2 D6=>?_;let o1:List (PC P (G mx)):=[SL (Jp R6),AG (EJ D6)];refine Ag (λhv=>?_) λhv=>?_;subst hv;refine Aq ?_;rintro⟨L8,E8⟩ Fu;dsimp only;rintro⟨⟩;exact AA _ _ (Ac 300 (o1++[AG (Ut Fu)])) (by kernel_rfl) .body (.plain (A1 (BM.Cs L8) (A1 rfl rfl)));subst hv;refine Aq λy4 JU=>?_;let o2:List (PC P (G mx)):=o1++[SL (Jp R6),AG (QF JU)];refine Ag (λhv=>?_) λhv=>?_;subst hv;refine Aq ?_;rintro⟨Nq,Hf⟩ Ke;dsimp only;rintro⟨⟩;exact AA _ _ (Ac 300 (o2++[AG (Xr Ke)])) (by kernel_rfl) .body (.plain (A1 (BM.Cs Nq) (A1 rfl rfl)));subst hv;refine Aq λy6 L4=>?_;refine Ag (λhv=>?_) λhv=>?_;subst hv;refine Aq ?_;rintro⟨rO,Sb⟩ Sf;dsimp only;rintro⟨⟩;exact AA _ _ (Ac 300 (o2++[SL (Jp R6),AG (FI L4),AG (Zq Sf)])) (by kernel_rfl) .body (.plain (A1 (BM.Cs rO) (A1 rfl rfl)));subst hv;refine Aq λy8 N5=>?_;refine R3 (λQ v=>KD P Tryz.f42 0 Q (.C6 [.agg (GG v.1),.zb v.2])) (λi0 (_:Unit) (j0:List Value)=>fr 59 [(0,.zs s),(1,.zi at_),(4,.ptr 0 0),(6,.sl .lost y8.length (rows stC y8)),(7,.zi ((i0:Nat):Int))] [5,8,12,17,18,22,27,28,32,37,42,51] j0) (λ(_:Unit)=>⟨[(0,.cells [.zi 0,.zs ByteArray.empty,.zi 0])],1,[],0⟩) (λ(_:Unit) (jx:List Value)=>fr 59 [(4,.ptr 0 0)] [5,8,12,17,18,22,27,28,32,37,42,51] jx) (λ(_:Unit)=>⟨[(0,.cells [.zi 0,.zs ByteArray.empty,.zi 0])],1,[],0⟩) [bF,bF,bF,undef,bF,bF,undef,bF,bF] (Hb [] 1 (sb B42 244) [.code (sb B42 31)] (Ac 300 (o2++[SL (Jp R6),AG (FI L4),AG (Us N5)])) (by kernel_rfl)) ?_ ?_ ?_ (λv h=>by cases h;exact .outer .body);rintro i0 ⟨⟩ j0 N4 hq;exact DC (Ac 300 [pb (iT N4)]) (by kernel_rfl) (hq (js 12 j0 [(10,bF)]));rintro i0 e0 ⟨⟩ j0 r Qf Pa P4 k;show J3  s at_ i0 e0 =some r->_;unfold J3;refine Aq λy9 Vg=>?_;refine Ag (λhv=>?_) λhv=>?_;subst hv;rintro⟨⟩;exact AA _ _ (Ac 300 [pb (XM Pa),Jw (akn .lost Qf),AG (Jy Vg),Jw (akn .lost Qf)]) (by kernel_rfl) (.Gi k) (.plain (A1 (BM.Cs (⟨6,e0,at_⟩:Tk)) (A1 rfl rfl)));subst hv;rintro⟨⟩;exact He (Ac 300 [pb (XM Pa),Jw (akn .lost Qf),AG (Jy Vg),pi P4]) (by kernel_rfl) (k (js 12 j0 [(10,bT),(11,bF)]));rintro⟨⟩ abW;rintro⟨⟩;exact AA _ _ (IV 300 []) (by kernel_rfl) .body (.plain (A1 (BM.Cs (⟨0,ByteArray.empty,0⟩:Tk)) (A1 rfl rfl)))
def B16:Code:=A0 Tryz.f16
def b16:Tryz.f16.body=some B16:=by kernel_rfl
def CV(s:ByteArray)(JI:(List Tk))(zX:Int):Option (Lp ((List Tk)×Int) (List Tk) ((List Tk)×Int×Int)):=cond (Ez zX ((s.data.toList.length:Nat):Int)) (cond (CZ ((JI.length:Nat):Int) 2000) (some (.rt ([],2,zX))) ((KN s zX).bind λ(L8,E8)=>cond E8 (MT (JI.length+1) ((Kl s (Bt zX ((L8.text.data.toList.length:Nat):Int))).bind λy5=>some (.nx ((JI++[L8]),y5)))) (some (.rt ([],61,zX))))) (some (.ex JI))
def Lk(s:ByteArray):Option ((List Tk)×Int×Int):=cond (Ez 6000 ((s.data.toList.length:Nat):Int)) (some ([],2,0)) ((Kl s 0).bind λy1=>(Mh (λx=>CV  s x.1 x.2) ([],y1)).bind (Ma (λ(Zl:(List Tk))=>some (Zl,0,0)) (λv=>some v)))
def SM{s:ByteArray}{yR:((List Tk)×Int×Int)}(h:Lk  s=some yR):Pure P (G mx) 16 [.zs s] (.C6 [.sl .lost yR.1.length (rows GG yR.1),.zi yR.2.1,.zi yR.2.2]):=by
 unfold Lk at h;refine CQ Hd.mixed Hd.Aa (Au Tryz.func16 b16 ?_) (A1 rfl rfl) (A1 (BM.KJ yR.1) (A1 rfl (A1 rfl rfl)));revert h;refine Ag (λAW=>?_) λAW=>?_;rintro⟨⟩;exact AA (v:=.C6 [.sl .full 0 [],.zi 2,.zi 0]) _ _ (Ac 300 [pb AW]) (by kernel_rfl) .body (.wn (.u (.z (.r (.r .nil))) .nil) (A1 (BM.KJ []) (A1 rfl (A1 rfl rfl))));refine Aq λy1 B8=>?_;refine PB (λQ v=>KD P Tryz.f16 0 Q (.C6 [.sl .lost v.1.length (rows GG v.1),.zi v.2.1,.zi v.2.2])) (λ((JI,zX):((List Tk)×Int)) (j0:List Value)=>fr 43 [(0,.zs s),(5,.sl (.row 0 3) JI.length (rows GG JI)),(6,.zi zX)] [8,11,17,20,27,28,29] j0) (λ((JI,zX):((List Tk)×Int))=>⟨[],0,[(0,JI.length)],1⟩) (λ(JI:(List Tk)) (jx:List Value)=>fr 43 [(5,.sl (.row 0 3) JI.length (rows GG JI))] [8,11,17,20,27,28,29] jx) (λ(JI:(List Tk))=>⟨[],0,[(0,JI.length)],1⟩) [undef,bF] (Hb [.t 5 3] 0 (sb B16 248) [.code (sb B16 63)] (Ac 300 [pb AW,AG (RX B8)]) (by kernel_rfl)) ?_ ?_ (λv h=>by cases h;exact .outer .body);rintro⟨JI,zX⟩ j0 r k;show CV  s JI zX=some r->_;unfold CV;refine Ag (λFk=>?_) λFk=>?_;refine Ag (λHY=>?_) λHY=>?_;rintro⟨⟩;exact AA (v:=.C6 [.sl .full 0 [],.zi 2,.zi zX]) _ _ (Ac 300 [pb Fk,pb HY]) (by kernel_rfl) (.Gi k) (.wn (.u (.z (.r (.r .nil))) .nil) (A1 (BM.KJ []) (A1 rfl (A1 rfl rfl))));refine Aq ?_;rintro⟨L8,E8⟩ Fu;dsimp only;refine Ag (λhv=>?_) λhv=>?_;subst hv;refine Lb λhl4=>?_;refine Aq λy5 Ke=>?_;rintro⟨⟩;exact Ib Hd.Aa [⟨.sl (.row 0 3) ((JI++[L8]).length) (rows GG (JI++[L8])),.sl (.row 0 3) ((JI++[L8]).length) (rows GG (JI++[L8])),(.under (ZL rfl (Cf _ _ (BM.A1 (JI++[L8])))))⟩] [] (Ac 300 [pb Fk,pb HY,AG (QG Fu),QC (al5 (.row 0 3) JI [L8] (o:=.full) (n:=1) (ns:=(GG L8)) (BM.wn [L8] (.r (.r (.r .nil)))) rfl rfl (by simp) (by simpa using hl4)),pk,AG (RX Ke)]) (by kernel_rfl) (k [bT,(jv j0 1),bT,bF,bT,bT,bF])
 subst hv;rintro⟨⟩;exact AA (v:=.C6 [.sl .full 0 [],.zi 61,.zi zX]) _ _ (Ac 300 [pb Fk,pb HY,AG (QG Fu)]) (by kernel_rfl) (.Gi k) (.wn (.u (.z (.r (.r .nil))) .nil) (A1 (BM.KJ []) (A1 rfl (A1 rfl rfl))));rintro⟨⟩;exact DC (Ac 300 [pb Fk]) (by kernel_rfl) (k (js 7 j0 [(2,bF)]));rintro Zl amN;rintro⟨⟩;exact AA (v:=.C6 [.sl (.row 0 3) Zl.length (rows GG Zl),.zi 0,.zi 0]) _ _ (IV 300 []) (by kernel_rfl) .body (.wn (.u (.s rfl (.r (.r .nil))) .nil) (A1 (BM.KJ Zl) (A1 rfl (A1 rfl rfl))))
def B11:Code:=A0 Tryz.f11
def b11:Tryz.f11.body=some B11:=by kernel_rfl
def JW(s:ByteArray):Option Bool:=(Lk s).bind λ(Ep,Bj,zT)=>cond (CZ Bj 0) (some true) (some false)
def Vl{s:ByteArray}{yR:Bool}(h:JW  s=some yR):Pure P (G mx) 11 [.zs s] (.zb yR):=by
 unfold JW at h;refine CQ Hd.mixed Hd.Aa (Au Tryz.func11 b11 ?_) (A1 rfl rfl) rfl;revert h;refine Aq ?_;rintro⟨Ep,Bj,zT⟩ B8;dsimp only;refine Ag (λAW=>?_) λAW=>?_;rintro⟨⟩;exact rT [AG (SM B8),pb AW];rintro⟨⟩;exact rT [AG (SM B8),pb AW]
def B39:Code:=A0 Tryz.f39
def b39:Tryz.f39.body=some B39:=by kernel_rfl
def LP(H8:Nd->Int->Option Int)(Ho:Int)(i0:Nat)(e0:Nd)(JI:Int):Option (Lp Int Int Int):=cond (Ez JI Ho) ((H8 e0 (L6 Ho JI)).bind λy1=>some (.nx (Bt JI y1))) (some (.ex JI))
def MB(H8:Nd->Int->Option Int)(n:Nd)(Ho:Int):Option Int:=cond (NI Ho 0) (some 0) ((RT n.kids.length (CO (λi y x=>LP H8 Ho i y x) (λx=>x) (n.kids.drop 0) 0 1)).bind (Ma (λ(acx:Int)=>some acx) (λv=>some v)))
def Wl(H8:Nd->Int->Option Int)(YY:∀{n:Nd} {Ho:Int} {yR:Int},H8 n Ho=some yR->Pure P (G mx) 39 [.agg (CT n),.zi Ho] (.zi yR)){n:Nd}{Ho:Int}{yR:Int}(h:MB H8 n Ho=some yR):Pure P (G mx) 39 [.agg (CT n),.zi Ho] (.zi yR):=by
 unfold MB at h;refine CQ Hd.mixed Hd.Aa (Au Tryz.func39 b39 ?_) (A1 (AE.Cs n) (A1 rfl rfl)) rfl;revert h;refine Ag (λAW=>?_) λAW=>?_;rintro⟨⟩;exact rT [pb AW];refine R3 (λQ v=>KD P Tryz.f39 0 Q (.zi v)) (λi0 (JI:Int) (j0:List Value)=>fr 33 [(1,.zi Ho),(2,.ptr 0 0),(5,.zi JI),(6,.zi ((i0:Nat):Int))] [8,13,14,17,18] j0) (λ(JI:Int)=>⟨[(0,.cells (CT n))],1,[],0⟩) (λ(JI:Int) (jx:List Value)=>fr 33 [(5,.zi JI)] [8,13,14,17,18] jx) (λ(JI:Int)=>⟨[(0,.cells (CT n))],1,[],0⟩) [bF] (Hb [] 0 (sb B39 244) [.code (sb B39 31)] (Ac 300 [pb AW]) (by kernel_rfl)) ?_ ?_ ?_ (λv h=>by cases h;exact .outer .body);rintro i0 JI j0 N4 hq;exact DC (Ac 300 [pb (iT N4)]) (by kernel_rfl) (hq [(jv j0 0),bF,bF,undef,bF]);rintro i0 e0 JI j0 r Qf Pa P4 k;show LP H8 Ho i0 e0 JI=some r->_;unfold LP;refine Ag (λBZ=>?_) λBZ=>?_;refine Aq λy1 B8=>?_;rintro⟨⟩;exact He (Ac 300 [pb (XM Pa),pb BZ,Jw (Kf .lost Qf),pk,AG (YY B8),pk,pi P4]) (by kernel_rfl) (k [(jv j0 0),bT,bT,bT,bT]);rintro⟨⟩;exact DC (Ac 300 [pb (XM Pa),pb BZ]) (by kernel_rfl) (k [(jv j0 0),bT,bT,bF,bF]);rintro acx kL;rintro⟨⟩;exact AA _ _ (IV 300 []) (by kernel_rfl) .body .sc
def GD:Nat->Nd->Int->Option Int
 | 0,_,_=>none
 | qn+1,n,Ho=>MB (GD qn) n Ho
def Xs:∀qn:Nat,∀{n:Nd} {Ho:Int} {yR:Int},GD qn n Ho=some yR->Pure P (G mx) 39 [.agg (CT n),.zi Ho] (.zi yR):=by
 intro qn
 induction qn with
 | zero=>exact(λh=>by simp only[GD] at h;cases h)
 | succ qn ih=>exact(λh=>Wl (GD qn) ih (by rw[GD] at h;exact h))
def PY(n:Nd)(Ho:Int):Option Int:=wL (λqn=>GD qn n Ho)
def SO{n:Nd}{Ho:Int}{yR:Int}(h:PY n Ho=some yR):Pure P (G mx) 39 [.agg (CT n),.zi Ho] (.zi yR):=by
 obtain⟨qn,h⟩:=jY h;exact(Xs qn) h
def B13:Code:=A0 Tryz.f13
def b13:Tryz.f13.body=some B13:=by kernel_rfl
def Lm(n:Nd)(Ho:Int):Option Bool:=(PY n (Bt Ho 1)).bind λy1=>cond (NI y1 Ho) (some true) (some false)
def SP{n:Nd}{Ho:Int}{yR:Bool}(h:Lm  n Ho=some yR):Pure P (G mx) 13 [.agg (CT n),.zi Ho] (.zb yR):=by
 unfold Lm at h;refine CQ Hd.mixed Hd.Aa (Au Tryz.func13 b13 ?_) (A1 (AE.Cs n) (A1 rfl rfl)) rfl;revert h;refine Aq λy1 B8=>?_;refine Ag (λAW=>?_) λAW=>?_;rintro⟨⟩;exact rT [pk,AG (SO B8),pb AW];rintro⟨⟩;exact rT [pk,AG (SO B8),pb AW]
def B14:Code:=A0 Tryz.f14
def b14:Tryz.f14.body=some B14:=by kernel_rfl
def Iq(Gg:Nd->Int->Option Nd)(V0:Int)(i0:Nat)(e0:Nd)(RC:(List Nd)):Option (Lp (List Nd) (List Nd) Nd):=(Gg e0 V0).bind λy2=>MT (RC.length+1) (some (.nx (RC++[y2])))
def KU(Gg:Nd->Int->Option Nd)(n:Nd)(V0:Int):Option Nd:=(RT n.kids.length (CO (λi y x=>Iq Gg V0 i y x) (λx=>x) (n.kids.drop 0) 0 [])).bind (Ma (λ(ZV:(List Nd))=>some (⟨n.kind,n.name,n.unit,n.n,n.fr,n.to,n.known,n.CF,ZV,(Bt n.AH V0)⟩:Nd)) (λv=>some v))
def Ud(Gg:Nd->Int->Option Nd)(V6:∀{n:Nd} {V0:Int} {yR:Nd},Gg n V0=some yR->Pure P (G mx) 14 [.agg (CT n),.zi V0] (.agg (CT yR))){n:Nd}{V0:Int}{yR:Nd}(h:KU Gg n V0=some yR):Pure P (G mx) 14 [.agg (CT n),.zi V0] (.agg (CT yR)):=by
 unfold KU at h;refine CQ Hd.mixed Hd.Aa (Au Tryz.func14 b14 ?_) (A1 (AE.Cs n) (A1 rfl rfl)) (AE.Cs yR);revert h;refine R3 (λQ v=>KD P Tryz.f14 0 Q (.agg (CT v))) (λi0 (RC:(List Nd)) (j0:List Value)=>fr 32 [(1,.zi V0),(2,.ptr 0 0),(4,.ptr 1 0),(16,.sl .lost n.kids.length (BH n.kids)),(17,.zi ((n.kids.length:Nat):Int)),(18,.zi ((i0:Nat):Int))] [19] j0) (λ(RC:(List Nd))=>⟨[(1,.cells S1),(0,.cells [.zi n.kind,.zs n.name,.zs n.unit,.zi n.n,.zi n.fr,.zi n.to,.zi n.known,.zi n.CF.den,.sl .lost n.CF.ps.length (rows IR n.CF.ps),.sl (.row 0 11) RC.length (BH RC),.zi (Bt n.AH V0)])],2,[(0,RC.length)],1⟩) (λ(RC:(List Nd)) (jx:List Value)=>fr 32 [(2,.ptr 0 0),(4,.ptr 1 0)] [19] jx) (λ(RC:(List Nd))=>⟨[(1,.cells S1),(0,.cells [.zi n.kind,.zs n.name,.zs n.unit,.zi n.n,.zi n.fr,.zi n.to,.zi n.known,.zi n.CF.den,.sl .lost n.CF.ps.length (rows IR n.CF.ps),.sl (.row 0 11) RC.length (BH RC),.zi (Bt n.AH V0)])],2,[(0,RC.length)],1⟩) [] (Hb [.b 0 9 11] 0 (sb B14 500) [.code (sb B14 63)] (Ac 300 [pk]) (by kernel_rfl)) ?_ ?_ ?_ (λv h=>by cases h;exact .outer .body);rintro i0 RC j0 N4 hq;exact DC (Ac 300 [pb (iT N4)]) (by kernel_rfl) (hq [bF]);rintro i0 e0 RC j0 r Qf Pa P4 k;show Iq Gg V0 i0 e0 RC=some r->_;unfold Iq;refine Aq λy2 D6=>?_;refine Lb λhl3=>?_;rintro⟨⟩;exact Ib Hd.Aa [fq (AE.KJ n.kids)] [lN,bu [.zi n.kind,.zs n.name,.zs n.unit,.zi n.n,.zi n.fr,.zi n.to,.zi n.known,.zi n.CF.den,.sl .lost n.CF.ps.length (rows IR n.CF.ps),.sl (.row 0 11) ((RC++[y2]).length) (BH (RC++[y2])),.zi (Bt n.AH V0)] (I4 rfl (I4 rfl (I4 rfl (I4 rfl (I4 rfl (I4 rfl (I4 rfl (I4 rfl (I4 (GH _ _ (Qm.KJ n.CF.ps)) (I4 (ZL rfl (Cf _ _ (AE.A1 (RC++[y2])))) (I4 rfl rfl)))))))))))] (Ac 300 [pb (XM Pa),Jw (Kf .lost Qf),lL,AG (V6 D6),QC (SD (.row 0 11) RC [y2] (o:=.full) (n:=1) (ns:=(CT y2)) (AE.wn [y2] (.r (.r (.r (.r (.r (.r (.r (.r (.r (.r (.r .nil)))))))))))) rfl rfl (by simp) (by simpa using hl3)),pi P4]) (by kernel_rfl) (k [bT])
 rintro ZV afK;rintro⟨⟩;exact AA (v:=.agg [.zi n.kind,.zs n.name,.zs n.unit,.zi n.n,.zi n.fr,.zi n.to,.zi n.known,.zi n.CF.den,.sl .lost n.CF.ps.length (rows IR n.CF.ps),.sl (.row 0 11) ZV.length (BH ZV),.zi (Bt n.AH V0)]) _ _ (IV 300 []) (by kernel_rfl) .body (.wn (.g (.r (.r (.r (.r (.r (.r (.r (.r (.r (.s rfl (.r .nil))))))))))) .nil) (AE.Cs (⟨n.kind,n.name,n.unit,n.n,n.fr,n.to,n.known,n.CF,ZV,(Bt n.AH V0)⟩:Nd)))
def EA:Nat->Nd->Int->Option Nd
 | 0,_,_=>none
 | qn+1,n,V0=>KU (EA qn) n V0
def Vk:∀qn:Nat,∀{n:Nd} {V0:Int} {yR:Nd},EA qn n V0=some yR->Pure P (G mx) 14 [.agg (CT n),.zi V0] (.agg (CT yR)):=by
 intro qn
 induction qn with
 | zero=>exact(λh=>by simp only[EA] at h;cases h)
 | succ qn ih=>exact(λh=>Ud (EA qn) ih (by rw[EA] at h;exact h))
def I0(n:Nd)(V0:Int):Option Nd:=wL (λqn=>EA qn n V0)
def Ql{n:Nd}{V0:Int}{yR:Nd}(h:I0 n V0=some yR):Pure P (G mx) 14 [.agg (CT n),.zi V0] (.agg (CT yR)):=by
 obtain⟨qn,h⟩:=jY h;exact(Vk qn) h
def B3:Code:=A0 Tryz.f3
def b3:Tryz.f3.body=some B3:=by kernel_rfl
def Gp(a:ByteArray)(b:ByteArray):Option Bool:=(Kg).bind λy1=>RT (a.data.toList.length+aP.data.toList.length) (RT ((a++aP).data.toList.length+b.data.toList.length) ((JW ((a++aP)++b)).bind λy4=>cond y4 ((Cg a).bind λ(Nq,Hf)=>(Cg b).bind λ(Z7,N0)=>cond (Ez 0 (Bt ((Hf.length:Nat):Int) ((N0.length:Nat):Int))) (some y1) ((Lm Nq 999).bind λy7=>cond y7 ((Lm Z7 999).bind λy8=>cond y8 ((Cg ((a++aP)++b)).bind λ(n8,VS)=>MT (([]:List Nd).length+Nq.kids.length) (cond (CZ ((Nq.kids.length:Nat):Int) 0) ((I0 Z7 (Bt ((a.data.toList.length:Nat):Int) 1)).bind λy11=>MT (([]:List Nd).length+y11.kids.length) (cond (CZ ((y11.kids.length:Nat):Int) 0) (cond y1 (cond (CZ ((VS.length:Nat):Int) 0) ((Gv n8 (⟨1,ByteArray.empty,ByteArray.empty,0,0,0,0,(⟨0,[]⟩:Fn),[],0⟩:Nd)).bind λy13=>some y13) (some false)) (some false)) (cond y1 (cond (CZ ((VS.length:Nat):Int) 0) ((Gv n8 (⟨1,ByteArray.empty,ByteArray.empty,0,0,0,0,(⟨0,[]⟩:Fn),(([]:List Nd)++y11.kids),0⟩:Nd)).bind λy14=>some y14) (some false)) (some false)))) ((I0 Z7 (Bt ((a.data.toList.length:Nat):Int) 1)).bind λy15=>MT ((([]:List Nd)++Nq.kids).length+y15.kids.length) (cond (CZ ((y15.kids.length:Nat):Int) 0) (cond y1 (cond (CZ ((VS.length:Nat):Int) 0) ((Gv n8 (⟨1,ByteArray.empty,ByteArray.empty,0,0,0,0,(⟨0,[]⟩:Fn),(([]:List Nd)++Nq.kids),0⟩:Nd)).bind λy17=>some y17) (some false)) (some false)) (cond y1 (cond (CZ ((VS.length:Nat):Int) 0) ((Gv n8 (⟨1,ByteArray.empty,ByteArray.empty,0,0,0,0,(⟨0,[]⟩:Fn),((([]:List Nd)++Nq.kids)++y15.kids),0⟩:Nd)).bind λy18=>some y18) (some false)) (some false)))))) (some y1)) (some y1))) (some y1)))
def Rc{a:ByteArray}{b:ByteArray}{yR:Bool}(h:Gp  a b=some yR):Pure P (G mx) 3 [.zs a,.zs b] (.zb yR):=by
 unfold Gp at h;refine CQ Hd.mixed Hd.Aa (Au Tryz.func3 b3 ?_) (A1 rfl (A1 rfl rfl)) rfl;revert h;refine Aq λy1 B8=>?_;refine amU λfG=>?_;refine amU λhl3=>?_;refine Aq λy4 JU=>?_;let o1:List (PC P (G mx)):=[AG (Xn B8),NQ (aeY fG (.tmp 14) (.const (.string aP))),NQ (aeY hl3 (.tmp 15) (.tmp 16)),AG (Vl JU)];refine Ag (λhv=>?_) λhv=>?_;subst hv;refine Aq ?_;rintro⟨Nq,Hf⟩ Ke;dsimp only;refine Aq ?_;rintro⟨Z7,N0⟩ L4;dsimp only;let o2:List (PC P (G mx)):=o1++[AG (Hq Ke),AG (Hq L4),pk];refine Ag (λAW=>?_) λAW=>?_;rintro⟨⟩;exact rT (o2++[pb AW]);refine Aq λy7 Sf=>?_;let o3:List (PC P (G mx)):=o2++[pb AW,AG (SP Sf)];refine Ag (λhv=>?_) λhv=>?_;subst hv;refine Aq λy8 N5=>?_;let o4:List (PC P (G mx)):=o3++[AG (SP N5)];refine Ag (λhv=>?_) λhv=>?_;subst hv;refine Aq ?_;rintro⟨n8,VS⟩ Vg;dsimp only;refine Lb λpK=>?_;let o5:List (PC P (G mx)):=o4++[NQ (aeY fG (.tmp 49) (.const (.string aP))),NQ (aeY hl3 (.tmp 50) (.tmp 51)),AG (Hq Vg)];refine Ag (λBZ=>?_) λBZ=>?_;refine Aq λy11 V7=>?_;refine Lb λafy=>?_;let o6:List (PC P (G mx)):=o5++[akR (λs=>afh .full ([]:List Nd) Nq.kids (o:=.lost) s (by have:=Fe BZ;omega) pK),pk,AG (Ql V7)];refine Ag (λDz=>?_) λDz=>?_;let o7:List (PC P (G mx)):=o6++[akR (λs=>afh .full ([]:List Nd) y11.kids (o:=.lost) s (by have:=Fe Dz;omega) afy)];refine Ag (λhv=>?_) λhv=>?_;subst hv;refine Ag (λFk=>?_) λFk=>?_;refine Aq λy13 Uc=>?_;rintro⟨⟩;exact rT (o7++[pb Fk,GW (.r (.g (.r (.r (.r (.r (.r (.r (.r (.r (.z (.z (.r .nil))))))))))) .nil)) (KO Uc)]);rintro⟨⟩;exact rT (o7++[pb Fk]);subst hv;rintro⟨⟩;exact rT o7;let o8:List (PC P (G mx)):=o6++[QC (sO .full ([]:List Nd) y11.kids (o:=.lost) (by have:=U9 Dz;omega) afy)];refine Ag (λhv=>?_) λhv=>?_;subst hv;refine Ag (λHY=>?_) λHY=>?_;refine Aq λy14 V8=>?_;rintro⟨⟩;exact rT (o8++[pb HY,GW (args:=[.agg (CT n8),.agg [.zi 1,.zs ByteArray.empty,.zs ByteArray.empty,.zi 0,.zi 0,.zi 0,.zi 0,.zi 0,.sl .full 0 [],.sl (.row 0 11) ((([]:List Nd)++y11.kids).length) (BH (([]:List Nd)++y11.kids)),.zi 0]]) (.r (.g (.r (.r (.r (.r (.r (.r (.r (.r (.z (.s rfl (.r .nil))))))))))) .nil)) (KO V8)]);rintro⟨⟩;exact rT (o8++[pb HY]);subst hv;rintro⟨⟩;exact rT o8;refine Aq λy15 Y1=>?_;refine Lb λams=>?_;let o9:List (PC P (G mx)):=o5++[QC (sO .full ([]:List Nd) Nq.kids (o:=.lost) (by have:=U9 BZ;omega) pK),pk,AG (Ql Y1)];refine Ag (λIN=>?_) λIN=>?_;let iU:List (PC P (G mx)):=o9++[akR (λs=>afh (.row 0 11) (([]:List Nd)++Nq.kids) y15.kids (o:=.lost) s (by have:=Fe IN;omega) ams)];refine Ag (λhv=>?_) λhv=>?_;subst hv;refine Ag (λJb=>?_) λJb=>?_;refine Aq λy17 aj1=>?_;rintro⟨⟩;exact rT (iU++[pb Jb,GW (args:=[.agg (CT n8),.agg [.zi 1,.zs ByteArray.empty,.zs ByteArray.empty,.zi 0,.zi 0,.zi 0,.zi 0,.zi 0,.sl .full 0 [],.sl (.row 0 11) ((([]:List Nd)++Nq.kids).length) (BH (([]:List Nd)++Nq.kids)),.zi 0]]) (.r (.g (.r (.r (.r (.r (.r (.r (.r (.r (.z (.s rfl (.r .nil))))))))))) .nil)) (KO aj1)]);rintro⟨⟩;exact rT (iU++[pb Jb]);subst hv;rintro⟨⟩;exact rT iU;let qF:List (PC P (G mx)):=o9++[QC (sO (.row 0 11) (([]:List Nd)++Nq.kids) y15.kids (o:=.lost) (by have:=U9 IN;omega) ams)];refine Ag (λhv=>?_) λhv=>?_;subst hv;refine Ag (λKx=>?_) λKx=>?_;refine Aq λy18 abQ=>?_;rintro⟨⟩;exact rT (qF++[pb Kx,GW (args:=[.agg (CT n8),.agg [.zi 1,.zs ByteArray.empty,.zs ByteArray.empty,.zi 0,.zi 0,.zi 0,.zi 0,.zi 0,.sl .full 0 [],.sl (.row 0 11) (((([]:List Nd)++Nq.kids)++y15.kids).length) (BH ((([]:List Nd)++Nq.kids)++y15.kids)),.zi 0]]) (.r (.g (.r (.r (.r (.r (.r (.r (.r (.r (.z (.s rfl (.r .nil))))))))))) .nil)) (KO abQ)]);rintro⟨⟩;exact rT (qF++[pb Kx]);subst hv;rintro⟨⟩;exact rT qF;subst hv;rintro⟨⟩;exact rT o4;subst hv;rintro⟨⟩;exact rT o3;subst hv;rintro⟨⟩;exact rT o1
end Mo
end Go.Proofs.YtpbkhogolfegfaaGreatDoor
namespace Go.Proofs.YtpbkhogolfegfaaGreatDoor
open AI Go
namespace Mo
set_option maxRecDepth 100000
set_option maxHeartbeats 4000000
variable {mx:Int}
def B4:Code:=A0 Tryz.f4
def b4:Tryz.f4.body=some B4:=by kernel_rfl
def B6:Code:=A0 Tryz.f6
def b6:Tryz.f6.body=some B6:=by kernel_rfl
def B9:Code:=A0 Tryz.f9
def b9:Tryz.f9.body=some B9:=by kernel_rfl
end Mo
end Go.Proofs.YtpbkhogolfegfaaGreatDoor

namespace Go.Proofs.YtpbkhogolfegfaaGreatDoor
open AI Go
namespace Mo
set_option maxRecDepth 100000
set_option maxHeartbeats 4000000
def wG(s:ByteArray):Prop:=s.data.toList.length=3/\∀c∈s.data.toList,65<=c.toNat/\c.toNat<=90
def VI(s:ByteArray):Prop:=s=Hi\/s=EK\/s=JY\/wG s
def vJ(c:UInt8):Prop:=(97<=c.toNat/\c.toNat<=122)\/(48<=c.toNat/\c.toNat<=57)\/c.toNat=95
def tE:List ByteArray:=[TI,Pe,Io,aa5,uC,sL,toS,V9,dM,Tl,QZ,Hi,EK,JY,afT,TH,Mx,PG,TN,kZ,P8,Vq,jI,ZK,T6,eA,LY,eO,Rf,VT,K3,FY,Rz]
def RV(s:ByteArray):Prop:=(1<=s.data.toList.length/\s.data.toList.length<=16)/\(∃b,s.data.toList[0]?=some b/\97<=b.toNat/\b.toNat<=122)/\s∉tE/\∀c∈s.data.toList,vJ c
def Zh{n:Nd}(h:K4 n):n.CF.ps.length<=9223372036854775807/\n.kids.length<=9223372036854775807/\∀k∈n.kids,K4 k:=by
 obtain⟨a,b,c⟩:=(Qs n).1 h;exact⟨a.1,b,c⟩
def ach{α:Type}{l:List α}{P:α->Prop}:(∀(i:Nat) (y:α),l[i]?=some y->P y)↔∀y∈l,P y :=
 ⟨λh y hy=>(List.getElem?_of_mem hy).elim λi hi=>h i y hi,λh i y hi=>h y (List.mem_of_getElem? hi)⟩
def abY(s:ByteArray):Iu s=some (mb (s∈tE)):=by
 rw[Iu];simp only[SA,Mf,kR,akz];refine smb ?_;simp only[tE,List.mem_cons,List.not_mem_nil,or_false]
def aiG(s:ByteArray):s=ByteArray.empty↔s.data.toList.length=0:=by
 constructor;intro h;rw[h];rfl;intro h;apply ByteArray.ext;apply Array.ext';rw[List.eq_nil_of_length_eq_zero h];rfl
def sN(s:ByteArray):Ei s=some (mb (RV s)):=by
 rw[Ei];simp only[SA,On,Mf,abY,Option.bind_some];unfold RV;by_cases h0:s=ByteArray.empty;rw[Cy h0];exact hJ λh=>by have:=(aiG s).1 h0;omega
 have h1:s.data.toList.length≠0:=λh=>h0 ((aiG s).2 h);rw[CE h0];by_cases h2:16 < ((s.data.toList.length:Nat):Int);rw[Cy h2];exact hJ λh=>by omega
 rw[CE h2];obtain⟨b,hb⟩:∃b,s.data.toList[0]?=some b:=⟨_,List.getElem?_eq_getElem (by omega)⟩
 rw[hb,fT (v:=false) (P:=λ_ y=>vJ y) (by omega) (λi y _=>by
   simp only[IQ,On,LC,Mf,amO,akq,afL,akp,afM,aqA,aqz];congr 2;unfold vJ;apply propext;omega)]
 simp only[Option.bind_some,kR,aqC,ach];refine smb ?_;constructor;rintro⟨h3,h4,h5,h6⟩;exact⟨by omega,⟨b,rfl,by omega⟩,h5,h6⟩;rintro⟨h3,⟨c,hc,h4⟩,h5,h6⟩;cases hc;exact⟨by omega,by omega,h5,h6⟩
def akP(s:ByteArray):It s=some (mb (wG s)):=by
 rw[It,LC,Mf];unfold wG;by_cases h:((s.data.toList.length:Nat):Int)=3
 rw[Cy h,fT (v:=false) (P:=λ_ y=>65<=y.toNat/\y.toNat<=90) (by omega) (λi y _=>by
   simp only[Jt,On,Mf,afL,afM];congr 2;apply propext;omega),kR,ach]
 exact smb ⟨λh2=>⟨by omega,h2⟩,λh2=>h2.2⟩;rw[CE h];exact hJ λh2=>h (by omega)
def uA(s:ByteArray):EU s=some (mb (VI s)):=by
 rw[EU];simp only[SA,Mf,akP,Option.bind_some,akz];rfl
def PX(n:Int):Prop:=1<=n/\n<=1000000
def Vv(n:Int):DY n=some (mb (PX n)):=by
 rw[DY];simp only[Re,Mf,kR,aky];rfl
def aaI(n:Int):Prop:=0<=n/\n<=36524
def eR(s:ByteArray):Prop:=s=LY\/s=eO\/s=Rf\/s=VT
def acz(s:ByteArray):Gr s=some (mb (eR s)):=by
 rw[Gr];simp only[SA,Mf,kR,akz];rfl
def acB(a b:List Pc)(ha:a.length<=9223372036854775807):Ly a b=some (mb (a=b)):=by
 rw[Ly,LC,Mf];by_cases h:((a.length:Nat):Int)=((b.length:Nat):Int)
 rw[Cy h,fT (v:=false) (P:=λi y=>b[i]?=some y) ha (λi y hy=>by
   have hi:i < a.length:=(List.getElem?_eq_some_iff.1 hy).1;have hb:b[i]?=some b[i]:=List.getElem?_eq_getElem (by omega);simp only[Mw];rw[hb];simp only[Option.bind_some]
   have hs:PZ y b[i]=mb (b[i]?=some y):=by
     rw[Bool.eq_iff_iff,C8,hb];unfold PZ;simp only[Bool.and_eq_true,Od,beq_iff_eq,Option.some.injEq];generalize b[i]=z;cases y;cases z;simp only[Pc.mk.injEq];grind
   rw[hs,Mf,amO,hb]),kR]
 refine smb ⟨λh2=>?_,λh2 i y hy=>by rw[<- h2];exact hy⟩;apply List.ext_getElem?;intro i;by_cases hi:i < a.length;rw[List.getElem?_eq_getElem hi,h2 i _ (List.getElem?_eq_getElem hi)];rw[List.getElem?_eq_none (by omega),List.getElem?_eq_none (by omega)];rw[CE h];exact hJ λh2=>h (by rw[h2])
def Gw(n f:Nd):Prop:=n.name=f.name/\n.unit=f.unit/\n.n=f.n/\n.fr=f.fr/\n.to=f.to/\n.known=f.known/\n.CF.den=f.CF.den/\n.CF.ps=f.CF.ps
def Yo(n f:Nd)(h:n.CF.ps.length<=9223372036854775807):B0 n f=some (mb (Gw n f)):=by
 rw[B0,acB _ _ h];simp only[SA,LC,Mf,Option.bind_some,aky];rfl
end Mo
end Go.Proofs.YtpbkhogolfegfaaGreatDoor
namespace Go.Proofs.YtpbkhogolfegfaaGreatDoor
open AI Go
namespace Mo
set_option maxRecDepth 100000
set_option maxHeartbeats 4000000
def Zd{p:Prop}(h:¬p):mb p=false:=by rw[W6];exact h
def Out(r:Option (Bool×Int))(P:Prop)(t:Int):Prop:=∃z,r=some (mb P,z)/\(P->z=t)
def Out.congr{r:Option (Bool×Int)}{P Q:Prop}{t u:Int}(h:Out r P t)(hp:P↔Q)(ht:Q->t=u):Out r Q u:=by
 obtain⟨z,h1,h2⟩:=h;exact⟨z,by rw[h1,MU hp],λq=>(h2 (hp.2 q)).trans (ht q)⟩
def Ky{Q:Prop}{z u:Int}(h:¬Q):Out (some (false,z)) Q u:=⟨z,by rw[Zd h],λq=>absurd q h⟩
def Vt{P Q:Prop}{u:Int}(h:P↔Q):Out (some (mb P,u)) Q u:=⟨u,by rw[MU h],λ_=>rfl⟩
def Ij{p Q:Prop}{A:Option (Bool×Int)}{z u:Int}(h:p->Out A Q u)(hq:Q->p):Out (KF p A (some (false,z))) Q u:=by
 by_cases hp:p;rw[Cy hp];exact h hp;rw[CE hp];exact Ky λq=>hp (hq q)
def lA{p Q:Prop}{A:Option (Bool×Int)}{z u:Int}(h:¬p->Out A Q u)(hq:Q->¬p):Out (KF p (some (false,z)) A) Q u:=by
 by_cases hp:p;rw[Cy hp];exact Ky λq=>hq q hp;rw[CE hp];exact h hp
mutual
def DG:Nd->Nat
 | ⟨_,_,_,_,_,_,_,_,kids,_⟩=>1+Gk kids
def Gk:List Nd->Nat
 | []=>0
 | k::ks=>DG k+Gk ks
end
mutual
def Nh:Nd->Nat
 | ⟨_,_,_,_,_,_,_,_,kids,_⟩=>1+UK kids
def UK:List Nd->Nat
 | []=>0
 | k::ks=>max (Nh k) (UK ks)
end
def E6(n:Nd):DG n=1+Gk n.kids:=by cases n;rw[DG]
def Ob(n:Nd):Nh n=1+UK n.kids:=by cases n;rw[Nh]
def Yz{l:List Nd}{m:Nat}:UK l<=m↔∀k∈l,Nh k<=m:=by
 induction l with
 | nil=>simp[UK]
 | cons a l ih=>simp only[UK,Nat.max_le,ih,List.mem_cons,forall_eq_or_imp]
def LW{l:List Nd}{k:Nd}(h:k∈l):DG k<=Gk l:=by
 induction l with
 | nil=>cases h
 | cons a l ih =>
   rw[Gk];rcases List.mem_cons.1 h with rfl | h
   omega;have:=ih h;omega
def MJ(l:List Nd):l.length<=Gk l:=by
 induction l with
 | nil=>simp[Gk]
 | cons a l ih=>rw[Gk,E6];simp only[List.length_cons];omega
def Ti{n k:Nd}(h:k∈n.kids):DG k < DG n:=by rw[E6 n];have:=LW h;omega
def Sk{g:Ck->Nd->Int->Option (Bool×Int)}{p:Nd->Prop}{d:Int}:∀{l:List Nd} {i:Nat} {c:Int},0<=c->c<=2000->(∀k∈l,∀c:Int,0<=c->c<=2000->Out (g ⟨c⟩ k d) (p k/\c+DG k<=2000/\d+Nh k<=41) (c+DG k)) ->
   Out ((CO (δ:=Int) (ρ:=Bool×Int) (λ_ y (x:Int)=>(g ⟨x⟩ y d).bind λ(Ep,Bj)=>cond Ep (some (.nx Bj)) (some (.rt (false,Bj)))) (λx=>x) l i c).bind (Ma (λ(w:Int)=>some (true,w)) (λv=>some v)))
     ((∀k∈l,p k/\d+Nh k<=41)/\c+Gk l<=2000) (c+Gk l)
 | [],i,c,h0,h1,_=>⟨c,by rw[C8.2 ⟨λk hk=>(by cases hk),by simp only[Gk];omega⟩];rfl,λ_=>by simp[Gk]⟩
 | y::l,i,c,h0,h1,hg=>by
   obtain⟨z,hz,h2⟩:=hg y (by simp) c h0 h1;rw[CO,hz];simp only[Option.bind_some];by_cases hp:p y/\c+DG y<=2000/\d+Nh y<=41;rw[C8.2 hp,h2 hp];show Out ((CO _ _ l (i+1) (c+DG y)).bind _) _ _;refine(Sk (l:=l) (i:=i+1) (c:=c+DG y) (by omega) hp.2.1 λk hk=>hg k (by simp[hk])).congr ?_ ?_;rw[Gk];simp only[List.mem_cons,forall_eq_or_imp,Int.natCast_add];constructor;rintro⟨a,b⟩;exact⟨⟨⟨hp.1,hp.2.2⟩,a⟩,by omega⟩;rintro⟨⟨_,a⟩,b⟩;exact⟨a,by omega⟩;intro _;rw[Gk];omega;rw[Zd hp];refine⟨z,?_,λq=>?_⟩;show some (false,z)=_;rw[Zd];rintro⟨a,b⟩;rw[Gk] at b;have:=a y (by simp);exact hp ⟨this.1,by omega,this.2⟩;exfalso;obtain⟨a,b⟩:=q;rw[Gk] at b;have:=a y (by simp);exact hp ⟨this.1,by omega,this.2⟩
def Zf(n:Nd){c d:Int}(h0:0<=c)(h1:c<=2000):Out (CH ⟨c⟩ n d) (c+1<=2000/\d<=40) (c+1):=by
 rw[CH,CM (by show _<=c+1/\c+1<=_;omega)];simp only[Re,Mf,Option.bind_some];by_cases h:c+1<=2000;rw[Cy h];exact Vt ⟨λa=>⟨h,a⟩,λa=>a.2⟩;rw[CE h];exact Ky λa=>h a.1
def gH(f:Fn)(i:Nat)(p:Pc):Prop:=p.fr<=999999999999/\(∀q,0 < i->f.ps[i - 1]?=some q->q.fr < p.fr)/\YB p.AH f.den=some 0/\p.AH<=BQ 999999999999 f.den/\BQ (-999999999999) f.den<=p.AH/\p.Nb<=1000000/\-1000000<=p.Nb
def mO(f:Fn):Prop:=PX f.den/\(1<=f.ps.length/\f.ps.length<=64)/\(∀x,f.ps[0]?=some x->x.fr=0)/\∀(i:Nat) p,f.ps[i]?=some p->gH f i p
def anq(f:Fn)(hl:f.ps.length<=9223372036854775807):GS f=some (mb (mO f)):=by
 rw[GS,Vv];simp only[Option.bind_some,Mf,On,LC];unfold mO;by_cases hr:PX f.den;rotate_left;rw[CE hr];exact hJ λh=>hr h.1;rw[Cy hr];by_cases h1:((f.ps.length:Nat):Int) < 1;rw[Cy h1];exact hJ λh=>by omega
 rw[CE h1];by_cases h2:64 < ((f.ps.length:Nat):Int);rw[Cy h2];exact hJ λh=>by omega
 rw[CE h2];have wZ:f.ps[0]?=some f.ps[0]:=List.getElem?_eq_getElem (by omega);rw[wZ];simp only[Option.bind_some];by_cases h3:f.ps[0].fr=0;rotate_left;rw[CE h3];exact hJ λh=>h3 (h.2.2.1 _ rfl);rw[Cy h3];have apP:f.den≠0:=by unfold PX at hr;omega
 rw[fT (v:=false) (P:=λi y=>gH f i y) hl (λi y hy=>by
   have hi:i < f.ps.length:=(List.getElem?_eq_some_iff.1 hy).1;simp only[Ik,On,Mf,Re,LC];have hd:∃z,YB y.AH f.den=some z:=by unfold YB;rw[if_neg apP];exact⟨_,rfl⟩
   obtain⟨z,hz⟩:=hd;unfold gH;rw[hz];by_cases h0:(0:Int) < ((i:Nat):Int);rw[Cy h0,KZ (by omega)];have hq:f.ps[i - 1]?=some f.ps[i - 1]:=List.getElem?_eq_getElem (by omega)
   have hg:HU f.ps (((i:Nat):Int) - 1)=some f.ps[i - 1]:=by
     unfold HU;rw[show(((i:Nat):Int) - 1).toNat=i - 1 by omega];simp only[hq]
     first | rfl | (rw[if_pos (by omega)])
   rw[hg,hq];simp only[Option.bind_some,afL,afM,akq,akp];congr 2;apply propext;simp only[Option.some.injEq,forall_eq'];grind;rw[CE h0];simp only[Option.bind_some,afL,afM,akq,akp];congr 2;apply propext;simp only[Option.some.injEq];have:¬0 < i:=by omega
   grind),kR]
 refine smb ⟨λh=>⟨hr,by omega,λx hx=>by cases hx;exact h3,h⟩,λh=>h.2.2.2⟩
def Zi(s:ByteArray):Prop:=s=EH\/s=kZ\/s=P8\/s=GX\/s=H7\/s=JL\/s=Hh\/s=OG\/s=Lu\/s=PW\/s=jI
def Rh(k:Nd):Prop:=k.kind=11/\k.unit=EK/\PX k.n
def Tv(n:Nd):Prop :=
 (n.kind=11/\VI n.unit/\0<=n.n/\n.n<=999999999999/\(n.unit=Hi->n.n<=1)/\n.kids.length=0/\Gw n ⟨0,ByteArray.empty,n.unit,n.n,0,0,0,⟨0,[]⟩,[],0⟩) \/
 (n.kind=12/\RV n.name/\n.kids.length=0/\Gw n ⟨0,n.name,ByteArray.empty,0,0,0,0,⟨0,[]⟩,[],0⟩) \/
 (n.kind=13/\PX n.n/\n.kids.length=0/\Gw n ⟨0,ByteArray.empty,ByteArray.empty,n.n,0,0,0,⟨0,[]⟩,[],0⟩) \/
 (n.kind=14/\eR n.name/\n.kids.length=0/\Gw n ⟨0,n.name,ByteArray.empty,0,0,0,0,⟨0,[]⟩,[],0⟩) \/
 (n.kind=15/\n.kids.length=1/\Gw n ⟨0,ByteArray.empty,ByteArray.empty,0,0,0,0,⟨0,[]⟩,[],0⟩) \/
 (n.kind=16/\Gw n ⟨0,n.name,ByteArray.empty,0,0,0,0,⟨0,[]⟩,[],0⟩/\n.kids.length=2/\Zi n.name/\(n.name=EH->∀k,n.kids[1]?=some k->Rh k)) \/
 (n.kind=17/\(n.name=K3\/n.name=FY)/\Gw n ⟨0,n.name,ByteArray.empty,0,0,0,0,⟨0,[]⟩,[],0⟩/\2<=n.kids.length) \/
 (n.kind=18/\Gw n ⟨0,ByteArray.empty,ByteArray.empty,0,0,0,0,n.CF,[],0⟩/\mO n.CF/\n.kids.length=1)
mutual
def Kd:Nd->Prop
 | ⟨kind,name,unit,n,fr,to,known,CF,kids,AH⟩=>Tv ⟨kind,name,unit,n,fr,to,known,CF,kids,AH⟩/\aa0 kids
def aa0:List Nd->Prop
 | []=>True
 | k::ks=>Kd k/\aa0 ks
end
def aa1{l:List Nd}:aa0 l↔∀k∈l,Kd k:=by
 induction l with
 | nil=>simp[aa0]
 | cons k l ih=>simp[aa0,ih]
def Jo(n:Nd):Kd n↔Tv n/\∀k∈n.kids,Kd k:=by cases n;rw[Kd,aa1]
end Mo
end Go.Proofs.YtpbkhogolfegfaaGreatDoor
namespace Go.Proofs.YtpbkhogolfegfaaGreatDoor
open AI Go
namespace Mo
set_option maxRecDepth 100000
set_option maxHeartbeats 4000000
def MX{r:Option (Bool×Int)}{P Q:Prop}{t u:Int}{f:Bool×Int->Option (Bool×Int)}(h:Out r P t)(hT:P->Out (f (true,t)) Q u)(hF:∀z,¬P->Out (f (false,z)) Q u):Out (r.bind f) Q u:=by
 obtain⟨z,rfl,h2⟩:=h;by_cases hp:P;rw[C8.2 hp,h2 hp];exact hT hp;rw[Zd hp];exact hF z hp
def akO{Q:Prop}{t u:Int}(hq:Q)(h:t=u):Out (some (true,t)) Q u:=⟨t,by rw[C8.2 hq],λ_=>h⟩
def MW{r:Option (Bool×Int)}{P Q:Prop}{t u:Int}(h:Out r P t)(hp:P↔Q)(ht:P->t=u):Out (r.bind λ(a,b)=>some (a,b)) Q u :=
 MX h (λp=>akO (hp.1 p) (ht p)) λ_ p=>Ky λq=>p (hp.2 q)
section
variable {p q r:Prop} {z:Int}
def gG:KF p (some (mb q,z)) (some (false,z))=some (mb (p/\q),z):=by
 by_cases h:p;rw[Cy h];congr 2;exact MU ⟨λa=>⟨h,a⟩,λa=>a.2⟩;rw[CE h,Zd];exact λa=>h a.1
def qL:KF p (some (false,z)) (some (mb q,z))=some (mb (¬p/\q),z):=by
 by_cases h:p;rw[Cy h,Zd];exact λa=>a.1 h;rw[CE h];congr 2;exact MU ⟨λa=>⟨h,a⟩,λa=>a.2⟩
def xO:KF p (some (mb q,z)) (some (mb r,z))=some (mb ((p->q)/\(¬p->r)),z):=by
 by_cases h:p;rw[Cy h];congr 2;exact MU ⟨λa=>⟨λ_=>a,λb=>absurd h b⟩,λa=>a.1 h⟩;rw[CE h];congr 2;exact MU ⟨λa=>⟨λb=>absurd b h,λ_=>a⟩,λa=>a.2 h⟩
end
section
variable {n:Nd}
def apt(h:n.kind=11):Tv n↔VI n.unit/\0<=n.n/\n.n<=999999999999/\(n.unit=Hi->n.n<=1)/\n.kids.length=0/\Gw n ⟨0,ByteArray.empty,n.unit,n.n,0,0,0,⟨0,[]⟩,[],0⟩:=by unfold Tv;simp[h]
def apu(h:n.kind=12):Tv n↔RV n.name/\n.kids.length=0/\Gw n ⟨0,n.name,ByteArray.empty,0,0,0,0,⟨0,[]⟩,[],0⟩:=by unfold Tv;simp[h]
def apv(h:n.kind=13):Tv n↔PX n.n/\n.kids.length=0/\Gw n ⟨0,ByteArray.empty,ByteArray.empty,n.n,0,0,0,⟨0,[]⟩,[],0⟩:=by unfold Tv;simp[h]
def apw(h:n.kind=14):Tv n↔eR n.name/\n.kids.length=0/\Gw n ⟨0,n.name,ByteArray.empty,0,0,0,0,⟨0,[]⟩,[],0⟩:=by unfold Tv;simp[h]
def apx(h:n.kind=15):Tv n↔n.kids.length=1/\Gw n ⟨0,ByteArray.empty,ByteArray.empty,0,0,0,0,⟨0,[]⟩,[],0⟩:=by unfold Tv;simp[h]
def apy(h:n.kind=16):Tv n↔Gw n ⟨0,n.name,ByteArray.empty,0,0,0,0,⟨0,[]⟩,[],0⟩/\n.kids.length=2/\Zi n.name/\(n.name=EH->∀k,n.kids[1]?=some k->Rh k):=by unfold Tv;simp[h]
def apz(h:n.kind=17):Tv n↔(n.name=K3\/n.name=FY)/\Gw n ⟨0,n.name,ByteArray.empty,0,0,0,0,⟨0,[]⟩,[],0⟩/\2<=n.kids.length:=by unfold Tv;simp[h]
def apA(h:n.kind=18):Tv n↔Gw n ⟨0,ByteArray.empty,ByteArray.empty,0,0,0,0,n.CF,[],0⟩/\mO n.CF/\n.kids.length=1:=by unfold Tv;simp[h]
def afa(h:Tv n):n.kind=11\/n.kind=12\/n.kind=13\/n.kind=14\/n.kind=15\/n.kind=16\/n.kind=17\/n.kind=18:=by
 unfold Tv at h;rcases h with h | h | h | h | h | h | h | h
 all_goals
   have:=h.1;simp[this]
end
def Pb(l:List Nd)(c d:Int):Prop:=(∀k∈l,Kd k/\d+Nh k<=41)/\c+Gk l<=2000
def aiq{l:List Nd}{c d:Int}(h:l.length=0)(hc:c<=2000):Pb l c d/\c=c+Gk l:=by
 obtain rfl:=List.eq_nil_of_length_eq_zero h;exact⟨⟨(λk hk=>(by cases hk)),(by simp only[Gk];omega)⟩,(by simp[Gk])⟩
def air{x:Nd}{c d:Int}:Pb [x] c d↔Kd x/\c+DG x<=2000/\d+Nh x<=41:=by
 unfold Pb;simp only[List.mem_singleton,forall_eq,Gk,Nat.add_zero];exact⟨λa=>⟨a.1.1,a.2,a.1.2⟩,λa=>⟨⟨a.1,a.2.2⟩,a.2.1⟩⟩
def kM{x y:Nd}{c d:Int}:Pb [x,y] c d↔(Kd x/\c+DG x<=2000/\d+Nh x<=41)/\Kd y/\c+DG x+DG y<=2000/\d+Nh y<=41:=by
 unfold Pb;simp only[List.mem_cons,List.not_mem_nil,or_false,forall_eq_or_imp,forall_eq,Gk,Nat.add_zero,Int.natCast_add];constructor;rintro⟨⟨⟨a,b⟩,c',d'⟩,e⟩;exact⟨⟨a,by omega,b⟩,c',by omega,d'⟩;rintro⟨⟨a,b,c'⟩,d',e,f⟩;exact⟨⟨⟨a,c'⟩,d',f⟩,by omega⟩
abbrev ExS(g:Ck->Nd->Int->Option (Bool×Int))(n:Nd):Prop:=∀(c d:Int),0<=c->c<=2000->0<=d->d<=41->Out (g ⟨c⟩ n d) (Kd n/\c+DG n<=2000/\d+Nh n<=41) (c+DG n)
def bZ{g:Ck->Nd->Int->Option (Bool×Int)}{b a:Ck->Nd->Int->Option (Bool×Int)}{l:Ck->List Nd->Int->Option (Bool×Int)}{n:Nd}(h:ExS g n){c d:Int}(h0:0<=c)(h1:c<=2000)(h2:0<=d)(h3:d<=41) :
   Out (Dd g b a l ⟨c⟩ n d) ((Kd n/\Rh n)/\c+DG n<=2000/\d+Nh n<=41) (c+DG n):=by
 rw[Dd];simp only[LC,SA,Mf,Vv,Option.bind_some];refine MX (h c d h0 h1 h2 h3) (λhp=>?_) λz hp=>Ky λq=>hp ⟨q.1.1,q.2⟩;show Out (KF (n.kind=11) (KF (n.unit=EK) (some (mb (PX n.n),c+DG n)) (some (false,c+DG n))) (some (false,c+DG n))) _ _;rw[gG,gG];exact Vt ⟨λa=>⟨⟨hp.1,a⟩,hp.2⟩,λa=>a.1.2⟩
def vZ{g n':Ck->Nd->Int->Option (Bool×Int)}{b:Ck->Nd->Int->Option (Bool×Int)}{l:Ck->List Nd->Int->Option (Bool×Int)}{n:Nd}(hg:∀k∈n.kids,ExS g k)
   (hn:∀k∈n.kids,∀c d:Int,0<=c->c<=2000->0<=d->d<=41->Out (n' ⟨c⟩ k d) ((Kd k/\Rh k)/\c+DG k<=2000/\d+Nh k<=41) (c+DG k)) {c d:Int} (h0:0<=c) (h1:c<=2000) (h2:0<=d) (h3:d<=40) :
   Out (Db g b n' l ⟨c⟩ n d) ((n.kids.length=2/\Zi n.name/\(n.name=EH->∀k,n.kids[1]?=some k->Rh k))/\Pb n.kids c (d+1)) (c+Gk n.kids):=by
 rw[Db,CM (by omega)];simp only[LC,SA,Mf];generalize hl:n.kids=ks at *;by_cases hlen:((ks.length:Nat):Int)=2;rotate_left;rw[CE hlen];exact Ky λq=>hlen (by have:=q.1.1;omega);rw[Cy hlen]
 match ks,hlen with
 | [x,y],_ =>
 simp only[List.getElem?_cons_zero,List.getElem?_cons_succ,Option.bind_some];refine MX (hg x (by simp) c (d+1) h0 h1 (by omega) (by omega)) (λhx=>?_) λz hx=>Ky λq=>hx (kM.1 q.2).1;dsimp only;rw[cond_true];have Qi:Gk [x,y]=DG x+DG y:=by simp[Gk]
 have hy:=λhc=>hg y (by simp) (c+DG x) (d+1) (by omega) hc (by omega) (by omega);have hn':=λhc=>hn y (by simp) (c+DG x) (d+1) (by omega) hc (by omega) (by omega);have hy:=hy hx.2.1;have hn':=hn' hx.2.1;by_cases hs:n.name=EH;rw[Cy hs];refine MW hn' ⟨λa=>⟨⟨rfl,.inl hs,λ_ k hk=>by cases hk;exact a.1.2⟩,kM.2 ⟨hx,a.1.1,a.2⟩⟩,λa=>?_⟩ (λa=>by rw[Qi];omega);have:=(kM.1 a.2).2;exact⟨⟨this.1,a.1.2.2 hs y rfl⟩,this.2⟩;rw[CE hs]
 have fin:∀kF:Zi n.name,Out ((g ⟨c+DG x⟩ y (d+1)).bind λ(a,b)=>some (a,b)) ((([x,y]:List Nd).length=2/\Zi n.name/\(n.name=EH->∀k,some y=some k->Rh k))/\Pb [x,y] c (d+1)) (c+Gk [x,y]):=λkF =>
   MW hy ⟨λa=>⟨⟨rfl,kF,λe=>absurd e hs⟩,kM.2 ⟨hx,a⟩⟩,λa=>(kM.1 a.2).2⟩ (λa=>by rw[Qi];omega)
 have step:∀{s:ByteArray} {A:Option (Bool×Int)},(n.name=s->Zi n.name)->(n.name≠s->Out A ((([x,y]:List Nd).length=2/\Zi n.name/\(n.name=EH->∀k,some y=some k->Rh k))/\Pb [x,y] c (d+1)) (c+Gk [x,y])) ->
     Out (KF (n.name=s) ((g ⟨c+DG x⟩ y (d+1)).bind λ(a,b)=>some (a,b)) A) ((([x,y]:List Nd).length=2/\Zi n.name/\(n.name=EH->∀k,some y=some k->Rh k))/\Pb [x,y] c (d+1)) (c+Gk [x,y]):=by
   intro s A h4 h5;by_cases h:n.name=s;rw[Cy h];exact fin (h4 h);rw[CE h];exact h5 h
 refine step (λe=>by unfold Zi;simp[e]) λe1=>?_;refine step (λe=>by unfold Zi;simp[e]) λe2=>?_;refine step (λe=>by unfold Zi;simp[e]) λe3=>?_;refine step (λe=>by unfold Zi;simp[e]) λe4=>?_;refine step (λe=>by unfold Zi;simp[e]) λe5=>?_;refine step (λe=>by unfold Zi;simp[e]) λe6=>?_;refine step (λe=>by unfold Zi;simp[e]) λe7=>?_;refine step (λe=>by unfold Zi;simp[e]) λe8=>?_;refine step (λe=>by unfold Zi;simp[e]) λe9=>?_;refine step (λe=>by unfold Zi;simp[e]) λe10=>?_
 exact Ky λq=>by
   have:=q.1.2.1;unfold Zi at this;simp[hs,e1,e2,e3,e4,e5,e6,e7,e8,e9,e10] at this
def ab2{A L B T:Prop}{x:Int}:(A/\¬x < 0/\¬999999999999 < x/\(T->¬1 < x/\L/\B)/\(¬T->L/\B))↔A/\0<=x/\x<=999999999999/\(T->x<=1)/\L/\B:=by
 constructor;rintro⟨a,b,c,d,e⟩;by_cases t:T;exact⟨a,by omega,by omega,λ_=>by have:=(d t).1;omega,(d t).2⟩;exact⟨a,by omega,by omega,λh=>absurd h t,e t⟩;rintro⟨a,b,c,d,e⟩;exact⟨a,by omega,by omega,λt=>⟨by have:=d t;omega,e⟩,λ_=>e⟩
def aaY:∀(q:Nat) (n:Nd),K4 n->3*DG n<=q->ExS (AK q) n:=by
 intro q
 induction q using Nat.strongRecOn with
 | _ q ih =>
 intro n XK hq c d h0 h1 h2 h3;have Qi:=E6 n;obtain⟨q,rfl⟩:∃k,q=k+1:=⟨q - 1,by omega⟩;obtain⟨s6,hkl,iR⟩:=Zh XK;have hE:∀k∈n.kids,∀q',q<=q'+2->q' < q+1->ExS (AK q') k:=λk hk q' h4 h5=>ih q' h5 k (iR k hk) (by have:=LW hk;omega);rw[AK,El];refine MX (Zf n h0 h1) (λhp=>?_) λz hp=>Ky λa=>hp ⟨by omega,by have:=Ob n;omega⟩;dsimp only;rw[cond_true];refine Out.congr (P:=Tv n/\Pb n.kids (c+1) (d+1)) (t:=(c+1)+Gk n.kids) ?_ ?_ (λ_=>by omega);rotate_left;rw[Jo,Ob];unfold Pb;have hd:=@Yz n.kids;constructor;rintro⟨a,b,e⟩;refine⟨⟨a,λk hk=>(b k hk).1⟩,by omega,?_⟩;have:=(hd (m:=(40 - d).toNat)).2 λk hk=>by have:=(b k hk).2;omega
 omega;rintro⟨⟨a,b⟩,e,f⟩;refine⟨a,λk hk=>⟨b k hk,?_⟩,by omega⟩;have:=(hd (m:=UK n.kids)).1 (Nat.le_refl _) k hk;omega;have R6:=hp.1;have aF:=hp.2;rw[CM (a:=d) (b:=1) (by omega)];have e0:(((n.kids.length:Nat):Int)=0)=(n.kids.length=0):=propext (by omega);simp only[LC,Re,On,SA,Mf,uA,sN,Vv,acz,anq _ s6,Yo _ _ s6,Option.bind_some,e0];have YW:∀{B:Prop},(B↔Tv n)->(B->n.kids.length=0)->Out (some (mb B,c+1)) (Tv n/\Pb n.kids (c+1) (d+1)) (c+1+Gk n.kids):=λhB hk=>(Vt hB).congr ⟨λa=>⟨a,(aiq (hk (hB.2 a)) R6).1⟩,λa=>a.1⟩ λa=>(aiq (d:=d+1) (hk (hB.2 a.1)) R6).2
 have abH:∀{B:Prop},(Tv n↔B/\n.kids.length=1)->B->n.kids.length=1->Out ((n.kids[0]?).bind λx=>(AK q ⟨c+1⟩ x (d+1)).bind λ(a,b)=>some (a,b)) (Tv n/\Pb n.kids (c+1) (d+1)) (c+1+Gk n.kids):=by
   intro B hB hb hl;have Gs:=λk hk=>hE k hk q (by omega) (by omega);have hx:=hB.2 ⟨hb,hl⟩;generalize n.kids=ks at *
   match ks,hl with
   | [x],_ =>
   simp only[List.getElem?_cons_zero,Option.bind_some];refine MW (Gs x (by simp) (c+1) (d+1) (by omega) R6 (by omega) (by omega)) ⟨λa=>⟨hx,air.2 a⟩,λa=>air.1 a.2⟩ λ_=>?_;simp[Gk]
 by_cases k11:n.kind=11;rw[Cy k11];simp only[gG,qL,xO];refine YW ?_ ?_;rw[apt k11];exact ab2;intro h;exact(ab2.1 h).2.2.2.2.1;rw[CE k11];by_cases k12:n.kind=12;rw[Cy k12];simp only[gG,qL,xO];refine YW ?_ ?_;rw[apu k12];intro h;exact h.2.1;rw[CE k12];by_cases k13:n.kind=13;rw[Cy k13];simp only[gG,qL,xO];refine YW ?_ ?_;rw[apv k13];intro h;exact h.2.1;rw[CE k13];by_cases k14:n.kind=14;rw[Cy k14];simp only[gG,qL,xO];refine YW ?_ ?_;rw[apw k14];intro h;exact h.2.1;rw[CE k14];by_cases k15:n.kind=15;rw[Cy k15];have e:=apx k15;refine Ij (λhl=>Ij (λhb=>abH (e.trans And.comm) hb (by omega)) λa=>(e.1 a.1).2) λa=>?_;have:=(e.1 a.1).1;omega;rw[CE k15];by_cases k16:n.kind=16;rw[Cy k16];have e:=apy k16;refine Ij (λhb=>?_) λa=>(e.1 a.1).1;obtain⟨q,rfl⟩:∃k,q=k+1:=⟨q - 1,by omega⟩;rw[AY];refine MW (vZ (g:=AK q) (b:=AY q) (n':=AM q) (l:=AJ q) (λk hk=>hE k hk q (by omega) (by omega)) (λk hk c d a1 a2 a3 a4=>?_) (by omega) R6 h2 aF) ?_ λ_=>rfl;obtain⟨q,rfl⟩:∃k,q=k+1:=⟨q - 1,by have:=Ti hk;have:=E6 k;omega⟩;rw[AM];exact bZ (hE k hk q (by omega) (by omega)) a1 a2 a3 a4;rw[e];exact⟨λa=>⟨⟨hb,a.1⟩,a.2⟩,λa=>⟨a.1.2,a.2⟩⟩;rw[CE k16];by_cases k17:n.kind=17;rw[Cy k17];have e:=apz k17
 have HV:(n.name=K3\/n.name=FY)->Out (KF (Gw n ⟨0,n.name,ByteArray.empty,0,0,0,0,⟨0,[]⟩,[],0⟩) (KF (2<=((n.kids.length:Nat):Int)) ((AJ q ⟨c+1⟩ n.kids (d+1)).bind λ(a,b)=>some (a,b)) (some (false,c+1))) (some (false,c+1))) (Tv n/\Pb n.kids (c+1) (d+1)) (c+1+Gk n.kids):=by
   intro hn;refine Ij (λhb=>Ij (λhl=>?_) λa=>?_) λa=>(e.1 a.1).2.1;obtain⟨q,rfl⟩:∃k,q=k+1:=⟨q - 1,by have:=MJ n.kids;omega⟩;rw[AJ,Dp,PM hkl,List.drop_zero];dsimp only;refine MW (Sk (g:=AK q) (p:=Kd) (d:=d+1) (by omega) R6 λk hk c' b0 b1=>hE k hk q (by omega) (by omega) c' (d+1) b0 b1 (by omega) (by omega)) ?_ λ_=>rfl;rw[e];exact⟨λa=>⟨⟨hn,hb,by omega⟩,a⟩,λa=>a.2⟩;have:=(e.1 a.1).2.2;omega
 by_cases bN:n.name=K3;rw[Cy bN];exact HV (.inl bN);rw[CE bN];exact Ij (λhn2=>HV (.inr hn2)) λa=>(e.1 a.1).1.resolve_left bN;rw[CE k17];by_cases k18:n.kind=18;rw[Cy k18];have e:=apA k18;refine Ij (λhb=>Ij (λht=>Ij (λhl=>abH (B:=Gw n ⟨0,ByteArray.empty,ByteArray.empty,0,0,0,0,n.CF,[],0⟩/\mO n.CF) (e.trans (by rw[and_assoc])) ⟨hb,ht⟩ (by omega)) λa=>?_) λa=>(e.1 a.1).2.1) λa=>(e.1 a.1).1;have:=(e.1 a.1).2.2;omega;rw[CE k18];exact Ky λa=>by have:=afa a.1;omega
def Le{β:Type}(a b:Option β):Prop:=∀y,a=some y->b=some y
section
variable {α β γ δ ρ:Type}
def Le.refl(a:Option β):Le a a:=λ_ h=>h
def Pd{a a':Option α}{f g:α->Option β}(h:Le a a')(k:∀x,Le (f x) (g x)):Le (a.bind f) (a'.bind g):=by
 intro y hy;cases a with
 | none=>cases hy
 | some x=>rw[h x rfl];exact k x y hy
def tF{b:Bool}{x x' y y':Option β}(h:Le x x')(k:Le y y'):Le (cond b x y) (cond b x' y'):=by cases b;exact k;exact h
def akt{n:Nat}{x x':Option β}(h:Le x x'):Le (RT n x) (RT n x'):=by
 unfold RT;split;exact h;exact Le.refl _
def tG{body ahZ:Nat->α->γ->Option (Lp γ δ ρ)}{done:γ->δ}(h:∀i y x,Le (body i y x) (ahZ i y x)):∀(l:List α) (i:Nat) (x:γ),Le (CO body done l i x) (CO ahZ done l i x)
 | [],_,_=>Le.refl _
 | a::l,i,x=>by
   rw[CO,CO];refine Pd (h i a x) λz=>?_;cases z with
   | nx x'=>exact tG h l (i+1) x'
   | ex d=>exact Le.refl _
   | rt v=>exact Le.refl _
end
def eV:∀q:Nat,(∀c n d,Le (AK q c n d) (AK (q+1) c n d))/\(∀c n d,Le (AY q c n d) (AY (q+1) c n d))/\(∀c n d,Le (AM q c n d) (AM (q+1) c n d))/\(∀c n d,Le (AJ q c n d) (AJ (q+1) c n d))
 | 0=>⟨(λ_ _ _ _ h=>nomatch h),(λ_ _ _ _ h=>nomatch h),(λ_ _ _ _ h=>nomatch h),(λ_ _ _ _ h=>nomatch h)⟩
 | q+1=>by
   obtain⟨i1,i2,i3,i4⟩:=eV q;refine⟨λc n d=>?_,λc n d=>?_,λc n d=>?_,λc n d=>?_⟩
   . rw[AK,AK,El,El]
     repeat' first
       | exact Le.refl _
       | exact i1 _ _ _
       | exact i2 _ _ _
       | exact i4 _ _ _
       | refine tF ?_ ?_
       | refine Pd ?_ λ⟨_,_⟩=>?_
       | refine Pd ?_ λ_=>?_
   . rw[AY,AY,Db,Db]
     repeat' first
       | exact Le.refl _
       | exact i1 _ _ _
       | exact i3 _ _ _
       | refine tF ?_ ?_
       | refine Pd ?_ λ⟨_,_⟩=>?_
       | refine Pd ?_ λ_=>?_
   rw[AM,AM,Dd,Dd];exact Pd (i1 _ _ _) λ_=>Le.refl _;rw[AJ,AJ,Dp,Dp];refine Pd (akt (tG (λi y x=>?_) _ _ _)) λ_=>Le.refl _;rw[DX,DX];exact Pd (i1 _ _ _) λ_=>Le.refl _
def aaX{β:Type}{f:Nat->Option β}(h:∀q,Le (f q) (f (q+1))){q:Nat}{y:β}(hy:f q=some y):wL f=some y:=by
 refine T5 q λm hm=>?_
 induction m with
 | zero=>obtain rfl:q=0:=by omega
         exact hy
 | succ m ih =>
   rcases Nat.lt_or_ge m q with GM | N4
   obtain rfl:q=m+1:=by omega
   exact hy;exact h m y (ih N4)
def aaZ{n:Nd}(XK:K4 n):ExS G7 n:=by
 intro c d h0 h1 h2 h3;obtain⟨z,hz,hz2⟩:=aaY (3*DG n) n XK (Nat.le_refl _) c d h0 h1 h2 h3;exact⟨z,aaX (λq=>(eV q).1 _ _ _) hz,hz2⟩
def acq{n:Nd}(XK:K4 n){c d:Int}(h0:0<=c)(h1:c<=2000)(h2:0<=d)(h3:d<=41):Out (FZ ⟨c⟩ n d) ((Kd n/\Rh n)/\c+DG n<=2000/\d+Nh n<=41) (c+DG n):=by
 obtain⟨z,hz,hz2⟩:=bZ (g:=AK (3*DG n)) (b:=AY (3*DG n)) (a:=AM (3*DG n)) (l:=AJ (3*DG n)) (aaY (3*DG n) n XK (Nat.le_refl _)) h0 h1 h2 h3;exact⟨z,aaX (q:=3*DG n+1) (λq=>(eV q).2.2.1 _ _ _) (by rw[AM];exact hz),hz2⟩
end Mo
end Go.Proofs.YtpbkhogolfegfaaGreatDoor
namespace Go.Proofs.YtpbkhogolfegfaaGreatDoor
open AI Go
namespace Mo
set_option maxRecDepth 100000
set_option maxHeartbeats 4000000
abbrev z0:Nd:=⟨0,ByteArray.empty,ByteArray.empty,0,0,0,0,⟨0,[]⟩,[],0⟩
def akQ(n:Int):GN n=some (mb (aaI n)):=by
 rw[GN];simp only[Re,Mf,kR,aky];rfl
def RM(n:Nd):Prop:=n.kind=5/\(0<=n.n/\n.n<=1000000)/\n.kids.length=0/\aaI n.fr/\(n.fr < n.to/\n.to<=36525)/\aaI n.known/\Gw n ⟨0,ByteArray.empty,ByteArray.empty,n.n,n.fr,n.to,n.known,⟨0,[]⟩,[],0⟩
def KT(n:Nd):Prop:=Gw n z0/\(n.kind=7->0 < n.kids.length/\∀k∈n.kids,Kd k/\Rh k)/\(n.kind≠7->n.kids.length=1/\∀k∈n.kids,Kd k)
def tH{n:Nd}(h:n.kids.length=0):DG n=1/\Nh n=1:=by
 have:=List.eq_nil_of_length_eq_zero h;rw[E6,Ob,this];exact⟨rfl,rfl⟩
def ajO{n:Nd}(XK:K4 n){c d:Int}(h0:0<=c)(h1:c<=2000):Out (Fx ⟨c⟩ n d) (RM n/\c+DG n<=2000/\d+Nh n<=41) (c+DG n):=by
 obtain⟨s6,hkl,iR⟩:=Zh XK;have Qi:=E6 n;have hdp:=Ob n;rw[Fx];refine MX (Zf n h0 h1) (λhp=>?_) λz hp=>Ky λa=>hp ⟨by omega,by omega⟩;dsimp only;rw[cond_true];simp only[LC,Re,On,Mf,akQ,Yo _ _ s6,Option.bind_some,gG,qL]
 have key:(n.kind=5/\¬n.n < 0/\¬1000000 < n.n/\¬(0:Int) < ((n.kids.length:Nat):Int)/\aaI n.fr/\¬n.to<=n.fr/\¬36525 < n.to/\aaI n.known/\Gw n ⟨0,ByteArray.empty,ByteArray.empty,n.n,n.fr,n.to,n.known,⟨0,[]⟩,[],0⟩)↔RM n:=by
   unfold RM;constructor;rintro⟨a,b,c',e,f,g,h,i,j⟩;exact⟨a,⟨by omega,by omega⟩,by omega,f,⟨by omega,by omega⟩,i,j⟩;rintro⟨a,b,c',f,g,i,j⟩;exact⟨a,by omega,by omega,by omega,f,by omega,by omega,i,j⟩
 refine(Vt key).congr ⟨λa=>⟨a,?_⟩,λa=>a.1⟩ λa=>?_;have:=tH a.2.2.1;omega;have:=tH a.1.2.2.1;omega
def aaD{n:Nd}(XK:K4 n){c d:Int}(h0:0<=c)(h1:c<=2000)(h2:0<=d):Out (DO ⟨c⟩ n d) (KT n/\c+DG n<=2000/\d+Nh n<=41) (c+DG n):=by
 obtain⟨s6,hkl,iR⟩:=Zh XK;have Qi:=E6 n;have hdp:=Ob n;have hd:=@Yz n.kids;rw[DO];refine MX (Zf n h0 h1) (λhp=>?_) λz hp=>Ky λa=>hp ⟨by omega,by omega⟩;dsimp only;rw[cond_true,CM (a:=d) (b:=1) (by omega)];simp only[LC,On,Mf,Yo _ _ s6,Option.bind_some];have R6:=hp.1;have aF:=hp.2
 have S7:(∀k∈n.kids,d+1+Nh k<=41)↔d+Nh n<=41:=by
   constructor;intro h;have:=(hd (m:=(40 - d).toNat)).2 λk hk=>by have:=h k hk;omega
   omega;intro h k hk;have:=(hd (m:=UK n.kids)).1 (Nat.le_refl _) k hk;omega
 refine Ij (λhb=>?_) λa=>a.1.1;by_cases k7:n.kind=7;rw[Cy k7];refine Ij (λhl=>?_) λa=>by have:=(a.1.2.1 k7).1;omega
 rw[EM,PM hkl,List.drop_zero];dsimp only;refine MW (Sk (g:=FZ) (p:=λk=>Kd k/\Rh k) (d:=d+1) (by omega) R6 λk hk c' b0 b1=>acq (iR k hk) b0 b1 (by omega) (by omega)) ⟨λa=>⟨⟨hb,λ_=>⟨by omega,λk hk=>(a.1 k hk).1⟩,λh=>absurd k7 h⟩,by omega,S7.1 λk hk=>(a.1 k hk).2⟩,λa=>⟨λk hk=>⟨(a.1.2.1 k7).2 k hk,S7.2 a.2.2 k hk⟩,by omega⟩⟩ λ_=>by omega
 . rw[CE k7]
   refine Ij (λhl=>?_) λa=>by have:=(a.1.2.2 k7).1;omega
   have hl1:n.kids.length=1:=by omega
   unfold KT;generalize n.kids=ks at *
   match ks,hl1 with
   | [x],_ =>
   simp only[List.getElem?_cons_zero,Option.bind_some];have e1:Gk [x]=DG x:=by simp[Gk]
   refine MW (aaZ (iR x (by simp)) (c+1) (d+1) (by omega) R6 (by omega) (by omega)) ⟨λa=>⟨⟨hb,λh=>absurd h k7,λ_=>⟨rfl,λk hk=>by rw[List.mem_singleton.1 hk];exact a.1⟩⟩,by omega,S7.1 λk hk=>by rw[List.mem_singleton.1 hk];exact a.2.2⟩,λa=>⟨(a.1.2.2 k7).2 x (by simp),by omega,S7.2 a.2.2 x (by simp)⟩⟩ λ_=>by omega
def Hm(k:Int):List Nd->Nat
 | []=>0
 | a::l=>(if a.kind=k then 1 else 0)+Hm k l
def kinds(l:List Nd):Prop:=∀k∈l,6<=k.kind/\k.kind<=8
def Y4{y:Int}:∀{l:List Nd} {i:Nat} {a b c:Int},0<=a->0<=b->0<=c->a+l.length<=9223372036854775807->b+l.length<=9223372036854775807->c+l.length<=9223372036854775807 ->
   CO (λi z x=>D8 y i z x.1 x.2.1 x.2.2) (λx=>(x.1,x.2.1,x.2.2)) l i (a,b,c)=some (KF (kinds l) (.inl (a+Hm 6 l,b+Hm 7 l,c+Hm 8 l)) (.inr (false,y)))
 | [],i,a,b,c,_,_,_,_,_,_=>by rw[Cy (show kinds [] from λk hk=>(by cases hk))];simp[CO,Hm]
 | z::l,i,a,b,c,h1,h2,h3,h4,h5,h6=>by
   simp only[List.length_cons] at h4 h5 h6;rw[CO,D8];simp only[On,LC,Mf];have hk:kinds (z::l)↔(6<=z.kind/\z.kind<=8)/\kinds l:=by unfold kinds;simp
   have go:∀{a' b' c':Int},0<=a'->0<=b'->0<=c'->a'<=a+1->b'<=b+1->c'<=c+1->6<=z.kind/\z.kind<=8->a'+Hm 6 l=a+Hm 6 (z::l)->b'+Hm 7 l=b+Hm 7 (z::l)->c'+Hm 8 l=c+Hm 8 (z::l) ->
       (some (Lp.nx (a',b',c'))).bind (Qd (CO (λi z x=>D8 y i z x.1 x.2.1 x.2.2) (λx=>(x.1,x.2.1,x.2.2)) l (i+1)))=some (KF (kinds (z::l)) (.inl (a+Hm 6 (z::l),b+Hm 7 (z::l),c+Hm 8 (z::l))) (.inr (false,y))):=by
     intro a' b' c' g1 g2 g3 g4 g5 g6 gk e1 e2 e3;show CO _ _ l (i+1) (a',b',c')=_;rw[Y4 g1 g2 g3 (by omega) (by omega) (by omega),e1,e2,e3];by_cases hl:kinds l;rw[Cy hl,Cy (hk.2 ⟨gk,hl⟩)];rw[CE hl,CE λq=>hl (hk.1 q).2]
   by_cases k6:z.kind < 6;rw[Cy k6,CE λq=>by have:=(hk.1 q).1;omega];rfl;rw[CE k6];by_cases k8:8 < z.kind;rw[Cy k8,CE λq=>by have:=(hk.1 q).1;omega];rfl;rw[CE k8];by_cases e6:z.kind=6;rw[Cy e6,CM (by omega)];exact go (by omega) h2 h3 (by omega) (by omega) (by omega) (by omega) (by simp[Hm,e6];omega) (by simp[Hm,e6]) (by simp[Hm,e6]);rw[CE e6];by_cases e7:z.kind=7;rw[Cy e7,CM (by omega)];exact go h1 (by omega) h3 (by omega) (by omega) (by omega) (by omega) (by simp[Hm,e7]) (by simp[Hm,e7];omega) (by simp[Hm,e7]);rw[CE e7];have e8:z.kind=8:=by omega
   rw[Cy e8,CM (by omega)];exact go h1 h2 (by omega) (by omega) (by omega) (by omega) (by omega) (by simp[Hm,e8]) (by simp[Hm,e8]) (by simp[Hm,e8];omega)
def vT(n:Nd):Prop:=PX n.n/\RV n.name/\Gw n ⟨0,n.name,ByteArray.empty,n.n,0,0,0,⟨0,[]⟩,[],0⟩/\∃h cs,n.kids=h::cs/\kinds cs/\Hm 8 cs=1/\Hm 7 cs<=1/\RM h/\∀k∈cs,KT k
def IJ(n:Nd):Prop :=
 (n.kind=2/\RV n.name/\VI n.unit/\n.kids.length=0/\Gw n ⟨0,n.name,n.unit,0,0,0,0,⟨0,[]⟩,[],0⟩) \/
 (n.kind=3/\RV n.name/\VI n.unit/\1<=n.n/\n.n<=4/\n.kids.length=0/\Gw n ⟨0,n.name,n.unit,n.n,0,0,0,⟨0,[]⟩,[],0⟩) \/
 (n.kind=4/\vT n)
def it2{n:Nd}(h:n.kind=2):IJ n↔RV n.name/\VI n.unit/\n.kids.length=0/\Gw n ⟨0,n.name,n.unit,0,0,0,0,⟨0,[]⟩,[],0⟩:=by unfold IJ;simp[h]
def it3{n:Nd}(h:n.kind=3):IJ n↔RV n.name/\VI n.unit/\1<=n.n/\n.n<=4/\n.kids.length=0/\Gw n ⟨0,n.name,n.unit,n.n,0,0,0,⟨0,[]⟩,[],0⟩:=by unfold IJ;simp[h]
def it4{n:Nd}(h:n.kind=4):IJ n↔vT n:=by unfold IJ;simp[h]
def afH{n:Nd}(h:IJ n):n.kind=2\/n.kind=3\/n.kind=4:=by
 unfold IJ at h;rcases h with h | h | h
 all_goals
   have:=h.1;simp[this]
def akm{n:Nd}(XK:K4 n){c d:Int}(h0:0<=c)(h1:c<=2000)(h2:0<=d):Out (Em ⟨c⟩ n d) (IJ n/\c+DG n<=2000/\d+Nh n<=41) (c+DG n):=by
 obtain⟨s6,hkl,iR⟩:=Zh XK;have Qi:=E6 n;have hdp:=Ob n;have hd:=@Yz n.kids;rw[Em];refine MX (Zf n h0 h1) (λhp=>?_) λz hp=>Ky λa=>hp ⟨by omega,by omega⟩;dsimp only;rw[cond_true,CM (a:=d) (b:=1) (by omega)];have e0:(((n.kids.length:Nat):Int)=0)=(n.kids.length=0):=propext (by omega);simp only[LC,Re,On,Mf,uA,sN,Vv,Yo _ _ s6,Option.bind_some,e0];have R6:=hp.1;have aF:=hp.2;have YW:∀{B:Prop},(B↔IJ n)->(B->n.kids.length=0)->Out (some (mb B,c+1)) (IJ n/\c+DG n<=2000/\d+Nh n<=41) (c+DG n):=λhB hk=>(Vt hB).congr ⟨λa=>⟨a,by have:=tH (hk (hB.2 a));omega⟩,λa=>a.1⟩ λa=>by have:=tH (hk (hB.2 a.1));omega
 by_cases k2:n.kind=2;rw[Cy k2];simp only[gG,qL,xO];refine YW ?_ ?_;rw[it2 k2];intro h;exact h.2.2.1;rw[CE k2];by_cases k3:n.kind=3;rw[Cy k3];simp only[gG,qL,xO];refine YW ?_ ?_;rw[it3 k3];intro h;exact h.2.2.2.2.1;rw[CE k3];by_cases k4:n.kind=4;rotate_left;rw[CE k4];exact Ky λa=>by have:=afH a.1;omega
 rw[Cy k4,it4 k4];refine Ij (λhr=>Ij (λhn=>Ij (λhb=>?_) λa=>a.1.2.2.1) λa=>a.1.2.1) λa=>a.1.1;refine lA (λhl0=>?_) λa h=>by obtain⟨h',cs,hk,_⟩:=a.1.2.2.2;rw[hk] at h;simp at h
 have S7:(∀k∈n.kids,d+1+Nh k<=41)↔d+Nh n<=41:=by
   constructor;intro h;have:=(hd (m:=(40 - d).toNat)).2 λk hk=>by have:=h k hk;omega
   omega;intro h k hk;have:=(hd (m:=UK n.kids)).1 (Nat.le_refl _) k hk;omega
 unfold vT;generalize n.kids=ks at *
 match ks,hl0 with
 | x::l,_ =>
 have Mi:adr (x::l) 1 (((x::l).length:Nat):Int)=some l:=by
   unfold adr;rw[if_pos (by simp only[List.length_cons];omega)];simp
 rw[Mi];simp only[Option.bind_some,List.length_cons] at hkl ⊢
 have e2:∀{A:Prop},(∃h cs,x::l=h::cs/\kinds cs/\Hm 8 cs=1/\Hm 7 cs<=1/\RM h/\∀k∈cs,KT k)↔(kinds l/\Hm 8 l=1/\Hm 7 l<=1/\RM x/\∀k∈l,KT k):=by
   intro _;constructor;rintro⟨h,cs,e,r⟩;cases e;exact r;intro r;exact⟨x,l,rfl,r⟩
 rw[PM (by omega),List.drop_zero,Y4 (by omega) (by omega) (by omega) (by omega) (by omega) (by omega)];simp only[Option.bind_some];by_cases hK:kinds l;rotate_left;rw[CE hK];show Out (some (false,c+1)) _ _;exact Ky λa=>hK ((e2 (A:=True)).1 a.1.2.2.2).1;rw[Cy hK];show Out (KF ((0:Int)+Hm 8 l=1) (KF (1 < (0:Int)+Hm 7 l) (some (false,c+1)) _) (some (false,c+1))) _ _;refine Ij (λh8=>lA (λh7=>?_) λa=>?_) λa=>?_;rotate_left;have:=((e2 (A:=True)).1 a.1.2.2.2).2.2.1;omega;have:=((e2 (A:=True)).1 a.1.2.2.2).2.1;omega;simp only[List.getElem?_cons_zero,Option.bind_some];have hdx:=λh=>S7.2 h x (by simp);have hsl:Gk (x::l)=DG x+Gk l:=by simp[Gk]
 refine MX (ajO (iR x (by simp)) (c:=c+1) (d:=d+1) (by omega) R6) (λhx=>?_) λz hx=>Ky λa=>hx ⟨((e2 (A:=True)).1 a.1.2.2.2).2.2.2.1,by omega,hdx a.2.2⟩;dsimp only;rw[cond_true,EL,PM (by omega),List.drop_zero];dsimp only;refine MW (Sk (g:=DO) (p:=KT) (d:=d+1) (by omega) hx.2.1 λk hk c' b0 b1=>aaD (iR k (by simp[hk])) b0 b1 (by omega)) ?_ λ_=>by omega
 constructor;rintro⟨a,b⟩;refine⟨⟨hr,hn,hb,(e2 (A:=True)).2 ⟨hK,by omega,by omega,hx.1,λk hk=>(a k hk).1⟩⟩,by omega,S7.1 λk hk=>?_⟩;rcases List.mem_cons.1 hk with rfl | hk
 exact hx.2.2;exact(a k hk).2;rintro⟨a,b,e⟩;exact⟨λk hk=>⟨((e2 (A:=True)).1 a.2.2.2).2.2.2.2 k hk,S7.2 e k (by simp[hk])⟩,by omega⟩
def okV(n:Nd):Prop:=((n.kind=1/\Gw n z0/\∀k∈n.kids,IJ k)\/(n.kind≠1/\Kd n))/\DG n<=2000/\Nh n<=40
def iB{n:Nd}(XK:K4 n):Es n=some (mb (okV n)):=by
 obtain⟨s6,hkl,iR⟩:=Zh XK;have Qi:=E6 n;have hdp:=Ob n;have hd:=@Yz n.kids;rw[Es,LC,Mf]
 have fin:∀{r:Option (Bool×Int)} {P:Prop} {t:Int},Out r P t->(P↔okV n)->(r.bind λ(a,_)=>some a)=some (mb (okV n)):=by
   rintro r P t ⟨z,rfl,_⟩ h;rw[MU h];rfl
 by_cases k1:n.kind=1;rotate_left;rw[CE k1];refine fin (aaZ XK 0 1 (by omega) (by omega) (by omega) (by omega)) ?_;unfold okV;constructor;rintro⟨a,b,c⟩;exact⟨.inr ⟨k1,a⟩,by omega,by omega⟩;rintro⟨a | a,b,c⟩;exact absurd a.1 k1;exact⟨a.2,by omega,by omega⟩;rw[Cy k1];obtain⟨z,hz,hz2⟩:=Zf n (c:=0) (d:=1) (by omega) (by omega);rw[hz];simp only[Option.bind_some,Yo _ _ s6,Mf];by_cases h1:(0:Int)+1<=2000/\(1:Int)<=40;rotate_left;exact absurd ⟨by omega,by omega⟩ h1;rw[Cy h1,hz2 h1];by_cases hb:Gw n z0;rotate_left;rw[CE hb];refine hJ ?_;rintro⟨a | a,_⟩;exact hb a.2.1;exact a.1 k1;rw[Cy hb,Fo,PM hkl,List.drop_zero];dsimp only;refine fin (Sk (g:=Em) (p:=IJ) (d:=2) (by omega) (by omega) λk hk c' b0 b1=>akm (iR k hk) b0 b1 (by omega)) ?_;unfold okV;constructor;rintro⟨a,b⟩;refine⟨.inl ⟨k1,hb,λk hk=>(a k hk).1⟩,by omega,?_⟩;have:=(hd (m:=39)).2 λk hk=>by have:=(a k hk).2;omega
 omega;rintro⟨a | a,b,e⟩;refine⟨λk hk=>⟨a.2.2 k hk,?_⟩,by omega⟩;have:=(hd (m:=UK n.kids)).1 (Nat.le_refl _) k hk;omega;exact absurd k1 a.1
end Mo
end Go.Proofs.YtpbkhogolfegfaaGreatDoor
namespace Go.Proofs.YtpbkhogolfegfaaGreatDoor
open AI Go
namespace Mo
set_option maxRecDepth 100000
abbrev Rd(α:Type):=List Tk->Option ((α⊕Dg)×List Tk)
section
variable {α β:Type}
def FX(a:α):Rd α:=λl=>some (.inl a,l)
def M8(e p:Int):Rd α:=λl=>some (.inr ⟨e,p⟩,l)
def Cw(m:Rd α)(k:α->Rd β):Rd β:=λl=>match m l with
 | none=>none
 | some (.inl a,s)=>k a s
 | some (.inr d,s)=>some (.inr d,s)
def L5(x:Option α)(k:α->Rd β):Rd β:=λl=>match x with
 | none=>none
 | some a=>k a l
def Vz(en:Int)(k:Tk->Rd β):Rd β:=λl=>match l with
 | []=>some (.inr ⟨72,en⟩,[])
 | t::s=>k t (t::s)
def VV(k:Rd β):Rd β:=λl=>match l with
 | []=>none
 | _::s=>k s
def JC(x:ByteArray):List Tk->Bool
 | []=>false
 | t::_=>BY t.text.data.toList x.data.toList
def OI(x:ByteArray)(yes no:Rd β):Rd β:=λl=>cond (JC x l) (VV yes l) (no l)
end
def LX(en:Int)(fits:Tk->Option Bool):Rd Tk:=Vz en λt=>L5 (fits t) λb=>cond b (VV (FX t)) (M8 71 t.AH)
def JT(en:Int)(x:ByteArray):Rd Tk:=LX en λt=>Dw t x
def bW(en:Int):Rd Tk:=LX en Cz
def mR(en:Int):Rd Tk:=LX en Fh
def cJ(en:Int):Rd Tk:=LX en BT
def NL(en:Int):Rd (Int×Int):=Cw (LX en Eu) λt=>L5 (Sn t.text) λn=>FX (n.1,t.AH)
def Mr(en least:Int):Rd (Int×Int):=Cw (NL en) λp=>cond (Ez p.1 least) (M8 3 p.2) (cond (Ez 1000000 p.1) (M8 3 p.2) (FX p))
def Sy(en least:Int):Rd Int:=Cw (LX en EV) λt=>L5 (FA t.text) λd=>cond (CZ d.2 0) (cond (Ez d.1 least) (M8 21 t.AH) (FX d.1)) (M8 21 t.AH)
abbrev bE:ByteArray:=ByteArray.empty
def Ff(kind:Int)(name unit:ByteArray)(n:Int)(kids:List Nd)(p:Int):Nd:=⟨kind,name,unit,n,0,0,0,⟨0,[]⟩,kids,p⟩
def WU(en:Int):Rd Nd:=Cw (JT en uC) λt=>Cw (Mr en 0) λn=>Cw (JT en sL) λ_=>Cw (Sy en 0) λf =>
 OI toS (Cw (Sy en (Bt f 1)) λu=>Cw (JT en V9) λ_=>Cw (Sy en 0) λk=>FX ⟨5,bE,bE,n.1,f,u,k,⟨0,[]⟩,[],t.AH⟩)
   (Cw (JT en V9) λ_=>Cw (Sy en 0) λk=>FX ⟨5,bE,bE,n.1,f,36525,k,⟨0,[]⟩,[],t.AH⟩)
def Sz(en:Int):Rd Nd:=Vz en λt=>VV<|Cw (bW en) λm=>Cw (JT en Vy) λ_=>Cw (mR en) λu =>
 cond (BY t.text.data.toList Pe.data.toList)
   (Cw (cJ en) λr=>L5 (EB r.text) λn=>Cw (JT en R9) λ_=>FX (Ff 3 m.text u.text n [] t.AH))
   (Cw (JT en R9) λ_=>FX (Ff 2 m.text u.text 0 [] t.AH))
def GA(en:Int):Rd Nd:=Cw (Mr en 1) λp=>FX (Ff 11 bE EK p.1 [] p.2)
def O4{β:Type}(n:Nat)(m:Rd β):Rd β:=λs=>MT n (m s)
def RU(read:Rd Nd):Nat->List Nd->Rd (List Nd)
 | 0,_=>λ_=>none
 | q+1,l=>OI Uq (Cw read λn=>O4 (l.length+1) (RU read q (l++[n]))) (FX l)
def SG(read:Rd Nd):Rd (List Nd):=Cw read λn s=>RU read (s.length+1) [n] s
def OR(en:Int):Rd (Int×Int):=Cw (LX en Dk) λt=>L5 (Ct t) λc=>cond (CZ t.kind 3) (cond (CZ c 0) (FX (c,t.AH)) (M8 3 t.AH)) (FX (c,t.AH))
def Xd(en:Int):Rd Int:=Cw (LX en EZ) λt=>cond (BY t.text.data.toList Lu.data.toList) (FX (-1)) (FX 1)
def oY:Nat->Int->Int->Int
 | 0,a,_=>a
 | n+1,a,b=>if b=0 then a else oY n b (a % b)
def aa8(a b:Int):Option Int:=if 1<=a/\0<=b then some (oY (b.toNat+1) a b) else none
def Ph(en Az from_ a:Int):Rd (Pt×Int):=Cw (Xd en) λs=>Cw (Mr en 0) λm=>Cw (JT en EH) λ_=>Cw (Mr en 1) λd =>
 L5 (aa8 Az d.1) λg=>L5 (Tu Az g) λz=>cond (Ez 1000000 (BQ z d.1)) (M8 2 d.2) (FX (⟨from_,a,BQ m.1 s,d.1⟩,BQ z d.1))
def NS(en Az from_:Int):Rd (Pt×Int):=Cw (JT en Vy) λ_=>OI Lu (Cw (OR en) λa=>Ph en Az from_ (BQ a.1 (-1))) (Cw (OR en) λa=>Ph en Az from_ (BQ a.1 1))
def SK(en:Int)(before:List Pt)(Az:Int):Rd (Pt×Int):=Cw (OR en) λv =>
 cond (CZ ((before.length:Nat):Int) 0) (cond (CZ v.1 0) (NS en Az v.1) (M8 3 v.2))
   (L5 (before[before.length - 1]?) λq=>cond (NI v.1 q.fr) (M8 3 v.2) (cond (NI 64 ((before.length:Nat):Int)) (M8 2 v.2) (NS en Az v.1)))
def MA(en:Int):Nat->List Pt->Int->Rd (List Pt×Int)
 | 0,_,_=>λ_=>none
 | q+1,l,c=>Cw (SK en l c) λp=>O4 (l.length+1) (OI Uq (MA en q (l++[p.1]) p.2) (FX (l++[p.1],p.2)))
def MG(c p:Int):List Pt->List Pc->Rd (List Pc)
 | [],acc=>FX acc
 | x::xs,acc=>L5 (Tu c x.den) λz=>cond (Ez 1000000 (BQ x.num z)) (M8 2 p) (cond (Ez (BQ x.num z) (-1000000)) (M8 2 p) (O4 (acc.length+1) (MG c p xs (acc++[⟨x.fr,BQ x.AH c,BQ x.num z⟩]))))
inductive Ek where
 | ex | lv (i:Nat) | at_ | wd (t:Tk) | ca | ta
def ZE(en:Int)(g:Ek->Rd Nd):Rd Nd:=Cw (JT en Rz) λt=>Cw (JT en Uo) λ_=>Cw (g .ex) λa=>Cw (JT en R9) λ_=>Cw (λs=>MA en (s.length+1) [] 1 s) λl=>Cw (JT en Wi) λe =>
 O4 l.1.length (Cw (MG l.2 e.AH l.1 []) λr=>FX ⟨18,bE,bE,0,0,0,0,⟨l.2,r⟩,[a],t.AH⟩)
def Ys(en:Int)(g:Ek->Rd Nd)(li:Rd (List Nd)):Rd Nd:=Vz en λt=>VV<|Cw (JT en Uo) λ_=>Cw (g .ex) λa=>Cw (JT en Uq) λ_=>Cw li λl=>O4 (1+l.length)<|Cw (JT en Wi) λ_=>FX (Ff 17 t.text bE 0 (a::l) t.AH)
def U7(t:Tk):Rd Nd:=VV (FX (Ff 14 t.text bE 0 [] t.AH))
def R0(en:Int)(g:Ek->Rd Nd)(t:Tk):Rd Nd :=
 cond (BY t.text.data.toList ZK.data.toList) (VV (FX (Ff 11 bE Hi 1 [] t.AH))) <|
 cond (BY t.text.data.toList T6.data.toList) (VV (FX (Ff 11 bE Hi 0 [] t.AH))) <|
 cond (BY t.text.data.toList eA.data.toList) (VV (Cw (Mr en 1) λp=>FX (Ff 13 bE bE p.1 [] t.AH))) <|
 cond (BY t.text.data.toList LY.data.toList) (U7 t)<|cond (BY t.text.data.toList eO.data.toList) (U7 t)<|cond (BY t.text.data.toList Rf.data.toList) (U7 t)<|cond (BY t.text.data.toList VT.data.toList) (U7 t) <|
 cond (BY t.text.data.toList K3.data.toList) (g .ca)<|cond (BY t.text.data.toList FY.data.toList) (g .ca)<|cond (BY t.text.data.toList Rz.data.toList) (g .ta) <|
 cond (BY t.text.data.toList Uo.data.toList) (VV (Cw (g .ex) λa=>Cw (JT en Wi) λ_=>FX a)) (M8 71 t.AH)
def Yn(en:Int)(g:Ek->Rd Nd):Rd Nd:=Vz en λt =>
 cond (CZ t.kind 3) (Cw (NL en) λn=>OI afT (FX (Ff 11 bE JY n.1 [] n.2)) (FX (Ff 11 bE EK n.1 [] n.2)))
   (cond (CZ t.kind 2) (VV (Cw (LX en D9) λa=>L5 (Ct a) λc=>FX (Ff 11 bE t.text c [] t.AH)))
     (L5 (Cz t) λb=>cond b (VV (FX (Ff 12 t.text bE 0 [] t.AH))) (g (.wd t))))
def opsOf:Nat->List ByteArray
 | 0=>[kZ]
 | 1=>[P8]
 | 3=>[GX,H7,JL,Hh,IS,FG]
 | 4=>[OG,Lu]
 | 5=>[PW,EH,jI]
 | _=>[]
def n5{β:Type}(yes:ByteArray->Rd β)(no:Rd β):List ByteArray->Rd β
 | []=>no
 | x::xs=>OI x (yes x) (n5 yes no xs)
def Rr(en:Int)(sub:Rd Nd)(op:ByteArray)(l:Nd):Rd Nd:=Cw (cond (BY op.data.toList EH.data.toList) (GA en) sub) λr=>L5 (Bb op l r) λb=>FX b
def LA(en:Int)(ops:List ByteArray)(sub:Rd Nd):Nat->Nd->Rd Nd
 | 0,_=>λ_=>none
 | q+1,l=>n5 (λop=>Cw (Rr en sub op l) λb=>LA en ops sub q b) (FX l) ops
def Ol(en:Int)(g:Ek->Rd Nd)(i:Nat):Rd Nd:=Cw (g (.lv (i+1))) λl s=>LA en (opsOf i) (g (.lv (i+1))) (s.length+1) l s
def jQ(en:Int)(g:Ek->Rd Nd):Rd Nd:=Cw (g (.lv 4)) λl=>n5 (λop=>Rr en (g (.lv 4)) op l) (FX l) (opsOf 3)
def Zg(en:Int)(g:Ek->Rd Nd):Rd Nd:=λs=>cond (JC Vq s) (Cw (JT en Vq) (λt=>Cw (g (.lv 2)) λk=>FX (Ff 15 bE bE 0 [k] t.AH)) s) (g (.lv 3) s)
def Pm(en:Int)(g:Ek->Rd Nd)(li:Rd (List Nd)):Ek->Rd Nd
 | .ex=>g (.lv 0)
 | .lv 2=>Zg en g
 | .lv 3=>jQ en g
 | .lv 6=>g .at_
 | .lv i=>Ol en g i
 | .at_=>Yn en g
 | .wd t=>R0 en g t
 | .ca=>Ys en g li
 | .ta=>ZE en g
def gP(en:Int):Nat->(Ek->Rd Nd)×Rd (List Nd)
 | 0=>(λ_ _=>none,λ_=>none)
 | q+1=>(Pm en (gP en q).1 (gP en q).2,SG ((gP en q).1 .ex))
def IM(en:Int)(ex:Rd Nd)(kind:Int):Rd Nd:=Vz en λt=>VV <|
 cond (CZ kind 7) (Cw (SG (GA en)) λl=>Cw (JT en R9) λ_=>FX (Ff kind bE bE 0 l t.AH)) (Cw ex λe=>Cw (JT en R9) λ_=>FX (Ff kind bE bE 0 [e] t.AH))
def Iy(en:Int)(ex:Rd Nd)(mk:List Nd->Nd):Nat->List Nd->Bool->Bool->Rd Nd
 | 0,_,_,_=>λ_=>none
 | q+1,l,un,am=>Vz en λt =>
   cond (BY t.text.data.toList dM.data.toList) (Cw (IM en ex 6) λc=>O4 (l.length+1) (Iy en ex mk q (l++[c]) un am)) <|
   cond (BY t.text.data.toList Tl.data.toList) (cond un (M8 5 t.AH) (Cw (IM en ex 7) λc=>O4 (l.length+1) (Iy en ex mk q (l++[c]) true am))) <|
   cond (BY t.text.data.toList QZ.data.toList) (cond am (M8 5 t.AH) (Cw (IM en ex 8) λc=>O4 (l.length+1) (Iy en ex mk q (l++[c]) un true))) <|
   cond (BY t.text.data.toList aQ.data.toList) (cond am (VV (FX (mk l))) (M8 71 t.AH)) (M8 71 t.AH)
def MO(en:Int)(ex:Rd Nd):Rd Nd:=Cw (JT en Io) λt=>Cw (Mr en 1) λn=>Cw (JT en aa5) λ_=>Cw (bW en) λm=>Cw (WU en) λh=>Cw (JT en gI) λ_=>λs =>
 Iy en ex (λl=>Ff 4 m.text bE n.1 l t.AH) (s.length+1) [h] false false s
def Qk(en:Int)(ex:Rd Nd):Rd Nd:=Vz en λt =>
 cond (BY t.text.data.toList TI.data.toList) (Sz en)<|cond (BY t.text.data.toList Pe.data.toList) (Sz en)<|cond (BY t.text.data.toList Io.data.toList) (MO en ex) (M8 71 t.AH)
end Mo
end Go.Proofs.YtpbkhogolfegfaaGreatDoor
