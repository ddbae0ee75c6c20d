/- Part of a proof: see the last text. -/
import Derived.Test.YtpbkhogolfegfaaGreatDoorPtr
set_option linter.unusedVariables false
set_option linter.unusedSimpArgs false
set_option linter.defProp false
noncomputable section
namespace Go.Proofs.YtpbkhogolfegfaaGreatDoor
open AI Go
namespace Mo
set_option maxRecDepth 100000
set_option maxHeartbeats 4000000
variable {mx:Int}
def B4:Code:=Bj Tryz.f4
def b4:Tryz.f4.body=some B4:=by kernel_rfl
def B26:Code:=Bj Tryz.f26
def b26:Tryz.f26.body=some B26:=by kernel_rfl
def LI(Iu:Nd->Option Bool)(i0:Nat)(e0:Nd) :Option (Lp Unit Unit Bool):=(Iu e0).bind λy1=>cond y1 (some (.nx ())) (some (.rt false))
def MP(Iu:Nd->Option Bool)(n:Nd):Option Bool:=(SR n.kids.length (Dl (λi y x=>LI Iu  i y ) (λx=>()) (n.kids.drop 0) 0 ())).bind (PZ (λ(_:Unit)=>cond (DZ n.AF 0) (some true) (some false)) (λv=>some v))
def Wl(Iu:Nd->Option Bool)(SP:∀{n:Nd} {yR:Bool},Iu n=some yR->Pure P (G mx) 26 [.agg (CJ n)] (.zb yR)){n:Nd}{yR:Bool}(h:MP Iu n=some yR):Pure P (G mx) 26 [.agg (CJ n)] (.zb yR):=by
 unfold MP at h;refine D7 Hd.mixed Hd.Ab (Ay Tryz.func26 b26 ?_) (BE (AB.CW n) rfl) rfl;revert h;refine Rj (λQ v=>Ni P Tryz.f26 0 Q (.zb v)) (λi0 (_:Unit) (j0:List Value)=>fr 19 [(1,.ptr 0 0),(6,.sl .lost n.kids.length (Bd n.kids)),(7,.zi ((n.kids.length:Nat):Int)),(8,.zi ((i0:Nat):Int))] [2,9,13,14,18] j0) (λ(_:Unit)=>⟨[(0,.cells (CJ n))],1,[],0⟩) (λ(_:Unit) (jx:List Value)=>fr 19 [(1,.ptr 0 0)] [2,9,13,14,18] jx) (λ(_:Unit)=>⟨[(0,.cells (CJ n))],1,[],0⟩) [bF] (IJ [] 0 (sb B26 52) [.code (sb B26 7)] (Ae 300 []) (by kernel_rfl)) ?_ ?_ ?_ (λv h=>by cases h;exact .outer .body);rintro i0 ⟨⟩ j0 On hq;exact Fq (Ae 300 [pb (fE On)]) (by kernel_rfl) (hq (js 5 j0 [(1,bF)]));rintro i0 e0 ⟨⟩ j0 r Qb Pf P0 k;show LI Iu  i0 e0 =some r->_;unfold LI;refine AA λy1 Ci=>?_;refine Ak (λhv=>?_) λhv=>?_;subst hv;rintro⟨⟩;exact Ho Hd.Ab [fq (AB.KC n.kids)] [bp (AB.pl n)] (Ae 300 [pb (WN Pf),IP (Ja .lost Qb),Be (SP Ci),pi P0]) (by kernel_rfl) (k [(jv j0 0),bT,bT,bF,(jv j0 4)]);subst hv;rintro⟨⟩;exact Bc _ _ (Ae 300 [pb (WN Pf),IP (Ja .lost Qb),Be (SP Ci)]) (by kernel_rfl) (.GJ k) .sc;rintro⟨⟩ cQ;refine Ak (λBp=>?_) λBp=>?_;rintro⟨⟩;exact Bc _ _ (K9 300 [pb Bp]) (by kernel_rfl) .body .sc;rintro⟨⟩;exact Bc _ _ (K9 300 [pb Bp]) (by kernel_rfl) .body .sc
def GU:Nat->Nd->Option Bool
 | 0,_=>none
 | qn+1,n=>MP (GU qn) n
def X4:∀qn:Nat,∀{n:Nd} {yR:Bool},GU qn n=some yR->Pure P (G mx) 26 [.agg (CJ n)] (.zb yR):=by
 intro qn
 induction qn with
 | zero=>exact(λh=>by simp only[GU] at h;cases h)
 | succ qn ih=>exact(λh=>Wl (GU qn) ih (by rw[GU] at h;exact h))
def Qg(n:Nd):Option Bool:=uR (λqn=>GU qn n)
def Ze{n:Nd}{yR:Bool}(h:Qg n=some yR):Pure P (G mx) 26 [.agg (CJ n)] (.zb yR):=by
 obtain⟨qn,h⟩:=gM h;exact(X4 qn) h
def B27:Code:=Bj Tryz.f27
def b27:Tryz.f27.body=some B27:=by kernel_rfl
def JH(F3:Nd->Int->Int->Option Bool)(n:Nd)(high:Int)(i0:Nat)(e0:Nd) :Option (Lp Unit Unit Bool):=(F3 e0 n.AF high).bind λy1=>cond y1 (some (.nx ())) (some (.rt false))
def Kc(F3:Nd->Int->Int->Option Bool)(n:Nd)(low:Int)(high:Int):Option Bool:=cond (EQ n.AF low) (some false) (cond (EQ high n.AF) (some false) ((SR n.kids.length (Dl (λi y x=>JH F3 n high i y ) (λx=>()) (n.kids.drop 0) 0 ())).bind (PZ (λ(_:Unit)=>some true) (λv=>some v))))
def Tg(F3:Nd->Int->Int->Option Bool)(Pv:∀{n:Nd} {low:Int} {high:Int} {yR:Bool},F3 n low high=some yR->Pure P (G mx) 27 [.agg (CJ n),.zi low,.zi high] (.zb yR)){n:Nd}{low:Int}{high:Int}{yR:Bool}(h:Kc F3 n low high=some yR):Pure P (G mx) 27 [.agg (CJ n),.zi low,.zi high] (.zb yR):=by
 unfold Kc at h;refine D7 Hd.mixed Hd.Ab (Ay Tryz.func27 b27 ?_) (BE (AB.CW n) (BE rfl (BE rfl rfl))) rfl;revert h;refine Ak (λBp=>?_) λBp=>?_;rintro⟨⟩;exact rT [pb Bp];refine Ak (λCF=>?_) λCF=>?_;rintro⟨⟩;exact rT [pb Bp,pb CF];refine Rj (λQ v=>Ni P Tryz.f27 0 Q (.zb v)) (λi0 (_:Unit) (j0:List Value)=>fr 33 [(2,.zi high),(3,.ptr 0 0),(20,.sl .lost n.kids.length (Bd n.kids)),(21,.zi ((n.kids.length:Nat):Int)),(22,.zi ((i0:Nat):Int))] [6,12,13,17,18,23,30,31] j0) (λ(_:Unit)=>⟨[(0,.cells (CJ n))],1,[],0⟩) (λ(_:Unit) (jx:List Value)=>fr 33 [] [6,12,13,17,18,23,30,31] jx) (λ(_:Unit)=>⟨[(0,.cells (CJ n))],1,[],0⟩) [bF,bF,bF,bF,bF] (IJ [] 0 (sb B27 116) [.code (sb B27 15)] (Ae 300 [pb Bp,pb CF]) (by kernel_rfl)) ?_ ?_ ?_ (λv h=>by cases h;exact .outer .body);rintro i0 ⟨⟩ j0 On hq;exact Fq (Ae 300 [pb (fE On)]) (by kernel_rfl) (hq (js 8 j0 [(5,bF)]));rintro i0 e0 ⟨⟩ j0 r Qb Pf P0 k;show JH F3 n high i0 e0 =some r->_;unfold JH;refine AA λy1 Ci=>?_;refine Ak (λhv=>?_) λhv=>?_;subst hv;rintro⟨⟩;exact Ho Hd.Ab [fq (AB.KC n.kids)] [bp (AB.pl n)] (Ae 300 [pb (WN Pf),IP (Ja .lost Qb),Be (Pv Ci),pi P0]) (by kernel_rfl) (k (js 8 j0 [(5,bT),(6,bT),(7,bF)]));subst hv;rintro⟨⟩;exact Bc _ _ (Ae 300 [pb (WN Pf),IP (Ja .lost Qb),Be (Pv Ci)]) (by kernel_rfl) (.GJ k) .sc;rintro⟨⟩ cQ;rintro⟨⟩;exact Bc _ _ (K9 300 []) (by kernel_rfl) .body .sc
def EU:Nat->Nd->Int->Int->Option Bool
 | 0,_,_,_=>none
 | qn+1,n,low,high=>Kc (EU qn) n low high
def Uo:∀qn:Nat,∀{n:Nd} {low:Int} {high:Int} {yR:Bool},EU qn n low high=some yR->Pure P (G mx) 27 [.agg (CJ n),.zi low,.zi high] (.zb yR):=by
 intro qn
 induction qn with
 | zero=>exact(λh=>by simp only[EU] at h;cases h)
 | succ qn ih=>exact(λh=>Tg (EU qn) ih (by rw[EU] at h;exact h))
def Kd(n:Nd)(low:Int)(high:Int):Option Bool:=uR (λqn=>EU qn n low high)
def Lx{n:Nd}{low:Int}{high:Int}{yR:Bool}(h:Kd n low high=some yR):Pure P (G mx) 27 [.agg (CJ n),.zi low,.zi high] (.zb yR):=by
 obtain⟨qn,h⟩:=gM h;exact(Uo qn) h
def B6:Code:=Bj Tryz.f6
def b6:Tryz.f6.body=some B6:=by kernel_rfl
def F6(source:ByteArray):Option Bool:=(JG).bind λy1=>cond (EQ 6010 ((source.data.toList.length:Nat):Int)) (some y1) ((CZ source).bind λ(I7,EA)=>cond (EQ 0 ((EA.length:Nat):Int)) (cond y1 ((Iw I7 (⟨0,ByteArray.empty,ByteArray.empty,0,0,0,0,(⟨0,[]⟩:Fn),[],0⟩:Nd)).bind λy3=>cond y3 (cond (Th ((EA.length:Nat):Int) 20) (some true) (some false)) (some false)) (some false)) ((HU I7).bind λy4=>cond y1 ((Dm I7).bind λy5=>cond y5 ((Dm y4).bind λy6=>cond y6 ((Qg y4).bind λy7=>cond y7 ((HU y4).bind λy8=>(Iw y8 y4).bind λy9=>cond y9 ((J6 I7).bind λy10=>(Iw y10 y4).bind λy11=>cond y11 ((Kd I7 0 ((source.data.toList.length:Nat):Int)).bind λy12=>cond y12 (cond (DZ I7.kind 1) (some true) (some false)) (some false)) (some false)) (some false)) (some false)) (some false)) (some false)) (some false)))
def Qf{source:ByteArray}{yR:Bool}(h:F6  source=some yR):Pure P (G mx) 6 [.zs source] (.zb yR):=by
 unfold F6 at h;refine D7 Hd.mixed Hd.Ab (Ay Tryz.func6 b6 ?_) (BE rfl rfl) rfl;revert h;refine AA λy1 Ci=>?_;let o1:List (PC P (G mx)):=[Be (Wk Ci)];refine Ak (λBp=>?_) λBp=>?_;rintro⟨⟩;exact rT (o1++[pb Bp]);refine AA ?_;rintro⟨I7,EA⟩ Ep;dsimp only;let o2:List (PC P (G mx)):=o1++[pb Bp,Be (K2 Ep)];refine Ak (λCF=>?_) λCF=>?_;refine Ak (λhv=>?_) λhv=>?_;subst hv;refine AA λy3 Gr=>?_;let o3:List (PC P (G mx)):=o2++[pb CF,H8 (.r (.g (.r (.r (.r (.r (.r (.r (.r (.r (.z (.z (.r .nil))))))))))) .nil)) (LN Gr)];refine Ak (λhv=>?_) λhv=>?_;subst hv;refine Ak (λD1=>?_) λD1=>?_;rintro⟨⟩;exact rT (o3++[pb D1]);rintro⟨⟩;exact rT (o3++[pb D1]);subst hv;rintro⟨⟩;exact rT o3;subst hv;rintro⟨⟩;exact rT (o2++[pb CF]);refine AA λy4 JV=>?_;let o4:List (PC P (G mx)):=o2++[pb CF,Be (Ox JV)];refine Ak (λhv=>?_) λhv=>?_;subst hv;refine AA λy5 J2=>?_;let o5:List (PC P (G mx)):=o4++[Be (FG J2)];refine Ak (λhv=>?_) λhv=>?_;subst hv;refine AA λy6 MO=>?_;let o6:List (PC P (G mx)):=o5++[Be (FG MO)];refine Ak (λhv=>?_) λhv=>?_;subst hv;refine AA λy7 R4=>?_;let o7:List (PC P (G mx)):=o6++[Be (Ze R4)];refine Ak (λhv=>?_) λhv=>?_;subst hv;refine AA λy8 Oq=>?_;refine AA λy9 VT=>?_;let o8:List (PC P (G mx)):=o7++[Be (Ox Oq),Be (LN VT)];refine Ak (λhv=>?_) λhv=>?_;subst hv;refine AA λy10 Pw=>?_;refine AA λy11 Vg=>?_;let o9:List (PC P (G mx)):=o8++[Be (RJ Pw),Be (LN Vg)];refine Ak (λhv=>?_) λhv=>?_;subst hv;refine AA λy12 XV=>?_;refine Ak (λhv=>?_) λhv=>?_;subst hv;refine Ak (λF9=>?_) λF9=>?_;rintro⟨⟩;exact rT (o9++[Be (Lx XV),pb F9]);rintro⟨⟩;exact rT (o9++[Be (Lx XV),pb F9]);subst hv;rintro⟨⟩;exact rT (o9++[Be (Lx XV)]);subst hv;rintro⟨⟩;exact rT o9;subst hv;rintro⟨⟩;exact rT o8;subst hv;rintro⟨⟩;exact rT o7;subst hv;rintro⟨⟩;exact rT o6;subst hv;rintro⟨⟩;exact rT o5;subst hv;rintro⟨⟩;exact rT o4
def B9:Code:=Bj Tryz.f9
def b9:Tryz.f9.body=some B9:=by kernel_rfl
end Mo
end Go.Proofs.YtpbkhogolfegfaaGreatDoor

namespace Go.Proofs.YtpbkhogolfegfaaGreatDoor
open AI Go
namespace Mo
set_option maxRecDepth 100000
set_option maxHeartbeats 4000000
def uL(s:ByteArray):Prop:=s.data.toList.length=3/\∀c∈s.data.toList,65<=c.toNat/\c.toNat<=90
def UJ(s:ByteArray):Prop:=s=GO\/s=Ev\/s=Jp\/uL s
def tK(c:UInt8):Prop:=(97<=c.toNat/\c.toNat<=122)\/(48<=c.toNat/\c.toNat<=57)\/c.toNat=95
def qY:List ByteArray:=[SK,Ov,Hx,aap,r9,qG,toS,Vi,aZ,Sa,P4,GO,Ev,Jp,afa,SI,LG,OS,SQ,jD,Pj,Ur,fS,YH,Ta,bM,Ld,bW,Qh,UZ,Kn,FF,Qz]
def QR(s:ByteArray):Prop:=(1<=s.data.toList.length/\s.data.toList.length<=16)/\(∃b,s.data.toList[0]?=some b/\97<=b.toNat/\b.toNat<=122)/\s∉qY/\∀c∈s.data.toList,tK c
def Yf{n:Nd}(h:KH n):n.CN.ps.length<=9223372036854775807/\n.kids.length<=9223372036854775807/\∀k∈n.kids,KH k:=by
 obtain⟨a,b,c⟩:=(Pz n).1 h;exact⟨a.1,b,c⟩
def abA{α:Type}{l:List α}{P:α->Prop}:(∀(i:Nat) (y:α),l[i]?=some y->P y)↔∀y∈l,P y :=
 ⟨λh y hy=>(List.getElem?_of_mem hy).elim λi hi=>h i y hi,λh i y hi=>h y (List.mem_of_getElem? hi)⟩
def abf(s:ByteArray):HY s=some (mb (s∈qY)):=by
 rw[HY];simp only[Rt,MM,iT,ajL];refine smb ?_;simp only[qY,List.mem_cons,List.not_mem_nil,or_false]
def ahX(s:ByteArray):s=ByteArray.empty↔s.data.toList.length=0:=by
 constructor;intro h;rw[h];rfl;intro h;apply ByteArray.ext;apply Array.ext';rw[List.eq_nil_of_length_eq_zero h];rfl
def qH(s:ByteArray):D6 s=some (mb (QR s)):=by
 rw[D6];simp only[Rt,OY,MM,abf,Option.bind_some];unfold QR;by_cases h0:s=ByteArray.empty;rw[CH h0];exact dZ λh=>by have:=(ahX s).1 h0;omega
 have h1:s.data.toList.length≠0:=λh=>h0 ((ahX s).2 h);rw[CL h0];by_cases h2:16 < ((s.data.toList.length:Nat):Int);rw[CH h2];exact dZ λh=>by omega
 rw[CL h2];obtain⟨b,hb⟩:∃b,s.data.toList[0]?=some b:=⟨_,List.getElem?_eq_getElem (by omega)⟩
 rw[hb,cT (v:=false) (P:=λ_ y=>tK y) (by omega) (λi y _=>by
   simp only[It,OY,KR,MM,alR,ajC,ae0,ajB,ae1,apu,apt];congr 2;unfold tK;apply propext;omega)]
 simp only[Option.bind_some,iT,apy,abA];refine smb ?_;constructor;rintro⟨h3,h4,h5,h6⟩;exact⟨by omega,⟨b,rfl,by omega⟩,h5,h6⟩;rintro⟨h3,⟨c,hc,h4⟩,h5,h6⟩;cases hc;exact⟨by omega,by omega,h5,h6⟩
def ajY(s:ByteArray):HV s=some (mb (uL s)):=by
 rw[HV,KR,MM];unfold uL;by_cases h:((s.data.toList.length:Nat):Int)=3
 rw[CH h,cT (v:=false) (P:=λ_ y=>65<=y.toNat/\y.toNat<=90) (by omega) (λi y _=>by
   simp only[I2,OY,MM,ae0,ae1];congr 2;apply propext;omega),iT,abA]
 exact smb ⟨λh2=>⟨by omega,h2⟩,λh2=>h2.2⟩;rw[CL h];exact dZ λh2=>h (by omega)
def r5(s:ByteArray):ED s=some (mb (UJ s)):=by
 rw[ED];simp only[Rt,MM,ajY,Option.bind_some,ajL];rfl
def O6(n:Int):Prop:=1<=n/\n<=1000000
def Uu(n:Int):DL n=some (mb (O6 n)):=by
 rw[DL];simp only[Ti,MM,iT,ajK];rfl
def zV(n:Int):Prop:=0<=n/\n<=36524
def bY(s:ByteArray):Prop:=s=Ld\/s=bW\/s=Qh\/s=UZ
def abT(s:ByteArray):F7 s=some (mb (bY s)):=by
 rw[F7];simp only[Rt,MM,iT,ajL];rfl
def abV(a b:List Pc)(ha:a.length<=9223372036854775807):KO a b=some (mb (a=b)):=by
 rw[KO,KR,MM];by_cases h:((a.length:Nat):Int)=((b.length:Nat):Int)
 rw[CH h,cT (v:=false) (P:=λi y=>b[i]?=some y) ha (λi y hy=>by
   have hi:i < a.length:=(List.getElem?_eq_some_iff.1 hy).1;have hb:b[i]?=some b[i]:=List.getElem?_eq_getElem (by omega);simp only[LF];rw[hb];simp only[Option.bind_some]
   have hs:O7 y b[i]=mb (b[i]?=some y):=by
     rw[Bool.eq_iff_iff,Dh,hb];unfold O7;simp only[Bool.and_eq_true,Ru,beq_iff_eq,Option.some.injEq];generalize b[i]=z;cases y;cases z;simp only[Pc.mk.injEq];grind
   rw[hs,MM,alR,hb]),iT]
 refine smb ⟨λh2=>?_,λh2 i y hy=>by rw[<- h2];exact hy⟩;apply List.ext_getElem?;intro i;by_cases hi:i < a.length;rw[List.getElem?_eq_getElem hi,h2 i _ (List.getElem?_eq_getElem hi)];rw[List.getElem?_eq_none (by omega),List.getElem?_eq_none (by omega)];rw[CL h];exact dZ λh2=>h (by rw[h2])
def Gc(n f:Nd):Prop:=n.name=f.name/\n.unit=f.unit/\n.n=f.n/\n.fr=f.fr/\n.to=f.to/\n.known=f.known/\n.CN.den=f.CN.den/\n.CN.ps=f.CN.ps
def Xn(n f:Nd)(h:n.CN.ps.length<=9223372036854775807):B0 n f=some (mb (Gc n f)):=by
 rw[B0,abV _ _ h];simp only[Rt,KR,MM,Option.bind_some,ajK];rfl
end Mo
end Go.Proofs.YtpbkhogolfegfaaGreatDoor
namespace Go.Proofs.YtpbkhogolfegfaaGreatDoor
open AI Go
namespace Mo
set_option maxRecDepth 100000
set_option maxHeartbeats 4000000
def n4{p:Prop}(h:¬p):mb p=false:=by rw[VZ];exact h
def Out(r:Option (Bool×Int))(P:Prop)(t:Int):Prop:=∃z,r=some (mb P,z)/\(P->z=t)
def Out.congr{r:Option (Bool×Int)}{P Q:Prop}{t u:Int}(h:Out r P t)(hp:P↔Q)(ht:Q->t=u):Out r Q u:=by
 obtain⟨z,h1,h2⟩:=h;exact⟨z,by rw[h1,L1 hp],λq=>(h2 (hp.2 q)).trans (ht q)⟩
def JW{Q:Prop}{z u:Int}(h:¬Q):Out (some (false,z)) Q u:=⟨z,by rw[n4 h],λq=>absurd q h⟩
def Ut{P Q:Prop}{u:Int}(h:P↔Q):Out (some (mb P,u)) Q u:=⟨u,by rw[L1 h],λ_=>rfl⟩
def Ht{p Q:Prop}{A:Option (Bool×Int)}{z u:Int}(h:p->Out A Q u)(hq:Q->p):Out (KG p A (some (false,z))) Q u:=by
 by_cases hp:p;rw[CH hp];exact h hp;rw[CL hp];exact JW λq=>hp (hq q)
def jF{p Q:Prop}{A:Option (Bool×Int)}{z u:Int}(h:¬p->Out A Q u)(hq:Q->¬p):Out (KG p (some (false,z)) A) Q u:=by
 by_cases hp:p;rw[CH hp];exact JW λq=>hq q hp;rw[CL hp];exact h hp
mutual
def DQ:Nd->Nat
 | ⟨_,_,_,_,_,_,_,_,kids,_⟩=>1+GL kids
def GL:List Nd->Nat
 | []=>0
 | k::ks=>DQ k+GL ks
end
mutual
def Oi:Nd->Nat
 | ⟨_,_,_,_,_,_,_,_,kids,_⟩=>1+eW kids
def eW:List Nd->Nat
 | []=>0
 | k::ks=>max (Oi k) (eW ks)
end
def EB(n:Nd):DQ n=1+GL n.kids:=by cases n;rw[DQ]
def Np(n:Nd):Oi n=1+eW n.kids:=by cases n;rw[Oi]
def Xw{l:List Nd}{m:Nat}:eW l<=m↔∀k∈l,Oi k<=m:=by
 induction l with
 | nil=>simp[eW]
 | cons a l ih=>simp only[eW,Nat.max_le,ih,List.mem_cons,forall_eq_or_imp]
def Lb{l:List Nd}{k:Nd}(h:k∈l):DQ k<=GL l:=by
 induction l with
 | nil=>cases h
 | cons a l ih =>
   rw[GL];rcases List.mem_cons.1 h with rfl | h
   omega;have:=ih h;omega
def OE(l:List Nd):l.length<=GL l:=by
 induction l with
 | nil=>simp[GL]
 | cons a l ih=>rw[GL,EB];simp only[List.length_cons];omega
def R8{n k:Nd}(h:k∈n.kids):DQ k < DQ n:=by rw[EB n];have:=Lb h;omega
def Rf{g:Ck->Nd->Int->Option (Bool×Int)}{p:Nd->Prop}{d:Int}:∀{l:List Nd} {i:Nat} {c:Int},0<=c->c<=2000->(∀k∈l,∀c:Int,0<=c->c<=2000->Out (g ⟨c⟩ k d) (p k/\c+DQ k<=2000/\d+Oi k<=41) (c+DQ k)) ->
   Out ((Dl (δ:=Int) (ρ:=Bool×Int) (λ_ y (x:Int)=>(g ⟨x⟩ y d).bind λ(Ei,Bh)=>cond Ei (some (.nx Bh)) (some (.rt (false,Bh)))) (λx=>x) l i c).bind (PZ (λ(w:Int)=>some (true,w)) (λv=>some v)))
     ((∀k∈l,p k/\d+Oi k<=41)/\c+GL l<=2000) (c+GL l)
 | [],i,c,h0,h1,_=>⟨c,by rw[Dh.2 ⟨λk hk=>(by cases hk),by simp only[GL];omega⟩];rfl,λ_=>by simp[GL]⟩
 | y::l,i,c,h0,h1,hg=>by
   obtain⟨z,hz,h2⟩:=hg y (by simp) c h0 h1;rw[Dl,hz];simp only[Option.bind_some];by_cases hp:p y/\c+DQ y<=2000/\d+Oi y<=41;rw[Dh.2 hp,h2 hp];show Out ((Dl _ _ l (i+1) (c+DQ y)).bind _) _ _;refine(Rf (l:=l) (i:=i+1) (c:=c+DQ y) (by omega) hp.2.1 λk hk=>hg k (by simp[hk])).congr ?_ ?_;rw[GL];simp only[List.mem_cons,forall_eq_or_imp,Int.natCast_add];constructor;rintro⟨a,b⟩;exact⟨⟨⟨hp.1,hp.2.2⟩,a⟩,by omega⟩;rintro⟨⟨_,a⟩,b⟩;exact⟨a,by omega⟩;intro _;rw[GL];omega;rw[n4 hp];refine⟨z,?_,λq=>?_⟩;show some (false,z)=_;rw[n4];rintro⟨a,b⟩;rw[GL] at b;have:=a y (by simp);exact hp ⟨this.1,by omega,this.2⟩;exfalso;obtain⟨a,b⟩:=q;rw[GL] at b;have:=a y (by simp);exact hp ⟨this.1,by omega,this.2⟩
def Yd(n:Nd){c d:Int}(h0:0<=c)(h1:c<=2000):Out (Cw ⟨c⟩ n d) (c+1<=2000/\d<=40) (c+1):=by
 rw[Cw,Ha (by show _<=c+1/\c+1<=_;omega)];simp only[Ti,MM,Option.bind_some];by_cases h:c+1<=2000;rw[CH h];exact Ut ⟨λa=>⟨h,a⟩,λa=>a.2⟩;rw[CL h];exact JW λa=>h a.1
def dG(f:Fn)(i:Nat)(p:Pc):Prop:=p.fr<=999999999999/\(∀q,0 < i->f.ps[i - 1]?=some q->q.fr < p.fr)/\Xy p.AF f.den=some 0/\p.AF<=BN 999999999999 f.den/\BN (-999999999999) f.den<=p.AF/\p.Mh<=1000000/\-1000000<=p.Mh
def kF(f:Fn):Prop:=O6 f.den/\(1<=f.ps.length/\f.ps.length<=64)/\(∀x,f.ps[0]?=some x->x.fr=0)/\∀(i:Nat) p,f.ps[i]?=some p->dG f i p
def amp(f:Fn)(hl:f.ps.length<=9223372036854775807):Gt f=some (mb (kF f)):=by
 rw[Gt,Uu];simp only[Option.bind_some,MM,OY,KR];unfold kF;by_cases hr:O6 f.den;rotate_left;rw[CL hr];exact dZ λh=>hr h.1;rw[CH hr];by_cases h1:((f.ps.length:Nat):Int) < 1;rw[CH h1];exact dZ λh=>by omega
 rw[CL h1];by_cases h2:64 < ((f.ps.length:Nat):Int);rw[CH h2];exact dZ λh=>by omega
 rw[CL h2];have vC:f.ps[0]?=some f.ps[0]:=List.getElem?_eq_getElem (by omega);rw[vC];simp only[Option.bind_some];by_cases h3:f.ps[0].fr=0;rotate_left;rw[CL h3];exact dZ λh=>h3 (h.2.2.1 _ rfl);rw[CH h3];have aoF:f.den≠0:=by unfold O6 at hr;omega
 rw[cT (v:=false) (P:=λi y=>dG f i y) hl (λi y hy=>by
   have hi:i < f.ps.length:=(List.getElem?_eq_some_iff.1 hy).1;simp only[Hu,OY,MM,Ti,KR];have hd:∃z,Xy y.AF f.den=some z:=by unfold Xy;rw[if_neg aoF];exact⟨_,rfl⟩
   obtain⟨z,hz⟩:=hd;unfold dG;rw[hz];by_cases h0:(0:Int) < ((i:Nat):Int);rw[CH h0,QH (by omega)];have hq:f.ps[i - 1]?=some f.ps[i - 1]:=List.getElem?_eq_getElem (by omega)
   have hg:Mp f.ps (((i:Nat):Int) - 1)=some f.ps[i - 1]:=by
     unfold Mp;rw[show(((i:Nat):Int) - 1).toNat=i - 1 by omega];simp only[hq]
     first | rfl | (rw[if_pos (by omega)])
   rw[hg,hq];simp only[Option.bind_some,ae0,ae1,ajC,ajB];congr 2;apply propext;simp only[Option.some.injEq,forall_eq'];grind;rw[CL h0];simp only[Option.bind_some,ae0,ae1,ajC,ajB];congr 2;apply propext;simp only[Option.some.injEq];have:¬0 < i:=by omega
   grind),iT]
 refine smb ⟨λh=>⟨hr,by omega,λx hx=>by cases hx;exact h3,h⟩,λh=>h.2.2.2⟩
def Yg(s:ByteArray):Prop:=s=Fa\/s=jD\/s=Pj\/s=Ju\/s=Kq\/s=KJ\/s=JY\/s=RI\/s=M1\/s=Tx\/s=fS
def Qj(k:Nd):Prop:=k.kind=11/\k.unit=Ev/\O6 k.n
def Sj(n:Nd):Prop :=
 (n.kind=11/\UJ n.unit/\0<=n.n/\n.n<=999999999999/\(n.unit=GO->n.n<=1)/\n.kids.length=0/\Gc n ⟨0,ByteArray.empty,n.unit,n.n,0,0,0,⟨0,[]⟩,[],0⟩) \/
 (n.kind=12/\QR n.name/\n.kids.length=0/\Gc n ⟨0,n.name,ByteArray.empty,0,0,0,0,⟨0,[]⟩,[],0⟩) \/
 (n.kind=13/\O6 n.n/\n.kids.length=0/\Gc n ⟨0,ByteArray.empty,ByteArray.empty,n.n,0,0,0,⟨0,[]⟩,[],0⟩) \/
 (n.kind=14/\bY n.name/\n.kids.length=0/\Gc n ⟨0,n.name,ByteArray.empty,0,0,0,0,⟨0,[]⟩,[],0⟩) \/
 (n.kind=15/\n.kids.length=1/\Gc n ⟨0,ByteArray.empty,ByteArray.empty,0,0,0,0,⟨0,[]⟩,[],0⟩) \/
 (n.kind=16/\Gc n ⟨0,n.name,ByteArray.empty,0,0,0,0,⟨0,[]⟩,[],0⟩/\n.kids.length=2/\Yg n.name/\(n.name=Fa->∀k,n.kids[1]?=some k->Qj k)) \/
 (n.kind=17/\(n.name=Kn\/n.name=FF)/\Gc n ⟨0,n.name,ByteArray.empty,0,0,0,0,⟨0,[]⟩,[],0⟩/\2<=n.kids.length) \/
 (n.kind=18/\Gc n ⟨0,ByteArray.empty,ByteArray.empty,0,0,0,0,n.CN,[],0⟩/\kF n.CN/\n.kids.length=1)
mutual
def JF:Nd->Prop
 | ⟨kind,name,unit,n,fr,to,known,CN,kids,AF⟩=>Sj ⟨kind,name,unit,n,fr,to,known,CN,kids,AF⟩/\aal kids
def aal:List Nd->Prop
 | []=>True
 | k::ks=>JF k/\aal ks
end
def aam{l:List Nd}:aal l↔∀k∈l,JF k:=by
 induction l with
 | nil=>simp[aal]
 | cons k l ih=>simp[aal,ih]
def IX(n:Nd):JF n↔Sj n/\∀k∈n.kids,JF k:=by cases n;rw[JF,aam]
end Mo
end Go.Proofs.YtpbkhogolfegfaaGreatDoor
namespace Go.Proofs.YtpbkhogolfegfaaGreatDoor
open AI Go
namespace Mo
set_option maxRecDepth 100000
set_option maxHeartbeats 4000000
def L4{r:Option (Bool×Int)}{P Q:Prop}{t u:Int}{f:Bool×Int->Option (Bool×Int)}(h:Out r P t)(hT:P->Out (f (true,t)) Q u)(hF:∀z,¬P->Out (f (false,z)) Q u):Out (r.bind f) Q u:=by
 obtain⟨z,rfl,h2⟩:=h;by_cases hp:P;rw[Dh.2 hp,h2 hp];exact hT hp;rw[n4 hp];exact hF z hp
def ajW{Q:Prop}{t u:Int}(hq:Q)(h:t=u):Out (some (true,t)) Q u:=⟨t,by rw[Dh.2 hq],λ_=>h⟩
def L3{r:Option (Bool×Int)}{P Q:Prop}{t u:Int}(h:Out r P t)(hp:P↔Q)(ht:P->t=u):Out (r.bind λ(a,b)=>some (a,b)) Q u :=
 L4 h (λp=>ajW (hp.1 p) (ht p)) λ_ p=>JW λq=>p (hp.2 q)
section
variable {p q r:Prop} {z:Int}
def dD:KG p (some (mb q,z)) (some (false,z))=some (mb (p/\q),z):=by
 by_cases h:p;rw[CH h];congr 2;exact L1 ⟨λa=>⟨h,a⟩,λa=>a.2⟩;rw[CL h,n4];exact λa=>h a.1
def oF:KG p (some (false,z)) (some (mb q,z))=some (mb (¬p/\q),z):=by
 by_cases h:p;rw[CH h,n4];exact λa=>a.1 h;rw[CL h];congr 2;exact L1 ⟨λa=>⟨h,a⟩,λa=>a.2⟩
def vW:KG p (some (mb q,z)) (some (mb r,z))=some (mb ((p->q)/\(¬p->r)),z):=by
 by_cases h:p;rw[CH h];congr 2;exact L1 ⟨λa=>⟨λ_=>a,λb=>absurd h b⟩,λa=>a.1 h⟩;rw[CL h];congr 2;exact L1 ⟨λa=>⟨λb=>absurd b h,λ_=>a⟩,λa=>a.2 h⟩
end
section
variable {n:Nd}
def aoh(h:n.kind=11):Sj n↔UJ n.unit/\0<=n.n/\n.n<=999999999999/\(n.unit=GO->n.n<=1)/\n.kids.length=0/\Gc n ⟨0,ByteArray.empty,n.unit,n.n,0,0,0,⟨0,[]⟩,[],0⟩:=by unfold Sj;simp[h]
def aoi(h:n.kind=12):Sj n↔QR n.name/\n.kids.length=0/\Gc n ⟨0,n.name,ByteArray.empty,0,0,0,0,⟨0,[]⟩,[],0⟩:=by unfold Sj;simp[h]
def aoj(h:n.kind=13):Sj n↔O6 n.n/\n.kids.length=0/\Gc n ⟨0,ByteArray.empty,ByteArray.empty,n.n,0,0,0,⟨0,[]⟩,[],0⟩:=by unfold Sj;simp[h]
def aok(h:n.kind=14):Sj n↔bY n.name/\n.kids.length=0/\Gc n ⟨0,n.name,ByteArray.empty,0,0,0,0,⟨0,[]⟩,[],0⟩:=by unfold Sj;simp[h]
def aol(h:n.kind=15):Sj n↔n.kids.length=1/\Gc n ⟨0,ByteArray.empty,ByteArray.empty,0,0,0,0,⟨0,[]⟩,[],0⟩:=by unfold Sj;simp[h]
def aom(h:n.kind=16):Sj n↔Gc n ⟨0,n.name,ByteArray.empty,0,0,0,0,⟨0,[]⟩,[],0⟩/\n.kids.length=2/\Yg n.name/\(n.name=Fa->∀k,n.kids[1]?=some k->Qj k):=by unfold Sj;simp[h]
def aon(h:n.kind=17):Sj n↔(n.name=Kn\/n.name=FF)/\Gc n ⟨0,n.name,ByteArray.empty,0,0,0,0,⟨0,[]⟩,[],0⟩/\2<=n.kids.length:=by unfold Sj;simp[h]
def aoo(h:n.kind=18):Sj n↔Gc n ⟨0,ByteArray.empty,ByteArray.empty,0,0,0,0,n.CN,[],0⟩/\kF n.CN/\n.kids.length=1:=by unfold Sj;simp[h]
def aeo(h:Sj n):n.kind=11\/n.kind=12\/n.kind=13\/n.kind=14\/n.kind=15\/n.kind=16\/n.kind=17\/n.kind=18:=by
 unfold Sj at h;rcases h with h | h | h | h | h | h | h | h
 all_goals
   have:=h.1;simp[this]
end
def Ot(l:List Nd)(c d:Int):Prop:=(∀k∈l,JF k/\d+Oi k<=41)/\c+GL l<=2000
def ahG{l:List Nd}{c d:Int}(h:l.length=0)(hc:c<=2000):Ot l c d/\c=c+GL l:=by
 obtain rfl:=List.eq_nil_of_length_eq_zero h;exact⟨⟨(λk hk=>(by cases hk)),(by simp only[GL];omega)⟩,(by simp[GL])⟩
def ahH{x:Nd}{c d:Int}:Ot [x] c d↔JF x/\c+DQ x<=2000/\d+Oi x<=41:=by
 unfold Ot;simp only[List.mem_singleton,forall_eq,GL,Nat.add_zero];exact⟨λa=>⟨a.1.1,a.2,a.1.2⟩,λa=>⟨⟨a.1,a.2.2⟩,a.2.1⟩⟩
def iP{x y:Nd}{c d:Int}:Ot [x,y] c d↔(JF x/\c+DQ x<=2000/\d+Oi x<=41)/\JF y/\c+DQ x+DQ y<=2000/\d+Oi y<=41:=by
 unfold Ot;simp only[List.mem_cons,List.not_mem_nil,or_false,forall_eq_or_imp,forall_eq,GL,Nat.add_zero,Int.natCast_add];constructor;rintro⟨⟨⟨a,b⟩,c',d'⟩,e⟩;exact⟨⟨a,by omega,b⟩,c',by omega,d'⟩;rintro⟨⟨a,b,c'⟩,d',e,f⟩;exact⟨⟨⟨a,c'⟩,d',f⟩,by omega⟩
abbrev ExS(g:Ck->Nd->Int->Option (Bool×Int))(n:Nd):Prop:=∀(c d:Int),0<=c->c<=2000->0<=d->d<=41->Out (g ⟨c⟩ n d) (JF n/\c+DQ n<=2000/\d+Oi n<=41) (c+DQ n)
def ZZ{g:Ck->Nd->Int->Option (Bool×Int)}{b a:Ck->Nd->Int->Option (Bool×Int)}{l:Ck->List Nd->Int->Option (Bool×Int)}{n:Nd}(h:ExS g n){c d:Int}(h0:0<=c)(h1:c<=2000)(h2:0<=d)(h3:d<=41) :
   Out (C4 g b a l ⟨c⟩ n d) ((JF n/\Qj n)/\c+DQ n<=2000/\d+Oi n<=41) (c+DQ n):=by
 rw[C4];simp only[KR,Rt,MM,Uu,Option.bind_some];refine L4 (h c d h0 h1 h2 h3) (λhp=>?_) λz hp=>JW λq=>hp ⟨q.1.1,q.2⟩;show Out (KG (n.kind=11) (KG (n.unit=Ev) (some (mb (O6 n.n),c+DQ n)) (some (false,c+DQ n))) (some (false,c+DQ n))) _ _;rw[dD,dD];exact Ut ⟨λa=>⟨⟨hp.1,a⟩,hp.2⟩,λa=>a.1.2⟩
def uB{g n':Ck->Nd->Int->Option (Bool×Int)}{b:Ck->Nd->Int->Option (Bool×Int)}{l:Ck->List Nd->Int->Option (Bool×Int)}{n:Nd}(hg:∀k∈n.kids,ExS g k)
   (hn:∀k∈n.kids,∀c d:Int,0<=c->c<=2000->0<=d->d<=41->Out (n' ⟨c⟩ k d) ((JF k/\Qj k)/\c+DQ k<=2000/\d+Oi k<=41) (c+DQ k)) {c d:Int} (h0:0<=c) (h1:c<=2000) (h2:0<=d) (h3:d<=40) :
   Out (C0 g b n' l ⟨c⟩ n d) ((n.kids.length=2/\Yg n.name/\(n.name=Fa->∀k,n.kids[1]?=some k->Qj k))/\Ot n.kids c (d+1)) (c+GL n.kids):=by
 rw[C0,Ha (by omega)];simp only[KR,Rt,MM];generalize hl:n.kids=ks at *;by_cases hlen:((ks.length:Nat):Int)=2;rotate_left;rw[CL hlen];exact JW λq=>hlen (by have:=q.1.1;omega);rw[CH hlen]
 match ks,hlen with
 | [x,y],_ =>
 simp only[List.getElem?_cons_zero,List.getElem?_cons_succ,Option.bind_some];refine L4 (hg x (by simp) c (d+1) h0 h1 (by omega) (by omega)) (λhx=>?_) λz hx=>JW λq=>hx (iP.1 q.2).1;dsimp only;rw[cond_true];have Oo:GL [x,y]=DQ x+DQ y:=by simp[GL]
 have hy:=λhc=>hg y (by simp) (c+DQ x) (d+1) (by omega) hc (by omega) (by omega);have hn':=λhc=>hn y (by simp) (c+DQ x) (d+1) (by omega) hc (by omega) (by omega);have hy:=hy hx.2.1;have hn':=hn' hx.2.1;by_cases hs:n.name=Fa;rw[CH hs];refine L3 hn' ⟨λa=>⟨⟨rfl,.inl hs,λ_ k hk=>by cases hk;exact a.1.2⟩,iP.2 ⟨hx,a.1.1,a.2⟩⟩,λa=>?_⟩ (λa=>by rw[Oo];omega);have:=(iP.1 a.2).2;exact⟨⟨this.1,a.1.2.2 hs y rfl⟩,this.2⟩;rw[CL hs]
 have fin:∀iF:Yg n.name,Out ((g ⟨c+DQ x⟩ y (d+1)).bind λ(a,b)=>some (a,b)) ((([x,y]:List Nd).length=2/\Yg n.name/\(n.name=Fa->∀k,some y=some k->Qj k))/\Ot [x,y] c (d+1)) (c+GL [x,y]):=λiF =>
   L3 hy ⟨λa=>⟨⟨rfl,iF,λe=>absurd e hs⟩,iP.2 ⟨hx,a⟩⟩,λa=>(iP.1 a.2).2⟩ (λa=>by rw[Oo];omega)
 have step:∀{s:ByteArray} {A:Option (Bool×Int)},(n.name=s->Yg n.name)->(n.name≠s->Out A ((([x,y]:List Nd).length=2/\Yg n.name/\(n.name=Fa->∀k,some y=some k->Qj k))/\Ot [x,y] c (d+1)) (c+GL [x,y])) ->
     Out (KG (n.name=s) ((g ⟨c+DQ x⟩ y (d+1)).bind λ(a,b)=>some (a,b)) A) ((([x,y]:List Nd).length=2/\Yg n.name/\(n.name=Fa->∀k,some y=some k->Qj k))/\Ot [x,y] c (d+1)) (c+GL [x,y]):=by
   intro s A h4 h5;by_cases h:n.name=s;rw[CH h];exact fin (h4 h);rw[CL h];exact h5 h
 refine step (λe=>by unfold Yg;simp[e]) λe1=>?_;refine step (λe=>by unfold Yg;simp[e]) λe2=>?_;refine step (λe=>by unfold Yg;simp[e]) λe3=>?_;refine step (λe=>by unfold Yg;simp[e]) λe4=>?_;refine step (λe=>by unfold Yg;simp[e]) λe5=>?_;refine step (λe=>by unfold Yg;simp[e]) λe6=>?_;refine step (λe=>by unfold Yg;simp[e]) λe7=>?_;refine step (λe=>by unfold Yg;simp[e]) λe8=>?_;refine step (λe=>by unfold Yg;simp[e]) λe9=>?_;refine step (λe=>by unfold Yg;simp[e]) λe10=>?_
 exact JW λq=>by
   have:=q.1.2.1;unfold Yg at this;simp[hs,e1,e2,e3,e4,e5,e6,e7,e8,e9,e10] at this
def abl{A L B T:Prop}{x:Int}:(A/\¬x < 0/\¬999999999999 < x/\(T->¬1 < x/\L/\B)/\(¬T->L/\B))↔A/\0<=x/\x<=999999999999/\(T->x<=1)/\L/\B:=by
 constructor;rintro⟨a,b,c,d,e⟩;by_cases t:T;exact⟨a,by omega,by omega,λ_=>by have:=(d t).1;omega,(d t).2⟩;exact⟨a,by omega,by omega,λh=>absurd h t,e t⟩;rintro⟨a,b,c,d,e⟩;exact⟨a,by omega,by omega,λt=>⟨by have:=d t;omega,e⟩,λ_=>e⟩
def aaj:∀(q:Nat) (n:Nd),KH n->3*DQ n<=q->ExS (AH q) n:=by
 intro q
 induction q using Nat.strongRecOn with
 | _ q ih =>
 intro n Uj hq c d h0 h1 h2 h3;have Oo:=EB n;obtain⟨q,rfl⟩:∃k,q=k+1:=⟨q - 1,by omega⟩;obtain⟨qQ,hkl,fB⟩:=Yf Uj;have hE:∀k∈n.kids,∀q',q<=q'+2->q' < q+1->ExS (AH q') k:=λk hk q' h4 h5=>ih q' h5 k (fB k hk) (by have:=Lb hk;omega);rw[AH,D9];refine L4 (Yd n h0 h1) (λhp=>?_) λz hp=>JW λa=>hp ⟨by omega,by have:=Np n;omega⟩;dsimp only;rw[cond_true];refine Out.congr (P:=Sj n/\Ot n.kids (c+1) (d+1)) (t:=(c+1)+GL n.kids) ?_ ?_ (λ_=>by omega);rotate_left;rw[IX,Np];unfold Ot;have hd:=@Xw n.kids;constructor;rintro⟨a,b,e⟩;refine⟨⟨a,λk hk=>(b k hk).1⟩,by omega,?_⟩;have:=(hd (m:=(40 - d).toNat)).2 λk hk=>by have:=(b k hk).2;omega
 omega;rintro⟨⟨a,b⟩,e,f⟩;refine⟨a,λk hk=>⟨b k hk,?_⟩,by omega⟩;have:=(hd (m:=eW n.kids)).1 (Nat.le_refl _) k hk;omega;have ZM:=hp.1;have ZN:=hp.2;rw[Ha (a:=d) (b:=1) (by omega)];have e0:(((n.kids.length:Nat):Int)=0)=(n.kids.length=0):=propext (by omega);simp only[KR,Ti,OY,Rt,MM,r5,qH,Uu,abT,amp _ qQ,Xn _ _ qQ,Option.bind_some,e0];have XR:∀{B:Prop},(B↔Sj n)->(B->n.kids.length=0)->Out (some (mb B,c+1)) (Sj n/\Ot n.kids (c+1) (d+1)) (c+1+GL n.kids):=λhB hk=>(Ut hB).congr ⟨λa=>⟨a,(ahG (hk (hB.2 a)) ZM).1⟩,λa=>a.1⟩ λa=>(ahG (d:=d+1) (hk (hB.2 a.1)) ZM).2
 have aaZ:∀{B:Prop},(Sj n↔B/\n.kids.length=1)->B->n.kids.length=1->Out ((n.kids[0]?).bind λx=>(AH q ⟨c+1⟩ x (d+1)).bind λ(a,b)=>some (a,b)) (Sj n/\Ot n.kids (c+1) (d+1)) (c+1+GL n.kids):=by
   intro B hB hb hl;have F8:=λk hk=>hE k hk q (by omega) (by omega);have hx:=hB.2 ⟨hb,hl⟩;generalize n.kids=ks at *
   match ks,hl with
   | [x],_ =>
   simp only[List.getElem?_cons_zero,Option.bind_some];refine L3 (F8 x (by simp) (c+1) (d+1) (by omega) ZM (by omega) (by omega)) ⟨λa=>⟨hx,ahH.2 a⟩,λa=>ahH.1 a.2⟩ λ_=>?_;simp[GL]
 by_cases k11:n.kind=11;rw[CH k11];simp only[dD,oF,vW];refine XR ?_ ?_;rw[aoh k11];exact abl;intro h;exact(abl.1 h).2.2.2.2.1;rw[CL k11];by_cases k12:n.kind=12;rw[CH k12];simp only[dD,oF,vW];refine XR ?_ ?_;rw[aoi k12];intro h;exact h.2.1;rw[CL k12];by_cases k13:n.kind=13;rw[CH k13];simp only[dD,oF,vW];refine XR ?_ ?_;rw[aoj k13];intro h;exact h.2.1;rw[CL k13];by_cases k14:n.kind=14;rw[CH k14];simp only[dD,oF,vW];refine XR ?_ ?_;rw[aok k14];intro h;exact h.2.1;rw[CL k14];by_cases k15:n.kind=15;rw[CH k15];have e:=aol k15;refine Ht (λhl=>Ht (λhb=>aaZ (e.trans And.comm) hb (by omega)) λa=>(e.1 a.1).2) λa=>?_;have:=(e.1 a.1).1;omega;rw[CL k15];by_cases k16:n.kind=16;rw[CH k16];have e:=aom k16;refine Ht (λhb=>?_) λa=>(e.1 a.1).1;obtain⟨q,rfl⟩:∃k,q=k+1:=⟨q - 1,by omega⟩;rw[AU];refine L3 (uB (g:=AH q) (b:=AU q) (n':=AK q) (l:=AG q) (λk hk=>hE k hk q (by omega) (by omega)) (λk hk c d a1 a2 a3 a4=>?_) (by omega) ZM h2 ZN) ?_ λ_=>rfl;obtain⟨q,rfl⟩:∃k,q=k+1:=⟨q - 1,by have:=R8 hk;have:=EB k;omega⟩;rw[AK];exact ZZ (hE k hk q (by omega) (by omega)) a1 a2 a3 a4;rw[e];exact⟨λa=>⟨⟨hb,a.1⟩,a.2⟩,λa=>⟨a.1.2,a.2⟩⟩;rw[CL k16];by_cases k17:n.kind=17;rw[CH k17];have e:=aon k17
 have JS:(n.name=Kn\/n.name=FF)->Out (KG (Gc n ⟨0,n.name,ByteArray.empty,0,0,0,0,⟨0,[]⟩,[],0⟩) (KG (2<=((n.kids.length:Nat):Int)) ((AG q ⟨c+1⟩ n.kids (d+1)).bind λ(a,b)=>some (a,b)) (some (false,c+1))) (some (false,c+1))) (Sj n/\Ot n.kids (c+1) (d+1)) (c+1+GL n.kids):=by
   intro hn;refine Ht (λhb=>Ht (λhl=>?_) λa=>?_) λa=>(e.1 a.1).2.1;obtain⟨q,rfl⟩:∃k,q=k+1:=⟨q - 1,by have:=OE n.kids;omega⟩;rw[AG,De,Vl hkl,List.drop_zero];dsimp only;refine L3 (Rf (g:=AH q) (p:=JF) (d:=d+1) (by omega) ZM λk hk c' b0 b1=>hE k hk q (by omega) (by omega) c' (d+1) b0 b1 (by omega) (by omega)) ?_ λ_=>rfl;rw[e];exact⟨λa=>⟨⟨hn,hb,by omega⟩,a⟩,λa=>a.2⟩;have:=(e.1 a.1).2.2;omega
 by_cases ZR:n.name=Kn;rw[CH ZR];exact JS (.inl ZR);rw[CL ZR];exact Ht (λhn2=>JS (.inr hn2)) λa=>(e.1 a.1).1.resolve_left ZR;rw[CL k17];by_cases k18:n.kind=18;rw[CH k18];have e:=aoo k18;refine Ht (λhb=>Ht (λht=>Ht (λhl=>aaZ (B:=Gc n ⟨0,ByteArray.empty,ByteArray.empty,0,0,0,0,n.CN,[],0⟩/\kF n.CN) (e.trans (by rw[and_assoc])) ⟨hb,ht⟩ (by omega)) λa=>?_) λa=>(e.1 a.1).2.1) λa=>(e.1 a.1).1;have:=(e.1 a.1).2.2;omega;rw[CL k18];exact JW λa=>by have:=aeo a.1;omega
def Le{β:Type}(a b:Option β):Prop:=∀y,a=some y->b=some y
section
variable {α β γ δ ρ:Type}
def Le.refl(a:Option β):Le a a:=λ_ h=>h
def Ou{a a':Option α}{f g:α->Option β}(h:Le a a')(k:∀x,Le (f x) (g x)):Le (a.bind f) (a'.bind g):=by
 intro y hy;cases a with
 | none=>cases hy
 | some x=>rw[h x rfl];exact k x y hy
def rA{b:Bool}{x x' y y':Option β}(h:Le x x')(k:Le y y'):Le (cond b x y) (cond b x' y'):=by cases b;exact k;exact h
def ajG{n:Nat}{x x':Option β}(h:Le x x'):Le (SR n x) (SR n x'):=by
 unfold SR;split;exact h;exact Le.refl _
def rB{body ahf:Nat->α->γ->Option (Lp γ δ ρ)}{done:γ->δ}(h:∀i y x,Le (body i y x) (ahf i y x)):∀(l:List α) (i:Nat) (x:γ),Le (Dl body done l i x) (Dl ahf done l i x)
 | [],_,_=>Le.refl _
 | a::l,i,x=>by
   rw[Dl,Dl];refine Ou (h i a x) λz=>?_;cases z with
   | nx x'=>exact rB h l (i+1) x'
   | ex d=>exact Le.refl _
   | rt v=>exact Le.refl _
end
def cA:∀q:Nat,(∀c n d,Le (AH q c n d) (AH (q+1) c n d))/\(∀c n d,Le (AU q c n d) (AU (q+1) c n d))/\(∀c n d,Le (AK q c n d) (AK (q+1) c n d))/\(∀c n d,Le (AG q c n d) (AG (q+1) c n d))
 | 0=>⟨(λ_ _ _ _ h=>nomatch h),(λ_ _ _ _ h=>nomatch h),(λ_ _ _ _ h=>nomatch h),(λ_ _ _ _ h=>nomatch h)⟩
 | q+1=>by
   obtain⟨i1,i2,i3,i4⟩:=cA q;refine⟨λc n d=>?_,λc n d=>?_,λc n d=>?_,λc n d=>?_⟩
   . rw[AH,AH,D9,D9]
     repeat' first
       | exact Le.refl _
       | exact i1 _ _ _
       | exact i2 _ _ _
       | exact i4 _ _ _
       | refine rA ?_ ?_
       | refine Ou ?_ λ⟨_,_⟩=>?_
       | refine Ou ?_ λ_=>?_
   . rw[AU,AU,C0,C0]
     repeat' first
       | exact Le.refl _
       | exact i1 _ _ _
       | exact i3 _ _ _
       | refine rA ?_ ?_
       | refine Ou ?_ λ⟨_,_⟩=>?_
       | refine Ou ?_ λ_=>?_
   rw[AK,AK,C4,C4];exact Ou (i1 _ _ _) λ_=>Le.refl _;rw[AG,AG,De,De];refine Ou (ajG (rB (λi y x=>?_) _ _ _)) λ_=>Le.refl _;rw[DK,DK];exact Ou (i1 _ _ _) λ_=>Le.refl _
def aai{β:Type}{f:Nat->Option β}(h:∀q,Le (f q) (f (q+1))){q:Nat}{y:β}(hy:f q=some y):uR f=some y:=by
 refine S9 q λm hm=>?_
 induction m with
 | zero=>obtain rfl:q=0:=by omega
         exact hy
 | succ m ih =>
   rcases Nat.lt_or_ge m q with GI | On
   obtain rfl:q=m+1:=by omega
   exact hy;exact h m y (ih On)
def aak{n:Nd}(Uj:KH n):ExS GD n:=by
 intro c d h0 h1 h2 h3;obtain⟨z,hz,hz2⟩:=aaj (3*DQ n) n Uj (Nat.le_refl _) c d h0 h1 h2 h3;exact⟨z,aai (λq=>(cA q).1 _ _ _) hz,hz2⟩
def abL{n:Nd}(Uj:KH n){c d:Int}(h0:0<=c)(h1:c<=2000)(h2:0<=d)(h3:d<=41):Out (FH ⟨c⟩ n d) ((JF n/\Qj n)/\c+DQ n<=2000/\d+Oi n<=41) (c+DQ n):=by
 obtain⟨z,hz,hz2⟩:=ZZ (g:=AH (3*DQ n)) (b:=AU (3*DQ n)) (a:=AK (3*DQ n)) (l:=AG (3*DQ n)) (aaj (3*DQ n) n Uj (Nat.le_refl _)) h0 h1 h2 h3;exact⟨z,aai (q:=3*DQ n+1) (λq=>(cA q).2.2.1 _ _ _) (by rw[AK];exact hz),hz2⟩
end Mo
end Go.Proofs.YtpbkhogolfegfaaGreatDoor
namespace Go.Proofs.YtpbkhogolfegfaaGreatDoor
open AI Go
namespace Mo
set_option maxRecDepth 100000
set_option maxHeartbeats 4000000
abbrev z0:Nd:=⟨0,ByteArray.empty,ByteArray.empty,0,0,0,0,⟨0,[]⟩,[],0⟩
def ajZ(n:Int):Gi n=some (mb (zV n)):=by
 rw[Gi];simp only[Ti,MM,iT,ajK];rfl
def QN(n:Nd):Prop:=n.kind=5/\(0<=n.n/\n.n<=1000000)/\n.kids.length=0/\zV n.fr/\(n.fr < n.to/\n.to<=36525)/\zV n.known/\Gc n ⟨0,ByteArray.empty,ByteArray.empty,n.n,n.fr,n.to,n.known,⟨0,[]⟩,[],0⟩
def Kb(n:Nd):Prop:=Gc n z0/\(n.kind=7->0 < n.kids.length/\∀k∈n.kids,JF k/\Qj k)/\(n.kind≠7->n.kids.length=1/\∀k∈n.kids,JF k)
def rC{n:Nd}(h:n.kids.length=0):DQ n=1/\Oi n=1:=by
 have:=List.eq_nil_of_length_eq_zero h;rw[EB,Np,this];exact⟨rfl,rfl⟩
def ai1{n:Nd}(Uj:KH n){c d:Int}(h0:0<=c)(h1:c<=2000):Out (E8 ⟨c⟩ n d) (QN n/\c+DQ n<=2000/\d+Oi n<=41) (c+DQ n):=by
 obtain⟨qQ,hkl,fB⟩:=Yf Uj;have Oo:=EB n;have hdp:=Np n;rw[E8];refine L4 (Yd n h0 h1) (λhp=>?_) λz hp=>JW λa=>hp ⟨by omega,by omega⟩;dsimp only;rw[cond_true];simp only[KR,Ti,OY,MM,ajZ,Xn _ _ qQ,Option.bind_some,dD,oF]
 have key:(n.kind=5/\¬n.n < 0/\¬1000000 < n.n/\¬(0:Int) < ((n.kids.length:Nat):Int)/\zV n.fr/\¬n.to<=n.fr/\¬36525 < n.to/\zV n.known/\Gc n ⟨0,ByteArray.empty,ByteArray.empty,n.n,n.fr,n.to,n.known,⟨0,[]⟩,[],0⟩)↔QN n:=by
   unfold QN;constructor;rintro⟨a,b,c',e,f,g,h,i,j⟩;exact⟨a,⟨by omega,by omega⟩,by omega,f,⟨by omega,by omega⟩,i,j⟩;rintro⟨a,b,c',f,g,i,j⟩;exact⟨a,by omega,by omega,by omega,f,by omega,by omega,i,j⟩
 refine(Ut key).congr ⟨λa=>⟨a,?_⟩,λa=>a.1⟩ λa=>?_;have:=rC a.2.2.1;omega;have:=rC a.1.2.2.1;omega
def zF{n:Nd}(Uj:KH n){c d:Int}(h0:0<=c)(h1:c<=2000)(h2:0<=d):Out (DD ⟨c⟩ n d) (Kb n/\c+DQ n<=2000/\d+Oi n<=41) (c+DQ n):=by
 obtain⟨qQ,hkl,fB⟩:=Yf Uj;have Oo:=EB n;have hdp:=Np n;have hd:=@Xw n.kids;rw[DD];refine L4 (Yd n h0 h1) (λhp=>?_) λz hp=>JW λa=>hp ⟨by omega,by omega⟩;dsimp only;rw[cond_true,Ha (a:=d) (b:=1) (by omega)];simp only[KR,OY,MM,Xn _ _ qQ,Option.bind_some];have ZM:=hp.1;have ZN:=hp.2
 have RZ:(∀k∈n.kids,d+1+Oi k<=41)↔d+Oi n<=41:=by
   constructor;intro h;have:=(hd (m:=(40 - d).toNat)).2 λk hk=>by have:=h k hk;omega
   omega;intro h k hk;have:=(hd (m:=eW n.kids)).1 (Nat.le_refl _) k hk;omega
 refine Ht (λhb=>?_) λa=>a.1.1;by_cases k7:n.kind=7;rw[CH k7];refine Ht (λhl=>?_) λa=>by have:=(a.1.2.1 k7).1;omega
 rw[Ey,Vl hkl,List.drop_zero];dsimp only;refine L3 (Rf (g:=FH) (p:=λk=>JF k/\Qj k) (d:=d+1) (by omega) ZM λk hk c' b0 b1=>abL (fB k hk) b0 b1 (by omega) (by omega)) ⟨λa=>⟨⟨hb,λ_=>⟨by omega,λk hk=>(a.1 k hk).1⟩,λh=>absurd k7 h⟩,by omega,RZ.1 λk hk=>(a.1 k hk).2⟩,λa=>⟨λk hk=>⟨(a.1.2.1 k7).2 k hk,RZ.2 a.2.2 k hk⟩,by omega⟩⟩ λ_=>by omega
 . rw[CL k7]
   refine Ht (λhl=>?_) λa=>by have:=(a.1.2.2 k7).1;omega
   have hl1:n.kids.length=1:=by omega
   unfold Kb;generalize n.kids=ks at *
   match ks,hl1 with
   | [x],_ =>
   simp only[List.getElem?_cons_zero,Option.bind_some];have e1:GL [x]=DQ x:=by simp[GL]
   refine L3 (aak (fB x (by simp)) (c+1) (d+1) (by omega) ZM (by omega) (by omega)) ⟨λa=>⟨⟨hb,λh=>absurd h k7,λ_=>⟨rfl,λk hk=>by rw[List.mem_singleton.1 hk];exact a.1⟩⟩,by omega,RZ.1 λk hk=>by rw[List.mem_singleton.1 hk];exact a.2.2⟩,λa=>⟨(a.1.2.2 k7).2 x (by simp),by omega,RZ.2 a.2.2 x (by simp)⟩⟩ λ_=>by omega
def GR(k:Int):List Nd->Nat
 | []=>0
 | a::l=>(if a.kind=k then 1 else 0)+GR k l
def kinds(l:List Nd):Prop:=∀k∈l,6<=k.kind/\k.kind<=8
def X2{y:Int}:∀{l:List Nd} {i:Nat} {a b c:Int},0<=a->0<=b->0<=c->a+l.length<=9223372036854775807->b+l.length<=9223372036854775807->c+l.length<=9223372036854775807 ->
   Dl (λi z x=>DT y i z x.1 x.2.1 x.2.2) (λx=>(x.1,x.2.1,x.2.2)) l i (a,b,c)=some (KG (kinds l) (.inl (a+GR 6 l,b+GR 7 l,c+GR 8 l)) (.inr (false,y)))
 | [],i,a,b,c,_,_,_,_,_,_=>by rw[CH (show kinds [] from λk hk=>(by cases hk))];simp[Dl,GR]
 | z::l,i,a,b,c,h1,h2,h3,h4,h5,h6=>by
   simp only[List.length_cons] at h4 h5 h6;rw[Dl,DT];simp only[OY,KR,MM];have hk:kinds (z::l)↔(6<=z.kind/\z.kind<=8)/\kinds l:=by unfold kinds;simp
   have go:∀{a' b' c':Int},0<=a'->0<=b'->0<=c'->a'<=a+1->b'<=b+1->c'<=c+1->6<=z.kind/\z.kind<=8->a'+GR 6 l=a+GR 6 (z::l)->b'+GR 7 l=b+GR 7 (z::l)->c'+GR 8 l=c+GR 8 (z::l) ->
       (some (Lp.nx (a',b',c'))).bind (Ry (Dl (λi z x=>DT y i z x.1 x.2.1 x.2.2) (λx=>(x.1,x.2.1,x.2.2)) l (i+1)))=some (KG (kinds (z::l)) (.inl (a+GR 6 (z::l),b+GR 7 (z::l),c+GR 8 (z::l))) (.inr (false,y))):=by
     intro a' b' c' g1 g2 g3 g4 g5 g6 gk e1 e2 e3;show Dl _ _ l (i+1) (a',b',c')=_;rw[X2 g1 g2 g3 (by omega) (by omega) (by omega),e1,e2,e3];by_cases hl:kinds l;rw[CH hl,CH (hk.2 ⟨gk,hl⟩)];rw[CL hl,CL λq=>hl (hk.1 q).2]
   by_cases k6:z.kind < 6;rw[CH k6,CL λq=>by have:=(hk.1 q).1;omega];rfl;rw[CL k6];by_cases k8:8 < z.kind;rw[CH k8,CL λq=>by have:=(hk.1 q).1;omega];rfl;rw[CL k8];by_cases e6:z.kind=6;rw[CH e6,Ha (by omega)];exact go (by omega) h2 h3 (by omega) (by omega) (by omega) (by omega) (by simp[GR,e6];omega) (by simp[GR,e6]) (by simp[GR,e6]);rw[CL e6];by_cases e7:z.kind=7;rw[CH e7,Ha (by omega)];exact go h1 (by omega) h3 (by omega) (by omega) (by omega) (by omega) (by simp[GR,e7]) (by simp[GR,e7];omega) (by simp[GR,e7]);rw[CL e7];have e8:z.kind=8:=by omega
   rw[CH e8,Ha (by omega)];exact go h1 h2 (by omega) (by omega) (by omega) (by omega) (by omega) (by simp[GR,e8]) (by simp[GR,e8]) (by simp[GR,e8];omega)
def tU(n:Nd):Prop:=O6 n.n/\QR n.name/\Gc n ⟨0,n.name,ByteArray.empty,n.n,0,0,0,⟨0,[]⟩,[],0⟩/\∃h cs,n.kids=h::cs/\kinds cs/\GR 8 cs=1/\GR 7 cs<=1/\QN h/\∀k∈cs,Kb k
def Ik(n:Nd):Prop :=
 (n.kind=2/\QR n.name/\UJ n.unit/\n.kids.length=0/\Gc n ⟨0,n.name,n.unit,0,0,0,0,⟨0,[]⟩,[],0⟩) \/
 (n.kind=3/\QR n.name/\UJ n.unit/\1<=n.n/\n.n<=4/\n.kids.length=0/\Gc n ⟨0,n.name,n.unit,n.n,0,0,0,⟨0,[]⟩,[],0⟩) \/
 (n.kind=4/\tU n)
def it2{n:Nd}(h:n.kind=2):Ik n↔QR n.name/\UJ n.unit/\n.kids.length=0/\Gc n ⟨0,n.name,n.unit,0,0,0,0,⟨0,[]⟩,[],0⟩:=by unfold Ik;simp[h]
def it3{n:Nd}(h:n.kind=3):Ik n↔QR n.name/\UJ n.unit/\1<=n.n/\n.n<=4/\n.kids.length=0/\Gc n ⟨0,n.name,n.unit,n.n,0,0,0,⟨0,[]⟩,[],0⟩:=by unfold Ik;simp[h]
def it4{n:Nd}(h:n.kind=4):Ik n↔tU n:=by unfold Ik;simp[h]
def aeW{n:Nd}(h:Ik n):n.kind=2\/n.kind=3\/n.kind=4:=by
 unfold Ik at h;rcases h with h | h | h
 all_goals
   have:=h.1;simp[this]
def ajy{n:Nd}(Uj:KH n){c d:Int}(h0:0<=c)(h1:c<=2000)(h2:0<=d):Out (Ea ⟨c⟩ n d) (Ik n/\c+DQ n<=2000/\d+Oi n<=41) (c+DQ n):=by
 obtain⟨qQ,hkl,fB⟩:=Yf Uj;have Oo:=EB n;have hdp:=Np n;have hd:=@Xw n.kids;rw[Ea];refine L4 (Yd n h0 h1) (λhp=>?_) λz hp=>JW λa=>hp ⟨by omega,by omega⟩;dsimp only;rw[cond_true,Ha (a:=d) (b:=1) (by omega)];have e0:(((n.kids.length:Nat):Int)=0)=(n.kids.length=0):=propext (by omega);simp only[KR,Ti,OY,MM,r5,qH,Uu,Xn _ _ qQ,Option.bind_some,e0];have ZM:=hp.1;have ZN:=hp.2;have XR:∀{B:Prop},(B↔Ik n)->(B->n.kids.length=0)->Out (some (mb B,c+1)) (Ik n/\c+DQ n<=2000/\d+Oi n<=41) (c+DQ n):=λhB hk=>(Ut hB).congr ⟨λa=>⟨a,by have:=rC (hk (hB.2 a));omega⟩,λa=>a.1⟩ λa=>by have:=rC (hk (hB.2 a.1));omega
 by_cases k2:n.kind=2;rw[CH k2];simp only[dD,oF,vW];refine XR ?_ ?_;rw[it2 k2];intro h;exact h.2.2.1;rw[CL k2];by_cases k3:n.kind=3;rw[CH k3];simp only[dD,oF,vW];refine XR ?_ ?_;rw[it3 k3];intro h;exact h.2.2.2.2.1;rw[CL k3];by_cases k4:n.kind=4;rotate_left;rw[CL k4];exact JW λa=>by have:=aeW a.1;omega
 rw[CH k4,it4 k4];refine Ht (λhr=>Ht (λhn=>Ht (λhb=>?_) λa=>a.1.2.2.1) λa=>a.1.2.1) λa=>a.1.1;refine jF (λhl0=>?_) λa h=>by obtain⟨h',cs,hk,_⟩:=a.1.2.2.2;rw[hk] at h;simp at h
 have RZ:(∀k∈n.kids,d+1+Oi k<=41)↔d+Oi n<=41:=by
   constructor;intro h;have:=(hd (m:=(40 - d).toNat)).2 λk hk=>by have:=h k hk;omega
   omega;intro h k hk;have:=(hd (m:=eW n.kids)).1 (Nat.le_refl _) k hk;omega
 unfold tU;generalize n.kids=ks at *
 match ks,hl0 with
 | x::l,_ =>
 have Lv:acG (x::l) 1 (((x::l).length:Nat):Int)=some l:=by
   unfold acG;rw[if_pos (by simp only[List.length_cons];omega)];simp
 rw[Lv];simp only[Option.bind_some,List.length_cons] at hkl ⊢
 have e2:∀{A:Prop},(∃h cs,x::l=h::cs/\kinds cs/\GR 8 cs=1/\GR 7 cs<=1/\QN h/\∀k∈cs,Kb k)↔(kinds l/\GR 8 l=1/\GR 7 l<=1/\QN x/\∀k∈l,Kb k):=by
   intro _;constructor;rintro⟨h,cs,e,r⟩;cases e;exact r;intro r;exact⟨x,l,rfl,r⟩
 rw[Vl (by omega),List.drop_zero,X2 (by omega) (by omega) (by omega) (by omega) (by omega) (by omega)];simp only[Option.bind_some];by_cases hK:kinds l;rotate_left;rw[CL hK];show Out (some (false,c+1)) _ _;exact JW λa=>hK ((e2 (A:=True)).1 a.1.2.2.2).1;rw[CH hK];show Out (KG ((0:Int)+GR 8 l=1) (KG (1 < (0:Int)+GR 7 l) (some (false,c+1)) _) (some (false,c+1))) _ _;refine Ht (λh8=>jF (λh7=>?_) λa=>?_) λa=>?_;rotate_left;have:=((e2 (A:=True)).1 a.1.2.2.2).2.2.1;omega;have:=((e2 (A:=True)).1 a.1.2.2.2).2.1;omega;simp only[List.getElem?_cons_zero,Option.bind_some];have hdx:=λh=>RZ.2 h x (by simp);have hsl:GL (x::l)=DQ x+GL l:=by simp[GL]
 refine L4 (ai1 (fB x (by simp)) (c:=c+1) (d:=d+1) (by omega) ZM) (λhx=>?_) λz hx=>JW λa=>hx ⟨((e2 (A:=True)).1 a.1.2.2.2).2.2.2.1,by omega,hdx a.2.2⟩;dsimp only;rw[cond_true,Ew,Vl (by omega),List.drop_zero];dsimp only;refine L3 (Rf (g:=DD) (p:=Kb) (d:=d+1) (by omega) hx.2.1 λk hk c' b0 b1=>zF (fB k (by simp[hk])) b0 b1 (by omega)) ?_ λ_=>by omega
 constructor;rintro⟨a,b⟩;refine⟨⟨hr,hn,hb,(e2 (A:=True)).2 ⟨hK,by omega,by omega,hx.1,λk hk=>(a k hk).1⟩⟩,by omega,RZ.1 λk hk=>?_⟩;rcases List.mem_cons.1 hk with rfl | hk
 exact hx.2.2;exact(a k hk).2;rintro⟨a,b,e⟩;exact⟨λk hk=>⟨((e2 (A:=True)).1 a.2.2.2).2.2.2.2 k hk,RZ.2 e k (by simp[hk])⟩,by omega⟩
def okV(n:Nd):Prop:=((n.kind=1/\Gc n z0/\∀k∈n.kids,Ik k)\/(n.kind≠1/\JF n))/\DQ n<=2000/\Oi n<=40
def UM{n:Nd}(Uj:KH n):Dm n=some (mb (okV n)):=by
 obtain⟨qQ,hkl,fB⟩:=Yf Uj;have Oo:=EB n;have hdp:=Np n;have hd:=@Xw n.kids;rw[Dm,KR,MM]
 have fin:∀{r:Option (Bool×Int)} {P:Prop} {t:Int},Out r P t->(P↔okV n)->(r.bind λ(a,_)=>some a)=some (mb (okV n)):=by
   rintro r P t ⟨z,rfl,_⟩ h;rw[L1 h];rfl
 by_cases k1:n.kind=1;rotate_left;rw[CL k1];refine fin (aak Uj 0 1 (by omega) (by omega) (by omega) (by omega)) ?_;unfold okV;constructor;rintro⟨a,b,c⟩;exact⟨.inr ⟨k1,a⟩,by omega,by omega⟩;rintro⟨a | a,b,c⟩;exact absurd a.1 k1;exact⟨a.2,by omega,by omega⟩;rw[CH k1];obtain⟨z,hz,hz2⟩:=Yd n (c:=0) (d:=1) (by omega) (by omega);rw[hz];simp only[Option.bind_some,Xn _ _ qQ,MM];by_cases h1:(0:Int)+1<=2000/\(1:Int)<=40;rotate_left;exact absurd ⟨by omega,by omega⟩ h1;rw[CH h1,hz2 h1];by_cases hb:Gc n z0;rotate_left;rw[CL hb];refine dZ ?_;rintro⟨a | a,_⟩;exact hb a.2.1;exact a.1 k1;rw[CH hb,EZ,Vl hkl,List.drop_zero];dsimp only;refine fin (Rf (g:=Ea) (p:=Ik) (d:=2) (by omega) (by omega) λk hk c' b0 b1=>ajy (fB k hk) b0 b1 (by omega)) ?_;unfold okV;constructor;rintro⟨a,b⟩;refine⟨.inl ⟨k1,hb,λk hk=>(a k hk).1⟩,by omega,?_⟩;have:=(hd (m:=39)).2 λk hk=>by have:=(a k hk).2;omega
 omega;rintro⟨a | a,b,e⟩;refine⟨λk hk=>⟨a.2.2 k hk,?_⟩,by omega⟩;have:=(hd (m:=eW n.kids)).1 (Nat.le_refl _) k hk;omega;exact absurd k1 a.1
end Mo
end Go.Proofs.YtpbkhogolfegfaaGreatDoor
namespace Go.Proofs.YtpbkhogolfegfaaGreatDoor
open AI Go
namespace Mo
set_option maxRecDepth 100000
abbrev Rd(α:Type):=List Tk->Option ((α⊕Dg)×List Tk)
section
variable {α β:Type}
def FE(a:α):Rd α:=λl=>some (.inl a,l)
def Mf(e p:Int):Rd α:=λl=>some (.inr ⟨e,p⟩,l)
def Ct(m:Rd α)(k:α->Rd β):Rd β:=λl=>match m l with
 | none=>none
 | some (.inl a,s)=>k a s
 | some (.inr d,s)=>some (.inr d,s)
def Li(x:Option α)(k:α->Rd β):Rd β:=λl=>match x with
 | none=>none
 | some a=>k a l
def Uw(en:Int)(k:Tk->Rd β):Rd β:=λl=>match l with
 | []=>some (.inr ⟨72,en⟩,[])
 | t::s=>k t (t::s)
def U0(k:Rd β):Rd β:=λl=>match l with
 | []=>none
 | _::s=>k s
def I6(x:ByteArray):List Tk->Bool
 | []=>false
 | t::_=>BZ t.text.data.toList x.data.toList
def NT(x:ByteArray)(yes no:Rd β):Rd β:=λl=>cond (I6 x l) (U0 yes l) (no l)
end
def Lc(en:Int)(fits:Tk->Option Bool):Rd Tk:=Uw en λt=>Li (fits t) λb=>cond b (U0 (FE t)) (Mf 71 t.AF)
def Jl(en:Int)(x:ByteArray):Rd Tk:=Lc en λt=>Dr t x
def rK(en:Int):Rd Tk:=Lc en Cu
def ac1(en:Int):Rd Tk:=Lc en EX
def sG(en:Int):Rd Tk:=Lc en BT
def MT(en:Int):Rd (Int×Int):=Ct (Lc en Ef) λt=>Li (Rk t.text) λn=>FE (n.1,t.AF)
def LB(en least:Int):Rd (Int×Int):=Ct (MT en) λp=>cond (EQ p.1 least) (Mf 3 p.2) (cond (EQ 1000000 p.1) (Mf 3 p.2) (FE p))
def Uf(en least:Int):Rd Int:=Ct (Lc en EE) λt=>Li (Fc t.text) λd=>cond (DZ d.2 0) (cond (EQ d.1 least) (Mf 21 t.AF) (FE d.1)) (Mf 21 t.AF)
abbrev bE:ByteArray:=ByteArray.empty
def EV(kind:Int)(name unit:ByteArray)(n:Int)(kids:List Nd)(p:Int):Nd:=⟨kind,name,unit,n,0,0,0,⟨0,[]⟩,kids,p⟩
def ZO(en:Int):Rd Nd:=Ct (Jl en r9) λt=>Ct (LB en 0) λn=>Ct (Jl en qG) λ_=>Ct (Uf en 0) λf =>
 NT toS (Ct (Uf en (BS f 1)) λu=>Ct (Jl en Vi) λ_=>Ct (Uf en 0) λk=>FE ⟨5,bE,bE,n.1,f,u,k,⟨0,[]⟩,[],t.AF⟩)
   (Ct (Jl en Vi) λ_=>Ct (Uf en 0) λk=>FE ⟨5,bE,bE,n.1,f,36525,k,⟨0,[]⟩,[],t.AF⟩)
def Ug(en:Int):Rd Nd:=Uw en λt=>U0<|Ct (rK en) λm=>Ct (Jl en jP) λ_=>Ct (ac1 en) λu =>
 cond (BZ t.text.data.toList Ov.data.toList)
   (Ct (sG en) λr=>Li (El r.text) λn=>Ct (Jl en Wp) λ_=>FE (EV 3 m.text u.text n [] t.AF))
   (Ct (Jl en Wp) λ_=>FE (EV 2 m.text u.text 0 [] t.AF))
def Ge(en:Int):Rd Nd:=Ct (LB en 1) λp=>FE (EV 11 bE Ev p.1 [] p.2)
def Od{β:Type}(n:Nat)(m:Rd β):Rd β:=λs=>OX n (m s)
def QQ(read:Rd Nd):Nat->List Nd->Rd (List Nd)
 | 0,_=>λ_=>none
 | q+1,l=>NT dI (Ct read λn=>Od (l.length+1) (QQ read q (l++[n]))) (FE l)
def RD(read:Rd Nd):Rd (List Nd):=Ct read λn s=>QQ read (s.length+1) [n] s
def N3(en:Int):Rd (Int×Int):=Ct (Lc en Da) λt=>Li (Cp t) λc=>cond (DZ t.kind 3) (cond (DZ c 0) (FE (c,t.AF)) (Mf 3 t.AF)) (FE (c,t.AF))
def V8(en:Int):Rd Int:=Ct (Lc en EH) λt=>cond (BZ t.text.data.toList M1.data.toList) (FE (-1)) (FE 1)
def mV:Nat->Int->Int->Int
 | 0,a,_=>a
 | n+1,a,b=>if b=0 then a else mV n b (a % b)
def aat(a b:Int):Option Int:=if 1<=a/\0<=b then some (mV (b.toNat+1) a b) else none
def OA(en Ax from_ a:Int):Rd (Pt×Int):=Ct (V8 en) λs=>Ct (LB en 0) λm=>Ct (Jl en Fa) λ_=>Ct (LB en 1) λd =>
 Li (aat Ax d.1) λg=>Li (Si Ax g) λz=>cond (EQ 1000000 (BN z d.1)) (Mf 2 d.2) (FE (⟨from_,a,BN m.1 s,d.1⟩,BN z d.1))
def MY(en Ax from_:Int):Rd (Pt×Int):=Ct (Jl en jP) λ_=>NT M1 (Ct (N3 en) λa=>OA en Ax from_ (BN a.1 (-1))) (Ct (N3 en) λa=>OA en Ax from_ (BN a.1 1))
def RH(en:Int)(before:List Pt)(Ax:Int):Rd (Pt×Int):=Ct (N3 en) λv =>
 cond (DZ ((before.length:Nat):Int) 0) (cond (DZ v.1 0) (MY en Ax v.1) (Mf 3 v.2))
   (Li (before[before.length - 1]?) λq=>cond (Th v.1 q.fr) (Mf 3 v.2) (cond (Th 64 ((before.length:Nat):Int)) (Mf 2 v.2) (MY en Ax v.1)))
def LL(en:Int):Nat->List Pt->Int->Rd (List Pt×Int)
 | 0,_,_=>λ_=>none
 | q+1,l,c=>Ct (RH en l c) λp=>Od (l.length+1) (NT dI (LL en q (l++[p.1]) p.2) (FE (l++[p.1],p.2)))
def LR(c p:Int):List Pt->List Pc->Rd (List Pc)
 | [],acc=>FE acc
 | x::xs,acc=>Li (Si c x.den) λz=>cond (EQ 1000000 (BN x.num z)) (Mf 2 p) (cond (EQ (BN x.num z) (-1000000)) (Mf 2 p) (Od (acc.length+1) (LR c p xs (acc++[⟨x.fr,BN x.AF c,BN x.num z⟩]))))
inductive Ek where
 | ex | lv (i:Nat) | at_ | wd (t:Tk) | ca | ta
def YC(en:Int)(g:Ek->Rd Nd):Rd Nd:=Ct (Jl en Qz) λt=>Ct (Jl en dH) λ_=>Ct (g .ex) λa=>Ct (Jl en Wp) λ_=>Ct (λs=>LL en (s.length+1) [] 1 s) λl=>Ct (Jl en oI) λe =>
 Od l.1.length (Ct (LR l.2 e.AF l.1 []) λr=>FE ⟨18,bE,bE,0,0,0,0,⟨l.2,r⟩,[a],t.AF⟩)
def Xr(en:Int)(g:Ek->Rd Nd)(li:Rd (List Nd)):Rd Nd:=Uw en λt=>U0<|Ct (Jl en dH) λ_=>Ct (g .ex) λa=>Ct (Jl en dI) λ_=>Ct li λl=>Od (1+l.length)<|Ct (Jl en oI) λ_=>FE (EV 17 t.text bE 0 (a::l) t.AF)
def Ue(t:Tk):Rd Nd:=U0 (FE (EV 14 t.text bE 0 [] t.AF))
def QW(en:Int)(g:Ek->Rd Nd)(t:Tk):Rd Nd :=
 cond (BZ t.text.data.toList YH.data.toList) (U0 (FE (EV 11 bE GO 1 [] t.AF))) <|
 cond (BZ t.text.data.toList Ta.data.toList) (U0 (FE (EV 11 bE GO 0 [] t.AF))) <|
 cond (BZ t.text.data.toList bM.data.toList) (U0 (Ct (LB en 1) λp=>FE (EV 13 bE bE p.1 [] t.AF))) <|
 cond (BZ t.text.data.toList Ld.data.toList) (Ue t)<|cond (BZ t.text.data.toList bW.data.toList) (Ue t)<|cond (BZ t.text.data.toList Qh.data.toList) (Ue t)<|cond (BZ t.text.data.toList UZ.data.toList) (Ue t) <|
 cond (BZ t.text.data.toList Kn.data.toList) (g .ca)<|cond (BZ t.text.data.toList FF.data.toList) (g .ca)<|cond (BZ t.text.data.toList Qz.data.toList) (g .ta) <|
 cond (BZ t.text.data.toList dH.data.toList) (U0 (Ct (g .ex) λa=>Ct (Jl en oI) λ_=>FE a)) (Mf 71 t.AF)
def Xm(en:Int)(g:Ek->Rd Nd):Rd Nd:=Uw en λt =>
 cond (DZ t.kind 3) (Ct (MT en) λn=>NT afa (FE (EV 11 bE Jp n.1 [] n.2)) (FE (EV 11 bE Ev n.1 [] n.2)))
   (cond (DZ t.kind 2) (U0 (Ct (Lc en DU) λa=>Li (Cp a) λc=>FE (EV 11 bE t.text c [] t.AF)))
     (Li (Cu t) λb=>cond b (U0 (FE (EV 12 t.text bE 0 [] t.AF))) (g (.wd t))))
def opsOf:Nat->List ByteArray
 | 0=>[jD]
 | 1=>[Pj]
 | 3=>[Ju,Kq,KJ,JY,JZ,Hk]
 | 4=>[RI,M1]
 | 5=>[Tx,Fa,fS]
 | _=>[]
def lV{β:Type}(yes:ByteArray->Rd β)(no:Rd β):List ByteArray->Rd β
 | []=>no
 | x::xs=>NT x (yes x) (lV yes no xs)
def Qq(en:Int)(sub:Rd Nd)(op:ByteArray)(l:Nd):Rd Nd:=Ct (cond (BZ op.data.toList Fa.data.toList) (Ge en) sub) λr=>Li (A7 op l r) λb=>FE b
def KQ(en:Int)(ops:List ByteArray)(sub:Rd Nd):Nat->Nd->Rd Nd
 | 0,_=>λ_=>none
 | q+1,l=>lV (λop=>Ct (Qq en sub op l) λb=>KQ en ops sub q b) (FE l) ops
def Ny(en:Int)(g:Ek->Rd Nd)(i:Nat):Rd Nd:=Ct (g (.lv (i+1))) λl s=>KQ en (opsOf i) (g (.lv (i+1))) (s.length+1) l s
def gF(en:Int)(g:Ek->Rd Nd):Rd Nd:=Ct (g (.lv 4)) λl=>lV (λop=>Qq en (g (.lv 4)) op l) (FE l) (opsOf 3)
def Ye(en:Int)(g:Ek->Rd Nd):Rd Nd:=λs=>cond (I6 Ur s) (Ct (Jl en Ur) (λt=>Ct (g (.lv 2)) λk=>FE (EV 15 bE bE 0 [k] t.AF)) s) (g (.lv 3) s)
def OD(en:Int)(g:Ek->Rd Nd)(li:Rd (List Nd)):Ek->Rd Nd
 | .ex=>g (.lv 0)
 | .lv 2=>Ye en g
 | .lv 3=>gF en g
 | .lv 6=>g .at_
 | .lv i=>Ny en g i
 | .at_=>Xm en g
 | .wd t=>QW en g t
 | .ca=>Xr en g li
 | .ta=>YC en g
def gP(en:Int):Nat->(Ek->Rd Nd)×Rd (List Nd)
 | 0=>(λ_ _=>none,λ_=>none)
 | q+1=>(OD en (gP en q).1 (gP en q).2,RD ((gP en q).1 .ex))
def JE(en:Int)(ex:Rd Nd)(kind:Int):Rd Nd:=Uw en λt=>U0 <|
 cond (DZ kind 7) (Ct (RD (Ge en)) λl=>Ct (Jl en Wp) λ_=>FE (EV kind bE bE 0 l t.AF)) (Ct ex λe=>Ct (Jl en Wp) λ_=>FE (EV kind bE bE 0 [e] t.AF))
def IN(en:Int)(ex:Rd Nd)(mk:List Nd->Nd):Nat->List Nd->Bool->Bool->Rd Nd
 | 0,_,_,_=>λ_=>none
 | q+1,l,un,am=>Uw en λt =>
   cond (BZ t.text.data.toList aZ.data.toList) (Ct (JE en ex 6) λc=>Od (l.length+1) (IN en ex mk q (l++[c]) un am)) <|
   cond (BZ t.text.data.toList Sa.data.toList) (cond un (Mf 5 t.AF) (Ct (JE en ex 7) λc=>Od (l.length+1) (IN en ex mk q (l++[c]) true am))) <|
   cond (BZ t.text.data.toList P4.data.toList) (cond am (Mf 5 t.AF) (Ct (JE en ex 8) λc=>Od (l.length+1) (IN en ex mk q (l++[c]) un true))) <|
   cond (BZ t.text.data.toList afB.data.toList) (cond am (U0 (FE (mk l))) (Mf 71 t.AF)) (Mf 71 t.AF)
def Pk(en:Int)(ex:Rd Nd):Rd Nd:=Ct (Jl en Hx) λt=>Ct (LB en 1) λn=>Ct (Jl en aap) λ_=>Ct (rK en) λm=>Ct (ZO en) λh=>Ct (Jl en aj6) λ_=>λs =>
 IN en ex (λl=>EV 4 m.text bE n.1 l t.AF) (s.length+1) [h] false false s
def RC(en:Int)(ex:Rd Nd):Rd Nd:=Uw en λt =>
 cond (BZ t.text.data.toList SK.data.toList) (Ug en)<|cond (BZ t.text.data.toList Ov.data.toList) (Ug en)<|cond (BZ t.text.data.toList Hx.data.toList) (Pk en ex) (Mf 71 t.AF)
end Mo
end Go.Proofs.YtpbkhogolfegfaaGreatDoor
namespace Go.Proofs.YtpbkhogolfegfaaGreatDoor
open AI Go
namespace Mo
set_option maxRecDepth 100000
def gX:∀(n:Nat) (a b:Int),1<=a->0<=b->b < n->∃m,GS (λx:Int×Int=>D5 x.1 x.2) m (a,b)=some (.inl (mV n a b))/\1<=mV n a b/\mV n a b∣a/\mV n a b∣b:=by
 intro n
 induction n with
 | zero=>intro a b h1 h2 h3;omega
 | succ n ih =>
   intro a b h1 h2 h3;unfold mV;by_cases hb:b=0;rw[if_pos hb];subst hb;refine⟨1,?_,h1,Int.dvd_refl a,Int.dvd_zero a⟩;show(D5 a 0).bind _=_;rw[D5,Ol rfl];rfl;rw[if_neg hb];obtain⟨m,h4,h5,h6,h7⟩:=ih b (a % b) (by omega) (Int.emod_nonneg a hb) (by have:=Int.emod_lt_of_pos a (show 0 < b by omega);omega);refine⟨m+1,?_,h5,?_,h6⟩;show(D5 a b).bind _=_;rw[D5,SJ hb]
   have:Xy a b=some (a % b):=by
     unfold Xy kS;rw[if_neg hb,Int.tmod_eq_emod_of_nonneg (by omega)]
   dsimp only[cond];rw[this];exact h4;have:=Int.dvd_add h7 (Int.dvd_mul_of_dvd_left h6:_∣b*(a / b));rwa[Int.emod_add_mul_ediv] at this
def aau{a b g:Int}(h:aat a b=some g):CO a b=some g:=by
 unfold aat at h;split at h;rename_i hc;cases h;obtain⟨m,h1,_⟩:=gX (b.toNat+1) a b hc.1 hc.2 (by omega);unfold CO;rw[IY h1];rfl;cases h
def aav{a b:Int}(ha:1<=a)(hb:0<=b):∃g,aat a b=some g/\1<=g/\g∣a/\g∣b:=by
 obtain⟨m,_,h1⟩:=gX (b.toNat+1) a b ha hb (by omega);exact⟨_,if_pos ⟨ha,hb⟩,h1⟩
section
variable {α β γ:Type} {ts:List Tk} {k:Nat} {en:Int} {r:α⊕Dg} {l:List Tk}
def I8(ts:List Tk)(k:Nat)(X:Option ((α⊕Dg)×Int))(r:α⊕Dg)(l:List Tk):Prop:=∃k':Nat,k<=k'/\k'<=ts.length/\l=ts.drop k'/\X=some (r,(k':Int))
def Eh(hk:k<=ts.length){q:α⊕Dg}{z:Int}(hz:z=(k:Int))(h:some (q,ts.drop k)=some (r,l)):I8 ts k (some (q,z)) r l:=by
 simp only[Option.some.injEq,Prod.mk.injEq] at h;exact⟨k,Nat.le_refl k,hk,h.2.symm,by rw[h.1,hz]⟩
def K7{k2:Nat}{X:Option ((α⊕Dg)×Int)}(h1:k<=k2)(h:I8 ts k2 X r l):I8 ts k X r l:=by
 obtain⟨k',a,b,c,d⟩:=h;exact⟨k',Nat.le_trans h1 a,b,c,d⟩
def Bz{F1:Option ((γ⊕Dg)×Int)}{F2:(γ⊕Dg)×Int->Option ((α⊕Dg)×Int)}{m:Rd γ}{K:γ->Rd α}
   (h1:∀{r l},m (ts.drop k)=some (r,l)->I8 ts k F1 r l)
   (h2:∀a k',k<=k'->k'<=ts.length->K a (ts.drop k')=some (r,l)->I8 ts k' (F2 (.inl a,(k':Int))) r l)
   (h3:∀d z,F2 (.inr d,z)=some (.inr d,z)) (hS:Ct m K (ts.drop k)=some (r,l)):I8 ts k (F1.bind F2) r l:=by
 unfold Ct at hS;split at hS;cases hS;rename_i a s hm;obtain⟨k',a1,a2,rfl,a4⟩:=h1 hm;rw[a4];exact K7 a1 (h2 _ _ a1 a2 hS);rename_i d s hm;obtain⟨k',a1,a2,rfl,a4⟩:=h1 hm;rw[a4,Option.bind_some,h3];simp only[Option.some.injEq,Prod.mk.injEq] at hS;exact⟨k',a1,a2,hS.2.symm,by rw[hS.1]⟩
def I0{X:Option γ}{K:γ->Rd α}{s:List Tk}(h:Li X K s=some (r,l)):∃a,X=some a/\K a s=some (r,l):=by
 unfold Li at h;split at h;cases h;exact⟨_,rfl,h⟩
def Jk(ts:List Tk)(hk:k<=ts.length):(k=ts.length/\ts.drop k=[])\/∃t,k+1<=ts.length/\ts[k]?=some t/\ts.drop k=t::ts.drop (k+1):=by
 by_cases h:k < ts.length;exact .inr ⟨ts[k],h,List.getElem?_eq_getElem h,(List.drop_eq_getElem_cons h)⟩;exact .inl ⟨by omega,List.drop_eq_nil_of_le (by omega)⟩
def Vv{F2:Tk⊕Dg->Option ((α⊕Dg)×Int)}{K:Tk->Rd α}(hk:k<=ts.length)
   (h2:∀t,k+1<=ts.length->ts.drop k=t::ts.drop (k+1)->K t (ts.drop k)=some (r,l)->I8 ts k (F2 (.inl t)) r l)
   (h3:∀d,F2 (.inr d)=some (.inr d,(k:Int))) (hS:Uw en K (ts.drop k)=some (r,l)):I8 ts k ((AD ⟨ts,k,en⟩).bind F2) r l:=by
 unfold Uw at hS;rcases Jk ts hk with ⟨h1,lQ⟩ | ⟨t,h1,lQ,h3'⟩
 rw[lQ] at hS;dsimp only at hS
 have:AD ⟨ts,k,en⟩=some (.inr ⟨72,en⟩):=by
   unfold AD;rw[abk (by dsimp only;omega)];rfl
 rw[this,Option.bind_some,h3];simp only[Option.some.injEq,Prod.mk.injEq] at hS;exact⟨k,Nat.le_refl k,hk,by rw[lQ,hS.2],by rw[hS.1]⟩;rw[h3'] at hS;dsimp only at hS
 have:AD ⟨ts,k,en⟩=some (.inl t):=by
   unfold AD;rw[qZ (by dsimp only;omega)];dsimp only[cond];unfold Mp;rw[if_pos (by omega),Int.toNat_natCast,lQ];rfl
 rw[this,Option.bind_some];exact h2 t h1 h3' (by rw[h3'];exact hS)
def Gw(hk:k<=ts.length)(x:ByteArray):Aq ⟨ts,k,en⟩ x=some (I6 x (ts.drop k)):=by
 unfold Aq;rcases Jk ts hk with ⟨h1,lQ⟩ | ⟨t,h1,lQ,h3'⟩
 rw[lQ,Kv (by dsimp only;omega)];rfl;rw[h3',NB (by dsimp only;omega)];dsimp only[cond];unfold Mp;rw[if_pos (by omega),Int.toNat_natCast,lQ];rfl
def Yv{x:ByteArray}(hk:k<=ts.length)(h:I6 x (ts.drop k)=true):∃t,k+1<=ts.length/\ts.drop k=t::ts.drop (k+1):=by
 rcases Jk ts hk with ⟨h1,lQ⟩ | ⟨t,h1,lQ,h3'⟩
 rw[lQ] at h;cases h;exact⟨t,h1,h3'⟩
def En(DS:ts.length<=1000000)(hk:k<=ts.length):BS (k:Int) 1=((k+1:Nat):Int):=by
 rw[Ha (by omega)];rfl
def Zj{K:Rd α}{t:Tk}(ht:ts.drop k=t::ts.drop (k+1))(h:U0 K (ts.drop k)=some (r,l)):K (ts.drop (k+1))=some (r,l):=by
 rw[ht] at h;exact h
def sD{F2:Bool->Option ((α⊕Dg)×Int)}{A B:Rd α}{x:ByteArray}(hk:k<=ts.length)
   (h1:k+1<=ts.length->A (ts.drop (k+1))=some (r,l)->I8 ts (k+1) (F2 true) r l) (h2:B (ts.drop k)=some (r,l)->I8 ts k (F2 false) r l)
   (hS:NT x A B (ts.drop k)=some (r,l)):I8 ts k ((Aq ⟨ts,k,en⟩ x).bind F2) r l:=by
 unfold NT at hS;rw[Gw hk,Option.bind_some];cases hx:I6 x (ts.drop k) with
 | true =>
   rw[hx] at hS;obtain⟨t,ht1,ht2⟩:=Yv hk hx;exact K7 (Nat.le_succ k) (h1 ht1 (Zj ht2 hS))
 | false =>
   rw[hx] at hS;exact h2 hS
end
section
variable {ts:List Tk} (DS:ts.length<=1000000) {en:Int}
include DS
def QB(fits:Tk->Option Bool){k:Nat}(hk:k<=ts.length){r l}(hS:Lc en fits (ts.drop k)=some (r,l)) :
   I8 ts k ((AD ⟨ts,k,en⟩).bind λy1=>Sum.elim (λ(CI:Tk)=>(fits CI).bind λy2=>cond y2 (some ((Sum.inl CI:(Tk⊕Dg)),(BS (k:Int) 1))) (some ((Sum.inr (⟨71,CI.AF⟩:Dg):(Tk⊕Dg)),(k:Int)))) (λ(Lj:Dg)=>some ((Sum.inr Lj:(Tk⊕Dg)),(k:Int))) y1) r l:=by
 refine Vv hk (λt h1 h2 hS=>?_) (λ_=>rfl) hS;obtain⟨b,hb,hS⟩:=I0 hS;dsimp only[Sum.elim];rw[hb,Option.bind_some];cases b with
 | true =>
   have:=Zj h2 hS;rw[cond,En DS hk];exact K7 (Nat.le_succ k) (Eh h1 rfl this)
 | false=>exact Eh hk rfl hS
def IB(x:ByteArray){k:Nat}(hk:k<=ts.length){r l}(hS:Jl en x (ts.drop k)=some (r,l)):I8 ts k (Aj ⟨ts,k,en⟩ x) r l:=by
 obtain⟨k',a1,a2,a3,a4⟩:=QB DS (λt=>Dr t x) hk hS;refine⟨k',a1,a2,a3,?_⟩;unfold Aj Ga;rw[a4,Option.bind_some];cases r<;>rfl
def abD{k:Nat}(hk:k<=ts.length){r l}(hS:rK en (ts.drop k)=some (r,l)):I8 ts k (Dv ⟨ts,k,en⟩) r l:=QB DS Cu hk hS
def akA{k:Nat}(hk:k<=ts.length){r l}(hS:ac1 en (ts.drop k)=some (r,l)):I8 ts k (Ez ⟨ts,k,en⟩) r l:=QB DS EX hk hS
def aka{k:Nat}(hk:k<=ts.length){r l}(hS:sG en (ts.drop k)=some (r,l)):I8 ts k (FW ⟨ts,k,en⟩) r l:=QB DS BT hk hS
def jA{k:Nat}(hk:k<=ts.length){r l}(hS:MT en (ts.drop k)=some (r,l)):I8 ts k (EF ⟨ts,k,en⟩) r l:=by
 refine Bz (λh=>QB DS Ef hk h) (λt k' h1 h2 hS=>?_) (λ_ _=>rfl) hS;obtain⟨n,hn,hS⟩:=I0 hS;dsimp only[Sum.elim];rw[hn];exact Eh h2 rfl hS
def OB(least:Int){k:Nat}(hk:k<=ts.length){r l}(hS:LB en least (ts.drop k)=some (r,l)):I8 ts k (AJ ⟨ts,k,en⟩ least) r l:=by
 refine Bz (λh=>jA DS hk h) (λt k' h1 h2 hS=>?_) (λ_ _=>rfl) hS;dsimp only[Sum.elim];revert hS;cases EQ t.1 least;cases EQ 1000000 t.1<;>exact λhS=>Eh h2 rfl hS
 exact λhS=>Eh h2 rfl hS
def bV(least:Int){k:Nat}(hk:k<=ts.length){r l}(hS:Uf en least (ts.drop k)=some (r,l)):I8 ts k (DM ⟨ts,k,en⟩ least) r l:=by
 refine Bz (λh=>QB DS EE hk h) (λt k' h1 h2 hS=>?_) (λ_ _=>rfl) hS;obtain⟨n,hn,hS⟩:=I0 hS;dsimp only[Sum.elim];rw[hn,Option.bind_some];revert hS;cases DZ n.2 0;exact λhS=>Eh h2 rfl hS;cases EQ n.1 least<;>exact λhS=>Eh h2 rfl hS
def ai0{k:Nat}(hk:k<=ts.length){r l}(hS:ZO en (ts.drop k)=some (r,l)):I8 ts k (G3 ⟨ts,k,en⟩) r l:=by
 refine Bz (λh=>IB DS _ hk h) (λt k h hk hS=>?_) (λ_ _=>rfl) hS;refine Bz (λh=>OB DS _ hk h) (λn k h hk hS=>?_) (λ_ _=>rfl) hS;refine Bz (λh=>IB DS _ hk h) (λ_ k h hk hS=>?_) (λ_ _=>rfl) hS;refine Bz (λh=>bV DS _ hk h) (λf k h hk hS=>?_) (λ_ _=>rfl) hS;refine sD hk (λVP hS=>?_) (λhS=>?_) hS;dsimp only[cond];rw[En DS hk];refine Bz (λh=>bV DS _ VP h) (λu k h hk hS=>?_) (λ_ _=>rfl) hS;refine Bz (λh=>IB DS _ hk h) (λ_ k h hk hS=>?_) (λ_ _=>rfl) hS;refine Bz (λh=>bV DS _ hk h) (λf k h hk hS=>?_) (λ_ _=>rfl) hS;exact Eh hk rfl hS;refine Bz (λh=>IB DS _ hk h) (λ_ k h hk hS=>?_) (λ_ _=>rfl) hS;refine Bz (λh=>bV DS _ hk h) (λf k h hk hS=>?_) (λ_ _=>rfl) hS;exact Eh hk rfl hS
def zZ{k:Nat}(hk:k<=ts.length){r l}(hS:Ug en (ts.drop k)=some (r,l)):I8 ts k (Du ⟨ts,k,en⟩) r l:=by
 refine Vv hk (λt h1 h2 hS=>?_) (λ_=>rfl) hS;have hS:=Zj h2 hS;dsimp only[Sum.elim];rw[En DS hk];refine K7 (Nat.le_succ k) ?_;refine Bz (λh=>abD DS h1 h) (λm k h hk hS=>?_) (λ_ _=>rfl) hS;refine Bz (λh=>IB DS _ hk h) (λ_ k h hk hS=>?_) (λ_ _=>rfl) hS;refine Bz (λh=>akA DS hk h) (λu k h hk hS=>?_) (λ_ _=>rfl) hS;dsimp only[Sum.elim];revert hS;cases BZ t.text.data.toList Ov.data.toList;intro hS;refine Bz (λh=>IB DS _ hk h) (λ_ k h hk hS=>?_) (λ_ _=>rfl) hS;exact Eh hk rfl hS;intro hS;refine Bz (λh=>aka DS hk h) (λq k h hk hS=>?_) (λ_ _=>rfl) hS;obtain⟨n,hn,hS⟩:=I0 hS;dsimp only[Sum.elim];rw[hn,Option.bind_some];refine Bz (λh=>IB DS _ hk h) (λ_ k h hk hS=>?_) (λ_ _=>rfl) hS;exact Eh hk rfl hS
def Us{k:Nat}(hk:k<=ts.length){r l}(hS:Ge en (ts.drop k)=some (r,l)):I8 ts k (AN ⟨ts,k,en⟩) r l:=by
 refine Bz (λh=>OB DS _ hk h) (λn k h hk hS=>?_) (λ_ _=>rfl) hS;exact Eh hk rfl hS
def eH{k:Nat}(hk:k<=ts.length){r l}(hS:N3 en (ts.drop k)=some (r,l)):I8 ts k (BP ⟨ts,k,en⟩) r l:=by
 refine Bz (λh=>QB DS Da hk h) (λt k' h1 h2 hS=>?_) (λ_ _=>rfl) hS;obtain⟨n,hn,hS⟩:=I0 hS;dsimp only[Sum.elim];rw[hn,Option.bind_some];revert hS;cases DZ t.kind 3;exact λhS=>Eh h2 rfl hS;cases DZ n 0<;>exact λhS=>Eh h2 rfl hS
def acq{k:Nat}(hk:k<=ts.length){r l}(hS:V8 en (ts.drop k)=some (r,l)):I8 ts k (Ce ⟨ts,k,en⟩) r l:=by
 refine Bz (λh=>QB DS EH hk h) (λt k' h1 h2 hS=>?_) (λ_ _=>rfl) hS;dsimp only[Sum.elim];revert hS;cases BZ t.text.data.toList M1.data.toList<;>exact λhS=>Eh h2 rfl hS
end
end Mo
end Go.Proofs.YtpbkhogolfegfaaGreatDoor
namespace Go.Proofs.YtpbkhogolfegfaaGreatDoor
open AI Go
namespace Mo
set_option maxRecDepth 100000
section
variable {α β:Type} {ts:List Tk} {k:Nat} {en:Int} {r:α⊕Dg} {l:List Tk}
def Qi(N:Nd):(⟨N.kind,N.name,N.unit,N.n,N.fr,N.to,N.known,⟨N.CN.den,N.CN.ps⟩,N.kids,N.AF⟩:Nd)=N:=by cases N;rfl
def IW{m:Rd β}{K:β->Rd α}{s:List Tk}(h:Ct m K s=some (r,l)):(∃a s',m s=some (.inl a,s')/\K a s'=some (r,l))\/∃d,m s=some (.inr d,l)/\r=.inr d:=by
 unfold Ct at h;split at h;cases h;rename_i a s' hm;exact .inl ⟨a,s',hm,h⟩;rename_i d s' hm;simp only[Option.some.injEq,Prod.mk.injEq] at h;exact .inr ⟨d,by rw[hm,h.2],h.1.symm⟩
def La{A B:Rd α}{x:ByteArray}(hk:k<=ts.length)(h:NT x A B (ts.drop k)=some (r,l)) :
   (I6 x (ts.drop k)=true/\k+1<=ts.length/\A (ts.drop (k+1))=some (r,l))\/(I6 x (ts.drop k)=false/\B (ts.drop k)=some (r,l)):=by
 unfold NT at h;cases hx:I6 x (ts.drop k) with
 | true =>
   rw[hx] at h;obtain⟨t,ht1,ht2⟩:=Yv hk hx;exact .inl ⟨rfl,ht1,Zj ht2 h⟩
 | false =>
   rw[hx] at h;exact .inr ⟨rfl,h⟩
def abM{K:Rd α}(hk:k<=ts.length)(h:U0 K (ts.drop k)=some (r,l)):k+1<=ts.length/\K (ts.drop (k+1))=some (r,l):=by
 rcases Jk ts hk with ⟨h1,lQ⟩ | ⟨t,h1,lQ,h3'⟩
 rw[lQ] at h;cases h;exact⟨h1,Zj h3' h⟩
def NA{n:Nat}{m:Rd α}{s:List Tk}(h:Od n m s=some (r,l)):n<=100000000/\m s=some (r,l):=abu h
def K8{a:β}{q:β⊕Dg}{s:List Tk}(h:FE a s=some (q,l)):q=.inl a/\l=s:=by
 simp only[FE,Option.some.injEq,Prod.mk.injEq] at h;exact⟨h.1.symm,h.2.symm⟩
def MB{e p:Int}{s:List Tk}(h:Mf e p s=some (r,l)):r=.inr ⟨e,p⟩/\l=s:=by
 simp only[Mf,Option.some.injEq,Prod.mk.injEq] at h;exact⟨h.1.symm,h.2.symm⟩
def afj{yes:ByteArray->Rd α}{no:Rd α}(hk:k<=ts.length)(hS:lV yes no (opsOf 0) (ts.drop k)=some (r,l)) :
   (∃x,k+1<=ts.length/\C5 ⟨ts,k,en⟩=some (x,true)/\yes x (ts.drop (k+1))=some (r,l))\/(C5 ⟨ts,k,en⟩=some (bE,false)/\no (ts.drop k)=some (r,l)):=by
 unfold C5;simp only[Gw hk,Option.bind_some];rcases La hk hS with ⟨h0,h,hy⟩ | ⟨h0,hS⟩
 refine .inl ⟨_,h,?_,hy⟩;simp only[h0,cond_true,cond_false];refine .inr ⟨?_,hS⟩;simp only[h0,cond_false]
def afk{yes:ByteArray->Rd α}{no:Rd α}(hk:k<=ts.length)(hS:lV yes no (opsOf 1) (ts.drop k)=some (r,l)) :
   (∃x,k+1<=ts.length/\C6 ⟨ts,k,en⟩=some (x,true)/\yes x (ts.drop (k+1))=some (r,l))\/(C6 ⟨ts,k,en⟩=some (bE,false)/\no (ts.drop k)=some (r,l)):=by
 unfold C6;simp only[Gw hk,Option.bind_some];rcases La hk hS with ⟨h0,h,hy⟩ | ⟨h0,hS⟩
 refine .inl ⟨_,h,?_,hy⟩;simp only[h0,cond_true,cond_false];refine .inr ⟨?_,hS⟩;simp only[h0,cond_false]
def afl{yes:ByteArray->Rd α}{no:Rd α}(hk:k<=ts.length)(hS:lV yes no (opsOf 3) (ts.drop k)=some (r,l)) :
   (∃x,k+1<=ts.length/\C7 ⟨ts,k,en⟩=some (x,true)/\yes x (ts.drop (k+1))=some (r,l))\/(C7 ⟨ts,k,en⟩=some (bE,false)/\no (ts.drop k)=some (r,l)):=by
 unfold C7;simp only[Gw hk,Option.bind_some];rcases La hk hS with ⟨h0,h,hy⟩ | ⟨h0,hS⟩
 refine .inl ⟨_,h,?_,hy⟩;simp only[h0,cond_true,cond_false];rcases La hk hS with ⟨h1,h,hy⟩ | ⟨h1,hS⟩
 refine .inl ⟨_,h,?_,hy⟩;simp only[h0,h1,cond_true,cond_false];rcases La hk hS with ⟨h2,h,hy⟩ | ⟨h2,hS⟩
 refine .inl ⟨_,h,?_,hy⟩;simp only[h0,h1,h2,cond_true,cond_false];rcases La hk hS with ⟨h3,h,hy⟩ | ⟨h3,hS⟩
 refine .inl ⟨_,h,?_,hy⟩;simp only[h0,h1,h2,h3,cond_true,cond_false];rcases La hk hS with ⟨h4,h,hy⟩ | ⟨h4,hS⟩
 refine .inl ⟨_,h,?_,hy⟩;simp only[h0,h1,h2,h3,h4,cond_true,cond_false];rcases La hk hS with ⟨h5,h,hy⟩ | ⟨h5,hS⟩
 refine .inl ⟨_,h,?_,hy⟩;simp only[h0,h1,h2,h3,h4,h5,cond_true,cond_false];refine .inr ⟨?_,hS⟩;simp only[h0,h1,h2,h3,h4,h5,cond_false]
def afm{yes:ByteArray->Rd α}{no:Rd α}(hk:k<=ts.length)(hS:lV yes no (opsOf 4) (ts.drop k)=some (r,l)) :
   (∃x,k+1<=ts.length/\C8 ⟨ts,k,en⟩=some (x,true)/\yes x (ts.drop (k+1))=some (r,l))\/(C8 ⟨ts,k,en⟩=some (bE,false)/\no (ts.drop k)=some (r,l)):=by
 unfold C8;simp only[Gw hk,Option.bind_some];rcases La hk hS with ⟨h0,h,hy⟩ | ⟨h0,hS⟩
 refine .inl ⟨_,h,?_,hy⟩;simp only[h0,cond_true,cond_false];rcases La hk hS with ⟨h1,h,hy⟩ | ⟨h1,hS⟩
 refine .inl ⟨_,h,?_,hy⟩;simp only[h0,h1,cond_true,cond_false];refine .inr ⟨?_,hS⟩;simp only[h0,h1,cond_false]
def afn{yes:ByteArray->Rd α}{no:Rd α}(hk:k<=ts.length)(hS:lV yes no (opsOf 5) (ts.drop k)=some (r,l)) :
   (∃x,k+1<=ts.length/\C9 ⟨ts,k,en⟩=some (x,true)/\yes x (ts.drop (k+1))=some (r,l))\/(C9 ⟨ts,k,en⟩=some (bE,false)/\no (ts.drop k)=some (r,l)):=by
 unfold C9;simp only[Gw hk,Option.bind_some];rcases La hk hS with ⟨h0,h,hy⟩ | ⟨h0,hS⟩
 refine .inl ⟨_,h,?_,hy⟩;simp only[h0,cond_true,cond_false];rcases La hk hS with ⟨h1,h,hy⟩ | ⟨h1,hS⟩
 refine .inl ⟨_,h,?_,hy⟩;simp only[h0,h1,cond_true,cond_false];rcases La hk hS with ⟨h2,h,hy⟩ | ⟨h2,hS⟩
 refine .inl ⟨_,h,?_,hy⟩;simp only[h0,h1,h2,cond_true,cond_false];refine .inr ⟨?_,hS⟩;simp only[h0,h1,h2,cond_false]
end
structure Agr(R:Ac)(ts:List Tk)(en:Int)(g:Ek->Rd Nd)(li:Rd (List Nd)):Prop where
 ex:∀{k:Nat},k<=ts.length->∀{r l},g .ex (ts.drop k)=some (r,l)->I8 ts k (R.AM ⟨ts,k,en⟩) r l
 l0:∀{k:Nat},k<=ts.length->∀{r l},g (.lv 0) (ts.drop k)=some (r,l)->I8 ts k (R.Ec ⟨ts,k,en⟩) r l
 l1:∀{k:Nat},k<=ts.length->∀{r l},g (.lv 1) (ts.drop k)=some (r,l)->I8 ts k (R.B1 ⟨ts,k,en⟩) r l
 l2:∀{k:Nat},k<=ts.length->∀{r l},g (.lv 2) (ts.drop k)=some (r,l)->I8 ts k (R.BB ⟨ts,k,en⟩) r l
 l3:∀{k:Nat},k<=ts.length->∀{r l},g (.lv 3) (ts.drop k)=some (r,l)->I8 ts k (R.Cy ⟨ts,k,en⟩) r l
 l4:∀{k:Nat},k<=ts.length->∀{r l},g (.lv 4) (ts.drop k)=some (r,l)->I8 ts k (R.Cz ⟨ts,k,en⟩) r l
 l5:∀{k:Nat},k<=ts.length->∀{r l},g (.lv 5) (ts.drop k)=some (r,l)->I8 ts k (R.B2 ⟨ts,k,en⟩) r l
 l6:∀{k:Nat},k<=ts.length->∀{r l},g (.lv 6) (ts.drop k)=some (r,l)->I8 ts k (R.B5 ⟨ts,k,en⟩) r l
 at_:∀{k:Nat},k<=ts.length->∀{r l},g .at_ (ts.drop k)=some (r,l)->I8 ts k (R.Ff ⟨ts,k,en⟩) r l
 wd:∀(t:Tk) {k:Nat},k<=ts.length->∀{r l},g (.wd t) (ts.drop k)=some (r,l)->I8 ts k (R.Fi ⟨ts,k,en⟩ t) r l
 ca:∀{k:Nat},k<=ts.length->∀{r l},g .ca (ts.drop k)=some (r,l)->I8 ts k (R.Dj ⟨ts,k,en⟩) r l
 ta:∀{k:Nat},k<=ts.length->∀{r l},g .ta (ts.drop k)=some (r,l)->I8 ts k (R.EP ⟨ts,k,en⟩) r l
 li:∀{k:Nat},k<=ts.length->∀{r l},li (ts.drop k)=some (r,l)->I8 ts k (R.DE ⟨ts,k,en⟩) r l
section
variable {ts:List Tk} (DS:ts.length<=1000000) {en:Int}
include DS
def M5{sub:Rd Nd}{F:Pr->Option ((Nd⊕Dg)×Int)}{k:Nat}(hk:k<=ts.length)(Lv:∀{r l},sub (ts.drop k)=some (r,l)->I8 ts k (F ⟨ts,k,en⟩) r l){x:ByteArray}{N:Nd}{r l}(hS:Qq en sub x N (ts.drop k)=some (r,l)) :
   ∃k':Nat,k<=k'/\k'<=ts.length/\l=ts.drop k'/\((∃n b,cond (BZ x.data.toList Fa.data.toList) (AN ⟨ts,k,en⟩) (F ⟨ts,k,en⟩)=some (.inl n,(k':Int))/\A7 x N n=some b/\r=.inl b)\/∃d,cond (BZ x.data.toList Fa.data.toList) (AN ⟨ts,k,en⟩) (F ⟨ts,k,en⟩)=some (.inr d,(k':Int))/\r=.inr d):=by
 have key:∀{r l},(cond (BZ x.data.toList Fa.data.toList) (Ge en) sub) (ts.drop k)=some (r,l)->I8 ts k (cond (BZ x.data.toList Fa.data.toList) (AN ⟨ts,k,en⟩) (F ⟨ts,k,en⟩)) r l:=by
   intro r l h;revert h;cases BZ x.data.toList Fa.data.toList;exact λh=>Lv h;exact λh=>Us DS hk h
 rcases IW hS with ⟨n,s',h1,h2⟩ | ⟨d,h1,h2⟩
 obtain⟨b,hb,h2⟩:=I0 h2;obtain⟨rfl,rfl⟩:=K8 h2;obtain⟨k',a1,a2,a3,a4⟩:=key h1;exact⟨k',a1,a2,a3,.inl ⟨n,b,a4,hb,rfl⟩⟩;obtain⟨k',a1,a2,a3,a4⟩:=key h1;exact⟨k',a1,a2,a3,.inr ⟨d,a4,h2⟩⟩
def yY{R:Ac}{sub:Rd Nd}(Lv:∀{k:Nat},k<=ts.length->∀{r l},sub (ts.drop k)=some (r,l)->I8 ts k (R.B1 ⟨ts,k,en⟩) r l)(k0:Int) :
   ∀(q:Nat) (N:Nd) (k:Nat) (r:Nd⊕Dg) (l:List Tk),k<=ts.length->KQ en (opsOf 0) sub q N (ts.drop k)=some (r,l) ->
   ∃k':Nat,k<=k'/\k'<=ts.length/\l=ts.drop k'/\∃n,GS (λx=>Bs R ⟨ts,k0,en⟩ x.1 x.2.1 x.2.2.1 x.2.2.2.1 x.2.2.2.2.1 x.2.2.2.2.2.1 x.2.2.2.2.2.2.1 x.2.2.2.2.2.2.2.1 x.2.2.2.2.2.2.2.2.1 x.2.2.2.2.2.2.2.2.2.1 x.2.2.2.2.2.2.2.2.2.2.1 x.2.2.2.2.2.2.2.2.2.2.2) n (N.kind,N.name,N.unit,N.n,N.fr,N.to,N.known,N.CN.den,N.CN.ps,N.kids,N.AF,(k:Int))=some (.inr (r,(k':Int))):=by
 intro q
 induction q with
 | zero=>intro N k r l hk hS;cases hS
 | succ q ih =>
   intro N k r l hk hS;rcases afj (en:=en) hk hS with ⟨x,h1,h2,hS⟩ | ⟨h2,hS⟩
   rcases IW hS with ⟨b,s',h3,h4⟩ | ⟨d,h3,rfl⟩
   obtain⟨k',a1,a2,rfl,⟨n,b',hX,hb,hr⟩ | ⟨d,hX,hr⟩⟩:=M5 DS h1 (λh=>Lv h1 h) h3;cases hr;obtain⟨k2,b1,b2,b3,m,b4⟩:=ih b k' r l a2 h4;refine⟨k2,by omega,b2,b3,m+1,?_⟩
   have hL:Bs R ⟨ts,k0,en⟩ N.kind N.name N.unit N.n N.fr N.to N.known N.CN.den N.CN.ps N.kids N.AF (k:Int)=some (.nx (b.kind,b.name,b.unit,b.n,b.fr,b.to,b.known,b.CN.den,b.CN.ps,b.kids,b.AF,(k':Int))):=by
     unfold Bs;dsimp only;rw[h2];dsimp only[Option.bind,cond];rw[En DS hk];cases hE:BZ x.data.toList Fa.data.toList <;>
     rw[hE] at hX;dsimp only[cond] at hX;dsimp only;rw[hX];dsimp only[Sum.elim];rw[Qi,hb]
   show(Bs R ⟨ts,k0,en⟩ N.kind N.name N.unit N.n N.fr N.to N.known N.CN.den N.CN.ps N.kids N.AF (k:Int)).bind _=_;rw[hL];exact b4;cases hr;obtain⟨k',a1,a2,rfl,⟨n,b',hX,hb,hr⟩ | ⟨d',hX,hr⟩⟩:=M5 DS h1 (λh=>Lv h1 h) h3;cases hr;cases hr;refine⟨k',by omega,a2,rfl,1,?_⟩
   have hL:Bs R ⟨ts,k0,en⟩ N.kind N.name N.unit N.n N.fr N.to N.known N.CN.den N.CN.ps N.kids N.AF (k:Int)=some (.rt (.inr d,(k':Int))):=by
     unfold Bs;dsimp only;rw[h2];dsimp only[Option.bind,cond];rw[En DS hk];cases hE:BZ x.data.toList Fa.data.toList <;>
     rw[hE] at hX;dsimp only[cond] at hX;dsimp only;rw[hX];rfl
   show(Bs R ⟨ts,k0,en⟩ N.kind N.name N.unit N.n N.fr N.to N.known N.CN.den N.CN.ps N.kids N.AF (k:Int)).bind _=_;rw[hL];rfl;obtain⟨rfl,rfl⟩:=K8 hS;refine⟨k,Nat.le_refl k,hk,rfl,1,?_⟩
   have hL:Bs R ⟨ts,k0,en⟩ N.kind N.name N.unit N.n N.fr N.to N.known N.CN.den N.CN.ps N.kids N.AF (k:Int)=some (.rt (.inl N,(k:Int))):=by
     unfold Bs;dsimp only;rw[h2,Qi];rfl
   show(Bs R ⟨ts,k0,en⟩ N.kind N.name N.unit N.n N.fr N.to N.known N.CN.den N.CN.ps N.kids N.AF (k:Int)).bind _=_;rw[hL];rfl
def abm{R:Ac}{g:Ek->Rd Nd}(Lv:∀{k:Nat},k<=ts.length->∀{r l},g (.lv 1) (ts.drop k)=some (r,l)->I8 ts k (R.B1 ⟨ts,k,en⟩) r l){k:Nat}(hk:k<=ts.length){r l}(hS:Ny en g 0 (ts.drop k)=some (r,l)) :
   I8 ts k (FN R ⟨ts,k,en⟩) r l:=by
 refine Bz (λh=>Lv hk h) (λN k' h1 h2 hS=>?_) (λ_ _=>rfl) hS;obtain⟨k2,a1,a2,a3,n,a4⟩:=yY DS Lv (k:Int) _ N k' r l h2 hS;refine⟨k2,a1,a2,a3,?_⟩;dsimp only[Sum.elim];rw[IY a4];rfl
def yZ{R:Ac}{sub:Rd Nd}(Lv:∀{k:Nat},k<=ts.length->∀{r l},sub (ts.drop k)=some (r,l)->I8 ts k (R.BB ⟨ts,k,en⟩) r l)(k0:Int) :
   ∀(q:Nat) (N:Nd) (k:Nat) (r:Nd⊕Dg) (l:List Tk),k<=ts.length->KQ en (opsOf 1) sub q N (ts.drop k)=some (r,l) ->
   ∃k':Nat,k<=k'/\k'<=ts.length/\l=ts.drop k'/\∃n,GS (λx=>Bt R ⟨ts,k0,en⟩ x.1 x.2.1 x.2.2.1 x.2.2.2.1 x.2.2.2.2.1 x.2.2.2.2.2.1 x.2.2.2.2.2.2.1 x.2.2.2.2.2.2.2.1 x.2.2.2.2.2.2.2.2.1 x.2.2.2.2.2.2.2.2.2.1 x.2.2.2.2.2.2.2.2.2.2.1 x.2.2.2.2.2.2.2.2.2.2.2) n (N.kind,N.name,N.unit,N.n,N.fr,N.to,N.known,N.CN.den,N.CN.ps,N.kids,N.AF,(k:Int))=some (.inr (r,(k':Int))):=by
 intro q
 induction q with
 | zero=>intro N k r l hk hS;cases hS
 | succ q ih =>
   intro N k r l hk hS;rcases afk (en:=en) hk hS with ⟨x,h1,h2,hS⟩ | ⟨h2,hS⟩
   rcases IW hS with ⟨b,s',h3,h4⟩ | ⟨d,h3,rfl⟩
   obtain⟨k',a1,a2,rfl,⟨n,b',hX,hb,hr⟩ | ⟨d,hX,hr⟩⟩:=M5 DS h1 (λh=>Lv h1 h) h3;cases hr;obtain⟨k2,b1,b2,b3,m,b4⟩:=ih b k' r l a2 h4;refine⟨k2,by omega,b2,b3,m+1,?_⟩
   have hL:Bt R ⟨ts,k0,en⟩ N.kind N.name N.unit N.n N.fr N.to N.known N.CN.den N.CN.ps N.kids N.AF (k:Int)=some (.nx (b.kind,b.name,b.unit,b.n,b.fr,b.to,b.known,b.CN.den,b.CN.ps,b.kids,b.AF,(k':Int))):=by
     unfold Bt;dsimp only;rw[h2];dsimp only[Option.bind,cond];rw[En DS hk];cases hE:BZ x.data.toList Fa.data.toList <;>
     rw[hE] at hX;dsimp only[cond] at hX;dsimp only;rw[hX];dsimp only[Sum.elim];rw[Qi,hb]
   show(Bt R ⟨ts,k0,en⟩ N.kind N.name N.unit N.n N.fr N.to N.known N.CN.den N.CN.ps N.kids N.AF (k:Int)).bind _=_;rw[hL];exact b4;cases hr;obtain⟨k',a1,a2,rfl,⟨n,b',hX,hb,hr⟩ | ⟨d',hX,hr⟩⟩:=M5 DS h1 (λh=>Lv h1 h) h3;cases hr;cases hr;refine⟨k',by omega,a2,rfl,1,?_⟩
   have hL:Bt R ⟨ts,k0,en⟩ N.kind N.name N.unit N.n N.fr N.to N.known N.CN.den N.CN.ps N.kids N.AF (k:Int)=some (.rt (.inr d,(k':Int))):=by
     unfold Bt;dsimp only;rw[h2];dsimp only[Option.bind,cond];rw[En DS hk];cases hE:BZ x.data.toList Fa.data.toList <;>
     rw[hE] at hX;dsimp only[cond] at hX;dsimp only;rw[hX];rfl
   show(Bt R ⟨ts,k0,en⟩ N.kind N.name N.unit N.n N.fr N.to N.known N.CN.den N.CN.ps N.kids N.AF (k:Int)).bind _=_;rw[hL];rfl;obtain⟨rfl,rfl⟩:=K8 hS;refine⟨k,Nat.le_refl k,hk,rfl,1,?_⟩
   have hL:Bt R ⟨ts,k0,en⟩ N.kind N.name N.unit N.n N.fr N.to N.known N.CN.den N.CN.ps N.kids N.AF (k:Int)=some (.rt (.inl N,(k:Int))):=by
     unfold Bt;dsimp only;rw[h2,Qi];rfl
   show(Bt R ⟨ts,k0,en⟩ N.kind N.name N.unit N.n N.fr N.to N.known N.CN.den N.CN.ps N.kids N.AF (k:Int)).bind _=_;rw[hL];rfl
def abn{R:Ac}{g:Ek->Rd Nd}(Lv:∀{k:Nat},k<=ts.length->∀{r l},g (.lv 2) (ts.drop k)=some (r,l)->I8 ts k (R.BB ⟨ts,k,en⟩) r l){k:Nat}(hk:k<=ts.length){r l}(hS:Ny en g 1 (ts.drop k)=some (r,l)) :
   I8 ts k (FQ R ⟨ts,k,en⟩) r l:=by
 refine Bz (λh=>Lv hk h) (λN k' h1 h2 hS=>?_) (λ_ _=>rfl) hS;obtain⟨k2,a1,a2,a3,n,a4⟩:=yZ DS Lv (k:Int) _ N k' r l h2 hS;refine⟨k2,a1,a2,a3,?_⟩;dsimp only[Sum.elim];rw[IY a4];rfl
def y0{R:Ac}{sub:Rd Nd}(Lv:∀{k:Nat},k<=ts.length->∀{r l},sub (ts.drop k)=some (r,l)->I8 ts k (R.B2 ⟨ts,k,en⟩) r l)(k0:Int) :
   ∀(q:Nat) (N:Nd) (k:Nat) (r:Nd⊕Dg) (l:List Tk),k<=ts.length->KQ en (opsOf 4) sub q N (ts.drop k)=some (r,l) ->
   ∃k':Nat,k<=k'/\k'<=ts.length/\l=ts.drop k'/\∃n,GS (λx=>Bu R ⟨ts,k0,en⟩ x.1 x.2.1 x.2.2.1 x.2.2.2.1 x.2.2.2.2.1 x.2.2.2.2.2.1 x.2.2.2.2.2.2.1 x.2.2.2.2.2.2.2.1 x.2.2.2.2.2.2.2.2.1 x.2.2.2.2.2.2.2.2.2.1 x.2.2.2.2.2.2.2.2.2.2.1 x.2.2.2.2.2.2.2.2.2.2.2) n (N.kind,N.name,N.unit,N.n,N.fr,N.to,N.known,N.CN.den,N.CN.ps,N.kids,N.AF,(k:Int))=some (.inr (r,(k':Int))):=by
 intro q
 induction q with
 | zero=>intro N k r l hk hS;cases hS
 | succ q ih =>
   intro N k r l hk hS;rcases afm (en:=en) hk hS with ⟨x,h1,h2,hS⟩ | ⟨h2,hS⟩
   rcases IW hS with ⟨b,s',h3,h4⟩ | ⟨d,h3,rfl⟩
   obtain⟨k',a1,a2,rfl,⟨n,b',hX,hb,hr⟩ | ⟨d,hX,hr⟩⟩:=M5 DS h1 (λh=>Lv h1 h) h3;cases hr;obtain⟨k2,b1,b2,b3,m,b4⟩:=ih b k' r l a2 h4;refine⟨k2,by omega,b2,b3,m+1,?_⟩
   have hL:Bu R ⟨ts,k0,en⟩ N.kind N.name N.unit N.n N.fr N.to N.known N.CN.den N.CN.ps N.kids N.AF (k:Int)=some (.nx (b.kind,b.name,b.unit,b.n,b.fr,b.to,b.known,b.CN.den,b.CN.ps,b.kids,b.AF,(k':Int))):=by
     unfold Bu;dsimp only;rw[h2];dsimp only[Option.bind,cond];rw[En DS hk];cases hE:BZ x.data.toList Fa.data.toList <;>
     rw[hE] at hX;dsimp only[cond] at hX;dsimp only;rw[hX];dsimp only[Sum.elim];rw[Qi,hb]
   show(Bu R ⟨ts,k0,en⟩ N.kind N.name N.unit N.n N.fr N.to N.known N.CN.den N.CN.ps N.kids N.AF (k:Int)).bind _=_;rw[hL];exact b4;cases hr;obtain⟨k',a1,a2,rfl,⟨n,b',hX,hb,hr⟩ | ⟨d',hX,hr⟩⟩:=M5 DS h1 (λh=>Lv h1 h) h3;cases hr;cases hr;refine⟨k',by omega,a2,rfl,1,?_⟩
   have hL:Bu R ⟨ts,k0,en⟩ N.kind N.name N.unit N.n N.fr N.to N.known N.CN.den N.CN.ps N.kids N.AF (k:Int)=some (.rt (.inr d,(k':Int))):=by
     unfold Bu;dsimp only;rw[h2];dsimp only[Option.bind,cond];rw[En DS hk];cases hE:BZ x.data.toList Fa.data.toList <;>
     rw[hE] at hX;dsimp only[cond] at hX;dsimp only;rw[hX];rfl
   show(Bu R ⟨ts,k0,en⟩ N.kind N.name N.unit N.n N.fr N.to N.known N.CN.den N.CN.ps N.kids N.AF (k:Int)).bind _=_;rw[hL];rfl;obtain⟨rfl,rfl⟩:=K8 hS;refine⟨k,Nat.le_refl k,hk,rfl,1,?_⟩
   have hL:Bu R ⟨ts,k0,en⟩ N.kind N.name N.unit N.n N.fr N.to N.known N.CN.den N.CN.ps N.kids N.AF (k:Int)=some (.rt (.inl N,(k:Int))):=by
     unfold Bu;dsimp only;rw[h2,Qi];rfl
   show(Bu R ⟨ts,k0,en⟩ N.kind N.name N.unit N.n N.fr N.to N.known N.CN.den N.CN.ps N.kids N.AF (k:Int)).bind _=_;rw[hL];rfl
def abo{R:Ac}{g:Ek->Rd Nd}(Lv:∀{k:Nat},k<=ts.length->∀{r l},g (.lv 5) (ts.drop k)=some (r,l)->I8 ts k (R.B2 ⟨ts,k,en⟩) r l){k:Nat}(hk:k<=ts.length){r l}(hS:Ny en g 4 (ts.drop k)=some (r,l)) :
   I8 ts k (FU R ⟨ts,k,en⟩) r l:=by
 refine Bz (λh=>Lv hk h) (λN k' h1 h2 hS=>?_) (λ_ _=>rfl) hS;obtain⟨k2,a1,a2,a3,n,a4⟩:=y0 DS Lv (k:Int) _ N k' r l h2 hS;refine⟨k2,a1,a2,a3,?_⟩;dsimp only[Sum.elim];rw[IY a4];rfl
def zA{R:Ac}{sub:Rd Nd}(Lv:∀{k:Nat},k<=ts.length->∀{r l},sub (ts.drop k)=some (r,l)->I8 ts k (R.B5 ⟨ts,k,en⟩) r l)(k0:Int) :
   ∀(q:Nat) (N:Nd) (k:Nat) (r:Nd⊕Dg) (l:List Tk),k<=ts.length->KQ en (opsOf 5) sub q N (ts.drop k)=some (r,l) ->
   ∃k':Nat,k<=k'/\k'<=ts.length/\l=ts.drop k'/\∃n,GS (λx=>Bv R ⟨ts,k0,en⟩ x.1 x.2.1 x.2.2.1 x.2.2.2.1 x.2.2.2.2.1 x.2.2.2.2.2.1 x.2.2.2.2.2.2.1 x.2.2.2.2.2.2.2.1 x.2.2.2.2.2.2.2.2.1 x.2.2.2.2.2.2.2.2.2.1 x.2.2.2.2.2.2.2.2.2.2.1 x.2.2.2.2.2.2.2.2.2.2.2) n (N.kind,N.name,N.unit,N.n,N.fr,N.to,N.known,N.CN.den,N.CN.ps,N.kids,N.AF,(k:Int))=some (.inr (r,(k':Int))):=by
 intro q
 induction q with
 | zero=>intro N k r l hk hS;cases hS
 | succ q ih =>
   intro N k r l hk hS;rcases afn (en:=en) hk hS with ⟨x,h1,h2,hS⟩ | ⟨h2,hS⟩
   rcases IW hS with ⟨b,s',h3,h4⟩ | ⟨d,h3,rfl⟩
   obtain⟨k',a1,a2,rfl,⟨n,b',hX,hb,hr⟩ | ⟨d,hX,hr⟩⟩:=M5 DS h1 (λh=>Lv h1 h) h3;cases hr;obtain⟨k2,b1,b2,b3,m,b4⟩:=ih b k' r l a2 h4;refine⟨k2,by omega,b2,b3,m+1,?_⟩
   have hL:Bv R ⟨ts,k0,en⟩ N.kind N.name N.unit N.n N.fr N.to N.known N.CN.den N.CN.ps N.kids N.AF (k:Int)=some (.nx (b.kind,b.name,b.unit,b.n,b.fr,b.to,b.known,b.CN.den,b.CN.ps,b.kids,b.AF,(k':Int))):=by
     unfold Bv;dsimp only;rw[h2];dsimp only[Option.bind,cond];rw[En DS hk];cases hE:BZ x.data.toList Fa.data.toList <;>
     rw[hE] at hX;dsimp only[cond] at hX;dsimp only;rw[hX];dsimp only[Sum.elim];rw[Qi,hb]
   show(Bv R ⟨ts,k0,en⟩ N.kind N.name N.unit N.n N.fr N.to N.known N.CN.den N.CN.ps N.kids N.AF (k:Int)).bind _=_;rw[hL];exact b4;cases hr;obtain⟨k',a1,a2,rfl,⟨n,b',hX,hb,hr⟩ | ⟨d',hX,hr⟩⟩:=M5 DS h1 (λh=>Lv h1 h) h3;cases hr;cases hr;refine⟨k',by omega,a2,rfl,1,?_⟩
   have hL:Bv R ⟨ts,k0,en⟩ N.kind N.name N.unit N.n N.fr N.to N.known N.CN.den N.CN.ps N.kids N.AF (k:Int)=some (.rt (.inr d,(k':Int))):=by
     unfold Bv;dsimp only;rw[h2];dsimp only[Option.bind,cond];rw[En DS hk];cases hE:BZ x.data.toList Fa.data.toList <;>
     rw[hE] at hX;dsimp only[cond] at hX;dsimp only;rw[hX];rfl
   show(Bv R ⟨ts,k0,en⟩ N.kind N.name N.unit N.n N.fr N.to N.known N.CN.den N.CN.ps N.kids N.AF (k:Int)).bind _=_;rw[hL];rfl;obtain⟨rfl,rfl⟩:=K8 hS;refine⟨k,Nat.le_refl k,hk,rfl,1,?_⟩
   have hL:Bv R ⟨ts,k0,en⟩ N.kind N.name N.unit N.n N.fr N.to N.known N.CN.den N.CN.ps N.kids N.AF (k:Int)=some (.rt (.inl N,(k:Int))):=by
     unfold Bv;dsimp only;rw[h2,Qi];rfl
   show(Bv R ⟨ts,k0,en⟩ N.kind N.name N.unit N.n N.fr N.to N.known N.CN.den N.CN.ps N.kids N.AF (k:Int)).bind _=_;rw[hL];rfl
def abp{R:Ac}{g:Ek->Rd Nd}(Lv:∀{k:Nat},k<=ts.length->∀{r l},g (.lv 6) (ts.drop k)=some (r,l)->I8 ts k (R.B5 ⟨ts,k,en⟩) r l){k:Nat}(hk:k<=ts.length){r l}(hS:Ny en g 5 (ts.drop k)=some (r,l)) :
   I8 ts k (FV R ⟨ts,k,en⟩) r l:=by
 refine Bz (λh=>Lv hk h) (λN k' h1 h2 hS=>?_) (λ_ _=>rfl) hS;obtain⟨k2,a1,a2,a3,n,a4⟩:=zA DS Lv (k:Int) _ N k' r l h2 hS;refine⟨k2,a1,a2,a3,?_⟩;dsimp only[Sum.elim];rw[IY a4];rfl
end
end Mo
end Go.Proofs.YtpbkhogolfegfaaGreatDoor
namespace Go.Proofs.YtpbkhogolfegfaaGreatDoor
open AI Go
namespace Mo
set_option maxRecDepth 100000
section
variable {α β γ:Type} {ts:List Tk} {k:Nat} {en:Int} {l:List Tk}
def bC(ts:List Tk)(k:Nat)(X:Option ((Pt⊕Dg)×Int×Int))(r:(Pt×Int)⊕Dg)(l:List Tk):Prop:=∃k':Nat,k<=k'/\k'<=ts.length/\l=ts.drop k'/\match r with
 | .inl x=>X=some (.inl x.1,(k':Int),x.2)
 | .inr d=>∃c,X=some (.inr d,(k':Int),c)
variable {r:(Pt×Int)⊕Dg}
def sC{k2:Nat}{X:Option ((Pt⊕Dg)×Int×Int)}(h1:k<=k2)(h:bC ts k2 X r l):bC ts k X r l:=by
 obtain⟨k',a,b,c,d⟩:=h;exact⟨k',Nat.le_trans h1 a,b,c,d⟩
def IF{F1:Option ((γ⊕Dg)×Int)}{F2:(γ⊕Dg)×Int->Option ((Pt⊕Dg)×Int×Int)}{m:Rd γ}{K:γ->Rd (Pt×Int)}
   (h1:∀{r l},m (ts.drop k)=some (r,l)->I8 ts k F1 r l)
   (h2:∀a k',k<=k'->k'<=ts.length->K a (ts.drop k')=some (r,l)->bC ts k' (F2 (.inl a,(k':Int))) r l)
   (h3:∀d z,∃c,F2 (.inr d,z)=some (.inr d,z,c)) (hS:Ct m K (ts.drop k)=some (r,l)):bC ts k (F1.bind F2) r l:=by
 rcases IW hS with ⟨a,s',hm,hS⟩ | ⟨d,hm,rfl⟩
 obtain⟨k',a1,a2,rfl,a4⟩:=h1 hm;rw[a4];exact sC a1 (h2 _ _ a1 a2 hS);obtain⟨k',a1,a2,a3,a4⟩:=h1 hm;obtain⟨c,hc⟩:=h3 d k';exact⟨k',a1,a2,a3,c,by rw[a4,Option.bind_some,hc]⟩
def abZ{F2:Bool->Option ((Pt⊕Dg)×Int×Int)}{A B:Rd (Pt×Int)}{x:ByteArray}(hk:k<=ts.length)
   (h1:k+1<=ts.length->A (ts.drop (k+1))=some (r,l)->bC ts (k+1) (F2 true) r l) (h2:B (ts.drop k)=some (r,l)->bC ts k (F2 false) r l)
   (hS:NT x A B (ts.drop k)=some (r,l)):bC ts k ((Aq ⟨ts,k,en⟩ x).bind F2) r l:=by
 rw[Gw hk,Option.bind_some];rcases La hk hS with ⟨h,h3,hS⟩ | ⟨h,hS⟩
 rw[h];exact sC (Nat.le_succ k) (h1 h3 hS);rw[h];exact h2 hS
end
def aj0(p:Pr)(Ax Bh:Int)(Aw:Int×Int):Option ((Pt⊕Dg)×Int×Int):=((Aj (⟨p.Bq,Bh,p.DC⟩:Pr) jP).bind λ(I7,EA)=>Sum.elim (λ(CX:Tk)=>(Aq (⟨p.Bq,EA,p.DC⟩:Pr) M1).bind λy3=>cond y3 ((BP (⟨p.Bq,(BS EA 1),p.DC⟩:Pr)).bind λ(VI,Jb)=>Sum.elim (λ(Dd:(Int×Int))=>(Ce (⟨p.Bq,Jb,p.DC⟩:Pr)).bind λ(TS,Hr)=>Sum.elim (λ(Ig:Int)=>(AJ (⟨p.Bq,Hr,p.DC⟩:Pr) 0).bind λ(lK,N7)=>Sum.elim (λ(IU:(Int×Int))=>(Aj (⟨p.Bq,N7,p.DC⟩:Pr) Fa).bind λ(y7a,Sd)=>Sum.elim (λ(UY:Tk)=>(AJ (⟨p.Bq,Sd,p.DC⟩:Pr) 1).bind λ(YX,Lg)=>Sum.elim (λ(GK:(Int×Int))=>(CO Ax GK.1).bind λy9=>(Si Ax y9).bind λz10=>cond (EQ 1000000 (BN z10 GK.1)) (some ((Sum.inr (⟨2,GK.2⟩:Dg):(Pt⊕Dg)),Lg,(BN z10 GK.1))) (some ((Sum.inl (⟨Aw.1,(BN Dd.1 (-1)),(BN IU.1 Ig),GK.1⟩:Pt):(Pt⊕Dg)),Lg,(BN z10 GK.1)))) (λ(Lf:Dg)=>some ((Sum.inr Lf:(Pt⊕Dg)),Lg,Ax)) YX) (λ(O9:Dg)=>some ((Sum.inr O9:(Pt⊕Dg)),Sd,Ax)) y7a) (λ(Mz:Dg)=>some ((Sum.inr Mz:(Pt⊕Dg)),N7,Ax)) lK) (λ(GQ:Dg)=>some ((Sum.inr GQ:(Pt⊕Dg)),Hr,Ax)) TS) (λ(Ie:Dg)=>some ((Sum.inr Ie:(Pt⊕Dg)),Jb,Ax)) VI) ((BP (⟨p.Bq,EA,p.DC⟩:Pr)).bind λ(pF,PV)=>Sum.elim (λ(MH:(Int×Int))=>(Ce (⟨p.Bq,PV,p.DC⟩:Pr)).bind λ(YV,UU)=>Sum.elim (λ(YW:Int)=>(AJ (⟨p.Bq,UU,p.DC⟩:Pr) 0).bind λ(Wv,Oe)=>Sum.elim (λ(MI:(Int×Int))=>(Aj (⟨p.Bq,Oe,p.DC⟩:Pr) Fa).bind λ(eK,TQ)=>Sum.elim (λ(ah9:Tk)=>(AJ (⟨p.Bq,TQ,p.DC⟩:Pr) 1).bind λ(eM,QI)=>Sum.elim (λ(J9:(Int×Int))=>(CO Ax J9.1).bind λy16=>(Si Ax y16).bind λz17=>cond (EQ 1000000 (BN z17 J9.1)) (some ((Sum.inr (⟨2,J9.2⟩:Dg):(Pt⊕Dg)),QI,(BN z17 J9.1))) (some ((Sum.inl (⟨Aw.1,(BN MH.1 1),(BN MI.1 YW),J9.1⟩:Pt):(Pt⊕Dg)),QI,(BN z17 J9.1)))) (λ(kV:Dg)=>some ((Sum.inr kV:(Pt⊕Dg)),QI,Ax)) eM) (λ(kU:Dg)=>some ((Sum.inr kU:(Pt⊕Dg)),TQ,Ax)) eK) (λ(UX:Dg)=>some ((Sum.inr UX:(Pt⊕Dg)),Oe,Ax)) Wv) (λ(kT:Dg)=>some ((Sum.inr kT:(Pt⊕Dg)),UU,Ax)) YV) (λ(US:Dg)=>some ((Sum.inr US:(Pt⊕Dg)),PV,Ax)) pF)) (λ(GP:Dg)=>some ((Sum.inr GP:(Pt⊕Dg)),EA,Ax)) I7)
section
variable {ts:List Tk} (DS:ts.length<=1000000) {en:Int}
include DS
def jH(k0 Ax:Int)(v:Int×Int){k:Nat}(hk:k<=ts.length){r l}(hS:MY en Ax v.1 (ts.drop k)=some (r,l)):bC ts k (aj0 ⟨ts,k0,en⟩ Ax k v) r l:=by
 refine IF (λh=>IB DS _ hk h) (λ_ k h hk hS=>?_) (λ_ _=>⟨_,rfl⟩) hS;refine abZ hk (λVP hS=>?_) (λhS=>?_) hS;dsimp only[cond];rw[En DS hk];refine IF (λh=>eH DS VP h) (λa k h hk hS=>?_) (λ_ _=>⟨_,rfl⟩) hS;refine IF (λh=>acq DS hk h) (λs k h hk hS=>?_) (λ_ _=>⟨_,rfl⟩) hS;refine IF (λh=>OB DS _ hk h) (λm k h hk hS=>?_) (λ_ _=>⟨_,rfl⟩) hS;refine IF (λh=>IB DS _ hk h) (λ_ k h hk hS=>?_) (λ_ _=>⟨_,rfl⟩) hS;refine IF (λh=>OB DS _ hk h) (λd k h hk hS=>?_) (λ_ _=>⟨_,rfl⟩) hS;obtain⟨g,hg,hS⟩:=I0 hS;have hg:=aau hg;obtain⟨z,hz,hS⟩:=I0 hS;dsimp only[Sum.elim];rw[hg,Option.bind_some,hz,Option.bind_some];revert hS;cases EQ 1000000 (BN z d.1);exact λhS=>by obtain⟨rfl,rfl⟩:=K8 hS;exact⟨k,Nat.le_refl k,hk,rfl,rfl⟩
 exact λhS=>by obtain⟨rfl,rfl⟩:=MB hS;exact⟨k,Nat.le_refl k,hk,rfl,_,rfl⟩
 refine IF (λh=>eH DS hk h) (λa k h hk hS=>?_) (λ_ _=>⟨_,rfl⟩) hS;refine IF (λh=>acq DS hk h) (λs k h hk hS=>?_) (λ_ _=>⟨_,rfl⟩) hS;refine IF (λh=>OB DS _ hk h) (λm k h hk hS=>?_) (λ_ _=>⟨_,rfl⟩) hS;refine IF (λh=>IB DS _ hk h) (λ_ k h hk hS=>?_) (λ_ _=>⟨_,rfl⟩) hS;refine IF (λh=>OB DS _ hk h) (λd k h hk hS=>?_) (λ_ _=>⟨_,rfl⟩) hS;obtain⟨g,hg,hS⟩:=I0 hS;have hg:=aau hg;obtain⟨z,hz,hS⟩:=I0 hS;dsimp only[Sum.elim];rw[hg,Option.bind_some,hz,Option.bind_some];revert hS;cases EQ 1000000 (BN z d.1);exact λhS=>by obtain⟨rfl,rfl⟩:=K8 hS;exact⟨k,Nat.le_refl k,hk,rfl,rfl⟩
 exact λhS=>by obtain⟨rfl,rfl⟩:=MB hS;exact⟨k,Nat.le_refl k,hk,rfl,_,rfl⟩
def rY(before:List Pt)(hb:before.length<=100000000)(Ax:Int){k:Nat}(hk:k<=ts.length){r l}(hS:RH en before Ax (ts.drop k)=some (r,l)):bC ts k (GG ⟨ts,k,en⟩ before Ax) r l:=by
 refine IF (λh=>eH DS hk h) (λv k1 h hk hS=>?_) (λ_ _=>⟨_,rfl⟩) hS;dsimp only[Sum.elim];revert hS;cases hE:DZ ((before.length:Nat):Int) 0 with
 | true =>
   cases DZ v.1 0;exact λhS=>by obtain⟨rfl,rfl⟩:=MB hS;exact⟨k1,Nat.le_refl k1,hk,rfl,_,rfl⟩
   exact λhS=>jH DS k Ax v hk hS
 | false =>
   intro hS;have h0:before.length≠0:=λh=>ZD hE (by rw[h];rfl);obtain⟨x,hx,hS⟩:=I0 hS;dsimp only[cond];rw[NB (by omega)]
   have hg:Mp before (Sz ((before.length:Nat):Int) 1)=some x:=by
     have:Sz ((before.length:Nat):Int) 1=((before.length - 1:Nat):Int):=by
       rw[QH (by omega)];omega
     rw[this];unfold Mp;rw[if_pos (by omega),Int.toNat_natCast,hx]
   dsimp only;rw[hg,Option.bind_some];revert hS;cases Th v.1 x.fr;cases Th 64 ((before.length:Nat):Int);exact λhS=>jH DS k Ax v hk hS;exact λhS=>by obtain⟨rfl,rfl⟩:=MB hS;exact⟨k1,Nat.le_refl k1,hk,rfl,_,rfl⟩
   exact λhS=>by obtain⟨rfl,rfl⟩:=MB hS;exact⟨k1,Nat.le_refl k1,hk,rfl,_,rfl⟩
def jI(R:Ac)(k0:Int):∀(q:Nat) (ps:List Pt) (c:Int) (k:Nat) (r:(List Pt×Int)⊕Dg) (l:List Tk),ps.length<=100000000->k<=ts.length->LL en q ps c (ts.drop k)=some (r,l) ->
   ∃k':Nat,k<=k'/\k'<=ts.length/\l=ts.drop k'/\∃n,GS (λx=>BD R ⟨ts,k0,en⟩ x.1 x.2.1 x.2.2) n (ps,c,(k:Int))=some (match r with | .inl x=>.inl (x.1,x.2,(k':Int)) | .inr d=>.inr (.inr d,(k':Int))):=by
 intro q
 induction q with
 | zero=>intro ps c k r l hp hk hS;cases hS
 | succ q ih =>
   intro ps c k r l hp hk hS;rcases IW hS with ⟨x,s',h3,h4⟩ | ⟨d,h3,rfl⟩
   obtain⟨k',a1,a2,rfl,a4⟩:=rY DS ps hp c hk h3;obtain⟨hl,h4⟩:=NA h4;rcases La a2 h4 with ⟨h5,h6,h7⟩ | ⟨h5,h7⟩
   obtain⟨k2,b1,b2,b3,n,b4⟩:=ih (ps++[x.1]) x.2 (k'+1) r l (by simp only[List.length_append,List.length_singleton];omega) h6 h7;refine⟨k2,by omega,b2,b3,n+1,?_⟩
   have hL:BD R ⟨ts,k0,en⟩ ps c (k:Int)=some (.nx (ps++[x.1],x.2,((k'+1:Nat):Int))):=by
     unfold BD;dsimp only at a4 ⊢;rw[a4,Option.bind_some];dsimp only[Sum.elim];rw[GV hl,Gw a2,h5,Option.bind_some,En DS a2];rfl
   show(BD R ⟨ts,k0,en⟩ ps c (k:Int)).bind _=_;rw[hL];exact b4;obtain⟨rfl,rfl⟩:=K8 h7;refine⟨k',a1,a2,rfl,1,?_⟩
   have hL:BD R ⟨ts,k0,en⟩ ps c (k:Int)=some (.ex (ps++[x.1],x.2,(k':Int))):=by
     unfold BD;dsimp only at a4 ⊢;rw[a4,Option.bind_some];dsimp only[Sum.elim];rw[GV hl,Gw a2,h5,Option.bind_some];rfl
   show(BD R ⟨ts,k0,en⟩ ps c (k:Int)).bind _=_;rw[hL];rfl;obtain⟨k',a1,a2,a3,c',a4⟩:=rY DS ps hp c hk h3;refine⟨k',a1,a2,a3,1,?_⟩
   have hL:BD R ⟨ts,k0,en⟩ ps c (k:Int)=some (.rt (.inr d,(k':Int))):=by
     unfold BD;dsimp only at a4 ⊢;rw[a4,Option.bind_some];rfl
   show(BD R ⟨ts,k0,en⟩ ps c (k:Int)).bind _=_;rw[hL];rfl
omit DS in
def j9(R:Ac)(c:Int)(t:Tk)(kz:Int):∀(ps:List Pt) (acc:List Pc) (i:Nat) (r:(List Pc)⊕Dg) (s l:List Tk),LR c t.AF ps acc s=some (r,l) ->
   l=s/\Dl (λi y x=>EI R c kz t i y x) (λx=>x) ps i acc=some (match r with | .inl x=>.inl x | .inr d=>.inr (.inr d,kz)):=by
 intro ps
 induction ps with
 | nil =>
   intro acc i r s l hS;obtain⟨rfl,rfl⟩:=K8 hS;exact⟨rfl,rfl⟩
 | cons x ps ih =>
   intro acc i r s l hS;unfold LR at hS;obtain⟨z,hz,hS⟩:=I0 hS;rw[Dl];unfold EI;rw[hz,Option.bind_some];revert hS;cases EQ 1000000 (BN x.num z);cases EQ (BN x.num z) (-1000000);intro hS;obtain⟨hl,hS⟩:=NA hS;obtain⟨rfl,h⟩:=ih _ (i+1) r s l hS;refine⟨rfl,?_⟩;dsimp only[cond];rw[GV hl,Option.bind_some];exact h;intro hS;obtain⟨rfl,rfl⟩:=MB hS;exact⟨rfl,rfl⟩;intro hS;obtain⟨rfl,rfl⟩:=MB hS;exact⟨rfl,rfl⟩
def ags{R:Ac}{g:Ek->Rd Nd}(hex:∀{k:Nat},k<=ts.length->∀{r l},g .ex (ts.drop k)=some (r,l)->I8 ts k (R.AM ⟨ts,k,en⟩) r l){k:Nat}(hk:k<=ts.length){r l}(hS:YC en g (ts.drop k)=some (r,l)) :
   I8 ts k (GH R ⟨ts,k,en⟩) r l:=by
 refine Bz (λh=>IB DS _ hk h) (λt k1 h VP hS=>?_) (λ_ _=>rfl) hS;refine Bz (λh=>IB DS _ VP h) (λ_ k2 h fA hS=>?_) (λ_ _=>rfl) hS;refine Bz (λh=>hex fA h) (λa k3 h hk3 hS=>?_) (λ_ _=>rfl) hS;refine Bz (λh=>IB DS _ hk3 h) (λ_ k4 h hk4 hS=>?_) (λ_ _=>rfl) hS;dsimp only[Sum.elim];rcases IW hS with ⟨x,s',h3,h4⟩ | ⟨d,h3,rfl⟩
 obtain⟨k',a1,a2,rfl,n,a4⟩:=jI DS R (k:Int) _ [] 1 k4 _ _ (by simp) hk4 h3;rw[IY a4,Option.bind_some];refine K7 a1 ?_;dsimp only[PZ];refine Bz (λh=>IB DS _ a2 h) (λe k5 h hk5 hS=>?_) (λ_ _=>rfl) h4;obtain⟨hl,hS⟩:=NA hS;dsimp only[Sum.elim];rw[List.drop_zero,show SR x.1.length=λy=>y from funext λy=>if_pos (by omega)];dsimp only;rcases IW hS with ⟨y,s2,h5,h6⟩ | ⟨d,h5,rfl⟩
 obtain⟨rfl,h⟩:=j9 R x.2 e (k5:Int) x.1 [] 0 _ _ _ h5;rw[h];exact Eh hk5 rfl h6;obtain⟨rfl,h⟩:=j9 R x.2 e (k5:Int) x.1 [] 0 _ _ _ h5;rw[h];exact⟨k5,Nat.le_refl _,hk5,rfl,rfl⟩;obtain⟨k',a1,a2,a3,n,a4⟩:=jI DS R (k:Int) _ [] 1 k4 _ _ (by simp) hk4 h3;rw[IY a4,Option.bind_some];exact⟨k',a1,a2,a3,rfl⟩
def nW{R:Ac}{read:Rd Nd}(k0:Int)(Nu:∀{k:Nat},k<=ts.length->∀{r l},read (ts.drop k)=some (r,l)->I8 ts k (R.AM ⟨ts,k,en⟩) r l):∀(q:Nat) (ns:List Nd) (k:Nat) (r:(List Nd)⊕Dg) (l:List Tk),k<=ts.length->QQ read q ns (ts.drop k)=some (r,l) ->
   ∃k':Nat,k<=k'/\k'<=ts.length/\l=ts.drop k'/\∃n,GS (λx=>Bi R ⟨ts,k0,en⟩ x.1 x.2) n (ns,(k:Int))=some (match r with | .inl x=>.inl (x,(k':Int)) | .inr d=>.inr (.inr d,(k':Int))):=by
 intro q
 induction q with
 | zero=>intro ns k r l hk hS;cases hS
 | succ q ih =>
   intro ns k r l hk hS;rcases La hk hS with ⟨h1,h2,hS⟩ | ⟨h1,hS⟩
   rcases IW hS with ⟨x,s',h3,h4⟩ | ⟨d,h3,rfl⟩
   obtain⟨k',a1,a2,rfl,a4⟩:=Nu h2 h3;obtain⟨hl,h4⟩:=NA h4;obtain⟨k2,b1,b2,b3,n,b4⟩:=ih (ns++[x]) k' r l a2 h4;refine⟨k2,by omega,b2,b3,n+1,?_⟩
   have hL:Bi R ⟨ts,k0,en⟩ ns (k:Int)=some (.nx (ns++[x],(k':Int))):=by
     unfold Bi;dsimp only;rw[Gw hk,h1,Option.bind_some,En DS hk];dsimp only[cond];rw[a4,Option.bind_some];dsimp only[Sum.elim];rw[GV hl]
   show(Bi R ⟨ts,k0,en⟩ ns (k:Int)).bind _=_;rw[hL];exact b4;obtain⟨k',a1,a2,a3,a4⟩:=Nu h2 h3;refine⟨k',by omega,a2,a3,1,?_⟩
   have hL:Bi R ⟨ts,k0,en⟩ ns (k:Int)=some (.rt (.inr d,(k':Int))):=by
     unfold Bi;dsimp only;rw[Gw hk,h1,Option.bind_some,En DS hk];dsimp only[cond];rw[a4,Option.bind_some];rfl
   show(Bi R ⟨ts,k0,en⟩ ns (k:Int)).bind _=_;rw[hL];rfl;obtain⟨rfl,rfl⟩:=K8 hS;refine⟨k,Nat.le_refl k,hk,rfl,1,?_⟩
   have hL:Bi R ⟨ts,k0,en⟩ ns (k:Int)=some (.ex (ns,(k:Int))):=by
     unfold Bi;dsimp only;rw[Gw hk,h1,Option.bind_some];rfl
   show(Bi R ⟨ts,k0,en⟩ ns (k:Int)).bind _=_;rw[hL];rfl
def ae7{R:Ac}{read:Rd Nd}(Nu:∀{k:Nat},k<=ts.length->∀{r l},read (ts.drop k)=some (r,l)->I8 ts k (R.AM ⟨ts,k,en⟩) r l){k:Nat}(hk:k<=ts.length){r l}(hS:RD read (ts.drop k)=some (r,l)):I8 ts k (E3 R ⟨ts,k,en⟩) r l:=by
 refine Bz (λh=>Nu hk h) (λx k1 h VP hS=>?_) (λ_ _=>rfl) hS;dsimp only[Sum.elim];rcases La VP hS with ⟨h1,h2,hS⟩ | ⟨h1,hS⟩
 rw[Gw VP,h1,Option.bind_some,En DS VP];refine K7 (Nat.le_succ k1) ?_;refine Bz (λh=>Nu h2 h) (λy k2 h fA hS=>?_) (λ_ _=>rfl) hS;obtain⟨hl,hS⟩:=NA hS;dsimp only[Sum.elim];rw[GV hl];obtain⟨k',a1,a2,a3,n,a4⟩:=nW DS (k:Int) Nu _ _ k2 _ _ fA hS;rw[IY a4,Option.bind_some];refine⟨k',a1,a2,a3,?_⟩;cases r<;>rfl
 rw[Gw VP,h1,Option.bind_some];exact Eh VP rfl hS
def nX{read:Rd Nd}(k0:Int)(Nu:∀{k:Nat},k<=ts.length->∀{r l},read (ts.drop k)=some (r,l)->I8 ts k (AN ⟨ts,k,en⟩) r l):∀(q:Nat) (ns:List Nd) (k:Nat) (r:(List Nd)⊕Dg) (l:List Tk),k<=ts.length->QQ read q ns (ts.drop k)=some (r,l) ->
   ∃k':Nat,k<=k'/\k'<=ts.length/\l=ts.drop k'/\∃n,GS (λx=>AO ⟨ts,k0,en⟩ x.1 x.2) n (ns,(k:Int))=some (match r with | .inl x=>.inl (x,(k':Int)) | .inr d=>.inr (.inr d,(k':Int))):=by
 intro q
 induction q with
 | zero=>intro ns k r l hk hS;cases hS
 | succ q ih =>
   intro ns k r l hk hS;rcases La hk hS with ⟨h1,h2,hS⟩ | ⟨h1,hS⟩
   rcases IW hS with ⟨x,s',h3,h4⟩ | ⟨d,h3,rfl⟩
   obtain⟨k',a1,a2,rfl,a4⟩:=Nu h2 h3;obtain⟨hl,h4⟩:=NA h4;obtain⟨k2,b1,b2,b3,n,b4⟩:=ih (ns++[x]) k' r l a2 h4;refine⟨k2,by omega,b2,b3,n+1,?_⟩
   have hL:AO ⟨ts,k0,en⟩ ns (k:Int)=some (.nx (ns++[x],(k':Int))):=by
     unfold AO;dsimp only;rw[Gw hk,h1,Option.bind_some,En DS hk];dsimp only[cond];rw[a4,Option.bind_some];dsimp only[Sum.elim];rw[GV hl]
   show(AO ⟨ts,k0,en⟩ ns (k:Int)).bind _=_;rw[hL];exact b4;obtain⟨k',a1,a2,a3,a4⟩:=Nu h2 h3;refine⟨k',by omega,a2,a3,1,?_⟩
   have hL:AO ⟨ts,k0,en⟩ ns (k:Int)=some (.rt (.inr d,(k':Int))):=by
     unfold AO;dsimp only;rw[Gw hk,h1,Option.bind_some,En DS hk];dsimp only[cond];rw[a4,Option.bind_some];rfl
   show(AO ⟨ts,k0,en⟩ ns (k:Int)).bind _=_;rw[hL];rfl;obtain⟨rfl,rfl⟩:=K8 hS;refine⟨k,Nat.le_refl k,hk,rfl,1,?_⟩
   have hL:AO ⟨ts,k0,en⟩ ns (k:Int)=some (.ex (ns,(k:Int))):=by
     unfold AO;dsimp only;rw[Gw hk,h1,Option.bind_some];rfl
   show(AO ⟨ts,k0,en⟩ ns (k:Int)).bind _=_;rw[hL];rfl
def ae8{read:Rd Nd}(Nu:∀{k:Nat},k<=ts.length->∀{r l},read (ts.drop k)=some (r,l)->I8 ts k (AN ⟨ts,k,en⟩) r l){k:Nat}(hk:k<=ts.length){r l}(hS:RD read (ts.drop k)=some (r,l)):I8 ts k (DF ⟨ts,k,en⟩) r l:=by
 refine Bz (λh=>Nu hk h) (λx k1 h VP hS=>?_) (λ_ _=>rfl) hS;dsimp only[Sum.elim];rcases La VP hS with ⟨h1,h2,hS⟩ | ⟨h1,hS⟩
 rw[Gw VP,h1,Option.bind_some,En DS VP];refine K7 (Nat.le_succ k1) ?_;refine Bz (λh=>Nu h2 h) (λy k2 h fA hS=>?_) (λ_ _=>rfl) hS;obtain⟨hl,hS⟩:=NA hS;dsimp only[Sum.elim];rw[GV hl];obtain⟨k',a1,a2,a3,n,a4⟩:=nX DS (k:Int) Nu _ _ k2 _ _ fA hS;rw[IY a4,Option.bind_some];refine⟨k',a1,a2,a3,?_⟩;cases r<;>rfl
 rw[Gw VP,h1,Option.bind_some];exact Eh VP rfl hS
end
end Mo
end Go.Proofs.YtpbkhogolfegfaaGreatDoor
namespace Go.Proofs.YtpbkhogolfegfaaGreatDoor
open AI Go
namespace Mo
set_option maxRecDepth 100000
section
variable {ts:List Tk} (DS:ts.length<=1000000) {en:Int} {R:Ac} {g:Ek->Rd Nd} {li:Rd (List Nd)} (A:Agr R ts en g li)
include DS A
def aiw{k:Nat}(hk:k<=ts.length){r l}(hS:gF en g (ts.drop k)=some (r,l)):I8 ts k (FR R ⟨ts,k,en⟩) r l:=by
 refine Bz (λh=>A.l4 hk h) (λN k h hk hS=>?_) (λ_ _=>rfl) hS;dsimp only[Sum.elim]
 have fin:∀{y:(Nd⊕Dg)×Int} (k0:Int),BU R ⟨ts,k0,en⟩ (k:Int) N=some (.rt y)->(Qa (λ_:Unit=>BU R ⟨ts,k0,en⟩ (k:Int) N) ()).bind (PZ (λ(_:Unit)=>none) (λv=>some v))=some y:=by
   intro y k0 hL
   have:GS (λ_:Unit=>BU R ⟨ts,k0,en⟩ (k:Int) N) 1 ()=some (.inr y):=by
     show(BU R ⟨ts,k0,en⟩ (k:Int) N).bind _=_;rw[hL];rfl
   rw[IY this];rfl
 rcases afl (en:=en) hk hS with ⟨x,h1,h2,hS⟩ | ⟨h2,hS⟩
 obtain⟨k',a1,a2,rfl,⟨n,b,hX,hb,rfl⟩ | ⟨d,hX,rfl⟩⟩:=M5 DS h1 (λh=>A.l4 h1 h) hS;refine⟨k',by omega,a2,rfl,fin _ ?_⟩;unfold BU;dsimp only;rw[h2];dsimp only[Option.bind,cond];rw[En DS hk];cases hE:BZ x.data.toList Fa.data.toList <;>
 rw[hE] at hX;dsimp only[cond] at hX;dsimp only;rw[hX];dsimp only[Sum.elim];rw[hb];refine⟨k',by omega,a2,rfl,fin _ ?_⟩;unfold BU;dsimp only;rw[h2];dsimp only[Option.bind,cond];rw[En DS hk];cases hE:BZ x.data.toList Fa.data.toList <;>
 rw[hE] at hX;dsimp only[cond] at hX;dsimp only;rw[hX];rfl;obtain⟨rfl,rfl⟩:=K8 hS;refine⟨k,Nat.le_refl k,hk,rfl,fin _ ?_⟩;unfold BU;dsimp only;rw[h2];rfl
def alY{k:Nat}(hk:k<=ts.length){r l}(hS:Ye en g (ts.drop k)=some (r,l)):I8 ts k (Et R ⟨ts,k,en⟩) r l:=by
 unfold Ye at hS;unfold Et;rw[Gw hk,Option.bind_some];cases hx:I6 Ur (ts.drop k) with
 | true =>
   rw[hx] at hS;refine Bz (λh=>IB DS _ hk h) (λt k h hk hS=>?_) (λ_ _=>rfl) hS;refine Bz (λh=>A.l2 hk h) (λN k h hk hS=>?_) (λ_ _=>rfl) hS;exact Eh hk rfl hS
 | false =>
   rw[hx] at hS;obtain⟨k',a1,a2,a3,a4⟩:=A.l3 hk hS;refine⟨k',a1,a2,a3,?_⟩;dsimp only[cond];rw[a4,Option.bind_some];cases r with
   | inr d=>rfl
   | inl N =>
     dsimp only[Sum.elim]
     have hL:GS (λx:Int×ByteArray×ByteArray×Int×Int×Int×Int×Int×List Pc×List Nd×Int×Int=>CT R ⟨ts,k,en⟩ x.1 x.2.1 x.2.2.1 x.2.2.2.1 x.2.2.2.2.1 x.2.2.2.2.2.1 x.2.2.2.2.2.2.1 x.2.2.2.2.2.2.2.1 x.2.2.2.2.2.2.2.2.1 x.2.2.2.2.2.2.2.2.2.1 x.2.2.2.2.2.2.2.2.2.2.1 x.2.2.2.2.2.2.2.2.2.2.2) 1 (N.kind,N.name,N.unit,N.n,N.fr,N.to,N.known,N.CN.den,N.CN.ps,N.kids,N.AF,(k':Int))=some (.inr (.inl N,(k':Int))):=by
       have:CT R ⟨ts,k,en⟩ N.kind N.name N.unit N.n N.fr N.to N.known N.CN.den N.CN.ps N.kids N.AF (k':Int)=some (.rt (.inl N,(k':Int))):=by
         unfold CT EG;dsimp only[Option.bind,cond];rw[Qi]
       show(CT R ⟨ts,k,en⟩ N.kind N.name N.unit N.n N.fr N.to N.known N.CN.den N.CN.ps N.kids N.AF (k':Int)).bind _=_;rw[this];rfl
     rw[IY hL];rfl
omit DS A in
def Qo{F:Option ((Nd⊕Dg)×Int)}{k:Nat}{r l}(h:I8 ts k F r l):I8 ts k (F.bind λ(Ei,Bh)=>Sum.elim (λ(Aw:Nd)=>some ((Sum.inl Aw:(Nd⊕Dg)),Bh)) (λ(CQ:Dg)=>some ((Sum.inr CQ:(Nd⊕Dg)),Bh)) Ei) r l:=by
 obtain⟨k',a1,a2,a3,a4⟩:=h;refine⟨k',a1,a2,a3,?_⟩;rw[a4,Option.bind_some];cases r<;>rfl
def aiv{k:Nat}(hk:k<=ts.length){r l}(hS:Xr en g li (ts.drop k)=some (r,l)):I8 ts k (GZ R ⟨ts,k,en⟩) r l:=by
 refine Vv hk (λt h1 h2 hS=>?_) (λ_=>rfl) hS;have hS:=Zj h2 hS;dsimp only[Sum.elim];rw[En DS hk];refine K7 (Nat.le_succ k) ?_;refine Bz (λh=>IB DS _ h1 h) (λ_ k h hk hS=>?_) (λ_ _=>rfl) hS;refine Bz (λh=>A.ex hk h) (λa k h hk hS=>?_) (λ_ _=>rfl) hS;dsimp only[Sum.elim];rw[GV (by omega)];refine Bz (λh=>IB DS _ hk h) (λ_ k h hk hS=>?_) (λ_ _=>rfl) hS;refine Bz (λh=>A.li hk h) (λns k h hk hS=>?_) (λ_ _=>rfl) hS;obtain⟨hl,hS⟩:=NA hS;dsimp only[Sum.elim];rw[GV (by simpa using hl)]
 cases hE:DZ ((ns.length:Nat):Int) 0 with
 | true =>
   have:ns=[]:=List.eq_nil_of_length_eq_zero (by have:=Fw hE;omega);subst this;refine Bz (λh=>IB DS _ hk h) (λ_ k h hk hS=>?_) (λ_ _=>rfl) hS;exact Eh hk rfl hS
 | false =>
   refine Bz (λh=>IB DS _ hk h) (λ_ k h hk hS=>?_) (λ_ _=>rfl) hS;exact Eh hk rfl hS
def akI(t:Tk){k:Nat}(hk:k<=ts.length){r l}(hS:QW en g t (ts.drop k)=some (r,l)):I8 ts k (FA R ⟨ts,k,en⟩ t) r l:=by
 have one:∀{X:Nd} {r l},U0 (FE X) (ts.drop k)=some (r,l)->I8 ts k (some (.inl X,BS (k:Int) 1)) r l:=by
   intro X r l h;obtain⟨h1,h2⟩:=abM hk h;rw[En DS hk];exact K7 (Nat.le_succ k) (Eh h1 rfl h2)
 revert hS;unfold QW FA;cases BZ t.text.data.toList YH.data.toList;rotate_left;exact one;cases BZ t.text.data.toList Ta.data.toList;rotate_left;exact one;cases BZ t.text.data.toList bM.data.toList;rotate_left;intro hS;obtain⟨h1,hS⟩:=abM hk hS;dsimp only[cond];rw[En DS hk];refine K7 (Nat.le_succ k) ?_;refine Bz (λh=>OB DS _ h1 h) (λa k h hk hS=>?_) (λ_ _=>rfl) hS;exact Eh hk rfl hS;cases BZ t.text.data.toList Ld.data.toList;rotate_left;exact one;cases BZ t.text.data.toList bW.data.toList;rotate_left;exact one;cases BZ t.text.data.toList Qh.data.toList;rotate_left;exact one;cases BZ t.text.data.toList UZ.data.toList;rotate_left;exact one;cases BZ t.text.data.toList Kn.data.toList;rotate_left;exact λhS=>Qo (A.ca hk hS);cases BZ t.text.data.toList FF.data.toList;rotate_left;exact λhS=>Qo (A.ca hk hS);cases BZ t.text.data.toList Qz.data.toList;rotate_left;exact λhS=>Qo (A.ta hk hS);cases BZ t.text.data.toList dH.data.toList;rotate_left;intro hS;obtain⟨h1,hS⟩:=abM hk hS;dsimp only[cond];rw[En DS hk];refine K7 (Nat.le_succ k) ?_;refine Bz (λh=>A.ex h1 h) (λa k h hk hS=>?_) (λ_ _=>rfl) hS;refine Bz (λh=>IB DS _ hk h) (λ_ k h hk hS=>?_) (λ_ _=>rfl) hS;exact Eh hk rfl hS;exact λhS=>Eh hk rfl hS
def ais{k:Nat}(hk:k<=ts.length){r l}(hS:Xm en g (ts.drop k)=some (r,l)):I8 ts k (GY R ⟨ts,k,en⟩) r l:=by
 refine Vv hk (λt h1 h2 hS=>?_) (λ_=>rfl) hS;revert hS;dsimp only[Sum.elim];cases DZ t.kind 3;rotate_left;intro hS;refine Bz (λh=>jA DS hk h) (λn k h hk hS=>?_) (λ_ _=>rfl) hS;refine sD hk (λVP hS=>?_) (λhS=>?_) hS;refine Eh VP (En DS hk) hS;exact Eh hk rfl hS;cases DZ t.kind 2;rotate_left;intro hS;have hS:=Zj h2 hS;dsimp only[cond];rw[En DS hk];refine K7 (Nat.le_succ k) ?_;refine Bz (λh=>QB DS DU h1 h) (λa k h hk hS=>?_) (λ_ _=>rfl) hS;obtain⟨c,hc,hS⟩:=I0 hS;dsimp only[Sum.elim];rw[hc];exact Eh hk rfl hS;intro hS;obtain⟨b,hb,hS⟩:=I0 hS;dsimp only[cond];rw[hb,Option.bind_some];cases b;exact Qo (A.wd t hk hS);have hS:=Zj h2 hS;dsimp only;rw[En DS hk];exact K7 (Nat.le_succ k) (Eh h1 rfl hS)
end
def ad3{ts:List Tk}(DS:ts.length<=1000000)(en:Int):∀q:Nat,Agr (Ai q) ts en (gP en q).1 (gP en q).2:=by
 intro q
 induction q with
 | zero=>constructor<;>intros<;>rename_i h<;>cases h
 | succ q A =>
   constructor
   case ex=>intro k hk r l h;simp only[Ai,Ba];exact Qo (A.l0 hk h)
   case l0=>intro k hk r l h;simp only[Ai,AZ];exact abm DS (λhk _ _ h=>A.l1 hk h) hk h
   case l1=>intro k hk r l h;simp only[Ai,A0];exact abn DS (λhk _ _ h=>A.l2 hk h) hk h
   case l2=>intro k hk r l h;simp only[Ai,A1];exact alY DS A hk h
   case l3=>intro k hk r l h;simp only[Ai,A2];exact aiw DS A hk h
   case l4=>intro k hk r l h;simp only[Ai,A3];exact abo DS (λhk _ _ h=>A.l5 hk h) hk h
   case l5=>intro k hk r l h;simp only[Ai,A4];exact abp DS (λhk _ _ h=>A.l6 hk h) hk h
   case l6=>intro k hk r l h;simp only[Ai,A5];exact Qo (A.at_ hk h)
   case at_=>intro k hk r l h;simp only[Ai,Bl];exact ais DS A hk h
   case wd=>intro t k hk r l h;simp only[Ai,Bo];exact akI DS A t hk h
   case ca=>intro k hk r l h;simp only[Ai,Bm];exact aiv DS A hk h
   case ta=>intro k hk r l h;simp only[Ai,Bg];exact ags DS (λhk _ _ h=>A.ex hk h) hk h
   case li=>intro k hk r l h;simp only[Ai,AT];exact ae7 DS (λhk _ _ h=>A.ex hk h) hk h
end Mo
end Go.Proofs.YtpbkhogolfegfaaGreatDoor
namespace Go.Proofs.YtpbkhogolfegfaaGreatDoor
open AI Go
namespace Mo
set_option maxRecDepth 100000
section
variable (S:Int->Int->Prop) (en en':Int) (w:List Tk)
def TR(t t':Tk):Prop:=t.kind=t'.kind/\t.text=t'.text/\S t.AF t'.AF
inductive F2:List Tk->List Tk->Prop
 | nil:F2 [] []
 | cons {t t':Tk} {l l':List Tk}:TR S t t'->F2 l l'->F2 (t::l) (t'::l')
mutual
inductive NR:Nd->Nd->Prop
 | mk {k:Int} {nm u:ByteArray} {n f t kn:Int} {tb:Fn} {ks ks':List Nd} {a a':Int}:xE ks ks'->S a a'->NR ⟨k,nm,u,n,f,t,kn,tb,ks,a⟩ ⟨k,nm,u,n,f,t,kn,tb,ks',a'⟩
inductive xE:List Nd->List Nd->Prop
 | nil:xE [] []
 | cons {n n':Nd} {l l':List Nd}:NR n n'->xE l l'->xE (n::l) (n'::l')
end
def DR(d d':Dg):Prop:=d.err=d'.err/\(S d.AF d'.AF\/d=⟨72,en⟩/\d'=⟨72,en'⟩)
inductive RR{α:Type}(Q:α->α->Prop):α⊕Dg->α⊕Dg->Prop
 | l {a a':α}:Q a a'->RR Q (.inl a) (.inl a')
 | r {d d':Dg}:DR S en en' d d'->RR Q (.inr d) (.inr d')
def Ends{α:Type}(b:Bool)(r:α⊕Dg)(s:List Tk):Prop:=s=[]/\(r=.inr ⟨72,en⟩\/b=false/\∃a,r=.inl a)
def RP{α:Type}(b:Bool)(Q:α->α->Prop)(m m':Rd α):Prop:=∀⦃l l1 s s':List Tk⦄ ⦃r r':α⊕Dg⦄,F2 S l l1->m l=some (r,s)->m' (l1++w)=some (r',s') ->
 (∃s1,s'=s1++w/\F2 S s s1/\RR S en en' Q r r')\/w≠[]/\Ends en b r s
def EO{α:Type}(b:Bool)(m:Rd α):Prop:=∀⦃r:α⊕Dg⦄ ⦃s:List Tk⦄,m []=some (r,s)->Ends en b r s
end
section
variable {S:Int->Int->Prop} {en en':Int} {w:List Tk} {α β:Type} {b:Bool} {Q:α->α->Prop} {Q2:β->β->Prop}
def Ends.YR{r:α⊕Dg}{s:List Tk}(h:Ends en true r s):Ends en b r s:=by
 refine⟨h.1,?_⟩;rcases h.2 with h | ⟨h,_⟩
 exact .inl h;cases h
def RP.YR{m m':Rd α}(h:RP S en en' w true Q m m'):RP S en en' w b Q m m':=λ_ _ _ _ _ _ f h1 h2=>(h f h1 h2).imp id λh=>⟨h.1,h.2.YR⟩
def EO.YR{m:Rd α}(h:EO en true m):EO en b m:=λ_ _ h1=>(h h1).YR
def Fl{a a':α}(h:Q a a'):RP S en en' w b Q (FE a) (FE a'):=by
 intro l l1 s s' r r' f h1 h2;obtain⟨rfl,rfl⟩:=K8 h1;obtain⟨rfl,rfl⟩:=K8 h2;exact .inl ⟨l1,rfl,f,.l h⟩
def NU{e p p':Int}(h:S p p'):RP S en en' w b Q (Mf e p) (Mf e p'):=by
 intro l l1 s s' r r' f h1 h2;obtain⟨rfl,rfl⟩:=MB h1;obtain⟨rfl,rfl⟩:=MB h2;exact .inl ⟨l1,rfl,f,.r ⟨rfl,.inl h⟩⟩
def Kg{m m':Rd α}{K K':α->Rd β}(h1:RP S en en' w false Q m m')(h2:∀a a',Q a a'->RP S en en' w b Q2 (K a) (K' a'))(h3:∀a,EO en b (K a)):RP S en en' w b Q2 (Ct m K) (Ct m' K'):=by
 intro l l1 s s' r r' f e1 e2;rcases IW e1 with ⟨a,t,e3,e4⟩ | ⟨d,e3,rfl⟩
 rcases IW e2 with ⟨a',t',e5,e6⟩ | ⟨d',e5,rfl⟩
 rcases h1 f e3 e5 with ⟨s1,rfl,f1,q⟩ | ⟨hw,rfl,_⟩
 cases q with
 | l q=>exact h2 _ _ q f1 e4 e6
 exact .inr ⟨hw,h3 a e4⟩;rcases h1 f e3 e5 with ⟨s1,rfl,f1,q⟩ | ⟨hw,rfl,_⟩
 cases q;exact .inr ⟨hw,h3 a e4⟩;rcases IW e2 with ⟨a',t',e5,e6⟩ | ⟨d',e5,rfl⟩
 rcases h1 f e3 e5 with ⟨s1,rfl,f1,q⟩ | ⟨hw,rfl,hq⟩
 cases q;rcases hq with hq | ⟨_,a,hq⟩
 cases hq;exact .inr ⟨hw,rfl,.inl rfl⟩;cases hq;rcases h1 f e3 e5 with ⟨s1,rfl,f1,q⟩ | ⟨hw,rfl,hq⟩
 cases q with
 | r q=>exact .inl ⟨s1,rfl,f1,.r q⟩
 rcases hq with hq | ⟨_,a,hq⟩
 cases hq;exact .inr ⟨hw,rfl,.inl rfl⟩;cases hq
def Fk{m m':Rd α}{K K':α->Rd β}(h1:RP S en en' w true Q m m')(h2:∀a a',Q a a'->RP S en en' w b Q2 (K a) (K' a')):RP S en en' w b Q2 (Ct m K) (Ct m' K'):=by
 intro l l1 s s' r r' f e1 e2
 have no:∀{a:α} {t:List Tk},m l=some (.inl a,t)->¬Ends en true (Sum.inl a:α⊕Dg) t:=by
   rintro a t _ ⟨_,h | ⟨h,_⟩⟩<;>cases h
 rcases IW e1 with ⟨a,t,e3,e4⟩ | ⟨d,e3,rfl⟩
 rcases IW e2 with ⟨a',t',e5,e6⟩ | ⟨d',e5,rfl⟩
 rcases h1 f e3 e5 with ⟨s1,rfl,f1,q⟩ | ⟨hw,h⟩
 cases q with
 | l q=>exact h2 _ _ q f1 e4 e6
 exact absurd h (no e3);rcases h1 f e3 e5 with ⟨s1,rfl,f1,q⟩ | ⟨hw,h⟩
 cases q;exact absurd h (no e3);rcases IW e2 with ⟨a',t',e5,e6⟩ | ⟨d',e5,rfl⟩
 rcases h1 f e3 e5 with ⟨s1,rfl,f1,q⟩ | ⟨hw,rfl,hq⟩
 cases q;rcases hq with hq | ⟨hq,_⟩
 cases hq;exact .inr ⟨hw,rfl,.inl rfl⟩;cases hq;rcases h1 f e3 e5 with ⟨s1,rfl,f1,q⟩ | ⟨hw,rfl,hq⟩
 cases q with
 | r q=>exact .inl ⟨s1,rfl,f1,.r q⟩
 rcases hq with hq | ⟨hq,_⟩
 cases hq;exact .inr ⟨hw,rfl,.inl rfl⟩;cases hq
def Qs{X:Option β}{K K':β->Rd α}(h:∀a,X=some a->RP S en en' w b Q (K a) (K' a)):RP S en en' w b Q (Li X K) (Li X K'):=by
 intro l l1 s s' r r' f e1 e2;obtain⟨a,ha,e1⟩:=I0 e1;obtain⟨a',xI,e2⟩:=I0 e2;rw[ha] at xI;cases xI;exact h a ha f e1 e2
def ab6{K K':Tk->Rd α}(h:∀t t',TR S t t'->RP S en en' w b Q (K t) (K' t')):RP S en en' w b Q (Uw en K) (Uw en' K'):=by
 intro l l1 s s' r r' f e1 e2;cases f with
 | nil =>
   simp only[Uw,Option.some.injEq,Prod.mk.injEq] at e1;obtain⟨rfl,rfl⟩:=e1;by_cases hw:w=[];subst hw;simp only[Uw,List.append_nil,Option.some.injEq,Prod.mk.injEq] at e2;obtain⟨rfl,rfl⟩:=e2;exact .inl ⟨[],rfl,.nil,.r ⟨rfl,.inr ⟨rfl,rfl⟩⟩⟩;exact .inr ⟨hw,rfl,.inl rfl⟩
 | cons ht f=>exact h _ _ ht (.cons ht f) e1 e2
def Uy{K K':Rd α}(h:RP S en en' w b Q K K'):RP S en en' w b Q (U0 K) (U0 K'):=by
 intro l l1 s s' r r' f e1 e2;cases f with
 | nil=>cases e1
 | cons ht f=>exact h f e1 e2
def Yq{x:ByteArray}{A A' B B':Rd α}(h1:RP S en en' w b Q A A')(h2:RP S en en' w b Q B B')(h3:EO en b B):RP S en en' w b Q (NT x A B) (NT x A' B'):=by
 intro l l1 s s' r r' f e1 e2;cases f with
 | nil =>
   by_cases hw:w=[];subst hw;exact h2 .nil e1 e2;exact .inr ⟨hw,h3 e1⟩
 | cons ht f =>
   rename_i t t' l l';unfold NT at e1 e2
   have:I6 x (t::l)=I6 x (t'::l'++w):=by
     show BZ t.text.data.toList _=BZ t'.text.data.toList _;rw[ht.2.1]
   rw[<- this] at e2;cases hx:I6 x (t::l) with
   | true=>rw[hx] at e1 e2;exact h1 f e1 e2
   | false=>rw[hx] at e1 e2;exact h2 (.cons ht f) e1 e2
def Yp{n n':Nat}{m m':Rd α}(h:RP S en en' w b Q m m'):RP S en en' w b Q (Od n m) (Od n' m'):=by
 intro l l1 s s' r r' f e1 e2;exact h f (NA e1).2 (NA e2).2
def DG{c:Bool}{A A' B B':Rd α}(h1:c=true->RP S en en' w b Q A A')(h2:c=false->RP S en en' w b Q B B'):RP S en en' w b Q (cond c A B) (cond c A' B'):=by
 cases c;exact h2 rfl;exact h1 rfl
def ab4{K K':Nat->Rd α}(h:∀n n',RP S en en' w b Q (K n) (K' n')):RP S en en' w b Q (λs=>K (s.length+1) s) (λs=>K' (s.length+1) s):=by
 intro l l1 s s' r r' f e1 e2;exact h _ _ f e1 e2
def p4{K:Tk->Rd α}:EO en b (Uw en K):=by
 intro r s h;simp only[Uw,Option.some.injEq,Prod.mk.injEq] at h;obtain⟨rfl,rfl⟩:=h;exact⟨rfl,.inl rfl⟩
def OR{a:α}:EO en false (FE a):=by
 intro r s h;obtain⟨rfl,rfl⟩:=K8 h;exact⟨rfl,.inr ⟨rfl,a,rfl⟩⟩
def Nq{m:Rd α}{K:α->Rd β}(h:EO en true m):EO en b (Ct m K):=by
 intro r s e1;rcases IW e1 with ⟨a,t,e3,e4⟩ | ⟨d,e3,rfl⟩
 obtain⟨_,h | ⟨h,_⟩⟩:=h e3<;>cases h
 obtain⟨h1,h | ⟨h,_⟩⟩:=h e3;cases h;exact⟨h1,.inl rfl⟩;cases h
def aiy{X:Option β}{K:β->Rd α}(h:∀a,EO en b (K a)):EO en b (Li X K):=by
 intro r s e1;obtain⟨a,_,e1⟩:=I0 e1;exact h a e1
def mR{x:ByteArray}{A B:Rd α}(h:EO en b B):EO en b (NT x A B):=λ_ _ e1=>h e1
def aad{n:Nat}{m:Rd α}(h:EO en b m):EO en b (Od n m):=λ_ _ e1=>h (NA e1).2
end
end Mo
end Go.Proofs.YtpbkhogolfegfaaGreatDoor
namespace Go.Proofs.YtpbkhogolfegfaaGreatDoor
open AI Go
namespace Mo
set_option maxRecDepth 100000
section
variable {S:Int->Int->Prop} {en en':Int} {w:List Tk} {α β:Type} {b:Bool} {Q:α->α->Prop}
def sY{f:Tk->Option Bool}(hf:∀k t a a',f ⟨k,t,a⟩=f ⟨k,t,a'⟩){t t':Tk}(h:TR S t t'):f t=f t':=by
 obtain⟨k,x,a⟩:=t;obtain⟨k',x',a'⟩:=t';obtain⟨h1,h2,_⟩:=h;dsimp only at h1 h2;subst h1 h2;exact hf _ _ _ _
def afR{X X':Option β}{K K':β->Rd α}(h:∀a a',X=some a->X'=some a'->RP S en en' w b Q (K a) (K' a')):RP S en en' w b Q (Li X K) (Li X' K'):=by
 intro l l1 s s' r r' f e1 e2;obtain⟨a,ha,e1⟩:=I0 e1;obtain⟨a',xI,e2⟩:=I0 e2;exact h a a' ha xI f e1 e2
def UA{f:Tk->Option Bool}(hf:∀k t a a',f ⟨k,t,a⟩=f ⟨k,t,a'⟩):RP S en en' w b (TR S) (Lc en f) (Lc en' f):=by
 refine ab6 λt t' ht=>?_;rw[sY hf ht];exact Qs λc _=>DG (λ_=>Uy (Fl ht)) λ_=>NU ht.2.2
def ael{f:Tk->Option Bool}:EO en b (Lc en f):=p4
def NV(x:ByteArray):RP S en en' w b (TR S) (Jl en x) (Jl en' x):=UA λ_ _ _ _=>rfl
def U7{x:ByteArray}:EO en b (Jl en x):=p4
def QA(S:Int->Int->Prop)(p p':Int×Int):Prop:=p.1=p'.1/\S p.2 p'.2
def aA:RP S en en' w b (QA S) (MT en) (MT en'):=by
 refine Fk (UA λ_ _ _ _=>rfl) λt t' h=>?_;rw[h.2.1];exact Qs λn _=>Fl ⟨rfl,h.2.2⟩
def Uz(least:Int):RP S en en' w b (QA S) (LB en least) (LB en' least):=by
 refine Fk aA λp p' h=>?_;rw[h.1];exact DG (λ_=>NU h.2) λ_=>DG (λ_=>NU h.2) λ_=>Fl h
def Jq{kind n:Int}{name unit:ByteArray}{ks ks':List Nd}{p p':Int}(h:xE S ks ks')(hp:S p p'):NR S (EV kind name unit n ks p) (EV kind name unit n ks' p'):=.mk h hp
def afg{l l' m m':List Nd}(h:xE S l l')(h2:xE S m m'):xE S (l++m) (l'++m'):=by
 induction l generalizing l' with
 | nil=>cases h;exact h2
 | cons x l ih=>cases h with | cons a t=>exact .cons a (ih t)
def Zm:RP S en en' w b (NR S) (Ge en) (Ge en'):=by
 refine Fk (Uz _) λp p' h=>?_;rw[h.1];exact Fl (Jq .nil h.2)
def pY{read:Rd Nd}(q:Nat)(l:List Nd):EO en false (QQ read q l):=by
 cases q with
 | zero=>intro r s h;cases h
 | succ q=>exact mR OR
def afT{read jS:Rd Nd}(h:RP S en en' w false (NR S) read jS):∀(q q':Nat) (l l':List Nd),xE S l l'->RP S en en' w false (xE S) (QQ read q l) (QQ jS q' l'):=by
 intro q
 induction q with
 | zero=>intro q' l l' _ _ _ _ _ _ _ _ e1;cases e1
 | succ q ih =>
   intro q' l l' hl;cases q' with
   | zero=>intro _ _ _ _ _ _ _ _ e2;cases e2
   | succ q'=>exact Yq (Kg h (λn n' hn=>Yp (ih q' _ _ (afg hl (.cons hn .nil)))) λn=>aad (pY q _)) (Fl hl) OR
def aek{read:Rd Nd}(h:EO en true read):EO en b (RD read):=Nq h
def afS{read jS:Rd Nd}(h:RP S en en' w false (NR S) read jS):RP S en en' w false (xE S) (RD read) (RD jS) :=
 Kg h (λn n' hn=>ab4 λq q'=>afT h q q' _ _ (.cons hn .nil)) λn _ _ h=>pY 1 [n] h
def Yr:RP S en en' w b (QA S) (N3 en) (N3 en'):=by
 refine Fk (UA λ_ _ _ _=>rfl) λt t' h=>?_;have:Cp t=Cp t':=by unfold Cp;rw[h.2.1]
 rw[this,h.1];exact Qs λc _=>DG (λ_=>DG (λ_=>Fl ⟨rfl,h.2.2⟩) λ_=>NU h.2.2) λ_=>Fl ⟨rfl,h.2.2⟩
def aae:EO en b (N3 en):=Nq ael
def afU:RP S en en' w b (·=·) (V8 en) (V8 en'):=by
 refine Fk (UA λ_ _ _ _=>rfl) λt t' h=>?_;rw[h.2.1];exact DG (λ_=>Fl rfl) λ_=>Fl rfl
def aC(Ax from_ a:Int):RP S en en' w b (·=·) (OA en Ax from_ a) (OA en' Ax from_ a):=by
 refine Fk afU λs s' hs=>Fk (Uz _) λm m' hm=>Fk (NV _) λ_ _ _=>Fk (Uz _) λd d' hd=>?_;subst hs;rw[hm.1,hd.1];exact Qs λg _=>Qs λz _=>DG (λ_=>NU hd.2) λ_=>Fl rfl
def aB(Ax from_:Int):RP S en en' w b (·=·) (MY en Ax from_) (MY en' Ax from_):=by
 refine Fk (NV _) λ_ _ _=>Yq (Fk Yr λa a' ha=>?_) (Fk Yr λa a' ha=>?_) (Nq aae);rw[ha.1];exact aC _ _ _;rw[ha.1];exact aC _ _ _
def ab5(before:List Pt)(Ax:Int):RP S en en' w b (·=·) (RH en before Ax) (RH en' before Ax):=by
 refine Fk Yr λv v' hv=>?_;rw[hv.1];exact DG (λ_=>DG (λ_=>aB _ _) λ_=>NU hv.2) λ_=>Qs λq _=>DG (λ_=>NU hv.2) λ_=>DG (λ_=>NU hv.2) λ_=>aB _ _
def wA:∀(q q':Nat) (l:List Pt) (c:Int),RP S en en' w false (·=·) (LL en q l c) (LL en' q' l c):=by
 intro q
 induction q with
 | zero=>intro q' l c _ _ _ _ _ _ _ e1;cases e1
 | succ q ih =>
   intro q' l c;cases q' with
   | zero=>intro _ _ _ _ _ _ _ _ e2;cases e2
   | succ q' =>
     refine Fk (ab5 _ _) λp p' hp=>?_;subst hp;exact Yp (Yq (ih q' _ _) (Fl rfl) OR)
def wB(c:Int){p p':Int}(hp:S p p'):∀(ps:List Pt) (acc:List Pc),RP S en en' w b (·=·) (LR c p ps acc) (LR c p' ps acc):=by
 intro ps
 induction ps with
 | nil=>intro acc;exact Fl rfl
 | cons x ps ih=>intro acc;exact Qs λz _=>DG (λ_=>NU hp) λ_=>DG (λ_=>NU hp) λ_=>Yp (ih _)
inductive ER(S:Int->Int->Prop):Ek->Ek->Prop
 | ex:ER S .ex .ex
 | lv (i:Nat):ER S (.lv i) (.lv i)
 | at_:ER S .at_ .at_
 | wd {t t':Tk}:TR S t t'->ER S (.wd t) (.wd t')
 | ca:ER S .ca .ca
 | ta:ER S .ta .ta
structure Rel(S:Int->Int->Prop)(en en':Int)(w:List Tk)(g g':Ek->Rd Nd)(li li':Rd (List Nd)):Prop where
 rg:∀{e e'},ER S e e'->RP S en en' w false (NR S) (g e) (g' e')
 rli:RP S en en' w false (xE S) li li'
 eg:∀e,(∀t,e≠.wd t)->EO en true (g e)
 eli:EO en true li
def ahW{yes amO:ByteArray->Rd α}{no no':Rd α}(h1:∀x,RP S en en' w b Q (yes x) (amO x))(h2:RP S en en' w b Q no no')(h3:EO en b no):∀ops:List ByteArray,RP S en en' w b Q (lV yes no ops) (lV amO no' ops)/\EO en b (lV yes no ops):=by
 intro ops
 induction ops with
 | nil=>exact⟨h2,h3⟩
 | cons x ops ih=>exact⟨Yq (h1 x) ih.1 ih.2,mR ih.2⟩
def ahl{yes:ByteArray->Rd α}{no:Rd α}(h3:EO en b no):∀ops:List ByteArray,EO en b (lV yes no ops):=by
 intro ops
 induction ops with
 | nil=>exact h3
 | cons x ops ih=>exact mR ih
def uA{op:ByteArray}{l l' r r' x x':Nd}(hl:NR S l l')(hr:NR S r r')(h1:A7 op l r=some x)(h2:A7 op l' r'=some x'):NR S x x':=by
 have ha:S l.AF l'.AF:=by cases hl with | mk _ h=>exact h
 unfold A7 at h1 h2;revert h1 h2;cases BZ op.data.toList JZ.data.toList
 . cases BZ op.data.toList Hk.data.toList
   intro h1 h2;cases h1;cases h2;exact .mk (.cons hl (.cons hr .nil)) ha
   . cases hq:Jw op JZ KJ 1 with
     | none=>intro h1;cases h1
     | some y =>
       intro h1 h2;cases h1;cases h2;exact .mk (.cons hr (.cons hl .nil)) ha
 . cases hq:Jw op JZ KJ 1 with
   | none=>intro h1;cases h1
   | some y =>
     intro h1 h2;cases h1;cases h2;exact .mk (.cons hr (.cons hl .nil)) ha
def jZ{sub acF:Rd Nd}(h:RP S en en' w false (NR S) sub acF)(op:ByteArray){l l':Nd}(hl:NR S l l'):RP S en en' w false (NR S) (Qq en sub op l) (Qq en' acF op l') :=
 Kg (DG (λ_=>Zm) λ_=>h) (λr r' hr=>afR λx x' h1 h2=>Fl (uA hl hr h1 h2)) λr=>aiy λx=>OR
def gK{ops:List ByteArray}{sub:Rd Nd}(q:Nat)(l:Nd):EO en false (KQ en ops sub q l):=by
 cases q with
 | zero=>intro r s h;cases h
 | succ q=>exact ahl OR ops
def ab1(ops:List ByteArray){sub acF:Rd Nd}(h:RP S en en' w false (NR S) sub acF):∀(q q':Nat) (l l':Nd),NR S l l'->RP S en en' w false (NR S) (KQ en ops sub q l) (KQ en' ops acF q' l'):=by
 intro q
 induction q with
 | zero=>intro q' l l' _ _ _ _ _ _ _ _ e1;cases e1
 | succ q ih =>
   intro q' l l' hl;cases q' with
   | zero=>intro _ _ _ _ _ _ _ _ e2;cases e2
   | succ q'=>exact(ahW (λx=>Kg (jZ h x hl) (λy y' hy=>ih q' _ _ hy) λy=>gK q y) (Fl hl) OR ops).1
section
variable {g g':Ek->Rd Nd} {li li':Rd (List Nd)} (A:Rel S en en' w g g' li li')
include A
def ab3(i:Nat):RP S en en' w false (NR S) (Ny en g i) (Ny en' g' i) :=
 Kg (A.rg (.lv _)) (λN N' h=>ab4 λq q'=>ab1 _ (A.rg (.lv _)) q q' _ _ h) λN _ _ h=>gK 1 N h
def afQ:RP S en en' w false (NR S) (gF en g) (gF en' g') :=
 Kg (A.rg (.lv _)) (λN N' h=>(ahW (λx=>jZ (A.rg (.lv _)) x h) (Fl h) OR _).1) λN=>ahl OR _
def akb:RP S en en' w false (NR S) (Ye en g) (Ye en' g'):=by
 intro l l1 s s' r r' f e1 e2;cases f with
 | nil =>
   by_cases hw:w=[];subst hw;exact A.rg (.lv 3) .nil e1 e2;exact .inr ⟨hw,((A.eg (.lv 3) (by intro t h;cases h)) e1).YR⟩
 | cons ht f =>
   rename_i t t' l l';unfold Ye at e1 e2
   have:I6 Ur (t::l)=I6 Ur (t'::l'++w):=by
     show BZ t.text.data.toList _=BZ t'.text.data.toList _;rw[ht.2.1]
   rw[<- this] at e2;cases hx:I6 Ur (t::l) with
   | true =>
     rw[hx] at e1 e2;exact Fk (NV _) (λt t' ht=>Kg (A.rg (.lv 2)) (λk k' hk=>Fl (Jq (.cons hk .nil) ht.2.2)) λk=>OR) (.cons ht f) e1 e2
   | false=>rw[hx] at e1 e2;exact A.rg (.lv 3) (.cons ht f) e1 e2
def afP:RP S en en' w false (NR S) (Xr en g li) (Xr en' g' li'):=by
 refine ab6 λt t' ht=>Uy (Fk (NV _) λ_ _ _=>Kg (A.rg .ex) (λa a' ha=>Fk (NV _) λ_ _ _=>Kg A.rli (λl l' hl=>Yp (Fk (NV _) λ_ _ _=>?_)) λ_=>aad (Nq U7)) λ_=>Nq U7);rw[ht.2.1];exact Fl (Jq (.cons ha hl) ht.2.2)
def ab7:RP S en en' w false (NR S) (YC en g) (YC en' g'):=by
 refine Fk (NV _) λt t' ht=>Fk (NV _) λ_ _ _=>Kg (A.rg .ex) (λa a' ha=>Fk (NV _) λ_ _ _=>Kg (ab4 λq q'=>wA q q' _ _) (λl l' hl=>?_) λ_=>Nq U7) λ_=>Nq U7;subst hl;refine Fk (NV _) λe e' he=>Yp (Fk (wB _ he.2.2 _ _) λr r' hr=>?_);subst hr;exact Fl (.mk (.cons ha .nil) ht.2.2)
def afV{t t':Tk}(ht:TR S t t'):RP S en en' w false (NR S) (QW en g t) (QW en' g' t'):=by
 unfold QW;rw[ht.2.1]
 have hd:RP S en en' w false (NR S) (Ue t) (Ue t'):=by
   unfold Ue;rw[ht.2.1];exact Uy (Fl (Jq .nil ht.2.2))
 refine DG (λ_=>Uy (Fl (Jq .nil ht.2.2))) λ_=>DG (λ_=>Uy (Fl (Jq .nil ht.2.2))) λ_=>DG (λ_=>Uy (Fk (Uz _) λp p' hp=>?_)) λ_ =>
   DG (λ_=>hd) λ_=>DG (λ_=>hd) λ_=>DG (λ_=>hd) λ_=>DG (λ_=>hd) λ_=>DG (λ_=>A.rg .ca) λ_=>DG (λ_=>A.rg .ca) λ_=>DG (λ_=>A.rg .ta) λ_ =>
   DG (λ_=>Uy (Kg (A.rg .ex) (λa a' ha=>Fk (NV _) λ_ _ _=>Fl ha) λ_=>Nq U7)) λ_=>NU ht.2.2
 rw[hp.1];exact Fl (Jq .nil ht.2.2)
def afO:RP S en en' w false (NR S) (Xm en g) (Xm en' g'):=by
 refine ab6 λt t' ht=>?_;have h6:Cu t=Cu t':=sY (λ_ _ _ _=>rfl) ht;rw[ht.1,h6,ht.2.1];refine DG (λ_=>Fk aA λn n' hn=>?_) λ_=>DG (λ_=>Uy (Fk (UA λ_ _ _ _=>rfl) λa a' ha=>?_)) λ_=>Qs λc _=>DG (λ_=>Uy (Fl (Jq .nil ht.2.2))) λ_=>A.rg (.wd ht);rw[hn.1];exact Yq (Fl (Jq .nil hn.2)) (Fl (Jq .nil hn.2)) OR;have:Cp a=Cp a':=by unfold Cp;rw[ha.2.1]
 rw[this];exact Qs λc _=>Fl (Jq .nil ht.2.2)
end
def afE:∀q q':Nat,Rel S en en' w (gP en q).1 (gP en' q').1 (gP en q).2 (gP en' q').2:=by
 intro q
 induction q with
 | zero =>
   intro q';constructor
   case rg=>intro _ _ _ _ _ _ _ _ _ _ e1;cases e1
   case rli=>intro _ _ _ _ _ _ _ e1;cases e1
   case eg=>intro _ _ _ _ e1;cases e1
   case eli=>intro _ _ e1;cases e1
 | succ q ih =>
   intro q'
   have eg:∀e,(∀t,e≠.wd t)->EO en true ((gP en (q+1)).1 e):=by
     have A:=ih 0;intro e he;show EO en true (OD en (gP en q).1 (gP en q).2 e);unfold OD;split;exact A.eg _ (by intro t h;cases h);intro r s h;exact A.eg (.lv 3) (by intro t h;cases h) h;exact Nq (A.eg _ (by intro t h;cases h));exact A.eg _ (by intro t h;cases h);exact Nq (A.eg _ (by intro t h;cases h));exact p4;rename_i t;exact absurd rfl (he t);exact p4;exact Nq U7
   have eli:EO en true (gP en (q+1)).2:=aek ((ih 0).eg .ex (by intro t h;cases h));cases q' with
   | zero =>
     constructor
     case rg=>intro _ _ _ _ _ _ _ _ _ _ _ e2;cases e2
     case rli=>intro _ _ _ _ _ _ _ _ e2;cases e2
     case eg=>exact eg
     case eli=>exact eli
   | succ q' =>
     have A:=ih q';refine⟨λ{e e'} he=>?_,afS (A.rg .ex),eg,eli⟩;show RP S en en' w false (NR S) (OD en (gP en q).1 (gP en q).2 e) (OD en' (gP en' q').1 (gP en' q').2 e');cases he with
     | ex=>exact A.rg (.lv 0)
     | at_=>exact afO A
     | wd ht=>exact afV A ht
     | ca=>exact afP A
     | ta=>exact ab7 A
     | lv i =>
       unfold OD;split;rename_i h;cases h;exact akb A;exact afQ A;exact A.rg .at_;rename_i h;cases h;exact ab3 A _
       all_goals (rename_i h;cases h)
end
end Mo
end Go.Proofs.YtpbkhogolfegfaaGreatDoor
