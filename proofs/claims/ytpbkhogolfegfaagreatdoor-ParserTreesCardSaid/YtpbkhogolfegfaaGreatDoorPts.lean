/- Part of a proof: see the last text. -/
import Derived.Test.YtpbkhogolfegfaaGreatDoorPtr
set_option linter.unusedVariables false
set_option linter.unusedSimpArgs false
set_option linter.defProp false
noncomputable section
namespace Go.Proofs.YtpbkhogolfegfaaGreatDoor
open AI Go
namespace Mo
set_option maxRecDepth 100000
set_option maxHeartbeats 4000000
variable {mx:Int}
def B4:Code:=Bj Tryz.f4
def b4:Tryz.f4.body=some B4:=by kernel_rfl
def B26:Code:=Bj Tryz.f26
def b26:Tryz.f26.body=some B26:=by kernel_rfl
def LJ(Iu:Nd->Option Bool)(i0:Nat)(e0:Nd) :Option (Lp Unit Unit Bool):=(Iu e0).bind λy1=>cond y1 (some (.nx ())) (some (.rt false))
def MQ(Iu:Nd->Option Bool)(n:Nd):Option Bool:=(SS n.kids.length (Dl (λi y x=>LJ Iu  i y ) (λx=>()) (n.kids.drop 0) 0 ())).bind (P0 (λ(_:Unit)=>cond (DZ n.AF 0) (some true) (some false)) (λv=>some v))
def Wm(Iu:Nd->Option Bool)(SQ:∀{n:Nd} {yR:Bool},Iu n=some yR->Pure P (G mx) 26 [.agg (CJ n)] (.zb yR)){n:Nd}{yR:Bool}(h:MQ Iu n=some yR):Pure P (G mx) 26 [.agg (CJ n)] (.zb yR):=by
 unfold MQ at h;refine D7 Hd.mixed Hd.Ab (Ay Tryz.func26 b26 ?_) (BE (AB.CW n) rfl) rfl;revert h;refine Rk (λQ v=>Nj P Tryz.f26 0 Q (.zb v)) (λi0 (_:Unit) (j0:List Value)=>fr 19 [(1,.ptr 0 0),(6,.sl .lost n.kids.length (Bd n.kids)),(7,.zi ((n.kids.length:Nat):Int)),(8,.zi ((i0:Nat):Int))] [2,9,13,14,18] j0) (λ(_:Unit)=>⟨[(0,.cells (CJ n))],1,[],0⟩) (λ(_:Unit) (jx:List Value)=>fr 19 [(1,.ptr 0 0)] [2,9,13,14,18] jx) (λ(_:Unit)=>⟨[(0,.cells (CJ n))],1,[],0⟩) [bF] (IJ [] 0 (sb B26 52) [.code (sb B26 7)] (Ae 300 []) (by kernel_rfl)) ?_ ?_ ?_ (λv h=>by cases h;exact .outer .body);rintro i0 ⟨⟩ j0 Oo hq;exact Fq (Ae 300 [pb (fF Oo)]) (by kernel_rfl) (hq (js 5 j0 [(1,bF)]));rintro i0 e0 ⟨⟩ j0 r Qc Pg P1 k;show LJ Iu  i0 e0 =some r->_;unfold LJ;refine AA λy1 Ci=>?_;refine Ak (λhv=>?_) λhv=>?_;subst hv;rintro⟨⟩;exact Ho Hd.Ab [fq (AB.KC n.kids)] [bp (AB.pl n)] (Ae 300 [pb (WO Pg),IP (Ja .lost Qc),Be (SQ Ci),pi P1]) (by kernel_rfl) (k [(jv j0 0),bT,bT,bF,(jv j0 4)]);subst hv;rintro⟨⟩;exact Bc _ _ (Ae 300 [pb (WO Pg),IP (Ja .lost Qc),Be (SQ Ci)]) (by kernel_rfl) (.GJ k) .sc;rintro⟨⟩ cR;refine Ak (λBp=>?_) λBp=>?_;rintro⟨⟩;exact Bc _ _ (K9 300 [pb Bp]) (by kernel_rfl) .body .sc;rintro⟨⟩;exact Bc _ _ (K9 300 [pb Bp]) (by kernel_rfl) .body .sc
def GU:Nat->Nd->Option Bool
 | 0,_=>none
 | qn+1,n=>MQ (GU qn) n
def X4:∀qn:Nat,∀{n:Nd} {yR:Bool},GU qn n=some yR->Pure P (G mx) 26 [.agg (CJ n)] (.zb yR):=by
 intro qn
 induction qn with
 | zero=>exact(λh=>by simp only[GU] at h;cases h)
 | succ qn ih=>exact(λh=>Wm (GU qn) ih (by rw[GU] at h;exact h))
def Qh(n:Nd):Option Bool:=uV (λqn=>GU qn n)
def Zf{n:Nd}{yR:Bool}(h:Qh n=some yR):Pure P (G mx) 26 [.agg (CJ n)] (.zb yR):=by
 obtain⟨qn,h⟩:=gN h;exact(X4 qn) h
def B27:Code:=Bj Tryz.f27
def b27:Tryz.f27.body=some B27:=by kernel_rfl
def JH(F3:Nd->Int->Int->Option Bool)(n:Nd)(high:Int)(i0:Nat)(e0:Nd) :Option (Lp Unit Unit Bool):=(F3 e0 n.AF high).bind λy1=>cond y1 (some (.nx ())) (some (.rt false))
def Kc(F3:Nd->Int->Int->Option Bool)(n:Nd)(low:Int)(high:Int):Option Bool:=cond (EQ n.AF low) (some false) (cond (EQ high n.AF) (some false) ((SS n.kids.length (Dl (λi y x=>JH F3 n high i y ) (λx=>()) (n.kids.drop 0) 0 ())).bind (P0 (λ(_:Unit)=>some true) (λv=>some v))))
def Th(F3:Nd->Int->Int->Option Bool)(Pw:∀{n:Nd} {low:Int} {high:Int} {yR:Bool},F3 n low high=some yR->Pure P (G mx) 27 [.agg (CJ n),.zi low,.zi high] (.zb yR)){n:Nd}{low:Int}{high:Int}{yR:Bool}(h:Kc F3 n low high=some yR):Pure P (G mx) 27 [.agg (CJ n),.zi low,.zi high] (.zb yR):=by
 unfold Kc at h;refine D7 Hd.mixed Hd.Ab (Ay Tryz.func27 b27 ?_) (BE (AB.CW n) (BE rfl (BE rfl rfl))) rfl;revert h;refine Ak (λBp=>?_) λBp=>?_;rintro⟨⟩;exact rT [pb Bp];refine Ak (λCF=>?_) λCF=>?_;rintro⟨⟩;exact rT [pb Bp,pb CF];refine Rk (λQ v=>Nj P Tryz.f27 0 Q (.zb v)) (λi0 (_:Unit) (j0:List Value)=>fr 33 [(2,.zi high),(3,.ptr 0 0),(20,.sl .lost n.kids.length (Bd n.kids)),(21,.zi ((n.kids.length:Nat):Int)),(22,.zi ((i0:Nat):Int))] [6,12,13,17,18,23,30,31] j0) (λ(_:Unit)=>⟨[(0,.cells (CJ n))],1,[],0⟩) (λ(_:Unit) (jx:List Value)=>fr 33 [] [6,12,13,17,18,23,30,31] jx) (λ(_:Unit)=>⟨[(0,.cells (CJ n))],1,[],0⟩) [bF,bF,bF,bF,bF] (IJ [] 0 (sb B27 116) [.code (sb B27 15)] (Ae 300 [pb Bp,pb CF]) (by kernel_rfl)) ?_ ?_ ?_ (λv h=>by cases h;exact .outer .body);rintro i0 ⟨⟩ j0 Oo hq;exact Fq (Ae 300 [pb (fF Oo)]) (by kernel_rfl) (hq (js 8 j0 [(5,bF)]));rintro i0 e0 ⟨⟩ j0 r Qc Pg P1 k;show JH F3 n high i0 e0 =some r->_;unfold JH;refine AA λy1 Ci=>?_;refine Ak (λhv=>?_) λhv=>?_;subst hv;rintro⟨⟩;exact Ho Hd.Ab [fq (AB.KC n.kids)] [bp (AB.pl n)] (Ae 300 [pb (WO Pg),IP (Ja .lost Qc),Be (Pw Ci),pi P1]) (by kernel_rfl) (k (js 8 j0 [(5,bT),(6,bT),(7,bF)]));subst hv;rintro⟨⟩;exact Bc _ _ (Ae 300 [pb (WO Pg),IP (Ja .lost Qc),Be (Pw Ci)]) (by kernel_rfl) (.GJ k) .sc;rintro⟨⟩ cR;rintro⟨⟩;exact Bc _ _ (K9 300 []) (by kernel_rfl) .body .sc
def EU:Nat->Nd->Int->Int->Option Bool
 | 0,_,_,_=>none
 | qn+1,n,low,high=>Kc (EU qn) n low high
def Uq:∀qn:Nat,∀{n:Nd} {low:Int} {high:Int} {yR:Bool},EU qn n low high=some yR->Pure P (G mx) 27 [.agg (CJ n),.zi low,.zi high] (.zb yR):=by
 intro qn
 induction qn with
 | zero=>exact(λh=>by simp only[EU] at h;cases h)
 | succ qn ih=>exact(λh=>Th (EU qn) ih (by rw[EU] at h;exact h))
def Kd(n:Nd)(low:Int)(high:Int):Option Bool:=uV (λqn=>EU qn n low high)
def Ly{n:Nd}{low:Int}{high:Int}{yR:Bool}(h:Kd n low high=some yR):Pure P (G mx) 27 [.agg (CJ n),.zi low,.zi high] (.zb yR):=by
 obtain⟨qn,h⟩:=gN h;exact(Uq qn) h
def B6:Code:=Bj Tryz.f6
def b6:Tryz.f6.body=some B6:=by kernel_rfl
def F6(source:ByteArray):Option Bool:=(JG).bind λy1=>cond (EQ 6010 ((source.data.toList.length:Nat):Int)) (some y1) ((CZ source).bind λ(I7,EA)=>cond (EQ 0 ((EA.length:Nat):Int)) (cond y1 ((Iw I7 (⟨0,ByteArray.empty,ByteArray.empty,0,0,0,0,(⟨0,[]⟩:Fn),[],0⟩:Nd)).bind λy3=>cond y3 (cond (Ti ((EA.length:Nat):Int) 20) (some true) (some false)) (some false)) (some false)) ((HU I7).bind λy4=>cond y1 ((Dm I7).bind λy5=>cond y5 ((Dm y4).bind λy6=>cond y6 ((Qh y4).bind λy7=>cond y7 ((HU y4).bind λy8=>(Iw y8 y4).bind λy9=>cond y9 ((J6 I7).bind λy10=>(Iw y10 y4).bind λy11=>cond y11 ((Kd I7 0 ((source.data.toList.length:Nat):Int)).bind λy12=>cond y12 (cond (DZ I7.kind 1) (some true) (some false)) (some false)) (some false)) (some false)) (some false)) (some false)) (some false)) (some false)))
def Qg{source:ByteArray}{yR:Bool}(h:F6  source=some yR):Pure P (G mx) 6 [.zs source] (.zb yR):=by
 unfold F6 at h;refine D7 Hd.mixed Hd.Ab (Ay Tryz.func6 b6 ?_) (BE rfl rfl) rfl;revert h;refine AA λy1 Ci=>?_;let o1:List (PC P (G mx)):=[Be (Wl Ci)];refine Ak (λBp=>?_) λBp=>?_;rintro⟨⟩;exact rT (o1++[pb Bp]);refine AA ?_;rintro⟨I7,EA⟩ Ep;dsimp only;let o2:List (PC P (G mx)):=o1++[pb Bp,Be (K2 Ep)];refine Ak (λCF=>?_) λCF=>?_;refine Ak (λhv=>?_) λhv=>?_;subst hv;refine AA λy3 Gr=>?_;let o3:List (PC P (G mx)):=o2++[pb CF,H8 (.r (.g (.r (.r (.r (.r (.r (.r (.r (.r (.z (.z (.r .nil))))))))))) .nil)) (LO Gr)];refine Ak (λhv=>?_) λhv=>?_;subst hv;refine Ak (λD1=>?_) λD1=>?_;rintro⟨⟩;exact rT (o3++[pb D1]);rintro⟨⟩;exact rT (o3++[pb D1]);subst hv;rintro⟨⟩;exact rT o3;subst hv;rintro⟨⟩;exact rT (o2++[pb CF]);refine AA λy4 JV=>?_;let o4:List (PC P (G mx)):=o2++[pb CF,Be (Oy JV)];refine Ak (λhv=>?_) λhv=>?_;subst hv;refine AA λy5 J2=>?_;let o5:List (PC P (G mx)):=o4++[Be (FG J2)];refine Ak (λhv=>?_) λhv=>?_;subst hv;refine AA λy6 MP=>?_;let o6:List (PC P (G mx)):=o5++[Be (FG MP)];refine Ak (λhv=>?_) λhv=>?_;subst hv;refine AA λy7 R5=>?_;let o7:List (PC P (G mx)):=o6++[Be (Zf R5)];refine Ak (λhv=>?_) λhv=>?_;subst hv;refine AA λy8 Ot=>?_;refine AA λy9 VU=>?_;let o8:List (PC P (G mx)):=o7++[Be (Oy Ot),Be (LO VU)];refine Ak (λhv=>?_) λhv=>?_;subst hv;refine AA λy10 Px=>?_;refine AA λy11 Vh=>?_;let o9:List (PC P (G mx)):=o8++[Be (RL Px),Be (LO Vh)];refine Ak (λhv=>?_) λhv=>?_;subst hv;refine AA λy12 XV=>?_;refine Ak (λhv=>?_) λhv=>?_;subst hv;refine Ak (λF9=>?_) λF9=>?_;rintro⟨⟩;exact rT (o9++[Be (Ly XV),pb F9]);rintro⟨⟩;exact rT (o9++[Be (Ly XV),pb F9]);subst hv;rintro⟨⟩;exact rT (o9++[Be (Ly XV)]);subst hv;rintro⟨⟩;exact rT o9;subst hv;rintro⟨⟩;exact rT o8;subst hv;rintro⟨⟩;exact rT o7;subst hv;rintro⟨⟩;exact rT o6;subst hv;rintro⟨⟩;exact rT o5;subst hv;rintro⟨⟩;exact rT o4
def B9:Code:=Bj Tryz.f9
def b9:Tryz.f9.body=some B9:=by kernel_rfl
end Mo
end Go.Proofs.YtpbkhogolfegfaaGreatDoor

namespace Go.Proofs.YtpbkhogolfegfaaGreatDoor
open AI Go
namespace Mo
set_option maxRecDepth 100000
set_option maxHeartbeats 4000000
def uQ(s:ByteArray):Prop:=s.data.toList.length=3/\∀c∈s.data.toList,65<=c.toNat/\c.toNat<=90
def UK(s:ByteArray):Prop:=s=GO\/s=Ev\/s=Jp\/uQ s
def tN(c:UInt8):Prop:=(97<=c.toNat/\c.toNat<=122)\/(48<=c.toNat/\c.toNat<=57)\/c.toNat=95
def rB:List ByteArray:=[SL,Ow,Hx,aat,sC,qJ,toS,Vj,bA,Sb,P5,GO,Ev,Jp,aff,SJ,LH,OT,SR,jE,Pk,Us,fT,YH,Tb,bN,Ld,bY,Qi,U0,Kn,FF,QB]
def QS(s:ByteArray):Prop:=(1<=s.data.toList.length/\s.data.toList.length<=16)/\(∃b,s.data.toList[0]?=some b/\97<=b.toNat/\b.toNat<=122)/\s∉rB/\∀c∈s.data.toList,tN c
def Yf{n:Nd}(h:KH n):n.CN.ps.length<=9223372036854775807/\n.kids.length<=9223372036854775807/\∀k∈n.kids,KH k:=by
 obtain⟨a,b,c⟩:=(PB n).1 h;exact⟨a.1,b,c⟩
def abE{α:Type}{l:List α}{P:α->Prop}:(∀(i:Nat) (y:α),l[i]?=some y->P y)↔∀y∈l,P y :=
 ⟨λh y hy=>(List.getElem?_of_mem hy).elim λi hi=>h i y hi,λh i y hi=>h y (List.mem_of_getElem? hi)⟩
def abj(s:ByteArray):HY s=some (mb (s∈rB)):=by
 rw[HY];simp only[Ru,MN,iU,ajT];refine smb ?_;simp only[rB,List.mem_cons,List.not_mem_nil,or_false]
def ah3(s:ByteArray):s=ByteArray.empty↔s.data.toList.length=0:=by
 constructor;intro h;rw[h];rfl;intro h;apply ByteArray.ext;apply Array.ext';rw[List.eq_nil_of_length_eq_zero h];rfl
def qK(s:ByteArray):D6 s=some (mb (QS s)):=by
 rw[D6];simp only[Ru,OZ,MN,abj,Option.bind_some];unfold QS;by_cases h0:s=ByteArray.empty;rw[CG h0];exact eA λh=>by have:=(ah3 s).1 h0;omega
 have h1:s.data.toList.length≠0:=λh=>h0 ((ah3 s).2 h);rw[CL h0];by_cases h2:16 < ((s.data.toList.length:Nat):Int);rw[CG h2];exact eA λh=>by omega
 rw[CL h2];obtain⟨b,hb⟩:∃b,s.data.toList[0]?=some b:=⟨_,List.getElem?_eq_getElem (by omega)⟩
 rw[hb,cU (v:=false) (P:=λ_ y=>tN y) (by omega) (λi y _=>by
   simp only[It,OZ,KR,MN,al0,ajK,ae5,ajJ,ae6,apE,apD];congr 2;unfold tN;apply propext;omega)]
 simp only[Option.bind_some,iU,apI,abE];refine smb ?_;constructor;rintro⟨h3,h4,h5,h6⟩;exact⟨by omega,⟨b,rfl,by omega⟩,h5,h6⟩;rintro⟨h3,⟨c,hc,h4⟩,h5,h6⟩;cases hc;exact⟨by omega,by omega,h5,h6⟩
def aj6(s:ByteArray):HV s=some (mb (uQ s)):=by
 rw[HV,KR,MN];unfold uQ;by_cases h:((s.data.toList.length:Nat):Int)=3
 rw[CG h,cU (v:=false) (P:=λ_ y=>65<=y.toNat/\y.toNat<=90) (by omega) (λi y _=>by
   simp only[I2,OZ,MN,ae5,ae6];congr 2;apply propext;omega),iU,abE]
 exact smb ⟨λh2=>⟨by omega,h2⟩,λh2=>h2.2⟩;rw[CL h];exact eA λh2=>h (by omega)
def sA(s:ByteArray):ED s=some (mb (UK s)):=by
 rw[ED];simp only[Ru,MN,aj6,Option.bind_some,ajT];rfl
def O7(n:Int):Prop:=1<=n/\n<=1000000
def Uv(n:Int):DL n=some (mb (O7 n)):=by
 rw[DL];simp only[Tj,MN,iU,ajS];rfl
def z8(n:Int):Prop:=0<=n/\n<=36524
def bZ(s:ByteArray):Prop:=s=Ld\/s=bY\/s=Qi\/s=U0
def abX(s:ByteArray):F7 s=some (mb (bZ s)):=by
 rw[F7];simp only[Ru,MN,iU,ajT];rfl
def abZ(a b:List Pc)(ha:a.length<=9223372036854775807):KO a b=some (mb (a=b)):=by
 rw[KO,KR,MN];by_cases h:((a.length:Nat):Int)=((b.length:Nat):Int)
 rw[CG h,cU (v:=false) (P:=λi y=>b[i]?=some y) ha (λi y hy=>by
   have hi:i < a.length:=(List.getElem?_eq_some_iff.1 hy).1;have hb:b[i]?=some b[i]:=List.getElem?_eq_getElem (by omega);simp only[LG];rw[hb];simp only[Option.bind_some]
   have hs:O8 y b[i]=mb (b[i]?=some y):=by
     rw[Bool.eq_iff_iff,Dh,hb];unfold O8;simp only[Bool.and_eq_true,Rx,beq_iff_eq,Option.some.injEq];generalize b[i]=z;cases y;cases z;simp only[Pc.mk.injEq];grind
   rw[hs,MN,al0,hb]),iU]
 refine smb ⟨λh2=>?_,λh2 i y hy=>by rw[<- h2];exact hy⟩;apply List.ext_getElem?;intro i;by_cases hi:i < a.length;rw[List.getElem?_eq_getElem hi,h2 i _ (List.getElem?_eq_getElem hi)];rw[List.getElem?_eq_none (by omega),List.getElem?_eq_none (by omega)];rw[CL h];exact eA λh2=>h (by rw[h2])
def Gc(n f:Nd):Prop:=n.name=f.name/\n.unit=f.unit/\n.n=f.n/\n.fr=f.fr/\n.to=f.to/\n.known=f.known/\n.CN.den=f.CN.den/\n.CN.ps=f.CN.ps
def Xo(n f:Nd)(h:n.CN.ps.length<=9223372036854775807):B0 n f=some (mb (Gc n f)):=by
 rw[B0,abZ _ _ h];simp only[Ru,KR,MN,Option.bind_some,ajS];rfl
end Mo
end Go.Proofs.YtpbkhogolfegfaaGreatDoor
namespace Go.Proofs.YtpbkhogolfegfaaGreatDoor
open AI Go
namespace Mo
set_option maxRecDepth 100000
set_option maxHeartbeats 4000000
def n6{p:Prop}(h:¬p):mb p=false:=by rw[V0];exact h
def Out(r:Option (Bool×Int))(P:Prop)(t:Int):Prop:=∃z,r=some (mb P,z)/\(P->z=t)
def Out.congr{r:Option (Bool×Int)}{P Q:Prop}{t u:Int}(h:Out r P t)(hp:P↔Q)(ht:Q->t=u):Out r Q u:=by
 obtain⟨z,h1,h2⟩:=h;exact⟨z,by rw[h1,L2 hp],λq=>(h2 (hp.2 q)).trans (ht q)⟩
def JW{Q:Prop}{z u:Int}(h:¬Q):Out (some (false,z)) Q u:=⟨z,by rw[n6 h],λq=>absurd q h⟩
def Uu{P Q:Prop}{u:Int}(h:P↔Q):Out (some (mb P,u)) Q u:=⟨u,by rw[L2 h],λ_=>rfl⟩
def Ht{p Q:Prop}{A:Option (Bool×Int)}{z u:Int}(h:p->Out A Q u)(hq:Q->p):Out (KG p A (some (false,z))) Q u:=by
 by_cases hp:p;rw[CG hp];exact h hp;rw[CL hp];exact JW λq=>hp (hq q)
def jG{p Q:Prop}{A:Option (Bool×Int)}{z u:Int}(h:¬p->Out A Q u)(hq:Q->¬p):Out (KG p (some (false,z)) A) Q u:=by
 by_cases hp:p;rw[CG hp];exact JW λq=>hq q hp;rw[CL hp];exact h hp
mutual
def DQ:Nd->Nat
 | ⟨_,_,_,_,_,_,_,_,kids,_⟩=>1+GL kids
def GL:List Nd->Nat
 | []=>0
 | k::ks=>DQ k+GL ks
end
mutual
def Oj:Nd->Nat
 | ⟨_,_,_,_,_,_,_,_,kids,_⟩=>1+eX kids
def eX:List Nd->Nat
 | []=>0
 | k::ks=>max (Oj k) (eX ks)
end
def EB(n:Nd):DQ n=1+GL n.kids:=by cases n;rw[DQ]
def Nq(n:Nd):Oj n=1+eX n.kids:=by cases n;rw[Oj]
def Xw{l:List Nd}{m:Nat}:eX l<=m↔∀k∈l,Oj k<=m:=by
 induction l with
 | nil=>simp[eX]
 | cons a l ih=>simp only[eX,Nat.max_le,ih,List.mem_cons,forall_eq_or_imp]
def Lb{l:List Nd}{k:Nd}(h:k∈l):DQ k<=GL l:=by
 induction l with
 | nil=>cases h
 | cons a l ih =>
   rw[GL];rcases List.mem_cons.1 h with rfl | h
   omega;have:=ih h;omega
def OF(l:List Nd):l.length<=GL l:=by
 induction l with
 | nil=>simp[GL]
 | cons a l ih=>rw[GL,EB];simp only[List.length_cons];omega
def R9{n k:Nd}(h:k∈n.kids):DQ k < DQ n:=by rw[EB n];have:=Lb h;omega
def Rg{g:Ck->Nd->Int->Option (Bool×Int)}{p:Nd->Prop}{d:Int}:∀{l:List Nd} {i:Nat} {c:Int},0<=c->c<=2000->(∀k∈l,∀c:Int,0<=c->c<=2000->Out (g ⟨c⟩ k d) (p k/\c+DQ k<=2000/\d+Oj k<=41) (c+DQ k)) ->
   Out ((Dl (δ:=Int) (ρ:=Bool×Int) (λ_ y (x:Int)=>(g ⟨x⟩ y d).bind λ(Ei,Bh)=>cond Ei (some (.nx Bh)) (some (.rt (false,Bh)))) (λx=>x) l i c).bind (P0 (λ(w:Int)=>some (true,w)) (λv=>some v)))
     ((∀k∈l,p k/\d+Oj k<=41)/\c+GL l<=2000) (c+GL l)
 | [],i,c,h0,h1,_=>⟨c,by rw[Dh.2 ⟨λk hk=>(by cases hk),by simp only[GL];omega⟩];rfl,λ_=>by simp[GL]⟩
 | y::l,i,c,h0,h1,hg=>by
   obtain⟨z,hz,h2⟩:=hg y (by simp) c h0 h1;rw[Dl,hz];simp only[Option.bind_some];by_cases hp:p y/\c+DQ y<=2000/\d+Oj y<=41;rw[Dh.2 hp,h2 hp];show Out ((Dl _ _ l (i+1) (c+DQ y)).bind _) _ _;refine(Rg (l:=l) (i:=i+1) (c:=c+DQ y) (by omega) hp.2.1 λk hk=>hg k (by simp[hk])).congr ?_ ?_;rw[GL];simp only[List.mem_cons,forall_eq_or_imp,Int.natCast_add];constructor;rintro⟨a,b⟩;exact⟨⟨⟨hp.1,hp.2.2⟩,a⟩,by omega⟩;rintro⟨⟨_,a⟩,b⟩;exact⟨a,by omega⟩;intro _;rw[GL];omega;rw[n6 hp];refine⟨z,?_,λq=>?_⟩;show some (false,z)=_;rw[n6];rintro⟨a,b⟩;rw[GL] at b;have:=a y (by simp);exact hp ⟨this.1,by omega,this.2⟩;exfalso;obtain⟨a,b⟩:=q;rw[GL] at b;have:=a y (by simp);exact hp ⟨this.1,by omega,this.2⟩
def Yd(n:Nd){c d:Int}(h0:0<=c)(h1:c<=2000):Out (Cw ⟨c⟩ n d) (c+1<=2000/\d<=40) (c+1):=by
 rw[Cw,Ha (by show _<=c+1/\c+1<=_;omega)];simp only[Tj,MN,Option.bind_some];by_cases h:c+1<=2000;rw[CG h];exact Uu ⟨λa=>⟨h,a⟩,λa=>a.2⟩;rw[CL h];exact JW λa=>h a.1
def dH(f:Fn)(i:Nat)(p:Pc):Prop:=p.fr<=999999999999/\(∀q,0 < i->f.ps[i - 1]?=some q->q.fr < p.fr)/\Xy p.AF f.den=some 0/\p.AF<=BN 999999999999 f.den/\BN (-999999999999) f.den<=p.AF/\p.Mi<=1000000/\-1000000<=p.Mi
def kG(f:Fn):Prop:=O7 f.den/\(1<=f.ps.length/\f.ps.length<=64)/\(∀x,f.ps[0]?=some x->x.fr=0)/\∀(i:Nat) p,f.ps[i]?=some p->dH f i p
def amy(f:Fn)(hl:f.ps.length<=9223372036854775807):Gt f=some (mb (kG f)):=by
 rw[Gt,Uv];simp only[Option.bind_some,MN,OZ,KR];unfold kG;by_cases hr:O7 f.den;rotate_left;rw[CL hr];exact eA λh=>hr h.1;rw[CG hr];by_cases h1:((f.ps.length:Nat):Int) < 1;rw[CG h1];exact eA λh=>by omega
 rw[CL h1];by_cases h2:64 < ((f.ps.length:Nat):Int);rw[CG h2];exact eA λh=>by omega
 rw[CL h2];have vG:f.ps[0]?=some f.ps[0]:=List.getElem?_eq_getElem (by omega);rw[vG];simp only[Option.bind_some];by_cases h3:f.ps[0].fr=0;rotate_left;rw[CL h3];exact eA λh=>h3 (h.2.2.1 _ rfl);rw[CG h3];have aoO:f.den≠0:=by unfold O7 at hr;omega
 rw[cU (v:=false) (P:=λi y=>dH f i y) hl (λi y hy=>by
   have hi:i < f.ps.length:=(List.getElem?_eq_some_iff.1 hy).1;simp only[Hu,OZ,MN,Tj,KR];have hd:∃z,Xy y.AF f.den=some z:=by unfold Xy;rw[if_neg aoO];exact⟨_,rfl⟩
   obtain⟨z,hz⟩:=hd;unfold dH;rw[hz];by_cases h0:(0:Int) < ((i:Nat):Int);rw[CG h0,QI (by omega)];have hq:f.ps[i - 1]?=some f.ps[i - 1]:=List.getElem?_eq_getElem (by omega)
   have hg:Mq f.ps (((i:Nat):Int) - 1)=some f.ps[i - 1]:=by
     unfold Mq;rw[show(((i:Nat):Int) - 1).toNat=i - 1 by omega];simp only[hq]
     first | rfl | (rw[if_pos (by omega)])
   rw[hg,hq];simp only[Option.bind_some,ae5,ae6,ajK,ajJ];congr 2;apply propext;simp only[Option.some.injEq,forall_eq'];grind;rw[CL h0];simp only[Option.bind_some,ae5,ae6,ajK,ajJ];congr 2;apply propext;simp only[Option.some.injEq];have:¬0 < i:=by omega
   grind),iU]
 refine smb ⟨λh=>⟨hr,by omega,λx hx=>by cases hx;exact h3,h⟩,λh=>h.2.2.2⟩
def Yg(s:ByteArray):Prop:=s=Fa\/s=jE\/s=Pk\/s=Ju\/s=Kq\/s=KJ\/s=JY\/s=RJ\/s=M4\/s=Ty\/s=fT
def Qk(k:Nd):Prop:=k.kind=11/\k.unit=Ev/\O7 k.n
def Sk(n:Nd):Prop :=
 (n.kind=11/\UK n.unit/\0<=n.n/\n.n<=999999999999/\(n.unit=GO->n.n<=1)/\n.kids.length=0/\Gc n ⟨0,ByteArray.empty,n.unit,n.n,0,0,0,⟨0,[]⟩,[],0⟩) \/
 (n.kind=12/\QS n.name/\n.kids.length=0/\Gc n ⟨0,n.name,ByteArray.empty,0,0,0,0,⟨0,[]⟩,[],0⟩) \/
 (n.kind=13/\O7 n.n/\n.kids.length=0/\Gc n ⟨0,ByteArray.empty,ByteArray.empty,n.n,0,0,0,⟨0,[]⟩,[],0⟩) \/
 (n.kind=14/\bZ n.name/\n.kids.length=0/\Gc n ⟨0,n.name,ByteArray.empty,0,0,0,0,⟨0,[]⟩,[],0⟩) \/
 (n.kind=15/\n.kids.length=1/\Gc n ⟨0,ByteArray.empty,ByteArray.empty,0,0,0,0,⟨0,[]⟩,[],0⟩) \/
 (n.kind=16/\Gc n ⟨0,n.name,ByteArray.empty,0,0,0,0,⟨0,[]⟩,[],0⟩/\n.kids.length=2/\Yg n.name/\(n.name=Fa->∀k,n.kids[1]?=some k->Qk k)) \/
 (n.kind=17/\(n.name=Kn\/n.name=FF)/\Gc n ⟨0,n.name,ByteArray.empty,0,0,0,0,⟨0,[]⟩,[],0⟩/\2<=n.kids.length) \/
 (n.kind=18/\Gc n ⟨0,ByteArray.empty,ByteArray.empty,0,0,0,0,n.CN,[],0⟩/\kG n.CN/\n.kids.length=1)
mutual
def JF:Nd->Prop
 | ⟨kind,name,unit,n,fr,to,known,CN,kids,AF⟩=>Sk ⟨kind,name,unit,n,fr,to,known,CN,kids,AF⟩/\aap kids
def aap:List Nd->Prop
 | []=>True
 | k::ks=>JF k/\aap ks
end
def aaq{l:List Nd}:aap l↔∀k∈l,JF k:=by
 induction l with
 | nil=>simp[aap]
 | cons k l ih=>simp[aap,ih]
def IX(n:Nd):JF n↔Sk n/\∀k∈n.kids,JF k:=by cases n;rw[JF,aaq]
end Mo
end Go.Proofs.YtpbkhogolfegfaaGreatDoor
namespace Go.Proofs.YtpbkhogolfegfaaGreatDoor
open AI Go
namespace Mo
set_option maxRecDepth 100000
set_option maxHeartbeats 4000000
def L5{r:Option (Bool×Int)}{P Q:Prop}{t u:Int}{f:Bool×Int->Option (Bool×Int)}(h:Out r P t)(hT:P->Out (f (true,t)) Q u)(hF:∀z,¬P->Out (f (false,z)) Q u):Out (r.bind f) Q u:=by
 obtain⟨z,rfl,h2⟩:=h;by_cases hp:P;rw[Dh.2 hp,h2 hp];exact hT hp;rw[n6 hp];exact hF z hp
def aj4{Q:Prop}{t u:Int}(hq:Q)(h:t=u):Out (some (true,t)) Q u:=⟨t,by rw[Dh.2 hq],λ_=>h⟩
def L4{r:Option (Bool×Int)}{P Q:Prop}{t u:Int}(h:Out r P t)(hp:P↔Q)(ht:P->t=u):Out (r.bind λ(a,b)=>some (a,b)) Q u :=
 L5 h (λp=>aj4 (hp.1 p) (ht p)) λ_ p=>JW λq=>p (hp.2 q)
section
variable {p q r:Prop} {z:Int}
def dF:KG p (some (mb q,z)) (some (false,z))=some (mb (p/\q),z):=by
 by_cases h:p;rw[CG h];congr 2;exact L2 ⟨λa=>⟨h,a⟩,λa=>a.2⟩;rw[CL h,n6];exact λa=>h a.1
def oH:KG p (some (false,z)) (some (mb q,z))=some (mb (¬p/\q),z):=by
 by_cases h:p;rw[CG h,n6];exact λa=>a.1 h;rw[CL h];congr 2;exact L2 ⟨λa=>⟨h,a⟩,λa=>a.2⟩
def v7:KG p (some (mb q,z)) (some (mb r,z))=some (mb ((p->q)/\(¬p->r)),z):=by
 by_cases h:p;rw[CG h];congr 2;exact L2 ⟨λa=>⟨λ_=>a,λb=>absurd h b⟩,λa=>a.1 h⟩;rw[CL h];congr 2;exact L2 ⟨λa=>⟨λb=>absurd b h,λ_=>a⟩,λa=>a.2 h⟩
end
section
variable {n:Nd}
def aor(h:n.kind=11):Sk n↔UK n.unit/\0<=n.n/\n.n<=999999999999/\(n.unit=GO->n.n<=1)/\n.kids.length=0/\Gc n ⟨0,ByteArray.empty,n.unit,n.n,0,0,0,⟨0,[]⟩,[],0⟩:=by unfold Sk;simp[h]
def aos(h:n.kind=12):Sk n↔QS n.name/\n.kids.length=0/\Gc n ⟨0,n.name,ByteArray.empty,0,0,0,0,⟨0,[]⟩,[],0⟩:=by unfold Sk;simp[h]
def aot(h:n.kind=13):Sk n↔O7 n.n/\n.kids.length=0/\Gc n ⟨0,ByteArray.empty,ByteArray.empty,n.n,0,0,0,⟨0,[]⟩,[],0⟩:=by unfold Sk;simp[h]
def aou(h:n.kind=14):Sk n↔bZ n.name/\n.kids.length=0/\Gc n ⟨0,n.name,ByteArray.empty,0,0,0,0,⟨0,[]⟩,[],0⟩:=by unfold Sk;simp[h]
def aov(h:n.kind=15):Sk n↔n.kids.length=1/\Gc n ⟨0,ByteArray.empty,ByteArray.empty,0,0,0,0,⟨0,[]⟩,[],0⟩:=by unfold Sk;simp[h]
def aow(h:n.kind=16):Sk n↔Gc n ⟨0,n.name,ByteArray.empty,0,0,0,0,⟨0,[]⟩,[],0⟩/\n.kids.length=2/\Yg n.name/\(n.name=Fa->∀k,n.kids[1]?=some k->Qk k):=by unfold Sk;simp[h]
def aox(h:n.kind=17):Sk n↔(n.name=Kn\/n.name=FF)/\Gc n ⟨0,n.name,ByteArray.empty,0,0,0,0,⟨0,[]⟩,[],0⟩/\2<=n.kids.length:=by unfold Sk;simp[h]
def aoy(h:n.kind=18):Sk n↔Gc n ⟨0,ByteArray.empty,ByteArray.empty,0,0,0,0,n.CN,[],0⟩/\kG n.CN/\n.kids.length=1:=by unfold Sk;simp[h]
def aet(h:Sk n):n.kind=11\/n.kind=12\/n.kind=13\/n.kind=14\/n.kind=15\/n.kind=16\/n.kind=17\/n.kind=18:=by
 unfold Sk at h;rcases h with h | h | h | h | h | h | h | h
 all_goals
   have:=h.1;simp[this]
end
def Ou(l:List Nd)(c d:Int):Prop:=(∀k∈l,JF k/\d+Oj k<=41)/\c+GL l<=2000
def ahM{l:List Nd}{c d:Int}(h:l.length=0)(hc:c<=2000):Ou l c d/\c=c+GL l:=by
 obtain rfl:=List.eq_nil_of_length_eq_zero h;exact⟨⟨(λk hk=>(by cases hk)),(by simp only[GL];omega)⟩,(by simp[GL])⟩
def ahN{x:Nd}{c d:Int}:Ou [x] c d↔JF x/\c+DQ x<=2000/\d+Oj x<=41:=by
 unfold Ou;simp only[List.mem_singleton,forall_eq,GL,Nat.add_zero];exact⟨λa=>⟨a.1.1,a.2,a.1.2⟩,λa=>⟨⟨a.1,a.2.2⟩,a.2.1⟩⟩
def iQ{x y:Nd}{c d:Int}:Ou [x,y] c d↔(JF x/\c+DQ x<=2000/\d+Oj x<=41)/\JF y/\c+DQ x+DQ y<=2000/\d+Oj y<=41:=by
 unfold Ou;simp only[List.mem_cons,List.not_mem_nil,or_false,forall_eq_or_imp,forall_eq,GL,Nat.add_zero,Int.natCast_add];constructor;rintro⟨⟨⟨a,b⟩,c',d'⟩,e⟩;exact⟨⟨a,by omega,b⟩,c',by omega,d'⟩;rintro⟨⟨a,b,c'⟩,d',e,f⟩;exact⟨⟨⟨a,c'⟩,d',f⟩,by omega⟩
abbrev ExS(g:Ck->Nd->Int->Option (Bool×Int))(n:Nd):Prop:=∀(c d:Int),0<=c->c<=2000->0<=d->d<=41->Out (g ⟨c⟩ n d) (JF n/\c+DQ n<=2000/\d+Oj n<=41) (c+DQ n)
def Z0{g:Ck->Nd->Int->Option (Bool×Int)}{b a:Ck->Nd->Int->Option (Bool×Int)}{l:Ck->List Nd->Int->Option (Bool×Int)}{n:Nd}(h:ExS g n){c d:Int}(h0:0<=c)(h1:c<=2000)(h2:0<=d)(h3:d<=41) :
   Out (C4 g b a l ⟨c⟩ n d) ((JF n/\Qk n)/\c+DQ n<=2000/\d+Oj n<=41) (c+DQ n):=by
 rw[C4];simp only[KR,Ru,MN,Uv,Option.bind_some];refine L5 (h c d h0 h1 h2 h3) (λhp=>?_) λz hp=>JW λq=>hp ⟨q.1.1,q.2⟩;show Out (KG (n.kind=11) (KG (n.unit=Ev) (some (mb (O7 n.n),c+DQ n)) (some (false,c+DQ n))) (some (false,c+DQ n))) _ _;rw[dF,dF];exact Uu ⟨λa=>⟨⟨hp.1,a⟩,hp.2⟩,λa=>a.1.2⟩
def uF{g n':Ck->Nd->Int->Option (Bool×Int)}{b:Ck->Nd->Int->Option (Bool×Int)}{l:Ck->List Nd->Int->Option (Bool×Int)}{n:Nd}(hg:∀k∈n.kids,ExS g k)
   (hn:∀k∈n.kids,∀c d:Int,0<=c->c<=2000->0<=d->d<=41->Out (n' ⟨c⟩ k d) ((JF k/\Qk k)/\c+DQ k<=2000/\d+Oj k<=41) (c+DQ k)) {c d:Int} (h0:0<=c) (h1:c<=2000) (h2:0<=d) (h3:d<=40) :
   Out (C0 g b n' l ⟨c⟩ n d) ((n.kids.length=2/\Yg n.name/\(n.name=Fa->∀k,n.kids[1]?=some k->Qk k))/\Ou n.kids c (d+1)) (c+GL n.kids):=by
 rw[C0,Ha (by omega)];simp only[KR,Ru,MN];generalize hl:n.kids=ks at *;by_cases hlen:((ks.length:Nat):Int)=2;rotate_left;rw[CL hlen];exact JW λq=>hlen (by have:=q.1.1;omega);rw[CG hlen]
 match ks,hlen with
 | [x,y],_ =>
 simp only[List.getElem?_cons_zero,List.getElem?_cons_succ,Option.bind_some];refine L5 (hg x (by simp) c (d+1) h0 h1 (by omega) (by omega)) (λhx=>?_) λz hx=>JW λq=>hx (iQ.1 q.2).1;dsimp only;rw[cond_true];have Oq:GL [x,y]=DQ x+DQ y:=by simp[GL]
 have hy:=λhc=>hg y (by simp) (c+DQ x) (d+1) (by omega) hc (by omega) (by omega);have hn':=λhc=>hn y (by simp) (c+DQ x) (d+1) (by omega) hc (by omega) (by omega);have hy:=hy hx.2.1;have hn':=hn' hx.2.1;by_cases hs:n.name=Fa;rw[CG hs];refine L4 hn' ⟨λa=>⟨⟨rfl,.inl hs,λ_ k hk=>by cases hk;exact a.1.2⟩,iQ.2 ⟨hx,a.1.1,a.2⟩⟩,λa=>?_⟩ (λa=>by rw[Oq];omega);have:=(iQ.1 a.2).2;exact⟨⟨this.1,a.1.2.2 hs y rfl⟩,this.2⟩;rw[CL hs]
 have fin:∀iG:Yg n.name,Out ((g ⟨c+DQ x⟩ y (d+1)).bind λ(a,b)=>some (a,b)) ((([x,y]:List Nd).length=2/\Yg n.name/\(n.name=Fa->∀k,some y=some k->Qk k))/\Ou [x,y] c (d+1)) (c+GL [x,y]):=λiG =>
   L4 hy ⟨λa=>⟨⟨rfl,iG,λe=>absurd e hs⟩,iQ.2 ⟨hx,a⟩⟩,λa=>(iQ.1 a.2).2⟩ (λa=>by rw[Oq];omega)
 have step:∀{s:ByteArray} {A:Option (Bool×Int)},(n.name=s->Yg n.name)->(n.name≠s->Out A ((([x,y]:List Nd).length=2/\Yg n.name/\(n.name=Fa->∀k,some y=some k->Qk k))/\Ou [x,y] c (d+1)) (c+GL [x,y])) ->
     Out (KG (n.name=s) ((g ⟨c+DQ x⟩ y (d+1)).bind λ(a,b)=>some (a,b)) A) ((([x,y]:List Nd).length=2/\Yg n.name/\(n.name=Fa->∀k,some y=some k->Qk k))/\Ou [x,y] c (d+1)) (c+GL [x,y]):=by
   intro s A h4 h5;by_cases h:n.name=s;rw[CG h];exact fin (h4 h);rw[CL h];exact h5 h
 refine step (λe=>by unfold Yg;simp[e]) λe1=>?_;refine step (λe=>by unfold Yg;simp[e]) λe2=>?_;refine step (λe=>by unfold Yg;simp[e]) λe3=>?_;refine step (λe=>by unfold Yg;simp[e]) λe4=>?_;refine step (λe=>by unfold Yg;simp[e]) λe5=>?_;refine step (λe=>by unfold Yg;simp[e]) λe6=>?_;refine step (λe=>by unfold Yg;simp[e]) λe7=>?_;refine step (λe=>by unfold Yg;simp[e]) λe8=>?_;refine step (λe=>by unfold Yg;simp[e]) λe9=>?_;refine step (λe=>by unfold Yg;simp[e]) λe10=>?_
 exact JW λq=>by
   have:=q.1.2.1;unfold Yg at this;simp[hs,e1,e2,e3,e4,e5,e6,e7,e8,e9,e10] at this
def abp{A L B T:Prop}{x:Int}:(A/\¬x < 0/\¬999999999999 < x/\(T->¬1 < x/\L/\B)/\(¬T->L/\B))↔A/\0<=x/\x<=999999999999/\(T->x<=1)/\L/\B:=by
 constructor;rintro⟨a,b,c,d,e⟩;by_cases t:T;exact⟨a,by omega,by omega,λ_=>by have:=(d t).1;omega,(d t).2⟩;exact⟨a,by omega,by omega,λh=>absurd h t,e t⟩;rintro⟨a,b,c,d,e⟩;exact⟨a,by omega,by omega,λt=>⟨by have:=d t;omega,e⟩,λ_=>e⟩
def aan:∀(q:Nat) (n:Nd),KH n->3*DQ n<=q->ExS (AH q) n:=by
 intro q
 induction q using Nat.strongRecOn with
 | _ q ih =>
 intro n Uk hq c d h0 h1 h2 h3;have Oq:=EB n;obtain⟨q,rfl⟩:∃k,q=k+1:=⟨q - 1,by omega⟩;obtain⟨qT,hkl,fC⟩:=Yf Uk;have hE:∀k∈n.kids,∀q',q<=q'+2->q' < q+1->ExS (AH q') k:=λk hk q' h4 h5=>ih q' h5 k (fC k hk) (by have:=Lb hk;omega);rw[AH,D9];refine L5 (Yd n h0 h1) (λhp=>?_) λz hp=>JW λa=>hp ⟨by omega,by have:=Nq n;omega⟩;dsimp only;rw[cond_true];refine Out.congr (P:=Sk n/\Ou n.kids (c+1) (d+1)) (t:=(c+1)+GL n.kids) ?_ ?_ (λ_=>by omega);rotate_left;rw[IX,Nq];unfold Ou;have hd:=@Xw n.kids;constructor;rintro⟨a,b,e⟩;refine⟨⟨a,λk hk=>(b k hk).1⟩,by omega,?_⟩;have:=(hd (m:=(40 - d).toNat)).2 λk hk=>by have:=(b k hk).2;omega
 omega;rintro⟨⟨a,b⟩,e,f⟩;refine⟨a,λk hk=>⟨b k hk,?_⟩,by omega⟩;have:=(hd (m:=eX n.kids)).1 (Nat.le_refl _) k hk;omega;have ZN:=hp.1;have ZO:=hp.2;rw[Ha (a:=d) (b:=1) (by omega)];have e0:(((n.kids.length:Nat):Int)=0)=(n.kids.length=0):=propext (by omega);simp only[KR,Tj,OZ,Ru,MN,sA,qK,Uv,abX,amy _ qT,Xo _ _ qT,Option.bind_some,e0];have XR:∀{B:Prop},(B↔Sk n)->(B->n.kids.length=0)->Out (some (mb B,c+1)) (Sk n/\Ou n.kids (c+1) (d+1)) (c+1+GL n.kids):=λhB hk=>(Uu hB).congr ⟨λa=>⟨a,(ahM (hk (hB.2 a)) ZN).1⟩,λa=>a.1⟩ λa=>(ahM (d:=d+1) (hk (hB.2 a.1)) ZN).2
 have aa3:∀{B:Prop},(Sk n↔B/\n.kids.length=1)->B->n.kids.length=1->Out ((n.kids[0]?).bind λx=>(AH q ⟨c+1⟩ x (d+1)).bind λ(a,b)=>some (a,b)) (Sk n/\Ou n.kids (c+1) (d+1)) (c+1+GL n.kids):=by
   intro B hB hb hl;have F8:=λk hk=>hE k hk q (by omega) (by omega);have hx:=hB.2 ⟨hb,hl⟩;generalize n.kids=ks at *
   match ks,hl with
   | [x],_ =>
   simp only[List.getElem?_cons_zero,Option.bind_some];refine L4 (F8 x (by simp) (c+1) (d+1) (by omega) ZN (by omega) (by omega)) ⟨λa=>⟨hx,ahN.2 a⟩,λa=>ahN.1 a.2⟩ λ_=>?_;simp[GL]
 by_cases k11:n.kind=11;rw[CG k11];simp only[dF,oH,v7];refine XR ?_ ?_;rw[aor k11];exact abp;intro h;exact(abp.1 h).2.2.2.2.1;rw[CL k11];by_cases k12:n.kind=12;rw[CG k12];simp only[dF,oH,v7];refine XR ?_ ?_;rw[aos k12];intro h;exact h.2.1;rw[CL k12];by_cases k13:n.kind=13;rw[CG k13];simp only[dF,oH,v7];refine XR ?_ ?_;rw[aot k13];intro h;exact h.2.1;rw[CL k13];by_cases k14:n.kind=14;rw[CG k14];simp only[dF,oH,v7];refine XR ?_ ?_;rw[aou k14];intro h;exact h.2.1;rw[CL k14];by_cases k15:n.kind=15;rw[CG k15];have e:=aov k15;refine Ht (λhl=>Ht (λhb=>aa3 (e.trans And.comm) hb (by omega)) λa=>(e.1 a.1).2) λa=>?_;have:=(e.1 a.1).1;omega;rw[CL k15];by_cases k16:n.kind=16;rw[CG k16];have e:=aow k16;refine Ht (λhb=>?_) λa=>(e.1 a.1).1;obtain⟨q,rfl⟩:∃k,q=k+1:=⟨q - 1,by omega⟩;rw[AU];refine L4 (uF (g:=AH q) (b:=AU q) (n':=AK q) (l:=AG q) (λk hk=>hE k hk q (by omega) (by omega)) (λk hk c d a1 a2 a3 a4=>?_) (by omega) ZN h2 ZO) ?_ λ_=>rfl;obtain⟨q,rfl⟩:∃k,q=k+1:=⟨q - 1,by have:=R9 hk;have:=EB k;omega⟩;rw[AK];exact Z0 (hE k hk q (by omega) (by omega)) a1 a2 a3 a4;rw[e];exact⟨λa=>⟨⟨hb,a.1⟩,a.2⟩,λa=>⟨a.1.2,a.2⟩⟩;rw[CL k16];by_cases k17:n.kind=17;rw[CG k17];have e:=aox k17
 have JS:(n.name=Kn\/n.name=FF)->Out (KG (Gc n ⟨0,n.name,ByteArray.empty,0,0,0,0,⟨0,[]⟩,[],0⟩) (KG (2<=((n.kids.length:Nat):Int)) ((AG q ⟨c+1⟩ n.kids (d+1)).bind λ(a,b)=>some (a,b)) (some (false,c+1))) (some (false,c+1))) (Sk n/\Ou n.kids (c+1) (d+1)) (c+1+GL n.kids):=by
   intro hn;refine Ht (λhb=>Ht (λhl=>?_) λa=>?_) λa=>(e.1 a.1).2.1;obtain⟨q,rfl⟩:∃k,q=k+1:=⟨q - 1,by have:=OF n.kids;omega⟩;rw[AG,De,Vm hkl,List.drop_zero];dsimp only;refine L4 (Rg (g:=AH q) (p:=JF) (d:=d+1) (by omega) ZN λk hk c' b0 b1=>hE k hk q (by omega) (by omega) c' (d+1) b0 b1 (by omega) (by omega)) ?_ λ_=>rfl;rw[e];exact⟨λa=>⟨⟨hn,hb,by omega⟩,a⟩,λa=>a.2⟩;have:=(e.1 a.1).2.2;omega
 by_cases ZS:n.name=Kn;rw[CG ZS];exact JS (.inl ZS);rw[CL ZS];exact Ht (λhn2=>JS (.inr hn2)) λa=>(e.1 a.1).1.resolve_left ZS;rw[CL k17];by_cases k18:n.kind=18;rw[CG k18];have e:=aoy k18;refine Ht (λhb=>Ht (λht=>Ht (λhl=>aa3 (B:=Gc n ⟨0,ByteArray.empty,ByteArray.empty,0,0,0,0,n.CN,[],0⟩/\kG n.CN) (e.trans (by rw[and_assoc])) ⟨hb,ht⟩ (by omega)) λa=>?_) λa=>(e.1 a.1).2.1) λa=>(e.1 a.1).1;have:=(e.1 a.1).2.2;omega;rw[CL k18];exact JW λa=>by have:=aet a.1;omega
def Le{β:Type}(a b:Option β):Prop:=∀y,a=some y->b=some y
section
variable {α β γ δ ρ:Type}
def Le.refl(a:Option β):Le a a:=λ_ h=>h
def Ov{a a':Option α}{f g:α->Option β}(h:Le a a')(k:∀x,Le (f x) (g x)):Le (a.bind f) (a'.bind g):=by
 intro y hy;cases a with
 | none=>cases hy
 | some x=>rw[h x rfl];exact k x y hy
def rD{b:Bool}{x x' y y':Option β}(h:Le x x')(k:Le y y'):Le (cond b x y) (cond b x' y'):=by cases b;exact k;exact h
def ajO{n:Nat}{x x':Option β}(h:Le x x'):Le (SS n x) (SS n x'):=by
 unfold SS;split;exact h;exact Le.refl _
def rE{body ahl:Nat->α->γ->Option (Lp γ δ ρ)}{done:γ->δ}(h:∀i y x,Le (body i y x) (ahl i y x)):∀(l:List α) (i:Nat) (x:γ),Le (Dl body done l i x) (Dl ahl done l i x)
 | [],_,_=>Le.refl _
 | a::l,i,x=>by
   rw[Dl,Dl];refine Ov (h i a x) λz=>?_;cases z with
   | nx x'=>exact rE h l (i+1) x'
   | ex d=>exact Le.refl _
   | rt v=>exact Le.refl _
end
def cB:∀q:Nat,(∀c n d,Le (AH q c n d) (AH (q+1) c n d))/\(∀c n d,Le (AU q c n d) (AU (q+1) c n d))/\(∀c n d,Le (AK q c n d) (AK (q+1) c n d))/\(∀c n d,Le (AG q c n d) (AG (q+1) c n d))
 | 0=>⟨(λ_ _ _ _ h=>nomatch h),(λ_ _ _ _ h=>nomatch h),(λ_ _ _ _ h=>nomatch h),(λ_ _ _ _ h=>nomatch h)⟩
 | q+1=>by
   obtain⟨i1,i2,i3,i4⟩:=cB q;refine⟨λc n d=>?_,λc n d=>?_,λc n d=>?_,λc n d=>?_⟩
   . rw[AH,AH,D9,D9]
     repeat' first
       | exact Le.refl _
       | exact i1 _ _ _
       | exact i2 _ _ _
       | exact i4 _ _ _
       | refine rD ?_ ?_
       | refine Ov ?_ λ⟨_,_⟩=>?_
       | refine Ov ?_ λ_=>?_
   . rw[AU,AU,C0,C0]
     repeat' first
       | exact Le.refl _
       | exact i1 _ _ _
       | exact i3 _ _ _
       | refine rD ?_ ?_
       | refine Ov ?_ λ⟨_,_⟩=>?_
       | refine Ov ?_ λ_=>?_
   rw[AK,AK,C4,C4];exact Ov (i1 _ _ _) λ_=>Le.refl _;rw[AG,AG,De,De];refine Ov (ajO (rE (λi y x=>?_) _ _ _)) λ_=>Le.refl _;rw[DK,DK];exact Ov (i1 _ _ _) λ_=>Le.refl _
def aam{β:Type}{f:Nat->Option β}(h:∀q,Le (f q) (f (q+1))){q:Nat}{y:β}(hy:f q=some y):uV f=some y:=by
 refine Ta q λm hm=>?_
 induction m with
 | zero=>obtain rfl:q=0:=by omega
         exact hy
 | succ m ih =>
   rcases Nat.lt_or_ge m q with GI | Oo
   obtain rfl:q=m+1:=by omega
   exact hy;exact h m y (ih Oo)
def aao{n:Nd}(Uk:KH n):ExS GD n:=by
 intro c d h0 h1 h2 h3;obtain⟨z,hz,hz2⟩:=aan (3*DQ n) n Uk (Nat.le_refl _) c d h0 h1 h2 h3;exact⟨z,aam (λq=>(cB q).1 _ _ _) hz,hz2⟩
def abP{n:Nd}(Uk:KH n){c d:Int}(h0:0<=c)(h1:c<=2000)(h2:0<=d)(h3:d<=41):Out (FH ⟨c⟩ n d) ((JF n/\Qk n)/\c+DQ n<=2000/\d+Oj n<=41) (c+DQ n):=by
 obtain⟨z,hz,hz2⟩:=Z0 (g:=AH (3*DQ n)) (b:=AU (3*DQ n)) (a:=AK (3*DQ n)) (l:=AG (3*DQ n)) (aan (3*DQ n) n Uk (Nat.le_refl _)) h0 h1 h2 h3;exact⟨z,aam (q:=3*DQ n+1) (λq=>(cB q).2.2.1 _ _ _) (by rw[AK];exact hz),hz2⟩
end Mo
end Go.Proofs.YtpbkhogolfegfaaGreatDoor
namespace Go.Proofs.YtpbkhogolfegfaaGreatDoor
open AI Go
namespace Mo
set_option maxRecDepth 100000
set_option maxHeartbeats 4000000
abbrev z0:Nd:=⟨0,ByteArray.empty,ByteArray.empty,0,0,0,0,⟨0,[]⟩,[],0⟩
def aj7(n:Int):Gi n=some (mb (z8 n)):=by
 rw[Gi];simp only[Tj,MN,iU,ajS];rfl
def QO(n:Nd):Prop:=n.kind=5/\(0<=n.n/\n.n<=1000000)/\n.kids.length=0/\z8 n.fr/\(n.fr < n.to/\n.to<=36525)/\z8 n.known/\Gc n ⟨0,ByteArray.empty,ByteArray.empty,n.n,n.fr,n.to,n.known,⟨0,[]⟩,[],0⟩
def Kb(n:Nd):Prop:=Gc n z0/\(n.kind=7->0 < n.kids.length/\∀k∈n.kids,JF k/\Qk k)/\(n.kind≠7->n.kids.length=1/\∀k∈n.kids,JF k)
def rF{n:Nd}(h:n.kids.length=0):DQ n=1/\Oj n=1:=by
 have:=List.eq_nil_of_length_eq_zero h;rw[EB,Nq,this];exact⟨rfl,rfl⟩
def ai9{n:Nd}(Uk:KH n){c d:Int}(h0:0<=c)(h1:c<=2000):Out (E8 ⟨c⟩ n d) (QO n/\c+DQ n<=2000/\d+Oj n<=41) (c+DQ n):=by
 obtain⟨qT,hkl,fC⟩:=Yf Uk;have Oq:=EB n;have hdp:=Nq n;rw[E8];refine L5 (Yd n h0 h1) (λhp=>?_) λz hp=>JW λa=>hp ⟨by omega,by omega⟩;dsimp only;rw[cond_true];simp only[KR,Tj,OZ,MN,aj7,Xo _ _ qT,Option.bind_some,dF,oH]
 have key:(n.kind=5/\¬n.n < 0/\¬1000000 < n.n/\¬(0:Int) < ((n.kids.length:Nat):Int)/\z8 n.fr/\¬n.to<=n.fr/\¬36525 < n.to/\z8 n.known/\Gc n ⟨0,ByteArray.empty,ByteArray.empty,n.n,n.fr,n.to,n.known,⟨0,[]⟩,[],0⟩)↔QO n:=by
   unfold QO;constructor;rintro⟨a,b,c',e,f,g,h,i,j⟩;exact⟨a,⟨by omega,by omega⟩,by omega,f,⟨by omega,by omega⟩,i,j⟩;rintro⟨a,b,c',f,g,i,j⟩;exact⟨a,by omega,by omega,by omega,f,by omega,by omega,i,j⟩
 refine(Uu key).congr ⟨λa=>⟨a,?_⟩,λa=>a.1⟩ λa=>?_;have:=rF a.2.2.1;omega;have:=rF a.1.2.2.1;omega
def zK{n:Nd}(Uk:KH n){c d:Int}(h0:0<=c)(h1:c<=2000)(h2:0<=d):Out (DD ⟨c⟩ n d) (Kb n/\c+DQ n<=2000/\d+Oj n<=41) (c+DQ n):=by
 obtain⟨qT,hkl,fC⟩:=Yf Uk;have Oq:=EB n;have hdp:=Nq n;have hd:=@Xw n.kids;rw[DD];refine L5 (Yd n h0 h1) (λhp=>?_) λz hp=>JW λa=>hp ⟨by omega,by omega⟩;dsimp only;rw[cond_true,Ha (a:=d) (b:=1) (by omega)];simp only[KR,OZ,MN,Xo _ _ qT,Option.bind_some];have ZN:=hp.1;have ZO:=hp.2
 have R0:(∀k∈n.kids,d+1+Oj k<=41)↔d+Oj n<=41:=by
   constructor;intro h;have:=(hd (m:=(40 - d).toNat)).2 λk hk=>by have:=h k hk;omega
   omega;intro h k hk;have:=(hd (m:=eX n.kids)).1 (Nat.le_refl _) k hk;omega
 refine Ht (λhb=>?_) λa=>a.1.1;by_cases k7:n.kind=7;rw[CG k7];refine Ht (λhl=>?_) λa=>by have:=(a.1.2.1 k7).1;omega
 rw[Ey,Vm hkl,List.drop_zero];dsimp only;refine L4 (Rg (g:=FH) (p:=λk=>JF k/\Qk k) (d:=d+1) (by omega) ZN λk hk c' b0 b1=>abP (fC k hk) b0 b1 (by omega) (by omega)) ⟨λa=>⟨⟨hb,λ_=>⟨by omega,λk hk=>(a.1 k hk).1⟩,λh=>absurd k7 h⟩,by omega,R0.1 λk hk=>(a.1 k hk).2⟩,λa=>⟨λk hk=>⟨(a.1.2.1 k7).2 k hk,R0.2 a.2.2 k hk⟩,by omega⟩⟩ λ_=>by omega
 rw[CL k7];refine Ht (λhl=>?_) λa=>by have:=(a.1.2.2 k7).1;omega
 have hl1:n.kids.length=1:=by omega
 unfold Kb;generalize n.kids=ks at *
 match ks,hl1 with
 | [x],_ =>
 simp only[List.getElem?_cons_zero,Option.bind_some];have e1:GL [x]=DQ x:=by simp[GL]
 refine L4 (aao (fC x (by simp)) (c+1) (d+1) (by omega) ZN (by omega) (by omega)) ⟨λa=>⟨⟨hb,λh=>absurd h k7,λ_=>⟨rfl,λk hk=>by rw[List.mem_singleton.1 hk];exact a.1⟩⟩,by omega,R0.1 λk hk=>by rw[List.mem_singleton.1 hk];exact a.2.2⟩,λa=>⟨(a.1.2.2 k7).2 x (by simp),by omega,R0.2 a.2.2 x (by simp)⟩⟩ λ_=>by omega
def GR(k:Int):List Nd->Nat
 | []=>0
 | a::l=>(if a.kind=k then 1 else 0)+GR k l
def kinds(l:List Nd):Prop:=∀k∈l,6<=k.kind/\k.kind<=8
def X2{y:Int}:∀{l:List Nd} {i:Nat} {a b c:Int},0<=a->0<=b->0<=c->a+l.length<=9223372036854775807->b+l.length<=9223372036854775807->c+l.length<=9223372036854775807 ->
   Dl (λi z x=>DT y i z x.1 x.2.1 x.2.2) (λx=>(x.1,x.2.1,x.2.2)) l i (a,b,c)=some (KG (kinds l) (.inl (a+GR 6 l,b+GR 7 l,c+GR 8 l)) (.inr (false,y)))
 | [],i,a,b,c,_,_,_,_,_,_=>by rw[CG (show kinds [] from λk hk=>(by cases hk))];simp[Dl,GR]
 | z::l,i,a,b,c,h1,h2,h3,h4,h5,h6=>by
   simp only[List.length_cons] at h4 h5 h6;rw[Dl,DT];simp only[OZ,KR,MN];have hk:kinds (z::l)↔(6<=z.kind/\z.kind<=8)/\kinds l:=by unfold kinds;simp
   have go:∀{a' b' c':Int},0<=a'->0<=b'->0<=c'->a'<=a+1->b'<=b+1->c'<=c+1->6<=z.kind/\z.kind<=8->a'+GR 6 l=a+GR 6 (z::l)->b'+GR 7 l=b+GR 7 (z::l)->c'+GR 8 l=c+GR 8 (z::l) ->
       (some (Lp.nx (a',b',c'))).bind (Rz (Dl (λi z x=>DT y i z x.1 x.2.1 x.2.2) (λx=>(x.1,x.2.1,x.2.2)) l (i+1)))=some (KG (kinds (z::l)) (.inl (a+GR 6 (z::l),b+GR 7 (z::l),c+GR 8 (z::l))) (.inr (false,y))):=by
     intro a' b' c' g1 g2 g3 g4 g5 g6 gk e1 e2 e3;show Dl _ _ l (i+1) (a',b',c')=_;rw[X2 g1 g2 g3 (by omega) (by omega) (by omega),e1,e2,e3];by_cases hl:kinds l;rw[CG hl,CG (hk.2 ⟨gk,hl⟩)];rw[CL hl,CL λq=>hl (hk.1 q).2]
   by_cases k6:z.kind < 6;rw[CG k6,CL λq=>by have:=(hk.1 q).1;omega];rfl;rw[CL k6];by_cases k8:8 < z.kind;rw[CG k8,CL λq=>by have:=(hk.1 q).1;omega];rfl;rw[CL k8];by_cases e6:z.kind=6;rw[CG e6,Ha (by omega)];exact go (by omega) h2 h3 (by omega) (by omega) (by omega) (by omega) (by simp[GR,e6];omega) (by simp[GR,e6]) (by simp[GR,e6]);rw[CL e6];by_cases e7:z.kind=7;rw[CG e7,Ha (by omega)];exact go h1 (by omega) h3 (by omega) (by omega) (by omega) (by omega) (by simp[GR,e7]) (by simp[GR,e7];omega) (by simp[GR,e7]);rw[CL e7];have e8:z.kind=8:=by omega
   rw[CG e8,Ha (by omega)];exact go h1 h2 (by omega) (by omega) (by omega) (by omega) (by omega) (by simp[GR,e8]) (by simp[GR,e8]) (by simp[GR,e8];omega)
def tY(n:Nd):Prop:=O7 n.n/\QS n.name/\Gc n ⟨0,n.name,ByteArray.empty,n.n,0,0,0,⟨0,[]⟩,[],0⟩/\∃h cs,n.kids=h::cs/\kinds cs/\GR 8 cs=1/\GR 7 cs<=1/\QO h/\∀k∈cs,Kb k
def Ik(n:Nd):Prop :=
 (n.kind=2/\QS n.name/\UK n.unit/\n.kids.length=0/\Gc n ⟨0,n.name,n.unit,0,0,0,0,⟨0,[]⟩,[],0⟩) \/
 (n.kind=3/\QS n.name/\UK n.unit/\1<=n.n/\n.n<=4/\n.kids.length=0/\Gc n ⟨0,n.name,n.unit,n.n,0,0,0,⟨0,[]⟩,[],0⟩) \/
 (n.kind=4/\tY n)
def it2{n:Nd}(h:n.kind=2):Ik n↔QS n.name/\UK n.unit/\n.kids.length=0/\Gc n ⟨0,n.name,n.unit,0,0,0,0,⟨0,[]⟩,[],0⟩:=by unfold Ik;simp[h]
def it3{n:Nd}(h:n.kind=3):Ik n↔QS n.name/\UK n.unit/\1<=n.n/\n.n<=4/\n.kids.length=0/\Gc n ⟨0,n.name,n.unit,n.n,0,0,0,⟨0,[]⟩,[],0⟩:=by unfold Ik;simp[h]
def it4{n:Nd}(h:n.kind=4):Ik n↔tY n:=by unfold Ik;simp[h]
def ae1{n:Nd}(h:Ik n):n.kind=2\/n.kind=3\/n.kind=4:=by
 unfold Ik at h;rcases h with h | h | h
 all_goals
   have:=h.1;simp[this]
def ajG{n:Nd}(Uk:KH n){c d:Int}(h0:0<=c)(h1:c<=2000)(h2:0<=d):Out (Ea ⟨c⟩ n d) (Ik n/\c+DQ n<=2000/\d+Oj n<=41) (c+DQ n):=by
 obtain⟨qT,hkl,fC⟩:=Yf Uk;have Oq:=EB n;have hdp:=Nq n;have hd:=@Xw n.kids;rw[Ea];refine L5 (Yd n h0 h1) (λhp=>?_) λz hp=>JW λa=>hp ⟨by omega,by omega⟩;dsimp only;rw[cond_true,Ha (a:=d) (b:=1) (by omega)];have e0:(((n.kids.length:Nat):Int)=0)=(n.kids.length=0):=propext (by omega);simp only[KR,Tj,OZ,MN,sA,qK,Uv,Xo _ _ qT,Option.bind_some,e0];have ZN:=hp.1;have ZO:=hp.2;have XR:∀{B:Prop},(B↔Ik n)->(B->n.kids.length=0)->Out (some (mb B,c+1)) (Ik n/\c+DQ n<=2000/\d+Oj n<=41) (c+DQ n):=λhB hk=>(Uu hB).congr ⟨λa=>⟨a,by have:=rF (hk (hB.2 a));omega⟩,λa=>a.1⟩ λa=>by have:=rF (hk (hB.2 a.1));omega
 by_cases k2:n.kind=2;rw[CG k2];simp only[dF,oH,v7];refine XR ?_ ?_;rw[it2 k2];intro h;exact h.2.2.1;rw[CL k2];by_cases k3:n.kind=3;rw[CG k3];simp only[dF,oH,v7];refine XR ?_ ?_;rw[it3 k3];intro h;exact h.2.2.2.2.1;rw[CL k3];by_cases k4:n.kind=4;rotate_left;rw[CL k4];exact JW λa=>by have:=ae1 a.1;omega
 rw[CG k4,it4 k4];refine Ht (λhr=>Ht (λhn=>Ht (λhb=>?_) λa=>a.1.2.2.1) λa=>a.1.2.1) λa=>a.1.1;refine jG (λhl0=>?_) λa h=>by obtain⟨h',cs,hk,_⟩:=a.1.2.2.2;rw[hk] at h;simp at h
 have R0:(∀k∈n.kids,d+1+Oj k<=41)↔d+Oj n<=41:=by
   constructor;intro h;have:=(hd (m:=(40 - d).toNat)).2 λk hk=>by have:=h k hk;omega
   omega;intro h k hk;have:=(hd (m:=eX n.kids)).1 (Nat.le_refl _) k hk;omega
 unfold tY;generalize n.kids=ks at *
 match ks,hl0 with
 | x::l,_ =>
 have Lw:acL (x::l) 1 (((x::l).length:Nat):Int)=some l:=by
   unfold acL;rw[if_pos (by simp only[List.length_cons];omega)];simp
 rw[Lw];simp only[Option.bind_some,List.length_cons] at hkl ⊢
 have e2:∀{A:Prop},(∃h cs,x::l=h::cs/\kinds cs/\GR 8 cs=1/\GR 7 cs<=1/\QO h/\∀k∈cs,Kb k)↔(kinds l/\GR 8 l=1/\GR 7 l<=1/\QO x/\∀k∈l,Kb k):=by
   intro _;constructor;rintro⟨h,cs,e,r⟩;cases e;exact r;intro r;exact⟨x,l,rfl,r⟩
 rw[Vm (by omega),List.drop_zero,X2 (by omega) (by omega) (by omega) (by omega) (by omega) (by omega)];simp only[Option.bind_some];by_cases hK:kinds l;rotate_left;rw[CL hK];show Out (some (false,c+1)) _ _;exact JW λa=>hK ((e2 (A:=True)).1 a.1.2.2.2).1;rw[CG hK];show Out (KG ((0:Int)+GR 8 l=1) (KG (1 < (0:Int)+GR 7 l) (some (false,c+1)) _) (some (false,c+1))) _ _;refine Ht (λh8=>jG (λh7=>?_) λa=>?_) λa=>?_;rotate_left;have:=((e2 (A:=True)).1 a.1.2.2.2).2.2.1;omega;have:=((e2 (A:=True)).1 a.1.2.2.2).2.1;omega;simp only[List.getElem?_cons_zero,Option.bind_some];have hdx:=λh=>R0.2 h x (by simp);have hsl:GL (x::l)=DQ x+GL l:=by simp[GL]
 refine L5 (ai9 (fC x (by simp)) (c:=c+1) (d:=d+1) (by omega) ZN) (λhx=>?_) λz hx=>JW λa=>hx ⟨((e2 (A:=True)).1 a.1.2.2.2).2.2.2.1,by omega,hdx a.2.2⟩;dsimp only;rw[cond_true,Ew,Vm (by omega),List.drop_zero];dsimp only;refine L4 (Rg (g:=DD) (p:=Kb) (d:=d+1) (by omega) hx.2.1 λk hk c' b0 b1=>zK (fC k (by simp[hk])) b0 b1 (by omega)) ?_ λ_=>by omega
 constructor;rintro⟨a,b⟩;refine⟨⟨hr,hn,hb,(e2 (A:=True)).2 ⟨hK,by omega,by omega,hx.1,λk hk=>(a k hk).1⟩⟩,by omega,R0.1 λk hk=>?_⟩;rcases List.mem_cons.1 hk with rfl | hk
 exact hx.2.2;exact(a k hk).2;rintro⟨a,b,e⟩;exact⟨λk hk=>⟨((e2 (A:=True)).1 a.2.2.2).2.2.2.2 k hk,R0.2 e k (by simp[hk])⟩,by omega⟩
def okV(n:Nd):Prop:=((n.kind=1/\Gc n z0/\∀k∈n.kids,Ik k)\/(n.kind≠1/\JF n))/\DQ n<=2000/\Oj n<=40
def UN{n:Nd}(Uk:KH n):Dm n=some (mb (okV n)):=by
 obtain⟨qT,hkl,fC⟩:=Yf Uk;have Oq:=EB n;have hdp:=Nq n;have hd:=@Xw n.kids;rw[Dm,KR,MN]
 have fin:∀{r:Option (Bool×Int)} {P:Prop} {t:Int},Out r P t->(P↔okV n)->(r.bind λ(a,_)=>some a)=some (mb (okV n)):=by
   rintro r P t ⟨z,rfl,_⟩ h;rw[L2 h];rfl
 by_cases k1:n.kind=1;rotate_left;rw[CL k1];refine fin (aao Uk 0 1 (by omega) (by omega) (by omega) (by omega)) ?_;unfold okV;constructor;rintro⟨a,b,c⟩;exact⟨.inr ⟨k1,a⟩,by omega,by omega⟩;rintro⟨a | a,b,c⟩;exact absurd a.1 k1;exact⟨a.2,by omega,by omega⟩;rw[CG k1];obtain⟨z,hz,hz2⟩:=Yd n (c:=0) (d:=1) (by omega) (by omega);rw[hz];simp only[Option.bind_some,Xo _ _ qT,MN];by_cases h1:(0:Int)+1<=2000/\(1:Int)<=40;rotate_left;exact absurd ⟨by omega,by omega⟩ h1;rw[CG h1,hz2 h1];by_cases hb:Gc n z0;rotate_left;rw[CL hb];refine eA ?_;rintro⟨a | a,_⟩;exact hb a.2.1;exact a.1 k1;rw[CG hb,EZ,Vm hkl,List.drop_zero];dsimp only;refine fin (Rg (g:=Ea) (p:=Ik) (d:=2) (by omega) (by omega) λk hk c' b0 b1=>ajG (fC k hk) b0 b1 (by omega)) ?_;unfold okV;constructor;rintro⟨a,b⟩;refine⟨.inl ⟨k1,hb,λk hk=>(a k hk).1⟩,by omega,?_⟩;have:=(hd (m:=39)).2 λk hk=>by have:=(a k hk).2;omega
 omega;rintro⟨a | a,b,e⟩;refine⟨λk hk=>⟨a.2.2 k hk,?_⟩,by omega⟩;have:=(hd (m:=eX n.kids)).1 (Nat.le_refl _) k hk;omega;exact absurd k1 a.1
end Mo
end Go.Proofs.YtpbkhogolfegfaaGreatDoor
namespace Go.Proofs.YtpbkhogolfegfaaGreatDoor
open AI Go
namespace Mo
set_option maxRecDepth 100000
abbrev Rd(α:Type):=List Tk->Option ((α⊕Dg)×List Tk)
section
variable {α β:Type}
def FE(a:α):Rd α:=λl=>some (.inl a,l)
def Mg(e p:Int):Rd α:=λl=>some (.inr ⟨e,p⟩,l)
def Ct(m:Rd α)(k:α->Rd β):Rd β:=λl=>match m l with
 | none=>none
 | some (.inl a,s)=>k a s
 | some (.inr d,s)=>some (.inr d,s)
def Lj(x:Option α)(k:α->Rd β):Rd β:=λl=>match x with
 | none=>none
 | some a=>k a l
def Ux(en:Int)(k:Tk->Rd β):Rd β:=λl=>match l with
 | []=>some (.inr ⟨72,en⟩,[])
 | t::s=>k t (t::s)
def U1(k:Rd β):Rd β:=λl=>match l with
 | []=>none
 | _::s=>k s
def I6(x:ByteArray):List Tk->Bool
 | []=>false
 | t::_=>BZ t.text.data.toList x.data.toList
def NU(x:ByteArray)(yes no:Rd β):Rd β:=λl=>cond (I6 x l) (U1 yes l) (no l)
end
def Lc(en:Int)(fits:Tk->Option Bool):Rd Tk:=Ux en λt=>Lj (fits t) λb=>cond b (U1 (FE t)) (Mg 71 t.AF)
def Jl(en:Int)(x:ByteArray):Rd Tk:=Lc en λt=>Dr t x
def rN(en:Int):Rd Tk:=Lc en Cu
def ac6(en:Int):Rd Tk:=Lc en EX
def sK(en:Int):Rd Tk:=Lc en BT
def MU(en:Int):Rd (Int×Int):=Ct (Lc en Ef) λt=>Lj (Rl t.text) λn=>FE (n.1,t.AF)
def LC(en least:Int):Rd (Int×Int):=Ct (MU en) λp=>cond (EQ p.1 least) (Mg 3 p.2) (cond (EQ 1000000 p.1) (Mg 3 p.2) (FE p))
def Ug(en least:Int):Rd Int:=Ct (Lc en EE) λt=>Lj (Fc t.text) λd=>cond (DZ d.2 0) (cond (EQ d.1 least) (Mg 21 t.AF) (FE d.1)) (Mg 21 t.AF)
abbrev bE:ByteArray:=ByteArray.empty
def EV(kind:Int)(name unit:ByteArray)(n:Int)(kids:List Nd)(p:Int):Nd:=⟨kind,name,unit,n,0,0,0,⟨0,[]⟩,kids,p⟩
def ZP(en:Int):Rd Nd:=Ct (Jl en sC) λt=>Ct (LC en 0) λn=>Ct (Jl en qJ) λ_=>Ct (Ug en 0) λf =>
 NU toS (Ct (Ug en (BS f 1)) λu=>Ct (Jl en Vj) λ_=>Ct (Ug en 0) λk=>FE ⟨5,bE,bE,n.1,f,u,k,⟨0,[]⟩,[],t.AF⟩)
   (Ct (Jl en Vj) λ_=>Ct (Ug en 0) λk=>FE ⟨5,bE,bE,n.1,f,36525,k,⟨0,[]⟩,[],t.AF⟩)
def Uh(en:Int):Rd Nd:=Ux en λt=>U1<|Ct (rN en) λm=>Ct (Jl en jQ) λ_=>Ct (ac6 en) λu =>
 cond (BZ t.text.data.toList Ow.data.toList)
   (Ct (sK en) λr=>Lj (El r.text) λn=>Ct (Jl en Wq) λ_=>FE (EV 3 m.text u.text n [] t.AF))
   (Ct (Jl en Wq) λ_=>FE (EV 2 m.text u.text 0 [] t.AF))
def Ge(en:Int):Rd Nd:=Ct (LC en 1) λp=>FE (EV 11 bE Ev p.1 [] p.2)
def Oe{β:Type}(n:Nat)(m:Rd β):Rd β:=λs=>OY n (m s)
def QR(read:Rd Nd):Nat->List Nd->Rd (List Nd)
 | 0,_=>λ_=>none
 | q+1,l=>NU dJ (Ct read λn=>Oe (l.length+1) (QR read q (l++[n]))) (FE l)
def RE(read:Rd Nd):Rd (List Nd):=Ct read λn s=>QR read (s.length+1) [n] s
def N4(en:Int):Rd (Int×Int):=Ct (Lc en Da) λt=>Lj (Cp t) λc=>cond (DZ t.kind 3) (cond (DZ c 0) (FE (c,t.AF)) (Mg 3 t.AF)) (FE (c,t.AF))
def V9(en:Int):Rd Int:=Ct (Lc en EH) λt=>cond (BZ t.text.data.toList M4.data.toList) (FE (-1)) (FE 1)
def mX:Nat->Int->Int->Int
 | 0,a,_=>a
 | n+1,a,b=>if b=0 then a else mX n b (a % b)
def aax(a b:Int):Option Int:=if 1<=a/\0<=b then some (mX (b.toNat+1) a b) else none
def OB(en Ax from_ a:Int):Rd (Pt×Int):=Ct (V9 en) λs=>Ct (LC en 0) λm=>Ct (Jl en Fa) λ_=>Ct (LC en 1) λd =>
 Lj (aax Ax d.1) λg=>Lj (Sj Ax g) λz=>cond (EQ 1000000 (BN z d.1)) (Mg 2 d.2) (FE (⟨from_,a,BN m.1 s,d.1⟩,BN z d.1))
def MZ(en Ax from_:Int):Rd (Pt×Int):=Ct (Jl en jQ) λ_=>NU M4 (Ct (N4 en) λa=>OB en Ax from_ (BN a.1 (-1))) (Ct (N4 en) λa=>OB en Ax from_ (BN a.1 1))
def RI(en:Int)(before:List Pt)(Ax:Int):Rd (Pt×Int):=Ct (N4 en) λv =>
 cond (DZ ((before.length:Nat):Int) 0) (cond (DZ v.1 0) (MZ en Ax v.1) (Mg 3 v.2))
   (Lj (before[before.length - 1]?) λq=>cond (Ti v.1 q.fr) (Mg 3 v.2) (cond (Ti 64 ((before.length:Nat):Int)) (Mg 2 v.2) (MZ en Ax v.1)))
def LM(en:Int):Nat->List Pt->Int->Rd (List Pt×Int)
 | 0,_,_=>λ_=>none
 | q+1,l,c=>Ct (RI en l c) λp=>Oe (l.length+1) (NU dJ (LM en q (l++[p.1]) p.2) (FE (l++[p.1],p.2)))
def LS(c p:Int):List Pt->List Pc->Rd (List Pc)
 | [],acc=>FE acc
 | x::xs,acc=>Lj (Sj c x.den) λz=>cond (EQ 1000000 (BN x.num z)) (Mg 2 p) (cond (EQ (BN x.num z) (-1000000)) (Mg 2 p) (Oe (acc.length+1) (LS c p xs (acc++[⟨x.fr,BN x.AF c,BN x.num z⟩]))))
inductive Ek where
 | ex | lv (i:Nat) | at_ | wd (t:Tk) | ca | ta
def YC(en:Int)(g:Ek->Rd Nd):Rd Nd:=Ct (Jl en QB) λt=>Ct (Jl en dI) λ_=>Ct (g .ex) λa=>Ct (Jl en Wq) λ_=>Ct (λs=>LM en (s.length+1) [] 1 s) λl=>Ct (Jl en oK) λe =>
 Oe l.1.length (Ct (LS l.2 e.AF l.1 []) λr=>FE ⟨18,bE,bE,0,0,0,0,⟨l.2,r⟩,[a],t.AF⟩)
def Xs(en:Int)(g:Ek->Rd Nd)(li:Rd (List Nd)):Rd Nd:=Ux en λt=>U1<|Ct (Jl en dI) λ_=>Ct (g .ex) λa=>Ct (Jl en dJ) λ_=>Ct li λl=>Oe (1+l.length)<|Ct (Jl en oK) λ_=>FE (EV 17 t.text bE 0 (a::l) t.AF)
def Uf(t:Tk):Rd Nd:=U1 (FE (EV 14 t.text bE 0 [] t.AF))
def QX(en:Int)(g:Ek->Rd Nd)(t:Tk):Rd Nd :=
 cond (BZ t.text.data.toList YH.data.toList) (U1 (FE (EV 11 bE GO 1 [] t.AF))) <|
 cond (BZ t.text.data.toList Tb.data.toList) (U1 (FE (EV 11 bE GO 0 [] t.AF))) <|
 cond (BZ t.text.data.toList bN.data.toList) (U1 (Ct (LC en 1) λp=>FE (EV 13 bE bE p.1 [] t.AF))) <|
 cond (BZ t.text.data.toList Ld.data.toList) (Uf t)<|cond (BZ t.text.data.toList bY.data.toList) (Uf t)<|cond (BZ t.text.data.toList Qi.data.toList) (Uf t)<|cond (BZ t.text.data.toList U0.data.toList) (Uf t) <|
 cond (BZ t.text.data.toList Kn.data.toList) (g .ca)<|cond (BZ t.text.data.toList FF.data.toList) (g .ca)<|cond (BZ t.text.data.toList QB.data.toList) (g .ta) <|
 cond (BZ t.text.data.toList dI.data.toList) (U1 (Ct (g .ex) λa=>Ct (Jl en oK) λ_=>FE a)) (Mg 71 t.AF)
def Xn(en:Int)(g:Ek->Rd Nd):Rd Nd:=Ux en λt =>
 cond (DZ t.kind 3) (Ct (MU en) λn=>NU aff (FE (EV 11 bE Jp n.1 [] n.2)) (FE (EV 11 bE Ev n.1 [] n.2)))
   (cond (DZ t.kind 2) (U1 (Ct (Lc en DU) λa=>Lj (Cp a) λc=>FE (EV 11 bE t.text c [] t.AF)))
     (Lj (Cu t) λb=>cond b (U1 (FE (EV 12 t.text bE 0 [] t.AF))) (g (.wd t))))
def opsOf:Nat->List ByteArray
 | 0=>[jE]
 | 1=>[Pk]
 | 3=>[Ju,Kq,KJ,JY,JZ,Hk]
 | 4=>[RJ,M4]
 | 5=>[Ty,Fa,fT]
 | _=>[]
def lW{β:Type}(yes:ByteArray->Rd β)(no:Rd β):List ByteArray->Rd β
 | []=>no
 | x::xs=>NU x (yes x) (lW yes no xs)
def Qs(en:Int)(sub:Rd Nd)(op:ByteArray)(l:Nd):Rd Nd:=Ct (cond (BZ op.data.toList Fa.data.toList) (Ge en) sub) λr=>Lj (A7 op l r) λb=>FE b
def KQ(en:Int)(ops:List ByteArray)(sub:Rd Nd):Nat->Nd->Rd Nd
 | 0,_=>λ_=>none
 | q+1,l=>lW (λop=>Ct (Qs en sub op l) λb=>KQ en ops sub q b) (FE l) ops
def Nz(en:Int)(g:Ek->Rd Nd)(i:Nat):Rd Nd:=Ct (g (.lv (i+1))) λl s=>KQ en (opsOf i) (g (.lv (i+1))) (s.length+1) l s
def gG(en:Int)(g:Ek->Rd Nd):Rd Nd:=Ct (g (.lv 4)) λl=>lW (λop=>Qs en (g (.lv 4)) op l) (FE l) (opsOf 3)
def Ye(en:Int)(g:Ek->Rd Nd):Rd Nd:=λs=>cond (I6 Us s) (Ct (Jl en Us) (λt=>Ct (g (.lv 2)) λk=>FE (EV 15 bE bE 0 [k] t.AF)) s) (g (.lv 3) s)
def OE(en:Int)(g:Ek->Rd Nd)(li:Rd (List Nd)):Ek->Rd Nd
 | .ex=>g (.lv 0)
 | .lv 2=>Ye en g
 | .lv 3=>gG en g
 | .lv 6=>g .at_
 | .lv i=>Nz en g i
 | .at_=>Xn en g
 | .wd t=>QX en g t
 | .ca=>Xs en g li
 | .ta=>YC en g
def gP(en:Int):Nat->(Ek->Rd Nd)×Rd (List Nd)
 | 0=>(λ_ _=>none,λ_=>none)
 | q+1=>(OE en (gP en q).1 (gP en q).2,RE ((gP en q).1 .ex))
def JE(en:Int)(ex:Rd Nd)(kind:Int):Rd Nd:=Ux en λt=>U1 <|
 cond (DZ kind 7) (Ct (RE (Ge en)) λl=>Ct (Jl en Wq) λ_=>FE (EV kind bE bE 0 l t.AF)) (Ct ex λe=>Ct (Jl en Wq) λ_=>FE (EV kind bE bE 0 [e] t.AF))
def IN(en:Int)(ex:Rd Nd)(mk:List Nd->Nd):Nat->List Nd->Bool->Bool->Rd Nd
 | 0,_,_,_=>λ_=>none
 | q+1,l,un,am=>Ux en λt =>
   cond (BZ t.text.data.toList bA.data.toList) (Ct (JE en ex 6) λc=>Oe (l.length+1) (IN en ex mk q (l++[c]) un am)) <|
   cond (BZ t.text.data.toList Sb.data.toList) (cond un (Mg 5 t.AF) (Ct (JE en ex 7) λc=>Oe (l.length+1) (IN en ex mk q (l++[c]) true am))) <|
   cond (BZ t.text.data.toList P5.data.toList) (cond am (Mg 5 t.AF) (Ct (JE en ex 8) λc=>Oe (l.length+1) (IN en ex mk q (l++[c]) un true))) <|
   cond (BZ t.text.data.toList afG.data.toList) (cond am (U1 (FE (mk l))) (Mg 71 t.AF)) (Mg 71 t.AF)
def Pl(en:Int)(ex:Rd Nd):Rd Nd:=Ct (Jl en Hx) λt=>Ct (LC en 1) λn=>Ct (Jl en aat) λ_=>Ct (rN en) λm=>Ct (ZP en) λh=>Ct (Jl en ake) λ_=>λs =>
 IN en ex (λl=>EV 4 m.text bE n.1 l t.AF) (s.length+1) [h] false false s
def RD(en:Int)(ex:Rd Nd):Rd Nd:=Ux en λt =>
 cond (BZ t.text.data.toList SL.data.toList) (Uh en)<|cond (BZ t.text.data.toList Ow.data.toList) (Uh en)<|cond (BZ t.text.data.toList Hx.data.toList) (Pl en ex) (Mg 71 t.AF)
end Mo
end Go.Proofs.YtpbkhogolfegfaaGreatDoor
namespace Go.Proofs.YtpbkhogolfegfaaGreatDoor
open AI Go
namespace Mo
set_option maxRecDepth 100000
def gY:∀(n:Nat) (a b:Int),1<=a->0<=b->b < n->∃m,GS (λx:Int×Int=>D5 x.1 x.2) m (a,b)=some (.inl (mX n a b))/\1<=mX n a b/\mX n a b∣a/\mX n a b∣b:=by
 intro n
 induction n with
 | zero=>intro a b h1 h2 h3;omega
 | succ n ih =>
   intro a b h1 h2 h3;unfold mX;by_cases hb:b=0;rw[if_pos hb];subst hb;refine⟨1,?_,h1,Int.dvd_refl a,Int.dvd_zero a⟩;show(D5 a 0).bind _=_;rw[D5,Om rfl];rfl;rw[if_neg hb];obtain⟨m,h4,h5,h6,h7⟩:=ih b (a % b) (by omega) (Int.emod_nonneg a hb) (by have:=Int.emod_lt_of_pos a (show 0 < b by omega);omega);refine⟨m+1,?_,h5,?_,h6⟩;show(D5 a b).bind _=_;rw[D5,SK hb]
   have:Xy a b=some (a % b):=by
     unfold Xy kT;rw[if_neg hb,Int.tmod_eq_emod_of_nonneg (by omega)]
   dsimp only[cond];rw[this];exact h4;have:=Int.dvd_add h7 (Int.dvd_mul_of_dvd_left h6:_∣b*(a / b));rwa[Int.emod_add_mul_ediv] at this
def aay{a b g:Int}(h:aax a b=some g):CO a b=some g:=by
 unfold aax at h;split at h;rename_i hc;cases h;obtain⟨m,h1,_⟩:=gY (b.toNat+1) a b hc.1 hc.2 (by omega);unfold CO;rw[IY h1];rfl;cases h
def aaz{a b:Int}(ha:1<=a)(hb:0<=b):∃g,aax a b=some g/\1<=g/\g∣a/\g∣b:=by
 obtain⟨m,_,h1⟩:=gY (b.toNat+1) a b ha hb (by omega);exact⟨_,if_pos ⟨ha,hb⟩,h1⟩
section
variable {α β γ:Type} {ts:List Tk} {k:Nat} {en:Int} {r:α⊕Dg} {l:List Tk}
def I8(ts:List Tk)(k:Nat)(X:Option ((α⊕Dg)×Int))(r:α⊕Dg)(l:List Tk):Prop:=∃k':Nat,k<=k'/\k'<=ts.length/\l=ts.drop k'/\X=some (r,(k':Int))
def Eh(hk:k<=ts.length){q:α⊕Dg}{z:Int}(hz:z=(k:Int))(h:some (q,ts.drop k)=some (r,l)):I8 ts k (some (q,z)) r l:=by
 simp only[Option.some.injEq,Prod.mk.injEq] at h;exact⟨k,Nat.le_refl k,hk,h.2.symm,by rw[h.1,hz]⟩
def K7{k2:Nat}{X:Option ((α⊕Dg)×Int)}(h1:k<=k2)(h:I8 ts k2 X r l):I8 ts k X r l:=by
 obtain⟨k',a,b,c,d⟩:=h;exact⟨k',Nat.le_trans h1 a,b,c,d⟩
def Bz{F1:Option ((γ⊕Dg)×Int)}{F2:(γ⊕Dg)×Int->Option ((α⊕Dg)×Int)}{m:Rd γ}{K:γ->Rd α}
   (h1:∀{r l},m (ts.drop k)=some (r,l)->I8 ts k F1 r l)
   (h2:∀a k',k<=k'->k'<=ts.length->K a (ts.drop k')=some (r,l)->I8 ts k' (F2 (.inl a,(k':Int))) r l)
   (h3:∀d z,F2 (.inr d,z)=some (.inr d,z)) (hS:Ct m K (ts.drop k)=some (r,l)):I8 ts k (F1.bind F2) r l:=by
 unfold Ct at hS;split at hS;cases hS;rename_i a s hm;obtain⟨k',a1,a2,rfl,a4⟩:=h1 hm;rw[a4];exact K7 a1 (h2 _ _ a1 a2 hS);rename_i d s hm;obtain⟨k',a1,a2,rfl,a4⟩:=h1 hm;rw[a4,Option.bind_some,h3];simp only[Option.some.injEq,Prod.mk.injEq] at hS;exact⟨k',a1,a2,hS.2.symm,by rw[hS.1]⟩
def I0{X:Option γ}{K:γ->Rd α}{s:List Tk}(h:Lj X K s=some (r,l)):∃a,X=some a/\K a s=some (r,l):=by
 unfold Lj at h;split at h;cases h;exact⟨_,rfl,h⟩
def Jk(ts:List Tk)(hk:k<=ts.length):(k=ts.length/\ts.drop k=[])\/∃t,k+1<=ts.length/\ts[k]?=some t/\ts.drop k=t::ts.drop (k+1):=by
 by_cases h:k < ts.length;exact .inr ⟨ts[k],h,List.getElem?_eq_getElem h,(List.drop_eq_getElem_cons h)⟩;exact .inl ⟨by omega,List.drop_eq_nil_of_le (by omega)⟩
def Vw{F2:Tk⊕Dg->Option ((α⊕Dg)×Int)}{K:Tk->Rd α}(hk:k<=ts.length)
   (h2:∀t,k+1<=ts.length->ts.drop k=t::ts.drop (k+1)->K t (ts.drop k)=some (r,l)->I8 ts k (F2 (.inl t)) r l)
   (h3:∀d,F2 (.inr d)=some (.inr d,(k:Int))) (hS:Ux en K (ts.drop k)=some (r,l)):I8 ts k ((AD ⟨ts,k,en⟩).bind F2) r l:=by
 unfold Ux at hS;rcases Jk ts hk with ⟨h1,lR⟩ | ⟨t,h1,lR,h3'⟩
 rw[lR] at hS;dsimp only at hS
 have:AD ⟨ts,k,en⟩=some (.inr ⟨72,en⟩):=by
   unfold AD;rw[abo (by dsimp only;omega)];rfl
 rw[this,Option.bind_some,h3];simp only[Option.some.injEq,Prod.mk.injEq] at hS;exact⟨k,Nat.le_refl k,hk,by rw[lR,hS.2],by rw[hS.1]⟩;rw[h3'] at hS;dsimp only at hS
 have:AD ⟨ts,k,en⟩=some (.inl t):=by
   unfold AD;rw[rC (by dsimp only;omega)];dsimp only[cond];unfold Mq;rw[if_pos (by omega),Int.toNat_natCast,lR];rfl
 rw[this,Option.bind_some];exact h2 t h1 h3' (by rw[h3'];exact hS)
def Gw(hk:k<=ts.length)(x:ByteArray):Aq ⟨ts,k,en⟩ x=some (I6 x (ts.drop k)):=by
 unfold Aq;rcases Jk ts hk with ⟨h1,lR⟩ | ⟨t,h1,lR,h3'⟩
 rw[lR,Kv (by dsimp only;omega)];rfl;rw[h3',NC (by dsimp only;omega)];dsimp only[cond];unfold Mq;rw[if_pos (by omega),Int.toNat_natCast,lR];rfl
def Yv{x:ByteArray}(hk:k<=ts.length)(h:I6 x (ts.drop k)=true):∃t,k+1<=ts.length/\ts.drop k=t::ts.drop (k+1):=by
 rcases Jk ts hk with ⟨h1,lR⟩ | ⟨t,h1,lR,h3'⟩
 rw[lR] at h;cases h;exact⟨t,h1,h3'⟩
def En(DS:ts.length<=1000000)(hk:k<=ts.length):BS (k:Int) 1=((k+1:Nat):Int):=by
 rw[Ha (by omega)];rfl
def Zk{K:Rd α}{t:Tk}(ht:ts.drop k=t::ts.drop (k+1))(h:U1 K (ts.drop k)=some (r,l)):K (ts.drop (k+1))=some (r,l):=by
 rw[ht] at h;exact h
def sH{F2:Bool->Option ((α⊕Dg)×Int)}{A B:Rd α}{x:ByteArray}(hk:k<=ts.length)
   (h1:k+1<=ts.length->A (ts.drop (k+1))=some (r,l)->I8 ts (k+1) (F2 true) r l) (h2:B (ts.drop k)=some (r,l)->I8 ts k (F2 false) r l)
   (hS:NU x A B (ts.drop k)=some (r,l)):I8 ts k ((Aq ⟨ts,k,en⟩ x).bind F2) r l:=by
 unfold NU at hS;rw[Gw hk,Option.bind_some];cases hx:I6 x (ts.drop k) with
 | true =>
   rw[hx] at hS;obtain⟨t,ht1,ht2⟩:=Yv hk hx;exact K7 (Nat.le_succ k) (h1 ht1 (Zk ht2 hS))
 | false =>
   rw[hx] at hS;exact h2 hS
end
section
variable {ts:List Tk} (DS:ts.length<=1000000) {en:Int}
include DS
def QC(fits:Tk->Option Bool){k:Nat}(hk:k<=ts.length){r l}(hS:Lc en fits (ts.drop k)=some (r,l)) :
   I8 ts k ((AD ⟨ts,k,en⟩).bind λy1=>Sum.elim (λ(CH:Tk)=>(fits CH).bind λy2=>cond y2 (some ((Sum.inl CH:(Tk⊕Dg)),(BS (k:Int) 1))) (some ((Sum.inr (⟨71,CH.AF⟩:Dg):(Tk⊕Dg)),(k:Int)))) (λ(Lk:Dg)=>some ((Sum.inr Lk:(Tk⊕Dg)),(k:Int))) y1) r l:=by
 refine Vw hk (λt h1 h2 hS=>?_) (λ_=>rfl) hS;obtain⟨b,hb,hS⟩:=I0 hS;dsimp only[Sum.elim];rw[hb,Option.bind_some];cases b with
 | true =>
   have:=Zk h2 hS;rw[cond,En DS hk];exact K7 (Nat.le_succ k) (Eh h1 rfl this)
 | false=>exact Eh hk rfl hS
def IB(x:ByteArray){k:Nat}(hk:k<=ts.length){r l}(hS:Jl en x (ts.drop k)=some (r,l)):I8 ts k (Aj ⟨ts,k,en⟩ x) r l:=by
 obtain⟨k',a1,a2,a3,a4⟩:=QC DS (λt=>Dr t x) hk hS;refine⟨k',a1,a2,a3,?_⟩;unfold Aj Ga;rw[a4,Option.bind_some];cases r<;>rfl
def abH{k:Nat}(hk:k<=ts.length){r l}(hS:rN en (ts.drop k)=some (r,l)):I8 ts k (Dv ⟨ts,k,en⟩) r l:=QC DS Cu hk hS
def akI{k:Nat}(hk:k<=ts.length){r l}(hS:ac6 en (ts.drop k)=some (r,l)):I8 ts k (Ez ⟨ts,k,en⟩) r l:=QC DS EX hk hS
def aki{k:Nat}(hk:k<=ts.length){r l}(hS:sK en (ts.drop k)=some (r,l)):I8 ts k (FW ⟨ts,k,en⟩) r l:=QC DS BT hk hS
def jB{k:Nat}(hk:k<=ts.length){r l}(hS:MU en (ts.drop k)=some (r,l)):I8 ts k (EF ⟨ts,k,en⟩) r l:=by
 refine Bz (λh=>QC DS Ef hk h) (λt k' h1 h2 hS=>?_) (λ_ _=>rfl) hS;obtain⟨n,hn,hS⟩:=I0 hS;dsimp only[Sum.elim];rw[hn];exact Eh h2 rfl hS
def OC(least:Int){k:Nat}(hk:k<=ts.length){r l}(hS:LC en least (ts.drop k)=some (r,l)):I8 ts k (AJ ⟨ts,k,en⟩ least) r l:=by
 refine Bz (λh=>jB DS hk h) (λt k' h1 h2 hS=>?_) (λ_ _=>rfl) hS;dsimp only[Sum.elim];revert hS;cases EQ t.1 least;cases EQ 1000000 t.1<;>exact λhS=>Eh h2 rfl hS
 exact λhS=>Eh h2 rfl hS
def bW(least:Int){k:Nat}(hk:k<=ts.length){r l}(hS:Ug en least (ts.drop k)=some (r,l)):I8 ts k (DM ⟨ts,k,en⟩ least) r l:=by
 refine Bz (λh=>QC DS EE hk h) (λt k' h1 h2 hS=>?_) (λ_ _=>rfl) hS;obtain⟨n,hn,hS⟩:=I0 hS;dsimp only[Sum.elim];rw[hn,Option.bind_some];revert hS;cases DZ n.2 0;exact λhS=>Eh h2 rfl hS;cases EQ n.1 least<;>exact λhS=>Eh h2 rfl hS
def ai8{k:Nat}(hk:k<=ts.length){r l}(hS:ZP en (ts.drop k)=some (r,l)):I8 ts k (G3 ⟨ts,k,en⟩) r l:=by
 refine Bz (λh=>IB DS _ hk h) (λt k h hk hS=>?_) (λ_ _=>rfl) hS;refine Bz (λh=>OC DS _ hk h) (λn k h hk hS=>?_) (λ_ _=>rfl) hS;refine Bz (λh=>IB DS _ hk h) (λ_ k h hk hS=>?_) (λ_ _=>rfl) hS;refine Bz (λh=>bW DS _ hk h) (λf k h hk hS=>?_) (λ_ _=>rfl) hS;refine sH hk (λVQ hS=>?_) (λhS=>?_) hS;dsimp only[cond];rw[En DS hk];refine Bz (λh=>bW DS _ VQ h) (λu k h hk hS=>?_) (λ_ _=>rfl) hS;refine Bz (λh=>IB DS _ hk h) (λ_ k h hk hS=>?_) (λ_ _=>rfl) hS;refine Bz (λh=>bW DS _ hk h) (λf k h hk hS=>?_) (λ_ _=>rfl) hS;exact Eh hk rfl hS;refine Bz (λh=>IB DS _ hk h) (λ_ k h hk hS=>?_) (λ_ _=>rfl) hS;refine Bz (λh=>bW DS _ hk h) (λf k h hk hS=>?_) (λ_ _=>rfl) hS;exact Eh hk rfl hS
def aab{k:Nat}(hk:k<=ts.length){r l}(hS:Uh en (ts.drop k)=some (r,l)):I8 ts k (Du ⟨ts,k,en⟩) r l:=by
 refine Vw hk (λt h1 h2 hS=>?_) (λ_=>rfl) hS;have hS:=Zk h2 hS;dsimp only[Sum.elim];rw[En DS hk];refine K7 (Nat.le_succ k) ?_;refine Bz (λh=>abH DS h1 h) (λm k h hk hS=>?_) (λ_ _=>rfl) hS;refine Bz (λh=>IB DS _ hk h) (λ_ k h hk hS=>?_) (λ_ _=>rfl) hS;refine Bz (λh=>akI DS hk h) (λu k h hk hS=>?_) (λ_ _=>rfl) hS;dsimp only[Sum.elim];revert hS;cases BZ t.text.data.toList Ow.data.toList;intro hS;refine Bz (λh=>IB DS _ hk h) (λ_ k h hk hS=>?_) (λ_ _=>rfl) hS;exact Eh hk rfl hS;intro hS;refine Bz (λh=>aki DS hk h) (λq k h hk hS=>?_) (λ_ _=>rfl) hS;obtain⟨n,hn,hS⟩:=I0 hS;dsimp only[Sum.elim];rw[hn,Option.bind_some];refine Bz (λh=>IB DS _ hk h) (λ_ k h hk hS=>?_) (λ_ _=>rfl) hS;exact Eh hk rfl hS
def Ut{k:Nat}(hk:k<=ts.length){r l}(hS:Ge en (ts.drop k)=some (r,l)):I8 ts k (AN ⟨ts,k,en⟩) r l:=by
 refine Bz (λh=>OC DS _ hk h) (λn k h hk hS=>?_) (λ_ _=>rfl) hS;exact Eh hk rfl hS
def eK{k:Nat}(hk:k<=ts.length){r l}(hS:N4 en (ts.drop k)=some (r,l)):I8 ts k (BP ⟨ts,k,en⟩) r l:=by
 refine Bz (λh=>QC DS Da hk h) (λt k' h1 h2 hS=>?_) (λ_ _=>rfl) hS;obtain⟨n,hn,hS⟩:=I0 hS;dsimp only[Sum.elim];rw[hn,Option.bind_some];revert hS;cases DZ t.kind 3;exact λhS=>Eh h2 rfl hS;cases DZ n 0<;>exact λhS=>Eh h2 rfl hS
def acw{k:Nat}(hk:k<=ts.length){r l}(hS:V9 en (ts.drop k)=some (r,l)):I8 ts k (Ce ⟨ts,k,en⟩) r l:=by
 refine Bz (λh=>QC DS EH hk h) (λt k' h1 h2 hS=>?_) (λ_ _=>rfl) hS;dsimp only[Sum.elim];revert hS;cases BZ t.text.data.toList M4.data.toList<;>exact λhS=>Eh h2 rfl hS
end
end Mo
end Go.Proofs.YtpbkhogolfegfaaGreatDoor
namespace Go.Proofs.YtpbkhogolfegfaaGreatDoor
open AI Go
namespace Mo
set_option maxRecDepth 100000
section
variable {α β:Type} {ts:List Tk} {k:Nat} {en:Int} {r:α⊕Dg} {l:List Tk}
def Qj(N:Nd):(⟨N.kind,N.name,N.unit,N.n,N.fr,N.to,N.known,⟨N.CN.den,N.CN.ps⟩,N.kids,N.AF⟩:Nd)=N:=by cases N;rfl
def IW{m:Rd β}{K:β->Rd α}{s:List Tk}(h:Ct m K s=some (r,l)):(∃a s',m s=some (.inl a,s')/\K a s'=some (r,l))\/∃d,m s=some (.inr d,l)/\r=.inr d:=by
 unfold Ct at h;split at h;cases h;rename_i a s' hm;exact .inl ⟨a,s',hm,h⟩;rename_i d s' hm;simp only[Option.some.injEq,Prod.mk.injEq] at h;exact .inr ⟨d,by rw[hm,h.2],h.1.symm⟩
def La{A B:Rd α}{x:ByteArray}(hk:k<=ts.length)(h:NU x A B (ts.drop k)=some (r,l)) :
   (I6 x (ts.drop k)=true/\k+1<=ts.length/\A (ts.drop (k+1))=some (r,l))\/(I6 x (ts.drop k)=false/\B (ts.drop k)=some (r,l)):=by
 unfold NU at h;cases hx:I6 x (ts.drop k) with
 | true =>
   rw[hx] at h;obtain⟨t,ht1,ht2⟩:=Yv hk hx;exact .inl ⟨rfl,ht1,Zk ht2 h⟩
 | false =>
   rw[hx] at h;exact .inr ⟨rfl,h⟩
def abQ{K:Rd α}(hk:k<=ts.length)(h:U1 K (ts.drop k)=some (r,l)):k+1<=ts.length/\K (ts.drop (k+1))=some (r,l):=by
 rcases Jk ts hk with ⟨h1,lR⟩ | ⟨t,h1,lR,h3'⟩
 rw[lR] at h;cases h;exact⟨h1,Zk h3' h⟩
def NB{n:Nat}{m:Rd α}{s:List Tk}(h:Oe n m s=some (r,l)):n<=100000000/\m s=some (r,l):=aby h
def K8{a:β}{q:β⊕Dg}{s:List Tk}(h:FE a s=some (q,l)):q=.inl a/\l=s:=by
 simp only[FE,Option.some.injEq,Prod.mk.injEq] at h;exact⟨h.1.symm,h.2.symm⟩
def MC{e p:Int}{s:List Tk}(h:Mg e p s=some (r,l)):r=.inr ⟨e,p⟩/\l=s:=by
 simp only[Mg,Option.some.injEq,Prod.mk.injEq] at h;exact⟨h.1.symm,h.2.symm⟩
def afo{yes:ByteArray->Rd α}{no:Rd α}(hk:k<=ts.length)(hS:lW yes no (opsOf 0) (ts.drop k)=some (r,l)) :
   (∃x,k+1<=ts.length/\C5 ⟨ts,k,en⟩=some (x,true)/\yes x (ts.drop (k+1))=some (r,l))\/(C5 ⟨ts,k,en⟩=some (bE,false)/\no (ts.drop k)=some (r,l)):=by
 unfold C5;simp only[Gw hk,Option.bind_some];rcases La hk hS with ⟨h0,h,hy⟩ | ⟨h0,hS⟩
 refine .inl ⟨_,h,?_,hy⟩;simp only[h0,cond_true,cond_false];refine .inr ⟨?_,hS⟩;simp only[h0,cond_false]
def afp{yes:ByteArray->Rd α}{no:Rd α}(hk:k<=ts.length)(hS:lW yes no (opsOf 1) (ts.drop k)=some (r,l)) :
   (∃x,k+1<=ts.length/\C6 ⟨ts,k,en⟩=some (x,true)/\yes x (ts.drop (k+1))=some (r,l))\/(C6 ⟨ts,k,en⟩=some (bE,false)/\no (ts.drop k)=some (r,l)):=by
 unfold C6;simp only[Gw hk,Option.bind_some];rcases La hk hS with ⟨h0,h,hy⟩ | ⟨h0,hS⟩
 refine .inl ⟨_,h,?_,hy⟩;simp only[h0,cond_true,cond_false];refine .inr ⟨?_,hS⟩;simp only[h0,cond_false]
def afq{yes:ByteArray->Rd α}{no:Rd α}(hk:k<=ts.length)(hS:lW yes no (opsOf 3) (ts.drop k)=some (r,l)) :
   (∃x,k+1<=ts.length/\C7 ⟨ts,k,en⟩=some (x,true)/\yes x (ts.drop (k+1))=some (r,l))\/(C7 ⟨ts,k,en⟩=some (bE,false)/\no (ts.drop k)=some (r,l)):=by
 unfold C7;simp only[Gw hk,Option.bind_some];rcases La hk hS with ⟨h0,h,hy⟩ | ⟨h0,hS⟩
 refine .inl ⟨_,h,?_,hy⟩;simp only[h0,cond_true,cond_false];rcases La hk hS with ⟨h1,h,hy⟩ | ⟨h1,hS⟩
 refine .inl ⟨_,h,?_,hy⟩;simp only[h0,h1,cond_true,cond_false];rcases La hk hS with ⟨h2,h,hy⟩ | ⟨h2,hS⟩
 refine .inl ⟨_,h,?_,hy⟩;simp only[h0,h1,h2,cond_true,cond_false];rcases La hk hS with ⟨h3,h,hy⟩ | ⟨h3,hS⟩
 refine .inl ⟨_,h,?_,hy⟩;simp only[h0,h1,h2,h3,cond_true,cond_false];rcases La hk hS with ⟨h4,h,hy⟩ | ⟨h4,hS⟩
 refine .inl ⟨_,h,?_,hy⟩;simp only[h0,h1,h2,h3,h4,cond_true,cond_false];rcases La hk hS with ⟨h5,h,hy⟩ | ⟨h5,hS⟩
 refine .inl ⟨_,h,?_,hy⟩;simp only[h0,h1,h2,h3,h4,h5,cond_true,cond_false];refine .inr ⟨?_,hS⟩;simp only[h0,h1,h2,h3,h4,h5,cond_false]
def afr{yes:ByteArray->Rd α}{no:Rd α}(hk:k<=ts.length)(hS:lW yes no (opsOf 4) (ts.drop k)=some (r,l)) :
   (∃x,k+1<=ts.length/\C8 ⟨ts,k,en⟩=some (x,true)/\yes x (ts.drop (k+1))=some (r,l))\/(C8 ⟨ts,k,en⟩=some (bE,false)/\no (ts.drop k)=some (r,l)):=by
 unfold C8;simp only[Gw hk,Option.bind_some];rcases La hk hS with ⟨h0,h,hy⟩ | ⟨h0,hS⟩
 refine .inl ⟨_,h,?_,hy⟩;simp only[h0,cond_true,cond_false];rcases La hk hS with ⟨h1,h,hy⟩ | ⟨h1,hS⟩
 refine .inl ⟨_,h,?_,hy⟩;simp only[h0,h1,cond_true,cond_false];refine .inr ⟨?_,hS⟩;simp only[h0,h1,cond_false]
def afs{yes:ByteArray->Rd α}{no:Rd α}(hk:k<=ts.length)(hS:lW yes no (opsOf 5) (ts.drop k)=some (r,l)) :
   (∃x,k+1<=ts.length/\C9 ⟨ts,k,en⟩=some (x,true)/\yes x (ts.drop (k+1))=some (r,l))\/(C9 ⟨ts,k,en⟩=some (bE,false)/\no (ts.drop k)=some (r,l)):=by
 unfold C9;simp only[Gw hk,Option.bind_some];rcases La hk hS with ⟨h0,h,hy⟩ | ⟨h0,hS⟩
 refine .inl ⟨_,h,?_,hy⟩;simp only[h0,cond_true,cond_false];rcases La hk hS with ⟨h1,h,hy⟩ | ⟨h1,hS⟩
 refine .inl ⟨_,h,?_,hy⟩;simp only[h0,h1,cond_true,cond_false];rcases La hk hS with ⟨h2,h,hy⟩ | ⟨h2,hS⟩
 refine .inl ⟨_,h,?_,hy⟩;simp only[h0,h1,h2,cond_true,cond_false];refine .inr ⟨?_,hS⟩;simp only[h0,h1,h2,cond_false]
end
structure Agr(R:Ac)(ts:List Tk)(en:Int)(g:Ek->Rd Nd)(li:Rd (List Nd)):Prop where
 ex:∀{k:Nat},k<=ts.length->∀{r l},g .ex (ts.drop k)=some (r,l)->I8 ts k (R.AM ⟨ts,k,en⟩) r l
 l0:∀{k:Nat},k<=ts.length->∀{r l},g (.lv 0) (ts.drop k)=some (r,l)->I8 ts k (R.Ec ⟨ts,k,en⟩) r l
 l1:∀{k:Nat},k<=ts.length->∀{r l},g (.lv 1) (ts.drop k)=some (r,l)->I8 ts k (R.B1 ⟨ts,k,en⟩) r l
 l2:∀{k:Nat},k<=ts.length->∀{r l},g (.lv 2) (ts.drop k)=some (r,l)->I8 ts k (R.BB ⟨ts,k,en⟩) r l
 l3:∀{k:Nat},k<=ts.length->∀{r l},g (.lv 3) (ts.drop k)=some (r,l)->I8 ts k (R.Cy ⟨ts,k,en⟩) r l
 l4:∀{k:Nat},k<=ts.length->∀{r l},g (.lv 4) (ts.drop k)=some (r,l)->I8 ts k (R.Cz ⟨ts,k,en⟩) r l
 l5:∀{k:Nat},k<=ts.length->∀{r l},g (.lv 5) (ts.drop k)=some (r,l)->I8 ts k (R.B2 ⟨ts,k,en⟩) r l
 l6:∀{k:Nat},k<=ts.length->∀{r l},g (.lv 6) (ts.drop k)=some (r,l)->I8 ts k (R.B5 ⟨ts,k,en⟩) r l
 at_:∀{k:Nat},k<=ts.length->∀{r l},g .at_ (ts.drop k)=some (r,l)->I8 ts k (R.Ff ⟨ts,k,en⟩) r l
 wd:∀(t:Tk) {k:Nat},k<=ts.length->∀{r l},g (.wd t) (ts.drop k)=some (r,l)->I8 ts k (R.Fi ⟨ts,k,en⟩ t) r l
 ca:∀{k:Nat},k<=ts.length->∀{r l},g .ca (ts.drop k)=some (r,l)->I8 ts k (R.Dj ⟨ts,k,en⟩) r l
 ta:∀{k:Nat},k<=ts.length->∀{r l},g .ta (ts.drop k)=some (r,l)->I8 ts k (R.EP ⟨ts,k,en⟩) r l
 li:∀{k:Nat},k<=ts.length->∀{r l},li (ts.drop k)=some (r,l)->I8 ts k (R.DE ⟨ts,k,en⟩) r l
section
variable {ts:List Tk} (DS:ts.length<=1000000) {en:Int}
include DS
def M6{sub:Rd Nd}{F:Pr->Option ((Nd⊕Dg)×Int)}{k:Nat}(hk:k<=ts.length)(Lw:∀{r l},sub (ts.drop k)=some (r,l)->I8 ts k (F ⟨ts,k,en⟩) r l){x:ByteArray}{N:Nd}{r l}(hS:Qs en sub x N (ts.drop k)=some (r,l)) :
   ∃k':Nat,k<=k'/\k'<=ts.length/\l=ts.drop k'/\((∃n b,cond (BZ x.data.toList Fa.data.toList) (AN ⟨ts,k,en⟩) (F ⟨ts,k,en⟩)=some (.inl n,(k':Int))/\A7 x N n=some b/\r=.inl b)\/∃d,cond (BZ x.data.toList Fa.data.toList) (AN ⟨ts,k,en⟩) (F ⟨ts,k,en⟩)=some (.inr d,(k':Int))/\r=.inr d):=by
 have key:∀{r l},(cond (BZ x.data.toList Fa.data.toList) (Ge en) sub) (ts.drop k)=some (r,l)->I8 ts k (cond (BZ x.data.toList Fa.data.toList) (AN ⟨ts,k,en⟩) (F ⟨ts,k,en⟩)) r l:=by
   intro r l h;revert h;cases BZ x.data.toList Fa.data.toList;exact λh=>Lw h;exact λh=>Ut DS hk h
 rcases IW hS with ⟨n,s',h1,h2⟩ | ⟨d,h1,h2⟩
 obtain⟨b,hb,h2⟩:=I0 h2;obtain⟨rfl,rfl⟩:=K8 h2;obtain⟨k',a1,a2,a3,a4⟩:=key h1;exact⟨k',a1,a2,a3,.inl ⟨n,b,a4,hb,rfl⟩⟩;obtain⟨k',a1,a2,a3,a4⟩:=key h1;exact⟨k',a1,a2,a3,.inr ⟨d,a4,h2⟩⟩
def zD{R:Ac}{sub:Rd Nd}(Lw:∀{k:Nat},k<=ts.length->∀{r l},sub (ts.drop k)=some (r,l)->I8 ts k (R.B1 ⟨ts,k,en⟩) r l)(k0:Int) :
   ∀(q:Nat) (N:Nd) (k:Nat) (r:Nd⊕Dg) (l:List Tk),k<=ts.length->KQ en (opsOf 0) sub q N (ts.drop k)=some (r,l) ->
   ∃k':Nat,k<=k'/\k'<=ts.length/\l=ts.drop k'/\∃n,GS (λx=>Bs R ⟨ts,k0,en⟩ x.1 x.2.1 x.2.2.1 x.2.2.2.1 x.2.2.2.2.1 x.2.2.2.2.2.1 x.2.2.2.2.2.2.1 x.2.2.2.2.2.2.2.1 x.2.2.2.2.2.2.2.2.1 x.2.2.2.2.2.2.2.2.2.1 x.2.2.2.2.2.2.2.2.2.2.1 x.2.2.2.2.2.2.2.2.2.2.2) n (N.kind,N.name,N.unit,N.n,N.fr,N.to,N.known,N.CN.den,N.CN.ps,N.kids,N.AF,(k:Int))=some (.inr (r,(k':Int))):=by
 intro q
 induction q with
 | zero=>intro N k r l hk hS;cases hS
 | succ q ih =>
   intro N k r l hk hS;rcases afo (en:=en) hk hS with ⟨x,h1,h2,hS⟩ | ⟨h2,hS⟩
   rcases IW hS with ⟨b,s',h3,h4⟩ | ⟨d,h3,rfl⟩
   obtain⟨k',a1,a2,rfl,⟨n,b',hX,hb,hr⟩ | ⟨d,hX,hr⟩⟩:=M6 DS h1 (λh=>Lw h1 h) h3;cases hr;obtain⟨k2,b1,b2,b3,m,b4⟩:=ih b k' r l a2 h4;refine⟨k2,by omega,b2,b3,m+1,?_⟩
   have hL:Bs R ⟨ts,k0,en⟩ N.kind N.name N.unit N.n N.fr N.to N.known N.CN.den N.CN.ps N.kids N.AF (k:Int)=some (.nx (b.kind,b.name,b.unit,b.n,b.fr,b.to,b.known,b.CN.den,b.CN.ps,b.kids,b.AF,(k':Int))):=by
     unfold Bs;dsimp only;rw[h2];dsimp only[Option.bind,cond];rw[En DS hk];cases hE:BZ x.data.toList Fa.data.toList <;>
     rw[hE] at hX;dsimp only[cond] at hX;dsimp only;rw[hX];dsimp only[Sum.elim];rw[Qj,hb]
   show(Bs R ⟨ts,k0,en⟩ N.kind N.name N.unit N.n N.fr N.to N.known N.CN.den N.CN.ps N.kids N.AF (k:Int)).bind _=_;rw[hL];exact b4;cases hr;obtain⟨k',a1,a2,rfl,⟨n,b',hX,hb,hr⟩ | ⟨d',hX,hr⟩⟩:=M6 DS h1 (λh=>Lw h1 h) h3;cases hr;cases hr;refine⟨k',by omega,a2,rfl,1,?_⟩
   have hL:Bs R ⟨ts,k0,en⟩ N.kind N.name N.unit N.n N.fr N.to N.known N.CN.den N.CN.ps N.kids N.AF (k:Int)=some (.rt (.inr d,(k':Int))):=by
     unfold Bs;dsimp only;rw[h2];dsimp only[Option.bind,cond];rw[En DS hk];cases hE:BZ x.data.toList Fa.data.toList <;>
     rw[hE] at hX;dsimp only[cond] at hX;dsimp only;rw[hX];rfl
   show(Bs R ⟨ts,k0,en⟩ N.kind N.name N.unit N.n N.fr N.to N.known N.CN.den N.CN.ps N.kids N.AF (k:Int)).bind _=_;rw[hL];rfl;obtain⟨rfl,rfl⟩:=K8 hS;refine⟨k,Nat.le_refl k,hk,rfl,1,?_⟩
   have hL:Bs R ⟨ts,k0,en⟩ N.kind N.name N.unit N.n N.fr N.to N.known N.CN.den N.CN.ps N.kids N.AF (k:Int)=some (.rt (.inl N,(k:Int))):=by
     unfold Bs;dsimp only;rw[h2,Qj];rfl
   show(Bs R ⟨ts,k0,en⟩ N.kind N.name N.unit N.n N.fr N.to N.known N.CN.den N.CN.ps N.kids N.AF (k:Int)).bind _=_;rw[hL];rfl
def abq{R:Ac}{g:Ek->Rd Nd}(Lw:∀{k:Nat},k<=ts.length->∀{r l},g (.lv 1) (ts.drop k)=some (r,l)->I8 ts k (R.B1 ⟨ts,k,en⟩) r l){k:Nat}(hk:k<=ts.length){r l}(hS:Nz en g 0 (ts.drop k)=some (r,l)) :
   I8 ts k (FN R ⟨ts,k,en⟩) r l:=by
 refine Bz (λh=>Lw hk h) (λN k' h1 h2 hS=>?_) (λ_ _=>rfl) hS;obtain⟨k2,a1,a2,a3,n,a4⟩:=zD DS Lw (k:Int) _ N k' r l h2 hS;refine⟨k2,a1,a2,a3,?_⟩;dsimp only[Sum.elim];rw[IY a4];rfl
def zE{R:Ac}{sub:Rd Nd}(Lw:∀{k:Nat},k<=ts.length->∀{r l},sub (ts.drop k)=some (r,l)->I8 ts k (R.BB ⟨ts,k,en⟩) r l)(k0:Int) :
   ∀(q:Nat) (N:Nd) (k:Nat) (r:Nd⊕Dg) (l:List Tk),k<=ts.length->KQ en (opsOf 1) sub q N (ts.drop k)=some (r,l) ->
   ∃k':Nat,k<=k'/\k'<=ts.length/\l=ts.drop k'/\∃n,GS (λx=>Bt R ⟨ts,k0,en⟩ x.1 x.2.1 x.2.2.1 x.2.2.2.1 x.2.2.2.2.1 x.2.2.2.2.2.1 x.2.2.2.2.2.2.1 x.2.2.2.2.2.2.2.1 x.2.2.2.2.2.2.2.2.1 x.2.2.2.2.2.2.2.2.2.1 x.2.2.2.2.2.2.2.2.2.2.1 x.2.2.2.2.2.2.2.2.2.2.2) n (N.kind,N.name,N.unit,N.n,N.fr,N.to,N.known,N.CN.den,N.CN.ps,N.kids,N.AF,(k:Int))=some (.inr (r,(k':Int))):=by
 intro q
 induction q with
 | zero=>intro N k r l hk hS;cases hS
 | succ q ih =>
   intro N k r l hk hS;rcases afp (en:=en) hk hS with ⟨x,h1,h2,hS⟩ | ⟨h2,hS⟩
   rcases IW hS with ⟨b,s',h3,h4⟩ | ⟨d,h3,rfl⟩
   obtain⟨k',a1,a2,rfl,⟨n,b',hX,hb,hr⟩ | ⟨d,hX,hr⟩⟩:=M6 DS h1 (λh=>Lw h1 h) h3;cases hr;obtain⟨k2,b1,b2,b3,m,b4⟩:=ih b k' r l a2 h4;refine⟨k2,by omega,b2,b3,m+1,?_⟩
   have hL:Bt R ⟨ts,k0,en⟩ N.kind N.name N.unit N.n N.fr N.to N.known N.CN.den N.CN.ps N.kids N.AF (k:Int)=some (.nx (b.kind,b.name,b.unit,b.n,b.fr,b.to,b.known,b.CN.den,b.CN.ps,b.kids,b.AF,(k':Int))):=by
     unfold Bt;dsimp only;rw[h2];dsimp only[Option.bind,cond];rw[En DS hk];cases hE:BZ x.data.toList Fa.data.toList <;>
     rw[hE] at hX;dsimp only[cond] at hX;dsimp only;rw[hX];dsimp only[Sum.elim];rw[Qj,hb]
   show(Bt R ⟨ts,k0,en⟩ N.kind N.name N.unit N.n N.fr N.to N.known N.CN.den N.CN.ps N.kids N.AF (k:Int)).bind _=_;rw[hL];exact b4;cases hr;obtain⟨k',a1,a2,rfl,⟨n,b',hX,hb,hr⟩ | ⟨d',hX,hr⟩⟩:=M6 DS h1 (λh=>Lw h1 h) h3;cases hr;cases hr;refine⟨k',by omega,a2,rfl,1,?_⟩
   have hL:Bt R ⟨ts,k0,en⟩ N.kind N.name N.unit N.n N.fr N.to N.known N.CN.den N.CN.ps N.kids N.AF (k:Int)=some (.rt (.inr d,(k':Int))):=by
     unfold Bt;dsimp only;rw[h2];dsimp only[Option.bind,cond];rw[En DS hk];cases hE:BZ x.data.toList Fa.data.toList <;>
     rw[hE] at hX;dsimp only[cond] at hX;dsimp only;rw[hX];rfl
   show(Bt R ⟨ts,k0,en⟩ N.kind N.name N.unit N.n N.fr N.to N.known N.CN.den N.CN.ps N.kids N.AF (k:Int)).bind _=_;rw[hL];rfl;obtain⟨rfl,rfl⟩:=K8 hS;refine⟨k,Nat.le_refl k,hk,rfl,1,?_⟩
   have hL:Bt R ⟨ts,k0,en⟩ N.kind N.name N.unit N.n N.fr N.to N.known N.CN.den N.CN.ps N.kids N.AF (k:Int)=some (.rt (.inl N,(k:Int))):=by
     unfold Bt;dsimp only;rw[h2,Qj];rfl
   show(Bt R ⟨ts,k0,en⟩ N.kind N.name N.unit N.n N.fr N.to N.known N.CN.den N.CN.ps N.kids N.AF (k:Int)).bind _=_;rw[hL];rfl
def abr{R:Ac}{g:Ek->Rd Nd}(Lw:∀{k:Nat},k<=ts.length->∀{r l},g (.lv 2) (ts.drop k)=some (r,l)->I8 ts k (R.BB ⟨ts,k,en⟩) r l){k:Nat}(hk:k<=ts.length){r l}(hS:Nz en g 1 (ts.drop k)=some (r,l)) :
   I8 ts k (FQ R ⟨ts,k,en⟩) r l:=by
 refine Bz (λh=>Lw hk h) (λN k' h1 h2 hS=>?_) (λ_ _=>rfl) hS;obtain⟨k2,a1,a2,a3,n,a4⟩:=zE DS Lw (k:Int) _ N k' r l h2 hS;refine⟨k2,a1,a2,a3,?_⟩;dsimp only[Sum.elim];rw[IY a4];rfl
def zF{R:Ac}{sub:Rd Nd}(Lw:∀{k:Nat},k<=ts.length->∀{r l},sub (ts.drop k)=some (r,l)->I8 ts k (R.B2 ⟨ts,k,en⟩) r l)(k0:Int) :
   ∀(q:Nat) (N:Nd) (k:Nat) (r:Nd⊕Dg) (l:List Tk),k<=ts.length->KQ en (opsOf 4) sub q N (ts.drop k)=some (r,l) ->
   ∃k':Nat,k<=k'/\k'<=ts.length/\l=ts.drop k'/\∃n,GS (λx=>Bu R ⟨ts,k0,en⟩ x.1 x.2.1 x.2.2.1 x.2.2.2.1 x.2.2.2.2.1 x.2.2.2.2.2.1 x.2.2.2.2.2.2.1 x.2.2.2.2.2.2.2.1 x.2.2.2.2.2.2.2.2.1 x.2.2.2.2.2.2.2.2.2.1 x.2.2.2.2.2.2.2.2.2.2.1 x.2.2.2.2.2.2.2.2.2.2.2) n (N.kind,N.name,N.unit,N.n,N.fr,N.to,N.known,N.CN.den,N.CN.ps,N.kids,N.AF,(k:Int))=some (.inr (r,(k':Int))):=by
 intro q
 induction q with
 | zero=>intro N k r l hk hS;cases hS
 | succ q ih =>
   intro N k r l hk hS;rcases afr (en:=en) hk hS with ⟨x,h1,h2,hS⟩ | ⟨h2,hS⟩
   rcases IW hS with ⟨b,s',h3,h4⟩ | ⟨d,h3,rfl⟩
   obtain⟨k',a1,a2,rfl,⟨n,b',hX,hb,hr⟩ | ⟨d,hX,hr⟩⟩:=M6 DS h1 (λh=>Lw h1 h) h3;cases hr;obtain⟨k2,b1,b2,b3,m,b4⟩:=ih b k' r l a2 h4;refine⟨k2,by omega,b2,b3,m+1,?_⟩
   have hL:Bu R ⟨ts,k0,en⟩ N.kind N.name N.unit N.n N.fr N.to N.known N.CN.den N.CN.ps N.kids N.AF (k:Int)=some (.nx (b.kind,b.name,b.unit,b.n,b.fr,b.to,b.known,b.CN.den,b.CN.ps,b.kids,b.AF,(k':Int))):=by
     unfold Bu;dsimp only;rw[h2];dsimp only[Option.bind,cond];rw[En DS hk];cases hE:BZ x.data.toList Fa.data.toList <;>
     rw[hE] at hX;dsimp only[cond] at hX;dsimp only;rw[hX];dsimp only[Sum.elim];rw[Qj,hb]
   show(Bu R ⟨ts,k0,en⟩ N.kind N.name N.unit N.n N.fr N.to N.known N.CN.den N.CN.ps N.kids N.AF (k:Int)).bind _=_;rw[hL];exact b4;cases hr;obtain⟨k',a1,a2,rfl,⟨n,b',hX,hb,hr⟩ | ⟨d',hX,hr⟩⟩:=M6 DS h1 (λh=>Lw h1 h) h3;cases hr;cases hr;refine⟨k',by omega,a2,rfl,1,?_⟩
   have hL:Bu R ⟨ts,k0,en⟩ N.kind N.name N.unit N.n N.fr N.to N.known N.CN.den N.CN.ps N.kids N.AF (k:Int)=some (.rt (.inr d,(k':Int))):=by
     unfold Bu;dsimp only;rw[h2];dsimp only[Option.bind,cond];rw[En DS hk];cases hE:BZ x.data.toList Fa.data.toList <;>
     rw[hE] at hX;dsimp only[cond] at hX;dsimp only;rw[hX];rfl
   show(Bu R ⟨ts,k0,en⟩ N.kind N.name N.unit N.n N.fr N.to N.known N.CN.den N.CN.ps N.kids N.AF (k:Int)).bind _=_;rw[hL];rfl;obtain⟨rfl,rfl⟩:=K8 hS;refine⟨k,Nat.le_refl k,hk,rfl,1,?_⟩
   have hL:Bu R ⟨ts,k0,en⟩ N.kind N.name N.unit N.n N.fr N.to N.known N.CN.den N.CN.ps N.kids N.AF (k:Int)=some (.rt (.inl N,(k:Int))):=by
     unfold Bu;dsimp only;rw[h2,Qj];rfl
   show(Bu R ⟨ts,k0,en⟩ N.kind N.name N.unit N.n N.fr N.to N.known N.CN.den N.CN.ps N.kids N.AF (k:Int)).bind _=_;rw[hL];rfl
def abt{R:Ac}{g:Ek->Rd Nd}(Lw:∀{k:Nat},k<=ts.length->∀{r l},g (.lv 5) (ts.drop k)=some (r,l)->I8 ts k (R.B2 ⟨ts,k,en⟩) r l){k:Nat}(hk:k<=ts.length){r l}(hS:Nz en g 4 (ts.drop k)=some (r,l)) :
   I8 ts k (FU R ⟨ts,k,en⟩) r l:=by
 refine Bz (λh=>Lw hk h) (λN k' h1 h2 hS=>?_) (λ_ _=>rfl) hS;obtain⟨k2,a1,a2,a3,n,a4⟩:=zF DS Lw (k:Int) _ N k' r l h2 hS;refine⟨k2,a1,a2,a3,?_⟩;dsimp only[Sum.elim];rw[IY a4];rfl
def zG{R:Ac}{sub:Rd Nd}(Lw:∀{k:Nat},k<=ts.length->∀{r l},sub (ts.drop k)=some (r,l)->I8 ts k (R.B5 ⟨ts,k,en⟩) r l)(k0:Int) :
   ∀(q:Nat) (N:Nd) (k:Nat) (r:Nd⊕Dg) (l:List Tk),k<=ts.length->KQ en (opsOf 5) sub q N (ts.drop k)=some (r,l) ->
   ∃k':Nat,k<=k'/\k'<=ts.length/\l=ts.drop k'/\∃n,GS (λx=>Bv R ⟨ts,k0,en⟩ x.1 x.2.1 x.2.2.1 x.2.2.2.1 x.2.2.2.2.1 x.2.2.2.2.2.1 x.2.2.2.2.2.2.1 x.2.2.2.2.2.2.2.1 x.2.2.2.2.2.2.2.2.1 x.2.2.2.2.2.2.2.2.2.1 x.2.2.2.2.2.2.2.2.2.2.1 x.2.2.2.2.2.2.2.2.2.2.2) n (N.kind,N.name,N.unit,N.n,N.fr,N.to,N.known,N.CN.den,N.CN.ps,N.kids,N.AF,(k:Int))=some (.inr (r,(k':Int))):=by
 intro q
 induction q with
 | zero=>intro N k r l hk hS;cases hS
 | succ q ih =>
   intro N k r l hk hS;rcases afs (en:=en) hk hS with ⟨x,h1,h2,hS⟩ | ⟨h2,hS⟩
   rcases IW hS with ⟨b,s',h3,h4⟩ | ⟨d,h3,rfl⟩
   obtain⟨k',a1,a2,rfl,⟨n,b',hX,hb,hr⟩ | ⟨d,hX,hr⟩⟩:=M6 DS h1 (λh=>Lw h1 h) h3;cases hr;obtain⟨k2,b1,b2,b3,m,b4⟩:=ih b k' r l a2 h4;refine⟨k2,by omega,b2,b3,m+1,?_⟩
   have hL:Bv R ⟨ts,k0,en⟩ N.kind N.name N.unit N.n N.fr N.to N.known N.CN.den N.CN.ps N.kids N.AF (k:Int)=some (.nx (b.kind,b.name,b.unit,b.n,b.fr,b.to,b.known,b.CN.den,b.CN.ps,b.kids,b.AF,(k':Int))):=by
     unfold Bv;dsimp only;rw[h2];dsimp only[Option.bind,cond];rw[En DS hk];cases hE:BZ x.data.toList Fa.data.toList <;>
     rw[hE] at hX;dsimp only[cond] at hX;dsimp only;rw[hX];dsimp only[Sum.elim];rw[Qj,hb]
   show(Bv R ⟨ts,k0,en⟩ N.kind N.name N.unit N.n N.fr N.to N.known N.CN.den N.CN.ps N.kids N.AF (k:Int)).bind _=_;rw[hL];exact b4;cases hr;obtain⟨k',a1,a2,rfl,⟨n,b',hX,hb,hr⟩ | ⟨d',hX,hr⟩⟩:=M6 DS h1 (λh=>Lw h1 h) h3;cases hr;cases hr;refine⟨k',by omega,a2,rfl,1,?_⟩
   have hL:Bv R ⟨ts,k0,en⟩ N.kind N.name N.unit N.n N.fr N.to N.known N.CN.den N.CN.ps N.kids N.AF (k:Int)=some (.rt (.inr d,(k':Int))):=by
     unfold Bv;dsimp only;rw[h2];dsimp only[Option.bind,cond];rw[En DS hk];cases hE:BZ x.data.toList Fa.data.toList <;>
     rw[hE] at hX;dsimp only[cond] at hX;dsimp only;rw[hX];rfl
   show(Bv R ⟨ts,k0,en⟩ N.kind N.name N.unit N.n N.fr N.to N.known N.CN.den N.CN.ps N.kids N.AF (k:Int)).bind _=_;rw[hL];rfl;obtain⟨rfl,rfl⟩:=K8 hS;refine⟨k,Nat.le_refl k,hk,rfl,1,?_⟩
   have hL:Bv R ⟨ts,k0,en⟩ N.kind N.name N.unit N.n N.fr N.to N.known N.CN.den N.CN.ps N.kids N.AF (k:Int)=some (.rt (.inl N,(k:Int))):=by
     unfold Bv;dsimp only;rw[h2,Qj];rfl
   show(Bv R ⟨ts,k0,en⟩ N.kind N.name N.unit N.n N.fr N.to N.known N.CN.den N.CN.ps N.kids N.AF (k:Int)).bind _=_;rw[hL];rfl
def abu{R:Ac}{g:Ek->Rd Nd}(Lw:∀{k:Nat},k<=ts.length->∀{r l},g (.lv 6) (ts.drop k)=some (r,l)->I8 ts k (R.B5 ⟨ts,k,en⟩) r l){k:Nat}(hk:k<=ts.length){r l}(hS:Nz en g 5 (ts.drop k)=some (r,l)) :
   I8 ts k (FV R ⟨ts,k,en⟩) r l:=by
 refine Bz (λh=>Lw hk h) (λN k' h1 h2 hS=>?_) (λ_ _=>rfl) hS;obtain⟨k2,a1,a2,a3,n,a4⟩:=zG DS Lw (k:Int) _ N k' r l h2 hS;refine⟨k2,a1,a2,a3,?_⟩;dsimp only[Sum.elim];rw[IY a4];rfl
end
end Mo
end Go.Proofs.YtpbkhogolfegfaaGreatDoor
namespace Go.Proofs.YtpbkhogolfegfaaGreatDoor
open AI Go
namespace Mo
set_option maxRecDepth 100000
section
variable {α β γ:Type} {ts:List Tk} {k:Nat} {en:Int} {l:List Tk}
def bD(ts:List Tk)(k:Nat)(X:Option ((Pt⊕Dg)×Int×Int))(r:(Pt×Int)⊕Dg)(l:List Tk):Prop:=∃k':Nat,k<=k'/\k'<=ts.length/\l=ts.drop k'/\match r with
 | .inl x=>X=some (.inl x.1,(k':Int),x.2)
 | .inr d=>∃c,X=some (.inr d,(k':Int),c)
variable {r:(Pt×Int)⊕Dg}
def sG{k2:Nat}{X:Option ((Pt⊕Dg)×Int×Int)}(h1:k<=k2)(h:bD ts k2 X r l):bD ts k X r l:=by
 obtain⟨k',a,b,c,d⟩:=h;exact⟨k',Nat.le_trans h1 a,b,c,d⟩
def IF{F1:Option ((γ⊕Dg)×Int)}{F2:(γ⊕Dg)×Int->Option ((Pt⊕Dg)×Int×Int)}{m:Rd γ}{K:γ->Rd (Pt×Int)}
   (h1:∀{r l},m (ts.drop k)=some (r,l)->I8 ts k F1 r l)
   (h2:∀a k',k<=k'->k'<=ts.length->K a (ts.drop k')=some (r,l)->bD ts k' (F2 (.inl a,(k':Int))) r l)
   (h3:∀d z,∃c,F2 (.inr d,z)=some (.inr d,z,c)) (hS:Ct m K (ts.drop k)=some (r,l)):bD ts k (F1.bind F2) r l:=by
 rcases IW hS with ⟨a,s',hm,hS⟩ | ⟨d,hm,rfl⟩
 obtain⟨k',a1,a2,rfl,a4⟩:=h1 hm;rw[a4];exact sG a1 (h2 _ _ a1 a2 hS);obtain⟨k',a1,a2,a3,a4⟩:=h1 hm;obtain⟨c,hc⟩:=h3 d k';exact⟨k',a1,a2,a3,c,by rw[a4,Option.bind_some,hc]⟩
def ab3{F2:Bool->Option ((Pt⊕Dg)×Int×Int)}{A B:Rd (Pt×Int)}{x:ByteArray}(hk:k<=ts.length)
   (h1:k+1<=ts.length->A (ts.drop (k+1))=some (r,l)->bD ts (k+1) (F2 true) r l) (h2:B (ts.drop k)=some (r,l)->bD ts k (F2 false) r l)
   (hS:NU x A B (ts.drop k)=some (r,l)):bD ts k ((Aq ⟨ts,k,en⟩ x).bind F2) r l:=by
 rw[Gw hk,Option.bind_some];rcases La hk hS with ⟨h,h3,hS⟩ | ⟨h,hS⟩
 rw[h];exact sG (Nat.le_succ k) (h1 h3 hS);rw[h];exact h2 hS
end
def aj8(p:Pr)(Ax Bh:Int)(Aw:Int×Int):Option ((Pt⊕Dg)×Int×Int):=((Aj (⟨p.Bq,Bh,p.DC⟩:Pr) jQ).bind λ(I7,EA)=>Sum.elim (λ(CX:Tk)=>(Aq (⟨p.Bq,EA,p.DC⟩:Pr) M4).bind λy3=>cond y3 ((BP (⟨p.Bq,(BS EA 1),p.DC⟩:Pr)).bind λ(VJ,Jb)=>Sum.elim (λ(Dd:(Int×Int))=>(Ce (⟨p.Bq,Jb,p.DC⟩:Pr)).bind λ(TU,Hr)=>Sum.elim (λ(Ig:Int)=>(AJ (⟨p.Bq,Hr,p.DC⟩:Pr) 0).bind λ(lL,N8)=>Sum.elim (λ(IU:(Int×Int))=>(Aj (⟨p.Bq,N8,p.DC⟩:Pr) Fa).bind λ(y7a,Se)=>Sum.elim (λ(UZ:Tk)=>(AJ (⟨p.Bq,Se,p.DC⟩:Pr) 1).bind λ(YX,Lg)=>Sum.elim (λ(GK:(Int×Int))=>(CO Ax GK.1).bind λy9=>(Sj Ax y9).bind λz10=>cond (EQ 1000000 (BN z10 GK.1)) (some ((Sum.inr (⟨2,GK.2⟩:Dg):(Pt⊕Dg)),Lg,(BN z10 GK.1))) (some ((Sum.inl (⟨Aw.1,(BN Dd.1 (-1)),(BN IU.1 Ig),GK.1⟩:Pt):(Pt⊕Dg)),Lg,(BN z10 GK.1)))) (λ(Lf:Dg)=>some ((Sum.inr Lf:(Pt⊕Dg)),Lg,Ax)) YX) (λ(Pa:Dg)=>some ((Sum.inr Pa:(Pt⊕Dg)),Se,Ax)) y7a) (λ(MA:Dg)=>some ((Sum.inr MA:(Pt⊕Dg)),N8,Ax)) lL) (λ(GQ:Dg)=>some ((Sum.inr GQ:(Pt⊕Dg)),Hr,Ax)) TU) (λ(Ie:Dg)=>some ((Sum.inr Ie:(Pt⊕Dg)),Jb,Ax)) VJ) ((BP (⟨p.Bq,EA,p.DC⟩:Pr)).bind λ(pI,PW)=>Sum.elim (λ(MI:(Int×Int))=>(Ce (⟨p.Bq,PW,p.DC⟩:Pr)).bind λ(YV,UX)=>Sum.elim (λ(YW:Int)=>(AJ (⟨p.Bq,UX,p.DC⟩:Pr) 0).bind λ(Ww,Of)=>Sum.elim (λ(MJ:(Int×Int))=>(Aj (⟨p.Bq,Of,p.DC⟩:Pr) Fa).bind λ(eM,TS)=>Sum.elim (λ(aii:Tk)=>(AJ (⟨p.Bq,TS,p.DC⟩:Pr) 1).bind λ(eO,QJ)=>Sum.elim (λ(J9:(Int×Int))=>(CO Ax J9.1).bind λy16=>(Sj Ax y16).bind λz17=>cond (EQ 1000000 (BN z17 J9.1)) (some ((Sum.inr (⟨2,J9.2⟩:Dg):(Pt⊕Dg)),QJ,(BN z17 J9.1))) (some ((Sum.inl (⟨Aw.1,(BN MI.1 1),(BN MJ.1 YW),J9.1⟩:Pt):(Pt⊕Dg)),QJ,(BN z17 J9.1)))) (λ(kW:Dg)=>some ((Sum.inr kW:(Pt⊕Dg)),QJ,Ax)) eO) (λ(kV:Dg)=>some ((Sum.inr kV:(Pt⊕Dg)),TS,Ax)) eM) (λ(UY:Dg)=>some ((Sum.inr UY:(Pt⊕Dg)),Of,Ax)) Ww) (λ(kU:Dg)=>some ((Sum.inr kU:(Pt⊕Dg)),UX,Ax)) YV) (λ(UU:Dg)=>some ((Sum.inr UU:(Pt⊕Dg)),PW,Ax)) pI)) (λ(GP:Dg)=>some ((Sum.inr GP:(Pt⊕Dg)),EA,Ax)) I7)
section
variable {ts:List Tk} (DS:ts.length<=1000000) {en:Int}
include DS
def jI(k0 Ax:Int)(v:Int×Int){k:Nat}(hk:k<=ts.length){r l}(hS:MZ en Ax v.1 (ts.drop k)=some (r,l)):bD ts k (aj8 ⟨ts,k0,en⟩ Ax k v) r l:=by
 refine IF (λh=>IB DS _ hk h) (λ_ k h hk hS=>?_) (λ_ _=>⟨_,rfl⟩) hS;refine ab3 hk (λVQ hS=>?_) (λhS=>?_) hS;dsimp only[cond];rw[En DS hk];refine IF (λh=>eK DS VQ h) (λa k h hk hS=>?_) (λ_ _=>⟨_,rfl⟩) hS;refine IF (λh=>acw DS hk h) (λs k h hk hS=>?_) (λ_ _=>⟨_,rfl⟩) hS;refine IF (λh=>OC DS _ hk h) (λm k h hk hS=>?_) (λ_ _=>⟨_,rfl⟩) hS;refine IF (λh=>IB DS _ hk h) (λ_ k h hk hS=>?_) (λ_ _=>⟨_,rfl⟩) hS;refine IF (λh=>OC DS _ hk h) (λd k h hk hS=>?_) (λ_ _=>⟨_,rfl⟩) hS;obtain⟨g,hg,hS⟩:=I0 hS;have hg:=aay hg;obtain⟨z,hz,hS⟩:=I0 hS;dsimp only[Sum.elim];rw[hg,Option.bind_some,hz,Option.bind_some];revert hS;cases EQ 1000000 (BN z d.1);exact λhS=>by obtain⟨rfl,rfl⟩:=K8 hS;exact⟨k,Nat.le_refl k,hk,rfl,rfl⟩
 exact λhS=>by obtain⟨rfl,rfl⟩:=MC hS;exact⟨k,Nat.le_refl k,hk,rfl,_,rfl⟩
 refine IF (λh=>eK DS hk h) (λa k h hk hS=>?_) (λ_ _=>⟨_,rfl⟩) hS;refine IF (λh=>acw DS hk h) (λs k h hk hS=>?_) (λ_ _=>⟨_,rfl⟩) hS;refine IF (λh=>OC DS _ hk h) (λm k h hk hS=>?_) (λ_ _=>⟨_,rfl⟩) hS;refine IF (λh=>IB DS _ hk h) (λ_ k h hk hS=>?_) (λ_ _=>⟨_,rfl⟩) hS;refine IF (λh=>OC DS _ hk h) (λd k h hk hS=>?_) (λ_ _=>⟨_,rfl⟩) hS;obtain⟨g,hg,hS⟩:=I0 hS;have hg:=aay hg;obtain⟨z,hz,hS⟩:=I0 hS;dsimp only[Sum.elim];rw[hg,Option.bind_some,hz,Option.bind_some];revert hS;cases EQ 1000000 (BN z d.1);exact λhS=>by obtain⟨rfl,rfl⟩:=K8 hS;exact⟨k,Nat.le_refl k,hk,rfl,rfl⟩
 exact λhS=>by obtain⟨rfl,rfl⟩:=MC hS;exact⟨k,Nat.le_refl k,hk,rfl,_,rfl⟩
def r5(before:List Pt)(hb:before.length<=100000000)(Ax:Int){k:Nat}(hk:k<=ts.length){r l}(hS:RI en before Ax (ts.drop k)=some (r,l)):bD ts k (GG ⟨ts,k,en⟩ before Ax) r l:=by
 refine IF (λh=>eK DS hk h) (λv k1 h hk hS=>?_) (λ_ _=>⟨_,rfl⟩) hS;dsimp only[Sum.elim];revert hS;cases hE:DZ ((before.length:Nat):Int) 0 with
 | true =>
   cases DZ v.1 0;exact λhS=>by obtain⟨rfl,rfl⟩:=MC hS;exact⟨k1,Nat.le_refl k1,hk,rfl,_,rfl⟩
   exact λhS=>jI DS k Ax v hk hS
 | false =>
   intro hS;have h0:before.length≠0:=λh=>ZE hE (by rw[h];rfl);obtain⟨x,hx,hS⟩:=I0 hS;dsimp only[cond];rw[NC (by omega)]
   have hg:Mq before (SA ((before.length:Nat):Int) 1)=some x:=by
     have:SA ((before.length:Nat):Int) 1=((before.length - 1:Nat):Int):=by
       rw[QI (by omega)];omega
     rw[this];unfold Mq;rw[if_pos (by omega),Int.toNat_natCast,hx]
   dsimp only;rw[hg,Option.bind_some];revert hS;cases Ti v.1 x.fr;cases Ti 64 ((before.length:Nat):Int);exact λhS=>jI DS k Ax v hk hS;exact λhS=>by obtain⟨rfl,rfl⟩:=MC hS;exact⟨k1,Nat.le_refl k1,hk,rfl,_,rfl⟩
   exact λhS=>by obtain⟨rfl,rfl⟩:=MC hS;exact⟨k1,Nat.le_refl k1,hk,rfl,_,rfl⟩
def jJ(R:Ac)(k0:Int):∀(q:Nat) (ps:List Pt) (c:Int) (k:Nat) (r:(List Pt×Int)⊕Dg) (l:List Tk),ps.length<=100000000->k<=ts.length->LM en q ps c (ts.drop k)=some (r,l) ->
   ∃k':Nat,k<=k'/\k'<=ts.length/\l=ts.drop k'/\∃n,GS (λx=>BD R ⟨ts,k0,en⟩ x.1 x.2.1 x.2.2) n (ps,c,(k:Int))=some (match r with | .inl x=>.inl (x.1,x.2,(k':Int)) | .inr d=>.inr (.inr d,(k':Int))):=by
 intro q
 induction q with
 | zero=>intro ps c k r l hp hk hS;cases hS
 | succ q ih =>
   intro ps c k r l hp hk hS;rcases IW hS with ⟨x,s',h3,h4⟩ | ⟨d,h3,rfl⟩
   obtain⟨k',a1,a2,rfl,a4⟩:=r5 DS ps hp c hk h3;obtain⟨hl,h4⟩:=NB h4;rcases La a2 h4 with ⟨h5,h6,h7⟩ | ⟨h5,h7⟩
   obtain⟨k2,b1,b2,b3,n,b4⟩:=ih (ps++[x.1]) x.2 (k'+1) r l (by simp only[List.length_append,List.length_singleton];omega) h6 h7;refine⟨k2,by omega,b2,b3,n+1,?_⟩
   have hL:BD R ⟨ts,k0,en⟩ ps c (k:Int)=some (.nx (ps++[x.1],x.2,((k'+1:Nat):Int))):=by
     unfold BD;dsimp only at a4 ⊢;rw[a4,Option.bind_some];dsimp only[Sum.elim];rw[GV hl,Gw a2,h5,Option.bind_some,En DS a2];rfl
   show(BD R ⟨ts,k0,en⟩ ps c (k:Int)).bind _=_;rw[hL];exact b4;obtain⟨rfl,rfl⟩:=K8 h7;refine⟨k',a1,a2,rfl,1,?_⟩
   have hL:BD R ⟨ts,k0,en⟩ ps c (k:Int)=some (.ex (ps++[x.1],x.2,(k':Int))):=by
     unfold BD;dsimp only at a4 ⊢;rw[a4,Option.bind_some];dsimp only[Sum.elim];rw[GV hl,Gw a2,h5,Option.bind_some];rfl
   show(BD R ⟨ts,k0,en⟩ ps c (k:Int)).bind _=_;rw[hL];rfl;obtain⟨k',a1,a2,a3,c',a4⟩:=r5 DS ps hp c hk h3;refine⟨k',a1,a2,a3,1,?_⟩
   have hL:BD R ⟨ts,k0,en⟩ ps c (k:Int)=some (.rt (.inr d,(k':Int))):=by
     unfold BD;dsimp only at a4 ⊢;rw[a4,Option.bind_some];rfl
   show(BD R ⟨ts,k0,en⟩ ps c (k:Int)).bind _=_;rw[hL];rfl
omit DS in
def kA(R:Ac)(c:Int)(t:Tk)(kz:Int):∀(ps:List Pt) (acc:List Pc) (i:Nat) (r:(List Pc)⊕Dg) (s l:List Tk),LS c t.AF ps acc s=some (r,l) ->
   l=s/\Dl (λi y x=>EI R c kz t i y x) (λx=>x) ps i acc=some (match r with | .inl x=>.inl x | .inr d=>.inr (.inr d,kz)):=by
 intro ps
 induction ps with
 | nil =>
   intro acc i r s l hS;obtain⟨rfl,rfl⟩:=K8 hS;exact⟨rfl,rfl⟩
 | cons x ps ih =>
   intro acc i r s l hS;unfold LS at hS;obtain⟨z,hz,hS⟩:=I0 hS;rw[Dl];unfold EI;rw[hz,Option.bind_some];revert hS;cases EQ 1000000 (BN x.num z);cases EQ (BN x.num z) (-1000000);intro hS;obtain⟨hl,hS⟩:=NB hS;obtain⟨rfl,h⟩:=ih _ (i+1) r s l hS;refine⟨rfl,?_⟩;dsimp only[cond];rw[GV hl,Option.bind_some];exact h;intro hS;obtain⟨rfl,rfl⟩:=MC hS;exact⟨rfl,rfl⟩;intro hS;obtain⟨rfl,rfl⟩:=MC hS;exact⟨rfl,rfl⟩
def agx{R:Ac}{g:Ek->Rd Nd}(hex:∀{k:Nat},k<=ts.length->∀{r l},g .ex (ts.drop k)=some (r,l)->I8 ts k (R.AM ⟨ts,k,en⟩) r l){k:Nat}(hk:k<=ts.length){r l}(hS:YC en g (ts.drop k)=some (r,l)) :
   I8 ts k (GH R ⟨ts,k,en⟩) r l:=by
 refine Bz (λh=>IB DS _ hk h) (λt k1 h VQ hS=>?_) (λ_ _=>rfl) hS;refine Bz (λh=>IB DS _ VQ h) (λ_ k2 h fB hS=>?_) (λ_ _=>rfl) hS;refine Bz (λh=>hex fB h) (λa k3 h hk3 hS=>?_) (λ_ _=>rfl) hS;refine Bz (λh=>IB DS _ hk3 h) (λ_ k4 h hk4 hS=>?_) (λ_ _=>rfl) hS;dsimp only[Sum.elim];rcases IW hS with ⟨x,s',h3,h4⟩ | ⟨d,h3,rfl⟩
 obtain⟨k',a1,a2,rfl,n,a4⟩:=jJ DS R (k:Int) _ [] 1 k4 _ _ (by simp) hk4 h3;rw[IY a4,Option.bind_some];refine K7 a1 ?_;dsimp only[P0];refine Bz (λh=>IB DS _ a2 h) (λe k5 h hk5 hS=>?_) (λ_ _=>rfl) h4;obtain⟨hl,hS⟩:=NB hS;dsimp only[Sum.elim];rw[List.drop_zero,show SS x.1.length=λy=>y from funext λy=>if_pos (by omega)];dsimp only;rcases IW hS with ⟨y,s2,h5,h6⟩ | ⟨d,h5,rfl⟩
 obtain⟨rfl,h⟩:=kA R x.2 e (k5:Int) x.1 [] 0 _ _ _ h5;rw[h];exact Eh hk5 rfl h6;obtain⟨rfl,h⟩:=kA R x.2 e (k5:Int) x.1 [] 0 _ _ _ h5;rw[h];exact⟨k5,Nat.le_refl _,hk5,rfl,rfl⟩;obtain⟨k',a1,a2,a3,n,a4⟩:=jJ DS R (k:Int) _ [] 1 k4 _ _ (by simp) hk4 h3;rw[IY a4,Option.bind_some];exact⟨k',a1,a2,a3,rfl⟩
def nY{R:Ac}{read:Rd Nd}(k0:Int)(Nv:∀{k:Nat},k<=ts.length->∀{r l},read (ts.drop k)=some (r,l)->I8 ts k (R.AM ⟨ts,k,en⟩) r l):∀(q:Nat) (ns:List Nd) (k:Nat) (r:(List Nd)⊕Dg) (l:List Tk),k<=ts.length->QR read q ns (ts.drop k)=some (r,l) ->
   ∃k':Nat,k<=k'/\k'<=ts.length/\l=ts.drop k'/\∃n,GS (λx=>Bi R ⟨ts,k0,en⟩ x.1 x.2) n (ns,(k:Int))=some (match r with | .inl x=>.inl (x,(k':Int)) | .inr d=>.inr (.inr d,(k':Int))):=by
 intro q
 induction q with
 | zero=>intro ns k r l hk hS;cases hS
 | succ q ih =>
   intro ns k r l hk hS;rcases La hk hS with ⟨h1,h2,hS⟩ | ⟨h1,hS⟩
   rcases IW hS with ⟨x,s',h3,h4⟩ | ⟨d,h3,rfl⟩
   obtain⟨k',a1,a2,rfl,a4⟩:=Nv h2 h3;obtain⟨hl,h4⟩:=NB h4;obtain⟨k2,b1,b2,b3,n,b4⟩:=ih (ns++[x]) k' r l a2 h4;refine⟨k2,by omega,b2,b3,n+1,?_⟩
   have hL:Bi R ⟨ts,k0,en⟩ ns (k:Int)=some (.nx (ns++[x],(k':Int))):=by
     unfold Bi;dsimp only;rw[Gw hk,h1,Option.bind_some,En DS hk];dsimp only[cond];rw[a4,Option.bind_some];dsimp only[Sum.elim];rw[GV hl]
   show(Bi R ⟨ts,k0,en⟩ ns (k:Int)).bind _=_;rw[hL];exact b4;obtain⟨k',a1,a2,a3,a4⟩:=Nv h2 h3;refine⟨k',by omega,a2,a3,1,?_⟩
   have hL:Bi R ⟨ts,k0,en⟩ ns (k:Int)=some (.rt (.inr d,(k':Int))):=by
     unfold Bi;dsimp only;rw[Gw hk,h1,Option.bind_some,En DS hk];dsimp only[cond];rw[a4,Option.bind_some];rfl
   show(Bi R ⟨ts,k0,en⟩ ns (k:Int)).bind _=_;rw[hL];rfl;obtain⟨rfl,rfl⟩:=K8 hS;refine⟨k,Nat.le_refl k,hk,rfl,1,?_⟩
   have hL:Bi R ⟨ts,k0,en⟩ ns (k:Int)=some (.ex (ns,(k:Int))):=by
     unfold Bi;dsimp only;rw[Gw hk,h1,Option.bind_some];rfl
   show(Bi R ⟨ts,k0,en⟩ ns (k:Int)).bind _=_;rw[hL];rfl
def afc{R:Ac}{read:Rd Nd}(Nv:∀{k:Nat},k<=ts.length->∀{r l},read (ts.drop k)=some (r,l)->I8 ts k (R.AM ⟨ts,k,en⟩) r l){k:Nat}(hk:k<=ts.length){r l}(hS:RE read (ts.drop k)=some (r,l)):I8 ts k (E3 R ⟨ts,k,en⟩) r l:=by
 refine Bz (λh=>Nv hk h) (λx k1 h VQ hS=>?_) (λ_ _=>rfl) hS;dsimp only[Sum.elim];rcases La VQ hS with ⟨h1,h2,hS⟩ | ⟨h1,hS⟩
 rw[Gw VQ,h1,Option.bind_some,En DS VQ];refine K7 (Nat.le_succ k1) ?_;refine Bz (λh=>Nv h2 h) (λy k2 h fB hS=>?_) (λ_ _=>rfl) hS;obtain⟨hl,hS⟩:=NB hS;dsimp only[Sum.elim];rw[GV hl];obtain⟨k',a1,a2,a3,n,a4⟩:=nY DS (k:Int) Nv _ _ k2 _ _ fB hS;rw[IY a4,Option.bind_some];refine⟨k',a1,a2,a3,?_⟩;cases r<;>rfl
 rw[Gw VQ,h1,Option.bind_some];exact Eh VQ rfl hS
def nZ{read:Rd Nd}(k0:Int)(Nv:∀{k:Nat},k<=ts.length->∀{r l},read (ts.drop k)=some (r,l)->I8 ts k (AN ⟨ts,k,en⟩) r l):∀(q:Nat) (ns:List Nd) (k:Nat) (r:(List Nd)⊕Dg) (l:List Tk),k<=ts.length->QR read q ns (ts.drop k)=some (r,l) ->
   ∃k':Nat,k<=k'/\k'<=ts.length/\l=ts.drop k'/\∃n,GS (λx=>AO ⟨ts,k0,en⟩ x.1 x.2) n (ns,(k:Int))=some (match r with | .inl x=>.inl (x,(k':Int)) | .inr d=>.inr (.inr d,(k':Int))):=by
 intro q
 induction q with
 | zero=>intro ns k r l hk hS;cases hS
 | succ q ih =>
   intro ns k r l hk hS;rcases La hk hS with ⟨h1,h2,hS⟩ | ⟨h1,hS⟩
   rcases IW hS with ⟨x,s',h3,h4⟩ | ⟨d,h3,rfl⟩
   obtain⟨k',a1,a2,rfl,a4⟩:=Nv h2 h3;obtain⟨hl,h4⟩:=NB h4;obtain⟨k2,b1,b2,b3,n,b4⟩:=ih (ns++[x]) k' r l a2 h4;refine⟨k2,by omega,b2,b3,n+1,?_⟩
   have hL:AO ⟨ts,k0,en⟩ ns (k:Int)=some (.nx (ns++[x],(k':Int))):=by
     unfold AO;dsimp only;rw[Gw hk,h1,Option.bind_some,En DS hk];dsimp only[cond];rw[a4,Option.bind_some];dsimp only[Sum.elim];rw[GV hl]
   show(AO ⟨ts,k0,en⟩ ns (k:Int)).bind _=_;rw[hL];exact b4;obtain⟨k',a1,a2,a3,a4⟩:=Nv h2 h3;refine⟨k',by omega,a2,a3,1,?_⟩
   have hL:AO ⟨ts,k0,en⟩ ns (k:Int)=some (.rt (.inr d,(k':Int))):=by
     unfold AO;dsimp only;rw[Gw hk,h1,Option.bind_some,En DS hk];dsimp only[cond];rw[a4,Option.bind_some];rfl
   show(AO ⟨ts,k0,en⟩ ns (k:Int)).bind _=_;rw[hL];rfl;obtain⟨rfl,rfl⟩:=K8 hS;refine⟨k,Nat.le_refl k,hk,rfl,1,?_⟩
   have hL:AO ⟨ts,k0,en⟩ ns (k:Int)=some (.ex (ns,(k:Int))):=by
     unfold AO;dsimp only;rw[Gw hk,h1,Option.bind_some];rfl
   show(AO ⟨ts,k0,en⟩ ns (k:Int)).bind _=_;rw[hL];rfl
def afd{read:Rd Nd}(Nv:∀{k:Nat},k<=ts.length->∀{r l},read (ts.drop k)=some (r,l)->I8 ts k (AN ⟨ts,k,en⟩) r l){k:Nat}(hk:k<=ts.length){r l}(hS:RE read (ts.drop k)=some (r,l)):I8 ts k (DF ⟨ts,k,en⟩) r l:=by
 refine Bz (λh=>Nv hk h) (λx k1 h VQ hS=>?_) (λ_ _=>rfl) hS;dsimp only[Sum.elim];rcases La VQ hS with ⟨h1,h2,hS⟩ | ⟨h1,hS⟩
 rw[Gw VQ,h1,Option.bind_some,En DS VQ];refine K7 (Nat.le_succ k1) ?_;refine Bz (λh=>Nv h2 h) (λy k2 h fB hS=>?_) (λ_ _=>rfl) hS;obtain⟨hl,hS⟩:=NB hS;dsimp only[Sum.elim];rw[GV hl];obtain⟨k',a1,a2,a3,n,a4⟩:=nZ DS (k:Int) Nv _ _ k2 _ _ fB hS;rw[IY a4,Option.bind_some];refine⟨k',a1,a2,a3,?_⟩;cases r<;>rfl
 rw[Gw VQ,h1,Option.bind_some];exact Eh VQ rfl hS
end
end Mo
end Go.Proofs.YtpbkhogolfegfaaGreatDoor
namespace Go.Proofs.YtpbkhogolfegfaaGreatDoor
open AI Go
namespace Mo
set_option maxRecDepth 100000
section
variable {ts:List Tk} (DS:ts.length<=1000000) {en:Int} {R:Ac} {g:Ek->Rd Nd} {li:Rd (List Nd)} (A:Agr R ts en g li)
include DS A
def aiE{k:Nat}(hk:k<=ts.length){r l}(hS:gG en g (ts.drop k)=some (r,l)):I8 ts k (FR R ⟨ts,k,en⟩) r l:=by
 refine Bz (λh=>A.l4 hk h) (λN k h hk hS=>?_) (λ_ _=>rfl) hS;dsimp only[Sum.elim]
 have fin:∀{y:(Nd⊕Dg)×Int} (k0:Int),BU R ⟨ts,k0,en⟩ (k:Int) N=some (.rt y)->(Qb (λ_:Unit=>BU R ⟨ts,k0,en⟩ (k:Int) N) ()).bind (P0 (λ(_:Unit)=>none) (λv=>some v))=some y:=by
   intro y k0 hL
   have:GS (λ_:Unit=>BU R ⟨ts,k0,en⟩ (k:Int) N) 1 ()=some (.inr y):=by
     show(BU R ⟨ts,k0,en⟩ (k:Int) N).bind _=_;rw[hL];rfl
   rw[IY this];rfl
 rcases afq (en:=en) hk hS with ⟨x,h1,h2,hS⟩ | ⟨h2,hS⟩
 obtain⟨k',a1,a2,rfl,⟨n,b,hX,hb,rfl⟩ | ⟨d,hX,rfl⟩⟩:=M6 DS h1 (λh=>A.l4 h1 h) hS;refine⟨k',by omega,a2,rfl,fin _ ?_⟩;unfold BU;dsimp only;rw[h2];dsimp only[Option.bind,cond];rw[En DS hk];cases hE:BZ x.data.toList Fa.data.toList <;>
 rw[hE] at hX;dsimp only[cond] at hX;dsimp only;rw[hX];dsimp only[Sum.elim];rw[hb];refine⟨k',by omega,a2,rfl,fin _ ?_⟩;unfold BU;dsimp only;rw[h2];dsimp only[Option.bind,cond];rw[En DS hk];cases hE:BZ x.data.toList Fa.data.toList <;>
 rw[hE] at hX;dsimp only[cond] at hX;dsimp only;rw[hX];rfl;obtain⟨rfl,rfl⟩:=K8 hS;refine⟨k,Nat.le_refl k,hk,rfl,fin _ ?_⟩;unfold BU;dsimp only;rw[h2];rfl
def al7{k:Nat}(hk:k<=ts.length){r l}(hS:Ye en g (ts.drop k)=some (r,l)):I8 ts k (Et R ⟨ts,k,en⟩) r l:=by
 unfold Ye at hS;unfold Et;rw[Gw hk,Option.bind_some];cases hx:I6 Us (ts.drop k) with
 | true =>
   rw[hx] at hS;refine Bz (λh=>IB DS _ hk h) (λt k h hk hS=>?_) (λ_ _=>rfl) hS;refine Bz (λh=>A.l2 hk h) (λN k h hk hS=>?_) (λ_ _=>rfl) hS;exact Eh hk rfl hS
 | false =>
   rw[hx] at hS;obtain⟨k',a1,a2,a3,a4⟩:=A.l3 hk hS;refine⟨k',a1,a2,a3,?_⟩;dsimp only[cond];rw[a4,Option.bind_some];cases r with
   | inr d=>rfl
   | inl N =>
     dsimp only[Sum.elim]
     have hL:GS (λx:Int×ByteArray×ByteArray×Int×Int×Int×Int×Int×List Pc×List Nd×Int×Int=>CT R ⟨ts,k,en⟩ x.1 x.2.1 x.2.2.1 x.2.2.2.1 x.2.2.2.2.1 x.2.2.2.2.2.1 x.2.2.2.2.2.2.1 x.2.2.2.2.2.2.2.1 x.2.2.2.2.2.2.2.2.1 x.2.2.2.2.2.2.2.2.2.1 x.2.2.2.2.2.2.2.2.2.2.1 x.2.2.2.2.2.2.2.2.2.2.2) 1 (N.kind,N.name,N.unit,N.n,N.fr,N.to,N.known,N.CN.den,N.CN.ps,N.kids,N.AF,(k':Int))=some (.inr (.inl N,(k':Int))):=by
       have:CT R ⟨ts,k,en⟩ N.kind N.name N.unit N.n N.fr N.to N.known N.CN.den N.CN.ps N.kids N.AF (k':Int)=some (.rt (.inl N,(k':Int))):=by
         unfold CT EG;dsimp only[Option.bind,cond];rw[Qj]
       show(CT R ⟨ts,k,en⟩ N.kind N.name N.unit N.n N.fr N.to N.known N.CN.den N.CN.ps N.kids N.AF (k':Int)).bind _=_;rw[this];rfl
     rw[IY hL];rfl
omit DS A in
def Qp{F:Option ((Nd⊕Dg)×Int)}{k:Nat}{r l}(h:I8 ts k F r l):I8 ts k (F.bind λ(Ei,Bh)=>Sum.elim (λ(Aw:Nd)=>some ((Sum.inl Aw:(Nd⊕Dg)),Bh)) (λ(CQ:Dg)=>some ((Sum.inr CQ:(Nd⊕Dg)),Bh)) Ei) r l:=by
 obtain⟨k',a1,a2,a3,a4⟩:=h;refine⟨k',a1,a2,a3,?_⟩;rw[a4,Option.bind_some];cases r<;>rfl
def aiD{k:Nat}(hk:k<=ts.length){r l}(hS:Xs en g li (ts.drop k)=some (r,l)):I8 ts k (GZ R ⟨ts,k,en⟩) r l:=by
 refine Vw hk (λt h1 h2 hS=>?_) (λ_=>rfl) hS;have hS:=Zk h2 hS;dsimp only[Sum.elim];rw[En DS hk];refine K7 (Nat.le_succ k) ?_;refine Bz (λh=>IB DS _ h1 h) (λ_ k h hk hS=>?_) (λ_ _=>rfl) hS;refine Bz (λh=>A.ex hk h) (λa k h hk hS=>?_) (λ_ _=>rfl) hS;dsimp only[Sum.elim];rw[GV (by omega)];refine Bz (λh=>IB DS _ hk h) (λ_ k h hk hS=>?_) (λ_ _=>rfl) hS;refine Bz (λh=>A.li hk h) (λns k h hk hS=>?_) (λ_ _=>rfl) hS;obtain⟨hl,hS⟩:=NB hS;dsimp only[Sum.elim];rw[GV (by simpa using hl)]
 cases hE:DZ ((ns.length:Nat):Int) 0 with
 | true =>
   have:ns=[]:=List.eq_nil_of_length_eq_zero (by have:=Fw hE;omega);subst this;refine Bz (λh=>IB DS _ hk h) (λ_ k h hk hS=>?_) (λ_ _=>rfl) hS;exact Eh hk rfl hS
 | false =>
   refine Bz (λh=>IB DS _ hk h) (λ_ k h hk hS=>?_) (λ_ _=>rfl) hS;exact Eh hk rfl hS
def akQ(t:Tk){k:Nat}(hk:k<=ts.length){r l}(hS:QX en g t (ts.drop k)=some (r,l)):I8 ts k (FA R ⟨ts,k,en⟩ t) r l:=by
 have one:∀{X:Nd} {r l},U1 (FE X) (ts.drop k)=some (r,l)->I8 ts k (some (.inl X,BS (k:Int) 1)) r l:=by
   intro X r l h;obtain⟨h1,h2⟩:=abQ hk h;rw[En DS hk];exact K7 (Nat.le_succ k) (Eh h1 rfl h2)
 revert hS;unfold QX FA;cases BZ t.text.data.toList YH.data.toList;rotate_left;exact one;cases BZ t.text.data.toList Tb.data.toList;rotate_left;exact one;cases BZ t.text.data.toList bN.data.toList;rotate_left;intro hS;obtain⟨h1,hS⟩:=abQ hk hS;dsimp only[cond];rw[En DS hk];refine K7 (Nat.le_succ k) ?_;refine Bz (λh=>OC DS _ h1 h) (λa k h hk hS=>?_) (λ_ _=>rfl) hS;exact Eh hk rfl hS;cases BZ t.text.data.toList Ld.data.toList;rotate_left;exact one;cases BZ t.text.data.toList bY.data.toList;rotate_left;exact one;cases BZ t.text.data.toList Qi.data.toList;rotate_left;exact one;cases BZ t.text.data.toList U0.data.toList;rotate_left;exact one;cases BZ t.text.data.toList Kn.data.toList;rotate_left;exact λhS=>Qp (A.ca hk hS);cases BZ t.text.data.toList FF.data.toList;rotate_left;exact λhS=>Qp (A.ca hk hS);cases BZ t.text.data.toList QB.data.toList;rotate_left;exact λhS=>Qp (A.ta hk hS);cases BZ t.text.data.toList dI.data.toList;rotate_left;intro hS;obtain⟨h1,hS⟩:=abQ hk hS;dsimp only[cond];rw[En DS hk];refine K7 (Nat.le_succ k) ?_;refine Bz (λh=>A.ex h1 h) (λa k h hk hS=>?_) (λ_ _=>rfl) hS;refine Bz (λh=>IB DS _ hk h) (λ_ k h hk hS=>?_) (λ_ _=>rfl) hS;exact Eh hk rfl hS;exact λhS=>Eh hk rfl hS
def aiA{k:Nat}(hk:k<=ts.length){r l}(hS:Xn en g (ts.drop k)=some (r,l)):I8 ts k (GY R ⟨ts,k,en⟩) r l:=by
 refine Vw hk (λt h1 h2 hS=>?_) (λ_=>rfl) hS;revert hS;dsimp only[Sum.elim];cases DZ t.kind 3;rotate_left;intro hS;refine Bz (λh=>jB DS hk h) (λn k h hk hS=>?_) (λ_ _=>rfl) hS;refine sH hk (λVQ hS=>?_) (λhS=>?_) hS;refine Eh VQ (En DS hk) hS;exact Eh hk rfl hS;cases DZ t.kind 2;rotate_left;intro hS;have hS:=Zk h2 hS;dsimp only[cond];rw[En DS hk];refine K7 (Nat.le_succ k) ?_;refine Bz (λh=>QC DS DU h1 h) (λa k h hk hS=>?_) (λ_ _=>rfl) hS;obtain⟨c,hc,hS⟩:=I0 hS;dsimp only[Sum.elim];rw[hc];exact Eh hk rfl hS;intro hS;obtain⟨b,hb,hS⟩:=I0 hS;dsimp only[cond];rw[hb,Option.bind_some];cases b;exact Qp (A.wd t hk hS);have hS:=Zk h2 hS;dsimp only;rw[En DS hk];exact K7 (Nat.le_succ k) (Eh h1 rfl hS)
end
def ad8{ts:List Tk}(DS:ts.length<=1000000)(en:Int):∀q:Nat,Agr (Ai q) ts en (gP en q).1 (gP en q).2:=by
 intro q
 induction q with
 | zero=>constructor<;>intros<;>rename_i h<;>cases h
 | succ q A =>
   constructor
   case ex=>intro k hk r l h;simp only[Ai,Ba];exact Qp (A.l0 hk h)
   case l0=>intro k hk r l h;simp only[Ai,AZ];exact abq DS (λhk _ _ h=>A.l1 hk h) hk h
   case l1=>intro k hk r l h;simp only[Ai,A0];exact abr DS (λhk _ _ h=>A.l2 hk h) hk h
   case l2=>intro k hk r l h;simp only[Ai,A1];exact al7 DS A hk h
   case l3=>intro k hk r l h;simp only[Ai,A2];exact aiE DS A hk h
   case l4=>intro k hk r l h;simp only[Ai,A3];exact abt DS (λhk _ _ h=>A.l5 hk h) hk h
   case l5=>intro k hk r l h;simp only[Ai,A4];exact abu DS (λhk _ _ h=>A.l6 hk h) hk h
   case l6=>intro k hk r l h;simp only[Ai,A5];exact Qp (A.at_ hk h)
   case at_=>intro k hk r l h;simp only[Ai,Bl];exact aiA DS A hk h
   case wd=>intro t k hk r l h;simp only[Ai,Bo];exact akQ DS A t hk h
   case ca=>intro k hk r l h;simp only[Ai,Bm];exact aiD DS A hk h
   case ta=>intro k hk r l h;simp only[Ai,Bg];exact agx DS (λhk _ _ h=>A.ex hk h) hk h
   case li=>intro k hk r l h;simp only[Ai,AT];exact afc DS (λhk _ _ h=>A.ex hk h) hk h
end Mo
end Go.Proofs.YtpbkhogolfegfaaGreatDoor
namespace Go.Proofs.YtpbkhogolfegfaaGreatDoor
open AI Go
namespace Mo
set_option maxRecDepth 100000
section
variable (S:Int->Int->Prop) (en en':Int) (w:List Tk)
def TR(t t':Tk):Prop:=t.kind=t'.kind/\t.text=t'.text/\S t.AF t'.AF
inductive F2:List Tk->List Tk->Prop
 | nil:F2 [] []
 | cons {t t':Tk} {l l':List Tk}:TR S t t'->F2 l l'->F2 (t::l) (t'::l')
mutual
inductive NR:Nd->Nd->Prop
 | mk {k:Int} {nm u:ByteArray} {n f t kn:Int} {tb:Fn} {ks ks':List Nd} {a a':Int}:xI ks ks'->S a a'->NR ⟨k,nm,u,n,f,t,kn,tb,ks,a⟩ ⟨k,nm,u,n,f,t,kn,tb,ks',a'⟩
inductive xI:List Nd->List Nd->Prop
 | nil:xI [] []
 | cons {n n':Nd} {l l':List Nd}:NR n n'->xI l l'->xI (n::l) (n'::l')
end
def DR(d d':Dg):Prop:=d.err=d'.err/\(S d.AF d'.AF\/d=⟨72,en⟩/\d'=⟨72,en'⟩)
inductive RR{α:Type}(Q:α->α->Prop):α⊕Dg->α⊕Dg->Prop
 | l {a a':α}:Q a a'->RR Q (.inl a) (.inl a')
 | r {d d':Dg}:DR S en en' d d'->RR Q (.inr d) (.inr d')
def Ends{α:Type}(b:Bool)(r:α⊕Dg)(s:List Tk):Prop:=s=[]/\(r=.inr ⟨72,en⟩\/b=false/\∃a,r=.inl a)
def RP{α:Type}(b:Bool)(Q:α->α->Prop)(m m':Rd α):Prop:=∀⦃l l1 s s':List Tk⦄ ⦃r r':α⊕Dg⦄,F2 S l l1->m l=some (r,s)->m' (l1++w)=some (r',s') ->
 (∃s1,s'=s1++w/\F2 S s s1/\RR S en en' Q r r')\/w≠[]/\Ends en b r s
def EO{α:Type}(b:Bool)(m:Rd α):Prop:=∀⦃r:α⊕Dg⦄ ⦃s:List Tk⦄,m []=some (r,s)->Ends en b r s
end
section
variable {S:Int->Int->Prop} {en en':Int} {w:List Tk} {α β:Type} {b:Bool} {Q:α->α->Prop} {Q2:β->β->Prop}
def Ends.YR{r:α⊕Dg}{s:List Tk}(h:Ends en true r s):Ends en b r s:=by
 refine⟨h.1,?_⟩;rcases h.2 with h | ⟨h,_⟩
 exact .inl h;cases h
def RP.YR{m m':Rd α}(h:RP S en en' w true Q m m'):RP S en en' w b Q m m':=λ_ _ _ _ _ _ f h1 h2=>(h f h1 h2).imp id λh=>⟨h.1,h.2.YR⟩
def EO.YR{m:Rd α}(h:EO en true m):EO en b m:=λ_ _ h1=>(h h1).YR
def Fl{a a':α}(h:Q a a'):RP S en en' w b Q (FE a) (FE a'):=by
 intro l l1 s s' r r' f h1 h2;obtain⟨rfl,rfl⟩:=K8 h1;obtain⟨rfl,rfl⟩:=K8 h2;exact .inl ⟨l1,rfl,f,.l h⟩
def NV{e p p':Int}(h:S p p'):RP S en en' w b Q (Mg e p) (Mg e p'):=by
 intro l l1 s s' r r' f h1 h2;obtain⟨rfl,rfl⟩:=MC h1;obtain⟨rfl,rfl⟩:=MC h2;exact .inl ⟨l1,rfl,f,.r ⟨rfl,.inl h⟩⟩
def Kg{m m':Rd α}{K K':α->Rd β}(h1:RP S en en' w false Q m m')(h2:∀a a',Q a a'->RP S en en' w b Q2 (K a) (K' a'))(h3:∀a,EO en b (K a)):RP S en en' w b Q2 (Ct m K) (Ct m' K'):=by
 intro l l1 s s' r r' f e1 e2;rcases IW e1 with ⟨a,t,e3,e4⟩ | ⟨d,e3,rfl⟩
 rcases IW e2 with ⟨a',t',e5,e6⟩ | ⟨d',e5,rfl⟩
 rcases h1 f e3 e5 with ⟨s1,rfl,f1,q⟩ | ⟨hw,rfl,_⟩
 cases q with
 | l q=>exact h2 _ _ q f1 e4 e6
 exact .inr ⟨hw,h3 a e4⟩;rcases h1 f e3 e5 with ⟨s1,rfl,f1,q⟩ | ⟨hw,rfl,_⟩
 cases q;exact .inr ⟨hw,h3 a e4⟩;rcases IW e2 with ⟨a',t',e5,e6⟩ | ⟨d',e5,rfl⟩
 rcases h1 f e3 e5 with ⟨s1,rfl,f1,q⟩ | ⟨hw,rfl,hq⟩
 cases q;rcases hq with hq | ⟨_,a,hq⟩
 cases hq;exact .inr ⟨hw,rfl,.inl rfl⟩;cases hq;rcases h1 f e3 e5 with ⟨s1,rfl,f1,q⟩ | ⟨hw,rfl,hq⟩
 cases q with
 | r q=>exact .inl ⟨s1,rfl,f1,.r q⟩
 rcases hq with hq | ⟨_,a,hq⟩
 cases hq;exact .inr ⟨hw,rfl,.inl rfl⟩;cases hq
def Fk{m m':Rd α}{K K':α->Rd β}(h1:RP S en en' w true Q m m')(h2:∀a a',Q a a'->RP S en en' w b Q2 (K a) (K' a')):RP S en en' w b Q2 (Ct m K) (Ct m' K'):=by
 intro l l1 s s' r r' f e1 e2
 have no:∀{a:α} {t:List Tk},m l=some (.inl a,t)->¬Ends en true (Sum.inl a:α⊕Dg) t:=by
   rintro a t _ ⟨_,h | ⟨h,_⟩⟩<;>cases h
 rcases IW e1 with ⟨a,t,e3,e4⟩ | ⟨d,e3,rfl⟩
 rcases IW e2 with ⟨a',t',e5,e6⟩ | ⟨d',e5,rfl⟩
 rcases h1 f e3 e5 with ⟨s1,rfl,f1,q⟩ | ⟨hw,h⟩
 cases q with
 | l q=>exact h2 _ _ q f1 e4 e6
 exact absurd h (no e3);rcases h1 f e3 e5 with ⟨s1,rfl,f1,q⟩ | ⟨hw,h⟩
 cases q;exact absurd h (no e3);rcases IW e2 with ⟨a',t',e5,e6⟩ | ⟨d',e5,rfl⟩
 rcases h1 f e3 e5 with ⟨s1,rfl,f1,q⟩ | ⟨hw,rfl,hq⟩
 cases q;rcases hq with hq | ⟨hq,_⟩
 cases hq;exact .inr ⟨hw,rfl,.inl rfl⟩;cases hq;rcases h1 f e3 e5 with ⟨s1,rfl,f1,q⟩ | ⟨hw,rfl,hq⟩
 cases q with
 | r q=>exact .inl ⟨s1,rfl,f1,.r q⟩
 rcases hq with hq | ⟨hq,_⟩
 cases hq;exact .inr ⟨hw,rfl,.inl rfl⟩;cases hq
def Qt{X:Option β}{K K':β->Rd α}(h:∀a,X=some a->RP S en en' w b Q (K a) (K' a)):RP S en en' w b Q (Lj X K) (Lj X K'):=by
 intro l l1 s s' r r' f e1 e2;obtain⟨a,ha,e1⟩:=I0 e1;obtain⟨a',xM,e2⟩:=I0 e2;rw[ha] at xM;cases xM;exact h a ha f e1 e2
def aca{K K':Tk->Rd α}(h:∀t t',TR S t t'->RP S en en' w b Q (K t) (K' t')):RP S en en' w b Q (Ux en K) (Ux en' K'):=by
 intro l l1 s s' r r' f e1 e2;cases f with
 | nil =>
   simp only[Ux,Option.some.injEq,Prod.mk.injEq] at e1;obtain⟨rfl,rfl⟩:=e1;by_cases hw:w=[];subst hw;simp only[Ux,List.append_nil,Option.some.injEq,Prod.mk.injEq] at e2;obtain⟨rfl,rfl⟩:=e2;exact .inl ⟨[],rfl,.nil,.r ⟨rfl,.inr ⟨rfl,rfl⟩⟩⟩;exact .inr ⟨hw,rfl,.inl rfl⟩
 | cons ht f=>exact h _ _ ht (.cons ht f) e1 e2
def Uz{K K':Rd α}(h:RP S en en' w b Q K K'):RP S en en' w b Q (U1 K) (U1 K'):=by
 intro l l1 s s' r r' f e1 e2;cases f with
 | nil=>cases e1
 | cons ht f=>exact h f e1 e2
def Yq{x:ByteArray}{A A' B B':Rd α}(h1:RP S en en' w b Q A A')(h2:RP S en en' w b Q B B')(h3:EO en b B):RP S en en' w b Q (NU x A B) (NU x A' B'):=by
 intro l l1 s s' r r' f e1 e2;cases f with
 | nil =>
   by_cases hw:w=[];subst hw;exact h2 .nil e1 e2;exact .inr ⟨hw,h3 e1⟩
 | cons ht f =>
   rename_i t t' l l';unfold NU at e1 e2
   have:I6 x (t::l)=I6 x (t'::l'++w):=by
     show BZ t.text.data.toList _=BZ t'.text.data.toList _;rw[ht.2.1]
   rw[<- this] at e2;cases hx:I6 x (t::l) with
   | true=>rw[hx] at e1 e2;exact h1 f e1 e2
   | false=>rw[hx] at e1 e2;exact h2 (.cons ht f) e1 e2
def Yp{n n':Nat}{m m':Rd α}(h:RP S en en' w b Q m m'):RP S en en' w b Q (Oe n m) (Oe n' m'):=by
 intro l l1 s s' r r' f e1 e2;exact h f (NB e1).2 (NB e2).2
def DG{c:Bool}{A A' B B':Rd α}(h1:c=true->RP S en en' w b Q A A')(h2:c=false->RP S en en' w b Q B B'):RP S en en' w b Q (cond c A B) (cond c A' B'):=by
 cases c;exact h2 rfl;exact h1 rfl
def ab8{K K':Nat->Rd α}(h:∀n n',RP S en en' w b Q (K n) (K' n')):RP S en en' w b Q (λs=>K (s.length+1) s) (λs=>K' (s.length+1) s):=by
 intro l l1 s s' r r' f e1 e2;exact h _ _ f e1 e2
def qA{K:Tk->Rd α}:EO en b (Ux en K):=by
 intro r s h;simp only[Ux,Option.some.injEq,Prod.mk.injEq] at h;obtain⟨rfl,rfl⟩:=h;exact⟨rfl,.inl rfl⟩
def OS{a:α}:EO en false (FE a):=by
 intro r s h;obtain⟨rfl,rfl⟩:=K8 h;exact⟨rfl,.inr ⟨rfl,a,rfl⟩⟩
def Nr{m:Rd α}{K:α->Rd β}(h:EO en true m):EO en b (Ct m K):=by
 intro r s e1;rcases IW e1 with ⟨a,t,e3,e4⟩ | ⟨d,e3,rfl⟩
 obtain⟨_,h | ⟨h,_⟩⟩:=h e3<;>cases h
 obtain⟨h1,h | ⟨h,_⟩⟩:=h e3;cases h;exact⟨h1,.inl rfl⟩;cases h
def aiG{X:Option β}{K:β->Rd α}(h:∀a,EO en b (K a)):EO en b (Lj X K):=by
 intro r s e1;obtain⟨a,_,e1⟩:=I0 e1;exact h a e1
def mT{x:ByteArray}{A B:Rd α}(h:EO en b B):EO en b (NU x A B):=λ_ _ e1=>h e1
def aah{n:Nat}{m:Rd α}(h:EO en b m):EO en b (Oe n m):=λ_ _ e1=>h (NB e1).2
end
end Mo
end Go.Proofs.YtpbkhogolfegfaaGreatDoor
namespace Go.Proofs.YtpbkhogolfegfaaGreatDoor
open AI Go
namespace Mo
set_option maxRecDepth 100000
section
variable {S:Int->Int->Prop} {en en':Int} {w:List Tk} {α β:Type} {b:Bool} {Q:α->α->Prop}
def s6{f:Tk->Option Bool}(hf:∀k t a a',f ⟨k,t,a⟩=f ⟨k,t,a'⟩){t t':Tk}(h:TR S t t'):f t=f t':=by
 obtain⟨k,x,a⟩:=t;obtain⟨k',x',a'⟩:=t';obtain⟨h1,h2,_⟩:=h;dsimp only at h1 h2;subst h1 h2;exact hf _ _ _ _
def afW{X X':Option β}{K K':β->Rd α}(h:∀a a',X=some a->X'=some a'->RP S en en' w b Q (K a) (K' a')):RP S en en' w b Q (Lj X K) (Lj X' K'):=by
 intro l l1 s s' r r' f e1 e2;obtain⟨a,ha,e1⟩:=I0 e1;obtain⟨a',xM,e2⟩:=I0 e2;exact h a a' ha xM f e1 e2
def UB{f:Tk->Option Bool}(hf:∀k t a a',f ⟨k,t,a⟩=f ⟨k,t,a'⟩):RP S en en' w b (TR S) (Lc en f) (Lc en' f):=by
 refine aca λt t' ht=>?_;rw[s6 hf ht];exact Qt λc _=>DG (λ_=>Uz (Fl ht)) λ_=>NV ht.2.2
def aeq{f:Tk->Option Bool}:EO en b (Lc en f):=qA
def NW(x:ByteArray):RP S en en' w b (TR S) (Jl en x) (Jl en' x):=UB λ_ _ _ _=>rfl
def U8{x:ByteArray}:EO en b (Jl en x):=qA
def QA(S:Int->Int->Prop)(p p':Int×Int):Prop:=p.1=p'.1/\S p.2 p'.2
def aB:RP S en en' w b (QA S) (MU en) (MU en'):=by
 refine Fk (UB λ_ _ _ _=>rfl) λt t' h=>?_;rw[h.2.1];exact Qt λn _=>Fl ⟨rfl,h.2.2⟩
def UA(least:Int):RP S en en' w b (QA S) (LC en least) (LC en' least):=by
 refine Fk aB λp p' h=>?_;rw[h.1];exact DG (λ_=>NV h.2) λ_=>DG (λ_=>NV h.2) λ_=>Fl h
def Jq{kind n:Int}{name unit:ByteArray}{ks ks':List Nd}{p p':Int}(h:xI S ks ks')(hp:S p p'):NR S (EV kind name unit n ks p) (EV kind name unit n ks' p'):=.mk h hp
def afl{l l' m m':List Nd}(h:xI S l l')(h2:xI S m m'):xI S (l++m) (l'++m'):=by
 induction l generalizing l' with
 | nil=>cases h;exact h2
 | cons x l ih=>cases h with | cons a t=>exact .cons a (ih t)
def Zn:RP S en en' w b (NR S) (Ge en) (Ge en'):=by
 refine Fk (UA _) λp p' h=>?_;rw[h.1];exact Fl (Jq .nil h.2)
def p6{read:Rd Nd}(q:Nat)(l:List Nd):EO en false (QR read q l):=by
 cases q with
 | zero=>intro r s h;cases h
 | succ q=>exact mT OS
def afY{read jT:Rd Nd}(h:RP S en en' w false (NR S) read jT):∀(q q':Nat) (l l':List Nd),xI S l l'->RP S en en' w false (xI S) (QR read q l) (QR jT q' l'):=by
 intro q
 induction q with
 | zero=>intro q' l l' _ _ _ _ _ _ _ _ e1;cases e1
 | succ q ih =>
   intro q' l l' hl;cases q' with
   | zero=>intro _ _ _ _ _ _ _ _ e2;cases e2
   | succ q'=>exact Yq (Kg h (λn n' hn=>Yp (ih q' _ _ (afl hl (.cons hn .nil)))) λn=>aah (p6 q _)) (Fl hl) OS
def aep{read:Rd Nd}(h:EO en true read):EO en b (RE read):=Nr h
def afX{read jT:Rd Nd}(h:RP S en en' w false (NR S) read jT):RP S en en' w false (xI S) (RE read) (RE jT) :=
 Kg h (λn n' hn=>ab8 λq q'=>afY h q q' _ _ (.cons hn .nil)) λn _ _ h=>p6 1 [n] h
def Yr:RP S en en' w b (QA S) (N4 en) (N4 en'):=by
 refine Fk (UB λ_ _ _ _=>rfl) λt t' h=>?_;have:Cp t=Cp t':=by unfold Cp;rw[h.2.1]
 rw[this,h.1];exact Qt λc _=>DG (λ_=>DG (λ_=>Fl ⟨rfl,h.2.2⟩) λ_=>NV h.2.2) λ_=>Fl ⟨rfl,h.2.2⟩
def aai:EO en b (N4 en):=Nr aeq
def afZ:RP S en en' w b (·=·) (V9 en) (V9 en'):=by
 refine Fk (UB λ_ _ _ _=>rfl) λt t' h=>?_;rw[h.2.1];exact DG (λ_=>Fl rfl) λ_=>Fl rfl
def aD(Ax from_ a:Int):RP S en en' w b (·=·) (OB en Ax from_ a) (OB en' Ax from_ a):=by
 refine Fk afZ λs s' hs=>Fk (UA _) λm m' hm=>Fk (NW _) λ_ _ _=>Fk (UA _) λd d' hd=>?_;subst hs;rw[hm.1,hd.1];exact Qt λg _=>Qt λz _=>DG (λ_=>NV hd.2) λ_=>Fl rfl
def aC(Ax from_:Int):RP S en en' w b (·=·) (MZ en Ax from_) (MZ en' Ax from_):=by
 refine Fk (NW _) λ_ _ _=>Yq (Fk Yr λa a' ha=>?_) (Fk Yr λa a' ha=>?_) (Nr aai);rw[ha.1];exact aD _ _ _;rw[ha.1];exact aD _ _ _
def ab9(before:List Pt)(Ax:Int):RP S en en' w b (·=·) (RI en before Ax) (RI en' before Ax):=by
 refine Fk Yr λv v' hv=>?_;rw[hv.1];exact DG (λ_=>DG (λ_=>aC _ _) λ_=>NV hv.2) λ_=>Qt λq _=>DG (λ_=>NV hv.2) λ_=>DG (λ_=>NV hv.2) λ_=>aC _ _
def wE:∀(q q':Nat) (l:List Pt) (c:Int),RP S en en' w false (·=·) (LM en q l c) (LM en' q' l c):=by
 intro q
 induction q with
 | zero=>intro q' l c _ _ _ _ _ _ _ e1;cases e1
 | succ q ih =>
   intro q' l c;cases q' with
   | zero=>intro _ _ _ _ _ _ _ _ e2;cases e2
   | succ q' =>
     refine Fk (ab9 _ _) λp p' hp=>?_;subst hp;exact Yp (Yq (ih q' _ _) (Fl rfl) OS)
def wF(c:Int){p p':Int}(hp:S p p'):∀(ps:List Pt) (acc:List Pc),RP S en en' w b (·=·) (LS c p ps acc) (LS c p' ps acc):=by
 intro ps
 induction ps with
 | nil=>intro acc;exact Fl rfl
 | cons x ps ih=>intro acc;exact Qt λz _=>DG (λ_=>NV hp) λ_=>DG (λ_=>NV hp) λ_=>Yp (ih _)
inductive ER(S:Int->Int->Prop):Ek->Ek->Prop
 | ex:ER S .ex .ex
 | lv (i:Nat):ER S (.lv i) (.lv i)
 | at_:ER S .at_ .at_
 | wd {t t':Tk}:TR S t t'->ER S (.wd t) (.wd t')
 | ca:ER S .ca .ca
 | ta:ER S .ta .ta
structure Rel(S:Int->Int->Prop)(en en':Int)(w:List Tk)(g g':Ek->Rd Nd)(li li':Rd (List Nd)):Prop where
 rg:∀{e e'},ER S e e'->RP S en en' w false (NR S) (g e) (g' e')
 rli:RP S en en' w false (xI S) li li'
 eg:∀e,(∀t,e≠.wd t)->EO en true (g e)
 eli:EO en true li
def ah2{yes amX:ByteArray->Rd α}{no no':Rd α}(h1:∀x,RP S en en' w b Q (yes x) (amX x))(h2:RP S en en' w b Q no no')(h3:EO en b no):∀ops:List ByteArray,RP S en en' w b Q (lW yes no ops) (lW amX no' ops)/\EO en b (lW yes no ops):=by
 intro ops
 induction ops with
 | nil=>exact⟨h2,h3⟩
 | cons x ops ih=>exact⟨Yq (h1 x) ih.1 ih.2,mT ih.2⟩
def ahr{yes:ByteArray->Rd α}{no:Rd α}(h3:EO en b no):∀ops:List ByteArray,EO en b (lW yes no ops):=by
 intro ops
 induction ops with
 | nil=>exact h3
 | cons x ops ih=>exact mT ih
def uE{op:ByteArray}{l l' r r' x x':Nd}(hl:NR S l l')(hr:NR S r r')(h1:A7 op l r=some x)(h2:A7 op l' r'=some x'):NR S x x':=by
 have ha:S l.AF l'.AF:=by cases hl with | mk _ h=>exact h
 unfold A7 at h1 h2;revert h1 h2;cases BZ op.data.toList JZ.data.toList;cases BZ op.data.toList Hk.data.toList;intro h1 h2;cases h1;cases h2;exact .mk (.cons hl (.cons hr .nil)) ha;cases hq:Jw op JZ KJ 1 with
 | none=>intro h1;cases h1
 | some y =>
   intro h1 h2;cases h1;cases h2;exact .mk (.cons hr (.cons hl .nil)) ha
 cases hq:Jw op JZ KJ 1 with
 | none=>intro h1;cases h1
 | some y =>
   intro h1 h2;cases h1;cases h2;exact .mk (.cons hr (.cons hl .nil)) ha
def j2{sub acK:Rd Nd}(h:RP S en en' w false (NR S) sub acK)(op:ByteArray){l l':Nd}(hl:NR S l l'):RP S en en' w false (NR S) (Qs en sub op l) (Qs en' acK op l') :=
 Kg (DG (λ_=>Zn) λ_=>h) (λr r' hr=>afW λx x' h1 h2=>Fl (uE hl hr h1 h2)) λr=>aiG λx=>OS
def gL{ops:List ByteArray}{sub:Rd Nd}(q:Nat)(l:Nd):EO en false (KQ en ops sub q l):=by
 cases q with
 | zero=>intro r s h;cases h
 | succ q=>exact ahr OS ops
def ab5(ops:List ByteArray){sub acK:Rd Nd}(h:RP S en en' w false (NR S) sub acK):∀(q q':Nat) (l l':Nd),NR S l l'->RP S en en' w false (NR S) (KQ en ops sub q l) (KQ en' ops acK q' l'):=by
 intro q
 induction q with
 | zero=>intro q' l l' _ _ _ _ _ _ _ _ e1;cases e1
 | succ q ih =>
   intro q' l l' hl;cases q' with
   | zero=>intro _ _ _ _ _ _ _ _ e2;cases e2
   | succ q'=>exact(ah2 (λx=>Kg (j2 h x hl) (λy y' hy=>ih q' _ _ hy) λy=>gL q y) (Fl hl) OS ops).1
section
variable {g g':Ek->Rd Nd} {li li':Rd (List Nd)} (A:Rel S en en' w g g' li li')
include A
def ab7(i:Nat):RP S en en' w false (NR S) (Nz en g i) (Nz en' g' i) :=
 Kg (A.rg (.lv _)) (λN N' h=>ab8 λq q'=>ab5 _ (A.rg (.lv _)) q q' _ _ h) λN _ _ h=>gL 1 N h
def afV:RP S en en' w false (NR S) (gG en g) (gG en' g') :=
 Kg (A.rg (.lv _)) (λN N' h=>(ah2 (λx=>j2 (A.rg (.lv _)) x h) (Fl h) OS _).1) λN=>ahr OS _
def akj:RP S en en' w false (NR S) (Ye en g) (Ye en' g'):=by
 intro l l1 s s' r r' f e1 e2;cases f with
 | nil =>
   by_cases hw:w=[];subst hw;exact A.rg (.lv 3) .nil e1 e2;exact .inr ⟨hw,((A.eg (.lv 3) (by intro t h;cases h)) e1).YR⟩
 | cons ht f =>
   rename_i t t' l l';unfold Ye at e1 e2
   have:I6 Us (t::l)=I6 Us (t'::l'++w):=by
     show BZ t.text.data.toList _=BZ t'.text.data.toList _;rw[ht.2.1]
   rw[<- this] at e2;cases hx:I6 Us (t::l) with
   | true =>
     rw[hx] at e1 e2;exact Fk (NW _) (λt t' ht=>Kg (A.rg (.lv 2)) (λk k' hk=>Fl (Jq (.cons hk .nil) ht.2.2)) λk=>OS) (.cons ht f) e1 e2
   | false=>rw[hx] at e1 e2;exact A.rg (.lv 3) (.cons ht f) e1 e2
def afU:RP S en en' w false (NR S) (Xs en g li) (Xs en' g' li'):=by
 refine aca λt t' ht=>Uz (Fk (NW _) λ_ _ _=>Kg (A.rg .ex) (λa a' ha=>Fk (NW _) λ_ _ _=>Kg A.rli (λl l' hl=>Yp (Fk (NW _) λ_ _ _=>?_)) λ_=>aah (Nr U8)) λ_=>Nr U8);rw[ht.2.1];exact Fl (Jq (.cons ha hl) ht.2.2)
def acb:RP S en en' w false (NR S) (YC en g) (YC en' g'):=by
 refine Fk (NW _) λt t' ht=>Fk (NW _) λ_ _ _=>Kg (A.rg .ex) (λa a' ha=>Fk (NW _) λ_ _ _=>Kg (ab8 λq q'=>wE q q' _ _) (λl l' hl=>?_) λ_=>Nr U8) λ_=>Nr U8;subst hl;refine Fk (NW _) λe e' he=>Yp (Fk (wF _ he.2.2 _ _) λr r' hr=>?_);subst hr;exact Fl (.mk (.cons ha .nil) ht.2.2)
def af0{t t':Tk}(ht:TR S t t'):RP S en en' w false (NR S) (QX en g t) (QX en' g' t'):=by
 unfold QX;rw[ht.2.1]
 have hd:RP S en en' w false (NR S) (Uf t) (Uf t'):=by
   unfold Uf;rw[ht.2.1];exact Uz (Fl (Jq .nil ht.2.2))
 refine DG (λ_=>Uz (Fl (Jq .nil ht.2.2))) λ_=>DG (λ_=>Uz (Fl (Jq .nil ht.2.2))) λ_=>DG (λ_=>Uz (Fk (UA _) λp p' hp=>?_)) λ_ =>
   DG (λ_=>hd) λ_=>DG (λ_=>hd) λ_=>DG (λ_=>hd) λ_=>DG (λ_=>hd) λ_=>DG (λ_=>A.rg .ca) λ_=>DG (λ_=>A.rg .ca) λ_=>DG (λ_=>A.rg .ta) λ_ =>
   DG (λ_=>Uz (Kg (A.rg .ex) (λa a' ha=>Fk (NW _) λ_ _ _=>Fl ha) λ_=>Nr U8)) λ_=>NV ht.2.2
 rw[hp.1];exact Fl (Jq .nil ht.2.2)
def afT:RP S en en' w false (NR S) (Xn en g) (Xn en' g'):=by
 refine aca λt t' ht=>?_;have h6:Cu t=Cu t':=s6 (λ_ _ _ _=>rfl) ht;rw[ht.1,h6,ht.2.1];refine DG (λ_=>Fk aB λn n' hn=>?_) λ_=>DG (λ_=>Uz (Fk (UB λ_ _ _ _=>rfl) λa a' ha=>?_)) λ_=>Qt λc _=>DG (λ_=>Uz (Fl (Jq .nil ht.2.2))) λ_=>A.rg (.wd ht);rw[hn.1];exact Yq (Fl (Jq .nil hn.2)) (Fl (Jq .nil hn.2)) OS;have:Cp a=Cp a':=by unfold Cp;rw[ha.2.1]
 rw[this];exact Qt λc _=>Fl (Jq .nil ht.2.2)
end
def afJ:∀q q':Nat,Rel S en en' w (gP en q).1 (gP en' q').1 (gP en q).2 (gP en' q').2:=by
 intro q
 induction q with
 | zero =>
   intro q';constructor
   case rg=>intro _ _ _ _ _ _ _ _ _ _ e1;cases e1
   case rli=>intro _ _ _ _ _ _ _ e1;cases e1
   case eg=>intro _ _ _ _ e1;cases e1
   case eli=>intro _ _ e1;cases e1
 | succ q ih =>
   intro q'
   have eg:∀e,(∀t,e≠.wd t)->EO en true ((gP en (q+1)).1 e):=by
     have A:=ih 0;intro e he;show EO en true (OE en (gP en q).1 (gP en q).2 e);unfold OE;split;exact A.eg _ (by intro t h;cases h);intro r s h;exact A.eg (.lv 3) (by intro t h;cases h) h;exact Nr (A.eg _ (by intro t h;cases h));exact A.eg _ (by intro t h;cases h);exact Nr (A.eg _ (by intro t h;cases h));exact qA;rename_i t;exact absurd rfl (he t);exact qA;exact Nr U8
   have eli:EO en true (gP en (q+1)).2:=aep ((ih 0).eg .ex (by intro t h;cases h));cases q' with
   | zero =>
     constructor
     case rg=>intro _ _ _ _ _ _ _ _ _ _ _ e2;cases e2
     case rli=>intro _ _ _ _ _ _ _ _ e2;cases e2
     case eg=>exact eg
     case eli=>exact eli
   | succ q' =>
     have A:=ih q';refine⟨λ{e e'} he=>?_,afX (A.rg .ex),eg,eli⟩;show RP S en en' w false (NR S) (OE en (gP en q).1 (gP en q).2 e) (OE en' (gP en' q').1 (gP en' q').2 e');cases he with
     | ex=>exact A.rg (.lv 0)
     | at_=>exact afT A
     | wd ht=>exact af0 A ht
     | ca=>exact afU A
     | ta=>exact acb A
     | lv i =>
       unfold OE;split;rename_i h;cases h;exact akj A;exact afV A;exact A.rg .at_;rename_i h;cases h;exact ab7 A _
       all_goals (rename_i h;cases h)
end
end Mo
end Go.Proofs.YtpbkhogolfegfaaGreatDoor
