/- Part of a proof: see the last text. -/
import Derived.Test.YtpbkhogolfegfaaGreatDoorPtr
set_option linter.unusedVariables false
set_option linter.unusedSimpArgs false
set_option linter.defProp false
noncomputable section
namespace Go.Proofs.YtpbkhogolfegfaaGreatDoor
open AI Go
namespace Mo
set_option maxRecDepth 100000
set_option maxHeartbeats 4000000
variable {mx:Int}
def B4:Code:=Bj Tryz.f4
def b4:Tryz.f4.body=some B4:=by kernel_rfl
def B26:Code:=Bj Tryz.f26
def b26:Tryz.f26.body=some B26:=by kernel_rfl
def Lu(Il:Nd->Option Bool)(i0:Nat)(e0:Nd) :Option (Lp Unit Unit Bool):=(Il e0).bind λy1=>cond y1 (some (.nx ())) (some (.rt false))
def MA(Il:Nd->Option Bool)(n:Nd):Option Bool:=(Sx n.kids.length (Dh (λi y x=>Lu Il  i y ) (λx=>()) (n.kids.drop 0) 0 ())).bind (PD (λ(_:Unit)=>cond (DV n.AF 0) (some true) (some false)) (λv=>some v))
def VY(Il:Nd->Option Bool)(Sv:∀{n:Nd} {yR:Bool},Il n=some yR->Pure P (G mx) 26 [.agg (CF n)] (.zb yR)){n:Nd}{yR:Bool}(h:MA Il n=some yR):Pure P (G mx) 26 [.agg (CF n)] (.zb yR):=by
 unfold MA at h;refine D2 Hd.mixed Hd.Ab (Ay Tryz.func26 b26 ?_) (BE (AB.CS n) rfl) rfl;revert h;refine QW (λQ v=>MZ P Tryz.f26 0 Q (.zb v)) (λi0 (_:Unit) (j0:List Value)=>fr 19 [(1,.ptr 0 0),(6,.sl .lost n.kids.length (Bd n.kids)),(7,.zi ((n.kids.length:Nat):Int)),(8,.zi ((i0:Nat):Int))] [2,9,13,14,18] j0) (λ(_:Unit)=>⟨[(0,.cells (CF n))],1,[],0⟩) (λ(_:Unit) (jx:List Value)=>fr 19 [(1,.ptr 0 0)] [2,9,13,14,18] jx) (λ(_:Unit)=>⟨[(0,.cells (CF n))],1,[],0⟩) [bF] (IA [] 0 (sb B26 52) [.code (sb B26 7)] (Ae 300 []) (by kernel_rfl)) ?_ ?_ ?_ (λv h=>by cases h;exact .outer .body);rintro i0 ⟨⟩ j0 hge hq;exact Fi (Ae 300 [pb (dM hge)]) (by kernel_rfl) (hq (js 5 j0 [(1,bF)]));rintro i0 e0 ⟨⟩ j0 r PP OV PE k;show Lu Il  i0 e0 =some r->_;unfold Lu;refine AA λy1 Cg=>?_;refine Ak (λhv=>?_) λhv=>?_;subst hv;rintro⟨⟩;exact Hg Hd.Ab [fq (AB.Kr n.kids)] [bp (AB.pl n)] (Ae 300 [pb (Wl OV),IE (I0 .lost PP),Be (Sv Cg),pi PE]) (by kernel_rfl) (k [(jv j0 0),bT,bT,bF,(jv j0 4)]);subst hv;rintro⟨⟩;exact Bc _ _ (Ae 300 [pb (Wl OV),IE (I0 .lost PP),Be (Sv Cg)]) (by kernel_rfl) (.GB k) .sc;rintro⟨⟩ bG;refine Ak (λBp=>?_) λBp=>?_;rintro⟨⟩;exact Bc _ _ (KW 300 [pb Bp]) (by kernel_rfl) .body .sc;rintro⟨⟩;exact Bc _ _ (KW 300 [pb Bp]) (by kernel_rfl) .body .sc
def GM:Nat->Nd->Option Bool
 | 0,_=>none
 | qn+1,n=>MA (GM qn) n
def XE:∀qn:Nat,∀{n:Nd} {yR:Bool},GM qn n=some yR->Pure P (G mx) 26 [.agg (CF n)] (.zb yR):=by
 intro qn
 induction qn with
 | zero=>exact(λh=>by simp only[GM] at h;cases h)
 | succ qn ih=>exact(λh=>VY (GM qn) ih (by rw[GM] at h;exact h))
def PV(n:Nd):Option Bool:=uC (λqn=>GM qn n)
def YO{n:Nd}{yR:Bool}(h:PV n=some yR):Pure P (G mx) 26 [.agg (CF n)] (.zb yR):=by
 obtain⟨qn,h⟩:=fB h;exact(XE qn) h
def B27:Code:=Bj Tryz.f27
def b27:Tryz.f27.body=some B27:=by kernel_rfl
def Jv(FV:Nd->Int->Int->Option Bool)(n:Nd)(high:Int)(i0:Nat)(e0:Nd) :Option (Lp Unit Unit Bool):=(FV e0 n.AF high).bind λy1=>cond y1 (some (.nx ())) (some (.rt false))
def J1(FV:Nd->Int->Int->Option Bool)(n:Nd)(low:Int)(high:Int):Option Bool:=cond (EK n.AF low) (some false) (cond (EK high n.AF) (some false) ((Sx n.kids.length (Dh (λi y x=>Jv FV n high i y ) (λx=>()) (n.kids.drop 0) 0 ())).bind (PD (λ(_:Unit)=>some true) (λv=>some v))))
def SS(FV:Nd->Int->Int->Option Bool)(O7:∀{n:Nd} {low:Int} {high:Int} {yR:Bool},FV n low high=some yR->Pure P (G mx) 27 [.agg (CF n),.zi low,.zi high] (.zb yR)){n:Nd}{low:Int}{high:Int}{yR:Bool}(h:J1 FV n low high=some yR):Pure P (G mx) 27 [.agg (CF n),.zi low,.zi high] (.zb yR):=by
 unfold J1 at h;refine D2 Hd.mixed Hd.Ab (Ay Tryz.func27 b27 ?_) (BE (AB.CS n) (BE rfl (BE rfl rfl))) rfl;revert h;refine Ak (λBp=>?_) λBp=>?_;rintro⟨⟩;exact rT [pb Bp];refine Ak (λhb2=>?_) λhb2=>?_;rintro⟨⟩;exact rT [pb Bp,pb hb2];refine QW (λQ v=>MZ P Tryz.f27 0 Q (.zb v)) (λi0 (_:Unit) (j0:List Value)=>fr 33 [(2,.zi high),(3,.ptr 0 0),(20,.sl .lost n.kids.length (Bd n.kids)),(21,.zi ((n.kids.length:Nat):Int)),(22,.zi ((i0:Nat):Int))] [6,12,13,17,18,23,30,31] j0) (λ(_:Unit)=>⟨[(0,.cells (CF n))],1,[],0⟩) (λ(_:Unit) (jx:List Value)=>fr 33 [] [6,12,13,17,18,23,30,31] jx) (λ(_:Unit)=>⟨[(0,.cells (CF n))],1,[],0⟩) [bF,bF,bF,bF,bF] (IA [] 0 (sb B27 116) [.code (sb B27 15)] (Ae 300 [pb Bp,pb hb2]) (by kernel_rfl)) ?_ ?_ ?_ (λv h=>by cases h;exact .outer .body);rintro i0 ⟨⟩ j0 hge hq;exact Fi (Ae 300 [pb (dM hge)]) (by kernel_rfl) (hq (js 8 j0 [(5,bF)]));rintro i0 e0 ⟨⟩ j0 r PP OV PE k;show Jv FV n high i0 e0 =some r->_;unfold Jv;refine AA λy1 Cg=>?_;refine Ak (λhv=>?_) λhv=>?_;subst hv;rintro⟨⟩;exact Hg Hd.Ab [fq (AB.Kr n.kids)] [bp (AB.pl n)] (Ae 300 [pb (Wl OV),IE (I0 .lost PP),Be (O7 Cg),pi PE]) (by kernel_rfl) (k (js 8 j0 [(5,bT),(6,bT),(7,bF)]));subst hv;rintro⟨⟩;exact Bc _ _ (Ae 300 [pb (Wl OV),IE (I0 .lost PP),Be (O7 Cg)]) (by kernel_rfl) (.GB k) .sc;rintro⟨⟩ bG;rintro⟨⟩;exact Bc _ _ (KW 300 []) (by kernel_rfl) .body .sc
def EN:Nat->Nd->Int->Int->Option Bool
 | 0,_,_,_=>none
 | qn+1,n,low,high=>J1 (EN qn) n low high
def T3:∀qn:Nat,∀{n:Nd} {low:Int} {high:Int} {yR:Bool},EN qn n low high=some yR->Pure P (G mx) 27 [.agg (CF n),.zi low,.zi high] (.zb yR):=by
 intro qn
 induction qn with
 | zero=>exact(λh=>by simp only[EN] at h;cases h)
 | succ qn ih=>exact(λh=>SS (EN qn) ih (by rw[EN] at h;exact h))
def J2(n:Nd)(low:Int)(high:Int):Option Bool:=uC (λqn=>EN qn n low high)
def Li{n:Nd}{low:Int}{high:Int}{yR:Bool}(h:J2 n low high=some yR):Pure P (G mx) 27 [.agg (CF n),.zi low,.zi high] (.zb yR):=by
 obtain⟨qn,h⟩:=fB h;exact(T3 qn) h
def B6:Code:=Bj Tryz.f6
def b6:Tryz.f6.body=some B6:=by kernel_rfl
def FY(source:ByteArray):Option Bool:=(Ju).bind λy1=>cond (EK 6010 ((source.data.toList.length:Nat):Int)) (some y1) ((CV source).bind λ(IX,Eu)=>cond (EK 0 ((Eu.length:Nat):Int)) (cond y1 ((Io IX (⟨0,ByteArray.empty,ByteArray.empty,0,0,0,0,(⟨0,[]⟩:Fn),[],0⟩:Nd)).bind λy3=>cond y3 (cond (SV ((Eu.length:Nat):Int) 20) (some true) (some false)) (some false)) (some false)) ((Ht IX).bind λy4=>cond y1 ((Di IX).bind λy5=>cond y5 ((Di y4).bind λy6=>cond y6 ((PV y4).bind λy7=>cond y7 ((Ht y4).bind λy8=>(Io y8 y4).bind λy9=>cond y9 ((JV IX).bind λy10=>(Io y10 y4).bind λy11=>cond y11 ((J2 IX 0 ((source.data.toList.length:Nat):Int)).bind λy12=>cond y12 (cond (DV IX.kind 1) (some true) (some false)) (some false)) (some false)) (some false)) (some false)) (some false)) (some false)) (some false)))
def PU{source:ByteArray}{yR:Bool}(h:FY  source=some yR):Pure P (G mx) 6 [.zs source] (.zb yR):=by
 unfold FY at h;refine D2 Hd.mixed Hd.Ab (Ay Tryz.func6 b6 ?_) (BE rfl rfl) rfl;revert h;refine AA λy1 Cg=>?_;let o1:List (PC P (G mx)):=[Be (VX Cg)];refine Ak (λBp=>?_) λBp=>?_;rintro⟨⟩;exact rT (o1++[pb Bp]);refine AA ?_;rintro⟨IX,Eu⟩ Ej;dsimp only;let o2:List (PC P (G mx)):=o1++[pb Bp,Be (KP Ej)];refine Ak (λhb2=>?_) λhb2=>?_;refine Ak (λhv=>?_) λhv=>?_;subst hv;refine AA λy3 Gj=>?_;let o3:List (PC P (G mx)):=o2++[pb hb2,HU (.r (.g (.r (.r (.r (.r (.r (.r (.r (.r (.z (.z (.r .nil))))))))))) .nil)) (Lz Gj)];refine Ak (λhv=>?_) λhv=>?_;subst hv;refine Ak (λhb3=>?_) λhb3=>?_;rintro⟨⟩;exact rT (o3++[pb hb3]);rintro⟨⟩;exact rT (o3++[pb hb3]);subst hv;rintro⟨⟩;exact rT o3;subst hv;rintro⟨⟩;exact rT (o2++[pb hb2]);refine AA λy4 JK=>?_;let o4:List (PC P (G mx)):=o2++[pb hb2,Be (Ob JK)];refine Ak (λhv=>?_) λhv=>?_;subst hv;refine AA λy5 JR=>?_;let o5:List (PC P (G mx)):=o4++[Be (Fy JR)];refine Ak (λhv=>?_) λhv=>?_;subst hv;refine AA λy6 Mz=>?_;let o6:List (PC P (G mx)):=o5++[Be (Fy Mz)];refine Ak (λhv=>?_) λhv=>?_;subst hv;refine AA λy7 RF=>?_;let o7:List (PC P (G mx)):=o6++[Be (YO RF)];refine Ak (λhv=>?_) λhv=>?_;subst hv;refine AA λy8 N6=>?_;refine AA λy9 Vv=>?_;let o8:List (PC P (G mx)):=o7++[Be (Ob N6),Be (Lz Vv)];refine Ak (λhv=>?_) λhv=>?_;subst hv;refine AA λy10 O8=>?_;refine AA λy11 UQ=>?_;let o9:List (PC P (G mx)):=o8++[Be (Rk O8),Be (Lz UQ)];refine Ak (λhv=>?_) λhv=>?_;subst hv;refine AA λy12 Xw=>?_;refine Ak (λhv=>?_) λhv=>?_;subst hv;refine Ak (λF3=>?_) λF3=>?_;rintro⟨⟩;exact rT (o9++[Be (Li Xw),pb F3]);rintro⟨⟩;exact rT (o9++[Be (Li Xw),pb F3]);subst hv;rintro⟨⟩;exact rT (o9++[Be (Li Xw)]);subst hv;rintro⟨⟩;exact rT o9;subst hv;rintro⟨⟩;exact rT o8;subst hv;rintro⟨⟩;exact rT o7;subst hv;rintro⟨⟩;exact rT o6;subst hv;rintro⟨⟩;exact rT o5;subst hv;rintro⟨⟩;exact rT o4
def B9:Code:=Bj Tryz.f9
def b9:Tryz.f9.body=some B9:=by kernel_rfl
end Mo
end Go.Proofs.YtpbkhogolfegfaaGreatDoor

namespace Go.Proofs.YtpbkhogolfegfaaGreatDoor
open AI Go
namespace Mo
set_option maxRecDepth 100000
set_option maxHeartbeats 4000000
def tX(s:ByteArray):Prop:=s.data.toList.length=3/\∀c∈s.data.toList,65<=c.toNat/\c.toNat<=90
def Un(s:ByteArray):Prop:=s=GH\/s=Ep\/s=Je\/tX s
def sX(c:UInt8):Prop:=(97<=c.toNat/\c.toNat<=122)\/(48<=c.toNat/\c.toNat<=57)\/c.toNat=95
def qD:List ByteArray:=[Sk,N9,Hq,aaM,rF,pI,toS,US,Z2,RM,PH,GH,Ep,Je,alK,Si,Ls,OA,Sw,gW,OY,T5,eE,Yj,SN,aD,K0,aL,PW,UB,Kc,Fx,Qc]
def Qt(s:ByteArray):Prop:=(1<=s.data.toList.length/\s.data.toList.length<=16)/\(∃b,s.data.toList[0]?=some b/\97<=b.toNat/\b.toNat<=122)/\s∉qD/\∀c∈s.data.toList,sX c
def XQ{n:Nd}(h:Ku n):n.CJ.ps.length<=9223372036854775807/\n.kids.length<=9223372036854775807/\∀k∈n.kids,Ku k:=by
 obtain⟨a,b,c⟩:=(Pb n).1 h;exact⟨a.1,b,c⟩
def adD{α:Type}{l:List α}{P:α->Prop}:(∀(i:Nat) (y:α),l[i]?=some y->P y)↔∀y∈l,P y :=
 ⟨λh y hy=>(List.getElem?_of_mem hy).elim λi hi=>h i y hi,λh i y hi=>h y (List.mem_of_getElem? hi)⟩
def acJ(s:ByteArray):Hv s=some (mb (s∈qD)):=by
 rw[Hv];simp only[Q5,My,gI,awD];refine smb ?_;simp only[qD,List.mem_cons,List.not_mem_nil,or_false]
def arY(s:ByteArray):s=ByteArray.empty↔s.data.toList.length=0:=by
 constructor;intro h;rw[h];rfl;intro h;apply ByteArray.ext;apply Array.ext';rw[List.eq_nil_of_length_eq_zero h];rfl
def pJ(s:ByteArray):D1 s=some (mb (Qt s)):=by
 rw[D1];simp only[Q5,OF,My,acJ,Option.bind_some];unfold Qt;by_cases h0:s=ByteArray.empty;rw[CC h0];exact cM λh=>by have:=(arY s).1 h0;omega
 have h1:s.data.toList.length≠0:=λh=>h0 ((arY s).2 h);rw[CH h0];by_cases h2:16 < ((s.data.toList.length:Nat):Int);rw[CC h2];exact cM λh=>by omega
 rw[CH h2];obtain⟨b,hb⟩:∃b,s.data.toList[0]?=some b:=⟨_,List.getElem?_eq_getElem (by omega)⟩
 rw[hb,bI (v:=false) (P:=λ_ y=>sX y) (by omega) (λi y _=>by
   simp only[Ik,OF,KC,My,aAW,avU,alA,avT,alB,aJE,aJD];congr 2;unfold sX;apply propext;omega)]
 simp only[Option.bind_some,gI,aJI,adD];refine smb ?_;constructor;rintro⟨h3,h4,h5,h6⟩;exact⟨by omega,⟨b,rfl,by omega⟩,h5,h6⟩;rintro⟨h3,⟨c,hc,h4⟩,h5,h6⟩;cases hc;exact⟨by omega,by omega,h5,h6⟩
def awQ(s:ByteArray):Hu s=some (mb (tX s)):=by
 rw[Hu,KC,My];unfold tX;by_cases h:((s.data.toList.length:Nat):Int)=3
 rw[CC h,bI (v:=false) (P:=λ_ y=>65<=y.toNat/\y.toNat<=90) (by omega) (λi y _=>by
   simp only[IS,OF,My,alA,alB];congr 2;apply propext;omega),gI,adD]
 exact smb ⟨λh2=>⟨by omega,h2⟩,λh2=>h2.2⟩;rw[CH h];exact cM λh2=>h (by omega)
def rD(s:ByteArray):Ey s=some (mb (Un s)):=by
 rw[Ey];simp only[Q5,My,awQ,Option.bind_some,awD];rfl
def ON(n:Int):Prop:=1<=n/\n<=1000000
def T8(n:Int):DH n=some (mb (ON n)):=by
 rw[DH];simp only[SW,My,gI,awC];rfl
def zK(n:Int):Prop:=0<=n/\n<=36524
def aM(s:ByteArray):Prop:=s=K0\/s=aL\/s=PW\/s=UB
def adW(s:ByteArray):FZ s=some (mb (aM s)):=by
 rw[FZ];simp only[Q5,My,gI,awD];rfl
def adY(a b:List Pc)(ha:a.length<=9223372036854775807):Kz a b=some (mb (a=b)):=by
 rw[Kz,KC,My];by_cases h:((a.length:Nat):Int)=((b.length:Nat):Int)
 rw[CC h,bI (v:=false) (P:=λi y=>b[i]?=some y) ha (λi y hy=>by
   have hi:i < a.length:=(List.getElem?_eq_some_iff.1 hy).1;have hb:b[i]?=some b[i]:=List.getElem?_eq_getElem (by omega);simp only[Lr];rw[hb];simp only[Option.bind_some]
   have hs:OO y b[i]=mb (b[i]?=some y):=by
     rw[Bool.eq_iff_iff,Db,hb];unfold OO;simp only[Bool.and_eq_true,Q6,beq_iff_eq,Option.some.injEq];generalize b[i]=z;cases y;cases z;simp only[Pc.mk.injEq];grind
   rw[hs,My,aAW,hb]),gI]
 refine smb ⟨λh2=>?_,λh2 i y hy=>by rw[<- h2];exact hy⟩;apply List.ext_getElem?;intro i;by_cases hi:i < a.length;rw[List.getElem?_eq_getElem hi,h2 i _ (List.getElem?_eq_getElem hi)];rw[List.getElem?_eq_none (by omega),List.getElem?_eq_none (by omega)];rw[CH h];exact cM λh2=>h (by rw[h2])
def F6(n f:Nd):Prop:=n.name=f.name/\n.unit=f.unit/\n.n=f.n/\n.fr=f.fr/\n.to=f.to/\n.known=f.known/\n.CJ.den=f.CJ.den/\n.CJ.ps=f.CJ.ps
def WY(n f:Nd)(h:n.CJ.ps.length<=9223372036854775807):BZ n f=some (mb (F6 n f)):=by
 rw[BZ,adY _ _ h];simp only[Q5,KC,My,Option.bind_some,awC];rfl
end Mo
end Go.Proofs.YtpbkhogolfegfaaGreatDoor
namespace Go.Proofs.YtpbkhogolfegfaaGreatDoor
open AI Go
namespace Mo
set_option maxRecDepth 100000
set_option maxHeartbeats 4000000
def mW{p:Prop}(h:¬p):mb p=false:=by rw[VC];exact h
def Out(r:Option (Bool×Int))(P:Prop)(t:Int):Prop:=∃z,r=some (mb P,z)/\(P->z=t)
def Out.congr{r:Option (Bool×Int)}{P Q:Prop}{t u:Int}(h:Out r P t)(hp:P↔Q)(ht:Q->t=u):Out r Q u:=by
 obtain⟨z,h1,h2⟩:=h;exact⟨z,by rw[h1,LM hp],λq=>(h2 (hp.2 q)).trans (ht q)⟩
def JL{Q:Prop}{z u:Int}(h:¬Q):Out (some (false,z)) Q u:=⟨z,by rw[mW h],λq=>absurd q h⟩
def T7{P Q:Prop}{u:Int}(h:P↔Q):Out (some (mb P,u)) Q u:=⟨u,by rw[LM h],λ_=>rfl⟩
def Hl{p Q:Prop}{A:Option (Bool×Int)}{z u:Int}(h:p->Out A Q u)(hq:Q->p):Out (Kt p A (some (false,z))) Q u:=by
 by_cases hp:p;rw[CC hp];exact h hp;rw[CH hp];exact JL λq=>hp (hq q)
def gY{p Q:Prop}{A:Option (Bool×Int)}{z u:Int}(h:¬p->Out A Q u)(hq:Q->¬p):Out (Kt p (some (false,z)) A) Q u:=by
 by_cases hp:p;rw[CC hp];exact JL λq=>hq q hp;rw[CH hp];exact h hp
mutual
def DM:Nd->Nat
 | ⟨_,_,_,_,_,_,_,_,kids,_⟩=>1+GD kids
def GD:List Nd->Nat
 | []=>0
 | k::ks=>DM k+GD ks
end
mutual
def N3:Nd->Nat
 | ⟨_,_,_,_,_,_,_,_,kids,_⟩=>1+dF kids
def dF:List Nd->Nat
 | []=>0
 | k::ks=>max (N3 k) (dF ks)
end
def Ev(n:Nd):DM n=1+GD n.kids:=by cases n;rw[DM]
def M7(n:Nd):N3 n=1+dF n.kids:=by cases n;rw[N3]
def W9{l:List Nd}{m:Nat}:dF l<=m↔∀k∈l,N3 k<=m:=by
 induction l with
 | nil=>simp[dF]
 | cons a l ih=>simp only[dF,Nat.max_le,ih,List.mem_cons,forall_eq_or_imp]
def KY{l:List Nd}{k:Nd}(h:k∈l):DM k<=GD l:=by
 induction l with
 | nil=>cases h
 | cons a l ih =>
   rw[GD];rcases List.mem_cons.1 h with rfl | h
   omega;have:=ih h;omega
def Oi(l:List Nd):l.length<=GD l:=by
 induction l with
 | nil=>simp[GD]
 | cons a l ih=>rw[GD,Ev];simp only[List.length_cons];omega
def RJ{n k:Nd}(h:k∈n.kids):DM k < DM n:=by rw[Ev n];have:=KY h;omega
def QS{g:Ck->Nd->Int->Option (Bool×Int)}{p:Nd->Prop}{d:Int}:∀{l:List Nd} {i:Nat} {c:Int},0<=c->c<=2000->(∀k∈l,∀c:Int,0<=c->c<=2000->Out (g ⟨c⟩ k d) (p k/\c+DM k<=2000/\d+N3 k<=41) (c+DM k)) ->
   Out ((Dh (δ:=Int) (ρ:=Bool×Int) (λ_ y (x:Int)=>(g ⟨x⟩ y d).bind λ(Ed,Bh)=>cond Ed (some (.nx Bh)) (some (.rt (false,Bh)))) (λx=>x) l i c).bind (PD (λ(w:Int)=>some (true,w)) (λv=>some v)))
     ((∀k∈l,p k/\d+N3 k<=41)/\c+GD l<=2000) (c+GD l)
 | [],i,c,h0,h1,_=>⟨c,by rw[Db.2 ⟨λk hk=>(by cases hk),by simp only[GD];omega⟩];rfl,λ_=>by simp[GD]⟩
 | y::l,i,c,h0,h1,hg=>by
   obtain⟨z,hz,h2⟩:=hg y (by simp) c h0 h1;rw[Dh,hz];simp only[Option.bind_some];by_cases hp:p y/\c+DM y<=2000/\d+N3 y<=41;rw[Db.2 hp,h2 hp];show Out ((Dh _ _ l (i+1) (c+DM y)).bind _) _ _;refine(QS (l:=l) (i:=i+1) (c:=c+DM y) (by omega) hp.2.1 λk hk=>hg k (by simp[hk])).congr ?_ ?_;rw[GD];simp only[List.mem_cons,forall_eq_or_imp,Int.natCast_add];constructor;rintro⟨a,b⟩;exact⟨⟨⟨hp.1,hp.2.2⟩,a⟩,by omega⟩;rintro⟨⟨_,a⟩,b⟩;exact⟨a,by omega⟩;intro _;rw[GD];omega;rw[mW hp];refine⟨z,?_,λq=>?_⟩;show some (false,z)=_;rw[mW];rintro⟨a,b⟩;rw[GD] at b;have:=a y (by simp);exact hp ⟨this.1,by omega,this.2⟩;exfalso;obtain⟨a,b⟩:=q;rw[GD] at b;have:=a y (by simp);exact hp ⟨this.1,by omega,this.2⟩
def XO(n:Nd){c d:Int}(h0:0<=c)(h1:c<=2000):Out (Ct ⟨c⟩ n d) (c+1<=2000/\d<=40) (c+1):=by
 rw[Ct,G3 (by show _<=c+1/\c+1<=_;omega)];simp only[SW,My,Option.bind_some];by_cases h:c+1<=2000;rw[CC h];exact T7 ⟨λa=>⟨h,a⟩,λa=>a.2⟩;rw[CH h];exact JL λa=>h a.1
def bW(f:Fn)(i:Nat)(p:Pc):Prop:=p.fr<=999999999999/\(∀q,0 < i->f.ps[i - 1]?=some q->q.fr < p.fr)/\Xb p.AF f.den=some 0/\p.AF<=BM 999999999999 f.den/\BM (-999999999999) f.den<=p.AF/\p.L4<=1000000/\-1000000<=p.L4
def jB(f:Fn):Prop:=ON f.den/\(1<=f.ps.length/\f.ps.length<=64)/\(∀x,f.ps[0]?=some x->x.fr=0)/\∀(i:Nat) p,f.ps[i]?=some p->bW f i p
def aCE(f:Fn)(hl:f.ps.length<=9223372036854775807):Gm f=some (mb (jB f)):=by
 rw[Gm,T8];simp only[Option.bind_some,My,OF,KC];unfold jB;by_cases hr:ON f.den;rotate_left;rw[CH hr];exact cM λh=>hr h.1;rw[CC hr];by_cases h1:((f.ps.length:Nat):Int) < 1;rw[CC h1];exact cM λh=>by omega
 rw[CH h1];by_cases h2:64 < ((f.ps.length:Nat):Int);rw[CC h2];exact cM λh=>by omega
 rw[CH h2];have hx0:f.ps[0]?=some f.ps[0]:=List.getElem?_eq_getElem (by omega);rw[hx0];simp only[Option.bind_some];by_cases h3:f.ps[0].fr=0;rotate_left;rw[CH h3];exact cM λh=>h3 (h.2.2.1 _ rfl);rw[CC h3];have aHK:f.den≠0:=by unfold ON at hr;omega
 rw[bI (v:=false) (P:=λi y=>bW f i y) hl (λi y hy=>by
   have hi:i < f.ps.length:=(List.getElem?_eq_some_iff.1 hy).1;simp only[Hm,OF,My,SW,KC];have hd:∃z,Xb y.AF f.den=some z:=by unfold Xb;rw[if_neg aHK];exact⟨_,rfl⟩
   obtain⟨z,hz⟩:=hd;unfold bW;rw[hz];by_cases h0:(0:Int) < ((i:Nat):Int);rw[CC h0,Qi (by omega)];have hq:f.ps[i - 1]?=some f.ps[i - 1]:=List.getElem?_eq_getElem (by omega)
   have hg:L9 f.ps (((i:Nat):Int) - 1)=some f.ps[i - 1]:=by
     unfold L9;rw[show(((i:Nat):Int) - 1).toNat=i - 1 by omega];simp only[hq]
     first | rfl | (rw[if_pos (by omega)])
   rw[hg,hq];simp only[Option.bind_some,alA,alB,avU,avT];congr 2;apply propext;simp only[Option.some.injEq,forall_eq'];grind;rw[CH h0];simp only[Option.bind_some,alA,alB,avU,avT];congr 2;apply propext;simp only[Option.some.injEq];have:¬0 < i:=by omega
   grind),gI]
 refine smb ⟨λh=>⟨hr,by omega,λx hx=>by cases hx;exact h3,h⟩,λh=>h.2.2.2⟩
def XR(s:ByteArray):Prop:=s=E4\/s=gW\/s=OY\/s=Jj\/s=Kf\/s=Kv\/s=JN\/s=Rj\/s=ML\/s=S9\/s=eE
def PY(k:Nd):Prop:=k.kind=11/\k.unit=Ep/\ON k.n
def RY(n:Nd):Prop :=
 (n.kind=11/\Un n.unit/\0<=n.n/\n.n<=999999999999/\(n.unit=GH->n.n<=1)/\n.kids.length=0/\F6 n ⟨0,ByteArray.empty,n.unit,n.n,0,0,0,⟨0,[]⟩,[],0⟩) \/
 (n.kind=12/\Qt n.name/\n.kids.length=0/\F6 n ⟨0,n.name,ByteArray.empty,0,0,0,0,⟨0,[]⟩,[],0⟩) \/
 (n.kind=13/\ON n.n/\n.kids.length=0/\F6 n ⟨0,ByteArray.empty,ByteArray.empty,n.n,0,0,0,⟨0,[]⟩,[],0⟩) \/
 (n.kind=14/\aM n.name/\n.kids.length=0/\F6 n ⟨0,n.name,ByteArray.empty,0,0,0,0,⟨0,[]⟩,[],0⟩) \/
 (n.kind=15/\n.kids.length=1/\F6 n ⟨0,ByteArray.empty,ByteArray.empty,0,0,0,0,⟨0,[]⟩,[],0⟩) \/
 (n.kind=16/\F6 n ⟨0,n.name,ByteArray.empty,0,0,0,0,⟨0,[]⟩,[],0⟩/\n.kids.length=2/\XR n.name/\(n.name=E4->∀k,n.kids[1]?=some k->PY k)) \/
 (n.kind=17/\(n.name=Kc\/n.name=Fx)/\F6 n ⟨0,n.name,ByteArray.empty,0,0,0,0,⟨0,[]⟩,[],0⟩/\2<=n.kids.length) \/
 (n.kind=18/\F6 n ⟨0,ByteArray.empty,ByteArray.empty,0,0,0,0,n.CJ,[],0⟩/\jB n.CJ/\n.kids.length=1)
mutual
def Jt:Nd->Prop
 | ⟨kind,name,unit,n,fr,to,known,CJ,kids,AF⟩=>RY ⟨kind,name,unit,n,fr,to,known,CJ,kids,AF⟩/\aaI kids
def aaI:List Nd->Prop
 | []=>True
 | k::ks=>Jt k/\aaI ks
end
def aaJ{l:List Nd}:aaI l↔∀k∈l,Jt k:=by
 induction l with
 | nil=>simp[aaI]
 | cons k l ih=>simp[aaI,ih]
def IM(n:Nd):Jt n↔RY n/\∀k∈n.kids,Jt k:=by cases n;rw[Jt,aaJ]
end Mo
end Go.Proofs.YtpbkhogolfegfaaGreatDoor
namespace Go.Proofs.YtpbkhogolfegfaaGreatDoor
open AI Go
namespace Mo
set_option maxRecDepth 100000
set_option maxHeartbeats 4000000
def LP{r:Option (Bool×Int)}{P Q:Prop}{t u:Int}{f:Bool×Int->Option (Bool×Int)}(h:Out r P t)(hT:P->Out (f (true,t)) Q u)(hF:∀z,¬P->Out (f (false,z)) Q u):Out (r.bind f) Q u:=by
 obtain⟨z,rfl,h2⟩:=h;by_cases hp:P;rw[Db.2 hp,h2 hp];exact hT hp;rw[mW hp];exact hF z hp
def awO{Q:Prop}{t u:Int}(hq:Q)(h:t=u):Out (some (true,t)) Q u:=⟨t,by rw[Db.2 hq],λ_=>h⟩
def LO{r:Option (Bool×Int)}{P Q:Prop}{t u:Int}(h:Out r P t)(hp:P↔Q)(ht:P->t=u):Out (r.bind λ(a,b)=>some (a,b)) Q u :=
 LP h (λp=>awO (hp.1 p) (ht p)) λ_ p=>JL λq=>p (hp.2 q)
section
variable {p q r:Prop} {z:Int}
def bU:Kt p (some (mb q,z)) (some (false,z))=some (mb (p/\q),z):=by
 by_cases h:p;rw[CC h];congr 2;exact LM ⟨λa=>⟨h,a⟩,λa=>a.2⟩;rw[CH h,mW];exact λa=>h a.1
def nH:Kt p (some (false,z)) (some (mb q,z))=some (mb (¬p/\q),z):=by
 by_cases h:p;rw[CC h,mW];exact λa=>a.1 h;rw[CH h];congr 2;exact LM ⟨λa=>⟨h,a⟩,λa=>a.2⟩
def vK:Kt p (some (mb q,z)) (some (mb r,z))=some (mb ((p->q)/\(¬p->r)),z):=by
 by_cases h:p;rw[CC h];congr 2;exact LM ⟨λa=>⟨λ_=>a,λb=>absurd h b⟩,λa=>a.1 h⟩;rw[CH h];congr 2;exact LM ⟨λa=>⟨λb=>absurd b h,λ_=>a⟩,λa=>a.2 h⟩
end
section
variable {n:Nd}
def aGO(h:n.kind=11):RY n↔Un n.unit/\0<=n.n/\n.n<=999999999999/\(n.unit=GH->n.n<=1)/\n.kids.length=0/\F6 n ⟨0,ByteArray.empty,n.unit,n.n,0,0,0,⟨0,[]⟩,[],0⟩:=by unfold RY;simp[h]
def aGP(h:n.kind=12):RY n↔Qt n.name/\n.kids.length=0/\F6 n ⟨0,n.name,ByteArray.empty,0,0,0,0,⟨0,[]⟩,[],0⟩:=by unfold RY;simp[h]
def aGQ(h:n.kind=13):RY n↔ON n.n/\n.kids.length=0/\F6 n ⟨0,ByteArray.empty,ByteArray.empty,n.n,0,0,0,⟨0,[]⟩,[],0⟩:=by unfold RY;simp[h]
def aGR(h:n.kind=14):RY n↔aM n.name/\n.kids.length=0/\F6 n ⟨0,n.name,ByteArray.empty,0,0,0,0,⟨0,[]⟩,[],0⟩:=by unfold RY;simp[h]
def aGS(h:n.kind=15):RY n↔n.kids.length=1/\F6 n ⟨0,ByteArray.empty,ByteArray.empty,0,0,0,0,⟨0,[]⟩,[],0⟩:=by unfold RY;simp[h]
def aGT(h:n.kind=16):RY n↔F6 n ⟨0,n.name,ByteArray.empty,0,0,0,0,⟨0,[]⟩,[],0⟩/\n.kids.length=2/\XR n.name/\(n.name=E4->∀k,n.kids[1]?=some k->PY k):=by unfold RY;simp[h]
def aGU(h:n.kind=17):RY n↔(n.name=Kc\/n.name=Fx)/\F6 n ⟨0,n.name,ByteArray.empty,0,0,0,0,⟨0,[]⟩,[],0⟩/\2<=n.kids.length:=by unfold RY;simp[h]
def aGV(h:n.kind=18):RY n↔F6 n ⟨0,ByteArray.empty,ByteArray.empty,0,0,0,0,n.CJ,[],0⟩/\jB n.CJ/\n.kids.length=1:=by unfold RY;simp[h]
def ajQ(h:RY n):n.kind=11\/n.kind=12\/n.kind=13\/n.kind=14\/n.kind=15\/n.kind=16\/n.kind=17\/n.kind=18:=by
 unfold RY at h;rcases h with h | h | h | h | h | h | h | h
 all_goals
   have:=h.1;simp[this]
end
def N7(l:List Nd)(c d:Int):Prop:=(∀k∈l,Jt k/\d+N3 k<=41)/\c+GD l<=2000
def arJ{l:List Nd}{c d:Int}(h:l.length=0)(hc:c<=2000):N7 l c d/\c=c+GD l:=by
 obtain rfl:=List.eq_nil_of_length_eq_zero h;exact⟨⟨(λk hk=>(by cases hk)),(by simp only[GD];omega)⟩,(by simp[GD])⟩
def arK{x:Nd}{c d:Int}:N7 [x] c d↔Jt x/\c+DM x<=2000/\d+N3 x<=41:=by
 unfold N7;simp only[List.mem_singleton,forall_eq,GD,Nat.add_zero];exact⟨λa=>⟨a.1.1,a.2,a.1.2⟩,λa=>⟨⟨a.1,a.2.2⟩,a.2.1⟩⟩
def gE{x y:Nd}{c d:Int}:N7 [x,y] c d↔(Jt x/\c+DM x<=2000/\d+N3 x<=41)/\Jt y/\c+DM x+DM y<=2000/\d+N3 y<=41:=by
 unfold N7;simp only[List.mem_cons,List.not_mem_nil,or_false,forall_eq_or_imp,forall_eq,GD,Nat.add_zero,Int.natCast_add];constructor;rintro⟨⟨⟨a,b⟩,c',d'⟩,e⟩;exact⟨⟨a,by omega,b⟩,c',by omega,d'⟩;rintro⟨⟨a,b,c'⟩,d',e,f⟩;exact⟨⟨⟨a,c'⟩,d',f⟩,by omega⟩
abbrev ExS(g:Ck->Nd->Int->Option (Bool×Int))(n:Nd):Prop:=∀(c d:Int),0<=c->c<=2000->0<=d->d<=41->Out (g ⟨c⟩ n d) (Jt n/\c+DM n<=2000/\d+N3 n<=41) (c+DM n)
def Zv{g:Ck->Nd->Int->Option (Bool×Int)}{b a:Ck->Nd->Int->Option (Bool×Int)}{l:Ck->List Nd->Int->Option (Bool×Int)}{n:Nd}(h:ExS g n){c d:Int}(h0:0<=c)(h1:c<=2000)(h2:0<=d)(h3:d<=41) :
   Out (CX g b a l ⟨c⟩ n d) ((Jt n/\PY n)/\c+DM n<=2000/\d+N3 n<=41) (c+DM n):=by
 rw[CX];simp only[KC,Q5,My,T8,Option.bind_some];refine LP (h c d h0 h1 h2 h3) (λhp=>?_) λz hp=>JL λq=>hp ⟨q.1.1,q.2⟩;show Out (Kt (n.kind=11) (Kt (n.unit=Ep) (some (mb (ON n.n),c+DM n)) (some (false,c+DM n))) (some (false,c+DM n))) _ _;rw[bU,bU];exact T7 ⟨λa=>⟨⟨hp.1,a⟩,hp.2⟩,λa=>a.1.2⟩
def tO{g n':Ck->Nd->Int->Option (Bool×Int)}{b:Ck->Nd->Int->Option (Bool×Int)}{l:Ck->List Nd->Int->Option (Bool×Int)}{n:Nd}(hg:∀k∈n.kids,ExS g k)
   (hn:∀k∈n.kids,∀c d:Int,0<=c->c<=2000->0<=d->d<=41->Out (n' ⟨c⟩ k d) ((Jt k/\PY k)/\c+DM k<=2000/\d+N3 k<=41) (c+DM k)) {c d:Int} (h0:0<=c) (h1:c<=2000) (h2:0<=d) (h3:d<=40) :
   Out (CW g b n' l ⟨c⟩ n d) ((n.kids.length=2/\XR n.name/\(n.name=E4->∀k,n.kids[1]?=some k->PY k))/\N7 n.kids c (d+1)) (c+GD n.kids):=by
 rw[CW,G3 (by omega)];simp only[KC,Q5,My];generalize hl:n.kids=ks at *;by_cases hlen:((ks.length:Nat):Int)=2;rotate_left;rw[CH hlen];exact JL λq=>hlen (by have:=q.1.1;omega);rw[CC hlen]
 match ks,hlen with
 | [x,y],_ =>
 simp only[List.getElem?_cons_zero,List.getElem?_cons_succ,Option.bind_some];refine LP (hg x (by simp) c (d+1) h0 h1 (by omega) (by omega)) (λhx=>?_) λz hx=>JL λq=>hx (gE.1 q.2).1;dsimp only;rw[cond_true];have hsz:GD [x,y]=DM x+DM y:=by simp[GD]
 have hy:=λhc=>hg y (by simp) (c+DM x) (d+1) (by omega) hc (by omega) (by omega);have hn':=λhc=>hn y (by simp) (c+DM x) (d+1) (by omega) hc (by omega) (by omega);have hy:=hy hx.2.1;have hn':=hn' hx.2.1;by_cases hs:n.name=E4;rw[CC hs];refine LO hn' ⟨λa=>⟨⟨rfl,.inl hs,λ_ k hk=>by cases hk;exact a.1.2⟩,gE.2 ⟨hx,a.1.1,a.2⟩⟩,λa=>?_⟩ (λa=>by rw[hsz];omega);have:=(gE.1 a.2).2;exact⟨⟨this.1,a.1.2.2 hs y rfl⟩,this.2⟩;rw[CH hs]
 have fin:∀fT:XR n.name,Out ((g ⟨c+DM x⟩ y (d+1)).bind λ(a,b)=>some (a,b)) ((([x,y]:List Nd).length=2/\XR n.name/\(n.name=E4->∀k,some y=some k->PY k))/\N7 [x,y] c (d+1)) (c+GD [x,y]):=λfT =>
   LO hy ⟨λa=>⟨⟨rfl,fT,λe=>absurd e hs⟩,gE.2 ⟨hx,a⟩⟩,λa=>(gE.1 a.2).2⟩ (λa=>by rw[hsz];omega)
 have step:∀{s:ByteArray} {A:Option (Bool×Int)},(n.name=s->XR n.name)->(n.name≠s->Out A ((([x,y]:List Nd).length=2/\XR n.name/\(n.name=E4->∀k,some y=some k->PY k))/\N7 [x,y] c (d+1)) (c+GD [x,y])) ->
     Out (Kt (n.name=s) ((g ⟨c+DM x⟩ y (d+1)).bind λ(a,b)=>some (a,b)) A) ((([x,y]:List Nd).length=2/\XR n.name/\(n.name=E4->∀k,some y=some k->PY k))/\N7 [x,y] c (d+1)) (c+GD [x,y]):=by
   intro s A h4 h5;by_cases h:n.name=s;rw[CC h];exact fin (h4 h);rw[CH h];exact h5 h
 refine step (λe=>by unfold XR;simp[e]) λe1=>?_;refine step (λe=>by unfold XR;simp[e]) λe2=>?_;refine step (λe=>by unfold XR;simp[e]) λe3=>?_;refine step (λe=>by unfold XR;simp[e]) λe4=>?_;refine step (λe=>by unfold XR;simp[e]) λe5=>?_;refine step (λe=>by unfold XR;simp[e]) λe6=>?_;refine step (λe=>by unfold XR;simp[e]) λe7=>?_;refine step (λe=>by unfold XR;simp[e]) λe8=>?_;refine step (λe=>by unfold XR;simp[e]) λe9=>?_;refine step (λe=>by unfold XR;simp[e]) λe10=>?_
 exact JL λq=>by
   have:=q.1.2.1;unfold XR at this;simp[hs,e1,e2,e3,e4,e5,e6,e7,e8,e9,e10] at this
def acP{A L B T:Prop}{x:Int}:(A/\¬x < 0/\¬999999999999 < x/\(T->¬1 < x/\L/\B)/\(¬T->L/\B))↔A/\0<=x/\x<=999999999999/\(T->x<=1)/\L/\B:=by
 constructor;rintro⟨a,b,c,d,e⟩;by_cases t:T;exact⟨a,by omega,by omega,λ_=>by have:=(d t).1;omega,(d t).2⟩;exact⟨a,by omega,by omega,λh=>absurd h t,e t⟩;rintro⟨a,b,c,d,e⟩;exact⟨a,by omega,by omega,λt=>⟨by have:=d t;omega,e⟩,λ_=>e⟩
def aaG:∀(q:Nat) (n:Nd),Ku n->3*DM n<=q->ExS (AH q) n:=by
 intro q
 induction q using Nat.strongRecOn with
 | _ q ih =>
 intro n TW hq c d h0 h1 h2 h3;have hsz:=Ev n;obtain⟨q,rfl⟩:∃k,q=k+1:=⟨q - 1,by omega⟩;obtain⟨pT,hkl,dJ⟩:=XQ TW;have hE:∀k∈n.kids,∀q',q<=q'+2->q' < q+1->ExS (AH q') k:=λk hk q' h4 h5=>ih q' h5 k (dJ k hk) (by have:=KY hk;omega);rw[AH,D4];refine LP (XO n h0 h1) (λhp=>?_) λz hp=>JL λa=>hp ⟨by omega,by have:=M7 n;omega⟩;dsimp only;rw[cond_true];refine Out.congr (P:=RY n/\N7 n.kids (c+1) (d+1)) (t:=(c+1)+GD n.kids) ?_ ?_ (λ_=>by omega);rotate_left;rw[IM,M7];unfold N7;have hd:=@W9 n.kids;constructor;rintro⟨a,b,e⟩;refine⟨⟨a,λk hk=>(b k hk).1⟩,by omega,?_⟩;have:=(hd (m:=(40 - d).toNat)).2 λk hk=>by have:=(b k hk).2;omega
 omega;rintro⟨⟨a,b⟩,e,f⟩;refine⟨a,λk hk=>⟨b k hk,?_⟩,by omega⟩;have:=(hd (m:=dF n.kids)).1 (Nat.le_refl _) k hk;omega;have hc1:=hp.1;have hd1:=hp.2;rw[G3 (a:=d) (b:=1) (by omega)];have e0:(((n.kids.length:Nat):Int)=0)=(n.kids.length=0):=propext (by omega);simp only[KC,SW,OF,Q5,My,rD,pJ,T8,adW,aCE _ pT,WY _ _ pT,Option.bind_some,e0];have Xt:∀{B:Prop},(B↔RY n)->(B->n.kids.length=0)->Out (some (mb B,c+1)) (RY n/\N7 n.kids (c+1) (d+1)) (c+1+GD n.kids):=λhB hk=>(T7 hB).congr ⟨λa=>⟨a,(arJ (hk (hB.2 a)) hc1).1⟩,λa=>a.1⟩ λa=>(arJ (d:=d+1) (hk (hB.2 a.1)) hc1).2
 have hone:∀{B:Prop},(RY n↔B/\n.kids.length=1)->B->n.kids.length=1->Out ((n.kids[0]?).bind λx=>(AH q ⟨c+1⟩ x (d+1)).bind λ(a,b)=>some (a,b)) (RY n/\N7 n.kids (c+1) (d+1)) (c+1+GD n.kids):=by
   intro B hB hb hl;have F0:=λk hk=>hE k hk q (by omega) (by omega);have hx:=hB.2 ⟨hb,hl⟩;generalize n.kids=ks at *
   match ks,hl with
   | [x],_ =>
   simp only[List.getElem?_cons_zero,Option.bind_some];refine LO (F0 x (by simp) (c+1) (d+1) (by omega) hc1 (by omega) (by omega)) ⟨λa=>⟨hx,arK.2 a⟩,λa=>arK.1 a.2⟩ λ_=>?_;simp[GD]
 by_cases k11:n.kind=11;rw[CC k11];simp only[bU,nH,vK];refine Xt ?_ ?_;rw[aGO k11];exact acP;intro h;exact(acP.1 h).2.2.2.2.1;rw[CH k11];by_cases k12:n.kind=12;rw[CC k12];simp only[bU,nH,vK];refine Xt ?_ ?_;rw[aGP k12];intro h;exact h.2.1;rw[CH k12];by_cases k13:n.kind=13;rw[CC k13];simp only[bU,nH,vK];refine Xt ?_ ?_;rw[aGQ k13];intro h;exact h.2.1;rw[CH k13];by_cases k14:n.kind=14;rw[CC k14];simp only[bU,nH,vK];refine Xt ?_ ?_;rw[aGR k14];intro h;exact h.2.1;rw[CH k14];by_cases k15:n.kind=15;rw[CC k15];have e:=aGS k15;refine Hl (λhl=>Hl (λhb=>hone (e.trans And.comm) hb (by omega)) λa=>(e.1 a.1).2) λa=>?_;have:=(e.1 a.1).1;omega;rw[CH k15];by_cases k16:n.kind=16;rw[CC k16];have e:=aGT k16;refine Hl (λhb=>?_) λa=>(e.1 a.1).1;obtain⟨q,rfl⟩:∃k,q=k+1:=⟨q - 1,by omega⟩;rw[AU];refine LO (tO (g:=AH q) (b:=AU q) (n':=AK q) (l:=AG q) (λk hk=>hE k hk q (by omega) (by omega)) (λk hk c d a1 a2 a3 a4=>?_) (by omega) hc1 h2 hd1) ?_ λ_=>rfl;obtain⟨q,rfl⟩:∃k,q=k+1:=⟨q - 1,by have:=RJ hk;have:=Ev k;omega⟩;rw[AK];exact Zv (hE k hk q (by omega) (by omega)) a1 a2 a3 a4;rw[e];exact⟨λa=>⟨⟨hb,a.1⟩,a.2⟩,λa=>⟨a.1.2,a.2⟩⟩;rw[CH k16];by_cases k17:n.kind=17;rw[CC k17];have e:=aGU k17
 have JG:(n.name=Kc\/n.name=Fx)->Out (Kt (F6 n ⟨0,n.name,ByteArray.empty,0,0,0,0,⟨0,[]⟩,[],0⟩) (Kt (2<=((n.kids.length:Nat):Int)) ((AG q ⟨c+1⟩ n.kids (d+1)).bind λ(a,b)=>some (a,b)) (some (false,c+1))) (some (false,c+1))) (RY n/\N7 n.kids (c+1) (d+1)) (c+1+GD n.kids):=by
   intro hn;refine Hl (λhb=>Hl (λhl=>?_) λa=>?_) λa=>(e.1 a.1).2.1;obtain⟨q,rfl⟩:∃k,q=k+1:=⟨q - 1,by have:=Oi n.kids;omega⟩;rw[AG,C9,UY hkl,List.drop_zero];dsimp only;refine LO (QS (g:=AH q) (p:=Jt) (d:=d+1) (by omega) hc1 λk hk c' b0 b1=>hE k hk q (by omega) (by omega) c' (d+1) b0 b1 (by omega) (by omega)) ?_ λ_=>rfl;rw[e];exact⟨λa=>⟨⟨hn,hb,by omega⟩,a⟩,λa=>a.2⟩;have:=(e.1 a.1).2.2;omega
 by_cases hn1:n.name=Kc;rw[CC hn1];exact JG (.inl hn1);rw[CH hn1];exact Hl (λhn2=>JG (.inr hn2)) λa=>(e.1 a.1).1.resolve_left hn1;rw[CH k17];by_cases k18:n.kind=18;rw[CC k18];have e:=aGV k18;refine Hl (λhb=>Hl (λht=>Hl (λhl=>hone (B:=F6 n ⟨0,ByteArray.empty,ByteArray.empty,0,0,0,0,n.CJ,[],0⟩/\jB n.CJ) (e.trans (by rw[and_assoc])) ⟨hb,ht⟩ (by omega)) λa=>?_) λa=>(e.1 a.1).2.1) λa=>(e.1 a.1).1;have:=(e.1 a.1).2.2;omega;rw[CH k18];exact JL λa=>by have:=ajQ a.1;omega
def Le{β:Type}(a b:Option β):Prop:=∀y,a=some y->b=some y
section
variable {α β γ δ ρ:Type}
def Le.refl(a:Option β):Le a a:=λ_ h=>h
def N8{a a':Option α}{f g:α->Option β}(h:Le a a')(k:∀x,Le (f x) (g x)):Le (a.bind f) (a'.bind g):=by
 intro y hy;cases a with
 | none=>cases hy
 | some x=>rw[h x rfl];exact k x y hy
def qF{b:Bool}{x x' y y':Option β}(h:Le x x')(k:Le y y'):Le (cond b x y) (cond b x' y'):=by cases b;exact k;exact h
def avY{n:Nat}{x x':Option β}(h:Le x x'):Le (Sx n x) (Sx n x'):=by
 unfold Sx;split;exact h;exact Le.refl _
def qG{body aqJ:Nat->α->γ->Option (Lp γ δ ρ)}{done:γ->δ}(h:∀i y x,Le (body i y x) (aqJ i y x)):∀(l:List α) (i:Nat) (x:γ),Le (Dh body done l i x) (Dh aqJ done l i x)
 | [],_,_=>Le.refl _
 | a::l,i,x=>by
   rw[Dh,Dh];refine N8 (h i a x) λz=>?_;cases z with
   | nx x'=>exact qG h l (i+1) x'
   | ex d=>exact Le.refl _
   | rt v=>exact Le.refl _
end
def aP:∀q:Nat,(∀c n d,Le (AH q c n d) (AH (q+1) c n d))/\(∀c n d,Le (AU q c n d) (AU (q+1) c n d))/\(∀c n d,Le (AK q c n d) (AK (q+1) c n d))/\(∀c n d,Le (AG q c n d) (AG (q+1) c n d))
 | 0=>⟨(λ_ _ _ _ h=>nomatch h),(λ_ _ _ _ h=>nomatch h),(λ_ _ _ _ h=>nomatch h),(λ_ _ _ _ h=>nomatch h)⟩
 | q+1=>by
   obtain⟨i1,i2,i3,i4⟩:=aP q;refine⟨λc n d=>?_,λc n d=>?_,λc n d=>?_,λc n d=>?_⟩
   · rw[AH,AH,D4,D4]
     repeat' first
       | exact Le.refl _
       | exact i1 _ _ _
       | exact i2 _ _ _
       | exact i4 _ _ _
       | refine qF ?_ ?_
       | refine N8 ?_ λ⟨_,_⟩=>?_
       | refine N8 ?_ λ_=>?_
   · rw[AU,AU,CW,CW]
     repeat' first
       | exact Le.refl _
       | exact i1 _ _ _
       | exact i3 _ _ _
       | refine qF ?_ ?_
       | refine N8 ?_ λ⟨_,_⟩=>?_
       | refine N8 ?_ λ_=>?_
   rw[AK,AK,CX,CX];exact N8 (i1 _ _ _) λ_=>Le.refl _;rw[AG,AG,C9,C9];refine N8 (avY (qG (λi y x=>?_) _ _ _)) λ_=>Le.refl _;rw[DG,DG];exact N8 (i1 _ _ _) λ_=>Le.refl _
def aaF{β:Type}{f:Nat->Option β}(h:∀q,Le (f q) (f (q+1))){q:Nat}{y:β}(hy:f q=some y):uC f=some y:=by
 refine SM q λm hm=>?_
 induction m with
 | zero=>obtain rfl:q=0:=by omega
         exact hy
 | succ m ih =>
   rcases Nat.lt_or_ge m q with hlt | hge
   obtain rfl:q=m+1:=by omega
   exact hy;exact h m y (ih hge)
def aaH{n:Nd}(TW:Ku n):ExS Gv n:=by
 intro c d h0 h1 h2 h3;obtain⟨z,hz,hz2⟩:=aaG (3*DM n) n TW (Nat.le_refl _) c d h0 h1 h2 h3;exact⟨z,aaF (λq=>(aP q).1 _ _ _) hz,hz2⟩
def adO{n:Nd}(TW:Ku n){c d:Int}(h0:0<=c)(h1:c<=2000)(h2:0<=d)(h3:d<=41):Out (FA ⟨c⟩ n d) ((Jt n/\PY n)/\c+DM n<=2000/\d+N3 n<=41) (c+DM n):=by
 obtain⟨z,hz,hz2⟩:=Zv (g:=AH (3*DM n)) (b:=AU (3*DM n)) (a:=AK (3*DM n)) (l:=AG (3*DM n)) (aaG (3*DM n) n TW (Nat.le_refl _)) h0 h1 h2 h3;exact⟨z,aaF (q:=3*DM n+1) (λq=>(aP q).2.2.1 _ _ _) (by rw[AK];exact hz),hz2⟩
end Mo
end Go.Proofs.YtpbkhogolfegfaaGreatDoor
namespace Go.Proofs.YtpbkhogolfegfaaGreatDoor
open AI Go
namespace Mo
set_option maxRecDepth 100000
set_option maxHeartbeats 4000000
abbrev z0:Nd:=⟨0,ByteArray.empty,ByteArray.empty,0,0,0,0,⟨0,[]⟩,[],0⟩
def awR(n:Int):Gb n=some (mb (zK n)):=by
 rw[Gb];simp only[SW,My,gI,awC];rfl
def Qo(n:Nd):Prop:=n.kind=5/\(0<=n.n/\n.n<=1000000)/\n.kids.length=0/\zK n.fr/\(n.fr < n.to/\n.to<=36525)/\zK n.known/\F6 n ⟨0,ByteArray.empty,ByteArray.empty,n.n,n.fr,n.to,n.known,⟨0,[]⟩,[],0⟩
def J0(n:Nd):Prop:=F6 n z0/\(n.kind=7->0 < n.kids.length/\∀k∈n.kids,Jt k/\PY k)/\(n.kind≠7->n.kids.length=1/\∀k∈n.kids,Jt k)
def qH{n:Nd}(h:n.kids.length=0):DM n=1/\N3 n=1:=by
 have:=List.eq_nil_of_length_eq_zero h;rw[Ev,M7,this];exact⟨rfl,rfl⟩
def auL{n:Nd}(TW:Ku n){c d:Int}(h0:0<=c)(h1:c<=2000):Out (EZ ⟨c⟩ n d) (Qo n/\c+DM n<=2000/\d+N3 n<=41) (c+DM n):=by
 obtain⟨pT,hkl,dJ⟩:=XQ TW;have hsz:=Ev n;have hdp:=M7 n;rw[EZ];refine LP (XO n h0 h1) (λhp=>?_) λz hp=>JL λa=>hp ⟨by omega,by omega⟩;dsimp only;rw[cond_true];simp only[KC,SW,OF,My,awR,WY _ _ pT,Option.bind_some,bU,nH]
 have key:(n.kind=5/\¬n.n < 0/\¬1000000 < n.n/\¬(0:Int) < ((n.kids.length:Nat):Int)/\zK n.fr/\¬n.to<=n.fr/\¬36525 < n.to/\zK n.known/\F6 n ⟨0,ByteArray.empty,ByteArray.empty,n.n,n.fr,n.to,n.known,⟨0,[]⟩,[],0⟩)↔Qo n:=by
   unfold Qo;constructor;rintro⟨a,b,c',e,f,g,h,i,j⟩;exact⟨a,⟨by omega,by omega⟩,by omega,f,⟨by omega,by omega⟩,i,j⟩;rintro⟨a,b,c',f,g,i,j⟩;exact⟨a,by omega,by omega,by omega,f,by omega,by omega,i,j⟩
 refine(T7 key).congr ⟨λa=>⟨a,?_⟩,λa=>a.1⟩ λa=>?_;have:=qH a.2.2.1;omega;have:=qH a.1.2.2.1;omega
def yY{n:Nd}(TW:Ku n){c d:Int}(h0:0<=c)(h1:c<=2000)(h2:0<=d):Out (Dz ⟨c⟩ n d) (J0 n/\c+DM n<=2000/\d+N3 n<=41) (c+DM n):=by
 obtain⟨pT,hkl,dJ⟩:=XQ TW;have hsz:=Ev n;have hdp:=M7 n;have hd:=@W9 n.kids;rw[Dz];refine LP (XO n h0 h1) (λhp=>?_) λz hp=>JL λa=>hp ⟨by omega,by omega⟩;dsimp only;rw[cond_true,G3 (a:=d) (b:=1) (by omega)];simp only[KC,OF,My,WY _ _ pT,Option.bind_some];have hc1:=hp.1;have hd1:=hp.2
 have RA:(∀k∈n.kids,d+1+N3 k<=41)↔d+N3 n<=41:=by
   constructor;intro h;have:=(hd (m:=(40 - d).toNat)).2 λk hk=>by have:=h k hk;omega
   omega;intro h k hk;have:=(hd (m:=dF n.kids)).1 (Nat.le_refl _) k hk;omega
 refine Hl (λhb=>?_) λa=>a.1.1;by_cases k7:n.kind=7;rw[CC k7];refine Hl (λhl=>?_) λa=>by have:=(a.1.2.1 k7).1;omega
 rw[Es,UY hkl,List.drop_zero];dsimp only;refine LO (QS (g:=FA) (p:=λk=>Jt k/\PY k) (d:=d+1) (by omega) hc1 λk hk c' b0 b1=>adO (dJ k hk) b0 b1 (by omega) (by omega)) ⟨λa=>⟨⟨hb,λ_=>⟨by omega,λk hk=>(a.1 k hk).1⟩,λh=>absurd k7 h⟩,by omega,RA.1 λk hk=>(a.1 k hk).2⟩,λa=>⟨λk hk=>⟨(a.1.2.1 k7).2 k hk,RA.2 a.2.2 k hk⟩,by omega⟩⟩ λ_=>by omega
 · rw[CH k7]
   refine Hl (λhl=>?_) λa=>by have:=(a.1.2.2 k7).1;omega
   have hl1:n.kids.length=1:=by omega
   unfold J0;generalize n.kids=ks at *
   match ks,hl1 with
   | [x],_ =>
   simp only[List.getElem?_cons_zero,Option.bind_some];have e1:GD [x]=DM x:=by simp[GD]
   refine LO (aaH (dJ x (by simp)) (c+1) (d+1) (by omega) hc1 (by omega) (by omega)) ⟨λa=>⟨⟨hb,λh=>absurd h k7,λ_=>⟨rfl,λk hk=>by rw[List.mem_singleton.1 hk];exact a.1⟩⟩,by omega,RA.1 λk hk=>by rw[List.mem_singleton.1 hk];exact a.2.2⟩,λa=>⟨(a.1.2.2 k7).2 x (by simp),by omega,RA.2 a.2.2 x (by simp)⟩⟩ λ_=>by omega
def GK(k:Int):List Nd->Nat
 | []=>0
 | a::l=>(if a.kind=k then 1 else 0)+GK k l
def kinds(l:List Nd):Prop:=∀k∈l,6<=k.kind/\k.kind<=8
def XC{y:Int}:∀{l:List Nd} {i:Nat} {a b c:Int},0<=a->0<=b->0<=c->a+l.length<=9223372036854775807->b+l.length<=9223372036854775807->c+l.length<=9223372036854775807 ->
   Dh (λi z x=>DO y i z x.1 x.2.1 x.2.2) (λx=>(x.1,x.2.1,x.2.2)) l i (a,b,c)=some (Kt (kinds l) (.inl (a+GK 6 l,b+GK 7 l,c+GK 8 l)) (.inr (false,y)))
 | [],i,a,b,c,_,_,_,_,_,_=>by rw[CC (show kinds [] from λk hk=>(by cases hk))];simp[Dh,GK]
 | z::l,i,a,b,c,h1,h2,h3,h4,h5,h6=>by
   simp only[List.length_cons] at h4 h5 h6;rw[Dh,DO];simp only[OF,KC,My];have hk:kinds (z::l)↔(6<=z.kind/\z.kind<=8)/\kinds l:=by unfold kinds;simp
   have go:∀{a' b' c':Int},0<=a'->0<=b'->0<=c'->a'<=a+1->b'<=b+1->c'<=c+1->6<=z.kind/\z.kind<=8->a'+GK 6 l=a+GK 6 (z::l)->b'+GK 7 l=b+GK 7 (z::l)->c'+GK 8 l=c+GK 8 (z::l) ->
       (some (Lp.nx (a',b',c'))).bind (Q8 (Dh (λi z x=>DO y i z x.1 x.2.1 x.2.2) (λx=>(x.1,x.2.1,x.2.2)) l (i+1)))=some (Kt (kinds (z::l)) (.inl (a+GK 6 (z::l),b+GK 7 (z::l),c+GK 8 (z::l))) (.inr (false,y))):=by
     intro a' b' c' g1 g2 g3 g4 g5 g6 gk e1 e2 e3;show Dh _ _ l (i+1) (a',b',c')=_;rw[XC g1 g2 g3 (by omega) (by omega) (by omega),e1,e2,e3];by_cases hl:kinds l;rw[CC hl,CC (hk.2 ⟨gk,hl⟩)];rw[CH hl,CH λq=>hl (hk.1 q).2]
   by_cases k6:z.kind < 6;rw[CC k6,CH λq=>by have:=(hk.1 q).1;omega];rfl;rw[CH k6];by_cases k8:8 < z.kind;rw[CC k8,CH λq=>by have:=(hk.1 q).1;omega];rfl;rw[CH k8];by_cases e6:z.kind=6;rw[CC e6,G3 (by omega)];exact go (by omega) h2 h3 (by omega) (by omega) (by omega) (by omega) (by simp[GK,e6];omega) (by simp[GK,e6]) (by simp[GK,e6]);rw[CH e6];by_cases e7:z.kind=7;rw[CC e7,G3 (by omega)];exact go h1 (by omega) h3 (by omega) (by omega) (by omega) (by omega) (by simp[GK,e7]) (by simp[GK,e7];omega) (by simp[GK,e7]);rw[CH e7];have e8:z.kind=8:=by omega
   rw[CC e8,G3 (by omega)];exact go h1 h2 (by omega) (by omega) (by omega) (by omega) (by omega) (by simp[GK,e8]) (by simp[GK,e8]) (by simp[GK,e8];omega)
def tH(n:Nd):Prop:=ON n.n/\Qt n.name/\F6 n ⟨0,n.name,ByteArray.empty,n.n,0,0,0,⟨0,[]⟩,[],0⟩/\∃h cs,n.kids=h::cs/\kinds cs/\GK 8 cs=1/\GK 7 cs<=1/\Qo h/\∀k∈cs,J0 k
def Ib(n:Nd):Prop :=
 (n.kind=2/\Qt n.name/\Un n.unit/\n.kids.length=0/\F6 n ⟨0,n.name,n.unit,0,0,0,0,⟨0,[]⟩,[],0⟩) \/
 (n.kind=3/\Qt n.name/\Un n.unit/\1<=n.n/\n.n<=4/\n.kids.length=0/\F6 n ⟨0,n.name,n.unit,n.n,0,0,0,⟨0,[]⟩,[],0⟩) \/
 (n.kind=4/\tH n)
def it2{n:Nd}(h:n.kind=2):Ib n↔Qt n.name/\Un n.unit/\n.kids.length=0/\F6 n ⟨0,n.name,n.unit,0,0,0,0,⟨0,[]⟩,[],0⟩:=by unfold Ib;simp[h]
def it3{n:Nd}(h:n.kind=3):Ib n↔Qt n.name/\Un n.unit/\1<=n.n/\n.n<=4/\n.kids.length=0/\F6 n ⟨0,n.name,n.unit,n.n,0,0,0,⟨0,[]⟩,[],0⟩:=by unfold Ib;simp[h]
def it4{n:Nd}(h:n.kind=4):Ib n↔tH n:=by unfold Ib;simp[h]
def akW{n:Nd}(h:Ib n):n.kind=2\/n.kind=3\/n.kind=4:=by
 unfold Ib at h;rcases h with h | h | h
 all_goals
   have:=h.1;simp[this]
def avQ{n:Nd}(TW:Ku n){c d:Int}(h0:0<=c)(h1:c<=2000)(h2:0<=d):Out (D5 ⟨c⟩ n d) (Ib n/\c+DM n<=2000/\d+N3 n<=41) (c+DM n):=by
 obtain⟨pT,hkl,dJ⟩:=XQ TW;have hsz:=Ev n;have hdp:=M7 n;have hd:=@W9 n.kids;rw[D5];refine LP (XO n h0 h1) (λhp=>?_) λz hp=>JL λa=>hp ⟨by omega,by omega⟩;dsimp only;rw[cond_true,G3 (a:=d) (b:=1) (by omega)];have e0:(((n.kids.length:Nat):Int)=0)=(n.kids.length=0):=propext (by omega);simp only[KC,SW,OF,My,rD,pJ,T8,WY _ _ pT,Option.bind_some,e0];have hc1:=hp.1;have hd1:=hp.2;have Xt:∀{B:Prop},(B↔Ib n)->(B->n.kids.length=0)->Out (some (mb B,c+1)) (Ib n/\c+DM n<=2000/\d+N3 n<=41) (c+DM n):=λhB hk=>(T7 hB).congr ⟨λa=>⟨a,by have:=qH (hk (hB.2 a));omega⟩,λa=>a.1⟩ λa=>by have:=qH (hk (hB.2 a.1));omega
 by_cases k2:n.kind=2;rw[CC k2];simp only[bU,nH,vK];refine Xt ?_ ?_;rw[it2 k2];intro h;exact h.2.2.1;rw[CH k2];by_cases k3:n.kind=3;rw[CC k3];simp only[bU,nH,vK];refine Xt ?_ ?_;rw[it3 k3];intro h;exact h.2.2.2.2.1;rw[CH k3];by_cases k4:n.kind=4;rotate_left;rw[CH k4];exact JL λa=>by have:=akW a.1;omega
 rw[CC k4,it4 k4];refine Hl (λhr=>Hl (λhn=>Hl (λhb=>?_) λa=>a.1.2.2.1) λa=>a.1.2.1) λa=>a.1.1;refine gY (λhl0=>?_) λa h=>by obtain⟨h',cs,hk,_⟩:=a.1.2.2.2;rw[hk] at h;simp at h
 have RA:(∀k∈n.kids,d+1+N3 k<=41)↔d+N3 n<=41:=by
   constructor;intro h;have:=(hd (m:=(40 - d).toNat)).2 λk hk=>by have:=h k hk;omega
   omega;intro h k hk;have:=(hd (m:=dF n.kids)).1 (Nat.le_refl _) k hk;omega
 unfold tH;generalize n.kids=ks at *
 match ks,hl0 with
 | x::l,_ =>
 have Lg:afQ (x::l) 1 (((x::l).length:Nat):Int)=some l:=by
   unfold afQ;rw[if_pos (by simp only[List.length_cons];omega)];simp
 rw[Lg];simp only[Option.bind_some,List.length_cons] at hkl ⊢
 have e2:∀{A:Prop},(∃h cs,x::l=h::cs/\kinds cs/\GK 8 cs=1/\GK 7 cs<=1/\Qo h/\∀k∈cs,J0 k)↔(kinds l/\GK 8 l=1/\GK 7 l<=1/\Qo x/\∀k∈l,J0 k):=by
   intro _;constructor;rintro⟨h,cs,e,r⟩;cases e;exact r;intro r;exact⟨x,l,rfl,r⟩
 rw[UY (by omega),List.drop_zero,XC (by omega) (by omega) (by omega) (by omega) (by omega) (by omega)];simp only[Option.bind_some];by_cases hK:kinds l;rotate_left;rw[CH hK];show Out (some (false,c+1)) _ _;exact JL λa=>hK ((e2 (A:=True)).1 a.1.2.2.2).1;rw[CC hK];show Out (Kt ((0:Int)+GK 8 l=1) (Kt (1 < (0:Int)+GK 7 l) (some (false,c+1)) _) (some (false,c+1))) _ _;refine Hl (λh8=>gY (λh7=>?_) λa=>?_) λa=>?_;rotate_left;have:=((e2 (A:=True)).1 a.1.2.2.2).2.2.1;omega;have:=((e2 (A:=True)).1 a.1.2.2.2).2.1;omega;simp only[List.getElem?_cons_zero,Option.bind_some];have hdx:=λh=>RA.2 h x (by simp);have hsl:GD (x::l)=DM x+GD l:=by simp[GD]
 refine LP (auL (dJ x (by simp)) (c:=c+1) (d:=d+1) (by omega) hc1) (λhx=>?_) λz hx=>JL λa=>hx ⟨((e2 (A:=True)).1 a.1.2.2.2).2.2.2.1,by omega,hdx a.2.2⟩;dsimp only;rw[cond_true,Er,UY (by omega),List.drop_zero];dsimp only;refine LO (QS (g:=Dz) (p:=J0) (d:=d+1) (by omega) hx.2.1 λk hk c' b0 b1=>yY (dJ k (by simp[hk])) b0 b1 (by omega)) ?_ λ_=>by omega
 constructor;rintro⟨a,b⟩;refine⟨⟨hr,hn,hb,(e2 (A:=True)).2 ⟨hK,by omega,by omega,hx.1,λk hk=>(a k hk).1⟩⟩,by omega,RA.1 λk hk=>?_⟩;rcases List.mem_cons.1 hk with rfl | hk
 exact hx.2.2;exact(a k hk).2;rintro⟨a,b,e⟩;exact⟨λk hk=>⟨((e2 (A:=True)).1 a.2.2.2).2.2.2.2 k hk,RA.2 e k (by simp[hk])⟩,by omega⟩
def okV(n:Nd):Prop:=((n.kind=1/\F6 n z0/\∀k∈n.kids,Ib k)\/(n.kind≠1/\Jt n))/\DM n<=2000/\N3 n<=40
def Ur{n:Nd}(TW:Ku n):Di n=some (mb (okV n)):=by
 obtain⟨pT,hkl,dJ⟩:=XQ TW;have hsz:=Ev n;have hdp:=M7 n;have hd:=@W9 n.kids;rw[Di,KC,My]
 have fin:∀{r:Option (Bool×Int)} {P:Prop} {t:Int},Out r P t->(P↔okV n)->(r.bind λ(a,_)=>some a)=some (mb (okV n)):=by
   rintro r P t ⟨z,rfl,_⟩ h;rw[LM h];rfl
 by_cases k1:n.kind=1;rotate_left;rw[CH k1];refine fin (aaH TW 0 1 (by omega) (by omega) (by omega) (by omega)) ?_;unfold okV;constructor;rintro⟨a,b,c⟩;exact⟨.inr ⟨k1,a⟩,by omega,by omega⟩;rintro⟨a | a,b,c⟩;exact absurd a.1 k1;exact⟨a.2,by omega,by omega⟩;rw[CC k1];obtain⟨z,hz,hz2⟩:=XO n (c:=0) (d:=1) (by omega) (by omega);rw[hz];simp only[Option.bind_some,WY _ _ pT,My];by_cases h1:(0:Int)+1<=2000/\(1:Int)<=40;rotate_left;exact absurd ⟨by omega,by omega⟩ h1;rw[CC h1,hz2 h1];by_cases hb:F6 n z0;rotate_left;rw[CH hb];refine cM ?_;rintro⟨a | a,_⟩;exact hb a.2.1;exact a.1 k1;rw[CC hb,ET,UY hkl,List.drop_zero];dsimp only;refine fin (QS (g:=D5) (p:=Ib) (d:=2) (by omega) (by omega) λk hk c' b0 b1=>avQ (dJ k hk) b0 b1 (by omega)) ?_;unfold okV;constructor;rintro⟨a,b⟩;refine⟨.inl ⟨k1,hb,λk hk=>(a k hk).1⟩,by omega,?_⟩;have:=(hd (m:=39)).2 λk hk=>by have:=(a k hk).2;omega
 omega;rintro⟨a | a,b,e⟩;refine⟨λk hk=>⟨a.2.2 k hk,?_⟩,by omega⟩;have:=(hd (m:=dF n.kids)).1 (Nat.le_refl _) k hk;omega;exact absurd k1 a.1
end Mo
end Go.Proofs.YtpbkhogolfegfaaGreatDoor
namespace Go.Proofs.YtpbkhogolfegfaaGreatDoor
open AI Go
namespace Mo
set_option maxRecDepth 100000
abbrev Rd(α:Type):=List Tk->Option ((α⊕Dg)×List Tk)
section
variable {α β:Type}
def Fw(a:α):Rd α:=λl=>some (.inl a,l)
def L2(e p:Int):Rd α:=λl=>some (.inr ⟨e,p⟩,l)
def Cp(m:Rd α)(k:α->Rd β):Rd β:=λl=>match m l with
 | none=>none
 | some (.inl a,s)=>k a s
 | some (.inr d,s)=>some (.inr d,s)
def K4(x:Option α)(k:α->Rd β):Rd β:=λl=>match x with
 | none=>none
 | some a=>k a l
def Ua(en:Int)(k:Tk->Rd β):Rd β:=λl=>match l with
 | []=>some (.inr ⟨72,en⟩,[])
 | t::s=>k t (t::s)
def UC(k:Rd β):Rd β:=λl=>match l with
 | []=>none
 | _::s=>k s
def IW(x:ByteArray):List Tk->Bool
 | []=>false
 | t::_=>BY t.text.data.toList x.data.toList
def ND(x:ByteArray)(yes no:Rd β):Rd β:=λl=>cond (IW x l) (UC yes l) (no l)
end
def KZ(en:Int)(fits:Tk->Option Bool):Rd Tk:=Ua en λt=>K4 (fits t) λb=>cond b (UC (Fw t)) (L2 71 t.AF)
def I9(en:Int)(x:ByteArray):Rd Tk:=KZ en λt=>Dl t x
def qO(en:Int):Rd Tk:=KZ en Cr
def agL(en:Int):Rd Tk:=KZ en EQ
def rL(en:Int):Rd Tk:=KZ en BS
def MD(en:Int):Rd (Int×Int):=Cp (KZ en Ea) λt=>K4 (QX t.text) λn=>Fw (n.1,t.AF)
def Lm(en least:Int):Rd (Int×Int):=Cp (MD en) λp=>cond (EK p.1 least) (L2 3 p.2) (cond (EK 1000000 p.1) (L2 3 p.2) (Fw p))
def TQ(en least:Int):Rd Int:=Cp (KZ en Ez) λt=>K4 (E6 t.text) λd=>cond (DV d.2 0) (cond (EK d.1 least) (L2 21 t.AF) (Fw d.1)) (L2 21 t.AF)
abbrev bE:ByteArray:=ByteArray.empty
def EP(kind:Int)(name unit:ByteArray)(n:Int)(kids:List Nd)(p:Int):Nd:=⟨kind,name,unit,n,0,0,0,⟨0,[]⟩,kids,p⟩
def Zm(en:Int):Rd Nd:=Cp (I9 en rF) λt=>Cp (Lm en 0) λn=>Cp (I9 en pI) λ_=>Cp (TQ en 0) λf =>
 ND toS (Cp (TQ en (BQ f 1)) λu=>Cp (I9 en US) λ_=>Cp (TQ en 0) λk=>Fw ⟨5,bE,bE,n.1,f,u,k,⟨0,[]⟩,[],t.AF⟩)
   (Cp (I9 en US) λ_=>Cp (TQ en 0) λk=>Fw ⟨5,bE,bE,n.1,f,36525,k,⟨0,[]⟩,[],t.AF⟩)
def TS(en:Int):Rd Nd:=Ua en λt=>UC<|Cp (qO en) λm=>Cp (I9 en iD) λ_=>Cp (agL en) λu =>
 cond (BY t.text.data.toList N9.data.toList)
   (Cp (rL en) λr=>K4 (Ef r.text) λn=>Cp (I9 en V1) λ_=>Fw (EP 3 m.text u.text n [] t.AF))
   (Cp (I9 en V1) λ_=>Fw (EP 2 m.text u.text 0 [] t.AF))
def F7(en:Int):Rd Nd:=Cp (Lm en 1) λp=>Fw (EP 11 bE Ep p.1 [] p.2)
def NX{β:Type}(n:Nat)(m:Rd β):Rd β:=λs=>OE n (m s)
def Qs(read:Rd Nd):Nat->List Nd->Rd (List Nd)
 | 0,_=>λ_=>none
 | q+1,l=>ND bZ (Cp read λn=>NX (l.length+1) (Qs read q (l++[n]))) (Fw l)
def Re(read:Rd Nd):Rd (List Nd):=Cp read λn s=>Qs read (s.length+1) [n] s
def NM(en:Int):Rd (Int×Int):=Cp (KZ en C6) λt=>K4 (Cl t) λc=>cond (DV t.kind 3) (cond (DV c 0) (Fw (c,t.AF)) (L2 3 t.AF)) (Fw (c,t.AF))
def VL(en:Int):Rd Int:=Cp (KZ en EC) λt=>cond (BY t.text.data.toList ML.data.toList) (Fw (-1)) (Fw 1)
def lR:Nat->Int->Int->Int
 | 0,a,_=>a
 | n+1,a,b=>if b=0 then a else lR n b (a % b)
def aaQ(a b:Int):Option Int:=if 1<=a/\0<=b then some (lR (b.toNat+1) a b) else none
def Oe(en Ax from_ a:Int):Rd (Pt×Int):=Cp (VL en) λs=>Cp (Lm en 0) λm=>Cp (I9 en E4) λ_=>Cp (Lm en 1) λd =>
 K4 (aaQ Ax d.1) λg=>K4 (RX Ax g) λz=>cond (EK 1000000 (BM z d.1)) (L2 2 d.2) (Fw (⟨from_,a,BM m.1 s,d.1⟩,BM z d.1))
def MI(en Ax from_:Int):Rd (Pt×Int):=Cp (I9 en iD) λ_=>ND ML (Cp (NM en) λa=>Oe en Ax from_ (BM a.1 (-1))) (Cp (NM en) λa=>Oe en Ax from_ (BM a.1 1))
def Ri(en:Int)(before:List Pt)(Ax:Int):Rd (Pt×Int):=Cp (NM en) λv =>
 cond (DV ((before.length:Nat):Int) 0) (cond (DV v.1 0) (MI en Ax v.1) (L2 3 v.2))
   (K4 (before[before.length - 1]?) λq=>cond (SV v.1 q.fr) (L2 3 v.2) (cond (SV 64 ((before.length:Nat):Int)) (L2 2 v.2) (MI en Ax v.1)))
def Lx(en:Int):Nat->List Pt->Int->Rd (List Pt×Int)
 | 0,_,_=>λ_=>none
 | q+1,l,c=>Cp (Ri en l c) λp=>NX (l.length+1) (ND bZ (Lx en q (l++[p.1]) p.2) (Fw (l++[p.1],p.2)))
def LC(c p:Int):List Pt->List Pc->Rd (List Pc)
 | [],acc=>Fw acc
 | x::xs,acc=>K4 (RX c x.den) λz=>cond (EK 1000000 (BM x.num z)) (L2 2 p) (cond (EK (BM x.num z) (-1000000)) (L2 2 p) (NX (acc.length+1) (LC c p xs (acc++[⟨x.fr,BM x.AF c,BM x.num z⟩]))))
inductive Ek where
 | ex | lv (i:Nat) | at_ | wd (t:Tk) | ca | ta
def Ye(en:Int)(g:Ek->Rd Nd):Rd Nd:=Cp (I9 en Qc) λt=>Cp (I9 en bY) λ_=>Cp (g .ex) λa=>Cp (I9 en V1) λ_=>Cp (λs=>Lx en (s.length+1) [] 1 s) λl=>Cp (I9 en nK) λe =>
 NX l.1.length (Cp (LC l.2 e.AF l.1 []) λr=>Fw ⟨18,bE,bE,0,0,0,0,⟨l.2,r⟩,[a],t.AF⟩)
def W4(en:Int)(g:Ek->Rd Nd)(li:Rd (List Nd)):Rd Nd:=Ua en λt=>UC<|Cp (I9 en bY) λ_=>Cp (g .ex) λa=>Cp (I9 en bZ) λ_=>Cp li λl=>NX (1+l.length)<|Cp (I9 en nK) λ_=>Fw (EP 17 t.text bE 0 (a::l) t.AF)
def TP(t:Tk):Rd Nd:=UC (Fw (EP 14 t.text bE 0 [] t.AF))
def Qz(en:Int)(g:Ek->Rd Nd)(t:Tk):Rd Nd :=
 cond (BY t.text.data.toList Yj.data.toList) (UC (Fw (EP 11 bE GH 1 [] t.AF))) <|
 cond (BY t.text.data.toList SN.data.toList) (UC (Fw (EP 11 bE GH 0 [] t.AF))) <|
 cond (BY t.text.data.toList aD.data.toList) (UC (Cp (Lm en 1) λp=>Fw (EP 13 bE bE p.1 [] t.AF))) <|
 cond (BY t.text.data.toList K0.data.toList) (TP t)<|cond (BY t.text.data.toList aL.data.toList) (TP t)<|cond (BY t.text.data.toList PW.data.toList) (TP t)<|cond (BY t.text.data.toList UB.data.toList) (TP t) <|
 cond (BY t.text.data.toList Kc.data.toList) (g .ca)<|cond (BY t.text.data.toList Fx.data.toList) (g .ca)<|cond (BY t.text.data.toList Qc.data.toList) (g .ta) <|
 cond (BY t.text.data.toList bY.data.toList) (UC (Cp (g .ex) λa=>Cp (I9 en nK) λ_=>Fw a)) (L2 71 t.AF)
def WX(en:Int)(g:Ek->Rd Nd):Rd Nd:=Ua en λt =>
 cond (DV t.kind 3) (Cp (MD en) λn=>ND alK (Fw (EP 11 bE Je n.1 [] n.2)) (Fw (EP 11 bE Ep n.1 [] n.2)))
   (cond (DV t.kind 2) (UC (Cp (KZ en DP) λa=>K4 (Cl a) λc=>Fw (EP 11 bE t.text c [] t.AF)))
     (K4 (Cr t) λb=>cond b (UC (Fw (EP 12 t.text bE 0 [] t.AF))) (g (.wd t))))
def opsOf:Nat->List ByteArray
 | 0=>[gW]
 | 1=>[OY]
 | 3=>[Jj,Kf,Kv,JN,JO,Hc]
 | 4=>[Rj,ML]
 | 5=>[S9,E4,eE]
 | _=>[]
def kO{β:Type}(yes:ByteArray->Rd β)(no:Rd β):List ByteArray->Rd β
 | []=>no
 | x::xs=>ND x (yes x) (kO yes no xs)
def P5(en:Int)(sub:Rd Nd)(op:ByteArray)(l:Nd):Rd Nd:=Cp (cond (BY op.data.toList E4.data.toList) (F7 en) sub) λr=>K4 (A7 op l r) λb=>Fw b
def KB(en:Int)(ops:List ByteArray)(sub:Rd Nd):Nat->Nd->Rd Nd
 | 0,_=>λ_=>none
 | q+1,l=>kO (λop=>Cp (P5 en sub op l) λb=>KB en ops sub q b) (Fw l) ops
def Ni(en:Int)(g:Ek->Rd Nd)(i:Nat):Rd Nd:=Cp (g (.lv (i+1))) λl s=>KB en (opsOf i) (g (.lv (i+1))) (s.length+1) l s
def eU(en:Int)(g:Ek->Rd Nd):Rd Nd:=Cp (g (.lv 4)) λl=>kO (λop=>P5 en (g (.lv 4)) op l) (Fw l) (opsOf 3)
def XP(en:Int)(g:Ek->Rd Nd):Rd Nd:=λs=>cond (IW T5 s) (Cp (I9 en T5) (λt=>Cp (g (.lv 2)) λk=>Fw (EP 15 bE bE 0 [k] t.AF)) s) (g (.lv 3) s)
def Oh(en:Int)(g:Ek->Rd Nd)(li:Rd (List Nd)):Ek->Rd Nd
 | .ex=>g (.lv 0)
 | .lv 2=>XP en g
 | .lv 3=>eU en g
 | .lv 6=>g .at_
 | .lv i=>Ni en g i
 | .at_=>WX en g
 | .wd t=>Qz en g t
 | .ca=>W4 en g li
 | .ta=>Ye en g
def gP(en:Int):Nat->(Ek->Rd Nd)×Rd (List Nd)
 | 0=>(λ_ _=>none,λ_=>none)
 | q+1=>(Oh en (gP en q).1 (gP en q).2,Re ((gP en q).1 .ex))
def Js(en:Int)(ex:Rd Nd)(kind:Int):Rd Nd:=Ua en λt=>UC <|
 cond (DV kind 7) (Cp (Re (F7 en)) λl=>Cp (I9 en V1) λ_=>Fw (EP kind bE bE 0 l t.AF)) (Cp ex λe=>Cp (I9 en V1) λ_=>Fw (EP kind bE bE 0 [e] t.AF))
def ID(en:Int)(ex:Rd Nd)(mk:List Nd->Nd):Nat->List Nd->Bool->Bool->Rd Nd
 | 0,_,_,_=>λ_=>none
 | q+1,l,un,am=>Ua en λt =>
   cond (BY t.text.data.toList Z2.data.toList) (Cp (Js en ex 6) λc=>NX (l.length+1) (ID en ex mk q (l++[c]) un am)) <|
   cond (BY t.text.data.toList RM.data.toList) (cond un (L2 5 t.AF) (Cp (Js en ex 7) λc=>NX (l.length+1) (ID en ex mk q (l++[c]) true am))) <|
   cond (BY t.text.data.toList PH.data.toList) (cond am (L2 5 t.AF) (Cp (Js en ex 8) λc=>NX (l.length+1) (ID en ex mk q (l++[c]) un true))) <|
   cond (BY t.text.data.toList amL.data.toList) (cond am (UC (Fw (mk l))) (L2 71 t.AF)) (L2 71 t.AF)
def OZ(en:Int)(ex:Rd Nd):Rd Nd:=Cp (I9 en Hq) λt=>Cp (Lm en 1) λn=>Cp (I9 en aaM) λ_=>Cp (qO en) λm=>Cp (Zm en) λh=>Cp (I9 en awY) λ_=>λs =>
 ID en ex (λl=>EP 4 m.text bE n.1 l t.AF) (s.length+1) [h] false false s
def Rc(en:Int)(ex:Rd Nd):Rd Nd:=Ua en λt =>
 cond (BY t.text.data.toList Sk.data.toList) (TS en)<|cond (BY t.text.data.toList N9.data.toList) (TS en)<|cond (BY t.text.data.toList Hq.data.toList) (OZ en ex) (L2 71 t.AF)
end Mo
end Go.Proofs.YtpbkhogolfegfaaGreatDoor
namespace Go.Proofs.YtpbkhogolfegfaaGreatDoor
open AI Go
namespace Mo
set_option maxRecDepth 100000
theorem fI:∀(n:Nat) (a b:Int),1<=a->0<=b->b < n->∃m,GL (λx:Int×Int=>D0 x.1 x.2) m (a,b)=some (.inl (lR n a b))/\1<=lR n a b/\lR n a b∣a/\lR n a b∣b:=by
 intro n
 induction n with
 | zero=>intro a b h1 h2 h3;omega
 | succ n ih =>
   intro a b h1 h2 h3;unfold lR;by_cases hb:b=0;rw[if_pos hb];subst hb;refine⟨1,?_,h1,Int.dvd_refl a,Int.dvd_zero a⟩;show(D0 a 0).bind _=_;rw[D0,N5 rfl];rfl;rw[if_neg hb];obtain⟨m,h4,h5,h6,h7⟩:=ih b (a % b) (by omega) (Int.emod_nonneg a hb) (by have:=Int.emod_lt_of_pos a (show 0 < b by omega);omega);refine⟨m+1,?_,h5,?_,h6⟩;show(D0 a b).bind _=_;rw[D0,Sj hb]
   have:Xb a b=some (a % b):=by
     unfold Xb jM;rw[if_neg hb,Int.tmod_eq_emod_of_nonneg (by omega)]
   dsimp only[cond];rw[this];exact h4;have:=Int.dvd_add h7 (Int.dvd_mul_of_dvd_left h6:_∣b*(a / b));rwa[Int.emod_add_mul_ediv] at this
theorem aaR{a b g:Int}(h:aaQ a b=some g):CK a b=some g:=by
 unfold aaQ at h;split at h;rename_i hc;cases h;obtain⟨m,h1,_⟩:=fI (b.toNat+1) a b hc.1 hc.2 (by omega);unfold CK;rw[IN h1];rfl;cases h
theorem aaS{a b:Int}(ha:1<=a)(hb:0<=b):∃g,aaQ a b=some g/\1<=g/\g∣a/\g∣b:=by
 obtain⟨m,_,h1⟩:=fI (b.toNat+1) a b ha hb (by omega);exact⟨_,if_pos ⟨ha,hb⟩,h1⟩
section
variable {α β γ:Type} {ts:List Tk} {k:Nat} {en:Int} {r:α⊕Dg} {l:List Tk}
def IY(ts:List Tk)(k:Nat)(X:Option ((α⊕Dg)×Int))(r:α⊕Dg)(l:List Tk):Prop:=∃k':Nat,k<=k'/\k'<=ts.length/\l=ts.drop k'/\X=some (r,(k':Int))
theorem Ec(hk:k<=ts.length){q:α⊕Dg}{z:Int}(hz:z=(k:Int))(h:some (q,ts.drop k)=some (r,l)):IY ts k (some (q,z)) r l:=by
 simp only[Option.some.injEq,Prod.mk.injEq] at h;exact⟨k,Nat.le_refl k,hk,h.2.symm,by rw[h.1,hz]⟩
theorem KU{k2:Nat}{X:Option ((α⊕Dg)×Int)}(h1:k<=k2)(h:IY ts k2 X r l):IY ts k X r l:=by
 obtain⟨k',a,b,c,d⟩:=h;exact⟨k',Nat.le_trans h1 a,b,c,d⟩
theorem Bz{F1:Option ((γ⊕Dg)×Int)}{F2:(γ⊕Dg)×Int->Option ((α⊕Dg)×Int)}{m:Rd γ}{K:γ->Rd α}
   (h1:∀{r l},m (ts.drop k)=some (r,l)->IY ts k F1 r l)
   (h2:∀a k',k<=k'->k'<=ts.length->K a (ts.drop k')=some (r,l)->IY ts k' (F2 (.inl a,(k':Int))) r l)
   (h3:∀d z,F2 (.inr d,z)=some (.inr d,z)) (hS:Cp m K (ts.drop k)=some (r,l)):IY ts k (F1.bind F2) r l:=by
 unfold Cp at hS;split at hS;cases hS;rename_i a s hm;obtain⟨k',a1,a2,rfl,a4⟩:=h1 hm;rw[a4];exact KU a1 (h2 _ _ a1 a2 hS);rename_i d s hm;obtain⟨k',a1,a2,rfl,a4⟩:=h1 hm;rw[a4,Option.bind_some,h3];simp only[Option.some.injEq,Prod.mk.injEq] at hS;exact⟨k',a1,a2,hS.2.symm,by rw[hS.1]⟩
theorem IQ{X:Option γ}{K:γ->Rd α}{s:List Tk}(h:K4 X K s=some (r,l)):∃a,X=some a/\K a s=some (r,l):=by
 unfold K4 at h;split at h;cases h;exact⟨_,rfl,h⟩
theorem I8(ts:List Tk)(hk:k<=ts.length):(k=ts.length/\ts.drop k=[])\/∃t,k+1<=ts.length/\ts[k]?=some t/\ts.drop k=t::ts.drop (k+1):=by
 by_cases h:k < ts.length;exact .inr ⟨ts[k],h,List.getElem?_eq_getElem h,(List.drop_eq_getElem_cons h)⟩;exact .inl ⟨by omega,List.drop_eq_nil_of_le (by omega)⟩
theorem U7{F2:Tk⊕Dg->Option ((α⊕Dg)×Int)}{K:Tk->Rd α}(hk:k<=ts.length)
   (h2:∀t,k+1<=ts.length->ts.drop k=t::ts.drop (k+1)->K t (ts.drop k)=some (r,l)->IY ts k (F2 (.inl t)) r l)
   (h3:∀d,F2 (.inr d)=some (.inr d,(k:Int))) (hS:Ua en K (ts.drop k)=some (r,l)):IY ts k ((AD ⟨ts,k,en⟩).bind F2) r l:=by
 unfold Ua at hS;rcases I8 ts hk with ⟨h1,kL⟩ | ⟨t,h1,kL,h3'⟩
 rw[kL] at hS;dsimp only at hS
 have:AD ⟨ts,k,en⟩=some (.inr ⟨72,en⟩):=by
   unfold AD;rw[acO (by dsimp only;omega)];rfl
 rw[this,Option.bind_some,h3];simp only[Option.some.injEq,Prod.mk.injEq] at hS;exact⟨k,Nat.le_refl k,hk,by rw[kL,hS.2],by rw[hS.1]⟩;rw[h3'] at hS;dsimp only at hS
 have:AD ⟨ts,k,en⟩=some (.inl t):=by
   unfold AD;rw[qE (by dsimp only;omega)];dsimp only[cond];unfold L9;rw[if_pos (by omega),Int.toNat_natCast,kL];rfl
 rw[this,Option.bind_some];exact h2 t h1 h3' (by rw[h3'];exact hS)
theorem Gq(hk:k<=ts.length)(x:ByteArray):Aq ⟨ts,k,en⟩ x=some (IW x (ts.drop k)):=by
 unfold Aq;rcases I8 ts hk with ⟨h1,kL⟩ | ⟨t,h1,kL,h3'⟩
 rw[kL,Kk (by dsimp only;omega)];rfl;rw[h3',Nl (by dsimp only;omega)];dsimp only[cond];unfold L9;rw[if_pos (by omega),Int.toNat_natCast,kL];rfl
theorem X7{x:ByteArray}(hk:k<=ts.length)(h:IW x (ts.drop k)=true):∃t,k+1<=ts.length/\ts.drop k=t::ts.drop (k+1):=by
 rcases I8 ts hk with ⟨h1,kL⟩ | ⟨t,h1,kL,h3'⟩
 rw[kL] at h;cases h;exact⟨t,h1,h3'⟩
theorem Eh(DN:ts.length<=1000000)(hk:k<=ts.length):BQ (k:Int) 1=((k+1:Nat):Int):=by
 rw[G3 (by omega)];rfl
theorem YT{K:Rd α}{t:Tk}(ht:ts.drop k=t::ts.drop (k+1))(h:UC K (ts.drop k)=some (r,l)):K (ts.drop (k+1))=some (r,l):=by
 rw[ht] at h;exact h
theorem rJ{F2:Bool->Option ((α⊕Dg)×Int)}{A B:Rd α}{x:ByteArray}(hk:k<=ts.length)
   (h1:k+1<=ts.length->A (ts.drop (k+1))=some (r,l)->IY ts (k+1) (F2 true) r l) (h2:B (ts.drop k)=some (r,l)->IY ts k (F2 false) r l)
   (hS:ND x A B (ts.drop k)=some (r,l)):IY ts k ((Aq ⟨ts,k,en⟩ x).bind F2) r l:=by
 unfold ND at hS;rw[Gq hk,Option.bind_some];cases hx:IW x (ts.drop k) with
 | true =>
   rw[hx] at hS;obtain⟨t,ht1,ht2⟩:=X7 hk hx;exact KU (Nat.le_succ k) (h1 ht1 (YT ht2 hS))
 | false =>
   rw[hx] at hS;exact h2 hS
end
section
variable {ts:List Tk} (DN:ts.length<=1000000) {en:Int}
include DN
theorem Qd(fits:Tk->Option Bool){k:Nat}(hk:k<=ts.length){r l}(hS:KZ en fits (ts.drop k)=some (r,l)) :
   IY ts k ((AD ⟨ts,k,en⟩).bind λy1=>Sum.elim (λ(CE:Tk)=>(fits CE).bind λy2=>cond y2 (some ((Sum.inl CE:(Tk⊕Dg)),(BQ (k:Int) 1))) (some ((Sum.inr (⟨71,CE.AF⟩:Dg):(Tk⊕Dg)),(k:Int)))) (λ(K5:Dg)=>some ((Sum.inr K5:(Tk⊕Dg)),(k:Int))) y1) r l:=by
 refine U7 hk (λt h1 h2 hS=>?_) (λ_=>rfl) hS;obtain⟨b,hb,hS⟩:=IQ hS;dsimp only[Sum.elim];rw[hb,Option.bind_some];cases b with
 | true =>
   have:=YT h2 hS;rw[cond,Eh DN hk];exact KU (Nat.le_succ k) (Ec h1 rfl this)
 | false=>exact Ec hk rfl hS
theorem It(x:ByteArray){k:Nat}(hk:k<=ts.length){r l}(hS:I9 en x (ts.drop k)=some (r,l)):IY ts k (Aj ⟨ts,k,en⟩ x) r l:=by
 obtain⟨k',a1,a2,a3,a4⟩:=Qd DN (λt=>Dl t x) hk hS;refine⟨k',a1,a2,a3,?_⟩;unfold Aj F4;rw[a4,Option.bind_some];cases r<;>rfl
theorem adG{k:Nat}(hk:k<=ts.length){r l}(hS:qO en (ts.drop k)=some (r,l)):IY ts k (Dr ⟨ts,k,en⟩) r l:=Qd DN Cr hk hS
theorem ayC{k:Nat}(hk:k<=ts.length){r l}(hS:agL en (ts.drop k)=some (r,l)):IY ts k (Et ⟨ts,k,en⟩) r l:=Qd DN EQ hk hS
theorem axC{k:Nat}(hk:k<=ts.length){r l}(hS:rL en (ts.drop k)=some (r,l)):IY ts k (FM ⟨ts,k,en⟩) r l:=Qd DN BS hk hS
theorem gT{k:Nat}(hk:k<=ts.length){r l}(hS:MD en (ts.drop k)=some (r,l)):IY ts k (EA ⟨ts,k,en⟩) r l:=by
 refine Bz (λh=>Qd DN Ea hk h) (λt k' h1 h2 hS=>?_) (λ_ _=>rfl) hS;obtain⟨n,hn,hS⟩:=IQ hS;dsimp only[Sum.elim];rw[hn];exact Ec h2 rfl hS
theorem Of(least:Int){k:Nat}(hk:k<=ts.length){r l}(hS:Lm en least (ts.drop k)=some (r,l)):IY ts k (AJ ⟨ts,k,en⟩ least) r l:=by
 refine Bz (λh=>gT DN hk h) (λt k' h1 h2 hS=>?_) (λ_ _=>rfl) hS;dsimp only[Sum.elim];revert hS;cases EK t.1 least;cases EK 1000000 t.1<;>exact λhS=>Ec h2 rfl hS
 exact λhS=>Ec h2 rfl hS
theorem aK(least:Int){k:Nat}(hk:k<=ts.length){r l}(hS:TQ en least (ts.drop k)=some (r,l)):IY ts k (DI ⟨ts,k,en⟩ least) r l:=by
 refine Bz (λh=>Qd DN Ez hk h) (λt k' h1 h2 hS=>?_) (λ_ _=>rfl) hS;obtain⟨n,hn,hS⟩:=IQ hS;dsimp only[Sum.elim];rw[hn,Option.bind_some];revert hS;cases DV n.2 0;exact λhS=>Ec h2 rfl hS;cases EK n.1 least<;>exact λhS=>Ec h2 rfl hS
theorem auK{k:Nat}(hk:k<=ts.length){r l}(hS:Zm en (ts.drop k)=some (r,l)):IY ts k (GS ⟨ts,k,en⟩) r l:=by
 refine Bz (λh=>It DN _ hk h) (λt k h hk hS=>?_) (λ_ _=>rfl) hS;refine Bz (λh=>Of DN _ hk h) (λn k h hk hS=>?_) (λ_ _=>rfl) hS;refine Bz (λh=>It DN _ hk h) (λ_ k h hk hS=>?_) (λ_ _=>rfl) hS;refine Bz (λh=>aK DN _ hk h) (λf k h hk hS=>?_) (λ_ _=>rfl) hS;refine rJ hk (λhk1 hS=>?_) (λhS=>?_) hS;dsimp only[cond];rw[Eh DN hk];refine Bz (λh=>aK DN _ hk1 h) (λu k h hk hS=>?_) (λ_ _=>rfl) hS;refine Bz (λh=>It DN _ hk h) (λ_ k h hk hS=>?_) (λ_ _=>rfl) hS;refine Bz (λh=>aK DN _ hk h) (λf k h hk hS=>?_) (λ_ _=>rfl) hS;exact Ec hk rfl hS;refine Bz (λh=>It DN _ hk h) (λ_ k h hk hS=>?_) (λ_ _=>rfl) hS;refine Bz (λh=>aK DN _ hk h) (λf k h hk hS=>?_) (λ_ _=>rfl) hS;exact Ec hk rfl hS
theorem zM{k:Nat}(hk:k<=ts.length){r l}(hS:TS en (ts.drop k)=some (r,l)):IY ts k (Dq ⟨ts,k,en⟩) r l:=by
 refine U7 hk (λt h1 h2 hS=>?_) (λ_=>rfl) hS;have hS:=YT h2 hS;dsimp only[Sum.elim];rw[Eh DN hk];refine KU (Nat.le_succ k) ?_;refine Bz (λh=>adG DN h1 h) (λm k h hk hS=>?_) (λ_ _=>rfl) hS;refine Bz (λh=>It DN _ hk h) (λ_ k h hk hS=>?_) (λ_ _=>rfl) hS;refine Bz (λh=>ayC DN hk h) (λu k h hk hS=>?_) (λ_ _=>rfl) hS;dsimp only[Sum.elim];revert hS;cases BY t.text.data.toList N9.data.toList;intro hS;refine Bz (λh=>It DN _ hk h) (λ_ k h hk hS=>?_) (λ_ _=>rfl) hS;exact Ec hk rfl hS;intro hS;refine Bz (λh=>axC DN hk h) (λq k h hk hS=>?_) (λ_ _=>rfl) hS;obtain⟨n,hn,hS⟩:=IQ hS;dsimp only[Sum.elim];rw[hn,Option.bind_some];refine Bz (λh=>It DN _ hk h) (λ_ k h hk hS=>?_) (λ_ _=>rfl) hS;exact Ec hk rfl hS
theorem T6{k:Nat}(hk:k<=ts.length){r l}(hS:F7 en (ts.drop k)=some (r,l)):IY ts k (AN ⟨ts,k,en⟩) r l:=by
 refine Bz (λh=>Of DN _ hk h) (λn k h hk hS=>?_) (λ_ _=>rfl) hS;exact Ec hk rfl hS
theorem cV{k:Nat}(hk:k<=ts.length){r l}(hS:NM en (ts.drop k)=some (r,l)):IY ts k (BN ⟨ts,k,en⟩) r l:=by
 refine Bz (λh=>Qd DN C6 hk h) (λt k' h1 h2 hS=>?_) (λ_ _=>rfl) hS;obtain⟨n,hn,hS⟩:=IQ hS;dsimp only[Sum.elim];rw[hn,Option.bind_some];revert hS;cases DV t.kind 3;exact λhS=>Ec h2 rfl hS;cases DV n 0<;>exact λhS=>Ec h2 rfl hS
theorem afB{k:Nat}(hk:k<=ts.length){r l}(hS:VL en (ts.drop k)=some (r,l)):IY ts k (Cb ⟨ts,k,en⟩) r l:=by
 refine Bz (λh=>Qd DN EC hk h) (λt k' h1 h2 hS=>?_) (λ_ _=>rfl) hS;dsimp only[Sum.elim];revert hS;cases BY t.text.data.toList ML.data.toList<;>exact λhS=>Ec h2 rfl hS
end
end Mo
end Go.Proofs.YtpbkhogolfegfaaGreatDoor
namespace Go.Proofs.YtpbkhogolfegfaaGreatDoor
open AI Go
namespace Mo
set_option maxRecDepth 100000
section
variable {α β:Type} {ts:List Tk} {k:Nat} {en:Int} {r:α⊕Dg} {l:List Tk}
theorem PX(N:Nd):(⟨N.kind,N.name,N.unit,N.n,N.fr,N.to,N.known,⟨N.CJ.den,N.CJ.ps⟩,N.kids,N.AF⟩:Nd)=N:=by cases N;rfl
theorem IL{m:Rd β}{K:β->Rd α}{s:List Tk}(h:Cp m K s=some (r,l)):(∃a s',m s=some (.inl a,s')/\K a s'=some (r,l))\/∃d,m s=some (.inr d,l)/\r=.inr d:=by
 unfold Cp at h;split at h;cases h;rename_i a s' hm;exact .inl ⟨a,s',hm,h⟩;rename_i d s' hm;simp only[Option.some.injEq,Prod.mk.injEq] at h;exact .inr ⟨d,by rw[hm,h.2],h.1.symm⟩
theorem KX{A B:Rd α}{x:ByteArray}(hk:k<=ts.length)(h:ND x A B (ts.drop k)=some (r,l)) :
   (IW x (ts.drop k)=true/\k+1<=ts.length/\A (ts.drop (k+1))=some (r,l))\/(IW x (ts.drop k)=false/\B (ts.drop k)=some (r,l)):=by
 unfold ND at h;cases hx:IW x (ts.drop k) with
 | true =>
   rw[hx] at h;obtain⟨t,ht1,ht2⟩:=X7 hk hx;exact .inl ⟨rfl,ht1,YT ht2 h⟩
 | false =>
   rw[hx] at h;exact .inr ⟨rfl,h⟩
theorem adP{K:Rd α}(hk:k<=ts.length)(h:UC K (ts.drop k)=some (r,l)):k+1<=ts.length/\K (ts.drop (k+1))=some (r,l):=by
 rcases I8 ts hk with ⟨h1,kL⟩ | ⟨t,h1,kL,h3'⟩
 rw[kL] at h;cases h;exact⟨h1,YT h3' h⟩
theorem Nk{n:Nat}{m:Rd α}{s:List Tk}(h:NX n m s=some (r,l)):n<=100000000/\m s=some (r,l):=acX h
theorem KV{a:β}{q:β⊕Dg}{s:List Tk}(h:Fw a s=some (q,l)):q=.inl a/\l=s:=by
 simp only[Fw,Option.some.injEq,Prod.mk.injEq] at h;exact⟨h.1.symm,h.2.symm⟩
theorem Ml{e p:Int}{s:List Tk}(h:L2 e p s=some (r,l)):r=.inr ⟨e,p⟩/\l=s:=by
 simp only[L2,Option.some.injEq,Prod.mk.injEq] at h;exact⟨h.1.symm,h.2.symm⟩
theorem alT{yes:ByteArray->Rd α}{no:Rd α}(hk:k<=ts.length)(hS:kO yes no (opsOf 0) (ts.drop k)=some (r,l)) :
   (∃x,k+1<=ts.length/\CY ⟨ts,k,en⟩=some (x,true)/\yes x (ts.drop (k+1))=some (r,l))\/(CY ⟨ts,k,en⟩=some (bE,false)/\no (ts.drop k)=some (r,l)):=by
 unfold CY;simp only[Gq hk,Option.bind_some];rcases KX hk hS with ⟨h0,h,hy⟩ | ⟨h0,hS⟩
 refine .inl ⟨_,h,?_,hy⟩;simp only[h0,cond_true,cond_false];refine .inr ⟨?_,hS⟩;simp only[h0,cond_false]
theorem alU{yes:ByteArray->Rd α}{no:Rd α}(hk:k<=ts.length)(hS:kO yes no (opsOf 1) (ts.drop k)=some (r,l)) :
   (∃x,k+1<=ts.length/\CZ ⟨ts,k,en⟩=some (x,true)/\yes x (ts.drop (k+1))=some (r,l))\/(CZ ⟨ts,k,en⟩=some (bE,false)/\no (ts.drop k)=some (r,l)):=by
 unfold CZ;simp only[Gq hk,Option.bind_some];rcases KX hk hS with ⟨h0,h,hy⟩ | ⟨h0,hS⟩
 refine .inl ⟨_,h,?_,hy⟩;simp only[h0,cond_true,cond_false];refine .inr ⟨?_,hS⟩;simp only[h0,cond_false]
theorem alV{yes:ByteArray->Rd α}{no:Rd α}(hk:k<=ts.length)(hS:kO yes no (opsOf 3) (ts.drop k)=some (r,l)) :
   (∃x,k+1<=ts.length/\C0 ⟨ts,k,en⟩=some (x,true)/\yes x (ts.drop (k+1))=some (r,l))\/(C0 ⟨ts,k,en⟩=some (bE,false)/\no (ts.drop k)=some (r,l)):=by
 unfold C0;simp only[Gq hk,Option.bind_some];rcases KX hk hS with ⟨h0,h,hy⟩ | ⟨h0,hS⟩
 refine .inl ⟨_,h,?_,hy⟩;simp only[h0,cond_true,cond_false];rcases KX hk hS with ⟨h1,h,hy⟩ | ⟨h1,hS⟩
 refine .inl ⟨_,h,?_,hy⟩;simp only[h0,h1,cond_true,cond_false];rcases KX hk hS with ⟨h2,h,hy⟩ | ⟨h2,hS⟩
 refine .inl ⟨_,h,?_,hy⟩;simp only[h0,h1,h2,cond_true,cond_false];rcases KX hk hS with ⟨h3,h,hy⟩ | ⟨h3,hS⟩
 refine .inl ⟨_,h,?_,hy⟩;simp only[h0,h1,h2,h3,cond_true,cond_false];rcases KX hk hS with ⟨h4,h,hy⟩ | ⟨h4,hS⟩
 refine .inl ⟨_,h,?_,hy⟩;simp only[h0,h1,h2,h3,h4,cond_true,cond_false];rcases KX hk hS with ⟨h5,h,hy⟩ | ⟨h5,hS⟩
 refine .inl ⟨_,h,?_,hy⟩;simp only[h0,h1,h2,h3,h4,h5,cond_true,cond_false];refine .inr ⟨?_,hS⟩;simp only[h0,h1,h2,h3,h4,h5,cond_false]
theorem alW{yes:ByteArray->Rd α}{no:Rd α}(hk:k<=ts.length)(hS:kO yes no (opsOf 4) (ts.drop k)=some (r,l)) :
   (∃x,k+1<=ts.length/\C4 ⟨ts,k,en⟩=some (x,true)/\yes x (ts.drop (k+1))=some (r,l))\/(C4 ⟨ts,k,en⟩=some (bE,false)/\no (ts.drop k)=some (r,l)):=by
 unfold C4;simp only[Gq hk,Option.bind_some];rcases KX hk hS with ⟨h0,h,hy⟩ | ⟨h0,hS⟩
 refine .inl ⟨_,h,?_,hy⟩;simp only[h0,cond_true,cond_false];rcases KX hk hS with ⟨h1,h,hy⟩ | ⟨h1,hS⟩
 refine .inl ⟨_,h,?_,hy⟩;simp only[h0,h1,cond_true,cond_false];refine .inr ⟨?_,hS⟩;simp only[h0,h1,cond_false]
theorem alX{yes:ByteArray->Rd α}{no:Rd α}(hk:k<=ts.length)(hS:kO yes no (opsOf 5) (ts.drop k)=some (r,l)) :
   (∃x,k+1<=ts.length/\C5 ⟨ts,k,en⟩=some (x,true)/\yes x (ts.drop (k+1))=some (r,l))\/(C5 ⟨ts,k,en⟩=some (bE,false)/\no (ts.drop k)=some (r,l)):=by
 unfold C5;simp only[Gq hk,Option.bind_some];rcases KX hk hS with ⟨h0,h,hy⟩ | ⟨h0,hS⟩
 refine .inl ⟨_,h,?_,hy⟩;simp only[h0,cond_true,cond_false];rcases KX hk hS with ⟨h1,h,hy⟩ | ⟨h1,hS⟩
 refine .inl ⟨_,h,?_,hy⟩;simp only[h0,h1,cond_true,cond_false];rcases KX hk hS with ⟨h2,h,hy⟩ | ⟨h2,hS⟩
 refine .inl ⟨_,h,?_,hy⟩;simp only[h0,h1,h2,cond_true,cond_false];refine .inr ⟨?_,hS⟩;simp only[h0,h1,h2,cond_false]
end
structure Agr(R:Ac)(ts:List Tk)(en:Int)(g:Ek->Rd Nd)(li:Rd (List Nd)):Prop where
 ex:∀{k:Nat},k<=ts.length->∀{r l},g .ex (ts.drop k)=some (r,l)->IY ts k (R.AM ⟨ts,k,en⟩) r l
 l0:∀{k:Nat},k<=ts.length->∀{r l},g (.lv 0) (ts.drop k)=some (r,l)->IY ts k (R.D7 ⟨ts,k,en⟩) r l
 l1:∀{k:Nat},k<=ts.length->∀{r l},g (.lv 1) (ts.drop k)=some (r,l)->IY ts k (R.B0 ⟨ts,k,en⟩) r l
 l2:∀{k:Nat},k<=ts.length->∀{r l},g (.lv 2) (ts.drop k)=some (r,l)->IY ts k (R.BB ⟨ts,k,en⟩) r l
 l3:∀{k:Nat},k<=ts.length->∀{r l},g (.lv 3) (ts.drop k)=some (r,l)->IY ts k (R.Cu ⟨ts,k,en⟩) r l
 l4:∀{k:Nat},k<=ts.length->∀{r l},g (.lv 4) (ts.drop k)=some (r,l)->IY ts k (R.Cv ⟨ts,k,en⟩) r l
 l5:∀{k:Nat},k<=ts.length->∀{r l},g (.lv 5) (ts.drop k)=some (r,l)->IY ts k (R.B1 ⟨ts,k,en⟩) r l
 l6:∀{k:Nat},k<=ts.length->∀{r l},g (.lv 6) (ts.drop k)=some (r,l)->IY ts k (R.B2 ⟨ts,k,en⟩) r l
 at_:∀{k:Nat},k<=ts.length->∀{r l},g .at_ (ts.drop k)=some (r,l)->IY ts k (R.E8 ⟨ts,k,en⟩) r l
 wd:∀(t:Tk) {k:Nat},k<=ts.length->∀{r l},g (.wd t) (ts.drop k)=some (r,l)->IY ts k (R.Fa ⟨ts,k,en⟩ t) r l
 ca:∀{k:Nat},k<=ts.length->∀{r l},g .ca (ts.drop k)=some (r,l)->IY ts k (R.De ⟨ts,k,en⟩) r l
 ta:∀{k:Nat},k<=ts.length->∀{r l},g .ta (ts.drop k)=some (r,l)->IY ts k (R.EJ ⟨ts,k,en⟩) r l
 li:∀{k:Nat},k<=ts.length->∀{r l},li (ts.drop k)=some (r,l)->IY ts k (R.DA ⟨ts,k,en⟩) r l
section
variable {ts:List Tk} (DN:ts.length<=1000000) {en:Int}
include DN
theorem MN{sub:Rd Nd}{F:Pr->Option ((Nd⊕Dg)×Int)}{k:Nat}(hk:k<=ts.length)(Lg:∀{r l},sub (ts.drop k)=some (r,l)->IY ts k (F ⟨ts,k,en⟩) r l){x:ByteArray}{N:Nd}{r l}(hS:P5 en sub x N (ts.drop k)=some (r,l)) :
   ∃k':Nat,k<=k'/\k'<=ts.length/\l=ts.drop k'/\((∃n b,cond (BY x.data.toList E4.data.toList) (AN ⟨ts,k,en⟩) (F ⟨ts,k,en⟩)=some (.inl n,(k':Int))/\A7 x N n=some b/\r=.inl b)\/∃d,cond (BY x.data.toList E4.data.toList) (AN ⟨ts,k,en⟩) (F ⟨ts,k,en⟩)=some (.inr d,(k':Int))/\r=.inr d):=by
 have key:∀{r l},(cond (BY x.data.toList E4.data.toList) (F7 en) sub) (ts.drop k)=some (r,l)->IY ts k (cond (BY x.data.toList E4.data.toList) (AN ⟨ts,k,en⟩) (F ⟨ts,k,en⟩)) r l:=by
   intro r l h;revert h;cases BY x.data.toList E4.data.toList;exact λh=>Lg h;exact λh=>T6 DN hk h
 rcases IL hS with ⟨n,s',h1,h2⟩ | ⟨d,h1,h2⟩
 obtain⟨b,hb,h2⟩:=IQ h2;obtain⟨rfl,rfl⟩:=KV h2;obtain⟨k',a1,a2,a3,a4⟩:=key h1;exact⟨k',a1,a2,a3,.inl ⟨n,b,a4,hb,rfl⟩⟩;obtain⟨k',a1,a2,a3,a4⟩:=key h1;exact⟨k',a1,a2,a3,.inr ⟨d,a4,h2⟩⟩
theorem yQ{R:Ac}{sub:Rd Nd}(Lg:∀{k:Nat},k<=ts.length->∀{r l},sub (ts.drop k)=some (r,l)->IY ts k (R.B0 ⟨ts,k,en⟩) r l)(k0:Int) :
   ∀(q:Nat) (N:Nd) (k:Nat) (r:Nd⊕Dg) (l:List Tk),k<=ts.length->KB en (opsOf 0) sub q N (ts.drop k)=some (r,l) ->
   ∃k':Nat,k<=k'/\k'<=ts.length/\l=ts.drop k'/\∃n,GL (λx=>Bs R ⟨ts,k0,en⟩ x.1 x.2.1 x.2.2.1 x.2.2.2.1 x.2.2.2.2.1 x.2.2.2.2.2.1 x.2.2.2.2.2.2.1 x.2.2.2.2.2.2.2.1 x.2.2.2.2.2.2.2.2.1 x.2.2.2.2.2.2.2.2.2.1 x.2.2.2.2.2.2.2.2.2.2.1 x.2.2.2.2.2.2.2.2.2.2.2) n (N.kind,N.name,N.unit,N.n,N.fr,N.to,N.known,N.CJ.den,N.CJ.ps,N.kids,N.AF,(k:Int))=some (.inr (r,(k':Int))):=by
 intro q
 induction q with
 | zero=>intro N k r l hk hS;cases hS
 | succ q ih =>
   intro N k r l hk hS;rcases alT (en:=en) hk hS with ⟨x,h1,h2,hS⟩ | ⟨h2,hS⟩
   rcases IL hS with ⟨b,s',h3,h4⟩ | ⟨d,h3,rfl⟩
   obtain⟨k',a1,a2,rfl,⟨n,b',hX,hb,hr⟩ | ⟨d,hX,hr⟩⟩:=MN DN h1 (λh=>Lg h1 h) h3;cases hr;obtain⟨k2,b1,b2,b3,m,b4⟩:=ih b k' r l a2 h4;refine⟨k2,by omega,b2,b3,m+1,?_⟩
   have hL:Bs R ⟨ts,k0,en⟩ N.kind N.name N.unit N.n N.fr N.to N.known N.CJ.den N.CJ.ps N.kids N.AF (k:Int)=some (.nx (b.kind,b.name,b.unit,b.n,b.fr,b.to,b.known,b.CJ.den,b.CJ.ps,b.kids,b.AF,(k':Int))):=by
     unfold Bs;dsimp only;rw[h2];dsimp only[Option.bind,cond];rw[Eh DN hk];cases hE:BY x.data.toList E4.data.toList <;>
     · rw[hE] at hX;dsimp only[cond] at hX;dsimp only
       rw[hX];dsimp only[Sum.elim];rw[PX,hb]
   show(Bs R ⟨ts,k0,en⟩ N.kind N.name N.unit N.n N.fr N.to N.known N.CJ.den N.CJ.ps N.kids N.AF (k:Int)).bind _=_;rw[hL];exact b4;cases hr;obtain⟨k',a1,a2,rfl,⟨n,b',hX,hb,hr⟩ | ⟨d',hX,hr⟩⟩:=MN DN h1 (λh=>Lg h1 h) h3;cases hr;cases hr;refine⟨k',by omega,a2,rfl,1,?_⟩
   have hL:Bs R ⟨ts,k0,en⟩ N.kind N.name N.unit N.n N.fr N.to N.known N.CJ.den N.CJ.ps N.kids N.AF (k:Int)=some (.rt (.inr d,(k':Int))):=by
     unfold Bs;dsimp only;rw[h2];dsimp only[Option.bind,cond];rw[Eh DN hk];cases hE:BY x.data.toList E4.data.toList <;>
     · rw[hE] at hX;dsimp only[cond] at hX;dsimp only
       rw[hX];rfl
   show(Bs R ⟨ts,k0,en⟩ N.kind N.name N.unit N.n N.fr N.to N.known N.CJ.den N.CJ.ps N.kids N.AF (k:Int)).bind _=_;rw[hL];rfl;obtain⟨rfl,rfl⟩:=KV hS;refine⟨k,Nat.le_refl k,hk,rfl,1,?_⟩
   have hL:Bs R ⟨ts,k0,en⟩ N.kind N.name N.unit N.n N.fr N.to N.known N.CJ.den N.CJ.ps N.kids N.AF (k:Int)=some (.rt (.inl N,(k:Int))):=by
     unfold Bs;dsimp only;rw[h2,PX];rfl
   show(Bs R ⟨ts,k0,en⟩ N.kind N.name N.unit N.n N.fr N.to N.known N.CJ.den N.CJ.ps N.kids N.AF (k:Int)).bind _=_;rw[hL];rfl
theorem acQ{R:Ac}{g:Ek->Rd Nd}(Lg:∀{k:Nat},k<=ts.length->∀{r l},g (.lv 1) (ts.drop k)=some (r,l)->IY ts k (R.B0 ⟨ts,k,en⟩) r l){k:Nat}(hk:k<=ts.length){r l}(hS:Ni en g 0 (ts.drop k)=some (r,l)) :
   IY ts k (FE R ⟨ts,k,en⟩) r l:=by
 refine Bz (λh=>Lg hk h) (λN k' h1 h2 hS=>?_) (λ_ _=>rfl) hS;obtain⟨k2,a1,a2,a3,n,a4⟩:=yQ DN Lg (k:Int) _ N k' r l h2 hS;refine⟨k2,a1,a2,a3,?_⟩;dsimp only[Sum.elim];rw[IN a4];rfl
theorem yS{R:Ac}{sub:Rd Nd}(Lg:∀{k:Nat},k<=ts.length->∀{r l},sub (ts.drop k)=some (r,l)->IY ts k (R.BB ⟨ts,k,en⟩) r l)(k0:Int) :
   ∀(q:Nat) (N:Nd) (k:Nat) (r:Nd⊕Dg) (l:List Tk),k<=ts.length->KB en (opsOf 1) sub q N (ts.drop k)=some (r,l) ->
   ∃k':Nat,k<=k'/\k'<=ts.length/\l=ts.drop k'/\∃n,GL (λx=>Bt R ⟨ts,k0,en⟩ x.1 x.2.1 x.2.2.1 x.2.2.2.1 x.2.2.2.2.1 x.2.2.2.2.2.1 x.2.2.2.2.2.2.1 x.2.2.2.2.2.2.2.1 x.2.2.2.2.2.2.2.2.1 x.2.2.2.2.2.2.2.2.2.1 x.2.2.2.2.2.2.2.2.2.2.1 x.2.2.2.2.2.2.2.2.2.2.2) n (N.kind,N.name,N.unit,N.n,N.fr,N.to,N.known,N.CJ.den,N.CJ.ps,N.kids,N.AF,(k:Int))=some (.inr (r,(k':Int))):=by
 intro q
 induction q with
 | zero=>intro N k r l hk hS;cases hS
 | succ q ih =>
   intro N k r l hk hS;rcases alU (en:=en) hk hS with ⟨x,h1,h2,hS⟩ | ⟨h2,hS⟩
   rcases IL hS with ⟨b,s',h3,h4⟩ | ⟨d,h3,rfl⟩
   obtain⟨k',a1,a2,rfl,⟨n,b',hX,hb,hr⟩ | ⟨d,hX,hr⟩⟩:=MN DN h1 (λh=>Lg h1 h) h3;cases hr;obtain⟨k2,b1,b2,b3,m,b4⟩:=ih b k' r l a2 h4;refine⟨k2,by omega,b2,b3,m+1,?_⟩
   have hL:Bt R ⟨ts,k0,en⟩ N.kind N.name N.unit N.n N.fr N.to N.known N.CJ.den N.CJ.ps N.kids N.AF (k:Int)=some (.nx (b.kind,b.name,b.unit,b.n,b.fr,b.to,b.known,b.CJ.den,b.CJ.ps,b.kids,b.AF,(k':Int))):=by
     unfold Bt;dsimp only;rw[h2];dsimp only[Option.bind,cond];rw[Eh DN hk];cases hE:BY x.data.toList E4.data.toList <;>
     · rw[hE] at hX;dsimp only[cond] at hX;dsimp only
       rw[hX];dsimp only[Sum.elim];rw[PX,hb]
   show(Bt R ⟨ts,k0,en⟩ N.kind N.name N.unit N.n N.fr N.to N.known N.CJ.den N.CJ.ps N.kids N.AF (k:Int)).bind _=_;rw[hL];exact b4;cases hr;obtain⟨k',a1,a2,rfl,⟨n,b',hX,hb,hr⟩ | ⟨d',hX,hr⟩⟩:=MN DN h1 (λh=>Lg h1 h) h3;cases hr;cases hr;refine⟨k',by omega,a2,rfl,1,?_⟩
   have hL:Bt R ⟨ts,k0,en⟩ N.kind N.name N.unit N.n N.fr N.to N.known N.CJ.den N.CJ.ps N.kids N.AF (k:Int)=some (.rt (.inr d,(k':Int))):=by
     unfold Bt;dsimp only;rw[h2];dsimp only[Option.bind,cond];rw[Eh DN hk];cases hE:BY x.data.toList E4.data.toList <;>
     · rw[hE] at hX;dsimp only[cond] at hX;dsimp only
       rw[hX];rfl
   show(Bt R ⟨ts,k0,en⟩ N.kind N.name N.unit N.n N.fr N.to N.known N.CJ.den N.CJ.ps N.kids N.AF (k:Int)).bind _=_;rw[hL];rfl;obtain⟨rfl,rfl⟩:=KV hS;refine⟨k,Nat.le_refl k,hk,rfl,1,?_⟩
   have hL:Bt R ⟨ts,k0,en⟩ N.kind N.name N.unit N.n N.fr N.to N.known N.CJ.den N.CJ.ps N.kids N.AF (k:Int)=some (.rt (.inl N,(k:Int))):=by
     unfold Bt;dsimp only;rw[h2,PX];rfl
   show(Bt R ⟨ts,k0,en⟩ N.kind N.name N.unit N.n N.fr N.to N.known N.CJ.den N.CJ.ps N.kids N.AF (k:Int)).bind _=_;rw[hL];rfl
theorem acR{R:Ac}{g:Ek->Rd Nd}(Lg:∀{k:Nat},k<=ts.length->∀{r l},g (.lv 2) (ts.drop k)=some (r,l)->IY ts k (R.BB ⟨ts,k,en⟩) r l){k:Nat}(hk:k<=ts.length){r l}(hS:Ni en g 1 (ts.drop k)=some (r,l)) :
   IY ts k (FF R ⟨ts,k,en⟩) r l:=by
 refine Bz (λh=>Lg hk h) (λN k' h1 h2 hS=>?_) (λ_ _=>rfl) hS;obtain⟨k2,a1,a2,a3,n,a4⟩:=yS DN Lg (k:Int) _ N k' r l h2 hS;refine⟨k2,a1,a2,a3,?_⟩;dsimp only[Sum.elim];rw[IN a4];rfl
theorem yT{R:Ac}{sub:Rd Nd}(Lg:∀{k:Nat},k<=ts.length->∀{r l},sub (ts.drop k)=some (r,l)->IY ts k (R.B1 ⟨ts,k,en⟩) r l)(k0:Int) :
   ∀(q:Nat) (N:Nd) (k:Nat) (r:Nd⊕Dg) (l:List Tk),k<=ts.length->KB en (opsOf 4) sub q N (ts.drop k)=some (r,l) ->
   ∃k':Nat,k<=k'/\k'<=ts.length/\l=ts.drop k'/\∃n,GL (λx=>Bu R ⟨ts,k0,en⟩ x.1 x.2.1 x.2.2.1 x.2.2.2.1 x.2.2.2.2.1 x.2.2.2.2.2.1 x.2.2.2.2.2.2.1 x.2.2.2.2.2.2.2.1 x.2.2.2.2.2.2.2.2.1 x.2.2.2.2.2.2.2.2.2.1 x.2.2.2.2.2.2.2.2.2.2.1 x.2.2.2.2.2.2.2.2.2.2.2) n (N.kind,N.name,N.unit,N.n,N.fr,N.to,N.known,N.CJ.den,N.CJ.ps,N.kids,N.AF,(k:Int))=some (.inr (r,(k':Int))):=by
 intro q
 induction q with
 | zero=>intro N k r l hk hS;cases hS
 | succ q ih =>
   intro N k r l hk hS;rcases alW (en:=en) hk hS with ⟨x,h1,h2,hS⟩ | ⟨h2,hS⟩
   rcases IL hS with ⟨b,s',h3,h4⟩ | ⟨d,h3,rfl⟩
   obtain⟨k',a1,a2,rfl,⟨n,b',hX,hb,hr⟩ | ⟨d,hX,hr⟩⟩:=MN DN h1 (λh=>Lg h1 h) h3;cases hr;obtain⟨k2,b1,b2,b3,m,b4⟩:=ih b k' r l a2 h4;refine⟨k2,by omega,b2,b3,m+1,?_⟩
   have hL:Bu R ⟨ts,k0,en⟩ N.kind N.name N.unit N.n N.fr N.to N.known N.CJ.den N.CJ.ps N.kids N.AF (k:Int)=some (.nx (b.kind,b.name,b.unit,b.n,b.fr,b.to,b.known,b.CJ.den,b.CJ.ps,b.kids,b.AF,(k':Int))):=by
     unfold Bu;dsimp only;rw[h2];dsimp only[Option.bind,cond];rw[Eh DN hk];cases hE:BY x.data.toList E4.data.toList <;>
     · rw[hE] at hX;dsimp only[cond] at hX;dsimp only
       rw[hX];dsimp only[Sum.elim];rw[PX,hb]
   show(Bu R ⟨ts,k0,en⟩ N.kind N.name N.unit N.n N.fr N.to N.known N.CJ.den N.CJ.ps N.kids N.AF (k:Int)).bind _=_;rw[hL];exact b4;cases hr;obtain⟨k',a1,a2,rfl,⟨n,b',hX,hb,hr⟩ | ⟨d',hX,hr⟩⟩:=MN DN h1 (λh=>Lg h1 h) h3;cases hr;cases hr;refine⟨k',by omega,a2,rfl,1,?_⟩
   have hL:Bu R ⟨ts,k0,en⟩ N.kind N.name N.unit N.n N.fr N.to N.known N.CJ.den N.CJ.ps N.kids N.AF (k:Int)=some (.rt (.inr d,(k':Int))):=by
     unfold Bu;dsimp only;rw[h2];dsimp only[Option.bind,cond];rw[Eh DN hk];cases hE:BY x.data.toList E4.data.toList <;>
     · rw[hE] at hX;dsimp only[cond] at hX;dsimp only
       rw[hX];rfl
   show(Bu R ⟨ts,k0,en⟩ N.kind N.name N.unit N.n N.fr N.to N.known N.CJ.den N.CJ.ps N.kids N.AF (k:Int)).bind _=_;rw[hL];rfl;obtain⟨rfl,rfl⟩:=KV hS;refine⟨k,Nat.le_refl k,hk,rfl,1,?_⟩
   have hL:Bu R ⟨ts,k0,en⟩ N.kind N.name N.unit N.n N.fr N.to N.known N.CJ.den N.CJ.ps N.kids N.AF (k:Int)=some (.rt (.inl N,(k:Int))):=by
     unfold Bu;dsimp only;rw[h2,PX];rfl
   show(Bu R ⟨ts,k0,en⟩ N.kind N.name N.unit N.n N.fr N.to N.known N.CJ.den N.CJ.ps N.kids N.AF (k:Int)).bind _=_;rw[hL];rfl
theorem acS{R:Ac}{g:Ek->Rd Nd}(Lg:∀{k:Nat},k<=ts.length->∀{r l},g (.lv 5) (ts.drop k)=some (r,l)->IY ts k (R.B1 ⟨ts,k,en⟩) r l){k:Nat}(hk:k<=ts.length){r l}(hS:Ni en g 4 (ts.drop k)=some (r,l)) :
   IY ts k (FH R ⟨ts,k,en⟩) r l:=by
 refine Bz (λh=>Lg hk h) (λN k' h1 h2 hS=>?_) (λ_ _=>rfl) hS;obtain⟨k2,a1,a2,a3,n,a4⟩:=yT DN Lg (k:Int) _ N k' r l h2 hS;refine⟨k2,a1,a2,a3,?_⟩;dsimp only[Sum.elim];rw[IN a4];rfl
theorem yU{R:Ac}{sub:Rd Nd}(Lg:∀{k:Nat},k<=ts.length->∀{r l},sub (ts.drop k)=some (r,l)->IY ts k (R.B2 ⟨ts,k,en⟩) r l)(k0:Int) :
   ∀(q:Nat) (N:Nd) (k:Nat) (r:Nd⊕Dg) (l:List Tk),k<=ts.length->KB en (opsOf 5) sub q N (ts.drop k)=some (r,l) ->
   ∃k':Nat,k<=k'/\k'<=ts.length/\l=ts.drop k'/\∃n,GL (λx=>Bv R ⟨ts,k0,en⟩ x.1 x.2.1 x.2.2.1 x.2.2.2.1 x.2.2.2.2.1 x.2.2.2.2.2.1 x.2.2.2.2.2.2.1 x.2.2.2.2.2.2.2.1 x.2.2.2.2.2.2.2.2.1 x.2.2.2.2.2.2.2.2.2.1 x.2.2.2.2.2.2.2.2.2.2.1 x.2.2.2.2.2.2.2.2.2.2.2) n (N.kind,N.name,N.unit,N.n,N.fr,N.to,N.known,N.CJ.den,N.CJ.ps,N.kids,N.AF,(k:Int))=some (.inr (r,(k':Int))):=by
 intro q
 induction q with
 | zero=>intro N k r l hk hS;cases hS
 | succ q ih =>
   intro N k r l hk hS;rcases alX (en:=en) hk hS with ⟨x,h1,h2,hS⟩ | ⟨h2,hS⟩
   rcases IL hS with ⟨b,s',h3,h4⟩ | ⟨d,h3,rfl⟩
   obtain⟨k',a1,a2,rfl,⟨n,b',hX,hb,hr⟩ | ⟨d,hX,hr⟩⟩:=MN DN h1 (λh=>Lg h1 h) h3;cases hr;obtain⟨k2,b1,b2,b3,m,b4⟩:=ih b k' r l a2 h4;refine⟨k2,by omega,b2,b3,m+1,?_⟩
   have hL:Bv R ⟨ts,k0,en⟩ N.kind N.name N.unit N.n N.fr N.to N.known N.CJ.den N.CJ.ps N.kids N.AF (k:Int)=some (.nx (b.kind,b.name,b.unit,b.n,b.fr,b.to,b.known,b.CJ.den,b.CJ.ps,b.kids,b.AF,(k':Int))):=by
     unfold Bv;dsimp only;rw[h2];dsimp only[Option.bind,cond];rw[Eh DN hk];cases hE:BY x.data.toList E4.data.toList <;>
     · rw[hE] at hX;dsimp only[cond] at hX;dsimp only
       rw[hX];dsimp only[Sum.elim];rw[PX,hb]
   show(Bv R ⟨ts,k0,en⟩ N.kind N.name N.unit N.n N.fr N.to N.known N.CJ.den N.CJ.ps N.kids N.AF (k:Int)).bind _=_;rw[hL];exact b4;cases hr;obtain⟨k',a1,a2,rfl,⟨n,b',hX,hb,hr⟩ | ⟨d',hX,hr⟩⟩:=MN DN h1 (λh=>Lg h1 h) h3;cases hr;cases hr;refine⟨k',by omega,a2,rfl,1,?_⟩
   have hL:Bv R ⟨ts,k0,en⟩ N.kind N.name N.unit N.n N.fr N.to N.known N.CJ.den N.CJ.ps N.kids N.AF (k:Int)=some (.rt (.inr d,(k':Int))):=by
     unfold Bv;dsimp only;rw[h2];dsimp only[Option.bind,cond];rw[Eh DN hk];cases hE:BY x.data.toList E4.data.toList <;>
     · rw[hE] at hX;dsimp only[cond] at hX;dsimp only
       rw[hX];rfl
   show(Bv R ⟨ts,k0,en⟩ N.kind N.name N.unit N.n N.fr N.to N.known N.CJ.den N.CJ.ps N.kids N.AF (k:Int)).bind _=_;rw[hL];rfl;obtain⟨rfl,rfl⟩:=KV hS;refine⟨k,Nat.le_refl k,hk,rfl,1,?_⟩
   have hL:Bv R ⟨ts,k0,en⟩ N.kind N.name N.unit N.n N.fr N.to N.known N.CJ.den N.CJ.ps N.kids N.AF (k:Int)=some (.rt (.inl N,(k:Int))):=by
     unfold Bv;dsimp only;rw[h2,PX];rfl
   show(Bv R ⟨ts,k0,en⟩ N.kind N.name N.unit N.n N.fr N.to N.known N.CJ.den N.CJ.ps N.kids N.AF (k:Int)).bind _=_;rw[hL];rfl
theorem acT{R:Ac}{g:Ek->Rd Nd}(Lg:∀{k:Nat},k<=ts.length->∀{r l},g (.lv 6) (ts.drop k)=some (r,l)->IY ts k (R.B2 ⟨ts,k,en⟩) r l){k:Nat}(hk:k<=ts.length){r l}(hS:Ni en g 5 (ts.drop k)=some (r,l)) :
   IY ts k (FJ R ⟨ts,k,en⟩) r l:=by
 refine Bz (λh=>Lg hk h) (λN k' h1 h2 hS=>?_) (λ_ _=>rfl) hS;obtain⟨k2,a1,a2,a3,n,a4⟩:=yU DN Lg (k:Int) _ N k' r l h2 hS;refine⟨k2,a1,a2,a3,?_⟩;dsimp only[Sum.elim];rw[IN a4];rfl
end
end Mo
end Go.Proofs.YtpbkhogolfegfaaGreatDoor
namespace Go.Proofs.YtpbkhogolfegfaaGreatDoor
open AI Go
namespace Mo
set_option maxRecDepth 100000
section
variable {α β γ:Type} {ts:List Tk} {k:Nat} {en:Int} {l:List Tk}
def Z5(ts:List Tk)(k:Nat)(X:Option ((Pt⊕Dg)×Int×Int))(r:(Pt×Int)⊕Dg)(l:List Tk):Prop:=∃k':Nat,k<=k'/\k'<=ts.length/\l=ts.drop k'/\match r with
 | .inl x=>X=some (.inl x.1,(k':Int),x.2)
 | .inr d=>∃c,X=some (.inr d,(k':Int),c)
variable {r:(Pt×Int)⊕Dg}
theorem rI{k2:Nat}{X:Option ((Pt⊕Dg)×Int×Int)}(h1:k<=k2)(h:Z5 ts k2 X r l):Z5 ts k X r l:=by
 obtain⟨k',a,b,c,d⟩:=h;exact⟨k',Nat.le_trans h1 a,b,c,d⟩
theorem Iw{F1:Option ((γ⊕Dg)×Int)}{F2:(γ⊕Dg)×Int->Option ((Pt⊕Dg)×Int×Int)}{m:Rd γ}{K:γ->Rd (Pt×Int)}
   (h1:∀{r l},m (ts.drop k)=some (r,l)->IY ts k F1 r l)
   (h2:∀a k',k<=k'->k'<=ts.length->K a (ts.drop k')=some (r,l)->Z5 ts k' (F2 (.inl a,(k':Int))) r l)
   (h3:∀d z,∃c,F2 (.inr d,z)=some (.inr d,z,c)) (hS:Cp m K (ts.drop k)=some (r,l)):Z5 ts k (F1.bind F2) r l:=by
 rcases IL hS with ⟨a,s',hm,hS⟩ | ⟨d,hm,rfl⟩
 obtain⟨k',a1,a2,rfl,a4⟩:=h1 hm;rw[a4];exact rI a1 (h2 _ _ a1 a2 hS);obtain⟨k',a1,a2,a3,a4⟩:=h1 hm;obtain⟨c,hc⟩:=h3 d k';exact⟨k',a1,a2,a3,c,by rw[a4,Option.bind_some,hc]⟩
theorem aeC{F2:Bool->Option ((Pt⊕Dg)×Int×Int)}{A B:Rd (Pt×Int)}{x:ByteArray}(hk:k<=ts.length)
   (h1:k+1<=ts.length->A (ts.drop (k+1))=some (r,l)->Z5 ts (k+1) (F2 true) r l) (h2:B (ts.drop k)=some (r,l)->Z5 ts k (F2 false) r l)
   (hS:ND x A B (ts.drop k)=some (r,l)):Z5 ts k ((Aq ⟨ts,k,en⟩ x).bind F2) r l:=by
 rw[Gq hk,Option.bind_some];rcases KX hk hS with ⟨h,h3,hS⟩ | ⟨h,hS⟩
 rw[h];exact rI (Nat.le_succ k) (h1 h3 hS);rw[h];exact h2 hS
end
def awS(p:Pr)(Ax Bh:Int)(Aw:Int×Int):Option ((Pt⊕Dg)×Int×Int):=((Aj (⟨p.Bq,Bh,p.Dy⟩:Pr) iD).bind λ(IX,Eu)=>Sum.elim (λ(CT:Tk)=>(Aq (⟨p.Bq,Eu,p.Dy⟩:Pr) ML).bind λy3=>cond y3 ((BN (⟨p.Bq,(BQ Eu 1),p.Dy⟩:Pr)).bind λ(Vk,I1)=>Sum.elim (λ(C8:(Int×Int))=>(Cb (⟨p.Bq,I1,p.Dy⟩:Pr)).bind λ(Tw,Hj)=>Sum.elim (λ(H7:Int)=>(AJ (⟨p.Bq,Hj,p.Dy⟩:Pr) 0).bind λ(kF,NQ)=>Sum.elim (λ(IJ:(Int×Int))=>(Aj (⟨p.Bq,NQ,p.Dy⟩:Pr) E4).bind λ(y7a,RS)=>Sum.elim (λ(UA:Tk)=>(AJ (⟨p.Bq,RS,p.Dy⟩:Pr) 1).bind λ(Yz,K2)=>Sum.elim (λ(GC:(Int×Int))=>(CK Ax GC.1).bind λy9=>(RX Ax y9).bind λz10=>cond (EK 1000000 (BM z10 GC.1)) (some ((Sum.inr (⟨2,GC.2⟩:Dg):(Pt⊕Dg)),K2,(BM z10 GC.1))) (some ((Sum.inl (⟨Aw.1,(BM C8.1 (-1)),(BM IJ.1 H7),GC.1⟩:Pt):(Pt⊕Dg)),K2,(BM z10 GC.1)))) (λ(K1:Dg)=>some ((Sum.inr K1:(Pt⊕Dg)),K2,Ax)) Yz) (λ(OQ:Dg)=>some ((Sum.inr OQ:(Pt⊕Dg)),RS,Ax)) y7a) (λ(Mj:Dg)=>some ((Sum.inr Mj:(Pt⊕Dg)),NQ,Ax)) kF) (λ(GJ:Dg)=>some ((Sum.inr GJ:(Pt⊕Dg)),Hj,Ax)) Tw) (λ(H6:Dg)=>some ((Sum.inr H6:(Pt⊕Dg)),I1,Ax)) Vk) ((BN (⟨p.Bq,Eu,p.Dy⟩:Pr)).bind λ(oH,Px)=>Sum.elim (λ(Mt:(Int×Int))=>(Cb (⟨p.Bq,Px,p.Dy⟩:Pr)).bind λ(Yx,Uy)=>Sum.elim (λ(Yy:Int)=>(AJ (⟨p.Bq,Uy,p.Dy⟩:Pr) 0).bind λ(V7,NY)=>Sum.elim (λ(Mu:(Int×Int))=>(Aj (⟨p.Bq,NY,p.Dy⟩:Pr) E4).bind λ(cW,Tv)=>Sum.elim (λ(asK:Tk)=>(AJ (⟨p.Bq,Tv,p.Dy⟩:Pr) 1).bind λ(cX,Qj)=>Sum.elim (λ(JY:(Int×Int))=>(CK Ax JY.1).bind λy16=>(RX Ax y16).bind λz17=>cond (EK 1000000 (BM z17 JY.1)) (some ((Sum.inr (⟨2,JY.2⟩:Dg):(Pt⊕Dg)),Qj,(BM z17 JY.1))) (some ((Sum.inl (⟨Aw.1,(BM Mt.1 1),(BM Mu.1 Yy),JY.1⟩:Pt):(Pt⊕Dg)),Qj,(BM z17 JY.1)))) (λ(jP:Dg)=>some ((Sum.inr jP:(Pt⊕Dg)),Qj,Ax)) cX) (λ(jO:Dg)=>some ((Sum.inr jO:(Pt⊕Dg)),Tv,Ax)) cW) (λ(Uz:Dg)=>some ((Sum.inr Uz:(Pt⊕Dg)),NY,Ax)) V7) (λ(jN:Dg)=>some ((Sum.inr jN:(Pt⊕Dg)),Uy,Ax)) Yx) (λ(Ux:Dg)=>some ((Sum.inr Ux:(Pt⊕Dg)),Px,Ax)) oH)) (λ(GI:Dg)=>some ((Sum.inr GI:(Pt⊕Dg)),Eu,Ax)) IX)
section
variable {ts:List Tk} (DN:ts.length<=1000000) {en:Int}
include DN
theorem hJ(k0 Ax:Int)(v:Int×Int){k:Nat}(hk:k<=ts.length){r l}(hS:MI en Ax v.1 (ts.drop k)=some (r,l)):Z5 ts k (awS ⟨ts,k0,en⟩ Ax k v) r l:=by
 refine Iw (λh=>It DN _ hk h) (λ_ k h hk hS=>?_) (λ_ _=>⟨_,rfl⟩) hS;refine aeC hk (λhk1 hS=>?_) (λhS=>?_) hS;dsimp only[cond];rw[Eh DN hk];refine Iw (λh=>cV DN hk1 h) (λa k h hk hS=>?_) (λ_ _=>⟨_,rfl⟩) hS;refine Iw (λh=>afB DN hk h) (λs k h hk hS=>?_) (λ_ _=>⟨_,rfl⟩) hS;refine Iw (λh=>Of DN _ hk h) (λm k h hk hS=>?_) (λ_ _=>⟨_,rfl⟩) hS;refine Iw (λh=>It DN _ hk h) (λ_ k h hk hS=>?_) (λ_ _=>⟨_,rfl⟩) hS;refine Iw (λh=>Of DN _ hk h) (λd k h hk hS=>?_) (λ_ _=>⟨_,rfl⟩) hS;obtain⟨g,hg,hS⟩:=IQ hS;have hg:=aaR hg;obtain⟨z,hz,hS⟩:=IQ hS;dsimp only[Sum.elim];rw[hg,Option.bind_some,hz,Option.bind_some];revert hS;cases EK 1000000 (BM z d.1);exact λhS=>by obtain⟨rfl,rfl⟩:=KV hS;exact⟨k,Nat.le_refl k,hk,rfl,rfl⟩
 exact λhS=>by obtain⟨rfl,rfl⟩:=Ml hS;exact⟨k,Nat.le_refl k,hk,rfl,_,rfl⟩
 refine Iw (λh=>cV DN hk h) (λa k h hk hS=>?_) (λ_ _=>⟨_,rfl⟩) hS;refine Iw (λh=>afB DN hk h) (λs k h hk hS=>?_) (λ_ _=>⟨_,rfl⟩) hS;refine Iw (λh=>Of DN _ hk h) (λm k h hk hS=>?_) (λ_ _=>⟨_,rfl⟩) hS;refine Iw (λh=>It DN _ hk h) (λ_ k h hk hS=>?_) (λ_ _=>⟨_,rfl⟩) hS;refine Iw (λh=>Of DN _ hk h) (λd k h hk hS=>?_) (λ_ _=>⟨_,rfl⟩) hS;obtain⟨g,hg,hS⟩:=IQ hS;have hg:=aaR hg;obtain⟨z,hz,hS⟩:=IQ hS;dsimp only[Sum.elim];rw[hg,Option.bind_some,hz,Option.bind_some];revert hS;cases EK 1000000 (BM z d.1);exact λhS=>by obtain⟨rfl,rfl⟩:=KV hS;exact⟨k,Nat.le_refl k,hk,rfl,rfl⟩
 exact λhS=>by obtain⟨rfl,rfl⟩:=Ml hS;exact⟨k,Nat.le_refl k,hk,rfl,_,rfl⟩
theorem rA(before:List Pt)(hb:before.length<=100000000)(Ax:Int){k:Nat}(hk:k<=ts.length){r l}(hS:Ri en before Ax (ts.drop k)=some (r,l)):Z5 ts k (Gz ⟨ts,k,en⟩ before Ax) r l:=by
 refine Iw (λh=>cV DN hk h) (λv k1 h hk hS=>?_) (λ_ _=>⟨_,rfl⟩) hS;dsimp only[Sum.elim];revert hS;cases hE:DV ((before.length:Nat):Int) 0 with
 | true =>
   cases DV v.1 0;exact λhS=>by obtain⟨rfl,rfl⟩:=Ml hS;exact⟨k1,Nat.le_refl k1,hk,rfl,_,rfl⟩
   exact λhS=>hJ DN k Ax v hk hS
 | false =>
   intro hS;have h0:before.length≠0:=λh=>Zd hE (by rw[h];rfl);obtain⟨x,hx,hS⟩:=IQ hS;dsimp only[cond];rw[Nl (by omega)]
   have hg:L9 before (R8 ((before.length:Nat):Int) 1)=some x:=by
     have:R8 ((before.length:Nat):Int) 1=((before.length - 1:Nat):Int):=by
       rw[Qi (by omega)];omega
     rw[this];unfold L9;rw[if_pos (by omega),Int.toNat_natCast,hx]
   dsimp only;rw[hg,Option.bind_some];revert hS;cases SV v.1 x.fr;cases SV 64 ((before.length:Nat):Int);exact λhS=>hJ DN k Ax v hk hS;exact λhS=>by obtain⟨rfl,rfl⟩:=Ml hS;exact⟨k1,Nat.le_refl k1,hk,rfl,_,rfl⟩
   exact λhS=>by obtain⟨rfl,rfl⟩:=Ml hS;exact⟨k1,Nat.le_refl k1,hk,rfl,_,rfl⟩
theorem hO(R:Ac)(k0:Int):∀(q:Nat) (ps:List Pt) (c:Int) (k:Nat) (r:(List Pt×Int)⊕Dg) (l:List Tk),ps.length<=100000000->k<=ts.length->Lx en q ps c (ts.drop k)=some (r,l) ->
   ∃k':Nat,k<=k'/\k'<=ts.length/\l=ts.drop k'/\∃n,GL (λx=>BD R ⟨ts,k0,en⟩ x.1 x.2.1 x.2.2) n (ps,c,(k:Int))=some (match r with | .inl x=>.inl (x.1,x.2,(k':Int)) | .inr d=>.inr (.inr d,(k':Int))):=by
 intro q
 induction q with
 | zero=>intro ps c k r l hp hk hS;cases hS
 | succ q ih =>
   intro ps c k r l hp hk hS;rcases IL hS with ⟨x,s',h3,h4⟩ | ⟨d,h3,rfl⟩
   obtain⟨k',a1,a2,rfl,a4⟩:=rA DN ps hp c hk h3;obtain⟨hl,h4⟩:=Nk h4;rcases KX a2 h4 with ⟨h5,h6,h7⟩ | ⟨h5,h7⟩
   obtain⟨k2,b1,b2,b3,n,b4⟩:=ih (ps++[x.1]) x.2 (k'+1) r l (by simp only[List.length_append,List.length_singleton];omega) h6 h7;refine⟨k2,by omega,b2,b3,n+1,?_⟩
   have hL:BD R ⟨ts,k0,en⟩ ps c (k:Int)=some (.nx (ps++[x.1],x.2,((k'+1:Nat):Int))):=by
     unfold BD;dsimp only at a4 ⊢;rw[a4,Option.bind_some];dsimp only[Sum.elim];rw[GN hl,Gq a2,h5,Option.bind_some,Eh DN a2];rfl
   show(BD R ⟨ts,k0,en⟩ ps c (k:Int)).bind _=_;rw[hL];exact b4;obtain⟨rfl,rfl⟩:=KV h7;refine⟨k',a1,a2,rfl,1,?_⟩
   have hL:BD R ⟨ts,k0,en⟩ ps c (k:Int)=some (.ex (ps++[x.1],x.2,(k':Int))):=by
     unfold BD;dsimp only at a4 ⊢;rw[a4,Option.bind_some];dsimp only[Sum.elim];rw[GN hl,Gq a2,h5,Option.bind_some];rfl
   show(BD R ⟨ts,k0,en⟩ ps c (k:Int)).bind _=_;rw[hL];rfl;obtain⟨k',a1,a2,a3,c',a4⟩:=rA DN ps hp c hk h3;refine⟨k',a1,a2,a3,1,?_⟩
   have hL:BD R ⟨ts,k0,en⟩ ps c (k:Int)=some (.rt (.inr d,(k':Int))):=by
     unfold BD;dsimp only at a4 ⊢;rw[a4,Option.bind_some];rfl
   show(BD R ⟨ts,k0,en⟩ ps c (k:Int)).bind _=_;rw[hL];rfl
omit DN in
theorem iV(R:Ac)(c:Int)(t:Tk)(kz:Int):∀(ps:List Pt) (acc:List Pc) (i:Nat) (r:(List Pc)⊕Dg) (s l:List Tk),LC c t.AF ps acc s=some (r,l) ->
   l=s/\Dh (λi y x=>ED R c kz t i y x) (λx=>x) ps i acc=some (match r with | .inl x=>.inl x | .inr d=>.inr (.inr d,kz)):=by
 intro ps
 induction ps with
 | nil =>
   intro acc i r s l hS;obtain⟨rfl,rfl⟩:=KV hS;exact⟨rfl,rfl⟩
 | cons x ps ih =>
   intro acc i r s l hS;unfold LC at hS;obtain⟨z,hz,hS⟩:=IQ hS;rw[Dh];unfold ED;rw[hz,Option.bind_some];revert hS;cases EK 1000000 (BM x.num z);cases EK (BM x.num z) (-1000000);intro hS;obtain⟨hl,hS⟩:=Nk hS;obtain⟨rfl,h⟩:=ih _ (i+1) r s l hS;refine⟨rfl,?_⟩;dsimp only[cond];rw[GN hl,Option.bind_some];exact h;intro hS;obtain⟨rfl,rfl⟩:=Ml hS;exact⟨rfl,rfl⟩;intro hS;obtain⟨rfl,rfl⟩:=Ml hS;exact⟨rfl,rfl⟩
theorem aoL{R:Ac}{g:Ek->Rd Nd}(hex:∀{k:Nat},k<=ts.length->∀{r l},g .ex (ts.drop k)=some (r,l)->IY ts k (R.AM ⟨ts,k,en⟩) r l){k:Nat}(hk:k<=ts.length){r l}(hS:Ye en g (ts.drop k)=some (r,l)) :
   IY ts k (GA R ⟨ts,k,en⟩) r l:=by
 refine Bz (λh=>It DN _ hk h) (λt k1 h hk1 hS=>?_) (λ_ _=>rfl) hS;refine Bz (λh=>It DN _ hk1 h) (λ_ k2 h hk2 hS=>?_) (λ_ _=>rfl) hS;refine Bz (λh=>hex hk2 h) (λa k3 h hk3 hS=>?_) (λ_ _=>rfl) hS;refine Bz (λh=>It DN _ hk3 h) (λ_ k4 h hk4 hS=>?_) (λ_ _=>rfl) hS;dsimp only[Sum.elim];rcases IL hS with ⟨x,s',h3,h4⟩ | ⟨d,h3,rfl⟩
 obtain⟨k',a1,a2,rfl,n,a4⟩:=hO DN R (k:Int) _ [] 1 k4 _ _ (by simp) hk4 h3;rw[IN a4,Option.bind_some];refine KU a1 ?_;dsimp only[PD];refine Bz (λh=>It DN _ a2 h) (λe k5 h hk5 hS=>?_) (λ_ _=>rfl) h4;obtain⟨hl,hS⟩:=Nk hS;dsimp only[Sum.elim];rw[List.drop_zero,show Sx x.1.length=λy=>y from funext λy=>if_pos (by omega)];dsimp only;rcases IL hS with ⟨y,s2,h5,h6⟩ | ⟨d,h5,rfl⟩
 obtain⟨rfl,h⟩:=iV R x.2 e (k5:Int) x.1 [] 0 _ _ _ h5;rw[h];exact Ec hk5 rfl h6;obtain⟨rfl,h⟩:=iV R x.2 e (k5:Int) x.1 [] 0 _ _ _ h5;rw[h];exact⟨k5,Nat.le_refl _,hk5,rfl,rfl⟩;obtain⟨k',a1,a2,a3,n,a4⟩:=hO DN R (k:Int) _ [] 1 k4 _ _ (by simp) hk4 h3;rw[IN a4,Option.bind_some];exact⟨k',a1,a2,a3,rfl⟩
theorem mS{R:Ac}{read:Rd Nd}(k0:Int)(Nc:∀{k:Nat},k<=ts.length->∀{r l},read (ts.drop k)=some (r,l)->IY ts k (R.AM ⟨ts,k,en⟩) r l):∀(q:Nat) (ns:List Nd) (k:Nat) (r:(List Nd)⊕Dg) (l:List Tk),k<=ts.length->Qs read q ns (ts.drop k)=some (r,l) ->
   ∃k':Nat,k<=k'/\k'<=ts.length/\l=ts.drop k'/\∃n,GL (λx=>Bi R ⟨ts,k0,en⟩ x.1 x.2) n (ns,(k:Int))=some (match r with | .inl x=>.inl (x,(k':Int)) | .inr d=>.inr (.inr d,(k':Int))):=by
 intro q
 induction q with
 | zero=>intro ns k r l hk hS;cases hS
 | succ q ih =>
   intro ns k r l hk hS;rcases KX hk hS with ⟨h1,h2,hS⟩ | ⟨h1,hS⟩
   rcases IL hS with ⟨x,s',h3,h4⟩ | ⟨d,h3,rfl⟩
   obtain⟨k',a1,a2,rfl,a4⟩:=Nc h2 h3;obtain⟨hl,h4⟩:=Nk h4;obtain⟨k2,b1,b2,b3,n,b4⟩:=ih (ns++[x]) k' r l a2 h4;refine⟨k2,by omega,b2,b3,n+1,?_⟩
   have hL:Bi R ⟨ts,k0,en⟩ ns (k:Int)=some (.nx (ns++[x],(k':Int))):=by
     unfold Bi;dsimp only;rw[Gq hk,h1,Option.bind_some,Eh DN hk];dsimp only[cond];rw[a4,Option.bind_some];dsimp only[Sum.elim];rw[GN hl]
   show(Bi R ⟨ts,k0,en⟩ ns (k:Int)).bind _=_;rw[hL];exact b4;obtain⟨k',a1,a2,a3,a4⟩:=Nc h2 h3;refine⟨k',by omega,a2,a3,1,?_⟩
   have hL:Bi R ⟨ts,k0,en⟩ ns (k:Int)=some (.rt (.inr d,(k':Int))):=by
     unfold Bi;dsimp only;rw[Gq hk,h1,Option.bind_some,Eh DN hk];dsimp only[cond];rw[a4,Option.bind_some];rfl
   show(Bi R ⟨ts,k0,en⟩ ns (k:Int)).bind _=_;rw[hL];rfl;obtain⟨rfl,rfl⟩:=KV hS;refine⟨k,Nat.le_refl k,hk,rfl,1,?_⟩
   have hL:Bi R ⟨ts,k0,en⟩ ns (k:Int)=some (.ex (ns,(k:Int))):=by
     unfold Bi;dsimp only;rw[Gq hk,h1,Option.bind_some];rfl
   show(Bi R ⟨ts,k0,en⟩ ns (k:Int)).bind _=_;rw[hL];rfl
theorem alH{R:Ac}{read:Rd Nd}(Nc:∀{k:Nat},k<=ts.length->∀{r l},read (ts.drop k)=some (r,l)->IY ts k (R.AM ⟨ts,k,en⟩) r l){k:Nat}(hk:k<=ts.length){r l}(hS:Re read (ts.drop k)=some (r,l)):IY ts k (EU R ⟨ts,k,en⟩) r l:=by
 refine Bz (λh=>Nc hk h) (λx k1 h hk1 hS=>?_) (λ_ _=>rfl) hS;dsimp only[Sum.elim];rcases KX hk1 hS with ⟨h1,h2,hS⟩ | ⟨h1,hS⟩
 rw[Gq hk1,h1,Option.bind_some,Eh DN hk1];refine KU (Nat.le_succ k1) ?_;refine Bz (λh=>Nc h2 h) (λy k2 h hk2 hS=>?_) (λ_ _=>rfl) hS;obtain⟨hl,hS⟩:=Nk hS;dsimp only[Sum.elim];rw[GN hl];obtain⟨k',a1,a2,a3,n,a4⟩:=mS DN (k:Int) Nc _ _ k2 _ _ hk2 hS;rw[IN a4,Option.bind_some];refine⟨k',a1,a2,a3,?_⟩;cases r<;>rfl
 rw[Gq hk1,h1,Option.bind_some];exact Ec hk1 rfl hS
theorem mT{read:Rd Nd}(k0:Int)(Nc:∀{k:Nat},k<=ts.length->∀{r l},read (ts.drop k)=some (r,l)->IY ts k (AN ⟨ts,k,en⟩) r l):∀(q:Nat) (ns:List Nd) (k:Nat) (r:(List Nd)⊕Dg) (l:List Tk),k<=ts.length->Qs read q ns (ts.drop k)=some (r,l) ->
   ∃k':Nat,k<=k'/\k'<=ts.length/\l=ts.drop k'/\∃n,GL (λx=>AO ⟨ts,k0,en⟩ x.1 x.2) n (ns,(k:Int))=some (match r with | .inl x=>.inl (x,(k':Int)) | .inr d=>.inr (.inr d,(k':Int))):=by
 intro q
 induction q with
 | zero=>intro ns k r l hk hS;cases hS
 | succ q ih =>
   intro ns k r l hk hS;rcases KX hk hS with ⟨h1,h2,hS⟩ | ⟨h1,hS⟩
   rcases IL hS with ⟨x,s',h3,h4⟩ | ⟨d,h3,rfl⟩
   obtain⟨k',a1,a2,rfl,a4⟩:=Nc h2 h3;obtain⟨hl,h4⟩:=Nk h4;obtain⟨k2,b1,b2,b3,n,b4⟩:=ih (ns++[x]) k' r l a2 h4;refine⟨k2,by omega,b2,b3,n+1,?_⟩
   have hL:AO ⟨ts,k0,en⟩ ns (k:Int)=some (.nx (ns++[x],(k':Int))):=by
     unfold AO;dsimp only;rw[Gq hk,h1,Option.bind_some,Eh DN hk];dsimp only[cond];rw[a4,Option.bind_some];dsimp only[Sum.elim];rw[GN hl]
   show(AO ⟨ts,k0,en⟩ ns (k:Int)).bind _=_;rw[hL];exact b4;obtain⟨k',a1,a2,a3,a4⟩:=Nc h2 h3;refine⟨k',by omega,a2,a3,1,?_⟩
   have hL:AO ⟨ts,k0,en⟩ ns (k:Int)=some (.rt (.inr d,(k':Int))):=by
     unfold AO;dsimp only;rw[Gq hk,h1,Option.bind_some,Eh DN hk];dsimp only[cond];rw[a4,Option.bind_some];rfl
   show(AO ⟨ts,k0,en⟩ ns (k:Int)).bind _=_;rw[hL];rfl;obtain⟨rfl,rfl⟩:=KV hS;refine⟨k,Nat.le_refl k,hk,rfl,1,?_⟩
   have hL:AO ⟨ts,k0,en⟩ ns (k:Int)=some (.ex (ns,(k:Int))):=by
     unfold AO;dsimp only;rw[Gq hk,h1,Option.bind_some];rfl
   show(AO ⟨ts,k0,en⟩ ns (k:Int)).bind _=_;rw[hL];rfl
theorem alI{read:Rd Nd}(Nc:∀{k:Nat},k<=ts.length->∀{r l},read (ts.drop k)=some (r,l)->IY ts k (AN ⟨ts,k,en⟩) r l){k:Nat}(hk:k<=ts.length){r l}(hS:Re read (ts.drop k)=some (r,l)):IY ts k (DB ⟨ts,k,en⟩) r l:=by
 refine Bz (λh=>Nc hk h) (λx k1 h hk1 hS=>?_) (λ_ _=>rfl) hS;dsimp only[Sum.elim];rcases KX hk1 hS with ⟨h1,h2,hS⟩ | ⟨h1,hS⟩
 rw[Gq hk1,h1,Option.bind_some,Eh DN hk1];refine KU (Nat.le_succ k1) ?_;refine Bz (λh=>Nc h2 h) (λy k2 h hk2 hS=>?_) (λ_ _=>rfl) hS;obtain⟨hl,hS⟩:=Nk hS;dsimp only[Sum.elim];rw[GN hl];obtain⟨k',a1,a2,a3,n,a4⟩:=mT DN (k:Int) Nc _ _ k2 _ _ hk2 hS;rw[IN a4,Option.bind_some];refine⟨k',a1,a2,a3,?_⟩;cases r<;>rfl
 rw[Gq hk1,h1,Option.bind_some];exact Ec hk1 rfl hS
end
end Mo
end Go.Proofs.YtpbkhogolfegfaaGreatDoor
namespace Go.Proofs.YtpbkhogolfegfaaGreatDoor
open AI Go
namespace Mo
set_option maxRecDepth 100000
section
variable {ts:List Tk} (DN:ts.length<=1000000) {en:Int} {R:Ac} {g:Ek->Rd Nd} {li:Rd (List Nd)} (A:Agr R ts en g li)
include DN A
theorem atG{k:Nat}(hk:k<=ts.length){r l}(hS:eU en g (ts.drop k)=some (r,l)):IY ts k (FG R ⟨ts,k,en⟩) r l:=by
 refine Bz (λh=>A.l4 hk h) (λN k h hk hS=>?_) (λ_ _=>rfl) hS;dsimp only[Sum.elim]
 have fin:∀{y:(Nd⊕Dg)×Int} (k0:Int),BT R ⟨ts,k0,en⟩ (k:Int) N=some (.rt y)->(PO (λ_:Unit=>BT R ⟨ts,k0,en⟩ (k:Int) N) ()).bind (PD (λ(_:Unit)=>none) (λv=>some v))=some y:=by
   intro y k0 hL
   have:GL (λ_:Unit=>BT R ⟨ts,k0,en⟩ (k:Int) N) 1 ()=some (.inr y):=by
     show(BT R ⟨ts,k0,en⟩ (k:Int) N).bind _=_;rw[hL];rfl
   rw[IN this];rfl
 rcases alV (en:=en) hk hS with ⟨x,h1,h2,hS⟩ | ⟨h2,hS⟩
 obtain⟨k',a1,a2,rfl,⟨n,b,hX,hb,rfl⟩ | ⟨d,hX,rfl⟩⟩:=MN DN h1 (λh=>A.l4 h1 h) hS;refine⟨k',by omega,a2,rfl,fin _ ?_⟩;unfold BT;dsimp only;rw[h2];dsimp only[Option.bind,cond];rw[Eh DN hk];cases hE:BY x.data.toList E4.data.toList <;>
 · rw[hE] at hX;dsimp only[cond] at hX;dsimp only
   rw[hX];dsimp only[Sum.elim];rw[hb]
 refine⟨k',by omega,a2,rfl,fin _ ?_⟩;unfold BT;dsimp only;rw[h2];dsimp only[Option.bind,cond];rw[Eh DN hk];cases hE:BY x.data.toList E4.data.toList <;>
 · rw[hE] at hX;dsimp only[cond] at hX;dsimp only
   rw[hX];rfl
 obtain⟨rfl,rfl⟩:=KV hS;refine⟨k,Nat.le_refl k,hk,rfl,fin _ ?_⟩;unfold BT;dsimp only;rw[h2];rfl
theorem aBD{k:Nat}(hk:k<=ts.length){r l}(hS:XP en g (ts.drop k)=some (r,l)):IY ts k (En R ⟨ts,k,en⟩) r l:=by
 unfold XP at hS;unfold En;rw[Gq hk,Option.bind_some];cases hx:IW T5 (ts.drop k) with
 | true =>
   rw[hx] at hS;refine Bz (λh=>It DN _ hk h) (λt k h hk hS=>?_) (λ_ _=>rfl) hS;refine Bz (λh=>A.l2 hk h) (λN k h hk hS=>?_) (λ_ _=>rfl) hS;exact Ec hk rfl hS
 | false =>
   rw[hx] at hS;obtain⟨k',a1,a2,a3,a4⟩:=A.l3 hk hS;refine⟨k',a1,a2,a3,?_⟩;dsimp only[cond];rw[a4,Option.bind_some];cases r with
   | inr d=>rfl
   | inl N =>
     dsimp only[Sum.elim]
     have hL:GL (λx:Int×ByteArray×ByteArray×Int×Int×Int×Int×Int×List Pc×List Nd×Int×Int=>CO R ⟨ts,k,en⟩ x.1 x.2.1 x.2.2.1 x.2.2.2.1 x.2.2.2.2.1 x.2.2.2.2.2.1 x.2.2.2.2.2.2.1 x.2.2.2.2.2.2.2.1 x.2.2.2.2.2.2.2.2.1 x.2.2.2.2.2.2.2.2.2.1 x.2.2.2.2.2.2.2.2.2.2.1 x.2.2.2.2.2.2.2.2.2.2.2) 1 (N.kind,N.name,N.unit,N.n,N.fr,N.to,N.known,N.CJ.den,N.CJ.ps,N.kids,N.AF,(k':Int))=some (.inr (.inl N,(k':Int))):=by
       have:CO R ⟨ts,k,en⟩ N.kind N.name N.unit N.n N.fr N.to N.known N.CJ.den N.CJ.ps N.kids N.AF (k':Int)=some (.rt (.inl N,(k':Int))):=by
         unfold CO EB;dsimp only[Option.bind,cond];rw[PX]
       show(CO R ⟨ts,k,en⟩ N.kind N.name N.unit N.n N.fr N.to N.known N.CJ.den N.CJ.ps N.kids N.AF (k':Int)).bind _=_;rw[this];rfl
     rw[IN hL];rfl
omit DN A in
theorem P3{F:Option ((Nd⊕Dg)×Int)}{k:Nat}{r l}(h:IY ts k F r l):IY ts k (F.bind λ(Ed,Bh)=>Sum.elim (λ(Aw:Nd)=>some ((Sum.inl Aw:(Nd⊕Dg)),Bh)) (λ(CM:Dg)=>some ((Sum.inr CM:(Nd⊕Dg)),Bh)) Ed) r l:=by
 obtain⟨k',a1,a2,a3,a4⟩:=h;refine⟨k',a1,a2,a3,?_⟩;rw[a4,Option.bind_some];cases r<;>rfl
theorem atF{k:Nat}(hk:k<=ts.length){r l}(hS:W4 en g li (ts.drop k)=some (r,l)):IY ts k (GR R ⟨ts,k,en⟩) r l:=by
 refine U7 hk (λt h1 h2 hS=>?_) (λ_=>rfl) hS;have hS:=YT h2 hS;dsimp only[Sum.elim];rw[Eh DN hk];refine KU (Nat.le_succ k) ?_;refine Bz (λh=>It DN _ h1 h) (λ_ k h hk hS=>?_) (λ_ _=>rfl) hS;refine Bz (λh=>A.ex hk h) (λa k h hk hS=>?_) (λ_ _=>rfl) hS;dsimp only[Sum.elim];rw[GN (by omega)];refine Bz (λh=>It DN _ hk h) (λ_ k h hk hS=>?_) (λ_ _=>rfl) hS;refine Bz (λh=>A.li hk h) (λns k h hk hS=>?_) (λ_ _=>rfl) hS;obtain⟨hl,hS⟩:=Nk hS;dsimp only[Sum.elim];rw[GN (by simpa using hl)]
 cases hE:DV ((ns.length:Nat):Int) 0 with
 | true =>
   have:ns=[]:=List.eq_nil_of_length_eq_zero (by have:=Fo hE;omega);subst this;refine Bz (λh=>It DN _ hk h) (λ_ k h hk hS=>?_) (λ_ _=>rfl) hS;exact Ec hk rfl hS
 | false =>
   refine Bz (λh=>It DN _ hk h) (λ_ k h hk hS=>?_) (λ_ _=>rfl) hS;exact Ec hk rfl hS
theorem ayK(t:Tk){k:Nat}(hk:k<=ts.length){r l}(hS:Qz en g t (ts.drop k)=some (r,l)):IY ts k (Fs R ⟨ts,k,en⟩ t) r l:=by
 have one:∀{X:Nd} {r l},UC (Fw X) (ts.drop k)=some (r,l)->IY ts k (some (.inl X,BQ (k:Int) 1)) r l:=by
   intro X r l h;obtain⟨h1,h2⟩:=adP hk h;rw[Eh DN hk];exact KU (Nat.le_succ k) (Ec h1 rfl h2)
 revert hS;unfold Qz Fs;cases BY t.text.data.toList Yj.data.toList;rotate_left;exact one;cases BY t.text.data.toList SN.data.toList;rotate_left;exact one;cases BY t.text.data.toList aD.data.toList;rotate_left;intro hS;obtain⟨h1,hS⟩:=adP hk hS;dsimp only[cond];rw[Eh DN hk];refine KU (Nat.le_succ k) ?_;refine Bz (λh=>Of DN _ h1 h) (λa k h hk hS=>?_) (λ_ _=>rfl) hS;exact Ec hk rfl hS;cases BY t.text.data.toList K0.data.toList;rotate_left;exact one;cases BY t.text.data.toList aL.data.toList;rotate_left;exact one;cases BY t.text.data.toList PW.data.toList;rotate_left;exact one;cases BY t.text.data.toList UB.data.toList;rotate_left;exact one;cases BY t.text.data.toList Kc.data.toList;rotate_left;exact λhS=>P3 (A.ca hk hS);cases BY t.text.data.toList Fx.data.toList;rotate_left;exact λhS=>P3 (A.ca hk hS);cases BY t.text.data.toList Qc.data.toList;rotate_left;exact λhS=>P3 (A.ta hk hS);cases BY t.text.data.toList bY.data.toList;rotate_left;intro hS;obtain⟨h1,hS⟩:=adP hk hS;dsimp only[cond];rw[Eh DN hk];refine KU (Nat.le_succ k) ?_;refine Bz (λh=>A.ex h1 h) (λa k h hk hS=>?_) (λ_ _=>rfl) hS;refine Bz (λh=>It DN _ hk h) (λ_ k h hk hS=>?_) (λ_ _=>rfl) hS;exact Ec hk rfl hS;exact λhS=>Ec hk rfl hS
theorem atC{k:Nat}(hk:k<=ts.length){r l}(hS:WX en g (ts.drop k)=some (r,l)):IY ts k (GQ R ⟨ts,k,en⟩) r l:=by
 refine U7 hk (λt h1 h2 hS=>?_) (λ_=>rfl) hS;revert hS;dsimp only[Sum.elim];cases DV t.kind 3;rotate_left;intro hS;refine Bz (λh=>gT DN hk h) (λn k h hk hS=>?_) (λ_ _=>rfl) hS;refine rJ hk (λhk1 hS=>?_) (λhS=>?_) hS;refine Ec hk1 (Eh DN hk) hS;exact Ec hk rfl hS;cases DV t.kind 2;rotate_left;intro hS;have hS:=YT h2 hS;dsimp only[cond];rw[Eh DN hk];refine KU (Nat.le_succ k) ?_;refine Bz (λh=>Qd DN DP h1 h) (λa k h hk hS=>?_) (λ_ _=>rfl) hS;obtain⟨c,hc,hS⟩:=IQ hS;dsimp only[Sum.elim];rw[hc];exact Ec hk rfl hS;intro hS;obtain⟨b,hb,hS⟩:=IQ hS;dsimp only[cond];rw[hb,Option.bind_some];cases b;exact P3 (A.wd t hk hS);have hS:=YT h2 hS;dsimp only;rw[Eh DN hk];exact KU (Nat.le_succ k) (Ec h1 rfl hS)
end
theorem aiV{ts:List Tk}(DN:ts.length<=1000000)(en:Int):∀q:Nat,Agr (Ai q) ts en (gP en q).1 (gP en q).2:=by
 intro q
 induction q with
 | zero=>constructor<;>intros<;>rename_i h<;>cases h
 | succ q A =>
   constructor
   case ex=>intro k hk r l h;simp only[Ai,Ba];exact P3 (A.l0 hk h)
   case l0=>intro k hk r l h;simp only[Ai,AZ];exact acQ DN (λhk _ _ h=>A.l1 hk h) hk h
   case l1=>intro k hk r l h;simp only[Ai,A0];exact acR DN (λhk _ _ h=>A.l2 hk h) hk h
   case l2=>intro k hk r l h;simp only[Ai,A1];exact aBD DN A hk h
   case l3=>intro k hk r l h;simp only[Ai,A2];exact atG DN A hk h
   case l4=>intro k hk r l h;simp only[Ai,A3];exact acS DN (λhk _ _ h=>A.l5 hk h) hk h
   case l5=>intro k hk r l h;simp only[Ai,A4];exact acT DN (λhk _ _ h=>A.l6 hk h) hk h
   case l6=>intro k hk r l h;simp only[Ai,A5];exact P3 (A.at_ hk h)
   case at_=>intro k hk r l h;simp only[Ai,Bl];exact atC DN A hk h
   case wd=>intro t k hk r l h;simp only[Ai,Bo];exact ayK DN A t hk h
   case ca=>intro k hk r l h;simp only[Ai,Bm];exact atF DN A hk h
   case ta=>intro k hk r l h;simp only[Ai,Bg];exact aoL DN (λhk _ _ h=>A.ex hk h) hk h
   case li=>intro k hk r l h;simp only[Ai,AT];exact alH DN (λhk _ _ h=>A.ex hk h) hk h
end Mo
end Go.Proofs.YtpbkhogolfegfaaGreatDoor
namespace Go.Proofs.YtpbkhogolfegfaaGreatDoor
open AI Go
namespace Mo
set_option maxRecDepth 100000
section
variable (S:Int->Int->Prop) (en en':Int) (w:List Tk)
def TR(t t':Tk):Prop:=t.kind=t'.kind/\t.text=t'.text/\S t.AF t'.AF
inductive F2:List Tk->List Tk->Prop
 | nil:F2 [] []
 | cons {t t':Tk} {l l':List Tk}:TR S t t'->F2 l l'->F2 (t::l) (t'::l')
mutual
inductive NR:Nd->Nd->Prop
 | mk {k:Int} {nm u:ByteArray} {n f t kn:Int} {tb:Fn} {ks ks':List Nd} {a a':Int}:wW ks ks'->S a a'->NR ⟨k,nm,u,n,f,t,kn,tb,ks,a⟩ ⟨k,nm,u,n,f,t,kn,tb,ks',a'⟩
inductive wW:List Nd->List Nd->Prop
 | nil:wW [] []
 | cons {n n':Nd} {l l':List Nd}:NR n n'->wW l l'->wW (n::l) (n'::l')
end
def DR(d d':Dg):Prop:=d.err=d'.err/\(S d.AF d'.AF\/d=⟨72,en⟩/\d'=⟨72,en'⟩)
inductive RR{α:Type}(Q:α->α->Prop):α⊕Dg->α⊕Dg->Prop
 | l {a a':α}:Q a a'->RR Q (.inl a) (.inl a')
 | r {d d':Dg}:DR S en en' d d'->RR Q (.inr d) (.inr d')
def Ends{α:Type}(b:Bool)(r:α⊕Dg)(s:List Tk):Prop:=s=[]/\(r=.inr ⟨72,en⟩\/b=false/\∃a,r=.inl a)
def RP{α:Type}(b:Bool)(Q:α->α->Prop)(m m':Rd α):Prop:=∀⦃l l1 s s':List Tk⦄ ⦃r r':α⊕Dg⦄,F2 S l l1->m l=some (r,s)->m' (l1++w)=some (r',s') ->
 (∃s1,s'=s1++w/\F2 S s s1/\RR S en en' Q r r')\/w≠[]/\Ends en b r s
def EO{α:Type}(b:Bool)(m:Rd α):Prop:=∀⦃r:α⊕Dg⦄ ⦃s:List Tk⦄,m []=some (r,s)->Ends en b r s
end
section
variable {S:Int->Int->Prop} {en en':Int} {w:List Tk} {α β:Type} {b:Bool} {Q:α->α->Prop} {Q2:β->β->Prop}
def Ends.Yt{r:α⊕Dg}{s:List Tk}(h:Ends en true r s):Ends en b r s:=by
 refine⟨h.1,?_⟩;rcases h.2 with h | ⟨h,_⟩
 exact .inl h;cases h
def RP.Yt{m m':Rd α}(h:RP S en en' w true Q m m'):RP S en en' w b Q m m':=λ_ _ _ _ _ _ f h1 h2=>(h f h1 h2).imp id λh=>⟨h.1,h.2.Yt⟩
def EO.Yt{m:Rd α}(h:EO en true m):EO en b m:=λ_ _ h1=>(h h1).Yt
def Fe{a a':α}(h:Q a a'):RP S en en' w b Q (Fw a) (Fw a'):=by
 intro l l1 s s' r r' f h1 h2;obtain⟨rfl,rfl⟩:=KV h1;obtain⟨rfl,rfl⟩:=KV h2;exact .inl ⟨l1,rfl,f,.l h⟩
def NE{e p p':Int}(h:S p p'):RP S en en' w b Q (L2 e p) (L2 e p'):=by
 intro l l1 s s' r r' f h1 h2;obtain⟨rfl,rfl⟩:=Ml h1;obtain⟨rfl,rfl⟩:=Ml h2;exact .inl ⟨l1,rfl,f,.r ⟨rfl,.inl h⟩⟩
def J5{m m':Rd α}{K K':α->Rd β}(h1:RP S en en' w false Q m m')(h2:∀a a',Q a a'->RP S en en' w b Q2 (K a) (K' a'))(h3:∀a,EO en b (K a)):RP S en en' w b Q2 (Cp m K) (Cp m' K'):=by
 intro l l1 s s' r r' f e1 e2;rcases IL e1 with ⟨a,t,e3,e4⟩ | ⟨d,e3,rfl⟩
 rcases IL e2 with ⟨a',t',e5,e6⟩ | ⟨d',e5,rfl⟩
 rcases h1 f e3 e5 with ⟨s1,rfl,f1,q⟩ | ⟨hw,rfl,_⟩
 cases q with
 | l q=>exact h2 _ _ q f1 e4 e6
 exact .inr ⟨hw,h3 a e4⟩;rcases h1 f e3 e5 with ⟨s1,rfl,f1,q⟩ | ⟨hw,rfl,_⟩
 cases q;exact .inr ⟨hw,h3 a e4⟩;rcases IL e2 with ⟨a',t',e5,e6⟩ | ⟨d',e5,rfl⟩
 rcases h1 f e3 e5 with ⟨s1,rfl,f1,q⟩ | ⟨hw,rfl,hq⟩
 cases q;rcases hq with hq | ⟨_,a,hq⟩
 cases hq;exact .inr ⟨hw,rfl,.inl rfl⟩;cases hq;rcases h1 f e3 e5 with ⟨s1,rfl,f1,q⟩ | ⟨hw,rfl,hq⟩
 cases q with
 | r q=>exact .inl ⟨s1,rfl,f1,.r q⟩
 rcases hq with hq | ⟨_,a,hq⟩
 cases hq;exact .inr ⟨hw,rfl,.inl rfl⟩;cases hq
def Fc{m m':Rd α}{K K':α->Rd β}(h1:RP S en en' w true Q m m')(h2:∀a a',Q a a'->RP S en en' w b Q2 (K a) (K' a')):RP S en en' w b Q2 (Cp m K) (Cp m' K'):=by
 intro l l1 s s' r r' f e1 e2
 have no:∀{a:α} {t:List Tk},m l=some (.inl a,t)->¬Ends en true (Sum.inl a:α⊕Dg) t:=by
   rintro a t _ ⟨_,h | ⟨h,_⟩⟩<;>cases h
 rcases IL e1 with ⟨a,t,e3,e4⟩ | ⟨d,e3,rfl⟩
 rcases IL e2 with ⟨a',t',e5,e6⟩ | ⟨d',e5,rfl⟩
 rcases h1 f e3 e5 with ⟨s1,rfl,f1,q⟩ | ⟨hw,h⟩
 cases q with
 | l q=>exact h2 _ _ q f1 e4 e6
 exact absurd h (no e3);rcases h1 f e3 e5 with ⟨s1,rfl,f1,q⟩ | ⟨hw,h⟩
 cases q;exact absurd h (no e3);rcases IL e2 with ⟨a',t',e5,e6⟩ | ⟨d',e5,rfl⟩
 rcases h1 f e3 e5 with ⟨s1,rfl,f1,q⟩ | ⟨hw,rfl,hq⟩
 cases q;rcases hq with hq | ⟨hq,_⟩
 cases hq;exact .inr ⟨hw,rfl,.inl rfl⟩;cases hq;rcases h1 f e3 e5 with ⟨s1,rfl,f1,q⟩ | ⟨hw,rfl,hq⟩
 cases q with
 | r q=>exact .inl ⟨s1,rfl,f1,.r q⟩
 rcases hq with hq | ⟨hq,_⟩
 cases hq;exact .inr ⟨hw,rfl,.inl rfl⟩;cases hq
def P6{X:Option β}{K K':β->Rd α}(h:∀a,X=some a->RP S en en' w b Q (K a) (K' a)):RP S en en' w b Q (K4 X K) (K4 X K'):=by
 intro l l1 s s' r r' f e1 e2;obtain⟨a,ha,e1⟩:=IQ e1;obtain⟨a',xA,e2⟩:=IQ e2;rw[ha] at xA;cases xA;exact h a ha f e1 e2
def aeJ{K K':Tk->Rd α}(h:∀t t',TR S t t'->RP S en en' w b Q (K t) (K' t')):RP S en en' w b Q (Ua en K) (Ua en' K'):=by
 intro l l1 s s' r r' f e1 e2;cases f with
 | nil =>
   simp only[Ua,Option.some.injEq,Prod.mk.injEq] at e1;obtain⟨rfl,rfl⟩:=e1;by_cases hw:w=[];subst hw;simp only[Ua,List.append_nil,Option.some.injEq,Prod.mk.injEq] at e2;obtain⟨rfl,rfl⟩:=e2;exact .inl ⟨[],rfl,.nil,.r ⟨rfl,.inr ⟨rfl,rfl⟩⟩⟩;exact .inr ⟨hw,rfl,.inl rfl⟩
 | cons ht f=>exact h _ _ ht (.cons ht f) e1 e2
def Uc{K K':Rd α}(h:RP S en en' w b Q K K'):RP S en en' w b Q (UC K) (UC K'):=by
 intro l l1 s s' r r' f e1 e2;cases f with
 | nil=>cases e1
 | cons ht f=>exact h f e1 e2
def X2{x:ByteArray}{A A' B B':Rd α}(h1:RP S en en' w b Q A A')(h2:RP S en en' w b Q B B')(h3:EO en b B):RP S en en' w b Q (ND x A B) (ND x A' B'):=by
 intro l l1 s s' r r' f e1 e2;cases f with
 | nil =>
   by_cases hw:w=[];subst hw;exact h2 .nil e1 e2;exact .inr ⟨hw,h3 e1⟩
 | cons ht f =>
   rename_i t t' l l';unfold ND at e1 e2
   have:IW x (t::l)=IW x (t'::l'++w):=by
     show BY t.text.data.toList _=BY t'.text.data.toList _;rw[ht.2.1]
   rw[<- this] at e2;cases hx:IW x (t::l) with
   | true=>rw[hx] at e1 e2;exact h1 f e1 e2
   | false=>rw[hx] at e1 e2;exact h2 (.cons ht f) e1 e2
def X1{n n':Nat}{m m':Rd α}(h:RP S en en' w b Q m m'):RP S en en' w b Q (NX n m) (NX n' m'):=by
 intro l l1 s s' r r' f e1 e2;exact h f (Nk e1).2 (Nk e2).2
def DC{c:Bool}{A A' B B':Rd α}(h1:c=true->RP S en en' w b Q A A')(h2:c=false->RP S en en' w b Q B B'):RP S en en' w b Q (cond c A B) (cond c A' B'):=by
 cases c;exact h2 rfl;exact h1 rfl
def aeH{K K':Nat->Rd α}(h:∀n n',RP S en en' w b Q (K n) (K' n')):RP S en en' w b Q (λs=>K (s.length+1) s) (λs=>K' (s.length+1) s):=by
 intro l l1 s s' r r' f e1 e2;exact h _ _ f e1 e2
def oY{K:Tk->Rd α}:EO en b (Ua en K):=by
 intro r s h;simp only[Ua,Option.some.injEq,Prod.mk.injEq] at h;obtain⟨rfl,rfl⟩:=h;exact⟨rfl,.inl rfl⟩
def Oz{a:α}:EO en false (Fw a):=by
 intro r s h;obtain⟨rfl,rfl⟩:=KV h;exact⟨rfl,.inr ⟨rfl,a,rfl⟩⟩
def M8{m:Rd α}{K:α->Rd β}(h:EO en true m):EO en b (Cp m K):=by
 intro r s e1;rcases IL e1 with ⟨a,t,e3,e4⟩ | ⟨d,e3,rfl⟩
 obtain⟨_,h | ⟨h,_⟩⟩:=h e3<;>cases h
 obtain⟨h1,h | ⟨h,_⟩⟩:=h e3;cases h;exact⟨h1,.inl rfl⟩;cases h
def atI{X:Option β}{K:β->Rd α}(h:∀a,EO en b (K a)):EO en b (K4 X K):=by
 intro r s e1;obtain⟨a,_,e1⟩:=IQ e1;exact h a e1
def lN{x:ByteArray}{A B:Rd α}(h:EO en b B):EO en b (ND x A B):=λ_ _ e1=>h e1
def aaA{n:Nat}{m:Rd α}(h:EO en b m):EO en b (NX n m):=λ_ _ e1=>h (Nk e1).2
end
end Mo
end Go.Proofs.YtpbkhogolfegfaaGreatDoor
namespace Go.Proofs.YtpbkhogolfegfaaGreatDoor
open AI Go
namespace Mo
set_option maxRecDepth 100000
section
variable {S:Int->Int->Prop} {en en':Int} {w:List Tk} {α β:Type} {b:Bool} {Q:α->α->Prop}
theorem sB{f:Tk->Option Bool}(hf:∀k t a a',f ⟨k,t,a⟩=f ⟨k,t,a'⟩){t t':Tk}(h:TR S t t'):f t=f t':=by
 obtain⟨k,x,a⟩:=t;obtain⟨k',x',a'⟩:=t';obtain⟨h1,h2,_⟩:=h;dsimp only at h1 h2;subst h1 h2;exact hf _ _ _ _
theorem anB{X X':Option β}{K K':β->Rd α}(h:∀a a',X=some a->X'=some a'->RP S en en' w b Q (K a) (K' a')):RP S en en' w b Q (K4 X K) (K4 X' K'):=by
 intro l l1 s s' r r' f e1 e2;obtain⟨a,ha,e1⟩:=IQ e1;obtain⟨a',xA,e2⟩:=IQ e2;exact h a a' ha xA f e1 e2
theorem Ue{f:Tk->Option Bool}(hf:∀k t a a',f ⟨k,t,a⟩=f ⟨k,t,a'⟩):RP S en en' w b (TR S) (KZ en f) (KZ en' f):=by
 refine aeJ λt t' ht=>?_;rw[sB hf ht];exact P6 λc _=>DC (λ_=>Uc (Fe ht)) λ_=>NE ht.2.2
theorem ajN{f:Tk->Option Bool}:EO en b (KZ en f):=oY
theorem NF(x:ByteArray):RP S en en' w b (TR S) (I9 en x) (I9 en' x):=Ue λ_ _ _ _=>rfl
theorem UJ{x:ByteArray}:EO en b (I9 en x):=oY
def QA(S:Int->Int->Prop)(p p':Int×Int):Prop:=p.1=p'.1/\S p.2 p'.2
theorem ZE:RP S en en' w b (QA S) (MD en) (MD en'):=by
 refine Fc (Ue λ_ _ _ _=>rfl) λt t' h=>?_;rw[h.2.1];exact P6 λn _=>Fe ⟨rfl,h.2.2⟩
theorem Ud(least:Int):RP S en en' w b (QA S) (Lm en least) (Lm en' least):=by
 refine Fc ZE λp p' h=>?_;rw[h.1];exact DC (λ_=>NE h.2) λ_=>DC (λ_=>NE h.2) λ_=>Fe h
theorem Jf{kind n:Int}{name unit:ByteArray}{ks ks':List Nd}{p p':Int}(h:wW S ks ks')(hp:S p p'):NR S (EP kind name unit n ks p) (EP kind name unit n ks' p'):=.mk h hp
theorem alQ{l l' m m':List Nd}(h:wW S l l')(h2:wW S m m'):wW S (l++m) (l'++m'):=by
 induction l generalizing l' with
 | nil=>cases h;exact h2
 | cons x l ih=>cases h with | cons a t=>exact .cons a (ih t)
theorem YW:RP S en en' w b (NR S) (F7 en) (F7 en'):=by
 refine Fc (Ud _) λp p' h=>?_;rw[h.1];exact Fe (Jf .nil h.2)
theorem oX{read:Rd Nd}(q:Nat)(l:List Nd):EO en false (Qs read q l):=by
 cases q with
 | zero=>intro r s h;cases h
 | succ q=>exact lN Oz
theorem anD{read iG:Rd Nd}(h:RP S en en' w false (NR S) read iG):∀(q q':Nat) (l l':List Nd),wW S l l'->RP S en en' w false (wW S) (Qs read q l) (Qs iG q' l'):=by
 intro q
 induction q with
 | zero=>intro q' l l' _ _ _ _ _ _ _ _ e1;cases e1
 | succ q ih =>
   intro q' l l' hl;cases q' with
   | zero=>intro _ _ _ _ _ _ _ _ e2;cases e2
   | succ q'=>exact X2 (J5 h (λn n' hn=>X1 (ih q' _ _ (alQ hl (.cons hn .nil)))) λn=>aaA (oX q _)) (Fe hl) Oz
theorem ajM{read:Rd Nd}(h:EO en true read):EO en b (Re read):=M8 h
theorem anC{read iG:Rd Nd}(h:RP S en en' w false (NR S) read iG):RP S en en' w false (wW S) (Re read) (Re iG) :=
 J5 h (λn n' hn=>aeH λq q'=>anD h q q' _ _ (.cons hn .nil)) λn _ _ h=>oX 1 [n] h
theorem X3:RP S en en' w b (QA S) (NM en) (NM en'):=by
 refine Fc (Ue λ_ _ _ _=>rfl) λt t' h=>?_;have:Cl t=Cl t':=by unfold Cl;rw[h.2.1]
 rw[this,h.1];exact P6 λc _=>DC (λ_=>DC (λ_=>Fe ⟨rfl,h.2.2⟩) λ_=>NE h.2.2) λ_=>Fe ⟨rfl,h.2.2⟩
theorem aaB:EO en b (NM en):=M8 ajN
theorem anE:RP S en en' w b (·=·) (VL en) (VL en'):=by
 refine Fc (Ue λ_ _ _ _=>rfl) λt t' h=>?_;rw[h.2.1];exact DC (λ_=>Fe rfl) λ_=>Fe rfl
theorem ZG(Ax from_ a:Int):RP S en en' w b (·=·) (Oe en Ax from_ a) (Oe en' Ax from_ a):=by
 refine Fc anE λs s' hs=>Fc (Ud _) λm m' hm=>Fc (NF _) λ_ _ _=>Fc (Ud _) λd d' hd=>?_;subst hs;rw[hm.1,hd.1];exact P6 λg _=>P6 λz _=>DC (λ_=>NE hd.2) λ_=>Fe rfl
theorem ZF(Ax from_:Int):RP S en en' w b (·=·) (MI en Ax from_) (MI en' Ax from_):=by
 refine Fc (NF _) λ_ _ _=>X2 (Fc X3 λa a' ha=>?_) (Fc X3 λa a' ha=>?_) (M8 aaB);rw[ha.1];exact ZG _ _ _;rw[ha.1];exact ZG _ _ _
theorem aeI(before:List Pt)(Ax:Int):RP S en en' w b (·=·) (Ri en before Ax) (Ri en' before Ax):=by
 refine Fc X3 λv v' hv=>?_;rw[hv.1];exact DC (λ_=>DC (λ_=>ZF _ _) λ_=>NE hv.2) λ_=>P6 λq _=>DC (λ_=>NE hv.2) λ_=>DC (λ_=>NE hv.2) λ_=>ZF _ _
theorem vQ:∀(q q':Nat) (l:List Pt) (c:Int),RP S en en' w false (·=·) (Lx en q l c) (Lx en' q' l c):=by
 intro q
 induction q with
 | zero=>intro q' l c _ _ _ _ _ _ _ e1;cases e1
 | succ q ih =>
   intro q' l c;cases q' with
   | zero=>intro _ _ _ _ _ _ _ _ e2;cases e2
   | succ q' =>
     refine Fc (aeI _ _) λp p' hp=>?_;subst hp;exact X1 (X2 (ih q' _ _) (Fe rfl) Oz)
theorem vR(c:Int){p p':Int}(hp:S p p'):∀(ps:List Pt) (acc:List Pc),RP S en en' w b (·=·) (LC c p ps acc) (LC c p' ps acc):=by
 intro ps
 induction ps with
 | nil=>intro acc;exact Fe rfl
 | cons x ps ih=>intro acc;exact P6 λz _=>DC (λ_=>NE hp) λ_=>DC (λ_=>NE hp) λ_=>X1 (ih _)
inductive ER(S:Int->Int->Prop):Ek->Ek->Prop
 | ex:ER S .ex .ex
 | lv (i:Nat):ER S (.lv i) (.lv i)
 | at_:ER S .at_ .at_
 | wd {t t':Tk}:TR S t t'->ER S (.wd t) (.wd t')
 | ca:ER S .ca .ca
 | ta:ER S .ta .ta
structure Rel(S:Int->Int->Prop)(en en':Int)(w:List Tk)(g g':Ek->Rd Nd)(li li':Rd (List Nd)):Prop where
 rg:∀{e e'},ER S e e'->RP S en en' w false (NR S) (g e) (g' e')
 rli:RP S en en' w false (wW S) li li'
 eg:∀e,(∀t,e≠.wd t)->EO en true (g e)
 eli:EO en true li
theorem arX{yes aDD:ByteArray->Rd α}{no no':Rd α}(h1:∀x,RP S en en' w b Q (yes x) (aDD x))(h2:RP S en en' w b Q no no')(h3:EO en b no):∀ops:List ByteArray,RP S en en' w b Q (kO yes no ops) (kO aDD no' ops)/\EO en b (kO yes no ops):=by
 intro ops
 induction ops with
 | nil=>exact⟨h2,h3⟩
 | cons x ops ih=>exact⟨X2 (h1 x) ih.1 ih.2,lN ih.2⟩
theorem aqP{yes:ByteArray->Rd α}{no:Rd α}(h3:EO en b no):∀ops:List ByteArray,EO en b (kO yes no ops):=by
 intro ops
 induction ops with
 | nil=>exact h3
 | cons x ops ih=>exact lN ih
theorem tN{op:ByteArray}{l l' r r' x x':Nd}(hl:NR S l l')(hr:NR S r r')(h1:A7 op l r=some x)(h2:A7 op l' r'=some x'):NR S x x':=by
 have ha:S l.AF l'.AF:=by cases hl with | mk _ h=>exact h
 unfold A7 at h1 h2;revert h1 h2;cases BY op.data.toList JO.data.toList
 · cases BY op.data.toList Hc.data.toList
   intro h1 h2;cases h1;cases h2;exact .mk (.cons hl (.cons hr .nil)) ha
   · cases hq:Jl op JO Kv 1 with
     | none=>intro h1;cases h1
     | some y =>
       intro h1 h2;cases h1;cases h2;exact .mk (.cons hr (.cons hl .nil)) ha
 · cases hq:Jl op JO Kv 1 with
   | none=>intro h1;cases h1
   | some y =>
     intro h1 h2;cases h1;cases h2;exact .mk (.cons hr (.cons hl .nil)) ha
theorem iN{sub afP:Rd Nd}(h:RP S en en' w false (NR S) sub afP)(op:ByteArray){l l':Nd}(hl:NR S l l'):RP S en en' w false (NR S) (P5 en sub op l) (P5 en' afP op l') :=
 J5 (DC (λ_=>YW) λ_=>h) (λr r' hr=>anB λx x' h1 h2=>Fe (tN hl hr h1 h2)) λr=>atI λx=>Oz
theorem eZ{ops:List ByteArray}{sub:Rd Nd}(q:Nat)(l:Nd):EO en false (KB en ops sub q l):=by
 cases q with
 | zero=>intro r s h;cases h
 | succ q=>exact aqP Oz ops
theorem aeE(ops:List ByteArray){sub afP:Rd Nd}(h:RP S en en' w false (NR S) sub afP):∀(q q':Nat) (l l':Nd),NR S l l'->RP S en en' w false (NR S) (KB en ops sub q l) (KB en' ops afP q' l'):=by
 intro q
 induction q with
 | zero=>intro q' l l' _ _ _ _ _ _ _ _ e1;cases e1
 | succ q ih =>
   intro q' l l' hl;cases q' with
   | zero=>intro _ _ _ _ _ _ _ _ e2;cases e2
   | succ q'=>exact(arX (λx=>J5 (iN h x hl) (λy y' hy=>ih q' _ _ hy) λy=>eZ q y) (Fe hl) Oz ops).1
section
variable {g g':Ek->Rd Nd} {li li':Rd (List Nd)} (A:Rel S en en' w g g' li li')
include A
theorem aeG(i:Nat):RP S en en' w false (NR S) (Ni en g i) (Ni en' g' i) :=
 J5 (A.rg (.lv _)) (λN N' h=>aeH λq q'=>aeE _ (A.rg (.lv _)) q q' _ _ h) λN _ _ h=>eZ 1 N h
theorem anA:RP S en en' w false (NR S) (eU en g) (eU en' g') :=
 J5 (A.rg (.lv _)) (λN N' h=>(arX (λx=>iN (A.rg (.lv _)) x h) (Fe h) Oz _).1) λN=>aqP Oz _
theorem axD:RP S en en' w false (NR S) (XP en g) (XP en' g'):=by
 intro l l1 s s' r r' f e1 e2;cases f with
 | nil =>
   by_cases hw:w=[];subst hw;exact A.rg (.lv 3) .nil e1 e2;exact .inr ⟨hw,((A.eg (.lv 3) (by intro t h;cases h)) e1).Yt⟩
 | cons ht f =>
   rename_i t t' l l';unfold XP at e1 e2
   have:IW T5 (t::l)=IW T5 (t'::l'++w):=by
     show BY t.text.data.toList _=BY t'.text.data.toList _;rw[ht.2.1]
   rw[<- this] at e2;cases hx:IW T5 (t::l) with
   | true =>
     rw[hx] at e1 e2;exact Fc (NF _) (λt t' ht=>J5 (A.rg (.lv 2)) (λk k' hk=>Fe (Jf (.cons hk .nil) ht.2.2)) λk=>Oz) (.cons ht f) e1 e2
   | false=>rw[hx] at e1 e2;exact A.rg (.lv 3) (.cons ht f) e1 e2
theorem amZ:RP S en en' w false (NR S) (W4 en g li) (W4 en' g' li'):=by
 refine aeJ λt t' ht=>Uc (Fc (NF _) λ_ _ _=>J5 (A.rg .ex) (λa a' ha=>Fc (NF _) λ_ _ _=>J5 A.rli (λl l' hl=>X1 (Fc (NF _) λ_ _ _=>?_)) λ_=>aaA (M8 UJ)) λ_=>M8 UJ);rw[ht.2.1];exact Fe (Jf (.cons ha hl) ht.2.2)
theorem aeK:RP S en en' w false (NR S) (Ye en g) (Ye en' g'):=by
 refine Fc (NF _) λt t' ht=>Fc (NF _) λ_ _ _=>J5 (A.rg .ex) (λa a' ha=>Fc (NF _) λ_ _ _=>J5 (aeH λq q'=>vQ q q' _ _) (λl l' hl=>?_) λ_=>M8 UJ) λ_=>M8 UJ;subst hl;refine Fc (NF _) λe e' he=>X1 (Fc (vR _ he.2.2 _ _) λr r' hr=>?_);subst hr;exact Fe (.mk (.cons ha .nil) ht.2.2)
theorem anF{t t':Tk}(ht:TR S t t'):RP S en en' w false (NR S) (Qz en g t) (Qz en' g' t'):=by
 unfold Qz;rw[ht.2.1]
 have hd:RP S en en' w false (NR S) (TP t) (TP t'):=by
   unfold TP;rw[ht.2.1];exact Uc (Fe (Jf .nil ht.2.2))
 refine DC (λ_=>Uc (Fe (Jf .nil ht.2.2))) λ_=>DC (λ_=>Uc (Fe (Jf .nil ht.2.2))) λ_=>DC (λ_=>Uc (Fc (Ud _) λp p' hp=>?_)) λ_ =>
   DC (λ_=>hd) λ_=>DC (λ_=>hd) λ_=>DC (λ_=>hd) λ_=>DC (λ_=>hd) λ_=>DC (λ_=>A.rg .ca) λ_=>DC (λ_=>A.rg .ca) λ_=>DC (λ_=>A.rg .ta) λ_ =>
   DC (λ_=>Uc (J5 (A.rg .ex) (λa a' ha=>Fc (NF _) λ_ _ _=>Fe ha) λ_=>M8 UJ)) λ_=>NE ht.2.2
 rw[hp.1];exact Fe (Jf .nil ht.2.2)
theorem amY:RP S en en' w false (NR S) (WX en g) (WX en' g'):=by
 refine aeJ λt t' ht=>?_;have h6:Cr t=Cr t':=sB (λ_ _ _ _=>rfl) ht;rw[ht.1,h6,ht.2.1];refine DC (λ_=>Fc ZE λn n' hn=>?_) λ_=>DC (λ_=>Uc (Fc (Ue λ_ _ _ _=>rfl) λa a' ha=>?_)) λ_=>P6 λc _=>DC (λ_=>Uc (Fe (Jf .nil ht.2.2))) λ_=>A.rg (.wd ht);rw[hn.1];exact X2 (Fe (Jf .nil hn.2)) (Fe (Jf .nil hn.2)) Oz;have:Cl a=Cl a':=by unfold Cl;rw[ha.2.1]
 rw[this];exact P6 λc _=>Fe (Jf .nil ht.2.2)
end
theorem amO:∀q q':Nat,Rel S en en' w (gP en q).1 (gP en' q').1 (gP en q).2 (gP en' q').2:=by
 intro q
 induction q with
 | zero =>
   intro q';constructor
   case rg=>intro _ _ _ _ _ _ _ _ _ _ e1;cases e1
   case rli=>intro _ _ _ _ _ _ _ e1;cases e1
   case eg=>intro _ _ _ _ e1;cases e1
   case eli=>intro _ _ e1;cases e1
 | succ q ih =>
   intro q'
   have eg:∀e,(∀t,e≠.wd t)->EO en true ((gP en (q+1)).1 e):=by
     have A:=ih 0;intro e he;show EO en true (Oh en (gP en q).1 (gP en q).2 e);unfold Oh;split;exact A.eg _ (by intro t h;cases h);intro r s h;exact A.eg (.lv 3) (by intro t h;cases h) h;exact M8 (A.eg _ (by intro t h;cases h));exact A.eg _ (by intro t h;cases h);exact M8 (A.eg _ (by intro t h;cases h));exact oY;rename_i t;exact absurd rfl (he t);exact oY;exact M8 UJ
   have eli:EO en true (gP en (q+1)).2:=ajM ((ih 0).eg .ex (by intro t h;cases h));cases q' with
   | zero =>
     constructor
     case rg=>intro _ _ _ _ _ _ _ _ _ _ _ e2;cases e2
     case rli=>intro _ _ _ _ _ _ _ _ e2;cases e2
     case eg=>exact eg
     case eli=>exact eli
   | succ q' =>
     have A:=ih q';refine⟨λ{e e'} he=>?_,anC (A.rg .ex),eg,eli⟩;show RP S en en' w false (NR S) (Oh en (gP en q).1 (gP en q).2 e) (Oh en' (gP en' q').1 (gP en' q').2 e');cases he with
     | ex=>exact A.rg (.lv 0)
     | at_=>exact amY A
     | wd ht=>exact anF A ht
     | ca=>exact amZ A
     | ta=>exact aeK A
     | lv i =>
       unfold Oh;split;rename_i h;cases h;exact axD A;exact anA A;exact A.rg .at_;rename_i h;cases h;exact aeG A _
       all_goals (rename_i h;cases h)
end
end Mo
end Go.Proofs.YtpbkhogolfegfaaGreatDoor
