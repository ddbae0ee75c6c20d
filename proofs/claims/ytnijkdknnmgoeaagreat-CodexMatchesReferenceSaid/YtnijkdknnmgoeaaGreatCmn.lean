/- Part of a proof: see the last text. -/
import Derived.Test.YtnijkdknnmgoeaaGreatCmm
set_option linter.unusedVariables false
set_option linter.unusedSimpArgs false
set_option linter.defProp false
noncomputable section
namespace Go.Proofs.YtnijkdknnmgoeaaGreat
open AI Go
namespace Mo
set_option maxRecDepth 100000
set_option maxHeartbeats 4000000
def aa4(l m:List Nd):JL (l++m)=JL l+JL m:=by
 induction l with
 | nil=>simp[JL]
 | cons a l ih=>simp only[List.cons_append,JL,ih];omega
def adf{l:List Nd}{i:Nat}{y:Nd}(h:l[i]?=some y):JL (l.take (i+1))=JL (l.take i)+Fv y:=by
 rw[List.take_add_one,h,aa4];simp[JL]
def afp(l:List Nd)(i:Nat):JL (l.take i)<=JL l:=by
 have:=aa4 (l.take i) (l.drop i);rw[List.take_append_drop] at this;omega
def arx:∀(n:Nat) (e:Nd) (l:Int),Iu e->Fv e<=n->l<=1000000->Et n e l=some (max 0 (min ((Fv e:Nat):Int) l)):=by
 intro n
 induction n with
 | zero=>intro e l _ h;have:=CN e;omega
 | succ n ih =>
   intro e l L8 hn hl;obtain⟨_,hk,Lo⟩:=KR L8;have hp:=CN e;rw[Et,LN,MA];simp only[Ea,Bd,DH,AB];refine⟨λh=>by omega,λh=>?_⟩;refine CW (λi x=>x=min (((1+JL (e.kids.take i):Nat)):Int) l) hk (by simp[JL];omega) (λi y x hy hx=>?_) (λx hx=>?_);have hm:=List.mem_of_getElem? hy;have h1:=adf hy;have h2:=afp e.kids (i+1);have h3:=P7 hm;simp only[I7,CC,Bd,DH,Mh,AB,C9,XY];refine⟨λh4=>?_,λh4=>by omega⟩;rw[Oz (by omega),ih y (l - x) (Lo y hm) (by omega) (by omega),AB,Dl (by omega)];omega;rw[List.take_length] at hx;rw[AB];omega
def ajT(e:Nd)(l:Int)(h:Iu e)(hl:0<=l/\l < 1000000):MB e l=some (mb (((Fv e:Nat):Int)<=l)):=by
 have hc:R5 e (l+1)=some (max 0 (min ((Fv e:Nat):Int) (l+1))):=Ih (Fv e) λn hn=>arx n e (l+1) h hn (by omega);rw[MB,Dl (by omega),hc,MA];simp only[Ea,Bd,DH,AB,Mh,Qv,CS];omega
def pD:∀(n:Nat) (e:Nd) (l:Int),Iu e->Fv e<=n->-1000000<=l->l<=1000000->H9 n e l=some (mb (((Ui e:Nat):Int)<=l)):=by
 intro n
 induction n with
 | zero=>intro e l _ h;have:=CN e;omega
 | succ n ih =>
   intro e l L8 hn hl0 hl;obtain⟨_,hk,Lo⟩:=KR L8;have hp:=U3 e;rw[H9,P8,CC,Bd];by_cases h:l < 1;rw[Ac h];refine FE ?_;omega
   rw[Ab h,Dy (v:=false) (P:=λ_ y=>((Ui y:Nat):Int)<=l - 1) hk (λi y hy=>by
     have hm:=List.mem_of_getElem? hy;have h3:=P7 hm;simp only[OM];rw[Oz (by omega),ih y (l - 1) (Lo y hm) (by omega) (by omega) (by omega)];simp only[Option.bind_some,Bd,NC]),EW,GH]
   refine Kp ?_
   have h4:(∀k∈e.kids,((Ui k:Nat):Int)<=l - 1)↔dpL e.kids<=(l - 1).toNat:=by
     rw[dX];exact⟨λh k hk=>by have:=h k hk;omega,λh k hk=>by have:=h k hk;omega⟩
   rw[h4];omega
def anc(e:Nd)(h:Iu e):Nz e=some (mb (Fv e<=2000/\Ui e<=40)):=by
 have hf:NF e 40=some (mb (((Ui e:Nat):Int)<=40)):=Ih (Fv e) λn hn=>pD n e 40 h hn (by omega) (by omega);rw[Nz,ajT e 2000 h (by omega),hf];simp only[Option.bind_some,Bd,Ek];refine Kp ?_;omega
def eqN{n:Nd}{nm un:ByteArray}{k f t w:Int}{tb:Fn}:FU n ⟨0,nm,un,k,f,t,w,tb,[],0⟩↔n.name=nm/\n.unit=un/\n.n=k/\n.fr=f/\n.to=t/\n.known=w/\n.BX.den=tb.den/\n.BX.ps=tb.ps:=Iff.rfl
def lY{k:Nd}:Rf k/\VB k↔(k.kind=11/\(k.name=eS/\zD k/\zT k/\k.kids=[])/\k.unit=AF/\JX k.n):=by
 rw[P9];unfold VB zD zT JX;constructor;rintro⟨⟨h1,_⟩,h2,h3,h4⟩;obtain⟨_,_,_,_,hl,hb⟩:=(aee h2).1 h1;obtain⟨b1,_,_,b4,b5,b6,b7,b8⟩:=eqN.1 hb;exact⟨h2,⟨b1,⟨b4,b5,b6⟩,⟨b7,b8⟩,xF.1 hl⟩,h3,h4⟩;rintro⟨h2,⟨b1,⟨b4,b5,b6⟩,⟨b7,b8⟩,hl⟩,h3,h4⟩;refine⟨⟨(aee h2).2 ⟨.inr (.inl h3),by omega,by omega,λe=>?_,by rw[hl];rfl,eqN.2 ⟨b1,rfl,rfl,b4,b5,b6,b7,b8⟩⟩,λk hk=>by rw[hl] at hk;cases hk⟩,h2,h3,h4⟩;rw[h3] at e;exact absurd (congrArg ByteArray.data e) (by decide)
def ahi:∀(q:Nat) (n:Nd),Iu n->2*Fv n<=q->Ez q n=some (mb (Rf n)):=by
 intro q
 induction q using Nat.strongRecOn with
 | _ q ih =>
 intro n L8 hq;have Q5:=CN n;obtain⟨q,rfl⟩:∃k,q=k+1:=⟨q - 1,by omega⟩;obtain⟨jA,Sl,Lo⟩:=KR L8;have hfn:=((uK n).1 L8).1;have hE:∀k∈n.kids,∀q',q<=q'+1->q' < q+1->Ez q' k=some (mb (Rf k)):=λk hk q' h4 h5=>ih q' h5 k (Lo k hk) (by have:=FZ hk;omega)
 have hL:0 < n.kids.length->F3 q n.kids=some (mb (∀k∈n.kids,Rf k)):=by
   intro h;obtain⟨q,rfl⟩:∃k,q=k+1:=⟨q - 1,by have:=Gy n.kids;omega⟩
   rw[F3,Oy,Dy (v:=false) (P:=λ_ y=>Rf y) Sl (λi y hy=>by
     simp only[NL];rw[hE y (List.mem_of_getElem? hy) q (by omega) (by omega)];simp only[Option.bind_some,Bd,NC]),EW,GH]
 rw[Ez,PY];simp only[BB,B5,Ea,Bd,adm,anJ,amr,m4,agN,agQ,QL,akt,ac9,adE,ajm _ hfn,Option.bind_some];rw[P9];have pP:n.kids=[]->(∀k∈n.kids,Rf k):=λh k hk=>by rw[h] at hk;cases hk
 by_cases k11:n.kind=11;rw[Ac k11,aee k11,eqN,xF];simp only[EW,Ek,WU,Ov,zD,zT,GQ];have tt:AM (Tu n.unit) (some true) (some true)=some (mb True):=by rw[Ov,mbT]
 have hb:∀{A:Prop},AM A (some (mb True)) (some false)=some (mb A):=by intro A;rw[Ek];exact Kp (by simp)
 first
   | (simp only[tt,mbT,Ek,VH])
   | skip
 refine Kp ⟨?_,?_⟩;rintro⟨⟨b1,⟨b2,b3,b4⟩,⟨b5,b6⟩,b7⟩,h1,h2⟩;refine⟨?_,pP b7⟩;by_cases ht:n.unit=Ak;have:=h1 ht;exact⟨.inl ht,by omega,by omega,λ_=>by omega,b7,b1,trivial,trivial,b2,b3,b4,b5,b6⟩;obtain⟨h3,h4⟩:=h2 ht;refine⟨?_,by omega,by omega,λh=>absurd h ht,b7,b1,trivial,trivial,b2,b3,b4,b5,b6⟩;rcases h4 with h | h | h
 exact .inr (.inr (.inr h));exact .inr (.inl h);exact .inr (.inr (.inl h));rintro⟨⟨h0,h1,h2,h3,b7,b1,_,_,b2,b3,b4,b5,b6⟩,_⟩;refine⟨⟨b1,⟨b2,b3,b4⟩,⟨b5,b6⟩,b7⟩,λht=>⟨⟨h1,h3 ht⟩,h1,h2⟩,λht=>⟨⟨h1,h2⟩,?_⟩⟩;rcases h0 with h | h | h | h
 exact absurd h ht;exact .inr (.inl h);exact .inr (.inr h);exact .inl h;rw[Ab k11];by_cases k12:n.kind=12;rw[Ac k12,amq k12,eqN,xF];simp only[Ek,zD,zT];refine Kp ?_;constructor;rintro⟨⟨b1,b2,⟨b3,b4,b5⟩,⟨b6,b7⟩,b8⟩,h⟩;exact⟨⟨h,b8,trivial,b1,b2,b3,b4,b5,b6,b7⟩,pP b8⟩;rintro⟨⟨h,b8,_,b1,b2,b3,b4,b5,b6,b7⟩,_⟩;exact⟨⟨b1,b2,⟨b3,b4,b5⟩,⟨b6,b7⟩,b8⟩,h⟩;rw[Ab k12];by_cases k13:n.kind=13;rw[Ac k13,alq k13,eqN,xF];simp only[Ek,zD,zT];refine Kp ?_;constructor;rintro⟨⟨b1,b2,⟨b3,b4,b5⟩,⟨b6,b7⟩,b8⟩,h⟩;exact⟨⟨h,b8,b1,b2,trivial,b3,b4,b5,b6,b7⟩,pP b8⟩;rintro⟨⟨h,b8,b1,b2,_,b3,b4,b5,b6,b7⟩,_⟩;exact⟨⟨b1,b2,⟨b3,b4,b5⟩,⟨b6,b7⟩,b8⟩,h⟩;rw[Ab k13];by_cases k14:n.kind=14;rw[Ac k14,ale k14,eqN,xF,anK _ _ (by decide)];simp only[Option.bind_some,Ek,zD,zT];refine Kp ?_
 have hd:n.name∈[EH,SP,Ja,Mz]↔Y7 n.name:=by
   unfold Y7;simp only[List.mem_cons,List.not_mem_nil,or_false]
 rw[hd];constructor;rintro⟨⟨b1,b2,⟨b3,b4,b5⟩,⟨b6,b7⟩,b8⟩,h⟩;exact⟨⟨h,b8,trivial,b1,b2,b3,b4,b5,b6,b7⟩,pP b8⟩;rintro⟨⟨h,b8,_,b1,b2,b3,b4,b5,b6,b7⟩,_⟩;exact⟨⟨b1,b2,⟨b3,b4,b5⟩,⟨b6,b7⟩,b8⟩,h⟩;rw[Ab k14]
 have T5:∀{β:Type} (f:Bool->Option β),n.kids.length=1->((n.kids[0]?).bind λx=>(Ez q x).bind f)=f (mb (∀k∈n.kids,Rf k)):=by
   intro β f hl;have hE0:=λk hk=>hE k hk q (by omega) (by omega);generalize n.kids=ks at *
   match ks,hl with
   | [x],_ =>
   simp only[List.getElem?_cons_zero,Option.bind_some];rw[hE0 x (by simp)];simp only[Option.bind_some];congr 1;exact CA (by simp)
 by_cases k15:n.kind=15;rw[Ac k15,ag2 k15,eqN];by_cases hl:n.kids.length=1;rw[Ac (show((n.kids.length:Nat):Int)=1 by omega),T5 _ hl];simp only[Ek,zD,zT];refine Kp ?_;constructor;rintro⟨⟨b1,b2,b0,⟨b3,b4,b5⟩,⟨b6,b7⟩⟩,h⟩;exact⟨⟨hl,b1,b2,b0,b3,b4,b5,b6,b7⟩,h⟩;rintro⟨⟨_,b1,b2,b0,b3,b4,b5,b6,b7⟩,h⟩;exact⟨⟨b1,b2,b0,⟨b3,b4,b5⟩,⟨b6,b7⟩⟩,h⟩;rw[Ab (show ¬((n.kids.length:Nat):Int)=1 by omega),Ov];exact FE λa=>hl a.1.1;rw[Ab k15];by_cases k16:n.kind=16
 . rw[Ac k16,adI k16,eqN,anK _ _ (by decide)]
   have iZ:n.name∈[bR,Mp,JV,Lv,Um,J2,QV,T7,S8,OO,aW]↔cE n.name:=by
     unfold cE;simp only[List.mem_cons,List.not_mem_nil,or_false];constructor;rintro(h | h | h | h | h | h | h | h | h | h | h)<;>simp[h]
     rintro(h | h | h | h | h | h | h | h | h | h | h)<;>simp[h]
   by_cases hl:n.kids.length=2;rotate_left;rw[Ab (show ¬((n.kids.length:Nat):Int)=2 by omega),Ov];exact FE λa=>hl a.1.2.1;rw[Ac (show((n.kids.length:Nat):Int)=2 by omega),hL (by omega)];have wW:n.kids[1]?=some n.kids[1]:=List.getElem?_eq_getElem (by omega);have I5:n.kids[1]∈n.kids:=List.getElem_mem _;rw[wW];simp only[Option.bind_some,adE,Bd,Ek,VH,iZ,zD,zT];refine Kp ?_;have akV:=@lY n.kids[1];unfold zD zT at akV;generalize n.kids[1]=x at *;simp only[Option.some.injEq,forall_eq'];constructor;rintro⟨⟨b2,b0,⟨b3,b4,b5⟩,⟨b6,b7⟩⟩,h1,h2⟩;by_cases hs:n.name=OO;obtain⟨c1,c2,c3⟩:=h1 hs;exact⟨⟨⟨trivial,b2,b0,b3,b4,b5,b6,b7⟩,hl,c2,λ_=>(akV.2 c1).2⟩,c3⟩;obtain⟨c2,c3⟩:=h2 hs;exact⟨⟨⟨trivial,b2,b0,b3,b4,b5,b6,b7⟩,hl,c2,λh=>absurd h hs⟩,c3⟩;rintro⟨⟨⟨_,b2,b0,b3,b4,b5,b6,b7⟩,_,c2,c1⟩,c3⟩;exact⟨⟨b2,b0,⟨b3,b4,b5⟩,⟨b6,b7⟩⟩,λhs=>⟨akV.1 ⟨c3 x I5,c1 hs⟩,c2,c3⟩,λ_=>⟨c2,c3⟩⟩
 rw[Ab k16];by_cases k17:n.kind=17
 . rw[Ac k17,aeo k17,eqN]
   by_cases hl:2<=n.kids.length;rotate_left;rw[Ab (show ¬2<=((n.kids.length:Nat):Int) by omega),Ov];exact FE λa=>hl a.1.2.2;rw[Ac (show 2<=((n.kids.length:Nat):Int) by omega),hL (by omega)];simp only[Option.bind_some,Ek,VH,zD,zT];refine Kp ?_;constructor;rintro⟨⟨b2,b0,⟨b3,b4,b5⟩,⟨b6,b7⟩⟩,h1,h2⟩;by_cases hs:n.name=Ni;exact⟨⟨.inl hs,⟨trivial,b2,b0,b3,b4,b5,b6,b7⟩,hl⟩,h1 hs⟩;exact⟨⟨.inr (h2 hs).1,⟨trivial,b2,b0,b3,b4,b5,b6,b7⟩,hl⟩,(h2 hs).2⟩;rintro⟨⟨c1,⟨_,b2,b0,b3,b4,b5,b6,b7⟩,_⟩,c3⟩;exact⟨⟨b2,b0,⟨b3,b4,b5⟩,⟨b6,b7⟩⟩,λ_=>c3,λhs=>⟨c1.resolve_left hs,c3⟩⟩
 rw[Ab k17];by_cases k18:n.kind=18;rw[Ac k18,aeu k18,eqN];by_cases hl:n.kids.length=1;rw[Ac (show((n.kids.length:Nat):Int)=1 by omega),T5 _ hl];simp only[Bd,Ek,zD];refine Kp ?_;constructor;rintro⟨⟨b1,b2,b0,⟨b3,b4,b5⟩⟩,h,h2⟩;exact⟨⟨⟨b1,b2,b0,b3,b4,b5,trivial,trivial⟩,h2,hl⟩,h⟩;rintro⟨⟨⟨b1,b2,b0,b3,b4,b5,_,_⟩,h2,_⟩,h⟩;exact⟨⟨b1,b2,b0,⟨b3,b4,b5⟩⟩,h,h2⟩;rw[Ab (show ¬((n.kids.length:Nat):Int)=1 by omega),Ov];exact FE λa=>hl a.1.2.2;rw[Ab k18];exact FE λa=>by have:=X6 a.1;omega
def aeq{n:Nd}(L8:Iu n):La n=some (mb (Rf n)):=Ih (2*Fv n) λq hq=>ahi q n L8 hq
def amf{n:Nd}:GY n=some (mb (NK n)):=by
 rw[GY,agp];simp only[QL,Option.bind_some,BB,Bd];unfold NK;rw[eqN,xF];unfold zT acA;by_cases hf:0<=n.fr/\n.fr<=36524;rw[Dl (by omega)];simp only[Ek];refine Kp ⟨?_,?_⟩;rintro⟨k5,⟨b1,b2,⟨b3,b4⟩,b5⟩,⟨h1,h2⟩,h3,⟨h4,h5⟩,h6⟩;exact⟨k5,⟨h1,h2⟩,b5,h3,⟨by omega,h5⟩,h6,b1,b2,trivial,trivial,trivial,trivial,b3,b4⟩;rintro⟨k5,h1,b5,h3,⟨h4,h5⟩,h6,b1,b2,_,_,_,_,b3,b4⟩;exact⟨k5,⟨b1,b2,⟨b3,b4⟩,b5⟩,h1,h3,⟨by omega,h5⟩,h6⟩;rw[Ab hf];simp only[Ov];exact FE λa=>hf a.2.2.2.1
def abI(l:List Nd)(hl:l.length<=9223372036854775807):JN l=some (mb (0 < l.length/\∀k∈l,Rf k/\VB k)):=by
 rw[JN,Dy (v:=false) (P:=λ_ k=>Rf k/\VB k) hl (λi k _=>by
   simp only[Lf,adE,Option.bind_some,Bd,NC,lY]),CC,Bd]
 simp only[EW,Ek,GH];exact Kp ⟨λa=>⟨by omega,a.1⟩,λa=>⟨a.2,by omega⟩⟩
def xB(n:Nd):FU n z0↔n.name=eS/\n.unit=eS/\n.n=0/\zD n/\zT n:=by
 unfold zD zT;rw[eqN];simp only[and_assoc]
def UB:∀{l:List Nd} {i:Nat} {a b:Nat},(∀x∈l,Iu x)->a+l.length<=9223372036854775807->b+l.length<=9223372036854775807 ->
   Au (λi y x=>D8 i y x.1 x.2) (λx=>(x.1,x.2)) l i (((a:Nat):Int),((b:Nat):Int))=(some (AM (kinds l/\∀k∈l,CV k) (.inl (((a+BV 7 l:Nat):Int),((b+BV 8 l:Nat):Int))) (.inr false)):Option ((Int×Int)⊕Bool))
 | [],i,a,b,_,_,_=>by rw[Ac (show kinds []/\_ from ⟨λk hk=>(by cases hk),λk hk=>(by cases hk)⟩)];rfl
 | x::l,i,a,b,L8,ha,hb=>by
   simp only[List.length_cons] at ha hb;have hx:=L8 x (by simp);obtain⟨jA,Sl,Lo⟩:=KR hx;rw[Au,D8,m4];simp only[Option.bind_some,BB,Bd,abI _ Sl]
   have vP:(kinds (x::l)/\∀k∈x::l,CV k)↔((6<=x.kind/\x.kind<=8)/\CV x)/\kinds l/\∀k∈l,CV k:=by
     unfold kinds;simp only[List.mem_cons,forall_eq_or_imp];exact⟨λ⟨⟨p,q⟩,r,s⟩=>⟨⟨p,r⟩,q,s⟩,λ⟨⟨p,r⟩,q,s⟩=>⟨⟨p,q⟩,r,s⟩⟩
   have stop:¬((6<=x.kind/\x.kind<=8)/\CV x)->(some (Lp.rt false):Option (Lp (Int×Int) (Int×Int) Bool)).bind (LW (Au (λi y x=>D8 i y x.1 x.2) (λx=>(x.1,x.2)) l (i+1)))=some (AM (kinds (x::l)/\∀k∈x::l,CV k) (.inl (((a+BV 7 (x::l):Nat):Int),((b+BV 8 (x::l):Nat):Int))) (.inr false)):=by
     intro h;rw[Ab λq=>h (vP.1 q).1];rfl
   have go:∀{a' b':Nat},((6<=x.kind/\x.kind<=8)/\CV x)->a'<=a+1->b'<=b+1->a'+BV 7 l=a+BV 7 (x::l)->b'+BV 8 l=b+BV 8 (x::l)->(some (Lp.nx (((a':Nat):Int),((b':Nat):Int))):Option (Lp (Int×Int) (Int×Int) Bool)).bind (LW (Au (λi y x=>D8 i y x.1 x.2) (λx=>(x.1,x.2)) l (i+1)))=some (AM (kinds (x::l)/\∀k∈x::l,CV k) (.inl (((a+BV 7 (x::l):Nat):Int),((b+BV 8 (x::l):Nat):Int))) (.inr false)):=by
     intro a' b' h h1 h2 e1 e2;have ih:=UB (l:=l) (i:=i+1) (a:=a') (b:=b') (λy hy=>L8 y (by simp[hy])) (by omega) (by omega);rw[e1,e2] at ih;show Au _ _ l (i+1) _=_;rw[ih];by_cases hr:kinds l/\∀k∈l,CV k;rw[Ac hr,Ac (vP.2 ⟨h,hr⟩)];rw[Ab hr,Ab λq=>hr (vP.1 q).2]
   rw[<- xB];by_cases hb0:FU x z0;rotate_left
   . rw[Ab hb0];exact stop λq=>hb0 q.2.1
   rw[Ac hb0]
   have one:∀{A B:Option (Lp (Int×Int) (Int×Int) Bool)},x.kind≠7->(CV x->A.bind (LW (Au (λi y x=>D8 i y x.1 x.2) (λx=>(x.1,x.2)) l (i+1)))=some (AM (kinds (x::l)/\∀k∈x::l,CV k) (.inl (((a+BV 7 (x::l):Nat):Int),((b+BV 8 (x::l):Nat):Int))) (.inr false))) ->
       (AM (((x.kids.length:Nat):Int)=1) ((x.kids[0]?).bind λx2=>(La x2).bind λy3=>cond y3 A (some (.rt false))) (some (.rt false))).bind (LW (Au (λi y x=>D8 i y x.1 x.2) (λx=>(x.1,x.2)) l (i+1)))=some (AM (kinds (x::l)/\∀k∈x::l,CV k) (.inl (((a+BV 7 (x::l):Nat):Int),((b+BV 8 (x::l):Nat):Int))) (.inr false)):=by
     intro A B k7 hA;by_cases hl:x.kids.length=1;rotate_left
     . rw[Ab (by omega)];exact stop λq=>hl (q.2.2.2 k7).1
     rw[Ac (by omega)]
     obtain⟨k,hk⟩:∃k,x.kids=[k]:=by
       generalize x.kids=ks at hl
       match ks,hl with
       | [k],_=>exact⟨k,rfl⟩
     have h0:x.kids[0]?=some k:=by rw[hk];rfl
     rw[h0];simp only[Option.bind_some];rw[aeq (Lo k (by rw[hk];simp))];simp only[Option.bind_some,Bd]
     have hc:CV x↔Rf k:=by
       unfold CV;constructor;intro q;exact(q.2.2 k7).2 k (by rw[hk];simp);intro q;exact⟨hb0,λh=>absurd h k7,λ_=>⟨hl,λk' hk'=>by rw[hk,List.mem_singleton] at hk';rw[hk'];exact q⟩⟩
     by_cases he:Rf k;rw[Ac he];exact hA (hc.2 he)
     . rw[Ab he];exact stop λq=>he (hc.1 q.2)
   by_cases k6:x.kind=6;rw[Ac k6];refine one (B:=none) (by omega) λh=>go ⟨by omega,h⟩ (by omega) (by omega) (by simp[BV,k6]) (by simp[BV,k6]);rw[Ab k6];by_cases k8:x.kind=8;rw[Ac k8,Dl (by omega),show((b:Nat):Int)+1=((b+1:Nat):Int) by omega];refine one (B:=none) (by omega) λh=>go ⟨by omega,h⟩ (by omega) (by omega) (by simp[BV,k8]) (by simp[BV,k8];omega);rw[Ab k8];by_cases k7:x.kind=7
   . rw[Ac k7]
     have hc:CV x↔(0 < x.kids.length/\∀k∈x.kids,Rf k/\VB k):=by
       unfold CV;exact⟨λq=>q.2.1 k7,λq=>⟨hb0,λ_=>q,λh=>absurd k7 h⟩⟩
     rw[<- hc];by_cases h:CV x;rw[Ac h,Dl (by omega),show((a:Nat):Int)+1=((a+1:Nat):Int) by omega];exact go ⟨by omega,h⟩ (by omega) (by omega) (by simp[BV,k7];omega) (by simp[BV,k7])
     . rw[Ab h];exact stop λq=>h q.2
   . rw[Ab k7];exact stop λq=>by have:=q.1;omega
def acI(l:List Nd)(L8:∀x∈l,Iu x)(hl:l.length<=9223372036854775807):Ev l=some (mb ((kinds l/\∀k∈l,CV k)/\BV 7 l<=1/\BV 8 l=1)):=by
 have h:=UB (l:=l) (i:=0) (a:=0) (b:=0) L8 (by omega) (by omega);rw[Ev,EV hl,List.drop_zero];rw[show(((0:Nat):Int))=0 from rfl] at h;rw[h];by_cases hc:kinds l/\∀k∈l,CV k;rw[Ac hc];simp only[Option.bind_some,Eu,Ea,BB,Bd,EW,Ek];exact Kp ⟨λq=>⟨hc,by omega,by omega⟩,λq=>⟨by omega,by omega⟩⟩;rw[Ab hc];exact FE λq=>hc q.1
def kC{n:Nd}(L8:Iu n)(u:Prop):AM (n.kind=2) (AM (n.n=0/\zD n/\zT n/\n.kids=[]) (some (mb u)) (some false)) (AM (n.kind=3) (AM (zD n/\zT n/\n.kids=[]) (AM u (some (mb (1<=n.n/\n.n<=4))) (some false)) (some false)) (AM (n.kind=4) (AM (n.unit=eS/\zD n/\zT n) (AM (1<=n.n/\n.n<=1000000) (AM (1 < ((n.kids.length:Nat):Int)) ((n.kids[0]?).bind λx=>(GY x).bind λy=>cond y ((Ot n.kids 1 ((n.kids.length:Nat):Int)).bind λl=>(Ev l).bind λy=>some y) (some false)) (some false)) (some false)) (some false)) (some false)))=some (mb ((n.kind=2/\u/\n.n=0/\zD n/\zT n/\n.kids=[])\/(n.kind=3/\u/\(1<=n.n/\n.n<=4)/\zD n/\zT n/\n.kids=[])\/(n.kind=4/\(n.unit=eS/\zD n/\zT n)/\JX n.n/\∃h cs,n.kids=h::cs/\kinds cs/\BV 8 cs=1/\BV 7 cs<=1/\NK h/\∀k∈cs,CV k))):=by
 obtain⟨jA,Sl,Lo⟩:=KR L8;by_cases k2:n.kind=2;rw[Ac k2,Ek];refine Kp ⟨λ⟨a,b⟩=>.inl ⟨k2,b,a⟩,?_⟩;rintro(a | a | a);exact⟨a.2.2,a.2.1⟩;omega;omega;rw[Ab k2];by_cases k3:n.kind=3;rw[Ac k3,Ek,Ek];refine Kp ⟨λ⟨a,b,c⟩=>.inr (.inl ⟨k3,b,c,a⟩),?_⟩;rintro(a | a | a);omega;exact⟨a.2.2.2,a.2.1,a.2.2.1⟩;omega;rw[Ab k3];by_cases k4:n.kind=4;rotate_left;rw[Ab k4];refine FE ?_;rintro(a | a | a);omega;omega;omega;rw[Ac k4];by_cases hl:1 < n.kids.length;rotate_left;rw[Ab (show ¬(1:Int) < ((n.kids.length:Nat):Int) by omega),Ov,Ov];refine FE ?_;rintro(a | a | ⟨_,_,_,h,cs,e,_,e8,_⟩);omega;omega;rw[e] at hl;have:=Mf 8 cs;simp at hl;rw[hl] at e8;cases e8;rw[Ac (show(1:Int) < ((n.kids.length:Nat):Int) by omega)];generalize n.kids=ks at *
 match ks,hl with
 | x::l,_ =>
 have qF:Ot (x::l) 1 (((x::l).length:Nat):Int)=some l:=by
   unfold Ot;rw[if_pos (by simp only[List.length_cons];omega)];simp
 rw[qF];simp only[List.getElem?_cons_zero,Option.bind_some,amf,Bd];rw[acI l (λy hy=>Lo y (by simp[hy])) (by simp at Sl;omega)];simp only[Option.bind_some,Ek];refine Kp ⟨?_,?_⟩;rintro⟨a,b,c,⟨d,e⟩,f,g⟩;exact .inr (.inr ⟨k4,a,b,x,l,rfl,d,g,f,c,e⟩);rintro(a | a | ⟨_,a,b,h,cs,e,d,g,f,c,e'⟩);omega;omega;cases e;exact⟨a,b,c,⟨d,e'⟩,f,g⟩
def alW{n:Nd}(L8:Iu n):M4 n=some (mb (Je n)):=by
 have c1:=kC L8 True;simp only[Ac trivial,<- mbT] at c1;have c2:=kC L8 (n.unit=B2);rw[M4];simp only[ac9,akt,amW,aod,ahZ,QL,Option.bind_some,BB,B5,CC,Bd];rw[c1,c2]
 have ap8:∀{un:ByteArray} {k:Int},FU n ⟨0,n.name,un,k,0,0,0,⟨0,[]⟩,[],0⟩↔n.unit=un/\n.n=k/\zD n/\zT n:=by
   intro un k;unfold zD zT;rw[eqN];simp only[true_and,and_assoc]
 simp only[Ek,VH];refine Kp ?_;unfold Je agM;simp only[ap8,xF,true_and];constructor;rintro⟨hn,h1,h2⟩
 have uni:∀{k:Prop},(GQ n.unit->((n.kind=2/\n.n=0/\zD n/\zT n/\n.kids=[])\/(n.kind=3/\(1<=n.n/\n.n<=4)/\zD n/\zT n/\n.kids=[])\/(n.kind=4/\(n.unit=eS/\zD n/\zT n)/\JX n.n/\∃h cs,n.kids=h::cs/\kinds cs/\BV 8 cs=1/\BV 7 cs<=1/\NK h/\∀k∈cs,CV k)))->GQ n.unit->((n.kind=2/\HE n.name/\GQ n.unit/\n.kids=[]/\n.n=0/\zD n/\zT n)\/(n.kind=3/\HE n.name/\GQ n.unit/\1<=n.n/\n.n<=4/\n.kids=[]/\zD n/\zT n)\/(n.kind=4/\JX n.n/\HE n.name/\(n.unit=eS/\zD n/\zT n)/\∃h cs,n.kids=h::cs/\kinds cs/\BV 8 cs=1/\BV 7 cs<=1/\NK h/\∀k∈cs,CV k)):=by
   intro _ h hu;rcases h hu with ⟨a,b,c,d,e⟩ | ⟨a,b,c,d,e⟩ | ⟨a,b,c,d⟩
   exact .inl ⟨a,hn,hu,e,b,c,d⟩;exact .inr (.inl ⟨a,hn,hu,b.1,b.2,e,c,d⟩);exact .inr (.inr ⟨a,c,hn,b,d⟩)
 by_cases hc:Tu n.unit;exact uni (k:=True) (λ_=>h1 hc) (.inr (.inr (.inr hc)));obtain⟨h3,h4⟩:=h2 hc;by_cases ht:n.unit=Ak;exact uni (k:=True) (λ_=>h3 ht) (.inl ht);obtain⟨h5,h6⟩:=h4 ht;by_cases hm:n.unit=AF;exact uni (k:=True) (λ_=>h5 hm) (.inr (.inl hm));rcases h6 hm with ⟨a,b,r⟩ | ⟨a,b,r⟩ | r
 exact uni (k:=True) (λ_=>.inl ⟨a,r⟩) (.inr (.inr (.inl b)));exact uni (k:=True) (λ_=>.inr (.inl ⟨a,r⟩)) (.inr (.inr (.inl b)));exact .inr (.inr ⟨r.1,r.2.2.1,hn,r.2.1,r.2.2.2⟩)
 have back:(n.kind=2/\HE n.name/\GQ n.unit/\n.kids=[]/\n.n=0/\zD n/\zT n)\/(n.kind=3/\HE n.name/\GQ n.unit/\1<=n.n/\n.n<=4/\n.kids=[]/\zD n/\zT n)\/(n.kind=4/\JX n.n/\HE n.name/\(n.unit=eS/\zD n/\zT n)/\∃h cs,n.kids=h::cs/\kinds cs/\BV 8 cs=1/\BV 7 cs<=1/\NK h/\∀k∈cs,CV k)->HE n.name/\(n.kind≠4->GQ n.unit)/\((n.kind=2/\n.n=0/\zD n/\zT n/\n.kids=[])\/(n.kind=3/\(1<=n.n/\n.n<=4)/\zD n/\zT n/\n.kids=[])\/(n.kind=4/\(n.unit=eS/\zD n/\zT n)/\JX n.n/\∃h cs,n.kids=h::cs/\kinds cs/\BV 8 cs=1/\BV 7 cs<=1/\NK h/\∀k∈cs,CV k)):=by
   rintro(⟨a,b,c,d,e,f,g⟩ | ⟨a,b,c,d,d',e,f,g⟩ | ⟨a,b,c,d,e⟩);exact⟨b,λ_=>c,.inl ⟨a,e,f,g,d⟩⟩;exact⟨b,λ_=>c,.inr (.inl ⟨a,⟨d,d'⟩,f,g,e⟩)⟩;exact⟨c,λh=>absurd a h,.inr (.inr ⟨a,d,b,e⟩)⟩
 intro h;obtain⟨hn,hu,r⟩:=back h;refine⟨hn,λ_=>r,λnc=>⟨λ_=>r,λnt=>⟨λ_=>r,λnn=>?_⟩⟩⟩;rcases r with ⟨a,r⟩ | ⟨a,r⟩ | r
 have hm:n.unit=B2:=by
   rcases hu (by omega) with h | h | h | h
   exact absurd h nt;exact absurd h nn;exact h;exact absurd h nc
 exact .inl ⟨a,hm,r⟩
 have hm:n.unit=B2:=by
   rcases hu (by omega) with h | h | h | h
   exact absurd h nt;exact absurd h nn;exact h;exact absurd h nc
 exact .inr (.inl ⟨a,hm,r⟩);exact .inr (.inr r)
def nU{n:Nd}(L8:Iu n):JU n=some (mb (cO n)):=by
 obtain⟨jA,Sl,Lo⟩:=KR L8;rw[JU,anc n L8,aeq L8];simp only[Option.bind_some,Bd,BB];unfold cO;by_cases hf:Fv n<=2000/\Ui n<=40;rotate_left;rw[Ab hf];exact FE λq=>hf q.2;rw[Ac hf];by_cases k1:n.kind=1
 rw[Ac k1,Dy (v:=false) (P:=λ_ k=>Je k) Sl (λi k hk=>by
   simp only[NJ];rw[alW (Lo k (List.mem_of_getElem? hk))];simp only[Option.bind_some,Bd,NC]),m4]
 simp only[Option.bind_some,Ek,GH];refine Kp ⟨λq=>⟨.inl ⟨k1,(xB n).2 q.2,q.1⟩,hf⟩,?_⟩;rintro⟨a | a,_⟩;exact⟨a.2.2,(xB n).1 a.2.1⟩;exact absurd k1 a.1;rw[Ab k1];refine Kp ⟨λq=>⟨.inr ⟨k1,q⟩,hf⟩,?_⟩;rintro⟨a | a,_⟩;exact absurd a.1 k1;exact a.2
end Mo
end Go.Proofs.YtnijkdknnmgoeaaGreat

namespace Go.Proofs.YtnijkdknnmgoeaaGreat
open AI Go
namespace Mo
set_option maxRecDepth 100000
set_option maxHeartbeats 4000000
def alr{n:Nd}(h:Iu n):NW n=some (mb (((Fv n:Nat):Int)<=2100/\((Ui n:Nat):Int)<=100)):=by
 have hf:NF n 100=some (mb (((Ui n:Nat):Int)<=100)):=Ih (Fv n) λq hq=>pD q n 100 h hq (by omega) (by omega);rw[NW,ajT n 2100 h (by omega),hf];simp only[Option.bind_some,Bd,Ek]
mutual
def psS:Nd->Prop
 | ⟨_,_,_,_,_,_,_,BX,kids,_⟩=>BX.ps.length<=1000/\adr kids
def adr:List Nd->Prop
 | []=>True
 | k::ks=>psS k/\adr ks
end
def afO{l:List Nd}:adr l↔∀k∈l,psS k:=by
 induction l with
 | nil=>simp[adr]
 | cons k l ih=>simp[adr,ih]
def z8(e:Nd):psS e↔e.BX.ps.length<=1000/\∀k∈e.kids,psS k:=by cases e;rw[psS,afO]
def amA{p:Prop}{a b:Ex}(ha:XH a)(hb:XH b):XH (AM p a b):=by
 by_cases h:p;rw[Ac h];exact ha;rw[Ab h];exact hb
def anD(t:Tr){n:Nd}(hn:n.BX.ps.length<=1000){ks:List Ex}(hk:∀k∈ks,XH k):XH (trO t n ks):=by
 have h0:∀(o m:Int) (u:ByteArray) (d:Int),XH ⟨o,m,u,⟨d,[]⟩,ks⟩:=λo m u d=>by
   rw[XH,U2];exact⟨by simp,hk⟩
 have h1:∀(o m:Int) (u:ByteArray) (d:Int),XH ⟨o,m,u,⟨d,[]⟩,[]⟩:=λo m u d=>by
   rw[XH,U2];exact⟨by simp,λk h=>by cases h⟩
 have h2:∀(o m:Int) (u:ByteArray) (d o2 m2:Int) (u2:ByteArray) (d2:Int),XH ⟨o,m,u,⟨d,[]⟩,[⟨o2,m2,u2,⟨d2,[]⟩,ks⟩]⟩:=λo m u d o2 m2 u2 d2=>by
   rw[XH,U2];refine⟨by simp,λk h=>?_⟩;rw[List.mem_singleton] at h;subst h;exact h0 _ _ _ _
 have h3:∀(o m:Int) (u:ByteArray) (d:Int),XH ⟨o,m,u,⟨d,n.BX.ps⟩,ks⟩:=λo m u d=>by
   rw[XH,U2];exact⟨hn,hk⟩
 unfold trO qK trL
 repeat' apply amA
 all_goals first | exact h0 _ _ _ _ | exact h1 _ _ _ _ | exact h2 _ _ _ _ _ _ _ _ | exact h3 _ _ _ _
def acX(t:Tr):∀(m:Nat) (e:Nd),Fv e<=m->psS e->XH (SY t e):=by
 intro m
 induction m with
 | zero=>intro e h;have:=CN e;omega
 | succ m ih =>
   intro e hm he;obtain⟨h1,h2⟩:=(z8 e).1 he;rw[vS];refine anD t h1 (λk hk=>?_);obtain⟨x,hx,rfl⟩:=List.mem_map.1 hk;exact ih x (by have:=P7 hx;omega) (h2 x hx)
def afa:∀(m:Nat) (e:Nd),Fv e<=m->Rf e->psS e:=by
 intro m
 induction m with
 | zero=>intro e h;have:=CN e;omega
 | succ m ih =>
   intro e hm he;obtain⟨hq,Lo⟩:=(P9 e).1 he;rw[z8];refine⟨?_,λk hk=>ih k (by have:=P7 hk;omega) (Lo k hk)⟩;unfold Ww at hq;have hb:∀{f:Nd},FU e f->f.BX.ps.length<=1000->e.BX.ps.length<=1000:=λh h2=>by rw[h.2.2.2.2.2.2.2];exact h2
   rcases hq with h | h | h | h | h | h | h | h
   exact hb h.2.2.2.2.2.2 (by simp);exact hb h.2.2.2 (by simp);exact hb h.2.2.2 (by simp);exact hb h.2.2.2 (by simp);exact hb h.2.2 (by simp);exact hb h.2.1 (by simp);exact hb h.2.2.1 (by simp);have:=h.2.2.1;unfold nD at this;omega
end Mo
end Go.Proofs.YtnijkdknnmgoeaaGreat
namespace Go.Proofs.YtnijkdknnmgoeaaGreat
open AI Go
namespace Mo
set_option maxRecDepth 100000
set_option maxHeartbeats 4000000
def afk(s:List Dg×List Int×List Ex×Ex):Prop:=(∀x∈s.2.2.1,R3 x<=1000000/\XH x)/\R3 s.2.2.2<=1000000/\XH s.2.2.2
def uS(t:Tr):∀(l:List Nd) (s:List Dg×List Int×List Ex×Ex),(∀e∈l,psS (e.kids.headD e)/\Fv (e.kids.headD e)<=100000)->afk s->afk (l.foldl (LU t) s)/\(l.foldl (LU t) s).2.2.1.length<=s.2.2.1.length+l.length/\(l.foldl (LU t) s).2.1.length<=s.2.1.length+JL l
 | [],s,_,h=>⟨h,Nat.le_refl _,Nat.le_refl _⟩
 | e::l,s,hl,h=>by
   obtain⟨p1,p2⟩:=hl e (by simp);have hx:=m7 t (e.kids.headD e);have ho:=acX t _ (e.kids.headD e) (Nat.le_refl _) p1;have Q5:=CN e;have hlen:=Gy e.kids;obtain⟨h1,h2,h3⟩:=h
   have key:afk (LU t s e)/\(LU t s e).2.2.1.length<=s.2.2.1.length+1/\(LU t s e).2.1.length<=s.2.1.length+Fv e:=by
     unfold LU;by_cases k7:e.kind=7;rw[Ac k7];exact⟨⟨h1,h2,h3⟩,by simp only;omega,by simp only[List.length_append,List.length_map];omega⟩;rw[Ab k7];by_cases k6:e.kind=6;rw[Ac k6];refine⟨⟨λx Pp=>?_,h2,h3⟩,by simp,by simp only;omega⟩;simp only[List.mem_append,List.mem_singleton] at Pp;rcases Pp with Pp | rfl
     exact h1 x Pp;exact⟨by omega,ho⟩;rw[Ab k6];exact⟨⟨h1,by simp only;omega,ho⟩,by simp only;omega,by simp only;omega⟩
   obtain⟨k1,k2,k3⟩:=key;obtain⟨q1,q2,q3⟩:=uS t l (LU t s e) (λb hb=>hl b (by simp[hb])) k1;rw[List.foldl_cons];exact⟨q1,by rw[List.length_cons];omega,by rw[JL];omega⟩
def am7(t:Tr){it:Nd}(hz:Fv it<=100000)(h:∀e∈it.kids.tail,psS (e.kids.headD e)/\Fv (e.kids.headD e)<=100000):okA (trA t it):=by
 obtain⟨⟨h1,h2,h3⟩,h4,h5⟩:=uS t it.kids.tail ([],[],[],⟨0,0,ByteArray.empty,⟨0,[]⟩,[]⟩) h ⟨λx hx=>(by cases hx),(by simp[R3,Ms]),(by simp[XH,abG])⟩;have Q5:=CN it;have hl:=Gy it.kids
 have ht:it.kids.tail.length<=it.kids.length/\JL it.kids.tail<=JL it.kids:=by
   cases it.kids with
   | nil=>exact⟨Nat.le_refl _,Nat.le_refl _⟩
   | cons a l=>exact⟨by simp,by rw[JL,List.tail_cons];omega⟩
 simp only[List.length_nil,Nat.zero_add] at h4 h5;refine⟨?_,?_,h1,h2,h3⟩;show(Kb t it.kids.tail).2.2.1.length<=_;unfold Kb;omega;show(Kb t it.kids.tail).2.1.length<=_;unfold Kb;omega
def aa3(t:Tr):∀(l:List Nd) (s:List Dg×List Ar),(∀it∈l,it.kind=4->okA (trA t it))->(∀a∈s.2,okA a)->(∀a∈(l.foldl (b1 t) s).2,okA a)/\(l.foldl (b1 t) s).2.length<=s.2.length+l.length
 | [],s,_,h=>⟨h,Nat.le_refl _⟩
 | k::l,s,hl,h=>by
   have key:(∀a∈(b1 t s k).2,okA a)/\(b1 t s k).2.length<=s.2.length+1:=by
     unfold b1;by_cases k4:k.kind=4;rw[Ac k4];refine⟨λa ha=>?_,by simp⟩;simp only[List.mem_append,List.mem_singleton] at ha;rcases ha with ha | rfl
     exact h a ha;exact hl k (by simp) k4;rw[Ab k4];exact⟨h,by omega⟩
   obtain⟨q1,q2⟩:=aa3 t l (b1 t s k) (λit hi=>hl it (by simp[hi])) key.1;rw[List.foldl_cons];exact⟨q1,by rw[List.length_cons];omega⟩
def aen:∀(l:List Nd) (s:List Dc×Mm ByteArray Int×List Dc×Mm ByteArray Int),(l.foldl YW s).1.length<=s.1.length+l.length/\(l.foldl YW s).2.2.1.length<=s.2.2.1.length+l.length
 | [],s=>⟨Nat.le_refl _,Nat.le_refl _⟩
 | k::l,s=>by
   have key:(YW s k).1.length<=s.1.length+1/\(YW s k).2.2.1.length<=s.2.2.1.length+1:=by
     unfold YW;by_cases k2:k.kind=2;rw[Ac k2];exact⟨by simp,by simp only;omega⟩;rw[Ab k2];by_cases k3:k.kind=3;rw[Ac k3];exact⟨by simp only;omega,by simp⟩;rw[Ab k3];omega
   have:=aen l (YW s k);rw[List.foldl_cons,List.length_cons];omega
def acr{n:Nd}(h:(Gb n).2=[]):(Gb n).1.facts.length<=2000/\(Gb n).1.lines.length<=2000/\(Gb n).1.Ap.length<=2000/\∀a∈(Gb n).1.Ap,okA a:=by
 obtain⟨nk,nv,nc,nb,ne⟩:=agd h;rw[ne];obtain⟨_,hit,Q5,_⟩:=XO nv nk;have he:=CN n;have hl:=Gy n.kids
 obtain⟨a1,a2⟩:=aa3 (Hi n.kids) n.kids ([],[]) (λit hi k4=>by
   have hiz:=FZ hi;refine am7 _ (by omega) (λe he=>?_);obtain⟨_,_,_,h,cs,QD,_,_,_,_,Iv⟩:=(it4 k4).1 (hit it hi);have asl:=CN it;rw[QD,JL] at asl;rw[QD,List.tail_cons] at he;have hez:=FZ he;obtain⟨_,c7,cn⟩:=Iv e he;have hee:=CN e
   have hex:0 < e.kids.length/\∀k∈e.kids,Rf k:=by
     by_cases k7:e.kind=7;exact⟨(c7 k7).1,λk hk=>((c7 k7).2 k hk).1⟩;exact⟨by have:=(cn k7).1;omega,(cn k7).2⟩
   cases hek:e.kids with
   | nil=>rw[hek] at hex;simp at hex
   | cons k l =>
     have hkm:k∈e.kids:=by rw[hek];simp
     have:=FZ hkm;rw[List.headD_cons];exact⟨afa _ k (Nat.le_refl _) (hex.2 k hkm),by omega⟩) (λa ha=>by cases ha)
 obtain⟨b1,b2⟩:=aen n.kids ([],Mm.nil,[],Mm.nil);simp only[List.length_nil,Nat.zero_add] at a2 b1 b2;refine⟨?_,?_,?_,a1⟩;show(HX n.kids).1.length<=_;unfold HX;omega;show(HX n.kids).2.2.1.length<=_;unfold HX;omega;show(VC (Hi n.kids) n.kids).2.length<=_;unfold VC;omega
def xP{n:Nd}(h:(Gb n).2=[]):Ef (Gb n).1 (Gb n).1=some true/\(Gb n).1.Ap.length<=2000:=by
 obtain⟨h1,h2,h3,h4⟩:=acr h;exact⟨dC (by omega) (by omega) (by omega) h4,h3⟩
end Mo
end Go.Proofs.YtnijkdknnmgoeaaGreat
namespace Go.Proofs.YtnijkdknnmgoeaaGreat
open AI Go
namespace Mo
set_option maxRecDepth 100000
set_option maxHeartbeats 4000000
def aql{β:Type}{p:Prop}[Decidable p]{x y:β}:AM p x y=if p then x else y:=by
 by_cases h:p;rw[Ac h,if_pos h];rw[Ab h,if_neg h]
def LM{β:Type}{x y:β}:AM True x y=x:=Ac trivial
def JQ{β:Type}{x y:β}:AM False x y=y:=Ab λh=>h
def zC(u:ByteArray):FN u=some (mb (u≠Ak/\u≠AF/\u≠B2)):=by
 rw[FN];simp only[B5,Bd,jO,XT]
def cS{u:ByteArray}(h:u≠eS):icP u↔(u≠Ak/\u≠AF/\u≠B2):=⟨λk=>k.2,λk=>⟨h,k⟩⟩
def W0(k:Int)(x:ByteArray):∀(l:List Nd) (i:Nat),(∃nd,Au (λi y x'=>IH k x i y) (λ_=>()) l i ()=(some (.inr (nd,true)):Option (Unit⊕(Nd×Bool)))/\fU k l x=some nd.unit)\/(Au (λi y x'=>IH k x i y) (λ_=>()) l i ()=(some (.inl ()):Option (Unit⊕(Nd×Bool)))/\fU k l x=none)
 | [],_=>.inr ⟨rfl,rfl⟩
 | a::l,i=>by
   rw[Au,IH,fU,HM,N9];by_cases h:a.kind=k;rw[Ac h];by_cases h2:a.name=x;rw[Ac h2,Ac ⟨h,h2⟩];exact .inl ⟨a,rfl,rfl⟩;rw[Ab h2,Ab λe=>h2 e.2];exact W0 k x l (i+1);rw[Ab h,Ab λe=>h e.1];exact W0 k x l (i+1)
def cV{src:Nd}(hl:src.kids.length<=9223372036854775807)(k:Int)(x:ByteArray):∃nd,G9 src k x=some (nd,mb (fU k src.kids x≠none))/\nd.unit=(fU k src.kids x).getD eS:=by
 rw[G9,EV hl,List.drop_zero];rcases W0 k x src.kids 0 with ⟨nd,h1,h2⟩ | ⟨h1,h2⟩
 rw[h1,h2];exact⟨nd,by rw[BE.2 (by simp)];rfl,rfl⟩;rw[h1,h2];exact⟨_,by rw[aP (by simp)];rfl,rfl⟩
def ZD(z:Int):∀(l:List Nd) (i:Nat),(∃nd,Au (λi y x'=>Hq z i y) (λ_=>()) l i ()=(some (.inr (nd,true)):Option (Unit⊕(Nd×Bool)))/\fA l z=some nd.name)\/(Au (λi y x'=>Hq z i y) (λ_=>()) l i ()=(some (.inl ()):Option (Unit⊕(Nd×Bool)))/\fA l z=none)
 | [],_=>.inr ⟨rfl,rfl⟩
 | a::l,i=>by
   rw[Au,Hq,fA,HM,HM];by_cases h:a.kind=4;rw[Ac h];by_cases h2:a.n=z;rw[Ac h2,Ac ⟨h,h2⟩];exact .inl ⟨a,rfl,rfl⟩;rw[Ab h2,Ab λe=>h2 e.2];exact ZD z l (i+1);rw[Ab h,Ab λe=>h e.1];exact ZD z l (i+1)
def wD{src:Nd}(hl:src.kids.length<=9223372036854775807)(z:Int):∃nd,GJ src z=some (nd,mb (fA src.kids z≠none))/\nd.name=(fA src.kids z).getD eS:=by
 rw[GJ,EV hl,List.drop_zero];rcases ZD z src.kids 0 with ⟨nd,h1,h2⟩ | ⟨h1,h2⟩
 rw[h1,h2];exact⟨nd,by rw[BE.2 (by simp)];rfl,rfl⟩;rw[h1,h2];exact⟨_,by rw[aP (by simp)];rfl,rfl⟩
def aha(p:Prop):Ci (mb p)=some (AM p Ak eS):=by
 rw[Ci,Bd];by_cases h:p;rw[Ac h,Ac h];rw[Ab h,Ab h]
def aaL(u:ByteArray):EY u=some (AM (u=Ak) eS u):=by
 rw[EY,N9];by_cases h:u=Ak;rw[Ac h,Ac h];rw[Ab h,Ab h]
def iE{a:ByteArray}{m:List ByteArray}(hm:m[0]?=some a):∀(l:List ByteArray) (i:Nat),Au (λi y x=>Kq m i y) (λ_=>()) l i ()=some (AM (∀u∈l,u=a) (.inl ()) (.inr eS))
 | [],_=>by rw[Au,Ac (λu hu=>by cases hu)]
 | b::l,i=>by
   rw[Au,Kq,hm];simp only[Option.bind_some,N9];by_cases h:b=a;rw[Ac h];refine(iE hm l (i+1)).trans ?_;by_cases h2:∀u∈l,u=a;rw[Ac h2,Ac λu hu=>by rcases List.mem_cons.1 hu with rfl | hu;exact h;exact h2 u hu]
   rw[Ab h2,Ab λk=>h2 λu hu=>k u (List.mem_cons_of_mem _ hu)];rw[Ab h,Ab λk=>h (k b (by simp))];rfl
def zL{a:ByteArray}{l:List ByteArray}(hl:(a::l).length<=9223372036854775807):G5 (a::l)=some (AM (∀u∈a::l,u=a) a eS):=by
 rw[G5,EV hl,iE (a:=a) rfl];by_cases h:∀u∈l,u=a;rw[show(a::l).drop 1=l from rfl,Ac h,Ac λu hu=>by rcases List.mem_cons.1 hu with rfl | hu;rfl;exact h u hu]
 rfl;rw[show(a::l).drop 1=l from rfl,Ab h,Ab λk=>h λu hu=>k u (List.mem_cons_of_mem _ hu)];rfl
def af7(a b:ByteArray):(∀u∈[a,b],u=a)=(b=a):=by simp
def aff{op a b:ByteArray}(iZ:cE op)(hb:b≠eS):KN op a b=some (OR op [a,b]):=by
 have hT:Ci true=some Ak:=rfl;have hF:Ci false=some eS:=rfl;have hE:G5 [a,b]=some (AM (b=a) a eS):=by rw[zL (by simp),af7]
 unfold OR lS;rw[show [a,b].headD eS=a from rfl,show [a,b].getLastD eS=b from rfl,af7,KN];simp only[B5,af2,Bd,aha,aaL,hE,hF,hT,zC,Option.bind_some,propext (cS hb)];rcases iZ with rfl | rfl | rfl | rfl | rfl | rfl | rfl | rfl | rfl | rfl | rfl<;>simp (decide:=true) only [LM,JQ]<;>simp only[aql]<;>grind
def ao2(a:ByteArray):OR Mp [a]=AM (a=Ak) Ak eS:=by
 unfold OR lS;rw[show [a].headD eS=a from rfl,show(∀u∈[a],u=a)=True from by simp];simp (decide:=true) only [LM,JQ]
def alH{a:ByteArray}{l:List ByteArray}:OR QV (a::l)=AM (∀u∈a::l,u=a) (AM (a=Ak) eS a) eS:=by
 unfold OR lS;rw[show(a::l).headD eS=a from rfl];simp (decide:=true) only [LM,JQ]
def m6{u:ByteArray}(h:GQ u):u≠eS:=by
 rintro rfl;rcases h with h | h | h | h
 exact absurd h (by decide);exact absurd h (by decide);exact absurd h (by decide);exact absurd h.1 (by decide)
def amP{src n:Nd}{ds:List Dg}{us:List ByteArray}(hl:src.kids.length<=9223372036854775807)(hq:Ww n)(hu:us.length=n.kids.length)(h2:n.kids.length<=2000)(KS:∀u∈us,u≠eS):∃e,Gh ⟨src,ds⟩ n us=some (ME (fact src) (art src) n us,e)/\(ME (fact src) (art src) n us=eS->e=aD n):=by
 unfold ME aD;rw[Gh];simp only[HM];have aj9:∀{x y:ByteArray×Int} {p:Prop},p->AM p (some x) (some y)=some x:=λh=>Ac h;rcases X6 hq with k | k | k | k | k | k | k | k
 rw[Ac k,Ac k];exact⟨0,rfl,λe=>absurd e (m6 ((aee k).1 hq).1)⟩;obtain⟨nd,h1,h3⟩:=cV hl 2 n.name;simp (decide:=true) only [k,LM,JQ,h1,Option.bind_some];exact⟨91,by rw[h3];rfl,λ_=>rfl⟩;obtain⟨nd,h1,h3⟩:=wD hl n.n;obtain⟨md,h4,h5⟩:=cV hl 3 nd.name;simp (decide:=true) only [k,LM,JQ,h1,h4,Option.bind_some];exact⟨91,by rw[h5,h3];rfl,λ_=>rfl⟩;simp (decide:=true) only [k,LM,JQ];exact⟨0,rfl,λe=>absurd e (by decide)⟩;obtain⟨a1,_⟩:=(ag2 k).1 hq
 match us,hu.trans a1 with
 | [a],_ =>
   simp (decide:=true) only [k,LM,JQ,List.getElem?_cons_zero,Option.bind_some,B5,Bd,ao2];by_cases h:a=Ak;rw[Ac h,Ac h];exact⟨11,rfl,λ_=>rfl⟩;rw[Ab h,Ab h];exact⟨11,rfl,λ_=>rfl⟩
 obtain⟨_,a2,a3,_⟩:=(adI k).1 hq
 match us,hu.trans a2 with
 | [a,b],_ =>
   have hb:b≠eS:=KS b (by simp);simp (decide:=true) only [k,LM,JQ,List.getElem?_cons_zero,List.getElem?_cons_succ,Option.bind_some,aff a3 hb];exact⟨11,rfl,λ_=>rfl⟩
 obtain⟨_,_,a3⟩:=(aeo k).1 hq
 match us,hu with
 | [],h=>simp only[List.length_nil] at h;omega
 | a::l,h =>
   simp (decide:=true) only [k,LM,JQ,zL (a:=a) (l:=l) (by omega),aaL,Option.bind_some,alH];refine⟨11,?_,λ_=>rfl⟩;by_cases h1:∀u∈a::l,u=a;rw[Ac h1,Ac h1];rw[Ab h1,Ab h1,Ab (by decide)]
 obtain⟨_,_,a3⟩:=(aeu k).1 hq
 match us,hu.trans a3 with
 | [a],_ =>
   have ha:a≠eS:=KS a (by simp);simp (decide:=true) only [k,LM,JQ,List.getElem?_cons_zero,Option.bind_some,zC,Bd,List.headD_cons,propext (cS ha)];by_cases h:a≠Ak/\a≠AF/\a≠B2;rw[Ac h,Ac h];exact⟨0,rfl,λe=>absurd e ha⟩;rw[Ab h,Ab h];exact⟨11,rfl,λ_=>rfl⟩
def O0(src:Nd){ds:List Dg}(h:ds.length<=20)(e at_:Int):Bv ⟨src,ds⟩ e at_=some ((),cap ds [⟨e,at_⟩]):=by
 rw[Bv,<- W2 h,Wh];dsimp only;unfold Vj;by_cases h2:ds.length < 20;rw[Ac (by omega),if_pos h2,D9 (by omega)];rw[Ab (by omega),if_neg h2]
def aeB{src:Nd}{g:Cq->Nd->Option (ByteArray×List Dg)}{c:Cq}(hc:c.src=src):∀{l:List Nd} {us:List ByteArray} {w:Prop} {ds:List Dg} {i:Nat},(∀k∈l,∀ds:List Dg,ds.length<=20->g ⟨src,ds⟩ k=some ((Od src k).1,cap ds (Od src k).2))->us.length+l.length<=100000000->ds.length<=20 ->
   Au (λi y x=>El g c i y x.1 x.2.1 x.2.2) (λx=>(x.1,x.2.1,x.2.2)) l i (us,mb w,ds)=some (.inl (us++l.map (λk=>(Od src k).1),mb (w/\∀k∈l,(Od src k).1≠eS),cap ds (l.flatMap λk=>(Od src k).2)))
 | [],us,w,ds,i,_,_,h=>by rw[Au,List.flatMap_nil,F9 h];simp
 | a::l,us,w,ds,i,hk,hl,h=>by
   simp only[List.length_cons] at hl;rw[Au,El,hc,hk a (by simp) ds h];simp only[Option.bind_some];rw[D9 (by omega)];simp only[B5,Bd];have ih:=λw'=>aeB (g:=g) (c:=c) hc (l:=l) (us:=us++[(Od src a).1]) (w:=w') (ds:=cap ds (Od src a).2) (i:=i+1) (λk h1=>hk k (by simp[h1])) (by simp;omega) (E6 _ _)
   have fin:∀w':Prop,(w'↔w/\(Od src a).1≠eS)->(Au (λi y x=>El g c i y x.1 x.2.1 x.2.2) (λx=>(x.1,x.2.1,x.2.2)) l (i+1) (us++[(Od src a).1],mb w',cap ds (Od src a).2))=(some (.inl (us++(a::l).map (λk=>(Od src k).1),mb (w/\∀k∈a::l,(Od src k).1≠eS),cap ds ((a::l).flatMap λk=>(Od src k).2))):Option ((List ByteArray×Bool×List Dg)⊕(ByteArray×List Dg))):=by
     intro w' hw;rw[ih w',F7];congr 2;refine Prod.ext (by simp) (Prod.ext (CA ?_) (by simp));simp only[List.mem_cons,forall_eq_or_imp,hw,and_assoc]
   by_cases hw:w;rw[Ac hw];by_cases hu:(Od src a).1=eS;rw[Ac hu,mbF];exact fin False ⟨λq=>q.elim,λq=>q.2 hu⟩;rw[Ab hu,mbT];exact fin True ⟨λ_=>⟨hw,hu⟩,λ_=>trivial⟩;rw[Ab hw,mbF];exact fin False ⟨λq=>q.elim,λq=>hw q.1⟩
def aia{src:Nd}(hl:src.kids.length<=9223372036854775807):∀(q:Nat) (n:Nd) (ds:List Dg),Rf n->Fv n<=q->Fv n<=2000->ds.length<=20->CU q ⟨src,ds⟩ n=some ((Od src n).1,cap ds (Od src n).2):=by
 intro q
 induction q with
 | zero=>intro n ds _ h;have:=CN n;omega
 | succ q ih =>
 intro n ds he hq h2 hd;obtain⟨hQ,Lo⟩:=(P9 n).1 he;have Q5:=CN n;have Sl:=Gy n.kids;have hf:=aeB (src:=src) (g:=CU q) (c:=⟨src,ds⟩) rfl (l:=n.kids) (us:=[]) (w:=True) (ds:=ds) (i:=0) (λk hk ds' kT=>ih k ds' (Lo k hk) (by have:=FZ hk;omega) (by have:=FZ hk;omega) kT) (by simp;omega) hd;simp only[List.nil_append,true_and,<- mbT] at hf
 have hS:Od src n=abF (fact src) (art src) n (n.kids.map (λk=>(Od src k).1),n.kids.flatMap λk=>(Od src k).2):=by
   unfold Od;rw[yX,dZ]
 rw[CU,Ic,EV (by omega),List.drop_zero,hf,hS];show cond (mb (∀k∈n.kids,(Od src k).1≠eS)) _ _=_;rw[Bd];have HP:(∀u∈n.kids.map (λk=>(Od src k).1),u≠eS)↔∀k∈n.kids,(Od src k).1≠eS:=by simp
 unfold abF;by_cases hw:∀k∈n.kids,(Od src k).1≠eS;rw[Ac hw,Ac (p:=∀u∈n.kids.map (λk=>(Od src k).1),u≠eS) (HP.2 hw)];obtain⟨e,h3,h4⟩:=amP (src:=src) (ds:=cap ds (n.kids.flatMap λk=>(Od src k).2)) hl hQ (us:=n.kids.map λk=>(Od src k).1) (by simp) (by omega) (HP.2 hw);rw[h3];simp only[Option.bind_some,B5,Bd];by_cases hU:ME (fact src) (art src) n (n.kids.map λk=>(Od src k).1)=eS;rw[Ac hU,Ac hU,h4 hU,O0 src (E6 _ _),F7];rfl;rw[Ab hU,Ab hU];rw[Ab hw,Ab (p:=∀u∈n.kids.map (λk=>(Od src k).1),u≠eS) λk=>hw (HP.1 k)]
def aiy{src n:Nd}{ds:List Dg}(hl:src.kids.length<=9223372036854775807)(he:Rf n)(h:Fv n<=2000)(hd:ds.length<=20):KQ ⟨src,ds⟩ n=some ((Od src n).1,cap ds (Od src n).2) :=
 Ih (Fv n) λq hq=>aia hl q n ds he hq h hd
def acn{n:Nd}(L8:Iu n):Kw n=some (mb (n.kind=1/\cO n)):=by
 rw[Kw,nU L8];simp only[Option.bind_some,BB,Bd,Ek]
end Mo
end Go.Proofs.YtnijkdknnmgoeaaGreat
namespace Go.Proofs.YtnijkdknnmgoeaaGreat
open AI Go
namespace Mo
set_option maxRecDepth 100000
set_option maxHeartbeats 4000000
def zX{src a:Nd}{i:Nat}{ds:List Dg}(hl:src.kids.length<=9223372036854775807)(ha:src.kids[i]?=some a)(hk:a.kind=2\/a.kind=3)(hu:a.unit≠eS)(hd:ds.length<=20):C0 ⟨src,ds⟩ ((i:Nat):Int) ((BV a.kind (src.kids.take i):Nat):Int)=some ((),cap ds (N6 (src.kids.take i) a)):=by
 have hi:=(List.getElem?_eq_some_iff.1 ha).1;rw[C0];have hg:Cn src.kids ((i:Nat):Int)=some a:=by unfold Cn;rw[if_pos (by omega)];exact ha
 rw[hg];simp only[Option.bind_some];rw[MA];refine vK (λz=>∃k:Nat,z=((k:Nat):Int)/\k<=i/\∀(j:Nat) b,j < k->src.kids[j]?=some b->¬(b.kind=a.kind/\b.name=a.name)) (λz=>i - z.toNat) ⟨0,rfl,Nat.zero_le _,λj b h=>by omega⟩ ?_;rintro z ⟨k,rfl,hki,iY⟩;rw[Ey];simp only[Wh,HM,N9];by_cases IJ:((k:Nat):Int) < ((i:Nat):Int)
 . rw[Ac IJ]
   have hk':k < src.kids.length:=by omega
   have hb:src.kids[k]?=some src.kids[k]:=List.getElem?_eq_getElem hk';have hg:Cn src.kids ((k:Nat):Int)=some src.kids[k]:=by unfold Cn;rw[if_pos (by omega)];exact hb
   rw[hg];generalize src.kids[k]=b at hb hg;simp only[Option.bind_some]
   have next:∀{Qx:Unit->Prop} {Qr:(Unit×List Dg)->Prop},¬(b.kind=a.kind/\b.name=a.name)->Sp (some (Lp.nx (CE ((k:Nat):Int) 1)):Option (Lp Int Unit (Unit×List Dg))) (RQ (λx'=>(∃k:Nat,x'=((k:Nat):Int)/\k<=i/\∀(j:Nat) b,j < k->src.kids[j]?=some b->¬(b.kind=a.kind/\b.name=a.name))/\i - x'.toNat < i - (((k:Nat):Int)).toNat) Qx Qr):=by
     intro Qx Qr hn;rw[Dl (by omega)];refine⟨_,rfl,⟨k+1,by omega,by omega,λj b' hj Vw=>?_⟩,by omega⟩;rcases Nat.lt_or_ge j k with h | h
     exact iY j b' h Vw;obtain rfl:j=k:=by omega
     rw[hb] at Vw;cases Vw;exact hn
   by_cases h1:b.kind=a.kind
   . rw[Ac h1]
     by_cases h2:b.name=a.name;rw[Ac h2,O0 src hd];refine⟨_,rfl,_,rfl,?_⟩;unfold N6
     have hm:b∈src.kids.take i:=by
       refine List.mem_of_getElem? (i:=k) ?_;rw[List.getElem?_take,if_pos (by omega)];exact hb
     rw[Ac hk,Ac ⟨b,hm,h1,h2⟩]
     . rw[Ab h2];exact next λk=>h2 k.2
   . rw[Ab h1];exact next λk=>h1 k.1
 rw[Ab IJ];obtain rfl:k=i:=by omega
 refine⟨_,rfl,?_⟩
 have hex:¬∃b∈src.kids.take k,b.kind=a.kind/\b.name=a.name:=by
   rintro⟨b,hb,h⟩;obtain⟨j,hj⟩:=List.getElem?_of_mem hb;rw[List.getElem?_take] at hj;split at hj;rename_i hjk;exact iY j b hjk hj h;cases hj
 show Sp (cond (Iy 32 ((BV a.kind (src.kids.take k):Nat):Int)) _ _) _;unfold N6;rw[oJ,Ac hk,Ab hex];by_cases h3:32<=BV a.kind (src.kids.take k);rw[Ac (by omega),Ac h3,O0 src hd];exact⟨_,rfl,rfl⟩;rw[Ab (by omega),Ab h3];rw[O0 src hd,zC];simp only[Option.bind_some,Bd];have h0:cap ds []=ds:=F9 hd;by_cases k3:a.kind=3;rw[Ac k3];by_cases h4:a.unit=Ak;rw[Ac h4,Ac ⟨k3,.inl h4⟩];exact⟨_,rfl,rfl⟩;rw[Ab h4];by_cases h5:a.n=4;rw[Ac h5,Ab (λq=>q.2.elim h4 λr=>r.1 h5),h0];exact⟨_,rfl,rfl⟩;rw[Ab h5];by_cases h6:a.unit≠Ak/\a.unit≠AF/\a.unit≠B2;rw[Ac h6,Ab (λq=>q.2.elim h4 λr=>r.2 ((cS hu).2 h6)),h0];exact⟨_,rfl,rfl⟩;rw[Ab h6,Ac ⟨k3,.inr ⟨h5,λq=>h6 ((cS hu).1 q)⟩⟩];exact⟨_,rfl,rfl⟩;rw[Ab k3,Ab (λq=>k3 q.1),h0];exact⟨_,rfl,rfl⟩
def agr(k:Int)(b:List Nd)(a:Nd):BV k (b++[a])=BV k b+BV k [a]:=UN k b [a]
def uU{src:Nd}(hl:src.kids.length < 9223372036854775807)(hi:∀a∈src.kids,Je a):∀{l b:List Nd} {ds:List Dg},src.kids=b++l->ds.length<=20 ->
   Au (λi y x=>II src i y x.1 x.2.1 x.2.2) (λx=>x.2.2) l b.length (((BV 2 b:Nat):Int),((BV 3 b:Nat):Int),ds)=(some (.inl (cap ds (JZ b l))):Option (List Dg⊕List Dg))
 | [],b,ds,_,hd=>by rw[Au,JZ,F9 hd]
 | a::l,b,ds,he,hd=>by
   have hlen:src.kids.length=b.length+(l.length+1):=by rw[he];simp
   have VP:src.kids[b.length]?=some a:=by rw[he];simp
   have htk:src.kids.take b.length=b:=by rw[he];simp
   have hc2:=Mf 2 b;have hc3:=Mf 3 b;have ih:=λds (h:ds.length<=20)=>uU hl hi (l:=l) (b:=b++[a]) (ds:=ds) (by rw[he];simp) h;rw[Au,II,JZ];simp only[HM];simp only[List.length_append,List.length_singleton,agr] at ih;rcases oU (hi a (by rw[he];simp)) with k | k | k
   obtain⟨_,q2,_⟩:=(it2 k).1 (hi a (by rw[he];simp));have:=zX (ds:=ds) (by omega) VP (.inl k) (m6 q2) hd;rw[k,htk] at this;rw[Ac k,this];simp only[Option.bind_some];rw[Dl (by omega)];show Au _ _ l (b.length+1) _=_;have h2:BV 2 [a]=1:=by simp[BV,k]
   have h3:BV 3 [a]=0:=by simp[BV,k]
   rw[h2,h3] at ih;have:=ih (cap ds (N6 b a)) (E6 _ _);rw[F7] at this;exact this;obtain⟨_,q2,_⟩:=(it3 k).1 (hi a (by rw[he];simp));have:=zX (ds:=ds) (by omega) VP (.inr k) (m6 q2) hd;rw[k,htk] at this;rw[Ab (by omega),Ac k,this];simp only[Option.bind_some];rw[Dl (by omega)];show Au _ _ l (b.length+1) _=_;have h2:BV 2 [a]=0:=by simp[BV,k]
   have h3:BV 3 [a]=1:=by simp[BV,k]
   rw[h2,h3] at ih;have:=ih (cap ds (N6 b a)) (E6 _ _);rw[F7] at this;exact this;rw[Ab (by omega),Ab (by omega)];show Au _ _ l (b.length+1) _=_;have h2:BV 2 [a]=0:=by simp[BV,k]
   have h3:BV 3 [a]=0:=by simp[BV,k]
   rw[h2,h3] at ih;have hz:N6 b a=[]:=by unfold N6;rw[Ab (by omega)]
   rw[hz,List.nil_append];exact ih ds hd
def agh{src a:Nd}{c:Nat}{ds:List Dg}(hl:src.kids.length<=9223372036854775807)(hd:ds.length<=20):Gd ⟨src,ds⟩ a ((c:Nat):Int)=some ((),cap ds (Lr src c a)):=by
 obtain⟨nd,h1,h2⟩:=cV hl 3 a.name;obtain⟨md,h3,h4⟩:=wD hl a.n;rw[Gd,h1,h3];simp only[Option.bind_some,O0 src hd,oJ,Bd,N9,h4];unfold Lr;by_cases h5:60<=c;rw[Ac (by omega),Ac h5];rw[Ab (by omega),Ab h5];by_cases h6:fU 3 src.kids a.name=none;rw[Ab (λk=>k h6),Ac h6];rw[Ac h6,Ab h6];by_cases h7:(fA src.kids a.n).getD eS=a.name;rw[Ac h7,Ab (λk=>k h7),F9 hd];rw[Ab h7,Ac h7]
def aaJ{src k:Nd}{w:ByteArray}{ds:List Dg}(hl:src.kids.length<=9223372036854775807)(he:Rf k)(hs:Fv k<=2000)(hd:ds.length<=20):EL ⟨src,ds⟩ k w=some ((),cap ds (iJ src w k)):=by
 rw[EL,aiy hl he hs hd];simp only[Option.bind_some,N9,O0 src (E6 ds (Od src k).2),F7];unfold iJ;have h0:cap ds ((Od src k).2++[])=cap ds (Od src k).2:=by rw[List.append_nil]
 by_cases h1:(Od src k).1=eS;rw[Ac h1,Ab (λq=>q.1 h1),h0];rw[Ab h1];by_cases h2:w=eS;rw[Ac h2,Ab (λq=>q.2.1 h2),h0];rw[Ab h2];by_cases h3:(Od src k).1=w;rw[Ac h3,Ab (λq=>q.2.2 h3),h0];rw[Ab h3,Ac ⟨h1,h2,h3⟩]
def Vr{src a:Nd}{c:Cq}(hc:c.src=src)(hl:src.kids.length<=9223372036854775807):∀{l:List Nd} {i:Nat} {ds:List Dg},ds.length<=20->Au (λi y x=>EQ c a i y x) (λx=>x) l i ds=(some (.inl (cap ds (l.flatMap (Kk src a)))):Option (List Dg⊕(Unit×List Dg)))
 | [],i,ds,h=>by rw[Au,List.flatMap_nil,F9 h]
 | k::l,i,ds,h=>by
   obtain⟨md,h3,h4⟩:=wD hl k.n;rw[Au,EQ,hc,h3,O0 src h,O0 src h];simp only[Option.bind_some,HM,Bd];rw[List.flatMap_cons,<- F7];unfold Kk;by_cases h5:k.n=a.n;rw[Ac h5,Ac h5];exact Vr hc hl (E6 _ _);rw[Ab h5,Ab h5];by_cases h6:fA src.kids k.n=none;rw[Ab (λq=>q h6),Ac h6];exact Vr hc hl (E6 _ _);rw[Ac h6,Ab h6,F9 h];exact Vr hc hl h
def abn{src a x:Nd}(hl:src.kids.length<=9223372036854775807)(hc:CV x)(hs:Fv x<=2000)(h68:x.kind=6\/x.kind=7\/x.kind=8){ds:List Dg}(hd:ds.length<=20):E9 ⟨src,ds⟩ a x=some ((),cap ds (K2 src a x)):=by
 have Q5:=CN x;have Sl:=Gy x.kids;rw[E9];simp only[HM];unfold K2;rcases h68 with k | k | k
 obtain⟨h1,h2⟩:=hc.2.2 (by omega)
 match hx:x.kids,h1 with
 | [y],_ =>
   rw[hx] at h2 Q5;have hy:=FZ (l:=[y]) (k:=y) (by simp);rw[Ac k,Ab (by omega),Ac k];simp only[List.getElem?_cons_zero,Option.bind_some,aaJ hl (h2 y (by simp)) (by omega) hd,List.flatMap_cons,List.flatMap_nil,List.append_nil]
 rw[Ab (by omega),Ab (by omega),Ac k,Ac k,EV (by omega),List.drop_zero,Vr rfl hl hd];rfl;obtain⟨h1,h2⟩:=hc.2.2 (by omega);obtain⟨nd,h3,h4⟩:=cV hl 3 a.name
 match hx:x.kids,h1 with
 | [y],_ =>
   rw[hx] at h2 Q5;have hy:=FZ (l:=[y]) (k:=y) (by simp);rw[Ab (by omega),Ac k,Ab (by omega),Ab (by omega),h3];simp only[List.getElem?_cons_zero,Option.bind_some,aaJ hl (h2 y (by simp)) (by omega) hd,h4,List.flatMap_cons,List.flatMap_nil,List.append_nil];rfl
def gB{src a:Nd}(hl:src.kids.length<=9223372036854775807):∀{l:List Nd} {i:Nat} {ds:List Dg},(∀x∈l,CV x/\Fv x<=2000/\(x.kind=6\/x.kind=7\/x.kind=8))->ds.length<=20->Au (λi y x=>KG src a i y x) (λx=>x) l i ds=(some (.inl (cap ds (l.flatMap (K2 src a)))):Option (List Dg⊕List Dg))
 | [],i,ds,_,h=>by rw[Au,List.flatMap_nil,F9 h]
 | x::l,i,ds,hx,h=>by
   obtain⟨h1,h2,h3⟩:=hx x (by simp);rw[Au,KG,abn hl h1 h2 h3 h,List.flatMap_cons,<- F7];exact gB hl (λy hy=>hx y (by simp[hy])) (E6 _ _)
def pZ{src:Nd}(hl:src.kids.length<=9223372036854775807):∀{l:List Nd} {i c:Nat} {ds:List Dg},(∀a∈l,Je a/\Fv a<=2000)->c+l.length < 9223372036854775807->ds.length<=20 ->
   Au (λi y x=>HF src i y x.1 x.2) (λx=>x.2) l i (((c:Nat):Int),ds)=(some (.inl (cap ds (TP src c l))):Option (List Dg⊕List Dg))
 | [],i,c,ds,_,_,h=>by rw[Au,TP,F9 h]
 | a::l,i,c,ds,ha,hc,h=>by
   simp only[List.length_cons] at hc;obtain⟨h1,h2⟩:=ha a (by simp);rw[Au,HF,TP,HM];unfold acC;by_cases k:a.kind=4;rw[Ac k,Ac k,agh hl h];simp only[Option.bind_some];obtain⟨_,_,_,h0,cs,e,q1,_,_,q4,q5⟩:=(it4 k).1 h1;have Q5:=CN a;have Sl:=Gy a.kids;rw[EV (by omega)]
   have Iv:=gB hl (a:=a) (l:=a.kids.drop 1) (i:=1) (ds:=cap ds (Lr src c a)) (λx hx=>by
     have hm:x∈cs:=by rw[e] at hx;exact hx
     have hm2:x∈a.kids:=by rw[e];exact List.mem_cons_of_mem _ hm
     have:=FZ hm2;have hk:=q1 x hm;exact⟨q5 x hm,by omega,by omega⟩) (E6 _ _)
   rw[Iv,F7];have h4:BV 4 [a]=1:=by simp[BV,k]
   show Au _ _ l (i+1) (CE ((c:Nat):Int) 1,_)=_;rw[Dl (by omega),h4];have:=pZ hl (l:=l) (i:=i+1) (c:=c+1) (ds:=cap ds (Lr src c a++a.kids.tail.flatMap (K2 src a))) (λy hy=>ha y (by simp[hy])) (by omega) (E6 _ _);rw[F7] at this;rw[List.drop_one];exact this;rw[Ab k,Ab k,List.nil_append];have h4:BV 4 [a]=0:=by simp[BV,k]
   rw[h4];exact pZ hl (l:=l) (i:=i+1) (c:=c) (ds:=ds) (λy hy=>ha y (by simp[hy])) (by omega) h
def ah4{src:Nd}(hs:Iu src)(v1:src.kind=1/\cO src):LZ src=some (JY src):=by
 rw[LZ,acn hs];simp only[Option.bind_some,Bd];unfold JY;rw[Ac v1,Ac v1];obtain⟨_,hit,ar3,_⟩:=afV v1.2 v1.1;have Q5:=CN src;have Sl:=Gy src.kids;have h1:=uU (src:=src) (by omega) hit (l:=src.kids) (b:=[]) (ds:=[]) rfl (by simp);rw[EV (by omega),List.drop_zero];have h1':Au (λi y x=>II src i y x.1 x.2.1 x.2.2) (λx=>x.2.2) src.kids 0 (0,0,[])=(some (.inl (cap [] (JZ [] src.kids))):Option (List Dg⊕List Dg)):=h1;rw[h1'];show(ED src.kids.length (Au (λi y x=>HF src i y x.1 x.2) (λx=>x.2) (src.kids.drop 0) 0 (0,cap [] (JZ [] src.kids)))).bind _=_;have h2:=pZ (src:=src) (by omega) (l:=src.kids) (i:=0) (c:=0) (ds:=cap [] (JZ [] src.kids)) (λa ha=>⟨hit a ha,by have:=FZ ha;omega⟩) (by omega) (E6 _ _);rw[EV (by omega),List.drop_zero];have h2':Au (λi y x=>HF src i y x.1 x.2) (λx=>x.2) src.kids 0 (0,cap [] (JZ [] src.kids))=(some (.inl (cap (cap [] (JZ [] src.kids)) (TP src 0 src.kids))):Option (List Dg⊕List Dg)):=h2;rw[h2',F7];rfl
def ad0(a b:List Dg)(ha:a.length<=9223372036854775807):Gx a b=some (mb (a=b)):=by
 rw[Gx,BB,Bd];by_cases h:((a.length:Nat):Int)=((b.length:Nat):Int)
 rw[Ac h,Dy (v:=false) (P:=λi y=>b[i]?=some y) ha (λi y hy=>by
   have hi:i < a.length:=(List.getElem?_eq_some_iff.1 hy).1;have hb:b[i]?=some b[i]:=List.getElem?_eq_getElem (by omega);simp only[Jt];rw[hb];simp only[Option.bind_some]
   have hs:Y4 y b[i]=mb (b[i]?=some y):=by
     rw[Bool.eq_iff_iff,BE,hb];unfold Y4;simp only[Bool.and_eq_true,RU,beq_iff_eq,Option.some.injEq];generalize b[i]=z;cases y;cases z;simp only[Dg.mk.injEq];grind
   rw[hs,Bd,NC,hb]),EW]
 refine Kp ⟨λh2=>?_,λh2 i y hy=>by rw[<- h2];exact hy⟩;apply List.ext_getElem?;intro i;by_cases hi:i < a.length;rw[List.getElem?_eq_getElem hi,h2 i _ (List.getElem?_eq_getElem hi)];rw[List.getElem?_eq_none (by omega),List.getElem?_eq_none (by omega)];rw[Ab h];exact FE λh2=>h (by rw[h2])
end Mo
end Go.Proofs.YtnijkdknnmgoeaaGreat
namespace Go.Proofs.YtnijkdknnmgoeaaGreat
open AI Go
namespace Mo
set_option maxRecDepth 100000
set_option maxHeartbeats 4000000
def Z0{α γ δ ρ:Type}{body:Nat->α->γ->Option (Lp γ δ ρ)}{done:γ->δ}:∀(l:List α) (i:Nat) (x:γ),Au body done l (i+1) x=Au (λi=>body (i+1)) done l i x
 | [],_,_=>rfl
 | a::l,i,x=>by
   rw[Au,Au];cases body (i+1) a x with
   | none=>rfl
   | some r=>cases r with
     | nx y=>exact Z0 l (i+1) y
     | ex d=>rfl
     | rt v=>rfl
def af9{α β γ δ ρ:Type}{Q:β->Prop}{a:α}{l:List α}{body:Nat->α->γ->Option (Lp γ δ ρ)}{done:γ->δ}{k:δ->Option β}{kr:ρ->Option β}{x0:γ}(I:Nat->γ->Prop)(hl:(a::l).length<=9223372036854775807)(h0:I 0 x0)
   (hb:∀i y x,l[i]?=some y->I i x->Sp (body (i+1) y x) (RQ (I (i+1)) (λd=>Sp (k d) Q) (λv=>Sp (kr v) Q)))
   (hz:∀x,I l.length x->Sp (k (done x)) Q):Sp ((ED (a::l).length (Au body done ((a::l).drop 1) 1 x0)).bind (Eu k kr)) Q:=by
 have h:=CW (body:=λi=>body (i+1)) I (by rw[List.length_cons] at hl;omega) h0 hb hz;rw[EV (by rw[List.length_cons] at hl;omega),List.drop_zero,<- Z0] at h;rw[EV hl,List.drop_one,List.tail_cons];exact h
mutual
def xW:∀e:Ex,V.JS e=R3 e/\V.dp e=jM e
 | ⟨op,n,unit,BX,kids⟩=>by
   have h:=aaA kids;rw[V.JS,V.dp,R3,jM];omega
def aaA:∀l:List Ex,V.Qu l=Ms l/\V.dpS l=Tx l
 | []=>by rw[V.Qu,V.dpS,Ms,Tx];exact⟨rfl,rfl⟩
 | k::l=>by
   have h:=xW k;have h2:=aaA l;rw[V.Qu,V.dpS,Ms,Tx,h.1,h.2,h2.1,h2.2];exact⟨rfl,rfl⟩
end
def amL:∀(m:Nat) (e:Ex),R3 e<=m->R3 e<=1000000->XH e->V.W6 e:=by
 intro m
 induction m with
 | zero=>intro e h;have:=Wq e;omega
 | succ m ih =>
   intro e hm hz ho;have h1:=Wq e;have h2:=dP e.kids;obtain⟨o1,o2⟩:=(aaY e).1 ho
   exact(V.PX e).2 ⟨by omega,by omega,λk hk=>by
     have:=eH hk;exact ih k (by omega) (by omega) (o2 k hk)⟩
def abb{e:Ex}(hz:R3 e<=1000000)(ho:XH e):Hx e=some (mb (¬(400 < R3 e\/40 < jM e))):=by
 rw[V.rW e (amL _ e (Nat.le_refl _) hz ho)];refine Kp ?_;unfold V.smE;rw[(xW e).1,(xW e).2];omega
def zV(s:List Dg×List Int×List Ex×Ex):List Int×List Int×List Ex×Int×Int×ByteArray×Int×List Pc×List Ex:=(s.1.map Dg.Ct,s.2.1,s.2.2.1,s.2.2.2.op,s.2.2.2.n,s.2.2.2.unit,s.2.2.2.BX.den,s.2.2.2.BX.ps,s.2.2.2.kids)
def ait{src it h:Nd}{cs:List Nd}{c:Co}{z:Int}(hcf:c.facts=(Hi src.kids).Ae.facts)(Iv:c.lines=(Hi src.kids).Ae.lines)(hit:∀k∈src.kids,Je k)(WZ:Wf src)(T5:src.kids.Pairwise eF)(hlen:src.kids.length<=100000)(hz:Fv it<=100000)(hk:it.kids=h::cs)
   (iV:∀e∈cs,e.kind≠7->∃k,e.kids[0]?=some k/\Rf k/\(Od src k).2=[]) (hd:EA c.lines it.name=some z) (hg:(Hi src.kids).lines.get it.name=some z) :
   JE c src it=some (trA (Hi src.kids) it,(Kb (Hi src.kids) it.kids.tail).1.map Dg.Ct):=by
 have Q5:=CN it;rw[hk,JL] at Q5;have wG:=Gy cs;rw[JE,hk,List.getElem?_cons_zero,Option.bind_some,hd,Option.bind_some,MA];unfold trA;rw[hg,hk];simp only[List.tail_cons,List.headD_cons,Option.getD_some];refine af9 (λi x=>∃s,s=(cs.take i).foldl (LU (Hi src.kids)) ([],[],[],⟨0,0,ByteArray.empty,⟨0,[]⟩,[]⟩)/\x=zV s/\s.1.length<=i/\s.2.2.1.length<=i/\s.2.1.length<=JL (cs.take i)) (by rw[List.length_cons];omega) ⟨_,rfl,rfl,by simp,by simp,by simp⟩ (λi y x hy hI=>?_) (λx hI=>?_);obtain⟨⟨d,u,w,am⟩,hs0,rfl,n1,n2,n3⟩:=hI;simp only at n1 n2 n3;have I5:=List.mem_of_getElem? hy;have hi:=(List.getElem?_eq_some_iff.1 hy).1;have hym:=FZ I5;have HK:=Zb hy;have htk:=ZK cs (i+1);have hyz:=CN y;have hyl:=Gy y.kids;have M3:=HQ (LU (Hi src.kids)) ([],[],[],⟨0,0,ByteArray.empty,⟨0,[]⟩,[]⟩) hy;rw[<- hs0] at M3;simp only[zV];rw[Lh,HM];by_cases k7:y.kind=7;rw[Ac k7];refine CW (λj x=>x=u++(y.kids.take j).map (·.n)) (by omega) (by simp) (λj z2 x hz2 hJ=>?_) (λx hJ=>?_);have:=(List.getElem?_eq_some_iff.1 hz2).1;rw[KW,D9 (by rw[hJ,List.length_append,List.length_map,List.length_take];omega),AB,C9,hJ,List.take_add_one,hz2];simp;rw[hJ,List.take_length,AB,C9];have hc:LU (Hi src.kids) (d,u,w,am) y=(d,u++y.kids.map (·.n),w,am):=by rw[LU,Ac k7]
 rw[hc] at M3;exact⟨_,M3.symm,rfl,by simp only;omega,by simp only;omega,by simp only[List.length_append,List.length_map];omega⟩;rw[Ab k7];obtain⟨k,cB,hex,hxs⟩:=iV y I5 k7;have hkm:=List.mem_of_getElem? cB;have hkz:=FZ hkm;have hx:=m7 (Hi src.kids) k;have L8:=acX (Hi src.kids) _ k (Nat.le_refl _) (afa _ k (Nat.le_refl _) hex)
 have hhd:y.kids.headD y=k:=by
   cases hyk:y.kids with
   | nil=>rw[hyk] at cB;cases cB
   | cons b m=>rw[hyk,List.getElem?_cons_zero] at cB;cases cB;rfl
 rw[cB,Option.bind_some,ase hcf Iv hit WZ T5 hlen (by omega) hex hxs,Option.bind_some,abb (by omega) L8,Option.bind_some];have hc:LU (Hi src.kids) (d,u,w,am) y=(AM (y.kind=6) (AM (400 < R3 (SY (Hi src.kids) k)\/40 < jM (SY (Hi src.kids) k)) (d++[⟨2,y.Ct⟩]) d,u,w++[SY (Hi src.kids) k],am) (AM (400 < R3 (SY (Hi src.kids) k)\/40 < jM (SY (Hi src.kids) k)) (d++[⟨2,y.Ct⟩]) d,u,w,SY (Hi src.kids) k)):=by rw[LU,Ab k7,hhd]
 rw[hc] at M3;generalize SY (Hi src.kids) k=e at *
 have fin:∀(Qx:List Int×List Int×List Ex×Int×Int×ByteArray×Int×List Pc×List Ex->Prop) (Qr:Ar×List Int->Prop) (d2:List Dg) (d3:List Int),d2.map Dg.Ct=d3->d2.length<=i+1->(AM (400 < R3 e\/40 < jM e) (d++[⟨2,y.Ct⟩]) d)=d2->Sp (AM (y.kind=6) (JB (w.length+1) (some (Lp.nx (d3,u,w++[e],am.op,am.n,am.unit,am.BX.den,am.BX.ps,am.kids)))) (some (.nx (d3,u,w,e.op,e.n,e.unit,e.BX.den,e.BX.ps,e.kids)))) (RQ (λx=>∃s,s=(cs.take (i+1)).foldl (LU (Hi src.kids)) ([],[],[],⟨0,0,ByteArray.empty,⟨0,[]⟩,[]⟩)/\x=zV s/\s.1.length<=i+1/\s.2.2.1.length<=i+1/\s.2.1.length<=JL (cs.take (i+1))) Qx Qr):=by
   intro Qx Qr d2 d3 hd3 dM hde;subst hd3;rw[hde] at M3;by_cases k6:y.kind=6;rw[Ac k6] at M3 ⊢;rw[D9 (by omega),AB,C9];exact⟨_,M3.symm,rfl,by simp only;omega,by simp only[List.length_append,List.length_singleton];omega,by simp only;omega⟩;rw[Ab k6] at M3 ⊢;rw[AB,C9];exact⟨_,M3.symm,rfl,by simp only;omega,by simp only;omega,by simp only;omega⟩
 rw[Bd];simp only[HM y.kind];by_cases k4:400 < R3 e\/40 < jM e;rw[Ab (λq=>q k4),D9 (by rw[List.length_map];omega)];exact fin _ _ (d++[⟨2,y.Ct⟩]) _ (by rw[List.map_append];rfl) (by simp only[List.length_append,List.length_singleton];omega) (Ac k4);rw[Ac k4];exact fin _ _ d _ rfl (by omega) (Ab k4);obtain⟨s,hs0,rfl,n1,n2,n3⟩:=hI;rw[List.take_length] at hs0;simp only[zV];rw[AB,show Kb (Hi src.kids) cs=s from hs0.symm];obtain⟨d,u,w,op,n,unit,⟨den,ps⟩,kids⟩:=s;rfl
def aoJ{ds:List Dg}(h:ds.length<=20)(z:Int):NG ds z=some (cap ds [⟨2,z⟩]):=by
 rw[NG,oJ];unfold cap;by_cases h1:20<=ds.length;rw[Ac (by omega),List.take_append_of_le_length h1,List.take_of_length_le h];rw[Ab (by omega),D9 (by omega),List.take_of_length_le (by rw[List.length_append,List.length_singleton];omega)]
def kE(t:Tr):∀(l:List Nd) (s:List Dg×List Int×List Ex×Ex),(∀g∈s.1,g.err=2)->∀g∈(l.foldl (LU t) s).1,g.err=2
 | [],_,h=>h
 | e::l,s,h=>by
   rw[List.foldl_cons];refine kE t l _ ?_
   have key:∀p:Prop,∀g∈AM p (s.1++[(⟨2,e.Ct⟩:Dg)]) s.1,g.err=2:=λp g hg=>by
     by_cases hp:p;rw[Ac hp,List.mem_append,List.mem_singleton] at hg;rcases hg with hg | rfl
     exact h g hg;rfl;rw[Ab hp] at hg;exact h g hg
   unfold LU;by_cases k7:e.kind=7;rw[Ac k7];exact h;rw[Ab k7];by_cases k6:e.kind=6;rw[Ac k6];exact key _;rw[Ab k6];exact key _
def aaC:∀{l:List Dg},(∀g∈l,g.err=2)->(l.map Dg.Ct).map (λz=>(⟨2,z⟩:Dg))=l
 | [],_=>rfl
 | ⟨a,b⟩::l,h=>by
   have h1:a=2:=h ⟨a,b⟩ (by simp);rw[List.map_cons,List.map_cons,aaC λg hg=>h g (by simp[hg]),h1]
def rI{k:Int}{l:List Nd}{i:Nat}{y:Nd}(h:l[i]?=some y):Z6 k (l.take (i+1))=Z6 k (l.take i)++Z6 k [y]:=by
 unfold Z6;rw[List.take_add_one,h,List.filter_append];rfl
def ald{src:Nd}(hv:cO src)(hk:src.kind=1)(hc:JY src=[]){it:Nd}(hi:it∈src.kids)(k4:it.kind=4):∃h cs,it.kids=h::cs/\∀e∈cs,e.kind≠7->∃k,e.kids[0]?=some k/\Rf k/\(Od src k).2=[]:=by
 have hr:=Zi hv hk hc;unfold WM at hr;have hr:=(List.append_eq_nil_iff.1 hr).2;obtain⟨_,hit,_,_⟩:=XO hv hk;obtain⟨c,h⟩:=Y9 hr it hi;unfold acC at h;rw[Ac k4,List.append_eq_nil_iff] at h;have hcx:=List.flatMap_eq_nil_iff.1 h.2;obtain⟨_,_,_,h,cs,QD,_,_,_,_,Iv⟩:=(it4 k4).1 (hit it hi);refine⟨h,cs,QD,λe he k7=>?_⟩;have hce:=hcx e (by rw[QD];exact he);obtain⟨hl,hex⟩:=(Iv e he).2.2 k7;cases hek:e.kids with
 | nil=>rw[hek] at hl;cases hl
 | cons k l =>
   have hkm:k∈e.kids:=by rw[hek];simp
   unfold K2 at hce;rw[Ab k7] at hce;have hw:=List.flatMap_eq_nil_iff.1 hce k hkm;unfold iJ at hw;exact⟨k,rfl,hex k hkm,(List.append_eq_nil_iff.1 hw).1⟩
def amS{src:Nd}(hv:cO src)(hk:src.kind=1)(hc:JY src=[]):src.kids.Pairwise eF:=by
 have hr:=Zi hv hk hc;unfold WM at hr;exact(eD (List.append_eq_nil_iff.1 hr).1).2.1
def ab4{n:Nd}(hn:Iu n)(hz:Fv n<=100000):Ik n=some (Gb n):=by
 unfold Gb;by_cases hk:n.kind=1;rotate_left;rw[Ab (λq=>hk q.1),Ik,HM,Ab hk];by_cases hv:cO n;rotate_left;rw[Ab (λq=>hv q.2),Ik,HM,Ac hk,nU hn,Option.bind_some,Bd,Ab hv];rw[Ac ⟨hk,hv⟩,Ik,HM,Ac hk,nU hn,Option.bind_some,Bd,Ac hv,ah4 hn ⟨hk,hv⟩,Option.bind_some,Wh];by_cases hc:JY n=[];rotate_left;have:=List.length_pos_iff.2 hc;rw[Ab hc,Ac (by omega)];have Q5:=CN n;have wG:=Gy n.kids;obtain⟨WZ,_⟩:=checked hv hk hc;have T5:=amS hv hk hc;obtain⟨_,hit,_,_⟩:=XO hv hk
 have ll:(Hi n.kids).Ae.lines.length<=9223372036854775807:=by
   rw[Vq,List.length_map,YD];have:=Mf 3 n.kids;omega
 have pl:(Hi n.kids).Ae.lines.Pairwise λa b=>a.name≠b.name:=by rw[Vq];exact SV (.inr rfl) (λ_=>rfl) T5
 rw[Ac hc,hc,Ab (by simp),MA];refine CW (λi x=>x=((Z6 2 (n.kids.take i)).map dcF,(Z6 3 (n.kids.take i)).map dcL)) (by omega) rfl (λi y x hy hI=>?_) (λx hI=>?_);subst hI;have hi:=(List.getElem?_eq_some_iff.1 hy).1;have e2:=Mf 2 (n.kids.take i);have e3:=Mf 3 (n.kids.take i);rw[List.length_take] at e2 e3;simp only;rw[NV];simp only[HM y.kind];rw[rI hy,rI hy,D9 (by rw[List.length_map,YD];omega),D9 (by rw[List.length_map,YD];omega)];by_cases k2:y.kind=2;rw[Ac k2,AB,C9,Vd k2,RP (k:=3) (by omega)];simp[Z6,dcF];rw[Ab k2];by_cases k3:y.kind=3;rw[Ac k3,AB,C9,RP k2,Vd k3];simp[Z6,dcL];rw[Ab k3,AB,C9,RP k2,RP k3];simp[Z6];rw[List.take_length] at hI;subst hI;simp only;rw[<- cK,<- Vq];refine CW (λi x=>x=(cap [] ((n.kids.take i).foldl (b1 (Hi n.kids)) ([],[])).1,((n.kids.take i).foldl (b1 (Hi n.kids)) ([],[])).2)/\x.2.length<=i) (by omega) ⟨rfl,by simp⟩ (λi y x hy hI=>?_) (λx hI=>?_);obtain⟨rfl,n2⟩:=hI;have I5:=List.mem_of_getElem? hy;have hi:=(List.getElem?_eq_some_iff.1 hy).1;have hym:=FZ I5;have hf:=HQ (b1 (Hi n.kids)) ([],[]) hy;generalize (n.kids.take i).foldl (b1 (Hi n.kids)) ([],[])=s at *;rw[b1] at hf;simp only at n2 ⊢;rw[NN];simp only[HM y.kind];by_cases k4:y.kind=4;rw[Ac k4] at hf ⊢;obtain⟨h,cs,QD,iV⟩:=ald hv hk hc I5 k4;obtain⟨z,d,l1,l2,l3,_⟩:=aaj T5 (WZ y I5 k4).2;have hyz:=CN y;have hyl:=Gy y.kids;have Iv:=mM (Hi n.kids) y.kids.tail;rw[List.length_tail] at Iv;rw[ait (src:=n) (c:=⟨(Hi n.kids).Ae.facts,(Hi n.kids).Ae.lines,s.2⟩) rfl rfl hit WZ T5 (by omega) (by omega) QD iV (nT pl ll l2 l3) l1,Option.bind_some,D9 (by omega)];have ama:=aaC (kE (Hi n.kids) y.kids.tail ([],[],[],⟨0,0,ByteArray.empty,⟨0,[]⟩,[]⟩) (λg hg=>by cases hg));have ama:((Kb (Hi n.kids) y.kids.tail).1.map Dg.Ct).map (λz=>(⟨2,z⟩:Dg))=(Kb (Hi n.kids) y.kids.tail).1:=ama;refine CW (λj x=>x=cap (cap [] s.1) ((((Kb (Hi n.kids) y.kids.tail).1.map Dg.Ct).take j).map (λz=>(⟨2,z⟩:Dg)))) (by rw[List.length_map];omega) (by rw[List.take_zero,List.map_nil,F9 (E6 _ _)]) (λj z2 x hz2 hJ=>?_) (λx hJ=>?_);rw[NQ,hJ,aoJ (E6 _ _),Option.bind_some,AB,C9,F7,List.take_add_one,hz2,List.map_append];rfl;rw[List.take_length,ama,F7] at hJ;rw[AB,C9,hJ,hf];exact⟨rfl,by simp only[List.length_append,List.length_singleton];omega⟩;rw[Ab k4] at hf ⊢;rw[AB,C9,hf];exact⟨rfl,by simp only;omega⟩;obtain⟨rfl,n2⟩:=hI;rw[List.take_length] at n2 ⊢;rw[show n.kids.foldl (b1 (Hi n.kids)) ([],[])=VC (Hi n.kids) n.kids from rfl];simp only[Wh];by_cases hb:(VC (Hi n.kids) n.kids).1=[];rw[hb,Ab (by simp[cap]),Ac rfl,AB];have hp:=List.length_pos_iff.2 hb;rw[Ab hb,Ac (by unfold cap;rw[List.nil_append,List.length_take];omega),AB];unfold cap;rw[List.nil_append]
end Mo
end Go.Proofs.YtnijkdknnmgoeaaGreat
namespace Go.Proofs.YtnijkdknnmgoeaaGreat
open AI Go
namespace Mo
namespace V
set_option maxRecDepth 100000
set_option maxHeartbeats 4000000
def Mc(e:Ex):Prop:=e.BX.den=0/\e.BX.ps=[]
def sB(e a b:Ex):Prop :=
 ((e.op=6\/e.op=7)/\e.unit=Ak/\a.unit=Ak/\b.unit=Ak) \/
 (e.op=8/\e.unit=Ak/\a.unit=b.unit) \/
 ((e.op=9\/e.op=10)/\e.unit=Ak/\a.unit=b.unit/\a.unit≠Ak) \/
 ((e.op=11\/e.op=12)/\e.unit=a.unit/\a.unit=b.unit/\a.unit≠Ak) \/
 (e.op=13/\a.unit≠Ak/\b.unit≠Ak/\((a.unit=AF/\e.unit=b.unit)\/(b.unit=AF/\e.unit=a.unit))) \/
 (e.op=14/\e.unit=a.unit/\a.unit≠Ak/\b.op=1/\b.unit=AF/\1<=b.n/\b.n<=1000000) \/
 (e.op=15/\a.unit=B2/\Tu b.unit/\e.unit=b.unit)
def Pb(e a b:Ex)(r:List Ex):Prop:=((e.op=16\/e.op=17)/\(∀k∈a::b::r,k.unit=a.unit)/\a.unit≠Ak/\e.unit=a.unit)\/(r=[]/\sB e a b)
def loc(c:Co)(e:Ex):Prop:=match e.kids with
 | []=>Mc e/\Rz c e
 | [a]=>e.n=0/\((Mc e/\e.op=5/\e.unit=Ak/\a.unit=Ak)\/(e.op=18/\e.unit=a.unit/\Tu e.unit/\NT e.BX))
 | a::b::r=>e.n=0/\Mc e/\Pb e a b r
def UD{β:Type}{p:Prop}{x:β}:AM p x x=x:=Ov
def asZ{α:Type}(a b:α)(r:List α):(((a::b::r).length:Nat):Int)=2↔r=[]:=by
 cases r with
 | nil=>simp
 | cons x r=>simp only[List.length_cons,reduceCtorEq,iff_false];omega
def am3(op n:Int)(u:ByteArray)(t:Fn)(a b:Ex)(r:List Ex)(hl:(a::b::r).length<=9223372036854775807):F4 ⟨op,n,u,t,a::b::r⟩=some (mb (Pb ⟨op,n,u,t,a::b::r⟩ a b r)):=by
 rw[F4];simp only[List.getElem?_cons_zero,List.getElem?_cons_succ,Option.bind_some]
 rw[Dy (v:=false) (P:=λ_ k=>(op=16\/op=17)->k.unit=a.unit) hl (λi k _=>by
   simp only[OL,BB,B5,Bd,NC,afw,amV];congr 2;apply propext;grind)]
 simp only[BB,Ea,B5,Bd,EW,Ek,XT,VH,jO,WU,aeg,Option.bind_some,asZ,GH];refine Kp ?_;unfold Pb sB;rw[show(∀y:Ex,y∈a::b::r->(op=16\/op=17)->y.unit=a.unit)↔((op=16\/op=17)->∀y∈a::b::r,y.unit=a.unit) from ⟨λh p y hy=>h y hy p,λh y hy p=>h p y hy⟩];simp only;generalize (∀k∈a::b::r,k.unit=a.unit)=A at *;clear hl;generalize a.unit=ua;generalize b.unit=ub;by_cases h16:op=16
 . subst h16;simp;try grind
 by_cases h17:op=17
 . subst h17;simp;try grind
 by_cases h6:op=6
 . subst h6;simp;try grind
 by_cases h7:op=7
 . subst h7;simp;try grind
 by_cases h8:op=8
 . subst h8;simp;try grind
 by_cases h9:op=9
 . subst h9;simp;try grind
 by_cases h10:op=10
 . subst h10;simp;try grind
 by_cases h11:op=11
 . subst h11;simp;try grind
 by_cases h12:op=12
 . subst h12;simp;try grind
 by_cases h13:op=13
 . subst h13;simp;try grind
 by_cases h14:op=14
 . subst h14;simp;try grind
 by_cases h15:op=15
 . subst h15;simp;try grind
 simp[h16,h17,h6,h7,h8,h9,h10,h11,h12,h13,h14,h15]
mutual
def fit(c:Co):Ex->Prop
 | ⟨op,n,u,t,ks⟩=>GQ u/\ac4 c ks/\loc c ⟨op,n,u,t,ks⟩
def ac4(c:Co):List Ex->Prop
 | []=>True
 | k::ks=>fit c k/\ac4 c ks
end
def ad2{c:Co}{l:List Ex}:ac4 c l↔∀k∈l,fit c k:=by
 induction l with
 | nil=>simp[ac4]
 | cons k l ih=>simp[ac4,ih]
def Ry(c:Co)(e:Ex):fit c e↔GQ e.unit/\(∀k∈e.kids,fit c k)/\loc c e:=by
 cases e;rw[fit,ad2]
def ps0{α:Type}{l:List α}:((l.length:Nat):Int)=0↔l=[]:=by
 cases l<;>simp;omega
def abc:¬Tu Ak:=λh=>by have:=h.1;revert this;decide
def vF:¬Tu AF:=λh=>by have:=h.1;revert this;decide
def tN:¬Tu B2:=λh=>by have:=h.1;revert this;decide
def akU(c:Co)(op n:Int)(u:ByteArray)(t:Fn):loc c ⟨op,n,u,t,[]⟩↔Mc ⟨op,n,u,t,[]⟩/\Rz c ⟨op,n,u,t,[]⟩:=Iff.rfl
def anV(c:Co)(op n:Int)(u:ByteArray)(t:Fn)(a:Ex):loc c ⟨op,n,u,t,[a]⟩↔n=0/\((Mc ⟨op,n,u,t,[a]⟩/\op=5/\u=Ak/\a.unit=Ak)\/(op=18/\u=a.unit/\Tu u/\NT t)):=Iff.rfl
def amE(c:Co)(op n:Int)(u:ByteArray)(t:Fn)(a b:Ex)(r:List Ex):loc c ⟨op,n,u,t,a::b::r⟩↔n=0/\Mc ⟨op,n,u,t,a::b::r⟩/\Pb ⟨op,n,u,t,a::b::r⟩ a b r:=Iff.rfl
def m9{e a b:Ex}{r:List Ex}(h:Pb e a b r):6<=e.op/\e.op<=17:=by
 unfold Pb sB at h;omega
def abg{e a b:Ex}{r:List Ex}(h:Pb e a b r)(ha:GQ a.unit)(hb:GQ b.unit):GQ e.unit:=by
 have ht:GQ Ak:=.inl rfl;unfold Pb sB at h;grind
def aiK(c:Co)(ha:c.Ap.length<=9223372036854775807)(hd:rD c):∀(m:Nat) (e:Ex),W6 e->JS e<=m->H2 m c e=some (mb (fit c e)):=by
 intro m
 induction m with
 | zero=>intro e _ h;have:=Mi e;omega
 | succ m ih =>
   intro e L8 hn;obtain⟨_,hk,Lo⟩:=(PX e).1 L8;rw[H2,PN,CA (Ry c e)]
   rw[Dy (v:=false) (P:=λ_ k=>fit c k) hk (λi y hy=>by
     have hm:=List.mem_of_getElem? hy;have h3:=P2 hm;simp only[ON];rw[ih y (Lo y hm) (by omega)];simp only[Option.bind_some,Bd,NC]),GH]
   by_cases hf:∀k∈e.kids,fit c k;rw[Ac hf];obtain⟨op,n,u,t,ks⟩:=e;simp only at hf hk ⊢
   match ks,hf,hk with
   | [],hf,hk =>
     rw[ahK c _ ha hd];simp only[BB,Bd,List.length_nil,show((0:Nat):Int)=0 from rfl,Ac,Option.bind_some,Ek,ps0,VH];refine Kp ?_;rw[akU];unfold Mc;have l0:=@acZ c ⟨op,n,u,t,[]⟩;simp only at l0 ⊢;by_cases h1:op=1;subst h1;simp;grind;by_cases h2:op=2;subst h2;simp;grind;by_cases h3:op=3;subst h3;simp;grind;by_cases h4:op=4;subst h4;simp;grind;have:=l0 h1 h2 h3 h4;grind
   | [a],hf,hk =>
     have hua:=((Ry c a).1 (hf a (by simp))).1;simp only[BB,B5,Bd,List.length_cons,List.length_nil,show((0+1:Nat):Int)=1 from rfl,show ¬(1:Int)=0 from by omega,not_false_eq_true,Ab,Ac,Option.bind_some,List.getElem?_cons_zero,aeg,anP,EW,Ek,jO,VH,ps0,Ov];rw[anV];unfold Mc;have ht:GQ Ak:=.inl rfl;simp only[UD,Ek,VH,EW,XT];refine Kp ?_;grind
   | a::b::r,hf,hk =>
     have hua:=((Ry c a).1 (hf a (by simp))).1;have hub:=((Ry c b).1 (hf b (by simp))).1;have n1:¬(((a::b::r).length:Nat):Int)=1:=by simp only[List.length_cons];omega
     rw[am3 _ _ _ _ _ _ _ hk];simp only[BB,B5,Bd,Ab n1,ps0,Ab (show ¬(a::b::r=[]) by simp),Option.bind_some,Ek,VH];refine Kp ?_;rw[amE];have h5:=@m9 ⟨op,n,u,t,a::b::r⟩ a b r;have h6:=@abg ⟨op,n,u,t,a::b::r⟩ a b r;simp only at h5 h6 ⊢;unfold Mc;generalize Pb ⟨op,n,u,t,a::b::r⟩ a b r=M at *;grind
   rw[Ab hf];exact FE λh=>hf h.2.1
def ahV(c:Co)(ha:c.Ap.length<=9223372036854775807)(hd:rD c)(e:Ex)(h:W6 e):S9 c e=some (mb (fit c e)) :=
 Ih (JS e) λn hn=>aiK c ha hd n e h hn
def aaR(c:Co)(ha:c.Ap.length<=9223372036854775807)(hd:rD c)(e:Ex)(h:W6 e):K8 c e=some (mb (smE e/\fit c e)):=by
 rw[K8,rW e h,ahV c ha hd e h];simp only[Option.bind_some,Bd,Ek]
end V
end Mo
end Go.Proofs.YtnijkdknnmgoeaaGreat
namespace Go.Proofs.YtnijkdknnmgoeaaGreat
open AI Go
namespace Mo
namespace V
set_option maxRecDepth 100000
set_option maxHeartbeats 4000000
def okA(a:Ar):Prop:=a.wh.length<=9223372036854775807/\a.un.length<=9223372036854775807/\(∀e∈a.wh,W6 e)/\W6 a.am
def iN(c:Co):Prop:=c.facts.length<=9223372036854775807/\c.lines.length<=9223372036854775807/\c.Ap.length<=9223372036854775807/\∀a∈c.Ap,okA a
def whole(c:Co)(e:Ex)(u:ByteArray):Prop:=smE e/\fit c e/\e.unit=u
def NK(c:Co)(a:Ar):Prop:=(1<=a.number/\a.number<=1000000)/\(0<=a.line/\a.line < ((c.lines.length:Nat):Int))/\Hu c.Ap a.number=some a.line
def N5(c:Co)(a:Ar):Prop:=(0<=a.R9/\a.R9<=1000000)/\(0<=a.fr/\a.fr < a.to/\a.to<=36525)/\(0<=a.known/\a.known<=36524)/\(∀z∈a.un,Hu c.Ap z≠none)/\(∀e∈a.wh,whole c e Ak)/\∃d,Cn c.lines a.line=some d/\whole c a.am d.unit
def Qk(c:Co):Prop:=(Sf c.facts 0 0/\c.facts.length<=32)/\(Sf c.lines 1 4/\c.lines.length<=32)/\c.Ap.length<=60/\∀a∈c.Ap,NK c a/\N5 c a
def aag{c:Co}(h1:Sf c.facts 0 0)(h2:Sf c.lines 1 4):rD c :=
 ⟨λd hd=>by obtain⟨i,hi⟩:=List.getElem?_of_mem hd;exact(h1 i d hi).2.1,λd hd=>by obtain⟨i,hi⟩:=List.getElem?_of_mem hd;exact(h2 i d hi).2.1⟩
def Yz(c:Co)(hc:iN c):Hf c=some (mb (Qk c)):=by
 obtain⟨hf,hl,ha,hao⟩:=hc;rw[Hf,cD _ _ _ hf,cD _ _ _ hl];simp only[Option.bind_some,Bd,CC];unfold Qk;by_cases h1:Sf c.facts 0 0/\c.facts.length<=32;by_cases h2:Sf c.lines 1 4/\c.lines.length<=32;by_cases h3:60 < ((c.Ap.length:Nat):Int);rw[Ac h1,Ac h2,Ac h3];exact FE λh=>by have:=h.2.2.1;omega
 have hd:=aag h1.1 h2.1
 rw[Ac h1,Ac h2,Ab h3,Dy (v:=false) (P:=λ_ a=>NK c a/\N5 c a) ha (λi a hi=>by
   have hm:=List.mem_of_getElem? hi;obtain⟨hw,hu,hwe,hae⟩:=hao a hm
   have e1:=λ(k:Unit->Option (Lp Unit Unit Bool))=>Dy (l:=a.wh) (body:=λi y x=>Ky c i y) (v:=false) (P:=λ_ e=>whole c e Ak) (k:=k) (kr:=λv=>some (.rt v)) hw (λi e hi=>by
     simp only[Ky,aaR c ha hd _ (hwe e (List.mem_of_getElem? hi)),Option.bind_some,B5,Bd,NC,YL];congr 2;apply propext;unfold whole;exact and_assoc)
   have e2:=λ(k:Unit->Option (Lp Unit Unit Bool))=>Dy (l:=a.un) (body:=λi y x=>Kv c i y) (v:=false) (P:=λ_ z=>Hu c.Ap z≠none) (k:=k) (kr:=λv=>some (.rt v)) hu (λi z hi=>by
     simp only[Kv,WQ _ _ ha,Option.bind_some,CC,Bd,VD];congr 2;apply propext;rcases wF c.Ap z with ⟨h1,h2,_⟩ | ⟨k,y,h1,_,_,h2⟩
     rw[h1,h2];simp;rw[h1,h2];simp)
   simp only[NB,WQ _ _ ha,aaR c ha hd _ hae,Option.bind_some,CC,Ea,BB,B5,Bd,e1,e2,GH];rcases wF c.Ap a.number with ⟨_,_,h4⟩ | ⟨k,y,h4,h5,_,h6⟩
   exact absurd rfl (h4 a hm);rw[h4,N1,h5];simp only[Option.bind_some];unfold NK N5;rw[h6];by_cases vM:0<=a.line/\a.line < ((c.lines.length:Nat):Int);obtain⟨d,iX,_⟩:=L6 vM.1 vM.2;rw[iX];simp only[Option.bind_some,NC,YL,Xe];congr 2;apply propext;unfold whole;simp only[Option.some.injEq,exists_eq_left'];grind
   rw[show ∀x y z:Option (Lp Unit Unit Bool),AM (a.number < 1) x (AM (1000000 < a.number) y (AM (a.line < 0) (some (.rt false)) (AM (((c.lines.length:Nat):Int)<=a.line) (some (.rt false)) z)))=AM (a.number < 1) x (AM (1000000 < a.number) y (some (.rt false))) from λx y z=>by
     congr 2;by_cases q:a.line < 0;rw[Ac q];rw[Ab q,Ac (by omega)]]
   simp only[Ov];rw[show(some (.rt false):Option (Lp Unit Unit Bool))=some (ck false False) by unfold ck;rw[Ab (λh=>h)]];congr 2;apply propext;grind
   ),EW,GH]
 refine Kp ?_;exact⟨λh=>⟨h1,h2,by omega,h⟩,λh=>h.2.2.2⟩;rw[Ac h1,Ab h2];exact FE λh=>h2 h.2.1;rw[Ab h1];exact FE λh=>h1 h.1
end V
end Mo
end Go.Proofs.YtnijkdknnmgoeaaGreat
namespace Go.Proofs.YtnijkdknnmgoeaaGreat
open AI Go
namespace Mo
namespace V
set_option maxRecDepth 100000
set_option maxHeartbeats 4000000
def adD(s:ByteArray):HB s=some (mb (s∈V8)):=by
 rw[HB];simp only[B5,Bd,EW,WU];refine Kp ?_;simp only[V8,List.mem_cons,List.not_mem_nil,or_false]
def rQ(s:ByteArray):s=ByteArray.empty↔s.data.toList.length=0:=by
 constructor;intro h;rw[h];rfl;intro h;apply ByteArray.ext;apply Array.ext';rw[List.eq_nil_of_length_eq_zero h];rfl
def bW(s:ByteArray):Di s=some (mb (HE s)):=by
 rw[Di];simp only[B5,CC,Bd,adD,Option.bind_some];unfold HE;by_cases h0:s=ByteArray.empty;rw[Ac h0];exact FE λh=>by have:=(rQ s).1 h0;omega
 have h1:s.data.toList.length≠0:=λh=>h0 ((rQ s).2 h);rw[Ab h0];by_cases h2:16 < ((s.data.toList.length:Nat):Int);rw[Ac h2];exact FE λh=>by omega
 rw[Ab h2];obtain⟨b,hb⟩:∃b,s.data.toList[0]?=some b:=⟨_,List.getElem?_eq_getElem (by omega)⟩
 rw[hb,Dy (v:=false) (P:=λ_ y=>Rm y) (by omega) (λi y _=>by
   simp only[HG,CC,BB,Bd,NC,YL,VD,afw,Xe,amV,ahz];congr 2;unfold Rm;apply propext;omega)]
 simp only[Option.bind_some,EW,XT,GH];refine Kp ?_;constructor;rintro⟨h3,h4,h5,h6⟩;exact⟨by omega,⟨b,rfl,by omega⟩,h5,h6⟩;rintro⟨h3,⟨c,hc,h4⟩,h5,h6⟩;cases hc;exact⟨by omega,by omega,h5,h6⟩
def amF:Hc [] []=some true:=by
 rw[Hc];rfl
def node1(n:Nd):B4 ⟨0⟩ n 1=some (true,1):=by
 rw[B4,Dl (by simp)];rfl
def afB(s:ByteArray):BJ ⟨12,s,ByteArray.empty,0,0,0,0,⟨0,[]⟩,[],0⟩ ⟨0,s,ByteArray.empty,0,0,0,0,⟨0,[]⟩,[],0⟩=some true:=by
 rw[BJ];simp only[B5,BB,Bd,Ac,amF,Option.bind_some]
def ad3(s:ByteArray):KB s=some (mb (HE s)):=by
 have h1:FA ⟨0⟩ ⟨12,s,ByteArray.empty,0,0,0,0,⟨0,[]⟩,[],0⟩ 1=some (mb (HE s),1):=by
   refine Ih 1 λn hn=>?_;obtain⟨n,rfl⟩:∃k,n=k+1:=⟨n - 1,by omega⟩;rw[AN,DI,node1];simp only[Option.bind_some,cond_true,show Ba 12 11=false from rfl,show Ba 12 12=true from rfl,cond_false,bW,List.length_nil,show Ba ((0:Nat):Int) 0=true from rfl,afB,Bd];by_cases h:HE s;rw[Ac h,show mb (HE s)=true from BE.2 h];rw[Ab h,show mb (HE s)=false from Vc.symm▸h]
 rw[KB,E1];simp only[show Ba 12 1=false from rfl,cond_false,h1,Option.bind_some]
def fJ(s:ByteArray):Ha s=some (mb (Tu s)):=by
 rw[Ha,BB,Bd];unfold Tu;by_cases h:((s.data.toList.length:Nat):Int)=3
 rw[Ac h,Dy (v:=false) (P:=λ_ y=>65<=y.toNat/\y.toNat<=90) (by omega) (λi y _=>by
   simp only[Na,CC,Bd,VD,Xe];congr 2;apply propext;omega),EW,GH]
 exact Kp ⟨λh2=>⟨by omega,h2⟩,λh2=>h2.2⟩;rw[Ab h];exact FE λh2=>h (by omega)
def YK(s:ByteArray):IY s=some (mb (GQ s)):=by
 rw[IY];simp only[B5,Bd,fJ,Option.bind_some,WU];rfl
def sD(l:List Dc)(lo hi:Int)(hl:l.length<=9223372036854775807):GC l lo hi=some (mb (Sf l lo hi)):=by
 rw[GC,MA];refine CW (λi m=>(∀x,(m.get x).getD false=true↔∃(j:Nat) (d:Dc),j < i/\l[j]?=some d/\d.name=x)/\∀(j:Nat) d,j < i->l[j]?=some d->rB l lo hi j d) hl ⟨λx=>by simp[Mm.get_nil],λj d hj=>by omega⟩ (λi y m hy hI=>?_) (λm hI=>?_);obtain⟨h1,h2⟩:=hI;simp only[Jv,ad3,YK,Option.bind_some,CC,vZ,EC,DH,AB,C9,Z3,CS];rw[h1 y.name];have hd:∀q:Prop,(rB l lo hi i y->q)->¬q->¬Sf l lo hi:=λq h3 h4 h5=>h4 (h3 (h5 i y hy));refine⟨λa=>⟨λb=>?_,λb=>⟨λc=>⟨λd=>?_,λd=>⟨λe=>?_,λe=>⟨λx=>?_,λj d' hj sG=>?_⟩⟩⟩,λc=>?_⟩⟩,λa=>?_⟩;obtain⟨j,d,hj,iX,dM⟩:=b;exact λh5=>(h5 i y hy).2.2.2.2 j d hj iX dM;exact λh5=>by have:=(h5 i y hy).2.2.1;omega
 exact λh5=>by have:=(h5 i y hy).2.2.2.1;omega
 rw[Mm.Ew];by_cases hx:x=y.name;rw[if_pos hx];exact⟨λ_=>⟨i,y,by omega,hy,hx.symm⟩,λ_=>rfl⟩;rw[if_neg hx,h1 x];constructor;rintro⟨j,d,hj,iX,dM⟩;exact⟨j,d,by omega,iX,dM⟩;rintro⟨j,d,hj,iX,dM⟩;have:j≠i:=λe=>by subst e;rw[hy] at iX;cases iX;exact hx dM.symm
 exact⟨j,d,by omega,iX,dM⟩;rcases Nat.lt_or_ge j i with h | h
 exact h2 j d' h sG;have:j=i:=by omega
 subst this;rw[hy] at sG;cases sG;exact⟨a,c,by omega,by omega,λj' e' hj' he' hn=>b ⟨j',e',hj',he',hn⟩⟩;exact λh5=>c (h5 i y hy).2.1;exact λh5=>a (h5 i y hy).1;rw[AB,Qv];exact λj d hj=>hI.2 j d (List.getElem?_eq_some_iff.1 hj).1 hj
def ak4(f:Fn):Ib f=some (mb (NT f)):=by
 rw[Ib];simp only[CC,Bd];by_cases h1:f.den < 1;rw[Ac h1];exact FE (by unfold NT;omega);by_cases h2:1000000 < f.den;rw[Ab h1,Ac h2];exact FE (by unfold NT;omega);by_cases h3:((f.ps.length:Nat):Int) < 1;rw[Ab h1,Ab h2,Ac h3];exact FE (by unfold NT;omega);by_cases h4:64 < ((f.ps.length:Nat):Int);rw[Ab h1,Ab h2,Ab h3,Ac h4];exact FE (by unfold NT;omega)
 rw[Ab h1,Ab h2,Ab h3,Ab h4,Dy (v:=false) (P:=W3 f) (by omega) (λi y hy=>by
   have hi:=(List.getElem?_eq_some_iff.1 hy).1;simp only[Jp,CC,BB,Ea,Bd];cases i with
   | zero =>
     simp only[show((0:Nat):Int)=0 from rfl,Ac,NC,VD,Xe,YL];congr 2;apply propext;unfold W3;grind
   | succ i =>
     obtain⟨q,hq⟩:∃q,f.ps[i]?=some q:=⟨_,List.getElem?_eq_getElem (by omega)⟩;rw[Oz (by omega),show((i+1:Nat):Int) - 1=((i:Nat):Int) by omega,N1,hq];rw[Ab (show ¬((i+1:Nat):Int)=0 by omega),Ac (show(0:Int) < ((i+1:Nat):Int) by omega)];simp only[Option.bind_some,Ea,Bd,VD,Xe,YL];congr 2;apply propext;unfold W3;have h5:(∀(j:Nat) q',i+1=j+1->f.ps[j]?=some q'->q'.fr < y.fr)↔q.fr < y.fr:=⟨λh=>h i q rfl hq,λh j q' hj qJ=>by cases hj;rw[hq] at qJ;cases qJ;exact h⟩;rw[h5];grind),EW]
 refine Kp ?_;unfold NT;exact⟨λh=>⟨by omega,by omega,h⟩,λh=>h.2.2⟩
def agv(f:Ft)(e:Ex)(ho:1<=e.op/\e.op<=4)(hg:∀z,f.lines.get z=Hu f.Ae.Ap z)(hln:∀z l,Hu f.Ae.Ap z=some l->0<=l/\l < ((f.Ae.lines.length:Nat):Int)):GM f e=some (mb (Rz f.Ae e)):=by
 rw[GM,hg];simp only[Ea,CC,BB,B5,vZ,EC,Option.bind_some,EW,Ek,oA,wP];by_cases h1:e.op=1;rw[Ac h1,CA (akf h1)];refine Kp ?_;unfold pR;grind;rw[Ab h1];by_cases h2:e.op=2;rw[Ac h2,CA (aj7 h2)];rw[Ab h2];by_cases h3:e.op=3;rw[Ac h3,CA (akD h3)];cases hl:Hu f.Ae.Ap e.n with
 | none=>rw[Ab (by simp)];exact FE (by simp)
 | some l =>
   obtain⟨x,hx,_⟩:=L6 (hln _ _ hl).1 (hln _ _ hl).2;rw[Ac (by simp),Option.getD_some,hx];simp only[Option.bind_some];refine Kp ⟨λh=>⟨l,x,rfl,hx,h⟩,λ⟨l',d,h1,h2,h3⟩=>by cases h1;rw[hx] at h2;cases h2;exact h3⟩
 rw[Ab h3];have h4:e.op=4:=by omega
 exact Kp (akl h4).symm
end V
end Mo
end Go.Proofs.YtnijkdknnmgoeaaGreat
namespace Go.Proofs.YtnijkdknnmgoeaaGreat
open AI Go
namespace Mo
namespace V
set_option maxRecDepth 100000
set_option maxHeartbeats 4000000
def pU(k:Ex)(ks:List Ex)(hl:(k::ks).length<=9223372036854775807):Nb (k::ks)=some (mb (∀x∈k::ks,x.unit=k.unit)):=by
 rw[Nb,Dy (v:=false) (P:=λ_ x=>x.unit=k.unit) hl (λi x _=>by
   simp only[OH,List.getElem?_cons_zero,Option.bind_some,B5,Bd,NC]),EW,GH]
def abY(a b:ByteArray):DA a b=some (open Classical in if a=AF then b else a):=by
 rw[DA,B5,Bd];by_cases h:a=AF;rw[Ac h,if_pos h];rw[Ab h,if_neg h]
def ahL{α:Type}(a:α)(l:List α):∃x,Cn (a::l) ((((a::l).length:Nat):Int) - 1)=some x/\x∈a::l/\(l=[]->x=a)/\∀b,l=[b]->x=b:=by
 have h:((((a::l).length:Nat):Int) - 1)=((l.length:Nat):Int):=by simp only[List.length_cons];omega
 rw[h,N1];have h2:l.length < (a::l).length:=by simp
 refine⟨(a::l)[l.length],List.getElem?_eq_getElem h2,List.getElem_mem _,λh=>by subst h;rfl,λb h=>by subst h;rfl⟩
def o0(op n:Int)(u:ByteArray)(t:Fn)(a:Ex)(r:List Ex)(hl:(a::r).length<=9223372036854775807)(hu:∀k∈a::r,GQ k.unit)(ho:¬(1<=op/\op<=4))(ho2:op≠18) :
   GA ⟨op,n,u,t,a::r⟩=some (mb ((r=[]/\op=5/\u=Ak/\a.unit=Ak)\/∃b r',r=b::r'/\Pb ⟨op,n,u,t,a::r⟩ a b r')):=by
 obtain⟨x,hx,hxm,u5,Kn⟩:=ahL a r;rw[GA];simp only[List.getElem?_cons_zero,Option.bind_some];rw[Oz (by omega),hx];simp only[Option.bind_some,pU a r hl,B5,BB,Ea,CC,af2,abY,fJ,vZ,EC,EW,Ek,XT,VH,jO,WU,Ov];refine Kp ?_;have YW:Ak≠AF:=by intro h;exact absurd (congrArg ByteArray.data h) (by decide)
 have nt2:Ak≠B2:=by intro h;exact absurd (congrArg ByteArray.data h) (by decide)
 have nt3:AF≠B2:=by intro h;exact absurd (congrArg ByteArray.data h) (by decide)
 have tc:=abc;have nc:=vF;have mc:=tN;have hua:=hu a (by simp);have hux:=hu x hxm
 match r,hl,u5,Kn with
 | [],hl,u5,Kn =>
   have:=u5 rfl;subst this;simp only[List.length_cons,List.length_nil,List.mem_singleton,forall_eq,reduceCtorEq,false_and,exists_false,or_false,true_and];grind
 | [b],hl,u5,Kn =>
   have:=Kn b rfl;subst this;have e2:(((([a,x]:List Ex).length:Nat):Int)=2)↔True:=by simp
   have e1:(((([a,x]:List Ex).length:Nat):Int)=1)↔False:=by simp
   have e3:((2:Int)<=((([a,x]:List Ex).length:Nat):Int))↔True:=by simp
   have es:(∀k∈[a,x],k.unit=a.unit)↔x.unit=a.unit:=by simp
   have eq:∀M:Ex->List Ex->Prop,(∃b r',[x]=b::r'/\M b r')↔M x []:=λM=>⟨λ⟨b,r',h,hm⟩=>by cases h;exact hm,λh=>⟨x,[],rfl,h⟩⟩;rw[eq];simp only[e1,e2,e3,es,reduceCtorEq,false_and,false_or];unfold Pb sB;simp only[es];generalize a.unit=ua at *;generalize x.unit=ub at *;generalize x.op=xo at *;generalize x.n=xn at *;clear hx hxm u5 Kn hu hl eq e1 e2 e3 es;by_cases h6:op=6
   . subst h6;simp;try grind
   by_cases h7:op=7
   . subst h7;simp;try grind
   by_cases h8:op=8
   . subst h8;simp;try grind
   by_cases h9:op=9
   . subst h9;simp;try grind
   by_cases h10:op=10
   . subst h10;simp;try grind
   by_cases h11:op=11
   . subst h11;simp;try grind
   by_cases h12:op=12
   . subst h12;simp;try grind
   by_cases h13:op=13
   . subst h13;simp;try grind
   by_cases h14:op=14
   . subst h14;simp;try grind
   by_cases h15:op=15
   . subst h15;simp;try grind
   by_cases h16:op=16
   . subst h16;simp;try grind
   by_cases h17:op=17
   . subst h17;simp;try grind
   by_cases h5:op=5;subst h5;simp;simp[h5,h6,h7,h8,h9,h10,h11,h12,h13,h14,h15,h16,h17]
 | b::d::r,hl,u5,Kn =>
   have e2:((((a::b::d::r).length:Nat):Int)=2)↔False:=by simp only[List.length_cons,iff_false];omega
   have e1:((((a::b::d::r).length:Nat):Int)=1)↔False:=by simp only[List.length_cons,iff_false];omega
   have e3:((2:Int)<=(((a::b::d::r).length:Nat):Int))↔True:=by simp only[List.length_cons,iff_true];omega
   have eq:∀M:Ex->List Ex->Prop,(∃b' r',b::d::r=b'::r'/\M b' r')↔M b (d::r):=λM=>⟨λ⟨b,r',h,hm⟩=>by cases h;exact hm,λh=>⟨b,d::r,rfl,h⟩⟩;rw[eq];simp only[e1,e2,e3,reduceCtorEq,false_and,false_or];unfold Pb;simp only[reduceCtorEq,false_and,or_false];generalize (∀k∈a::b::d::r,k.unit=a.unit)=A at *;clear hx hxm u5 Kn hu hl eq e1 e2 e3;by_cases h16:op=16
   . subst h16;simp;try grind
   by_cases h17:op=17
   . subst h17;simp;try grind
   simp[h16,h17]
   try grind
def alb(c:Co)(hd:rD c)(hln:∀z l,Hu c.Ap z=some l->0<=l/\l < ((c.lines.length:Nat):Int)):∀(m:Nat) (e:Ex) (L:Mm Int Int) (nd:Int) (d:Int),W6 e->JS e<=m->(∀z,L.get z=Hu c.Ap z)->0<=nd->nd<=400->1<=d->d<=41 ->
   Sp (BT m ⟨c,L,nd⟩ e d) (λr=>(r.1=mb (nd+((JS e:Nat):Int)<=400/\((dp e:Nat):Int)+d<=41/\fit c e))/\(r.1=true->r.2=nd+((JS e:Nat):Int))):=by
 intro m
 induction m with
 | zero=>intro e _ _ _ _ h;have:=Mi e;omega
 | succ m ih =>
   intro e L nd d L8 hm hL hn0 hn1 hd0 iX;obtain⟨_,hk,Lo⟩:=(PX e).1 L8;have hc:=gZ e;have hdp:=akj e;rw[BT,Fc];simp only;rw[Dl (by omega)];simp only[YK,Option.bind_some,CC,vZ,EC,DH,AB,CS,Bool.false_eq_true,false_implies,and_true];refine⟨λh=>by omega,λh1=>⟨λh=>by omega,λh2=>⟨λh3=>?_,λh3=>λh=>h3 ((Ry c e).1 h.2.2).1⟩⟩⟩;refine CW (λi x=>x=nd+1+((Qu (e.kids.take i):Nat):Int)/\x<=400/\∀(j:Nat) k,j < i->e.kids[j]?=some k->((dp k:Nat):Int)+d<=40/\fit c k) hk ⟨by simp[Qu],by omega,λj k hj=>by omega⟩ (λi y x hy hI=>?_) (λx hI=>?_);obtain⟨hx,Xk,hj⟩:=hI;have hym:=List.mem_of_getElem? hy;have h4:=P2 hym;have h5:=lF hy;have h6:=mC e.kids (i+1);have h7:=xM.1 (Nat.le_refl (dpS e.kids)) y hym;simp only[EF,Mh];rw[Dl (by omega)];refine(ih y L x (d+1) (Lo y hym) (by omega) hL (by omega) (by omega) (by omega) (by omega)).mono λr hr=>?_;obtain⟨r1,r2⟩:=r;obtain⟨hr1,uW⟩:=hr;simp only at hr1 uW ⊢;subst hr1;simp only[Bd,DH,AB,C9,Z3,CS,Bool.false_eq_true,false_implies,and_true];refine⟨λh=>?_,λh=>λh8=>h ⟨?_,?_,(Ry c e).1 h8.2.2 |>.2.1 y hym⟩⟩;have:=uW (BE.2 h);refine⟨by omega,by omega,λj k hji hjk=>?_⟩;rcases Nat.lt_or_ge j i with h9 | h9
   exact hj j k h9 hjk;have:j=i:=by omega
   subst this;rw[hy] at hjk;cases hjk;exact⟨by omega,h.2.2⟩;omega;omega;obtain⟨hx,Xk,hj⟩:=hI;rw[List.take_length] at hx
   have u9:∀k∈e.kids,fit c k:=λk hk=>by
     obtain⟨i,hi⟩:=List.getElem?_of_mem hk;exact(hj i k (List.getElem?_eq_some_iff.1 hi).1 hi).2
   have hdk:dpS e.kids<=(40 - d).toNat:=xM.2 λk hk=>by
     obtain⟨i,hi⟩:=List.getElem?_of_mem hk;have:=(hj i k (List.getElem?_eq_some_iff.1 hi).1 hi).1;omega
   have hP:(nd+((JS e:Nat):Int)<=400/\((dp e:Nat):Int)+d<=41/\fit c e)↔loc c e:=by
     rw[Ry];exact⟨λh=>h.2.2.2.2,λh=>⟨by omega,by omega,h3,u9,h⟩⟩
   rw[CA hP];have Pp:x=nd+((JS e:Nat):Int):=by omega
   subst Pp
   have fin:∀{o:Option (Bool×Int)} {q:Prop},(loc c e↔q)->o=some (mb q,nd+((JS e:Nat):Int))->Sp o (λr=>r.1=mb (loc c e)/\(r.1=true->r.2=nd+((JS e:Nat):Int))):=λhq ho=>by
     rw[ho,AB,CA hq];exact⟨rfl,λ_=>rfl⟩
   have wB:∀k∈e.kids,GQ k.unit:=λk hk=>((Ry c k).1 (u9 k hk)).1;obtain⟨op,n,u,t,ks⟩:=e;simp only at wB hk ⊢;have lf:=λh=>agv ⟨c,L,nd+((JS ⟨op,n,u,t,ks⟩:Nat):Int)⟩ ⟨op,n,u,t,ks⟩ h hL hln;simp only at lf;simp only[BB,B5,Ea,CC,vZ,EC,fJ,ak4,Option.bind_some];clear fin hP hj u9 hdk hx Xk Lo ih hm hc hdp L8 h1 h2;by_cases ho:1<=op/\op<=4;rw[lf ho];have n18:¬op=18:=by omega
   have n5:¬op=5:=by omega
   simp only[Ac ho.1,Ac ho.2,Ab n18,Option.bind_some,DH,AB,CS,SK,Bool.false_eq_true,false_implies,implies_true,and_true]
   match ks with
   | []=>rw[akU];unfold Mc;simp only[List.length_nil];have p0:=@ps0 Pc t.ps;grind
   | [a]=>rw[anV];simp only[List.length_cons,List.length_nil];grind
   | a::b::r =>
     rw[amE];have h5:=@m9 ⟨op,n,u,t,a::b::r⟩ a b r;simp only[List.length_cons] at h5 ⊢;generalize Pb ⟨op,n,u,t,a::b::r⟩ a b r=M at *;refine⟨λ_=>⟨λ_ h=>?_,λ_=>⟨λh=>?_,λh h2=>?_⟩⟩,λ_ h2=>?_⟩;have:=h5 h.2.2;omega;omega;have:=h5 h2.2.2;omega;have:=h5 h2.2.2;omega
   have el:∀x y:Option (Bool×Int),AM (1<=op) (AM (op<=4) x y) y=y:=λx y=>by
     by_cases q:1<=op;rw[Ac q,Ab (by omega)];rw[Ab q]
   rw[el];have lz:=λh1 h2 h3 h4=>@acZ c ⟨op,n,u,t,ks⟩ h1 h2 h3 h4;have lz:=lz (by show op≠1;omega) (by show op≠2;omega) (by show op≠3;omega) (by show op≠4;omega)
   match ks,wB,hk,lz with
   | [],wB,hk,lz =>
     rw[akU];simp only[List.length_nil,DH,AB,CS,Bool.false_eq_true,false_implies,and_true];refine⟨λ_=>⟨λ_=>⟨λh=>by omega,λ_ h=>lz h.2⟩,λ_ h=>lz h.2⟩,λ_=>⟨λ_=>⟨λ_ h=>lz h.2,λ_=>⟨λ_=>⟨λh=>by omega,λ_ h=>lz h.2⟩,λ_ h=>lz h.2⟩⟩,λ_ h=>lz h.2⟩⟩
   | [a],wB,hk,lz =>
     rw[anV];by_cases h18:op=18;subst h18;simp only[List.length_cons,List.length_nil,List.getElem?_cons_zero,Option.bind_some,Ac,DH,AB,CS,SK,Bool.false_eq_true,false_implies,implies_true,and_true];grind;rw[Ab h18,o0 op n u t a [] hk wB ho h18];have p0:=@ps0 Pc t.ps;unfold Mc;simp only[List.length_cons,List.length_nil,Option.bind_some,DH,AB,CS,SK,Bool.false_eq_true,false_implies,implies_true,and_true,reduceCtorEq,false_and,exists_false,or_false,true_and];grind
   | a::b::r,wB,hk,lz =>
     rw[amE];have h5:=@m9 ⟨op,n,u,t,a::b::r⟩ a b r;have eq:∀M:Ex->List Ex->Prop,(∃b' r',b::r=b'::r'/\M b' r')↔M b r:=λM=>⟨λ⟨b,r',h,hm⟩=>by cases h;exact hm,λh=>⟨b,r,rfl,h⟩⟩;have p0:=@ps0 Pc t.ps;unfold Mc;by_cases h18:op=18;subst h18;simp only[Ac,DH,AB,CS,SK,Bool.false_eq_true,false_implies,implies_true,and_true];have:∀q:Prop,(n=0/\q/\Pb ⟨18,n,u,t,a::b::r⟩ a b r)->False:=λq h=>by have:=h5 h.2.2;simp at this
     refine⟨λ_=>⟨λh=>?_,λ_ h=>this _ h⟩,λ_ h=>this _ h⟩;simp only[List.length_cons] at h;omega;rw[Ab h18,o0 op n u t a (b::r) hk wB ho h18,CA (show(((b::r=[]/\op=5/\u=Ak/\a.unit=Ak)\/∃b' r',b::r=b'::r'/\Pb ⟨op,n,u,t,a::b::r⟩ a b' r')↔Pb ⟨op,n,u,t,a::b::r⟩ a b r) by rw[eq];simp)];simp only[List.length_cons,Option.bind_some,DH,AB,CS,SK,Bool.false_eq_true,false_implies,implies_true,and_true];generalize Pb ⟨op,n,u,t,a::b::r⟩ a b r=M at *;clear h5 eq lf;grind
end V
end Mo
end Go.Proofs.YtnijkdknnmgoeaaGreat
namespace Go.Proofs.YtnijkdknnmgoeaaGreat
open AI Go
namespace Mo
namespace V
set_option maxRecDepth 100000
set_option maxHeartbeats 4000000
def rV(l m:List Ar)(z:Int):Hu (l++m) z=(Hu l z).or (Hu m z):=by
 unfold Hu;rw[List.find?_append];cases List.find? (λa=>decide (a.number=z)) l<;>rfl
def acW(a:Ar)(z:Int):Hu [a] z=if a.number=z then some a.line else none:=by
 unfold Hu;by_cases h:a.number=z<;>simp[h]
def abW{l:List Ar}{z x:Int}(h:Hu l z=some x):∃a∈l,a.number=z/\a.line=x:=by
 unfold Hu at h;obtain⟨a,h1,h2⟩:=Option.map_eq_some_iff.1 h;exact⟨a,List.mem_of_find?_eq_some h1,by have:=List.find?_some h1;simpa using this,h2⟩
def acJ{l:List Ar}{i:Nat}{z x:Int}(h:Hu (l.take i) z=some x):Hu l z=some x:=by
 have:=rV (l.take i) (l.drop i) z;rw[List.take_append_drop] at this;rw[this,h];rfl
def abw{l:List Ar}{i:Nat}{a:Ar}(h:l[i]?=some a)(z:Int):Hu (l.take (i+1)) z=(Hu (l.take i) z).or (if a.number=z then some a.line else none):=by
 rw[List.take_add_one,h,rV];show(Hu (l.take i) z).or (Hu [a] z)=_;rw[acW]
def amZ(c:Co):Prop:=∀z l,Hu c.Ap z=some l->0<=l/\l < ((c.lines.length:Nat):Int)
def agS:∀(m m':Nat) (e:Ex) (f:Ft) (d:Int),JS e<=m->JS e<=m'->BT m f e d=BT m' f e d:=by
 intro m
 induction m with
 | zero=>intro m' e _ _ h;have:=Mi e;omega
 | succ m ih =>
   intro m' e f d h1 h2;cases m' with
   | zero=>have:=Mi e;omega
   | succ m' =>
     rw[BT,BT,Fc,Fc,eO (body':=λi y x=>EF (BT m') f d i y x) (λi y x hy=>by
       have:=P2 (List.mem_of_getElem? hy);simp only[EF];rw[ih m' y _ _ (by omega) (by omega)])]
def uI(c:Co)(hd:rD c)(hln:amZ c)(L:Mm Int Int)(hL:∀z,L.get z=Hu c.Ap z)(nd:Int)(e:Ex)(u:ByteArray)(he:W6 e):Sp (EE ⟨c,L,nd⟩ e u) (λr=>r.1=mb (whole c e u)):=by
 rw[EE,B5,Bd,DH];refine⟨λh=>?_,λh=>?_⟩
 obtain⟨r,h1,h2⟩:Sp (LB ⟨c,L,0⟩ e 1) (λr=>r.1=mb ((0:Int)+((JS e:Nat):Int)<=400/\((dp e:Nat):Int)+1<=41/\fit c e)):=by
   obtain⟨r,h1,h2,_⟩:=alb c hd hln (JS e) e L 0 1 he (Nat.le_refl _) hL (by omega) (by omega) (by omega) (by omega);refine⟨r,Ih (JS e) λn hn=>?_,h2⟩;rw[agS n (JS e) e _ _ hn (Nat.le_refl _),h1]
 rw[h1,Mh,AB];obtain⟨r1,r2⟩:=r;simp only[AB];simp only at h2;rw[h2];refine CA ?_;unfold whole smE;constructor;rintro⟨a,b,d⟩;exact⟨⟨by omega,by omega⟩,d,h⟩;rintro⟨⟨a,b⟩,d,_⟩;exact⟨by omega,by omega,d⟩;rw[AB,CS];exact λh2=>h h2.2.2
def yF(c:Co)(hd:rD c)(hln:amZ c)(L:Mm Int Int)(hL:∀z,L.get z=Hu c.Ap z)(nd:Int)(a:Ar)(ha:okA a)(hli:0<=a.line/\a.line < ((c.lines.length:Nat):Int)):Sp (E5 ⟨c,L,nd⟩ a) (λr=>r.1=mb (N5 c a)):=by
 obtain⟨hw,hu,hwe,hae⟩:=ha;rw[E5];simp only[CC,Ea,Bd,DH,AB,CS];have nb:∀q:Prop,(N5 c a->¬q)->q->¬N5 c a:=λq h1 h2 h3=>h1 h3 h2;refine⟨λh=>by unfold N5;omega,λh1=>⟨λh=>by unfold N5;omega,λh2=>⟨λh=>by unfold N5;omega,λh3=>⟨λh=>by unfold N5;omega,λh4=>⟨λh=>by unfold N5;omega,λh5=>⟨λh=>by unfold N5;omega,λh6=>⟨λh=>by unfold N5;omega,λh7=>?_⟩⟩⟩⟩⟩⟩⟩;refine CW (λi _=>∀(j:Nat) z,j < i->a.un[j]?=some z->Hu c.Ap z≠none) hu (λj z hj=>by omega) (λi z x hz hI=>?_) (λx hI=>?_);simp only[Gl,hL,vZ,DH,AB,C9,Z3,CS];refine⟨λh j z' hj hz'=>?_,λh h2=>?_⟩;rcases Nat.lt_or_ge j i with h9 | h9
 exact hI j z' h9 hz';have:j=i:=by omega
 subst this;rw[hz] at hz';cases hz';intro e;rw[e] at h;cases h;have:=h2.2.2.2.1 z (List.mem_of_getElem? hz);cases hq:Hu c.Ap z with
 | none=>exact this hq
 | some x=>rw[hq] at h;exact h rfl
 have wB:∀z∈a.un,Hu c.Ap z≠none:=λz hz=>by obtain⟨i,hi⟩:=List.getElem?_of_mem hz;exact hI i z (List.getElem?_eq_some_iff.1 hi).1 hi
 clear hI;refine CW (λi _=>∀(j:Nat) e,j < i->a.wh[j]?=some e->whole c e Ak) hw (λj z hj=>by omega) (λi e x he hI=>?_) (λx hI=>?_);simp only[Gv,Mh];refine(uI c hd hln L hL x e Ak (hwe e (List.mem_of_getElem? he))).mono λr hr=>?_;obtain⟨r1,r2⟩:=r;simp only at hr ⊢;subst hr;simp only[Bd,DH,AB,C9,Z3,CS];refine⟨λh j e' hj he'=>?_,λh h2=>h (h2.2.2.2.2.1 e (List.mem_of_getElem? he))⟩;rcases Nat.lt_or_ge j i with h9 | h9
 exact hI j e' h9 he';have:j=i:=by omega
 subst this;rw[he] at he';cases he';exact h;have hwh:∀e∈a.wh,whole c e Ak:=λz hz=>by obtain⟨i,hi⟩:=List.getElem?_of_mem hz;exact hI i z (List.getElem?_eq_some_iff.1 hi).1 hi
 obtain⟨d,iX,_⟩:=L6 hli.1 hli.2;rw[iX,Option.bind_some,Mh];refine(uI c hd hln L hL x a.am d.unit hae).mono λr hr=>?_;obtain⟨r1,r2⟩:=r;simp only at hr ⊢;rw[AB,hr];refine CA ⟨λh=>⟨by omega,by omega,by omega,wB,hwh,d,iX,h⟩,λh=>?_⟩;obtain⟨d',h1,h2⟩:=h.2.2.2.2.2;rw[iX] at h1;cases h1;exact h2
def Yh(c:Co)(hc:iN c):G4 c=some (mb (Qk c)):=by
 obtain⟨hf,hl,ha,hao⟩:=hc;rw[G4,sD _ _ _ hf,sD _ _ _ hl,MA];simp only[CC,Bd,Option.bind_some,DH,AB,CS];refine⟨λh=>by unfold Qk;omega,λh1=>⟨λh=>by unfold Qk;omega,λh2=>⟨λh=>by unfold Qk;omega,λh3=>⟨λh4=>⟨λh5=>?_,λh5 h=>h5 h.2.1.1⟩,λh4 h=>h4 h.1.1⟩⟩⟩⟩;have hd:=aag h4 h5;refine CW (λi m=>(∀z,m.get z=Hu (c.Ap.take i) z)/\∀(j:Nat) a,j < i->c.Ap[j]?=some a->(1<=a.number/\a.number<=1000000)/\(0<=a.line/\a.line < ((c.lines.length:Nat):Int))/\Hu (c.Ap.take i) a.number=some a.line) ha ⟨λz=>rfl,λj a hj=>by omega⟩ (λi a m hi hI=>?_) (λm hI=>?_);obtain⟨hm,hj⟩:=hI;have hm':=hm a.number;have I5:=List.mem_of_getElem? hi;have HK:=abw hi;simp only[NS,CC,Ea,BB,vZ,EC,DH,AB,C9,Z3,CS];rw[hm'];have nv:∀q:Prop,(NK c a->q)->¬q->¬Qk c:=λq h6 h7 h8=>h7 (h6 (h8.2.2.2 a I5).1)
 have fM:(Hu (c.Ap.take i) a.number).isSome=true->(Hu (c.Ap.take i) a.number).getD 0=a.line->∀z,(m.set a.number a.line).get z=Hu (c.Ap.take (i+1)) z:=λh6 h7 z=>by
   rw[Mm.Ew,HK z,hm z];by_cases hz:z=a.number;subst hz;rw[if_pos rfl];cases hq:Hu (c.Ap.take i) a.number with
   | none=>rw[hq] at h6;cases h6
   | some x=>rw[hq] at h7;simp at h7;rw[h7];rfl
   rw[if_neg hz,if_neg (λe=>hz e.symm)];simp
 have new:¬(Hu (c.Ap.take i) a.number).isSome=true->∀z,(m.set a.number a.line).get z=Hu (c.Ap.take (i+1)) z:=λh6 z=>by
   rw[Mm.Ew,HK z,hm z];by_cases hz:z=a.number;subst hz;rw[if_pos rfl];cases hq:Hu (c.Ap.take i) a.number with
   | none=>simp
   | some x=>rw[hq] at h6;exact absurd rfl h6
   rw[if_neg hz,if_neg (λe=>hz e.symm)];simp
 have fin:¬a.number < 1->¬1000000 < a.number->¬a.line < 0->¬((c.lines.length:Nat):Int)<=a.line->(∀z,(m.set a.number a.line).get z=Hu (c.Ap.take (i+1)) z)->(∀z,(m.set a.number a.line).get z=Hu (c.Ap.take (i+1)) z)/\∀(j:Nat) b,j < i+1->c.Ap[j]?=some b->(1<=b.number/\b.number<=1000000)/\(0<=b.line/\b.line < ((c.lines.length:Nat):Int))/\Hu (c.Ap.take (i+1)) b.number=some b.line:=λq1 q2 q3 q4 hk=>by
   refine⟨hk,λj b hji hb=>?_⟩;rcases Nat.lt_or_ge j i with h9 | h9
   obtain⟨p1,p2,p3⟩:=hj j b h9 hb;refine⟨p1,p2,?_⟩;rw[HK,p3];rfl;have:j=i:=by omega
   subst this;rw[hi] at hb;cases hb;refine⟨by omega,by omega,?_⟩;rw[<- hk,Mm.Ew,if_pos rfl]
 refine⟨λh=>nv _ (λh=>h.1.1) (by omega),λq1=>⟨λh=>nv _ (λh=>h.1.2) (by omega),λq2=>⟨λh=>nv _ (λh=>h.2.1.1) (by omega),λq3=>⟨λh=>nv _ (λh=>h.2.1.2) (by omega),λq4=>⟨λq5=>⟨λq6=>fin q1 q2 q3 q4 (fM q5 q6),λq6 h=>?_⟩,λq5=>fin q1 q2 q3 q4 (new q5)⟩⟩⟩⟩⟩;have h8:=(h.2.2.2 a I5).1.2.2;cases hq:Hu (c.Ap.take i) a.number with
 | none=>rw[hq] at q5;cases q5
 | some x =>
   rw[hq] at q6;rw[acJ hq] at h8;cases h8;exact q6 rfl
 obtain⟨hm,hj⟩:=hI;rw[List.take_length] at hm hj;have hH:∀a∈c.Ap,NK c a:=λa h=>by obtain⟨i,hi⟩:=List.getElem?_of_mem h;exact hj i a (List.getElem?_eq_some_iff.1 hi).1 hi
 have hln:amZ c:=λz l h=>by obtain⟨a,h1,_,h3⟩:=abW h;rw[<- h3];exact(hH a h1).2.1
 refine CW (λi _=>∀(j:Nat) a,j < i->c.Ap[j]?=some a->N5 c a) ha (λj a hj=>by omega) (λi a x hi hI=>?_) (λx hI=>?_);have I5:=List.mem_of_getElem? hi;simp only[Nl,Mh];refine(yF c hd hln m hm x a (hao a I5) (hH a I5).2.1).mono λr hr=>?_;obtain⟨r1,r2⟩:=r;simp only at hr ⊢;subst hr;simp only[Bd,DH,AB,C9,Z3,CS];refine⟨λh j b hji hb=>?_,λh h2=>h (h2.2.2.2 a I5).2⟩;rcases Nat.lt_or_ge j i with h9 | h9
 exact hI j b h9 hb;have:j=i:=by omega
 subst this;rw[hi] at hb;cases hb;exact h;rw[AB,Qv];exact⟨⟨h4,by omega⟩,⟨h5,by omega⟩,by omega,λa h=>⟨hH a h,by obtain⟨i,hi⟩:=List.getElem?_of_mem h;exact hI i a (List.getElem?_eq_some_iff.1 hi).1 hi⟩⟩
end V
end Mo
end Go.Proofs.YtnijkdknnmgoeaaGreat
namespace Go.Proofs.YtnijkdknnmgoeaaGreat
open AI Go
namespace Mo
namespace V
set_option maxRecDepth 100000
set_option maxHeartbeats 4000000
def Ru{α:Type}{l m:List α}:l=m↔l.length=m.length/\∀(i:Nat) x y,l[i]?=some x->m[i]?=some y->x=y:=by
 constructor;intro h;subst h;exact⟨rfl,λi x y h1 h2=>by rw[h1] at h2;cases h2;rfl⟩;rintro⟨h1,h2⟩;apply List.ext_getElem h1;intro i hi hj;exact h2 i _ _ (List.getElem?_eq_getElem hi) (List.getElem?_eq_getElem hj)
def mK(x y:Pc):Qf x y=mb (x=y):=by
 rw[Bool.eq_iff_iff,BE];obtain⟨a,b,c⟩:=x;obtain⟨d,e,f⟩:=y;simp[Qf]
def fH(s t:List Pc)(hs:s.length<=9223372036854775807):Hc s t=some (mb (s=t)):=by
 rw[Hc,BB,Bd];by_cases h:((s.length:Nat):Int)=((t.length:Nat):Int);have h':s.length=t.length:=by omega
 rw[Ac h,Dy (v:=false) (P:=λi x=>∀y,t[i]?=some y->x=y) hs (λi x hx=>by
   have:=(List.getElem?_eq_some_iff.1 hx).1;obtain⟨y,hy⟩:∃y,t[i]?=some y:=⟨_,List.getElem?_eq_getElem (by omega)⟩;simp only[Ns,hy,Option.bind_some,mK,Bd,NC];congr 2;apply propext;exact⟨λe y' hy'=>by cases hy';exact e,λe=>e y rfl⟩),EW]
 refine Kp ?_;rw[Ru];exact⟨λh2=>⟨h',λi x y h3 h4=>h2 i x h3 y h4⟩,λh2 i x h3 y h4=>h2.2 i x y h3 h4⟩;rw[Ab h];exact FE λe=>h (by rw[e])
def agk:∀m:Nat,(∀a b:Ex,W6 a->2*JS a<=m->EZ m a b=some (mb (a=b)))/\(∀l k:List Ex,okS l->l.length<=9223372036854775807->2*Qu l+1<=m->Dw m l k=some (mb (l=k))):=by
 intro m
 induction m with
 | zero=>exact⟨λa b _ h=>by have:=Mi a;omega,λl k _ _ h=>by omega⟩
 | succ m ih =>
   refine⟨λa b ha h=>?_,λl k hl hn h=>?_⟩;have hc:=gZ a;obtain⟨hp,hk,Lo⟩:=(PX a).1 ha;rw[EZ,OG,fH _ _ hp,ih.2 a.kids b.kids (mX.2 Lo) hk (by omega)];simp only[BB,B5,Bd,Option.bind_some,Ek];refine Kp ?_;obtain⟨o,n,u,⟨d,p⟩,q⟩:=a;obtain⟨o',n',u',⟨d',p'⟩,q'⟩:=b;simp[and_assoc];rw[Dw,JC,BB,Bd];by_cases h1:((l.length:Nat):Int)=((k.length:Nat):Int);have h':l.length=k.length:=by omega
   rw[Ac h1,Dy (v:=false) (P:=λi x=>∀y,k[i]?=some y->x=y) hn (λi x hx=>by
     have:=(List.getElem?_eq_some_iff.1 hx).1;have hm:=List.mem_of_getElem? hx;have h3:=tQ hm;obtain⟨y,hy⟩:∃y,k[i]?=some y:=⟨_,List.getElem?_eq_getElem (by omega)⟩;simp only[IB,hy,Option.bind_some,ih.1 x y (mX.1 hl x hm) (by omega),Bd,NC];congr 2;apply propext;exact⟨λe y' hy'=>by cases hy';exact e,λe=>e y rfl⟩),EW]
   refine Kp ?_;rw[Ru];exact⟨λh2=>⟨h',λi x y h3 h4=>h2 i x h3 y h4⟩,λh2 i x h3 y h4=>h2.2 i x y h3 h4⟩;rw[Ab h1];exact FE λe=>h1 (by rw[e])
def ai7(a b:Ex)(ha:W6 a):Sj a b=some (mb (a=b)):=Ih (2*JS a) λm hm=>(agk m).1 a b ha hm
def aaO(l k:List Ex)(hl:l.length<=9223372036854775807)(hk:k.length<=9223372036854775807)(hle:∀e∈l,W6 e):Hr l k=some (mb (∀e∈k,e∈l)):=by
 rw[Hr,Dy (v:=false) (P:=λ_ e=>e∈l) hk (λi e _=>by
   have h1:FG l e=some (fst (λx=>x=e) l 0):=by
     rw[FG]
     exact gO (β:=Unit) hl (λi x hx=>by
       simp only[GV,Ju,ai7 x e (hle x (List.mem_of_getElem? hx)),Option.bind_some,Bd];unfold AM;split<;>rfl) rfl (λ_=>rfl)
   simp only[J4,IE,h1,Option.bind_some,Ea,Bd,EW,NC];congr 2;apply propext;rcases wR (p:=λx=>x=e) l 0 with ⟨h2,h3⟩ | ⟨k,y,h2,h3,h4,_⟩
   rw[h2];exact⟨λh=>by omega,λh=>absurd rfl (h3 e h)⟩;rw[h2];exact⟨λ_=>h4▸List.mem_of_getElem? h3,λ_=>by omega⟩),EW,GH]
def ajn(x y:Ar):Prop:=x.line=y.line/\x.number≠y.number/\(y.R9 < x.R9\/(x.R9=y.R9 /\
 (((∀e∈y.wh,e∈x.wh)/\¬(∀e∈x.wh,e∈y.wh))\/(((∀e∈y.wh,e∈x.wh)↔(∀e∈x.wh,e∈y.wh))/\y.known < x.known))))
def lN(c:Co)(i j:Int):Prop:=∃x y,Cn c.Ap i=some x/\Cn c.Ap j=some y/\ajn x y
def XR{α:Type}{l:List α}{z:Int}(h:¬(0<=z/\z < ((l.length:Nat):Int))):Cn l z=none:=by
 cases hq:Cn l z with
 | none=>rfl
 | some x=>exact absurd (P1 hq).1 h
def p8(c:Co)(hc:iN c)(i j:Int):En c i j=some (mb (lN c i j)):=by
 rw[En];simp only[CC,Ea,Bd];unfold lN;by_cases h1:i < 0;rw[Ac h1];exact FE λ⟨x,y,h,_⟩=>by rw[XR (by omega)] at h;cases h
 by_cases h2:j < 0;rw[Ab h1,Ac h2];exact FE λ⟨x,y,_,h,_⟩=>by rw[XR (by omega)] at h;cases h
 by_cases h3:((c.Ap.length:Nat):Int)<=i;rw[Ab h1,Ab h2,Ac h3];exact FE λ⟨x,y,h,_⟩=>by rw[XR (by omega)] at h;cases h
 by_cases h4:((c.Ap.length:Nat):Int)<=j;rw[Ab h1,Ab h2,Ab h3,Ac h4];exact FE λ⟨x,y,_,h,_⟩=>by rw[XR (by omega)] at h;cases h
 rw[Ab h1,Ab h2,Ab h3,Ab h4];obtain⟨x,hx,hxm⟩:=L6 (l:=c.Ap) (z:=i) (by omega) (by omega);obtain⟨y,hy,hym⟩:=L6 (l:=c.Ap) (z:=j) (by omega) (by omega);obtain⟨hxw,_,hxe,_⟩:=hc.2.2.2 x (List.mem_of_getElem? hxm);obtain⟨hyw,_,hye,_⟩:=hc.2.2.2 y (List.mem_of_getElem? hym);rw[hx,hy];simp only[Option.bind_some,aaO _ _ hxw hyw hxe,aaO _ _ hyw hxw hye,BB,Bd,EW,Ek,oA,XT,WU,VH];refine Kp ?_;rw[show(∃x_1 y_1,some x=some x_1/\some y=some y_1/\ajn x_1 y_1)↔ajn x y from ⟨λ⟨a,b,h1,h2,h3⟩=>by cases h1;cases h2;exact h3,λh=>⟨x,y,rfl,rfl,h⟩⟩];unfold ajn;generalize (∀e∈y.wh,e∈x.wh)=A;generalize (∀e∈x.wh,e∈y.wh)=B;grind
mutual
def nA(z:Int):Ex->Prop
 | ⟨op,n,_,_,ks⟩=>(op=3/\n=z)\/afD z ks
def afD(z:Int):List Ex->Prop
 | []=>False
 | k::ks=>nA z k\/afD z ks
end
def adH{z:Int}{l:List Ex}:afD z l↔∃k∈l,nA z k:=by
 induction l with
 | nil=>simp[afD]
 | cons k l ih=>simp[afD,ih]
def pA(z:Int)(e:Ex):nA z e↔(e.op=3/\e.n=z)\/∃k∈e.kids,nA z k:=by
 cases e;rw[nA,adH]
def agu:∀(m m':Nat) (e:Ex) (M:Mm Int Bool),JS e<=m->JS e<=m'->BN m e M=BN m' e M:=by
 intro m
 induction m with
 | zero=>intro m' e _ h;have:=Mi e;omega
 | succ m ih =>
   intro m' e M h1 h2;cases m' with
   | zero=>have:=Mi e;omega
   | succ m' =>
     have hb:∀x0,Au (λi y x=>CB (BN m) i y x) (λx=>x) (e.kids.drop 0) 0 x0=Au (λi y x=>CB (BN m') i y x) (λx=>x) (e.kids.drop 0) 0 x0:=λx0=>eO (λi y x hy=>by
       have:=P2 (List.mem_of_getElem? hy);simp only[CB];rw[ih m' y _ (by omega) (by omega)])
     rw[BN,BN,Gr,Gr,hb,hb]
def has(M:Mm Int Bool)(z:Int):Prop:=(M.get z).getD false=true
def oV(M:Mm Int Bool)(k z:Int):has (M.set k true) z↔has M z\/z=k:=by
 unfold has;rw[Mm.Ew];by_cases h:z=k;rw[if_pos h];simp[h];rw[if_neg h];simp[h]
def amD:∀(m:Nat) (e:Ex) (M:Mm Int Bool),W6 e->JS e<=m->Sp (BN m e M) (λr=>∀z,has r.2 z↔has M z\/nA z e):=by
 intro m
 induction m with
 | zero=>intro e _ _ h;have:=Mi e;omega
 | succ m ih =>
   intro e M L8 hm;obtain⟨_,hk,Lo⟩:=(PX e).1 L8
   have lp:∀(M0:Mm Int Bool) (k:Mm Int Bool->Option (Unit×Mm Int Bool)),(∀M1,k M1=some ((),M1))->Sp ((ED e.kids.length (Au (λi y x=>CB (BN m) i y x) (λx=>x) (e.kids.drop 0) 0 M0)).bind (Eu k (λv=>some v))) (λr=>∀z,has r.2 z↔has M0 z\/∃k∈e.kids,nA z k):=λM0 k hkk=>by
     refine CW (λi x=>∀z,has x z↔has M0 z\/∃(j:Nat) (k:Ex),j < i/\e.kids[j]?=some k/\nA z k) hk (λz=>by simp) (λi y x hy hI=>?_) (λx hI=>?_);have I5:=List.mem_of_getElem? hy;have:=P2 I5;simp only[CB,Mh];refine(ih y x (Lo y I5) (by omega)).mono λr hr=>?_;obtain⟨r1,r2⟩:=r;simp only[AB,C9] at hr ⊢;intro z;rw[hr z,hI z];constructor;rintro((h | ⟨j,k,hj,wW,hk2⟩) | h);exact .inl h;exact .inr ⟨j,k,by omega,wW,hk2⟩;exact .inr ⟨i,y,by omega,hy,h⟩;rintro(h | ⟨j,k,hj,wW,hk2⟩);exact .inl (.inl h);rcases Nat.lt_or_ge j i with h9 | h9
     exact .inl (.inr ⟨j,k,h9,wW,hk2⟩);have:j=i:=by omega
     subst this;rw[hy] at wW;cases wW;exact .inr hk2;rw[hkk,AB];intro z;rw[hI z];constructor;rintro(h | ⟨j,k,_,h1,h2⟩);exact .inl h;exact .inr ⟨k,List.mem_of_getElem? h1,h2⟩;rintro(h | ⟨k,h1,h2⟩);exact .inl h;obtain⟨i,hi⟩:=List.getElem?_of_mem h1;exact .inr ⟨i,k,(List.getElem?_eq_some_iff.1 hi).1,hi,h2⟩
   rw[BN,Gr,BB,Bd,DH];refine⟨λh=>(lp _ _ (λ_=>rfl)).mono λr hr z=>?_,λh=>(lp _ _ (λ_=>rfl)).mono λr hr z=>?_⟩;rw[hr z,oV,pA];grind;rw[hr z,pA];grind
def acO(e:Ex)(M:Mm Int Bool)(h:W6 e):Sp (J6 e M) (λr=>∀z,has r.2 z↔has M z\/nA z e):=by
 obtain⟨r,h1,h2⟩:=amD (JS e) e M h (Nat.le_refl _);exact⟨r,Ih (JS e) λn hn=>by rw[agu n (JS e) e M hn (Nat.le_refl _),h1],h2⟩
end V
end Mo
end Go.Proofs.YtnijkdknnmgoeaaGreat
namespace Go.Proofs.YtnijkdknnmgoeaaGreat
open AI Go
namespace Mo
namespace V
set_option maxRecDepth 100000
set_option maxHeartbeats 4000000
def Zf{α:Type}(p:Nat->α->Prop):List α->Nat->List Int
 | [],_=>[]
 | y::l,i=>open Classical in if p i y then ((i:Nat):Int)::Zf p l (i+1) else Zf p l (i+1)
def z7{α:Type}(p:Nat->α->Prop):∀(l m:List α) (i:Nat),Zf p (l++m) i=Zf p l i++Zf p m (i+l.length)
 | [],m,i=>rfl
 | y::l,m,i=>by
   rw[List.cons_append,Zf,Zf,z7 p l m (i+1),show i+1+l.length=i+(y::l).length by simp only[List.length_cons];omega];by_cases h:p i y;rw[if_pos h,if_pos h];rfl;rw[if_neg h,if_neg h]
def qV{α:Type}{p:Nat->α->Prop}{l:List α}{i:Nat}{y:α}(h:l[i]?=some y):(p i y->Zf p (l.take (i+1)) 0=Zf p (l.take i) 0++[((i:Nat):Int)])/\(¬p i y->Zf p (l.take (i+1)) 0=Zf p (l.take i) 0):=by
 have hi:=(List.getElem?_eq_some_iff.1 h).1;have h1:(l.take i).length=i:=by rw[List.length_take];omega
 rw[List.take_add_one,h,z7,h1,Nat.zero_add];simp only[Option.toList_some,Zf];exact⟨λhp=>by rw[if_pos hp],λhp=>by rw[if_neg hp,List.append_nil]⟩
def Xo{α:Type}(p:Nat->α->Prop):∀(l:List α) (i:Nat),(Zf p l i).length<=l.length
 | [],_=>Nat.le_refl _
 | y::l,i=>by
   have:=Xo p l (i+1);rw[Zf];by_cases h:p i y;rw[if_pos h];simp only[List.length_cons];omega;rw[if_neg h];simp only[List.length_cons];omega
def names(a:Ar)(z:Int):Prop:=(z∈a.un\/∃e∈a.wh,nA z e)\/nA z a.am
def U0(c:Co)(v:Int)(a:Ar)(i:Nat)(b:Ar):Prop:=names a b.number\/lN c ((i:Nat):Int) v
def aak(c:Co)(hc:iN c)(hn:c.Ap.length<=1000000)(v:Int)(a:Ar)(hv:Cn c.Ap v=some a):Ii c v=some (Zf (U0 c v a) c.Ap 0):=by
 obtain⟨hf,hl,ha,hao⟩:=hc;obtain⟨hw,hu,hwe,hae⟩:=hao a (List.mem_of_getElem? (P1 hv).2);rw[Ii,hv,Option.bind_some,MA];refine CW (λi m=>∀z,has m z↔∃(j:Nat) (y:Int),j < i/\a.un[j]?=some y/\z=y) hu (λz=>by simp[has,Mm.get_nil]) (λi y m hy hI=>?_) (λm hI=>?_);simp only[N0,AB,C9];intro z;rw[oV,hI z];constructor;rintro(⟨j,k,hj,hk,h⟩ | h);exact⟨j,k,by omega,hk,h⟩;exact⟨i,y,by omega,hy,h⟩;rintro⟨j,k,hj,hk,h⟩;rcases Nat.lt_or_ge j i with h9 | h9
 exact .inl ⟨j,k,h9,hk,h⟩;have:j=i:=by omega
 subst this;rw[hy] at hk;cases hk;exact .inr h
 have hm:∀z,has m z↔z∈a.un:=λz=>by
   rw[hI z];constructor;rintro⟨j,y,_,h1,rfl⟩;exact List.mem_of_getElem? h1;intro h;obtain⟨i,hi⟩:=List.getElem?_of_mem h;exact⟨i,z,(List.getElem?_eq_some_iff.1 hi).1,hi,rfl⟩
 clear hI;refine CW (λi x=>∀z,has x z↔z∈a.un\/∃(j:Nat) (e:Ex),j < i/\a.wh[j]?=some e/\nA z e) hw (λz=>by rw[hm z];simp) (λi y x hy hI=>?_) (λx hI=>?_);simp only[NM,Mh];refine(acO y x (hwe y (List.mem_of_getElem? hy))).mono λr hr=>?_;obtain⟨r1,r2⟩:=r;simp only[AB,C9] at hr ⊢;intro z;rw[hr z,hI z];constructor;rintro((h | ⟨j,k,hj,hk,h⟩) | h);exact .inl h;exact .inr ⟨j,k,by omega,hk,h⟩;exact .inr ⟨i,y,by omega,hy,h⟩;rintro(h | ⟨j,k,hj,hk,h⟩);exact .inl (.inl h);rcases Nat.lt_or_ge j i with h9 | h9
 exact .inl (.inr ⟨j,k,h9,hk,h⟩);have:j=i:=by omega
 subst this;rw[hy] at hk;cases hk;exact .inr h
 have hx:∀z,has x z↔z∈a.un\/∃e∈a.wh,nA z e:=λz=>by
   rw[hI z];constructor;rintro(h | ⟨j,k,_,hk,h⟩);exact .inl h;exact .inr ⟨k,List.mem_of_getElem? hk,h⟩;rintro(h | ⟨k,hk,h⟩);exact .inl h;obtain⟨i,hi⟩:=List.getElem?_of_mem hk;exact .inr ⟨i,k,(List.getElem?_eq_some_iff.1 hi).1,hi,h⟩
 rw[Mh];refine(acO a.am x hae).mono λr hr=>?_;obtain⟨r1,M⟩:=r;simp only at hr ⊢;have hM:∀z,has M z↔names a z:=λz=>by rw[hr z,hx z];rfl
 refine CW (λi x=>x=Zf (U0 c v a) (c.Ap.take i) 0) ha (by simp[Zf]) (λi b x hb hI=>?_) (λx hI=>?_);have hlen:=Xo (U0 c v a) (c.Ap.take i) 0;have h1:(c.Ap.take i).length<=i:=by rw[List.length_take];omega
 have hi:=(List.getElem?_eq_some_iff.1 hb).1;obtain⟨s1,s2⟩:=qV (p:=U0 c v a) hb;simp only[MM,p8 c ⟨hf,hl,ha,hao⟩,Option.bind_some,vZ,EC,DH];rw[D9 (by rw[hI];omega)];have hM':=hM b.number;unfold has at hM';rw[hM'];simp only[AB,C9,hI];exact⟨λh=>(s1 (.inl h)).symm,λh=>⟨λh2=>(s1 (.inr h2)).symm,λh2=>(s2 (λh3=>h3.elim h h2)).symm⟩⟩;rw[AB,hI,List.take_length]
def anj(c:Co):Prop:=c.facts.length<=40/\c.lines.length<=40/\c.Ap.length<=70/\∀a∈c.Ap,a.wh.length<=40/\a.un.length<=80/\JS a.am<=420/\∀e∈a.wh,JS e<=420
def aqF(c:Co)(hc:iN c):LK c=some (mb (anj c)):=by
 obtain⟨hf,hl,ha,hao⟩:=hc;rw[LK,RE];simp only[CC,Bd]
 rw[Dy (v:=false) (P:=λ_ a=>a.wh.length<=40/\a.un.length<=80/\JS a.am<=420/\∀e∈a.wh,JS e<=420) ha (λi a hi=>by
   obtain⟨hw,hu,hwe,hae⟩:=hao a (List.mem_of_getElem? hi)
   have e1:=λ(k:Unit->Option (Lp Unit Unit Bool))=>Dy (l:=a.wh) (body:=λi y x=>Nq 420 i y) (v:=false) (P:=λ_ e=>JS e<=420) (k:=k) (kr:=λv=>some (.rt v)) hw (λi e hi=>by
     simp only[Nq,nV e 420 (hwe e (List.mem_of_getElem? hi)) (by omega),Option.bind_some,Bd,NC];congr 2;apply propext;omega)
   simp only[P0,nV a.am 420 hae (by omega),Option.bind_some,CC,Bd,e1,GH,NC,YL,Xe];congr 2;apply propext;grind)]
 simp only[GH,EW,XT,Option.bind_some];refine Kp ?_;unfold anj;grind
end V
end Mo
end Go.Proofs.YtnijkdknnmgoeaaGreat
namespace Go.Proofs.YtnijkdknnmgoeaaGreat
open AI Go
namespace Mo
namespace V
set_option maxRecDepth 100000
set_option maxHeartbeats 4000000
def wM(c:Co)(i:Nat):List Int:=match c.Ap[i]? with
 | some a=>Zf (U0 c ((i:Nat):Int) a) c.Ap 0
 | none=>[]
def mY{α:Type}{p:Nat->α->Prop}{z:Int}:∀{l:List α} {i:Nat},z∈Zf p l i->∃(k:Nat) (y:α),z=((i+k:Nat):Int)/\l[k]?=some y/\p (i+k) y
 | [],_,h=>by cases h
 | y::l,i,h=>by
   rw[Zf] at h
   have tl:z∈Zf p l (i+1)->∃(k:Nat) (x:α),z=((i+k:Nat):Int)/\(y::l)[k]?=some x/\p (i+k) x:=λh=>by
     obtain⟨k,x,h1,h2,h3⟩:=mY h;exact⟨k+1,x,by rw[h1];congr 1;omega,by simpa using h2,by rw[show i+(k+1)=i+1+k by omega];exact h3⟩
   by_cases hp:p i y;rw[if_pos hp] at h;rcases List.mem_cons.1 h with rfl | h
   exact⟨0,y,rfl,rfl,hp⟩;exact tl h;rw[if_neg hp] at h;exact tl h
def aqM{c:Co}{i:Nat}{z:Int}(h:z∈wM c i):0<=z/\z < ((c.Ap.length:Nat):Int):=by
 unfold wM at h;split at h;obtain⟨k,y,h1,h2,_⟩:=mY h;have:=(List.getElem?_eq_some_iff.1 h2).1;omega;cases h
def anb(c:Co)(i:Nat):(wM c i).length<=c.Ap.length:=by
 unfold wM;split;exact Xo _ _ _;exact Nat.zero_le _
def ai0(c:Co)(hc:iN c)(hn:c.Ap.length<=1000000)(i:Nat)(hi:i < c.Ap.length):Ii c ((i:Nat):Int)=some (wM c i):=by
 have h1:c.Ap[i]?=some c.Ap[i]:=List.getElem?_eq_getElem hi;rw[aak c hc hn _ c.Ap[i] (by rw[N1,h1])];unfold wM;rw[h1]
def rdy(c:Co)(S:List Int)(i:Nat):Prop:=((i:Nat):Int)∉S/\∀z∈wM c i,z∈S
def first(c:Co)(S:List Int)(i:Nat):Prop:=i < c.Ap.length/\rdy c S i/\∀j,j < i->¬rdy c S j
def Uy(c:Co)(l:List Int):Prop:=∀(j:Nat) v,l[j]?=some v->∃i:Nat,v=((i:Nat):Int)/\first c (l.take j) i
def stuck(c:Co)(S:List Int):Prop:=∀i,i < c.Ap.length->¬rdy c S i
def Z9{c:Co}{l:List Int}{i:Nat}(h:Uy c l)(hi:first c l i):Uy c (l++[((i:Nat):Int)]):=by
 intro j v hj;rcases Nat.lt_or_ge j l.length with h1 | h1
 rw[List.getElem?_append_left h1] at hj;rw[List.take_append_of_le_length (Nat.le_of_lt h1)];exact h j v hj;rw[List.getElem?_append_right h1] at hj
 have h2:j - l.length=0:=by
   have:=(List.getElem?_eq_some_iff.1 hj).1;simp at this;omega
 rw[h2] at hj;simp at hj;have:j=l.length:=by omega
 subst this;rw[List.take_left'];exact⟨i,hj.symm,hi⟩;rfl
def acd(c:Co)(r:List Int×Bool):Prop:=(r.2=true/\r.1.length=c.Ap.length/\Uy c r.1)\/(r.2=false/\r.1=[]/\∃S:List Int,S.length < c.Ap.length/\stuck c S)
def ahB(c:Co)(hc:iN c)(hv:Qk c):Sp (Is c) (acd c):=by
 have hn:c.Ap.length<=60:=hv.2.2.1;rw[Is,Yh c hc,Option.bind_some,Bd,Ac hv];unfold rF;rw[if_pos (by omega)];refine CW (λi w=>w.length=c.Ap.length/\∀j,j < i->w[j]?=some (wM c j)) (by omega) ⟨by simp,λj hj=>by omega⟩ (λi a w hi hI=>?_) (λw hI=>?_);have IJ:=(List.getElem?_eq_some_iff.1 hi).1;obtain⟨x,hx⟩:∃x,w[i]?=some x:=⟨_,List.getElem?_eq_getElem (by rw[hI.1];exact IJ)⟩;simp only[MO,ai0 c hc (by omega) i IJ,hx,Option.bind_some,AB,C9];refine⟨by rw[List.length_set];exact hI.1,λj hj=>?_⟩;rw[List.getElem?_set];by_cases h:i=j;subst h;rw[if_pos rfl,if_pos (by rw[hI.1];exact IJ)];rw[if_neg h];exact hI.2 j (by omega);obtain⟨hw,hwd⟩:=hI;refine vK (λx=>x.1.length<=c.Ap.length/\Uy c x.1/\∀z,has x.2 z↔z∈x.1) (λx=>c.Ap.length - x.1.length) ⟨Nat.zero_le _,λj v h=>by simp at h,λz=>by simp[has,Mm.get_nil]⟩ (λx hI=>?_);obtain⟨ord,m⟩:=x;obtain⟨h1,h2,h3⟩:=hI;simp only at h1 h2 h3;simp only[Np,CC,Bd,DH,AB,XY];refine⟨λIJ=>?_,λwV=>.inl ⟨rfl,by simp only;omega,h2⟩⟩;refine CW (λi x=>x=-1/\∀j,j < i->¬rdy c ord j) (by omega) ⟨rfl,λj hj=>by omega⟩ (λi a x hi hI=>?_) (λx hI=>?_);have hil:=(List.getElem?_eq_some_iff.1 hi).1
 have hrd:JK ((i:Nat):Int) c.Ap.length w m=some (mb (∀z∈wM c i,z∈ord)):=by
   have hix:K5 c.Ap.length ((i:Nat):Int)=some i:=by unfold K5;rw[if_pos (by omega)];rfl
   have:=anb c i
   rw[JK,hix,Option.bind_some,hwd i (by omega),Option.bind_some,Dy (v:=false) (P:=λ_ z=>z∈ord) (by omega) (λj z _=>by
     have:=h3 z;unfold has at this;simp only[Lj,vZ,this,NC]),EW,GH]
 have h3i:=h3 ((i:Nat):Int);unfold has at h3i;simp only[Nk,hrd,Option.bind_some,vZ,h3i,EC,DH,AB,C9,XY]
 have snoc:∀y,¬rdy c ord i->y=-1->y=-1/\∀j,j < i+1->¬rdy c ord j:=λy iY hy=>⟨hy,λj hj=>by
   rcases Nat.lt_or_ge j i with h | h
   exact hI.2 j h;have:j=i:=by omega
   subst this;exact iY⟩
 refine⟨λhp=>snoc x (λh=>h.1 hp) hI.1,λhp=>⟨λhr=>?_,λhr=>snoc x (λh=>hr h.2) hI.1⟩⟩;have hf:first c ord i:=⟨hil,⟨hp,hr⟩,hI.2⟩
 refine⟨λh=>by omega,λ_=>?_⟩;rw[D9 (by omega),AB,C9];refine⟨⟨by simp only[List.length_append,List.length_cons,List.length_nil];omega,Z9 h2 hf,λz=>?_⟩,by simp only[List.length_append,List.length_cons,List.length_nil];omega⟩;rw[oV,h3 z];simp;simp only[DH,AB,Z3];exact⟨λh=>.inr ⟨rfl,rfl,ord,by omega,λi hi=>hI.2 i hi⟩,λh=>by have:=hI.1;omega⟩
def lX:∀(l S:List Int),l.Nodup->(∀z∈l,z∈S)->l.length<=S.length
 | [],_,_,_=>Nat.zero_le _
 | x::l,S,hn,h=>by
   have hx:=h x List.mem_cons_self;rw[List.nodup_cons] at hn;have:=lX l (S.erase x) hn.2 λz hz=>(List.mem_erase_of_ne (λe=>hn.1 (by rw[<- e];exact hz))).2 (h z (List.mem_cons_of_mem _ hz));rw[List.length_erase_of_mem hx] at this;have:=List.length_pos_of_mem hx;rw[List.length_cons];omega
def m8{c:Co}{l:List Int}(h:Uy c l):∀j,(l.take j).Nodup:=by
 intro j
 induction j with
 | zero=>simp
 | succ j ih =>
   rw[List.take_add_one];cases hj:l[j]? with
   | none=>simpa using ih
   | some v =>
     obtain⟨i,rfl,_,hr,_⟩:=h j v hj;simp only[Option.toList_some];rw[List.nodup_append]
     exact⟨ih,by simp,λa ha b hb=>by
       simp only[List.mem_singleton] at hb;subst hb;exact λe=>hr.1 (e▸ha)⟩
def afF{c:Co}{r r':List Int×Bool}(h:acd c r)(h':acd c r'):r=r':=by
 have no:∀(l S:List Int),l.length=c.Ap.length->Uy c l->S.length < c.Ap.length->stuck c S->False:=by
   intro l S hl hg hS HK;have hd:=m8 hg l.length;rw[List.take_length] at hd;have ats:¬∀z∈l,z∈S:=λh=>by have:=lX l S hd h;omega
   have key:∀j,∀z∈l.take j,z∈S:=by
     intro j
     induction j with
     | zero=>simp
     | succ j ih =>
       rw[List.take_add_one];intro z hz;rcases List.mem_append.1 hz with h1 | h1
       exact ih z h1;cases hj:l[j]? with
       | none=>rw[hj] at h1;simp at h1
       | some v =>
         rw[hj] at h1;simp only[Option.toList_some,List.mem_singleton] at h1;subst h1;obtain⟨i,rfl,hi,hr,_⟩:=hg j z hj;exact Classical.byContradiction λiY=>HK i hi ⟨iY,λy hy=>ih y (hr.2 y hy)⟩
   refine ats λz hz=>?_;have:=key l.length z;rw[List.take_length] at this;exact this hz
 obtain⟨l,ok⟩:=r;obtain⟨l',ok'⟩:=r';rcases h with ⟨h1,h2,h3⟩ | ⟨h1,h2,S,h3,h4⟩<;>rcases h' with ⟨k1,k2,k3⟩ | ⟨k1,k2,S',k3,k4⟩<;>simp only at h1 h2 k1 k2
 subst h1;subst k1;congr 1
 have key:∀j,l.take j=l'.take j:=by
   intro j
   induction j with
   | zero=>rfl
   | succ j ih =>
     rw[List.take_add_one,List.take_add_one,ih];congr 1;rcases Nat.lt_or_ge j c.Ap.length with IJ | wV
     have e1:l[j]?=some l[j]:=List.getElem?_eq_getElem (by omega);have e2:l'[j]?=some l'[j]:=List.getElem?_eq_getElem (by omega);obtain⟨i,S5,iG,hi3,hi4⟩:=h3 j _ e1;obtain⟨i',hj1,sG,hj3,hj4⟩:=k3 j _ e2;rw[ih] at hi3 hi4
     have:i=i':=by
       rcases Nat.lt_trichotomy i i' with h | h | h
       exact absurd hi3 (hj4 i h);exact h;exact absurd hj3 (hi4 i' h)
     rw[e1,e2,S5,hj1,this];rw[List.getElem?_eq_none (by omega),List.getElem?_eq_none (by omega)]
 have:=key c.Ap.length;rwa[List.take_of_length_le (by omega),List.take_of_length_le (by omega)] at this;exact(no l S' h2 h3 k3 k4).elim;exact(no l' S k2 k3 h3 h4).elim;subst h1;subst k1;subst h2;subst k2;rfl
end V
end Mo
end Go.Proofs.YtnijkdknnmgoeaaGreat
