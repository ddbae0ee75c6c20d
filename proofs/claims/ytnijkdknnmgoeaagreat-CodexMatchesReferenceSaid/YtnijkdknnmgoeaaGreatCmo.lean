/- Part of a proof: see the last text. -/
import Derived.Test.YtnijkdknnmgoeaaGreatCmn
set_option linter.unusedVariables false
set_option linter.unusedSimpArgs false
set_option linter.defProp false
noncomputable section
namespace Go.Proofs.YtnijkdknnmgoeaaGreat
open AI Go
namespace Mo
namespace V
set_option maxRecDepth 100000
set_option maxHeartbeats 4000000
def afv(c:Co)(num day kn:Int){i:Nat}{y:Ar}{x:Int}(h1:-1<=x)(h2:x < ((i:Nat):Int))(hi:i < c.Ap.length):∃z,Hh c num day kn i y x=some (.nx z)/\Hm c num day kn i y x=some (.nx z)/\-1<=z/\z < ((i+1:Nat):Int):=by
 rw[Hh,Hm];simp only[HM,Wh,oJ];by_cases k1:y.number=num;rotate_left;rw[Ab k1,Ab k1];exact⟨x,rfl,rfl,h1,by omega⟩;rw[Ac k1,Ac k1];by_cases k2:day < y.fr;rw[Ac k2,Ab (by omega)];exact⟨x,rfl,rfl,h1,by omega⟩;rw[Ab k2,Ac (p:=y.fr<=day) (by omega)];by_cases k3:y.to<=day;rw[Ac k3,Ab (by omega)];exact⟨x,rfl,rfl,h1,by omega⟩;rw[Ab k3,Ac (p:=day < y.to) (by omega)];by_cases k4:kn < y.known;rw[Ac k4,Ab (by omega)];exact⟨x,rfl,rfl,h1,by omega⟩;rw[Ab k4,Ac (p:=y.known<=kn) (by omega)];by_cases k5:x < 0;rw[Ac k5];exact⟨_,rfl,rfl,by omega,by omega⟩;rw[Ab k5];obtain⟨a,ha,_⟩:=L6 (l:=c.Ap) (z:=x) (by omega) (by omega);rw[ha];simp only[Option.bind_some];by_cases k6:a.known<=y.known;rw[Ac k6];exact⟨_,rfl,rfl,by omega,by omega⟩;rw[Ab k6];exact⟨x,rfl,rfl,h1,by omega⟩
def qZ(c:Co)(num day kn:Int):∀(m:List Ar) (i:Nat) (x:Int),c.Ap.drop i=m->-1<=x->x < ((i:Nat):Int)->∃z,Au (λi y x=>Hh c num day kn i y x) (λx=>x) m i x=(some (.inl z):Option (Int⊕(Int×Bool)))/\Au (λi y x=>Hm c num day kn i y x) (λx=>x) m i x=(some (.inl z):Option (Int⊕(Int×Bool)))/\-1<=z
 | [],i,x,_,h1,_=>⟨x,rfl,rfl,h1⟩
 | y::m,i,x,hd,h1,h2=>by
   have IJ:i < c.Ap.length:=by
     rcases Nat.lt_or_ge i c.Ap.length with h | h
     exact h;rw[List.drop_eq_nil_of_le h] at hd;cases hd
   have dM:c.Ap.drop (i+1)=m:=by rw[<- List.tail_drop,hd];rfl
   obtain⟨z,e1,e2,e3,e4⟩:=afv c num day kn (y:=y) h1 h2 IJ;rw[Au,Au,e1,e2];exact qZ c num day kn m (i+1) z dM e3 e4
def ab3(c:Co)(num day kn:Int)(hl:c.Ap.length<=9223372036854775807):∃z b,JH c num day kn=some (z,b)/\JI c num day kn=some (z,b):=by
 obtain⟨z,e1,e2,e3⟩:=qZ c num day kn c.Ap 0 (-1) rfl (by omega) (by omega);rw[JH,JI,EV hl,EV hl,List.drop_zero,e1,e2];show ∃w b,cond (C3 z 0) (some ((0:Int),false)) (some (z,true))=some (w,b)/\cond (Iy 0 z) (some ((sC z 0),true)) (some ((sC z 0),false))=some (w,b);rw[Wh,oJ];by_cases h:z < 0;rw[Ac h,Ab (by omega)];exact⟨_,_,rfl,by unfold sC;congr 2;split<;>omega⟩
 rw[Ab h,Ac (by omega)];exact⟨_,_,rfl,by unfold sC;congr 2;split<;>omega⟩
def ali(a b:Fn)(hs:a.ps.length<=9223372036854775807):FI a b=some (mb (a=b)):=by
 obtain⟨d,s⟩:=a;obtain⟨d',t⟩:=b;simp only at hs;rw[FI];simp only[BB,Bd];by_cases h:((s.length:Nat):Int)=((t.length:Nat):Int);have h':s.length=t.length:=by omega
 rw[Ac h,Dy (v:=false) (P:=λi x=>∀y,t[i]?=some y->x=y) hs (λi x hx=>by
   have:=(List.getElem?_eq_some_iff.1 hx).1;obtain⟨y,hy⟩:∃y,t[i]?=some y:=⟨_,List.getElem?_eq_getElem (by omega)⟩;simp only[H7,hy,Option.bind_some,mK,Bd,NC];congr 2;apply propext;exact⟨λe y' hy'=>by cases hy';exact e,λe=>e y rfl⟩),EW,Ek]
 refine Kp ?_;rw[show((⟨d,s⟩:Fn)=⟨d',t⟩)↔d=d'/\s=t by simp,Ru (l:=s)];exact⟨λ⟨h1,h2⟩=>⟨h1,h',λi x y h3 h4=>h2 i x h3 y h4⟩,λ⟨h1,h2⟩=>⟨h1,λi x h3 y h4=>h2.2 i x y h3 h4⟩⟩;rw[Ab h,UD];exact FE λe=>h (by cases e;rfl)
def agU:∀(m:Nat) (a b:Ex),W6 a->JS a<=m->F8 m a b=some (mb (a=b)):=by
 intro m
 induction m with
 | zero=>intro a b _ h;have:=Mi a;omega
 | succ m ih =>
   intro a b ha h;obtain⟨hp,hk,Lo⟩:=(PX a).1 ha;rw[F8,MT,ali _ _ hp];simp only[BB,B5,Bd,Option.bind_some];obtain⟨o,n,u,t,q⟩:=a;obtain⟨o',n',u',t',q'⟩:=b;simp only at hk Lo ⊢;by_cases h1:((q.length:Nat):Int)=((q'.length:Nat):Int);have h':q.length=q'.length:=by omega
   rw[Ac h1,Dy (v:=false) (P:=λi x=>∀y,q'[i]?=some y->x=y) hk (λi x hx=>by
     have:=(List.getElem?_eq_some_iff.1 hx).1;have hm:=List.mem_of_getElem? hx;have h3:=P2 (e:=⟨o,n,u,t,q⟩) hm;obtain⟨y,hy⟩:∃y,q'[i]?=some y:=⟨_,List.getElem?_eq_getElem (by omega)⟩;simp only[LO,hy,Option.bind_some,ih x y (Lo x hm) (by omega),Bd,NC];congr 2;apply propext;exact⟨λe y' hy'=>by cases hy';exact e,λe=>e y rfl⟩)]
   simp only[EW,Ek];refine Kp ?_
   have hq:(∀(i:Nat) (y:Ex),q[i]?=some y->∀(z:Ex),q'[i]?=some z->y=z)↔q=q':=by
     rw[Ru (l:=q)];exact⟨λh2=>⟨h',λi x y h3 h4=>h2 i x h3 y h4⟩,λh2 i x h3 y h4=>h2.2 i x y h3 h4⟩
   rw[hq];simp[and_assoc];rw[Ab h1];simp only[UD];exact FE λe=>h1 (by cases e;rfl)
def agX(a b:Ex)(ha:W6 a):K6 a b=some (mb (a=b)):=Ih (JS a) λm hm=>agU m a b ha hm
def fG(l k:List Ex)(hl:l.length<=9223372036854775807)(hk:k.length<=9223372036854775807)(hle:∀e∈l,W6 e):Hg l k=some (mb (∀e∈k,e∈l)):=by
 rw[Hg,Dy (v:=false) (P:=λ_ e=>e∈l) hk (λi e hi=>by
   rw[Kj,MA];refine CW (λj x=>x=mb (e∈l.take j)) hl (by rw[List.take_zero];exact(aP (by simp)).symm) (λj y x hy hI=>?_) (λx hI=>?_);rw[Km,hI,Bd,DH];refine⟨λh=>?_,λh=>?_⟩;rw[AB,XY,cond_true,AB];have:e∈l:=List.mem_of_mem_take h;rw[ck,Ac this];rw[hi,Option.bind_some,agX y e (hle y (List.mem_of_getElem? hy)),Option.bind_some,AB,C9,SK,List.take_add_one,hy];simp only[Option.toList_some,List.mem_append,List.mem_singleton];exact⟨λh=>.inr h.symm,λh2=>h2.elim (λh3=>absurd h3 h) λh3=>h3.symm⟩;rw[List.take_length] at hI;rw[hI,Bd,NC,AB]),EW,GH]
def uD(c:Co)(hc:iN c)(i j:Int):EX c i j=some (mb (lN c i j)):=by
 rw[<- p8 c hc i j,EX,En];cases hx:Cn c.Ap i with
 | none=>rfl
 | some x =>
   cases hy:Cn c.Ap j with
   | none=>rfl
   | some y =>
     obtain⟨hxw,_,hxe,_⟩:=hc.2.2.2 x (List.mem_of_getElem? (P1 hx).2);obtain⟨hyw,_,hye,_⟩:=hc.2.2.2 y (List.mem_of_getElem? (P1 hy).2);simp only[Option.bind_some];rw[fG _ _ hxw hyw hxe,fG _ _ hyw hxw hye,aaO _ _ hxw hyw hxe,aaO _ _ hyw hxw hye]
def anf(z:Int):∀(m:Nat) (e:Ex),W6 e->JS e<=m->EP m e z=some (mb (nA z e)):=by
 intro m
 induction m with
 | zero=>intro e _ h;have:=Mi e;omega
 | succ m ih =>
   intro e L8 hm;obtain⟨_,hk,Lo⟩:=(PX e).1 L8
   rw[EP,K0,Dy (v:=true) (P:=λ_ k=>¬nA z k) hk (λi y hy=>by
     have I5:=List.mem_of_getElem? hy;have:=P2 I5;simp only[E3,ih y (Lo y I5) (by omega),Option.bind_some,Bd,VD]),GH]
   simp only[BB,Bd,EW,Ek,oA]
   have hft:∀p:Prop,AM p (some false) (some true)=some (mb ¬p):=λp=>by
     by_cases h:p;rw[Ac h];exact FE λq=>q h;rw[Ab h];exact aqR h
   simp only[hft,Ek,oA,WU,VH];refine Kp ?_;rw[pA];grind
def adb(e:Ex)(z:Int)(h:W6 e):KZ e z=some (mb (nA z e)):=Ih (JS e) λn hn=>anf z n e h hn
def tL(c:Co)(hc:iN c)(v i:Int){x y:Ar}(hx:Cn c.Ap v=some x)(hy:Cn c.Ap i=some y):IM c v i=some (mb (names x y.number\/lN c i v)):=by
 obtain⟨hw,hu,hwe,hae⟩:=hc.2.2.2 x (List.mem_of_getElem? (P1 hx).2)
 have hft:∀p:Prop,AM p (some false) (some true)=some (mb ¬p):=λp=>by
   by_cases h:p;rw[Ac h];exact FE λq=>q h;rw[Ab h];exact aqR h
 rw[IM,hx,hy];simp only[Option.bind_some]
 rw[adb _ _ hae,Option.bind_some,uD c hc,Option.bind_some,Bd,Bd,Dy (v:=true) (P:=λ_ e=>¬nA y.number e) hw (λi e hi=>by
   simp only[Mb,adb e _ (hwe e (List.mem_of_getElem? hi)),Option.bind_some,Bd,VD]),Dy (v:=true) (P:=λ_ z=>¬z=y.number) hu (λi z _=>by
   simp only[Ma,BB,Bd,VD]),GH,GH]
 simp only[hft,Ek,oA,WU,VH];refine Kp ?_;unfold names;have h1:(¬∀e∈x.wh,¬nA y.number e)↔∃e∈x.wh,nA y.number e:=by simp
 have h2:(¬∀z∈x.un,¬z=y.number)↔y.number∈x.un:=by simp
 grind
def aef(c:Co)(hc:iN c)(hn:c.Ap.length<=1000000){v:Int}{a:Ar}(hv:Cn c.Ap v=some a)(k:List Int->Option (List Int))(hk:∀l,k l=some l):(ED c.Ap.length (Au (λi y x=>KJ c v i y x) (λx=>x) (c.Ap.drop 0) 0 [])).bind (Eu k (λv=>some v))=some (Zf (U0 c v a) c.Ap 0):=by
 rw[MA];refine CW (λi x=>x=Zf (U0 c v a) (c.Ap.take i) 0) (by omega) (by simp[Zf]) (λi b x hb hI=>?_) (λx hI=>?_);have hlen:=Xo (U0 c v a) (c.Ap.take i) 0;have h1:(c.Ap.take i).length<=i:=by rw[List.length_take];omega
 have hi:=(List.getElem?_eq_some_iff.1 hb).1;obtain⟨s1,s2⟩:=qV (p:=U0 c v a) hb;rw[KJ,tL c hc v _ hv (by rw[N1];exact hb),Option.bind_some,Bd,DH];rw[D9 (by rw[hI];omega),AB,AB,C9,C9,hI];exact⟨λh=>(s1 h).symm,λh=>(s2 h).symm⟩;rw[hk,AB,hI,List.take_length]
def vH(c:Co)(hc:iN c)(hn:c.Ap.length<=1000000)(v:Int):∃l,D1 c v=some l/\D0 c v=some l/\l.length<=1000000:=by
 rw[D1,D0,Yh c hc,Yz c hc];simp only[Wh,oJ,Option.bind_some,Bd];by_cases h1:v < 0;rw[Ac h1,Ac h1];exact⟨_,rfl,rfl,by simp⟩;rw[Ab h1,Ab h1];by_cases h2:((c.Ap.length:Nat):Int)<=v;rw[Ac h2,Ac h2];exact⟨_,rfl,rfl,by simp⟩;rw[Ab h2,Ab h2];by_cases hv:Qk c;rw[Ac hv,Ac hv];obtain⟨a,ha,_⟩:=L6 (l:=c.Ap) (z:=v) (by omega) (by omega);rw[aak c hc hn v a ha,aef c hc hn ha _ (λ_=>rfl)];exact⟨_,rfl,rfl,by have:=Xo (U0 c v a) c.Ap 0;omega⟩;rw[Ab hv,Ab hv];exact⟨_,rfl,rfl,by simp⟩
def acP{α:Type}{p:Nat->α->Prop}:∀{l:List α} {i k:Nat} {y:α},l[k]?=some y->p (i+k) y->((i+k:Nat):Int)∈Zf p l i
 | [],_,_,_,h,_=>by simp at h
 | a::l,i,0,y,h,hp=>by
   rw[List.getElem?_cons_zero] at h;cases h;rw[Zf,if_pos (by simpa using hp)];simp
 | a::l,i,k+1,y,h,hp=>by
   rw[List.getElem?_cons_succ] at h;have:=acP (i:=i+1) h (by rw[show i+1+k=i+(k+1) by omega];exact hp);rw[show i+1+k=i+(k+1) by omega] at this;rw[Zf];by_cases h1:p i a;rw[if_pos h1];exact List.mem_cons_of_mem _ this;rw[if_neg h1];exact this
def apR(c:Co)(j k:Nat)(r:List Bool):Prop:=r.length=k/\∀b,b < k->r[b]?=some (mb (((b:Nat):Int)∈wM c j))
def ahb{c:Co}{j b:Nat}{x y:Ar}(hx:c.Ap[j]?=some x)(hy:c.Ap[b]?=some y):(names x y.number\/lN c ((b:Nat):Int) ((j:Nat):Int))↔((b:Nat):Int)∈wM c j:=by
 unfold wM;rw[hx];constructor;intro h;have:=acP (p:=U0 c ((j:Nat):Int) x) (i:=0) hy (by rw[Nat.zero_add];exact h);rwa[Nat.zero_add] at this;intro h;obtain⟨k,y',h1,h2,h3⟩:=mY h;have:k=b:=by omega
 subst this;rw[hy] at h2;cases h2;rw[Nat.zero_add] at h3;exact h3
def afo(c:Co)(hc:iN c)(hv:Qk c):Sp (Ix c) (acd c):=by
 have hn:c.Ap.length<=60:=hv.2.2.1;rw[Ix,Yz c hc,Option.bind_some,Bd,Ac hv];unfold rF;rw[if_pos (by omega)];refine CW (λi w=>w.length=c.Ap.length/\(∀j,j < i->∃r,w[j]?=some (some r)/\apR c j c.Ap.length r)/\∀j,i<=j->j < c.Ap.length->w[j]?=some none) (by omega) ⟨by simp,λj hj=>by omega,λj _ hj=>by rw[List.getElem?_replicate,if_pos hj]⟩ (λi a w hi hI=>?_) (λw hI=>?_);have IJ:=(List.getElem?_eq_some_iff.1 hi).1;obtain⟨i1,i2,i3⟩:=hI;have asi:foc w i=some (w.take i,w.drop (i+1)):=by unfold foc;rw[i3 i (Nat.le_refl _) IJ]
 rw[NR,asi,Option.bind_some];simp only;refine CW (λk r=>apR c i k r) (by omega) ⟨rfl,λb hb=>by omega⟩ (λk b r hk hR=>?_) (λr hR=>?_);have Sl:=(List.getElem?_eq_some_iff.1 hk).1;have hix:K5 c.Ap.length ((i:Nat):Int)=some i:=by unfold K5;rw[if_pos (by omega)];rfl
 rw[Nc,hix,Option.bind_some,tL c hc _ _ (by rw[N1];exact hi) (by rw[N1];exact hk),Option.bind_some,D9 (by have:=hR.1;omega),AB,C9,CA (ahb hi hk)];refine⟨by rw[List.length_append,hR.1];rfl,λb hb=>?_⟩;rcases Nat.lt_or_ge b k with h | h
 rw[List.getElem?_append_left (by rw[hR.1];exact h)];exact hR.2 b h;have:b=k:=by omega
 subst this;rw[List.getElem?_append_right (by rw[hR.1];exact Nat.le_refl _),hR.1,Nat.sub_self];rfl;rw[AB,C9];have afQ:(w.take i).length=i:=by rw[List.length_take];omega
 refine⟨by rw[List.length_append,List.length_cons,List.length_drop,afQ];omega,λj hj=>?_,λj hj sG=>?_⟩;rcases Nat.lt_or_ge j i with h | h
 rw[List.getElem?_append_left (by omega),List.getElem?_take_of_lt h];exact i2 j h;have:j=i:=by omega
 subst this;rw[List.getElem?_append_right (by omega),afQ,Nat.sub_self];exact⟨r,rfl,hR⟩;rw[List.getElem?_append_right (by omega),afQ];obtain⟨d,hd⟩:∃d,j - i=d+1:=⟨j - i - 1,by omega⟩;rw[hd,List.getElem?_cons_succ,List.getElem?_drop,show i+1+d=j by omega];exact i3 j (by omega) sG
 . obtain⟨hw,hwd,_⟩:=hI
   refine vK (λx=>x.1.length<=c.Ap.length/\Uy c x.1/\x.2.length=c.Ap.length/\∀j,j < c.Ap.length->x.2[j]?=some (mb (((j:Nat):Int)∈x.1))) (λx=>c.Ap.length - x.1.length) ⟨Nat.zero_le _,λj v h=>by simp at h,by simp,λj hj=>by rw[List.getElem?_replicate,if_pos hj,aP (by simp)]⟩ (λx hI=>?_);obtain⟨ord,pl⟩:=x;obtain⟨h1,h2,h3,h4⟩:=hI;simp only at h1 h2 h3 h4;simp only[M7,CC,Bd,DH,AB,XY];refine⟨λIJ=>?_,λwV=>.inl ⟨rfl,by simp only;omega,h2⟩⟩
   have done:∀z:Int,((z=-1/\∀j,j < c.Ap.length->¬rdy c ord j)\/∃k:Nat,z=((k:Nat):Int)/\first c ord k)->Sp (AM (z < 0) (some (Lp.rt ([],false)):Option (Lp (List Int×List Bool) (List Int×List Bool) (List Int×Bool))) ((K5 c.Ap.length z).bind λk27=>(pl[k27]?).bind λ_=>JB (ord.length+1) (some (.nx ((ord++[z]),(pl.set k27 true)))))) (RQ (λx'=>(x'.1.length<=c.Ap.length/\Uy c x'.1/\x'.2.length=c.Ap.length/\∀j,j < c.Ap.length->x'.2[j]?=some (mb (((j:Nat):Int)∈x'.1)))/\c.Ap.length - x'.1.length < c.Ap.length - ord.length) (λd:List Int×List Bool=>acd c (d.1,true)) (λv=>acd c v)):=λz hz=>by
     rw[DH];refine⟨λh=>?_,λh=>?_⟩;rw[AB,Z3];rcases hz with ⟨_,hz⟩ | ⟨k,hk,_⟩
     exact .inr ⟨rfl,rfl,ord,by omega,λi hi=>hz i hi⟩;omega;rcases hz with ⟨hz,_⟩ | ⟨k,rfl,hf⟩
     omega;have hix:K5 c.Ap.length ((k:Nat):Int)=some k:=by unfold K5;rw[if_pos (by have:=hf.1;omega)];rfl
     rw[hix,Option.bind_some,h4 k hf.1,Option.bind_some,D9 (by omega),AB,C9];refine⟨⟨by simp only[List.length_append,List.length_cons,List.length_nil];omega,Z9 h2 hf,by rw[List.length_set];exact h3,λj hj=>?_⟩,by simp only[List.length_append,List.length_cons,List.length_nil];omega⟩;rw[List.getElem?_set];by_cases hjk:k=j;subst hjk;rw[if_pos rfl,if_pos (by omega),BE.2 (by simp)];rw[if_neg hjk,h4 j hj];refine Kp ?_;simp only[List.mem_append,List.mem_singleton];exact⟨.inl,λh=>h.elim id λh=>by omega⟩
   refine CW (λi x=>(x=-1/\∀j,j < i->¬rdy c ord j)\/∃k:Nat,x=((k:Nat):Int)/\first c ord k) (by omega) (.inl ⟨rfl,λj hj=>by omega⟩) (λi a x hi hI=>?_) (λx hI=>?_)
   . have hil:=(List.getElem?_eq_some_iff.1 hi).1
     rw[NI,CC,Bd,DH];refine⟨λhx=>?_,λhx=>?_⟩
     have hI:x=-1/\∀j,j < i->¬rdy c ord j:=by
       rcases hI with h | ⟨k,h,_⟩
       exact h;omega
     obtain⟨hI0,hI⟩:=hI
     have iY:¬rdy c ord i->(x=-1/\∀j,j < i+1->¬rdy c ord j)\/∃k:Nat,x=((k:Nat):Int)/\first c ord k:=λh=>by
       refine .inl ⟨hI0,λj hj=>?_⟩;rcases Nat.lt_or_ge j i with h5 | h5
       exact hI j h5;have:j=i:=by omega
       subst this;exact h
     rw[h4 i hil,Option.bind_some,Bd,DH];obtain⟨r,hr,hR⟩:=hwd i hil;refine⟨λhp=>?_,λhp=>?_⟩;refine CW (λ_ x=>x=false) (by omega) rfl (λk b y hk hy=>?_) (λy hy=>?_);rw[Gj,hy,cond_false,AB,XY,cond_false,AB,C9];exact iY (λq=>q.1 hp);rw[hy,cond_false,AB,C9];exact iY (λq=>q.1 hp);refine CW (λk y=>y=mb (∀b,b < k->((b:Nat):Int)∈wM c i->((b:Nat):Int)∈ord)) (by omega) ((BE.2 (λb hb=>by omega)).symm) (λk b y hk hy=>?_) (λy hy=>?_);have Sl:=(List.getElem?_eq_some_iff.1 hk).1;have hix:K5 c.Ap.length ((i:Nat):Int)=some i:=by unfold K5;rw[if_pos (by omega)];rfl
     rw[Gj,hy,Bd,DH];refine⟨λHP=>?_,λHP=>?_⟩;rw[h4 k Sl,Option.bind_some,Bd,hix,Option.bind_some,hr];simp only[Option.join_some,Option.bind_some];rw[hR.2 k Sl,Option.bind_some,Bd,DH]
     have more:(((k:Nat):Int)∈wM c i->((k:Nat):Int)∈ord)->∀b,b < k+1->((b:Nat):Int)∈wM c i->((b:Nat):Int)∈ord:=λh b hb hbn=>by
       rcases Nat.lt_or_ge b k with h5 | h5
       exact HP b h5 hbn;have:b=k:=by omega
       subst this;exact h hbn
     refine⟨λq=>?_,λq=>?_⟩;rw[AB,C9];exact(BE.2 (more λ_=>q)).symm;rw[DH];refine⟨λq2=>?_,λq2=>?_⟩;rw[AB,C9];exact(aP (λh=>q (h k (by omega) q2))).symm;rw[AB,C9];exact(BE.2 (more λh=>absurd h q2)).symm;rw[AB,XY,cond_false,AB,C9];refine iY (λq=>HP λb _ hb=>q.2 _ hb);rw[hy,Bd,DH,AB,AB,C9,C9];refine⟨λq=>.inr ⟨i,rfl,hil,⟨hp,λz hz=>?_⟩,hI⟩,λq=>iY (λq2=>q λb _ hb=>q2.2 _ hb)⟩;have hz2:=aqM hz;have:=q z.toNat (by omega);rw[show((z.toNat:Nat):Int)=z by omega] at this;exact this hz
     . rw[AB,XY]
       refine done x ?_;rcases hI with ⟨h,_⟩ | h
       omega;exact .inr h
   . exact done x hI
def vU(c:Co)(hc:iN c):∃l b,Is c=some (l,b)/\Ix c=some (l,b)/\l.length<=60:=by
 by_cases hv:Qk c;obtain⟨r,h1,h2⟩:=ahB c hc hv;obtain⟨r',h3,h4⟩:=afo c hc hv;have:r'=r:=afF h4 h2;subst this;have hn:c.Ap.length<=60:=hv.2.2.1;refine⟨r'.1,r'.2,h1,h3,?_⟩;rcases h2 with ⟨_,h,_⟩ | ⟨_,h,_⟩
 omega;rw[h];simp;refine⟨[],true,?_,?_,by simp⟩;rw[Is,Yh c hc,Option.bind_some,Bd,Ab hv];rw[Ix,Yz c hc,Option.bind_some,Bd,Ab hv]
end V
end Mo
end Go.Proofs.YtnijkdknnmgoeaaGreat
namespace Go.Proofs.YtnijkdknnmgoeaaGreat
open AI
def Aj(s:List UInt8):AV:=.sc (.string ⟨s.toArray⟩)
def al4(n:Nat):Bool:=(match Nat.ble 97 n with | true=>Nat.ble n 122 | false=>false)
def alP(n:Nat):Bool:=(match Nat.ble 65 n with | true=>Nat.ble n 90 | false=>false)
def aln(n:Nat):Bool:=(match Nat.ble 48 n with | true=>Nat.ble n 57 | false=>false)
def Rm(n:Nat):Bool:=(match al4 n with | true=>true | false=>(match alP n with | true=>true | false=>(match aln n with | true=>true | false=>Nat.beq n 95)))
def afe(n:Nat):Bool:=(match Nat.beq n 32 with | true=>true | false=>(match Nat.beq n 9 with | true=>true | false=>(match Nat.beq n 10 with | true=>true | false=>Nat.beq n 13)))
def ajG(lo up di wo wh:Nat)(f n:Nat)(s:AS):Option (CR×AS) :=
 match Nat.ble n 255 with
 | false=>none
 | true=>match Nat.beq f wo with
   | true=>some (.ret (.sc (.bool (Rm n))),s)
   | false=>match Nat.beq f lo with
     | true=>some (.ret (.sc (.bool (al4 n))),s)
     | false=>match Nat.beq f up with
       | true=>some (.ret (.sc (.bool (alP n))),s)
       | false=>match Nat.beq f di with
         | true=>some (.ret (.sc (.bool (aln n))),s)
         | false=>match Nat.beq f wh with
           | true=>some (.ret (.sc (.bool (afe n))),s)
           | false=>none
def amk(lo up di wo wh:Nat)(f:Nat)(s:AS):List AV->Option (CR×AS)
 | [.sc (.int .u8 (.ofNat n))]=>ajG lo up di wo wh f n s
 | _=>none
namespace Hd
def H:SS:=λ_ _=>none
def X0:Z5:=λ_ _ _=>none
def amX:rO Tryz.prog G (XP X0) H:=⟨mixed,(λ_ _ _ _ _ h=>by cases h),(λ_ _ _ _ _ h=>by cases h)⟩
def Xq(f:Nat)(p:Nat->Bool)(n:Nat):CH:=⟨f,[.sc (.int .u8 (.ofNat n))],none,.sc (.bool (p n))⟩
def RB(m f:Nat)(p:Nat->Bool)(k:Nat):Bool:=Nat.rec (motive:=λ_=>Bool) true (λn ih=>Bool.rec (motive:=λ_=>Bool) false ih (eJ (Xq f p n) (goR Tryz.prog G X0 H m (PV (Xq f p n))))) k
def adz{m f:Nat}{p:Nat->Bool}{k:Nat}(h:RB m f p k=true):∀n,n < k->eJ (Xq f p n) (goR Tryz.prog G X0 H m (PV (Xq f p n)))=true:=by
 induction k with
 | zero=>intro n hn;omega
 | succ k ih =>
   intro n hn;have hk:Bool.rec (motive:=λ_=>Bool) false (RB m f p k) (eJ (Xq f p k) (goR Tryz.prog G X0 H m (PV (Xq f p k))))=true:=h;cases hr:eJ (Xq f p k) (goR Tryz.prog G X0 H m (PV (Xq f p k))) with
   | false=>rw[hr] at hk;cases hk
   | true =>
     rw[hr] at hk;by_cases e:n=k;subst e;exact hr;exact ih hk n (by omega)
def X9{m f:Nat}{p:Nat->Bool}(h:RB m f p 256=true)(n:Nat)(hn:n < 256)(s:AS):Sound Tryz.prog G (.call f [.sc (.int .u8 (.ofNat n))] s (.ret (.sc (.bool (p n)))) s) :=
 aej (e:=Xq f p n) amX CY rfl (adz h n hn) s
def an7:RB 1000 141 al4 256=true:=by kernel_rfl
def anZ:RB 1000 148 alP 256=true:=by kernel_rfl
def anM:RB 1000 143 aln 256=true:=by kernel_rfl
def aiv:RB 1000 202 Rm 256=true:=by kernel_rfl
def adF:RB 1000 174 afe 256=true:=by kernel_rfl
def X(l:List CH):Z5:=λf args s=>match amk 141 148 143 202 174 f s args with
 | some r=>some r
 | none=>find f args s l
def ana{f:Nat}{args:List AV}{s s':AS}{r:CR}(h:amk 141 148 143 202 174 f s args=some (r,s')):Sound Tryz.prog G (.call f args s r s'):=by
 unfold amk at h;split at h;rename_i n;unfold ajG at h;split at h;cases h;rename_i hn;have hn':n < 256:=Nat.lt_succ_of_le (Nat.le_of_ble_eq_true hn);split at h;rename_i hf;cases h;rw[beq_true hf];exact X9 aiv n hn' _;split at h;rename_i hf;cases h;rw[beq_true hf];exact X9 an7 n hn' _;split at h;rename_i hf;cases h;rw[beq_true hf];exact X9 anZ n hn' _;split at h;rename_i hf;cases h;rw[beq_true hf];exact X9 anM n hn' _;split at h;rename_i hf;cases h;rw[beq_true hf];exact X9 adF n hn' _;cases h;cases h
def apd{l:List CH}(hl:∀e∈l,AE Tryz.prog G e):rO Tryz.prog G (XP (X l)) H:=by
 refine⟨mixed,λf args s r s' h=>?_,λ_ _ _ _ _ h=>by cases h⟩;have h':X l f args s=some (r,s'):=h;unfold X at h';split at h';rename_i q hq;cases h';exact ana hq;exact ai8 hl h'
def none:∀e∈([]:List CH),AE Tryz.prog G e:=λe he=>by cases he
def entry{e:CH}{l:List CH}{m:Nat}(hl:∀e∈l,AE Tryz.prog G e)(hp:eP e=true)(h:eJ e (goR Tryz.prog G (X l) H m (PV e))=true):AE Tryz.prog G e:=aej (apd hl) CY hp h
end Hd
end Go.Proofs.YtnijkdknnmgoeaaGreat
namespace Go.Proofs.YtnijkdknnmgoeaaGreat
open AI
set_option maxRecDepth 100000
set_option maxHeartbeats 4000000
def k0:AV:=Aj [102,97,99,116,32,97,32,58,32,110,117,109,98,101,114,59,32,108,105,110,101,32,108,32,58,32,69,85,82,32,101,97,114,110,59,32,97,114,116,105,99,108,101,32,49,32,102,111,114,32,108,32,114,97,110,107,32,48,32,102,114,111,109,32,50,48,50,52,45,48,49,45,48,49,32,107,110,111,119,110,32,50,48,50,52,45,48,49,45,48,49,32,123,32,119,104,101,110,32,97,32,33,61,32,51,59,32,97,109,111,117,110,116,32,69,85,82,32,49,46,48,48,32,42,32,97,59,32,125,32,97,114,116,105,99,108,101,32,50,32,102,111,114,32,108,32,114,97,110,107,32,48,32,102,114,111,109,32,50,48,50,52,45,48,49,45,48,49,32,116,111,32,50,48,50,53,45,48,49,45,48,49,32,107,110,111,119,110,32,50,48,50,52,45,48,49,45,48,49,32,123,32,119,104,101,110,32,119,101,101,107,100,97,121,32,61,61,32,49,59,32,119,104,101,110,32,97,32,33,61,32,51,59,32,97,109,111,117,110,116,32,97,114,116,32,51,59,32,125,32,97,114,116,105,99,108,101,32,51,32,102,111,114,32,108,32,114,97,110,107,32,48,32,102,114,111,109,32,50,48,50,52,45,48,49,45,48,49,32,107,110,111,119,110,32,50,48,50,52,45,48,50,45,48,49,32,123,32,117,110,108,101,115,115,32,49,59,32,97,109,111,117,110,116,32,69,85,82,32,48,46,48,48,59,32,125]
def k1:AV:=Aj [50,48,50,52,45,48,49,45,48,49]
def k2:AV:=Aj [119,101,101,107,100,97,121]
def k3:AV:=Aj [97,114,116,105,99,108,101]
def k4:AV:=Aj [50,48,50,53,45,48,49,45,48,49]
def k5:AV:=Aj [50,48,50,52,45,48,50,45,48,49]
def k6:AV:=.sl .lost 81 [(.sc (.int .i64 (.ofNat 1))),(Aj [102,97,99,116]),(.sc (.int .i64 (.ofNat 0))),(.sc (.int .i64 (.ofNat 1))),(Aj [97]),(.sc (.int .i64 (.ofNat 5))),(.sc (.int .i64 (.ofNat 6))),(Aj [58]),(.sc (.int .i64 (.ofNat 7))),(.sc (.int .i64 (.ofNat 1))),(Aj [110,117,109,98,101,114]),(.sc (.int .i64 (.ofNat 9))),(.sc (.int .i64 (.ofNat 6))),(Aj [59]),(.sc (.int .i64 (.ofNat 15))),(.sc (.int .i64 (.ofNat 1))),(Aj [108,105,110,101]),(.sc (.int .i64 (.ofNat 17))),(.sc (.int .i64 (.ofNat 1))),(Aj [108]),(.sc (.int .i64 (.ofNat 22))),(.sc (.int .i64 (.ofNat 6))),(Aj [58]),(.sc (.int .i64 (.ofNat 24))),(.sc (.int .i64 (.ofNat 2))),(Aj [69,85,82]),(.sc (.int .i64 (.ofNat 26))),(.sc (.int .i64 (.ofNat 1))),(Aj [101,97,114,110]),(.sc (.int .i64 (.ofNat 30))),(.sc (.int .i64 (.ofNat 6))),(Aj [59]),(.sc (.int .i64 (.ofNat 34))),(.sc (.int .i64 (.ofNat 1))),k3,(.sc (.int .i64 (.ofNat 36))),(.sc (.int .i64 (.ofNat 3))),(Aj [49]),(.sc (.int .i64 (.ofNat 44))),(.sc (.int .i64 (.ofNat 1))),(Aj [102,111,114]),(.sc (.int .i64 (.ofNat 46))),(.sc (.int .i64 (.ofNat 1))),(Aj [108]),(.sc (.int .i64 (.ofNat 50))),(.sc (.int .i64 (.ofNat 1))),(Aj [114,97,110,107]),(.sc (.int .i64 (.ofNat 52))),(.sc (.int .i64 (.ofNat 3))),(Aj [48]),(.sc (.int .i64 (.ofNat 57))),(.sc (.int .i64 (.ofNat 1))),(Aj [102,114,111,109]),(.sc (.int .i64 (.ofNat 59))),(.sc (.int .i64 (.ofNat 5))),k1,(.sc (.int .i64 (.ofNat 64))),(.sc (.int .i64 (.ofNat 1))),(Aj [107,110,111,119,110]),(.sc (.int .i64 (.ofNat 75))),(.sc (.int .i64 (.ofNat 5))),k1,(.sc (.int .i64 (.ofNat 81))),(.sc (.int .i64 (.ofNat 6))),(Aj [123]),(.sc (.int .i64 (.ofNat 92))),(.sc (.int .i64 (.ofNat 1))),(Aj [119,104,101,110]),(.sc (.int .i64 (.ofNat 94))),(.sc (.int .i64 (.ofNat 1))),(Aj [97]),(.sc (.int .i64 (.ofNat 99))),(.sc (.int .i64 (.ofNat 6))),(Aj [33,61]),(.sc (.int .i64 (.ofNat 101))),(.sc (.int .i64 (.ofNat 3))),(Aj [51]),(.sc (.int .i64 (.ofNat 104))),(.sc (.int .i64 (.ofNat 6))),(Aj [59]),(.sc (.int .i64 (.ofNat 105))),(.sc (.int .i64 (.ofNat 1))),(Aj [97,109,111,117,110,116]),(.sc (.int .i64 (.ofNat 107))),(.sc (.int .i64 (.ofNat 2))),(Aj [69,85,82]),(.sc (.int .i64 (.ofNat 114))),(.sc (.int .i64 (.ofNat 4))),(Aj [49,46,48,48]),(.sc (.int .i64 (.ofNat 118))),(.sc (.int .i64 (.ofNat 6))),(Aj [42]),(.sc (.int .i64 (.ofNat 123))),(.sc (.int .i64 (.ofNat 1))),(Aj [97]),(.sc (.int .i64 (.ofNat 125))),(.sc (.int .i64 (.ofNat 6))),(Aj [59]),(.sc (.int .i64 (.ofNat 126))),(.sc (.int .i64 (.ofNat 6))),(Aj [125]),(.sc (.int .i64 (.ofNat 128))),(.sc (.int .i64 (.ofNat 1))),k3,(.sc (.int .i64 (.ofNat 130))),(.sc (.int .i64 (.ofNat 3))),(Aj [50]),(.sc (.int .i64 (.ofNat 138))),(.sc (.int .i64 (.ofNat 1))),(Aj [102,111,114]),(.sc (.int .i64 (.ofNat 140))),(.sc (.int .i64 (.ofNat 1))),(Aj [108]),(.sc (.int .i64 (.ofNat 144))),(.sc (.int .i64 (.ofNat 1))),(Aj [114,97,110,107]),(.sc (.int .i64 (.ofNat 146))),(.sc (.int .i64 (.ofNat 3))),(Aj [48]),(.sc (.int .i64 (.ofNat 151))),(.sc (.int .i64 (.ofNat 1))),(Aj [102,114,111,109]),(.sc (.int .i64 (.ofNat 153))),(.sc (.int .i64 (.ofNat 5))),k1,(.sc (.int .i64 (.ofNat 158))),(.sc (.int .i64 (.ofNat 1))),(Aj [116,111]),(.sc (.int .i64 (.ofNat 169))),(.sc (.int .i64 (.ofNat 5))),k4,(.sc (.int .i64 (.ofNat 172))),(.sc (.int .i64 (.ofNat 1))),(Aj [107,110,111,119,110]),(.sc (.int .i64 (.ofNat 183))),(.sc (.int .i64 (.ofNat 5))),k1,(.sc (.int .i64 (.ofNat 189))),(.sc (.int .i64 (.ofNat 6))),(Aj [123]),(.sc (.int .i64 (.ofNat 200))),(.sc (.int .i64 (.ofNat 1))),(Aj [119,104,101,110]),(.sc (.int .i64 (.ofNat 202))),(.sc (.int .i64 (.ofNat 1))),k2,(.sc (.int .i64 (.ofNat 207))),(.sc (.int .i64 (.ofNat 6))),(Aj [61,61]),(.sc (.int .i64 (.ofNat 215))),(.sc (.int .i64 (.ofNat 3))),(Aj [49]),(.sc (.int .i64 (.ofNat 218))),(.sc (.int .i64 (.ofNat 6))),(Aj [59]),(.sc (.int .i64 (.ofNat 219))),(.sc (.int .i64 (.ofNat 1))),(Aj [119,104,101,110]),(.sc (.int .i64 (.ofNat 221))),(.sc (.int .i64 (.ofNat 1))),(Aj [97]),(.sc (.int .i64 (.ofNat 226))),(.sc (.int .i64 (.ofNat 6))),(Aj [33,61]),(.sc (.int .i64 (.ofNat 228))),(.sc (.int .i64 (.ofNat 3))),(Aj [51]),(.sc (.int .i64 (.ofNat 231))),(.sc (.int .i64 (.ofNat 6))),(Aj [59]),(.sc (.int .i64 (.ofNat 232))),(.sc (.int .i64 (.ofNat 1))),(Aj [97,109,111,117,110,116]),(.sc (.int .i64 (.ofNat 234))),(.sc (.int .i64 (.ofNat 1))),(Aj [97,114,116]),(.sc (.int .i64 (.ofNat 241))),(.sc (.int .i64 (.ofNat 3))),(Aj [51]),(.sc (.int .i64 (.ofNat 245))),(.sc (.int .i64 (.ofNat 6))),(Aj [59]),(.sc (.int .i64 (.ofNat 246))),(.sc (.int .i64 (.ofNat 6))),(Aj [125]),(.sc (.int .i64 (.ofNat 248))),(.sc (.int .i64 (.ofNat 1))),k3,(.sc (.int .i64 (.ofNat 250))),(.sc (.int .i64 (.ofNat 3))),(Aj [51]),(.sc (.int .i64 (.ofNat 258))),(.sc (.int .i64 (.ofNat 1))),(Aj [102,111,114]),(.sc (.int .i64 (.ofNat 260))),(.sc (.int .i64 (.ofNat 1))),(Aj [108]),(.sc (.int .i64 (.ofNat 264))),(.sc (.int .i64 (.ofNat 1))),(Aj [114,97,110,107]),(.sc (.int .i64 (.ofNat 266))),(.sc (.int .i64 (.ofNat 3))),(Aj [48]),(.sc (.int .i64 (.ofNat 271))),(.sc (.int .i64 (.ofNat 1))),(Aj [102,114,111,109]),(.sc (.int .i64 (.ofNat 273))),(.sc (.int .i64 (.ofNat 5))),k1,(.sc (.int .i64 (.ofNat 278))),(.sc (.int .i64 (.ofNat 1))),(Aj [107,110,111,119,110]),(.sc (.int .i64 (.ofNat 289))),(.sc (.int .i64 (.ofNat 5))),k5,(.sc (.int .i64 (.ofNat 295))),(.sc (.int .i64 (.ofNat 6))),(Aj [123]),(.sc (.int .i64 (.ofNat 306))),(.sc (.int .i64 (.ofNat 1))),(Aj [117,110,108,101,115,115]),(.sc (.int .i64 (.ofNat 308))),(.sc (.int .i64 (.ofNat 3))),(Aj [49]),(.sc (.int .i64 (.ofNat 315))),(.sc (.int .i64 (.ofNat 6))),(Aj [59]),(.sc (.int .i64 (.ofNat 316))),(.sc (.int .i64 (.ofNat 1))),(Aj [97,109,111,117,110,116]),(.sc (.int .i64 (.ofNat 318))),(.sc (.int .i64 (.ofNat 2))),(Aj [69,85,82]),(.sc (.int .i64 (.ofNat 325))),(.sc (.int .i64 (.ofNat 4))),(Aj [48,46,48,48]),(.sc (.int .i64 (.ofNat 329))),(.sc (.int .i64 (.ofNat 6))),(Aj [59]),(.sc (.int .i64 (.ofNat 333))),(.sc (.int .i64 (.ofNat 6))),(Aj [125]),(.sc (.int .i64 (.ofNat 335)))]
def e0:CH:=⟨152,[k0,(.sc (.int .i64 (.ofNat 0)))],none,(.Bj [(.agg [(.sc (.int .i64 (.ofNat 1))),(Aj [102,97,99,116]),(.sc (.int .i64 (.ofNat 0)))]),(.sc (.bool true))])⟩
def apl:AE Tryz.prog Hd.G e0:=Hd.entry (l:=[]) (m:=1000000) Hd.none (by kernel_rfl) (by kernel_rfl)
def e1:CH:=⟨152,[k0,(.sc (.int .i64 (.ofNat 15)))],none,(.Bj [(.agg [(.sc (.int .i64 (.ofNat 6))),(Aj [59]),(.sc (.int .i64 (.ofNat 15)))]),(.sc (.bool true))])⟩
def aqi:AE Tryz.prog Hd.G e1:=Hd.entry (l:=[]) (m:=1000000) Hd.none (by kernel_rfl) (by kernel_rfl)
def e2:CH:=⟨152,[k0,(.sc (.int .i64 (.ofNat 26)))],none,(.Bj [(.agg [(.sc (.int .i64 (.ofNat 2))),(Aj [69,85,82]),(.sc (.int .i64 (.ofNat 26)))]),(.sc (.bool true))])⟩
def arG:AE Tryz.prog Hd.G e2:=Hd.entry (l:=[]) (m:=1000000) Hd.none (by kernel_rfl) (by kernel_rfl)
def e3:CH:=⟨152,[k0,(.sc (.int .i64 (.ofNat 44)))],none,(.Bj [(.agg [(.sc (.int .i64 (.ofNat 3))),(Aj [49]),(.sc (.int .i64 (.ofNat 44)))]),(.sc (.bool true))])⟩
def apV:AE Tryz.prog Hd.G e3:=Hd.entry (l:=[]) (m:=1000000) Hd.none (by kernel_rfl) (by kernel_rfl)
def e4:CH:=⟨152,[k0,(.sc (.int .i64 (.ofNat 57)))],none,(.Bj [(.agg [(.sc (.int .i64 (.ofNat 3))),(Aj [48]),(.sc (.int .i64 (.ofNat 57)))]),(.sc (.bool true))])⟩
def aqp:AE Tryz.prog Hd.G e4:=Hd.entry (l:=[]) (m:=1000000) Hd.none (by kernel_rfl) (by kernel_rfl)
def e5:CH:=⟨152,[k0,(.sc (.int .i64 (.ofNat 81)))],none,(.Bj [(.agg [(.sc (.int .i64 (.ofNat 5))),k1,(.sc (.int .i64 (.ofNat 81)))]),(.sc (.bool true))])⟩
def apg:AE Tryz.prog Hd.G e5:=Hd.entry (l:=[]) (m:=1000000) Hd.none (by kernel_rfl) (by kernel_rfl)
def e6:CH:=⟨152,[k0,(.sc (.int .i64 (.ofNat 101)))],none,(.Bj [(.agg [(.sc (.int .i64 (.ofNat 6))),(Aj [33,61]),(.sc (.int .i64 (.ofNat 101)))]),(.sc (.bool true))])⟩
def arF:AE Tryz.prog Hd.G e6:=Hd.entry (l:=[]) (m:=1000000) Hd.none (by kernel_rfl) (by kernel_rfl)
def e7:CH:=⟨152,[k0,(.sc (.int .i64 (.ofNat 114)))],none,(.Bj [(.agg [(.sc (.int .i64 (.ofNat 2))),(Aj [69,85,82]),(.sc (.int .i64 (.ofNat 114)))]),(.sc (.bool true))])⟩
def apS:AE Tryz.prog Hd.G e7:=Hd.entry (l:=[]) (m:=1000000) Hd.none (by kernel_rfl) (by kernel_rfl)
def e8:CH:=⟨152,[k0,(.sc (.int .i64 (.ofNat 126)))],none,(.Bj [(.agg [(.sc (.int .i64 (.ofNat 6))),(Aj [59]),(.sc (.int .i64 (.ofNat 126)))]),(.sc (.bool true))])⟩
def apj:AE Tryz.prog Hd.G e8:=Hd.entry (l:=[]) (m:=1000000) Hd.none (by kernel_rfl) (by kernel_rfl)
def e9:CH:=⟨152,[k0,(.sc (.int .i64 (.ofNat 140)))],none,(.Bj [(.agg [(.sc (.int .i64 (.ofNat 1))),(Aj [102,111,114]),(.sc (.int .i64 (.ofNat 140)))]),(.sc (.bool true))])⟩
def aqV:AE Tryz.prog Hd.G e9:=Hd.entry (l:=[]) (m:=1000000) Hd.none (by kernel_rfl) (by kernel_rfl)
def e10:CH:=⟨152,[k0,(.sc (.int .i64 (.ofNat 153)))],none,(.Bj [(.agg [(.sc (.int .i64 (.ofNat 1))),(Aj [102,114,111,109]),(.sc (.int .i64 (.ofNat 153)))]),(.sc (.bool true))])⟩
def anW:AE Tryz.prog Hd.G e10:=Hd.entry (l:=[]) (m:=1000000) Hd.none (by kernel_rfl) (by kernel_rfl)
def e11:CH:=⟨152,[k0,(.sc (.int .i64 (.ofNat 183)))],none,(.Bj [(.agg [(.sc (.int .i64 (.ofNat 1))),(Aj [107,110,111,119,110]),(.sc (.int .i64 (.ofNat 183)))]),(.sc (.bool true))])⟩
def anh:AE Tryz.prog Hd.G e11:=Hd.entry (l:=[]) (m:=1000000) Hd.none (by kernel_rfl) (by kernel_rfl)
def e12:CH:=⟨152,[k0,(.sc (.int .i64 (.ofNat 207)))],none,(.Bj [(.agg [(.sc (.int .i64 (.ofNat 1))),k2,(.sc (.int .i64 (.ofNat 207)))]),(.sc (.bool true))])⟩
def alM:AE Tryz.prog Hd.G e12:=Hd.entry (l:=[]) (m:=1000000) Hd.none (by kernel_rfl) (by kernel_rfl)
def e13:CH:=⟨152,[k0,(.sc (.int .i64 (.ofNat 221)))],none,(.Bj [(.agg [(.sc (.int .i64 (.ofNat 1))),(Aj [119,104,101,110]),(.sc (.int .i64 (.ofNat 221)))]),(.sc (.bool true))])⟩
def amj:AE Tryz.prog Hd.G e13:=Hd.entry (l:=[]) (m:=1000000) Hd.none (by kernel_rfl) (by kernel_rfl)
def e14:CH:=⟨152,[k0,(.sc (.int .i64 (.ofNat 232)))],none,(.Bj [(.agg [(.sc (.int .i64 (.ofNat 6))),(Aj [59]),(.sc (.int .i64 (.ofNat 232)))]),(.sc (.bool true))])⟩
def al3:AE Tryz.prog Hd.G e14:=Hd.entry (l:=[]) (m:=1000000) Hd.none (by kernel_rfl) (by kernel_rfl)
def e15:CH:=⟨152,[k0,(.sc (.int .i64 (.ofNat 246)))],none,(.Bj [(.agg [(.sc (.int .i64 (.ofNat 6))),(Aj [59]),(.sc (.int .i64 (.ofNat 246)))]),(.sc (.bool true))])⟩
def anO:AE Tryz.prog Hd.G e15:=Hd.entry (l:=[]) (m:=1000000) Hd.none (by kernel_rfl) (by kernel_rfl)
def e16:CH:=⟨152,[k0,(.sc (.int .i64 (.ofNat 260)))],none,(.Bj [(.agg [(.sc (.int .i64 (.ofNat 1))),(Aj [102,111,114]),(.sc (.int .i64 (.ofNat 260)))]),(.sc (.bool true))])⟩
def aoI:AE Tryz.prog Hd.G e16:=Hd.entry (l:=[]) (m:=1000000) Hd.none (by kernel_rfl) (by kernel_rfl)
def e17:CH:=⟨152,[k0,(.sc (.int .i64 (.ofNat 273)))],none,(.Bj [(.agg [(.sc (.int .i64 (.ofNat 1))),(Aj [102,114,111,109]),(.sc (.int .i64 (.ofNat 273)))]),(.sc (.bool true))])⟩
def amg:AE Tryz.prog Hd.G e17:=Hd.entry (l:=[]) (m:=1000000) Hd.none (by kernel_rfl) (by kernel_rfl)
def e18:CH:=⟨152,[k0,(.sc (.int .i64 (.ofNat 306)))],none,(.Bj [(.agg [(.sc (.int .i64 (.ofNat 6))),(Aj [123]),(.sc (.int .i64 (.ofNat 306)))]),(.sc (.bool true))])⟩
def al9:AE Tryz.prog Hd.G e18:=Hd.entry (l:=[]) (m:=1000000) Hd.none (by kernel_rfl) (by kernel_rfl)
def e19:CH:=⟨152,[k0,(.sc (.int .i64 (.ofNat 318)))],none,(.Bj [(.agg [(.sc (.int .i64 (.ofNat 1))),(Aj [97,109,111,117,110,116]),(.sc (.int .i64 (.ofNat 318)))]),(.sc (.bool true))])⟩
def ant:AE Tryz.prog Hd.G e19:=Hd.entry (l:=[]) (m:=1000000) Hd.none (by kernel_rfl) (by kernel_rfl)
def e20:CH:=⟨152,[k0,(.sc (.int .i64 (.ofNat 335)))],none,(.Bj [(.agg [(.sc (.int .i64 (.ofNat 6))),(Aj [125]),(.sc (.int .i64 (.ofNat 335)))]),(.sc (.bool true))])⟩
def anx:AE Tryz.prog Hd.G e20:=Hd.entry (l:=[]) (m:=1000000) Hd.none (by kernel_rfl) (by kernel_rfl)
def e21:CH:=⟨152,[k0,(.sc (.int .i64 (.ofNat 5)))],none,(.Bj [(.agg [(.sc (.int .i64 (.ofNat 1))),(Aj [97]),(.sc (.int .i64 (.ofNat 5)))]),(.sc (.bool true))])⟩
def anR:AE Tryz.prog Hd.G e21:=Hd.entry (l:=[]) (m:=1000000) Hd.none (by kernel_rfl) (by kernel_rfl)
def e22:CH:=⟨152,[k0,(.sc (.int .i64 (.ofNat 17)))],none,(.Bj [(.agg [(.sc (.int .i64 (.ofNat 1))),(Aj [108,105,110,101]),(.sc (.int .i64 (.ofNat 17)))]),(.sc (.bool true))])⟩
def anS:AE Tryz.prog Hd.G e22:=Hd.entry (l:=[]) (m:=1000000) Hd.none (by kernel_rfl) (by kernel_rfl)
def e23:CH:=⟨152,[k0,(.sc (.int .i64 (.ofNat 30)))],none,(.Bj [(.agg [(.sc (.int .i64 (.ofNat 1))),(Aj [101,97,114,110]),(.sc (.int .i64 (.ofNat 30)))]),(.sc (.bool true))])⟩
def aoe:AE Tryz.prog Hd.G e23:=Hd.entry (l:=[]) (m:=1000000) Hd.none (by kernel_rfl) (by kernel_rfl)
def e24:CH:=⟨152,[k0,(.sc (.int .i64 (.ofNat 46)))],none,(.Bj [(.agg [(.sc (.int .i64 (.ofNat 1))),(Aj [102,111,114]),(.sc (.int .i64 (.ofNat 46)))]),(.sc (.bool true))])⟩
def al6:AE Tryz.prog Hd.G e24:=Hd.entry (l:=[]) (m:=1000000) Hd.none (by kernel_rfl) (by kernel_rfl)
def e25:CH:=⟨152,[k0,(.sc (.int .i64 (.ofNat 59)))],none,(.Bj [(.agg [(.sc (.int .i64 (.ofNat 1))),(Aj [102,114,111,109]),(.sc (.int .i64 (.ofNat 59)))]),(.sc (.bool true))])⟩
def aot:AE Tryz.prog Hd.G e25:=Hd.entry (l:=[]) (m:=1000000) Hd.none (by kernel_rfl) (by kernel_rfl)
def e26:CH:=⟨152,[k0,(.sc (.int .i64 (.ofNat 92)))],none,(.Bj [(.agg [(.sc (.int .i64 (.ofNat 6))),(Aj [123]),(.sc (.int .i64 (.ofNat 92)))]),(.sc (.bool true))])⟩
def alt:AE Tryz.prog Hd.G e26:=Hd.entry (l:=[]) (m:=1000000) Hd.none (by kernel_rfl) (by kernel_rfl)
def e27:CH:=⟨152,[k0,(.sc (.int .i64 (.ofNat 104)))],none,(.Bj [(.agg [(.sc (.int .i64 (.ofNat 3))),(Aj [51]),(.sc (.int .i64 (.ofNat 104)))]),(.sc (.bool true))])⟩
def am9:AE Tryz.prog Hd.G e27:=Hd.entry (l:=[]) (m:=1000000) Hd.none (by kernel_rfl) (by kernel_rfl)
def e28:CH:=⟨152,[k0,(.sc (.int .i64 (.ofNat 118)))],none,(.Bj [(.agg [(.sc (.int .i64 (.ofNat 4))),(Aj [49,46,48,48]),(.sc (.int .i64 (.ofNat 118)))]),(.sc (.bool true))])⟩
def aox:AE Tryz.prog Hd.G e28:=Hd.entry (l:=[]) (m:=1000000) Hd.none (by kernel_rfl) (by kernel_rfl)
def e29:CH:=⟨152,[k0,(.sc (.int .i64 (.ofNat 128)))],none,(.Bj [(.agg [(.sc (.int .i64 (.ofNat 6))),(Aj [125]),(.sc (.int .i64 (.ofNat 128)))]),(.sc (.bool true))])⟩
def akH:AE Tryz.prog Hd.G e29:=Hd.entry (l:=[]) (m:=1000000) Hd.none (by kernel_rfl) (by kernel_rfl)
def e30:CH:=⟨152,[k0,(.sc (.int .i64 (.ofNat 144)))],none,(.Bj [(.agg [(.sc (.int .i64 (.ofNat 1))),(Aj [108]),(.sc (.int .i64 (.ofNat 144)))]),(.sc (.bool true))])⟩
def anU:AE Tryz.prog Hd.G e30:=Hd.entry (l:=[]) (m:=1000000) Hd.none (by kernel_rfl) (by kernel_rfl)
def e31:CH:=⟨152,[k0,(.sc (.int .i64 (.ofNat 158)))],none,(.Bj [(.agg [(.sc (.int .i64 (.ofNat 5))),k1,(.sc (.int .i64 (.ofNat 158)))]),(.sc (.bool true))])⟩
def al0:AE Tryz.prog Hd.G e31:=Hd.entry (l:=[]) (m:=1000000) Hd.none (by kernel_rfl) (by kernel_rfl)
def e32:CH:=⟨152,[k0,(.sc (.int .i64 (.ofNat 189)))],none,(.Bj [(.agg [(.sc (.int .i64 (.ofNat 5))),k1,(.sc (.int .i64 (.ofNat 189)))]),(.sc (.bool true))])⟩
def aoE:AE Tryz.prog Hd.G e32:=Hd.entry (l:=[]) (m:=1000000) Hd.none (by kernel_rfl) (by kernel_rfl)
def e33:CH:=⟨152,[k0,(.sc (.int .i64 (.ofNat 215)))],none,(.Bj [(.agg [(.sc (.int .i64 (.ofNat 6))),(Aj [61,61]),(.sc (.int .i64 (.ofNat 215)))]),(.sc (.bool true))])⟩
def als:AE Tryz.prog Hd.G e33:=Hd.entry (l:=[]) (m:=1000000) Hd.none (by kernel_rfl) (by kernel_rfl)
def e34:CH:=⟨152,[k0,(.sc (.int .i64 (.ofNat 226)))],none,(.Bj [(.agg [(.sc (.int .i64 (.ofNat 1))),(Aj [97]),(.sc (.int .i64 (.ofNat 226)))]),(.sc (.bool true))])⟩
def am0:AE Tryz.prog Hd.G e34:=Hd.entry (l:=[]) (m:=1000000) Hd.none (by kernel_rfl) (by kernel_rfl)
def e35:CH:=⟨152,[k0,(.sc (.int .i64 (.ofNat 234)))],none,(.Bj [(.agg [(.sc (.int .i64 (.ofNat 1))),(Aj [97,109,111,117,110,116]),(.sc (.int .i64 (.ofNat 234)))]),(.sc (.bool true))])⟩
def alk:AE Tryz.prog Hd.G e35:=Hd.entry (l:=[]) (m:=1000000) Hd.none (by kernel_rfl) (by kernel_rfl)
def e36:CH:=⟨152,[k0,(.sc (.int .i64 (.ofNat 248)))],none,(.Bj [(.agg [(.sc (.int .i64 (.ofNat 6))),(Aj [125]),(.sc (.int .i64 (.ofNat 248)))]),(.sc (.bool true))])⟩
def al7:AE Tryz.prog Hd.G e36:=Hd.entry (l:=[]) (m:=1000000) Hd.none (by kernel_rfl) (by kernel_rfl)
def e37:CH:=⟨152,[k0,(.sc (.int .i64 (.ofNat 264)))],none,(.Bj [(.agg [(.sc (.int .i64 (.ofNat 1))),(Aj [108]),(.sc (.int .i64 (.ofNat 264)))]),(.sc (.bool true))])⟩
def amB:AE Tryz.prog Hd.G e37:=Hd.entry (l:=[]) (m:=1000000) Hd.none (by kernel_rfl) (by kernel_rfl)
def e38:CH:=⟨152,[k0,(.sc (.int .i64 (.ofNat 278)))],none,(.Bj [(.agg [(.sc (.int .i64 (.ofNat 5))),k1,(.sc (.int .i64 (.ofNat 278)))]),(.sc (.bool true))])⟩
def aoN:AE Tryz.prog Hd.G e38:=Hd.entry (l:=[]) (m:=1000000) Hd.none (by kernel_rfl) (by kernel_rfl)
def e39:CH:=⟨152,[k0,(.sc (.int .i64 (.ofNat 308)))],none,(.Bj [(.agg [(.sc (.int .i64 (.ofNat 1))),(Aj [117,110,108,101,115,115]),(.sc (.int .i64 (.ofNat 308)))]),(.sc (.bool true))])⟩
def amJ:AE Tryz.prog Hd.G e39:=Hd.entry (l:=[]) (m:=1000000) Hd.none (by kernel_rfl) (by kernel_rfl)
def e40:CH:=⟨152,[k0,(.sc (.int .i64 (.ofNat 325)))],none,(.Bj [(.agg [(.sc (.int .i64 (.ofNat 2))),(Aj [69,85,82]),(.sc (.int .i64 (.ofNat 325)))]),(.sc (.bool true))])⟩
def ak0:AE Tryz.prog Hd.G e40:=Hd.entry (l:=[]) (m:=1000000) Hd.none (by kernel_rfl) (by kernel_rfl)
def e41:CH:=⟨152,[k0,(.sc (.int .i64 (.ofNat 7)))],none,(.Bj [(.agg [(.sc (.int .i64 (.ofNat 6))),(Aj [58]),(.sc (.int .i64 (.ofNat 7)))]),(.sc (.bool true))])⟩
def amd:AE Tryz.prog Hd.G e41:=Hd.entry (l:=[]) (m:=1000000) Hd.none (by kernel_rfl) (by kernel_rfl)
def e42:CH:=⟨152,[k0,(.sc (.int .i64 (.ofNat 22)))],none,(.Bj [(.agg [(.sc (.int .i64 (.ofNat 1))),(Aj [108]),(.sc (.int .i64 (.ofNat 22)))]),(.sc (.bool true))])⟩
def aoL:AE Tryz.prog Hd.G e42:=Hd.entry (l:=[]) (m:=1000000) Hd.none (by kernel_rfl) (by kernel_rfl)
def e43:CH:=⟨152,[k0,(.sc (.int .i64 (.ofNat 34)))],none,(.Bj [(.agg [(.sc (.int .i64 (.ofNat 6))),(Aj [59]),(.sc (.int .i64 (.ofNat 34)))]),(.sc (.bool true))])⟩
def akZ:AE Tryz.prog Hd.G e43:=Hd.entry (l:=[]) (m:=1000000) Hd.none (by kernel_rfl) (by kernel_rfl)
def e44:CH:=⟨152,[k0,(.sc (.int .i64 (.ofNat 50)))],none,(.Bj [(.agg [(.sc (.int .i64 (.ofNat 1))),(Aj [108]),(.sc (.int .i64 (.ofNat 50)))]),(.sc (.bool true))])⟩
def aoh:AE Tryz.prog Hd.G e44:=Hd.entry (l:=[]) (m:=1000000) Hd.none (by kernel_rfl) (by kernel_rfl)
def e45:CH:=⟨152,[k0,(.sc (.int .i64 (.ofNat 64)))],none,(.Bj [(.agg [(.sc (.int .i64 (.ofNat 5))),k1,(.sc (.int .i64 (.ofNat 64)))]),(.sc (.bool true))])⟩
def akP:AE Tryz.prog Hd.G e45:=Hd.entry (l:=[]) (m:=1000000) Hd.none (by kernel_rfl) (by kernel_rfl)
def e46:CH:=⟨152,[k0,(.sc (.int .i64 (.ofNat 94)))],none,(.Bj [(.agg [(.sc (.int .i64 (.ofNat 1))),(Aj [119,104,101,110]),(.sc (.int .i64 (.ofNat 94)))]),(.sc (.bool true))])⟩
def aoy:AE Tryz.prog Hd.G e46:=Hd.entry (l:=[]) (m:=1000000) Hd.none (by kernel_rfl) (by kernel_rfl)
def e47:CH:=⟨152,[k0,(.sc (.int .i64 (.ofNat 105)))],none,(.Bj [(.agg [(.sc (.int .i64 (.ofNat 6))),(Aj [59]),(.sc (.int .i64 (.ofNat 105)))]),(.sc (.bool true))])⟩
def akQ:AE Tryz.prog Hd.G e47:=Hd.entry (l:=[]) (m:=1000000) Hd.none (by kernel_rfl) (by kernel_rfl)
def e48:CH:=⟨152,[k0,(.sc (.int .i64 (.ofNat 123)))],none,(.Bj [(.agg [(.sc (.int .i64 (.ofNat 6))),(Aj [42]),(.sc (.int .i64 (.ofNat 123)))]),(.sc (.bool true))])⟩
def an9:AE Tryz.prog Hd.G e48:=Hd.entry (l:=[]) (m:=1000000) Hd.none (by kernel_rfl) (by kernel_rfl)
def e49:CH:=⟨152,[k0,(.sc (.int .i64 (.ofNat 130)))],none,(.Bj [(.agg [(.sc (.int .i64 (.ofNat 1))),k3,(.sc (.int .i64 (.ofNat 130)))]),(.sc (.bool true))])⟩
def al8:AE Tryz.prog Hd.G e49:=Hd.entry (l:=[]) (m:=1000000) Hd.none (by kernel_rfl) (by kernel_rfl)
def e50:CH:=⟨152,[k0,(.sc (.int .i64 (.ofNat 146)))],none,(.Bj [(.agg [(.sc (.int .i64 (.ofNat 1))),(Aj [114,97,110,107]),(.sc (.int .i64 (.ofNat 146)))]),(.sc (.bool true))])⟩
def aoQ:AE Tryz.prog Hd.G e50:=Hd.entry (l:=[]) (m:=1000000) Hd.none (by kernel_rfl) (by kernel_rfl)
def e51:CH:=⟨152,[k0,(.sc (.int .i64 (.ofNat 169)))],none,(.Bj [(.agg [(.sc (.int .i64 (.ofNat 1))),(Aj [116,111]),(.sc (.int .i64 (.ofNat 169)))]),(.sc (.bool true))])⟩
def alI:AE Tryz.prog Hd.G e51:=Hd.entry (l:=[]) (m:=1000000) Hd.none (by kernel_rfl) (by kernel_rfl)
def e52:CH:=⟨152,[k0,(.sc (.int .i64 (.ofNat 200)))],none,(.Bj [(.agg [(.sc (.int .i64 (.ofNat 6))),(Aj [123]),(.sc (.int .i64 (.ofNat 200)))]),(.sc (.bool true))])⟩
def alh:AE Tryz.prog Hd.G e52:=Hd.entry (l:=[]) (m:=1000000) Hd.none (by kernel_rfl) (by kernel_rfl)
def e53:CH:=⟨152,[k0,(.sc (.int .i64 (.ofNat 218)))],none,(.Bj [(.agg [(.sc (.int .i64 (.ofNat 3))),(Aj [49]),(.sc (.int .i64 (.ofNat 218)))]),(.sc (.bool true))])⟩
def akX:AE Tryz.prog Hd.G e53:=Hd.entry (l:=[]) (m:=1000000) Hd.none (by kernel_rfl) (by kernel_rfl)
def e54:CH:=⟨152,[k0,(.sc (.int .i64 (.ofNat 228)))],none,(.Bj [(.agg [(.sc (.int .i64 (.ofNat 6))),(Aj [33,61]),(.sc (.int .i64 (.ofNat 228)))]),(.sc (.bool true))])⟩
def ano:AE Tryz.prog Hd.G e54:=Hd.entry (l:=[]) (m:=1000000) Hd.none (by kernel_rfl) (by kernel_rfl)
def e55:CH:=⟨152,[k0,(.sc (.int .i64 (.ofNat 241)))],none,(.Bj [(.agg [(.sc (.int .i64 (.ofNat 1))),(Aj [97,114,116]),(.sc (.int .i64 (.ofNat 241)))]),(.sc (.bool true))])⟩
def alJ:AE Tryz.prog Hd.G e55:=Hd.entry (l:=[]) (m:=1000000) Hd.none (by kernel_rfl) (by kernel_rfl)
def e56:CH:=⟨152,[k0,(.sc (.int .i64 (.ofNat 250)))],none,(.Bj [(.agg [(.sc (.int .i64 (.ofNat 1))),k3,(.sc (.int .i64 (.ofNat 250)))]),(.sc (.bool true))])⟩
def anB:AE Tryz.prog Hd.G e56:=Hd.entry (l:=[]) (m:=1000000) Hd.none (by kernel_rfl) (by kernel_rfl)
def e57:CH:=⟨152,[k0,(.sc (.int .i64 (.ofNat 266)))],none,(.Bj [(.agg [(.sc (.int .i64 (.ofNat 1))),(Aj [114,97,110,107]),(.sc (.int .i64 (.ofNat 266)))]),(.sc (.bool true))])⟩
def akR:AE Tryz.prog Hd.G e57:=Hd.entry (l:=[]) (m:=1000000) Hd.none (by kernel_rfl) (by kernel_rfl)
def e58:CH:=⟨152,[k0,(.sc (.int .i64 (.ofNat 289)))],none,(.Bj [(.agg [(.sc (.int .i64 (.ofNat 1))),(Aj [107,110,111,119,110]),(.sc (.int .i64 (.ofNat 289)))]),(.sc (.bool true))])⟩
def ak7:AE Tryz.prog Hd.G e58:=Hd.entry (l:=[]) (m:=1000000) Hd.none (by kernel_rfl) (by kernel_rfl)
def e59:CH:=⟨152,[k0,(.sc (.int .i64 (.ofNat 315)))],none,(.Bj [(.agg [(.sc (.int .i64 (.ofNat 3))),(Aj [49]),(.sc (.int .i64 (.ofNat 315)))]),(.sc (.bool true))])⟩
def alO:AE Tryz.prog Hd.G e59:=Hd.entry (l:=[]) (m:=1000000) Hd.none (by kernel_rfl) (by kernel_rfl)
def e60:CH:=⟨152,[k0,(.sc (.int .i64 (.ofNat 329)))],none,(.Bj [(.agg [(.sc (.int .i64 (.ofNat 4))),(Aj [48,46,48,48]),(.sc (.int .i64 (.ofNat 329)))]),(.sc (.bool true))])⟩
def ann:AE Tryz.prog Hd.G e60:=Hd.entry (l:=[]) (m:=1000000) Hd.none (by kernel_rfl) (by kernel_rfl)
def e61:CH:=⟨152,[k0,(.sc (.int .i64 (.ofNat 9)))],none,(.Bj [(.agg [(.sc (.int .i64 (.ofNat 1))),(Aj [110,117,109,98,101,114]),(.sc (.int .i64 (.ofNat 9)))]),(.sc (.bool true))])⟩
def an4:AE Tryz.prog Hd.G e61:=Hd.entry (l:=[]) (m:=1000000) Hd.none (by kernel_rfl) (by kernel_rfl)
def e62:CH:=⟨152,[k0,(.sc (.int .i64 (.ofNat 24)))],none,(.Bj [(.agg [(.sc (.int .i64 (.ofNat 6))),(Aj [58]),(.sc (.int .i64 (.ofNat 24)))]),(.sc (.bool true))])⟩
def aog:AE Tryz.prog Hd.G e62:=Hd.entry (l:=[]) (m:=1000000) Hd.none (by kernel_rfl) (by kernel_rfl)
def e63:CH:=⟨152,[k0,(.sc (.int .i64 (.ofNat 36)))],none,(.Bj [(.agg [(.sc (.int .i64 (.ofNat 1))),k3,(.sc (.int .i64 (.ofNat 36)))]),(.sc (.bool true))])⟩
def amG:AE Tryz.prog Hd.G e63:=Hd.entry (l:=[]) (m:=1000000) Hd.none (by kernel_rfl) (by kernel_rfl)
def e64:CH:=⟨152,[k0,(.sc (.int .i64 (.ofNat 52)))],none,(.Bj [(.agg [(.sc (.int .i64 (.ofNat 1))),(Aj [114,97,110,107]),(.sc (.int .i64 (.ofNat 52)))]),(.sc (.bool true))])⟩
def anA:AE Tryz.prog Hd.G e64:=Hd.entry (l:=[]) (m:=1000000) Hd.none (by kernel_rfl) (by kernel_rfl)
def e65:CH:=⟨152,[k0,(.sc (.int .i64 (.ofNat 75)))],none,(.Bj [(.agg [(.sc (.int .i64 (.ofNat 1))),(Aj [107,110,111,119,110]),(.sc (.int .i64 (.ofNat 75)))]),(.sc (.bool true))])⟩
def amK:AE Tryz.prog Hd.G e65:=Hd.entry (l:=[]) (m:=1000000) Hd.none (by kernel_rfl) (by kernel_rfl)
def e66:CH:=⟨152,[k0,(.sc (.int .i64 (.ofNat 99)))],none,(.Bj [(.agg [(.sc (.int .i64 (.ofNat 1))),(Aj [97]),(.sc (.int .i64 (.ofNat 99)))]),(.sc (.bool true))])⟩
def anu:AE Tryz.prog Hd.G e66:=Hd.entry (l:=[]) (m:=1000000) Hd.none (by kernel_rfl) (by kernel_rfl)
def e67:CH:=⟨152,[k0,(.sc (.int .i64 (.ofNat 107)))],none,(.Bj [(.agg [(.sc (.int .i64 (.ofNat 1))),(Aj [97,109,111,117,110,116]),(.sc (.int .i64 (.ofNat 107)))]),(.sc (.bool true))])⟩
def alF:AE Tryz.prog Hd.G e67:=Hd.entry (l:=[]) (m:=1000000) Hd.none (by kernel_rfl) (by kernel_rfl)
def e68:CH:=⟨152,[k0,(.sc (.int .i64 (.ofNat 125)))],none,(.Bj [(.agg [(.sc (.int .i64 (.ofNat 1))),(Aj [97]),(.sc (.int .i64 (.ofNat 125)))]),(.sc (.bool true))])⟩
def amu:AE Tryz.prog Hd.G e68:=Hd.entry (l:=[]) (m:=1000000) Hd.none (by kernel_rfl) (by kernel_rfl)
def e69:CH:=⟨152,[k0,(.sc (.int .i64 (.ofNat 138)))],none,(.Bj [(.agg [(.sc (.int .i64 (.ofNat 3))),(Aj [50]),(.sc (.int .i64 (.ofNat 138)))]),(.sc (.bool true))])⟩
def amn:AE Tryz.prog Hd.G e69:=Hd.entry (l:=[]) (m:=1000000) Hd.none (by kernel_rfl) (by kernel_rfl)
def e70:CH:=⟨152,[k0,(.sc (.int .i64 (.ofNat 151)))],none,(.Bj [(.agg [(.sc (.int .i64 (.ofNat 3))),(Aj [48]),(.sc (.int .i64 (.ofNat 151)))]),(.sc (.bool true))])⟩
def ak3:AE Tryz.prog Hd.G e70:=Hd.entry (l:=[]) (m:=1000000) Hd.none (by kernel_rfl) (by kernel_rfl)
def e71:CH:=⟨152,[k0,(.sc (.int .i64 (.ofNat 172)))],none,(.Bj [(.agg [(.sc (.int .i64 (.ofNat 5))),k4,(.sc (.int .i64 (.ofNat 172)))]),(.sc (.bool true))])⟩
def anm:AE Tryz.prog Hd.G e71:=Hd.entry (l:=[]) (m:=1000000) Hd.none (by kernel_rfl) (by kernel_rfl)
def e72:CH:=⟨152,[k0,(.sc (.int .i64 (.ofNat 202)))],none,(.Bj [(.agg [(.sc (.int .i64 (.ofNat 1))),(Aj [119,104,101,110]),(.sc (.int .i64 (.ofNat 202)))]),(.sc (.bool true))])⟩
def ak1:AE Tryz.prog Hd.G e72:=Hd.entry (l:=[]) (m:=1000000) Hd.none (by kernel_rfl) (by kernel_rfl)
def e73:CH:=⟨152,[k0,(.sc (.int .i64 (.ofNat 219)))],none,(.Bj [(.agg [(.sc (.int .i64 (.ofNat 6))),(Aj [59]),(.sc (.int .i64 (.ofNat 219)))]),(.sc (.bool true))])⟩
def am1:AE Tryz.prog Hd.G e73:=Hd.entry (l:=[]) (m:=1000000) Hd.none (by kernel_rfl) (by kernel_rfl)
def e74:CH:=⟨152,[k0,(.sc (.int .i64 (.ofNat 231)))],none,(.Bj [(.agg [(.sc (.int .i64 (.ofNat 3))),(Aj [51]),(.sc (.int .i64 (.ofNat 231)))]),(.sc (.bool true))])⟩
def alA:AE Tryz.prog Hd.G e74:=Hd.entry (l:=[]) (m:=1000000) Hd.none (by kernel_rfl) (by kernel_rfl)
def e75:CH:=⟨152,[k0,(.sc (.int .i64 (.ofNat 245)))],none,(.Bj [(.agg [(.sc (.int .i64 (.ofNat 3))),(Aj [51]),(.sc (.int .i64 (.ofNat 245)))]),(.sc (.bool true))])⟩
def alK:AE Tryz.prog Hd.G e75:=Hd.entry (l:=[]) (m:=1000000) Hd.none (by kernel_rfl) (by kernel_rfl)
def e76:CH:=⟨152,[k0,(.sc (.int .i64 (.ofNat 258)))],none,(.Bj [(.agg [(.sc (.int .i64 (.ofNat 3))),(Aj [51]),(.sc (.int .i64 (.ofNat 258)))]),(.sc (.bool true))])⟩
def alu:AE Tryz.prog Hd.G e76:=Hd.entry (l:=[]) (m:=1000000) Hd.none (by kernel_rfl) (by kernel_rfl)
def e77:CH:=⟨152,[k0,(.sc (.int .i64 (.ofNat 271)))],none,(.Bj [(.agg [(.sc (.int .i64 (.ofNat 3))),(Aj [48]),(.sc (.int .i64 (.ofNat 271)))]),(.sc (.bool true))])⟩
def aoP:AE Tryz.prog Hd.G e77:=Hd.entry (l:=[]) (m:=1000000) Hd.none (by kernel_rfl) (by kernel_rfl)
def e78:CH:=⟨152,[k0,(.sc (.int .i64 (.ofNat 295)))],none,(.Bj [(.agg [(.sc (.int .i64 (.ofNat 5))),k5,(.sc (.int .i64 (.ofNat 295)))]),(.sc (.bool true))])⟩
def aoM:AE Tryz.prog Hd.G e78:=Hd.entry (l:=[]) (m:=1000000) Hd.none (by kernel_rfl) (by kernel_rfl)
def e79:CH:=⟨152,[k0,(.sc (.int .i64 (.ofNat 316)))],none,(.Bj [(.agg [(.sc (.int .i64 (.ofNat 6))),(Aj [59]),(.sc (.int .i64 (.ofNat 316)))]),(.sc (.bool true))])⟩
def anF:AE Tryz.prog Hd.G e79:=Hd.entry (l:=[]) (m:=1000000) Hd.none (by kernel_rfl) (by kernel_rfl)
def e80:CH:=⟨152,[k0,(.sc (.int .i64 (.ofNat 333)))],none,(.Bj [(.agg [(.sc (.int .i64 (.ofNat 6))),(Aj [59]),(.sc (.int .i64 (.ofNat 333)))]),(.sc (.bool true))])⟩
def amo:AE Tryz.prog Hd.G e80:=Hd.entry (l:=[]) (m:=1000000) Hd.none (by kernel_rfl) (by kernel_rfl)
def e81:CH:=⟨115,[k0],none,(.Bj [k6,(.sc (.int .i64 (.ofNat 0))),(.sc (.int .i64 (.ofNat 0)))])⟩
def alz:AE Tryz.prog Hd.G e81:=Hd.entry (l:=[e0,e1,e2,e3,e4,e5,e6,e7,e8,e9,e10,e11,e12,e13,e14,e15,e16,e17,e18,e19,e20,e21,e22,e23,e24,e25,e26,e27,e28,e29,e30,e31,e32,e33,e34,e35,e36,e37,e38,e39,e40,e41,e42,e43,e44,e45,e46,e47,e48,e49,e50,e51,e52,e53,e54,e55,e56,e57,e58,e59,e60,e61,e62,e63,e64,e65,e66,e67,e68,e69,e70,e71,e72,e73,e74,e75,e76,e77,e78,e79,e80]) (m:=1000000) (Am.cons apl (Am.cons aqi (Am.cons arG (Am.cons apV (Am.cons aqp (Am.cons apg (Am.cons arF (Am.cons apS (Am.cons apj (Am.cons aqV (Am.cons anW (Am.cons anh (Am.cons alM (Am.cons amj (Am.cons al3 (Am.cons anO (Am.cons aoI (Am.cons amg (Am.cons al9 (Am.cons ant (Am.cons anx (Am.cons anR (Am.cons anS (Am.cons aoe (Am.cons al6 (Am.cons aot (Am.cons alt (Am.cons am9 (Am.cons aox (Am.cons akH (Am.cons anU (Am.cons al0 (Am.cons aoE (Am.cons als (Am.cons am0 (Am.cons alk (Am.cons al7 (Am.cons amB (Am.cons aoN (Am.cons amJ (Am.cons ak0 (Am.cons amd (Am.cons aoL (Am.cons akZ (Am.cons aoh (Am.cons akP (Am.cons aoy (Am.cons akQ (Am.cons an9 (Am.cons al8 (Am.cons aoQ (Am.cons alI (Am.cons alh (Am.cons akX (Am.cons ano (Am.cons alJ (Am.cons anB (Am.cons akR (Am.cons ak7 (Am.cons alO (Am.cons ann (Am.cons an4 (Am.cons aog (Am.cons amG (Am.cons anA (Am.cons amK (Am.cons anu (Am.cons alF (Am.cons amu (Am.cons amn (Am.cons ak3 (Am.cons anm (Am.cons ak1 (Am.cons am1 (Am.cons alA (Am.cons alK (Am.cons alu (Am.cons aoP (Am.cons aoM (Am.cons anF (Am.cons amo Hd.none))))))))))))))))))))))))))))))))))))))))))))))))))))))))))))))))))))))))))))))))) (by kernel_rfl) (by kernel_rfl)
end Go.Proofs.YtnijkdknnmgoeaaGreat
namespace Go.Proofs.YtnijkdknnmgoeaaGreat
open AI
set_option maxRecDepth 100000
set_option maxHeartbeats 4000000
def k7:AV:=Aj [109,105,110,117,116,101,115]
def k8:AV:=Aj [103,114,101,97,116,101,115,116]
def k9:AV:=.sl .full 33 [(Aj [102,97,99,116]),(Aj [108,105,110,101]),k3,(Aj [102,111,114]),(Aj [114,97,110,107]),(Aj [102,114,111,109]),(Aj [116,111]),(Aj [107,110,111,119,110]),(Aj [119,104,101,110]),(Aj [117,110,108,101,115,115]),(Aj [97,109,111,117,110,116]),(Aj [116,114,117,116,104]),(Aj [110,117,109,98,101,114]),k7,(Aj [109,105,110]),(Aj [101,97,114,110]),(Aj [100,101,100,117,99,116]),(Aj [102,108,111,111,114]),(Aj [105,110,102,111]),(Aj [111,114]),(Aj [97,110,100]),(Aj [110,111,116]),(Aj [97,116]),(Aj [116,114,117,101]),(Aj [102,97,108,115,101]),(Aj [97,114,116]),k2,(Aj [100,97,121]),(Aj [109,111,110,116,104]),(Aj [121,101,97,114]),(Aj [108,101,97,115,116]),k8,(Aj [116,97,98,108,101])]
def k10:AV:=.sl .full 2 [(.sc (.int .i64 (.ofNat 12))),(Aj [97]),(Aj []),(.sc (.int .i64 (.ofNat 0))),(.sc (.int .i64 (.ofNat 0))),(.sc (.int .i64 (.ofNat 0))),(.sc (.int .i64 (.ofNat 0))),(.sc (.int .i64 (.ofNat 0))),(.sl .full 0 []),(.sl .full 0 []),(.sc (.int .i64 (.ofNat 99))),(.sc (.int .i64 (.ofNat 11))),(Aj []),(Aj [110,117,109,98,101,114]),(.sc (.int .i64 (.ofNat 3))),(.sc (.int .i64 (.ofNat 0))),(.sc (.int .i64 (.ofNat 0))),(.sc (.int .i64 (.ofNat 0))),(.sc (.int .i64 (.ofNat 0))),(.sl .full 0 []),(.sl .full 0 []),(.sc (.int .i64 (.ofNat 104)))]
def k11:AV:=.sl .full 2 [(.sc (.int .i64 (.ofNat 11))),(Aj []),(Aj [69,85,82]),(.sc (.int .i64 (.ofNat 100))),(.sc (.int .i64 (.ofNat 0))),(.sc (.int .i64 (.ofNat 0))),(.sc (.int .i64 (.ofNat 0))),(.sc (.int .i64 (.ofNat 0))),(.sl .full 0 []),(.sl .full 0 []),(.sc (.int .i64 (.ofNat 114))),(.sc (.int .i64 (.ofNat 12))),(Aj [97]),(Aj []),(.sc (.int .i64 (.ofNat 0))),(.sc (.int .i64 (.ofNat 0))),(.sc (.int .i64 (.ofNat 0))),(.sc (.int .i64 (.ofNat 0))),(.sc (.int .i64 (.ofNat 0))),(.sl .full 0 []),(.sl .full 0 []),(.sc (.int .i64 (.ofNat 125)))]
def k12:AV:=.sl .full 1 [(.sc (.int .i64 (.ofNat 16))),(Aj [33,61]),(Aj []),(.sc (.int .i64 (.ofNat 0))),(.sc (.int .i64 (.ofNat 0))),(.sc (.int .i64 (.ofNat 0))),(.sc (.int .i64 (.ofNat 0))),(.sc (.int .i64 (.ofNat 0))),(.sl .full 0 []),k10,(.sc (.int .i64 (.ofNat 99)))]
def k13:AV:=.sl .full 1 [(.sc (.int .i64 (.ofNat 16))),(Aj [42]),(Aj []),(.sc (.int .i64 (.ofNat 0))),(.sc (.int .i64 (.ofNat 0))),(.sc (.int .i64 (.ofNat 0))),(.sc (.int .i64 (.ofNat 0))),(.sc (.int .i64 (.ofNat 0))),(.sl .full 0 []),k11,(.sc (.int .i64 (.ofNat 114)))]
def k14:AV:=.sl .lost 2 [(.sc (.int .i64 (.ofNat 6))),(Aj []),(Aj []),(.sc (.int .i64 (.ofNat 0))),(.sc (.int .i64 (.ofNat 0))),(.sc (.int .i64 (.ofNat 0))),(.sc (.int .i64 (.ofNat 0))),(.sc (.int .i64 (.ofNat 0))),(.sl .full 0 []),k12,(.sc (.int .i64 (.ofNat 94))),(.sc (.int .i64 (.ofNat 8))),(Aj []),(Aj []),(.sc (.int .i64 (.ofNat 0))),(.sc (.int .i64 (.ofNat 0))),(.sc (.int .i64 (.ofNat 0))),(.sc (.int .i64 (.ofNat 0))),(.sc (.int .i64 (.ofNat 0))),(.sl .full 0 []),k13,(.sc (.int .i64 (.ofNat 107)))]
def k15:AV:=.sl .lost 3 [(.sc (.int .i64 (.ofNat 5))),(Aj []),(Aj []),(.sc (.int .i64 (.ofNat 0))),(.sc (.int .i64 (.ofNat 8766))),(.sc (.int .i64 (.ofNat 36525))),(.sc (.int .i64 (.ofNat 8766))),(.sc (.int .i64 (.ofNat 0))),(.sl .full 0 []),(.sl .full 0 []),(.sc (.int .i64 (.ofNat 52))),(.sc (.int .i64 (.ofNat 6))),(Aj []),(Aj []),(.sc (.int .i64 (.ofNat 0))),(.sc (.int .i64 (.ofNat 0))),(.sc (.int .i64 (.ofNat 0))),(.sc (.int .i64 (.ofNat 0))),(.sc (.int .i64 (.ofNat 0))),(.sl .full 0 []),k12,(.sc (.int .i64 (.ofNat 94))),(.sc (.int .i64 (.ofNat 8))),(Aj []),(Aj []),(.sc (.int .i64 (.ofNat 0))),(.sc (.int .i64 (.ofNat 0))),(.sc (.int .i64 (.ofNat 0))),(.sc (.int .i64 (.ofNat 0))),(.sc (.int .i64 (.ofNat 0))),(.sl .full 0 []),k13,(.sc (.int .i64 (.ofNat 107)))]
def vX:CH:=⟨104,[k9,(Aj [97])],none,(.sc (.bool false))⟩
def Nf:AE Tryz.prog Hd.G vX:=Hd.entry (l:=[]) (m:=1000000) Hd.none (by kernel_rfl) (by kernel_rfl)
def e83:CH:=⟨117,[],(some ([k6,(.sc (.int .i64 (.ofNat 0))),(.sc (.int .i64 (.ofNat 336))),(.sc (.int .i64 (.ofNat 0))),(.sc (.int .i64 (.ofNat 0)))],[k6,(.sc (.int .i64 (.ofNat 5))),(.sc (.int .i64 (.ofNat 336))),(.sc (.int .i64 (.ofNat 0))),(.sc (.int .i64 (.ofNat 0)))])),(.agg [(.sc (.int .i64 (.ofNat 2))),(Aj [97]),(Aj [110,117,109,98,101,114]),(.sc (.int .i64 (.ofNat 0))),(.sc (.int .i64 (.ofNat 0))),(.sc (.int .i64 (.ofNat 0))),(.sc (.int .i64 (.ofNat 0))),(.sc (.int .i64 (.ofNat 0))),(.sl .full 0 []),(.sl .full 0 []),(.sc (.int .i64 (.ofNat 0)))])⟩
def ans:AE Tryz.prog Hd.G e83:=Hd.entry (l:=[vX]) (m:=1000000) (Am.cons Nf Hd.none) (by kernel_rfl) (by kernel_rfl)
def e84:CH:=⟨104,[k9,(Aj [108])],none,(.sc (.bool false))⟩
def Of:AE Tryz.prog Hd.G e84:=Hd.entry (l:=[]) (m:=1000000) Hd.none (by kernel_rfl) (by kernel_rfl)
def e85:CH:=⟨117,[],(some ([k6,(.sc (.int .i64 (.ofNat 5))),(.sc (.int .i64 (.ofNat 336))),(.sc (.int .i64 (.ofNat 0))),(.sc (.int .i64 (.ofNat 0)))],[k6,(.sc (.int .i64 (.ofNat 11))),(.sc (.int .i64 (.ofNat 336))),(.sc (.int .i64 (.ofNat 0))),(.sc (.int .i64 (.ofNat 0)))])),(.agg [(.sc (.int .i64 (.ofNat 3))),(Aj [108]),(Aj [69,85,82]),(.sc (.int .i64 (.ofNat 1))),(.sc (.int .i64 (.ofNat 0))),(.sc (.int .i64 (.ofNat 0))),(.sc (.int .i64 (.ofNat 0))),(.sc (.int .i64 (.ofNat 0))),(.sl .full 0 []),(.sl .full 0 []),(.sc (.int .i64 (.ofNat 17)))])⟩
def aoO:AE Tryz.prog Hd.G e85:=Hd.entry (l:=[vX,e84]) (m:=1000000) (Am.cons Nf (Am.cons Of Hd.none)) (by kernel_rfl) (by kernel_rfl)
def e86:CH:=⟨199,[k1],none,(.Bj [(.sc (.int .i64 (.ofNat 8766))),(.sc (.int .i64 (.ofNat 0)))])⟩
def Tb:AE Tryz.prog Hd.G e86:=Hd.entry (l:=[]) (m:=1000000) Hd.none (by kernel_rfl) (by kernel_rfl)
def e87:CH:=⟨159,[],(some ([k6,(.sc (.int .i64 (.ofNat 15))),(.sc (.int .i64 (.ofNat 336))),(.sc (.int .i64 (.ofNat 0))),(.sc (.int .i64 (.ofNat 0)))],[k6,(.sc (.int .i64 (.ofNat 21))),(.sc (.int .i64 (.ofNat 336))),(.sc (.int .i64 (.ofNat 0))),(.sc (.int .i64 (.ofNat 0)))])),(.agg [(.sc (.int .i64 (.ofNat 5))),(Aj []),(Aj []),(.sc (.int .i64 (.ofNat 0))),(.sc (.int .i64 (.ofNat 8766))),(.sc (.int .i64 (.ofNat 36525))),(.sc (.int .i64 (.ofNat 8766))),(.sc (.int .i64 (.ofNat 0))),(.sl .full 0 []),(.sl .full 0 []),(.sc (.int .i64 (.ofNat 52)))])⟩
def xI:AE Tryz.prog Hd.G e87:=Hd.entry (l:=[e86]) (m:=1000000) (Am.cons Tb Hd.none) (by kernel_rfl) (by kernel_rfl)
def e88:CH:=⟨187,[],(some ([k6,(.sc (.int .i64 (.ofNat 23))),(.sc (.int .i64 (.ofNat 336))),(.sc (.int .i64 (.ofNat 0))),(.sc (.int .i64 (.ofNat 0)))],[k6,(.sc (.int .i64 (.ofNat 26))),(.sc (.int .i64 (.ofNat 336))),(.sc (.int .i64 (.ofNat 0))),(.sc (.int .i64 (.ofNat 0)))])),(.agg [(.sc (.int .i64 (.ofNat 16))),(Aj [33,61]),(Aj []),(.sc (.int .i64 (.ofNat 0))),(.sc (.int .i64 (.ofNat 0))),(.sc (.int .i64 (.ofNat 0))),(.sc (.int .i64 (.ofNat 0))),(.sc (.int .i64 (.ofNat 0))),(.sl .full 0 []),k10,(.sc (.int .i64 (.ofNat 99)))])⟩
def yA:AE Tryz.prog Hd.G e88:=Hd.entry (l:=[vX,e84]) (m:=1000000) (Am.cons Nf (Am.cons Of Hd.none)) (by kernel_rfl) (by kernel_rfl)
def e89:CH:=⟨187,[],(some ([k6,(.sc (.int .i64 (.ofNat 28))),(.sc (.int .i64 (.ofNat 336))),(.sc (.int .i64 (.ofNat 0))),(.sc (.int .i64 (.ofNat 0)))],[k6,(.sc (.int .i64 (.ofNat 32))),(.sc (.int .i64 (.ofNat 336))),(.sc (.int .i64 (.ofNat 0))),(.sc (.int .i64 (.ofNat 0)))])),(.agg [(.sc (.int .i64 (.ofNat 16))),(Aj [42]),(Aj []),(.sc (.int .i64 (.ofNat 0))),(.sc (.int .i64 (.ofNat 0))),(.sc (.int .i64 (.ofNat 0))),(.sc (.int .i64 (.ofNat 0))),(.sc (.int .i64 (.ofNat 0))),(.sl .full 0 []),k11,(.sc (.int .i64 (.ofNat 114)))])⟩
def wS:AE Tryz.prog Hd.G e89:=Hd.entry (l:=[vX,e84]) (m:=1000000) (Am.cons Nf (Am.cons Of Hd.none)) (by kernel_rfl) (by kernel_rfl)
def e90:CH:=⟨160,[],(some ([k6,(.sc (.int .i64 (.ofNat 21))),(.sc (.int .i64 (.ofNat 336))),(.sc (.int .i64 (.ofNat 0))),(.sc (.int .i64 (.ofNat 0)))],[k6,(.sc (.int .i64 (.ofNat 34))),(.sc (.int .i64 (.ofNat 336))),(.sc (.int .i64 (.ofNat 0))),(.sc (.int .i64 (.ofNat 0)))])),k14⟩
def wO:AE Tryz.prog Hd.G e90:=Hd.entry (l:=[e88,e89]) (m:=1000000) (Am.cons yA (Am.cons wS Hd.none)) (by kernel_rfl) (by kernel_rfl)
def e91:CH:=⟨117,[],(some ([k6,(.sc (.int .i64 (.ofNat 11))),(.sc (.int .i64 (.ofNat 336))),(.sc (.int .i64 (.ofNat 0))),(.sc (.int .i64 (.ofNat 0)))],[k6,(.sc (.int .i64 (.ofNat 34))),(.sc (.int .i64 (.ofNat 336))),(.sc (.int .i64 (.ofNat 0))),(.sc (.int .i64 (.ofNat 0)))])),(.agg [(.sc (.int .i64 (.ofNat 4))),(Aj [108]),(Aj []),(.sc (.int .i64 (.ofNat 1))),(.sc (.int .i64 (.ofNat 0))),(.sc (.int .i64 (.ofNat 0))),(.sc (.int .i64 (.ofNat 0))),(.sc (.int .i64 (.ofNat 0))),(.sl .full 0 []),k15,(.sc (.int .i64 (.ofNat 36)))])⟩
def alD:AE Tryz.prog Hd.G e91:=Hd.entry (l:=[vX,e84,e86,e87,e90]) (m:=1000000) (Am.cons Nf (Am.cons Of (Am.cons Tb (Am.cons xI (Am.cons wO Hd.none))))) (by kernel_rfl) (by kernel_rfl)
def e92:CH:=⟨199,[k4],none,(.Bj [(.sc (.int .i64 (.ofNat 9132))),(.sc (.int .i64 (.ofNat 0)))])⟩
def WG:AE Tryz.prog Hd.G e92:=Hd.entry (l:=[]) (m:=1000000) Hd.none (by kernel_rfl) (by kernel_rfl)
end Go.Proofs.YtnijkdknnmgoeaaGreat
namespace Go.Proofs.YtnijkdknnmgoeaaGreat
open AI
set_option maxRecDepth 100000
set_option maxHeartbeats 4000000
def k16:AV:=.sl .full 2 [(.sc (.int .i64 (.ofNat 14))),k2,(Aj []),(.sc (.int .i64 (.ofNat 0))),(.sc (.int .i64 (.ofNat 0))),(.sc (.int .i64 (.ofNat 0))),(.sc (.int .i64 (.ofNat 0))),(.sc (.int .i64 (.ofNat 0))),(.sl .full 0 []),(.sl .full 0 []),(.sc (.int .i64 (.ofNat 207))),(.sc (.int .i64 (.ofNat 11))),(Aj []),(Aj [110,117,109,98,101,114]),(.sc (.int .i64 (.ofNat 1))),(.sc (.int .i64 (.ofNat 0))),(.sc (.int .i64 (.ofNat 0))),(.sc (.int .i64 (.ofNat 0))),(.sc (.int .i64 (.ofNat 0))),(.sl .full 0 []),(.sl .full 0 []),(.sc (.int .i64 (.ofNat 218)))]
def k17:AV:=.sl .full 2 [(.sc (.int .i64 (.ofNat 12))),(Aj [97]),(Aj []),(.sc (.int .i64 (.ofNat 0))),(.sc (.int .i64 (.ofNat 0))),(.sc (.int .i64 (.ofNat 0))),(.sc (.int .i64 (.ofNat 0))),(.sc (.int .i64 (.ofNat 0))),(.sl .full 0 []),(.sl .full 0 []),(.sc (.int .i64 (.ofNat 226))),(.sc (.int .i64 (.ofNat 11))),(Aj []),(Aj [110,117,109,98,101,114]),(.sc (.int .i64 (.ofNat 3))),(.sc (.int .i64 (.ofNat 0))),(.sc (.int .i64 (.ofNat 0))),(.sc (.int .i64 (.ofNat 0))),(.sc (.int .i64 (.ofNat 0))),(.sl .full 0 []),(.sl .full 0 []),(.sc (.int .i64 (.ofNat 231)))]
def k18:AV:=.sl .full 1 [(.sc (.int .i64 (.ofNat 16))),(Aj [61,61]),(Aj []),(.sc (.int .i64 (.ofNat 0))),(.sc (.int .i64 (.ofNat 0))),(.sc (.int .i64 (.ofNat 0))),(.sc (.int .i64 (.ofNat 0))),(.sc (.int .i64 (.ofNat 0))),(.sl .full 0 []),k16,(.sc (.int .i64 (.ofNat 207)))]
def k19:AV:=.sl .full 1 [(.sc (.int .i64 (.ofNat 16))),(Aj [33,61]),(Aj []),(.sc (.int .i64 (.ofNat 0))),(.sc (.int .i64 (.ofNat 0))),(.sc (.int .i64 (.ofNat 0))),(.sc (.int .i64 (.ofNat 0))),(.sc (.int .i64 (.ofNat 0))),(.sl .full 0 []),k17,(.sc (.int .i64 (.ofNat 226)))]
def k20:AV:=.sl .full 1 [(.sc (.int .i64 (.ofNat 13))),(Aj []),(Aj []),(.sc (.int .i64 (.ofNat 3))),(.sc (.int .i64 (.ofNat 0))),(.sc (.int .i64 (.ofNat 0))),(.sc (.int .i64 (.ofNat 0))),(.sc (.int .i64 (.ofNat 0))),(.sl .full 0 []),(.sl .full 0 []),(.sc (.int .i64 (.ofNat 241)))]
def k21:AV:=.sl .lost 3 [(.sc (.int .i64 (.ofNat 6))),(Aj []),(Aj []),(.sc (.int .i64 (.ofNat 0))),(.sc (.int .i64 (.ofNat 0))),(.sc (.int .i64 (.ofNat 0))),(.sc (.int .i64 (.ofNat 0))),(.sc (.int .i64 (.ofNat 0))),(.sl .full 0 []),k18,(.sc (.int .i64 (.ofNat 202))),(.sc (.int .i64 (.ofNat 6))),(Aj []),(Aj []),(.sc (.int .i64 (.ofNat 0))),(.sc (.int .i64 (.ofNat 0))),(.sc (.int .i64 (.ofNat 0))),(.sc (.int .i64 (.ofNat 0))),(.sc (.int .i64 (.ofNat 0))),(.sl .full 0 []),k19,(.sc (.int .i64 (.ofNat 221))),(.sc (.int .i64 (.ofNat 8))),(Aj []),(Aj []),(.sc (.int .i64 (.ofNat 0))),(.sc (.int .i64 (.ofNat 0))),(.sc (.int .i64 (.ofNat 0))),(.sc (.int .i64 (.ofNat 0))),(.sc (.int .i64 (.ofNat 0))),(.sl .full 0 []),k20,(.sc (.int .i64 (.ofNat 234)))]
def k22:AV:=.sl .lost 4 [(.sc (.int .i64 (.ofNat 5))),(Aj []),(Aj []),(.sc (.int .i64 (.ofNat 0))),(.sc (.int .i64 (.ofNat 8766))),(.sc (.int .i64 (.ofNat 9132))),(.sc (.int .i64 (.ofNat 8766))),(.sc (.int .i64 (.ofNat 0))),(.sl .full 0 []),(.sl .full 0 []),(.sc (.int .i64 (.ofNat 146))),(.sc (.int .i64 (.ofNat 6))),(Aj []),(Aj []),(.sc (.int .i64 (.ofNat 0))),(.sc (.int .i64 (.ofNat 0))),(.sc (.int .i64 (.ofNat 0))),(.sc (.int .i64 (.ofNat 0))),(.sc (.int .i64 (.ofNat 0))),(.sl .full 0 []),k18,(.sc (.int .i64 (.ofNat 202))),(.sc (.int .i64 (.ofNat 6))),(Aj []),(Aj []),(.sc (.int .i64 (.ofNat 0))),(.sc (.int .i64 (.ofNat 0))),(.sc (.int .i64 (.ofNat 0))),(.sc (.int .i64 (.ofNat 0))),(.sc (.int .i64 (.ofNat 0))),(.sl .full 0 []),k19,(.sc (.int .i64 (.ofNat 221))),(.sc (.int .i64 (.ofNat 8))),(Aj []),(Aj []),(.sc (.int .i64 (.ofNat 0))),(.sc (.int .i64 (.ofNat 0))),(.sc (.int .i64 (.ofNat 0))),(.sc (.int .i64 (.ofNat 0))),(.sc (.int .i64 (.ofNat 0))),(.sl .full 0 []),k20,(.sc (.int .i64 (.ofNat 234)))]
def e93:CH:=⟨159,[],(some ([k6,(.sc (.int .i64 (.ofNat 38))),(.sc (.int .i64 (.ofNat 336))),(.sc (.int .i64 (.ofNat 0))),(.sc (.int .i64 (.ofNat 0)))],[k6,(.sc (.int .i64 (.ofNat 46))),(.sc (.int .i64 (.ofNat 336))),(.sc (.int .i64 (.ofNat 0))),(.sc (.int .i64 (.ofNat 0)))])),(.agg [(.sc (.int .i64 (.ofNat 5))),(Aj []),(Aj []),(.sc (.int .i64 (.ofNat 0))),(.sc (.int .i64 (.ofNat 8766))),(.sc (.int .i64 (.ofNat 9132))),(.sc (.int .i64 (.ofNat 8766))),(.sc (.int .i64 (.ofNat 0))),(.sl .full 0 []),(.sl .full 0 []),(.sc (.int .i64 (.ofNat 146)))])⟩
def aeL:AE Tryz.prog Hd.G e93:=Hd.entry (l:=[e86,e92]) (m:=1000000) (Am.cons Tb (Am.cons WG Hd.none)) (by kernel_rfl) (by kernel_rfl)
def e94:CH:=⟨104,[k9,k2],none,(.sc (.bool true))⟩
def Tw:AE Tryz.prog Hd.G e94:=Hd.entry (l:=[]) (m:=1000000) Hd.none (by kernel_rfl) (by kernel_rfl)
def e95:CH:=⟨187,[],(some ([k6,(.sc (.int .i64 (.ofNat 48))),(.sc (.int .i64 (.ofNat 336))),(.sc (.int .i64 (.ofNat 0))),(.sc (.int .i64 (.ofNat 0)))],[k6,(.sc (.int .i64 (.ofNat 51))),(.sc (.int .i64 (.ofNat 336))),(.sc (.int .i64 (.ofNat 0))),(.sc (.int .i64 (.ofNat 0)))])),(.agg [(.sc (.int .i64 (.ofNat 16))),(Aj [61,61]),(Aj []),(.sc (.int .i64 (.ofNat 0))),(.sc (.int .i64 (.ofNat 0))),(.sc (.int .i64 (.ofNat 0))),(.sc (.int .i64 (.ofNat 0))),(.sc (.int .i64 (.ofNat 0))),(.sl .full 0 []),k16,(.sc (.int .i64 (.ofNat 207)))])⟩
def adC:AE Tryz.prog Hd.G e95:=Hd.entry (l:=[vX,e84,e94]) (m:=1000000) (Am.cons Nf (Am.cons Of (Am.cons Tw Hd.none))) (by kernel_rfl) (by kernel_rfl)
def e96:CH:=⟨187,[],(some ([k6,(.sc (.int .i64 (.ofNat 53))),(.sc (.int .i64 (.ofNat 336))),(.sc (.int .i64 (.ofNat 0))),(.sc (.int .i64 (.ofNat 0)))],[k6,(.sc (.int .i64 (.ofNat 56))),(.sc (.int .i64 (.ofNat 336))),(.sc (.int .i64 (.ofNat 0))),(.sc (.int .i64 (.ofNat 0)))])),(.agg [(.sc (.int .i64 (.ofNat 16))),(Aj [33,61]),(Aj []),(.sc (.int .i64 (.ofNat 0))),(.sc (.int .i64 (.ofNat 0))),(.sc (.int .i64 (.ofNat 0))),(.sc (.int .i64 (.ofNat 0))),(.sc (.int .i64 (.ofNat 0))),(.sl .full 0 []),k17,(.sc (.int .i64 (.ofNat 226)))])⟩
def ac7:AE Tryz.prog Hd.G e96:=Hd.entry (l:=[vX,e84,e94]) (m:=1000000) (Am.cons Nf (Am.cons Of (Am.cons Tw Hd.none))) (by kernel_rfl) (by kernel_rfl)
def e97:CH:=⟨104,[k9,(Aj [97,114,116])],none,(.sc (.bool true))⟩
def WB:AE Tryz.prog Hd.G e97:=Hd.entry (l:=[]) (m:=1000000) Hd.none (by kernel_rfl) (by kernel_rfl)
def e98:CH:=⟨187,[],(some ([k6,(.sc (.int .i64 (.ofNat 58))),(.sc (.int .i64 (.ofNat 336))),(.sc (.int .i64 (.ofNat 0))),(.sc (.int .i64 (.ofNat 0)))],[k6,(.sc (.int .i64 (.ofNat 60))),(.sc (.int .i64 (.ofNat 336))),(.sc (.int .i64 (.ofNat 0))),(.sc (.int .i64 (.ofNat 0)))])),(.agg [(.sc (.int .i64 (.ofNat 13))),(Aj []),(Aj []),(.sc (.int .i64 (.ofNat 3))),(.sc (.int .i64 (.ofNat 0))),(.sc (.int .i64 (.ofNat 0))),(.sc (.int .i64 (.ofNat 0))),(.sc (.int .i64 (.ofNat 0))),(.sl .full 0 []),(.sl .full 0 []),(.sc (.int .i64 (.ofNat 241)))])⟩
def aeh:AE Tryz.prog Hd.G e98:=Hd.entry (l:=[vX,e84,e94,e97]) (m:=1000000) (Am.cons Nf (Am.cons Of (Am.cons Tw (Am.cons WB Hd.none)))) (by kernel_rfl) (by kernel_rfl)
def e99:CH:=⟨160,[],(some ([k6,(.sc (.int .i64 (.ofNat 46))),(.sc (.int .i64 (.ofNat 336))),(.sc (.int .i64 (.ofNat 0))),(.sc (.int .i64 (.ofNat 0)))],[k6,(.sc (.int .i64 (.ofNat 62))),(.sc (.int .i64 (.ofNat 336))),(.sc (.int .i64 (.ofNat 0))),(.sc (.int .i64 (.ofNat 0)))])),k21⟩
def adS:AE Tryz.prog Hd.G e99:=Hd.entry (l:=[e88,e89,e95,e96,e98]) (m:=1000000) (Am.cons yA (Am.cons wS (Am.cons adC (Am.cons ac7 (Am.cons aeh Hd.none))))) (by kernel_rfl) (by kernel_rfl)
def aqd:CH:=⟨117,[],(some ([k6,(.sc (.int .i64 (.ofNat 34))),(.sc (.int .i64 (.ofNat 336))),(.sc (.int .i64 (.ofNat 0))),(.sc (.int .i64 (.ofNat 0)))],[k6,(.sc (.int .i64 (.ofNat 62))),(.sc (.int .i64 (.ofNat 336))),(.sc (.int .i64 (.ofNat 0))),(.sc (.int .i64 (.ofNat 0)))])),(.agg [(.sc (.int .i64 (.ofNat 4))),(Aj [108]),(Aj []),(.sc (.int .i64 (.ofNat 2))),(.sc (.int .i64 (.ofNat 0))),(.sc (.int .i64 (.ofNat 0))),(.sc (.int .i64 (.ofNat 0))),(.sc (.int .i64 (.ofNat 0))),(.sl .full 0 []),k22,(.sc (.int .i64 (.ofNat 130)))])⟩
def ahN:AE Tryz.prog Hd.G aqd:=Hd.entry (l:=[vX,e84,e86,e87,e90,e92,e93,e94,e97,e99]) (m:=1000000) (Am.cons Nf (Am.cons Of (Am.cons Tb (Am.cons xI (Am.cons wO (Am.cons WG (Am.cons aeL (Am.cons Tw (Am.cons WB (Am.cons adS Hd.none)))))))))) (by kernel_rfl) (by kernel_rfl)
def abX:CH:=⟨199,[k5],none,(.Bj [(.sc (.int .i64 (.ofNat 8797))),(.sc (.int .i64 (.ofNat 0)))])⟩
def Xr:AE Tryz.prog Hd.G abX:=Hd.entry (l:=[]) (m:=1000000) Hd.none (by kernel_rfl) (by kernel_rfl)
def apm:CH:=⟨159,[],(some ([k6,(.sc (.int .i64 (.ofNat 66))),(.sc (.int .i64 (.ofNat 336))),(.sc (.int .i64 (.ofNat 0))),(.sc (.int .i64 (.ofNat 0)))],[k6,(.sc (.int .i64 (.ofNat 72))),(.sc (.int .i64 (.ofNat 336))),(.sc (.int .i64 (.ofNat 0))),(.sc (.int .i64 (.ofNat 0)))])),(.agg [(.sc (.int .i64 (.ofNat 5))),(Aj []),(Aj []),(.sc (.int .i64 (.ofNat 0))),(.sc (.int .i64 (.ofNat 8766))),(.sc (.int .i64 (.ofNat 36525))),(.sc (.int .i64 (.ofNat 8797))),(.sc (.int .i64 (.ofNat 0))),(.sl .full 0 []),(.sl .full 0 []),(.sc (.int .i64 (.ofNat 266)))])⟩
def ahC:AE Tryz.prog Hd.G apm:=Hd.entry (l:=[e86,e92,abX]) (m:=1000000) (Am.cons Tb (Am.cons WG (Am.cons Xr Hd.none))) (by kernel_rfl) (by kernel_rfl)
def aqO:CH:=⟨187,[],(some ([k6,(.sc (.int .i64 (.ofNat 77))),(.sc (.int .i64 (.ofNat 336))),(.sc (.int .i64 (.ofNat 0))),(.sc (.int .i64 (.ofNat 0)))],[k6,(.sc (.int .i64 (.ofNat 79))),(.sc (.int .i64 (.ofNat 336))),(.sc (.int .i64 (.ofNat 0))),(.sc (.int .i64 (.ofNat 0)))])),(.agg [(.sc (.int .i64 (.ofNat 11))),(Aj []),(Aj [69,85,82]),(.sc (.int .i64 (.ofNat 0))),(.sc (.int .i64 (.ofNat 0))),(.sc (.int .i64 (.ofNat 0))),(.sc (.int .i64 (.ofNat 0))),(.sc (.int .i64 (.ofNat 0))),(.sl .full 0 []),(.sl .full 0 []),(.sc (.int .i64 (.ofNat 325)))])⟩
def ajA:AE Tryz.prog Hd.G aqO:=Hd.entry (l:=[vX,e84,e94,e97]) (m:=1000000) (Am.cons Nf (Am.cons Of (Am.cons Tw (Am.cons WB Hd.none)))) (by kernel_rfl) (by kernel_rfl)
end Go.Proofs.YtnijkdknnmgoeaaGreat
namespace Go.Proofs.YtnijkdknnmgoeaaGreat
open AI
set_option maxRecDepth 100000
set_option maxHeartbeats 4000000
def k23:AV:=.sl .lost 1 [(.sc (.int .i64 (.ofNat 11))),(Aj []),(Aj [110,117,109,98,101,114]),(.sc (.int .i64 (.ofNat 1))),(.sc (.int .i64 (.ofNat 0))),(.sc (.int .i64 (.ofNat 0))),(.sc (.int .i64 (.ofNat 0))),(.sc (.int .i64 (.ofNat 0))),(.sl .full 0 []),(.sl .full 0 []),(.sc (.int .i64 (.ofNat 315)))]
def k24:AV:=.sl .full 1 [(.sc (.int .i64 (.ofNat 11))),(Aj []),(Aj [69,85,82]),(.sc (.int .i64 (.ofNat 0))),(.sc (.int .i64 (.ofNat 0))),(.sc (.int .i64 (.ofNat 0))),(.sc (.int .i64 (.ofNat 0))),(.sc (.int .i64 (.ofNat 0))),(.sl .full 0 []),(.sl .full 0 []),(.sc (.int .i64 (.ofNat 325)))]
def k25:AV:=.sl .lost 2 [(.sc (.int .i64 (.ofNat 7))),(Aj []),(Aj []),(.sc (.int .i64 (.ofNat 0))),(.sc (.int .i64 (.ofNat 0))),(.sc (.int .i64 (.ofNat 0))),(.sc (.int .i64 (.ofNat 0))),(.sc (.int .i64 (.ofNat 0))),(.sl .full 0 []),k23,(.sc (.int .i64 (.ofNat 308))),(.sc (.int .i64 (.ofNat 8))),(Aj []),(Aj []),(.sc (.int .i64 (.ofNat 0))),(.sc (.int .i64 (.ofNat 0))),(.sc (.int .i64 (.ofNat 0))),(.sc (.int .i64 (.ofNat 0))),(.sc (.int .i64 (.ofNat 0))),(.sl .full 0 []),k24,(.sc (.int .i64 (.ofNat 318)))]
def k26:AV:=.sl .lost 3 [(.sc (.int .i64 (.ofNat 5))),(Aj []),(Aj []),(.sc (.int .i64 (.ofNat 0))),(.sc (.int .i64 (.ofNat 8766))),(.sc (.int .i64 (.ofNat 36525))),(.sc (.int .i64 (.ofNat 8797))),(.sc (.int .i64 (.ofNat 0))),(.sl .full 0 []),(.sl .full 0 []),(.sc (.int .i64 (.ofNat 266))),(.sc (.int .i64 (.ofNat 7))),(Aj []),(Aj []),(.sc (.int .i64 (.ofNat 0))),(.sc (.int .i64 (.ofNat 0))),(.sc (.int .i64 (.ofNat 0))),(.sc (.int .i64 (.ofNat 0))),(.sc (.int .i64 (.ofNat 0))),(.sl .full 0 []),k23,(.sc (.int .i64 (.ofNat 308))),(.sc (.int .i64 (.ofNat 8))),(Aj []),(Aj []),(.sc (.int .i64 (.ofNat 0))),(.sc (.int .i64 (.ofNat 0))),(.sc (.int .i64 (.ofNat 0))),(.sc (.int .i64 (.ofNat 0))),(.sc (.int .i64 (.ofNat 0))),(.sl .full 0 []),k24,(.sc (.int .i64 (.ofNat 318)))]
def k27:AV:=.sl .lost 5 [(.sc (.int .i64 (.ofNat 2))),(Aj [97]),(Aj [110,117,109,98,101,114]),(.sc (.int .i64 (.ofNat 0))),(.sc (.int .i64 (.ofNat 0))),(.sc (.int .i64 (.ofNat 0))),(.sc (.int .i64 (.ofNat 0))),(.sc (.int .i64 (.ofNat 0))),(.sl .full 0 []),(.sl .full 0 []),(.sc (.int .i64 (.ofNat 0))),(.sc (.int .i64 (.ofNat 3))),(Aj [108]),(Aj [69,85,82]),(.sc (.int .i64 (.ofNat 1))),(.sc (.int .i64 (.ofNat 0))),(.sc (.int .i64 (.ofNat 0))),(.sc (.int .i64 (.ofNat 0))),(.sc (.int .i64 (.ofNat 0))),(.sl .full 0 []),(.sl .full 0 []),(.sc (.int .i64 (.ofNat 17))),(.sc (.int .i64 (.ofNat 4))),(Aj [108]),(Aj []),(.sc (.int .i64 (.ofNat 1))),(.sc (.int .i64 (.ofNat 0))),(.sc (.int .i64 (.ofNat 0))),(.sc (.int .i64 (.ofNat 0))),(.sc (.int .i64 (.ofNat 0))),(.sl .full 0 []),k15,(.sc (.int .i64 (.ofNat 36))),(.sc (.int .i64 (.ofNat 4))),(Aj [108]),(Aj []),(.sc (.int .i64 (.ofNat 2))),(.sc (.int .i64 (.ofNat 0))),(.sc (.int .i64 (.ofNat 0))),(.sc (.int .i64 (.ofNat 0))),(.sc (.int .i64 (.ofNat 0))),(.sl .full 0 []),k22,(.sc (.int .i64 (.ofNat 130))),(.sc (.int .i64 (.ofNat 4))),(Aj [108]),(Aj []),(.sc (.int .i64 (.ofNat 3))),(.sc (.int .i64 (.ofNat 0))),(.sc (.int .i64 (.ofNat 0))),(.sc (.int .i64 (.ofNat 0))),(.sc (.int .i64 (.ofNat 0))),(.sl .full 0 []),k26,(.sc (.int .i64 (.ofNat 250)))]
def fE:AV:=Aj [108,105,110,101,32,108,32,58,32,69,85,82,32,101,97,114,110,59,32,97,114,116,105,99,108,101,32,49,32,102,111,114,32,108,32,114,97,110,107,32,48,32,102,114,111,109,32,50,48,50,52,45,48,49,45,48,49,32,107,110,111,119,110,32,50,48,50,52,45,48,49,45,48,49,32,123,32,97,109,111,117,110,116,32,49,59,32,125]
def k29:AV:=.sl .lost 21 [(.sc (.int .i64 (.ofNat 1))),(Aj [108,105,110,101]),(.sc (.int .i64 (.ofNat 0))),(.sc (.int .i64 (.ofNat 1))),(Aj [108]),(.sc (.int .i64 (.ofNat 5))),(.sc (.int .i64 (.ofNat 6))),(Aj [58]),(.sc (.int .i64 (.ofNat 7))),(.sc (.int .i64 (.ofNat 2))),(Aj [69,85,82]),(.sc (.int .i64 (.ofNat 9))),(.sc (.int .i64 (.ofNat 1))),(Aj [101,97,114,110]),(.sc (.int .i64 (.ofNat 13))),(.sc (.int .i64 (.ofNat 6))),(Aj [59]),(.sc (.int .i64 (.ofNat 17))),(.sc (.int .i64 (.ofNat 1))),k3,(.sc (.int .i64 (.ofNat 19))),(.sc (.int .i64 (.ofNat 3))),(Aj [49]),(.sc (.int .i64 (.ofNat 27))),(.sc (.int .i64 (.ofNat 1))),(Aj [102,111,114]),(.sc (.int .i64 (.ofNat 29))),(.sc (.int .i64 (.ofNat 1))),(Aj [108]),(.sc (.int .i64 (.ofNat 33))),(.sc (.int .i64 (.ofNat 1))),(Aj [114,97,110,107]),(.sc (.int .i64 (.ofNat 35))),(.sc (.int .i64 (.ofNat 3))),(Aj [48]),(.sc (.int .i64 (.ofNat 40))),(.sc (.int .i64 (.ofNat 1))),(Aj [102,114,111,109]),(.sc (.int .i64 (.ofNat 42))),(.sc (.int .i64 (.ofNat 5))),k1,(.sc (.int .i64 (.ofNat 47))),(.sc (.int .i64 (.ofNat 1))),(Aj [107,110,111,119,110]),(.sc (.int .i64 (.ofNat 58))),(.sc (.int .i64 (.ofNat 5))),k1,(.sc (.int .i64 (.ofNat 64))),(.sc (.int .i64 (.ofNat 6))),(Aj [123]),(.sc (.int .i64 (.ofNat 75))),(.sc (.int .i64 (.ofNat 1))),(Aj [97,109,111,117,110,116]),(.sc (.int .i64 (.ofNat 77))),(.sc (.int .i64 (.ofNat 3))),(Aj [49]),(.sc (.int .i64 (.ofNat 84))),(.sc (.int .i64 (.ofNat 6))),(Aj [59]),(.sc (.int .i64 (.ofNat 85))),(.sc (.int .i64 (.ofNat 6))),(Aj [125]),(.sc (.int .i64 (.ofNat 87)))]
def k30:AV:=.sl .full 1 [(.sc (.int .i64 (.ofNat 11))),(Aj []),(Aj [110,117,109,98,101,114]),(.sc (.int .i64 (.ofNat 1))),(.sc (.int .i64 (.ofNat 0))),(.sc (.int .i64 (.ofNat 0))),(.sc (.int .i64 (.ofNat 0))),(.sc (.int .i64 (.ofNat 0))),(.sl .full 0 []),(.sl .full 0 []),(.sc (.int .i64 (.ofNat 84)))]
def k31:AV:=.sl .lost 1 [(.sc (.int .i64 (.ofNat 8))),(Aj []),(Aj []),(.sc (.int .i64 (.ofNat 0))),(.sc (.int .i64 (.ofNat 0))),(.sc (.int .i64 (.ofNat 0))),(.sc (.int .i64 (.ofNat 0))),(.sc (.int .i64 (.ofNat 0))),(.sl .full 0 []),k30,(.sc (.int .i64 (.ofNat 77)))]
def k32:AV:=.sl .lost 2 [(.sc (.int .i64 (.ofNat 5))),(Aj []),(Aj []),(.sc (.int .i64 (.ofNat 0))),(.sc (.int .i64 (.ofNat 8766))),(.sc (.int .i64 (.ofNat 36525))),(.sc (.int .i64 (.ofNat 8766))),(.sc (.int .i64 (.ofNat 0))),(.sl .full 0 []),(.sl .full 0 []),(.sc (.int .i64 (.ofNat 35))),(.sc (.int .i64 (.ofNat 8))),(Aj []),(Aj []),(.sc (.int .i64 (.ofNat 0))),(.sc (.int .i64 (.ofNat 0))),(.sc (.int .i64 (.ofNat 0))),(.sc (.int .i64 (.ofNat 0))),(.sc (.int .i64 (.ofNat 0))),(.sl .full 0 []),k30,(.sc (.int .i64 (.ofNat 77)))]
def arc:CH:=⟨160,[],(some ([k6,(.sc (.int .i64 (.ofNat 72))),(.sc (.int .i64 (.ofNat 336))),(.sc (.int .i64 (.ofNat 0))),(.sc (.int .i64 (.ofNat 0)))],[k6,(.sc (.int .i64 (.ofNat 81))),(.sc (.int .i64 (.ofNat 336))),(.sc (.int .i64 (.ofNat 0))),(.sc (.int .i64 (.ofNat 0)))])),k25⟩
def ajp:AE Tryz.prog Hd.G arc:=Hd.entry (l:=[e88,e89,e95,e96,e98,aqO]) (m:=1000000) (Am.cons yA (Am.cons wS (Am.cons adC (Am.cons ac7 (Am.cons aeh (Am.cons ajA Hd.none)))))) (by kernel_rfl) (by kernel_rfl)
def arv:CH:=⟨117,[],(some ([k6,(.sc (.int .i64 (.ofNat 62))),(.sc (.int .i64 (.ofNat 336))),(.sc (.int .i64 (.ofNat 0))),(.sc (.int .i64 (.ofNat 0)))],[k6,(.sc (.int .i64 (.ofNat 81))),(.sc (.int .i64 (.ofNat 336))),(.sc (.int .i64 (.ofNat 0))),(.sc (.int .i64 (.ofNat 0)))])),(.agg [(.sc (.int .i64 (.ofNat 4))),(Aj [108]),(Aj []),(.sc (.int .i64 (.ofNat 3))),(.sc (.int .i64 (.ofNat 0))),(.sc (.int .i64 (.ofNat 0))),(.sc (.int .i64 (.ofNat 0))),(.sc (.int .i64 (.ofNat 0))),(.sl .full 0 []),k26,(.sc (.int .i64 (.ofNat 250)))])⟩
def agj:AE Tryz.prog Hd.G arv:=Hd.entry (l:=[vX,e84,e86,e87,e90,e92,e93,e94,e97,e99,abX,apm,arc]) (m:=1000000) (Am.cons Nf (Am.cons Of (Am.cons Tb (Am.cons xI (Am.cons wO (Am.cons WG (Am.cons aeL (Am.cons Tw (Am.cons WB (Am.cons adS (Am.cons Xr (Am.cons ahC (Am.cons ajp Hd.none))))))))))))) (by kernel_rfl) (by kernel_rfl)
def aqG:CH:=⟨72,[k0],none,(.Bj [(.agg [(.sc (.int .i64 (.ofNat 1))),(Aj []),(Aj []),(.sc (.int .i64 (.ofNat 0))),(.sc (.int .i64 (.ofNat 0))),(.sc (.int .i64 (.ofNat 0))),(.sc (.int .i64 (.ofNat 0))),(.sc (.int .i64 (.ofNat 0))),(.sl .full 0 []),k27,(.sc (.int .i64 (.ofNat 0)))]),(.sl .full 0 [])])⟩
def ago:AE Tryz.prog Hd.G aqG:=Hd.entry (l:=[e81,e83,e85,e91,aqd,arv]) (m:=1000000) (Am.cons alz (Am.cons ans (Am.cons aoO (Am.cons alD (Am.cons ahN (Am.cons agj Hd.none)))))) (by kernel_rfl) (by kernel_rfl)
def ap1:CH:=⟨152,[fE,(.sc (.int .i64 (.ofNat 0)))],none,(.Bj [(.agg [(.sc (.int .i64 (.ofNat 1))),(Aj [108,105,110,101]),(.sc (.int .i64 (.ofNat 0)))]),(.sc (.bool true))])⟩
def agx:AE Tryz.prog Hd.G ap1:=Hd.entry (l:=[]) (m:=1000000) Hd.none (by kernel_rfl) (by kernel_rfl)
def aqH:CH:=⟨152,[fE,(.sc (.int .i64 (.ofNat 13)))],none,(.Bj [(.agg [(.sc (.int .i64 (.ofNat 1))),(Aj [101,97,114,110]),(.sc (.int .i64 (.ofNat 13)))]),(.sc (.bool true))])⟩
def ahx:AE Tryz.prog Hd.G aqH:=Hd.entry (l:=[]) (m:=1000000) Hd.none (by kernel_rfl) (by kernel_rfl)
def ao5:CH:=⟨152,[fE,(.sc (.int .i64 (.ofNat 29)))],none,(.Bj [(.agg [(.sc (.int .i64 (.ofNat 1))),(Aj [102,111,114]),(.sc (.int .i64 (.ofNat 29)))]),(.sc (.bool true))])⟩
def agm:AE Tryz.prog Hd.G ao5:=Hd.entry (l:=[]) (m:=1000000) Hd.none (by kernel_rfl) (by kernel_rfl)
def aph:CH:=⟨152,[fE,(.sc (.int .i64 (.ofNat 42)))],none,(.Bj [(.agg [(.sc (.int .i64 (.ofNat 1))),(Aj [102,114,111,109]),(.sc (.int .i64 (.ofNat 42)))]),(.sc (.bool true))])⟩
def ah7:AE Tryz.prog Hd.G aph:=Hd.entry (l:=[]) (m:=1000000) Hd.none (by kernel_rfl) (by kernel_rfl)
def apt:CH:=⟨152,[fE,(.sc (.int .i64 (.ofNat 75)))],none,(.Bj [(.agg [(.sc (.int .i64 (.ofNat 6))),(Aj [123]),(.sc (.int .i64 (.ofNat 75)))]),(.sc (.bool true))])⟩
def ah9:AE Tryz.prog Hd.G apt:=Hd.entry (l:=[]) (m:=1000000) Hd.none (by kernel_rfl) (by kernel_rfl)
def aqs:CH:=⟨152,[fE,(.sc (.int .i64 (.ofNat 87)))],none,(.Bj [(.agg [(.sc (.int .i64 (.ofNat 6))),(Aj [125]),(.sc (.int .i64 (.ofNat 87)))]),(.sc (.bool true))])⟩
def ajx:AE Tryz.prog Hd.G aqs:=Hd.entry (l:=[]) (m:=1000000) Hd.none (by kernel_rfl) (by kernel_rfl)
def arj:CH:=⟨152,[fE,(.sc (.int .i64 (.ofNat 5)))],none,(.Bj [(.agg [(.sc (.int .i64 (.ofNat 1))),(Aj [108]),(.sc (.int .i64 (.ofNat 5)))]),(.sc (.bool true))])⟩
def aiA:AE Tryz.prog Hd.G arj:=Hd.entry (l:=[]) (m:=1000000) Hd.none (by kernel_rfl) (by kernel_rfl)
def aqx:CH:=⟨152,[fE,(.sc (.int .i64 (.ofNat 17)))],none,(.Bj [(.agg [(.sc (.int .i64 (.ofNat 6))),(Aj [59]),(.sc (.int .i64 (.ofNat 17)))]),(.sc (.bool true))])⟩
def ah6:AE Tryz.prog Hd.G aqx:=Hd.entry (l:=[]) (m:=1000000) Hd.none (by kernel_rfl) (by kernel_rfl)
def aqB:CH:=⟨152,[fE,(.sc (.int .i64 (.ofNat 33)))],none,(.Bj [(.agg [(.sc (.int .i64 (.ofNat 1))),(Aj [108]),(.sc (.int .i64 (.ofNat 33)))]),(.sc (.bool true))])⟩
def ahm:AE Tryz.prog Hd.G aqB:=Hd.entry (l:=[]) (m:=1000000) Hd.none (by kernel_rfl) (by kernel_rfl)
def apM:CH:=⟨152,[fE,(.sc (.int .i64 (.ofNat 47)))],none,(.Bj [(.agg [(.sc (.int .i64 (.ofNat 5))),k1,(.sc (.int .i64 (.ofNat 47)))]),(.sc (.bool true))])⟩
def ah8:AE Tryz.prog Hd.G apM:=Hd.entry (l:=[]) (m:=1000000) Hd.none (by kernel_rfl) (by kernel_rfl)
def apI:CH:=⟨152,[fE,(.sc (.int .i64 (.ofNat 77)))],none,(.Bj [(.agg [(.sc (.int .i64 (.ofNat 1))),(Aj [97,109,111,117,110,116]),(.sc (.int .i64 (.ofNat 77)))]),(.sc (.bool true))])⟩
def aiD:AE Tryz.prog Hd.G apI:=Hd.entry (l:=[]) (m:=1000000) Hd.none (by kernel_rfl) (by kernel_rfl)
def arD:CH:=⟨152,[fE,(.sc (.int .i64 (.ofNat 7)))],none,(.Bj [(.agg [(.sc (.int .i64 (.ofNat 6))),(Aj [58]),(.sc (.int .i64 (.ofNat 7)))]),(.sc (.bool true))])⟩
def ahe:AE Tryz.prog Hd.G arD:=Hd.entry (l:=[]) (m:=1000000) Hd.none (by kernel_rfl) (by kernel_rfl)
def aq6:CH:=⟨152,[fE,(.sc (.int .i64 (.ofNat 19)))],none,(.Bj [(.agg [(.sc (.int .i64 (.ofNat 1))),k3,(.sc (.int .i64 (.ofNat 19)))]),(.sc (.bool true))])⟩
def ah3:AE Tryz.prog Hd.G aq6:=Hd.entry (l:=[]) (m:=1000000) Hd.none (by kernel_rfl) (by kernel_rfl)
def aqL:CH:=⟨152,[fE,(.sc (.int .i64 (.ofNat 35)))],none,(.Bj [(.agg [(.sc (.int .i64 (.ofNat 1))),(Aj [114,97,110,107]),(.sc (.int .i64 (.ofNat 35)))]),(.sc (.bool true))])⟩
def ajj:AE Tryz.prog Hd.G aqL:=Hd.entry (l:=[]) (m:=1000000) Hd.none (by kernel_rfl) (by kernel_rfl)
def arA:CH:=⟨152,[fE,(.sc (.int .i64 (.ofNat 58)))],none,(.Bj [(.agg [(.sc (.int .i64 (.ofNat 1))),(Aj [107,110,111,119,110]),(.sc (.int .i64 (.ofNat 58)))]),(.sc (.bool true))])⟩
def aiM:AE Tryz.prog Hd.G arA:=Hd.entry (l:=[]) (m:=1000000) Hd.none (by kernel_rfl) (by kernel_rfl)
def apX:CH:=⟨152,[fE,(.sc (.int .i64 (.ofNat 84)))],none,(.Bj [(.agg [(.sc (.int .i64 (.ofNat 3))),(Aj [49]),(.sc (.int .i64 (.ofNat 84)))]),(.sc (.bool true))])⟩
def ahX:AE Tryz.prog Hd.G apX:=Hd.entry (l:=[]) (m:=1000000) Hd.none (by kernel_rfl) (by kernel_rfl)
def arh:CH:=⟨152,[fE,(.sc (.int .i64 (.ofNat 9)))],none,(.Bj [(.agg [(.sc (.int .i64 (.ofNat 2))),(Aj [69,85,82]),(.sc (.int .i64 (.ofNat 9)))]),(.sc (.bool true))])⟩
def ajB:AE Tryz.prog Hd.G arh:=Hd.entry (l:=[]) (m:=1000000) Hd.none (by kernel_rfl) (by kernel_rfl)
def ard:CH:=⟨152,[fE,(.sc (.int .i64 (.ofNat 27)))],none,(.Bj [(.agg [(.sc (.int .i64 (.ofNat 3))),(Aj [49]),(.sc (.int .i64 (.ofNat 27)))]),(.sc (.bool true))])⟩
def aiB:AE Tryz.prog Hd.G ard:=Hd.entry (l:=[]) (m:=1000000) Hd.none (by kernel_rfl) (by kernel_rfl)
def ap5:CH:=⟨152,[fE,(.sc (.int .i64 (.ofNat 40)))],none,(.Bj [(.agg [(.sc (.int .i64 (.ofNat 3))),(Aj [48]),(.sc (.int .i64 (.ofNat 40)))]),(.sc (.bool true))])⟩
def agL:AE Tryz.prog Hd.G ap5:=Hd.entry (l:=[]) (m:=1000000) Hd.none (by kernel_rfl) (by kernel_rfl)
def aqA:CH:=⟨152,[fE,(.sc (.int .i64 (.ofNat 64)))],none,(.Bj [(.agg [(.sc (.int .i64 (.ofNat 5))),k1,(.sc (.int .i64 (.ofNat 64)))]),(.sc (.bool true))])⟩
def agG:AE Tryz.prog Hd.G aqA:=Hd.entry (l:=[]) (m:=1000000) Hd.none (by kernel_rfl) (by kernel_rfl)
def aoR:CH:=⟨152,[fE,(.sc (.int .i64 (.ofNat 85)))],none,(.Bj [(.agg [(.sc (.int .i64 (.ofNat 6))),(Aj [59]),(.sc (.int .i64 (.ofNat 85)))]),(.sc (.bool true))])⟩
def air:AE Tryz.prog Hd.G aoR:=Hd.entry (l:=[]) (m:=1000000) Hd.none (by kernel_rfl) (by kernel_rfl)
def arb:CH:=⟨115,[fE],none,(.Bj [k29,(.sc (.int .i64 (.ofNat 0))),(.sc (.int .i64 (.ofNat 0)))])⟩
def ajh:AE Tryz.prog Hd.G arb:=Hd.entry (l:=[ap1,aqH,ao5,aph,apt,aqs,arj,aqx,aqB,apM,apI,arD,aq6,aqL,arA,apX,arh,ard,ap5,aqA,aoR]) (m:=1000000) (Am.cons agx (Am.cons ahx (Am.cons agm (Am.cons ah7 (Am.cons ah9 (Am.cons ajx (Am.cons aiA (Am.cons ah6 (Am.cons ahm (Am.cons ah8 (Am.cons aiD (Am.cons ahe (Am.cons ah3 (Am.cons ajj (Am.cons aiM (Am.cons ahX (Am.cons ajB (Am.cons aiB (Am.cons agL (Am.cons agG (Am.cons air Hd.none))))))))))))))))))))) (by kernel_rfl) (by kernel_rfl)
def aqK:CH:=⟨117,[],(some ([k29,(.sc (.int .i64 (.ofNat 0))),(.sc (.int .i64 (.ofNat 88))),(.sc (.int .i64 (.ofNat 0))),(.sc (.int .i64 (.ofNat 0)))],[k29,(.sc (.int .i64 (.ofNat 6))),(.sc (.int .i64 (.ofNat 88))),(.sc (.int .i64 (.ofNat 0))),(.sc (.int .i64 (.ofNat 0)))])),(.agg [(.sc (.int .i64 (.ofNat 3))),(Aj [108]),(Aj [69,85,82]),(.sc (.int .i64 (.ofNat 1))),(.sc (.int .i64 (.ofNat 0))),(.sc (.int .i64 (.ofNat 0))),(.sc (.int .i64 (.ofNat 0))),(.sc (.int .i64 (.ofNat 0))),(.sl .full 0 []),(.sl .full 0 []),(.sc (.int .i64 (.ofNat 0)))])⟩
def aiW:AE Tryz.prog Hd.G aqK:=Hd.entry (l:=[vX,e84,e86,e92,e94,e97,abX]) (m:=1000000) (Am.cons Nf (Am.cons Of (Am.cons Tb (Am.cons WG (Am.cons Tw (Am.cons WB (Am.cons Xr Hd.none))))))) (by kernel_rfl) (by kernel_rfl)
def apT:CH:=⟨159,[],(some ([k29,(.sc (.int .i64 (.ofNat 10))),(.sc (.int .i64 (.ofNat 88))),(.sc (.int .i64 (.ofNat 0))),(.sc (.int .i64 (.ofNat 0)))],[k29,(.sc (.int .i64 (.ofNat 16))),(.sc (.int .i64 (.ofNat 88))),(.sc (.int .i64 (.ofNat 0))),(.sc (.int .i64 (.ofNat 0)))])),(.agg [(.sc (.int .i64 (.ofNat 5))),(Aj []),(Aj []),(.sc (.int .i64 (.ofNat 0))),(.sc (.int .i64 (.ofNat 8766))),(.sc (.int .i64 (.ofNat 36525))),(.sc (.int .i64 (.ofNat 8766))),(.sc (.int .i64 (.ofNat 0))),(.sl .full 0 []),(.sl .full 0 []),(.sc (.int .i64 (.ofNat 35)))])⟩
def agE:AE Tryz.prog Hd.G apT:=Hd.entry (l:=[e86,e92,abX]) (m:=1000000) (Am.cons Tb (Am.cons WG (Am.cons Xr Hd.none))) (by kernel_rfl) (by kernel_rfl)
def arm:CH:=⟨187,[],(some ([k29,(.sc (.int .i64 (.ofNat 18))),(.sc (.int .i64 (.ofNat 88))),(.sc (.int .i64 (.ofNat 0))),(.sc (.int .i64 (.ofNat 0)))],[k29,(.sc (.int .i64 (.ofNat 19))),(.sc (.int .i64 (.ofNat 88))),(.sc (.int .i64 (.ofNat 0))),(.sc (.int .i64 (.ofNat 0)))])),(.agg [(.sc (.int .i64 (.ofNat 11))),(Aj []),(Aj [110,117,109,98,101,114]),(.sc (.int .i64 (.ofNat 1))),(.sc (.int .i64 (.ofNat 0))),(.sc (.int .i64 (.ofNat 0))),(.sc (.int .i64 (.ofNat 0))),(.sc (.int .i64 (.ofNat 0))),(.sl .full 0 []),(.sl .full 0 []),(.sc (.int .i64 (.ofNat 84)))])⟩
def agF:AE Tryz.prog Hd.G arm:=Hd.entry (l:=[vX,e84,e94,e97]) (m:=1000000) (Am.cons Nf (Am.cons Of (Am.cons Tw (Am.cons WB Hd.none)))) (by kernel_rfl) (by kernel_rfl)
def apw:CH:=⟨160,[],(some ([k29,(.sc (.int .i64 (.ofNat 16))),(.sc (.int .i64 (.ofNat 88))),(.sc (.int .i64 (.ofNat 0))),(.sc (.int .i64 (.ofNat 0)))],[k29,(.sc (.int .i64 (.ofNat 21))),(.sc (.int .i64 (.ofNat 88))),(.sc (.int .i64 (.ofNat 0))),(.sc (.int .i64 (.ofNat 0)))])),k31⟩
def aiS:AE Tryz.prog Hd.G apw:=Hd.entry (l:=[arm]) (m:=1000000) (Am.cons agF Hd.none) (by kernel_rfl) (by kernel_rfl)
def ao4:CH:=⟨117,[],(some ([k29,(.sc (.int .i64 (.ofNat 6))),(.sc (.int .i64 (.ofNat 88))),(.sc (.int .i64 (.ofNat 0))),(.sc (.int .i64 (.ofNat 0)))],[k29,(.sc (.int .i64 (.ofNat 21))),(.sc (.int .i64 (.ofNat 88))),(.sc (.int .i64 (.ofNat 0))),(.sc (.int .i64 (.ofNat 0)))])),(.agg [(.sc (.int .i64 (.ofNat 4))),(Aj [108]),(Aj []),(.sc (.int .i64 (.ofNat 1))),(.sc (.int .i64 (.ofNat 0))),(.sc (.int .i64 (.ofNat 0))),(.sc (.int .i64 (.ofNat 0))),(.sc (.int .i64 (.ofNat 0))),(.sl .full 0 []),k32,(.sc (.int .i64 (.ofNat 19)))])⟩
def aiz:AE Tryz.prog Hd.G ao4:=Hd.entry (l:=[vX,e84,e86,e92,e94,e97,abX,apT,apw]) (m:=1000000) (Am.cons Nf (Am.cons Of (Am.cons Tb (Am.cons WG (Am.cons Tw (Am.cons WB (Am.cons Xr (Am.cons agE (Am.cons aiS Hd.none))))))))) (by kernel_rfl) (by kernel_rfl)
end Go.Proofs.YtnijkdknnmgoeaaGreat
namespace Go.Proofs.YtnijkdknnmgoeaaGreat
open AI
set_option maxRecDepth 100000
set_option maxHeartbeats 4000000
def k33:AV:=.sl .lost 2 [(.sc (.int .i64 (.ofNat 3))),(Aj [108]),(Aj [69,85,82]),(.sc (.int .i64 (.ofNat 1))),(.sc (.int .i64 (.ofNat 0))),(.sc (.int .i64 (.ofNat 0))),(.sc (.int .i64 (.ofNat 0))),(.sc (.int .i64 (.ofNat 0))),(.sl .full 0 []),(.sl .full 0 []),(.sc (.int .i64 (.ofNat 0))),(.sc (.int .i64 (.ofNat 4))),(Aj [108]),(Aj []),(.sc (.int .i64 (.ofNat 1))),(.sc (.int .i64 (.ofNat 0))),(.sc (.int .i64 (.ofNat 0))),(.sc (.int .i64 (.ofNat 0))),(.sc (.int .i64 (.ofNat 0))),(.sl .full 0 []),k32,(.sc (.int .i64 (.ofNat 19)))]
def k34:AV:=.sl .lost 2 [(.sc (.int .i64 (.ofNat 2))),(.sc (.int .i64 (.ofNat 0))),(Aj [110,117,109,98,101,114]),(.sc (.int .i64 (.ofNat 0))),(.sl .full 0 []),(.sl .full 0 []),(.sc (.int .i64 (.ofNat 1))),(.sc (.int .i64 (.ofNat 3))),(Aj [110,117,109,98,101,114]),(.sc (.int .i64 (.ofNat 0))),(.sl .full 0 []),(.sl .full 0 [])]
def k35:AV:=.sl .lost 2 [(.sc (.int .i64 (.ofNat 1))),(.sc (.int .i64 (.ofNat 100))),(Aj [69,85,82]),(.sc (.int .i64 (.ofNat 0))),(.sl .full 0 []),(.sl .full 0 []),(.sc (.int .i64 (.ofNat 2))),(.sc (.int .i64 (.ofNat 0))),(Aj [110,117,109,98,101,114]),(.sc (.int .i64 (.ofNat 0))),(.sl .full 0 []),(.sl .full 0 [])]
def k36:AV:=.sl .lost 2 [(.sc (.int .i64 (.ofNat 4))),(.sc (.int .i64 (.ofNat 1))),(Aj [110,117,109,98,101,114]),(.sc (.int .i64 (.ofNat 0))),(.sl .full 0 []),(.sl .full 0 []),(.sc (.int .i64 (.ofNat 1))),(.sc (.int .i64 (.ofNat 1))),(Aj [110,117,109,98,101,114]),(.sc (.int .i64 (.ofNat 0))),(.sl .full 0 []),(.sl .full 0 [])]
def k37:AV:=.sl .lost 2 [(.sc (.int .i64 (.ofNat 8))),(.sc (.int .i64 (.ofNat 0))),(Aj [116,114,117,116,104]),(.sc (.int .i64 (.ofNat 0))),(.sl .full 0 []),k36,(.sc (.int .i64 (.ofNat 5))),(.sc (.int .i64 (.ofNat 0))),(Aj [116,114,117,116,104]),(.sc (.int .i64 (.ofNat 0))),(.sl .full 0 []),(.sl .full 1 [(.sc (.int .i64 (.ofNat 8))),(.sc (.int .i64 (.ofNat 0))),(Aj [116,114,117,116,104]),(.sc (.int .i64 (.ofNat 0))),(.sl .full 0 []),k34])]
def mO:AV:=.sl .lost 3 [(.sc (.int .i64 (.ofNat 1))),(.sc (.int .i64 (.ofNat 0))),(.sc (.int .i64 (.ofNat 0))),(.sc (.int .i64 (.ofNat 8766))),(.sc (.int .i64 (.ofNat 36525))),(.sc (.int .i64 (.ofNat 8766))),(.sl .lost 1 [(.sc (.int .i64 (.ofNat 5))),(.sc (.int .i64 (.ofNat 0))),(Aj [116,114,117,116,104]),(.sc (.int .i64 (.ofNat 0))),(.sl .full 0 []),(.sl .full 1 [(.sc (.int .i64 (.ofNat 8))),(.sc (.int .i64 (.ofNat 0))),(Aj [116,114,117,116,104]),(.sc (.int .i64 (.ofNat 0))),(.sl .full 0 []),k34])]),(.sl .full 0 []),(.sc (.int .i64 (.ofNat 13))),(.sc (.int .i64 (.ofNat 0))),(Aj [69,85,82]),(.sc (.int .i64 (.ofNat 0))),(.sl .full 0 []),k35,(.sc (.int .i64 (.ofNat 2))),(.sc (.int .i64 (.ofNat 0))),(.sc (.int .i64 (.ofNat 0))),(.sc (.int .i64 (.ofNat 8766))),(.sc (.int .i64 (.ofNat 9132))),(.sc (.int .i64 (.ofNat 8766))),k37,(.sl .full 0 []),(.sc (.int .i64 (.ofNat 3))),(.sc (.int .i64 (.ofNat 3))),(Aj [69,85,82]),(.sc (.int .i64 (.ofNat 0))),(.sl .full 0 []),(.sl .full 0 []),(.sc (.int .i64 (.ofNat 3))),(.sc (.int .i64 (.ofNat 0))),(.sc (.int .i64 (.ofNat 0))),(.sc (.int .i64 (.ofNat 8766))),(.sc (.int .i64 (.ofNat 36525))),(.sc (.int .i64 (.ofNat 8797))),(.sl .full 0 []),(.sl .lost 1 [(.sc (.int .i64 (.ofNat 1)))]),(.sc (.int .i64 (.ofNat 1))),(.sc (.int .i64 (.ofNat 0))),(Aj [69,85,82]),(.sc (.int .i64 (.ofNat 0))),(.sl .full 0 []),(.sl .full 0 [])]
def aqY:CH:=⟨72,[fE],none,(.Bj [(.agg [(.sc (.int .i64 (.ofNat 1))),(Aj []),(Aj []),(.sc (.int .i64 (.ofNat 0))),(.sc (.int .i64 (.ofNat 0))),(.sc (.int .i64 (.ofNat 0))),(.sc (.int .i64 (.ofNat 0))),(.sc (.int .i64 (.ofNat 0))),(.sl .full 0 []),k33,(.sc (.int .i64 (.ofNat 0)))]),(.sl .full 0 [])])⟩
def ahw:AE Tryz.prog Hd.G aqY:=Hd.entry (l:=[arb,aqK,ao4]) (m:=1000000) (Am.cons ajh (Am.cons aiW (Am.cons aiz Hd.none))) (by kernel_rfl) (by kernel_rfl)
def al1:CH:=⟨80,[(.agg [(.sc (.int .i64 (.ofNat 2))),(Aj [97]),(Aj [110,117,109,98,101,114]),(.sc (.int .i64 (.ofNat 0))),(.sc (.int .i64 (.ofNat 0))),(.sc (.int .i64 (.ofNat 0))),(.sc (.int .i64 (.ofNat 0))),(.sc (.int .i64 (.ofNat 0))),(.sl .full 0 []),(.sl .full 0 []),(.sc (.int .i64 (.ofNat 0)))]),(.sc (.int .i64 (.ofNat 2)))],(some ([(.sc (.int .i64 (.ofNat 1)))],[(.sc (.int .i64 (.ofNat 2)))])),(.sc (.bool true))⟩
def aaz:AE Tryz.prog Hd.G al1:=Hd.entry (l:=[]) (m:=1000000) Hd.none (by kernel_rfl) (by kernel_rfl)
def an0:CH:=⟨80,[(.agg [(.sc (.int .i64 (.ofNat 3))),(Aj [108]),(Aj [69,85,82]),(.sc (.int .i64 (.ofNat 1))),(.sc (.int .i64 (.ofNat 0))),(.sc (.int .i64 (.ofNat 0))),(.sc (.int .i64 (.ofNat 0))),(.sc (.int .i64 (.ofNat 0))),(.sl .full 0 []),(.sl .full 0 []),(.sc (.int .i64 (.ofNat 17)))]),(.sc (.int .i64 (.ofNat 2)))],(some ([(.sc (.int .i64 (.ofNat 2)))],[(.sc (.int .i64 (.ofNat 3)))])),(.sc (.bool true))⟩
def aaV:AE Tryz.prog Hd.G an0:=Hd.entry (l:=[]) (m:=1000000) Hd.none (by kernel_rfl) (by kernel_rfl)
def anX:CH:=⟨80,[(.agg [(.sc (.int .i64 (.ofNat 4))),(Aj [108]),(Aj []),(.sc (.int .i64 (.ofNat 1))),(.sc (.int .i64 (.ofNat 0))),(.sc (.int .i64 (.ofNat 0))),(.sc (.int .i64 (.ofNat 0))),(.sc (.int .i64 (.ofNat 0))),(.sl .full 0 []),k15,(.sc (.int .i64 (.ofNat 36)))]),(.sc (.int .i64 (.ofNat 2)))],(some ([(.sc (.int .i64 (.ofNat 3)))],[(.sc (.int .i64 (.ofNat 13)))])),(.sc (.bool true))⟩
def aab:AE Tryz.prog Hd.G anX:=Hd.entry (l:=[]) (m:=1000000) Hd.none (by kernel_rfl) (by kernel_rfl)
def al5:CH:=⟨80,[(.agg [(.sc (.int .i64 (.ofNat 4))),(Aj [108]),(Aj []),(.sc (.int .i64 (.ofNat 2))),(.sc (.int .i64 (.ofNat 0))),(.sc (.int .i64 (.ofNat 0))),(.sc (.int .i64 (.ofNat 0))),(.sc (.int .i64 (.ofNat 0))),(.sl .full 0 []),k22,(.sc (.int .i64 (.ofNat 130)))]),(.sc (.int .i64 (.ofNat 2)))],(some ([(.sc (.int .i64 (.ofNat 13)))],[(.sc (.int .i64 (.ofNat 25)))])),(.sc (.bool true))⟩
def aap:AE Tryz.prog Hd.G al5:=Hd.entry (l:=[]) (m:=1000000) Hd.none (by kernel_rfl) (by kernel_rfl)
def akM:CH:=⟨80,[(.agg [(.sc (.int .i64 (.ofNat 4))),(Aj [108]),(Aj []),(.sc (.int .i64 (.ofNat 3))),(.sc (.int .i64 (.ofNat 0))),(.sc (.int .i64 (.ofNat 0))),(.sc (.int .i64 (.ofNat 0))),(.sc (.int .i64 (.ofNat 0))),(.sl .full 0 []),k26,(.sc (.int .i64 (.ofNat 250)))]),(.sc (.int .i64 (.ofNat 2)))],(some ([(.sc (.int .i64 (.ofNat 25)))],[(.sc (.int .i64 (.ofNat 31)))])),(.sc (.bool true))⟩
def zS:AE Tryz.prog Hd.G akM:=Hd.entry (l:=[]) (m:=1000000) Hd.none (by kernel_rfl) (by kernel_rfl)
def agK:CH:=⟨45,[(.agg [(.sc (.int .i64 (.ofNat 1))),(Aj []),(Aj []),(.sc (.int .i64 (.ofNat 0))),(.sc (.int .i64 (.ofNat 0))),(.sc (.int .i64 (.ofNat 0))),(.sc (.int .i64 (.ofNat 0))),(.sc (.int .i64 (.ofNat 0))),(.sl .full 0 []),k27,(.sc (.int .i64 (.ofNat 0)))])],none,(.sc (.bool true))⟩
def qA:AE Tryz.prog Hd.G agK:=Hd.entry (l:=[al1,an0,anX,al5,akM]) (m:=1000000) (Am.cons aaz (Am.cons aaV (Am.cons aab (Am.cons aap (Am.cons zS Hd.none))))) (by kernel_rfl) (by kernel_rfl)
def aiq:CH:=⟨46,[(.agg [(.sc (.int .i64 (.ofNat 1))),(Aj []),(Aj []),(.sc (.int .i64 (.ofNat 0))),(.sc (.int .i64 (.ofNat 0))),(.sc (.int .i64 (.ofNat 0))),(.sc (.int .i64 (.ofNat 0))),(.sc (.int .i64 (.ofNat 0))),(.sl .full 0 []),k27,(.sc (.int .i64 (.ofNat 0)))])],none,(.sl .full 0 [])⟩
def oW:AE Tryz.prog Hd.G aiq:=Hd.entry (l:=[]) (m:=1000000) Hd.none (by kernel_rfl) (by kernel_rfl)
def aoY:CH:=⟨14,[(.agg [(.sc (.int .i64 (.ofNat 1))),(Aj []),(Aj []),(.sc (.int .i64 (.ofNat 0))),(.sc (.int .i64 (.ofNat 0))),(.sc (.int .i64 (.ofNat 0))),(.sc (.int .i64 (.ofNat 0))),(.sc (.int .i64 (.ofNat 0))),(.sl .full 0 []),k27,(.sc (.int .i64 (.ofNat 0)))])],none,(.Bj [(.agg [(.sl .lost 1 [(Aj [97]),(Aj [110,117,109,98,101,114]),(.sc (.int .i64 (.ofNat 0)))]),(.sl .lost 1 [(Aj [108]),(Aj [69,85,82]),(.sc (.int .i64 (.ofNat 1)))]),mO]),(.sl .full 0 [])])⟩
def agz:AE Tryz.prog Hd.G aoY:=Hd.entry (l:=[agK,aiq]) (m:=1000000) (Am.cons qA (Am.cons oW Hd.none)) (by kernel_rfl) (by kernel_rfl)
def aqm:CH:=⟨80,[(.agg [(.sc (.int .i64 (.ofNat 3))),(Aj [108]),(Aj [69,85,82]),(.sc (.int .i64 (.ofNat 1))),(.sc (.int .i64 (.ofNat 0))),(.sc (.int .i64 (.ofNat 0))),(.sc (.int .i64 (.ofNat 0))),(.sc (.int .i64 (.ofNat 0))),(.sl .full 0 []),(.sl .full 0 []),(.sc (.int .i64 (.ofNat 0)))]),(.sc (.int .i64 (.ofNat 2)))],(some ([(.sc (.int .i64 (.ofNat 1)))],[(.sc (.int .i64 (.ofNat 2)))])),(.sc (.bool true))⟩
def ahE:AE Tryz.prog Hd.G aqm:=Hd.entry (l:=[]) (m:=1000000) Hd.none (by kernel_rfl) (by kernel_rfl)
def aqa:CH:=⟨80,[(.agg [(.sc (.int .i64 (.ofNat 4))),(Aj [108]),(Aj []),(.sc (.int .i64 (.ofNat 1))),(.sc (.int .i64 (.ofNat 0))),(.sc (.int .i64 (.ofNat 0))),(.sc (.int .i64 (.ofNat 0))),(.sc (.int .i64 (.ofNat 0))),(.sl .full 0 []),k32,(.sc (.int .i64 (.ofNat 19)))]),(.sc (.int .i64 (.ofNat 2)))],(some ([(.sc (.int .i64 (.ofNat 2)))],[(.sc (.int .i64 (.ofNat 6)))])),(.sc (.bool true))⟩
def ahp:AE Tryz.prog Hd.G aqa:=Hd.entry (l:=[]) (m:=1000000) Hd.none (by kernel_rfl) (by kernel_rfl)
def ani:CH:=⟨45,[(.agg [(.sc (.int .i64 (.ofNat 1))),(Aj []),(Aj []),(.sc (.int .i64 (.ofNat 0))),(.sc (.int .i64 (.ofNat 0))),(.sc (.int .i64 (.ofNat 0))),(.sc (.int .i64 (.ofNat 0))),(.sc (.int .i64 (.ofNat 0))),(.sl .full 0 []),k33,(.sc (.int .i64 (.ofNat 0)))])],none,(.sc (.bool true))⟩
def aaq:AE Tryz.prog Hd.G ani:=Hd.entry (l:=[al1,an0,anX,al5,akM,aqm,aqa]) (m:=1000000) (Am.cons aaz (Am.cons aaV (Am.cons aab (Am.cons aap (Am.cons zS (Am.cons ahE (Am.cons ahp Hd.none))))))) (by kernel_rfl) (by kernel_rfl)
def akJ:CH:=⟨46,[(.agg [(.sc (.int .i64 (.ofNat 1))),(Aj []),(Aj []),(.sc (.int .i64 (.ofNat 0))),(.sc (.int .i64 (.ofNat 0))),(.sc (.int .i64 (.ofNat 0))),(.sc (.int .i64 (.ofNat 0))),(.sc (.int .i64 (.ofNat 0))),(.sl .full 0 []),k33,(.sc (.int .i64 (.ofNat 0)))])],none,(.sl .lost 1 [(.sc (.int .i64 (.ofNat 11))),(.sc (.int .i64 (.ofNat 84)))])⟩
def aau:AE Tryz.prog Hd.G akJ:=Hd.entry (l:=[]) (m:=1000000) Hd.none (by kernel_rfl) (by kernel_rfl)
def aq0:CH:=⟨14,[(.agg [(.sc (.int .i64 (.ofNat 1))),(Aj []),(Aj []),(.sc (.int .i64 (.ofNat 0))),(.sc (.int .i64 (.ofNat 0))),(.sc (.int .i64 (.ofNat 0))),(.sc (.int .i64 (.ofNat 0))),(.sc (.int .i64 (.ofNat 0))),(.sl .full 0 []),k33,(.sc (.int .i64 (.ofNat 0)))])],none,(.Bj [(.agg [(.sl .full 0 []),(.sl .full 0 []),(.sl .full 0 [])]),(.sl .lost 1 [(.sc (.int .i64 (.ofNat 11))),(.sc (.int .i64 (.ofNat 84)))])])⟩
def ahO:AE Tryz.prog Hd.G aq0:=Hd.entry (l:=[agK,aiq,ani,akJ]) (m:=1000000) (Am.cons qA (Am.cons oW (Am.cons aaq (Am.cons aau Hd.none)))) (by kernel_rfl) (by kernel_rfl)
def apo:CH:=⟨14,[(.agg [(.sc (.int .i64 (.ofNat 11))),(Aj []),(Aj [110,117,109,98,101,114]),(.sc (.int .i64 (.ofNat 1))),(.sc (.int .i64 (.ofNat 0))),(.sc (.int .i64 (.ofNat 0))),(.sc (.int .i64 (.ofNat 0))),(.sc (.int .i64 (.ofNat 0))),(.sl .full 0 []),(.sl .full 0 []),(.sc (.int .i64 (.ofNat 0)))])],none,(.Bj [(.agg [(.sl .full 0 []),(.sl .full 0 []),(.sl .full 0 [])]),(.sl .full 1 [(.sc (.int .i64 (.ofNat 1))),(.sc (.int .i64 (.ofNat 0)))])])⟩
def aiX:AE Tryz.prog Hd.G apo:=Hd.entry (l:=[agK,aiq,ani,akJ]) (m:=1000000) (Am.cons qA (Am.cons oW (Am.cons aaq (Am.cons aau Hd.none)))) (by kernel_rfl) (by kernel_rfl)
def aq4:CH:=⟨16,[(.agg [(.sl .lost 1 [(Aj [97]),(Aj [110,117,109,98,101,114]),(.sc (.int .i64 (.ofNat 0)))]),(.sl .lost 1 [(Aj [108]),(Aj [69,85,82]),(.sc (.int .i64 (.ofNat 1)))]),mO]),(.sc (.int .i64 (.ofNat 2))),(.sc (.int .i64 (.ofNat 8766))),(.sc (.int .i64 (.ofNat 8766)))],none,(.Bj [(.sc (.int .i64 (.ofNat 1))),(.sc (.bool true))])⟩
def ahM:AE Tryz.prog Hd.G aq4:=Hd.entry (l:=[]) (m:=1000000) Hd.none (by kernel_rfl) (by kernel_rfl)
end Go.Proofs.YtnijkdknnmgoeaaGreat
namespace Go.Proofs.YtnijkdknnmgoeaaGreat
open AI
set_option maxRecDepth 100000
set_option maxHeartbeats 4000000
def k39:AV:=.sl .full 2 [(.sc (.int .i64 (.ofNat 2))),(.sc (.int .i64 (.ofNat 0))),(Aj [110,117,109,98,101,114]),(.sc (.int .i64 (.ofNat 0))),(.sl .full 0 []),(.sl .full 0 []),(.sc (.int .i64 (.ofNat 1))),(.sc (.int .i64 (.ofNat 3))),(Aj [110,117,109,98,101,114]),(.sc (.int .i64 (.ofNat 0))),(.sl .full 0 []),(.sl .full 0 [])]
def aqk:CH:=⟨16,[(.agg [(.sl .lost 1 [(Aj [97]),(Aj [110,117,109,98,101,114]),(.sc (.int .i64 (.ofNat 0)))]),(.sl .lost 1 [(Aj [108]),(Aj [69,85,82]),(.sc (.int .i64 (.ofNat 1)))]),mO]),(.sc (.int .i64 (.ofNat 3))),(.sc (.int .i64 (.ofNat 8766))),(.sc (.int .i64 (.ofNat 8796)))],none,(.Bj [(.sc (.int .i64 (.ofNat 0))),(.sc (.bool false))])⟩
def ain:AE Tryz.prog Hd.G aqk:=Hd.entry (l:=[]) (m:=1000000) Hd.none (by kernel_rfl) (by kernel_rfl)
def ao7:CH:=⟨16,[(.agg [(.sl .lost 1 [(Aj [97]),(Aj [110,117,109,98,101,114]),(.sc (.int .i64 (.ofNat 0)))]),(.sl .lost 1 [(Aj [108]),(Aj [69,85,82]),(.sc (.int .i64 (.ofNat 1)))]),mO]),(.sc (.int .i64 (.ofNat 2))),(.sc (.int .i64 (.ofNat 9132))),(.sc (.int .i64 (.ofNat 9999)))],none,(.Bj [(.sc (.int .i64 (.ofNat 0))),(.sc (.bool false))])⟩
def aim:AE Tryz.prog Hd.G ao7:=Hd.entry (l:=[]) (m:=1000000) Hd.none (by kernel_rfl) (by kernel_rfl)
def acj:CH:=⟨22,[(.agg [(.sl .lost 1 [(Aj [97]),(Aj [110,117,109,98,101,114]),(.sc (.int .i64 (.ofNat 0)))]),(.sl .lost 1 [(Aj [108]),(Aj [69,85,82]),(.sc (.int .i64 (.ofNat 1)))]),mO])],none,(.sc (.bool true))⟩
def Xp:AE Tryz.prog Hd.G acj:=Hd.entry (l:=[]) (m:=1000000) Hd.none (by kernel_rfl) (by kernel_rfl)
def afI:CH:=⟨24,[(.agg [(.sl .lost 1 [(Aj [97]),(Aj [110,117,109,98,101,114]),(.sc (.int .i64 (.ofNat 0)))]),(.sl .lost 1 [(Aj [108]),(Aj [69,85,82]),(.sc (.int .i64 (.ofNat 1)))]),mO]),(.sc (.int .i64 (.ofNat 0))),(.sc (.int .i64 (.ofNat 0)))],none,(.sc (.bool false))⟩
def bO:AE Tryz.prog Hd.G afI:=Hd.entry (l:=[]) (m:=1000000) Hd.none (by kernel_rfl) (by kernel_rfl)
def afi:CH:=⟨24,[(.agg [(.sl .lost 1 [(Aj [97]),(Aj [110,117,109,98,101,114]),(.sc (.int .i64 (.ofNat 0)))]),(.sl .lost 1 [(Aj [108]),(Aj [69,85,82]),(.sc (.int .i64 (.ofNat 1)))]),mO]),(.sc (.int .i64 (.ofNat 1))),(.sc (.int .i64 (.ofNat 0)))],none,(.sc (.bool true))⟩
def cC:AE Tryz.prog Hd.G afi:=Hd.entry (l:=[]) (m:=1000000) Hd.none (by kernel_rfl) (by kernel_rfl)
def aeO:CH:=⟨24,[(.agg [(.sl .lost 1 [(Aj [97]),(Aj [110,117,109,98,101,114]),(.sc (.int .i64 (.ofNat 0)))]),(.sl .lost 1 [(Aj [108]),(Aj [69,85,82]),(.sc (.int .i64 (.ofNat 1)))]),mO]),(.sc (.int .i64 (.ofNat 2))),(.sc (.int .i64 (.ofNat 0)))],none,(.sc (.bool false))⟩
def bN:AE Tryz.prog Hd.G aeO:=Hd.entry (l:=[]) (m:=1000000) Hd.none (by kernel_rfl) (by kernel_rfl)
def ae6:CH:=⟨51,[(.agg [(.sl .lost 1 [(Aj [97]),(Aj [110,117,109,98,101,114]),(.sc (.int .i64 (.ofNat 0)))]),(.sl .lost 1 [(Aj [108]),(Aj [69,85,82]),(.sc (.int .i64 (.ofNat 1)))]),mO]),(.sc (.int .i64 (.ofNat 0)))],none,(.sl .lost 1 [(.sc (.int .i64 (.ofNat 1)))])⟩
def cR:AE Tryz.prog Hd.G ae6:=Hd.entry (l:=[afI,afi,aeO]) (m:=1000000) (Am.cons bO (Am.cons cC (Am.cons bN Hd.none))) (by kernel_rfl) (by kernel_rfl)
def agy:CH:=⟨24,[(.agg [(.sl .lost 1 [(Aj [97]),(Aj [110,117,109,98,101,114]),(.sc (.int .i64 (.ofNat 0)))]),(.sl .lost 1 [(Aj [108]),(Aj [69,85,82]),(.sc (.int .i64 (.ofNat 1)))]),mO]),(.sc (.int .i64 (.ofNat 0))),(.sc (.int .i64 (.ofNat 1)))],none,(.sc (.bool false))⟩
def pG:AE Tryz.prog Hd.G agy:=Hd.entry (l:=[]) (m:=1000000) Hd.none (by kernel_rfl) (by kernel_rfl)
def ag9:CH:=⟨24,[(.agg [(.sl .lost 1 [(Aj [97]),(Aj [110,117,109,98,101,114]),(.sc (.int .i64 (.ofNat 0)))]),(.sl .lost 1 [(Aj [108]),(Aj [69,85,82]),(.sc (.int .i64 (.ofNat 1)))]),mO]),(.sc (.int .i64 (.ofNat 1))),(.sc (.int .i64 (.ofNat 1)))],none,(.sc (.bool false))⟩
def mZ:AE Tryz.prog Hd.G ag9:=Hd.entry (l:=[]) (m:=1000000) Hd.none (by kernel_rfl) (by kernel_rfl)
def aeV:CH:=⟨51,[(.agg [(.sl .lost 1 [(Aj [97]),(Aj [110,117,109,98,101,114]),(.sc (.int .i64 (.ofNat 0)))]),(.sl .lost 1 [(Aj [108]),(Aj [69,85,82]),(.sc (.int .i64 (.ofNat 1)))]),mO]),(.sc (.int .i64 (.ofNat 1)))],none,(.sl .lost 1 [(.sc (.int .i64 (.ofNat 2)))])⟩
def bM:AE Tryz.prog Hd.G aeV:=Hd.entry (l:=[afI,afi,aeO,agy,ag9]) (m:=1000000) (Am.cons bO (Am.cons cC (Am.cons bN (Am.cons pG (Am.cons mZ Hd.none))))) (by kernel_rfl) (by kernel_rfl)
def amv:CH:=⟨24,[(.agg [(.sl .lost 1 [(Aj [97]),(Aj [110,117,109,98,101,114]),(.sc (.int .i64 (.ofNat 0)))]),(.sl .lost 1 [(Aj [108]),(Aj [69,85,82]),(.sc (.int .i64 (.ofNat 1)))]),mO]),(.sc (.int .i64 (.ofNat 1))),(.sc (.int .i64 (.ofNat 2)))],none,(.sc (.bool true))⟩
def aaW:AE Tryz.prog Hd.G amv:=Hd.entry (l:=[]) (m:=1000000) Hd.none (by kernel_rfl) (by kernel_rfl)
def amc:CH:=⟨24,[(.agg [(.sl .lost 1 [(Aj [97]),(Aj [110,117,109,98,101,114]),(.sc (.int .i64 (.ofNat 0)))]),(.sl .lost 1 [(Aj [108]),(Aj [69,85,82]),(.sc (.int .i64 (.ofNat 1)))]),mO]),(.sc (.int .i64 (.ofNat 2))),(.sc (.int .i64 (.ofNat 2)))],none,(.sc (.bool false))⟩
def aaD:AE Tryz.prog Hd.G amc:=Hd.entry (l:=[]) (m:=1000000) Hd.none (by kernel_rfl) (by kernel_rfl)
def aev:CH:=⟨51,[(.agg [(.sl .lost 1 [(Aj [97]),(Aj [110,117,109,98,101,114]),(.sc (.int .i64 (.ofNat 0)))]),(.sl .lost 1 [(Aj [108]),(Aj [69,85,82]),(.sc (.int .i64 (.ofNat 1)))]),mO]),(.sc (.int .i64 (.ofNat 2)))],none,(.sl .lost 2 [(.sc (.int .i64 (.ofNat 0))),(.sc (.int .i64 (.ofNat 1)))])⟩
def bQ:AE Tryz.prog Hd.G aev:=Hd.entry (l:=[afI,afi,aeO,agy,ag9,amv,amc]) (m:=1000000) (Am.cons bO (Am.cons cC (Am.cons bN (Am.cons pG (Am.cons mZ (Am.cons aaW (Am.cons aaD Hd.none))))))) (by kernel_rfl) (by kernel_rfl)
def apv:CH:=⟨18,[(.agg [(.sl .lost 1 [(Aj [97]),(Aj [110,117,109,98,101,114]),(.sc (.int .i64 (.ofNat 0)))]),(.sl .lost 1 [(Aj [108]),(Aj [69,85,82]),(.sc (.int .i64 (.ofNat 1)))]),mO])],none,(.Bj [(.sl .full 0 []),(.sc (.bool false))])⟩
def ajt:AE Tryz.prog Hd.G apv:=Hd.entry (l:=[acj,ae6,aeV,aev]) (m:=1000000) (Am.cons Xp (Am.cons cR (Am.cons bM (Am.cons bQ Hd.none)))) (by kernel_rfl) (by kernel_rfl)
def arz:CH:=⟨41,[(.agg [(.sc (.int .i64 (.ofNat 5))),(.sc (.int .i64 (.ofNat 0))),(Aj [116,114,117,116,104]),(.sc (.int .i64 (.ofNat 0))),(.sl .full 0 []),(.sl .full 1 [(.sc (.int .i64 (.ofNat 8))),(.sc (.int .i64 (.ofNat 0))),(Aj [116,114,117,116,104]),(.sc (.int .i64 (.ofNat 0))),(.sl .full 0 []),k34])]),(.agg [(.sc (.int .i64 (.ofNat 5))),(.sc (.int .i64 (.ofNat 0))),(Aj [116,114,117,116,104]),(.sc (.int .i64 (.ofNat 0))),(.sl .full 0 []),(.sl .full 1 [(.sc (.int .i64 (.ofNat 8))),(.sc (.int .i64 (.ofNat 0))),(Aj [116,114,117,116,104]),(.sc (.int .i64 (.ofNat 0))),(.sl .full 0 []),k39])])],none,(.sc (.bool true))⟩
def ahQ:AE Tryz.prog Hd.G arz:=Hd.entry (l:=[]) (m:=1000000) Hd.none (by kernel_rfl) (by kernel_rfl)
def aqv:CH:=⟨24,[(.agg [(.sl .lost 1 [(Aj [97]),(Aj [110,117,109,98,101,114]),(.sc (.int .i64 (.ofNat 0)))]),(.sl .lost 1 [(Aj [108]),(Aj [69,85,82]),(.sc (.int .i64 (.ofNat 1)))]),mO]),(.sc (.int .i64 (.ofNat 0))),(.sc (.int .i64 (.ofNat 2)))],none,(.sc (.bool true))⟩
def aiL:AE Tryz.prog Hd.G aqv:=Hd.entry (l:=[]) (m:=1000000) Hd.none (by kernel_rfl) (by kernel_rfl)
def arf:CH:=⟨27,[(.agg [(.sl .lost 1 [(Aj [97]),(Aj [110,117,109,98,101,114]),(.sc (.int .i64 (.ofNat 0)))]),(.sl .lost 1 [(Aj [108]),(Aj [69,85,82]),(.sc (.int .i64 (.ofNat 1)))]),mO]),(.sc (.int .i64 (.ofNat 2)))],none,(.sl .lost 2 [(.sc (.int .i64 (.ofNat 0))),(.sc (.int .i64 (.ofNat 1)))])⟩
def aho:AE Tryz.prog Hd.G arf:=Hd.entry (l:=[acj,ae6,aeV,aev]) (m:=1000000) (Am.cons Xp (Am.cons cR (Am.cons bM (Am.cons bQ Hd.none)))) (by kernel_rfl) (by kernel_rfl)
def aqT:CH:=⟨27,[(.agg [(.sl .lost 1 [(Aj [97]),(Aj [110,117,109,98,101,114]),(.sc (.int .i64 (.ofNat 0)))]),(.sl .lost 1 [(Aj [108]),(Aj [69,85,82]),(.sc (.int .i64 (.ofNat 1)))]),mO]),(.sc (.int .i64 (.ofNat 1)))],none,(.sl .lost 1 [(.sc (.int .i64 (.ofNat 2)))])⟩
def aiO:AE Tryz.prog Hd.G aqT:=Hd.entry (l:=[acj,ae6,aeV,aev]) (m:=1000000) (Am.cons Xp (Am.cons cR (Am.cons bM (Am.cons bQ Hd.none)))) (by kernel_rfl) (by kernel_rfl)
def aqN:CH:=⟨27,[(.agg [(.sl .lost 1 [(Aj [97]),(Aj [110,117,109,98,101,114]),(.sc (.int .i64 (.ofNat 0)))]),(.sl .lost 1 [(Aj [108]),(Aj [69,85,82]),(.sc (.int .i64 (.ofNat 1)))]),mO]),(.sc (.int .i64 (.ofNat 0)))],none,(.sl .lost 1 [(.sc (.int .i64 (.ofNat 1)))])⟩
def aiF:AE Tryz.prog Hd.G aqN:=Hd.entry (l:=[acj,ae6,aeV,aev]) (m:=1000000) (Am.cons Xp (Am.cons cR (Am.cons bM (Am.cons bQ Hd.none)))) (by kernel_rfl) (by kernel_rfl)
def asA:CH:=⟨11,[],none,(.sc (.bool true))⟩
def aii:AE Tryz.prog Hd.G asA:=Hd.entry (l:=[aqG,aqY,aoY,aq0,apo,aq4,aqk,ao7,acj,afI,afi,aeO,agy,ag9,amv,amc,apv,arz,aqv,arf,aqT,aqN]) (m:=1000000) (Am.cons ago (Am.cons ahw (Am.cons agz (Am.cons ahO (Am.cons aiX (Am.cons ahM (Am.cons ain (Am.cons aim (Am.cons Xp (Am.cons bO (Am.cons cC (Am.cons bN (Am.cons pG (Am.cons mZ (Am.cons aaW (Am.cons aaD (Am.cons ajt (Am.cons ahQ (Am.cons aiL (Am.cons aho (Am.cons aiO (Am.cons aiF Hd.none)))))))))))))))))))))) (by kernel_rfl) (by kernel_rfl)
end Go.Proofs.YtnijkdknnmgoeaaGreat
namespace Go.Proofs.YtnijkdknnmgoeaaGreat
open AI Go
namespace Mo
set_option maxRecDepth 100000
set_option maxHeartbeats 4000000
def SZ:Option Bool:=some true
def jE{yR:Bool}(h:SZ=some yR):Pure P G 11 [] (.sc (.bool yR)):=by
 cases h;exact aii
def B3:Code:=Al Tryz.f3
def b3:Tryz.f3.body=some B3:=by kernel_rfl
def Eg(n:Nd)(c:Co)(number:Int)(day:Int)(known:Int)(a:Int)(b:Int):Option Bool:=(SZ).bind λy1=>(NW n).bind λy2=>cond y2 ((LK c).bind λy3=>cond y3 ((F6 n).bind λ(yS,kK)=>(Ik n).bind λ(Sa,Ke)=>(JH c number day known).bind λ(mJ,Ug)=>(JI c number day known).bind λ(y7a,fN)=>(Is c).bind λ(Xg,UP)=>(Ix c).bind λ(nJ,j7)=>cond y1 ((Ef yS Sa).bind λYT=>cond YT ((Gx kK Ke).bind λnI=>cond nI ((G4 c).bind λiW=>(Hf c).bind λoG=>cond iW (cond oG (cond (Ba mJ y7a) (cond Ug (cond fN ((En c a b).bind λnZ=>(EX c a b).bind λxA=>cond nZ (cond xA ((D1 c a).bind λy16=>(D0 c a).bind λOJ=>(AW y16 OJ).bind λgX=>cond gX (cond UP (cond j7 ((AW Xg nJ).bind λJf=>some Jf) (some false)) (cond j7 (some false) ((AW Xg nJ).bind λzZ=>some zZ))) (some false)) (some false)) (cond xA (some false) ((D1 c a).bind λy21=>(D0 c a).bind λy22=>(AW y21 y22).bind λy23=>cond y23 (cond UP (cond j7 ((AW Xg nJ).bind λy24=>some y24) (some false)) (cond j7 (some false) ((AW Xg nJ).bind λy25=>some y25))) (some false)))) (some false)) (cond fN (some false) ((En c a b).bind λy26=>(EX c a b).bind λy27=>cond y26 (cond y27 ((D1 c a).bind λy28=>(D0 c a).bind λy29=>(AW y28 y29).bind λy30=>cond y30 (cond UP (cond j7 ((AW Xg nJ).bind λy31=>some y31) (some false)) (cond j7 (some false) ((AW Xg nJ).bind λy32=>some y32))) (some false)) (some false)) (cond y27 (some false) ((D1 c a).bind λy33=>(D0 c a).bind λy34=>(AW y33 y34).bind λy35=>cond y35 (cond UP (cond j7 ((AW Xg nJ).bind λy36=>some y36) (some false)) (cond j7 (some false) ((AW Xg nJ).bind λy37=>some y37))) (some false)))))) (some false)) (some false)) (cond oG (some false) (cond (Ba mJ y7a) (cond Ug (cond fN ((En c a b).bind λy38=>(EX c a b).bind λy39=>cond y38 (cond y39 ((D1 c a).bind λy40=>(D0 c a).bind λy41=>(AW y40 y41).bind λy42=>cond y42 (cond UP (cond j7 ((AW Xg nJ).bind λy43=>some y43) (some false)) (cond j7 (some false) ((AW Xg nJ).bind λy44=>some y44))) (some false)) (some false)) (cond y39 (some false) ((D1 c a).bind λy45=>(D0 c a).bind λy46=>(AW y45 y46).bind λy47=>cond y47 (cond UP (cond j7 ((AW Xg nJ).bind λy48=>some y48) (some false)) (cond j7 (some false) ((AW Xg nJ).bind λy49=>some y49))) (some false)))) (some false)) (cond fN (some false) ((En c a b).bind λy50=>(EX c a b).bind λy51=>cond y50 (cond y51 ((D1 c a).bind λy52=>(D0 c a).bind λy53=>(AW y52 y53).bind λy54=>cond y54 (cond UP (cond j7 ((AW Xg nJ).bind λy55=>some y55) (some false)) (cond j7 (some false) ((AW Xg nJ).bind λy56=>some y56))) (some false)) (some false)) (cond y51 (some false) ((D1 c a).bind λy57=>(D0 c a).bind λy58=>(AW y57 y58).bind λy59=>cond y59 (cond UP (cond j7 ((AW Xg nJ).bind λy60=>some y60) (some false)) (cond j7 (some false) ((AW Xg nJ).bind λy61=>some y61))) (some false)))))) (some false)))) (some false)) (some false)) (some false)) (some y1)) (some y1)
def Nh{n:Nd}{c:Co}{number:Int}{day:Int}{known:Int}{a:Int}{b:Int}{yR:Bool}(h:Eg  n c number day known a b=some yR):Pure P G 3 [.agg (Dq n),.agg (Ko c),.sc (.int .i64 number),.sc (.int .i64 day),.sc (.int .i64 known),.sc (.int .i64 a),.sc (.int .i64 b)] (.sc (.bool yR)):=by
 unfold Eg at h;refine uJ Hd.mixed Hd.CY (Vs Tryz.func3 b3 ?_) (Aq (An.Cv n) (Aq (Cj.Cv c) (Aq rfl (Aq rfl (Aq rfl (Aq rfl (Aq rfl rfl))))))) rfl;revert h;refine Ah λy1 CK=>?_;refine Ah λy2 E7=>?_;let o1:List (PC P G):=[Ag (jE CK),Ag (bE E7)];refine Aa (λhv=>?_) λhv=>?_;subst hv;refine Ah λy3 Jb=>?_;let o2:List (PC P G):=o1++[Ag (Y1 Jb)];refine Aa (λhv=>?_) λhv=>?_;subst hv;refine Ah ?_;rintro⟨yS,kK⟩ OD;dsimp only;refine Ah ?_;rintro⟨Sa,Ke⟩ Lb;dsimp only;refine Ah ?_;rintro⟨mJ,Ug⟩ Rq;dsimp only;refine Ah ?_;rintro⟨y7a,fN⟩ Ub;dsimp only;refine Ah ?_;rintro⟨Xg,UP⟩ Xf;dsimp only;refine Ah ?_;rintro⟨nJ,j7⟩ cF;dsimp only;let o3:List (PC P G):=o2++[Ag (Zn OD),Ag (Zg Lb),Ag (Wp Rq),Ag (Wg Ub),Ag (Zl Xf),Ag (Zp cF)];refine Aa (λhv=>?_) λhv=>?_;subst hv;refine Ah λYT Pw=>?_;let o4:List (PC P G):=o3++[Ag (UR Pw)];refine Aa (λhv=>?_) λhv=>?_;subst hv;refine Ah λnI X5=>?_;let o5:List (PC P G):=o4++[Ag (UY X5)];refine Aa (λhv=>?_) λhv=>?_;subst hv;refine Ah λiW T4=>?_;refine Ah λoG Ux=>?_;let o6:List (PC P G):=o5++[Ag (I2 T4),Ag (IZ Ux),pk];refine Aa (λhv=>?_) λhv=>?_;subst hv;refine Aa (λhv=>?_) λhv=>?_;subst hv;refine Aa (λAx=>?_) λAx=>?_;let o7:List (PC P G):=o6++[pb Ax,pk];refine Aa (λhv=>?_) λhv=>?_;subst hv;refine Aa (λhv=>?_) λhv=>?_;subst hv;refine Ah λnZ Tl=>?_;refine Ah λxA VG=>?_;let o8:List (PC P G):=o7++[Ag (I1 Tl),Ag (Hk VG),pk];refine Aa (λhv=>?_) λhv=>?_;subst hv;refine Aa (λhv=>?_) λhv=>?_;subst hv;refine Ah λy16 Zd=>?_;refine Ah λOJ zA=>?_;refine Ah λgX Tn=>?_;let o9:List (PC P G):=o8++[Ag (EJ Zd),Ag (EI zA),Ag (AT Tn)];refine Aa (λhv=>?_) λhv=>?_;subst hv;refine Aa (λhv=>?_) λhv=>?_;subst hv;refine Aa (λhv=>?_) λhv=>?_;subst hv;refine Ah λJf eQ=>?_;intro h;have hE:=Option.some.inj h;subst hE;exact rS (Ds 300 (o9++[pk,Ag (AT eQ)])) (by kernel_rfl);subst hv;rintro⟨⟩;exact rS (Ds 300 (o9++[pk])) (by kernel_rfl);subst hv;refine Aa (λhv=>?_) λhv=>?_;subst hv;rintro⟨⟩;exact rS (Ds 300 (o9++[pk])) (by kernel_rfl);subst hv;refine Ah λzZ UC=>?_;intro h;have hE:=Option.some.inj h;subst hE;exact rS (Ds 300 (o9++[pk,Ag (AT UC)])) (by kernel_rfl);subst hv;rintro⟨⟩;exact rS (Ds 300 o9) (by kernel_rfl);subst hv;rintro⟨⟩;exact rS (Ds 300 o8) (by kernel_rfl);subst hv;refine Aa (λhv=>?_) λhv=>?_;subst hv;rintro⟨⟩;exact rS (Ds 300 o8) (by kernel_rfl);subst hv;refine Ah λy21 XZ=>?_;refine Ah λy22 vL=>?_;refine Ah λy23 gU=>?_;let So:List (PC P G):=o8++[Ag (EJ XZ),Ag (EI vL),Ag (AT gU)];refine Aa (λhv=>?_) λhv=>?_;subst hv;refine Aa (λhv=>?_) λhv=>?_;subst hv;refine Aa (λhv=>?_) λhv=>?_;subst hv;refine Ah λy24 v7=>?_;intro h;have hE:=Option.some.inj h;subst hE;exact rS (Ds 300 (So++[pk,Ag (AT v7)])) (by kernel_rfl);subst hv;rintro⟨⟩;exact rS (Ds 300 (So++[pk])) (by kernel_rfl);subst hv;refine Aa (λhv=>?_) λhv=>?_;subst hv;rintro⟨⟩;exact rS (Ds 300 (So++[pk])) (by kernel_rfl);subst hv;refine Ah λy25 uN=>?_;intro h;have hE:=Option.some.inj h;subst hE;exact rS (Ds 300 (So++[pk,Ag (AT uN)])) (by kernel_rfl);subst hv;rintro⟨⟩;exact rS (Ds 300 So) (by kernel_rfl);subst hv;rintro⟨⟩;exact rS (Ds 300 o7) (by kernel_rfl);subst hv;refine Aa (λhv=>?_) λhv=>?_;subst hv;rintro⟨⟩;exact rS (Ds 300 o7) (by kernel_rfl);subst hv;refine Ah λy26 tR=>?_;refine Ah λy27 afW=>?_;let Sn:List (PC P G):=o7++[Ag (I1 tR),Ag (Hk afW),pk];refine Aa (λhv=>?_) λhv=>?_;subst hv;refine Aa (λhv=>?_) λhv=>?_;subst hv;refine Ah λy28 oN=>?_;refine Ah λy29 adO=>?_;refine Ah λy30 asn=>?_;let Tg:List (PC P G):=Sn++[Ag (EJ oN),Ag (EI adO),Ag (AT asn)];refine Aa (λhv=>?_) λhv=>?_;subst hv;refine Aa (λhv=>?_) λhv=>?_;subst hv;refine Aa (λhv=>?_) λhv=>?_;subst hv;refine Ah λy31 aiY=>?_;intro h;have hE:=Option.some.inj h;subst hE;exact rS (Ds 300 (Tg++[pk,Ag (AT aiY)])) (by kernel_rfl);subst hv;rintro⟨⟩;exact rS (Ds 300 (Tg++[pk])) (by kernel_rfl);subst hv;refine Aa (λhv=>?_) λhv=>?_;subst hv;rintro⟨⟩;exact rS (Ds 300 (Tg++[pk])) (by kernel_rfl);subst hv;refine Ah λy32 aik=>?_;intro h;have hE:=Option.some.inj h;subst hE;exact rS (Ds 300 (Tg++[pk,Ag (AT aik)])) (by kernel_rfl);subst hv;rintro⟨⟩;exact rS (Ds 300 Tg) (by kernel_rfl);subst hv;rintro⟨⟩;exact rS (Ds 300 Sn) (by kernel_rfl);subst hv;refine Aa (λhv=>?_) λhv=>?_;subst hv;rintro⟨⟩;exact rS (Ds 300 Sn) (by kernel_rfl);subst hv;refine Ah λy33 asY=>?_;refine Ah λy34 akO=>?_;refine Ah λy35 ar7=>?_;let TT:List (PC P G):=Sn++[Ag (EJ asY),Ag (EI akO),Ag (AT ar7)];refine Aa (λhv=>?_) λhv=>?_;subst hv;refine Aa (λhv=>?_) λhv=>?_;subst hv;refine Aa (λhv=>?_) λhv=>?_;subst hv;refine Ah λy36 aht=>?_;intro h;have hE:=Option.some.inj h;subst hE;exact rS (Ds 300 (TT++[pk,Ag (AT aht)])) (by kernel_rfl);subst hv;rintro⟨⟩;exact rS (Ds 300 (TT++[pk])) (by kernel_rfl);subst hv;refine Aa (λhv=>?_) λhv=>?_;subst hv;rintro⟨⟩;exact rS (Ds 300 (TT++[pk])) (by kernel_rfl);subst hv;refine Ah λy37 alY=>?_;intro h;have hE:=Option.some.inj h;subst hE;exact rS (Ds 300 (TT++[pk,Ag (AT alY)])) (by kernel_rfl);subst hv;rintro⟨⟩;exact rS (Ds 300 TT) (by kernel_rfl);rintro⟨⟩;exact rS (Ds 300 (o6++[pb Ax])) (by kernel_rfl);subst hv;rintro⟨⟩;exact rS (Ds 300 o6) (by kernel_rfl);subst hv;refine Aa (λhv=>?_) λhv=>?_;subst hv;rintro⟨⟩;exact rS (Ds 300 o6) (by kernel_rfl);subst hv;refine Aa (λAL=>?_) λAL=>?_;let cH:List (PC P G):=o6++[pb AL,pk];refine Aa (λhv=>?_) λhv=>?_;subst hv;refine Aa (λhv=>?_) λhv=>?_;subst hv;refine Ah λy38 ak8=>?_;refine Ah λy39 anT=>?_;let aA:List (PC P G):=cH++[Ag (I1 ak8),Ag (Hk anT),pk];refine Aa (λhv=>?_) λhv=>?_;subst hv;refine Aa (λhv=>?_) λhv=>?_;subst hv;refine Ah λy40 afc=>?_;refine Ah λy41 arR=>?_;refine Ah λy42 ar9=>?_;let WT:List (PC P G):=aA++[Ag (EJ afc),Ag (EI arR),Ag (AT ar9)];refine Aa (λhv=>?_) λhv=>?_;subst hv;refine Aa (λhv=>?_) λhv=>?_;subst hv;refine Aa (λhv=>?_) λhv=>?_;subst hv;refine Ah λy43 abC=>?_;intro h;have hE:=Option.some.inj h;subst hE;exact rS (Ds 300 (WT++[pk,Ag (AT abC)])) (by kernel_rfl);subst hv;rintro⟨⟩;exact rS (Ds 300 (WT++[pk])) (by kernel_rfl);subst hv;refine Aa (λhv=>?_) λhv=>?_;subst hv;rintro⟨⟩;exact rS (Ds 300 (WT++[pk])) (by kernel_rfl);subst hv;refine Ah λy44 atw=>?_;intro h;have hE:=Option.some.inj h;subst hE;exact rS (Ds 300 (WT++[pk,Ag (AT atw)])) (by kernel_rfl);subst hv;rintro⟨⟩;exact rS (Ds 300 WT) (by kernel_rfl);subst hv;rintro⟨⟩;exact rS (Ds 300 aA) (by kernel_rfl);subst hv;refine Aa (λhv=>?_) λhv=>?_;subst hv;rintro⟨⟩;exact rS (Ds 300 aA) (by kernel_rfl);subst hv;refine Ah λy45 aoH=>?_;refine Ah λy46 asQ=>?_;refine Ah λy47 ata=>?_;let gT:List (PC P G):=aA++[Ag (EJ aoH),Ag (EI asQ),Ag (AT ata)];refine Aa (λhv=>?_) λhv=>?_;subst hv;refine Aa (λhv=>?_) λhv=>?_;subst hv;refine Aa (λhv=>?_) λhv=>?_;subst hv;refine Ah λy48 asc=>?_;intro h;have hE:=Option.some.inj h;subst hE;exact rS (Ds 300 (gT++[pk,Ag (AT asc)])) (by kernel_rfl);subst hv;rintro⟨⟩;exact rS (Ds 300 (gT++[pk])) (by kernel_rfl);subst hv;refine Aa (λhv=>?_) λhv=>?_;subst hv;rintro⟨⟩;exact rS (Ds 300 (gT++[pk])) (by kernel_rfl);subst hv;refine Ah λy49 atz=>?_;intro h;have hE:=Option.some.inj h;subst hE;exact rS (Ds 300 (gT++[pk,Ag (AT atz)])) (by kernel_rfl);subst hv;rintro⟨⟩;exact rS (Ds 300 gT) (by kernel_rfl);subst hv;rintro⟨⟩;exact rS (Ds 300 cH) (by kernel_rfl);subst hv;refine Aa (λhv=>?_) λhv=>?_;subst hv;rintro⟨⟩;exact rS (Ds 300 cH) (by kernel_rfl);subst hv;refine Ah λy50 arQ=>?_;refine Ah λy51 ajl=>?_;let pC:List (PC P G):=cH++[Ag (I1 arQ),Ag (Hk ajl),pk];refine Aa (λhv=>?_) λhv=>?_;subst hv;refine Aa (λhv=>?_) λhv=>?_;subst hv;refine Ah λy52 atu=>?_;refine Ah λy53 asE=>?_;refine Ah λy54 asz=>?_;let uX:List (PC P G):=pC++[Ag (EJ atu),Ag (EI asE),Ag (AT asz)];refine Aa (λhv=>?_) λhv=>?_;subst hv;refine Aa (λhv=>?_) λhv=>?_;subst hv;refine Aa (λhv=>?_) λhv=>?_;subst hv;refine Ah λy55 asW=>?_;intro h;have hE:=Option.some.inj h;subst hE;exact rS (Ds 300 (uX++[pk,Ag (AT asW)])) (by kernel_rfl);subst hv;rintro⟨⟩;exact rS (Ds 300 (uX++[pk])) (by kernel_rfl);subst hv;refine Aa (λhv=>?_) λhv=>?_;subst hv;rintro⟨⟩;exact rS (Ds 300 (uX++[pk])) (by kernel_rfl);subst hv;refine Ah λy56 asa=>?_;intro h;have hE:=Option.some.inj h;subst hE;exact rS (Ds 300 (uX++[pk,Ag (AT asa)])) (by kernel_rfl);subst hv;rintro⟨⟩;exact rS (Ds 300 uX) (by kernel_rfl);subst hv;rintro⟨⟩;exact rS (Ds 300 pC) (by kernel_rfl);subst hv;refine Aa (λhv=>?_) λhv=>?_;subst hv;rintro⟨⟩;exact rS (Ds 300 pC) (by kernel_rfl);subst hv;refine Ah λy57 atc=>?_;refine Ah λy58 asF=>?_;refine Ah λy59 asf=>?_;let qL:List (PC P G):=pC++[Ag (EJ atc),Ag (EI asF),Ag (AT asf)];refine Aa (λhv=>?_) λhv=>?_;subst hv;refine Aa (λhv=>?_) λhv=>?_;subst hv;refine Aa (λhv=>?_) λhv=>?_;subst hv;refine Ah λy60 atj=>?_;intro h;have hE:=Option.some.inj h;subst hE;exact rS (Ds 300 (qL++[pk,Ag (AT atj)])) (by kernel_rfl);subst hv;rintro⟨⟩;exact rS (Ds 300 (qL++[pk])) (by kernel_rfl);subst hv;refine Aa (λhv=>?_) λhv=>?_;subst hv;rintro⟨⟩;exact rS (Ds 300 (qL++[pk])) (by kernel_rfl);subst hv;refine Ah λy61 as0=>?_;intro h;have hE:=Option.some.inj h;subst hE;exact rS (Ds 300 (qL++[pk,Ag (AT as0)])) (by kernel_rfl);subst hv;rintro⟨⟩;exact rS (Ds 300 qL) (by kernel_rfl);rintro⟨⟩;exact rS (Ds 300 (o6++[pb AL])) (by kernel_rfl);subst hv;rintro⟨⟩;exact rS (Ds 300 o5) (by kernel_rfl);subst hv;rintro⟨⟩;exact rS (Ds 300 o4) (by kernel_rfl);subst hv;rintro⟨⟩;exact rS (Ds 300 o3) (by kernel_rfl);subst hv;intro h;have hE:=Option.some.inj h;subst hE;exact rS (Ds 300 o2) (by kernel_rfl);subst hv;intro h;have hE:=Option.some.inj h;subst hE;exact rS (Ds 300 o1) (by kernel_rfl)
end Mo
end Go.Proofs.YtnijkdknnmgoeaaGreat
namespace Go.Proofs.YtnijkdknnmgoeaaGreat
open AI Go
namespace Mo
set_option maxRecDepth 100000
set_option maxHeartbeats 4000000
mutual
def afu:∀e:Ex,jU e->V.W6 e
 | ⟨op,n,unit,BX,kids⟩,h=>by
   rw[jU] at h;rw[V.W6];exact⟨h.1.1,h.2.1,aj8 kids h.2.2⟩
def aj8:∀l:List Ex,eI l->V.okS l
 | [],_=>by rw[V.okS];trivial
 | k::l,h=>by
   rw[eI] at h;rw[V.okS];exact⟨afu k h.1,aj8 l h.2⟩
end
def apJ{c:Co}(h:aiC c):V.iN c:=⟨h.1,h.2.1,h.2.2.1,λa ha=>by
 have:=h.2.2.2 a ha;exact⟨this.1,this.2.2.1,λe he=>afu e (this.2.1 e he),afu _ this.2.2.2⟩⟩
def adB:Ef (⟨[],[],[]⟩:Co) (⟨[],[],[]⟩:Co)=some true:=dC (by simp) (by simp) (by simp) λa ha=>by cases ha
def vI{n:Nd}(h:(Gb n).2≠[]):(Gb n).1=⟨[],[],[]⟩:=by
 unfold Gb at h ⊢;by_cases h1:n.kind=1/\cO n;rw[Ac h1] at h ⊢;by_cases h2:JY n=[];rw[Ac h2] at h ⊢;by_cases h3:(VC (Hi n.kids) n.kids).1=[];rw[Ac h3] at h;exact absurd rfl h;rw[Ab h3];rw[Ab h2];rw[Ab h1]
def yV(n:Nd):(Gb n).2.length<=1000:=by
 unfold Gb;by_cases h1:n.kind=1/\cO n;rotate_left;rw[Ab h1];simp;rw[Ac h1];by_cases h2:JY n=[];rotate_left;rw[Ab h2];unfold JY;rw[Ac h1];have:=E6 [] (WM n);show(cap [] (WM n)).length<=_;omega;rw[Ac h2];by_cases h3:(VC (Hi n.kids) n.kids).1=[];rw[Ac h3];simp;rw[Ab h3];simp only[List.length_take];omega
def Q7{n:Nd}{c:Co}(num day kn a b:Int)(hn:Iu n)(hc:aiC c):Eg n c num day kn a b=some true:=by
 have hc:=apJ hc;rw[Eg,show SZ=some true from rfl,alr hn];simp only[Option.bind_some,Bd];by_cases t1:((Fv n:Nat):Int)<=2100/\((Ui n:Nat):Int)<=100;rotate_left;rw[Ab t1];rw[Ac t1,V.aqF c hc,Option.bind_some,Bd];by_cases t2:V.anj c;rotate_left;rw[Ab t2];have hlen:c.Ap.length<=70:=t2.2.2.1;rw[Ac t2,abT hn (by omega),ab4 hn (by omega)];obtain⟨z,bz,v1,v2⟩:=V.ab3 c num day kn (by omega);obtain⟨l,f,o1,o2,o3⟩:=V.vU c hc;obtain⟨nl,n1,n2,n3⟩:=V.vH c hc (by omega) a;obtain⟨pv,p1,p2⟩:∃p,G4 c=some p/\Hf c=some p:=⟨_,V.Yh c hc,V.Yz c hc⟩;obtain⟨bv,b1,b2⟩:∃p,En c a b=some p/\EX c a b=some p:=⟨_,V.p8 c hc a b,V.uD c hc a b⟩;have q1:AW nl nl=some true:=Wx nl (by omega);have q2:AW l l=some true:=Wx l (by omega)
 have hs:Ef (Gb n).1 (Gb n).1=some true:=by
   by_cases hd:(Gb n).2=[];exact(xP hd).1;rw[vI hd];exact adB
 have hg:Gx (Gb n).2 (Gb n).2=some true:=by
   rw[ad0 _ _ (by have:=yV n;omega),BE.2 rfl]
 have e0:Ba z z=true:=by rw[BB,BE]
 rw[v1,v2,o1,o2];simp only[Option.bind_some,cond_true];rw[hs];simp only[Option.bind_some,cond_true];rw[hg];simp only[Option.bind_some,cond_true];rw[p1,p2];simp only[Option.bind_some,e0,cond_true,b1,b2,n1,n2,q1,q2];cases pv<;>cases bz<;>cases bv<;>cases f<;>rfl
end Mo
end Go.Proofs.YtnijkdknnmgoeaaGreat
