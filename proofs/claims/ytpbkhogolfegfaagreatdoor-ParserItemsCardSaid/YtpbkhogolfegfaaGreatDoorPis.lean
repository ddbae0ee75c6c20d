/- Part of a proof: see the last text. -/
import Derived.Test.YtpbkhogolfegfaaGreatDoorPir
set_option linter.unusedVariables false
set_option linter.unusedSimpArgs false
set_option linter.defProp false
noncomputable section
namespace Go.Proofs.YtpbkhogolfegfaaGreatDoor
open AI Go
namespace Mo
set_option maxRecDepth 100000
theorem iX:∀(n:Nat) (a b:Int),1<=a->0<=b->b < n->∃m,EK (λx:Int×Int=>Ec x.1 x.2) m (a,b)=some (.inl (oC n a b))/\1<=oC n a b/\oC n a b∣a/\oC n a b∣b:=by
 intro n
 induction n with
 | zero=>intro a b h1 h2 h3;omega
 | succ n ih =>
   intro a b h1 h2 h3;unfold oC;by_cases hb:b=0;rw[if_pos hb];subst hb;refine⟨1,?_,h1,Int.dvd_refl a,Int.dvd_zero a⟩;show(Ec a 0).bind _=_;rw[Ec,JK rfl];rfl;rw[if_neg hb];obtain⟨m,h4,h5,h6,h7⟩:=ih b (a % b) (by omega) (Int.emod_nonneg a hb) (by have:=Int.emod_lt_of_pos a (show 0 < b by omega);omega);refine⟨m+1,?_,h5,?_,h6⟩;show(Ec a b).bind _=_;rw[Ec,KZ hb]
   have:Ye a b=some (a % b):=by
     unfold Ye mB;rw[if_neg hb,Int.tmod_eq_emod_of_nonneg (by omega)]
   dsimp only[cond];rw[this];exact h4;have:=Int.dvd_add h7 (Int.dvd_mul_of_dvd_left h6:_∣b*(a / b));rwa[Int.emod_add_mul_ediv] at this
theorem acJ{a b g:Int}(h:acI a b=some g):CO a b=some g:=by
 unfold acI at h;split at h;rename_i hc;cases h;obtain⟨m,h1,_⟩:=iX (b.toNat+1) a b hc.1 hc.2 (by omega);unfold CO;rw[Fc h1];rfl;cases h
theorem acK{a b:Int}(ha:1<=a)(hb:0<=b):∃g,acI a b=some g/\1<=g/\g∣a/\g∣b:=by
 obtain⟨m,_,h1⟩:=iX (b.toNat+1) a b ha hb (by omega);exact⟨_,if_pos ⟨ha,hb⟩,h1⟩
section
variable {α β γ:Type} {ts:List Tk} {k:Nat} {en:Int} {r:α⊕Dg} {l:List Tk}
def Jv(ts:List Tk)(k:Nat)(X:Option ((α⊕Dg)×Int))(r:α⊕Dg)(l:List Tk):Prop:=∃k':Nat,k<=k'/\k'<=ts.length/\l=ts.drop k'/\X=some (r,(k':Int))
theorem Es(hk:k<=ts.length){q:α⊕Dg}{z:Int}(hz:z=(k:Int))(h:some (q,ts.drop k)=some (r,l)):Jv ts k (some (q,z)) r l:=by
 simp only[Option.some.injEq,Prod.mk.injEq] at h;exact⟨k,Nat.le_refl k,hk,h.2.symm,by rw[h.1,hz]⟩
theorem LF{k2:Nat}{X:Option ((α⊕Dg)×Int)}(h1:k<=k2)(h:Jv ts k2 X r l):Jv ts k X r l:=by
 obtain⟨k',a,b,c,d⟩:=h;exact⟨k',Nat.le_trans h1 a,b,c,d⟩
theorem BC{F1:Option ((γ⊕Dg)×Int)}{F2:(γ⊕Dg)×Int->Option ((α⊕Dg)×Int)}{m:Rd γ}{K:γ->Rd α}
   (h1:∀{r l},m (ts.drop k)=some (r,l)->Jv ts k F1 r l)
   (h2:∀a k',k<=k'->k'<=ts.length->K a (ts.drop k')=some (r,l)->Jv ts k' (F2 (.inl a,(k':Int))) r l)
   (h3:∀d z,F2 (.inr d,z)=some (.inr d,z)) (hS:Cu m K (ts.drop k)=some (r,l)):Jv ts k (F1.bind F2) r l:=by
 unfold Cu at hS;split at hS;cases hS;rename_i a s hm;obtain⟨k',a1,a2,rfl,a4⟩:=h1 hm;rw[a4];exact LF a1 (h2 _ _ a1 a2 hS);rename_i d s hm;obtain⟨k',a1,a2,rfl,a4⟩:=h1 hm;rw[a4,Option.bind_some,h3];simp only[Option.some.injEq,Prod.mk.injEq] at hS;exact⟨k',a1,a2,hS.2.symm,by rw[hS.1]⟩
theorem Jj{X:Option γ}{K:γ->Rd α}{s:List Tk}(h:LU X K s=some (r,l)):∃a,X=some a/\K a s=some (r,l):=by
 unfold LU at h;split at h;cases h;exact⟨_,rfl,h⟩
theorem JI(ts:List Tk)(hk:k<=ts.length):(k=ts.length/\ts.drop k=[])\/∃t,k+1<=ts.length/\ts[k]?=some t/\ts.drop k=t::ts.drop (k+1):=by
 by_cases h:k < ts.length;exact .inr ⟨ts[k],h,List.getElem?_eq_getElem h,(List.drop_eq_getElem_cons h)⟩;exact .inl ⟨by omega,List.drop_eq_nil_of_le (by omega)⟩
theorem V1{F2:Tk⊕Dg->Option ((α⊕Dg)×Int)}{K:Tk->Rd α}(hk:k<=ts.length)
   (h2:∀t,k+1<=ts.length->ts.drop k=t::ts.drop (k+1)->K t (ts.drop k)=some (r,l)->Jv ts k (F2 (.inl t)) r l)
   (h3:∀d,F2 (.inr d)=some (.inr d,(k:Int))) (hS:Vc en K (ts.drop k)=some (r,l)):Jv ts k ((AD ⟨ts,k,en⟩).bind F2) r l:=by
 unfold Vc at hS;rcases JI ts hk with ⟨h1,mX⟩ | ⟨t,h1,mX,h3'⟩
 rw[mX] at hS;dsimp only at hS
 have:AD ⟨ts,k,en⟩=some (.inr ⟨72,en⟩):=by
   unfold AD;rw[YJ (by dsimp only;omega)];rfl
 rw[this,Option.bind_some,h3];simp only[Option.some.injEq,Prod.mk.injEq] at hS;exact⟨k,Nat.le_refl k,hk,by rw[mX,hS.2],by rw[hS.1]⟩;rw[h3'] at hS;dsimp only at hS
 have:AD ⟨ts,k,en⟩=some (.inl t):=by
   unfold AD;rw[U0 (by dsimp only;omega)];dsimp only[cond];unfold Hu;rw[if_pos (by omega),Int.toNat_natCast,mX];rfl
 rw[this,Option.bind_some];exact h2 t h1 h3' (by rw[h3'];exact hS)
theorem GR(hk:k<=ts.length)(x:ByteArray):As ⟨ts,k,en⟩ x=some (Ju x (ts.drop k)):=by
 unfold As;rcases JI ts hk with ⟨h1,mX⟩ | ⟨t,h1,mX,h3'⟩
 rw[mX,H5 (by dsimp only;omega)];rfl;rw[h3',Ij (by dsimp only;omega)];dsimp only[cond];unfold Hu;rw[if_pos (by omega),Int.toNat_natCast,mX];rfl
theorem Zb{x:ByteArray}(hk:k<=ts.length)(h:Ju x (ts.drop k)=true):∃t,k+1<=ts.length/\ts.drop k=t::ts.drop (k+1):=by
 rcases JI ts hk with ⟨h1,mX⟩ | ⟨t,h1,mX,h3'⟩
 rw[mX] at h;cases h;exact⟨t,h1,h3'⟩
theorem Ey(D2:ts.length<=1000000)(hk:k<=ts.length):Bt (k:Int) 1=((k+1:Nat):Int):=by
 rw[CJ (by omega)];rfl
theorem ZX{K:Rd α}{t:Tk}(ht:ts.drop k=t::ts.drop (k+1))(h:Vz K (ts.drop k)=some (r,l)):K (ts.drop (k+1))=some (r,l):=by
 rw[ht] at h;exact h
theorem tQ{F2:Bool->Option ((α⊕Dg)×Int)}{A B:Rd α}{x:ByteArray}(hk:k<=ts.length)
   (h1:k+1<=ts.length->A (ts.drop (k+1))=some (r,l)->Jv ts (k+1) (F2 true) r l) (h2:B (ts.drop k)=some (r,l)->Jv ts k (F2 false) r l)
   (hS:Ot x A B (ts.drop k)=some (r,l)):Jv ts k ((As ⟨ts,k,en⟩ x).bind F2) r l:=by
 unfold Ot at hS;rw[GR hk,Option.bind_some];cases hx:Ju x (ts.drop k) with
 | true =>
   rw[hx] at hS;obtain⟨t,ht1,ht2⟩:=Zb hk hx;exact LF (Nat.le_succ k) (h1 ht1 (ZX ht2 hS))
 | false =>
   rw[hx] at hS;exact h2 hS
end
section
variable {ts:List Tk} (D2:ts.length<=1000000) {en:Int}
include D2
theorem Rb(fits:Tk->Option Bool){k:Nat}(hk:k<=ts.length){r l}(hS:LK en fits (ts.drop k)=some (r,l)) :
   Jv ts k ((AD ⟨ts,k,en⟩).bind λy1=>Sum.elim (λ(CI:Tk)=>(fits CI).bind λy2=>cond y2 (some ((Sum.inl CI:(Tk⊕Dg)),(Bt (k:Int) 1))) (some ((Sum.inr (⟨71,CI.AH⟩:Dg):(Tk⊕Dg)),(k:Int)))) (λ(LW:Dg)=>some ((Sum.inr LW:(Tk⊕Dg)),(k:Int))) y1) r l:=by
 refine V1 hk (λt h1 h2 hS=>?_) (λ_=>rfl) hS;obtain⟨b,hb,hS⟩:=Jj hS;dsimp only[Sum.elim];rw[hb,Option.bind_some];cases b with
 | true =>
   have:=ZX h2 hS;rw[cond,Ey D2 hk];exact LF (Nat.le_succ k) (Es h1 rfl this)
 | false=>exact Es hk rfl hS
theorem IR(x:ByteArray){k:Nat}(hk:k<=ts.length){r l}(hS:JL en x (ts.drop k)=some (r,l)):Jv ts k (Ak ⟨ts,k,en⟩ x) r l:=by
 obtain⟨k',a1,a2,a3,a4⟩:=Rb D2 (λt=>Ds t x) hk hS;refine⟨k',a1,a2,a3,?_⟩;unfold Ak Gm;rw[a4,Option.bind_some];cases r<;>rfl
theorem aeX{k:Nat}(hk:k<=ts.length){r l}(hS:aP en (ts.drop k)=some (r,l)):Jv ts k (DA ⟨ts,k,en⟩) r l:=Rb D2 Cw hk hS
theorem aAI{k:Nat}(hk:k<=ts.length){r l}(hS:lQ en (ts.drop k)=some (r,l)):Jv ts k (EI ⟨ts,k,en⟩) r l:=Rb D2 Fa hk hS
theorem azK{k:Nat}(hk:k<=ts.length){r l}(hS:bB en (ts.drop k)=some (r,l)):Jv ts k (F3 ⟨ts,k,en⟩) r l:=Rb D2 BT hk hS
theorem jT{k:Nat}(hk:k<=ts.length){r l}(hS:Ny en (ts.drop k)=some (r,l)):Jv ts k (EQ ⟨ts,k,en⟩) r l:=by
 refine BC (λh=>Rb D2 Eo hk h) (λt k' h1 h2 hS=>?_) (λ_ _=>rfl) hS;obtain⟨n,hn,hS⟩:=Jj hS;dsimp only[Sum.elim];rw[hn];exact Es h2 rfl hS
theorem O1(least:Int){k:Nat}(hk:k<=ts.length){r l}(hS:Me en least (ts.drop k)=some (r,l)):Jv ts k (AL ⟨ts,k,en⟩ least) r l:=by
 refine BC (λh=>jT D2 hk h) (λt k' h1 h2 hS=>?_) (λ_ _=>rfl) hS;dsimp only[Sum.elim];revert hS;cases Et t.1 least;cases Et 1000000 t.1<;>exact λhS=>Es h2 rfl hS
 exact λhS=>Es h2 rfl hS
theorem dE(least:Int){k:Nat}(hk:k<=ts.length){r l}(hS:R6 en least (ts.drop k)=some (r,l)):Jv ts k (DU ⟨ts,k,en⟩ least) r l:=by
 refine BC (λh=>Rb D2 EP hk h) (λt k' h1 h2 hS=>?_) (λ_ _=>rfl) hS;obtain⟨n,hn,hS⟩:=Jj hS;dsimp only[Sum.elim];rw[hn,Option.bind_some];revert hS;cases CV n.2 0;exact λhS=>Es h2 rfl hS;cases Et n.1 least<;>exact λhS=>Es h2 rfl hS
theorem awK{k:Nat}(hk:k<=ts.length){r l}(hS:Wt en (ts.drop k)=some (r,l)):Jv ts k (Hm ⟨ts,k,en⟩) r l:=by
 refine BC (λh=>IR D2 _ hk h) (λt k h hk hS=>?_) (λ_ _=>rfl) hS;refine BC (λh=>O1 D2 _ hk h) (λn k h hk hS=>?_) (λ_ _=>rfl) hS;refine BC (λh=>IR D2 _ hk h) (λ_ k h hk hS=>?_) (λ_ _=>rfl) hS;refine BC (λh=>dE D2 _ hk h) (λf k h hk hS=>?_) (λ_ _=>rfl) hS;refine tQ hk (λhk1 hS=>?_) (λhS=>?_) hS;dsimp only[cond];rw[Ey D2 hk];refine BC (λh=>dE D2 _ hk1 h) (λu k h hk hS=>?_) (λ_ _=>rfl) hS;refine BC (λh=>IR D2 _ hk h) (λ_ k h hk hS=>?_) (λ_ _=>rfl) hS;refine BC (λh=>dE D2 _ hk h) (λf k h hk hS=>?_) (λ_ _=>rfl) hS;exact Es hk rfl hS;refine BC (λh=>IR D2 _ hk h) (λ_ k h hk hS=>?_) (λ_ _=>rfl) hS;refine BC (λh=>dE D2 _ hk h) (λf k h hk hS=>?_) (λ_ _=>rfl) hS;exact Es hk rfl hS
theorem abK{k:Nat}(hk:k<=ts.length){r l}(hS:R7 en (ts.drop k)=some (r,l)):Jv ts k (Dz ⟨ts,k,en⟩) r l:=by
 refine V1 hk (λt h1 h2 hS=>?_) (λ_=>rfl) hS;have hS:=ZX h2 hS;dsimp only[Sum.elim];rw[Ey D2 hk];refine LF (Nat.le_succ k) ?_;refine BC (λh=>aeX D2 h1 h) (λm k h hk hS=>?_) (λ_ _=>rfl) hS;refine BC (λh=>IR D2 _ hk h) (λ_ k h hk hS=>?_) (λ_ _=>rfl) hS;refine BC (λh=>aAI D2 hk h) (λu k h hk hS=>?_) (λ_ _=>rfl) hS;dsimp only[Sum.elim];revert hS;cases BY t.text.data.toList OX.data.toList;intro hS;refine BC (λh=>IR D2 _ hk h) (λ_ k h hk hS=>?_) (λ_ _=>rfl) hS;exact Es hk rfl hS;intro hS;refine BC (λh=>azK D2 hk h) (λq k h hk hS=>?_) (λ_ _=>rfl) hS;obtain⟨n,hn,hS⟩:=Jj hS;dsimp only[Sum.elim];rw[hn,Option.bind_some];refine BC (λh=>IR D2 _ hk h) (λ_ k h hk hS=>?_) (λ_ _=>rfl) hS;exact Es hk rfl hS
theorem U5{k:Nat}(hk:k<=ts.length){r l}(hS:Gs en (ts.drop k)=some (r,l)):Jv ts k (AO ⟨ts,k,en⟩) r l:=by
 refine BC (λh=>O1 D2 _ hk h) (λn k h hk hS=>?_) (λ_ _=>rfl) hS;exact Es hk rfl hS
theorem fT{k:Nat}(hk:k<=ts.length){r l}(hS:OC en (ts.drop k)=some (r,l)):Jv ts k (BR ⟨ts,k,en⟩) r l:=by
 refine BC (λh=>Rb D2 Df hk h) (λt k' h1 h2 hS=>?_) (λ_ _=>rfl) hS;obtain⟨n,hn,hS⟩:=Jj hS;dsimp only[Sum.elim];rw[hn,Option.bind_some];revert hS;cases CV t.kind 3;exact λhS=>Es h2 rfl hS;cases CV n 0<;>exact λhS=>Es h2 rfl hS
theorem ahA{k:Nat}(hk:k<=ts.length){r l}(hS:WN en (ts.drop k)=some (r,l)):Jv ts k (Cg ⟨ts,k,en⟩) r l:=by
 refine BC (λh=>Rb D2 ET hk h) (λt k' h1 h2 hS=>?_) (λ_ _=>rfl) hS;dsimp only[Sum.elim];revert hS;cases BY t.text.data.toList Lh.data.toList<;>exact λhS=>Es h2 rfl hS
end
end Mo
end Go.Proofs.YtpbkhogolfegfaaGreatDoor
namespace Go.Proofs.YtpbkhogolfegfaaGreatDoor
open AI Go
namespace Mo
set_option maxRecDepth 100000
section
variable {α β:Type} {ts:List Tk} {k:Nat} {en:Int} {r:α⊕Dg} {l:List Tk}
theorem QU(N:Nd):(⟨N.kind,N.name,N.unit,N.n,N.fr,N.to,N.known,⟨N.Cz.den,N.Cz.ps⟩,N.kids,N.AH⟩:Nd)=N:=by cases N;rfl
theorem Jg{m:Rd β}{K:β->Rd α}{s:List Tk}(h:Cu m K s=some (r,l)):(∃a s',m s=some (.inl a,s')/\K a s'=some (r,l))\/∃d,m s=some (.inr d,l)/\r=.inr d:=by
 unfold Cu at h;split at h;cases h;rename_i a s' hm;exact .inl ⟨a,s',hm,h⟩;rename_i d s' hm;simp only[Option.some.injEq,Prod.mk.injEq] at h;exact .inr ⟨d,by rw[hm,h.2],h.1.symm⟩
theorem LH{A B:Rd α}{x:ByteArray}(hk:k<=ts.length)(h:Ot x A B (ts.drop k)=some (r,l)) :
   (Ju x (ts.drop k)=true/\k+1<=ts.length/\A (ts.drop (k+1))=some (r,l))\/(Ju x (ts.drop k)=false/\B (ts.drop k)=some (r,l)):=by
 unfold Ot at h;cases hx:Ju x (ts.drop k) with
 | true =>
   rw[hx] at h;obtain⟨t,ht1,ht2⟩:=Zb hk hx;exact .inl ⟨rfl,ht1,ZX ht2 h⟩
 | false =>
   rw[hx] at h;exact .inr ⟨rfl,h⟩
theorem afF{K:Rd α}(hk:k<=ts.length)(h:Vz K (ts.drop k)=some (r,l)):k+1<=ts.length/\K (ts.drop (k+1))=some (r,l):=by
 rcases JI ts hk with ⟨h1,mX⟩ | ⟨t,h1,mX,h3'⟩
 rw[mX] at h;cases h;exact⟨h1,ZX h3' h⟩
theorem N7{n:Nat}{m:Rd α}{s:List Tk}(h:OP n m s=some (r,l)):n<=100000000/\m s=some (r,l):=aeQ h
theorem LG{a:β}{q:β⊕Dg}{s:List Tk}(h:FQ a s=some (q,l)):q=.inl a/\l=s:=by
 simp only[FQ,Option.some.injEq,Prod.mk.injEq] at h;exact⟨h.1.symm,h.2.symm⟩
theorem Ng{e p:Int}{s:List Tk}(h:MW e p s=some (r,l)):r=.inr ⟨e,p⟩/\l=s:=by
 simp only[MW,Option.some.injEq,Prod.mk.injEq] at h;exact⟨h.1.symm,h.2.symm⟩
theorem anL{yes:ByteArray->Rd α}{no:Rd α}(hk:k<=ts.length)(hS:nA yes no (opsOf 0) (ts.drop k)=some (r,l)) :
   (∃x,k+1<=ts.length/\C9 ⟨ts,k,en⟩=some (x,true)/\yes x (ts.drop (k+1))=some (r,l))\/(C9 ⟨ts,k,en⟩=some (bE,false)/\no (ts.drop k)=some (r,l)):=by
 unfold C9;simp only[GR hk,Option.bind_some];rcases LH hk hS with ⟨h0,h,hy⟩ | ⟨h0,hS⟩
 refine .inl ⟨_,h,?_,hy⟩;simp only[h0,cond_true,cond_false];refine .inr ⟨?_,hS⟩;simp only[h0,cond_false]
theorem anM{yes:ByteArray->Rd α}{no:Rd α}(hk:k<=ts.length)(hS:nA yes no (opsOf 1) (ts.drop k)=some (r,l)) :
   (∃x,k+1<=ts.length/\Da ⟨ts,k,en⟩=some (x,true)/\yes x (ts.drop (k+1))=some (r,l))\/(Da ⟨ts,k,en⟩=some (bE,false)/\no (ts.drop k)=some (r,l)):=by
 unfold Da;simp only[GR hk,Option.bind_some];rcases LH hk hS with ⟨h0,h,hy⟩ | ⟨h0,hS⟩
 refine .inl ⟨_,h,?_,hy⟩;simp only[h0,cond_true,cond_false];refine .inr ⟨?_,hS⟩;simp only[h0,cond_false]
theorem anN{yes:ByteArray->Rd α}{no:Rd α}(hk:k<=ts.length)(hS:nA yes no (opsOf 3) (ts.drop k)=some (r,l)) :
   (∃x,k+1<=ts.length/\Db ⟨ts,k,en⟩=some (x,true)/\yes x (ts.drop (k+1))=some (r,l))\/(Db ⟨ts,k,en⟩=some (bE,false)/\no (ts.drop k)=some (r,l)):=by
 unfold Db;simp only[GR hk,Option.bind_some];rcases LH hk hS with ⟨h0,h,hy⟩ | ⟨h0,hS⟩
 refine .inl ⟨_,h,?_,hy⟩;simp only[h0,cond_true,cond_false];rcases LH hk hS with ⟨h1,h,hy⟩ | ⟨h1,hS⟩
 refine .inl ⟨_,h,?_,hy⟩;simp only[h0,h1,cond_true,cond_false];rcases LH hk hS with ⟨h2,h,hy⟩ | ⟨h2,hS⟩
 refine .inl ⟨_,h,?_,hy⟩;simp only[h0,h1,h2,cond_true,cond_false];rcases LH hk hS with ⟨h3,h,hy⟩ | ⟨h3,hS⟩
 refine .inl ⟨_,h,?_,hy⟩;simp only[h0,h1,h2,h3,cond_true,cond_false];rcases LH hk hS with ⟨h4,h,hy⟩ | ⟨h4,hS⟩
 refine .inl ⟨_,h,?_,hy⟩;simp only[h0,h1,h2,h3,h4,cond_true,cond_false];rcases LH hk hS with ⟨h5,h,hy⟩ | ⟨h5,hS⟩
 refine .inl ⟨_,h,?_,hy⟩;simp only[h0,h1,h2,h3,h4,h5,cond_true,cond_false];refine .inr ⟨?_,hS⟩;simp only[h0,h1,h2,h3,h4,h5,cond_false]
theorem anO{yes:ByteArray->Rd α}{no:Rd α}(hk:k<=ts.length)(hS:nA yes no (opsOf 4) (ts.drop k)=some (r,l)) :
   (∃x,k+1<=ts.length/\Dd ⟨ts,k,en⟩=some (x,true)/\yes x (ts.drop (k+1))=some (r,l))\/(Dd ⟨ts,k,en⟩=some (bE,false)/\no (ts.drop k)=some (r,l)):=by
 unfold Dd;simp only[GR hk,Option.bind_some];rcases LH hk hS with ⟨h0,h,hy⟩ | ⟨h0,hS⟩
 refine .inl ⟨_,h,?_,hy⟩;simp only[h0,cond_true,cond_false];rcases LH hk hS with ⟨h1,h,hy⟩ | ⟨h1,hS⟩
 refine .inl ⟨_,h,?_,hy⟩;simp only[h0,h1,cond_true,cond_false];refine .inr ⟨?_,hS⟩;simp only[h0,h1,cond_false]
theorem anP{yes:ByteArray->Rd α}{no:Rd α}(hk:k<=ts.length)(hS:nA yes no (opsOf 5) (ts.drop k)=some (r,l)) :
   (∃x,k+1<=ts.length/\De ⟨ts,k,en⟩=some (x,true)/\yes x (ts.drop (k+1))=some (r,l))\/(De ⟨ts,k,en⟩=some (bE,false)/\no (ts.drop k)=some (r,l)):=by
 unfold De;simp only[GR hk,Option.bind_some];rcases LH hk hS with ⟨h0,h,hy⟩ | ⟨h0,hS⟩
 refine .inl ⟨_,h,?_,hy⟩;simp only[h0,cond_true,cond_false];rcases LH hk hS with ⟨h1,h,hy⟩ | ⟨h1,hS⟩
 refine .inl ⟨_,h,?_,hy⟩;simp only[h0,h1,cond_true,cond_false];rcases LH hk hS with ⟨h2,h,hy⟩ | ⟨h2,hS⟩
 refine .inl ⟨_,h,?_,hy⟩;simp only[h0,h1,h2,cond_true,cond_false];refine .inr ⟨?_,hS⟩;simp only[h0,h1,h2,cond_false]
end
structure Agr(R:Ad)(ts:List Tk)(en:Int)(g:Ek->Rd Nd)(li:Rd (List Nd)):Prop where
 ex:∀{k:Nat},k<=ts.length->∀{r l},g .ex (ts.drop k)=some (r,l)->Jv ts k (R.AN ⟨ts,k,en⟩) r l
 l0:∀{k:Nat},k<=ts.length->∀{r l},g (.lv 0) (ts.drop k)=some (r,l)->Jv ts k (R.Ei ⟨ts,k,en⟩) r l
 l1:∀{k:Nat},k<=ts.length->∀{r l},g (.lv 1) (ts.drop k)=some (r,l)->Jv ts k (R.B0 ⟨ts,k,en⟩) r l
 l2:∀{k:Nat},k<=ts.length->∀{r l},g (.lv 2) (ts.drop k)=some (r,l)->Jv ts k (R.BD ⟨ts,k,en⟩) r l
 l3:∀{k:Nat},k<=ts.length->∀{r l},g (.lv 3) (ts.drop k)=some (r,l)->Jv ts k (R.CF ⟨ts,k,en⟩) r l
 l4:∀{k:Nat},k<=ts.length->∀{r l},g (.lv 4) (ts.drop k)=some (r,l)->Jv ts k (R.CG ⟨ts,k,en⟩) r l
 l5:∀{k:Nat},k<=ts.length->∀{r l},g (.lv 5) (ts.drop k)=some (r,l)->Jv ts k (R.B1 ⟨ts,k,en⟩) r l
 l6:∀{k:Nat},k<=ts.length->∀{r l},g (.lv 6) (ts.drop k)=some (r,l)->Jv ts k (R.B2 ⟨ts,k,en⟩) r l
 at_:∀{k:Nat},k<=ts.length->∀{r l},g .at_ (ts.drop k)=some (r,l)->Jv ts k (R.Fv ⟨ts,k,en⟩) r l
 wd:∀(t:Tk) {k:Nat},k<=ts.length->∀{r l},g (.wd t) (ts.drop k)=some (r,l)->Jv ts k (R.Fx ⟨ts,k,en⟩ t) r l
 ca:∀{k:Nat},k<=ts.length->∀{r l},g .ca (ts.drop k)=some (r,l)->Jv ts k (R.Dm ⟨ts,k,en⟩) r l
 ta:∀{k:Nat},k<=ts.length->∀{r l},g .ta (ts.drop k)=some (r,l)->Jv ts k (R.E5 ⟨ts,k,en⟩) r l
 li:∀{k:Nat},k<=ts.length->∀{r l},li (ts.drop k)=some (r,l)->Jv ts k (R.DK ⟨ts,k,en⟩) r l
section
variable {ts:List Tk} (D2:ts.length<=1000000) {en:Int}
include D2
theorem NH{sub:Rd Nd}{F:Pr->Option ((Nd⊕Dg)×Int)}{k:Nat}(hk:k<=ts.length)(L7:∀{r l},sub (ts.drop k)=some (r,l)->Jv ts k (F ⟨ts,k,en⟩) r l){x:ByteArray}{N:Nd}{r l}(hS:Q5 en sub x N (ts.drop k)=some (r,l)) :
   ∃k':Nat,k<=k'/\k'<=ts.length/\l=ts.drop k'/\((∃n b,cond (BY x.data.toList EC.data.toList) (AO ⟨ts,k,en⟩) (F ⟨ts,k,en⟩)=some (.inl n,(k':Int))/\Bb x N n=some b/\r=.inl b)\/∃d,cond (BY x.data.toList EC.data.toList) (AO ⟨ts,k,en⟩) (F ⟨ts,k,en⟩)=some (.inr d,(k':Int))/\r=.inr d):=by
 have key:∀{r l},(cond (BY x.data.toList EC.data.toList) (Gs en) sub) (ts.drop k)=some (r,l)->Jv ts k (cond (BY x.data.toList EC.data.toList) (AO ⟨ts,k,en⟩) (F ⟨ts,k,en⟩)) r l:=by
   intro r l h;revert h;cases BY x.data.toList EC.data.toList;exact λh=>L7 h;exact λh=>U5 D2 hk h
 rcases Jg hS with ⟨n,s',h1,h2⟩ | ⟨d,h1,h2⟩
 obtain⟨b,hb,h2⟩:=Jj h2;obtain⟨rfl,rfl⟩:=LG h2;obtain⟨k',a1,a2,a3,a4⟩:=key h1;exact⟨k',a1,a2,a3,.inl ⟨n,b,a4,hb,rfl⟩⟩;obtain⟨k',a1,a2,a3,a4⟩:=key h1;exact⟨k',a1,a2,a3,.inr ⟨d,a4,h2⟩⟩
theorem aaW{R:Ad}{sub:Rd Nd}(L7:∀{k:Nat},k<=ts.length->∀{r l},sub (ts.drop k)=some (r,l)->Jv ts k (R.B0 ⟨ts,k,en⟩) r l)(k0:Int) :
   ∀(q:Nat) (N:Nd) (k:Nat) (r:Nd⊕Dg) (l:List Tk),k<=ts.length->Ln en (opsOf 0) sub q N (ts.drop k)=some (r,l) ->
   ∃k':Nat,k<=k'/\k'<=ts.length/\l=ts.drop k'/\∃n,EK (λx=>Bv R ⟨ts,k0,en⟩ x.1 x.2.1 x.2.2.1 x.2.2.2.1 x.2.2.2.2.1 x.2.2.2.2.2.1 x.2.2.2.2.2.2.1 x.2.2.2.2.2.2.2.1 x.2.2.2.2.2.2.2.2.1 x.2.2.2.2.2.2.2.2.2.1 x.2.2.2.2.2.2.2.2.2.2.1 x.2.2.2.2.2.2.2.2.2.2.2) n (N.kind,N.name,N.unit,N.n,N.fr,N.to,N.known,N.Cz.den,N.Cz.ps,N.kids,N.AH,(k:Int))=some (.inr (r,(k':Int))):=by
 intro q
 induction q with
 | zero=>intro N k r l hk hS;cases hS
 | succ q ih =>
   intro N k r l hk hS;rcases anL (en:=en) hk hS with ⟨x,h1,h2,hS⟩ | ⟨h2,hS⟩
   rcases Jg hS with ⟨b,s',h3,h4⟩ | ⟨d,h3,rfl⟩
   obtain⟨k',a1,a2,rfl,⟨n,b',hX,hb,hr⟩ | ⟨d,hX,hr⟩⟩:=NH D2 h1 (λh=>L7 h1 h) h3;cases hr;obtain⟨k2,b1,b2,b3,m,b4⟩:=ih b k' r l a2 h4;refine⟨k2,by omega,b2,b3,m+1,?_⟩
   have hL:Bv R ⟨ts,k0,en⟩ N.kind N.name N.unit N.n N.fr N.to N.known N.Cz.den N.Cz.ps N.kids N.AH (k:Int)=some (.nx (b.kind,b.name,b.unit,b.n,b.fr,b.to,b.known,b.Cz.den,b.Cz.ps,b.kids,b.AH,(k':Int))):=by
     unfold Bv;dsimp only;rw[h2];dsimp only[Option.bind,cond];rw[Ey D2 hk];cases hE:BY x.data.toList EC.data.toList <;>
     · rw[hE] at hX;dsimp only[cond] at hX;dsimp only
       rw[hX];dsimp only[Sum.elim];rw[QU,hb]
   show(Bv R ⟨ts,k0,en⟩ N.kind N.name N.unit N.n N.fr N.to N.known N.Cz.den N.Cz.ps N.kids N.AH (k:Int)).bind _=_;rw[hL];exact b4;cases hr;obtain⟨k',a1,a2,rfl,⟨n,b',hX,hb,hr⟩ | ⟨d',hX,hr⟩⟩:=NH D2 h1 (λh=>L7 h1 h) h3;cases hr;cases hr;refine⟨k',by omega,a2,rfl,1,?_⟩
   have hL:Bv R ⟨ts,k0,en⟩ N.kind N.name N.unit N.n N.fr N.to N.known N.Cz.den N.Cz.ps N.kids N.AH (k:Int)=some (.rt (.inr d,(k':Int))):=by
     unfold Bv;dsimp only;rw[h2];dsimp only[Option.bind,cond];rw[Ey D2 hk];cases hE:BY x.data.toList EC.data.toList <;>
     · rw[hE] at hX;dsimp only[cond] at hX;dsimp only
       rw[hX];rfl
   show(Bv R ⟨ts,k0,en⟩ N.kind N.name N.unit N.n N.fr N.to N.known N.Cz.den N.Cz.ps N.kids N.AH (k:Int)).bind _=_;rw[hL];rfl;obtain⟨rfl,rfl⟩:=LG hS;refine⟨k,Nat.le_refl k,hk,rfl,1,?_⟩
   have hL:Bv R ⟨ts,k0,en⟩ N.kind N.name N.unit N.n N.fr N.to N.known N.Cz.den N.Cz.ps N.kids N.AH (k:Int)=some (.rt (.inl N,(k:Int))):=by
     unfold Bv;dsimp only;rw[h2,QU];rfl
   show(Bv R ⟨ts,k0,en⟩ N.kind N.name N.unit N.n N.fr N.to N.known N.Cz.den N.Cz.ps N.kids N.AH (k:Int)).bind _=_;rw[hL];rfl
theorem aeJ{R:Ad}{g:Ek->Rd Nd}(L7:∀{k:Nat},k<=ts.length->∀{r l},g (.lv 1) (ts.drop k)=some (r,l)->Jv ts k (R.B0 ⟨ts,k,en⟩) r l){k:Nat}(hk:k<=ts.length){r l}(hS:N6 en g 0 (ts.drop k)=some (r,l)) :
   Jv ts k (FW R ⟨ts,k,en⟩) r l:=by
 refine BC (λh=>L7 hk h) (λN k' h1 h2 hS=>?_) (λ_ _=>rfl) hS;obtain⟨k2,a1,a2,a3,n,a4⟩:=aaW D2 L7 (k:Int) _ N k' r l h2 hS;refine⟨k2,a1,a2,a3,?_⟩;dsimp only[Sum.elim];rw[Fc a4];rfl
theorem aaX{R:Ad}{sub:Rd Nd}(L7:∀{k:Nat},k<=ts.length->∀{r l},sub (ts.drop k)=some (r,l)->Jv ts k (R.BD ⟨ts,k,en⟩) r l)(k0:Int) :
   ∀(q:Nat) (N:Nd) (k:Nat) (r:Nd⊕Dg) (l:List Tk),k<=ts.length->Ln en (opsOf 1) sub q N (ts.drop k)=some (r,l) ->
   ∃k':Nat,k<=k'/\k'<=ts.length/\l=ts.drop k'/\∃n,EK (λx=>Bw R ⟨ts,k0,en⟩ x.1 x.2.1 x.2.2.1 x.2.2.2.1 x.2.2.2.2.1 x.2.2.2.2.2.1 x.2.2.2.2.2.2.1 x.2.2.2.2.2.2.2.1 x.2.2.2.2.2.2.2.2.1 x.2.2.2.2.2.2.2.2.2.1 x.2.2.2.2.2.2.2.2.2.2.1 x.2.2.2.2.2.2.2.2.2.2.2) n (N.kind,N.name,N.unit,N.n,N.fr,N.to,N.known,N.Cz.den,N.Cz.ps,N.kids,N.AH,(k:Int))=some (.inr (r,(k':Int))):=by
 intro q
 induction q with
 | zero=>intro N k r l hk hS;cases hS
 | succ q ih =>
   intro N k r l hk hS;rcases anM (en:=en) hk hS with ⟨x,h1,h2,hS⟩ | ⟨h2,hS⟩
   rcases Jg hS with ⟨b,s',h3,h4⟩ | ⟨d,h3,rfl⟩
   obtain⟨k',a1,a2,rfl,⟨n,b',hX,hb,hr⟩ | ⟨d,hX,hr⟩⟩:=NH D2 h1 (λh=>L7 h1 h) h3;cases hr;obtain⟨k2,b1,b2,b3,m,b4⟩:=ih b k' r l a2 h4;refine⟨k2,by omega,b2,b3,m+1,?_⟩
   have hL:Bw R ⟨ts,k0,en⟩ N.kind N.name N.unit N.n N.fr N.to N.known N.Cz.den N.Cz.ps N.kids N.AH (k:Int)=some (.nx (b.kind,b.name,b.unit,b.n,b.fr,b.to,b.known,b.Cz.den,b.Cz.ps,b.kids,b.AH,(k':Int))):=by
     unfold Bw;dsimp only;rw[h2];dsimp only[Option.bind,cond];rw[Ey D2 hk];cases hE:BY x.data.toList EC.data.toList <;>
     · rw[hE] at hX;dsimp only[cond] at hX;dsimp only
       rw[hX];dsimp only[Sum.elim];rw[QU,hb]
   show(Bw R ⟨ts,k0,en⟩ N.kind N.name N.unit N.n N.fr N.to N.known N.Cz.den N.Cz.ps N.kids N.AH (k:Int)).bind _=_;rw[hL];exact b4;cases hr;obtain⟨k',a1,a2,rfl,⟨n,b',hX,hb,hr⟩ | ⟨d',hX,hr⟩⟩:=NH D2 h1 (λh=>L7 h1 h) h3;cases hr;cases hr;refine⟨k',by omega,a2,rfl,1,?_⟩
   have hL:Bw R ⟨ts,k0,en⟩ N.kind N.name N.unit N.n N.fr N.to N.known N.Cz.den N.Cz.ps N.kids N.AH (k:Int)=some (.rt (.inr d,(k':Int))):=by
     unfold Bw;dsimp only;rw[h2];dsimp only[Option.bind,cond];rw[Ey D2 hk];cases hE:BY x.data.toList EC.data.toList <;>
     · rw[hE] at hX;dsimp only[cond] at hX;dsimp only
       rw[hX];rfl
   show(Bw R ⟨ts,k0,en⟩ N.kind N.name N.unit N.n N.fr N.to N.known N.Cz.den N.Cz.ps N.kids N.AH (k:Int)).bind _=_;rw[hL];rfl;obtain⟨rfl,rfl⟩:=LG hS;refine⟨k,Nat.le_refl k,hk,rfl,1,?_⟩
   have hL:Bw R ⟨ts,k0,en⟩ N.kind N.name N.unit N.n N.fr N.to N.known N.Cz.den N.Cz.ps N.kids N.AH (k:Int)=some (.rt (.inl N,(k:Int))):=by
     unfold Bw;dsimp only;rw[h2,QU];rfl
   show(Bw R ⟨ts,k0,en⟩ N.kind N.name N.unit N.n N.fr N.to N.known N.Cz.den N.Cz.ps N.kids N.AH (k:Int)).bind _=_;rw[hL];rfl
theorem aeK{R:Ad}{g:Ek->Rd Nd}(L7:∀{k:Nat},k<=ts.length->∀{r l},g (.lv 2) (ts.drop k)=some (r,l)->Jv ts k (R.BD ⟨ts,k,en⟩) r l){k:Nat}(hk:k<=ts.length){r l}(hS:N6 en g 1 (ts.drop k)=some (r,l)) :
   Jv ts k (FX R ⟨ts,k,en⟩) r l:=by
 refine BC (λh=>L7 hk h) (λN k' h1 h2 hS=>?_) (λ_ _=>rfl) hS;obtain⟨k2,a1,a2,a3,n,a4⟩:=aaX D2 L7 (k:Int) _ N k' r l h2 hS;refine⟨k2,a1,a2,a3,?_⟩;dsimp only[Sum.elim];rw[Fc a4];rfl
theorem aaY{R:Ad}{sub:Rd Nd}(L7:∀{k:Nat},k<=ts.length->∀{r l},sub (ts.drop k)=some (r,l)->Jv ts k (R.B1 ⟨ts,k,en⟩) r l)(k0:Int) :
   ∀(q:Nat) (N:Nd) (k:Nat) (r:Nd⊕Dg) (l:List Tk),k<=ts.length->Ln en (opsOf 4) sub q N (ts.drop k)=some (r,l) ->
   ∃k':Nat,k<=k'/\k'<=ts.length/\l=ts.drop k'/\∃n,EK (λx=>By R ⟨ts,k0,en⟩ x.1 x.2.1 x.2.2.1 x.2.2.2.1 x.2.2.2.2.1 x.2.2.2.2.2.1 x.2.2.2.2.2.2.1 x.2.2.2.2.2.2.2.1 x.2.2.2.2.2.2.2.2.1 x.2.2.2.2.2.2.2.2.2.1 x.2.2.2.2.2.2.2.2.2.2.1 x.2.2.2.2.2.2.2.2.2.2.2) n (N.kind,N.name,N.unit,N.n,N.fr,N.to,N.known,N.Cz.den,N.Cz.ps,N.kids,N.AH,(k:Int))=some (.inr (r,(k':Int))):=by
 intro q
 induction q with
 | zero=>intro N k r l hk hS;cases hS
 | succ q ih =>
   intro N k r l hk hS;rcases anO (en:=en) hk hS with ⟨x,h1,h2,hS⟩ | ⟨h2,hS⟩
   rcases Jg hS with ⟨b,s',h3,h4⟩ | ⟨d,h3,rfl⟩
   obtain⟨k',a1,a2,rfl,⟨n,b',hX,hb,hr⟩ | ⟨d,hX,hr⟩⟩:=NH D2 h1 (λh=>L7 h1 h) h3;cases hr;obtain⟨k2,b1,b2,b3,m,b4⟩:=ih b k' r l a2 h4;refine⟨k2,by omega,b2,b3,m+1,?_⟩
   have hL:By R ⟨ts,k0,en⟩ N.kind N.name N.unit N.n N.fr N.to N.known N.Cz.den N.Cz.ps N.kids N.AH (k:Int)=some (.nx (b.kind,b.name,b.unit,b.n,b.fr,b.to,b.known,b.Cz.den,b.Cz.ps,b.kids,b.AH,(k':Int))):=by
     unfold By;dsimp only;rw[h2];dsimp only[Option.bind,cond];rw[Ey D2 hk];cases hE:BY x.data.toList EC.data.toList <;>
     · rw[hE] at hX;dsimp only[cond] at hX;dsimp only
       rw[hX];dsimp only[Sum.elim];rw[QU,hb]
   show(By R ⟨ts,k0,en⟩ N.kind N.name N.unit N.n N.fr N.to N.known N.Cz.den N.Cz.ps N.kids N.AH (k:Int)).bind _=_;rw[hL];exact b4;cases hr;obtain⟨k',a1,a2,rfl,⟨n,b',hX,hb,hr⟩ | ⟨d',hX,hr⟩⟩:=NH D2 h1 (λh=>L7 h1 h) h3;cases hr;cases hr;refine⟨k',by omega,a2,rfl,1,?_⟩
   have hL:By R ⟨ts,k0,en⟩ N.kind N.name N.unit N.n N.fr N.to N.known N.Cz.den N.Cz.ps N.kids N.AH (k:Int)=some (.rt (.inr d,(k':Int))):=by
     unfold By;dsimp only;rw[h2];dsimp only[Option.bind,cond];rw[Ey D2 hk];cases hE:BY x.data.toList EC.data.toList <;>
     · rw[hE] at hX;dsimp only[cond] at hX;dsimp only
       rw[hX];rfl
   show(By R ⟨ts,k0,en⟩ N.kind N.name N.unit N.n N.fr N.to N.known N.Cz.den N.Cz.ps N.kids N.AH (k:Int)).bind _=_;rw[hL];rfl;obtain⟨rfl,rfl⟩:=LG hS;refine⟨k,Nat.le_refl k,hk,rfl,1,?_⟩
   have hL:By R ⟨ts,k0,en⟩ N.kind N.name N.unit N.n N.fr N.to N.known N.Cz.den N.Cz.ps N.kids N.AH (k:Int)=some (.rt (.inl N,(k:Int))):=by
     unfold By;dsimp only;rw[h2,QU];rfl
   show(By R ⟨ts,k0,en⟩ N.kind N.name N.unit N.n N.fr N.to N.known N.Cz.den N.Cz.ps N.kids N.AH (k:Int)).bind _=_;rw[hL];rfl
theorem aeL{R:Ad}{g:Ek->Rd Nd}(L7:∀{k:Nat},k<=ts.length->∀{r l},g (.lv 5) (ts.drop k)=some (r,l)->Jv ts k (R.B1 ⟨ts,k,en⟩) r l){k:Nat}(hk:k<=ts.length){r l}(hS:N6 en g 4 (ts.drop k)=some (r,l)) :
   Jv ts k (FZ R ⟨ts,k,en⟩) r l:=by
 refine BC (λh=>L7 hk h) (λN k' h1 h2 hS=>?_) (λ_ _=>rfl) hS;obtain⟨k2,a1,a2,a3,n,a4⟩:=aaY D2 L7 (k:Int) _ N k' r l h2 hS;refine⟨k2,a1,a2,a3,?_⟩;dsimp only[Sum.elim];rw[Fc a4];rfl
theorem aaZ{R:Ad}{sub:Rd Nd}(L7:∀{k:Nat},k<=ts.length->∀{r l},sub (ts.drop k)=some (r,l)->Jv ts k (R.B2 ⟨ts,k,en⟩) r l)(k0:Int) :
   ∀(q:Nat) (N:Nd) (k:Nat) (r:Nd⊕Dg) (l:List Tk),k<=ts.length->Ln en (opsOf 5) sub q N (ts.drop k)=some (r,l) ->
   ∃k':Nat,k<=k'/\k'<=ts.length/\l=ts.drop k'/\∃n,EK (λx=>Bz R ⟨ts,k0,en⟩ x.1 x.2.1 x.2.2.1 x.2.2.2.1 x.2.2.2.2.1 x.2.2.2.2.2.1 x.2.2.2.2.2.2.1 x.2.2.2.2.2.2.2.1 x.2.2.2.2.2.2.2.2.1 x.2.2.2.2.2.2.2.2.2.1 x.2.2.2.2.2.2.2.2.2.2.1 x.2.2.2.2.2.2.2.2.2.2.2) n (N.kind,N.name,N.unit,N.n,N.fr,N.to,N.known,N.Cz.den,N.Cz.ps,N.kids,N.AH,(k:Int))=some (.inr (r,(k':Int))):=by
 intro q
 induction q with
 | zero=>intro N k r l hk hS;cases hS
 | succ q ih =>
   intro N k r l hk hS;rcases anP (en:=en) hk hS with ⟨x,h1,h2,hS⟩ | ⟨h2,hS⟩
   rcases Jg hS with ⟨b,s',h3,h4⟩ | ⟨d,h3,rfl⟩
   obtain⟨k',a1,a2,rfl,⟨n,b',hX,hb,hr⟩ | ⟨d,hX,hr⟩⟩:=NH D2 h1 (λh=>L7 h1 h) h3;cases hr;obtain⟨k2,b1,b2,b3,m,b4⟩:=ih b k' r l a2 h4;refine⟨k2,by omega,b2,b3,m+1,?_⟩
   have hL:Bz R ⟨ts,k0,en⟩ N.kind N.name N.unit N.n N.fr N.to N.known N.Cz.den N.Cz.ps N.kids N.AH (k:Int)=some (.nx (b.kind,b.name,b.unit,b.n,b.fr,b.to,b.known,b.Cz.den,b.Cz.ps,b.kids,b.AH,(k':Int))):=by
     unfold Bz;dsimp only;rw[h2];dsimp only[Option.bind,cond];rw[Ey D2 hk];cases hE:BY x.data.toList EC.data.toList <;>
     · rw[hE] at hX;dsimp only[cond] at hX;dsimp only
       rw[hX];dsimp only[Sum.elim];rw[QU,hb]
   show(Bz R ⟨ts,k0,en⟩ N.kind N.name N.unit N.n N.fr N.to N.known N.Cz.den N.Cz.ps N.kids N.AH (k:Int)).bind _=_;rw[hL];exact b4;cases hr;obtain⟨k',a1,a2,rfl,⟨n,b',hX,hb,hr⟩ | ⟨d',hX,hr⟩⟩:=NH D2 h1 (λh=>L7 h1 h) h3;cases hr;cases hr;refine⟨k',by omega,a2,rfl,1,?_⟩
   have hL:Bz R ⟨ts,k0,en⟩ N.kind N.name N.unit N.n N.fr N.to N.known N.Cz.den N.Cz.ps N.kids N.AH (k:Int)=some (.rt (.inr d,(k':Int))):=by
     unfold Bz;dsimp only;rw[h2];dsimp only[Option.bind,cond];rw[Ey D2 hk];cases hE:BY x.data.toList EC.data.toList <;>
     · rw[hE] at hX;dsimp only[cond] at hX;dsimp only
       rw[hX];rfl
   show(Bz R ⟨ts,k0,en⟩ N.kind N.name N.unit N.n N.fr N.to N.known N.Cz.den N.Cz.ps N.kids N.AH (k:Int)).bind _=_;rw[hL];rfl;obtain⟨rfl,rfl⟩:=LG hS;refine⟨k,Nat.le_refl k,hk,rfl,1,?_⟩
   have hL:Bz R ⟨ts,k0,en⟩ N.kind N.name N.unit N.n N.fr N.to N.known N.Cz.den N.Cz.ps N.kids N.AH (k:Int)=some (.rt (.inl N,(k:Int))):=by
     unfold Bz;dsimp only;rw[h2,QU];rfl
   show(Bz R ⟨ts,k0,en⟩ N.kind N.name N.unit N.n N.fr N.to N.known N.Cz.den N.Cz.ps N.kids N.AH (k:Int)).bind _=_;rw[hL];rfl
theorem aeM{R:Ad}{g:Ek->Rd Nd}(L7:∀{k:Nat},k<=ts.length->∀{r l},g (.lv 6) (ts.drop k)=some (r,l)->Jv ts k (R.B2 ⟨ts,k,en⟩) r l){k:Nat}(hk:k<=ts.length){r l}(hS:N6 en g 5 (ts.drop k)=some (r,l)) :
   Jv ts k (F0 R ⟨ts,k,en⟩) r l:=by
 refine BC (λh=>L7 hk h) (λN k' h1 h2 hS=>?_) (λ_ _=>rfl) hS;obtain⟨k2,a1,a2,a3,n,a4⟩:=aaZ D2 L7 (k:Int) _ N k' r l h2 hS;refine⟨k2,a1,a2,a3,?_⟩;dsimp only[Sum.elim];rw[Fc a4];rfl
end
end Mo
end Go.Proofs.YtpbkhogolfegfaaGreatDoor
namespace Go.Proofs.YtpbkhogolfegfaaGreatDoor
open AI Go
namespace Mo
set_option maxRecDepth 100000
section
variable {α β γ:Type} {ts:List Tk} {k:Nat} {en:Int} {l:List Tk}
def cK(ts:List Tk)(k:Nat)(X:Option ((Pt⊕Dg)×Int×Int))(r:(Pt×Int)⊕Dg)(l:List Tk):Prop:=∃k':Nat,k<=k'/\k'<=ts.length/\l=ts.drop k'/\match r with
 | .inl x=>X=some (.inl x.1,(k':Int),x.2)
 | .inr d=>∃c,X=some (.inr d,(k':Int),c)
variable {r:(Pt×Int)⊕Dg}
theorem tP{k2:Nat}{X:Option ((Pt⊕Dg)×Int×Int)}(h1:k<=k2)(h:cK ts k2 X r l):cK ts k X r l:=by
 obtain⟨k',a,b,c,d⟩:=h;exact⟨k',Nat.le_trans h1 a,b,c,d⟩
theorem IW{F1:Option ((γ⊕Dg)×Int)}{F2:(γ⊕Dg)×Int->Option ((Pt⊕Dg)×Int×Int)}{m:Rd γ}{K:γ->Rd (Pt×Int)}
   (h1:∀{r l},m (ts.drop k)=some (r,l)->Jv ts k F1 r l)
   (h2:∀a k',k<=k'->k'<=ts.length->K a (ts.drop k')=some (r,l)->cK ts k' (F2 (.inl a,(k':Int))) r l)
   (h3:∀d z,∃c,F2 (.inr d,z)=some (.inr d,z,c)) (hS:Cu m K (ts.drop k)=some (r,l)):cK ts k (F1.bind F2) r l:=by
 rcases Jg hS with ⟨a,s',hm,hS⟩ | ⟨d,hm,rfl⟩
 obtain⟨k',a1,a2,rfl,a4⟩:=h1 hm;rw[a4];exact tP a1 (h2 _ _ a1 a2 hS);obtain⟨k',a1,a2,a3,a4⟩:=h1 hm;obtain⟨c,hc⟩:=h3 d k';exact⟨k',a1,a2,a3,c,by rw[a4,Option.bind_some,hc]⟩
theorem afX{F2:Bool->Option ((Pt⊕Dg)×Int×Int)}{A B:Rd (Pt×Int)}{x:ByteArray}(hk:k<=ts.length)
   (h1:k+1<=ts.length->A (ts.drop (k+1))=some (r,l)->cK ts (k+1) (F2 true) r l) (h2:B (ts.drop k)=some (r,l)->cK ts k (F2 false) r l)
   (hS:Ot x A B (ts.drop k)=some (r,l)):cK ts k ((As ⟨ts,k,en⟩ x).bind F2) r l:=by
 rw[GR hk,Option.bind_some];rcases LH hk hS with ⟨h,h3,hS⟩ | ⟨h,hS⟩
 rw[h];exact tP (Nat.le_succ k) (h1 h3 hS);rw[h];exact h2 hS
end
def ayY(p:Pr)(Az Bj:Int)(Ay:Int×Int):Option ((Pt⊕Dg)×Int×Int):=((Ak (⟨p.Bs,Bj,p.DI⟩:Pr) Vb).bind λ(Ks,EL)=>Sum.elim (λ(C5:Tk)=>(As (⟨p.Bs,EL,p.DI⟩:Pr) Lh).bind λy3=>cond y3 ((BR (⟨p.Bs,(Bt EL 1),p.DI⟩:Pr)).bind λ(Wh,JD)=>Sum.elim (λ(Di:(Int×Int))=>(Cg (⟨p.Bs,JD,p.DI⟩:Pr)).bind λ(Nb,G7)=>Sum.elim (λ(Iy:Int)=>(AL (⟨p.Bs,G7,p.DI⟩:Pr) 0).bind λ(ZJ,NL)=>Sum.elim (λ(Je:(Int×Int))=>(Ak (⟨p.Bs,NL,p.DI⟩:Pr) EC).bind λ(qV,RN)=>Sum.elim (λ(Vv:Tk)=>(AL (⟨p.Bs,RN,p.DI⟩:Pr) 1).bind λ(ZF,LN)=>Sum.elim (λ(G5:(Int×Int))=>(CO Az G5.1).bind λy9=>(S6 Az y9).bind λz10=>cond (Et 1000000 (BQ z10 G5.1)) (some ((Sum.inr (⟨2,G5.2⟩:Dg):(Pt⊕Dg)),LN,(BQ z10 G5.1))) (some ((Sum.inl (⟨Ay.1,(BQ Di.1 (-1)),(BQ Je.1 Iy),G5.1⟩:Pt):(Pt⊕Dg)),LN,(BQ z10 G5.1)))) (λ(LM:Dg)=>some ((Sum.inr LM:(Pt⊕Dg)),LN,Az)) ZF) (λ(PI:Dg)=>some ((Sum.inr PI:(Pt⊕Dg)),RN,Az)) qV) (λ(Nc:Dg)=>some ((Sum.inr Nc:(Pt⊕Dg)),NL,Az)) ZJ) (λ(Hc:Dg)=>some ((Sum.inr Hc:(Pt⊕Dg)),G7,Az)) Nb) (λ(Ix:Dg)=>some ((Sum.inr Ix:(Pt⊕Dg)),JD,Az)) Wh) ((BR (⟨p.Bs,EL,p.DI⟩:Pr)).bind λ(qT,QB)=>Sum.elim (λ(Nn:(Int×Int))=>(Cg (⟨p.Bs,QB,p.DI⟩:Pr)).bind λ(ZD,Vt)=>Sum.elim (λ(ZE:Int)=>(AL (⟨p.Bs,Vt,p.DI⟩:Pr) 0).bind λ(Xb,OQ)=>Sum.elim (λ(No:(Int×Int))=>(Ak (⟨p.Bs,OQ,p.DI⟩:Pr) EC).bind λ(fV,Un)=>Sum.elim (λ(auJ:Tk)=>(AL (⟨p.Bs,Un,p.DI⟩:Pr) 1).bind λ(fW,Rh)=>Sum.elim (λ(KF:(Int×Int))=>(CO Az KF.1).bind λy16=>(S6 Az y16).bind λz17=>cond (Et 1000000 (BQ z17 KF.1)) (some ((Sum.inr (⟨2,KF.2⟩:Dg):(Pt⊕Dg)),Rh,(BQ z17 KF.1))) (some ((Sum.inl (⟨Ay.1,(BQ Nn.1 1),(BQ No.1 ZE),KF.1⟩:Pt):(Pt⊕Dg)),Rh,(BQ z17 KF.1)))) (λ(mE:Dg)=>some ((Sum.inr mE:(Pt⊕Dg)),Rh,Az)) fW) (λ(mD:Dg)=>some ((Sum.inr mD:(Pt⊕Dg)),Un,Az)) fV) (λ(Vu:Dg)=>some ((Sum.inr Vu:(Pt⊕Dg)),OQ,Az)) Xb) (λ(mC:Dg)=>some ((Sum.inr mC:(Pt⊕Dg)),Vt,Az)) ZD) (λ(Vs:Dg)=>some ((Sum.inr Vs:(Pt⊕Dg)),QB,Az)) qT)) (λ(Hb:Dg)=>some ((Sum.inr Hb:(Pt⊕Dg)),EL,Az)) Ks)
section
variable {ts:List Tk} (D2:ts.length<=1000000) {en:Int}
include D2
theorem kA(k0 Az:Int)(v:Int×Int){k:Nat}(hk:k<=ts.length){r l}(hS:NE en Az v.1 (ts.drop k)=some (r,l)):cK ts k (ayY ⟨ts,k0,en⟩ Az k v) r l:=by
 refine IW (λh=>IR D2 _ hk h) (λ_ k h hk hS=>?_) (λ_ _=>⟨_,rfl⟩) hS;refine afX hk (λhk1 hS=>?_) (λhS=>?_) hS;dsimp only[cond];rw[Ey D2 hk];refine IW (λh=>fT D2 hk1 h) (λa k h hk hS=>?_) (λ_ _=>⟨_,rfl⟩) hS;refine IW (λh=>ahA D2 hk h) (λs k h hk hS=>?_) (λ_ _=>⟨_,rfl⟩) hS;refine IW (λh=>O1 D2 _ hk h) (λm k h hk hS=>?_) (λ_ _=>⟨_,rfl⟩) hS;refine IW (λh=>IR D2 _ hk h) (λ_ k h hk hS=>?_) (λ_ _=>⟨_,rfl⟩) hS;refine IW (λh=>O1 D2 _ hk h) (λd k h hk hS=>?_) (λ_ _=>⟨_,rfl⟩) hS;obtain⟨g,hg,hS⟩:=Jj hS;have hg:=acJ hg;obtain⟨z,hz,hS⟩:=Jj hS;dsimp only[Sum.elim];rw[hg,Option.bind_some,hz,Option.bind_some];revert hS;cases Et 1000000 (BQ z d.1);exact λhS=>by obtain⟨rfl,rfl⟩:=LG hS;exact⟨k,Nat.le_refl k,hk,rfl,rfl⟩
 exact λhS=>by obtain⟨rfl,rfl⟩:=Ng hS;exact⟨k,Nat.le_refl k,hk,rfl,_,rfl⟩
 refine IW (λh=>fT D2 hk h) (λa k h hk hS=>?_) (λ_ _=>⟨_,rfl⟩) hS;refine IW (λh=>ahA D2 hk h) (λs k h hk hS=>?_) (λ_ _=>⟨_,rfl⟩) hS;refine IW (λh=>O1 D2 _ hk h) (λm k h hk hS=>?_) (λ_ _=>⟨_,rfl⟩) hS;refine IW (λh=>IR D2 _ hk h) (λ_ k h hk hS=>?_) (λ_ _=>⟨_,rfl⟩) hS;refine IW (λh=>O1 D2 _ hk h) (λd k h hk hS=>?_) (λ_ _=>⟨_,rfl⟩) hS;obtain⟨g,hg,hS⟩:=Jj hS;have hg:=acJ hg;obtain⟨z,hz,hS⟩:=Jj hS;dsimp only[Sum.elim];rw[hg,Option.bind_some,hz,Option.bind_some];revert hS;cases Et 1000000 (BQ z d.1);exact λhS=>by obtain⟨rfl,rfl⟩:=LG hS;exact⟨k,Nat.le_refl k,hk,rfl,rfl⟩
 exact λhS=>by obtain⟨rfl,rfl⟩:=Ng hS;exact⟨k,Nat.le_refl k,hk,rfl,_,rfl⟩
theorem tH(before:List Pt)(hb:before.length<=100000000)(Az:Int){k:Nat}(hk:k<=ts.length){r l}(hS:Sk en before Az (ts.drop k)=some (r,l)):cK ts k (GZ ⟨ts,k,en⟩ before Az) r l:=by
 refine IW (λh=>fT D2 hk h) (λv k1 h hk hS=>?_) (λ_ _=>⟨_,rfl⟩) hS;dsimp only[Sum.elim];revert hS;cases hE:CV ((before.length:Nat):Int) 0 with
 | true =>
   cases CV v.1 0;exact λhS=>by obtain⟨rfl,rfl⟩:=Ng hS;exact⟨k1,Nat.le_refl k1,hk,rfl,_,rfl⟩
   exact λhS=>kA D2 k Az v hk hS
 | false =>
   intro hS;have h0:before.length≠0:=λh=>UL hE (by rw[h];rfl);obtain⟨x,hx,hS⟩:=Jj hS;dsimp only[cond];rw[Ij (by omega)]
   have hg:Hu before (LV ((before.length:Nat):Int) 1)=some x:=by
     have:LV ((before.length:Nat):Int) 1=((before.length - 1:Nat):Int):=by
       rw[KP (by omega)];omega
     rw[this];unfold Hu;rw[if_pos (by omega),Int.toNat_natCast,hx]
   dsimp only;rw[hg,Option.bind_some];revert hS;cases Nv v.1 x.fr;cases Nv 64 ((before.length:Nat):Int);exact λhS=>kA D2 k Az v hk hS;exact λhS=>by obtain⟨rfl,rfl⟩:=Ng hS;exact⟨k1,Nat.le_refl k1,hk,rfl,_,rfl⟩
   exact λhS=>by obtain⟨rfl,rfl⟩:=Ng hS;exact⟨k1,Nat.le_refl k1,hk,rfl,_,rfl⟩
theorem kB(R:Ad)(k0:Int):∀(q:Nat) (ps:List Pt) (c:Int) (k:Nat) (r:(List Pt×Int)⊕Dg) (l:List Tk),ps.length<=100000000->k<=ts.length->Mp en q ps c (ts.drop k)=some (r,l) ->
   ∃k':Nat,k<=k'/\k'<=ts.length/\l=ts.drop k'/\∃n,EK (λx=>BF R ⟨ts,k0,en⟩ x.1 x.2.1 x.2.2) n (ps,c,(k:Int))=some (match r with | .inl x=>.inl (x.1,x.2,(k':Int)) | .inr d=>.inr (.inr d,(k':Int))):=by
 intro q
 induction q with
 | zero=>intro ps c k r l hp hk hS;cases hS
 | succ q ih =>
   intro ps c k r l hp hk hS;rcases Jg hS with ⟨x,s',h3,h4⟩ | ⟨d,h3,rfl⟩
   obtain⟨k',a1,a2,rfl,a4⟩:=tH D2 ps hp c hk h3;obtain⟨hl,h4⟩:=N7 h4;rcases LH a2 h4 with ⟨h5,h6,h7⟩ | ⟨h5,h7⟩
   obtain⟨k2,b1,b2,b3,n,b4⟩:=ih (ps++[x.1]) x.2 (k'+1) r l (by simp only[List.length_append,List.length_singleton];omega) h6 h7;refine⟨k2,by omega,b2,b3,n+1,?_⟩
   have hL:BF R ⟨ts,k0,en⟩ ps c (k:Int)=some (.nx (ps++[x.1],x.2,((k'+1:Nat):Int))):=by
     unfold BF;dsimp only at a4 ⊢;rw[a4,Option.bind_some];dsimp only[Sum.elim];rw[Ff hl,GR a2,h5,Option.bind_some,Ey D2 a2];rfl
   show(BF R ⟨ts,k0,en⟩ ps c (k:Int)).bind _=_;rw[hL];exact b4;obtain⟨rfl,rfl⟩:=LG h7;refine⟨k',a1,a2,rfl,1,?_⟩
   have hL:BF R ⟨ts,k0,en⟩ ps c (k:Int)=some (.ex (ps++[x.1],x.2,(k':Int))):=by
     unfold BF;dsimp only at a4 ⊢;rw[a4,Option.bind_some];dsimp only[Sum.elim];rw[Ff hl,GR a2,h5,Option.bind_some];rfl
   show(BF R ⟨ts,k0,en⟩ ps c (k:Int)).bind _=_;rw[hL];rfl;obtain⟨k',a1,a2,a3,c',a4⟩:=tH D2 ps hp c hk h3;refine⟨k',a1,a2,a3,1,?_⟩
   have hL:BF R ⟨ts,k0,en⟩ ps c (k:Int)=some (.rt (.inr d,(k':Int))):=by
     unfold BF;dsimp only at a4 ⊢;rw[a4,Option.bind_some];rfl
   show(BF R ⟨ts,k0,en⟩ ps c (k:Int)).bind _=_;rw[hL];rfl
omit D2 in
theorem lE(R:Ad)(c:Int)(t:Tk)(kz:Int):∀(ps:List Pt) (acc:List Pc) (i:Nat) (r:(List Pc)⊕Dg) (s l:List Tk),Mv c t.AH ps acc s=some (r,l) ->
   l=s/\CL (λi y x=>EU R c kz t i y x) (λx=>x) ps i acc=some (match r with | .inl x=>.inl x | .inr d=>.inr (.inr d,kz)):=by
 intro ps
 induction ps with
 | nil =>
   intro acc i r s l hS;obtain⟨rfl,rfl⟩:=LG hS;exact⟨rfl,rfl⟩
 | cons x ps ih =>
   intro acc i r s l hS;unfold Mv at hS;obtain⟨z,hz,hS⟩:=Jj hS;rw[CL];unfold EU;rw[hz,Option.bind_some];revert hS;cases Et 1000000 (BQ x.num z);cases Et (BQ x.num z) (-1000000);intro hS;obtain⟨hl,hS⟩:=N7 hS;obtain⟨rfl,h⟩:=ih _ (i+1) r s l hS;refine⟨rfl,?_⟩;dsimp only[cond];rw[Ff hl,Option.bind_some];exact h;intro hS;obtain⟨rfl,rfl⟩:=Ng hS;exact⟨rfl,rfl⟩;intro hS;obtain⟨rfl,rfl⟩:=Ng hS;exact⟨rfl,rfl⟩
theorem aqF{R:Ad}{g:Ek->Rd Nd}(hex:∀{k:Nat},k<=ts.length->∀{r l},g .ex (ts.drop k)=some (r,l)->Jv ts k (R.AN ⟨ts,k,en⟩) r l){k:Nat}(hk:k<=ts.length){r l}(hS:Zg en g (ts.drop k)=some (r,l)) :
   Jv ts k (G3 R ⟨ts,k,en⟩) r l:=by
 refine BC (λh=>IR D2 _ hk h) (λt k1 h hk1 hS=>?_) (λ_ _=>rfl) hS;refine BC (λh=>IR D2 _ hk1 h) (λ_ k2 h hk2 hS=>?_) (λ_ _=>rfl) hS;refine BC (λh=>hex hk2 h) (λa k3 h hk3 hS=>?_) (λ_ _=>rfl) hS;refine BC (λh=>IR D2 _ hk3 h) (λ_ k4 h hk4 hS=>?_) (λ_ _=>rfl) hS;dsimp only[Sum.elim];rcases Jg hS with ⟨x,s',h3,h4⟩ | ⟨d,h3,rfl⟩
 obtain⟨k',a1,a2,rfl,n,a4⟩:=kB D2 R (k:Int) _ [] 1 k4 _ _ (by simp) hk4 h3;rw[Fc a4,Option.bind_some];refine LF a1 ?_;dsimp only[LZ];refine BC (λh=>IR D2 _ a2 h) (λe k5 h hk5 hS=>?_) (λ_ _=>rfl) h4;obtain⟨hl,hS⟩:=N7 hS;dsimp only[Sum.elim];rw[List.drop_zero,show Rt x.1.length=λy=>y from funext λy=>if_pos (by omega)];dsimp only;rcases Jg hS with ⟨y,s2,h5,h6⟩ | ⟨d,h5,rfl⟩
 obtain⟨rfl,h⟩:=lE R x.2 e (k5:Int) x.1 [] 0 _ _ _ h5;rw[h];exact Es hk5 rfl h6;obtain⟨rfl,h⟩:=lE R x.2 e (k5:Int) x.1 [] 0 _ _ _ h5;rw[h];exact⟨k5,Nat.le_refl _,hk5,rfl,rfl⟩;obtain⟨k',a1,a2,a3,n,a4⟩:=kB D2 R (k:Int) _ [] 1 k4 _ _ (by simp) hk4 h3;rw[Fc a4,Option.bind_some];exact⟨k',a1,a2,a3,rfl⟩
theorem pA{R:Ad}{read:Rd Nd}(k0:Int)(N2:∀{k:Nat},k<=ts.length->∀{r l},read (ts.drop k)=some (r,l)->Jv ts k (R.AN ⟨ts,k,en⟩) r l):∀(q:Nat) (ns:List Nd) (k:Nat) (r:(List Nd)⊕Dg) (l:List Tk),k<=ts.length->Ru read q ns (ts.drop k)=some (r,l) ->
   ∃k':Nat,k<=k'/\k'<=ts.length/\l=ts.drop k'/\∃n,EK (λx=>Bm R ⟨ts,k0,en⟩ x.1 x.2) n (ns,(k:Int))=some (match r with | .inl x=>.inl (x,(k':Int)) | .inr d=>.inr (.inr d,(k':Int))):=by
 intro q
 induction q with
 | zero=>intro ns k r l hk hS;cases hS
 | succ q ih =>
   intro ns k r l hk hS;rcases LH hk hS with ⟨h1,h2,hS⟩ | ⟨h1,hS⟩
   rcases Jg hS with ⟨x,s',h3,h4⟩ | ⟨d,h3,rfl⟩
   obtain⟨k',a1,a2,rfl,a4⟩:=N2 h2 h3;obtain⟨hl,h4⟩:=N7 h4;obtain⟨k2,b1,b2,b3,n,b4⟩:=ih (ns++[x]) k' r l a2 h4;refine⟨k2,by omega,b2,b3,n+1,?_⟩
   have hL:Bm R ⟨ts,k0,en⟩ ns (k:Int)=some (.nx (ns++[x],(k':Int))):=by
     unfold Bm;dsimp only;rw[GR hk,h1,Option.bind_some,Ey D2 hk];dsimp only[cond];rw[a4,Option.bind_some];dsimp only[Sum.elim];rw[Ff hl]
   show(Bm R ⟨ts,k0,en⟩ ns (k:Int)).bind _=_;rw[hL];exact b4;obtain⟨k',a1,a2,a3,a4⟩:=N2 h2 h3;refine⟨k',by omega,a2,a3,1,?_⟩
   have hL:Bm R ⟨ts,k0,en⟩ ns (k:Int)=some (.rt (.inr d,(k':Int))):=by
     unfold Bm;dsimp only;rw[GR hk,h1,Option.bind_some,Ey D2 hk];dsimp only[cond];rw[a4,Option.bind_some];rfl
   show(Bm R ⟨ts,k0,en⟩ ns (k:Int)).bind _=_;rw[hL];rfl;obtain⟨rfl,rfl⟩:=LG hS;refine⟨k,Nat.le_refl k,hk,rfl,1,?_⟩
   have hL:Bm R ⟨ts,k0,en⟩ ns (k:Int)=some (.ex (ns,(k:Int))):=by
     unfold Bm;dsimp only;rw[GR hk,h1,Option.bind_some];rfl
   show(Bm R ⟨ts,k0,en⟩ ns (k:Int)).bind _=_;rw[hL];rfl
theorem anD{R:Ad}{read:Rd Nd}(N2:∀{k:Nat},k<=ts.length->∀{r l},read (ts.drop k)=some (r,l)->Jv ts k (R.AN ⟨ts,k,en⟩) r l){k:Nat}(hk:k<=ts.length){r l}(hS:Sf read (ts.drop k)=some (r,l)):Jv ts k (Fi R ⟨ts,k,en⟩) r l:=by
 refine BC (λh=>N2 hk h) (λx k1 h hk1 hS=>?_) (λ_ _=>rfl) hS;dsimp only[Sum.elim];rcases LH hk1 hS with ⟨h1,h2,hS⟩ | ⟨h1,hS⟩
 rw[GR hk1,h1,Option.bind_some,Ey D2 hk1];refine LF (Nat.le_succ k1) ?_;refine BC (λh=>N2 h2 h) (λy k2 h hk2 hS=>?_) (λ_ _=>rfl) hS;obtain⟨hl,hS⟩:=N7 hS;dsimp only[Sum.elim];rw[Ff hl];obtain⟨k',a1,a2,a3,n,a4⟩:=pA D2 (k:Int) N2 _ _ k2 _ _ hk2 hS;rw[Fc a4,Option.bind_some];refine⟨k',a1,a2,a3,?_⟩;cases r<;>rfl
 rw[GR hk1,h1,Option.bind_some];exact Es hk1 rfl hS
theorem pB{read:Rd Nd}(k0:Int)(N2:∀{k:Nat},k<=ts.length->∀{r l},read (ts.drop k)=some (r,l)->Jv ts k (AO ⟨ts,k,en⟩) r l):∀(q:Nat) (ns:List Nd) (k:Nat) (r:(List Nd)⊕Dg) (l:List Tk),k<=ts.length->Ru read q ns (ts.drop k)=some (r,l) ->
   ∃k':Nat,k<=k'/\k'<=ts.length/\l=ts.drop k'/\∃n,EK (λx=>AP ⟨ts,k0,en⟩ x.1 x.2) n (ns,(k:Int))=some (match r with | .inl x=>.inl (x,(k':Int)) | .inr d=>.inr (.inr d,(k':Int))):=by
 intro q
 induction q with
 | zero=>intro ns k r l hk hS;cases hS
 | succ q ih =>
   intro ns k r l hk hS;rcases LH hk hS with ⟨h1,h2,hS⟩ | ⟨h1,hS⟩
   rcases Jg hS with ⟨x,s',h3,h4⟩ | ⟨d,h3,rfl⟩
   obtain⟨k',a1,a2,rfl,a4⟩:=N2 h2 h3;obtain⟨hl,h4⟩:=N7 h4;obtain⟨k2,b1,b2,b3,n,b4⟩:=ih (ns++[x]) k' r l a2 h4;refine⟨k2,by omega,b2,b3,n+1,?_⟩
   have hL:AP ⟨ts,k0,en⟩ ns (k:Int)=some (.nx (ns++[x],(k':Int))):=by
     unfold AP;dsimp only;rw[GR hk,h1,Option.bind_some,Ey D2 hk];dsimp only[cond];rw[a4,Option.bind_some];dsimp only[Sum.elim];rw[Ff hl]
   show(AP ⟨ts,k0,en⟩ ns (k:Int)).bind _=_;rw[hL];exact b4;obtain⟨k',a1,a2,a3,a4⟩:=N2 h2 h3;refine⟨k',by omega,a2,a3,1,?_⟩
   have hL:AP ⟨ts,k0,en⟩ ns (k:Int)=some (.rt (.inr d,(k':Int))):=by
     unfold AP;dsimp only;rw[GR hk,h1,Option.bind_some,Ey D2 hk];dsimp only[cond];rw[a4,Option.bind_some];rfl
   show(AP ⟨ts,k0,en⟩ ns (k:Int)).bind _=_;rw[hL];rfl;obtain⟨rfl,rfl⟩:=LG hS;refine⟨k,Nat.le_refl k,hk,rfl,1,?_⟩
   have hL:AP ⟨ts,k0,en⟩ ns (k:Int)=some (.ex (ns,(k:Int))):=by
     unfold AP;dsimp only;rw[GR hk,h1,Option.bind_some];rfl
   show(AP ⟨ts,k0,en⟩ ns (k:Int)).bind _=_;rw[hL];rfl
theorem anE{read:Rd Nd}(N2:∀{k:Nat},k<=ts.length->∀{r l},read (ts.drop k)=some (r,l)->Jv ts k (AO ⟨ts,k,en⟩) r l){k:Nat}(hk:k<=ts.length){r l}(hS:Sf read (ts.drop k)=some (r,l)):Jv ts k (DL ⟨ts,k,en⟩) r l:=by
 refine BC (λh=>N2 hk h) (λx k1 h hk1 hS=>?_) (λ_ _=>rfl) hS;dsimp only[Sum.elim];rcases LH hk1 hS with ⟨h1,h2,hS⟩ | ⟨h1,hS⟩
 rw[GR hk1,h1,Option.bind_some,Ey D2 hk1];refine LF (Nat.le_succ k1) ?_;refine BC (λh=>N2 h2 h) (λy k2 h hk2 hS=>?_) (λ_ _=>rfl) hS;obtain⟨hl,hS⟩:=N7 hS;dsimp only[Sum.elim];rw[Ff hl];obtain⟨k',a1,a2,a3,n,a4⟩:=pB D2 (k:Int) N2 _ _ k2 _ _ hk2 hS;rw[Fc a4,Option.bind_some];refine⟨k',a1,a2,a3,?_⟩;cases r<;>rfl
 rw[GR hk1,h1,Option.bind_some];exact Es hk1 rfl hS
end
end Mo
end Go.Proofs.YtpbkhogolfegfaaGreatDoor
namespace Go.Proofs.YtpbkhogolfegfaaGreatDoor
open AI Go
namespace Mo
set_option maxRecDepth 100000
section
variable {ts:List Tk} (D2:ts.length<=1000000) {en:Int} {R:Ad} {g:Ek->Rd Nd} {li:Rd (List Nd)} (A:Agr R ts en g li)
include D2 A
theorem avH{k:Nat}(hk:k<=ts.length){r l}(hS:iI en g (ts.drop k)=some (r,l)):Jv ts k (FY R ⟨ts,k,en⟩) r l:=by
 refine BC (λh=>A.l4 hk h) (λN k h hk hS=>?_) (λ_ _=>rfl) hS;dsimp only[Sum.elim]
 have fin:∀{y:(Nd⊕Dg)×Int} (k0:Int),BU R ⟨ts,k0,en⟩ (k:Int) N=some (.rt y)->(L6 (λ_:Unit=>BU R ⟨ts,k0,en⟩ (k:Int) N) ()).bind (LZ (λ(_:Unit)=>none) (λv=>some v))=some y:=by
   intro y k0 hL
   have:EK (λ_:Unit=>BU R ⟨ts,k0,en⟩ (k:Int) N) 1 ()=some (.inr y):=by
     show(BU R ⟨ts,k0,en⟩ (k:Int) N).bind _=_;rw[hL];rfl
   rw[Fc this];rfl
 rcases anN (en:=en) hk hS with ⟨x,h1,h2,hS⟩ | ⟨h2,hS⟩
 obtain⟨k',a1,a2,rfl,⟨n,b,hX,hb,rfl⟩ | ⟨d,hX,rfl⟩⟩:=NH D2 h1 (λh=>A.l4 h1 h) hS;refine⟨k',by omega,a2,rfl,fin _ ?_⟩;unfold BU;dsimp only;rw[h2];dsimp only[Option.bind,cond];rw[Ey D2 hk];cases hE:BY x.data.toList EC.data.toList <;>
 · rw[hE] at hX;dsimp only[cond] at hX;dsimp only
   rw[hX];dsimp only[Sum.elim];rw[hb]
 refine⟨k',by omega,a2,rfl,fin _ ?_⟩;unfold BU;dsimp only;rw[h2];dsimp only[Option.bind,cond];rw[Ey D2 hk];cases hE:BY x.data.toList EC.data.toList <;>
 · rw[hE] at hX;dsimp only[cond] at hX;dsimp only
   rw[hX];rfl
 obtain⟨rfl,rfl⟩:=LG hS;refine⟨k,Nat.le_refl k,hk,rfl,fin _ ?_⟩;unfold BU;dsimp only;rw[h2];rfl
theorem aDR{k:Nat}(hk:k<=ts.length){r l}(hS:YS en g (ts.drop k)=some (r,l)):Jv ts k (EB R ⟨ts,k,en⟩) r l:=by
 unfold YS at hS;unfold EB;rw[GR hk,Option.bind_some];cases hx:Ju U3 (ts.drop k) with
 | true =>
   rw[hx] at hS;refine BC (λh=>IR D2 _ hk h) (λt k h hk hS=>?_) (λ_ _=>rfl) hS;refine BC (λh=>A.l2 hk h) (λN k h hk hS=>?_) (λ_ _=>rfl) hS;exact Es hk rfl hS
 | false =>
   rw[hx] at hS;obtain⟨k',a1,a2,a3,a4⟩:=A.l3 hk hS;refine⟨k',a1,a2,a3,?_⟩;dsimp only[cond];rw[a4,Option.bind_some];cases r with
   | inr d=>rfl
   | inl N =>
     dsimp only[Sum.elim]
     have hL:EK (λx:Int×ByteArray×ByteArray×Int×Int×Int×Int×Int×List Pc×List Nd×Int×Int=>CW R ⟨ts,k,en⟩ x.1 x.2.1 x.2.2.1 x.2.2.2.1 x.2.2.2.2.1 x.2.2.2.2.2.1 x.2.2.2.2.2.2.1 x.2.2.2.2.2.2.2.1 x.2.2.2.2.2.2.2.2.1 x.2.2.2.2.2.2.2.2.2.1 x.2.2.2.2.2.2.2.2.2.2.1 x.2.2.2.2.2.2.2.2.2.2.2) 1 (N.kind,N.name,N.unit,N.n,N.fr,N.to,N.known,N.Cz.den,N.Cz.ps,N.kids,N.AH,(k':Int))=some (.inr (.inl N,(k':Int))):=by
       have:CW R ⟨ts,k,en⟩ N.kind N.name N.unit N.n N.fr N.to N.known N.Cz.den N.Cz.ps N.kids N.AH (k':Int)=some (.rt (.inl N,(k':Int))):=by
         unfold CW ES;dsimp only[Option.bind,cond];rw[QU]
       show(CW R ⟨ts,k,en⟩ N.kind N.name N.unit N.n N.fr N.to N.known N.Cz.den N.Cz.ps N.kids N.AH (k':Int)).bind _=_;rw[this];rfl
     rw[Fc hL];rfl
omit D2 A in
theorem Q1{F:Option ((Nd⊕Dg)×Int)}{k:Nat}{r l}(h:Jv ts k F r l):Jv ts k (F.bind λ(Ej,Bj)=>Sum.elim (λ(Ay:Nd)=>some ((Sum.inl Ay:(Nd⊕Dg)),Bj)) (λ(CT:Dg)=>some ((Sum.inr CT:(Nd⊕Dg)),Bj)) Ej) r l:=by
 obtain⟨k',a1,a2,a3,a4⟩:=h;refine⟨k',a1,a2,a3,?_⟩;rw[a4,Option.bind_some];cases r<;>rfl
theorem avE{k:Nat}(hk:k<=ts.length){r l}(hS:X5 en g li (ts.drop k)=some (r,l)):Jv ts k (Hl R ⟨ts,k,en⟩) r l:=by
 refine V1 hk (λt h1 h2 hS=>?_) (λ_=>rfl) hS;have hS:=ZX h2 hS;dsimp only[Sum.elim];rw[Ey D2 hk];refine LF (Nat.le_succ k) ?_;refine BC (λh=>IR D2 _ h1 h) (λ_ k h hk hS=>?_) (λ_ _=>rfl) hS;refine BC (λh=>A.ex hk h) (λa k h hk hS=>?_) (λ_ _=>rfl) hS;dsimp only[Sum.elim];rw[Ff (by omega)];refine BC (λh=>IR D2 _ hk h) (λ_ k h hk hS=>?_) (λ_ _=>rfl) hS;refine BC (λh=>A.li hk h) (λns k h hk hS=>?_) (λ_ _=>rfl) hS;obtain⟨hl,hS⟩:=N7 hS;dsimp only[Sum.elim];rw[Ff (by simpa using hl)]
 cases hE:CV ((ns.length:Nat):Int) 0 with
 | true =>
   have:ns=[]:=List.eq_nil_of_length_eq_zero (by have:=E8 hE;omega);subst this;refine BC (λh=>IR D2 _ hk h) (λ_ k h hk hS=>?_) (λ_ _=>rfl) hS;exact Es hk rfl hS
 | false =>
   refine BC (λh=>IR D2 _ hk h) (λ_ k h hk hS=>?_) (λ_ _=>rfl) hS;exact Es hk rfl hS
theorem aAP(t:Tk){k:Nat}(hk:k<=ts.length){r l}(hS:RC en g t (ts.drop k)=some (r,l)):Jv ts k (FM R ⟨ts,k,en⟩ t) r l:=by
 have one:∀{X:Nd} {r l},Vz (FQ X) (ts.drop k)=some (r,l)->Jv ts k (some (.inl X,Bt (k:Int) 1)) r l:=by
   intro X r l h;obtain⟨h1,h2⟩:=afF hk h;rw[Ey D2 hk];exact LF (Nat.le_succ k) (Es h1 rfl h2)
 revert hS;unfold RC FM;cases BY t.text.data.toList Zm.data.toList;rotate_left;exact one;cases BY t.text.data.toList TI.data.toList;rotate_left;exact one;cases BY t.text.data.toList cW.data.toList;rotate_left;intro hS;obtain⟨h1,hS⟩:=afF hk hS;dsimp only[cond];rw[Ey D2 hk];refine LF (Nat.le_succ k) ?_;refine BC (λh=>O1 D2 _ h1 h) (λa k h hk hS=>?_) (λ_ _=>rfl) hS;exact Es hk rfl hS;cases BY t.text.data.toList LL.data.toList;rotate_left;exact one;cases BY t.text.data.toList dF.data.toList;rotate_left;exact one;cases BY t.text.data.toList QT.data.toList;rotate_left;exact one;cases BY t.text.data.toList Vy.data.toList;rotate_left;exact one;cases BY t.text.data.toList KT.data.toList;rotate_left;exact λhS=>Q1 (A.ca hk hS);cases BY t.text.data.toList FR.data.toList;rotate_left;exact λhS=>Q1 (A.ca hk hS);cases BY t.text.data.toList Ra.data.toList;rotate_left;exact λhS=>Q1 (A.ta hk hS);cases BY t.text.data.toList T4.data.toList;rotate_left;intro hS;obtain⟨h1,hS⟩:=afF hk hS;dsimp only[cond];rw[Ey D2 hk];refine LF (Nat.le_succ k) ?_;refine BC (λh=>A.ex h1 h) (λa k h hk hS=>?_) (λ_ _=>rfl) hS;refine BC (λh=>IR D2 _ hk h) (λ_ k h hk hS=>?_) (λ_ _=>rfl) hS;exact Es hk rfl hS;exact λhS=>Es hk rfl hS
theorem avC{k:Nat}(hk:k<=ts.length){r l}(hS:X0 en g (ts.drop k)=some (r,l)):Jv ts k (Hk R ⟨ts,k,en⟩) r l:=by
 refine V1 hk (λt h1 h2 hS=>?_) (λ_=>rfl) hS;revert hS;dsimp only[Sum.elim];cases CV t.kind 3;rotate_left;intro hS;refine BC (λh=>jT D2 hk h) (λn k h hk hS=>?_) (λ_ _=>rfl) hS;refine tQ hk (λhk1 hS=>?_) (λhS=>?_) hS;refine Es hk1 (Ey D2 hk) hS;exact Es hk rfl hS;cases CV t.kind 2;rotate_left;intro hS;have hS:=ZX h2 hS;dsimp only[cond];rw[Ey D2 hk];refine LF (Nat.le_succ k) ?_;refine BC (λh=>Rb D2 D4 h1 h) (λa k h hk hS=>?_) (λ_ _=>rfl) hS;obtain⟨c,hc,hS⟩:=Jj hS;dsimp only[Sum.elim];rw[hc];exact Es hk rfl hS;intro hS;obtain⟨b,hb,hS⟩:=Jj hS;dsimp only[cond];rw[hb,Option.bind_some];cases b;exact Q1 (A.wd t hk hS);have hS:=ZX h2 hS;dsimp only;rw[Ey D2 hk];exact LF (Nat.le_succ k) (Es h1 rfl hS)
end
theorem akV{ts:List Tk}(D2:ts.length<=1000000)(en:Int):∀q:Nat,Agr (Aj q) ts en (gP en q).1 (gP en q).2:=by
 intro q
 induction q with
 | zero=>constructor<;>intros<;>rename_i h<;>cases h
 | succ q A =>
   constructor
   case ex=>intro k hk r l h;simp only[Aj,Bd];exact Q1 (A.l0 hk h)
   case l0=>intro k hk r l h;simp only[Aj,A4];exact aeJ D2 (λhk _ _ h=>A.l1 hk h) hk h
   case l1=>intro k hk r l h;simp only[Aj,A5];exact aeK D2 (λhk _ _ h=>A.l2 hk h) hk h
   case l2=>intro k hk r l h;simp only[Aj,A6];exact aDR D2 A hk h
   case l3=>intro k hk r l h;simp only[Aj,A7];exact avH D2 A hk h
   case l4=>intro k hk r l h;simp only[Aj,A8];exact aeL D2 (λhk _ _ h=>A.l5 hk h) hk h
   case l5=>intro k hk r l h;simp only[Aj,A9];exact aeM D2 (λhk _ _ h=>A.l6 hk h) hk h
   case l6=>intro k hk r l h;simp only[Aj,Ba];exact Q1 (A.at_ hk h)
   case at_=>intro k hk r l h;simp only[Aj,Bp];exact avC D2 A hk h
   case wd=>intro t k hk r l h;simp only[Aj,Br];exact aAP D2 A t hk h
   case ca=>intro k hk r l h;simp only[Aj,Bq];exact avE D2 A hk h
   case ta=>intro k hk r l h;simp only[Aj,Bi];exact aqF D2 (λhk _ _ h=>A.ex hk h) hk h
   case li=>intro k hk r l h;simp only[Aj,AU];exact anD D2 (λhk _ _ h=>A.ex hk h) hk h
end Mo
end Go.Proofs.YtpbkhogolfegfaaGreatDoor
namespace Go.Proofs.YtpbkhogolfegfaaGreatDoor
open AI Go
namespace Mo
set_option maxRecDepth 100000
section
variable (S:Int->Int->Prop) (en en':Int) (w:List Tk)
def TR(t t':Tk):Prop:=t.kind=t'.kind/\t.text=t'.text/\S t.AH t'.AH
inductive F2:List Tk->List Tk->Prop
 | nil:F2 [] []
 | cons {t t':Tk} {l l':List Tk}:TR S t t'->F2 l l'->F2 (t::l) (t'::l')
mutual
inductive NR:Nd->Nd->Prop
 | mk {k:Int} {nm u:ByteArray} {n f t kn:Int} {tb:Fn} {ks ks':List Nd} {a a':Int}:cJ ks ks'->S a a'->NR ⟨k,nm,u,n,f,t,kn,tb,ks,a⟩ ⟨k,nm,u,n,f,t,kn,tb,ks',a'⟩
inductive cJ:List Nd->List Nd->Prop
 | nil:cJ [] []
 | cons {n n':Nd} {l l':List Nd}:NR n n'->cJ l l'->cJ (n::l) (n'::l')
end
def DR(d d':Dg):Prop:=d.err=d'.err/\(S d.AH d'.AH\/d=⟨72,en⟩/\d'=⟨72,en'⟩)
inductive RR{α:Type}(Q:α->α->Prop):α⊕Dg->α⊕Dg->Prop
 | l {a a':α}:Q a a'->RR Q (.inl a) (.inl a')
 | r {d d':Dg}:DR S en en' d d'->RR Q (.inr d) (.inr d')
def Ends{α:Type}(b:Bool)(r:α⊕Dg)(s:List Tk):Prop:=s=[]/\(r=.inr ⟨72,en⟩\/b=false/\∃a,r=.inl a)
def RP{α:Type}(b:Bool)(Q:α->α->Prop)(m m':Rd α):Prop:=∀⦃l l1 s s':List Tk⦄ ⦃r r':α⊕Dg⦄,F2 S l l1->m l=some (r,s)->m' (l1++w)=some (r',s') ->
 (∃s1,s'=s1++w/\F2 S s s1/\RR S en en' Q r r')\/w≠[]/\Ends en b r s
def EO{α:Type}(b:Bool)(m:Rd α):Prop:=∀⦃r:α⊕Dg⦄ ⦃s:List Tk⦄,m []=some (r,s)->Ends en b r s
end
section
variable {S:Int->Int->Prop} {en en':Int} {w:List Tk} {α β:Type} {b:Bool} {Q:α->α->Prop} {Q2:β->β->Prop}
def Ends.Zz{r:α⊕Dg}{s:List Tk}(h:Ends en true r s):Ends en b r s:=by
 refine⟨h.1,?_⟩;rcases h.2 with h | ⟨h,_⟩
 exact .inl h;cases h
def RP.Zz{m m':Rd α}(h:RP S en en' w true Q m m'):RP S en en' w b Q m m':=λ_ _ _ _ _ _ f h1 h2=>(h f h1 h2).imp id λh=>⟨h.1,h.2.Zz⟩
def EO.Zz{m:Rd α}(h:EO en true m):EO en b m:=λ_ _ h1=>(h h1).Zz
def DW{a a':α}(h:Q a a'):RP S en en' w b Q (FQ a) (FQ a'):=by
 intro l l1 s s' r r' f h1 h2;obtain⟨rfl,rfl⟩:=LG h1;obtain⟨rfl,rfl⟩:=LG h2;exact .inl ⟨l1,rfl,f,.l h⟩
def I7{e p p':Int}(h:S p p'):RP S en en' w b Q (MW e p) (MW e p'):=by
 intro l l1 s s' r r' f h1 h2;obtain⟨rfl,rfl⟩:=Ng h1;obtain⟨rfl,rfl⟩:=Ng h2;exact .inl ⟨l1,rfl,f,.r ⟨rfl,.inl h⟩⟩
def Jt{m m':Rd α}{K K':α->Rd β}(h1:RP S en en' w false Q m m')(h2:∀a a',Q a a'->RP S en en' w b Q2 (K a) (K' a'))(h3:∀a,EO en b (K a)):RP S en en' w b Q2 (Cu m K) (Cu m' K'):=by
 intro l l1 s s' r r' f e1 e2;rcases Jg e1 with ⟨a,t,e3,e4⟩ | ⟨d,e3,rfl⟩
 rcases Jg e2 with ⟨a',t',e5,e6⟩ | ⟨d',e5,rfl⟩
 rcases h1 f e3 e5 with ⟨s1,rfl,f1,q⟩ | ⟨hw,rfl,_⟩
 cases q with
 | l q=>exact h2 _ _ q f1 e4 e6
 exact .inr ⟨hw,h3 a e4⟩;rcases h1 f e3 e5 with ⟨s1,rfl,f1,q⟩ | ⟨hw,rfl,_⟩
 cases q;exact .inr ⟨hw,h3 a e4⟩;rcases Jg e2 with ⟨a',t',e5,e6⟩ | ⟨d',e5,rfl⟩
 rcases h1 f e3 e5 with ⟨s1,rfl,f1,q⟩ | ⟨hw,rfl,hq⟩
 cases q;rcases hq with hq | ⟨_,a,hq⟩
 cases hq;exact .inr ⟨hw,rfl,.inl rfl⟩;cases hq;rcases h1 f e3 e5 with ⟨s1,rfl,f1,q⟩ | ⟨hw,rfl,hq⟩
 cases q with
 | r q=>exact .inl ⟨s1,rfl,f1,.r q⟩
 rcases hq with hq | ⟨_,a,hq⟩
 cases hq;exact .inr ⟨hw,rfl,.inl rfl⟩;cases hq
def Cc{m m':Rd α}{K K':α->Rd β}(h1:RP S en en' w true Q m m')(h2:∀a a',Q a a'->RP S en en' w b Q2 (K a) (K' a')):RP S en en' w b Q2 (Cu m K) (Cu m' K'):=by
 intro l l1 s s' r r' f e1 e2
 have no:∀{a:α} {t:List Tk},m l=some (.inl a,t)->¬Ends en true (Sum.inl a:α⊕Dg) t:=by
   rintro a t _ ⟨_,h | ⟨h,_⟩⟩<;>cases h
 rcases Jg e1 with ⟨a,t,e3,e4⟩ | ⟨d,e3,rfl⟩
 rcases Jg e2 with ⟨a',t',e5,e6⟩ | ⟨d',e5,rfl⟩
 rcases h1 f e3 e5 with ⟨s1,rfl,f1,q⟩ | ⟨hw,h⟩
 cases q with
 | l q=>exact h2 _ _ q f1 e4 e6
 exact absurd h (no e3);rcases h1 f e3 e5 with ⟨s1,rfl,f1,q⟩ | ⟨hw,h⟩
 cases q;exact absurd h (no e3);rcases Jg e2 with ⟨a',t',e5,e6⟩ | ⟨d',e5,rfl⟩
 rcases h1 f e3 e5 with ⟨s1,rfl,f1,q⟩ | ⟨hw,rfl,hq⟩
 cases q;rcases hq with hq | ⟨hq,_⟩
 cases hq;exact .inr ⟨hw,rfl,.inl rfl⟩;cases hq;rcases h1 f e3 e5 with ⟨s1,rfl,f1,q⟩ | ⟨hw,rfl,hq⟩
 cases q with
 | r q=>exact .inl ⟨s1,rfl,f1,.r q⟩
 rcases hq with hq | ⟨hq,_⟩
 cases hq;exact .inr ⟨hw,rfl,.inl rfl⟩;cases hq
def Ov{X:Option β}{K K':β->Rd α}(h:∀a,X=some a->RP S en en' w b Q (K a) (K' a)):RP S en en' w b Q (LU X K) (LU X K'):=by
 intro l l1 s s' r r' f e1 e2;obtain⟨a,ha,e1⟩:=Jj e1;obtain⟨a',zT,e2⟩:=Jj e2;rw[ha] at zT;cases zT;exact h a ha f e1 e2
def Y5{K K':Tk->Rd α}(h:∀t t',TR S t t'->RP S en en' w b Q (K t) (K' t')):RP S en en' w b Q (Vc en K) (Vc en' K'):=by
 intro l l1 s s' r r' f e1 e2;cases f with
 | nil =>
   simp only[Vc,Option.some.injEq,Prod.mk.injEq] at e1;obtain⟨rfl,rfl⟩:=e1;by_cases hw:w=[];subst hw;simp only[Vc,List.append_nil,Option.some.injEq,Prod.mk.injEq] at e2;obtain⟨rfl,rfl⟩:=e2;exact .inl ⟨[],rfl,.nil,.r ⟨rfl,.inr ⟨rfl,rfl⟩⟩⟩;exact .inr ⟨hw,rfl,.inl rfl⟩
 | cons ht f=>exact h _ _ ht (.cons ht f) e1 e2
def RA{K K':Rd α}(h:RP S en en' w b Q K K'):RP S en en' w b Q (Vz K) (Vz K'):=by
 intro l l1 s s' r r' f e1 e2;cases f with
 | nil=>cases e1
 | cons ht f=>exact h f e1 e2
def V3{x:ByteArray}{A A' B B':Rd α}(h1:RP S en en' w b Q A A')(h2:RP S en en' w b Q B B')(h3:EO en b B):RP S en en' w b Q (Ot x A B) (Ot x A' B'):=by
 intro l l1 s s' r r' f e1 e2;cases f with
 | nil =>
   by_cases hw:w=[];subst hw;exact h2 .nil e1 e2;exact .inr ⟨hw,h3 e1⟩
 | cons ht f =>
   rename_i t t' l l';unfold Ot at e1 e2
   have:Ju x (t::l)=Ju x (t'::l'++w):=by
     show BY t.text.data.toList _=BY t'.text.data.toList _;rw[ht.2.1]
   rw[<- this] at e2;cases hx:Ju x (t::l) with
   | true=>rw[hx] at e1 e2;exact h1 f e1 e2
   | false=>rw[hx] at e1 e2;exact h2 (.cons ht f) e1 e2
def Sy{n n':Nat}{m m':Rd α}(h:RP S en en' w b Q m m'):RP S en en' w b Q (OP n m) (OP n' m'):=by
 intro l l1 s s' r r' f e1 e2;exact h f (N7 e1).2 (N7 e2).2
def Ci{c:Bool}{A A' B B':Rd α}(h1:c=true->RP S en en' w b Q A A')(h2:c=false->RP S en en' w b Q B B'):RP S en en' w b Q (cond c A B) (cond c A' B'):=by
 cases c;exact h2 rfl;exact h1 rfl
def agC{K K':Nat->Rd α}(h:∀n n',RP S en en' w b Q (K n) (K' n')):RP S en en' w b Q (λs=>K (s.length+1) s) (λs=>K' (s.length+1) s):=by
 intro l l1 s s' r r' f e1 e2;exact h _ _ f e1 e2
def rM{K:Tk->Rd α}:EO en b (Vc en K):=by
 intro r s h;simp only[Vc,Option.some.injEq,Prod.mk.injEq] at h;obtain⟨rfl,rfl⟩:=h;exact⟨rfl,.inl rfl⟩
def Pk{a:α}:EO en false (FQ a):=by
 intro r s h;obtain⟨rfl,rfl⟩:=LG h;exact⟨rfl,.inr ⟨rfl,a,rfl⟩⟩
def Lq{m:Rd α}{K:α->Rd β}(h:EO en true m):EO en b (Cu m K):=by
 intro r s e1;rcases Jg e1 with ⟨a,t,e3,e4⟩ | ⟨d,e3,rfl⟩
 obtain⟨_,h | ⟨h,_⟩⟩:=h e3<;>cases h
 obtain⟨h1,h | ⟨h,_⟩⟩:=h e3;cases h;exact⟨h1,.inl rfl⟩;cases h
def avK{X:Option β}{K:β->Rd α}(h:∀a,EO en b (K a)):EO en b (LU X K):=by
 intro r s e1;obtain⟨a,_,e1⟩:=Jj e1;exact h a e1
def nW{x:ByteArray}{A B:Rd α}(h:EO en b B):EO en b (Ot x A B):=λ_ _ e1=>h e1
def abR{n:Nat}{m:Rd α}(h:EO en b m):EO en b (OP n m):=λ_ _ e1=>h (N7 e1).2
end
end Mo
end Go.Proofs.YtpbkhogolfegfaaGreatDoor
namespace Go.Proofs.YtpbkhogolfegfaaGreatDoor
open AI Go
namespace Mo
set_option maxRecDepth 100000
section
variable {S:Int->Int->Prop} {en en':Int} {w:List Tk} {α β:Type} {b:Bool} {Q:α->α->Prop}
theorem uH{f:Tk->Option Bool}(hf:∀k t a a',f ⟨k,t,a⟩=f ⟨k,t,a'⟩){t t':Tk}(h:TR S t t'):f t=f t':=by
 obtain⟨k,x,a⟩:=t;obtain⟨k',x',a'⟩:=t';obtain⟨h1,h2,_⟩:=h;dsimp only at h1 h2;subst h1 h2;exact hf _ _ _ _
theorem aoS{X X':Option β}{K K':β->Rd α}(h:∀a a',X=some a->X'=some a'->RP S en en' w b Q (K a) (K' a')):RP S en en' w b Q (LU X K) (LU X' K'):=by
 intro l l1 s s' r r' f e1 e2;obtain⟨a,ha,e1⟩:=Jj e1;obtain⟨a',zT,e2⟩:=Jj e2;exact h a a' ha zT f e1 e2
theorem NI{f:Tk->Option Bool}(hf:∀k t a a',f ⟨k,t,a⟩=f ⟨k,t,a'⟩):RP S en en' w b (TR S) (LK en f) (LK en' f):=by
 refine Y5 λt t' ht=>?_;rw[uH hf ht];exact Ov λc _=>Ci (λ_=>RA (DW ht)) λ_=>I7 ht.2.2
theorem alM{f:Tk->Option Bool}:EO en b (LK en f):=rM
theorem GQ(x:ByteArray):RP S en en' w b (TR S) (JL en x) (JL en' x):=NI λ_ _ _ _=>rfl
theorem QL{x:ByteArray}:EO en b (JL en x):=rM
theorem tV:RP S en en' w b (TR S) (aP en) (aP en'):=NI λ_ _ _ _=>rfl
theorem aoW:RP S en en' w b (TR S) (lQ en) (lQ en'):=NI λ_ _ _ _=>rfl
theorem aoU:RP S en en' w b (TR S) (bB en) (bB en'):=NI λ_ _ _ _=>rfl
def QA(S:Int->Int->Prop)(p p':Int×Int):Prop:=p.1=p'.1/\S p.2 p'.2
theorem bG:RP S en en' w b (QA S) (Ny en) (Ny en'):=by
 refine Cc (NI λ_ _ _ _=>rfl) λt t' h=>?_;rw[h.2.1];exact Ov λn _=>DW ⟨rfl,h.2.2⟩
theorem Ql(least:Int):RP S en en' w b (QA S) (Me en least) (Me en' least):=by
 refine Cc bG λp p' h=>?_;rw[h.1];exact Ci (λ_=>I7 h.2) λ_=>Ci (λ_=>I7 h.2) λ_=>DW h
theorem Xv(least:Int):RP S en en' w b (·=·) (R6 en least) (R6 en' least):=by
 refine Cc (NI λ_ _ _ _=>rfl) λt t' h=>?_;rw[h.2.1];exact Ov λn _=>Ci (λ_=>Ci (λ_=>I7 h.2.2) λ_=>DW rfl) λ_=>I7 h.2.2
theorem Gi{kind n:Int}{name unit:ByteArray}{ks ks':List Nd}{p p':Int}(h:cJ S ks ks')(hp:S p p'):NR S (E9 kind name unit n ks p) (E9 kind name unit n ks' p'):=.mk h hp
theorem U4{l l' m m':List Nd}(h:cJ S l l')(h2:cJ S m m'):cJ S (l++m) (l'++m'):=by
 induction l generalizing l' with
 | nil=>cases h;exact h2
 | cons x l ih=>cases h with | cons a t=>exact .cons a (ih t)
theorem aoR:RP S en en' w b (NR S) (Wt en) (Wt en'):=by
 refine Cc (GQ _) λt t' ht=>Cc (Ql _) λn n' hn=>Cc (GQ _) λ_ _ _=>Cc (Xv _) λf f' hf=>?_;subst hf;refine V3 (Cc (Xv _) λu u' hu=>Cc (GQ _) λ_ _ _=>Cc (Xv _) λk k' hk=>?_) (Cc (GQ _) λ_ _ _=>Cc (Xv _) λk k' hk=>?_) (Lq QL);subst hu hk;rw[hn.1];exact DW (.mk .nil ht.2.2);subst hk;rw[hn.1];exact DW (.mk .nil ht.2.2)
theorem tS:RP S en en' w b (NR S) (R7 en) (R7 en'):=by
 refine Y5 λt t' ht=>RA (Cc tV λm m' hm=>Cc (GQ _) λ_ _ _=>Cc aoW λu u' hu=>?_);rw[ht.2.1,hm.2.1,hu.2.1];refine Ci (λ_=>Cc aoU λr r' hr=>?_) λ_=>Cc (GQ _) λ_ _ _=>DW (Gi .nil ht.2.2);rw[hr.2.1];exact Ov λn _=>Cc (GQ _) λ_ _ _=>DW (Gi .nil ht.2.2)
theorem Tt:RP S en en' w b (NR S) (Gs en) (Gs en'):=by
 refine Cc (Ql _) λp p' h=>?_;rw[h.1];exact DW (Gi .nil h.2)
theorem rL{read:Rd Nd}(q:Nat)(l:List Nd):EO en false (Ru read q l):=by
 cases q with
 | zero=>intro r s h;cases h
 | succ q=>exact nW Pk
theorem aoT{read kP:Rd Nd}(h:RP S en en' w false (NR S) read kP):∀(q q':Nat) (l l':List Nd),cJ S l l'->RP S en en' w false (cJ S) (Ru read q l) (Ru kP q' l'):=by
 intro q
 induction q with
 | zero=>intro q' l l' _ _ _ _ _ _ _ _ e1;cases e1
 | succ q ih =>
   intro q' l l' hl;cases q' with
   | zero=>intro _ _ _ _ _ _ _ _ e2;cases e2
   | succ q'=>exact V3 (Jt h (λn n' hn=>Sy (ih q' _ _ (U4 hl (.cons hn .nil)))) λn=>abR (rL q _)) (DW hl) Pk
theorem alL{read:Rd Nd}(h:EO en true read):EO en b (Sf read):=Lq h
theorem tU{read kP:Rd Nd}(h:RP S en en' w false (NR S) read kP):RP S en en' w false (cJ S) (Sf read) (Sf kP) :=
 Jt h (λn n' hn=>agC λq q'=>aoT h q q' _ _ (.cons hn .nil)) λn _ _ h=>rL 1 [n] h
theorem Y6:RP S en en' w b (QA S) (OC en) (OC en'):=by
 refine Cc (NI λ_ _ _ _=>rfl) λt t' h=>?_;have:Cr t=Cr t':=by unfold Cr;rw[h.2.1]
 rw[this,h.1];exact Ov λc _=>Ci (λ_=>Ci (λ_=>DW ⟨rfl,h.2.2⟩) λ_=>I7 h.2.2) λ_=>DW ⟨rfl,h.2.2⟩
theorem abS:EO en b (OC en):=Lq alM
theorem aoV:RP S en en' w b (·=·) (WN en) (WN en'):=by
 refine Cc (NI λ_ _ _ _=>rfl) λt t' h=>?_;rw[h.2.1];exact Ci (λ_=>DW rfl) λ_=>DW rfl
theorem bI(Az from_ a:Int):RP S en en' w b (·=·) (O0 en Az from_ a) (O0 en' Az from_ a):=by
 refine Cc aoV λs s' hs=>Cc (Ql _) λm m' hm=>Cc (GQ _) λ_ _ _=>Cc (Ql _) λd d' hd=>?_;subst hs;rw[hm.1,hd.1];exact Ov λg _=>Ov λz _=>Ci (λ_=>I7 hd.2) λ_=>DW rfl
theorem bH(Az from_:Int):RP S en en' w b (·=·) (NE en Az from_) (NE en' Az from_):=by
 refine Cc (GQ _) λ_ _ _=>V3 (Cc Y6 λa a' ha=>?_) (Cc Y6 λa a' ha=>?_) (Lq abS);rw[ha.1];exact bI _ _ _;rw[ha.1];exact bI _ _ _
theorem agE(before:List Pt)(Az:Int):RP S en en' w b (·=·) (Sk en before Az) (Sk en' before Az):=by
 refine Cc Y6 λv v' hv=>?_;rw[hv.1];exact Ci (λ_=>Ci (λ_=>bH _ _) λ_=>I7 hv.2) λ_=>Ov λq _=>Ci (λ_=>I7 hv.2) λ_=>Ci (λ_=>I7 hv.2) λ_=>bH _ _
theorem xP:∀(q q':Nat) (l:List Pt) (c:Int),RP S en en' w false (·=·) (Mp en q l c) (Mp en' q' l c):=by
 intro q
 induction q with
 | zero=>intro q' l c _ _ _ _ _ _ _ e1;cases e1
 | succ q ih =>
   intro q' l c;cases q' with
   | zero=>intro _ _ _ _ _ _ _ _ e2;cases e2
   | succ q' =>
     refine Cc (agE _ _) λp p' hp=>?_;subst hp;exact Sy (V3 (ih q' _ _) (DW rfl) Pk)
theorem xQ(c:Int){p p':Int}(hp:S p p'):∀(ps:List Pt) (acc:List Pc),RP S en en' w b (·=·) (Mv c p ps acc) (Mv c p' ps acc):=by
 intro ps
 induction ps with
 | nil=>intro acc;exact DW rfl
 | cons x ps ih=>intro acc;exact Ov λz _=>Ci (λ_=>I7 hp) λ_=>Ci (λ_=>I7 hp) λ_=>Sy (ih _)
inductive ER(S:Int->Int->Prop):Ek->Ek->Prop
 | ex:ER S .ex .ex
 | lv (i:Nat):ER S (.lv i) (.lv i)
 | at_:ER S .at_ .at_
 | wd {t t':Tk}:TR S t t'->ER S (.wd t) (.wd t')
 | ca:ER S .ca .ca
 | ta:ER S .ta .ta
structure Rel(S:Int->Int->Prop)(en en':Int)(w:List Tk)(g g':Ek->Rd Nd)(li li':Rd (List Nd)):Prop where
 rg:∀{e e'},ER S e e'->RP S en en' w false (NR S) (g e) (g' e')
 rli:RP S en en' w false (cJ S) li li'
 eg:∀e,(∀t,e≠.wd t)->EO en true (g e)
 eli:EO en true li
theorem atU{yes aFR:ByteArray->Rd α}{no no':Rd α}(h1:∀x,RP S en en' w b Q (yes x) (aFR x))(h2:RP S en en' w b Q no no')(h3:EO en b no):∀ops:List ByteArray,RP S en en' w b Q (nA yes no ops) (nA aFR no' ops)/\EO en b (nA yes no ops):=by
 intro ops
 induction ops with
 | nil=>exact⟨h2,h3⟩
 | cons x ops ih=>exact⟨V3 (h1 x) ih.1 ih.2,nW ih.2⟩
theorem asN{yes:ByteArray->Rd α}{no:Rd α}(h3:EO en b no):∀ops:List ByteArray,EO en b (nA yes no ops):=by
 intro ops
 induction ops with
 | nil=>exact h3
 | cons x ops ih=>exact nW ih
theorem vN{op:ByteArray}{l l' r r' x x':Nd}(hl:NR S l l')(hr:NR S r r')(h1:Bb op l r=some x)(h2:Bb op l' r'=some x'):NR S x x':=by
 have ha:S l.AH l'.AH:=by cases hl with | mk _ h=>exact h
 unfold Bb at h1 h2;revert h1 h2;cases BY op.data.toList IK.data.toList
 · cases BY op.data.toList Fy.data.toList
   intro h1 h2;cases h1;cases h2;exact .mk (.cons hl (.cons hr .nil)) ha
   · cases hq:JX op IK JC 1 with
     | none=>intro h1;cases h1
     | some y =>
       intro h1 h2;cases h1;cases h2;exact .mk (.cons hr (.cons hl .nil)) ha
 · cases hq:JX op IK JC 1 with
   | none=>intro h1;cases h1
   | some y =>
     intro h1 h2;cases h1;cases h2;exact .mk (.cons hr (.cons hl .nil)) ha
theorem kV{sub ahL:Rd Nd}(h:RP S en en' w false (NR S) sub ahL)(op:ByteArray){l l':Nd}(hl:NR S l l'):RP S en en' w false (NR S) (Q5 en sub op l) (Q5 en' ahL op l') :=
 Jt (Ci (λ_=>Tt) λ_=>h) (λr r' hr=>aoS λx x' h1 h2=>DW (vN hl hr h1 h2)) λr=>avK λx=>Pk
theorem iO{ops:List ByteArray}{sub:Rd Nd}(q:Nat)(l:Nd):EO en false (Ln en ops sub q l):=by
 cases q with
 | zero=>intro r s h;cases h
 | succ q=>exact asN Pk ops
theorem afZ(ops:List ByteArray){sub ahL:Rd Nd}(h:RP S en en' w false (NR S) sub ahL):∀(q q':Nat) (l l':Nd),NR S l l'->RP S en en' w false (NR S) (Ln en ops sub q l) (Ln en' ops ahL q' l'):=by
 intro q
 induction q with
 | zero=>intro q' l l' _ _ _ _ _ _ _ _ e1;cases e1
 | succ q ih =>
   intro q' l l' hl;cases q' with
   | zero=>intro _ _ _ _ _ _ _ _ e2;cases e2
   | succ q'=>exact(atU (λx=>Jt (kV h x hl) (λy y' hy=>ih q' _ _ hy) λy=>iO q y) (DW hl) Pk ops).1
section
variable {g g':Ek->Rd Nd} {li li':Rd (List Nd)} (A:Rel S en en' w g g' li li')
include A
theorem agB(i:Nat):RP S en en' w false (NR S) (N6 en g i) (N6 en' g' i) :=
 Jt (A.rg (.lv _)) (λN N' h=>agC λq q'=>afZ _ (A.rg (.lv _)) q q' _ _ h) λN _ _ h=>iO 1 N h
theorem aoQ:RP S en en' w false (NR S) (iI en g) (iI en' g') :=
 Jt (A.rg (.lv _)) (λN N' h=>(atU (λx=>kV (A.rg (.lv _)) x h) (DW h) Pk _).1) λN=>asN Pk _
theorem azL:RP S en en' w false (NR S) (YS en g) (YS en' g'):=by
 intro l l1 s s' r r' f e1 e2;cases f with
 | nil =>
   by_cases hw:w=[];subst hw;exact A.rg (.lv 3) .nil e1 e2;exact .inr ⟨hw,((A.eg (.lv 3) (by intro t h;cases h)) e1).Zz⟩
 | cons ht f =>
   rename_i t t' l l';unfold YS at e1 e2
   have:Ju U3 (t::l)=Ju U3 (t'::l'++w):=by
     show BY t.text.data.toList _=BY t'.text.data.toList _;rw[ht.2.1]
   rw[<- this] at e2;cases hx:Ju U3 (t::l) with
   | true =>
     rw[hx] at e1 e2;exact Cc (GQ _) (λt t' ht=>Jt (A.rg (.lv 2)) (λk k' hk=>DW (Gi (.cons hk .nil) ht.2.2)) λk=>Pk) (.cons ht f) e1 e2
   | false=>rw[hx] at e1 e2;exact A.rg (.lv 3) (.cons ht f) e1 e2
theorem aoP:RP S en en' w false (NR S) (X5 en g li) (X5 en' g' li'):=by
 refine Y5 λt t' ht=>RA (Cc (GQ _) λ_ _ _=>Jt (A.rg .ex) (λa a' ha=>Cc (GQ _) λ_ _ _=>Jt A.rli (λl l' hl=>Sy (Cc (GQ _) λ_ _ _=>?_)) λ_=>abR (Lq QL)) λ_=>Lq QL);rw[ht.2.1];exact DW (Gi (.cons ha hl) ht.2.2)
theorem agF:RP S en en' w false (NR S) (Zg en g) (Zg en' g'):=by
 refine Cc (GQ _) λt t' ht=>Cc (GQ _) λ_ _ _=>Jt (A.rg .ex) (λa a' ha=>Cc (GQ _) λ_ _ _=>Jt (agC λq q'=>xP q q' _ _) (λl l' hl=>?_) λ_=>Lq QL) λ_=>Lq QL;subst hl;refine Cc (GQ _) λe e' he=>Sy (Cc (xQ _ he.2.2 _ _) λr r' hr=>?_);subst hr;exact DW (.mk (.cons ha .nil) ht.2.2)
theorem aoX{t t':Tk}(ht:TR S t t'):RP S en en' w false (NR S) (RC en g t) (RC en' g' t'):=by
 unfold RC;rw[ht.2.1]
 have hd:RP S en en' w false (NR S) (UJ t) (UJ t'):=by
   unfold UJ;rw[ht.2.1];exact RA (DW (Gi .nil ht.2.2))
 refine Ci (λ_=>RA (DW (Gi .nil ht.2.2))) λ_=>Ci (λ_=>RA (DW (Gi .nil ht.2.2))) λ_=>Ci (λ_=>RA (Cc (Ql _) λp p' hp=>?_)) λ_ =>
   Ci (λ_=>hd) λ_=>Ci (λ_=>hd) λ_=>Ci (λ_=>hd) λ_=>Ci (λ_=>hd) λ_=>Ci (λ_=>A.rg .ca) λ_=>Ci (λ_=>A.rg .ca) λ_=>Ci (λ_=>A.rg .ta) λ_ =>
   Ci (λ_=>RA (Jt (A.rg .ex) (λa a' ha=>Cc (GQ _) λ_ _ _=>DW ha) λ_=>Lq QL)) λ_=>I7 ht.2.2
 rw[hp.1];exact DW (Gi .nil ht.2.2)
theorem aoO:RP S en en' w false (NR S) (X0 en g) (X0 en' g'):=by
 refine Y5 λt t' ht=>?_;have h6:Cw t=Cw t':=uH (λ_ _ _ _=>rfl) ht;rw[ht.1,h6,ht.2.1];refine Ci (λ_=>Cc bG λn n' hn=>?_) λ_=>Ci (λ_=>RA (Cc (NI λ_ _ _ _=>rfl) λa a' ha=>?_)) λ_=>Ov λc _=>Ci (λ_=>RA (DW (Gi .nil ht.2.2))) λ_=>A.rg (.wd ht);rw[hn.1];exact V3 (DW (Gi .nil hn.2)) (DW (Gi .nil hn.2)) Pk;have:Cr a=Cr a':=by unfold Cr;rw[ha.2.1]
 rw[this];exact Ov λc _=>DW (Gi .nil ht.2.2)
end
theorem tO:∀q q':Nat,Rel S en en' w (gP en q).1 (gP en' q').1 (gP en q).2 (gP en' q').2:=by
 intro q
 induction q with
 | zero =>
   intro q';constructor
   case rg=>intro _ _ _ _ _ _ _ _ _ _ e1;cases e1
   case rli=>intro _ _ _ _ _ _ _ e1;cases e1
   case eg=>intro _ _ _ _ e1;cases e1
   case eli=>intro _ _ e1;cases e1
 | succ q ih =>
   intro q'
   have eg:∀e,(∀t,e≠.wd t)->EO en true ((gP en (q+1)).1 e):=by
     have A:=ih 0;intro e he;show EO en true (O4 en (gP en q).1 (gP en q).2 e);unfold O4;split;exact A.eg _ (by intro t h;cases h);intro r s h;exact A.eg (.lv 3) (by intro t h;cases h) h;exact Lq (A.eg _ (by intro t h;cases h));exact A.eg _ (by intro t h;cases h);exact Lq (A.eg _ (by intro t h;cases h));exact rM;rename_i t;exact absurd rfl (he t);exact rM;exact Lq QL
   have eli:EO en true (gP en (q+1)).2:=alL ((ih 0).eg .ex (by intro t h;cases h));cases q' with
   | zero =>
     constructor
     case rg=>intro _ _ _ _ _ _ _ _ _ _ _ e2;cases e2
     case rli=>intro _ _ _ _ _ _ _ _ e2;cases e2
     case eg=>exact eg
     case eli=>exact eli
   | succ q' =>
     have A:=ih q';refine⟨λ{e e'} he=>?_,tU (A.rg .ex),eg,eli⟩;show RP S en en' w false (NR S) (O4 en (gP en q).1 (gP en q).2 e) (O4 en' (gP en' q').1 (gP en' q').2 e');cases he with
     | ex=>exact A.rg (.lv 0)
     | at_=>exact aoO A
     | wd ht=>exact aoX A ht
     | ca=>exact aoP A
     | ta=>exact agF A
     | lv i =>
       unfold O4;split;rename_i h;cases h;exact azL A;exact aoQ A;exact A.rg .at_;rename_i h;cases h;exact agB A _
       all_goals (rename_i h;cases h)
end
end Mo
end Go.Proofs.YtpbkhogolfegfaaGreatDoor
namespace Go.Proofs.YtpbkhogolfegfaaGreatDoor
open AI Go
namespace Mo
set_option maxRecDepth 100000
def uZ{x:Int}(h:-9223372036854775808<=x/\x<=9223372036854775807):IntKind.i64.wrap x=x:=by
 unfold IntKind.wrap;simp[IntKind.bits,IntKind.signed];omega
def Yd{a b:Int}(ha:0<=a)(hb:0 < b)(h:a<=9223372036854775807):S6 a b=some (a / b):=by
 unfold S6 zF;rw[if_neg (by omega),Int.tdiv_eq_ediv_of_nonneg ha,uZ];exact⟨by have:=Int.ediv_nonneg ha (Int.le_of_lt hb);omega,by have:=Int.ediv_le_self b ha;omega⟩
structure Gd(t:Tk):Prop where
 num:t.kind=3->∃z,R0 t.text=some (z,())/\0<=z/\z<=999999999999
 rH:t.kind=3\/t.kind=4->∃z,Cr t=some z/\0<=z/\z<=999999999999
 date:t.kind=5->∃d e,Fs t.text=some (d,e)/\(e=0->0<=d/\d<=36524)
 len:t.text.data.toList.length<=6000
def Gl(l:List Tk):Prop:=∀t∈l,Gd t
section
variable {α β:Type} {n:Nat} {st:Bool} {P:α->Prop} {P2:β->Prop}
def UT(n:Nat)(st:Bool)(P:α->Prop)(m:Rd α):Prop:=∀⦃l:List Tk⦄,Gl l->l.length<=n->∃r s,m l=some (r,s)/\(∃k,s=l.drop k)/\∀a,r=.inl a->P a/\(st=true->s.length < l.length)
def Gl.drop{l:List Tk}(h:Gl l)(k:Nat):Gl (l.drop k):=λt ht=>h t (List.mem_of_mem_drop ht)
def Yg{l:List Tk}{k j:Nat}:(l.drop k).drop j=l.drop (k+j):=by rw[List.drop_drop]
def BA{m:Rd α}{K:α->Rd β}(h1:UT n true P m)(h2:∀a,P a->1<=n->UT (n - 1) false P2 (K a)):UT n st P2 (Cu m K):=by
 intro l hg hl;obtain⟨r,s,e,⟨k,rfl⟩,hr⟩:=h1 hg hl;cases r with
 | inr d=>exact⟨.inr d,_,by unfold Cu;rw[e],⟨k,rfl⟩,λa h=>by cases h⟩
 | inl a =>
   obtain⟨pa,hs⟩:=hr a rfl;have hs:=hs rfl;obtain⟨r2,s2,e2,⟨j,rfl⟩,hr2⟩:=h2 a pa (by omega) (hg.drop k) (by omega);refine⟨r2,_,by unfold Cu;rw[e];exact e2,⟨k+j,Yg⟩,λb hb=>⟨(hr2 b hb).1,λ_=>?_⟩⟩;simp only[List.length_drop] at hs ⊢;omega
def aqO{m:Rd α}{K:α->Rd β}(h1:UT n false P m)(h2:∀a,P a->UT n st P2 (K a)):UT n st P2 (Cu m K):=by
 intro l hg hl;obtain⟨r,s,e,⟨k,rfl⟩,hr⟩:=h1 hg hl;cases r with
 | inr d=>exact⟨.inr d,_,by unfold Cu;rw[e],⟨k,rfl⟩,λa h=>by cases h⟩
 | inl a =>
   obtain⟨pa,_⟩:=hr a rfl;obtain⟨r2,s2,e2,⟨j,rfl⟩,hr2⟩:=h2 a pa (hg.drop k) (by rw[List.length_drop];omega);refine⟨r2,_,by unfold Cu;rw[e];exact e2,⟨k+j,Yg⟩,λb hb=>⟨(hr2 b hb).1,λh=>?_⟩⟩;have:=(hr2 b hb).2 h;simp only[List.length_drop] at this ⊢;omega
def UT.Zz{m:Rd α}(h:UT n st P m):UT n false P m:=λl hg hl=>by
 obtain⟨r,s,e,h1,h2⟩:=h hg hl;exact⟨r,s,e,h1,λa ha=>⟨(h2 a ha).1,λh=>by cases h⟩⟩
def UT.imp{Q:α->Prop}{m:Rd α}(h:UT n st P m)(f:∀a,P a->Q a):UT n st Q m:=λl hg hl=>by
 obtain⟨r,s,e,h1,h2⟩:=h hg hl;exact⟨r,s,e,h1,λa ha=>⟨f a (h2 a ha).1,(h2 a ha).2⟩⟩
def UT.le{n':Nat}{m:Rd α}(h:UT n st P m)(hn:n'<=n):UT n' st P m:=λ_ hg hl=>h hg (by omega)
def DZ{a:α}(h:P a):UT n false P (FQ a):=λl _ _=>⟨.inl a,l,rfl,⟨0,rfl⟩,λb hb=>by cases hb;exact⟨h,λh=>by cases h⟩⟩
def Ja{e p:Int}:UT n st P (MW e p):=λl _ _=>⟨_,l,rfl,⟨0,rfl⟩,λb hb=>by cases hb⟩
def Oz{X:Option β}{K:β->Rd α}(h:∃b,X=some b/\UT n st P (K b)):UT n st P (LU X K):=by
 obtain⟨b,rfl,h⟩:=h;exact h
def Zs{en:Int}{K:Tk->Rd α}(h:∀t,Gd t->∀s,Gl (t::s)->(t::s).length<=n->∃r s',K t (t::s)=some (r,s')/\(∃k,s'=(t::s).drop k)/\∀a,r=.inl a->P a/\(st=true->s'.length < (t::s).length)):UT n st P (Vc en K):=by
 intro l hg hl;cases l with
 | nil=>exact⟨_,[],rfl,⟨0,rfl⟩,λa h=>by cases h⟩
 | cons t s=>exact h t (hg t (List.mem_cons_self ..)) s hg hl
def SB{K:Rd α}(h:UT (n - 1) false P K){t:Tk}{s:List Tk}(hg:Gl (t::s))(hl:(t::s).length<=n) :
   ∃r s',Vz K (t::s)=some (r,s')/\(∃k,s'=(t::s).drop k)/\∀a,r=.inl a->P a/\(st=true->s'.length < (t::s).length):=by
 have zZ:s.length+1<=n:=hl;obtain⟨r,s2,e,⟨k,rfl⟩,hr⟩:=h (l:=s) (λt ht=>hg t (List.mem_cons_of_mem _ ht)) (by omega);refine⟨r,_,e,⟨k+1,rfl⟩,λa ha=>⟨(hr a ha).1,λ_=>?_⟩⟩;rw[List.length_drop,List.length_cons];omega
def Wa{x:ByteArray}{A B:Rd α}(h1:1<=n->UT (n - 1) false P A)(h2:UT n st P B):UT n st P (Ot x A B):=by
 intro l hg hl;unfold Ot;cases hx:Ju x l with
 | false=>exact h2 hg hl
 | true =>
   cases l with
   | nil=>cases hx
   | cons t s=>exact SB (h1 (by simp only[List.length_cons] at hl;omega)) hg hl
def V9{c:Nat}{m:Rd α}(hc:c<=100000000)(h:UT n st P m):UT n st P (OP c m):=by
 intro l hg hl;unfold OP;rw[Ff hc];exact h hg hl
def F4{c:Bool}{A B:Rd α}(h1:c=true->UT n st P A)(h2:c=false->UT n st P B):UT n st P (cond c A B):=by
 cases c;exact h2 rfl;exact h1 rfl
end
section
variable {n:Nat} {en:Int} {st:Bool}
def NJ{f:Tk->Option Bool}(hf:∀t,∃b,f t=some b):UT n st (λt=>Gd t/\f t=some true) (LK en f):=by
 refine Zs λt hg s aJ hl=>?_;obtain⟨b,hb⟩:=hf t;unfold LU;rw[hb];cases b with
 | true=>exact SB (DZ ⟨hg,hb⟩) aJ hl
 | false=>exact Ja aJ hl
def D8{c:Bool}{α:Type}{x y:Option α}(h1:∃z,x=some z)(h2:∃z,y=some z):∃z,cond c x y=some z:=by cases c;exact h2;exact h1
def Fb(x:ByteArray):UT n st (λ_=>True) (JL en x):=(NJ λt=>D8 ⟨_,rfl⟩ ⟨_,rfl⟩).imp λ_ _=>trivial
def Wy(t:Tk):∃b,Cw t=some b:=by
 unfold Cw;rw[aeE];exact D8 (D8 ⟨_,rfl⟩ ⟨_,rfl⟩) ⟨_,rfl⟩
def Sw(x:ByteArray):∃b,Ev x=some b:=D8 ⟨_,rfl⟩ (D8 ⟨_,rfl⟩ (D8 ⟨_,rfl⟩ (D8 ⟨_,rfl⟩ ⟨_,rfl⟩)))
def XE:UT n st (λt=>Gd t/\Cw t=some true) (aP en):=NJ Wy
def uO:UT n st (λt=>Gd t/\Fa t=some true) (lQ en):=NJ λt=>D8 ⟨_,rfl⟩ (D8 ⟨_,rfl⟩ (D8 ⟨_,rfl⟩ (D8 ⟨_,rfl⟩ ⟨_,rfl⟩)))
def uN:UT n st (λt=>Gd t/\BT t=some true) (bB en):=NJ λt=>by
 unfold BT;obtain⟨b,hb⟩:=Sw t.text;rw[hb];exact D8 ⟨_,rfl⟩ ⟨_,rfl⟩
def QQ{a b:Int}{x:Bool}(h:cond (CV a b) (some true) (some false)=some x):x=CV a b:=by
 revert h;cases CV a b<;>exact λh=>(Option.some.inj h).symm
def bV:UT n st (λp:Int×Int=>0<=p.1/\p.1<=999999999999) (Ny en):=by
 refine BA (NJ λt=>D8 ⟨_,rfl⟩ ⟨_,rfl⟩) λt ht _=>?_;obtain⟨z,h1,h2⟩:=ht.1.num (E8 (QQ ht.2).symm);exact Oz ⟨_,h1,DZ h2⟩
def OA(least:Int):UT n st (λp:Int×Int=>least<=p.1/\p.1<=1000000) (Me en least) :=
 BA bV λp hp _=>F4 (λ_=>Ja) λh1=>F4 (λ_=>Ja) λh2=>DZ ⟨K2 h1,K2 h2⟩
def XD(least:Int):UT n st (λd:Int=>least<=d/\0<=d/\d<=36524) (R6 en least):=by
 refine BA (NJ λt=>D8 ⟨_,rfl⟩ ⟨_,rfl⟩) λt ht _=>?_;obtain⟨d,e,h1,h2⟩:=ht.1.date (E8 (QQ ht.2).symm);exact Oz ⟨_,h1,F4 (λh=>F4 (λ_=>Ja) λh3=>DZ ⟨K2 h3,h2 (E8 h)⟩) λ_=>Ja⟩
def uL:UT n st (λ_=>True) (Wt en) :=
 BA (Fb _) λ_ _ _=>BA (OA _) λ_ _ _=>BA (Fb _) λ_ _ _=>BA (XD _) λ_ _ _ =>
   Wa (λ_=>BA (XD _) λ_ _ _=>BA (Fb _) λ_ _ _=>BA (XD _) λ_ _ _=>DZ trivial) (BA (Fb _) λ_ _ _=>BA (XD _) λ_ _ _=>DZ trivial)
def uK:UT n st (λ_=>True) (R7 en):=by
 refine Zs λt hg s aJ hl=>SB ((BA XE λm _ _=>BA (Fb _) λ_ _ _=>BA uO λu _ _=>F4 (λ_=>BA uN λr _ _=>?_) λ_=>BA (Fb _) λ_ _ _=>DZ trivial)) aJ hl;obtain⟨b,hb⟩:=Sw r.text;exact Oz ⟨b,hb,BA (Fb _) λ_ _ _=>DZ trivial⟩
def Tv:UT n st (λ_=>True) (Gs en):=BA (OA _) λ_ _ _=>DZ trivial
def Zt:UT n st (λp:Int×Int=>0<=p.1/\p.1<=999999999999) (OC en):=by
 refine BA (NJ λt=>D8 ⟨_,rfl⟩ (D8 ⟨_,rfl⟩ ⟨_,rfl⟩)) λt ht _=>?_
 have hk:t.kind=3\/t.kind=4:=by
   have h:=ht.2;unfold Df at h;cases h4:CV t.kind 4 with
   | true=>exact .inr (E8 h4)
   | false =>
     rw[h4] at h;exact .inl (E8 (QQ h).symm)
 obtain⟨z,h1,h2⟩:=ht.1.rH hk;exact Oz ⟨_,h1,F4 (λ_=>F4 (λ_=>DZ h2) λ_=>Ja) λ_=>DZ h2⟩
def aqS:UT n st (λs:Int=>s=1\/s=-1) (WN en) :=
 BA (NJ λt=>D8 ⟨_,rfl⟩ (D8 ⟨_,rfl⟩ ⟨_,rfl⟩)) λt _ _=>F4 (λ_=>DZ (.inr rfl)) λ_=>DZ (.inl rfl)
def PcP(x:Pt×Int):Prop:=1<=x.2/\x.2<=1000000/\1<=x.1.den/\x.1.den<=1000000/\-1000000<=x.1.num/\x.1.num<=1000000
def bY{Az:Int}(hc:1<=Az/\Az<=1000000)(from_ a:Int):UT n st PcP (O0 en Az from_ a):=by
 refine BA aqS λs hs _=>BA (OA _) λm hm _=>BA (Fb _) λ_ _ _=>BA (OA _) λd hd _=>?_;obtain⟨g,h1,h2,⟨c1,h3⟩,⟨c2,h4⟩⟩:=acK hc.1 (show(0:Int)<=d.1 by omega);refine Oz ⟨g,h1,Oz ⟨_,Yd (by omega) (by omega) (by omega),F4 (λ_=>Ja) λh5=>DZ ?_⟩⟩;have hq:Az / g=c1:=by rw[h3,Int.mul_ediv_cancel_left _ (by omega)]
 have hc1:1<=c1:=by
   by_cases h:1<=c1;exact h;have:=Int.mul_nonpos_of_nonneg_of_nonpos (show 0<=g by omega) (show c1<=0 by omega);omega
 have gK:c1<=1000000:=by
   have:=Int.mul_le_mul_of_nonneg_right h2 (show 0<=c1 by omega);omega
 have hw:BQ (Az / g) d.1=c1*d.1:=by
   rw[hq];have a1:=Int.mul_le_mul gK hd.2 (by omega) (by omega);have a2:=Int.mul_nonneg (show 0<=c1 by omega) (show 0<=d.1 by omega);exact IQ (by omega)
 have h6:=K2 h5
 have a1:1<=c1*d.1:=by
   have:=Int.mul_le_mul_of_nonneg_right hc1 (show 0<=d.1 by omega);omega
 refine⟨by rw[hw];exact a1,h6,hd.1,hd.2,?_⟩;dsimp only;rcases hs with rfl | rfl
 rw[IQ (by omega)];omega;rw[IQ (by omega)];omega
def bW{Az:Int}(hc:1<=Az/\Az<=1000000)(from_:Int):UT n st PcP (NE en Az from_) :=
 BA (Fb _) λ_ _ _=>Wa (λ_=>BA Zt λ_ _ _=>bY hc _ _) (BA Zt λ_ _ _=>bY hc _ _)
def aiO(before:List Pt){Az:Int}(hc:1<=Az/\Az<=1000000):UT n st (λx=>PcP x/\before.length<=63) (Sk en before Az):=by
 refine BA Zt λv hv _=>F4 (λh=>F4 (λ_=>(bW hc _).imp λx hx=>⟨hx,?_⟩) λ_=>Ja) λh=>?_;have:=E8 h;omega;have hb:before.length≠0:=λe=>UL h (by rw[e];rfl);refine Oz ⟨before[before.length - 1]'(by omega),List.getElem?_eq_getElem (by omega),F4 (λ_=>Ja) λ_=>F4 (λ_=>Ja) λh2=>(bW hc _).imp λx hx=>⟨hx,?_⟩⟩;have:=aeH h2;omega
end
end Mo
end Go.Proofs.YtpbkhogolfegfaaGreatDoor
namespace Go.Proofs.YtpbkhogolfegfaaGreatDoor
open AI Go
namespace Mo
set_option maxRecDepth 100000
section
variable {α β:Type} {n:Nat} {en:Int} {st:Bool} {P:α->Prop}
abbrev TT{α:Type}:α->Prop:=λ_=>True
theorem lT{K:Nat->Rd α}(h:∀k,k<=n->UT k st P (K (k+1))):UT n st P (λs=>K (s.length+1) s):=λl hg hl=>h l.length hl hg (Nat.le_refl _)
theorem aqR{read:Rd Nd}:∀(q n:Nat) (ns:List Nd),n < q->ns.length+n<=100000->UT n true TT read->UT n false (λr:List Nd=>r.length<=ns.length+n) (Ru read q ns):=by
 intro q
 induction q with
 | zero=>intro n ns h;omega
 | succ q ih =>
   intro n ns hn hl hr;refine Wa (λh1=>BA (hr.le (by omega)) λx _ h2=>V9 (by omega) ?_) (DZ (by omega));refine(ih (n - 1 - 1) (ns++[x]) (by omega) (by simp only[List.length_append,List.length_singleton];omega) (hr.le (by omega))).imp λr hr=>?_;simp only[List.length_append,List.length_singleton] at hr;omega
theorem uM{read:Rd Nd}(hn:n<=10000)(hr:UT n true TT read):UT n st (λr:List Nd=>r.length<=n+1) (Sf read) :=
 BA hr λx _ h1=>lT (K:=λq=>Ru read q [x]) λk hk=>(aqR (k+1) k [x] (by omega) (by simp only[List.length_singleton];omega) (hr.le (by omega))).imp λr h=>by simp only[List.length_singleton] at h;omega
theorem aoH:∃y,JX IK IK JC 1=some y:=⟨_,rfl⟩
theorem aoG:∃y,JX Fy IK JC 1=some y:=⟨_,rfl⟩
theorem iB(op:ByteArray)(l r:Nd):∃x,Bb op l r=some x:=by
 unfold Bb;cases h1:BY op.data.toList IK.data.toList with
 | true =>
   obtain⟨y,hy⟩:=aoH;rw[OT h1,hy];exact⟨_,rfl⟩
 | false =>
   cases h2:BY op.data.toList Fy.data.toList with
   | true =>
     obtain⟨y,hy⟩:=aoG;rw[OT h2,hy];exact⟨_,rfl⟩
   | false=>exact⟨_,rfl⟩
theorem auE{yes:ByteArray->Rd α}{no:Rd α}(h1:∀x,1<=n->UT (n - 1) false P (yes x))(h2:UT n st P no):∀ops:List ByteArray,UT n st P (nA yes no ops):=by
 intro ops
 induction ops with
 | nil=>exact h2
 | cons x ops ih=>exact Wa (h1 x) ih
theorem lV{sub:Rd Nd}(h:UT n true TT sub)(op:ByteArray)(l:Nd):UT n st TT (Q5 en sub op l) :=
 BA (F4 (λ_=>Tv) λ_=>h) λr _ _=>by
   obtain⟨x,hx⟩:=iB op l r;exact Oz ⟨x,hx,DZ trivial⟩
theorem aiN{ops:List ByteArray}{sub:Rd Nd}:∀(q n:Nat) (l:Nd),n < q->UT n true TT sub->UT n false TT (Ln en ops sub q l):=by
 intro q
 induction q with
 | zero=>intro n l h;omega
 | succ q ih =>
   intro n l hn hs;exact auE (λx h1=>BA (lV (hs.le (by omega)) x l) λb _ h2=>ih (n - 1 - 1) b (by omega) (hs.le (by omega))) (DZ trivial) ops
def PsP(r:List Pt×Int):Prop:=r.1.length<=64/\1<=r.2/\r.2<=1000000/\∀x∈r.1,1<=x.den/\-1000000<=x.num/\x.num<=1000000
theorem yS:∀(q n:Nat) (ps:List Pt) (c:Int),n < q->1<=c->c<=1000000->(∀x∈ps,1<=x.den/\-1000000<=x.num/\x.num<=1000000)->UT n st PsP (Mp en q ps c):=by
 intro q
 induction q generalizing st with
 | zero=>intro n ps c h;omega
 | succ q ih =>
   intro n ps c hn h1 h2 h3;refine BA (aiO ps ⟨h1,h2⟩) λx hx h4=>?_;obtain⟨⟨a1,a2,a3,a4,a5,a6⟩,hb⟩:=hx
   have h5:∀y∈ps++[x.1],1<=y.den/\-1000000<=y.num/\y.num<=1000000:=by
     intro y hy;rcases List.mem_append.1 hy with hy | hy
     exact h3 y hy;rw[List.mem_singleton.1 hy];exact⟨a3,a5,a6⟩
   exact V9 (by omega) (Wa (λh6=>ih (n - 1 - 1) _ _ (by omega) a1 a2 h5) (DZ ⟨by simp only[List.length_append,List.length_singleton];omega,a1,a2,h5⟩))
theorem yT{c:Int}(hc:1<=c/\c<=1000000)(p:Int):∀(ps:List Pt) (acc:List Pc),(∀x∈ps,1<=x.den)->acc.length+ps.length<=1000->UT n false TT (Mv c p ps acc):=by
 intro ps
 induction ps with
 | nil=>intro acc _ _;exact DZ trivial
 | cons x ps ih =>
   intro acc h1 h2;have:=h1 x (List.mem_cons_self ..);simp only[List.length_cons] at h2;exact Oz ⟨_,Yd (by omega) (by omega) (by omega),F4 (λ_=>Ja) λ_=>F4 (λ_=>Ja) λ_=>V9 (by omega) (ih _ (λy hy=>h1 y (List.mem_cons_of_mem _ hy)) (by simp only[List.length_append,List.length_singleton];omega))⟩
def UW(n:Nat)(m:Rd Nd):Prop:=∀t s,Gl (t::s)->(t::s).length<=n->∃r s',m (t::s)=some (r,s')/\(∃k,s'=(t::s).drop k)/\∀a,r=.inl a->True/\(true=true->s'.length < (t::s).length)
structure Tot(q:Nat)(g:Ek->Rd Nd)(li:Rd (List Nd)):Prop where
 ex:∀n,n<=10000->10*n+11<=q->UT n true TT (g .ex)
 lv:∀i n,i<=6->n<=10000->10*n+10 - i<=q->UT n true TT (g (.lv i))
 at_:∀n,n<=10000->10*n+3<=q->UT n true TT (g .at_)
 wd:∀t n,n<=10000->10*n+2<=q->UW n (g (.wd t))
 ca:∀n,n<=10000->10*n+1<=q->UT n true TT (g .ca)
 ta:∀n,n<=10000->10*n+1<=q->UT n true TT (g .ta)
 li:∀n,n<=10000->10*n+12<=q->UT n true (λr:List Nd=>r.length<=n+1) li
section
variable {q:Nat} {g:Ek->Rd Nd} {li:Rd (List Nd)} (A:Tot q g li)
include A
theorem Vm{i:Nat}(hi:i<=5)(hn:n<=10000)(hq:10*n+9 - i<=q):UT n true TT (N6 en g i) :=
 BA (A.lv (i+1) n (by omega) hn (by omega)) λl _ h1=>lT (K:=λq=>Ln en (opsOf i) (g (.lv (i+1))) q l) λk hk=>aiN (k+1) k l (by omega) (A.lv (i+1) k (by omega) (by omega) (by omega))
theorem aqQ(hn:n<=10000)(hq:10*n+6<=q):UT n true TT (iI en g) :=
 BA (A.lv 4 n (by omega) hn (by omega)) λl _ h1=>auE (λx h2=>lV (A.lv 4 _ (by omega) (by omega) (by omega)) x l) (DZ trivial) _
theorem aAJ(hn:n<=10000)(hq:10*n+7<=q):UT n true TT (YS en g):=by
 intro l hg hl;unfold YS;cases hx:Ju U3 l with
 | false=>exact A.lv 3 n (by omega) hn (by omega) hg hl
 | true=>exact BA (Fb _) (λt _ h1=>BA (A.lv 2 (n - 1) (by omega) (by omega) (by omega)) λk _ _=>DZ trivial) hg hl
theorem aqP(hn:n<=10000)(hq:10*n<=q):UT n true TT (X5 en g li):=by
 refine Zs λt hg s aJ hl=>SB (BA (Fb _) λ_ _ h1=>BA (A.ex _ (by omega) (by omega)) λa _ h2=>BA (Fb _) λ_ _ h3=>BA (A.li _ (by omega) (by omega)) λl hl h4=>V9 (by omega) (BA (Fb _) λ_ _ _=>DZ trivial)) aJ hl
theorem aiP(hn:n<=10000)(hq:10*n<=q):UT n true TT (Zg en g):=by
 refine BA (Fb _) λt _ h1=>BA (Fb _) λ_ _ h2=>BA (A.ex _ (by omega) (by omega)) λa _ h3=>BA (Fb _) λ_ _ h4=>BA (P:=PsP) (lT (K:=λq=>Mp en q [] 1) λk hk=>yS (k+1) k [] 1 (by omega) (by omega) (by omega) (λx hx=>by cases hx)) λr hr h5=>BA (Fb _) λe _ h6=>?_;exact V9 (by have:=hr.1;omega) (aqO (yT ⟨hr.2.1,hr.2.2.1⟩ _ _ _ (λx hx=>(hr.2.2.2 x hx).1) (by have:=hr.1;simp only[List.length_nil];omega)) λ_ _=>DZ trivial)
theorem aqT(t:Tk)(hn:n<=10000)(hq:10*n+1<=q):UW n (RC en g t):=by
 intro t' s hg hl;have one:∀{x:Nd},∃r s',Vz (FQ x) (t'::s)=some (r,s')/\(∃k,s'=(t'::s).drop k)/\∀a,r=.inl a->True/\(true=true->s'.length < (t'::s).length):=λ{x}=>SB (DZ trivial) hg hl;have h1:1<=n:=by simp only[List.length_cons] at hl;omega
 unfold RC;cases BY t.text.data.toList Zm.data.toList;rotate_left;exact one;cases BY t.text.data.toList TI.data.toList;rotate_left;exact one;cases BY t.text.data.toList cW.data.toList;rotate_left;exact SB (BA (OA _) λ_ _ _=>DZ trivial) hg hl;cases BY t.text.data.toList LL.data.toList;rotate_left;exact one;cases BY t.text.data.toList dF.data.toList;rotate_left;exact one;cases BY t.text.data.toList QT.data.toList;rotate_left;exact one;cases BY t.text.data.toList Vy.data.toList;rotate_left;exact one;cases BY t.text.data.toList KT.data.toList;rotate_left;exact A.ca n hn hq hg hl;cases BY t.text.data.toList FR.data.toList;rotate_left;exact A.ca n hn hq hg hl;cases BY t.text.data.toList Ra.data.toList;rotate_left;exact A.ta n hn hq hg hl;cases BY t.text.data.toList T4.data.toList;rotate_left;exact SB (UT.Zz (BA (st:=true) (A.ex (n - 1) (by omega) (by omega)) λ_ _ _=>BA (Fb _) λ_ _ _=>DZ trivial)) hg hl;exact Ja (st:=true) (P:=TT) hg hl
theorem aqN(hn:n<=10000)(hq:10*n+2<=q):UT n true TT (X0 en g):=by
 refine Zs λt ht s hg hl=>?_;cases CV t.kind 3;rotate_left;exact BA (st:=true) (P2:=TT) bV (λ_ _ _=>Wa (λ_=>DZ trivial) (DZ trivial)) hg hl;cases CV t.kind 2;rotate_left;refine SB (BA (NJ λt=>D8 ⟨_,rfl⟩ ⟨_,rfl⟩) λa ha _=>?_) hg hl;obtain⟨z,h1,_⟩:=ha.1.rH (.inr (E8 (QQ ha.2).symm));exact Oz ⟨z,h1,DZ trivial⟩;obtain⟨b,hb⟩:=Wy t;unfold cond LU;dsimp only;rw[hb];cases b;exact A.wd t n hn hq t s hg hl;exact SB (DZ trivial) hg hl
end
theorem uG:∀q:Nat,Tot q (gP en q).1 (gP en q).2:=by
 intro q
 induction q with
 | zero=>constructor<;>intros<;>omega
 | succ q A =>
   constructor
   case ex=>intro n hn hq;exact A.lv 0 n (by omega) hn (by omega)
   case lv =>
     intro i n hi hn hq;show UT n true TT (O4 en (gP en q).1 (gP en q).2 (.lv i));have:i=0\/i=1\/i=2\/i=3\/i=4\/i=5\/i=6:=by omega
     rcases this with rfl | rfl | rfl | rfl | rfl | rfl | rfl
     exact Vm A (by omega) hn (by omega);exact Vm A (by omega) hn (by omega);exact aAJ A hn (by omega);exact aqQ A hn (by omega);exact Vm A (by omega) hn (by omega);exact Vm A (by omega) hn (by omega);exact A.at_ n hn (by omega)
   case at_=>intro n hn hq;exact aqN A hn (by omega)
   case wd=>intro t n hn hq;exact aqT A t hn (by omega)
   case ca=>intro n hn hq;exact aqP A hn (by omega)
   case ta=>intro n hn hq;exact aiP A hn (by omega)
   case li=>intro n hn hq;exact uM hn (A.ex n hn (by omega))
end
end Mo
end Go.Proofs.YtpbkhogolfegfaaGreatDoor
namespace Go.Proofs.YtpbkhogolfegfaaGreatDoor
open AI Go
namespace Mo
set_option maxRecDepth 100000
theorem dL:∀l:List Tk,F2 (·=·) l l
 | []=>.nil
 | t::l=>.cons ⟨rfl,rfl,rfl⟩ (dL l)
theorem asP{l l':List Tk}(h:F2 (·=·) l l'):l=l':=by
 induction h with
 | nil=>rfl
 | cons ht _ ih =>
   rename_i t t' l l' _;obtain⟨k,x,a⟩:=t;obtain⟨k',x',a'⟩:=t';obtain⟨h1,h2,h3⟩:=ht;dsimp only at h1 h2 h3;subst h1 h2 h3;rw[ih]
theorem atJ{n n':Nd}(h:NR (·=·) n n'):n=n' :=
 NR.rec (S:=(·=·)) (motive_1:=λa b _=>a=b) (motive_2:=λa b _=>a=b) (λ_ h ih=>by rw[ih,h]) rfl (λ_ _ h1 h2=>by rw[h1,h2]) h
theorem aEI{en:Int}{r r':Nd⊕Dg}(h:RR (·=·) en en (NR (·=·)) r r'):r=r':=by
 cases h with
 | l h=>rw[atJ h]
 | r h =>
   rename_i d d';obtain⟨h1,h2 | ⟨rfl,rfl⟩⟩:=h;obtain⟨e,a⟩:=d;obtain⟨e',a'⟩:=d';dsimp only at h1 h2;subst h1 h2;rfl;rfl
def M1(en:Int):Rd Nd:=λl=>(gP en (10*l.length+11)).1 .ex l
theorem auD{n:Nat}{en:Int}(hn:n<=10000):UT n true TT (M1 en):=λl hg hl=>(uG (10*l.length+11)).ex l.length (by omega) (Nat.le_refl _) hg (Nat.le_refl _)
theorem aEH{S:Int->Int->Prop}{en en':Int}{w:List Tk}:RP S en en' w false (NR S) (M1 en) (M1 en'):=λl l1 _ _ _ _ f e1 e2=>(tO _ _).rg .ex f e1 e2
theorem alQ{en:Int}{l s:List Tk}{r:Nd⊕Dg}(hg:Gl l)(hl:l.length<=10000)(h:M1 en l=some (r,s))(q:Nat)(hq:10*l.length+11<=q):(gP en q).1 .ex l=some (r,s):=by
 obtain⟨r',s',h2,_⟩:=(uG (en:=en) q).ex l.length hl hq hg (Nat.le_refl _);have h3:=(tO (S:=(·=·)) (en:=en) (en':=en) (w:=[]) (10*l.length+11) q).rg .ex (dL l) h (by rw[List.append_nil];exact h2);rcases h3 with ⟨s1,rfl,h4,h5⟩ | ⟨h3,_⟩
 rw[h2,List.append_nil,aEI h5,asP h4];exact absurd rfl h3
section
variable {ts:List Tk} (D2:ts.length<=10000) (hg:Gl ts) {en:Int}
include D2 hg
theorem rO{k:Nat}(hk:k<=ts.length){r l}(hS:M1 en (ts.drop k)=some (r,l)):Jv ts k (FL ⟨ts,k,en⟩) r l:=by
 have hd:(ts.drop k).length<=10000:=by rw[List.length_drop];omega
 have key:∀q,10*(ts.drop k).length+11<=q->Jv ts k (Bd q ⟨ts,k,en⟩) r l:=λq hq=>(akV (by omega) en q).ex hk (alQ (hg.drop k) hd hS q hq);obtain⟨k',a1,a2,a3,a4⟩:=key _ (Nat.le_refl _);refine⟨k',a1,a2,a3,TH (10*(ts.drop k).length+11) λq hq=>?_⟩;obtain⟨k2,b1,b2,b3,b4⟩:=key q hq
 have:k2=k':=by
   have h:=congrArg List.length (a3.symm.trans b3);simp only[List.length_drop] at h;omega
 rw[b4,this]
theorem iD(kind:Int){k:Nat}(hk:k<=ts.length){r l}(hS:IF en (M1 en) kind (ts.drop k)=some (r,l)):Jv ts k (CQ ⟨ts,k,en⟩ kind) r l:=by
 have h6:ts.length<=1000000:=by omega
 refine V1 hk (λt h1 h2 hS=>?_) (λ_=>rfl) hS;have hS:=ZX h2 hS;dsimp only[Sum.elim];rw[Ey h6 hk];refine LF (Nat.le_succ k) ?_;revert hS;cases CV kind 7;intro hS;refine BC (λh=>rO D2 hg h1 h) (λa k h hk hS=>?_) (λ_ _=>rfl) hS;refine BC (λh=>IR h6 _ hk h) (λ_ k h hk hS=>?_) (λ_ _=>rfl) hS;exact Es hk rfl hS;intro hS;refine BC (λh=>anE h6 (λhk _ _ h=>U5 h6 hk h) h1 h) (λa k h hk hS=>?_) (λ_ _=>rfl) hS;refine BC (λh=>IR h6 _ hk h) (λ_ k h hk hS=>?_) (λ_ _=>rfl) hS;exact Es hk rfl hS
theorem anV(t1 t4:Tk)(n2:Int×Int)(k0:Int):∀(q:Nat) (ns:List Nd) (un am:Bool) (k:Nat) (r:Nd⊕Dg) (l:List Tk),k<=ts.length->Ir en (M1 en) (λl=>E9 4 t4.text bE n2.1 l t1.AH) q ns un am (ts.drop k)=some (r,l) ->
   ∃k':Nat,k<=k'/\k'<=ts.length/\l=ts.drop k'/\∃n,EK (λx:List Nd×Int×Bool×Bool=>Bu ⟨ts,k0,en⟩ t1 n2 t4 x.1 x.2.1 x.2.2.1 x.2.2.2) n (ns,(k:Int),un,am)=some (.inr (r,(k':Int))):=by
 have h6:ts.length<=1000000:=by omega
 intro q
 induction q with
 | zero=>intro ns un am k r l hk hS;cases hS
 | succ q ih =>
   intro ns un am k r l hk hS
   have stop:∀{y:(Nd⊕Dg)×Int},Bu ⟨ts,k0,en⟩ t1 n2 t4 ns (k:Int) un am=some (.rt y)->EK (λx:List Nd×Int×Bool×Bool=>Bu ⟨ts,k0,en⟩ t1 n2 t4 x.1 x.2.1 x.2.2.1 x.2.2.2) 1 (ns,(k:Int),un,am)=some (.inr y):=by
     intro y h;show(Bu ⟨ts,k0,en⟩ t1 n2 t4 ns (k:Int) un am).bind _=_;rw[h];rfl
   have go:∀{y:List Nd×Int×Bool×Bool} {n:Nat} {z},Bu ⟨ts,k0,en⟩ t1 n2 t4 ns (k:Int) un am=some (.nx y)->EK (λx:List Nd×Int×Bool×Bool=>Bu ⟨ts,k0,en⟩ t1 n2 t4 x.1 x.2.1 x.2.2.1 x.2.2.2) n y=z->EK (λx:List Nd×Int×Bool×Bool=>Bu ⟨ts,k0,en⟩ t1 n2 t4 x.1 x.2.1 x.2.2.1 x.2.2.2) (n+1) (ns,(k:Int),un,am)=z:=by
     intro y n z h h2;show(Bu ⟨ts,k0,en⟩ t1 n2 t4 ns (k:Int) un am).bind _=_;rw[h];exact h2
   unfold Ir Vc at hS;unfold Bu at stop go;rcases JI ts hk with ⟨h1,h2⟩ | ⟨t,h1,h2,h3⟩
   · rw[h2] at hS
     dsimp only at hS;simp only[Option.some.injEq,Prod.mk.injEq] at hS;obtain⟨rfl,rfl⟩:=hS;refine⟨k,Nat.le_refl k,hk,h2.symm,1,stop ?_⟩
     have:AD ⟨ts,k,en⟩=some (.inr ⟨72,en⟩):=by
       unfold AD;rw[YJ (by dsimp only;omega)];rfl
     dsimp only;rw[this];rfl
   · rw[h3] at hS
     dsimp only at hS;rw[<- h3] at hS
     have hpk:AD ⟨ts,k,en⟩=some (.inl t):=by
       unfold AD;rw[U0 (by dsimp only;omega)];dsimp only[cond];unfold Hu;rw[if_pos (by omega),Int.toNat_natCast,h2];rfl
     dsimp only at stop go;rw[hpk] at stop go;dsimp only[Option.bind,Sum.elim] at stop go
     have one:∀(kind:Int) (gQ gG:Bool),(Cu (IF en (M1 en) kind) λc=>OP (ns.length+1) (Ir en (M1 en) (λl=>E9 4 t4.text bE n2.1 l t1.AH) q (ns++[c]) gQ gG)) (ts.drop k)=some (r,l) ->
         (∃(k1:Nat) (c:Nd),k<=k1/\k1<=ts.length/\CQ ⟨ts,k,en⟩ kind=some (.inl c,(k1:Int))/\ns.length+1<=100000000/\∃k':Nat,k1<=k'/\k'<=ts.length/\l=ts.drop k'/\∃n,EK (λx:List Nd×Int×Bool×Bool=>Bu ⟨ts,k0,en⟩ t1 n2 t4 x.1 x.2.1 x.2.2.1 x.2.2.2) n (ns++[c],(k1:Int),gQ,gG)=some (.inr (r,(k':Int)))) \/
         (∃(k':Nat) (d:Dg),k<=k'/\k'<=ts.length/\l=ts.drop k'/\r=.inr d/\CQ ⟨ts,k,en⟩ kind=some (.inr d,(k':Int))):=by
       intro kind gQ gG h;rcases Jg h with ⟨c,s',h4,h5⟩ | ⟨d,h4,rfl⟩
       obtain⟨k1,a1,a2,rfl,a4⟩:=iD D2 hg kind hk h4;obtain⟨hl,h5⟩:=N7 h5;exact .inl ⟨k1,c,a1,a2,a4,hl,ih _ _ _ _ _ _ a2 h5⟩;obtain⟨k1,a1,a2,a3,a4⟩:=iD D2 hg kind hk h4;exact .inr ⟨k1,d,a1,a2,a3,rfl,a4⟩
     cases hw:BY t.text.data.toList cG.data.toList with
     | true =>
       rw[hw] at hS stop go;dsimp only[cond] at hS stop go;rcases one 6 un am hS with ⟨k1,c,a1,a2,a3,a4,k',b1,b2,b3,n,b4⟩ | ⟨k',d,a1,a2,a3,rfl,a4⟩
       rw[a3] at go;dsimp only[Option.bind,Sum.elim] at go;rw[Ff a4] at go;exact⟨k',by omega,b2,b3,n+1,go rfl b4⟩
       · rw[a4] at stop
         exact⟨k',a1,a2,a3,1,stop rfl⟩
     | false =>
       rw[hw] at hS stop go;dsimp only[cond] at hS stop go;cases hu:BY t.text.data.toList SZ.data.toList with
       | true =>
         rw[hu] at hS stop go;dsimp only at hS stop go;cases un with
         | true =>
           dsimp only at hS stop go;obtain⟨rfl,rfl⟩:=Ng hS;exact⟨k,Nat.le_refl k,hk,rfl,1,stop rfl⟩
         | false =>
           dsimp only at hS stop go;rcases one 7 true am hS with ⟨k1,c,a1,a2,a3,a4,k',b1,b2,b3,n,b4⟩ | ⟨k',d,a1,a2,a3,rfl,a4⟩
           rw[a3] at go;dsimp only[Option.bind,Sum.elim] at go;rw[Ff a4] at go;exact⟨k',by omega,b2,b3,n+1,go rfl b4⟩
           · rw[a4] at stop
             exact⟨k',a1,a2,a3,1,stop rfl⟩
       | false =>
         rw[hu] at hS stop go;dsimp only at hS stop go;cases ha:BY t.text.data.toList QG.data.toList with
         | true =>
           rw[ha] at hS stop go;dsimp only at hS stop go;cases am with
           | true =>
             dsimp only at hS stop go;obtain⟨rfl,rfl⟩:=Ng hS;exact⟨k,Nat.le_refl k,hk,rfl,1,stop rfl⟩
           | false =>
             dsimp only at hS stop go;rcases one 8 un true hS with ⟨k1,c,a1,a2,a3,a4,k',b1,b2,b3,n,b4⟩ | ⟨k',d,a1,a2,a3,rfl,a4⟩
             rw[a3] at go;dsimp only[Option.bind,Sum.elim] at go;rw[Ff a4] at go;exact⟨k',by omega,b2,b3,n+1,go rfl b4⟩
             · rw[a4] at stop
               exact⟨k',a1,a2,a3,1,stop rfl⟩
         | false =>
           rw[ha] at hS stop go;dsimp only at hS stop go;cases hc:BY t.text.data.toList Z0.data.toList with
           | true =>
             rw[hc] at hS stop;dsimp only at hS stop;cases am with
             | true =>
               have hS:=ZX h3 hS;obtain⟨rfl,rfl⟩:=LG hS;refine⟨k+1,by omega,h1,rfl,1,stop ?_⟩;dsimp only;rw[Ey h6 hk];rfl
             | false =>
               obtain⟨rfl,rfl⟩:=Ng hS;exact⟨k,Nat.le_refl k,hk,rfl,1,stop rfl⟩
           | false =>
             rw[hc] at hS stop;dsimp only at hS stop;obtain⟨rfl,rfl⟩:=Ng hS;exact⟨k,Nat.le_refl k,hk,rfl,1,stop rfl⟩
theorem vJ{k:Nat}(hk:k<=ts.length){r l}(hS:MD en (M1 en) (ts.drop k)=some (r,l)):Jv ts k (FV ⟨ts,k,en⟩) r l:=by
 have h6:ts.length<=1000000:=by omega
 refine BC (λh=>IR h6 _ hk h) (λt k1 h hk hS=>?_) (λ_ _=>rfl) hS;refine BC (λh=>O1 h6 _ hk h) (λn k1 h hk hS=>?_) (λ_ _=>rfl) hS;refine BC (λh=>IR h6 _ hk h) (λ_ k1 h hk hS=>?_) (λ_ _=>rfl) hS;refine BC (λh=>aeX h6 hk h) (λm k1 h hk hS=>?_) (λ_ _=>rfl) hS;refine BC (λh=>awK h6 hk h) (λhd k1 h hk hS=>?_) (λ_ _=>rfl) hS;dsimp only[Sum.elim];rw[Ff (by omega)];refine BC (λh=>IR h6 _ hk h) (λ_ k1 h hk hS=>?_) (λ_ _=>rfl) hS;obtain⟨k',a1,a2,a3,j,a4⟩:=anV D2 hg t m n (k:Int) _ [hd] false false k1 r l hk hS;refine⟨k',a1,a2,a3,?_⟩;dsimp only[Sum.elim];rw[List.nil_append,Fc a4];rfl
theorem aeA{k:Nat}(hk:k<=ts.length){r l}(hS:P1 en (M1 en) (ts.drop k)=some (r,l)):Jv ts k (Ho ⟨ts,k,en⟩) r l:=by
 have h6:ts.length<=1000000:=by omega
 refine V1 hk (λt h1 h2 hS=>?_) (λ_=>rfl) hS;revert hS;dsimp only[Sum.elim];cases BY t.text.data.toList Tl.data.toList;rotate_left;exact λhS=>Q1 (abK h6 hk hS);cases BY t.text.data.toList OX.data.toList;rotate_left;exact λhS=>Q1 (abK h6 hk hS);cases BY t.text.data.toList Ig.data.toList;rotate_left;exact λhS=>Q1 (vJ D2 hg hk hS);exact λhS=>Es hk rfl hS
end
end Mo
end Go.Proofs.YtpbkhogolfegfaaGreatDoor
namespace Go.Proofs.YtpbkhogolfegfaaGreatDoor
open AI Go
namespace Mo
set_option maxRecDepth 100000
section
variable {S:Int->Int->Prop} {en en':Int} {w:List Tk} {b:Bool}
def V2(kind:Int):RP S en en' w b (NR S) (IF en (M1 en) kind) (IF en' (M1 en') kind) :=
 Y5 λ_ _ ht=>RA (Ci (λ_=>Jt (tU Tt) (λ_ _ hl=>Cc (GQ _) λ_ _ _=>DW (Gi hl ht.2.2)) λ_=>Lq QL)
   λ_=>Jt aEH (λ_ _ hl=>Cc (GQ _) λ_ _ _=>DW (Gi (.cons hl .nil) ht.2.2)) λ_=>Lq QL)
def agD{mk mk':List Nd->Nd}(hm:∀l l',cJ S l l'->NR S (mk l) (mk' l')):∀(q q':Nat) (l l':List Nd) (un am:Bool),cJ S l l'->RP S en en' w b (NR S) (Ir en (M1 en) mk q l un am) (Ir en' (M1 en') mk' q' l' un am):=by
 intro q
 induction q with
 | zero=>intro q' l l' un am _ _ _ _ _ _ _ _ e1;cases e1
 | succ q ih =>
   intro q' l l' un am hl;cases q' with
   | zero=>intro _ _ _ _ _ _ _ _ e2;cases e2
   | succ q' =>
     refine Y5 λt t' ht=>?_;rw[ht.2.1]
     exact Ci (λ_=>Cc (V2 _) λc c' hc=>Sy (ih q' _ _ _ _ (U4 hl (.cons hc .nil)))) λ_ =>
       Ci (λ_=>Ci (λ_=>I7 ht.2.2) λ_=>Cc (V2 _) λc c' hc=>Sy (ih q' _ _ _ _ (U4 hl (.cons hc .nil)))) λ_ =>
       Ci (λ_=>Ci (λ_=>I7 ht.2.2) λ_=>Cc (V2 _) λc c' hc=>Sy (ih q' _ _ _ _ (U4 hl (.cons hc .nil)))) λ_ =>
       Ci (λ_=>Ci (λ_=>RA (DW (hm _ _ hl))) λ_=>I7 ht.2.2) λ_=>I7 ht.2.2
def qD:RP S en en' w b (NR S) (MD en (M1 en)) (MD en' (M1 en')):=by
 refine Cc (GQ _) λt t' ht=>Cc (Ql _) λn n' hn=>Cc (GQ _) λ_ _ _=>Cc tV λm m' hm=>Cc aoR λh h' hh=>Cc (GQ _) λ_ _ _=>?_;intro l l1 s s' r r' f e1 e2;refine agD (λl l' hl=>?_) _ _ _ _ _ _ (.cons hh .nil) f e1 e2;rw[hn.1,hm.2.1];exact Gi hl ht.2.2
def Vd:RP S en en' w b (NR S) (P1 en (M1 en)) (P1 en' (M1 en')):=by
 refine Y5 λt t' ht=>?_;rw[ht.2.1];exact Ci (λ_=>tS) λ_=>Ci (λ_=>tS) λ_=>Ci (λ_=>qD) λ_=>I7 ht.2.2
end
section
variable {n:Nat} {en:Int} {st:Bool}
def yQ(kind:Int)(hn:n<=10000):UT n st TT (IF en (M1 en) kind) :=
 Zs λt _ s aJ hl=>SB (F4 (λ_=>BA (uM (by omega) Tv) λ_ _ _=>BA (Fb _) λ_ _ _=>DZ trivial) λ_=>BA (auD (by omega)) λ_ _ _=>BA (Fb _) λ_ _ _=>DZ trivial) aJ hl
def lU{mk:List Nd->Nd}:∀(q n:Nat) (ns:List Nd) (un am:Bool),n<=10000->n < q->ns.length+n<=100000->UT n st TT (Ir en (M1 en) mk q ns un am):=by
 intro q
 induction q generalizing st with
 | zero=>intro n ns un am _ h;omega
 | succ q ih =>
   intro n ns un am hn h1 h2
   have go:∀{st:Bool} (kind:Int) (gQ gG:Bool),UT n st TT (Cu (IF en (M1 en) kind) λc=>OP (ns.length+1) (Ir en (M1 en) mk q (ns++[c]) gQ gG)):=λkind gQ gG =>
     BA (yQ kind hn) λc _ h3=>V9 (by omega) (ih (n - 1) _ _ _ (by omega) (by omega) (by simp only[List.length_append,List.length_singleton];omega))
   refine Zs λt _ s aJ hl=>?_;cases BY t.text.data.toList cG.data.toList;rotate_left;exact go (st:=st) _ _ _ aJ hl;cases BY t.text.data.toList SZ.data.toList;rotate_left;exact F4 (st:=st) (P:=TT) (λ_=>Ja) (λ_=>go _ _ _) aJ hl;cases BY t.text.data.toList QG.data.toList;rotate_left;exact F4 (st:=st) (P:=TT) (λ_=>Ja) (λ_=>go _ _ _) aJ hl;cases BY t.text.data.toList Z0.data.toList;exact Ja (st:=st) (P:=TT) aJ hl;cases am;exact Ja (st:=st) (P:=TT) aJ hl;exact SB (DZ trivial) aJ hl
def qS(hn:n<=10000):UT n st TT (MD en (M1 en)) :=
 BA (Fb _) λt _ h1=>BA (OA _) λm _ h2=>BA (Fb _) λ_ _ h3=>BA XE λu _ h4=>BA uL λh _ h5=>BA (Fb _) λ_ _ h6 =>
   lT (K:=λq=>Ir en (M1 en) (λl=>E9 4 u.text bE m.1 l t.AH) q [h] false false) λk hk=>lU (k+1) k [h] false false (by omega) (by omega) (by simp only[List.length_singleton];omega)
def fR(hn:n<=10000):UT n st TT (P1 en (M1 en)):=by
 refine Zs λt _ s aJ hl=>?_;cases BY t.text.data.toList Tl.data.toList;rotate_left;exact uK (st:=st) aJ hl;cases BY t.text.data.toList OX.data.toList;rotate_left;exact uK (st:=st) aJ hl;cases BY t.text.data.toList Ig.data.toList;rotate_left;exact qS (st:=st) hn aJ hl;exact Ja (st:=st) (P:=TT) aJ hl
end
def N3(t:Tk):Bool:=BY t.text.data.toList Tl.data.toList||(BY t.text.data.toList OX.data.toList||BY t.text.data.toList Ig.data.toList)
def Ox:List Tk->List Tk
 | []=>[]
 | t::s=>if N3 t then t::s else Ox s
def Qm:∀l:List Tk,∃k,Ox l=l.drop k
 | []=>⟨0,rfl⟩
 | t::s=>by
   unfold Ox;split;exact⟨0,rfl⟩;obtain⟨k,hk⟩:=Qm s;exact⟨k+1,by rw[hk];rfl⟩
def L9{en:Int}{t:Tk}{l s:List Tk}{r:Nd⊕Dg}(hg:Gl (t::l))(hl:(t::l).length<=10000)(h:P1 en (M1 en) (t::l)=some (r,s)):(∃k,s=(t::l).drop k)/\(Ox s).length<=l.length/\∀n,r=.inl n->s.length<=l.length:=by
 obtain⟨r',s',h2,h3,h4⟩:=fR (st:=true) (en:=en) (n:=(t::l).length) hl hg (Nat.le_refl _);rw[h] at h2;simp only[Option.some.injEq,Prod.mk.injEq] at h2;obtain⟨rfl,rfl⟩:=h2;refine⟨h3,?_,λn hn=>Nat.le_of_lt_succ ((h4 n hn).2 rfl)⟩
 have small:∀{k:Nat},(Ox (l.drop k)).length<=l.length:=λ{k}=>by
   obtain⟨j,hj⟩:=Qm (l.drop k);rw[hj,List.length_drop,List.length_drop];omega
 have sk:∀{x:List Tk},(∃k,x=l.drop k)->(Ox x).length<=l.length:=by
   rintro x ⟨k,rfl⟩;exact small
 have Yy:Gl l:=λt ht=>hg t (List.mem_cons_of_mem _ ht);have zZ:l.length<=10000:=by simp only[List.length_cons] at hl;omega
 cases hi:N3 t with
 | false =>
   have Nt:=hi;unfold N3 at hi;simp only[Bool.or_eq_false_iff] at hi
   have:P1 en (M1 en) (t::l)=some (.inr ⟨71,t.AH⟩,t::l):=by
     unfold P1 Vc;dsimp only;rw[hi.1,hi.2.1,hi.2.2];rfl
   rw[this] at h;simp only[Option.some.injEq,Prod.mk.injEq] at h;rw[<- h.2];unfold Ox;rw[Nt];obtain⟨k,hk⟩:=Qm l;simp only[Bool.false_eq_true,if_false];rw[hk,List.length_drop];omega
 | true =>
   unfold P1 Vc at h;dsimp only at h
   have decl:R7 en (t::l)=some (r,s)->(Ox s).length<=l.length:=by
     intro h;unfold R7 Vc Vz at h;dsimp only at h;refine sk ?_
     obtain⟨r2,s2,e2,h5,_⟩:=(show UT l.length false TT _ from BA XE λm _ _=>BA (Fb Vb) λ_ _ _=>BA uO λu _ _=>F4 (c:=BY t.text.data.toList OX.data.toList)
       (A:=Cu (bB en) λr=>LU (Ev r.text) λn=>Cu (JL en RL) λ_=>FQ (E9 3 m.text u.text n [] t.AH)) (B:=Cu (JL en RL) λ_=>FQ (E9 2 m.text u.text 0 [] t.AH))
       (λ_=>BA uN λr _ _=>by obtain⟨b,hb⟩:=Sw r.text;exact Oz ⟨b,hb,BA (Fb _) λ_ _ _=>DZ trivial⟩) λ_=>BA (Fb _) λ_ _ _=>DZ trivial) Yy (Nat.le_refl _)
     rw[h] at e2;simp only[Option.some.injEq,Prod.mk.injEq] at e2;rw[e2.2];exact h5
   revert h;cases hf:BY t.text.data.toList Tl.data.toList;rotate_left;exact decl;cases hli:BY t.text.data.toList OX.data.toList;rotate_left;exact decl;cases ha:BY t.text.data.toList Ig.data.toList;unfold N3 at hi;rw[hf,hli,ha] at hi;cases hi;intro h;refine sk ?_;have h:MD en (M1 en) (t::l)=some (r,s):=h;unfold MD at h
   have he:JL en Ig (t::l)=some (.inl t,l):=by
     unfold JL LK Vc LU Ds;dsimp only;rw[ha];rfl
   rcases Jg h with ⟨a,s',h3,h4⟩ | ⟨d,h3,_⟩
   rw[he] at h3;simp only[Option.some.injEq,Prod.mk.injEq,Sum.inl.injEq] at h3;obtain⟨rfl,rfl⟩:=h3
   obtain⟨r2,s2,e2,h5,_⟩:=(show UT l.length false TT _ from BA (OA (en:=en) 1) λm _ h2=>BA (Fb (en:=en) acF) λ_ _ h3=>BA (XE (en:=en)) λu _ h4=>BA (uL (en:=en)) λh _ h5=>BA (Fb (en:=en) eZ) λ_ _ h6 =>
     lT (K:=λq=>Ir en (M1 en) (λl=>E9 4 u.text bE m.1 l t.AH) q [h] false false) λk hk=>lU (k+1) k [h] false false (by omega) (by omega) (by simp only[List.length_singleton];omega)) Yy (Nat.le_refl _)
   have h6:=h4.symm.trans e2;simp only[Option.some.injEq,Prod.mk.injEq] at h6;rw[h6.2];exact h5;rw[he] at h3;cases h3
end Mo
end Go.Proofs.YtpbkhogolfegfaaGreatDoor
namespace Go.Proofs.YtpbkhogolfegfaaGreatDoor
open AI Go
namespace Mo
set_option maxRecDepth 100000
def I9(en:Int):Nat->List Tk->List Nd->List Dg->Option (List Nd×List Dg)
 | 0,_,_,_=>none
 | _+1,[],ks,ds=>some (ks,ds)
 | q+1,t::l,ks,ds=>cond (Et ((ds.length:Nat):Int) 20) (match P1 en (M1 en) (t::l) with
   | none=>none
   | some (.inl n,s)=>I9 en q s (ks++[n]) ds
   | some (.inr d,s)=>I9 en q (Ox s) ks (ds++[d])) (some (ks,ds))
theorem lP{en:Int}:∀(q:Nat) (l:List Tk) (ks:List Nd) (ds:List Dg),Gl l->l.length<=10000->l.length < q->∃r,I9 en q l ks ds=some r:=by
 intro q
 induction q with
 | zero=>intro l ks ds _ _ h;omega
 | succ q ih =>
   intro l ks ds hg hl h;cases l with
   | nil=>exact⟨_,rfl⟩
   | cons t l =>
     unfold I9;cases Et ((ds.length:Nat):Int) 20 with
     | false=>exact⟨_,rfl⟩
     | true =>
       obtain⟨r,s,h2,_⟩:=fR (st:=true) (en:=en) (n:=(t::l).length) hl hg (Nat.le_refl _);obtain⟨⟨k,rfl⟩,h4,h5⟩:=L9 hg hl h2;dsimp only[cond];rw[h2];simp only[List.length_cons] at h hl;cases r with
       | inl n =>
         have h6:=h5 n rfl;exact ih _ _ _ (hg.drop k) (by omega) (by omega)
       | inr d =>
         obtain⟨j,hj⟩:=Qm ((t::l).drop k);refine ih _ _ _ ?_ (by omega) (by omega);rw[hj];exact(hg.drop k).drop j
section
variable {source:ByteArray} {ts:List Tk} (D2:ts.length<=10000)
include D2
theorem azR:∀(j k:Nat),k<=ts.length->ts.length - k<=j->∃n k':Nat,k<=k'/\k'<=ts.length/\Ox (ts.drop k)=ts.drop k'/\EK (λx=>C6 source ts x) n (k:Int)=some (.inl (k':Int)):=by
 have stop:∀{k:Nat} {y:Int},C6 source ts (k:Int)=some (.ex y)->EK (λx=>C6 source ts x) 1 (k:Int)=some (.inl y):=by
   intro k y h;show(C6 source ts (k:Int)).bind _=_;rw[h];rfl
 intro j
 induction j with
 | zero =>
   intro k hk hj;have:k=ts.length:=by omega
   refine⟨1,k,Nat.le_refl k,hk,?_,stop ?_⟩;rw[List.drop_eq_nil_of_le (by omega)];rfl;unfold C6;rw[H5 (by omega)];rfl
 | succ j ih =>
   intro k hk hj;rcases JI ts hk with ⟨h1,h2⟩ | ⟨t,h1,h2,h3⟩
   · refine⟨1,k,Nat.le_refl k,hk,?_,stop ?_⟩
     rw[h2];rfl;unfold C6;rw[H5 (by omega)];rfl
   · have hs:∀x,Ju x (ts.drop k)=BY t.text.data.toList x.data.toList:=λx=>by rw[h3];rfl
     have hL:C6 source ts (k:Int)=if N3 t then some (.ex (k:Int)) else some (.nx ((k+1:Nat):Int)):=by
       unfold C6 N3;rw[Ij (by omega)];dsimp only[cond];rw[GR hk,GR hk,GR hk,Option.bind_some,hs,hs,hs];cases BY t.text.data.toList Tl.data.toList;cases BY t.text.data.toList OX.data.toList;cases BY t.text.data.toList Ig.data.toList;rw[<- Ey (by omega) hk];rfl;rfl;rfl;rfl
     cases hi:N3 t with
     | true =>
       refine⟨1,k,Nat.le_refl k,hk,?_,stop ?_⟩;rw[h3];unfold Ox;rw[hi];rfl;rw[hL,hi];rfl
     | false =>
       obtain⟨n,k',a1,a2,a3,a4⟩:=ih (k+1) h1 (by omega);refine⟨n+1,k',by omega,a2,?_,?_⟩;rw[h3];unfold Ox;rw[hi];exact a3;show(C6 source ts (k:Int)).bind _=_;rw[hL,hi];exact a4
theorem aEV(hg:Gl ts):∀(q k:Nat) (ks:List Nd) (ds:List Dg) (r:List Nd×List Dg),k<=ts.length->ks.length+ds.length+q<=100000->I9 ((source.data.toList.length:Nat):Int) q (ts.drop k) ks ds=some r ->
   ∃n k':Nat,EK (λx:List Dg×List Nd×Int=>Cb source ts x.1 x.2.1 x.2.2) n (ds,ks,(k:Int))=some (.inl (r.2,r.1,(k':Int))):=by
 intro q
 induction q with
 | zero=>intro k ks ds r hk hq h;cases h
 | succ q ih =>
   intro k ks ds r hk hq h
   have stop:Cb source ts ds ks (k:Int)=some (.ex (ds,ks,(k:Int)))->EK (λx:List Dg×List Nd×Int=>Cb source ts x.1 x.2.1 x.2.2) 1 (ds,ks,(k:Int))=some (.inl (ds,ks,(k:Int))):=by
     intro h;show(Cb source ts ds ks (k:Int)).bind _=_;rw[h];rfl
   rcases JI ts hk with ⟨h1,h2⟩ | ⟨t,h1,h2,h3⟩
   · rw[h2] at h
     have:r=(ks,ds):=(Option.some.inj h).symm;subst this;refine⟨1,k,stop ?_⟩;unfold Cb;rw[H5 (by omega)];rfl
   · rw[h3] at h
     unfold I9 at h;rw[<- h3] at h;cases hd:Et ((ds.length:Nat):Int) 20 with
     | false =>
       rw[hd] at h;have:r=(ks,ds):=(Option.some.inj h).symm;subst this;refine⟨1,k,stop ?_⟩;unfold Cb;rw[Ij (by omega),hd];rfl
     | true =>
       rw[hd] at h;dsimp only[cond] at h;split at h;cases h;rename_i n s hi;obtain⟨k1,a1,a2,rfl,a4⟩:=aeA D2 hg hk hi;obtain⟨m,k',b1⟩:=ih k1 (ks++[n]) ds r a2 (by simp only[List.length_append,List.length_singleton];omega) h;refine⟨m+1,k',?_⟩
       have hL:Cb source ts ds ks (k:Int)=some (.nx (ds,ks++[n],(k1:Int))):=by
         unfold Cb Hp;rw[Ij (by omega),hd,a4];dsimp only[cond,Option.bind,aiF];rw[Ff (by omega)]
       show(Cb source ts ds ks (k:Int)).bind _=_;rw[hL];exact b1;rename_i d s hi;obtain⟨k1,a1,a2,rfl,a4⟩:=aeA D2 hg hk hi;obtain⟨j,k2,c1,c2,c3,c4⟩:=azR (source:=source) D2 (ts.length - k1) k1 a2 (Nat.le_refl _);rw[c3] at h;obtain⟨m,k',b1⟩:=ih k2 ks (ds++[d]) r c2 (by simp only[List.length_append,List.length_singleton];omega) h;refine⟨m+1,k',?_⟩
       have hL:Cb source ts ds ks (k:Int)=some (.nx (ds++[d],ks,(k2:Int))):=by
         unfold Cb Hp;rw[Ij (by omega),hd,a4];dsimp only[cond,Option.bind,aiF];rw[Ff (by omega),Fc c4];rfl
       show(Cb source ts ds ks (k:Int)).bind _=_;rw[hL];exact b1
end
def DY(s:ByteArray):List Tk:=(LexS.Lg s.data.toList).1.map IH
def Pp(s:ByteArray):Nat:=(LexS.Lg s.data.toList).2.1
def aDL(s:ByteArray):Nat:=(LexS.Lg s.data.toList).2.2
def Gw(ks:List Nd):Nd:=⟨1,ByteArray.empty,ByteArray.empty,0,0,0,0,⟨0,[]⟩,ks,0⟩
theorem aY{s:ByteArray}(h:Pp s≠0):Cf s=some (z0,[⟨(Pp s:Int),(aDL s:Int)⟩]):=by
 unfold Cf ID;rw[Option.bind_some];dsimp only;rw[KZ (by unfold Pp at h;omega)];rfl
theorem xG{s:ByteArray}(h:Pp s=0)(hg:Gl (DY s))(hl:(DY s).length<=10000):∃ks ds,I9 ((s.data.toList.length:Nat):Int) ((DY s).length+1) (DY s) [] []=some (ks,ds)/\Cf s=cond (Et 0 ((ds.length:Nat):Int)) (some (z0,ds)) (Dq (Gw ks)):=by
 obtain⟨⟨ks,ds⟩,h1⟩:=lP (en:=((s.data.toList.length:Nat):Int)) ((DY s).length+1) (DY s) [] [] hg hl (Nat.lt_succ_self _);refine⟨ks,ds,h1,?_⟩;obtain⟨n,k',h2⟩:=aEV (source:=s) hl hg ((DY s).length+1) 0 [] [] _ (Nat.zero_le _) (by simp only[List.length_nil];omega) (by rw[List.drop_zero];exact h1);unfold Cf ID;rw[Option.bind_some];dsimp only;rw[JK (by unfold Pp at h;omega)];dsimp only[cond];have h2:EK (λx:List Dg×List Nd×Int=>Cb s (List.map IH (LexS.Lg s.data.toList).fst) x.1 x.2.1 x.2.2) n ([],[],0)=some (.inl (ds,ks,(k':Int))):=h2;rw[Fc h2,Option.bind_some];dsimp only[LZ];cases Et 0 ((ds.length:Nat):Int);dsimp only;show(Dq (Gw ks)).bind _=Dq (Gw ks);cases Dq (Gw ks)<;>rfl
 rfl
end Mo
end Go.Proofs.YtpbkhogolfegfaaGreatDoor
namespace Go.Proofs.YtpbkhogolfegfaaGreatDoor
open AI Go LexS
namespace Mo
set_option maxRecDepth 100000
def S5(c:UInt8):Prop:=48<=c.toNat/\c.toNat<=57
theorem abA:∀n < 128,(LY n &&& 8)≠0->48<=n/\n<=57:=by decide
theorem alE{c:UInt8}(h:cin 8 c=true):S5 c:=by
 unfold cin at h;by_cases hc:c.toNat < 128;exact abA _ hc (by simpa using h)
 rw[dC _ (by omega)] at h;simp at h
theorem lH(t:List UInt8):∀c∈t.take (Be 8 t),S5 c:=by
 unfold Be
 induction t with
 | nil=>intro c hc;cases hc
 | cons x t ih =>
   intro c hc;rw[List.takeWhile_cons] at hc;split at hc;rename_i hx;rw[List.length_cons,List.take_succ_cons] at hc;rcases List.mem_cons.1 hc with rfl | hc
   exact alE hx;exact ih c hc;cases hc
theorem alJ:∀(l:List UInt8) (acc:Nat),(∀c∈l,S5 c)->∃n,Lib.decFrom acc l=some n/\n < (acc+1)*10 ^ l.length:=by
 intro l
 induction l with
 | nil=>intro acc _;exact⟨acc,rfl,by simp⟩
 | cons c l ih =>
   intro acc h;have hc:=h c (List.mem_cons_self ..);obtain⟨n,h1,h2⟩:=ih (acc*10+(c.toNat - 48)) (λx hx=>h x (List.mem_cons_of_mem _ hx));refine⟨n,?_,Nat.lt_of_lt_of_le h2 ?_⟩;unfold Lib.decFrom Lib.digitVal;rw[if_pos (show 48<=c.toNat/\c.toNat<=57 from hc)];exact h1;rw[List.length_cons,Nat.pow_succ,Nat.mul_comm (10 ^ l.length) 10,<- Nat.mul_assoc];exact Nat.mul_le_mul_right _ (by have:=hc.2;omega)
theorem aaO{l:List UInt8}(h0:l≠[])(hl:l.length<=12)(h:∀c∈l,S5 c):∃z,Lib.atoi l=some z/\0<=z/\z<=999999999999:=by
 cases l with
 | nil=>exact absurd rfl h0
 | cons c l =>
   obtain⟨n,h1,h2⟩:=alJ (c::l) 0 h;have hc:=h c (List.mem_cons_self ..);have hlt:n < 10 ^ 12:=Nat.lt_of_lt_of_le h2 (by rw[Nat.zero_add,Nat.one_mul];exact Nat.pow_le_pow_right (by omega) hl);refine⟨(n:Int),?_,by omega,by omega⟩
   have e1:(c == 45)=false:=by
     apply beq_false_of_ne;rintro rfl;exact absurd hc.1 (by decide)
   have e2:(c == 43)=false:=by
     apply beq_false_of_ne;rintro rfl;exact absurd hc.1 (by decide)
   unfold Lib.atoi Lib.decNat;dsimp only;rw[e1,e2];simp only[Bool.false_eq_true,if_false,List.isEmpty_cons];rw[h1];rfl
theorem aM:∀(d r:List UInt8),(∀c∈d,S5 c)->Lib.indexByte (d++46::r) 46=d.length
 | [],r,_=>by unfold Lib.indexByte;rfl
 | c::d,r,h=>by
   have ih:=aM d r (λx hx=>h x (List.mem_cons_of_mem _ hx));have hc:=h c (List.mem_cons_self ..)
   have e1:(c == 46)=false:=by
     apply beq_false_of_ne;rintro rfl;exact absurd hc.1 (by decide)
   rw[List.cons_append];unfold Lib.indexByte;rw[e1,ih];simp
theorem XZ{l:List UInt8}(h0:l≠[])(hl:l.length<=12)(h:∀c∈l,S5 c):∃z,R0 ⟨l.toArray⟩=some (z,())/\0<=z/\z<=999999999999:=by
 obtain⟨z,h1,h2⟩:=aaO h0 hl h;refine⟨z,?_,h2⟩;unfold R0;rw[if_pos (by simp;omega)];simp only[List.toList_toArray,h1,Option.map_some]
theorem xM{s:List UInt8}(k:Nat)(h:Lib.index s [46]=-1):Lib.replaceK [46] [] k s=s:=by
 cases k with
 | zero=>rfl
 | succ k=>unfold Lib.replaceK;rw[h];rfl
theorem jH:∀(d:List UInt8),(∀c∈d,S5 c)->Lib.indexByte d 46=-1
 | [],_=>rfl
 | c::d,h=>by
   have ih:=jH d (λx hx=>h x (List.mem_cons_of_mem _ hx));have hc:=h c (List.mem_cons_self ..)
   have e1:(c == 46)=false:=by
     apply beq_false_of_ne;rintro rfl;exact absurd hc.1 (by decide)
   unfold Lib.indexByte;rw[e1,ih];simp
theorem aoI{d:List UInt8}(h:∀c∈d,S5 c):Lib.replace d [46] [] 1=d:=by
 unfold Lib.replace;rw[if_neg (by decide)];exact xM _ (by rw[Lib.index_one,jH d h])
theorem afW{d r:List UInt8}(h:∀c∈d,S5 c):Lib.replace (d++46::r) [46] [] 1=d++r:=by
 have hi:Lib.index (d++46::r) [46]=(d.length:Int):=by rw[Lib.index_one,aM d r h]
 have hn:Lib.replaceNum (d++46::r) [46] 1=1:=by
   have:1<=Lib.count (d++46::r) [46]:=by
     unfold Lib.count Lib.countFrom;rw[hi,if_neg (by simp)];omega
   unfold Lib.replaceNum;rw[if_neg (by omega)];rfl
 unfold Lib.replace;rw[if_neg (by decide),hn,Lib.replaceK_hit _ _ _ _ _ hi];unfold Lib.replaceK;simp
theorem aB{k a:Int}{l m:List UInt8}(hr:Lib.replace l [46] [] 1=m)(hl:l.length<=20)(h0:m≠[])(hm:m.length<=12)(h:∀c∈m,S5 c):∃z,Cr ⟨k,⟨l.toArray⟩,a⟩=some z/\0<=z/\z<=999999999999:=by
 obtain⟨z,h1,h2⟩:=XZ h0 hm h;refine⟨z,?_,h2⟩;unfold Cr
 have:JX ⟨l.toArray⟩ azC ByteArray.empty 1=some ⟨m.toArray⟩:=by
   unfold JX
   rw[if_pos ⟨by decide,by
     have:(ByteArray.empty).size=0:=rfl;have h2:(⟨l.toArray⟩:ByteArray).size=l.length:=by simp[ByteArray.size]
     rw[this,h2];omega⟩]
   have:(azC).data.toList=[46]:=rfl;rw[this];simp only[List.toList_toArray];rw[show(ByteArray.empty).data.toList=[] from rfl,hr]
 dsimp only;rw[this,Option.bind_some,h1];rfl
def asI(y m:Nat):Bool:=match Gg (2000+y) m,Ih (12*y+m) with
 | some n,some f=>Nat.ble 1 n.toNat&&(Nat.ble 0 f.toNat&&(decide (0<=n/\n<=31/\0<=f/\f+n<=36525)))
 | _,_=>false
theorem alB:((List.range 100).all λy=>(List.range 12).all λm=>asI y m)=true:=by kernel_rfl
theorem avD{y m:Nat}(hy:y < 100)(hm:m < 12):∃n f:Int,Gg (2000+y) m=some n/\Ih (12*y+m)=some f/\0<=n/\n<=31/\0<=f/\f+n<=36525:=by
 have h:=List.all_eq_true.1 (List.all_eq_true.1 alB y (List.mem_range.2 hy)) m (List.mem_range.2 hm);unfold asI at h;split at h;rename_i n f h1 h2;simp only[Bool.and_eq_true,decide_eq_true_eq] at h;exact⟨n,f,h1,h2,h.2.2.1,h.2.2.2.1,h.2.2.2.2.1,h.2.2.2.2.2⟩;cases h
theorem abJ(y m d:Int)(hy:0<=y/\y<=100000)(hm:0<=m/\m<=100000)(hd:0<=d/\d<=100000):∃z e,JG y m d=some (z,e)/\(e=0->0<=z/\z<=36524):=by
 have bad:∃z e,(some ((0:Int),(21:Int)):Option (Int×Int))=some (z,e)/\(e=0->0<=z/\z<=36524):=⟨0,21,rfl,λh=>by omega⟩;unfold JG;cases h1:Et y 2000;rotate_left;exact bad;cases h2:Et 2099 y;rotate_left;exact bad;cases h3:Et m 1;rotate_left;exact bad;cases h4:Et 12 m;rotate_left;exact bad;cases h5:Et d 1;rotate_left;exact bad;have h1:=K2 h1;have h2:=K2 h2;have h3:=K2 h3;have h4:=K2 h4;have h5:=K2 h5;obtain⟨n,f,a1,a2,a3,a4,a5,a6⟩:=avD (y:=(y - 2000).toNat) (m:=(m - 1).toNat) (by omega) (by omega);rw[show(2000:Int)+((y - 2000).toNat:Nat)=y by omega,show(((m - 1).toNat:Nat):Int)=m - 1 by omega] at a1;rw[show 12*(((y - 2000).toNat:Nat):Int)+(((m - 1).toNat:Nat):Int)=(y - 2000)*12+m - 1 by omega] at a2;dsimp only[cond];rw[KP (a:=m) (by omega),a1,Option.bind_some];cases h6:Et n d;have h6:=K2 h6;dsimp only;rw[KP (a:=y) (by omega),IQ (by omega),CJ (by omega),KP (by omega),a2,Option.bind_some];rw[CJ (by omega),KP (by omega)];exact⟨_,0,rfl,λ_=>by omega⟩;exact bad
theorem abQ{c:UInt8}(hc:S5 c):w64 (Nl .u8 (fN ((c.toNat:Nat):Int) 48))=(c.toNat:Int) - 48:=by
 have h1:=hc.1;have h2:=hc.2
 have e:Nl .u8 (fN ((c.toNat:Nat):Int) 48)=(c.toNat:Int) - 48:=by
   rw[fO,Vr];unfold IntKind.wrap;simp[IntKind.bits,IntKind.signed];omega
 rw[e];unfold w64;exact uZ (by omega)
section
variable {i:Nat} {c:UInt8} (h4:i≠4) (h7:i≠7) (hc:S5 c) {a b d:Int} (ha:0<=a/\a<=1000) (hb:0<=b/\b<=1000) (hd:0<=d/\d<=1000)
include h4 h7 hc
theorem cl0(ha:0<=a/\a<=1000):B5 i c 0 a b d=some (.nx (0,a*10+((c.toNat:Int) - 48),b,d)):=by
 have h1:=hc.1;have h2:=hc.2;unfold B5;rw[KZ (a:=(i:Int)) (b:=4) (by omega),KZ (a:=(i:Int)) (b:=7) (by omega),H5 (b:=48) (by omega),H5 (a:=57) (by omega),abQ hc];dsimp only[cond];rw[IQ (a:=a) (by omega),CJ (a:=a*10) (by omega)];rfl
theorem cl1(hb:0<=b/\b<=1000):B5 i c 1 a b d=some (.nx (1,a,b*10+((c.toNat:Int) - 48),d)):=by
 have h1:=hc.1;have h2:=hc.2;unfold B5;rw[KZ (a:=(i:Int)) (b:=4) (by omega),KZ (a:=(i:Int)) (b:=7) (by omega),H5 (b:=48) (by omega),H5 (a:=57) (by omega),abQ hc];dsimp only[cond];rw[IQ (a:=b) (by omega),CJ (a:=b*10) (by omega)];rfl
theorem cl2(hd:0<=d/\d<=1000):B5 i c 2 a b d=some (.nx (2,a,b,d*10+((c.toNat:Int) - 48))):=by
 have h1:=hc.1;have h2:=hc.2;unfold B5;rw[KZ (a:=(i:Int)) (b:=4) (by omega),KZ (a:=(i:Int)) (b:=7) (by omega),H5 (b:=48) (by omega),H5 (a:=57) (by omega),abQ hc];dsimp only[cond];rw[IQ (a:=d) (by omega),CJ (a:=d*10) (by omega)];rfl
end
abbrev clF:=CL (λi y (x:Int×Int×Int×Int)=>B5 i y x.1 x.2.1 x.2.2.1 x.2.2.2) (λx:Int×Int×Int×Int=>(x.2.1,x.2.2.1,x.2.2.2))
section
variable {i:Nat} {c:UInt8} (h4:i≠4) (h7:i≠7) (hc:S5 c) {a b d:Int} {l:List UInt8}
include h4 h7 hc
theorem fo0(ha:0<=a/\a<=1000):clF (c::l) i (0,a,b,d)=clF l (i+1) (0,a*10+((c.toNat:Int) - 48),b,d):=by
 show(B5 i c 0 a b d).bind _=_;rw[cl0 h4 h7 hc ha];rfl
theorem fo1(ha:0<=b/\b<=1000):clF (c::l) i (1,a,b,d)=clF l (i+1) (1,a,b*10+((c.toNat:Int) - 48),d):=by
 show(B5 i c 1 a b d).bind _=_;rw[cl1 h4 h7 hc ha];rfl
theorem fo2(ha:0<=d/\d<=1000):clF (c::l) i (2,a,b,d)=clF l (i+1) (2,a,b,d*10+((c.toNat:Int) - 48)):=by
 show(B5 i c 2 a b d).bind _=_;rw[cl2 h4 h7 hc ha];rfl
end
theorem fo4{l:List UInt8}{a b d:Int}:clF (45::l) (0+1+1+1+1) (0,a,b,d)=clF l (0+1+1+1+1+1) (1,a,b,d):=rfl
theorem fo7{l:List UInt8}{a b d:Int}:clF (45::l) (0+1+1+1+1+1+1+1) (1,a,b,d)=clF l (0+1+1+1+1+1+1+1+1) (2,a,b,d):=rfl
theorem vZ{c0 c1 c2 c3 c5 c6 c8 c9:UInt8}(h0:S5 c0)(h1:S5 c1)(h2:S5 c2)(h3:S5 c3)(h5:S5 c5)(h6:S5 c6)(h8:S5 c8)(h9:S5 c9) :
   ∃z e,Fs ⟨([c0,c1,c2,c3,45,c5,c6,45,c8,c9]:List UInt8).toArray⟩=some (z,e)/\(e=0->0<=z/\z<=36524):=by
 have b0:=h0;have b1:=h1;have b2:=h2;have b3:=h3;have b5:=h5;have b6:=h6;have b8:=h8;have b9:=h9;unfold S5 at b0 b1 b2 b3 b5 b6 b8 b9;obtain⟨z,e,hz,he⟩:=abJ ((((0*10+((c0.toNat:Int) - 48))*10+((c1.toNat:Int) - 48))*10+((c2.toNat:Int) - 48))*10+((c3.toNat:Int) - 48)) ((0*10+((c5.toNat:Int) - 48))*10+((c6.toNat:Int) - 48)) ((0*10+((c8.toNat:Int) - 48))*10+((c9.toNat:Int) - 48)) (by omega) (by omega) (by omega);refine⟨z,e,?_,he⟩;unfold Fs;rw[JK (by rfl)];dsimp only[cond]
 have key:CL (λi y x=>B5 i y x.1 x.2.1 x.2.2.1 x.2.2.2) (λx:Int×Int×Int×Int=>(x.2.1,x.2.2.1,x.2.2.2)) [c0,c1,c2,c3,45,c5,c6,45,c8,c9] 0 (0,0,0,0)=some (.inl ((((0*10+((c0.toNat:Int) - 48))*10+((c1.toNat:Int) - 48))*10+((c2.toNat:Int) - 48))*10+((c3.toNat:Int) - 48),(0*10+((c5.toNat:Int) - 48))*10+((c6.toNat:Int) - 48),(0*10+((c8.toNat:Int) - 48))*10+((c9.toNat:Int) - 48))):=by
   show clF [c0,c1,c2,c3,45,c5,c6,45,c8,c9] 0 (0,0,0,0)=_;rw[fo0 (by decide) (by decide) h0 (by omega)];rw[fo0 (by decide) (by decide) h1 (by omega)];rw[fo0 (by decide) (by decide) h2 (by omega)];rw[fo0 (by decide) (by decide) h3 (by omega)];rw[fo4];rw[fo1 (by decide) (by decide) h5 (by omega)];rw[fo1 (by decide) (by decide) h6 (by omega)];rw[fo7];rw[fo2 (by decide) (by decide) h8 (by omega)];rw[fo2 (by decide) (by decide) h9 (by omega)];rfl
 have hl:Rt ([c0,c1,c2,c3,45,c5,c6,45,c8,c9]:List UInt8).length=λy:Option ((Int×Int×Int)⊕(Int×Int))=>y:=funext λy=>if_pos (by simp);simp only[List.toList_toArray,List.drop_zero];rw[hl,key];dsimp only[Option.bind,LZ];rw[hz]
end Mo
end Go.Proofs.YtpbkhogolfegfaaGreatDoor
