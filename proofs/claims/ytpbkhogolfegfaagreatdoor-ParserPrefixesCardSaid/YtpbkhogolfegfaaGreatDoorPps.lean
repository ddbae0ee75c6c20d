/- Part of a proof: see the last text. -/
import Derived.Test.YtpbkhogolfegfaaGreatDoorPpr
set_option linter.unusedVariables false
set_option linter.unusedSimpArgs false
set_option linter.defProp false
noncomputable section
namespace Go.Proofs.YtpbkhogolfegfaaGreatDoor
open AI Go
namespace Mo
set_option maxRecDepth 100000
theorem iD:∀(n:Nat) (a b:Int),1<=a->0<=b->b < n->∃m,EM (λx:Int×Int=>Ec x.1 x.2) m (a,b)=some (.inl (nL n a b))/\1<=nL n a b/\nL n a b∣a/\nL n a b∣b:=by
 intro n
 induction n with
 | zero=>intro a b h1 h2 h3;omega
 | succ n ih =>
   intro a b h1 h2 h3;unfold nL;by_cases hb:b=0;rw[if_pos hb];subst hb;refine⟨1,?_,h1,Int.dvd_refl a,Int.dvd_zero a⟩;show(Ec a 0).bind _=_;rw[Ec,IQ rfl];rfl;rw[if_neg hb];obtain⟨m,h4,h5,h6,h7⟩:=ih b (a % b) (by omega) (Int.emod_nonneg a hb) (by have:=Int.emod_lt_of_pos a (show 0 < b by omega);omega);refine⟨m+1,?_,h5,?_,h6⟩;show(Ec a b).bind _=_;rw[Ec,Ku hb]
   have:Vl a b=some (a % b):=by
     unfold Vl fE;rw[if_neg hb,Int.tmod_eq_emod_of_nonneg (by omega)]
   dsimp only[cond];rw[this];exact h4;have:=Int.dvd_add h7 (Int.dvd_mul_of_dvd_left h6:_∣b*(a / b));rwa[Int.emod_add_mul_ediv] at this
theorem acB{a b g:Int}(h:acA a b=some g):CN a b=some g:=by
 unfold acA at h;split at h;rename_i hc;cases h;obtain⟨m,h1,_⟩:=iD (b.toNat+1) a b hc.1 hc.2 (by omega);unfold CN;rw[Ff h1];rfl;cases h
theorem acC{a b:Int}(ha:1<=a)(hb:0<=b):∃g,acA a b=some g/\1<=g/\g∣a/\g∣b:=by
 obtain⟨m,_,h1⟩:=iD (b.toNat+1) a b ha hb (by omega);exact⟨_,if_pos ⟨ha,hb⟩,h1⟩
section
variable {α β γ:Type} {ts:List Tk} {k:Nat} {en:Int} {r:α⊕Dg} {l:List Tk}
def Jv(ts:List Tk)(k:Nat)(X:Option ((α⊕Dg)×Int))(r:α⊕Dg)(l:List Tk):Prop:=∃k':Nat,k<=k'/\k'<=ts.length/\l=ts.drop k'/\X=some (r,(k':Int))
theorem Es(hk:k<=ts.length){q:α⊕Dg}{z:Int}(hz:z=(k:Int))(h:some (q,ts.drop k)=some (r,l)):Jv ts k (some (q,z)) r l:=by
 simp only[Option.some.injEq,Prod.mk.injEq] at h;exact⟨k,Nat.le_refl k,hk,h.2.symm,by rw[h.1,hz]⟩
theorem LL{k2:Nat}{X:Option ((α⊕Dg)×Int)}(h1:k<=k2)(h:Jv ts k2 X r l):Jv ts k X r l:=by
 obtain⟨k',a,b,c,d⟩:=h;exact⟨k',Nat.le_trans h1 a,b,c,d⟩
theorem BE{F1:Option ((γ⊕Dg)×Int)}{F2:(γ⊕Dg)×Int->Option ((α⊕Dg)×Int)}{m:Rd γ}{K:γ->Rd α}
   (h1:∀{r l},m (ts.drop k)=some (r,l)->Jv ts k F1 r l)
   (h2:∀a k',k<=k'->k'<=ts.length->K a (ts.drop k')=some (r,l)->Jv ts k' (F2 (.inl a,(k':Int))) r l)
   (h3:∀d z,F2 (.inr d,z)=some (.inr d,z)) (hS:Ct m K (ts.drop k)=some (r,l)):Jv ts k (F1.bind F2) r l:=by
 unfold Ct at hS;split at hS;cases hS;rename_i a s hm;obtain⟨k',a1,a2,rfl,a4⟩:=h1 hm;rw[a4];exact LL a1 (h2 _ _ a1 a2 hS);rename_i d s hm;obtain⟨k',a1,a2,rfl,a4⟩:=h1 hm;rw[a4,Option.bind_some,h3];simp only[Option.some.injEq,Prod.mk.injEq] at hS;exact⟨k',a1,a2,hS.2.symm,by rw[hS.1]⟩
theorem IT{X:Option γ}{K:γ->Rd α}{s:List Tk}(h:Li X K s=some (r,l)):∃a,X=some a/\K a s=some (r,l):=by
 unfold Li at h;split at h;cases h;exact⟨_,rfl,h⟩
theorem JK(ts:List Tk)(hk:k<=ts.length):(k=ts.length/\ts.drop k=[])\/∃t,k+1<=ts.length/\ts[k]?=some t/\ts.drop k=t::ts.drop (k+1):=by
 by_cases h:k < ts.length;exact .inr ⟨ts[k],h,List.getElem?_eq_getElem h,(List.drop_eq_getElem_cons h)⟩;exact .inl ⟨by omega,List.drop_eq_nil_of_le (by omega)⟩
theorem VG{F2:Tk⊕Dg->Option ((α⊕Dg)×Int)}{K:Tk->Rd α}(hk:k<=ts.length)
   (h2:∀t,k+1<=ts.length->ts.drop k=t::ts.drop (k+1)->K t (ts.drop k)=some (r,l)->Jv ts k (F2 (.inl t)) r l)
   (h3:∀d,F2 (.inr d)=some (.inr d,(k:Int))) (hS:TQ en K (ts.drop k)=some (r,l)):Jv ts k ((AF ⟨ts,k,en⟩).bind F2) r l:=by
 unfold TQ at hS;rcases JK ts hk with ⟨h1,mE⟩ | ⟨t,h1,mE,h3'⟩
 rw[mE] at hS;dsimp only at hS
 have:AF ⟨ts,k,en⟩=some (.inr ⟨72,en⟩):=by
   unfold AF;rw[Ys (by dsimp only;omega)];rfl
 rw[this,Option.bind_some,h3];simp only[Option.some.injEq,Prod.mk.injEq] at hS;exact⟨k,Nat.le_refl k,hk,by rw[mE,hS.2],by rw[hS.1]⟩;rw[h3'] at hS;dsimp only at hS
 have:AF ⟨ts,k,en⟩=some (.inl t):=by
   unfold AF;rw[UH (by dsimp only;omega)];dsimp only[cond];unfold G5;rw[if_pos (by omega),Int.toNat_natCast,mE];rfl
 rw[this,Option.bind_some];exact h2 t h1 h3' (by rw[h3'];exact hS)
theorem GQ(hk:k<=ts.length)(x:ByteArray):As ⟨ts,k,en⟩ x=some (H9 x (ts.drop k)):=by
 unfold As;rcases JK ts hk with ⟨h1,mE⟩ | ⟨t,h1,mE,h3'⟩
 rw[mE,Hh (by dsimp only;omega)];rfl;rw[h3',GJ (by dsimp only;omega)];dsimp only[cond];unfold G5;rw[if_pos (by omega),Int.toNat_natCast,mE];rfl
theorem YW{x:ByteArray}(hk:k<=ts.length)(h:H9 x (ts.drop k)=true):∃t,k+1<=ts.length/\ts.drop k=t::ts.drop (k+1):=by
 rcases JK ts hk with ⟨h1,mE⟩ | ⟨t,h1,mE,h3'⟩
 rw[mE] at h;cases h;exact⟨t,h1,h3'⟩
theorem Ey(D4:ts.length<=1000000)(hk:k<=ts.length):BC (k:Int) 1=((k+1:Nat):Int):=by
 rw[CY (by omega)];rfl
theorem ZD{K:Rd α}{t:Tk}(ht:ts.drop k=t::ts.drop (k+1))(h:Ue K (ts.drop k)=some (r,l)):K (ts.drop (k+1))=some (r,l):=by
 rw[ht] at h;exact h
theorem tF{F2:Bool->Option ((α⊕Dg)×Int)}{A B:Rd α}{x:ByteArray}(hk:k<=ts.length)
   (h1:k+1<=ts.length->A (ts.drop (k+1))=some (r,l)->Jv ts (k+1) (F2 true) r l) (h2:B (ts.drop k)=some (r,l)->Jv ts k (F2 false) r l)
   (hS:Om x A B (ts.drop k)=some (r,l)):Jv ts k ((As ⟨ts,k,en⟩ x).bind F2) r l:=by
 unfold Om at hS;rw[GQ hk,Option.bind_some];cases hx:H9 x (ts.drop k) with
 | true =>
   rw[hx] at hS;obtain⟨t,ht1,ht2⟩:=YW hk hx;exact LL (Nat.le_succ k) (h1 ht1 (ZD ht2 hS))
 | false =>
   rw[hx] at hS;exact h2 hS
end
section
variable {ts:List Tk} (D4:ts.length<=1000000) {en:Int}
include D4
theorem Q1(fits:Tk->Option Bool){k:Nat}(hk:k<=ts.length){r l}(hS:Lb en fits (ts.drop k)=some (r,l)) :
   Jv ts k ((AF ⟨ts,k,en⟩).bind λy1=>Sum.elim (λ(CJ:Tk)=>(fits CJ).bind λy2=>cond y2 (some ((Sum.inl CJ:(Tk⊕Dg)),(BC (k:Int) 1))) (some ((Sum.inr (⟨71,CJ.AH⟩:Dg):(Tk⊕Dg)),(k:Int)))) (λ(LY:Dg)=>some ((Sum.inr LY:(Tk⊕Dg)),(k:Int))) y1) r l:=by
 refine VG hk (λt h1 h2 hS=>?_) (λ_=>rfl) hS;obtain⟨b,hb,hS⟩:=IT hS;dsimp only[Sum.elim];rw[hb,Option.bind_some];cases b with
 | true =>
   have:=ZD h2 hS;rw[cond,Ey D4 hk];exact LL (Nat.le_succ k) (Es h1 rfl this)
 | false=>exact Es hk rfl hS
theorem IR(x:ByteArray){k:Nat}(hk:k<=ts.length){r l}(hS:I5 en x (ts.drop k)=some (r,l)):Jv ts k (Ak ⟨ts,k,en⟩ x) r l:=by
 obtain⟨k',a1,a2,a3,a4⟩:=Q1 D4 (λt=>Dv t x) hk hS;refine⟨k',a1,a2,a3,?_⟩;unfold Ak Gn;rw[a4,Option.bind_some];cases r<;>rfl
theorem aeS{k:Nat}(hk:k<=ts.length){r l}(hS:Z8 en (ts.drop k)=some (r,l)):Jv ts k (DD ⟨ts,k,en⟩) r l:=Q1 D4 Cw hk hS
theorem azT{k:Nat}(hk:k<=ts.length){r l}(hS:kY en (ts.drop k)=some (r,l)):Jv ts k (EI ⟨ts,k,en⟩) r l:=Q1 D4 Fb hk hS
theorem ayW{k:Nat}(hk:k<=ts.length){r l}(hS:aI en (ts.drop k)=some (r,l)):Jv ts k (F5 ⟨ts,k,en⟩) r l:=Q1 D4 BX hk hS
theorem jD{k:Nat}(hk:k<=ts.length){r l}(hS:Mh en (ts.drop k)=some (r,l)):Jv ts k (EV ⟨ts,k,en⟩) r l:=by
 refine BE (λh=>Q1 D4 Eo hk h) (λt k' h1 h2 hS=>?_) (λ_ _=>rfl) hS;obtain⟨n,hn,hS⟩:=IT hS;dsimp only[Sum.elim];rw[hn];exact Es h2 rfl hS
theorem O1(least:Int){k:Nat}(hk:k<=ts.length){r l}(hS:LH en least (ts.drop k)=some (r,l)):Jv ts k (AL ⟨ts,k,en⟩ least) r l:=by
 refine BE (λh=>jD D4 hk h) (λt k' h1 h2 hS=>?_) (λ_ _=>rfl) hS;dsimp only[Sum.elim];revert hS;cases DM t.1 least;cases DM 1000000 t.1<;>exact λhS=>Es h2 rfl hS
 exact λhS=>Es h2 rfl hS
theorem cI(least:Int){k:Nat}(hk:k<=ts.length){r l}(hS:Ra en least (ts.drop k)=some (r,l)):Jv ts k (DY ⟨ts,k,en⟩ least) r l:=by
 refine BE (λh=>Q1 D4 EU hk h) (λt k' h1 h2 hS=>?_) (λ_ _=>rfl) hS;obtain⟨n,hn,hS⟩:=IT hS;dsimp only[Sum.elim];rw[hn,Option.bind_some];revert hS;cases CS n.2 0;exact λhS=>Es h2 rfl hS;cases DM n.1 least<;>exact λhS=>Es h2 rfl hS
theorem avY{k:Nat}(hk:k<=ts.length){r l}(hS:Uz en (ts.drop k)=some (r,l)):Jv ts k (Ho ⟨ts,k,en⟩) r l:=by
 refine BE (λh=>IR D4 _ hk h) (λt k h hk hS=>?_) (λ_ _=>rfl) hS;refine BE (λh=>O1 D4 _ hk h) (λn k h hk hS=>?_) (λ_ _=>rfl) hS;refine BE (λh=>IR D4 _ hk h) (λ_ k h hk hS=>?_) (λ_ _=>rfl) hS;refine BE (λh=>cI D4 _ hk h) (λf k h hk hS=>?_) (λ_ _=>rfl) hS;refine tF hk (λhk1 hS=>?_) (λhS=>?_) hS;dsimp only[cond];rw[Ey D4 hk];refine BE (λh=>cI D4 _ hk1 h) (λu k h hk hS=>?_) (λ_ _=>rfl) hS;refine BE (λh=>IR D4 _ hk h) (λ_ k h hk hS=>?_) (λ_ _=>rfl) hS;refine BE (λh=>cI D4 _ hk h) (λf k h hk hS=>?_) (λ_ _=>rfl) hS;exact Es hk rfl hS;refine BE (λh=>IR D4 _ hk h) (λ_ k h hk hS=>?_) (λ_ _=>rfl) hS;refine BE (λh=>cI D4 _ hk h) (λf k h hk hS=>?_) (λ_ _=>rfl) hS;exact Es hk rfl hS
theorem aaZ{k:Nat}(hk:k<=ts.length){r l}(hS:OV en (ts.drop k)=some (r,l)):Jv ts k (DC ⟨ts,k,en⟩) r l:=by
 refine VG hk (λt h1 h2 hS=>?_) (λ_=>rfl) hS;have hS:=ZD h2 hS;dsimp only[Sum.elim];rw[Ey D4 hk];refine LL (Nat.le_succ k) ?_;refine BE (λh=>aeS D4 h1 h) (λm k h hk hS=>?_) (λ_ _=>rfl) hS;refine BE (λh=>IR D4 _ hk h) (λ_ k h hk hS=>?_) (λ_ _=>rfl) hS;refine BE (λh=>azT D4 hk h) (λu k h hk hS=>?_) (λ_ _=>rfl) hS;dsimp only[Sum.elim];revert hS;cases B2 t.text.data.toList N2.data.toList;intro hS;refine BE (λh=>IR D4 _ hk h) (λ_ k h hk hS=>?_) (λ_ _=>rfl) hS;exact Es hk rfl hS;intro hS;refine BE (λh=>ayW D4 hk h) (λq k h hk hS=>?_) (λ_ _=>rfl) hS;obtain⟨n,hn,hS⟩:=IT hS;dsimp only[Sum.elim];rw[hn,Option.bind_some];refine BE (λh=>IR D4 _ hk h) (λ_ k h hk hS=>?_) (λ_ _=>rfl) hS;exact Es hk rfl hS
theorem UK{k:Nat}(hk:k<=ts.length){r l}(hS:FK en (ts.drop k)=some (r,l)):Jv ts k (AP ⟨ts,k,en⟩) r l:=by
 refine BE (λh=>O1 D4 _ hk h) (λn k h hk hS=>?_) (λ_ _=>rfl) hS;exact Es hk rfl hS
theorem fB{k:Nat}(hk:k<=ts.length){r l}(hS:M6 en (ts.drop k)=some (r,l)):Jv ts k (BV ⟨ts,k,en⟩) r l:=by
 refine BE (λh=>Q1 D4 Dk hk h) (λt k' h1 h2 hS=>?_) (λ_ _=>rfl) hS;obtain⟨n,hn,hS⟩:=IT hS;dsimp only[Sum.elim];rw[hn,Option.bind_some];revert hS;cases CS t.kind 3;exact λhS=>Es h2 rfl hS;cases CS n 0<;>exact λhS=>Es h2 rfl hS
theorem agS{k:Nat}(hk:k<=ts.length){r l}(hS:US en (ts.drop k)=some (r,l)):Jv ts k (Cj ⟨ts,k,en⟩) r l:=by
 refine BE (λh=>Q1 D4 EY hk h) (λt k' h1 h2 hS=>?_) (λ_ _=>rfl) hS;dsimp only[Sum.elim];revert hS;cases B2 t.text.data.toList Lh.data.toList<;>exact λhS=>Es h2 rfl hS
end
end Mo
end Go.Proofs.YtpbkhogolfegfaaGreatDoor
namespace Go.Proofs.YtpbkhogolfegfaaGreatDoor
open AI Go
namespace Mo
set_option maxRecDepth 100000
section
variable {α β:Type} {ts:List Tk} {k:Nat} {en:Int} {r:α⊕Dg} {l:List Tk}
theorem QH(N:Nd):(⟨N.kind,N.name,N.unit,N.n,N.fr,N.to,N.known,⟨N.CV.den,N.CV.ps⟩,N.kids,N.AH⟩:Nd)=N:=by cases N;rfl
theorem IB{m:Rd β}{K:β->Rd α}{s:List Tk}(h:Ct m K s=some (r,l)):(∃a s',m s=some (.inl a,s')/\K a s'=some (r,l))\/∃d,m s=some (.inr d,l)/\r=.inr d:=by
 unfold Ct at h;split at h;cases h;rename_i a s' hm;exact .inl ⟨a,s',hm,h⟩;rename_i d s' hm;simp only[Option.some.injEq,Prod.mk.injEq] at h;exact .inr ⟨d,by rw[hm,h.2],h.1.symm⟩
theorem LM{A B:Rd α}{x:ByteArray}(hk:k<=ts.length)(h:Om x A B (ts.drop k)=some (r,l)) :
   (H9 x (ts.drop k)=true/\k+1<=ts.length/\A (ts.drop (k+1))=some (r,l))\/(H9 x (ts.drop k)=false/\B (ts.drop k)=some (r,l)):=by
 unfold Om at h;cases hx:H9 x (ts.drop k) with
 | true =>
   rw[hx] at h;obtain⟨t,ht1,ht2⟩:=YW hk hx;exact .inl ⟨rfl,ht1,ZD ht2 h⟩
 | false =>
   rw[hx] at h;exact .inr ⟨rfl,h⟩
theorem afA{K:Rd α}(hk:k<=ts.length)(h:Ue K (ts.drop k)=some (r,l)):k+1<=ts.length/\K (ts.drop (k+1))=some (r,l):=by
 rcases JK ts hk with ⟨h1,mE⟩ | ⟨t,h1,mE,h3'⟩
 rw[mE] at h;cases h;exact⟨h1,ZD h3' h⟩
theorem MB{n:Nat}{m:Rd α}{s:List Tk}(h:Ol n m s=some (r,l)):n<=100000000/\m s=some (r,l):=aeL h
theorem KB{a:β}{q:β⊕Dg}{s:List Tk}(h:FT a s=some (q,l)):q=.inl a/\l=s:=by
 simp only[FT,Option.some.injEq,Prod.mk.injEq] at h;exact⟨h.1.symm,h.2.symm⟩
theorem My{e p:Int}{s:List Tk}(h:LX e p s=some (r,l)):r=.inr ⟨e,p⟩/\l=s:=by
 simp only[LX,Option.some.injEq,Prod.mk.injEq] at h;exact⟨h.1.symm,h.2.symm⟩
theorem anD{yes:ByteArray->Rd α}{no:Rd α}(hk:k<=ts.length)(hS:jG yes no (opsOf 0) (ts.drop k)=some (r,l)) :
   (∃x,k+1<=ts.length/\De ⟨ts,k,en⟩=some (x,true)/\yes x (ts.drop (k+1))=some (r,l))\/(De ⟨ts,k,en⟩=some (bE,false)/\no (ts.drop k)=some (r,l)):=by
 unfold De;simp only[GQ hk,Option.bind_some];rcases LM hk hS with ⟨h0,h,hy⟩ | ⟨h0,hS⟩
 refine .inl ⟨_,h,?_,hy⟩;simp only[h0,cond_true,cond_false];refine .inr ⟨?_,hS⟩;simp only[h0,cond_false]
theorem anE{yes:ByteArray->Rd α}{no:Rd α}(hk:k<=ts.length)(hS:jG yes no (opsOf 1) (ts.drop k)=some (r,l)) :
   (∃x,k+1<=ts.length/\Df ⟨ts,k,en⟩=some (x,true)/\yes x (ts.drop (k+1))=some (r,l))\/(Df ⟨ts,k,en⟩=some (bE,false)/\no (ts.drop k)=some (r,l)):=by
 unfold Df;simp only[GQ hk,Option.bind_some];rcases LM hk hS with ⟨h0,h,hy⟩ | ⟨h0,hS⟩
 refine .inl ⟨_,h,?_,hy⟩;simp only[h0,cond_true,cond_false];refine .inr ⟨?_,hS⟩;simp only[h0,cond_false]
theorem anF{yes:ByteArray->Rd α}{no:Rd α}(hk:k<=ts.length)(hS:jG yes no (opsOf 3) (ts.drop k)=some (r,l)) :
   (∃x,k+1<=ts.length/\Dh ⟨ts,k,en⟩=some (x,true)/\yes x (ts.drop (k+1))=some (r,l))\/(Dh ⟨ts,k,en⟩=some (bE,false)/\no (ts.drop k)=some (r,l)):=by
 unfold Dh;simp only[GQ hk,Option.bind_some];rcases LM hk hS with ⟨h0,h,hy⟩ | ⟨h0,hS⟩
 refine .inl ⟨_,h,?_,hy⟩;simp only[h0,cond_true,cond_false];rcases LM hk hS with ⟨h1,h,hy⟩ | ⟨h1,hS⟩
 refine .inl ⟨_,h,?_,hy⟩;simp only[h0,h1,cond_true,cond_false];rcases LM hk hS with ⟨h2,h,hy⟩ | ⟨h2,hS⟩
 refine .inl ⟨_,h,?_,hy⟩;simp only[h0,h1,h2,cond_true,cond_false];rcases LM hk hS with ⟨h3,h,hy⟩ | ⟨h3,hS⟩
 refine .inl ⟨_,h,?_,hy⟩;simp only[h0,h1,h2,h3,cond_true,cond_false];rcases LM hk hS with ⟨h4,h,hy⟩ | ⟨h4,hS⟩
 refine .inl ⟨_,h,?_,hy⟩;simp only[h0,h1,h2,h3,h4,cond_true,cond_false];rcases LM hk hS with ⟨h5,h,hy⟩ | ⟨h5,hS⟩
 refine .inl ⟨_,h,?_,hy⟩;simp only[h0,h1,h2,h3,h4,h5,cond_true,cond_false];refine .inr ⟨?_,hS⟩;simp only[h0,h1,h2,h3,h4,h5,cond_false]
theorem anG{yes:ByteArray->Rd α}{no:Rd α}(hk:k<=ts.length)(hS:jG yes no (opsOf 4) (ts.drop k)=some (r,l)) :
   (∃x,k+1<=ts.length/\Di ⟨ts,k,en⟩=some (x,true)/\yes x (ts.drop (k+1))=some (r,l))\/(Di ⟨ts,k,en⟩=some (bE,false)/\no (ts.drop k)=some (r,l)):=by
 unfold Di;simp only[GQ hk,Option.bind_some];rcases LM hk hS with ⟨h0,h,hy⟩ | ⟨h0,hS⟩
 refine .inl ⟨_,h,?_,hy⟩;simp only[h0,cond_true,cond_false];rcases LM hk hS with ⟨h1,h,hy⟩ | ⟨h1,hS⟩
 refine .inl ⟨_,h,?_,hy⟩;simp only[h0,h1,cond_true,cond_false];refine .inr ⟨?_,hS⟩;simp only[h0,h1,cond_false]
theorem anH{yes:ByteArray->Rd α}{no:Rd α}(hk:k<=ts.length)(hS:jG yes no (opsOf 5) (ts.drop k)=some (r,l)) :
   (∃x,k+1<=ts.length/\Dj ⟨ts,k,en⟩=some (x,true)/\yes x (ts.drop (k+1))=some (r,l))\/(Dj ⟨ts,k,en⟩=some (bE,false)/\no (ts.drop k)=some (r,l)):=by
 unfold Dj;simp only[GQ hk,Option.bind_some];rcases LM hk hS with ⟨h0,h,hy⟩ | ⟨h0,hS⟩
 refine .inl ⟨_,h,?_,hy⟩;simp only[h0,cond_true,cond_false];rcases LM hk hS with ⟨h1,h,hy⟩ | ⟨h1,hS⟩
 refine .inl ⟨_,h,?_,hy⟩;simp only[h0,h1,cond_true,cond_false];rcases LM hk hS with ⟨h2,h,hy⟩ | ⟨h2,hS⟩
 refine .inl ⟨_,h,?_,hy⟩;simp only[h0,h1,h2,cond_true,cond_false];refine .inr ⟨?_,hS⟩;simp only[h0,h1,h2,cond_false]
end
structure Agr(R:Ad)(ts:List Tk)(en:Int)(g:Ek->Rd Nd)(li:Rd (List Nd)):Prop where
 ex:∀{k:Nat},k<=ts.length->∀{r l},g .ex (ts.drop k)=some (r,l)->Jv ts k (R.AO ⟨ts,k,en⟩) r l
 l0:∀{k:Nat},k<=ts.length->∀{r l},g (.lv 0) (ts.drop k)=some (r,l)->Jv ts k (R.Ei ⟨ts,k,en⟩) r l
 l1:∀{k:Nat},k<=ts.length->∀{r l},g (.lv 1) (ts.drop k)=some (r,l)->Jv ts k (R.B8 ⟨ts,k,en⟩) r l
 l2:∀{k:Nat},k<=ts.length->∀{r l},g (.lv 2) (ts.drop k)=some (r,l)->Jv ts k (R.BG ⟨ts,k,en⟩) r l
 l3:∀{k:Nat},k<=ts.length->∀{r l},g (.lv 3) (ts.drop k)=some (r,l)->Jv ts k (R.CF ⟨ts,k,en⟩) r l
 l4:∀{k:Nat},k<=ts.length->∀{r l},g (.lv 4) (ts.drop k)=some (r,l)->Jv ts k (R.CG ⟨ts,k,en⟩) r l
 l5:∀{k:Nat},k<=ts.length->∀{r l},g (.lv 5) (ts.drop k)=some (r,l)->Jv ts k (R.Ca ⟨ts,k,en⟩) r l
 l6:∀{k:Nat},k<=ts.length->∀{r l},g (.lv 6) (ts.drop k)=some (r,l)->Jv ts k (R.Cb ⟨ts,k,en⟩) r l
 at_:∀{k:Nat},k<=ts.length->∀{r l},g .at_ (ts.drop k)=some (r,l)->Jv ts k (R.Fv ⟨ts,k,en⟩) r l
 wd:∀(t:Tk) {k:Nat},k<=ts.length->∀{r l},g (.wd t) (ts.drop k)=some (r,l)->Jv ts k (R.Fx ⟨ts,k,en⟩ t) r l
 ca:∀{k:Nat},k<=ts.length->∀{r l},g .ca (ts.drop k)=some (r,l)->Jv ts k (R.Dr ⟨ts,k,en⟩) r l
 ta:∀{k:Nat},k<=ts.length->∀{r l},g .ta (ts.drop k)=some (r,l)->Jv ts k (R.E7 ⟨ts,k,en⟩) r l
 li:∀{k:Nat},k<=ts.length->∀{r l},li (ts.drop k)=some (r,l)->Jv ts k (R.DO ⟨ts,k,en⟩) r l
section
variable {ts:List Tk} (D4:ts.length<=1000000) {en:Int}
include D4
theorem NB{sub:Rd Nd}{F:Pr->Option ((Nd⊕Dg)×Int)}{k:Nat}(hk:k<=ts.length)(Lv:∀{r l},sub (ts.drop k)=some (r,l)->Jv ts k (F ⟨ts,k,en⟩) r l){x:ByteArray}{N:Nd}{r l}(hS:Pz en sub x N (ts.drop k)=some (r,l)) :
   ∃k':Nat,k<=k'/\k'<=ts.length/\l=ts.drop k'/\((∃n b,cond (B2 x.data.toList EC.data.toList) (AP ⟨ts,k,en⟩) (F ⟨ts,k,en⟩)=some (.inl n,(k':Int))/\Bl x N n=some b/\r=.inl b)\/∃d,cond (B2 x.data.toList EC.data.toList) (AP ⟨ts,k,en⟩) (F ⟨ts,k,en⟩)=some (.inr d,(k':Int))/\r=.inr d):=by
 have key:∀{r l},(cond (B2 x.data.toList EC.data.toList) (FK en) sub) (ts.drop k)=some (r,l)->Jv ts k (cond (B2 x.data.toList EC.data.toList) (AP ⟨ts,k,en⟩) (F ⟨ts,k,en⟩)) r l:=by
   intro r l h;revert h;cases B2 x.data.toList EC.data.toList;exact λh=>Lv h;exact λh=>UK D4 hk h
 rcases IB hS with ⟨n,s',h1,h2⟩ | ⟨d,h1,h2⟩
 obtain⟨b,hb,h2⟩:=IT h2;obtain⟨rfl,rfl⟩:=KB h2;obtain⟨k',a1,a2,a3,a4⟩:=key h1;exact⟨k',a1,a2,a3,.inl ⟨n,b,a4,hb,rfl⟩⟩;obtain⟨k',a1,a2,a3,a4⟩:=key h1;exact⟨k',a1,a2,a3,.inr ⟨d,a4,h2⟩⟩
theorem aaL{R:Ad}{sub:Rd Nd}(Lv:∀{k:Nat},k<=ts.length->∀{r l},sub (ts.drop k)=some (r,l)->Jv ts k (R.B8 ⟨ts,k,en⟩) r l)(k0:Int) :
   ∀(q:Nat) (N:Nd) (k:Nat) (r:Nd⊕Dg) (l:List Tk),k<=ts.length->I4 en (opsOf 0) sub q N (ts.drop k)=some (r,l) ->
   ∃k':Nat,k<=k'/\k'<=ts.length/\l=ts.drop k'/\∃n,EM (λx=>Bw R ⟨ts,k0,en⟩ x.1 x.2.1 x.2.2.1 x.2.2.2.1 x.2.2.2.2.1 x.2.2.2.2.2.1 x.2.2.2.2.2.2.1 x.2.2.2.2.2.2.2.1 x.2.2.2.2.2.2.2.2.1 x.2.2.2.2.2.2.2.2.2.1 x.2.2.2.2.2.2.2.2.2.2.1 x.2.2.2.2.2.2.2.2.2.2.2) n (N.kind,N.name,N.unit,N.n,N.fr,N.to,N.known,N.CV.den,N.CV.ps,N.kids,N.AH,(k:Int))=some (.inr (r,(k':Int))):=by
 intro q
 induction q with
 | zero=>intro N k r l hk hS;cases hS
 | succ q ih =>
   intro N k r l hk hS;rcases anD (en:=en) hk hS with ⟨x,h1,h2,hS⟩ | ⟨h2,hS⟩
   rcases IB hS with ⟨b,s',h3,h4⟩ | ⟨d,h3,rfl⟩
   obtain⟨k',a1,a2,rfl,⟨n,b',hX,hb,hr⟩ | ⟨d,hX,hr⟩⟩:=NB D4 h1 (λh=>Lv h1 h) h3;cases hr;obtain⟨k2,b1,b2,b3,m,b4⟩:=ih b k' r l a2 h4;refine⟨k2,by omega,b2,b3,m+1,?_⟩
   have hL:Bw R ⟨ts,k0,en⟩ N.kind N.name N.unit N.n N.fr N.to N.known N.CV.den N.CV.ps N.kids N.AH (k:Int)=some (.nx (b.kind,b.name,b.unit,b.n,b.fr,b.to,b.known,b.CV.den,b.CV.ps,b.kids,b.AH,(k':Int))):=by
     unfold Bw;dsimp only;rw[h2];dsimp only[Option.bind,cond];rw[Ey D4 hk];cases hE:B2 x.data.toList EC.data.toList <;>
     · rw[hE] at hX;dsimp only[cond] at hX;dsimp only
       rw[hX];dsimp only[Sum.elim];rw[QH,hb]
   show(Bw R ⟨ts,k0,en⟩ N.kind N.name N.unit N.n N.fr N.to N.known N.CV.den N.CV.ps N.kids N.AH (k:Int)).bind _=_;rw[hL];exact b4;cases hr;obtain⟨k',a1,a2,rfl,⟨n,b',hX,hb,hr⟩ | ⟨d',hX,hr⟩⟩:=NB D4 h1 (λh=>Lv h1 h) h3;cases hr;cases hr;refine⟨k',by omega,a2,rfl,1,?_⟩
   have hL:Bw R ⟨ts,k0,en⟩ N.kind N.name N.unit N.n N.fr N.to N.known N.CV.den N.CV.ps N.kids N.AH (k:Int)=some (.rt (.inr d,(k':Int))):=by
     unfold Bw;dsimp only;rw[h2];dsimp only[Option.bind,cond];rw[Ey D4 hk];cases hE:B2 x.data.toList EC.data.toList <;>
     · rw[hE] at hX;dsimp only[cond] at hX;dsimp only
       rw[hX];rfl
   show(Bw R ⟨ts,k0,en⟩ N.kind N.name N.unit N.n N.fr N.to N.known N.CV.den N.CV.ps N.kids N.AH (k:Int)).bind _=_;rw[hL];rfl;obtain⟨rfl,rfl⟩:=KB hS;refine⟨k,Nat.le_refl k,hk,rfl,1,?_⟩
   have hL:Bw R ⟨ts,k0,en⟩ N.kind N.name N.unit N.n N.fr N.to N.known N.CV.den N.CV.ps N.kids N.AH (k:Int)=some (.rt (.inl N,(k:Int))):=by
     unfold Bw;dsimp only;rw[h2,QH];rfl
   show(Bw R ⟨ts,k0,en⟩ N.kind N.name N.unit N.n N.fr N.to N.known N.CV.den N.CV.ps N.kids N.AH (k:Int)).bind _=_;rw[hL];rfl
theorem aeE{R:Ad}{g:Ek->Rd Nd}(Lv:∀{k:Nat},k<=ts.length->∀{r l},g (.lv 1) (ts.drop k)=some (r,l)->Jv ts k (R.B8 ⟨ts,k,en⟩) r l){k:Nat}(hk:k<=ts.length){r l}(hS:MY en g 0 (ts.drop k)=some (r,l)) :
   Jv ts k (FY R ⟨ts,k,en⟩) r l:=by
 refine BE (λh=>Lv hk h) (λN k' h1 h2 hS=>?_) (λ_ _=>rfl) hS;obtain⟨k2,a1,a2,a3,n,a4⟩:=aaL D4 Lv (k:Int) _ N k' r l h2 hS;refine⟨k2,a1,a2,a3,?_⟩;dsimp only[Sum.elim];rw[Ff a4];rfl
theorem aaM{R:Ad}{sub:Rd Nd}(Lv:∀{k:Nat},k<=ts.length->∀{r l},sub (ts.drop k)=some (r,l)->Jv ts k (R.BG ⟨ts,k,en⟩) r l)(k0:Int) :
   ∀(q:Nat) (N:Nd) (k:Nat) (r:Nd⊕Dg) (l:List Tk),k<=ts.length->I4 en (opsOf 1) sub q N (ts.drop k)=some (r,l) ->
   ∃k':Nat,k<=k'/\k'<=ts.length/\l=ts.drop k'/\∃n,EM (λx=>By R ⟨ts,k0,en⟩ x.1 x.2.1 x.2.2.1 x.2.2.2.1 x.2.2.2.2.1 x.2.2.2.2.2.1 x.2.2.2.2.2.2.1 x.2.2.2.2.2.2.2.1 x.2.2.2.2.2.2.2.2.1 x.2.2.2.2.2.2.2.2.2.1 x.2.2.2.2.2.2.2.2.2.2.1 x.2.2.2.2.2.2.2.2.2.2.2) n (N.kind,N.name,N.unit,N.n,N.fr,N.to,N.known,N.CV.den,N.CV.ps,N.kids,N.AH,(k:Int))=some (.inr (r,(k':Int))):=by
 intro q
 induction q with
 | zero=>intro N k r l hk hS;cases hS
 | succ q ih =>
   intro N k r l hk hS;rcases anE (en:=en) hk hS with ⟨x,h1,h2,hS⟩ | ⟨h2,hS⟩
   rcases IB hS with ⟨b,s',h3,h4⟩ | ⟨d,h3,rfl⟩
   obtain⟨k',a1,a2,rfl,⟨n,b',hX,hb,hr⟩ | ⟨d,hX,hr⟩⟩:=NB D4 h1 (λh=>Lv h1 h) h3;cases hr;obtain⟨k2,b1,b2,b3,m,b4⟩:=ih b k' r l a2 h4;refine⟨k2,by omega,b2,b3,m+1,?_⟩
   have hL:By R ⟨ts,k0,en⟩ N.kind N.name N.unit N.n N.fr N.to N.known N.CV.den N.CV.ps N.kids N.AH (k:Int)=some (.nx (b.kind,b.name,b.unit,b.n,b.fr,b.to,b.known,b.CV.den,b.CV.ps,b.kids,b.AH,(k':Int))):=by
     unfold By;dsimp only;rw[h2];dsimp only[Option.bind,cond];rw[Ey D4 hk];cases hE:B2 x.data.toList EC.data.toList <;>
     · rw[hE] at hX;dsimp only[cond] at hX;dsimp only
       rw[hX];dsimp only[Sum.elim];rw[QH,hb]
   show(By R ⟨ts,k0,en⟩ N.kind N.name N.unit N.n N.fr N.to N.known N.CV.den N.CV.ps N.kids N.AH (k:Int)).bind _=_;rw[hL];exact b4;cases hr;obtain⟨k',a1,a2,rfl,⟨n,b',hX,hb,hr⟩ | ⟨d',hX,hr⟩⟩:=NB D4 h1 (λh=>Lv h1 h) h3;cases hr;cases hr;refine⟨k',by omega,a2,rfl,1,?_⟩
   have hL:By R ⟨ts,k0,en⟩ N.kind N.name N.unit N.n N.fr N.to N.known N.CV.den N.CV.ps N.kids N.AH (k:Int)=some (.rt (.inr d,(k':Int))):=by
     unfold By;dsimp only;rw[h2];dsimp only[Option.bind,cond];rw[Ey D4 hk];cases hE:B2 x.data.toList EC.data.toList <;>
     · rw[hE] at hX;dsimp only[cond] at hX;dsimp only
       rw[hX];rfl
   show(By R ⟨ts,k0,en⟩ N.kind N.name N.unit N.n N.fr N.to N.known N.CV.den N.CV.ps N.kids N.AH (k:Int)).bind _=_;rw[hL];rfl;obtain⟨rfl,rfl⟩:=KB hS;refine⟨k,Nat.le_refl k,hk,rfl,1,?_⟩
   have hL:By R ⟨ts,k0,en⟩ N.kind N.name N.unit N.n N.fr N.to N.known N.CV.den N.CV.ps N.kids N.AH (k:Int)=some (.rt (.inl N,(k:Int))):=by
     unfold By;dsimp only;rw[h2,QH];rfl
   show(By R ⟨ts,k0,en⟩ N.kind N.name N.unit N.n N.fr N.to N.known N.CV.den N.CV.ps N.kids N.AH (k:Int)).bind _=_;rw[hL];rfl
theorem aeF{R:Ad}{g:Ek->Rd Nd}(Lv:∀{k:Nat},k<=ts.length->∀{r l},g (.lv 2) (ts.drop k)=some (r,l)->Jv ts k (R.BG ⟨ts,k,en⟩) r l){k:Nat}(hk:k<=ts.length){r l}(hS:MY en g 1 (ts.drop k)=some (r,l)) :
   Jv ts k (FZ R ⟨ts,k,en⟩) r l:=by
 refine BE (λh=>Lv hk h) (λN k' h1 h2 hS=>?_) (λ_ _=>rfl) hS;obtain⟨k2,a1,a2,a3,n,a4⟩:=aaM D4 Lv (k:Int) _ N k' r l h2 hS;refine⟨k2,a1,a2,a3,?_⟩;dsimp only[Sum.elim];rw[Ff a4];rfl
theorem aaN{R:Ad}{sub:Rd Nd}(Lv:∀{k:Nat},k<=ts.length->∀{r l},sub (ts.drop k)=some (r,l)->Jv ts k (R.Ca ⟨ts,k,en⟩) r l)(k0:Int) :
   ∀(q:Nat) (N:Nd) (k:Nat) (r:Nd⊕Dg) (l:List Tk),k<=ts.length->I4 en (opsOf 4) sub q N (ts.drop k)=some (r,l) ->
   ∃k':Nat,k<=k'/\k'<=ts.length/\l=ts.drop k'/\∃n,EM (λx=>Bz R ⟨ts,k0,en⟩ x.1 x.2.1 x.2.2.1 x.2.2.2.1 x.2.2.2.2.1 x.2.2.2.2.2.1 x.2.2.2.2.2.2.1 x.2.2.2.2.2.2.2.1 x.2.2.2.2.2.2.2.2.1 x.2.2.2.2.2.2.2.2.2.1 x.2.2.2.2.2.2.2.2.2.2.1 x.2.2.2.2.2.2.2.2.2.2.2) n (N.kind,N.name,N.unit,N.n,N.fr,N.to,N.known,N.CV.den,N.CV.ps,N.kids,N.AH,(k:Int))=some (.inr (r,(k':Int))):=by
 intro q
 induction q with
 | zero=>intro N k r l hk hS;cases hS
 | succ q ih =>
   intro N k r l hk hS;rcases anG (en:=en) hk hS with ⟨x,h1,h2,hS⟩ | ⟨h2,hS⟩
   rcases IB hS with ⟨b,s',h3,h4⟩ | ⟨d,h3,rfl⟩
   obtain⟨k',a1,a2,rfl,⟨n,b',hX,hb,hr⟩ | ⟨d,hX,hr⟩⟩:=NB D4 h1 (λh=>Lv h1 h) h3;cases hr;obtain⟨k2,b1,b2,b3,m,b4⟩:=ih b k' r l a2 h4;refine⟨k2,by omega,b2,b3,m+1,?_⟩
   have hL:Bz R ⟨ts,k0,en⟩ N.kind N.name N.unit N.n N.fr N.to N.known N.CV.den N.CV.ps N.kids N.AH (k:Int)=some (.nx (b.kind,b.name,b.unit,b.n,b.fr,b.to,b.known,b.CV.den,b.CV.ps,b.kids,b.AH,(k':Int))):=by
     unfold Bz;dsimp only;rw[h2];dsimp only[Option.bind,cond];rw[Ey D4 hk];cases hE:B2 x.data.toList EC.data.toList <;>
     · rw[hE] at hX;dsimp only[cond] at hX;dsimp only
       rw[hX];dsimp only[Sum.elim];rw[QH,hb]
   show(Bz R ⟨ts,k0,en⟩ N.kind N.name N.unit N.n N.fr N.to N.known N.CV.den N.CV.ps N.kids N.AH (k:Int)).bind _=_;rw[hL];exact b4;cases hr;obtain⟨k',a1,a2,rfl,⟨n,b',hX,hb,hr⟩ | ⟨d',hX,hr⟩⟩:=NB D4 h1 (λh=>Lv h1 h) h3;cases hr;cases hr;refine⟨k',by omega,a2,rfl,1,?_⟩
   have hL:Bz R ⟨ts,k0,en⟩ N.kind N.name N.unit N.n N.fr N.to N.known N.CV.den N.CV.ps N.kids N.AH (k:Int)=some (.rt (.inr d,(k':Int))):=by
     unfold Bz;dsimp only;rw[h2];dsimp only[Option.bind,cond];rw[Ey D4 hk];cases hE:B2 x.data.toList EC.data.toList <;>
     · rw[hE] at hX;dsimp only[cond] at hX;dsimp only
       rw[hX];rfl
   show(Bz R ⟨ts,k0,en⟩ N.kind N.name N.unit N.n N.fr N.to N.known N.CV.den N.CV.ps N.kids N.AH (k:Int)).bind _=_;rw[hL];rfl;obtain⟨rfl,rfl⟩:=KB hS;refine⟨k,Nat.le_refl k,hk,rfl,1,?_⟩
   have hL:Bz R ⟨ts,k0,en⟩ N.kind N.name N.unit N.n N.fr N.to N.known N.CV.den N.CV.ps N.kids N.AH (k:Int)=some (.rt (.inl N,(k:Int))):=by
     unfold Bz;dsimp only;rw[h2,QH];rfl
   show(Bz R ⟨ts,k0,en⟩ N.kind N.name N.unit N.n N.fr N.to N.known N.CV.den N.CV.ps N.kids N.AH (k:Int)).bind _=_;rw[hL];rfl
theorem aeG{R:Ad}{g:Ek->Rd Nd}(Lv:∀{k:Nat},k<=ts.length->∀{r l},g (.lv 5) (ts.drop k)=some (r,l)->Jv ts k (R.Ca ⟨ts,k,en⟩) r l){k:Nat}(hk:k<=ts.length){r l}(hS:MY en g 4 (ts.drop k)=some (r,l)) :
   Jv ts k (F3 R ⟨ts,k,en⟩) r l:=by
 refine BE (λh=>Lv hk h) (λN k' h1 h2 hS=>?_) (λ_ _=>rfl) hS;obtain⟨k2,a1,a2,a3,n,a4⟩:=aaN D4 Lv (k:Int) _ N k' r l h2 hS;refine⟨k2,a1,a2,a3,?_⟩;dsimp only[Sum.elim];rw[Ff a4];rfl
theorem aaO{R:Ad}{sub:Rd Nd}(Lv:∀{k:Nat},k<=ts.length->∀{r l},sub (ts.drop k)=some (r,l)->Jv ts k (R.Cb ⟨ts,k,en⟩) r l)(k0:Int) :
   ∀(q:Nat) (N:Nd) (k:Nat) (r:Nd⊕Dg) (l:List Tk),k<=ts.length->I4 en (opsOf 5) sub q N (ts.drop k)=some (r,l) ->
   ∃k':Nat,k<=k'/\k'<=ts.length/\l=ts.drop k'/\∃n,EM (λx=>BA R ⟨ts,k0,en⟩ x.1 x.2.1 x.2.2.1 x.2.2.2.1 x.2.2.2.2.1 x.2.2.2.2.2.1 x.2.2.2.2.2.2.1 x.2.2.2.2.2.2.2.1 x.2.2.2.2.2.2.2.2.1 x.2.2.2.2.2.2.2.2.2.1 x.2.2.2.2.2.2.2.2.2.2.1 x.2.2.2.2.2.2.2.2.2.2.2) n (N.kind,N.name,N.unit,N.n,N.fr,N.to,N.known,N.CV.den,N.CV.ps,N.kids,N.AH,(k:Int))=some (.inr (r,(k':Int))):=by
 intro q
 induction q with
 | zero=>intro N k r l hk hS;cases hS
 | succ q ih =>
   intro N k r l hk hS;rcases anH (en:=en) hk hS with ⟨x,h1,h2,hS⟩ | ⟨h2,hS⟩
   rcases IB hS with ⟨b,s',h3,h4⟩ | ⟨d,h3,rfl⟩
   obtain⟨k',a1,a2,rfl,⟨n,b',hX,hb,hr⟩ | ⟨d,hX,hr⟩⟩:=NB D4 h1 (λh=>Lv h1 h) h3;cases hr;obtain⟨k2,b1,b2,b3,m,b4⟩:=ih b k' r l a2 h4;refine⟨k2,by omega,b2,b3,m+1,?_⟩
   have hL:BA R ⟨ts,k0,en⟩ N.kind N.name N.unit N.n N.fr N.to N.known N.CV.den N.CV.ps N.kids N.AH (k:Int)=some (.nx (b.kind,b.name,b.unit,b.n,b.fr,b.to,b.known,b.CV.den,b.CV.ps,b.kids,b.AH,(k':Int))):=by
     unfold BA;dsimp only;rw[h2];dsimp only[Option.bind,cond];rw[Ey D4 hk];cases hE:B2 x.data.toList EC.data.toList <;>
     · rw[hE] at hX;dsimp only[cond] at hX;dsimp only
       rw[hX];dsimp only[Sum.elim];rw[QH,hb]
   show(BA R ⟨ts,k0,en⟩ N.kind N.name N.unit N.n N.fr N.to N.known N.CV.den N.CV.ps N.kids N.AH (k:Int)).bind _=_;rw[hL];exact b4;cases hr;obtain⟨k',a1,a2,rfl,⟨n,b',hX,hb,hr⟩ | ⟨d',hX,hr⟩⟩:=NB D4 h1 (λh=>Lv h1 h) h3;cases hr;cases hr;refine⟨k',by omega,a2,rfl,1,?_⟩
   have hL:BA R ⟨ts,k0,en⟩ N.kind N.name N.unit N.n N.fr N.to N.known N.CV.den N.CV.ps N.kids N.AH (k:Int)=some (.rt (.inr d,(k':Int))):=by
     unfold BA;dsimp only;rw[h2];dsimp only[Option.bind,cond];rw[Ey D4 hk];cases hE:B2 x.data.toList EC.data.toList <;>
     · rw[hE] at hX;dsimp only[cond] at hX;dsimp only
       rw[hX];rfl
   show(BA R ⟨ts,k0,en⟩ N.kind N.name N.unit N.n N.fr N.to N.known N.CV.den N.CV.ps N.kids N.AH (k:Int)).bind _=_;rw[hL];rfl;obtain⟨rfl,rfl⟩:=KB hS;refine⟨k,Nat.le_refl k,hk,rfl,1,?_⟩
   have hL:BA R ⟨ts,k0,en⟩ N.kind N.name N.unit N.n N.fr N.to N.known N.CV.den N.CV.ps N.kids N.AH (k:Int)=some (.rt (.inl N,(k:Int))):=by
     unfold BA;dsimp only;rw[h2,QH];rfl
   show(BA R ⟨ts,k0,en⟩ N.kind N.name N.unit N.n N.fr N.to N.known N.CV.den N.CV.ps N.kids N.AH (k:Int)).bind _=_;rw[hL];rfl
theorem aeH{R:Ad}{g:Ek->Rd Nd}(Lv:∀{k:Nat},k<=ts.length->∀{r l},g (.lv 6) (ts.drop k)=some (r,l)->Jv ts k (R.Cb ⟨ts,k,en⟩) r l){k:Nat}(hk:k<=ts.length){r l}(hS:MY en g 5 (ts.drop k)=some (r,l)) :
   Jv ts k (F4 R ⟨ts,k,en⟩) r l:=by
 refine BE (λh=>Lv hk h) (λN k' h1 h2 hS=>?_) (λ_ _=>rfl) hS;obtain⟨k2,a1,a2,a3,n,a4⟩:=aaO D4 Lv (k:Int) _ N k' r l h2 hS;refine⟨k2,a1,a2,a3,?_⟩;dsimp only[Sum.elim];rw[Ff a4];rfl
end
end Mo
end Go.Proofs.YtpbkhogolfegfaaGreatDoor
namespace Go.Proofs.YtpbkhogolfegfaaGreatDoor
open AI Go
namespace Mo
set_option maxRecDepth 100000
section
variable {α β γ:Type} {ts:List Tk} {k:Nat} {en:Int} {l:List Tk}
def bO(ts:List Tk)(k:Nat)(X:Option ((Pt⊕Dg)×Int×Int))(r:(Pt×Int)⊕Dg)(l:List Tk):Prop:=∃k':Nat,k<=k'/\k'<=ts.length/\l=ts.drop k'/\match r with
 | .inl x=>X=some (.inl x.1,(k':Int),x.2)
 | .inr d=>∃c,X=some (.inr d,(k':Int),c)
variable {r:(Pt×Int)⊕Dg}
theorem tE{k2:Nat}{X:Option ((Pt⊕Dg)×Int×Int)}(h1:k<=k2)(h:bO ts k2 X r l):bO ts k X r l:=by
 obtain⟨k',a,b,c,d⟩:=h;exact⟨k',Nat.le_trans h1 a,b,c,d⟩
theorem IW{F1:Option ((γ⊕Dg)×Int)}{F2:(γ⊕Dg)×Int->Option ((Pt⊕Dg)×Int×Int)}{m:Rd γ}{K:γ->Rd (Pt×Int)}
   (h1:∀{r l},m (ts.drop k)=some (r,l)->Jv ts k F1 r l)
   (h2:∀a k',k<=k'->k'<=ts.length->K a (ts.drop k')=some (r,l)->bO ts k' (F2 (.inl a,(k':Int))) r l)
   (h3:∀d z,∃c,F2 (.inr d,z)=some (.inr d,z,c)) (hS:Ct m K (ts.drop k)=some (r,l)):bO ts k (F1.bind F2) r l:=by
 rcases IB hS with ⟨a,s',hm,hS⟩ | ⟨d,hm,rfl⟩
 obtain⟨k',a1,a2,rfl,a4⟩:=h1 hm;rw[a4];exact tE a1 (h2 _ _ a1 a2 hS);obtain⟨k',a1,a2,a3,a4⟩:=h1 hm;obtain⟨c,hc⟩:=h3 d k';exact⟨k',a1,a2,a3,c,by rw[a4,Option.bind_some,hc]⟩
theorem afR{F2:Bool->Option ((Pt⊕Dg)×Int×Int)}{A B:Rd (Pt×Int)}{x:ByteArray}(hk:k<=ts.length)
   (h1:k+1<=ts.length->A (ts.drop (k+1))=some (r,l)->bO ts (k+1) (F2 true) r l) (h2:B (ts.drop k)=some (r,l)->bO ts k (F2 false) r l)
   (hS:Om x A B (ts.drop k)=some (r,l)):bO ts k ((As ⟨ts,k,en⟩ x).bind F2) r l:=by
 rw[GQ hk,Option.bind_some];rcases LM hk hS with ⟨h,h3,hS⟩ | ⟨h,hS⟩
 rw[h];exact tE (Nat.le_succ k) (h1 h3 hS);rw[h];exact h2 hS
end
def ayK(p:Pr)(Ax Bm:Int)(AB:Int×Int):Option ((Pt⊕Dg)×Int×Int):=((Ak (⟨p.Bj,Bm,p.DK⟩:Pr) UO).bind λ(Ia,EL)=>Sum.elim (λ(C7:Tk)=>(As (⟨p.Bj,EL,p.DK⟩:Pr) Lh).bind λy3=>cond y3 ((BV (⟨p.Bj,(BC EL 1),p.DK⟩:Pr)).bind λ(VV,JD)=>Sum.elim (λ(Dl:(Int×Int))=>(Cj (⟨p.Bj,JD,p.DK⟩:Pr)).bind λ(Sh,Hv)=>Sum.elim (λ(Ix:Int)=>(AL (⟨p.Bj,Hv,p.DK⟩:Pr) 0).bind λ(lZ,OG)=>Sum.elim (λ(Jh:(Int×Int))=>(Ak (⟨p.Bj,OG,p.DK⟩:Pr) EC).bind λ(qI,RB)=>Sum.elim (λ(Vc:Tk)=>(AL (⟨p.Bj,RB,p.DK⟩:Pr) 1).bind λ(Zl,LU)=>Sum.elim (λ(GZ:(Int×Int))=>(CN Ax GZ.1).bind λy9=>(SO Ax y9).bind λz10=>cond (DM 1000000 (BU z10 GZ.1)) (some ((Sum.inr (⟨2,GZ.2⟩:Dg):(Pt⊕Dg)),LU,(BU z10 GZ.1))) (some ((Sum.inl (⟨AB.1,(BU Dl.1 (-1)),(BU Jh.1 Ix),GZ.1⟩:Pt):(Pt⊕Dg)),LU,(BU z10 GZ.1)))) (λ(LS:Dg)=>some ((Sum.inr LS:(Pt⊕Dg)),LU,Ax)) Zl) (λ(PD:Dg)=>some ((Sum.inr PD:(Pt⊕Dg)),RB,Ax)) qI) (λ(M7:Dg)=>some ((Sum.inr M7:(Pt⊕Dg)),OG,Ax)) lZ) (λ(Hb:Dg)=>some ((Sum.inr Hb:(Pt⊕Dg)),Hv,Ax)) Sh) (λ(Iw:Dg)=>some ((Sum.inr Iw:(Pt⊕Dg)),JD,Ax)) VV) ((BV (⟨p.Bj,EL,p.DK⟩:Pr)).bind λ(qG,Qm)=>Sum.elim (λ(Ni:(Int×Int))=>(Cj (⟨p.Bj,Qm,p.DK⟩:Pr)).bind λ(Zj,U9)=>Sum.elim (λ(Zk:Int)=>(AL (⟨p.Bj,U9,p.DK⟩:Pr) 0).bind λ(WM,OR)=>Sum.elim (λ(Nj:(Int×Int))=>(Ak (⟨p.Bj,OR,p.DK⟩:Pr) EC).bind λ(fF,Uc)=>Sum.elim (λ(atW:Tk)=>(AL (⟨p.Bj,Uc,p.DK⟩:Pr) 1).bind λ(fG,Q6)=>Sum.elim (λ(KE:(Int×Int))=>(CN Ax KE.1).bind λy16=>(SO Ax y16).bind λz17=>cond (DM 1000000 (BU z17 KE.1)) (some ((Sum.inr (⟨2,KE.2⟩:Dg):(Pt⊕Dg)),Q6,(BU z17 KE.1))) (some ((Sum.inl (⟨AB.1,(BU Ni.1 1),(BU Nj.1 Zk),KE.1⟩:Pt):(Pt⊕Dg)),Q6,(BU z17 KE.1)))) (λ(lJ:Dg)=>some ((Sum.inr lJ:(Pt⊕Dg)),Q6,Ax)) fG) (λ(lI:Dg)=>some ((Sum.inr lI:(Pt⊕Dg)),Uc,Ax)) fF) (λ(Vb:Dg)=>some ((Sum.inr Vb:(Pt⊕Dg)),OR,Ax)) WM) (λ(lH:Dg)=>some ((Sum.inr lH:(Pt⊕Dg)),U9,Ax)) Zj) (λ(U8:Dg)=>some ((Sum.inr U8:(Pt⊕Dg)),Qm,Ax)) qG)) (λ(Ha:Dg)=>some ((Sum.inr Ha:(Pt⊕Dg)),EL,Ax)) Ia)
section
variable {ts:List Tk} (D4:ts.length<=1000000) {en:Int}
include D4
theorem jM(k0 Ax:Int)(v:Int×Int){k:Nat}(hk:k<=ts.length){r l}(hS:Mj en Ax v.1 (ts.drop k)=some (r,l)):bO ts k (ayK ⟨ts,k0,en⟩ Ax k v) r l:=by
 refine IW (λh=>IR D4 _ hk h) (λ_ k h hk hS=>?_) (λ_ _=>⟨_,rfl⟩) hS;refine afR hk (λhk1 hS=>?_) (λhS=>?_) hS;dsimp only[cond];rw[Ey D4 hk];refine IW (λh=>fB D4 hk1 h) (λa k h hk hS=>?_) (λ_ _=>⟨_,rfl⟩) hS;refine IW (λh=>agS D4 hk h) (λs k h hk hS=>?_) (λ_ _=>⟨_,rfl⟩) hS;refine IW (λh=>O1 D4 _ hk h) (λm k h hk hS=>?_) (λ_ _=>⟨_,rfl⟩) hS;refine IW (λh=>IR D4 _ hk h) (λ_ k h hk hS=>?_) (λ_ _=>⟨_,rfl⟩) hS;refine IW (λh=>O1 D4 _ hk h) (λd k h hk hS=>?_) (λ_ _=>⟨_,rfl⟩) hS;obtain⟨g,hg,hS⟩:=IT hS;have hg:=acB hg;obtain⟨z,hz,hS⟩:=IT hS;dsimp only[Sum.elim];rw[hg,Option.bind_some,hz,Option.bind_some];revert hS;cases DM 1000000 (BU z d.1);exact λhS=>by obtain⟨rfl,rfl⟩:=KB hS;exact⟨k,Nat.le_refl k,hk,rfl,rfl⟩
 exact λhS=>by obtain⟨rfl,rfl⟩:=My hS;exact⟨k,Nat.le_refl k,hk,rfl,_,rfl⟩
 refine IW (λh=>fB D4 hk h) (λa k h hk hS=>?_) (λ_ _=>⟨_,rfl⟩) hS;refine IW (λh=>agS D4 hk h) (λs k h hk hS=>?_) (λ_ _=>⟨_,rfl⟩) hS;refine IW (λh=>O1 D4 _ hk h) (λm k h hk hS=>?_) (λ_ _=>⟨_,rfl⟩) hS;refine IW (λh=>IR D4 _ hk h) (λ_ k h hk hS=>?_) (λ_ _=>⟨_,rfl⟩) hS;refine IW (λh=>O1 D4 _ hk h) (λd k h hk hS=>?_) (λ_ _=>⟨_,rfl⟩) hS;obtain⟨g,hg,hS⟩:=IT hS;have hg:=acB hg;obtain⟨z,hz,hS⟩:=IT hS;dsimp only[Sum.elim];rw[hg,Option.bind_some,hz,Option.bind_some];revert hS;cases DM 1000000 (BU z d.1);exact λhS=>by obtain⟨rfl,rfl⟩:=KB hS;exact⟨k,Nat.le_refl k,hk,rfl,rfl⟩
 exact λhS=>by obtain⟨rfl,rfl⟩:=My hS;exact⟨k,Nat.le_refl k,hk,rfl,_,rfl⟩
theorem sW(before:List Pt)(hb:before.length<=100000000)(Ax:Int){k:Nat}(hk:k<=ts.length){r l}(hS:QR en before Ax (ts.drop k)=some (r,l)):bO ts k (GX ⟨ts,k,en⟩ before Ax) r l:=by
 refine IW (λh=>fB D4 hk h) (λv k1 h hk hS=>?_) (λ_ _=>⟨_,rfl⟩) hS;dsimp only[Sum.elim];revert hS;cases hE:CS ((before.length:Nat):Int) 0 with
 | true =>
   cases CS v.1 0;exact λhS=>by obtain⟨rfl,rfl⟩:=My hS;exact⟨k1,Nat.le_refl k1,hk,rfl,_,rfl⟩
   exact λhS=>jM D4 k Ax v hk hS
 | false =>
   intro hS;have h0:before.length≠0:=λh=>ZR hE (by rw[h];rfl);obtain⟨x,hx,hS⟩:=IT hS;dsimp only[cond];rw[GJ (by omega)]
   have hg:G5 before (LR ((before.length:Nat):Int) 1)=some x:=by
     have:LR ((before.length:Nat):Int) 1=((before.length - 1:Nat):Int):=by
       rw[Kh (by omega)];omega
     rw[this];unfold G5;rw[if_pos (by omega),Int.toNat_natCast,hx]
   dsimp only;rw[hg,Option.bind_some];revert hS;cases N1 v.1 x.fr;cases N1 64 ((before.length:Nat):Int);exact λhS=>jM D4 k Ax v hk hS;exact λhS=>by obtain⟨rfl,rfl⟩:=My hS;exact⟨k1,Nat.le_refl k1,hk,rfl,_,rfl⟩
   exact λhS=>by obtain⟨rfl,rfl⟩:=My hS;exact⟨k1,Nat.le_refl k1,hk,rfl,_,rfl⟩
theorem jN(R:Ad)(k0:Int):∀(q:Nat) (ps:List Pt) (c:Int) (k:Nat) (r:(List Pt×Int)⊕Dg) (l:List Tk),ps.length<=100000000->k<=ts.length->Jq en q ps c (ts.drop k)=some (r,l) ->
   ∃k':Nat,k<=k'/\k'<=ts.length/\l=ts.drop k'/\∃n,EM (λx=>BJ R ⟨ts,k0,en⟩ x.1 x.2.1 x.2.2) n (ps,c,(k:Int))=some (match r with | .inl x=>.inl (x.1,x.2,(k':Int)) | .inr d=>.inr (.inr d,(k':Int))):=by
 intro q
 induction q with
 | zero=>intro ps c k r l hp hk hS;cases hS
 | succ q ih =>
   intro ps c k r l hp hk hS;rcases IB hS with ⟨x,s',h3,h4⟩ | ⟨d,h3,rfl⟩
   obtain⟨k',a1,a2,rfl,a4⟩:=sW D4 ps hp c hk h3;obtain⟨hl,h4⟩:=MB h4;rcases LM a2 h4 with ⟨h5,h6,h7⟩ | ⟨h5,h7⟩
   obtain⟨k2,b1,b2,b3,n,b4⟩:=ih (ps++[x.1]) x.2 (k'+1) r l (by simp only[List.length_append,List.length_singleton];omega) h6 h7;refine⟨k2,by omega,b2,b3,n+1,?_⟩
   have hL:BJ R ⟨ts,k0,en⟩ ps c (k:Int)=some (.nx (ps++[x.1],x.2,((k'+1:Nat):Int))):=by
     unfold BJ;dsimp only at a4 ⊢;rw[a4,Option.bind_some];dsimp only[Sum.elim];rw[Gm hl,GQ a2,h5,Option.bind_some,Ey D4 a2];rfl
   show(BJ R ⟨ts,k0,en⟩ ps c (k:Int)).bind _=_;rw[hL];exact b4;obtain⟨rfl,rfl⟩:=KB h7;refine⟨k',a1,a2,rfl,1,?_⟩
   have hL:BJ R ⟨ts,k0,en⟩ ps c (k:Int)=some (.ex (ps++[x.1],x.2,(k':Int))):=by
     unfold BJ;dsimp only at a4 ⊢;rw[a4,Option.bind_some];dsimp only[Sum.elim];rw[Gm hl,GQ a2,h5,Option.bind_some];rfl
   show(BJ R ⟨ts,k0,en⟩ ps c (k:Int)).bind _=_;rw[hL];rfl;obtain⟨k',a1,a2,a3,c',a4⟩:=sW D4 ps hp c hk h3;refine⟨k',a1,a2,a3,1,?_⟩
   have hL:BJ R ⟨ts,k0,en⟩ ps c (k:Int)=some (.rt (.inr d,(k':Int))):=by
     unfold BJ;dsimp only at a4 ⊢;rw[a4,Option.bind_some];rfl
   show(BJ R ⟨ts,k0,en⟩ ps c (k:Int)).bind _=_;rw[hL];rfl
omit D4 in
theorem kL(R:Ad)(c:Int)(t:Tk)(kz:Int):∀(ps:List Pt) (acc:List Pc) (i:Nat) (r:(List Pc)⊕Dg) (s l:List Tk),LN c t.AH ps acc s=some (r,l) ->
   l=s/\C4 (λi y x=>EZ R c kz t i y x) (λx=>x) ps i acc=some (match r with | .inl x=>.inl x | .inr d=>.inr (.inr d,kz)):=by
 intro ps
 induction ps with
 | nil =>
   intro acc i r s l hS;obtain⟨rfl,rfl⟩:=KB hS;exact⟨rfl,rfl⟩
 | cons x ps ih =>
   intro acc i r s l hS;unfold LN at hS;obtain⟨z,hz,hS⟩:=IT hS;rw[C4];unfold EZ;rw[hz,Option.bind_some];revert hS;cases DM 1000000 (BU x.num z);cases DM (BU x.num z) (-1000000);intro hS;obtain⟨hl,hS⟩:=MB hS;obtain⟨rfl,h⟩:=ih _ (i+1) r s l hS;refine⟨rfl,?_⟩;dsimp only[cond];rw[Gm hl,Option.bind_some];exact h;intro hS;obtain⟨rfl,rfl⟩:=My hS;exact⟨rfl,rfl⟩;intro hS;obtain⟨rfl,rfl⟩:=My hS;exact⟨rfl,rfl⟩
theorem apW{R:Ad}{g:Ek->Rd Nd}(hex:∀{k:Nat},k<=ts.length->∀{r l},g .ex (ts.drop k)=some (r,l)->Jv ts k (R.AO ⟨ts,k,en⟩) r l){k:Nat}(hk:k<=ts.length){r l}(hS:TX en g (ts.drop k)=some (r,l)) :
   Jv ts k (GY R ⟨ts,k,en⟩) r l:=by
 refine BE (λh=>IR D4 _ hk h) (λt k1 h hk1 hS=>?_) (λ_ _=>rfl) hS;refine BE (λh=>IR D4 _ hk1 h) (λ_ k2 h hk2 hS=>?_) (λ_ _=>rfl) hS;refine BE (λh=>hex hk2 h) (λa k3 h hk3 hS=>?_) (λ_ _=>rfl) hS;refine BE (λh=>IR D4 _ hk3 h) (λ_ k4 h hk4 hS=>?_) (λ_ _=>rfl) hS;dsimp only[Sum.elim];rcases IB hS with ⟨x,s',h3,h4⟩ | ⟨d,h3,rfl⟩
 obtain⟨k',a1,a2,rfl,n,a4⟩:=jN D4 R (k:Int) _ [] 1 k4 _ _ (by simp) hk4 h3;rw[Ff a4,Option.bind_some];refine LL a1 ?_;dsimp only[MC];refine BE (λh=>IR D4 _ a2 h) (λe k5 h hk5 hS=>?_) (λ_ _=>rfl) h4;obtain⟨hl,hS⟩:=MB hS;dsimp only[Sum.elim];rw[List.drop_zero,show Tc x.1.length=λy=>y from funext λy=>if_pos (by omega)];dsimp only;rcases IB hS with ⟨y,s2,h5,h6⟩ | ⟨d,h5,rfl⟩
 obtain⟨rfl,h⟩:=kL R x.2 e (k5:Int) x.1 [] 0 _ _ _ h5;rw[h];exact Es hk5 rfl h6;obtain⟨rfl,h⟩:=kL R x.2 e (k5:Int) x.1 [] 0 _ _ _ h5;rw[h];exact⟨k5,Nat.le_refl _,hk5,rfl,rfl⟩;obtain⟨k',a1,a2,a3,n,a4⟩:=jN D4 R (k:Int) _ [] 1 k4 _ _ (by simp) hk4 h3;rw[Ff a4,Option.bind_some];exact⟨k',a1,a2,a3,rfl⟩
theorem oN{R:Ad}{read:Rd Nd}(k0:Int)(NV:∀{k:Nat},k<=ts.length->∀{r l},read (ts.drop k)=some (r,l)->Jv ts k (R.AO ⟨ts,k,en⟩) r l):∀(q:Nat) (ns:List Nd) (k:Nat) (r:(List Nd)⊕Dg) (l:List Tk),k<=ts.length->Nb read q ns (ts.drop k)=some (r,l) ->
   ∃k':Nat,k<=k'/\k'<=ts.length/\l=ts.drop k'/\∃n,EM (λx=>Bp R ⟨ts,k0,en⟩ x.1 x.2) n (ns,(k:Int))=some (match r with | .inl x=>.inl (x,(k':Int)) | .inr d=>.inr (.inr d,(k':Int))):=by
 intro q
 induction q with
 | zero=>intro ns k r l hk hS;cases hS
 | succ q ih =>
   intro ns k r l hk hS;rcases LM hk hS with ⟨h1,h2,hS⟩ | ⟨h1,hS⟩
   rcases IB hS with ⟨x,s',h3,h4⟩ | ⟨d,h3,rfl⟩
   obtain⟨k',a1,a2,rfl,a4⟩:=NV h2 h3;obtain⟨hl,h4⟩:=MB h4;obtain⟨k2,b1,b2,b3,n,b4⟩:=ih (ns++[x]) k' r l a2 h4;refine⟨k2,by omega,b2,b3,n+1,?_⟩
   have hL:Bp R ⟨ts,k0,en⟩ ns (k:Int)=some (.nx (ns++[x],(k':Int))):=by
     unfold Bp;dsimp only;rw[GQ hk,h1,Option.bind_some,Ey D4 hk];dsimp only[cond];rw[a4,Option.bind_some];dsimp only[Sum.elim];rw[Gm hl]
   show(Bp R ⟨ts,k0,en⟩ ns (k:Int)).bind _=_;rw[hL];exact b4;obtain⟨k',a1,a2,a3,a4⟩:=NV h2 h3;refine⟨k',by omega,a2,a3,1,?_⟩
   have hL:Bp R ⟨ts,k0,en⟩ ns (k:Int)=some (.rt (.inr d,(k':Int))):=by
     unfold Bp;dsimp only;rw[GQ hk,h1,Option.bind_some,Ey D4 hk];dsimp only[cond];rw[a4,Option.bind_some];rfl
   show(Bp R ⟨ts,k0,en⟩ ns (k:Int)).bind _=_;rw[hL];rfl;obtain⟨rfl,rfl⟩:=KB hS;refine⟨k,Nat.le_refl k,hk,rfl,1,?_⟩
   have hL:Bp R ⟨ts,k0,en⟩ ns (k:Int)=some (.ex (ns,(k:Int))):=by
     unfold Bp;dsimp only;rw[GQ hk,h1,Option.bind_some];rfl
   show(Bp R ⟨ts,k0,en⟩ ns (k:Int)).bind _=_;rw[hL];rfl
theorem amV{R:Ad}{read:Rd Nd}(NV:∀{k:Nat},k<=ts.length->∀{r l},read (ts.drop k)=some (r,l)->Jv ts k (R.AO ⟨ts,k,en⟩) r l){k:Nat}(hk:k<=ts.length){r l}(hS:Rh read (ts.drop k)=some (r,l)):Jv ts k (Fi R ⟨ts,k,en⟩) r l:=by
 refine BE (λh=>NV hk h) (λx k1 h hk1 hS=>?_) (λ_ _=>rfl) hS;dsimp only[Sum.elim];rcases LM hk1 hS with ⟨h1,h2,hS⟩ | ⟨h1,hS⟩
 rw[GQ hk1,h1,Option.bind_some,Ey D4 hk1];refine LL (Nat.le_succ k1) ?_;refine BE (λh=>NV h2 h) (λy k2 h hk2 hS=>?_) (λ_ _=>rfl) hS;obtain⟨hl,hS⟩:=MB hS;dsimp only[Sum.elim];rw[Gm hl];obtain⟨k',a1,a2,a3,n,a4⟩:=oN D4 (k:Int) NV _ _ k2 _ _ hk2 hS;rw[Ff a4,Option.bind_some];refine⟨k',a1,a2,a3,?_⟩;cases r<;>rfl
 rw[GQ hk1,h1,Option.bind_some];exact Es hk1 rfl hS
theorem oO{read:Rd Nd}(k0:Int)(NV:∀{k:Nat},k<=ts.length->∀{r l},read (ts.drop k)=some (r,l)->Jv ts k (AP ⟨ts,k,en⟩) r l):∀(q:Nat) (ns:List Nd) (k:Nat) (r:(List Nd)⊕Dg) (l:List Tk),k<=ts.length->Nb read q ns (ts.drop k)=some (r,l) ->
   ∃k':Nat,k<=k'/\k'<=ts.length/\l=ts.drop k'/\∃n,EM (λx=>AQ ⟨ts,k0,en⟩ x.1 x.2) n (ns,(k:Int))=some (match r with | .inl x=>.inl (x,(k':Int)) | .inr d=>.inr (.inr d,(k':Int))):=by
 intro q
 induction q with
 | zero=>intro ns k r l hk hS;cases hS
 | succ q ih =>
   intro ns k r l hk hS;rcases LM hk hS with ⟨h1,h2,hS⟩ | ⟨h1,hS⟩
   rcases IB hS with ⟨x,s',h3,h4⟩ | ⟨d,h3,rfl⟩
   obtain⟨k',a1,a2,rfl,a4⟩:=NV h2 h3;obtain⟨hl,h4⟩:=MB h4;obtain⟨k2,b1,b2,b3,n,b4⟩:=ih (ns++[x]) k' r l a2 h4;refine⟨k2,by omega,b2,b3,n+1,?_⟩
   have hL:AQ ⟨ts,k0,en⟩ ns (k:Int)=some (.nx (ns++[x],(k':Int))):=by
     unfold AQ;dsimp only;rw[GQ hk,h1,Option.bind_some,Ey D4 hk];dsimp only[cond];rw[a4,Option.bind_some];dsimp only[Sum.elim];rw[Gm hl]
   show(AQ ⟨ts,k0,en⟩ ns (k:Int)).bind _=_;rw[hL];exact b4;obtain⟨k',a1,a2,a3,a4⟩:=NV h2 h3;refine⟨k',by omega,a2,a3,1,?_⟩
   have hL:AQ ⟨ts,k0,en⟩ ns (k:Int)=some (.rt (.inr d,(k':Int))):=by
     unfold AQ;dsimp only;rw[GQ hk,h1,Option.bind_some,Ey D4 hk];dsimp only[cond];rw[a4,Option.bind_some];rfl
   show(AQ ⟨ts,k0,en⟩ ns (k:Int)).bind _=_;rw[hL];rfl;obtain⟨rfl,rfl⟩:=KB hS;refine⟨k,Nat.le_refl k,hk,rfl,1,?_⟩
   have hL:AQ ⟨ts,k0,en⟩ ns (k:Int)=some (.ex (ns,(k:Int))):=by
     unfold AQ;dsimp only;rw[GQ hk,h1,Option.bind_some];rfl
   show(AQ ⟨ts,k0,en⟩ ns (k:Int)).bind _=_;rw[hL];rfl
theorem amW{read:Rd Nd}(NV:∀{k:Nat},k<=ts.length->∀{r l},read (ts.drop k)=some (r,l)->Jv ts k (AP ⟨ts,k,en⟩) r l){k:Nat}(hk:k<=ts.length){r l}(hS:Rh read (ts.drop k)=some (r,l)):Jv ts k (DQ ⟨ts,k,en⟩) r l:=by
 refine BE (λh=>NV hk h) (λx k1 h hk1 hS=>?_) (λ_ _=>rfl) hS;dsimp only[Sum.elim];rcases LM hk1 hS with ⟨h1,h2,hS⟩ | ⟨h1,hS⟩
 rw[GQ hk1,h1,Option.bind_some,Ey D4 hk1];refine LL (Nat.le_succ k1) ?_;refine BE (λh=>NV h2 h) (λy k2 h hk2 hS=>?_) (λ_ _=>rfl) hS;obtain⟨hl,hS⟩:=MB hS;dsimp only[Sum.elim];rw[Gm hl];obtain⟨k',a1,a2,a3,n,a4⟩:=oO D4 (k:Int) NV _ _ k2 _ _ hk2 hS;rw[Ff a4,Option.bind_some];refine⟨k',a1,a2,a3,?_⟩;cases r<;>rfl
 rw[GQ hk1,h1,Option.bind_some];exact Es hk1 rfl hS
end
end Mo
end Go.Proofs.YtpbkhogolfegfaaGreatDoor
namespace Go.Proofs.YtpbkhogolfegfaaGreatDoor
open AI Go
namespace Mo
set_option maxRecDepth 100000
section
variable {ts:List Tk} (D4:ts.length<=1000000) {en:Int} {R:Ad} {g:Ek->Rd Nd} {li:Rd (List Nd)} (A:Agr R ts en g li)
include D4 A
theorem auV{k:Nat}(hk:k<=ts.length){r l}(hS:XO en g (ts.drop k)=some (r,l)):Jv ts k (F0 R ⟨ts,k,en⟩) r l:=by
 refine BE (λh=>A.l4 hk h) (λN k h hk hS=>?_) (λ_ _=>rfl) hS;dsimp only[Sum.elim]
 have fin:∀{y:(Nd⊕Dg)×Int} (k0:Int),BY R ⟨ts,k0,en⟩ (k:Int) N=some (.rt y)->(L5 (λ_:Unit=>BY R ⟨ts,k0,en⟩ (k:Int) N) ()).bind (MC (λ(_:Unit)=>none) (λv=>some v))=some y:=by
   intro y k0 hL
   have:EM (λ_:Unit=>BY R ⟨ts,k0,en⟩ (k:Int) N) 1 ()=some (.inr y):=by
     show(BY R ⟨ts,k0,en⟩ (k:Int) N).bind _=_;rw[hL];rfl
   rw[Ff this];rfl
 rcases anF (en:=en) hk hS with ⟨x,h1,h2,hS⟩ | ⟨h2,hS⟩
 obtain⟨k',a1,a2,rfl,⟨n,b,hX,hb,rfl⟩ | ⟨d,hX,rfl⟩⟩:=NB D4 h1 (λh=>A.l4 h1 h) hS;refine⟨k',by omega,a2,rfl,fin _ ?_⟩;unfold BY;dsimp only;rw[h2];dsimp only[Option.bind,cond];rw[Ey D4 hk];cases hE:B2 x.data.toList EC.data.toList <;>
 · rw[hE] at hX;dsimp only[cond] at hX;dsimp only
   rw[hX];dsimp only[Sum.elim];rw[hb]
 refine⟨k',by omega,a2,rfl,fin _ ?_⟩;unfold BY;dsimp only;rw[h2];dsimp only[Option.bind,cond];rw[Ey D4 hk];cases hE:B2 x.data.toList EC.data.toList <;>
 · rw[hE] at hX;dsimp only[cond] at hX;dsimp only
   rw[hX];rfl
 obtain⟨rfl,rfl⟩:=KB hS;refine⟨k,Nat.le_refl k,hk,rfl,fin _ ?_⟩;unfold BY;dsimp only;rw[h2];rfl
theorem aDG{k:Nat}(hk:k<=ts.length){r l}(hS:Wy en g (ts.drop k)=some (r,l)):Jv ts k (EB R ⟨ts,k,en⟩) r l:=by
 unfold Wy at hS;unfold EB;rw[GQ hk,Option.bind_some];cases hx:H9 Vy (ts.drop k) with
 | true =>
   rw[hx] at hS;refine BE (λh=>IR D4 _ hk h) (λt k h hk hS=>?_) (λ_ _=>rfl) hS;refine BE (λh=>A.l2 hk h) (λN k h hk hS=>?_) (λ_ _=>rfl) hS;exact Es hk rfl hS
 | false =>
   rw[hx] at hS;obtain⟨k',a1,a2,a3,a4⟩:=A.l3 hk hS;refine⟨k',a1,a2,a3,?_⟩;dsimp only[cond];rw[a4,Option.bind_some];cases r with
   | inr d=>rfl
   | inl N =>
     dsimp only[Sum.elim]
     have hL:EM (λx:Int×ByteArray×ByteArray×Int×Int×Int×Int×Int×List Pc×List Nd×Int×Int=>CU R ⟨ts,k,en⟩ x.1 x.2.1 x.2.2.1 x.2.2.2.1 x.2.2.2.2.1 x.2.2.2.2.2.1 x.2.2.2.2.2.2.1 x.2.2.2.2.2.2.2.1 x.2.2.2.2.2.2.2.2.1 x.2.2.2.2.2.2.2.2.2.1 x.2.2.2.2.2.2.2.2.2.2.1 x.2.2.2.2.2.2.2.2.2.2.2) 1 (N.kind,N.name,N.unit,N.n,N.fr,N.to,N.known,N.CV.den,N.CV.ps,N.kids,N.AH,(k':Int))=some (.inr (.inl N,(k':Int))):=by
       have:CU R ⟨ts,k,en⟩ N.kind N.name N.unit N.n N.fr N.to N.known N.CV.den N.CV.ps N.kids N.AH (k':Int)=some (.rt (.inl N,(k':Int))):=by
         unfold CU EX;dsimp only[Option.bind,cond];rw[QH]
       show(CU R ⟨ts,k,en⟩ N.kind N.name N.unit N.n N.fr N.to N.known N.CV.den N.CV.ps N.kids N.AH (k':Int)).bind _=_;rw[this];rfl
     rw[Ff hL];rfl
omit D4 A in
theorem QO{F:Option ((Nd⊕Dg)×Int)}{k:Nat}{r l}(h:Jv ts k F r l):Jv ts k (F.bind λ(Eu,Bm)=>Sum.elim (λ(AB:Nd)=>some ((Sum.inl AB:(Nd⊕Dg)),Bm)) (λ(CQ:Dg)=>some ((Sum.inr CQ:(Nd⊕Dg)),Bm)) Eu) r l:=by
 obtain⟨k',a1,a2,a3,a4⟩:=h;refine⟨k',a1,a2,a3,?_⟩;rw[a4,Option.bind_some];cases r<;>rfl
theorem auT{k:Nat}(hk:k<=ts.length){r l}(hS:Ur en g li (ts.drop k)=some (r,l)):Jv ts k (Hm R ⟨ts,k,en⟩) r l:=by
 refine VG hk (λt h1 h2 hS=>?_) (λ_=>rfl) hS;have hS:=ZD h2 hS;dsimp only[Sum.elim];rw[Ey D4 hk];refine LL (Nat.le_succ k) ?_;refine BE (λh=>IR D4 _ h1 h) (λ_ k h hk hS=>?_) (λ_ _=>rfl) hS;refine BE (λh=>A.ex hk h) (λa k h hk hS=>?_) (λ_ _=>rfl) hS;dsimp only[Sum.elim];rw[Gm (by omega)];refine BE (λh=>IR D4 _ hk h) (λ_ k h hk hS=>?_) (λ_ _=>rfl) hS;refine BE (λh=>A.li hk h) (λns k h hk hS=>?_) (λ_ _=>rfl) hS;obtain⟨hl,hS⟩:=MB hS;dsimp only[Sum.elim];rw[Gm (by simpa using hl)]
 cases hE:CS ((ns.length:Nat):Int) 0 with
 | true =>
   have:ns=[]:=List.eq_nil_of_length_eq_zero (by have:=FJ hE;omega);subst this;refine BE (λh=>IR D4 _ hk h) (λ_ k h hk hS=>?_) (λ_ _=>rfl) hS;exact Es hk rfl hS
 | false =>
   refine BE (λh=>IR D4 _ hk h) (λ_ k h hk hS=>?_) (λ_ _=>rfl) hS;exact Es hk rfl hS
theorem aAA(t:Tk){k:Nat}(hk:k<=ts.length){r l}(hS:Rm en g t (ts.drop k)=some (r,l)):Jv ts k (FN R ⟨ts,k,en⟩ t) r l:=by
 have one:∀{X:Nd} {r l},Ue (FT X) (ts.drop k)=some (r,l)->Jv ts k (some (.inl X,BC (k:Int) 1)) r l:=by
   intro X r l h;obtain⟨h1,h2⟩:=afA hk h;rw[Ey D4 hk];exact LL (Nat.le_succ k) (Es h1 rfl h2)
 revert hS;unfold Rm FN;cases B2 t.text.data.toList Y5.data.toList;rotate_left;exact one;cases B2 t.text.data.toList Tu.data.toList;rotate_left;exact one;cases B2 t.text.data.toList cA.data.toList;rotate_left;intro hS;obtain⟨h1,hS⟩:=afA hk hS;dsimp only[cond];rw[Ey D4 hk];refine LL (Nat.le_succ k) ?_;refine BE (λh=>O1 D4 _ h1 h) (λa k h hk hS=>?_) (λ_ _=>rfl) hS;exact Es hk rfl hS;cases B2 t.text.data.toList LP.data.toList;rotate_left;exact one;cases B2 t.text.data.toList cJ.data.toList;rotate_left;exact one;cases B2 t.text.data.toList QG.data.toList;rotate_left;exact one;cases B2 t.text.data.toList Vd.data.toList;rotate_left;exact one;cases B2 t.text.data.toList KS.data.toList;rotate_left;exact λhS=>QO (A.ca hk hS);cases B2 t.text.data.toList FU.data.toList;rotate_left;exact λhS=>QO (A.ca hk hS);cases B2 t.text.data.toList QZ.data.toList;rotate_left;exact λhS=>QO (A.ta hk hS);cases B2 t.text.data.toList TN.data.toList;rotate_left;intro hS;obtain⟨h1,hS⟩:=afA hk hS;dsimp only[cond];rw[Ey D4 hk];refine LL (Nat.le_succ k) ?_;refine BE (λh=>A.ex h1 h) (λa k h hk hS=>?_) (λ_ _=>rfl) hS;refine BE (λh=>IR D4 _ hk h) (λ_ k h hk hS=>?_) (λ_ _=>rfl) hS;exact Es hk rfl hS;exact λhS=>Es hk rfl hS
theorem auR{k:Nat}(hk:k<=ts.length){r l}(hS:V1 en g (ts.drop k)=some (r,l)):Jv ts k (Hl R ⟨ts,k,en⟩) r l:=by
 refine VG hk (λt h1 h2 hS=>?_) (λ_=>rfl) hS;revert hS;dsimp only[Sum.elim];cases CS t.kind 3;rotate_left;intro hS;refine BE (λh=>jD D4 hk h) (λn k h hk hS=>?_) (λ_ _=>rfl) hS;refine tF hk (λhk1 hS=>?_) (λhS=>?_) hS;refine Es hk1 (Ey D4 hk) hS;exact Es hk rfl hS;cases CS t.kind 2;rotate_left;intro hS;have hS:=ZD h2 hS;dsimp only[cond];rw[Ey D4 hk];refine LL (Nat.le_succ k) ?_;refine BE (λh=>Q1 D4 ET h1 h) (λa k h hk hS=>?_) (λ_ _=>rfl) hS;obtain⟨c,hc,hS⟩:=IT hS;dsimp only[Sum.elim];rw[hc];exact Es hk rfl hS;intro hS;obtain⟨b,hb,hS⟩:=IT hS;dsimp only[cond];rw[hb,Option.bind_some];cases b;exact QO (A.wd t hk hS);have hS:=ZD h2 hS;dsimp only;rw[Ey D4 hk];exact LL (Nat.le_succ k) (Es h1 rfl hS)
end
theorem akJ{ts:List Tk}(D4:ts.length<=1000000)(en:Int):∀q:Nat,Agr (Aj q) ts en (gP en q).1 (gP en q).2:=by
 intro q
 induction q with
 | zero=>constructor<;>intros<;>rename_i h<;>cases h
 | succ q A =>
   constructor
   case ex=>intro k hk r l h;simp only[Aj,Bd];exact QO (A.l0 hk h)
   case l0=>intro k hk r l h;simp only[Aj,A5];exact aeE D4 (λhk _ _ h=>A.l1 hk h) hk h
   case l1=>intro k hk r l h;simp only[Aj,A6];exact aeF D4 (λhk _ _ h=>A.l2 hk h) hk h
   case l2=>intro k hk r l h;simp only[Aj,A7];exact aDG D4 A hk h
   case l3=>intro k hk r l h;simp only[Aj,A8];exact auV D4 A hk h
   case l4=>intro k hk r l h;simp only[Aj,A9];exact aeG D4 (λhk _ _ h=>A.l5 hk h) hk h
   case l5=>intro k hk r l h;simp only[Aj,Ba];exact aeH D4 (λhk _ _ h=>A.l6 hk h) hk h
   case l6=>intro k hk r l h;simp only[Aj,Bb];exact QO (A.at_ hk h)
   case at_=>intro k hk r l h;simp only[Aj,Br];exact auR D4 A hk h
   case wd=>intro t k hk r l h;simp only[Aj,Bt];exact aAA D4 A t hk h
   case ca=>intro k hk r l h;simp only[Aj,Bs];exact auT D4 A hk h
   case ta=>intro k hk r l h;simp only[Aj,Bi];exact apW D4 (λhk _ _ h=>A.ex hk h) hk h
   case li=>intro k hk r l h;simp only[Aj,AW];exact amV D4 (λhk _ _ h=>A.ex hk h) hk h
end Mo
end Go.Proofs.YtpbkhogolfegfaaGreatDoor
namespace Go.Proofs.YtpbkhogolfegfaaGreatDoor
open AI Go
namespace Mo
set_option maxRecDepth 100000
section
variable (S:Int->Int->Prop) (en en':Int) (w:List Tk)
def TR(t t':Tk):Prop:=t.kind=t'.kind/\t.text=t'.text/\S t.AH t'.AH
inductive F2:List Tk->List Tk->Prop
 | nil:F2 [] []
 | cons {t t':Tk} {l l':List Tk}:TR S t t'->F2 l l'->F2 (t::l) (t'::l')
mutual
inductive NR:Nd->Nd->Prop
 | mk {k:Int} {nm u:ByteArray} {n f t kn:Int} {tb:Fn} {ks ks':List Nd} {a a':Int}:mB ks ks'->S a a'->NR ⟨k,nm,u,n,f,t,kn,tb,ks,a⟩ ⟨k,nm,u,n,f,t,kn,tb,ks',a'⟩
inductive mB:List Nd->List Nd->Prop
 | nil:mB [] []
 | cons {n n':Nd} {l l':List Nd}:NR n n'->mB l l'->mB (n::l) (n'::l')
end
def DR(d d':Dg):Prop:=d.err=d'.err/\(S d.AH d'.AH\/d=⟨72,en⟩/\d'=⟨72,en'⟩)
inductive RR{α:Type}(Q:α->α->Prop):α⊕Dg->α⊕Dg->Prop
 | l {a a':α}:Q a a'->RR Q (.inl a) (.inl a')
 | r {d d':Dg}:DR S en en' d d'->RR Q (.inr d) (.inr d')
def Ends{α:Type}(b:Bool)(r:α⊕Dg)(s:List Tk):Prop:=s=[]/\(r=.inr ⟨72,en⟩\/b=false/\∃a,r=.inl a)
def RP{α:Type}(b:Bool)(Q:α->α->Prop)(m m':Rd α):Prop:=∀⦃l l1 s s':List Tk⦄ ⦃r r':α⊕Dg⦄,F2 S l l1->m l=some (r,s)->m' (l1++w)=some (r',s') ->
 (∃s1,s'=s1++w/\F2 S s s1/\RR S en en' Q r r')\/w≠[]/\Ends en b r s
def EO{α:Type}(b:Bool)(m:Rd α):Prop:=∀⦃r:α⊕Dg⦄ ⦃s:List Tk⦄,m []=some (r,s)->Ends en b r s
end
section
variable {S:Int->Int->Prop} {en en':Int} {w:List Tk} {α β:Type} {b:Bool} {Q:α->α->Prop} {Q2:β->β->Prop}
def Ends.VS{r:α⊕Dg}{s:List Tk}(h:Ends en true r s):Ends en b r s:=by
 refine⟨h.1,?_⟩;rcases h.2 with h | ⟨h,_⟩
 exact .inl h;cases h
def RP.VS{m m':Rd α}(h:RP S en en' w true Q m m'):RP S en en' w b Q m m':=λ_ _ _ _ _ _ f h1 h2=>(h f h1 h2).imp id λh=>⟨h.1,h.2.VS⟩
def EO.VS{m:Rd α}(h:EO en true m):EO en b m:=λ_ _ h1=>(h h1).VS
def D0{a a':α}(h:Q a a'):RP S en en' w b Q (FT a) (FT a'):=by
 intro l l1 s s' r r' f h1 h2;obtain⟨rfl,rfl⟩:=KB h1;obtain⟨rfl,rfl⟩:=KB h2;exact .inl ⟨l1,rfl,f,.l h⟩
def Jc{e p p':Int}(h:S p p'):RP S en en' w b Q (LX e p) (LX e p'):=by
 intro l l1 s s' r r' f h1 h2;obtain⟨rfl,rfl⟩:=My h1;obtain⟨rfl,rfl⟩:=My h2;exact .inl ⟨l1,rfl,f,.r ⟨rfl,.inl h⟩⟩
def Ju{m m':Rd α}{K K':α->Rd β}(h1:RP S en en' w false Q m m')(h2:∀a a',Q a a'->RP S en en' w b Q2 (K a) (K' a'))(h3:∀a,EO en b (K a)):RP S en en' w b Q2 (Ct m K) (Ct m' K'):=by
 intro l l1 s s' r r' f e1 e2;rcases IB e1 with ⟨a,t,e3,e4⟩ | ⟨d,e3,rfl⟩
 rcases IB e2 with ⟨a',t',e5,e6⟩ | ⟨d',e5,rfl⟩
 rcases h1 f e3 e5 with ⟨s1,rfl,f1,q⟩ | ⟨hw,rfl,_⟩
 cases q with
 | l q=>exact h2 _ _ q f1 e4 e6
 exact .inr ⟨hw,h3 a e4⟩;rcases h1 f e3 e5 with ⟨s1,rfl,f1,q⟩ | ⟨hw,rfl,_⟩
 cases q;exact .inr ⟨hw,h3 a e4⟩;rcases IB e2 with ⟨a',t',e5,e6⟩ | ⟨d',e5,rfl⟩
 rcases h1 f e3 e5 with ⟨s1,rfl,f1,q⟩ | ⟨hw,rfl,hq⟩
 cases q;rcases hq with hq | ⟨_,a,hq⟩
 cases hq;exact .inr ⟨hw,rfl,.inl rfl⟩;cases hq;rcases h1 f e3 e5 with ⟨s1,rfl,f1,q⟩ | ⟨hw,rfl,hq⟩
 cases q with
 | r q=>exact .inl ⟨s1,rfl,f1,.r q⟩
 rcases hq with hq | ⟨_,a,hq⟩
 cases hq;exact .inr ⟨hw,rfl,.inl rfl⟩;cases hq
def Ch{m m':Rd α}{K K':α->Rd β}(h1:RP S en en' w true Q m m')(h2:∀a a',Q a a'->RP S en en' w b Q2 (K a) (K' a')):RP S en en' w b Q2 (Ct m K) (Ct m' K'):=by
 intro l l1 s s' r r' f e1 e2
 have no:∀{a:α} {t:List Tk},m l=some (.inl a,t)->¬Ends en true (Sum.inl a:α⊕Dg) t:=by
   rintro a t _ ⟨_,h | ⟨h,_⟩⟩<;>cases h
 rcases IB e1 with ⟨a,t,e3,e4⟩ | ⟨d,e3,rfl⟩
 rcases IB e2 with ⟨a',t',e5,e6⟩ | ⟨d',e5,rfl⟩
 rcases h1 f e3 e5 with ⟨s1,rfl,f1,q⟩ | ⟨hw,h⟩
 cases q with
 | l q=>exact h2 _ _ q f1 e4 e6
 exact absurd h (no e3);rcases h1 f e3 e5 with ⟨s1,rfl,f1,q⟩ | ⟨hw,h⟩
 cases q;exact absurd h (no e3);rcases IB e2 with ⟨a',t',e5,e6⟩ | ⟨d',e5,rfl⟩
 rcases h1 f e3 e5 with ⟨s1,rfl,f1,q⟩ | ⟨hw,rfl,hq⟩
 cases q;rcases hq with hq | ⟨hq,_⟩
 cases hq;exact .inr ⟨hw,rfl,.inl rfl⟩;cases hq;rcases h1 f e3 e5 with ⟨s1,rfl,f1,q⟩ | ⟨hw,rfl,hq⟩
 cases q with
 | r q=>exact .inl ⟨s1,rfl,f1,.r q⟩
 rcases hq with hq | ⟨hq,_⟩
 cases hq;exact .inr ⟨hw,rfl,.inl rfl⟩;cases hq
def On{X:Option β}{K K':β->Rd α}(h:∀a,X=some a->RP S en en' w b Q (K a) (K' a)):RP S en en' w b Q (Li X K) (Li X K'):=by
 intro l l1 s s' r r' f e1 e2;obtain⟨a,ha,e1⟩:=IT e1;obtain⟨a',yT,e2⟩:=IT e2;rw[ha] at yT;cases yT;exact h a ha f e1 e2
def YP{K K':Tk->Rd α}(h:∀t t',TR S t t'->RP S en en' w b Q (K t) (K' t')):RP S en en' w b Q (TQ en K) (TQ en' K'):=by
 intro l l1 s s' r r' f e1 e2;cases f with
 | nil =>
   simp only[TQ,Option.some.injEq,Prod.mk.injEq] at e1;obtain⟨rfl,rfl⟩:=e1;by_cases hw:w=[];subst hw;simp only[TQ,List.append_nil,Option.some.injEq,Prod.mk.injEq] at e2;obtain⟨rfl,rfl⟩:=e2;exact .inl ⟨[],rfl,.nil,.r ⟨rfl,.inr ⟨rfl,rfl⟩⟩⟩;exact .inr ⟨hw,rfl,.inl rfl⟩
 | cons ht f=>exact h _ _ ht (.cons ht f) e1 e2
def Rl{K K':Rd α}(h:RP S en en' w b Q K K'):RP S en en' w b Q (Ue K) (Ue K'):=by
 intro l l1 s s' r r' f e1 e2;cases f with
 | nil=>cases e1
 | cons ht f=>exact h f e1 e2
def VI{x:ByteArray}{A A' B B':Rd α}(h1:RP S en en' w b Q A A')(h2:RP S en en' w b Q B B')(h3:EO en b B):RP S en en' w b Q (Om x A B) (Om x A' B'):=by
 intro l l1 s s' r r' f e1 e2;cases f with
 | nil =>
   by_cases hw:w=[];subst hw;exact h2 .nil e1 e2;exact .inr ⟨hw,h3 e1⟩
 | cons ht f =>
   rename_i t t' l l';unfold Om at e1 e2
   have:H9 x (t::l)=H9 x (t'::l'++w):=by
     show B2 t.text.data.toList _=B2 t'.text.data.toList _;rw[ht.2.1]
   rw[<- this] at e2;cases hx:H9 x (t::l) with
   | true=>rw[hx] at e1 e2;exact h1 f e1 e2
   | false=>rw[hx] at e1 e2;exact h2 (.cons ht f) e1 e2
def Sd{n n':Nat}{m m':Rd α}(h:RP S en en' w b Q m m'):RP S en en' w b Q (Ol n m) (Ol n' m'):=by
 intro l l1 s s' r r' f e1 e2;exact h f (MB e1).2 (MB e2).2
def Cn{c:Bool}{A A' B B':Rd α}(h1:c=true->RP S en en' w b Q A A')(h2:c=false->RP S en en' w b Q B B'):RP S en en' w b Q (cond c A B) (cond c A' B'):=by
 cases c;exact h2 rfl;exact h1 rfl
def afW{K K':Nat->Rd α}(h:∀n n',RP S en en' w b Q (K n) (K' n')):RP S en en' w b Q (λs=>K (s.length+1) s) (λs=>K' (s.length+1) s):=by
 intro l l1 s s' r r' f e1 e2;exact h _ _ f e1 e2
def qY{K:Tk->Rd α}:EO en b (TQ en K):=by
 intro r s h;simp only[TQ,Option.some.injEq,Prod.mk.injEq] at h;obtain⟨rfl,rfl⟩:=h;exact⟨rfl,.inl rfl⟩
def Pf{a:α}:EO en false (FT a):=by
 intro r s h;obtain⟨rfl,rfl⟩:=KB h;exact⟨rfl,.inr ⟨rfl,a,rfl⟩⟩
def Ls{m:Rd α}{K:α->Rd β}(h:EO en true m):EO en b (Ct m K):=by
 intro r s e1;rcases IB e1 with ⟨a,t,e3,e4⟩ | ⟨d,e3,rfl⟩
 obtain⟨_,h | ⟨h,_⟩⟩:=h e3<;>cases h
 obtain⟨h1,h | ⟨h,_⟩⟩:=h e3;cases h;exact⟨h1,.inl rfl⟩;cases h
def auY{X:Option β}{K:β->Rd α}(h:∀a,EO en b (K a)):EO en b (Li X K):=by
 intro r s e1;obtain⟨a,_,e1⟩:=IT e1;exact h a e1
def nF{x:ByteArray}{A B:Rd α}(h:EO en b B):EO en b (Om x A B):=λ_ _ e1=>h e1
def abG{n:Nat}{m:Rd α}(h:EO en b m):EO en b (Ol n m):=λ_ _ e1=>h (MB e1).2
end
end Mo
end Go.Proofs.YtpbkhogolfegfaaGreatDoor
namespace Go.Proofs.YtpbkhogolfegfaaGreatDoor
open AI Go
namespace Mo
set_option maxRecDepth 100000
section
variable {S:Int->Int->Prop} {en en':Int} {w:List Tk} {α β:Type} {b:Bool} {Q:α->α->Prop}
theorem tV{f:Tk->Option Bool}(hf:∀k t a a',f ⟨k,t,a⟩=f ⟨k,t,a'⟩){t t':Tk}(h:TR S t t'):f t=f t':=by
 obtain⟨k,x,a⟩:=t;obtain⟨k',x',a'⟩:=t';obtain⟨h1,h2,_⟩:=h;dsimp only at h1 h2;subst h1 h2;exact hf _ _ _ _
theorem aoJ{X X':Option β}{K K':β->Rd α}(h:∀a a',X=some a->X'=some a'->RP S en en' w b Q (K a) (K' a')):RP S en en' w b Q (Li X K) (Li X' K'):=by
 intro l l1 s s' r r' f e1 e2;obtain⟨a,ha,e1⟩:=IT e1;obtain⟨a',yT,e2⟩:=IT e2;exact h a a' ha yT f e1 e2
theorem NC{f:Tk->Option Bool}(hf:∀k t a a',f ⟨k,t,a⟩=f ⟨k,t,a'⟩):RP S en en' w b (TR S) (Lb en f) (Lb en' f):=by
 refine YP λt t' ht=>?_;rw[tV hf ht];exact On λc _=>Cn (λ_=>Rl (D0 ht)) λ_=>Jc ht.2.2
theorem alA{f:Tk->Option Bool}:EO en b (Lb en f):=qY
theorem GP(x:ByteArray):RP S en en' w b (TR S) (I5 en x) (I5 en' x):=NC λ_ _ _ _=>rfl
theorem Qw{x:ByteArray}:EO en b (I5 en x):=qY
theorem tK:RP S en en' w b (TR S) (Z8 en) (Z8 en'):=NC λ_ _ _ _=>rfl
theorem aoN:RP S en en' w b (TR S) (kY en) (kY en'):=NC λ_ _ _ _=>rfl
theorem aoL:RP S en en' w b (TR S) (aI en) (aI en'):=NC λ_ _ _ _=>rfl
def QA(S:Int->Int->Prop)(p p':Int×Int):Prop:=p.1=p'.1/\S p.2 p'.2
theorem aL:RP S en en' w b (QA S) (Mh en) (Mh en'):=by
 refine Ch (NC λ_ _ _ _=>rfl) λt t' h=>?_;rw[h.2.1];exact On λn _=>D0 ⟨rfl,h.2.2⟩
theorem Qe(least:Int):RP S en en' w b (QA S) (LH en least) (LH en' least):=by
 refine Ch aL λp p' h=>?_;rw[h.1];exact Cn (λ_=>Jc h.2) λ_=>Cn (λ_=>Jc h.2) λ_=>D0 h
theorem Xd(least:Int):RP S en en' w b (·=·) (Ra en least) (Ra en' least):=by
 refine Ch (NC λ_ _ _ _=>rfl) λt t' h=>?_;rw[h.2.1];exact On λn _=>Cn (λ_=>Cn (λ_=>Jc h.2.2) λ_=>D0 rfl) λ_=>Jc h.2.2
theorem Gi{kind n:Int}{name unit:ByteArray}{ks ks':List Nd}{p p':Int}(h:mB S ks ks')(hp:S p p'):NR S (Fo kind name unit n ks p) (Fo kind name unit n ks' p'):=.mk h hp
theorem UJ{l l' m m':List Nd}(h:mB S l l')(h2:mB S m m'):mB S (l++m) (l'++m'):=by
 induction l generalizing l' with
 | nil=>cases h;exact h2
 | cons x l ih=>cases h with | cons a t=>exact .cons a (ih t)
theorem aoI:RP S en en' w b (NR S) (Uz en) (Uz en'):=by
 refine Ch (GP _) λt t' ht=>Ch (Qe _) λn n' hn=>Ch (GP _) λ_ _ _=>Ch (Xd _) λf f' hf=>?_;subst hf;refine VI (Ch (Xd _) λu u' hu=>Ch (GP _) λ_ _ _=>Ch (Xd _) λk k' hk=>?_) (Ch (GP _) λ_ _ _=>Ch (Xd _) λk k' hk=>?_) (Ls Qw);subst hu hk;rw[hn.1];exact D0 (.mk .nil ht.2.2);subst hk;rw[hn.1];exact D0 (.mk .nil ht.2.2)
theorem tH:RP S en en' w b (NR S) (OV en) (OV en'):=by
 refine YP λt t' ht=>Rl (Ch tK λm m' hm=>Ch (GP _) λ_ _ _=>Ch aoN λu u' hu=>?_);rw[ht.2.1,hm.2.1,hu.2.1];refine Cn (λ_=>Ch aoL λr r' hr=>?_) λ_=>Ch (GP _) λ_ _ _=>D0 (Gi .nil ht.2.2);rw[hr.2.1];exact On λn _=>Ch (GP _) λ_ _ _=>D0 (Gi .nil ht.2.2)
theorem Tf:RP S en en' w b (NR S) (FK en) (FK en'):=by
 refine Ch (Qe _) λp p' h=>?_;rw[h.1];exact D0 (Gi .nil h.2)
theorem qX{read:Rd Nd}(q:Nat)(l:List Nd):EO en false (Nb read q l):=by
 cases q with
 | zero=>intro r s h;cases h
 | succ q=>exact nF Pf
theorem aoK{read Qa:Rd Nd}(h:RP S en en' w false (NR S) read Qa):∀(q q':Nat) (l l':List Nd),mB S l l'->RP S en en' w false (mB S) (Nb read q l) (Nb Qa q' l'):=by
 intro q
 induction q with
 | zero=>intro q' l l' _ _ _ _ _ _ _ _ e1;cases e1
 | succ q ih =>
   intro q' l l' hl;cases q' with
   | zero=>intro _ _ _ _ _ _ _ _ e2;cases e2
   | succ q'=>exact VI (Ju h (λn n' hn=>Sd (ih q' _ _ (UJ hl (.cons hn .nil)))) λn=>abG (qX q _)) (D0 hl) Pf
theorem akZ{read:Rd Nd}(h:EO en true read):EO en b (Rh read):=Ls h
theorem tJ{read Qa:Rd Nd}(h:RP S en en' w false (NR S) read Qa):RP S en en' w false (mB S) (Rh read) (Rh Qa) :=
 Ju h (λn n' hn=>afW λq q'=>aoK h q q' _ _ (.cons hn .nil)) λn _ _ h=>qX 1 [n] h
theorem YQ:RP S en en' w b (QA S) (M6 en) (M6 en'):=by
 refine Ch (NC λ_ _ _ _=>rfl) λt t' h=>?_;have:Cz t=Cz t':=by unfold Cz;rw[h.2.1]
 rw[this,h.1];exact On λc _=>Cn (λ_=>Cn (λ_=>D0 ⟨rfl,h.2.2⟩) λ_=>Jc h.2.2) λ_=>D0 ⟨rfl,h.2.2⟩
theorem abH:EO en b (M6 en):=Ls alA
theorem aoM:RP S en en' w b (·=·) (US en) (US en'):=by
 refine Ch (NC λ_ _ _ _=>rfl) λt t' h=>?_;rw[h.2.1];exact Cn (λ_=>D0 rfl) λ_=>D0 rfl
theorem aN(Ax from_ a:Int):RP S en en' w b (·=·) (Ny en Ax from_ a) (Ny en' Ax from_ a):=by
 refine Ch aoM λs s' hs=>Ch (Qe _) λm m' hm=>Ch (GP _) λ_ _ _=>Ch (Qe _) λd d' hd=>?_;subst hs;rw[hm.1,hd.1];exact On λg _=>On λz _=>Cn (λ_=>Jc hd.2) λ_=>D0 rfl
theorem aM(Ax from_:Int):RP S en en' w b (·=·) (Mj en Ax from_) (Mj en' Ax from_):=by
 refine Ch (GP _) λ_ _ _=>VI (Ch YQ λa a' ha=>?_) (Ch YQ λa a' ha=>?_) (Ls abH);rw[ha.1];exact aN _ _ _;rw[ha.1];exact aN _ _ _
theorem afY(before:List Pt)(Ax:Int):RP S en en' w b (·=·) (QR en before Ax) (QR en' before Ax):=by
 refine Ch YQ λv v' hv=>?_;rw[hv.1];exact Cn (λ_=>Cn (λ_=>aM _ _) λ_=>Jc hv.2) λ_=>On λq _=>Cn (λ_=>Jc hv.2) λ_=>Cn (λ_=>Jc hv.2) λ_=>aM _ _
theorem xD:∀(q q':Nat) (l:List Pt) (c:Int),RP S en en' w false (·=·) (Jq en q l c) (Jq en' q' l c):=by
 intro q
 induction q with
 | zero=>intro q' l c _ _ _ _ _ _ _ e1;cases e1
 | succ q ih =>
   intro q' l c;cases q' with
   | zero=>intro _ _ _ _ _ _ _ _ e2;cases e2
   | succ q' =>
     refine Ch (afY _ _) λp p' hp=>?_;subst hp;exact Sd (VI (ih q' _ _) (D0 rfl) Pf)
theorem xE(c:Int){p p':Int}(hp:S p p'):∀(ps:List Pt) (acc:List Pc),RP S en en' w b (·=·) (LN c p ps acc) (LN c p' ps acc):=by
 intro ps
 induction ps with
 | nil=>intro acc;exact D0 rfl
 | cons x ps ih=>intro acc;exact On λz _=>Cn (λ_=>Jc hp) λ_=>Cn (λ_=>Jc hp) λ_=>Sd (ih _)
inductive ER(S:Int->Int->Prop):Ek->Ek->Prop
 | ex:ER S .ex .ex
 | lv (i:Nat):ER S (.lv i) (.lv i)
 | at_:ER S .at_ .at_
 | wd {t t':Tk}:TR S t t'->ER S (.wd t) (.wd t')
 | ca:ER S .ca .ca
 | ta:ER S .ta .ta
structure Rel(S:Int->Int->Prop)(en en':Int)(w:List Tk)(g g':Ek->Rd Nd)(li li':Rd (List Nd)):Prop where
 rg:∀{e e'},ER S e e'->RP S en en' w false (NR S) (g e) (g' e')
 rli:RP S en en' w false (mB S) li li'
 eg:∀e,(∀t,e≠.wd t)->EO en true (g e)
 eli:EO en true li
theorem atG{yes akD:ByteArray->Rd α}{no no':Rd α}(h1:∀x,RP S en en' w b Q (yes x) (akD x))(h2:RP S en en' w b Q no no')(h3:EO en b no):∀ops:List ByteArray,RP S en en' w b Q (jG yes no ops) (jG akD no' ops)/\EO en b (jG yes no ops):=by
 intro ops
 induction ops with
 | nil=>exact⟨h2,h3⟩
 | cons x ops ih=>exact⟨VI (h1 x) ih.1 ih.2,nF ih.2⟩
theorem asA{yes:ByteArray->Rd α}{no:Rd α}(h3:EO en b no):∀ops:List ByteArray,EO en b (jG yes no ops):=by
 intro ops
 induction ops with
 | nil=>exact h3
 | cons x ops ih=>exact nF ih
theorem uX{op:ByteArray}{l l' r r' x x':Nd}(hl:NR S l l')(hr:NR S r r')(h1:Bl op l r=some x)(h2:Bl op l' r'=some x'):NR S x x':=by
 have ha:S l.AH l'.AH:=by cases hl with | mk _ h=>exact h
 unfold Bl at h1 h2;revert h1 h2;cases B2 op.data.toList JB.data.toList
 · cases B2 op.data.toList FQ.data.toList
   intro h1 h2;cases h1;cases h2;exact .mk (.cons hl (.cons hr .nil)) ha
   · cases hq:KV op JB J9 1 with
     | none=>intro h1;cases h1
     | some y =>
       intro h1 h2;cases h1;cases h2;exact .mk (.cons hr (.cons hl .nil)) ha
 · cases hq:KV op JB J9 1 with
   | none=>intro h1;cases h1
   | some y =>
     intro h1 h2;cases h1;cases h2;exact .mk (.cons hr (.cons hl .nil)) ha
theorem kE{sub WJ:Rd Nd}(h:RP S en en' w false (NR S) sub WJ)(op:ByteArray){l l':Nd}(hl:NR S l l'):RP S en en' w false (NR S) (Pz en sub op l) (Pz en' WJ op l') :=
 Ju (Cn (λ_=>Tf) λ_=>h) (λr r' hr=>aoJ λx x' h1 h2=>D0 (uX hl hr h1 h2)) λr=>auY λx=>Pf
theorem hH{ops:List ByteArray}{sub:Rd Nd}(q:Nat)(l:Nd):EO en false (I4 en ops sub q l):=by
 cases q with
 | zero=>intro r s h;cases h
 | succ q=>exact asA Pf ops
theorem afT(ops:List ByteArray){sub WJ:Rd Nd}(h:RP S en en' w false (NR S) sub WJ):∀(q q':Nat) (l l':Nd),NR S l l'->RP S en en' w false (NR S) (I4 en ops sub q l) (I4 en' ops WJ q' l'):=by
 intro q
 induction q with
 | zero=>intro q' l l' _ _ _ _ _ _ _ _ e1;cases e1
 | succ q ih =>
   intro q' l l' hl;cases q' with
   | zero=>intro _ _ _ _ _ _ _ _ e2;cases e2
   | succ q'=>exact(atG (λx=>Ju (kE h x hl) (λy y' hy=>ih q' _ _ hy) λy=>hH q y) (D0 hl) Pf ops).1
section
variable {g g':Ek->Rd Nd} {li li':Rd (List Nd)} (A:Rel S en en' w g g' li li')
include A
theorem afV(i:Nat):RP S en en' w false (NR S) (MY en g i) (MY en' g' i) :=
 Ju (A.rg (.lv _)) (λN N' h=>afW λq q'=>afT _ (A.rg (.lv _)) q q' _ _ h) λN _ _ h=>hH 1 N h
theorem aoH:RP S en en' w false (NR S) (XO en g) (XO en' g') :=
 Ju (A.rg (.lv _)) (λN N' h=>(atG (λx=>kE (A.rg (.lv _)) x h) (D0 h) Pf _).1) λN=>asA Pf _
theorem ayX:RP S en en' w false (NR S) (Wy en g) (Wy en' g'):=by
 intro l l1 s s' r r' f e1 e2;cases f with
 | nil =>
   by_cases hw:w=[];subst hw;exact A.rg (.lv 3) .nil e1 e2;exact .inr ⟨hw,((A.eg (.lv 3) (by intro t h;cases h)) e1).VS⟩
 | cons ht f =>
   rename_i t t' l l';unfold Wy at e1 e2
   have:H9 Vy (t::l)=H9 Vy (t'::l'++w):=by
     show B2 t.text.data.toList _=B2 t'.text.data.toList _;rw[ht.2.1]
   rw[<- this] at e2;cases hx:H9 Vy (t::l) with
   | true =>
     rw[hx] at e1 e2;exact Ch (GP _) (λt t' ht=>Ju (A.rg (.lv 2)) (λk k' hk=>D0 (Gi (.cons hk .nil) ht.2.2)) λk=>Pf) (.cons ht f) e1 e2
   | false=>rw[hx] at e1 e2;exact A.rg (.lv 3) (.cons ht f) e1 e2
theorem aoG:RP S en en' w false (NR S) (Ur en g li) (Ur en' g' li'):=by
 refine YP λt t' ht=>Rl (Ch (GP _) λ_ _ _=>Ju (A.rg .ex) (λa a' ha=>Ch (GP _) λ_ _ _=>Ju A.rli (λl l' hl=>Sd (Ch (GP _) λ_ _ _=>?_)) λ_=>abG (Ls Qw)) λ_=>Ls Qw);rw[ht.2.1];exact D0 (Gi (.cons ha hl) ht.2.2)
theorem afZ:RP S en en' w false (NR S) (TX en g) (TX en' g'):=by
 refine Ch (GP _) λt t' ht=>Ch (GP _) λ_ _ _=>Ju (A.rg .ex) (λa a' ha=>Ch (GP _) λ_ _ _=>Ju (afW λq q'=>xD q q' _ _) (λl l' hl=>?_) λ_=>Ls Qw) λ_=>Ls Qw;subst hl;refine Ch (GP _) λe e' he=>Sd (Ch (xE _ he.2.2 _ _) λr r' hr=>?_);subst hr;exact D0 (.mk (.cons ha .nil) ht.2.2)
theorem aoO{t t':Tk}(ht:TR S t t'):RP S en en' w false (NR S) (Rm en g t) (Rm en' g' t'):=by
 unfold Rm;rw[ht.2.1]
 have hd:RP S en en' w false (NR S) (V2 t) (V2 t'):=by
   unfold V2;rw[ht.2.1];exact Rl (D0 (Gi .nil ht.2.2))
 refine Cn (λ_=>Rl (D0 (Gi .nil ht.2.2))) λ_=>Cn (λ_=>Rl (D0 (Gi .nil ht.2.2))) λ_=>Cn (λ_=>Rl (Ch (Qe _) λp p' hp=>?_)) λ_ =>
   Cn (λ_=>hd) λ_=>Cn (λ_=>hd) λ_=>Cn (λ_=>hd) λ_=>Cn (λ_=>hd) λ_=>Cn (λ_=>A.rg .ca) λ_=>Cn (λ_=>A.rg .ca) λ_=>Cn (λ_=>A.rg .ta) λ_ =>
   Cn (λ_=>Rl (Ju (A.rg .ex) (λa a' ha=>Ch (GP _) λ_ _ _=>D0 ha) λ_=>Ls Qw)) λ_=>Jc ht.2.2
 rw[hp.1];exact D0 (Gi .nil ht.2.2)
theorem aoF:RP S en en' w false (NR S) (V1 en g) (V1 en' g'):=by
 refine YP λt t' ht=>?_;have h6:Cw t=Cw t':=tV (λ_ _ _ _=>rfl) ht;rw[ht.1,h6,ht.2.1];refine Cn (λ_=>Ch aL λn n' hn=>?_) λ_=>Cn (λ_=>Rl (Ch (NC λ_ _ _ _=>rfl) λa a' ha=>?_)) λ_=>On λc _=>Cn (λ_=>Rl (D0 (Gi .nil ht.2.2))) λ_=>A.rg (.wd ht);rw[hn.1];exact VI (D0 (Gi .nil hn.2)) (D0 (Gi .nil hn.2)) Pf;have:Cz a=Cz a':=by unfold Cz;rw[ha.2.1]
 rw[this];exact On λc _=>D0 (Gi .nil ht.2.2)
end
theorem tD:∀q q':Nat,Rel S en en' w (gP en q).1 (gP en' q').1 (gP en q).2 (gP en' q').2:=by
 intro q
 induction q with
 | zero =>
   intro q';constructor
   case rg=>intro _ _ _ _ _ _ _ _ _ _ e1;cases e1
   case rli=>intro _ _ _ _ _ _ _ e1;cases e1
   case eg=>intro _ _ _ _ e1;cases e1
   case eli=>intro _ _ e1;cases e1
 | succ q ih =>
   intro q'
   have eg:∀e,(∀t,e≠.wd t)->EO en true ((gP en (q+1)).1 e):=by
     have A:=ih 0;intro e he;show EO en true (Ou en (gP en q).1 (gP en q).2 e);unfold Ou;split;exact A.eg _ (by intro t h;cases h);intro r s h;exact A.eg (.lv 3) (by intro t h;cases h) h;exact Ls (A.eg _ (by intro t h;cases h));exact A.eg _ (by intro t h;cases h);exact Ls (A.eg _ (by intro t h;cases h));exact qY;rename_i t;exact absurd rfl (he t);exact qY;exact Ls Qw
   have eli:EO en true (gP en (q+1)).2:=akZ ((ih 0).eg .ex (by intro t h;cases h));cases q' with
   | zero =>
     constructor
     case rg=>intro _ _ _ _ _ _ _ _ _ _ _ e2;cases e2
     case rli=>intro _ _ _ _ _ _ _ _ e2;cases e2
     case eg=>exact eg
     case eli=>exact eli
   | succ q' =>
     have A:=ih q';refine⟨λ{e e'} he=>?_,tJ (A.rg .ex),eg,eli⟩;show RP S en en' w false (NR S) (Ou en (gP en q).1 (gP en q).2 e) (Ou en' (gP en' q').1 (gP en' q').2 e');cases he with
     | ex=>exact A.rg (.lv 0)
     | at_=>exact aoF A
     | wd ht=>exact aoO A ht
     | ca=>exact aoG A
     | ta=>exact afZ A
     | lv i =>
       unfold Ou;split;rename_i h;cases h;exact ayX A;exact aoH A;exact A.rg .at_;rename_i h;cases h;exact afV A _
       all_goals (rename_i h;cases h)
end
end Mo
end Go.Proofs.YtpbkhogolfegfaaGreatDoor
namespace Go.Proofs.YtpbkhogolfegfaaGreatDoor
open AI Go
namespace Mo
set_option maxRecDepth 100000
def fD{x:Int}(h:-9223372036854775808<=x/\x<=9223372036854775807):IntKind.i64.wrap x=x:=by
 unfold IntKind.wrap;simp[IntKind.bits,IntKind.signed];omega
def XV{a b:Int}(ha:0<=a)(hb:0 < b)(h:a<=9223372036854775807):SO a b=some (a / b):=by
 unfold SO yJ;rw[if_neg (by omega),Int.tdiv_eq_ediv_of_nonneg ha,fD];exact⟨by have:=Int.ediv_nonneg ha (Int.le_of_lt hb);omega,by have:=Int.ediv_le_self b ha;omega⟩
structure Gd(t:Tk):Prop where
 num:t.kind=3->∃z,RM t.text=some (z,())/\0<=z/\z<=999999999999
 qT:t.kind=3\/t.kind=4->∃z,Cz t=some z/\0<=z/\z<=999999999999
 date:t.kind=5->∃d e,Fs t.text=some (d,e)/\(e=0->0<=d/\d<=36524)
 len:t.text.data.toList.length<=6000
def Gl(l:List Tk):Prop:=∀t∈l,Gd t
section
variable {α β:Type} {n:Nat} {st:Bool} {P:α->Prop} {P2:β->Prop}
def UT(n:Nat)(st:Bool)(P:α->Prop)(m:Rd α):Prop:=∀⦃l:List Tk⦄,Gl l->l.length<=n->∃r s,m l=some (r,s)/\(∃k,s=l.drop k)/\∀a,r=.inl a->P a/\(st=true->s.length < l.length)
def Gl.drop{l:List Tk}(h:Gl l)(k:Nat):Gl (l.drop k):=λt ht=>h t (List.mem_of_mem_drop ht)
def XX{l:List Tk}{k j:Nat}:(l.drop k).drop j=l.drop (k+j):=by rw[List.drop_drop]
def BB{m:Rd α}{K:α->Rd β}(h1:UT n true P m)(h2:∀a,P a->1<=n->UT (n - 1) false P2 (K a)):UT n st P2 (Ct m K):=by
 intro l hg hl;obtain⟨r,s,e,⟨k,rfl⟩,hr⟩:=h1 hg hl;cases r with
 | inr d=>exact⟨.inr d,_,by unfold Ct;rw[e],⟨k,rfl⟩,λa h=>by cases h⟩
 | inl a =>
   obtain⟨pa,hs⟩:=hr a rfl;have hs:=hs rfl;obtain⟨r2,s2,e2,⟨j,rfl⟩,hr2⟩:=h2 a pa (by omega) (hg.drop k) (by omega);refine⟨r2,_,by unfold Ct;rw[e];exact e2,⟨k+j,XX⟩,λb hb=>⟨(hr2 b hb).1,λ_=>?_⟩⟩;simp only[List.length_drop] at hs ⊢;omega
def aqE{m:Rd α}{K:α->Rd β}(h1:UT n false P m)(h2:∀a,P a->UT n st P2 (K a)):UT n st P2 (Ct m K):=by
 intro l hg hl;obtain⟨r,s,e,⟨k,rfl⟩,hr⟩:=h1 hg hl;cases r with
 | inr d=>exact⟨.inr d,_,by unfold Ct;rw[e],⟨k,rfl⟩,λa h=>by cases h⟩
 | inl a =>
   obtain⟨pa,_⟩:=hr a rfl;obtain⟨r2,s2,e2,⟨j,rfl⟩,hr2⟩:=h2 a pa (hg.drop k) (by rw[List.length_drop];omega);refine⟨r2,_,by unfold Ct;rw[e];exact e2,⟨k+j,XX⟩,λb hb=>⟨(hr2 b hb).1,λh=>?_⟩⟩;have:=(hr2 b hb).2 h;simp only[List.length_drop] at this ⊢;omega
def UT.VS{m:Rd α}(h:UT n st P m):UT n false P m:=λl hg hl=>by
 obtain⟨r,s,e,h1,h2⟩:=h hg hl;exact⟨r,s,e,h1,λa ha=>⟨(h2 a ha).1,λh=>by cases h⟩⟩
def UT.imp{Q:α->Prop}{m:Rd α}(h:UT n st P m)(f:∀a,P a->Q a):UT n st Q m:=λl hg hl=>by
 obtain⟨r,s,e,h1,h2⟩:=h hg hl;exact⟨r,s,e,h1,λa ha=>⟨f a (h2 a ha).1,(h2 a ha).2⟩⟩
def UT.le{n':Nat}{m:Rd α}(h:UT n st P m)(hn:n'<=n):UT n' st P m:=λ_ hg hl=>h hg (by omega)
def D1{a:α}(h:P a):UT n false P (FT a):=λl _ _=>⟨.inl a,l,rfl,⟨0,rfl⟩,λb hb=>by cases hb;exact⟨h,λh=>by cases h⟩⟩
def Jf{e p:Int}:UT n st P (LX e p):=λl _ _=>⟨_,l,rfl,⟨0,rfl⟩,λb hb=>by cases hb⟩
def Oy{X:Option β}{K:β->Rd α}(h:∃b,X=some b/\UT n st P (K b)):UT n st P (Li X K):=by
 obtain⟨b,rfl,h⟩:=h;exact h
def Za{en:Int}{K:Tk->Rd α}(h:∀t,Gd t->∀s,Gl (t::s)->(t::s).length<=n->∃r s',K t (t::s)=some (r,s')/\(∃k,s'=(t::s).drop k)/\∀a,r=.inl a->P a/\(st=true->s'.length < (t::s).length)):UT n st P (TQ en K):=by
 intro l hg hl;cases l with
 | nil=>exact⟨_,[],rfl,⟨0,rfl⟩,λa h=>by cases h⟩
 | cons t s=>exact h t (hg t (List.mem_cons_self ..)) s hg hl
def Sf{K:Rd α}(h:UT (n - 1) false P K){t:Tk}{s:List Tk}(hg:Gl (t::s))(hl:(t::s).length<=n) :
   ∃r s',Ue K (t::s)=some (r,s')/\(∃k,s'=(t::s).drop k)/\∀a,r=.inl a->P a/\(st=true->s'.length < (t::s).length):=by
 have yY:s.length+1<=n:=hl;obtain⟨r,s2,e,⟨k,rfl⟩,hr⟩:=h (l:=s) (λt ht=>hg t (List.mem_cons_of_mem _ ht)) (by omega);refine⟨r,_,e,⟨k+1,rfl⟩,λa ha=>⟨(hr a ha).1,λ_=>?_⟩⟩;rw[List.length_drop,List.length_cons];omega
def VP{x:ByteArray}{A B:Rd α}(h1:1<=n->UT (n - 1) false P A)(h2:UT n st P B):UT n st P (Om x A B):=by
 intro l hg hl;unfold Om;cases hx:H9 x l with
 | false=>exact h2 hg hl
 | true =>
   cases l with
   | nil=>cases hx
   | cons t s=>exact Sf (h1 (by simp only[List.length_cons] at hl;omega)) hg hl
def VO{c:Nat}{m:Rd α}(hc:c<=100000000)(h:UT n st P m):UT n st P (Ol c m):=by
 intro l hg hl;unfold Ol;rw[Gm hc];exact h hg hl
def F6{c:Bool}{A B:Rd α}(h1:c=true->UT n st P A)(h2:c=false->UT n st P B):UT n st P (cond c A B):=by
 cases c;exact h2 rfl;exact h1 rfl
end
section
variable {n:Nat} {en:Int} {st:Bool}
def NE{f:Tk->Option Bool}(hf:∀t,∃b,f t=some b):UT n st (λt=>Gd t/\f t=some true) (Lb en f):=by
 refine Za λt hg s ZY hl=>?_;obtain⟨b,hb⟩:=hf t;unfold Li;rw[hb];cases b with
 | true=>exact Sf (D1 ⟨hg,hb⟩) ZY hl
 | false=>exact Jf ZY hl
def D9{c:Bool}{α:Type}{x y:Option α}(h1:∃z,x=some z)(h2:∃z,y=some z):∃z,cond c x y=some z:=by cases c;exact h2;exact h1
def Fe(x:ByteArray):UT n st (λ_=>True) (I5 en x):=(NE λt=>D9 ⟨_,rfl⟩ ⟨_,rfl⟩).imp λ_ _=>trivial
def Wb(t:Tk):∃b,Cw t=some b:=by
 unfold Cw;rw[adV];exact D9 (D9 ⟨_,rfl⟩ ⟨_,rfl⟩) ⟨_,rfl⟩
def Sa(x:ByteArray):∃b,Ev x=some b:=D9 ⟨_,rfl⟩ (D9 ⟨_,rfl⟩ (D9 ⟨_,rfl⟩ (D9 ⟨_,rfl⟩ ⟨_,rfl⟩)))
def Xn:UT n st (λt=>Gd t/\Cw t=some true) (Z8 en):=NE Wb
def uC:UT n st (λt=>Gd t/\Fb t=some true) (kY en):=NE λt=>D9 ⟨_,rfl⟩ (D9 ⟨_,rfl⟩ (D9 ⟨_,rfl⟩ (D9 ⟨_,rfl⟩ ⟨_,rfl⟩)))
def uB:UT n st (λt=>Gd t/\BX t=some true) (aI en):=NE λt=>by
 unfold BX;obtain⟨b,hb⟩:=Sa t.text;rw[hb];exact D9 ⟨_,rfl⟩ ⟨_,rfl⟩
def QF{a b:Int}{x:Bool}(h:cond (CS a b) (some true) (some false)=some x):x=CS a b:=by
 revert h;cases CS a b<;>exact λh=>(Option.some.inj h).symm
def bB:UT n st (λp:Int×Int=>0<=p.1/\p.1<=999999999999) (Mh en):=by
 refine BB (NE λt=>D9 ⟨_,rfl⟩ ⟨_,rfl⟩) λt ht _=>?_;obtain⟨z,h1,h2⟩:=ht.1.num (FJ (QF ht.2).symm);exact Oy ⟨_,h1,D1 h2⟩
def Oz(least:Int):UT n st (λp:Int×Int=>least<=p.1/\p.1<=1000000) (LH en least) :=
 BB bB λp hp _=>F6 (λ_=>Jf) λh1=>F6 (λ_=>Jf) λh2=>D1 ⟨K2 h1,K2 h2⟩
def Xm(least:Int):UT n st (λd:Int=>least<=d/\0<=d/\d<=36524) (Ra en least):=by
 refine BB (NE λt=>D9 ⟨_,rfl⟩ ⟨_,rfl⟩) λt ht _=>?_;obtain⟨d,e,h1,h2⟩:=ht.1.date (FJ (QF ht.2).symm);exact Oy ⟨_,h1,F6 (λh=>F6 (λ_=>Jf) λh3=>D1 ⟨K2 h3,h2 (FJ h)⟩) λ_=>Jf⟩
def tZ:UT n st (λ_=>True) (Uz en) :=
 BB (Fe _) λ_ _ _=>BB (Oz _) λ_ _ _=>BB (Fe _) λ_ _ _=>BB (Xm _) λ_ _ _ =>
   VP (λ_=>BB (Xm _) λ_ _ _=>BB (Fe _) λ_ _ _=>BB (Xm _) λ_ _ _=>D1 trivial) (BB (Fe _) λ_ _ _=>BB (Xm _) λ_ _ _=>D1 trivial)
def tY:UT n st (λ_=>True) (OV en):=by
 refine Za λt hg s ZY hl=>Sf ((BB Xn λm _ _=>BB (Fe _) λ_ _ _=>BB uC λu _ _=>F6 (λ_=>BB uB λr _ _=>?_) λ_=>BB (Fe _) λ_ _ _=>D1 trivial)) ZY hl;obtain⟨b,hb⟩:=Sa r.text;exact Oy ⟨b,hb,BB (Fe _) λ_ _ _=>D1 trivial⟩
def Th:UT n st (λ_=>True) (FK en):=BB (Oz _) λ_ _ _=>D1 trivial
def Zb:UT n st (λp:Int×Int=>0<=p.1/\p.1<=999999999999) (M6 en):=by
 refine BB (NE λt=>D9 ⟨_,rfl⟩ (D9 ⟨_,rfl⟩ ⟨_,rfl⟩)) λt ht _=>?_
 have hk:t.kind=3\/t.kind=4:=by
   have h:=ht.2;unfold Dk at h;cases h4:CS t.kind 4 with
   | true=>exact .inr (FJ h4)
   | false =>
     rw[h4] at h;exact .inl (FJ (QF h).symm)
 obtain⟨z,h1,h2⟩:=ht.1.qT hk;exact Oy ⟨_,h1,F6 (λ_=>F6 (λ_=>D1 h2) λ_=>Jf) λ_=>D1 h2⟩
def aqI:UT n st (λs:Int=>s=1\/s=-1) (US en) :=
 BB (NE λt=>D9 ⟨_,rfl⟩ (D9 ⟨_,rfl⟩ ⟨_,rfl⟩)) λt _ _=>F6 (λ_=>D1 (.inr rfl)) λ_=>D1 (.inl rfl)
def PcP(x:Pt×Int):Prop:=1<=x.2/\x.2<=1000000/\1<=x.1.den/\x.1.den<=1000000/\-1000000<=x.1.num/\x.1.num<=1000000
def bD{Ax:Int}(hc:1<=Ax/\Ax<=1000000)(from_ a:Int):UT n st PcP (Ny en Ax from_ a):=by
 refine BB aqI λs hs _=>BB (Oz _) λm hm _=>BB (Fe _) λ_ _ _=>BB (Oz _) λd hd _=>?_;obtain⟨g,h1,h2,⟨c1,h3⟩,⟨c2,h4⟩⟩:=acC hc.1 (show(0:Int)<=d.1 by omega);refine Oy ⟨g,h1,Oy ⟨_,XV (by omega) (by omega) (by omega),F6 (λ_=>Jf) λh5=>D1 ?_⟩⟩;have hq:Ax / g=c1:=by rw[h3,Int.mul_ediv_cancel_left _ (by omega)]
 have hc1:1<=c1:=by
   by_cases h:1<=c1;exact h;have:=Int.mul_nonpos_of_nonneg_of_nonpos (show 0<=g by omega) (show c1<=0 by omega);omega
 have fQ:c1<=1000000:=by
   have:=Int.mul_le_mul_of_nonneg_right h2 (show 0<=c1 by omega);omega
 have hw:BU (Ax / g) d.1=c1*d.1:=by
   rw[hq];have a1:=Int.mul_le_mul fQ hd.2 (by omega) (by omega);have a2:=Int.mul_nonneg (show 0<=c1 by omega) (show 0<=d.1 by omega);exact IM (by omega)
 have h6:=K2 h5
 have a1:1<=c1*d.1:=by
   have:=Int.mul_le_mul_of_nonneg_right hc1 (show 0<=d.1 by omega);omega
 refine⟨by rw[hw];exact a1,h6,hd.1,hd.2,?_⟩;dsimp only;rcases hs with rfl | rfl
 rw[IM (by omega)];omega;rw[IM (by omega)];omega
def bC{Ax:Int}(hc:1<=Ax/\Ax<=1000000)(from_:Int):UT n st PcP (Mj en Ax from_) :=
 BB (Fe _) λ_ _ _=>VP (λ_=>BB Zb λ_ _ _=>bD hc _ _) (BB Zb λ_ _ _=>bD hc _ _)
def aiG(before:List Pt){Ax:Int}(hc:1<=Ax/\Ax<=1000000):UT n st (λx=>PcP x/\before.length<=63) (QR en before Ax):=by
 refine BB Zb λv hv _=>F6 (λh=>F6 (λ_=>(bC hc _).imp λx hx=>⟨hx,?_⟩) λ_=>Jf) λh=>?_;have:=FJ h;omega;have hb:before.length≠0:=λe=>ZR h (by rw[e];rfl);refine Oy ⟨before[before.length - 1]'(by omega),List.getElem?_eq_getElem (by omega),F6 (λ_=>Jf) λ_=>F6 (λ_=>Jf) λh2=>(bC hc _).imp λx hx=>⟨hx,?_⟩⟩;have:=aeC h2;omega
end
end Mo
end Go.Proofs.YtpbkhogolfegfaaGreatDoor
namespace Go.Proofs.YtpbkhogolfegfaaGreatDoor
open AI Go
namespace Mo
set_option maxRecDepth 100000
section
variable {α β:Type} {n:Nat} {en:Int} {st:Bool} {P:α->Prop}
abbrev TT{α:Type}:α->Prop:=λ_=>True
theorem lB{K:Nat->Rd α}(h:∀k,k<=n->UT k st P (K (k+1))):UT n st P (λs=>K (s.length+1) s):=λl hg hl=>h l.length hl hg (Nat.le_refl _)
theorem aqH{read:Rd Nd}:∀(q n:Nat) (ns:List Nd),n < q->ns.length+n<=100000->UT n true TT read->UT n false (λr:List Nd=>r.length<=ns.length+n) (Nb read q ns):=by
 intro q
 induction q with
 | zero=>intro n ns h;omega
 | succ q ih =>
   intro n ns hn hl hr;refine VP (λh1=>BB (hr.le (by omega)) λx _ h2=>VO (by omega) ?_) (D1 (by omega));refine(ih (n - 1 - 1) (ns++[x]) (by omega) (by simp only[List.length_append,List.length_singleton];omega) (hr.le (by omega))).imp λr hr=>?_;simp only[List.length_append,List.length_singleton] at hr;omega
theorem uA{read:Rd Nd}(hn:n<=10000)(hr:UT n true TT read):UT n st (λr:List Nd=>r.length<=n+1) (Rh read) :=
 BB hr λx _ h1=>lB (K:=λq=>Nb read q [x]) λk hk=>(aqH (k+1) k [x] (by omega) (by simp only[List.length_singleton];omega) (hr.le (by omega))).imp λr h=>by simp only[List.length_singleton] at h;omega
theorem anY:∃y,KV JB JB J9 1=some y:=⟨_,rfl⟩
theorem anX:∃y,KV FQ JB J9 1=some y:=⟨_,rfl⟩
theorem gJ(op:ByteArray)(l r:Nd):∃x,Bl op l r=some x:=by
 unfold Bl;cases h1:B2 op.data.toList JB.data.toList with
 | true =>
   obtain⟨y,hy⟩:=anY;rw[OW h1,hy];exact⟨_,rfl⟩
 | false =>
   cases h2:B2 op.data.toList FQ.data.toList with
   | true =>
     obtain⟨y,hy⟩:=anX;rw[OW h2,hy];exact⟨_,rfl⟩
   | false=>exact⟨_,rfl⟩
theorem atQ{yes:ByteArray->Rd α}{no:Rd α}(h1:∀x,1<=n->UT (n - 1) false P (yes x))(h2:UT n st P no):∀ops:List ByteArray,UT n st P (jG yes no ops):=by
 intro ops
 induction ops with
 | nil=>exact h2
 | cons x ops ih=>exact VP (h1 x) ih
theorem lD{sub:Rd Nd}(h:UT n true TT sub)(op:ByteArray)(l:Nd):UT n st TT (Pz en sub op l) :=
 BB (F6 (λ_=>Th) λ_=>h) λr _ _=>by
   obtain⟨x,hx⟩:=gJ op l r;exact Oy ⟨x,hx,D1 trivial⟩
theorem aiF{ops:List ByteArray}{sub:Rd Nd}:∀(q n:Nat) (l:Nd),n < q->UT n true TT sub->UT n false TT (I4 en ops sub q l):=by
 intro q
 induction q with
 | zero=>intro n l h;omega
 | succ q ih =>
   intro n l hn hs;exact atQ (λx h1=>BB (lD (hs.le (by omega)) x l) λb _ h2=>ih (n - 1 - 1) b (by omega) (hs.le (by omega))) (D1 trivial) ops
def PsP(r:List Pt×Int):Prop:=r.1.length<=64/\1<=r.2/\r.2<=1000000/\∀x∈r.1,1<=x.den/\-1000000<=x.num/\x.num<=1000000
theorem yC:∀(q n:Nat) (ps:List Pt) (c:Int),n < q->1<=c->c<=1000000->(∀x∈ps,1<=x.den/\-1000000<=x.num/\x.num<=1000000)->UT n st PsP (Jq en q ps c):=by
 intro q
 induction q generalizing st with
 | zero=>intro n ps c h;omega
 | succ q ih =>
   intro n ps c hn h1 h2 h3;refine BB (aiG ps ⟨h1,h2⟩) λx hx h4=>?_;obtain⟨⟨a1,a2,a3,a4,a5,a6⟩,hb⟩:=hx
   have h5:∀y∈ps++[x.1],1<=y.den/\-1000000<=y.num/\y.num<=1000000:=by
     intro y hy;rcases List.mem_append.1 hy with hy | hy
     exact h3 y hy;rw[List.mem_singleton.1 hy];exact⟨a3,a5,a6⟩
   exact VO (by omega) (VP (λh6=>ih (n - 1 - 1) _ _ (by omega) a1 a2 h5) (D1 ⟨by simp only[List.length_append,List.length_singleton];omega,a1,a2,h5⟩))
theorem yD{c:Int}(hc:1<=c/\c<=1000000)(p:Int):∀(ps:List Pt) (acc:List Pc),(∀x∈ps,1<=x.den)->acc.length+ps.length<=1000->UT n false TT (LN c p ps acc):=by
 intro ps
 induction ps with
 | nil=>intro acc _ _;exact D1 trivial
 | cons x ps ih =>
   intro acc h1 h2;have:=h1 x (List.mem_cons_self ..);simp only[List.length_cons] at h2;exact Oy ⟨_,XV (by omega) (by omega) (by omega),F6 (λ_=>Jf) λ_=>F6 (λ_=>Jf) λ_=>VO (by omega) (ih _ (λy hy=>h1 y (List.mem_cons_of_mem _ hy)) (by simp only[List.length_append,List.length_singleton];omega))⟩
def UW(n:Nat)(m:Rd Nd):Prop:=∀t s,Gl (t::s)->(t::s).length<=n->∃r s',m (t::s)=some (r,s')/\(∃k,s'=(t::s).drop k)/\∀a,r=.inl a->True/\(true=true->s'.length < (t::s).length)
structure Tot(q:Nat)(g:Ek->Rd Nd)(li:Rd (List Nd)):Prop where
 ex:∀n,n<=10000->10*n+11<=q->UT n true TT (g .ex)
 lv:∀i n,i<=6->n<=10000->10*n+10 - i<=q->UT n true TT (g (.lv i))
 at_:∀n,n<=10000->10*n+3<=q->UT n true TT (g .at_)
 wd:∀t n,n<=10000->10*n+2<=q->UW n (g (.wd t))
 ca:∀n,n<=10000->10*n+1<=q->UT n true TT (g .ca)
 ta:∀n,n<=10000->10*n+1<=q->UT n true TT (g .ta)
 li:∀n,n<=10000->10*n+12<=q->UT n true (λr:List Nd=>r.length<=n+1) li
section
variable {q:Nat} {g:Ek->Rd Nd} {li:Rd (List Nd)} (A:Tot q g li)
include A
theorem U3{i:Nat}(hi:i<=5)(hn:n<=10000)(hq:10*n+9 - i<=q):UT n true TT (MY en g i) :=
 BB (A.lv (i+1) n (by omega) hn (by omega)) λl _ h1=>lB (K:=λq=>I4 en (opsOf i) (g (.lv (i+1))) q l) λk hk=>aiF (k+1) k l (by omega) (A.lv (i+1) k (by omega) (by omega) (by omega))
theorem aqG(hn:n<=10000)(hq:10*n+6<=q):UT n true TT (XO en g) :=
 BB (A.lv 4 n (by omega) hn (by omega)) λl _ h1=>atQ (λx h2=>lD (A.lv 4 _ (by omega) (by omega) (by omega)) x l) (D1 trivial) _
theorem azU(hn:n<=10000)(hq:10*n+7<=q):UT n true TT (Wy en g):=by
 intro l hg hl;unfold Wy;cases hx:H9 Vy l with
 | false=>exact A.lv 3 n (by omega) hn (by omega) hg hl
 | true=>exact BB (Fe _) (λt _ h1=>BB (A.lv 2 (n - 1) (by omega) (by omega) (by omega)) λk _ _=>D1 trivial) hg hl
theorem aqF(hn:n<=10000)(hq:10*n<=q):UT n true TT (Ur en g li):=by
 refine Za λt hg s ZY hl=>Sf (BB (Fe _) λ_ _ h1=>BB (A.ex _ (by omega) (by omega)) λa _ h2=>BB (Fe _) λ_ _ h3=>BB (A.li _ (by omega) (by omega)) λl hl h4=>VO (by omega) (BB (Fe _) λ_ _ _=>D1 trivial)) ZY hl
theorem aiH(hn:n<=10000)(hq:10*n<=q):UT n true TT (TX en g):=by
 refine BB (Fe _) λt _ h1=>BB (Fe _) λ_ _ h2=>BB (A.ex _ (by omega) (by omega)) λa _ h3=>BB (Fe _) λ_ _ h4=>BB (P:=PsP) (lB (K:=λq=>Jq en q [] 1) λk hk=>yC (k+1) k [] 1 (by omega) (by omega) (by omega) (λx hx=>by cases hx)) λr hr h5=>BB (Fe _) λe _ h6=>?_;exact VO (by have:=hr.1;omega) (aqE (yD ⟨hr.2.1,hr.2.2.1⟩ _ _ _ (λx hx=>(hr.2.2.2 x hx).1) (by have:=hr.1;simp only[List.length_nil];omega)) λ_ _=>D1 trivial)
theorem aqJ(t:Tk)(hn:n<=10000)(hq:10*n+1<=q):UW n (Rm en g t):=by
 intro t' s hg hl;have one:∀{x:Nd},∃r s',Ue (FT x) (t'::s)=some (r,s')/\(∃k,s'=(t'::s).drop k)/\∀a,r=.inl a->True/\(true=true->s'.length < (t'::s).length):=λ{x}=>Sf (D1 trivial) hg hl;have h1:1<=n:=by simp only[List.length_cons] at hl;omega
 unfold Rm;cases B2 t.text.data.toList Y5.data.toList;rotate_left;exact one;cases B2 t.text.data.toList Tu.data.toList;rotate_left;exact one;cases B2 t.text.data.toList cA.data.toList;rotate_left;exact Sf (BB (Oz _) λ_ _ _=>D1 trivial) hg hl;cases B2 t.text.data.toList LP.data.toList;rotate_left;exact one;cases B2 t.text.data.toList cJ.data.toList;rotate_left;exact one;cases B2 t.text.data.toList QG.data.toList;rotate_left;exact one;cases B2 t.text.data.toList Vd.data.toList;rotate_left;exact one;cases B2 t.text.data.toList KS.data.toList;rotate_left;exact A.ca n hn hq hg hl;cases B2 t.text.data.toList FU.data.toList;rotate_left;exact A.ca n hn hq hg hl;cases B2 t.text.data.toList QZ.data.toList;rotate_left;exact A.ta n hn hq hg hl;cases B2 t.text.data.toList TN.data.toList;rotate_left;exact Sf (UT.VS (BB (st:=true) (A.ex (n - 1) (by omega) (by omega)) λ_ _ _=>BB (Fe _) λ_ _ _=>D1 trivial)) hg hl;exact Jf (st:=true) (P:=TT) hg hl
theorem aqD(hn:n<=10000)(hq:10*n+2<=q):UT n true TT (V1 en g):=by
 refine Za λt ht s hg hl=>?_;cases CS t.kind 3;rotate_left;exact BB (st:=true) (P2:=TT) bB (λ_ _ _=>VP (λ_=>D1 trivial) (D1 trivial)) hg hl;cases CS t.kind 2;rotate_left;refine Sf (BB (NE λt=>D9 ⟨_,rfl⟩ ⟨_,rfl⟩) λa ha _=>?_) hg hl;obtain⟨z,h1,_⟩:=ha.1.qT (.inr (FJ (QF ha.2).symm));exact Oy ⟨z,h1,D1 trivial⟩;obtain⟨b,hb⟩:=Wb t;unfold cond Li;dsimp only;rw[hb];cases b;exact A.wd t n hn hq t s hg hl;exact Sf (D1 trivial) hg hl
end
theorem tU:∀q:Nat,Tot q (gP en q).1 (gP en q).2:=by
 intro q
 induction q with
 | zero=>constructor<;>intros<;>omega
 | succ q A =>
   constructor
   case ex=>intro n hn hq;exact A.lv 0 n (by omega) hn (by omega)
   case lv =>
     intro i n hi hn hq;show UT n true TT (Ou en (gP en q).1 (gP en q).2 (.lv i));have:i=0\/i=1\/i=2\/i=3\/i=4\/i=5\/i=6:=by omega
     rcases this with rfl | rfl | rfl | rfl | rfl | rfl | rfl
     exact U3 A (by omega) hn (by omega);exact U3 A (by omega) hn (by omega);exact azU A hn (by omega);exact aqG A hn (by omega);exact U3 A (by omega) hn (by omega);exact U3 A (by omega) hn (by omega);exact A.at_ n hn (by omega)
   case at_=>intro n hn hq;exact aqD A hn (by omega)
   case wd=>intro t n hn hq;exact aqJ A t hn (by omega)
   case ca=>intro n hn hq;exact aqF A hn (by omega)
   case ta=>intro n hn hq;exact aiH A hn (by omega)
   case li=>intro n hn hq;exact uA hn (A.ex n hn (by omega))
end
end Mo
end Go.Proofs.YtpbkhogolfegfaaGreatDoor
namespace Go.Proofs.YtpbkhogolfegfaaGreatDoor
open AI Go
namespace Mo
set_option maxRecDepth 100000
theorem WW:∀l:List Tk,F2 (·=·) l l
 | []=>.nil
 | t::l=>.cons ⟨rfl,rfl,rfl⟩ (WW l)
theorem asD{l l':List Tk}(h:F2 (·=·) l l'):l=l':=by
 induction h with
 | nil=>rfl
 | cons ht _ ih =>
   rename_i t t' l l' _;obtain⟨k,x,a⟩:=t;obtain⟨k',x',a'⟩:=t';obtain⟨h1,h2,h3⟩:=ht;dsimp only at h1 h2 h3;subst h1 h2 h3;rw[ih]
theorem asX{n n':Nd}(h:NR (·=·) n n'):n=n' :=
 NR.rec (S:=(·=·)) (motive_1:=λa b _=>a=b) (motive_2:=λa b _=>a=b) (λ_ h ih=>by rw[ih,h]) rfl (λ_ _ h1 h2=>by rw[h1,h2]) h
theorem aDV{en:Int}{r r':Nd⊕Dg}(h:RR (·=·) en en (NR (·=·)) r r'):r=r':=by
 cases h with
 | l h=>rw[asX h]
 | r h =>
   rename_i d d';obtain⟨h1,h2 | ⟨rfl,rfl⟩⟩:=h;obtain⟨e,a⟩:=d;obtain⟨e',a'⟩:=d';dsimp only at h1 h2;subst h1 h2;rfl;rfl
def KZ(en:Int):Rd Nd:=λl=>(gP en (10*l.length+11)).1 .ex l
theorem atP{n:Nat}{en:Int}(hn:n<=10000):UT n true TT (KZ en):=λl hg hl=>(tU (10*l.length+11)).ex l.length (by omega) (Nat.le_refl _) hg (Nat.le_refl _)
theorem aDU{S:Int->Int->Prop}{en en':Int}{w:List Tk}:RP S en en' w false (NR S) (KZ en) (KZ en'):=λl l1 _ _ _ _ f e1 e2=>(tD _ _).rg .ex f e1 e2
theorem alE{en:Int}{l s:List Tk}{r:Nd⊕Dg}(hg:Gl l)(hl:l.length<=10000)(h:KZ en l=some (r,s))(q:Nat)(hq:10*l.length+11<=q):(gP en q).1 .ex l=some (r,s):=by
 obtain⟨r',s',h2,_⟩:=(tU (en:=en) q).ex l.length hl hq hg (Nat.le_refl _);have h3:=(tD (S:=(·=·)) (en:=en) (en':=en) (w:=[]) (10*l.length+11) q).rg .ex (WW l) h (by rw[List.append_nil];exact h2);rcases h3 with ⟨s1,rfl,h4,h5⟩ | ⟨h3,_⟩
 rw[h2,List.append_nil,aDV h5,asD h4];exact absurd rfl h3
section
variable {ts:List Tk} (D4:ts.length<=10000) (hg:Gl ts) {en:Int}
include D4 hg
theorem rA{k:Nat}(hk:k<=ts.length){r l}(hS:KZ en (ts.drop k)=some (r,l)):Jv ts k (FM ⟨ts,k,en⟩) r l:=by
 have hd:(ts.drop k).length<=10000:=by rw[List.length_drop];omega
 have key:∀q,10*(ts.drop k).length+11<=q->Jv ts k (Bd q ⟨ts,k,en⟩) r l:=λq hq=>(akJ (by omega) en q).ex hk (alE (hg.drop k) hd hS q hq);obtain⟨k',a1,a2,a3,a4⟩:=key _ (Nat.le_refl _);refine⟨k',a1,a2,a3,X1 (10*(ts.drop k).length+11) λq hq=>?_⟩;obtain⟨k2,b1,b2,b3,b4⟩:=key q hq
 have:k2=k':=by
   have h:=congrArg List.length (a3.symm.trans b3);simp only[List.length_drop] at h;omega
 rw[b4,this]
theorem gM(kind:Int){k:Nat}(hk:k<=ts.length){r l}(hS:IG en (KZ en) kind (ts.drop k)=some (r,l)):Jv ts k (CO ⟨ts,k,en⟩ kind) r l:=by
 have h6:ts.length<=1000000:=by omega
 refine VG hk (λt h1 h2 hS=>?_) (λ_=>rfl) hS;have hS:=ZD h2 hS;dsimp only[Sum.elim];rw[Ey h6 hk];refine LL (Nat.le_succ k) ?_;revert hS;cases CS kind 7;intro hS;refine BE (λh=>rA D4 hg h1 h) (λa k h hk hS=>?_) (λ_ _=>rfl) hS;refine BE (λh=>IR h6 _ hk h) (λ_ k h hk hS=>?_) (λ_ _=>rfl) hS;exact Es hk rfl hS;intro hS;refine BE (λh=>amW h6 (λhk _ _ h=>UK h6 hk h) h1 h) (λa k h hk hS=>?_) (λ_ _=>rfl) hS;refine BE (λh=>IR h6 _ hk h) (λ_ k h hk hS=>?_) (λ_ _=>rfl) hS;exact Es hk rfl hS
theorem anM(t1 t4:Tk)(n2:Int×Int)(k0:Int):∀(q:Nat) (ns:List Nd) (un am:Bool) (k:Nat) (r:Nd⊕Dg) (l:List Tk),k<=ts.length->Gq en (KZ en) (λl=>Fo 4 t4.text bE n2.1 l t1.AH) q ns un am (ts.drop k)=some (r,l) ->
   ∃k':Nat,k<=k'/\k'<=ts.length/\l=ts.drop k'/\∃n,EM (λx:List Nd×Int×Bool×Bool=>Bv ⟨ts,k0,en⟩ t1 n2 t4 x.1 x.2.1 x.2.2.1 x.2.2.2) n (ns,(k:Int),un,am)=some (.inr (r,(k':Int))):=by
 have h6:ts.length<=1000000:=by omega
 intro q
 induction q with
 | zero=>intro ns un am k r l hk hS;cases hS
 | succ q ih =>
   intro ns un am k r l hk hS
   have stop:∀{y:(Nd⊕Dg)×Int},Bv ⟨ts,k0,en⟩ t1 n2 t4 ns (k:Int) un am=some (.rt y)->EM (λx:List Nd×Int×Bool×Bool=>Bv ⟨ts,k0,en⟩ t1 n2 t4 x.1 x.2.1 x.2.2.1 x.2.2.2) 1 (ns,(k:Int),un,am)=some (.inr y):=by
     intro y h;show(Bv ⟨ts,k0,en⟩ t1 n2 t4 ns (k:Int) un am).bind _=_;rw[h];rfl
   have go:∀{y:List Nd×Int×Bool×Bool} {n:Nat} {z},Bv ⟨ts,k0,en⟩ t1 n2 t4 ns (k:Int) un am=some (.nx y)->EM (λx:List Nd×Int×Bool×Bool=>Bv ⟨ts,k0,en⟩ t1 n2 t4 x.1 x.2.1 x.2.2.1 x.2.2.2) n y=z->EM (λx:List Nd×Int×Bool×Bool=>Bv ⟨ts,k0,en⟩ t1 n2 t4 x.1 x.2.1 x.2.2.1 x.2.2.2) (n+1) (ns,(k:Int),un,am)=z:=by
     intro y n z h h2;show(Bv ⟨ts,k0,en⟩ t1 n2 t4 ns (k:Int) un am).bind _=_;rw[h];exact h2
   unfold Gq TQ at hS;unfold Bv at stop go;rcases JK ts hk with ⟨h1,h2⟩ | ⟨t,h1,h2,h3⟩
   · rw[h2] at hS
     dsimp only at hS;simp only[Option.some.injEq,Prod.mk.injEq] at hS;obtain⟨rfl,rfl⟩:=hS;refine⟨k,Nat.le_refl k,hk,h2.symm,1,stop ?_⟩
     have:AF ⟨ts,k,en⟩=some (.inr ⟨72,en⟩):=by
       unfold AF;rw[Ys (by dsimp only;omega)];rfl
     dsimp only;rw[this];rfl
   · rw[h3] at hS
     dsimp only at hS;rw[<- h3] at hS
     have hpk:AF ⟨ts,k,en⟩=some (.inl t):=by
       unfold AF;rw[UH (by dsimp only;omega)];dsimp only[cond];unfold G5;rw[if_pos (by omega),Int.toNat_natCast,h2];rfl
     dsimp only at stop go;rw[hpk] at stop go;dsimp only[Option.bind,Sum.elim] at stop go
     have one:∀(kind:Int) (qD mR:Bool),(Ct (IG en (KZ en) kind) λc=>Ol (ns.length+1) (Gq en (KZ en) (λl=>Fo 4 t4.text bE n2.1 l t1.AH) q (ns++[c]) qD mR)) (ts.drop k)=some (r,l) ->
         (∃(k1:Nat) (c:Nd),k<=k1/\k1<=ts.length/\CO ⟨ts,k,en⟩ kind=some (.inl c,(k1:Int))/\ns.length+1<=100000000/\∃k':Nat,k1<=k'/\k'<=ts.length/\l=ts.drop k'/\∃n,EM (λx:List Nd×Int×Bool×Bool=>Bv ⟨ts,k0,en⟩ t1 n2 t4 x.1 x.2.1 x.2.2.1 x.2.2.2) n (ns++[c],(k1:Int),qD,mR)=some (.inr (r,(k':Int)))) \/
         (∃(k':Nat) (d:Dg),k<=k'/\k'<=ts.length/\l=ts.drop k'/\r=.inr d/\CO ⟨ts,k,en⟩ kind=some (.inr d,(k':Int))):=by
       intro kind qD mR h;rcases IB h with ⟨c,s',h4,h5⟩ | ⟨d,h4,rfl⟩
       obtain⟨k1,a1,a2,rfl,a4⟩:=gM D4 hg kind hk h4;obtain⟨hl,h5⟩:=MB h5;exact .inl ⟨k1,c,a1,a2,a4,hl,ih _ _ _ _ _ _ a2 h5⟩;obtain⟨k1,a1,a2,a3,a4⟩:=gM D4 hg kind hk h4;exact .inr ⟨k1,d,a1,a2,a3,rfl,a4⟩
     cases hw:B2 t.text.data.toList bK.data.toList with
     | true =>
       rw[hw] at hS stop go;dsimp only[cond] at hS stop go;rcases one 6 un am hS with ⟨k1,c,a1,a2,a3,a4,k',b1,b2,b3,n,b4⟩ | ⟨k',d,a1,a2,a3,rfl,a4⟩
       rw[a3] at go;dsimp only[Option.bind,Sum.elim] at go;rw[Gm a4] at go;exact⟨k',by omega,b2,b3,n+1,go rfl b4⟩
       · rw[a4] at stop
         exact⟨k',a1,a2,a3,1,stop rfl⟩
     | false =>
       rw[hw] at hS stop go;dsimp only[cond] at hS stop go;cases hu:B2 t.text.data.toList SH.data.toList with
       | true =>
         rw[hu] at hS stop go;dsimp only at hS stop go;cases un with
         | true =>
           dsimp only at hS stop go;obtain⟨rfl,rfl⟩:=My hS;exact⟨k,Nat.le_refl k,hk,rfl,1,stop rfl⟩
         | false =>
           dsimp only at hS stop go;rcases one 7 true am hS with ⟨k1,c,a1,a2,a3,a4,k',b1,b2,b3,n,b4⟩ | ⟨k',d,a1,a2,a3,rfl,a4⟩
           rw[a3] at go;dsimp only[Option.bind,Sum.elim] at go;rw[Gm a4] at go;exact⟨k',by omega,b2,b3,n+1,go rfl b4⟩
           · rw[a4] at stop
             exact⟨k',a1,a2,a3,1,stop rfl⟩
       | false =>
         rw[hu] at hS stop go;dsimp only at hS stop go;cases ha:B2 t.text.data.toList Qq.data.toList with
         | true =>
           rw[ha] at hS stop go;dsimp only at hS stop go;cases am with
           | true =>
             dsimp only at hS stop go;obtain⟨rfl,rfl⟩:=My hS;exact⟨k,Nat.le_refl k,hk,rfl,1,stop rfl⟩
           | false =>
             dsimp only at hS stop go;rcases one 8 un true hS with ⟨k1,c,a1,a2,a3,a4,k',b1,b2,b3,n,b4⟩ | ⟨k',d,a1,a2,a3,rfl,a4⟩
             rw[a3] at go;dsimp only[Option.bind,Sum.elim] at go;rw[Gm a4] at go;exact⟨k',by omega,b2,b3,n+1,go rfl b4⟩
             · rw[a4] at stop
               exact⟨k',a1,a2,a3,1,stop rfl⟩
         | false =>
           rw[ha] at hS stop go;dsimp only at hS stop go;cases hc:B2 t.text.data.toList ZF.data.toList with
           | true =>
             rw[hc] at hS stop;dsimp only at hS stop;cases am with
             | true =>
               have hS:=ZD h3 hS;obtain⟨rfl,rfl⟩:=KB hS;refine⟨k+1,by omega,h1,rfl,1,stop ?_⟩;dsimp only;rw[Ey h6 hk];rfl
             | false =>
               obtain⟨rfl,rfl⟩:=My hS;exact⟨k,Nat.le_refl k,hk,rfl,1,stop rfl⟩
           | false =>
             rw[hc] at hS stop;dsimp only at hS stop;obtain⟨rfl,rfl⟩:=My hS;exact⟨k,Nat.le_refl k,hk,rfl,1,stop rfl⟩
theorem uS{k:Nat}(hk:k<=ts.length){r l}(hS:JG en (KZ en) (ts.drop k)=some (r,l)):Jv ts k (FX ⟨ts,k,en⟩) r l:=by
 have h6:ts.length<=1000000:=by omega
 refine BE (λh=>IR h6 _ hk h) (λt k1 h hk hS=>?_) (λ_ _=>rfl) hS;refine BE (λh=>O1 h6 _ hk h) (λn k1 h hk hS=>?_) (λ_ _=>rfl) hS;refine BE (λh=>IR h6 _ hk h) (λ_ k1 h hk hS=>?_) (λ_ _=>rfl) hS;refine BE (λh=>aeS h6 hk h) (λm k1 h hk hS=>?_) (λ_ _=>rfl) hS;refine BE (λh=>avY h6 hk h) (λhd k1 h hk hS=>?_) (λ_ _=>rfl) hS;dsimp only[Sum.elim];rw[Gm (by omega)];refine BE (λh=>IR h6 _ hk h) (λ_ k1 h hk hS=>?_) (λ_ _=>rfl) hS;obtain⟨k',a1,a2,a3,j,a4⟩:=anM D4 hg t m n (k:Int) _ [hd] false false k1 r l hk hS;refine⟨k',a1,a2,a3,?_⟩;dsimp only[Sum.elim];rw[List.nil_append,Ff a4];rfl
theorem adS{k:Nat}(hk:k<=ts.length){r l}(hS:NY en (KZ en) (ts.drop k)=some (r,l)):Jv ts k (Hp ⟨ts,k,en⟩) r l:=by
 have h6:ts.length<=1000000:=by omega
 refine VG hk (λt h1 h2 hS=>?_) (λ_=>rfl) hS;revert hS;dsimp only[Sum.elim];cases B2 t.text.data.toList RX.data.toList;rotate_left;exact λhS=>QO (aaZ h6 hk hS);cases B2 t.text.data.toList N2.data.toList;rotate_left;exact λhS=>QO (aaZ h6 hk hS);cases B2 t.text.data.toList He.data.toList;rotate_left;exact λhS=>QO (uS D4 hg hk hS);exact λhS=>Es hk rfl hS
end
end Mo
end Go.Proofs.YtpbkhogolfegfaaGreatDoor
namespace Go.Proofs.YtpbkhogolfegfaaGreatDoor
open AI Go
namespace Mo
set_option maxRecDepth 100000
section
variable {S:Int->Int->Prop} {en en':Int} {w:List Tk} {b:Bool}
def VH(kind:Int):RP S en en' w b (NR S) (IG en (KZ en) kind) (IG en' (KZ en') kind) :=
 YP λ_ _ ht=>Rl (Cn (λ_=>Ju (tJ Tf) (λ_ _ hl=>Ch (GP _) λ_ _ _=>D0 (Gi hl ht.2.2)) λ_=>Ls Qw)
   λ_=>Ju aDU (λ_ _ hl=>Ch (GP _) λ_ _ _=>D0 (Gi (.cons hl .nil) ht.2.2)) λ_=>Ls Qw)
def afX{mk mk':List Nd->Nd}(hm:∀l l',mB S l l'->NR S (mk l) (mk' l')):∀(q q':Nat) (l l':List Nd) (un am:Bool),mB S l l'->RP S en en' w b (NR S) (Gq en (KZ en) mk q l un am) (Gq en' (KZ en') mk' q' l' un am):=by
 intro q
 induction q with
 | zero=>intro q' l l' un am _ _ _ _ _ _ _ _ e1;cases e1
 | succ q ih =>
   intro q' l l' un am hl;cases q' with
   | zero=>intro _ _ _ _ _ _ _ _ e2;cases e2
   | succ q' =>
     refine YP λt t' ht=>?_;rw[ht.2.1]
     exact Cn (λ_=>Ch (VH _) λc c' hc=>Sd (ih q' _ _ _ _ (UJ hl (.cons hc .nil)))) λ_ =>
       Cn (λ_=>Cn (λ_=>Jc ht.2.2) λ_=>Ch (VH _) λc c' hc=>Sd (ih q' _ _ _ _ (UJ hl (.cons hc .nil)))) λ_ =>
       Cn (λ_=>Cn (λ_=>Jc ht.2.2) λ_=>Ch (VH _) λc c' hc=>Sd (ih q' _ _ _ _ (UJ hl (.cons hc .nil)))) λ_ =>
       Cn (λ_=>Cn (λ_=>Rl (D0 (hm _ _ hl))) λ_=>Jc ht.2.2) λ_=>Jc ht.2.2
def pN:RP S en en' w b (NR S) (JG en (KZ en)) (JG en' (KZ en')):=by
 refine Ch (GP _) λt t' ht=>Ch (Qe _) λn n' hn=>Ch (GP _) λ_ _ _=>Ch tK λm m' hm=>Ch aoI λh h' hh=>Ch (GP _) λ_ _ _=>?_;intro l l1 s s' r r' f e1 e2;refine afX (λl l' hl=>?_) _ _ _ _ _ _ (.cons hh .nil) f e1 e2;rw[hn.1,hm.2.1];exact Gi hl ht.2.2
def UP:RP S en en' w b (NR S) (NY en (KZ en)) (NY en' (KZ en')):=by
 refine YP λt t' ht=>?_;rw[ht.2.1];exact Cn (λ_=>tH) λ_=>Cn (λ_=>tH) λ_=>Cn (λ_=>pN) λ_=>Jc ht.2.2
end
section
variable {n:Nat} {en:Int} {st:Bool}
def yB(kind:Int)(hn:n<=10000):UT n st TT (IG en (KZ en) kind) :=
 Za λt _ s ZY hl=>Sf (F6 (λ_=>BB (uA (by omega) Th) λ_ _ _=>BB (Fe _) λ_ _ _=>D1 trivial) λ_=>BB (atP (by omega)) λ_ _ _=>BB (Fe _) λ_ _ _=>D1 trivial) ZY hl
def lC{mk:List Nd->Nd}:∀(q n:Nat) (ns:List Nd) (un am:Bool),n<=10000->n < q->ns.length+n<=100000->UT n st TT (Gq en (KZ en) mk q ns un am):=by
 intro q
 induction q generalizing st with
 | zero=>intro n ns un am _ h;omega
 | succ q ih =>
   intro n ns un am hn h1 h2
   have go:∀{st:Bool} (kind:Int) (qD mR:Bool),UT n st TT (Ct (IG en (KZ en) kind) λc=>Ol (ns.length+1) (Gq en (KZ en) mk q (ns++[c]) qD mR)):=λkind qD mR =>
     BB (yB kind hn) λc _ h3=>VO (by omega) (ih (n - 1) _ _ _ (by omega) (by omega) (by simp only[List.length_append,List.length_singleton];omega))
   refine Za λt _ s ZY hl=>?_;cases B2 t.text.data.toList bK.data.toList;rotate_left;exact go (st:=st) _ _ _ ZY hl;cases B2 t.text.data.toList SH.data.toList;rotate_left;exact F6 (st:=st) (P:=TT) (λ_=>Jf) (λ_=>go _ _ _) ZY hl;cases B2 t.text.data.toList Qq.data.toList;rotate_left;exact F6 (st:=st) (P:=TT) (λ_=>Jf) (λ_=>go _ _ _) ZY hl;cases B2 t.text.data.toList ZF.data.toList;exact Jf (st:=st) (P:=TT) ZY hl;cases am;exact Jf (st:=st) (P:=TT) ZY hl;exact Sf (D1 trivial) ZY hl
def qF(hn:n<=10000):UT n st TT (JG en (KZ en)) :=
 BB (Fe _) λt _ h1=>BB (Oz _) λm _ h2=>BB (Fe _) λ_ _ h3=>BB Xn λu _ h4=>BB tZ λh _ h5=>BB (Fe _) λ_ _ h6 =>
   lB (K:=λq=>Gq en (KZ en) (λl=>Fo 4 u.text bE m.1 l t.AH) q [h] false false) λk hk=>lC (k+1) k [h] false false (by omega) (by omega) (by simp only[List.length_singleton];omega)
def eZ(hn:n<=10000):UT n st TT (NY en (KZ en)):=by
 refine Za λt _ s ZY hl=>?_;cases B2 t.text.data.toList RX.data.toList;rotate_left;exact tY (st:=st) ZY hl;cases B2 t.text.data.toList N2.data.toList;rotate_left;exact tY (st:=st) ZY hl;cases B2 t.text.data.toList He.data.toList;rotate_left;exact qF (st:=st) hn ZY hl;exact Jf (st:=st) (P:=TT) ZY hl
end
def NW(t:Tk):Bool:=B2 t.text.data.toList RX.data.toList||(B2 t.text.data.toList N2.data.toList||B2 t.text.data.toList He.data.toList)
def Oq:List Tk->List Tk
 | []=>[]
 | t::s=>if NW t then t::s else Oq s
def Qf:∀l:List Tk,∃k,Oq l=l.drop k
 | []=>⟨0,rfl⟩
 | t::s=>by
   unfold Oq;split;exact⟨0,rfl⟩;obtain⟨k,hk⟩:=Qf s;exact⟨k+1,by rw[hk];rfl⟩
def K0{en:Int}{t:Tk}{l s:List Tk}{r:Nd⊕Dg}(hg:Gl (t::l))(hl:(t::l).length<=10000)(h:NY en (KZ en) (t::l)=some (r,s)):(∃k,s=(t::l).drop k)/\(Oq s).length<=l.length/\∀n,r=.inl n->s.length<=l.length:=by
 obtain⟨r',s',h2,h3,h4⟩:=eZ (st:=true) (en:=en) (n:=(t::l).length) hl hg (Nat.le_refl _);rw[h] at h2;simp only[Option.some.injEq,Prod.mk.injEq] at h2;obtain⟨rfl,rfl⟩:=h2;refine⟨h3,?_,λn hn=>Nat.le_of_lt_succ ((h4 n hn).2 rfl)⟩
 have small:∀{k:Nat},(Oq (l.drop k)).length<=l.length:=λ{k}=>by
   obtain⟨j,hj⟩:=Qf (l.drop k);rw[hj,List.length_drop,List.length_drop];omega
 have sk:∀{x:List Tk},(∃k,x=l.drop k)->(Oq x).length<=l.length:=by
   rintro x ⟨k,rfl⟩;exact small
 have Wu:Gl l:=λt ht=>hg t (List.mem_cons_of_mem _ ht);have yY:l.length<=10000:=by simp only[List.length_cons] at hl;omega
 cases hi:NW t with
 | false =>
   have Nq:=hi;unfold NW at hi;simp only[Bool.or_eq_false_iff] at hi
   have:NY en (KZ en) (t::l)=some (.inr ⟨71,t.AH⟩,t::l):=by
     unfold NY TQ;dsimp only;rw[hi.1,hi.2.1,hi.2.2];rfl
   rw[this] at h;simp only[Option.some.injEq,Prod.mk.injEq] at h;rw[<- h.2];unfold Oq;rw[Nq];obtain⟨k,hk⟩:=Qf l;simp only[Bool.false_eq_true,if_false];rw[hk,List.length_drop];omega
 | true =>
   unfold NY TQ at h;dsimp only at h
   have decl:OV en (t::l)=some (r,s)->(Oq s).length<=l.length:=by
     intro h;unfold OV TQ Ue at h;dsimp only at h;refine sk ?_
     obtain⟨r2,s2,e2,h5,_⟩:=(show UT l.length false TT _ from BB Xn λm _ _=>BB (Fe UO) λ_ _ _=>BB uC λu _ _=>F6 (c:=B2 t.text.data.toList N2.data.toList)
       (A:=Ct (aI en) λr=>Li (Ev r.text) λn=>Ct (I5 en Rz) λ_=>FT (Fo 3 m.text u.text n [] t.AH)) (B:=Ct (I5 en Rz) λ_=>FT (Fo 2 m.text u.text 0 [] t.AH))
       (λ_=>BB uB λr _ _=>by obtain⟨b,hb⟩:=Sa r.text;exact Oy ⟨b,hb,BB (Fe _) λ_ _ _=>D1 trivial⟩) λ_=>BB (Fe _) λ_ _ _=>D1 trivial) Wu (Nat.le_refl _)
     rw[h] at e2;simp only[Option.some.injEq,Prod.mk.injEq] at e2;rw[e2.2];exact h5
   revert h;cases hf:B2 t.text.data.toList RX.data.toList;rotate_left;exact decl;cases hli:B2 t.text.data.toList N2.data.toList;rotate_left;exact decl;cases ha:B2 t.text.data.toList He.data.toList;unfold NW at hi;rw[hf,hli,ha] at hi;cases hi;intro h;refine sk ?_;have h:JG en (KZ en) (t::l)=some (r,s):=h;unfold JG at h
   have he:I5 en He (t::l)=some (.inl t,l):=by
     unfold I5 Lb TQ Li Dv;dsimp only;rw[ha];rfl
   rcases IB h with ⟨a,s',h3,h4⟩ | ⟨d,h3,_⟩
   rw[he] at h3;simp only[Option.some.injEq,Prod.mk.injEq,Sum.inl.injEq] at h3;obtain⟨rfl,rfl⟩:=h3
   obtain⟨r2,s2,e2,h5,_⟩:=(show UT l.length false TT _ from BB (Oz (en:=en) 1) λm _ h2=>BB (Fe (en:=en) abV) λ_ _ h3=>BB (Xn (en:=en)) λu _ h4=>BB (tZ (en:=en)) λh _ h5=>BB (Fe (en:=en) eA) λ_ _ h6 =>
     lB (K:=λq=>Gq en (KZ en) (λl=>Fo 4 u.text bE m.1 l t.AH) q [h] false false) λk hk=>lC (k+1) k [h] false false (by omega) (by omega) (by simp only[List.length_singleton];omega)) Wu (Nat.le_refl _)
   have h6:=h4.symm.trans e2;simp only[Option.some.injEq,Prod.mk.injEq] at h6;rw[h6.2];exact h5;rw[he] at h3;cases h3
end Mo
end Go.Proofs.YtpbkhogolfegfaaGreatDoor
namespace Go.Proofs.YtpbkhogolfegfaaGreatDoor
open AI Go
namespace Mo
set_option maxRecDepth 100000
def JC(en:Int):Nat->List Tk->List Nd->List Dg->Option (List Nd×List Dg)
 | 0,_,_,_=>none
 | _+1,[],ks,ds=>some (ks,ds)
 | q+1,t::l,ks,ds=>cond (DM ((ds.length:Nat):Int) 20) (match NY en (KZ en) (t::l) with
   | none=>none
   | some (.inl n,s)=>JC en q s (ks++[n]) ds
   | some (.inr d,s)=>JC en q (Oq s) ks (ds++[d])) (some (ks,ds))
theorem ahV{en:Int}:∀(q:Nat) (l:List Tk) (ks:List Nd) (ds:List Dg),Gl l->l.length<=10000->l.length < q->∃r,JC en q l ks ds=some r:=by
 intro q
 induction q with
 | zero=>intro l ks ds _ _ h;omega
 | succ q ih =>
   intro l ks ds hg hl h;cases l with
   | nil=>exact⟨_,rfl⟩
   | cons t l =>
     unfold JC;cases DM ((ds.length:Nat):Int) 20 with
     | false=>exact⟨_,rfl⟩
     | true =>
       obtain⟨r,s,h2,_⟩:=eZ (st:=true) (en:=en) (n:=(t::l).length) hl hg (Nat.le_refl _);obtain⟨⟨k,rfl⟩,h4,h5⟩:=K0 hg hl h2;dsimp only[cond];rw[h2];simp only[List.length_cons] at h hl;cases r with
       | inl n =>
         have h6:=h5 n rfl;exact ih _ _ _ (hg.drop k) (by omega) (by omega)
       | inr d =>
         obtain⟨j,hj⟩:=Qf ((t::l).drop k);refine ih _ _ _ ?_ (by omega) (by omega);rw[hj];exact(hg.drop k).drop j
section
variable {source:ByteArray} {ts:List Tk} (D4:ts.length<=10000)
include D4
theorem azD:∀(j k:Nat),k<=ts.length->ts.length - k<=j->∃n k':Nat,k<=k'/\k'<=ts.length/\Oq (ts.drop k)=ts.drop k'/\EM (λx=>C9 source ts x) n (k:Int)=some (.inl (k':Int)):=by
 have stop:∀{k:Nat} {y:Int},C9 source ts (k:Int)=some (.ex y)->EM (λx=>C9 source ts x) 1 (k:Int)=some (.inl y):=by
   intro k y h;show(C9 source ts (k:Int)).bind _=_;rw[h];rfl
 intro j
 induction j with
 | zero =>
   intro k hk hj;have:k=ts.length:=by omega
   refine⟨1,k,Nat.le_refl k,hk,?_,stop ?_⟩;rw[List.drop_eq_nil_of_le (by omega)];rfl;unfold C9;rw[Hh (by omega)];rfl
 | succ j ih =>
   intro k hk hj;rcases JK ts hk with ⟨h1,h2⟩ | ⟨t,h1,h2,h3⟩
   · refine⟨1,k,Nat.le_refl k,hk,?_,stop ?_⟩
     rw[h2];rfl;unfold C9;rw[Hh (by omega)];rfl
   · have hs:∀x,H9 x (ts.drop k)=B2 t.text.data.toList x.data.toList:=λx=>by rw[h3];rfl
     have hL:C9 source ts (k:Int)=if NW t then some (.ex (k:Int)) else some (.nx ((k+1:Nat):Int)):=by
       unfold C9 NW;rw[GJ (by omega)];dsimp only[cond];rw[GQ hk,GQ hk,GQ hk,Option.bind_some,hs,hs,hs];cases B2 t.text.data.toList RX.data.toList;cases B2 t.text.data.toList N2.data.toList;cases B2 t.text.data.toList He.data.toList;rw[<- Ey (by omega) hk];rfl;rfl;rfl;rfl
     cases hi:NW t with
     | true =>
       refine⟨1,k,Nat.le_refl k,hk,?_,stop ?_⟩;rw[h3];unfold Oq;rw[hi];rfl;rw[hL,hi];rfl
     | false =>
       obtain⟨n,k',a1,a2,a3,a4⟩:=ih (k+1) h1 (by omega);refine⟨n+1,k',by omega,a2,?_,?_⟩;rw[h3];unfold Oq;rw[hi];exact a3;show(C9 source ts (k:Int)).bind _=_;rw[hL,hi];exact a4
theorem aEJ(hg:Gl ts):∀(q k:Nat) (ks:List Nd) (ds:List Dg) (r:List Nd×List Dg),k<=ts.length->ks.length+ds.length+q<=100000->JC ((source.data.toList.length:Nat):Int) q (ts.drop k) ks ds=some r ->
   ∃n k':Nat,EM (λx:List Dg×List Nd×Int=>Cg source ts x.1 x.2.1 x.2.2) n (ds,ks,(k:Int))=some (.inl (r.2,r.1,(k':Int))):=by
 intro q
 induction q with
 | zero=>intro k ks ds r hk hq h;cases h
 | succ q ih =>
   intro k ks ds r hk hq h
   have stop:Cg source ts ds ks (k:Int)=some (.ex (ds,ks,(k:Int)))->EM (λx:List Dg×List Nd×Int=>Cg source ts x.1 x.2.1 x.2.2) 1 (ds,ks,(k:Int))=some (.inl (ds,ks,(k:Int))):=by
     intro h;show(Cg source ts ds ks (k:Int)).bind _=_;rw[h];rfl
   rcases JK ts hk with ⟨h1,h2⟩ | ⟨t,h1,h2,h3⟩
   · rw[h2] at h
     have:r=(ks,ds):=(Option.some.inj h).symm;subst this;refine⟨1,k,stop ?_⟩;unfold Cg;rw[Hh (by omega)];rfl
   · rw[h3] at h
     unfold JC at h;rw[<- h3] at h;cases hd:DM ((ds.length:Nat):Int) 20 with
     | false =>
       rw[hd] at h;have:r=(ks,ds):=(Option.some.inj h).symm;subst this;refine⟨1,k,stop ?_⟩;unfold Cg;rw[GJ (by omega),hd];rfl
     | true =>
       rw[hd] at h;dsimp only[cond] at h;split at h;cases h;rename_i n s hi;obtain⟨k1,a1,a2,rfl,a4⟩:=adS D4 hg hk hi;obtain⟨m,k',b1⟩:=ih k1 (ks++[n]) ds r a2 (by simp only[List.length_append,List.length_singleton];omega) h;refine⟨m+1,k',?_⟩
       have hL:Cg source ts ds ks (k:Int)=some (.nx (ds,ks++[n],(k1:Int))):=by
         unfold Cg Hq;rw[GJ (by omega),hd,a4];dsimp only[cond,Option.bind,ahY];rw[Gm (by omega)]
       show(Cg source ts ds ks (k:Int)).bind _=_;rw[hL];exact b1;rename_i d s hi;obtain⟨k1,a1,a2,rfl,a4⟩:=adS D4 hg hk hi;obtain⟨j,k2,c1,c2,c3,c4⟩:=azD (source:=source) D4 (ts.length - k1) k1 a2 (Nat.le_refl _);rw[c3] at h;obtain⟨m,k',b1⟩:=ih k2 ks (ds++[d]) r c2 (by simp only[List.length_append,List.length_singleton];omega) h;refine⟨m+1,k',?_⟩
       have hL:Cg source ts ds ks (k:Int)=some (.nx (ds++[d],ks,(k2:Int))):=by
         unfold Cg Hq;rw[GJ (by omega),hd,a4];dsimp only[cond,Option.bind,ahY];rw[Gm (by omega),Ff c4];rfl
       show(Cg source ts ds ks (k:Int)).bind _=_;rw[hL];exact b1
end
def Bu(s:ByteArray):List Tk:=(LexS.I9 s.data.toList).1.map Hi
def PX(s:ByteArray):Nat:=(LexS.I9 s.data.toList).2.1
def aDA(s:ByteArray):Nat:=(LexS.I9 s.data.toList).2.2
def G3(ks:List Nd):Nd:=⟨1,ByteArray.empty,ByteArray.empty,0,0,0,0,⟨0,[]⟩,ks,0⟩
theorem aF{s:ByteArray}(h:PX s≠0):Cy s=some (z0,[⟨(PX s:Int),(aDA s:Int)⟩]):=by
 unfold Cy IE;rw[Option.bind_some];dsimp only;rw[Ku (by unfold PX at h;omega)];rfl
theorem wU{s:ByteArray}(h:PX s=0)(hg:Gl (Bu s))(hl:(Bu s).length<=10000):∃ks ds,JC ((s.data.toList.length:Nat):Int) ((Bu s).length+1) (Bu s) [] []=some (ks,ds)/\Cy s=cond (DM 0 ((ds.length:Nat):Int)) (some (z0,ds)) (Dt (G3 ks)):=by
 obtain⟨⟨ks,ds⟩,h1⟩:=ahV (en:=((s.data.toList.length:Nat):Int)) ((Bu s).length+1) (Bu s) [] [] hg hl (Nat.lt_succ_self _);refine⟨ks,ds,h1,?_⟩;obtain⟨n,k',h2⟩:=aEJ (source:=s) hl hg ((Bu s).length+1) 0 [] [] _ (Nat.zero_le _) (by simp only[List.length_nil];omega) (by rw[List.drop_zero];exact h1);unfold Cy IE;rw[Option.bind_some];dsimp only;rw[IQ (by unfold PX at h;omega)];dsimp only[cond];have h2:EM (λx:List Dg×List Nd×Int=>Cg s (List.map Hi (LexS.I9 s.data.toList).fst) x.1 x.2.1 x.2.2) n ([],[],0)=some (.inl (ds,ks,(k':Int))):=h2;rw[Ff h2,Option.bind_some];dsimp only[MC];cases DM 0 ((ds.length:Nat):Int);dsimp only;show(Dt (G3 ks)).bind _=Dt (G3 ks);cases Dt (G3 ks)<;>rfl
 rfl
end Mo
end Go.Proofs.YtpbkhogolfegfaaGreatDoor
namespace Go.Proofs.YtpbkhogolfegfaaGreatDoor
open AI Go LexS
namespace Mo
set_option maxRecDepth 100000
def SN(c:UInt8):Prop:=48<=c.toNat/\c.toNat<=57
theorem aaP:∀n < 128,(L3 n &&& 8)≠0->48<=n/\n<=57:=by decide
theorem akS{c:UInt8}(h:cin 8 c=true):SN c:=by
 unfold cin at h;by_cases hc:c.toNat < 128;exact aaP _ hc (by simpa using h)
 rw[cG _ (by omega)] at h;simp at h
theorem kO(t:List UInt8):∀c∈t.take (Be 8 t),SN c:=by
 unfold Be
 induction t with
 | nil=>intro c hc;cases hc
 | cons x t ih =>
   intro c hc;rw[List.takeWhile_cons] at hc;split at hc;rename_i hx;rw[List.length_cons,List.take_succ_cons] at hc;rcases List.mem_cons.1 hc with rfl | hc
   exact akS hx;exact ih c hc;cases hc
theorem akX:∀(l:List UInt8) (acc:Nat),(∀c∈l,SN c)->∃n,Lib.decFrom acc l=some n/\n < (acc+1)*10 ^ l.length:=by
 intro l
 induction l with
 | nil=>intro acc _;exact⟨acc,rfl,by simp⟩
 | cons c l ih =>
   intro acc h;have hc:=h c (List.mem_cons_self ..);obtain⟨n,h1,h2⟩:=ih (acc*10+(c.toNat - 48)) (λx hx=>h x (List.mem_cons_of_mem _ hx));refine⟨n,?_,Nat.lt_of_lt_of_le h2 ?_⟩;unfold Lib.decFrom Lib.digitVal;rw[if_pos (show 48<=c.toNat/\c.toNat<=57 from hc)];exact h1;rw[List.length_cons,Nat.pow_succ,Nat.mul_comm (10 ^ l.length) 10,<- Nat.mul_assoc];exact Nat.mul_le_mul_right _ (by have:=hc.2;omega)
theorem aaD{l:List UInt8}(h0:l≠[])(hl:l.length<=12)(h:∀c∈l,SN c):∃z,Lib.atoi l=some z/\0<=z/\z<=999999999999:=by
 cases l with
 | nil=>exact absurd rfl h0
 | cons c l =>
   obtain⟨n,h1,h2⟩:=akX (c::l) 0 h;have hc:=h c (List.mem_cons_self ..);have hlt:n < 10 ^ 12:=Nat.lt_of_lt_of_le h2 (by rw[Nat.zero_add,Nat.one_mul];exact Nat.pow_le_pow_right (by omega) hl);refine⟨(n:Int),?_,by omega,by omega⟩
   have e1:(c == 45)=false:=by
     apply beq_false_of_ne;rintro rfl;exact absurd hc.1 (by decide)
   have e2:(c == 43)=false:=by
     apply beq_false_of_ne;rintro rfl;exact absurd hc.1 (by decide)
   unfold Lib.atoi Lib.decNat;dsimp only;rw[e1,e2];simp only[Bool.false_eq_true,if_false,List.isEmpty_cons];rw[h1];rfl
theorem Z1:∀(d r:List UInt8),(∀c∈d,SN c)->Lib.indexByte (d++46::r) 46=d.length
 | [],r,_=>by unfold Lib.indexByte;rfl
 | c::d,r,h=>by
   have ih:=Z1 d r (λx hx=>h x (List.mem_cons_of_mem _ hx));have hc:=h c (List.mem_cons_self ..)
   have e1:(c == 46)=false:=by
     apply beq_false_of_ne;rintro rfl;exact absurd hc.1 (by decide)
   rw[List.cons_append];unfold Lib.indexByte;rw[e1,ih];simp
theorem XH{l:List UInt8}(h0:l≠[])(hl:l.length<=12)(h:∀c∈l,SN c):∃z,RM ⟨l.toArray⟩=some (z,())/\0<=z/\z<=999999999999:=by
 obtain⟨z,h1,h2⟩:=aaD h0 hl h;refine⟨z,?_,h2⟩;unfold RM;rw[if_pos (by simp;omega)];simp only[List.toList_toArray,h1,Option.map_some]
theorem xA{s:List UInt8}(k:Nat)(h:Lib.index s [46]=-1):Lib.replaceK [46] [] k s=s:=by
 cases k with
 | zero=>rfl
 | succ k=>unfold Lib.replaceK;rw[h];rfl
theorem iP:∀(d:List UInt8),(∀c∈d,SN c)->Lib.indexByte d 46=-1
 | [],_=>rfl
 | c::d,h=>by
   have ih:=iP d (λx hx=>h x (List.mem_cons_of_mem _ hx));have hc:=h c (List.mem_cons_self ..)
   have e1:(c == 46)=false:=by
     apply beq_false_of_ne;rintro rfl;exact absurd hc.1 (by decide)
   unfold Lib.indexByte;rw[e1,ih];simp
theorem anZ{d:List UInt8}(h:∀c∈d,SN c):Lib.replace d [46] [] 1=d:=by
 unfold Lib.replace;rw[if_neg (by decide)];exact xA _ (by rw[Lib.index_one,iP d h])
theorem afQ{d r:List UInt8}(h:∀c∈d,SN c):Lib.replace (d++46::r) [46] [] 1=d++r:=by
 have hi:Lib.index (d++46::r) [46]=(d.length:Int):=by rw[Lib.index_one,Z1 d r h]
 have hn:Lib.replaceNum (d++46::r) [46] 1=1:=by
   have:1<=Lib.count (d++46::r) [46]:=by
     unfold Lib.count Lib.countFrom;rw[hi,if_neg (by simp)];omega
   unfold Lib.replaceNum;rw[if_neg (by omega)];rfl
 unfold Lib.replace;rw[if_neg (by decide),hn,Lib.replaceK_hit _ _ _ _ _ hi];unfold Lib.replaceK;simp
theorem ZP{k a:Int}{l m:List UInt8}(hr:Lib.replace l [46] [] 1=m)(hl:l.length<=20)(h0:m≠[])(hm:m.length<=12)(h:∀c∈m,SN c):∃z,Cz ⟨k,⟨l.toArray⟩,a⟩=some z/\0<=z/\z<=999999999999:=by
 obtain⟨z,h1,h2⟩:=XH h0 hm h;refine⟨z,?_,h2⟩;unfold Cz
 have:KV ⟨l.toArray⟩ ayO ByteArray.empty 1=some ⟨m.toArray⟩:=by
   unfold KV
   rw[if_pos ⟨by decide,by
     have:(ByteArray.empty).size=0:=rfl;have h2:(⟨l.toArray⟩:ByteArray).size=l.length:=by simp[ByteArray.size]
     rw[this,h2];omega⟩]
   have:(ayO).data.toList=[46]:=rfl;rw[this];simp only[List.toList_toArray];rw[show(ByteArray.empty).data.toList=[] from rfl,hr]
 dsimp only;rw[this,Option.bind_some,h1];rfl
def arV(y m:Nat):Bool:=match Gg (2000+y) m,Ii (12*y+m) with
 | some n,some f=>Nat.ble 1 n.toNat&&(Nat.ble 0 f.toNat&&(decide (0<=n/\n<=31/\0<=f/\f+n<=36525)))
 | _,_=>false
theorem akQ:((List.range 100).all λy=>(List.range 12).all λm=>arV y m)=true:=by kernel_rfl
theorem auS{y m:Nat}(hy:y < 100)(hm:m < 12):∃n f:Int,Gg (2000+y) m=some n/\Ii (12*y+m)=some f/\0<=n/\n<=31/\0<=f/\f+n<=36525:=by
 have h:=List.all_eq_true.1 (List.all_eq_true.1 akQ y (List.mem_range.2 hy)) m (List.mem_range.2 hm);unfold arV at h;split at h;rename_i n f h1 h2;simp only[Bool.and_eq_true,decide_eq_true_eq] at h;exact⟨n,f,h1,h2,h.2.2.1,h.2.2.2.1,h.2.2.2.2.1,h.2.2.2.2.2⟩;cases h
theorem aaY(y m d:Int)(hy:0<=y/\y<=100000)(hm:0<=m/\m<=100000)(hd:0<=d/\d<=100000):∃z e,JH y m d=some (z,e)/\(e=0->0<=z/\z<=36524):=by
 have bad:∃z e,(some ((0:Int),(21:Int)):Option (Int×Int))=some (z,e)/\(e=0->0<=z/\z<=36524):=⟨0,21,rfl,λh=>by omega⟩;unfold JH;cases h1:DM y 2000;rotate_left;exact bad;cases h2:DM 2099 y;rotate_left;exact bad;cases h3:DM m 1;rotate_left;exact bad;cases h4:DM 12 m;rotate_left;exact bad;cases h5:DM d 1;rotate_left;exact bad;have h1:=K2 h1;have h2:=K2 h2;have h3:=K2 h3;have h4:=K2 h4;have h5:=K2 h5;obtain⟨n,f,a1,a2,a3,a4,a5,a6⟩:=auS (y:=(y - 2000).toNat) (m:=(m - 1).toNat) (by omega) (by omega);rw[show(2000:Int)+((y - 2000).toNat:Nat)=y by omega,show(((m - 1).toNat:Nat):Int)=m - 1 by omega] at a1;rw[show 12*(((y - 2000).toNat:Nat):Int)+(((m - 1).toNat:Nat):Int)=(y - 2000)*12+m - 1 by omega] at a2;dsimp only[cond];rw[Kh (a:=m) (by omega),a1,Option.bind_some];cases h6:DM n d;have h6:=K2 h6;dsimp only;rw[Kh (a:=y) (by omega),IM (by omega),CY (by omega),Kh (by omega),a2,Option.bind_some];rw[CY (by omega),Kh (by omega)];exact⟨_,0,rfl,λ_=>by omega⟩;exact bad
theorem abF{c:UInt8}(hc:SN c):w64 (Nh .u8 (eU ((c.toNat:Nat):Int) 48))=(c.toNat:Int) - 48:=by
 have h1:=hc.1;have h2:=hc.2
 have e:Nh .u8 (eU ((c.toNat:Nat):Int) 48)=(c.toNat:Int) - 48:=by
   rw[eV,U7];unfold IntKind.wrap;simp[IntKind.bits,IntKind.signed];omega
 rw[e];unfold w64;exact fD (by omega)
section
variable {i:Nat} {c:UInt8} (h4:i≠4) (h7:i≠7) (hc:SN c) {a b d:Int} (ha:0<=a/\a<=1000) (hb:0<=b/\b<=1000) (hd:0<=d/\d<=1000)
include h4 h7 hc
theorem cl0(ha:0<=a/\a<=1000):Cc i c 0 a b d=some (.nx (0,a*10+((c.toNat:Int) - 48),b,d)):=by
 have h1:=hc.1;have h2:=hc.2;unfold Cc;rw[Ku (a:=(i:Int)) (b:=4) (by omega),Ku (a:=(i:Int)) (b:=7) (by omega),Hh (b:=48) (by omega),Hh (a:=57) (by omega),abF hc];dsimp only[cond];rw[IM (a:=a) (by omega),CY (a:=a*10) (by omega)];rfl
theorem cl1(hb:0<=b/\b<=1000):Cc i c 1 a b d=some (.nx (1,a,b*10+((c.toNat:Int) - 48),d)):=by
 have h1:=hc.1;have h2:=hc.2;unfold Cc;rw[Ku (a:=(i:Int)) (b:=4) (by omega),Ku (a:=(i:Int)) (b:=7) (by omega),Hh (b:=48) (by omega),Hh (a:=57) (by omega),abF hc];dsimp only[cond];rw[IM (a:=b) (by omega),CY (a:=b*10) (by omega)];rfl
theorem cl2(hd:0<=d/\d<=1000):Cc i c 2 a b d=some (.nx (2,a,b,d*10+((c.toNat:Int) - 48))):=by
 have h1:=hc.1;have h2:=hc.2;unfold Cc;rw[Ku (a:=(i:Int)) (b:=4) (by omega),Ku (a:=(i:Int)) (b:=7) (by omega),Hh (b:=48) (by omega),Hh (a:=57) (by omega),abF hc];dsimp only[cond];rw[IM (a:=d) (by omega),CY (a:=d*10) (by omega)];rfl
end
abbrev clF:=C4 (λi y (x:Int×Int×Int×Int)=>Cc i y x.1 x.2.1 x.2.2.1 x.2.2.2) (λx:Int×Int×Int×Int=>(x.2.1,x.2.2.1,x.2.2.2))
section
variable {i:Nat} {c:UInt8} (h4:i≠4) (h7:i≠7) (hc:SN c) {a b d:Int} {l:List UInt8}
include h4 h7 hc
theorem fo0(ha:0<=a/\a<=1000):clF (c::l) i (0,a,b,d)=clF l (i+1) (0,a*10+((c.toNat:Int) - 48),b,d):=by
 show(Cc i c 0 a b d).bind _=_;rw[cl0 h4 h7 hc ha];rfl
theorem fo1(ha:0<=b/\b<=1000):clF (c::l) i (1,a,b,d)=clF l (i+1) (1,a,b*10+((c.toNat:Int) - 48),d):=by
 show(Cc i c 1 a b d).bind _=_;rw[cl1 h4 h7 hc ha];rfl
theorem fo2(ha:0<=d/\d<=1000):clF (c::l) i (2,a,b,d)=clF l (i+1) (2,a,b,d*10+((c.toNat:Int) - 48)):=by
 show(Cc i c 2 a b d).bind _=_;rw[cl2 h4 h7 hc ha];rfl
end
theorem fo4{l:List UInt8}{a b d:Int}:clF (45::l) (0+1+1+1+1) (0,a,b,d)=clF l (0+1+1+1+1+1) (1,a,b,d):=rfl
theorem fo7{l:List UInt8}{a b d:Int}:clF (45::l) (0+1+1+1+1+1+1+1) (1,a,b,d)=clF l (0+1+1+1+1+1+1+1+1) (2,a,b,d):=rfl
theorem vI{c0 c1 c2 c3 c5 c6 c8 c9:UInt8}(h0:SN c0)(h1:SN c1)(h2:SN c2)(h3:SN c3)(h5:SN c5)(h6:SN c6)(h8:SN c8)(h9:SN c9) :
   ∃z e,Fs ⟨([c0,c1,c2,c3,45,c5,c6,45,c8,c9]:List UInt8).toArray⟩=some (z,e)/\(e=0->0<=z/\z<=36524):=by
 have b0:=h0;have b1:=h1;have b2:=h2;have b3:=h3;have b5:=h5;have b6:=h6;have b8:=h8;have b9:=h9;unfold SN at b0 b1 b2 b3 b5 b6 b8 b9;obtain⟨z,e,hz,he⟩:=aaY ((((0*10+((c0.toNat:Int) - 48))*10+((c1.toNat:Int) - 48))*10+((c2.toNat:Int) - 48))*10+((c3.toNat:Int) - 48)) ((0*10+((c5.toNat:Int) - 48))*10+((c6.toNat:Int) - 48)) ((0*10+((c8.toNat:Int) - 48))*10+((c9.toNat:Int) - 48)) (by omega) (by omega) (by omega);refine⟨z,e,?_,he⟩;unfold Fs;rw[IQ (by rfl)];dsimp only[cond]
 have key:C4 (λi y x=>Cc i y x.1 x.2.1 x.2.2.1 x.2.2.2) (λx:Int×Int×Int×Int=>(x.2.1,x.2.2.1,x.2.2.2)) [c0,c1,c2,c3,45,c5,c6,45,c8,c9] 0 (0,0,0,0)=some (.inl ((((0*10+((c0.toNat:Int) - 48))*10+((c1.toNat:Int) - 48))*10+((c2.toNat:Int) - 48))*10+((c3.toNat:Int) - 48),(0*10+((c5.toNat:Int) - 48))*10+((c6.toNat:Int) - 48),(0*10+((c8.toNat:Int) - 48))*10+((c9.toNat:Int) - 48))):=by
   show clF [c0,c1,c2,c3,45,c5,c6,45,c8,c9] 0 (0,0,0,0)=_;rw[fo0 (by decide) (by decide) h0 (by omega)];rw[fo0 (by decide) (by decide) h1 (by omega)];rw[fo0 (by decide) (by decide) h2 (by omega)];rw[fo0 (by decide) (by decide) h3 (by omega)];rw[fo4];rw[fo1 (by decide) (by decide) h5 (by omega)];rw[fo1 (by decide) (by decide) h6 (by omega)];rw[fo7];rw[fo2 (by decide) (by decide) h8 (by omega)];rw[fo2 (by decide) (by decide) h9 (by omega)];rfl
 have hl:Tc ([c0,c1,c2,c3,45,c5,c6,45,c8,c9]:List UInt8).length=λy:Option ((Int×Int×Int)⊕(Int×Int))=>y:=funext λy=>if_pos (by simp);simp only[List.toList_toArray,List.drop_zero];rw[hl,key];dsimp only[Option.bind,MC];rw[hz]
end Mo
end Go.Proofs.YtpbkhogolfegfaaGreatDoor
