/- Part of a proof: see the last text. -/
import Derived.Test.YtpbkhogolfegfaaGreatDoorPgs
set_option linter.unusedVariables false
set_option linter.unusedSimpArgs false
set_option linter.defProp false
noncomputable section
namespace Go.Proofs.YtpbkhogolfegfaaGreatDoor
open AI Go
namespace Mo
set_option maxRecDepth 100000
theorem jK:∀(n:Nat) (a b:Int),1<=a->0<=b->b < n->∃m,EM (λx:Int×Int=>Eb x.1 x.2) m (a,b)=some (.inl (oZ n a b))/\1<=oZ n a b/\oZ n a b∣a/\oZ n a b∣b:=by
 intro n
 induction n with
 | zero=>intro a b h1 h2 h3;omega
 | succ n ih =>
   intro a b h1 h2 h3;unfold oZ;by_cases hb:b=0;rw[if_pos hb];subst hb;refine⟨1,?_,h1,Int.dvd_refl a,Int.dvd_zero a⟩;show(Eb a 0).bind _=_;rw[Eb,Kn rfl];rfl;rw[if_neg hb];obtain⟨m,h4,h5,h6,h7⟩:=ih b (a % b) (by omega) (Int.emod_nonneg a hb) (by have:=Int.emod_lt_of_pos a (show 0 < b by omega);omega);refine⟨m+1,?_,h5,?_,h6⟩;show(Eb a b).bind _=_;rw[Eb,K2 hb]
   have:Ye a b=some (a % b):=by
     unfold Ye aC;rw[if_neg hb,Int.tmod_eq_emod_of_nonneg (by omega)]
   dsimp only[cond];rw[this];exact h4;have:=Int.dvd_add h7 (Int.dvd_mul_of_dvd_left h6:_∣b*(a / b));rwa[Int.emod_add_mul_ediv] at this
theorem adZ{a b g:Int}(h:adY a b=some g):CP a b=some g:=by
 unfold adY at h;split at h;rename_i hc;cases h;obtain⟨m,h1,_⟩:=jK (b.toNat+1) a b hc.1 hc.2 (by omega);unfold CP;rw[Fe h1];rfl;cases h
theorem aeA{a b:Int}(ha:1<=a)(hb:0<=b):∃g,adY a b=some g/\1<=g/\g∣a/\g∣b:=by
 obtain⟨m,_,h1⟩:=jK (b.toNat+1) a b ha hb (by omega);exact⟨_,if_pos ⟨ha,hb⟩,h1⟩
section
variable {α β γ:Type} {ts:List Tk} {k:Nat} {en:Int} {r:α⊕Dg} {l:List Tk}
def JE(ts:List Tk)(k:Nat)(X:Option ((α⊕Dg)×Int))(r:α⊕Dg)(l:List Tk):Prop:=∃k':Nat,k<=k'/\k'<=ts.length/\l=ts.drop k'/\X=some (r,(k':Int))
theorem Er(hk:k<=ts.length){q:α⊕Dg}{z:Int}(hz:z=(k:Int))(h:some (q,ts.drop k)=some (r,l)):JE ts k (some (q,z)) r l:=by
 simp only[Option.some.injEq,Prod.mk.injEq] at h;exact⟨k,Nat.le_refl k,hk,h.2.symm,by rw[h.1,hz]⟩
theorem LJ{k2:Nat}{X:Option ((α⊕Dg)×Int)}(h1:k<=k2)(h:JE ts k2 X r l):JE ts k X r l:=by
 obtain⟨k',a,b,c,d⟩:=h;exact⟨k',Nat.le_trans h1 a,b,c,d⟩
theorem BD{F1:Option ((γ⊕Dg)×Int)}{F2:(γ⊕Dg)×Int->Option ((α⊕Dg)×Int)}{m:Rd γ}{K:γ->Rd α}
   (h1:∀{r l},m (ts.drop k)=some (r,l)->JE ts k F1 r l)
   (h2:∀a k',k<=k'->k'<=ts.length->K a (ts.drop k')=some (r,l)->JE ts k' (F2 (.inl a,(k':Int))) r l)
   (h3:∀d z,F2 (.inr d,z)=some (.inr d,z)) (hS:CF m K (ts.drop k)=some (r,l)):JE ts k (F1.bind F2) r l:=by
 unfold CF at hS;split at hS;cases hS;rename_i a s hm;obtain⟨k',a1,a2,rfl,a4⟩:=h1 hm;rw[a4];exact LJ a1 (h2 _ _ a1 a2 hS);rename_i d s hm;obtain⟨k',a1,a2,rfl,a4⟩:=h1 hm;rw[a4,Option.bind_some,h3];simp only[Option.some.injEq,Prod.mk.injEq] at hS;exact⟨k',a1,a2,hS.2.symm,by rw[hS.1]⟩
theorem Ko{X:Option γ}{K:γ->Rd α}{s:List Tk}(h:MO X K s=some (r,l)):∃a,X=some a/\K a s=some (r,l):=by
 unfold MO at h;split at h;cases h;exact⟨_,rfl,h⟩
theorem JT(ts:List Tk)(hk:k<=ts.length):(k=ts.length/\ts.drop k=[])\/∃t,k+1<=ts.length/\ts[k]?=some t/\ts.drop k=t::ts.drop (k+1):=by
 by_cases h:k < ts.length;exact .inr ⟨ts[k],h,List.getElem?_eq_getElem h,(List.drop_eq_getElem_cons h)⟩;exact .inl ⟨by omega,List.drop_eq_nil_of_le (by omega)⟩
theorem V5{F2:Tk⊕Dg->Option ((α⊕Dg)×Int)}{K:Tk->Rd α}(hk:k<=ts.length)
   (h2:∀t,k+1<=ts.length->ts.drop k=t::ts.drop (k+1)->K t (ts.drop k)=some (r,l)->JE ts k (F2 (.inl t)) r l)
   (h3:∀d,F2 (.inr d)=some (.inr d,(k:Int))) (hS:WZ en K (ts.drop k)=some (r,l)):JE ts k ((AD ⟨ts,k,en⟩).bind F2) r l:=by
 unfold WZ at hS;rcases JT ts hk with ⟨h1,nQ⟩ | ⟨t,h1,nQ,h3'⟩
 rw[nQ] at hS;dsimp only at hS
 have:AD ⟨ts,k,en⟩=some (.inr ⟨72,en⟩):=by
   unfold AD;rw[WB (by dsimp only;omega)];rfl
 rw[this,Option.bind_some,h3];simp only[Option.some.injEq,Prod.mk.injEq] at hS;exact⟨k,Nat.le_refl k,hk,by rw[nQ,hS.2],by rw[hS.1]⟩;rw[h3'] at hS;dsimp only at hS
 have:AD ⟨ts,k,en⟩=some (.inl t):=by
   unfold AD;rw[Tz (by dsimp only;omega)];dsimp only[cond];unfold Ha;rw[if_pos (by omega),Int.toNat_natCast,nQ];rfl
 rw[this,Option.bind_some];exact h2 t h1 h3' (by rw[h3'];exact hS)
theorem GZ(hk:k<=ts.length)(x:ByteArray):Aq ⟨ts,k,en⟩ x=some (Ku x (ts.drop k)):=by
 unfold Aq;rcases JT ts hk with ⟨h1,nQ⟩ | ⟨t,h1,nQ,h3'⟩
 rw[nQ,He (by dsimp only;omega)];rfl;rw[h3',Ij (by dsimp only;omega)];dsimp only[cond];unfold Ha;rw[if_pos (by omega),Int.toNat_natCast,nQ];rfl
theorem Ze{x:ByteArray}(hk:k<=ts.length)(h:Ku x (ts.drop k)=true):∃t,k+1<=ts.length/\ts.drop k=t::ts.drop (k+1):=by
 rcases JT ts hk with ⟨h1,nQ⟩ | ⟨t,h1,nQ,h3'⟩
 rw[nQ] at h;cases h;exact⟨t,h1,h3'⟩
theorem Ey(D0:ts.length<=1000000)(hk:k<=ts.length):BF (k:Int) 1=((k+1:Nat):Int):=by
 rw[Dq (by omega)];rfl
theorem Z1{K:Rd α}{t:Tk}(ht:ts.drop k=t::ts.drop (k+1))(h:Xw K (ts.drop k)=some (r,l)):K (ts.drop (k+1))=some (r,l):=by
 rw[ht] at h;exact h
theorem vL{F2:Bool->Option ((α⊕Dg)×Int)}{A B:Rd α}{x:ByteArray}(hk:k<=ts.length)
   (h1:k+1<=ts.length->A (ts.drop (k+1))=some (r,l)->JE ts (k+1) (F2 true) r l) (h2:B (ts.drop k)=some (r,l)->JE ts k (F2 false) r l)
   (hS:PI x A B (ts.drop k)=some (r,l)):JE ts k ((Aq ⟨ts,k,en⟩ x).bind F2) r l:=by
 unfold PI at hS;rw[GZ hk,Option.bind_some];cases hx:Ku x (ts.drop k) with
 | true =>
   rw[hx] at hS;obtain⟨t,ht1,ht2⟩:=Ze hk hx;exact LJ (Nat.le_succ k) (h1 ht1 (Z1 ht2 hS))
 | false =>
   rw[hx] at hS;exact h2 hS
end
section
variable {ts:List Tk} (D0:ts.length<=1000000) {en:Int}
include D0
theorem Q8(fits:Tk->Option Bool){k:Nat}(hk:k<=ts.length){r l}(hS:MU en fits (ts.drop k)=some (r,l)) :
   JE ts k ((AD ⟨ts,k,en⟩).bind λy1=>Sum.elim (λ(CJ:Tk)=>(fits CJ).bind λy2=>cond y2 (some ((Sum.inl CJ:(Tk⊕Dg)),(BF (k:Int) 1))) (some ((Sum.inr (⟨71,CJ.AW⟩:Dg):(Tk⊕Dg)),(k:Int)))) (λ(LU:Dg)=>some ((Sum.inr LU:(Tk⊕Dg)),(k:Int))) y1) r l:=by
 refine V5 hk (λt h1 h2 hS=>?_) (λ_=>rfl) hS;obtain⟨b,hb,hS⟩:=Ko hS;dsimp only[Sum.elim];rw[hb,Option.bind_some];cases b with
 | true =>
   have:=Z1 h2 hS;rw[cond,Ey D0 hk];exact LJ (Nat.le_succ k) (Er h1 rfl this)
 | false=>exact Er hk rfl hS
theorem I7(x:ByteArray){k:Nat}(hk:k<=ts.length){r l}(hS:J8 en x (ts.drop k)=some (r,l)):JE ts k (Ak ⟨ts,k,en⟩ x) r l:=by
 obtain⟨k',a1,a2,a3,a4⟩:=Q8 D0 (λt=>Dt t x) hk hS;refine⟨k',a1,a2,a3,?_⟩;unfold Ak Gw;rw[a4,Option.bind_some];cases r<;>rfl
theorem agR{k:Nat}(hk:k<=ts.length){r l}(hS:bC en (ts.drop k)=some (r,l)):JE ts k (DB ⟨ts,k,en⟩) r l:=Q8 D0 Ct hk hS
theorem aCU{k:Nat}(hk:k<=ts.length){r l}(hS:mL en (ts.drop k)=some (r,l)):JE ts k (EJ ⟨ts,k,en⟩) r l:=Q8 D0 Fb hk hS
theorem aBX{k:Nat}(hk:k<=ts.length){r l}(hS:bM en (ts.drop k)=some (r,l)):JE ts k (Gc ⟨ts,k,en⟩) r l:=Q8 D0 BV hk hS
theorem kR{k:Nat}(hk:k<=ts.length){r l}(hS:O5 en (ts.drop k)=some (r,l)):JE ts k (ET ⟨ts,k,en⟩) r l:=by
 refine BD (λh=>Q8 D0 En hk h) (λt k' h1 h2 hS=>?_) (λ_ _=>rfl) hS;obtain⟨n,hn,hS⟩:=Ko hS;dsimp only[Sum.elim];rw[hn];exact Er h2 rfl hS
theorem Pb(least:Int){k:Nat}(hk:k<=ts.length){r l}(hS:Nc en least (ts.drop k)=some (r,l)):JE ts k (AK ⟨ts,k,en⟩ least) r l:=by
 refine BD (λh=>kR D0 hk h) (λt k' h1 h2 hS=>?_) (λ_ _=>rfl) hS;dsimp only[Sum.elim];revert hS;cases Ev t.1 least;cases Ev 1000000 t.1<;>exact λhS=>Er h2 rfl hS
 exact λhS=>Er h2 rfl hS
theorem dM(least:Int){k:Nat}(hk:k<=ts.length){r l}(hS:Tn en least (ts.drop k)=some (r,l)):JE ts k (DT ⟨ts,k,en⟩ least) r l:=by
 refine BD (λh=>Q8 D0 ES hk h) (λt k' h1 h2 hS=>?_) (λ_ _=>rfl) hS;obtain⟨n,hn,hS⟩:=Ko hS;dsimp only[Sum.elim];rw[hn,Option.bind_some];revert hS;cases Dh n.2 0;exact λhS=>Er h2 rfl hS;cases Ev n.1 least<;>exact λhS=>Er h2 rfl hS
theorem ayU{k:Nat}(hk:k<=ts.length){r l}(hS:Yv en (ts.drop k)=some (r,l)):JE ts k (Hw ⟨ts,k,en⟩) r l:=by
 refine BD (λh=>I7 D0 _ hk h) (λt k h hk hS=>?_) (λ_ _=>rfl) hS;refine BD (λh=>Pb D0 _ hk h) (λn k h hk hS=>?_) (λ_ _=>rfl) hS;refine BD (λh=>I7 D0 _ hk h) (λ_ k h hk hS=>?_) (λ_ _=>rfl) hS;refine BD (λh=>dM D0 _ hk h) (λf k h hk hS=>?_) (λ_ _=>rfl) hS;refine vL hk (λhk1 hS=>?_) (λhS=>?_) hS;dsimp only[cond];rw[Ey D0 hk];refine BD (λh=>dM D0 _ hk1 h) (λu k h hk hS=>?_) (λ_ _=>rfl) hS;refine BD (λh=>I7 D0 _ hk h) (λ_ k h hk hS=>?_) (λ_ _=>rfl) hS;refine BD (λh=>dM D0 _ hk h) (λf k h hk hS=>?_) (λ_ _=>rfl) hS;exact Er hk rfl hS;refine BD (λh=>I7 D0 _ hk h) (λ_ k h hk hS=>?_) (λ_ _=>rfl) hS;refine BD (λh=>dM D0 _ hk h) (λf k h hk hS=>?_) (λ_ _=>rfl) hS;exact Er hk rfl hS
theorem adA{k:Nat}(hk:k<=ts.length){r l}(hS:To en (ts.drop k)=some (r,l)):JE ts k (DA ⟨ts,k,en⟩) r l:=by
 refine V5 hk (λt h1 h2 hS=>?_) (λ_=>rfl) hS;have hS:=Z1 h2 hS;dsimp only[Sum.elim];rw[Ey D0 hk];refine LJ (Nat.le_succ k) ?_;refine BD (λh=>agR D0 h1 h) (λm k h hk hS=>?_) (λ_ _=>rfl) hS;refine BD (λh=>I7 D0 _ hk h) (λ_ k h hk hS=>?_) (λ_ _=>rfl) hS;refine BD (λh=>aCU D0 hk h) (λu k h hk hS=>?_) (λ_ _=>rfl) hS;dsimp only[Sum.elim];revert hS;cases B1 t.text.data.toList O4.data.toList;intro hS;refine BD (λh=>I7 D0 _ hk h) (λ_ k h hk hS=>?_) (λ_ _=>rfl) hS;exact Er hk rfl hS;intro hS;refine BD (λh=>aBX D0 hk h) (λq k h hk hS=>?_) (λ_ _=>rfl) hS;obtain⟨n,hn,hS⟩:=Ko hS;dsimp only[Sum.elim];rw[hn,Option.bind_some];refine BD (λh=>I7 D0 _ hk h) (λ_ k h hk hS=>?_) (λ_ _=>rfl) hS;exact Er hk rfl hS
theorem Vd{k:Nat}(hk:k<=ts.length){r l}(hS:Hr en (ts.drop k)=some (r,l)):JE ts k (AO ⟨ts,k,en⟩) r l:=by
 refine BD (λh=>Pb D0 _ hk h) (λn k h hk hS=>?_) (λ_ _=>rfl) hS;exact Er hk rfl hS
theorem gH{k:Nat}(hk:k<=ts.length){r l}(hS:PM en (ts.drop k)=some (r,l)):JE ts k (BT ⟨ts,k,en⟩) r l:=by
 refine BD (λh=>Q8 D0 Df hk h) (λt k' h1 h2 hS=>?_) (λ_ _=>rfl) hS;obtain⟨n,hn,hS⟩:=Ko hS;dsimp only[Sum.elim];rw[hn,Option.bind_some];revert hS;cases Dh t.kind 3;exact λhS=>Er h2 rfl hS;cases Dh n 0<;>exact λhS=>Er h2 rfl hS
theorem aiX{k:Nat}(hk:k<=ts.length){r l}(hS:Zf en (ts.drop k)=some (r,l)):JE ts k (Ch ⟨ts,k,en⟩) r l:=by
 refine BD (λh=>Q8 D0 EV hk h) (λt k' h1 h2 hS=>?_) (λ_ _=>rfl) hS;dsimp only[Sum.elim];revert hS;cases B1 t.text.data.toList Li.data.toList<;>exact λhS=>Er h2 rfl hS
end
end Mo
end Go.Proofs.YtpbkhogolfegfaaGreatDoor
namespace Go.Proofs.YtpbkhogolfegfaaGreatDoor
open AI Go
namespace Mo
set_option maxRecDepth 100000
section
variable {α β:Type} {ts:List Tk} {k:Nat} {en:Int} {r:α⊕Dg} {l:List Tk}
theorem QT(N:Nd):(⟨N.kind,N.name,N.unit,N.n,N.fr,N.to,N.known,⟨N.CO.den,N.CO.ps⟩,N.kids,N.AW⟩:Nd)=N:=by cases N;rfl
theorem Km{m:Rd β}{K:β->Rd α}{s:List Tk}(h:CF m K s=some (r,l)):(∃a s',m s=some (.inl a,s')/\K a s'=some (r,l))\/∃d,m s=some (.inr d,l)/\r=.inr d:=by
 unfold CF at h;split at h;cases h;rename_i a s' hm;exact .inl ⟨a,s',hm,h⟩;rename_i d s' hm;simp only[Option.some.injEq,Prod.mk.injEq] at h;exact .inr ⟨d,by rw[hm,h.2],h.1.symm⟩
theorem LK{A B:Rd α}{x:ByteArray}(hk:k<=ts.length)(h:PI x A B (ts.drop k)=some (r,l)) :
   (Ku x (ts.drop k)=true/\k+1<=ts.length/\A (ts.drop (k+1))=some (r,l))\/(Ku x (ts.drop k)=false/\B (ts.drop k)=some (r,l)):=by
 unfold PI at h;cases hx:Ku x (ts.drop k) with
 | true =>
   rw[hx] at h;obtain⟨t,ht1,ht2⟩:=Ze hk hx;exact .inl ⟨rfl,ht1,Z1 ht2 h⟩
 | false =>
   rw[hx] at h;exact .inr ⟨rfl,h⟩
theorem ahB{K:Rd α}(hk:k<=ts.length)(h:Xw K (ts.drop k)=some (r,l)):k+1<=ts.length/\K (ts.drop (k+1))=some (r,l):=by
 rcases JT ts hk with ⟨h1,nQ⟩ | ⟨t,h1,nQ,h3'⟩
 rw[nQ] at h;cases h;exact⟨h1,Z1 h3' h⟩
theorem O3{n:Nat}{m:Rd α}{s:List Tk}(h:Qi n m s=some (r,l)):n<=100000000/\m s=some (r,l):=agG h
theorem LY{a:β}{q:β⊕Dg}{s:List Tk}(h:GK a s=some (q,l)):q=.inl a/\l=s:=by
 simp only[GK,Option.some.injEq,Prod.mk.injEq] at h;exact⟨h.1.symm,h.2.symm⟩
theorem N5{e p:Int}{s:List Tk}(h:Nb e p s=some (r,l)):r=.inr ⟨e,p⟩/\l=s:=by
 simp only[Nb,Option.some.injEq,Prod.mk.injEq] at h;exact⟨h.1.symm,h.2.symm⟩
theorem apP{yes:ByteArray->Rd α}{no:Rd α}(hk:k<=ts.length)(hS:qQ yes no (opsOf 0) (ts.drop k)=some (r,l)) :
   (∃x,k+1<=ts.length/\C9 ⟨ts,k,en⟩=some (x,true)/\yes x (ts.drop (k+1))=some (r,l))\/(C9 ⟨ts,k,en⟩=some (bE,false)/\no (ts.drop k)=some (r,l)):=by
 unfold C9;simp only[GZ hk,Option.bind_some];rcases LK hk hS with ⟨h0,h,hy⟩ | ⟨h0,hS⟩
 refine .inl ⟨_,h,?_,hy⟩;simp only[h0,cond_true,cond_false];refine .inr ⟨?_,hS⟩;simp only[h0,cond_false]
theorem apQ{yes:ByteArray->Rd α}{no:Rd α}(hk:k<=ts.length)(hS:qQ yes no (opsOf 1) (ts.drop k)=some (r,l)) :
   (∃x,k+1<=ts.length/\Da ⟨ts,k,en⟩=some (x,true)/\yes x (ts.drop (k+1))=some (r,l))\/(Da ⟨ts,k,en⟩=some (bE,false)/\no (ts.drop k)=some (r,l)):=by
 unfold Da;simp only[GZ hk,Option.bind_some];rcases LK hk hS with ⟨h0,h,hy⟩ | ⟨h0,hS⟩
 refine .inl ⟨_,h,?_,hy⟩;simp only[h0,cond_true,cond_false];refine .inr ⟨?_,hS⟩;simp only[h0,cond_false]
theorem apR{yes:ByteArray->Rd α}{no:Rd α}(hk:k<=ts.length)(hS:qQ yes no (opsOf 3) (ts.drop k)=some (r,l)) :
   (∃x,k+1<=ts.length/\Db ⟨ts,k,en⟩=some (x,true)/\yes x (ts.drop (k+1))=some (r,l))\/(Db ⟨ts,k,en⟩=some (bE,false)/\no (ts.drop k)=some (r,l)):=by
 unfold Db;simp only[GZ hk,Option.bind_some];rcases LK hk hS with ⟨h0,h,hy⟩ | ⟨h0,hS⟩
 refine .inl ⟨_,h,?_,hy⟩;simp only[h0,cond_true,cond_false];rcases LK hk hS with ⟨h1,h,hy⟩ | ⟨h1,hS⟩
 refine .inl ⟨_,h,?_,hy⟩;simp only[h0,h1,cond_true,cond_false];rcases LK hk hS with ⟨h2,h,hy⟩ | ⟨h2,hS⟩
 refine .inl ⟨_,h,?_,hy⟩;simp only[h0,h1,h2,cond_true,cond_false];rcases LK hk hS with ⟨h3,h,hy⟩ | ⟨h3,hS⟩
 refine .inl ⟨_,h,?_,hy⟩;simp only[h0,h1,h2,h3,cond_true,cond_false];rcases LK hk hS with ⟨h4,h,hy⟩ | ⟨h4,hS⟩
 refine .inl ⟨_,h,?_,hy⟩;simp only[h0,h1,h2,h3,h4,cond_true,cond_false];rcases LK hk hS with ⟨h5,h,hy⟩ | ⟨h5,hS⟩
 refine .inl ⟨_,h,?_,hy⟩;simp only[h0,h1,h2,h3,h4,h5,cond_true,cond_false];refine .inr ⟨?_,hS⟩;simp only[h0,h1,h2,h3,h4,h5,cond_false]
theorem apS{yes:ByteArray->Rd α}{no:Rd α}(hk:k<=ts.length)(hS:qQ yes no (opsOf 4) (ts.drop k)=some (r,l)) :
   (∃x,k+1<=ts.length/\Dd ⟨ts,k,en⟩=some (x,true)/\yes x (ts.drop (k+1))=some (r,l))\/(Dd ⟨ts,k,en⟩=some (bE,false)/\no (ts.drop k)=some (r,l)):=by
 unfold Dd;simp only[GZ hk,Option.bind_some];rcases LK hk hS with ⟨h0,h,hy⟩ | ⟨h0,hS⟩
 refine .inl ⟨_,h,?_,hy⟩;simp only[h0,cond_true,cond_false];rcases LK hk hS with ⟨h1,h,hy⟩ | ⟨h1,hS⟩
 refine .inl ⟨_,h,?_,hy⟩;simp only[h0,h1,cond_true,cond_false];refine .inr ⟨?_,hS⟩;simp only[h0,h1,cond_false]
theorem apT{yes:ByteArray->Rd α}{no:Rd α}(hk:k<=ts.length)(hS:qQ yes no (opsOf 5) (ts.drop k)=some (r,l)) :
   (∃x,k+1<=ts.length/\De ⟨ts,k,en⟩=some (x,true)/\yes x (ts.drop (k+1))=some (r,l))\/(De ⟨ts,k,en⟩=some (bE,false)/\no (ts.drop k)=some (r,l)):=by
 unfold De;simp only[GZ hk,Option.bind_some];rcases LK hk hS with ⟨h0,h,hy⟩ | ⟨h0,hS⟩
 refine .inl ⟨_,h,?_,hy⟩;simp only[h0,cond_true,cond_false];rcases LK hk hS with ⟨h1,h,hy⟩ | ⟨h1,hS⟩
 refine .inl ⟨_,h,?_,hy⟩;simp only[h0,h1,cond_true,cond_false];rcases LK hk hS with ⟨h2,h,hy⟩ | ⟨h2,hS⟩
 refine .inl ⟨_,h,?_,hy⟩;simp only[h0,h1,h2,cond_true,cond_false];refine .inr ⟨?_,hS⟩;simp only[h0,h1,h2,cond_false]
end
structure Agr(R:Ad)(ts:List Tk)(en:Int)(g:Ek->Rd Nd)(li:Rd (List Nd)):Prop where
 ex:∀{k:Nat},k<=ts.length->∀{r l},g .ex (ts.drop k)=some (r,l)->JE ts k (R.AN ⟨ts,k,en⟩) r l
 l0:∀{k:Nat},k<=ts.length->∀{r l},g (.lv 0) (ts.drop k)=some (r,l)->JE ts k (R.Eh ⟨ts,k,en⟩) r l
 l1:∀{k:Nat},k<=ts.length->∀{r l},g (.lv 1) (ts.drop k)=some (r,l)->JE ts k (R.B2 ⟨ts,k,en⟩) r l
 l2:∀{k:Nat},k<=ts.length->∀{r l},g (.lv 2) (ts.drop k)=some (r,l)->JE ts k (R.BG ⟨ts,k,en⟩) r l
 l3:∀{k:Nat},k<=ts.length->∀{r l},g (.lv 3) (ts.drop k)=some (r,l)->JE ts k (R.Cy ⟨ts,k,en⟩) r l
 l4:∀{k:Nat},k<=ts.length->∀{r l},g (.lv 4) (ts.drop k)=some (r,l)->JE ts k (R.Cz ⟨ts,k,en⟩) r l
 l5:∀{k:Nat},k<=ts.length->∀{r l},g (.lv 5) (ts.drop k)=some (r,l)->JE ts k (R.B5 ⟨ts,k,en⟩) r l
 l6:∀{k:Nat},k<=ts.length->∀{r l},g (.lv 6) (ts.drop k)=some (r,l)->JE ts k (R.B8 ⟨ts,k,en⟩) r l
 at_:∀{k:Nat},k<=ts.length->∀{r l},g .at_ (ts.drop k)=some (r,l)->JE ts k (R.Fv ⟨ts,k,en⟩) r l
 wd:∀(t:Tk) {k:Nat},k<=ts.length->∀{r l},g (.wd t) (ts.drop k)=some (r,l)->JE ts k (R.Fx ⟨ts,k,en⟩ t) r l
 ca:∀{k:Nat},k<=ts.length->∀{r l},g .ca (ts.drop k)=some (r,l)->JE ts k (R.Dm ⟨ts,k,en⟩) r l
 ta:∀{k:Nat},k<=ts.length->∀{r l},g .ta (ts.drop k)=some (r,l)->JE ts k (R.E8 ⟨ts,k,en⟩) r l
 li:∀{k:Nat},k<=ts.length->∀{r l},li (ts.drop k)=some (r,l)->JE ts k (R.DL ⟨ts,k,en⟩) r l
section
variable {ts:List Tk} (D0:ts.length<=1000000) {en:Int}
include D0
theorem NH{sub:Rd Nd}{F:Pr->Option ((Nd⊕Dg)×Int)}{k:Nat}(hk:k<=ts.length)(L4:∀{r l},sub (ts.drop k)=some (r,l)->JE ts k (F ⟨ts,k,en⟩) r l){x:ByteArray}{N:Nd}{r l}(hS:Sw en sub x N (ts.drop k)=some (r,l)) :
   ∃k':Nat,k<=k'/\k'<=ts.length/\l=ts.drop k'/\((∃n b,cond (B1 x.data.toList ED.data.toList) (AO ⟨ts,k,en⟩) (F ⟨ts,k,en⟩)=some (.inl n,(k':Int))/\Bl x N n=some b/\r=.inl b)\/∃d,cond (B1 x.data.toList ED.data.toList) (AO ⟨ts,k,en⟩) (F ⟨ts,k,en⟩)=some (.inr d,(k':Int))/\r=.inr d):=by
 have key:∀{r l},(cond (B1 x.data.toList ED.data.toList) (Hr en) sub) (ts.drop k)=some (r,l)->JE ts k (cond (B1 x.data.toList ED.data.toList) (AO ⟨ts,k,en⟩) (F ⟨ts,k,en⟩)) r l:=by
   intro r l h;revert h;cases B1 x.data.toList ED.data.toList;exact λh=>L4 h;exact λh=>Vd D0 hk h
 rcases Km hS with ⟨n,s',h1,h2⟩ | ⟨d,h1,h2⟩
 obtain⟨b,hb,h2⟩:=Ko h2;obtain⟨rfl,rfl⟩:=LY h2;obtain⟨k',a1,a2,a3,a4⟩:=key h1;exact⟨k',a1,a2,a3,.inl ⟨n,b,a4,hb,rfl⟩⟩;obtain⟨k',a1,a2,a3,a4⟩:=key h1;exact⟨k',a1,a2,a3,.inr ⟨d,a4,h2⟩⟩
theorem acJ{R:Ad}{sub:Rd Nd}(L4:∀{k:Nat},k<=ts.length->∀{r l},sub (ts.drop k)=some (r,l)->JE ts k (R.B2 ⟨ts,k,en⟩) r l)(k0:Int) :
   ∀(q:Nat) (N:Nd) (k:Nat) (r:Nd⊕Dg) (l:List Tk),k<=ts.length->L0 en (opsOf 0) sub q N (ts.drop k)=some (r,l) ->
   ∃k':Nat,k<=k'/\k'<=ts.length/\l=ts.drop k'/\∃n,EM (λx=>Bw R ⟨ts,k0,en⟩ x.1 x.2.1 x.2.2.1 x.2.2.2.1 x.2.2.2.2.1 x.2.2.2.2.2.1 x.2.2.2.2.2.2.1 x.2.2.2.2.2.2.2.1 x.2.2.2.2.2.2.2.2.1 x.2.2.2.2.2.2.2.2.2.1 x.2.2.2.2.2.2.2.2.2.2.1 x.2.2.2.2.2.2.2.2.2.2.2) n (N.kind,N.name,N.unit,N.n,N.fr,N.to,N.known,N.CO.den,N.CO.ps,N.kids,N.AW,(k:Int))=some (.inr (r,(k':Int))):=by
 intro q
 induction q with
 | zero=>intro N k r l hk hS;cases hS
 | succ q ih =>
   intro N k r l hk hS;rcases apP (en:=en) hk hS with ⟨x,h1,h2,hS⟩ | ⟨h2,hS⟩
   rcases Km hS with ⟨b,s',h3,h4⟩ | ⟨d,h3,rfl⟩
   obtain⟨k',a1,a2,rfl,⟨n,b',hX,hb,hr⟩ | ⟨d,hX,hr⟩⟩:=NH D0 h1 (λh=>L4 h1 h) h3;cases hr;obtain⟨k2,b1,b2,b3,m,b4⟩:=ih b k' r l a2 h4;refine⟨k2,by omega,b2,b3,m+1,?_⟩
   have hL:Bw R ⟨ts,k0,en⟩ N.kind N.name N.unit N.n N.fr N.to N.known N.CO.den N.CO.ps N.kids N.AW (k:Int)=some (.nx (b.kind,b.name,b.unit,b.n,b.fr,b.to,b.known,b.CO.den,b.CO.ps,b.kids,b.AW,(k':Int))):=by
     unfold Bw;dsimp only;rw[h2];dsimp only[Option.bind,cond];rw[Ey D0 hk];cases hE:B1 x.data.toList ED.data.toList <;>
     · rw[hE] at hX;dsimp only[cond] at hX;dsimp only
       rw[hX];dsimp only[Sum.elim];rw[QT,hb]
   show(Bw R ⟨ts,k0,en⟩ N.kind N.name N.unit N.n N.fr N.to N.known N.CO.den N.CO.ps N.kids N.AW (k:Int)).bind _=_;rw[hL];exact b4;cases hr;obtain⟨k',a1,a2,rfl,⟨n,b',hX,hb,hr⟩ | ⟨d',hX,hr⟩⟩:=NH D0 h1 (λh=>L4 h1 h) h3;cases hr;cases hr;refine⟨k',by omega,a2,rfl,1,?_⟩
   have hL:Bw R ⟨ts,k0,en⟩ N.kind N.name N.unit N.n N.fr N.to N.known N.CO.den N.CO.ps N.kids N.AW (k:Int)=some (.rt (.inr d,(k':Int))):=by
     unfold Bw;dsimp only;rw[h2];dsimp only[Option.bind,cond];rw[Ey D0 hk];cases hE:B1 x.data.toList ED.data.toList <;>
     · rw[hE] at hX;dsimp only[cond] at hX;dsimp only
       rw[hX];rfl
   show(Bw R ⟨ts,k0,en⟩ N.kind N.name N.unit N.n N.fr N.to N.known N.CO.den N.CO.ps N.kids N.AW (k:Int)).bind _=_;rw[hL];rfl;obtain⟨rfl,rfl⟩:=LY hS;refine⟨k,Nat.le_refl k,hk,rfl,1,?_⟩
   have hL:Bw R ⟨ts,k0,en⟩ N.kind N.name N.unit N.n N.fr N.to N.known N.CO.den N.CO.ps N.kids N.AW (k:Int)=some (.rt (.inl N,(k:Int))):=by
     unfold Bw;dsimp only;rw[h2,QT];rfl
   show(Bw R ⟨ts,k0,en⟩ N.kind N.name N.unit N.n N.fr N.to N.known N.CO.den N.CO.ps N.kids N.AW (k:Int)).bind _=_;rw[hL];rfl
theorem afZ{R:Ad}{g:Ek->Rd Nd}(L4:∀{k:Nat},k<=ts.length->∀{r l},g (.lv 1) (ts.drop k)=some (r,l)->JE ts k (R.B2 ⟨ts,k,en⟩) r l){k:Nat}(hk:k<=ts.length){r l}(hS:Py en g 0 (ts.drop k)=some (r,l)) :
   JE ts k (F7 R ⟨ts,k,en⟩) r l:=by
 refine BD (λh=>L4 hk h) (λN k' h1 h2 hS=>?_) (λ_ _=>rfl) hS;obtain⟨k2,a1,a2,a3,n,a4⟩:=acJ D0 L4 (k:Int) _ N k' r l h2 hS;refine⟨k2,a1,a2,a3,?_⟩;dsimp only[Sum.elim];rw[Fe a4];rfl
theorem acK{R:Ad}{sub:Rd Nd}(L4:∀{k:Nat},k<=ts.length->∀{r l},sub (ts.drop k)=some (r,l)->JE ts k (R.BG ⟨ts,k,en⟩) r l)(k0:Int) :
   ∀(q:Nat) (N:Nd) (k:Nat) (r:Nd⊕Dg) (l:List Tk),k<=ts.length->L0 en (opsOf 1) sub q N (ts.drop k)=some (r,l) ->
   ∃k':Nat,k<=k'/\k'<=ts.length/\l=ts.drop k'/\∃n,EM (λx=>By R ⟨ts,k0,en⟩ x.1 x.2.1 x.2.2.1 x.2.2.2.1 x.2.2.2.2.1 x.2.2.2.2.2.1 x.2.2.2.2.2.2.1 x.2.2.2.2.2.2.2.1 x.2.2.2.2.2.2.2.2.1 x.2.2.2.2.2.2.2.2.2.1 x.2.2.2.2.2.2.2.2.2.2.1 x.2.2.2.2.2.2.2.2.2.2.2) n (N.kind,N.name,N.unit,N.n,N.fr,N.to,N.known,N.CO.den,N.CO.ps,N.kids,N.AW,(k:Int))=some (.inr (r,(k':Int))):=by
 intro q
 induction q with
 | zero=>intro N k r l hk hS;cases hS
 | succ q ih =>
   intro N k r l hk hS;rcases apQ (en:=en) hk hS with ⟨x,h1,h2,hS⟩ | ⟨h2,hS⟩
   rcases Km hS with ⟨b,s',h3,h4⟩ | ⟨d,h3,rfl⟩
   obtain⟨k',a1,a2,rfl,⟨n,b',hX,hb,hr⟩ | ⟨d,hX,hr⟩⟩:=NH D0 h1 (λh=>L4 h1 h) h3;cases hr;obtain⟨k2,b1,b2,b3,m,b4⟩:=ih b k' r l a2 h4;refine⟨k2,by omega,b2,b3,m+1,?_⟩
   have hL:By R ⟨ts,k0,en⟩ N.kind N.name N.unit N.n N.fr N.to N.known N.CO.den N.CO.ps N.kids N.AW (k:Int)=some (.nx (b.kind,b.name,b.unit,b.n,b.fr,b.to,b.known,b.CO.den,b.CO.ps,b.kids,b.AW,(k':Int))):=by
     unfold By;dsimp only;rw[h2];dsimp only[Option.bind,cond];rw[Ey D0 hk];cases hE:B1 x.data.toList ED.data.toList <;>
     · rw[hE] at hX;dsimp only[cond] at hX;dsimp only
       rw[hX];dsimp only[Sum.elim];rw[QT,hb]
   show(By R ⟨ts,k0,en⟩ N.kind N.name N.unit N.n N.fr N.to N.known N.CO.den N.CO.ps N.kids N.AW (k:Int)).bind _=_;rw[hL];exact b4;cases hr;obtain⟨k',a1,a2,rfl,⟨n,b',hX,hb,hr⟩ | ⟨d',hX,hr⟩⟩:=NH D0 h1 (λh=>L4 h1 h) h3;cases hr;cases hr;refine⟨k',by omega,a2,rfl,1,?_⟩
   have hL:By R ⟨ts,k0,en⟩ N.kind N.name N.unit N.n N.fr N.to N.known N.CO.den N.CO.ps N.kids N.AW (k:Int)=some (.rt (.inr d,(k':Int))):=by
     unfold By;dsimp only;rw[h2];dsimp only[Option.bind,cond];rw[Ey D0 hk];cases hE:B1 x.data.toList ED.data.toList <;>
     · rw[hE] at hX;dsimp only[cond] at hX;dsimp only
       rw[hX];rfl
   show(By R ⟨ts,k0,en⟩ N.kind N.name N.unit N.n N.fr N.to N.known N.CO.den N.CO.ps N.kids N.AW (k:Int)).bind _=_;rw[hL];rfl;obtain⟨rfl,rfl⟩:=LY hS;refine⟨k,Nat.le_refl k,hk,rfl,1,?_⟩
   have hL:By R ⟨ts,k0,en⟩ N.kind N.name N.unit N.n N.fr N.to N.known N.CO.den N.CO.ps N.kids N.AW (k:Int)=some (.rt (.inl N,(k:Int))):=by
     unfold By;dsimp only;rw[h2,QT];rfl
   show(By R ⟨ts,k0,en⟩ N.kind N.name N.unit N.n N.fr N.to N.known N.CO.den N.CO.ps N.kids N.AW (k:Int)).bind _=_;rw[hL];rfl
theorem agA{R:Ad}{g:Ek->Rd Nd}(L4:∀{k:Nat},k<=ts.length->∀{r l},g (.lv 2) (ts.drop k)=some (r,l)->JE ts k (R.BG ⟨ts,k,en⟩) r l){k:Nat}(hk:k<=ts.length){r l}(hS:Py en g 1 (ts.drop k)=some (r,l)) :
   JE ts k (F8 R ⟨ts,k,en⟩) r l:=by
 refine BD (λh=>L4 hk h) (λN k' h1 h2 hS=>?_) (λ_ _=>rfl) hS;obtain⟨k2,a1,a2,a3,n,a4⟩:=acK D0 L4 (k:Int) _ N k' r l h2 hS;refine⟨k2,a1,a2,a3,?_⟩;dsimp only[Sum.elim];rw[Fe a4];rfl
theorem acL{R:Ad}{sub:Rd Nd}(L4:∀{k:Nat},k<=ts.length->∀{r l},sub (ts.drop k)=some (r,l)->JE ts k (R.B5 ⟨ts,k,en⟩) r l)(k0:Int) :
   ∀(q:Nat) (N:Nd) (k:Nat) (r:Nd⊕Dg) (l:List Tk),k<=ts.length->L0 en (opsOf 4) sub q N (ts.drop k)=some (r,l) ->
   ∃k':Nat,k<=k'/\k'<=ts.length/\l=ts.drop k'/\∃n,EM (λx=>Bz R ⟨ts,k0,en⟩ x.1 x.2.1 x.2.2.1 x.2.2.2.1 x.2.2.2.2.1 x.2.2.2.2.2.1 x.2.2.2.2.2.2.1 x.2.2.2.2.2.2.2.1 x.2.2.2.2.2.2.2.2.1 x.2.2.2.2.2.2.2.2.2.1 x.2.2.2.2.2.2.2.2.2.2.1 x.2.2.2.2.2.2.2.2.2.2.2) n (N.kind,N.name,N.unit,N.n,N.fr,N.to,N.known,N.CO.den,N.CO.ps,N.kids,N.AW,(k:Int))=some (.inr (r,(k':Int))):=by
 intro q
 induction q with
 | zero=>intro N k r l hk hS;cases hS
 | succ q ih =>
   intro N k r l hk hS;rcases apS (en:=en) hk hS with ⟨x,h1,h2,hS⟩ | ⟨h2,hS⟩
   rcases Km hS with ⟨b,s',h3,h4⟩ | ⟨d,h3,rfl⟩
   obtain⟨k',a1,a2,rfl,⟨n,b',hX,hb,hr⟩ | ⟨d,hX,hr⟩⟩:=NH D0 h1 (λh=>L4 h1 h) h3;cases hr;obtain⟨k2,b1,b2,b3,m,b4⟩:=ih b k' r l a2 h4;refine⟨k2,by omega,b2,b3,m+1,?_⟩
   have hL:Bz R ⟨ts,k0,en⟩ N.kind N.name N.unit N.n N.fr N.to N.known N.CO.den N.CO.ps N.kids N.AW (k:Int)=some (.nx (b.kind,b.name,b.unit,b.n,b.fr,b.to,b.known,b.CO.den,b.CO.ps,b.kids,b.AW,(k':Int))):=by
     unfold Bz;dsimp only;rw[h2];dsimp only[Option.bind,cond];rw[Ey D0 hk];cases hE:B1 x.data.toList ED.data.toList <;>
     · rw[hE] at hX;dsimp only[cond] at hX;dsimp only
       rw[hX];dsimp only[Sum.elim];rw[QT,hb]
   show(Bz R ⟨ts,k0,en⟩ N.kind N.name N.unit N.n N.fr N.to N.known N.CO.den N.CO.ps N.kids N.AW (k:Int)).bind _=_;rw[hL];exact b4;cases hr;obtain⟨k',a1,a2,rfl,⟨n,b',hX,hb,hr⟩ | ⟨d',hX,hr⟩⟩:=NH D0 h1 (λh=>L4 h1 h) h3;cases hr;cases hr;refine⟨k',by omega,a2,rfl,1,?_⟩
   have hL:Bz R ⟨ts,k0,en⟩ N.kind N.name N.unit N.n N.fr N.to N.known N.CO.den N.CO.ps N.kids N.AW (k:Int)=some (.rt (.inr d,(k':Int))):=by
     unfold Bz;dsimp only;rw[h2];dsimp only[Option.bind,cond];rw[Ey D0 hk];cases hE:B1 x.data.toList ED.data.toList <;>
     · rw[hE] at hX;dsimp only[cond] at hX;dsimp only
       rw[hX];rfl
   show(Bz R ⟨ts,k0,en⟩ N.kind N.name N.unit N.n N.fr N.to N.known N.CO.den N.CO.ps N.kids N.AW (k:Int)).bind _=_;rw[hL];rfl;obtain⟨rfl,rfl⟩:=LY hS;refine⟨k,Nat.le_refl k,hk,rfl,1,?_⟩
   have hL:Bz R ⟨ts,k0,en⟩ N.kind N.name N.unit N.n N.fr N.to N.known N.CO.den N.CO.ps N.kids N.AW (k:Int)=some (.rt (.inl N,(k:Int))):=by
     unfold Bz;dsimp only;rw[h2,QT];rfl
   show(Bz R ⟨ts,k0,en⟩ N.kind N.name N.unit N.n N.fr N.to N.known N.CO.den N.CO.ps N.kids N.AW (k:Int)).bind _=_;rw[hL];rfl
theorem agB{R:Ad}{g:Ek->Rd Nd}(L4:∀{k:Nat},k<=ts.length->∀{r l},g (.lv 5) (ts.drop k)=some (r,l)->JE ts k (R.B5 ⟨ts,k,en⟩) r l){k:Nat}(hk:k<=ts.length){r l}(hS:Py en g 4 (ts.drop k)=some (r,l)) :
   JE ts k (Ga R ⟨ts,k,en⟩) r l:=by
 refine BD (λh=>L4 hk h) (λN k' h1 h2 hS=>?_) (λ_ _=>rfl) hS;obtain⟨k2,a1,a2,a3,n,a4⟩:=acL D0 L4 (k:Int) _ N k' r l h2 hS;refine⟨k2,a1,a2,a3,?_⟩;dsimp only[Sum.elim];rw[Fe a4];rfl
theorem acM{R:Ad}{sub:Rd Nd}(L4:∀{k:Nat},k<=ts.length->∀{r l},sub (ts.drop k)=some (r,l)->JE ts k (R.B8 ⟨ts,k,en⟩) r l)(k0:Int) :
   ∀(q:Nat) (N:Nd) (k:Nat) (r:Nd⊕Dg) (l:List Tk),k<=ts.length->L0 en (opsOf 5) sub q N (ts.drop k)=some (r,l) ->
   ∃k':Nat,k<=k'/\k'<=ts.length/\l=ts.drop k'/\∃n,EM (λx=>BA R ⟨ts,k0,en⟩ x.1 x.2.1 x.2.2.1 x.2.2.2.1 x.2.2.2.2.1 x.2.2.2.2.2.1 x.2.2.2.2.2.2.1 x.2.2.2.2.2.2.2.1 x.2.2.2.2.2.2.2.2.1 x.2.2.2.2.2.2.2.2.2.1 x.2.2.2.2.2.2.2.2.2.2.1 x.2.2.2.2.2.2.2.2.2.2.2) n (N.kind,N.name,N.unit,N.n,N.fr,N.to,N.known,N.CO.den,N.CO.ps,N.kids,N.AW,(k:Int))=some (.inr (r,(k':Int))):=by
 intro q
 induction q with
 | zero=>intro N k r l hk hS;cases hS
 | succ q ih =>
   intro N k r l hk hS;rcases apT (en:=en) hk hS with ⟨x,h1,h2,hS⟩ | ⟨h2,hS⟩
   rcases Km hS with ⟨b,s',h3,h4⟩ | ⟨d,h3,rfl⟩
   obtain⟨k',a1,a2,rfl,⟨n,b',hX,hb,hr⟩ | ⟨d,hX,hr⟩⟩:=NH D0 h1 (λh=>L4 h1 h) h3;cases hr;obtain⟨k2,b1,b2,b3,m,b4⟩:=ih b k' r l a2 h4;refine⟨k2,by omega,b2,b3,m+1,?_⟩
   have hL:BA R ⟨ts,k0,en⟩ N.kind N.name N.unit N.n N.fr N.to N.known N.CO.den N.CO.ps N.kids N.AW (k:Int)=some (.nx (b.kind,b.name,b.unit,b.n,b.fr,b.to,b.known,b.CO.den,b.CO.ps,b.kids,b.AW,(k':Int))):=by
     unfold BA;dsimp only;rw[h2];dsimp only[Option.bind,cond];rw[Ey D0 hk];cases hE:B1 x.data.toList ED.data.toList <;>
     · rw[hE] at hX;dsimp only[cond] at hX;dsimp only
       rw[hX];dsimp only[Sum.elim];rw[QT,hb]
   show(BA R ⟨ts,k0,en⟩ N.kind N.name N.unit N.n N.fr N.to N.known N.CO.den N.CO.ps N.kids N.AW (k:Int)).bind _=_;rw[hL];exact b4;cases hr;obtain⟨k',a1,a2,rfl,⟨n,b',hX,hb,hr⟩ | ⟨d',hX,hr⟩⟩:=NH D0 h1 (λh=>L4 h1 h) h3;cases hr;cases hr;refine⟨k',by omega,a2,rfl,1,?_⟩
   have hL:BA R ⟨ts,k0,en⟩ N.kind N.name N.unit N.n N.fr N.to N.known N.CO.den N.CO.ps N.kids N.AW (k:Int)=some (.rt (.inr d,(k':Int))):=by
     unfold BA;dsimp only;rw[h2];dsimp only[Option.bind,cond];rw[Ey D0 hk];cases hE:B1 x.data.toList ED.data.toList <;>
     · rw[hE] at hX;dsimp only[cond] at hX;dsimp only
       rw[hX];rfl
   show(BA R ⟨ts,k0,en⟩ N.kind N.name N.unit N.n N.fr N.to N.known N.CO.den N.CO.ps N.kids N.AW (k:Int)).bind _=_;rw[hL];rfl;obtain⟨rfl,rfl⟩:=LY hS;refine⟨k,Nat.le_refl k,hk,rfl,1,?_⟩
   have hL:BA R ⟨ts,k0,en⟩ N.kind N.name N.unit N.n N.fr N.to N.known N.CO.den N.CO.ps N.kids N.AW (k:Int)=some (.rt (.inl N,(k:Int))):=by
     unfold BA;dsimp only;rw[h2,QT];rfl
   show(BA R ⟨ts,k0,en⟩ N.kind N.name N.unit N.n N.fr N.to N.known N.CO.den N.CO.ps N.kids N.AW (k:Int)).bind _=_;rw[hL];rfl
theorem agC{R:Ad}{g:Ek->Rd Nd}(L4:∀{k:Nat},k<=ts.length->∀{r l},g (.lv 6) (ts.drop k)=some (r,l)->JE ts k (R.B8 ⟨ts,k,en⟩) r l){k:Nat}(hk:k<=ts.length){r l}(hS:Py en g 5 (ts.drop k)=some (r,l)) :
   JE ts k (Gb R ⟨ts,k,en⟩) r l:=by
 refine BD (λh=>L4 hk h) (λN k' h1 h2 hS=>?_) (λ_ _=>rfl) hS;obtain⟨k2,a1,a2,a3,n,a4⟩:=acM D0 L4 (k:Int) _ N k' r l h2 hS;refine⟨k2,a1,a2,a3,?_⟩;dsimp only[Sum.elim];rw[Fe a4];rfl
end
end Mo
end Go.Proofs.YtpbkhogolfegfaaGreatDoor
namespace Go.Proofs.YtpbkhogolfegfaaGreatDoor
open AI Go
namespace Mo
set_option maxRecDepth 100000
section
variable {α β γ:Type} {ts:List Tk} {k:Nat} {en:Int} {l:List Tk}
def cT(ts:List Tk)(k:Nat)(X:Option ((Pt⊕Dg)×Int×Int))(r:(Pt×Int)⊕Dg)(l:List Tk):Prop:=∃k':Nat,k<=k'/\k'<=ts.length/\l=ts.drop k'/\match r with
 | .inl x=>X=some (.inl x.1,(k':Int),x.2)
 | .inr d=>∃c,X=some (.inr d,(k':Int),c)
variable {r:(Pt×Int)⊕Dg}
theorem vK{k2:Nat}{X:Option ((Pt⊕Dg)×Int×Int)}(h1:k<=k2)(h:cT ts k2 X r l):cT ts k X r l:=by
 obtain⟨k',a,b,c,d⟩:=h;exact⟨k',Nat.le_trans h1 a,b,c,d⟩
theorem Jc{F1:Option ((γ⊕Dg)×Int)}{F2:(γ⊕Dg)×Int->Option ((Pt⊕Dg)×Int×Int)}{m:Rd γ}{K:γ->Rd (Pt×Int)}
   (h1:∀{r l},m (ts.drop k)=some (r,l)->JE ts k F1 r l)
   (h2:∀a k',k<=k'->k'<=ts.length->K a (ts.drop k')=some (r,l)->cT ts k' (F2 (.inl a,(k':Int))) r l)
   (h3:∀d z,∃c,F2 (.inr d,z)=some (.inr d,z,c)) (hS:CF m K (ts.drop k)=some (r,l)):cT ts k (F1.bind F2) r l:=by
 rcases Km hS with ⟨a,s',hm,hS⟩ | ⟨d,hm,rfl⟩
 obtain⟨k',a1,a2,rfl,a4⟩:=h1 hm;rw[a4];exact vK a1 (h2 _ _ a1 a2 hS);obtain⟨k',a1,a2,a3,a4⟩:=h1 hm;obtain⟨c,hc⟩:=h3 d k';exact⟨k',a1,a2,a3,c,by rw[a4,Option.bind_some,hc]⟩
theorem ahV{F2:Bool->Option ((Pt⊕Dg)×Int×Int)}{A B:Rd (Pt×Int)}{x:ByteArray}(hk:k<=ts.length)
   (h1:k+1<=ts.length->A (ts.drop (k+1))=some (r,l)->cT ts (k+1) (F2 true) r l) (h2:B (ts.drop k)=some (r,l)->cT ts k (F2 false) r l)
   (hS:PI x A B (ts.drop k)=some (r,l)):cT ts k ((Aq ⟨ts,k,en⟩ x).bind F2) r l:=by
 rw[GZ hk,Option.bind_some];rcases LK hk hS with ⟨h,h3,hS⟩ | ⟨h,hS⟩
 rw[h];exact vK (Nat.le_succ k) (h1 h3 hS);rw[h];exact h2 hS
end
def aBH(p:Pr)(AA Bm:Int)(Az:Int×Int):Option ((Pt⊕Dg)×Int×Int):=((Ak (⟨p.Bu,Bm,p.DJ⟩:Pr) Vi).bind λ(JM,EL)=>Sum.elim (λ(C5:Tk)=>(Aq (⟨p.Bu,EL,p.DJ⟩:Pr) Li).bind λy3=>cond y3 ((BT (⟨p.Bu,(BF EL 1),p.DJ⟩:Pr)).bind λ(Wj,JK)=>Sum.elim (λ(Di:(Int×Int))=>(Ch (⟨p.Bu,JK,p.DJ⟩:Pr)).bind λ(SC,H3)=>Sum.elim (λ(IM:Int)=>(AK (⟨p.Bu,H3,p.DJ⟩:Pr) 0).bind λ(nN,OL)=>Sum.elim (λ(Jq:(Int×Int))=>(Ak (⟨p.Bu,OL,p.DJ⟩:Pr) ED).bind λ(sF,RT)=>Sum.elim (λ(VB:Tk)=>(AK (⟨p.Bu,RT,p.DJ⟩:Pr) 1).bind λ(ZE,LO)=>Sum.elim (λ(Hc:(Int×Int))=>(CP AA Hc.1).bind λy9=>(S3 AA y9).bind λz10=>cond (Ev 1000000 (BS z10 Hc.1)) (some ((Sum.inr (⟨2,Hc.2⟩:Dg):(Pt⊕Dg)),LO,(BS z10 Hc.1))) (some ((Sum.inl (⟨Az.1,(BS Di.1 (-1)),(BS Jq.1 IM),Hc.1⟩:Pt):(Pt⊕Dg)),LO,(BS z10 Hc.1)))) (λ(LN:Dg)=>some ((Sum.inr LN:(Pt⊕Dg)),LO,AA)) ZE) (λ(PP:Dg)=>some ((Sum.inr PP:(Pt⊕Dg)),RT,AA)) sF) (λ(Ni:Dg)=>some ((Sum.inr Ni:(Pt⊕Dg)),OL,AA)) nN) (λ(Hm:Dg)=>some ((Sum.inr Hm:(Pt⊕Dg)),H3,AA)) SC) (λ(IL:Dg)=>some ((Sum.inr IL:(Pt⊕Dg)),JK,AA)) Wj) ((BT (⟨p.Bu,EL,p.DJ⟩:Pr)).bind λ(sC,Qy)=>Sum.elim (λ(Nr:(Int×Int))=>(Ch (⟨p.Bu,Qy,p.DJ⟩:Pr)).bind λ(ZC,Vz)=>Sum.elim (λ(ZD:Int)=>(AK (⟨p.Bu,Vz,p.DJ⟩:Pr) 0).bind λ(W9,OW)=>Sum.elim (λ(Ns:(Int×Int))=>(Ak (⟨p.Bu,OW,p.DJ⟩:Pr) ED).bind λ(gJ,UC)=>Sum.elim (λ(awO:Tk)=>(AK (⟨p.Bu,UC,p.DJ⟩:Pr) 1).bind λ(gK,Re)=>Sum.elim (λ(KJ:(Int×Int))=>(CP AA KJ.1).bind λy16=>(S3 AA y16).bind λz17=>cond (Ev 1000000 (BS z17 KJ.1)) (some ((Sum.inr (⟨2,KJ.2⟩:Dg):(Pt⊕Dg)),Re,(BS z17 KJ.1))) (some ((Sum.inl (⟨Az.1,(BS Nr.1 1),(BS Ns.1 ZD),KJ.1⟩:Pt):(Pt⊕Dg)),Re,(BS z17 KJ.1)))) (λ(mX:Dg)=>some ((Sum.inr mX:(Pt⊕Dg)),Re,AA)) gK) (λ(mW:Dg)=>some ((Sum.inr mW:(Pt⊕Dg)),UC,AA)) gJ) (λ(VA:Dg)=>some ((Sum.inr VA:(Pt⊕Dg)),OW,AA)) W9) (λ(mV:Dg)=>some ((Sum.inr mV:(Pt⊕Dg)),Vz,AA)) ZC) (λ(Vy:Dg)=>some ((Sum.inr Vy:(Pt⊕Dg)),Qy,AA)) sC)) (λ(Hl:Dg)=>some ((Sum.inr Hl:(Pt⊕Dg)),EL,AA)) JM)
section
variable {ts:List Tk} (D0:ts.length<=1000000) {en:Int}
include D0
theorem kZ(k0 AA:Int)(v:Int×Int){k:Nat}(hk:k<=ts.length){r l}(hS:Pa en AA v.1 (ts.drop k)=some (r,l)):cT ts k (aBH ⟨ts,k0,en⟩ AA k v) r l:=by
 refine Jc (λh=>I7 D0 _ hk h) (λ_ k h hk hS=>?_) (λ_ _=>⟨_,rfl⟩) hS;refine ahV hk (λhk1 hS=>?_) (λhS=>?_) hS;dsimp only[cond];rw[Ey D0 hk];refine Jc (λh=>gH D0 hk1 h) (λa k h hk hS=>?_) (λ_ _=>⟨_,rfl⟩) hS;refine Jc (λh=>aiX D0 hk h) (λs k h hk hS=>?_) (λ_ _=>⟨_,rfl⟩) hS;refine Jc (λh=>Pb D0 _ hk h) (λm k h hk hS=>?_) (λ_ _=>⟨_,rfl⟩) hS;refine Jc (λh=>I7 D0 _ hk h) (λ_ k h hk hS=>?_) (λ_ _=>⟨_,rfl⟩) hS;refine Jc (λh=>Pb D0 _ hk h) (λd k h hk hS=>?_) (λ_ _=>⟨_,rfl⟩) hS;obtain⟨g,hg,hS⟩:=Ko hS;have hg:=adZ hg;obtain⟨z,hz,hS⟩:=Ko hS;dsimp only[Sum.elim];rw[hg,Option.bind_some,hz,Option.bind_some];revert hS;cases Ev 1000000 (BS z d.1);exact λhS=>by obtain⟨rfl,rfl⟩:=LY hS;exact⟨k,Nat.le_refl k,hk,rfl,rfl⟩
 exact λhS=>by obtain⟨rfl,rfl⟩:=N5 hS;exact⟨k,Nat.le_refl k,hk,rfl,_,rfl⟩
 refine Jc (λh=>gH D0 hk h) (λa k h hk hS=>?_) (λ_ _=>⟨_,rfl⟩) hS;refine Jc (λh=>aiX D0 hk h) (λs k h hk hS=>?_) (λ_ _=>⟨_,rfl⟩) hS;refine Jc (λh=>Pb D0 _ hk h) (λm k h hk hS=>?_) (λ_ _=>⟨_,rfl⟩) hS;refine Jc (λh=>I7 D0 _ hk h) (λ_ k h hk hS=>?_) (λ_ _=>⟨_,rfl⟩) hS;refine Jc (λh=>Pb D0 _ hk h) (λd k h hk hS=>?_) (λ_ _=>⟨_,rfl⟩) hS;obtain⟨g,hg,hS⟩:=Ko hS;have hg:=adZ hg;obtain⟨z,hz,hS⟩:=Ko hS;dsimp only[Sum.elim];rw[hg,Option.bind_some,hz,Option.bind_some];revert hS;cases Ev 1000000 (BS z d.1);exact λhS=>by obtain⟨rfl,rfl⟩:=LY hS;exact⟨k,Nat.le_refl k,hk,rfl,rfl⟩
 exact λhS=>by obtain⟨rfl,rfl⟩:=N5 hS;exact⟨k,Nat.le_refl k,hk,rfl,_,rfl⟩
theorem vB(before:List Pt)(hb:before.length<=100000000)(AA:Int){k:Nat}(hk:k<=ts.length){r l}(hS:Uc en before AA (ts.drop k)=some (r,l)):cT ts k (G8 ⟨ts,k,en⟩ before AA) r l:=by
 refine Jc (λh=>gH D0 hk h) (λv k1 h hk hS=>?_) (λ_ _=>⟨_,rfl⟩) hS;dsimp only[Sum.elim];revert hS;cases hE:Dh ((before.length:Nat):Int) 0 with
 | true =>
   cases Dh v.1 0;exact λhS=>by obtain⟨rfl,rfl⟩:=N5 hS;exact⟨k1,Nat.le_refl k1,hk,rfl,_,rfl⟩
   exact λhS=>kZ D0 k AA v hk hS
 | false =>
   intro hS;have h0:before.length≠0:=λh=>Wo hE (by rw[h];rfl);obtain⟨x,hx,hS⟩:=Ko hS;dsimp only[cond];rw[Ij (by omega)]
   have hg:Ha before (LS ((before.length:Nat):Int) 1)=some x:=by
     have:LS ((before.length:Nat):Int) 1=((before.length - 1:Nat):Int):=by
       rw[KQ (by omega)];omega
     rw[this];unfold Ha;rw[if_pos (by omega),Int.toNat_natCast,hx]
   dsimp only;rw[hg,Option.bind_some];revert hS;cases NS v.1 x.fr;cases NS 64 ((before.length:Nat):Int);exact λhS=>kZ D0 k AA v hk hS;exact λhS=>by obtain⟨rfl,rfl⟩:=N5 hS;exact⟨k1,Nat.le_refl k1,hk,rfl,_,rfl⟩
   exact λhS=>by obtain⟨rfl,rfl⟩:=N5 hS;exact⟨k1,Nat.le_refl k1,hk,rfl,_,rfl⟩
theorem lA(R:Ad)(k0:Int):∀(q:Nat) (ps:List Pt) (c:Int) (k:Nat) (r:(List Pt×Int)⊕Dg) (l:List Tk),ps.length<=100000000->k<=ts.length->ND en q ps c (ts.drop k)=some (r,l) ->
   ∃k':Nat,k<=k'/\k'<=ts.length/\l=ts.drop k'/\∃n,EM (λx=>BI R ⟨ts,k0,en⟩ x.1 x.2.1 x.2.2) n (ps,c,(k:Int))=some (match r with | .inl x=>.inl (x.1,x.2,(k':Int)) | .inr d=>.inr (.inr d,(k':Int))):=by
 intro q
 induction q with
 | zero=>intro ps c k r l hp hk hS;cases hS
 | succ q ih =>
   intro ps c k r l hp hk hS;rcases Km hS with ⟨x,s',h3,h4⟩ | ⟨d,h3,rfl⟩
   obtain⟨k',a1,a2,rfl,a4⟩:=vB D0 ps hp c hk h3;obtain⟨hl,h4⟩:=O3 h4;rcases LK a2 h4 with ⟨h5,h6,h7⟩ | ⟨h5,h7⟩
   obtain⟨k2,b1,b2,b3,n,b4⟩:=ih (ps++[x.1]) x.2 (k'+1) r l (by simp only[List.length_append,List.length_singleton];omega) h6 h7;refine⟨k2,by omega,b2,b3,n+1,?_⟩
   have hL:BI R ⟨ts,k0,en⟩ ps c (k:Int)=some (.nx (ps++[x.1],x.2,((k'+1:Nat):Int))):=by
     unfold BI;dsimp only at a4 ⊢;rw[a4,Option.bind_some];dsimp only[Sum.elim];rw[FG hl,GZ a2,h5,Option.bind_some,Ey D0 a2];rfl
   show(BI R ⟨ts,k0,en⟩ ps c (k:Int)).bind _=_;rw[hL];exact b4;obtain⟨rfl,rfl⟩:=LY h7;refine⟨k',a1,a2,rfl,1,?_⟩
   have hL:BI R ⟨ts,k0,en⟩ ps c (k:Int)=some (.ex (ps++[x.1],x.2,(k':Int))):=by
     unfold BI;dsimp only at a4 ⊢;rw[a4,Option.bind_some];dsimp only[Sum.elim];rw[FG hl,GZ a2,h5,Option.bind_some];rfl
   show(BI R ⟨ts,k0,en⟩ ps c (k:Int)).bind _=_;rw[hL];rfl;obtain⟨k',a1,a2,a3,c',a4⟩:=vB D0 ps hp c hk h3;refine⟨k',a1,a2,a3,1,?_⟩
   have hL:BI R ⟨ts,k0,en⟩ ps c (k:Int)=some (.rt (.inr d,(k':Int))):=by
     unfold BI;dsimp only at a4 ⊢;rw[a4,Option.bind_some];rfl
   show(BI R ⟨ts,k0,en⟩ ps c (k:Int)).bind _=_;rw[hL];rfl
omit D0 in
theorem mA(R:Ad)(c:Int)(t:Tk)(kz:Int):∀(ps:List Pt) (acc:List Pc) (i:Nat) (r:(List Pc)⊕Dg) (s l:List Tk),NJ c t.AW ps acc s=some (r,l) ->
   l=s/\CQ (λi y x=>EX R c kz t i y x) (λx=>x) ps i acc=some (match r with | .inl x=>.inl x | .inr d=>.inr (.inr d,kz)):=by
 intro ps
 induction ps with
 | nil =>
   intro acc i r s l hS;obtain⟨rfl,rfl⟩:=LY hS;exact⟨rfl,rfl⟩
 | cons x ps ih =>
   intro acc i r s l hS;unfold NJ at hS;obtain⟨z,hz,hS⟩:=Ko hS;rw[CQ];unfold EX;rw[hz,Option.bind_some];revert hS;cases Ev 1000000 (BS x.num z);cases Ev (BS x.num z) (-1000000);intro hS;obtain⟨hl,hS⟩:=O3 hS;obtain⟨rfl,h⟩:=ih _ (i+1) r s l hS;refine⟨rfl,?_⟩;dsimp only[cond];rw[FG hl,Option.bind_some];exact h;intro hS;obtain⟨rfl,rfl⟩:=N5 hS;exact⟨rfl,rfl⟩;intro hS;obtain⟨rfl,rfl⟩:=N5 hS;exact⟨rfl,rfl⟩
theorem asQ{R:Ad}{g:Ek->Rd Nd}(hex:∀{k:Nat},k<=ts.length->∀{r l},g .ex (ts.drop k)=some (r,l)->JE ts k (R.AN ⟨ts,k,en⟩) r l){k:Nat}(hk:k<=ts.length){r l}(hS:Zl en g (ts.drop k)=some (r,l)) :
   JE ts k (G9 R ⟨ts,k,en⟩) r l:=by
 refine BD (λh=>I7 D0 _ hk h) (λt k1 h hk1 hS=>?_) (λ_ _=>rfl) hS;refine BD (λh=>I7 D0 _ hk1 h) (λ_ k2 h hk2 hS=>?_) (λ_ _=>rfl) hS;refine BD (λh=>hex hk2 h) (λa k3 h hk3 hS=>?_) (λ_ _=>rfl) hS;refine BD (λh=>I7 D0 _ hk3 h) (λ_ k4 h hk4 hS=>?_) (λ_ _=>rfl) hS;dsimp only[Sum.elim];rcases Km hS with ⟨x,s',h3,h4⟩ | ⟨d,h3,rfl⟩
 obtain⟨k',a1,a2,rfl,n,a4⟩:=lA D0 R (k:Int) _ [] 1 k4 _ _ (by simp) hk4 h3;rw[Fe a4,Option.bind_some];refine LJ a1 ?_;dsimp only[L8];refine BD (λh=>I7 D0 _ a2 h) (λe k5 h hk5 hS=>?_) (λ_ _=>rfl) h4;obtain⟨hl,hS⟩:=O3 hS;dsimp only[Sum.elim];rw[List.drop_zero,show S6 x.1.length=λy=>y from funext λy=>if_pos (by omega)];dsimp only;rcases Km hS with ⟨y,s2,h5,h6⟩ | ⟨d,h5,rfl⟩
 obtain⟨rfl,h⟩:=mA R x.2 e (k5:Int) x.1 [] 0 _ _ _ h5;rw[h];exact Er hk5 rfl h6;obtain⟨rfl,h⟩:=mA R x.2 e (k5:Int) x.1 [] 0 _ _ _ h5;rw[h];exact⟨k5,Nat.le_refl _,hk5,rfl,rfl⟩;obtain⟨k',a1,a2,a3,n,a4⟩:=lA D0 R (k:Int) _ [] 1 k4 _ _ (by simp) hk4 h3;rw[Fe a4,Option.bind_some];exact⟨k',a1,a2,a3,rfl⟩
theorem qD{R:Ad}{read:Rd Nd}(k0:Int)(Oa:∀{k:Nat},k<=ts.length->∀{r l},read (ts.drop k)=some (r,l)->JE ts k (R.AN ⟨ts,k,en⟩) r l):∀(q:Nat) (ns:List Nd) (k:Nat) (r:(List Nd)⊕Dg) (l:List Tk),k<=ts.length->Sk read q ns (ts.drop k)=some (r,l) ->
   ∃k':Nat,k<=k'/\k'<=ts.length/\l=ts.drop k'/\∃n,EM (λx=>Bo R ⟨ts,k0,en⟩ x.1 x.2) n (ns,(k:Int))=some (match r with | .inl x=>.inl (x,(k':Int)) | .inr d=>.inr (.inr d,(k':Int))):=by
 intro q
 induction q with
 | zero=>intro ns k r l hk hS;cases hS
 | succ q ih =>
   intro ns k r l hk hS;rcases LK hk hS with ⟨h1,h2,hS⟩ | ⟨h1,hS⟩
   rcases Km hS with ⟨x,s',h3,h4⟩ | ⟨d,h3,rfl⟩
   obtain⟨k',a1,a2,rfl,a4⟩:=Oa h2 h3;obtain⟨hl,h4⟩:=O3 h4;obtain⟨k2,b1,b2,b3,n,b4⟩:=ih (ns++[x]) k' r l a2 h4;refine⟨k2,by omega,b2,b3,n+1,?_⟩
   have hL:Bo R ⟨ts,k0,en⟩ ns (k:Int)=some (.nx (ns++[x],(k':Int))):=by
     unfold Bo;dsimp only;rw[GZ hk,h1,Option.bind_some,Ey D0 hk];dsimp only[cond];rw[a4,Option.bind_some];dsimp only[Sum.elim];rw[FG hl]
   show(Bo R ⟨ts,k0,en⟩ ns (k:Int)).bind _=_;rw[hL];exact b4;obtain⟨k',a1,a2,a3,a4⟩:=Oa h2 h3;refine⟨k',by omega,a2,a3,1,?_⟩
   have hL:Bo R ⟨ts,k0,en⟩ ns (k:Int)=some (.rt (.inr d,(k':Int))):=by
     unfold Bo;dsimp only;rw[GZ hk,h1,Option.bind_some,Ey D0 hk];dsimp only[cond];rw[a4,Option.bind_some];rfl
   show(Bo R ⟨ts,k0,en⟩ ns (k:Int)).bind _=_;rw[hL];rfl;obtain⟨rfl,rfl⟩:=LY hS;refine⟨k,Nat.le_refl k,hk,rfl,1,?_⟩
   have hL:Bo R ⟨ts,k0,en⟩ ns (k:Int)=some (.ex (ns,(k:Int))):=by
     unfold Bo;dsimp only;rw[GZ hk,h1,Option.bind_some];rfl
   show(Bo R ⟨ts,k0,en⟩ ns (k:Int)).bind _=_;rw[hL];rfl
theorem apE{R:Ad}{read:Rd Nd}(Oa:∀{k:Nat},k<=ts.length->∀{r l},read (ts.drop k)=some (r,l)->JE ts k (R.AN ⟨ts,k,en⟩) r l){k:Nat}(hk:k<=ts.length){r l}(hS:TA read (ts.drop k)=some (r,l)):JE ts k (Fh R ⟨ts,k,en⟩) r l:=by
 refine BD (λh=>Oa hk h) (λx k1 h hk1 hS=>?_) (λ_ _=>rfl) hS;dsimp only[Sum.elim];rcases LK hk1 hS with ⟨h1,h2,hS⟩ | ⟨h1,hS⟩
 rw[GZ hk1,h1,Option.bind_some,Ey D0 hk1];refine LJ (Nat.le_succ k1) ?_;refine BD (λh=>Oa h2 h) (λy k2 h hk2 hS=>?_) (λ_ _=>rfl) hS;obtain⟨hl,hS⟩:=O3 hS;dsimp only[Sum.elim];rw[FG hl];obtain⟨k',a1,a2,a3,n,a4⟩:=qD D0 (k:Int) Oa _ _ k2 _ _ hk2 hS;rw[Fe a4,Option.bind_some];refine⟨k',a1,a2,a3,?_⟩;cases r<;>rfl
 rw[GZ hk1,h1,Option.bind_some];exact Er hk1 rfl hS
theorem qE{read:Rd Nd}(k0:Int)(Oa:∀{k:Nat},k<=ts.length->∀{r l},read (ts.drop k)=some (r,l)->JE ts k (AO ⟨ts,k,en⟩) r l):∀(q:Nat) (ns:List Nd) (k:Nat) (r:(List Nd)⊕Dg) (l:List Tk),k<=ts.length->Sk read q ns (ts.drop k)=some (r,l) ->
   ∃k':Nat,k<=k'/\k'<=ts.length/\l=ts.drop k'/\∃n,EM (λx=>AP ⟨ts,k0,en⟩ x.1 x.2) n (ns,(k:Int))=some (match r with | .inl x=>.inl (x,(k':Int)) | .inr d=>.inr (.inr d,(k':Int))):=by
 intro q
 induction q with
 | zero=>intro ns k r l hk hS;cases hS
 | succ q ih =>
   intro ns k r l hk hS;rcases LK hk hS with ⟨h1,h2,hS⟩ | ⟨h1,hS⟩
   rcases Km hS with ⟨x,s',h3,h4⟩ | ⟨d,h3,rfl⟩
   obtain⟨k',a1,a2,rfl,a4⟩:=Oa h2 h3;obtain⟨hl,h4⟩:=O3 h4;obtain⟨k2,b1,b2,b3,n,b4⟩:=ih (ns++[x]) k' r l a2 h4;refine⟨k2,by omega,b2,b3,n+1,?_⟩
   have hL:AP ⟨ts,k0,en⟩ ns (k:Int)=some (.nx (ns++[x],(k':Int))):=by
     unfold AP;dsimp only;rw[GZ hk,h1,Option.bind_some,Ey D0 hk];dsimp only[cond];rw[a4,Option.bind_some];dsimp only[Sum.elim];rw[FG hl]
   show(AP ⟨ts,k0,en⟩ ns (k:Int)).bind _=_;rw[hL];exact b4;obtain⟨k',a1,a2,a3,a4⟩:=Oa h2 h3;refine⟨k',by omega,a2,a3,1,?_⟩
   have hL:AP ⟨ts,k0,en⟩ ns (k:Int)=some (.rt (.inr d,(k':Int))):=by
     unfold AP;dsimp only;rw[GZ hk,h1,Option.bind_some,Ey D0 hk];dsimp only[cond];rw[a4,Option.bind_some];rfl
   show(AP ⟨ts,k0,en⟩ ns (k:Int)).bind _=_;rw[hL];rfl;obtain⟨rfl,rfl⟩:=LY hS;refine⟨k,Nat.le_refl k,hk,rfl,1,?_⟩
   have hL:AP ⟨ts,k0,en⟩ ns (k:Int)=some (.ex (ns,(k:Int))):=by
     unfold AP;dsimp only;rw[GZ hk,h1,Option.bind_some];rfl
   show(AP ⟨ts,k0,en⟩ ns (k:Int)).bind _=_;rw[hL];rfl
theorem apF{read:Rd Nd}(Oa:∀{k:Nat},k<=ts.length->∀{r l},read (ts.drop k)=some (r,l)->JE ts k (AO ⟨ts,k,en⟩) r l){k:Nat}(hk:k<=ts.length){r l}(hS:TA read (ts.drop k)=some (r,l)):JE ts k (DM ⟨ts,k,en⟩) r l:=by
 refine BD (λh=>Oa hk h) (λx k1 h hk1 hS=>?_) (λ_ _=>rfl) hS;dsimp only[Sum.elim];rcases LK hk1 hS with ⟨h1,h2,hS⟩ | ⟨h1,hS⟩
 rw[GZ hk1,h1,Option.bind_some,Ey D0 hk1];refine LJ (Nat.le_succ k1) ?_;refine BD (λh=>Oa h2 h) (λy k2 h hk2 hS=>?_) (λ_ _=>rfl) hS;obtain⟨hl,hS⟩:=O3 hS;dsimp only[Sum.elim];rw[FG hl];obtain⟨k',a1,a2,a3,n,a4⟩:=qE D0 (k:Int) Oa _ _ k2 _ _ hk2 hS;rw[Fe a4,Option.bind_some];refine⟨k',a1,a2,a3,?_⟩;cases r<;>rfl
 rw[GZ hk1,h1,Option.bind_some];exact Er hk1 rfl hS
end
end Mo
end Go.Proofs.YtpbkhogolfegfaaGreatDoor
namespace Go.Proofs.YtpbkhogolfegfaaGreatDoor
open AI Go
namespace Mo
set_option maxRecDepth 100000
section
variable {ts:List Tk} (D0:ts.length<=1000000) {en:Int} {R:Ad} {g:Ek->Rd Nd} {li:Rd (List Nd)} (A:Agr R ts en g li)
include D0 A
theorem axO{k:Nat}(hk:k<=ts.length){r l}(hS:iT en g (ts.drop k)=some (r,l)):JE ts k (F9 R ⟨ts,k,en⟩) r l:=by
 refine BD (λh=>A.l4 hk h) (λN k h hk hS=>?_) (λ_ _=>rfl) hS;dsimp only[Sum.elim]
 have fin:∀{y:(Nd⊕Dg)×Int} (k0:Int),BW R ⟨ts,k0,en⟩ (k:Int) N=some (.rt y)->(L2 (λ_:Unit=>BW R ⟨ts,k0,en⟩ (k:Int) N) ()).bind (L8 (λ(_:Unit)=>none) (λv=>some v))=some y:=by
   intro y k0 hL
   have:EM (λ_:Unit=>BW R ⟨ts,k0,en⟩ (k:Int) N) 1 ()=some (.inr y):=by
     show(BW R ⟨ts,k0,en⟩ (k:Int) N).bind _=_;rw[hL];rfl
   rw[Fe this];rfl
 rcases apR (en:=en) hk hS with ⟨x,h1,h2,hS⟩ | ⟨h2,hS⟩
 obtain⟨k',a1,a2,rfl,⟨n,b,hX,hb,rfl⟩ | ⟨d,hX,rfl⟩⟩:=NH D0 h1 (λh=>A.l4 h1 h) hS;refine⟨k',by omega,a2,rfl,fin _ ?_⟩;unfold BW;dsimp only;rw[h2];dsimp only[Option.bind,cond];rw[Ey D0 hk];cases hE:B1 x.data.toList ED.data.toList <;>
 · rw[hE] at hX;dsimp only[cond] at hX;dsimp only
   rw[hX];dsimp only[Sum.elim];rw[hb]
 refine⟨k',by omega,a2,rfl,fin _ ?_⟩;unfold BW;dsimp only;rw[h2];dsimp only[Option.bind,cond];rw[Ey D0 hk];cases hE:B1 x.data.toList ED.data.toList <;>
 · rw[hE] at hX;dsimp only[cond] at hX;dsimp only
   rw[hX];rfl
 obtain⟨rfl,rfl⟩:=LY hS;refine⟨k,Nat.le_refl k,hk,rfl,fin _ ?_⟩;unfold BW;dsimp only;rw[h2];rfl
theorem aGJ{k:Nat}(hk:k<=ts.length){r l}(hS:Z0 en g (ts.drop k)=some (r,l)):JE ts k (EC R ⟨ts,k,en⟩) r l:=by
 unfold Z0 at hS;unfold EC;rw[GZ hk,Option.bind_some];cases hx:Ku VV (ts.drop k) with
 | true =>
   rw[hx] at hS;refine BD (λh=>I7 D0 _ hk h) (λt k h hk hS=>?_) (λ_ _=>rfl) hS;refine BD (λh=>A.l2 hk h) (λN k h hk hS=>?_) (λ_ _=>rfl) hS;exact Er hk rfl hS
 | false =>
   rw[hx] at hS;obtain⟨k',a1,a2,a3,a4⟩:=A.l3 hk hS;refine⟨k',a1,a2,a3,?_⟩;dsimp only[cond];rw[a4,Option.bind_some];cases r with
   | inr d=>rfl
   | inl N =>
     dsimp only[Sum.elim]
     have hL:EM (λx:Int×ByteArray×ByteArray×Int×Int×Int×Int×Int×List Pc×List Nd×Int×Int=>CY R ⟨ts,k,en⟩ x.1 x.2.1 x.2.2.1 x.2.2.2.1 x.2.2.2.2.1 x.2.2.2.2.2.1 x.2.2.2.2.2.2.1 x.2.2.2.2.2.2.2.1 x.2.2.2.2.2.2.2.2.1 x.2.2.2.2.2.2.2.2.2.1 x.2.2.2.2.2.2.2.2.2.2.1 x.2.2.2.2.2.2.2.2.2.2.2) 1 (N.kind,N.name,N.unit,N.n,N.fr,N.to,N.known,N.CO.den,N.CO.ps,N.kids,N.AW,(k':Int))=some (.inr (.inl N,(k':Int))):=by
       have:CY R ⟨ts,k,en⟩ N.kind N.name N.unit N.n N.fr N.to N.known N.CO.den N.CO.ps N.kids N.AW (k':Int)=some (.rt (.inl N,(k':Int))):=by
         unfold CY EU;dsimp only[Option.bind,cond];rw[QT]
       show(CY R ⟨ts,k,en⟩ N.kind N.name N.unit N.n N.fr N.to N.known N.CO.den N.CO.ps N.kids N.AW (k':Int)).bind _=_;rw[this];rfl
     rw[Fe hL];rfl
omit D0 A in
theorem QY{F:Option ((Nd⊕Dg)×Int)}{k:Nat}{r l}(h:JE ts k F r l):JE ts k (F.bind λ(Es,Bm)=>Sum.elim (λ(Az:Nd)=>some ((Sum.inl Az:(Nd⊕Dg)),Bm)) (λ(CV:Dg)=>some ((Sum.inr CV:(Nd⊕Dg)),Bm)) Es) r l:=by
 obtain⟨k',a1,a2,a3,a4⟩:=h;refine⟨k',a1,a2,a3,?_⟩;rw[a4,Option.bind_some];cases r<;>rfl
theorem axM{k:Nat}(hk:k<=ts.length){r l}(hS:X6 en g li (ts.drop k)=some (r,l)):JE ts k (Hv R ⟨ts,k,en⟩) r l:=by
 refine V5 hk (λt h1 h2 hS=>?_) (λ_=>rfl) hS;have hS:=Z1 h2 hS;dsimp only[Sum.elim];rw[Ey D0 hk];refine LJ (Nat.le_succ k) ?_;refine BD (λh=>I7 D0 _ h1 h) (λ_ k h hk hS=>?_) (λ_ _=>rfl) hS;refine BD (λh=>A.ex hk h) (λa k h hk hS=>?_) (λ_ _=>rfl) hS;dsimp only[Sum.elim];rw[FG (by omega)];refine BD (λh=>I7 D0 _ hk h) (λ_ k h hk hS=>?_) (λ_ _=>rfl) hS;refine BD (λh=>A.li hk h) (λns k h hk hS=>?_) (λ_ _=>rfl) hS;obtain⟨hl,hS⟩:=O3 hS;dsimp only[Sum.elim];rw[FG (by simpa using hl)]
 cases hE:Dh ((ns.length:Nat):Int) 0 with
 | true =>
   have:ns=[]:=List.eq_nil_of_length_eq_zero (by have:=FQ hE;omega);subst this;refine BD (λh=>I7 D0 _ hk h) (λ_ k h hk hS=>?_) (λ_ _=>rfl) hS;exact Er hk rfl hS
 | false =>
   refine BD (λh=>I7 D0 _ hk h) (λ_ k h hk hS=>?_) (λ_ _=>rfl) hS;exact Er hk rfl hS
theorem aDB(t:Tk){k:Nat}(hk:k<=ts.length){r l}(hS:TJ en g t (ts.drop k)=some (r,l)):JE ts k (FW R ⟨ts,k,en⟩ t) r l:=by
 have one:∀{X:Nd} {r l},Xw (GK X) (ts.drop k)=some (r,l)->JE ts k (some (.inl X,BF (k:Int) 1)) r l:=by
   intro X r l h;obtain⟨h1,h2⟩:=ahB hk h;rw[Ey D0 hk];exact LJ (Nat.le_succ k) (Er h1 rfl h2)
 revert hS;unfold TJ FW;cases B1 t.text.data.toList Zq.data.toList;rotate_left;exact one;cases B1 t.text.data.toList TW.data.toList;rotate_left;exact one;cases B1 t.text.data.toList dC.data.toList;rotate_left;intro hS;obtain⟨h1,hS⟩:=ahB hk hS;dsimp only[cond];rw[Ey D0 hk];refine LJ (Nat.le_succ k) ?_;refine BD (λh=>Pb D0 _ h1 h) (λa k h hk hS=>?_) (λ_ _=>rfl) hS;exact Er hk rfl hS;cases B1 t.text.data.toList LM.data.toList;rotate_left;exact one;cases B1 t.text.data.toList dO.data.toList;rotate_left;exact one;cases B1 t.text.data.toList QS.data.toList;rotate_left;exact one;cases B1 t.text.data.toList VC.data.toList;rotate_left;exact one;cases B1 t.text.data.toList KW.data.toList;rotate_left;exact λhS=>QY (A.ca hk hS);cases B1 t.text.data.toList F3.data.toList;rotate_left;exact λhS=>QY (A.ca hk hS);cases B1 t.text.data.toList Q7.data.toList;rotate_left;exact λhS=>QY (A.ta hk hS);cases B1 t.text.data.toList Ug.data.toList;rotate_left;intro hS;obtain⟨h1,hS⟩:=ahB hk hS;dsimp only[cond];rw[Ey D0 hk];refine LJ (Nat.le_succ k) ?_;refine BD (λh=>A.ex h1 h) (λa k h hk hS=>?_) (λ_ _=>rfl) hS;refine BD (λh=>I7 D0 _ hk h) (λ_ k h hk hS=>?_) (λ_ _=>rfl) hS;exact Er hk rfl hS;exact λhS=>Er hk rfl hS
theorem axJ{k:Nat}(hk:k<=ts.length){r l}(hS:aH en g (ts.drop k)=some (r,l)):JE ts k (Hu R ⟨ts,k,en⟩) r l:=by
 refine V5 hk (λt h1 h2 hS=>?_) (λ_=>rfl) hS;revert hS;dsimp only[Sum.elim];cases Dh t.kind 3;rotate_left;intro hS;refine BD (λh=>kR D0 hk h) (λn k h hk hS=>?_) (λ_ _=>rfl) hS;refine vL hk (λhk1 hS=>?_) (λhS=>?_) hS;refine Er hk1 (Ey D0 hk) hS;exact Er hk rfl hS;cases Dh t.kind 2;rotate_left;intro hS;have hS:=Z1 h2 hS;dsimp only[cond];rw[Ey D0 hk];refine LJ (Nat.le_succ k) ?_;refine BD (λh=>Q8 D0 EQ h1 h) (λa k h hk hS=>?_) (λ_ _=>rfl) hS;obtain⟨c,hc,hS⟩:=Ko hS;dsimp only[Sum.elim];rw[hc];exact Er hk rfl hS;intro hS;obtain⟨b,hb,hS⟩:=Ko hS;dsimp only[cond];rw[hb,Option.bind_some];cases b;exact QY (A.wd t hk hS);have hS:=Z1 h2 hS;dsimp only;rw[Ey D0 hk];exact LJ (Nat.le_succ k) (Er h1 rfl hS)
end
theorem amQ{ts:List Tk}(D0:ts.length<=1000000)(en:Int):∀q:Nat,Agr (Aj q) ts en (gP en q).1 (gP en q).2:=by
 intro q
 induction q with
 | zero=>constructor<;>intros<;>rename_i h<;>cases h
 | succ q A =>
   constructor
   case ex=>intro k hk r l h;simp only[Aj,Bf];exact QY (A.l0 hk h)
   case l0=>intro k hk r l h;simp only[Aj,A5];exact afZ D0 (λhk _ _ h=>A.l1 hk h) hk h
   case l1=>intro k hk r l h;simp only[Aj,A6];exact agA D0 (λhk _ _ h=>A.l2 hk h) hk h
   case l2=>intro k hk r l h;simp only[Aj,A7];exact aGJ D0 A hk h
   case l3=>intro k hk r l h;simp only[Aj,A8];exact axO D0 A hk h
   case l4=>intro k hk r l h;simp only[Aj,A9];exact agB D0 (λhk _ _ h=>A.l5 hk h) hk h
   case l5=>intro k hk r l h;simp only[Aj,Ba];exact agC D0 (λhk _ _ h=>A.l6 hk h) hk h
   case l6=>intro k hk r l h;simp only[Aj,Bb];exact QY (A.at_ hk h)
   case at_=>intro k hk r l h;simp only[Aj,Br];exact axJ D0 A hk h
   case wd=>intro t k hk r l h;simp only[Aj,Bt];exact aDB D0 A t hk h
   case ca=>intro k hk r l h;simp only[Aj,Bs];exact axM D0 A hk h
   case ta=>intro k hk r l h;simp only[Aj,Bk];exact asQ D0 (λhk _ _ h=>A.ex hk h) hk h
   case li=>intro k hk r l h;simp only[Aj,AU];exact apE D0 (λhk _ _ h=>A.ex hk h) hk h
end Mo
end Go.Proofs.YtpbkhogolfegfaaGreatDoor
namespace Go.Proofs.YtpbkhogolfegfaaGreatDoor
open AI Go
namespace Mo
set_option maxRecDepth 100000
section
variable (S:Int->Int->Prop) (en en':Int) (w:List Tk)
def TR(t t':Tk):Prop:=t.kind=t'.kind/\t.text=t'.text/\S t.AW t'.AW
inductive F2:List Tk->List Tk->Prop
 | nil:F2 [] []
 | cons {t t':Tk} {l l':List Tk}:TR S t t'->F2 l l'->F2 (t::l) (t'::l')
mutual
inductive NR:Nd->Nd->Prop
 | mk {k:Int} {nm u:ByteArray} {n f t kn:Int} {tb:Fn} {ks eW:List Nd} {a a':Int}:hP ks eW->S a a'->NR ⟨k,nm,u,n,f,t,kn,tb,ks,a⟩ ⟨k,nm,u,n,f,t,kn,tb,eW,a'⟩
inductive hP:List Nd->List Nd->Prop
 | nil:hP [] []
 | cons {n n':Nd} {l l':List Nd}:NR n n'->hP l l'->hP (n::l) (n'::l')
end
def DR(d d':Dg):Prop:=d.err=d'.err/\(S d.AW d'.AW\/d=⟨72,en⟩/\d'=⟨72,en'⟩)
inductive RR{α:Type}(Q:α->α->Prop):α⊕Dg->α⊕Dg->Prop
 | l {a a':α}:Q a a'->RR Q (.inl a) (.inl a')
 | r {d d':Dg}:DR S en en' d d'->RR Q (.inr d) (.inr d')
def Ends{α:Type}(b:Bool)(r:α⊕Dg)(s:List Tk):Prop:=s=[]/\(r=.inr ⟨72,en⟩\/b=false/\∃a,r=.inl a)
def RP{α:Type}(b:Bool)(Q:α->α->Prop)(m m':Rd α):Prop:=∀⦃l l1 s s':List Tk⦄ ⦃r r':α⊕Dg⦄,F2 S l l1->m l=some (r,s)->m' (l1++w)=some (r',s') ->
 (∃s1,s'=s1++w/\F2 S s s1/\RR S en en' Q r r')\/w≠[]/\Ends en b r s
def EO{α:Type}(b:Bool)(m:Rd α):Prop:=∀⦃r:α⊕Dg⦄ ⦃s:List Tk⦄,m []=some (r,s)->Ends en b r s
end
section
variable {S:Int->Int->Prop} {en en':Int} {w:List Tk} {α β:Type} {b:Bool} {Q:α->α->Prop} {Q2:β->β->Prop}
def Ends.Zz{r:α⊕Dg}{s:List Tk}(h:Ends en true r s):Ends en b r s:=by
 refine⟨h.1,?_⟩;rcases h.2 with h | ⟨h,_⟩
 exact .inl h;cases h
def RP.Zz{m m':Rd α}(h:RP S en en' w true Q m m'):RP S en en' w b Q m m':=λ_ _ _ _ _ _ f h1 h2=>(h f h1 h2).imp id λh=>⟨h.1,h.2.Zz⟩
def EO.Zz{m:Rd α}(h:EO en true m):EO en b m:=λ_ _ h1=>(h h1).Zz
def DV{a a':α}(h:Q a a'):RP S en en' w b Q (GK a) (GK a'):=by
 intro l l1 s s' r r' f h1 h2;obtain⟨rfl,rfl⟩:=LY h1;obtain⟨rfl,rfl⟩:=LY h2;exact .inl ⟨l1,rfl,f,.l h⟩
def Jl{e p p':Int}(h:S p p'):RP S en en' w b Q (Nb e p) (Nb e p'):=by
 intro l l1 s s' r r' f h1 h2;obtain⟨rfl,rfl⟩:=N5 h1;obtain⟨rfl,rfl⟩:=N5 h2;exact .inl ⟨l1,rfl,f,.r ⟨rfl,.inl h⟩⟩
def JD{m m':Rd α}{K K':α->Rd β}(h1:RP S en en' w false Q m m')(h2:∀a a',Q a a'->RP S en en' w b Q2 (K a) (K' a'))(h3:∀a,EO en b (K a)):RP S en en' w b Q2 (CF m K) (CF m' K'):=by
 intro l l1 s s' r r' f e1 e2;rcases Km e1 with ⟨a,t,e3,e4⟩ | ⟨d,e3,rfl⟩
 rcases Km e2 with ⟨a',t',e5,e6⟩ | ⟨d',e5,rfl⟩
 rcases h1 f e3 e5 with ⟨s1,rfl,f1,q⟩ | ⟨hw,rfl,_⟩
 cases q with
 | l q=>exact h2 _ _ q f1 e4 e6
 exact .inr ⟨hw,h3 a e4⟩;rcases h1 f e3 e5 with ⟨s1,rfl,f1,q⟩ | ⟨hw,rfl,_⟩
 cases q;exact .inr ⟨hw,h3 a e4⟩;rcases Km e2 with ⟨a',t',e5,e6⟩ | ⟨d',e5,rfl⟩
 rcases h1 f e3 e5 with ⟨s1,rfl,f1,q⟩ | ⟨hw,rfl,hq⟩
 cases q;rcases hq with hq | ⟨_,a,hq⟩
 cases hq;exact .inr ⟨hw,rfl,.inl rfl⟩;cases hq;rcases h1 f e3 e5 with ⟨s1,rfl,f1,q⟩ | ⟨hw,rfl,hq⟩
 cases q with
 | r q=>exact .inl ⟨s1,rfl,f1,.r q⟩
 rcases hq with hq | ⟨_,a,hq⟩
 cases hq;exact .inr ⟨hw,rfl,.inl rfl⟩;cases hq
def Ce{m m':Rd α}{K K':α->Rd β}(h1:RP S en en' w true Q m m')(h2:∀a a',Q a a'->RP S en en' w b Q2 (K a) (K' a')):RP S en en' w b Q2 (CF m K) (CF m' K'):=by
 intro l l1 s s' r r' f e1 e2
 have no:∀{a:α} {t:List Tk},m l=some (.inl a,t)->¬Ends en true (Sum.inl a:α⊕Dg) t:=by
   rintro a t _ ⟨_,h | ⟨h,_⟩⟩<;>cases h
 rcases Km e1 with ⟨a,t,e3,e4⟩ | ⟨d,e3,rfl⟩
 rcases Km e2 with ⟨a',t',e5,e6⟩ | ⟨d',e5,rfl⟩
 rcases h1 f e3 e5 with ⟨s1,rfl,f1,q⟩ | ⟨hw,h⟩
 cases q with
 | l q=>exact h2 _ _ q f1 e4 e6
 exact absurd h (no e3);rcases h1 f e3 e5 with ⟨s1,rfl,f1,q⟩ | ⟨hw,h⟩
 cases q;exact absurd h (no e3);rcases Km e2 with ⟨a',t',e5,e6⟩ | ⟨d',e5,rfl⟩
 rcases h1 f e3 e5 with ⟨s1,rfl,f1,q⟩ | ⟨hw,rfl,hq⟩
 cases q;rcases hq with hq | ⟨hq,_⟩
 cases hq;exact .inr ⟨hw,rfl,.inl rfl⟩;cases hq;rcases h1 f e3 e5 with ⟨s1,rfl,f1,q⟩ | ⟨hw,rfl,hq⟩
 cases q with
 | r q=>exact .inl ⟨s1,rfl,f1,.r q⟩
 rcases hq with hq | ⟨hq,_⟩
 cases hq;exact .inr ⟨hw,rfl,.inl rfl⟩;cases hq
def OB{X:Option β}{K K':β->Rd α}(h:∀a,X=some a->RP S en en' w b Q (K a) (K' a)):RP S en en' w b Q (MO X K) (MO X K'):=by
 intro l l1 s s' r r' f e1 e2;obtain⟨a,ha,e1⟩:=Ko e1;obtain⟨a',ha',e2⟩:=Ko e2;rw[ha] at ha';cases ha';exact h a ha f e1 e2
def Y9{K K':Tk->Rd α}(h:∀t t',TR S t t'->RP S en en' w b Q (K t) (K' t')):RP S en en' w b Q (WZ en K) (WZ en' K'):=by
 intro l l1 s s' r r' f e1 e2;cases f with
 | nil =>
   simp only[WZ,Option.some.injEq,Prod.mk.injEq] at e1;obtain⟨rfl,rfl⟩:=e1;by_cases hw:w=[];subst hw;simp only[WZ,List.append_nil,Option.some.injEq,Prod.mk.injEq] at e2;obtain⟨rfl,rfl⟩:=e2;exact .inl ⟨[],rfl,.nil,.r ⟨rfl,.inr ⟨rfl,rfl⟩⟩⟩;exact .inr ⟨hw,rfl,.inl rfl⟩
 | cons ht f=>exact h _ _ ht (.cons ht f) e1 e2
def Ru{K K':Rd α}(h:RP S en en' w b Q K K'):RP S en en' w b Q (Xw K) (Xw K'):=by
 intro l l1 s s' r r' f e1 e2;cases f with
 | nil=>cases e1
 | cons ht f=>exact h f e1 e2
def V7{x:ByteArray}{A A' B B':Rd α}(h1:RP S en en' w b Q A A')(h2:RP S en en' w b Q B B')(h3:EO en b B):RP S en en' w b Q (PI x A B) (PI x A' B'):=by
 intro l l1 s s' r r' f e1 e2;cases f with
 | nil =>
   by_cases hw:w=[];subst hw;exact h2 .nil e1 e2;exact .inr ⟨hw,h3 e1⟩
 | cons ht f =>
   rename_i t t' l l';unfold PI at e1 e2
   have:Ku x (t::l)=Ku x (t'::l'++w):=by
     show B1 t.text.data.toList _=B1 t'.text.data.toList _;rw[ht.2.1]
   rw[<- this] at e2;cases hx:Ku x (t::l) with
   | true=>rw[hx] at e1 e2;exact h1 f e1 e2
   | false=>rw[hx] at e1 e2;exact h2 (.cons ht f) e1 e2
def Sy{n n':Nat}{m m':Rd α}(h:RP S en en' w b Q m m'):RP S en en' w b Q (Qi n m) (Qi n' m'):=by
 intro l l1 s s' r r' f e1 e2;exact h f (O3 e1).2 (O3 e2).2
def Cj{c:Bool}{A A' B B':Rd α}(h1:c=true->RP S en en' w b Q A A')(h2:c=false->RP S en en' w b Q B B'):RP S en en' w b Q (cond c A B) (cond c A' B'):=by
 cases c;exact h2 rfl;exact h1 rfl
def aiB{K K':Nat->Rd α}(h:∀n n',RP S en en' w b Q (K n) (K' n')):RP S en en' w b Q (λs=>K (s.length+1) s) (λs=>K' (s.length+1) s):=by
 intro l l1 s s' r r' f e1 e2;exact h _ _ f e1 e2
def tA{K:Tk->Rd α}:EO en b (WZ en K):=by
 intro r s h;simp only[WZ,Option.some.injEq,Prod.mk.injEq] at h;obtain⟨rfl,rfl⟩:=h;exact⟨rfl,.inl rfl⟩
def Pu{a:α}:EO en false (GK a):=by
 intro r s h;obtain⟨rfl,rfl⟩:=LY h;exact⟨rfl,.inr ⟨rfl,a,rfl⟩⟩
def Lr{m:Rd α}{K:α->Rd β}(h:EO en true m):EO en b (CF m K):=by
 intro r s e1;rcases Km e1 with ⟨a,t,e3,e4⟩ | ⟨d,e3,rfl⟩
 obtain⟨_,h | ⟨h,_⟩⟩:=h e3<;>cases h
 obtain⟨h1,h | ⟨h,_⟩⟩:=h e3;cases h;exact⟨h1,.inl rfl⟩;cases h
def axS{X:Option β}{K:β->Rd α}(h:∀a,EO en b (K a)):EO en b (MO X K):=by
 intro r s e1;obtain⟨a,_,e1⟩:=Ko e1;exact h a e1
def oT{x:ByteArray}{A B:Rd α}(h:EO en b B):EO en b (PI x A B):=λ_ _ e1=>h e1
def adG{n:Nat}{m:Rd α}(h:EO en b m):EO en b (Qi n m):=λ_ _ e1=>h (O3 e1).2
end
end Mo
end Go.Proofs.YtpbkhogolfegfaaGreatDoor
namespace Go.Proofs.YtpbkhogolfegfaaGreatDoor
open AI Go
namespace Mo
set_option maxRecDepth 100000
section
variable {S:Int->Int->Prop} {en en':Int} {w:List Tk} {α β:Type} {b:Bool} {Q:α->α->Prop}
theorem wD{f:Tk->Option Bool}(hf:∀k t a a',f ⟨k,t,a⟩=f ⟨k,t,a'⟩){t t':Tk}(h:TR S t t'):f t=f t':=by
 obtain⟨k,x,a⟩:=t;obtain⟨k',x',a'⟩:=t';obtain⟨h1,h2,_⟩:=h;dsimp only at h1 h2;subst h1 h2;exact hf _ _ _ _
theorem arC{X X':Option β}{K K':β->Rd α}(h:∀a a',X=some a->X'=some a'->RP S en en' w b Q (K a) (K' a')):RP S en en' w b Q (MO X K) (MO X' K'):=by
 intro l l1 s s' r r' f e1 e2;obtain⟨a,ha,e1⟩:=Ko e1;obtain⟨a',ha',e2⟩:=Ko e2;exact h a a' ha ha' f e1 e2
theorem NI{f:Tk->Option Bool}(hf:∀k t a a',f ⟨k,t,a⟩=f ⟨k,t,a'⟩):RP S en en' w b (TR S) (MU en f) (MU en' f):=by
 refine Y9 λt t' ht=>?_;rw[wD hf ht];exact OB λc _=>Cj (λ_=>Ru (DV ht)) λ_=>Jl ht.2.2
theorem anK{f:Tk->Option Bool}:EO en b (MU en f):=tA
theorem GY(x:ByteArray):RP S en en' w b (TR S) (J8 en x) (J8 en' x):=NI λ_ _ _ _=>rfl
theorem QK{x:ByteArray}:EO en b (J8 en x):=tA
theorem vR:RP S en en' w b (TR S) (bC en) (bC en'):=NI λ_ _ _ _=>rfl
theorem arG:RP S en en' w b (TR S) (mL en) (mL en'):=NI λ_ _ _ _=>rfl
theorem arE:RP S en en' w b (TR S) (bM en) (bM en'):=NI λ_ _ _ _=>rfl
def QA(S:Int->Int->Prop)(p p':Int×Int):Prop:=p.1=p'.1/\S p.2 p'.2
theorem bO:RP S en en' w b (QA S) (O5 en) (O5 en'):=by
 refine Ce (NI λ_ _ _ _=>rfl) λt t' h=>?_;rw[h.2.1];exact OB λn _=>DV ⟨rfl,h.2.2⟩
theorem Qm(least:Int):RP S en en' w b (QA S) (Nc en least) (Nc en' least):=by
 refine Ce bO λp p' h=>?_;rw[h.1];exact Cj (λ_=>Jl h.2) λ_=>Cj (λ_=>Jl h.2) λ_=>DV h
theorem Xx(least:Int):RP S en en' w b (·=·) (Tn en least) (Tn en' least):=by
 refine Ce (NI λ_ _ _ _=>rfl) λt t' h=>?_;rw[h.2.1];exact OB λn _=>Cj (λ_=>Cj (λ_=>Jl h.2.2) λ_=>DV rfl) λ_=>Jl h.2.2
theorem Gs{kind n:Int}{name unit:ByteArray}{ks eW:List Nd}{p p':Int}(h:hP S ks eW)(hp:S p p'):NR S (FR kind name unit n ks p) (FR kind name unit n eW p'):=.mk h hp
theorem Vc{l l' m m':List Nd}(h:hP S l l')(h2:hP S m m'):hP S (l++m) (l'++m'):=by
 induction l generalizing l' with
 | nil=>cases h;exact h2
 | cons x l ih=>cases h with | cons a t=>exact .cons a (ih t)
theorem arB:RP S en en' w b (NR S) (Yv en) (Yv en'):=by
 refine Ce (GY _) λt t' ht=>Ce (Qm _) λn n' hn=>Ce (GY _) λ_ _ _=>Ce (Xx _) λf f' hf=>?_;subst hf;refine V7 (Ce (Xx _) λu u' hu=>Ce (GY _) λ_ _ _=>Ce (Xx _) λk k' hk=>?_) (Ce (GY _) λ_ _ _=>Ce (Xx _) λk k' hk=>?_) (Lr QK);subst hu hk;rw[hn.1];exact DV (.mk .nil ht.2.2);subst hk;rw[hn.1];exact DV (.mk .nil ht.2.2)
theorem vO:RP S en en' w b (NR S) (To en) (To en'):=by
 refine Y9 λt t' ht=>Ru (Ce vR λm m' hm=>Ce (GY _) λ_ _ _=>Ce arG λu u' hu=>?_);rw[ht.2.1,hm.2.1,hu.2.1];refine Cj (λ_=>Ce arE λr r' hr=>?_) λ_=>Ce (GY _) λ_ _ _=>DV (Gs .nil ht.2.2);rw[hr.2.1];exact OB λn _=>Ce (GY _) λ_ _ _=>DV (Gs .nil ht.2.2)
theorem TE:RP S en en' w b (NR S) (Hr en) (Hr en'):=by
 refine Ce (Qm _) λp p' h=>?_;rw[h.1];exact DV (Gs .nil h.2)
theorem sZ{read:Rd Nd}(q:Nat)(l:List Nd):EO en false (Sk read q l):=by
 cases q with
 | zero=>intro r s h;cases h
 | succ q=>exact oT Pu
theorem arD{read lL:Rd Nd}(h:RP S en en' w false (NR S) read lL):∀(q q':Nat) (l l':List Nd),hP S l l'->RP S en en' w false (hP S) (Sk read q l) (Sk lL q' l'):=by
 intro q
 induction q with
 | zero=>intro q' l l' _ _ _ _ _ _ _ _ e1;cases e1
 | succ q ih =>
   intro q' l l' hl;cases q' with
   | zero=>intro _ _ _ _ _ _ _ _ e2;cases e2
   | succ q'=>exact V7 (JD h (λn n' hn=>Sy (ih q' _ _ (Vc hl (.cons hn .nil)))) λn=>adG (sZ q _)) (DV hl) Pu
theorem anJ{read:Rd Nd}(h:EO en true read):EO en b (TA read):=Lr h
theorem vQ{read lL:Rd Nd}(h:RP S en en' w false (NR S) read lL):RP S en en' w false (hP S) (TA read) (TA lL) :=
 JD h (λn n' hn=>aiB λq q'=>arD h q q' _ _ (.cons hn .nil)) λn _ _ h=>sZ 1 [n] h
theorem Za:RP S en en' w b (QA S) (PM en) (PM en'):=by
 refine Ce (NI λ_ _ _ _=>rfl) λt t' h=>?_;have:Cu t=Cu t':=by unfold Cu;rw[h.2.1]
 rw[this,h.1];exact OB λc _=>Cj (λ_=>Cj (λ_=>DV ⟨rfl,h.2.2⟩) λ_=>Jl h.2.2) λ_=>DV ⟨rfl,h.2.2⟩
theorem adH:EO en b (PM en):=Lr anK
theorem arF:RP S en en' w b (·=·) (Zf en) (Zf en'):=by
 refine Ce (NI λ_ _ _ _=>rfl) λt t' h=>?_;rw[h.2.1];exact Cj (λ_=>DV rfl) λ_=>DV rfl
theorem bQ(AA from_ a:Int):RP S en en' w b (·=·) (QZ en AA from_ a) (QZ en' AA from_ a):=by
 refine Ce arF λs s' hs=>Ce (Qm _) λm m' hm=>Ce (GY _) λ_ _ _=>Ce (Qm _) λd d' hd=>?_;subst hs;rw[hm.1,hd.1];exact OB λg _=>OB λz _=>Cj (λ_=>Jl hd.2) λ_=>DV rfl
theorem bP(AA from_:Int):RP S en en' w b (·=·) (Pa en AA from_) (Pa en' AA from_):=by
 refine Ce (GY _) λ_ _ _=>V7 (Ce Za λa a' ha=>?_) (Ce Za λa a' ha=>?_) (Lr adH);rw[ha.1];exact bQ _ _ _;rw[ha.1];exact bQ _ _ _
theorem aiD(before:List Pt)(AA:Int):RP S en en' w b (·=·) (Uc en before AA) (Uc en' before AA):=by
 refine Ce Za λv v' hv=>?_;rw[hv.1];exact Cj (λ_=>Cj (λ_=>bP _ _) λ_=>Jl hv.2) λ_=>OB λq _=>Cj (λ_=>Jl hv.2) λ_=>Cj (λ_=>Jl hv.2) λ_=>bP _ _
theorem aaB:∀(q q':Nat) (l:List Pt) (c:Int),RP S en en' w false (·=·) (ND en q l c) (ND en' q' l c):=by
 intro q
 induction q with
 | zero=>intro q' l c _ _ _ _ _ _ _ e1;cases e1
 | succ q ih =>
   intro q' l c;cases q' with
   | zero=>intro _ _ _ _ _ _ _ _ e2;cases e2
   | succ q' =>
     refine Ce (aiD _ _) λp p' hp=>?_;subst hp;exact Sy (V7 (ih q' _ _) (DV rfl) Pu)
theorem aaC(c:Int){p p':Int}(hp:S p p'):∀(ps:List Pt) (acc:List Pc),RP S en en' w b (·=·) (NJ c p ps acc) (NJ c p' ps acc):=by
 intro ps
 induction ps with
 | nil=>intro acc;exact DV rfl
 | cons x ps ih=>intro acc;exact OB λz _=>Cj (λ_=>Jl hp) λ_=>Cj (λ_=>Jl hp) λ_=>Sy (ih _)
inductive ER(S:Int->Int->Prop):Ek->Ek->Prop
 | ex:ER S .ex .ex
 | lv (i:Nat):ER S (.lv i) (.lv i)
 | at_:ER S .at_ .at_
 | wd {t t':Tk}:TR S t t'->ER S (.wd t) (.wd t')
 | ca:ER S .ca .ca
 | ta:ER S .ta .ta
structure Rel(S:Int->Int->Prop)(en en':Int)(w:List Tk)(g g':Ek->Rd Nd)(li li':Rd (List Nd)):Prop where
 rg:∀{e e'},ER S e e'->RP S en en' w false (NR S) (g e) (g' e')
 rli:RP S en en' w false (hP S) li li'
 eg:∀e,(∀t,e≠.wd t)->EO en true (g e)
 eli:EO en true li
theorem awA{yes aIJ:ByteArray->Rd α}{no no':Rd α}(h1:∀x,RP S en en' w b Q (yes x) (aIJ x))(h2:RP S en en' w b Q no no')(h3:EO en b no):∀ops:List ByteArray,RP S en en' w b Q (qQ yes no ops) (qQ aIJ no' ops)/\EO en b (qQ yes no ops):=by
 intro ops
 induction ops with
 | nil=>exact⟨h2,h3⟩
 | cons x ops ih=>exact⟨V7 (h1 x) ih.1 ih.2,oT ih.2⟩
theorem auS{yes:ByteArray->Rd α}{no:Rd α}(h3:EO en b no):∀ops:List ByteArray,EO en b (qQ yes no ops):=by
 intro ops
 induction ops with
 | nil=>exact h3
 | cons x ops ih=>exact oT ih
theorem xH{op:ByteArray}{l l' r r' x x':Nd}(hl:NR S l l')(hr:NR S r r')(h1:Bl op l r=some x)(h2:Bl op l' r'=some x'):NR S x x':=by
 have ha:S l.AW l'.AW:=by cases hl with | mk _ h=>exact h
 unfold Bl at h1 h2;revert h1 h2;cases B1 op.data.toList JI.data.toList
 · cases B1 op.data.toList FX.data.toList
   intro h1 h2;cases h1;cases h2;exact .mk (.cons hl (.cons hr .nil)) ha
   · cases hq:K0 op JI Kf 1 with
     | none=>intro h1;cases h1
     | some y =>
       intro h1 h2;cases h1;cases h2;exact .mk (.cons hr (.cons hl .nil)) ha
 · cases hq:K0 op JI Kf 1 with
   | none=>intro h1;cases h1
   | some y =>
     intro h1 h2;cases h1;cases h2;exact .mk (.cons hr (.cons hl .nil)) ha
theorem lS{sub ajL:Rd Nd}(h:RP S en en' w false (NR S) sub ajL)(op:ByteArray){l l':Nd}(hl:NR S l l'):RP S en en' w false (NR S) (Sw en sub op l) (Sw en' ajL op l') :=
 JD (Cj (λ_=>TE) λ_=>h) (λr r' hr=>arC λx x' h1 h2=>DV (xH hl hr h1 h2)) λr=>axS λx=>Pu
theorem jA{ops:List ByteArray}{sub:Rd Nd}(q:Nat)(l:Nd):EO en false (L0 en ops sub q l):=by
 cases q with
 | zero=>intro r s h;cases h
 | succ q=>exact auS Pu ops
theorem ahY(ops:List ByteArray){sub ajL:Rd Nd}(h:RP S en en' w false (NR S) sub ajL):∀(q q':Nat) (l l':Nd),NR S l l'->RP S en en' w false (NR S) (L0 en ops sub q l) (L0 en' ops ajL q' l'):=by
 intro q
 induction q with
 | zero=>intro q' l l' _ _ _ _ _ _ _ _ e1;cases e1
 | succ q ih =>
   intro q' l l' hl;cases q' with
   | zero=>intro _ _ _ _ _ _ _ _ e2;cases e2
   | succ q'=>exact(awA (λx=>JD (lS h x hl) (λy y' hy=>ih q' _ _ hy) λy=>jA q y) (DV hl) Pu ops).1
section
variable {g g':Ek->Rd Nd} {li li':Rd (List Nd)} (A:Rel S en en' w g g' li li')
include A
theorem aiA(i:Nat):RP S en en' w false (NR S) (Py en g i) (Py en' g' i) :=
 JD (A.rg (.lv _)) (λN N' h=>aiB λq q'=>ahY _ (A.rg (.lv _)) q q' _ _ h) λN _ _ h=>jA 1 N h
theorem arA:RP S en en' w false (NR S) (iT en g) (iT en' g') :=
 JD (A.rg (.lv _)) (λN N' h=>(awA (λx=>lS (A.rg (.lv _)) x h) (DV h) Pu _).1) λN=>auS Pu _
theorem aBY:RP S en en' w false (NR S) (Z0 en g) (Z0 en' g'):=by
 intro l l1 s s' r r' f e1 e2;cases f with
 | nil =>
   by_cases hw:w=[];subst hw;exact A.rg (.lv 3) .nil e1 e2;exact .inr ⟨hw,((A.eg (.lv 3) (by intro t h;cases h)) e1).Zz⟩
 | cons ht f =>
   rename_i t t' l l';unfold Z0 at e1 e2
   have:Ku VV (t::l)=Ku VV (t'::l'++w):=by
     show B1 t.text.data.toList _=B1 t'.text.data.toList _;rw[ht.2.1]
   rw[<- this] at e2;cases hx:Ku VV (t::l) with
   | true =>
     rw[hx] at e1 e2;exact Ce (GY _) (λt t' ht=>JD (A.rg (.lv 2)) (λk k' hk=>DV (Gs (.cons hk .nil) ht.2.2)) λk=>Pu) (.cons ht f) e1 e2
   | false=>rw[hx] at e1 e2;exact A.rg (.lv 3) (.cons ht f) e1 e2
theorem aqZ:RP S en en' w false (NR S) (X6 en g li) (X6 en' g' li'):=by
 refine Y9 λt t' ht=>Ru (Ce (GY _) λ_ _ _=>JD (A.rg .ex) (λa a' ha=>Ce (GY _) λ_ _ _=>JD A.rli (λl l' hl=>Sy (Ce (GY _) λ_ _ _=>?_)) λ_=>adG (Lr QK)) λ_=>Lr QK);rw[ht.2.1];exact DV (Gs (.cons ha hl) ht.2.2)
theorem aiE:RP S en en' w false (NR S) (Zl en g) (Zl en' g'):=by
 refine Ce (GY _) λt t' ht=>Ce (GY _) λ_ _ _=>JD (A.rg .ex) (λa a' ha=>Ce (GY _) λ_ _ _=>JD (aiB λq q'=>aaB q q' _ _) (λl l' hl=>?_) λ_=>Lr QK) λ_=>Lr QK;subst hl;refine Ce (GY _) λe e' he=>Sy (Ce (aaC _ he.2.2 _ _) λr r' hr=>?_);subst hr;exact DV (.mk (.cons ha .nil) ht.2.2)
theorem arH{t t':Tk}(ht:TR S t t'):RP S en en' w false (NR S) (TJ en g t) (TJ en' g' t'):=by
 unfold TJ;rw[ht.2.1]
 have hd:RP S en en' w false (NR S) (Wm t) (Wm t'):=by
   unfold Wm;rw[ht.2.1];exact Ru (DV (Gs .nil ht.2.2))
 refine Cj (λ_=>Ru (DV (Gs .nil ht.2.2))) λ_=>Cj (λ_=>Ru (DV (Gs .nil ht.2.2))) λ_=>Cj (λ_=>Ru (Ce (Qm _) λp p' hp=>?_)) λ_ =>
   Cj (λ_=>hd) λ_=>Cj (λ_=>hd) λ_=>Cj (λ_=>hd) λ_=>Cj (λ_=>hd) λ_=>Cj (λ_=>A.rg .ca) λ_=>Cj (λ_=>A.rg .ca) λ_=>Cj (λ_=>A.rg .ta) λ_ =>
   Cj (λ_=>Ru (JD (A.rg .ex) (λa a' ha=>Ce (GY _) λ_ _ _=>DV ha) λ_=>Lr QK)) λ_=>Jl ht.2.2
 rw[hp.1];exact DV (Gs .nil ht.2.2)
theorem aqY:RP S en en' w false (NR S) (aH en g) (aH en' g'):=by
 refine Y9 λt t' ht=>?_;have h6:Ct t=Ct t':=wD (λ_ _ _ _=>rfl) ht;rw[ht.1,h6,ht.2.1];refine Cj (λ_=>Ce bO λn n' hn=>?_) λ_=>Cj (λ_=>Ru (Ce (NI λ_ _ _ _=>rfl) λa a' ha=>?_)) λ_=>OB λc _=>Cj (λ_=>Ru (DV (Gs .nil ht.2.2))) λ_=>A.rg (.wd ht);rw[hn.1];exact V7 (DV (Gs .nil hn.2)) (DV (Gs .nil hn.2)) Pu;have:Cu a=Cu a':=by unfold Cu;rw[ha.2.1]
 rw[this];exact OB λc _=>DV (Gs .nil ht.2.2)
end
theorem vJ:∀q q':Nat,Rel S en en' w (gP en q).1 (gP en' q').1 (gP en q).2 (gP en' q').2:=by
 intro q
 induction q with
 | zero =>
   intro q';constructor
   case rg=>intro _ _ _ _ _ _ _ _ _ _ e1;cases e1
   case rli=>intro _ _ _ _ _ _ _ e1;cases e1
   case eg=>intro _ _ _ _ e1;cases e1
   case eli=>intro _ _ e1;cases e1
 | succ q ih =>
   intro q'
   have eg:∀e,(∀t,e≠.wd t)->EO en true ((gP en (q+1)).1 e):=by
     have A:=ih 0;intro e he;show EO en true (Rx en (gP en q).1 (gP en q).2 e);unfold Rx;split;exact A.eg _ (by intro t h;cases h);intro r s h;exact A.eg (.lv 3) (by intro t h;cases h) h;exact Lr (A.eg _ (by intro t h;cases h));exact A.eg _ (by intro t h;cases h);exact Lr (A.eg _ (by intro t h;cases h));exact tA;rename_i t;exact absurd rfl (he t);exact tA;exact Lr QK
   have eli:EO en true (gP en (q+1)).2:=anJ ((ih 0).eg .ex (by intro t h;cases h));cases q' with
   | zero =>
     constructor
     case rg=>intro _ _ _ _ _ _ _ _ _ _ _ e2;cases e2
     case rli=>intro _ _ _ _ _ _ _ _ e2;cases e2
     case eg=>exact eg
     case eli=>exact eli
   | succ q' =>
     have A:=ih q';refine⟨λ{e e'} he=>?_,vQ (A.rg .ex),eg,eli⟩;show RP S en en' w false (NR S) (Rx en (gP en q).1 (gP en q).2 e) (Rx en' (gP en' q').1 (gP en' q').2 e');cases he with
     | ex=>exact A.rg (.lv 0)
     | at_=>exact aqY A
     | wd ht=>exact arH A ht
     | ca=>exact aqZ A
     | ta=>exact aiE A
     | lv i =>
       unfold Rx;split;rename_i h;cases h;exact aBY A;exact arA A;exact A.rg .at_;rename_i h;cases h;exact aiA A _
       all_goals (rename_i h;cases h)
end
end Mo
end Go.Proofs.YtpbkhogolfegfaaGreatDoor
namespace Go.Proofs.YtpbkhogolfegfaaGreatDoor
open AI Go
namespace Mo
set_option maxRecDepth 100000
def gI{x:Int}(h:-9223372036854775808<=x/\x<=9223372036854775807):IntKind.i64.wrap x=x:=by
 unfold IntKind.wrap;simp[IntKind.bits,IntKind.signed];omega
def Yd{a b:Int}(ha:0<=a)(hb:0 < b)(h:a<=9223372036854775807):S3 a b=some (a / b):=by
 unfold S3 abG;rw[if_neg (by omega),Int.tdiv_eq_ediv_of_nonneg ha,gI];exact⟨by have:=Int.ediv_nonneg ha (Int.le_of_lt hb);omega,by have:=Int.ediv_le_self b ha;omega⟩
structure Gd(t:Tk):Prop where
 num:t.kind=3->∃z,R4 t.text=some (z,())/\0<=z/\z<=999999999999
 sW:t.kind=3\/t.kind=4->∃z,Cu t=some z/\0<=z/\z<=999999999999
 date:t.kind=5->∃d e,Fs t.text=some (d,e)/\(e=0->0<=d/\d<=36524)
 len:t.text.data.toList.length<=6000
def Gl(l:List Tk):Prop:=∀t∈l,Gd t
section
variable {α β:Type} {n:Nat} {st:Bool} {P:α->Prop} {P2:β->Prop}
def UT(n:Nat)(st:Bool)(P:α->Prop)(m:Rd α):Prop:=∀⦃l:List Tk⦄,Gl l->l.length<=n->∃r s,m l=some (r,s)/\(∃k,s=l.drop k)/\∀a,r=.inl a->P a/\(st=true->s.length < l.length)
def Gl.drop{l:List Tk}(h:Gl l)(k:Nat):Gl (l.drop k):=λt ht=>h t (List.mem_of_mem_drop ht)
def Yf{l:List Tk}{k j:Nat}:(l.drop k).drop j=l.drop (k+j):=by rw[List.drop_drop]
def BB{m:Rd α}{K:α->Rd β}(h1:UT n true P m)(h2:∀a,P a->1<=n->UT (n - 1) false P2 (K a)):UT n st P2 (CF m K):=by
 intro l hg hl;obtain⟨r,s,e,⟨k,rfl⟩,hr⟩:=h1 hg hl;cases r with
 | inr d=>exact⟨.inr d,_,by unfold CF;rw[e],⟨k,rfl⟩,λa h=>by cases h⟩
 | inl a =>
   obtain⟨pa,hs⟩:=hr a rfl;have hs:=hs rfl;obtain⟨r2,s2,e2,⟨j,rfl⟩,hr2⟩:=h2 a pa (by omega) (hg.drop k) (by omega);refine⟨r2,_,by unfold CF;rw[e];exact e2,⟨k+j,Yf⟩,λb hb=>⟨(hr2 b hb).1,λ_=>?_⟩⟩;simp only[List.length_drop] at hs ⊢;omega
def asX{m:Rd α}{K:α->Rd β}(h1:UT n false P m)(h2:∀a,P a->UT n st P2 (K a)):UT n st P2 (CF m K):=by
 intro l hg hl;obtain⟨r,s,e,⟨k,rfl⟩,hr⟩:=h1 hg hl;cases r with
 | inr d=>exact⟨.inr d,_,by unfold CF;rw[e],⟨k,rfl⟩,λa h=>by cases h⟩
 | inl a =>
   obtain⟨pa,_⟩:=hr a rfl;obtain⟨r2,s2,e2,⟨j,rfl⟩,hr2⟩:=h2 a pa (hg.drop k) (by rw[List.length_drop];omega);refine⟨r2,_,by unfold CF;rw[e];exact e2,⟨k+j,Yf⟩,λb hb=>⟨(hr2 b hb).1,λh=>?_⟩⟩;have:=(hr2 b hb).2 h;simp only[List.length_drop] at this ⊢;omega
def UT.Zz{m:Rd α}(h:UT n st P m):UT n false P m:=λl hg hl=>by
 obtain⟨r,s,e,h1,h2⟩:=h hg hl;exact⟨r,s,e,h1,λa ha=>⟨(h2 a ha).1,λh=>by cases h⟩⟩
def UT.imp{Q:α->Prop}{m:Rd α}(h:UT n st P m)(f:∀a,P a->Q a):UT n st Q m:=λl hg hl=>by
 obtain⟨r,s,e,h1,h2⟩:=h hg hl;exact⟨r,s,e,h1,λa ha=>⟨f a (h2 a ha).1,(h2 a ha).2⟩⟩
def UT.le{n':Nat}{m:Rd α}(h:UT n st P m)(hn:n'<=n):UT n' st P m:=λ_ hg hl=>h hg (by omega)
def DX{a:α}(h:P a):UT n false P (GK a):=λl _ _=>⟨.inl a,l,rfl,⟨0,rfl⟩,λb hb=>by cases hb;exact⟨h,λh=>by cases h⟩⟩
def Jo{e p:Int}:UT n st P (Nb e p):=λl _ _=>⟨_,l,rfl,⟨0,rfl⟩,λb hb=>by cases hb⟩
def OF{X:Option β}{K:β->Rd α}(h:∃b,X=some b/\UT n st P (K b)):UT n st P (MO X K):=by
 obtain⟨b,rfl,h⟩:=h;exact h
def Zv{en:Int}{K:Tk->Rd α}(h:∀t,Gd t->∀s,Gl (t::s)->(t::s).length<=n->∃r s',K t (t::s)=some (r,s')/\(∃k,s'=(t::s).drop k)/\∀a,r=.inl a->P a/\(st=true->s'.length < (t::s).length)):UT n st P (WZ en K):=by
 intro l hg hl;cases l with
 | nil=>exact⟨_,[],rfl,⟨0,rfl⟩,λa h=>by cases h⟩
 | cons t s=>exact h t (hg t (List.mem_cons_self ..)) s hg hl
def SA{K:Rd α}(h:UT (n - 1) false P K){t:Tk}{s:List Tk}(hg:Gl (t::s))(hl:(t::s).length<=n) :
   ∃r s',Xw K (t::s)=some (r,s')/\(∃k,s'=(t::s).drop k)/\∀a,r=.inl a->P a/\(st=true->s'.length < (t::s).length):=by
 have hl':s.length+1<=n:=hl;obtain⟨r,s2,e,⟨k,rfl⟩,hr⟩:=h (l:=s) (λt ht=>hg t (List.mem_cons_of_mem _ ht)) (by omega);refine⟨r,_,e,⟨k+1,rfl⟩,λa ha=>⟨(hr a ha).1,λ_=>?_⟩⟩;rw[List.length_drop,List.length_cons];omega
def We{x:ByteArray}{A B:Rd α}(h1:1<=n->UT (n - 1) false P A)(h2:UT n st P B):UT n st P (PI x A B):=by
 intro l hg hl;unfold PI;cases hx:Ku x l with
 | false=>exact h2 hg hl
 | true =>
   cases l with
   | nil=>cases hx
   | cons t s=>exact SA (h1 (by simp only[List.length_cons] at hl;omega)) hg hl
def Wd{c:Nat}{m:Rd α}(hc:c<=100000000)(h:UT n st P m):UT n st P (Qi c m):=by
 intro l hg hl;unfold Qi;rw[FG hc];exact h hg hl
def Gf{c:Bool}{A B:Rd α}(h1:c=true->UT n st P A)(h2:c=false->UT n st P B):UT n st P (cond c A B):=by
 cases c;exact h2 rfl;exact h1 rfl
end
section
variable {n:Nat} {en:Int} {st:Bool}
def NM{f:Tk->Option Bool}(hf:∀t,∃b,f t=some b):UT n st (λt=>Gd t/\f t=some true) (MU en f):=by
 refine Zv λt hg s ZR hl=>?_;obtain⟨b,hb⟩:=hf t;unfold MO;rw[hb];cases b with
 | true=>exact SA (DX ⟨hg,hb⟩) ZR hl
 | false=>exact Jo ZR hl
def D5{c:Bool}{α:Type}{x y:Option α}(h1:∃z,x=some z)(h2:∃z,y=some z):∃z,cond c x y=some z:=by cases c;exact h2;exact h1
def Fc(x:ByteArray):UT n st (λ_=>True) (J8 en x):=(NM λt=>D5 ⟨_,rfl⟩ ⟨_,rfl⟩).imp λ_ _=>trivial
def Wx(t:Tk):∃b,Ct t=some b:=by
 unfold Ct;rw[afT];exact D5 (D5 ⟨_,rfl⟩ ⟨_,rfl⟩) ⟨_,rfl⟩
def Sx(x:ByteArray):∃b,Eu x=some b:=D5 ⟨_,rfl⟩ (D5 ⟨_,rfl⟩ (D5 ⟨_,rfl⟩ (D5 ⟨_,rfl⟩ ⟨_,rfl⟩)))
def XJ:UT n st (λt=>Gd t/\Ct t=some true) (bC en):=NM Wx
def wK:UT n st (λt=>Gd t/\Fb t=some true) (mL en):=NM λt=>D5 ⟨_,rfl⟩ (D5 ⟨_,rfl⟩ (D5 ⟨_,rfl⟩ (D5 ⟨_,rfl⟩ ⟨_,rfl⟩)))
def wJ:UT n st (λt=>Gd t/\BV t=some true) (bM en):=NM λt=>by
 unfold BV;obtain⟨b,hb⟩:=Sx t.text;rw[hb];exact D5 ⟨_,rfl⟩ ⟨_,rfl⟩
def QQ{a b:Int}{x:Bool}(h:cond (Dh a b) (some true) (some false)=some x):x=Dh a b:=by
 revert h;cases Dh a b<;>exact λh=>(Option.some.inj h).symm
def cG:UT n st (λp:Int×Int=>0<=p.1/\p.1<=999999999999) (O5 en):=by
 refine BB (NM λt=>D5 ⟨_,rfl⟩ ⟨_,rfl⟩) λt ht _=>?_;obtain⟨z,h1,h2⟩:=ht.1.num (FQ (QQ ht.2).symm);exact OF ⟨_,h1,DX h2⟩
def OG(least:Int):UT n st (λp:Int×Int=>least<=p.1/\p.1<=1000000) (Nc en least) :=
 BB cG λp hp _=>Gf (λ_=>Jo) λh1=>Gf (λ_=>Jo) λh2=>DX ⟨K4 h1,K4 h2⟩
def XI(least:Int):UT n st (λd:Int=>least<=d/\0<=d/\d<=36524) (Tn en least):=by
 refine BB (NM λt=>D5 ⟨_,rfl⟩ ⟨_,rfl⟩) λt ht _=>?_;obtain⟨d,e,h1,h2⟩:=ht.1.date (FQ (QQ ht.2).symm);exact OF ⟨_,h1,Gf (λh=>Gf (λ_=>Jo) λh3=>DX ⟨K4 h3,h2 (FQ h)⟩) λ_=>Jo⟩
def wG:UT n st (λ_=>True) (Yv en) :=
 BB (Fc _) λ_ _ _=>BB (OG _) λ_ _ _=>BB (Fc _) λ_ _ _=>BB (XI _) λ_ _ _ =>
   We (λ_=>BB (XI _) λ_ _ _=>BB (Fc _) λ_ _ _=>BB (XI _) λ_ _ _=>DX trivial) (BB (Fc _) λ_ _ _=>BB (XI _) λ_ _ _=>DX trivial)
def wF:UT n st (λ_=>True) (To en):=by
 refine Zv λt hg s ZR hl=>SA ((BB XJ λm _ _=>BB (Fc _) λ_ _ _=>BB wK λu _ _=>Gf (λ_=>BB wJ λr _ _=>?_) λ_=>BB (Fc _) λ_ _ _=>DX trivial)) ZR hl;obtain⟨b,hb⟩:=Sx r.text;exact OF ⟨b,hb,BB (Fc _) λ_ _ _=>DX trivial⟩
def TG:UT n st (λ_=>True) (Hr en):=BB (OG _) λ_ _ _=>DX trivial
def Zw:UT n st (λp:Int×Int=>0<=p.1/\p.1<=999999999999) (PM en):=by
 refine BB (NM λt=>D5 ⟨_,rfl⟩ (D5 ⟨_,rfl⟩ ⟨_,rfl⟩)) λt ht _=>?_
 have hk:t.kind=3\/t.kind=4:=by
   have h:=ht.2;unfold Df at h;cases h4:Dh t.kind 4 with
   | true=>exact .inr (FQ h4)
   | false =>
     rw[h4] at h;exact .inl (FQ (QQ h).symm)
 obtain⟨z,h1,h2⟩:=ht.1.sW hk;exact OF ⟨_,h1,Gf (λ_=>Gf (λ_=>DX h2) λ_=>Jo) λ_=>DX h2⟩
def atB:UT n st (λs:Int=>s=1\/s=-1) (Zf en) :=
 BB (NM λt=>D5 ⟨_,rfl⟩ (D5 ⟨_,rfl⟩ ⟨_,rfl⟩)) λt _ _=>Gf (λ_=>DX (.inr rfl)) λ_=>DX (.inl rfl)
def PcP(x:Pt×Int):Prop:=1<=x.2/\x.2<=1000000/\1<=x.1.den/\x.1.den<=1000000/\-1000000<=x.1.num/\x.1.num<=1000000
def cI{AA:Int}(hc:1<=AA/\AA<=1000000)(from_ a:Int):UT n st PcP (QZ en AA from_ a):=by
 refine BB atB λs hs _=>BB (OG _) λm hm _=>BB (Fc _) λ_ _ _=>BB (OG _) λd hd _=>?_;obtain⟨g,h1,h2,⟨c1,h3⟩,⟨c2,h4⟩⟩:=aeA hc.1 (show(0:Int)<=d.1 by omega);refine OF ⟨g,h1,OF ⟨_,Yd (by omega) (by omega) (by omega),Gf (λ_=>Jo) λh5=>DX ?_⟩⟩;have hq:AA / g=c1:=by rw[h3,Int.mul_ediv_cancel_left _ (by omega)]
 have hc1:1<=c1:=by
   by_cases h:1<=c1;exact h;have:=Int.mul_nonpos_of_nonneg_of_nonpos (show 0<=g by omega) (show c1<=0 by omega);omega
 have gY:c1<=1000000:=by
   have:=Int.mul_le_mul_of_nonneg_right h2 (show 0<=c1 by omega);omega
 have hw:BS (AA / g) d.1=c1*d.1:=by
   rw[hq];have a1:=Int.mul_le_mul gY hd.2 (by omega) (by omega);have a2:=Int.mul_nonneg (show 0<=c1 by omega) (show 0<=d.1 by omega);exact I4 (by omega)
 have h6:=K4 h5
 have a1:1<=c1*d.1:=by
   have:=Int.mul_le_mul_of_nonneg_right hc1 (show 0<=d.1 by omega);omega
 refine⟨by rw[hw];exact a1,h6,hd.1,hd.2,?_⟩;dsimp only;rcases hs with rfl | rfl
 rw[I4 (by omega)];omega;rw[I4 (by omega)];omega
def cH{AA:Int}(hc:1<=AA/\AA<=1000000)(from_:Int):UT n st PcP (Pa en AA from_) :=
 BB (Fc _) λ_ _ _=>We (λ_=>BB Zw λ_ _ _=>cI hc _ _) (BB Zw λ_ _ _=>cI hc _ _)
def akM(before:List Pt){AA:Int}(hc:1<=AA/\AA<=1000000):UT n st (λx=>PcP x/\before.length<=63) (Uc en before AA):=by
 refine BB Zw λv hv _=>Gf (λh=>Gf (λ_=>(cH hc _).imp λx hx=>⟨hx,?_⟩) λ_=>Jo) λh=>?_;have:=FQ h;omega;have hb:before.length≠0:=λe=>Wo h (by rw[e];rfl);refine OF ⟨before[before.length - 1]'(by omega),List.getElem?_eq_getElem (by omega),Gf (λ_=>Jo) λ_=>Gf (λ_=>Jo) λh2=>(cH hc _).imp λx hx=>⟨hx,?_⟩⟩;have:=afW h2;omega
end
end Mo
end Go.Proofs.YtpbkhogolfegfaaGreatDoor
namespace Go.Proofs.YtpbkhogolfegfaaGreatDoor
open AI Go
namespace Mo
set_option maxRecDepth 100000
section
variable {α β:Type} {n:Nat} {en:Int} {st:Bool} {P:α->Prop}
abbrev TT{α:Type}:α->Prop:=λ_=>True
theorem mO{K:Nat->Rd α}(h:∀k,k<=n->UT k st P (K (k+1))):UT n st P (λs=>K (s.length+1) s):=λl hg hl=>h l.length hl hg (Nat.le_refl _)
theorem atA{read:Rd Nd}:∀(q n:Nat) (ns:List Nd),n < q->ns.length+n<=100000->UT n true TT read->UT n false (λr:List Nd=>r.length<=ns.length+n) (Sk read q ns):=by
 intro q
 induction q with
 | zero=>intro n ns h;omega
 | succ q ih =>
   intro n ns hn hl hr;refine We (λh1=>BB (hr.le (by omega)) λx _ h2=>Wd (by omega) ?_) (DX (by omega));refine(ih (n - 1 - 1) (ns++[x]) (by omega) (by simp only[List.length_append,List.length_singleton];omega) (hr.le (by omega))).imp λr hr=>?_;simp only[List.length_append,List.length_singleton] at hr;omega
theorem wI{read:Rd Nd}(hn:n<=10000)(hr:UT n true TT read):UT n st (λr:List Nd=>r.length<=n+1) (TA read) :=
 BB hr λx _ h1=>mO (K:=λq=>Sk read q [x]) λk hk=>(atA (k+1) k [x] (by omega) (by simp only[List.length_singleton];omega) (hr.le (by omega))).imp λr h=>by simp only[List.length_singleton] at h;omega
theorem aqP:∃y,K0 JI JI Kf 1=some y:=⟨_,rfl⟩
theorem aqO:∃y,K0 FX JI Kf 1=some y:=⟨_,rfl⟩
theorem iK(op:ByteArray)(l r:Nd):∃x,Bl op l r=some x:=by
 unfold Bl;cases h1:B1 op.data.toList JI.data.toList with
 | true =>
   obtain⟨y,hy⟩:=aqP;rw[O0 h1,hy];exact⟨_,rfl⟩
 | false =>
   cases h2:B1 op.data.toList FX.data.toList with
   | true =>
     obtain⟨y,hy⟩:=aqO;rw[O0 h2,hy];exact⟨_,rfl⟩
   | false=>exact⟨_,rfl⟩
theorem awK{yes:ByteArray->Rd α}{no:Rd α}(h1:∀x,1<=n->UT (n - 1) false P (yes x))(h2:UT n st P no):∀ops:List ByteArray,UT n st P (qQ yes no ops):=by
 intro ops
 induction ops with
 | nil=>exact h2
 | cons x ops ih=>exact We (h1 x) ih
theorem mQ{sub:Rd Nd}(h:UT n true TT sub)(op:ByteArray)(l:Nd):UT n st TT (Sw en sub op l) :=
 BB (Gf (λ_=>TG) λ_=>h) λr _ _=>by
   obtain⟨x,hx⟩:=iK op l r;exact OF ⟨x,hx,DX trivial⟩
theorem akL{ops:List ByteArray}{sub:Rd Nd}:∀(q n:Nat) (l:Nd),n < q->UT n true TT sub->UT n false TT (L0 en ops sub q l):=by
 intro q
 induction q with
 | zero=>intro n l h;omega
 | succ q ih =>
   intro n l hn hs;exact awK (λx h1=>BB (mQ (hs.le (by omega)) x l) λb _ h2=>ih (n - 1 - 1) b (by omega) (hs.le (by omega))) (DX trivial) ops
def PsP(r:List Pt×Int):Prop:=r.1.length<=64/\1<=r.2/\r.2<=1000000/\∀x∈r.1,1<=x.den/\-1000000<=x.num/\x.num<=1000000
theorem aaZ:∀(q n:Nat) (ps:List Pt) (c:Int),n < q->1<=c->c<=1000000->(∀x∈ps,1<=x.den/\-1000000<=x.num/\x.num<=1000000)->UT n st PsP (ND en q ps c):=by
 intro q
 induction q generalizing st with
 | zero=>intro n ps c h;omega
 | succ q ih =>
   intro n ps c hn h1 h2 h3;refine BB (akM ps ⟨h1,h2⟩) λx hx h4=>?_;obtain⟨⟨a1,a2,a3,a4,a5,a6⟩,hb⟩:=hx
   have h5:∀y∈ps++[x.1],1<=y.den/\-1000000<=y.num/\y.num<=1000000:=by
     intro y hy;rcases List.mem_append.1 hy with hy | hy
     exact h3 y hy;rw[List.mem_singleton.1 hy];exact⟨a3,a5,a6⟩
   exact Wd (by omega) (We (λh6=>ih (n - 1 - 1) _ _ (by omega) a1 a2 h5) (DX ⟨by simp only[List.length_append,List.length_singleton];omega,a1,a2,h5⟩))
theorem abA{c:Int}(hc:1<=c/\c<=1000000)(p:Int):∀(ps:List Pt) (acc:List Pc),(∀x∈ps,1<=x.den)->acc.length+ps.length<=1000->UT n false TT (NJ c p ps acc):=by
 intro ps
 induction ps with
 | nil=>intro acc _ _;exact DX trivial
 | cons x ps ih =>
   intro acc h1 h2;have:=h1 x (List.mem_cons_self ..);simp only[List.length_cons] at h2;exact OF ⟨_,Yd (by omega) (by omega) (by omega),Gf (λ_=>Jo) λ_=>Gf (λ_=>Jo) λ_=>Wd (by omega) (ih _ (λy hy=>h1 y (List.mem_cons_of_mem _ hy)) (by simp only[List.length_append,List.length_singleton];omega))⟩
def UW(n:Nat)(m:Rd Nd):Prop:=∀t s,Gl (t::s)->(t::s).length<=n->∃r s',m (t::s)=some (r,s')/\(∃k,s'=(t::s).drop k)/\∀a,r=.inl a->True/\(true=true->s'.length < (t::s).length)
structure Tot(q:Nat)(g:Ek->Rd Nd)(li:Rd (List Nd)):Prop where
 ex:∀n,n<=10000->10*n+11<=q->UT n true TT (g .ex)
 lv:∀i n,i<=6->n<=10000->10*n+10 - i<=q->UT n true TT (g (.lv i))
 at_:∀n,n<=10000->10*n+3<=q->UT n true TT (g .at_)
 wd:∀t n,n<=10000->10*n+2<=q->UW n (g (.wd t))
 ca:∀n,n<=10000->10*n+1<=q->UT n true TT (g .ca)
 ta:∀n,n<=10000->10*n+1<=q->UT n true TT (g .ta)
 li:∀n,n<=10000->10*n+12<=q->UT n true (λr:List Nd=>r.length<=n+1) li
section
variable {q:Nat} {g:Ek->Rd Nd} {li:Rd (List Nd)} (A:Tot q g li)
include A
theorem Vr{i:Nat}(hi:i<=5)(hn:n<=10000)(hq:10*n+9 - i<=q):UT n true TT (Py en g i) :=
 BB (A.lv (i+1) n (by omega) hn (by omega)) λl _ h1=>mO (K:=λq=>L0 en (opsOf i) (g (.lv (i+1))) q l) λk hk=>akL (k+1) k l (by omega) (A.lv (i+1) k (by omega) (by omega) (by omega))
theorem asZ(hn:n<=10000)(hq:10*n+6<=q):UT n true TT (iT en g) :=
 BB (A.lv 4 n (by omega) hn (by omega)) λl _ h1=>awK (λx h2=>mQ (A.lv 4 _ (by omega) (by omega) (by omega)) x l) (DX trivial) _
theorem aCW(hn:n<=10000)(hq:10*n+7<=q):UT n true TT (Z0 en g):=by
 intro l hg hl;unfold Z0;cases hx:Ku VV l with
 | false=>exact A.lv 3 n (by omega) hn (by omega) hg hl
 | true=>exact BB (Fc _) (λt _ h1=>BB (A.lv 2 (n - 1) (by omega) (by omega) (by omega)) λk _ _=>DX trivial) hg hl
theorem asY(hn:n<=10000)(hq:10*n<=q):UT n true TT (X6 en g li):=by
 refine Zv λt hg s ZR hl=>SA (BB (Fc _) λ_ _ h1=>BB (A.ex _ (by omega) (by omega)) λa _ h2=>BB (Fc _) λ_ _ h3=>BB (A.li _ (by omega) (by omega)) λl hl h4=>Wd (by omega) (BB (Fc _) λ_ _ _=>DX trivial)) ZR hl
theorem akN(hn:n<=10000)(hq:10*n<=q):UT n true TT (Zl en g):=by
 refine BB (Fc _) λt _ h1=>BB (Fc _) λ_ _ h2=>BB (A.ex _ (by omega) (by omega)) λa _ h3=>BB (Fc _) λ_ _ h4=>BB (P:=PsP) (mO (K:=λq=>ND en q [] 1) λk hk=>aaZ (k+1) k [] 1 (by omega) (by omega) (by omega) (λx hx=>by cases hx)) λr hr h5=>BB (Fc _) λe _ h6=>?_;exact Wd (by have:=hr.1;omega) (asX (abA ⟨hr.2.1,hr.2.2.1⟩ _ _ _ (λx hx=>(hr.2.2.2 x hx).1) (by have:=hr.1;simp only[List.length_nil];omega)) λ_ _=>DX trivial)
theorem atC(t:Tk)(hn:n<=10000)(hq:10*n+1<=q):UW n (TJ en g t):=by
 intro t' s hg hl;have one:∀{x:Nd},∃r s',Xw (GK x) (t'::s)=some (r,s')/\(∃k,s'=(t'::s).drop k)/\∀a,r=.inl a->True/\(true=true->s'.length < (t'::s).length):=λ{x}=>SA (DX trivial) hg hl;have h1:1<=n:=by simp only[List.length_cons] at hl;omega
 unfold TJ;cases B1 t.text.data.toList Zq.data.toList;rotate_left;exact one;cases B1 t.text.data.toList TW.data.toList;rotate_left;exact one;cases B1 t.text.data.toList dC.data.toList;rotate_left;exact SA (BB (OG _) λ_ _ _=>DX trivial) hg hl;cases B1 t.text.data.toList LM.data.toList;rotate_left;exact one;cases B1 t.text.data.toList dO.data.toList;rotate_left;exact one;cases B1 t.text.data.toList QS.data.toList;rotate_left;exact one;cases B1 t.text.data.toList VC.data.toList;rotate_left;exact one;cases B1 t.text.data.toList KW.data.toList;rotate_left;exact A.ca n hn hq hg hl;cases B1 t.text.data.toList F3.data.toList;rotate_left;exact A.ca n hn hq hg hl;cases B1 t.text.data.toList Q7.data.toList;rotate_left;exact A.ta n hn hq hg hl;cases B1 t.text.data.toList Ug.data.toList;rotate_left;exact SA (UT.Zz (BB (st:=true) (A.ex (n - 1) (by omega) (by omega)) λ_ _ _=>BB (Fc _) λ_ _ _=>DX trivial)) hg hl;exact Jo (st:=true) (P:=TT) hg hl
theorem asW(hn:n<=10000)(hq:10*n+2<=q):UT n true TT (aH en g):=by
 refine Zv λt ht s hg hl=>?_;cases Dh t.kind 3;rotate_left;exact BB (st:=true) (P2:=TT) cG (λ_ _ _=>We (λ_=>DX trivial) (DX trivial)) hg hl;cases Dh t.kind 2;rotate_left;refine SA (BB (NM λt=>D5 ⟨_,rfl⟩ ⟨_,rfl⟩) λa ha _=>?_) hg hl;obtain⟨z,h1,_⟩:=ha.1.sW (.inr (FQ (QQ ha.2).symm));exact OF ⟨z,h1,DX trivial⟩;obtain⟨b,hb⟩:=Wx t;unfold cond MO;dsimp only;rw[hb];cases b;exact A.wd t n hn hq t s hg hl;exact SA (DX trivial) hg hl
end
theorem wC:∀q:Nat,Tot q (gP en q).1 (gP en q).2:=by
 intro q
 induction q with
 | zero=>constructor<;>intros<;>omega
 | succ q A =>
   constructor
   case ex=>intro n hn hq;exact A.lv 0 n (by omega) hn (by omega)
   case lv =>
     intro i n hi hn hq;show UT n true TT (Rx en (gP en q).1 (gP en q).2 (.lv i));have:i=0\/i=1\/i=2\/i=3\/i=4\/i=5\/i=6:=by omega
     rcases this with rfl | rfl | rfl | rfl | rfl | rfl | rfl
     exact Vr A (by omega) hn (by omega);exact Vr A (by omega) hn (by omega);exact aCW A hn (by omega);exact asZ A hn (by omega);exact Vr A (by omega) hn (by omega);exact Vr A (by omega) hn (by omega);exact A.at_ n hn (by omega)
   case at_=>intro n hn hq;exact asW A hn (by omega)
   case wd=>intro t n hn hq;exact atC A t hn (by omega)
   case ca=>intro n hn hq;exact asY A hn (by omega)
   case ta=>intro n hn hq;exact akN A hn (by omega)
   case li=>intro n hn hq;exact wI hn (A.ex n hn (by omega))
end
end Mo
end Go.Proofs.YtpbkhogolfegfaaGreatDoor
namespace Go.Proofs.YtpbkhogolfegfaaGreatDoor
open AI Go
namespace Mo
set_option maxRecDepth 100000
theorem tF:∀l:List Tk,F2 (·=·) l l
 | []=>.nil
 | t::l=>.cons ⟨rfl,rfl,rfl⟩ (tF l)
theorem aEC{l l':List Tk}(h:F2 (·=·) l l'):l=l':=by
 induction h with
 | nil=>rfl
 | cons ht _ ih =>
   rename_i t t' l l' _;obtain⟨k,x,a⟩:=t;obtain⟨k',x',a'⟩:=t';obtain⟨h1,h2,h3⟩:=ht;dsimp only at h1 h2 h3;subst h1 h2 h3;rw[ih]
theorem aGK{n n':Nd}(h:NR (·=·) n n'):n=n' :=
 NR.rec (S:=(·=·)) (motive_1:=λa b _=>a=b) (motive_2:=λa b _=>a=b) (λ_ h ih=>by rw[ih,h]) rfl (λ_ _ h1 h2=>by rw[h1,h2]) h
theorem aHC{en:Int}{r r':Nd⊕Dg}(h:RR (·=·) en en (NR (·=·)) r r'):r=r':=by
 cases h with
 | l h=>rw[aGK h]
 | r h =>
   rename_i d d';obtain⟨h1,h2 | ⟨rfl,rfl⟩⟩:=h;obtain⟨e,a⟩:=d;obtain⟨e',a'⟩:=d';dsimp only at h1 h2;subst h1 h2;rfl;rfl
def ON(en:Int):Rd Nd:=λl=>(gP en (10*l.length+11)).1 .ex l
theorem awJ{n:Nat}{en:Int}(hn:n<=10000):UT n true TT (ON en):=λl hg hl=>(wC (10*l.length+11)).ex l.length (by omega) (Nat.le_refl _) hg (Nat.le_refl _)
theorem aHB{S:Int->Int->Prop}{en en':Int}{w:List Tk}:RP S en en' w false (NR S) (ON en) (ON en'):=λl l1 _ _ _ _ f e1 e2=>(vJ _ _).rg .ex f e1 e2
theorem anO{en:Int}{l s:List Tk}{r:Nd⊕Dg}(hg:Gl l)(hl:l.length<=10000)(h:ON en l=some (r,s))(q:Nat)(hq:10*l.length+11<=q):(gP en q).1 .ex l=some (r,s):=by
 obtain⟨r',s',h2,_⟩:=(wC (en:=en) q).ex l.length hl hq hg (Nat.le_refl _);have h3:=(vJ (S:=(·=·)) (en:=en) (en':=en) (w:=[]) (10*l.length+11) q).rg .ex (tF l) h (by rw[List.append_nil];exact h2);rcases h3 with ⟨s1,rfl,h4,h5⟩ | ⟨h3,_⟩
 rw[h2,List.append_nil,aHC h5,aEC h4];exact absurd rfl h3
section
variable {ts:List Tk} (D0:ts.length<=10000) (hg:Gl ts) {en:Int}
include D0 hg
theorem tD{k:Nat}(hk:k<=ts.length){r l}(hS:ON en (ts.drop k)=some (r,l)):JE ts k (FV ⟨ts,k,en⟩) r l:=by
 have hd:(ts.drop k).length<=10000:=by rw[List.length_drop];omega
 have key:∀q,10*(ts.drop k).length+11<=q->JE ts k (Bf q ⟨ts,k,en⟩) r l:=λq hq=>(amQ (by omega) en q).ex hk (anO (hg.drop k) hd hS q hq);obtain⟨k',a1,a2,a3,a4⟩:=key _ (Nat.le_refl _);refine⟨k',a1,a2,a3,Yj (10*(ts.drop k).length+11) λq hq=>?_⟩;obtain⟨k2,b1,b2,b3,b4⟩:=key q hq
 have:k2=k':=by
   have h:=congrArg List.length (a3.symm.trans b3);simp only[List.length_drop] at h;omega
 rw[b4,this]
theorem iO(kind:Int){k:Nat}(hk:k<=ts.length){r l}(hS:J6 en (ON en) kind (ts.drop k)=some (r,l)):JE ts k (CT ⟨ts,k,en⟩ kind) r l:=by
 have h6:ts.length<=1000000:=by omega
 refine V5 hk (λt h1 h2 hS=>?_) (λ_=>rfl) hS;have hS:=Z1 h2 hS;dsimp only[Sum.elim];rw[Ey h6 hk];refine LJ (Nat.le_succ k) ?_;revert hS;cases Dh kind 7;intro hS;refine BD (λh=>tD D0 hg h1 h) (λa k h hk hS=>?_) (λ_ _=>rfl) hS;refine BD (λh=>I7 h6 _ hk h) (λ_ k h hk hS=>?_) (λ_ _=>rfl) hS;exact Er hk rfl hS;intro hS;refine BD (λh=>apF h6 (λhk _ _ h=>Vd h6 hk h) h1 h) (λa k h hk hS=>?_) (λ_ _=>rfl) hS;refine BD (λh=>I7 h6 _ hk h) (λ_ k h hk hS=>?_) (λ_ _=>rfl) hS;exact Er hk rfl hS
theorem aqB(t1 t4:Tk)(n2:Int×Int)(k0:Int):∀(q:Nat) (ns:List Nd) (un am:Bool) (k:Nat) (r:Nd⊕Dg) (l:List Tk),k<=ts.length->JZ en (ON en) (λl=>FR 4 t4.text bE n2.1 l t1.AW) q ns un am (ts.drop k)=some (r,l) ->
   ∃k':Nat,k<=k'/\k'<=ts.length/\l=ts.drop k'/\∃n,EM (λx:List Nd×Int×Bool×Bool=>Bv ⟨ts,k0,en⟩ t1 n2 t4 x.1 x.2.1 x.2.2.1 x.2.2.2) n (ns,(k:Int),un,am)=some (.inr (r,(k':Int))):=by
 have h6:ts.length<=1000000:=by omega
 intro q
 induction q with
 | zero=>intro ns un am k r l hk hS;cases hS
 | succ q ih =>
   intro ns un am k r l hk hS
   have stop:∀{y:(Nd⊕Dg)×Int},Bv ⟨ts,k0,en⟩ t1 n2 t4 ns (k:Int) un am=some (.rt y)->EM (λx:List Nd×Int×Bool×Bool=>Bv ⟨ts,k0,en⟩ t1 n2 t4 x.1 x.2.1 x.2.2.1 x.2.2.2) 1 (ns,(k:Int),un,am)=some (.inr y):=by
     intro y h;show(Bv ⟨ts,k0,en⟩ t1 n2 t4 ns (k:Int) un am).bind _=_;rw[h];rfl
   have go:∀{y:List Nd×Int×Bool×Bool} {n:Nat} {z},Bv ⟨ts,k0,en⟩ t1 n2 t4 ns (k:Int) un am=some (.nx y)->EM (λx:List Nd×Int×Bool×Bool=>Bv ⟨ts,k0,en⟩ t1 n2 t4 x.1 x.2.1 x.2.2.1 x.2.2.2) n y=z->EM (λx:List Nd×Int×Bool×Bool=>Bv ⟨ts,k0,en⟩ t1 n2 t4 x.1 x.2.1 x.2.2.1 x.2.2.2) (n+1) (ns,(k:Int),un,am)=z:=by
     intro y n z h h2;show(Bv ⟨ts,k0,en⟩ t1 n2 t4 ns (k:Int) un am).bind _=_;rw[h];exact h2
   unfold JZ WZ at hS;unfold Bv at stop go;rcases JT ts hk with ⟨h1,h2⟩ | ⟨t,h1,h2,h3⟩
   · rw[h2] at hS
     dsimp only at hS;simp only[Option.some.injEq,Prod.mk.injEq] at hS;obtain⟨rfl,rfl⟩:=hS;refine⟨k,Nat.le_refl k,hk,h2.symm,1,stop ?_⟩
     have:AD ⟨ts,k,en⟩=some (.inr ⟨72,en⟩):=by
       unfold AD;rw[WB (by dsimp only;omega)];rfl
     dsimp only;rw[this];rfl
   · rw[h3] at hS
     dsimp only at hS;rw[<- h3] at hS
     have hpk:AD ⟨ts,k,en⟩=some (.inl t):=by
       unfold AD;rw[Tz (by dsimp only;omega)];dsimp only[cond];unfold Ha;rw[if_pos (by omega),Int.toNat_natCast,h2];rfl
     dsimp only at stop go;rw[hpk] at stop go;dsimp only[Option.bind,Sum.elim] at stop go
     have one:∀(kind:Int) (rZ oE:Bool),(CF (J6 en (ON en) kind) λc=>Qi (ns.length+1) (JZ en (ON en) (λl=>FR 4 t4.text bE n2.1 l t1.AW) q (ns++[c]) rZ oE)) (ts.drop k)=some (r,l) ->
         (∃(k1:Nat) (c:Nd),k<=k1/\k1<=ts.length/\CT ⟨ts,k,en⟩ kind=some (.inl c,(k1:Int))/\ns.length+1<=100000000/\∃k':Nat,k1<=k'/\k'<=ts.length/\l=ts.drop k'/\∃n,EM (λx:List Nd×Int×Bool×Bool=>Bv ⟨ts,k0,en⟩ t1 n2 t4 x.1 x.2.1 x.2.2.1 x.2.2.2) n (ns++[c],(k1:Int),rZ,oE)=some (.inr (r,(k':Int)))) \/
         (∃(k':Nat) (d:Dg),k<=k'/\k'<=ts.length/\l=ts.drop k'/\r=.inr d/\CT ⟨ts,k,en⟩ kind=some (.inr d,(k':Int))):=by
       intro kind rZ oE h;rcases Km h with ⟨c,s',h4,h5⟩ | ⟨d,h4,rfl⟩
       obtain⟨k1,a1,a2,rfl,a4⟩:=iO D0 hg kind hk h4;obtain⟨hl,h5⟩:=O3 h5;exact .inl ⟨k1,c,a1,a2,a4,hl,ih _ _ _ _ _ _ a2 h5⟩;obtain⟨k1,a1,a2,a3,a4⟩:=iO D0 hg kind hk h4;exact .inr ⟨k1,d,a1,a2,a3,rfl,a4⟩
     cases hw:B1 t.text.data.toList cP.data.toList with
     | true =>
       rw[hw] at hS stop go;dsimp only[cond] at hS stop go;rcases one 6 un am hS with ⟨k1,c,a1,a2,a3,a4,k',b1,b2,b3,n,b4⟩ | ⟨k',d,a1,a2,a3,rfl,a4⟩
       rw[a3] at go;dsimp only[Option.bind,Sum.elim] at go;rw[FG a4] at go;exact⟨k',by omega,b2,b3,n+1,go rfl b4⟩
       · rw[a4] at stop
         exact⟨k',a1,a2,a3,1,stop rfl⟩
     | false =>
       rw[hw] at hS stop go;dsimp only[cond] at hS stop go;cases hu:B1 t.text.data.toList SW.data.toList with
       | true =>
         rw[hu] at hS stop go;dsimp only at hS stop go;cases un with
         | true =>
           dsimp only at hS stop go;obtain⟨rfl,rfl⟩:=N5 hS;exact⟨k,Nat.le_refl k,hk,rfl,1,stop rfl⟩
         | false =>
           dsimp only at hS stop go;rcases one 7 true am hS with ⟨k1,c,a1,a2,a3,a4,k',b1,b2,b3,n,b4⟩ | ⟨k',d,a1,a2,a3,rfl,a4⟩
           rw[a3] at go;dsimp only[Option.bind,Sum.elim] at go;rw[FG a4] at go;exact⟨k',by omega,b2,b3,n+1,go rfl b4⟩
           · rw[a4] at stop
             exact⟨k',a1,a2,a3,1,stop rfl⟩
       | false =>
         rw[hu] at hS stop go;dsimp only at hS stop go;cases ha:B1 t.text.data.toList QF.data.toList with
         | true =>
           rw[ha] at hS stop go;dsimp only at hS stop go;cases am with
           | true =>
             dsimp only at hS stop go;obtain⟨rfl,rfl⟩:=N5 hS;exact⟨k,Nat.le_refl k,hk,rfl,1,stop rfl⟩
           | false =>
             dsimp only at hS stop go;rcases one 8 un true hS with ⟨k1,c,a1,a2,a3,a4,k',b1,b2,b3,n,b4⟩ | ⟨k',d,a1,a2,a3,rfl,a4⟩
             rw[a3] at go;dsimp only[Option.bind,Sum.elim] at go;rw[FG a4] at go;exact⟨k',by omega,b2,b3,n+1,go rfl b4⟩
             · rw[a4] at stop
               exact⟨k',a1,a2,a3,1,stop rfl⟩
         | false =>
           rw[ha] at hS stop go;dsimp only at hS stop go;cases hc:B1 t.text.data.toList Z3.data.toList with
           | true =>
             rw[hc] at hS stop;dsimp only at hS stop;cases am with
             | true =>
               have hS:=Z1 h3 hS;obtain⟨rfl,rfl⟩:=LY hS;refine⟨k+1,by omega,h1,rfl,1,stop ?_⟩;dsimp only;rw[Ey h6 hk];rfl
             | false =>
               obtain⟨rfl,rfl⟩:=N5 hS;exact⟨k,Nat.le_refl k,hk,rfl,1,stop rfl⟩
           | false =>
             rw[hc] at hS stop;dsimp only at hS stop;obtain⟨rfl,rfl⟩:=N5 hS;exact⟨k,Nat.le_refl k,hk,rfl,1,stop rfl⟩
theorem xB{k:Nat}(hk:k<=ts.length){r l}(hS:N0 en (ON en) (ts.drop k)=some (r,l)):JE ts k (F6 ⟨ts,k,en⟩) r l:=by
 have h6:ts.length<=1000000:=by omega
 refine BD (λh=>I7 h6 _ hk h) (λt k1 h hk hS=>?_) (λ_ _=>rfl) hS;refine BD (λh=>Pb h6 _ hk h) (λn k1 h hk hS=>?_) (λ_ _=>rfl) hS;refine BD (λh=>I7 h6 _ hk h) (λ_ k1 h hk hS=>?_) (λ_ _=>rfl) hS;refine BD (λh=>agR h6 hk h) (λm k1 h hk hS=>?_) (λ_ _=>rfl) hS;refine BD (λh=>ayU h6 hk h) (λhd k1 h hk hS=>?_) (λ_ _=>rfl) hS;dsimp only[Sum.elim];rw[FG (by omega)];refine BD (λh=>I7 h6 _ hk h) (λ_ k1 h hk hS=>?_) (λ_ _=>rfl) hS;obtain⟨k',a1,a2,a3,j,a4⟩:=aqB D0 hg t m n (k:Int) _ [hd] false false k1 r l hk hS;refine⟨k',a1,a2,a3,?_⟩;dsimp only[Sum.elim];rw[List.nil_append,Fe a4];rfl
theorem afO{k:Nat}(hk:k<=ts.length){r l}(hS:Sg en (ON en) (ts.drop k)=some (r,l)):JE ts k (Hx ⟨ts,k,en⟩) r l:=by
 have h6:ts.length<=1000000:=by omega
 refine V5 hk (λt h1 h2 hS=>?_) (λ_=>rfl) hS;revert hS;dsimp only[Sum.elim];cases B1 t.text.data.toList Tt.data.toList;rotate_left;exact λhS=>QY (adA h6 hk hS);cases B1 t.text.data.toList O4.data.toList;rotate_left;exact λhS=>QY (adA h6 hk hS);cases B1 t.text.data.toList Iu.data.toList;rotate_left;exact λhS=>QY (xB D0 hg hk hS);exact λhS=>Er hk rfl hS
end
end Mo
end Go.Proofs.YtpbkhogolfegfaaGreatDoor
namespace Go.Proofs.YtpbkhogolfegfaaGreatDoor
open AI Go
namespace Mo
set_option maxRecDepth 100000
section
variable {S:Int->Int->Prop} {en en':Int} {w:List Tk} {b:Bool}
def V6(kind:Int):RP S en en' w b (NR S) (J6 en (ON en) kind) (J6 en' (ON en') kind) :=
 Y9 λ_ _ ht=>Ru (Cj (λ_=>JD (vQ TE) (λ_ _ hl=>Ce (GY _) λ_ _ _=>DV (Gs hl ht.2.2)) λ_=>Lr QK)
   λ_=>JD aHB (λ_ _ hl=>Ce (GY _) λ_ _ _=>DV (Gs (.cons hl .nil) ht.2.2)) λ_=>Lr QK)
def aiC{mk mk':List Nd->Nd}(hm:∀l l',hP S l l'->NR S (mk l) (mk' l')):∀(q q':Nat) (l l':List Nd) (un am:Bool),hP S l l'->RP S en en' w b (NR S) (JZ en (ON en) mk q l un am) (JZ en' (ON en') mk' q' l' un am):=by
 intro q
 induction q with
 | zero=>intro q' l l' un am _ _ _ _ _ _ _ _ e1;cases e1
 | succ q ih =>
   intro q' l l' un am hl;cases q' with
   | zero=>intro _ _ _ _ _ _ _ _ e2;cases e2
   | succ q' =>
     refine Y9 λt t' ht=>?_;rw[ht.2.1]
     exact Cj (λ_=>Ce (V6 _) λc c' hc=>Sy (ih q' _ _ _ _ (Vc hl (.cons hc .nil)))) λ_ =>
       Cj (λ_=>Cj (λ_=>Jl ht.2.2) λ_=>Ce (V6 _) λc c' hc=>Sy (ih q' _ _ _ _ (Vc hl (.cons hc .nil)))) λ_ =>
       Cj (λ_=>Cj (λ_=>Jl ht.2.2) λ_=>Ce (V6 _) λc c' hc=>Sy (ih q' _ _ _ _ (Vc hl (.cons hc .nil)))) λ_ =>
       Cj (λ_=>Cj (λ_=>Ru (DV (hm _ _ hl))) λ_=>Jl ht.2.2) λ_=>Jl ht.2.2
def rI:RP S en en' w b (NR S) (N0 en (ON en)) (N0 en' (ON en')):=by
 refine Ce (GY _) λt t' ht=>Ce (Qm _) λn n' hn=>Ce (GY _) λ_ _ _=>Ce vR λm m' hm=>Ce arB λh h' hh=>Ce (GY _) λ_ _ _=>?_;intro l l1 s s' r r' f e1 e2;refine aiC (λl l' hl=>?_) _ _ _ _ _ _ (.cons hh .nil) f e1 e2;rw[hn.1,hm.2.1];exact Gs hl ht.2.2
def Xy:RP S en en' w b (NR S) (Sg en (ON en)) (Sg en' (ON en')):=by
 refine Y9 λt t' ht=>?_;rw[ht.2.1];exact Cj (λ_=>vO) λ_=>Cj (λ_=>vO) λ_=>Cj (λ_=>rI) λ_=>Jl ht.2.2
end
section
variable {n:Nat} {en:Int} {st:Bool}
def aaY(kind:Int)(hn:n<=10000):UT n st TT (J6 en (ON en) kind) :=
 Zv λt _ s ZR hl=>SA (Gf (λ_=>BB (wI (by omega) TG) λ_ _ _=>BB (Fc _) λ_ _ _=>DX trivial) λ_=>BB (awJ (by omega)) λ_ _ _=>BB (Fc _) λ_ _ _=>DX trivial) ZR hl
def mP{mk:List Nd->Nd}:∀(q n:Nat) (ns:List Nd) (un am:Bool),n<=10000->n < q->ns.length+n<=100000->UT n st TT (JZ en (ON en) mk q ns un am):=by
 intro q
 induction q generalizing st with
 | zero=>intro n ns un am _ h;omega
 | succ q ih =>
   intro n ns un am hn h1 h2
   have go:∀{st:Bool} (kind:Int) (rZ oE:Bool),UT n st TT (CF (J6 en (ON en) kind) λc=>Qi (ns.length+1) (JZ en (ON en) mk q (ns++[c]) rZ oE)):=λkind rZ oE =>
     BB (aaY kind hn) λc _ h3=>Wd (by omega) (ih (n - 1) _ _ _ (by omega) (by omega) (by simp only[List.length_append,List.length_singleton];omega))
   refine Zv λt _ s ZR hl=>?_;cases B1 t.text.data.toList cP.data.toList;rotate_left;exact go (st:=st) _ _ _ ZR hl;cases B1 t.text.data.toList SW.data.toList;rotate_left;exact Gf (st:=st) (P:=TT) (λ_=>Jo) (λ_=>go _ _ _) ZR hl;cases B1 t.text.data.toList QF.data.toList;rotate_left;exact Gf (st:=st) (P:=TT) (λ_=>Jo) (λ_=>go _ _ _) ZR hl;cases B1 t.text.data.toList Z3.data.toList;exact Jo (st:=st) (P:=TT) ZR hl;cases am;exact Jo (st:=st) (P:=TT) ZR hl;exact SA (DX trivial) ZR hl
def sB(hn:n<=10000):UT n st TT (N0 en (ON en)) :=
 BB (Fc _) λt _ h1=>BB (OG _) λm _ h2=>BB (Fc _) λ_ _ h3=>BB XJ λu _ h4=>BB wG λh _ h5=>BB (Fc _) λ_ _ h6 =>
   mO (K:=λq=>JZ en (ON en) (λl=>FR 4 u.text bE m.1 l t.AW) q [h] false false) λk hk=>mP (k+1) k [h] false false (by omega) (by omega) (by simp only[List.length_singleton];omega)
def wH(hn:n<=10000):UT n st TT (Sg en (ON en)):=by
 refine Zv λt _ s ZR hl=>?_;cases B1 t.text.data.toList Tt.data.toList;rotate_left;exact wF (st:=st) ZR hl;cases B1 t.text.data.toList O4.data.toList;rotate_left;exact wF (st:=st) ZR hl;cases B1 t.text.data.toList Iu.data.toList;rotate_left;exact sB (st:=st) hn ZR hl;exact Jo (st:=st) (P:=TT) ZR hl
end
def Oc(t:Tk):Bool:=B1 t.text.data.toList Tt.data.toList||(B1 t.text.data.toList O4.data.toList||B1 t.text.data.toList Iu.data.toList)
def OD:List Tk->List Tk
 | []=>[]
 | t::s=>if Oc t then t::s else OD s
def Qo:∀l:List Tk,∃k,OD l=l.drop k
 | []=>⟨0,rfl⟩
 | t::s=>by
   unfold OD;split;exact⟨0,rfl⟩;obtain⟨k,hk⟩:=Qo s;exact⟨k+1,by rw[hk];rfl⟩
def P3{en:Int}{t:Tk}{l s:List Tk}{r:Nd⊕Dg}(hg:Gl (t::l))(hl:(t::l).length<=10000)(h:Sg en (ON en) (t::l)=some (r,s)):(∃k,s=(t::l).drop k)/\(OD s).length<=l.length/\∀n,r=.inl n->s.length<=l.length:=by
 obtain⟨r',s',h2,h3,h4⟩:=wH (st:=true) (en:=en) (n:=(t::l).length) hl hg (Nat.le_refl _);rw[h] at h2;simp only[Option.some.injEq,Prod.mk.injEq] at h2;obtain⟨rfl,rfl⟩:=h2;refine⟨h3,?_,λn hn=>Nat.le_of_lt_succ ((h4 n hn).2 rfl)⟩
 have small:∀{k:Nat},(OD (l.drop k)).length<=l.length:=λ{k}=>by
   obtain⟨j,hj⟩:=Qo (l.drop k);rw[hj,List.length_drop,List.length_drop];omega
 have sk:∀{x:List Tk},(∃k,x=l.drop k)->(OD x).length<=l.length:=by
   rintro x ⟨k,rfl⟩;exact small
 have Yy:Gl l:=λt ht=>hg t (List.mem_cons_of_mem _ ht);have hl':l.length<=10000:=by simp only[List.length_cons] at hl;omega
 cases hi:Oc t with
 | false =>
   have Nl:=hi;unfold Oc at hi;simp only[Bool.or_eq_false_iff] at hi
   have:Sg en (ON en) (t::l)=some (.inr ⟨71,t.AW⟩,t::l):=by
     unfold Sg WZ;dsimp only;rw[hi.1,hi.2.1,hi.2.2];rfl
   rw[this] at h;simp only[Option.some.injEq,Prod.mk.injEq] at h;rw[<- h.2];unfold OD;rw[Nl];obtain⟨k,hk⟩:=Qo l;simp only[Bool.false_eq_true,if_false];rw[hk,List.length_drop];omega
 | true =>
   unfold Sg WZ at h;dsimp only at h
   have decl:To en (t::l)=some (r,s)->(OD s).length<=l.length:=by
     intro h;unfold To WZ Xw at h;dsimp only at h;refine sk ?_
     obtain⟨r2,s2,e2,h5,_⟩:=(show UT l.length false TT _ from BB XJ λm _ _=>BB (Fc Vi) λ_ _ _=>BB wK λu _ _=>Gf (c:=B1 t.text.data.toList O4.data.toList)
       (A:=CF (bM en) λr=>MO (Eu r.text) λn=>CF (J8 en RM) λ_=>GK (FR 3 m.text u.text n [] t.AW)) (B:=CF (J8 en RM) λ_=>GK (FR 2 m.text u.text 0 [] t.AW))
       (λ_=>BB wJ λr _ _=>by obtain⟨b,hb⟩:=Sx r.text;exact OF ⟨b,hb,BB (Fc _) λ_ _ _=>DX trivial⟩) λ_=>BB (Fc _) λ_ _ _=>DX trivial) Yy (Nat.le_refl _)
     rw[h] at e2;simp only[Option.some.injEq,Prod.mk.injEq] at e2;rw[e2.2];exact h5
   revert h;cases hf:B1 t.text.data.toList Tt.data.toList;rotate_left;exact decl;cases hli:B1 t.text.data.toList O4.data.toList;rotate_left;exact decl;cases ha:B1 t.text.data.toList Iu.data.toList;unfold Oc at hi;rw[hf,hli,ha] at hi;cases hi;intro h;refine sk ?_;have h:N0 en (ON en) (t::l)=some (r,s):=h;unfold N0 at h
   have he:J8 en Iu (t::l)=some (.inl t,l):=by
     unfold J8 MU WZ MO Dt;dsimp only;rw[ha];rfl
   rcases Km h with ⟨a,s',h3,h4⟩ | ⟨d,h3,_⟩
   rw[he] at h3;simp only[Option.some.injEq,Prod.mk.injEq,Sum.inl.injEq] at h3;obtain⟨rfl,rfl⟩:=h3
   obtain⟨r2,s2,e2,h5,_⟩:=(show UT l.length false TT _ from BB (OG (en:=en) 1) λm _ h2=>BB (Fc (en:=en) adT) λ_ _ h3=>BB (XJ (en:=en)) λu _ h4=>BB (wG (en:=en)) λh _ h5=>BB (Fc (en:=en) fK) λ_ _ h6 =>
     mO (K:=λq=>JZ en (ON en) (λl=>FR 4 u.text bE m.1 l t.AW) q [h] false false) λk hk=>mP (k+1) k [h] false false (by omega) (by omega) (by simp only[List.length_singleton];omega)) Yy (Nat.le_refl _)
   have h6:=h4.symm.trans e2;simp only[Option.some.injEq,Prod.mk.injEq] at h6;rw[h6.2];exact h5;rw[he] at h3;cases h3
end Mo
end Go.Proofs.YtpbkhogolfegfaaGreatDoor
namespace Go.Proofs.YtpbkhogolfegfaaGreatDoor
open AI Go
namespace Mo
set_option maxRecDepth 100000
def RN(en:Int):Nat->List Tk->List Nd->List Dg->Option (List Nd×List Dg)
 | 0,_,_,_=>none
 | _+1,[],ks,ds=>some (ks,ds)
 | q+1,t::l,ks,ds=>cond (Ev ((ds.length:Nat):Int) 20) (match Sg en (ON en) (t::l) with
   | none=>none
   | some (.inl n,s)=>RN en q s (ks++[n]) ds
   | some (.inr d,s)=>RN en q (OD s) ks (ds++[d])) (some (ks,ds))
theorem akA{en:Int}:∀(q:Nat) (l:List Tk) (ks:List Nd) (ds:List Dg),Gl l->l.length<=10000->l.length < q->∃r,RN en q l ks ds=some r:=by
 intro q
 induction q with
 | zero=>intro l ks ds _ _ h;omega
 | succ q ih =>
   intro l ks ds hg hl h;cases l with
   | nil=>exact⟨_,rfl⟩
   | cons t l =>
     unfold RN;cases Ev ((ds.length:Nat):Int) 20 with
     | false=>exact⟨_,rfl⟩
     | true =>
       obtain⟨r,s,h2,_⟩:=wH (st:=true) (en:=en) (n:=(t::l).length) hl hg (Nat.le_refl _);obtain⟨⟨k,rfl⟩,h4,h5⟩:=P3 hg hl h2;dsimp only[cond];rw[h2];simp only[List.length_cons] at h hl;cases r with
       | inl n =>
         have h6:=h5 n rfl;exact ih _ _ _ (hg.drop k) (by omega) (by omega)
       | inr d =>
         obtain⟨j,hj⟩:=Qo ((t::l).drop k);refine ih _ _ _ ?_ (by omega) (by omega);rw[hj];exact(hg.drop k).drop j
section
variable {source:ByteArray} {ts:List Tk} (D0:ts.length<=10000)
include D0
theorem aCE:∀(j k:Nat),k<=ts.length->ts.length - k<=j->∃n k':Nat,k<=k'/\k'<=ts.length/\OD (ts.drop k)=ts.drop k'/\EM (λx=>C6 source ts x) n (k:Int)=some (.inl (k':Int)):=by
 have stop:∀{k:Nat} {y:Int},C6 source ts (k:Int)=some (.ex y)->EM (λx=>C6 source ts x) 1 (k:Int)=some (.inl y):=by
   intro k y h;show(C6 source ts (k:Int)).bind _=_;rw[h];rfl
 intro j
 induction j with
 | zero =>
   intro k hk hj;have:k=ts.length:=by omega
   refine⟨1,k,Nat.le_refl k,hk,?_,stop ?_⟩;rw[List.drop_eq_nil_of_le (by omega)];rfl;unfold C6;rw[He (by omega)];rfl
 | succ j ih =>
   intro k hk hj;rcases JT ts hk with ⟨h1,h2⟩ | ⟨t,h1,h2,h3⟩
   · refine⟨1,k,Nat.le_refl k,hk,?_,stop ?_⟩
     rw[h2];rfl;unfold C6;rw[He (by omega)];rfl
   · have hs:∀x,Ku x (ts.drop k)=B1 t.text.data.toList x.data.toList:=λx=>by rw[h3];rfl
     have hL:C6 source ts (k:Int)=if Oc t then some (.ex (k:Int)) else some (.nx ((k+1:Nat):Int)):=by
       unfold C6 Oc;rw[Ij (by omega)];dsimp only[cond];rw[GZ hk,GZ hk,GZ hk,Option.bind_some,hs,hs,hs];cases B1 t.text.data.toList Tt.data.toList;cases B1 t.text.data.toList O4.data.toList;cases B1 t.text.data.toList Iu.data.toList;rw[<- Ey (by omega) hk];rfl;rfl;rfl;rfl
     cases hi:Oc t with
     | true =>
       refine⟨1,k,Nat.le_refl k,hk,?_,stop ?_⟩;rw[h3];unfold OD;rw[hi];rfl;rw[hL,hi];rfl
     | false =>
       obtain⟨n,k',a1,a2,a3,a4⟩:=ih (k+1) h1 (by omega);refine⟨n+1,k',by omega,a2,?_,?_⟩;rw[h3];unfold OD;rw[hi];exact a3;show(C6 source ts (k:Int)).bind _=_;rw[hL,hi];exact a4
theorem aHP(hg:Gl ts):∀(q k:Nat) (ks:List Nd) (ds:List Dg) (r:List Nd×List Dg),k<=ts.length->ks.length+ds.length+q<=100000->RN ((source.data.toList.length:Nat):Int) q (ts.drop k) ks ds=some r ->
   ∃n k':Nat,EM (λx:List Dg×List Nd×Int=>Cc source ts x.1 x.2.1 x.2.2) n (ds,ks,(k:Int))=some (.inl (r.2,r.1,(k':Int))):=by
 intro q
 induction q with
 | zero=>intro k ks ds r hk hq h;cases h
 | succ q ih =>
   intro k ks ds r hk hq h
   have stop:Cc source ts ds ks (k:Int)=some (.ex (ds,ks,(k:Int)))->EM (λx:List Dg×List Nd×Int=>Cc source ts x.1 x.2.1 x.2.2) 1 (ds,ks,(k:Int))=some (.inl (ds,ks,(k:Int))):=by
     intro h;show(Cc source ts ds ks (k:Int)).bind _=_;rw[h];rfl
   rcases JT ts hk with ⟨h1,h2⟩ | ⟨t,h1,h2,h3⟩
   · rw[h2] at h
     have:r=(ks,ds):=(Option.some.inj h).symm;subst this;refine⟨1,k,stop ?_⟩;unfold Cc;rw[He (by omega)];rfl
   · rw[h3] at h
     unfold RN at h;rw[<- h3] at h;cases hd:Ev ((ds.length:Nat):Int) 20 with
     | false =>
       rw[hd] at h;have:r=(ks,ds):=(Option.some.inj h).symm;subst this;refine⟨1,k,stop ?_⟩;unfold Cc;rw[Ij (by omega),hd];rfl
     | true =>
       rw[hd] at h;dsimp only[cond] at h;split at h;cases h;rename_i n s hi;obtain⟨k1,a1,a2,rfl,a4⟩:=afO D0 hg hk hi;obtain⟨m,k',b1⟩:=ih k1 (ks++[n]) ds r a2 (by simp only[List.length_append,List.length_singleton];omega) h;refine⟨m+1,k',?_⟩
       have hL:Cc source ts ds ks (k:Int)=some (.nx (ds,ks++[n],(k1:Int))):=by
         unfold Cc Hy;rw[Ij (by omega),hd,a4];dsimp only[cond,Option.bind,akD];rw[FG (by omega)]
       show(Cc source ts ds ks (k:Int)).bind _=_;rw[hL];exact b1;rename_i d s hi;obtain⟨k1,a1,a2,rfl,a4⟩:=afO D0 hg hk hi;obtain⟨j,k2,c1,c2,c3,c4⟩:=aCE (source:=source) D0 (ts.length - k1) k1 a2 (Nat.le_refl _);rw[c3] at h;obtain⟨m,k',b1⟩:=ih k2 ks (ds++[d]) r c2 (by simp only[List.length_append,List.length_singleton];omega) h;refine⟨m+1,k',?_⟩
       have hL:Cc source ts ds ks (k:Int)=some (.nx (ds++[d],ks,(k2:Int))):=by
         unfold Cc Hy;rw[Ij (by omega),hd,a4];dsimp only[cond,Option.bind,akD];rw[FG (by omega),Fe c4];rfl
       show(Cc source ts ds ks (k:Int)).bind _=_;rw[hL];exact b1
end
def D6(s:ByteArray):List Tk:=(LexS.Kc s.data.toList).1.map Im
def RI(s:ByteArray):Nat:=(LexS.Kc s.data.toList).2.1
def aGE(s:ByteArray):Nat:=(LexS.Kc s.data.toList).2.2
def Hf(ks:List Nd):Nd:=⟨1,ByteArray.empty,ByteArray.empty,0,0,0,0,⟨0,[]⟩,ks,0⟩
theorem zM{s:ByteArray}(h:RI s≠0):CS s=some (z0,[⟨(RI s:Int),(aGE s:Int)⟩]):=by
 unfold CS IU;rw[Option.bind_some];dsimp only;rw[K2 (by unfold RI at h;omega)];rfl
theorem zQ{s:ByteArray}(h:RI s=0)(hg:Gl (D6 s))(hl:(D6 s).length<=10000):∃ks ds,RN ((s.data.toList.length:Nat):Int) ((D6 s).length+1) (D6 s) [] []=some (ks,ds)/\CS s=cond (Ev 0 ((ds.length:Nat):Int)) (some (z0,ds)) (Dr (Hf ks)):=by
 obtain⟨⟨ks,ds⟩,h1⟩:=akA (en:=((s.data.toList.length:Nat):Int)) ((D6 s).length+1) (D6 s) [] [] hg hl (Nat.lt_succ_self _);refine⟨ks,ds,h1,?_⟩;obtain⟨n,k',h2⟩:=aHP (source:=s) hl hg ((D6 s).length+1) 0 [] [] _ (Nat.zero_le _) (by simp only[List.length_nil];omega) (by rw[List.drop_zero];exact h1);unfold CS IU;rw[Option.bind_some];dsimp only;rw[Kn (by unfold RI at h;omega)];dsimp only[cond];have h2:EM (λx:List Dg×List Nd×Int=>Cc s (List.map Im (LexS.Kc s.data.toList).fst) x.1 x.2.1 x.2.2) n ([],[],0)=some (.inl (ds,ks,(k':Int))):=h2;rw[Fe h2,Option.bind_some];dsimp only[L8];cases Ev 0 ((ds.length:Nat):Int);dsimp only;show(Dr (Hf ks)).bind _=Dr (Hf ks);cases Dr (Hf ks)<;>rfl
 rfl
end Mo
end Go.Proofs.YtpbkhogolfegfaaGreatDoor
namespace Go.Proofs.YtpbkhogolfegfaaGreatDoor
open AI Go LexS
namespace Mo
set_option maxRecDepth 100000
def S2(c:UInt8):Prop:=48<=c.toNat/\c.toNat<=57
theorem acN:∀n < 128,(K1 n &&& 8)≠0->48<=n/\n<=57:=by decide
theorem anC{c:UInt8}(h:cin 8 c=true):S2 c:=by
 unfold cin at h;by_cases hc:c.toNat < 128;exact acN _ hc (by simpa using h)
 rw[dJ _ (by omega)] at h;simp at h
theorem mD(t:List UInt8):∀c∈t.take (Bg 8 t),S2 c:=by
 unfold Bg
 induction t with
 | nil=>intro c hc;cases hc
 | cons x t ih =>
   intro c hc;rw[List.takeWhile_cons] at hc;split at hc;rename_i hx;rw[List.length_cons,List.take_succ_cons] at hc;rcases List.mem_cons.1 hc with rfl | hc
   exact anC hx;exact ih c hc;cases hc
theorem anI:∀(l:List UInt8) (acc:Nat),(∀c∈l,S2 c)->∃n,Lib.decFrom acc l=some n/\n < (acc+1)*10 ^ l.length:=by
 intro l
 induction l with
 | nil=>intro acc _;exact⟨acc,rfl,by simp⟩
 | cons c l ih =>
   intro acc h;have hc:=h c (List.mem_cons_self ..);obtain⟨n,h1,h2⟩:=ih (acc*10+(c.toNat - 48)) (λx hx=>h x (List.mem_cons_of_mem _ hx));refine⟨n,?_,Nat.lt_of_lt_of_le h2 ?_⟩;unfold Lib.decFrom Lib.digitVal;rw[if_pos (show 48<=c.toNat/\c.toNat<=57 from hc)];exact h1;rw[List.length_cons,Nat.pow_succ,Nat.mul_comm (10 ^ l.length) 10,<- Nat.mul_assoc];exact Nat.mul_le_mul_right _ (by have:=hc.2;omega)
theorem abW{l:List UInt8}(h0:l≠[])(hl:l.length<=12)(h:∀c∈l,S2 c):∃z,Lib.atoi l=some z/\0<=z/\z<=999999999999:=by
 cases l with
 | nil=>exact absurd rfl h0
 | cons c l =>
   obtain⟨n,h1,h2⟩:=anI (c::l) 0 h;have hc:=h c (List.mem_cons_self ..);have hlt:n < 10 ^ 12:=Nat.lt_of_lt_of_le h2 (by rw[Nat.zero_add,Nat.one_mul];exact Nat.pow_le_pow_right (by omega) hl);refine⟨(n:Int),?_,by omega,by omega⟩
   have e1:(c == 45)=false:=by
     apply beq_false_of_ne;rintro rfl;exact absurd hc.1 (by decide)
   have e2:(c == 43)=false:=by
     apply beq_false_of_ne;rintro rfl;exact absurd hc.1 (by decide)
   unfold Lib.atoi Lib.decNat;dsimp only;rw[e1,e2];simp only[Bool.false_eq_true,if_false,List.isEmpty_cons];rw[h1];rfl
theorem aX:∀(d r:List UInt8),(∀c∈d,S2 c)->Lib.indexByte (d++46::r) 46=d.length
 | [],r,_=>by unfold Lib.indexByte;rfl
 | c::d,r,h=>by
   have ih:=aX d r (λx hx=>h x (List.mem_cons_of_mem _ hx));have hc:=h c (List.mem_cons_self ..)
   have e1:(c == 46)=false:=by
     apply beq_false_of_ne;rintro rfl;exact absurd hc.1 (by decide)
   rw[List.cons_append];unfold Lib.indexByte;rw[e1,ih];simp
theorem X1{l:List UInt8}(h0:l≠[])(hl:l.length<=12)(h:∀c∈l,S2 c):∃z,R4 ⟨l.toArray⟩=some (z,())/\0<=z/\z<=999999999999:=by
 obtain⟨z,h1,h2⟩:=abW h0 hl h;refine⟨z,?_,h2⟩;unfold R4;rw[if_pos (by simp;omega)];simp only[List.toList_toArray,h1,Option.map_some]
theorem zZ{s:List UInt8}(k:Nat)(h:Lib.index s [46]=-1):Lib.replaceK [46] [] k s=s:=by
 cases k with
 | zero=>rfl
 | succ k=>unfold Lib.replaceK;rw[h];rfl
theorem kB:∀(d:List UInt8),(∀c∈d,S2 c)->Lib.indexByte d 46=-1
 | [],_=>rfl
 | c::d,h=>by
   have ih:=kB d (λx hx=>h x (List.mem_cons_of_mem _ hx));have hc:=h c (List.mem_cons_self ..)
   have e1:(c == 46)=false:=by
     apply beq_false_of_ne;rintro rfl;exact absurd hc.1 (by decide)
   unfold Lib.indexByte;rw[e1,ih];simp
theorem aqQ{d:List UInt8}(h:∀c∈d,S2 c):Lib.replace d [46] [] 1=d:=by
 unfold Lib.replace;rw[if_neg (by decide)];exact zZ _ (by rw[Lib.index_one,kB d h])
theorem ahU{d r:List UInt8}(h:∀c∈d,S2 c):Lib.replace (d++46::r) [46] [] 1=d++r:=by
 have hi:Lib.index (d++46::r) [46]=(d.length:Int):=by rw[Lib.index_one,aX d r h]
 have hn:Lib.replaceNum (d++46::r) [46] 1=1:=by
   have:1<=Lib.count (d++46::r) [46]:=by
     unfold Lib.count Lib.countFrom;rw[hi,if_neg (by simp)];omega
   unfold Lib.replaceNum;rw[if_neg (by omega)];rfl
 unfold Lib.replace;rw[if_neg (by decide),hn,Lib.replaceK_hit _ _ _ _ _ hi];unfold Lib.replaceK;simp
theorem aL{k a:Int}{l m:List UInt8}(hr:Lib.replace l [46] [] 1=m)(hl:l.length<=20)(h0:m≠[])(hm:m.length<=12)(h:∀c∈m,S2 c):∃z,Cu ⟨k,⟨l.toArray⟩,a⟩=some z/\0<=z/\z<=999999999999:=by
 obtain⟨z,h1,h2⟩:=X1 h0 hm h;refine⟨z,?_,h2⟩;unfold Cu
 have:K0 ⟨l.toArray⟩ aBO ByteArray.empty 1=some ⟨m.toArray⟩:=by
   unfold K0
   rw[if_pos ⟨by decide,by
     have:(ByteArray.empty).size=0:=rfl;have h2:(⟨l.toArray⟩:ByteArray).size=l.length:=by simp[ByteArray.size]
     rw[this,h2];omega⟩]
   have:(aBO).data.toList=[46]:=rfl;rw[this];simp only[List.toList_toArray];rw[show(ByteArray.empty).data.toList=[] from rfl,hr]
 dsimp only;rw[this,Option.bind_some,h1];rfl
def auO(y m:Nat):Bool:=match Gp (2000+y) m,Iv (12*y+m) with
 | some n,some f=>Nat.ble 1 n.toNat&&(Nat.ble 0 f.toNat&&(decide (0<=n/\n<=31/\0<=f/\f+n<=36525)))
 | _,_=>false
theorem amZ:((List.range 100).all λy=>(List.range 12).all λm=>auO y m)=true:=by kernel_rfl
theorem axL{y m:Nat}(hy:y < 100)(hm:m < 12):∃n f:Int,Gp (2000+y) m=some n/\Iv (12*y+m)=some f/\0<=n/\n<=31/\0<=f/\f+n<=36525:=by
 have h:=List.all_eq_true.1 (List.all_eq_true.1 amZ y (List.mem_range.2 hy)) m (List.mem_range.2 hm);unfold auO at h;split at h;rename_i n f h1 h2;simp only[Bool.and_eq_true,decide_eq_true_eq] at h;exact⟨n,f,h1,h2,h.2.2.1,h.2.2.2.1,h.2.2.2.2.1,h.2.2.2.2.2⟩;cases h
theorem acZ(y m d:Int)(hy:0<=y/\y<=100000)(hm:0<=m/\m<=100000)(hd:0<=d/\d<=100000):∃z e,JR y m d=some (z,e)/\(e=0->0<=z/\z<=36524):=by
 have bad:∃z e,(some ((0:Int),(21:Int)):Option (Int×Int))=some (z,e)/\(e=0->0<=z/\z<=36524):=⟨0,21,rfl,λh=>by omega⟩;unfold JR;cases h1:Ev y 2000;rotate_left;exact bad;cases h2:Ev 2099 y;rotate_left;exact bad;cases h3:Ev m 1;rotate_left;exact bad;cases h4:Ev 12 m;rotate_left;exact bad;cases h5:Ev d 1;rotate_left;exact bad;have h1:=K4 h1;have h2:=K4 h2;have h3:=K4 h3;have h4:=K4 h4;have h5:=K4 h5;obtain⟨n,f,a1,a2,a3,a4,a5,a6⟩:=axL (y:=(y - 2000).toNat) (m:=(m - 1).toNat) (by omega) (by omega);rw[show(2000:Int)+((y - 2000).toNat:Nat)=y by omega,show(((m - 1).toNat:Nat):Int)=m - 1 by omega] at a1;rw[show 12*(((y - 2000).toNat:Nat):Int)+(((m - 1).toNat:Nat):Int)=(y - 2000)*12+m - 1 by omega] at a2;dsimp only[cond];rw[KQ (a:=m) (by omega),a1,Option.bind_some];cases h6:Ev n d;have h6:=K4 h6;dsimp only;rw[KQ (a:=y) (by omega),I4 (by omega),Dq (by omega),KQ (by omega),a2,Option.bind_some];rw[Dq (by omega),KQ (by omega)];exact⟨_,0,rfl,λ_=>by omega⟩;exact bad
theorem adF{c:UInt8}(hc:S2 c):w64 (Nq .u8 (fY ((c.toNat:Nat):Int) 48))=(c.toNat:Int) - 48:=by
 have h1:=hc.1;have h2:=hc.2
 have e:Nq .u8 (fY ((c.toNat:Nat):Int) 48)=(c.toNat:Int) - 48:=by
   rw[fZ,Vw];unfold IntKind.wrap;simp[IntKind.bits,IntKind.signed];omega
 rw[e];unfold w64;exact gI (by omega)
section
variable {i:Nat} {c:UInt8} (h4:i≠4) (h7:i≠7) (hc:S2 c) {a b d:Int} (ha:0<=a/\a<=1000) (hb:0<=b/\b<=1000) (hd:0<=d/\d<=1000)
include h4 h7 hc
theorem cl0(ha:0<=a/\a<=1000):Ca i c 0 a b d=some (.nx (0,a*10+((c.toNat:Int) - 48),b,d)):=by
 have h1:=hc.1;have h2:=hc.2;unfold Ca;rw[K2 (a:=(i:Int)) (b:=4) (by omega),K2 (a:=(i:Int)) (b:=7) (by omega),He (b:=48) (by omega),He (a:=57) (by omega),adF hc];dsimp only[cond];rw[I4 (a:=a) (by omega),Dq (a:=a*10) (by omega)];rfl
theorem cl1(hb:0<=b/\b<=1000):Ca i c 1 a b d=some (.nx (1,a,b*10+((c.toNat:Int) - 48),d)):=by
 have h1:=hc.1;have h2:=hc.2;unfold Ca;rw[K2 (a:=(i:Int)) (b:=4) (by omega),K2 (a:=(i:Int)) (b:=7) (by omega),He (b:=48) (by omega),He (a:=57) (by omega),adF hc];dsimp only[cond];rw[I4 (a:=b) (by omega),Dq (a:=b*10) (by omega)];rfl
theorem cl2(hd:0<=d/\d<=1000):Ca i c 2 a b d=some (.nx (2,a,b,d*10+((c.toNat:Int) - 48))):=by
 have h1:=hc.1;have h2:=hc.2;unfold Ca;rw[K2 (a:=(i:Int)) (b:=4) (by omega),K2 (a:=(i:Int)) (b:=7) (by omega),He (b:=48) (by omega),He (a:=57) (by omega),adF hc];dsimp only[cond];rw[I4 (a:=d) (by omega),Dq (a:=d*10) (by omega)];rfl
end
abbrev clF:=CQ (λi y (x:Int×Int×Int×Int)=>Ca i y x.1 x.2.1 x.2.2.1 x.2.2.2) (λx:Int×Int×Int×Int=>(x.2.1,x.2.2.1,x.2.2.2))
section
variable {i:Nat} {c:UInt8} (h4:i≠4) (h7:i≠7) (hc:S2 c) {a b d:Int} {l:List UInt8}
include h4 h7 hc
theorem fo0(ha:0<=a/\a<=1000):clF (c::l) i (0,a,b,d)=clF l (i+1) (0,a*10+((c.toNat:Int) - 48),b,d):=by
 show(Ca i c 0 a b d).bind _=_;rw[cl0 h4 h7 hc ha];rfl
theorem fo1(ha:0<=b/\b<=1000):clF (c::l) i (1,a,b,d)=clF l (i+1) (1,a,b*10+((c.toNat:Int) - 48),d):=by
 show(Ca i c 1 a b d).bind _=_;rw[cl1 h4 h7 hc ha];rfl
theorem fo2(ha:0<=d/\d<=1000):clF (c::l) i (2,a,b,d)=clF l (i+1) (2,a,b,d*10+((c.toNat:Int) - 48)):=by
 show(Ca i c 2 a b d).bind _=_;rw[cl2 h4 h7 hc ha];rfl
end
theorem fo4{l:List UInt8}{a b d:Int}:clF (45::l) (0+1+1+1+1) (0,a,b,d)=clF l (0+1+1+1+1+1) (1,a,b,d):=rfl
theorem fo7{l:List UInt8}{a b d:Int}:clF (45::l) (0+1+1+1+1+1+1+1) (1,a,b,d)=clF l (0+1+1+1+1+1+1+1+1) (2,a,b,d):=rfl
theorem xT{c0 c1 c2 c3 c5 c6 c8 c9:UInt8}(h0:S2 c0)(h1:S2 c1)(h2:S2 c2)(h3:S2 c3)(h5:S2 c5)(h6:S2 c6)(h8:S2 c8)(h9:S2 c9) :
   ∃z e,Fs ⟨([c0,c1,c2,c3,45,c5,c6,45,c8,c9]:List UInt8).toArray⟩=some (z,e)/\(e=0->0<=z/\z<=36524):=by
 have b0:=h0;have b1:=h1;have b2:=h2;have b3:=h3;have b5:=h5;have b6:=h6;have b8:=h8;have b9:=h9;unfold S2 at b0 b1 b2 b3 b5 b6 b8 b9;obtain⟨z,e,hz,he⟩:=acZ ((((0*10+((c0.toNat:Int) - 48))*10+((c1.toNat:Int) - 48))*10+((c2.toNat:Int) - 48))*10+((c3.toNat:Int) - 48)) ((0*10+((c5.toNat:Int) - 48))*10+((c6.toNat:Int) - 48)) ((0*10+((c8.toNat:Int) - 48))*10+((c9.toNat:Int) - 48)) (by omega) (by omega) (by omega);refine⟨z,e,?_,he⟩;unfold Fs;rw[Kn (by rfl)];dsimp only[cond]
 have key:CQ (λi y x=>Ca i y x.1 x.2.1 x.2.2.1 x.2.2.2) (λx:Int×Int×Int×Int=>(x.2.1,x.2.2.1,x.2.2.2)) [c0,c1,c2,c3,45,c5,c6,45,c8,c9] 0 (0,0,0,0)=some (.inl ((((0*10+((c0.toNat:Int) - 48))*10+((c1.toNat:Int) - 48))*10+((c2.toNat:Int) - 48))*10+((c3.toNat:Int) - 48),(0*10+((c5.toNat:Int) - 48))*10+((c6.toNat:Int) - 48),(0*10+((c8.toNat:Int) - 48))*10+((c9.toNat:Int) - 48))):=by
   show clF [c0,c1,c2,c3,45,c5,c6,45,c8,c9] 0 (0,0,0,0)=_;rw[fo0 (by decide) (by decide) h0 (by omega)];rw[fo0 (by decide) (by decide) h1 (by omega)];rw[fo0 (by decide) (by decide) h2 (by omega)];rw[fo0 (by decide) (by decide) h3 (by omega)];rw[fo4];rw[fo1 (by decide) (by decide) h5 (by omega)];rw[fo1 (by decide) (by decide) h6 (by omega)];rw[fo7];rw[fo2 (by decide) (by decide) h8 (by omega)];rw[fo2 (by decide) (by decide) h9 (by omega)];rfl
 have hl:S6 ([c0,c1,c2,c3,45,c5,c6,45,c8,c9]:List UInt8).length=λy:Option ((Int×Int×Int)⊕(Int×Int))=>y:=funext λy=>if_pos (by simp);simp only[List.toList_toArray,List.drop_zero];rw[hl,key];dsimp only[Option.bind,L8];rw[hz]
end Mo
end Go.Proofs.YtpbkhogolfegfaaGreatDoor
