/- Part of a proof: see the last text. -/
import Derived.Test.YtpbkhogolfegfaaGreatDoorPir
set_option linter.unusedVariables false
set_option linter.unusedSimpArgs false
set_option linter.defProp false
noncomputable section
namespace Go.Proofs.YtpbkhogolfegfaaGreatDoor
open AI Go
namespace Mo
set_option maxRecDepth 100000
def j7:∀(n:Nat) (a b:Int),1<=a->0<=b->b < n->∃m,EQ (λx:Int×Int=>Eh x.1 x.2) m (a,b)=some (.inl (oY n a b))/\1<=oY n a b/\oY n a b∣a/\oY n a b∣b:=by
 intro n
 induction n with
 | zero=>intro a b h1 h2 h3;omega
 | succ n ih =>
   intro a b h1 h2 h3;unfold oY;by_cases hb:b=0;rw[if_pos hb];subst hb;refine⟨1,?_,h1,Int.dvd_refl a,Int.dvd_zero a⟩;show(Eh a 0).bind _=_;rw[Eh,JS rfl];rfl;rw[if_neg hb];obtain⟨m,h4,h5,h6,h7⟩:=ih b (a % b) (by omega) (Int.emod_nonneg a hb) (by have:=Int.emod_lt_of_pos a (show 0 < b by omega);omega);refine⟨m+1,?_,h5,?_,h6⟩;show(Eh a b).bind _=_;rw[Eh,K9 hb]
   have:YB a b=some (a % b):=by
     unfold YB nB;rw[if_neg hb,Int.tmod_eq_emod_of_nonneg (by omega)]
   dsimp only[cond];rw[this];exact h4;have:=Int.dvd_add h7 (Int.dvd_mul_of_dvd_left h6:_∣b*(a / b));rwa[Int.emod_add_mul_ediv] at this
def aa9{a b g:Int}(h:aa8 a b=some g):CS a b=some g:=by
 unfold aa8 at h;split at h;rename_i hc;cases h;obtain⟨m,h1,_⟩:=j7 (b.toNat+1) a b hc.1 hc.2 (by omega);unfold CS;rw[Fj h1];rfl;cases h
def aba{a b:Int}(ha:1<=a)(hb:0<=b):∃g,aa8 a b=some g/\1<=g/\g∣a/\g∣b:=by
 obtain⟨m,_,h1⟩:=j7 (b.toNat+1) a b ha hb (by omega);exact⟨_,if_pos ⟨ha,hb⟩,h1⟩
section
variable {α β γ:Type} {ts:List Tk} {k:Nat} {en:Int} {r:α⊕Dg} {l:List Tk}
def JD(ts:List Tk)(k:Nat)(X:Option ((α⊕Dg)×Int))(r:α⊕Dg)(l:List Tk):Prop:=∃k':Nat,k<=k'/\k'<=ts.length/\l=ts.drop k'/\X=some (r,(k':Int))
def Ey(hk:k<=ts.length){q:α⊕Dg}{z:Int}(hz:z=(k:Int))(h:some (q,ts.drop k)=some (r,l)):JD ts k (some (q,z)) r l:=by
 simp only[Option.some.injEq,Prod.mk.injEq] at h;exact⟨k,Nat.le_refl k,hk,h.2.symm,by rw[h.1,hz]⟩
def LR{k2:Nat}{X:Option ((α⊕Dg)×Int)}(h1:k<=k2)(h:JD ts k2 X r l):JD ts k X r l:=by
 obtain⟨k',a,b,c,d⟩:=h;exact⟨k',Nat.le_trans h1 a,b,c,d⟩
def BC{F1:Option ((γ⊕Dg)×Int)}{F2:(γ⊕Dg)×Int->Option ((α⊕Dg)×Int)}{m:Rd γ}{K:γ->Rd α}
   (h1:∀{r l},m (ts.drop k)=some (r,l)->JD ts k F1 r l)
   (h2:∀a k',k<=k'->k'<=ts.length->K a (ts.drop k')=some (r,l)->JD ts k' (F2 (.inl a,(k':Int))) r l)
   (h3:∀d z,F2 (.inr d,z)=some (.inr d,z)) (hS:Cw m K (ts.drop k)=some (r,l)):JD ts k (F1.bind F2) r l:=by
 unfold Cw at hS;split at hS;cases hS;rename_i a s hm;obtain⟨k',a1,a2,rfl,a4⟩:=h1 hm;rw[a4];exact LR a1 (h2 _ _ a1 a2 hS);rename_i d s hm;obtain⟨k',a1,a2,rfl,a4⟩:=h1 hm;rw[a4,Option.bind_some,h3];simp only[Option.some.injEq,Prod.mk.injEq] at hS;exact⟨k',a1,a2,hS.2.symm,by rw[hS.1]⟩
def Jq{X:Option γ}{K:γ->Rd α}{s:List Tk}(h:L5 X K s=some (r,l)):∃a,X=some a/\K a s=some (r,l):=by
 unfold L5 at h;split at h;cases h;exact⟨_,rfl,h⟩
def JR(ts:List Tk)(hk:k<=ts.length):(k=ts.length/\ts.drop k=[])\/∃t,k+1<=ts.length/\ts[k]?=some t/\ts.drop k=t::ts.drop (k+1):=by
 by_cases h:k < ts.length;exact .inr ⟨ts[k],h,List.getElem?_eq_getElem h,(List.drop_eq_getElem_cons h)⟩;exact .inl ⟨by omega,List.drop_eq_nil_of_le (by omega)⟩
def Wo{F2:Tk⊕Dg->Option ((α⊕Dg)×Int)}{K:Tk->Rd α}(hk:k<=ts.length)
   (h2:∀t,k+1<=ts.length->ts.drop k=t::ts.drop (k+1)->K t (ts.drop k)=some (r,l)->JD ts k (F2 (.inl t)) r l)
   (h3:∀d,F2 (.inr d)=some (.inr d,(k:Int))) (hS:Vz en K (ts.drop k)=some (r,l)):JD ts k ((AD ⟨ts,k,en⟩).bind F2) r l:=by
 unfold Vz at hS;rcases JR ts hk with ⟨h1,nX⟩ | ⟨t,h1,nX,h3'⟩
 rw[nX] at hS;dsimp only at hS
 have:AD ⟨ts,k,en⟩=some (.inr ⟨72,en⟩):=by
   unfold AD;rw[Y7 (by dsimp only;omega)];rfl
 rw[this,Option.bind_some,h3];simp only[Option.some.injEq,Prod.mk.injEq] at hS;exact⟨k,Nat.le_refl k,hk,by rw[nX,hS.2],by rw[hS.1]⟩;rw[h3'] at hS;dsimp only at hS
 have:AD ⟨ts,k,en⟩=some (.inl t):=by
   unfold AD;rw[Vm (by dsimp only;omega)];dsimp only[cond];unfold HU;rw[if_pos (by omega),Int.toNat_natCast,nX];rfl
 rw[this,Option.bind_some];exact h2 t h1 h3' (by rw[h3'];exact hS)
def GZ(hk:k<=ts.length)(x:ByteArray):As ⟨ts,k,en⟩ x=some (JC x (ts.drop k)):=by
 unfold As;rcases JR ts hk with ⟨h1,nX⟩ | ⟨t,h1,nX,h3'⟩
 rw[nX,Ic (by dsimp only;omega)];rfl;rw[h3',Ir (by dsimp only;omega)];dsimp only[cond];unfold HU;rw[if_pos (by omega),Int.toNat_natCast,nX];rfl
def Zz{x:ByteArray}(hk:k<=ts.length)(h:JC x (ts.drop k)=true):∃t,k+1<=ts.length/\ts.drop k=t::ts.drop (k+1):=by
 rcases JR ts hk with ⟨h1,nX⟩ | ⟨t,h1,nX,h3'⟩
 rw[nX] at h;cases h;exact⟨t,h1,h3'⟩
def ED(D7:ts.length<=1000000)(hk:k<=ts.length):Bt (k:Int) 1=((k+1:Nat):Int):=by
 rw[CM (by omega)];rfl
def aN{K:Rd α}{t:Tk}(ht:ts.drop k=t::ts.drop (k+1))(h:VV K (ts.drop k)=some (r,l)):K (ts.drop (k+1))=some (r,l):=by
 rw[ht] at h;exact h
def uG{F2:Bool->Option ((α⊕Dg)×Int)}{A B:Rd α}{x:ByteArray}(hk:k<=ts.length)
   (h1:k+1<=ts.length->A (ts.drop (k+1))=some (r,l)->JD ts (k+1) (F2 true) r l) (h2:B (ts.drop k)=some (r,l)->JD ts k (F2 false) r l)
   (hS:OI x A B (ts.drop k)=some (r,l)):JD ts k ((As ⟨ts,k,en⟩ x).bind F2) r l:=by
 unfold OI at hS;rw[GZ hk,Option.bind_some];cases hx:JC x (ts.drop k) with
 | true =>
   rw[hx] at hS;obtain⟨t,ht1,ht2⟩:=Zz hk hx;exact LR (Nat.le_succ k) (h1 ht1 (aN ht2 hS))
 | false =>
   rw[hx] at hS;exact h2 hS
end
section
variable {ts:List Tk} (D7:ts.length<=1000000) {en:Int}
include D7
def RA(fits:Tk->Option Bool){k:Nat}(hk:k<=ts.length){r l}(hS:LX en fits (ts.drop k)=some (r,l)) :
   JD ts k ((AD ⟨ts,k,en⟩).bind λy1=>Sum.elim (λ(CL:Tk)=>(fits CL).bind λy2=>cond y2 (some ((Sum.inl CL:(Tk⊕Dg)),(Bt (k:Int) 1))) (some ((Sum.inr (⟨71,CL.AH⟩:Dg):(Tk⊕Dg)),(k:Int)))) (λ(L7:Dg)=>some ((Sum.inr L7:(Tk⊕Dg)),(k:Int))) y1) r l:=by
 refine Wo hk (λt h1 h2 hS=>?_) (λ_=>rfl) hS;obtain⟨b,hb,hS⟩:=Jq hS;dsimp only[Sum.elim];rw[hb,Option.bind_some];cases b with
 | true =>
   have:=aN h2 hS;rw[cond,ED D7 hk];exact LR (Nat.le_succ k) (Ey h1 rfl this)
 | false=>exact Ey hk rfl hS
def IY(x:ByteArray){k:Nat}(hk:k<=ts.length){r l}(hS:JT en x (ts.drop k)=some (r,l)):JD ts k (Ak ⟨ts,k,en⟩ x) r l:=by
 obtain⟨k',a1,a2,a3,a4⟩:=RA D7 (λt=>Dw t x) hk hS;refine⟨k',a1,a2,a3,?_⟩;unfold Ak Gt;rw[a4,Option.bind_some];cases r<;>rfl
def aci{k:Nat}(hk:k<=ts.length){r l}(hS:bW en (ts.drop k)=some (r,l)):JD ts k (DF ⟨ts,k,en⟩) r l:=RA D7 Cz hk hS
def alt{k:Nat}(hk:k<=ts.length){r l}(hS:mR en (ts.drop k)=some (r,l)):JD ts k (EN ⟨ts,k,en⟩) r l:=RA D7 Fh hk hS
def ak4{k:Nat}(hk:k<=ts.length){r l}(hS:cJ en (ts.drop k)=some (r,l)):JD ts k (F9 ⟨ts,k,en⟩) r l:=RA D7 BT hk hS
def kW{k:Nat}(hk:k<=ts.length){r l}(hS:NL en (ts.drop k)=some (r,l)):JD ts k (EX ⟨ts,k,en⟩) r l:=by
 refine BC (λh=>RA D7 Eu hk h) (λt k' h1 h2 hS=>?_) (λ_ _=>rfl) hS;obtain⟨n,hn,hS⟩:=Jq hS;dsimp only[Sum.elim];rw[hn];exact Ey h2 rfl hS
def Pj(least:Int){k:Nat}(hk:k<=ts.length){r l}(hS:Mr en least (ts.drop k)=some (r,l)):JD ts k (AL ⟨ts,k,en⟩ least) r l:=by
 refine BC (λh=>kW D7 hk h) (λt k' h1 h2 hS=>?_) (λ_ _=>rfl) hS;dsimp only[Sum.elim];revert hS;cases Ez t.1 least;cases Ez 1000000 t.1<;>exact λhS=>Ey h2 rfl hS
 exact λhS=>Ey h2 rfl hS
def eM(least:Int){k:Nat}(hk:k<=ts.length){r l}(hS:Sy en least (ts.drop k)=some (r,l)):JD ts k (DZ ⟨ts,k,en⟩ least) r l:=by
 refine BC (λh=>RA D7 EV hk h) (λt k' h1 h2 hS=>?_) (λ_ _=>rfl) hS;obtain⟨n,hn,hS⟩:=Jq hS;dsimp only[Sum.elim];rw[hn,Option.bind_some];revert hS;cases CZ n.2 0;exact λhS=>Ey h2 rfl hS;cases Ez n.1 least<;>exact λhS=>Ey h2 rfl hS
def ajN{k:Nat}(hk:k<=ts.length){r l}(hS:WU en (ts.drop k)=some (r,l)):JD ts k (Hu ⟨ts,k,en⟩) r l:=by
 refine BC (λh=>IY D7 _ hk h) (λt k h hk hS=>?_) (λ_ _=>rfl) hS;refine BC (λh=>Pj D7 _ hk h) (λn k h hk hS=>?_) (λ_ _=>rfl) hS;refine BC (λh=>IY D7 _ hk h) (λ_ k h hk hS=>?_) (λ_ _=>rfl) hS;refine BC (λh=>eM D7 _ hk h) (λf k h hk hS=>?_) (λ_ _=>rfl) hS;refine uG hk (λWW hS=>?_) (λhS=>?_) hS;dsimp only[cond];rw[ED D7 hk];refine BC (λh=>eM D7 _ WW h) (λu k h hk hS=>?_) (λ_ _=>rfl) hS;refine BC (λh=>IY D7 _ hk h) (λ_ k h hk hS=>?_) (λ_ _=>rfl) hS;refine BC (λh=>eM D7 _ hk h) (λf k h hk hS=>?_) (λ_ _=>rfl) hS;exact Ey hk rfl hS;refine BC (λh=>IY D7 _ hk h) (λ_ k h hk hS=>?_) (λ_ _=>rfl) hS;refine BC (λh=>eM D7 _ hk h) (λf k h hk hS=>?_) (λ_ _=>rfl) hS;exact Ey hk rfl hS
def aaK{k:Nat}(hk:k<=ts.length){r l}(hS:Sz en (ts.drop k)=some (r,l)):JD ts k (DE ⟨ts,k,en⟩) r l:=by
 refine Wo hk (λt h1 h2 hS=>?_) (λ_=>rfl) hS;have hS:=aN h2 hS;dsimp only[Sum.elim];rw[ED D7 hk];refine LR (Nat.le_succ k) ?_;refine BC (λh=>aci D7 h1 h) (λm k h hk hS=>?_) (λ_ _=>rfl) hS;refine BC (λh=>IY D7 _ hk h) (λ_ k h hk hS=>?_) (λ_ _=>rfl) hS;refine BC (λh=>alt D7 hk h) (λu k h hk hS=>?_) (λ_ _=>rfl) hS;dsimp only[Sum.elim];revert hS;cases BY t.text.data.toList Pe.data.toList;intro hS;refine BC (λh=>IY D7 _ hk h) (λ_ k h hk hS=>?_) (λ_ _=>rfl) hS;exact Ey hk rfl hS;intro hS;refine BC (λh=>ak4 D7 hk h) (λq k h hk hS=>?_) (λ_ _=>rfl) hS;obtain⟨n,hn,hS⟩:=Jq hS;dsimp only[Sum.elim];rw[hn,Option.bind_some];refine BC (λh=>IY D7 _ hk h) (λ_ k h hk hS=>?_) (λ_ _=>rfl) hS;exact Ey hk rfl hS
def Vs{k:Nat}(hk:k<=ts.length){r l}(hS:GA en (ts.drop k)=some (r,l)):JD ts k (AO ⟨ts,k,en⟩) r l:=by
 refine BC (λh=>Pj D7 _ hk h) (λn k h hk hS=>?_) (λ_ _=>rfl) hS;exact Ey hk rfl hS
def iC{k:Nat}(hk:k<=ts.length){r l}(hS:OR en (ts.drop k)=some (r,l)):JD ts k (BR ⟨ts,k,en⟩) r l:=by
 refine BC (λh=>RA D7 Dk hk h) (λt k' h1 h2 hS=>?_) (λ_ _=>rfl) hS;obtain⟨n,hn,hS⟩:=Jq hS;dsimp only[Sum.elim];rw[hn,Option.bind_some];revert hS;cases CZ t.kind 3;exact λhS=>Ey h2 rfl hS;cases CZ n 0<;>exact λhS=>Ey h2 rfl hS
def adf{k:Nat}(hk:k<=ts.length){r l}(hS:Xd en (ts.drop k)=some (r,l)):JD ts k (Ch ⟨ts,k,en⟩) r l:=by
 refine BC (λh=>RA D7 EZ hk h) (λt k' h1 h2 hS=>?_) (λ_ _=>rfl) hS;dsimp only[Sum.elim];revert hS;cases BY t.text.data.toList Lu.data.toList<;>exact λhS=>Ey h2 rfl hS
end
end Mo
end Go.Proofs.YtpbkhogolfegfaaGreatDoor
namespace Go.Proofs.YtpbkhogolfegfaaGreatDoor
open AI Go
namespace Mo
set_option maxRecDepth 100000
section
variable {α β:Type} {ts:List Tk} {k:Nat} {en:Int} {r:α⊕Dg} {l:List Tk}
def Rg(N:Nd):(⟨N.kind,N.name,N.unit,N.n,N.fr,N.to,N.known,⟨N.CF.den,N.CF.ps⟩,N.kids,N.AH⟩:Nd)=N:=by cases N;rfl
def Jn{m:Rd β}{K:β->Rd α}{s:List Tk}(h:Cw m K s=some (r,l)):(∃a s',m s=some (.inl a,s')/\K a s'=some (r,l))\/∃d,m s=some (.inr d,l)/\r=.inr d:=by
 unfold Cw at h;split at h;cases h;rename_i a s' hm;exact .inl ⟨a,s',hm,h⟩;rename_i d s' hm;simp only[Option.some.injEq,Prod.mk.injEq] at h;exact .inr ⟨d,by rw[hm,h.2],h.1.symm⟩
def LU{A B:Rd α}{x:ByteArray}(hk:k<=ts.length)(h:OI x A B (ts.drop k)=some (r,l)) :
   (JC x (ts.drop k)=true/\k+1<=ts.length/\A (ts.drop (k+1))=some (r,l))\/(JC x (ts.drop k)=false/\B (ts.drop k)=some (r,l)):=by
 unfold OI at h;cases hx:JC x (ts.drop k) with
 | true =>
   rw[hx] at h;obtain⟨t,ht1,ht2⟩:=Zz hk hx;exact .inl ⟨rfl,ht1,aN ht2 h⟩
 | false =>
   rw[hx] at h;exact .inr ⟨rfl,h⟩
def acr{K:Rd α}(hk:k<=ts.length)(h:VV K (ts.drop k)=some (r,l)):k+1<=ts.length/\K (ts.drop (k+1))=some (r,l):=by
 rcases JR ts hk with ⟨h1,nX⟩ | ⟨t,h1,nX,h3'⟩
 rw[nX] at h;cases h;exact⟨h1,aN h3' h⟩
def Om{n:Nat}{m:Rd α}{s:List Tk}(h:O4 n m s=some (r,l)):n<=100000000/\m s=some (r,l):=aca h
def LS{a:β}{q:β⊕Dg}{s:List Tk}(h:FX a s=some (q,l)):q=.inl a/\l=s:=by
 simp only[FX,Option.some.injEq,Prod.mk.injEq] at h;exact⟨h.1.symm,h.2.symm⟩
def Nt{e p:Int}{s:List Tk}(h:M8 e p s=some (r,l)):r=.inr ⟨e,p⟩/\l=s:=by
 simp only[M8,Option.some.injEq,Prod.mk.injEq] at h;exact⟨h.1.symm,h.2.symm⟩
def afY{yes:ByteArray->Rd α}{no:Rd α}(hk:k<=ts.length)(hS:n5 yes no (opsOf 0) (ts.drop k)=some (r,l)) :
   (∃x,k+1<=ts.length/\De ⟨ts,k,en⟩=some (x,true)/\yes x (ts.drop (k+1))=some (r,l))\/(De ⟨ts,k,en⟩=some (bE,false)/\no (ts.drop k)=some (r,l)):=by
 unfold De;simp only[GZ hk,Option.bind_some];rcases LU hk hS with ⟨h0,h,hy⟩ | ⟨h0,hS⟩
 refine .inl ⟨_,h,?_,hy⟩;simp only[h0,cond_true,cond_false];refine .inr ⟨?_,hS⟩;simp only[h0,cond_false]
def afZ{yes:ByteArray->Rd α}{no:Rd α}(hk:k<=ts.length)(hS:n5 yes no (opsOf 1) (ts.drop k)=some (r,l)) :
   (∃x,k+1<=ts.length/\Df ⟨ts,k,en⟩=some (x,true)/\yes x (ts.drop (k+1))=some (r,l))\/(Df ⟨ts,k,en⟩=some (bE,false)/\no (ts.drop k)=some (r,l)):=by
 unfold Df;simp only[GZ hk,Option.bind_some];rcases LU hk hS with ⟨h0,h,hy⟩ | ⟨h0,hS⟩
 refine .inl ⟨_,h,?_,hy⟩;simp only[h0,cond_true,cond_false];refine .inr ⟨?_,hS⟩;simp only[h0,cond_false]
def af0{yes:ByteArray->Rd α}{no:Rd α}(hk:k<=ts.length)(hS:n5 yes no (opsOf 3) (ts.drop k)=some (r,l)) :
   (∃x,k+1<=ts.length/\Dh ⟨ts,k,en⟩=some (x,true)/\yes x (ts.drop (k+1))=some (r,l))\/(Dh ⟨ts,k,en⟩=some (bE,false)/\no (ts.drop k)=some (r,l)):=by
 unfold Dh;simp only[GZ hk,Option.bind_some];rcases LU hk hS with ⟨h0,h,hy⟩ | ⟨h0,hS⟩
 refine .inl ⟨_,h,?_,hy⟩;simp only[h0,cond_true,cond_false];rcases LU hk hS with ⟨h1,h,hy⟩ | ⟨h1,hS⟩
 refine .inl ⟨_,h,?_,hy⟩;simp only[h0,h1,cond_true,cond_false];rcases LU hk hS with ⟨h2,h,hy⟩ | ⟨h2,hS⟩
 refine .inl ⟨_,h,?_,hy⟩;simp only[h0,h1,h2,cond_true,cond_false];rcases LU hk hS with ⟨h3,h,hy⟩ | ⟨h3,hS⟩
 refine .inl ⟨_,h,?_,hy⟩;simp only[h0,h1,h2,h3,cond_true,cond_false];rcases LU hk hS with ⟨h4,h,hy⟩ | ⟨h4,hS⟩
 refine .inl ⟨_,h,?_,hy⟩;simp only[h0,h1,h2,h3,h4,cond_true,cond_false];rcases LU hk hS with ⟨h5,h,hy⟩ | ⟨h5,hS⟩
 refine .inl ⟨_,h,?_,hy⟩;simp only[h0,h1,h2,h3,h4,h5,cond_true,cond_false];refine .inr ⟨?_,hS⟩;simp only[h0,h1,h2,h3,h4,h5,cond_false]
def af1{yes:ByteArray->Rd α}{no:Rd α}(hk:k<=ts.length)(hS:n5 yes no (opsOf 4) (ts.drop k)=some (r,l)) :
   (∃x,k+1<=ts.length/\Di ⟨ts,k,en⟩=some (x,true)/\yes x (ts.drop (k+1))=some (r,l))\/(Di ⟨ts,k,en⟩=some (bE,false)/\no (ts.drop k)=some (r,l)):=by
 unfold Di;simp only[GZ hk,Option.bind_some];rcases LU hk hS with ⟨h0,h,hy⟩ | ⟨h0,hS⟩
 refine .inl ⟨_,h,?_,hy⟩;simp only[h0,cond_true,cond_false];rcases LU hk hS with ⟨h1,h,hy⟩ | ⟨h1,hS⟩
 refine .inl ⟨_,h,?_,hy⟩;simp only[h0,h1,cond_true,cond_false];refine .inr ⟨?_,hS⟩;simp only[h0,h1,cond_false]
def af2{yes:ByteArray->Rd α}{no:Rd α}(hk:k<=ts.length)(hS:n5 yes no (opsOf 5) (ts.drop k)=some (r,l)) :
   (∃x,k+1<=ts.length/\Dj ⟨ts,k,en⟩=some (x,true)/\yes x (ts.drop (k+1))=some (r,l))\/(Dj ⟨ts,k,en⟩=some (bE,false)/\no (ts.drop k)=some (r,l)):=by
 unfold Dj;simp only[GZ hk,Option.bind_some];rcases LU hk hS with ⟨h0,h,hy⟩ | ⟨h0,hS⟩
 refine .inl ⟨_,h,?_,hy⟩;simp only[h0,cond_true,cond_false];rcases LU hk hS with ⟨h1,h,hy⟩ | ⟨h1,hS⟩
 refine .inl ⟨_,h,?_,hy⟩;simp only[h0,h1,cond_true,cond_false];rcases LU hk hS with ⟨h2,h,hy⟩ | ⟨h2,hS⟩
 refine .inl ⟨_,h,?_,hy⟩;simp only[h0,h1,h2,cond_true,cond_false];refine .inr ⟨?_,hS⟩;simp only[h0,h1,h2,cond_false]
end
structure Agr(R:Ad)(ts:List Tk)(en:Int)(g:Ek->Rd Nd)(li:Rd (List Nd)):Prop where
 ex:∀{k:Nat},k<=ts.length->∀{r l},g .ex (ts.drop k)=some (r,l)->JD ts k (R.AN ⟨ts,k,en⟩) r l
 l0:∀{k:Nat},k<=ts.length->∀{r l},g (.lv 0) (ts.drop k)=some (r,l)->JD ts k (R.Eo ⟨ts,k,en⟩) r l
 l1:∀{k:Nat},k<=ts.length->∀{r l},g (.lv 1) (ts.drop k)=some (r,l)->JD ts k (R.B1 ⟨ts,k,en⟩) r l
 l2:∀{k:Nat},k<=ts.length->∀{r l},g (.lv 2) (ts.drop k)=some (r,l)->JD ts k (R.BD ⟨ts,k,en⟩) r l
 l3:∀{k:Nat},k<=ts.length->∀{r l},g (.lv 3) (ts.drop k)=some (r,l)->JD ts k (R.CI ⟨ts,k,en⟩) r l
 l4:∀{k:Nat},k<=ts.length->∀{r l},g (.lv 4) (ts.drop k)=some (r,l)->JD ts k (R.CJ ⟨ts,k,en⟩) r l
 l5:∀{k:Nat},k<=ts.length->∀{r l},g (.lv 5) (ts.drop k)=some (r,l)->JD ts k (R.B2 ⟨ts,k,en⟩) r l
 l6:∀{k:Nat},k<=ts.length->∀{r l},g (.lv 6) (ts.drop k)=some (r,l)->JD ts k (R.B5 ⟨ts,k,en⟩) r l
 at_:∀{k:Nat},k<=ts.length->∀{r l},g .at_ (ts.drop k)=some (r,l)->JD ts k (R.FD ⟨ts,k,en⟩) r l
 wd:∀(t:Tk) {k:Nat},k<=ts.length->∀{r l},g (.wd t) (ts.drop k)=some (r,l)->JD ts k (R.FF ⟨ts,k,en⟩ t) r l
 ca:∀{k:Nat},k<=ts.length->∀{r l},g .ca (ts.drop k)=some (r,l)->JD ts k (R.Ds ⟨ts,k,en⟩) r l
 ta:∀{k:Nat},k<=ts.length->∀{r l},g .ta (ts.drop k)=some (r,l)->JD ts k (R.Fa ⟨ts,k,en⟩) r l
 li:∀{k:Nat},k<=ts.length->∀{r l},li (ts.drop k)=some (r,l)->JD ts k (R.DP ⟨ts,k,en⟩) r l
section
variable {ts:List Tk} (D7:ts.length<=1000000) {en:Int}
include D7
def NV{sub:Rd Nd}{F:Pr->Option ((Nd⊕Dg)×Int)}{k:Nat}(hk:k<=ts.length)(Mi:∀{r l},sub (ts.drop k)=some (r,l)->JD ts k (F ⟨ts,k,en⟩) r l){x:ByteArray}{N:Nd}{r l}(hS:Rr en sub x N (ts.drop k)=some (r,l)) :
   ∃k':Nat,k<=k'/\k'<=ts.length/\l=ts.drop k'/\((∃n b,cond (BY x.data.toList EH.data.toList) (AO ⟨ts,k,en⟩) (F ⟨ts,k,en⟩)=some (.inl n,(k':Int))/\Bb x N n=some b/\r=.inl b)\/∃d,cond (BY x.data.toList EH.data.toList) (AO ⟨ts,k,en⟩) (F ⟨ts,k,en⟩)=some (.inr d,(k':Int))/\r=.inr d):=by
 have key:∀{r l},(cond (BY x.data.toList EH.data.toList) (GA en) sub) (ts.drop k)=some (r,l)->JD ts k (cond (BY x.data.toList EH.data.toList) (AO ⟨ts,k,en⟩) (F ⟨ts,k,en⟩)) r l:=by
   intro r l h;revert h;cases BY x.data.toList EH.data.toList;exact λh=>Mi h;exact λh=>Vs D7 hk h
 rcases Jn hS with ⟨n,s',h1,h2⟩ | ⟨d,h1,h2⟩
 obtain⟨b,hb,h2⟩:=Jq h2;obtain⟨rfl,rfl⟩:=LS h2;obtain⟨k',a1,a2,a3,a4⟩:=key h1;exact⟨k',a1,a2,a3,.inl ⟨n,b,a4,hb,rfl⟩⟩;obtain⟨k',a1,a2,a3,a4⟩:=key h1;exact⟨k',a1,a2,a3,.inr ⟨d,a4,h2⟩⟩
def aaw{R:Ad}{sub:Rd Nd}(Mi:∀{k:Nat},k<=ts.length->∀{r l},sub (ts.drop k)=some (r,l)->JD ts k (R.B1 ⟨ts,k,en⟩) r l)(k0:Int) :
   ∀(q:Nat) (N:Nd) (k:Nat) (r:Nd⊕Dg) (l:List Tk),k<=ts.length->LA en (opsOf 0) sub q N (ts.drop k)=some (r,l) ->
   ∃k':Nat,k<=k'/\k'<=ts.length/\l=ts.drop k'/\∃n,EQ (λx=>Bv R ⟨ts,k0,en⟩ x.1 x.2.1 x.2.2.1 x.2.2.2.1 x.2.2.2.2.1 x.2.2.2.2.2.1 x.2.2.2.2.2.2.1 x.2.2.2.2.2.2.2.1 x.2.2.2.2.2.2.2.2.1 x.2.2.2.2.2.2.2.2.2.1 x.2.2.2.2.2.2.2.2.2.2.1 x.2.2.2.2.2.2.2.2.2.2.2) n (N.kind,N.name,N.unit,N.n,N.fr,N.to,N.known,N.CF.den,N.CF.ps,N.kids,N.AH,(k:Int))=some (.inr (r,(k':Int))):=by
 intro q
 induction q with
 | zero=>intro N k r l hk hS;cases hS
 | succ q ih =>
   intro N k r l hk hS;rcases afY (en:=en) hk hS with ⟨x,h1,h2,hS⟩ | ⟨h2,hS⟩
   rcases Jn hS with ⟨b,s',h3,h4⟩ | ⟨d,h3,rfl⟩
   obtain⟨k',a1,a2,rfl,⟨n,b',hX,hb,hr⟩ | ⟨d,hX,hr⟩⟩:=NV D7 h1 (λh=>Mi h1 h) h3;cases hr;obtain⟨k2,b1,b2,b3,m,b4⟩:=ih b k' r l a2 h4;refine⟨k2,by omega,b2,b3,m+1,?_⟩
   have hL:Bv R ⟨ts,k0,en⟩ N.kind N.name N.unit N.n N.fr N.to N.known N.CF.den N.CF.ps N.kids N.AH (k:Int)=some (.nx (b.kind,b.name,b.unit,b.n,b.fr,b.to,b.known,b.CF.den,b.CF.ps,b.kids,b.AH,(k':Int))):=by
     unfold Bv;dsimp only;rw[h2];dsimp only[Option.bind,cond];rw[ED D7 hk];cases hE:BY x.data.toList EH.data.toList <;>
     rw[hE] at hX;dsimp only[cond] at hX;dsimp only;rw[hX];dsimp only[Sum.elim];rw[Rg,hb]
   show(Bv R ⟨ts,k0,en⟩ N.kind N.name N.unit N.n N.fr N.to N.known N.CF.den N.CF.ps N.kids N.AH (k:Int)).bind _=_;rw[hL];exact b4;cases hr;obtain⟨k',a1,a2,rfl,⟨n,b',hX,hb,hr⟩ | ⟨d',hX,hr⟩⟩:=NV D7 h1 (λh=>Mi h1 h) h3;cases hr;cases hr;refine⟨k',by omega,a2,rfl,1,?_⟩
   have hL:Bv R ⟨ts,k0,en⟩ N.kind N.name N.unit N.n N.fr N.to N.known N.CF.den N.CF.ps N.kids N.AH (k:Int)=some (.rt (.inr d,(k':Int))):=by
     unfold Bv;dsimp only;rw[h2];dsimp only[Option.bind,cond];rw[ED D7 hk];cases hE:BY x.data.toList EH.data.toList <;>
     rw[hE] at hX;dsimp only[cond] at hX;dsimp only;rw[hX];rfl
   show(Bv R ⟨ts,k0,en⟩ N.kind N.name N.unit N.n N.fr N.to N.known N.CF.den N.CF.ps N.kids N.AH (k:Int)).bind _=_;rw[hL];rfl;obtain⟨rfl,rfl⟩:=LS hS;refine⟨k,Nat.le_refl k,hk,rfl,1,?_⟩
   have hL:Bv R ⟨ts,k0,en⟩ N.kind N.name N.unit N.n N.fr N.to N.known N.CF.den N.CF.ps N.kids N.AH (k:Int)=some (.rt (.inl N,(k:Int))):=by
     unfold Bv;dsimp only;rw[h2,Rg];rfl
   show(Bv R ⟨ts,k0,en⟩ N.kind N.name N.unit N.n N.fr N.to N.known N.CF.den N.CF.ps N.kids N.AH (k:Int)).bind _=_;rw[hL];rfl
def ab3{R:Ad}{g:Ek->Rd Nd}(Mi:∀{k:Nat},k<=ts.length->∀{r l},g (.lv 1) (ts.drop k)=some (r,l)->JD ts k (R.B1 ⟨ts,k,en⟩) r l){k:Nat}(hk:k<=ts.length){r l}(hS:Ol en g 0 (ts.drop k)=some (r,l)) :
   JD ts k (F4 R ⟨ts,k,en⟩) r l:=by
 refine BC (λh=>Mi hk h) (λN k' h1 h2 hS=>?_) (λ_ _=>rfl) hS;obtain⟨k2,a1,a2,a3,n,a4⟩:=aaw D7 Mi (k:Int) _ N k' r l h2 hS;refine⟨k2,a1,a2,a3,?_⟩;dsimp only[Sum.elim];rw[Fj a4];rfl
def aax{R:Ad}{sub:Rd Nd}(Mi:∀{k:Nat},k<=ts.length->∀{r l},sub (ts.drop k)=some (r,l)->JD ts k (R.BD ⟨ts,k,en⟩) r l)(k0:Int) :
   ∀(q:Nat) (N:Nd) (k:Nat) (r:Nd⊕Dg) (l:List Tk),k<=ts.length->LA en (opsOf 1) sub q N (ts.drop k)=some (r,l) ->
   ∃k':Nat,k<=k'/\k'<=ts.length/\l=ts.drop k'/\∃n,EQ (λx=>Bw R ⟨ts,k0,en⟩ x.1 x.2.1 x.2.2.1 x.2.2.2.1 x.2.2.2.2.1 x.2.2.2.2.2.1 x.2.2.2.2.2.2.1 x.2.2.2.2.2.2.2.1 x.2.2.2.2.2.2.2.2.1 x.2.2.2.2.2.2.2.2.2.1 x.2.2.2.2.2.2.2.2.2.2.1 x.2.2.2.2.2.2.2.2.2.2.2) n (N.kind,N.name,N.unit,N.n,N.fr,N.to,N.known,N.CF.den,N.CF.ps,N.kids,N.AH,(k:Int))=some (.inr (r,(k':Int))):=by
 intro q
 induction q with
 | zero=>intro N k r l hk hS;cases hS
 | succ q ih =>
   intro N k r l hk hS;rcases afZ (en:=en) hk hS with ⟨x,h1,h2,hS⟩ | ⟨h2,hS⟩
   rcases Jn hS with ⟨b,s',h3,h4⟩ | ⟨d,h3,rfl⟩
   obtain⟨k',a1,a2,rfl,⟨n,b',hX,hb,hr⟩ | ⟨d,hX,hr⟩⟩:=NV D7 h1 (λh=>Mi h1 h) h3;cases hr;obtain⟨k2,b1,b2,b3,m,b4⟩:=ih b k' r l a2 h4;refine⟨k2,by omega,b2,b3,m+1,?_⟩
   have hL:Bw R ⟨ts,k0,en⟩ N.kind N.name N.unit N.n N.fr N.to N.known N.CF.den N.CF.ps N.kids N.AH (k:Int)=some (.nx (b.kind,b.name,b.unit,b.n,b.fr,b.to,b.known,b.CF.den,b.CF.ps,b.kids,b.AH,(k':Int))):=by
     unfold Bw;dsimp only;rw[h2];dsimp only[Option.bind,cond];rw[ED D7 hk];cases hE:BY x.data.toList EH.data.toList <;>
     rw[hE] at hX;dsimp only[cond] at hX;dsimp only;rw[hX];dsimp only[Sum.elim];rw[Rg,hb]
   show(Bw R ⟨ts,k0,en⟩ N.kind N.name N.unit N.n N.fr N.to N.known N.CF.den N.CF.ps N.kids N.AH (k:Int)).bind _=_;rw[hL];exact b4;cases hr;obtain⟨k',a1,a2,rfl,⟨n,b',hX,hb,hr⟩ | ⟨d',hX,hr⟩⟩:=NV D7 h1 (λh=>Mi h1 h) h3;cases hr;cases hr;refine⟨k',by omega,a2,rfl,1,?_⟩
   have hL:Bw R ⟨ts,k0,en⟩ N.kind N.name N.unit N.n N.fr N.to N.known N.CF.den N.CF.ps N.kids N.AH (k:Int)=some (.rt (.inr d,(k':Int))):=by
     unfold Bw;dsimp only;rw[h2];dsimp only[Option.bind,cond];rw[ED D7 hk];cases hE:BY x.data.toList EH.data.toList <;>
     rw[hE] at hX;dsimp only[cond] at hX;dsimp only;rw[hX];rfl
   show(Bw R ⟨ts,k0,en⟩ N.kind N.name N.unit N.n N.fr N.to N.known N.CF.den N.CF.ps N.kids N.AH (k:Int)).bind _=_;rw[hL];rfl;obtain⟨rfl,rfl⟩:=LS hS;refine⟨k,Nat.le_refl k,hk,rfl,1,?_⟩
   have hL:Bw R ⟨ts,k0,en⟩ N.kind N.name N.unit N.n N.fr N.to N.known N.CF.den N.CF.ps N.kids N.AH (k:Int)=some (.rt (.inl N,(k:Int))):=by
     unfold Bw;dsimp only;rw[h2,Rg];rfl
   show(Bw R ⟨ts,k0,en⟩ N.kind N.name N.unit N.n N.fr N.to N.known N.CF.den N.CF.ps N.kids N.AH (k:Int)).bind _=_;rw[hL];rfl
def ab4{R:Ad}{g:Ek->Rd Nd}(Mi:∀{k:Nat},k<=ts.length->∀{r l},g (.lv 2) (ts.drop k)=some (r,l)->JD ts k (R.BD ⟨ts,k,en⟩) r l){k:Nat}(hk:k<=ts.length){r l}(hS:Ol en g 1 (ts.drop k)=some (r,l)) :
   JD ts k (F5 R ⟨ts,k,en⟩) r l:=by
 refine BC (λh=>Mi hk h) (λN k' h1 h2 hS=>?_) (λ_ _=>rfl) hS;obtain⟨k2,a1,a2,a3,n,a4⟩:=aax D7 Mi (k:Int) _ N k' r l h2 hS;refine⟨k2,a1,a2,a3,?_⟩;dsimp only[Sum.elim];rw[Fj a4];rfl
def aay{R:Ad}{sub:Rd Nd}(Mi:∀{k:Nat},k<=ts.length->∀{r l},sub (ts.drop k)=some (r,l)->JD ts k (R.B2 ⟨ts,k,en⟩) r l)(k0:Int) :
   ∀(q:Nat) (N:Nd) (k:Nat) (r:Nd⊕Dg) (l:List Tk),k<=ts.length->LA en (opsOf 4) sub q N (ts.drop k)=some (r,l) ->
   ∃k':Nat,k<=k'/\k'<=ts.length/\l=ts.drop k'/\∃n,EQ (λx=>By R ⟨ts,k0,en⟩ x.1 x.2.1 x.2.2.1 x.2.2.2.1 x.2.2.2.2.1 x.2.2.2.2.2.1 x.2.2.2.2.2.2.1 x.2.2.2.2.2.2.2.1 x.2.2.2.2.2.2.2.2.1 x.2.2.2.2.2.2.2.2.2.1 x.2.2.2.2.2.2.2.2.2.2.1 x.2.2.2.2.2.2.2.2.2.2.2) n (N.kind,N.name,N.unit,N.n,N.fr,N.to,N.known,N.CF.den,N.CF.ps,N.kids,N.AH,(k:Int))=some (.inr (r,(k':Int))):=by
 intro q
 induction q with
 | zero=>intro N k r l hk hS;cases hS
 | succ q ih =>
   intro N k r l hk hS;rcases af1 (en:=en) hk hS with ⟨x,h1,h2,hS⟩ | ⟨h2,hS⟩
   rcases Jn hS with ⟨b,s',h3,h4⟩ | ⟨d,h3,rfl⟩
   obtain⟨k',a1,a2,rfl,⟨n,b',hX,hb,hr⟩ | ⟨d,hX,hr⟩⟩:=NV D7 h1 (λh=>Mi h1 h) h3;cases hr;obtain⟨k2,b1,b2,b3,m,b4⟩:=ih b k' r l a2 h4;refine⟨k2,by omega,b2,b3,m+1,?_⟩
   have hL:By R ⟨ts,k0,en⟩ N.kind N.name N.unit N.n N.fr N.to N.known N.CF.den N.CF.ps N.kids N.AH (k:Int)=some (.nx (b.kind,b.name,b.unit,b.n,b.fr,b.to,b.known,b.CF.den,b.CF.ps,b.kids,b.AH,(k':Int))):=by
     unfold By;dsimp only;rw[h2];dsimp only[Option.bind,cond];rw[ED D7 hk];cases hE:BY x.data.toList EH.data.toList <;>
     rw[hE] at hX;dsimp only[cond] at hX;dsimp only;rw[hX];dsimp only[Sum.elim];rw[Rg,hb]
   show(By R ⟨ts,k0,en⟩ N.kind N.name N.unit N.n N.fr N.to N.known N.CF.den N.CF.ps N.kids N.AH (k:Int)).bind _=_;rw[hL];exact b4;cases hr;obtain⟨k',a1,a2,rfl,⟨n,b',hX,hb,hr⟩ | ⟨d',hX,hr⟩⟩:=NV D7 h1 (λh=>Mi h1 h) h3;cases hr;cases hr;refine⟨k',by omega,a2,rfl,1,?_⟩
   have hL:By R ⟨ts,k0,en⟩ N.kind N.name N.unit N.n N.fr N.to N.known N.CF.den N.CF.ps N.kids N.AH (k:Int)=some (.rt (.inr d,(k':Int))):=by
     unfold By;dsimp only;rw[h2];dsimp only[Option.bind,cond];rw[ED D7 hk];cases hE:BY x.data.toList EH.data.toList <;>
     rw[hE] at hX;dsimp only[cond] at hX;dsimp only;rw[hX];rfl
   show(By R ⟨ts,k0,en⟩ N.kind N.name N.unit N.n N.fr N.to N.known N.CF.den N.CF.ps N.kids N.AH (k:Int)).bind _=_;rw[hL];rfl;obtain⟨rfl,rfl⟩:=LS hS;refine⟨k,Nat.le_refl k,hk,rfl,1,?_⟩
   have hL:By R ⟨ts,k0,en⟩ N.kind N.name N.unit N.n N.fr N.to N.known N.CF.den N.CF.ps N.kids N.AH (k:Int)=some (.rt (.inl N,(k:Int))):=by
     unfold By;dsimp only;rw[h2,Rg];rfl
   show(By R ⟨ts,k0,en⟩ N.kind N.name N.unit N.n N.fr N.to N.known N.CF.den N.CF.ps N.kids N.AH (k:Int)).bind _=_;rw[hL];rfl
def ab5{R:Ad}{g:Ek->Rd Nd}(Mi:∀{k:Nat},k<=ts.length->∀{r l},g (.lv 5) (ts.drop k)=some (r,l)->JD ts k (R.B2 ⟨ts,k,en⟩) r l){k:Nat}(hk:k<=ts.length){r l}(hS:Ol en g 4 (ts.drop k)=some (r,l)) :
   JD ts k (F7 R ⟨ts,k,en⟩) r l:=by
 refine BC (λh=>Mi hk h) (λN k' h1 h2 hS=>?_) (λ_ _=>rfl) hS;obtain⟨k2,a1,a2,a3,n,a4⟩:=aay D7 Mi (k:Int) _ N k' r l h2 hS;refine⟨k2,a1,a2,a3,?_⟩;dsimp only[Sum.elim];rw[Fj a4];rfl
def aaz{R:Ad}{sub:Rd Nd}(Mi:∀{k:Nat},k<=ts.length->∀{r l},sub (ts.drop k)=some (r,l)->JD ts k (R.B5 ⟨ts,k,en⟩) r l)(k0:Int) :
   ∀(q:Nat) (N:Nd) (k:Nat) (r:Nd⊕Dg) (l:List Tk),k<=ts.length->LA en (opsOf 5) sub q N (ts.drop k)=some (r,l) ->
   ∃k':Nat,k<=k'/\k'<=ts.length/\l=ts.drop k'/\∃n,EQ (λx=>Bz R ⟨ts,k0,en⟩ x.1 x.2.1 x.2.2.1 x.2.2.2.1 x.2.2.2.2.1 x.2.2.2.2.2.1 x.2.2.2.2.2.2.1 x.2.2.2.2.2.2.2.1 x.2.2.2.2.2.2.2.2.1 x.2.2.2.2.2.2.2.2.2.1 x.2.2.2.2.2.2.2.2.2.2.1 x.2.2.2.2.2.2.2.2.2.2.2) n (N.kind,N.name,N.unit,N.n,N.fr,N.to,N.known,N.CF.den,N.CF.ps,N.kids,N.AH,(k:Int))=some (.inr (r,(k':Int))):=by
 intro q
 induction q with
 | zero=>intro N k r l hk hS;cases hS
 | succ q ih =>
   intro N k r l hk hS;rcases af2 (en:=en) hk hS with ⟨x,h1,h2,hS⟩ | ⟨h2,hS⟩
   rcases Jn hS with ⟨b,s',h3,h4⟩ | ⟨d,h3,rfl⟩
   obtain⟨k',a1,a2,rfl,⟨n,b',hX,hb,hr⟩ | ⟨d,hX,hr⟩⟩:=NV D7 h1 (λh=>Mi h1 h) h3;cases hr;obtain⟨k2,b1,b2,b3,m,b4⟩:=ih b k' r l a2 h4;refine⟨k2,by omega,b2,b3,m+1,?_⟩
   have hL:Bz R ⟨ts,k0,en⟩ N.kind N.name N.unit N.n N.fr N.to N.known N.CF.den N.CF.ps N.kids N.AH (k:Int)=some (.nx (b.kind,b.name,b.unit,b.n,b.fr,b.to,b.known,b.CF.den,b.CF.ps,b.kids,b.AH,(k':Int))):=by
     unfold Bz;dsimp only;rw[h2];dsimp only[Option.bind,cond];rw[ED D7 hk];cases hE:BY x.data.toList EH.data.toList <;>
     rw[hE] at hX;dsimp only[cond] at hX;dsimp only;rw[hX];dsimp only[Sum.elim];rw[Rg,hb]
   show(Bz R ⟨ts,k0,en⟩ N.kind N.name N.unit N.n N.fr N.to N.known N.CF.den N.CF.ps N.kids N.AH (k:Int)).bind _=_;rw[hL];exact b4;cases hr;obtain⟨k',a1,a2,rfl,⟨n,b',hX,hb,hr⟩ | ⟨d',hX,hr⟩⟩:=NV D7 h1 (λh=>Mi h1 h) h3;cases hr;cases hr;refine⟨k',by omega,a2,rfl,1,?_⟩
   have hL:Bz R ⟨ts,k0,en⟩ N.kind N.name N.unit N.n N.fr N.to N.known N.CF.den N.CF.ps N.kids N.AH (k:Int)=some (.rt (.inr d,(k':Int))):=by
     unfold Bz;dsimp only;rw[h2];dsimp only[Option.bind,cond];rw[ED D7 hk];cases hE:BY x.data.toList EH.data.toList <;>
     rw[hE] at hX;dsimp only[cond] at hX;dsimp only;rw[hX];rfl
   show(Bz R ⟨ts,k0,en⟩ N.kind N.name N.unit N.n N.fr N.to N.known N.CF.den N.CF.ps N.kids N.AH (k:Int)).bind _=_;rw[hL];rfl;obtain⟨rfl,rfl⟩:=LS hS;refine⟨k,Nat.le_refl k,hk,rfl,1,?_⟩
   have hL:Bz R ⟨ts,k0,en⟩ N.kind N.name N.unit N.n N.fr N.to N.known N.CF.den N.CF.ps N.kids N.AH (k:Int)=some (.rt (.inl N,(k:Int))):=by
     unfold Bz;dsimp only;rw[h2,Rg];rfl
   show(Bz R ⟨ts,k0,en⟩ N.kind N.name N.unit N.n N.fr N.to N.known N.CF.den N.CF.ps N.kids N.AH (k:Int)).bind _=_;rw[hL];rfl
def ab6{R:Ad}{g:Ek->Rd Nd}(Mi:∀{k:Nat},k<=ts.length->∀{r l},g (.lv 6) (ts.drop k)=some (r,l)->JD ts k (R.B5 ⟨ts,k,en⟩) r l){k:Nat}(hk:k<=ts.length){r l}(hS:Ol en g 5 (ts.drop k)=some (r,l)) :
   JD ts k (F8 R ⟨ts,k,en⟩) r l:=by
 refine BC (λh=>Mi hk h) (λN k' h1 h2 hS=>?_) (λ_ _=>rfl) hS;obtain⟨k2,a1,a2,a3,n,a4⟩:=aaz D7 Mi (k:Int) _ N k' r l h2 hS;refine⟨k2,a1,a2,a3,?_⟩;dsimp only[Sum.elim];rw[Fj a4];rfl
end
end Mo
end Go.Proofs.YtpbkhogolfegfaaGreatDoor
namespace Go.Proofs.YtpbkhogolfegfaaGreatDoor
open AI Go
namespace Mo
set_option maxRecDepth 100000
section
variable {α β γ:Type} {ts:List Tk} {k:Nat} {en:Int} {l:List Tk}
def dQ(ts:List Tk)(k:Nat)(X:Option ((Pt⊕Dg)×Int×Int))(r:(Pt×Int)⊕Dg)(l:List Tk):Prop:=∃k':Nat,k<=k'/\k'<=ts.length/\l=ts.drop k'/\match r with
 | .inl x=>X=some (.inl x.1,(k':Int),x.2)
 | .inr d=>∃c,X=some (.inr d,(k':Int),c)
variable {r:(Pt×Int)⊕Dg}
def uF{k2:Nat}{X:Option ((Pt⊕Dg)×Int×Int)}(h1:k<=k2)(h:dQ ts k2 X r l):dQ ts k X r l:=by
 obtain⟨k',a,b,c,d⟩:=h;exact⟨k',Nat.le_trans h1 a,b,c,d⟩
def I3{F1:Option ((γ⊕Dg)×Int)}{F2:(γ⊕Dg)×Int->Option ((Pt⊕Dg)×Int×Int)}{m:Rd γ}{K:γ->Rd (Pt×Int)}
   (h1:∀{r l},m (ts.drop k)=some (r,l)->JD ts k F1 r l)
   (h2:∀a k',k<=k'->k'<=ts.length->K a (ts.drop k')=some (r,l)->dQ ts k' (F2 (.inl a,(k':Int))) r l)
   (h3:∀d z,∃c,F2 (.inr d,z)=some (.inr d,z,c)) (hS:Cw m K (ts.drop k)=some (r,l)):dQ ts k (F1.bind F2) r l:=by
 rcases Jn hS with ⟨a,s',hm,hS⟩ | ⟨d,hm,rfl⟩
 obtain⟨k',a1,a2,rfl,a4⟩:=h1 hm;rw[a4];exact uF a1 (h2 _ _ a1 a2 hS);obtain⟨k',a1,a2,a3,a4⟩:=h1 hm;obtain⟨c,hc⟩:=h3 d k';exact⟨k',a1,a2,a3,c,by rw[a4,Option.bind_some,hc]⟩
def acK{F2:Bool->Option ((Pt⊕Dg)×Int×Int)}{A B:Rd (Pt×Int)}{x:ByteArray}(hk:k<=ts.length)
   (h1:k+1<=ts.length->A (ts.drop (k+1))=some (r,l)->dQ ts (k+1) (F2 true) r l) (h2:B (ts.drop k)=some (r,l)->dQ ts k (F2 false) r l)
   (hS:OI x A B (ts.drop k)=some (r,l)):dQ ts k ((As ⟨ts,k,en⟩ x).bind F2) r l:=by
 rw[GZ hk,Option.bind_some];rcases LU hk hS with ⟨h,h3,hS⟩ | ⟨h,hS⟩
 rw[h];exact uF (Nat.le_succ k) (h1 h3 hS);rw[h];exact h2 hS
end
def akS(p:Pr)(Az Bj:Int)(Ay:Int×Int):Option ((Pt⊕Dg)×Int×Int):=((Ak (⟨p.Bs,Bj,p.DN⟩:Pr) Vy).bind λ(KB,ES)=>Sum.elim (λ(C9:Tk)=>(As (⟨p.Bs,ES,p.DN⟩:Pr) Lu).bind λy3=>cond y3 ((BR (⟨p.Bs,(Bt ES 1),p.DN⟩:Pr)).bind λ(WH,JM)=>Sum.elim (λ(Dm:(Int×Int))=>(Ch (⟨p.Bs,JM,p.DN⟩:Pr)).bind λ(Nq,Hf)=>Sum.elim (λ(IF:Int)=>(AL (⟨p.Bs,Hf,p.DN⟩:Pr) 0).bind λ(Z7,N0)=>Sum.elim (λ(Jl:(Int×Int))=>(Ak (⟨p.Bs,N0,p.DN⟩:Pr) EH).bind λ(rO,Sb)=>Sum.elim (λ(VR:Tk)=>(AL (⟨p.Bs,Sb,p.DN⟩:Pr) 1).bind λ(Z3,L0)=>Sum.elim (λ(Hc:(Int×Int))=>(CS Az Hc.1).bind λy9=>(Tu Az y9).bind λz10=>cond (Ez 1000000 (BQ z10 Hc.1)) (some ((Sum.inr (⟨2,Hc.2⟩:Dg):(Pt⊕Dg)),L0,(BQ z10 Hc.1))) (some ((Sum.inl (⟨Ay.1,(BQ Dm.1 (-1)),(BQ Jl.1 IF),Hc.1⟩:Pt):(Pt⊕Dg)),L0,(BQ z10 Hc.1)))) (λ(LZ:Dg)=>some ((Sum.inr LZ:(Pt⊕Dg)),L0,Az)) Z3) (λ(P1:Dg)=>some ((Sum.inr P1:(Pt⊕Dg)),Sb,Az)) rO) (λ(Nr:Dg)=>some ((Sum.inr Nr:(Pt⊕Dg)),N0,Az)) Z7) (λ(Hk:Dg)=>some ((Sum.inr Hk:(Pt⊕Dg)),Hf,Az)) Nq) (λ(IE:Dg)=>some ((Sum.inr IE:(Pt⊕Dg)),JM,Az)) WH) ((BR (⟨p.Bs,ES,p.DN⟩:Pr)).bind λ(rM,QV)=>Sum.elim (λ(Nz:(Int×Int))=>(Ch (⟨p.Bs,QV,p.DN⟩:Pr)).bind λ(Z1,VP)=>Sum.elim (λ(Z2:Int)=>(AL (⟨p.Bs,VP,p.DN⟩:Pr) 0).bind λ(Xy,O5)=>Sum.elim (λ(NA:(Int×Int))=>(Ak (⟨p.Bs,O5,p.DN⟩:Pr) EH).bind λ(iE,UI)=>Sum.elim (λ(aiU:Tk)=>(AL (⟨p.Bs,UI,p.DN⟩:Pr) 1).bind λ(iF,RF)=>Sum.elim (λ(KR:(Int×Int))=>(CS Az KR.1).bind λy16=>(Tu Az y16).bind λz17=>cond (Ez 1000000 (BQ z17 KR.1)) (some ((Sum.inr (⟨2,KR.2⟩:Dg):(Pt⊕Dg)),RF,(BQ z17 KR.1))) (some ((Sum.inl (⟨Ay.1,(BQ Nz.1 1),(BQ NA.1 Z2),KR.1⟩:Pt):(Pt⊕Dg)),RF,(BQ z17 KR.1)))) (λ(nE:Dg)=>some ((Sum.inr nE:(Pt⊕Dg)),RF,Az)) iF) (λ(nD:Dg)=>some ((Sum.inr nD:(Pt⊕Dg)),UI,Az)) iE) (λ(VQ:Dg)=>some ((Sum.inr VQ:(Pt⊕Dg)),O5,Az)) Xy) (λ(nC:Dg)=>some ((Sum.inr nC:(Pt⊕Dg)),VP,Az)) Z1) (λ(VO:Dg)=>some ((Sum.inr VO:(Pt⊕Dg)),QV,Az)) rM)) (λ(Hj:Dg)=>some ((Sum.inr Hj:(Pt⊕Dg)),ES,Az)) KB)
section
variable {ts:List Tk} (D7:ts.length<=1000000) {en:Int}
include D7
def lC(k0 Az:Int)(v:Int×Int){k:Nat}(hk:k<=ts.length){r l}(hS:NS en Az v.1 (ts.drop k)=some (r,l)):dQ ts k (akS ⟨ts,k0,en⟩ Az k v) r l:=by
 refine I3 (λh=>IY D7 _ hk h) (λ_ k h hk hS=>?_) (λ_ _=>⟨_,rfl⟩) hS;refine acK hk (λWW hS=>?_) (λhS=>?_) hS;dsimp only[cond];rw[ED D7 hk];refine I3 (λh=>iC D7 WW h) (λa k h hk hS=>?_) (λ_ _=>⟨_,rfl⟩) hS;refine I3 (λh=>adf D7 hk h) (λs k h hk hS=>?_) (λ_ _=>⟨_,rfl⟩) hS;refine I3 (λh=>Pj D7 _ hk h) (λm k h hk hS=>?_) (λ_ _=>⟨_,rfl⟩) hS;refine I3 (λh=>IY D7 _ hk h) (λ_ k h hk hS=>?_) (λ_ _=>⟨_,rfl⟩) hS;refine I3 (λh=>Pj D7 _ hk h) (λd k h hk hS=>?_) (λ_ _=>⟨_,rfl⟩) hS;obtain⟨g,hg,hS⟩:=Jq hS;have hg:=aa9 hg;obtain⟨z,hz,hS⟩:=Jq hS;dsimp only[Sum.elim];rw[hg,Option.bind_some,hz,Option.bind_some];revert hS;cases Ez 1000000 (BQ z d.1);exact λhS=>by obtain⟨rfl,rfl⟩:=LS hS;exact⟨k,Nat.le_refl k,hk,rfl,rfl⟩
 exact λhS=>by obtain⟨rfl,rfl⟩:=Nt hS;exact⟨k,Nat.le_refl k,hk,rfl,_,rfl⟩
 refine I3 (λh=>iC D7 hk h) (λa k h hk hS=>?_) (λ_ _=>⟨_,rfl⟩) hS;refine I3 (λh=>adf D7 hk h) (λs k h hk hS=>?_) (λ_ _=>⟨_,rfl⟩) hS;refine I3 (λh=>Pj D7 _ hk h) (λm k h hk hS=>?_) (λ_ _=>⟨_,rfl⟩) hS;refine I3 (λh=>IY D7 _ hk h) (λ_ k h hk hS=>?_) (λ_ _=>⟨_,rfl⟩) hS;refine I3 (λh=>Pj D7 _ hk h) (λd k h hk hS=>?_) (λ_ _=>⟨_,rfl⟩) hS;obtain⟨g,hg,hS⟩:=Jq hS;have hg:=aa9 hg;obtain⟨z,hz,hS⟩:=Jq hS;dsimp only[Sum.elim];rw[hg,Option.bind_some,hz,Option.bind_some];revert hS;cases Ez 1000000 (BQ z d.1);exact λhS=>by obtain⟨rfl,rfl⟩:=LS hS;exact⟨k,Nat.le_refl k,hk,rfl,rfl⟩
 exact λhS=>by obtain⟨rfl,rfl⟩:=Nt hS;exact⟨k,Nat.le_refl k,hk,rfl,_,rfl⟩
def tX(before:List Pt)(hb:before.length<=100000000)(Az:Int){k:Nat}(hk:k<=ts.length){r l}(hS:SK en before Az (ts.drop k)=some (r,l)):dQ ts k (G9 ⟨ts,k,en⟩ before Az) r l:=by
 refine I3 (λh=>iC D7 hk h) (λv k1 h hk hS=>?_) (λ_ _=>⟨_,rfl⟩) hS;dsimp only[Sum.elim];revert hS;cases hE:CZ ((before.length:Nat):Int) 0 with
 | true =>
   cases CZ v.1 0;exact λhS=>by obtain⟨rfl,rfl⟩:=Nt hS;exact⟨k1,Nat.le_refl k1,hk,rfl,_,rfl⟩
   exact λhS=>lC D7 k Az v hk hS
 | false =>
   intro hS;have h0:before.length≠0:=λh=>U9 hE (by rw[h];rfl);obtain⟨x,hx,hS⟩:=Jq hS;dsimp only[cond];rw[Ir (by omega)]
   have hg:HU before (L6 ((before.length:Nat):Int) 1)=some x:=by
     have:L6 ((before.length:Nat):Int) 1=((before.length - 1:Nat):Int):=by
       rw[KZ (by omega)];omega
     rw[this];unfold HU;rw[if_pos (by omega),Int.toNat_natCast,hx]
   dsimp only;rw[hg,Option.bind_some];revert hS;cases NI v.1 x.fr;cases NI 64 ((before.length:Nat):Int);exact λhS=>lC D7 k Az v hk hS;exact λhS=>by obtain⟨rfl,rfl⟩:=Nt hS;exact⟨k1,Nat.le_refl k1,hk,rfl,_,rfl⟩
   exact λhS=>by obtain⟨rfl,rfl⟩:=Nt hS;exact⟨k1,Nat.le_refl k1,hk,rfl,_,rfl⟩
def lD(R:Ad)(k0:Int):∀(q:Nat) (ps:List Pt) (c:Int) (k:Nat) (r:(List Pt×Int)⊕Dg) (l:List Tk),ps.length<=100000000->k<=ts.length->MA en q ps c (ts.drop k)=some (r,l) ->
   ∃k':Nat,k<=k'/\k'<=ts.length/\l=ts.drop k'/\∃n,EQ (λx=>BF R ⟨ts,k0,en⟩ x.1 x.2.1 x.2.2) n (ps,c,(k:Int))=some (match r with | .inl x=>.inl (x.1,x.2,(k':Int)) | .inr d=>.inr (.inr d,(k':Int))):=by
 intro q
 induction q with
 | zero=>intro ps c k r l hp hk hS;cases hS
 | succ q ih =>
   intro ps c k r l hp hk hS;rcases Jn hS with ⟨x,s',h3,h4⟩ | ⟨d,h3,rfl⟩
   obtain⟨k',a1,a2,rfl,a4⟩:=tX D7 ps hp c hk h3;obtain⟨hl,h4⟩:=Om h4;rcases LU a2 h4 with ⟨h5,h6,h7⟩ | ⟨h5,h7⟩
   obtain⟨k2,b1,b2,b3,n,b4⟩:=ih (ps++[x.1]) x.2 (k'+1) r l (by simp only[List.length_append,List.length_singleton];omega) h6 h7;refine⟨k2,by omega,b2,b3,n+1,?_⟩
   have hL:BF R ⟨ts,k0,en⟩ ps c (k:Int)=some (.nx (ps++[x.1],x.2,((k'+1:Nat):Int))):=by
     unfold BF;dsimp only at a4 ⊢;rw[a4,Option.bind_some];dsimp only[Sum.elim];rw[Fl hl,GZ a2,h5,Option.bind_some,ED D7 a2];rfl
   show(BF R ⟨ts,k0,en⟩ ps c (k:Int)).bind _=_;rw[hL];exact b4;obtain⟨rfl,rfl⟩:=LS h7;refine⟨k',a1,a2,rfl,1,?_⟩
   have hL:BF R ⟨ts,k0,en⟩ ps c (k:Int)=some (.ex (ps++[x.1],x.2,(k':Int))):=by
     unfold BF;dsimp only at a4 ⊢;rw[a4,Option.bind_some];dsimp only[Sum.elim];rw[Fl hl,GZ a2,h5,Option.bind_some];rfl
   show(BF R ⟨ts,k0,en⟩ ps c (k:Int)).bind _=_;rw[hL];rfl;obtain⟨k',a1,a2,a3,c',a4⟩:=tX D7 ps hp c hk h3;refine⟨k',a1,a2,a3,1,?_⟩
   have hL:BF R ⟨ts,k0,en⟩ ps c (k:Int)=some (.rt (.inr d,(k':Int))):=by
     unfold BF;dsimp only at a4 ⊢;rw[a4,Option.bind_some];rfl
   show(BF R ⟨ts,k0,en⟩ ps c (k:Int)).bind _=_;rw[hL];rfl
omit D7 in
def mF(R:Ad)(c:Int)(t:Tk)(kz:Int):∀(ps:List Pt) (acc:List Pc) (i:Nat) (r:(List Pc)⊕Dg) (s l:List Tk),MG c t.AH ps acc s=some (r,l) ->
   l=s/\CO (λi y x=>E3 R c kz t i y x) (λx=>x) ps i acc=some (match r with | .inl x=>.inl x | .inr d=>.inr (.inr d,kz)):=by
 intro ps
 induction ps with
 | nil =>
   intro acc i r s l hS;obtain⟨rfl,rfl⟩:=LS hS;exact⟨rfl,rfl⟩
 | cons x ps ih =>
   intro acc i r s l hS;unfold MG at hS;obtain⟨z,hz,hS⟩:=Jq hS;rw[CO];unfold E3;rw[hz,Option.bind_some];revert hS;cases Ez 1000000 (BQ x.num z);cases Ez (BQ x.num z) (-1000000);intro hS;obtain⟨hl,hS⟩:=Om hS;obtain⟨rfl,h⟩:=ih _ (i+1) r s l hS;refine⟨rfl,?_⟩;dsimp only[cond];rw[Fl hl,Option.bind_some];exact h;intro hS;obtain⟨rfl,rfl⟩:=Nt hS;exact⟨rfl,rfl⟩;intro hS;obtain⟨rfl,rfl⟩:=Nt hS;exact⟨rfl,rfl⟩
def ag8{R:Ad}{g:Ek->Rd Nd}(hex:∀{k:Nat},k<=ts.length->∀{r l},g .ex (ts.drop k)=some (r,l)->JD ts k (R.AN ⟨ts,k,en⟩) r l){k:Nat}(hk:k<=ts.length){r l}(hS:ZE en g (ts.drop k)=some (r,l)) :
   JD ts k (Ha R ⟨ts,k,en⟩) r l:=by
 refine BC (λh=>IY D7 _ hk h) (λt k1 h WW hS=>?_) (λ_ _=>rfl) hS;refine BC (λh=>IY D7 _ WW h) (λ_ k2 h fF hS=>?_) (λ_ _=>rfl) hS;refine BC (λh=>hex fF h) (λa k3 h hk3 hS=>?_) (λ_ _=>rfl) hS;refine BC (λh=>IY D7 _ hk3 h) (λ_ k4 h hk4 hS=>?_) (λ_ _=>rfl) hS;dsimp only[Sum.elim];rcases Jn hS with ⟨x,s',h3,h4⟩ | ⟨d,h3,rfl⟩
 obtain⟨k',a1,a2,rfl,n,a4⟩:=lD D7 R (k:Int) _ [] 1 k4 _ _ (by simp) hk4 h3;rw[Fj a4,Option.bind_some];refine LR a1 ?_;dsimp only[Ma];refine BC (λh=>IY D7 _ a2 h) (λe k5 h hk5 hS=>?_) (λ_ _=>rfl) h4;obtain⟨hl,hS⟩:=Om hS;dsimp only[Sum.elim];rw[List.drop_zero,show RT x.1.length=λy=>y from funext λy=>if_pos (by omega)];dsimp only;rcases Jn hS with ⟨y,s2,h5,h6⟩ | ⟨d,h5,rfl⟩
 obtain⟨rfl,h⟩:=mF R x.2 e (k5:Int) x.1 [] 0 _ _ _ h5;rw[h];exact Ey hk5 rfl h6;obtain⟨rfl,h⟩:=mF R x.2 e (k5:Int) x.1 [] 0 _ _ _ h5;rw[h];exact⟨k5,Nat.le_refl _,hk5,rfl,rfl⟩;obtain⟨k',a1,a2,a3,n,a4⟩:=lD D7 R (k:Int) _ [] 1 k4 _ _ (by simp) hk4 h3;rw[Fj a4,Option.bind_some];exact⟨k',a1,a2,a3,rfl⟩
def p5{R:Ad}{read:Rd Nd}(k0:Int)(Og:∀{k:Nat},k<=ts.length->∀{r l},read (ts.drop k)=some (r,l)->JD ts k (R.AN ⟨ts,k,en⟩) r l):∀(q:Nat) (ns:List Nd) (k:Nat) (r:(List Nd)⊕Dg) (l:List Tk),k<=ts.length->RU read q ns (ts.drop k)=some (r,l) ->
   ∃k':Nat,k<=k'/\k'<=ts.length/\l=ts.drop k'/\∃n,EQ (λx=>Bm R ⟨ts,k0,en⟩ x.1 x.2) n (ns,(k:Int))=some (match r with | .inl x=>.inl (x,(k':Int)) | .inr d=>.inr (.inr d,(k':Int))):=by
 intro q
 induction q with
 | zero=>intro ns k r l hk hS;cases hS
 | succ q ih =>
   intro ns k r l hk hS;rcases LU hk hS with ⟨h1,h2,hS⟩ | ⟨h1,hS⟩
   rcases Jn hS with ⟨x,s',h3,h4⟩ | ⟨d,h3,rfl⟩
   obtain⟨k',a1,a2,rfl,a4⟩:=Og h2 h3;obtain⟨hl,h4⟩:=Om h4;obtain⟨k2,b1,b2,b3,n,b4⟩:=ih (ns++[x]) k' r l a2 h4;refine⟨k2,by omega,b2,b3,n+1,?_⟩
   have hL:Bm R ⟨ts,k0,en⟩ ns (k:Int)=some (.nx (ns++[x],(k':Int))):=by
     unfold Bm;dsimp only;rw[GZ hk,h1,Option.bind_some,ED D7 hk];dsimp only[cond];rw[a4,Option.bind_some];dsimp only[Sum.elim];rw[Fl hl]
   show(Bm R ⟨ts,k0,en⟩ ns (k:Int)).bind _=_;rw[hL];exact b4;obtain⟨k',a1,a2,a3,a4⟩:=Og h2 h3;refine⟨k',by omega,a2,a3,1,?_⟩
   have hL:Bm R ⟨ts,k0,en⟩ ns (k:Int)=some (.rt (.inr d,(k':Int))):=by
     unfold Bm;dsimp only;rw[GZ hk,h1,Option.bind_some,ED D7 hk];dsimp only[cond];rw[a4,Option.bind_some];rfl
   show(Bm R ⟨ts,k0,en⟩ ns (k:Int)).bind _=_;rw[hL];rfl;obtain⟨rfl,rfl⟩:=LS hS;refine⟨k,Nat.le_refl k,hk,rfl,1,?_⟩
   have hL:Bm R ⟨ts,k0,en⟩ ns (k:Int)=some (.ex (ns,(k:Int))):=by
     unfold Bm;dsimp only;rw[GZ hk,h1,Option.bind_some];rfl
   show(Bm R ⟨ts,k0,en⟩ ns (k:Int)).bind _=_;rw[hL];rfl
def afQ{R:Ad}{read:Rd Nd}(Og:∀{k:Nat},k<=ts.length->∀{r l},read (ts.drop k)=some (r,l)->JD ts k (R.AN ⟨ts,k,en⟩) r l){k:Nat}(hk:k<=ts.length){r l}(hS:SG read (ts.drop k)=some (r,l)):JD ts k (Fp R ⟨ts,k,en⟩) r l:=by
 refine BC (λh=>Og hk h) (λx k1 h WW hS=>?_) (λ_ _=>rfl) hS;dsimp only[Sum.elim];rcases LU WW hS with ⟨h1,h2,hS⟩ | ⟨h1,hS⟩
 rw[GZ WW,h1,Option.bind_some,ED D7 WW];refine LR (Nat.le_succ k1) ?_;refine BC (λh=>Og h2 h) (λy k2 h fF hS=>?_) (λ_ _=>rfl) hS;obtain⟨hl,hS⟩:=Om hS;dsimp only[Sum.elim];rw[Fl hl];obtain⟨k',a1,a2,a3,n,a4⟩:=p5 D7 (k:Int) Og _ _ k2 _ _ fF hS;rw[Fj a4,Option.bind_some];refine⟨k',a1,a2,a3,?_⟩;cases r<;>rfl
 rw[GZ WW,h1,Option.bind_some];exact Ey WW rfl hS
def p6{read:Rd Nd}(k0:Int)(Og:∀{k:Nat},k<=ts.length->∀{r l},read (ts.drop k)=some (r,l)->JD ts k (AO ⟨ts,k,en⟩) r l):∀(q:Nat) (ns:List Nd) (k:Nat) (r:(List Nd)⊕Dg) (l:List Tk),k<=ts.length->RU read q ns (ts.drop k)=some (r,l) ->
   ∃k':Nat,k<=k'/\k'<=ts.length/\l=ts.drop k'/\∃n,EQ (λx=>AP ⟨ts,k0,en⟩ x.1 x.2) n (ns,(k:Int))=some (match r with | .inl x=>.inl (x,(k':Int)) | .inr d=>.inr (.inr d,(k':Int))):=by
 intro q
 induction q with
 | zero=>intro ns k r l hk hS;cases hS
 | succ q ih =>
   intro ns k r l hk hS;rcases LU hk hS with ⟨h1,h2,hS⟩ | ⟨h1,hS⟩
   rcases Jn hS with ⟨x,s',h3,h4⟩ | ⟨d,h3,rfl⟩
   obtain⟨k',a1,a2,rfl,a4⟩:=Og h2 h3;obtain⟨hl,h4⟩:=Om h4;obtain⟨k2,b1,b2,b3,n,b4⟩:=ih (ns++[x]) k' r l a2 h4;refine⟨k2,by omega,b2,b3,n+1,?_⟩
   have hL:AP ⟨ts,k0,en⟩ ns (k:Int)=some (.nx (ns++[x],(k':Int))):=by
     unfold AP;dsimp only;rw[GZ hk,h1,Option.bind_some,ED D7 hk];dsimp only[cond];rw[a4,Option.bind_some];dsimp only[Sum.elim];rw[Fl hl]
   show(AP ⟨ts,k0,en⟩ ns (k:Int)).bind _=_;rw[hL];exact b4;obtain⟨k',a1,a2,a3,a4⟩:=Og h2 h3;refine⟨k',by omega,a2,a3,1,?_⟩
   have hL:AP ⟨ts,k0,en⟩ ns (k:Int)=some (.rt (.inr d,(k':Int))):=by
     unfold AP;dsimp only;rw[GZ hk,h1,Option.bind_some,ED D7 hk];dsimp only[cond];rw[a4,Option.bind_some];rfl
   show(AP ⟨ts,k0,en⟩ ns (k:Int)).bind _=_;rw[hL];rfl;obtain⟨rfl,rfl⟩:=LS hS;refine⟨k,Nat.le_refl k,hk,rfl,1,?_⟩
   have hL:AP ⟨ts,k0,en⟩ ns (k:Int)=some (.ex (ns,(k:Int))):=by
     unfold AP;dsimp only;rw[GZ hk,h1,Option.bind_some];rfl
   show(AP ⟨ts,k0,en⟩ ns (k:Int)).bind _=_;rw[hL];rfl
def afR{read:Rd Nd}(Og:∀{k:Nat},k<=ts.length->∀{r l},read (ts.drop k)=some (r,l)->JD ts k (AO ⟨ts,k,en⟩) r l){k:Nat}(hk:k<=ts.length){r l}(hS:SG read (ts.drop k)=some (r,l)):JD ts k (DQ ⟨ts,k,en⟩) r l:=by
 refine BC (λh=>Og hk h) (λx k1 h WW hS=>?_) (λ_ _=>rfl) hS;dsimp only[Sum.elim];rcases LU WW hS with ⟨h1,h2,hS⟩ | ⟨h1,hS⟩
 rw[GZ WW,h1,Option.bind_some,ED D7 WW];refine LR (Nat.le_succ k1) ?_;refine BC (λh=>Og h2 h) (λy k2 h fF hS=>?_) (λ_ _=>rfl) hS;obtain⟨hl,hS⟩:=Om hS;dsimp only[Sum.elim];rw[Fl hl];obtain⟨k',a1,a2,a3,n,a4⟩:=p6 D7 (k:Int) Og _ _ k2 _ _ fF hS;rw[Fj a4,Option.bind_some];refine⟨k',a1,a2,a3,?_⟩;cases r<;>rfl
 rw[GZ WW,h1,Option.bind_some];exact Ey WW rfl hS
end
end Mo
end Go.Proofs.YtpbkhogolfegfaaGreatDoor
namespace Go.Proofs.YtpbkhogolfegfaaGreatDoor
open AI Go
namespace Mo
set_option maxRecDepth 100000
section
variable {ts:List Tk} (D7:ts.length<=1000000) {en:Int} {R:Ad} {g:Ek->Rd Nd} {li:Rd (List Nd)} (A:Agr R ts en g li)
include D7 A
def aji{k:Nat}(hk:k<=ts.length){r l}(hS:jQ en g (ts.drop k)=some (r,l)):JD ts k (F6 R ⟨ts,k,en⟩) r l:=by
 refine BC (λh=>A.l4 hk h) (λN k h hk hS=>?_) (λ_ _=>rfl) hS;dsimp only[Sum.elim]
 have fin:∀{y:(Nd⊕Dg)×Int} (k0:Int),BU R ⟨ts,k0,en⟩ (k:Int) N=some (.rt y)->(Mh (λ_:Unit=>BU R ⟨ts,k0,en⟩ (k:Int) N) ()).bind (Ma (λ(_:Unit)=>none) (λv=>some v))=some y:=by
   intro y k0 hL
   have:EQ (λ_:Unit=>BU R ⟨ts,k0,en⟩ (k:Int) N) 1 ()=some (.inr y):=by
     show(BU R ⟨ts,k0,en⟩ (k:Int) N).bind _=_;rw[hL];rfl
   rw[Fj this];rfl
 rcases af0 (en:=en) hk hS with ⟨x,h1,h2,hS⟩ | ⟨h2,hS⟩
 obtain⟨k',a1,a2,rfl,⟨n,b,hX,hb,rfl⟩ | ⟨d,hX,rfl⟩⟩:=NV D7 h1 (λh=>A.l4 h1 h) hS;refine⟨k',by omega,a2,rfl,fin _ ?_⟩;unfold BU;dsimp only;rw[h2];dsimp only[Option.bind,cond];rw[ED D7 hk];cases hE:BY x.data.toList EH.data.toList <;>
 rw[hE] at hX;dsimp only[cond] at hX;dsimp only;rw[hX];dsimp only[Sum.elim];rw[hb];refine⟨k',by omega,a2,rfl,fin _ ?_⟩;unfold BU;dsimp only;rw[h2];dsimp only[Option.bind,cond];rw[ED D7 hk];cases hE:BY x.data.toList EH.data.toList <;>
 rw[hE] at hX;dsimp only[cond] at hX;dsimp only;rw[hX];rfl;obtain⟨rfl,rfl⟩:=LS hS;refine⟨k,Nat.le_refl k,hk,rfl,fin _ ?_⟩;unfold BU;dsimp only;rw[h2];rfl
def amY{k:Nat}(hk:k<=ts.length){r l}(hS:Zg en g (ts.drop k)=some (r,l)):JD ts k (EG R ⟨ts,k,en⟩) r l:=by
 unfold Zg at hS;unfold EG;rw[GZ hk,Option.bind_some];cases hx:JC Vq (ts.drop k) with
 | true =>
   rw[hx] at hS;refine BC (λh=>IY D7 _ hk h) (λt k h hk hS=>?_) (λ_ _=>rfl) hS;refine BC (λh=>A.l2 hk h) (λN k h hk hS=>?_) (λ_ _=>rfl) hS;exact Ey hk rfl hS
 | false =>
   rw[hx] at hS;obtain⟨k',a1,a2,a3,a4⟩:=A.l3 hk hS;refine⟨k',a1,a2,a3,?_⟩;dsimp only[cond];rw[a4,Option.bind_some];cases r with
   | inr d=>rfl
   | inl N =>
     dsimp only[Sum.elim]
     have hL:EQ (λx:Int×ByteArray×ByteArray×Int×Int×Int×Int×Int×List Pc×List Nd×Int×Int=>C0 R ⟨ts,k,en⟩ x.1 x.2.1 x.2.2.1 x.2.2.2.1 x.2.2.2.2.1 x.2.2.2.2.2.1 x.2.2.2.2.2.2.1 x.2.2.2.2.2.2.2.1 x.2.2.2.2.2.2.2.2.1 x.2.2.2.2.2.2.2.2.2.1 x.2.2.2.2.2.2.2.2.2.2.1 x.2.2.2.2.2.2.2.2.2.2.2) 1 (N.kind,N.name,N.unit,N.n,N.fr,N.to,N.known,N.CF.den,N.CF.ps,N.kids,N.AH,(k':Int))=some (.inr (.inl N,(k':Int))):=by
       have:C0 R ⟨ts,k,en⟩ N.kind N.name N.unit N.n N.fr N.to N.known N.CF.den N.CF.ps N.kids N.AH (k':Int)=some (.rt (.inl N,(k':Int))):=by
         unfold C0 EY;dsimp only[Option.bind,cond];rw[Rg]
       show(C0 R ⟨ts,k,en⟩ N.kind N.name N.unit N.n N.fr N.to N.known N.CF.den N.CF.ps N.kids N.AH (k':Int)).bind _=_;rw[this];rfl
     rw[Fj hL];rfl
omit D7 A in
def Rm{F:Option ((Nd⊕Dg)×Int)}{k:Nat}{r l}(h:JD ts k F r l):JD ts k (F.bind λ(Ep,Bj)=>Sum.elim (λ(Ay:Nd)=>some ((Sum.inl Ay:(Nd⊕Dg)),Bj)) (λ(CW:Dg)=>some ((Sum.inr CW:(Nd⊕Dg)),Bj)) Ep) r l:=by
 obtain⟨k',a1,a2,a3,a4⟩:=h;refine⟨k',a1,a2,a3,?_⟩;rw[a4,Option.bind_some];cases r<;>rfl
def ajf{k:Nat}(hk:k<=ts.length){r l}(hS:Ys en g li (ts.drop k)=some (r,l)):JD ts k (Ht R ⟨ts,k,en⟩) r l:=by
 refine Wo hk (λt h1 h2 hS=>?_) (λ_=>rfl) hS;have hS:=aN h2 hS;dsimp only[Sum.elim];rw[ED D7 hk];refine LR (Nat.le_succ k) ?_;refine BC (λh=>IY D7 _ h1 h) (λ_ k h hk hS=>?_) (λ_ _=>rfl) hS;refine BC (λh=>A.ex hk h) (λa k h hk hS=>?_) (λ_ _=>rfl) hS;dsimp only[Sum.elim];rw[Fl (by omega)];refine BC (λh=>IY D7 _ hk h) (λ_ k h hk hS=>?_) (λ_ _=>rfl) hS;refine BC (λh=>A.li hk h) (λns k h hk hS=>?_) (λ_ _=>rfl) hS;obtain⟨hl,hS⟩:=Om hS;dsimp only[Sum.elim];rw[Fl (by simpa using hl)]
 cases hE:CZ ((ns.length:Nat):Int) 0 with
 | true =>
   have:ns=[]:=List.eq_nil_of_length_eq_zero (by have:=Fe hE;omega);subst this;refine BC (λh=>IY D7 _ hk h) (λ_ k h hk hS=>?_) (λ_ _=>rfl) hS;exact Ey hk rfl hS
 | false =>
   refine BC (λh=>IY D7 _ hk h) (λ_ k h hk hS=>?_) (λ_ _=>rfl) hS;exact Ey hk rfl hS
def alA(t:Tk){k:Nat}(hk:k<=ts.length){r l}(hS:R0 en g t (ts.drop k)=some (r,l)):JD ts k (FV R ⟨ts,k,en⟩ t) r l:=by
 have one:∀{X:Nd} {r l},VV (FX X) (ts.drop k)=some (r,l)->JD ts k (some (.inl X,Bt (k:Int) 1)) r l:=by
   intro X r l h;obtain⟨h1,h2⟩:=acr hk h;rw[ED D7 hk];exact LR (Nat.le_succ k) (Ey h1 rfl h2)
 revert hS;unfold R0 FV;cases BY t.text.data.toList ZK.data.toList;rotate_left;exact one;cases BY t.text.data.toList T6.data.toList;rotate_left;exact one;cases BY t.text.data.toList eA.data.toList;rotate_left;intro hS;obtain⟨h1,hS⟩:=acr hk hS;dsimp only[cond];rw[ED D7 hk];refine LR (Nat.le_succ k) ?_;refine BC (λh=>Pj D7 _ h1 h) (λa k h hk hS=>?_) (λ_ _=>rfl) hS;exact Ey hk rfl hS;cases BY t.text.data.toList LY.data.toList;rotate_left;exact one;cases BY t.text.data.toList eO.data.toList;rotate_left;exact one;cases BY t.text.data.toList Rf.data.toList;rotate_left;exact one;cases BY t.text.data.toList VT.data.toList;rotate_left;exact one;cases BY t.text.data.toList K3.data.toList;rotate_left;exact λhS=>Rm (A.ca hk hS);cases BY t.text.data.toList FY.data.toList;rotate_left;exact λhS=>Rm (A.ca hk hS);cases BY t.text.data.toList Rz.data.toList;rotate_left;exact λhS=>Rm (A.ta hk hS);cases BY t.text.data.toList Uo.data.toList;rotate_left;intro hS;obtain⟨h1,hS⟩:=acr hk hS;dsimp only[cond];rw[ED D7 hk];refine LR (Nat.le_succ k) ?_;refine BC (λh=>A.ex h1 h) (λa k h hk hS=>?_) (λ_ _=>rfl) hS;refine BC (λh=>IY D7 _ hk h) (λ_ k h hk hS=>?_) (λ_ _=>rfl) hS;exact Ey hk rfl hS;exact λhS=>Ey hk rfl hS
def ajd{k:Nat}(hk:k<=ts.length){r l}(hS:Yn en g (ts.drop k)=some (r,l)):JD ts k (Hs R ⟨ts,k,en⟩) r l:=by
 refine Wo hk (λt h1 h2 hS=>?_) (λ_=>rfl) hS;revert hS;dsimp only[Sum.elim];cases CZ t.kind 3;rotate_left;intro hS;refine BC (λh=>kW D7 hk h) (λn k h hk hS=>?_) (λ_ _=>rfl) hS;refine uG hk (λWW hS=>?_) (λhS=>?_) hS;refine Ey WW (ED D7 hk) hS;exact Ey hk rfl hS;cases CZ t.kind 2;rotate_left;intro hS;have hS:=aN h2 hS;dsimp only[cond];rw[ED D7 hk];refine LR (Nat.le_succ k) ?_;refine BC (λh=>RA D7 D9 h1 h) (λa k h hk hS=>?_) (λ_ _=>rfl) hS;obtain⟨c,hc,hS⟩:=Jq hS;dsimp only[Sum.elim];rw[hc];exact Ey hk rfl hS;intro hS;obtain⟨b,hb,hS⟩:=Jq hS;dsimp only[cond];rw[hb,Option.bind_some];cases b;exact Rm (A.wd t hk hS);have hS:=aN h2 hS;dsimp only;rw[ED D7 hk];exact LR (Nat.le_succ k) (Ey h1 rfl hS)
end
def aeQ{ts:List Tk}(D7:ts.length<=1000000)(en:Int):∀q:Nat,Agr (Aj q) ts en (gP en q).1 (gP en q).2:=by
 intro q
 induction q with
 | zero=>constructor<;>intros<;>rename_i h<;>cases h
 | succ q A =>
   constructor
   case ex=>intro k hk r l h;simp only[Aj,Bd];exact Rm (A.l0 hk h)
   case l0=>intro k hk r l h;simp only[Aj,A4];exact ab3 D7 (λhk _ _ h=>A.l1 hk h) hk h
   case l1=>intro k hk r l h;simp only[Aj,A5];exact ab4 D7 (λhk _ _ h=>A.l2 hk h) hk h
   case l2=>intro k hk r l h;simp only[Aj,A6];exact amY D7 A hk h
   case l3=>intro k hk r l h;simp only[Aj,A7];exact aji D7 A hk h
   case l4=>intro k hk r l h;simp only[Aj,A8];exact ab5 D7 (λhk _ _ h=>A.l5 hk h) hk h
   case l5=>intro k hk r l h;simp only[Aj,A9];exact ab6 D7 (λhk _ _ h=>A.l6 hk h) hk h
   case l6=>intro k hk r l h;simp only[Aj,Ba];exact Rm (A.at_ hk h)
   case at_=>intro k hk r l h;simp only[Aj,Bp];exact ajd D7 A hk h
   case wd=>intro t k hk r l h;simp only[Aj,Br];exact alA D7 A t hk h
   case ca=>intro k hk r l h;simp only[Aj,Bq];exact ajf D7 A hk h
   case ta=>intro k hk r l h;simp only[Aj,Bi];exact ag8 D7 (λhk _ _ h=>A.ex hk h) hk h
   case li=>intro k hk r l h;simp only[Aj,AU];exact afQ D7 (λhk _ _ h=>A.ex hk h) hk h
end Mo
end Go.Proofs.YtpbkhogolfegfaaGreatDoor
namespace Go.Proofs.YtpbkhogolfegfaaGreatDoor
open AI Go
namespace Mo
set_option maxRecDepth 100000
section
variable (S:Int->Int->Prop) (en en':Int) (w:List Tk)
def TR(t t':Tk):Prop:=t.kind=t'.kind/\t.text=t'.text/\S t.AH t'.AH
inductive F2:List Tk->List Tk->Prop
 | nil:F2 [] []
 | cons {t t':Tk} {l l':List Tk}:TR S t t'->F2 l l'->F2 (t::l) (t'::l')
mutual
inductive NR:Nd->Nd->Prop
 | mk {k:Int} {nm u:ByteArray} {n f t kn:Int} {tb:Fn} {ks ks':List Nd} {a a':Int}:dP ks ks'->S a a'->NR ⟨k,nm,u,n,f,t,kn,tb,ks,a⟩ ⟨k,nm,u,n,f,t,kn,tb,ks',a'⟩
inductive dP:List Nd->List Nd->Prop
 | nil:dP [] []
 | cons {n n':Nd} {l l':List Nd}:NR n n'->dP l l'->dP (n::l) (n'::l')
end
def DR(d d':Dg):Prop:=d.err=d'.err/\(S d.AH d'.AH\/d=⟨72,en⟩/\d'=⟨72,en'⟩)
inductive RR{α:Type}(Q:α->α->Prop):α⊕Dg->α⊕Dg->Prop
 | l {a a':α}:Q a a'->RR Q (.inl a) (.inl a')
 | r {d d':Dg}:DR S en en' d d'->RR Q (.inr d) (.inr d')
def Ends{α:Type}(b:Bool)(r:α⊕Dg)(s:List Tk):Prop:=s=[]/\(r=.inr ⟨72,en⟩\/b=false/\∃a,r=.inl a)
def RP{α:Type}(b:Bool)(Q:α->α->Prop)(m m':Rd α):Prop:=∀⦃l l1 s s':List Tk⦄ ⦃r r':α⊕Dg⦄,F2 S l l1->m l=some (r,s)->m' (l1++w)=some (r',s') ->
 (∃s1,s'=s1++w/\F2 S s s1/\RR S en en' Q r r')\/w≠[]/\Ends en b r s
def EO{α:Type}(b:Bool)(m:Rd α):Prop:=∀⦃r:α⊕Dg⦄ ⦃s:List Tk⦄,m []=some (r,s)->Ends en b r s
end
section
variable {S:Int->Int->Prop} {en en':Int} {w:List Tk} {α β:Type} {b:Bool} {Q:α->α->Prop} {Q2:β->β->Prop}
def Ends.ZX{r:α⊕Dg}{s:List Tk}(h:Ends en true r s):Ends en b r s:=by
 refine⟨h.1,?_⟩;rcases h.2 with h | ⟨h,_⟩
 exact .inl h;cases h
def RP.ZX{m m':Rd α}(h:RP S en en' w true Q m m'):RP S en en' w b Q m m':=λ_ _ _ _ _ _ f h1 h2=>(h f h1 h2).imp id λh=>⟨h.1,h.2.ZX⟩
def EO.ZX{m:Rd α}(h:EO en true m):EO en b m:=λ_ _ h1=>(h h1).ZX
def D1{a a':α}(h:Q a a'):RP S en en' w b Q (FX a) (FX a'):=by
 intro l l1 s s' r r' f h1 h2;obtain⟨rfl,rfl⟩:=LS h1;obtain⟨rfl,rfl⟩:=LS h2;exact .inl ⟨l1,rfl,f,.l h⟩
def Jf{e p p':Int}(h:S p p'):RP S en en' w b Q (M8 e p) (M8 e p'):=by
 intro l l1 s s' r r' f h1 h2;obtain⟨rfl,rfl⟩:=Nt h1;obtain⟨rfl,rfl⟩:=Nt h2;exact .inl ⟨l1,rfl,f,.r ⟨rfl,.inl h⟩⟩
def JB{m m':Rd α}{K K':α->Rd β}(h1:RP S en en' w false Q m m')(h2:∀a a',Q a a'->RP S en en' w b Q2 (K a) (K' a'))(h3:∀a,EO en b (K a)):RP S en en' w b Q2 (Cw m K) (Cw m' K'):=by
 intro l l1 s s' r r' f e1 e2;rcases Jn e1 with ⟨a,t,e3,e4⟩ | ⟨d,e3,rfl⟩
 rcases Jn e2 with ⟨a',t',e5,e6⟩ | ⟨d',e5,rfl⟩
 rcases h1 f e3 e5 with ⟨s1,rfl,f1,q⟩ | ⟨hw,rfl,_⟩
 cases q with
 | l q=>exact h2 _ _ q f1 e4 e6
 exact .inr ⟨hw,h3 a e4⟩;rcases h1 f e3 e5 with ⟨s1,rfl,f1,q⟩ | ⟨hw,rfl,_⟩
 cases q;exact .inr ⟨hw,h3 a e4⟩;rcases Jn e2 with ⟨a',t',e5,e6⟩ | ⟨d',e5,rfl⟩
 rcases h1 f e3 e5 with ⟨s1,rfl,f1,q⟩ | ⟨hw,rfl,hq⟩
 cases q;rcases hq with hq | ⟨_,a,hq⟩
 cases hq;exact .inr ⟨hw,rfl,.inl rfl⟩;cases hq;rcases h1 f e3 e5 with ⟨s1,rfl,f1,q⟩ | ⟨hw,rfl,hq⟩
 cases q with
 | r q=>exact .inl ⟨s1,rfl,f1,.r q⟩
 rcases hq with hq | ⟨_,a,hq⟩
 cases hq;exact .inr ⟨hw,rfl,.inl rfl⟩;cases hq
def Ce{m m':Rd α}{K K':α->Rd β}(h1:RP S en en' w true Q m m')(h2:∀a a',Q a a'->RP S en en' w b Q2 (K a) (K' a')):RP S en en' w b Q2 (Cw m K) (Cw m' K'):=by
 intro l l1 s s' r r' f e1 e2
 have no:∀{a:α} {t:List Tk},m l=some (.inl a,t)->¬Ends en true (Sum.inl a:α⊕Dg) t:=by
   rintro a t _ ⟨_,h | ⟨h,_⟩⟩<;>cases h
 rcases Jn e1 with ⟨a,t,e3,e4⟩ | ⟨d,e3,rfl⟩
 rcases Jn e2 with ⟨a',t',e5,e6⟩ | ⟨d',e5,rfl⟩
 rcases h1 f e3 e5 with ⟨s1,rfl,f1,q⟩ | ⟨hw,h⟩
 cases q with
 | l q=>exact h2 _ _ q f1 e4 e6
 exact absurd h (no e3);rcases h1 f e3 e5 with ⟨s1,rfl,f1,q⟩ | ⟨hw,h⟩
 cases q;exact absurd h (no e3);rcases Jn e2 with ⟨a',t',e5,e6⟩ | ⟨d',e5,rfl⟩
 rcases h1 f e3 e5 with ⟨s1,rfl,f1,q⟩ | ⟨hw,rfl,hq⟩
 cases q;rcases hq with hq | ⟨hq,_⟩
 cases hq;exact .inr ⟨hw,rfl,.inl rfl⟩;cases hq;rcases h1 f e3 e5 with ⟨s1,rfl,f1,q⟩ | ⟨hw,rfl,hq⟩
 cases q with
 | r q=>exact .inl ⟨s1,rfl,f1,.r q⟩
 rcases hq with hq | ⟨hq,_⟩
 cases hq;exact .inr ⟨hw,rfl,.inl rfl⟩;cases hq
def OK{X:Option β}{K K':β->Rd α}(h:∀a,X=some a->RP S en en' w b Q (K a) (K' a)):RP S en en' w b Q (L5 X K) (L5 X K'):=by
 intro l l1 s s' r r' f e1 e2;obtain⟨a,ha,e1⟩:=Jq e1;obtain⟨a',ha',e2⟩:=Jq e2;rw[ha] at ha';cases ha';exact h a ha f e1 e2
def Zt{K K':Tk->Rd α}(h:∀t t',TR S t t'->RP S en en' w b Q (K t) (K' t')):RP S en en' w b Q (Vz en K) (Vz en' K'):=by
 intro l l1 s s' r r' f e1 e2;cases f with
 | nil =>
   simp only[Vz,Option.some.injEq,Prod.mk.injEq] at e1;obtain⟨rfl,rfl⟩:=e1;by_cases hw:w=[];subst hw;simp only[Vz,List.append_nil,Option.some.injEq,Prod.mk.injEq] at e2;obtain⟨rfl,rfl⟩:=e2;exact .inl ⟨[],rfl,.nil,.r ⟨rfl,.inr ⟨rfl,rfl⟩⟩⟩;exact .inr ⟨hw,rfl,.inl rfl⟩
 | cons ht f=>exact h _ _ ht (.cons ht f) e1 e2
def RY{K K':Rd α}(h:RP S en en' w b Q K K'):RP S en en' w b Q (VV K) (VV K'):=by
 intro l l1 s s' r r' f e1 e2;cases f with
 | nil=>cases e1
 | cons ht f=>exact h f e1 e2
def Wq{x:ByteArray}{A A' B B':Rd α}(h1:RP S en en' w b Q A A')(h2:RP S en en' w b Q B B')(h3:EO en b B):RP S en en' w b Q (OI x A B) (OI x A' B'):=by
 intro l l1 s s' r r' f e1 e2;cases f with
 | nil =>
   by_cases hw:w=[];subst hw;exact h2 .nil e1 e2;exact .inr ⟨hw,h3 e1⟩
 | cons ht f =>
   rename_i t t' l l';unfold OI at e1 e2
   have:JC x (t::l)=JC x (t'::l'++w):=by
     show BY t.text.data.toList _=BY t'.text.data.toList _;rw[ht.2.1]
   rw[<- this] at e2;cases hx:JC x (t::l) with
   | true=>rw[hx] at e1 e2;exact h1 f e1 e2
   | false=>rw[hx] at e1 e2;exact h2 (.cons ht f) e1 e2
def SS{n n':Nat}{m m':Rd α}(h:RP S en en' w b Q m m'):RP S en en' w b Q (O4 n m) (O4 n' m'):=by
 intro l l1 s s' r r' f e1 e2;exact h f (Om e1).2 (Om e2).2
def Cj{c:Bool}{A A' B B':Rd α}(h1:c=true->RP S en en' w b Q A A')(h2:c=false->RP S en en' w b Q B B'):RP S en en' w b Q (cond c A B) (cond c A' B'):=by
 cases c;exact h2 rfl;exact h1 rfl
def acP{K K':Nat->Rd α}(h:∀n n',RP S en en' w b Q (K n) (K' n')):RP S en en' w b Q (λs=>K (s.length+1) s) (λs=>K' (s.length+1) s):=by
 intro l l1 s s' r r' f e1 e2;exact h _ _ f e1 e2
def sD{K:Tk->Rd α}:EO en b (Vz en K):=by
 intro r s h;simp only[Vz,Option.some.injEq,Prod.mk.injEq] at h;obtain⟨rfl,rfl⟩:=h;exact⟨rfl,.inl rfl⟩
def PF{a:α}:EO en false (FX a):=by
 intro r s h;obtain⟨rfl,rfl⟩:=LS h;exact⟨rfl,.inr ⟨rfl,a,rfl⟩⟩
def LB{m:Rd α}{K:α->Rd β}(h:EO en true m):EO en b (Cw m K):=by
 intro r s e1;rcases Jn e1 with ⟨a,t,e3,e4⟩ | ⟨d,e3,rfl⟩
 obtain⟨_,h | ⟨h,_⟩⟩:=h e3<;>cases h
 obtain⟨h1,h | ⟨h,_⟩⟩:=h e3;cases h;exact⟨h1,.inl rfl⟩;cases h
def ajl{X:Option β}{K:β->Rd α}(h:∀a,EO en b (K a)):EO en b (L5 X K):=by
 intro r s e1;obtain⟨a,_,e1⟩:=Jq e1;exact h a e1
def oS{x:ByteArray}{A B:Rd α}(h:EO en b B):EO en b (OI x A B):=λ_ _ e1=>h e1
def aaR{n:Nat}{m:Rd α}(h:EO en b m):EO en b (O4 n m):=λ_ _ e1=>h (Om e1).2
end
end Mo
end Go.Proofs.YtpbkhogolfegfaaGreatDoor
namespace Go.Proofs.YtpbkhogolfegfaaGreatDoor
open AI Go
namespace Mo
set_option maxRecDepth 100000
section
variable {S:Int->Int->Prop} {en en':Int} {w:List Tk} {α β:Type} {b:Bool} {Q:α->α->Prop}
def uX{f:Tk->Option Bool}(hf:∀k t a a',f ⟨k,t,a⟩=f ⟨k,t,a'⟩){t t':Tk}(h:TR S t t'):f t=f t':=by
 obtain⟨k,x,a⟩:=t;obtain⟨k',x',a'⟩:=t';obtain⟨h1,h2,_⟩:=h;dsimp only at h1 h2;subst h1 h2;exact hf _ _ _ _
def agw{X X':Option β}{K K':β->Rd α}(h:∀a a',X=some a->X'=some a'->RP S en en' w b Q (K a) (K' a')):RP S en en' w b Q (L5 X K) (L5 X' K'):=by
 intro l l1 s s' r r' f e1 e2;obtain⟨a,ha,e1⟩:=Jq e1;obtain⟨a',ha',e2⟩:=Jq e2;exact h a a' ha ha' f e1 e2
def NW{f:Tk->Option Bool}(hf:∀k t a a',f ⟨k,t,a⟩=f ⟨k,t,a'⟩):RP S en en' w b (TR S) (LX en f) (LX en' f):=by
 refine Zt λt t' ht=>?_;rw[uX hf ht];exact OK λc _=>Cj (λ_=>RY (D1 ht)) λ_=>Jf ht.2.2
def ae7{f:Tk->Option Bool}:EO en b (LX en f):=sD
def GY(x:ByteArray):RP S en en' w b (TR S) (JT en x) (JT en' x):=NW λ_ _ _ _=>rfl
def Q6{x:ByteArray}:EO en b (JT en x):=sD
def uL:RP S en en' w b (TR S) (bW en) (bW en'):=NW λ_ _ _ _=>rfl
def agA:RP S en en' w b (TR S) (mR en) (mR en'):=NW λ_ _ _ _=>rfl
def agy:RP S en en' w b (TR S) (cJ en) (cJ en'):=NW λ_ _ _ _=>rfl
def QA(S:Int->Int->Prop)(p p':Int×Int):Prop:=p.1=p'.1/\S p.2 p'.2
def cO:RP S en en' w b (QA S) (NL en) (NL en'):=by
 refine Ce (NW λ_ _ _ _=>rfl) λt t' h=>?_;rw[h.2.1];exact OK λn _=>D1 ⟨rfl,h.2.2⟩
def QI(least:Int):RP S en en' w b (QA S) (Mr en least) (Mr en' least):=by
 refine Ce cO λp p' h=>?_;rw[h.1];exact Cj (λ_=>Jf h.2) λ_=>Cj (λ_=>Jf h.2) λ_=>D1 h
def XU(least:Int):RP S en en' w b (·=·) (Sy en least) (Sy en' least):=by
 refine Ce (NW λ_ _ _ _=>rfl) λt t' h=>?_;rw[h.2.1];exact OK λn _=>Cj (λ_=>Cj (λ_=>Jf h.2.2) λ_=>D1 rfl) λ_=>Jf h.2.2
def Gq{kind n:Int}{name unit:ByteArray}{ks ks':List Nd}{p p':Int}(h:dP S ks ks')(hp:S p p'):NR S (Ff kind name unit n ks p) (Ff kind name unit n ks' p'):=.mk h hp
def Vr{l l' m m':List Nd}(h:dP S l l')(h2:dP S m m'):dP S (l++m) (l'++m'):=by
 induction l generalizing l' with
 | nil=>cases h;exact h2
 | cons x l ih=>cases h with | cons a t=>exact .cons a (ih t)
def agv:RP S en en' w b (NR S) (WU en) (WU en'):=by
 refine Ce (GY _) λt t' ht=>Ce (QI _) λn n' hn=>Ce (GY _) λ_ _ _=>Ce (XU _) λf f' hf=>?_;subst hf;refine Wq (Ce (XU _) λu u' hu=>Ce (GY _) λ_ _ _=>Ce (XU _) λk k' hk=>?_) (Ce (GY _) λ_ _ _=>Ce (XU _) λk k' hk=>?_) (LB Q6);subst hu hk;rw[hn.1];exact D1 (.mk .nil ht.2.2);subst hk;rw[hn.1];exact D1 (.mk .nil ht.2.2)
def uI:RP S en en' w b (NR S) (Sz en) (Sz en'):=by
 refine Zt λt t' ht=>RY (Ce uL λm m' hm=>Ce (GY _) λ_ _ _=>Ce agA λu u' hu=>?_);rw[ht.2.1,hm.2.1,hu.2.1];refine Cj (λ_=>Ce agy λr r' hr=>?_) λ_=>Ce (GY _) λ_ _ _=>D1 (Gq .nil ht.2.2);rw[hr.2.1];exact OK λn _=>Ce (GY _) λ_ _ _=>D1 (Gq .nil ht.2.2)
def TO:RP S en en' w b (NR S) (GA en) (GA en'):=by
 refine Ce (QI _) λp p' h=>?_;rw[h.1];exact D1 (Gq .nil h.2)
def sC{read:Rd Nd}(q:Nat)(l:List Nd):EO en false (RU read q l):=by
 cases q with
 | zero=>intro r s h;cases h
 | succ q=>exact oS PF
def agx{read lR:Rd Nd}(h:RP S en en' w false (NR S) read lR):∀(q q':Nat) (l l':List Nd),dP S l l'->RP S en en' w false (dP S) (RU read q l) (RU lR q' l'):=by
 intro q
 induction q with
 | zero=>intro q' l l' _ _ _ _ _ _ _ _ e1;cases e1
 | succ q ih =>
   intro q' l l' hl;cases q' with
   | zero=>intro _ _ _ _ _ _ _ _ e2;cases e2
   | succ q'=>exact Wq (JB h (λn n' hn=>SS (ih q' _ _ (Vr hl (.cons hn .nil)))) λn=>aaR (sC q _)) (D1 hl) PF
def ae6{read:Rd Nd}(h:EO en true read):EO en b (SG read):=LB h
def uK{read lR:Rd Nd}(h:RP S en en' w false (NR S) read lR):RP S en en' w false (dP S) (SG read) (SG lR) :=
 JB h (λn n' hn=>acP λq q'=>agx h q q' _ _ (.cons hn .nil)) λn _ _ h=>sC 1 [n] h
def Zu:RP S en en' w b (QA S) (OR en) (OR en'):=by
 refine Ce (NW λ_ _ _ _=>rfl) λt t' h=>?_;have:Ct t=Ct t':=by unfold Ct;rw[h.2.1]
 rw[this,h.1];exact OK λc _=>Cj (λ_=>Cj (λ_=>D1 ⟨rfl,h.2.2⟩) λ_=>Jf h.2.2) λ_=>D1 ⟨rfl,h.2.2⟩
def aaS:EO en b (OR en):=LB ae7
def agz:RP S en en' w b (·=·) (Xd en) (Xd en'):=by
 refine Ce (NW λ_ _ _ _=>rfl) λt t' h=>?_;rw[h.2.1];exact Cj (λ_=>D1 rfl) λ_=>D1 rfl
def cQ(Az from_ a:Int):RP S en en' w b (·=·) (Ph en Az from_ a) (Ph en' Az from_ a):=by
 refine Ce agz λs s' hs=>Ce (QI _) λm m' hm=>Ce (GY _) λ_ _ _=>Ce (QI _) λd d' hd=>?_;subst hs;rw[hm.1,hd.1];exact OK λg _=>OK λz _=>Cj (λ_=>Jf hd.2) λ_=>D1 rfl
def cP(Az from_:Int):RP S en en' w b (·=·) (NS en Az from_) (NS en' Az from_):=by
 refine Ce (GY _) λ_ _ _=>Wq (Ce Zu λa a' ha=>?_) (Ce Zu λa a' ha=>?_) (LB aaS);rw[ha.1];exact cQ _ _ _;rw[ha.1];exact cQ _ _ _
def acR(before:List Pt)(Az:Int):RP S en en' w b (·=·) (SK en before Az) (SK en' before Az):=by
 refine Ce Zu λv v' hv=>?_;rw[hv.1];exact Cj (λ_=>Cj (λ_=>cP _ _) λ_=>Jf hv.2) λ_=>OK λq _=>Cj (λ_=>Jf hv.2) λ_=>Cj (λ_=>Jf hv.2) λ_=>cP _ _
def xY:∀(q q':Nat) (l:List Pt) (c:Int),RP S en en' w false (·=·) (MA en q l c) (MA en' q' l c):=by
 intro q
 induction q with
 | zero=>intro q' l c _ _ _ _ _ _ _ e1;cases e1
 | succ q ih =>
   intro q' l c;cases q' with
   | zero=>intro _ _ _ _ _ _ _ _ e2;cases e2
   | succ q' =>
     refine Ce (acR _ _) λp p' hp=>?_;subst hp;exact SS (Wq (ih q' _ _) (D1 rfl) PF)
def xZ(c:Int){p p':Int}(hp:S p p'):∀(ps:List Pt) (acc:List Pc),RP S en en' w b (·=·) (MG c p ps acc) (MG c p' ps acc):=by
 intro ps
 induction ps with
 | nil=>intro acc;exact D1 rfl
 | cons x ps ih=>intro acc;exact OK λz _=>Cj (λ_=>Jf hp) λ_=>Cj (λ_=>Jf hp) λ_=>SS (ih _)
inductive ER(S:Int->Int->Prop):Ek->Ek->Prop
 | ex:ER S .ex .ex
 | lv (i:Nat):ER S (.lv i) (.lv i)
 | at_:ER S .at_ .at_
 | wd {t t':Tk}:TR S t t'->ER S (.wd t) (.wd t')
 | ca:ER S .ca .ca
 | ta:ER S .ta .ta
structure Rel(S:Int->Int->Prop)(en en':Int)(w:List Tk)(g g':Ek->Rd Nd)(li li':Rd (List Nd)):Prop where
 rg:∀{e e'},ER S e e'->RP S en en' w false (NR S) (g e) (g' e')
 rli:RP S en en' w false (dP S) li li'
 eg:∀e,(∀t,e≠.wd t)->EO en true (g e)
 eli:EO en true li
def aiF{yes anQ:ByteArray->Rd α}{no no':Rd α}(h1:∀x,RP S en en' w b Q (yes x) (anQ x))(h2:RP S en en' w b Q no no')(h3:EO en b no):∀ops:List ByteArray,RP S en en' w b Q (n5 yes no ops) (n5 anQ no' ops)/\EO en b (n5 yes no ops):=by
 intro ops
 induction ops with
 | nil=>exact⟨h2,h3⟩
 | cons x ops ih=>exact⟨Wq (h1 x) ih.1 ih.2,oS ih.2⟩
def ah6{yes:ByteArray->Rd α}{no:Rd α}(h3:EO en b no):∀ops:List ByteArray,EO en b (n5 yes no ops):=by
 intro ops
 induction ops with
 | nil=>exact h3
 | cons x ops ih=>exact oS ih
def vY{op:ByteArray}{l l' r r' x x':Nd}(hl:NR S l l')(hr:NR S r r')(h1:Bb op l r=some x)(h2:Bb op l' r'=some x'):NR S x x':=by
 have ha:S l.AH l'.AH:=by cases hl with | mk _ h=>exact h
 unfold Bb at h1 h2;revert h1 h2;cases BY op.data.toList IS.data.toList
 . cases BY op.data.toList FG.data.toList
   intro h1 h2;cases h1;cases h2;exact .mk (.cons hl (.cons hr .nil)) ha
   . cases hq:J5 op IS JL 1 with
     | none=>intro h1;cases h1
     | some y =>
       intro h1 h2;cases h1;cases h2;exact .mk (.cons hr (.cons hl .nil)) ha
 . cases hq:J5 op IS JL 1 with
   | none=>intro h1;cases h1
   | some y =>
     intro h1 h2;cases h1;cases h2;exact .mk (.cons hr (.cons hl .nil)) ha
def lY{sub adq:Rd Nd}(h:RP S en en' w false (NR S) sub adq)(op:ByteArray){l l':Nd}(hl:NR S l l'):RP S en en' w false (NR S) (Rr en sub op l) (Rr en' adq op l') :=
 JB (Cj (λ_=>TO) λ_=>h) (λr r' hr=>agw λx x' h1 h2=>D1 (vY hl hr h1 h2)) λr=>ajl λx=>PF
def jW{ops:List ByteArray}{sub:Rd Nd}(q:Nat)(l:Nd):EO en false (LA en ops sub q l):=by
 cases q with
 | zero=>intro r s h;cases h
 | succ q=>exact ah6 PF ops
def acM(ops:List ByteArray){sub adq:Rd Nd}(h:RP S en en' w false (NR S) sub adq):∀(q q':Nat) (l l':Nd),NR S l l'->RP S en en' w false (NR S) (LA en ops sub q l) (LA en' ops adq q' l'):=by
 intro q
 induction q with
 | zero=>intro q' l l' _ _ _ _ _ _ _ _ e1;cases e1
 | succ q ih =>
   intro q' l l' hl;cases q' with
   | zero=>intro _ _ _ _ _ _ _ _ e2;cases e2
   | succ q'=>exact(aiF (λx=>JB (lY h x hl) (λy y' hy=>ih q' _ _ hy) λy=>jW q y) (D1 hl) PF ops).1
section
variable {g g':Ek->Rd Nd} {li li':Rd (List Nd)} (A:Rel S en en' w g g' li li')
include A
def acO(i:Nat):RP S en en' w false (NR S) (Ol en g i) (Ol en' g' i) :=
 JB (A.rg (.lv _)) (λN N' h=>acP λq q'=>acM _ (A.rg (.lv _)) q q' _ _ h) λN _ _ h=>jW 1 N h
def agu:RP S en en' w false (NR S) (jQ en g) (jQ en' g') :=
 JB (A.rg (.lv _)) (λN N' h=>(aiF (λx=>lY (A.rg (.lv _)) x h) (D1 h) PF _).1) λN=>ah6 PF _
def ak5:RP S en en' w false (NR S) (Zg en g) (Zg en' g'):=by
 intro l l1 s s' r r' f e1 e2;cases f with
 | nil =>
   by_cases hw:w=[];subst hw;exact A.rg (.lv 3) .nil e1 e2;exact .inr ⟨hw,((A.eg (.lv 3) (by intro t h;cases h)) e1).ZX⟩
 | cons ht f =>
   rename_i t t' l l';unfold Zg at e1 e2
   have:JC Vq (t::l)=JC Vq (t'::l'++w):=by
     show BY t.text.data.toList _=BY t'.text.data.toList _;rw[ht.2.1]
   rw[<- this] at e2;cases hx:JC Vq (t::l) with
   | true =>
     rw[hx] at e1 e2;exact Ce (GY _) (λt t' ht=>JB (A.rg (.lv 2)) (λk k' hk=>D1 (Gq (.cons hk .nil) ht.2.2)) λk=>PF) (.cons ht f) e1 e2
   | false=>rw[hx] at e1 e2;exact A.rg (.lv 3) (.cons ht f) e1 e2
def agt:RP S en en' w false (NR S) (Ys en g li) (Ys en' g' li'):=by
 refine Zt λt t' ht=>RY (Ce (GY _) λ_ _ _=>JB (A.rg .ex) (λa a' ha=>Ce (GY _) λ_ _ _=>JB A.rli (λl l' hl=>SS (Ce (GY _) λ_ _ _=>?_)) λ_=>aaR (LB Q6)) λ_=>LB Q6);rw[ht.2.1];exact D1 (Gq (.cons ha hl) ht.2.2)
def acS:RP S en en' w false (NR S) (ZE en g) (ZE en' g'):=by
 refine Ce (GY _) λt t' ht=>Ce (GY _) λ_ _ _=>JB (A.rg .ex) (λa a' ha=>Ce (GY _) λ_ _ _=>JB (acP λq q'=>xY q q' _ _) (λl l' hl=>?_) λ_=>LB Q6) λ_=>LB Q6;subst hl;refine Ce (GY _) λe e' he=>SS (Ce (xZ _ he.2.2 _ _) λr r' hr=>?_);subst hr;exact D1 (.mk (.cons ha .nil) ht.2.2)
def agB{t t':Tk}(ht:TR S t t'):RP S en en' w false (NR S) (R0 en g t) (R0 en' g' t'):=by
 unfold R0;rw[ht.2.1]
 have hd:RP S en en' w false (NR S) (U7 t) (U7 t'):=by
   unfold U7;rw[ht.2.1];exact RY (D1 (Gq .nil ht.2.2))
 refine Cj (λ_=>RY (D1 (Gq .nil ht.2.2))) λ_=>Cj (λ_=>RY (D1 (Gq .nil ht.2.2))) λ_=>Cj (λ_=>RY (Ce (QI _) λp p' hp=>?_)) λ_ =>
   Cj (λ_=>hd) λ_=>Cj (λ_=>hd) λ_=>Cj (λ_=>hd) λ_=>Cj (λ_=>hd) λ_=>Cj (λ_=>A.rg .ca) λ_=>Cj (λ_=>A.rg .ca) λ_=>Cj (λ_=>A.rg .ta) λ_ =>
   Cj (λ_=>RY (JB (A.rg .ex) (λa a' ha=>Ce (GY _) λ_ _ _=>D1 ha) λ_=>LB Q6)) λ_=>Jf ht.2.2
 rw[hp.1];exact D1 (Gq .nil ht.2.2)
def ags:RP S en en' w false (NR S) (Yn en g) (Yn en' g'):=by
 refine Zt λt t' ht=>?_;have h6:Cz t=Cz t':=uX (λ_ _ _ _=>rfl) ht;rw[ht.1,h6,ht.2.1];refine Cj (λ_=>Ce cO λn n' hn=>?_) λ_=>Cj (λ_=>RY (Ce (NW λ_ _ _ _=>rfl) λa a' ha=>?_)) λ_=>OK λc _=>Cj (λ_=>RY (D1 (Gq .nil ht.2.2))) λ_=>A.rg (.wd ht);rw[hn.1];exact Wq (D1 (Gq .nil hn.2)) (D1 (Gq .nil hn.2)) PF;have:Ct a=Ct a':=by unfold Ct;rw[ha.2.1]
 rw[this];exact OK λc _=>D1 (Gq .nil ht.2.2)
end
def uE:∀q q':Nat,Rel S en en' w (gP en q).1 (gP en' q').1 (gP en q).2 (gP en' q').2:=by
 intro q
 induction q with
 | zero =>
   intro q';constructor
   case rg=>intro _ _ _ _ _ _ _ _ _ _ e1;cases e1
   case rli=>intro _ _ _ _ _ _ _ e1;cases e1
   case eg=>intro _ _ _ _ e1;cases e1
   case eli=>intro _ _ e1;cases e1
 | succ q ih =>
   intro q'
   have eg:∀e,(∀t,e≠.wd t)->EO en true ((gP en (q+1)).1 e):=by
     have A:=ih 0;intro e he;show EO en true (Pm en (gP en q).1 (gP en q).2 e);unfold Pm;split;exact A.eg _ (by intro t h;cases h);intro r s h;exact A.eg (.lv 3) (by intro t h;cases h) h;exact LB (A.eg _ (by intro t h;cases h));exact A.eg _ (by intro t h;cases h);exact LB (A.eg _ (by intro t h;cases h));exact sD;rename_i t;exact absurd rfl (he t);exact sD;exact LB Q6
   have eli:EO en true (gP en (q+1)).2:=ae6 ((ih 0).eg .ex (by intro t h;cases h));cases q' with
   | zero =>
     constructor
     case rg=>intro _ _ _ _ _ _ _ _ _ _ _ e2;cases e2
     case rli=>intro _ _ _ _ _ _ _ _ e2;cases e2
     case eg=>exact eg
     case eli=>exact eli
   | succ q' =>
     have A:=ih q';refine⟨λ{e e'} he=>?_,uK (A.rg .ex),eg,eli⟩;show RP S en en' w false (NR S) (Pm en (gP en q).1 (gP en q).2 e) (Pm en' (gP en' q').1 (gP en' q').2 e');cases he with
     | ex=>exact A.rg (.lv 0)
     | at_=>exact ags A
     | wd ht=>exact agB A ht
     | ca=>exact agt A
     | ta=>exact acS A
     | lv i =>
       unfold Pm;split;rename_i h;cases h;exact ak5 A;exact agu A;exact A.rg .at_;rename_i h;cases h;exact acO A _
       all_goals (rename_i h;cases h)
end
end Mo
end Go.Proofs.YtpbkhogolfegfaaGreatDoor
namespace Go.Proofs.YtpbkhogolfegfaaGreatDoor
open AI Go
namespace Mo
set_option maxRecDepth 100000
def vK{x:Int}(h:-9223372036854775808<=x/\x<=9223372036854775807):IntKind.i64.wrap x=x:=by
 unfold IntKind.wrap;simp[IntKind.bits,IntKind.signed];omega
def YA{a b:Int}(ha:0<=a)(hb:0 < b)(h:a<=9223372036854775807):Tu a b=some (a / b):=by
 unfold Tu zM;rw[if_neg (by omega),Int.tdiv_eq_ediv_of_nonneg ha,vK];exact⟨by have:=Int.ediv_nonneg ha (Int.le_of_lt hb);omega,by have:=Int.ediv_le_self b ha;omega⟩
structure Gd(t:Tk):Prop where
 num:t.kind=3->∃z,Sn t.text=some (z,())/\0<=z/\z<=999999999999
 r6:t.kind=3\/t.kind=4->∃z,Ct t=some z/\0<=z/\z<=999999999999
 date:t.kind=5->∃d e,FA t.text=some (d,e)/\(e=0->0<=d/\d<=36524)
 len:t.text.data.toList.length<=6000
def Gl(l:List Tk):Prop:=∀t∈l,Gd t
section
variable {α β:Type} {n:Nat} {st:Bool} {P:α->Prop} {P2:β->Prop}
def UT(n:Nat)(st:Bool)(P:α->Prop)(m:Rd α):Prop:=∀⦃l:List Tk⦄,Gl l->l.length<=n->∃r s,m l=some (r,s)/\(∃k,s=l.drop k)/\∀a,r=.inl a->P a/\(st=true->s.length < l.length)
def Gl.drop{l:List Tk}(h:Gl l)(k:Nat):Gl (l.drop k):=λt ht=>h t (List.mem_of_mem_drop ht)
def YD{l:List Tk}{k j:Nat}:(l.drop k).drop j=l.drop (k+j):=by rw[List.drop_drop]
def BA{m:Rd α}{K:α->Rd β}(h1:UT n true P m)(h2:∀a,P a->1<=n->UT (n - 1) false P2 (K a)):UT n st P2 (Cw m K):=by
 intro l hg hl;obtain⟨r,s,e,⟨k,rfl⟩,hr⟩:=h1 hg hl;cases r with
 | inr d=>exact⟨.inr d,_,by unfold Cw;rw[e],⟨k,rfl⟩,λa h=>by cases h⟩
 | inl a =>
   obtain⟨pa,hs⟩:=hr a rfl;have hs:=hs rfl;obtain⟨r2,s2,e2,⟨j,rfl⟩,bO⟩:=h2 a pa (by omega) (hg.drop k) (by omega);refine⟨r2,_,by unfold Cw;rw[e];exact e2,⟨k+j,YD⟩,λb hb=>⟨(bO b hb).1,λ_=>?_⟩⟩;simp only[List.length_drop] at hs ⊢;omega
def ahh{m:Rd α}{K:α->Rd β}(h1:UT n false P m)(h2:∀a,P a->UT n st P2 (K a)):UT n st P2 (Cw m K):=by
 intro l hg hl;obtain⟨r,s,e,⟨k,rfl⟩,hr⟩:=h1 hg hl;cases r with
 | inr d=>exact⟨.inr d,_,by unfold Cw;rw[e],⟨k,rfl⟩,λa h=>by cases h⟩
 | inl a =>
   obtain⟨pa,_⟩:=hr a rfl;obtain⟨r2,s2,e2,⟨j,rfl⟩,bO⟩:=h2 a pa (hg.drop k) (by rw[List.length_drop];omega);refine⟨r2,_,by unfold Cw;rw[e];exact e2,⟨k+j,YD⟩,λb hb=>⟨(bO b hb).1,λh=>?_⟩⟩;have:=(bO b hb).2 h;simp only[List.length_drop] at this ⊢;omega
def UT.ZX{m:Rd α}(h:UT n st P m):UT n false P m:=λl hg hl=>by
 obtain⟨r,s,e,h1,h2⟩:=h hg hl;exact⟨r,s,e,h1,λa ha=>⟨(h2 a ha).1,λh=>by cases h⟩⟩
def UT.imp{Q:α->Prop}{m:Rd α}(h:UT n st P m)(f:∀a,P a->Q a):UT n st Q m:=λl hg hl=>by
 obtain⟨r,s,e,h1,h2⟩:=h hg hl;exact⟨r,s,e,h1,λa ha=>⟨f a (h2 a ha).1,(h2 a ha).2⟩⟩
def UT.le{n':Nat}{m:Rd α}(h:UT n st P m)(hn:n'<=n):UT n' st P m:=λ_ hg hl=>h hg (by omega)
def D4{a:α}(h:P a):UT n false P (FX a):=λl _ _=>⟨.inl a,l,rfl,⟨0,rfl⟩,λb hb=>by cases hb;exact⟨h,λh=>by cases h⟩⟩
def Ji{e p:Int}:UT n st P (M8 e p):=λl _ _=>⟨_,l,rfl,⟨0,rfl⟩,λb hb=>by cases hb⟩
def OO{X:Option β}{K:β->Rd α}(h:∃b,X=some b/\UT n st P (K b)):UT n st P (L5 X K):=by
 obtain⟨b,rfl,h⟩:=h;exact h
def ZQ{en:Int}{K:Tk->Rd α}(h:∀t,Gd t->∀s,Gl (t::s)->(t::s).length<=n->∃r s',K t (t::s)=some (r,s')/\(∃k,s'=(t::s).drop k)/\∀a,r=.inl a->P a/\(st=true->s'.length < (t::s).length)):UT n st P (Vz en K):=by
 intro l hg hl;cases l with
 | nil=>exact⟨_,[],rfl,⟨0,rfl⟩,λa h=>by cases h⟩
 | cons t s=>exact h t (hg t (List.mem_cons_self ..)) s hg hl
def SY{K:Rd α}(h:UT (n - 1) false P K){t:Tk}{s:List Tk}(hg:Gl (t::s))(hl:(t::s).length<=n) :
   ∃r s',VV K (t::s)=some (r,s')/\(∃k,s'=(t::s).drop k)/\∀a,r=.inl a->P a/\(st=true->s'.length < (t::s).length):=by
 have hl':s.length+1<=n:=hl;obtain⟨r,s2,e,⟨k,rfl⟩,hr⟩:=h (l:=s) (λt ht=>hg t (List.mem_cons_of_mem _ ht)) (by omega);refine⟨r,_,e,⟨k+1,rfl⟩,λa ha=>⟨(hr a ha).1,λ_=>?_⟩⟩;rw[List.length_drop,List.length_cons];omega
def Wx{x:ByteArray}{A B:Rd α}(h1:1<=n->UT (n - 1) false P A)(h2:UT n st P B):UT n st P (OI x A B):=by
 intro l hg hl;unfold OI;cases hx:JC x l with
 | false=>exact h2 hg hl
 | true =>
   cases l with
   | nil=>cases hx
   | cons t s=>exact SY (h1 (by simp only[List.length_cons] at hl;omega)) hg hl
def Ww{c:Nat}{m:Rd α}(hc:c<=100000000)(h:UT n st P m):UT n st P (O4 c m):=by
 intro l hg hl;unfold O4;rw[Fl hc];exact h hg hl
def Ga{c:Bool}{A B:Rd α}(h1:c=true->UT n st P A)(h2:c=false->UT n st P B):UT n st P (cond c A B):=by
 cases c;exact h2 rfl;exact h1 rfl
end
section
variable {n:Nat} {en:Int} {st:Bool}
def NX{f:Tk->Option Bool}(hf:∀t,∃b,f t=some b):UT n st (λt=>Gd t/\f t=some true) (LX en f):=by
 refine ZQ λt hg s bM hl=>?_;obtain⟨b,hb⟩:=hf t;unfold L5;rw[hb];cases b with
 | true=>exact SY (D4 ⟨hg,hb⟩) bM hl
 | false=>exact Ji bM hl
def Ed{c:Bool}{α:Type}{x y:Option α}(h1:∃z,x=some z)(h2:∃z,y=some z):∃z,cond c x y=some z:=by cases c;exact h2;exact h1
def Fi(x:ByteArray):UT n st (λ_=>True) (JT en x):=(NX λt=>Ed ⟨_,rfl⟩ ⟨_,rfl⟩).imp λ_ _=>trivial
def W1(t:Tk):∃b,Cz t=some b:=by
 unfold Cz;rw[abY];exact Ed (Ed ⟨_,rfl⟩ ⟨_,rfl⟩) ⟨_,rfl⟩
def SQ(x:ByteArray):∃b,EB x=some b:=Ed ⟨_,rfl⟩ (Ed ⟨_,rfl⟩ (Ed ⟨_,rfl⟩ (Ed ⟨_,rfl⟩ ⟨_,rfl⟩)))
def X3:UT n st (λt=>Gd t/\Cz t=some true) (bW en):=NX W1
def u9:UT n st (λt=>Gd t/\Fh t=some true) (mR en):=NX λt=>Ed ⟨_,rfl⟩ (Ed ⟨_,rfl⟩ (Ed ⟨_,rfl⟩ (Ed ⟨_,rfl⟩ ⟨_,rfl⟩)))
def u7:UT n st (λt=>Gd t/\BT t=some true) (cJ en):=NX λt=>by
 unfold BT;obtain⟨b,hb⟩:=SQ t.text;rw[hb];exact Ed ⟨_,rfl⟩ ⟨_,rfl⟩
def Rb{a b:Int}{x:Bool}(h:cond (CZ a b) (some true) (some false)=some x):x=CZ a b:=by
 revert h;cases CZ a b<;>exact λh=>(Option.some.inj h).symm
def dC:UT n st (λp:Int×Int=>0<=p.1/\p.1<=999999999999) (NL en):=by
 refine BA (NX λt=>Ed ⟨_,rfl⟩ ⟨_,rfl⟩) λt ht _=>?_;obtain⟨z,h1,h2⟩:=ht.1.num (Fe (Rb ht.2).symm);exact OO ⟨_,h1,D4 h2⟩
def OP(least:Int):UT n st (λp:Int×Int=>least<=p.1/\p.1<=1000000) (Mr en least) :=
 BA dC λp hp _=>Ga (λ_=>Ji) λh1=>Ga (λ_=>Ji) λh2=>D4 ⟨Lc h1,Lc h2⟩
def X2(least:Int):UT n st (λd:Int=>least<=d/\0<=d/\d<=36524) (Sy en least):=by
 refine BA (NX λt=>Ed ⟨_,rfl⟩ ⟨_,rfl⟩) λt ht _=>?_;obtain⟨d,e,h1,h2⟩:=ht.1.date (Fe (Rb ht.2).symm);exact OO ⟨_,h1,Ga (λh=>Ga (λ_=>Ji) λh3=>D4 ⟨Lc h3,h2 (Fe h)⟩) λ_=>Ji⟩
def u5:UT n st (λ_=>True) (WU en) :=
 BA (Fi _) λ_ _ _=>BA (OP _) λ_ _ _=>BA (Fi _) λ_ _ _=>BA (X2 _) λ_ _ _ =>
   Wx (λ_=>BA (X2 _) λ_ _ _=>BA (Fi _) λ_ _ _=>BA (X2 _) λ_ _ _=>D4 trivial) (BA (Fi _) λ_ _ _=>BA (X2 _) λ_ _ _=>D4 trivial)
def u4:UT n st (λ_=>True) (Sz en):=by
 refine ZQ λt hg s bM hl=>SY ((BA X3 λm _ _=>BA (Fi _) λ_ _ _=>BA u9 λu _ _=>Ga (λ_=>BA u7 λr _ _=>?_) λ_=>BA (Fi _) λ_ _ _=>D4 trivial)) bM hl;obtain⟨b,hb⟩:=SQ r.text;exact OO ⟨b,hb,BA (Fi _) λ_ _ _=>D4 trivial⟩
def TQ:UT n st (λ_=>True) (GA en):=BA (OP _) λ_ _ _=>D4 trivial
def ZR:UT n st (λp:Int×Int=>0<=p.1/\p.1<=999999999999) (OR en):=by
 refine BA (NX λt=>Ed ⟨_,rfl⟩ (Ed ⟨_,rfl⟩ ⟨_,rfl⟩)) λt ht _=>?_
 have hk:t.kind=3\/t.kind=4:=by
   have h:=ht.2;unfold Dk at h;cases h4:CZ t.kind 4 with
   | true=>exact .inr (Fe h4)
   | false =>
     rw[h4] at h;exact .inl (Fe (Rb h).symm)
 obtain⟨z,h1,h2⟩:=ht.1.r6 hk;exact OO ⟨_,h1,Ga (λ_=>Ga (λ_=>D4 h2) λ_=>Ji) λ_=>D4 h2⟩
def ahl:UT n st (λs:Int=>s=1\/s=-1) (Xd en) :=
 BA (NX λt=>Ed ⟨_,rfl⟩ (Ed ⟨_,rfl⟩ ⟨_,rfl⟩)) λt _ _=>Ga (λ_=>D4 (.inr rfl)) λ_=>D4 (.inl rfl)
def PcP(x:Pt×Int):Prop:=1<=x.2/\x.2<=1000000/\1<=x.1.den/\x.1.den<=1000000/\-1000000<=x.1.num/\x.1.num<=1000000
def dE{Az:Int}(hc:1<=Az/\Az<=1000000)(from_ a:Int):UT n st PcP (Ph en Az from_ a):=by
 refine BA ahl λs hs _=>BA (OP _) λm hm _=>BA (Fi _) λ_ _ _=>BA (OP _) λd hd _=>?_;obtain⟨g,h1,h2,⟨c1,h3⟩,⟨c2,h4⟩⟩:=aba hc.1 (show(0:Int)<=d.1 by omega);refine OO ⟨g,h1,OO ⟨_,YA (by omega) (by omega) (by omega),Ga (λ_=>Ji) λh5=>D4 ?_⟩⟩;have hq:Az / g=c1:=by rw[h3,Int.mul_ediv_cancel_left _ (by omega)]
 have R6:1<=c1:=by
   by_cases h:1<=c1;exact h;have:=Int.mul_nonpos_of_nonneg_of_nonpos (show 0<=g by omega) (show c1<=0 by omega);omega
 have iQ:c1<=1000000:=by
   have:=Int.mul_le_mul_of_nonneg_right h2 (show 0<=c1 by omega);omega
 have hw:BQ (Az / g) d.1=c1*d.1:=by
   rw[hq];have a1:=Int.mul_le_mul iQ hd.2 (by omega) (by omega);have a2:=Int.mul_nonneg (show 0<=c1 by omega) (show 0<=d.1 by omega);exact IX (by omega)
 have h6:=Lc h5
 have a1:1<=c1*d.1:=by
   have:=Int.mul_le_mul_of_nonneg_right R6 (show 0<=d.1 by omega);omega
 refine⟨by rw[hw];exact a1,h6,hd.1,hd.2,?_⟩;dsimp only;rcases hs with rfl | rfl
 rw[IX (by omega)];omega;rw[IX (by omega)];omega
def dD{Az:Int}(hc:1<=Az/\Az<=1000000)(from_:Int):UT n st PcP (NS en Az from_) :=
 BA (Fi _) λ_ _ _=>Wx (λ_=>BA ZR λ_ _ _=>dE hc _ _) (BA ZR λ_ _ _=>dE hc _ _)
def adT(before:List Pt){Az:Int}(hc:1<=Az/\Az<=1000000):UT n st (λx=>PcP x/\before.length<=63) (SK en before Az):=by
 refine BA ZR λv hv _=>Ga (λh=>Ga (λ_=>(dD hc _).imp λx hx=>⟨hx,?_⟩) λ_=>Ji) λh=>?_;have:=Fe h;omega;have hb:before.length≠0:=λe=>U9 h (by rw[e];rfl);refine OO ⟨before[before.length - 1]'(by omega),List.getElem?_eq_getElem (by omega),Ga (λ_=>Ji) λ_=>Ga (λ_=>Ji) λh2=>(dD hc _).imp λx hx=>⟨hx,?_⟩⟩;have:=ab1 h2;omega
end
end Mo
end Go.Proofs.YtpbkhogolfegfaaGreatDoor
namespace Go.Proofs.YtpbkhogolfegfaaGreatDoor
open AI Go
namespace Mo
set_option maxRecDepth 100000
section
variable {α β:Type} {n:Nat} {en:Int} {st:Bool} {P:α->Prop}
abbrev TT{α:Type}:α->Prop:=λ_=>True
def mU{K:Nat->Rd α}(h:∀k,k<=n->UT k st P (K (k+1))):UT n st P (λs=>K (s.length+1) s):=λl hg hl=>h l.length hl hg (Nat.le_refl _)
def ahk{read:Rd Nd}:∀(q n:Nat) (ns:List Nd),n < q->ns.length+n<=100000->UT n true TT read->UT n false (λr:List Nd=>r.length<=ns.length+n) (RU read q ns):=by
 intro q
 induction q with
 | zero=>intro n ns h;omega
 | succ q ih =>
   intro n ns hn hl hr;refine Wx (λh1=>BA (hr.le (by omega)) λx _ h2=>Ww (by omega) ?_) (D4 (by omega));refine(ih (n - 1 - 1) (ns++[x]) (by omega) (by simp only[List.length_append,List.length_singleton];omega) (hr.le (by omega))).imp λr hr=>?_;simp only[List.length_append,List.length_singleton] at hr;omega
def u6{read:Rd Nd}(hn:n<=10000)(hr:UT n true TT read):UT n st (λr:List Nd=>r.length<=n+1) (SG read) :=
 BA hr λx _ h1=>mU (K:=λq=>RU read q [x]) λk hk=>(ahk (k+1) k [x] (by omega) (by simp only[List.length_singleton];omega) (hr.le (by omega))).imp λr h=>by simp only[List.length_singleton] at h;omega
def agl:∃y,J5 IS IS JL 1=some y:=⟨_,rfl⟩
def agk:∃y,J5 FG IS JL 1=some y:=⟨_,rfl⟩
def jJ(op:ByteArray)(l r:Nd):∃x,Bb op l r=some x:=by
 unfold Bb;cases h1:BY op.data.toList IS.data.toList with
 | true =>
   obtain⟨y,hy⟩:=agl;rw[O8 h1,hy];exact⟨_,rfl⟩
 | false =>
   cases h2:BY op.data.toList FG.data.toList with
   | true =>
     obtain⟨y,hy⟩:=agk;rw[O8 h2,hy];exact⟨_,rfl⟩
   | false=>exact⟨_,rfl⟩
def aiP{yes:ByteArray->Rd α}{no:Rd α}(h1:∀x,1<=n->UT (n - 1) false P (yes x))(h2:UT n st P no):∀ops:List ByteArray,UT n st P (n5 yes no ops):=by
 intro ops
 induction ops with
 | nil=>exact h2
 | cons x ops ih=>exact Wx (h1 x) ih
def mW{sub:Rd Nd}(h:UT n true TT sub)(op:ByteArray)(l:Nd):UT n st TT (Rr en sub op l) :=
 BA (Ga (λ_=>TQ) λ_=>h) λr _ _=>by
   obtain⟨x,hx⟩:=jJ op l r;exact OO ⟨x,hx,D4 trivial⟩
def adS{ops:List ByteArray}{sub:Rd Nd}:∀(q n:Nat) (l:Nd),n < q->UT n true TT sub->UT n false TT (LA en ops sub q l):=by
 intro q
 induction q with
 | zero=>intro n l h;omega
 | succ q ih =>
   intro n l hn hs;exact aiP (λx h1=>BA (mW (hs.le (by omega)) x l) λb _ h2=>ih (n - 1 - 1) b (by omega) (hs.le (by omega))) (D4 trivial) ops
def PsP(r:List Pt×Int):Prop:=r.1.length<=64/\1<=r.2/\r.2<=1000000/\∀x∈r.1,1<=x.den/\-1000000<=x.num/\x.num<=1000000
def y0:∀(q n:Nat) (ps:List Pt) (c:Int),n < q->1<=c->c<=1000000->(∀x∈ps,1<=x.den/\-1000000<=x.num/\x.num<=1000000)->UT n st PsP (MA en q ps c):=by
 intro q
 induction q generalizing st with
 | zero=>intro n ps c h;omega
 | succ q ih =>
   intro n ps c hn h1 h2 h3;refine BA (adT ps ⟨h1,h2⟩) λx hx h4=>?_;obtain⟨⟨a1,a2,a3,a4,a5,a6⟩,hb⟩:=hx
   have h5:∀y∈ps++[x.1],1<=y.den/\-1000000<=y.num/\y.num<=1000000:=by
     intro y hy;rcases List.mem_append.1 hy with hy | hy
     exact h3 y hy;rw[List.mem_singleton.1 hy];exact⟨a3,a5,a6⟩
   exact Ww (by omega) (Wx (λh6=>ih (n - 1 - 1) _ _ (by omega) a1 a2 h5) (D4 ⟨by simp only[List.length_append,List.length_singleton];omega,a1,a2,h5⟩))
def zA{c:Int}(hc:1<=c/\c<=1000000)(p:Int):∀(ps:List Pt) (acc:List Pc),(∀x∈ps,1<=x.den)->acc.length+ps.length<=1000->UT n false TT (MG c p ps acc):=by
 intro ps
 induction ps with
 | nil=>intro acc _ _;exact D4 trivial
 | cons x ps ih =>
   intro acc h1 h2;have:=h1 x (List.mem_cons_self ..);simp only[List.length_cons] at h2;exact OO ⟨_,YA (by omega) (by omega) (by omega),Ga (λ_=>Ji) λ_=>Ga (λ_=>Ji) λ_=>Ww (by omega) (ih _ (λy hy=>h1 y (List.mem_cons_of_mem _ hy)) (by simp only[List.length_append,List.length_singleton];omega))⟩
def UW(n:Nat)(m:Rd Nd):Prop:=∀t s,Gl (t::s)->(t::s).length<=n->∃r s',m (t::s)=some (r,s')/\(∃k,s'=(t::s).drop k)/\∀a,r=.inl a->True/\(true=true->s'.length < (t::s).length)
structure Tot(q:Nat)(g:Ek->Rd Nd)(li:Rd (List Nd)):Prop where
 ex:∀n,n<=10000->10*n+11<=q->UT n true TT (g .ex)
 lv:∀i n,i<=6->n<=10000->10*n+10 - i<=q->UT n true TT (g (.lv i))
 at_:∀n,n<=10000->10*n+3<=q->UT n true TT (g .at_)
 wd:∀t n,n<=10000->10*n+2<=q->UW n (g (.wd t))
 ca:∀n,n<=10000->10*n+1<=q->UT n true TT (g .ca)
 ta:∀n,n<=10000->10*n+1<=q->UT n true TT (g .ta)
 li:∀n,n<=10000->10*n+12<=q->UT n true (λr:List Nd=>r.length<=n+1) li
section
variable {q:Nat} {g:Ek->Rd Nd} {li:Rd (List Nd)} (A:Tot q g li)
include A
def VJ{i:Nat}(hi:i<=5)(hn:n<=10000)(hq:10*n+9 - i<=q):UT n true TT (Ol en g i) :=
 BA (A.lv (i+1) n (by omega) hn (by omega)) λl _ h1=>mU (K:=λq=>LA en (opsOf i) (g (.lv (i+1))) q l) λk hk=>adS (k+1) k l (by omega) (A.lv (i+1) k (by omega) (by omega) (by omega))
def ahj(hn:n<=10000)(hq:10*n+6<=q):UT n true TT (jQ en g) :=
 BA (A.lv 4 n (by omega) hn (by omega)) λl _ h1=>aiP (λx h2=>mW (A.lv 4 _ (by omega) (by omega) (by omega)) x l) (D4 trivial) _
def alu(hn:n<=10000)(hq:10*n+7<=q):UT n true TT (Zg en g):=by
 intro l hg hl;unfold Zg;cases hx:JC Vq l with
 | false=>exact A.lv 3 n (by omega) hn (by omega) hg hl
 | true=>exact BA (Fi _) (λt _ h1=>BA (A.lv 2 (n - 1) (by omega) (by omega) (by omega)) λk _ _=>D4 trivial) hg hl
def ahi(hn:n<=10000)(hq:10*n<=q):UT n true TT (Ys en g li):=by
 refine ZQ λt hg s bM hl=>SY (BA (Fi _) λ_ _ h1=>BA (A.ex _ (by omega) (by omega)) λa _ h2=>BA (Fi _) λ_ _ h3=>BA (A.li _ (by omega) (by omega)) λl hl h4=>Ww (by omega) (BA (Fi _) λ_ _ _=>D4 trivial)) bM hl
def adU(hn:n<=10000)(hq:10*n<=q):UT n true TT (ZE en g):=by
 refine BA (Fi _) λt _ h1=>BA (Fi _) λ_ _ h2=>BA (A.ex _ (by omega) (by omega)) λa _ h3=>BA (Fi _) λ_ _ h4=>BA (P:=PsP) (mU (K:=λq=>MA en q [] 1) λk hk=>y0 (k+1) k [] 1 (by omega) (by omega) (by omega) (λx hx=>by cases hx)) λr hr h5=>BA (Fi _) λe _ h6=>?_;exact Ww (by have:=hr.1;omega) (ahh (zA ⟨hr.2.1,hr.2.2.1⟩ _ _ _ (λx hx=>(hr.2.2.2 x hx).1) (by have:=hr.1;simp only[List.length_nil];omega)) λ_ _=>D4 trivial)
def ahm(t:Tk)(hn:n<=10000)(hq:10*n+1<=q):UW n (R0 en g t):=by
 intro t' s hg hl;have one:∀{x:Nd},∃r s',VV (FX x) (t'::s)=some (r,s')/\(∃k,s'=(t'::s).drop k)/\∀a,r=.inl a->True/\(true=true->s'.length < (t'::s).length):=λ{x}=>SY (D4 trivial) hg hl;have h1:1<=n:=by simp only[List.length_cons] at hl;omega
 unfold R0;cases BY t.text.data.toList ZK.data.toList;rotate_left;exact one;cases BY t.text.data.toList T6.data.toList;rotate_left;exact one;cases BY t.text.data.toList eA.data.toList;rotate_left;exact SY (BA (OP _) λ_ _ _=>D4 trivial) hg hl;cases BY t.text.data.toList LY.data.toList;rotate_left;exact one;cases BY t.text.data.toList eO.data.toList;rotate_left;exact one;cases BY t.text.data.toList Rf.data.toList;rotate_left;exact one;cases BY t.text.data.toList VT.data.toList;rotate_left;exact one;cases BY t.text.data.toList K3.data.toList;rotate_left;exact A.ca n hn hq hg hl;cases BY t.text.data.toList FY.data.toList;rotate_left;exact A.ca n hn hq hg hl;cases BY t.text.data.toList Rz.data.toList;rotate_left;exact A.ta n hn hq hg hl;cases BY t.text.data.toList Uo.data.toList;rotate_left;exact SY (UT.ZX (BA (st:=true) (A.ex (n - 1) (by omega) (by omega)) λ_ _ _=>BA (Fi _) λ_ _ _=>D4 trivial)) hg hl;exact Ji (st:=true) (P:=TT) hg hl
def ahg(hn:n<=10000)(hq:10*n+2<=q):UT n true TT (Yn en g):=by
 refine ZQ λt ht s hg hl=>?_;cases CZ t.kind 3;rotate_left;exact BA (st:=true) (P2:=TT) dC (λ_ _ _=>Wx (λ_=>D4 trivial) (D4 trivial)) hg hl;cases CZ t.kind 2;rotate_left;refine SY (BA (NX λt=>Ed ⟨_,rfl⟩ ⟨_,rfl⟩) λa ha _=>?_) hg hl;obtain⟨z,h1,_⟩:=ha.1.r6 (.inr (Fe (Rb ha.2).symm));exact OO ⟨z,h1,D4 trivial⟩;obtain⟨b,hb⟩:=W1 t;unfold cond L5;dsimp only;rw[hb];cases b;exact A.wd t n hn hq t s hg hl;exact SY (D4 trivial) hg hl
end
def uW:∀q:Nat,Tot q (gP en q).1 (gP en q).2:=by
 intro q
 induction q with
 | zero=>constructor<;>intros<;>omega
 | succ q A =>
   constructor
   case ex=>intro n hn hq;exact A.lv 0 n (by omega) hn (by omega)
   case lv =>
     intro i n hi hn hq;show UT n true TT (Pm en (gP en q).1 (gP en q).2 (.lv i));have:i=0\/i=1\/i=2\/i=3\/i=4\/i=5\/i=6:=by omega
     rcases this with rfl | rfl | rfl | rfl | rfl | rfl | rfl
     exact VJ A (by omega) hn (by omega);exact VJ A (by omega) hn (by omega);exact alu A hn (by omega);exact ahj A hn (by omega);exact VJ A (by omega) hn (by omega);exact VJ A (by omega) hn (by omega);exact A.at_ n hn (by omega)
   case at_=>intro n hn hq;exact ahg A hn (by omega)
   case wd=>intro t n hn hq;exact ahm A t hn (by omega)
   case ca=>intro n hn hq;exact ahi A hn (by omega)
   case ta=>intro n hn hq;exact adU A hn (by omega)
   case li=>intro n hn hq;exact u6 hn (A.ex n hn (by omega))
end
end Mo
end Go.Proofs.YtpbkhogolfegfaaGreatDoor
namespace Go.Proofs.YtpbkhogolfegfaaGreatDoor
open AI Go
namespace Mo
set_option maxRecDepth 100000
def eW:∀l:List Tk,F2 (·=·) l l
 | []=>.nil
 | t::l=>.cons ⟨rfl,rfl,rfl⟩ (eW l)
def ah8{l l':List Tk}(h:F2 (·=·) l l'):l=l':=by
 induction h with
 | nil=>rfl
 | cons ht _ ih =>
   rename_i t t' l l' _;obtain⟨k,x,a⟩:=t;obtain⟨k',x',a'⟩:=t';obtain⟨h1,h2,h3⟩:=ht;dsimp only at h1 h2 h3;subst h1 h2 h3;rw[ih]
def aiv{n n':Nd}(h:NR (·=·) n n'):n=n' :=
 NR.rec (S:=(·=·)) (motive_1:=λa b _=>a=b) (motive_2:=λa b _=>a=b) (λ_ h ih=>by rw[ih,h]) rfl (λ_ _ h1 h2=>by rw[h1,h2]) h
def ang{en:Int}{r r':Nd⊕Dg}(h:RR (·=·) en en (NR (·=·)) r r'):r=r':=by
 cases h with
 | l h=>rw[aiv h]
 | r h =>
   rename_i d d';obtain⟨h1,h2 | ⟨rfl,rfl⟩⟩:=h;obtain⟨e,a⟩:=d;obtain⟨e',a'⟩:=d';dsimp only at h1 h2;subst h1 h2;rfl;rfl
def Nf(en:Int):Rd Nd:=λl=>(gP en (10*l.length+11)).1 .ex l
def aiO{n:Nat}{en:Int}(hn:n<=10000):UT n true TT (Nf en):=λl hg hl=>(uW (10*l.length+11)).ex l.length (by omega) (Nat.le_refl _) hg (Nat.le_refl _)
def anf{S:Int->Int->Prop}{en en':Int}{w:List Tk}:RP S en en' w false (NR S) (Nf en) (Nf en'):=λl l1 _ _ _ _ f e1 e2=>(uE _ _).rg .ex f e1 e2
def afb{en:Int}{l s:List Tk}{r:Nd⊕Dg}(hg:Gl l)(hl:l.length<=10000)(h:Nf en l=some (r,s))(q:Nat)(hq:10*l.length+11<=q):(gP en q).1 .ex l=some (r,s):=by
 obtain⟨r',s',h2,_⟩:=(uW (en:=en) q).ex l.length hl hq hg (Nat.le_refl _);have h3:=(uE (S:=(·=·)) (en:=en) (en':=en) (w:=[]) (10*l.length+11) q).rg .ex (eW l) h (by rw[List.append_nil];exact h2);rcases h3 with ⟨s1,rfl,h4,h5⟩ | ⟨h3,_⟩
 rw[h2,List.append_nil,ang h5,ah8 h4];exact absurd rfl h3
section
variable {ts:List Tk} (D7:ts.length<=10000) (hg:Gl ts) {en:Int}
include D7 hg
def sF{k:Nat}(hk:k<=ts.length){r l}(hS:Nf en (ts.drop k)=some (r,l)):JD ts k (FU ⟨ts,k,en⟩) r l:=by
 have hd:(ts.drop k).length<=10000:=by rw[List.length_drop];omega
 have key:∀q,10*(ts.drop k).length+11<=q->JD ts k (Bd q ⟨ts,k,en⟩) r l:=λq hq=>(aeQ (by omega) en q).ex hk (afb (hg.drop k) hd hS q hq);obtain⟨k',a1,a2,a3,a4⟩:=key _ (Nat.le_refl _);refine⟨k',a1,a2,a3,T5 (10*(ts.drop k).length+11) λq hq=>?_⟩;obtain⟨k2,b1,b2,b3,b4⟩:=key q hq
 have:k2=k':=by
   have h:=congrArg List.length (a3.symm.trans b3);simp only[List.length_drop] at h;omega
 rw[b4,this]
def jL(kind:Int){k:Nat}(hk:k<=ts.length){r l}(hS:IM en (Nf en) kind (ts.drop k)=some (r,l)):JD ts k (CU ⟨ts,k,en⟩ kind) r l:=by
 have h6:ts.length<=1000000:=by omega
 refine Wo hk (λt h1 h2 hS=>?_) (λ_=>rfl) hS;have hS:=aN h2 hS;dsimp only[Sum.elim];rw[ED h6 hk];refine LR (Nat.le_succ k) ?_;revert hS;cases CZ kind 7;intro hS;refine BC (λh=>sF D7 hg h1 h) (λa k h hk hS=>?_) (λ_ _=>rfl) hS;refine BC (λh=>IY h6 _ hk h) (λ_ k h hk hS=>?_) (λ_ _=>rfl) hS;exact Ey hk rfl hS;intro hS;refine BC (λh=>afR h6 (λhk _ _ h=>Vs h6 hk h) h1 h) (λa k h hk hS=>?_) (λ_ _=>rfl) hS;refine BC (λh=>IY h6 _ hk h) (λ_ k h hk hS=>?_) (λ_ _=>rfl) hS;exact Ey hk rfl hS
def af8(t1 t4:Tk)(n2:Int×Int)(k0:Int):∀(q:Nat) (ns:List Nd) (un am:Bool) (k:Nat) (r:Nd⊕Dg) (l:List Tk),k<=ts.length->Iy en (Nf en) (λl=>Ff 4 t4.text bE n2.1 l t1.AH) q ns un am (ts.drop k)=some (r,l) ->
   ∃k':Nat,k<=k'/\k'<=ts.length/\l=ts.drop k'/\∃n,EQ (λx:List Nd×Int×Bool×Bool=>Bu ⟨ts,k0,en⟩ t1 n2 t4 x.1 x.2.1 x.2.2.1 x.2.2.2) n (ns,(k:Int),un,am)=some (.inr (r,(k':Int))):=by
 have h6:ts.length<=1000000:=by omega
 intro q
 induction q with
 | zero=>intro ns un am k r l hk hS;cases hS
 | succ q ih =>
   intro ns un am k r l hk hS
   have stop:∀{y:(Nd⊕Dg)×Int},Bu ⟨ts,k0,en⟩ t1 n2 t4 ns (k:Int) un am=some (.rt y)->EQ (λx:List Nd×Int×Bool×Bool=>Bu ⟨ts,k0,en⟩ t1 n2 t4 x.1 x.2.1 x.2.2.1 x.2.2.2) 1 (ns,(k:Int),un,am)=some (.inr y):=by
     intro y h;show(Bu ⟨ts,k0,en⟩ t1 n2 t4 ns (k:Int) un am).bind _=_;rw[h];rfl
   have go:∀{y:List Nd×Int×Bool×Bool} {n:Nat} {z},Bu ⟨ts,k0,en⟩ t1 n2 t4 ns (k:Int) un am=some (.nx y)->EQ (λx:List Nd×Int×Bool×Bool=>Bu ⟨ts,k0,en⟩ t1 n2 t4 x.1 x.2.1 x.2.2.1 x.2.2.2) n y=z->EQ (λx:List Nd×Int×Bool×Bool=>Bu ⟨ts,k0,en⟩ t1 n2 t4 x.1 x.2.1 x.2.2.1 x.2.2.2) (n+1) (ns,(k:Int),un,am)=z:=by
     intro y n z h h2;show(Bu ⟨ts,k0,en⟩ t1 n2 t4 ns (k:Int) un am).bind _=_;rw[h];exact h2
   unfold Iy Vz at hS;unfold Bu at stop go;rcases JR ts hk with ⟨h1,h2⟩ | ⟨t,h1,h2,h3⟩
   . rw[h2] at hS
     dsimp only at hS;simp only[Option.some.injEq,Prod.mk.injEq] at hS;obtain⟨rfl,rfl⟩:=hS;refine⟨k,Nat.le_refl k,hk,h2.symm,1,stop ?_⟩
     have:AD ⟨ts,k,en⟩=some (.inr ⟨72,en⟩):=by
       unfold AD;rw[Y7 (by dsimp only;omega)];rfl
     dsimp only;rw[this];rfl
   . rw[h3] at hS
     dsimp only at hS;rw[<- h3] at hS
     have hpk:AD ⟨ts,k,en⟩=some (.inl t):=by
       unfold AD;rw[Vm (by dsimp only;omega)];dsimp only[cond];unfold HU;rw[if_pos (by omega),Int.toNat_natCast,h2];rfl
     dsimp only at stop go;rw[hpk] at stop go;dsimp only[Option.bind,Sum.elim] at stop go
     have one:∀(kind:Int) (iV iM:Bool),(Cw (IM en (Nf en) kind) λc=>O4 (ns.length+1) (Iy en (Nf en) (λl=>Ff 4 t4.text bE n2.1 l t1.AH) q (ns++[c]) iV iM)) (ts.drop k)=some (r,l) ->
         (∃(k1:Nat) (c:Nd),k<=k1/\k1<=ts.length/\CU ⟨ts,k,en⟩ kind=some (.inl c,(k1:Int))/\ns.length+1<=100000000/\∃k':Nat,k1<=k'/\k'<=ts.length/\l=ts.drop k'/\∃n,EQ (λx:List Nd×Int×Bool×Bool=>Bu ⟨ts,k0,en⟩ t1 n2 t4 x.1 x.2.1 x.2.2.1 x.2.2.2) n (ns++[c],(k1:Int),iV,iM)=some (.inr (r,(k':Int)))) \/
         (∃(k':Nat) (d:Dg),k<=k'/\k'<=ts.length/\l=ts.drop k'/\r=.inr d/\CU ⟨ts,k,en⟩ kind=some (.inr d,(k':Int))):=by
       intro kind iV iM h;rcases Jn h with ⟨c,s',h4,h5⟩ | ⟨d,h4,rfl⟩
       obtain⟨k1,a1,a2,rfl,a4⟩:=jL D7 hg kind hk h4;obtain⟨hl,h5⟩:=Om h5;exact .inl ⟨k1,c,a1,a2,a4,hl,ih _ _ _ _ _ _ a2 h5⟩;obtain⟨k1,a1,a2,a3,a4⟩:=jL D7 hg kind hk h4;exact .inr ⟨k1,d,a1,a2,a3,rfl,a4⟩
     cases hw:BY t.text.data.toList dM.data.toList with
     | true =>
       rw[hw] at hS stop go;dsimp only[cond] at hS stop go;rcases one 6 un am hS with ⟨k1,c,a1,a2,a3,a4,k',b1,b2,b3,n,b4⟩ | ⟨k',d,a1,a2,a3,rfl,a4⟩
       rw[a3] at go;dsimp only[Option.bind,Sum.elim] at go;rw[Fl a4] at go;exact⟨k',by omega,b2,b3,n+1,go rfl b4⟩
       . rw[a4] at stop
         exact⟨k',a1,a2,a3,1,stop rfl⟩
     | false =>
       rw[hw] at hS stop go;dsimp only[cond] at hS stop go;cases hu:BY t.text.data.toList Tl.data.toList with
       | true =>
         rw[hu] at hS stop go;dsimp only at hS stop go;cases un with
         | true =>
           dsimp only at hS stop go;obtain⟨rfl,rfl⟩:=Nt hS;exact⟨k,Nat.le_refl k,hk,rfl,1,stop rfl⟩
         | false =>
           dsimp only at hS stop go;rcases one 7 true am hS with ⟨k1,c,a1,a2,a3,a4,k',b1,b2,b3,n,b4⟩ | ⟨k',d,a1,a2,a3,rfl,a4⟩
           rw[a3] at go;dsimp only[Option.bind,Sum.elim] at go;rw[Fl a4] at go;exact⟨k',by omega,b2,b3,n+1,go rfl b4⟩
           . rw[a4] at stop
             exact⟨k',a1,a2,a3,1,stop rfl⟩
       | false =>
         rw[hu] at hS stop go;dsimp only at hS stop go;cases ha:BY t.text.data.toList QZ.data.toList with
         | true =>
           rw[ha] at hS stop go;dsimp only at hS stop go;cases am with
           | true =>
             dsimp only at hS stop go;obtain⟨rfl,rfl⟩:=Nt hS;exact⟨k,Nat.le_refl k,hk,rfl,1,stop rfl⟩
           | false =>
             dsimp only at hS stop go;rcases one 8 un true hS with ⟨k1,c,a1,a2,a3,a4,k',b1,b2,b3,n,b4⟩ | ⟨k',d,a1,a2,a3,rfl,a4⟩
             rw[a3] at go;dsimp only[Option.bind,Sum.elim] at go;rw[Fl a4] at go;exact⟨k',by omega,b2,b3,n+1,go rfl b4⟩
             . rw[a4] at stop
               exact⟨k',a1,a2,a3,1,stop rfl⟩
         | false =>
           rw[ha] at hS stop go;dsimp only at hS stop go;cases hc:BY t.text.data.toList aQ.data.toList with
           | true =>
             rw[hc] at hS stop;dsimp only at hS stop;cases am with
             | true =>
               have hS:=aN h3 hS;obtain⟨rfl,rfl⟩:=LS hS;refine⟨k+1,by omega,h1,rfl,1,stop ?_⟩;dsimp only;rw[ED h6 hk];rfl
             | false =>
               obtain⟨rfl,rfl⟩:=Nt hS;exact⟨k,Nat.le_refl k,hk,rfl,1,stop rfl⟩
           | false =>
             rw[hc] at hS stop;dsimp only at hS stop;obtain⟨rfl,rfl⟩:=Nt hS;exact⟨k,Nat.le_refl k,hk,rfl,1,stop rfl⟩
def vU{k:Nat}(hk:k<=ts.length){r l}(hS:MO en (Nf en) (ts.drop k)=some (r,l)):JD ts k (F3 ⟨ts,k,en⟩) r l:=by
 have h6:ts.length<=1000000:=by omega
 refine BC (λh=>IY h6 _ hk h) (λt k1 h hk hS=>?_) (λ_ _=>rfl) hS;refine BC (λh=>Pj h6 _ hk h) (λn k1 h hk hS=>?_) (λ_ _=>rfl) hS;refine BC (λh=>IY h6 _ hk h) (λ_ k1 h hk hS=>?_) (λ_ _=>rfl) hS;refine BC (λh=>aci h6 hk h) (λm k1 h hk hS=>?_) (λ_ _=>rfl) hS;refine BC (λh=>ajN h6 hk h) (λhd k1 h hk hS=>?_) (λ_ _=>rfl) hS;dsimp only[Sum.elim];rw[Fl (by omega)];refine BC (λh=>IY h6 _ hk h) (λ_ k1 h hk hS=>?_) (λ_ _=>rfl) hS;obtain⟨k',a1,a2,a3,j,a4⟩:=af8 D7 hg t m n (k:Int) _ [hd] false false k1 r l hk hS;refine⟨k',a1,a2,a3,?_⟩;dsimp only[Sum.elim];rw[List.nil_append,Fj a4];rfl
def abU{k:Nat}(hk:k<=ts.length){r l}(hS:Qk en (Nf en) (ts.drop k)=some (r,l)):JD ts k (Hv ⟨ts,k,en⟩) r l:=by
 have h6:ts.length<=1000000:=by omega
 refine Wo hk (λt h1 h2 hS=>?_) (λ_=>rfl) hS;revert hS;dsimp only[Sum.elim];cases BY t.text.data.toList TI.data.toList;rotate_left;exact λhS=>Rm (aaK h6 hk hS);cases BY t.text.data.toList Pe.data.toList;rotate_left;exact λhS=>Rm (aaK h6 hk hS);cases BY t.text.data.toList Io.data.toList;rotate_left;exact λhS=>Rm (vU D7 hg hk hS);exact λhS=>Ey hk rfl hS
end
end Mo
end Go.Proofs.YtpbkhogolfegfaaGreatDoor
namespace Go.Proofs.YtpbkhogolfegfaaGreatDoor
open AI Go
namespace Mo
set_option maxRecDepth 100000
section
variable {S:Int->Int->Prop} {en en':Int} {w:List Tk} {b:Bool}
def Wp(kind:Int):RP S en en' w b (NR S) (IM en (Nf en) kind) (IM en' (Nf en') kind) :=
 Zt λ_ _ ht=>RY (Cj (λ_=>JB (uK TO) (λ_ _ hl=>Ce (GY _) λ_ _ _=>D1 (Gq hl ht.2.2)) λ_=>LB Q6)
   λ_=>JB anf (λ_ _ hl=>Ce (GY _) λ_ _ _=>D1 (Gq (.cons hl .nil) ht.2.2)) λ_=>LB Q6)
def acQ{mk mk':List Nd->Nd}(hm:∀l l',dP S l l'->NR S (mk l) (mk' l')):∀(q q':Nat) (l l':List Nd) (un am:Bool),dP S l l'->RP S en en' w b (NR S) (Iy en (Nf en) mk q l un am) (Iy en' (Nf en') mk' q' l' un am):=by
 intro q
 induction q with
 | zero=>intro q' l l' un am _ _ _ _ _ _ _ _ e1;cases e1
 | succ q ih =>
   intro q' l l' un am hl;cases q' with
   | zero=>intro _ _ _ _ _ _ _ _ e2;cases e2
   | succ q' =>
     refine Zt λt t' ht=>?_;rw[ht.2.1]
     exact Cj (λ_=>Ce (Wp _) λc c' hc=>SS (ih q' _ _ _ _ (Vr hl (.cons hc .nil)))) λ_ =>
       Cj (λ_=>Cj (λ_=>Jf ht.2.2) λ_=>Ce (Wp _) λc c' hc=>SS (ih q' _ _ _ _ (Vr hl (.cons hc .nil)))) λ_ =>
       Cj (λ_=>Cj (λ_=>Jf ht.2.2) λ_=>Ce (Wp _) λc c' hc=>SS (ih q' _ _ _ _ (Vr hl (.cons hc .nil)))) λ_ =>
       Cj (λ_=>Cj (λ_=>RY (D1 (hm _ _ hl))) λ_=>Jf ht.2.2) λ_=>Jf ht.2.2
def qW:RP S en en' w b (NR S) (MO en (Nf en)) (MO en' (Nf en')):=by
 refine Ce (GY _) λt t' ht=>Ce (QI _) λn n' hn=>Ce (GY _) λ_ _ _=>Ce uL λm m' hm=>Ce agv λh h' hh=>Ce (GY _) λ_ _ _=>?_;intro l l1 s s' r r' f e1 e2;refine acQ (λl l' hl=>?_) _ _ _ _ _ _ (.cons hh .nil) f e1 e2;rw[hn.1,hm.2.1];exact Gq hl ht.2.2
def VA:RP S en en' w b (NR S) (Qk en (Nf en)) (Qk en' (Nf en')):=by
 refine Zt λt t' ht=>?_;rw[ht.2.1];exact Cj (λ_=>uI) λ_=>Cj (λ_=>uI) λ_=>Cj (λ_=>qW) λ_=>Jf ht.2.2
end
section
variable {n:Nat} {en:Int} {st:Bool}
def yZ(kind:Int)(hn:n<=10000):UT n st TT (IM en (Nf en) kind) :=
 ZQ λt _ s bM hl=>SY (Ga (λ_=>BA (u6 (by omega) TQ) λ_ _ _=>BA (Fi _) λ_ _ _=>D4 trivial) λ_=>BA (aiO (by omega)) λ_ _ _=>BA (Fi _) λ_ _ _=>D4 trivial) bM hl
def mV{mk:List Nd->Nd}:∀(q n:Nat) (ns:List Nd) (un am:Bool),n<=10000->n < q->ns.length+n<=100000->UT n st TT (Iy en (Nf en) mk q ns un am):=by
 intro q
 induction q generalizing st with
 | zero=>intro n ns un am _ h;omega
 | succ q ih =>
   intro n ns un am hn h1 h2
   have go:∀{st:Bool} (kind:Int) (iV iM:Bool),UT n st TT (Cw (IM en (Nf en) kind) λc=>O4 (ns.length+1) (Iy en (Nf en) mk q (ns++[c]) iV iM)):=λkind iV iM =>
     BA (yZ kind hn) λc _ h3=>Ww (by omega) (ih (n - 1) _ _ _ (by omega) (by omega) (by simp only[List.length_append,List.length_singleton];omega))
   refine ZQ λt _ s bM hl=>?_;cases BY t.text.data.toList dM.data.toList;rotate_left;exact go (st:=st) _ _ _ bM hl;cases BY t.text.data.toList Tl.data.toList;rotate_left;exact Ga (st:=st) (P:=TT) (λ_=>Ji) (λ_=>go _ _ _) bM hl;cases BY t.text.data.toList QZ.data.toList;rotate_left;exact Ga (st:=st) (P:=TT) (λ_=>Ji) (λ_=>go _ _ _) bM hl;cases BY t.text.data.toList aQ.data.toList;exact Ji (st:=st) (P:=TT) bM hl;cases am;exact Ji (st:=st) (P:=TT) bM hl;exact SY (D4 trivial) bM hl
def rL(hn:n<=10000):UT n st TT (MO en (Nf en)) :=
 BA (Fi _) λt _ h1=>BA (OP _) λm _ h2=>BA (Fi _) λ_ _ h3=>BA X3 λu _ h4=>BA u5 λh _ h5=>BA (Fi _) λ_ _ h6 =>
   mU (K:=λq=>Iy en (Nf en) (λl=>Ff 4 u.text bE m.1 l t.AH) q [h] false false) λk hk=>mV (k+1) k [h] false false (by omega) (by omega) (by simp only[List.length_singleton];omega)
def iA(hn:n<=10000):UT n st TT (Qk en (Nf en)):=by
 refine ZQ λt _ s bM hl=>?_;cases BY t.text.data.toList TI.data.toList;rotate_left;exact u4 (st:=st) bM hl;cases BY t.text.data.toList Pe.data.toList;rotate_left;exact u4 (st:=st) bM hl;cases BY t.text.data.toList Io.data.toList;rotate_left;exact rL (st:=st) hn bM hl;exact Ji (st:=st) (P:=TT) bM hl
end
def Oh(t:Tk):Bool:=BY t.text.data.toList TI.data.toList||(BY t.text.data.toList Pe.data.toList||BY t.text.data.toList Io.data.toList)
def OM:List Tk->List Tk
 | []=>[]
 | t::s=>if Oh t then t::s else OM s
def QJ:∀l:List Tk,∃k,OM l=l.drop k
 | []=>⟨0,rfl⟩
 | t::s=>by
   unfold OM;split;exact⟨0,rfl⟩;obtain⟨k,hk⟩:=QJ s;exact⟨k+1,by rw[hk];rfl⟩
def Mk{en:Int}{t:Tk}{l s:List Tk}{r:Nd⊕Dg}(hg:Gl (t::l))(hl:(t::l).length<=10000)(h:Qk en (Nf en) (t::l)=some (r,s)):(∃k,s=(t::l).drop k)/\(OM s).length<=l.length/\∀n,r=.inl n->s.length<=l.length:=by
 obtain⟨r',s',h2,h3,h4⟩:=iA (st:=true) (en:=en) (n:=(t::l).length) hl hg (Nat.le_refl _);rw[h] at h2;simp only[Option.some.injEq,Prod.mk.injEq] at h2;obtain⟨rfl,rfl⟩:=h2;refine⟨h3,?_,λn hn=>Nat.le_of_lt_succ ((h4 n hn).2 rfl)⟩
 have small:∀{k:Nat},(OM (l.drop k)).length<=l.length:=λ{k}=>by
   obtain⟨j,hj⟩:=QJ (l.drop k);rw[hj,List.length_drop,List.length_drop];omega
 have sk:∀{x:List Tk},(∃k,x=l.drop k)->(OM x).length<=l.length:=by
   rintro x ⟨k,rfl⟩;exact small
 have YV:Gl l:=λt ht=>hg t (List.mem_cons_of_mem _ ht);have hl':l.length<=10000:=by simp only[List.length_cons] at hl;omega
 cases hi:Oh t with
 | false =>
   have NF:=hi;unfold Oh at hi;simp only[Bool.or_eq_false_iff] at hi
   have:Qk en (Nf en) (t::l)=some (.inr ⟨71,t.AH⟩,t::l):=by
     unfold Qk Vz;dsimp only;rw[hi.1,hi.2.1,hi.2.2];rfl
   rw[this] at h;simp only[Option.some.injEq,Prod.mk.injEq] at h;rw[<- h.2];unfold OM;rw[NF];obtain⟨k,hk⟩:=QJ l;simp only[Bool.false_eq_true,if_false];rw[hk,List.length_drop];omega
 | true =>
   unfold Qk Vz at h;dsimp only at h
   have decl:Sz en (t::l)=some (r,s)->(OM s).length<=l.length:=by
     intro h;unfold Sz Vz VV at h;dsimp only at h;refine sk ?_
     obtain⟨r2,s2,e2,h5,_⟩:=(show UT l.length false TT _ from BA X3 λm _ _=>BA (Fi Vy) λ_ _ _=>BA u9 λu _ _=>Ga (c:=BY t.text.data.toList Pe.data.toList)
       (A:=Cw (cJ en) λr=>L5 (EB r.text) λn=>Cw (JT en R9) λ_=>FX (Ff 3 m.text u.text n [] t.AH)) (B:=Cw (JT en R9) λ_=>FX (Ff 2 m.text u.text 0 [] t.AH))
       (λ_=>BA u7 λr _ _=>by obtain⟨b,hb⟩:=SQ r.text;exact OO ⟨b,hb,BA (Fi _) λ_ _ _=>D4 trivial⟩) λ_=>BA (Fi _) λ_ _ _=>D4 trivial) YV (Nat.le_refl _)
     rw[h] at e2;simp only[Option.some.injEq,Prod.mk.injEq] at e2;rw[e2.2];exact h5
   revert h;cases hf:BY t.text.data.toList TI.data.toList;rotate_left;exact decl;cases hli:BY t.text.data.toList Pe.data.toList;rotate_left;exact decl;cases ha:BY t.text.data.toList Io.data.toList;unfold Oh at hi;rw[hf,hli,ha] at hi;cases hi;intro h;refine sk ?_;have h:MO en (Nf en) (t::l)=some (r,s):=h;unfold MO at h
   have he:JT en Io (t::l)=some (.inl t,l):=by
     unfold JT LX Vz L5 Dw;dsimp only;rw[ha];rfl
   rcases Jn h with ⟨a,s',h3,h4⟩ | ⟨d,h3,_⟩
   rw[he] at h3;simp only[Option.some.injEq,Prod.mk.injEq,Sum.inl.injEq] at h3;obtain⟨rfl,rfl⟩:=h3
   obtain⟨r2,s2,e2,h5,_⟩:=(show UT l.length false TT _ from BA (OP (en:=en) 1) λm _ h2=>BA (Fi (en:=en) aa5) λ_ _ h3=>BA (X3 (en:=en)) λu _ h4=>BA (u5 (en:=en)) λh _ h5=>BA (Fi (en:=en) gI) λ_ _ h6 =>
     mU (K:=λq=>Iy en (Nf en) (λl=>Ff 4 u.text bE m.1 l t.AH) q [h] false false) λk hk=>mV (k+1) k [h] false false (by omega) (by omega) (by simp only[List.length_singleton];omega)) YV (Nat.le_refl _)
   have h6:=h4.symm.trans e2;simp only[Option.some.injEq,Prod.mk.injEq] at h6;rw[h6.2];exact h5;rw[he] at h3;cases h3
end Mo
end Go.Proofs.YtpbkhogolfegfaaGreatDoor
namespace Go.Proofs.YtpbkhogolfegfaaGreatDoor
open AI Go
namespace Mo
set_option maxRecDepth 100000
def Jh(en:Int):Nat->List Tk->List Nd->List Dg->Option (List Nd×List Dg)
 | 0,_,_,_=>none
 | _+1,[],ks,ds=>some (ks,ds)
 | q+1,t::l,ks,ds=>cond (Ez ((ds.length:Nat):Int) 20) (match Qk en (Nf en) (t::l) with
   | none=>none
   | some (.inl n,s)=>Jh en q s (ks++[n]) ds
   | some (.inr d,s)=>Jh en q (OM s) ks (ds++[d])) (some (ks,ds))
def mQ{en:Int}:∀(q:Nat) (l:List Tk) (ks:List Nd) (ds:List Dg),Gl l->l.length<=10000->l.length < q->∃r,Jh en q l ks ds=some r:=by
 intro q
 induction q with
 | zero=>intro l ks ds _ _ h;omega
 | succ q ih =>
   intro l ks ds hg hl h;cases l with
   | nil=>exact⟨_,rfl⟩
   | cons t l =>
     unfold Jh;cases Ez ((ds.length:Nat):Int) 20 with
     | false=>exact⟨_,rfl⟩
     | true =>
       obtain⟨r,s,h2,_⟩:=iA (st:=true) (en:=en) (n:=(t::l).length) hl hg (Nat.le_refl _);obtain⟨⟨k,rfl⟩,h4,h5⟩:=Mk hg hl h2;dsimp only[cond];rw[h2];simp only[List.length_cons] at h hl;cases r with
       | inl n =>
         have h6:=h5 n rfl;exact ih _ _ _ (hg.drop k) (by omega) (by omega)
       | inr d =>
         obtain⟨j,hj⟩:=QJ ((t::l).drop k);refine ih _ _ _ ?_ (by omega) (by omega);rw[hj];exact(hg.drop k).drop j
section
variable {source:ByteArray} {ts:List Tk} (D7:ts.length<=10000)
include D7
def alb:∀(j k:Nat),k<=ts.length->ts.length - k<=j->∃n k':Nat,k<=k'/\k'<=ts.length/\OM (ts.drop k)=ts.drop k'/\EQ (λx=>Da source ts x) n (k:Int)=some (.inl (k':Int)):=by
 have stop:∀{k:Nat} {y:Int},Da source ts (k:Int)=some (.ex y)->EQ (λx=>Da source ts x) 1 (k:Int)=some (.inl y):=by
   intro k y h;show(Da source ts (k:Int)).bind _=_;rw[h];rfl
 intro j
 induction j with
 | zero =>
   intro k hk hj;have:k=ts.length:=by omega
   refine⟨1,k,Nat.le_refl k,hk,?_,stop ?_⟩;rw[List.drop_eq_nil_of_le (by omega)];rfl;unfold Da;rw[Ic (by omega)];rfl
 | succ j ih =>
   intro k hk hj;rcases JR ts hk with ⟨h1,h2⟩ | ⟨t,h1,h2,h3⟩
   . refine⟨1,k,Nat.le_refl k,hk,?_,stop ?_⟩
     rw[h2];rfl;unfold Da;rw[Ic (by omega)];rfl
   . have hs:∀x,JC x (ts.drop k)=BY t.text.data.toList x.data.toList:=λx=>by rw[h3];rfl
     have hL:Da source ts (k:Int)=if Oh t then some (.ex (k:Int)) else some (.nx ((k+1:Nat):Int)):=by
       unfold Da Oh;rw[Ir (by omega)];dsimp only[cond];rw[GZ hk,GZ hk,GZ hk,Option.bind_some,hs,hs,hs];cases BY t.text.data.toList TI.data.toList;cases BY t.text.data.toList Pe.data.toList;cases BY t.text.data.toList Io.data.toList;rw[<- ED (by omega) hk];rfl;rfl;rfl;rfl
     cases hi:Oh t with
     | true =>
       refine⟨1,k,Nat.le_refl k,hk,?_,stop ?_⟩;rw[h3];unfold OM;rw[hi];rfl;rw[hL,hi];rfl
     | false =>
       obtain⟨n,k',a1,a2,a3,a4⟩:=ih (k+1) h1 (by omega);refine⟨n+1,k',by omega,a2,?_,?_⟩;rw[h3];unfold OM;rw[hi];exact a3;show(Da source ts (k:Int)).bind _=_;rw[hL,hi];exact a4
def ant(hg:Gl ts):∀(q k:Nat) (ks:List Nd) (ds:List Dg) (r:List Nd×List Dg),k<=ts.length->ks.length+ds.length+q<=100000->Jh ((source.data.toList.length:Nat):Int) q (ts.drop k) ks ds=some r ->
   ∃n k':Nat,EQ (λx:List Dg×List Nd×Int=>Cc source ts x.1 x.2.1 x.2.2) n (ds,ks,(k:Int))=some (.inl (r.2,r.1,(k':Int))):=by
 intro q
 induction q with
 | zero=>intro k ks ds r hk hq h;cases h
 | succ q ih =>
   intro k ks ds r hk hq h
   have stop:Cc source ts ds ks (k:Int)=some (.ex (ds,ks,(k:Int)))->EQ (λx:List Dg×List Nd×Int=>Cc source ts x.1 x.2.1 x.2.2) 1 (ds,ks,(k:Int))=some (.inl (ds,ks,(k:Int))):=by
     intro h;show(Cc source ts ds ks (k:Int)).bind _=_;rw[h];rfl
   rcases JR ts hk with ⟨h1,h2⟩ | ⟨t,h1,h2,h3⟩
   . rw[h2] at h
     have:r=(ks,ds):=(Option.some.inj h).symm;subst this;refine⟨1,k,stop ?_⟩;unfold Cc;rw[Ic (by omega)];rfl
   . rw[h3] at h
     unfold Jh at h;rw[<- h3] at h;cases hd:Ez ((ds.length:Nat):Int) 20 with
     | false =>
       rw[hd] at h;have:r=(ks,ds):=(Option.some.inj h).symm;subst this;refine⟨1,k,stop ?_⟩;unfold Cc;rw[Ir (by omega),hd];rfl
     | true =>
       rw[hd] at h;dsimp only[cond] at h;split at h;cases h;rename_i n s hi;obtain⟨k1,a1,a2,rfl,a4⟩:=abU D7 hg hk hi;obtain⟨m,k',b1⟩:=ih k1 (ks++[n]) ds r a2 (by simp only[List.length_append,List.length_singleton];omega) h;refine⟨m+1,k',?_⟩
       have hL:Cc source ts ds ks (k:Int)=some (.nx (ds,ks++[n],(k1:Int))):=by
         unfold Cc Hw;rw[Ir (by omega),hd,a4];dsimp only[cond,Option.bind,adK];rw[Fl (by omega)]
       show(Cc source ts ds ks (k:Int)).bind _=_;rw[hL];exact b1;rename_i d s hi;obtain⟨k1,a1,a2,rfl,a4⟩:=abU D7 hg hk hi;obtain⟨j,k2,c1,c2,c3,c4⟩:=alb (source:=source) D7 (ts.length - k1) k1 a2 (Nat.le_refl _);rw[c3] at h;obtain⟨m,k',b1⟩:=ih k2 ks (ds++[d]) r c2 (by simp only[List.length_append,List.length_singleton];omega) h;refine⟨m+1,k',?_⟩
       have hL:Cc source ts ds ks (k:Int)=some (.nx (ds++[d],ks,(k2:Int))):=by
         unfold Cc Hw;rw[Ir (by omega),hd,a4];dsimp only[cond,Option.bind,adK];rw[Fl (by omega),Fj c4];rfl
       show(Cc source ts ds ks (k:Int)).bind _=_;rw[hL];exact b1
end
def D3(s:ByteArray):List Tk:=(LexS.Lt s.data.toList).1.map IP
def PK(s:ByteArray):Nat:=(LexS.Lt s.data.toList).2.1
def amS(s:ByteArray):Nat:=(LexS.Lt s.data.toList).2.2
def GF(ks:List Nd):Nd:=⟨1,ByteArray.empty,ByteArray.empty,0,0,0,0,⟨0,[]⟩,ks,0⟩
def cE{s:ByteArray}(h:PK s≠0):Cg s=some (z0,[⟨(PK s:Int),(amS s:Int)⟩]):=by
 unfold Cg IK;rw[Option.bind_some];dsimp only;rw[K9 (by unfold PK at h;omega)];rfl
def xP{s:ByteArray}(h:PK s=0)(hg:Gl (D3 s))(hl:(D3 s).length<=10000):∃ks ds,Jh ((s.data.toList.length:Nat):Int) ((D3 s).length+1) (D3 s) [] []=some (ks,ds)/\Cg s=cond (Ez 0 ((ds.length:Nat):Int)) (some (z0,ds)) (Du (GF ks)):=by
 obtain⟨⟨ks,ds⟩,h1⟩:=mQ (en:=((s.data.toList.length:Nat):Int)) ((D3 s).length+1) (D3 s) [] [] hg hl (Nat.lt_succ_self _);refine⟨ks,ds,h1,?_⟩;obtain⟨n,k',h2⟩:=ant (source:=s) hl hg ((D3 s).length+1) 0 [] [] _ (Nat.zero_le _) (by simp only[List.length_nil];omega) (by rw[List.drop_zero];exact h1);unfold Cg IK;rw[Option.bind_some];dsimp only;rw[JS (by unfold PK at h;omega)];dsimp only[cond];have h2:EQ (λx:List Dg×List Nd×Int=>Cc s (List.map IP (LexS.Lt s.data.toList).fst) x.1 x.2.1 x.2.2) n ([],[],0)=some (.inl (ds,ks,(k':Int))):=h2;rw[Fj h2,Option.bind_some];dsimp only[Ma];cases Ez 0 ((ds.length:Nat):Int);dsimp only;show(Du (GF ks)).bind _=Du (GF ks);cases Du (GF ks)<;>rfl
 rfl
end Mo
end Go.Proofs.YtpbkhogolfegfaaGreatDoor
namespace Go.Proofs.YtpbkhogolfegfaaGreatDoor
open AI Go LexS
namespace Mo
set_option maxRecDepth 100000
def Tt(c:UInt8):Prop:=48<=c.toNat/\c.toNat<=57
def aaA:∀n < 128,(L9 n &&& 8)≠0->48<=n/\n<=57:=by decide
def aeZ{c:UInt8}(h:cin 8 c=true):Tt c:=by
 unfold cin at h;by_cases hc:c.toNat < 128;exact aaA _ hc (by simpa using h)
 rw[eH _ (by omega)] at h;simp at h
def mI(t:List UInt8):∀c∈t.take (Be 8 t),Tt c:=by
 unfold Be
 induction t with
 | nil=>intro c hc;cases hc
 | cons x t ih =>
   intro c hc;rw[List.takeWhile_cons] at hc;split at hc;rename_i hx;rw[List.length_cons,List.take_succ_cons] at hc;rcases List.mem_cons.1 hc with rfl | hc
   exact aeZ hx;exact ih c hc;cases hc
def ae4:∀(l:List UInt8) (acc:Nat),(∀c∈l,Tt c)->∃n,Lib.decFrom acc l=some n/\n < (acc+1)*10 ^ l.length:=by
 intro l
 induction l with
 | nil=>intro acc _;exact⟨acc,rfl,by simp⟩
 | cons c l ih =>
   intro acc h;have hc:=h c (List.mem_cons_self ..);obtain⟨n,h1,h2⟩:=ih (acc*10+(c.toNat - 48)) (λx hx=>h x (List.mem_cons_of_mem _ hx));refine⟨n,?_,Nat.lt_of_lt_of_le h2 ?_⟩;unfold Lib.decFrom Lib.digitVal;rw[if_pos (show 48<=c.toNat/\c.toNat<=57 from hc)];exact h1;rw[List.length_cons,Nat.pow_succ,Nat.mul_comm (10 ^ l.length) 10,<- Nat.mul_assoc];exact Nat.mul_le_mul_right _ (by have:=hc.2;omega)
def aao{l:List UInt8}(h0:l≠[])(hl:l.length<=12)(h:∀c∈l,Tt c):∃z,Lib.atoi l=some z/\0<=z/\z<=999999999999:=by
 cases l with
 | nil=>exact absurd rfl h0
 | cons c l =>
   obtain⟨n,h1,h2⟩:=ae4 (c::l) 0 h;have hc:=h c (List.mem_cons_self ..);have GM:n < 10 ^ 12:=Nat.lt_of_lt_of_le h2 (by rw[Nat.zero_add,Nat.one_mul];exact Nat.pow_le_pow_right (by omega) hl);refine⟨(n:Int),?_,by omega,by omega⟩
   have e1:(c == 45)=false:=by
     apply beq_false_of_ne;rintro rfl;exact absurd hc.1 (by decide)
   have e2:(c == 43)=false:=by
     apply beq_false_of_ne;rintro rfl;exact absurd hc.1 (by decide)
   unfold Lib.atoi Lib.decNat;dsimp only;rw[e1,e2];simp only[Bool.false_eq_true,if_false,List.isEmpty_cons];rw[h1];rfl
def bR:∀(d r:List UInt8),(∀c∈d,Tt c)->Lib.indexByte (d++46::r) 46=d.length
 | [],r,_=>by unfold Lib.indexByte;rfl
 | c::d,r,h=>by
   have ih:=bR d r (λx hx=>h x (List.mem_cons_of_mem _ hx));have hc:=h c (List.mem_cons_self ..)
   have e1:(c == 46)=false:=by
     apply beq_false_of_ne;rintro rfl;exact absurd hc.1 (by decide)
   rw[List.cons_append];unfold Lib.indexByte;rw[e1,ih];simp
def Ym{l:List UInt8}(h0:l≠[])(hl:l.length<=12)(h:∀c∈l,Tt c):∃z,Sn ⟨l.toArray⟩=some (z,())/\0<=z/\z<=999999999999:=by
 obtain⟨z,h1,h2⟩:=aao h0 hl h;refine⟨z,?_,h2⟩;unfold Sn;rw[if_pos (by simp;omega)];simp only[List.toList_toArray,h1,Option.map_some]
def xV{s:List UInt8}(k:Nat)(h:Lib.index s [46]=-1):Lib.replaceK [46] [] k s=s:=by
 cases k with
 | zero=>rfl
 | succ k=>unfold Lib.replaceK;rw[h];rfl
def kJ:∀(d:List UInt8),(∀c∈d,Tt c)->Lib.indexByte d 46=-1
 | [],_=>rfl
 | c::d,h=>by
   have ih:=kJ d (λx hx=>h x (List.mem_cons_of_mem _ hx));have hc:=h c (List.mem_cons_self ..)
   have e1:(c == 46)=false:=by
     apply beq_false_of_ne;rintro rfl;exact absurd hc.1 (by decide)
   unfold Lib.indexByte;rw[e1,ih];simp
def agm{d:List UInt8}(h:∀c∈d,Tt c):Lib.replace d [46] [] 1=d:=by
 unfold Lib.replace;rw[if_neg (by decide)];exact xV _ (by rw[Lib.index_one,kJ d h])
def acJ{d r:List UInt8}(h:∀c∈d,Tt c):Lib.replace (d++46::r) [46] [] 1=d++r:=by
 have hi:Lib.index (d++46::r) [46]=(d.length:Int):=by rw[Lib.index_one,bR d r h]
 have hn:Lib.replaceNum (d++46::r) [46] 1=1:=by
   have:1<=Lib.count (d++46::r) [46]:=by
     unfold Lib.count Lib.countFrom;rw[hi,if_neg (by simp)];omega
   unfold Lib.replaceNum;rw[if_neg (by omega)];rfl
 unfold Lib.replace;rw[if_neg (by decide),hn,Lib.replaceK_hit _ _ _ _ _ hi];unfold Lib.replaceK;simp
def bC{k a:Int}{l m:List UInt8}(hr:Lib.replace l [46] [] 1=m)(hl:l.length<=20)(h0:m≠[])(hm:m.length<=12)(h:∀c∈m,Tt c):∃z,Ct ⟨k,⟨l.toArray⟩,a⟩=some z/\0<=z/\z<=999999999999:=by
 obtain⟨z,h1,h2⟩:=Ym h0 hm h;refine⟨z,?_,h2⟩;unfold Ct
 have:J5 ⟨l.toArray⟩ akW ByteArray.empty 1=some ⟨m.toArray⟩:=by
   unfold J5
   rw[if_pos ⟨by decide,by
     have:(ByteArray.empty).size=0:=rfl;have h2:(⟨l.toArray⟩:ByteArray).size=l.length:=by simp[ByteArray.size]
     rw[this,h2];omega⟩]
   have:(akW).data.toList=[46]:=rfl;rw[this];simp only[List.toList_toArray];rw[show(ByteArray.empty).data.toList=[] from rfl,hr]
 dsimp only;rw[this,Option.bind_some,h1];rfl
def ah1(y m:Nat):Bool:=match Gn (2000+y) m,Ip (12*y+m) with
 | some n,some f=>Nat.ble 1 n.toNat&&(Nat.ble 0 f.toNat&&(decide (0<=n/\n<=31/\0<=f/\f+n<=36525)))
 | _,_=>false
def aeW:((List.range 100).all λy=>(List.range 12).all λm=>ah1 y m)=true:=by kernel_rfl
def aje{y m:Nat}(hy:y < 100)(hm:m < 12):∃n f:Int,Gn (2000+y) m=some n/\Ip (12*y+m)=some f/\0<=n/\n<=31/\0<=f/\f+n<=36525:=by
 have h:=List.all_eq_true.1 (List.all_eq_true.1 aeW y (List.mem_range.2 hy)) m (List.mem_range.2 hm);unfold ah1 at h;split at h;rename_i n f h1 h2;simp only[Bool.and_eq_true,decide_eq_true_eq] at h;exact⟨n,f,h1,h2,h.2.2.1,h.2.2.2.1,h.2.2.2.2.1,h.2.2.2.2.2⟩;cases h
def aaJ(y m d:Int)(hy:0<=y/\y<=100000)(hm:0<=m/\m<=100000)(hd:0<=d/\d<=100000):∃z e,JP y m d=some (z,e)/\(e=0->0<=z/\z<=36524):=by
 have bad:∃z e,(some ((0:Int),(21:Int)):Option (Int×Int))=some (z,e)/\(e=0->0<=z/\z<=36524):=⟨0,21,rfl,λh=>by omega⟩;unfold JP;cases h1:Ez y 2000;rotate_left;exact bad;cases h2:Ez 2099 y;rotate_left;exact bad;cases h3:Ez m 1;rotate_left;exact bad;cases h4:Ez 12 m;rotate_left;exact bad;cases h5:Ez d 1;rotate_left;exact bad;have h1:=Lc h1;have h2:=Lc h2;have h3:=Lc h3;have h4:=Lc h4;have h5:=Lc h5;obtain⟨n,f,a1,a2,a3,a4,a5,a6⟩:=aje (y:=(y - 2000).toNat) (m:=(m - 1).toNat) (by omega) (by omega);rw[show(2000:Int)+((y - 2000).toNat:Nat)=y by omega,show(((m - 1).toNat:Nat):Int)=m - 1 by omega] at a1;rw[show 12*(((y - 2000).toNat:Nat):Int)+(((m - 1).toNat:Nat):Int)=(y - 2000)*12+m - 1 by omega] at a2;dsimp only[cond];rw[KZ (a:=m) (by omega),a1,Option.bind_some];cases h6:Ez n d;have h6:=Lc h6;dsimp only;rw[KZ (a:=y) (by omega),IX (by omega),CM (by omega),KZ (by omega),a2,Option.bind_some];rw[CM (by omega),KZ (by omega)];exact⟨_,0,rfl,λ_=>by omega⟩;exact bad
def aaQ{c:UInt8}(hc:Tt c):w64 (Ny .u8 (hO ((c.toNat:Nat):Int) 48))=(c.toNat:Int) - 48:=by
 have h1:=hc.1;have h2:=hc.2
 have e:Ny .u8 (hO ((c.toNat:Nat):Int) 48)=(c.toNat:Int) - 48:=by
   rw[hP,VN];unfold IntKind.wrap;simp[IntKind.bits,IntKind.signed];omega
 rw[e];unfold w64;exact vK (by omega)
section
variable {i:Nat} {c:UInt8} (h4:i≠4) (h7:i≠7) (hc:Tt c) {a b d:Int} (ha:0<=a/\a<=1000) (hb:0<=b/\b<=1000) (hd:0<=d/\d<=1000)
include h4 h7 hc
def cl0(ha:0<=a/\a<=1000):B7 i c 0 a b d=some (.nx (0,a*10+((c.toNat:Int) - 48),b,d)):=by
 have h1:=hc.1;have h2:=hc.2;unfold B7;rw[K9 (a:=(i:Int)) (b:=4) (by omega),K9 (a:=(i:Int)) (b:=7) (by omega),Ic (b:=48) (by omega),Ic (a:=57) (by omega),aaQ hc];dsimp only[cond];rw[IX (a:=a) (by omega),CM (a:=a*10) (by omega)];rfl
def cl1(hb:0<=b/\b<=1000):B7 i c 1 a b d=some (.nx (1,a,b*10+((c.toNat:Int) - 48),d)):=by
 have h1:=hc.1;have h2:=hc.2;unfold B7;rw[K9 (a:=(i:Int)) (b:=4) (by omega),K9 (a:=(i:Int)) (b:=7) (by omega),Ic (b:=48) (by omega),Ic (a:=57) (by omega),aaQ hc];dsimp only[cond];rw[IX (a:=b) (by omega),CM (a:=b*10) (by omega)];rfl
def cl2(hd:0<=d/\d<=1000):B7 i c 2 a b d=some (.nx (2,a,b,d*10+((c.toNat:Int) - 48))):=by
 have h1:=hc.1;have h2:=hc.2;unfold B7;rw[K9 (a:=(i:Int)) (b:=4) (by omega),K9 (a:=(i:Int)) (b:=7) (by omega),Ic (b:=48) (by omega),Ic (a:=57) (by omega),aaQ hc];dsimp only[cond];rw[IX (a:=d) (by omega),CM (a:=d*10) (by omega)];rfl
end
abbrev clF:=CO (λi y (x:Int×Int×Int×Int)=>B7 i y x.1 x.2.1 x.2.2.1 x.2.2.2) (λx:Int×Int×Int×Int=>(x.2.1,x.2.2.1,x.2.2.2))
section
variable {i:Nat} {c:UInt8} (h4:i≠4) (h7:i≠7) (hc:Tt c) {a b d:Int} {l:List UInt8}
include h4 h7 hc
def fo0(ha:0<=a/\a<=1000):clF (c::l) i (0,a,b,d)=clF l (i+1) (0,a*10+((c.toNat:Int) - 48),b,d):=by
 show(B7 i c 0 a b d).bind _=_;rw[cl0 h4 h7 hc ha];rfl
def fo1(ha:0<=b/\b<=1000):clF (c::l) i (1,a,b,d)=clF l (i+1) (1,a,b*10+((c.toNat:Int) - 48),d):=by
 show(B7 i c 1 a b d).bind _=_;rw[cl1 h4 h7 hc ha];rfl
def fo2(ha:0<=d/\d<=1000):clF (c::l) i (2,a,b,d)=clF l (i+1) (2,a,b,d*10+((c.toNat:Int) - 48)):=by
 show(B7 i c 2 a b d).bind _=_;rw[cl2 h4 h7 hc ha];rfl
end
def fo4{l:List UInt8}{a b d:Int}:clF (45::l) (0+1+1+1+1) (0,a,b,d)=clF l (0+1+1+1+1+1) (1,a,b,d):=rfl
def fo7{l:List UInt8}{a b d:Int}:clF (45::l) (0+1+1+1+1+1+1+1) (1,a,b,d)=clF l (0+1+1+1+1+1+1+1+1) (2,a,b,d):=rfl
def wI{c0 c1 c2 c3 c5 c6 c8 c9:UInt8}(h0:Tt c0)(h1:Tt c1)(h2:Tt c2)(h3:Tt c3)(h5:Tt c5)(h6:Tt c6)(h8:Tt c8)(h9:Tt c9) :
   ∃z e,FA ⟨([c0,c1,c2,c3,45,c5,c6,45,c8,c9]:List UInt8).toArray⟩=some (z,e)/\(e=0->0<=z/\z<=36524):=by
 have b0:=h0;have b1:=h1;have b2:=h2;have b3:=h3;have b5:=h5;have b6:=h6;have b8:=h8;have b9:=h9;unfold Tt at b0 b1 b2 b3 b5 b6 b8 b9;obtain⟨z,e,hz,he⟩:=aaJ ((((0*10+((c0.toNat:Int) - 48))*10+((c1.toNat:Int) - 48))*10+((c2.toNat:Int) - 48))*10+((c3.toNat:Int) - 48)) ((0*10+((c5.toNat:Int) - 48))*10+((c6.toNat:Int) - 48)) ((0*10+((c8.toNat:Int) - 48))*10+((c9.toNat:Int) - 48)) (by omega) (by omega) (by omega);refine⟨z,e,?_,he⟩;unfold FA;rw[JS (by rfl)];dsimp only[cond]
 have key:CO (λi y x=>B7 i y x.1 x.2.1 x.2.2.1 x.2.2.2) (λx:Int×Int×Int×Int=>(x.2.1,x.2.2.1,x.2.2.2)) [c0,c1,c2,c3,45,c5,c6,45,c8,c9] 0 (0,0,0,0)=some (.inl ((((0*10+((c0.toNat:Int) - 48))*10+((c1.toNat:Int) - 48))*10+((c2.toNat:Int) - 48))*10+((c3.toNat:Int) - 48),(0*10+((c5.toNat:Int) - 48))*10+((c6.toNat:Int) - 48),(0*10+((c8.toNat:Int) - 48))*10+((c9.toNat:Int) - 48))):=by
   show clF [c0,c1,c2,c3,45,c5,c6,45,c8,c9] 0 (0,0,0,0)=_;rw[fo0 (by decide) (by decide) h0 (by omega)];rw[fo0 (by decide) (by decide) h1 (by omega)];rw[fo0 (by decide) (by decide) h2 (by omega)];rw[fo0 (by decide) (by decide) h3 (by omega)];rw[fo4];rw[fo1 (by decide) (by decide) h5 (by omega)];rw[fo1 (by decide) (by decide) h6 (by omega)];rw[fo7];rw[fo2 (by decide) (by decide) h8 (by omega)];rw[fo2 (by decide) (by decide) h9 (by omega)];rfl
 have hl:RT ([c0,c1,c2,c3,45,c5,c6,45,c8,c9]:List UInt8).length=λy:Option ((Int×Int×Int)⊕(Int×Int))=>y:=funext λy=>if_pos (by simp);simp only[List.toList_toArray,List.drop_zero];rw[hl,key];dsimp only[Option.bind,Ma];rw[hz]
end Mo
end Go.Proofs.YtpbkhogolfegfaaGreatDoor
