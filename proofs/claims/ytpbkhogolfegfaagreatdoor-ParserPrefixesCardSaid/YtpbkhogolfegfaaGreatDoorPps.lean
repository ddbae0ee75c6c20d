/- Part of a proof: see the last text. -/
import Derived.Test.YtpbkhogolfegfaaGreatDoorPpr
set_option linter.unusedVariables false
set_option linter.unusedSimpArgs false
set_option linter.defProp false
noncomputable section
namespace Go.Proofs.YtpbkhogolfegfaaGreatDoor
open AI Go
namespace Mo
set_option maxRecDepth 100000
def jJ:∀(n:Nat) (a b:Int),1<=a->0<=b->b < n->∃m,ET (λx:Int×Int=>Eh x.1 x.2) m (a,b)=some (.inl (oE n a b))/\1<=oE n a b/\oE n a b∣a/\oE n a b∣b:=by
 intro n
 induction n with
 | zero=>intro a b h1 h2 h3;omega
 | succ n ih =>
   intro a b h1 h2 h3;unfold oE;by_cases hb:b=0;rw[if_pos hb];subst hb;refine⟨1,?_,h1,Int.dvd_refl a,Int.dvd_zero a⟩;show(Eh a 0).bind _=_;rw[Eh,IX rfl];rfl;rw[if_neg hb];obtain⟨m,h4,h5,h6,h7⟩:=ih b (a % b) (by omega) (Int.emod_nonneg a hb) (by have:=Int.emod_lt_of_pos a (show 0 < b by omega);omega);refine⟨m+1,?_,h5,?_,h6⟩;show(Eh a b).bind _=_;rw[Eh,KE hb]
   have:VI a b=some (a % b):=by
     unfold VI gK;rw[if_neg hb,Int.tmod_eq_emod_of_nonneg (by omega)]
   dsimp only[cond];rw[this];exact h4;have:=Int.dvd_add h7 (Int.dvd_mul_of_dvd_left h6:_∣b*(a / b));rwa[Int.emod_add_mul_ediv] at this
def aa7{a b g:Int}(h:aa6 a b=some g):CQ a b=some g:=by
 unfold aa6 at h;split at h;rename_i hc;cases h;obtain⟨m,h1,_⟩:=jJ (b.toNat+1) a b hc.1 hc.2 (by omega);unfold CQ;rw[Fl h1];rfl;cases h
def aa8{a b:Int}(ha:1<=a)(hb:0<=b):∃g,aa6 a b=some g/\1<=g/\g∣a/\g∣b:=by
 obtain⟨m,_,h1⟩:=jJ (b.toNat+1) a b ha hb (by omega);exact⟨_,if_pos ⟨ha,hb⟩,h1⟩
section
variable {α β γ:Type} {ts:List Tk} {k:Nat} {en:Int} {r:α⊕Dg} {l:List Tk}
def JD(ts:List Tk)(k:Nat)(X:Option ((α⊕Dg)×Int))(r:α⊕Dg)(l:List Tk):Prop:=∃k':Nat,k<=k'/\k'<=ts.length/\l=ts.drop k'/\X=some (r,(k':Int))
def Ey(hk:k<=ts.length){q:α⊕Dg}{z:Int}(hz:z=(k:Int))(h:some (q,ts.drop k)=some (r,l)):JD ts k (some (q,z)) r l:=by
 simp only[Option.some.injEq,Prod.mk.injEq] at h;exact⟨k,Nat.le_refl k,hk,h.2.symm,by rw[h.1,hz]⟩
def LY{k2:Nat}{X:Option ((α⊕Dg)×Int)}(h1:k<=k2)(h:JD ts k2 X r l):JD ts k X r l:=by
 obtain⟨k',a,b,c,d⟩:=h;exact⟨k',Nat.le_trans h1 a,b,c,d⟩
def BE{F1:Option ((γ⊕Dg)×Int)}{F2:(γ⊕Dg)×Int->Option ((α⊕Dg)×Int)}{m:Rd γ}{K:γ->Rd α}
   (h1:∀{r l},m (ts.drop k)=some (r,l)->JD ts k F1 r l)
   (h2:∀a k',k<=k'->k'<=ts.length->K a (ts.drop k')=some (r,l)->JD ts k' (F2 (.inl a,(k':Int))) r l)
   (h3:∀d z,F2 (.inr d,z)=some (.inr d,z)) (hS:Cv m K (ts.drop k)=some (r,l)):JD ts k (F1.bind F2) r l:=by
 unfold Cv at hS;split at hS;cases hS;rename_i a s hm;obtain⟨k',a1,a2,rfl,a4⟩:=h1 hm;rw[a4];exact LY a1 (h2 _ _ a1 a2 hS);rename_i d s hm;obtain⟨k',a1,a2,rfl,a4⟩:=h1 hm;rw[a4,Option.bind_some,h3];simp only[Option.some.injEq,Prod.mk.injEq] at hS;exact⟨k',a1,a2,hS.2.symm,by rw[hS.1]⟩
def I0{X:Option γ}{K:γ->Rd α}{s:List Tk}(h:Lv X K s=some (r,l)):∃a,X=some a/\K a s=some (r,l):=by
 unfold Lv at h;split at h;cases h;exact⟨_,rfl,h⟩
def JS(ts:List Tk)(hk:k<=ts.length):(k=ts.length/\ts.drop k=[])\/∃t,k+1<=ts.length/\ts[k]?=some t/\ts.drop k=t::ts.drop (k+1):=by
 by_cases h:k < ts.length;exact .inr ⟨ts[k],h,List.getElem?_eq_getElem h,(List.drop_eq_getElem_cons h)⟩;exact .inl ⟨by omega,List.drop_eq_nil_of_le (by omega)⟩
def V1{F2:Tk⊕Dg->Option ((α⊕Dg)×Int)}{K:Tk->Rd α}(hk:k<=ts.length)
   (h2:∀t,k+1<=ts.length->ts.drop k=t::ts.drop (k+1)->K t (ts.drop k)=some (r,l)->JD ts k (F2 (.inl t)) r l)
   (h3:∀d,F2 (.inr d)=some (.inr d,(k:Int))) (hS:Ue en K (ts.drop k)=some (r,l)):JD ts k ((AF ⟨ts,k,en⟩).bind F2) r l:=by
 unfold Ue at hS;rcases JS ts hk with ⟨h1,nC⟩ | ⟨t,h1,nC,h3'⟩
 rw[nC] at hS;dsimp only at hS
 have:AF ⟨ts,k,en⟩=some (.inr ⟨72,en⟩):=by
   unfold AF;rw[YQ (by dsimp only;omega)];rfl
 rw[this,Option.bind_some,h3];simp only[Option.some.injEq,Prod.mk.injEq] at hS;exact⟨k,Nat.le_refl k,hk,by rw[nC,hS.2],by rw[hS.1]⟩;rw[h3'] at hS;dsimp only at hS
 have:AF ⟨ts,k,en⟩=some (.inl t):=by
   unfold AF;rw[U5 (by dsimp only;omega)];dsimp only[cond];unfold Hc;rw[if_pos (by omega),Int.toNat_natCast,nC];rfl
 rw[this,Option.bind_some];exact h2 t h1 h3' (by rw[h3'];exact hS)
def GY(hk:k<=ts.length)(x:ByteArray):As ⟨ts,k,en⟩ x=some (Ii x (ts.drop k)):=by
 unfold As;rcases JS ts hk with ⟨h1,nC⟩ | ⟨t,h1,nC,h3'⟩
 rw[nC,Hp (by dsimp only;omega)];rfl;rw[h3',GQ (by dsimp only;omega)];dsimp only[cond];unfold Hc;rw[if_pos (by omega),Int.toNat_natCast,nC];rfl
def Zk{x:ByteArray}(hk:k<=ts.length)(h:Ii x (ts.drop k)=true):∃t,k+1<=ts.length/\ts.drop k=t::ts.drop (k+1):=by
 rcases JS ts hk with ⟨h1,nC⟩ | ⟨t,h1,nC,h3'⟩
 rw[nC] at h;cases h;exact⟨t,h1,h3'⟩
def ED(D9:ts.length<=1000000)(hk:k<=ts.length):BC (k:Int) 1=((k+1:Nat):Int):=by
 rw[C5 (by omega)];rfl
def Z3{K:Rd α}{t:Tk}(ht:ts.drop k=t::ts.drop (k+1))(h:Uz K (ts.drop k)=some (r,l)):K (ts.drop (k+1))=some (r,l):=by
 rw[ht] at h;exact h
def tW{F2:Bool->Option ((α⊕Dg)×Int)}{A B:Rd α}{x:ByteArray}(hk:k<=ts.length)
   (h1:k+1<=ts.length->A (ts.drop (k+1))=some (r,l)->JD ts (k+1) (F2 true) r l) (h2:B (ts.drop k)=some (r,l)->JD ts k (F2 false) r l)
   (hS:OD x A B (ts.drop k)=some (r,l)):JD ts k ((As ⟨ts,k,en⟩ x).bind F2) r l:=by
 unfold OD at hS;rw[GY hk,Option.bind_some];cases hx:Ii x (ts.drop k) with
 | true =>
   rw[hx] at hS;obtain⟨t,ht1,ht2⟩:=Zk hk hx;exact LY (Nat.le_succ k) (h1 ht1 (Z3 ht2 hS))
 | false =>
   rw[hx] at hS;exact h2 hS
end
section
variable {ts:List Tk} (D9:ts.length<=1000000) {en:Int}
include D9
def Rm(fits:Tk->Option Bool){k:Nat}(hk:k<=ts.length){r l}(hS:Lm en fits (ts.drop k)=some (r,l)) :
   JD ts k ((AF ⟨ts,k,en⟩).bind λy1=>Sum.elim (λ(CM:Tk)=>(fits CM).bind λy2=>cond y2 (some ((Sum.inl CM:(Tk⊕Dg)),(BC (k:Int) 1))) (some ((Sum.inr (⟨71,CM.AH⟩:Dg):(Tk⊕Dg)),(k:Int)))) (λ(L9:Dg)=>some ((Sum.inr L9:(Tk⊕Dg)),(k:Int))) y1) r l:=by
 refine V1 hk (λt h1 h2 hS=>?_) (λ_=>rfl) hS;obtain⟨b,hb,hS⟩:=I0 hS;dsimp only[Sum.elim];rw[hb,Option.bind_some];cases b with
 | true =>
   have:=Z3 h2 hS;rw[cond,ED D9 hk];exact LY (Nat.le_succ k) (Ey h1 rfl this)
 | false=>exact Ey hk rfl hS
def IY(x:ByteArray){k:Nat}(hk:k<=ts.length){r l}(hS:Jc en x (ts.drop k)=some (r,l)):JD ts k (Ak ⟨ts,k,en⟩ x) r l:=by
 obtain⟨k',a1,a2,a3,a4⟩:=Rm D9 (λt=>Dz t x) hk hS;refine⟨k',a1,a2,a3,?_⟩;unfold Ak Gv;rw[a4,Option.bind_some];cases r<;>rfl
def acj{k:Nat}(hk:k<=ts.length){r l}(hS:bA en (ts.drop k)=some (r,l)):JD ts k (DI ⟨ts,k,en⟩) r l:=Rm D9 Cz hk hS
def alk{k:Nat}(hk:k<=ts.length){r l}(hS:lY en (ts.drop k)=some (r,l)):JD ts k (EN ⟨ts,k,en⟩) r l:=Rm D9 Fi hk hS
def akX{k:Nat}(hk:k<=ts.length){r l}(hS:bO en (ts.drop k)=some (r,l)):JD ts k (Gb ⟨ts,k,en⟩) r l:=Rm D9 BX hk hS
def kE{k:Nat}(hk:k<=ts.length){r l}(hS:Mu en (ts.drop k)=some (r,l)):JD ts k (E4 ⟨ts,k,en⟩) r l:=by
 refine BE (λh=>Rm D9 Eu hk h) (λt k' h1 h2 hS=>?_) (λ_ _=>rfl) hS;obtain⟨n,hn,hS⟩:=I0 hS;dsimp only[Sum.elim];rw[hn];exact Ey h2 rfl hS
def Pj(least:Int){k:Nat}(hk:k<=ts.length){r l}(hS:LU en least (ts.drop k)=some (r,l)):JD ts k (AL ⟨ts,k,en⟩ least) r l:=by
 refine BE (λh=>kE D9 hk h) (λt k' h1 h2 hS=>?_) (λ_ _=>rfl) hS;dsimp only[Sum.elim];revert hS;cases DS t.1 least;cases DS 1000000 t.1<;>exact λhS=>Ey h2 rfl hS
 exact λhS=>Ey h2 rfl hS
def dN(least:Int){k:Nat}(hk:k<=ts.length){r l}(hS:Rz en least (ts.drop k)=some (r,l)):JD ts k (D3 ⟨ts,k,en⟩ least) r l:=by
 refine BE (λh=>Rm D9 E3 hk h) (λt k' h1 h2 hS=>?_) (λ_ _=>rfl) hS;obtain⟨n,hn,hS⟩:=I0 hS;dsimp only[Sum.elim];rw[hn,Option.bind_some];revert hS;cases CV n.2 0;exact λhS=>Ey h2 rfl hS;cases DS n.1 least<;>exact λhS=>Ey h2 rfl hS
def ajI{k:Nat}(hk:k<=ts.length){r l}(hS:UX en (ts.drop k)=some (r,l)):JD ts k (Hv ⟨ts,k,en⟩) r l:=by
 refine BE (λh=>IY D9 _ hk h) (λt k h hk hS=>?_) (λ_ _=>rfl) hS;refine BE (λh=>Pj D9 _ hk h) (λn k h hk hS=>?_) (λ_ _=>rfl) hS;refine BE (λh=>IY D9 _ hk h) (λ_ k h hk hS=>?_) (λ_ _=>rfl) hS;refine BE (λh=>dN D9 _ hk h) (λf k h hk hS=>?_) (λ_ _=>rfl) hS;refine tW hk (λWu hS=>?_) (λhS=>?_) hS;dsimp only[cond];rw[ED D9 hk];refine BE (λh=>dN D9 _ Wu h) (λu k h hk hS=>?_) (λ_ _=>rfl) hS;refine BE (λh=>IY D9 _ hk h) (λ_ k h hk hS=>?_) (λ_ _=>rfl) hS;refine BE (λh=>dN D9 _ hk h) (λf k h hk hS=>?_) (λ_ _=>rfl) hS;exact Ey hk rfl hS;refine BE (λh=>IY D9 _ hk h) (λ_ k h hk hS=>?_) (λ_ _=>rfl) hS;refine BE (λh=>dN D9 _ hk h) (λf k h hk hS=>?_) (λ_ _=>rfl) hS;exact Ey hk rfl hS
def aaF{k:Nat}(hk:k<=ts.length){r l}(hS:Pa en (ts.drop k)=some (r,l)):JD ts k (DH ⟨ts,k,en⟩) r l:=by
 refine V1 hk (λt h1 h2 hS=>?_) (λ_=>rfl) hS;have hS:=Z3 h2 hS;dsimp only[Sum.elim];rw[ED D9 hk];refine LY (Nat.le_succ k) ?_;refine BE (λh=>acj D9 h1 h) (λm k h hk hS=>?_) (λ_ _=>rfl) hS;refine BE (λh=>IY D9 _ hk h) (λ_ k h hk hS=>?_) (λ_ _=>rfl) hS;refine BE (λh=>alk D9 hk h) (λu k h hk hS=>?_) (λ_ _=>rfl) hS;dsimp only[Sum.elim];revert hS;cases B2 t.text.data.toList Of.data.toList;intro hS;refine BE (λh=>IY D9 _ hk h) (λ_ k h hk hS=>?_) (λ_ _=>rfl) hS;exact Ey hk rfl hS;intro hS;refine BE (λh=>akX D9 hk h) (λq k h hk hS=>?_) (λ_ _=>rfl) hS;obtain⟨n,hn,hS⟩:=I0 hS;dsimp only[Sum.elim];rw[hn,Option.bind_some];refine BE (λh=>IY D9 _ hk h) (λ_ k h hk hS=>?_) (λ_ _=>rfl) hS;exact Ey hk rfl hS
def U8{k:Nat}(hk:k<=ts.length){r l}(hS:FT en (ts.drop k)=some (r,l)):JD ts k (AP ⟨ts,k,en⟩) r l:=by
 refine BE (λh=>Pj D9 _ hk h) (λn k h hk hS=>?_) (λ_ _=>rfl) hS;exact Ey hk rfl hS
def gH{k:Nat}(hk:k<=ts.length){r l}(hS:Nk en (ts.drop k)=some (r,l)):JD ts k (BV ⟨ts,k,en⟩) r l:=by
 refine BE (λh=>Rm D9 Dq hk h) (λt k' h1 h2 hS=>?_) (λ_ _=>rfl) hS;obtain⟨n,hn,hS⟩:=I0 hS;dsimp only[Sum.elim];rw[hn,Option.bind_some];revert hS;cases CV t.kind 3;exact λhS=>Ey h2 rfl hS;cases CV n 0<;>exact λhS=>Ey h2 rfl hS
def adb{k:Nat}(hk:k<=ts.length){r l}(hS:Vh en (ts.drop k)=some (r,l)):JD ts k (Cl ⟨ts,k,en⟩) r l:=by
 refine BE (λh=>Rm D9 E6 hk h) (λt k' h1 h2 hS=>?_) (λ_ _=>rfl) hS;dsimp only[Sum.elim];revert hS;cases B2 t.text.data.toList Lu.data.toList<;>exact λhS=>Ey h2 rfl hS
end
end Mo
end Go.Proofs.YtpbkhogolfegfaaGreatDoor
namespace Go.Proofs.YtpbkhogolfegfaaGreatDoor
open AI Go
namespace Mo
set_option maxRecDepth 100000
section
variable {α β:Type} {ts:List Tk} {k:Nat} {en:Int} {r:α⊕Dg} {l:List Tk}
def Q3(N:Nd):(⟨N.kind,N.name,N.unit,N.n,N.fr,N.to,N.known,⟨N.CZ.den,N.CZ.ps⟩,N.kids,N.AH⟩:Nd)=N:=by cases N;rfl
def II{m:Rd β}{K:β->Rd α}{s:List Tk}(h:Cv m K s=some (r,l)):(∃a s',m s=some (.inl a,s')/\K a s'=some (r,l))\/∃d,m s=some (.inr d,l)/\r=.inr d:=by
 unfold Cv at h;split at h;cases h;rename_i a s' hm;exact .inl ⟨a,s',hm,h⟩;rename_i d s' hm;simp only[Option.some.injEq,Prod.mk.injEq] at h;exact .inr ⟨d,by rw[hm,h.2],h.1.symm⟩
def LZ{A B:Rd α}{x:ByteArray}(hk:k<=ts.length)(h:OD x A B (ts.drop k)=some (r,l)) :
   (Ii x (ts.drop k)=true/\k+1<=ts.length/\A (ts.drop (k+1))=some (r,l))\/(Ii x (ts.drop k)=false/\B (ts.drop k)=some (r,l)):=by
 unfold OD at h;cases hx:Ii x (ts.drop k) with
 | true =>
   rw[hx] at h;obtain⟨t,ht1,ht2⟩:=Zk hk hx;exact .inl ⟨rfl,ht1,Z3 ht2 h⟩
 | false =>
   rw[hx] at h;exact .inr ⟨rfl,h⟩
def acs{K:Rd α}(hk:k<=ts.length)(h:Uz K (ts.drop k)=some (r,l)):k+1<=ts.length/\K (ts.drop (k+1))=some (r,l):=by
 rcases JS ts hk with ⟨h1,nC⟩ | ⟨t,h1,nC,h3'⟩
 rw[nC] at h;cases h;exact⟨h1,Z3 h3' h⟩
def MM{n:Nat}{m:Rd α}{s:List Tk}(h:OC n m s=some (r,l)):n<=100000000/\m s=some (r,l):=acb h
def KN{a:β}{q:β⊕Dg}{s:List Tk}(h:FZ a s=some (q,l)):q=.inl a/\l=s:=by
 simp only[FZ,Option.some.injEq,Prod.mk.injEq] at h;exact⟨h.1.symm,h.2.symm⟩
def MJ{e p:Int}{s:List Tk}(h:L8 e p s=some (r,l)):r=.inr ⟨e,p⟩/\l=s:=by
 simp only[L8,Option.some.injEq,Prod.mk.injEq] at h;exact⟨h.1.symm,h.2.symm⟩
def afX{yes:ByteArray->Rd α}{no:Rd α}(hk:k<=ts.length)(hS:kH yes no (opsOf 0) (ts.drop k)=some (r,l)) :
   (∃x,k+1<=ts.length/\Dj ⟨ts,k,en⟩=some (x,true)/\yes x (ts.drop (k+1))=some (r,l))\/(Dj ⟨ts,k,en⟩=some (bE,false)/\no (ts.drop k)=some (r,l)):=by
 unfold Dj;simp only[GY hk,Option.bind_some];rcases LZ hk hS with ⟨h0,h,hy⟩ | ⟨h0,hS⟩
 refine .inl ⟨_,h,?_,hy⟩;simp only[h0,cond_true,cond_false];refine .inr ⟨?_,hS⟩;simp only[h0,cond_false]
def afY{yes:ByteArray->Rd α}{no:Rd α}(hk:k<=ts.length)(hS:kH yes no (opsOf 1) (ts.drop k)=some (r,l)) :
   (∃x,k+1<=ts.length/\Dk ⟨ts,k,en⟩=some (x,true)/\yes x (ts.drop (k+1))=some (r,l))\/(Dk ⟨ts,k,en⟩=some (bE,false)/\no (ts.drop k)=some (r,l)):=by
 unfold Dk;simp only[GY hk,Option.bind_some];rcases LZ hk hS with ⟨h0,h,hy⟩ | ⟨h0,hS⟩
 refine .inl ⟨_,h,?_,hy⟩;simp only[h0,cond_true,cond_false];refine .inr ⟨?_,hS⟩;simp only[h0,cond_false]
def afZ{yes:ByteArray->Rd α}{no:Rd α}(hk:k<=ts.length)(hS:kH yes no (opsOf 3) (ts.drop k)=some (r,l)) :
   (∃x,k+1<=ts.length/\Dl ⟨ts,k,en⟩=some (x,true)/\yes x (ts.drop (k+1))=some (r,l))\/(Dl ⟨ts,k,en⟩=some (bE,false)/\no (ts.drop k)=some (r,l)):=by
 unfold Dl;simp only[GY hk,Option.bind_some];rcases LZ hk hS with ⟨h0,h,hy⟩ | ⟨h0,hS⟩
 refine .inl ⟨_,h,?_,hy⟩;simp only[h0,cond_true,cond_false];rcases LZ hk hS with ⟨h1,h,hy⟩ | ⟨h1,hS⟩
 refine .inl ⟨_,h,?_,hy⟩;simp only[h0,h1,cond_true,cond_false];rcases LZ hk hS with ⟨h2,h,hy⟩ | ⟨h2,hS⟩
 refine .inl ⟨_,h,?_,hy⟩;simp only[h0,h1,h2,cond_true,cond_false];rcases LZ hk hS with ⟨h3,h,hy⟩ | ⟨h3,hS⟩
 refine .inl ⟨_,h,?_,hy⟩;simp only[h0,h1,h2,h3,cond_true,cond_false];rcases LZ hk hS with ⟨h4,h,hy⟩ | ⟨h4,hS⟩
 refine .inl ⟨_,h,?_,hy⟩;simp only[h0,h1,h2,h3,h4,cond_true,cond_false];rcases LZ hk hS with ⟨h5,h,hy⟩ | ⟨h5,hS⟩
 refine .inl ⟨_,h,?_,hy⟩;simp only[h0,h1,h2,h3,h4,h5,cond_true,cond_false];refine .inr ⟨?_,hS⟩;simp only[h0,h1,h2,h3,h4,h5,cond_false]
def af0{yes:ByteArray->Rd α}{no:Rd α}(hk:k<=ts.length)(hS:kH yes no (opsOf 4) (ts.drop k)=some (r,l)) :
   (∃x,k+1<=ts.length/\Dm ⟨ts,k,en⟩=some (x,true)/\yes x (ts.drop (k+1))=some (r,l))\/(Dm ⟨ts,k,en⟩=some (bE,false)/\no (ts.drop k)=some (r,l)):=by
 unfold Dm;simp only[GY hk,Option.bind_some];rcases LZ hk hS with ⟨h0,h,hy⟩ | ⟨h0,hS⟩
 refine .inl ⟨_,h,?_,hy⟩;simp only[h0,cond_true,cond_false];rcases LZ hk hS with ⟨h1,h,hy⟩ | ⟨h1,hS⟩
 refine .inl ⟨_,h,?_,hy⟩;simp only[h0,h1,cond_true,cond_false];refine .inr ⟨?_,hS⟩;simp only[h0,h1,cond_false]
def af1{yes:ByteArray->Rd α}{no:Rd α}(hk:k<=ts.length)(hS:kH yes no (opsOf 5) (ts.drop k)=some (r,l)) :
   (∃x,k+1<=ts.length/\Dp ⟨ts,k,en⟩=some (x,true)/\yes x (ts.drop (k+1))=some (r,l))\/(Dp ⟨ts,k,en⟩=some (bE,false)/\no (ts.drop k)=some (r,l)):=by
 unfold Dp;simp only[GY hk,Option.bind_some];rcases LZ hk hS with ⟨h0,h,hy⟩ | ⟨h0,hS⟩
 refine .inl ⟨_,h,?_,hy⟩;simp only[h0,cond_true,cond_false];rcases LZ hk hS with ⟨h1,h,hy⟩ | ⟨h1,hS⟩
 refine .inl ⟨_,h,?_,hy⟩;simp only[h0,h1,cond_true,cond_false];rcases LZ hk hS with ⟨h2,h,hy⟩ | ⟨h2,hS⟩
 refine .inl ⟨_,h,?_,hy⟩;simp only[h0,h1,h2,cond_true,cond_false];refine .inr ⟨?_,hS⟩;simp only[h0,h1,h2,cond_false]
end
structure Agr(R:Ad)(ts:List Tk)(en:Int)(g:Ek->Rd Nd)(li:Rd (List Nd)):Prop where
 ex:∀{k:Nat},k<=ts.length->∀{r l},g .ex (ts.drop k)=some (r,l)->JD ts k (R.AO ⟨ts,k,en⟩) r l
 l0:∀{k:Nat},k<=ts.length->∀{r l},g (.lv 0) (ts.drop k)=some (r,l)->JD ts k (R.Eo ⟨ts,k,en⟩) r l
 l1:∀{k:Nat},k<=ts.length->∀{r l},g (.lv 1) (ts.drop k)=some (r,l)->JD ts k (R.B8 ⟨ts,k,en⟩) r l
 l2:∀{k:Nat},k<=ts.length->∀{r l},g (.lv 2) (ts.drop k)=some (r,l)->JD ts k (R.BG ⟨ts,k,en⟩) r l
 l3:∀{k:Nat},k<=ts.length->∀{r l},g (.lv 3) (ts.drop k)=some (r,l)->JD ts k (R.CI ⟨ts,k,en⟩) r l
 l4:∀{k:Nat},k<=ts.length->∀{r l},g (.lv 4) (ts.drop k)=some (r,l)->JD ts k (R.CJ ⟨ts,k,en⟩) r l
 l5:∀{k:Nat},k<=ts.length->∀{r l},g (.lv 5) (ts.drop k)=some (r,l)->JD ts k (R.Ca ⟨ts,k,en⟩) r l
 l6:∀{k:Nat},k<=ts.length->∀{r l},g (.lv 6) (ts.drop k)=some (r,l)->JD ts k (R.Cb ⟨ts,k,en⟩) r l
 at_:∀{k:Nat},k<=ts.length->∀{r l},g .at_ (ts.drop k)=some (r,l)->JD ts k (R.FD ⟨ts,k,en⟩) r l
 wd:∀(t:Tk) {k:Nat},k<=ts.length->∀{r l},g (.wd t) (ts.drop k)=some (r,l)->JD ts k (R.FF ⟨ts,k,en⟩ t) r l
 ca:∀{k:Nat},k<=ts.length->∀{r l},g .ca (ts.drop k)=some (r,l)->JD ts k (R.Dv ⟨ts,k,en⟩) r l
 ta:∀{k:Nat},k<=ts.length->∀{r l},g .ta (ts.drop k)=some (r,l)->JD ts k (R.Fc ⟨ts,k,en⟩) r l
 li:∀{k:Nat},k<=ts.length->∀{r l},li (ts.drop k)=some (r,l)->JD ts k (R.DU ⟨ts,k,en⟩) r l
section
variable {ts:List Tk} (D9:ts.length<=1000000) {en:Int}
include D9
def NO{sub:Rd Nd}{F:Pr->Option ((Nd⊕Dg)×Int)}{k:Nat}(hk:k<=ts.length)(LI:∀{r l},sub (ts.drop k)=some (r,l)->JD ts k (F ⟨ts,k,en⟩) r l){x:ByteArray}{N:Nd}{r l}(hS:PS en sub x N (ts.drop k)=some (r,l)) :
   ∃k':Nat,k<=k'/\k'<=ts.length/\l=ts.drop k'/\((∃n b,cond (B2 x.data.toList EH.data.toList) (AP ⟨ts,k,en⟩) (F ⟨ts,k,en⟩)=some (.inl n,(k':Int))/\Bl x N n=some b/\r=.inl b)\/∃d,cond (B2 x.data.toList EH.data.toList) (AP ⟨ts,k,en⟩) (F ⟨ts,k,en⟩)=some (.inr d,(k':Int))/\r=.inr d):=by
 have key:∀{r l},(cond (B2 x.data.toList EH.data.toList) (FT en) sub) (ts.drop k)=some (r,l)->JD ts k (cond (B2 x.data.toList EH.data.toList) (AP ⟨ts,k,en⟩) (F ⟨ts,k,en⟩)) r l:=by
   intro r l h;revert h;cases B2 x.data.toList EH.data.toList;exact λh=>LI h;exact λh=>U8 D9 hk h
 rcases II hS with ⟨n,s',h1,h2⟩ | ⟨d,h1,h2⟩
 obtain⟨b,hb,h2⟩:=I0 h2;obtain⟨rfl,rfl⟩:=KN h2;obtain⟨k',a1,a2,a3,a4⟩:=key h1;exact⟨k',a1,a2,a3,.inl ⟨n,b,a4,hb,rfl⟩⟩;obtain⟨k',a1,a2,a3,a4⟩:=key h1;exact⟨k',a1,a2,a3,.inr ⟨d,a4,h2⟩⟩
def aar{R:Ad}{sub:Rd Nd}(LI:∀{k:Nat},k<=ts.length->∀{r l},sub (ts.drop k)=some (r,l)->JD ts k (R.B8 ⟨ts,k,en⟩) r l)(k0:Int) :
   ∀(q:Nat) (N:Nd) (k:Nat) (r:Nd⊕Dg) (l:List Tk),k<=ts.length->Jb en (opsOf 0) sub q N (ts.drop k)=some (r,l) ->
   ∃k':Nat,k<=k'/\k'<=ts.length/\l=ts.drop k'/\∃n,ET (λx=>Bw R ⟨ts,k0,en⟩ x.1 x.2.1 x.2.2.1 x.2.2.2.1 x.2.2.2.2.1 x.2.2.2.2.2.1 x.2.2.2.2.2.2.1 x.2.2.2.2.2.2.2.1 x.2.2.2.2.2.2.2.2.1 x.2.2.2.2.2.2.2.2.2.1 x.2.2.2.2.2.2.2.2.2.2.1 x.2.2.2.2.2.2.2.2.2.2.2) n (N.kind,N.name,N.unit,N.n,N.fr,N.to,N.known,N.CZ.den,N.CZ.ps,N.kids,N.AH,(k:Int))=some (.inr (r,(k':Int))):=by
 intro q
 induction q with
 | zero=>intro N k r l hk hS;cases hS
 | succ q ih =>
   intro N k r l hk hS;rcases afX (en:=en) hk hS with ⟨x,h1,h2,hS⟩ | ⟨h2,hS⟩
   rcases II hS with ⟨b,s',h3,h4⟩ | ⟨d,h3,rfl⟩
   obtain⟨k',a1,a2,rfl,⟨n,b',hX,hb,hr⟩ | ⟨d,hX,hr⟩⟩:=NO D9 h1 (λh=>LI h1 h) h3;cases hr;obtain⟨k2,b1,b2,b3,m,b4⟩:=ih b k' r l a2 h4;refine⟨k2,by omega,b2,b3,m+1,?_⟩
   have hL:Bw R ⟨ts,k0,en⟩ N.kind N.name N.unit N.n N.fr N.to N.known N.CZ.den N.CZ.ps N.kids N.AH (k:Int)=some (.nx (b.kind,b.name,b.unit,b.n,b.fr,b.to,b.known,b.CZ.den,b.CZ.ps,b.kids,b.AH,(k':Int))):=by
     unfold Bw;dsimp only;rw[h2];dsimp only[Option.bind,cond];rw[ED D9 hk];cases hE:B2 x.data.toList EH.data.toList <;>
     rw[hE] at hX;dsimp only[cond] at hX;dsimp only;rw[hX];dsimp only[Sum.elim];rw[Q3,hb]
   show(Bw R ⟨ts,k0,en⟩ N.kind N.name N.unit N.n N.fr N.to N.known N.CZ.den N.CZ.ps N.kids N.AH (k:Int)).bind _=_;rw[hL];exact b4;cases hr;obtain⟨k',a1,a2,rfl,⟨n,b',hX,hb,hr⟩ | ⟨d',hX,hr⟩⟩:=NO D9 h1 (λh=>LI h1 h) h3;cases hr;cases hr;refine⟨k',by omega,a2,rfl,1,?_⟩
   have hL:Bw R ⟨ts,k0,en⟩ N.kind N.name N.unit N.n N.fr N.to N.known N.CZ.den N.CZ.ps N.kids N.AH (k:Int)=some (.rt (.inr d,(k':Int))):=by
     unfold Bw;dsimp only;rw[h2];dsimp only[Option.bind,cond];rw[ED D9 hk];cases hE:B2 x.data.toList EH.data.toList <;>
     rw[hE] at hX;dsimp only[cond] at hX;dsimp only;rw[hX];rfl
   show(Bw R ⟨ts,k0,en⟩ N.kind N.name N.unit N.n N.fr N.to N.known N.CZ.den N.CZ.ps N.kids N.AH (k:Int)).bind _=_;rw[hL];rfl;obtain⟨rfl,rfl⟩:=KN hS;refine⟨k,Nat.le_refl k,hk,rfl,1,?_⟩
   have hL:Bw R ⟨ts,k0,en⟩ N.kind N.name N.unit N.n N.fr N.to N.known N.CZ.den N.CZ.ps N.kids N.AH (k:Int)=some (.rt (.inl N,(k:Int))):=by
     unfold Bw;dsimp only;rw[h2,Q3];rfl
   show(Bw R ⟨ts,k0,en⟩ N.kind N.name N.unit N.n N.fr N.to N.known N.CZ.den N.CZ.ps N.kids N.AH (k:Int)).bind _=_;rw[hL];rfl
def ab4{R:Ad}{g:Ek->Rd Nd}(LI:∀{k:Nat},k<=ts.length->∀{r l},g (.lv 1) (ts.drop k)=some (r,l)->JD ts k (R.B8 ⟨ts,k,en⟩) r l){k:Nat}(hk:k<=ts.length){r l}(hS:Nb en g 0 (ts.drop k)=some (r,l)) :
   JD ts k (F6 R ⟨ts,k,en⟩) r l:=by
 refine BE (λh=>LI hk h) (λN k' h1 h2 hS=>?_) (λ_ _=>rfl) hS;obtain⟨k2,a1,a2,a3,n,a4⟩:=aar D9 LI (k:Int) _ N k' r l h2 hS;refine⟨k2,a1,a2,a3,?_⟩;dsimp only[Sum.elim];rw[Fl a4];rfl
def aas{R:Ad}{sub:Rd Nd}(LI:∀{k:Nat},k<=ts.length->∀{r l},sub (ts.drop k)=some (r,l)->JD ts k (R.BG ⟨ts,k,en⟩) r l)(k0:Int) :
   ∀(q:Nat) (N:Nd) (k:Nat) (r:Nd⊕Dg) (l:List Tk),k<=ts.length->Jb en (opsOf 1) sub q N (ts.drop k)=some (r,l) ->
   ∃k':Nat,k<=k'/\k'<=ts.length/\l=ts.drop k'/\∃n,ET (λx=>By R ⟨ts,k0,en⟩ x.1 x.2.1 x.2.2.1 x.2.2.2.1 x.2.2.2.2.1 x.2.2.2.2.2.1 x.2.2.2.2.2.2.1 x.2.2.2.2.2.2.2.1 x.2.2.2.2.2.2.2.2.1 x.2.2.2.2.2.2.2.2.2.1 x.2.2.2.2.2.2.2.2.2.2.1 x.2.2.2.2.2.2.2.2.2.2.2) n (N.kind,N.name,N.unit,N.n,N.fr,N.to,N.known,N.CZ.den,N.CZ.ps,N.kids,N.AH,(k:Int))=some (.inr (r,(k':Int))):=by
 intro q
 induction q with
 | zero=>intro N k r l hk hS;cases hS
 | succ q ih =>
   intro N k r l hk hS;rcases afY (en:=en) hk hS with ⟨x,h1,h2,hS⟩ | ⟨h2,hS⟩
   rcases II hS with ⟨b,s',h3,h4⟩ | ⟨d,h3,rfl⟩
   obtain⟨k',a1,a2,rfl,⟨n,b',hX,hb,hr⟩ | ⟨d,hX,hr⟩⟩:=NO D9 h1 (λh=>LI h1 h) h3;cases hr;obtain⟨k2,b1,b2,b3,m,b4⟩:=ih b k' r l a2 h4;refine⟨k2,by omega,b2,b3,m+1,?_⟩
   have hL:By R ⟨ts,k0,en⟩ N.kind N.name N.unit N.n N.fr N.to N.known N.CZ.den N.CZ.ps N.kids N.AH (k:Int)=some (.nx (b.kind,b.name,b.unit,b.n,b.fr,b.to,b.known,b.CZ.den,b.CZ.ps,b.kids,b.AH,(k':Int))):=by
     unfold By;dsimp only;rw[h2];dsimp only[Option.bind,cond];rw[ED D9 hk];cases hE:B2 x.data.toList EH.data.toList <;>
     rw[hE] at hX;dsimp only[cond] at hX;dsimp only;rw[hX];dsimp only[Sum.elim];rw[Q3,hb]
   show(By R ⟨ts,k0,en⟩ N.kind N.name N.unit N.n N.fr N.to N.known N.CZ.den N.CZ.ps N.kids N.AH (k:Int)).bind _=_;rw[hL];exact b4;cases hr;obtain⟨k',a1,a2,rfl,⟨n,b',hX,hb,hr⟩ | ⟨d',hX,hr⟩⟩:=NO D9 h1 (λh=>LI h1 h) h3;cases hr;cases hr;refine⟨k',by omega,a2,rfl,1,?_⟩
   have hL:By R ⟨ts,k0,en⟩ N.kind N.name N.unit N.n N.fr N.to N.known N.CZ.den N.CZ.ps N.kids N.AH (k:Int)=some (.rt (.inr d,(k':Int))):=by
     unfold By;dsimp only;rw[h2];dsimp only[Option.bind,cond];rw[ED D9 hk];cases hE:B2 x.data.toList EH.data.toList <;>
     rw[hE] at hX;dsimp only[cond] at hX;dsimp only;rw[hX];rfl
   show(By R ⟨ts,k0,en⟩ N.kind N.name N.unit N.n N.fr N.to N.known N.CZ.den N.CZ.ps N.kids N.AH (k:Int)).bind _=_;rw[hL];rfl;obtain⟨rfl,rfl⟩:=KN hS;refine⟨k,Nat.le_refl k,hk,rfl,1,?_⟩
   have hL:By R ⟨ts,k0,en⟩ N.kind N.name N.unit N.n N.fr N.to N.known N.CZ.den N.CZ.ps N.kids N.AH (k:Int)=some (.rt (.inl N,(k:Int))):=by
     unfold By;dsimp only;rw[h2,Q3];rfl
   show(By R ⟨ts,k0,en⟩ N.kind N.name N.unit N.n N.fr N.to N.known N.CZ.den N.CZ.ps N.kids N.AH (k:Int)).bind _=_;rw[hL];rfl
def ab5{R:Ad}{g:Ek->Rd Nd}(LI:∀{k:Nat},k<=ts.length->∀{r l},g (.lv 2) (ts.drop k)=some (r,l)->JD ts k (R.BG ⟨ts,k,en⟩) r l){k:Nat}(hk:k<=ts.length){r l}(hS:Nb en g 1 (ts.drop k)=some (r,l)) :
   JD ts k (F7 R ⟨ts,k,en⟩) r l:=by
 refine BE (λh=>LI hk h) (λN k' h1 h2 hS=>?_) (λ_ _=>rfl) hS;obtain⟨k2,a1,a2,a3,n,a4⟩:=aas D9 LI (k:Int) _ N k' r l h2 hS;refine⟨k2,a1,a2,a3,?_⟩;dsimp only[Sum.elim];rw[Fl a4];rfl
def aat{R:Ad}{sub:Rd Nd}(LI:∀{k:Nat},k<=ts.length->∀{r l},sub (ts.drop k)=some (r,l)->JD ts k (R.Ca ⟨ts,k,en⟩) r l)(k0:Int) :
   ∀(q:Nat) (N:Nd) (k:Nat) (r:Nd⊕Dg) (l:List Tk),k<=ts.length->Jb en (opsOf 4) sub q N (ts.drop k)=some (r,l) ->
   ∃k':Nat,k<=k'/\k'<=ts.length/\l=ts.drop k'/\∃n,ET (λx=>Bz R ⟨ts,k0,en⟩ x.1 x.2.1 x.2.2.1 x.2.2.2.1 x.2.2.2.2.1 x.2.2.2.2.2.1 x.2.2.2.2.2.2.1 x.2.2.2.2.2.2.2.1 x.2.2.2.2.2.2.2.2.1 x.2.2.2.2.2.2.2.2.2.1 x.2.2.2.2.2.2.2.2.2.2.1 x.2.2.2.2.2.2.2.2.2.2.2) n (N.kind,N.name,N.unit,N.n,N.fr,N.to,N.known,N.CZ.den,N.CZ.ps,N.kids,N.AH,(k:Int))=some (.inr (r,(k':Int))):=by
 intro q
 induction q with
 | zero=>intro N k r l hk hS;cases hS
 | succ q ih =>
   intro N k r l hk hS;rcases af0 (en:=en) hk hS with ⟨x,h1,h2,hS⟩ | ⟨h2,hS⟩
   rcases II hS with ⟨b,s',h3,h4⟩ | ⟨d,h3,rfl⟩
   obtain⟨k',a1,a2,rfl,⟨n,b',hX,hb,hr⟩ | ⟨d,hX,hr⟩⟩:=NO D9 h1 (λh=>LI h1 h) h3;cases hr;obtain⟨k2,b1,b2,b3,m,b4⟩:=ih b k' r l a2 h4;refine⟨k2,by omega,b2,b3,m+1,?_⟩
   have hL:Bz R ⟨ts,k0,en⟩ N.kind N.name N.unit N.n N.fr N.to N.known N.CZ.den N.CZ.ps N.kids N.AH (k:Int)=some (.nx (b.kind,b.name,b.unit,b.n,b.fr,b.to,b.known,b.CZ.den,b.CZ.ps,b.kids,b.AH,(k':Int))):=by
     unfold Bz;dsimp only;rw[h2];dsimp only[Option.bind,cond];rw[ED D9 hk];cases hE:B2 x.data.toList EH.data.toList <;>
     rw[hE] at hX;dsimp only[cond] at hX;dsimp only;rw[hX];dsimp only[Sum.elim];rw[Q3,hb]
   show(Bz R ⟨ts,k0,en⟩ N.kind N.name N.unit N.n N.fr N.to N.known N.CZ.den N.CZ.ps N.kids N.AH (k:Int)).bind _=_;rw[hL];exact b4;cases hr;obtain⟨k',a1,a2,rfl,⟨n,b',hX,hb,hr⟩ | ⟨d',hX,hr⟩⟩:=NO D9 h1 (λh=>LI h1 h) h3;cases hr;cases hr;refine⟨k',by omega,a2,rfl,1,?_⟩
   have hL:Bz R ⟨ts,k0,en⟩ N.kind N.name N.unit N.n N.fr N.to N.known N.CZ.den N.CZ.ps N.kids N.AH (k:Int)=some (.rt (.inr d,(k':Int))):=by
     unfold Bz;dsimp only;rw[h2];dsimp only[Option.bind,cond];rw[ED D9 hk];cases hE:B2 x.data.toList EH.data.toList <;>
     rw[hE] at hX;dsimp only[cond] at hX;dsimp only;rw[hX];rfl
   show(Bz R ⟨ts,k0,en⟩ N.kind N.name N.unit N.n N.fr N.to N.known N.CZ.den N.CZ.ps N.kids N.AH (k:Int)).bind _=_;rw[hL];rfl;obtain⟨rfl,rfl⟩:=KN hS;refine⟨k,Nat.le_refl k,hk,rfl,1,?_⟩
   have hL:Bz R ⟨ts,k0,en⟩ N.kind N.name N.unit N.n N.fr N.to N.known N.CZ.den N.CZ.ps N.kids N.AH (k:Int)=some (.rt (.inl N,(k:Int))):=by
     unfold Bz;dsimp only;rw[h2,Q3];rfl
   show(Bz R ⟨ts,k0,en⟩ N.kind N.name N.unit N.n N.fr N.to N.known N.CZ.den N.CZ.ps N.kids N.AH (k:Int)).bind _=_;rw[hL];rfl
def ab6{R:Ad}{g:Ek->Rd Nd}(LI:∀{k:Nat},k<=ts.length->∀{r l},g (.lv 5) (ts.drop k)=some (r,l)->JD ts k (R.Ca ⟨ts,k,en⟩) r l){k:Nat}(hk:k<=ts.length){r l}(hS:Nb en g 4 (ts.drop k)=some (r,l)) :
   JD ts k (F9 R ⟨ts,k,en⟩) r l:=by
 refine BE (λh=>LI hk h) (λN k' h1 h2 hS=>?_) (λ_ _=>rfl) hS;obtain⟨k2,a1,a2,a3,n,a4⟩:=aat D9 LI (k:Int) _ N k' r l h2 hS;refine⟨k2,a1,a2,a3,?_⟩;dsimp only[Sum.elim];rw[Fl a4];rfl
def aau{R:Ad}{sub:Rd Nd}(LI:∀{k:Nat},k<=ts.length->∀{r l},sub (ts.drop k)=some (r,l)->JD ts k (R.Cb ⟨ts,k,en⟩) r l)(k0:Int) :
   ∀(q:Nat) (N:Nd) (k:Nat) (r:Nd⊕Dg) (l:List Tk),k<=ts.length->Jb en (opsOf 5) sub q N (ts.drop k)=some (r,l) ->
   ∃k':Nat,k<=k'/\k'<=ts.length/\l=ts.drop k'/\∃n,ET (λx=>BA R ⟨ts,k0,en⟩ x.1 x.2.1 x.2.2.1 x.2.2.2.1 x.2.2.2.2.1 x.2.2.2.2.2.1 x.2.2.2.2.2.2.1 x.2.2.2.2.2.2.2.1 x.2.2.2.2.2.2.2.2.1 x.2.2.2.2.2.2.2.2.2.1 x.2.2.2.2.2.2.2.2.2.2.1 x.2.2.2.2.2.2.2.2.2.2.2) n (N.kind,N.name,N.unit,N.n,N.fr,N.to,N.known,N.CZ.den,N.CZ.ps,N.kids,N.AH,(k:Int))=some (.inr (r,(k':Int))):=by
 intro q
 induction q with
 | zero=>intro N k r l hk hS;cases hS
 | succ q ih =>
   intro N k r l hk hS;rcases af1 (en:=en) hk hS with ⟨x,h1,h2,hS⟩ | ⟨h2,hS⟩
   rcases II hS with ⟨b,s',h3,h4⟩ | ⟨d,h3,rfl⟩
   obtain⟨k',a1,a2,rfl,⟨n,b',hX,hb,hr⟩ | ⟨d,hX,hr⟩⟩:=NO D9 h1 (λh=>LI h1 h) h3;cases hr;obtain⟨k2,b1,b2,b3,m,b4⟩:=ih b k' r l a2 h4;refine⟨k2,by omega,b2,b3,m+1,?_⟩
   have hL:BA R ⟨ts,k0,en⟩ N.kind N.name N.unit N.n N.fr N.to N.known N.CZ.den N.CZ.ps N.kids N.AH (k:Int)=some (.nx (b.kind,b.name,b.unit,b.n,b.fr,b.to,b.known,b.CZ.den,b.CZ.ps,b.kids,b.AH,(k':Int))):=by
     unfold BA;dsimp only;rw[h2];dsimp only[Option.bind,cond];rw[ED D9 hk];cases hE:B2 x.data.toList EH.data.toList <;>
     rw[hE] at hX;dsimp only[cond] at hX;dsimp only;rw[hX];dsimp only[Sum.elim];rw[Q3,hb]
   show(BA R ⟨ts,k0,en⟩ N.kind N.name N.unit N.n N.fr N.to N.known N.CZ.den N.CZ.ps N.kids N.AH (k:Int)).bind _=_;rw[hL];exact b4;cases hr;obtain⟨k',a1,a2,rfl,⟨n,b',hX,hb,hr⟩ | ⟨d',hX,hr⟩⟩:=NO D9 h1 (λh=>LI h1 h) h3;cases hr;cases hr;refine⟨k',by omega,a2,rfl,1,?_⟩
   have hL:BA R ⟨ts,k0,en⟩ N.kind N.name N.unit N.n N.fr N.to N.known N.CZ.den N.CZ.ps N.kids N.AH (k:Int)=some (.rt (.inr d,(k':Int))):=by
     unfold BA;dsimp only;rw[h2];dsimp only[Option.bind,cond];rw[ED D9 hk];cases hE:B2 x.data.toList EH.data.toList <;>
     rw[hE] at hX;dsimp only[cond] at hX;dsimp only;rw[hX];rfl
   show(BA R ⟨ts,k0,en⟩ N.kind N.name N.unit N.n N.fr N.to N.known N.CZ.den N.CZ.ps N.kids N.AH (k:Int)).bind _=_;rw[hL];rfl;obtain⟨rfl,rfl⟩:=KN hS;refine⟨k,Nat.le_refl k,hk,rfl,1,?_⟩
   have hL:BA R ⟨ts,k0,en⟩ N.kind N.name N.unit N.n N.fr N.to N.known N.CZ.den N.CZ.ps N.kids N.AH (k:Int)=some (.rt (.inl N,(k:Int))):=by
     unfold BA;dsimp only;rw[h2,Q3];rfl
   show(BA R ⟨ts,k0,en⟩ N.kind N.name N.unit N.n N.fr N.to N.known N.CZ.den N.CZ.ps N.kids N.AH (k:Int)).bind _=_;rw[hL];rfl
def ab7{R:Ad}{g:Ek->Rd Nd}(LI:∀{k:Nat},k<=ts.length->∀{r l},g (.lv 6) (ts.drop k)=some (r,l)->JD ts k (R.Cb ⟨ts,k,en⟩) r l){k:Nat}(hk:k<=ts.length){r l}(hS:Nb en g 5 (ts.drop k)=some (r,l)) :
   JD ts k (Ga R ⟨ts,k,en⟩) r l:=by
 refine BE (λh=>LI hk h) (λN k' h1 h2 hS=>?_) (λ_ _=>rfl) hS;obtain⟨k2,a1,a2,a3,n,a4⟩:=aau D9 LI (k:Int) _ N k' r l h2 hS;refine⟨k2,a1,a2,a3,?_⟩;dsimp only[Sum.elim];rw[Fl a4];rfl
end
end Mo
end Go.Proofs.YtpbkhogolfegfaaGreatDoor
namespace Go.Proofs.YtpbkhogolfegfaaGreatDoor
open AI Go
namespace Mo
set_option maxRecDepth 100000
section
variable {α β γ:Type} {ts:List Tk} {k:Nat} {en:Int} {l:List Tk}
def cW(ts:List Tk)(k:Nat)(X:Option ((Pt⊕Dg)×Int×Int))(r:(Pt×Int)⊕Dg)(l:List Tk):Prop:=∃k':Nat,k<=k'/\k'<=ts.length/\l=ts.drop k'/\match r with
 | .inl x=>X=some (.inl x.1,(k':Int),x.2)
 | .inr d=>∃c,X=some (.inr d,(k':Int),c)
variable {r:(Pt×Int)⊕Dg}
def tV{k2:Nat}{X:Option ((Pt⊕Dg)×Int×Int)}(h1:k<=k2)(h:cW ts k2 X r l):cW ts k X r l:=by
 obtain⟨k',a,b,c,d⟩:=h;exact⟨k',Nat.le_trans h1 a,b,c,d⟩
def I3{F1:Option ((γ⊕Dg)×Int)}{F2:(γ⊕Dg)×Int->Option ((Pt⊕Dg)×Int×Int)}{m:Rd γ}{K:γ->Rd (Pt×Int)}
   (h1:∀{r l},m (ts.drop k)=some (r,l)->JD ts k F1 r l)
   (h2:∀a k',k<=k'->k'<=ts.length->K a (ts.drop k')=some (r,l)->cW ts k' (F2 (.inl a,(k':Int))) r l)
   (h3:∀d z,∃c,F2 (.inr d,z)=some (.inr d,z,c)) (hS:Cv m K (ts.drop k)=some (r,l)):cW ts k (F1.bind F2) r l:=by
 rcases II hS with ⟨a,s',hm,hS⟩ | ⟨d,hm,rfl⟩
 obtain⟨k',a1,a2,rfl,a4⟩:=h1 hm;rw[a4];exact tV a1 (h2 _ _ a1 a2 hS);obtain⟨k',a1,a2,a3,a4⟩:=h1 hm;obtain⟨c,hc⟩:=h3 d k';exact⟨k',a1,a2,a3,c,by rw[a4,Option.bind_some,hc]⟩
def acK{F2:Bool->Option ((Pt⊕Dg)×Int×Int)}{A B:Rd (Pt×Int)}{x:ByteArray}(hk:k<=ts.length)
   (h1:k+1<=ts.length->A (ts.drop (k+1))=some (r,l)->cW ts (k+1) (F2 true) r l) (h2:B (ts.drop k)=some (r,l)->cW ts k (F2 false) r l)
   (hS:OD x A B (ts.drop k)=some (r,l)):cW ts k ((As ⟨ts,k,en⟩ x).bind F2) r l:=by
 rw[GY hk,Option.bind_some];rcases LZ hk hS with ⟨h,h3,hS⟩ | ⟨h,hS⟩
 rw[h];exact tV (Nat.le_succ k) (h1 h3 hS);rw[h];exact h2 hS
end
def akL(p:Pr)(Ax Bm:Int)(AB:Int×Int):Option ((Pt⊕Dg)×Int×Int):=((Ak (⟨p.Bj,Bm,p.DP⟩:Pr) Vd).bind λ(Ij,ES)=>Sum.elim (λ(Db:Tk)=>(As (⟨p.Bj,ES,p.DP⟩:Pr) Lu).bind λy3=>cond y3 ((BV (⟨p.Bj,(BC ES 1),p.DP⟩:Pr)).bind λ(Wg,JM)=>Sum.elim (λ(Dr:(Int×Int))=>(Cl (⟨p.Bj,JM,p.DP⟩:Pr)).bind λ(SH,HV)=>Sum.elim (λ(IE:Int)=>(AL (⟨p.Bj,HV,p.DP⟩:Pr) 0).bind λ(mX,OV)=>Sum.elim (λ(Jo:(Int×Int))=>(Ak (⟨p.Bj,OV,p.DP⟩:Pr) EH).bind λ(rA,R0)=>Sum.elim (λ(Vz:Tk)=>(AL (⟨p.Bj,R0,p.DP⟩:Pr) 1).bind λ(ZJ,L5)=>Sum.elim (λ(G9:(Int×Int))=>(CQ Ax G9.1).bind λy9=>(Tb Ax y9).bind λz10=>cond (DS 1000000 (BU z10 G9.1)) (some ((Sum.inr (⟨2,G9.2⟩:Dg):(Pt⊕Dg)),L5,(BU z10 G9.1))) (some ((Sum.inl (⟨AB.1,(BU Dr.1 (-1)),(BU Jo.1 IE),G9.1⟩:Pt):(Pt⊕Dg)),L5,(BU z10 G9.1)))) (λ(L4:Dg)=>some ((Sum.inr L4:(Pt⊕Dg)),L5,Ax)) ZJ) (λ(PV:Dg)=>some ((Sum.inr PV:(Pt⊕Dg)),R0,Ax)) rA) (λ(Nl:Dg)=>some ((Sum.inr Nl:(Pt⊕Dg)),OV,Ax)) mX) (λ(Hj:Dg)=>some ((Sum.inr Hj:(Pt⊕Dg)),HV,Ax)) SH) (λ(ID:Dg)=>some ((Sum.inr ID:(Pt⊕Dg)),JM,Ax)) Wg) ((BV (⟨p.Bj,ES,p.DP⟩:Pr)).bind λ(qY,QJ)=>Sum.elim (λ(Nv:(Int×Int))=>(Cl (⟨p.Bj,QJ,p.DP⟩:Pr)).bind λ(ZH,Vw)=>Sum.elim (λ(ZI:Int)=>(AL (⟨p.Bj,Vw,p.DP⟩:Pr) 0).bind λ(Xc,O6)=>Sum.elim (λ(Nw:(Int×Int))=>(Ak (⟨p.Bj,O6,p.DP⟩:Pr) EH).bind λ(gL,Ux)=>Sum.elim (λ(aiO:Tk)=>(AL (⟨p.Bj,Ux,p.DP⟩:Pr) 1).bind λ(gM,Rt)=>Sum.elim (λ(KQ:(Int×Int))=>(CQ Ax KQ.1).bind λy16=>(Tb Ax y16).bind λz17=>cond (DS 1000000 (BU z17 KQ.1)) (some ((Sum.inr (⟨2,KQ.2⟩:Dg):(Pt⊕Dg)),Rt,(BU z17 KQ.1))) (some ((Sum.inl (⟨AB.1,(BU Nv.1 1),(BU Nw.1 ZI),KQ.1⟩:Pt):(Pt⊕Dg)),Rt,(BU z17 KQ.1)))) (λ(mH:Dg)=>some ((Sum.inr mH:(Pt⊕Dg)),Rt,Ax)) gM) (λ(mG:Dg)=>some ((Sum.inr mG:(Pt⊕Dg)),Ux,Ax)) gL) (λ(Vy:Dg)=>some ((Sum.inr Vy:(Pt⊕Dg)),O6,Ax)) Xc) (λ(mF:Dg)=>some ((Sum.inr mF:(Pt⊕Dg)),Vw,Ax)) ZH) (λ(Vv:Dg)=>some ((Sum.inr Vv:(Pt⊕Dg)),QJ,Ax)) qY)) (λ(Hi:Dg)=>some ((Sum.inr Hi:(Pt⊕Dg)),ES,Ax)) Ij)
section
variable {ts:List Tk} (D9:ts.length<=1000000) {en:Int}
include D9
def kN(k0 Ax:Int)(v:Int×Int){k:Nat}(hk:k<=ts.length){r l}(hS:Mw en Ax v.1 (ts.drop k)=some (r,l)):cW ts k (akL ⟨ts,k0,en⟩ Ax k v) r l:=by
 refine I3 (λh=>IY D9 _ hk h) (λ_ k h hk hS=>?_) (λ_ _=>⟨_,rfl⟩) hS;refine acK hk (λWu hS=>?_) (λhS=>?_) hS;dsimp only[cond];rw[ED D9 hk];refine I3 (λh=>gH D9 Wu h) (λa k h hk hS=>?_) (λ_ _=>⟨_,rfl⟩) hS;refine I3 (λh=>adb D9 hk h) (λs k h hk hS=>?_) (λ_ _=>⟨_,rfl⟩) hS;refine I3 (λh=>Pj D9 _ hk h) (λm k h hk hS=>?_) (λ_ _=>⟨_,rfl⟩) hS;refine I3 (λh=>IY D9 _ hk h) (λ_ k h hk hS=>?_) (λ_ _=>⟨_,rfl⟩) hS;refine I3 (λh=>Pj D9 _ hk h) (λd k h hk hS=>?_) (λ_ _=>⟨_,rfl⟩) hS;obtain⟨g,hg,hS⟩:=I0 hS;have hg:=aa7 hg;obtain⟨z,hz,hS⟩:=I0 hS;dsimp only[Sum.elim];rw[hg,Option.bind_some,hz,Option.bind_some];revert hS;cases DS 1000000 (BU z d.1);exact λhS=>by obtain⟨rfl,rfl⟩:=KN hS;exact⟨k,Nat.le_refl k,hk,rfl,rfl⟩
 exact λhS=>by obtain⟨rfl,rfl⟩:=MJ hS;exact⟨k,Nat.le_refl k,hk,rfl,_,rfl⟩
 refine I3 (λh=>gH D9 hk h) (λa k h hk hS=>?_) (λ_ _=>⟨_,rfl⟩) hS;refine I3 (λh=>adb D9 hk h) (λs k h hk hS=>?_) (λ_ _=>⟨_,rfl⟩) hS;refine I3 (λh=>Pj D9 _ hk h) (λm k h hk hS=>?_) (λ_ _=>⟨_,rfl⟩) hS;refine I3 (λh=>IY D9 _ hk h) (λ_ k h hk hS=>?_) (λ_ _=>⟨_,rfl⟩) hS;refine I3 (λh=>Pj D9 _ hk h) (λd k h hk hS=>?_) (λ_ _=>⟨_,rfl⟩) hS;obtain⟨g,hg,hS⟩:=I0 hS;have hg:=aa7 hg;obtain⟨z,hz,hS⟩:=I0 hS;dsimp only[Sum.elim];rw[hg,Option.bind_some,hz,Option.bind_some];revert hS;cases DS 1000000 (BU z d.1);exact λhS=>by obtain⟨rfl,rfl⟩:=KN hS;exact⟨k,Nat.le_refl k,hk,rfl,rfl⟩
 exact λhS=>by obtain⟨rfl,rfl⟩:=MJ hS;exact⟨k,Nat.le_refl k,hk,rfl,_,rfl⟩
def tN(before:List Pt)(hb:before.length<=100000000)(Ax:Int){k:Nat}(hk:k<=ts.length){r l}(hS:Rc en before Ax (ts.drop k)=some (r,l)):cW ts k (G7 ⟨ts,k,en⟩ before Ax) r l:=by
 refine I3 (λh=>gH D9 hk h) (λv k1 h hk hS=>?_) (λ_ _=>⟨_,rfl⟩) hS;dsimp only[Sum.elim];revert hS;cases hE:CV ((before.length:Nat):Int) 0 with
 | true =>
   cases CV v.1 0;exact λhS=>by obtain⟨rfl,rfl⟩:=MJ hS;exact⟨k1,Nat.le_refl k1,hk,rfl,_,rfl⟩
   exact λhS=>kN D9 k Ax v hk hS
 | false =>
   intro hS;have h0:before.length≠0:=λh=>aH hE (by rw[h];rfl);obtain⟨x,hx,hS⟩:=I0 hS;dsimp only[cond];rw[GQ (by omega)]
   have hg:Hc before (L3 ((before.length:Nat):Int) 1)=some x:=by
     have:L3 ((before.length:Nat):Int) 1=((before.length - 1:Nat):Int):=by
       rw[Kp (by omega)];omega
     rw[this];unfold Hc;rw[if_pos (by omega),Int.toNat_natCast,hx]
   dsimp only;rw[hg,Option.bind_some];revert hS;cases Oe v.1 x.fr;cases Oe 64 ((before.length:Nat):Int);exact λhS=>kN D9 k Ax v hk hS;exact λhS=>by obtain⟨rfl,rfl⟩:=MJ hS;exact⟨k1,Nat.le_refl k1,hk,rfl,_,rfl⟩
   exact λhS=>by obtain⟨rfl,rfl⟩:=MJ hS;exact⟨k1,Nat.le_refl k1,hk,rfl,_,rfl⟩
def kO(R:Ad)(k0:Int):∀(q:Nat) (ps:List Pt) (c:Int) (k:Nat) (r:(List Pt×Int)⊕Dg) (l:List Tk),ps.length<=100000000->k<=ts.length->Jy en q ps c (ts.drop k)=some (r,l) ->
   ∃k':Nat,k<=k'/\k'<=ts.length/\l=ts.drop k'/\∃n,ET (λx=>BJ R ⟨ts,k0,en⟩ x.1 x.2.1 x.2.2) n (ps,c,(k:Int))=some (match r with | .inl x=>.inl (x.1,x.2,(k':Int)) | .inr d=>.inr (.inr d,(k':Int))):=by
 intro q
 induction q with
 | zero=>intro ps c k r l hp hk hS;cases hS
 | succ q ih =>
   intro ps c k r l hp hk hS;rcases II hS with ⟨x,s',h3,h4⟩ | ⟨d,h3,rfl⟩
   obtain⟨k',a1,a2,rfl,a4⟩:=tN D9 ps hp c hk h3;obtain⟨hl,h4⟩:=MM h4;rcases LZ a2 h4 with ⟨h5,h6,h7⟩ | ⟨h5,h7⟩
   obtain⟨k2,b1,b2,b3,n,b4⟩:=ih (ps++[x.1]) x.2 (k'+1) r l (by simp only[List.length_append,List.length_singleton];omega) h6 h7;refine⟨k2,by omega,b2,b3,n+1,?_⟩
   have hL:BJ R ⟨ts,k0,en⟩ ps c (k:Int)=some (.nx (ps++[x.1],x.2,((k'+1:Nat):Int))):=by
     unfold BJ;dsimp only at a4 ⊢;rw[a4,Option.bind_some];dsimp only[Sum.elim];rw[Gu hl,GY a2,h5,Option.bind_some,ED D9 a2];rfl
   show(BJ R ⟨ts,k0,en⟩ ps c (k:Int)).bind _=_;rw[hL];exact b4;obtain⟨rfl,rfl⟩:=KN h7;refine⟨k',a1,a2,rfl,1,?_⟩
   have hL:BJ R ⟨ts,k0,en⟩ ps c (k:Int)=some (.ex (ps++[x.1],x.2,(k':Int))):=by
     unfold BJ;dsimp only at a4 ⊢;rw[a4,Option.bind_some];dsimp only[Sum.elim];rw[Gu hl,GY a2,h5,Option.bind_some];rfl
   show(BJ R ⟨ts,k0,en⟩ ps c (k:Int)).bind _=_;rw[hL];rfl;obtain⟨k',a1,a2,a3,c',a4⟩:=tN D9 ps hp c hk h3;refine⟨k',a1,a2,a3,1,?_⟩
   have hL:BJ R ⟨ts,k0,en⟩ ps c (k:Int)=some (.rt (.inr d,(k':Int))):=by
     unfold BJ;dsimp only at a4 ⊢;rw[a4,Option.bind_some];rfl
   show(BJ R ⟨ts,k0,en⟩ ps c (k:Int)).bind _=_;rw[hL];rfl
omit D9 in
def lL(R:Ad)(c:Int)(t:Tk)(kz:Int):∀(ps:List Pt) (acc:List Pc) (i:Nat) (r:(List Pc)⊕Dg) (s l:List Tk),L0 c t.AH ps acc s=some (r,l) ->
   l=s/\C8 (λi y x=>E7 R c kz t i y x) (λx=>x) ps i acc=some (match r with | .inl x=>.inl x | .inr d=>.inr (.inr d,kz)):=by
 intro ps
 induction ps with
 | nil =>
   intro acc i r s l hS;obtain⟨rfl,rfl⟩:=KN hS;exact⟨rfl,rfl⟩
 | cons x ps ih =>
   intro acc i r s l hS;unfold L0 at hS;obtain⟨z,hz,hS⟩:=I0 hS;rw[C8];unfold E7;rw[hz,Option.bind_some];revert hS;cases DS 1000000 (BU x.num z);cases DS (BU x.num z) (-1000000);intro hS;obtain⟨hl,hS⟩:=MM hS;obtain⟨rfl,h⟩:=ih _ (i+1) r s l hS;refine⟨rfl,?_⟩;dsimp only[cond];rw[Gu hl,Option.bind_some];exact h;intro hS;obtain⟨rfl,rfl⟩:=MJ hS;exact⟨rfl,rfl⟩;intro hS;obtain⟨rfl,rfl⟩:=MJ hS;exact⟨rfl,rfl⟩
def ag6{R:Ad}{g:Ek->Rd Nd}(hex:∀{k:Nat},k<=ts.length->∀{r l},g .ex (ts.drop k)=some (r,l)->JD ts k (R.AO ⟨ts,k,en⟩) r l){k:Nat}(hk:k<=ts.length){r l}(hS:Uj en g (ts.drop k)=some (r,l)) :
   JD ts k (G8 R ⟨ts,k,en⟩) r l:=by
 refine BE (λh=>IY D9 _ hk h) (λt k1 h Wu hS=>?_) (λ_ _=>rfl) hS;refine BE (λh=>IY D9 _ Wu h) (λ_ k2 h oR hS=>?_) (λ_ _=>rfl) hS;refine BE (λh=>hex oR h) (λa k3 h hk3 hS=>?_) (λ_ _=>rfl) hS;refine BE (λh=>IY D9 _ hk3 h) (λ_ k4 h hk4 hS=>?_) (λ_ _=>rfl) hS;dsimp only[Sum.elim];rcases II hS with ⟨x,s',h3,h4⟩ | ⟨d,h3,rfl⟩
 obtain⟨k',a1,a2,rfl,n,a4⟩:=kO D9 R (k:Int) _ [] 1 k4 _ _ (by simp) hk4 h3;rw[Fl a4,Option.bind_some];refine LY a1 ?_;dsimp only[MN];refine BE (λh=>IY D9 _ a2 h) (λe k5 h hk5 hS=>?_) (λ_ _=>rfl) h4;obtain⟨hl,hS⟩:=MM hS;dsimp only[Sum.elim];rw[List.drop_zero,show TA x.1.length=λy=>y from funext λy=>if_pos (by omega)];dsimp only;rcases II hS with ⟨y,s2,h5,h6⟩ | ⟨d,h5,rfl⟩
 obtain⟨rfl,h⟩:=lL R x.2 e (k5:Int) x.1 [] 0 _ _ _ h5;rw[h];exact Ey hk5 rfl h6;obtain⟨rfl,h⟩:=lL R x.2 e (k5:Int) x.1 [] 0 _ _ _ h5;rw[h];exact⟨k5,Nat.le_refl _,hk5,rfl,rfl⟩;obtain⟨k',a1,a2,a3,n,a4⟩:=kO D9 R (k:Int) _ [] 1 k4 _ _ (by simp) hk4 h3;rw[Fl a4,Option.bind_some];exact⟨k',a1,a2,a3,rfl⟩
def pJ{R:Ad}{read:Rd Nd}(k0:Int)(N9:∀{k:Nat},k<=ts.length->∀{r l},read (ts.drop k)=some (r,l)->JD ts k (R.AO ⟨ts,k,en⟩) r l):∀(q:Nat) (ns:List Nd) (k:Nat) (r:(List Nd)⊕Dg) (l:List Tk),k<=ts.length->Nq read q ns (ts.drop k)=some (r,l) ->
   ∃k':Nat,k<=k'/\k'<=ts.length/\l=ts.drop k'/\∃n,ET (λx=>Bp R ⟨ts,k0,en⟩ x.1 x.2) n (ns,(k:Int))=some (match r with | .inl x=>.inl (x,(k':Int)) | .inr d=>.inr (.inr d,(k':Int))):=by
 intro q
 induction q with
 | zero=>intro ns k r l hk hS;cases hS
 | succ q ih =>
   intro ns k r l hk hS;rcases LZ hk hS with ⟨h1,h2,hS⟩ | ⟨h1,hS⟩
   rcases II hS with ⟨x,s',h3,h4⟩ | ⟨d,h3,rfl⟩
   obtain⟨k',a1,a2,rfl,a4⟩:=N9 h2 h3;obtain⟨hl,h4⟩:=MM h4;obtain⟨k2,b1,b2,b3,n,b4⟩:=ih (ns++[x]) k' r l a2 h4;refine⟨k2,by omega,b2,b3,n+1,?_⟩
   have hL:Bp R ⟨ts,k0,en⟩ ns (k:Int)=some (.nx (ns++[x],(k':Int))):=by
     unfold Bp;dsimp only;rw[GY hk,h1,Option.bind_some,ED D9 hk];dsimp only[cond];rw[a4,Option.bind_some];dsimp only[Sum.elim];rw[Gu hl]
   show(Bp R ⟨ts,k0,en⟩ ns (k:Int)).bind _=_;rw[hL];exact b4;obtain⟨k',a1,a2,a3,a4⟩:=N9 h2 h3;refine⟨k',by omega,a2,a3,1,?_⟩
   have hL:Bp R ⟨ts,k0,en⟩ ns (k:Int)=some (.rt (.inr d,(k':Int))):=by
     unfold Bp;dsimp only;rw[GY hk,h1,Option.bind_some,ED D9 hk];dsimp only[cond];rw[a4,Option.bind_some];rfl
   show(Bp R ⟨ts,k0,en⟩ ns (k:Int)).bind _=_;rw[hL];rfl;obtain⟨rfl,rfl⟩:=KN hS;refine⟨k,Nat.le_refl k,hk,rfl,1,?_⟩
   have hL:Bp R ⟨ts,k0,en⟩ ns (k:Int)=some (.ex (ns,(k:Int))):=by
     unfold Bp;dsimp only;rw[GY hk,h1,Option.bind_some];rfl
   show(Bp R ⟨ts,k0,en⟩ ns (k:Int)).bind _=_;rw[hL];rfl
def afP{R:Ad}{read:Rd Nd}(N9:∀{k:Nat},k<=ts.length->∀{r l},read (ts.drop k)=some (r,l)->JD ts k (R.AO ⟨ts,k,en⟩) r l){k:Nat}(hk:k<=ts.length){r l}(hS:RF read (ts.drop k)=some (r,l)):JD ts k (Fp R ⟨ts,k,en⟩) r l:=by
 refine BE (λh=>N9 hk h) (λx k1 h Wu hS=>?_) (λ_ _=>rfl) hS;dsimp only[Sum.elim];rcases LZ Wu hS with ⟨h1,h2,hS⟩ | ⟨h1,hS⟩
 rw[GY Wu,h1,Option.bind_some,ED D9 Wu];refine LY (Nat.le_succ k1) ?_;refine BE (λh=>N9 h2 h) (λy k2 h oR hS=>?_) (λ_ _=>rfl) hS;obtain⟨hl,hS⟩:=MM hS;dsimp only[Sum.elim];rw[Gu hl];obtain⟨k',a1,a2,a3,n,a4⟩:=pJ D9 (k:Int) N9 _ _ k2 _ _ oR hS;rw[Fl a4,Option.bind_some];refine⟨k',a1,a2,a3,?_⟩;cases r<;>rfl
 rw[GY Wu,h1,Option.bind_some];exact Ey Wu rfl hS
def pK{read:Rd Nd}(k0:Int)(N9:∀{k:Nat},k<=ts.length->∀{r l},read (ts.drop k)=some (r,l)->JD ts k (AP ⟨ts,k,en⟩) r l):∀(q:Nat) (ns:List Nd) (k:Nat) (r:(List Nd)⊕Dg) (l:List Tk),k<=ts.length->Nq read q ns (ts.drop k)=some (r,l) ->
   ∃k':Nat,k<=k'/\k'<=ts.length/\l=ts.drop k'/\∃n,ET (λx=>AQ ⟨ts,k0,en⟩ x.1 x.2) n (ns,(k:Int))=some (match r with | .inl x=>.inl (x,(k':Int)) | .inr d=>.inr (.inr d,(k':Int))):=by
 intro q
 induction q with
 | zero=>intro ns k r l hk hS;cases hS
 | succ q ih =>
   intro ns k r l hk hS;rcases LZ hk hS with ⟨h1,h2,hS⟩ | ⟨h1,hS⟩
   rcases II hS with ⟨x,s',h3,h4⟩ | ⟨d,h3,rfl⟩
   obtain⟨k',a1,a2,rfl,a4⟩:=N9 h2 h3;obtain⟨hl,h4⟩:=MM h4;obtain⟨k2,b1,b2,b3,n,b4⟩:=ih (ns++[x]) k' r l a2 h4;refine⟨k2,by omega,b2,b3,n+1,?_⟩
   have hL:AQ ⟨ts,k0,en⟩ ns (k:Int)=some (.nx (ns++[x],(k':Int))):=by
     unfold AQ;dsimp only;rw[GY hk,h1,Option.bind_some,ED D9 hk];dsimp only[cond];rw[a4,Option.bind_some];dsimp only[Sum.elim];rw[Gu hl]
   show(AQ ⟨ts,k0,en⟩ ns (k:Int)).bind _=_;rw[hL];exact b4;obtain⟨k',a1,a2,a3,a4⟩:=N9 h2 h3;refine⟨k',by omega,a2,a3,1,?_⟩
   have hL:AQ ⟨ts,k0,en⟩ ns (k:Int)=some (.rt (.inr d,(k':Int))):=by
     unfold AQ;dsimp only;rw[GY hk,h1,Option.bind_some,ED D9 hk];dsimp only[cond];rw[a4,Option.bind_some];rfl
   show(AQ ⟨ts,k0,en⟩ ns (k:Int)).bind _=_;rw[hL];rfl;obtain⟨rfl,rfl⟩:=KN hS;refine⟨k,Nat.le_refl k,hk,rfl,1,?_⟩
   have hL:AQ ⟨ts,k0,en⟩ ns (k:Int)=some (.ex (ns,(k:Int))):=by
     unfold AQ;dsimp only;rw[GY hk,h1,Option.bind_some];rfl
   show(AQ ⟨ts,k0,en⟩ ns (k:Int)).bind _=_;rw[hL];rfl
def afQ{read:Rd Nd}(N9:∀{k:Nat},k<=ts.length->∀{r l},read (ts.drop k)=some (r,l)->JD ts k (AP ⟨ts,k,en⟩) r l){k:Nat}(hk:k<=ts.length){r l}(hS:RF read (ts.drop k)=some (r,l)):JD ts k (DW ⟨ts,k,en⟩) r l:=by
 refine BE (λh=>N9 hk h) (λx k1 h Wu hS=>?_) (λ_ _=>rfl) hS;dsimp only[Sum.elim];rcases LZ Wu hS with ⟨h1,h2,hS⟩ | ⟨h1,hS⟩
 rw[GY Wu,h1,Option.bind_some,ED D9 Wu];refine LY (Nat.le_succ k1) ?_;refine BE (λh=>N9 h2 h) (λy k2 h oR hS=>?_) (λ_ _=>rfl) hS;obtain⟨hl,hS⟩:=MM hS;dsimp only[Sum.elim];rw[Gu hl];obtain⟨k',a1,a2,a3,n,a4⟩:=pK D9 (k:Int) N9 _ _ k2 _ _ oR hS;rw[Fl a4,Option.bind_some];refine⟨k',a1,a2,a3,?_⟩;cases r<;>rfl
 rw[GY Wu,h1,Option.bind_some];exact Ey Wu rfl hS
end
end Mo
end Go.Proofs.YtpbkhogolfegfaaGreatDoor
namespace Go.Proofs.YtpbkhogolfegfaaGreatDoor
open AI Go
namespace Mo
set_option maxRecDepth 100000
section
variable {ts:List Tk} (D9:ts.length<=1000000) {en:Int} {R:Ad} {g:Ek->Rd Nd} {li:Rd (List Nd)} (A:Agr R ts en g li)
include D9 A
def ajd{k:Nat}(hk:k<=ts.length){r l}(hS:Yd en g (ts.drop k)=some (r,l)):JD ts k (F8 R ⟨ts,k,en⟩) r l:=by
 refine BE (λh=>A.l4 hk h) (λN k h hk hS=>?_) (λ_ _=>rfl) hS;dsimp only[Sum.elim]
 have fin:∀{y:(Nd⊕Dg)×Int} (k0:Int),BY R ⟨ts,k0,en⟩ (k:Int) N=some (.rt y)->(Mg (λ_:Unit=>BY R ⟨ts,k0,en⟩ (k:Int) N) ()).bind (MN (λ(_:Unit)=>none) (λv=>some v))=some y:=by
   intro y k0 hL
   have:ET (λ_:Unit=>BY R ⟨ts,k0,en⟩ (k:Int) N) 1 ()=some (.inr y):=by
     show(BY R ⟨ts,k0,en⟩ (k:Int) N).bind _=_;rw[hL];rfl
   rw[Fl this];rfl
 rcases afZ (en:=en) hk hS with ⟨x,h1,h2,hS⟩ | ⟨h2,hS⟩
 obtain⟨k',a1,a2,rfl,⟨n,b,hX,hb,rfl⟩ | ⟨d,hX,rfl⟩⟩:=NO D9 h1 (λh=>A.l4 h1 h) hS;refine⟨k',by omega,a2,rfl,fin _ ?_⟩;unfold BY;dsimp only;rw[h2];dsimp only[Option.bind,cond];rw[ED D9 hk];cases hE:B2 x.data.toList EH.data.toList <;>
 rw[hE] at hX;dsimp only[cond] at hX;dsimp only;rw[hX];dsimp only[Sum.elim];rw[hb];refine⟨k',by omega,a2,rfl,fin _ ?_⟩;unfold BY;dsimp only;rw[h2];dsimp only[Option.bind,cond];rw[ED D9 hk];cases hE:B2 x.data.toList EH.data.toList <;>
 rw[hE] at hX;dsimp only[cond] at hX;dsimp only;rw[hX];rfl;obtain⟨rfl,rfl⟩:=KN hS;refine⟨k,Nat.le_refl k,hk,rfl,fin _ ?_⟩;unfold BY;dsimp only;rw[h2];rfl
def amU{k:Nat}(hk:k<=ts.length){r l}(hS:W1 en g (ts.drop k)=some (r,l)):JD ts k (EG R ⟨ts,k,en⟩) r l:=by
 unfold W1 at hS;unfold EG;rw[GY hk,Option.bind_some];cases hx:Ii VT (ts.drop k) with
 | true =>
   rw[hx] at hS;refine BE (λh=>IY D9 _ hk h) (λt k h hk hS=>?_) (λ_ _=>rfl) hS;refine BE (λh=>A.l2 hk h) (λN k h hk hS=>?_) (λ_ _=>rfl) hS;exact Ey hk rfl hS
 | false =>
   rw[hx] at hS;obtain⟨k',a1,a2,a3,a4⟩:=A.l3 hk hS;refine⟨k',a1,a2,a3,?_⟩;dsimp only[cond];rw[a4,Option.bind_some];cases r with
   | inr d=>rfl
   | inl N =>
     dsimp only[Sum.elim]
     have hL:ET (λx:Int×ByteArray×ByteArray×Int×Int×Int×Int×Int×List Pc×List Nd×Int×Int=>CY R ⟨ts,k,en⟩ x.1 x.2.1 x.2.2.1 x.2.2.2.1 x.2.2.2.2.1 x.2.2.2.2.2.1 x.2.2.2.2.2.2.1 x.2.2.2.2.2.2.2.1 x.2.2.2.2.2.2.2.2.1 x.2.2.2.2.2.2.2.2.2.1 x.2.2.2.2.2.2.2.2.2.2.1 x.2.2.2.2.2.2.2.2.2.2.2) 1 (N.kind,N.name,N.unit,N.n,N.fr,N.to,N.known,N.CZ.den,N.CZ.ps,N.kids,N.AH,(k':Int))=some (.inr (.inl N,(k':Int))):=by
       have:CY R ⟨ts,k,en⟩ N.kind N.name N.unit N.n N.fr N.to N.known N.CZ.den N.CZ.ps N.kids N.AH (k':Int)=some (.rt (.inl N,(k':Int))):=by
         unfold CY E5;dsimp only[Option.bind,cond];rw[Q3]
       show(CY R ⟨ts,k,en⟩ N.kind N.name N.unit N.n N.fr N.to N.known N.CZ.den N.CZ.ps N.kids N.AH (k':Int)).bind _=_;rw[this];rfl
     rw[Fl hL];rfl
omit D9 A in
def Q9{F:Option ((Nd⊕Dg)×Int)}{k:Nat}{r l}(h:JD ts k F r l):JD ts k (F.bind λ(EA,Bm)=>Sum.elim (λ(AB:Nd)=>some ((Sum.inl AB:(Nd⊕Dg)),Bm)) (λ(CU:Dg)=>some ((Sum.inr CU:(Nd⊕Dg)),Bm)) EA) r l:=by
 obtain⟨k',a1,a2,a3,a4⟩:=h;refine⟨k',a1,a2,a3,?_⟩;rw[a4,Option.bind_some];cases r<;>rfl
def ajb{k:Nat}(hk:k<=ts.length){r l}(hS:UM en g li (ts.drop k)=some (r,l)):JD ts k (Hu R ⟨ts,k,en⟩) r l:=by
 refine V1 hk (λt h1 h2 hS=>?_) (λ_=>rfl) hS;have hS:=Z3 h2 hS;dsimp only[Sum.elim];rw[ED D9 hk];refine LY (Nat.le_succ k) ?_;refine BE (λh=>IY D9 _ h1 h) (λ_ k h hk hS=>?_) (λ_ _=>rfl) hS;refine BE (λh=>A.ex hk h) (λa k h hk hS=>?_) (λ_ _=>rfl) hS;dsimp only[Sum.elim];rw[Gu (by omega)];refine BE (λh=>IY D9 _ hk h) (λ_ k h hk hS=>?_) (λ_ _=>rfl) hS;refine BE (λh=>A.li hk h) (λns k h hk hS=>?_) (λ_ _=>rfl) hS;obtain⟨hl,hS⟩:=MM hS;dsimp only[Sum.elim];rw[Gu (by simpa using hl)]
 cases hE:CV ((ns.length:Nat):Int) 0 with
 | true =>
   have:ns=[]:=List.eq_nil_of_length_eq_zero (by have:=FR hE;omega);subst this;refine BE (λh=>IY D9 _ hk h) (λ_ k h hk hS=>?_) (λ_ _=>rfl) hS;exact Ey hk rfl hS
 | false =>
   refine BE (λh=>IY D9 _ hk h) (λ_ k h hk hS=>?_) (λ_ _=>rfl) hS;exact Ey hk rfl hS
def als(t:Tk){k:Nat}(hk:k<=ts.length){r l}(hS:RL en g t (ts.drop k)=some (r,l)):JD ts k (FW R ⟨ts,k,en⟩ t) r l:=by
 have one:∀{X:Nd} {r l},Uz (FZ X) (ts.drop k)=some (r,l)->JD ts k (some (.inl X,BC (k:Int) 1)) r l:=by
   intro X r l h;obtain⟨h1,h2⟩:=acs hk h;rw[ED D9 hk];exact LY (Nat.le_succ k) (Ey h1 rfl h2)
 revert hS;unfold RL FW;cases B2 t.text.data.toList Zt.data.toList;rotate_left;exact one;cases B2 t.text.data.toList TP.data.toList;rotate_left;exact one;cases B2 t.text.data.toList dF.data.toList;rotate_left;intro hS;obtain⟨h1,hS⟩:=acs hk hS;dsimp only[cond];rw[ED D9 hk];refine LY (Nat.le_succ k) ?_;refine BE (λh=>Pj D9 _ h1 h) (λa k h hk hS=>?_) (λ_ _=>rfl) hS;exact Ey hk rfl hS;cases B2 t.text.data.toList L2.data.toList;rotate_left;exact one;cases B2 t.text.data.toList dO.data.toList;rotate_left;exact one;cases B2 t.text.data.toList Q1.data.toList;rotate_left;exact one;cases B2 t.text.data.toList VA.data.toList;rotate_left;exact one;cases B2 t.text.data.toList K2.data.toList;rotate_left;exact λhS=>Q9 (A.ca hk hS);cases B2 t.text.data.toList F0.data.toList;rotate_left;exact λhS=>Q9 (A.ca hk hS);cases B2 t.text.data.toList Rl.data.toList;rotate_left;exact λhS=>Q9 (A.ta hk hS);cases B2 t.text.data.toList Ub.data.toList;rotate_left;intro hS;obtain⟨h1,hS⟩:=acs hk hS;dsimp only[cond];rw[ED D9 hk];refine LY (Nat.le_succ k) ?_;refine BE (λh=>A.ex h1 h) (λa k h hk hS=>?_) (λ_ _=>rfl) hS;refine BE (λh=>IY D9 _ hk h) (λ_ k h hk hS=>?_) (λ_ _=>rfl) hS;exact Ey hk rfl hS;exact λhS=>Ey hk rfl hS
def ai9{k:Nat}(hk:k<=ts.length){r l}(hS:Wm en g (ts.drop k)=some (r,l)):JD ts k (Ht R ⟨ts,k,en⟩) r l:=by
 refine V1 hk (λt h1 h2 hS=>?_) (λ_=>rfl) hS;revert hS;dsimp only[Sum.elim];cases CV t.kind 3;rotate_left;intro hS;refine BE (λh=>kE D9 hk h) (λn k h hk hS=>?_) (λ_ _=>rfl) hS;refine tW hk (λWu hS=>?_) (λhS=>?_) hS;refine Ey Wu (ED D9 hk) hS;exact Ey hk rfl hS;cases CV t.kind 2;rotate_left;intro hS;have hS:=Z3 h2 hS;dsimp only[cond];rw[ED D9 hk];refine LY (Nat.le_succ k) ?_;refine BE (λh=>Rm D9 EZ h1 h) (λa k h hk hS=>?_) (λ_ _=>rfl) hS;obtain⟨c,hc,hS⟩:=I0 hS;dsimp only[Sum.elim];rw[hc];exact Ey hk rfl hS;intro hS;obtain⟨b,hb,hS⟩:=I0 hS;dsimp only[cond];rw[hb,Option.bind_some];cases b;exact Q9 (A.wd t hk hS);have hS:=Z3 h2 hS;dsimp only;rw[ED D9 hk];exact LY (Nat.le_succ k) (Ey h1 rfl hS)
end
def aeK{ts:List Tk}(D9:ts.length<=1000000)(en:Int):∀q:Nat,Agr (Aj q) ts en (gP en q).1 (gP en q).2:=by
 intro q
 induction q with
 | zero=>constructor<;>intros<;>rename_i h<;>cases h
 | succ q A =>
   constructor
   case ex=>intro k hk r l h;simp only[Aj,Bd];exact Q9 (A.l0 hk h)
   case l0=>intro k hk r l h;simp only[Aj,A5];exact ab4 D9 (λhk _ _ h=>A.l1 hk h) hk h
   case l1=>intro k hk r l h;simp only[Aj,A6];exact ab5 D9 (λhk _ _ h=>A.l2 hk h) hk h
   case l2=>intro k hk r l h;simp only[Aj,A7];exact amU D9 A hk h
   case l3=>intro k hk r l h;simp only[Aj,A8];exact ajd D9 A hk h
   case l4=>intro k hk r l h;simp only[Aj,A9];exact ab6 D9 (λhk _ _ h=>A.l5 hk h) hk h
   case l5=>intro k hk r l h;simp only[Aj,Ba];exact ab7 D9 (λhk _ _ h=>A.l6 hk h) hk h
   case l6=>intro k hk r l h;simp only[Aj,Bb];exact Q9 (A.at_ hk h)
   case at_=>intro k hk r l h;simp only[Aj,Br];exact ai9 D9 A hk h
   case wd=>intro t k hk r l h;simp only[Aj,Bt];exact als D9 A t hk h
   case ca=>intro k hk r l h;simp only[Aj,Bs];exact ajb D9 A hk h
   case ta=>intro k hk r l h;simp only[Aj,Bi];exact ag6 D9 (λhk _ _ h=>A.ex hk h) hk h
   case li=>intro k hk r l h;simp only[Aj,AW];exact afP D9 (λhk _ _ h=>A.ex hk h) hk h
end Mo
end Go.Proofs.YtpbkhogolfegfaaGreatDoor
namespace Go.Proofs.YtpbkhogolfegfaaGreatDoor
open AI Go
namespace Mo
set_option maxRecDepth 100000
section
variable (S:Int->Int->Prop) (en en':Int) (w:List Tk)
def TR(t t':Tk):Prop:=t.kind=t'.kind/\t.text=t'.text/\S t.AH t'.AH
inductive F2:List Tk->List Tk->Prop
 | nil:F2 [] []
 | cons {t t':Tk} {l l':List Tk}:TR S t t'->F2 l l'->F2 (t::l) (t'::l')
mutual
inductive NR:Nd->Nd->Prop
 | mk {k:Int} {nm u:ByteArray} {n f t kn:Int} {tb:Fn} {ks ks':List Nd} {a a':Int}:mZ ks ks'->S a a'->NR ⟨k,nm,u,n,f,t,kn,tb,ks,a⟩ ⟨k,nm,u,n,f,t,kn,tb,ks',a'⟩
inductive mZ:List Nd->List Nd->Prop
 | nil:mZ [] []
 | cons {n n':Nd} {l l':List Nd}:NR n n'->mZ l l'->mZ (n::l) (n'::l')
end
def DR(d d':Dg):Prop:=d.err=d'.err/\(S d.AH d'.AH\/d=⟨72,en⟩/\d'=⟨72,en'⟩)
inductive RR{α:Type}(Q:α->α->Prop):α⊕Dg->α⊕Dg->Prop
 | l {a a':α}:Q a a'->RR Q (.inl a) (.inl a')
 | r {d d':Dg}:DR S en en' d d'->RR Q (.inr d) (.inr d')
def Ends{α:Type}(b:Bool)(r:α⊕Dg)(s:List Tk):Prop:=s=[]/\(r=.inr ⟨72,en⟩\/b=false/\∃a,r=.inl a)
def RP{α:Type}(b:Bool)(Q:α->α->Prop)(m m':Rd α):Prop:=∀⦃l l1 s s':List Tk⦄ ⦃r r':α⊕Dg⦄,F2 S l l1->m l=some (r,s)->m' (l1++w)=some (r',s') ->
 (∃s1,s'=s1++w/\F2 S s s1/\RR S en en' Q r r')\/w≠[]/\Ends en b r s
def EO{α:Type}(b:Bool)(m:Rd α):Prop:=∀⦃r:α⊕Dg⦄ ⦃s:List Tk⦄,m []=some (r,s)->Ends en b r s
end
section
variable {S:Int->Int->Prop} {en en':Int} {w:List Tk} {α β:Type} {b:Bool} {Q:α->α->Prop} {Q2:β->β->Prop}
def Ends.Wd{r:α⊕Dg}{s:List Tk}(h:Ends en true r s):Ends en b r s:=by
 refine⟨h.1,?_⟩;rcases h.2 with h | ⟨h,_⟩
 exact .inl h;cases h
def RP.Wd{m m':Rd α}(h:RP S en en' w true Q m m'):RP S en en' w b Q m m':=λ_ _ _ _ _ _ f h1 h2=>(h f h1 h2).imp id λh=>⟨h.1,h.2.Wd⟩
def EO.Wd{m:Rd α}(h:EO en true m):EO en b m:=λ_ _ h1=>(h h1).Wd
def D5{a a':α}(h:Q a a'):RP S en en' w b Q (FZ a) (FZ a'):=by
 intro l l1 s s' r r' f h1 h2;obtain⟨rfl,rfl⟩:=KN h1;obtain⟨rfl,rfl⟩:=KN h2;exact .inl ⟨l1,rfl,f,.l h⟩
def Jk{e p p':Int}(h:S p p'):RP S en en' w b Q (L8 e p) (L8 e p'):=by
 intro l l1 s s' r r' f h1 h2;obtain⟨rfl,rfl⟩:=MJ h1;obtain⟨rfl,rfl⟩:=MJ h2;exact .inl ⟨l1,rfl,f,.r ⟨rfl,.inl h⟩⟩
def JC{m m':Rd α}{K K':α->Rd β}(h1:RP S en en' w false Q m m')(h2:∀a a',Q a a'->RP S en en' w b Q2 (K a) (K' a'))(h3:∀a,EO en b (K a)):RP S en en' w b Q2 (Cv m K) (Cv m' K'):=by
 intro l l1 s s' r r' f e1 e2;rcases II e1 with ⟨a,t,e3,e4⟩ | ⟨d,e3,rfl⟩
 rcases II e2 with ⟨a',t',e5,e6⟩ | ⟨d',e5,rfl⟩
 rcases h1 f e3 e5 with ⟨s1,rfl,f1,q⟩ | ⟨hw,rfl,_⟩
 cases q with
 | l q=>exact h2 _ _ q f1 e4 e6
 exact .inr ⟨hw,h3 a e4⟩;rcases h1 f e3 e5 with ⟨s1,rfl,f1,q⟩ | ⟨hw,rfl,_⟩
 cases q;exact .inr ⟨hw,h3 a e4⟩;rcases II e2 with ⟨a',t',e5,e6⟩ | ⟨d',e5,rfl⟩
 rcases h1 f e3 e5 with ⟨s1,rfl,f1,q⟩ | ⟨hw,rfl,hq⟩
 cases q;rcases hq with hq | ⟨_,a,hq⟩
 cases hq;exact .inr ⟨hw,rfl,.inl rfl⟩;cases hq;rcases h1 f e3 e5 with ⟨s1,rfl,f1,q⟩ | ⟨hw,rfl,hq⟩
 cases q with
 | r q=>exact .inl ⟨s1,rfl,f1,.r q⟩
 rcases hq with hq | ⟨_,a,hq⟩
 cases hq;exact .inr ⟨hw,rfl,.inl rfl⟩;cases hq
def Ci{m m':Rd α}{K K':α->Rd β}(h1:RP S en en' w true Q m m')(h2:∀a a',Q a a'->RP S en en' w b Q2 (K a) (K' a')):RP S en en' w b Q2 (Cv m K) (Cv m' K'):=by
 intro l l1 s s' r r' f e1 e2
 have no:∀{a:α} {t:List Tk},m l=some (.inl a,t)->¬Ends en true (Sum.inl a:α⊕Dg) t:=by
   rintro a t _ ⟨_,h | ⟨h,_⟩⟩<;>cases h
 rcases II e1 with ⟨a,t,e3,e4⟩ | ⟨d,e3,rfl⟩
 rcases II e2 with ⟨a',t',e5,e6⟩ | ⟨d',e5,rfl⟩
 rcases h1 f e3 e5 with ⟨s1,rfl,f1,q⟩ | ⟨hw,h⟩
 cases q with
 | l q=>exact h2 _ _ q f1 e4 e6
 exact absurd h (no e3);rcases h1 f e3 e5 with ⟨s1,rfl,f1,q⟩ | ⟨hw,h⟩
 cases q;exact absurd h (no e3);rcases II e2 with ⟨a',t',e5,e6⟩ | ⟨d',e5,rfl⟩
 rcases h1 f e3 e5 with ⟨s1,rfl,f1,q⟩ | ⟨hw,rfl,hq⟩
 cases q;rcases hq with hq | ⟨hq,_⟩
 cases hq;exact .inr ⟨hw,rfl,.inl rfl⟩;cases hq;rcases h1 f e3 e5 with ⟨s1,rfl,f1,q⟩ | ⟨hw,rfl,hq⟩
 cases q with
 | r q=>exact .inl ⟨s1,rfl,f1,.r q⟩
 rcases hq with hq | ⟨hq,_⟩
 cases hq;exact .inr ⟨hw,rfl,.inl rfl⟩;cases hq
def OE{X:Option β}{K K':β->Rd α}(h:∀a,X=some a->RP S en en' w b Q (K a) (K' a)):RP S en en' w b Q (Lv X K) (Lv X K'):=by
 intro l l1 s s' r r' f e1 e2;obtain⟨a,ha,e1⟩:=I0 e1;obtain⟨a',zA,e2⟩:=I0 e2;rw[ha] at zA;cases zA;exact h a ha f e1 e2
def Zd{K K':Tk->Rd α}(h:∀t t',TR S t t'->RP S en en' w b Q (K t) (K' t')):RP S en en' w b Q (Ue en K) (Ue en' K'):=by
 intro l l1 s s' r r' f e1 e2;cases f with
 | nil =>
   simp only[Ue,Option.some.injEq,Prod.mk.injEq] at e1;obtain⟨rfl,rfl⟩:=e1;by_cases hw:w=[];subst hw;simp only[Ue,List.append_nil,Option.some.injEq,Prod.mk.injEq] at e2;obtain⟨rfl,rfl⟩:=e2;exact .inl ⟨[],rfl,.nil,.r ⟨rfl,.inr ⟨rfl,rfl⟩⟩⟩;exact .inr ⟨hw,rfl,.inl rfl⟩
 | cons ht f=>exact h _ _ ht (.cons ht f) e1 e2
def RJ{K K':Rd α}(h:RP S en en' w b Q K K'):RP S en en' w b Q (Uz K) (Uz K'):=by
 intro l l1 s s' r r' f e1 e2;cases f with
 | nil=>cases e1
 | cons ht f=>exact h f e1 e2
def V3{x:ByteArray}{A A' B B':Rd α}(h1:RP S en en' w b Q A A')(h2:RP S en en' w b Q B B')(h3:EO en b B):RP S en en' w b Q (OD x A B) (OD x A' B'):=by
 intro l l1 s s' r r' f e1 e2;cases f with
 | nil =>
   by_cases hw:w=[];subst hw;exact h2 .nil e1 e2;exact .inr ⟨hw,h3 e1⟩
 | cons ht f =>
   rename_i t t' l l';unfold OD at e1 e2
   have:Ii x (t::l)=Ii x (t'::l'++w):=by
     show B2 t.text.data.toList _=B2 t'.text.data.toList _;rw[ht.2.1]
   rw[<- this] at e2;cases hx:Ii x (t::l) with
   | true=>rw[hx] at e1 e2;exact h1 f e1 e2
   | false=>rw[hx] at e1 e2;exact h2 (.cons ht f) e1 e2
def SD{n n':Nat}{m m':Rd α}(h:RP S en en' w b Q m m'):RP S en en' w b Q (OC n m) (OC n' m'):=by
 intro l l1 s s' r r' f e1 e2;exact h f (MM e1).2 (MM e2).2
def Cp{c:Bool}{A A' B B':Rd α}(h1:c=true->RP S en en' w b Q A A')(h2:c=false->RP S en en' w b Q B B'):RP S en en' w b Q (cond c A B) (cond c A' B'):=by
 cases c;exact h2 rfl;exact h1 rfl
def acP{K K':Nat->Rd α}(h:∀n n',RP S en en' w b Q (K n) (K' n')):RP S en en' w b Q (λs=>K (s.length+1) s) (λs=>K' (s.length+1) s):=by
 intro l l1 s s' r r' f e1 e2;exact h _ _ f e1 e2
def rQ{K:Tk->Rd α}:EO en b (Ue en K):=by
 intro r s h;simp only[Ue,Option.some.injEq,Prod.mk.injEq] at h;obtain⟨rfl,rfl⟩:=h;exact⟨rfl,.inl rfl⟩
def Pz{a:α}:EO en false (FZ a):=by
 intro r s h;obtain⟨rfl,rfl⟩:=KN h;exact⟨rfl,.inr ⟨rfl,a,rfl⟩⟩
def LF{m:Rd α}{K:α->Rd β}(h:EO en true m):EO en b (Cv m K):=by
 intro r s e1;rcases II e1 with ⟨a,t,e3,e4⟩ | ⟨d,e3,rfl⟩
 obtain⟨_,h | ⟨h,_⟩⟩:=h e3<;>cases h
 obtain⟨h1,h | ⟨h,_⟩⟩:=h e3;cases h;exact⟨h1,.inl rfl⟩;cases h
def ajg{X:Option β}{K:β->Rd α}(h:∀a,EO en b (K a)):EO en b (Lv X K):=by
 intro r s e1;obtain⟨a,_,e1⟩:=I0 e1;exact h a e1
def n8{x:ByteArray}{A B:Rd α}(h:EO en b B):EO en b (OD x A B):=λ_ _ e1=>h e1
def aaM{n:Nat}{m:Rd α}(h:EO en b m):EO en b (OC n m):=λ_ _ e1=>h (MM e1).2
end
end Mo
end Go.Proofs.YtpbkhogolfegfaaGreatDoor
namespace Go.Proofs.YtpbkhogolfegfaaGreatDoor
open AI Go
namespace Mo
set_option maxRecDepth 100000
section
variable {S:Int->Int->Prop} {en en':Int} {w:List Tk} {α β:Type} {b:Bool} {Q:α->α->Prop}
def uM{f:Tk->Option Bool}(hf:∀k t a a',f ⟨k,t,a⟩=f ⟨k,t,a'⟩){t t':Tk}(h:TR S t t'):f t=f t':=by
 obtain⟨k,x,a⟩:=t;obtain⟨k',x',a'⟩:=t';obtain⟨h1,h2,_⟩:=h;dsimp only at h1 h2;subst h1 h2;exact hf _ _ _ _
def agu{X X':Option β}{K K':β->Rd α}(h:∀a a',X=some a->X'=some a'->RP S en en' w b Q (K a) (K' a')):RP S en en' w b Q (Lv X K) (Lv X' K'):=by
 intro l l1 s s' r r' f e1 e2;obtain⟨a,ha,e1⟩:=I0 e1;obtain⟨a',zA,e2⟩:=I0 e2;exact h a a' ha zA f e1 e2
def NP{f:Tk->Option Bool}(hf:∀k t a a',f ⟨k,t,a⟩=f ⟨k,t,a'⟩):RP S en en' w b (TR S) (Lm en f) (Lm en' f):=by
 refine Zd λt t' ht=>?_;rw[uM hf ht];exact OE λc _=>Cp (λ_=>RJ (D5 ht)) λ_=>Jk ht.2.2
def ae1{f:Tk->Option Bool}:EO en b (Lm en f):=rQ
def GX(x:ByteArray):RP S en en' w b (TR S) (Jc en x) (Jc en' x):=NP λ_ _ _ _=>rfl
def QS{x:ByteArray}:EO en b (Jc en x):=rQ
def uB:RP S en en' w b (TR S) (bA en) (bA en'):=NP λ_ _ _ _=>rfl
def agy:RP S en en' w b (TR S) (lY en) (lY en'):=NP λ_ _ _ _=>rfl
def agw:RP S en en' w b (TR S) (bO en) (bO en'):=NP λ_ _ _ _=>rfl
def QA(S:Int->Int->Prop)(p p':Int×Int):Prop:=p.1=p'.1/\S p.2 p'.2
def bR:RP S en en' w b (QA S) (Mu en) (Mu en'):=by
 refine Ci (NP λ_ _ _ _=>rfl) λt t' h=>?_;rw[h.2.1];exact OE λn _=>D5 ⟨rfl,h.2.2⟩
def Qz(least:Int):RP S en en' w b (QA S) (LU en least) (LU en' least):=by
 refine Ci bR λp p' h=>?_;rw[h.1];exact Cp (λ_=>Jk h.2) λ_=>Cp (λ_=>Jk h.2) λ_=>D5 h
def XB(least:Int):RP S en en' w b (·=·) (Rz en least) (Rz en' least):=by
 refine Ci (NP λ_ _ _ _=>rfl) λt t' h=>?_;rw[h.2.1];exact OE λn _=>Cp (λ_=>Cp (λ_=>Jk h.2.2) λ_=>D5 rfl) λ_=>Jk h.2.2
def Gr{kind n:Int}{name unit:ByteArray}{ks ks':List Nd}{p p':Int}(h:mZ S ks ks')(hp:S p p'):NR S (Fw kind name unit n ks p) (Fw kind name unit n ks' p'):=.mk h hp
def U7{l l' m m':List Nd}(h:mZ S l l')(h2:mZ S m m'):mZ S (l++m) (l'++m'):=by
 induction l generalizing l' with
 | nil=>cases h;exact h2
 | cons x l ih=>cases h with | cons a t=>exact .cons a (ih t)
def agt:RP S en en' w b (NR S) (UX en) (UX en'):=by
 refine Ci (GX _) λt t' ht=>Ci (Qz _) λn n' hn=>Ci (GX _) λ_ _ _=>Ci (XB _) λf f' hf=>?_;subst hf;refine V3 (Ci (XB _) λu u' hu=>Ci (GX _) λ_ _ _=>Ci (XB _) λk k' hk=>?_) (Ci (GX _) λ_ _ _=>Ci (XB _) λk k' hk=>?_) (LF QS);subst hu hk;rw[hn.1];exact D5 (.mk .nil ht.2.2);subst hk;rw[hn.1];exact D5 (.mk .nil ht.2.2)
def tY:RP S en en' w b (NR S) (Pa en) (Pa en'):=by
 refine Zd λt t' ht=>RJ (Ci uB λm m' hm=>Ci (GX _) λ_ _ _=>Ci agy λu u' hu=>?_);rw[ht.2.1,hm.2.1,hu.2.1];refine Cp (λ_=>Ci agw λr r' hr=>?_) λ_=>Ci (GX _) λ_ _ _=>D5 (Gr .nil ht.2.2);rw[hr.2.1];exact OE λn _=>Ci (GX _) λ_ _ _=>D5 (Gr .nil ht.2.2)
def TD:RP S en en' w b (NR S) (FT en) (FT en'):=by
 refine Ci (Qz _) λp p' h=>?_;rw[h.1];exact D5 (Gr .nil h.2)
def rP{read:Rd Nd}(q:Nat)(l:List Nd):EO en false (Nq read q l):=by
 cases q with
 | zero=>intro r s h;cases h
 | succ q=>exact n8 Pz
def agv{read Qu:Rd Nd}(h:RP S en en' w false (NR S) read Qu):∀(q q':Nat) (l l':List Nd),mZ S l l'->RP S en en' w false (mZ S) (Nq read q l) (Nq Qu q' l'):=by
 intro q
 induction q with
 | zero=>intro q' l l' _ _ _ _ _ _ _ _ e1;cases e1
 | succ q ih =>
   intro q' l l' hl;cases q' with
   | zero=>intro _ _ _ _ _ _ _ _ e2;cases e2
   | succ q'=>exact V3 (JC h (λn n' hn=>SD (ih q' _ _ (U7 hl (.cons hn .nil)))) λn=>aaM (rP q _)) (D5 hl) Pz
def ae0{read:Rd Nd}(h:EO en true read):EO en b (RF read):=LF h
def uA{read Qu:Rd Nd}(h:RP S en en' w false (NR S) read Qu):RP S en en' w false (mZ S) (RF read) (RF Qu) :=
 JC h (λn n' hn=>acP λq q'=>agv h q q' _ _ (.cons hn .nil)) λn _ _ h=>rP 1 [n] h
def Ze:RP S en en' w b (QA S) (Nk en) (Nk en'):=by
 refine Ci (NP λ_ _ _ _=>rfl) λt t' h=>?_;have:CF t=CF t':=by unfold CF;rw[h.2.1]
 rw[this,h.1];exact OE λc _=>Cp (λ_=>Cp (λ_=>D5 ⟨rfl,h.2.2⟩) λ_=>Jk h.2.2) λ_=>D5 ⟨rfl,h.2.2⟩
def aaN:EO en b (Nk en):=LF ae1
def agx:RP S en en' w b (·=·) (Vh en) (Vh en'):=by
 refine Ci (NP λ_ _ _ _=>rfl) λt t' h=>?_;rw[h.2.1];exact Cp (λ_=>D5 rfl) λ_=>D5 rfl
def bV(Ax from_ a:Int):RP S en en' w b (·=·) (NL en Ax from_ a) (NL en' Ax from_ a):=by
 refine Ci agx λs s' hs=>Ci (Qz _) λm m' hm=>Ci (GX _) λ_ _ _=>Ci (Qz _) λd d' hd=>?_;subst hs;rw[hm.1,hd.1];exact OE λg _=>OE λz _=>Cp (λ_=>Jk hd.2) λ_=>D5 rfl
def bU(Ax from_:Int):RP S en en' w b (·=·) (Mw en Ax from_) (Mw en' Ax from_):=by
 refine Ci (GX _) λ_ _ _=>V3 (Ci Ze λa a' ha=>?_) (Ci Ze λa a' ha=>?_) (LF aaN);rw[ha.1];exact bV _ _ _;rw[ha.1];exact bV _ _ _
def acR(before:List Pt)(Ax:Int):RP S en en' w b (·=·) (Rc en before Ax) (Rc en' before Ax):=by
 refine Ci Ze λv v' hv=>?_;rw[hv.1];exact Cp (λ_=>Cp (λ_=>bU _ _) λ_=>Jk hv.2) λ_=>OE λq _=>Cp (λ_=>Jk hv.2) λ_=>Cp (λ_=>Jk hv.2) λ_=>bU _ _
def xM:∀(q q':Nat) (l:List Pt) (c:Int),RP S en en' w false (·=·) (Jy en q l c) (Jy en' q' l c):=by
 intro q
 induction q with
 | zero=>intro q' l c _ _ _ _ _ _ _ e1;cases e1
 | succ q ih =>
   intro q' l c;cases q' with
   | zero=>intro _ _ _ _ _ _ _ _ e2;cases e2
   | succ q' =>
     refine Ci (acR _ _) λp p' hp=>?_;subst hp;exact SD (V3 (ih q' _ _) (D5 rfl) Pz)
def xN(c:Int){p p':Int}(hp:S p p'):∀(ps:List Pt) (acc:List Pc),RP S en en' w b (·=·) (L0 c p ps acc) (L0 c p' ps acc):=by
 intro ps
 induction ps with
 | nil=>intro acc;exact D5 rfl
 | cons x ps ih=>intro acc;exact OE λz _=>Cp (λ_=>Jk hp) λ_=>Cp (λ_=>Jk hp) λ_=>SD (ih _)
inductive ER(S:Int->Int->Prop):Ek->Ek->Prop
 | ex:ER S .ex .ex
 | lv (i:Nat):ER S (.lv i) (.lv i)
 | at_:ER S .at_ .at_
 | wd {t t':Tk}:TR S t t'->ER S (.wd t) (.wd t')
 | ca:ER S .ca .ca
 | ta:ER S .ta .ta
structure Rel(S:Int->Int->Prop)(en en':Int)(w:List Tk)(g g':Ek->Rd Nd)(li li':Rd (List Nd)):Prop where
 rg:∀{e e'},ER S e e'->RP S en en' w false (NR S) (g e) (g' e')
 rli:RP S en en' w false (mZ S) li li'
 eg:∀e,(∀t,e≠.wd t)->EO en true (g e)
 eli:EO en true li
def aiA{yes aeE:ByteArray->Rd α}{no no':Rd α}(h1:∀x,RP S en en' w b Q (yes x) (aeE x))(h2:RP S en en' w b Q no no')(h3:EO en b no):∀ops:List ByteArray,RP S en en' w b Q (kH yes no ops) (kH aeE no' ops)/\EO en b (kH yes no ops):=by
 intro ops
 induction ops with
 | nil=>exact⟨h2,h3⟩
 | cons x ops ih=>exact⟨V3 (h1 x) ih.1 ih.2,n8 ih.2⟩
def ah0{yes:ByteArray->Rd α}{no:Rd α}(h3:EO en b no):∀ops:List ByteArray,EO en b (kH yes no ops):=by
 intro ops
 induction ops with
 | nil=>exact h3
 | cons x ops ih=>exact n8 ih
def vJ{op:ByteArray}{l l' r r' x x':Nd}(hl:NR S l l')(hr:NR S r r')(h1:Bl op l r=some x)(h2:Bl op l' r'=some x'):NR S x x':=by
 have ha:S l.AH l'.AH:=by cases hl with | mk _ h=>exact h
 unfold Bl at h1 h2;revert h1 h2;cases B2 op.data.toList JK.data.toList;cases B2 op.data.toList FX.data.toList;intro h1 h2;cases h1;cases h2;exact .mk (.cons hl (.cons hr .nil)) ha;cases hq:K5 op JK Kh 1 with
 | none=>intro h1;cases h1
 | some y =>
   intro h1 h2;cases h1;cases h2;exact .mk (.cons hr (.cons hl .nil)) ha
 cases hq:K5 op JK Kh 1 with
 | none=>intro h1;cases h1
 | some y =>
   intro h1 h2;cases h1;cases h2;exact .mk (.cons hr (.cons hl .nil)) ha
def lE{sub Xa:Rd Nd}(h:RP S en en' w false (NR S) sub Xa)(op:ByteArray){l l':Nd}(hl:NR S l l'):RP S en en' w false (NR S) (PS en sub op l) (PS en' Xa op l') :=
 JC (Cp (λ_=>TD) λ_=>h) (λr r' hr=>agu λx x' h1 h2=>D5 (vJ hl hr h1 h2)) λr=>ajg λx=>Pz
def jA{ops:List ByteArray}{sub:Rd Nd}(q:Nat)(l:Nd):EO en false (Jb en ops sub q l):=by
 cases q with
 | zero=>intro r s h;cases h
 | succ q=>exact ah0 Pz ops
def acM(ops:List ByteArray){sub Xa:Rd Nd}(h:RP S en en' w false (NR S) sub Xa):∀(q q':Nat) (l l':Nd),NR S l l'->RP S en en' w false (NR S) (Jb en ops sub q l) (Jb en' ops Xa q' l'):=by
 intro q
 induction q with
 | zero=>intro q' l l' _ _ _ _ _ _ _ _ e1;cases e1
 | succ q ih =>
   intro q' l l' hl;cases q' with
   | zero=>intro _ _ _ _ _ _ _ _ e2;cases e2
   | succ q'=>exact(aiA (λx=>JC (lE h x hl) (λy y' hy=>ih q' _ _ hy) λy=>jA q y) (D5 hl) Pz ops).1
section
variable {g g':Ek->Rd Nd} {li li':Rd (List Nd)} (A:Rel S en en' w g g' li li')
include A
def acO(i:Nat):RP S en en' w false (NR S) (Nb en g i) (Nb en' g' i) :=
 JC (A.rg (.lv _)) (λN N' h=>acP λq q'=>acM _ (A.rg (.lv _)) q q' _ _ h) λN _ _ h=>jA 1 N h
def ags:RP S en en' w false (NR S) (Yd en g) (Yd en' g') :=
 JC (A.rg (.lv _)) (λN N' h=>(aiA (λx=>lE (A.rg (.lv _)) x h) (D5 h) Pz _).1) λN=>ah0 Pz _
def akY:RP S en en' w false (NR S) (W1 en g) (W1 en' g'):=by
 intro l l1 s s' r r' f e1 e2;cases f with
 | nil =>
   by_cases hw:w=[];subst hw;exact A.rg (.lv 3) .nil e1 e2;exact .inr ⟨hw,((A.eg (.lv 3) (by intro t h;cases h)) e1).Wd⟩
 | cons ht f =>
   rename_i t t' l l';unfold W1 at e1 e2
   have:Ii VT (t::l)=Ii VT (t'::l'++w):=by
     show B2 t.text.data.toList _=B2 t'.text.data.toList _;rw[ht.2.1]
   rw[<- this] at e2;cases hx:Ii VT (t::l) with
   | true =>
     rw[hx] at e1 e2;exact Ci (GX _) (λt t' ht=>JC (A.rg (.lv 2)) (λk k' hk=>D5 (Gr (.cons hk .nil) ht.2.2)) λk=>Pz) (.cons ht f) e1 e2
   | false=>rw[hx] at e1 e2;exact A.rg (.lv 3) (.cons ht f) e1 e2
def agr:RP S en en' w false (NR S) (UM en g li) (UM en' g' li'):=by
 refine Zd λt t' ht=>RJ (Ci (GX _) λ_ _ _=>JC (A.rg .ex) (λa a' ha=>Ci (GX _) λ_ _ _=>JC A.rli (λl l' hl=>SD (Ci (GX _) λ_ _ _=>?_)) λ_=>aaM (LF QS)) λ_=>LF QS);rw[ht.2.1];exact D5 (Gr (.cons ha hl) ht.2.2)
def acS:RP S en en' w false (NR S) (Uj en g) (Uj en' g'):=by
 refine Ci (GX _) λt t' ht=>Ci (GX _) λ_ _ _=>JC (A.rg .ex) (λa a' ha=>Ci (GX _) λ_ _ _=>JC (acP λq q'=>xM q q' _ _) (λl l' hl=>?_) λ_=>LF QS) λ_=>LF QS;subst hl;refine Ci (GX _) λe e' he=>SD (Ci (xN _ he.2.2 _ _) λr r' hr=>?_);subst hr;exact D5 (.mk (.cons ha .nil) ht.2.2)
def agz{t t':Tk}(ht:TR S t t'):RP S en en' w false (NR S) (RL en g t) (RL en' g' t'):=by
 unfold RL;rw[ht.2.1]
 have hd:RP S en en' w false (NR S) (Wo t) (Wo t'):=by
   unfold Wo;rw[ht.2.1];exact RJ (D5 (Gr .nil ht.2.2))
 refine Cp (λ_=>RJ (D5 (Gr .nil ht.2.2))) λ_=>Cp (λ_=>RJ (D5 (Gr .nil ht.2.2))) λ_=>Cp (λ_=>RJ (Ci (Qz _) λp p' hp=>?_)) λ_ =>
   Cp (λ_=>hd) λ_=>Cp (λ_=>hd) λ_=>Cp (λ_=>hd) λ_=>Cp (λ_=>hd) λ_=>Cp (λ_=>A.rg .ca) λ_=>Cp (λ_=>A.rg .ca) λ_=>Cp (λ_=>A.rg .ta) λ_ =>
   Cp (λ_=>RJ (JC (A.rg .ex) (λa a' ha=>Ci (GX _) λ_ _ _=>D5 ha) λ_=>LF QS)) λ_=>Jk ht.2.2
 rw[hp.1];exact D5 (Gr .nil ht.2.2)
def agq:RP S en en' w false (NR S) (Wm en g) (Wm en' g'):=by
 refine Zd λt t' ht=>?_;have h6:Cz t=Cz t':=uM (λ_ _ _ _=>rfl) ht;rw[ht.1,h6,ht.2.1];refine Cp (λ_=>Ci bR λn n' hn=>?_) λ_=>Cp (λ_=>RJ (Ci (NP λ_ _ _ _=>rfl) λa a' ha=>?_)) λ_=>OE λc _=>Cp (λ_=>RJ (D5 (Gr .nil ht.2.2))) λ_=>A.rg (.wd ht);rw[hn.1];exact V3 (D5 (Gr .nil hn.2)) (D5 (Gr .nil hn.2)) Pz;have:CF a=CF a':=by unfold CF;rw[ha.2.1]
 rw[this];exact OE λc _=>D5 (Gr .nil ht.2.2)
end
def tU:∀q q':Nat,Rel S en en' w (gP en q).1 (gP en' q').1 (gP en q).2 (gP en' q').2:=by
 intro q
 induction q with
 | zero =>
   intro q';constructor
   case rg=>intro _ _ _ _ _ _ _ _ _ _ e1;cases e1
   case rli=>intro _ _ _ _ _ _ _ e1;cases e1
   case eg=>intro _ _ _ _ e1;cases e1
   case eli=>intro _ _ e1;cases e1
 | succ q ih =>
   intro q'
   have eg:∀e,(∀t,e≠.wd t)->EO en true ((gP en (q+1)).1 e):=by
     have A:=ih 0;intro e he;show EO en true (OI en (gP en q).1 (gP en q).2 e);unfold OI;split;exact A.eg _ (by intro t h;cases h);intro r s h;exact A.eg (.lv 3) (by intro t h;cases h) h;exact LF (A.eg _ (by intro t h;cases h));exact A.eg _ (by intro t h;cases h);exact LF (A.eg _ (by intro t h;cases h));exact rQ;rename_i t;exact absurd rfl (he t);exact rQ;exact LF QS
   have eli:EO en true (gP en (q+1)).2:=ae0 ((ih 0).eg .ex (by intro t h;cases h));cases q' with
   | zero =>
     constructor
     case rg=>intro _ _ _ _ _ _ _ _ _ _ _ e2;cases e2
     case rli=>intro _ _ _ _ _ _ _ _ e2;cases e2
     case eg=>exact eg
     case eli=>exact eli
   | succ q' =>
     have A:=ih q';refine⟨λ{e e'} he=>?_,uA (A.rg .ex),eg,eli⟩;show RP S en en' w false (NR S) (OI en (gP en q).1 (gP en q).2 e) (OI en' (gP en' q').1 (gP en' q').2 e');cases he with
     | ex=>exact A.rg (.lv 0)
     | at_=>exact agq A
     | wd ht=>exact agz A ht
     | ca=>exact agr A
     | ta=>exact acS A
     | lv i =>
       unfold OI;split;rename_i h;cases h;exact akY A;exact ags A;exact A.rg .at_;rename_i h;cases h;exact acO A _
       all_goals (rename_i h;cases h)
end
end Mo
end Go.Proofs.YtpbkhogolfegfaaGreatDoor
namespace Go.Proofs.YtpbkhogolfegfaaGreatDoor
open AI Go
namespace Mo
set_option maxRecDepth 100000
def gJ{x:Int}(h:-9223372036854775808<=x/\x<=9223372036854775807):IntKind.i64.wrap x=x:=by
 unfold IntKind.wrap;simp[IntKind.bits,IntKind.signed];omega
def Yj{a b:Int}(ha:0<=a)(hb:0 < b)(h:a<=9223372036854775807):Tb a b=some (a / b):=by
 unfold Tb yQ;rw[if_neg (by omega),Int.tdiv_eq_ediv_of_nonneg ha,gJ];exact⟨by have:=Int.ediv_nonneg ha (Int.le_of_lt hb);omega,by have:=Int.ediv_le_self b ha;omega⟩
structure Gd(t:Tk):Prop where
 num:t.kind=3->∃z,Sa t.text=some (z,())/\0<=z/\z<=999999999999
 rL:t.kind=3\/t.kind=4->∃z,CF t=some z/\0<=z/\z<=999999999999
 date:t.kind=5->∃d e,FA t.text=some (d,e)/\(e=0->0<=d/\d<=36524)
 len:t.text.data.toList.length<=6000
def Gl(l:List Tk):Prop:=∀t∈l,Gd t
section
variable {α β:Type} {n:Nat} {st:Bool} {P:α->Prop} {P2:β->Prop}
def UT(n:Nat)(st:Bool)(P:α->Prop)(m:Rd α):Prop:=∀⦃l:List Tk⦄,Gl l->l.length<=n->∃r s,m l=some (r,s)/\(∃k,s=l.drop k)/\∀a,r=.inl a->P a/\(st=true->s.length < l.length)
def Gl.drop{l:List Tk}(h:Gl l)(k:Nat):Gl (l.drop k):=λt ht=>h t (List.mem_of_mem_drop ht)
def Yl{l:List Tk}{k j:Nat}:(l.drop k).drop j=l.drop (k+j):=by rw[List.drop_drop]
def BB{m:Rd α}{K:α->Rd β}(h1:UT n true P m)(h2:∀a,P a->1<=n->UT (n - 1) false P2 (K a)):UT n st P2 (Cv m K):=by
 intro l hg hl;obtain⟨r,s,e,⟨k,rfl⟩,hr⟩:=h1 hg hl;cases r with
 | inr d=>exact⟨.inr d,_,by unfold Cv;rw[e],⟨k,rfl⟩,λa h=>by cases h⟩
 | inl a =>
   obtain⟨pa,hs⟩:=hr a rfl;have hs:=hs rfl;obtain⟨r2,s2,e2,⟨j,rfl⟩,hP⟩:=h2 a pa (by omega) (hg.drop k) (by omega);refine⟨r2,_,by unfold Cv;rw[e];exact e2,⟨k+j,Yl⟩,λb hb=>⟨(hP b hb).1,λ_=>?_⟩⟩;simp only[List.length_drop] at hs ⊢;omega
def ahe{m:Rd α}{K:α->Rd β}(h1:UT n false P m)(h2:∀a,P a->UT n st P2 (K a)):UT n st P2 (Cv m K):=by
 intro l hg hl;obtain⟨r,s,e,⟨k,rfl⟩,hr⟩:=h1 hg hl;cases r with
 | inr d=>exact⟨.inr d,_,by unfold Cv;rw[e],⟨k,rfl⟩,λa h=>by cases h⟩
 | inl a =>
   obtain⟨pa,_⟩:=hr a rfl;obtain⟨r2,s2,e2,⟨j,rfl⟩,hP⟩:=h2 a pa (hg.drop k) (by rw[List.length_drop];omega);refine⟨r2,_,by unfold Cv;rw[e];exact e2,⟨k+j,Yl⟩,λb hb=>⟨(hP b hb).1,λh=>?_⟩⟩;have:=(hP b hb).2 h;simp only[List.length_drop] at this ⊢;omega
def UT.Wd{m:Rd α}(h:UT n st P m):UT n false P m:=λl hg hl=>by
 obtain⟨r,s,e,h1,h2⟩:=h hg hl;exact⟨r,s,e,h1,λa ha=>⟨(h2 a ha).1,λh=>by cases h⟩⟩
def UT.imp{Q:α->Prop}{m:Rd α}(h:UT n st P m)(f:∀a,P a->Q a):UT n st Q m:=λl hg hl=>by
 obtain⟨r,s,e,h1,h2⟩:=h hg hl;exact⟨r,s,e,h1,λa ha=>⟨f a (h2 a ha).1,(h2 a ha).2⟩⟩
def UT.le{n':Nat}{m:Rd α}(h:UT n st P m)(hn:n'<=n):UT n' st P m:=λ_ hg hl=>h hg (by omega)
def D6{a:α}(h:P a):UT n false P (FZ a):=λl _ _=>⟨.inl a,l,rfl,⟨0,rfl⟩,λb hb=>by cases hb;exact⟨h,λh=>by cases h⟩⟩
def Jm{e p:Int}:UT n st P (L8 e p):=λl _ _=>⟨_,l,rfl,⟨0,rfl⟩,λb hb=>by cases hb⟩
def OM{X:Option β}{K:β->Rd α}(h:∃b,X=some b/\UT n st P (K b)):UT n st P (Lv X K):=by
 obtain⟨b,rfl,h⟩:=h;exact h
def Zy{en:Int}{K:Tk->Rd α}(h:∀t,Gd t->∀s,Gl (t::s)->(t::s).length<=n->∃r s',K t (t::s)=some (r,s')/\(∃k,s'=(t::s).drop k)/\∀a,r=.inl a->P a/\(st=true->s'.length < (t::s).length)):UT n st P (Ue en K):=by
 intro l hg hl;cases l with
 | nil=>exact⟨_,[],rfl,⟨0,rfl⟩,λa h=>by cases h⟩
 | cons t s=>exact h t (hg t (List.mem_cons_self ..)) s hg hl
def SF{K:Rd α}(h:UT (n - 1) false P K){t:Tk}{s:List Tk}(hg:Gl (t::s))(hl:(t::s).length<=n) :
   ∃r s',Uz K (t::s)=some (r,s')/\(∃k,s'=(t::s).drop k)/\∀a,r=.inl a->P a/\(st=true->s'.length < (t::s).length):=by
 have zG:s.length+1<=n:=hl;obtain⟨r,s2,e,⟨k,rfl⟩,hr⟩:=h (l:=s) (λt ht=>hg t (List.mem_cons_of_mem _ ht)) (by omega);refine⟨r,_,e,⟨k+1,rfl⟩,λa ha=>⟨(hr a ha).1,λ_=>?_⟩⟩;rw[List.length_drop,List.length_cons];omega
def Wa{x:ByteArray}{A B:Rd α}(h1:1<=n->UT (n - 1) false P A)(h2:UT n st P B):UT n st P (OD x A B):=by
 intro l hg hl;unfold OD;cases hx:Ii x l with
 | false=>exact h2 hg hl
 | true =>
   cases l with
   | nil=>cases hx
   | cons t s=>exact SF (h1 (by simp only[List.length_cons] at hl;omega)) hg hl
def V9{c:Nat}{m:Rd α}(hc:c<=100000000)(h:UT n st P m):UT n st P (OC c m):=by
 intro l hg hl;unfold OC;rw[Gu hc];exact h hg hl
def Gc{c:Bool}{A B:Rd α}(h1:c=true->UT n st P A)(h2:c=false->UT n st P B):UT n st P (cond c A B):=by
 cases c;exact h2 rfl;exact h1 rfl
end
section
variable {n:Nat} {en:Int} {st:Bool}
def NS{f:Tk->Option Bool}(hf:∀t,∃b,f t=some b):UT n st (λt=>Gd t/\f t=some true) (Lm en f):=by
 refine Zy λt hg s aO hl=>?_;obtain⟨b,hb⟩:=hf t;unfold Lv;rw[hb];cases b with
 | true=>exact SF (D6 ⟨hg,hb⟩) aO hl
 | false=>exact Jm aO hl
def Ee{c:Bool}{α:Type}{x y:Option α}(h1:∃z,x=some z)(h2:∃z,y=some z):∃z,cond c x y=some z:=by cases c;exact h2;exact h1
def Fk(x:ByteArray):UT n st (λ_=>True) (Jc en x):=(NS λt=>Ee ⟨_,rfl⟩ ⟨_,rfl⟩).imp λ_ _=>trivial
def Wy(t:Tk):∃b,Cz t=some b:=by
 unfold Cz;rw[abV];exact Ee (Ee ⟨_,rfl⟩ ⟨_,rfl⟩) ⟨_,rfl⟩
def SB(x:ByteArray):∃b,EB x=some b:=Ee ⟨_,rfl⟩ (Ee ⟨_,rfl⟩ (Ee ⟨_,rfl⟩ (Ee ⟨_,rfl⟩ ⟨_,rfl⟩)))
def XM:UT n st (λt=>Gd t/\Cz t=some true) (bA en):=NS Wy
def uT:UT n st (λt=>Gd t/\Fi t=some true) (lY en):=NS λt=>Ee ⟨_,rfl⟩ (Ee ⟨_,rfl⟩ (Ee ⟨_,rfl⟩ (Ee ⟨_,rfl⟩ ⟨_,rfl⟩)))
def uS:UT n st (λt=>Gd t/\BX t=some true) (bO en):=NS λt=>by
 unfold BX;obtain⟨b,hb⟩:=SB t.text;rw[hb];exact Ee ⟨_,rfl⟩ ⟨_,rfl⟩
def QZ{a b:Int}{x:Bool}(h:cond (CV a b) (some true) (some false)=some x):x=CV a b:=by
 revert h;cases CV a b<;>exact λh=>(Option.some.inj h).symm
def cI:UT n st (λp:Int×Int=>0<=p.1/\p.1<=999999999999) (Mu en):=by
 refine BB (NS λt=>Ee ⟨_,rfl⟩ ⟨_,rfl⟩) λt ht _=>?_;obtain⟨z,h1,h2⟩:=ht.1.num (FR (QZ ht.2).symm);exact OM ⟨_,h1,D6 h2⟩
def ON(least:Int):UT n st (λp:Int×Int=>least<=p.1/\p.1<=1000000) (LU en least) :=
 BB cI λp hp _=>Gc (λ_=>Jm) λh1=>Gc (λ_=>Jm) λh2=>D6 ⟨Lc h1,Lc h2⟩
def XL(least:Int):UT n st (λd:Int=>least<=d/\0<=d/\d<=36524) (Rz en least):=by
 refine BB (NS λt=>Ee ⟨_,rfl⟩ ⟨_,rfl⟩) λt ht _=>?_;obtain⟨d,e,h1,h2⟩:=ht.1.date (FR (QZ ht.2).symm);exact OM ⟨_,h1,Gc (λh=>Gc (λ_=>Jm) λh3=>D6 ⟨Lc h3,h2 (FR h)⟩) λ_=>Jm⟩
def uQ:UT n st (λ_=>True) (UX en) :=
 BB (Fk _) λ_ _ _=>BB (ON _) λ_ _ _=>BB (Fk _) λ_ _ _=>BB (XL _) λ_ _ _ =>
   Wa (λ_=>BB (XL _) λ_ _ _=>BB (Fk _) λ_ _ _=>BB (XL _) λ_ _ _=>D6 trivial) (BB (Fk _) λ_ _ _=>BB (XL _) λ_ _ _=>D6 trivial)
def uP:UT n st (λ_=>True) (Pa en):=by
 refine Zy λt hg s aO hl=>SF ((BB XM λm _ _=>BB (Fk _) λ_ _ _=>BB uT λu _ _=>Gc (λ_=>BB uS λr _ _=>?_) λ_=>BB (Fk _) λ_ _ _=>D6 trivial)) aO hl;obtain⟨b,hb⟩:=SB r.text;exact OM ⟨b,hb,BB (Fk _) λ_ _ _=>D6 trivial⟩
def TF:UT n st (λ_=>True) (FT en):=BB (ON _) λ_ _ _=>D6 trivial
def Zz:UT n st (λp:Int×Int=>0<=p.1/\p.1<=999999999999) (Nk en):=by
 refine BB (NS λt=>Ee ⟨_,rfl⟩ (Ee ⟨_,rfl⟩ ⟨_,rfl⟩)) λt ht _=>?_
 have hk:t.kind=3\/t.kind=4:=by
   have h:=ht.2;unfold Dq at h;cases h4:CV t.kind 4 with
   | true=>exact .inr (FR h4)
   | false =>
     rw[h4] at h;exact .inl (FR (QZ h).symm)
 obtain⟨z,h1,h2⟩:=ht.1.rL hk;exact OM ⟨_,h1,Gc (λ_=>Gc (λ_=>D6 h2) λ_=>Jm) λ_=>D6 h2⟩
def ahi:UT n st (λs:Int=>s=1\/s=-1) (Vh en) :=
 BB (NS λt=>Ee ⟨_,rfl⟩ (Ee ⟨_,rfl⟩ ⟨_,rfl⟩)) λt _ _=>Gc (λ_=>D6 (.inr rfl)) λ_=>D6 (.inl rfl)
def PcP(x:Pt×Int):Prop:=1<=x.2/\x.2<=1000000/\1<=x.1.den/\x.1.den<=1000000/\-1000000<=x.1.num/\x.1.num<=1000000
def cK{Ax:Int}(hc:1<=Ax/\Ax<=1000000)(from_ a:Int):UT n st PcP (NL en Ax from_ a):=by
 refine BB ahi λs hs _=>BB (ON _) λm hm _=>BB (Fk _) λ_ _ _=>BB (ON _) λd hd _=>?_;obtain⟨g,h1,h2,⟨c1,h3⟩,⟨c2,h4⟩⟩:=aa8 hc.1 (show(0:Int)<=d.1 by omega);refine OM ⟨g,h1,OM ⟨_,Yj (by omega) (by omega) (by omega),Gc (λ_=>Jm) λh5=>D6 ?_⟩⟩;have hq:Ax / g=c1:=by rw[h3,Int.mul_ediv_cancel_left _ (by omega)]
 have RV:1<=c1:=by
   by_cases h:1<=c1;exact h;have:=Int.mul_nonpos_of_nonneg_of_nonpos (show 0<=g by omega) (show c1<=0 by omega);omega
 have hH:c1<=1000000:=by
   have:=Int.mul_le_mul_of_nonneg_right h2 (show 0<=c1 by omega);omega
 have hw:BU (Ax / g) d.1=c1*d.1:=by
   rw[hq];have a1:=Int.mul_le_mul hH hd.2 (by omega) (by omega);have a2:=Int.mul_nonneg (show 0<=c1 by omega) (show 0<=d.1 by omega);exact IU (by omega)
 have h6:=Lc h5
 have a1:1<=c1*d.1:=by
   have:=Int.mul_le_mul_of_nonneg_right RV (show 0<=d.1 by omega);omega
 refine⟨by rw[hw];exact a1,h6,hd.1,hd.2,?_⟩;dsimp only;rcases hs with rfl | rfl
 rw[IU (by omega)];omega;rw[IU (by omega)];omega
def cJ{Ax:Int}(hc:1<=Ax/\Ax<=1000000)(from_:Int):UT n st PcP (Mw en Ax from_) :=
 BB (Fk _) λ_ _ _=>Wa (λ_=>BB Zz λ_ _ _=>cK hc _ _) (BB Zz λ_ _ _=>cK hc _ _)
def adR(before:List Pt){Ax:Int}(hc:1<=Ax/\Ax<=1000000):UT n st (λx=>PcP x/\before.length<=63) (Rc en before Ax):=by
 refine BB Zz λv hv _=>Gc (λh=>Gc (λ_=>(cJ hc _).imp λx hx=>⟨hx,?_⟩) λ_=>Jm) λh=>?_;have:=FR h;omega;have hb:before.length≠0:=λe=>aH h (by rw[e];rfl);refine OM ⟨before[before.length - 1]'(by omega),List.getElem?_eq_getElem (by omega),Gc (λ_=>Jm) λ_=>Gc (λ_=>Jm) λh2=>(cJ hc _).imp λx hx=>⟨hx,?_⟩⟩;have:=ab2 h2;omega
end
end Mo
end Go.Proofs.YtpbkhogolfegfaaGreatDoor
namespace Go.Proofs.YtpbkhogolfegfaaGreatDoor
open AI Go
namespace Mo
set_option maxRecDepth 100000
section
variable {α β:Type} {n:Nat} {en:Int} {st:Bool} {P:α->Prop}
abbrev TT{α:Type}:α->Prop:=λ_=>True
def l9{K:Nat->Rd α}(h:∀k,k<=n->UT k st P (K (k+1))):UT n st P (λs=>K (s.length+1) s):=λl hg hl=>h l.length hl hg (Nat.le_refl _)
def ahh{read:Rd Nd}:∀(q n:Nat) (ns:List Nd),n < q->ns.length+n<=100000->UT n true TT read->UT n false (λr:List Nd=>r.length<=ns.length+n) (Nq read q ns):=by
 intro q
 induction q with
 | zero=>intro n ns h;omega
 | succ q ih =>
   intro n ns hn hl hr;refine Wa (λh1=>BB (hr.le (by omega)) λx _ h2=>V9 (by omega) ?_) (D6 (by omega));refine(ih (n - 1 - 1) (ns++[x]) (by omega) (by simp only[List.length_append,List.length_singleton];omega) (hr.le (by omega))).imp λr hr=>?_;simp only[List.length_append,List.length_singleton] at hr;omega
def uR{read:Rd Nd}(hn:n<=10000)(hr:UT n true TT read):UT n st (λr:List Nd=>r.length<=n+1) (RF read) :=
 BB hr λx _ h1=>l9 (K:=λq=>Nq read q [x]) λk hk=>(ahh (k+1) k [x] (by omega) (by simp only[List.length_singleton];omega) (hr.le (by omega))).imp λr h=>by simp only[List.length_singleton] at h;omega
def agj:∃y,K5 JK JK Kh 1=some y:=⟨_,rfl⟩
def agi:∃y,K5 FX JK Kh 1=some y:=⟨_,rfl⟩
def iN(op:ByteArray)(l r:Nd):∃x,Bl op l r=some x:=by
 unfold Bl;cases h1:B2 op.data.toList JK.data.toList with
 | true =>
   obtain⟨y,hy⟩:=agj;rw[Pb h1,hy];exact⟨_,rfl⟩
 | false =>
   cases h2:B2 op.data.toList FX.data.toList with
   | true =>
     obtain⟨y,hy⟩:=agi;rw[Pb h2,hy];exact⟨_,rfl⟩
   | false=>exact⟨_,rfl⟩
def aiK{yes:ByteArray->Rd α}{no:Rd α}(h1:∀x,1<=n->UT (n - 1) false P (yes x))(h2:UT n st P no):∀ops:List ByteArray,UT n st P (kH yes no ops):=by
 intro ops
 induction ops with
 | nil=>exact h2
 | cons x ops ih=>exact Wa (h1 x) ih
def mB{sub:Rd Nd}(h:UT n true TT sub)(op:ByteArray)(l:Nd):UT n st TT (PS en sub op l) :=
 BB (Gc (λ_=>TF) λ_=>h) λr _ _=>by
   obtain⟨x,hx⟩:=iN op l r;exact OM ⟨x,hx,D6 trivial⟩
def adQ{ops:List ByteArray}{sub:Rd Nd}:∀(q n:Nat) (l:Nd),n < q->UT n true TT sub->UT n false TT (Jb en ops sub q l):=by
 intro q
 induction q with
 | zero=>intro n l h;omega
 | succ q ih =>
   intro n l hn hs;exact aiK (λx h1=>BB (mB (hs.le (by omega)) x l) λb _ h2=>ih (n - 1 - 1) b (by omega) (hs.le (by omega))) (D6 trivial) ops
def PsP(r:List Pt×Int):Prop:=r.1.length<=64/\1<=r.2/\r.2<=1000000/\∀x∈r.1,1<=x.den/\-1000000<=x.num/\x.num<=1000000
def yJ:∀(q n:Nat) (ps:List Pt) (c:Int),n < q->1<=c->c<=1000000->(∀x∈ps,1<=x.den/\-1000000<=x.num/\x.num<=1000000)->UT n st PsP (Jy en q ps c):=by
 intro q
 induction q generalizing st with
 | zero=>intro n ps c h;omega
 | succ q ih =>
   intro n ps c hn h1 h2 h3;refine BB (adR ps ⟨h1,h2⟩) λx hx h4=>?_;obtain⟨⟨a1,a2,a3,a4,a5,a6⟩,hb⟩:=hx
   have h5:∀y∈ps++[x.1],1<=y.den/\-1000000<=y.num/\y.num<=1000000:=by
     intro y hy;rcases List.mem_append.1 hy with hy | hy
     exact h3 y hy;rw[List.mem_singleton.1 hy];exact⟨a3,a5,a6⟩
   exact V9 (by omega) (Wa (λh6=>ih (n - 1 - 1) _ _ (by omega) a1 a2 h5) (D6 ⟨by simp only[List.length_append,List.length_singleton];omega,a1,a2,h5⟩))
def yK{c:Int}(hc:1<=c/\c<=1000000)(p:Int):∀(ps:List Pt) (acc:List Pc),(∀x∈ps,1<=x.den)->acc.length+ps.length<=1000->UT n false TT (L0 c p ps acc):=by
 intro ps
 induction ps with
 | nil=>intro acc _ _;exact D6 trivial
 | cons x ps ih =>
   intro acc h1 h2;have:=h1 x (List.mem_cons_self ..);simp only[List.length_cons] at h2;exact OM ⟨_,Yj (by omega) (by omega) (by omega),Gc (λ_=>Jm) λ_=>Gc (λ_=>Jm) λ_=>V9 (by omega) (ih _ (λy hy=>h1 y (List.mem_cons_of_mem _ hy)) (by simp only[List.length_append,List.length_singleton];omega))⟩
def UW(n:Nat)(m:Rd Nd):Prop:=∀t s,Gl (t::s)->(t::s).length<=n->∃r s',m (t::s)=some (r,s')/\(∃k,s'=(t::s).drop k)/\∀a,r=.inl a->True/\(true=true->s'.length < (t::s).length)
structure Tot(q:Nat)(g:Ek->Rd Nd)(li:Rd (List Nd)):Prop where
 ex:∀n,n<=10000->10*n+11<=q->UT n true TT (g .ex)
 lv:∀i n,i<=6->n<=10000->10*n+10 - i<=q->UT n true TT (g (.lv i))
 at_:∀n,n<=10000->10*n+3<=q->UT n true TT (g .at_)
 wd:∀t n,n<=10000->10*n+2<=q->UW n (g (.wd t))
 ca:∀n,n<=10000->10*n+1<=q->UT n true TT (g .ca)
 ta:∀n,n<=10000->10*n+1<=q->UT n true TT (g .ta)
 li:∀n,n<=10000->10*n+12<=q->UT n true (λr:List Nd=>r.length<=n+1) li
section
variable {q:Nat} {g:Ek->Rd Nd} {li:Rd (List Nd)} (A:Tot q g li)
include A
def Vq{i:Nat}(hi:i<=5)(hn:n<=10000)(hq:10*n+9 - i<=q):UT n true TT (Nb en g i) :=
 BB (A.lv (i+1) n (by omega) hn (by omega)) λl _ h1=>l9 (K:=λq=>Jb en (opsOf i) (g (.lv (i+1))) q l) λk hk=>adQ (k+1) k l (by omega) (A.lv (i+1) k (by omega) (by omega) (by omega))
def ahg(hn:n<=10000)(hq:10*n+6<=q):UT n true TT (Yd en g) :=
 BB (A.lv 4 n (by omega) hn (by omega)) λl _ h1=>aiK (λx h2=>mB (A.lv 4 _ (by omega) (by omega) (by omega)) x l) (D6 trivial) _
def alm(hn:n<=10000)(hq:10*n+7<=q):UT n true TT (W1 en g):=by
 intro l hg hl;unfold W1;cases hx:Ii VT l with
 | false=>exact A.lv 3 n (by omega) hn (by omega) hg hl
 | true=>exact BB (Fk _) (λt _ h1=>BB (A.lv 2 (n - 1) (by omega) (by omega) (by omega)) λk _ _=>D6 trivial) hg hl
def ahf(hn:n<=10000)(hq:10*n<=q):UT n true TT (UM en g li):=by
 refine Zy λt hg s aO hl=>SF (BB (Fk _) λ_ _ h1=>BB (A.ex _ (by omega) (by omega)) λa _ h2=>BB (Fk _) λ_ _ h3=>BB (A.li _ (by omega) (by omega)) λl hl h4=>V9 (by omega) (BB (Fk _) λ_ _ _=>D6 trivial)) aO hl
def adS(hn:n<=10000)(hq:10*n<=q):UT n true TT (Uj en g):=by
 refine BB (Fk _) λt _ h1=>BB (Fk _) λ_ _ h2=>BB (A.ex _ (by omega) (by omega)) λa _ h3=>BB (Fk _) λ_ _ h4=>BB (P:=PsP) (l9 (K:=λq=>Jy en q [] 1) λk hk=>yJ (k+1) k [] 1 (by omega) (by omega) (by omega) (λx hx=>by cases hx)) λr hr h5=>BB (Fk _) λe _ h6=>?_;exact V9 (by have:=hr.1;omega) (ahe (yK ⟨hr.2.1,hr.2.2.1⟩ _ _ _ (λx hx=>(hr.2.2.2 x hx).1) (by have:=hr.1;simp only[List.length_nil];omega)) λ_ _=>D6 trivial)
def ahj(t:Tk)(hn:n<=10000)(hq:10*n+1<=q):UW n (RL en g t):=by
 intro t' s hg hl;have one:∀{x:Nd},∃r s',Uz (FZ x) (t'::s)=some (r,s')/\(∃k,s'=(t'::s).drop k)/\∀a,r=.inl a->True/\(true=true->s'.length < (t'::s).length):=λ{x}=>SF (D6 trivial) hg hl;have h1:1<=n:=by simp only[List.length_cons] at hl;omega
 unfold RL;cases B2 t.text.data.toList Zt.data.toList;rotate_left;exact one;cases B2 t.text.data.toList TP.data.toList;rotate_left;exact one;cases B2 t.text.data.toList dF.data.toList;rotate_left;exact SF (BB (ON _) λ_ _ _=>D6 trivial) hg hl;cases B2 t.text.data.toList L2.data.toList;rotate_left;exact one;cases B2 t.text.data.toList dO.data.toList;rotate_left;exact one;cases B2 t.text.data.toList Q1.data.toList;rotate_left;exact one;cases B2 t.text.data.toList VA.data.toList;rotate_left;exact one;cases B2 t.text.data.toList K2.data.toList;rotate_left;exact A.ca n hn hq hg hl;cases B2 t.text.data.toList F0.data.toList;rotate_left;exact A.ca n hn hq hg hl;cases B2 t.text.data.toList Rl.data.toList;rotate_left;exact A.ta n hn hq hg hl;cases B2 t.text.data.toList Ub.data.toList;rotate_left;exact SF (UT.Wd (BB (st:=true) (A.ex (n - 1) (by omega) (by omega)) λ_ _ _=>BB (Fk _) λ_ _ _=>D6 trivial)) hg hl;exact Jm (st:=true) (P:=TT) hg hl
def ahd(hn:n<=10000)(hq:10*n+2<=q):UT n true TT (Wm en g):=by
 refine Zy λt ht s hg hl=>?_;cases CV t.kind 3;rotate_left;exact BB (st:=true) (P2:=TT) cI (λ_ _ _=>Wa (λ_=>D6 trivial) (D6 trivial)) hg hl;cases CV t.kind 2;rotate_left;refine SF (BB (NS λt=>Ee ⟨_,rfl⟩ ⟨_,rfl⟩) λa ha _=>?_) hg hl;obtain⟨z,h1,_⟩:=ha.1.rL (.inr (FR (QZ ha.2).symm));exact OM ⟨z,h1,D6 trivial⟩;obtain⟨b,hb⟩:=Wy t;unfold cond Lv;dsimp only;rw[hb];cases b;exact A.wd t n hn hq t s hg hl;exact SF (D6 trivial) hg hl
end
def uL:∀q:Nat,Tot q (gP en q).1 (gP en q).2:=by
 intro q
 induction q with
 | zero=>constructor<;>intros<;>omega
 | succ q A =>
   constructor
   case ex=>intro n hn hq;exact A.lv 0 n (by omega) hn (by omega)
   case lv =>
     intro i n hi hn hq;show UT n true TT (OI en (gP en q).1 (gP en q).2 (.lv i));have:i=0\/i=1\/i=2\/i=3\/i=4\/i=5\/i=6:=by omega
     rcases this with rfl | rfl | rfl | rfl | rfl | rfl | rfl
     exact Vq A (by omega) hn (by omega);exact Vq A (by omega) hn (by omega);exact alm A hn (by omega);exact ahg A hn (by omega);exact Vq A (by omega) hn (by omega);exact Vq A (by omega) hn (by omega);exact A.at_ n hn (by omega)
   case at_=>intro n hn hq;exact ahd A hn (by omega)
   case wd=>intro t n hn hq;exact ahj A t hn (by omega)
   case ca=>intro n hn hq;exact ahf A hn (by omega)
   case ta=>intro n hn hq;exact adS A hn (by omega)
   case li=>intro n hn hq;exact uR hn (A.ex n hn (by omega))
end
end Mo
end Go.Proofs.YtpbkhogolfegfaaGreatDoor
namespace Go.Proofs.YtpbkhogolfegfaaGreatDoor
open AI Go
namespace Mo
set_option maxRecDepth 100000
def Xl:∀l:List Tk,F2 (·=·) l l
 | []=>.nil
 | t::l=>.cons ⟨rfl,rfl,rfl⟩ (Xl l)
def ah3{l l':List Tk}(h:F2 (·=·) l l'):l=l':=by
 induction h with
 | nil=>rfl
 | cons ht _ ih =>
   rename_i t t' l l' _;obtain⟨k,x,a⟩:=t;obtain⟨k',x',a'⟩:=t';obtain⟨h1,h2,h3⟩:=ht;dsimp only at h1 h2 h3;subst h1 h2 h3;rw[ih]
def aiq{n n':Nd}(h:NR (·=·) n n'):n=n' :=
 NR.rec (S:=(·=·)) (motive_1:=λa b _=>a=b) (motive_2:=λa b _=>a=b) (λ_ h ih=>by rw[ih,h]) rfl (λ_ _ h1 h2=>by rw[h1,h2]) h
def am9{en:Int}{r r':Nd⊕Dg}(h:RR (·=·) en en (NR (·=·)) r r'):r=r':=by
 cases h with
 | l h=>rw[aiq h]
 | r h =>
   rename_i d d';obtain⟨h1,h2 | ⟨rfl,rfl⟩⟩:=h;obtain⟨e,a⟩:=d;obtain⟨e',a'⟩:=d';dsimp only at h1 h2;subst h1 h2;rfl;rfl
def K9(en:Int):Rd Nd:=λl=>(gP en (10*l.length+11)).1 .ex l
def aiJ{n:Nat}{en:Int}(hn:n<=10000):UT n true TT (K9 en):=λl hg hl=>(uL (10*l.length+11)).ex l.length (by omega) (Nat.le_refl _) hg (Nat.le_refl _)
def am8{S:Int->Int->Prop}{en en':Int}{w:List Tk}:RP S en en' w false (NR S) (K9 en) (K9 en'):=λl l1 _ _ _ _ f e1 e2=>(tU _ _).rg .ex f e1 e2
def ae5{en:Int}{l s:List Tk}{r:Nd⊕Dg}(hg:Gl l)(hl:l.length<=10000)(h:K9 en l=some (r,s))(q:Nat)(hq:10*l.length+11<=q):(gP en q).1 .ex l=some (r,s):=by
 obtain⟨r',s',h2,_⟩:=(uL (en:=en) q).ex l.length hl hq hg (Nat.le_refl _);have h3:=(tU (S:=(·=·)) (en:=en) (en':=en) (w:=[]) (10*l.length+11) q).rg .ex (Xl l) h (by rw[List.append_nil];exact h2);rcases h3 with ⟨s1,rfl,h4,h5⟩ | ⟨h3,_⟩
 rw[h2,List.append_nil,am9 h5,ah3 h4];exact absurd rfl h3
section
variable {ts:List Tk} (D9:ts.length<=10000) (hg:Gl ts) {en:Int}
include D9 hg
def rU{k:Nat}(hk:k<=ts.length){r l}(hS:K9 en (ts.drop k)=some (r,l)):JD ts k (FV ⟨ts,k,en⟩) r l:=by
 have hd:(ts.drop k).length<=10000:=by rw[List.length_drop];omega
 have key:∀q,10*(ts.drop k).length+11<=q->JD ts k (Bd q ⟨ts,k,en⟩) r l:=λq hq=>(aeK (by omega) en q).ex hk (ae5 (hg.drop k) hd hS q hq);obtain⟨k',a1,a2,a3,a4⟩:=key _ (Nat.le_refl _);refine⟨k',a1,a2,a3,Yp (10*(ts.drop k).length+11) λq hq=>?_⟩;obtain⟨k2,b1,b2,b3,b4⟩:=key q hq
 have:k2=k':=by
   have h:=congrArg List.length (a3.symm.trans b3);simp only[List.length_drop] at h;omega
 rw[b4,this]
def iQ(kind:Int){k:Nat}(hk:k<=ts.length){r l}(hS:IN en (K9 en) kind (ts.drop k)=some (r,l)):JD ts k (CS ⟨ts,k,en⟩ kind) r l:=by
 have h6:ts.length<=1000000:=by omega
 refine V1 hk (λt h1 h2 hS=>?_) (λ_=>rfl) hS;have hS:=Z3 h2 hS;dsimp only[Sum.elim];rw[ED h6 hk];refine LY (Nat.le_succ k) ?_;revert hS;cases CV kind 7;intro hS;refine BE (λh=>rU D9 hg h1 h) (λa k h hk hS=>?_) (λ_ _=>rfl) hS;refine BE (λh=>IY h6 _ hk h) (λ_ k h hk hS=>?_) (λ_ _=>rfl) hS;exact Ey hk rfl hS;intro hS;refine BE (λh=>afQ h6 (λhk _ _ h=>U8 h6 hk h) h1 h) (λa k h hk hS=>?_) (λ_ _=>rfl) hS;refine BE (λh=>IY h6 _ hk h) (λ_ k h hk hS=>?_) (λ_ _=>rfl) hS;exact Ey hk rfl hS
def af6(t1 t4:Tk)(n2:Int×Int)(k0:Int):∀(q:Nat) (ns:List Nd) (un am:Bool) (k:Nat) (r:Nd⊕Dg) (l:List Tk),k<=ts.length->Gz en (K9 en) (λl=>Fw 4 t4.text bE n2.1 l t1.AH) q ns un am (ts.drop k)=some (r,l) ->
   ∃k':Nat,k<=k'/\k'<=ts.length/\l=ts.drop k'/\∃n,ET (λx:List Nd×Int×Bool×Bool=>Bv ⟨ts,k0,en⟩ t1 n2 t4 x.1 x.2.1 x.2.2.1 x.2.2.2) n (ns,(k:Int),un,am)=some (.inr (r,(k':Int))):=by
 have h6:ts.length<=1000000:=by omega
 intro q
 induction q with
 | zero=>intro ns un am k r l hk hS;cases hS
 | succ q ih =>
   intro ns un am k r l hk hS
   have stop:∀{y:(Nd⊕Dg)×Int},Bv ⟨ts,k0,en⟩ t1 n2 t4 ns (k:Int) un am=some (.rt y)->ET (λx:List Nd×Int×Bool×Bool=>Bv ⟨ts,k0,en⟩ t1 n2 t4 x.1 x.2.1 x.2.2.1 x.2.2.2) 1 (ns,(k:Int),un,am)=some (.inr y):=by
     intro y h;show(Bv ⟨ts,k0,en⟩ t1 n2 t4 ns (k:Int) un am).bind _=_;rw[h];rfl
   have go:∀{y:List Nd×Int×Bool×Bool} {n:Nat} {z},Bv ⟨ts,k0,en⟩ t1 n2 t4 ns (k:Int) un am=some (.nx y)->ET (λx:List Nd×Int×Bool×Bool=>Bv ⟨ts,k0,en⟩ t1 n2 t4 x.1 x.2.1 x.2.2.1 x.2.2.2) n y=z->ET (λx:List Nd×Int×Bool×Bool=>Bv ⟨ts,k0,en⟩ t1 n2 t4 x.1 x.2.1 x.2.2.1 x.2.2.2) (n+1) (ns,(k:Int),un,am)=z:=by
     intro y n z h h2;show(Bv ⟨ts,k0,en⟩ t1 n2 t4 ns (k:Int) un am).bind _=_;rw[h];exact h2
   unfold Gz Ue at hS;unfold Bv at stop go;rcases JS ts hk with ⟨h1,h2⟩ | ⟨t,h1,h2,h3⟩
   . rw[h2] at hS
     dsimp only at hS;simp only[Option.some.injEq,Prod.mk.injEq] at hS;obtain⟨rfl,rfl⟩:=hS;refine⟨k,Nat.le_refl k,hk,h2.symm,1,stop ?_⟩
     have:AF ⟨ts,k,en⟩=some (.inr ⟨72,en⟩):=by
       unfold AF;rw[YQ (by dsimp only;omega)];rfl
     dsimp only;rw[this];rfl
   . rw[h3] at hS
     dsimp only at hS;rw[<- h3] at hS
     have hpk:AF ⟨ts,k,en⟩=some (.inl t):=by
       unfold AF;rw[U5 (by dsimp only;omega)];dsimp only[cond];unfold Hc;rw[if_pos (by omega),Int.toNat_natCast,h2];rfl
     dsimp only at stop go;rw[hpk] at stop go;dsimp only[Option.bind,Sum.elim] at stop go
     have one:∀(kind:Int) (qV nP:Bool),(Cv (IN en (K9 en) kind) λc=>OC (ns.length+1) (Gz en (K9 en) (λl=>Fw 4 t4.text bE n2.1 l t1.AH) q (ns++[c]) qV nP)) (ts.drop k)=some (r,l) ->
         (∃(k1:Nat) (c:Nd),k<=k1/\k1<=ts.length/\CS ⟨ts,k,en⟩ kind=some (.inl c,(k1:Int))/\ns.length+1<=100000000/\∃k':Nat,k1<=k'/\k'<=ts.length/\l=ts.drop k'/\∃n,ET (λx:List Nd×Int×Bool×Bool=>Bv ⟨ts,k0,en⟩ t1 n2 t4 x.1 x.2.1 x.2.2.1 x.2.2.2) n (ns++[c],(k1:Int),qV,nP)=some (.inr (r,(k':Int)))) \/
         (∃(k':Nat) (d:Dg),k<=k'/\k'<=ts.length/\l=ts.drop k'/\r=.inr d/\CS ⟨ts,k,en⟩ kind=some (.inr d,(k':Int))):=by
       intro kind qV nP h;rcases II h with ⟨c,s',h4,h5⟩ | ⟨d,h4,rfl⟩
       obtain⟨k1,a1,a2,rfl,a4⟩:=iQ D9 hg kind hk h4;obtain⟨hl,h5⟩:=MM h5;exact .inl ⟨k1,c,a1,a2,a4,hl,ih _ _ _ _ _ _ a2 h5⟩;obtain⟨k1,a1,a2,a3,a4⟩:=iQ D9 hg kind hk h4;exact .inr ⟨k1,d,a1,a2,a3,rfl,a4⟩
     cases hw:B2 t.text.data.toList cR.data.toList with
     | true =>
       rw[hw] at hS stop go;dsimp only[cond] at hS stop go;rcases one 6 un am hS with ⟨k1,c,a1,a2,a3,a4,k',b1,b2,b3,n,b4⟩ | ⟨k',d,a1,a2,a3,rfl,a4⟩
       rw[a3] at go;dsimp only[Option.bind,Sum.elim] at go;rw[Gu a4] at go;exact⟨k',by omega,b2,b3,n+1,go rfl b4⟩
       . rw[a4] at stop
         exact⟨k',a1,a2,a3,1,stop rfl⟩
     | false =>
       rw[hw] at hS stop go;dsimp only[cond] at hS stop go;cases hu:B2 t.text.data.toList S4.data.toList with
       | true =>
         rw[hu] at hS stop go;dsimp only at hS stop go;cases un with
         | true =>
           dsimp only at hS stop go;obtain⟨rfl,rfl⟩:=MJ hS;exact⟨k,Nat.le_refl k,hk,rfl,1,stop rfl⟩
         | false =>
           dsimp only at hS stop go;rcases one 7 true am hS with ⟨k1,c,a1,a2,a3,a4,k',b1,b2,b3,n,b4⟩ | ⟨k',d,a1,a2,a3,rfl,a4⟩
           rw[a3] at go;dsimp only[Option.bind,Sum.elim] at go;rw[Gu a4] at go;exact⟨k',by omega,b2,b3,n+1,go rfl b4⟩
           . rw[a4] at stop
             exact⟨k',a1,a2,a3,1,stop rfl⟩
       | false =>
         rw[hu] at hS stop go;dsimp only at hS stop go;cases ha:B2 t.text.data.toList QN.data.toList with
         | true =>
           rw[ha] at hS stop go;dsimp only at hS stop go;cases am with
           | true =>
             dsimp only at hS stop go;obtain⟨rfl,rfl⟩:=MJ hS;exact⟨k,Nat.le_refl k,hk,rfl,1,stop rfl⟩
           | false =>
             dsimp only at hS stop go;rcases one 8 un true hS with ⟨k1,c,a1,a2,a3,a4,k',b1,b2,b3,n,b4⟩ | ⟨k',d,a1,a2,a3,rfl,a4⟩
             rw[a3] at go;dsimp only[Option.bind,Sum.elim] at go;rw[Gu a4] at go;exact⟨k',by omega,b2,b3,n+1,go rfl b4⟩
             . rw[a4] at stop
               exact⟨k',a1,a2,a3,1,stop rfl⟩
         | false =>
           rw[ha] at hS stop go;dsimp only at hS stop go;cases hc:B2 t.text.data.toList Z5.data.toList with
           | true =>
             rw[hc] at hS stop;dsimp only at hS stop;cases am with
             | true =>
               have hS:=Z3 h3 hS;obtain⟨rfl,rfl⟩:=KN hS;refine⟨k+1,by omega,h1,rfl,1,stop ?_⟩;dsimp only;rw[ED h6 hk];rfl
             | false =>
               obtain⟨rfl,rfl⟩:=MJ hS;exact⟨k,Nat.le_refl k,hk,rfl,1,stop rfl⟩
           | false =>
             rw[hc] at hS stop;dsimp only at hS stop;obtain⟨rfl,rfl⟩:=MJ hS;exact⟨k,Nat.le_refl k,hk,rfl,1,stop rfl⟩
def vE{k:Nat}(hk:k<=ts.length){r l}(hS:JP en (K9 en) (ts.drop k)=some (r,l)):JD ts k (F5 ⟨ts,k,en⟩) r l:=by
 have h6:ts.length<=1000000:=by omega
 refine BE (λh=>IY h6 _ hk h) (λt k1 h hk hS=>?_) (λ_ _=>rfl) hS;refine BE (λh=>Pj h6 _ hk h) (λn k1 h hk hS=>?_) (λ_ _=>rfl) hS;refine BE (λh=>IY h6 _ hk h) (λ_ k1 h hk hS=>?_) (λ_ _=>rfl) hS;refine BE (λh=>acj h6 hk h) (λm k1 h hk hS=>?_) (λ_ _=>rfl) hS;refine BE (λh=>ajI h6 hk h) (λhd k1 h hk hS=>?_) (λ_ _=>rfl) hS;dsimp only[Sum.elim];rw[Gu (by omega)];refine BE (λh=>IY h6 _ hk h) (λ_ k1 h hk hS=>?_) (λ_ _=>rfl) hS;obtain⟨k',a1,a2,a3,j,a4⟩:=af6 D9 hg t m n (k:Int) _ [hd] false false k1 r l hk hS;refine⟨k',a1,a2,a3,?_⟩;dsimp only[Sum.elim];rw[List.nil_append,Fl a4];rfl
def abS{k:Nat}(hk:k<=ts.length){r l}(hS:Oc en (K9 en) (ts.drop k)=some (r,l)):JD ts k (Hw ⟨ts,k,en⟩) r l:=by
 have h6:ts.length<=1000000:=by omega
 refine V1 hk (λt h1 h2 hS=>?_) (λ_=>rfl) hS;revert hS;dsimp only[Sum.elim];cases B2 t.text.data.toList Si.data.toList;rotate_left;exact λhS=>Q9 (aaF h6 hk hS);cases B2 t.text.data.toList Of.data.toList;rotate_left;exact λhS=>Q9 (aaF h6 hk hS);cases B2 t.text.data.toList Hl.data.toList;rotate_left;exact λhS=>Q9 (vE D9 hg hk hS);exact λhS=>Ey hk rfl hS
end
end Mo
end Go.Proofs.YtpbkhogolfegfaaGreatDoor
namespace Go.Proofs.YtpbkhogolfegfaaGreatDoor
open AI Go
namespace Mo
set_option maxRecDepth 100000
section
variable {S:Int->Int->Prop} {en en':Int} {w:List Tk} {b:Bool}
def V2(kind:Int):RP S en en' w b (NR S) (IN en (K9 en) kind) (IN en' (K9 en') kind) :=
 Zd λ_ _ ht=>RJ (Cp (λ_=>JC (uA TD) (λ_ _ hl=>Ci (GX _) λ_ _ _=>D5 (Gr hl ht.2.2)) λ_=>LF QS)
   λ_=>JC am8 (λ_ _ hl=>Ci (GX _) λ_ _ _=>D5 (Gr (.cons hl .nil) ht.2.2)) λ_=>LF QS)
def acQ{mk mk':List Nd->Nd}(hm:∀l l',mZ S l l'->NR S (mk l) (mk' l')):∀(q q':Nat) (l l':List Nd) (un am:Bool),mZ S l l'->RP S en en' w b (NR S) (Gz en (K9 en) mk q l un am) (Gz en' (K9 en') mk' q' l' un am):=by
 intro q
 induction q with
 | zero=>intro q' l l' un am _ _ _ _ _ _ _ _ e1;cases e1
 | succ q ih =>
   intro q' l l' un am hl;cases q' with
   | zero=>intro _ _ _ _ _ _ _ _ e2;cases e2
   | succ q' =>
     refine Zd λt t' ht=>?_;rw[ht.2.1]
     exact Cp (λ_=>Ci (V2 _) λc c' hc=>SD (ih q' _ _ _ _ (U7 hl (.cons hc .nil)))) λ_ =>
       Cp (λ_=>Cp (λ_=>Jk ht.2.2) λ_=>Ci (V2 _) λc c' hc=>SD (ih q' _ _ _ _ (U7 hl (.cons hc .nil)))) λ_ =>
       Cp (λ_=>Cp (λ_=>Jk ht.2.2) λ_=>Ci (V2 _) λc c' hc=>SD (ih q' _ _ _ _ (U7 hl (.cons hc .nil)))) λ_ =>
       Cp (λ_=>Cp (λ_=>RJ (D5 (hm _ _ hl))) λ_=>Jk ht.2.2) λ_=>Jk ht.2.2
def qJ:RP S en en' w b (NR S) (JP en (K9 en)) (JP en' (K9 en')):=by
 refine Ci (GX _) λt t' ht=>Ci (Qz _) λn n' hn=>Ci (GX _) λ_ _ _=>Ci uB λm m' hm=>Ci agt λh h' hh=>Ci (GX _) λ_ _ _=>?_;intro l l1 s s' r r' f e1 e2;refine acQ (λl l' hl=>?_) _ _ _ _ _ _ (.cons hh .nil) f e1 e2;rw[hn.1,hm.2.1];exact Gr hl ht.2.2
def Ve:RP S en en' w b (NR S) (Oc en (K9 en)) (Oc en' (K9 en')):=by
 refine Zd λt t' ht=>?_;rw[ht.2.1];exact Cp (λ_=>tY) λ_=>Cp (λ_=>tY) λ_=>Cp (λ_=>qJ) λ_=>Jk ht.2.2
end
section
variable {n:Nat} {en:Int} {st:Bool}
def yI(kind:Int)(hn:n<=10000):UT n st TT (IN en (K9 en) kind) :=
 Zy λt _ s aO hl=>SF (Gc (λ_=>BB (uR (by omega) TF) λ_ _ _=>BB (Fk _) λ_ _ _=>D6 trivial) λ_=>BB (aiJ (by omega)) λ_ _ _=>BB (Fk _) λ_ _ _=>D6 trivial) aO hl
def mA{mk:List Nd->Nd}:∀(q n:Nat) (ns:List Nd) (un am:Bool),n<=10000->n < q->ns.length+n<=100000->UT n st TT (Gz en (K9 en) mk q ns un am):=by
 intro q
 induction q generalizing st with
 | zero=>intro n ns un am _ h;omega
 | succ q ih =>
   intro n ns un am hn h1 h2
   have go:∀{st:Bool} (kind:Int) (qV nP:Bool),UT n st TT (Cv (IN en (K9 en) kind) λc=>OC (ns.length+1) (Gz en (K9 en) mk q (ns++[c]) qV nP)):=λkind qV nP =>
     BB (yI kind hn) λc _ h3=>V9 (by omega) (ih (n - 1) _ _ _ (by omega) (by omega) (by simp only[List.length_append,List.length_singleton];omega))
   refine Zy λt _ s aO hl=>?_;cases B2 t.text.data.toList cR.data.toList;rotate_left;exact go (st:=st) _ _ _ aO hl;cases B2 t.text.data.toList S4.data.toList;rotate_left;exact Gc (st:=st) (P:=TT) (λ_=>Jm) (λ_=>go _ _ _) aO hl;cases B2 t.text.data.toList QN.data.toList;rotate_left;exact Gc (st:=st) (P:=TT) (λ_=>Jm) (λ_=>go _ _ _) aO hl;cases B2 t.text.data.toList Z5.data.toList;exact Jm (st:=st) (P:=TT) aO hl;cases am;exact Jm (st:=st) (P:=TT) aO hl;exact SF (D6 trivial) aO hl
def qX(hn:n<=10000):UT n st TT (JP en (K9 en)) :=
 BB (Fk _) λt _ h1=>BB (ON _) λm _ h2=>BB (Fk _) λ_ _ h3=>BB XM λu _ h4=>BB uQ λh _ h5=>BB (Fk _) λ_ _ h6 =>
   l9 (K:=λq=>Gz en (K9 en) (λl=>Fw 4 u.text bE m.1 l t.AH) q [h] false false) λk hk=>mA (k+1) k [h] false false (by omega) (by omega) (by simp only[List.length_singleton];omega)
def gF(hn:n<=10000):UT n st TT (Oc en (K9 en)):=by
 refine Zy λt _ s aO hl=>?_;cases B2 t.text.data.toList Si.data.toList;rotate_left;exact uP (st:=st) aO hl;cases B2 t.text.data.toList Of.data.toList;rotate_left;exact uP (st:=st) aO hl;cases B2 t.text.data.toList Hl.data.toList;rotate_left;exact qX (st:=st) hn aO hl;exact Jm (st:=st) (P:=TT) aO hl
end
def Oa(t:Tk):Bool:=B2 t.text.data.toList Si.data.toList||(B2 t.text.data.toList Of.data.toList||B2 t.text.data.toList Hl.data.toList)
def OG:List Tk->List Tk
 | []=>[]
 | t::s=>if Oa t then t::s else OG s
def QB:∀l:List Tk,∃k,OG l=l.drop k
 | []=>⟨0,rfl⟩
 | t::s=>by
   unfold OG;split;exact⟨0,rfl⟩;obtain⟨k,hk⟩:=QB s;exact⟨k+1,by rw[hk];rfl⟩
def La{en:Int}{t:Tk}{l s:List Tk}{r:Nd⊕Dg}(hg:Gl (t::l))(hl:(t::l).length<=10000)(h:Oc en (K9 en) (t::l)=some (r,s)):(∃k,s=(t::l).drop k)/\(OG s).length<=l.length/\∀n,r=.inl n->s.length<=l.length:=by
 obtain⟨r',s',h2,h3,h4⟩:=gF (st:=true) (en:=en) (n:=(t::l).length) hl hg (Nat.le_refl _);rw[h] at h2;simp only[Option.some.injEq,Prod.mk.injEq] at h2;obtain⟨rfl,rfl⟩:=h2;refine⟨h3,?_,λn hn=>Nat.le_of_lt_succ ((h4 n hn).2 rfl)⟩
 have small:∀{k:Nat},(OG (l.drop k)).length<=l.length:=λ{k}=>by
   obtain⟨j,hj⟩:=QB (l.drop k);rw[hj,List.length_drop,List.length_drop];omega
 have sk:∀{x:List Tk},(∃k,x=l.drop k)->(OG x).length<=l.length:=by
   rintro x ⟨k,rfl⟩;exact small
 have WV:Gl l:=λt ht=>hg t (List.mem_cons_of_mem _ ht);have zG:l.length<=10000:=by simp only[List.length_cons] at hl;omega
 cases hi:Oa t with
 | false =>
   have NC:=hi;unfold Oa at hi;simp only[Bool.or_eq_false_iff] at hi
   have:Oc en (K9 en) (t::l)=some (.inr ⟨71,t.AH⟩,t::l):=by
     unfold Oc Ue;dsimp only;rw[hi.1,hi.2.1,hi.2.2];rfl
   rw[this] at h;simp only[Option.some.injEq,Prod.mk.injEq] at h;rw[<- h.2];unfold OG;rw[NC];obtain⟨k,hk⟩:=QB l;simp only[Bool.false_eq_true,if_false];rw[hk,List.length_drop];omega
 | true =>
   unfold Oc Ue at h;dsimp only at h
   have decl:Pa en (t::l)=some (r,s)->(OG s).length<=l.length:=by
     intro h;unfold Pa Ue Uz at h;dsimp only at h;refine sk ?_
     obtain⟨r2,s2,e2,h5,_⟩:=(show UT l.length false TT _ from BB XM λm _ _=>BB (Fk Vd) λ_ _ _=>BB uT λu _ _=>Gc (c:=B2 t.text.data.toList Of.data.toList)
       (A:=Cv (bO en) λr=>Lv (EB r.text) λn=>Cv (Jc en RY) λ_=>FZ (Fw 3 m.text u.text n [] t.AH)) (B:=Cv (Jc en RY) λ_=>FZ (Fw 2 m.text u.text 0 [] t.AH))
       (λ_=>BB uS λr _ _=>by obtain⟨b,hb⟩:=SB r.text;exact OM ⟨b,hb,BB (Fk _) λ_ _ _=>D6 trivial⟩) λ_=>BB (Fk _) λ_ _ _=>D6 trivial) WV (Nat.le_refl _)
     rw[h] at e2;simp only[Option.some.injEq,Prod.mk.injEq] at e2;rw[e2.2];exact h5
   revert h;cases hf:B2 t.text.data.toList Si.data.toList;rotate_left;exact decl;cases hli:B2 t.text.data.toList Of.data.toList;rotate_left;exact decl;cases ha:B2 t.text.data.toList Hl.data.toList;unfold Oa at hi;rw[hf,hli,ha] at hi;cases hi;intro h;refine sk ?_;have h:JP en (K9 en) (t::l)=some (r,s):=h;unfold JP at h
   have he:Jc en Hl (t::l)=some (.inl t,l):=by
     unfold Jc Lm Ue Lv Dz;dsimp only;rw[ha];rfl
   rcases II h with ⟨a,s',h3,h4⟩ | ⟨d,h3,_⟩
   rw[he] at h3;simp only[Option.some.injEq,Prod.mk.injEq,Sum.inl.injEq] at h3;obtain⟨rfl,rfl⟩:=h3
   obtain⟨r2,s2,e2,h5,_⟩:=(show UT l.length false TT _ from BB (ON (en:=en) 1) λm _ h2=>BB (Fk (en:=en) aa1) λ_ _ h3=>BB (XM (en:=en)) λu _ h4=>BB (uQ (en:=en)) λh _ h5=>BB (Fk (en:=en) fJ) λ_ _ h6 =>
     l9 (K:=λq=>Gz en (K9 en) (λl=>Fw 4 u.text bE m.1 l t.AH) q [h] false false) λk hk=>mA (k+1) k [h] false false (by omega) (by omega) (by simp only[List.length_singleton];omega)) WV (Nat.le_refl _)
   have h6:=h4.symm.trans e2;simp only[Option.some.injEq,Prod.mk.injEq] at h6;rw[h6.2];exact h5;rw[he] at h3;cases h3
end Mo
end Go.Proofs.YtpbkhogolfegfaaGreatDoor
namespace Go.Proofs.YtpbkhogolfegfaaGreatDoor
open AI Go
namespace Mo
set_option maxRecDepth 100000
def JL(en:Int):Nat->List Tk->List Nd->List Dg->Option (List Nd×List Dg)
 | 0,_,_,_=>none
 | _+1,[],ks,ds=>some (ks,ds)
 | q+1,t::l,ks,ds=>cond (DS ((ds.length:Nat):Int) 20) (match Oc en (K9 en) (t::l) with
   | none=>none
   | some (.inl n,s)=>JL en q s (ks++[n]) ds
   | some (.inr d,s)=>JL en q (OG s) ks (ds++[d])) (some (ks,ds))
def adG{en:Int}:∀(q:Nat) (l:List Tk) (ks:List Nd) (ds:List Dg),Gl l->l.length<=10000->l.length < q->∃r,JL en q l ks ds=some r:=by
 intro q
 induction q with
 | zero=>intro l ks ds _ _ h;omega
 | succ q ih =>
   intro l ks ds hg hl h;cases l with
   | nil=>exact⟨_,rfl⟩
   | cons t l =>
     unfold JL;cases DS ((ds.length:Nat):Int) 20 with
     | false=>exact⟨_,rfl⟩
     | true =>
       obtain⟨r,s,h2,_⟩:=gF (st:=true) (en:=en) (n:=(t::l).length) hl hg (Nat.le_refl _);obtain⟨⟨k,rfl⟩,h4,h5⟩:=La hg hl h2;dsimp only[cond];rw[h2];simp only[List.length_cons] at h hl;cases r with
       | inl n =>
         have h6:=h5 n rfl;exact ih _ _ _ (hg.drop k) (by omega) (by omega)
       | inr d =>
         obtain⟨j,hj⟩:=QB ((t::l).drop k);refine ih _ _ _ ?_ (by omega) (by omega);rw[hj];exact(hg.drop k).drop j
section
variable {source:ByteArray} {ts:List Tk} (D9:ts.length<=10000)
include D9
def ak4:∀(j k:Nat),k<=ts.length->ts.length - k<=j->∃n k':Nat,k<=k'/\k'<=ts.length/\OG (ts.drop k)=ts.drop k'/\ET (λx=>De source ts x) n (k:Int)=some (.inl (k':Int)):=by
 have stop:∀{k:Nat} {y:Int},De source ts (k:Int)=some (.ex y)->ET (λx=>De source ts x) 1 (k:Int)=some (.inl y):=by
   intro k y h;show(De source ts (k:Int)).bind _=_;rw[h];rfl
 intro j
 induction j with
 | zero =>
   intro k hk hj;have:k=ts.length:=by omega
   refine⟨1,k,Nat.le_refl k,hk,?_,stop ?_⟩;rw[List.drop_eq_nil_of_le (by omega)];rfl;unfold De;rw[Hp (by omega)];rfl
 | succ j ih =>
   intro k hk hj;rcases JS ts hk with ⟨h1,h2⟩ | ⟨t,h1,h2,h3⟩
   . refine⟨1,k,Nat.le_refl k,hk,?_,stop ?_⟩
     rw[h2];rfl;unfold De;rw[Hp (by omega)];rfl
   . have hs:∀x,Ii x (ts.drop k)=B2 t.text.data.toList x.data.toList:=λx=>by rw[h3];rfl
     have hL:De source ts (k:Int)=if Oa t then some (.ex (k:Int)) else some (.nx ((k+1:Nat):Int)):=by
       unfold De Oa;rw[GQ (by omega)];dsimp only[cond];rw[GY hk,GY hk,GY hk,Option.bind_some,hs,hs,hs];cases B2 t.text.data.toList Si.data.toList;cases B2 t.text.data.toList Of.data.toList;cases B2 t.text.data.toList Hl.data.toList;rw[<- ED (by omega) hk];rfl;rfl;rfl;rfl
     cases hi:Oa t with
     | true =>
       refine⟨1,k,Nat.le_refl k,hk,?_,stop ?_⟩;rw[h3];unfold OG;rw[hi];rfl;rw[hL,hi];rfl
     | false =>
       obtain⟨n,k',a1,a2,a3,a4⟩:=ih (k+1) h1 (by omega);refine⟨n+1,k',by omega,a2,?_,?_⟩;rw[h3];unfold OG;rw[hi];exact a3;show(De source ts (k:Int)).bind _=_;rw[hL,hi];exact a4
def ano(hg:Gl ts):∀(q k:Nat) (ks:List Nd) (ds:List Dg) (r:List Nd×List Dg),k<=ts.length->ks.length+ds.length+q<=100000->JL ((source.data.toList.length:Nat):Int) q (ts.drop k) ks ds=some r ->
   ∃n k':Nat,ET (λx:List Dg×List Nd×Int=>Ch source ts x.1 x.2.1 x.2.2) n (ds,ks,(k:Int))=some (.inl (r.2,r.1,(k':Int))):=by
 intro q
 induction q with
 | zero=>intro k ks ds r hk hq h;cases h
 | succ q ih =>
   intro k ks ds r hk hq h
   have stop:Ch source ts ds ks (k:Int)=some (.ex (ds,ks,(k:Int)))->ET (λx:List Dg×List Nd×Int=>Ch source ts x.1 x.2.1 x.2.2) 1 (ds,ks,(k:Int))=some (.inl (ds,ks,(k:Int))):=by
     intro h;show(Ch source ts ds ks (k:Int)).bind _=_;rw[h];rfl
   rcases JS ts hk with ⟨h1,h2⟩ | ⟨t,h1,h2,h3⟩
   . rw[h2] at h
     have:r=(ks,ds):=(Option.some.inj h).symm;subst this;refine⟨1,k,stop ?_⟩;unfold Ch;rw[Hp (by omega)];rfl
   . rw[h3] at h
     unfold JL at h;rw[<- h3] at h;cases hd:DS ((ds.length:Nat):Int) 20 with
     | false =>
       rw[hd] at h;have:r=(ks,ds):=(Option.some.inj h).symm;subst this;refine⟨1,k,stop ?_⟩;unfold Ch;rw[GQ (by omega),hd];rfl
     | true =>
       rw[hd] at h;dsimp only[cond] at h;split at h;cases h;rename_i n s hi;obtain⟨k1,a1,a2,rfl,a4⟩:=abS D9 hg hk hi;obtain⟨m,k',b1⟩:=ih k1 (ks++[n]) ds r a2 (by simp only[List.length_append,List.length_singleton];omega) h;refine⟨m+1,k',?_⟩
       have hL:Ch source ts ds ks (k:Int)=some (.nx (ds,ks++[n],(k1:Int))):=by
         unfold Ch Hx;rw[GQ (by omega),hd,a4];dsimp only[cond,Option.bind,adJ];rw[Gu (by omega)]
       show(Ch source ts ds ks (k:Int)).bind _=_;rw[hL];exact b1;rename_i d s hi;obtain⟨k1,a1,a2,rfl,a4⟩:=abS D9 hg hk hi;obtain⟨j,k2,c1,c2,c3,c4⟩:=ak4 (source:=source) D9 (ts.length - k1) k1 a2 (Nat.le_refl _);rw[c3] at h;obtain⟨m,k',b1⟩:=ih k2 ks (ds++[d]) r c2 (by simp only[List.length_append,List.length_singleton];omega) h;refine⟨m+1,k',?_⟩
       have hL:Ch source ts ds ks (k:Int)=some (.nx (ds++[d],ks,(k2:Int))):=by
         unfold Ch Hx;rw[GQ (by omega),hd,a4];dsimp only[cond,Option.bind,adJ];rw[Gu (by omega),Fl c4];rfl
       show(Ch source ts ds ks (k:Int)).bind _=_;rw[hL];exact b1
end
def Bu(s:ByteArray):List Tk:=(LexS.Jh s.data.toList).1.map Hq
def Qg(s:ByteArray):Nat:=(LexS.Jh s.data.toList).2.1
def amO(s:ByteArray):Nat:=(LexS.Jh s.data.toList).2.2
def Ha(ks:List Nd):Nd:=⟨1,ByteArray.empty,ByteArray.empty,0,0,0,0,⟨0,[]⟩,ks,0⟩
def bJ{s:ByteArray}(h:Qg s≠0):CE s=some (z0,[⟨(Qg s:Int),(amO s:Int)⟩]):=by
 unfold CE IL;rw[Option.bind_some];dsimp only;rw[KE (by unfold Qg at h;omega)];rfl
def xD{s:ByteArray}(h:Qg s=0)(hg:Gl (Bu s))(hl:(Bu s).length<=10000):∃ks ds,JL ((s.data.toList.length:Nat):Int) ((Bu s).length+1) (Bu s) [] []=some (ks,ds)/\CE s=cond (DS 0 ((ds.length:Nat):Int)) (some (z0,ds)) (Dx (Ha ks)):=by
 obtain⟨⟨ks,ds⟩,h1⟩:=adG (en:=((s.data.toList.length:Nat):Int)) ((Bu s).length+1) (Bu s) [] [] hg hl (Nat.lt_succ_self _);refine⟨ks,ds,h1,?_⟩;obtain⟨n,k',h2⟩:=ano (source:=s) hl hg ((Bu s).length+1) 0 [] [] _ (Nat.zero_le _) (by simp only[List.length_nil];omega) (by rw[List.drop_zero];exact h1);unfold CE IL;rw[Option.bind_some];dsimp only;rw[IX (by unfold Qg at h;omega)];dsimp only[cond];have h2:ET (λx:List Dg×List Nd×Int=>Ch s (List.map Hq (LexS.Jh s.data.toList).fst) x.1 x.2.1 x.2.2) n ([],[],0)=some (.inl (ds,ks,(k':Int))):=h2;rw[Fl h2,Option.bind_some];dsimp only[MN];cases DS 0 ((ds.length:Nat):Int);dsimp only;show(Dx (Ha ks)).bind _=Dx (Ha ks);cases Dx (Ha ks)<;>rfl
 rfl
end Mo
end Go.Proofs.YtpbkhogolfegfaaGreatDoor
namespace Go.Proofs.YtpbkhogolfegfaaGreatDoor
open AI Go LexS
namespace Mo
set_option maxRecDepth 100000
def Ta(c:UInt8):Prop:=48<=c.toNat/\c.toNat<=57
def aav:∀n < 128,(Me n &&& 8)≠0->48<=n/\n<=57:=by decide
def aeT{c:UInt8}(h:cin 8 c=true):Ta c:=by
 unfold cin at h;by_cases hc:c.toNat < 128;exact aav _ hc (by simpa using h)
 rw[dL _ (by omega)] at h;simp at h
def lO(t:List UInt8):∀c∈t.take (Be 8 t),Ta c:=by
 unfold Be
 induction t with
 | nil=>intro c hc;cases hc
 | cons x t ih =>
   intro c hc;rw[List.takeWhile_cons] at hc;split at hc;rename_i hx;rw[List.length_cons,List.take_succ_cons] at hc;rcases List.mem_cons.1 hc with rfl | hc
   exact aeT hx;exact ih c hc;cases hc
def aeY:∀(l:List UInt8) (acc:Nat),(∀c∈l,Ta c)->∃n,Lib.decFrom acc l=some n/\n < (acc+1)*10 ^ l.length:=by
 intro l
 induction l with
 | nil=>intro acc _;exact⟨acc,rfl,by simp⟩
 | cons c l ih =>
   intro acc h;have hc:=h c (List.mem_cons_self ..);obtain⟨n,h1,h2⟩:=ih (acc*10+(c.toNat - 48)) (λx hx=>h x (List.mem_cons_of_mem _ hx));refine⟨n,?_,Nat.lt_of_lt_of_le h2 ?_⟩;unfold Lib.decFrom Lib.digitVal;rw[if_pos (show 48<=c.toNat/\c.toNat<=57 from hc)];exact h1;rw[List.length_cons,Nat.pow_succ,Nat.mul_comm (10 ^ l.length) 10,<- Nat.mul_assoc];exact Nat.mul_le_mul_right _ (by have:=hc.2;omega)
def aaj{l:List UInt8}(h0:l≠[])(hl:l.length<=12)(h:∀c∈l,Ta c):∃z,Lib.atoi l=some z/\0<=z/\z<=999999999999:=by
 cases l with
 | nil=>exact absurd rfl h0
 | cons c l =>
   obtain⟨n,h1,h2⟩:=aeY (c::l) 0 h;have hc:=h c (List.mem_cons_self ..);have Gm:n < 10 ^ 12:=Nat.lt_of_lt_of_le h2 (by rw[Nat.zero_add,Nat.one_mul];exact Nat.pow_le_pow_right (by omega) hl);refine⟨(n:Int),?_,by omega,by omega⟩
   have e1:(c == 45)=false:=by
     apply beq_false_of_ne;rintro rfl;exact absurd hc.1 (by decide)
   have e2:(c == 43)=false:=by
     apply beq_false_of_ne;rintro rfl;exact absurd hc.1 (by decide)
   unfold Lib.atoi Lib.decNat;dsimp only;rw[e1,e2];simp only[Bool.false_eq_true,if_false,List.isEmpty_cons];rw[h1];rfl
def aT:∀(d r:List UInt8),(∀c∈d,Ta c)->Lib.indexByte (d++46::r) 46=d.length
 | [],r,_=>by unfold Lib.indexByte;rfl
 | c::d,r,h=>by
   have ih:=aT d r (λx hx=>h x (List.mem_cons_of_mem _ hx));have hc:=h c (List.mem_cons_self ..)
   have e1:(c == 46)=false:=by
     apply beq_false_of_ne;rintro rfl;exact absurd hc.1 (by decide)
   rw[List.cons_append];unfold Lib.indexByte;rw[e1,ih];simp
def X6{l:List UInt8}(h0:l≠[])(hl:l.length<=12)(h:∀c∈l,Ta c):∃z,Sa ⟨l.toArray⟩=some (z,())/\0<=z/\z<=999999999999:=by
 obtain⟨z,h1,h2⟩:=aaj h0 hl h;refine⟨z,?_,h2⟩;unfold Sa;rw[if_pos (by simp;omega)];simp only[List.toList_toArray,h1,Option.map_some]
def xJ{s:List UInt8}(k:Nat)(h:Lib.index s [46]=-1):Lib.replaceK [46] [] k s=s:=by
 cases k with
 | zero=>rfl
 | succ k=>unfold Lib.replaceK;rw[h];rfl
def jX:∀(d:List UInt8),(∀c∈d,Ta c)->Lib.indexByte d 46=-1
 | [],_=>rfl
 | c::d,h=>by
   have ih:=jX d (λx hx=>h x (List.mem_cons_of_mem _ hx));have hc:=h c (List.mem_cons_self ..)
   have e1:(c == 46)=false:=by
     apply beq_false_of_ne;rintro rfl;exact absurd hc.1 (by decide)
   unfold Lib.indexByte;rw[e1,ih];simp
def agk{d:List UInt8}(h:∀c∈d,Ta c):Lib.replace d [46] [] 1=d:=by
 unfold Lib.replace;rw[if_neg (by decide)];exact xJ _ (by rw[Lib.index_one,jX d h])
def acJ{d r:List UInt8}(h:∀c∈d,Ta c):Lib.replace (d++46::r) [46] [] 1=d++r:=by
 have hi:Lib.index (d++46::r) [46]=(d.length:Int):=by rw[Lib.index_one,aT d r h]
 have hn:Lib.replaceNum (d++46::r) [46] 1=1:=by
   have:1<=Lib.count (d++46::r) [46]:=by
     unfold Lib.count Lib.countFrom;rw[hi,if_neg (by simp)];omega
   unfold Lib.replaceNum;rw[if_neg (by omega)];rfl
 unfold Lib.replace;rw[if_neg (by decide),hn,Lib.replaceK_hit _ _ _ _ _ hi];unfold Lib.replaceK;simp
def aF{k a:Int}{l m:List UInt8}(hr:Lib.replace l [46] [] 1=m)(hl:l.length<=20)(h0:m≠[])(hm:m.length<=12)(h:∀c∈m,Ta c):∃z,CF ⟨k,⟨l.toArray⟩,a⟩=some z/\0<=z/\z<=999999999999:=by
 obtain⟨z,h1,h2⟩:=X6 h0 hm h;refine⟨z,?_,h2⟩;unfold CF
 have:K5 ⟨l.toArray⟩ akP ByteArray.empty 1=some ⟨m.toArray⟩:=by
   unfold K5
   rw[if_pos ⟨by decide,by
     have:(ByteArray.empty).size=0:=rfl;have h2:(⟨l.toArray⟩:ByteArray).size=l.length:=by simp[ByteArray.size]
     rw[this,h2];omega⟩]
   have:(akP).data.toList=[46]:=rfl;rw[this];simp only[List.toList_toArray];rw[show(ByteArray.empty).data.toList=[] from rfl,hr]
 dsimp only;rw[this,Option.bind_some,h1];rfl
def ahV(y m:Nat):Bool:=match Gp (2000+y) m,Iq (12*y+m) with
 | some n,some f=>Nat.ble 1 n.toNat&&(Nat.ble 0 f.toNat&&(decide (0<=n/\n<=31/\0<=f/\f+n<=36525)))
 | _,_=>false
def aeR:((List.range 100).all λy=>(List.range 12).all λm=>ahV y m)=true:=by kernel_rfl
def aja{y m:Nat}(hy:y < 100)(hm:m < 12):∃n f:Int,Gp (2000+y) m=some n/\Iq (12*y+m)=some f/\0<=n/\n<=31/\0<=f/\f+n<=36525:=by
 have h:=List.all_eq_true.1 (List.all_eq_true.1 aeR y (List.mem_range.2 hy)) m (List.mem_range.2 hm);unfold ahV at h;split at h;rename_i n f h1 h2;simp only[Bool.and_eq_true,decide_eq_true_eq] at h;exact⟨n,f,h1,h2,h.2.2.1,h.2.2.2.1,h.2.2.2.2.1,h.2.2.2.2.2⟩;cases h
def aaE(y m d:Int)(hy:0<=y/\y<=100000)(hm:0<=m/\m<=100000)(hd:0<=d/\d<=100000):∃z e,JQ y m d=some (z,e)/\(e=0->0<=z/\z<=36524):=by
 have bad:∃z e,(some ((0:Int),(21:Int)):Option (Int×Int))=some (z,e)/\(e=0->0<=z/\z<=36524):=⟨0,21,rfl,λh=>by omega⟩;unfold JQ;cases h1:DS y 2000;rotate_left;exact bad;cases h2:DS 2099 y;rotate_left;exact bad;cases h3:DS m 1;rotate_left;exact bad;cases h4:DS 12 m;rotate_left;exact bad;cases h5:DS d 1;rotate_left;exact bad;have h1:=Lc h1;have h2:=Lc h2;have h3:=Lc h3;have h4:=Lc h4;have h5:=Lc h5;obtain⟨n,f,a1,a2,a3,a4,a5,a6⟩:=aja (y:=(y - 2000).toNat) (m:=(m - 1).toNat) (by omega) (by omega);rw[show(2000:Int)+((y - 2000).toNat:Nat)=y by omega,show(((m - 1).toNat:Nat):Int)=m - 1 by omega] at a1;rw[show 12*(((y - 2000).toNat:Nat):Int)+(((m - 1).toNat:Nat):Int)=(y - 2000)*12+m - 1 by omega] at a2;dsimp only[cond];rw[Kp (a:=m) (by omega),a1,Option.bind_some];cases h6:DS n d;have h6:=Lc h6;dsimp only;rw[Kp (a:=y) (by omega),IU (by omega),C5 (by omega),Kp (by omega),a2,Option.bind_some];rw[C5 (by omega),Kp (by omega)];exact⟨_,0,rfl,λ_=>by omega⟩;exact bad
def aaL{c:UInt8}(hc:Ta c):w64 (Nu .u8 (fX ((c.toNat:Nat):Int) 48))=(c.toNat:Int) - 48:=by
 have h1:=hc.1;have h2:=hc.2
 have e:Nu .u8 (fX ((c.toNat:Nat):Int) 48)=(c.toNat:Int) - 48:=by
   rw[fY,Vu];unfold IntKind.wrap;simp[IntKind.bits,IntKind.signed];omega
 rw[e];unfold w64;exact gJ (by omega)
section
variable {i:Nat} {c:UInt8} (h4:i≠4) (h7:i≠7) (hc:Ta c) {a b d:Int} (ha:0<=a/\a<=1000) (hb:0<=b/\b<=1000) (hd:0<=d/\d<=1000)
include h4 h7 hc
def cl0(ha:0<=a/\a<=1000):Cc i c 0 a b d=some (.nx (0,a*10+((c.toNat:Int) - 48),b,d)):=by
 have h1:=hc.1;have h2:=hc.2;unfold Cc;rw[KE (a:=(i:Int)) (b:=4) (by omega),KE (a:=(i:Int)) (b:=7) (by omega),Hp (b:=48) (by omega),Hp (a:=57) (by omega),aaL hc];dsimp only[cond];rw[IU (a:=a) (by omega),C5 (a:=a*10) (by omega)];rfl
def cl1(hb:0<=b/\b<=1000):Cc i c 1 a b d=some (.nx (1,a,b*10+((c.toNat:Int) - 48),d)):=by
 have h1:=hc.1;have h2:=hc.2;unfold Cc;rw[KE (a:=(i:Int)) (b:=4) (by omega),KE (a:=(i:Int)) (b:=7) (by omega),Hp (b:=48) (by omega),Hp (a:=57) (by omega),aaL hc];dsimp only[cond];rw[IU (a:=b) (by omega),C5 (a:=b*10) (by omega)];rfl
def cl2(hd:0<=d/\d<=1000):Cc i c 2 a b d=some (.nx (2,a,b,d*10+((c.toNat:Int) - 48))):=by
 have h1:=hc.1;have h2:=hc.2;unfold Cc;rw[KE (a:=(i:Int)) (b:=4) (by omega),KE (a:=(i:Int)) (b:=7) (by omega),Hp (b:=48) (by omega),Hp (a:=57) (by omega),aaL hc];dsimp only[cond];rw[IU (a:=d) (by omega),C5 (a:=d*10) (by omega)];rfl
end
abbrev clF:=C8 (λi y (x:Int×Int×Int×Int)=>Cc i y x.1 x.2.1 x.2.2.1 x.2.2.2) (λx:Int×Int×Int×Int=>(x.2.1,x.2.2.1,x.2.2.2))
section
variable {i:Nat} {c:UInt8} (h4:i≠4) (h7:i≠7) (hc:Ta c) {a b d:Int} {l:List UInt8}
include h4 h7 hc
def fo0(ha:0<=a/\a<=1000):clF (c::l) i (0,a,b,d)=clF l (i+1) (0,a*10+((c.toNat:Int) - 48),b,d):=by
 show(Cc i c 0 a b d).bind _=_;rw[cl0 h4 h7 hc ha];rfl
def fo1(ha:0<=b/\b<=1000):clF (c::l) i (1,a,b,d)=clF l (i+1) (1,a,b*10+((c.toNat:Int) - 48),d):=by
 show(Cc i c 1 a b d).bind _=_;rw[cl1 h4 h7 hc ha];rfl
def fo2(ha:0<=d/\d<=1000):clF (c::l) i (2,a,b,d)=clF l (i+1) (2,a,b,d*10+((c.toNat:Int) - 48)):=by
 show(Cc i c 2 a b d).bind _=_;rw[cl2 h4 h7 hc ha];rfl
end
def fo4{l:List UInt8}{a b d:Int}:clF (45::l) (0+1+1+1+1) (0,a,b,d)=clF l (0+1+1+1+1+1) (1,a,b,d):=rfl
def fo7{l:List UInt8}{a b d:Int}:clF (45::l) (0+1+1+1+1+1+1+1) (1,a,b,d)=clF l (0+1+1+1+1+1+1+1+1) (2,a,b,d):=rfl
def vU{c0 c1 c2 c3 c5 c6 c8 c9:UInt8}(h0:Ta c0)(h1:Ta c1)(h2:Ta c2)(h3:Ta c3)(h5:Ta c5)(h6:Ta c6)(h8:Ta c8)(h9:Ta c9) :
   ∃z e,FA ⟨([c0,c1,c2,c3,45,c5,c6,45,c8,c9]:List UInt8).toArray⟩=some (z,e)/\(e=0->0<=z/\z<=36524):=by
 have b0:=h0;have b1:=h1;have b2:=h2;have b3:=h3;have b5:=h5;have b6:=h6;have b8:=h8;have b9:=h9;unfold Ta at b0 b1 b2 b3 b5 b6 b8 b9;obtain⟨z,e,hz,he⟩:=aaE ((((0*10+((c0.toNat:Int) - 48))*10+((c1.toNat:Int) - 48))*10+((c2.toNat:Int) - 48))*10+((c3.toNat:Int) - 48)) ((0*10+((c5.toNat:Int) - 48))*10+((c6.toNat:Int) - 48)) ((0*10+((c8.toNat:Int) - 48))*10+((c9.toNat:Int) - 48)) (by omega) (by omega) (by omega);refine⟨z,e,?_,he⟩;unfold FA;rw[IX (by rfl)];dsimp only[cond]
 have key:C8 (λi y x=>Cc i y x.1 x.2.1 x.2.2.1 x.2.2.2) (λx:Int×Int×Int×Int=>(x.2.1,x.2.2.1,x.2.2.2)) [c0,c1,c2,c3,45,c5,c6,45,c8,c9] 0 (0,0,0,0)=some (.inl ((((0*10+((c0.toNat:Int) - 48))*10+((c1.toNat:Int) - 48))*10+((c2.toNat:Int) - 48))*10+((c3.toNat:Int) - 48),(0*10+((c5.toNat:Int) - 48))*10+((c6.toNat:Int) - 48),(0*10+((c8.toNat:Int) - 48))*10+((c9.toNat:Int) - 48))):=by
   show clF [c0,c1,c2,c3,45,c5,c6,45,c8,c9] 0 (0,0,0,0)=_;rw[fo0 (by decide) (by decide) h0 (by omega)];rw[fo0 (by decide) (by decide) h1 (by omega)];rw[fo0 (by decide) (by decide) h2 (by omega)];rw[fo0 (by decide) (by decide) h3 (by omega)];rw[fo4];rw[fo1 (by decide) (by decide) h5 (by omega)];rw[fo1 (by decide) (by decide) h6 (by omega)];rw[fo7];rw[fo2 (by decide) (by decide) h8 (by omega)];rw[fo2 (by decide) (by decide) h9 (by omega)];rfl
 have hl:TA ([c0,c1,c2,c3,45,c5,c6,45,c8,c9]:List UInt8).length=λy:Option ((Int×Int×Int)⊕(Int×Int))=>y:=funext λy=>if_pos (by simp);simp only[List.toList_toArray,List.drop_zero];rw[hl,key];dsimp only[Option.bind,MN];rw[hz]
end Mo
end Go.Proofs.YtpbkhogolfegfaaGreatDoor
