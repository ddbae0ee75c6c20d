/- Part of a proof: see the last text. -/
import Derived.Test.YtpbkhogolfegfaaGreatDoorPnt
set_option linter.unusedVariables false
set_option linter.unusedSimpArgs false
set_option linter.defProp false
noncomputable section
open Bool renaming and_eq_true->bcA,false_eq_true->biT
open ByteArray renaming empty->V4
open Go.IntKind renaming bits->bsT,signed->bsC,wrap->bsS
open Go.Lib renaming decFrom->bmE,indexByte->boP,index_one->bsN,replaceK->brI,replaceNum->bsD
open Int renaming mul_le_mul_of_nonneg_right->boM,toNat_natCast->biW
open List renaming all_eq_true->bkN,append_nil->bcB,cons_append->bcE,drop_drop->bjD,drop_zero->bjJ,length->blU,length_append->V5,length_cons->Yy,length_drop->biR,length_nil->aOD,length_singleton->bfG,length_take->bjG,map->bpC,mem_append->bjK,mem_cons->biX,mem_cons_of_mem->bjI,mem_cons_self->bjW,mem_range->blD,mem_singleton->bjB,range->bjR,toList_toArray->blF
open Nat renaming le_refl->aOC,le_succ->blV,le_trans->bjH,lt_of_lt_of_le->bcC,zero_le->bkI
open Option renaming bind->bjU,bind_some->NF
open Option.some renaming inj->bjE,injEq->aOE
open Prod.mk renaming injEq->biY
open Sum renaming elim->aOB,inl->brW,inr->bmZ
namespace Go.Proofs.YtpbkhogolfegfaaGreatDoor
open AI Go
namespace Mo
set_option maxRecDepth 100000
section
variable {α β:Type} {ts:List Tk} {k:Nat} {en:Int} {r:α⊕Dg} {l:List Tk}
theorem Sl(N:Nd):(⟨N.kind,N.name,N.unit,N.n,N.fr,N.to,N.known,⟨N.BK.den,N.BK.ps⟩,N.kids,N.Bc⟩:Nd)=N:=by cases N;rfl
theorem KG{m:Rd β}{K:β->Rd α}{s:List Tk}(h:BZ m K s=some (r,l)):(∃a s',m s=some (.inl a,s')/\K a s'=some (r,l))\/∃d,m s=some (.inr d,l)/\r=.inr d:=by
 unfold BZ at h;split at h;cases h;rename_i a s' hm;exact .inl ⟨a,s',hm,h⟩;rename_i d s' hm;simp only[aOE,biY] at h;exact .inr ⟨d,by rw[hm,h.2],h.1.symm⟩
theorem Ma{A B:Rd α}{x:ByteArray}(hk:k<=ts.length)(h:KR x A B (ts.drop k)=some (r,l)) :
   (DS x (ts.drop k)=true/\k+1<=ts.length/\A (ts.drop (k+1))=some (r,l))\/(DS x (ts.drop k)=false/\B (ts.drop k)=some (r,l)):=by
 unfold KR at h;cases hx:DS x (ts.drop k) with
 | true =>
   rw[hx] at h;obtain⟨t,ht1,ht2⟩:=iJ hk hx;exact .inl ⟨rfl,ht1,lF ht2 h⟩
 | false =>
   rw[hx] at h;exact .inr ⟨rfl,h⟩
theorem auB{K:Rd α}(hk:k<=ts.length)(h:QC K (ts.drop k)=some (r,l)):k+1<=ts.length/\K (ts.drop (k+1))=some (r,l):=by
 rcases JP ts hk with ⟨h1,zX⟩ | ⟨t,h1,zX,h3'⟩
 rw[zX] at h;cases h;exact⟨h1,lF h3' h⟩
theorem RE{n:Nat}{m:Rd α}{s:List Tk}(h:Mh n m s=some (r,l)):n<=100000000/\m s=some (r,l):=atA h
theorem Ns{a:β}{q:β⊕Dg}{s:List Tk}(h:Gb a s=some (q,l)):q=.inl a/\l=s:=by
 simp only[Gb,aOE,biY] at h;exact⟨h.1.symm,h.2.symm⟩
theorem Qq{e p:Int}{s:List Tk}(h:Oz e p s=some (r,l)):r=.inr ⟨e,p⟩/\l=s:=by
 simp only[Oz,aOE,biY] at h;exact⟨h.1.symm,h.2.symm⟩
theorem aCE{yes:ByteArray->Rd α}{no:Rd α}(hk:k<=ts.length)(hS:tM yes no (opsOf 0) (ts.drop k)=some (r,l)) :
   (∃x,k+1<=ts.length/\DD ⟨ts,k,en⟩=some (x,true)/\yes x (ts.drop (k+1))=some (r,l))\/(DD ⟨ts,k,en⟩=some (bE,false)/\no (ts.drop k)=some (r,l)):=by
 unfold DD;simp only[GO hk,NF];rcases Ma hk hS with ⟨h0,h,hy⟩ | ⟨h0,hS⟩
 refine .inl ⟨_,h,?_,hy⟩;simp only[h0,cond_true,cond_false];refine .inr ⟨?_,hS⟩;simp only[h0,cond_false]
theorem aCF{yes:ByteArray->Rd α}{no:Rd α}(hk:k<=ts.length)(hS:tM yes no (opsOf 1) (ts.drop k)=some (r,l)) :
   (∃x,k+1<=ts.length/\DE ⟨ts,k,en⟩=some (x,true)/\yes x (ts.drop (k+1))=some (r,l))\/(DE ⟨ts,k,en⟩=some (bE,false)/\no (ts.drop k)=some (r,l)):=by
 unfold DE;simp only[GO hk,NF];rcases Ma hk hS with ⟨h0,h,hy⟩ | ⟨h0,hS⟩
 refine .inl ⟨_,h,?_,hy⟩;simp only[h0,cond_true,cond_false];refine .inr ⟨?_,hS⟩;simp only[h0,cond_false]
theorem aCG{yes:ByteArray->Rd α}{no:Rd α}(hk:k<=ts.length)(hS:tM yes no (opsOf 3) (ts.drop k)=some (r,l)) :
   (∃x,k+1<=ts.length/\DF ⟨ts,k,en⟩=some (x,true)/\yes x (ts.drop (k+1))=some (r,l))\/(DF ⟨ts,k,en⟩=some (bE,false)/\no (ts.drop k)=some (r,l)):=by
 unfold DF;simp only[GO hk,NF];rcases Ma hk hS with ⟨h0,h,hy⟩ | ⟨h0,hS⟩
 refine .inl ⟨_,h,?_,hy⟩;simp only[h0,cond_true,cond_false];rcases Ma hk hS with ⟨h1,h,hy⟩ | ⟨h1,hS⟩
 refine .inl ⟨_,h,?_,hy⟩;simp only[h0,h1,cond_true,cond_false];rcases Ma hk hS with ⟨h2,h,hy⟩ | ⟨h2,hS⟩
 refine .inl ⟨_,h,?_,hy⟩;simp only[h0,h1,h2,cond_true,cond_false];rcases Ma hk hS with ⟨h3,h,hy⟩ | ⟨h3,hS⟩
 refine .inl ⟨_,h,?_,hy⟩;simp only[h0,h1,h2,h3,cond_true,cond_false];rcases Ma hk hS with ⟨h4,h,hy⟩ | ⟨h4,hS⟩
 refine .inl ⟨_,h,?_,hy⟩;simp only[h0,h1,h2,h3,h4,cond_true,cond_false];rcases Ma hk hS with ⟨h5,h,hy⟩ | ⟨h5,hS⟩
 refine .inl ⟨_,h,?_,hy⟩;simp only[h0,h1,h2,h3,h4,h5,cond_true,cond_false];refine .inr ⟨?_,hS⟩;simp only[h0,h1,h2,h3,h4,h5,cond_false]
theorem aCH{yes:ByteArray->Rd α}{no:Rd α}(hk:k<=ts.length)(hS:tM yes no (opsOf 4) (ts.drop k)=some (r,l)) :
   (∃x,k+1<=ts.length/\DG ⟨ts,k,en⟩=some (x,true)/\yes x (ts.drop (k+1))=some (r,l))\/(DG ⟨ts,k,en⟩=some (bE,false)/\no (ts.drop k)=some (r,l)):=by
 unfold DG;simp only[GO hk,NF];rcases Ma hk hS with ⟨h0,h,hy⟩ | ⟨h0,hS⟩
 refine .inl ⟨_,h,?_,hy⟩;simp only[h0,cond_true,cond_false];rcases Ma hk hS with ⟨h1,h,hy⟩ | ⟨h1,hS⟩
 refine .inl ⟨_,h,?_,hy⟩;simp only[h0,h1,cond_true,cond_false];refine .inr ⟨?_,hS⟩;simp only[h0,h1,cond_false]
theorem aCI{yes:ByteArray->Rd α}{no:Rd α}(hk:k<=ts.length)(hS:tM yes no (opsOf 5) (ts.drop k)=some (r,l)) :
   (∃x,k+1<=ts.length/\DH ⟨ts,k,en⟩=some (x,true)/\yes x (ts.drop (k+1))=some (r,l))\/(DH ⟨ts,k,en⟩=some (bE,false)/\no (ts.drop k)=some (r,l)):=by
 unfold DH;simp only[GO hk,NF];rcases Ma hk hS with ⟨h0,h,hy⟩ | ⟨h0,hS⟩
 refine .inl ⟨_,h,?_,hy⟩;simp only[h0,cond_true,cond_false];rcases Ma hk hS with ⟨h1,h,hy⟩ | ⟨h1,hS⟩
 refine .inl ⟨_,h,?_,hy⟩;simp only[h0,h1,cond_true,cond_false];rcases Ma hk hS with ⟨h2,h,hy⟩ | ⟨h2,hS⟩
 refine .inl ⟨_,h,?_,hy⟩;simp only[h0,h1,h2,cond_true,cond_false];refine .inr ⟨?_,hS⟩;simp only[h0,h1,h2,cond_false]
end
structure Agr(R:Aa)(ts:List Tk)(en:Int)(g:Ek->Rd Nd)(li:Rd (List Nd)):Prop where
 ex:∀{k:Nat},k<=ts.length->∀{r l},g .ex (ts.drop k)=some (r,l)->JG ts k (R.Az ⟨ts,k,en⟩) r l
 l0:∀{k:Nat},k<=ts.length->∀{r l},g (.lv 0) (ts.drop k)=some (r,l)->JG ts k (R.D9 ⟨ts,k,en⟩) r l
 l1:∀{k:Nat},k<=ts.length->∀{r l},g (.lv 1) (ts.drop k)=some (r,l)->JG ts k (R.BS ⟨ts,k,en⟩) r l
 l2:∀{k:Nat},k<=ts.length->∀{r l},g (.lv 2) (ts.drop k)=some (r,l)->JG ts k (R.Bp ⟨ts,k,en⟩) r l
 l3:∀{k:Nat},k<=ts.length->∀{r l},g (.lv 3) (ts.drop k)=some (r,l)->JG ts k (R.Cz ⟨ts,k,en⟩) r l
 l4:∀{k:Nat},k<=ts.length->∀{r l},g (.lv 4) (ts.drop k)=some (r,l)->JG ts k (R.CC ⟨ts,k,en⟩) r l
 l5:∀{k:Nat},k<=ts.length->∀{r l},g (.lv 5) (ts.drop k)=some (r,l)->JG ts k (R.BT ⟨ts,k,en⟩) r l
 l6:∀{k:Nat},k<=ts.length->∀{r l},g (.lv 6) (ts.drop k)=some (r,l)->JG ts k (R.BU ⟨ts,k,en⟩) r l
 at_:∀{k:Nat},k<=ts.length->∀{r l},g .at_ (ts.drop k)=some (r,l)->JG ts k (R.Fo ⟨ts,k,en⟩) r l
 wd:∀(t:Tk) {k:Nat},k<=ts.length->∀{r l},g (.wd t) (ts.drop k)=some (r,l)->JG ts k (R.Fp ⟨ts,k,en⟩ t) r l
 ca:∀{k:Nat},k<=ts.length->∀{r l},g .ca (ts.drop k)=some (r,l)->JG ts k (R.CY ⟨ts,k,en⟩) r l
 ta:∀{k:Nat},k<=ts.length->∀{r l},g .ta (ts.drop k)=some (r,l)->JG ts k (R.EY ⟨ts,k,en⟩) r l
 li:∀{k:Nat},k<=ts.length->∀{r l},li (ts.drop k)=some (r,l)->JG ts k (R.Ds ⟨ts,k,en⟩) r l
section
variable {ts:List Tk} (DT:ts.length<=1000000) {en:Int}
include DT
theorem OH{sub:Rd Nd}{F:Pr->Option ((Nd⊕Dg)×Int)}{k:Nat}(hk:k<=ts.length)(Lc:∀{r l},sub (ts.drop k)=some (r,l)->JG ts k (F ⟨ts,k,en⟩) r l){x:ByteArray}{N:Nd}{r l}(hS:PJ en sub x N (ts.drop k)=some (r,l)) :
   ∃k':Nat,k<=k'/\k'<=ts.length/\l=ts.drop k'/\((∃n b,cond (BD x.data.toList BI.data.toList) (Ax ⟨ts,k,en⟩) (F ⟨ts,k,en⟩)=some (.inl n,(k':Int))/\AY x N n=some b/\r=.inl b)\/∃d,cond (BD x.data.toList BI.data.toList) (Ax ⟨ts,k,en⟩) (F ⟨ts,k,en⟩)=some (.inr d,(k':Int))/\r=.inr d):=by
 have key:∀{r l},(cond (BD x.data.toList BI.data.toList) (DA en) sub) (ts.drop k)=some (r,l)->JG ts k (cond (BD x.data.toList BI.data.toList) (Ax ⟨ts,k,en⟩) (F ⟨ts,k,en⟩)) r l:=by
   intro r l h;revert h;cases BD x.data.toList BI.data.toList;exact λh=>Lc h;exact λh=>XI DT hk h
 rcases KG hS with ⟨n,s',h1,h2⟩ | ⟨d,h1,h2⟩
 obtain⟨b,hb,h2⟩:=Lm h2;obtain⟨rfl,rfl⟩:=Ns h2;obtain⟨k',a1,a2,a3,a4⟩:=key h1;exact⟨k',a1,a2,a3,.inl ⟨n,b,a4,hb,rfl⟩⟩;obtain⟨k',a1,a2,a3,a4⟩:=key h1;exact⟨k',a1,a2,a3,.inr ⟨d,a4,h2⟩⟩
theorem aoB{R:Aa}{sub:Rd Nd}(Lc:∀{k:Nat},k<=ts.length->∀{r l},sub (ts.drop k)=some (r,l)->JG ts k (R.BS ⟨ts,k,en⟩) r l)(k0:Int) :
   ∀(q:Nat) (N:Nd) (k:Nat) (r:Nd⊕Dg) (l:List Tk),k<=ts.length->JN en (opsOf 0) sub q N (ts.drop k)=some (r,l) ->
   ∃k':Nat,k<=k'/\k'<=ts.length/\l=ts.drop k'/\∃n,DP (λx=>Bk R ⟨ts,k0,en⟩ x.1 x.2.1 x.2.2.1 x.2.2.2.1 x.2.2.2.2.1 x.2.2.2.2.2.1 x.2.2.2.2.2.2.1 x.2.2.2.2.2.2.2.1 x.2.2.2.2.2.2.2.2.1 x.2.2.2.2.2.2.2.2.2.1 x.2.2.2.2.2.2.2.2.2.2.1 x.2.2.2.2.2.2.2.2.2.2.2) n (N.kind,N.name,N.unit,N.n,N.fr,N.to,N.known,N.BK.den,N.BK.ps,N.kids,N.Bc,(k:Int))=some (.inr (r,(k':Int))):=by
 intro q
 induction q with
 | zero=>intro N k r l hk hS;cases hS
 | succ q ih =>
   intro N k r l hk hS;rcases aCE (en:=en) hk hS with ⟨x,h1,h2,hS⟩ | ⟨h2,hS⟩
   rcases KG hS with ⟨b,s',h3,h4⟩ | ⟨d,h3,rfl⟩
   obtain⟨k',a1,a2,rfl,⟨n,b',hX,hb,hr⟩ | ⟨d,hX,hr⟩⟩:=OH DT h1 (λh=>Lc h1 h) h3;cases hr;obtain⟨k2,b1,b2,b3,m,b4⟩:=ih b k' r l a2 h4;refine⟨k2,by omega,b2,b3,m+1,?_⟩
   have hL:Bk R ⟨ts,k0,en⟩ N.kind N.name N.unit N.n N.fr N.to N.known N.BK.den N.BK.ps N.kids N.Bc (k:Int)=some (.nx (b.kind,b.name,b.unit,b.n,b.fr,b.to,b.known,b.BK.den,b.BK.ps,b.kids,b.Bc,(k':Int))):=by
     unfold Bk;dsimp only;rw[h2];dsimp only[bjU,cond];rw[Ew DT hk];cases hE:BD x.data.toList BI.data.toList <;>
     · rw[hE] at hX;dsimp only[cond] at hX;dsimp only
       rw[hX];dsimp only[aOB];rw[Sl,hb]
   show(Bk R ⟨ts,k0,en⟩ N.kind N.name N.unit N.n N.fr N.to N.known N.BK.den N.BK.ps N.kids N.Bc (k:Int)).bind _=_;rw[hL];exact b4;cases hr;obtain⟨k',a1,a2,rfl,⟨n,b',hX,hb,hr⟩ | ⟨d',hX,hr⟩⟩:=OH DT h1 (λh=>Lc h1 h) h3;cases hr;cases hr;refine⟨k',by omega,a2,rfl,1,?_⟩
   have hL:Bk R ⟨ts,k0,en⟩ N.kind N.name N.unit N.n N.fr N.to N.known N.BK.den N.BK.ps N.kids N.Bc (k:Int)=some (.rt (.inr d,(k':Int))):=by
     unfold Bk;dsimp only;rw[h2];dsimp only[bjU,cond];rw[Ew DT hk];cases hE:BD x.data.toList BI.data.toList <;>
     · rw[hE] at hX;dsimp only[cond] at hX;dsimp only
       rw[hX];rfl
   show(Bk R ⟨ts,k0,en⟩ N.kind N.name N.unit N.n N.fr N.to N.known N.BK.den N.BK.ps N.kids N.Bc (k:Int)).bind _=_;rw[hL];rfl;obtain⟨rfl,rfl⟩:=Ns hS;refine⟨k,aOC k,hk,rfl,1,?_⟩
   have hL:Bk R ⟨ts,k0,en⟩ N.kind N.name N.unit N.n N.fr N.to N.known N.BK.den N.BK.ps N.kids N.Bc (k:Int)=some (.rt (.inl N,(k:Int))):=by
     unfold Bk;dsimp only;rw[h2,Sl];rfl
   show(Bk R ⟨ts,k0,en⟩ N.kind N.name N.unit N.n N.fr N.to N.known N.BK.den N.BK.ps N.kids N.Bc (k:Int)).bind _=_;rw[hL];rfl
theorem asT{R:Aa}{g:Ek->Rd Nd}(Lc:∀{k:Nat},k<=ts.length->∀{r l},g (.lv 1) (ts.drop k)=some (r,l)->JG ts k (R.BS ⟨ts,k,en⟩) r l){k:Nat}(hk:k<=ts.length){r l}(hS:LV en g 0 (ts.drop k)=some (r,l)) :
   JG ts k (Im R ⟨ts,k,en⟩) r l:=by
 refine Bg (λh=>Lc hk h) (λN k' h1 h2 hS=>?_) (λ_ _=>rfl) hS;obtain⟨k2,a1,a2,a3,n,a4⟩:=aoB DT Lc (k:Int) _ N k' r l h2 hS;refine⟨k2,a1,a2,a3,?_⟩;dsimp only[aOB];rw[EI a4];rfl
theorem aoC{R:Aa}{sub:Rd Nd}(Lc:∀{k:Nat},k<=ts.length->∀{r l},sub (ts.drop k)=some (r,l)->JG ts k (R.Bp ⟨ts,k,en⟩) r l)(k0:Int) :
   ∀(q:Nat) (N:Nd) (k:Nat) (r:Nd⊕Dg) (l:List Tk),k<=ts.length->JN en (opsOf 1) sub q N (ts.drop k)=some (r,l) ->
   ∃k':Nat,k<=k'/\k'<=ts.length/\l=ts.drop k'/\∃n,DP (λx=>Bl R ⟨ts,k0,en⟩ x.1 x.2.1 x.2.2.1 x.2.2.2.1 x.2.2.2.2.1 x.2.2.2.2.2.1 x.2.2.2.2.2.2.1 x.2.2.2.2.2.2.2.1 x.2.2.2.2.2.2.2.2.1 x.2.2.2.2.2.2.2.2.2.1 x.2.2.2.2.2.2.2.2.2.2.1 x.2.2.2.2.2.2.2.2.2.2.2) n (N.kind,N.name,N.unit,N.n,N.fr,N.to,N.known,N.BK.den,N.BK.ps,N.kids,N.Bc,(k:Int))=some (.inr (r,(k':Int))):=by
 intro q
 induction q with
 | zero=>intro N k r l hk hS;cases hS
 | succ q ih =>
   intro N k r l hk hS;rcases aCF (en:=en) hk hS with ⟨x,h1,h2,hS⟩ | ⟨h2,hS⟩
   rcases KG hS with ⟨b,s',h3,h4⟩ | ⟨d,h3,rfl⟩
   obtain⟨k',a1,a2,rfl,⟨n,b',hX,hb,hr⟩ | ⟨d,hX,hr⟩⟩:=OH DT h1 (λh=>Lc h1 h) h3;cases hr;obtain⟨k2,b1,b2,b3,m,b4⟩:=ih b k' r l a2 h4;refine⟨k2,by omega,b2,b3,m+1,?_⟩
   have hL:Bl R ⟨ts,k0,en⟩ N.kind N.name N.unit N.n N.fr N.to N.known N.BK.den N.BK.ps N.kids N.Bc (k:Int)=some (.nx (b.kind,b.name,b.unit,b.n,b.fr,b.to,b.known,b.BK.den,b.BK.ps,b.kids,b.Bc,(k':Int))):=by
     unfold Bl;dsimp only;rw[h2];dsimp only[bjU,cond];rw[Ew DT hk];cases hE:BD x.data.toList BI.data.toList <;>
     · rw[hE] at hX;dsimp only[cond] at hX;dsimp only
       rw[hX];dsimp only[aOB];rw[Sl,hb]
   show(Bl R ⟨ts,k0,en⟩ N.kind N.name N.unit N.n N.fr N.to N.known N.BK.den N.BK.ps N.kids N.Bc (k:Int)).bind _=_;rw[hL];exact b4;cases hr;obtain⟨k',a1,a2,rfl,⟨n,b',hX,hb,hr⟩ | ⟨d',hX,hr⟩⟩:=OH DT h1 (λh=>Lc h1 h) h3;cases hr;cases hr;refine⟨k',by omega,a2,rfl,1,?_⟩
   have hL:Bl R ⟨ts,k0,en⟩ N.kind N.name N.unit N.n N.fr N.to N.known N.BK.den N.BK.ps N.kids N.Bc (k:Int)=some (.rt (.inr d,(k':Int))):=by
     unfold Bl;dsimp only;rw[h2];dsimp only[bjU,cond];rw[Ew DT hk];cases hE:BD x.data.toList BI.data.toList <;>
     · rw[hE] at hX;dsimp only[cond] at hX;dsimp only
       rw[hX];rfl
   show(Bl R ⟨ts,k0,en⟩ N.kind N.name N.unit N.n N.fr N.to N.known N.BK.den N.BK.ps N.kids N.Bc (k:Int)).bind _=_;rw[hL];rfl;obtain⟨rfl,rfl⟩:=Ns hS;refine⟨k,aOC k,hk,rfl,1,?_⟩
   have hL:Bl R ⟨ts,k0,en⟩ N.kind N.name N.unit N.n N.fr N.to N.known N.BK.den N.BK.ps N.kids N.Bc (k:Int)=some (.rt (.inl N,(k:Int))):=by
     unfold Bl;dsimp only;rw[h2,Sl];rfl
   show(Bl R ⟨ts,k0,en⟩ N.kind N.name N.unit N.n N.fr N.to N.known N.BK.den N.BK.ps N.kids N.Bc (k:Int)).bind _=_;rw[hL];rfl
theorem asU{R:Aa}{g:Ek->Rd Nd}(Lc:∀{k:Nat},k<=ts.length->∀{r l},g (.lv 2) (ts.drop k)=some (r,l)->JG ts k (R.Bp ⟨ts,k,en⟩) r l){k:Nat}(hk:k<=ts.length){r l}(hS:LV en g 1 (ts.drop k)=some (r,l)) :
   JG ts k (Io R ⟨ts,k,en⟩) r l:=by
 refine Bg (λh=>Lc hk h) (λN k' h1 h2 hS=>?_) (λ_ _=>rfl) hS;obtain⟨k2,a1,a2,a3,n,a4⟩:=aoC DT Lc (k:Int) _ N k' r l h2 hS;refine⟨k2,a1,a2,a3,?_⟩;dsimp only[aOB];rw[EI a4];rfl
theorem aoD{R:Aa}{sub:Rd Nd}(Lc:∀{k:Nat},k<=ts.length->∀{r l},sub (ts.drop k)=some (r,l)->JG ts k (R.BT ⟨ts,k,en⟩) r l)(k0:Int) :
   ∀(q:Nat) (N:Nd) (k:Nat) (r:Nd⊕Dg) (l:List Tk),k<=ts.length->JN en (opsOf 4) sub q N (ts.drop k)=some (r,l) ->
   ∃k':Nat,k<=k'/\k'<=ts.length/\l=ts.drop k'/\∃n,DP (λx=>Bm R ⟨ts,k0,en⟩ x.1 x.2.1 x.2.2.1 x.2.2.2.1 x.2.2.2.2.1 x.2.2.2.2.2.1 x.2.2.2.2.2.2.1 x.2.2.2.2.2.2.2.1 x.2.2.2.2.2.2.2.2.1 x.2.2.2.2.2.2.2.2.2.1 x.2.2.2.2.2.2.2.2.2.2.1 x.2.2.2.2.2.2.2.2.2.2.2) n (N.kind,N.name,N.unit,N.n,N.fr,N.to,N.known,N.BK.den,N.BK.ps,N.kids,N.Bc,(k:Int))=some (.inr (r,(k':Int))):=by
 intro q
 induction q with
 | zero=>intro N k r l hk hS;cases hS
 | succ q ih =>
   intro N k r l hk hS;rcases aCH (en:=en) hk hS with ⟨x,h1,h2,hS⟩ | ⟨h2,hS⟩
   rcases KG hS with ⟨b,s',h3,h4⟩ | ⟨d,h3,rfl⟩
   obtain⟨k',a1,a2,rfl,⟨n,b',hX,hb,hr⟩ | ⟨d,hX,hr⟩⟩:=OH DT h1 (λh=>Lc h1 h) h3;cases hr;obtain⟨k2,b1,b2,b3,m,b4⟩:=ih b k' r l a2 h4;refine⟨k2,by omega,b2,b3,m+1,?_⟩
   have hL:Bm R ⟨ts,k0,en⟩ N.kind N.name N.unit N.n N.fr N.to N.known N.BK.den N.BK.ps N.kids N.Bc (k:Int)=some (.nx (b.kind,b.name,b.unit,b.n,b.fr,b.to,b.known,b.BK.den,b.BK.ps,b.kids,b.Bc,(k':Int))):=by
     unfold Bm;dsimp only;rw[h2];dsimp only[bjU,cond];rw[Ew DT hk];cases hE:BD x.data.toList BI.data.toList <;>
     · rw[hE] at hX;dsimp only[cond] at hX;dsimp only
       rw[hX];dsimp only[aOB];rw[Sl,hb]
   show(Bm R ⟨ts,k0,en⟩ N.kind N.name N.unit N.n N.fr N.to N.known N.BK.den N.BK.ps N.kids N.Bc (k:Int)).bind _=_;rw[hL];exact b4;cases hr;obtain⟨k',a1,a2,rfl,⟨n,b',hX,hb,hr⟩ | ⟨d',hX,hr⟩⟩:=OH DT h1 (λh=>Lc h1 h) h3;cases hr;cases hr;refine⟨k',by omega,a2,rfl,1,?_⟩
   have hL:Bm R ⟨ts,k0,en⟩ N.kind N.name N.unit N.n N.fr N.to N.known N.BK.den N.BK.ps N.kids N.Bc (k:Int)=some (.rt (.inr d,(k':Int))):=by
     unfold Bm;dsimp only;rw[h2];dsimp only[bjU,cond];rw[Ew DT hk];cases hE:BD x.data.toList BI.data.toList <;>
     · rw[hE] at hX;dsimp only[cond] at hX;dsimp only
       rw[hX];rfl
   show(Bm R ⟨ts,k0,en⟩ N.kind N.name N.unit N.n N.fr N.to N.known N.BK.den N.BK.ps N.kids N.Bc (k:Int)).bind _=_;rw[hL];rfl;obtain⟨rfl,rfl⟩:=Ns hS;refine⟨k,aOC k,hk,rfl,1,?_⟩
   have hL:Bm R ⟨ts,k0,en⟩ N.kind N.name N.unit N.n N.fr N.to N.known N.BK.den N.BK.ps N.kids N.Bc (k:Int)=some (.rt (.inl N,(k:Int))):=by
     unfold Bm;dsimp only;rw[h2,Sl];rfl
   show(Bm R ⟨ts,k0,en⟩ N.kind N.name N.unit N.n N.fr N.to N.known N.BK.den N.BK.ps N.kids N.Bc (k:Int)).bind _=_;rw[hL];rfl
theorem asV{R:Aa}{g:Ek->Rd Nd}(Lc:∀{k:Nat},k<=ts.length->∀{r l},g (.lv 5) (ts.drop k)=some (r,l)->JG ts k (R.BT ⟨ts,k,en⟩) r l){k:Nat}(hk:k<=ts.length){r l}(hS:LV en g 4 (ts.drop k)=some (r,l)) :
   JG ts k (Iq R ⟨ts,k,en⟩) r l:=by
 refine Bg (λh=>Lc hk h) (λN k' h1 h2 hS=>?_) (λ_ _=>rfl) hS;obtain⟨k2,a1,a2,a3,n,a4⟩:=aoD DT Lc (k:Int) _ N k' r l h2 hS;refine⟨k2,a1,a2,a3,?_⟩;dsimp only[aOB];rw[EI a4];rfl
theorem aoE{R:Aa}{sub:Rd Nd}(Lc:∀{k:Nat},k<=ts.length->∀{r l},sub (ts.drop k)=some (r,l)->JG ts k (R.BU ⟨ts,k,en⟩) r l)(k0:Int) :
   ∀(q:Nat) (N:Nd) (k:Nat) (r:Nd⊕Dg) (l:List Tk),k<=ts.length->JN en (opsOf 5) sub q N (ts.drop k)=some (r,l) ->
   ∃k':Nat,k<=k'/\k'<=ts.length/\l=ts.drop k'/\∃n,DP (λx=>Bo R ⟨ts,k0,en⟩ x.1 x.2.1 x.2.2.1 x.2.2.2.1 x.2.2.2.2.1 x.2.2.2.2.2.1 x.2.2.2.2.2.2.1 x.2.2.2.2.2.2.2.1 x.2.2.2.2.2.2.2.2.1 x.2.2.2.2.2.2.2.2.2.1 x.2.2.2.2.2.2.2.2.2.2.1 x.2.2.2.2.2.2.2.2.2.2.2) n (N.kind,N.name,N.unit,N.n,N.fr,N.to,N.known,N.BK.den,N.BK.ps,N.kids,N.Bc,(k:Int))=some (.inr (r,(k':Int))):=by
 intro q
 induction q with
 | zero=>intro N k r l hk hS;cases hS
 | succ q ih =>
   intro N k r l hk hS;rcases aCI (en:=en) hk hS with ⟨x,h1,h2,hS⟩ | ⟨h2,hS⟩
   rcases KG hS with ⟨b,s',h3,h4⟩ | ⟨d,h3,rfl⟩
   obtain⟨k',a1,a2,rfl,⟨n,b',hX,hb,hr⟩ | ⟨d,hX,hr⟩⟩:=OH DT h1 (λh=>Lc h1 h) h3;cases hr;obtain⟨k2,b1,b2,b3,m,b4⟩:=ih b k' r l a2 h4;refine⟨k2,by omega,b2,b3,m+1,?_⟩
   have hL:Bo R ⟨ts,k0,en⟩ N.kind N.name N.unit N.n N.fr N.to N.known N.BK.den N.BK.ps N.kids N.Bc (k:Int)=some (.nx (b.kind,b.name,b.unit,b.n,b.fr,b.to,b.known,b.BK.den,b.BK.ps,b.kids,b.Bc,(k':Int))):=by
     unfold Bo;dsimp only;rw[h2];dsimp only[bjU,cond];rw[Ew DT hk];cases hE:BD x.data.toList BI.data.toList <;>
     · rw[hE] at hX;dsimp only[cond] at hX;dsimp only
       rw[hX];dsimp only[aOB];rw[Sl,hb]
   show(Bo R ⟨ts,k0,en⟩ N.kind N.name N.unit N.n N.fr N.to N.known N.BK.den N.BK.ps N.kids N.Bc (k:Int)).bind _=_;rw[hL];exact b4;cases hr;obtain⟨k',a1,a2,rfl,⟨n,b',hX,hb,hr⟩ | ⟨d',hX,hr⟩⟩:=OH DT h1 (λh=>Lc h1 h) h3;cases hr;cases hr;refine⟨k',by omega,a2,rfl,1,?_⟩
   have hL:Bo R ⟨ts,k0,en⟩ N.kind N.name N.unit N.n N.fr N.to N.known N.BK.den N.BK.ps N.kids N.Bc (k:Int)=some (.rt (.inr d,(k':Int))):=by
     unfold Bo;dsimp only;rw[h2];dsimp only[bjU,cond];rw[Ew DT hk];cases hE:BD x.data.toList BI.data.toList <;>
     · rw[hE] at hX;dsimp only[cond] at hX;dsimp only
       rw[hX];rfl
   show(Bo R ⟨ts,k0,en⟩ N.kind N.name N.unit N.n N.fr N.to N.known N.BK.den N.BK.ps N.kids N.Bc (k:Int)).bind _=_;rw[hL];rfl;obtain⟨rfl,rfl⟩:=Ns hS;refine⟨k,aOC k,hk,rfl,1,?_⟩
   have hL:Bo R ⟨ts,k0,en⟩ N.kind N.name N.unit N.n N.fr N.to N.known N.BK.den N.BK.ps N.kids N.Bc (k:Int)=some (.rt (.inl N,(k:Int))):=by
     unfold Bo;dsimp only;rw[h2,Sl];rfl
   show(Bo R ⟨ts,k0,en⟩ N.kind N.name N.unit N.n N.fr N.to N.known N.BK.den N.BK.ps N.kids N.Bc (k:Int)).bind _=_;rw[hL];rfl
theorem asW{R:Aa}{g:Ek->Rd Nd}(Lc:∀{k:Nat},k<=ts.length->∀{r l},g (.lv 6) (ts.drop k)=some (r,l)->JG ts k (R.BU ⟨ts,k,en⟩) r l){k:Nat}(hk:k<=ts.length){r l}(hS:LV en g 5 (ts.drop k)=some (r,l)) :
   JG ts k (Ir R ⟨ts,k,en⟩) r l:=by
 refine Bg (λh=>Lc hk h) (λN k' h1 h2 hS=>?_) (λ_ _=>rfl) hS;obtain⟨k2,a1,a2,a3,n,a4⟩:=aoE DT Lc (k:Int) _ N k' r l h2 hS;refine⟨k2,a1,a2,a3,?_⟩;dsimp only[aOB];rw[EI a4];rfl
end
section
variable {α β γ:Type} {ts:List Tk} {k:Nat} {en:Int} {l:List Tk}
def oT(ts:List Tk)(k:Nat)(X:Option ((Pt⊕Dg)×Int×Int))(r:(Pt×Int)⊕Dg)(l:List Tk):Prop:=∃k':Nat,k<=k'/\k'<=ts.length/\l=ts.drop k'/\match r with
 | .inl x=>X=some (.inl x.1,(k':Int),x.2)
 | .inr d=>∃c,X=some (.inr d,(k':Int),c)
variable {r:(Pt×Int)⊕Dg}
theorem ahG{k2:Nat}{X:Option ((Pt⊕Dg)×Int×Int)}(h1:k<=k2)(h:oT ts k2 X r l):oT ts k X r l:=by
 obtain⟨k',a,b,c,d⟩:=h;exact⟨k',bjH h1 a,b,c,d⟩
theorem Jk{F1:Option ((γ⊕Dg)×Int)}{F2:(γ⊕Dg)×Int->Option ((Pt⊕Dg)×Int×Int)}{m:Rd γ}{K:γ->Rd (Pt×Int)}
   (h1:∀{r l},m (ts.drop k)=some (r,l)->JG ts k F1 r l)
   (h2:∀a k',k<=k'->k'<=ts.length->K a (ts.drop k')=some (r,l)->oT ts k' (F2 (.inl a,(k':Int))) r l)
   (h3:∀d z,∃c,F2 (.inr d,z)=some (.inr d,z,c)) (hS:BZ m K (ts.drop k)=some (r,l)):oT ts k (F1.bind F2) r l:=by
 rcases KG hS with ⟨a,s',hm,hS⟩ | ⟨d,hm,rfl⟩
 obtain⟨k',a1,a2,rfl,a4⟩:=h1 hm;rw[a4];exact ahG a1 (h2 _ _ a1 a2 hS);obtain⟨k',a1,a2,a3,a4⟩:=h1 hm;obtain⟨c,hc⟩:=h3 d k';exact⟨k',a1,a2,a3,c,by rw[a4,NF,hc]⟩
theorem avA{F2:Bool->Option ((Pt⊕Dg)×Int×Int)}{A B:Rd (Pt×Int)}{x:ByteArray}(hk:k<=ts.length)
   (h1:k+1<=ts.length->A (ts.drop (k+1))=some (r,l)->oT ts (k+1) (F2 true) r l) (h2:B (ts.drop k)=some (r,l)->oT ts k (F2 false) r l)
   (hS:KR x A B (ts.drop k)=some (r,l)):oT ts k ((Ai ⟨ts,k,en⟩ x).bind F2) r l:=by
 rw[GO hk,NF];rcases Ma hk hS with ⟨h,h3,hS⟩ | ⟨h,hS⟩
 rw[h];exact ahG (blV k) (h1 h3 hS);rw[h];exact h2 hS
end
def aSA(p:Pr)(Ap Bq:Int)(A5:Int×Int):Option ((Pt⊕Dg)×Int×Int):=((Ac (⟨p.Bd,Bq,p.Dt⟩:Pr) PG).bind λ(KU,Fx)=>aOB (λ(Jc:Tk)=>(Ai (⟨p.Bd,Fx,p.Dt⟩:Pr) Fj).bind λy3=>cond y3 ((BE (⟨p.Bd,(Bh Fx 1),p.Dt⟩:Pr)).bind λ(Zn,LD)=>aOB (λ(GS:(Int×Int))=>(B5 (⟨p.Bd,LD,p.Dt⟩:Pr)).bind λ(Tu,JF)=>aOB (λ(Kb:Int)=>(Au (⟨p.Bd,JF,p.Dt⟩:Pr) 0).bind λ(y6a,SS)=>aOB (λ(NB:(Int×Int))=>(Ac (⟨p.Bd,SS,p.Dt⟩:Pr) BI).bind λ(y7a,WZ)=>aOB (λ(jS:Tk)=>(Au (⟨p.Bd,WZ,p.Dt⟩:Pr) 1).bind λ(jT,P5)=>aOB (λ(Jz:(Int×Int))=>(CH Ap Jz.1).bind λy9=>(Oj Ap y9).bind λz10=>cond (Dd 1000000 (CK z10 Jz.1)) (some ((bmZ (⟨2,Jz.2⟩:Dg):(Pt⊕Dg)),P5,(CK z10 Jz.1))) (some ((brW (⟨A5.1,(CK GS.1 (-1)),(CK NB.1 Kb),Jz.1⟩:Pt):(Pt⊕Dg)),P5,(CK z10 Jz.1)))) (λ(Qi:Dg)=>some ((bmZ Qi:(Pt⊕Dg)),P5,Ap)) jT) (λ(Vr:Dg)=>some ((bmZ Vr:(Pt⊕Dg)),WZ,Ap)) y7a) (λ(SR:Dg)=>some ((bmZ SR:(Pt⊕Dg)),SS,Ap)) y6a) (λ(Kq:Dg)=>some ((bmZ Kq:(Pt⊕Dg)),JF,Ap)) Tu) (λ(Lk:Dg)=>some ((bmZ Lk:(Pt⊕Dg)),LD,Ap)) Zn) ((BE (⟨p.Bd,Fx,p.Dt⟩:Pr)).bind λ(adX,Uz)=>aOB (λ(VO:(Int×Int))=>(B5 (⟨p.Bd,Uz,p.Dt⟩:Pr)).bind λ(jN,Zm)=>aOB (λ(aiV:Int)=>(Au (⟨p.Bd,Zm,p.Dt⟩:Pr) 0).bind λ(jO,Tt)=>aOB (λ(VP:(Int×Int))=>(Ac (⟨p.Bd,Tt,p.Dt⟩:Pr) BI).bind λ(WW,SQ)=>aOB (λ(aKN:Tk)=>(Au (⟨p.Bd,SQ,p.Dt⟩:Pr) 1).bind λ(sW,Vq)=>aOB (λ(P3:(Int×Int))=>(CH Ap P3.1).bind λZQ=>(Oj Ap ZQ).bind λz17=>cond (Dd 1000000 (CK z17 P3.1)) (some ((bmZ (⟨2,P3.2⟩:Dg):(Pt⊕Dg)),Vq,(CK z17 P3.1))) (some ((brW (⟨A5.1,(CK VO.1 1),(CK VP.1 aiV),P3.1⟩:Pt):(Pt⊕Dg)),Vq,(CK z17 P3.1)))) (λ(aiY:Dg)=>some ((bmZ aiY:(Pt⊕Dg)),Vq,Ap)) sW) (λ(aiX:Dg)=>some ((bmZ aiX:(Pt⊕Dg)),SQ,Ap)) WW) (λ(jP:Dg)=>some ((bmZ jP:(Pt⊕Dg)),Tt,Ap)) jO) (λ(aiW:Dg)=>some ((bmZ aiW:(Pt⊕Dg)),Zm,Ap)) jN) (λ(jM:Dg)=>some ((bmZ jM:(Pt⊕Dg)),Uz,Ap)) adX)) (λ(Kp:Dg)=>some ((bmZ Kp:(Pt⊕Dg)),Fx,Ap)) KU)
section
variable {ts:List Tk} (DT:ts.length<=1000000) {en:Int}
include DT
theorem xD(k0 Ap:Int)(v:Int×Int){k:Nat}(hk:k<=ts.length){r l}(hS:Ox en Ap v.1 (ts.drop k)=some (r,l)):oT ts k (aSA ⟨ts,k0,en⟩ Ap k v) r l:=by
 refine Jk (λh=>Jg DT _ hk h) (λ_ k h hk hS=>?_) (λ_ _=>⟨_,rfl⟩) hS;refine avA hk (λhk1 hS=>?_) (λhS=>?_) hS;dsimp only[cond];rw[Ew DT hk];refine Jk (λh=>sU DT hk1 h) (λa k h hk hS=>?_) (λ_ _=>⟨_,rfl⟩) hS;refine Jk (λh=>awA DT hk h) (λs k h hk hS=>?_) (λ_ _=>⟨_,rfl⟩) hS;refine Jk (λh=>QD DT _ hk h) (λm k h hk hS=>?_) (λ_ _=>⟨_,rfl⟩) hS;refine Jk (λh=>Jg DT _ hk h) (λ_ k h hk hS=>?_) (λ_ _=>⟨_,rfl⟩) hS;refine Jk (λh=>QD DT _ hk h) (λd k h hk hS=>?_) (λ_ _=>⟨_,rfl⟩) hS;obtain⟨g,hg,hS⟩:=Lm hS;have hg:=aqF hg;obtain⟨z,hz,hS⟩:=Lm hS;dsimp only[aOB];rw[hg,NF,hz,NF];revert hS;cases Dd 1000000 (CK z d.1);exact λhS=>by obtain⟨rfl,rfl⟩:=Ns hS;exact⟨k,aOC k,hk,rfl,rfl⟩
 exact λhS=>by obtain⟨rfl,rfl⟩:=Qq hS;exact⟨k,aOC k,hk,rfl,_,rfl⟩
 refine Jk (λh=>sU DT hk h) (λa k h hk hS=>?_) (λ_ _=>⟨_,rfl⟩) hS;refine Jk (λh=>awA DT hk h) (λs k h hk hS=>?_) (λ_ _=>⟨_,rfl⟩) hS;refine Jk (λh=>QD DT _ hk h) (λm k h hk hS=>?_) (λ_ _=>⟨_,rfl⟩) hS;refine Jk (λh=>Jg DT _ hk h) (λ_ k h hk hS=>?_) (λ_ _=>⟨_,rfl⟩) hS;refine Jk (λh=>QD DT _ hk h) (λd k h hk hS=>?_) (λ_ _=>⟨_,rfl⟩) hS;obtain⟨g,hg,hS⟩:=Lm hS;have hg:=aqF hg;obtain⟨z,hz,hS⟩:=Lm hS;dsimp only[aOB];rw[hg,NF,hz,NF];revert hS;cases Dd 1000000 (CK z d.1);exact λhS=>by obtain⟨rfl,rfl⟩:=Ns hS;exact⟨k,aOC k,hk,rfl,rfl⟩
 exact λhS=>by obtain⟨rfl,rfl⟩:=Qq hS;exact⟨k,aOC k,hk,rfl,_,rfl⟩
theorem agZ(before:List Pt)(hb:before.length<=100000000)(Ap:Int){k:Nat}(hk:k<=ts.length){r l}(hS:Uf en before Ap (ts.drop k)=some (r,l)):oT ts k (Jr ⟨ts,k,en⟩ before Ap) r l:=by
 refine Jk (λh=>sU DT hk h) (λv k1 h hk hS=>?_) (λ_ _=>⟨_,rfl⟩) hS;dsimp only[aOB];revert hS;cases hE:Bi ((before.length:Nat):Int) 0 with
 | true =>
   cases Bi v.1 0;exact λhS=>by obtain⟨rfl,rfl⟩:=Qq hS;exact⟨k1,aOC k1,hk,rfl,_,rfl⟩
   exact λhS=>xD DT k Ap v hk hS
 | false =>
   intro hS;have h0:before.length≠0:=λh=>aeX hE (by rw[h];rfl);obtain⟨x,hx,hS⟩:=Lm hS;dsimp only[cond];rw[G4 (by omega)]
   have hg:F9 before (Ka ((before.length:Nat):Int) 1)=some x:=by
     have:Ka ((before.length:Nat):Int) 1=((before.length - 1:Nat):Int):=by
       rw[FH (by omega)];omega
     rw[this];unfold F9;rw[if_pos (by omega),biW,hx]
   dsimp only;rw[hg,NF];revert hS;cases LS v.1 x.fr;cases LS 64 ((before.length:Nat):Int);exact λhS=>xD DT k Ap v hk hS;exact λhS=>by obtain⟨rfl,rfl⟩:=Qq hS;exact⟨k1,aOC k1,hk,rfl,_,rfl⟩
   exact λhS=>by obtain⟨rfl,rfl⟩:=Qq hS;exact⟨k1,aOC k1,hk,rfl,_,rfl⟩
theorem xE(R:Aa)(k0:Int):∀(q:Nat) (ps:List Pt) (c:Int) (k:Nat) (r:(List Pt×Int)⊕Dg) (l:List Tk),ps.length<=100000000->k<=ts.length->K1 en q ps c (ts.drop k)=some (r,l) ->
   ∃k':Nat,k<=k'/\k'<=ts.length/\l=ts.drop k'/\∃n,DP (λx=>BB R ⟨ts,k0,en⟩ x.1 x.2.1 x.2.2) n (ps,c,(k:Int))=some (match r with | .inl x=>.inl (x.1,x.2,(k':Int)) | .inr d=>.inr (.inr d,(k':Int))):=by
 intro q
 induction q with
 | zero=>intro ps c k r l hp hk hS;cases hS
 | succ q ih =>
   intro ps c k r l hp hk hS;rcases KG hS with ⟨x,s',h3,h4⟩ | ⟨d,h3,rfl⟩
   obtain⟨k',a1,a2,rfl,a4⟩:=agZ DT ps hp c hk h3;obtain⟨hl,h4⟩:=RE h4;rcases Ma a2 h4 with ⟨h5,h6,h7⟩ | ⟨h5,h7⟩
   obtain⟨k2,b1,b2,b3,n,b4⟩:=ih (ps++[x.1]) x.2 (k'+1) r l (by simp only[V5,bfG];omega) h6 h7;refine⟨k2,by omega,b2,b3,n+1,?_⟩
   have hL:BB R ⟨ts,k0,en⟩ ps c (k:Int)=some (.nx (ps++[x.1],x.2,((k'+1:Nat):Int))):=by
     unfold BB;dsimp only at a4 ⊢;rw[a4,NF];dsimp only[aOB];rw[Dw hl,GO a2,h5,NF,Ew DT a2];rfl
   show(BB R ⟨ts,k0,en⟩ ps c (k:Int)).bind _=_;rw[hL];exact b4;obtain⟨rfl,rfl⟩:=Ns h7;refine⟨k',a1,a2,rfl,1,?_⟩
   have hL:BB R ⟨ts,k0,en⟩ ps c (k:Int)=some (.ex (ps++[x.1],x.2,(k':Int))):=by
     unfold BB;dsimp only at a4 ⊢;rw[a4,NF];dsimp only[aOB];rw[Dw hl,GO a2,h5,NF];rfl
   show(BB R ⟨ts,k0,en⟩ ps c (k:Int)).bind _=_;rw[hL];rfl;obtain⟨k',a1,a2,a3,c',a4⟩:=agZ DT ps hp c hk h3;refine⟨k',a1,a2,a3,1,?_⟩
   have hL:BB R ⟨ts,k0,en⟩ ps c (k:Int)=some (.rt (.inr d,(k':Int))):=by
     unfold BB;dsimp only at a4 ⊢;rw[a4,NF];rfl
   show(BB R ⟨ts,k0,en⟩ ps c (k:Int)).bind _=_;rw[hL];rfl
omit DT in
theorem yK(R:Aa)(c:Int)(t:Tk)(kz:Int):∀(ps:List Pt) (acc:List Pc) (i:Nat) (r:(List Pc)⊕Dg) (s l:List Tk),Mb c t.Bc ps acc s=some (r,l) ->
   l=s/\Bs (λi y x=>I2 R c kz t i y x) (λx=>x) ps i acc=some (match r with | .inl x=>.inl x | .inr d=>.inr (.inr d,kz)):=by
 intro ps
 induction ps with
 | nil =>
   intro acc i r s l hS;obtain⟨rfl,rfl⟩:=Ns hS;exact⟨rfl,rfl⟩
 | cons x ps ih =>
   intro acc i r s l hS;unfold Mb at hS;obtain⟨z,hz,hS⟩:=Lm hS;rw[Bs];unfold I2;rw[hz,NF];revert hS;cases Dd 1000000 (CK x.num z);cases Dd (CK x.num z) (-1000000);intro hS;obtain⟨hl,hS⟩:=RE hS;obtain⟨rfl,h⟩:=ih _ (i+1) r s l hS;refine⟨rfl,?_⟩;dsimp only[cond];rw[Dw hl,NF];exact h;intro hS;obtain⟨rfl,rfl⟩:=Qq hS;exact⟨rfl,rfl⟩;intro hS;obtain⟨rfl,rfl⟩:=Qq hS;exact⟨rfl,rfl⟩
theorem aFJ{R:Aa}{g:Ek->Rd Nd}(hex:∀{k:Nat},k<=ts.length->∀{r l},g .ex (ts.drop k)=some (r,l)->JG ts k (R.Az ⟨ts,k,en⟩) r l){k:Nat}(hk:k<=ts.length){r l}(hS:WG en g (ts.drop k)=some (r,l)) :
   JG ts k (Js R ⟨ts,k,en⟩) r l:=by
 refine Bg (λh=>Jg DT _ hk h) (λt k1 h hk1 hS=>?_) (λ_ _=>rfl) hS;refine Bg (λh=>Jg DT _ hk1 h) (λ_ k2 h hk2 hS=>?_) (λ_ _=>rfl) hS;refine Bg (λh=>hex hk2 h) (λa k3 h hk3 hS=>?_) (λ_ _=>rfl) hS;refine Bg (λh=>Jg DT _ hk3 h) (λ_ k4 h hk4 hS=>?_) (λ_ _=>rfl) hS;dsimp only[aOB];rcases KG hS with ⟨x,s',h3,h4⟩ | ⟨d,h3,rfl⟩
 obtain⟨k',a1,a2,rfl,n,a4⟩:=xE DT R (k:Int) _ [] 1 k4 _ _ (by simp) hk4 h3;rw[EI a4,NF];refine L9 a1 ?_;dsimp only[H8];refine Bg (λh=>Jg DT _ a2 h) (λe k5 h hk5 hS=>?_) (λ_ _=>rfl) h4;obtain⟨hl,hS⟩:=RE hS;dsimp only[aOB];rw[bjJ,show Cs x.1.length=λy=>y from funext λy=>if_pos (by omega)];dsimp only;rcases KG hS with ⟨y,s2,h5,h6⟩ | ⟨d,h5,rfl⟩
 obtain⟨rfl,h⟩:=yK R x.2 e (k5:Int) x.1 [] 0 _ _ _ h5;rw[h];exact Eg hk5 rfl h6;obtain⟨rfl,h⟩:=yK R x.2 e (k5:Int) x.1 [] 0 _ _ _ h5;rw[h];exact⟨k5,aOC _,hk5,rfl,rfl⟩;obtain⟨k',a1,a2,a3,n,a4⟩:=xE DT R (k:Int) _ [] 1 k4 _ _ (by simp) hk4 h3;rw[EI a4,NF];exact⟨k',a1,a2,a3,rfl⟩
theorem acD{R:Aa}{read:Rd Nd}(k0:Int)(O7:∀{k:Nat},k<=ts.length->∀{r l},read (ts.drop k)=some (r,l)->JG ts k (R.Az ⟨ts,k,en⟩) r l):∀(q:Nat) (ns:List Nd) (k:Nat) (r:(List Nd)⊕Dg) (l:List Tk),k<=ts.length->N6 read q ns (ts.drop k)=some (r,l) ->
   ∃k':Nat,k<=k'/\k'<=ts.length/\l=ts.drop k'/\∃n,DP (λx=>A9 R ⟨ts,k0,en⟩ x.1 x.2) n (ns,(k:Int))=some (match r with | .inl x=>.inl (x,(k':Int)) | .inr d=>.inr (.inr d,(k':Int))):=by
 intro q
 induction q with
 | zero=>intro ns k r l hk hS;cases hS
 | succ q ih =>
   intro ns k r l hk hS;rcases Ma hk hS with ⟨h1,h2,hS⟩ | ⟨h1,hS⟩
   rcases KG hS with ⟨x,s',h3,h4⟩ | ⟨d,h3,rfl⟩
   obtain⟨k',a1,a2,rfl,a4⟩:=O7 h2 h3;obtain⟨hl,h4⟩:=RE h4;obtain⟨k2,b1,b2,b3,n,b4⟩:=ih (ns++[x]) k' r l a2 h4;refine⟨k2,by omega,b2,b3,n+1,?_⟩
   have hL:A9 R ⟨ts,k0,en⟩ ns (k:Int)=some (.nx (ns++[x],(k':Int))):=by
     unfold A9;dsimp only;rw[GO hk,h1,NF,Ew DT hk];dsimp only[cond];rw[a4,NF];dsimp only[aOB];rw[Dw hl]
   show(A9 R ⟨ts,k0,en⟩ ns (k:Int)).bind _=_;rw[hL];exact b4;obtain⟨k',a1,a2,a3,a4⟩:=O7 h2 h3;refine⟨k',by omega,a2,a3,1,?_⟩
   have hL:A9 R ⟨ts,k0,en⟩ ns (k:Int)=some (.rt (.inr d,(k':Int))):=by
     unfold A9;dsimp only;rw[GO hk,h1,NF,Ew DT hk];dsimp only[cond];rw[a4,NF];rfl
   show(A9 R ⟨ts,k0,en⟩ ns (k:Int)).bind _=_;rw[hL];rfl;obtain⟨rfl,rfl⟩:=Ns hS;refine⟨k,aOC k,hk,rfl,1,?_⟩
   have hL:A9 R ⟨ts,k0,en⟩ ns (k:Int)=some (.ex (ns,(k:Int))):=by
     unfold A9;dsimp only;rw[GO hk,h1,NF];rfl
   show(A9 R ⟨ts,k0,en⟩ ns (k:Int)).bind _=_;rw[hL];rfl
theorem aBP{R:Aa}{read:Rd Nd}(O7:∀{k:Nat},k<=ts.length->∀{r l},read (ts.drop k)=some (r,l)->JG ts k (R.Az ⟨ts,k,en⟩) r l){k:Nat}(hk:k<=ts.length){r l}(hS:Qu read (ts.drop k)=some (r,l)):JG ts k (G8 R ⟨ts,k,en⟩) r l:=by
 refine Bg (λh=>O7 hk h) (λx k1 h hk1 hS=>?_) (λ_ _=>rfl) hS;dsimp only[aOB];rcases Ma hk1 hS with ⟨h1,h2,hS⟩ | ⟨h1,hS⟩
 rw[GO hk1,h1,NF,Ew DT hk1];refine L9 (blV k1) ?_;refine Bg (λh=>O7 h2 h) (λy k2 h hk2 hS=>?_) (λ_ _=>rfl) hS;obtain⟨hl,hS⟩:=RE hS;dsimp only[aOB];rw[Dw hl];obtain⟨k',a1,a2,a3,n,a4⟩:=acD DT (k:Int) O7 _ _ k2 _ _ hk2 hS;rw[EI a4,NF];refine⟨k',a1,a2,a3,?_⟩;cases r<;>rfl
 rw[GO hk1,h1,NF];exact Eg hk1 rfl hS
theorem acE{read:Rd Nd}(k0:Int)(O7:∀{k:Nat},k<=ts.length->∀{r l},read (ts.drop k)=some (r,l)->JG ts k (Ax ⟨ts,k,en⟩) r l):∀(q:Nat) (ns:List Nd) (k:Nat) (r:(List Nd)⊕Dg) (l:List Tk),k<=ts.length->N6 read q ns (ts.drop k)=some (r,l) ->
   ∃k':Nat,k<=k'/\k'<=ts.length/\l=ts.drop k'/\∃n,DP (λx=>AL ⟨ts,k0,en⟩ x.1 x.2) n (ns,(k:Int))=some (match r with | .inl x=>.inl (x,(k':Int)) | .inr d=>.inr (.inr d,(k':Int))):=by
 intro q
 induction q with
 | zero=>intro ns k r l hk hS;cases hS
 | succ q ih =>
   intro ns k r l hk hS;rcases Ma hk hS with ⟨h1,h2,hS⟩ | ⟨h1,hS⟩
   rcases KG hS with ⟨x,s',h3,h4⟩ | ⟨d,h3,rfl⟩
   obtain⟨k',a1,a2,rfl,a4⟩:=O7 h2 h3;obtain⟨hl,h4⟩:=RE h4;obtain⟨k2,b1,b2,b3,n,b4⟩:=ih (ns++[x]) k' r l a2 h4;refine⟨k2,by omega,b2,b3,n+1,?_⟩
   have hL:AL ⟨ts,k0,en⟩ ns (k:Int)=some (.nx (ns++[x],(k':Int))):=by
     unfold AL;dsimp only;rw[GO hk,h1,NF,Ew DT hk];dsimp only[cond];rw[a4,NF];dsimp only[aOB];rw[Dw hl]
   show(AL ⟨ts,k0,en⟩ ns (k:Int)).bind _=_;rw[hL];exact b4;obtain⟨k',a1,a2,a3,a4⟩:=O7 h2 h3;refine⟨k',by omega,a2,a3,1,?_⟩
   have hL:AL ⟨ts,k0,en⟩ ns (k:Int)=some (.rt (.inr d,(k':Int))):=by
     unfold AL;dsimp only;rw[GO hk,h1,NF,Ew DT hk];dsimp only[cond];rw[a4,NF];rfl
   show(AL ⟨ts,k0,en⟩ ns (k:Int)).bind _=_;rw[hL];rfl;obtain⟨rfl,rfl⟩:=Ns hS;refine⟨k,aOC k,hk,rfl,1,?_⟩
   have hL:AL ⟨ts,k0,en⟩ ns (k:Int)=some (.ex (ns,(k:Int))):=by
     unfold AL;dsimp only;rw[GO hk,h1,NF];rfl
   show(AL ⟨ts,k0,en⟩ ns (k:Int)).bind _=_;rw[hL];rfl
theorem aBQ{read:Rd Nd}(O7:∀{k:Nat},k<=ts.length->∀{r l},read (ts.drop k)=some (r,l)->JG ts k (Ax ⟨ts,k,en⟩) r l){k:Nat}(hk:k<=ts.length){r l}(hS:Qu read (ts.drop k)=some (r,l)):JG ts k (E7 ⟨ts,k,en⟩) r l:=by
 refine Bg (λh=>O7 hk h) (λx k1 h hk1 hS=>?_) (λ_ _=>rfl) hS;dsimp only[aOB];rcases Ma hk1 hS with ⟨h1,h2,hS⟩ | ⟨h1,hS⟩
 rw[GO hk1,h1,NF,Ew DT hk1];refine L9 (blV k1) ?_;refine Bg (λh=>O7 h2 h) (λy k2 h hk2 hS=>?_) (λ_ _=>rfl) hS;obtain⟨hl,hS⟩:=RE hS;dsimp only[aOB];rw[Dw hl];obtain⟨k',a1,a2,a3,n,a4⟩:=acE DT (k:Int) O7 _ _ k2 _ _ hk2 hS;rw[EI a4,NF];refine⟨k',a1,a2,a3,?_⟩;cases r<;>rfl
 rw[GO hk1,h1,NF];exact Eg hk1 rfl hS
end
section
variable {ts:List Tk} (DT:ts.length<=1000000) {en:Int} {R:Aa} {g:Ek->Rd Nd} {li:Rd (List Nd)} (A:Agr R ts en g li)
include DT A
theorem aMT{k:Nat}(hk:k<=ts.length){r l}(hS:Xi en g (ts.drop k)=some (r,l)):JG ts k (Ip R ⟨ts,k,en⟩) r l:=by
 refine Bg (λh=>A.l4 hk h) (λN k h hk hS=>?_) (λ_ _=>rfl) hS;dsimp only[aOB]
 have fin:∀{y:(Nd⊕Dg)×Int} (k0:Int),Cj R ⟨ts,k0,en⟩ (k:Int) N=some (.rt y)->(JI (λ_:Unit=>Cj R ⟨ts,k0,en⟩ (k:Int) N) ()).bind (H8 (λ(_:Unit)=>none) (λv=>some v))=some y:=by
   intro y k0 hL
   have:DP (λ_:Unit=>Cj R ⟨ts,k0,en⟩ (k:Int) N) 1 ()=some (.inr y):=by
     show(Cj R ⟨ts,k0,en⟩ (k:Int) N).bind _=_;rw[hL];rfl
   rw[EI this];rfl
 rcases aCG (en:=en) hk hS with ⟨x,h1,h2,hS⟩ | ⟨h2,hS⟩
 obtain⟨k',a1,a2,rfl,⟨n,b,hX,hb,rfl⟩ | ⟨d,hX,rfl⟩⟩:=OH DT h1 (λh=>A.l4 h1 h) hS;refine⟨k',by omega,a2,rfl,fin _ ?_⟩;unfold Cj;dsimp only;rw[h2];dsimp only[bjU,cond];rw[Ew DT hk];cases hE:BD x.data.toList BI.data.toList <;>
 · rw[hE] at hX;dsimp only[cond] at hX;dsimp only
   rw[hX];dsimp only[aOB];rw[hb]
 refine⟨k',by omega,a2,rfl,fin _ ?_⟩;unfold Cj;dsimp only;rw[h2];dsimp only[bjU,cond];rw[Ew DT hk];cases hE:BD x.data.toList BI.data.toList <;>
 · rw[hE] at hX;dsimp only[cond] at hX;dsimp only
   rw[hX];rfl
 obtain⟨rfl,rfl⟩:=Ns hS;refine⟨k,aOC k,hk,rfl,fin _ ?_⟩;unfold Cj;dsimp only;rw[h2];rfl
theorem aYU{k:Nat}(hk:k<=ts.length){r l}(hS:YK en g (ts.drop k)=some (r,l)):JG ts k (FZ R ⟨ts,k,en⟩) r l:=by
 unfold YK at hS;unfold FZ;rw[GO hk,NF];cases hx:DS LB (ts.drop k) with
 | true =>
   rw[hx] at hS;refine Bg (λh=>Jg DT _ hk h) (λt k h hk hS=>?_) (λ_ _=>rfl) hS;refine Bg (λh=>A.l2 hk h) (λN k h hk hS=>?_) (λ_ _=>rfl) hS;exact Eg hk rfl hS
 | false =>
   rw[hx] at hS;obtain⟨k',a1,a2,a3,a4⟩:=A.l3 hk hS;refine⟨k',a1,a2,a3,?_⟩;dsimp only[cond];rw[a4,NF];cases r with
   | inr d=>rfl
   | inl N =>
     dsimp only[aOB]
     have hL:DP (λx:Int×ByteArray×ByteArray×Int×Int×Int×Int×Int×List Pc×List Nd×Int×Int=>Df R ⟨ts,k,en⟩ x.1 x.2.1 x.2.2.1 x.2.2.2.1 x.2.2.2.2.1 x.2.2.2.2.2.1 x.2.2.2.2.2.2.1 x.2.2.2.2.2.2.2.1 x.2.2.2.2.2.2.2.2.1 x.2.2.2.2.2.2.2.2.2.1 x.2.2.2.2.2.2.2.2.2.2.1 x.2.2.2.2.2.2.2.2.2.2.2) 1 (N.kind,N.name,N.unit,N.n,N.fr,N.to,N.known,N.BK.den,N.BK.ps,N.kids,N.Bc,(k':Int))=some (.inr (.inl N,(k':Int))):=by
       have:Df R ⟨ts,k,en⟩ N.kind N.name N.unit N.n N.fr N.to N.known N.BK.den N.BK.ps N.kids N.Bc (k':Int)=some (.rt (.inl N,(k':Int))):=by
         unfold Df GL;dsimp only[bjU,cond];rw[Sl]
       show(Df R ⟨ts,k,en⟩ N.kind N.name N.unit N.n N.fr N.to N.known N.BK.den N.BK.ps N.kids N.Bc (k':Int)).bind _=_;rw[this];rfl
     rw[EI hL];rfl
omit DT A in
theorem Sv{F:Option ((Nd⊕Dg)×Int)}{k:Nat}{r l}(h:JG ts k F r l):JG ts k (F.bind λ(Et,Bq)=>aOB (λ(A5:Nd)=>some ((brW A5:(Nd⊕Dg)),Bq)) (λ(D4:Dg)=>some ((bmZ D4:(Nd⊕Dg)),Bq)) Et) r l:=by
 obtain⟨k',a1,a2,a3,a4⟩:=h;refine⟨k',a1,a2,a3,?_⟩;rw[a4,NF];cases r<;>rfl
theorem aMP{k:Nat}(hk:k<=ts.length){r l}(hS:dI en g li (ts.drop k)=some (r,l)):JG ts k (J0 R ⟨ts,k,en⟩) r l:=by
 refine Y2 hk (λt h1 h2 hS=>?_) (λ_=>rfl) hS;have hS:=lF h2 hS;dsimp only[aOB];rw[Ew DT hk];refine L9 (blV k) ?_;refine Bg (λh=>Jg DT _ h1 h) (λ_ k h hk hS=>?_) (λ_ _=>rfl) hS;refine Bg (λh=>A.ex hk h) (λa k h hk hS=>?_) (λ_ _=>rfl) hS;dsimp only[aOB];rw[Dw (by omega)];refine Bg (λh=>Jg DT _ hk h) (λ_ k h hk hS=>?_) (λ_ _=>rfl) hS;refine Bg (λh=>A.li hk h) (λns k h hk hS=>?_) (λ_ _=>rfl) hS;obtain⟨hl,hS⟩:=RE hS;dsimp only[aOB];rw[Dw (by simpa using hl)]
 cases hE:Bi ((ns.length:Nat):Int) 0 with
 | true =>
   have:ns=[]:=List.eq_nil_of_length_eq_zero (by have:=Jf hE;omega);subst this;refine Bg (λh=>Jg DT _ hk h) (λ_ k h hk hS=>?_) (λ_ _=>rfl) hS;exact Eg hk rfl hS
 | false =>
   refine Bg (λh=>Jg DT _ hk h) (λ_ k h hk hS=>?_) (λ_ _=>rfl) hS;exact Eg hk rfl hS
theorem aTX(t:Tk){k:Nat}(hk:k<=ts.length){r l}(hS:VN en g t (ts.drop k)=some (r,l)):JG ts k (Hh R ⟨ts,k,en⟩ t) r l:=by
 have one:∀{X:Nd} {r l},QC (Gb X) (ts.drop k)=some (r,l)->JG ts k (some (.inl X,Bh (k:Int) 1)) r l:=by
   intro X r l h;obtain⟨h1,h2⟩:=auB hk h;rw[Ew DT hk];exact L9 (blV k) (Eg h1 rfl h2)
 revert hS;unfold VN Hh;cases BD t.text.data.toList Uu.data.toList;rotate_left;exact one;cases BD t.text.data.toList O3.data.toList;rotate_left;exact one;cases BD t.text.data.toList VV.data.toList;rotate_left;intro hS;obtain⟨h1,hS⟩:=auB hk hS;dsimp only[cond];rw[Ew DT hk];refine L9 (blV k) ?_;refine Bg (λh=>QD DT _ h1 h) (λa k h hk hS=>?_) (λ_ _=>rfl) hS;exact Eg hk rfl hS;cases BD t.text.data.toList IG.data.toList;rotate_left;exact one;cases BD t.text.data.toList Yr.data.toList;rotate_left;exact one;cases BD t.text.data.toList Mv.data.toList;rotate_left;exact one;cases BD t.text.data.toList RY.data.toList;rotate_left;exact one;cases BD t.text.data.toList KA.data.toList;rotate_left;exact λhS=>Sv (A.ca hk hS);cases BD t.text.data.toList FX.data.toList;rotate_left;exact λhS=>Sv (A.ca hk hS);cases BD t.text.data.toList IE.data.toList;rotate_left;exact λhS=>Sv (A.ta hk hS);cases BD t.text.data.toList Ec.data.toList;rotate_left;intro hS;obtain⟨h1,hS⟩:=auB hk hS;dsimp only[cond];rw[Ew DT hk];refine L9 (blV k) ?_;refine Bg (λh=>A.ex h1 h) (λa k h hk hS=>?_) (λ_ _=>rfl) hS;refine Bg (λh=>Jg DT _ hk h) (λ_ k h hk hS=>?_) (λ_ _=>rfl) hS;exact Eg hk rfl hS;exact λhS=>Eg hk rfl hS
theorem aMH{k:Nat}(hk:k<=ts.length){r l}(hS:OZ en g (ts.drop k)=some (r,l)):JG ts k (JZ R ⟨ts,k,en⟩) r l:=by
 refine Y2 hk (λt h1 h2 hS=>?_) (λ_=>rfl) hS;revert hS;dsimp only[aOB];cases Bi t.kind 3;rotate_left;intro hS;refine Bg (λh=>wV DT hk h) (λn k h hk hS=>?_) (λ_ _=>rfl) hS;refine ahH hk (λhk1 hS=>?_) (λhS=>?_) hS;refine Eg hk1 (Ew DT hk) hS;exact Eg hk rfl hS;cases Bi t.kind 2;rotate_left;intro hS;have hS:=lF h2 hS;dsimp only[cond];rw[Ew DT hk];refine L9 (blV k) ?_;refine Bg (λh=>SK DT Gh h1 h) (λa k h hk hS=>?_) (λ_ _=>rfl) hS;obtain⟨c,hc,hS⟩:=Lm hS;dsimp only[aOB];rw[hc];exact Eg hk rfl hS;intro hS;obtain⟨b,hb,hS⟩:=Lm hS;dsimp only[cond];rw[hb,NF];cases b;exact Sv (A.wd t hk hS);have hS:=lF h2 hS;dsimp only;rw[Ew DT hk];exact L9 (blV k) (Eg h1 rfl hS)
end
theorem ayT{ts:List Tk}(DT:ts.length<=1000000)(en:Int):∀q:Nat,Agr (Ab q) ts en (gP en q).1 (gP en q).2:=by
 intro q
 induction q with
 | zero=>constructor<;>intros<;>rename_i h<;>cases h
 | succ q A =>
   constructor
   case ex=>intro k hk r l h;simp only[Ab,A2];exact Sv (A.l0 hk h)
   case l0=>intro k hk r l h;simp only[Ab,AN];exact asT DT (λhk _ _ h=>A.l1 hk h) hk h
   case l1=>intro k hk r l h;simp only[Ab,AO];exact asU DT (λhk _ _ h=>A.l2 hk h) hk h
   case l2=>intro k hk r l h;simp only[Ab,AP];exact aYU DT A hk h
   case l3=>intro k hk r l h;simp only[Ab,AQ];exact aMT DT A hk h
   case l4=>intro k hk r l h;simp only[Ab,AT];exact asV DT (λhk _ _ h=>A.l5 hk h) hk h
   case l5=>intro k hk r l h;simp only[Ab,AU];exact asW DT (λhk _ _ h=>A.l6 hk h) hk h
   case l6=>intro k hk r l h;simp only[Ab,AW];exact Sv (A.at_ hk h)
   case at_=>intro k hk r l h;simp only[Ab,A6];exact aMH DT A hk h
   case wd=>intro t k hk r l h;simp only[Ab,A8];exact aTX DT A t hk h
   case ca=>intro k hk r l h;simp only[Ab,A7];exact aMP DT A hk h
   case ta=>intro k hk r l h;simp only[Ab,A3];exact aFJ DT (λhk _ _ h=>A.ex hk h) hk h
   case li=>intro k hk r l h;simp only[Ab,AA];exact aBP DT (λhk _ _ h=>A.ex hk h) hk h
section
variable (S:Int->Int->Prop) (en en':Int) (w:List Tk)
def TR(t t':Tk):Prop:=t.kind=t'.kind/\t.text=t'.text/\S t.Bc t'.Bc
inductive F2:List Tk->List Tk->Prop
 | nil:F2 [] []
 | cons {t t':Tk} {l l':List Tk}:TR S t t'->F2 l l'->F2 (t::l) (t'::l')
mutual
inductive NR:Nd->Nd->Prop
 | mk {k:Int} {nm u:ByteArray} {n f t kn:Int} {tb:Fn} {ks ks':List Nd} {a a':Int}:tV ks ks'->S a a'->NR ⟨k,nm,u,n,f,t,kn,tb,ks,a⟩ ⟨k,nm,u,n,f,t,kn,tb,ks',a'⟩
inductive tV:List Nd->List Nd->Prop
 | nil:tV [] []
 | cons {n n':Nd} {l l':List Nd}:NR n n'->tV l l'->tV (n::l) (n'::l')
end
def DR(d d':Dg):Prop:=d.err=d'.err/\(S d.Bc d'.Bc\/d=⟨72,en⟩/\d'=⟨72,en'⟩)
inductive RR{α:Type}(Q:α->α->Prop):α⊕Dg->α⊕Dg->Prop
 | l {a a':α}:Q a a'->RR Q (.inl a) (.inl a')
 | r {d d':Dg}:DR S en en' d d'->RR Q (.inr d) (.inr d')
def Ends{α:Type}(b:Bool)(r:α⊕Dg)(s:List Tk):Prop:=s=[]/\(r=.inr ⟨72,en⟩\/b=false/\∃a,r=.inl a)
def RP{α:Type}(b:Bool)(Q:α->α->Prop)(m m':Rd α):Prop:=∀⦃l l1 s s':List Tk⦄ ⦃r r':α⊕Dg⦄,F2 S l l1->m l=some (r,s)->m' (l1++w)=some (r',s') ->
 (∃s1,s'=s1++w/\F2 S s s1/\RR S en en' Q r r')\/w≠[]/\Ends en b r s
def EO{α:Type}(b:Bool)(m:Rd α):Prop:=∀⦃r:α⊕Dg⦄ ⦃s:List Tk⦄,m []=some (r,s)->Ends en b r s
end
section
variable {S:Int->Int->Prop} {en en':Int} {w:List Tk} {α β:Type} {b:Bool} {Q:α->α->Prop} {Q2:β->β->Prop}
def Ends.jJ{r:α⊕Dg}{s:List Tk}(h:Ends en true r s):Ends en b r s:=by
 refine⟨h.1,?_⟩;rcases h.2 with h | ⟨h,_⟩
 exact .inl h;cases h
def RP.jJ{m m':Rd α}(h:RP S en en' w true Q m m'):RP S en en' w b Q m m':=λ_ _ _ _ _ _ f h1 h2=>(h f h1 h2).imp id λh=>⟨h.1,h.2.jJ⟩
def EO.jJ{m:Rd α}(h:EO en true m):EO en b m:=λ_ _ h1=>(h h1).jJ
def DL{a a':α}(h:Q a a'):RP S en en' w b Q (Gb a) (Gb a'):=by
 intro l l1 s s' r r' f h1 h2;obtain⟨rfl,rfl⟩:=Ns h1;obtain⟨rfl,rfl⟩:=Ns h2;exact .inl ⟨l1,rfl,f,.l h⟩
def Ju{e p p':Int}(h:S p p'):RP S en en' w b Q (Oz e p) (Oz e p'):=by
 intro l l1 s s' r r' f h1 h2;obtain⟨rfl,rfl⟩:=Qq h1;obtain⟨rfl,rfl⟩:=Qq h2;exact .inl ⟨l1,rfl,f,.r ⟨rfl,.inl h⟩⟩
def JD{m m':Rd α}{K K':α->Rd β}(h1:RP S en en' w false Q m m')(h2:∀a a',Q a a'->RP S en en' w b Q2 (K a) (K' a'))(h3:∀a,EO en b (K a)):RP S en en' w b Q2 (BZ m K) (BZ m' K'):=by
 intro l l1 s s' r r' f e1 e2;rcases KG e1 with ⟨a,t,e3,e4⟩ | ⟨d,e3,rfl⟩
 rcases KG e2 with ⟨a',t',e5,e6⟩ | ⟨d',e5,rfl⟩
 rcases h1 f e3 e5 with ⟨s1,rfl,f1,q⟩ | ⟨hw,rfl,_⟩
 cases q with
 | l q=>exact h2 _ _ q f1 e4 e6
 exact .inr ⟨hw,h3 a e4⟩;rcases h1 f e3 e5 with ⟨s1,rfl,f1,q⟩ | ⟨hw,rfl,_⟩
 cases q;exact .inr ⟨hw,h3 a e4⟩;rcases KG e2 with ⟨a',t',e5,e6⟩ | ⟨d',e5,rfl⟩
 rcases h1 f e3 e5 with ⟨s1,rfl,f1,q⟩ | ⟨hw,rfl,hq⟩
 cases q;rcases hq with hq | ⟨_,a,hq⟩
 cases hq;exact .inr ⟨hw,rfl,.inl rfl⟩;cases hq;rcases h1 f e3 e5 with ⟨s1,rfl,f1,q⟩ | ⟨hw,rfl,hq⟩
 cases q with
 | r q=>exact .inl ⟨s1,rfl,f1,.r q⟩
 rcases hq with hq | ⟨_,a,hq⟩
 cases hq;exact .inr ⟨hw,rfl,.inl rfl⟩;cases hq
def B2{m m':Rd α}{K K':α->Rd β}(h1:RP S en en' w true Q m m')(h2:∀a a',Q a a'->RP S en en' w b Q2 (K a) (K' a')):RP S en en' w b Q2 (BZ m K) (BZ m' K'):=by
 intro l l1 s s' r r' f e1 e2
 have no:∀{a:α} {t:List Tk},m l=some (.inl a,t)->¬Ends en true (brW a:α⊕Dg) t:=by
   rintro a t _ ⟨_,h | ⟨h,_⟩⟩<;>cases h
 rcases KG e1 with ⟨a,t,e3,e4⟩ | ⟨d,e3,rfl⟩
 rcases KG e2 with ⟨a',t',e5,e6⟩ | ⟨d',e5,rfl⟩
 rcases h1 f e3 e5 with ⟨s1,rfl,f1,q⟩ | ⟨hw,h⟩
 cases q with
 | l q=>exact h2 _ _ q f1 e4 e6
 exact absurd h (no e3);rcases h1 f e3 e5 with ⟨s1,rfl,f1,q⟩ | ⟨hw,h⟩
 cases q;exact absurd h (no e3);rcases KG e2 with ⟨a',t',e5,e6⟩ | ⟨d',e5,rfl⟩
 rcases h1 f e3 e5 with ⟨s1,rfl,f1,q⟩ | ⟨hw,rfl,hq⟩
 cases q;rcases hq with hq | ⟨hq,_⟩
 cases hq;exact .inr ⟨hw,rfl,.inl rfl⟩;cases hq;rcases h1 f e3 e5 with ⟨s1,rfl,f1,q⟩ | ⟨hw,rfl,hq⟩
 cases q with
 | r q=>exact .inl ⟨s1,rfl,f1,.r q⟩
 rcases hq with hq | ⟨hq,_⟩
 cases hq;exact .inr ⟨hw,rfl,.inl rfl⟩;cases hq
def PM{X:Option β}{K K':β->Rd α}(h:∀a,X=some a->RP S en en' w b Q (K a) (K' a)):RP S en en' w b Q (IN X K) (IN X K'):=by
 intro l l1 s s' r r' f e1 e2;obtain⟨a,ha,e1⟩:=Lm e1;obtain⟨a',ha',e2⟩:=Lm e2;rw[ha] at ha';cases ha';exact h a ha f e1 e2
def iC{K K':Tk->Rd α}(h:∀t t',TR S t t'->RP S en en' w b Q (K t) (K' t')):RP S en en' w b Q (SA en K) (SA en' K'):=by
 intro l l1 s s' r r' f e1 e2;cases f with
 | nil =>
   simp only[SA,aOE,biY] at e1;obtain⟨rfl,rfl⟩:=e1;by_cases hw:w=[];subst hw;simp only[SA,bcB,aOE,biY] at e2;obtain⟨rfl,rfl⟩:=e2;exact .inl ⟨[],rfl,.nil,.r ⟨rfl,.inr ⟨rfl,rfl⟩⟩⟩;exact .inr ⟨hw,rfl,.inl rfl⟩
 | cons ht f=>exact h _ _ ht (.cons ht f) e1 e2
def S7{K K':Rd α}(h:RP S en en' w b Q K K'):RP S en en' w b Q (QC K) (QC K'):=by
 intro l l1 s s' r r' f e1 e2;cases f with
 | nil=>cases e1
 | cons ht f=>exact h f e1 e2
def Y5{x:ByteArray}{A A' B B':Rd α}(h1:RP S en en' w b Q A A')(h2:RP S en en' w b Q B B')(h3:EO en b B):RP S en en' w b Q (KR x A B) (KR x A' B'):=by
 intro l l1 s s' r r' f e1 e2;cases f with
 | nil =>
   by_cases hw:w=[];subst hw;exact h2 .nil e1 e2;exact .inr ⟨hw,h3 e1⟩
 | cons ht f =>
   rename_i t t' l l';unfold KR at e1 e2
   have:DS x (t::l)=DS x (t'::l'++w):=by
     show BD t.text.data.toList _=BD t'.text.data.toList _;rw[ht.2.1]
   rw[<- this] at e2;cases hx:DS x (t::l) with
   | true=>rw[hx] at e1 e2;exact h1 f e1 e2
   | false=>rw[hx] at e1 e2;exact h2 (.cons ht f) e1 e2
def Ur{n n':Nat}{m m':Rd α}(h:RP S en en' w b Q m m'):RP S en en' w b Q (Mh n m) (Mh n' m'):=by
 intro l l1 s s' r r' f e1 e2;exact h f (RE e1).2 (RE e2).2
def B7{c:Bool}{A A' B B':Rd α}(h1:c=true->RP S en en' w b Q A A')(h2:c=false->RP S en en' w b Q B B'):RP S en en' w b Q (cond c A B) (cond c A' B'):=by
 cases c;exact h2 rfl;exact h1 rfl
def avD{K K':Nat->Rd α}(h:∀n n',RP S en en' w b Q (K n) (K' n')):RP S en en' w b Q (λs=>K (s.length+1) s) (λs=>K' (s.length+1) s):=by
 intro l l1 s s' r r' f e1 e2;exact h _ _ f e1 e2
def aeW{K:Tk->Rd α}:EO en b (SA en K):=by
 intro r s h;simp only[SA,aOE,biY] at h;obtain⟨rfl,rfl⟩:=h;exact⟨rfl,.inl rfl⟩
def QT{a:α}:EO en false (Gb a):=by
 intro r s h;obtain⟨rfl,rfl⟩:=Ns h;exact⟨rfl,.inr ⟨rfl,a,rfl⟩⟩
def LK{m:Rd α}{K:α->Rd β}(h:EO en true m):EO en b (BZ m K):=by
 intro r s e1;rcases KG e1 with ⟨a,t,e3,e4⟩ | ⟨d,e3,rfl⟩
 obtain⟨_,h | ⟨h,_⟩⟩:=h e3<;>cases h
 obtain⟨h1,h | ⟨h,_⟩⟩:=h e3;cases h;exact⟨h1,.inl rfl⟩;cases h
def aNA{X:Option β}{K:β->Rd α}(h:∀a,EO en b (K a)):EO en b (IN X K):=by
 intro r s e1;obtain⟨a,_,e1⟩:=Lm e1;exact h a e1
def aaW{x:ByteArray}{A B:Rd α}(h:EO en b B):EO en b (KR x A B):=λ_ _ e1=>h e1
def apH{n:Nat}{m:Rd α}(h:EO en b m):EO en b (Mh n m):=λ_ _ e1=>h (RE e1).2
end
section
variable {S:Int->Int->Prop} {en en':Int} {w:List Tk} {α β:Type} {b:Bool} {Q:α->α->Prop}
theorem aiC{f:Tk->Option Bool}(hf:∀k t a a',f ⟨k,t,a⟩=f ⟨k,t,a'⟩){t t':Tk}(h:TR S t t'):f t=f t':=by
 obtain⟨k,x,a⟩:=t;obtain⟨k',x',a'⟩:=t';obtain⟨h1,h2,_⟩:=h;dsimp only at h1 h2;subst h1 h2;exact hf _ _ _ _
theorem aDX{X X':Option β}{K K':β->Rd α}(h:∀a a',X=some a->X'=some a'->RP S en en' w b Q (K a) (K' a')):RP S en en' w b Q (IN X K) (IN X' K'):=by
 intro l l1 s s' r r' f e1 e2;obtain⟨a,ha,e1⟩:=Lm e1;obtain⟨a',ha',e2⟩:=Lm e2;exact h a a' ha ha' f e1 e2
theorem OI{f:Tk->Option Bool}(hf:∀k t a a',f ⟨k,t,a⟩=f ⟨k,t,a'⟩):RP S en en' w b (TR S) (Ly en f) (Ly en' f):=by
 refine iC λt t' ht=>?_;rw[aiC hf ht];exact PM λc _=>B7 (λ_=>S7 (DL ht)) λ_=>Ju ht.2.2
theorem azS{f:Tk->Option Bool}:EO en b (Ly en f):=aeW
theorem GN(x:ByteArray):RP S en en' w b (TR S) (II en x) (II en' x):=OI λ_ _ _ _=>rfl
theorem Sa{x:ByteArray}:EO en b (II en x):=aeW
theorem ahN:RP S en en' w b (TR S) (fY en) (fY en'):=OI λ_ _ _ _=>rfl
theorem aEB:RP S en en' w b (TR S) (oG en) (oG en'):=OI λ_ _ _ _=>rfl
theorem aDZ:RP S en en' w b (TR S) (iB en) (iB en'):=OI λ_ _ _ _=>rfl
def QA(S:Int->Int->Prop)(p p':Int×Int):Prop:=p.1=p'.1/\S p.2 p'.2
theorem nP:RP S en en' w b (QA S) (Oq en) (Oq en'):=by
 refine B2 (OI λ_ _ _ _=>rfl) λt t' h=>?_;rw[h.2.1];exact PM λn _=>DL ⟨rfl,h.2.2⟩
theorem RT(least:Int):RP S en en' w b (QA S) (L7 en least) (L7 en' least):=by
 refine B2 nP λp p' h=>?_;rw[h.1];exact B7 (λ_=>Ju h.2) λ_=>B7 (λ_=>Ju h.2) λ_=>DL h
theorem bZ(least:Int):RP S en en' w b (·=·) (TK en least) (TK en' least):=by
 refine B2 (OI λ_ _ _ _=>rfl) λt t' h=>?_;rw[h.2.1];exact PM λn _=>B7 (λ_=>B7 (λ_=>Ju h.2.2) λ_=>DL rfl) λ_=>Ju h.2.2
theorem Ga{kind n:Int}{name unit:ByteArray}{ks ks':List Nd}{p p':Int}(h:tV S ks ks')(hp:S p p'):NR S (C6 kind name unit n ks p) (C6 kind name unit n ks' p'):=.mk h hp
theorem XH{l l' m m':List Nd}(h:tV S l l')(h2:tV S m m'):tV S (l++m) (l'++m'):=by
 induction l generalizing l' with
 | nil=>cases h;exact h2
 | cons x l ih=>cases h with | cons a t=>exact .cons a (ih t)
theorem aDW:RP S en en' w b (NR S) (Zw en) (Zw en'):=by
 refine B2 (GN _) λt t' ht=>B2 (RT _) λn n' hn=>B2 (GN _) λ_ _ _=>B2 (bZ _) λf f' hf=>?_;subst hf;refine Y5 (B2 (bZ _) λu u' hu=>B2 (GN _) λ_ _ _=>B2 (bZ _) λk k' hk=>?_) (B2 (GN _) λ_ _ _=>B2 (bZ _) λk k' hk=>?_) (LK Sa);subst hu hk;rw[hn.1];exact DL (.mk .nil ht.2.2);subst hk;rw[hn.1];exact DL (.mk .nil ht.2.2)
theorem ahL:RP S en en' w b (NR S) (Rz en) (Rz en'):=by
 refine iC λt t' ht=>S7 (B2 ahN λm m' hm=>B2 (GN _) λ_ _ _=>B2 aEB λu u' hu=>?_);rw[ht.2.1,hm.2.1,hu.2.1];refine B7 (λ_=>B2 aDZ λr r' hr=>?_) λ_=>B2 (GN _) λ_ _ _=>DL (Ga .nil ht.2.2);rw[hr.2.1];exact PM λn _=>B2 (GN _) λ_ _ _=>DL (Ga .nil ht.2.2)
theorem VK:RP S en en' w b (NR S) (DA en) (DA en'):=by
 refine B2 (RT _) λp p' h=>?_;rw[h.1];exact DL (Ga .nil h.2)
theorem aeV{read:Rd Nd}(q:Nat)(l:List Nd):EO en false (N6 read q l):=by
 cases q with
 | zero=>intro r s h;cases h
 | succ q=>exact aaW QT
theorem aDY{read xT:Rd Nd}(h:RP S en en' w false (NR S) read xT):∀(q q':Nat) (l l':List Nd),tV S l l'->RP S en en' w false (tV S) (N6 read q l) (N6 xT q' l'):=by
 intro q
 induction q with
 | zero=>intro q' l l' _ _ _ _ _ _ _ _ e1;cases e1
 | succ q ih =>
   intro q' l l' hl;cases q' with
   | zero=>intro _ _ _ _ _ _ _ _ e2;cases e2
   | succ q'=>exact Y5 (JD h (λn n' hn=>Ur (ih q' _ _ (XH hl (.cons hn .nil)))) λn=>apH (aeV q _)) (DL hl) QT
theorem azR{read:Rd Nd}(h:EO en true read):EO en b (Qu read):=LK h
theorem ahM{read xT:Rd Nd}(h:RP S en en' w false (NR S) read xT):RP S en en' w false (tV S) (Qu read) (Qu xT) :=
 JD h (λn n' hn=>avD λq q'=>aDY h q q' _ _ (.cons hn .nil)) λn _ _ h=>aeV 1 [n] h
theorem iE:RP S en en' w b (QA S) (NV en) (NV en'):=by
 refine B2 (OI λ_ _ _ _=>rfl) λt t' h=>?_;have:BQ t=BQ t':=by unfold BQ;rw[h.2.1]
 rw[this,h.1];exact PM λc _=>B7 (λ_=>B7 (λ_=>DL ⟨rfl,h.2.2⟩) λ_=>Ju h.2.2) λ_=>DL ⟨rfl,h.2.2⟩
theorem apI:EO en b (NV en):=LK azS
theorem aEA:RP S en en' w b (·=·) (iK en) (iK en'):=by
 refine B2 (OI λ_ _ _ _=>rfl) λt t' h=>?_;rw[h.2.1];exact B7 (λ_=>DL rfl) λ_=>DL rfl
theorem nR(Ap from_ a:Int):RP S en en' w b (·=·) (QB en Ap from_ a) (QB en' Ap from_ a):=by
 refine B2 aEA λs s' hs=>B2 (RT _) λm m' hm=>B2 (GN _) λ_ _ _=>B2 (RT _) λd d' hd=>?_;subst hs;rw[hm.1,hd.1];exact PM λg _=>PM λz _=>B7 (λ_=>Ju hd.2) λ_=>DL rfl
theorem nQ(Ap from_:Int):RP S en en' w b (·=·) (Ox en Ap from_) (Ox en' Ap from_):=by
 refine B2 (GN _) λ_ _ _=>Y5 (B2 iE λa a' ha=>?_) (B2 iE λa a' ha=>?_) (LK apI);rw[ha.1];exact nR _ _ _;rw[ha.1];exact nR _ _ _
theorem avF(before:List Pt)(Ap:Int):RP S en en' w b (·=·) (Uf en before Ap) (Uf en' before Ap):=by
 refine B2 iE λv v' hv=>?_;rw[hv.1];exact B7 (λ_=>B7 (λ_=>nQ _ _) λ_=>Ju hv.2) λ_=>PM λq _=>B7 (λ_=>Ju hv.2) λ_=>B7 (λ_=>Ju hv.2) λ_=>nQ _ _
theorem alL:∀(q q':Nat) (l:List Pt) (c:Int),RP S en en' w false (·=·) (K1 en q l c) (K1 en' q' l c):=by
 intro q
 induction q with
 | zero=>intro q' l c _ _ _ _ _ _ _ e1;cases e1
 | succ q ih =>
   intro q' l c;cases q' with
   | zero=>intro _ _ _ _ _ _ _ _ e2;cases e2
   | succ q' =>
     refine B2 (avF _ _) λp p' hp=>?_;subst hp;exact Ur (Y5 (ih q' _ _) (DL rfl) QT)
theorem alM(c:Int){p p':Int}(hp:S p p'):∀(ps:List Pt) (acc:List Pc),RP S en en' w b (·=·) (Mb c p ps acc) (Mb c p' ps acc):=by
 intro ps
 induction ps with
 | nil=>intro acc;exact DL rfl
 | cons x ps ih=>intro acc;exact PM λz _=>B7 (λ_=>Ju hp) λ_=>B7 (λ_=>Ju hp) λ_=>Ur (ih _)
inductive ER(S:Int->Int->Prop):Ek->Ek->Prop
 | ex:ER S .ex .ex
 | lv (i:Nat):ER S (.lv i) (.lv i)
 | at_:ER S .at_ .at_
 | wd {t t':Tk}:TR S t t'->ER S (.wd t) (.wd t')
 | ca:ER S .ca .ca
 | ta:ER S .ta .ta
structure Rel(S:Int->Int->Prop)(en en':Int)(w:List Tk)(g g':Ek->Rd Nd)(li li':Rd (List Nd)):Prop where
 rg:∀{e e'},ER S e e'->RP S en en' w false (NR S) (g e) (g' e')
 rli:RP S en en' w false (tV S) li li'
 eg:∀e,(∀t,e≠.wd t)->EO en true (g e)
 eli:EO en true li
theorem aJY{yes bbC:ByteArray->Rd α}{no no':Rd α}(h1:∀x,RP S en en' w b Q (yes x) (bbC x))(h2:RP S en en' w b Q no no')(h3:EO en b no):∀ops:List ByteArray,RP S en en' w b Q (tM yes no ops) (tM bbC no' ops)/\EO en b (tM yes no ops):=by
 intro ops
 induction ops with
 | nil=>exact⟨h2,h3⟩
 | cons x ops ih=>exact⟨Y5 (h1 x) ih.1 ih.2,aaW ih.2⟩
theorem aIE{yes:ByteArray->Rd α}{no:Rd α}(h3:EO en b no):∀ops:List ByteArray,EO en b (tM yes no ops):=by
 intro ops
 induction ops with
 | nil=>exact h3
 | cons x ops ih=>exact aaW ih
theorem ajL{op:ByteArray}{l l' r r' x x':Nd}(hl:NR S l l')(hr:NR S r r')(h1:AY op l r=some x)(h2:AY op l' r'=some x'):NR S x x':=by
 have ha:S l.Bc l'.Bc:=by cases hl with | mk _ h=>exact h
 unfold AY at h1 h2;revert h1 h2;cases BD op.data.toList Qf.data.toList
 · cases BD op.data.toList L5.data.toList
   intro h1 h2;cases h1;cases h2;exact .mk (.cons hl (.cons hr .nil)) ha
   · cases hq:Lj op Qf Mg 1 with
     | none=>intro h1;cases h1
     | some y =>
       intro h1 h2;cases h1;cases h2;exact .mk (.cons hr (.cons hl .nil)) ha
 · cases hq:Lj op Qf Mg 1 with
   | none=>intro h1;cases h1
   | some y =>
     intro h1 h2;cases h1;cases h2;exact .mk (.cons hr (.cons hl .nil)) ha
theorem yD{sub awS:Rd Nd}(h:RP S en en' w false (NR S) sub awS)(op:ByteArray){l l':Nd}(hl:NR S l l'):RP S en en' w false (NR S) (PJ en sub op l) (PJ en' awS op l') :=
 JD (B7 (λ_=>VK) λ_=>h) (λr r' hr=>aDX λx x' h1 h2=>DL (ajL hl hr h1 h2)) λr=>aNA λx=>QT
theorem vE{ops:List ByteArray}{sub:Rd Nd}(q:Nat)(l:Nd):EO en false (JN en ops sub q l):=by
 cases q with
 | zero=>intro r s h;cases h
 | succ q=>exact aIE QT ops
theorem avB(ops:List ByteArray){sub awS:Rd Nd}(h:RP S en en' w false (NR S) sub awS):∀(q q':Nat) (l l':Nd),NR S l l'->RP S en en' w false (NR S) (JN en ops sub q l) (JN en' ops awS q' l'):=by
 intro q
 induction q with
 | zero=>intro q' l l' _ _ _ _ _ _ _ _ e1;cases e1
 | succ q ih =>
   intro q' l l' hl;cases q' with
   | zero=>intro _ _ _ _ _ _ _ _ e2;cases e2
   | succ q'=>exact(aJY (λx=>JD (yD h x hl) (λy y' hy=>ih q' _ _ hy) λy=>vE q y) (DL hl) QT ops).1
section
variable {g g':Ek->Rd Nd} {li li':Rd (List Nd)} (A:Rel S en en' w g g' li li')
include A
theorem avC(i:Nat):RP S en en' w false (NR S) (LV en g i) (LV en' g' i) :=
 JD (A.rg (.lv _)) (λN N' h=>avD λq q'=>avB _ (A.rg (.lv _)) q q' _ _ h) λN _ _ h=>vE 1 N h
theorem aDV:RP S en en' w false (NR S) (Xi en g) (Xi en' g') :=
 JD (A.rg (.lv _)) (λN N' h=>(aJY (λx=>yD (A.rg (.lv _)) x h) (DL h) QT _).1) λN=>aIE QT _
theorem aSR:RP S en en' w false (NR S) (YK en g) (YK en' g'):=by
 intro l l1 s s' r r' f e1 e2;cases f with
 | nil =>
   by_cases hw:w=[];subst hw;exact A.rg (.lv 3) .nil e1 e2;exact .inr ⟨hw,((A.eg (.lv 3) (by intro t h;cases h)) e1).jJ⟩
 | cons ht f =>
   rename_i t t' l l';unfold YK at e1 e2
   have:DS LB (t::l)=DS LB (t'::l'++w):=by
     show BD t.text.data.toList _=BD t'.text.data.toList _;rw[ht.2.1]
   rw[<- this] at e2;cases hx:DS LB (t::l) with
   | true =>
     rw[hx] at e1 e2;exact B2 (GN _) (λt t' ht=>JD (A.rg (.lv 2)) (λk k' hk=>DL (Ga (.cons hk .nil) ht.2.2)) λk=>QT) (.cons ht f) e1 e2
   | false=>rw[hx] at e1 e2;exact A.rg (.lv 3) (.cons ht f) e1 e2
theorem aDU:RP S en en' w false (NR S) (dI en g li) (dI en' g' li'):=by
 refine iC λt t' ht=>S7 (B2 (GN _) λ_ _ _=>JD (A.rg .ex) (λa a' ha=>B2 (GN _) λ_ _ _=>JD A.rli (λl l' hl=>Ur (B2 (GN _) λ_ _ _=>?_)) λ_=>apH (LK Sa)) λ_=>LK Sa);rw[ht.2.1];exact DL (Ga (.cons ha hl) ht.2.2)
theorem avG:RP S en en' w false (NR S) (WG en g) (WG en' g'):=by
 refine B2 (GN _) λt t' ht=>B2 (GN _) λ_ _ _=>JD (A.rg .ex) (λa a' ha=>B2 (GN _) λ_ _ _=>JD (avD λq q'=>alL q q' _ _) (λl l' hl=>?_) λ_=>LK Sa) λ_=>LK Sa;subst hl;refine B2 (GN _) λe e' he=>Ur (B2 (alM _ he.2.2 _ _) λr r' hr=>?_);subst hr;exact DL (.mk (.cons ha .nil) ht.2.2)
theorem aEC{t t':Tk}(ht:TR S t t'):RP S en en' w false (NR S) (VN en g t) (VN en' g' t'):=by
 unfold VN;rw[ht.2.1]
 have hd:RP S en en' w false (NR S) (dP t) (dP t'):=by
   unfold dP;rw[ht.2.1];exact S7 (DL (Ga .nil ht.2.2))
 refine B7 (λ_=>S7 (DL (Ga .nil ht.2.2))) λ_=>B7 (λ_=>S7 (DL (Ga .nil ht.2.2))) λ_=>B7 (λ_=>S7 (B2 (RT _) λp p' hp=>?_)) λ_ =>
   B7 (λ_=>hd) λ_=>B7 (λ_=>hd) λ_=>B7 (λ_=>hd) λ_=>B7 (λ_=>hd) λ_=>B7 (λ_=>A.rg .ca) λ_=>B7 (λ_=>A.rg .ca) λ_=>B7 (λ_=>A.rg .ta) λ_ =>
   B7 (λ_=>S7 (JD (A.rg .ex) (λa a' ha=>B2 (GN _) λ_ _ _=>DL ha) λ_=>LK Sa)) λ_=>Ju ht.2.2
 rw[hp.1];exact DL (Ga .nil ht.2.2)
theorem aDT:RP S en en' w false (NR S) (OZ en g) (OZ en' g'):=by
 refine iC λt t' ht=>?_;have h6:BA t=BA t':=aiC (λ_ _ _ _=>rfl) ht;rw[ht.1,h6,ht.2.1];refine B7 (λ_=>B2 nP λn n' hn=>?_) λ_=>B7 (λ_=>S7 (B2 (OI λ_ _ _ _=>rfl) λa a' ha=>?_)) λ_=>PM λc _=>B7 (λ_=>S7 (DL (Ga .nil ht.2.2))) λ_=>A.rg (.wd ht);rw[hn.1];exact Y5 (DL (Ga .nil hn.2)) (DL (Ga .nil hn.2)) QT;have:BQ a=BQ a':=by unfold BQ;rw[ha.2.1]
 rw[this];exact PM λc _=>DL (Ga .nil ht.2.2)
end
theorem rY:∀q q':Nat,Rel S en en' w (gP en q).1 (gP en' q').1 (gP en q).2 (gP en' q').2:=by
 intro q
 induction q with
 | zero =>
   intro q';constructor
   case rg=>intro _ _ _ _ _ _ _ _ _ _ e1;cases e1
   case rli=>intro _ _ _ _ _ _ _ e1;cases e1
   case eg=>intro _ _ _ _ e1;cases e1
   case eli=>intro _ _ e1;cases e1
 | succ q ih =>
   intro q'
   have eg:∀e,(∀t,e≠.wd t)->EO en true ((gP en (q+1)).1 e):=by
     have A:=ih 0;intro e he;show EO en true (S9 en (gP en q).1 (gP en q).2 e);unfold S9;split;exact A.eg _ (by intro t h;cases h);intro r s h;exact A.eg (.lv 3) (by intro t h;cases h) h;exact LK (A.eg _ (by intro t h;cases h));exact A.eg _ (by intro t h;cases h);exact LK (A.eg _ (by intro t h;cases h));exact aeW;rename_i t;exact absurd rfl (he t);exact aeW;exact LK Sa
   have eli:EO en true (gP en (q+1)).2:=azR ((ih 0).eg .ex (by intro t h;cases h));cases q' with
   | zero =>
     constructor
     case rg=>intro _ _ _ _ _ _ _ _ _ _ _ e2;cases e2
     case rli=>intro _ _ _ _ _ _ _ _ e2;cases e2
     case eg=>exact eg
     case eli=>exact eli
   | succ q' =>
     have A:=ih q';refine⟨λ{e e'} he=>?_,ahM (A.rg .ex),eg,eli⟩;show RP S en en' w false (NR S) (S9 en (gP en q).1 (gP en q).2 e) (S9 en' (gP en' q').1 (gP en' q').2 e');cases he with
     | ex=>exact A.rg (.lv 0)
     | at_=>exact aDT A
     | wd ht=>exact aEC A ht
     | ca=>exact aDU A
     | ta=>exact avG A
     | lv i =>
       unfold S9;split;rename_i h;cases h;exact aSR A;exact aDV A;exact A.rg .at_;rename_i h;cases h;exact avC A _
       all_goals (rename_i h;cases h)
end
def aiU{x:Int}(h:-9223372036854775808<=x/\x<=9223372036854775807):IntKind.i64.wrap x=x:=by
 unfold bsS;simp[bsT,bsC];omega
def vC{a b:Int}(ha:0<=a)(hb:0 < b)(h:a<=9223372036854775807):Oj a b=some (a / b):=by
 unfold Oj Ux;rw[if_neg (by omega),Int.tdiv_eq_ediv_of_nonneg ha,aiU];exact⟨by have:=Int.ediv_nonneg ha (Int.le_of_lt hb);omega,by have:=Int.ediv_le_self b ha;omega⟩
structure Gd(t:Tk):Prop where
 num:t.kind=3->∃z,OY t.text=some (z,())/\0<=z/\z<=999999999999
 aoA:t.kind=3\/t.kind=4->∃z,BQ t=some z/\0<=z/\z<=999999999999
 date:t.kind=5->∃d e,Db t.text=some (d,e)/\(e=0->0<=d/\d<=36524)
 len:t.text.data.toList.length<=6000
def Gl(l:List Tk):Prop:=∀t∈l,Gd t
section
variable {α β:Type} {n:Nat} {st:Bool} {P:α->Prop} {P2:β->Prop}
def UT(n:Nat)(st:Bool)(P:α->Prop)(m:Rd α):Prop:=∀⦃l:List Tk⦄,Gl l->l.length<=n->∃r s,m l=some (r,s)/\(∃k,s=l.drop k)/\∀a,r=.inl a->P a/\(st=true->s.length < l.length)
def Gl.drop{l:List Tk}(h:Gl l)(k:Nat):Gl (l.drop k):=λt ht=>h t (List.mem_of_mem_drop ht)
def dT{l:List Tk}{k j:Nat}:(l.drop k).drop j=l.drop (k+j):=by rw[bjD]
def Bb{m:Rd α}{K:α->Rd β}(h1:UT n true P m)(h2:∀a,P a->1<=n->UT (n - 1) false P2 (K a)):UT n st P2 (BZ m K):=by
 intro l hg hl;obtain⟨r,s,e,⟨k,rfl⟩,hr⟩:=h1 hg hl;cases r with
 | inr d=>exact⟨.inr d,_,by unfold BZ;rw[e],⟨k,rfl⟩,λa h=>by cases h⟩
 | inl a =>
   obtain⟨pa,hs⟩:=hr a rfl;have hs:=hs rfl;obtain⟨r2,s2,e2,⟨j,rfl⟩,hr2⟩:=h2 a pa (by omega) (hg.drop k) (by omega);refine⟨r2,_,by unfold BZ;rw[e];exact e2,⟨k+j,dT⟩,λb hb=>⟨(hr2 b hb).1,λ_=>?_⟩⟩;simp only[biR] at hs ⊢;omega
def aFU{m:Rd α}{K:α->Rd β}(h1:UT n false P m)(h2:∀a,P a->UT n st P2 (K a)):UT n st P2 (BZ m K):=by
 intro l hg hl;obtain⟨r,s,e,⟨k,rfl⟩,hr⟩:=h1 hg hl;cases r with
 | inr d=>exact⟨.inr d,_,by unfold BZ;rw[e],⟨k,rfl⟩,λa h=>by cases h⟩
 | inl a =>
   obtain⟨pa,_⟩:=hr a rfl;obtain⟨r2,s2,e2,⟨j,rfl⟩,hr2⟩:=h2 a pa (hg.drop k) (by rw[biR];omega);refine⟨r2,_,by unfold BZ;rw[e];exact e2,⟨k+j,dT⟩,λb hb=>⟨(hr2 b hb).1,λh=>?_⟩⟩;have:=(hr2 b hb).2 h;simp only[biR] at this ⊢;omega
def UT.jJ{m:Rd α}(h:UT n st P m):UT n false P m:=λl hg hl=>by
 obtain⟨r,s,e,h1,h2⟩:=h hg hl;exact⟨r,s,e,h1,λa ha=>⟨(h2 a ha).1,λh=>by cases h⟩⟩
def UT.imp{Q:α->Prop}{m:Rd α}(h:UT n st P m)(f:∀a,P a->Q a):UT n st Q m:=λl hg hl=>by
 obtain⟨r,s,e,h1,h2⟩:=h hg hl;exact⟨r,s,e,h1,λa ha=>⟨f a (h2 a ha).1,(h2 a ha).2⟩⟩
def UT.le{n':Nat}{m:Rd α}(h:UT n st P m)(hn:n'<=n):UT n' st P m:=λ_ hg hl=>h hg (by omega)
def DM{a:α}(h:P a):UT n false P (Gb a):=λl _ _=>⟨.inl a,l,rfl,⟨0,rfl⟩,λb hb=>by cases hb;exact⟨h,λh=>by cases h⟩⟩
def Jw{e p:Int}:UT n st P (Oz e p):=λl _ _=>⟨_,l,rfl,⟨0,rfl⟩,λb hb=>by cases hb⟩
def PU{X:Option β}{K:β->Rd α}(h:∃b,X=some b/\UT n st P (K b)):UT n st P (IN X K):=by
 obtain⟨b,rfl,h⟩:=h;exact h
def jE{en:Int}{K:Tk->Rd α}(h:∀t,Gd t->∀s,Gl (t::s)->(t::s).length<=n->∃r s',K t (t::s)=some (r,s')/\(∃k,s'=(t::s).drop k)/\∀a,r=.inl a->P a/\(st=true->s'.length < (t::s).length)):UT n st P (SA en K):=by
 intro l hg hl;cases l with
 | nil=>exact⟨_,[],rfl,⟨0,rfl⟩,λa h=>by cases h⟩
 | cons t s=>exact h t (hg t (bjW ..)) s hg hl
def Uw{K:Rd α}(h:UT (n - 1) false P K){t:Tk}{s:List Tk}(hg:Gl (t::s))(hl:(t::s).length<=n) :
   ∃r s',QC K (t::s)=some (r,s')/\(∃k,s'=(t::s).drop k)/\∀a,r=.inl a->P a/\(st=true->s'.length < (t::s).length):=by
 have hl':s.length+1<=n:=hl;obtain⟨r,s2,e,⟨k,rfl⟩,hr⟩:=h (l:=s) (λt ht=>hg t (bjI _ ht)) (by omega);refine⟨r,_,e,⟨k+1,rfl⟩,λa ha=>⟨(hr a ha).1,λ_=>?_⟩⟩;rw[biR,Yy];omega
def Zi{x:ByteArray}{A B:Rd α}(h1:1<=n->UT (n - 1) false P A)(h2:UT n st P B):UT n st P (KR x A B):=by
 intro l hg hl;unfold KR;cases hx:DS x l with
 | false=>exact h2 hg hl
 | true =>
   cases l with
   | nil=>cases hx
   | cons t s=>exact Uw (h1 (by simp only[Yy] at hl;omega)) hg hl
def Zh{c:Nat}{m:Rd α}(hc:c<=100000000)(h:UT n st P m):UT n st P (Mh c m):=by
 intro l hg hl;unfold Mh;rw[Dw hc];exact h hg hl
def F4{c:Bool}{A B:Rd α}(h1:c=true->UT n st P A)(h2:c=false->UT n st P B):UT n st P (cond c A B):=by
 cases c;exact h2 rfl;exact h1 rfl
end
section
variable {n:Nat} {en:Int} {st:Bool}
def OM{f:Tk->Option Bool}(hf:∀t,∃b,f t=some b):UT n st (λt=>Gd t/\f t=some true) (Ly en f):=by
 refine jE λt hg s mQ hl=>?_;obtain⟨b,hb⟩:=hf t;unfold IN;rw[hb];cases b with
 | true=>exact Uw (DM ⟨hg,hb⟩) mQ hl
 | false=>exact Jw mQ hl
def DX{c:Bool}{α:Type}{x y:Option α}(h1:∃z,x=some z)(h2:∃z,y=some z):∃z,cond c x y=some z:=by cases c;exact h2;exact h1
def Fa(x:ByteArray):UT n st (λ_=>True) (II en x):=(OM λt=>DX ⟨_,rfl⟩ ⟨_,rfl⟩).imp λ_ _=>trivial
def ZC(t:Tk):∃b,BA t=some b:=by
 unfold BA;rw[wI];exact DX (DX ⟨_,rfl⟩ ⟨_,rfl⟩) ⟨_,rfl⟩
def Uq(x:ByteArray):∃b,E4 x=some b:=DX ⟨_,rfl⟩ (DX ⟨_,rfl⟩ (DX ⟨_,rfl⟩ (DX ⟨_,rfl⟩ ⟨_,rfl⟩)))
def cJ:UT n st (λt=>Gd t/\BA t=some true) (fY en):=OM ZC
def aiJ:UT n st (λt=>Gd t/\Ha t=some true) (oG en):=OM λt=>DX ⟨_,rfl⟩ (DX ⟨_,rfl⟩ (DX ⟨_,rfl⟩ (DX ⟨_,rfl⟩ ⟨_,rfl⟩)))
def aiI:UT n st (λt=>Gd t/\CF t=some true) (iB en):=OM λt=>by
 unfold CF;obtain⟨b,hb⟩:=Uq t.text;rw[hb];exact DX ⟨_,rfl⟩ ⟨_,rfl⟩
def qY{a b:Int}{x:Bool}(h:cond (Bi a b) (some true) (some false)=some x):x=Bi a b:=by
 revert h;cases Bi a b<;>exact λh=>(bjE h).symm
def oK:UT n st (λp:Int×Int=>0<=p.1/\p.1<=999999999999) (Oq en):=by
 refine Bb (OM λt=>DX ⟨_,rfl⟩ ⟨_,rfl⟩) λt ht _=>?_;obtain⟨z,h1,h2⟩:=ht.1.num (Jf (qY ht.2).symm);exact PU ⟨_,h1,DM h2⟩
def PV(least:Int):UT n st (λp:Int×Int=>least<=p.1/\p.1<=1000000) (L7 en least) :=
 Bb oK λp hp _=>F4 (λ_=>Jw) λh1=>F4 (λ_=>Jw) λh2=>DM ⟨Qv h1,Qv h2⟩
def cI(least:Int):UT n st (λd:Int=>least<=d/\0<=d/\d<=36524) (TK en least):=by
 refine Bb (OM λt=>DX ⟨_,rfl⟩ ⟨_,rfl⟩) λt ht _=>?_;obtain⟨d,e,h1,h2⟩:=ht.1.date (Jf (qY ht.2).symm);exact PU ⟨_,h1,F4 (λh=>F4 (λ_=>Jw) λh3=>DM ⟨Qv h3,h2 (Jf h)⟩) λ_=>Jw⟩
def aiF:UT n st (λ_=>True) (Zw en) :=
 Bb (Fa _) λ_ _ _=>Bb (PV _) λ_ _ _=>Bb (Fa _) λ_ _ _=>Bb (cI _) λ_ _ _ =>
   Zi (λ_=>Bb (cI _) λ_ _ _=>Bb (Fa _) λ_ _ _=>Bb (cI _) λ_ _ _=>DM trivial) (Bb (Fa _) λ_ _ _=>Bb (cI _) λ_ _ _=>DM trivial)
def aiE:UT n st (λ_=>True) (Rz en):=by
 refine jE λt hg s mQ hl=>Uw ((Bb cJ λm _ _=>Bb (Fa _) λ_ _ _=>Bb aiJ λu _ _=>F4 (λ_=>Bb aiI λr _ _=>?_) λ_=>Bb (Fa _) λ_ _ _=>DM trivial)) mQ hl;obtain⟨b,hb⟩:=Uq r.text;exact PU ⟨b,hb,Bb (Fa _) λ_ _ _=>DM trivial⟩
def VM:UT n st (λ_=>True) (DA en):=Bb (PV _) λ_ _ _=>DM trivial
def jF:UT n st (λp:Int×Int=>0<=p.1/\p.1<=999999999999) (NV en):=by
 refine Bb (OM λt=>DX ⟨_,rfl⟩ (DX ⟨_,rfl⟩ ⟨_,rfl⟩)) λt ht _=>?_
 have hk:t.kind=3\/t.kind=4:=by
   have h:=ht.2;unfold EE at h;cases h4:Bi t.kind 4 with
   | true=>exact .inr (Jf h4)
   | false =>
     rw[h4] at h;exact .inl (Jf (qY h).symm)
 obtain⟨z,h1,h2⟩:=ht.1.aoA hk;exact PU ⟨_,h1,F4 (λ_=>F4 (λ_=>DM h2) λ_=>Jw) λ_=>DM h2⟩
def aFY:UT n st (λs:Int=>s=1\/s=-1) (iK en) :=
 Bb (OM λt=>DX ⟨_,rfl⟩ (DX ⟨_,rfl⟩ ⟨_,rfl⟩)) λt _ _=>F4 (λ_=>DM (.inr rfl)) λ_=>DM (.inl rfl)
def PcP(x:Pt×Int):Prop:=1<=x.2/\x.2<=1000000/\1<=x.1.den/\x.1.den<=1000000/\-1000000<=x.1.num/\x.1.num<=1000000
def oM{Ap:Int}(hc:1<=Ap/\Ap<=1000000)(from_ a:Int):UT n st PcP (QB en Ap from_ a):=by
 refine Bb aFY λs hs _=>Bb (PV _) λm hm _=>Bb (Fa _) λ_ _ _=>Bb (PV _) λd hd _=>?_;obtain⟨g,h1,h2,⟨c1,h3⟩,⟨c2,h4⟩⟩:=aNS hc.1 (show(0:Int)<=d.1 by omega);refine PU ⟨g,h1,PU ⟨_,vC (by omega) (by omega) (by omega),F4 (λ_=>Jw) λh5=>DM ?_⟩⟩;have hq:Ap / g=c1:=by rw[h3,Int.mul_ediv_cancel_left _ (by omega)]
 have hc1:1<=c1:=by
   by_cases h:1<=c1;exact h;have:=Int.mul_nonpos_of_nonneg_of_nonpos (show 0<=g by omega) (show c1<=0 by omega);omega
 have qI:c1<=1000000:=by
   have:=boM h2 (show 0<=c1 by omega);omega
 have hw:CK (Ap / g) d.1=c1*d.1:=by
   rw[hq];have a1:=Int.mul_le_mul qI hd.2 (by omega) (by omega);have a2:=Int.mul_nonneg (show 0<=c1 by omega) (show 0<=d.1 by omega);exact FG (by omega)
 have h6:=Qv h5
 have a1:1<=c1*d.1:=by
   have:=boM hc1 (show 0<=d.1 by omega);omega
 refine⟨by rw[hw];exact a1,h6,hd.1,hd.2,?_⟩;dsimp only;rcases hs with rfl | rfl
 rw[FG (by omega)];omega;rw[FG (by omega)];omega
def oL{Ap:Int}(hc:1<=Ap/\Ap<=1000000)(from_:Int):UT n st PcP (Ox en Ap from_) :=
 Bb (Fa _) λ_ _ _=>Zi (λ_=>Bb jF λ_ _ _=>oM hc _ _) (Bb jF λ_ _ _=>oM hc _ _)
def axX(before:List Pt){Ap:Int}(hc:1<=Ap/\Ap<=1000000):UT n st (λx=>PcP x/\before.length<=63) (Uf en before Ap):=by
 refine Bb jF λv hv _=>F4 (λh=>F4 (λ_=>(oL hc _).imp λx hx=>⟨hx,?_⟩) λ_=>Jw) λh=>?_;have:=Jf h;omega;have hb:before.length≠0:=λe=>aeX h (by rw[e];rfl);refine PU ⟨before[before.length - 1]'(by omega),List.getElem?_eq_getElem (by omega),F4 (λ_=>Jw) λ_=>F4 (λ_=>Jw) λh2=>(oL hc _).imp λx hx=>⟨hx,?_⟩⟩;have:=aYL h2;omega
end
section
variable {α β:Type} {n:Nat} {en:Int} {st:Bool} {P:α->Prop}
abbrev TT{α:Type}:α->Prop:=λ_=>True
theorem yY{K:Nat->Rd α}(h:∀k,k<=n->UT k st P (K (k+1))):UT n st P (λs=>K (s.length+1) s):=λl hg hl=>h l.length hl hg (aOC _)
theorem aFX{read:Rd Nd}:∀(q n:Nat) (ns:List Nd),n < q->ns.length+n<=100000->UT n true TT read->UT n false (λr:List Nd=>r.length<=ns.length+n) (N6 read q ns):=by
 intro q
 induction q with
 | zero=>intro n ns h;omega
 | succ q ih =>
   intro n ns hn hl hr;refine Zi (λh1=>Bb (hr.le (by omega)) λx _ h2=>Zh (by omega) ?_) (DM (by omega));refine(ih (n - 1 - 1) (ns++[x]) (by omega) (by simp only[V5,bfG];omega) (hr.le (by omega))).imp λr hr=>?_;simp only[V5,bfG] at hr;omega
theorem aiH{read:Rd Nd}(hn:n<=10000)(hr:UT n true TT read):UT n st (λr:List Nd=>r.length<=n+1) (Qu read) :=
 Bb hr λx _ h1=>yY (K:=λq=>N6 read q [x]) λk hk=>(aFX (k+1) k [x] (by omega) (by simp only[bfG];omega) (hr.le (by omega))).imp λr h=>by simp only[bfG] at h;omega
theorem aDI:∃y,Lj Qf Qf Mg 1=some y:=⟨_,rfl⟩
theorem aDH:∃y,Lj L5 Qf Mg 1=some y:=⟨_,rfl⟩
theorem uN(op:ByteArray)(l r:Nd):∃x,AY op l r=some x:=by
 unfold AY;cases h1:BD op.data.toList Qf.data.toList with
 | true =>
   obtain⟨y,hy⟩:=aDI;rw[apK h1,hy];exact⟨_,rfl⟩
 | false =>
   cases h2:BD op.data.toList L5.data.toList with
   | true =>
     obtain⟨y,hy⟩:=aDH;rw[apK h2,hy];exact⟨_,rfl⟩
   | false=>exact⟨_,rfl⟩
theorem aKJ{yes:ByteArray->Rd α}{no:Rd α}(h1:∀x,1<=n->UT (n - 1) false P (yes x))(h2:UT n st P no):∀ops:List ByteArray,UT n st P (tM yes no ops):=by
 intro ops
 induction ops with
 | nil=>exact h2
 | cons x ops ih=>exact Zi (h1 x) ih
theorem zA{sub:Rd Nd}(h:UT n true TT sub)(op:ByteArray)(l:Nd):UT n st TT (PJ en sub op l) :=
 Bb (F4 (λ_=>VM) λ_=>h) λr _ _=>by
   obtain⟨x,hx⟩:=uN op l r;exact PU ⟨x,hx,DM trivial⟩
theorem axV{ops:List ByteArray}{sub:Rd Nd}:∀(q n:Nat) (l:Nd),n < q->UT n true TT sub->UT n false TT (JN en ops sub q l):=by
 intro q
 induction q with
 | zero=>intro n l h;omega
 | succ q ih =>
   intro n l hn hs;exact aKJ (λx h1=>Bb (zA (hs.le (by omega)) x l) λb _ h2=>ih (n - 1 - 1) b (by omega) (hs.le (by omega))) (DM trivial) ops
def PsP(r:List Pt×Int):Prop:=r.1.length<=64/\1<=r.2/\r.2<=1000000/\∀x∈r.1,1<=x.den/\-1000000<=x.num/\x.num<=1000000
theorem amH:∀(q n:Nat) (ps:List Pt) (c:Int),n < q->1<=c->c<=1000000->(∀x∈ps,1<=x.den/\-1000000<=x.num/\x.num<=1000000)->UT n st PsP (K1 en q ps c):=by
 intro q
 induction q generalizing st with
 | zero=>intro n ps c h;omega
 | succ q ih =>
   intro n ps c hn h1 h2 h3;refine Bb (axX ps ⟨h1,h2⟩) λx hx h4=>?_;obtain⟨⟨a1,a2,a3,a4,a5,a6⟩,hb⟩:=hx
   have h5:∀y∈ps++[x.1],1<=y.den/\-1000000<=y.num/\y.num<=1000000:=by
     intro y hy;rcases bjK.1 hy with hy | hy
     exact h3 y hy;rw[bjB.1 hy];exact⟨a3,a5,a6⟩
   exact Zh (by omega) (Zi (λh6=>ih (n - 1 - 1) _ _ (by omega) a1 a2 h5) (DM ⟨by simp only[V5,bfG];omega,a1,a2,h5⟩))
theorem amI{c:Int}(hc:1<=c/\c<=1000000)(p:Int):∀(ps:List Pt) (acc:List Pc),(∀x∈ps,1<=x.den)->acc.length+ps.length<=1000->UT n false TT (Mb c p ps acc):=by
 intro ps
 induction ps with
 | nil=>intro acc _ _;exact DM trivial
 | cons x ps ih =>
   intro acc h1 h2;have:=h1 x (bjW ..);simp only[Yy] at h2;exact PU ⟨_,vC (by omega) (by omega) (by omega),F4 (λ_=>Jw) λ_=>F4 (λ_=>Jw) λ_=>Zh (by omega) (ih _ (λy hy=>h1 y (bjI _ hy)) (by simp only[V5,bfG];omega))⟩
def UW(n:Nat)(m:Rd Nd):Prop:=∀t s,Gl (t::s)->(t::s).length<=n->∃r s',m (t::s)=some (r,s')/\(∃k,s'=(t::s).drop k)/\∀a,r=.inl a->True/\(true=true->s'.length < (t::s).length)
structure Tot(q:Nat)(g:Ek->Rd Nd)(li:Rd (List Nd)):Prop where
 ex:∀n,n<=10000->10*n+11<=q->UT n true TT (g .ex)
 lv:∀i n,i<=6->n<=10000->10*n+10 - i<=q->UT n true TT (g (.lv i))
 at_:∀n,n<=10000->10*n+3<=q->UT n true TT (g .at_)
 wd:∀t n,n<=10000->10*n+2<=q->UW n (g (.wd t))
 ca:∀n,n<=10000->10*n+1<=q->UT n true TT (g .ca)
 ta:∀n,n<=10000->10*n+1<=q->UT n true TT (g .ta)
 li:∀n,n<=10000->10*n+12<=q->UT n true (λr:List Nd=>r.length<=n+1) li
section
variable {q:Nat} {g:Ek->Rd Nd} {li:Rd (List Nd)} (A:Tot q g li)
include A
theorem Yc{i:Nat}(hi:i<=5)(hn:n<=10000)(hq:10*n+9 - i<=q):UT n true TT (LV en g i) :=
 Bb (A.lv (i+1) n (by omega) hn (by omega)) λl _ h1=>yY (K:=λq=>JN en (opsOf i) (g (.lv (i+1))) q l) λk hk=>axV (k+1) k l (by omega) (A.lv (i+1) k (by omega) (by omega) (by omega))
theorem aFW(hn:n<=10000)(hq:10*n+6<=q):UT n true TT (Xi en g) :=
 Bb (A.lv 4 n (by omega) hn (by omega)) λl _ h1=>aKJ (λx h2=>zA (A.lv 4 _ (by omega) (by omega) (by omega)) x l) (DM trivial) _
theorem aTR(hn:n<=10000)(hq:10*n+7<=q):UT n true TT (YK en g):=by
 intro l hg hl;unfold YK;cases hx:DS LB l with
 | false=>exact A.lv 3 n (by omega) hn (by omega) hg hl
 | true=>exact Bb (Fa _) (λt _ h1=>Bb (A.lv 2 (n - 1) (by omega) (by omega) (by omega)) λk _ _=>DM trivial) hg hl
theorem aFV(hn:n<=10000)(hq:10*n<=q):UT n true TT (dI en g li):=by
 refine jE λt hg s mQ hl=>Uw (Bb (Fa _) λ_ _ h1=>Bb (A.ex _ (by omega) (by omega)) λa _ h2=>Bb (Fa _) λ_ _ h3=>Bb (A.li _ (by omega) (by omega)) λl hl h4=>Zh (by omega) (Bb (Fa _) λ_ _ _=>DM trivial)) mQ hl
theorem axY(hn:n<=10000)(hq:10*n<=q):UT n true TT (WG en g):=by
 refine Bb (Fa _) λt _ h1=>Bb (Fa _) λ_ _ h2=>Bb (A.ex _ (by omega) (by omega)) λa _ h3=>Bb (Fa _) λ_ _ h4=>Bb (P:=PsP) (yY (K:=λq=>K1 en q [] 1) λk hk=>amH (k+1) k [] 1 (by omega) (by omega) (by omega) (λx hx=>by cases hx)) λr hr h5=>Bb (Fa _) λe _ h6=>?_;exact Zh (by have:=hr.1;omega) (aFU (amI ⟨hr.2.1,hr.2.2.1⟩ _ _ _ (λx hx=>(hr.2.2.2 x hx).1) (by have:=hr.1;simp only[aOD];omega)) λ_ _=>DM trivial)
theorem aFZ(t:Tk)(hn:n<=10000)(hq:10*n+1<=q):UW n (VN en g t):=by
 intro t' s hg hl;have one:∀{x:Nd},∃r s',QC (Gb x) (t'::s)=some (r,s')/\(∃k,s'=(t'::s).drop k)/\∀a,r=.inl a->True/\(true=true->s'.length < (t'::s).length):=λ{x}=>Uw (DM trivial) hg hl;have h1:1<=n:=by simp only[Yy] at hl;omega
 unfold VN;cases BD t.text.data.toList Uu.data.toList;rotate_left;exact one;cases BD t.text.data.toList O3.data.toList;rotate_left;exact one;cases BD t.text.data.toList VV.data.toList;rotate_left;exact Uw (Bb (PV _) λ_ _ _=>DM trivial) hg hl;cases BD t.text.data.toList IG.data.toList;rotate_left;exact one;cases BD t.text.data.toList Yr.data.toList;rotate_left;exact one;cases BD t.text.data.toList Mv.data.toList;rotate_left;exact one;cases BD t.text.data.toList RY.data.toList;rotate_left;exact one;cases BD t.text.data.toList KA.data.toList;rotate_left;exact A.ca n hn hq hg hl;cases BD t.text.data.toList FX.data.toList;rotate_left;exact A.ca n hn hq hg hl;cases BD t.text.data.toList IE.data.toList;rotate_left;exact A.ta n hn hq hg hl;cases BD t.text.data.toList Ec.data.toList;rotate_left;exact Uw (UT.jJ (Bb (st:=true) (A.ex (n - 1) (by omega) (by omega)) λ_ _ _=>Bb (Fa _) λ_ _ _=>DM trivial)) hg hl;exact Jw (st:=true) (P:=TT) hg hl
theorem aFT(hn:n<=10000)(hq:10*n+2<=q):UT n true TT (OZ en g):=by
 refine jE λt ht s hg hl=>?_;cases Bi t.kind 3;rotate_left;exact Bb (st:=true) (P2:=TT) oK (λ_ _ _=>Zi (λ_=>DM trivial) (DM trivial)) hg hl;cases Bi t.kind 2;rotate_left;refine Uw (Bb (OM λt=>DX ⟨_,rfl⟩ ⟨_,rfl⟩) λa ha _=>?_) hg hl;obtain⟨z,h1,_⟩:=ha.1.aoA (.inr (Jf (qY ha.2).symm));exact PU ⟨z,h1,DM trivial⟩;obtain⟨b,hb⟩:=ZC t;unfold cond IN;dsimp only;rw[hb];cases b;exact A.wd t n hn hq t s hg hl;exact Uw (DM trivial) hg hl
end
theorem aiB:∀q:Nat,Tot q (gP en q).1 (gP en q).2:=by
 intro q
 induction q with
 | zero=>constructor<;>intros<;>omega
 | succ q A =>
   constructor
   case ex=>intro n hn hq;exact A.lv 0 n (by omega) hn (by omega)
   case lv =>
     intro i n hi hn hq;show UT n true TT (S9 en (gP en q).1 (gP en q).2 (.lv i));have:i=0\/i=1\/i=2\/i=3\/i=4\/i=5\/i=6:=by omega
     rcases this with rfl | rfl | rfl | rfl | rfl | rfl | rfl
     exact Yc A (by omega) hn (by omega);exact Yc A (by omega) hn (by omega);exact aTR A hn (by omega);exact aFW A hn (by omega);exact Yc A (by omega) hn (by omega);exact Yc A (by omega) hn (by omega);exact A.at_ n hn (by omega)
   case at_=>intro n hn hq;exact aFT A hn (by omega)
   case wd=>intro t n hn hq;exact aFZ A t hn (by omega)
   case ca=>intro n hn hq;exact aFV A hn (by omega)
   case ta=>intro n hn hq;exact axY A hn (by omega)
   case li=>intro n hn hq;exact aiH hn (A.ex n hn (by omega))
end
theorem afC:∀l:List Tk,F2 (·=·) l l
 | []=>.nil
 | t::l=>.cons ⟨rfl,rfl,rfl⟩ (afC l)
theorem aVZ{l l':List Tk}(h:F2 (·=·) l l'):l=l':=by
 induction h with
 | nil=>rfl
 | cons ht _ ih =>
   rename_i t t' l l' _;obtain⟨k,x,a⟩:=t;obtain⟨k',x',a'⟩:=t';obtain⟨h1,h2,h3⟩:=ht;dsimp only at h1 h2 h3;subst h1 h2 h3;rw[ih]
theorem aYV{n n':Nd}(h:NR (·=·) n n'):n=n' :=
 NR.rec (S:=(·=·)) (motive_1:=λa b _=>a=b) (motive_2:=λa b _=>a=b) (λ_ h ih=>by rw[ih,h]) rfl (λ_ _ h1 h2=>by rw[h1,h2]) h
theorem aZP{en:Int}{r r':Nd⊕Dg}(h:RR (·=·) en en (NR (·=·)) r r'):r=r':=by
 cases h with
 | l h=>rw[aYV h]
 | r h =>
   rename_i d d';obtain⟨h1,h2 | ⟨rfl,rfl⟩⟩:=h;obtain⟨e,a⟩:=d;obtain⟨e',a'⟩:=d';dsimp only at h1 h2;subst h1 h2;rfl;rfl
def OP(en:Int):Rd Nd:=λl=>(gP en (10*l.length+11)).1 .ex l
theorem axW{n:Nat}{en:Int}(hn:n<=10000):UT n true TT (OP en):=λl hg hl=>(aiB (10*l.length+11)).ex l.length (by omega) (aOC _) hg (aOC _)
theorem aZO{S:Int->Int->Prop}{en en':Int}{w:List Tk}:RP S en en' w false (NR S) (OP en) (OP en'):=λl l1 _ _ _ _ f e1 e2=>(rY _ _).rg .ex f e1 e2
theorem aeY{en:Int}{l s:List Tk}{r:Nd⊕Dg}(hg:Gl l)(hl:l.length<=10000)(h:OP en l=some (r,s))(q:Nat)(hq:10*l.length+11<=q):(gP en q).1 .ex l=some (r,s):=by
 obtain⟨r',s',h2,_⟩:=(aiB (en:=en) q).ex l.length hl hq hg (aOC _);have h3:=(rY (S:=(·=·)) (en:=en) (en':=en) (w:=[]) (10*l.length+11) q).rg .ex (afC l) h (by rw[bcB];exact h2);rcases h3 with ⟨s1,rfl,h4,h5⟩ | ⟨h3,_⟩
 rw[h2,bcB,aZP h5,aVZ h4];exact absurd rfl h3
section
variable {ts:List Tk} (DT:ts.length<=10000) (hg:Gl ts) {en:Int}
include DT hg
theorem afA{k:Nat}(hk:k<=ts.length){r l}(hS:OP en (ts.drop k)=some (r,l)):JG ts k (FN ⟨ts,k,en⟩) r l:=by
 have hd:(ts.drop k).length<=10000:=by rw[biR];omega
 have key:∀q,10*(ts.drop k).length+11<=q->JG ts k (A2 q ⟨ts,k,en⟩) r l:=λq hq=>(ayT (by omega) en q).ex hk (aeY (hg.drop k) hd hS q hq);obtain⟨k',a1,a2,a3,a4⟩:=key _ (aOC _);refine⟨k',a1,a2,a3,TN (10*(ts.drop k).length+11) λq hq=>?_⟩;obtain⟨k2,b1,b2,b3,b4⟩:=key q hq
 have:k2=k':=by
   have h:=congrArg blU (a3.symm.trans b3);simp only[biR] at h;omega
 rw[b4,this]
theorem uR(kind:Int){k:Nat}(hk:k<=ts.length){r l}(hS:H7 en (OP en) kind (ts.drop k)=some (r,l)):JG ts k (CI ⟨ts,k,en⟩ kind) r l:=by
 have h6:ts.length<=1000000:=by omega
 refine Y2 hk (λt h1 h2 hS=>?_) (λ_=>rfl) hS;have hS:=lF h2 hS;dsimp only[aOB];rw[Ew h6 hk];refine L9 (blV k) ?_;revert hS;cases Bi kind 7;intro hS;refine Bg (λh=>afA DT hg h1 h) (λa k h hk hS=>?_) (λ_ _=>rfl) hS;refine Bg (λh=>Jg h6 _ hk h) (λ_ k h hk hS=>?_) (λ_ _=>rfl) hS;exact Eg hk rfl hS;intro hS;refine Bg (λh=>aBQ h6 (λhk _ _ h=>XI h6 hk h) h1 h) (λa k h hk hS=>?_) (λ_ _=>rfl) hS;refine Bg (λh=>Jg h6 _ hk h) (λ_ k h hk hS=>?_) (λ_ _=>rfl) hS;exact Eg hk rfl hS
theorem aCQ(t1 t4:Tk)(n2:Int×Int)(k0:Int):∀(q:Nat) (ns:List Nd) (un am:Bool) (k:Nat) (r:Nd⊕Dg) (l:List Tk),k<=ts.length->J5 en (OP en) (λl=>C6 4 t4.text bE n2.1 l t1.Bc) q ns un am (ts.drop k)=some (r,l) ->
   ∃k':Nat,k<=k'/\k'<=ts.length/\l=ts.drop k'/\∃n,DP (λx:List Nd×Int×Bool×Bool=>Bj ⟨ts,k0,en⟩ t1 n2 t4 x.1 x.2.1 x.2.2.1 x.2.2.2) n (ns,(k:Int),un,am)=some (.inr (r,(k':Int))):=by
 have h6:ts.length<=1000000:=by omega
 intro q
 induction q with
 | zero=>intro ns un am k r l hk hS;cases hS
 | succ q ih =>
   intro ns un am k r l hk hS
   have stop:∀{y:(Nd⊕Dg)×Int},Bj ⟨ts,k0,en⟩ t1 n2 t4 ns (k:Int) un am=some (.rt y)->DP (λx:List Nd×Int×Bool×Bool=>Bj ⟨ts,k0,en⟩ t1 n2 t4 x.1 x.2.1 x.2.2.1 x.2.2.2) 1 (ns,(k:Int),un,am)=some (.inr y):=by
     intro y h;show(Bj ⟨ts,k0,en⟩ t1 n2 t4 ns (k:Int) un am).bind _=_;rw[h];rfl
   have go:∀{y:List Nd×Int×Bool×Bool} {n:Nat} {z},Bj ⟨ts,k0,en⟩ t1 n2 t4 ns (k:Int) un am=some (.nx y)->DP (λx:List Nd×Int×Bool×Bool=>Bj ⟨ts,k0,en⟩ t1 n2 t4 x.1 x.2.1 x.2.2.1 x.2.2.2) n y=z->DP (λx:List Nd×Int×Bool×Bool=>Bj ⟨ts,k0,en⟩ t1 n2 t4 x.1 x.2.1 x.2.2.1 x.2.2.2) (n+1) (ns,(k:Int),un,am)=z:=by
     intro y n z h h2;show(Bj ⟨ts,k0,en⟩ t1 n2 t4 ns (k:Int) un am).bind _=_;rw[h];exact h2
   unfold J5 SA at hS;unfold Bj at stop go;rcases JP ts hk with ⟨h1,h2⟩ | ⟨t,h1,h2,h3⟩
   · rw[h2] at hS
     dsimp only at hS;simp only[aOE,biY] at hS;obtain⟨rfl,rfl⟩:=hS;refine⟨k,aOC k,hk,h2.symm,1,stop ?_⟩
     have:Am ⟨ts,k,en⟩=some (.inr ⟨72,en⟩):=by
       unfold Am;rw[fQ (by dsimp only;omega)];rfl
     dsimp only;rw[this];rfl
   · rw[h3] at hS
     dsimp only at hS;rw[<- h3] at hS
     have hpk:Am ⟨ts,k,en⟩=some (.inl t):=by
       unfold Am;rw[XD (by dsimp only;omega)];dsimp only[cond];unfold F9;rw[if_pos (by omega),biW,h2];rfl
     dsimp only at stop go;rw[hpk] at stop go;dsimp only[bjU,aOB] at stop go
     have one:∀(kind:Int) (un' am':Bool),(BZ (H7 en (OP en) kind) λc=>Mh (ns.length+1) (J5 en (OP en) (λl=>C6 4 t4.text bE n2.1 l t1.Bc) q (ns++[c]) un' am')) (ts.drop k)=some (r,l) ->
         (∃(k1:Nat) (c:Nd),k<=k1/\k1<=ts.length/\CI ⟨ts,k,en⟩ kind=some (.inl c,(k1:Int))/\ns.length+1<=100000000/\∃k':Nat,k1<=k'/\k'<=ts.length/\l=ts.drop k'/\∃n,DP (λx:List Nd×Int×Bool×Bool=>Bj ⟨ts,k0,en⟩ t1 n2 t4 x.1 x.2.1 x.2.2.1 x.2.2.2) n (ns++[c],(k1:Int),un',am')=some (.inr (r,(k':Int)))) \/
         (∃(k':Nat) (d:Dg),k<=k'/\k'<=ts.length/\l=ts.drop k'/\r=.inr d/\CI ⟨ts,k,en⟩ kind=some (.inr d,(k':Int))):=by
       intro kind un' am' h;rcases KG h with ⟨c,s',h4,h5⟩ | ⟨d,h4,rfl⟩
       obtain⟨k1,a1,a2,rfl,a4⟩:=uR DT hg kind hk h4;obtain⟨hl,h5⟩:=RE h5;exact .inl ⟨k1,c,a1,a2,a4,hl,ih _ _ _ _ _ _ a2 h5⟩;obtain⟨k1,a1,a2,a3,a4⟩:=uR DT hg kind hk h4;exact .inr ⟨k1,d,a1,a2,a3,rfl,a4⟩
     cases hw:BD t.text.data.toList Nx.data.toList with
     | true =>
       rw[hw] at hS stop go;dsimp only[cond] at hS stop go;rcases one 6 un am hS with ⟨k1,c,a1,a2,a3,a4,k',b1,b2,b3,n,b4⟩ | ⟨k',d,a1,a2,a3,rfl,a4⟩
       rw[a3] at go;dsimp only[bjU,aOB] at go;rw[Dw a4] at go;exact⟨k',by omega,b2,b3,n+1,go rfl b4⟩
       · rw[a4] at stop
         exact⟨k',a1,a2,a3,1,stop rfl⟩
     | false =>
       rw[hw] at hS stop go;dsimp only[cond] at hS stop go;cases hu:BD t.text.data.toList Ho.data.toList with
       | true =>
         rw[hu] at hS stop go;dsimp only at hS stop go;cases un with
         | true =>
           dsimp only at hS stop go;obtain⟨rfl,rfl⟩:=Qq hS;exact⟨k,aOC k,hk,rfl,1,stop rfl⟩
         | false =>
           dsimp only at hS stop go;rcases one 7 true am hS with ⟨k1,c,a1,a2,a3,a4,k',b1,b2,b3,n,b4⟩ | ⟨k',d,a1,a2,a3,rfl,a4⟩
           rw[a3] at go;dsimp only[bjU,aOB] at go;rw[Dw a4] at go;exact⟨k',by omega,b2,b3,n+1,go rfl b4⟩
           · rw[a4] at stop
             exact⟨k',a1,a2,a3,1,stop rfl⟩
       | false =>
         rw[hu] at hS stop go;dsimp only at hS stop go;cases ha:BD t.text.data.toList GU.data.toList with
         | true =>
           rw[ha] at hS stop go;dsimp only at hS stop go;cases am with
           | true =>
             dsimp only at hS stop go;obtain⟨rfl,rfl⟩:=Qq hS;exact⟨k,aOC k,hk,rfl,1,stop rfl⟩
           | false =>
             dsimp only at hS stop go;rcases one 8 un true hS with ⟨k1,c,a1,a2,a3,a4,k',b1,b2,b3,n,b4⟩ | ⟨k',d,a1,a2,a3,rfl,a4⟩
             rw[a3] at go;dsimp only[bjU,aOB] at go;rw[Dw a4] at go;exact⟨k',by omega,b2,b3,n+1,go rfl b4⟩
             · rw[a4] at stop
               exact⟨k',a1,a2,a3,1,stop rfl⟩
         | false =>
           rw[ha] at hS stop go;dsimp only at hS stop go;cases hc:BD t.text.data.toList Uh.data.toList with
           | true =>
             rw[hc] at hS stop;dsimp only at hS stop;cases am with
             | true =>
               have hS:=lF h3 hS;obtain⟨rfl,rfl⟩:=Ns hS;refine⟨k+1,by omega,h1,rfl,1,stop ?_⟩;dsimp only;rw[Ew h6 hk];rfl
             | false =>
               obtain⟨rfl,rfl⟩:=Qq hS;exact⟨k,aOC k,hk,rfl,1,stop rfl⟩
           | false =>
             rw[hc] at hS stop;dsimp only at hS stop;obtain⟨rfl,rfl⟩:=Qq hS;exact⟨k,aOC k,hk,rfl,1,stop rfl⟩
theorem ajI{k:Nat}(hk:k<=ts.length){r l}(hS:LI en (OP en) (ts.drop k)=some (r,l)):JG ts k (Ik ⟨ts,k,en⟩) r l:=by
 have h6:ts.length<=1000000:=by omega
 refine Bg (λh=>Jg h6 _ hk h) (λt k1 h hk hS=>?_) (λ_ _=>rfl) hS;refine Bg (λh=>QD h6 _ hk h) (λn k1 h hk hS=>?_) (λ_ _=>rfl) hS;refine Bg (λh=>Jg h6 _ hk h) (λ_ k1 h hk hS=>?_) (λ_ _=>rfl) hS;refine Bg (λh=>atL h6 hk h) (λm k1 h hk hS=>?_) (λ_ _=>rfl) hS;refine Bg (λh=>aOI h6 hk h) (λhd k1 h hk hS=>?_) (λ_ _=>rfl) hS;dsimp only[aOB];rw[Dw (by omega)];refine Bg (λh=>Jg h6 _ hk h) (λ_ k1 h hk hS=>?_) (λ_ _=>rfl) hS;obtain⟨k',a1,a2,a3,j,a4⟩:=aCQ DT hg t m n (k:Int) _ [hd] false false k1 r l hk hS;refine⟨k',a1,a2,a3,?_⟩;dsimp only[aOB];rw[List.nil_append,EI a4];rfl
theorem asD{k:Nat}(hk:k<=ts.length){r l}(hS:N2 en (OP en) (ts.drop k)=some (r,l)):JG ts k (J2 ⟨ts,k,en⟩) r l:=by
 have h6:ts.length<=1000000:=by omega
 refine Y2 hk (λt h1 h2 hS=>?_) (λ_=>rfl) hS;revert hS;dsimp only[aOB];cases BD t.text.data.toList M6.data.toList;rotate_left;exact λhS=>Sv (aoU h6 hk hS);cases BD t.text.data.toList JU.data.toList;rotate_left;exact λhS=>Sv (aoU h6 hk hS);cases BD t.text.data.toList Dx.data.toList;rotate_left;exact λhS=>Sv (ajI DT hg hk hS);exact λhS=>Eg hk rfl hS
end
section
variable {S:Int->Int->Prop} {en en':Int} {w:List Tk} {b:Bool}
def Y4(kind:Int):RP S en en' w b (NR S) (H7 en (OP en) kind) (H7 en' (OP en') kind) :=
 iC λ_ _ ht=>S7 (B7 (λ_=>JD (ahM VK) (λ_ _ hl=>B2 (GN _) λ_ _ _=>DL (Ga hl ht.2.2)) λ_=>LK Sa)
   λ_=>JD aZO (λ_ _ hl=>B2 (GN _) λ_ _ _=>DL (Ga (.cons hl .nil) ht.2.2)) λ_=>LK Sa)
def avE{mk mk':List Nd->Nd}(hm:∀l l',tV S l l'->NR S (mk l) (mk' l')):∀(q q':Nat) (l l':List Nd) (un am:Bool),tV S l l'->RP S en en' w b (NR S) (J5 en (OP en) mk q l un am) (J5 en' (OP en') mk' q' l' un am):=by
 intro q
 induction q with
 | zero=>intro q' l l' un am _ _ _ _ _ _ _ _ e1;cases e1
 | succ q ih =>
   intro q' l l' un am hl;cases q' with
   | zero=>intro _ _ _ _ _ _ _ _ e2;cases e2
   | succ q' =>
     refine iC λt t' ht=>?_;rw[ht.2.1]
     exact B7 (λ_=>B2 (Y4 _) λc c' hc=>Ur (ih q' _ _ _ _ (XH hl (.cons hc .nil)))) λ_ =>
       B7 (λ_=>B7 (λ_=>Ju ht.2.2) λ_=>B2 (Y4 _) λc c' hc=>Ur (ih q' _ _ _ _ (XH hl (.cons hc .nil)))) λ_ =>
       B7 (λ_=>B7 (λ_=>Ju ht.2.2) λ_=>B2 (Y4 _) λc c' hc=>Ur (ih q' _ _ _ _ (XH hl (.cons hc .nil)))) λ_ =>
       B7 (λ_=>B7 (λ_=>S7 (DL (hm _ _ hl))) λ_=>Ju ht.2.2) λ_=>Ju ht.2.2
def adA:RP S en en' w b (NR S) (LI en (OP en)) (LI en' (OP en')):=by
 refine B2 (GN _) λt t' ht=>B2 (RT _) λn n' hn=>B2 (GN _) λ_ _ _=>B2 ahN λm m' hm=>B2 aDW λh h' hh=>B2 (GN _) λ_ _ _=>?_;intro l l1 s s' r r' f e1 e2;refine avE (λl l' hl=>?_) _ _ _ _ _ _ (.cons hh .nil) f e1 e2;rw[hn.1,hm.2.1];exact Ga hl ht.2.2
def cA:RP S en en' w b (NR S) (N2 en (OP en)) (N2 en' (OP en')):=by
 refine iC λt t' ht=>?_;rw[ht.2.1];exact B7 (λ_=>ahL) λ_=>B7 (λ_=>ahL) λ_=>B7 (λ_=>adA) λ_=>Ju ht.2.2
end
section
variable {n:Nat} {en:Int} {st:Bool}
def amG(kind:Int)(hn:n<=10000):UT n st TT (H7 en (OP en) kind) :=
 jE λt _ s mQ hl=>Uw (F4 (λ_=>Bb (aiH (by omega) VM) λ_ _ _=>Bb (Fa _) λ_ _ _=>DM trivial) λ_=>Bb (axW (by omega)) λ_ _ _=>Bb (Fa _) λ_ _ _=>DM trivial) mQ hl
def yZ{mk:List Nd->Nd}:∀(q n:Nat) (ns:List Nd) (un am:Bool),n<=10000->n < q->ns.length+n<=100000->UT n st TT (J5 en (OP en) mk q ns un am):=by
 intro q
 induction q generalizing st with
 | zero=>intro n ns un am _ h;omega
 | succ q ih =>
   intro n ns un am hn h1 h2
   have go:∀{st:Bool} (kind:Int) (un' am':Bool),UT n st TT (BZ (H7 en (OP en) kind) λc=>Mh (ns.length+1) (J5 en (OP en) mk q (ns++[c]) un' am')):=λkind un' am' =>
     Bb (amG kind hn) λc _ h3=>Zh (by omega) (ih (n - 1) _ _ _ (by omega) (by omega) (by simp only[V5,bfG];omega))
   refine jE λt _ s mQ hl=>?_;cases BD t.text.data.toList Nx.data.toList;rotate_left;exact go (st:=st) _ _ _ mQ hl;cases BD t.text.data.toList Ho.data.toList;rotate_left;exact F4 (st:=st) (P:=TT) (λ_=>Jw) (λ_=>go _ _ _) mQ hl;cases BD t.text.data.toList GU.data.toList;rotate_left;exact F4 (st:=st) (P:=TT) (λ_=>Jw) (λ_=>go _ _ _) mQ hl;cases BD t.text.data.toList Uh.data.toList;exact Jw (st:=st) (P:=TT) mQ hl;cases am;exact Jw (st:=st) (P:=TT) mQ hl;exact Uw (DM trivial) mQ hl
def adU(hn:n<=10000):UT n st TT (LI en (OP en)) :=
 Bb (Fa _) λt _ h1=>Bb (PV _) λm _ h2=>Bb (Fa _) λ_ _ h3=>Bb cJ λu _ h4=>Bb aiF λh _ h5=>Bb (Fa _) λ_ _ h6 =>
   yY (K:=λq=>J5 en (OP en) (λl=>C6 4 u.text bE m.1 l t.Bc) q [h] false false) λk hk=>yZ (k+1) k [h] false false (by omega) (by omega) (by simp only[bfG];omega)
def aiG(hn:n<=10000):UT n st TT (N2 en (OP en)):=by
 refine jE λt _ s mQ hl=>?_;cases BD t.text.data.toList M6.data.toList;rotate_left;exact aiE (st:=st) mQ hl;cases BD t.text.data.toList JU.data.toList;rotate_left;exact aiE (st:=st) mQ hl;cases BD t.text.data.toList Dx.data.toList;rotate_left;exact adU (st:=st) hn mQ hl;exact Jw (st:=st) (P:=TT) mQ hl
end
def O9(t:Tk):Bool:=BD t.text.data.toList M6.data.toList||(BD t.text.data.toList JU.data.toList||BD t.text.data.toList Dx.data.toList)
def PQ:List Tk->List Tk
 | []=>[]
 | t::s=>if O9 t then t::s else PQ s
def Us:∀l:List Tk,∃k,PQ l=l.drop k
 | []=>⟨0,rfl⟩
 | t::s=>by
   unfold PQ;split;exact⟨0,rfl⟩;obtain⟨k,hk⟩:=Us s;exact⟨k+1,by rw[hk];rfl⟩
def YD{en:Int}{t:Tk}{l s:List Tk}{r:Nd⊕Dg}(hg:Gl (t::l))(hl:(t::l).length<=10000)(h:N2 en (OP en) (t::l)=some (r,s)):(∃k,s=(t::l).drop k)/\(PQ s).length<=l.length/\∀n,r=.inl n->s.length<=l.length:=by
 obtain⟨r',s',h2,h3,h4⟩:=aiG (st:=true) (en:=en) (n:=(t::l).length) hl hg (aOC _);rw[h] at h2;simp only[aOE,biY] at h2;obtain⟨rfl,rfl⟩:=h2;refine⟨h3,?_,λn hn=>Nat.le_of_lt_succ ((h4 n hn).2 rfl)⟩
 have small:∀{k:Nat},(PQ (l.drop k)).length<=l.length:=λ{k}=>by
   obtain⟨j,hj⟩:=Us (l.drop k);rw[hj,biR,biR];omega
 have sk:∀{x:List Tk},(∃k,x=l.drop k)->(PQ x).length<=l.length:=by
   rintro x ⟨k,rfl⟩;exact small
 have eZ:Gl l:=λt ht=>hg t (bjI _ ht);have hl':l.length<=10000:=by simp only[Yy] at hl;omega
 cases hi:O9 t with
 | false =>
   have N1:=hi;unfold O9 at hi;simp only[Bool.or_eq_false_iff] at hi
   have:N2 en (OP en) (t::l)=some (.inr ⟨71,t.Bc⟩,t::l):=by
     unfold N2 SA;dsimp only;rw[hi.1,hi.2.1,hi.2.2];rfl
   rw[this] at h;simp only[aOE,biY] at h;rw[<- h.2];unfold PQ;rw[N1];obtain⟨k,hk⟩:=Us l;simp only[biT,if_false];rw[hk,biR];omega
 | true =>
   unfold N2 SA at h;dsimp only at h
   have decl:Rz en (t::l)=some (r,s)->(PQ s).length<=l.length:=by
     intro h;unfold Rz SA QC at h;dsimp only at h;refine sk ?_
     obtain⟨r2,s2,e2,h5,_⟩:=(show UT l.length false TT _ from Bb cJ λm _ _=>Bb (Fa PG) λ_ _ _=>Bb aiJ λu _ _=>F4 (c:=BD t.text.data.toList JU.data.toList)
       (A:=BZ (iB en) λr=>IN (E4 r.text) λn=>BZ (II en CV) λ_=>Gb (C6 3 m.text u.text n [] t.Bc)) (B:=BZ (II en CV) λ_=>Gb (C6 2 m.text u.text 0 [] t.Bc))
       (λ_=>Bb aiI λr _ _=>by obtain⟨b,hb⟩:=Uq r.text;exact PU ⟨b,hb,Bb (Fa _) λ_ _ _=>DM trivial⟩) λ_=>Bb (Fa _) λ_ _ _=>DM trivial) eZ (aOC _)
     rw[h] at e2;simp only[aOE,biY] at e2;rw[e2.2];exact h5
   revert h;cases hf:BD t.text.data.toList M6.data.toList;rotate_left;exact decl;cases hli:BD t.text.data.toList JU.data.toList;rotate_left;exact decl;cases ha:BD t.text.data.toList Dx.data.toList;unfold O9 at hi;rw[hf,hli,ha] at hi;cases hi;intro h;refine sk ?_;have h:LI en (OP en) (t::l)=some (r,s):=h;unfold LI at h
   have he:II en Dx (t::l)=some (.inl t,l):=by
     unfold II Ly SA IN CM;dsimp only;rw[ha];rfl
   rcases KG h with ⟨a,s',h3,h4⟩ | ⟨d,h3,_⟩
   rw[he] at h3;simp only[aOE,biY,Sum.inl.injEq] at h3;obtain⟨rfl,rfl⟩:=h3
   obtain⟨r2,s2,e2,h5,_⟩:=(show UT l.length false TT _ from Bb (PV (en:=en) 1) λm _ h2=>Bb (Fa (en:=en) V3) λ_ _ h3=>Bb (cJ (en:=en)) λu _ h4=>Bb (aiF (en:=en)) λh _ h5=>Bb (Fa (en:=en) aC) λ_ _ h6 =>
     yY (K:=λq=>J5 en (OP en) (λl=>C6 4 u.text bE m.1 l t.Bc) q [h] false false) λk hk=>yZ (k+1) k [h] false false (by omega) (by omega) (by simp only[bfG];omega)) eZ (aOC _)
   have h6:=h4.symm.trans e2;simp only[aOE,biY] at h6;rw[h6.2];exact h5;rw[he] at h3;cases h3
def Vn(en:Int):Nat->List Tk->List Nd->List Dg->Option (List Nd×List Dg)
 | 0,_,_,_=>none
 | _+1,[],ks,ds=>some (ks,ds)
 | q+1,t::l,ks,ds=>cond (Dd ((ds.length:Nat):Int) 20) (match N2 en (OP en) (t::l) with
   | none=>none
   | some (.inl n,s)=>Vn en q s (ks++[n]) ds
   | some (.inr d,s)=>Vn en q (PQ s) ks (ds++[d])) (some (ks,ds))
theorem axK{en:Int}:∀(q:Nat) (l:List Tk) (ks:List Nd) (ds:List Dg),Gl l->l.length<=10000->l.length < q->∃r,Vn en q l ks ds=some r:=by
 intro q
 induction q with
 | zero=>intro l ks ds _ _ h;omega
 | succ q ih =>
   intro l ks ds hg hl h;cases l with
   | nil=>exact⟨_,rfl⟩
   | cons t l =>
     unfold Vn;cases Dd ((ds.length:Nat):Int) 20 with
     | false=>exact⟨_,rfl⟩
     | true =>
       obtain⟨r,s,h2,_⟩:=aiG (st:=true) (en:=en) (n:=(t::l).length) hl hg (aOC _);obtain⟨⟨k,rfl⟩,h4,h5⟩:=YD hg hl h2;dsimp only[cond];rw[h2];simp only[Yy] at h hl;cases r with
       | inl n =>
         have h6:=h5 n rfl;exact ih _ _ _ (hg.drop k) (by omega) (by omega)
       | inr d =>
         obtain⟨j,hj⟩:=Us ((t::l).drop k);refine ih _ _ _ ?_ (by omega) (by omega);rw[hj];exact(hg.drop k).drop j
section
variable {source:ByteArray} {ts:List Tk} (DT:ts.length<=10000)
include DT
theorem aSX:∀(j k:Nat),k<=ts.length->ts.length - k<=j->∃n k':Nat,k<=k'/\k'<=ts.length/\PQ (ts.drop k)=ts.drop k'/\DP (λx=>DN source ts x) n (k:Int)=some (.inl (k':Int)):=by
 have stop:∀{k:Nat} {y:Int},DN source ts (k:Int)=some (.ex y)->DP (λx=>DN source ts x) 1 (k:Int)=some (.inl y):=by
   intro k y h;show(DN source ts (k:Int)).bind _=_;rw[h];rfl
 intro j
 induction j with
 | zero =>
   intro k hk hj;have:k=ts.length:=by omega
   refine⟨1,k,aOC k,hk,?_,stop ?_⟩;rw[List.drop_eq_nil_of_le (by omega)];rfl;unfold DN;rw[DQ (by omega)];rfl
 | succ j ih =>
   intro k hk hj;rcases JP ts hk with ⟨h1,h2⟩ | ⟨t,h1,h2,h3⟩
   · refine⟨1,k,aOC k,hk,?_,stop ?_⟩
     rw[h2];rfl;unfold DN;rw[DQ (by omega)];rfl
   · have hs:∀x,DS x (ts.drop k)=BD t.text.data.toList x.data.toList:=λx=>by rw[h3];rfl
     have hL:DN source ts (k:Int)=if O9 t then some (.ex (k:Int)) else some (.nx ((k+1:Nat):Int)):=by
       unfold DN O9;rw[G4 (by omega)];dsimp only[cond];rw[GO hk,GO hk,GO hk,NF,hs,hs,hs];cases BD t.text.data.toList M6.data.toList;cases BD t.text.data.toList JU.data.toList;cases BD t.text.data.toList Dx.data.toList;rw[<- Ew (by omega) hk];rfl;rfl;rfl;rfl
     cases hi:O9 t with
     | true =>
       refine⟨1,k,aOC k,hk,?_,stop ?_⟩;rw[h3];unfold PQ;rw[hi];rfl;rw[hL,hi];rfl
     | false =>
       obtain⟨n,k',a1,a2,a3,a4⟩:=ih (k+1) h1 (by omega);refine⟨n+1,k',by omega,a2,?_,?_⟩;rw[h3];unfold PQ;rw[hi];exact a3;show(DN source ts (k:Int)).bind _=_;rw[hL,hi];exact a4
theorem baH(hg:Gl ts):∀(q k:Nat) (ks:List Nd) (ds:List Dg) (r:List Nd×List Dg),k<=ts.length->ks.length+ds.length+q<=100000->Vn ((source.data.toList.length:Nat):Int) q (ts.drop k) ks ds=some r ->
   ∃n k':Nat,DP (λx:List Dg×List Nd×Int=>Cf source ts x.1 x.2.1 x.2.2) n (ds,ks,(k:Int))=some (.inl (r.2,r.1,(k':Int))):=by
 intro q
 induction q with
 | zero=>intro k ks ds r hk hq h;cases h
 | succ q ih =>
   intro k ks ds r hk hq h
   have stop:Cf source ts ds ks (k:Int)=some (.ex (ds,ks,(k:Int)))->DP (λx:List Dg×List Nd×Int=>Cf source ts x.1 x.2.1 x.2.2) 1 (ds,ks,(k:Int))=some (.inl (ds,ks,(k:Int))):=by
     intro h;show(Cf source ts ds ks (k:Int)).bind _=_;rw[h];rfl
   rcases JP ts hk with ⟨h1,h2⟩ | ⟨t,h1,h2,h3⟩
   · rw[h2] at h
     have:r=(ks,ds):=(bjE h).symm;subst this;refine⟨1,k,stop ?_⟩;unfold Cf;rw[DQ (by omega)];rfl
   · rw[h3] at h
     unfold Vn at h;rw[<- h3] at h;cases hd:Dd ((ds.length:Nat):Int) 20 with
     | false =>
       rw[hd] at h;have:r=(ks,ds):=(bjE h).symm;subst this;refine⟨1,k,stop ?_⟩;unfold Cf;rw[G4 (by omega),hd];rfl
     | true =>
       rw[hd] at h;dsimp only[cond] at h;split at h;cases h;rename_i n s hi;obtain⟨k1,a1,a2,rfl,a4⟩:=asD DT hg hk hi;obtain⟨m,k',b1⟩:=ih k1 (ks++[n]) ds r a2 (by simp only[V5,bfG];omega) h;refine⟨m+1,k',?_⟩
       have hL:Cf source ts ds ks (k:Int)=some (.nx (ds,ks++[n],(k1:Int))):=by
         unfold Cf Hi;rw[G4 (by omega),hd,a4];dsimp only[cond,bjU,axN];rw[Dw (by omega)]
       show(Cf source ts ds ks (k:Int)).bind _=_;rw[hL];exact b1;rename_i d s hi;obtain⟨k1,a1,a2,rfl,a4⟩:=asD DT hg hk hi;obtain⟨j,k2,c1,c2,c3,c4⟩:=aSX (source:=source) DT (ts.length - k1) k1 a2 (aOC _);rw[c3] at h;obtain⟨m,k',b1⟩:=ih k2 ks (ds++[d]) r c2 (by simp only[V5,bfG];omega) h;refine⟨m+1,k',?_⟩
       have hL:Cf source ts ds ks (k:Int)=some (.nx (ds++[d],ks,(k2:Int))):=by
         unfold Cf Hi;rw[G4 (by omega),hd,a4];dsimp only[cond,bjU,axN];rw[Dw (by omega),EI c4];rfl
       show(Cf source ts ds ks (k:Int)).bind _=_;rw[hL];exact b1
end
def FR(s:ByteArray):List Tk:=(LexS.Mf s.data.toList).1.map JV
def Q3(s:ByteArray):Nat:=(LexS.Mf s.data.toList).2.1
def aQV(s:ByteArray):Nat:=(LexS.Mf s.data.toList).2.2
def PK(ks:List Nd):Nd:=⟨1,V4,V4,0,0,0,0,⟨0,[]⟩,ks,0⟩
theorem alA{s:ByteArray}(h:Q3 s≠0):C7 s=some (z0,[⟨(Q3 s:Int),(aQV s:Int)⟩]):=by
 unfold C7 Hf;rw[NF];dsimp only;rw[Kr (by unfold Q3 at h;omega)];rfl
theorem alB{s:ByteArray}(h:Q3 s=0)(hg:Gl (FR s))(hl:(FR s).length<=10000):∃ks ds,Vn ((s.data.toList.length:Nat):Int) ((FR s).length+1) (FR s) [] []=some (ks,ds)/\C7 s=cond (Dd 0 ((ds.length:Nat):Int)) (some (z0,ds)) (DU (PK ks)):=by
 obtain⟨⟨ks,ds⟩,h1⟩:=axK (en:=((s.data.toList.length:Nat):Int)) ((FR s).length+1) (FR s) [] [] hg hl (Nat.lt_succ_self _);refine⟨ks,ds,h1,?_⟩;obtain⟨n,k',h2⟩:=baH (source:=s) hl hg ((FR s).length+1) 0 [] [] _ (bkI _) (by simp only[aOD];omega) (by rw[bjJ];exact h1);unfold C7 Hf;rw[NF];dsimp only;rw[Ie (by unfold Q3 at h;omega)];dsimp only[cond];have h2:DP (λx:List Dg×List Nd×Int=>Cf s (bpC JV (LexS.Mf s.data.toList).fst) x.1 x.2.1 x.2.2) n ([],[],0)=some (.inl (ds,ks,(k':Int))):=h2;rw[EI h2,NF];dsimp only[H8];cases Dd 0 ((ds.length:Nat):Int);dsimp only;show(DU (PK ks)).bind _=DU (PK ks);cases DU (PK ks)<;>rfl
 rfl
end Mo
end Go.Proofs.YtpbkhogolfegfaaGreatDoor
namespace Go.Proofs.YtpbkhogolfegfaaGreatDoor
open AI Go LexS
namespace Mo
set_option maxRecDepth 100000
def P4(c:UInt8):Prop:=48<=c.toNat/\c.toNat<=57
theorem aoF:∀n < 128,(KX n &&& 8)≠0->48<=n/\n<=57:=by decide
theorem azG{c:UInt8}(h:cin 8 c=true):P4 c:=by
 unfold cin at h;by_cases hc:c.toNat < 128;exact aoF _ hc (by simpa using h)
 rw[aeQ _ (by omega)] at h;simp at h
theorem yM(t:List UInt8):∀c∈t.take (Bf 8 t),P4 c:=by
 unfold Bf
 induction t with
 | nil=>intro c hc;cases hc
 | cons x t ih =>
   intro c hc;rw[List.takeWhile_cons] at hc;split at hc;rename_i hx;rw[Yy,List.take_succ_cons] at hc;rcases biX.1 hc with rfl | hc
   exact azG hx;exact ih c hc;cases hc
theorem azN:∀(l:List UInt8) (acc:Nat),(∀c∈l,P4 c)->∃n,bmE acc l=some n/\n < (acc+1)*10 ^ l.length:=by
 intro l
 induction l with
 | nil=>intro acc _;exact⟨acc,rfl,by simp⟩
 | cons c l ih =>
   intro acc h;have hc:=h c (bjW ..);obtain⟨n,h1,h2⟩:=ih (acc*10+(c.toNat - 48)) (λx hx=>h x (bjI _ hx));refine⟨n,?_,bcC h2 ?_⟩;unfold bmE Lib.digitVal;rw[if_pos (show 48<=c.toNat/\c.toNat<=57 from hc)];exact h1;rw[Yy,Nat.pow_succ,Nat.mul_comm (10 ^ l.length) 10,<- Nat.mul_assoc];exact Nat.mul_le_mul_right _ (by have:=hc.2;omega)
theorem anK{l:List UInt8}(h0:l≠[])(hl:l.length<=12)(h:∀c∈l,P4 c):∃z,Lib.atoi l=some z/\0<=z/\z<=999999999999:=by
 cases l with
 | nil=>exact absurd rfl h0
 | cons c l =>
   obtain⟨n,h1,h2⟩:=azN (c::l) 0 h;have hc:=h c (bjW ..);have hlt:n < 10 ^ 12:=bcC h2 (by rw[Nat.zero_add,Nat.one_mul];exact Nat.pow_le_pow_right (by omega) hl);refine⟨(n:Int),?_,by omega,by omega⟩
   have e1:(c == 45)=false:=by
     apply beq_false_of_ne;rintro rfl;exact absurd hc.1 (by decide)
   have e2:(c == 43)=false:=by
     apply beq_false_of_ne;rintro rfl;exact absurd hc.1 (by decide)
   unfold Lib.atoi Lib.decNat;dsimp only;rw[e1,e2];simp only[biT,if_false,List.isEmpty_cons];rw[h1];rfl
theorem mS:∀(d r:List UInt8),(∀c∈d,P4 c)->boP (d++46::r) 46=d.length
 | [],r,_=>by unfold boP;rfl
 | c::d,r,h=>by
   have ih:=mS d r (λx hx=>h x (bjI _ hx));have hc:=h c (bjW ..)
   have e1:(c == 46)=false:=by
     apply beq_false_of_ne;rintro rfl;exact absurd hc.1 (by decide)
   rw[bcE];unfold boP;rw[e1,ih];simp
theorem dC{l:List UInt8}(h0:l≠[])(hl:l.length<=12)(h:∀c∈l,P4 c):∃z,OY ⟨l.toArray⟩=some (z,())/\0<=z/\z<=999999999999:=by
 obtain⟨z,h1,h2⟩:=anK h0 hl h;refine⟨z,?_,h2⟩;unfold OY;rw[if_pos (by simp;omega)];simp only[blF,h1,Option.map_some]
theorem alJ{s:List UInt8}(k:Nat)(h:Lib.index s [46]=-1):brI [46] [] k s=s:=by
 cases k with
 | zero=>rfl
 | succ k=>unfold brI;rw[h];rfl
theorem wF:∀(d:List UInt8),(∀c∈d,P4 c)->boP d 46=-1
 | [],_=>rfl
 | c::d,h=>by
   have ih:=wF d (λx hx=>h x (bjI _ hx));have hc:=h c (bjW ..)
   have e1:(c == 46)=false:=by
     apply beq_false_of_ne;rintro rfl;exact absurd hc.1 (by decide)
   unfold boP;rw[e1,ih];simp
theorem aDJ{d:List UInt8}(h:∀c∈d,P4 c):Lib.replace d [46] [] 1=d:=by
 unfold Lib.replace;rw[if_neg (by decide)];exact alJ _ (by rw[bsN,wF d h])
theorem xW{d r:List UInt8}(h:∀c∈d,P4 c):Lib.replace (d++46::r) [46] [] 1=d++r:=by
 have hi:Lib.index (d++46::r) [46]=(d.length:Int):=by rw[bsN,mS d r h]
 have hn:bsD (d++46::r) [46] 1=1:=by
   have:1<=Lib.count (d++46::r) [46]:=by
     unfold Lib.count Lib.countFrom;rw[hi,if_neg (by simp)];omega
   unfold bsD;rw[if_neg (by omega)];rfl
 unfold Lib.replace;rw[if_neg (by decide),hn,Lib.replaceK_hit _ _ _ _ _ hi];unfold brI;simp
theorem mD{k a:Int}{l m:List UInt8}(hr:Lib.replace l [46] [] 1=m)(hl:l.length<=20)(h0:m≠[])(hm:m.length<=12)(h:∀c∈m,P4 c):∃z,BQ ⟨k,⟨l.toArray⟩,a⟩=some z/\0<=z/\z<=999999999999:=by
 obtain⟨z,h1,h2⟩:=dC h0 hm h;refine⟨z,?_,h2⟩;unfold BQ
 have:Lj ⟨l.toArray⟩ Sy V4 1=some ⟨m.toArray⟩:=by
   unfold Lj
   rw[if_pos ⟨by decide,by
     have:(V4).size=0:=rfl;have h2:(⟨l.toArray⟩:ByteArray).size=l.length:=by simp[ByteArray.size]
     rw[this,h2];omega⟩]
   have:(Sy).data.toList=[46]:=rfl;rw[this];simp only[blF];rw[show(V4).data.toList=[] from rfl,hr]
 dsimp only;rw[this,NF,h1];rfl
def aHX(y m:Nat):Bool:=match D1 (2000+y) m,Da (12*y+m) with
 | some n,some f=>Nat.ble 1 n.toNat&&(Nat.ble 0 f.toNat&&(decide (0<=n/\n<=31/\0<=f/\f+n<=36525)))
 | _,_=>false
theorem azE:((bjR 100).all λy=>(bjR 12).all λm=>aHX y m)=true:=by kernel_rfl
theorem aMO{y m:Nat}(hy:y < 100)(hm:m < 12):∃n f:Int,D1 (2000+y) m=some n/\Da (12*y+m)=some f/\0<=n/\n<=31/\0<=f/\f+n<=36525:=by
 have h:=bkN.1 (bkN.1 azE y (blD.2 hy)) m (blD.2 hm);unfold aHX at h;split at h;rename_i n f h1 h2;simp only[bcA,decide_eq_true_eq] at h;exact⟨n,f,h1,h2,h.2.2.1,h.2.2.2.1,h.2.2.2.2.1,h.2.2.2.2.2⟩;cases h
theorem aoS(y m d:Int)(hy:0<=y/\y<=100000)(hm:0<=m/\m<=100000)(hd:0<=d/\d<=100000):∃z e,Ic y m d=some (z,e)/\(e=0->0<=z/\z<=36524):=by
 have bad:∃z e,(some ((0:Int),(21:Int)):Option (Int×Int))=some (z,e)/\(e=0->0<=z/\z<=36524):=⟨0,21,rfl,λh=>by omega⟩;unfold Ic;cases h1:Dd y 2000;rotate_left;exact bad;cases h2:Dd 2099 y;rotate_left;exact bad;cases h3:Dd m 1;rotate_left;exact bad;cases h4:Dd 12 m;rotate_left;exact bad;cases h5:Dd d 1;rotate_left;exact bad;have h1:=Qv h1;have h2:=Qv h2;have h3:=Qv h3;have h4:=Qv h4;have h5:=Qv h5;obtain⟨n,f,a1,a2,a3,a4,a5,a6⟩:=aMO (y:=(y - 2000).toNat) (m:=(m - 1).toNat) (by omega) (by omega);rw[show(2000:Int)+((y - 2000).toNat:Nat)=y by omega,show(((m - 1).toNat:Nat):Int)=m - 1 by omega] at a1;rw[show 12*(((y - 2000).toNat:Nat):Int)+(((m - 1).toNat:Nat):Int)=(y - 2000)*12+m - 1 by omega] at a2;dsimp only[cond];rw[FH (a:=m) (by omega),a1,NF];cases h6:Dd n d;have h6:=Qv h6;dsimp only;rw[FH (a:=y) (by omega),FG (by omega),Ca (by omega),FH (by omega),a2,NF];rw[Ca (by omega),FH (by omega)];exact⟨_,0,rfl,λ_=>by omega⟩;exact bad
theorem apF{c:UInt8}(hc:P4 c):w64 (Ob .u8 (sJ ((c.toNat:Nat):Int) 48))=(c.toNat:Int) - 48:=by
 have h1:=hc.1;have h2:=hc.2
 have e:Ob .u8 (sJ ((c.toNat:Nat):Int) 48)=(c.toNat:Int) - 48:=by
   rw[sK,Nz];unfold bsS;simp[bsT,bsC];omega
 rw[e];unfold w64;exact aiU (by omega)
section
variable {i:Nat} {c:UInt8} (h4:i≠4) (h7:i≠7) (hc:P4 c) {a b d:Int} (ha:0<=a/\a<=1000) (hb:0<=b/\b<=1000) (hd:0<=d/\d<=1000)
include h4 h7 hc
theorem cl0(ha:0<=a/\a<=1000):BX i c 0 a b d=some (.nx (0,a*10+((c.toNat:Int) - 48),b,d)):=by
 have h1:=hc.1;have h2:=hc.2;unfold BX;rw[Kr (a:=(i:Int)) (b:=4) (by omega),Kr (a:=(i:Int)) (b:=7) (by omega),DQ (b:=48) (by omega),DQ (a:=57) (by omega),apF hc];dsimp only[cond];rw[FG (a:=a) (by omega),Ca (a:=a*10) (by omega)];rfl
theorem cl1(hb:0<=b/\b<=1000):BX i c 1 a b d=some (.nx (1,a,b*10+((c.toNat:Int) - 48),d)):=by
 have h1:=hc.1;have h2:=hc.2;unfold BX;rw[Kr (a:=(i:Int)) (b:=4) (by omega),Kr (a:=(i:Int)) (b:=7) (by omega),DQ (b:=48) (by omega),DQ (a:=57) (by omega),apF hc];dsimp only[cond];rw[FG (a:=b) (by omega),Ca (a:=b*10) (by omega)];rfl
theorem cl2(hd:0<=d/\d<=1000):BX i c 2 a b d=some (.nx (2,a,b,d*10+((c.toNat:Int) - 48))):=by
 have h1:=hc.1;have h2:=hc.2;unfold BX;rw[Kr (a:=(i:Int)) (b:=4) (by omega),Kr (a:=(i:Int)) (b:=7) (by omega),DQ (b:=48) (by omega),DQ (a:=57) (by omega),apF hc];dsimp only[cond];rw[FG (a:=d) (by omega),Ca (a:=d*10) (by omega)];rfl
end
abbrev clF:=Bs (λi y (x:Int×Int×Int×Int)=>BX i y x.1 x.2.1 x.2.2.1 x.2.2.2) (λx:Int×Int×Int×Int=>(x.2.1,x.2.2.1,x.2.2.2))
section
variable {i:Nat} {c:UInt8} (h4:i≠4) (h7:i≠7) (hc:P4 c) {a b d:Int} {l:List UInt8}
include h4 h7 hc
theorem fo0(ha:0<=a/\a<=1000):clF (c::l) i (0,a,b,d)=clF l (i+1) (0,a*10+((c.toNat:Int) - 48),b,d):=by
 show(BX i c 0 a b d).bind _=_;rw[cl0 h4 h7 hc ha];rfl
theorem fo1(ha:0<=b/\b<=1000):clF (c::l) i (1,a,b,d)=clF l (i+1) (1,a,b*10+((c.toNat:Int) - 48),d):=by
 show(BX i c 1 a b d).bind _=_;rw[cl1 h4 h7 hc ha];rfl
theorem fo2(ha:0<=d/\d<=1000):clF (c::l) i (2,a,b,d)=clF l (i+1) (2,a,b,d*10+((c.toNat:Int) - 48)):=by
 show(BX i c 2 a b d).bind _=_;rw[cl2 h4 h7 hc ha];rfl
end
theorem fo4{l:List UInt8}{a b d:Int}:clF (45::l) (0+1+1+1+1) (0,a,b,d)=clF l (0+1+1+1+1+1) (1,a,b,d):=rfl
theorem fo7{l:List UInt8}{a b d:Int}:clF (45::l) (0+1+1+1+1+1+1+1) (1,a,b,d)=clF l (0+1+1+1+1+1+1+1+1) (2,a,b,d):=rfl
theorem ajT{c0 c1 c2 c3 c5 c6 c8 c9:UInt8}(h0:P4 c0)(h1:P4 c1)(h2:P4 c2)(h3:P4 c3)(h5:P4 c5)(h6:P4 c6)(h8:P4 c8)(h9:P4 c9) :
   ∃z e,Db ⟨([c0,c1,c2,c3,45,c5,c6,45,c8,c9]:List UInt8).toArray⟩=some (z,e)/\(e=0->0<=z/\z<=36524):=by
 have b0:=h0;have b1:=h1;have b2:=h2;have b3:=h3;have b5:=h5;have b6:=h6;have b8:=h8;have b9:=h9;unfold P4 at b0 b1 b2 b3 b5 b6 b8 b9;obtain⟨z,e,hz,he⟩:=aoS ((((0*10+((c0.toNat:Int) - 48))*10+((c1.toNat:Int) - 48))*10+((c2.toNat:Int) - 48))*10+((c3.toNat:Int) - 48)) ((0*10+((c5.toNat:Int) - 48))*10+((c6.toNat:Int) - 48)) ((0*10+((c8.toNat:Int) - 48))*10+((c9.toNat:Int) - 48)) (by omega) (by omega) (by omega);refine⟨z,e,?_,he⟩;unfold Db;rw[Ie (by rfl)];dsimp only[cond]
 have key:Bs (λi y x=>BX i y x.1 x.2.1 x.2.2.1 x.2.2.2) (λx:Int×Int×Int×Int=>(x.2.1,x.2.2.1,x.2.2.2)) [c0,c1,c2,c3,45,c5,c6,45,c8,c9] 0 (0,0,0,0)=some (.inl ((((0*10+((c0.toNat:Int) - 48))*10+((c1.toNat:Int) - 48))*10+((c2.toNat:Int) - 48))*10+((c3.toNat:Int) - 48),(0*10+((c5.toNat:Int) - 48))*10+((c6.toNat:Int) - 48),(0*10+((c8.toNat:Int) - 48))*10+((c9.toNat:Int) - 48))):=by
   show clF [c0,c1,c2,c3,45,c5,c6,45,c8,c9] 0 (0,0,0,0)=_;rw[fo0 (by decide) (by decide) h0 (by omega)];rw[fo0 (by decide) (by decide) h1 (by omega)];rw[fo0 (by decide) (by decide) h2 (by omega)];rw[fo0 (by decide) (by decide) h3 (by omega)];rw[fo4];rw[fo1 (by decide) (by decide) h5 (by omega)];rw[fo1 (by decide) (by decide) h6 (by omega)];rw[fo7];rw[fo2 (by decide) (by decide) h8 (by omega)];rw[fo2 (by decide) (by decide) h9 (by omega)];rfl
 have hl:Cs ([c0,c1,c2,c3,45,c5,c6,45,c8,c9]:List UInt8).length=λy:Option ((Int×Int×Int)⊕(Int×Int))=>y:=funext λy=>if_pos (by simp);simp only[blF,bjJ];rw[hl,key];dsimp only[bjU,H8];rw[hz]
def fG{m:Nat}{t:List UInt8}(h:F7 m t=true):∃c u,t=c::u/\cin m c=true:=by
 cases t with
 | nil=>cases h
 | cons c u=>exact⟨c,u,rfl,h⟩
def Za:∀(t:List UInt8) (ys:List (List UInt8)),(Nv t ys).1=0\/(Nv t ys).1=6
 | _,[]=>.inl rfl
 | t,y::ys=>by
   unfold Nv;split;exact .inr rfl;exact Za t ys
def awD{t:List UInt8}(h:F7 8 t=true):1<=Bf 8 t:=by
 obtain⟨c,u,rfl,hc⟩:=fG h;rw[D2,if_pos hc];omega
def mH{t:List UInt8}(h:EN t=true):∃c0 c1 c2 c3 c5 c6 c8 c9,t.take 10=[c0,c1,c2,c3,45,c5,c6,45,c8,c9]/\P4 c0/\P4 c1/\P4 c2/\P4 c3/\P4 c5/\P4 c6/\P4 c8/\P4 c9:=by
 unfold EN at h;rw[bcA] at h;obtain⟨hl,h⟩:=h;have hl:=of_decide_eq_true hl;have hd:=λi hi=>bkN.1 h i (blD.2 hi)
 match t,hl with
 | c0::c1::c2::c3::c4::c5::c6::c7::c8::c9::u,_ =>
   have e4:c4=45:=by have:=hd 4 (by decide);simpa[FM] using this
   have e7:c7=45:=by have:=hd 7 (by decide);simpa[FM] using this
   have g:∀(i:Nat) (c:UInt8) (v:List UInt8),i < 10->i≠4->i≠7->(c0::c1::c2::c3::c4::c5::c6::c7::c8::c9::u).drop i=c::v->P4 c:=by
     intro i c v h1 h4 h7 h;have:=hd i h1;unfold FM at this;rw[if_neg (by omega),h] at this;exact azG this
   subst e4 e7
   exact⟨c0,c1,c2,c3,c5,c6,c8,c9,rfl,g 0 _ _ (by decide) (by decide) (by decide) rfl,g 1 _ _ (by decide) (by decide) (by decide) rfl,g 2 _ _ (by decide) (by decide) (by decide) rfl,g 3 _ _ (by decide) (by decide) (by decide) rfl,
     g 5 _ _ (by decide) (by decide) (by decide) rfl,g 6 _ _ (by decide) (by decide) (by decide) rfl,g 8 _ _ (by decide) (by decide) (by decide) rfl,g 9 _ _ (by decide) (by decide) (by decide) rfl⟩
def aaP{t:List UInt8}(h1:(t.drop (Bf 8 t)).head?=some 46)(h2:F7 8 (t.drop (Bf 8 t+1))=true)(h3:F7 8 (t.drop (Bf 8 t+2))=true) :
   ∃x y,t.take (Bf 8 t+3)=t.take (Bf 8 t)++46::[x,y]/\P4 x/\P4 y:=by
 obtain⟨x,u,hx,hx2⟩:=fG h2;obtain⟨y,v,hy,C5⟩:=fG h3;generalize hd:Bf 8 t=d at *
 have e1:t.drop d=46::t.drop (d+1):=by
   cases hq:t.drop d with
   | nil=>rw[hq] at h1;cases h1
   | cons a b =>
     rw[hq] at h1;have:t.drop (d+1)=b:=by rw[<- bjD,hq];rfl
     rw[this];simp only[List.head?_cons,aOE] at h1;rw[h1]
 have e2:t.drop (d+1)=x::t.drop (d+2):=by
   rw[hx,show d+2=(d+1)+1 from rfl,<- bjD,hx];rfl
 refine⟨x,y,?_,azG hx2,azG C5⟩;rw[List.take_add,e1,e2,hy];rfl
def axI{t:List UInt8}{o:Nat}(ht:t.length<=6000)(h:(Bt t).1≠0):Gd (JV ((Bt t).1,t.take (Bt t).2,o)):=by
 have hlen:(t.take (Bt t).2).length<=6000:=by rw[bjG];omega
 have hlen:(JV ((Bt t).1,t.take (Bt t).2,o)).text.data.toList.length<=6000:=hlen
 have other:(Bt t).1≠3->(Bt t).1≠4->(Bt t).1≠5->Gd (JV ((Bt t).1,t.take (Bt t).2,o)):=by
   intro h3 h4 h5;refine⟨λh=>?_,λh=>?_,λh=>?_,hlen⟩;have:(((Bt t).1:Nat):Int)=3:=h;omega;have:(((Bt t).1:Nat):Int)=3\/(((Bt t).1:Nat):Int)=4:=h;omega;have:(((Bt t).1:Nat):Int)=5:=h;omega
 by_cases c2:F7 2 t=true;refine other ?_ ?_ ?_<;>(unfold Bt;rw[if_pos c2];split<;>simp)
 by_cases c4:F7 4 t=true;refine other ?_ ?_ ?_<;>(unfold Bt;rw[if_neg c2,if_pos c4];split<;>simp)
 by_cases c8:F7 8 t=true;rotate_left;have:Bt t=Nv t Fw:=by unfold Bt;rw[if_neg c2,if_neg c4,if_neg c8]
 rcases Za t Fw with h1 | h1
 rw[this] at h;exact absurd h1 h;rw[<- this] at h1;exact other (by omega) (by omega) (by omega);have hr:Bt t=IX t:=by unfold Bt;rw[if_neg c2,if_neg c4,if_pos c8]
 have hp:=awD c8;have hsp:=awC 8 t;rw[hr] at h hlen ⊢;unfold IX at h hlen ⊢;dsimp only at h hlen ⊢;by_cases hd:EN t=true;rw[if_pos hd] at h hlen ⊢;split at h;rename_i hf;rw[if_pos hf] at hlen ⊢;refine⟨λh=>?_,λh=>?_,λh=>?_,hlen⟩;have:(((5:Nat)):Int)=3:=h;omega;have:(((5:Nat)):Int)=3\/((5:Nat):Int)=4:=h;omega;obtain⟨c0,c1,c2,c3,c5,c6,c8,c9,h0,a0,a1,a2,a3,a5,a6,a8,a9⟩:=mH hd;dsimp only[JV];rw[h0];exact ajT a0 a1 a2 a3 a5 a6 a8 a9;exact absurd rfl h;rw[if_neg hd] at h hlen ⊢;by_cases h0:t.head?=some 48/\1 < Bf 8 t;rw[if_pos h0] at h;exact absurd rfl h;rw[if_neg h0] at h hlen ⊢;by_cases h1:(t.drop (Bf 8 t)).head?=some 46;rw[if_pos h1] at h hlen ⊢;by_cases h2:10 < Bf 8 t\/F7 8 (t.drop (Bf 8 t+1))=false\/F7 8 (t.drop (Bf 8 t+2))=false;rw[if_pos h2] at h;exact absurd rfl h;rw[if_neg h2] at h hlen ⊢;split at h;rename_i hf;rw[if_pos hf] at hlen ⊢;refine⟨λh=>?_,λ_=>?_,λh=>?_,hlen⟩;have:(((4:Nat)):Int)=3:=h;omega;simp only[not_or,Bool.not_eq_false] at h2;obtain⟨x,y,e,hx,hy⟩:=aaP h1 h2.2.1 h2.2.2;dsimp only[JV];rw[e];have hs:=yM t;refine mD (m:=t.take (Bf 8 t)++[x,y]) (xW hs) ?_ (by simp) ?_ ?_;simp only[V5,bjG,Yy,aOD];omega;simp only[V5,bjG,Yy,aOD];omega;intro c hc;rcases bjK.1 hc with hc | hc
 exact hs c hc;simp only[biX,List.not_mem_nil,or_false] at hc;rcases hc with rfl | rfl
 exact hx;exact hy;have:(((4:Nat)):Int)=5:=h;omega;exact absurd rfl h;rw[if_neg h1] at h hlen ⊢;by_cases h2:12 < Bf 8 t;rw[if_pos h2] at h;exact absurd rfl h;rw[if_neg h2] at h hlen ⊢;split at h;rename_i hf;rw[if_pos hf] at hlen ⊢;have hs:=yM t
 have hne:t.take (Bf 8 t)≠[]:=λe=>by
   have:=congrArg blU e;rw[bjG,aOD] at this;omega
 refine⟨λh=>?_,λ_=>?_,λh=>?_,hlen⟩;exact dC hne (by rw[bjG];omega) hs;exact mD (aDJ hs) (by rw[bjG];omega) hne (by rw[bjG];omega) hs;have:(((3:Nat)):Int)=5:=h;omega;exact absurd rfl h
def amS:∀(n o:Nat) (t:List UInt8) (x:LexS.Tok),x∈MC n o t->x.1≠0->∃u o',u.length<=t.length/\(Bt u).1≠0/\x=((Bt u).1,u.take (Bt u).2,o'):=by
 intro n
 induction n with
 | zero=>intro o t x h;cases h
 | succ n ih =>
   intro o t x h h0;unfold MC at h;split at h;cases h;split at h;rw[bjB.1 h] at h0;exact absurd rfl h0;rename_i hr;rcases biX.1 h with rfl | h
   exact⟨t,o,aOC _,hr,rfl⟩;obtain⟨u,o',h1,h2⟩:=ih _ _ _ h h0;refine⟨u,o',bjH h1 ?_,h2⟩;simp only[biR];omega
def acC:∀(l acc:List LexS.Tok),acc.length<=2000->(Ev acc l).1.length<=2000/\∀x∈(Ev acc l).1,x∈acc\/x∈l/\x.1≠0:=by
 intro l
 induction l with
 | nil=>intro acc h;exact⟨h,λx hx=>.inl hx⟩
 | cons y l ih =>
   intro acc h;unfold Ev;split;exact⟨bkI _,λx hx=>by cases hx⟩;split;exact⟨bkI _,λx hx=>by cases hx⟩;rename_i h1 h2;obtain⟨a,b⟩:=ih (acc++[y]) (by simp only[V5,bfG];omega);refine⟨a,λx hx=>?_⟩;rcases b x hx with hx | ⟨hx,h0⟩
   rcases bjK.1 hx with hx | hx
   exact .inl hx;rw[bjB.1 hx];exact .inr ⟨bjW ..,h2⟩;exact .inr ⟨bjI _ hx,h0⟩
def Ze(s:ByteArray):Gl (FR s)/\(FR s).length<=2000:=by
 unfold FR Mf;split;refine⟨?_,bkI _⟩;intro t ht;cases ht;rename_i hs;obtain⟨a,b⟩:=acC (Ez s.data.toList) [] (bkI _);refine⟨?_,by rw[List.length_map];exact a⟩;intro t ht;obtain⟨x,hx,rfl⟩:=List.mem_map.1 ht;rcases b x hx with hx | ⟨hx,h0⟩
 cases hx;obtain⟨u,o',h1,h2,rfl⟩:=amS _ _ _ x hx h0;rw[biR] at h1;exact axI (by omega) h2
end Mo
end Go.Proofs.YtpbkhogolfegfaaGreatDoor
namespace Go.Proofs.YtpbkhogolfegfaaGreatDoor
open AI Go
namespace Mo
set_option maxRecDepth 100000
section
variable {α β:Type} {c:Nat} {f:α->Nat} {g:β->Nat}
def SU(c:Nat)(f:α->Nat)(m:Rd α):Prop:=∀⦃l:List Tk⦄ ⦃a:α⦄ ⦃s:List Tk⦄,m l=some (.inl a,s)->f a+s.length<=l.length+c
def By{m:Rd α}{K:α->Rd β}(h1:SU c f m)(h2:∀a,SU (f a) g (K a)):SU c g (BZ m K):=by
 intro l b s h;rcases KG h with ⟨a,s',e1,e2⟩ | ⟨d,_,h⟩
 have a1:=h1 e1;have a2:=h2 a e2;omega;cases h
def D3{a:α}(h:f a<=c):SU c f (Gb a):=by
 intro l b s e;obtain⟨e1,rfl⟩:=Ns e;cases e1;omega
def Jv{e p:Int}:SU c f (Oz e p):=by
 intro l b s h;obtain⟨h,_⟩:=Qq h;cases h
def NU{X:Option β}{K:β->Rd α}(h:∀b,X=some b->SU c f (K b)):SU c f (IN X K):=by
 intro l a s e;obtain⟨b,hb,e⟩:=Lm e;exact h b hb e
def iO{en:Int}{K:Tk->Rd α}(h:∀t,SU c f (K t)):SU c f (SA en K):=by
 intro l a s e;cases l with
 | nil=>cases e
 | cons t l=>exact h t e
def Ut{K:Rd α}(h:SU (c+1) f K):SU c f (QC K):=by
 intro l a s e;cases l with
 | nil=>cases e
 | cons t l=>have:=h (l:=l) e;simp only[Yy];omega
def B9{b:Bool}{A B:Rd α}(h1:SU c f A)(h2:SU c f B):SU c f (cond b A B):=by cases b;exact h2;exact h1
def Y9{x:ByteArray}{A B:Rd α}(h1:SU (c+1) f A)(h2:SU c f B):SU c f (KR x A B):=by
 intro l a s e;unfold KR at e;cases hx:DS x l with
 | true=>rw[hx] at e;exact Ut h1 e
 | false=>rw[hx] at e;exact h2 e
def Y8{n:Nat}{m:Rd α}(h:SU c f m):SU c f (Mh n m):=λ_ _ _ e=>h (RE e).2
def SU.le{c':Nat}{m:Rd α}(h:SU c f m)(hc:c<=c'):SU c' f m:=λ_ _ _ e=>by have:=h e;omega
end
section
variable {c:Nat} {en:Int}
def MX{f:Tk->Option Bool}:SU c (λ_=>c+1) (Ly en f):=iO λt=>NU λb _=>B9 (Ut (D3 (aOC _))) Jv
def GQ{x:ByteArray}:SU c (λ_=>c+1) (II en x):=MX
def nY:SU c (λ_=>c+1) (Oq en):=By MX λt=>NU λn _=>D3 (aOC _)
def RU{least:Int}:SU c (λ_=>c+1) (L7 en least):=By nY λp=>B9 Jv (B9 Jv (D3 (aOC _)))
def cD{least:Int}:SU c (λ_=>c+1) (TK en least):=By MX λt=>NU λd _=>B9 (B9 Jv (D3 (aOC _))) Jv
def ID(k:Int)(nm u:ByteArray)(n:Int)(ks:List Nd)(p:Int):Cr (C6 k nm u n ks p)=1+D7 ks:=rfl
def QJ(n:Nd):D7 [n]=Cr n:=by simp[D7]
def iQ(l m:List Nd):D7 (l++m)=D7 l+D7 m:=by
 induction l with
 | nil=>simp[D7]
 | cons a l ih=>simp only[bcE,D7,ih];omega
def aES:SU c (λn=>Cr n+c) (Zw en) :=
 By GQ λt=>By RU λn=>By GQ λ_=>By cD λf =>
   Y9 (By cD λu=>By GQ λ_=>By cD λk=>D3 (by show 1+D7 []+c<=_;simp only[D7];omega)) (By GQ λ_=>By cD λk=>D3 (by show 1+D7 []+c<=_;simp only[D7];omega))
def ahV:SU c (λn=>Cr n+c) (Rz en) :=
 iO λt=>Ut (By MX λm=>By GQ λ_=>By MX λu=>B9 (By MX λr=>NU λn _=>By GQ λ_=>D3 (by rw[ID];simp only[D7];omega)) (By GQ λ_=>D3 (by rw[ID];simp only[D7];omega)))
def VL:SU c (λn=>Cr n+c) (DA en):=By RU λp=>D3 (by rw[ID];simp only[D7];omega)
def aEU{read:Rd Nd}(hr:∀c,SU c (λn=>Cr n+c) read):∀(q:Nat) (ns:List Nd) (c:Nat),SU (D7 ns+c) (λr=>D7 r+c) (N6 read q ns):=by
 intro q
 induction q with
 | zero=>intro ns c l a s h;cases h
 | succ q ih =>
   intro ns c;refine Y9 (By (hr _) λn=>Y8 ((ih (ns++[n]) c).le ?_)) (D3 (aOC _));rw[iQ,QJ];omega
def ahW{read:Rd Nd}(hr:∀c,SU c (λn=>Cr n+c) read):SU c (λr=>D7 r+c) (Qu read) :=
 By (hr c) λn l a s h=>by
   have:=aEU hr _ [n] c h;rw[QJ] at this;exact this
def iP:SU c (λ_=>c+1) (NV en):=By MX λt=>NU λd _=>B9 (B9 (D3 (aOC _)) Jv) (D3 (aOC _))
def aEV:SU c (λ_=>c+1) (iK en):=By MX λt=>B9 (D3 (aOC _)) (D3 (aOC _))
def oA{Ap a b:Int}:SU c (λ_=>c) (QB en Ap a b):=By aEV λs=>By RU λm=>By GQ λ_=>By RU λd=>NU λg _=>NU λz _=>B9 Jv (D3 (by omega))
def SU.imp{α:Type}{f f':α->Nat}{m:Rd α}(h:SU c f m)(hf:∀a,f' a<=f a):SU c f' m:=λ_ a _ e=>by have:=h e;have:=hf a;omega
def nZ{Ap a:Int}:SU c (λ_=>c) (Ox en Ap a):=By GQ λ_=>Y9 (By iP λa=>oA.imp λ_=>by omega) (By iP λa=>oA.imp λ_=>by omega)
def awR{before:List Pt}{Ap:Int}:SU c (λ_=>c) (Uf en before Ap):=By iP λv=>B9 (B9 (nZ.imp λ_=>by omega) Jv) (NU λq _=>B9 Jv (B9 Jv (nZ.imp λ_=>by omega)))
def alX:∀(q:Nat) (l:List Pt) (k:Int) (c:Nat),SU c (λ_=>c) (K1 en q l k):=by
 intro q
 induction q with
 | zero=>intro l k c _ _ _ h;cases h
 | succ q ih=>intro l k c;exact By awR λp=>Y8 (Y9 ((ih _ _ _).imp λ_=>by omega) (D3 (aOC _)))
def alY{k p:Int}:∀(l:List Pt) (acc:List Pc),SU c (λ_=>c) (Mb k p l acc):=by
 intro l
 induction l with
 | nil=>intro acc;exact D3 (aOC _)
 | cons x l ih=>intro acc;exact NU λz _=>B9 Jv (B9 Jv (Y8 (ih _)))
def ajN{op:ByteArray}{l r x:Nd}(h:AY op l r=some x):Cr x=1+Cr l+Cr r:=by
 unfold AY at h;revert h;have e1:∀(nm:ByteArray) (a b:Nd) (p:Int),Cr (⟨16,nm,V4,0,0,0,0,⟨0,[]⟩,[a,b],p⟩:Nd)=1+Cr a+Cr b:=by intro nm a b p;simp only[Cr,D7];omega
 cases BD op.data.toList Qf.data.toList;cases BD op.data.toList L5.data.toList;intro h1;cases h1;exact e1 _ _ _ _;cases Lj op Qf Mg 1 with
 | none=>intro h1;cases h1
 | some y=>intro h1;cases h1;rw[e1];omega
 cases Lj op Qf Mg 1 with
 | none=>intro h1;cases h1
 | some y=>intro h1;cases h1;rw[e1];omega
def aKE{α:Type}{f:α->Nat}{yes:ByteArray->Rd α}{no:Rd α}(h1:∀x,SU (c+1) f (yes x))(h2:SU c f no):∀ops:List ByteArray,SU c f (tM yes no ops):=by
 intro ops
 induction ops with
 | nil=>exact h2
 | cons x ops ih=>exact Y9 (h1 x) ih
def yP{sub:Rd Nd}(h:∀c,SU c (λn=>Cr n+c) sub)(op:ByteArray)(l:Nd):SU (Cr l+c+1) (λn=>Cr n+c) (PJ en sub op l) :=
 By (B9 VL (h _)) λr=>NU λx hx=>D3 (by rw[ajN hx];omega)
def awP{ops:List ByteArray}{sub:Rd Nd}(h:∀c,SU c (λn=>Cr n+c) sub):∀(q:Nat) (l:Nd) (c:Nat),SU (Cr l+c) (λn=>Cr n+c) (JN en ops sub q l):=by
 intro q
 induction q with
 | zero=>intro l c _ _ _ h;cases h
 | succ q ih=>intro l c;exact aKE (λx=>By (yP h x l) λb=>ih b c) (D3 (aOC _)) ops
structure Siz(g:Ek->Rd Nd)(li:Rd (List Nd)):Prop where
 sg:∀e c,SU c (λn=>Cr n+c) (g e)
 sli:∀c,SU c (λr=>D7 r+c) li
def aEM:∀q:Nat,Siz (gP en q).1 (gP en q).2:=by
 intro q
 induction q with
 | zero =>
   constructor;intro e c _ _ _ h;cases h;intro c _ _ _ h;cases h
 | succ q A =>
   refine⟨λe c=>?_,λc=>ahW (A.sg .ex)⟩;show SU c (λn=>Cr n+c) (S9 en (gP en q).1 (gP en q).2 e);have lv:∀i,SU c (λn=>Cr n+c) (LV en (gP en q).1 i):=λi=>By (A.sg _ _) λN l a s h=>awP (A.sg _) _ N c h;unfold S9;split;exact A.sg _ _
   · intro l a s h
     unfold YK at h;cases hx:DS LB l with
     | true =>
       rw[hx] at h;exact By (g:=λn=>Cr n+c) GQ (λt=>By (A.sg _ _) λk=>D3 (by rw[ID,QJ];omega)) h
     | false=>rw[hx] at h;exact A.sg _ _ h
   exact By (A.sg _ _) λN=>aKE (λx=>yP (A.sg _) x N) (D3 (aOC _)) _;exact A.sg _ _;exact lv _;refine iO λt=>B9 (By nY λn=>Y9 (D3 (by rw[ID];simp only[D7];omega)) (D3 (by rw[ID];simp only[D7];omega))) (B9 (Ut (By MX λa=>NU λz _=>D3 (by rw[ID];simp only[D7];omega))) (NU λb _=>B9 (Ut (D3 (by rw[ID];simp only[D7];omega))) (A.sg _ _)));have one:∀(k:Int) (nm u:ByteArray) (n p:Int),SU c (λn=>Cr n+c) (QC (Gb (C6 k nm u n [] p))):=λ_ _ _ _ _=>Ut (D3 (by rw[ID];simp only[D7];omega))
   exact B9 (one _ _ _ _ _) (B9 (one _ _ _ _ _) (B9 (Ut (By RU λp=>D3 (by rw[ID];simp only[D7];omega))) (B9 (one _ _ _ _ _) (B9 (one _ _ _ _ _) (B9 (one _ _ _ _ _) (B9 (one _ _ _ _ _) (B9 (A.sg _ _) (B9 (A.sg _ _) (B9 (A.sg _ _)
     (B9 (Ut (By (A.sg _ _) λa=>By GQ λ_=>D3 (by omega))) Jv))))))))))
   exact iO λt=>Ut (By GQ λ_=>By (A.sg _ _) λa=>By GQ λ_=>By (A.sli _) λl=>Y8 (By GQ λ_=>D3 (by rw[ID];simp only[D7];omega)));exact By GQ λt=>By GQ λ_=>By (A.sg _ _) λa=>By GQ λ_=>By (λl a s h=>alX _ _ _ _ h) λl=>By GQ λe=>Y8 (By (alY _ _) λr=>D3 (by show 1+D7 [a]+c<=Cr a+(c+1+1)+1+1;rw[QJ];omega))
def aKD:SU c (λn=>Cr n+c) (OP en):=λ_ _ _ h=>(aEM _).sg .ex c h
def alW(kind:Int):SU c (λn=>Cr n+c) (H7 en (OP en) kind) :=
 iO λt=>Ut (B9 (By (ahW λc=>VL) λl=>By GQ λ_=>D3 (by rw[ID];omega)) (By aKD λe=>By GQ λ_=>D3 (by rw[ID,QJ];omega)))
def awQ{mk:List Nd->Nd}(hm:∀l,Cr (mk l)=1+D7 l):∀(q:Nat) (ns:List Nd) (un am:Bool) (c:Nat),SU (D7 ns+c+1) (λn=>Cr n+c) (J5 en (OP en) mk q ns un am):=by
 intro q
 induction q with
 | zero=>intro ns un am c _ _ _ h;cases h
 | succ q ih =>
   intro ns un am c
   have go:∀(kind:Int) (un' am':Bool),SU (D7 ns+c+1) (λn=>Cr n+c) (BZ (H7 en (OP en) kind) λx=>Mh (ns.length+1) (J5 en (OP en) mk q (ns++[x]) un' am')):=λkind un' am' =>
     By (alW kind) λx=>Y8 ((ih (ns++[x]) un' am' c).le (by rw[iQ,QJ];omega))
   exact iO λt=>B9 (go _ _ _) (B9 (B9 Jv (go _ _ _)) (B9 (B9 Jv (go _ _ _)) (B9 (B9 (Ut (D3 (by rw[hm];omega))) Jv) Jv)))
def aET:SU c (λn=>Cr n+c) (N2 en (OP en)) :=
 iO λt=>B9 ahV (B9 ahV (B9 (By GQ λt=>By RU λn=>By GQ λ_=>By MX λm=>By aES λh=>By GQ λ_=>λl a s e=>by
   have:=awQ (λl=>rfl) _ [h] false false c e;rw[QJ] at this;dsimp only at this ⊢;omega) Jv))
end
def ayI(a b:Nat):aTW (a:Int) (b:Int)=((max a b:Nat):Int):=by
 unfold aTW;split<;>omega
def aMY:∀n:Nd,Mq n<=Cr n:=by
 intro n
 have key:∀(q:Nat) (n:Nd),Cr n<=q->Mq n<=Cr n:=by
   intro q
   induction q with
   | zero=>intro n h;rw[Cu] at h;omega
   | succ q ih =>
     intro n h;rw[Ky,Cu];have:Yh n.kids<=D7 n.kids:=Yu.2 λk hk=>bjH (ih k (by have:=MY hk;omega)) (JE hk);omega
 exact key _ n (aOC _)
def akU:∀(q:Nat) (n:Nd),Cr n<=q->Cr n<=1000000->De q n=some (((Cr n:Nat):Int),((Mq n:Nat):Int)):=by
 intro q
 induction q with
 | zero=>intro n h;have:=Cu n;omega
 | succ q ih =>
   intro n hq hz;have hsz:=Cu n;rw[De,My];rw[show Cs n.kids.length=λy:Option ((Int×Int)⊕(Int×Int))=>y from funext λy=>if_pos (by have:=Ja n.kids;omega),bjJ]
   have key:∀(m:List Nd),(∀k∈m,k∈n.kids)->∀(i c d:Nat),c+D7 m<=1000000->Bs (ρ:=Int×Int) (λi y x=>Hg (De q) i y x.1 x.2) (λx=>(x.1,x.2)) m i ((c:Int),(d:Int))=some (.inl (((c+D7 m:Nat):Int),((max d (Yh m):Nat):Int))):=by
     intro m
     induction m with
     | nil=>intro _ i c d _;simp[Bs,D7,Yh]
     | cons a m ihm =>
       intro hm i c d hc;simp only[D7] at hc;have ha:=hm a (bjW ..);rw[Bs,Hg,ih a (by have:=JE ha;omega) (by have:=JE ha;omega),NF];dsimp only;rw[Ca (by omega),ayI];have:=ihm (λk hk=>hm k (bjI _ hk)) (i+1) (c+Cr a) (max d (Mq a)) (by omega);rw[NF];dsimp only[NX];rw[show(c:Int)+(Cr a:Int)=((c+Cr a:Nat):Int) by omega,this];simp only[D7,Yh,Nat.add_assoc,Nat.max_assoc]
   have h1:=key n.kids (λ_ h=>h) 0 1 0 (by omega);have h1:Bs (ρ:=Int×Int) (λi y x=>Hg (De q) i y x.1 x.2) (λx=>(x.1,x.2)) n.kids 0 (1,0)=some (.inl (((1+D7 n.kids:Nat):Int),((max 0 (Yh n.kids):Nat):Int))):=h1;rw[h1,NF];dsimp only[H8];have hd:=Ky n;have hd2:=aMY n;rw[Ca (by omega),hsz,hd];congr 2;omega
def nC{n:Nd}(hz:Cr n<=1000000):DU n=some (if 2000 < Cr n\/40 < Mq n then (z0,[⟨2,0⟩]) else (n,[])):=by
 have:Mz n=some (((Cr n:Nat):Int),((Mq n:Nat):Int)):=TN (Cr n) λq hq=>akU q n hq hz;unfold DU;rw[this,NF];dsimp only;by_cases h1:2000 < Cr n;rw[G4 (by omega),if_pos (.inl h1)];rfl;rw[DQ (by omega)];by_cases h2:40 < Mq n;rw[G4 (by omega),if_pos (.inr h2)];rfl;rw[DQ (by omega),if_neg (by omega)];rfl
def akR(n:Nd):Nd×List Dg:=if 2000 < Cr n\/40 < Mq n then (z0,[⟨2,0⟩]) else (n,[])
def aTL{en:Int}:∀(q:Nat) (l:List Tk) (ks:List Nd) (ds:List Dg) (r:List Nd×List Dg),Gl l->l.length<=10000->Vn en q l ks ds=some r->D7 r.1<=D7 ks+l.length/\r.2.length<=max 20 ds.length:=by
 intro q
 induction q with
 | zero=>intro l ks ds r _ _ h;cases h
 | succ q ih =>
   intro l ks ds r hg hl h;cases l with
   | nil=>cases h;exact⟨by dsimp only;omega,by dsimp only;omega⟩
   | cons t l =>
     unfold Vn at h;cases hd:Dd ((ds.length:Nat):Int) 20 with
     | false=>rw[hd] at h;cases h;exact⟨by dsimp only;omega,by dsimp only;omega⟩
     | true =>
       rw[hd] at h;dsimp only[cond] at h;have hd:=nD hd;split at h;cases h;rename_i n s hi;have a:=aET (c:=0) hi;obtain⟨⟨k,rfl⟩,_,_⟩:=YD hg hl hi;have b:=ih _ _ _ _ (hg.drop k) (by rw[biR];omega) h;rw[iQ,QJ] at b;exact⟨by dsimp only at a;omega,b.2⟩;rename_i d s hi;obtain⟨⟨k,rfl⟩,h2,_⟩:=YD hg hl hi;obtain⟨j,hj⟩:=Us ((t::l).drop k);have hl2:l.length<=10000:=by simp only[Yy] at hl;omega
       have b:=ih _ _ _ _ (by rw[hj];exact(hg.drop k).drop j) (by omega) h;simp only[V5,bfG] at b;simp only[Yy];exact⟨by omega,by omega⟩
def aUX(ks:List Nd):List Dg->Nd×List Dg
 | []=>akR (PK ks)
 | ds=>(z0,ds)
def agX{s:ByteArray}(h:Q3 s=0):∃ks ds,Vn ((s.data.toList.length:Nat):Int) ((FR s).length+1) (FR s) [] []=some (ks,ds)/\C7 s=some (aUX ks ds)/\D7 ks<=2000/\ds.length<=20:=by
 obtain⟨hg,hl⟩:=Ze s;obtain⟨ks,ds,h1,h2⟩:=alB h hg (by omega);have h3:=aTL _ _ _ _ _ hg (by omega) h1;simp only[D7,aOD] at h3;refine⟨ks,ds,h1,?_,by omega,by omega⟩;rw[h2];cases ds with
 | nil =>
   rw[DQ (by simp)];exact nC (by have:=Cu (PK ks);simp only[PK] at this;rw[show Cr (PK ks)=1+D7 ks from rfl];omega)
 | cons d ds =>
   rw[G4 (by simp only[Yy];omega)];rfl
def aUW:(Nd⊕Dg)×List Tk->Nd×List Dg
 | (.inl n,[])=>akR n
 | (.inl _,t::_)=>(z0,[⟨71,t.Bc⟩])
 | (.inr d,_)=>(z0,[d])
def alC{s:ByteArray}(h:Q3 s≠0):BG s=some (z0,[⟨(Q3 s:Int),(aQV s:Int)⟩]):=by
 unfold BG Hf;rw[NF];dsimp only;rw[Kr (by unfold Q3 at h;omega)];rfl
def agY{s:ByteArray}(h:Q3 s=0):∃r l,OP ((s.data.toList.length:Nat):Int) (FR s)=some (r,l)/\BG s=some (aUW (r,l)):=by
 obtain⟨hg,hl⟩:=Ze s;obtain⟨r,l,h1,_⟩:=axW (en:=((s.data.toList.length:Nat):Int)) (n:=(FR s).length) (by omega) hg (aOC _);refine⟨r,l,h1,?_⟩;obtain⟨k',a1,a2,rfl,a4⟩:=afA (by omega) hg (bkI _) (by rw[bjJ];exact h1);unfold BG Hf;rw[NF];dsimp only;rw[Ie (by unfold Q3 at h;omega)];dsimp only[cond];have a4:FN ⟨bpC JV (LexS.Mf s.data.toList).fst,0,((s.data.toList.length:Nat):Int)⟩=some (r,(k':Int)):=a4;unfold K0 JX;rw[a4,NF];cases r with
 | inr d=>rfl
 | inl n =>
   dsimp only[aOB];rcases JP (FR s) a2 with ⟨h2,h3⟩ | ⟨t,h2,h3,h4⟩
   rw[h3,DQ (by show((bpC JV (LexS.Mf s.data.toList).fst).length:Int)<=_;unfold FR at h2;omega)];dsimp only[cond,bjU,axN]
   have hz:Cr n<=1000000:=by
     have:=aKD (c:=0) h1;dsimp only at this;omega
   have:=nC hz;rw[this];rfl;rw[h4,G4 (by show _ < ((bpC JV (LexS.Mf s.data.toList).fst).length:Int);unfold FR at h2;omega)];dsimp only[cond]
   have hgt:F9 (bpC JV (LexS.Mf s.data.toList).fst) (k':Int)=some t:=by
     unfold F9;rw[if_pos (by omega),biW];exact h3
   rw[hgt];rfl
end Mo
end Go.Proofs.YtpbkhogolfegfaaGreatDoor
namespace Go.Proofs.YtpbkhogolfegfaaGreatDoor
open AI Go LexS
namespace Mo
set_option maxRecDepth 100000
structure Gy(t:Tk):Prop where
 name:t.kind=1->(1<=t.text.data.toList.length/\t.text.data.toList.length<=16)/\(∃b,t.text.data.toList[0]?=some b/\97<=b.toNat/\b.toNat<=122)/\∀c∈t.text.data.toList,oP c
 cur:t.kind=2->dO t.text
def Gx(l:List Tk):Prop:=∀t∈l,Gd t/\Gy t
section
variable {α β:Type} {P:α->Prop} {P2:β->Prop}
def Va(P:α->Prop)(m:Rd α):Prop:=∀⦃l:List Tk⦄ ⦃a:α⦄ ⦃s:List Tk⦄,Gx l->m l=some (.inl a,s)->P a/\Gx s
def Va.imp{P':α->Prop}{m:Rd α}(h:Va P m)(f:∀a,P a->P' a):Va P' m:=λ_ a _ hg e=>⟨f a (h hg e).1,(h hg e).2⟩
end
end Mo
end Go.Proofs.YtpbkhogolfegfaaGreatDoor
