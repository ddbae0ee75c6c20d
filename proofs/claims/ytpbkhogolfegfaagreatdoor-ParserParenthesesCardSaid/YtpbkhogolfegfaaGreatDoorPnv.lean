/- Part of a proof: see the last text. -/
import Derived.Test.YtpbkhogolfegfaaGreatDoorPnu
set_option linter.unusedVariables false
set_option linter.unusedSimpArgs false
set_option linter.defProp false
noncomputable section
open Array renaming ext'->bjQ
open Bool renaming and_eq_true->bcA,eq_false_iff->bpN,false_eq_true->biT,not_eq_true'->bpK,true_and->boO
open ByteArray renaming empty->V4
open Go.Lib renaming decDigits->bqW,decFrom->bmE,digitVal->boG
open Int renaming eq_ofNat_of_zero_le->bkP,le_of_lt->brH,le_of_mul_le_mul_left->bpJ,mul_comm->boZ,mul_le_mul_of_nonneg_left->boT,natAbs_tdiv->brV,toNat_natCast->biW
open List renaming all_cons->bnA,append_assoc->atS,append_nil->bcB,cons_append->bcE,drop_drop->bjD,drop_eq_nil_of_le->bjL,drop_left->boH,drop_zero->bjJ,eq_nil_of_length_eq_zero->biP,getElem?_cons_succ->bmV,getElem?_cons_zero->bjV,getElem?_eq_getElem->abI,getElem?_eq_some_iff->abH,getElem?_map->biU,getElem?_of_mem->bmD,getElem_mem->bnJ,head?_cons->boU,head?_drop->bmM,isPrefixOf->blM,length->blU,length_append->V5,length_cons->Yy,length_drop->biR,length_map->bjC,length_nil->aOD,length_singleton->bfG,length_take->bjG,map_append->bjS,map_cons->bjM,map_nil->bmX,mem_append->bjK,mem_cons->biX,mem_map->blE,mem_of_getElem?->bcH,mem_singleton->bjB,nil_append->bcJ,not_mem_nil->bkW,range->bjR,range'->bqM,sum_cons->bqX,take_succ_cons->bmS,toList_toArray->blF
open Nat renaming add_assoc->blQ,add_comm->bmY,add_mul->blG,le_of_ble_eq_true->bcG,le_refl->aOC,lt_or_ge->blL,mod_lt->bqY,strongRecOn->bmF,zero_add->bcD
open Option renaming bind->bjU,bind_some->NF,map_some->biQ
open Option.some renaming inj->bjE,injEq->aOE
namespace Go.Proofs.YtpbkhogolfegfaaGreatDoor
open AI Go
namespace Mo
set_option maxRecDepth 100000
set_option maxHeartbeats 4000000
section
variable (n:Nd)
def OK:(DO n).kind=n.kind:=by rw[Gp]
def X4:(DO n).name=n.name:=by rw[Gp]
def X5:(DO n).unit=n.unit:=by rw[Gp]
def adM:(DO n).n=n.n:=by rw[Gp]
def awG:(DO n).fr=n.fr:=by rw[Gp]
def awH:(DO n).to=n.to:=by rw[Gp]
def iM:(DO n).known=n.known:=by rw[Gp]
def iN:(DO n).BK=n.BK:=by rw[Gp]
def K7:(DO n).kids=n.kids.map DO:=by rw[Gp]
end
def axB:∀{l:List Nd},(∀k∈l,Cr (DO k)=Cr k/\Mq (DO k)=Mq k)->D7 (l.map DO)=D7 l/\Yh (l.map DO)=Yh l
 | [],_=>⟨rfl,rfl⟩
 | a::l,h=>by
   obtain⟨h1,h2⟩:=h a (by simp);obtain⟨h3,h4⟩:=axB (l:=l) λk hk=>h k (by simp[hk]);simp only[bjM,D7,Yh,h1,h2,h3,h4,and_self]
def aRF{p:Nd->Prop}(h:∀n,(∀k∈n.kids,p k)->p n):∀(m:Nat) (n:Nd),Cr n<=m->p n:=by
 intro m
 induction m with
 | zero=>intro n h;have:=Cu n;omega
 | succ m ih =>
   intro n hn;have hsz:=Cu n;exact h n λk hk=>ih k (by have:=JE hk;omega)
def Sk{p:Nd->Prop}(h:∀n,(∀k∈n.kids,p k)->p n)(n:Nd):p n:=aRF h (Cr n) n (aOC _)
def X6(n:Nd):Cr (DO n)=Cr n/\Mq (DO n)=Mq n:=by
 refine Sk (p:=λn=>Cr (DO n)=Cr n/\Mq (DO n)=Mq n) (λn ih=>?_) n;obtain⟨h1,h2⟩:=axB (l:=n.kids) ih;rw[Cu (DO n),Ky (DO n),Ky n,Cu n,K7,h1,h2];exact⟨rfl,rfl⟩
def aYX{n:Nd}:GZ n->GZ (DO n):=by
 refine Sk (p:=λn=>GZ n->GZ (DO n)) (λn ih MG=>?_) n;obtain⟨p1,p2,p3⟩:=(Pf n).1 MG;rw[Gp];refine(Pf _).2 ⟨p1,by simpa using p2,λy hy=>?_⟩
 obtain⟨k,hk,rfl⟩:=blE.1 hy;exact ih k hk (p3 k hk)
def aVD{n:Nd}{i:Nat}{q:Nd->Prop}(hq:∀k,q (DO k)↔q k):(∀k,(DO n).kids[i]?=some k->q k)↔∀k,n.kids[i]?=some k->q k:=by
 rw[K7];constructor;intro h k hk;exact(hq k).1 (h _ (by rw[biU,hk];rfl));intro h k hk;rw[biU] at hk;obtain⟨y,hy,rfl⟩:=Option.map_eq_some_iff.1 hk;exact(hq y).2 (h y hy)
def VS{l:List Nd}{q:Nd->Prop}(hq:∀k∈l,q (DO k)↔q k):(∀k∈l.map DO,q k)↔∀k∈l,q k:=by
 constructor;intro h k hk;exact(hq k hk).1 (h _ (List.mem_map_of_mem hk));intro h k hk;obtain⟨y,hy,rfl⟩:=blE.1 hk;exact(hq y hy).2 (h y hy)
def atY(k:Nd):Qb (DO k)↔Qb k:=by unfold Qb;rw[OK,X5,adM]
def UF(n f:Nd):EZ (DO n) f↔EZ n f:=by unfold EZ;rw[X4,X5,adM,awG,awH,iM,iN]
def aNI(n:Nd):U3 (DO n)↔U3 n:=by
 unfold U3;rw[aVD atY];simp only[UF,OK,X5,adM,X4,iN,K7,bjC]
def abA(n:Nd):OQ (DO n)↔OQ n:=by
 refine Sk (p:=λn=>OQ (DO n)↔OQ n) (λn ih=>?_) n;rw[MF,MF,aNI,K7,VS ih]
def Xh(k:Int):∀l:List Nd,Dj k (l.map DO)=Dj k l
 | []=>rfl
 | a::l=>by rw[bjM,Dj,Dj,OK,Xh k l]
def mF(x:Nd):BO (DO x)↔BO x:=by
 unfold BO;rw[UF,OK,K7,bjC,VS (λk _=>and_congr (abA k) (atY k)),VS (λk _=>abA k)]
def afJ(x:Nd):M7 (DO x)↔M7 x:=by
 unfold M7;simp only[UF,OK,adM,awG,awH,iM,K7,bjC]
def aME(n:Nd):aaI (DO n)↔aaI n:=by
 unfold aaI;rw[UF,X4,adM,K7];refine and_congr_right λ_=>and_congr_right λ_=>and_congr_right λ_=>?_;cases n.kids with
 | nil=>exact⟨λ⟨h,cs,e,_⟩=>(nomatch e),λ⟨h,cs,e,_⟩=>(nomatch e)⟩
 | cons a l =>
   have hk:kinds (l.map DO)↔kinds l:=by unfold kinds;exact VS λk _=>by rw[OK]
   constructor;rintro⟨h,cs,e,h1,h2,h3,h4,h5⟩;rw[bjM] at e;cases e;exact⟨a,l,rfl,hk.1 h1,by rwa[Xh] at h2,by rwa[Xh] at h3,(afJ a).1 h4,(VS λk _=>mF k).1 h5⟩;rintro⟨h,cs,e,h1,h2,h3,h4,h5⟩;cases e;exact⟨DO a,l.map DO,rfl,hk.2 h1,by rwa[Xh],by rwa[Xh],(afJ a).2 h4,(VS λk _=>mF k).2 h5⟩
def aBH(n:Nd):GD (DO n)↔GD n:=by
 unfold GD;rw[aME];simp only[UF,OK,adM,X4,X5,K7,bjC]
def aRS(n:Nd):okV (DO n)↔okV n:=by
 unfold okV;rw[UF,OK,abA,(X6 n).1,(X6 n).2,K7,VS λk _=>aBH k]
def anW:∀{l:List Nd},(∀k∈l,cN k=Cr k)->cL l=D7 l
 | [],_=>by rw[cL,D7]
 | a::l,h=>by rw[cL,D7,h a (by simp),anW λk hk=>h k (by simp[hk])]
def aMN(n:Nd):cN n=Cr n:=by
 refine Sk (p:=λn=>cN n=Cr n) (λn ih=>?_) n;rw[anX,Cu,anW ih]
def agF{α:Type}{l:List α}{body:Nat->α->Unit->Option (Lp Unit Unit Bool)}{x:Option Bool}(hl:l.length<=9223372036854775807)(hb:∀i y,l[i]?=some y->body i y ()=some (.nx ())):(Cs l.length (Bs body (λ_=>()) (l.drop 0) 0 ())).bind (H8 (λ(_:Unit)=>x) (λv=>some v))=x:=by
 have key:∀(m:List α) (i:Nat),(∀j y,m[j]?=some y->body (i+j) y ()=some (.nx ()))->Bs body (λ_=>()) m i ()=some (.inl ()):=by
   intro m
   induction m with
   | nil=>intro i _;rfl
   | cons y m ih =>
     intro i h;rw[Bs,show body i y ()=some (.nx ()) from h 0 y rfl,NF];exact ih (i+1) λj z hz=>by rw[blQ,bmY 1 j];exact h (j+1) z hz
 rw[show Cs l.length=λy:Option (Unit⊕Bool)=>y from funext λy=>if_pos hl,bjJ,key l 0 (λj y hy=>by rw[bcD];exact hb j y hy)];rfl
def yH(x:Pc):Rg x x=true:=by unfold Rg;simp
def adF(f:Fn)(h:f.ps.length<=9223372036854775807):Kl f f=some true:=by
 rw[Kl,Ie rfl,Ie rfl];refine agF h (λi y hy=>?_);rw[QG,hy,NF,yH,cond_true]
def vF(x:ByteArray):BD x.data.toList x.data.toList=true:=by rw[Yv];simp
def aSS:∀(q:Nat) (e:Nd),Cr e<=q->Cr e<=1000000->Vd e->Hl q e e=some true:=by
 intro q
 induction q with
 | zero=>intro e h;have:=Cu e;omega
 | succ q ih =>
   intro e hq hz ho;have he:=Cu e;have hl:=Ja e.kids;obtain⟨h1,h2⟩:=(MM e).1 ho;rw[Hl,SE,Ie rfl,vF,vF,Ie rfl,Ie rfl,Ie rfl,Ie rfl,Ie rfl,adF _ (by omega),NF,Ie rfl];dsimp only[cond];refine agF (by omega) (λi y hy=>?_);have hm:=bcH hy;have:=JE hm;rw[VI,hy,NF,ih y (by omega) (by omega) (h2 y hm),NF,cond_true]
def adH{e:Nd}(hz:Cr e<=1000000)(ho:Vd e):Hm e e=some true:=TN (Cr e) λq hq=>aSS q e hq hz ho
def avH:∀(q:Nat) (n:Nd),Cr n<=q->Cr n<=100000->FE q n=some (DO n):=by
 intro q
 induction q with
 | zero=>intro n h;have:=Cu n;omega
 | succ q ih =>
   intro n hq hz;have hsz:=Cu n;have hl:=Ja n.kids
   have key:∀(m:List Nd) (i:Nat) (acc:List Nd),(∀k∈m,k∈n.kids)->acc.length+m.length<=100000->Bs (ρ:=Nd) (λi y x=>PI (FE q) i y x) (λx=>x) m i acc=some (.inl (acc++m.map DO)):=by
     intro m
     induction m with
     | nil=>intro i acc _ _;simp[Bs]
     | cons y m ihm =>
       intro i acc hm hc;simp only[Yy] at hc;have hy:=JE (hm y (List.mem_cons_self ..));rw[Bs,PI,ih y (by omega) (by omega),NF,Dw (by omega),NF];have:=ihm (i+1) (acc++[DO y]) (λk hk=>hm k (List.mem_cons_of_mem _ hk)) (by simp only[V5,bfG];omega);dsimp only[NX];rw[this,atS];rfl
   rw[FE,Re,show Cs n.kids.length=λy:Option (List Nd⊕Nd)=>y from funext λy=>if_pos (by omega),bjJ,key n.kids 0 [] (λ_ h=>h) (by simp only[aOD];omega),Gp];rfl
def iF{n:Nd}(hz:Cr n<=100000):Gt n=some (DO n):=TN (Cr n) λq hq=>avH q n hq hz
def xI{n:Nd}(hs:Cr n<=10000)(hp:Vd n):GI n=some (DO n):=by
 unfold GI;rw[if_pos ⟨by rw[cL,cL,aMN];omega,hp⟩]
def aKB(n:Nd):DO (DO n)=DO n:=by
 refine Sk (p:=λn=>DO (DO n)=DO n) (λn ih=>?_) n;rw[Gp (DO n),OK,X4,X5,adM,awG,awH,iM,iN,K7,Gp n,List.map_map];congr 1;exact List.map_congr_left λk hk=>ih k hk
def aTI{f:Fn}(h:Zd f):∀(i:Nat) p,f.ps[i]?=some p->0<=p.fr:=by
 intro i
 induction i with
 | zero=>intro p hp;rw[h.2.2.1 p hp];omega
 | succ i ih =>
   intro p hp;have hi:i < f.ps.length:=by have:=(abH.1 hp).1;omega
   have h1:=(h.2.2.2 (i+1) p hp).2.1 f.ps[i] (by omega) (abI hi);have:=ih _ (abI hi);omega
def axF{f:Fn}(h:Zd f):wY f/\f.ps.length<=64:=by
 refine⟨⟨by have:=h.2.1;omega,λy hy=>?_⟩,h.2.1.2⟩;obtain⟨i,hi⟩:=bmD hy;have h0:=aTI h i y hi;obtain⟨a1,_,_,a4,a5,a6,a7⟩:=h.2.2.2 i y hi;have hr:=h.1;unfold Iw at hr;rw[FG (by omega)] at a4;rw[FG (by omega)] at a5;exact⟨⟨by omega,by omega⟩,⟨by omega,by omega⟩,by omega,by omega⟩
def LZ{f:Fn}(h:f.ps=[]):wY f/\f.ps.length<=64:=by
 unfold wY;rw[h];exact⟨⟨by simp,λy hy=>(by cases hy)⟩,by simp⟩
def azU{n:Nd}(h:U3 n):wY n.BK/\n.BK.ps.length<=64:=by
 unfold U3 at h;rcases h with h | h | h | h | h | h | h | h
 exact LZ h.2.2.2.2.2.2.2.2.2.2.2.2.2;exact LZ h.2.2.2.2.2.2.2.2.2.2;exact LZ h.2.2.2.2.2.2.2.2.2.2;exact LZ h.2.2.2.2.2.2.2.2.2.2;exact LZ h.2.2.2.2.2.2.2.2.2;exact LZ h.2.1.2.2.2.2.2.2.2;exact LZ h.2.2.1.2.2.2.2.2.2.2;exact axF h.2.2.1
def pX(n:Nd):OQ n->Cr n<=1000000->GZ n/\Vd n:=by
 refine Sk (p:=λn=>OQ n->Cr n<=1000000->GZ n/\Vd n) (λn ih h hz=>?_) n;obtain⟨h1,h2⟩:=(MF n).1 h;obtain⟨t1,t2⟩:=azU h1;have hs:=Cu n;have hl:=Ja n.kids;exact⟨(Pf n).2 ⟨t1,by omega,λk hk=>(ih k hk (h2 k hk) (by have:=MY hk;omega)).1⟩,(MM n).2 ⟨by omega,λk hk=>(ih k hk (h2 k hk) (by have:=MY hk;omega)).2⟩⟩
def UO{n:Nd}(ht:n.BK.ps=[])(hk:n.kids.length=0):GZ n/\Vd n:=by
 have:=biP hk;obtain⟨t1,t2⟩:=LZ ht;exact⟨(Pf n).2 ⟨t1,by omega,by rw[this];exact λk hk=>(by cases hk)⟩,(MM n).2 ⟨by omega,by rw[this];exact λk hk=>(by cases hk)⟩⟩
def UP{n:Nd}(ht:n.BK.ps=[])(hz:Cr n<=1000000)(hk:∀k∈n.kids,GZ k/\Vd k):GZ n/\Vd n:=by
 obtain⟨t1,t2⟩:=LZ ht;have hs:=Cu n;have hl:=Ja n.kids;exact⟨(Pf n).2 ⟨t1,by omega,λk h=>(hk k h).1⟩,(MM n).2 ⟨by omega,λk h=>(hk k h).2⟩⟩
def uS{n:Nd}(h:BO n)(hz:Cr n<=1000000):GZ n/\Vd n:=by
 refine UP h.1.2.2.2.2.2.2.2 hz λk hk=>pX k ?_ (by have:=MY hk;omega);by_cases h7:n.kind=7;exact((h.2.1 h7).2 k hk).1;exact(h.2.2 h7).2 k hk
def akL{n:Nd}(h:GD n)(hz:Cr n<=1000000):GZ n/\Vd n:=by
 rcases h with h | h | h
 exact UO h.2.2.2.2.2.2.2.2.2.2.2 h.2.2.2.1;exact UO h.2.2.2.2.2.2.2.2.2.2.2.2.2 h.2.2.2.2.2.1;obtain⟨_,_,hb,hd,cs,hk,_,_,_,hh,hc⟩:=h.2;refine UP hb.2.2.2.2.2.2.2 hz λk hm=>?_;have:=MY hm;rw[hk] at hm;rcases biX.1 hm with rfl | hm
 exact UO hh.2.2.2.2.2.2.2.2.2.2.2.2.2 hh.2.2.1;exact uS (hc k hm) (by omega)
mutual
def orN(hi:Int):Nd->Prop
 | ⟨_,_,_,_,_,_,_,_,kids,Bc⟩=>Bc<=hi/\orL hi Bc kids
def orL(hi lo:Int):List Nd->Prop
 | []=>True
 | k::ks=>(lo<=k.Bc/\orN hi k)/\orL hi lo ks
end
def So(hi:Int):List Tk->Prop
 | []=>True
 | t::s=>t.Bc<=hi/\(∀u∈s,t.Bc<=u.Bc)/\So hi s
def Lo(l:List Tk)(x:Int):Prop:=∀t∈l,x<=t.Bc
section
variable {α β:Type} {hi x y:Int} {P:α->List Tk->Prop} {P2:β->List Tk->Prop}
def Vo(hi x:Int)(P:α->List Tk->Prop)(m:Rd α):Prop:=∀⦃l:List Tk⦄ ⦃a:α⦄ ⦃s:List Tk⦄,So hi l->Lo l x->m l=some (.inl a,s)->P a s/\So hi s/\Lo s x
end
section
variable {hi x y en:Int}
abbrev PN(hi x:Int):Nd->List Tk->Prop:=λn s=>orN hi n/\x<=n.Bc/\Lo s n.Bc
abbrev T2{α:Type}:α->List Tk->Prop:=λ_ _=>True
abbrev PL(hi x:Int):List Nd->List Tk->Prop:=λl _=>∀a∈l,x<=a.Bc/\orN hi a
def Vx(hi:Int)(m:Rd Nd):Prop:=∀x,Vo hi x (PN hi x) m
structure VoE(hi:Int)(g:Ek->Rd Nd)(li:Rd (List Nd)):Prop where
 og:∀e,(∀t,e≠.wd t)->Vx hi (g e)
 ow:∀⦃t:Tk⦄ ⦃l s:List Tk⦄ ⦃a:Nd⦄ (x:Int),So hi (t::l)->x<=t.Bc->g (.wd t) (t::l)=some (.inl a,s)->PN hi x a s/\So hi s/\Lo s x
 oli:∀x,Vo hi x (PL hi x) li
end
end Mo
end Go.Proofs.YtpbkhogolfegfaaGreatDoor
namespace Go.Proofs.YtpbkhogolfegfaaGreatDoor
open AI Go LexS
namespace Mo
set_option maxRecDepth 100000
set_option maxHeartbeats 4000000
def xH(n:Nd):Vd n->Vd (DO n):=by
 refine Sk (p:=λn=>Vd n->Vd (DO n)) (λn ih h=>?_) n;obtain⟨h1,h2⟩:=(MM n).1 h;refine(MM _).2 ⟨by rw[iN];exact h1,λk hk=>?_⟩;rw[K7] at hk;obtain⟨y,hy,rfl⟩:=blE.1 hk;exact ih y hy (h2 y hy)
end Mo
end Go.Proofs.YtpbkhogolfegfaaGreatDoor
namespace Go.Proofs.YtpbkhogolfegfaaGreatDoor
open AI Go
namespace Mo
set_option maxRecDepth 100000
set_option maxHeartbeats 4000000
@[irreducible] def peV(s:ByteArray):Nd×List Dg:=match OP ((s.data.toList.length:Nat):Int) (FR s) with
 | some x=>aUW x
 | none=>(z0,[])
@[irreducible] def ppV(s:ByteArray):Nd×List Dg:=match Vn ((s.data.toList.length:Nat):Int) ((FR s).length+1) (FR s) [] [] with
 | some x=>aUX x.1 x.2
 | none=>(z0,[])
def aCU{s:ByteArray}(h:Q3 s=0):BG s=some (peV s):=by
 obtain⟨r,l,h1,h2⟩:=agY h;unfold peV;rw[h1];exact h2
def aZG{s:ByteArray}(h:Q3 s=0):C7 s=some (ppV s):=by
 obtain⟨ks,ds,h1,h2,_⟩:=agX h;unfold ppV;rw[h1];exact h2
abbrev t1:=EU
abbrev t6:=Ak
def aJS(n:Nd):Vd (DO n)->Vd n:=by
 refine Sk (p:=λn=>Vd (DO n)->Vd n) (λn ih h=>?_) n;obtain⟨h1,h2⟩:=(MM _).1 h;rw[iN] at h1;refine(MM n).2 ⟨h1,λk hk=>ih k hk (h2 _ ?_)⟩;rw[K7];exact blE.2 ⟨k,hk,rfl⟩
mutual
def ntN:Nd->Bool
 | ⟨_,_,_,_,_,_,_,t,ks,_⟩=>cond t.ps.isEmpty (ntL ks) false
def ntL:List Nd->Bool
 | []=>true
 | k::ks=>cond (ntN k) (ntL ks) false
end
def Yn{a b:Bool}(h:cond a b false=true):a=true/\b=true:=by cases a<;>simp_all
def agT{k:Nd}:∀{l:List Nd},ntL l=true->k∈l->ntN k=true
 | x::l,h,hm=>by
   obtain⟨h1,h2⟩:=Yn (show cond _ _ _=true from h);rcases biX.1 hm with rfl | hm
   exact h1;exact agT h2 hm
def aJN(n:Nd):ntN n=true->Cr n<=1000000->GZ n/\Vd n:=by
 refine Sk (p:=λn=>ntN n=true->Cr n<=1000000->GZ n/\Vd n) (λn ih h hz=>?_) n;have e:ntN n=cond n.BK.ps.isEmpty (ntL n.kids) false:=by cases n;rfl
 rw[e] at h;obtain⟨h1,h2⟩:=Yn h;exact UP (List.isEmpty_iff.1 h1) hz λk hk=>ih k hk (agT h2 hk) (by have:=MY hk;omega)
def apV{n:Nd}{z:Int}(hn:ntN n=true)(hz:Cr n<=1000000)(h:An 40 ⟨0⟩ n 0=some (true,z)):OQ n:=by
 obtain⟨z',h1,_⟩:=abB (aJN n hn hz).1 0 0 (by omega) (by omega) (by omega) (by omega);have h2:Ff ⟨0⟩ n 0=some (true,z):=pW (λq=>(bG q).1 _ _ _) h;rw[h2] at h1;simp only[aOE,Prod.mk.injEq] at h1;exact(BP.1 h1.1.symm).1
def atT{s:ByteArray}(h:Dl s=some true):JW s:=BP.1 (by rw[qF] at h;exact bjE h)
def aTO{s:ByteArray}(h:D6 s=some true):Kw s:=BP.1 (by rw[rT] at h;exact bjE h)
def baB:OQ (peV t1).1/\(peV t1).1.kind=16/\Cr (peV t1).1<=100/\Mq (peV t1).1<=30 :=
 ⟨apV (z:=8) (by kernel_rfl) (bcG (by kernel_rfl)) (by kernel_rfl),by kernel_rfl,bcG (by kernel_rfl),bcG (by kernel_rfl)⟩
def kd(n:Nd)(i:Nat):Nd:=n.kids.getD i z0
def s6:Nd:=(ppV t6).1
def bfV:GD (kd s6 0):=(it3 (by kernel_rfl)).2 ⟨atT (by kernel_rfl),aTO (by kernel_rfl),by rw[show(kd s6 0).n=1 by kernel_rfl];decide,by rw[show(kd s6 0).n=1 by kernel_rfl];decide,by kernel_rfl,⟨by kernel_rfl,by kernel_rfl,by kernel_rfl,by kernel_rfl,by kernel_rfl,by kernel_rfl,by kernel_rfl,by kernel_rfl⟩⟩
def bfU:GD (kd s6 1):=(it4 (by kernel_rfl)).2 ⟨by rw[show(kd s6 1).n=3 by kernel_rfl];unfold Iw;decide,atT (by kernel_rfl),⟨by kernel_rfl,by kernel_rfl,by kernel_rfl,by kernel_rfl,by kernel_rfl,by kernel_rfl,by kernel_rfl,by kernel_rfl⟩,kd (kd s6 1) 0,[kd (kd s6 1) 1],by kernel_rfl,by
     intro c hc
     rw[bjB.1 hc,show(kd (kd s6 1) 1).kind=8 by kernel_rfl];decide,by kernel_rfl,bcG (by kernel_rfl),⟨by kernel_rfl,by rw[show(kd (kd s6 1) 0).n=1 by kernel_rfl];decide,by kernel_rfl,by
       rw[show(kd (kd s6 1) 0).fr=8766 by kernel_rfl];unfold uX;decide,by rw[show(kd (kd s6 1) 0).fr=8766 by kernel_rfl,show(kd (kd s6 1) 0).to=36525 by kernel_rfl];decide,by rw[show(kd (kd s6 1) 0).known=8766 by kernel_rfl];unfold uX;decide,⟨by kernel_rfl,by kernel_rfl,by kernel_rfl,by kernel_rfl,by kernel_rfl,by kernel_rfl,by kernel_rfl,by kernel_rfl⟩⟩,by
     intro c hc;rw[bjB.1 hc];refine⟨⟨by kernel_rfl,by kernel_rfl,by kernel_rfl,by kernel_rfl,by kernel_rfl,by kernel_rfl,by kernel_rfl,by kernel_rfl⟩,λh=>?_,λ_=>⟨by kernel_rfl,λk hk=>?_⟩⟩;rw[show(kd (kd s6 1) 1).kind=8 by kernel_rfl] at h;exact absurd h (by decide);rw[show(kd (kd s6 1) 1).kids=[kd (kd (kd s6 1) 1) 0] by kernel_rfl] at hk;rw[bjB.1 hk];exact apV (z:=1) (by kernel_rfl) (bcG (by kernel_rfl)) (by kernel_rfl)⟩
def aZS:GZ s6/\okV s6:=by
 have hk:∀k∈s6.kids,GD k:=λk hk=>by
   rw[show s6.kids=[kd s6 0,kd s6 1] by kernel_rfl] at hk;rcases biX.1 hk with rfl | hk
   exact bfV;rw[bjB.1 hk];exact bfU
 refine⟨(aJN s6 (by kernel_rfl) (bcG (by kernel_rfl))).1,.inl ⟨by kernel_rfl,⟨by kernel_rfl,by kernel_rfl,by kernel_rfl,by kernel_rfl,by kernel_rfl,by kernel_rfl,by kernel_rfl,by kernel_rfl⟩,hk⟩,bcG (by kernel_rfl),bcG (by kernel_rfl)⟩
def akE:LR=some true:=by
 obtain⟨e1,k1,z1,d1⟩:=baB;obtain⟨ok1,ps1⟩:=pX _ e1 (by omega);have v1:okV (peV t1).1:=⟨.inr ⟨by omega,e1⟩,by omega,by omega⟩;have v6:GZ (ppV t6).1/\okV (ppV t6).1:=aZS;have Fl:Gt (peV t1).1=some (DO (peV t1).1):=iF (by omega);have hsm:Hm (DO (peV t1).1) (DO (peV t1).1)=some true:=adH (by have:=X6 (peV t1).1;omega) (xH _ ps1);have hv6:Eb (ppV t6).1=some true:=by rw[sT v6.1,BP.2 v6.2]
 have hv1:Eb (DO (peV t1).1)=some true:=by rw[sT (aYX ok1),BP.2 ((aRS _).2 v1)]
 have hva:Eb ⟨12,VV,V4,0,0,0,0,⟨0,[]⟩,[],0⟩=some false:=by
   rw[sT ((UO rfl rfl).1),LA];rintro⟨⟨h,_⟩ | ⟨_,h⟩,_⟩;exact absurd h (by decide)
   · have:=((MF _).1 h).1
     unfold U3 at this;rcases this with h | h | h | h | h | h | h | h
     exact absurd h.1 (by decide);exact h.2.1.2.2.1 (by unfold RD;simp)
     all_goals exact absurd h.1 (by decide)
 have h7:(⟨16,QR,V4,0,0,0,0,⟨0,[]⟩,[⟨16,Mg,V4,0,0,0,0,⟨0,[]⟩,[⟨11,V4,Cp,3,0,0,0,⟨0,[]⟩,[],0⟩,⟨12,aS,V4,0,0,0,0,⟨0,[]⟩,[],0⟩],0⟩,⟨15,V4,V4,0,0,0,0,⟨0,[]⟩,[⟨16,I4,V4,0,0,0,0,⟨0,[]⟩,[⟨12,bS,V4,0,0,0,0,⟨0,[]⟩,[],0⟩,⟨12,cS,V4,0,0,0,0,⟨0,[]⟩,[],0⟩],0⟩],0⟩],0⟩:Nd)=DO (peV t1).1:=by kernel_rfl
 unfold LR;rw[aCU (s:=t1) (by kernel_rfl)];simp only[aCU (s:=EF) (by kernel_rfl),aCU (s:=Nq) (by kernel_rfl),aCU (s:=Br) (by kernel_rfl),aZG (s:=Ed) (by kernel_rfl),aZG (s:=t6) (by kernel_rfl),JT,M8,NF];rw[h7];simp only[Fl,hsm,hv6,hv1,hva,NF];show(_:Option Bool)=some true
 kernel_rfl
end Mo
end Go.Proofs.YtpbkhogolfegfaaGreatDoor
namespace Go.Proofs.YtpbkhogolfegfaaGreatDoor
open AI Go LexS
namespace Mo
set_option maxRecDepth 100000
set_option maxHeartbeats 4000000
theorem byt{p:Nat->Bool}(h:(bjR 256).all p=true)(c:UInt8):p c.toNat=true:=List.all_eq_true.1 h _ (List.mem_range.2 c.toNat_lt)
theorem auL{o:Option Bool}{b:Bool}(h:(match o with | some x=>x == b | none=>false)=true):o=some b:=by
 cases o with
 | none=>cases h
 | some x=>rw[eq_of_beq h]
theorem aDC(c:UInt8):MP ((c.toNat:Nat):Int)=some (cin 1 c):=auL (byt (p:=λn=>match MP ((n:Nat):Int) with | some x=>x == ((KX n &&& 1) != 0) | none=>false) (by kernel_rfl) c)
theorem rW(c:UInt8):Ee ((c.toNat:Nat):Int)=some (cin 8 c):=auL (byt (p:=λn=>match Ee ((n:Nat):Int) with | some x=>x == ((KX n &&& 8) != 0) | none=>false) (by kernel_rfl) c)
theorem aDA(c:UInt8):EM ((c.toNat:Nat):Int)=some (cin 2 c):=auL (byt (p:=λn=>match EM ((n:Nat):Int) with | some x=>x == ((KX n &&& 2) != 0) | none=>false) (by kernel_rfl) c)
theorem rX(c:UInt8):Di ((c.toNat:Nat):Int)=some (cin 4 c):=auL (byt (p:=λn=>match Di ((n:Nat):Int) with | some x=>x == ((KX n &&& 4) != 0) | none=>false) (by kernel_rfl) c)
theorem auX(c:UInt8):Kj ((c.toNat:Nat):Int)=some (cin 30 c):=auL (byt (p:=λn=>match Kj ((n:Nat):Int) with | some x=>x == ((KX n &&& 30) != 0) | none=>false) (by kernel_rfl) c)
theorem aoH(c:UInt8):cin 30 c=(cin 2 c||(cin 4 c||(cin 8 c||cin 16 c))):=by
 have:=byt (p:=λn=>((KX n &&& 30) != 0) == (((KX n &&& 2) != 0)||(((KX n &&& 4) != 0)||(((KX n &&& 8) != 0)||((KX n &&& 16) != 0))))) (by kernel_rfl) c
 exact eq_of_beq this
theorem aoG(c:UInt8):cin 26 c=(cin 30 c&&!cin 4 c):=by
 have:=byt (p:=λn=>((KX n &&& 26) != 0) == (((KX n &&& 30) != 0)&&!((KX n &&& 4) != 0))) (by kernel_rfl) c
 exact eq_of_beq this
theorem aMR(c:UInt8)(h:cin 8 c=true):cin 2 c=false/\cin 4 c=false:=by
 have:=byt (p:=λn=>!((KX n &&& 8) != 0)||(!((KX n &&& 2) != 0)&&!((KX n &&& 4) != 0))) (by kernel_rfl) c
 have h':((KX c.toNat &&& 8) != 0)=true:=h
 rw[h'] at this
 simp only[Bool.not_true,Bool.false_or,bcA,bpK] at this
 exact this
theorem Xo(c d:UInt8):Bi ((c.toNat:Nat):Int) ((d.toNat:Nat):Int)=(c == d):=by
 rw[Bool.eq_iff_iff,O2,beq_iff_eq,beq_iff_eq]
 constructor
 · intro h;exact UInt8.toNat_inj.1 (by omega)
 · intro h;rw[h]
theorem aNB(c:UInt8):Bi ((c.toNat:Nat):Int) 10=(c == 10):=Xo c 10
theorem apL(c:UInt8):Bi ((c.toNat:Nat):Int) 46=(c == 46):=Xo c 46
theorem aNC(c:UInt8):Bi ((c.toNat:Nat):Int) 45=(c == 45):=Xo c 45
theorem aND(c:UInt8):Bi ((c.toNat:Nat):Int) 48=(c == 48):=Xo c 48
section
variable {s:ByteArray} (hs:s.data.toList.length<=100000)
theorem TS{α:Type}{l:List α}{i:Nat}:F9 l ((i:Nat):Int)=l[i]?:=by
 unfold F9;rw[if_pos (by omega)];rfl
theorem Mu{α:Type}(l:List α)(k:Nat):(l.length<=k/\l.drop k=[])\/∃x,k < l.length/\l[k]?=some x/\l.drop k=x::l.drop (k+1):=by
 rcases blL k l.length with h | h
 · exact .inr ⟨l[k],h,abI h,List.drop_eq_getElem_cons h⟩
 · exact .inl ⟨h,bjL h⟩
theorem RW{a b:Nat}(h1:a<=b)(h2:b<=s.data.toList.length):RV s (a:Int) (b:Int)=some ⟨((s.data.toList.drop a).take (b - a)).toArray⟩:=by
 unfold RV
 rw[if_pos ⟨by omega,by omega,by omega⟩]
 rfl
theorem yN{b:Int->Option (Lp Int Int Int)}{m:Nat}(hb:∀(k:Nat) c,s.data.toList[k]?=some c->b (k:Int)=if cin m c then some (.nx ((k+1:Nat):Int)) else some (.ex (k:Int)))(he:∀k:Nat,s.data.toList.length<=k->b (k:Int)=some (.ex (k:Int))) :
   ∀(j k:Nat),s.data.toList.length - k<=j->DP b (j+1) (k:Int)=some (.inl ((k+Bf m (s.data.toList.drop k):Nat):Int)):=by
 intro j
 induction j with
 | zero =>
   intro k hk
   show(b (k:Int)).bind _=_
   rw[he k (by omega),bjL (by omega)];rfl
 | succ j ih =>
   intro k hk
   show(b (k:Int)).bind _=_
   rcases Mu s.data.toList k with ⟨h1,h2⟩ | ⟨c,h1,h2,h3⟩
   · rw[he k h1,h2];rfl
   · rw[hb k c h2,h3,D2]
     by_cases hc:cin m c=true
     · rw[if_pos hc,if_pos hc]
       show DP b (j+1) ((k+1:Nat):Int)=_
       rw[ih (k+1) (by omega)]
       congr 2
       omega
     · rw[if_neg hc,if_neg hc];rfl
include hs
theorem aJW{k:Nat}(hk:k<=100000):Lw s (k:Int)=some ((k+Bf 30 (s.data.toList.drop k):Nat):Int):=by
 unfold Lw
 rw[EI (yN (s:=s) (m:=30) (b:=λx=>OE s x) (λk c hc=>?_) (λk hk=>?_) _ k (aOC _)),NF]
 · rfl
 · have hlt:=(abH.1 hc).1
   unfold OE
   rw[G4 (by omega),TS,hc]
   dsimp only[cond,bjU]
   rw[auX,Ca (by omega)]
   cases cin 30 c<;>rfl
 · unfold OE
   rw[DQ (by omega)];rfl
theorem xR{k:Nat}(hk:k<=100000):EX s (k:Int)=some ((k+Bf 8 (s.data.toList.drop k):Nat):Int):=by
 unfold EX
 rw[EI (yN (s:=s) (m:=8) (b:=λx=>K2 s x) (λk c hc=>?_) (λk hk=>?_) _ k (aOC _)),NF]
 · rfl
 · have hlt:=(abH.1 hc).1
   unfold K2
   rw[G4 (by omega),TS,hc]
   dsimp only[cond,bjU]
   rw[rW,Ca (by omega)]
   cases cin 8 c<;>rfl
 · unfold K2
   rw[DQ (by omega)];rfl
theorem xQ{k:Nat}{t:ByteArray}(hk:k<=s.data.toList.length)(ht:t.data.toList.length<=100000):Iy s (k:Int) t=some (t.data.toList.isPrefixOf (s.data.toList.drop k)):=by
 unfold Iy
 rw[NI,FH (by omega)]
 by_cases h:k+t.data.toList.length<=s.data.toList.length
 · rw[fQ (by omega),Ca (by omega)]
   dsimp only[cond]
   rw[show(k:Int)+((t.data.toList.length:Nat):Int)=((k+t.data.toList.length:Nat):Int) by omega,RW (by omega) h,NF,show k+t.data.toList.length - k=t.data.toList.length by omega,Yv]
   dsimp only
   rw[blF]
   cases List.take t.data.toList.length (List.drop k s.data.toList) == t.data.toList<;>rfl
 · rw[XD (by omega)]
   dsimp only[cond]
   congr 1
   symm
   apply beq_false_of_ne
   intro e
   have:=congrArg blU e
   rw[bjG,biR] at this
   omega
omit hs in
theorem acU{k:Nat}(hk:k<=s.data.toList.length):DW s (k:Int)=some (free (s.data.toList.drop k)):=by
 unfold DW free
 rcases Mu s.data.toList k with ⟨h1,h2⟩ | ⟨c,h1,h2,h3⟩
 · rw[fQ (by omega),h2];rfl
 · rw[XD (by omega),TS,h2,h3]
   dsimp only[cond,bjU,F7,boU]
   rw[auX,apL]
   dsimp only
   have:(some c == some (46:UInt8))=(c == 46):=rfl
   rw[this]
   cases cin 30 c<;>cases c == 46<;>rfl
def RF(t:List UInt8):Nat:=(t.takeWhile (λc=>c != 10)).length
omit hs in
theorem YI(c:UInt8)(t:List UInt8):RF (c::t)=if c == 10 then 0 else 1+RF t:=by
 unfold RF
 rw[List.takeWhile_cons,bne]
 cases c == 10
 · simp only[Bool.not_false,if_true,Yy,biT,if_false];omega
 · rfl
omit hs in
theorem ajW(t:List UInt8):IK true t=RF t+IK false (t.drop (RF t)):=by
 induction t with
 | nil=>rfl
 | cons c t ih =>
   rw[YI]
   by_cases hc:c=10
   · subst hc
     exact(vM t).trans (by simp)
   · have:(c == 10)=false:=beq_false_of_ne hc
     rw[this,aqE c t hc,ih,if_neg (by simp),bmY 1 (RF t),List.drop_succ_cons]
     omega
theorem aSF:∀(j k:Nat),s.data.toList.length - k<=j->k<=s.data.toList.length->DP (λx=>FD s x) (j+1) (k:Int)=some (.inl ((k+RF (s.data.toList.drop k):Nat):Int)):=by
 have stop:∀k:Nat,s.data.toList.length<=k->FD s (k:Int)=some (.ex (k:Int)):=λk h=>by
   unfold FD
   rw[DQ (by omega)];rfl
 intro j
 induction j with
 | zero =>
   intro k hk hl
   show(FD s (k:Int)).bind _=_
   rw[stop k (by omega),bjL (by omega)];rfl
 | succ j ih =>
   intro k hk hl
   show(FD s (k:Int)).bind _=_
   rcases Mu s.data.toList k with ⟨h1,h2⟩ | ⟨c,h1,h2,h3⟩
   · rw[stop k h1,h2];rfl
   · have:FD s (k:Int)=if (c == 10)=true then some (.ex (k:Int)) else some (.nx ((k+1:Nat):Int)):=by
       unfold FD
       rw[G4 (by omega),TS,h2]
       dsimp only[cond,bjU]
       rw[aNB,Ca (by omega)]
       cases c == 10<;>rfl
     rw[this,h3,YI]
     cases c == 10
     · show DP (λx=>FD s x) (j+1) ((k+1:Nat):Int)=_
       rw[ih (k+1) (by omega) (by omega)]
       congr 2
       simp only[biT,if_false]
       omega
     · rfl
omit hs in
theorem atB(t:List UInt8):RF t<=t.length:=(List.takeWhile_sublist _).length_le
theorem alH:∀(j k:Nat),s.data.toList.length - k<=j->k<=s.data.toList.length->∃r,DP (λx=>Ef s x) (j+1) (k:Int)=some r/\(r=.inl ((k+IK false (s.data.toList.drop k):Nat):Int)\/r=.inr ((k+IK false (s.data.toList.drop k):Nat):Int)):=by
 have stop:∀k:Nat,s.data.toList.length<=k->Ef s (k:Int)=some (.ex (k:Int)):=λk h=>by
   unfold Ef
   rw[DQ (by omega)];rfl
 intro j
 induction j with
 | zero =>
   intro k hk hl
   refine⟨.inl (k:Int),?_,.inl ?_⟩
   · show(Ef s (k:Int)).bind _=_
     rw[stop k (by omega)];rfl
   · rw[bjL (by omega)];rfl
 | succ j ih =>
   intro k hk hl
   rcases Mu s.data.toList k with ⟨h1,h2⟩ | ⟨c,h1,h2,h3⟩
   · refine⟨.inl (k:Int),?_,.inl ?_⟩
     · show(Ef s (k:Int)).bind _=_
       rw[stop k h1];rfl
     · rw[h2];rfl
   · have e:Ef s (k:Int)=cond (cin 1 c) (some (.nx ((k+1:Nat):Int))) (cond (([47,47]:List UInt8).isPrefixOf (s.data.toList.drop k)) (some (.nx ((k+RF (s.data.toList.drop k):Nat):Int))) (some (.rt (k:Int)))):=by
       unfold Ef
       rw[G4 (by omega),TS,h2]
       dsimp only[cond,bjU]
       rw[aDC,Ca (by omega)]
       dsimp only
       rw[xQ hs hl (show(acS).data.toList.length<=100000 by decide)]
       rw[show(acS).data.toList=[47,47] from rfl]
       dsimp only
       rw[EI (aSF hs _ k (aOC _) hl)]
       rfl
     cases hw:cin 1 c with
     | true =>
       obtain⟨r,h4,h5⟩:=ih (k+1) (by omega) (by omega)
       refine⟨r,?_,?_⟩
       · show(Ef s (k:Int)).bind _=_
         rw[e,hw]
         exact h4
       · have:k+IK false (s.data.toList.drop k)=k+1+IK false (s.data.toList.drop (k+1)):=by
           rw[h3]
           show k+(if false=true then _ else if cin 1 c=true then 1+IK false (s.data.toList.drop (k+1)) else _)=_
           rw[if_neg (by simp),if_pos hw];omega
         rw[this];exact h5
     | false =>
       cases hp:([47,47]:List UInt8).isPrefixOf (s.data.toList.drop k) with
       | false =>
         refine⟨.inr (k:Int),?_,.inr ?_⟩
         · show(Ef s (k:Int)).bind _=_
           rw[e,hw,hp];rfl
         · rw[vN _ (by rw[h3];exact hw) hp];rfl
       | true =>
         have hl2:1<=RF (s.data.toList.drop k):=by
           rw[h3] at hp ⊢
           rw[YI]
           have:c=47:=by
             have:=hp
             simp only[blM,bcA] at this
             exact(eq_of_beq this.1).symm
           rw[this,if_neg (by decide)];omega
         have hl3:=atB (s.data.toList.drop k)
         rw[biR] at hl3
         obtain⟨r,h4,h5⟩:=ih (k+RF (s.data.toList.drop k)) (by omega) (by omega)
         refine⟨r,?_,?_⟩
         · show(Ef s (k:Int)).bind _=_
           rw[e,hw,hp]
           exact h4
         · have:k+IK false (s.data.toList.drop k)=k+RF (s.data.toList.drop k)+IK false (s.data.toList.drop (k+RF (s.data.toList.drop k))):=by
             rw[Zv _ hp,ajW,bjD];omega
           rw[this];exact h5
theorem auW{k:Nat}(hk:k<=s.data.toList.length):Ki s (k:Int)=some ((k+Gc (s.data.toList.drop k):Nat):Int):=by
 obtain⟨r,h1,h2⟩:=alH hs _ k (aOC _) hk
 unfold Ki
 rw[EI h1,NF]
 rcases h2 with rfl | rfl<;>rfl
omit hs in
theorem aMW(t:List UInt8):EN t=(decide (10<=t.length)&&(bqM 0 10).all (FM t)):=by
 unfold EN;rw[List.range_eq_range']
theorem aSE{k:Nat}(hk:k<=s.data.toList.length):OC s (k:Int)=some (EN (s.data.toList.drop k)):=by
 rw[aMW]
 unfold OC
 rw[FH (by omega),biR]
 by_cases hl:10<=s.data.toList.length - k
 · rw[DQ (by omega),decide_eq_true hl]
   dsimp only[cond]
   rw[boO]
   have rnd:∀i:Nat,i < 10->HV s (k:Int) (i:Int)=if FM (s.data.toList.drop k) i=true then some (.nx ((i+1:Nat):Int)) else some (.rt false):=by
     intro i hi
     obtain⟨c,hc⟩:∃c,s.data.toList[k+i]?=some c:=⟨_,abI (by omega)⟩
     have qI:(s.data.toList.drop k)[i]?=some c:=by rw[List.getElem?_drop];exact hc
     unfold HV
     rw[G4 (by omega),Ca (by omega),show(k:Int)+(i:Int)=((k+i:Nat):Int) by omega,TS,hc]
     dsimp only[cond,bjU]
     rw[aNC,rW,Ca (by omega)]
     have e:(some c == some (45:UInt8))=(c == 45):=rfl
     have aVO:i=4\/i=7->FM (s.data.toList.drop k) i=(c == 45):=λh=>by
       unfold FM
       rw[if_pos h,qI,e]
     by_cases h4:i=4
     · rw[Ie (by omega),aVO (Or.inl h4)]
       cases c == 45<;>rfl
     rw[Kr (by omega)]
     by_cases h7:i=7
     · rw[Ie (by omega),aVO (Or.inr h7)]
       cases c == 45<;>rfl
     rw[Kr (by omega)]
     have dg:FM (s.data.toList.drop k) i=cin 8 c:=by
       unfold FM
       rw[if_neg (by omega)]
       rw[<- bmM] at qI
       cases hd:(s.data.toList.drop k).drop i with
       | nil=>rw[hd] at qI;cases qI
       | cons a l=>rw[hd] at qI;cases qI;rfl
     rw[dg]
     cases cin 8 c<;>rfl
   have key:∀d i:Nat,i+d=10->DP (λx=>HV s (k:Int) x) (d+1) (i:Int)=some (if (bqM i d).all (FM (s.data.toList.drop k))=true then .inl () else .inr false):=by
     intro d
     induction d with
     | zero =>
       intro i hi
       show(HV s (k:Int) (i:Int)).bind _=_
       unfold HV
       rw[DQ (by omega)];rfl
     | succ d ih =>
       intro i hi
       show(HV s (k:Int) (i:Int)).bind _=_
       rw[rnd i (by omega),List.range'_succ,bnA]
       by_cases hd:FM (s.data.toList.drop k) i=true
       · rw[if_pos hd,hd,boO]
         exact ih (i+1) (by omega)
       · rw[if_neg hd,bpN.2 hd];rfl
   have:=key 10 0 rfl
   rw[show((0:Nat):Int)=0 from rfl] at this
   rw[EI this,NF]
   cases (bqM 0 10).all (FM (s.data.toList.drop k))<;>rfl
 · rw[G4 (by omega),decide_eq_false hl];rfl
end
theorem alN(t:List UInt8)(h:F7 8 t=false):Bf 8 t=0:=by
 cases t with
 | nil=>rfl
 | cons c t=>rw[D2,if_neg (by have:cin 8 c=false:=h;simp[this])]
theorem awE(u:List UInt8)(hf:free (u.drop 2)=true)(h1:F7 8 u=true)(h2:F7 8 (u.drop 1)=true):Bf 8 u=2:=by
 match u,h1,h2 with
 | [c],_,h2=>simp[F7] at h2
 | c::d::v,h1,h2 =>
   have e1:cin 8 c=true:=h1;have e2:cin 8 d=true:=h2;rw[D2,if_pos e1,D2,if_pos e2]
   have e3:Bf 8 v=0:=by
     apply alN;cases v with
     | nil=>rfl
     | cons x v =>
       have jV:free (x::v)=true:=hf;unfold free F7 at jV;dsimp only at jV;rw[aoH] at jV;show cin 8 x=false;cases hx:cin 8 x with
       | false=>rfl
       | true=>rw[hx] at jV;simp at jV
   omega
theorem axS(u:List UInt8)(h:Bf 8 u=2):F7 8 u=true/\F7 8 (u.drop 1)=true:=by
 match u,h with
 | [],h=>simp[Y6] at h
 | [c],h =>
   rw[D2] at h;split at h;rw[Y6] at h;omega;omega
 | c::d::v,h =>
   rw[D2] at h;by_cases hc:cin 8 c=true;rw[if_pos hc,D2] at h;by_cases hd:cin 8 d=true;exact⟨hc,hd⟩;rw[if_neg hd] at h;omega;rw[if_neg hc] at h;omega
theorem dZ(t:List UInt8)(d e:Nat)(hd:d=Bf 8 t)(he:e=Bf 8 (t.drop (d+1)))(hn:EN t=false)(kM:(t.drop d).head?=some 46) :
   IX t=if ¬(t.head?=some 48/\1 < d)/\d<=10/\e=2/\free (t.drop (d+3))=true then (4,d+3) else (0,0):=by
 unfold IX;simp only[hn,biT,if_false,<- hd];by_cases h1:t.head?=some 48/\1 < d;rw[if_pos h1,if_neg (λh=>h.1 h1)];rw[if_neg h1,if_pos kM];by_cases h2:10 < d\/F7 8 (t.drop (d+1))=false\/F7 8 (t.drop (d+2))=false;rw[if_pos h2,if_neg];rintro⟨_,h3,h4,_⟩;rw[he] at h4;have:=axS _ h4;rw[bjD] at this;rcases h2 with h | h | h
 omega;rw[h] at this;simp at this;rw[show d+1+1=d+2 from rfl,h] at this;simp at this;rw[if_neg h2]
 have i1:F7 8 (t.drop (d+1))=true:=by
   cases hh:F7 8 (t.drop (d+1)) with
   | true=>rfl
   | false=>exact absurd (.inr (.inl hh)) h2
 have i2:F7 8 (t.drop (d+2))=true:=by
   cases hh:F7 8 (t.drop (d+2)) with
   | true=>rfl
   | false=>exact absurd (.inr (.inr hh)) h2
 by_cases h3:free (t.drop (d+3))=true
 have h5:e=2:=by
   rw[he];refine awE _ ?_ i1 ?_;rw[bjD];exact h3;rw[bjD];exact i2
 rw[if_pos h3,if_pos ⟨h1,by omega,h5,h3⟩];rw[if_neg h3,if_neg (λh=>h3 h.2.2.2)]
theorem eA(t:List UInt8)(d:Nat)(hd:d=Bf 8 t)(hn:EN t=false)(kM:¬(t.drop d).head?=some 46) :
   IX t=if ¬(t.head?=some 48/\1 < d)/\d<=12/\free (t.drop d)=true then (3,d) else (0,0):=by
 unfold IX;simp only[hn,biT,if_false,<- hd];by_cases h1:t.head?=some 48/\1 < d;rw[if_pos h1,if_neg (λh=>h.1 h1)];rw[if_neg h1,if_neg kM];by_cases h2:12 < d;rw[if_pos h2,if_neg (λh=>by omega)];rw[if_neg h2];by_cases h3:free (t.drop d)=true;rw[if_pos h3,if_pos ⟨h1,by omega,h3⟩];rw[if_neg h3,if_neg (λh=>h3 h.2.2)]
def Me(r:Nat×Nat)(t:List UInt8)(k:Nat)(x:Tk×Bool):Prop:=(x.2=true->r.1≠0/\x.1=JV (r.1,t.take r.2,k))/\(x.2=false->r.1=0)
theorem Me.no{t:List UInt8}{k:Nat}{x:Tk}:Me (0,0) t k (x,false):=⟨λh=>(by cases h),λ_=>rfl⟩
theorem Me.yes{q n:Nat}(hq:q≠0){t:List UInt8}{k:Nat}:Me (q,n) t k (JV (q,t.take n,k),true):=⟨λ_=>⟨hq,rfl⟩,λh=>(by cases h)⟩
theorem Me.if{p:Prop}[Decidable p]{b:Bool}(hp:p↔b=true){q n:Nat}(hq:q≠0){t:List UInt8}{k:Nat}:Me (if p then (q,n) else (0,0)) t k (JV (q,t.take n,k),b):=by
 cases b;rw[if_neg (λh=>by cases hp.1 h)];exact Me.no;rw[if_pos (hp.2 rfl)];exact Me.yes hq
section
variable {s:ByteArray} (hs:s.data.toList.length<=100000)
include hs
theorem atZ{k d e:Nat}(hk:k+d<=s.data.toList.length)(he:e=Bf 8 ((s.data.toList.drop k).drop (d+1)))(A:Int->ByteArray->Option (Tk×Bool))(B:ByteArray->Option (Tk×Bool)) :
   cond (Dd ((k+d:Nat):Int) ((s.data.toList.length:Nat):Int)) ((F9 s.data.toList ((k+d:Nat):Int)).bind λc=>cond (Bi ((c.toNat:Nat):Int) 46) ((EX s (Bh ((k+d:Nat):Int) 1)).bind λy6=>(RV s (k:Int) y6).bind λs7=>A y6 s7) ((RV s (k:Int) ((k+d:Nat):Int)).bind λs9=>B s9)) ((RV s (k:Int) ((k+d:Nat):Int)).bind λs11=>B s11)
     = if ((s.data.toList.drop k).drop d).head?=some 46 then A ((k+(d+1+e):Nat):Int) ⟨((s.data.toList.drop k).take (d+1+e)).toArray⟩ else B ⟨((s.data.toList.drop k).take d).toArray⟩:=by
 rw[RW (by omega) hk,show k+d - k=d by omega];rcases Mu s.data.toList (k+d) with ⟨h1,h2⟩ | ⟨c,h1,h2,h3⟩
 rw[DQ (by omega),bjD,h2,if_neg (by simp)];rfl;rw[G4 (by omega),TS,h2,bjD,h3,boU];dsimp only[cond,bjU];rw[apL];by_cases hc:c=46;subst hc;rw[if_pos rfl,Ca (by omega),show((k+d:Nat):Int)+1=((k+d+1:Nat):Int) by omega,xR hs (by omega)];have e1:k+d+1+Bf 8 (s.data.toList.drop (k+d+1))=k+(d+1+e):=by rw[he,bjD,blQ k d 1];omega
 rw[e1];have e2:=MW 8 ((s.data.toList.drop k).drop (d+1));rw[<- he,bjD,biR] at e2;dsimp only;rw[RW (by omega) (by omega),show k+(d+1+e) - k=d+1+e by omega];rfl;rw[if_neg (by simpa using hc)]
 have:(c == 46)=false:=beq_false_of_ne hc;rw[this]
theorem alG{k:Nat}(hk:k < s.data.toList.length)(h8:F7 8 (s.data.toList.drop k)=true):∃x,K3 s (k:Int)=some x/\Me (IX (s.data.toList.drop k)) (s.data.toList.drop k) k x:=by
 unfold K3;rw[aSE hs (by omega),NF];generalize ht:s.data.toList.drop k=t at *;have hlt:t.length=s.data.toList.length - k:=by rw[<- ht,biR]
 cases hd:EN t with
 | true =>
   have hl10:10<=t.length:=by
     unfold EN at hd;rw[bcA] at hd;exact of_decide_eq_true hd.1
   dsimp only[cond];rw[Ca (by omega),show(k:Int)+10=((k+10:Nat):Int) by omega,RW (by omega) (by omega),NF,acU (by omega),NF,show k+10 - k=10 by omega,ht];refine⟨_,rfl,?_⟩;unfold IX;rw[if_pos hd,<- bjD,ht];exact Me.if Iff.rfl (by decide)
 | false =>
   rw[cond_false,xR hs (by omega),NF,ht];generalize hde:Bf 8 t=d at *;have hd1:1<=d:=by rw[<- hde];exact Xx 8 t h8
   have hdl:d<=t.length:=by rw[<- hde];exact MW 8 t
   obtain⟨e,he⟩:∃e,e=Bf 8 ((s.data.toList.drop k).drop (d+1)):=⟨_,rfl⟩;have tail:=atZ hs (k:=k) (d:=d) (e:=e) (by omega) he;rw[ht] at tail he;have hel:=MW 8 (t.drop (d+1));rw[<- he,biR] at hel;rw[Ca (a:=(k:Int)) (by omega)];obtain⟨c,hc⟩:∃c,s.data.toList[k]?=some c:=⟨_,abI hk⟩;have hh:t.head?=some c:=by rw[<- ht,bmM];exact hc
   have aWG:¬(t.head?=some 48/\1 < d)->∃x,(if (t.drop d).head?=some 46 then
       (cond (LS (Ka ((k+d:Nat):Int) (k:Int)) 10) (cond (Bi ((k+(d+1+e):Nat):Int) (Bh ((k+d:Nat):Int) 3)) ((DW s ((k+(d+1+e):Nat):Int)).bind λy8=>some ((⟨4,⟨(t.take (d+1+e)).toArray⟩,(k:Int)⟩:Tk),y8)) (some ((⟨4,⟨(t.take (d+1+e)).toArray⟩,(k:Int)⟩:Tk),false))) (some ((⟨4,⟨(t.take (d+1+e)).toArray⟩,(k:Int)⟩:Tk),false)))
       else (cond (LS (Ka ((k+d:Nat):Int) (k:Int)) 12) ((DW s ((k+d:Nat):Int)).bind λZl=>some ((⟨3,⟨(t.take d).toArray⟩,(k:Int)⟩:Tk),Zl)) (some ((⟨3,⟨(t.take d).toArray⟩,(k:Int)⟩:Tk),false))))=some x/\Me (IX t) t k x:=by
     intro h0;rw[FH (by omega),show((k+d:Nat):Int) - (k:Int)=(d:Int) by omega];by_cases kM:(t.drop d).head?=some 46;rw[if_pos kM,dZ t d e hde.symm he hd kM]
     have biB:d < t.length:=by
       rcases blL d t.length with h | h
       exact h;rw[bjL h] at kM;cases kM
     by_cases h1:d<=10;rw[fQ (by omega),Ca (by omega)];dsimp only[cond];by_cases h2:e=2;subst h2;rw[Ie (by omega)];dsimp only;rw[acU (by omega),NF,<- bjD,ht];refine⟨_,rfl,?_⟩;exact Me.if (n:=d+3) ⟨λh=>h.2.2.2,λh=>⟨h0,h1,rfl,h⟩⟩ (by decide)
     rw[Kr (by omega),if_neg (λh=>h2 h.2.2.1)];exact⟨_,rfl,Me.no⟩;rw[XD (by omega),if_neg (λh=>h1 h.2.1)];exact⟨_,rfl,Me.no⟩;rw[if_neg kM,eA t d hde.symm hd kM];by_cases h1:d<=12;rw[fQ (by omega)];dsimp only[cond];rw[acU (by omega),NF,<- bjD,ht];refine⟨_,rfl,?_⟩;exact Me.if ⟨λh=>h.2.2,λh=>⟨h0,h1,h⟩⟩ (by decide)
     rw[XD (by omega),if_neg (λh=>h1 h.2.1)];exact⟨_,rfl,Me.no⟩
   by_cases h1:d=1;rw[Ie (by omega),cond_true,tail];exact aWG (λh=>by omega);rw[Kr (by omega),cond_false,TS,hc,NF,aND];by_cases h2:c=48;have e2:(c == 48)=true:=by rw[h2];rfl
   rw[e2,cond_true,tail (λ_ s16=>some ((⟨4,s16,(k:Int)⟩:Tk),false)) (λs17=>some ((⟨3,s17,(k:Int)⟩:Tk),false))];have h3:t.head?=some 48/\1 < d:=⟨by rw[hh,h2],by omega⟩
   have hf:IX t=(0,0):=by
     unfold IX;simp only[hd,biT,if_false];rw[hde,if_pos h3]
   rw[hf];split<;>exact⟨_,rfl,Me.no⟩
   have e2:(c == 48)=false:=beq_false_of_ne h2;rw[e2,cond_false,tail];exact aWG (λh=>by rw[hh] at h;exact h2 (bjE h.1))
omit hs in
theorem xC{p:UInt8->Bool}{v:Tk×Bool}{B:Nat}{b:Int->Option (Lp Int Unit (Tk×Bool))}(hB:B<=s.data.toList.length)(hb:∀(i:Nat) c,i < B->s.data.toList[i]?=some c->b (i:Int)=if p c then some (.nx ((i+1:Nat):Int)) else some (.rt v))(he:b (B:Int)=some (.ex ())) :
   ∀(n i:Nat),i+n=B->DP b (n+1) (i:Int)=some (if ((s.data.toList.drop i).take n).all p then .inl () else .inr v):=by
 intro n
 induction n with
 | zero =>
   intro i hi;rw[show i=B by omega];show(b (B:Int)).bind _=_;rw[he];rfl
 | succ n ih =>
   intro i hi;obtain⟨c,hc⟩:∃c,s.data.toList[i]?=some c:=⟨_,abI (by omega)⟩;show(b (i:Int)).bind _=_;rw[hb i c (by omega) hc];rcases Mu s.data.toList i with ⟨h1,h2⟩ | ⟨c',h1,h2,h3⟩
   omega;rw[hc] at h2;cases h2;rw[h3,bmS,bnA];cases hp:p c;rfl;rw[boO];exact ih (i+1) (by omega)
omit hs in
theorem yL{m:Nat}(hm:∀c,cin m c=true->cin 30 c=true)(t:List UInt8):(Bf m t=Bf 30 t)↔(t.take (Bf 30 t)).all (cin m)=true:=by
 induction t with
 | nil=>simp[Y6]
 | cons c t ih =>
   rw[D2,D2];by_cases hc:cin 30 c=true;rw[if_pos hc,bmY 1 (Bf 30 t),bmS,bnA];by_cases hcm:cin m c=true;rw[if_pos hcm,hcm,boO,<- ih];omega;rw[if_neg hcm,bpN.2 hcm,Bool.false_and];simp;rw[if_neg hc,if_neg (λh=>hc (hm c h))];simp
omit hs in
theorem aMA(t:List UInt8)(h:∀c∈t,cin 30 c=true):t.all (cin 26)=t.all (λc=>!cin 4 c):=by
 induction t with
 | nil=>rfl
 | cons c t ih=>rw[bnA,bnA,aoG,h c (by simp),ih (λx hx=>h x (by simp[hx]))];rfl
omit hs in
theorem amB(m:Nat)(t:List UInt8):∀c∈t.take (Bf m t),cin m c=true:=by
 induction t with
 | nil=>intro c hc;simp at hc
 | cons x t ih =>
   intro c hc;rw[D2] at hc;by_cases hx:cin m x=true;rw[if_pos hx,bmY,bmS] at hc;rcases biX.1 hc with rfl | hc
   exact hx;exact ih c hc;rw[if_neg hx] at hc;simp at hc
theorem aSG{k:Nat}(hk:k < s.data.toList.length)(h2:F7 2 (s.data.toList.drop k)=true):∃x,OD s (k:Int)=some x/\Me (Bt (s.data.toList.drop k)) (s.data.toList.drop k) k x:=by
 unfold OD Bt;rw[if_pos h2,aJW hs (by omega),NF];generalize hw:Bf 30 (s.data.toList.drop k)=w at *;have hwl:w<=s.data.toList.length - k:=by rw[<- hw,<- biR];exact MW 30 _
 rw[EI (xC (s:=s) (p:=λc=>!cin 4 c) (v:=((⟨0,V4,0⟩:Tk),false)) (B:=k+w) (b:=λx=>MQ s ((k+w:Nat):Int) x) (by omega) (λi c hi hc=>?_) ?_ w k rfl),NF]
 · have Gu:(Bf 26 (s.data.toList.drop k)=w)↔((s.data.toList.drop k).take w).all (λc=>!cin 4 c)=true:=by
     rw[<- aMA _ (λc hc=>by rw[<- hw] at hc;exact amB 30 _ c hc),<- hw];exact yL (m:=26) (λc hc=>by rw[aoG,bcA] at hc;exact hc.1) _
   cases ha:((s.data.toList.drop k).take w).all (λc=>!cin 4 c) with
   | false =>
     rw[ha] at Gu;rw[if_neg (show ¬(false=true) by simp),if_neg (show ¬(w<=16/\Bf 26 (s.data.toList.drop k)=w) from λh=>by cases Gu.1 h.2)];exact⟨_,rfl,Me.no⟩
   | true =>
     rw[ha] at Gu;rw[if_pos rfl];dsimp only[H8];rw[RW (by omega) (by omega),NF,FH (by omega),show((k+w:Nat):Int) - (k:Int)=(w:Int) by omega,show k+w - k=w by omega];by_cases h16:w<=16;rw[fQ (by omega),if_pos ⟨h16,Gu.2 rfl⟩];exact⟨_,rfl,Me.yes (by decide)⟩;rw[XD (by omega),if_neg (λh=>h16 h.1)];exact⟨_,rfl,Me.no⟩
 unfold MQ;rw[DQ (by omega)];rfl;unfold MQ;rw[G4 (by omega),TS,hc];dsimp only[cond,bjU];rw[rX,Ca (by omega)];cases cin 4 c<;>rfl
theorem aZI{k:Nat}(hk:k < s.data.toList.length)(h2:F7 2 (s.data.toList.drop k)=false)(h4:F7 4 (s.data.toList.drop k)=true):∃x,QF s (k:Int)=some x/\Me (Bt (s.data.toList.drop k)) (s.data.toList.drop k) k x:=by
 unfold QF Bt;rw[if_neg (by rw[h2];simp),if_pos h4,aJW hs (by omega),NF];generalize hw:Bf 30 (s.data.toList.drop k)=w at *;have hwl:w<=s.data.toList.length - k:=by rw[<- hw,<- biR];exact MW 30 _
 rw[EI (xC (s:=s) (p:=λc=>cin 4 c) (v:=((⟨0,V4,0⟩:Tk),false)) (B:=k+w) (b:=λx=>OB s ((k+w:Nat):Int) x) (by omega) (λi c hi hc=>?_) ?_ w k rfl),NF]
 · have Gu:(Bf 4 (s.data.toList.drop k)=w)↔((s.data.toList.drop k).take w).all (λc=>cin 4 c)=true:=by
     rw[<- hw];exact yL (m:=4) (λc hc=>by rw[aoH,hc];simp) _
   cases ha:((s.data.toList.drop k).take w).all (λc=>cin 4 c) with
   | false =>
     rw[ha] at Gu;rw[if_neg (show ¬(false=true) by simp),if_neg (show ¬(w=3/\Bf 4 (s.data.toList.drop k)=w) from λh=>by cases Gu.1 h.2)];exact⟨_,rfl,Me.no⟩
   | true =>
     rw[ha] at Gu;rw[if_pos rfl];dsimp only[H8];rw[RW (by omega) (by omega),NF,FH (by omega),show((k+w:Nat):Int) - (k:Int)=(w:Int) by omega,show k+w - k=w by omega];by_cases h3:w=3;rw[Ie (by omega),if_pos ⟨h3,Gu.2 rfl⟩];exact⟨_,rfl,Me.yes (by decide)⟩;rw[Kr (by omega),if_neg (λh=>h3 h.1)];exact⟨_,rfl,Me.no⟩
 unfold OB;rw[DQ (by omega)];rfl;unfold OB;rw[G4 (by omega),TS,hc];dsimp only[cond,bjU];rw[rX,Ca (by omega)];cases cin 4 c<;>rfl
omit hs in
theorem auS{y t:List UInt8}(h:y.isPrefixOf t=true):t.take y.length=y:=by
 rw[NI] at h;exact eq_of_beq h
theorem aSH{k:Nat}(hk:k<=s.data.toList.length):∀(ys:List ByteArray) (i:Nat),(∀y∈ys,y.data.toList.length<=100000)->∃r,Bs (λi y x=>PH s (k:Int) i y) (λx=>()) ys i ()=some r /\
   ((r=.inl ()/\(Nv (s.data.toList.drop k) (ys.map λy=>y.data.toList)).1=0)\/∃x,r=.inr x/\Me (Nv (s.data.toList.drop k) (ys.map λy=>y.data.toList)) (s.data.toList.drop k) k x):=by
 intro ys
 induction ys with
 | nil=>intro i _;exact⟨.inl (),rfl,.inl ⟨rfl,rfl⟩⟩
 | cons y ys ih =>
   intro i hy;rw[Bs,bjM];unfold PH Nv;rw[xQ hs hk (hy y (by simp)),NF];cases hp:y.data.toList.isPrefixOf (s.data.toList.drop k) with
   | true =>
     refine⟨_,rfl,.inr ⟨_,rfl,?_⟩⟩;rw[if_pos rfl];have:=Me.yes (q:=6) (n:=y.data.toList.length) (by decide) (t:=s.data.toList.drop k) (k:=k);rw[auS hp] at this;exact this
   | false =>
     rw[if_neg (by simp)];exact ih (i+1) (λz hz=>hy z (by simp[hz]))
theorem aDB{k:Nat}(hk:k < s.data.toList.length):∃x,MS s (k:Int)=some x/\Me (Bt (s.data.toList.drop k)) (s.data.toList.drop k) k x:=by
 obtain⟨c,hc⟩:∃c,s.data.toList[k]?=some c:=⟨_,abI hk⟩
 have hB:∀m,F7 m (s.data.toList.drop k)=cin m c:=by
   intro m;rcases Mu s.data.toList k with ⟨h1,h2⟩ | ⟨c',h1,h2,h3⟩
   omega;rw[hc] at h2;cases h2;rw[h3];rfl
 unfold MS;rw[TS,hc,NF,rW,NF];cases h8:cin 8 c with
 | true =>
   obtain⟨x,h1,h2⟩:=alG hs hk (by rw[hB];exact h8);obtain⟨e2,e4⟩:=aMR c h8
   have:Bt (s.data.toList.drop k)=IX (s.data.toList.drop k):=by
     unfold Bt;rw[hB,hB,hB,e2,e4,h8];rfl
   dsimp only[cond];rw[h1,this];exact⟨x,rfl,h2⟩
 | false =>
   dsimp only[cond];rw[aDA,NF];cases h2:cin 2 c with
   | true =>
     obtain⟨x,e1,e2⟩:=aSG hs hk (by rw[hB];exact h2);dsimp only;rw[e1];exact⟨x,rfl,e2⟩
   | false =>
     dsimp only;rw[rX,NF];cases h4:cin 4 c with
     | true =>
       obtain⟨x,e1,e2⟩:=aZI hs hk (by rw[hB];exact h2) (by rw[hB];exact h4);dsimp only;rw[e1];exact⟨x,rfl,e2⟩
     | false =>
       have:Bt (s.data.toList.drop k)=Nv (s.data.toList.drop k) Fw:=by
         unfold Bt;rw[hB,hB,hB,h2,h4,h8];rfl
       obtain⟨r,e1,e2⟩:=aSH hs (k:=k) (by omega) [I4,J6,Jt,L5,Mg,Qf,Sx,Fj,Ve,BI,Ec,CX,aC,Uh,PG,CV,G3] 0 (by decide);have e3:(([I4,J6,Jt,L5,Mg,Qf,Sx,Fj,Ve,BI,Ec,CX,aC,Uh,PG,CV,G3]:List ByteArray).map λy=>y.data.toList)=Fw:=rfl;rw[e3] at e2;rw[this];dsimp only;unfold NQ;rw[NF,bjJ,B0 (by decide),e1,NF];rcases e2 with ⟨rfl,e2⟩ | ⟨x,rfl,e2⟩
       exact⟨_,rfl,⟨λh=>(by cases h),λ_=>e2⟩⟩;exact⟨x,rfl,e2⟩
end
theorem auO(s:List UInt8)(k:Nat)(pre:List LexS.Tok)(h:k < s.length)(hp:pre.length=2000):Ev pre (FJ s k)=([],2,k):=by
 by_cases hz:(Bt (s.drop k)).1=0;rw[UB s k h hz,Ev,if_pos hp];rw[QP s k h hz,Ev,if_pos hp]
theorem aCJ(s:List UInt8)(k:Nat)(pre:List LexS.Tok)(h:k < s.length)(hp:¬pre.length=2000)(hz:(Bt (s.drop k)).1=0):Ev pre (FJ s k)=([],61,k):=by
 rw[UB s k h hz,Ev,if_neg hp,if_pos rfl]
theorem aCL(s:List UInt8)(k:Nat)(pre:List LexS.Tok)(h:k < s.length)(hp:¬pre.length=2000)(hz:(Bt (s.drop k)).1≠0):Ev pre (FJ s k)=Ev (pre++[((Bt (s.drop k)).1,(s.drop k).take (Bt (s.drop k)).2,k)]) (FJ s (k+(Bt (s.drop k)).2+Gc (s.drop (k+(Bt (s.drop k)).2)))):=by
 rw[QP s k h hz,Ev,if_neg hp,if_neg hz]
theorem aCK(s:List UInt8)(k:Nat)(pre:List LexS.Tok)(h:s.length<=k):Ev pre (FJ s k)=(pre,0,0):=by
 rw[UA s k h,Ev]
def aYN(x:List LexS.Tok×Nat×Nat):List Tk×Int×Int:=(x.1.map JV,(x.2.1:Int),(x.2.2:Int))
theorem auV{s:ByteArray}(hs:s.data.toList.length<=6000):∀(j k:Nat) (pre:List LexS.Tok),s.data.toList.length - k<=j->k<=s.data.toList.length->pre.length<=2000->∃r:List Tk⊕(List Tk×Int×Int),DP (λx:List Tk×Int=>CT s x.1 x.2) (j+1) (pre.map JV,(k:Int))=some r /\
   H8 (λ(o:List Tk)=>some (o,(0:Int),(0:Int))) (λv=>some v) r=some (aYN (Ev pre (FJ s.data.toList k))):=by
 have fin:∀(j k:Nat) (pre:List LexS.Tok),s.data.toList.length<=k->∃r:List Tk⊕(List Tk×Int×Int),DP (λx:List Tk×Int=>CT s x.1 x.2) (j+1) (pre.map JV,(k:Int))=some r /\
   H8 (λ(o:List Tk)=>some (o,(0:Int),(0:Int))) (λv=>some v) r=some (aYN (Ev pre (FJ s.data.toList k))):=by
   intro j k pre h;refine⟨.inl (pre.map JV),?_,?_⟩;show(CT s (pre.map JV) (k:Int)).bind _=_;unfold CT;rw[DQ (by omega)];rfl;rw[aCK _ _ _ h];rfl
 intro j
 induction j with
 | zero=>intro k pre hk hl hp;exact fin 0 k pre (by omega)
 | succ j ih =>
   intro k pre hk hl hp;rcases blL k s.data.toList.length with h | h
   rotate_left;exact fin _ k pre h
   have go:∀{y:Lp (List Tk×Int) (List Tk) (List Tk×Int×Int)},CT s (pre.map JV) (k:Int)=some y->DP (λx:List Tk×Int=>CT s x.1 x.2) (j+1+1) (pre.map JV,(k:Int))=NX (DP (λx:List Tk×Int=>CT s x.1 x.2) (j+1)) y:=by
     intro y hy;show(CT s (pre.map JV) (k:Int)).bind _=_;rw[hy];rfl
   by_cases hf:pre.length=2000
   have:CT s (pre.map JV) (k:Int)=some (.rt ([],2,(k:Int))):=by
     unfold CT;rw[G4 (by omega),bjC,Ie (by omega)];rfl
   refine⟨.inr ([],2,(k:Int)),(go this).trans rfl,?_⟩;rw[auO _ _ _ h hf];rfl;obtain⟨x,h1,h2,h3⟩:=aDB (s:=s) (by omega) h;cases hx:x.2 with
   | false =>
     have:CT s (pre.map JV) (k:Int)=some (.rt ([],61,(k:Int))):=by
       unfold CT;rw[G4 (by omega),bjC,Kr (by omega),h1];dsimp only[cond,bjU];rw[hx]
     refine⟨.inr ([],61,(k:Int)),(go this).trans rfl,?_⟩;rw[aCJ _ _ _ h hf (h3 hx)];rfl
   | true =>
     obtain⟨h4,h5⟩:=h2 hx;have hrp:=Ui _ h4;have hle:(s.data.toList.drop k).length=s.data.toList.length - k:=biR ..;generalize hn:(Bt (s.data.toList.drop k)).2=n at *;have hsk:=cB (s.data.toList.drop (k+n));rw[biR] at hsk
     have htl:x.1.text.data.toList.length=n:=by
       rw[h5];show((s.data.toList.drop k).take n).length=n;rw[bjG];omega
     have:CT s (pre.map JV) (k:Int)=some (.nx ((pre++[((Bt (s.data.toList.drop k)).1,(s.data.toList.drop k).take n,k)]).map JV,((k+n+Gc (s.data.toList.drop (k+n)):Nat):Int))):=by
       unfold CT;rw[G4 (by omega),bjC,Kr (by omega),h1];dsimp only[cond,bjU];rw[hx];dsimp only;rw[htl,Ca (by omega),show(k:Int)+(n:Int)=((k+n:Nat):Int) by omega,Dw (by omega),auW (by omega) (by omega)];dsimp only;rw[h5,bjS];rfl
     obtain⟨r,e1,e2⟩:=ih (k+n+Gc (s.data.toList.drop (k+n))) (pre++[((Bt (s.data.toList.drop k)).1,(s.data.toList.drop k).take n,k)]) (by omega) (by omega) (by simp only[V5,bfG];omega);refine⟨r,(go this).trans e1,?_⟩;rw[e2,aCL _ _ _ h hf h4,hn]
theorem aSK(s:ByteArray):Nr s=Hf s:=by
 unfold Nr Hf Mf;by_cases h:6000 < s.data.toList.length;rw[G4 (by omega),if_pos h];rfl;rw[DQ (by omega),if_neg h];dsimp only[cond];have h0:=auW (s:=s) (k:=0) (by omega) (Nat.zero_le _);rw[show((0:Nat):Int)=0 from rfl,bjJ,bcD] at h0;have:=cB s.data.toList;obtain⟨r,e1,e2⟩:=auV (s:=s) (by omega) s.data.toList.length (Gc s.data.toList) [] (by omega) (by omega) (by simp);rw[bmX] at e1;rw[h0,NF,Zo,EI e1,NF];exact e2
theorem aDL(s:ByteArray):Nr s=some (FR s,(Q3 s:Int),(aQV s:Int)):=aSK s
theorem jD(s:ByteArray):GF s=some (mb (Q3 s=0)):=by
 unfold GF;rw[aDL,NF];dsimp only;rw[bbG];by_cases h:Q3 s=0;rw[Ay (by omega),BP.2 h];rw[AD (by omega),LA h]
section
variable {S:Int->Int->Prop} {en en':Int}
def azY{l l':List Tk}(h:F2 S l l'):F2 S (PQ l) (PQ l'):=by
 induction h with
 | nil=>exact .nil
 | cons ht f ih =>
   rename_i t t' l l';unfold PQ;have:O9 t=O9 t':=by unfold O9;rw[ht.2.1]
   rw[<- this];cases O9 t;exact ih;exact .cons ht f
def aJM{n n':Nd}(h:NR S n n'):Cr n=Cr n'/\Mq n=Mq n'/\DO n=DO n':=by
 refine NR.rec (S:=S) (motive_1:=λa b _=>Cr a=Cr b/\Mq a=Mq b/\DO a=DO b) (motive_2:=λa b _=>D7 a=D7 b/\Yh a=Yh b/\a.map DO=b.map DO) ?_ ⟨rfl,rfl,rfl⟩ ?_ h;intro k nm u n f t kn tb ks ks' a a' _ _ ih;refine⟨by simp only[Cr,ih.1],by simp only[Mq,ih.2.1],?_⟩;rw[Gp,Gp,ih.2.2];intro n n' l l' _ _ h1 h2;exact⟨by simp only[D7,h1.1,h2.1],by simp only[Yh,h1.2.1,h2.2.1],by rw[bjM,bjM,h1.2.2,h2.2.2]⟩
def aRJ{l l':List Nd}(h:tV S l l'):D7 l=D7 l'/\Yh l=Yh l'/\l.map DO=l'.map DO:=by
 induction l generalizing l' with
 | nil=>cases h;exact⟨rfl,rfl,rfl⟩
 | cons n l ih =>
   cases h with
   | cons h1 h2 =>
     have a:=aJM h1;have b:=ih h2;exact⟨by simp only[D7,a.1,b.1],by simp only[Yh,a.2.1,b.2.1],by rw[bjM,bjM,a.2.2,b.2.2]⟩
def aFM:∀(q q':Nat) {l l':List Tk} {ks ks':List Nd} {ds ds':List Dg} {r r':List Nd×List Dg},F2 S l l'->tV S ks ks'->ds.map Dg.err=ds'.map Dg.err->Vn en q l ks ds=some r->Vn en' q' l' ks' ds'=some r'->tV S r.1 r'.1/\r.2.map Dg.err=r'.2.map Dg.err:=by
 intro q
 induction q with
 | zero=>intro q' l l' ks ks' ds ds' r r' _ _ _ h;cases h
 | succ q ih =>
   intro q' l l' ks ks' ds ds' r r' f hk hd h h';cases q' with
   | zero=>cases h'
   | succ q' =>
     cases f with
     | nil=>cases h;cases h';exact⟨hk,hd⟩
     | cons ht f =>
       rename_i t t' l l';unfold Vn at h h';have hl:ds.length=ds'.length:=by have:=congrArg blU hd;simpa using this
       rw[<- hl] at h';cases hc:Dd ((ds.length:Nat):Int) 20 with
       | false=>rw[hc] at h h';cases h;cases h';exact⟨hk,hd⟩
       | true =>
         rw[hc] at h h';dsimp only[cond] at h h';split at h;cases h;rename_i n s hi;split at h';cases h';rename_i n' s' N1;rcases cA (S:=S) (en:=en) (en':=en') (w:=[]) (b:=true) (.cons ht f) hi (by rw[bcB];exact N1) with ⟨s1,rfl,f1,q⟩ | ⟨hw,_⟩
         cases q with
         | l q=>exact ih q' (by rw[bcB];exact f1) (XH hk (.cons q .nil)) hd h h'
         exact absurd rfl hw;rename_i d' s' N1;rcases cA (S:=S) (en:=en) (en':=en') (w:=[]) (b:=true) (.cons ht f) hi (by rw[bcB];exact N1) with ⟨s1,rfl,f1,q⟩ | ⟨hw,_⟩
         cases q;exact absurd rfl hw
         · rename_i d s hi
           split at h';cases h';rename_i n' s' N1;rcases cA (S:=S) (en:=en) (en':=en') (w:=[]) (b:=true) (.cons ht f) hi (by rw[bcB];exact N1) with ⟨s1,rfl,f1,q⟩ | ⟨hw,_⟩
           cases q;exact absurd rfl hw
           · rename_i d' s' N1
             rcases cA (S:=S) (en:=en) (en':=en') (w:=[]) (b:=true) (.cons ht f) hi (by rw[bcB];exact N1) with ⟨s1,rfl,f1,q⟩ | ⟨hw,_⟩
             · cases q with
               | r q =>
                 refine ih q' (by rw[bcB];exact azY f1) hk ?_ h h';rw[bjS,bjS,hd];simp only[bjM,bmX,q.1]
             exact absurd rfl hw
end
def Al:List (LexS.Tok×List UInt8)->List UInt8
 | []=>[]
 | p::r=>p.1.2.1++(p.2++Al r)
def oO(o:Nat):List (LexS.Tok×List UInt8)->List LexS.Tok
 | []=>[]
 | p::r=>(p.1.1,p.1.2.1,o)::oO (o+p.1.2.1.length+p.2.length) r
def jH{S:Int->Int->Prop}(hS:∀a b,S a b):∀(ps:List (LexS.Tok×List UInt8)) (o:Nat),F2 S ((ps.map (·.1)).map JV) ((oO o ps).map JV)
 | [],_=>.nil
 | p::ps,o=>.cons ⟨rfl,rfl,hS _ _⟩ (jH hS ps _)
def AB(ps qs:List (LexS.Tok×List UInt8)):Al (ps++qs)=Al ps++Al qs:=by
 induction ps with
 | nil=>rfl
 | cons p ps ih=>simp[Al,ih]
end Mo
end Go.Proofs.YtpbkhogolfegfaaGreatDoor
namespace Go.Proofs.YtpbkhogolfegfaaGreatDoor
open AI Go
namespace Mo
set_option maxRecDepth 100000
set_option maxHeartbeats 4000000
def awN(op:ByteArray):Nat :=
 if op=rR then 0 else if op=QR then 1 else if op=I4\/op=J6\/op=Mg\/op=Jt\/op=Qf\/op=L5 then 2 else if op=Sx\/op=Fj then 3 else 4
def bgJ(x:ByteArray):Nd:=C6 12 x bE 0 [] 0
def bgS(op:ByteArray)(a b:Nd):Nd:=if op=Qf then C6 16 Mg bE 0 [b,a] 0 else if op=L5 then C6 16 Jt bE 0 [b,a] 0 else C6 16 op bE 0 [a,b] 0
inductive Ch:ByteArray->List (ByteArray×ByteArray)->Nd->Prop
 | one (x:ByteArray):Ch x [] (bgJ x)
 | two {x op n:ByteArray} {A B:List (ByteArray×ByteArray)} {t1 t2:Nd}:Ch x A t1->Ch n B t2->(∀p∈A,awN op<=awN p.1)->(∀p∈B,awN op < awN p.1)->Ch x (A++(op,n)::B) (bgS op t1 t2)
end Mo
end Go.Proofs.YtpbkhogolfegfaaGreatDoor
namespace Go.Proofs.YtpbkhogolfegfaaGreatDoor
open AI Go LexS
namespace Mo
set_option maxRecDepth 100000
set_option maxHeartbeats 4000000
abbrev bgP(p:Tk×Tk):Nat:=awN p.1.text
abbrev hi(k:Nat)(p:Tk×Tk):Bool:=decide (k<=bgP p)
def opK(x:ByteArray):Nat:=if x=rR\/x=QR\/x=uK then 1 else 6
def opAt(z:Int):ByteArray:=(F9 [rR,QR,I4,J6,Mg,Jt,Qf,L5,Sx,Fj,Ve,uK] (NA (w64 z) 12)).getD rR
theorem Ae(a b:ByteArray):(a++b).data.toList=a.data.toList++b.data.toList:=by rw[ByteArray.data_append,Array.toList_append]
abbrev Ti:=LexS.Tok×List UInt8
def Fr(u:List UInt8):Prop:=free u=true/\u.head?≠some 45
def Fs(u:List UInt8):Prop:=u.head?≠some 61/\u.head?≠some 47
def aCA(k:Nat)(d:List UInt8):Prop:=1<=d.length/\d.length<=k/\(∀c∈d,cin 8 c=true)/\(d.length=1\/d.head?≠some 48)
def IH(x:LexS.Tok):Prop :=
 (x.1=1/\1<=x.2.1.length/\x.2.1.length<=16/\F7 2 x.2.1=true/\∀c∈x.2.1,cin 26 c=true) \/
 (x.1=2/\x.2.1.length=3/\∀c∈x.2.1,cin 4 c=true) \/
 (x.1=3/\aCA 12 x.2.1) \/
 (x.1=4/\∃d a b,x.2.1=d++[46,a,b]/\aCA 10 d/\cin 8 a=true/\cin 8 b=true) \/
 (x.1=5/\x.2.1.length=10/\EN x.2.1=true) \/
 (x.1=6/\x.2.1∈Fw)
def okB:List Ti->Prop
 | []=>True
 | p::r=>IH p.1/\(∀c∈p.2,cin 1 c=true)/\(p.1.1≠6->Fr (p.2++Al r))/\(p.1.1=6->Fs (p.2++Al r))/\okB r
def Nu{m:Nat}:∀{w u:List UInt8},(∀c∈w,cin m c=true)->F7 m u=false->Bf m (w++u)=w.length
 | [],u,_,hu=>by
   cases u with
   | nil=>rfl
   | cons c u=>rw[bcJ,D2,if_neg (by have:cin m c=false:=hu;simp[this])];rfl
 | c::w,u,h,hu=>by
   rw[bcE,D2,if_pos (h c (by simp)),Nu (λx hx=>h x (by simp[hx])) hu,Yy];omega
def jK:∀{g u:List UInt8},(∀c∈g,cin 1 c=true)->Gc (g++u)=g.length+Gc u
 | [],u,_=>by simp
 | c::g,u,h=>by
   show IK false (c::(g++u))=_;rw[IK,if_neg (by simp),if_pos (h c (by simp))];have:=jK (g:=g) (u:=u) λx hx=>h x (by simp[hx]);unfold Gc at this ⊢;rw[this,Yy];omega
def OS{c:UInt8}{t:List UInt8}(h1:cin 1 c=false)(h2:c≠47\/t.head?≠some 47):Gc (c::t)=0:=by
 show IK false (c::t)=0;rw[IK,if_neg (by simp),if_neg (by simp[h1]),if_neg];rintro⟨a,b⟩;rcases h2 with h2 | h2
 exact h2 a;exact h2 b
def KW{c:UInt8}{m k:Nat}(h:(bjR 256).all (λn=>!((KX n &&& m) != 0)||!((KX n &&& k) != 0))=true)(hc:cin m c=true):cin k c=false:=by
 have:=byt (p:=λn=>!((KX n &&& m) != 0)||!((KX n &&& k) != 0)) h c;have h':((KX c.toNat &&& m) != 0)=true:=hc;rw[h'] at this;show((KX c.toNat &&& k) != 0)=false;simpa using this
def pL{c:UInt8}{m k:Nat}(h:(bjR 256).all (λn=>!((KX n &&& m) != 0)||((KX n &&& k) != 0))=true)(hc:cin m c=true):cin k c=true:=by
 have:=byt (p:=λn=>!((KX n &&& m) != 0)||((KX n &&& k) != 0)) h c;have h':((KX c.toNat &&& m) != 0)=true:=hc;rw[h'] at this;show((KX c.toNat &&& k) != 0)=true;simpa using this
def dM{c d:UInt8}{m:Nat}(hd:cin m d=false)(hc:cin m c=true):c≠d:=λe=>by rw[e,hd] at hc;cases hc
def Xr{u:List UInt8}(h:free u=true):F7 30 u=false/\u.head?≠some 46:=by
 unfold free at h;rw[bpK,Bool.or_eq_false_iff] at h;exact⟨h.1,λe=>by rw[e] at h;exact absurd h.2 (by decide)⟩
def TZ{u:List UInt8}{m k:Nat}(h:(bjR 256).all (λn=>!((KX n &&& m) != 0)||((KX n &&& k) != 0))=true)(hu:F7 k u=false):F7 m u=false:=by
 cases u with
 | nil=>rfl
 | cons c u =>
   cases hc:cin m c with
   | false=>exact hc
   | true =>
     have:=pL h hc;have h2:cin k c=false:=hu;rw[this] at h2;cases h2
def aBC{m:Nat}{w u:List UInt8}(h:1<=w.length):F7 m (w++u)=F7 m w:=by
 cases w with
 | nil=>simp at h
 | cons c w=>rfl
def W6{m:Nat}{w:List UInt8}(h:1<=w.length)(ha:∀c∈w,cin m c=true):∃c t,w=c::t/\cin m c=true:=by
 cases w with
 | nil=>simp at h
 | cons c t=>exact⟨c,t,rfl,ha c (by simp)⟩
def agS{d u:List UInt8}(h1:1<=d.length)(hd:∀c∈d,cin 8 c=true)(h:∀c,u.head?=some c->cin 8 c=false/\c≠45):EN (d++u)=false:=by
 cases hx:EN (d++u) with
 | false=>rfl
 | true =>
   obtain⟨hl,Gu⟩:=(TL _).1 hx;exfalso;rcases blL 4 d.length with h4 | h4
   have:=Gu 4 (by decide);unfold FM at this;rw[if_pos (.inl rfl),List.getElem?_append_left h4,abI h4] at this;have h5:=hd _ (bnJ h4);have h6:d[4]=45:=by simpa using this
   rw[h6] at h5;exact absurd h5 (by decide)
   · have hd2:(d++u).drop d.length=u:=boH
     have hlt:d.length < 10:=by omega
     have:=Gu d.length hlt;cases hu:u with
     | nil=>rw[hu,bcB] at hl;omega
     | cons c u' =>
       obtain⟨q1,q2⟩:=h c (by rw[hu];rfl);unfold FM at this;split at this;rw[<- bmM,hd2,hu] at this;exact q2 (by simpa using this)
       rw[hd2,hu] at this;have:cin 8 c=true:=this;rw[q1] at this;cases this
def aAE{u:List UInt8}(h:Fr u):∀c,u.head?=some c->cin 8 c=false/\c≠45:=by
 intro c hc;obtain⟨h1,h2⟩:=Xr h.1;cases u with
 | nil=>cases hc
 | cons x u =>
   cases hc;have:=TZ (m:=8) (k:=30) (by decide) h1;exact⟨this,λe=>h.2 (by rw[e];rfl)⟩
def yT{x:LexS.Tok}{u:List UInt8}(hw:IH x)(h1:x.1≠6->Fr u)(h2:x.1=6->Fs u):x.1≠0/\Gc (x.2.1++u)=0/\Bt (x.2.1++u)=(x.1,x.2.1.length):=by
 obtain⟨k,w,o⟩:=x;dsimp only at *;rcases hw with ⟨rfl,a1,a2,a3,a4⟩ | ⟨rfl,a1,a2⟩ | ⟨rfl,a1⟩ | ⟨rfl,d,a,b,rfl,a1,a2,a3⟩ | ⟨rfl,a1,a2⟩ | ⟨rfl,a1⟩
 obtain⟨f1,_⟩:=Xr (h1 (by decide)).1;obtain⟨c,t,rfl,hc⟩:=W6 a1 a4;have h30:∀y∈c::t,cin 30 y=true:=λy hy=>pL (by decide) (a4 y hy);have h2c:cin 2 c=true:=a3;refine⟨by decide,OS (KW (m:=2) (by decide) h2c) (.inl (dM (by decide) h2c)),?_⟩;unfold Bt;rw[aBC a1,a3,if_pos rfl,Nu h30 f1,Nu a4 (TZ (by decide) f1),if_pos ⟨a2,rfl⟩];obtain⟨f1,_⟩:=Xr (h1 (by decide)).1;obtain⟨c,t,rfl,hc⟩:=W6 (by omega) a2;have h30:∀y∈c::t,cin 30 y=true:=λy hy=>pL (by decide) (a2 y hy);refine⟨by decide,OS (KW (m:=4) (by decide) hc) (.inl (dM (by decide) hc)),?_⟩;have hb2:F7 2 ((c::t)++u)=false:=KW (m:=4) (by decide) hc;have GC:F7 4 ((c::t)++u)=true:=hc;unfold Bt;rw[hb2,if_neg (by simp),GC,if_pos rfl,Nu h30 f1,Nu a2 (TZ (by decide) f1),if_pos ⟨a1,rfl⟩,a1];obtain⟨b1,b2,b3,b4⟩:=a1;have hf:=h1 (by decide);obtain⟨f1,f2⟩:=Xr hf.1;obtain⟨c,t,rfl,hc⟩:=W6 b1 b3;refine⟨by decide,OS (KW (m:=8) (by decide) hc) (.inl (dM (by decide) hc)),?_⟩;have hb2:F7 2 ((c::t)++u)=false:=KW (m:=8) (by decide) hc;have GC:F7 4 ((c::t)++u)=false:=KW (m:=8) (by decide) hc;have O6:F7 8 ((c::t)++u)=true:=hc;have hsp:Bf 8 ((c::t)++u)=(c::t).length:=Nu b3 (TZ (by decide) f1);have zZ:((c::t)++u).drop (c::t).length=u:=boH;unfold Bt;rw[hb2,if_neg (by simp),GC,if_neg (by simp),O6,if_pos rfl,eA _ _ hsp.symm (agS b1 b3 (aAE hf)) (by rw[zZ];exact f2),zZ,if_pos];refine⟨?_,b2,hf.1⟩;rintro⟨e1,e2⟩
 first
   | (rcases b4 with h | h
      rw[h] at e2;exact absurd e2 (by decide);exact h e1)
   | (rcases b4 with h | h
      rw[h] at e1;exact absurd e1 (by decide);exact h e2)
 obtain⟨b1,b2,b3,b4⟩:=a1;have hf:=h1 (by decide);obtain⟨c,t,rfl,hc⟩:=W6 b1 b3;have e0:((c::t)++[46,a,b])++u=(c::t)++(46::a::b::u):=by simp
 rw[e0];refine⟨by decide,OS (KW (m:=8) (by decide) hc) (.inl (dM (by decide) hc)),?_⟩;have hb2:F7 2 ((c::t)++(46::a::b::u))=false:=KW (m:=8) (by decide) hc;have GC:F7 4 ((c::t)++(46::a::b::u))=false:=KW (m:=8) (by decide) hc;have O6:F7 8 ((c::t)++(46::a::b::u))=true:=hc;have hsp:Bf 8 ((c::t)++(46::a::b::u))=(c::t).length:=Nu b3 (show cin 8 46=false by decide);have zZ:((c::t)++(46::a::b::u)).drop (c::t).length=46::a::b::u:=boH;have hd1:((c::t)++(46::a::b::u)).drop ((c::t).length+1)=a::b::u:=by rw[<- bjD,zZ];rfl
 have hd3:((c::t)++(46::a::b::u)).drop ((c::t).length+3)=u:=by rw[<- bjD,zZ];rfl
 obtain⟨f1,_⟩:=Xr hf.1
 have he:Bf 8 (a::b::u)=2:=by
   have:=Nu (m:=8) (w:=[a,b]) (u:=u) (by intro y hy;simp only[biX,bkW,or_false] at hy;rcases hy with rfl | rfl;exact a2;exact a3) (TZ (by decide) f1)
   exact this
 unfold Bt;rw[hb2,if_neg (by simp),GC,if_neg (by simp),O6,if_pos rfl,dZ _ _ 2 hsp.symm (by rw[hd1,he]) (agS b1 b3 (by intro y hy;cases hy;exact⟨by decide,by decide⟩)) (by rw[zZ];rfl),hd3,if_pos];simp;refine⟨?_,b2,rfl,hf.1⟩;rintro⟨e1,e2⟩
 first
 | (rcases b4 with h | h
    rw[h] at e2;exact absurd e2 (by decide);exact h e1)
 | (rcases b4 with h | h
    rw[h] at e1;exact absurd e1 (by decide);exact h e2)
 have hf:=h1 (by decide);obtain⟨c0,c1,c2,c3,c5,c6,c8,c9,e,d0,_⟩:=mH a2;have hl:w.take 10=w:=List.take_of_length_le (Nat.le_of_eq a1);rw[hl] at e;subst e
 have hc:cin 8 c0=true:=by
   have:=((TL _).1 a2).2 0 (by decide);exact this
 have hdt:EN ([c0,c1,c2,c3,45,c5,c6,45,c8,c9]++u)=true:=by
   have:=pM [c0,c1,c2,c3,45,c5,c6,45,c8,c9] u 10 (aOC _) a2;exact this
 refine⟨by decide,OS (KW (m:=8) (by decide) hc) (.inl (dM (by decide) hc)),?_⟩;have hb2:F7 2 ([c0,c1,c2,c3,45,c5,c6,45,c8,c9]++u)=false:=KW (m:=8) (by decide) hc;have GC:F7 4 ([c0,c1,c2,c3,45,c5,c6,45,c8,c9]++u)=false:=KW (m:=8) (by decide) hc;have O6:F7 8 ([c0,c1,c2,c3,45,c5,c6,45,c8,c9]++u)=true:=hc;have zZ:([c0,c1,c2,c3,45,c5,c6,45,c8,c9]++u).drop 10=u:=rfl;unfold Bt IX;rw[hb2,if_neg (by simp),GC,if_neg (by simp),O6,if_pos rfl,if_pos hdt,zZ,if_pos hf.1];rfl
 · obtain⟨g1,g2⟩:=h2 rfl
   refine⟨by decide,?_,?_⟩;unfold Fw at a1;simp only[biX,bkW,or_false] at a1;rcases a1 with rfl | rfl | rfl | rfl | rfl | rfl | rfl | rfl | rfl | rfl | rfl | rfl | rfl | rfl | rfl | rfl | rfl<;>exact OS (by decide) (by first | exact .inl (by decide) | exact .inr g2)
   · unfold Fw at a1
     simp only[biX,bkW,or_false] at a1
     have hp:∀c:UInt8,([c,61]:List UInt8).isPrefixOf (c::u)=false:=by
       intro c;cases u with
       | nil=>simp[blM]
       | cons x u =>
         have:x≠61:=λe=>g1 (by rw[e];rfl);simp[blM];exact λe=>this e.symm
     rcases a1 with rfl | rfl | rfl | rfl | rfl | rfl | rfl | rfl | rfl | rfl | rfl | rfl | rfl | rfl | rfl | rfl | rfl <;>
       simp[Bt,F7,cin,KX,Nv,Fw,blM,hp]
     all_goals
       cases u with
       | nil=>simp[Nv,blM]
       | cons x u =>
         have:x≠61:=λe=>g1 (by rw[e];rfl);simp[Nv,blM,Ne.symm this]
def wX:∀{ps:List Ti},okB ps->Gc (Al ps)=0
 | [],_=>rfl
 | p::r,h=>(yT h.1 h.2.2.1 h.2.2.2.1).2.1
def aeB(ps:List Ti)(hg:okB ps)(hd:List UInt8):FJ (hd++Al ps) hd.length=oO hd.length ps:=by
 induction ps generalizing hd with
 | nil=>exact UA _ _ (by simp[Al])
 | cons p ps ih =>
   obtain⟨a1,a2,a3,a4,h3⟩:=hg;obtain⟨b0,hk,hr⟩:=yT a1 a3 a4;have zZ:(hd++Al (p::ps)).drop hd.length=p.1.2.1++(p.2++Al ps):=by rw[boH];rfl
   have hpos:=Ui (p.1.2.1++(p.2++Al ps)) (by rw[hr];exact b0);rw[hr] at hpos
   have hlt:hd.length < (hd++Al (p::ps)).length:=by
     rw[Al];simp only[V5] at hpos ⊢;omega
   rw[QP _ _ hlt (by rw[zZ,hr];exact b0),zZ,hr,List.take_left,oO];refine congrArg _ ?_;have Gu:hd++Al (p::ps)=(hd++p.1.2.1)++(p.2++Al ps):=by rw[Al];simp
   have aWQ:hd++Al (p::ps)=(hd++p.1.2.1++p.2)++Al ps:=by rw[Al];simp
   have hd2:(hd++Al (p::ps)).drop (hd.length+p.1.2.1.length)=p.2++Al ps:=by
     rw[Gu,show hd.length+p.1.2.1.length=(hd++p.1.2.1).length from by simp,boH]
   rw[hd2,jK a2,wX h3,Nat.add_zero];have:=ih h3 (hd++p.1.2.1++p.2);rw[<- aWQ] at this;simp only[V5] at this;exact this
def aHN{ps:List Ti}(hg:okB ps):Ez (Al ps)=oO 0 ps:=by
 have:=aeB ps hg [];rw[Zo,wX hg];exact this
def aKI{ps:List Ti}{s:ByteArray}(hg:okB ps)(hs:s.data.toList=Al ps)(h:Q3 s=0):FR s=(oO 0 ps).map JV:=by
 obtain⟨_,h1,_⟩:=aBM _ h;unfold FR;rw[<- h1,hs,aHN hg]
end Mo
end Go.Proofs.YtpbkhogolfegfaaGreatDoor

namespace Go.Proofs.YtpbkhogolfegfaaGreatDoor
open AI Go LexS
namespace Mo
set_option maxRecDepth 100000
set_option maxHeartbeats 4000000
def Oh(b:UInt8):∀(l:List UInt8) (acc:Nat),bmE acc (l++[b])=(bmE acc l).bind λn=>(boG b).map λd=>n*10+d
 | [],acc=>by
   rw[bcJ,bmE,bmE];cases h:boG b<;>simp[bmE]
 | c::l,acc=>by
   rw[bcE,bmE,bmE];cases h:boG c with
   | none=>rfl
   | some d=>exact Oh b l _
abbrev S1(i:Nat):UInt8:=UInt8.ofNat (48+i)
def azO:∀i:Fin 10,boG (S1 i.1)=some i.1/\(48<=(S1 i.1).toNat/\(S1 i.1).toNat<=57)/\cin 8 (S1 i.1)=true/\(S1 i.1=48->i.1=0):=by decide
def S2{i:Nat}(h:i < 10):boG (S1 i)=some i/\P4 (S1 i)/\cin 8 (S1 i)=true/\(S1 i=48->i=0):=azO ⟨i,h⟩
abbrev P6:=bqW
def Oi{u:Nat}(h:u < 10):P6 u=[S1 u]:=by rw[P6,bqW,dif_pos h]
def Ry{u:Nat}(h:¬u < 10):P6 u=P6 (u / 10)++[S1 (u % 10)]:=by rw[P6,bqW,dif_neg h]
def aeU(u:Nat):bmE 0 (P6 u)=some u:=by
 induction u using bmF with
 | _ u ih =>
   by_cases h:u < 10;rw[Oi h];simp only[bmE,(S2 h).1];simp;rw[Ry h,Oh,ih _ (by omega),NF,(S2 (bqY _ (by omega))).1];simp only[biQ,aOE];omega
def Xk(u:Nat):∀c∈P6 u,P4 c/\cin 8 c=true:=by
 induction u using bmF with
 | _ u ih =>
   by_cases h:u < 10;rw[Oi h];intro c hc;rw[bjB] at hc;subst hc;exact⟨(S2 h).2.1,(S2 h).2.2.1⟩;rw[Ry h];intro c hc;rcases bjK.1 hc with hc | hc
   exact ih _ (by omega) c hc;rw[bjB] at hc;subst hc;have:=S2 (bqY u (show 10 > 0 by omega));exact⟨this.2.1,this.2.2.1⟩
def pP(u:Nat):1<=(P6 u).length:=by
 by_cases h:u < 10;rw[Oi h];simp;rw[Ry h];simp
def Xl:∀(k u:Nat),u < 10 ^ (k+1)->(P6 u).length<=k+1
 | 0,u,h=>by rw[Oi (by simpa using h)];simp
 | k+1,u,h=>by
   by_cases h1:u < 10;rw[Oi h1];simp;rw[Ry h1,V5];have:=Xl k (u / 10) (by rw[Nat.pow_succ] at h;omega);simp only[bfG];omega
def aoT(u:Nat):1<=u->(P6 u).head?≠some 48:=by
 induction u using bmF with
 | _ u ih =>
   intro hu;by_cases h:u < 10;rw[Oi h];intro e;have:=(S2 h).2.2.2 (by simpa using e)
   omega;rw[Ry h];have hp:=pP (u / 10);have:=ih (u / 10) (by omega) (by omega);intro e;apply this;cases hd:P6 (u / 10) with
   | nil=>rw[hd] at hp;simp at hp
   | cons a l=>rw[hd] at e;exact e
def aeT{k u:Nat}(h:u < 10 ^ (k+1)):aCA (k+1) (P6 u):=by
 refine⟨pP u,Xl k u h,λc hc=>(Xk u c hc).2,?_⟩;by_cases h1:u < 10;left;rw[Oi h1];rfl;right;exact aoT u (by omega)
abbrev Lf(n:Int):List UInt8:=P6 n.toNat
def qU{n:Int}(h:0<=n/\n<=999999999999):aCA 12 (Lf n):=aeT (k:=11) (by omega)
def S5{n:Int}(h:0<=n/\n<=999999999999):Ea n=some ⟨(Lf n).toArray⟩:=by
 unfold Ea Lib.itoa;rw[if_pos (by omega),if_neg (by omega)]
def uL{l:List UInt8}{u:Nat}(h0:l≠[])(hl:l.length<=18)(hd:∀c∈l,P4 c)(hv:bmE 0 l=some u):OY ⟨l.toArray⟩=some ((u:Int),()):=by
 have:Lib.atoi l=some (u:Int):=by
   cases l with
   | nil=>exact absurd rfl h0
   | cons c r =>
     have hc:=hd c (by simp);have e1:(c == 45)=false:=by apply beq_false_of_ne;rintro rfl;exact absurd hc.1 (by decide)
     have e2:(c == 43)=false:=by apply beq_false_of_ne;rintro rfl;exact absurd hc.1 (by decide)
     unfold Lib.atoi Lib.decNat;dsimp only;rw[e1,e2];simp only[biT,if_false,List.isEmpty_cons];rw[hv];rfl
 unfold OY;rw[if_pos (by simpa using hl)]
 simp only[this,biQ]
def asC(n:Int):Lf n≠[]:=λe=>by have:=pP n.toNat;unfold Lf at e;rw[e] at this;simp at this
def aVE{n:Int}(h:0<=n/\n<=999999999999):OY ⟨(Lf n).toArray⟩=some (n,()):=by
 have:=qU h;rw[uL (u:=n.toNat) (asC n) (by have:=this.2.1;omega) (λc hc=>(Xk _ c hc).1) (aeU _)];congr 2;omega
def Xe(n:Int):List UInt8:=P6 (n.toNat / 100)++[46,S1 (n.toNat % 100 / 10),S1 (n.toNat % 10)]
def auZ{n:Int}(h:0<=n):NA n 100=((n.toNat % 100:Nat):Int):=by
 unfold NA;obtain⟨m,rfl⟩:=bkP h;exact(Int.ofNat_tmod m 100).symm
def auU{n:Int}(h:0<=n/\n<=999999999999):Ux n 100=((n.toNat / 100:Nat):Int):=by
 unfold Ux;obtain⟨m,rfl⟩:=bkP h.1;have e:(Int.ofNat m).tdiv 100=((m / 100:Nat):Int):=(Int.ofNat_tdiv m 100).symm;have h7:=P1 (n:=((m / 100:Nat):Int)) (by omega);rw[Nz] at h7;rw[biW];show IntKind.i64.wrap ((Int.ofNat m).tdiv 100)=_;rw[e];exact h7
def bC{n:Int}(h:0<=n/\n<=999999999999):CL n=some ⟨(Xe n).toArray⟩:=by
 rw[CL,auZ h.1,auU h,S5 (by omega),S5 (by omega),NF,NF];have hr:n.toNat % 100 < 100:=bqY _ (by omega);have e1:Lf ((n.toNat % 100:Nat):Int)=P6 (n.toNat % 100):=by unfold Lf;rw[biW]
 have e2:Lf ((n.toNat / 100:Nat):Int)=P6 (n.toNat / 100):=by unfold Lf;rw[biW]
 have hl:=Xl 11 (n.toNat / 100) (by omega);rw[e1,e2];by_cases h1:n.toNat % 100 < 10;rw[Oi h1];rw[G4 (by simp),cond_true,B0 (by simp[acT]),B0 (by simp[Sy];omega),B0 (by simp[acT,Sy];omega)];unfold Xe;rw[show n.toNat % 100 / 10=0 by omega,show n.toNat % 100=n.toNat % 10 by omega];congr 1;apply ByteArray.ext;apply bjQ;simp[Ae,acT,Sy,S1];rw[Ry h1,Oi (by omega)];rw[DQ (by simp),cond_false,NF,B0 (by simp[Sy];omega),B0 (by simp[Sy];omega)];unfold Xe;rw[show n.toNat % 100 % 10=n.toNat % 10 by omega];congr 1;apply ByteArray.ext;apply bjQ;simp[Ae,Sy]
def pJ{n:Int}(h:0<=n/\n<=999999999999)(o:Nat):IH (4,Xe n,o) :=
 .inr (.inr (.inr (.inl ⟨rfl,P6 (n.toNat / 100),S1 (n.toNat % 100 / 10),S1 (n.toNat % 10),rfl,aeT (k:=9) (by omega),(S2 (by omega)).2.2.1,(S2 (by omega)).2.2.1⟩)))
def MI{n:Int}(h:0<=n/\n<=999999999999)(o:Nat):IH (3,Lf n,o):=.inr (.inr (.inl ⟨rfl,qU h⟩))
def aIB{k a:Int}{n:Int}(h:0<=n/\n<=999999999999):BQ ⟨k,⟨(Xe n).toArray⟩,a⟩=some n:=by
 have hd:∀c∈P6 (n.toNat / 100),P4 c:=λc hc=>(Xk _ c hc).1;have d1:=S2 (i:=n.toNat % 100 / 10) (by omega);have d2:=S2 (i:=n.toNat % 10) (by omega);have hl:=Xl 9 (n.toNat / 100) (by omega);unfold BQ;have hr:=xW (r:=[S1 (n.toNat % 100 / 10),S1 (n.toNat % 10)]) hd
 have:Lj ⟨(Xe n).toArray⟩ Sy V4 1=some ⟨(P6 (n.toNat / 100)++[S1 (n.toNat % 100 / 10),S1 (n.toNat % 10)]).toArray⟩:=by
   unfold Lj
   rw[if_pos ⟨by decide,by
     have h1:(V4).size=0:=rfl;have h2:(⟨(Xe n).toArray⟩:ByteArray).size=(Xe n).length:=by simp[ByteArray.size]
     rw[h1,h2];unfold Xe;simp only[V5,Yy,aOD];omega⟩]
   have:(Sy).data.toList=[46]:=rfl;rw[this];simp only[blF];rw[show(V4).data.toList=[] from rfl];unfold Xe;rw[hr]
 dsimp only
 rw[this,NF,uL (u:=n.toNat) (by simp) (by simp;omega) (by
   intro c hc;rcases bjK.1 hc with hc | hc
   exact hd c hc;simp only[biX,bkW,or_false] at hc;rcases hc with rfl | rfl
   exact d1.2.1;exact d2.2.1) (by
   rw[show P6 (n.toNat / 100)++[S1 (n.toNat % 100 / 10),S1 (n.toNat % 10)]=(P6 (n.toNat / 100)++[S1 (n.toNat % 100 / 10)])++[S1 (n.toNat % 10)] by simp,Oh,Oh,aeU,NF,d1.1,biQ,NF,d2.1,biQ];congr 1;omega)]
 simp only[NF];congr 1;omega
end Mo
end Go.Proofs.YtpbkhogolfegfaaGreatDoor

namespace Go.Proofs.YtpbkhogolfegfaaGreatDoor
open AI Go
namespace Mo
set_option maxRecDepth 100000
set_option maxHeartbeats 4000000
abbrev eS:ByteArray:=V4
def agE(c:Int):EM c=some (mb (97<=c/\c<=122)):=by
 rw[EM];simp only[G6,C4,LW,IM]
def azQ(c:Int):Ee c=some (mb (48<=c/\c<=57)):=by
 rw[Ee];simp only[G6,C4,LW,IM]
def aFS(c:Int):Di c=some (mb (65<=c/\c<=90)):=by
 rw[Di];simp only[G6,C4,LW,IM]
def P0(n a b:Int):Ba n a b=some (mb (a<=n/\n<=b)):=by
 rw[Ba];simp only[G6,C4,LW,IM]
def aQK(l:List ByteArray)(s:ByteArray)(hl:l.length<=9223372036854775807):Li l s=some (mb (s∈l)):=by
 unfold Li
 rw[Pb (v:=true) (P:=λ_ y=>¬y=s) hl (λi y _=>by
   unfold ZM;simp only[EJ,C4,akM])]
 simp only[bfZ];refine S8 ?_;constructor;intro h;exact Classical.byContradiction λhn=>h λi y hy e=>hn (e▸bcH hy);intro h hn;obtain⟨i,hi⟩:=bmD h;exact hn i s hi rfl
def aID(s:ByteArray):J7 s=some (mb (dO s)):=by
 rw[J7,BY,C4];unfold dO;by_cases h:s.data.toList.length=3
 · rw[Ay (by omega)]
   generalize s.data.toList=l at h
   match l,h with
   | [a,b,c],_ =>
     simp only[bjV,bmV,NF,aFS,C4,IM];refine S8 ?_;simp only[Yy,aOD,biX,bkW,or_false,true_and,forall_eq_or_imp,forall_eq];omega
 rw[AD (by omega)];exact NT λq=>h q.1
def atM(s:ByteArray):Kk s=some (mb (JW s)):=by
 rw[Kk];simp only[IZ,C4];unfold JW;by_cases h0:((s.data.toList.length:Nat):Int) < 1;rw[Ay h0];exact NT λh=>by omega
 rw[AD h0];by_cases h1:16 < ((s.data.toList.length:Nat):Int);rw[Ay h1];exact NT λh=>by omega
 rw[AD h1];obtain⟨b,hb⟩:∃b,s.data.toList[0]?=some b:=⟨_,abI (by omega)⟩;rw[hb,show SD=some RD from rfl];simp only[NF,agE,C4]
 rw[aQK _ _ (by decide),Pb (v:=false) (P:=λ_ y=>oP y) (by omega) (λi y _=>by
   simp only[VH,agE,azQ,NF,C4,BY,wH,aYI];congr 2;unfold oP;apply propext;omega)]
 simp only[NF,C4,LW,aYQ,IM,Wb];refine S8 ?_;constructor;rintro⟨h3,h5,h6⟩;exact⟨by omega,⟨b,rfl,by omega⟩,h5,h6⟩;rintro⟨h3,⟨c,hc,h4⟩,h5,h6⟩;cases hc;exact⟨by omega,h5,h6⟩
def zD(n:Nd):Prop:=n.fr=0/\n.to=0/\n.known=0
def zT(n:Nd):Prop:=n.BK.den=0/\n.BK.ps=[]
def rD{α:Type}(l:List α):(((l.length:Nat):Int)=0)=(l=[]):=propext ⟨λh=>biP (by omega),λh=>by rw[h];rfl⟩
section
variable (n:Nd)
def pD:Fu n=some (mb (n.name=eS/\n.unit=eS/\n.n=0/\zD n/\zT n)):=by
 rw[Fu];simp only[BY,EJ,C4,LW,IM,rD,zD,zT];exact S8 (by simp only[and_assoc])
def anN:Hc n=some (mb (n.name=eS/\zD n/\zT n/\n.kids=[])):=by
 rw[Hc];simp only[BY,EJ,C4,LW,IM,rD,zD,zT];exact S8 (by simp only[and_assoc])
def aMJ:Hb n=some (mb (n.unit=eS/\n.n=0/\zD n/\zT n/\n.kids=[])):=by
 rw[Hb];simp only[BY,EJ,C4,LW,IM,rD,zD,zT];exact S8 (by simp only[and_assoc])
def aML:K4 n=some (mb (n.name=eS/\n.unit=eS/\zD n/\zT n/\n.kids=[])):=by
 rw[K4];simp only[BY,EJ,C4,LW,IM,rD,zD,zT];exact S8 (by simp only[and_assoc])
def ayY:Gw n=some (mb (n.unit=eS/\n.n=0/\zD n/\zT n)):=by
 rw[Gw];simp only[BY,EJ,C4,LW,IM,rD,zD,zT];exact S8 (by simp only[and_assoc])
def azA:Kn n=some (mb (n.name=eS/\n.unit=eS/\n.n=0/\zD n)):=by
 rw[Kn];simp only[BY,EJ,C4,LW,IM,zD]
def aMK:E5 n=some (mb (n.n=0/\zD n/\zT n/\n.kids=[])):=by
 rw[E5];simp only[BY,EJ,C4,LW,IM,rD,zD,zT];exact S8 (by simp only[and_assoc])
def aMM:E6 n=some (mb (zD n/\zT n/\n.kids=[])):=by
 rw[E6];simp only[BY,EJ,C4,LW,IM,rD,zD,zT];exact S8 (by simp only[and_assoc])
def ayZ:EG n=some (mb (n.unit=eS/\zD n/\zT n)):=by
 rw[EG];simp only[BY,EJ,C4,LW,IM,rD,zD,zT];exact S8 (by simp only[and_assoc])
def ayX:Km n=some (mb (n.name=eS/\n.unit=eS/\zT n/\n.kids=[])):=by
 rw[Km];simp only[BY,EJ,C4,LW,IM,rD,zT];exact S8 (by simp only[and_assoc])
end
def acB{α:Type}{l:List α}:l.length=0↔l=[]:=List.length_eq_zero_iff
def cG{a d m:Int}(hd:0 < d)(h:a.tmod d=0):(-m<=a.tdiv d/\a.tdiv d<=m)↔(-(m*d)<=a/\a<=m*d):=by
 have e:d*a.tdiv d=a:=Int.mul_tdiv_cancel' (Int.dvd_of_tmod_eq_zero h);generalize a.tdiv d=q at *;subst e;constructor;rintro⟨h1,h2⟩;have a1:=boT h1 (brH hd);have a2:=boT h2 (brH hd);rw[Int.mul_neg,boZ d m] at a1;rw[boZ d m] at a2;exact⟨a1,a2⟩;rintro⟨h1,h2⟩;rw[boZ m d] at h1 h2;refine⟨bpJ ?_ hd,bpJ h2 hd⟩;rw[Int.mul_neg];exact h1
def aFK(f:Fn)(hf:wY f):MV f=some (mb (Zd f)):=by
 obtain⟨hl,hpc⟩:=hf;rw[MV,P0,P0];simp only[NF,C4];by_cases hr:1<=f.den/\f.den<=1000000;rotate_left;rw[AD hr];exact NT λq=>hr q.1;rw[Ay hr];by_cases hn:1<=((f.ps.length:Nat):Int)/\((f.ps.length:Nat):Int)<=64;rotate_left;rw[AD hn];exact NT λq=>hn ⟨by have:=q.2.1;omega,by have:=q.2.1;omega⟩
 rw[Ay hn,Pb (v:=false) (P:=λi y=>XR f i y/\(i=0->y.fr=0)) hl (λi y hy=>by
   have hi:i < f.ps.length:=(abH.1 hy).1;obtain⟨_,Xs,_⟩:=hpc y (bcH hy);have aAS:f.den≠0:=by omega
   have hd0:0 < f.den:=by omega
   have hm:Xm y.Bc f.den=some (y.Bc.tmod f.den):=by unfold Xm NA;rw[if_neg aAS]
   have hq:Oj y.Bc f.den=some (y.Bc.tdiv f.den):=by
     unfold Oj Ux;rw[if_neg aAS];have h1:(y.Bc.tdiv f.den).natAbs<=y.Bc.natAbs:=Int.natAbs_tdiv_le_natAbs _ _
     have h3:-9223372036854775808<=y.Bc.tdiv f.den/\y.Bc.tdiv f.den<=9223372036854775807:=by
       by_cases bdV:f.den=1;rw[bdV,Int.tdiv_one];exact Xs;have h2:y.Bc.natAbs<=9223372036854775808:=by omega
       have h4:(y.Bc.tdiv f.den).natAbs < 9223372036854775808:=by
         rw[brV];have h5:2<=f.den.natAbs:=by omega
         have:y.Bc.natAbs / f.den.natAbs<=y.Bc.natAbs / 2:=Nat.div_le_div_left h5 (by decide);have h6:y.Bc.natAbs / 2<=9223372036854775808 / 2:=Nat.div_le_div_right h2;exact Nat.lt_of_le_of_lt (Nat.le_trans this h6) (by decide)
       omega
     congr 1;have h7:=P1 h3;rw[Nz] at h7;exact h7
   have beN:CK 999999999999 f.den=999999999999*f.den:=FG (by omega);have beO:CK (-999999999999) f.den=-(999999999999*f.den):=by rw[FG (by omega)];omega
   simp only[Um,hm,hq,P0,NF,BY,IZ,G6,C4];unfold XR;rw[hm,beN,beO];by_cases h0:i=0;subst h0;rw[Ay (show(((0:Nat):Int)=0) from rfl)];simp only[wH,akN,asJ];congr 2;apply propext;simp only[aOE,Nat.lt_irrefl,false_implies,implies_true,true_and];constructor;rintro⟨a,b,c,d,e⟩;have:=(cG (m:=999999999999) hd0 a).1 b;exact⟨⟨by omega,a,this.2,this.1,c.2,c.1⟩,λ_=>e⟩;rintro⟨⟨a,b,c,d,e,g⟩,h⟩;exact⟨b,(cG hd0 b).2 ⟨d,c⟩,⟨g,e⟩,by omega,h trivial⟩;rw[AD (show ¬(((i:Nat):Int)=0) by omega),Ay (show(0:Int) < ((i:Nat):Int) by omega),FH (by omega)];obtain⟨pv,hpq⟩:∃pv,f.ps[i - 1]?=some pv:=⟨_,abI (by omega)⟩
   have hg:F9 f.ps (((i:Nat):Int) - 1)=some pv:=by
     unfold F9;rw[show(((i:Nat):Int) - 1).toNat=i - 1 by omega,if_pos (by omega)];exact hpq
   rw[hg,hpq];simp only[NF,akM,akN,asJ];congr 2;apply propext;simp only[aOE,forall_eq'];constructor;rintro⟨a,b,c,d,e⟩;have:=(cG (m:=999999999999) hd0 a).1 b;exact⟨⟨by omega,λq _ e=>by subst e;omega,a,this.2,this.1,c.2,c.1⟩,λq=>absurd q h0⟩;rintro⟨⟨a,p,b,c,d,e,g⟩,h⟩;exact⟨b,(cG hd0 b).2 ⟨d,c⟩,⟨g,e⟩,by omega,by have:=p pv (by omega) rfl;omega⟩),LW]
 refine S8 ?_;unfold Zd Iw;constructor;intro h;exact⟨hr,by omega,λx hx=>(h 0 x hx).2 rfl,λi p hp=>(h i p hp).1⟩;rintro⟨_,_,h3,h4⟩ i p hp;exact⟨h4 i p hp,λe=>h3 p (by rw[<- e];exact hp)⟩
def atX(n:Nd):Iz n=some (mb (n.kind=11/\(n.name=eS/\zD n/\zT n/\n.kids=[])/\n.unit=Cp/\Iw n.n)):=by
 rw[Iz,anN,P0];simp only[NF,BY,EJ,C4,IM];rfl
def ahX(l m:List Nd):D7 (l++m)=D7 l+D7 m:=by
 induction l with
 | nil=>simp[D7]
 | cons a l ih=>simp only[bcE,D7,ih];omega
def axC{l:List Nd}{i:Nat}{y:Nd}(h:l[i]?=some y):D7 (l.take (i+1))=D7 (l.take i)+Cr y:=by
 rw[List.take_add_one,h,ahX];simp[D7]
def axD(l:List Nd)(i:Nat):D7 (l.take i)<=D7 l:=by
 have:=ahX (l.take i) (l.drop i);rw[List.take_append_drop] at this;omega
def aVL:∀(n:Nat) (e:Nd) (l:Int),GZ e->Cr e<=n->l<=1000000->Gs n e l=some (max 0 (min ((Cr e:Nat):Int) l)):=by
 intro n
 induction n with
 | zero=>intro e l _ h;have:=Cu e;omega
 | succ n ih =>
   intro e l MG hn hl;obtain⟨_,hk,Tj⟩:=Pg MG;have hp:=Cu e;rw[Gs,Ra,aHQ];simp only[G6,C4,aaB,W5];refine⟨λh=>by omega,λh=>?_⟩;refine ayN (λi x=>x=min (((1+D7 (e.kids.take i):Nat)):Int) l) hk (by simp[D7];omega) (λi y x hy hx=>?_) (λx hx=>?_);have hm:=bcH hy;have h1:=axC hy;have h2:=axD e.kids (i+1);have h3:=MY hm;simp only[Uj,IZ,C4,aaB,aeG,W5,aUS,aUR];refine⟨λh4=>?_,λh4=>by omega⟩;rw[FH (by omega),ih y (l - x) (Tj y hm) (by omega) (by omega),W5,Ca (by omega)];omega;rw[List.take_length] at hx;rw[W5];omega
def aIG(e:Nd)(l:Int)(h:GZ e)(hl:0<=l/\l < 1000000):Lx e l=some (mb (((Cr e:Nat):Int)<=l)):=by
 have hc:Rb e (l+1)=some (max 0 (min ((Cr e:Nat):Int) (l+1))):=TN (Cr e) λn hn=>aVL n e (l+1) h hn (by omega);rw[Lx,Ca (by omega),hc,aHQ];simp only[G6,C4,aaB,W5,aeG,adR,Zt];omega
def aNM:∀(n:Nat) (e:Nd) (l:Int),GZ e->Cr e<=n->-1000000<=l->l<=1000000->Hk n e l=some (mb (((Mq e:Nat):Int)<=l)):=by
 intro n
 induction n with
 | zero=>intro e l _ h;have:=Cu e;omega
 | succ n ih =>
   intro e l MG hn hl0 hl;obtain⟨_,hk,Tj⟩:=Pg MG;have hp:=Ky e;rw[Hk,SB,IZ,C4];by_cases h:l < 1;rw[Ay h];refine NT ?_;omega
   rw[AD h,Pb (v:=false) (P:=λ_ y=>((Mq y:Nat):Int)<=l - 1) hk (λi y hy=>by
     have hm:=bcH hy;have h3:=MY hm;simp only[VG];rw[FH (by omega),ih y (l - 1) (Tj y hm) (by omega) (by omega) (by omega)];simp only[NF,C4,wH]),LW,Wb]
   refine S8 ?_
   have h4:(∀k∈e.kids,((Mq k:Nat):Int)<=l - 1)↔Yh e.kids<=(l - 1).toNat:=by
     rw[Yu];exact⟨λh k hk=>by have:=h k hk;omega,λh k hk=>by have:=h k hk;omega⟩
   rw[h4];omega
def aNJ(e:Nd)(h:GZ e):OF e=some (mb (Cr e<=2000/\Mq e<=40)):=by
 have hf:SC e 40=some (mb (((Mq e:Nat):Int)<=40)):=TN (Cr e) λn hn=>aNM n e 40 h hn (by omega) (by omega);rw[OF,aIG e 2000 h (by omega),hf];simp only[NF,C4,IM];refine S8 ?_;omega
def vG{n:Nd}{nm un:ByteArray}{k f t w:Int}{tb:Fn}:EZ n ⟨0,nm,un,k,f,t,w,tb,[],0⟩↔n.name=nm/\n.unit=un/\n.n=k/\n.fr=f/\n.to=t/\n.known=w/\n.BK.den=tb.den/\n.BK.ps=tb.ps:=Iff.rfl
def UQ{k:Nd}:OQ k/\Qb k↔(k.kind=11/\(k.name=eS/\zD k/\zT k/\k.kids=[])/\k.unit=Cp/\Iw k.n):=by
 rw[MF];unfold Qb zD zT Iw;constructor;rintro⟨⟨h1,_⟩,h2,h3,h4⟩;obtain⟨_,_,_,_,hl,hb⟩:=(aaY h2).1 h1;obtain⟨b1,_,_,b4,b5,b6,b7,b8⟩:=vG.1 hb;exact⟨h2,⟨b1,⟨b4,b5,b6⟩,⟨b7,b8⟩,acB.1 hl⟩,h3,h4⟩;rintro⟨h2,⟨b1,⟨b4,b5,b6⟩,⟨b7,b8⟩,hl⟩,h3,h4⟩;refine⟨⟨(aaY h2).2 ⟨.inr (.inl h3),by omega,by omega,λe=>?_,by rw[hl];rfl,vG.2 ⟨b1,rfl,rfl,b4,b5,b6,b7,b8⟩⟩,λk hk=>by rw[hl] at hk;cases hk⟩,h2,h3,h4⟩;rw[h3] at e;exact absurd (congrArg ByteArray.data e) (by decide)
def azW:∀(q:Nat) (n:Nd),GZ n->2*Cr n<=q->Em q n=some (mb (OQ n)):=by
 intro q
 induction q using bmF with
 | _ q ih =>
 intro n MG hq;have hsz:=Cu n;obtain⟨q,rfl⟩:∃k,q=k+1:=⟨q - 1,by omega⟩;obtain⟨jX,bI,Tj⟩:=Pg MG;have hfn:=((Pf n).1 MG).1;have hE:∀k∈n.kids,∀q',q<=q'+1->q' < q+1->Em q' k=some (mb (OQ k)):=λk hk q' h4 h5=>ih q' h5 k (Tj k hk) (by have:=JE hk;omega)
 have hL:0 < n.kids.length->FF q n.kids=some (mb (∀k∈n.kids,OQ k)):=by
   intro h;obtain⟨q,rfl⟩:∃k,q=k+1:=⟨q - 1,by have:=Ja n.kids;omega⟩
   rw[FF,Rf,Pb (v:=false) (P:=λ_ y=>OQ y) bI (λi y hy=>by
     simp only[Ul];rw[hE y (bcH hy) q (by omega) (by omega)];simp only[NF,C4,wH]),LW,Wb]
 rw[Em,SF];simp only[BY,EJ,G6,C4,anN,aMJ,aML,pD,ayY,azA,P0,aID,atM,atX,aFK _ hfn,NF];rw[MF];have rM:n.kids=[]->(∀k∈n.kids,OQ k):=λh k hk=>by rw[h] at hk;cases hk
 by_cases jY:n.kind=11;rw[Ay jY,aaY jY,vG,acB];simp only[LW,IM,aBT,Si,zD,zT,Kw];have tt:FW (dO n.unit) (some true) (some true)=some (mb True):=by rw[Si,mbT]
 have hb:∀{A:Prop},FW A (some (mb True)) (some false)=some (mb A):=by intro A;rw[IM];exact S8 (by simp)
 first
   | (simp only[tt,mbT,IM,aBS])
   | skip
 refine S8 ⟨?_,?_⟩;rintro⟨⟨b1,⟨b2,b3,b4⟩,⟨b5,b6⟩,b7⟩,h1,h2⟩;refine⟨?_,rM b7⟩;by_cases ht:n.unit=E8;have:=h1 ht;exact⟨.inl ht,by omega,by omega,λ_=>by omega,b7,b1,trivial,trivial,b2,b3,b4,b5,b6⟩;obtain⟨h3,h4⟩:=h2 ht;refine⟨?_,by omega,by omega,λh=>absurd h ht,b7,b1,trivial,trivial,b2,b3,b4,b5,b6⟩;rcases h4 with h | h | h
 exact .inr (.inr (.inr h));exact .inr (.inl h);exact .inr (.inr (.inl h));rintro⟨⟨h0,h1,h2,h3,b7,b1,_,_,b2,b3,b4,b5,b6⟩,_⟩;refine⟨⟨b1,⟨b2,b3,b4⟩,⟨b5,b6⟩,b7⟩,λht=>⟨⟨h1,h3 ht⟩,h1,h2⟩,λht=>⟨⟨h1,h2⟩,?_⟩⟩;rcases h0 with h | h | h | h
 exact absurd h ht;exact .inr (.inl h);exact .inr (.inr h);exact .inl h;rw[AD jY];by_cases mU:n.kind=12;rw[Ay mU,apN mU,vG,acB];simp only[IM,zD,zT];refine S8 ?_;constructor;rintro⟨⟨b1,b2,⟨b3,b4,b5⟩,⟨b6,b7⟩,b8⟩,h⟩;exact⟨⟨h,b8,trivial,b1,b2,b3,b4,b5,b6,b7⟩,rM b8⟩;rintro⟨⟨h,b8,_,b1,b2,b3,b4,b5,b6,b7⟩,_⟩;exact⟨⟨b1,b2,⟨b3,b4,b5⟩,⟨b6,b7⟩,b8⟩,h⟩;rw[AD mU];by_cases jZ:n.kind=13;rw[Ay jZ,apO jZ,vG,acB];simp only[IM,zD,zT];refine S8 ?_;constructor;rintro⟨⟨b1,b2,⟨b3,b4,b5⟩,⟨b6,b7⟩,b8⟩,h⟩;exact⟨⟨h,b8,b1,b2,trivial,b3,b4,b5,b6,b7⟩,rM b8⟩;rintro⟨⟨h,b8,b1,b2,_,b3,b4,b5,b6,b7⟩,_⟩;exact⟨⟨b1,b2,⟨b3,b4,b5⟩,⟨b6,b7⟩,b8⟩,h⟩;rw[AD jZ];by_cases k14:n.kind=14;rw[Ay k14,apP k14,vG,acB,aQK _ _ (by decide)];simp only[NF,IM,zD,zT];refine S8 ?_
 have hd:n.name∈[IG,Yr,Mv,RY]↔TM n.name:=by
   unfold TM;simp only[biX,bkW,or_false]
 rw[hd];constructor;rintro⟨⟨b1,b2,⟨b3,b4,b5⟩,⟨b6,b7⟩,b8⟩,h⟩;exact⟨⟨h,b8,trivial,b1,b2,b3,b4,b5,b6,b7⟩,rM b8⟩;rintro⟨⟨h,b8,_,b1,b2,b3,b4,b5,b6,b7⟩,_⟩;exact⟨⟨b1,b2,⟨b3,b4,b5⟩,⟨b6,b7⟩,b8⟩,h⟩;rw[AD k14]
 have hone:∀{β:Type} (f:Bool->Option β),n.kids.length=1->((n.kids[0]?).bind λx=>(Em q x).bind f)=f (mb (∀k∈n.kids,OQ k)):=by
   intro β f hl;have hE0:=λk hk=>hE k hk q (by omega) (by omega);generalize n.kids=ks at *
   match ks,hl with
   | [x],_ =>
   simp only[bjV,NF];rw[hE0 x (by simp)];simp only[NF];congr 1;exact LY (by simp)
 by_cases kA:n.kind=15;rw[Ay kA,apQ kA,vG];by_cases hl:n.kids.length=1;rw[Ay (show((n.kids.length:Nat):Int)=1 by omega),hone _ hl];simp only[IM,zD,zT];refine S8 ?_;constructor;rintro⟨⟨b1,b2,b0,⟨b3,b4,b5⟩,⟨b6,b7⟩⟩,h⟩;exact⟨⟨hl,b1,b2,b0,b3,b4,b5,b6,b7⟩,h⟩;rintro⟨⟨_,b1,b2,b0,b3,b4,b5,b6,b7⟩,h⟩;exact⟨⟨b1,b2,b0,⟨b3,b4,b5⟩,⟨b6,b7⟩⟩,h⟩;rw[AD (show ¬((n.kids.length:Nat):Int)=1 by omega),Si];exact NT λa=>hl a.1.1;rw[AD kA];by_cases kB:n.kind=16
 · rw[Ay kB,apR kB,vG,aQK _ _ (by decide)]
   have Zz:n.name∈[rR,QR,I4,J6,Mg,Jt,Sx,Fj,Ve,BI,uK]↔bU n.name:=by
     unfold bU;simp only[biX,bkW,or_false];constructor;rintro(h | h | h | h | h | h | h | h | h | h | h)<;>simp[h]
     rintro(h | h | h | h | h | h | h | h | h | h | h)<;>simp[h]
   by_cases hl:n.kids.length=2;rotate_left;rw[AD (show ¬((n.kids.length:Nat):Int)=2 by omega),Si];exact NT λa=>hl a.1.2.1;rw[Ay (show((n.kids.length:Nat):Int)=2 by omega),hL (by omega)];have hk1:n.kids[1]?=some n.kids[1]:=abI (by omega);have YA:n.kids[1]∈n.kids:=bnJ _;rw[hk1];simp only[NF,atX,C4,IM,aBS,Zz,zD,zT];refine S8 ?_;have aPO:=@UQ n.kids[1];unfold zD zT at aPO;generalize n.kids[1]=x at *;simp only[aOE,forall_eq'];constructor;rintro⟨⟨b2,b0,⟨b3,b4,b5⟩,⟨b6,b7⟩⟩,h1,h2⟩;by_cases hs:n.name=BI;obtain⟨c1,c2,c3⟩:=h1 hs;exact⟨⟨⟨trivial,b2,b0,b3,b4,b5,b6,b7⟩,hl,c2,λ_=>(aPO.2 c1).2⟩,c3⟩;obtain⟨c2,c3⟩:=h2 hs;exact⟨⟨⟨trivial,b2,b0,b3,b4,b5,b6,b7⟩,hl,c2,λh=>absurd h hs⟩,c3⟩;rintro⟨⟨⟨_,b2,b0,b3,b4,b5,b6,b7⟩,_,c2,c1⟩,c3⟩;exact⟨⟨b2,b0,⟨b3,b4,b5⟩,⟨b6,b7⟩⟩,λhs=>⟨aPO.1 ⟨c3 x YA,c1 hs⟩,c2,c3⟩,λ_=>⟨c2,c3⟩⟩
 rw[AD kB];by_cases k17:n.kind=17
 · rw[Ay k17,apS k17,vG]
   by_cases hl:2<=n.kids.length;rotate_left;rw[AD (show ¬2<=((n.kids.length:Nat):Int) by omega),Si];exact NT λa=>hl a.1.2.2;rw[Ay (show 2<=((n.kids.length:Nat):Int) by omega),hL (by omega)];simp only[NF,IM,aBS,zD,zT];refine S8 ?_;constructor;rintro⟨⟨b2,b0,⟨b3,b4,b5⟩,⟨b6,b7⟩⟩,h1,h2⟩;by_cases hs:n.name=KA;exact⟨⟨.inl hs,⟨trivial,b2,b0,b3,b4,b5,b6,b7⟩,hl⟩,h1 hs⟩;exact⟨⟨.inr (h2 hs).1,⟨trivial,b2,b0,b3,b4,b5,b6,b7⟩,hl⟩,(h2 hs).2⟩;rintro⟨⟨c1,⟨_,b2,b0,b3,b4,b5,b6,b7⟩,_⟩,c3⟩;exact⟨⟨b2,b0,⟨b3,b4,b5⟩,⟨b6,b7⟩⟩,λ_=>c3,λhs=>⟨c1.resolve_left hs,c3⟩⟩
 rw[AD k17];by_cases kC:n.kind=18;rw[Ay kC,apT kC,vG];by_cases hl:n.kids.length=1;rw[Ay (show((n.kids.length:Nat):Int)=1 by omega),hone _ hl];simp only[C4,IM,zD];refine S8 ?_;constructor;rintro⟨⟨b1,b2,b0,⟨b3,b4,b5⟩⟩,h,h2⟩;exact⟨⟨⟨b1,b2,b0,b3,b4,b5,trivial,trivial⟩,h2,hl⟩,h⟩;rintro⟨⟨⟨b1,b2,b0,b3,b4,b5,_,_⟩,h2,_⟩,h⟩;exact⟨⟨b1,b2,b0,⟨b3,b4,b5⟩⟩,h,h2⟩;rw[AD (show ¬((n.kids.length:Nat):Int)=1 by omega),Si];exact NT λa=>hl a.1.2.2;rw[AD kC];exact NT λa=>by have:=Xp a.1;omega
def apX{n:Nd}(MG:GZ n):I7 n=some (mb (OQ n)):=TN (2*Cr n) λq hq=>azW q n MG hq
def aOJ{n:Nd}:Gn n=some (mb (M7 n)):=by
 rw[Gn,ayX];simp only[P0,NF,BY,C4];unfold M7;rw[vG,acB];unfold zT uX;by_cases hf:0<=n.fr/\n.fr<=36524;rw[Ca (by omega)];simp only[IM];refine S8 ⟨?_,?_⟩;rintro⟨k5,⟨b1,b2,⟨b3,b4⟩,b5⟩,⟨h1,h2⟩,h3,⟨h4,h5⟩,h6⟩;exact⟨k5,⟨h1,h2⟩,b5,h3,⟨by omega,h5⟩,h6,b1,b2,trivial,trivial,trivial,trivial,b3,b4⟩;rintro⟨k5,h1,b5,h3,⟨h4,h5⟩,h6,b1,b2,_,_,_,_,b3,b4⟩;exact⟨k5,⟨b1,b2,⟨b3,b4⟩,b5⟩,h1,h3,⟨by omega,h5⟩,h6⟩;rw[AD hf];simp only[Si];exact NT λa=>hf a.2.2.2.1
def akW(l:List Nd)(hl:l.length<=9223372036854775807):K5 l=some (mb (0 < l.length/\∀k∈l,OQ k/\Qb k)):=by
 rw[K5,Pb (v:=false) (P:=λ_ k=>OQ k/\Qb k) hl (λi k _=>by
   simp only[RN,atX,NF,C4,wH,UQ]),IZ,C4]
 simp only[LW,IM,Wb];exact S8 ⟨λa=>⟨by omega,a.1⟩,λa=>⟨a.2,by omega⟩⟩
def aaK(n:Nd):EZ n z0↔n.name=eS/\n.unit=eS/\n.n=0/\zD n/\zT n:=by
 unfold zD zT;rw[vG];simp only[and_assoc]
def TJ:∀{l:List Nd} {i:Nat} {a b:Nat},(∀x∈l,GZ x)->a+l.length<=9223372036854775807->b+l.length<=9223372036854775807 ->
   Bs (λi y x=>EH i y x.1 x.2) (λx=>(x.1,x.2)) l i (((a:Nat):Int),((b:Nat):Int))=(some (FW (kinds l/\∀k∈l,BO k) (.inl (((a+Dj 7 l:Nat):Int),((b+Dj 8 l:Nat):Int))) (.inr false)):Option ((Int×Int)⊕Bool))
 | [],i,a,b,_,_,_=>by rw[Ay (show kinds []/\_ from ⟨λk hk=>(by cases hk),λk hk=>(by cases hk)⟩)];rfl
 | x::l,i,a,b,MG,ha,hb=>by
   simp only[Yy] at ha hb;have hx:=MG x (by simp);obtain⟨jX,bI,Tj⟩:=Pg hx;rw[Bs,EH,pD];simp only[NF,BY,C4,akW _ bI]
   have abP:(kinds (x::l)/\∀k∈x::l,BO k)↔((6<=x.kind/\x.kind<=8)/\BO x)/\kinds l/\∀k∈l,BO k:=by
     unfold kinds;simp only[biX,forall_eq_or_imp];exact⟨λ⟨⟨p,q⟩,r,s⟩=>⟨⟨p,r⟩,q,s⟩,λ⟨⟨p,r⟩,q,s⟩=>⟨⟨p,q⟩,r,s⟩⟩
   have stop:¬((6<=x.kind/\x.kind<=8)/\BO x)->(some (Lp.rt false):Option (Lp (Int×Int) (Int×Int) Bool)).bind (NX (Bs (λi y x=>EH i y x.1 x.2) (λx=>(x.1,x.2)) l (i+1)))=some (FW (kinds (x::l)/\∀k∈x::l,BO k) (.inl (((a+Dj 7 (x::l):Nat):Int),((b+Dj 8 (x::l):Nat):Int))) (.inr false)):=by
     intro h;rw[AD λq=>h (abP.1 q).1];rfl
   have go:∀{a' b':Nat},((6<=x.kind/\x.kind<=8)/\BO x)->a'<=a+1->b'<=b+1->a'+Dj 7 l=a+Dj 7 (x::l)->b'+Dj 8 l=b+Dj 8 (x::l)->(some (Lp.nx (((a':Nat):Int),((b':Nat):Int))):Option (Lp (Int×Int) (Int×Int) Bool)).bind (NX (Bs (λi y x=>EH i y x.1 x.2) (λx=>(x.1,x.2)) l (i+1)))=some (FW (kinds (x::l)/\∀k∈x::l,BO k) (.inl (((a+Dj 7 (x::l):Nat):Int),((b+Dj 8 (x::l):Nat):Int))) (.inr false)):=by
     intro a' b' h h1 h2 e1 e2;have ih:=TJ (l:=l) (i:=i+1) (a:=a') (b:=b') (λy hy=>MG y (by simp[hy])) (by omega) (by omega);rw[e1,e2] at ih;show Bs _ _ l (i+1) _=_;rw[ih];by_cases hr:kinds l/\∀k∈l,BO k;rw[Ay hr,Ay (abP.2 ⟨h,hr⟩)];rw[AD hr,AD λq=>hr (abP.1 q).2]
   rw[<- aaK];by_cases hb0:EZ x z0;rotate_left
   · rw[AD hb0];exact stop λq=>hb0 q.2.1
   rw[Ay hb0]
   have one:∀{A B:Option (Lp (Int×Int) (Int×Int) Bool)},x.kind≠7->(BO x->A.bind (NX (Bs (λi y x=>EH i y x.1 x.2) (λx=>(x.1,x.2)) l (i+1)))=some (FW (kinds (x::l)/\∀k∈x::l,BO k) (.inl (((a+Dj 7 (x::l):Nat):Int),((b+Dj 8 (x::l):Nat):Int))) (.inr false))) ->
       (FW (((x.kids.length:Nat):Int)=1) ((x.kids[0]?).bind λx2=>(I7 x2).bind λy3=>cond y3 A (some (.rt false))) (some (.rt false))).bind (NX (Bs (λi y x=>EH i y x.1 x.2) (λx=>(x.1,x.2)) l (i+1)))=some (FW (kinds (x::l)/\∀k∈x::l,BO k) (.inl (((a+Dj 7 (x::l):Nat):Int),((b+Dj 8 (x::l):Nat):Int))) (.inr false)):=by
     intro A B k7 hA;by_cases hl:x.kids.length=1;rotate_left
     · rw[AD (by omega)];exact stop λq=>hl (q.2.2.2 k7).1
     rw[Ay (by omega)]
     obtain⟨k,hk⟩:∃k,x.kids=[k]:=by
       generalize x.kids=ks at hl
       match ks,hl with
       | [k],_=>exact⟨k,rfl⟩
     have h0:x.kids[0]?=some k:=by rw[hk];rfl
     rw[h0];simp only[NF];rw[apX (Tj k (by rw[hk];simp))];simp only[NF,C4]
     have hc:BO x↔OQ k:=by
       unfold BO;constructor;intro q;exact(q.2.2 k7).2 k (by rw[hk];simp);intro q;exact⟨hb0,λh=>absurd h k7,λ_=>⟨hl,λk' jW=>by rw[hk,bjB] at jW;rw[jW];exact q⟩⟩
     by_cases he:OQ k;rw[Ay he];exact hA (hc.2 he)
     · rw[AD he];exact stop λq=>he (hc.1 q.2)
   by_cases k6:x.kind=6;rw[Ay k6];refine one (B:=none) (by omega) λh=>go ⟨by omega,h⟩ (by omega) (by omega) (by simp[Dj,k6]) (by simp[Dj,k6]);rw[AD k6];by_cases k8:x.kind=8;rw[Ay k8,Ca (by omega),show((b:Nat):Int)+1=((b+1:Nat):Int) by omega];refine one (B:=none) (by omega) λh=>go ⟨by omega,h⟩ (by omega) (by omega) (by simp[Dj,k8]) (by simp[Dj,k8];omega);rw[AD k8];by_cases k7:x.kind=7
   · rw[Ay k7]
     have hc:BO x↔(0 < x.kids.length/\∀k∈x.kids,OQ k/\Qb k):=by
       unfold BO;exact⟨λq=>q.2.1 k7,λq=>⟨hb0,λ_=>q,λh=>absurd k7 h⟩⟩
     rw[<- hc];by_cases h:BO x;rw[Ay h,Ca (by omega),show((a:Nat):Int)+1=((a+1:Nat):Int) by omega];exact go ⟨by omega,h⟩ (by omega) (by omega) (by simp[Dj,k7];omega) (by simp[Dj,k7])
     · rw[AD h];exact stop λq=>h q.2
   · rw[AD k7];exact stop λq=>by have:=q.1;omega
def ajS(l:List Nd)(MG:∀x∈l,GZ x)(hl:l.length<=9223372036854775807):El l=some (mb ((kinds l/\∀k∈l,BO k)/\Dj 7 l<=1/\Dj 8 l=1)):=by
 have h:=TJ (l:=l) (i:=0) (a:=0) (b:=0) MG (by omega) (by omega);rw[El,B0 hl,bjJ];rw[show(((0:Nat):Int))=0 from rfl] at h;rw[h];by_cases hc:kinds l/\∀k∈l,BO k;rw[Ay hc];simp only[NF,H8,G6,BY,C4,LW,IM];exact S8 ⟨λq=>⟨hc,by omega,by omega⟩,λq=>⟨by omega,by omega⟩⟩;rw[AD hc];exact NT λq=>hc q.1
def mT{n:Nd}(MG:GZ n)(u:Prop):FW (n.kind=2) (FW (n.n=0/\zD n/\zT n/\n.kids=[]) (some (mb u)) (some false)) (FW (n.kind=3) (FW (zD n/\zT n/\n.kids=[]) (FW u (some (mb (1<=n.n/\n.n<=4))) (some false)) (some false)) (FW (n.kind=4) (FW (n.unit=eS/\zD n/\zT n) (FW (1<=n.n/\n.n<=1000000) (FW (1 < ((n.kids.length:Nat):Int)) ((n.kids[0]?).bind λx=>(Gn x).bind λy=>cond y ((Vm n.kids 1 ((n.kids.length:Nat):Int)).bind λl=>(El l).bind λy=>some y) (some false)) (some false)) (some false)) (some false)) (some false)))=some (mb ((n.kind=2/\u/\n.n=0/\zD n/\zT n/\n.kids=[])\/(n.kind=3/\u/\(1<=n.n/\n.n<=4)/\zD n/\zT n/\n.kids=[])\/(n.kind=4/\(n.unit=eS/\zD n/\zT n)/\Iw n.n/\∃h cs,n.kids=h::cs/\kinds cs/\Dj 8 cs=1/\Dj 7 cs<=1/\M7 h/\∀k∈cs,BO k))):=by
 obtain⟨jX,bI,Tj⟩:=Pg MG;by_cases k2:n.kind=2;rw[Ay k2,IM];refine S8 ⟨λ⟨a,b⟩=>.inl ⟨k2,b,a⟩,?_⟩;rintro(a | a | a);exact⟨a.2.2,a.2.1⟩;omega;omega;rw[AD k2];by_cases k3:n.kind=3;rw[Ay k3,IM,IM];refine S8 ⟨λ⟨a,b,c⟩=>.inr (.inl ⟨k3,b,c,a⟩),?_⟩;rintro(a | a | a);omega;exact⟨a.2.2.2,a.2.1,a.2.2.1⟩;omega;rw[AD k3];by_cases k4:n.kind=4;rotate_left;rw[AD k4];refine NT ?_;rintro(a | a | a);omega;omega;omega;rw[Ay k4];by_cases hl:1 < n.kids.length;rotate_left;rw[AD (show ¬(1:Int) < ((n.kids.length:Nat):Int) by omega),Si,Si];refine NT ?_;rintro(a | a | ⟨_,_,_,h,cs,e,_,e8,_⟩);omega;omega;rw[e] at hl;have:=azL 8 cs;simp at hl;rw[hl] at e8;cases e8;rw[Ay (show(1:Int) < ((n.kids.length:Nat):Int) by omega)];generalize n.kids=ks at *
 match ks,hl with
 | x::l,_ =>
 have Lc:Vm (x::l) 1 (((x::l).length:Nat):Int)=some l:=by
   unfold Vm;rw[if_pos (by simp only[Yy];omega)];simp
 rw[Lc];simp only[bjV,NF,aOJ,C4];rw[ajS l (λy hy=>Tj y (by simp[hy])) (by simp at bI;omega)];simp only[NF,IM];refine S8 ⟨?_,?_⟩;rintro⟨a,b,c,⟨d,e⟩,f,g⟩;exact .inr (.inr ⟨k4,a,b,x,l,rfl,d,g,f,c,e⟩);rintro(a | a | ⟨_,a,b,h,cs,e,d,g,f,c,e'⟩);omega;omega;cases e;exact⟨a,b,c,⟨d,e'⟩,f,g⟩
def aQN{n:Nd}(MG:GZ n):OG n=some (mb (GD n)):=by
 have c1:=mT MG True;simp only[Ay trivial,<- mbT] at c1;have c2:=mT MG (n.unit=Dz);rw[OG];simp only[atM,aID,aMK,aMM,ayZ,P0,NF,BY,EJ,IZ,C4];rw[c1,c2]
 have aWU:∀{un:ByteArray} {k:Int},EZ n ⟨0,n.name,un,k,0,0,0,⟨0,[]⟩,[],0⟩↔n.unit=un/\n.n=k/\zD n/\zT n:=by
   intro un k;unfold zD zT;rw[vG];simp only[true_and,and_assoc]
 simp only[IM,aBS];refine S8 ?_;unfold GD aaI;simp only[aWU,acB,true_and];constructor;rintro⟨hn,h1,h2⟩
 have uni:∀{k:Prop},(Kw n.unit->((n.kind=2/\n.n=0/\zD n/\zT n/\n.kids=[])\/(n.kind=3/\(1<=n.n/\n.n<=4)/\zD n/\zT n/\n.kids=[])\/(n.kind=4/\(n.unit=eS/\zD n/\zT n)/\Iw n.n/\∃h cs,n.kids=h::cs/\kinds cs/\Dj 8 cs=1/\Dj 7 cs<=1/\M7 h/\∀k∈cs,BO k)))->Kw n.unit->((n.kind=2/\JW n.name/\Kw n.unit/\n.kids=[]/\n.n=0/\zD n/\zT n)\/(n.kind=3/\JW n.name/\Kw n.unit/\1<=n.n/\n.n<=4/\n.kids=[]/\zD n/\zT n)\/(n.kind=4/\Iw n.n/\JW n.name/\(n.unit=eS/\zD n/\zT n)/\∃h cs,n.kids=h::cs/\kinds cs/\Dj 8 cs=1/\Dj 7 cs<=1/\M7 h/\∀k∈cs,BO k)):=by
   intro _ h hu;rcases h hu with ⟨a,b,c,d,e⟩ | ⟨a,b,c,d,e⟩ | ⟨a,b,c,d⟩
   exact .inl ⟨a,hn,hu,e,b,c,d⟩;exact .inr (.inl ⟨a,hn,hu,b.1,b.2,e,c,d⟩);exact .inr (.inr ⟨a,c,hn,b,d⟩)
 by_cases hc:dO n.unit;exact uni (k:=True) (λ_=>h1 hc) (.inr (.inr (.inr hc)));obtain⟨h3,h4⟩:=h2 hc;by_cases ht:n.unit=E8;exact uni (k:=True) (λ_=>h3 ht) (.inl ht);obtain⟨h5,h6⟩:=h4 ht;by_cases hm:n.unit=Cp;exact uni (k:=True) (λ_=>h5 hm) (.inr (.inl hm));rcases h6 hm with ⟨a,b,r⟩ | ⟨a,b,r⟩ | r
 exact uni (k:=True) (λ_=>.inl ⟨a,r⟩) (.inr (.inr (.inl b)));exact uni (k:=True) (λ_=>.inr (.inl ⟨a,r⟩)) (.inr (.inr (.inl b)));exact .inr (.inr ⟨r.1,r.2.2.1,hn,r.2.1,r.2.2.2⟩)
 have back:(n.kind=2/\JW n.name/\Kw n.unit/\n.kids=[]/\n.n=0/\zD n/\zT n)\/(n.kind=3/\JW n.name/\Kw n.unit/\1<=n.n/\n.n<=4/\n.kids=[]/\zD n/\zT n)\/(n.kind=4/\Iw n.n/\JW n.name/\(n.unit=eS/\zD n/\zT n)/\∃h cs,n.kids=h::cs/\kinds cs/\Dj 8 cs=1/\Dj 7 cs<=1/\M7 h/\∀k∈cs,BO k)->JW n.name/\(n.kind≠4->Kw n.unit)/\((n.kind=2/\n.n=0/\zD n/\zT n/\n.kids=[])\/(n.kind=3/\(1<=n.n/\n.n<=4)/\zD n/\zT n/\n.kids=[])\/(n.kind=4/\(n.unit=eS/\zD n/\zT n)/\Iw n.n/\∃h cs,n.kids=h::cs/\kinds cs/\Dj 8 cs=1/\Dj 7 cs<=1/\M7 h/\∀k∈cs,BO k)):=by
   rintro(⟨a,b,c,d,e,f,g⟩ | ⟨a,b,c,d,d',e,f,g⟩ | ⟨a,b,c,d,e⟩);exact⟨b,λ_=>c,.inl ⟨a,e,f,g,d⟩⟩;exact⟨b,λ_=>c,.inr (.inl ⟨a,⟨d,d'⟩,f,g,e⟩)⟩;exact⟨c,λh=>absurd a h,.inr (.inr ⟨a,d,b,e⟩)⟩
 intro h;obtain⟨hn,hu,r⟩:=back h;refine⟨hn,λ_=>r,λnc=>⟨λ_=>r,λnt=>⟨λ_=>r,λnn=>?_⟩⟩⟩;rcases r with ⟨a,r⟩ | ⟨a,r⟩ | r
 have hm:n.unit=Dz:=by
   rcases hu (by omega) with h | h | h | h
   exact absurd h nt;exact absurd h nn;exact h;exact absurd h nc
 exact .inl ⟨a,hm,r⟩
 have hm:n.unit=Dz:=by
   rcases hu (by omega) with h | h | h | h
   exact absurd h nt;exact absurd h nn;exact h;exact absurd h nc
 exact .inr (.inl ⟨a,hm,r⟩);exact .inr (.inr r)
def aGB{n:Nd}(MG:GZ n):MU n=some (mb (okV n)):=by
 obtain⟨jX,bI,Tj⟩:=Pg MG;rw[MU,aNJ n MG,apX MG];simp only[NF,C4,BY];unfold okV;by_cases hf:Cr n<=2000/\Mq n<=40;rotate_left;rw[AD hf];exact NT λq=>hf q.2;rw[Ay hf];by_cases k1:n.kind=1
 rw[Ay k1,Pb (v:=false) (P:=λ_ k=>GD k) bI (λi k hk=>by
   simp only[Uk];rw[aQN (Tj k (bcH hk))];simp only[NF,C4,wH]),pD]
 simp only[NF,IM,Wb];refine S8 ⟨λq=>⟨.inl ⟨k1,(aaK n).2 q.2,q.1⟩,hf⟩,?_⟩;rintro⟨a | a,_⟩;exact⟨a.2.2,(aaK n).1 a.2.1⟩;exact absurd k1 a.1;rw[AD k1];refine S8 ⟨λq=>⟨.inr ⟨k1,q⟩,hf⟩,?_⟩;rintro⟨a | a,_⟩;exact absurd a.1 k1;exact a.2
end Mo
end Go.Proofs.YtpbkhogolfegfaaGreatDoor
namespace Go.Proofs.YtpbkhogolfegfaaGreatDoor
open AI Go LexS
namespace Mo
set_option maxRecDepth 100000
set_option maxHeartbeats 4000000
abbrev T1(k:Nat)(w:List UInt8)(g:List UInt8):Ti:=((k,w,0),g)
abbrev bL(s:ByteArray):List UInt8:=s.data.toList
def rF(n:Nd):List Ti :=
 if n.unit=Cp then [T1 3 (Lf n.n) []]
 else if n.unit=Dz then [T1 3 (Lf n.n) [32],T1 1 (bL fX) []]
 else if n.unit=E8 then [T1 1 (bL (if n.n=1 then Uu else O3)) []]
 else [T1 2 (bL n.unit) [32],T1 4 (Xe n.n) []]
def IF(l:List (List Ti)):List Ti:=l.flatMap λb=>T1 6 [44] [32]::b
def OJ:List (List Ti)->List Ti
 | []=>[]
 | a::l=>a++IF l
def JH(z:Int):Int:=if z < 0 then -z else z
def Ow(d:Int)(p:Pc):List Ti :=
 [T1 4 (Xe p.fr) [32],T1 6 [58] [32]]++(if p.Bc.tdiv d < 0 then [T1 6 [45] []] else [])++[T1 4 (Xe (JH (p.Bc.tdiv d))) [32],T1 6 (if p.BJ < 0 then [45] else [43]) [32],T1 3 (Lf (JH p.BJ)) [],T1 6 [47] [],T1 3 (Lf d) []]
def iS(f:Fn):List Ti:=OJ (f.ps.map (Ow f.den))
def mA(n:Nd)(ks:List (List Ti)):List Ti :=
 if n.kind=11 then rF n
 else if n.kind=12\/n.kind=14 then [T1 1 (bL n.name) []]
 else if n.kind=13 then [T1 1 (bL VV) [32],T1 3 (Lf n.n) []]
 else if n.kind=15 then [T1 1 (bL LB) [32],T1 6 [40] []]++ks.getD 0 []++[T1 6 [41] []]
 else if n.kind=16 then
   (if n.name=BI then [T1 6 [40] []]++ks.getD 0 []++[T1 6 [41] [32],T1 6 [47] [32]]++ks.getD 1 []
    else [T1 6 [40] []]++ks.getD 0 []++[T1 6 [41] [32],T1 (opK n.name) (bL n.name) [32],T1 6 [40] []]++ks.getD 1 []++[T1 6 [41] []])
 else if n.kind=18 then [T1 1 (bL IE) [],T1 6 [40] []]++ks.getD 0 []++[T1 6 [59] [32]]++iS n.BK++[T1 6 [41] []]
 else [T1 1 (bL n.name) [],T1 6 [40] []]++OJ ks++[T1 6 [41] []]
mutual
def tF:Nd->List Ti
 | ⟨k,a,b,c,d,e,f,t,ks,p⟩=>mA ⟨k,a,b,c,d,e,f,t,ks,p⟩ (tFs ks)
def tFs:List Nd->List (List Ti)
 | []=>[]
 | n::l=>tF n::tFs l
end
def ahZ:∀l:List Nd,tFs l=l.map tF
 | []=>by rw[tFs];rfl
 | n::l=>by rw[tFs,ahZ l];rfl
def ahY(n:Nd):tF n=mA n (n.kids.map tF):=by cases n;rw[tF,ahZ]
def aeJ(a b:ByteArray):(bL (a++b)).length=(bL a).length+(bL b).length:=by rw[bL,Ae,V5]
def X2{α ρ:Type}{f:α->List Ti}{body:Nat->α->ByteArray->Option (Lp ByteArray ByteArray ρ)}:∀(l:List α) (i:Nat) (s:ByteArray) (W:Nat),(bL s).length+l.length*(W+2)<=1000000000000 ->
   (∀a∈l,(Al (f a)).length<=W) ->
   (∀a∈l,∀(i:Nat) (s:ByteArray),(bL s).length<=1000000000000->∃s',body i a s=some (.nx s')/\bL s'=bL s++(if i=0 then Al (f a) else [44,32]++Al (f a))) ->
   ∃s',Bs (ρ:=ρ) body (λx=>x) l i s=some (.inl s')/\bL s'=bL s++Al (if i=0 then OJ (l.map f) else IF (l.map f))
 | [],i,s,W,_,_,_=>⟨s,rfl,by by_cases h:i=0<;>simp[h,OJ,IF,Al]⟩
 | a::l,i,s,W,hs,hw,hb=>by
   have ha:=hw a (by simp);rw[Yy,blG,Nat.one_mul] at hs;obtain⟨s1,h1,h2⟩:=hb a (by simp) i s (by omega)
   have hl1:(bL s1).length<=(bL s).length+(W+2):=by
     rw[h2,V5];by_cases h:i=0;rw[if_pos h];omega;rw[if_neg h,V5];simp only[Yy,aOD];omega
   obtain⟨s2,h3,h4⟩:=X2 l (i+1) s1 W (by omega) (λb Xt=>hw b (by simp[Xt])) (λb Xt=>hb b (by simp[Xt]));refine⟨s2,?_,?_⟩;rw[Bs,h1];exact h3;rw[h4,h2,if_neg (Nat.succ_ne_zero i)];by_cases h:i=0;rw[if_pos h,if_pos h,bjM,OJ,AB,atS];rw[if_neg h,if_neg h,bjM];have:IF (f a::l.map f)=T1 6 [44] [32]::(f a++IF (l.map f)):=by unfold IF;simp
   rw[this,Al,AB];simp
def P9:(lH).data.toList=[32]:=rfl
def H5:(Sw).data.toList=32::(fX).data.toList:=rfl
def D5:(F5).data.toList=[44,32]:=rfl
def BF:(BV).data.toList=[32,58,32]:=rfl
def Ce:(C9).data.toList=[32,45,32]:=rfl
def Cc:(C8).data.toList=[32,43,32]:=rfl
def RB:(BI).data.toList=[47]:=rfl
def RA:(Fj).data.toList=[45]:=rfl
def Es:(YQ).data.toList=[59,32]:=rfl
def CP:(GM).data.toList=(IE).data.toList++[40]:=rfl
def H6:(L6).data.toList=(LB).data.toList++[32,40]:=rfl
def OR:(CX).data.toList=[41]:=rfl
def N4:(Ec).data.toList=[40]:=rfl
def Be:(PF).data.toList=[41,32,47,32]:=rfl
def Er:(Ug).data.toList=[41,32]:=rfl
def Ep:(YP).data.toList=[32,40]:=rfl
def H3:(Sz).data.toList=(VV).data.toList++[32]:=rfl
def Sf:(fX).data.toList.length=3:=rfl
def I0:(IE).data.toList.length=5:=rfl
def Sg:(LB).data.toList.length=3:=rfl
def Se:(VV).data.toList.length=3:=rfl
def Md(l:List UInt8):(⟨l.toArray⟩:ByteArray).data.toList=l:=by simp
def Kc{n:Int}(h:0<=n/\n<=999999999999):(Lf n).length<=12:=(qU h).2.1
def UG{n:Int}(h:0<=n/\n<=999999999999):(Xe n).length<=15:=by
 unfold Xe;have:=Xl 9 (n.toNat / 100) (by omega);simp only[V5,Yy,aOD];omega
def aYO{n:Nd}(hu:Kw n.unit)(hn:0<=n.n/\n.n<=999999999999):∃s,KZ n=some s/\bL s=Al (rF n)/\(bL s).length<=100:=by
 have hi:=Kc hn;have hc:=UG hn;rw[KZ,S5 hn,bC hn];simp only[NF,EJ,BY,C4];unfold rF;by_cases u1:n.unit=Cp;rw[Ay u1,if_pos u1];exact⟨_,rfl,by simp only[Ae,atS,bcE,bcJ,bcB,Md,bL,Al,AB,P9,H5,D5,BF,Ce,Cc,RB,RA,Es,CP,H6,OR,N4,Be,Er,Ep,H3],by simp only[bL,Md];omega⟩;rw[AD u1,if_neg u1];by_cases u2:n.unit=Dz
 · rw[Ay u2,if_pos u2]
   simp (disch:=((try simp only[Ae,V5,Yy,aOD,Md,P9,H5,D5,BF,Ce,Cc,RB,RA,Es,CP,H6,OR,N4,Be,Er,Ep,H3,Sf,I0,Sg,Se]);omega)) only [B0]
   refine⟨_,rfl,by simp only[Ae,atS,bcE,bcJ,bcB,Md,bL,Al,AB,P9,H5,D5,BF,Ce,Cc,RB,RA,Es,CP,H6,OR,N4,Be,Er,Ep,H3],by simp only[aeJ];simp only[bL,Md,H5,Yy,Sf];omega⟩
 rw[AD u2,if_neg u2];by_cases u3:n.unit=E8;rw[Ay u3,if_pos u3];by_cases h1:n.n=1;rw[Ay h1,if_pos h1];exact⟨_,rfl,by simp only[Ae,atS,bcE,bcJ,bcB,Md,bL,Al,AB,P9,H5,D5,BF,Ce,Cc,RB,RA,Es,CP,H6,OR,N4,Be,Er,Ep,H3],by decide⟩;rw[AD h1,if_neg h1];exact⟨_,rfl,by simp only[Ae,atS,bcE,bcJ,bcB,Md,bL,Al,AB,P9,H5,D5,BF,Ce,Cc,RB,RA,Es,CP,H6,OR,N4,Be,Er,Ep,H3],by decide⟩;rw[AD u3,if_neg u3]
 have hl:n.unit.data.toList.length=3:=by
   rcases hu with h | h | h | h
   exact absurd h u3;exact absurd h u1;exact absurd h u2;exact h.1
 simp (disch:=((try simp only[Ae,V5,Yy,aOD,Md,P9,H5,D5,BF,Ce,Cc,RB,RA,Es,CP,H6,OR,N4,Be,Er,Ep,H3,Sf,I0,Sg,Se]);omega)) only [B0]
 exact⟨_,rfl,by simp only[Ae,atS,bcE,bcJ,bcB,Md,bL,Al,AB,P9,H5,D5,BF,Ce,Cc,RB,RA,Es,CP,H6,OR,N4,Be,Er,Ep,H3],by simp only[aeJ];simp only[bL,Md,P9,Yy,aOD];omega⟩
def aoX{a d:Int}(hd:1<=d/\d<=1000000)(h:-(999999999999*d)<=a/\a<=999999999999*d):Oj a d=some (a.tdiv d)/\-999999999999<=a.tdiv d/\a.tdiv d<=999999999999:=by
 have hb:-999999999999<=a.tdiv d/\a.tdiv d<=999999999999:=by
   have h1:(a.tdiv d).natAbs=a.natAbs / d.natAbs:=brV a d
   have h2:a.natAbs / d.natAbs<=999999999999:=by
     have:a.natAbs<=999999999999*d.natAbs:=by omega
     have hd0:0 < d.natAbs:=by omega
     exact Nat.div_le_of_le_mul (by rw[Nat.mul_comm];exact this)
   omega
 refine⟨?_,hb⟩;unfold Oj Ux;rw[if_neg (by omega)];congr 1;have h7:=P1 (n:=a.tdiv d) (by omega);rw[Nz] at h7;exact h7
def adW{a:Int}(h:-999999999999<=a/\a<=999999999999):lT a=-a:=by
 have h7:=P1 (n:=0 - a) (by omega);rw[Nz] at h7;unfold lT;rw[h7];omega
def nL(d:Int)(p:Pc):Prop:=(0<=p.fr/\p.fr<=999999999999)/\(-(999999999999*d)<=p.Bc/\p.Bc<=999999999999*d)/\-1000000<=p.BJ/\p.BJ<=1000000
def aCW{f:Fn}(hd:1<=f.den/\f.den<=1000000){p:Pc}(hp:nL f.den p)(i:Nat)(s:ByteArray)(hs:(bL s).length<=1000000000000) :
   ∃s',KY f i p s=some (.nx s')/\bL s'=bL s++(if i=0 then Al (Ow f.den p) else [44,32]++Al (Ow f.den p)):=by
 obtain⟨hf,ha,hsl⟩:=hp;obtain⟨hq,hz⟩:=aoX hd ha;have hs':s.data.toList.length<=1000000000000:=hs;have hc1:=UG hf;have TX:=Kc (n:=f.den) (by omega);unfold KY Ow;rw[hq];generalize p.Bc.tdiv f.den=z at *;simp only[NF,IZ,C4];rw[bC hf,S5 (n:=f.den) (by omega)];simp only[NF];by_cases hz0:z < 0
 · have ez:JH z=-z:=if_pos hz0
   have qI:=UG (n:=-z) (by omega);rw[Ay hz0,Ay hz0,if_pos hz0,ez,adW (a:=z) (by omega),bC (n:=-z) (by omega)];by_cases wA:p.BJ < 0
   · have es:JH p.BJ=-p.BJ:=if_pos wA
     have hc3:=Kc (n:=-p.BJ) (by omega);rw[Ay wA,Ay wA,if_pos wA,es,adW (a:=p.BJ) (by omega),S5 (n:=-p.BJ) (by omega)];simp only[NF];by_cases h0:i=0
     · rw[if_pos h0,AD (by omega)];simp (disch:=((try simp only[Ae,V5,Yy,aOD,Md,P9,H5,D5,BF,Ce,Cc,RB,RA,Es,CP,H6,OR,N4,Be,Er,Ep,H3,Sf,I0,Sg,Se]);omega)) only [B0];exact⟨_,rfl,by simp only[Ae,atS,bcE,bcJ,bcB,Md,bL,Al,AB,P9,H5,D5,BF,Ce,Cc,RB,RA,Es,CP,H6,OR,N4,Be,Er,Ep,H3]⟩
     · rw[if_neg h0,Ay (by omega)];simp (disch:=((try simp only[Ae,V5,Yy,aOD,Md,P9,H5,D5,BF,Ce,Cc,RB,RA,Es,CP,H6,OR,N4,Be,Er,Ep,H3,Sf,I0,Sg,Se]);omega)) only [B0];exact⟨_,rfl,by simp only[Ae,atS,bcE,bcJ,bcB,Md,bL,Al,AB,P9,H5,D5,BF,Ce,Cc,RB,RA,Es,CP,H6,OR,N4,Be,Er,Ep,H3]⟩
   · have es:JH p.BJ=p.BJ:=if_neg wA
     have hc3:=Kc (n:=p.BJ) (by omega);rw[AD wA,AD wA,if_neg wA,es,S5 (n:=p.BJ) (by omega)];simp only[NF];by_cases h0:i=0
     · rw[if_pos h0,AD (by omega)];simp (disch:=((try simp only[Ae,V5,Yy,aOD,Md,P9,H5,D5,BF,Ce,Cc,RB,RA,Es,CP,H6,OR,N4,Be,Er,Ep,H3,Sf,I0,Sg,Se]);omega)) only [B0];exact⟨_,rfl,by simp only[Ae,atS,bcE,bcJ,bcB,Md,bL,Al,AB,P9,H5,D5,BF,Ce,Cc,RB,RA,Es,CP,H6,OR,N4,Be,Er,Ep,H3]⟩
     · rw[if_neg h0,Ay (by omega)];simp (disch:=((try simp only[Ae,V5,Yy,aOD,Md,P9,H5,D5,BF,Ce,Cc,RB,RA,Es,CP,H6,OR,N4,Be,Er,Ep,H3,Sf,I0,Sg,Se]);omega)) only [B0];exact⟨_,rfl,by simp only[Ae,atS,bcE,bcJ,bcB,Md,bL,Al,AB,P9,H5,D5,BF,Ce,Cc,RB,RA,Es,CP,H6,OR,N4,Be,Er,Ep,H3]⟩
 · have ez:JH z=z:=if_neg hz0
   have qI:=UG (n:=z) (by omega);rw[AD hz0,AD hz0,if_neg hz0,ez,bC (n:=z) (by omega)];by_cases wA:p.BJ < 0
   · have es:JH p.BJ=-p.BJ:=if_pos wA
     have hc3:=Kc (n:=-p.BJ) (by omega);rw[Ay wA,Ay wA,if_pos wA,es,adW (a:=p.BJ) (by omega),S5 (n:=-p.BJ) (by omega)];simp only[NF];by_cases h0:i=0
     · rw[if_pos h0,AD (by omega)];simp (disch:=((try simp only[Ae,V5,Yy,aOD,Md,P9,H5,D5,BF,Ce,Cc,RB,RA,Es,CP,H6,OR,N4,Be,Er,Ep,H3,Sf,I0,Sg,Se]);omega)) only [B0];exact⟨_,rfl,by simp only[Ae,atS,bcE,bcJ,bcB,Md,bL,Al,AB,P9,H5,D5,BF,Ce,Cc,RB,RA,Es,CP,H6,OR,N4,Be,Er,Ep,H3]⟩
     · rw[if_neg h0,Ay (by omega)];simp (disch:=((try simp only[Ae,V5,Yy,aOD,Md,P9,H5,D5,BF,Ce,Cc,RB,RA,Es,CP,H6,OR,N4,Be,Er,Ep,H3,Sf,I0,Sg,Se]);omega)) only [B0];exact⟨_,rfl,by simp only[Ae,atS,bcE,bcJ,bcB,Md,bL,Al,AB,P9,H5,D5,BF,Ce,Cc,RB,RA,Es,CP,H6,OR,N4,Be,Er,Ep,H3]⟩
   · have es:JH p.BJ=p.BJ:=if_neg wA
     have hc3:=Kc (n:=p.BJ) (by omega);rw[AD wA,AD wA,if_neg wA,es,S5 (n:=p.BJ) (by omega)];simp only[NF];by_cases h0:i=0
     · rw[if_pos h0,AD (by omega)];simp (disch:=((try simp only[Ae,V5,Yy,aOD,Md,P9,H5,D5,BF,Ce,Cc,RB,RA,Es,CP,H6,OR,N4,Be,Er,Ep,H3,Sf,I0,Sg,Se]);omega)) only [B0];exact⟨_,rfl,by simp only[Ae,atS,bcE,bcJ,bcB,Md,bL,Al,AB,P9,H5,D5,BF,Ce,Cc,RB,RA,Es,CP,H6,OR,N4,Be,Er,Ep,H3]⟩
     · rw[if_neg h0,Ay (by omega)];simp (disch:=((try simp only[Ae,V5,Yy,aOD,Md,P9,H5,D5,BF,Ce,Cc,RB,RA,Es,CP,H6,OR,N4,Be,Er,Ep,H3,Sf,I0,Sg,Se]);omega)) only [B0];exact⟨_,rfl,by simp only[Ae,atS,bcE,bcJ,bcB,Md,bL,Al,AB,P9,H5,D5,BF,Ce,Cc,RB,RA,Es,CP,H6,OR,N4,Be,Er,Ep,H3]⟩
def nM{d:Int}(hd:1<=d/\d<=1000000){p:Pc}(hp:nL d p):(Al (Ow d p)).length<=62:=by
 obtain⟨hf,ha,hsl⟩:=hp;obtain⟨_,hz⟩:=aoX hd ha;have hc1:=UG hf;have TX:=Kc (n:=d) (by omega);have qI:=UG (n:=JH (p.Bc.tdiv d)) (by unfold JH;split<;>omega)
 have hc3:=Kc (n:=JH p.BJ) (by unfold JH;split<;>omega)
 unfold Ow;simp only[AB,Al,V5,Yy,aOD,bcB];have h1:(Al (if p.Bc.tdiv d < 0 then [T1 6 [45] []] else [])).length<=1:=by split<;>simp[Al]
 have h2:(if p.BJ < 0 then [45] else [43]:List UInt8).length=1:=by split<;>rfl
 omega
def yQ{α:Type}{f:α->List Ti}{W:α->Nat}:∀l:List α,(∀a∈l,(Al (f a)).length+2<=W a)->(Al (IF (l.map f))).length<=(l.map W).sum
 | [],_=>aOC _
 | a::l,h=>by
   have h1:=h a (by simp);have h2:=yQ l λb hb=>h b (by simp[hb]);have:IF ((a::l).map f)=T1 6 [44] [32]::(f a++IF (l.map f)):=by unfold IF;simp
   rw[this,Al,AB,bjM,bqX];simp only[V5,Yy,aOD];omega
def sH{α:Type}{f:α->List Ti}{W:α->Nat}(l:List α)(h:∀a∈l,(Al (f a)).length+2<=W a):(Al (OJ (l.map f))).length<=(l.map W).sum:=by
 have h1:=yQ l h;cases l with
 | nil=>exact aOC _
 | cons a l =>
   have:IF ((a::l).map f)=T1 6 [44] [32]::(f a++IF (l.map f)):=by unfold IF;simp
   rw[this,Al,AB] at h1;rw[bjM,OJ,AB];simp only[V5,Yy,aOD] at h1 ⊢;simp only[bjM] at h1 ⊢;omega
def oB{α:Type}(l:List α)(c:Nat):(l.map λ_=>c).sum=l.length*c:=by
 induction l with
 | nil=>simp
 | cons a l ih=>simp only[bjM,bqX,ih,Yy,blG];omega
def aTH(l:List Nd):(l.map λk=>5000*Cr k).sum=5000*D7 l:=by
 induction l with
 | nil=>simp[D7]
 | cons a l ih=>simp only[bjM,bqX,ih,D7];omega
def cF{f:Fn}(h:Zd f):(1<=f.den/\f.den<=1000000)/\(1<=f.ps.length/\f.ps.length<=64)/\∀p∈f.ps,nL f.den p:=by
 obtain⟨h1,h2,h3,h4⟩:=h;refine⟨h1,h2,λp hp=>?_⟩;obtain⟨i,hi⟩:=bmD hp;have hd:1<=f.den/\f.den<=1000000:=h1;have e1:CK 999999999999 f.den=999999999999*f.den:=FG (by omega);have e2:CK (-999999999999) f.den=-(999999999999*f.den):=by rw[FG (by omega)];omega
 have hp0:∀(i:Nat) p,f.ps[i]?=some p->0<=p.fr:=by
   intro i
   induction i with
   | zero=>intro p hp;rw[h3 p hp];exact Int.le_refl _
   | succ i ih =>
     intro p hp;obtain⟨_,b,_⟩:=h4 (i+1) p hp;obtain⟨q,hq⟩:∃q,f.ps[i]?=some q:=⟨_,abI (by have:=(abH.1 hp).1;omega)⟩;have:=b q (by omega) hq;have:=ih q hq;omega
 obtain⟨a,_,_,c,e,g,k⟩:=h4 i p hi;rw[e1] at c;rw[e2] at e;exact⟨⟨hp0 i p hi,a⟩,⟨e,c⟩,k,g⟩
def alD{f:Fn}(h:Zd f):∃s,LP f=some s/\bL s=Al (iS f)/\(bL s).length<=4096:=by
 obtain⟨hd,hn,hp⟩:=cF h;obtain⟨s',h1,h2⟩:=X2 (ρ:=ByteArray) (f:=Ow f.den) (body:=λi y x=>KY f i y x) f.ps 0 V4 62 (by simp[bL];omega) (λp hp'=>nM hd (hp p hp')) (λp hp' i s hs=>aCW hd (hp p hp') i s hs);rw[LP,B0 (by omega),bjJ,h1];rw[if_pos rfl] at h2;refine⟨s',rfl,by rw[h2];simp[bL,iS],?_⟩;rw[h2];have:=sH (f:=Ow f.den) (W:=λ_=>64) f.ps λp hp'=>by have:=nM hd (hp p hp');omega
 rw[oB] at this;simp only[bL,V5];have h0:V4.data.toList.length=0:=rfl;omega
def XG{s:ByteArray}(h:JW s):s.data.toList.length<=16:=h.1.2
def aMZ{s:ByteArray}(h:TM s):s.data.toList.length<=16:=by
 rcases h with h | h | h | h<;>rw[h]<;>decide
def aRV{s:ByteArray}(h:bU s):s.data.toList.length<=16:=by
 rcases h with h | h | h | h | h | h | h | h | h | h | h<;>rw[h]<;>decide
def baA(a b:Nd):D7 [a,b]=Cr a+Cr b:=by simp[D7]
def oC(a:Nd):D7 [a]=Cr a:=by simp[D7]
def aNR:∀(q:Nat) (n:Nd),OQ n->Cr n<=q->Cr n<=300->∃s,CS q n=some s/\bL s=Al (tF n)/\(bL s).length+2<=5000*Cr n:=by
 intro q
 induction q with
 | zero=>intro n _ h;have:=Cu n;omega
 | succ q ih =>
 intro n hx hq h3;have hsz:=Cu n;obtain⟨hQ,Tj⟩:=(MF n).1 hx
 have hk:∀k∈n.kids,∃s,CS q k=some s/\bL s=Al (tF k)/\(bL s).length+2<=5000*Cr k:=λk hk=>by
   have:=JE hk;exact ih k (Tj k hk) (by omega) (by omega)
 rw[CS,LO,ahY];simp only[BY,EJ,C4];unfold mA;by_cases jY:n.kind=11;rw[Ay jY,if_pos jY];obtain⟨a,b,c,_⟩:=(aaY jY).1 hQ;obtain⟨s,h1,h2,h4⟩:=aYO a ⟨b,c⟩;rw[h1];exact⟨s,rfl,h2,by omega⟩;rw[AD jY,if_neg jY];by_cases mU:n.kind=12;rw[Ay mU,if_pos (.inl mU)];have:=XG ((apN mU).1 hQ).1;exact⟨_,rfl,by simp only[Ae,atS,bcE,bcJ,bcB,Md,bL,Al,AB,P9,H5,D5,BF,Ce,Cc,RB,RA,Es,CP,H6,OR,N4,Be,Er,Ep,H3],by simp only[bL];omega⟩;rw[AD mU];by_cases k14:n.kind=14;rw[Ay k14,if_pos (.inr k14)];have:=aMZ ((apP k14).1 hQ).1;exact⟨_,rfl,by simp only[Ae,atS,bcE,bcJ,bcB,Md,bL,Al,AB,P9,H5,D5,BF,Ce,Cc,RB,RA,Es,CP,H6,OR,N4,Be,Er,Ep,H3],by simp only[bL];omega⟩;rw[AD k14,if_neg (by omega)];by_cases jZ:n.kind=13
 · rw[Ay jZ,if_pos jZ]
   have hr:1<=n.n/\n.n<=1000000:=((apO jZ).1 hQ).1;have hl:=Kc (n:=n.n) (by omega);rw[S5 (by omega),NF];simp (disch:=((try simp only[Ae,V5,Yy,aOD,Md,P9,H5,D5,BF,Ce,Cc,RB,RA,Es,CP,H6,OR,N4,Be,Er,Ep,H3,Sf,I0,Sg,Se]);omega)) only [B0]
   exact⟨_,rfl,by simp only[Ae,atS,bcE,bcJ,bcB,Md,bL,Al,AB,P9,H5,D5,BF,Ce,Cc,RB,RA,Es,CP,H6,OR,N4,Be,Er,Ep,H3],by simp only[bL,Ae,V5,Md,H3,Se,Yy,aOD];omega⟩
 rw[AD jZ,if_neg jZ];by_cases kA:n.kind=15
 · rw[Ay kA,if_pos kA]
   have hl:=((apQ kA).1 hQ).1;generalize n.kids=ks at *
   match ks,hl with
   | [x],_ =>
   obtain⟨s,h1,h2,h4⟩:=hk x (by simp);rw[oC] at hsz;simp only[bjV,NF,h1];have h5:s.data.toList.length+2<=5000*Cr x:=h4;simp (disch:=((try simp only[Ae,V5,Yy,aOD,Md,P9,H5,D5,BF,Ce,Cc,RB,RA,Es,CP,H6,OR,N4,Be,Er,Ep,H3,Sf,I0,Sg,Se]);omega)) only [B0]
   refine⟨_,rfl,?_,?_⟩;rw[show([x].map tF).getD 0 []=tF x from rfl,AB,AB,<- h2];simp only[Ae,atS,bcE,bcJ,bcB,Md,bL,Al,AB,P9,H5,D5,BF,Ce,Cc,RB,RA,Es,CP,H6,OR,N4,Be,Er,Ep,H3];simp only[bL,Ae,V5,H6,OR,Sg,Yy,aOD];omega
 rw[AD kA,if_neg kA];by_cases kB:n.kind=16
 · rw[Ay kB,if_pos kB]
   obtain⟨_,hl,ho,_⟩:=(apR kB).1 hQ;have hlo:=aRV ho;generalize n.kids=ks at *
   match ks,hl with
   | [x,y],_ =>
   obtain⟨s,h1,h2,h4⟩:=hk x (by simp);obtain⟨t,g1,g2,g4⟩:=hk y (by simp);rw[baA] at hsz;have h5:s.data.toList.length+2<=5000*Cr x:=h4;have g5:t.data.toList.length+2<=5000*Cr y:=g4;rw[show([x,y].map tF).getD 0 []=tF x from rfl,show([x,y].map tF).getD 1 []=tF y from rfl];simp only[bjV,bmV,NF,h1,g1];by_cases hd:n.name=BI
   · rw[Ay hd,if_pos hd]
     simp (disch:=((try simp only[Ae,V5,Yy,aOD,Md,P9,H5,D5,BF,Ce,Cc,RB,RA,Es,CP,H6,OR,N4,Be,Er,Ep,H3,Sf,I0,Sg,Se]);omega)) only [B0]
     refine⟨_,rfl,?_,?_⟩;simp only[AB];rw[<- h2,<- g2];simp only[Ae,atS,bcE,bcJ,bcB,Md,bL,Al,AB,P9,H5,D5,BF,Ce,Cc,RB,RA,Es,CP,H6,OR,N4,Be,Er,Ep,H3];simp only[bL,Ae,V5,N4,Be,Yy,aOD];omega
   · rw[AD hd,if_neg hd]
     simp (disch:=((try simp only[Ae,V5,Yy,aOD,Md,P9,H5,D5,BF,Ce,Cc,RB,RA,Es,CP,H6,OR,N4,Be,Er,Ep,H3,Sf,I0,Sg,Se]);omega)) only [B0]
     refine⟨_,rfl,?_,?_⟩;simp only[AB];rw[<- h2,<- g2];simp only[Ae,atS,bcE,bcJ,bcB,Md,bL,Al,AB,P9,H5,D5,BF,Ce,Cc,RB,RA,Es,CP,H6,OR,N4,Be,Er,Ep,H3];simp only[bL,Ae,V5,N4,OR,Er,Ep,Yy,aOD];omega
 rw[AD kB,if_neg kB];by_cases kC:n.kind=18
 · rw[Ay kC,if_pos kC]
   obtain⟨_,ht,hl⟩:=(apT kC).1 hQ;obtain⟨t,g1,g2,g4⟩:=alD ht;generalize n.kids=ks at *
   match ks,hl with
   | [x],_ =>
   obtain⟨s,h1,h2,h4⟩:=hk x (by simp);rw[oC] at hsz;have h5:s.data.toList.length+2<=5000*Cr x:=h4;have g5:t.data.toList.length<=4096:=g4;simp only[bjV,NF,h1,g1];simp (disch:=((try simp only[Ae,V5,Yy,aOD,Md,P9,H5,D5,BF,Ce,Cc,RB,RA,Es,CP,H6,OR,N4,Be,Er,Ep,H3,Sf,I0,Sg,Se]);omega)) only [B0]
   refine⟨_,rfl,?_,?_⟩;rw[show([x].map tF).getD 0 []=tF x from rfl];simp only[AB];rw[<- h2,<- g2];simp only[Ae,atS,bcE,bcJ,bcB,Md,bL,Al,AB,P9,H5,D5,BF,Ce,Cc,RB,RA,Es,CP,H6,OR,N4,Be,Er,Ep,H3];simp only[bL,Ae,V5,CP,OR,Es,I0,Yy,aOD];omega
 rw[AD kC,if_neg kC];have k17:n.kind=17:=by have:=Xp hQ;omega
 obtain⟨hnm,_,hl⟩:=(apS k17).1 hQ;have hln:n.name.data.toList.length<=8:=by rcases hnm with h | h<;>rw[h]<;>decide
 have bI:=Ja n.kids;rw[B0 (by simp only[N4,Yy,aOD];omega)]
 have hW:∀k∈n.kids,(Al (tF k)).length+2<=5000*Cr k:=λk jW=>by
   obtain⟨s,_,h2,h4⟩:=hk k jW;rw[h2] at h4;exact h4
 obtain⟨s',e1,e2⟩:=X2 (ρ:=ByteArray) (f:=tF) (body:=λi y x=>Jn (CS q) i y x) n.kids 0 (n.name++Ec) (5000*300) (by
     simp only[bL,Ae,V5,N4,Yy,aOD];have:n.kids.length*(5000*300+2)<=300*(5000*300+2):=Nat.mul_le_mul_right _ (by omega);omega) (λk jW=>by have:=hW k jW;have:=JE jW;omega) (λk jW i s hs=>by
     obtain⟨t,g1,g2,g4⟩:=hk k jW;have h1:=JE jW;have g5:t.data.toList.length+2<=5000*Cr k:=g4;have hs':s.data.toList.length<=1000000000000:=hs;unfold Jn;simp only[IZ,C4,g1,NF];by_cases h0:i=0
     · rw[if_pos h0,AD (by omega)]
       simp (disch:=((try simp only[Ae,V5,Yy,aOD,Md,P9,H5,D5,BF,Ce,Cc,RB,RA,Es,CP,H6,OR,N4,Be,Er,Ep,H3,Sf,I0,Sg,Se]);omega)) only [B0]
       exact⟨_,rfl,by rw[<- g2];simp only[Ae,atS,bcE,bcJ,bcB,Md,bL,Al,AB,P9,H5,D5,BF,Ce,Cc,RB,RA,Es,CP,H6,OR,N4,Be,Er,Ep,H3]⟩
     · rw[if_neg h0,Ay (by omega)]
       simp (disch:=((try simp only[Ae,V5,Yy,aOD,Md,P9,H5,D5,BF,Ce,Cc,RB,RA,Es,CP,H6,OR,N4,Be,Er,Ep,H3,Sf,I0,Sg,Se]);omega)) only [B0]
       exact⟨_,rfl,by rw[<- g2];simp only[Ae,atS,bcE,bcJ,bcB,Md,bL,Al,AB,P9,H5,D5,BF,Ce,Cc,RB,RA,Es,CP,H6,OR,N4,Be,Er,Ep,H3]⟩)
 rw[B0 (by omega),bjJ,e1];rw[if_pos rfl] at e2;have hsl:=sH (f:=tF) (W:=λk=>5000*Cr k) n.kids hW;rw[aTH] at hsl
 have e3:s'.data.toList.length=n.name.data.toList.length+1+(Al (OJ (n.kids.map tF))).length:=by
   have:=congrArg blU e2;simp only[bL,Ae,V5,N4,Yy,aOD] at this;exact this
 show ∃s,Cs (s'.data.toList.length+CX.data.toList.length) (some (s'++CX))=some s/\_;simp (disch:=((try simp only[Ae,V5,Yy,aOD,Md,P9,H5,D5,BF,Ce,Cc,RB,RA,Es,CP,H6,OR,N4,Be,Er,Ep,H3,Sf,I0,Sg,Se]);omega)) only [B0]
 refine⟨_,rfl,?_,?_⟩;rw[show bL (s'++CX)=bL s'++bL CX from Ae _ _,e2];simp only[Ae,atS,bcE,bcJ,bcB,Md,bL,Al,AB,P9,H5,D5,BF,Ce,Cc,RB,RA,Es,CP,H6,OR,N4,Be,Er,Ep,H3];simp only[bL,Ae,V5,OR,Yy,aOD];omega
def afF:∀q:Nat,∀n,Le (CS q n) (CS (q+1) n)
 | 0=>λ_ _ h=>nomatch h
 | q+1=>λn=>by
   have ih:=afF q;rw[CS,CS,LO,LO]
   have hL:Le ((Bs (λi y x=>Jn (CS q) i y x) (λx=>x) (n.kids.drop 0) 0 (n.name++Ec):Option (ByteArray⊕ByteArray))) (Bs (λi y x=>Jn (CS (q+1)) i y x) (λx=>x) (n.kids.drop 0) 0 (n.name++Ec)):=by
     refine rC (λi y x=>?_) _ _ _;unfold Jn;exact LU (Q1 (EP (ih _) λ_=>Le.refl _)) (EP (ih _) λ_=>Le.refl _)
   refine LU (Le.refl _) (LU (Le.refl _) (LU (Le.refl _) (LU (Le.refl _) (LU ?_ (LU (LU ?_ ?_) (LU ?_ (Q1 (EP (Q1 hL) λ_=>Le.refl _))))))));exact EP (Le.refl _) λ_=>EP (ih _) λ_=>Le.refl _;exact EP (Le.refl _) λ_=>EP (ih _) λ_=>Q1 (Q1 (EP (Le.refl _) λ_=>EP (ih _) λ_=>Le.refl _));exact EP (Le.refl _) λ_=>EP (ih _) λ_=>Q1 (Q1 (Q1 (Q1 (EP (Le.refl _) λ_=>EP (ih _) λ_=>Le.refl _))));exact EP (Le.refl _) λ_=>EP (ih _) λ_=>Le.refl _
def abE{n:Nd}(hx:OQ n)(h3:Cr n<=300):∃s,Ge n=some s/\bL s=Al (tF n)/\(bL s).length+2<=5000*Cr n:=by
 obtain⟨s,h1,h2⟩:=aNR (Cr n) n hx (aOC _) h3;exact⟨s,pW (λq=>afF q _) h1,h2⟩
end Mo
end Go.Proofs.YtpbkhogolfegfaaGreatDoor
