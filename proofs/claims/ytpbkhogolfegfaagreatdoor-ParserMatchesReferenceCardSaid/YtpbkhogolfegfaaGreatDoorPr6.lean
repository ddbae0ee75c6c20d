/- Part of a proof: see the last text. -/
import Derived.Test.YtpbkhogolfegfaaGreatDoorPr5
set_option linter.all false
noncomputable section
set_option maxRecDepth 100000
open Array renaming toList_inj->bsA
open Bool renaming and_eq_true->bhB,false_eq_true->biF
open ByteArray renaming empty->gT
open Go.IntKind renaming bits->btM,signed->bsT,wrap->btL
open Go.Lib renaming decFrom->bpP,indexByte->boC,index_one->btD,replaceK->brR,replaceNum->bsU
open Int renaming ediv_le_self->bsB,ediv_nonneg->bsL,emod_lt_of_pos->brI,emod_nonneg->bsK,le_of_lt->bqH,mul_ediv_cancel_left->bpU,mul_le_mul->bqR,mul_le_mul_of_nonneg_right->bmK,mul_nonneg->bsS,mul_nonpos_of_nonneg_of_nonpos->bnM,tdiv_eq_ediv_of_nonneg->bpD,tmod_eq_emod_of_nonneg->bpC,toNat_natCast->biN
open List renaming all_eq_true->bjM,any->btP,any_cons->bnH,any_nil->brQ,append_assoc->bjX,cons_append->bjR,drop_drop->biU,drop_eq_getElem_cons->bjH,drop_eq_nil_of_le->biX,drop_zero->biT,eq_nil_of_length_eq_zero->biJ,getElem?_cons_zero->bkO,getElem?_eq_getElem->aBD,length->bmC,length_append->aWQ,length_cons->bhE,length_drop->bhI,length_map->biE,length_nil->biV,length_singleton->bhF,length_take->biM,map_append->bjC,map_cons->bkF,map_nil->bqG,mem_append->biI,mem_cons->bhJ,mem_cons_of_mem->biB,mem_cons_self->biK,mem_of_getElem?->aWR,mem_range->bkI,mem_singleton->biQ,nil_append->bkC,not_mem_nil->biZ,range->bjD,toList_toArray->bkL
open Nat renaming add_zero->bjU,le_refl->aWP,le_succ->biC,le_trans->biP,lt_of_lt_of_le->beL,strongRecOn->blY,zero_add->bhC,zero_le->bjI
open Option renaming bind->bjW,bind_eq_some_iff->bmJ,bind_some->Uu,map_some->bhK
open Option.some renaming inj->biA,injEq->atS
open Prod.mk renaming injEq->aWN
open Sum renaming elim->aWO,inl->bqT,inr->blT
namespace Go.Proofs.YtpbkhogolfegfaaGreatDoor
open AI Go
namespace Mo
set_option maxHeartbeats 4000000
def Ol{r:Option (Bool×Int)}{P Q:Prop}{t u:Int}{f:Bool×Int->Option (Bool×Int)}(h:Out r P t)(hT:P->Out (f (true,t)) Q u)(hF:∀z,¬P->Out (f (false,z)) Q u):Out (r.bind f) Q u:=by obtain⟨z,rfl,h2⟩:=h;by_cases hp:P;rw[Cu.2 hp,h2 hp];exact hT hp;rw[sK hp];exact hF z hp
def aQP{Q:Prop}{t u:Int}(hq:Q)(h:t=u):Out (some (true,t)) Q u:=⟨t,by rw[Cu.2 hq],λ_=>h⟩
def Oj{r:Option (Bool×Int)}{P Q:Prop}{t u:Int}(h:Out r P t)(hp:P↔Q)(ht:P->t=u):Out (r.bind λ(a,b)=>some (a,b)) Q u :=
 Ol h (λp=>aQP (hp.1 p) (ht p)) λ_ p=>Lm λq=>p (hp.2 q)
section
variable {p q r:Prop}{z:Int}
def sW:GX p (some (mb q,z)) (some (false,z))=some (mb (p/\q),z):=by by_cases h:p;rw[Bg h];congr 2;exact MS ⟨λa=>⟨h,a⟩,λa=>a.2⟩;rw[Bl h,sK];exact λa=>h a.1
def adR:GX p (some (false,z)) (some (mb q,z))=some (mb (¬p/\q),z):=by by_cases h:p;rw[Bg h,sK];exact λa=>a.1 h;rw[Bl h];congr 2;exact MS ⟨λa=>⟨h,a⟩,λa=>a.2⟩
def amA:GX p (some (mb q,z)) (some (mb r,z))=some (mb ((p->q)/\(¬p->r)),z):=by by_cases h:p;rw[Bg h];congr 2;exact MS ⟨λa=>⟨λ_=>a,λb=>absurd h b⟩,λa=>a.1 h⟩;rw[Bl h];congr 2;exact MS ⟨λa=>⟨λb=>absurd b h,λ_=>a⟩,λa=>a.2 h⟩
end
section
variable {n:Nd}
def aAI(h:n.kind=11):VS n↔Pf n.unit/\0<=n.n/\n.n<=999999999999/\(n.unit=DS->n.n<=1)/\n.kids.length=0/\Gp n ⟨0,gT,n.unit,n.n,0,0,0,⟨0,[]⟩,[],0⟩:=by unfold VS;simp[h]
def aVM(h:n.kind=12):VS n↔MT n.name/\n.kids.length=0/\Gp n ⟨0,n.name,gT,0,0,0,0,⟨0,[]⟩,[],0⟩:=by unfold VS;simp[h]
def aVN(h:n.kind=13):VS n↔Jl n.n/\n.kids.length=0/\Gp n ⟨0,gT,gT,n.n,0,0,0,⟨0,[]⟩,[],0⟩:=by unfold VS;simp[h]
def aVO(h:n.kind=14):VS n↔gA n.name/\n.kids.length=0/\Gp n ⟨0,n.name,gT,0,0,0,0,⟨0,[]⟩,[],0⟩:=by unfold VS;simp[h]
def aVP(h:n.kind=15):VS n↔n.kids.length=1/\Gp n ⟨0,gT,gT,0,0,0,0,⟨0,[]⟩,[],0⟩:=by unfold VS;simp[h]
def aVQ(h:n.kind=16):VS n↔Gp n ⟨0,n.name,gT,0,0,0,0,⟨0,[]⟩,[],0⟩/\n.kids.length=2/\mF n.name/\(n.name=DP->∀k,n.kids[1]?=some k->Ti k):=by unfold VS;simp[h]
def aVR(h:n.kind=17):VS n↔(n.name=GZ\/n.name=Dm)/\Gp n ⟨0,n.name,gT,0,0,0,0,⟨0,[]⟩,[],0⟩/\2<=n.kids.length:=by unfold VS;simp[h]
def aVS(h:n.kind=18):VS n↔Gp n ⟨0,gT,gT,0,0,0,0,n.CW,[],0⟩/\uH n.CW/\n.kids.length=1:=by unfold VS;simp[h]
def afZ(h:VS n):n.kind=11\/n.kind=12\/n.kind=13\/n.kind=14\/n.kind=15\/n.kind=16\/n.kind=17\/n.kind=18:=by
 unfold VS at h;rcases h with h | h | h | h | h | h | h | h
 all_goals
   have:=h.1;simp[this]
end
def Ra(l:List Nd)(c d:Int):Prop:=(∀k∈l,S5 k/\d+O5 k<=41)/\c+K4 l<=2000
def aJH{l:List Nd}{c d:Int}(h:l.length=0)(hc:c<=2000):Ra l c d/\c=c+K4 l:=by obtain rfl:=biJ h;exact⟨⟨(λk hk=>(by cases hk)),(by simp only[K4];omega)⟩,(by simp[K4])⟩
def aJI{x:Nd}{c d:Int}:Ra [x] c d↔S5 x/\c+Ft x<=2000/\d+O5 x<=41:=by unfold Ra;simp only[biQ,forall_eq,K4,bjU];exact⟨λa=>⟨a.1.1,a.2,a.1.2⟩,λa=>⟨⟨a.1,a.2.2⟩,a.2.1⟩⟩
def xO{x y:Nd}{c d:Int}:Ra [x,y] c d↔(S5 x/\c+Ft x<=2000/\d+O5 x<=41)/\S5 y/\c+Ft x+Ft y<=2000/\d+O5 y<=41:=by unfold Ra;simp only[bhJ,biZ,or_false,forall_eq_or_imp,forall_eq,K4,bjU,Int.natCast_add];constructor;rintro⟨⟨⟨a,b⟩,c',d'⟩,e⟩;exact⟨⟨a,by omega,b⟩,c',by omega,d'⟩;rintro⟨⟨a,b,c'⟩,d',e,f⟩;exact⟨⟨⟨a,c'⟩,d',f⟩,by omega⟩
abbrev ExS(g:Ck->Nd->Int->Option (Bool×Int))(n:Nd):Prop:=∀(c d:Int),0<=c->c<=2000->0<=d->d<=41->Out (g ⟨c⟩ n d) (S5 n/\c+Ft n<=2000/\d+O5 n<=41) (c+Ft n)
def oF{g:Ck->Nd->Int->Option (Bool×Int)}{b a:Ck->Nd->Int->Option (Bool×Int)}{l:Ck->List Nd->Int->Option (Bool×Int)}{n:Nd}(h:ExS g n){c d:Int}(h0:0<=c)(h1:c<=2000)(h2:0<=d)(h3:d<=41) :
   Out (DY g b a l ⟨c⟩ n d) ((S5 n/\Ti n)/\c+Ft n<=2000/\d+O5 n<=41) (c+Ft n):=by
 rw[DY];simp only[Es,Ij,EA,Yo,Uu];refine Ol (h c d h0 h1 h2 h3) (λhp=>?_) λz hp=>Lm λq=>hp ⟨q.1.1,q.2⟩;show Out (GX (n.kind=11) (GX (n.unit=BH) (some (mb (Jl n.n),c+Ft n)) (some (false,c+Ft n))) (some (false,c+Ft n))) _ _;rw[sW,sW];exact Yh ⟨λa=>⟨⟨hp.1,a⟩,hp.2⟩,λa=>a.1.2⟩
def akM{g n':Ck->Nd->Int->Option (Bool×Int)}{b:Ck->Nd->Int->Option (Bool×Int)}{l:Ck->List Nd->Int->Option (Bool×Int)}{n:Nd}(hg:∀k∈n.kids,ExS g k)
   (hn:∀k∈n.kids,∀c d:Int,0<=c->c<=2000->0<=d->d<=41->Out (n' ⟨c⟩ k d) ((S5 k/\Ti k)/\c+Ft k<=2000/\d+O5 k<=41) (c+Ft k)) {c d:Int} (h0:0<=c) (h1:c<=2000) (h2:0<=d) (h3:d<=40):
   Out (DW g b n' l ⟨c⟩ n d) ((n.kids.length=2/\mF n.name/\(n.name=DP->∀k,n.kids[1]?=some k->Ti k))/\Ra n.kids c (d+1)) (c+K4 n.kids):=by
 rw[DW,Cg (by omega)];simp only[Es,Ij,EA];generalize hl:n.kids=ks at *;by_cases hlen:((ks.length:Nat):Int)=2;rotate_left;rw[Bl hlen];exact Lm λq=>hlen (by have:=q.1.1;omega);rw[Bg hlen]
 match ks,hlen with
 |[x,y],_=>
 simp only[bkO,List.getElem?_cons_succ,Uu];refine Ol (hg x (by simp) c (d+1) h0 h1 (by omega) (by omega)) (λhx=>?_) λz hx=>Lm λq=>hx (xO.1 q.2).1;dsimp only;rw[cond_true];have hsz:K4 [x,y]=Ft x+Ft y:=by simp[K4]
 have hy:=λhc=>hg y (by simp) (c+Ft x) (d+1) (by omega) hc (by omega) (by omega);have hn':=λhc=>hn y (by simp) (c+Ft x) (d+1) (by omega) hc (by omega) (by omega);have hy:=hy hx.2.1;have hn':=hn' hx.2.1;by_cases hs:n.name=DP;rw[Bg hs];refine Oj hn' ⟨λa=>⟨⟨rfl,.inl hs,λ_ k hk=>by cases hk;exact a.1.2⟩,xO.2 ⟨hx,a.1.1,a.2⟩⟩,λa=>?_⟩ (λa=>by rw[hsz];omega);have:=(xO.1 a.2).2;exact⟨⟨this.1,a.1.2.2 hs y rfl⟩,this.2⟩;rw[Bl hs]
 have fin:∀rO:mF n.name,Out ((g ⟨c+Ft x⟩ y (d+1)).bind λ(a,b)=>some (a,b)) ((([x,y]:List Nd).length=2/\mF n.name/\(n.name=DP->∀k,some y=some k->Ti k))/\Ra [x,y] c (d+1)) (c+K4 [x,y]):=λrO=>
  Oj hy ⟨λa=>⟨⟨rfl,rO,λe=>absurd e hs⟩,xO.2 ⟨hx,a⟩⟩,λa=>(xO.1 a.2).2⟩ (λa=>by rw[hsz];omega)
 have step:∀{s:ByteArray}{A:Option (Bool×Int)},(n.name=s->mF n.name)->(n.name≠s->Out A ((([x,y]:List Nd).length=2/\mF n.name/\(n.name=DP->∀k,some y=some k->Ti k))/\Ra [x,y] c (d+1)) (c+K4 [x,y])) ->
  Out (GX (n.name=s) ((g ⟨c+Ft x⟩ y (d+1)).bind λ(a,b)=>some (a,b)) A) ((([x,y]:List Nd).length=2/\mF n.name/\(n.name=DP->∀k,some y=some k->Ti k))/\Ra [x,y] c (d+1)) (c+K4 [x,y]):=by
  intro s A h4 h5;by_cases h:n.name=s;rw[Bg h];exact fin (h4 h);rw[Bl h];exact h5 h
 refine step (λe=>by unfold mF;simp[e]) λe1=>?_;refine step (λe=>by unfold mF;simp[e]) λe2=>?_;refine step (λe=>by unfold mF;simp[e]) λe3=>?_;refine step (λe=>by unfold mF;simp[e]) λe4=>?_;refine step (λe=>by unfold mF;simp[e]) λe5=>?_;refine step (λe=>by unfold mF;simp[e]) λe6=>?_;refine step (λe=>by unfold mF;simp[e]) λe7=>?_;refine step (λe=>by unfold mF;simp[e]) λe8=>?_;refine step (λe=>by unfold mF;simp[e]) λe9=>?_;refine step (λe=>by unfold mF;simp[e]) λe10=>?_
 exact Lm λq=>by
  have:=q.1.2.1;unfold mF at this;simp[hs,e1,e2,e3,e4,e5,e6,e7,e8,e9,e10] at this
def asQ{A L B T:Prop}{x:Int}:(A/\¬x < 0/\¬999999999999 < x/\(T->¬1 < x/\L/\B)/\(¬T->L/\B))↔A/\0<=x/\x<=999999999999/\(T->x<=1)/\L/\B:=by constructor;rintro⟨a,b,c,d,e⟩;by_cases t:T;exact⟨a,by omega,by omega,λ_=>by have:=(d t).1;omega,(d t).2⟩;exact⟨a,by omega,by omega,λh=>absurd h t,e t⟩;rintro⟨a,b,c,d,e⟩;exact⟨a,by omega,by omega,λt=>⟨by have:=d t;omega,e⟩,λ_=>e⟩
def aqH:∀(q:Nat)(n:Nd),IS n->3*Ft n<=q->ExS (AZ q) n:=by
 intro q
 induction q using blY with
 |_ q ih=>
 intro n Nq hq c d h0 h1 h2 h3;have hsz:=Fu n;obtain⟨q,rfl⟩:∃k,q=k+1:=⟨q - 1,by omega⟩;obtain⟨nS,hkl,XG⟩:=RM Nq;have hE:∀k∈n.kids,∀q',q<=q'+2->q' < q+1->ExS (AZ q') k:=λk hk q' h4 h5=>ih q' h5 k (XG k hk) (by have:=PF hk;omega);rw[AZ,Ga];refine Ol (iX n h0 h1) (λhp=>?_) λz hp=>Lm λa=>hp ⟨by omega,by have:=OL n;omega⟩;dsimp only;rw[cond_true];refine Out.congr (P:=VS n/\Ra n.kids (c+1) (d+1)) (t:=(c+1)+K4 n.kids) ?_ ?_ (λ_=>by omega);rotate_left;rw[S6,OL];unfold Ra;have hd:=@Za n.kids;constructor;rintro⟨a,b,e⟩;refine⟨⟨a,λk hk=>(b k hk).1⟩,by omega,?_⟩;have:=(hd (m:=(40 - d).toNat)).2 λk hk=>by have:=(b k hk).2;omega
 omega;rintro⟨⟨a,b⟩,e,f⟩;refine⟨a,λk hk=>⟨b k hk,?_⟩,by omega⟩;have:=(hd (m:=qU n.kids)).1 (aWP _) k hk;omega;have hc1:=hp.1;have hd1:=hp.2;rw[Cg (a:=d) (b:=1) (by omega)];have e0:(((n.kids.length:Nat):Int)=0)=(n.kids.length=0):=propext (by omega);simp only[Es,Lk,Ll,Ij,EA,sZ,rD,Yo,auY,baK _ nS,fM _ _ nS,Uu,e0];have hJ:∀{B:Prop},(B↔VS n)->(B->n.kids.length=0)->Out (some (mb B,c+1)) (VS n/\Ra n.kids (c+1) (d+1)) (c+1+K4 n.kids):=λhB hk=>(Yh hB).congr ⟨λa=>⟨a,(aJH (hk (hB.2 a)) hc1).1⟩,λa=>a.1⟩ λa=>(aJH (d:=d+1) (hk (hB.2 a.1)) hc1).2
 have hone:∀{B:Prop},(VS n↔B/\n.kids.length=1)->B->n.kids.length=1->Out ((n.kids[0]?).bind λx=>(AZ q ⟨c+1⟩ x (d+1)).bind λ(a,b)=>some (a,b)) (VS n/\Ra n.kids (c+1) (d+1)) (c+1+K4 n.kids):=by
  intro B hB hb hl;have hE0:=λk hk=>hE k hk q (by omega) (by omega);have hx:=hB.2 ⟨hb,hl⟩;generalize n.kids=ks at *
  match ks,hl with
  |[x],_=>
  simp only[bkO,Uu];refine Oj (hE0 x (by simp) (c+1) (d+1) (by omega) hc1 (by omega) (by omega)) ⟨λa=>⟨hx,aJI.2 a⟩,λa=>aJI.1 a.2⟩ λ_=>?_;simp[K4]
 by_cases k11:n.kind=11;rw[Bg k11];simp only[sW,adR,amA];refine hJ ?_ ?_;rw[aAI k11];exact asQ;intro h;exact(asQ.1 h).2.2.2.2.1;rw[Bl k11];by_cases k12:n.kind=12;rw[Bg k12];simp only[sW,adR,amA];refine hJ ?_ ?_;rw[aVM k12];intro h;exact h.2.1;rw[Bl k12];by_cases k13:n.kind=13;rw[Bg k13];simp only[sW,adR,amA];refine hJ ?_ ?_;rw[aVN k13];intro h;exact h.2.1;rw[Bl k13];by_cases k14:n.kind=14;rw[Bg k14];simp only[sW,adR,amA];refine hJ ?_ ?_;rw[aVO k14];intro h;exact h.2.1;rw[Bl k14];by_cases k15:n.kind=15;rw[Bg k15];have e:=aVP k15;refine I1 (λhl=>I1 (λhb=>hone (e.trans And.comm) hb (by omega)) λa=>(e.1 a.1).2) λa=>?_;have:=(e.1 a.1).1;omega;rw[Bl k15];by_cases k16:n.kind=16;rw[Bg k16];have e:=aVQ k16;refine I1 (λhb=>?_) λa=>(e.1 a.1).1;obtain⟨q,rfl⟩:∃k,q=k+1:=⟨q - 1,by omega⟩;rw[Bw];refine Oj (akM (g:=AZ q) (b:=Bw q) (n':=Be q) (l:=Bb q) (λk hk=>hE k hk q (by omega) (by omega)) (λk hk c d a1 a2 a3 a4=>?_) (by omega) hc1 h2 hd1) ?_ λ_=>rfl;obtain⟨q,rfl⟩:∃k,q=k+1:=⟨q - 1,by have:=Rt hk;have:=Fu k;omega⟩;rw[Be];exact oF (hE k hk q (by omega) (by omega)) a1 a2 a3 a4;rw[e];exact⟨λa=>⟨⟨hb,a.1⟩,a.2⟩,λa=>⟨a.1.2,a.2⟩⟩;rw[Bl k16];by_cases k17:n.kind=17;rw[Bg k17];have e:=aVR k17
 have IN:(n.name=GZ\/n.name=Dm)->Out (GX (Gp n ⟨0,n.name,gT,0,0,0,0,⟨0,[]⟩,[],0⟩) (GX (2<=((n.kids.length:Nat):Int)) ((Bb q ⟨c+1⟩ n.kids (d+1)).bind λ(a,b)=>some (a,b)) (some (false,c+1))) (some (false,c+1))) (VS n/\Ra n.kids (c+1) (d+1)) (c+1+K4 n.kids):=by intro hn;refine I1 (λhb=>I1 (λhl=>?_) λa=>?_) λa=>(e.1 a.1).2.1;obtain⟨q,rfl⟩:∃k,q=k+1:=⟨q - 1,by have:=Rr n.kids;omega⟩;rw[Bb,EC,L9 hkl,biT];dsimp only;refine Oj (UB (g:=AZ q) (p:=S5) (d:=d+1) (by omega) hc1 λk hk c' b0 b1=>hE k hk q (by omega) (by omega) c' (d+1) b0 b1 (by omega) (by omega)) ?_ λ_=>rfl;rw[e];exact⟨λa=>⟨⟨hn,hb,by omega⟩,a⟩,λa=>a.2⟩;have:=(e.1 a.1).2.2;omega
 by_cases hn1:n.name=GZ;rw[Bg hn1];exact IN (.inl hn1);rw[Bl hn1];exact I1 (λhn2=>IN (.inr hn2)) λa=>(e.1 a.1).1.resolve_left hn1;rw[Bl k17];by_cases k18:n.kind=18;rw[Bg k18];have e:=aVS k18;refine I1 (λhb=>I1 (λht=>I1 (λhl=>hone (B:=Gp n ⟨0,gT,gT,0,0,0,0,n.CW,[],0⟩/\uH n.CW) (e.trans (by rw[and_assoc])) ⟨hb,ht⟩ (by omega)) λa=>?_) λa=>(e.1 a.1).2.1) λa=>(e.1 a.1).1;have:=(e.1 a.1).2.2;omega;rw[Bl k18];exact Lm λa=>by have:=afZ a.1;omega
def Le{β:Type}(a b:Option β):Prop:=∀y,a=some y->b=some y
section
variable {α β γ δ ρ:Type}
def Le.refl(a:Option β):Le a a:=λ_ h=>h
def Rb{a a':Option α}{f g:α->Option β}(h:Le a a')(k:∀x,Le (f x) (g x)):Le (a.bind f) (a'.bind g):=by intro y hy;cases a with|none=>cases hy|some x=>rw[h x rfl];exact k x y hy
def agR{b:Bool}{x x' y y':Option β}(h:Le x x')(k:Le y y'):Le (cond b x y) (cond b x' y'):=by cases b;exact k;exact h
def aPR{n:Nat}{x x':Option β}(h:Le x x'):Le (PK n x) (PK n x'):=by unfold PK;split;exact h;exact Le.refl _
def agS{body Z1:Nat->α->γ->Option (Lp γ δ ρ)}{done:γ->δ}(h:∀i y x,Le (body i y x) (Z1 i y x)):∀(l:List α)(i:Nat)(x:γ),Le (Bs body done l i x) (Bs Z1 done l i x)
 |[],_,_=>Le.refl _
 |a::l,i,x=>by
  rw[Bs,Bs];refine Rb (h i a x) λz=>?_;cases z with|nx x'=>exact agS h l (i+1) x'|ex d=>exact Le.refl _|rt v=>exact Le.refl _
end
def cY:∀q:Nat,(∀c n d,Le (AZ q c n d) (AZ (q+1) c n d))/\(∀c n d,Le (Bw q c n d) (Bw (q+1) c n d))/\(∀c n d,Le (Be q c n d) (Be (q+1) c n d))/\(∀c n d,Le (Bb q c n d) (Bb (q+1) c n d))
 |0=>⟨(λ_ _ _ _ h=>nomatch h),(λ_ _ _ _ h=>nomatch h),(λ_ _ _ _ h=>nomatch h),(λ_ _ _ _ h=>nomatch h)⟩
 |q+1=>by
  obtain⟨i1,i2,i3,i4⟩:=cY q;refine⟨λc n d=>?_,λc n d=>?_,λc n d=>?_,λc n d=>?_⟩
  ·rw[AZ,AZ,Ga,Ga]
   repeat' first
    |exact Le.refl _
    |exact i1 _ _ _
    |exact i2 _ _ _
    |exact i4 _ _ _
    |refine agR ?_ ?_
    |refine Rb ?_ λ⟨_,_⟩=>?_
    |refine Rb ?_ λ_=>?_
  ·rw[Bw,Bw,DW,DW]
   repeat' first
    |exact Le.refl _
    |exact i1 _ _ _
    |exact i3 _ _ _
    |refine agR ?_ ?_
    |refine Rb ?_ λ⟨_,_⟩=>?_
    |refine Rb ?_ λ_=>?_
  rw[Be,Be,DY,DY];exact Rb (i1 _ _ _) λ_=>Le.refl _;rw[Bb,Bb,EC,EC];refine Rb (aPR (agS (λi y x=>?_) _ _ _)) λ_=>Le.refl _;rw[Hw,Hw];exact Rb (i1 _ _ _) λ_=>Le.refl _
def acI{β:Type}{f:Nat->Option β}(h:∀q,Le (f q) (f (q+1))){q:Nat}{y:β}(hy:f q=some y):evt f=some y:=by
 refine RD q λm hm=>?_
 induction m with
 | zero=>obtain rfl:q=0:=by omega
         exact hy
 |succ m ih=>
  rcases Nat.lt_or_ge m q with hlt | hge
  obtain rfl:q=m+1:=by omega
  exact hy;exact h m y (ih hge)
def acK{n:Nd}(Nq:IS n):ExS Gb n:=by intro c d h0 h1 h2 h3;obtain⟨z,hz,hz2⟩:=aqH (3*Ft n) n Nq (aWP _) c d h0 h1 h2 h3;exact⟨z,acI (λq=>(cY q).1 _ _ _) hz,hz2⟩
def auL{n:Nd}(Nq:IS n){c d:Int}(h0:0<=c)(h1:c<=2000)(h2:0<=d)(h3:d<=41):Out (GM ⟨c⟩ n d) ((S5 n/\Ti n)/\c+Ft n<=2000/\d+O5 n<=41) (c+Ft n):=by obtain⟨z,hz,hz2⟩:=oF (g:=AZ (3*Ft n)) (b:=Bw (3*Ft n)) (a:=Be (3*Ft n)) (l:=Bb (3*Ft n)) (aqH (3*Ft n) n Nq (aWP _)) h0 h1 h2 h3;exact⟨z,acI (q:=3*Ft n+1) (λq=>(cY q).2.2.1 _ _ _) (by rw[Be];exact hz),hz2⟩
abbrev z0:Nd:=⟨0,gT,gT,0,0,0,0,⟨0,[]⟩,[],0⟩
def aQT(n:Int):Hl n=some (mb (vZ n)):=by rw[Hl];simp only[Lk,EA,MQ,Jt];rfl
def O7(n:Nd):Prop:=n.kind=5/\(0<=n.n/\n.n<=1000000)/\n.kids.length=0/\vZ n.fr/\(n.fr < n.to/\n.to<=36525)/\vZ n.known/\Gp n ⟨0,gT,gT,n.n,n.fr,n.to,n.known,⟨0,[]⟩,[],0⟩
def C5(n:Nd):Prop:=Gp n z0/\(n.kind=7->0 < n.kids.length/\∀k∈n.kids,S5 k/\Ti k)/\(n.kind≠7->n.kids.length=1/\∀k∈n.kids,S5 k)
def agT{n:Nd}(h:n.kids.length=0):Ft n=1/\O5 n=1:=by have:=biJ h;rw[Fu,OL,this];exact⟨rfl,rfl⟩
def aOI{n:Nd}(Nq:IS n){c d:Int}(h0:0<=c)(h1:c<=2000):Out (H6 ⟨c⟩ n d) (O7 n/\c+Ft n<=2000/\d+O5 n<=41) (c+Ft n):=by
 obtain⟨nS,hkl,XG⟩:=RM Nq;have hsz:=Fu n;have hdp:=OL n;rw[H6];refine Ol (iX n h0 h1) (λhp=>?_) λz hp=>Lm λa=>hp ⟨by omega,by omega⟩;dsimp only;rw[cond_true];simp only[Es,Lk,Ll,EA,aQT,fM _ _ nS,Uu,sW,adR]
 have key:(n.kind=5/\¬n.n < 0/\¬1000000 < n.n/\¬(0:Int) < ((n.kids.length:Nat):Int)/\vZ n.fr/\¬n.to<=n.fr/\¬36525 < n.to/\vZ n.known/\Gp n ⟨0,gT,gT,n.n,n.fr,n.to,n.known,⟨0,[]⟩,[],0⟩)↔O7 n:=by unfold O7;constructor;rintro⟨a,b,c',e,f,g,h,i,j⟩;exact⟨a,⟨by omega,by omega⟩,by omega,f,⟨by omega,by omega⟩,i,j⟩;rintro⟨a,b,c',f,g,i,j⟩;exact⟨a,by omega,by omega,by omega,f,by omega,by omega,i,j⟩
 refine(Yh key).congr ⟨λa=>⟨a,?_⟩,λa=>a.1⟩ λa=>?_;have:=agT a.2.2.1;omega;have:=agT a.1.2.2.1;omega
def apM{n:Nd}(Nq:IS n){c d:Int}(h0:0<=c)(h1:c<=2000)(h2:0<=d):Out (Fk ⟨c⟩ n d) (C5 n/\c+Ft n<=2000/\d+O5 n<=41) (c+Ft n):=by
 obtain⟨nS,hkl,XG⟩:=RM Nq;have hsz:=Fu n;have hdp:=OL n;have hd:=@Za n.kids;rw[Fk];refine Ol (iX n h0 h1) (λhp=>?_) λz hp=>Lm λa=>hp ⟨by omega,by omega⟩;dsimp only;rw[cond_true,Cg (a:=d) (b:=1) (by omega)];simp only[Es,Ll,EA,fM _ _ nS,Uu];have hc1:=hp.1;have hd1:=hp.2
 have VB:(∀k∈n.kids,d+1+O5 k<=41)↔d+O5 n<=41:=by
  constructor;intro h;have:=(hd (m:=(40 - d).toNat)).2 λk hk=>by have:=h k hk;omega
  omega;intro h k hk;have:=(hd (m:=qU n.kids)).1 (aWP _) k hk;omega
 refine I1 (λhb=>?_) λa=>a.1.1;by_cases k7:n.kind=7;rw[Bg k7];refine I1 (λhl=>?_) λa=>by have:=(a.1.2.1 k7).1;omega
 rw[Ha,L9 hkl,biT];dsimp only;refine Oj (UB (g:=GM) (p:=λk=>S5 k/\Ti k) (d:=d+1) (by omega) hc1 λk hk c' b0 b1=>auL (XG k hk) b0 b1 (by omega) (by omega)) ⟨λa=>⟨⟨hb,λ_=>⟨by omega,λk hk=>(a.1 k hk).1⟩,λh=>absurd k7 h⟩,by omega,VB.1 λk hk=>(a.1 k hk).2⟩,λa=>⟨λk hk=>⟨(a.1.2.1 k7).2 k hk,VB.2 a.2.2 k hk⟩,by omega⟩⟩ λ_=>by omega
 ·rw[Bl k7]
  refine I1 (λhl=>?_) λa=>by have:=(a.1.2.2 k7).1;omega
  have hl1:n.kids.length=1:=by omega
  unfold C5;generalize n.kids=ks at *
  match ks,hl1 with
  |[x],_=>
  simp only[bkO,Uu];have e1:K4 [x]=Ft x:=by simp[K4]
  refine Oj (acK (XG x (by simp)) (c+1) (d+1) (by omega) hc1 (by omega) (by omega)) ⟨λa=>⟨⟨hb,λh=>absurd h k7,λ_=>⟨rfl,λk hk=>by rw[biQ.1 hk];exact a.1⟩⟩,by omega,VB.1 λk hk=>by rw[biQ.1 hk];exact a.2.2⟩,λa=>⟨(a.1.2.2 k7).2 x (by simp),by omega,VB.2 a.2.2 x (by simp)⟩⟩ λ_=>by omega
def El(k:Int):List Nd->Nat
 |[]=>0
 |a::l=>(if a.kind=k then 1 else 0)+El k l
def aAD(k:Int)(l:List Nd):El k l<=l.length:=by induction l with|nil=>simp[El]|cons a l ih=>simp only[El,bhE];split<;>omega
def kinds(l:List Nd):Prop:=∀k∈l,6<=k.kind/\k.kind<=8
def iH{y:Int}:∀{l:List Nd}{i:Nat}{a b c:Int},0<=a->0<=b->0<=c->a+l.length<=9223372036854775807->b+l.length<=9223372036854775807->c+l.length<=9223372036854775807 ->
 Bs (λi z x=>FE y i z x.1 x.2.1 x.2.2) (λx=>(x.1,x.2.1,x.2.2)) l i (a,b,c)=some (GX (kinds l) (.inl (a+El 6 l,b+El 7 l,c+El 8 l)) (.inr (false,y)))
 |[],i,a,b,c,_,_,_,_,_,_=>by rw[Bg (show kinds [] from λk hk=>(by cases hk))];simp[Bs,El]
 |z::l,i,a,b,c,h1,h2,h3,h4,h5,h6=>by
  simp only[bhE] at h4 h5 h6;rw[Bs,FE];simp only[Ll,Es,EA];have hk:kinds (z::l)↔(6<=z.kind/\z.kind<=8)/\kinds l:=by unfold kinds;simp
  have go:∀{a' b' c':Int},0<=a'->0<=b'->0<=c'->a'<=a+1->b'<=b+1->c'<=c+1->6<=z.kind/\z.kind<=8->a'+El 6 l=a+El 6 (z::l)->b'+El 7 l=b+El 7 (z::l)->c'+El 8 l=c+El 8 (z::l) ->
   (some (Lp.nx (a',b',c'))).bind (MK (Bs (λi z x=>FE y i z x.1 x.2.1 x.2.2) (λx=>(x.1,x.2.1,x.2.2)) l (i+1)))=some (GX (kinds (z::l)) (.inl (a+El 6 (z::l),b+El 7 (z::l),c+El 8 (z::l))) (.inr (false,y))):=by
   intro a' b' c' g1 g2 g3 g4 g5 g6 gk e1 e2 e3;show Bs _ _ l (i+1) (a',b',c')=_;rw[iH g1 g2 g3 (by omega) (by omega) (by omega),e1,e2,e3];by_cases hl:kinds l;rw[Bg hl,Bg (hk.2 ⟨gk,hl⟩)];rw[Bl hl,Bl λq=>hl (hk.1 q).2]
  by_cases k6:z.kind < 6;rw[Bg k6,Bl λq=>by have:=(hk.1 q).1;omega];rfl;rw[Bl k6];by_cases k8:8 < z.kind;rw[Bg k8,Bl λq=>by have:=(hk.1 q).1;omega];rfl;rw[Bl k8];by_cases e6:z.kind=6;rw[Bg e6,Cg (by omega)];exact go (by omega) h2 h3 (by omega) (by omega) (by omega) (by omega) (by simp[El,e6];omega) (by simp[El,e6]) (by simp[El,e6]);rw[Bl e6];by_cases e7:z.kind=7;rw[Bg e7,Cg (by omega)];exact go h1 (by omega) h3 (by omega) (by omega) (by omega) (by omega) (by simp[El,e7]) (by simp[El,e7];omega) (by simp[El,e7]);rw[Bl e7];have e8:z.kind=8:=by omega
  rw[Bg e8,Cg (by omega)];exact go h1 h2 (by omega) (by omega) (by omega) (by omega) (by omega) (by simp[El,e8]) (by simp[El,e8]) (by simp[El,e8];omega)
def abU(n:Nd):Prop:=Jl n.n/\MT n.name/\Gp n ⟨0,n.name,gT,n.n,0,0,0,⟨0,[]⟩,[],0⟩/\∃h cs,n.kids=h::cs/\kinds cs/\El 8 cs=1/\El 7 cs<=1/\O7 h/\∀k∈cs,C5 k
def K8(n:Nd):Prop :=
 (n.kind=2/\MT n.name/\Pf n.unit/\n.kids.length=0/\Gp n ⟨0,n.name,n.unit,0,0,0,0,⟨0,[]⟩,[],0⟩) \/
 (n.kind=3/\MT n.name/\Pf n.unit/\1<=n.n/\n.n<=4/\n.kids.length=0/\Gp n ⟨0,n.name,n.unit,n.n,0,0,0,⟨0,[]⟩,[],0⟩) \/
 (n.kind=4/\abU n)
def it2{n:Nd}(h:n.kind=2):K8 n↔MT n.name/\Pf n.unit/\n.kids.length=0/\Gp n ⟨0,n.name,n.unit,0,0,0,0,⟨0,[]⟩,[],0⟩:=by unfold K8;simp[h]
def it3{n:Nd}(h:n.kind=3):K8 n↔MT n.name/\Pf n.unit/\1<=n.n/\n.n<=4/\n.kids.length=0/\Gp n ⟨0,n.name,n.unit,n.n,0,0,0,⟨0,[]⟩,[],0⟩:=by unfold K8;simp[h]
def it4{n:Nd}(h:n.kind=4):K8 n↔abU n:=by unfold K8;simp[h]
def aBP{n:Nd}(h:K8 n):n.kind=2\/n.kind=3\/n.kind=4:=by
 unfold K8 at h;rcases h with h | h | h
 all_goals
   have:=h.1;simp[this]
def aPK{n:Nd}(Nq:IS n){c d:Int}(h0:0<=c)(h1:c<=2000)(h2:0<=d):Out (Gc ⟨c⟩ n d) (K8 n/\c+Ft n<=2000/\d+O5 n<=41) (c+Ft n):=by
 obtain⟨nS,hkl,XG⟩:=RM Nq;have hsz:=Fu n;have hdp:=OL n;have hd:=@Za n.kids;rw[Gc];refine Ol (iX n h0 h1) (λhp=>?_) λz hp=>Lm λa=>hp ⟨by omega,by omega⟩;dsimp only;rw[cond_true,Cg (a:=d) (b:=1) (by omega)];have e0:(((n.kids.length:Nat):Int)=0)=(n.kids.length=0):=propext (by omega);simp only[Es,Lk,Ll,EA,sZ,rD,Yo,fM _ _ nS,Uu,e0];have hc1:=hp.1;have hd1:=hp.2;have hJ:∀{B:Prop},(B↔K8 n)->(B->n.kids.length=0)->Out (some (mb B,c+1)) (K8 n/\c+Ft n<=2000/\d+O5 n<=41) (c+Ft n):=λhB hk=>(Yh hB).congr ⟨λa=>⟨a,by have:=agT (hk (hB.2 a));omega⟩,λa=>a.1⟩ λa=>by have:=agT (hk (hB.2 a.1));omega
 by_cases k2:n.kind=2;rw[Bg k2];simp only[sW,adR,amA];refine hJ ?_ ?_;rw[it2 k2];intro h;exact h.2.2.1;rw[Bl k2];by_cases k3:n.kind=3;rw[Bg k3];simp only[sW,adR,amA];refine hJ ?_ ?_;rw[it3 k3];intro h;exact h.2.2.2.2.1;rw[Bl k3];by_cases k4:n.kind=4;rotate_left;rw[Bl k4];exact Lm λa=>by have:=aBP a.1;omega
 rw[Bg k4,it4 k4];refine I1 (λhr=>I1 (λhn=>I1 (λhb=>?_) λa=>a.1.2.2.1) λa=>a.1.2.1) λa=>a.1.1;refine yJ (λhl0=>?_) λa h=>by obtain⟨h',cs,hk,_⟩:=a.1.2.2.2;rw[hk] at h;simp at h
 have VB:(∀k∈n.kids,d+1+O5 k<=41)↔d+O5 n<=41:=by
  constructor;intro h;have:=(hd (m:=(40 - d).toNat)).2 λk hk=>by have:=h k hk;omega
  omega;intro h k hk;have:=(hd (m:=qU n.kids)).1 (aWP _) k hk;omega
 unfold abU;generalize n.kids=ks at *
 match ks,hl0 with
 |x::l,_=>
 have S7:cE (x::l) 1 (((x::l).length:Nat):Int)=some l:=by unfold cE;rw[if_pos (by simp only[bhE];omega)];simp
 rw[S7];simp only[Uu,bhE] at hkl ⊢
 have e2:∀{A:Prop},(∃h cs,x::l=h::cs/\kinds cs/\El 8 cs=1/\El 7 cs<=1/\O7 h/\∀k∈cs,C5 k)↔(kinds l/\El 8 l=1/\El 7 l<=1/\O7 x/\∀k∈l,C5 k):=by intro _;constructor;rintro⟨h,cs,e,r⟩;cases e;exact r;intro r;exact⟨x,l,rfl,r⟩
 rw[L9 (by omega),biT,iH (by omega) (by omega) (by omega) (by omega) (by omega) (by omega)];simp only[Uu];by_cases hK:kinds l;rotate_left;rw[Bl hK];show Out (some (false,c+1)) _ _;exact Lm λa=>hK ((e2 (A:=True)).1 a.1.2.2.2).1;rw[Bg hK];show Out (GX ((0:Int)+El 8 l=1) (GX (1 < (0:Int)+El 7 l) (some (false,c+1)) _) (some (false,c+1))) _ _;refine I1 (λh8=>yJ (λh7=>?_) λa=>?_) λa=>?_;rotate_left;have:=((e2 (A:=True)).1 a.1.2.2.2).2.2.1;omega;have:=((e2 (A:=True)).1 a.1.2.2.2).2.1;omega;simp only[bkO,Uu];have hdx:=λh=>VB.2 h x (by simp);have hsl:K4 (x::l)=Ft x+K4 l:=by simp[K4]
 refine Ol (aOI (XG x (by simp)) (c:=c+1) (d:=d+1) (by omega) hc1) (λhx=>?_) λz hx=>Lm λa=>hx ⟨((e2 (A:=True)).1 a.1.2.2.2).2.2.2.1,by omega,hdx a.2.2⟩;dsimp only;rw[cond_true,G9,L9 (by omega),biT];dsimp only;refine Oj (UB (g:=Fk) (p:=C5) (d:=d+1) (by omega) hx.2.1 λk hk c' b0 b1=>apM (XG k (by simp[hk])) b0 b1 (by omega)) ?_ λ_=>by omega
 constructor;rintro⟨a,b⟩;refine⟨⟨hr,hn,hb,(e2 (A:=True)).2 ⟨hK,by omega,by omega,hx.1,λk hk=>(a k hk).1⟩⟩,by omega,VB.1 λk hk=>?_⟩;rcases bhJ.1 hk with rfl | hk
 exact hx.2.2;exact(a k hk).2;rintro⟨a,b,e⟩;exact⟨λk hk=>⟨((e2 (A:=True)).1 a.2.2.2).2.2.2.2 k hk,VB.2 e k (by simp[hk])⟩,by omega⟩
def okV(n:Nd):Prop:=((n.kind=1/\Gp n z0/\∀k∈n.kids,K8 k)\/(n.kind≠1/\S5 n))/\Ft n<=2000/\O5 n<=40
def eB{n:Nd}(Nq:IS n):D9 n=some (mb (okV n)):=by
 obtain⟨nS,hkl,XG⟩:=RM Nq;have hsz:=Fu n;have hdp:=OL n;have hd:=@Za n.kids;rw[D9,Es,EA]
 have fin:∀{r:Option (Bool×Int)}{P:Prop}{t:Int},Out r P t->(P↔okV n)->(r.bind λ(a,_)=>some a)=some (mb (okV n)):=by rintro r P t ⟨z,rfl,_⟩ h;rw[MS h];rfl
 by_cases k1:n.kind=1;rotate_left;rw[Bl k1];refine fin (acK Nq 0 1 (by omega) (by omega) (by omega) (by omega)) ?_;unfold okV;constructor;rintro⟨a,b,c⟩;exact⟨.inr ⟨k1,a⟩,by omega,by omega⟩;rintro⟨a | a,b,c⟩;exact absurd a.1 k1;exact⟨a.2,by omega,by omega⟩;rw[Bg k1];obtain⟨z,hz,hz2⟩:=iX n (c:=0) (d:=1) (by omega) (by omega);rw[hz];simp only[Uu,fM _ _ nS,EA];by_cases h1:(0:Int)+1<=2000/\(1:Int)<=40;rotate_left;exact absurd ⟨by omega,by omega⟩ h1;rw[Bg h1,hz2 h1];by_cases hb:Gp n z0;rotate_left;rw[Bl hb];refine O0 ?_;rintro⟨a | a,_⟩;exact hb a.2.1;exact a.1 k1;rw[Bg hb,Ip,L9 hkl,biT];dsimp only;refine fin (UB (g:=Gc) (p:=K8) (d:=2) (by omega) (by omega) λk hk c' b0 b1=>aPK (XG k hk) b0 b1 (by omega)) ?_;unfold okV;constructor;rintro⟨a,b⟩;refine⟨.inl ⟨k1,hb,λk hk=>(a k hk).1⟩,by omega,?_⟩;have:=(hd (m:=39)).2 λk hk=>by have:=(a k hk).2;omega
 omega;rintro⟨a | a,b,e⟩;refine⟨λk hk=>⟨a.2.2 k hk,?_⟩,by omega⟩;have:=(hd (m:=qU n.kids)).1 (aWP _) k hk;omega;exact absurd k1 a.1
abbrev Rd(α:Type):=List Tk->Option ((α⊕Dg)×List Tk)
section
variable {α β:Type}
def CX(a:α):Rd α:=λl=>some (.inl a,l)
def IE(e p:Int):Rd α:=λl=>some (.inr ⟨e,p⟩,l)
def A5(m:Rd α)(k:α->Rd β):Rd β:=λl=>match m l with|none=>none|some (.inl a,s)=>k a s|some (.inr d,s)=>some (.inr d,s)
def H9(x:Option α)(k:α->Rd β):Rd β:=λl=>match x with|none=>none|some a=>k a l
def Sd(en:Int)(k:Tk->Rd β):Rd β:=λl=>match l with|[]=>some (.inr ⟨72,en⟩,[])|t::s=>k t (t::s)
def Nl(k:Rd β):Rd β:=λl=>match l with|[]=>none|_::s=>k s
def Co(x:ByteArray):List Tk->Bool
 |[]=>false
 |t::_=>Bd t.text.data.toList x.data.toList
def NC(x:ByteArray)(yes no:Rd β):Rd β:=λl=>cond (Co x l) (Nl yes l) (no l)
end
def Ig(en:Int)(fits:Tk->Option Bool):Rd Tk:=Sd en λt=>H9 (fits t) λb=>cond b (Nl (CX t)) (IE 71 t.AO)
def Ff(en:Int)(x:ByteArray):Rd Tk:=Ig en λt=>Bp t x
def iU(en:Int):Rd Tk:=Ig en Cr
def aaS(en:Int):Rd Tk:=Ig en It
def oP(en:Int):Rd Tk:=Ig en Ci
def Tj(en:Int):Rd (Int×Int):=A5 (Ig en DC) λt=>H9 (OK t.text) λn=>CX (n.1,t.AO)
def M4(en least:Int):Rd (Int×Int):=A5 (Tj en) λp=>cond (Cy p.1 least) (IE 3 p.2) (cond (Cy 1000000 p.1) (IE 3 p.2) (CX p))
def X0(en least:Int):Rd Int:=A5 (Ig en FG) λt=>H9 (Ep t.text) λd=>cond (A8 d.2 0) (cond (Cy d.1 least) (IE 21 t.AO) (CX d.1)) (IE 21 t.AO)
abbrev bE:ByteArray:=gT
def Dd(kind:Int)(name unit:ByteArray)(n:Int)(kids:List Nd)(p:Int):Nd:=⟨kind,name,unit,n,0,0,0,⟨0,[]⟩,kids,p⟩
def gX(en:Int):Rd Nd:=A5 (Ff en aJ) λt=>A5 (M4 en 0) λn=>A5 (Ff en Z4) λ_=>A5 (X0 en 0) λf=>
 NC toS (A5 (X0 en (A1 f 1)) λu=>A5 (Ff en P5) λ_=>A5 (X0 en 0) λk=>CX ⟨5,bE,bE,n.1,f,u,k,⟨0,[]⟩,[],t.AO⟩)
   (A5 (Ff en P5) λ_=>A5 (X0 en 0) λk=>CX ⟨5,bE,bE,n.1,f,36525,k,⟨0,[]⟩,[],t.AO⟩)
def UK(en:Int):Rd Nd:=Sd en λt=>Nl<|A5 (iU en) λm=>A5 (Ff en Va) λ_=>A5 (aaS en) λu=>
 cond (Bd t.text.data.toList GA.data.toList)
   (A5 (oP en) λr=>H9 (Da r.text) λn=>A5 (Ff en Jv) λ_=>CX (Dd 3 m.text u.text n [] t.AO))
   (A5 (Ff en Jv) λ_=>CX (Dd 2 m.text u.text 0 [] t.AO))
def F4(en:Int):Rd Nd:=A5 (M4 en 1) λp=>CX (Dd 11 bE BH p.1 [] p.2)
def Lq{β:Type}(n:Nat)(m:Rd β):Rd β:=λs=>G8 n (m s)
def Re(read:Rd Nd):Nat->List Nd->Rd (List Nd)
 |0,_=>λ_=>none
 |q+1,l=>NC KG (A5 read λn=>Lq (l.length+1) (Re read q (l++[n]))) (CX l)
def P9(read:Rd Nd):Rd (List Nd):=A5 read λn s=>Re read (s.length+1) [n] s
def TU(en:Int):Rd (Int×Int):=A5 (Ig en D0) λt=>H9 (Dy t) λc=>cond (A8 t.kind 3) (cond (A8 c 0) (CX (c,t.AO)) (IE 3 t.AO)) (CX (c,t.AO))
def oU(en:Int):Rd Int:=A5 (Ig en FM) λt=>cond (Bd t.text.data.toList J5.data.toList) (CX (-1)) (CX 1)
def rA:Nat->Int->Int->Int
 |0,a,_=>a
 |n+1,a,b=>if b=0 then a else rA n b (a % b)
def akY(a b:Int):Option Int:=if 1<=a/\0<=b then some (rA (b.toNat+1) a b) else none
def Tt(en AM from_ a:Int):Rd (Pt×Int):=A5 (oU en) λs=>A5 (M4 en 0) λm=>A5 (Ff en DP) λ_=>A5 (M4 en 1) λd=>
 H9 (akY AM d.1) λg=>H9 (OM AM g) λz=>cond (Cy 1000000 (Bj z d.1)) (IE 2 d.2) (CX (⟨from_,a,Bj m.1 s,d.1⟩,Bj z d.1))
def Tr(en AM from_:Int):Rd (Pt×Int):=A5 (Ff en Va) λ_=>NC J5 (A5 (TU en) λa=>Tt en AM from_ (Bj a.1 (-1))) (A5 (TU en) λa=>Tt en AM from_ (Bj a.1 1))
def Zp(en:Int)(before:List Pt)(AM:Int):Rd (Pt×Int):=A5 (TU en) λv=>
 cond (A8 ((before.length:Nat):Int) 0) (cond (A8 v.1 0) (Tr en AM v.1) (IE 3 v.2))
   (H9 (before[before.length - 1]?) λq=>cond (My v.1 q.fr) (IE 3 v.2) (cond (My 64 ((before.length:Nat):Int)) (IE 2 v.2) (Tr en AM v.1)))
def Pw(en:Int):Nat->List Pt->Int->Rd (List Pt×Int)
 |0,_,_=>λ_=>none
 |q+1,l,c=>A5 (Zp en l c) λp=>Lq (l.length+1) (NC KG (Pw en q (l++[p.1]) p.2) (CX (l++[p.1],p.2)))
def NX(c p:Int):List Pt->List Pc->Rd (List Pc)
 |[],acc=>CX acc
 |x::xs,acc=>H9 (OM c x.den) λz=>cond (Cy 1000000 (Bj x.num z)) (IE 2 p) (cond (Cy (Bj x.num z) (-1000000)) (IE 2 p) (Lq (acc.length+1) (NX c p xs (acc++[⟨x.fr,Bj x.AO c,Bj x.num z⟩]))))
inductive Ek where
 |ex | lv (i:Nat) | at_ | wd (t:Tk) | ca | ta
def ZO(en:Int)(g:Ek->Rd Nd):Rd Nd:=A5 (Ff en G5) λt=>A5 (Ff en Ni) λ_=>A5 (g .ex) λa=>A5 (Ff en Jv) λ_=>A5 (λs=>Pw en (s.length+1) [] 1 s) λl=>A5 (Ff en NB) λe=>
 Lq l.1.length (A5 (NX l.2 e.AO l.1 []) λr=>CX ⟨18,bE,bE,0,0,0,0,⟨l.2,r⟩,[a],t.AO⟩)
def fR(en:Int)(g:Ek->Rd Nd)(li:Rd (List Nd)):Rd Nd:=Sd en λt=>Nl<|A5 (Ff en Ni) λ_=>A5 (g .ex) λa=>A5 (Ff en KG) λ_=>A5 li λl=>Lq (1+l.length)<|A5 (Ff en NB) λ_=>CX (Dd 17 t.text bE 0 (a::l) t.AO)
def afV(t:Tk):Rd Nd:=Nl (CX (Dd 14 t.text bE 0 [] t.AO))
def lD(en:Int)(g:Ek->Rd Nd)(t:Tk):Rd Nd :=
 cond (Bd t.text.data.toList Pe.data.toList) (Nl (CX (Dd 11 bE DS 1 [] t.AO))) <|
 cond (Bd t.text.data.toList Lg.data.toList) (Nl (CX (Dd 11 bE DS 0 [] t.AO))) <|
 cond (Bd t.text.data.toList QO.data.toList) (Nl (A5 (M4 en 1) λp=>CX (Dd 13 bE bE p.1 [] t.AO))) <|
 cond (Bd t.text.data.toList Ei.data.toList) (afV t)<|cond (Bd t.text.data.toList PV.data.toList) (afV t)<|cond (Bd t.text.data.toList Hr.data.toList) (afV t)<|cond (Bd t.text.data.toList KP.data.toList) (afV t) <|
 cond (Bd t.text.data.toList GZ.data.toList) (g .ca)<|cond (Bd t.text.data.toList Dm.data.toList) (g .ca)<|cond (Bd t.text.data.toList G5.data.toList) (g .ta) <|
 cond (Bd t.text.data.toList Ni.data.toList) (Nl (A5 (g .ex) λa=>A5 (Ff en NB) λ_=>CX a)) (IE 71 t.AO)
def vQ(en:Int)(g:Ek->Rd Nd):Rd Nd:=Sd en λt=>
 cond (A8 t.kind 3) (A5 (Tj en) λn=>NC sM (CX (Dd 11 bE Dx n.1 [] n.2)) (CX (Dd 11 bE BH n.1 [] n.2)))
   (cond (A8 t.kind 2) (Nl (A5 (Ig en FF) λa=>H9 (Dy a) λc=>CX (Dd 11 bE t.text c [] t.AO)))
     (H9 (Cr t) λb=>cond b (Nl (CX (Dd 12 t.text bE 0 [] t.AO))) (g (.wd t))))
def opsOf:Nat->List ByteArray
 |0=>[aH]
 |1=>[MI]
 |3=>[Ec,ES,ID,EE,Md,IT]
 |4=>[Mc,J5]
 |5=>[Oz,DP,bC]
 |_=>[]
def opR{β:Type}(yes:ByteArray->Rd β)(no:Rd β):List ByteArray->Rd β
 |[]=>no
 |x::xs=>NC x (yes x) (opR yes no xs)
def ND(en:Int)(sub:Rd Nd)(op:ByteArray)(l:Nd):Rd Nd:=A5 (cond (Bd op.data.toList DP.data.toList) (F4 en) sub) λr=>H9 (AU op l r) λb=>CX b
def Kn(en:Int)(ops:List ByteArray)(sub:Rd Nd):Nat->Nd->Rd Nd
 |0,_=>λ_=>none
 |q+1,l=>opR (λop=>A5 (ND en sub op l) λb=>Kn en ops sub q b) (CX l) ops
def Tb(en:Int)(g:Ek->Rd Nd)(i:Nat):Rd Nd:=A5 (g (.lv (i+1))) λl s=>Kn en (opsOf i) (g (.lv (i+1))) (s.length+1) l s
def apT(en:Int)(g:Ek->Rd Nd):Rd Nd:=A5 (g (.lv 4)) λl=>opR (λop=>ND en (g (.lv 4)) op l) (CX l) (opsOf 3)
def sS(en:Int)(g:Ek->Rd Nd):Rd Nd:=λs=>cond (Co Th s) (A5 (Ff en Th) (λt=>A5 (g (.lv 2)) λk=>CX (Dd 15 bE bE 0 [k] t.AO)) s) (g (.lv 3) s)
def aM(en:Int)(g:Ek->Rd Nd)(li:Rd (List Nd)):Ek->Rd Nd
 |.ex=>g (.lv 0)
 |.lv 2=>sS en g
 |.lv 3=>apT en g
 |.lv 6=>g .at_
 |.lv i=>Tb en g i
 |.at_=>vQ en g
 |.wd t=>lD en g t
 |.ca=>fR en g li
 |.ta=>ZO en g
def gP(en:Int):Nat->(Ek->Rd Nd)×Rd (List Nd)
 |0=>(λ_ _=>none,λ_=>none)
 |q+1=>(aM en (gP en q).1 (gP en q).2,P9 ((gP en q).1 .ex))
def LY(en:Int)(ex:Rd Nd)(kind:Int):Rd Nd:=Sd en λt=>Nl <|
 cond (A8 kind 7) (A5 (P9 (F4 en)) λl=>A5 (Ff en Jv) λ_=>CX (Dd kind bE bE 0 l t.AO)) (A5 ex λe=>A5 (Ff en Jv) λ_=>CX (Dd kind bE bE 0 [e] t.AO))
def Ir(en:Int)(ex:Rd Nd)(mk:List Nd->Nd):Nat->List Nd->Bool->Bool->Rd Nd
 |0,_,_,_=>λ_=>none
 |q+1,l,un,am=>Sd en λt=>
  cond (Bd t.text.data.toList Nb.data.toList) (A5 (LY en ex 6) λc=>Lq (l.length+1) (Ir en ex mk q (l++[c]) un am)) <|
  cond (Bd t.text.data.toList FV.data.toList) (cond un (IE 5 t.AO) (A5 (LY en ex 7) λc=>Lq (l.length+1) (Ir en ex mk q (l++[c]) true am))) <|
  cond (Bd t.text.data.toList EK.data.toList) (cond am (IE 5 t.AO) (A5 (LY en ex 8) λc=>Lq (l.length+1) (Ir en ex mk q (l++[c]) un true))) <|
  cond (Bd t.text.data.toList Vb.data.toList) (cond am (Nl (CX (mk l))) (IE 71 t.AO)) (IE 71 t.AO)
def PR(en:Int)(ex:Rd Nd):Rd Nd:=A5 (Ff en Cp) λt=>A5 (M4 en 1) λn=>A5 (Ff en lU) λ_=>A5 (iU en) λm=>A5 (gX en) λh=>A5 (Ff en bJ) λ_=>λs=>
 Ir en ex (λl=>Dd 4 m.text bE n.1 l t.AO) (s.length+1) [h] false false s
def Wk(en:Int)(ex:Rd Nd):Rd Nd:=Sd en λt=>
 cond (Bd t.text.data.toList Ic.data.toList) (UK en)<|cond (Bd t.text.data.toList GA.data.toList) (UK en)<|cond (Bd t.text.data.toList Cp.data.toList) (PR en ex) (IE 71 t.AO)
theorem wO:∀(n:Nat)(a b:Int),1<=a->0<=b->b < n->∃m,B8 (λx:Int×Int=>GO x.1 x.2) m (a,b)=some (.inl (rA n a b))/\1<=rA n a b/\rA n a b∣a/\rA n a b∣b:=by
 intro n
 induction n with
 |zero=>intro a b h1 h2 h3;omega
 |succ n ih=>
  intro a b h1 h2 h3;unfold rA;by_cases hb:b=0;rw[if_pos hb];subst hb;refine⟨1,?_,h1,Int.dvd_refl a,Int.dvd_zero a⟩;show(GO a 0).bind _=_;rw[GO,C4 rfl];rfl;rw[if_neg hb];obtain⟨m,h4,h5,h6,h7⟩:=ih b (a % b) (by omega) (bsK a hb) (by have:=brI a (show 0 < b by omega);omega);refine⟨m+1,?_,h5,?_,h6⟩;show(GO a b).bind _=_;rw[GO,DE hb]
  have:VR a b=some (a % b):=by unfold VR XC;rw[if_neg hb,bpC (by omega)]
  dsimp only[cond];rw[this];exact h4;have:=Int.dvd_add h7 (Int.dvd_mul_of_dvd_left h6:_∣b*(a / b));rwa[Int.emod_add_mul_ediv] at this
theorem aqU{a b g:Int}(h:akY a b=some g):CP a b=some g:=by unfold akY at h;split at h;rename_i hc;cases h;obtain⟨m,h1,_⟩:=wO (b.toNat+1) a b hc.1 hc.2 (by omega);unfold CP;rw[BB h1];rfl;cases h
theorem aqV{a b:Int}(ha:1<=a)(hb:0<=b):∃g,akY a b=some g/\1<=g/\g∣a/\g∣b:=by obtain⟨m,_,h1⟩:=wO (b.toNat+1) a b ha hb (by omega);exact⟨_,if_pos ⟨ha,hb⟩,h1⟩
section
variable {α β γ:Type}{ts:List Tk}{k:Nat}{en:Int}{r:α⊕Dg}{l:List Tk}
def Kk(ts:List Tk)(k:Nat)(X:Option ((α⊕Dg)×Int))(r:α⊕Dg)(l:List Tk):Prop:=∃k':Nat,k<=k'/\k'<=ts.length/\l=ts.drop k'/\X=some (r,(k':Int))
theorem EY(hk:k<=ts.length){q:α⊕Dg}{z:Int}(hz:z=(k:Int))(h:some (q,ts.drop k)=some (r,l)):Kk ts k (some (q,z)) r l:=by simp only[atS,aWN] at h;exact⟨k,aWP k,hk,h.2.symm,by rw[h.1,hz]⟩
theorem M8{k2:Nat}{X:Option ((α⊕Dg)×Int)}(h1:k<=k2)(h:Kk ts k2 X r l):Kk ts k X r l:=by obtain⟨k',a,b,c,d⟩:=h;exact⟨k',biP h1 a,b,c,d⟩
theorem Bu{F1:Option ((γ⊕Dg)×Int)}{F2:(γ⊕Dg)×Int->Option ((α⊕Dg)×Int)}{m:Rd γ}{K:γ->Rd α}
   (h1:∀{r l},m (ts.drop k)=some (r,l)->Kk ts k F1 r l)
   (h2:∀a k',k<=k'->k'<=ts.length->K a (ts.drop k')=some (r,l)->Kk ts k' (F2 (.inl a,(k':Int))) r l)
   (h3:∀d z,F2 (.inr d,z)=some (.inr d,z)) (hS:A5 m K (ts.drop k)=some (r,l)):Kk ts k (F1.bind F2) r l:=by
 unfold A5 at hS;split at hS;cases hS;rename_i a s hm;obtain⟨k',a1,a2,rfl,a4⟩:=h1 hm;rw[a4];exact M8 a1 (h2 _ _ a1 a2 hS);rename_i d s hm;obtain⟨k',a1,a2,rfl,a4⟩:=h1 hm;rw[a4,Uu,h3];simp only[atS,aWN] at hS;exact⟨k',a1,a2,hS.2.symm,by rw[hS.1]⟩
theorem P8{X:Option γ}{K:γ->Rd α}{s:List Tk}(h:H9 X K s=some (r,l)):∃a,X=some a/\K a s=some (r,l):=by unfold H9 at h;split at h;cases h;exact⟨_,rfl,h⟩
theorem Ko(ts:List Tk)(hk:k<=ts.length):(k=ts.length/\ts.drop k=[])\/∃t,k+1<=ts.length/\ts[k]?=some t/\ts.drop k=t::ts.drop (k+1):=by by_cases h:k < ts.length;exact .inr ⟨ts[k],h,aBD h,(bjH h)⟩;exact .inl ⟨by omega,biX (by omega)⟩
theorem ZE{F2:Tk⊕Dg->Option ((α⊕Dg)×Int)}{K:Tk->Rd α}(hk:k<=ts.length)
   (h2:∀t,k+1<=ts.length->ts.drop k=t::ts.drop (k+1)->K t (ts.drop k)=some (r,l)->Kk ts k (F2 (.inl t)) r l)
   (h3:∀d,F2 (.inr d)=some (.inr d,(k:Int))) (hS:Sd en K (ts.drop k)=some (r,l)):Kk ts k ((Az ⟨ts,k,en⟩).bind F2) r l:=by
 unfold Sd at hS;rcases Ko ts hk with ⟨h1,h2'⟩ | ⟨t,h1,h2',h3'⟩
 rw[h2'] at hS;dsimp only at hS
 have:Az ⟨ts,k,en⟩=some (.inr ⟨72,en⟩):=by unfold Az;rw[T6 (by dsimp only;omega)];rfl
 rw[this,Uu,h3];simp only[atS,aWN] at hS;exact⟨k,aWP k,hk,by rw[h2',hS.2],by rw[hS.1]⟩;rw[h3'] at hS;dsimp only at hS
 have:Az ⟨ts,k,en⟩=some (.inl t):=by unfold Az;rw[P7 (by dsimp only;omega)];dsimp only[cond];unfold Dk;rw[if_pos (by omega),biN,h2'];rfl
 rw[this,Uu];exact h2 t h1 h3' (by rw[h3'];exact hS)
theorem JK(hk:k<=ts.length)(x:ByteArray):Ar ⟨ts,k,en⟩ x=some (Co x (ts.drop k)):=by
 unfold Ar;rcases Ko ts hk with ⟨h1,h2'⟩ | ⟨t,h1,h2',h3'⟩
 rw[h2',Dv (by dsimp only;omega)];rfl;rw[h3',En (by dsimp only;omega)];dsimp only[cond];unfold Dk;rw[if_pos (by omega),biN,h2'];rfl
theorem jW{x:ByteArray}(hk:k<=ts.length)(h:Co x (ts.drop k)=true):∃t,k+1<=ts.length/\ts.drop k=t::ts.drop (k+1):=by
 rcases Ko ts hk with ⟨h1,h2'⟩ | ⟨t,h1,h2',h3'⟩
 rw[h2'] at h;cases h;exact⟨t,h1,h3'⟩
theorem Hg(Fg:ts.length<=1000000)(hk:k<=ts.length):A1 (k:Int) 1=((k+1:Nat):Int):=by rw[Cg (by omega)];rfl
theorem mE{K:Rd α}{t:Tk}(ht:ts.drop k=t::ts.drop (k+1))(h:Nl K (ts.drop k)=some (r,l)):K (ts.drop (k+1))=some (r,l):=by rw[ht] at h;exact h
theorem ahT{F2:Bool->Option ((α⊕Dg)×Int)}{A B:Rd α}{x:ByteArray}(hk:k<=ts.length)
   (h1:k+1<=ts.length->A (ts.drop (k+1))=some (r,l)->Kk ts (k+1) (F2 true) r l) (h2:B (ts.drop k)=some (r,l)->Kk ts k (F2 false) r l)
   (hS:NC x A B (ts.drop k)=some (r,l)):Kk ts k ((Ar ⟨ts,k,en⟩ x).bind F2) r l:=by
 unfold NC at hS;rw[JK hk,Uu];cases hx:Co x (ts.drop k) with
 |true=>
  rw[hx] at hS;obtain⟨t,ht1,iC⟩:=jW hk hx;exact M8 (biC k) (h1 ht1 (mE iC hS))
 |false=>
  rw[hx] at hS;exact h2 hS
end
section
variable {ts:List Tk}(Fg:ts.length<=1000000){en:Int}
include Fg
theorem TO(fits:Tk->Option Bool){k:Nat}(hk:k<=ts.length){r l}(hS:Ig en fits (ts.drop k)=some (r,l)) :
   Kk ts k ((Az ⟨ts,k,en⟩).bind λy1=>aWO (λ(Ih:Tk)=>(fits Ih).bind λy2=>cond y2 (some ((bqT Ih:(Tk⊕Dg)),(A1 (k:Int) 1))) (some ((blT (⟨71,Ih.AO⟩:Dg):(Tk⊕Dg)),(k:Int)))) (λ(R8:Dg)=>some ((blT R8:(Tk⊕Dg)),(k:Int))) y1) r l:=by
 refine ZE hk (λt h1 h2 hS=>?_) (λ_=>rfl) hS;obtain⟨b,hb,hS⟩:=P8 hS;dsimp only[aWO];rw[hb,Uu];cases b with
 |true=>
  have:=mE h2 hS;rw[cond,Hg Fg hk];exact M8 (biC k) (EY h1 rfl this)
 |false=>exact EY hk rfl hS
theorem JP(x:ByteArray){k:Nat}(hk:k<=ts.length){r l}(hS:Ff en x (ts.drop k)=some (r,l)):Kk ts k (Ak ⟨ts,k,en⟩ x) r l:=by obtain⟨k',a1,a2,a3,a4⟩:=TO Fg (λt=>Bp t x) hk hS;refine⟨k',a1,a2,a3,?_⟩;unfold Ak JF;rw[a4,Uu];cases r<;>rfl
theorem atZ{k:Nat}(hk:k<=ts.length){r l}(hS:iU en (ts.drop k)=some (r,l)):Kk ts k (DO ⟨ts,k,en⟩) r l:=TO Fg Cr hk hS
theorem aSR{k:Nat}(hk:k<=ts.length){r l}(hS:aaS en (ts.drop k)=some (r,l)):Kk ts k (Hb ⟨ts,k,en⟩) r l:=TO Fg It hk hS
theorem aRK{k:Nat}(hk:k<=ts.length){r l}(hS:oP en (ts.drop k)=some (r,l)):Kk ts k (Jh ⟨ts,k,en⟩) r l:=TO Fg Ci hk hS
theorem yC{k:Nat}(hk:k<=ts.length){r l}(hS:Tj en (ts.drop k)=some (r,l)):Kk ts k (FH ⟨ts,k,en⟩) r l:=by refine Bu (λh=>TO Fg DC hk h) (λt k' h1 h2 hS=>?_) (λ_ _=>rfl) hS;obtain⟨n,hn,hS⟩:=P8 hS;dsimp only[aWO];rw[hn];exact EY h2 rfl hS
theorem Rj(least:Int){k:Nat}(hk:k<=ts.length){r l}(hS:M4 en least (ts.drop k)=some (r,l)):Kk ts k (AG ⟨ts,k,en⟩ least) r l:=by
 refine Bu (λh=>yC Fg hk h) (λt k' h1 h2 hS=>?_) (λ_ _=>rfl) hS;dsimp only[aWO];revert hS;cases Cy t.1 least;cases Cy 1000000 t.1<;>exact λhS=>EY h2 rfl hS
 exact λhS=>EY h2 rfl hS
theorem qQ(least:Int){k:Nat}(hk:k<=ts.length){r l}(hS:X0 en least (ts.drop k)=some (r,l)):Kk ts k (Eb ⟨ts,k,en⟩ least) r l:=by refine Bu (λh=>TO Fg FG hk h) (λt k' h1 h2 hS=>?_) (λ_ _=>rfl) hS;obtain⟨n,hn,hS⟩:=P8 hS;dsimp only[aWO];rw[hn,Uu];revert hS;cases A8 n.2 0;exact λhS=>EY h2 rfl hS;cases Cy n.1 least<;>exact λhS=>EY h2 rfl hS
theorem aOG{k:Nat}(hk:k<=ts.length){r l}(hS:gX en (ts.drop k)=some (r,l)):Kk ts k (Ky ⟨ts,k,en⟩) r l:=by refine Bu (λh=>JP Fg _ hk h) (λt k h hk hS=>?_) (λ_ _=>rfl) hS;refine Bu (λh=>Rj Fg _ hk h) (λn k h hk hS=>?_) (λ_ _=>rfl) hS;refine Bu (λh=>JP Fg _ hk h) (λ_ k h hk hS=>?_) (λ_ _=>rfl) hS;refine Bu (λh=>qQ Fg _ hk h) (λf k h hk hS=>?_) (λ_ _=>rfl) hS;refine ahT hk (λhk1 hS=>?_) (λhS=>?_) hS;dsimp only[cond];rw[Hg Fg hk];refine Bu (λh=>qQ Fg _ hk1 h) (λu k h hk hS=>?_) (λ_ _=>rfl) hS;refine Bu (λh=>JP Fg _ hk h) (λ_ k h hk hS=>?_) (λ_ _=>rfl) hS;refine Bu (λh=>qQ Fg _ hk h) (λf k h hk hS=>?_) (λ_ _=>rfl) hS;exact EY hk rfl hS;refine Bu (λh=>JP Fg _ hk h) (λ_ k h hk hS=>?_) (λ_ _=>rfl) hS;refine Bu (λh=>qQ Fg _ hk h) (λf k h hk hS=>?_) (λ_ _=>rfl) hS;exact EY hk rfl hS
theorem apZ{k:Nat}(hk:k<=ts.length){r l}(hS:UK en (ts.drop k)=some (r,l)):Kk ts k (DN ⟨ts,k,en⟩) r l:=by refine ZE hk (λt h1 h2 hS=>?_) (λ_=>rfl) hS;have hS:=mE h2 hS;dsimp only[aWO];rw[Hg Fg hk];refine M8 (biC k) ?_;refine Bu (λh=>atZ Fg h1 h) (λm k h hk hS=>?_) (λ_ _=>rfl) hS;refine Bu (λh=>JP Fg _ hk h) (λ_ k h hk hS=>?_) (λ_ _=>rfl) hS;refine Bu (λh=>aSR Fg hk h) (λu k h hk hS=>?_) (λ_ _=>rfl) hS;dsimp only[aWO];revert hS;cases Bd t.text.data.toList GA.data.toList;intro hS;refine Bu (λh=>JP Fg _ hk h) (λ_ k h hk hS=>?_) (λ_ _=>rfl) hS;exact EY hk rfl hS;intro hS;refine Bu (λh=>aRK Fg hk h) (λq k h hk hS=>?_) (λ_ _=>rfl) hS;obtain⟨n,hn,hS⟩:=P8 hS;dsimp only[aWO];rw[hn,Uu];refine Bu (λh=>JP Fg _ hk h) (λ_ k h hk hS=>?_) (λ_ _=>rfl) hS;exact EY hk rfl hS
theorem Ye{k:Nat}(hk:k<=ts.length){r l}(hS:F4 en (ts.drop k)=some (r,l)):Kk ts k (AB ⟨ts,k,en⟩) r l:=by refine Bu (λh=>Rj Fg _ hk h) (λn k h hk hS=>?_) (λ_ _=>rfl) hS;exact EY hk rfl hS
theorem uL{k:Nat}(hk:k<=ts.length){r l}(hS:TU en (ts.drop k)=some (r,l)):Kk ts k (BK ⟨ts,k,en⟩) r l:=by refine Bu (λh=>TO Fg D0 hk h) (λt k' h1 h2 hS=>?_) (λ_ _=>rfl) hS;obtain⟨n,hn,hS⟩:=P8 hS;dsimp only[aWO];rw[hn,Uu];revert hS;cases A8 t.kind 3;exact λhS=>EY h2 rfl hS;cases A8 n 0<;>exact λhS=>EY h2 rfl hS
theorem awI{k:Nat}(hk:k<=ts.length){r l}(hS:oU en (ts.drop k)=some (r,l)):Kk ts k (Cj ⟨ts,k,en⟩) r l:=by refine Bu (λh=>TO Fg FM hk h) (λt k' h1 h2 hS=>?_) (λ_ _=>rfl) hS;dsimp only[aWO];revert hS;cases Bd t.text.data.toList J5.data.toList<;>exact λhS=>EY h2 rfl hS
end
def Wo(t:Tk):Prop:=∀x∈[Ic,GA,Cp],t.text.data.toList≠x.data.toList
def Er(L:List Tk)(en:Int)(k:Nat)(l:List Tk)(d:Dg):Prop :=
 (l=L.drop k/\d.AO=EP en l)\/(l=L.drop k/\∃j t,k=j+1/\L[j]?=some t/\t.AO=d.AO/\Wo t)\/∃t,L.drop k=t::l/\t.AO=d.AO/\Wo t
section
variable {α β γ δ:Type}{L:List Tk}{k:Nat}{en ea:Int}{R:α->β->Prop}{R1:γ->δ->Prop}{r:α⊕Dg}{l:List Tk}
def Lv(R:α->β->Prop)(L:List Tk)(en ea:Int)(k:Nat)(X:Option (β×Int×Int×Int))(r:α⊕Dg)(l:List Tk):Prop:=∃k':Nat,k<=k'/\k'<=L.length/\match r with|.inl a=>l=L.drop k'/\∃b,R a b/\X=some (b,(k':Int),0,ea)|.inr d=>d.err≠0/\Er L en k' l d/\∃v,X=some (v,(k':Int),d.err,d.AO)
theorem Ly{k2:Nat}{X:Option (β×Int×Int×Int)}(h1:k<=k2)(h:Lv R L en ea k2 X r l):Lv R L en ea k X r l:=by obtain⟨k',a,b,c⟩:=h;exact⟨k',biP h1 a,b,c⟩
theorem Cv{F1:Option (δ×Int×Int×Int)}{F2:δ×Int×Int×Int->Option (β×Int×Int×Int)}{m:Rd γ}{K:γ->Rd α}
   (h1:∀{r l},m (L.drop k)=some (r,l)->Lv R1 L en ea k F1 r l)
   (h2:∀a b k',R1 a b->k<=k'->k'<=L.length->K a (L.drop k')=some (r,l)->Lv R L en ea k' (F2 (b,(k':Int),0,ea)) r l)
   (h3:∀v (k':Nat) e CF,e≠0->k'<=L.length->∃v',F2 (v,(k':Int),e,CF)=some (v',(k':Int),e,CF)) (hS:A5 m K (L.drop k)=some (r,l)):Lv R L en ea k (F1.bind F2) r l:=by
 unfold A5 at hS;split at hS;cases hS;rename_i a s hm;obtain⟨k',a1,a2,rfl,b,hb,hX⟩:=h1 hm;rw[hX];exact Ly a1 (h2 _ _ _ hb a1 a2 hS);rename_i d s hm;obtain⟨k',a1,a2,hd,he,v,hX⟩:=h1 hm;simp only[atS,aWN] at hS;obtain⟨rfl,rfl⟩:=hS;obtain⟨v',hv⟩:=h3 v k' d.err d.AO hd a2;exact⟨k',a1,a2,hd,he,v',by rw[hX];exact hv⟩
theorem J0(hk:k<=L.length){a:α}{b:β}(hb:R a b)(h:some (bqT a,L.drop k)=some (r,l)):Lv R L en ea k (some (b,(k:Int),0,ea)) r l:=by simp only[atS,aWN] at h;obtain⟨rfl,rfl⟩:=h;exact⟨k,aWP k,hk,rfl,b,hb,rfl⟩
end
def Em:List ByteArray:=[Ic,GA,Cp,lU,aJ,Z4,toS,P5,Nb,FV,EK,DS,BH,Dx,sM,Q6,Kb,MJ,Q9,aH,MI,Th,bC,Pe,Lg,QO,Ei,PV,Hr,KP,GZ,Dm,G5,Va,Jv,bJ,Vb,KG,Ni,NB,Mc,J5,Oz,DP,Ec,ES,ID,EE,Md,IT]
def Kw(t:Tk):Prop:=∀x∈Em,Bd t.text.data.toList x.data.toList=true->t.kind=1\/t.kind=6
section
variable {L:List Tk}{k:Nat}{en ea:Int}(hw:∀t∈L,Kw t)(hL:L.length<=10000)(hk:k<=L.length)
include hw in
theorem X9{x:ByteArray}(hx:x∈Em):Av (Pz L k en 0 ea) x=some (Co x (L.drop k)):=by
 unfold Av;dsimp only[Pz];rw[C4 rfl];cases h:L.drop k with
 |nil=>
  rw[Dv (by have:=PW h;omega)];rfl
 |cons t s=>
  obtain⟨h1,h2,_⟩:=CS h;rw[En (by omega),EB,h2];dsimp only[cond,Uu,Co];cases hq:Bd t.text.data.toList x.data.toList with
  |false=>rfl
  |true=>
   rcases hw t (aWR h2) x hx hq with h3 | h3
   rw[h3];rfl;rw[h3];rfl
include hw hL in
theorem Hh{x:ByteArray}(hx:x∈Em):An (Pz L k en 0 ea) x=some (cond (Co x (L.drop k)) (true,((k+1:Nat):Int)) (false,(k:Int))):=by
 unfold An;rw[X9 hw hx];cases h:Co x (L.drop k) with
 |false=>rfl
 |true=>
  have hlt:k < L.length:=by cases hd:L.drop k with|nil=>rw[hd] at h;cases h|cons t s=>exact(CS hd).1
  simp only[Uu,cond,Pz];rw[wk1 hlt hL]
def ecT:List Tk->Int
 |[]=>72
 |_::_=>71
theorem ZR:Bc (Pz L k en 0 ea)=some ((),ecT (L.drop k),EP en (L.drop k)):=by
 unfold Bc Aw;dsimp only[Pz];cases h:L.drop k with
 |nil=>
  rw[T6 (by have:=PW h;omega),C4 rfl];rfl
 |cons t s=>
  obtain⟨h1,h2,_⟩:=CS h;rw[P7 (by omega),EB,h2,C4 rfl];rfl
include hw hL hk in
theorem Io{x:ByteArray}(hx:x∈Em){r:Tk⊕Dg}{l:List Tk}(hS:Ff en x (L.drop k)=some (r,l)):Lv (λ(t:Tk) _=>t.AO=EP en (L.drop k)) L en ea k (Ab (Pz L k en 0 ea) x) r l:=by
 unfold Ab;rw[Hh hw hL hx];unfold Ff Ig Sd at hS;cases h:L.drop k with
 |nil=>
  rw[h] at hS;simp only[atS,aWN] at hS;obtain⟨rfl,rfl⟩:=hS;refine⟨k,aWP k,hk,(show(72:Int)≠0 by decide),.inl ⟨h.symm,rfl⟩,(),?_⟩;simp only[Co,cond,Uu];have:=ZR (L:=L) (k:=k) (en:=en) (ea:=ea);dsimp only[Pz] at this ⊢;rw[this,h];rfl
 |cons t s=>
  obtain⟨h1,h2,h3⟩:=CS h;rw[h] at hS;simp only[H9,Bp] at hS;simp only[Co];cases hq:Bd t.text.data.toList x.data.toList with
  |true=>
   rw[hq] at hS;simp only[cond,Nl,CX,atS,aWN] at hS;obtain⟨rfl,rfl⟩:=hS;exact⟨k+1,biC k,h1,h3.symm,(),rfl,rfl⟩
  |false=>
   rw[hq] at hS;simp only[cond,IE,atS,aWN] at hS;obtain⟨rfl,rfl⟩:=hS;refine⟨k,aWP k,hk,(show(71:Int)≠0 by decide),.inl ⟨h.symm,rfl⟩,(),?_⟩;simp only[cond,Uu];have:=ZR (L:=L) (k:=k) (en:=en) (ea:=ea);dsimp only[Pz] at this ⊢;rw[this,h];rfl
end
structure Rg(t:Tk):Prop where
 kw:Kw t
 num:t.kind=3->∃z,OK t.text=some (z,())/\BP t.text=some z
 mZ:t.kind=3\/t.kind=4->∃z,Dy t=some z/\BP t.text=some z
 date:t.kind=5->∃d e d',Ep t.text=some (d,e)/\LM t.text=some (d',e)/\(e=0->d'=d/\0<=d/\d<=36524)
theorem Yd{t:Tk}(h:Kw t)(h1:t.kind≠1)(h6:t.kind≠6):Wo t:=λx hx he=>by
 have hm:x∈Em:=by simp only[bhJ,biZ,or_false] at hx;rcases hx with rfl | rfl | rfl<;>simp[Em]
 rcases h x hm (by rw[RC];simpa using he) with h2 | h2
 exact h1 h2;exact h6 h2
section
variable {L:List Tk}{k:Nat}{en ea:Int}(hw:∀t∈L,Rg t)(hL:L.length<=10000)(hk:k<=L.length)
include hL in
theorem U1{x:Int}(hx:x≠1):AW (Pz L k en 0 ea) x=match L.drop k with|[]=>some (gT,(k:Int),72,en)|t::_=>cond (A8 t.kind x) (some (t.text,((k+1:Nat):Int),0,ea)) (some (gT,(k:Int),71,t.AO)):=by
 unfold AW;rw[ZR];dsimp only[Pz];rw[C4 rfl];cases h:L.drop k with
 |nil=>rw[T6 (by have:=PW h;omega)];rfl
 |cons t s=>
  obtain⟨h1,h2,_⟩:=CS h;rw[P7 (by omega),EB,h2];simp only[cond,Uu];rw[DE hx];cases hq:A8 t.kind x with
  |false=>rfl
  |true=>
   simp only[cond];rw[wk1 h1 hL,show Jq ((k+1:Nat):Int) 1=(k:Int) by rw[FW (by omega)];omega,EB,h2];rfl
def One(L:List Tk)(ea:Int)(k:Nat)(X:Option (Int×Int×Int×Int))(p:Int×Int)(l:List Tk):Prop:=∃t,L[k]?=some t/\p.2=t.AO/\Wo t/\k < L.length/\l=L.drop (k+1)/\X=some (p.1,((k+1:Nat):Int),0,ea)
theorem One.lv{X:Option (Int×Int×Int×Int)}{r:(Int×Int)⊕Dg}{l:List Tk}(h:(∃p,r=.inl p/\One L ea k X p l)\/∃d,r=.inr d/\Lv (λ(_:Int×Int)(_:Int)=>False) L en ea k X (.inr d) l):Lv (λp y=>p.1=y/\p.2=EP en (L.drop k)) L en ea k X r l:=by
 rcases h with ⟨p,rfl,t,h1,h2,h3,h4,h5,h6⟩ | ⟨d,rfl,h⟩
 have hd:L.drop k=t::L.drop (k+1):=by rw[bjH h4];rw[aBD h4] at h1;rw[biA h1]
 exact⟨k+1,biC k,h4,h5,p.1,⟨rfl,by rw[hd];exact h2⟩,h6⟩;exact h
include hw hL hk in
theorem Qb{a:Int}{r:(Int×Int)⊕Dg}{l:List Tk}(hS:M4 en a (L.drop k)=some (r,l)):(∃p,r=.inl p/\One L ea k (As (Pz L k en 0 ea) a 1000000) p l)\/∃d,r=.inr d/\Lv (λ(_:Int×Int)(_:Int)=>False) L en ea k (As (Pz L k en 0 ea) a 1000000) (.inr d) l:=by
 unfold As;rw[IP hk,U1 hL (by decide)];unfold M4 Tj Ig A5 Sd at hS;cases h:L.drop k with
 |nil=>
  rw[h] at hS;simp only[atS,aWN] at hS;obtain⟨rfl,rfl⟩:=hS;refine .inr ⟨_,rfl,k,aWP k,hk,(show(72:Int)≠0 by decide),.inl ⟨h.symm,rfl⟩,0,?_⟩;simp only[Uu];rw[show BP gT=some 0 by rfl];simp only[Uu];rw[DE (by decide)];rfl
 |cons t s=>
  obtain⟨h1,h2,h3⟩:=CS h;have hg:=hw t (aWR h2);rw[h] at hS;simp only[H9,DC] at hS;simp only[Uu];cases hq:A8 t.kind 3 with
  |false=>
   rw[hq] at hS;simp only[cond,IE,atS,aWN] at hS;obtain⟨rfl,rfl⟩:=hS;refine .inr ⟨_,rfl,k,aWP k,hk,(show(71:Int)≠0 by decide),.inl ⟨h.symm,rfl⟩,0,?_⟩;simp only[cond,Uu];rw[show BP gT=some 0 by rfl];simp only[Uu];rw[DE (by decide)]
  |true=>
   have h5:t.kind=3:=F3 hq;obtain⟨z,hz1,hz2⟩:=hg.num h5;have hn:Wo t:=Yd hg.kw (by omega) (by omega);rw[hq] at hS;simp only[cond,Nl,CX,hz1] at hS;simp only[cond,Uu];rw[hz2];simp only[Uu];rw[C4 rfl];simp only[cond];have fl:∀x y:Int,Aw (⟨L,((k+1:Nat):Int),en,0,ea⟩:Ps) x y=some ((),x,y):=λx y=>rfl;cases ha:Cy z a with
   |true=>
    rw[ha] at hS;simp only[cond,IE,atS,aWN] at hS;obtain⟨rfl,rfl⟩:=hS;exact .inr ⟨_,rfl,k+1,biC k,h1,(show(3:Int)≠0 by decide),.inr (.inl ⟨h3.symm,k,t,rfl,h2,rfl,hn⟩),z,by simp only[Pz,fl,Uu,EP]⟩
   |false=>
    rw[ha] at hS;simp only[cond] at hS;simp only[cond];cases hb:Cy 1000000 z with
    |true=>
     rw[hb] at hS;simp only[cond,IE,atS,aWN] at hS;obtain⟨rfl,rfl⟩:=hS;exact .inr ⟨_,rfl,k+1,biC k,h1,(show(3:Int)≠0 by decide),.inr (.inl ⟨h3.symm,k,t,rfl,h2,rfl,hn⟩),z,by simp only[Pz,fl,Uu,EP]⟩
    |false=>
     rw[hb] at hS;simp only[cond,CX,atS,aWN] at hS;obtain⟨rfl,rfl⟩:=hS;exact .inl ⟨_,rfl,t,h2,rfl,hn,h1,h3.symm,rfl⟩
end
section
variable {L:List Tk}{k:Nat}{en ea:Int}(hw:∀t∈L,Rg t)(hL:L.length<=10000)(hk:k<=L.length)
theorem sP{x:Int}(hx:x≠1):BW (Pz L k en 0 ea) x=some (match L.drop k with|[]=>false|t::_=>A8 t.kind x):=by
 unfold BW;dsimp only[Pz];rw[C4 rfl];cases h:L.drop k with
 |nil=>rw[Dv (by have:=PW h;omega)];rfl
 |cons t s=>
  obtain⟨h1,h2,_⟩:=CS h;rw[En (by omega),EB,h2];simp only[cond,Uu];rw[DE hx];cases hq:A8 t.kind x<;>rfl
include hw hL hk in
theorem uK{r:(Int×Int)⊕Dg}{l:List Tk}(hS:TU en (L.drop k)=some (r,l)):(∃p,r=.inl p/\One L ea k (B0 (Pz L k en 0 ea)) p l)\/∃d,r=.inr d/\Lv (λ(_:Int×Int)(_:Int)=>False) L en ea k (B0 (Pz L k en 0 ea)) (.inr d) l:=by
 unfold B0;rw[sP (by decide),U1 hL (by decide)];unfold TU Ig A5 Sd at hS;cases h:L.drop k with
 |nil=>
  rw[h] at hS;simp only[atS,aWN] at hS;obtain⟨rfl,rfl⟩:=hS;refine .inr ⟨_,rfl,k,aWP k,hk,(show(72:Int)≠0 by decide),.inl ⟨h.symm,rfl⟩,0,?_⟩;simp only[Uu,cond];rw[show BP gT=some 0 by rfl];rfl
 |cons t s=>
  obtain⟨h1,h2,h3⟩:=CS h;have hg:=hw t (aWR h2);rw[h] at hS;simp only[H9,D0] at hS;simp only[Uu];cases hq:A8 t.kind 3 with
  |true=>
   have h5:t.kind=3:=F3 hq;obtain⟨z,hz1,hz2⟩:=hg.mZ (.inl h5);have hn:Wo t:=Yd hg.kw (by omega) (by omega);rw[hq,DE (show t.kind≠4 by omega)] at hS;simp only[cond,Nl,CX,hz1,hq] at hS;simp only[cond];unfold As;rw[IP hk,U1 hL (by decide),h];simp only[Uu];rw[hq];simp only[cond,Uu];rw[hz2];simp only[Uu];rw[C4 rfl];simp only[cond];have fl:∀x y:Int,Aw (⟨L,((k+1:Nat):Int),en,0,ea⟩:Ps) x y=some ((),x,y):=λx y=>rfl;by_cases hz:z=0;rw[C4 hz] at hS;simp only[atS,aWN] at hS;obtain⟨rfl,rfl⟩:=hS;rw[Dv (by omega),Dv (by omega)];exact .inl ⟨_,rfl,t,h2,rfl,hn,h1,h3.symm,rfl⟩;rw[DE hz] at hS;simp only[IE,atS,aWN] at hS;obtain⟨rfl,rfl⟩:=hS;refine .inr ⟨_,rfl,k+1,biC k,h1,(show(3:Int)≠0 by decide),.inr (.inl ⟨h3.symm,k,t,rfl,h2,rfl,hn⟩),z,?_⟩;by_cases hlt:z < 0;rw[En hlt];simp only[fl,Uu,EP];rw[Dv (by omega),En (by omega)];simp only[fl,Uu,EP]
  |false=>
   simp only[cond];cases h4:A8 t.kind 4 with
   |true=>
    have h5:t.kind=4:=F3 h4;obtain⟨z,hz1,hz2⟩:=hg.mZ (.inr h5);have hn:Wo t:=Yd hg.kw (by omega) (by omega);rw[h4] at hS;simp only[cond,Nl,CX,hz1,hq,atS,aWN] at hS;obtain⟨rfl,rfl⟩:=hS;simp only[Uu];rw[hz2];exact .inl ⟨_,rfl,t,h2,rfl,hn,h1,h3.symm,rfl⟩
   |false=>
    rw[h4,hq] at hS;simp only[cond,IE,atS,aWN] at hS;obtain⟨rfl,rfl⟩:=hS;refine .inr ⟨_,rfl,k,aWP k,hk,(show(71:Int)≠0 by decide),.inl ⟨h.symm,rfl⟩,0,?_⟩;simp only[Uu];rw[show BP gT=some 0 by rfl];rfl
include hw hL hk in
theorem qP{a b:Int}(hab:b=a+1){r:Int⊕Dg}{l:List Tk}(hS:X0 en b (L.drop k)=some (r,l)):Lv (λx y=>x=y/\0<=x/\x<=36524) L en ea k (CO (Pz L k en 0 ea) a) r l:=by
 unfold CO;rw[IP hk,U1 hL (by decide)];unfold X0 Ig A5 Sd at hS;cases h:L.drop k with
 |nil=>
  rw[h] at hS;simp only[atS,aWN] at hS;obtain⟨rfl,rfl⟩:=hS;exact⟨k,aWP k,hk,(show(72:Int)≠0 by decide),.inl ⟨h.symm,rfl⟩,0,rfl⟩
 |cons t s=>
  obtain⟨h1,h2,h3⟩:=CS h;have hg:=hw t (aWR h2);rw[h] at hS;simp only[H9,FG] at hS;simp only[Uu];cases hq:A8 t.kind 5 with
  |false=>
   rw[hq] at hS;simp only[cond,IE,atS,aWN] at hS;obtain⟨rfl,rfl⟩:=hS;exact⟨k,aWP k,hk,(show(71:Int)≠0 by decide),.inl ⟨h.symm,rfl⟩,0,rfl⟩
  |true=>
   have h5:t.kind=5:=F3 hq;obtain⟨d,e,d',hd1,hd2,hd3⟩:=hg.date h5;have hn:Wo t:=Yd hg.kw (by omega) (by omega);rw[hq] at hS;simp only[cond,Nl,CX,hd1] at hS;simp only[cond,Uu];rw[hd2,C4 rfl];simp only[cond,Uu];have fl:∀x y:Int,Aw (⟨L,((k+1:Nat):Int),en,0,ea⟩:Ps) x y=some ((),x,y):=λx y=>rfl;have er:Er L en (k+1) s ⟨21,t.AO⟩:=.inr (.inl ⟨h3.symm,k,t,rfl,h2,rfl,hn⟩);by_cases he:e=0;obtain⟨hdd,hd0,hd9⟩:=hd3 he;rw[C4 he] at hS ⊢;simp only at hS ⊢;by_cases hlt:d < b;rw[En hlt] at hS;simp only[IE,atS,aWN] at hS;obtain⟨rfl,rfl⟩:=hS;refine⟨k+1,biC k,h1,(show(21:Int)≠0 by decide),er,d',?_⟩;rw[T6 (by omega)];simp only[fl,Uu,EP];rw[Dv (by omega)] at hS;simp only[atS,aWN] at hS;obtain⟨rfl,rfl⟩:=hS;refine⟨k+1,biC k,h1,h3.symm,d',⟨hdd.symm,hd0,hd9⟩,?_⟩;rw[P7 (by omega)];rw[DE he] at hS ⊢;simp only[IE,atS,aWN] at hS;obtain⟨rfl,rfl⟩:=hS;exact⟨k+1,biC k,h1,(show(21:Int)≠0 by decide),er,d',by simp only[fl,Uu,EP]⟩
end
def UY(s:List Tk):List ByteArray->Nat->Option Nat
 |[],_=>none
 |x::xs,i=>cond (Co x s) (some i) (UY s xs (i+1))
section
variable {L:List Tk}{k:Nat}{en ea:Int}(hw:∀t∈L,Rg t)(hL:L.length<=10000)(hk:k<=L.length)
include hw hL in
theorem yG{l:List ByteArray}(hl:∀x∈l,x∈Em)(hn:l.length<=100):BQ (Pz L k en 0 ea) l=match UY (L.drop k) l 0 with|some i=>some ((i:Int),((k+1:Nat):Int),0,ea)|none=>some (0,(k:Int),ecT (L.drop k),EP en (L.drop k)):=by
 have Hi:∀t∈L,Kw t:=λt ht=>(hw t ht).kw;unfold BQ
 have key:∀(m:List ByteArray)(i:Nat),(∀x∈m,x∈Em)->Bs (λi y x=>EH (Pz L k en 0 ea) l i y x) (λx=>x) m i (k:Int)=match UY (L.drop k) m i with|some i=>some (.inr ((i:Int),((k+1:Nat):Int),0,ea))|none=>some (.inl (k:Int)):=by
  intro m
  induction m with
  |nil=>intro i _;rfl
  |cons y m ih=>
   intro i hm;unfold Bs UY
   have h1:EH (Pz L k en 0 ea) l i y (k:Int)=cond (Co y (L.drop k)) (some (.rt ((i:Int),((k+1:Nat):Int),0,ea))) (some (.nx (k:Int))):=by unfold EH;have:=Hh (k:=k) (en:=en) (ea:=ea) Hi hL (hm y (biK ..));dsimp only[Pz] at this ⊢;rw[this];cases Co y (L.drop k)<;>rfl
   rw[h1];cases Co y (L.drop k) with|true=>rfl|false=>exact ih _ (λx hx=>hm x (biB _ hx))
 have hu:=ZR (L:=L) (k:=k) (en:=en) (ea:=ea);have key:=key l 0 hl;dsimp only[Pz] at key hu ⊢;rw[biT,key,L9 (by omega)];cases UY (L.drop k) l 0 with
 |some i=>rfl
 |none=>
  simp only[Uu,F0];rw[hu];rfl
include hw hL hk in
theorem ayD{r:Tk⊕Dg}{l:List Tk}(hS:aaS en (L.drop k)=some (r,l)):Lv (λt y=>t.text=y) L en ea k (DJ (Pz L k en 0 ea)) r l:=by
 unfold DJ;rw[sP (by decide),U1 hL (by decide),yG hw hL (by intro x hx;simp only[bhJ,biZ,or_false] at hx;rcases hx with rfl | rfl | rfl<;>simp[Em]) (by decide)]
 unfold aaS Ig Sd at hS;cases h:L.drop k with
 |nil=>
  rw[h] at hS;simp only[atS,aWN] at hS;obtain⟨rfl,rfl⟩:=hS;exact⟨k,aWP k,hk,(show(72:Int)≠0 by decide),.inl ⟨h.symm,rfl⟩,DS,rfl⟩
 |cons t s=>
  obtain⟨h1,h2,h3⟩:=CS h;have hg:=hw t (aWR h2);rw[h] at hS;simp only[H9,It] at hS;simp only[Uu]
  have nk:∀x,x∈Em->t.kind=2->Bd t.text.data.toList x.data.toList=false:=λx hx h2=>by
   cases hq:Bd t.text.data.toList x.data.toList with
   |false=>rfl
   |true=>
    rcases hg.kw x hx hq with h5 | h5<;>omega
  cases hq:A8 t.kind 2 with
  |true=>
   have h5:t.kind=2:=F3 hq;rw[nk DS (by simp[Em]) h5,nk BH (by simp[Em]) h5,nk Dx (by simp[Em]) h5,hq] at hS;simp only[cond,Nl,CX,atS,aWN] at hS;obtain⟨rfl,rfl⟩:=hS;exact⟨k+1,biC k,h1,h3.symm,t.text,rfl,rfl⟩
  |false=>
   simp only[cond,UY,Co];rw[hq] at hS
   have tx:∀{x:ByteArray},Bd t.text.data.toList x.data.toList=true->t.text=x:=λ{x} hx=>by
    have:=gD hx;cases t with | mk a b c=>cases b;cases x;simp_all [bsA]
   cases ha:Bd t.text.data.toList DS.data.toList with
   |true=>
    rw[ha] at hS;simp only[cond,Nl,CX,atS,aWN] at hS;obtain⟨rfl,rfl⟩:=hS;exact⟨k+1,biC k,h1,h3.symm,DS,tx ha,rfl⟩
   |false=>
    rw[ha] at hS;cases hb:Bd t.text.data.toList BH.data.toList with
    |true=>
     rw[hb] at hS;simp only[cond,Nl,CX,atS,aWN] at hS;obtain⟨rfl,rfl⟩:=hS;exact⟨k+1,biC k,h1,h3.symm,BH,tx hb,rfl⟩
    |false=>
     rw[hb] at hS;cases hc:Bd t.text.data.toList Dx.data.toList with
     |true=>
      rw[hc] at hS;simp only[cond,Nl,CX,atS,aWN] at hS;obtain⟨rfl,rfl⟩:=hS;exact⟨k+1,biC k,h1,h3.symm,Dx,tx hc,rfl⟩
     |false=>
      rw[hc] at hS;simp only[cond,IE,atS,aWN] at hS;obtain⟨rfl,rfl⟩:=hS;exact⟨k,aWP k,hk,(show(71:Int)≠0 by decide),.inl ⟨h.symm,rfl⟩,DS,rfl⟩
end
section
variable {L:List Tk}{k:Nat}{en ea:Int}(hw:∀t∈L,Rg t)(hL:L.length<=10000)(hk:k<=L.length)
include hw hL hk in
theorem aOF{r:Nd⊕Dg}{l:List Tk}(hS:gX en (L.drop k)=some (r,l)):Lv (·=·) L en ea k (EF (Pz L k en 0 ea)) r l:=by
 have Hi:∀t∈L,Kw t:=λt ht=>(hw t ht).kw;have D1:∀(s:ByteArray)(k:Nat)(e ea:Int),e≠0->k<=L.length->Ab (⟨L,(k:Int),en,e,ea⟩:Ps) s=some ((),(k:Int),e,ea):=λs k e ea he hk=>Ks he hk s;have D2:∀(a:Int)(k:Nat)(e ea:Int),e≠0->k<=L.length->CO (⟨L,(k:Int),en,e,ea⟩:Ps) a=some (0,(k:Int),e,ea):=λa k e ea he hk=>apX he hk a;have D3:∀(a b:Int)(k:Nat)(e ea:Int),e≠0->k<=L.length->As (⟨L,(k:Int),en,e,ea⟩:Ps) a b=some (0,(k:Int),e,ea):=λa b k e ea he hk=>Yf he hk a b;have D4:∀(s:ByteArray)(k:Nat)(e ea:Int),e≠0->An (⟨L,(k:Int),en,e,ea⟩:Ps) s=some (false,(k:Int)):=λs k e ea he=>Jp he s;unfold EF;rw[IP hk];simp only[Uu];unfold gX at hS;refine Cv (λh=>Io Hi hL hk (by simp[Em]) h) (λt _ k1 ht _ hk1 h1=>?_) (λv k' e CF he EM=>?_) hS
 ·refine Cv (λh=>One.lv (Qb hw hL hk1 h)) (λn m k2 hn _ hk2 h2=>?_) (λv k' e CF he EM=>?_) h1
  ·refine Cv (λh=>Io Hi hL hk2 (by simp[Em]) h) (λt2 _ k3 _ _ hk3 h3=>?_) (λv k' e CF he EM=>?_) h2
   ·refine Cv (λh=>qP hw hL hk3 (a:=-1) (by decide) h) (λf y k4 hf _ wY h4=>?_) (λv k' e CF he EM=>?_) h3
    ·have ht4:=Hh (k:=k4) (en:=en) (ea:=ea) Hi hL (x:=toS) (by simp[Em])
     dsimp only[Pz] at ht4 ⊢;rw[ht4];simp only[NC] at h4;cases hq:Co toS (L.drop k4) with
     |true=>
      rw[hq] at h4;simp only[cond,Uu] at h4 ⊢
      have hd:∃t5 s5,L.drop k4=t5::s5:=by cases hd:L.drop k4 with|nil=>rw[hd] at hq;cases hq|cons t5 s5=>exact⟨t5,s5,rfl⟩
      obtain⟨t5,s5,hd⟩:=hd;obtain⟨g1,g2,g3⟩:=CS hd;rw[hd] at h4;simp only[Nl] at h4;rw[<- g3] at h4;refine Ly (biC k4) ?_;obtain⟨rfl,hf0,hf9⟩:=hf;refine Cv (λh=>qP hw hL g1 (a:=f) (by rw[Cg (by omega)]) h) (λu y2 k5 hu _ hk5 h5=>?_) (λv k' e CF he EM=>?_) h4;refine Cv (λh=>Io Hi hL hk5 (by simp[Em]) h) (λt3 _ k6 _ _ hk6 h6=>?_) (λv k' e CF he EM=>?_) h5;refine Cv (λh=>qP hw hL hk6 (a:=-1) (by decide) h) (λw y3 k7 vB _ hk7 h7=>?_) (λv k' e CF he EM=>?_) h6;refine J0 hk7 ?_ h7;rw[ht,hn.1,hu.1,vB.1];exact⟨_,rfl⟩;simp only[D2 _ k' e CF he EM,Uu];exact⟨_,rfl⟩;simp only[D1 _ k' e CF he EM,D2 _ k' e CF he EM,Uu];exact⟨_,rfl⟩
     |false=>
      rw[hq] at h4;simp only[cond,Uu] at h4 ⊢;refine Cv (λh=>Io Hi hL wY (by simp[Em]) h) (λt3 _ k6 _ _ hk6 h6=>?_) (λv k' e CF he EM=>?_) h4;refine Cv (λh=>qP hw hL hk6 (a:=-1) (by decide) h) (λw y3 k7 vB _ hk7 h7=>?_) (λv k' e CF he EM=>?_) h6;refine J0 hk7 ?_ h7;rw[ht,hn.1,hf.1,vB.1];exact⟨_,rfl⟩;simp only[D2 _ k' e CF he EM,Uu];exact⟨_,rfl⟩
    simp only[D1 _ k' e CF he EM,D2 _ k' e CF he EM,D4 _ k' e CF he,Uu,cond];exact⟨_,rfl⟩
   simp only[D1 _ k' e CF he EM,D2 _ k' e CF he EM,D4 _ k' e CF he,Uu,cond];exact⟨_,rfl⟩
  simp only[D1 _ k' e CF he EM,D2 _ k' e CF he EM,D4 _ k' e CF he,Uu,cond];exact⟨_,rfl⟩
 simp only[D1 _ k' e CF he EM,D2 _ k' e CF he EM,D3 _ _ k' e CF he EM,D4 _ k' e CF he,Uu,cond];exact⟨_,rfl⟩
end
theorem rW(s:ByteArray):(Gt.bind λy=>Ee y s)=some (([Ic,GA,Cp,lU,aJ,Z4,toS,P5,Nb,FV,EK,DS,BH,Dx,sM,Q6,Kb,MJ,Q9,aH,MI,Th,bC,Pe,Lg,QO,Ei,PV,Hr,KP,GZ,Dm,G5]:List ByteArray).any λx=>Bd x.data.toList s.data.toList):=by
 have key:∀(m:List ByteArray)(i:Nat),Bs (λi y (_:Unit)=>Ms s i y) (λx=>()) m i ()=some (cond (m.any λx=>Bd x.data.toList s.data.toList) (.inr true) (.inl ())):=by
  intro m
  induction m with
  |nil=>intro i;rfl
  |cons y m ih=>
   intro i;unfold Bs;rw[bnH];unfold Ms;cases h:Bd y.data.toList s.data.toList with|true=>rfl|false=>exact ih _
 unfold Gt;simp only[Uu];unfold Ee;rw[biT,key,L9 (by decide)];cases btP _ _<;>rfl
theorem Q7(a b:List UInt8):Bd a b=Bd b a:=by
 rw[RC,RC];cases h:(a == b) with
 |true=>
  have:=eq_of_beq h;subst this;exact h.symm
 |false=>
  cases h2:(b == a) with
  |true=>
   have:=eq_of_beq h2;subst this;rw[h] at h2;cases h2
  |false=>rfl
theorem VA(a:Bool)(b:Bool):cond a (some true) (some b)=some (a||b):=by cases a<;>rfl
theorem asM(s:ByteArray):GB s=(Gt.bind λy=>Ee y s):=by rw[rW];unfold GB;simp only[VA,bnH,brQ,Q7 s.data.toList]
section
variable {L:List Tk}{k:Nat}{en e ea:Int}(he:e≠0)(hk:k<=L.length)
include he hk
end
section
variable {L:List Tk}{k:Nat}{en ea:Int}(hw:∀t∈L,Rg t)(hL:L.length<=10000)(hk:k<=L.length)
def nmT(t:Tk):Bool:=(Cr t).getD false
theorem aYY(t:Tk):Cr t=some (nmT t):=by
 unfold nmT Cr;rw[asM,rW];simp only[Uu];cases A8 t.kind 1 with
 |false=>rfl
 |true=>
  simp only[cond];cases btP _ _<;>rfl
theorem aJQ{t:Tk}(h1:A8 t.kind 1=true):(Gt.bind λy=>Ee y t.text)=some (!nmT t):=by unfold nmT Cr;rw[h1,asM,rW];simp only[cond,Uu];cases btP _ _<;>rfl
theorem aJR{t:Tk}(h1:A8 t.kind 1=false):nmT t=false:=by unfold nmT Cr;rw[h1];rfl
theorem aCK:BW (Pz L k en 0 ea) 1=some (match L.drop k with|[]=>false|t::_=>nmT t):=by
 unfold BW;dsimp only[Pz];rw[C4 rfl];cases h:L.drop k with
 |nil=>rw[Dv (by have:=PW h;omega)];rfl
 |cons t s=>
  obtain⟨h1,h2,_⟩:=CS h;rw[En (by omega),EB,h2];simp only[cond,Uu];rw[C4 rfl];cases hq:A8 t.kind 1 with
  |false=>rw[aJR hq]
  |true=>
   simp only[cond];have:=aJQ hq;obtain⟨y,hy,hz⟩:=bmJ.1 this;rw[hy];simp only[Uu];rw[hz];cases nmT t<;>rfl
include hL in
theorem agQ:AW (Pz L k en 0 ea) 1=match L.drop k with|[]=>some (gT,(k:Int),72,en)|t::_=>cond (nmT t) (some (t.text,((k+1:Nat):Int),0,ea)) (some (gT,(k:Int),71,t.AO)):=by
 unfold AW;rw[ZR];dsimp only[Pz];rw[C4 rfl];cases h:L.drop k with
 |nil=>rw[T6 (by have:=PW h;omega)];rfl
 |cons t s=>
  obtain⟨h1,h2,_⟩:=CS h;rw[P7 (by omega),EB,h2];simp only[cond,Uu];rw[C4 rfl];cases hq:A8 t.kind 1 with
  |false=>rw[aJR hq];rfl
  |true=>
   simp only[cond];have:=aJQ hq;obtain⟨y,hy,hz⟩:=bmJ.1 this;rw[hy];simp only[Uu];rw[hz];simp only[Uu];rw[wk1 h1 hL,show Jq ((k+1:Nat):Int) 1=(k:Int) by rw[FW (by omega)];omega,EB,h2];cases nmT t<;>rfl
include hL hk in
theorem adJ{r:Tk⊕Dg}{l:List Tk}(hS:iU en (L.drop k)=some (r,l)):Lv (λt y=>t.text=y) L en ea k (AW (Pz L k en 0 ea) 1) r l:=by
 rw[agQ hL];unfold iU Ig Sd at hS;cases h:L.drop k with
 |nil=>
  rw[h] at hS;simp only[atS,aWN] at hS;obtain⟨rfl,rfl⟩:=hS;exact⟨k,aWP k,hk,(show(72:Int)≠0 by decide),.inl ⟨h.symm,rfl⟩,gT,rfl⟩
 |cons t s=>
  obtain⟨h1,h2,h3⟩:=CS h;rw[h] at hS;simp only[H9,aYY] at hS;cases hq:nmT t with
  |true=>
   rw[hq] at hS;simp only[cond,Nl,CX,atS,aWN] at hS;obtain⟨rfl,rfl⟩:=hS;exact⟨k+1,biC k,h1,h3.symm,t.text,rfl,by simp only[hq,cond]⟩
  |false=>
   rw[hq] at hS;simp only[cond,IE,atS,aWN] at hS;obtain⟨rfl,rfl⟩:=hS;exact⟨k,aWP k,hk,(show(71:Int)≠0 by decide),.inl ⟨h.symm,rfl⟩,gT,by simp only[hq,cond]⟩
end
section
variable {L:List Tk}{k:Nat}{en ea:Int}(hw:∀t∈L,Rg t)(hL:L.length<=10000)(hk:k<=L.length)
include hw hL hk in
theorem aRJ{r:Tk⊕Dg}{l:List Tk}(hS:oP en (L.drop k)=some (r,l)):Lv (λt i=>Da t.text=some (A1 1 i)) L en ea k (BQ (Pz L k en 0 ea) [Q6,Kb,MJ,Q9]) r l:=by
 rw[yG hw hL (by intro x hx;simp only[bhJ,biZ,or_false] at hx;rcases hx with rfl | rfl | rfl | rfl<;>simp[Em]) (by decide)]
 unfold oP Ig Sd at hS;cases h:L.drop k with
 |nil=>
  rw[h] at hS;simp only[atS,aWN] at hS;obtain⟨rfl,rfl⟩:=hS;exact⟨k,aWP k,hk,(show(72:Int)≠0 by decide),.inl ⟨h.symm,rfl⟩,0,rfl⟩
 |cons t s=>
  obtain⟨h1,h2,h3⟩:=CS h;rw[h] at hS
  have e1:Da t.text=cond (Bd t.text.data.toList Q6.data.toList) (some 1) (cond (Bd t.text.data.toList Kb.data.toList) (some 2) (cond (Bd t.text.data.toList MJ.data.toList) (some 3) (cond (Bd t.text.data.toList Q9.data.toList) (some 4) (some 0)))):=by unfold Da;rw[Q7 Q6.data.toList,Q7 Kb.data.toList,Q7 MJ.data.toList,Q7 Q9.data.toList]
  simp only[H9,Ci,e1] at hS;simp only[e1,UY,Co]
  have fin:∀(i:Int),some (bqT t,s)=some (r,l)->Da t.text=some (A1 1 i)->Lv (λt i=>Da t.text=some (A1 1 i)) L en ea k (some (i,((k+1:Nat):Int),0,ea)) r l:=λi hi hr=>by
   simp only[atS,aWN] at hi;obtain⟨rfl,rfl⟩:=hi;exact⟨k+1,biC k,h1,h3.symm,i,hr,rfl⟩
  cases ha:Bd t.text.data.toList Q6.data.toList with
  |true=>
   rw[ha] at hS e1;exact fin 0 hS e1
  |false=>
   rw[ha] at hS e1;cases hb:Bd t.text.data.toList Kb.data.toList with
   |true=>
    rw[hb] at hS e1;exact fin 1 hS e1
   |false=>
    rw[hb] at hS e1;cases hc:Bd t.text.data.toList MJ.data.toList with
    |true=>
     rw[hc] at hS e1;exact fin 2 hS e1
    |false=>
     rw[hc] at hS e1;cases hd:Bd t.text.data.toList Q9.data.toList with
     |true=>
      rw[hd] at hS e1;exact fin 3 hS e1
     |false=>
      rw[hd] at hS;have hS:some (blT (⟨71,t.AO⟩:Dg),t::s)=some (r,l):=hS;simp only[atS,aWN] at hS;obtain⟨rfl,rfl⟩:=hS;exact⟨k,aWP k,hk,(show(71:Int)≠0 by decide),.inl ⟨h.symm,rfl⟩,0,rfl⟩
end
section
variable {L:List Tk}{k:Nat}{en ea:Int}(hw:∀t∈L,Rg t)(hL:L.length<=10000)(hk:k<=L.length)
include hw hL hk in
theorem SB{r:Nd⊕Dg}{l:List Tk}(hS:F4 en (L.drop k)=some (r,l)):Lv (λn y=>n=Dd 11 bE BH y [] (EP en (L.drop k))) L en ea k (As (Pz L k en 0 ea) 1 1000000) r l:=by
 unfold F4 at hS;rw[show As (Pz L k en 0 ea) 1 1000000=(As (Pz L k en 0 ea) 1 1000000).bind λy=>some y by cases As (Pz L k en 0 ea) 1 1000000<;>rfl]
 refine Cv (λh=>One.lv (Qb hw hL hk h)) (λp y k1 hp _ hk1 h1=>?_) (λv k' e CF _ _=>⟨v,rfl⟩) hS;refine J0 hk1 ?_ h1;rw[hp.1,hp.2]
end
theorem cW{α β γ:Type}{m:Option α}{f:α->Option β}{g:β->Option γ}{h:α->Option γ}(H:∀y,(f y).bind g=h y):(m.bind f).bind g=m.bind h:=by cases m with|none=>rfl|some y=>exact H y
theorem pN(a b:Int):Bj a b=Bj b a:=by unfold Bj;rw[Int.mul_comm]
def kE(p:Ps)(den v x:Int):Option ((Pc×Int×Int)×Int×Int×Int):=(YF p).bind λ(sh,a,e,ea)=>(As (⟨p.l,a,p.end_,e,ea⟩:Ps) 0 1000000).bind λ(m,a,e,ea)=>(Ab (⟨p.l,a,p.end_,e,ea⟩:Ps) DP).bind λ(_,a,e,ea)=>(AD (⟨p.l,a,p.end_,e,ea⟩:Ps)).bind λa1=>(As (⟨p.l,a,p.end_,e,ea⟩:Ps) 1 1000000).bind λ(d,a,e,ea)=>(Xo (⟨p.l,a,p.end_,e,ea⟩:Ps) den d a1).bind λ(den,e,ea)=>some (((⟨v,x,Bj sh m⟩:Pc),d,den),a,e,ea)
def aN(p:Ps)(den v:Int):Option ((Pc×Int×Int)×Int×Int×Int):=(Ab p Va).bind λ(_,a,e,ea)=>(YE (⟨p.l,a,p.end_,e,ea⟩:Ps)).bind λ(sg,a)=>(B0 (⟨p.l,a,p.end_,e,ea⟩:Ps)).bind λ(u,a,e,ea)=>kE (⟨p.l,a,p.end_,e,ea⟩:Ps) den v (Bj sg u)
def aiL(p:Ps)(den:Int)(l:List Pc):Option ((Pc×Int×Int)×Int×Int×Int):=(AD p).bind λa0=>(B0 p).bind λ(v,a,e,ea)=>(YD (⟨p.l,a,p.end_,e,ea⟩:Ps) l v a0).bind λ(e,ea)=>(Rx (⟨p.l,a,p.end_,e,ea⟩:Ps) l a0).bind λ(e,ea)=>aN (⟨p.l,a,p.end_,e,ea⟩:Ps) den v
theorem axM(p:Ps)(den:Int)(l:List Pc)(Bv:List Int)(a e ea:Int):Wu p den l Bv a e ea=cond (A8 e 0) ((aiL (⟨p.l,a,p.end_,e,ea⟩:Ps) den l).bind λ(y,a,e,ea)=>G8 (l.length+1) (G8 (Bv.length+1) ((An (⟨p.l,a,p.end_,e,ea⟩:Ps) KG).bind λ(b,a)=>cond b (some (.nx (y.2.2,l++[y.1],Bv++[y.2.1],a,e,ea))) (some (.ex (y.2.2,l++[y.1],Bv++[y.2.1],a,e,ea)))))) (some (.ex (den,l,Bv,a,e,ea))):=by unfold Wu aiL;congr 1;symm;refine cW λa0=>cW ?_;rintro⟨v,a,e,ea⟩;refine cW ?_;rintro⟨e,ea⟩;refine cW ?_;rintro⟨e,ea⟩;unfold aN;refine cW ?_;rintro⟨_,a,e,ea⟩;refine cW ?_;rintro⟨sg,a⟩;refine cW ?_;rintro⟨u,a,e,ea⟩;unfold kE;refine cW ?_;rintro⟨sh,a,e,ea⟩;refine cW ?_;rintro⟨m,a,e,ea⟩;refine cW ?_;rintro⟨_,a,e,ea⟩;refine cW λa1=>cW ?_;rintro⟨d,a,e,ea⟩;refine cW ?_;rintro⟨den,e,ea⟩;rfl
theorem amG{en a:Int}{s l:List Tk}{p:Int×Int}(h:M4 en a s=some (.inl p,l)):a<=p.1/\p.1<=1000000:=by
 unfold M4 A5 at h;split at h;cases h
 ·rename_i q u _
  simp only at h;cases h1:Cy q.1 a with
  |true=>rw[h1] at h;cases h
  |false=>
   rw[h1] at h;cases h2:Cy 1000000 q.1 with
   |true=>rw[h2] at h;cases h
   |false=>
    rw[h2] at h;cases h;have:=Lx h1;have:=Lx h2;omega
 cases h
theorem nG{a b:Int}(ha:0<=a)(hb:0 < b)(h:a<=9223372036854775807):OM a b=some (a / b):=by unfold OM lE;rw[if_neg (by omega),bpD ha,IntWalk.i64_in (a / b) (by have:=bsL ha (bqH hb);have:=bsB b ha;omega)]
theorem apS:∀(n:Nat)(a b:Int),1<=a->0<=b->b < n->∃m,B8 (λz:Int×Int=>Iu z.1 z.2) m (a,b)=some (.inl (rA n a b)):=by
 intro n
 induction n with
 |zero=>intro a b h1 h2 h3;omega
 |succ n ih=>
  intro a b h1 h2 h3;unfold rA;by_cases hb:b=0;rw[if_pos hb];subst hb;refine⟨1,?_⟩;show(Iu a 0).bind _=_;rw[Iu,Dv (by omega)];rfl;rw[if_neg hb];obtain⟨m,h4⟩:=ih b (a % b) (by omega) (bsK a hb) (by have:=brI a (show 0 < b by omega);omega);refine⟨m+1,?_⟩;show(Iu a b).bind _=_;rw[Iu,En (by omega)]
  have:VR a b=some (a % b):=by unfold VR XC;rw[if_neg hb,bpC (by omega)]
  dsimp only[cond];rw[this];exact h4
theorem aVD{a b g z:Int}(h:akY a b=some g)(hz:OM a g=some z):M5 a b=some (Bj z b):=by unfold akY at h;split at h;rename_i hc;cases h;obtain⟨m,h1⟩:=apS (b.toNat+1) a b hc.1 hc.2 (by omega);unfold M5;rw[BB h1];simp only[Uu,F0];rw[hz];rfl;cases h
section
variable {L:List Tk}{k:Nat}{en e ea:Int}(he:e≠0)(hk:k<=L.length)
include he hk
theorem aZH(den v x:Int):∃y,kE (⟨L,(k:Int),en,e,ea⟩:Ps) den v x=some (y,(k:Int),e,ea):=by unfold kE YF Xo;have D1:∀(s:ByteArray),Ab (⟨L,(k:Int),en,e,ea⟩:Ps) s=some ((),(k:Int),e,ea):=λs=>Ks he hk s;have D3:∀(a b:Int),As (⟨L,(k:Int),en,e,ea⟩:Ps) a b=some (0,(k:Int),e,ea):=λa b=>Yf he hk a b;have D4:∀(s:ByteArray),An (⟨L,(k:Int),en,e,ea⟩:Ps) s=some (false,(k:Int)):=λs=>Jp he s;have D5:AD (⟨L,(k:Int),en,e,ea⟩:Ps)=some (EP en (L.drop k)):=IP hk;simp only[D1,D3,D4,D5,Uu,cond,DE he];exact⟨_,rfl⟩
theorem aQQ(den v:Int):∃y,aN (⟨L,(k:Int),en,e,ea⟩:Ps) den v=some (y,(k:Int),e,ea):=by unfold aN YE;have D1:∀(s:ByteArray),Ab (⟨L,(k:Int),en,e,ea⟩:Ps) s=some ((),(k:Int),e,ea):=λs=>Ks he hk s;have D2:B0 (⟨L,(k:Int),en,e,ea⟩:Ps)=some (0,(k:Int),e,ea):=aGF he hk;have D4:∀(s:ByteArray),An (⟨L,(k:Int),en,e,ea⟩:Ps) s=some (false,(k:Int)):=λs=>Jp he s;simp only[D1,D2,D4,Uu,cond];exact aZH he hk _ _ _
end
section
variable {L:List Tk}{k:Nat}{en ea:Int}(hw:∀t∈L,Rg t)(hL:L.length<=10000)(hk:k<=L.length)
include hw hL hk
theorem aRS{r:Int⊕Dg}{l:List Tk}(hS:oU en (L.drop k)=some (r,l)):Lv (λs y=>s=y) L en ea k (YF (Pz L k en 0 ea)) r l:=by
 have Hi:∀t∈L,Kw t:=λt ht=>(hw t ht).kw;unfold YF;rw[Hh Hi hL (by simp[Em])];unfold oU Ig A5 Sd at hS;have nd:∀{r:Tk⊕Dg}{l:List Tk},Ff en Mc (L.drop k)=some (r,l)->Lv (λ(t:Tk)(_:Unit)=>t.AO=EP en (L.drop k)) L en ea k (Ab (Pz L k en 0 ea) Mc) r l:=λh=>Io Hi hL hk (by simp[Em]) h;cases h:L.drop k with
 |nil=>
  rw[h] at hS;simp only[atS,aWN] at hS;obtain⟨rfl,rfl⟩:=hS;obtain⟨k',g1,g2,g3,g4,v,g5⟩:=nd (r:=.inr ⟨72,en⟩) (l:=[]) (by unfold Ff Ig Sd;rw[h]);refine⟨k',g1,g2,g3,g4,1,?_⟩;simp only[Co,cond,Uu];dsimp only[Pz] at g5 ⊢;rw[g5];rfl
 |cons t s=>
  obtain⟨h1,h2,h3⟩:=CS h;rw[h] at hS;simp only[H9,FM] at hS;simp only[Co];cases hm:Bd t.text.data.toList J5.data.toList with
  |true=>
   have hp:Bd t.text.data.toList Mc.data.toList=false:=by rw[gD hm];rfl
   rw[hp,hm] at hS;simp only[cond,Nl,CX,hm,atS,aWN] at hS;obtain⟨rfl,rfl⟩:=hS;exact⟨k+1,biC k,h1,h3.symm,-1,rfl,rfl⟩
  |false=>
   rw[hm] at hS;simp only[cond,Uu];cases hp:Bd t.text.data.toList Mc.data.toList with
   |true=>
    rw[hp] at hS;simp only[cond,Nl,CX,hm,atS,aWN] at hS;obtain⟨rfl,rfl⟩:=hS;obtain⟨k',g1,g2,g3,v,_,g5⟩:=nd (r:=.inl t) (l:=s) (by unfold Ff Ig Sd;rw[h];simp only[H9,Bp,hp,cond,Nl,CX]);refine⟨k',g1,g2,g3,1,rfl,?_⟩;dsimp only[Pz] at g5 ⊢;rw[g5];rfl
   |false=>
    rw[hp] at hS;simp only[cond,IE,atS,aWN] at hS;obtain⟨rfl,rfl⟩:=hS;obtain⟨k',g1,g2,g3,g4,v,g5⟩:=nd (r:=.inr ⟨71,t.AO⟩) (l:=t::s) (by unfold Ff Ig Sd;rw[h];simp only[H9,Bp,hp,cond,IE]);refine⟨k',g1,g2,g3,g4,1,?_⟩;dsimp only[Pz] at g5 ⊢;rw[g5];rfl
theorem bfO{den fr x:Int}(X3:1<=den/\den<=1000000){r:(Pt×Int)⊕Dg}{l:List Tk}(hS:Tt en den fr x (L.drop k)=some (r,l)):Lv (λ(q:Pt×Int)(y:Pc×Int×Int)=>y=(⟨q.1.fr,q.1.AO,q.1.num⟩,q.1.den,q.2)/\1<=q.1.den/\q.1.den<=1000000/\1<=q.2/\q.2<=1000000) L en ea k (kE (Pz L k en 0 ea) den fr x) r l:=by
 have Hi:∀t∈L,Kw t:=λt ht=>(hw t ht).kw;have D1:∀(s:ByteArray)(k:Nat)(e ea:Int),e≠0->k<=L.length->Ab (⟨L,(k:Int),en,e,ea⟩:Ps) s=some ((),(k:Int),e,ea):=λs k e ea he hk=>Ks he hk s;have D3:∀(a b:Int)(k:Nat)(e ea:Int),e≠0->k<=L.length->As (⟨L,(k:Int),en,e,ea⟩:Ps) a b=some (0,(k:Int),e,ea):=λa b k e ea he hk=>Yf he hk a b;have D5:∀(k:Nat)(e ea:Int),k<=L.length->AD (⟨L,(k:Int),en,e,ea⟩:Ps)=some (EP en (L.drop k)):=λk e ea hk=>IP hk
 have D6:∀(k:Nat)(e ea a b c:Int),e≠0->Xo (⟨L,(k:Int),en,e,ea⟩:Ps) a b c=some (a,e,ea):=λk e ea a b c he=>by
  unfold Xo;rw[DE he];rfl
 unfold kE;unfold Tt at hS;refine Cv (λh=>aRS hw hL hk h) (λs sy k1 hs _ hk1 h1=>?_) (λv k' e CF he EM=>?_) hS
 ·refine Cv (λh=>One.lv (Qb hw hL hk1 h)) (λm my k2 hm _ hk2 h2=>?_) (λv k' e CF he EM=>?_) h1
  ·refine Cv (λh=>Io Hi hL hk2 (by simp[Em]) h) (λt _ k3 _ _ hk3 h3=>?_) (λv k' e CF he EM=>?_) h2
   ·have e3:=D5 k3 0 ea hk3
    dsimp only[Pz] at e3 ⊢;rw[e3];simp only[Uu];unfold A5 at h3;split at h3;cases h3
    ·rename_i d s4 hd
     have hrg:=amG hd;rcases Qb (ea:=ea) hw hL hk3 hd with ⟨p,hp,t,g1,g2,g3,g4,g5,g6⟩ | ⟨_,hp,_⟩
     rotate_left;cases hp;cases hp;dsimp only[Pz] at g6;rw[g6]
     have hh:EP en (L.drop k3)=t.AO:=by rw[bjH g4];rw[aBD g4] at g1;rw[biA g1];rfl
     simp only[Uu];obtain⟨g,q1,q2,q3,q4⟩:=aqV X3.1 (show(0:Int)<=d.1 by omega);have hq:OM den g=some (den / g):=nG (by omega) (by omega) (by omega)
     have hz1:1<=den / g/\den / g<=1000000:=by
      obtain⟨c,rfl⟩:=q3;rw[bpU _ (by omega)]
      have:1<=c:=by by_cases hc:1<=c;exact hc;have:=bnM (show(0:Int)<=g by omega) (show c<=0 by omega);omega
      refine⟨this,?_⟩;have:=bmK q2 (show(0:Int)<=c by omega);omega
     have hz2:Bj (den / g) d.1=den / g*d.1:=by have a1:=bqR hz1.2 hrg.2 (by omega) (by omega);have a2:=bsS (show 0<=den / g by omega) (show 0<=d.1 by omega);exact JM (by omega)
     have hz3:1<=den / g*d.1:=by have a1:=bqR hz1.1 hrg.1 (by omega) (by omega);omega
     have hc:=aVD q1 hq;rw[hz2] at hc;simp only[H9,q1,hq,hz2] at h3;unfold Xo;rw[C4 rfl];simp only[cond];rw[hc];simp only[Uu];have fl:∀x y:Int,Aw (⟨L,((k3+1:Nat):Int),en,0,ea⟩:Ps) x y=some ((),x,y):=λx y=>rfl;cases hb:Cy 1000000 (den / g*d.1) with
     |true=>
      rw[hb] at h3;simp only[cond,IE,atS,aWN] at h3;obtain⟨rfl,rfl⟩:=h3;refine⟨k3+1,biC k3,g4,(show(2:Int)≠0 by decide),.inr (.inl ⟨g5,k3,t,rfl,g1,g2.symm,g3⟩),?_⟩;simp only[fl,Uu,hh,g2];exact⟨_,rfl⟩
     |false=>
      rw[hb] at h3;simp only[cond,CX,atS,aWN] at h3;obtain⟨rfl,rfl⟩:=h3;have:=Lx hb;refine⟨k3+1,biC k3,g4,g5,_,⟨?_,hrg.1,hrg.2,hz3,by omega⟩,rfl⟩;rw[hs,hm.1,pN]
    rename_i d s4 hd;rcases Qb (ea:=ea) hw hL hk3 hd with ⟨p,hp,_⟩ | ⟨_,hp,k',g1,g2,g3,g4,v,g5⟩
    cases hp;cases hp;simp only[atS,aWN] at h3;obtain⟨rfl,rfl⟩:=h3;dsimp only[Pz] at g5;rw[g5];refine⟨k',g1,g2,g3,g4,?_⟩;simp only[Uu,D6 _ _ _ _ _ _ g3];exact⟨_,rfl⟩
   simp only[D3 _ _ k' e CF he EM,D5 k' e CF EM,D6 _ _ _ _ _ _ he,Uu];exact⟨_,rfl⟩
  simp only[D1 _ k' e CF he EM,D3 _ _ k' e CF he EM,D5 k' e CF EM,D6 _ _ _ _ _ _ he,Uu];exact⟨_,rfl⟩
 simp only[D1 _ k' e CF he EM,D3 _ _ k' e CF he EM,D5 k' e CF EM,D6 _ _ _ _ _ _ he,Uu];exact⟨_,rfl⟩
end
def Wp(x:Pt):Pc:=⟨x.fr,x.AO,x.num⟩
def ptB(x:Pt):Prop:=1<=x.den/\x.den<=1000000
abbrev azB(q:Pt×Int)(y:Pc×Int×Int):Prop:=y=(⟨q.1.fr,q.1.AO,q.1.num⟩,q.1.den,q.2)/\1<=q.1.den/\q.1.den<=1000000/\1<=q.2/\q.2<=1000000
section
variable {L:List Tk}{k:Nat}{en ea:Int}(hw:∀t∈L,Rg t)(hL:L.length<=10000)(hk:k<=L.length)
include hw hL hk
theorem aKN{den fr sg:Int}(X3:1<=den/\den<=1000000){r:(Pt×Int)⊕Dg}{l:List Tk}(hS:(A5 (TU en) λa=>Tt en den fr (Bj a.1 sg)) (L.drop k)=some (r,l)):Lv azB L en ea k ((B0 (Pz L k en 0 ea)).bind λ(u,a,e,ea)=>kE (⟨L,a,en,e,ea⟩:Ps) den fr (Bj sg u)) r l:=by refine Cv (λh=>One.lv (uK hw hL hk h)) (λa y k1 ha _ hk1 h1=>?_) (λv k' e CF he EM=>aZH he EM _ _ _) hS;dsimp only;rw[<- ha.1,pN];exact bfO hw hL hk1 X3 h1
theorem aZG{den fr:Int}(X3:1<=den/\den<=1000000){r:(Pt×Int)⊕Dg}{l:List Tk}(hS:Tr en den fr (L.drop k)=some (r,l)):Lv azB L en ea k (aN (Pz L k en 0 ea) den fr) r l:=by
 have Hi:∀t∈L,Kw t:=λt ht=>(hw t ht).kw;unfold aN YE;unfold Tr at hS;refine Cv (λh=>Io Hi hL hk (by simp[Em]) h) (λt _ k1 _ _ hk1 h1=>?_) (λv k' e CF he EM=>?_) hS
 ·have ht:=Hh (k:=k1) (en:=en) (ea:=ea) Hi hL (x:=J5) (by simp[Em])
  dsimp only[Pz] at ht ⊢;rw[ht];simp only[NC] at h1;cases hq:Co J5 (L.drop k1) with
  |true=>
   rw[hq] at h1;simp only[cond,Uu] at h1 ⊢
   have hd:∃t5 s5,L.drop k1=t5::s5:=by cases hd:L.drop k1 with|nil=>rw[hd] at hq;cases hq|cons t5 s5=>exact⟨t5,s5,rfl⟩
   obtain⟨t5,s5,hd⟩:=hd;obtain⟨g1,g2,g3⟩:=CS hd;rw[hd] at h1;simp only[Nl] at h1;rw[<- g3] at h1;exact Ly (biC k1) (aKN hw hL g1 X3 h1)
  |false=>
   rw[hq] at h1;simp only[cond,Uu] at h1 ⊢;exact aKN hw hL hk1 X3 h1
 obtain⟨y,hy⟩:=aQQ (en:=en) (ea:=CF) he EM den fr;unfold aN YE at hy;dsimp only;have D1:Ab (⟨L,(k':Int),en,e,CF⟩:Ps) Va=some ((),(k':Int),e,CF):=Ks he EM _;rw[D1] at hy;exact⟨y,hy⟩
theorem aZF{den:Int}{before:List Pt}(X3:1<=den/\den<=1000000)(hb:before.length<=100000){r:(Pt×Int)⊕Dg}{l:List Tk}(hS:Zp en before den (L.drop k)=some (r,l)):Lv azB L en ea k (aiL (Pz L k en 0 ea) den (before.map Wp)) r l:=by
 unfold aiL;unfold Zp at hS;rw[IP hk];simp only[Uu];unfold A5 at hS;split at hS;cases hS
 ·rename_i v s hv
  rcases uK (ea:=ea) hw hL hk hv with ⟨p,hp,t,g1,g2,g3,g4,g5,g6⟩ | ⟨_,hp,_⟩
  rotate_left;cases hp;cases hp;rw[g6]
  have hh:EP en (L.drop k)=t.AO:=by rw[bjH g4];rw[aBD g4] at g1;rw[biA g1];rfl
  simp only[Uu,hh];have fl:∀x y:Int,Aw (⟨L,((k+1:Nat):Int),en,0,ea⟩:Ps) x y=some ((),x,y):=λx y=>rfl
  have bad:∀(c:Int),c≠0->some ((blT ⟨c,v.2⟩:(Pt×Int)⊕Dg),s)=some (r,l)->Lv azB L en ea k (aN (⟨L,((k+1:Nat):Int),en,c,t.AO⟩:Ps) den v.1) r l:=λc hc h=>by
   simp only[atS,aWN] at h;obtain⟨rfl,rfl⟩:=h;obtain⟨y,hy⟩:=aQQ (L:=L) (k:=k+1) (en:=en) (ea:=t.AO) hc g4 den v.1;exact⟨k+1,biC k,g4,hc,.inr (.inl ⟨g5,k,t,rfl,g1,g2.symm,g3⟩),y,by rw[hy,g2]⟩
  have aUP:∀(c x:Int) (f:Int×Int->Option (Int×Int)),c≠0->Rx (⟨L,((k+1:Nat):Int),en,c,t.AO⟩:Ps) (before.map Wp) x=some (c,t.AO):=λc x f hc=>by
   unfold Rx;rw[DE hc];rfl
  unfold YD;rw[C4 rfl];simp only[cond,biE];by_cases h0:before.length=0;rw[C4 (by omega)] at hS ⊢;simp only[cond] at hS ⊢;by_cases hz:v.1=0;rw[C4 hz] at hS ⊢;simp only[Uu] at hS ⊢;unfold Rx;rw[C4 rfl];simp only[cond,biE];rw[P7 (by omega)];simp only[Uu];rw[g5] at hS;exact Ly (biC k) (aZG hw hL g4 X3 hS);rw[DE hz] at hS ⊢;simp only[IE,fl,Uu] at hS ⊢;rw[aUP 3 _ (λ_=>none) (by decide)];exact bad 3 (by decide) hS
  ·rw[DE (by omega)] at hS ⊢
   simp only[cond] at hS ⊢;rw[En (by omega)];simp only;rw[FW (by omega),show((before.length:Nat):Int) - 1=((before.length - 1:Nat):Int) by omega,EB,List.getElem?_map];unfold H9 at hS;split at hS;cases hS
   ·rename_i q hq
    dsimp only at hS;rw[hq];simp only[bhK,Uu,Wp];cases hle:My v.1 q.fr with
    |true=>
     rw[hle] at hS;simp only[IE,fl,Uu] at hS ⊢;rw[aUP 3 _ (λ_=>none) (by decide)];exact bad 3 (by decide) hS
    |false=>
     rw[hle] at hS;simp only[Uu] at hS ⊢;unfold Rx;rw[C4 rfl];simp only[cond,biE];cases h64:My 64 ((before.length:Nat):Int) with
     |true=>
      rw[h64] at hS;simp only[IE,fl,Uu] at hS ⊢;exact bad 2 (by decide) hS
     |false=>
      rw[h64] at hS;simp only[Uu] at hS ⊢;rw[g5] at hS;exact Ly (biC k) (aZG hw hL g4 X3 hS)
 rename_i d s hd;rcases uK (ea:=ea) hw hL hk hd with ⟨p,hp,_⟩ | ⟨_,hp,k',g1,g2,g3,g4,v,g5⟩
 cases hp;cases hp;simp only[atS,aWN] at hS;obtain⟨rfl,rfl⟩:=hS;rw[g5];refine⟨k',g1,g2,g3,g4,?_⟩;obtain⟨y,hy⟩:=aQQ (L:=L) (k:=k') (en:=en) (ea:=d.AO) g3 g2 den v;refine⟨y,?_⟩;simp only[Uu];unfold YD Rx;rw[DE g3];simp only[cond,Uu];rw[DE g3];simp only[Uu];exact hy
end
section
variable {L:List Tk}{en ea:Int}(hw:∀t∈L,Rg t)(hL:L.length<=10000)(p:Ps)(hp1:p.l=L)(hp2:p.end_=en)
abbrev aSI(p:Ps):=B8 (λx:Int×List Pc×List Int×Int×Int×Int=>Wu p x.1 x.2.1 x.2.2.1 x.2.2.2.1 x.2.2.2.2.1 x.2.2.2.2.2)
include hw hL hp1 hp2
theorem avA:∀(q:Nat)(before:List Pt)(c:Int)(k:Nat) (r:(List Pt×Int)⊕Dg) (l:List Tk),k<=L.length->(∀x∈before,ptB x)->1<=c->c<=1000000->before.length+q<=100000->Pw en q before c (L.drop k)=some (r,l) ->
 ∃(n k':Nat)(den:Int)(m:List Pc)(Bv:List Int)(e CF:Int),k<=k'/\k'<=L.length/\aSI p n (c,before.map Wp,before.map (·.den),(k:Int),0,ea)=some (.inl (den,m,Bv,(k':Int),e,CF))/\match r with|.inl x=>l=L.drop k'/\den=x.2/\m=x.1.map Wp/\Bv=x.1.map (·.den)/\e=0/\CF=ea/\(∀y∈x.1,ptB y)/\1<=x.2/\x.2<=1000000/\x.1≠[]/\x.1.length<=100000|.inr d=>d.err≠0/\Er L en k' l d/\e=d.err/\CF=d.AO:=by
 have Hi:∀t∈L,Kw t:=λt ht=>(hw t ht).kw;subst hp1 hp2;intro q
 induction q with
 |zero=>intro before c k r l _ _ _ _ _ h;cases h
 |succ q ih=>
  intro before c k r l hk hbd h1 h2 hq hS;have Dc:=axM p c (before.map Wp) (before.map (·.den)) (k:Int) 0 ea;rw[C4 rfl] at Dc;simp only[cond] at Dc;unfold Pw A5 at hS;split at hS;cases hS
  ·rename_i a s ha
   obtain⟨k1,b1,b2,rfl,y,⟨rfl,b4,b5,b6,b7⟩,b8⟩:=aZF (ea:=ea) hw hL hk ⟨h1,h2⟩ (by omega) ha;dsimp only[Pz] at b8;rw[b8] at Dc;have ht:=Hh (k:=k1) (en:=p.end_) (ea:=ea) Hi hL (x:=KG) (by simp[Em]);dsimp only[Pz] at ht;simp only[Uu] at Dc;rw[B1 (by rw[biE];omega),B1 (by rw[biE];omega)] at Dc;rw[ht] at Dc;unfold Lq at hS;dsimp only at hS;rw[B1 (by omega)] at hS;unfold NC at hS
   have aWT:∀x∈before++[a.1],ptB x:=λx hx=>by
    rcases biI.1 hx with hx | hx
    exact hbd x hx;rw[biQ.1 hx];exact⟨b4,b5⟩
   have em:before.map Wp++[(⟨a.1.fr,a.1.AO,a.1.num⟩:Pc)]=(before++[a.1]).map Wp:=by rw[bjC];rfl
   have ed:before.map (·.den)++[a.1.den]=(before++[a.1]).map (·.den):=by rw[bjC];rfl
   cases hc:Co KG (p.l.drop k1) with
   |true=>
    rw[hc] at hS Dc;simp only[cond,Uu] at hS Dc
    have hd:∃t5 s5,p.l.drop k1=t5::s5:=by cases hd:p.l.drop k1 with|nil=>rw[hd] at hc;cases hc|cons t5 s5=>exact⟨t5,s5,rfl⟩
    obtain⟨t5,s5,hd⟩:=hd;obtain⟨g1,g2,g3⟩:=CS hd;rw[hd] at hS;simp only[Nl] at hS;rw[<- g3] at hS;obtain⟨n,k',den,m,Bv,e,CF,c1,c2,c3,c4⟩:=ih (before++[a.1]) a.2 (k1+1) r l g1 aWT b6 b7 (by simp only[aWQ,bhF];omega) hS;refine⟨n+1,k',den,m,Bv,e,CF,by omega,c2,?_,c4⟩;show(Wu p c (before.map Wp) (before.map (·.den)) (k:Int) 0 ea).bind _=_;rw[Dc,em,ed];exact c3
   |false=>
    rw[hc] at hS Dc;simp only[cond,Uu] at hS Dc;simp only[CX,atS,aWN] at hS;obtain⟨rfl,rfl⟩:=hS;refine⟨1,k1,a.2,_,_,0,ea,b1,b2,?_,rfl,rfl,rfl,rfl,rfl,rfl,aWT,b6,b7,by simp,by simp only[aWQ,bhF];omega⟩;show(Wu p c (before.map Wp) (before.map (·.den)) (k:Int) 0 ea).bind _=_;rw[Dc,em,ed];rfl
  rename_i d s hd;obtain⟨k1,b1,b2,b3,b4,y,b8⟩:=aZF (ea:=ea) hw hL hk ⟨h1,h2⟩ (by omega) hd;simp only[atS,aWN] at hS;obtain⟨rfl,rfl⟩:=hS;dsimp only[Pz] at b8;rw[b8] at Dc;have ht:=Jp (L:=p.l) (k:=k1) (en:=p.end_) (ea:=d.AO) b3 KG;dsimp only[Pz] at ht;simp only[Uu] at Dc;rw[B1 (by rw[biE];omega),B1 (by rw[biE];omega)] at Dc;rw[ht] at Dc;simp only[cond,Uu] at Dc;refine⟨1,k1,y.2.2,before.map Wp++[y.1],before.map (·.den)++[y.2.1],d.err,d.AO,b1,b2,?_,b3,b4,rfl,rfl⟩;show(Wu p c (before.map Wp) (before.map (·.den)) (k:Int) 0 ea).bind _=_;rw[Dc];rfl
end
def gG(c:Int)(x:Pt):Pc:=⟨x.fr,Bj x.AO c,Bj x.num (c / x.den)⟩
def big(c:Int)(x:Pt):Bool:=Cy 1000000 (Bj x.num (c / x.den))||Cy (Bj x.num (c / x.den)) (-1000000)
theorem aVH{c:Int}{x:Pt}(hc:1<=c/\c<=1000000)(hx:ptB x):OM c x.den=some (c / x.den):=nG (by omega) (by have:=hx.1;omega) (by omega)
theorem awL{c p:Int}(hc:1<=c/\c<=1000000):∀(xs:List Pt)(acc:List Pc)(s:List Tk),(∀x∈xs,ptB x)->acc.length+xs.length<=1000000->NX c p xs acc s=cond (xs.any (big c)) (some (.inr ⟨2,p⟩,s)) (some (.inl (acc++xs.map (gG c)),s)):=by
 intro xs
 induction xs with
 |nil=>intro acc s _ _;unfold NX;simp[CX]
 |cons x xs ih=>
  intro acc s hb hl;simp only[bhE] at hl;unfold NX H9;rw[aVH hc (hb x (biK ..)),bnH];simp only[big];cases h1:Cy 1000000 (Bj x.num (c / x.den)) with
  |true=>rfl
  |false=>
   cases h2:Cy (Bj x.num (c / x.den)) (-1000000) with
   |true=>rfl
   |false=>
    simp only[cond,Bool.false_or];unfold Lq;rw[B1 (by omega),ih _ s (λy hy=>hb y (biB _ hy)) (by simp only[aWQ,bhF];omega)];have:acc++[(⟨x.fr,Bj x.AO c,Bj x.num (c / x.den)⟩:Pc)]++xs.map (gG c)=acc++(x::xs).map (gG c):=by rw[bjX];rfl
    rw[this];rfl
theorem aEJ{α:Type}(a:List α)(x y:α)(b:List α):(a++x::b).set a.length y=a++y::b:=by simp
theorem agF{α:Type}(a:List α)(x:α)(b:List α):(a++x::b)[a.length]?=some x:=by simp
theorem baM{p:Ps}{c:Int}{k:Nat}(hk:k<=p.l.length)(hc:1<=c/\c<=1000000):∀(todo done:List Pt)(e ea:Int),(∀x∈todo,ptB x)->Bs (λi y (x:List Pc×Int×Int)=>aaQ p c ((done++todo).map (·.den)) (k:Int) i y x.1 x.2.1 x.2.2) (λx=>x) (todo.map Wp) done.length (done.map (gG c)++todo.map Wp,e,ea)=some (.inl ((done++todo).map (gG c),cond (A8 e 0) (cond (todo.any (big c)) 2 0) e,cond (A8 e 0) (cond (todo.any (big c)) (EP p.end_ (p.l.drop k)) ea) ea)):=by
 intro todo
 induction todo with
 |nil=>
  intro done e ea _;simp only[bqG,List.append_nil,brQ,cond];unfold Bs;cases h:A8 e 0 with|true=>rw[F3 h]|false=>rfl
 |cons x todo ih=>
  intro done e ea hb;rw[bkF];unfold Bs;have hl:(done.map (gG c)).length=done.length:=biE ..;have g1:(done.map (gG c)++Wp x::todo.map Wp)[done.length]?=some (Wp x):=by rw[<- hl];exact agF _ _ _
  have g2:Dk ((done++x::todo).map (·.den)) ((done.length:Nat):Int)=some x.den:=by rw[EB,bjC,bkF];have:(done.map (·.den)).length=done.length:=biE ..;rw[<- this];exact agF _ _ _
  have g3:((done.map (gG c)++Wp x::todo.map Wp).set done.length ⟨(Wp x).fr,Bj (Wp x).AO c,(Wp x).Fs⟩).set done.length ⟨(Wp x).fr,Bj (Wp x).AO c,Bj (Wp x).Fs (c / x.den)⟩=(done++[x]).map (gG c)++todo.map Wp:=by rw[List.set_set,<- hl,aEJ,bjC,bjX];rfl
  have hh:∀e ea:Int,AD (⟨p.l,(k:Int),p.end_,e,ea⟩:Ps)=some (EP p.end_ (p.l.drop k)):=λe ea=>IP hk
  have fl:∀z:Int,Aw (⟨p.l,(k:Int),p.end_,e,ea⟩:Ps) 2 z=some ((),cond (A8 e 0) 2 e,cond (A8 e 0) z ea):=λz=>by
   unfold Aw;dsimp only;cases A8 e 0<;>rfl
  have ih:=λe ea=>ih (done++[x]) e ea (λy hy=>hb y (biB _ hy));simp only[bjX,List.singleton_append,aWQ,bhF] at ih
  have step:aaQ p c ((done++x::todo).map (·.den)) (k:Int) done.length (Wp x) (done.map (gG c)++Wp x::todo.map Wp) e ea=some (.nx ((done++[x]).map (gG c)++todo.map Wp,cond (big c x) (cond (A8 e 0) 2 e) e,cond (big c x) (cond (A8 e 0) (EP p.end_ (p.l.drop k)) ea) ea)):=by
   unfold aaQ;rw[g1];simp only[Uu];rw[g2];simp only[Uu];rw[aVH hc (hb x (biK ..))];simp only[Uu];rw[hh];simp only[Uu];rw[fl];simp only[Uu];rw[g3];have e1:(Wp x).Fs=x.num:=rfl;rw[e1];unfold big;cases Cy 1000000 (Bj x.num (c / x.den)) with
   |true=>rfl
   |false=>
    cases Cy (Bj x.num (c / x.den)) (-1000000) with|true=>rfl|false=>rfl
  rw[step];simp only[Uu,MK];rw[ih];rw[bnH];cases hbx:big c x with
  |false=>rfl
  |true=>
   cases h:A8 e 0 with|true=>rfl|false=>simp only[cond,h]
def auZ(en:Int):Rd Fn:=A5 (λs=>Pw en (s.length+1) [] 1 s) λl=>A5 (Ff en NB) λe=>Lq l.1.length (A5 (NX l.2 e.AO l.1 []) λr=>CX ⟨l.2,r⟩)
theorem Xa{α β γ:Type}(m:Rd α)(f:α->Rd β)(g:β->Rd γ):A5 (A5 m f) g=A5 m λa=>A5 (f a) g:=by
 funext s;unfold A5;cases m s with
 |none=>rfl
 |some y=>
  obtain⟨a,u⟩:=y;cases a<;>rfl
theorem yW{α β:Type}(n:Nat)(m:Rd α)(g:α->Rd β):A5 (Lq n m) g=Lq n (A5 m g):=by funext s;unfold Lq A5 G8;by_cases h:n<=100000000;simp only[if_pos h];simp only[if_neg h]
theorem yX{α β:Type}(a:α)(g:α->Rd β):A5 (CX a) g=g a:=rfl
theorem anB(en:Int)(g:Ek->Rd Nd):ZO en g=A5 (Ff en G5) λt=>A5 (Ff en Ni) λ_=>A5 (g .ex) λa=>A5 (Ff en Jv) λ_=>A5 (auZ en) λf=>CX ⟨18,bE,bE,0,0,0,0,f,[a],t.AO⟩:=by unfold ZO auZ;simp only[Xa,yW,yX]
theorem agA{en:Int}{x:ByteArray}{s:List Tk}(h:Co x s=true):∃t u,s=t::u/\Ff en x s=some (.inl t,u)/\Bd t.text.data.toList x.data.toList=true:=by
 cases s with
 |nil=>cases h
 |cons t u=>
  refine⟨t,u,rfl,?_,h⟩;have h:Bd t.text.data.toList x.data.toList=true:=h;unfold Ff Ig Sd;simp only[H9,Bp,h,cond,Nl,CX]
theorem aNK{en:Int}{x:ByteArray}{s:List Tk}(h:Co x s=false):∃d,Ff en x s=some (.inr d,s):=by
 cases s with
 |nil=>exact⟨_,rfl⟩
 |cons t u=>
  have h:Bd t.text.data.toList x.data.toList=false:=h;unfold Ff Ig Sd;simp only[H9,Bp,h,cond,IE];exact⟨_,rfl⟩
theorem alU{t:Tk}{x:ByteArray}(h:Bd t.text.data.toList x.data.toList=true)(hx:∀y∈[Ic,GA,Cp],x.data.toList≠y.data.toList):Wo t:=λy hy he=>by
 rw[gD h] at he;exact hx y hy he
section
variable {L:List Tk}{k:Nat}{en ea:Int}(hw:∀t∈L,Rg t)(hL:L.length<=10000)(hk:k<=L.length)
include hw hL hk
theorem aFJ{r:Fn⊕Dg}{l:List Tk}(hS:auZ en (L.drop k)=some (r,l)):Lv (·=·) L en ea k (CV (Pz L k en 0 ea)) r l:=by
 have Hi:∀t∈L,Kw t:=λt ht=>(hw t ht).kw;unfold CV;unfold auZ A5 at hS;have key:=λr l=>avA (ea:=ea) hw hL (Pz L k en 0 ea) rfl rfl ((L.drop k).length+1) [] 1 k r l hk (λx hx=>by cases hx) (by decide) (by decide) (by simp only[bhI,biV];omega);split at hS;cases hS
 ·rename_i x s hx
  obtain⟨n,k1,den,m,Bv,e,ea1,b1,b2,b3,rfl,rfl,rfl,rfl,rfl,rfl,b4,b5,b6,b7,b8⟩:=key _ _ hx;dsimp only at hS;have b3:aSI (Pz L k en 0 ea1) n (1,[],[],(k:Int),0,ea1)=_:=b3;dsimp only[Pz] at b3 ⊢;rw[BB b3];simp only[Uu,F0];have hi:=X9 (k:=k1) (en:=en) (ea:=ea1) Hi (x:=NB) (by simp[Em]);dsimp only[Pz] at hi;rw[hi];simp only[Uu];cases hq:Co NB (L.drop k1) with
  |true=>
   obtain⟨t,u,q1,q2,q3⟩:=agA (en:=en) hq;obtain⟨g1,g2,g3⟩:=CS q1;rw[q2] at hS;simp only[Lq] at hS;rw[B1 (by omega)] at hS
   have hem:(x.1.map Wp).isEmpty=false:=by cases hz:x.1 with|nil=>exact absurd hz b7|cons a b=>rfl
   rw[hem];simp only[cond];have f2:=baM (p:=Pz L k en 0 ea1) (k:=k1) b2 ⟨b5,b6⟩ x.1 [] 0 ea1 b4;simp only[bqG,bkC,biV] at f2;dsimp only[Pz] at f2;unfold aaP;rw[biT,f2,L9 (by rw[biE];omega)];simp only[Uu,F0];rw[biE,biE,show Nat.beq x.1.length x.1.length=true from Nat.beq_refl _];simp only[cond];rw[awL ⟨b5,b6⟩ x.1 [] u b4 (by simp only[biV];omega)] at hS;rw[C4 rfl];simp only;cases aWU:x.1.any (big x.2) with
   |true=>
    rw[aWU] at hS;simp only[cond,atS,aWN] at hS;obtain⟨rfl,rfl⟩:=hS;refine⟨k1,b1,b2,(show(2:Int)≠0 by decide),.inr (.inr ⟨t,q1,rfl,alU q3 ?_⟩),?_⟩;intro y hy;simp only[bhJ,biZ,or_false] at hy;rcases hy with rfl | rfl | rfl<;>decide
    have D1:Ab (⟨L,(k1:Int),en,2,t.AO⟩:Ps) NB=some ((),(k1:Int),2,t.AO):=Ks (by decide) b2 _;unfold Mg;simp only[q1,EP,D1,Uu];exact⟨_,rfl⟩
   |false=>
    rw[aWU] at hS;simp only[cond,CX,bkC,atS,aWN] at hS;obtain⟨rfl,rfl⟩:=hS;have hn:=Hh (k:=k1) (en:=en) (ea:=ea1) Hi hL (x:=NB) (by simp[Em]);rw[hq] at hn;refine⟨k1+1,by omega,g1,g3.symm,_,rfl,?_⟩;unfold Mg Ab;dsimp only[Pz] at hn;simp only[cond] at hn;simp only[hn,Uu,cond]
  |false=>
   obtain⟨d,q2⟩:=aNK (en:=en) hq;have hd:=Io (ea:=ea1) Hi hL b2 (by simp[Em]) q2;rw[q2] at hS;simp only[atS,aWN] at hS;obtain⟨rfl,rfl⟩:=hS;obtain⟨k',c1,c2,c3,c4,v,c5⟩:=hd;simp only[cond];dsimp only[Pz] at c5;unfold Mg;refine⟨k',by omega,c2,c3,c4,?_⟩;simp only[c5,Uu];exact⟨_,rfl⟩
 rename_i d s hd;obtain⟨n,k1,den,m,Bv,e,ea1,b1,b2,b3,b4,b5,rfl,rfl⟩:=key _ _ hd;simp only[atS,aWN] at hS;obtain⟨rfl,rfl⟩:=hS;have b3:aSI (Pz L k en 0 ea) n (1,[],[],(k:Int),0,ea)=_:=b3;dsimp only[Pz] at b3 ⊢;rw[BB b3];simp only[Uu,F0];have D5:Av (⟨L,(k1:Int),en,d.err,d.AO⟩:Ps) NB=some false:=xH b4 _;have D1:Ab (⟨L,(k1:Int),en,d.err,d.AO⟩:Ps) NB=some ((),(k1:Int),d.err,d.AO):=Ks b4 b2 _;unfold Mg;refine⟨k1,b1,b2,b4,b5,?_⟩;simp only[D5,D1,cond,Uu];exact⟨_,rfl⟩
end
theorem Mh{t:Tk}{x:ByteArray}(h:Bd t.text.data.toList x.data.toList=true):t.text=x:=by have:=gD h;cases t with | mk a b c=>cases b;cases x;simp_all [bsA]
theorem aZD{β:Type}{yes:ByteArray->Rd β}{no:Rd β}{s:List Tk}{y:(β⊕Dg)×List Tk}:∀{ops:List ByteArray},opR yes no ops s=some y->(∃x∈ops,∃t u,s=t::u/\t.text=x/\yes x u=some y)\/((∀x∈ops,Co x s=false)/\no s=some y):=by
 intro ops
 induction ops with
 |nil=>intro h;exact .inr ⟨(λx hx=>by cases hx),h⟩
 |cons x xs ih=>
  intro h;unfold opR NC at h;cases hq:Co x s with
  |true=>
   rw[hq] at h;simp only[cond] at h;cases s with|nil=>cases hq|cons t u=>exact .inl ⟨x,biK ..,t,u,rfl,Mh hq,h⟩
  |false=>
   rw[hq] at h;rcases ih h with ⟨z,hz,t,u,h1⟩ | ⟨h1,h2⟩
   exact .inl ⟨z,biB _ hz,t,u,h1⟩;refine .inr ⟨λz hz=>?_,h2⟩;rcases bhJ.1 hz with rfl | hz
   exact hq;exact h1 z hz
abbrev NS:=Int×ByteArray×ByteArray×Int×Int×Int×Int×Int×(List Pc)×(List Nd)×Int×Int×Int×Int
abbrev ndT(n:Nd)(k e ea:Int):NS:=(n.kind,n.name,n.unit,n.n,n.fr,n.to,n.known,n.CW.den,n.CW.ps,n.kids,n.AO,k,e,ea)
def ndO(t:NS):Nd×Int×Int×Int:=(⟨t.1,t.2.1,t.2.2.1,t.2.2.2.1,t.2.2.2.2.1,t.2.2.2.2.2.1,t.2.2.2.2.2.2.1,⟨t.2.2.2.2.2.2.2.1,t.2.2.2.2.2.2.2.2.1⟩,t.2.2.2.2.2.2.2.2.2.1,t.2.2.2.2.2.2.2.2.2.2.1⟩,t.2.2.2.2.2.2.2.2.2.2.2.1,t.2.2.2.2.2.2.2.2.2.2.2.2.1,t.2.2.2.2.2.2.2.2.2.2.2.2.2)
theorem aJO(n:Nd)(k e ea:Int):ndO (ndT n k e ea)=(n,k,e,ea):=by cases n;rfl
abbrev LpN:=Option (Lp NS NS (Nd×Int×Int×Int))
abbrev FN:=Ps->Option (Nd×Int×Int×Int)
abbrev GN:=Ps->Option ((List Nd)×Int×Int×Int)
def Y3(x:ByteArray)(n r:Nd):Nd:=⟨16,x,gT,0,0,0,0,⟨0,[]⟩,[n,r],n.AO⟩
theorem UE{x:ByteArray}{n r:Nd}(h1:Bd x.data.toList Md.data.toList=false)(h2:Bd x.data.toList IT.data.toList=false):AU x n r=some (Y3 x n r):=by unfold AU;rw[h1,h2];rfl
section
variable {α β:Type}{R:α->β->Prop}{L:List Tk}{k:Nat}{en ea:Int}{r:α⊕Dg}{l:List Tk}(Hi:∀t∈L,Kw t)(hL:L.length<=10000)
include Hi hL in
theorem aCB{x:ByteArray}(hx:x∈Em){yes no:Rd α}{F:Bool×Int->Option (β×Int×Int×Int)}(H1:k+1<=L.length->yes (L.drop (k+1))=some (r,l)->Lv R L en ea (k+1) (F (true,((k+1:Nat):Int))) r l)(H0:Co x (L.drop k)=false->no (L.drop k)=some (r,l)->Lv R L en ea k (F (false,(k:Int))) r l)(hS:NC x yes no (L.drop k)=some (r,l)):Lv R L en ea k ((An (⟨L,(k:Int),en,0,ea⟩:Ps) x).bind F) r l:=by
 have ht:=Hh (k:=k) (en:=en) (ea:=ea) Hi hL hx;dsimp only[Pz] at ht;rw[ht];unfold NC at hS;cases hq:Co x (L.drop k) with
 |true=>
  rw[hq] at hS;cases hd:L.drop k with
  |nil=>rw[hd] at hq;cases hq
  |cons t u=>
   obtain⟨g1,g2,g3⟩:=CS hd;rw[hd] at hS;simp only[cond,Nl] at hS;rw[<- g3] at hS;exact Ly (biC k) (H1 g1 hS)
 |false=>
  rw[hq] at hS;exact H0 hq hS
end
section
variable {L:List Tk}{k:Nat}{en ea:Int}{r:Nd⊕Dg}{l:List Tk}
theorem TJ{sub:Rd Nd}{x:ByteArray}{n:Nd}{F:Option (Nd×Int×Int×Int)}{g:Nd->Nd}(hx:Bd x.data.toList DP.data.toList=false)(hb:∀r,AU x n r=some (g r))(hF:∀{r:Nd⊕Dg}{l:List Tk},sub (L.drop k)=some (r,l)->Lv (·=·) L en ea k F r l)(hS:ND en sub x n (L.drop k)=some (r,l)):Lv (·=·) L en ea k (F.bind λy=>some (g y.1,y.2.1,y.2.2.1,y.2.2.2)) r l:=by unfold ND at hS;rw[hx] at hS;simp only[cond] at hS;refine Cv hF (λa b k1 hab _ hk1 h1=>?_) (λv k' e CF he EM=>⟨_,rfl⟩) hS;subst hab;simp only[H9,hb] at h1;exact J0 hk1 rfl h1
section
variable {ops:List ByteArray}{sub:Rd Nd}{body:NS->LpN}
 (Hd:∀(n:Nd)(k:Nat)(e ea:Int),e≠0->k<=L.length->body (ndT n k e ea)=some (.ex (ndT n k e ea)))
 (Hn:∀(n:Nd)(k:Nat),k<=L.length->(∀x∈ops,Co x (L.drop k)=false)->body (ndT n k 0 ea)=some (.ex (ndT n k 0 ea)))
 (Hy:∀(n:Nd)(k:Nat)(t:Tk)(x:ByteArray)(r:Nd⊕Dg)(l:List Tk),k+1<=L.length->L.drop k=t::L.drop (k+1)->L[k]?=some t->x∈ops->t.text=x->ND en sub x n (L.drop (k+1))=some (r,l)->∃X,Lv (·=·) L en ea (k+1) X r l/\body (ndT n k 0 ea)=X.bind λy=>some (.nx (ndT y.1 y.2.1 y.2.2.1 y.2.2.2)))
include Hd Hn Hy
theorem azW:∀(q:Nat)(n:Nd)(k:Nat)(r:Nd⊕Dg)(l:List Tk),k<=L.length->Kn en ops sub q n (L.drop k)=some (r,l)->∃(m:Nat)(n':Nd)(k':Nat)(e' CF:Int),B8 body m (ndT n k 0 ea)=some (.inl (ndT n' k' e' CF))/\k<=k'/\k'<=L.length/\match r with|.inl a=>l=L.drop k'/\n'=a/\e'=0/\CF=ea|.inr d=>d.err≠0/\Er L en k' l d/\e'=d.err/\CF=d.AO:=by
 intro q
 induction q with
 |zero=>intro n k r l _ h;cases h
 |succ q ih=>
  intro n k r l hk h;unfold Kn at h;rcases aZD h with ⟨x,hx,t,u,hs,ht,h⟩ | ⟨h0,h⟩
  obtain⟨g1,g2,g3⟩:=CS hs;subst g3;unfold A5 at h;split at h;cases h;rename_i b s hb;obtain⟨X,⟨k1,a1,a2,rfl,b',rfl,rfl⟩,hB⟩:=Hy n k t x _ _ g1 hs g2 hx ht hb;obtain⟨m,n',k',e',CF,c1,c2,c3,c4⟩:=ih _ k1 r l a2 h;refine⟨m+1,n',k',e',CF,?_,by omega,c3,c4⟩;show(body _).bind _=_;rw[hB];exact c1;rename_i d s hd;obtain⟨X,⟨k1,a1,a2,a3,a4,v,rfl⟩,hB⟩:=Hy n k t x _ _ g1 hs g2 hx ht hd;simp only[atS,aWN] at h;obtain⟨rfl,rfl⟩:=h;refine⟨2,v,k1,d.err,d.AO,?_,by omega,a2,a3,a4,rfl,rfl⟩;show(body _).bind _=_;rw[hB];show(body (ndT v k1 d.err d.AO)).bind _=_;rw[Hd v k1 d.err d.AO a3 a2];rfl;simp only[CX,atS,aWN] at h;obtain⟨rfl,rfl⟩:=h;refine⟨1,n,k,0,ea,?_,aWP k,hk,rfl,rfl,rfl,rfl⟩;show(body _).bind _=_;rw[Hn n k hk h0];rfl
theorem dG{F:Option (Nd×Int×Int×Int)}{m:Rd Nd}(hF:∀{r:Nd⊕Dg}{l:List Tk},m (L.drop k)=some (r,l)->Lv (·=·) L en ea k F r l)(hS:A5 m (λl s=>Kn en ops sub (s.length+1) l s) (L.drop k)=some (r,l)):Lv (·=·) L en ea k (F.bind λy=>(GJ body (ndT y.1 y.2.1 y.2.2.1 y.2.2.2)).bind (F0 (λt=>some (ndO t)) (λv=>some v))) r l:=by
 refine Cv hF (λa b k1 hab _ hk1 h1=>?_) (λv k' e CF he EM=>?_) hS
 ·subst hab
  obtain⟨m,n',k',e',CF,c1,c2,c3,c4⟩:=azW Hd Hn Hy _ _ _ _ _ hk1 h1;dsimp only;rw[BB c1];simp only[Uu,F0,aJO];refine⟨k',c2,c3,?_⟩;cases r with
  |inl a=>
   obtain⟨rfl,rfl,rfl,rfl⟩:=c4;exact⟨rfl,_,rfl,rfl⟩
  |inr d=>
   obtain⟨d1,d2,rfl,rfl⟩:=c4;exact⟨d1,d2,_,rfl⟩
 dsimp only
 rw[BB (n:=1) (r:=.inl (ndT v k' e CF)) (by
  show(body _).bind _=_;rw[Hd v k' e CF he EM];rfl)]
 simp only[Uu,F0,aJO];exact⟨_,rfl⟩
end
end
section
variable {L:List Tk}{k:Nat}{en ea:Int}(hw:∀t∈L,Rg t)(hL:L.length<=10000)(hk:k<=L.length){f1 f2 f3 f4 f5 f6 f7:FN}{g:GN}{sub:Rd Nd}
abbrev Sub(L:List Tk)(en ea:Int)(f:FN)(m:Rd Nd):Prop:=∀(k:Nat)(r:Nd⊕Dg)(l:List Tk),k<=L.length->m (L.drop k)=some (r,l)->Lv (·=·) L en ea k (f (Pz L k en 0 ea)) r l
theorem Yy{t:Tk}{x y:ByteArray}{u:List Tk}(h:t.text=x):Co y (t::u)=Bd x.data.toList y.data.toList:=by rw[<- h];rfl
include hw hL hk
theorem aNM(hF:Sub L en ea f2 sub){r:Nd⊕Dg}{l:List Tk}(hS:A5 sub (λl s=>Kn en (opsOf 0) sub (s.length+1) l s) (L.drop k)=some (r,l)):Lv (·=·) L en ea k (DG f1 f2 f3 f4 f5 f6 f7 g (Pz L k en 0 ea)) r l:=by
 have Hi:∀t∈L,Kw t:=λt ht=>(hw t ht).kw;refine dG (body:=λx=>Dl f1 f2 f3 f4 f5 f6 f7 g (Pz L k en 0 ea) x.1 x.2.1 x.2.2.1 x.2.2.2.1 x.2.2.2.2.1 x.2.2.2.2.2.1 x.2.2.2.2.2.2.1 x.2.2.2.2.2.2.2.1 x.2.2.2.2.2.2.2.2.1 x.2.2.2.2.2.2.2.2.2.1 x.2.2.2.2.2.2.2.2.2.2.1 x.2.2.2.2.2.2.2.2.2.2.2.1 x.2.2.2.2.2.2.2.2.2.2.2.2.1 x.2.2.2.2.2.2.2.2.2.2.2.2.2) (F:=f2 (Pz L k en 0 ea)) (λn k e ea he hk=>?_) (λn k hk h0=>?_) (λn k t x r l hk hd ht hx htx h=>?_) (hF k _ _ hk) hS;unfold Dl;have:=Jp (L:=L) (k:=k) (en:=en) (ea:=ea) he aH;dsimp only[Pz] at this ⊢;rw[this];rfl;unfold Dl;have:=Hh (k:=k) (en:=en) (ea:=ea) Hi hL (x:=aH) (by simp[Em]);rw[h0 aH (by simp[opsOf])] at this;dsimp only[Pz] at this ⊢;rw[this];rfl;have hx:x=aH:=by simpa[opsOf] using hx
 subst hx;refine⟨_,TJ (F:=f2 (Pz L (k+1) en 0 ea)) (g:=Y3 aH n) rfl (λr=>UE rfl rfl) (hF (k+1) _ _ hk) h,?_⟩;unfold Dl;have:=Hh (k:=k) (en:=en) (ea:=ea) Hi hL (x:=aH) (by simp[Em]);rw[hd,Yy htx] at this;have this:An (⟨L,(k:Int),en,0,ea⟩:Ps) aH=some (true,((k+1:Nat):Int)):=this;dsimp only[Pz];rw[this];simp only[Uu,cond];cases f2 ⟨L,((k+1:Nat):Int),en,0,ea⟩ with|none=>rfl|some y=>cases n;rfl
theorem aUH(hF:Sub L en ea f3 sub){r:Nd⊕Dg}{l:List Tk}(hS:A5 sub (λl s=>Kn en (opsOf 1) sub (s.length+1) l s) (L.drop k)=some (r,l)):Lv (·=·) L en ea k (Ef f1 f2 f3 f4 f5 f6 f7 g (Pz L k en 0 ea)) r l:=by
 have Hi:∀t∈L,Kw t:=λt ht=>(hw t ht).kw;refine dG (body:=λx=>DF f1 f2 f3 f4 f5 f6 f7 g (Pz L k en 0 ea) x.1 x.2.1 x.2.2.1 x.2.2.2.1 x.2.2.2.2.1 x.2.2.2.2.2.1 x.2.2.2.2.2.2.1 x.2.2.2.2.2.2.2.1 x.2.2.2.2.2.2.2.2.1 x.2.2.2.2.2.2.2.2.2.1 x.2.2.2.2.2.2.2.2.2.2.1 x.2.2.2.2.2.2.2.2.2.2.2.1 x.2.2.2.2.2.2.2.2.2.2.2.2.1 x.2.2.2.2.2.2.2.2.2.2.2.2.2) (F:=f3 (Pz L k en 0 ea)) (λn k e ea he hk=>?_) (λn k hk h0=>?_) (λn k t x r l hk hd ht hx htx h=>?_) (hF k _ _ hk) hS;unfold DF;have:=Jp (L:=L) (k:=k) (en:=en) (ea:=ea) he MI;dsimp only[Pz] at this ⊢;rw[this];rfl;unfold DF;have:=Hh (k:=k) (en:=en) (ea:=ea) Hi hL (x:=MI) (by simp[Em]);rw[h0 MI (by simp[opsOf])] at this;dsimp only[Pz] at this ⊢;rw[this];rfl;have hx:x=MI:=by simpa[opsOf] using hx
 subst hx;refine⟨_,TJ (F:=f3 (Pz L (k+1) en 0 ea)) (g:=Y3 MI n) rfl (λr=>UE rfl rfl) (hF (k+1) _ _ hk) h,?_⟩;unfold DF;have:=Hh (k:=k) (en:=en) (ea:=ea) Hi hL (x:=MI) (by simp[Em]);rw[hd,Yy htx] at this;have this:An (⟨L,(k:Int),en,0,ea⟩:Ps) MI=some (true,((k+1:Nat):Int)):=this;dsimp only[Pz];rw[this];simp only[Uu,cond];cases f3 ⟨L,((k+1:Nat):Int),en,0,ea⟩ with|none=>rfl|some y=>cases n;rfl
theorem baI(hF:Sub L en ea f6 sub){r:Nd⊕Dg}{l:List Tk}(hS:A5 sub (λl s=>Kn en (opsOf 4) sub (s.length+1) l s) (L.drop k)=some (r,l)):Lv (·=·) L en ea k (Eg f1 f2 f3 f4 f5 f6 f7 g (Pz L k en 0 ea)) r l:=by
 have Hi:∀t∈L,Kw t:=λt ht=>(hw t ht).kw;refine dG (body:=λx=>C9 f1 f2 f3 f4 f5 f6 f7 g (Pz L k en 0 ea) x.1 x.2.1 x.2.2.1 x.2.2.2.1 x.2.2.2.2.1 x.2.2.2.2.2.1 x.2.2.2.2.2.2.1 x.2.2.2.2.2.2.2.1 x.2.2.2.2.2.2.2.2.1 x.2.2.2.2.2.2.2.2.2.1 x.2.2.2.2.2.2.2.2.2.2.1 x.2.2.2.2.2.2.2.2.2.2.2.1 x.2.2.2.2.2.2.2.2.2.2.2.2.1 x.2.2.2.2.2.2.2.2.2.2.2.2.2) (F:=f6 (Pz L k en 0 ea)) (λn k e ea he hk=>?_) (λn k hk h0=>?_) (λn k t x r l hk hd ht hx htx h=>?_) (hF k _ _ hk) hS;unfold C9;have:=λx=>xH (L:=L) (k:=k) (en:=en) (ea:=ea) he x;dsimp only[Pz] at this ⊢;rw[this,this];rfl;unfold C9;have h1:=X9 (k:=k) (en:=en) (ea:=ea) Hi (x:=Mc) (by simp[Em]);have h2:=X9 (k:=k) (en:=en) (ea:=ea) Hi (x:=J5) (by simp[Em]);rw[h0 Mc (by simp[opsOf])] at h1;rw[h0 J5 (by simp[opsOf])] at h2;dsimp only[Pz] at h1 h2 ⊢;rw[h1,h2];rfl;have h1:=X9 (k:=k) (en:=en) (ea:=ea) Hi (x:=Mc) (by simp[Em]);have h2:=X9 (k:=k) (en:=en) (ea:=ea) Hi (x:=J5) (by simp[Em]);rw[hd,Yy htx] at h1 h2;have hx:x=Mc\/x=J5:=by simpa[opsOf] using hx
 rcases hx with rfl | rfl
 refine⟨_,TJ (F:=f6 (Pz L (k+1) en 0 ea)) (g:=Y3 Mc n) rfl (λr=>UE rfl rfl) (hF (k+1) _ _ hk) h,?_⟩;unfold C9;have h1:Av (⟨L,(k:Int),en,0,ea⟩:Ps) Mc=some true:=h1;dsimp only[Pz];rw[h1,EB,ht,wk1 (by omega) hL];simp only[Uu,cond,htx];cases f6 ⟨L,((k+1:Nat):Int),en,0,ea⟩ with|none=>rfl|some y=>cases n;rfl
 refine⟨_,TJ (F:=f6 (Pz L (k+1) en 0 ea)) (g:=Y3 J5 n) rfl (λr=>UE rfl rfl) (hF (k+1) _ _ hk) h,?_⟩;unfold C9;have h1:Av (⟨L,(k:Int),en,0,ea⟩:Ps) Mc=some false:=h1;have h2:Av (⟨L,(k:Int),en,0,ea⟩:Ps) J5=some true:=h2;dsimp only[Pz];rw[h1,h2,EB,ht,wk1 (by omega) hL];simp only[Uu,cond,htx];cases f6 ⟨L,((k+1:Nat):Int),en,0,ea⟩ with|none=>rfl|some y=>cases n;rfl
end
section
variable {L:List Tk}{k:Nat}{en ea:Int}(hw:∀t∈L,Rg t)(hL:L.length<=10000)(hk:k<=L.length){f1 f2 f3 f4 f5 f6 f7:FN}{g:GN}{sub:Rd Nd}
include hw hL hk
theorem aEL{n:Nd}{r:Nd⊕Dg}{l:List Tk}(h:ND en sub DP n (L.drop k)=some (r,l)):Lv (·=·) L en ea k ((As (Pz L k en 0 ea) 1 1000000).bind λy=>some (Y3 DP n (Dd 11 bE BH y.1 [] (EP en (L.drop k))),y.2.1,y.2.2.1,y.2.2.2)) r l:=by unfold ND at h;rw[show Bd DP.data.toList DP.data.toList=true from rfl] at h;simp only[cond] at h;refine Cv (λh=>SB hw hL hk h) (λa b k1 hab _ hk1 h1=>?_) (λv k' e CF he EM=>⟨_,rfl⟩) h;subst hab;simp only[H9,UE (x:=DP) rfl rfl] at h1;exact J0 hk1 rfl h1
theorem aSJ(hF:Sub L en ea f7 sub){r:Nd⊕Dg}{l:List Tk}(hS:A5 sub (λl s=>Kn en (opsOf 5) sub (s.length+1) l s) (L.drop k)=some (r,l)):Lv (·=·) L en ea k (DI f1 f2 f3 f4 f5 f6 f7 g (Pz L k en 0 ea)) r l:=by
 have Hi:∀t∈L,Kw t:=λt ht=>(hw t ht).kw;refine dG (body:=λx=>CC f1 f2 f3 f4 f5 f6 f7 g (Pz L k en 0 ea) x.1 x.2.1 x.2.2.1 x.2.2.2.1 x.2.2.2.2.1 x.2.2.2.2.2.1 x.2.2.2.2.2.2.1 x.2.2.2.2.2.2.2.1 x.2.2.2.2.2.2.2.2.1 x.2.2.2.2.2.2.2.2.2.1 x.2.2.2.2.2.2.2.2.2.2.1 x.2.2.2.2.2.2.2.2.2.2.2.1 x.2.2.2.2.2.2.2.2.2.2.2.2.1 x.2.2.2.2.2.2.2.2.2.2.2.2.2) (F:=f7 (Pz L k en 0 ea)) (λn k e ea he hk=>?_) (λn k hk h0=>?_) (λn k t x r l hk hd ht hx htx h=>?_) (hF k _ _ hk) hS;unfold CC;have:=λx=>xH (L:=L) (k:=k) (en:=en) (ea:=ea) he x;dsimp only[Pz] at this ⊢;rw[this,this,this];rfl;unfold CC;have h1:=X9 (k:=k) (en:=en) (ea:=ea) Hi (x:=Oz) (by simp[Em]);have h2:=X9 (k:=k) (en:=en) (ea:=ea) Hi (x:=DP) (by simp[Em]);have h3:=X9 (k:=k) (en:=en) (ea:=ea) Hi (x:=bC) (by simp[Em]);rw[h0 Oz (by simp[opsOf])] at h1;rw[h0 DP (by simp[opsOf])] at h2;rw[h0 bC (by simp[opsOf])] at h3;dsimp only[Pz] at h1 h2 h3 ⊢;rw[h1,h2,h3];rfl;have h1:=X9 (k:=k) (en:=en) (ea:=ea) Hi (x:=Oz) (by simp[Em]);have h2:=X9 (k:=k) (en:=en) (ea:=ea) Hi (x:=DP) (by simp[Em]);have h3:=X9 (k:=k) (en:=en) (ea:=ea) Hi (x:=bC) (by simp[Em]);rw[hd,Yy htx] at h1 h2 h3;have hx:x=Oz\/x=DP\/x=bC:=by simpa[opsOf] using hx
 have wk:=wk1 (k:=k) (L:=L) (by omega) hL;rcases hx with rfl | rfl | rfl
 refine⟨_,TJ (F:=f7 (Pz L (k+1) en 0 ea)) (g:=Y3 Oz n) rfl (λr=>UE rfl rfl) (hF (k+1) _ _ hk) h,?_⟩;unfold CC;have h1:Av (⟨L,(k:Int),en,0,ea⟩:Ps) Oz=some true:=h1;dsimp only[Pz];rw[h1,EB,ht,wk];simp only[Uu,cond,htx];rw[show Bd Oz.data.toList DP.data.toList=false from rfl];simp only;cases f7 ⟨L,((k+1:Nat):Int),en,0,ea⟩ with|none=>rfl|some y=>cases n;rfl
 refine⟨_,aEL hw hL hk h,?_⟩;unfold CC;have h1:Av (⟨L,(k:Int),en,0,ea⟩:Ps) Oz=some false:=h1;have h2:Av (⟨L,(k:Int),en,0,ea⟩:Ps) DP=some true:=h2;have h4:=IP (L:=L) (en:=en) (e:=0) (ea:=ea) hk;dsimp only[Pz] at h4 ⊢;rw[h1,h2,EB,ht,wk,h4];simp only[Uu,cond,htx];rw[show Bd DP.data.toList DP.data.toList=true from rfl];simp only;cases As (⟨L,((k+1:Nat):Int),en,0,ea⟩:Ps) 1 1000000 with|none=>rfl|some y=>cases n;rfl
 refine⟨_,TJ (F:=f7 (Pz L (k+1) en 0 ea)) (g:=Y3 bC n) rfl (λr=>UE rfl rfl) (hF (k+1) _ _ hk) h,?_⟩;unfold CC;have h1:Av (⟨L,(k:Int),en,0,ea⟩:Ps) Oz=some false:=h1;have h2:Av (⟨L,(k:Int),en,0,ea⟩:Ps) DP=some false:=h2;have h3:Av (⟨L,(k:Int),en,0,ea⟩:Ps) bC=some true:=h3;dsimp only[Pz];rw[h1,h2,h3,EB,ht,wk];simp only[Uu,cond,htx];rw[show Bd bC.data.toList DP.data.toList=false from rfl];simp only;cases f7 ⟨L,((k+1:Nat):Int),en,0,ea⟩ with|none=>rfl|some y=>cases n;rfl
theorem aYV{aSD:Rd Nd}(h3:Sub L en ea f3 aSD)(h4:Sub L en ea f4 sub)(hd4:∀(k:Nat)(e ea:Int),e≠0->k<=L.length->∃v,f3 (⟨L,(k:Int),en,e,ea⟩:Ps)=some (v,(k:Int),e,ea)){r:Nd⊕Dg}{l:List Tk}
   (hS:cond (Co Th (L.drop k)) (A5 (Ff en Th) (λt=>A5 aSD λn=>CX (Dd 15 bE bE 0 [n] t.AO)) (L.drop k)) (sub (L.drop k))=some (r,l)):Lv (·=·) L en ea k (Dt f1 f2 f3 f4 f5 f6 f7 g (Pz L k en 0 ea)) r l:=by
 have Hi:∀t∈L,Kw t:=λt ht=>(hw t ht).kw;unfold Dt;rw[IP hk];have ht:=Hh (k:=k) (en:=en) (ea:=ea) Hi hL (x:=Th) (by simp[Em]);rw[ht];simp only[Uu];cases hq:Co Th (L.drop k) with
 |true=>
  rw[hq] at hS;obtain⟨t,u,q1,q2,q3⟩:=agA (en:=en) hq;obtain⟨g1,g2,g3⟩:=CS q1;simp only[cond] at hS;unfold A5 at hS;rw[q2] at hS;simp only at hS;rw[<- g3] at hS;have hS:A5 aSD (λn=>CX (Dd 15 bE bE 0 [n] t.AO)) (L.drop (k+1))=some (r,l):=hS;simp only[cond];refine Ly (biC k) (Cv (h3 (k+1) _ _ g1) (λa b k1 hab _ hk1 h1=>?_) (λv k' e CF he EM=>⟨_,rfl⟩) hS);subst hab;refine J0 hk1 ?_ h1;rw[q1];rfl
 |false=>
  rw[hq] at hS;simp only[cond] at hS ⊢;obtain⟨k',a1,a2,a3⟩:=h4 k r l hk hS;refine⟨k',a1,a2,?_⟩;cases r with
  |inl a=>
   obtain⟨b1,b,rfl,b3⟩:=a3;dsimp only[Pz] at b3;exact⟨b1,a,rfl,by rw[b3];rfl⟩
  |inr d=>
   obtain⟨b1,b2,v,b3⟩:=a3;dsimp only[Pz] at b3;exact⟨b1,b2,v,by rw[b3];rfl⟩
theorem aMY(hF:Sub L en ea f5 sub){r:Nd⊕Dg}{l:List Tk}(hS:A5 sub (λn=>opR (λop=>ND en sub op n) (CX n) (opsOf 3)) (L.drop k)=some (r,l)):Lv (·=·) L en ea k (C8 f1 f2 f3 f4 f5 f6 f7 g (Pz L k en 0 ea)) r l:=by
 have Hi:∀t∈L,Kw t:=λt ht=>(hw t ht).kw;unfold C8;refine Cv (hF k _ _ hk) (λn b k1 hab _ hk1 h1=>?_) (λv k' e CF he EM=>?_) hS
 ·subst hab
  dsimp only
  have no:∀(i j:Int)(x:ByteArray),Cy i 4=true->Dk [Ec,ES,ID,EE] i=some x->A1 i 1=j->x∈Em->Co x (L.drop k1)=false->Au f1 f2 f3 f4 f5 f6 f7 g (Pz L k en 0 ea) n 0 ea i (k1:Int)=some (.nx (j,(k1:Int))):=λi j x h2 h4 h5 hx hs=>by
   unfold Au;have:=Hh (k:=k1) (en:=en) (ea:=ea) Hi hL hx;rw[hs] at this;dsimp only[Pz] at this ⊢;rw[h2,h4];simp only[cond,Uu];rw[this];simp only[cond,Uu,h5]
  have yes:∀(i:Int)(x:ByteArray),Cy i 4=true->Dk [Ec,ES,ID,EE] i=some x->x∈Em->Co x (L.drop k1)=true->Au f1 f2 f3 f4 f5 f6 f7 g (Pz L k en 0 ea) n 0 ea i (k1:Int)=((f5 (Pz L (k1+1) en 0 ea)).bind λy=>some (Y3 x n y.1,y.2.1,y.2.2.1,y.2.2.2)).bind λy=>some (.rt y):=λi x h2 h4 hx hs=>by
   unfold Au;have:=Hh (k:=k1) (en:=en) (ea:=ea) Hi hL hx;rw[hs] at this;dsimp only[Pz] at this ⊢;rw[h2,h4];simp only[cond,Uu];rw[this];simp only[cond,Uu];cases f5 ⟨L,((k1+1:Nat):Int),en,0,ea⟩ with|none=>rfl|some y=>rfl
  have io:∀{i j:Int}{m:Nat} {z},Au f1 f2 f3 f4 f5 f6 f7 g (Pz L k en 0 ea) n 0 ea i (k1:Int)=some (.nx (j,(k1:Int)))->B8 (λx:Int×Int=>Au f1 f2 f3 f4 f5 f6 f7 g (Pz L k en 0 ea) n 0 ea x.1 x.2) m (j,(k1:Int))=z->B8 (λx:Int×Int=>Au f1 f2 f3 f4 f5 f6 f7 g (Pz L k en 0 ea) n 0 ea x.1 x.2) (m+1) (i,(k1:Int))=z:=λ{i j m z} h hz=>by
   show(Au f1 f2 f3 f4 f5 f6 f7 g (Pz L k en 0 ea) n 0 ea i (k1:Int)).bind _=_;rw[h];exact hz
  have fin:∀{X:Option (Nd×Int×Int×Int)}{m:Nat},Lv (·=·) L en ea (k1+1) X r l->(∀y,X=some y->B8 (λx:Int×Int=>Au f1 f2 f3 f4 f5 f6 f7 g (Pz L k en 0 ea) n 0 ea x.1 x.2) m (0,(k1:Int))=some (.inr y))->∀K:Int->Option (Nd×Int×Int×Int),Lv (·=·) L en ea k1 ((GJ (λx:Int×Int=>Au f1 f2 f3 f4 f5 f6 f7 g (Pz L k en 0 ea) n 0 ea x.1 x.2) (0,(k1:Int))).bind (F0 K (λv=>some v))) r l:=λ{X m} hX hm K=>by
   obtain⟨k',a1,a2,a3⟩:=hX;refine⟨k',by omega,a2,?_⟩;cases r with
   |inl a=>
    obtain⟨b1,b,rfl,b3⟩:=a3;exact⟨b1,a,rfl,by rw[BB (hm _ b3)];rfl⟩
   |inr d=>
    obtain⟨b1,b2,v,b3⟩:=a3;exact⟨b1,b2,v,by rw[BB (hm _ b3)];rfl⟩
  rcases aZD h1 with ⟨x,hx,t,u,hs,htx,h⟩ | ⟨h0,h⟩
  obtain⟨g1,g2,g3⟩:=CS hs;subst g3;have SL:∀y,Co y (L.drop k1)=Bd x.data.toList y.data.toList:=λy=>by rw[hs];exact Yy htx
  have rl:∀g:Nd->Nd,Bd x.data.toList DP.data.toList=false->(∀r,AU x n r=some (g r))->Lv (·=·) L en ea (k1+1) ((f5 (Pz L (k1+1) en 0 ea)).bind λy=>some (g y.1,y.2.1,y.2.2.1,y.2.2.2)) r l:=λg hx hb=>TJ hx hb (hF (k1+1) _ _ g1) h;have hx:x=Ec\/x=ES\/x=ID\/x=EE\/x=Md\/x=IT:=by simpa[opsOf] using hx
  rcases hx with rfl | rfl | rfl | rfl | rfl | rfl
  refine fin (m:=1) (rl (Y3 Ec n) rfl (λr=>UE rfl rfl)) (λy hy=>?_) _;show(Au f1 f2 f3 f4 f5 f6 f7 g (Pz L k en 0 ea) n 0 ea 0 (k1:Int)).bind _=_;rw[yes 0 Ec rfl rfl (by simp[Em]) (SL _),hy];rfl;refine fin (m:=2) (rl (Y3 ES n) rfl (λr=>UE rfl rfl)) (λy hy=>?_) _;refine io (no 0 1 Ec rfl rfl rfl (by simp[Em]) (SL _)) ?_;show(Au f1 f2 f3 f4 f5 f6 f7 g (Pz L k en 0 ea) n 0 ea 1 (k1:Int)).bind _=_;rw[yes 1 ES rfl rfl (by simp[Em]) (SL _),hy];rfl;refine fin (m:=3) (rl (Y3 ID n) rfl (λr=>UE rfl rfl)) (λy hy=>?_) _;refine io (no 0 1 Ec rfl rfl rfl (by simp[Em]) (SL _)) (io (no 1 2 ES rfl rfl rfl (by simp[Em]) (SL _)) ?_);show(Au f1 f2 f3 f4 f5 f6 f7 g (Pz L k en 0 ea) n 0 ea 2 (k1:Int)).bind _=_;rw[yes 2 ID rfl rfl (by simp[Em]) (SL _),hy];rfl;refine fin (m:=4) (rl (Y3 EE n) rfl (λr=>UE rfl rfl)) (λy hy=>?_) _;refine io (no 0 1 Ec rfl rfl rfl (by simp[Em]) (SL _)) (io (no 1 2 ES rfl rfl rfl (by simp[Em]) (SL _)) (io (no 2 3 ID rfl rfl rfl (by simp[Em]) (SL _)) ?_));show(Au f1 f2 f3 f4 f5 f6 f7 g (Pz L k en 0 ea) n 0 ea 3 (k1:Int)).bind _=_;rw[yes 3 EE rfl rfl (by simp[Em]) (SL _),hy];rfl
  have h4:B8 (λx:Int×Int=>Au f1 f2 f3 f4 f5 f6 f7 g (Pz L k en 0 ea) n 0 ea x.1 x.2) 5 (0,(k1:Int))=some (.inl (k1:Int)) :=
   io (no 0 1 Ec rfl rfl rfl (by simp[Em]) (SL _)) (io (no 1 2 ES rfl rfl rfl (by simp[Em]) (SL _)) (io (no 2 3 ID rfl rfl rfl (by simp[Em]) (SL _)) (io (no 3 4 EE rfl rfl rfl (by simp[Em]) (SL _)) rfl)))
  rw[BB h4];simp only[Uu,F0];have ht:=Hh (k:=k1) (en:=en) (ea:=ea) Hi hL (x:=Md) (by simp[Em]);rw[SL] at ht
  have xA:=rl (λr=>(⟨16,ID,gT,0,0,0,0,⟨0,[]⟩,[r,n],n.AO⟩:Nd)) rfl (λr=>by
   unfold AU;rw[show Bd Md.data.toList Md.data.toList=true from rfl,show Me Md Md ID 1=some ID from rfl];rfl)
  refine Ly (biC k1) ?_;dsimp only[Pz] at ht xA ⊢;rw[ht];exact xA
  have h4:B8 (λx:Int×Int=>Au f1 f2 f3 f4 f5 f6 f7 g (Pz L k en 0 ea) n 0 ea x.1 x.2) 5 (0,(k1:Int))=some (.inl (k1:Int)) :=
   io (no 0 1 Ec rfl rfl rfl (by simp[Em]) (SL _)) (io (no 1 2 ES rfl rfl rfl (by simp[Em]) (SL _)) (io (no 2 3 ID rfl rfl rfl (by simp[Em]) (SL _)) (io (no 3 4 EE rfl rfl rfl (by simp[Em]) (SL _)) rfl)))
  rw[BB h4];simp only[Uu,F0];have ht:=Hh (k:=k1) (en:=en) (ea:=ea) Hi hL (x:=Md) (by simp[Em]);have iC:=Hh (k:=k1) (en:=en) (ea:=ea) Hi hL (x:=IT) (by simp[Em]);rw[SL] at ht iC
  have xA:=rl (λr=>(⟨16,EE,gT,0,0,0,0,⟨0,[]⟩,[r,n],n.AO⟩:Nd)) rfl (λr=>by
   unfold AU;rw[show Bd IT.data.toList Md.data.toList=false from rfl,show Bd IT.data.toList IT.data.toList=true from rfl,show Me IT Md ID 1=some EE from rfl];rfl)
  refine Ly (biC k1) ?_;have ht:An (⟨L,(k1:Int),en,0,ea⟩:Ps) Md=some (false,(k1:Int)):=ht;dsimp only[Pz] at iC xA ⊢;rw[ht];simp only[Uu,cond];rw[iC];exact xA
  have h4:B8 (λx:Int×Int=>Au f1 f2 f3 f4 f5 f6 f7 g (Pz L k en 0 ea) n 0 ea x.1 x.2) 5 (0,(k1:Int))=some (.inl (k1:Int)) :=
   io (no 0 1 Ec rfl rfl rfl (by simp[Em]) (h0 _ (by simp[opsOf]))) (io (no 1 2 ES rfl rfl rfl (by simp[Em]) (h0 _ (by simp[opsOf]))) (io (no 2 3 ID rfl rfl rfl (by simp[Em]) (h0 _ (by simp[opsOf]))) (io (no 3 4 EE rfl rfl rfl (by simp[Em]) (h0 _ (by simp[opsOf]))) rfl)))
  rw[BB h4];simp only[Uu,F0];have ht:=Hh (k:=k1) (en:=en) (ea:=ea) Hi hL (x:=Md) (by simp[Em]);have iC:=Hh (k:=k1) (en:=en) (ea:=ea) Hi hL (x:=IT) (by simp[Em]);rw[h0 Md (by simp[opsOf])] at ht;rw[h0 IT (by simp[opsOf])] at iC;dsimp only[Pz] at ht iC ⊢;rw[ht];simp only[Uu,cond];rw[iC];exact J0 hk1 rfl h
 have n4:=λs=>Jp (L:=L) (k:=k') (en:=en) (ea:=CF) he s;dsimp only[Pz] at n4 ⊢
 have st:∀(i j:Int)(x:ByteArray),Cy i 4=true->Dk [Ec,ES,ID,EE] i=some x->A1 i 1=j->Au f1 f2 f3 f4 f5 f6 f7 g (⟨L,(k:Int),en,0,ea⟩:Ps) v e CF i (k':Int)=some (.nx (j,(k':Int))):=λi j x h3 h4 h5=>by
  unfold Au;rw[h3,h4];simp only[cond,Uu,n4,h5]
 rw[BB (n:=5) (r:=.inl (k':Int)) (by
  show(Au _ _ _ _ _ _ _ _ _ _ _ _ _ _).bind _=_;rw[st 0 1 Ec rfl rfl rfl];show(Au _ _ _ _ _ _ _ _ _ _ _ _ _ _).bind _=_;rw[st 1 2 ES rfl rfl rfl];show(Au _ _ _ _ _ _ _ _ _ _ _ _ _ _).bind _=_;rw[st 2 3 ID rfl rfl rfl];show(Au _ _ _ _ _ _ _ _ _ _ _ _ _ _).bind _=_;rw[st 3 4 EE rfl rfl rfl];rfl)]
 simp only[Uu,F0,n4,cond];exact⟨_,rfl⟩
end
def xS(en:Int)(ex:Rd Nd)(li:Rd (List Nd)):Rd (List Nd):=A5 (Ff en Ni) λ_=>A5 ex λa=>A5 (Ff en KG) λ_=>A5 li λl=>Lq (1+l.length)<|A5 (Ff en NB) λ_=>CX (a::l)
theorem apF(en:Int)(g:Ek->Rd Nd)(li:Rd (List Nd)):fR en g li=Sd en λt=>Nl (A5 (xS en (g .ex) li) λl=>CX (Dd 17 t.text bE 0 l t.AO)):=by unfold fR xS;simp only[Xa,yW,yX]
theorem amD{α β:Type}{m m2:Rd α}{K:α->Rd β}(h:∀s y,m s=some y->m2 s=some y){s:List Tk}{y:(β⊕Dg)×List Tk}(hS:A5 m K s=some y):A5 m2 K s=some y:=by
 unfold A5 at hS ⊢;cases hm:m s with
 |none=>rw[hm] at hS;cases hS
 |some z=>
  rw[hm] at hS;rw[h _ _ hm];exact hS
abbrev LiN(f1 f2 f3 f4 f5 f6 f7:FN)(g:GN)(p:Ps):=B8 (λx:List Nd×Int×Int×Int=>Bz f1 f2 f3 f4 f5 f6 f7 g p x.1 x.2.1 x.2.2.1 x.2.2.2)
section
variable {L:List Tk}{k:Nat}{en ea:Int}(hw:∀t∈L,Rg t)(hL:L.length<=10000)(hk:k<=L.length){f1 f2 f3 f4 f5 f6 f7:FN}{g:GN}
include hw hL
theorem atV{p:Ps}(hp1:p.l=L)(hp2:p.end_=en)(a:Nd){read:Rd Nd}(hr:Sub L en ea f1 read):∀(q:Nat)(ns:List Nd)(k:Nat) (r:(List Nd)⊕Dg) (l:List Tk),k<=L.length->ns.length+q<=100000->Re read q ns (L.drop k)=some (r,l) ->
 ∃(m:Nat)(out:List Nd)(k':Nat)(e' CF:Int),LiN f1 f2 f3 f4 f5 f6 f7 g p m (a::ns,(k:Int),0,ea)=some (.inl (out,(k':Int),e',CF))/\k<=k'/\k'<=L.length/\match r with|.inl x=>l=L.drop k'/\out=a::x/\e'=0/\CF=ea|.inr d=>d.err≠0/\Er L en k' l d/\e'=d.err/\CF=d.AO:=by
 have Hi:∀t∈L,Kw t:=λt ht=>(hw t ht).kw;subst hp1 hp2;intro q
 induction q with
 |zero=>intro ns k r l _ _ h;cases h
 |succ q ih=>
  intro ns k r l hk hq h;have ht:=Hh (k:=k) (en:=p.end_) (ea:=ea) Hi hL (x:=KG) (by simp[Em])
  have Dc:Bz f1 f2 f3 f4 f5 f6 f7 g p (a::ns) (k:Int) 0 ea=cond (Co KG (p.l.drop k)) ((f1 (⟨p.l,((k+1:Nat):Int),p.end_,0,ea⟩:Ps)).bind λy=>G8 ((a::ns).length+1) (some (.nx (a::ns++[y.1],y.2.1,y.2.2.1,y.2.2.2)))) (some (.ex (a::ns,(k:Int),0,ea))):=by unfold Bz;dsimp only[Pz] at ht;rw[ht];cases Co KG (p.l.drop k)<;>rfl
  unfold Re NC at h;cases hc:Co KG (p.l.drop k) with
  |false=>
   rw[hc] at h Dc;simp only[cond,CX,atS,aWN] at h;obtain⟨rfl,rfl⟩:=h;refine⟨1,a::ns,k,0,ea,?_,aWP k,hk,rfl,rfl,rfl,rfl⟩;show(Bz f1 f2 f3 f4 f5 f6 f7 g p (a::ns) (k:Int) 0 ea).bind _=_;rw[Dc];rfl
  |true=>
   rw[hc] at h Dc;cases hd:p.l.drop k with
   |nil=>rw[hd] at hc;cases hc
   |cons t u=>
    obtain⟨g1,g2,g3⟩:=CS hd;subst g3;rw[hd] at h;simp only[cond,Nl] at h;simp only[cond] at Dc;unfold A5 at h;split at h;cases h;rename_i b s hb;obtain⟨k1,b1,b2,rfl,b',rfl,b4⟩:=hr (k+1) _ _ g1 hb;dsimp only[Pz] at b4;rw[b4] at Dc;simp only[Uu] at Dc;rw[B1 (by simp only[bhE];omega)] at Dc;unfold Lq at h;dsimp only at h;rw[B1 (by omega)] at h;obtain⟨m,out,k',e',CF,c1,c2,c3,c4⟩:=ih (ns++[b]) k1 r l b2 (by simp only[aWQ,bhF];omega) h;refine⟨m+1,out,k',e',CF,?_,by omega,c3,c4⟩;show(Bz f1 f2 f3 f4 f5 f6 f7 g p (a::ns) (k:Int) 0 ea).bind _=_;rw[Dc];exact c1;rename_i d s hd2;obtain⟨k1,b1,b2,b3,b4,v,b5⟩:=hr (k+1) _ _ g1 hd2;dsimp only[Pz] at b5;rw[b5] at Dc;simp only[Uu] at Dc;rw[B1 (by simp only[bhE];omega)] at Dc;simp only[atS,aWN] at h;obtain⟨rfl,rfl⟩:=h;refine⟨2,a::ns++[v],k1,d.err,d.AO,?_,by omega,b2,b3,b4,rfl,rfl⟩;show(Bz f1 f2 f3 f4 f5 f6 f7 g p (a::ns) (k:Int) 0 ea).bind _=_;rw[Dc];simp only[Uu,MK];show(Bz f1 f2 f3 f4 f5 f6 f7 g p (a::ns++[v]) (k1:Int) d.err d.AO).bind _=_;unfold Bz;have iC:=Jp (L:=p.l) (k:=k1) (en:=p.end_) (ea:=d.AO) b3 KG;dsimp only[Pz] at iC;rw[iC];rfl
include hk
theorem aPU{ex ex2:Rd Nd}{li:Rd (List Nd)}(hli:∀s y,li s=some y->P9 ex2 s=some y)(hE:Sub L en ea f1 ex)(hE2:Sub L en ea f1 ex2)(hd1:∀(k:Nat)(e ea:Int),e≠0->k<=L.length->∃v,f1 (⟨L,(k:Int),en,e,ea⟩:Ps)=some (v,(k:Int),e,ea)){r:(List Nd)⊕Dg}{l:List Tk}(hS:xS en ex li (L.drop k)=some (r,l)):Lv (·=·) L en ea k (EG f1 f2 f3 f4 f5 f6 f7 g (Pz L k en 0 ea)) r l:=by
 have Hi:∀t∈L,Kw t:=λt ht=>(hw t ht).kw;have D1:∀(s:ByteArray)(k:Nat)(e ea:Int),e≠0->k<=L.length->Ab (⟨L,(k:Int),en,e,ea⟩:Ps) s=some ((),(k:Int),e,ea):=λs k e ea he hk=>Ks he hk s
 have D2:∀(p:Ps)(out:List Nd)(k:Nat)(e ea:Int),e≠0->k<=L.length->p.l=L->p.end_=en->GJ (λx:List Nd×Int×Int×Int=>Bz f1 f2 f3 f4 f5 f6 f7 g p x.1 x.2.1 x.2.2.1 x.2.2.2) (out,(k:Int),e,ea)=some (.inl (out,(k:Int),e,ea)):=λp out k e ea he hk h1 h2=>by
  subst h1 h2;refine BB (n:=1) ?_;show(Bz f1 f2 f3 f4 f5 f6 f7 g p out (k:Int) e ea).bind _=_;unfold Bz;have iC:=Jp (L:=p.l) (k:=k) (en:=p.end_) (ea:=ea) he KG;dsimp only[Pz] at iC;rw[iC];rfl
 unfold EG;unfold xS at hS;refine Cv (λh=>Io Hi hL hk (by simp[Em]) h) (λt _ k1 ht _ hk1 h1=>?_) (λv k' e CF he EM=>?_) hS;refine Cv (hE k1 _ _ hk1) (λa a' k2 ha _ hk2 h2=>?_) (λv k' e CF he EM=>?_) h1;subst ha;refine Cv (λh=>Io Hi hL hk2 (by simp[Em]) h) (λ_ _ k3 _ _ hk3 h3=>?_) (λv k' e CF he EM=>?_) h2;have h3:=amD hli h3;unfold P9 at h3;rw[Xa] at h3;refine Cv (hE2 k3 _ _ hk3) (λb b' k4 hb _ wY h4=>?_) (λv k' e CF he EM=>?_) h3;subst hb;dsimp only;rw[B1 (by simp)];unfold A5 at h4;split at h4;cases h4;rename_i ns s hns;obtain⟨m,out,k',e',CF,c1,c2,c3,rfl,rfl,rfl,rfl⟩:=atV (f2:=f2) (f3:=f3) (f4:=f4) (f5:=f5) (f6:=f6) (f7:=f7) (g:=g) hw hL (p:=Pz L k en 0 ea) rfl rfl a hE2 _ [b] k4 _ _ wY (by simp only[bhI,bhF];omega) hns;have c1:LiN f1 f2 f3 f4 f5 f6 f7 g (Pz L k en 0 CF) m ([a]++[b],(k4:Int),0,CF)=_:=c1;rw[BB c1];simp only[Uu,F0];refine Ly c2 ?_;unfold Lq G8 at h4;dsimp only at h4;split at h4;refine Cv (λh=>Io Hi hL c3 (by simp[Em]) h) (λ_ _ k6 _ _ hk6 h6=>?_) (λv k' e CF he EM=>⟨_,rfl⟩) h4;exact J0 hk6 rfl h6;cases h4;rename_i d s hd;obtain⟨m,out,k',e',CF,c1,c2,c3,c4,c5,rfl,rfl⟩:=atV (f2:=f2) (f3:=f3) (f4:=f4) (f5:=f5) (f6:=f6) (f7:=f7) (g:=g) hw hL (p:=Pz L k en 0 ea) rfl rfl a hE2 _ [b] k4 _ _ wY (by simp only[bhI,bhF];omega) hd;simp only[atS,aWN] at h4;obtain⟨rfl,rfl⟩:=h4;have c1:LiN f1 f2 f3 f4 f5 f6 f7 g (Pz L k en 0 ea) m ([a]++[b],(k4:Int),0,ea)=_:=c1;rw[BB c1];simp only[Uu,F0];refine⟨k',c2,c3,c4,c5,out,?_⟩;have:=D1 NB k' d.err d.AO c4 c3;rw[this];rfl;dsimp only;rw[B1 (by simp),D2 _ _ _ _ _ he EM rfl rfl];simp only[Uu,F0];rw[D1 _ k' e CF he EM];exact⟨_,rfl⟩;obtain⟨w,vB⟩:=hd1 k' e CF he EM;dsimp only[Pz];rw[vB];simp only[Uu];rw[B1 (by simp),D2 _ _ _ _ _ he EM rfl rfl];simp only[Uu,F0];rw[D1 _ k' e CF he EM];exact⟨_,rfl⟩;obtain⟨w,vB⟩:=hd1 k' e CF he EM;dsimp only[Pz];rw[D1 _ k' e CF he EM];simp only[Uu];rw[vB];simp only[Uu];rw[B1 (by simp),D2 _ _ _ _ _ he EM rfl rfl];simp only[Uu,F0];rw[D1 _ k' e CF he EM];exact⟨_,rfl⟩;obtain⟨w,vB⟩:=hd1 k' e CF he EM;dsimp only[Pz];rw[vB];simp only[Uu];rw[D1 _ k' e CF he EM];simp only[Uu];rw[vB];simp only[Uu];rw[B1 (by simp),D2 _ _ _ _ _ he EM rfl rfl];simp only[Uu,F0];rw[D1 _ k' e CF he EM];exact⟨_,rfl⟩
end
def atW(f1:FN)(g:GN)(L:List Tk)(k:Nat)(en ea:Int)(t:Tk):Option (Nd×Int×Int×Int):=(some (cond (Bd t.text.data.toList Ni.data.toList) (true,((k+1:Nat):Int)) (false,(k:Int)))).bind λ(MB,LU)=>cond MB ((f1 (⟨L,LU,en,0,ea⟩:Ps)).bind λ(Ur,OE,afB,afC)=>(Ab (⟨L,OE,en,afB,afC⟩:Ps) NB).bind λ(R7,O2,mO,mP)=>some (Ur,O2,mO,mP)) ((An (⟨L,LU,en,0,ea⟩:Ps) QO).bind λ(OF,Ib)=>cond OF ((As (⟨L,Ib,en,0,ea⟩:Ps) 1 1000000).bind λ(Vt,XD,cK,cM)=>some ((⟨13,gT,gT,Vt,0,0,0,(⟨0,[]⟩:Fn),[],t.AO⟩:Nd),XD,cK,cM)) ((Av (⟨L,Ib,en,0,ea⟩:Ps) G5).bind λy17=>cond y17 ((Ab (⟨L,(A1 Ib 1),en,0,ea⟩:Ps) Ni).bind λ(uO,lJ,aGS,aGT)=>(f1 (⟨L,lJ,en,aGS,aGT⟩:Ps)).bind λ(XE,SQ,mQ,mR)=>(Ab (⟨L,SQ,en,mQ,mR⟩:Ps) Jv).bind λ(ayW,afD,aGU,aGV)=>(CV (⟨L,afD,en,aGU,aGV⟩:Ps)).bind λ(uQ,cO,afE,afF)=>some ((⟨18,gT,gT,0,0,0,0,uQ,[XE],t.AO⟩:Nd),cO,afE,afF)) ((Av (⟨L,Ib,en,0,ea⟩:Ps) GZ).bind λeW=>cond eW ((Dk L Ib).bind λx23=>(g (⟨L,(A1 Ib 1),en,0,ea⟩:Ps)).bind λ(lK,YT,anN,anO)=>some ((⟨17,x23.text,gT,0,0,0,0,(⟨0,[]⟩:Fn),lK,t.AO⟩:Nd),YT,anN,anO)) ((Av (⟨L,Ib,en,0,ea⟩:Ps) Dm).bind λy25=>cond y25 ((Dk L Ib).bind λx26=>(g (⟨L,(A1 Ib 1),en,0,ea⟩:Ps)).bind λ(aGY,aGZ,aHA,aHB)=>some ((⟨17,x26.text,gT,0,0,0,0,(⟨0,[]⟩:Fn),aGY,t.AO⟩:Nd),aGZ,aHA,aHB)) ((DK (⟨L,Ib,en,0,ea⟩:Ps) (⟨0,gT,gT,0,0,0,0,(⟨0,[]⟩:Fn),[],t.AO⟩:Nd)).bind λ(anQ,uR,aHC,aHD)=>some (anQ,uR,aHC,aHD))))))
section
variable {L:List Tk}{k:Nat}{en ea:Int}(hw:∀t∈L,Rg t)(hL:L.length<=10000)(hk:k<=L.length){f1 f2 f3 f4 f5 f6 f7:FN}{g:GN}
include hw hL hk
theorem aGR{n:Nd}(hn:n.AO=EP en (L.drop k))(h0:n=⟨0,bE,bE,0,0,0,0,⟨0,[]⟩,[],n.AO⟩):DK (Pz L k en 0 ea) n=match UY (L.drop k) [Lg,Pe,Ei,PV,Hr,KP] 0 with|some 0=>some (Dd 11 bE DS 0 [] n.AO,((k+1:Nat):Int),0,ea)|some 1=>some (Dd 11 bE DS 1 [] n.AO,((k+1:Nat):Int),0,ea)|some 2=>some (Dd 14 Ei bE 0 [] n.AO,((k+1:Nat):Int),0,ea)|some 3=>some (Dd 14 PV bE 0 [] n.AO,((k+1:Nat):Int),0,ea)|some 4=>some (Dd 14 Hr bE 0 [] n.AO,((k+1:Nat):Int),0,ea)|some 5=>some (Dd 14 KP bE 0 [] n.AO,((k+1:Nat):Int),0,ea)|some _=>none|none=>some (Dd 11 bE DS 0 [] n.AO,(k:Int),ecT (L.drop k),EP en (L.drop k)):=by
 unfold DK;rw[yG hw hL (by intro x hx;simp only[bhJ,biZ,or_false] at hx;rcases hx with rfl | rfl | rfl | rfl | rfl | rfl<;>simp[Em]) (by decide)]
 generalize hs:L.drop k=s;simp only[UY];rw[h0];cases Co Lg s with
 |true=>rfl
 |false=>
  cases Co Pe s with
  |true=>rfl
  |false=>
   cases Co Ei s with
   |true=>rfl
   |false=>
    cases Co PV s with
    |true=>rfl
    |false=>
     cases Co Hr s with
     |true=>rfl
     |false=>
      cases Co KP s with|true=>rfl|false=>rfl
theorem aMJ{G G2 G3:Ek->Rd Nd}{li:Rd (List Nd)}(hW:∀t s y,G (.wd t) s=some y->lD en G2 t s=some y)(hE:Sub L en ea f1 (G2 .ex))(hE3:Sub L en ea f1 (G3 .ex))(hC:∀s y,G2 .ca s=some y->fR en G3 li s=some y)(hT:∀s y,G2 .ta s=some y->ZO en G3 s=some y)
   (hl:∀(k:Nat) (r:(List Nd)⊕Dg) (l:List Tk),k<=L.length->xS en (G3 .ex) li (L.drop k)=some (r,l)->Lv (·=·) L en ea k (g (Pz L k en 0 ea)) r l)
   (hd1:∀(k:Nat)(e ea:Int),e≠0->k<=L.length->∃v,f1 (⟨L,(k:Int),en,e,ea⟩:Ps)=some (v,(k:Int),e,ea)) {r:Nd⊕Dg}{l:List Tk} (hS:vQ en G (L.drop k)=some (r,l)):Lv (·=·) L en ea k (C7 f1 f2 f3 f4 f5 f6 f7 g (Pz L k en 0 ea)) r l:=by
 have Hi:∀t∈L,Kw t:=λt ht=>(hw t ht).kw;have D1:∀(s:ByteArray)(k:Nat)(e ea:Int),e≠0->k<=L.length->Ab (⟨L,(k:Int),en,e,ea⟩:Ps) s=some ((),(k:Int),e,ea):=λs k e ea he hk=>Ks he hk s;have D7:∀(k:Nat)(e ea:Int),e≠0->k<=L.length->∃v,CV (⟨L,(k:Int),en,e,ea⟩:Ps)=some (v,(k:Int),e,ea):=λk e ea he hk=>aFI he hk;have tk:=λ(x:ByteArray)(hx:x∈Em)=>Hh (k:=k) (en:=en) (ea:=ea) Hi hL hx;have is:=λ(x:ByteArray)(hx:x∈Em)=>X9 (k:=k) (en:=en) (ea:=ea) Hi hx;have wl:=λn hn h0=>aGR (n:=n) (en:=en) (ea:=ea) hw hL hk hn h0;unfold C7;rw[IP hk,sP (by decide),sP (by decide),aCK];simp only[Uu];unfold vQ Sd at hS;cases h:L.drop k with
 |nil=>
  rw[h] at hS tk is wl;simp only[atS,aWN] at hS;obtain⟨rfl,rfl⟩:=hS;refine⟨k,aWP k,hk,(show(72:Int)≠0 by decide),.inl ⟨h.symm,rfl⟩,Dd 11 bE DS 0 [] en,?_⟩;simp only[cond];rw[tk Ni (by simp[Em])];simp only[Co,cond,Uu];dsimp only[Pz] at tk is wl ⊢;rw[tk QO (by simp[Em])];simp only[Co,cond,Uu];rw[is G5 (by simp[Em]),is GZ (by simp[Em]),is Dm (by simp[Em])];simp only[Co,cond,Uu];rw[wl _ rfl rfl];rfl
 |cons t s=>
  obtain⟨h1,h2,h3⟩:=CS h;have hg:=hw t (aWR h2);rw[h] at hS wl;simp only at hS;simp only[EP];have wk:=wk1 h1 hL;cases hq3:A8 t.kind 3 with
  |true=>
   have h5:t.kind=3:=F3 hq3;obtain⟨z,hz1,hz2⟩:=hg.num h5;rw[hq3] at hS;unfold Tj Ig Sd at hS
   have hS:NC sM (CX (Dd 11 bE Dx z [] t.AO)) (CX (Dd 11 bE BH z [] t.AO)) s=some (r,l):=by unfold A5 at hS;simp only[H9,DC,hq3,cond,Nl,CX,hz1] at hS;exact hS
   simp only[cond];rw[U1 hL (by decide),h];simp only;rw[hq3];simp only[cond,Uu];rw[hz2];simp only[Uu];rw[<- h3] at hS;refine Ly (biC k) (aCB Hi hL (by simp[Em]) (λg1 h=>?_) (λ_ h=>?_) hS);exact J0 g1 rfl h;exact J0 h1 rfl h
  |false=>
   rw[hq3] at hS;simp only[cond] at hS ⊢;cases nT:A8 t.kind 2 with
   |true=>
    rw[nT] at hS;simp only[cond,Nl] at hS ⊢;rw[U1 hL (by decide),h];simp only;rw[nT];simp only[cond,Uu];have kz:=U1 (L:=L) (k:=k+1) (en:=en) (ea:=ea) hL (x:=4) (by decide);dsimp only[Pz] at kz ⊢;rw[kz];rw[<- h3] at hS;unfold Ig A5 Sd at hS;cases hd:L.drop (k+1) with
    |nil=>
     rw[hd] at hS;simp only[atS,aWN] at hS;obtain⟨rfl,rfl⟩:=hS;refine⟨k+1,biC k,h1,(show(72:Int)≠0 by decide),.inl ⟨hd.symm,rfl⟩,Dd 11 bE t.text 0 [] t.AO,?_⟩;simp only[Uu];rw[show BP gT=some 0 by rfl];rfl
    |cons t2 u=>
     obtain⟨g1,g2,g3⟩:=CS hd;have hg2:=hw t2 (aWR g2);rw[hd] at hS;simp only[H9,FF] at hS;simp only;cases hq4:A8 t2.kind 4 with
     |true=>
      obtain⟨z,hz1,hz2⟩:=hg2.mZ (.inr (F3 hq4));rw[hq4] at hS;simp only[cond,Nl,CX,hz1,atS,aWN] at hS;obtain⟨rfl,rfl⟩:=hS;refine⟨k+2,by omega,g1,g3.symm,_,rfl,?_⟩;simp only[cond,Uu];rw[hz2];rfl
     |false=>
      rw[hq4] at hS;simp only[cond,IE,atS,aWN] at hS;obtain⟨rfl,rfl⟩:=hS;refine⟨k+1,biC k,h1,(show(71:Int)≠0 by decide),.inl ⟨hd.symm,rfl⟩,Dd 11 bE t.text 0 [] t.AO,?_⟩;simp only[cond,Uu];rw[show BP gT=some 0 by rfl];rfl
   |false=>
    rw[nT] at hS;simp only[cond,H9,aYY] at hS ⊢;cases hnm:nmT t with
    |true=>
     rw[hnm] at hS;simp only[Nl,CX,atS,aWN] at hS;obtain⟨rfl,rfl⟩:=hS;simp only;rw[agQ hL,h];simp only[hnm,cond,Uu];exact⟨k+1,biC k,h1,h3.symm,_,rfl,rfl⟩
    |false=>
     rw[hnm] at hS;simp only at hS ⊢;have hS:=hW _ _ _ hS;have SL:∀x,Co x (L.drop k)=Bd t.text.data.toList x.data.toList:=λx=>by rw[h];rfl
     have tk2:∀x,x∈Em->An (⟨L,(k:Int),en,0,ea⟩:Ps) x=some (cond (Bd t.text.data.toList x.data.toList) (true,((k+1:Nat):Int)) (false,(k:Int))):=λx hx=>by
      rw[<- SL];exact tk x hx
     have is2:∀x,x∈Em->Av (⟨L,(k:Int),en,0,ea⟩:Ps) x=some (Bd t.text.data.toList x.data.toList):=λx hx=>by
      rw[<- SL];exact is x hx
     have gt:Dk L (k:Int)=some t:=by rw[EB];exact h2
     dsimp only[Pz] at wl ⊢;rw[tk2 Ni (by simp[Em])]
     have six:∀(X:Nd),Bd t.text.data.toList Ni.data.toList=false->Bd t.text.data.toList QO.data.toList=false->Bd t.text.data.toList G5.data.toList=false->Bd t.text.data.toList GZ.data.toList=false->Bd t.text.data.toList Dm.data.toList=false->some ((bqT X:Nd⊕Dg),s)=some (r,l) ->
      DK (⟨L,(k:Int),en,0,ea⟩:Ps) ⟨0,gT,gT,0,0,0,0,⟨0,[]⟩,[],t.AO⟩=some (X,((k+1:Nat):Int),0,ea)->Lv (·=·) L en ea k (atW f1 g L k en ea t) r l:=λX e1 e2 e3 e4 e5 hX hw=>by
      unfold atW;simp only[atS,aWN] at hX;obtain⟨rfl,rfl⟩:=hX;rw[e1];simp only[cond,Uu];rw[tk2 QO (by simp[Em]),e2];simp only[cond,Uu];rw[is2 G5 (by simp[Em]),e3,is2 GZ (by simp[Em]),e4,is2 Dm (by simp[Em]),e5];simp only[cond,Uu];rw[hw];exact⟨k+1,biC k,h1,h3.symm,X,rfl,rfl⟩
     unfold lD at hS;simp only[UY,Co] at wl;cases c1:Bd t.text.data.toList Pe.data.toList with
     |true=>
      rw[c1] at hS;have tx:=Mh c1;refine six _ (by rw[tx];rfl) (by rw[tx];rfl) (by rw[tx];rfl) (by rw[tx];rfl) (by rw[tx];rfl) hS ?_;rw[wl _ rfl rfl,tx];rfl
     |false=>
     rw[c1] at hS;cases c2:Bd t.text.data.toList Lg.data.toList with
     |true=>
      rw[c2] at hS;have tx:=Mh c2;refine six _ (by rw[tx];rfl) (by rw[tx];rfl) (by rw[tx];rfl) (by rw[tx];rfl) (by rw[tx];rfl) hS ?_;rw[wl _ rfl rfl,tx];rfl
     |false=>
     rw[c2] at hS;cases c3:Bd t.text.data.toList QO.data.toList with
     |true=>
      rw[c3] at hS;have tx:=Mh c3;rw[show Bd t.text.data.toList Ni.data.toList=false by rw[tx];rfl];simp only[cond,Uu];rw[tk2 QO (by simp[Em]),c3];simp only[cond,Uu];simp only[cond,Nl] at hS;rw[<- h3] at hS;refine Ly (biC k) (Cv (λh=>One.lv (Qb hw hL h1 h)) (λp y k2 hp _ hk2 h4=>?_) (λv k' e CF he EM=>⟨_,rfl⟩) hS);rw[<- hp.1];exact J0 hk2 rfl h4
     |false=>
     rw[c3] at hS;cases c4:Bd t.text.data.toList Ei.data.toList with
     |true=>
      rw[c4] at hS;have tx:=Mh c4;refine six _ (by rw[tx];rfl) (by rw[tx];rfl) (by rw[tx];rfl) (by rw[tx];rfl) (by rw[tx];rfl) hS ?_;rw[wl _ rfl rfl,tx];rfl
     |false=>
     rw[c4] at hS;cases c5:Bd t.text.data.toList PV.data.toList with
     |true=>
      rw[c5] at hS;have tx:=Mh c5;refine six _ (by rw[tx];rfl) (by rw[tx];rfl) (by rw[tx];rfl) (by rw[tx];rfl) (by rw[tx];rfl) hS ?_;rw[wl _ rfl rfl,tx];rfl
     |false=>
     rw[c5] at hS;cases c6:Bd t.text.data.toList Hr.data.toList with
     |true=>
      rw[c6] at hS;have tx:=Mh c6;refine six _ (by rw[tx];rfl) (by rw[tx];rfl) (by rw[tx];rfl) (by rw[tx];rfl) (by rw[tx];rfl) hS ?_;rw[wl _ rfl rfl,tx];rfl
     |false=>
     rw[c6] at hS;cases c7:Bd t.text.data.toList KP.data.toList with
     |true=>
      rw[c7] at hS;have tx:=Mh c7;refine six _ (by rw[tx];rfl) (by rw[tx];rfl) (by rw[tx];rfl) (by rw[tx];rfl) (by rw[tx];rfl) hS ?_;rw[wl _ rfl rfl,tx];rfl
     |false=>
     rw[c7] at hS
     have cal:fR en G3 li (t::s)=some (r,l)->Lv (·=·) L en ea k ((g (⟨L,((k+1:Nat):Int),en,0,ea⟩:Ps)).bind λ(lK,YT,anN,anO)=>some ((⟨17,t.text,gT,0,0,0,0,(⟨0,[]⟩:Fn),lK,t.AO⟩:Nd),YT,anN,anO)) r l:=λhS=>by
      rw[apF] at hS;simp only[Sd,Nl] at hS;rw[<- h3] at hS;refine Ly (biC k) (Cv (hl (k+1) _ _ h1) (λp y k2 hp _ hk2 h4=>?_) (λv k' e CF he EM=>⟨_,rfl⟩) hS);subst hp;exact J0 hk2 rfl h4
     cases c8:Bd t.text.data.toList GZ.data.toList with
     |true=>
      rw[c8] at hS;have tx:=Mh c8;rw[show Bd t.text.data.toList Ni.data.toList=false by rw[tx];rfl];simp only[cond,Uu];rw[tk2 QO (by simp[Em]),c3];simp only[cond,Uu];rw[is2 G5 (by simp[Em]),show Bd t.text.data.toList G5.data.toList=false by rw[tx];rfl,is2 GZ (by simp[Em]),c8];simp only[cond,Uu];rw[gt,wk];exact cal (hC _ _ hS)
     |false=>
     rw[c8] at hS;cases c9:Bd t.text.data.toList Dm.data.toList with
     |true=>
      rw[c9] at hS;have tx:=Mh c9;rw[show Bd t.text.data.toList Ni.data.toList=false by rw[tx];rfl];simp only[cond,Uu];rw[tk2 QO (by simp[Em]),c3];simp only[cond,Uu];rw[is2 G5 (by simp[Em]),show Bd t.text.data.toList G5.data.toList=false by rw[tx];rfl,is2 GZ (by simp[Em]),c8,is2 Dm (by simp[Em]),c9];simp only[cond,Uu];rw[gt,wk];exact cal (hC _ _ hS)
     |false=>
     rw[c9] at hS;cases c10:Bd t.text.data.toList G5.data.toList with
     |true=>
      rw[c10] at hS;have tx:=Mh c10;rw[show Bd t.text.data.toList Ni.data.toList=false by rw[tx];rfl];simp only[cond,Uu];rw[tk2 QO (by simp[Em]),c3];simp only[cond,Uu];rw[is2 G5 (by simp[Em]),c10];rw[wk];have hS:=hT _ _ hS;rw[anB] at hS
      have e1:Ff en G5 (t::s)=some (.inl t,s):=by unfold Ff Ig Sd;simp only[H9,Bp,c10,cond,Nl,CX]
      unfold A5 at hS;rw[e1] at hS;simp only at hS;rw[<- h3] at hS;have hS:A5 (Ff en Ni) (λ_=>A5 (G3 .ex) λa=>A5 (Ff en Jv) λ_=>A5 (auZ en) λf=>CX ⟨18,bE,bE,0,0,0,0,f,[a],t.AO⟩) (L.drop (k+1))=some (r,l):=hS;refine Ly (biC k) (Cv (λh=>Io Hi hL h1 (by simp[Em]) h) (λ_ _ k2 _ _ hk2 h4=>?_) (λv k' e CF he EM=>?_) hS);refine Cv (hE3 k2 _ _ hk2) (λa a' k3 ha _ hk3 h5=>?_) (λv k' e CF he EM=>?_) h4;subst ha;refine Cv (λh=>Io Hi hL hk3 (by simp[Em]) h) (λ_ _ k4 _ _ wY h6=>?_) (λv k' e CF he EM=>?_) h5;refine Cv (λh=>aFJ hw hL wY h) (λf f' k5 hf _ hk5 h7=>?_) (λv k' e CF he EM=>⟨_,rfl⟩) h6;subst hf;exact J0 hk5 rfl h7;obtain⟨w,vB⟩:=D7 k' e CF he EM;dsimp only;rw[vB];exact⟨_,rfl⟩;obtain⟨w,vB⟩:=D7 k' e CF he EM;dsimp only;rw[D1 _ k' e CF he EM];simp only[Uu];rw[vB];exact⟨_,rfl⟩;obtain⟨w,vB⟩:=D7 k' e CF he EM;obtain⟨x,Ze⟩:=hd1 k' e CF he EM;dsimp only;rw[Ze];simp only[Uu];rw[D1 _ k' e CF he EM];simp only[Uu];rw[vB];exact⟨_,rfl⟩
     |false=>
     rw[c10] at hS;cases c11:Bd t.text.data.toList Ni.data.toList with
     |true=>
      rw[c11] at hS;simp only[cond,Nl] at hS;simp only[cond,Uu];rw[<- h3] at hS;refine Ly (biC k) (Cv (hE (k+1) _ _ h1) (λa a' k3 ha _ hk3 h5=>?_) (λv k' e CF he EM=>?_) hS);subst ha;refine Cv (λh=>Io Hi hL hk3 (by simp[Em]) h) (λ_ _ k4 _ _ wY h6=>?_) (λv k' e CF he EM=>⟨_,rfl⟩) h5;exact J0 wY rfl h6;dsimp only;rw[D1 _ k' e CF he EM];exact⟨_,rfl⟩
     |false=>
      rw[c11] at hS;simp only[cond,IE,atS,aWN] at hS;obtain⟨rfl,rfl⟩:=hS;simp only[cond,Uu];rw[tk2 QO (by simp[Em]),c3];simp only[cond,Uu];rw[is2 G5 (by simp[Em]),c10,is2 GZ (by simp[Em]),c8,is2 Dm (by simp[Em]),c9];simp only[cond,Uu];rw[wl _ rfl rfl,c2,c1,c4,c5,c6,c7];refine⟨k,aWP k,hk,(show(71:Int)≠0 by decide),.inl ⟨h.symm,rfl⟩,_,rfl⟩
end
section
variable {α β:Type}{ts:List Tk}{k:Nat}{en:Int}{r:α⊕Dg}{l:List Tk}
theorem aQA(N:Nd):(⟨N.kind,N.name,N.unit,N.n,N.fr,N.to,N.known,⟨N.CW.den,N.CW.ps⟩,N.kids,N.AO⟩:Nd)=N:=by cases N;rfl
theorem UF{m:Rd β}{K:β->Rd α}{s:List Tk}(h:A5 m K s=some (r,l)):(∃a s',m s=some (.inl a,s')/\K a s'=some (r,l))\/∃d,m s=some (.inr d,l)/\r=.inr d:=by unfold A5 at h;split at h;cases h;rename_i a s' hm;exact .inl ⟨a,s',hm,h⟩;rename_i d s' hm;simp only[atS,aWN] at h;exact .inr ⟨d,by rw[hm,h.2],h.1.symm⟩
theorem jV{A B:Rd α}{x:ByteArray}(hk:k<=ts.length)(h:NC x A B (ts.drop k)=some (r,l)) :
   (Co x (ts.drop k)=true/\k+1<=ts.length/\A (ts.drop (k+1))=some (r,l))\/(Co x (ts.drop k)=false/\B (ts.drop k)=some (r,l)):=by
 unfold NC at h;cases hx:Co x (ts.drop k) with
 |true=>
  rw[hx] at h;obtain⟨t,ht1,iC⟩:=jW hk hx;exact .inl ⟨rfl,ht1,mE iC h⟩
 |false=>
  rw[hx] at h;exact .inr ⟨rfl,h⟩
theorem auM{K:Rd α}(hk:k<=ts.length)(h:Nl K (ts.drop k)=some (r,l)):k+1<=ts.length/\K (ts.drop (k+1))=some (r,l):=by
 rcases Ko ts hk with ⟨h1,h2'⟩ | ⟨t,h1,h2',h3'⟩
 rw[h2'] at h;cases h;exact⟨h1,mE h3' h⟩
theorem Wl{n:Nat}{m:Rd α}{s:List Tk}(h:Lq n m s=some (r,l)):n<=100000000/\m s=some (r,l):=asY h
theorem Vj{a:β}{q:β⊕Dg}{s:List Tk}(h:CX a s=some (q,l)):q=.inl a/\l=s:=by simp only[CX,atS,aWN] at h;exact⟨h.1.symm,h.2.symm⟩
theorem T3{e p:Int}{s:List Tk}(h:IE e p s=some (r,l)):r=.inr ⟨e,p⟩/\l=s:=by simp only[IE,atS,aWN] at h;exact⟨h.1.symm,h.2.symm⟩
def opB(p:Pr):List ByteArray->Option (ByteArray×Bool)
 |[]=>some (bE,false)
 |x::xs=>(Ar p x).bind λy=>cond y (some (x,true)) (opB p xs)
theorem adQ{yes:ByteArray->Rd α}{no:Rd α}(hk:k<=ts.length):∀ops:List ByteArray,opR yes no ops (ts.drop k)=some (r,l) ->
 (∃x,k+1<=ts.length/\opB ⟨ts,k,en⟩ ops=some (x,true)/\yes x (ts.drop (k+1))=some (r,l))\/(opB ⟨ts,k,en⟩ ops=some (bE,false)/\no (ts.drop k)=some (r,l))
 |[],hS=>.inr ⟨rfl,hS⟩
 |x::xs,hS=>by
  unfold opB;rw[JK hk];rcases jV hk hS with ⟨h0,h,hy⟩ | ⟨h0,hS⟩
  rw[h0];exact .inl ⟨x,h,rfl,hy⟩;rw[h0];exact adQ hk xs hS
theorem aCP{yes:ByteArray->Rd α}{no:Rd α}(hk:k<=ts.length)(hS:opR yes no (opsOf 3) (ts.drop k)=some (r,l)) :
   (∃x,k+1<=ts.length/\FJ ⟨ts,k,en⟩=some (x,true)/\yes x (ts.drop (k+1))=some (r,l))\/(FJ ⟨ts,k,en⟩=some (bE,false)/\no (ts.drop k)=some (r,l)):=adQ hk (opsOf 3) hS
end
structure Agr(R:Aa)(ts:List Tk)(en:Int)(g:Ek->Rd Nd)(li:Rd (List Nd)):Prop where
 ex:∀{k:Nat},k<=ts.length->∀{r l},g .ex (ts.drop k)=some (r,l)->Kk ts k (R.AL ⟨ts,k,en⟩) r l
 l0:∀{k:Nat},k<=ts.length->∀{r l},g (.lv 0) (ts.drop k)=some (r,l)->Kk ts k (R.EN ⟨ts,k,en⟩) r l
 l1:∀{k:Nat},k<=ts.length->∀{r l},g (.lv 1) (ts.drop k)=some (r,l)->Kk ts k (R.B2 ⟨ts,k,en⟩) r l
 l2:∀{k:Nat},k<=ts.length->∀{r l},g (.lv 2) (ts.drop k)=some (r,l)->Kk ts k (R.Bq ⟨ts,k,en⟩) r l
 l3:∀{k:Nat},k<=ts.length->∀{r l},g (.lv 3) (ts.drop k)=some (r,l)->Kk ts k (R.CK ⟨ts,k,en⟩) r l
 l4:∀{k:Nat},k<=ts.length->∀{r l},g (.lv 4) (ts.drop k)=some (r,l)->Kk ts k (R.CL ⟨ts,k,en⟩) r l
 l5:∀{k:Nat},k<=ts.length->∀{r l},g (.lv 5) (ts.drop k)=some (r,l)->Kk ts k (R.B3 ⟨ts,k,en⟩) r l
 l6:∀{k:Nat},k<=ts.length->∀{r l},g (.lv 6) (ts.drop k)=some (r,l)->Kk ts k (R.B4 ⟨ts,k,en⟩) r l
 at_:∀{k:Nat},k<=ts.length->∀{r l},g .at_ (ts.drop k)=some (r,l)->Kk ts k (R.Gj ⟨ts,k,en⟩) r l
 wd:∀(t:Tk){k:Nat},k<=ts.length->∀{r l},g (.wd t) (ts.drop k)=some (r,l)->Kk ts k (R.Gk ⟨ts,k,en⟩ t) r l
 ca:∀{k:Nat},k<=ts.length->∀{r l},g .ca (ts.drop k)=some (r,l)->Kk ts k (R.Dq ⟨ts,k,en⟩) r l
 ta:∀{k:Nat},k<=ts.length->∀{r l},g .ta (ts.drop k)=some (r,l)->Kk ts k (R.FZ ⟨ts,k,en⟩) r l
 li:∀{k:Nat},k<=ts.length->∀{r l},li (ts.drop k)=some (r,l)->Kk ts k (R.DZ ⟨ts,k,en⟩) r l
section
variable {ts:List Tk}(Fg:ts.length<=1000000){en:Int}
include Fg
theorem tY{sub:Rd Nd}{F:Pr->Option ((Nd⊕Dg)×Int)}{k:Nat}(hk:k<=ts.length)(S7:∀{r l},sub (ts.drop k)=some (r,l)->Kk ts k (F ⟨ts,k,en⟩) r l){x:ByteArray}{N:Nd}{r l}(hS:ND en sub x N (ts.drop k)=some (r,l)) :
   ∃k':Nat,k<=k'/\k'<=ts.length/\l=ts.drop k'/\((∃n b,cond (Bd x.data.toList DP.data.toList) (AB ⟨ts,k,en⟩) (F ⟨ts,k,en⟩)=some (.inl n,(k':Int))/\AU x N n=some b/\r=.inl b)\/∃d,cond (Bd x.data.toList DP.data.toList) (AB ⟨ts,k,en⟩) (F ⟨ts,k,en⟩)=some (.inr d,(k':Int))/\r=.inr d):=by
 have key:∀{r l},(cond (Bd x.data.toList DP.data.toList) (F4 en) sub) (ts.drop k)=some (r,l)->Kk ts k (cond (Bd x.data.toList DP.data.toList) (AB ⟨ts,k,en⟩) (F ⟨ts,k,en⟩)) r l:=by intro r l h;revert h;cases Bd x.data.toList DP.data.toList;exact λh=>S7 h;exact λh=>Ye Fg hk h
 rcases UF hS with ⟨n,s',h1,h2⟩ | ⟨d,h1,h2⟩
 obtain⟨b,hb,h2⟩:=P8 h2;obtain⟨rfl,rfl⟩:=Vj h2;obtain⟨k',a1,a2,a3,a4⟩:=key h1;exact⟨k',a1,a2,a3,.inl ⟨n,b,a4,hb,rfl⟩⟩;obtain⟨k',a1,a2,a3,a4⟩:=key h1;exact⟨k',a1,a2,a3,.inr ⟨d,a4,h2⟩⟩
abbrev LT:=Int×ByteArray×ByteArray×Int×Int×Int×Int×Int×(List Pc)×(List Nd)×Int×Int
abbrev LpT:=Option (Lp LT LT ((Nd⊕Dg)×Int))
abbrev lvT(n:Nd)(k:Int):LT:=(n.kind,n.name,n.unit,n.n,n.fr,n.to,n.known,n.CW.den,n.CW.ps,n.kids,n.AO,k)
abbrev lvB(f:Int->ByteArray->ByteArray->Int->Int->Int->Int->Int->List Pc->List Nd->Int->Int->LpT)(x:LT):LpT:=f x.1 x.2.1 x.2.2.1 x.2.2.2.1 x.2.2.2.2.1 x.2.2.2.2.2.1 x.2.2.2.2.2.2.1 x.2.2.2.2.2.2.2.1 x.2.2.2.2.2.2.2.2.1 x.2.2.2.2.2.2.2.2.2.1 x.2.2.2.2.2.2.2.2.2.2.1 x.2.2.2.2.2.2.2.2.2.2.2
def lvK(x:ByteArray)(N:Nd)(y:(Nd⊕Dg)×Int):LpT:=aWO (λn=>(AU x N n).bind λb=>some (.nx (lvT b y.2))) (λd=>some (.rt (.inr d,y.2))) y.1
section
variable {F:Pr->Option ((Nd⊕Dg)×Int)}{sub:Rd Nd}{ops:List ByteArray}{body:LT->LpT}(H:∀N (k:Nat),body (lvT N k)=(opB ⟨ts,k,en⟩ ops).bind λy=>cond y.2 (cond (Bd y.1.data.toList DP.data.toList) ((AB ⟨ts,A1 k 1,en⟩).bind (lvK y.1 N)) ((F ⟨ts,A1 k 1,en⟩).bind (lvK y.1 N))) (some (.rt (.inl N,(k:Int)))))(S7:∀{k:Nat},k<=ts.length->∀{r l},sub (ts.drop k)=some (r,l)->Kk ts k (F ⟨ts,k,en⟩) r l)
include H S7
theorem azX:∀(q:Nat)(N:Nd)(k:Nat)(r:Nd⊕Dg)(l:List Tk),k<=ts.length->Kn en ops sub q N (ts.drop k)=some (r,l) ->
 ∃k':Nat,k<=k'/\k'<=ts.length/\l=ts.drop k'/\∃n,B8 body n (lvT N k)=some (.inr (r,(k':Int))):=by
 intro q
 induction q with
 |zero=>intro N k r l hk hS;cases hS
 |succ q ih=>
  intro N k r l hk hS;have hN:=H N k;rcases adQ (en:=en) hk ops hS with ⟨x,h1,h2,hS⟩ | ⟨h2,hS⟩
  have hB:body (lvT N k)=(cond (Bd x.data.toList DP.data.toList) (AB ⟨ts,(k+1:Nat),en⟩) (F ⟨ts,(k+1:Nat),en⟩)).bind (lvK x N):=by rw[hN,h2,<- Hg Fg hk];show cond _ _ _=_;cases Bd x.data.toList DP.data.toList<;>rfl
  rcases UF hS with ⟨b,s',h3,h4⟩ | ⟨d,h3,rfl⟩
  obtain⟨k',a1,a2,rfl,⟨n,b',hX,hb,hr⟩ | ⟨d,hX,hr⟩⟩:=tY Fg h1 (λh=>S7 h1 h) h3;cases hr;obtain⟨k2,b1,b2,b3,m,b4⟩:=ih b k' r l a2 h4;refine⟨k2,by omega,b2,b3,m+1,?_⟩;rw[hX] at hB;have hB:body (lvT N k)=(AU x N n).bind λb=>some (.nx (lvT b k')):=hB;rw[hb] at hB;show(body _).bind _=_;rw[hB];exact b4;cases hr;obtain⟨k',a1,a2,rfl,⟨n,b',hX,hb,hr⟩ | ⟨d',hX,hr⟩⟩:=tY Fg h1 (λh=>S7 h1 h) h3;cases hr;cases hr;refine⟨k',by omega,a2,rfl,1,?_⟩;rw[hX] at hB;show(body _).bind _=_;rw[hB];rfl;obtain⟨rfl,rfl⟩:=Vj hS;refine⟨k,aWP k,hk,rfl,1,?_⟩;rw[h2] at hN;show(body _).bind _=_;rw[hN];rfl
theorem dH{k:Nat}(hk:k<=ts.length){r l}(hS:A5 sub (λl s=>Kn en ops sub (s.length+1) l s) (ts.drop k)=some (r,l)) :
   Kk ts k ((F ⟨ts,k,en⟩).bind λy=>aWO (λn:Nd=>(GJ body (lvT n y.2)).bind (F0 (λ_=>none) (λv=>some v))) (λd=>some (.inr d,y.2)) y.1) r l:=by
 refine Bu (λh=>S7 hk h) (λN k' h1 h2 hS=>?_) (λ_ _=>rfl) hS;obtain⟨k2,a1,a2,a3,n,a4⟩:=azX Fg H S7 _ N k' r l h2 hS;refine⟨k2,a1,a2,a3,?_⟩;dsimp only[aWO];rw[BB a4];rfl
end
theorem asR{R:Aa}{g:Ek->Rd Nd}(S7:∀{k:Nat},k<=ts.length->∀{r l},g (.lv 1) (ts.drop k)=some (r,l)->Kk ts k (R.B2 ⟨ts,k,en⟩) r l){k:Nat}(hk:k<=ts.length){r l}(hS:Tb en g 0 (ts.drop k)=some (r,l)) :
   Kk ts k (Jb R ⟨ts,k,en⟩) r l:=dH Fg (F:=R.B2) (ops:=opsOf 0) (body:=lvB (LB R ⟨ts,k,en⟩)) (λN _=>by cases N;rfl) S7 hk hS
theorem asS{R:Aa}{g:Ek->Rd Nd}(S7:∀{k:Nat},k<=ts.length->∀{r l},g (.lv 2) (ts.drop k)=some (r,l)->Kk ts k (R.Bq ⟨ts,k,en⟩) r l){k:Nat}(hk:k<=ts.length){r l}(hS:Tb en g 1 (ts.drop k)=some (r,l)) :
   Kk ts k (Jc R ⟨ts,k,en⟩) r l:=dH Fg (F:=R.Bq) (ops:=opsOf 1) (body:=lvB (LC R ⟨ts,k,en⟩)) (λN _=>by cases N;rfl) S7 hk hS
theorem asT{R:Aa}{g:Ek->Rd Nd}(S7:∀{k:Nat},k<=ts.length->∀{r l},g (.lv 5) (ts.drop k)=some (r,l)->Kk ts k (R.B3 ⟨ts,k,en⟩) r l){k:Nat}(hk:k<=ts.length){r l}(hS:Tb en g 4 (ts.drop k)=some (r,l)) :
   Kk ts k (Jf R ⟨ts,k,en⟩) r l:=dH Fg (F:=R.B3) (ops:=opsOf 4) (body:=lvB (LD R ⟨ts,k,en⟩)) (λN _=>by cases N;rfl) S7 hk hS
theorem asU{R:Aa}{g:Ek->Rd Nd}(S7:∀{k:Nat},k<=ts.length->∀{r l},g (.lv 6) (ts.drop k)=some (r,l)->Kk ts k (R.B4 ⟨ts,k,en⟩) r l){k:Nat}(hk:k<=ts.length){r l}(hS:Tb en g 5 (ts.drop k)=some (r,l)) :
   Kk ts k (Jg R ⟨ts,k,en⟩) r l:=dH Fg (F:=R.B4) (ops:=opsOf 5) (body:=lvB (LF R ⟨ts,k,en⟩)) (λN _=>by cases N;rfl) S7 hk hS
end
section
variable {α β γ:Type}{ts:List Tk}{k:Nat}{en:Int}{l:List Tk}
def pU(ts:List Tk)(k:Nat)(X:Option ((Pt⊕Dg)×Int×Int))(r:(Pt×Int)⊕Dg)(l:List Tk):Prop:=∃k':Nat,k<=k'/\k'<=ts.length/\l=ts.drop k'/\match r with|.inl x=>X=some (.inl x.1,(k':Int),x.2)|.inr d=>∃c,X=some (.inr d,(k':Int),c)
variable {r:(Pt×Int)⊕Dg}
theorem ahS{k2:Nat}{X:Option ((Pt⊕Dg)×Int×Int)}(h1:k<=k2)(h:pU ts k2 X r l):pU ts k X r l:=by obtain⟨k',a,b,c,d⟩:=h;exact⟨k',biP h1 a,b,c,d⟩
theorem JU{F1:Option ((γ⊕Dg)×Int)}{F2:(γ⊕Dg)×Int->Option ((Pt⊕Dg)×Int×Int)}{m:Rd γ}{K:γ->Rd (Pt×Int)}
   (h1:∀{r l},m (ts.drop k)=some (r,l)->Kk ts k F1 r l)
   (h2:∀a k',k<=k'->k'<=ts.length->K a (ts.drop k')=some (r,l)->pU ts k' (F2 (.inl a,(k':Int))) r l)
   (h3:∀d z,∃c,F2 (.inr d,z)=some (.inr d,z,c)) (hS:A5 m K (ts.drop k)=some (r,l)):pU ts k (F1.bind F2) r l:=by
 rcases UF hS with ⟨a,s',hm,hS⟩ | ⟨d,hm,rfl⟩
 obtain⟨k',a1,a2,rfl,a4⟩:=h1 hm;rw[a4];exact ahS a1 (h2 _ _ a1 a2 hS);obtain⟨k',a1,a2,a3,a4⟩:=h1 hm;obtain⟨c,hc⟩:=h3 d k';exact⟨k',a1,a2,a3,c,by rw[a4,Uu,hc]⟩
theorem avL{F2:Bool->Option ((Pt⊕Dg)×Int×Int)}{A B:Rd (Pt×Int)}{x:ByteArray}(hk:k<=ts.length)
   (h1:k+1<=ts.length->A (ts.drop (k+1))=some (r,l)->pU ts (k+1) (F2 true) r l) (h2:B (ts.drop k)=some (r,l)->pU ts k (F2 false) r l)
   (hS:NC x A B (ts.drop k)=some (r,l)):pU ts k ((Ar ⟨ts,k,en⟩ x).bind F2) r l:=by
 rw[JK hk,Uu];rcases jV hk hS with ⟨h,h3,hS⟩ | ⟨h,hS⟩
 rw[h];exact ahS (biC k) (h1 h3 hS);rw[h];exact h2 hS
end
def aQU(p:Pr)(AM Ba:Int)(A9:Int×Int):Option ((Pt⊕Dg)×Int×Int):=((Ak (⟨p.Bm,Ba,p.D8⟩:Pr) Va).bind λ(Gr,Dj)=>aWO (λ(JN:Tk)=>(Ar (⟨p.Bm,Dj,p.D8⟩:Pr) J5).bind λy3=>cond y3 ((BK (⟨p.Bm,(A1 Dj 1),p.D8⟩:Pr)).bind λ(ME,Is)=>aWO (λ(H5:(Int×Int))=>(Cj (⟨p.Bm,Is,p.D8⟩:Pr)).bind λ(MC,G7)=>aWO (λ(KO:Int)=>(AG (⟨p.Bm,G7,p.D8⟩:Pr) 0).bind λ(SY,MF)=>aWO (λ(OG:(Int×Int))=>(Ak (⟨p.Bm,MF,p.D8⟩:Pr) DP).bind λ(YU,QX)=>aWO (λ(lL:Tk)=>(AG (⟨p.Bm,QX,p.D8⟩:Pr) 1).bind λ(TY,LV)=>aWO (λ(J8:(Int×Int))=>(CP AM J8.1).bind λy9=>(OM AM y9).bind λz10=>cond (Cy 1000000 (Bj z10 J8.1)) (some ((blT (⟨2,J8.2⟩:Dg):(Pt⊕Dg)),LV,(Bj z10 J8.1))) (some ((bqT (⟨A9.1,(Bj H5.1 (-1)),(Bj OG.1 KO),J8.1⟩:Pt):(Pt⊕Dg)),LV,(Bj z10 J8.1)))) (λ(QY:Dg)=>some ((blT QY:(Pt⊕Dg)),LV,AM)) TY) (λ(V9:Dg)=>some ((blT V9:(Pt⊕Dg)),QX,AM)) YU) (λ(TX:Dg)=>some ((blT TX:(Pt⊕Dg)),MF,AM)) SY) (λ(K6:Dg)=>some ((blT K6:(Pt⊕Dg)),G7,AM)) MC) (λ(Mi:Dg)=>some ((blT Mi:(Pt⊕Dg)),Is,AM)) ME) ((BK (⟨p.Bm,Dj,p.D8⟩:Pr)).bind λ(TW,MA)=>aWO (λ(Ww:(Int×Int))=>(Cj (⟨p.Bm,MA,p.D8⟩:Pr)).bind λ(MB,LU)=>aWO (λ(ajW:Int)=>(AG (⟨p.Bm,LU,p.D8⟩:Pr) 0).bind λ(Ur,OE)=>aWO (λ(Wx:(Int×Int))=>(Ak (⟨p.Bm,OE,p.D8⟩:Pr) DP).bind λ(R7,O2)=>aWO (λ(aKP:Tk)=>(AG (⟨p.Bm,O2,p.D8⟩:Pr) 1).bind λ(OF,Ib)=>aWO (λ(QL:(Int×Int))=>(CP AM QL.1).bind λlO=>(OM AM lO).bind λz17=>cond (Cy 1000000 (Bj z17 QL.1)) (some ((blT (⟨2,QL.2⟩:Dg):(Pt⊕Dg)),Ib,(Bj z17 QL.1))) (some ((bqT (⟨A9.1,(Bj Ww.1 1),(Bj Wx.1 ajW),QL.1⟩:Pt):(Pt⊕Dg)),Ib,(Bj z17 QL.1)))) (λ(ajZ:Dg)=>some ((blT ajZ:(Pt⊕Dg)),Ib,AM)) OF) (λ(ajY:Dg)=>some ((blT ajY:(Pt⊕Dg)),O2,AM)) R7) (λ(lI:Dg)=>some ((blT lI:(Pt⊕Dg)),OE,AM)) Ur) (λ(ajX:Dg)=>some ((blT ajX:(Pt⊕Dg)),LU,AM)) MB) (λ(lF:Dg)=>some ((blT lF:(Pt⊕Dg)),MA,AM)) TW)) (λ(K5:Dg)=>some ((blT K5:(Pt⊕Dg)),Dj,AM)) Gr)
section
variable {ts:List Tk}(Fg:ts.length<=1000000){en:Int}
include Fg
theorem yL(k0 AM:Int)(v:Int×Int){k:Nat}(hk:k<=ts.length){r l}(hS:Tr en AM v.1 (ts.drop k)=some (r,l)):pU ts k (aQU ⟨ts,k0,en⟩ AM k v) r l:=by
 refine JU (λh=>JP Fg _ hk h) (λ_ k h hk hS=>?_) (λ_ _=>⟨_,rfl⟩) hS;refine avL hk (λhk1 hS=>?_) (λhS=>?_) hS;dsimp only[cond];rw[Hg Fg hk];refine JU (λh=>uL Fg hk1 h) (λa k h hk hS=>?_) (λ_ _=>⟨_,rfl⟩) hS;refine JU (λh=>awI Fg hk h) (λs k h hk hS=>?_) (λ_ _=>⟨_,rfl⟩) hS;refine JU (λh=>Rj Fg _ hk h) (λm k h hk hS=>?_) (λ_ _=>⟨_,rfl⟩) hS;refine JU (λh=>JP Fg _ hk h) (λ_ k h hk hS=>?_) (λ_ _=>⟨_,rfl⟩) hS;refine JU (λh=>Rj Fg _ hk h) (λd k h hk hS=>?_) (λ_ _=>⟨_,rfl⟩) hS;obtain⟨g,hg,hS⟩:=P8 hS;have hg:=aqU hg;obtain⟨z,hz,hS⟩:=P8 hS;dsimp only[aWO];rw[hg,Uu,hz,Uu];revert hS;cases Cy 1000000 (Bj z d.1);exact λhS=>by obtain⟨rfl,rfl⟩:=Vj hS;exact⟨k,aWP k,hk,rfl,rfl⟩
 exact λhS=>by obtain⟨rfl,rfl⟩:=T3 hS;exact⟨k,aWP k,hk,rfl,_,rfl⟩
 refine JU (λh=>uL Fg hk h) (λa k h hk hS=>?_) (λ_ _=>⟨_,rfl⟩) hS;refine JU (λh=>awI Fg hk h) (λs k h hk hS=>?_) (λ_ _=>⟨_,rfl⟩) hS;refine JU (λh=>Rj Fg _ hk h) (λm k h hk hS=>?_) (λ_ _=>⟨_,rfl⟩) hS;refine JU (λh=>JP Fg _ hk h) (λ_ k h hk hS=>?_) (λ_ _=>⟨_,rfl⟩) hS;refine JU (λh=>Rj Fg _ hk h) (λd k h hk hS=>?_) (λ_ _=>⟨_,rfl⟩) hS;obtain⟨g,hg,hS⟩:=P8 hS;have hg:=aqU hg;obtain⟨z,hz,hS⟩:=P8 hS;dsimp only[aWO];rw[hg,Uu,hz,Uu];revert hS;cases Cy 1000000 (Bj z d.1);exact λhS=>by obtain⟨rfl,rfl⟩:=Vj hS;exact⟨k,aWP k,hk,rfl,rfl⟩
 exact λhS=>by obtain⟨rfl,rfl⟩:=T3 hS;exact⟨k,aWP k,hk,rfl,_,rfl⟩
theorem ahL(before:List Pt)(hb:before.length<=100000000)(AM:Int){k:Nat}(hk:k<=ts.length){r l}(hS:Zp en before AM (ts.drop k)=some (r,l)):pU ts k (J2 ⟨ts,k,en⟩ before AM) r l:=by
 refine JU (λh=>uL Fg hk h) (λv k1 h hk hS=>?_) (λ_ _=>⟨_,rfl⟩) hS;dsimp only[aWO];revert hS;cases hE:A8 ((before.length:Nat):Int) 0 with
 |true=>
  cases A8 v.1 0;exact λhS=>by obtain⟨rfl,rfl⟩:=T3 hS;exact⟨k1,aWP k1,hk,rfl,_,rfl⟩
  exact λhS=>yL Fg k AM v hk hS
 |false=>
  intro hS;have h0:before.length≠0:=λh=>wG hE (by rw[h];rfl);obtain⟨x,hx,hS⟩:=P8 hS;dsimp only[cond];rw[En (by omega)]
  have hg:Dk before (Jq ((before.length:Nat):Int) 1)=some x:=by
   have:Jq ((before.length:Nat):Int) 1=((before.length - 1:Nat):Int):=by rw[FW (by omega)];omega
   rw[this];unfold Dk;rw[if_pos (by omega),biN,hx]
  dsimp only;rw[hg,Uu];revert hS;cases My v.1 x.fr;cases My 64 ((before.length:Nat):Int);exact λhS=>yL Fg k AM v hk hS;exact λhS=>by obtain⟨rfl,rfl⟩:=T3 hS;exact⟨k1,aWP k1,hk,rfl,_,rfl⟩
  exact λhS=>by obtain⟨rfl,rfl⟩:=T3 hS;exact⟨k1,aWP k1,hk,rfl,_,rfl⟩
theorem yM(R:Aa)(k0:Int):∀(q:Nat)(ps:List Pt)(c:Int)(k:Nat) (r:(List Pt×Int)⊕Dg) (l:List Tk),ps.length<=100000000->k<=ts.length->Pw en q ps c (ts.drop k)=some (r,l) ->
 ∃k':Nat,k<=k'/\k'<=ts.length/\l=ts.drop k'/\∃n,B8 (λx=>BD R ⟨ts,k0,en⟩ x.1 x.2.1 x.2.2) n (ps,c,(k:Int))=some (match r with | .inl x=>.inl (x.1,x.2,(k':Int)) | .inr d=>.inr (.inr d,(k':Int))):=by
 intro q
 induction q with
 |zero=>intro ps c k r l hp hk hS;cases hS
 |succ q ih=>
  intro ps c k r l hp hk hS;rcases UF hS with ⟨x,s',h3,h4⟩ | ⟨d,h3,rfl⟩
  obtain⟨k',a1,a2,rfl,a4⟩:=ahL Fg ps hp c hk h3;obtain⟨hl,h4⟩:=Wl h4;rcases jV a2 h4 with ⟨h5,h6,h7⟩ | ⟨h5,h7⟩
  obtain⟨k2,b1,b2,b3,n,b4⟩:=ih (ps++[x.1]) x.2 (k'+1) r l (by simp only[aWQ,bhF];omega) h6 h7;refine⟨k2,by omega,b2,b3,n+1,?_⟩
  have hL:BD R ⟨ts,k0,en⟩ ps c (k:Int)=some (.nx (ps++[x.1],x.2,((k'+1:Nat):Int))):=by unfold BD;dsimp only at a4 ⊢;rw[a4,Uu];dsimp only[aWO];rw[B1 hl,JK a2,h5,Uu,Hg Fg a2];rfl
  show(BD R ⟨ts,k0,en⟩ ps c (k:Int)).bind _=_;rw[hL];exact b4;obtain⟨rfl,rfl⟩:=Vj h7;refine⟨k',a1,a2,rfl,1,?_⟩
  have hL:BD R ⟨ts,k0,en⟩ ps c (k:Int)=some (.ex (ps++[x.1],x.2,(k':Int))):=by unfold BD;dsimp only at a4 ⊢;rw[a4,Uu];dsimp only[aWO];rw[B1 hl,JK a2,h5,Uu];rfl
  show(BD R ⟨ts,k0,en⟩ ps c (k:Int)).bind _=_;rw[hL];rfl;obtain⟨k',a1,a2,a3,c',a4⟩:=ahL Fg ps hp c hk h3;refine⟨k',a1,a2,a3,1,?_⟩
  have hL:BD R ⟨ts,k0,en⟩ ps c (k:Int)=some (.rt (.inr d,(k':Int))):=by unfold BD;dsimp only at a4 ⊢;rw[a4,Uu];rfl
  show(BD R ⟨ts,k0,en⟩ ps c (k:Int)).bind _=_;rw[hL];rfl
omit Fg in
theorem aaH(R:Aa)(c:Int)(t:Tk)(kz:Int):∀(ps:List Pt)(acc:List Pc)(i:Nat) (r:(List Pc)⊕Dg) (s l:List Tk),NX c t.AO ps acc s=some (r,l) ->
 l=s/\Bs (λi y x=>JE R c kz t i y x) (λx=>x) ps i acc=some (match r with | .inl x=>.inl x | .inr d=>.inr (.inr d,kz)):=by
 intro ps
 induction ps with
 |nil=>
  intro acc i r s l hS;obtain⟨rfl,rfl⟩:=Vj hS;exact⟨rfl,rfl⟩
 |cons x ps ih=>
  intro acc i r s l hS;unfold NX at hS;obtain⟨z,hz,hS⟩:=P8 hS;rw[Bs];unfold JE;rw[hz,Uu];revert hS;cases Cy 1000000 (Bj x.num z);cases Cy (Bj x.num z) (-1000000);intro hS;obtain⟨hl,hS⟩:=Wl hS;obtain⟨rfl,h⟩:=ih _ (i+1) r s l hS;refine⟨rfl,?_⟩;dsimp only[cond];rw[B1 hl,Uu];exact h;intro hS;obtain⟨rfl,rfl⟩:=T3 hS;exact⟨rfl,rfl⟩;intro hS;obtain⟨rfl,rfl⟩:=T3 hS;exact⟨rfl,rfl⟩
theorem aFK{R:Aa}{g:Ek->Rd Nd}(hex:∀{k:Nat},k<=ts.length->∀{r l},g .ex (ts.drop k)=some (r,l)->Kk ts k (R.AL ⟨ts,k,en⟩) r l){k:Nat}(hk:k<=ts.length){r l}(hS:ZO en g (ts.drop k)=some (r,l)) :
   Kk ts k (J3 R ⟨ts,k,en⟩) r l:=by
 refine Bu (λh=>JP Fg _ hk h) (λt k1 h hk1 hS=>?_) (λ_ _=>rfl) hS;refine Bu (λh=>JP Fg _ hk1 h) (λ_ k2 h hk2 hS=>?_) (λ_ _=>rfl) hS;refine Bu (λh=>hex hk2 h) (λa k3 h hk3 hS=>?_) (λ_ _=>rfl) hS;refine Bu (λh=>JP Fg _ hk3 h) (λ_ k4 h wY hS=>?_) (λ_ _=>rfl) hS;dsimp only[aWO];rcases UF hS with ⟨x,s',h3,h4⟩ | ⟨d,h3,rfl⟩
 obtain⟨k',a1,a2,rfl,n,a4⟩:=yM Fg R (k:Int) _ [] 1 k4 _ _ (by simp) wY h3;rw[BB a4,Uu];refine M8 a1 ?_;dsimp only[F0];refine Bu (λh=>JP Fg _ a2 h) (λe k5 h hk5 hS=>?_) (λ_ _=>rfl) h4;obtain⟨hl,hS⟩:=Wl hS;dsimp only[aWO];rw[biT,show PK x.1.length=λy=>y from funext λy=>if_pos (by omega)];dsimp only;rcases UF hS with ⟨y,s2,h5,h6⟩ | ⟨d,h5,rfl⟩
 obtain⟨rfl,h⟩:=aaH R x.2 e (k5:Int) x.1 [] 0 _ _ _ h5;rw[h];exact EY hk5 rfl h6;obtain⟨rfl,h⟩:=aaH R x.2 e (k5:Int) x.1 [] 0 _ _ _ h5;rw[h];exact⟨k5,aWP _,hk5,rfl,rfl⟩;obtain⟨k',a1,a2,a3,n,a4⟩:=yM Fg R (k:Int) _ [] 1 k4 _ _ (by simp) wY h3;rw[BB a4,Uu];exact⟨k',a1,a2,a3,rfl⟩
theorem adF{R:Aa}{read:Rd Nd}(k0:Int)(PZ:∀{k:Nat},k<=ts.length->∀{r l},read (ts.drop k)=some (r,l)->Kk ts k (R.AL ⟨ts,k,en⟩) r l):∀(q:Nat)(ns:List Nd)(k:Nat) (r:(List Nd)⊕Dg) (l:List Tk),k<=ts.length->Re read q ns (ts.drop k)=some (r,l) ->
 ∃k':Nat,k<=k'/\k'<=ts.length/\l=ts.drop k'/\∃n,B8 (λx=>Bh R ⟨ts,k0,en⟩ x.1 x.2) n (ns,(k:Int))=some (match r with | .inl x=>.inl (x,(k':Int)) | .inr d=>.inr (.inr d,(k':Int))):=by
 intro q
 induction q with
 |zero=>intro ns k r l hk hS;cases hS
 |succ q ih=>
  intro ns k r l hk hS;rcases jV hk hS with ⟨h1,h2,hS⟩ | ⟨h1,hS⟩
  rcases UF hS with ⟨x,s',h3,h4⟩ | ⟨d,h3,rfl⟩
  obtain⟨k',a1,a2,rfl,a4⟩:=PZ h2 h3;obtain⟨hl,h4⟩:=Wl h4;obtain⟨k2,b1,b2,b3,n,b4⟩:=ih (ns++[x]) k' r l a2 h4;refine⟨k2,by omega,b2,b3,n+1,?_⟩
  have hL:Bh R ⟨ts,k0,en⟩ ns (k:Int)=some (.nx (ns++[x],(k':Int))):=by unfold Bh;dsimp only;rw[JK hk,h1,Uu,Hg Fg hk];dsimp only[cond];rw[a4,Uu];dsimp only[aWO];rw[B1 hl]
  show(Bh R ⟨ts,k0,en⟩ ns (k:Int)).bind _=_;rw[hL];exact b4;obtain⟨k',a1,a2,a3,a4⟩:=PZ h2 h3;refine⟨k',by omega,a2,a3,1,?_⟩
  have hL:Bh R ⟨ts,k0,en⟩ ns (k:Int)=some (.rt (.inr d,(k':Int))):=by unfold Bh;dsimp only;rw[JK hk,h1,Uu,Hg Fg hk];dsimp only[cond];rw[a4,Uu];rfl
  show(Bh R ⟨ts,k0,en⟩ ns (k:Int)).bind _=_;rw[hL];rfl;obtain⟨rfl,rfl⟩:=Vj hS;refine⟨k,aWP k,hk,rfl,1,?_⟩
  have hL:Bh R ⟨ts,k0,en⟩ ns (k:Int)=some (.ex (ns,(k:Int))):=by unfold Bh;dsimp only;rw[JK hk,h1,Uu];rfl
  show(Bh R ⟨ts,k0,en⟩ ns (k:Int)).bind _=_;rw[hL];rfl
theorem aBY{R:Aa}{read:Rd Nd}(PZ:∀{k:Nat},k<=ts.length->∀{r l},read (ts.drop k)=some (r,l)->Kk ts k (R.AL ⟨ts,k,en⟩) r l){k:Nat}(hk:k<=ts.length){r l}(hS:P9 read (ts.drop k)=some (r,l)):Kk ts k (Iq R ⟨ts,k,en⟩) r l:=by
 refine Bu (λh=>PZ hk h) (λx k1 h hk1 hS=>?_) (λ_ _=>rfl) hS;dsimp only[aWO];rcases jV hk1 hS with ⟨h1,h2,hS⟩ | ⟨h1,hS⟩
 rw[JK hk1,h1,Uu,Hg Fg hk1];refine M8 (biC k1) ?_;refine Bu (λh=>PZ h2 h) (λy k2 h hk2 hS=>?_) (λ_ _=>rfl) hS;obtain⟨hl,hS⟩:=Wl hS;dsimp only[aWO];rw[B1 hl];obtain⟨k',a1,a2,a3,n,a4⟩:=adF Fg (k:Int) PZ _ _ k2 _ _ hk2 hS;rw[BB a4,Uu];refine⟨k',a1,a2,a3,?_⟩;cases r<;>rfl
 rw[JK hk1,h1,Uu];exact EY hk1 rfl hS
theorem adG{read:Rd Nd}(k0:Int)(PZ:∀{k:Nat},k<=ts.length->∀{r l},read (ts.drop k)=some (r,l)->Kk ts k (AB ⟨ts,k,en⟩) r l):∀(q:Nat)(ns:List Nd)(k:Nat) (r:(List Nd)⊕Dg) (l:List Tk),k<=ts.length->Re read q ns (ts.drop k)=some (r,l) ->
 ∃k':Nat,k<=k'/\k'<=ts.length/\l=ts.drop k'/\∃n,B8 (λx=>AQ ⟨ts,k0,en⟩ x.1 x.2) n (ns,(k:Int))=some (match r with | .inl x=>.inl (x,(k':Int)) | .inr d=>.inr (.inr d,(k':Int))):=by
 intro q
 induction q with
 |zero=>intro ns k r l hk hS;cases hS
 |succ q ih=>
  intro ns k r l hk hS;rcases jV hk hS with ⟨h1,h2,hS⟩ | ⟨h1,hS⟩
  rcases UF hS with ⟨x,s',h3,h4⟩ | ⟨d,h3,rfl⟩
  obtain⟨k',a1,a2,rfl,a4⟩:=PZ h2 h3;obtain⟨hl,h4⟩:=Wl h4;obtain⟨k2,b1,b2,b3,n,b4⟩:=ih (ns++[x]) k' r l a2 h4;refine⟨k2,by omega,b2,b3,n+1,?_⟩
  have hL:AQ ⟨ts,k0,en⟩ ns (k:Int)=some (.nx (ns++[x],(k':Int))):=by unfold AQ;dsimp only;rw[JK hk,h1,Uu,Hg Fg hk];dsimp only[cond];rw[a4,Uu];dsimp only[aWO];rw[B1 hl]
  show(AQ ⟨ts,k0,en⟩ ns (k:Int)).bind _=_;rw[hL];exact b4;obtain⟨k',a1,a2,a3,a4⟩:=PZ h2 h3;refine⟨k',by omega,a2,a3,1,?_⟩
  have hL:AQ ⟨ts,k0,en⟩ ns (k:Int)=some (.rt (.inr d,(k':Int))):=by unfold AQ;dsimp only;rw[JK hk,h1,Uu,Hg Fg hk];dsimp only[cond];rw[a4,Uu];rfl
  show(AQ ⟨ts,k0,en⟩ ns (k:Int)).bind _=_;rw[hL];rfl;obtain⟨rfl,rfl⟩:=Vj hS;refine⟨k,aWP k,hk,rfl,1,?_⟩
  have hL:AQ ⟨ts,k0,en⟩ ns (k:Int)=some (.ex (ns,(k:Int))):=by unfold AQ;dsimp only;rw[JK hk,h1,Uu];rfl
  show(AQ ⟨ts,k0,en⟩ ns (k:Int)).bind _=_;rw[hL];rfl
theorem aBZ{read:Rd Nd}(PZ:∀{k:Nat},k<=ts.length->∀{r l},read (ts.drop k)=some (r,l)->Kk ts k (AB ⟨ts,k,en⟩) r l){k:Nat}(hk:k<=ts.length){r l}(hS:P9 read (ts.drop k)=some (r,l)):Kk ts k (F7 ⟨ts,k,en⟩) r l:=by
 refine Bu (λh=>PZ hk h) (λx k1 h hk1 hS=>?_) (λ_ _=>rfl) hS;dsimp only[aWO];rcases jV hk1 hS with ⟨h1,h2,hS⟩ | ⟨h1,hS⟩
 rw[JK hk1,h1,Uu,Hg Fg hk1];refine M8 (biC k1) ?_;refine Bu (λh=>PZ h2 h) (λy k2 h hk2 hS=>?_) (λ_ _=>rfl) hS;obtain⟨hl,hS⟩:=Wl hS;dsimp only[aWO];rw[B1 hl];obtain⟨k',a1,a2,a3,n,a4⟩:=adG Fg (k:Int) PZ _ _ k2 _ _ hk2 hS;rw[BB a4,Uu];refine⟨k',a1,a2,a3,?_⟩;cases r<;>rfl
 rw[JK hk1,h1,Uu];exact EY hk1 rfl hS
end
section
variable {ts:List Tk}(Fg:ts.length<=1000000){en:Int}{R:Aa}{g:Ek->Rd Nd}{li:Rd (List Nd)}(A:Agr R ts en g li)
include Fg A
theorem aMZ{k:Nat}(hk:k<=ts.length){r l}(hS:apT en g (ts.drop k)=some (r,l)):Kk ts k (Je R ⟨ts,k,en⟩) r l:=by
 refine Bu (λh=>A.l4 hk h) (λN k h hk hS=>?_) (λ_ _=>rfl) hS;dsimp only[aWO]
 have fin:∀{y:(Nd⊕Dg)×Int} (k0:Int),Cz R ⟨ts,k0,en⟩ (k:Int) N=some (.rt y)->(GJ (λ_:Unit=>Cz R ⟨ts,k0,en⟩ (k:Int) N) ()).bind (F0 (λ(_:Unit)=>none) (λv=>some v))=some y:=by
  intro y k0 hL
  have:B8 (λ_:Unit=>Cz R ⟨ts,k0,en⟩ (k:Int) N) 1 ()=some (.inr y):=by show(Cz R ⟨ts,k0,en⟩ (k:Int) N).bind _=_;rw[hL];rfl
  rw[BB this];rfl
 rcases aCP (en:=en) hk hS with ⟨x,h1,h2,hS⟩ | ⟨h2,hS⟩
 obtain⟨k',a1,a2,rfl,⟨n,b,hX,hb,rfl⟩ | ⟨d,hX,rfl⟩⟩:=tY Fg h1 (λh=>A.l4 h1 h) hS;refine⟨k',by omega,a2,rfl,fin _ ?_⟩;unfold Cz;dsimp only;rw[h2];dsimp only[bjW,cond];rw[Hg Fg hk];cases hE:Bd x.data.toList DP.data.toList <;>
 ·rw[hE] at hX;dsimp only[cond] at hX;dsimp only
  rw[hX];dsimp only[aWO];rw[hb]
 refine⟨k',by omega,a2,rfl,fin _ ?_⟩;unfold Cz;dsimp only;rw[h2];dsimp only[bjW,cond];rw[Hg Fg hk];cases hE:Bd x.data.toList DP.data.toList <;>
 ·rw[hE] at hX;dsimp only[cond] at hX;dsimp only
  rw[hX];rfl
 obtain⟨rfl,rfl⟩:=Vj hS;refine⟨k,aWP k,hk,rfl,fin _ ?_⟩;unfold Cz;dsimp only;rw[h2];rfl
theorem aYZ{k:Nat}(hk:k<=ts.length){r l}(hS:sS en g (ts.drop k)=some (r,l)):Kk ts k (GR R ⟨ts,k,en⟩) r l:=by
 unfold sS at hS;unfold GR;rw[JK hk,Uu];cases hx:Co Th (ts.drop k) with
 |true=>
  rw[hx] at hS;refine Bu (λh=>JP Fg _ hk h) (λt k h hk hS=>?_) (λ_ _=>rfl) hS;refine Bu (λh=>A.l2 hk h) (λN k h hk hS=>?_) (λ_ _=>rfl) hS;exact EY hk rfl hS
 |false=>
  rw[hx] at hS;obtain⟨k',a1,a2,a3,a4⟩:=A.l3 hk hS;refine⟨k',a1,a2,a3,?_⟩;dsimp only[cond];rw[a4,Uu];cases r with
  |inr d=>rfl
  |inl N=>
   dsimp only[aWO]
   have hL:B8 (λx:Int×ByteArray×ByteArray×Int×Int×Int×Int×Int×List Pc×List Nd×Int×Int=>EQ R ⟨ts,k,en⟩ x.1 x.2.1 x.2.2.1 x.2.2.2.1 x.2.2.2.2.1 x.2.2.2.2.2.1 x.2.2.2.2.2.2.1 x.2.2.2.2.2.2.2.1 x.2.2.2.2.2.2.2.2.1 x.2.2.2.2.2.2.2.2.2.1 x.2.2.2.2.2.2.2.2.2.2.1 x.2.2.2.2.2.2.2.2.2.2.2) 1 (N.kind,N.name,N.unit,N.n,N.fr,N.to,N.known,N.CW.den,N.CW.ps,N.kids,N.AO,(k':Int))=some (.inr (.inl N,(k':Int))):=by
    have:EQ R ⟨ts,k,en⟩ N.kind N.name N.unit N.n N.fr N.to N.known N.CW.den N.CW.ps N.kids N.AO (k':Int)=some (.rt (.inl N,(k':Int))):=by unfold EQ Hz;dsimp only[bjW,cond];rw[aQA]
    show(EQ R ⟨ts,k,en⟩ N.kind N.name N.unit N.n N.fr N.to N.known N.CW.den N.CW.ps N.kids N.AO (k':Int)).bind _=_;rw[this];rfl
   rw[BB hL];rfl
omit Fg A in
theorem Tp{F:Option ((Nd⊕Dg)×Int)}{k:Nat}{r l}(h:Kk ts k F r l):Kk ts k (F.bind λ(BS,Ba)=>aWO (λ(A9:Nd)=>some ((bqT A9:(Nd⊕Dg)),Ba)) (λ(EJ:Dg)=>some ((blT EJ:(Nd⊕Dg)),Ba)) BS) r l:=by obtain⟨k',a1,a2,a3,a4⟩:=h;refine⟨k',a1,a2,a3,?_⟩;rw[a4,Uu];cases r<;>rfl
theorem aMW{k:Nat}(hk:k<=ts.length){r l}(hS:fR en g li (ts.drop k)=some (r,l)):Kk ts k (Kx R ⟨ts,k,en⟩) r l:=by
 refine ZE hk (λt h1 h2 hS=>?_) (λ_=>rfl) hS;have hS:=mE h2 hS;dsimp only[aWO];rw[Hg Fg hk];refine M8 (biC k) ?_;refine Bu (λh=>JP Fg _ h1 h) (λ_ k h hk hS=>?_) (λ_ _=>rfl) hS;refine Bu (λh=>A.ex hk h) (λa k h hk hS=>?_) (λ_ _=>rfl) hS;dsimp only[aWO];rw[B1 (by omega)];refine Bu (λh=>JP Fg _ hk h) (λ_ k h hk hS=>?_) (λ_ _=>rfl) hS;refine Bu (λh=>A.li hk h) (λns k h hk hS=>?_) (λ_ _=>rfl) hS;obtain⟨hl,hS⟩:=Wl hS;dsimp only[aWO];rw[B1 (by simpa using hl)]
 cases hE:A8 ((ns.length:Nat):Int) 0 with
 |true=>
  have:ns=[]:=biJ (by have:=F3 hE;omega);subst this;refine Bu (λh=>JP Fg _ hk h) (λ_ k h hk hS=>?_) (λ_ _=>rfl) hS;exact EY hk rfl hS
 |false=>
  refine Bu (λh=>JP Fg _ hk h) (λ_ k h hk hS=>?_) (λ_ _=>rfl) hS;exact EY hk rfl hS
theorem aTA(t:Tk){k:Nat}(hk:k<=ts.length){r l}(hS:lD en g t (ts.drop k)=some (r,l)):Kk ts k (IB R ⟨ts,k,en⟩ t) r l:=by
 have one:∀{X:Nd} {r l},Nl (CX X) (ts.drop k)=some (r,l)->Kk ts k (some (.inl X,A1 (k:Int) 1)) r l:=by intro X r l h;obtain⟨h1,h2⟩:=auM hk h;rw[Hg Fg hk];exact M8 (biC k) (EY h1 rfl h2)
 revert hS;unfold lD IB;cases Bd t.text.data.toList Pe.data.toList;rotate_left;exact one;cases Bd t.text.data.toList Lg.data.toList;rotate_left;exact one;cases Bd t.text.data.toList QO.data.toList;rotate_left;intro hS;obtain⟨h1,hS⟩:=auM hk hS;dsimp only[cond];rw[Hg Fg hk];refine M8 (biC k) ?_;refine Bu (λh=>Rj Fg _ h1 h) (λa k h hk hS=>?_) (λ_ _=>rfl) hS;exact EY hk rfl hS;cases Bd t.text.data.toList Ei.data.toList;rotate_left;exact one;cases Bd t.text.data.toList PV.data.toList;rotate_left;exact one;cases Bd t.text.data.toList Hr.data.toList;rotate_left;exact one;cases Bd t.text.data.toList KP.data.toList;rotate_left;exact one;cases Bd t.text.data.toList GZ.data.toList;rotate_left;exact λhS=>Tp (A.ca hk hS);cases Bd t.text.data.toList Dm.data.toList;rotate_left;exact λhS=>Tp (A.ca hk hS);cases Bd t.text.data.toList G5.data.toList;rotate_left;exact λhS=>Tp (A.ta hk hS);cases Bd t.text.data.toList Ni.data.toList;rotate_left;intro hS;obtain⟨h1,hS⟩:=auM hk hS;dsimp only[cond];rw[Hg Fg hk];refine M8 (biC k) ?_;refine Bu (λh=>A.ex h1 h) (λa k h hk hS=>?_) (λ_ _=>rfl) hS;refine Bu (λh=>JP Fg _ hk h) (λ_ k h hk hS=>?_) (λ_ _=>rfl) hS;exact EY hk rfl hS;exact λhS=>EY hk rfl hS
theorem aMK{k:Nat}(hk:k<=ts.length){r l}(hS:vQ en g (ts.drop k)=some (r,l)):Kk ts k (Kv R ⟨ts,k,en⟩) r l:=by refine ZE hk (λt h1 h2 hS=>?_) (λ_=>rfl) hS;revert hS;dsimp only[aWO];cases A8 t.kind 3;rotate_left;intro hS;refine Bu (λh=>yC Fg hk h) (λn k h hk hS=>?_) (λ_ _=>rfl) hS;refine ahT hk (λhk1 hS=>?_) (λhS=>?_) hS;refine EY hk1 (Hg Fg hk) hS;exact EY hk rfl hS;cases A8 t.kind 2;rotate_left;intro hS;have hS:=mE h2 hS;dsimp only[cond];rw[Hg Fg hk];refine M8 (biC k) ?_;refine Bu (λh=>TO Fg FF h1 h) (λa k h hk hS=>?_) (λ_ _=>rfl) hS;obtain⟨c,hc,hS⟩:=P8 hS;dsimp only[aWO];rw[hc];exact EY hk rfl hS;intro hS;obtain⟨b,hb,hS⟩:=P8 hS;dsimp only[cond];rw[hb,Uu];cases b;exact Tp (A.wd t hk hS);have hS:=mE h2 hS;dsimp only;rw[Hg Fg hk];exact M8 (biC k) (EY h1 rfl hS)
end
theorem azI{ts:List Tk}(Fg:ts.length<=1000000)(en:Int):∀q:Nat,Agr (Ge q) ts en (gP en q).1 (gP en q).2:=by
 intro q
 induction q with
 |zero=>constructor<;>intros<;>rename_i h<;>cases h
 |succ q A=>
  constructor<;>simp only[Ge,Nk]
  case ex=>intro k hk r l h;exact Tp (A.l0 hk h)
  case l0=>intro k hk r l h;exact asR Fg (λhk _ _ h=>A.l1 hk h) hk h
  case l1=>intro k hk r l h;exact asS Fg (λhk _ _ h=>A.l2 hk h) hk h
  case l2=>intro k hk r l h;exact aYZ Fg A hk h
  case l3=>intro k hk r l h;exact aMZ Fg A hk h
  case l4=>intro k hk r l h;exact asT Fg (λhk _ _ h=>A.l5 hk h) hk h
  case l5=>intro k hk r l h;exact asU Fg (λhk _ _ h=>A.l6 hk h) hk h
  case l6=>intro k hk r l h;exact Tp (A.at_ hk h)
  case at_=>intro k hk r l h;exact aMK Fg A hk h
  case wd=>intro t k hk r l h;exact aTA Fg A t hk h
  case ca=>intro k hk r l h;exact aMW Fg A hk h
  case ta=>intro k hk r l h;exact aFK Fg (λhk _ _ h=>A.ex hk h) hk h
  case li=>intro k hk r l h;exact aBY Fg (λhk _ _ h=>A.ex hk h) hk h
section
variable (S:Int->Int->Prop)(en en':Int)(w:List Tk)
def TR(t t':Tk):Prop:=t.kind=t'.kind/\t.text=t'.text/\S t.AO t'.AO
inductive F2:List Tk->List Tk->Prop
 |nil:F2 [] []
 |cons {t t':Tk}{l l':List Tk}:TR S t t'->F2 l l'->F2 (t::l) (t'::l')
mutual
inductive NR:Nd->Nd->Prop
 |mk {k:Int}{nm u:ByteArray}{n f t kn:Int}{tb:Fn}{ks ks':List Nd}{a a':Int}:NRs ks ks'->S a a'->NR ⟨k,nm,u,n,f,t,kn,tb,ks,a⟩ ⟨k,nm,u,n,f,t,kn,tb,ks',a'⟩
inductive NRs:List Nd->List Nd->Prop
 |nil:NRs [] []
 |cons {n n':Nd}{l l':List Nd}:NR n n'->NRs l l'->NRs (n::l) (n'::l')
end
def DR(d d':Dg):Prop:=d.err=d'.err/\(S d.AO d'.AO\/d=⟨72,en⟩/\d'=⟨72,en'⟩)
inductive RR{α:Type}(Q:α->α->Prop):α⊕Dg->α⊕Dg->Prop
 |l {a a':α}:Q a a'->RR Q (.inl a) (.inl a')
 |r {d d':Dg}:DR S en en' d d'->RR Q (.inr d) (.inr d')
def Ends{α:Type}(b:Bool)(r:α⊕Dg)(s:List Tk):Prop:=s=[]/\(r=.inr ⟨72,en⟩\/b=false/\∃a,r=.inl a)
def RP{α:Type}(b:Bool)(Q:α->α->Prop)(m m':Rd α):Prop:=∀⦃l l1 s s':List Tk⦄ ⦃r r':α⊕Dg⦄,F2 S l l1->m l=some (r,s)->m' (l1++w)=some (r',s') ->
 (∃s1,s'=s1++w/\F2 S s s1/\RR S en en' Q r r')\/w≠[]/\Ends en b r s
def EO{α:Type}(b:Bool)(m:Rd α):Prop:=∀⦃r:α⊕Dg⦄ ⦃s:List Tk⦄,m []=some (r,s)->Ends en b r s
end
section
variable {S:Int->Int->Prop}{en en':Int}{w:List Tk}{α β:Type}{b:Bool}{Q:α->α->Prop}
inductive ER(S:Int->Int->Prop):Ek->Ek->Prop
 |ex:ER S .ex .ex
 |lv (i:Nat):ER S (.lv i) (.lv i)
 |at_:ER S .at_ .at_
 |wd {t t':Tk}:TR S t t'->ER S (.wd t) (.wd t')
 |ca:ER S .ca .ca
 |ta:ER S .ta .ta
structure Rel(S:Int->Int->Prop)(en en':Int)(w:List Tk)(g g':Ek->Rd Nd)(li li':Rd (List Nd)):Prop where
 rg:∀{e e'},ER S e e'->RP S en en' w false (NR S) (g e) (g' e')
 rli:RP S en en' w false (NRs S) li li'
 eg:∀e,(∀t,e≠.wd t)->EO en true (g e)
 eli:EO en true li
section
variable {g g':Ek->Rd Nd}{li li':Rd (List Nd)}(A:Rel S en en' w g g' li li')
include A
end
end
def uN{x:Int}(h:-9223372036854775808<=x/\x<=9223372036854775807):IntKind.i64.wrap x=x:=by unfold btL;simp[btM,bsT];omega
def wC{a b:Int}(ha:0<=a)(hb:0 < b)(h:a<=9223372036854775807):OM a b=some (a / b):=by unfold OM lE;rw[if_neg (by omega),bpD ha,uN];exact⟨by have:=bsL ha (bqH hb);omega,by have:=bsB b ha;omega⟩
structure Gd(t:Tk):Prop where
 num:t.kind=3->∃z,OK t.text=some (z,())/\0<=z/\z<=999999999999
 mZ:t.kind=3\/t.kind=4->∃z,Dy t=some z/\0<=z/\z<=999999999999
 date:t.kind=5->∃d e,Ep t.text=some (d,e)/\(e=0->0<=d/\d<=36524)
 len:t.text.data.toList.length<=6000
def Gl(l:List Tk):Prop:=∀t∈l,Gd t
section
variable {α β:Type}{n:Nat}{st:Bool}{P:α->Prop}{P2:β->Prop}
def UT(n:Nat)(st:Bool)(P:α->Prop)(m:Rd α):Prop:=∀⦃l:List Tk⦄,Gl l->l.length<=n->∃r s,m l=some (r,s)/\(∃k,s=l.drop k)/\∀a,r=.inl a->P a/\(st=true->s.length < l.length)
def Gl.drop{l:List Tk}(h:Gl l)(k:Nat):Gl (l.drop k):=λt ht=>h t (List.mem_of_mem_drop ht)
def fY{l:List Tk}{k j:Nat}:(l.drop k).drop j=l.drop (k+j):=by rw[biU]
def Bk{m:Rd α}{K:α->Rd β}(h1:UT n true P m)(h2:∀a,P a->1<=n->UT (n - 1) false P2 (K a)):UT n st P2 (A5 m K):=by
 intro l hg hl;obtain⟨r,s,e,⟨k,rfl⟩,hr⟩:=h1 hg hl;cases r with
 |inr d=>exact⟨.inr d,_,by unfold A5;rw[e],⟨k,rfl⟩,λa h=>by cases h⟩
 |inl a=>
  obtain⟨pa,hs⟩:=hr a rfl;have hs:=hs rfl;obtain⟨r2,s2,e2,⟨j,rfl⟩,hr2⟩:=h2 a pa (by omega) (hg.drop k) (by omega);refine⟨r2,_,by unfold A5;rw[e];exact e2,⟨k+j,fY⟩,λb hb=>⟨(hr2 b hb).1,λ_=>?_⟩⟩;simp only[bhI] at hs ⊢;omega
def aFX{m:Rd α}{K:α->Rd β}(h1:UT n false P m)(h2:∀a,P a->UT n st P2 (K a)):UT n st P2 (A5 m K):=by
 intro l hg hl;obtain⟨r,s,e,⟨k,rfl⟩,hr⟩:=h1 hg hl;cases r with
 |inr d=>exact⟨.inr d,_,by unfold A5;rw[e],⟨k,rfl⟩,λa h=>by cases h⟩
 |inl a=>
  obtain⟨pa,_⟩:=hr a rfl;obtain⟨r2,s2,e2,⟨j,rfl⟩,hr2⟩:=h2 a pa (hg.drop k) (by rw[bhI];omega);refine⟨r2,_,by unfold A5;rw[e];exact e2,⟨k+j,fY⟩,λb hb=>⟨(hr2 b hb).1,λh=>?_⟩⟩;have:=(hr2 b hb).2 h;simp only[bhI] at this ⊢;omega
def UT.ayP{m:Rd α}(h:UT n st P m):UT n false P m:=λl hg hl=>by
 obtain⟨r,s,e,h1,h2⟩:=h hg hl;exact⟨r,s,e,h1,λa ha=>⟨(h2 a ha).1,λh=>by cases h⟩⟩
def UT.imp{Q:α->Prop}{m:Rd α}(h:UT n st P m)(f:∀a,P a->Q a):UT n st Q m:=λl hg hl=>by
 obtain⟨r,s,e,h1,h2⟩:=h hg hl;exact⟨r,s,e,h1,λa ha=>⟨f a (h2 a ha).1,(h2 a ha).2⟩⟩
def UT.le{n':Nat}{m:Rd α}(h:UT n st P m)(hn:n'<=n):UT n' st P m:=λ_ hg hl=>h hg (by omega)
def Eh{a:α}(h:P a):UT n false P (CX a):=λl _ _=>⟨.inl a,l,rfl,⟨0,rfl⟩,λb hb=>by cases hb;exact⟨h,λh=>by cases h⟩⟩
def J7{e p:Int}:UT n st P (IE e p):=λl _ _=>⟨_,l,rfl,⟨0,rfl⟩,λb hb=>by cases hb⟩
def QF{X:Option β}{K:β->Rd α}(h:∃b,X=some b/\UT n st P (K b)):UT n st P (H9 X K):=by obtain⟨b,rfl,h⟩:=h;exact h
def kM{en:Int}{K:Tk->Rd α}(h:∀t,Gd t->∀s,Gl (t::s)->(t::s).length<=n->∃r s',K t (t::s)=some (r,s')/\(∃k,s'=(t::s).drop k)/\∀a,r=.inl a->P a/\(st=true->s'.length < (t::s).length)):UT n st P (Sd en K):=by intro l hg hl;cases l with|nil=>exact⟨_,[],rfl,⟨0,rfl⟩,λa h=>by cases h⟩|cons t s=>exact h t (hg t (biK ..)) s hg hl
def Vq{K:Rd α}(h:UT (n - 1) false P K){t:Tk}{s:List Tk}(hg:Gl (t::s))(hl:(t::s).length<=n) :
   ∃r s',Nl K (t::s)=some (r,s')/\(∃k,s'=(t::s).drop k)/\∀a,r=.inl a->P a/\(st=true->s'.length < (t::s).length):=by
 have hl':s.length+1<=n:=hl;obtain⟨r,s2,e,⟨k,rfl⟩,hr⟩:=h (l:=s) (λt ht=>hg t (biB _ ht)) (by omega);refine⟨r,_,e,⟨k+1,rfl⟩,λa ha=>⟨(hr a ha).1,λ_=>?_⟩⟩;rw[bhI,bhE];omega
def ZV{x:ByteArray}{A B:Rd α}(h1:1<=n->UT (n - 1) false P A)(h2:UT n st P B):UT n st P (NC x A B):=by
 intro l hg hl;unfold NC;cases hx:Co x l with
 |false=>exact h2 hg hl
 |true=>
  cases l with|nil=>cases hx|cons t s=>exact Vq (h1 (by simp only[bhE] at hl;omega)) hg hl
def ZU{c:Nat}{m:Rd α}(hc:c<=100000000)(h:UT n st P m):UT n st P (Lq c m):=by intro l hg hl;unfold Lq;rw[B1 hc];exact h hg hl
def GV{c:Bool}{A B:Rd α}(h1:c=true->UT n st P A)(h2:c=false->UT n st P B):UT n st P (cond c A B):=by cases c;exact h2 rfl;exact h1 rfl
end
section
variable {n:Nat}{en:Int}{st:Bool}
def PG{f:Tk->Option Bool}(hf:∀t,∃b,f t=some b):UT n st (λt=>Gd t/\f t=some true) (Ig en f):=by refine kM λt hg s nR hl=>?_;obtain⟨b,hb⟩:=hf t;unfold H9;rw[hb];cases b with|true=>exact Vq (Eh ⟨hg,hb⟩) nR hl|false=>exact J7 nR hl
def Ex{c:Bool}{α:Type}{x y:Option α}(h1:∃z,x=some z)(h2:∃z,y=some z):∃z,cond c x y=some z:=by cases c;exact h2;exact h1
def F8(x:ByteArray):UT n st (λ_=>True) (Ff en x):=(PG λt=>Ex ⟨_,rfl⟩ ⟨_,rfl⟩).imp λ_ _=>trivial
def aA(t:Tk):∃b,Cr t=some b:=by unfold Cr;rw[aJG];exact Ex (Ex ⟨_,rfl⟩ ⟨_,rfl⟩) ⟨_,rfl⟩
def Vl(x:ByteArray):∃b,Da x=some b:=Ex ⟨_,rfl⟩ (Ex ⟨_,rfl⟩ (Ex ⟨_,rfl⟩ (Ex ⟨_,rfl⟩ ⟨_,rfl⟩)))
def eA:UT n st (λt=>Gd t/\Cr t=some true) (iU en):=PG aA
def aiT:UT n st (λt=>Gd t/\It t=some true) (aaS en):=PG λt=>Ex ⟨_,rfl⟩ (Ex ⟨_,rfl⟩ (Ex ⟨_,rfl⟩ (Ex ⟨_,rfl⟩ ⟨_,rfl⟩)))
def aiS:UT n st (λt=>Gd t/\Ci t=some true) (oP en):=PG λt=>by
 unfold Ci;obtain⟨b,hb⟩:=Vl t.text;rw[hb];exact Ex ⟨_,rfl⟩ ⟨_,rfl⟩
def sA{a b:Int}{x:Bool}(h:cond (A8 a b) (some true) (some false)=some x):x=A8 a b:=by revert h;cases A8 a b<;>exact λh=>(biA h).symm
def pI:UT n st (λp:Int×Int=>0<=p.1/\p.1<=999999999999) (Tj en):=by refine Bk (PG λt=>Ex ⟨_,rfl⟩ ⟨_,rfl⟩) λt ht _=>?_;obtain⟨z,h1,h2⟩:=ht.1.num (F3 (sA ht.2).symm);exact QF ⟨_,h1,Eh h2⟩
def QG(least:Int):UT n st (λp:Int×Int=>least<=p.1/\p.1<=1000000) (M4 en least) :=
 Bk pI λp hp _=>GV (λ_=>J7) λh1=>GV (λ_=>J7) λh2=>Eh ⟨Lx h1,Lx h2⟩
def dZ(least:Int):UT n st (λd:Int=>least<=d/\0<=d/\d<=36524) (X0 en least):=by refine Bk (PG λt=>Ex ⟨_,rfl⟩ ⟨_,rfl⟩) λt ht _=>?_;obtain⟨d,e,h1,h2⟩:=ht.1.date (F3 (sA ht.2).symm);exact QF ⟨_,h1,GV (λh=>GV (λ_=>J7) λh3=>Eh ⟨Lx h3,h2 (F3 h)⟩) λ_=>J7⟩
def aiP:UT n st (λ_=>True) (gX en) :=
 Bk (F8 _) λ_ _ _=>Bk (QG _) λ_ _ _=>Bk (F8 _) λ_ _ _=>Bk (dZ _) λ_ _ _=>
  ZV (λ_=>Bk (dZ _) λ_ _ _=>Bk (F8 _) λ_ _ _=>Bk (dZ _) λ_ _ _=>Eh trivial) (Bk (F8 _) λ_ _ _=>Bk (dZ _) λ_ _ _=>Eh trivial)
def aiO:UT n st (λ_=>True) (UK en):=by refine kM λt hg s nR hl=>Vq ((Bk eA λm _ _=>Bk (F8 _) λ_ _ _=>Bk aiT λu _ _=>GV (λ_=>Bk aiS λr _ _=>?_) λ_=>Bk (F8 _) λ_ _ _=>Eh trivial)) nR hl;obtain⟨b,hb⟩:=Vl r.text;exact QF ⟨b,hb,Bk (F8 _) λ_ _ _=>Eh trivial⟩
def Wv:UT n st (λ_=>True) (F4 en):=Bk (QG _) λ_ _ _=>Eh trivial
def kN:UT n st (λp:Int×Int=>0<=p.1/\p.1<=999999999999) (TU en):=by
 refine Bk (PG λt=>Ex ⟨_,rfl⟩ (Ex ⟨_,rfl⟩ ⟨_,rfl⟩)) λt ht _=>?_
 have hk:t.kind=3\/t.kind=4:=by
  have h:=ht.2;unfold D0 at h;cases h4:A8 t.kind 4 with
  |true=>exact .inr (F3 h4)
  |false=>
   rw[h4] at h;exact .inl (F3 (sA h).symm)
 obtain⟨z,h1,h2⟩:=ht.1.mZ hk;exact QF ⟨_,h1,GV (λ_=>GV (λ_=>Eh h2) λ_=>J7) λ_=>Eh h2⟩
def aGB:UT n st (λs:Int=>s=1\/s=-1) (oU en) :=
 Bk (PG λt=>Ex ⟨_,rfl⟩ (Ex ⟨_,rfl⟩ ⟨_,rfl⟩)) λt _ _=>GV (λ_=>Eh (.inr rfl)) λ_=>Eh (.inl rfl)
def PcP(x:Pt×Int):Prop:=1<=x.2/\x.2<=1000000/\1<=x.1.den/\x.1.den<=1000000/\-1000000<=x.1.num/\x.1.num<=1000000
def pK{AM:Int}(hc:1<=AM/\AM<=1000000)(from_ a:Int):UT n st PcP (Tt en AM from_ a):=by
 refine Bk aGB λs hs _=>Bk (QG _) λm hm _=>Bk (F8 _) λ_ _ _=>Bk (QG _) λd hd _=>?_;obtain⟨g,h1,h2,⟨c1,h3⟩,⟨c2,h4⟩⟩:=aqV hc.1 (show(0:Int)<=d.1 by omega);refine QF ⟨g,h1,QF ⟨_,wC (by omega) (by omega) (by omega),GV (λ_=>J7) λh5=>Eh ?_⟩⟩;have hq:AM / g=c1:=by rw[h3,bpU _ (by omega)]
 have hc1:1<=c1:=by by_cases h:1<=c1;exact h;have:=bnM (show 0<=g by omega) (show c1<=0 by omega);omega
 have hc2:c1<=1000000:=by have:=bmK h2 (show 0<=c1 by omega);omega
 have hw:Bj (AM / g) d.1=c1*d.1:=by rw[hq];have a1:=bqR hc2 hd.2 (by omega) (by omega);have a2:=bsS (show 0<=c1 by omega) (show 0<=d.1 by omega);exact JM (by omega)
 have h6:=Lx h5
 have a1:1<=c1*d.1:=by have:=bmK hc1 (show 0<=d.1 by omega);omega
 refine⟨by rw[hw];exact a1,h6,hd.1,hd.2,?_⟩;dsimp only;rcases hs with rfl | rfl
 rw[JM (by omega)];omega;rw[JM (by omega)];omega
def pJ{AM:Int}(hc:1<=AM/\AM<=1000000)(from_:Int):UT n st PcP (Tr en AM from_) :=
 Bk (F8 _) λ_ _ _=>ZV (λ_=>Bk kN λ_ _ _=>pK hc _ _) (Bk kN λ_ _ _=>pK hc _ _)
def ayG(before:List Pt){AM:Int}(hc:1<=AM/\AM<=1000000):UT n st (λx=>PcP x/\before.length<=63) (Zp en before AM):=by refine Bk kN λv hv _=>GV (λh=>GV (λ_=>(pJ hc _).imp λx hx=>⟨hx,?_⟩) λ_=>J7) λh=>?_;have:=F3 h;omega;have hb:before.length≠0:=λe=>wG h (by rw[e];rfl);refine QF ⟨before[before.length - 1]'(by omega),aBD (by omega),GV (λ_=>J7) λ_=>GV (λ_=>J7) λh2=>(pJ hc _).imp λx hx=>⟨hx,?_⟩⟩;have:=aYJ h2;omega
end
section
variable {α β:Type}{n:Nat}{en:Int}{st:Bool}{P:α->Prop}
abbrev TT{α:Type}:α->Prop:=λ_=>True
theorem aaV{K:Nat->Rd α}(h:∀k,k<=n->UT k st P (K (k+1))):UT n st P (λs=>K (s.length+1) s):=λl hg hl=>h l.length hl hg (aWP _)
theorem aGA{read:Rd Nd}:∀(q n:Nat)(ns:List Nd),n < q->ns.length+n<=100000->UT n true TT read->UT n false (λr:List Nd=>r.length<=ns.length+n) (Re read q ns):=by
 intro q
 induction q with
 |zero=>intro n ns h;omega
 |succ q ih=>
  intro n ns hn hl hr;refine ZV (λh1=>Bk (hr.le (by omega)) λx _ h2=>ZU (by omega) ?_) (Eh (by omega));refine(ih (n - 1 - 1) (ns++[x]) (by omega) (by simp only[aWQ,bhF];omega) (hr.le (by omega))).imp λr hr=>?_;simp only[aWQ,bhF] at hr;omega
theorem aiR{read:Rd Nd}(hn:n<=10000)(hr:UT n true TT read):UT n st (λr:List Nd=>r.length<=n+1) (P9 read) :=
 Bk hr λx _ h1=>aaV (K:=λq=>Re read q [x]) λk hk=>(aGA (k+1) k [x] (by omega) (by simp only[bhF];omega) (hr.le (by omega))).imp λr h=>by simp only[bhF] at h;omega
theorem aDN:∃y,Me Md Md ID 1=some y:=⟨_,rfl⟩
theorem aDM:∃y,Me IT Md ID 1=some y:=⟨_,rfl⟩
theorem vR(op:ByteArray)(l r:Nd):∃x,AU op l r=some x:=by
 unfold AU;cases h1:Bd op.data.toList Md.data.toList with
 |true=>
  obtain⟨y,hy⟩:=aDN;rw[gD h1,hy];exact⟨_,rfl⟩
 |false=>
  cases h2:Bd op.data.toList IT.data.toList with
  |true=>
   obtain⟨y,hy⟩:=aDM;rw[gD h2,hy];exact⟨_,rfl⟩
  |false=>exact⟨_,rfl⟩
theorem aKM{yes:ByteArray->Rd α}{no:Rd α}(h1:∀x,1<=n->UT (n - 1) false P (yes x))(h2:UT n st P no):∀ops:List ByteArray,UT n st P (opR yes no ops):=by
 intro ops
 induction ops with|nil=>exact h2|cons x ops ih=>exact ZV (h1 x) ih
theorem aaX{sub:Rd Nd}(h:UT n true TT sub)(op:ByteArray)(l:Nd):UT n st TT (ND en sub op l) :=
 Bk (GV (λ_=>Wv) λ_=>h) λr _ _=>by
  obtain⟨x,hx⟩:=vR op l r;exact QF ⟨x,hx,Eh trivial⟩
theorem ayF{ops:List ByteArray}{sub:Rd Nd}:∀(q n:Nat)(l:Nd),n < q->UT n true TT sub->UT n false TT (Kn en ops sub q l):=by
 intro q
 induction q with
 |zero=>intro n l h;omega
 |succ q ih=>
  intro n l hn hs;exact aKM (λx h1=>Bk (aaX (hs.le (by omega)) x l) λb _ h2=>ih (n - 1 - 1) b (by omega) (hs.le (by omega))) (Eh trivial) ops
def PsP(r:List Pt×Int):Prop:=r.1.length<=64/\1<=r.2/\r.2<=1000000/\∀x∈r.1,1<=x.den/\-1000000<=x.num/\x.num<=1000000
theorem anJ:∀(q n:Nat)(ps:List Pt)(c:Int),n < q->1<=c->c<=1000000->(∀x∈ps,1<=x.den/\-1000000<=x.num/\x.num<=1000000)->UT n st PsP (Pw en q ps c):=by
 intro q
 induction q generalizing st with
 |zero=>intro n ps c h;omega
 |succ q ih=>
  intro n ps c hn h1 h2 h3;refine Bk (ayG ps ⟨h1,h2⟩) λx hx h4=>?_;obtain⟨⟨a1,a2,a3,a4,a5,a6⟩,hb⟩:=hx
  have h5:∀y∈ps++[x.1],1<=y.den/\-1000000<=y.num/\y.num<=1000000:=by
   intro y hy;rcases biI.1 hy with hy | hy
   exact h3 y hy;rw[biQ.1 hy];exact⟨a3,a5,a6⟩
  exact ZU (by omega) (ZV (λh6=>ih (n - 1 - 1) _ _ (by omega) a1 a2 h5) (Eh ⟨by simp only[aWQ,bhF];omega,a1,a2,h5⟩))
theorem anK{c:Int}(hc:1<=c/\c<=1000000)(p:Int):∀(ps:List Pt)(acc:List Pc),(∀x∈ps,1<=x.den)->acc.length+ps.length<=1000->UT n false TT (NX c p ps acc):=by
 intro ps
 induction ps with
 |nil=>intro acc _ _;exact Eh trivial
 |cons x ps ih=>
  intro acc h1 h2;have:=h1 x (biK ..);simp only[bhE] at h2;exact QF ⟨_,wC (by omega) (by omega) (by omega),GV (λ_=>J7) λ_=>GV (λ_=>J7) λ_=>ZU (by omega) (ih _ (λy hy=>h1 y (biB _ hy)) (by simp only[aWQ,bhF];omega))⟩
def UW(n:Nat)(m:Rd Nd):Prop:=∀t s,Gl (t::s)->(t::s).length<=n->∃r s',m (t::s)=some (r,s')/\(∃k,s'=(t::s).drop k)/\∀a,r=.inl a->True/\(true=true->s'.length < (t::s).length)
structure Tot(q:Nat)(g:Ek->Rd Nd)(li:Rd (List Nd)):Prop where
 ex:∀n,n<=10000->10*n+11<=q->UT n true TT (g .ex)
 lv:∀i n,i<=6->n<=10000->10*n+10 - i<=q->UT n true TT (g (.lv i))
 at_:∀n,n<=10000->10*n+3<=q->UT n true TT (g .at_)
 wd:∀t n,n<=10000->10*n+2<=q->UW n (g (.wd t))
 ca:∀n,n<=10000->10*n+1<=q->UT n true TT (g .ca)
 ta:∀n,n<=10000->10*n+1<=q->UT n true TT (g .ta)
 li:∀n,n<=10000->10*n+12<=q->UT n true (λr:List Nd=>r.length<=n+1) li
section
variable {q:Nat}{g:Ek->Rd Nd}{li:Rd (List Nd)}(A:Tot q g li)
include A
theorem YL{i:Nat}(hi:i<=5)(hn:n<=10000)(hq:10*n+9 - i<=q):UT n true TT (Tb en g i) :=
 Bk (A.lv (i+1) n (by omega) hn (by omega)) λl _ h1=>aaV (K:=λq=>Kn en (opsOf i) (g (.lv (i+1))) q l) λk hk=>ayF (k+1) k l (by omega) (A.lv (i+1) k (by omega) (by omega) (by omega))
theorem aFZ(hn:n<=10000)(hq:10*n+6<=q):UT n true TT (apT en g) :=
 Bk (A.lv 4 n (by omega) hn (by omega)) λl _ h1=>aKM (λx h2=>aaX (A.lv 4 _ (by omega) (by omega) (by omega)) x l) (Eh trivial) _
theorem aST(hn:n<=10000)(hq:10*n+7<=q):UT n true TT (sS en g):=by intro l hg hl;unfold sS;cases hx:Co Th l with|false=>exact A.lv 3 n (by omega) hn (by omega) hg hl|true=>exact Bk (F8 _) (λt _ h1=>Bk (A.lv 2 (n - 1) (by omega) (by omega) (by omega)) λk _ _=>Eh trivial) hg hl
theorem aFY(hn:n<=10000)(hq:10*n<=q):UT n true TT (fR en g li):=by refine kM λt hg s nR hl=>Vq (Bk (F8 _) λ_ _ h1=>Bk (A.ex _ (by omega) (by omega)) λa _ h2=>Bk (F8 _) λ_ _ h3=>Bk (A.li _ (by omega) (by omega)) λl hl h4=>ZU (by omega) (Bk (F8 _) λ_ _ _=>Eh trivial)) nR hl
theorem ayH(hn:n<=10000)(hq:10*n<=q):UT n true TT (ZO en g):=by refine Bk (F8 _) λt _ h1=>Bk (F8 _) λ_ _ h2=>Bk (A.ex _ (by omega) (by omega)) λa _ h3=>Bk (F8 _) λ_ _ h4=>Bk (P:=PsP) (aaV (K:=λq=>Pw en q [] 1) λk hk=>anJ (k+1) k [] 1 (by omega) (by omega) (by omega) (λx hx=>by cases hx)) λr hr h5=>Bk (F8 _) λe _ h6=>?_;exact ZU (by have:=hr.1;omega) (aFX (anK ⟨hr.2.1,hr.2.2.1⟩ _ _ _ (λx hx=>(hr.2.2.2 x hx).1) (by have:=hr.1;simp only[biV];omega)) λ_ _=>Eh trivial)
theorem aGC(t:Tk)(hn:n<=10000)(hq:10*n+1<=q):UW n (lD en g t):=by
 intro t' s hg hl;have one:∀{x:Nd},∃r s',Nl (CX x) (t'::s)=some (r,s')/\(∃k,s'=(t'::s).drop k)/\∀a,r=.inl a->True/\(true=true->s'.length < (t'::s).length):=λ{x}=>Vq (Eh trivial) hg hl;have h1:1<=n:=by simp only[bhE] at hl;omega
 unfold lD;cases Bd t.text.data.toList Pe.data.toList;rotate_left;exact one;cases Bd t.text.data.toList Lg.data.toList;rotate_left;exact one;cases Bd t.text.data.toList QO.data.toList;rotate_left;exact Vq (Bk (QG _) λ_ _ _=>Eh trivial) hg hl;cases Bd t.text.data.toList Ei.data.toList;rotate_left;exact one;cases Bd t.text.data.toList PV.data.toList;rotate_left;exact one;cases Bd t.text.data.toList Hr.data.toList;rotate_left;exact one;cases Bd t.text.data.toList KP.data.toList;rotate_left;exact one;cases Bd t.text.data.toList GZ.data.toList;rotate_left;exact A.ca n hn hq hg hl;cases Bd t.text.data.toList Dm.data.toList;rotate_left;exact A.ca n hn hq hg hl;cases Bd t.text.data.toList G5.data.toList;rotate_left;exact A.ta n hn hq hg hl;cases Bd t.text.data.toList Ni.data.toList;rotate_left;exact Vq (UT.ayP (Bk (st:=true) (A.ex (n - 1) (by omega) (by omega)) λ_ _ _=>Bk (F8 _) λ_ _ _=>Eh trivial)) hg hl;exact J7 (st:=true) (P:=TT) hg hl
theorem aFW(hn:n<=10000)(hq:10*n+2<=q):UT n true TT (vQ en g):=by refine kM λt ht s hg hl=>?_;cases A8 t.kind 3;rotate_left;exact Bk (st:=true) (P2:=TT) pI (λ_ _ _=>ZV (λ_=>Eh trivial) (Eh trivial)) hg hl;cases A8 t.kind 2;rotate_left;refine Vq (Bk (PG λt=>Ex ⟨_,rfl⟩ ⟨_,rfl⟩) λa ha _=>?_) hg hl;obtain⟨z,h1,_⟩:=ha.1.mZ (.inr (F3 (sA ha.2).symm));exact QF ⟨z,h1,Eh trivial⟩;obtain⟨b,hb⟩:=aA t;unfold cond H9;dsimp only;rw[hb];cases b;exact A.wd t n hn hq t s hg hl;exact Vq (Eh trivial) hg hl
end
theorem aFQ:∀q:Nat,Tot q (gP en q).1 (gP en q).2:=by
 intro q
 induction q with
 |zero=>constructor<;>intros<;>omega
 |succ q A=>
  constructor
  case ex=>intro n hn hq;exact A.lv 0 n (by omega) hn (by omega)
  case lv=>
   intro i n hi hn hq;show UT n true TT (aM en (gP en q).1 (gP en q).2 (.lv i));have:i=0\/i=1\/i=2\/i=3\/i=4\/i=5\/i=6:=by omega
   rcases this with rfl | rfl | rfl | rfl | rfl | rfl | rfl
   exact YL A (by omega) hn (by omega);exact YL A (by omega) hn (by omega);exact aST A hn (by omega);exact aFZ A hn (by omega);exact YL A (by omega) hn (by omega);exact YL A (by omega) hn (by omega);exact A.at_ n hn (by omega)
  case at_=>intro n hn hq;exact aFW A hn (by omega)
  case wd=>intro t n hn hq;exact aGC A t hn (by omega)
  case ca=>intro n hn hq;exact aFY A hn (by omega)
  case ta=>intro n hn hq;exact ayH A hn (by omega)
  case li=>intro n hn hq;exact aiR hn (A.ex n hn (by omega))
end
section
variable {α β:Type}
def Rf(m m':Rd α):Prop:=∀l y,m l=some y->m' l=some y
def Rf.refl(m:Rd α):Rf m m:=λ_ _ h=>h
def Lr{m m':Rd α}{K K':α->Rd β}(h1:Rf m m')(h2:∀a,Rf (K a) (K' a)):Rf (A5 m K) (A5 m' K'):=by
 intro l y h;unfold A5 at h ⊢;cases hm:m l with
 |none=>rw[hm] at h;cases h
 |some p=>
  rw[hm] at h;rw[h1 l p hm];obtain⟨a | d,s⟩:=p;exact h2 a s y h;exact h
def aRC{x:Option α}{K K':α->Rd β}(h:∀a,Rf (K a) (K' a)):Rf (H9 x K) (H9 x K'):=by intro l y;unfold H9;cases x with|none=>exact λh=>h|some a=>exact h a l y
def aKD{en:Int}{K K':Tk->Rd β}(h:∀t,Rf (K t) (K' t)):Rf (Sd en K) (Sd en K'):=by intro l y;cases l with|nil=>exact λh=>h|cons t s=>exact h t (t::s) y
def avN{m m':Rd β}(h:Rf m m'):Rf (Nl m) (Nl m'):=by intro l y;cases l with|nil=>exact λh=>h|cons t s=>exact h s y
def JI{b:Bool}{m n m' n':Rd β}(h1:Rf m m')(h2:Rf n n'):Rf (cond b m n) (cond b m' n'):=by cases b;exact h2;exact h1
def avP{x:ByteArray}{a b a' b':Rd β}(h1:Rf a a')(h2:Rf b b'):Rf (NC x a b) (NC x a' b'):=by intro l y;unfold NC;cases Co x l with|true=>exact avN h1 l y|false=>exact h2 l y
def aRD{n:Nat}{m m':Rd β}(h:Rf m m'):Rf (Lq n m) (Lq n m'):=by intro l y;unfold Lq G8;split;exact h l y;exact λh=>h
def avM{K K':Nat->Rd β}(h:∀n,Rf (K n) (K' n)):Rf (λs=>K (s.length+1) s) (λs=>K' (s.length+1) s):=λl y=>h _ l y
end
section
variable {en:Int}
def ahV{m m':Rd Nd}(h:Rf m m'):∀(q:Nat)(l:List Nd),Rf (Re m q l) (Re m' q l)
 |0,_=>Rf.refl _
 |q+1,l=>by
  unfold Re;exact avP (Lr h λn=>aRD (ahV h q _)) (Rf.refl _)
def aDP{m m':Rd Nd}(h:Rf m m'):Rf (P9 m) (P9 m'):=Lr h λn=>avM λk=>ahV h k [n]
structure Rfg(g g':Ek->Rd Nd)(li li':Rd (List Nd)):Prop where
 g:∀e,Rf (g e) (g' e)
 li:Rf li li'
def avO{α:Type}{yes bbH:ByteArray->Rd α}{no no':Rd α}(h1:∀x,Rf (yes x) (bbH x))(h2:Rf no no'):∀ops:List ByteArray,Rf (opR yes no ops) (opR bbH no' ops)
 |[]=>h2
 |x::xs=>avP (h1 x) (avO h1 h2 xs)
def zJ{sub awX:Rd Nd}(h:Rf sub awX)(op:ByteArray)(l:Nd):Rf (ND en sub op l) (ND en awX op l):=Lr (JI (Rf.refl _) h) λr=>Rf.refl _
def zH{ops:List ByteArray}{sub awX:Rd Nd}(h:Rf sub awX):∀(q:Nat)(l:Nd),Rf (Kn en ops sub q l) (Kn en ops awX q l)
 |0,_=>Rf.refl _
 |q+1,l=>by
  unfold Kn;exact avO (λop=>Lr (zJ h op l) λb=>zH h q b) (Rf.refl _) ops
def aDQ{g g':Ek->Rd Nd}{li li':Rd (List Nd)}(A:Rfg g g' li li')(e:Ek):Rf (aM en g li e) (aM en g' li' e):=by
 have lv:∀i,Rf (Tb en g i) (Tb en g' i):=λi=>Lr (A.g (.lv (i+1))) λl=>avM λk=>zH (A.g (.lv (i+1))) k l;cases e with
 |ex=>exact A.g (.lv 0)
 |lv i=>
  rcases(show i=0\/i=1\/i=2\/i=3\/i=4\/i=5\/i=6\/7<=i by omega) with rfl | rfl | rfl | rfl | rfl | rfl | rfl | h
  exact lv 0;exact lv 1;intro s y;show sS en g s=some y->sS en g' s=some y;unfold sS;cases Co Th s with|true=>exact(Lr (Rf.refl (Ff en Th)) λt=>Lr (A.g (.lv 2)) λk=>Rf.refl (CX (Dd 15 bE bE 0 [k] t.AO))) s y|false=>exact A.g (.lv 3) s y
  exact Lr (A.g (.lv 4)) λl=>avO (λop=>zJ (A.g (.lv 4)) op l) (Rf.refl _) (opsOf 3);exact lv 4;exact lv 5;exact A.g .at_;obtain⟨m,rfl⟩:∃m,i=m+7:=⟨i - 7,by omega⟩;exact lv (m+7)
 |at_=>exact aKD λt=>JI (Rf.refl _) (JI (Rf.refl _) (aRC λb=>JI (Rf.refl _) (A.g (.wd t))))
 |wd t=>
  exact JI (Rf.refl _) (JI (Rf.refl _) (JI (Rf.refl _) (JI (Rf.refl _) (JI (Rf.refl _) (JI (Rf.refl _) (JI (Rf.refl _) (JI (A.g .ca) (JI (A.g .ca) (JI (A.g .ta) (JI (avN (Lr (A.g .ex) λa=>Rf.refl _)) (Rf.refl _)))))))))))
 |ca=>exact aKD λt=>avN (Lr (Rf.refl _) λ_=>Lr (A.g .ex) λa=>Lr (Rf.refl _) λ_=>Lr A.li λl=>Rf.refl _)
 |ta=>exact Lr (Rf.refl _) λt=>Lr (Rf.refl _) λ_=>Lr (A.g .ex) λa=>Rf.refl _
def aeB:∀q:Nat,Rfg (gP en q).1 (gP en (q+1)).1 (gP en q).2 (gP en (q+1)).2
 |0=>⟨λ_ _ _ h=>(by cases h),λ_ _ h=>(by cases h)⟩
 |q+1=>⟨λe=>aDQ (aeB q) e,aDP ((aeB q).g .ex)⟩
def aAR{q q':Nat}{e:Ek}{l:List Tk}{y:(Nd⊕Dg)×List Tk}(h:q<=q')(hy:(gP en q).1 e l=some y):(gP en q').1 e l=some y:=by
 obtain⟨d,rfl⟩:∃d,q'=q+d:=⟨q' - q,by omega⟩;clear h
 induction d with|zero=>exact hy|succ d ih=>exact(aeB (q+d)).g e l y ih
end
def RE(en:Int):Rd Nd:=λl=>(gP en (10*l.length+11)).1 .ex l
theorem aKL{n:Nat}{en:Int}(hn:n<=10000):UT n true TT (RE en):=λl hg hl=>(aFQ (10*l.length+11)).ex l.length (by omega) (aWP _) hg (aWP _)
theorem aAK{en:Int}{l s:List Tk}{r:Nd⊕Dg}(_:Gl l)(_:l.length<=10000)(h:RE en l=some (r,s))(q:Nat)(hq:10*l.length+11<=q):(gP en q).1 .ex l=some (r,s):=aAR hq h
section
variable {ts:List Tk}(Fg:ts.length<=10000)(hg:Gl ts){en:Int}
include Fg hg
theorem agB{k:Nat}(hk:k<=ts.length){r l}(hS:RE en (ts.drop k)=some (r,l)):Kk ts k (GC ⟨ts,k,en⟩) r l:=by
 have hd:(ts.drop k).length<=10000:=by rw[bhI];omega
 have key:∀q,10*(ts.drop k).length+11<=q->Kk ts k (On q ⟨ts,k,en⟩) r l:=λq hq=>(azI (by omega) en q).ex hk (aAK (hg.drop k) hd hS q hq);obtain⟨k',a1,a2,a3,a4⟩:=key _ (aWP _);refine⟨k',a1,a2,a3,RD (10*(ts.drop k).length+11) λq hq=>?_⟩;obtain⟨k2,b1,b2,b3,b4⟩:=key q hq
 have:k2=k':=by have h:=congrArg bmC (a3.symm.trans b3);simp only[bhI] at h;omega
 rw[b4,this]
theorem vV(kind:Int){k:Nat}(hk:k<=ts.length){r l}(hS:LY en (RE en) kind (ts.drop k)=some (r,l)):Kk ts k (Dr ⟨ts,k,en⟩ kind) r l:=by
 have h6:ts.length<=1000000:=by omega
 refine ZE hk (λt h1 h2 hS=>?_) (λ_=>rfl) hS;have hS:=mE h2 hS;dsimp only[aWO];rw[Hg h6 hk];refine M8 (biC k) ?_;revert hS;cases A8 kind 7;intro hS;refine Bu (λh=>agB Fg hg h1 h) (λa k h hk hS=>?_) (λ_ _=>rfl) hS;refine Bu (λh=>JP h6 _ hk h) (λ_ k h hk hS=>?_) (λ_ _=>rfl) hS;exact EY hk rfl hS;intro hS;refine Bu (λh=>aBZ h6 (λhk _ _ h=>Ye h6 hk h) h1 h) (λa k h hk hS=>?_) (λ_ _=>rfl) hS;refine Bu (λh=>JP h6 _ hk h) (λ_ k h hk hS=>?_) (λ_ _=>rfl) hS;exact EY hk rfl hS
theorem aCY(t1 t4:Tk)(n2:Int×Int)(k0:Int):∀(q:Nat)(ns:List Nd)(un am:Bool)(k:Nat)(r:Nd⊕Dg)(l:List Tk),k<=ts.length->Ir en (RE en) (λl=>Dd 4 t4.text bE n2.1 l t1.AO) q ns un am (ts.drop k)=some (r,l) ->
 ∃k':Nat,k<=k'/\k'<=ts.length/\l=ts.drop k'/\∃n,B8 (λx:List Nd×Int×Bool×Bool=>Bo ⟨ts,k0,en⟩ t1 n2 t4 x.1 x.2.1 x.2.2.1 x.2.2.2) n (ns,(k:Int),un,am)=some (.inr (r,(k':Int))):=by
 have h6:ts.length<=1000000:=by omega
 intro q
 induction q with
 |zero=>intro ns un am k r l hk hS;cases hS
 |succ q ih=>
  intro ns un am k r l hk hS
  have stop:∀{y:(Nd⊕Dg)×Int},Bo ⟨ts,k0,en⟩ t1 n2 t4 ns (k:Int) un am=some (.rt y)->B8 (λx:List Nd×Int×Bool×Bool=>Bo ⟨ts,k0,en⟩ t1 n2 t4 x.1 x.2.1 x.2.2.1 x.2.2.2) 1 (ns,(k:Int),un,am)=some (.inr y):=by intro y h;show(Bo ⟨ts,k0,en⟩ t1 n2 t4 ns (k:Int) un am).bind _=_;rw[h];rfl
  have go:∀{y:List Nd×Int×Bool×Bool}{n:Nat} {z},Bo ⟨ts,k0,en⟩ t1 n2 t4 ns (k:Int) un am=some (.nx y)->B8 (λx:List Nd×Int×Bool×Bool=>Bo ⟨ts,k0,en⟩ t1 n2 t4 x.1 x.2.1 x.2.2.1 x.2.2.2) n y=z->B8 (λx:List Nd×Int×Bool×Bool=>Bo ⟨ts,k0,en⟩ t1 n2 t4 x.1 x.2.1 x.2.2.1 x.2.2.2) (n+1) (ns,(k:Int),un,am)=z:=by intro y n z h h2;show(Bo ⟨ts,k0,en⟩ t1 n2 t4 ns (k:Int) un am).bind _=_;rw[h];exact h2
  unfold Ir Sd at hS;unfold Bo at stop go;rcases Ko ts hk with ⟨h1,h2⟩ | ⟨t,h1,h2,h3⟩
  ·rw[h2] at hS
   dsimp only at hS;simp only[atS,aWN] at hS;obtain⟨rfl,rfl⟩:=hS;refine⟨k,aWP k,hk,h2.symm,1,stop ?_⟩
   have:Az ⟨ts,k,en⟩=some (.inr ⟨72,en⟩):=by unfold Az;rw[T6 (by dsimp only;omega)];rfl
   dsimp only;rw[this];rfl
  ·rw[h3] at hS
   dsimp only at hS;rw[<- h3] at hS
   have hpk:Az ⟨ts,k,en⟩=some (.inl t):=by unfold Az;rw[P7 (by dsimp only;omega)];dsimp only[cond];unfold Dk;rw[if_pos (by omega),biN,h2];rfl
   dsimp only at stop go;rw[hpk] at stop go;dsimp only[bjW,aWO] at stop go
   have one:∀(kind:Int)(dX cU:Bool),(A5 (LY en (RE en) kind) λc=>Lq (ns.length+1) (Ir en (RE en) (λl=>Dd 4 t4.text bE n2.1 l t1.AO) q (ns++[c]) dX cU)) (ts.drop k)=some (r,l) ->
    (∃(k1:Nat)(c:Nd),k<=k1/\k1<=ts.length/\Dr ⟨ts,k,en⟩ kind=some (.inl c,(k1:Int))/\ns.length+1<=100000000/\∃k':Nat,k1<=k'/\k'<=ts.length/\l=ts.drop k'/\∃n,B8 (λx:List Nd×Int×Bool×Bool=>Bo ⟨ts,k0,en⟩ t1 n2 t4 x.1 x.2.1 x.2.2.1 x.2.2.2) n (ns++[c],(k1:Int),dX,cU)=some (.inr (r,(k':Int)))) \/
    (∃(k':Nat)(d:Dg),k<=k'/\k'<=ts.length/\l=ts.drop k'/\r=.inr d/\Dr ⟨ts,k,en⟩ kind=some (.inr d,(k':Int))):=by
    intro kind dX cU h;rcases UF h with ⟨c,s',h4,h5⟩ | ⟨d,h4,rfl⟩
    obtain⟨k1,a1,a2,rfl,a4⟩:=vV Fg hg kind hk h4;obtain⟨hl,h5⟩:=Wl h5;exact .inl ⟨k1,c,a1,a2,a4,hl,ih _ _ _ _ _ _ a2 h5⟩;obtain⟨k1,a1,a2,a3,a4⟩:=vV Fg hg kind hk h4;exact .inr ⟨k1,d,a1,a2,a3,rfl,a4⟩
   cases hw:Bd t.text.data.toList Nb.data.toList with
   |true=>
    rw[hw] at hS stop go;dsimp only[cond] at hS stop go;rcases one 6 un am hS with ⟨k1,c,a1,a2,a3,a4,k',b1,b2,b3,n,b4⟩ | ⟨k',d,a1,a2,a3,rfl,a4⟩
    rw[a3] at go;dsimp only[bjW,aWO] at go;rw[B1 a4] at go;exact⟨k',by omega,b2,b3,n+1,go rfl b4⟩
    ·rw[a4] at stop
     exact⟨k',a1,a2,a3,1,stop rfl⟩
   |false=>
    rw[hw] at hS stop go;dsimp only[cond] at hS stop go;cases hu:Bd t.text.data.toList FV.data.toList with
    |true=>
     rw[hu] at hS stop go;dsimp only at hS stop go;cases un with
     |true=>
      dsimp only at hS stop go;obtain⟨rfl,rfl⟩:=T3 hS;exact⟨k,aWP k,hk,rfl,1,stop rfl⟩
     |false=>
      dsimp only at hS stop go;rcases one 7 true am hS with ⟨k1,c,a1,a2,a3,a4,k',b1,b2,b3,n,b4⟩ | ⟨k',d,a1,a2,a3,rfl,a4⟩
      rw[a3] at go;dsimp only[bjW,aWO] at go;rw[B1 a4] at go;exact⟨k',by omega,b2,b3,n+1,go rfl b4⟩
      ·rw[a4] at stop
       exact⟨k',a1,a2,a3,1,stop rfl⟩
    |false=>
     rw[hu] at hS stop go;dsimp only at hS stop go;cases ha:Bd t.text.data.toList EK.data.toList with
     |true=>
      rw[ha] at hS stop go;dsimp only at hS stop go;cases am with
      |true=>
       dsimp only at hS stop go;obtain⟨rfl,rfl⟩:=T3 hS;exact⟨k,aWP k,hk,rfl,1,stop rfl⟩
      |false=>
       dsimp only at hS stop go;rcases one 8 un true hS with ⟨k1,c,a1,a2,a3,a4,k',b1,b2,b3,n,b4⟩ | ⟨k',d,a1,a2,a3,rfl,a4⟩
       rw[a3] at go;dsimp only[bjW,aWO] at go;rw[B1 a4] at go;exact⟨k',by omega,b2,b3,n+1,go rfl b4⟩
       ·rw[a4] at stop
        exact⟨k',a1,a2,a3,1,stop rfl⟩
     |false=>
      rw[ha] at hS stop go;dsimp only at hS stop go;cases hc:Bd t.text.data.toList Vb.data.toList with
      |true=>
       rw[hc] at hS stop;dsimp only at hS stop;cases am with
       |true=>
        have hS:=mE h3 hS;obtain⟨rfl,rfl⟩:=Vj hS;refine⟨k+1,by omega,h1,rfl,1,stop ?_⟩;dsimp only;rw[Hg h6 hk];rfl
       |false=>
        obtain⟨rfl,rfl⟩:=T3 hS;exact⟨k,aWP k,hk,rfl,1,stop rfl⟩
      |false=>
       rw[hc] at hS stop;dsimp only at hS stop;obtain⟨rfl,rfl⟩:=T3 hS;exact⟨k,aWP k,hk,rfl,1,stop rfl⟩
theorem akI{k:Nat}(hk:k<=ts.length){r l}(hS:PR en (RE en) (ts.drop k)=some (r,l)):Kk ts k (I9 ⟨ts,k,en⟩) r l:=by
 have h6:ts.length<=1000000:=by omega
 refine Bu (λh=>JP h6 _ hk h) (λt k1 h hk hS=>?_) (λ_ _=>rfl) hS;refine Bu (λh=>Rj h6 _ hk h) (λn k1 h hk hS=>?_) (λ_ _=>rfl) hS;refine Bu (λh=>JP h6 _ hk h) (λ_ k1 h hk hS=>?_) (λ_ _=>rfl) hS;refine Bu (λh=>atZ h6 hk h) (λm k1 h hk hS=>?_) (λ_ _=>rfl) hS;refine Bu (λh=>aOG h6 hk h) (λhd k1 h hk hS=>?_) (λ_ _=>rfl) hS;dsimp only[aWO];rw[B1 (by omega)];refine Bu (λh=>JP h6 _ hk h) (λ_ k1 h hk hS=>?_) (λ_ _=>rfl) hS;obtain⟨k',a1,a2,a3,j,a4⟩:=aCY Fg hg t m n (k:Int) _ [hd] false false k1 r l hk hS;refine⟨k',a1,a2,a3,?_⟩;dsimp only[aWO];rw[bkC,BB a4];rfl
theorem asI{k:Nat}(hk:k<=ts.length){r l}(hS:Wk en (RE en) (ts.drop k)=some (r,l)):Kk ts k (Kz ⟨ts,k,en⟩) r l:=by
 have h6:ts.length<=1000000:=by omega
 refine ZE hk (λt h1 h2 hS=>?_) (λ_=>rfl) hS;revert hS;dsimp only[aWO];cases Bd t.text.data.toList Ic.data.toList;rotate_left;exact λhS=>Tp (apZ h6 hk hS);cases Bd t.text.data.toList GA.data.toList;rotate_left;exact λhS=>Tp (apZ h6 hk hS);cases Bd t.text.data.toList Cp.data.toList;rotate_left;exact λhS=>Tp (akI Fg hg hk hS);exact λhS=>EY hk rfl hS
end
abbrev QN{α:Type}(x y:Option α):Prop:=∀a,x=some a->y=some a
section
variable {α β γ δ ρ:Type}
theorem aBW{x y:Option α}{F G:α->Option β}(h:QN x y)(h2:∀a,QN (F a) (G a)):QN (x.bind F) (y.bind G):=by
 intro b hb;cases hx:x with
 |none=>rw[hx] at hb;cases hb
 |some a=>
  rw[hx] at hb;rw[h a hx];exact h2 a b hb
theorem aYK{x y:Option (α×γ)}{F G:α×γ->Option β}(h:QN x y)(h2:∀a b,QN (F (a,b)) (G (a,b))):QN (x.bind F) (y.bind G):=aBW h λa=>h2 a.1 a.2
theorem aYL{x y:Option (α×γ×δ×ρ)}{F G:α×γ×δ×ρ->Option β}(h:QN x y)(h2:∀a b c d,QN (F (a,b,c,d)) (G (a,b,c,d))):QN (x.bind F) (y.bind G):=aBW h λa=>h2 a.1 a.2.1 a.2.2.1 a.2.2.2
theorem bfB{b:Bool}{x y x' y':Option α}(h:QN x x')(h2:QN y y'):QN (cond b x y) (cond b x' y'):=by cases b;exact h2;exact h
theorem bfE{n:Nat}{x y:Option α}(h:QN x y):QN (G8 n x) (G8 n y):=by unfold G8;split;exact h;exact λ_ h=>h
theorem aYM{body Z1:γ->Option (Lp γ δ ρ)}(h:∀x,QN (body x) (Z1 x)):∀(n:Nat)(x:γ),QN (B8 body n x) (B8 Z1 n x):=by
 intro n
 induction n with
 |zero=>intro x a ha;cases ha
 |succ n ih=>
  intro x;refine aBW (h x) λl=>?_;cases l with|nx y=>exact ih y|ex d=>exact λ_ h=>h|rt v=>exact λ_ h=>h
theorem bfC{body Z1:γ->Option (Lp γ δ ρ)}(h:∀x,QN (body x) (Z1 x))(x:γ):QN (GJ body x) (GJ Z1 x):=λa ha=>by
 obtain⟨n,hn⟩:=agC ha;exact BB (aYM h n x a hn)
theorem bfD{k k':δ->Option β}{kr kr':ρ->Option β}(h:∀d,QN (k d) (k' d))(h2:∀v,QN (kr v) (kr' v))(x:δ⊕ρ):QN (F0 k kr x) (F0 k' kr' x):=by cases x;exact h _;exact h2 _
end
section
variable {f1 f2 f3 f4 f5 f6 f7 f1' f2' f3' f4' f5' f6' f7':FN}{g g':GN}(h1:∀p,QN (f1 p) (f1' p))(h2:∀p,QN (f2 p) (f2' p))(h3:∀p,QN (f3 p) (f3' p))(h4:∀p,QN (f4 p) (f4' p))(h5:∀p,QN (f5 p) (f5' p))(h6:∀p,QN (f6 p) (f6' p))(h7:∀p,QN (f7 p) (f7' p))(h8:∀p,QN (g p) (g' p))
include h1 h2 h3 h4 h5 h6 h7 h8
theorem aME(p:Ps):QN (DG f1 f2 f3 f4 f5 f6 f7 g p) (DG f1' f2' f3' f4' f5' f6' f7' g' p)/\QN (Ef f1 f2 f3 f4 f5 f6 f7 g p) (Ef f1' f2' f3' f4' f5' f6' f7' g' p)/\QN (Dt f1 f2 f3 f4 f5 f6 f7 g p) (Dt f1' f2' f3' f4' f5' f6' f7' g' p)/\QN (C8 f1 f2 f3 f4 f5 f6 f7 g p) (C8 f1' f2' f3' f4' f5' f6' f7' g' p)/\QN (Eg f1 f2 f3 f4 f5 f6 f7 g p) (Eg f1' f2' f3' f4' f5' f6' f7' g' p)/\QN (DI f1 f2 f3 f4 f5 f6 f7 g p) (DI f1' f2' f3' f4' f5' f6' f7' g' p)/\QN (C7 f1 f2 f3 f4 f5 f6 f7 g p) (C7 f1' f2' f3' f4' f5' f6' f7' g' p)/\QN (EG f1 f2 f3 f4 f5 f6 f7 g p) (EG f1' f2' f3' f4' f5' f6' f7' g' p):=by
 refine⟨?_,?_,?_,?_,?_,?_,?_,?_⟩
 all_goals first | unfold DG | unfold Ef | unfold Dt | unfold C8 | unfold Eg | unfold DI | unfold C7 | unfold EG
 all_goals repeat' (first | exact h1 _ | exact h2 _ | exact h3 _ | exact h4 _ | exact h5 _ | exact h6 _ | exact h7 _ | exact h8 _ | with_reducible exact λ_ h=>h | refine bfB ?_ ?_ | refine bfE ?_ | refine bfC (λ_=>?_) _ | (refine bfD (λ_=>?_) (λ_=>?_) _<;>try dsimp only) | (refine aYL ?_ (λ_ _ _ _=>?_)<;>try dsimp only) | (refine bgY ?_ (λ_ _ _=>?_)<;>try dsimp only) | (refine aYK ?_ (λ_ _=>?_)<;>try dsimp only) | (refine aBW ?_ (λ_=>?_)<;>try dsimp only) | (unfold Dl;dsimp only) | (unfold DF;dsimp only) | (unfold Au;dsimp only) | (unfold C9;dsimp only) | (unfold CC;dsimp only) | (unfold Bz;dsimp only))
end
structure MLe(q q':Nat):Prop where
 expr:∀p,QN (A6 q p) (A6 q' p)
 and:∀p,QN (Cs q p) (Cs q' p)
 neg:∀p,QN (B7 q p) (B7 q' p)
 comp:∀p,QN (B9 q p) (B9 q' p)
 sum:∀p,QN (Ct q p) (Ct q' p)
 term:∀p,QN (Cb q p) (Cb q' p)
 atom:∀p,QN (BU q p) (BU q' p)
 list:∀p,QN (Ca q p) (Ca q' p)
theorem bfI:∀q:Nat,MLe q (q+1):=by
 intro q
 induction q with
 |zero=>constructor<;>(intro p a h;cases h)
 |succ q ih=>
  have h:=aME ih.expr ih.and ih.neg ih.comp ih.sum ih.term ih.atom ih.list;exact⟨λp=>(h p).1,λp=>(h p).2.1,λp=>(h p).2.2.1,λp=>(h p).2.2.2.1,λp=>(h p).2.2.2.2.1,λp=>(h p).2.2.2.2.2.1,λp=>(h p).2.2.2.2.2.2.1,λp=>(h p).2.2.2.2.2.2.2⟩
theorem aqG{p:Ps}{a:Nd×Int×Int×Int}{q:Nat}(h:A6 q p=some a):BV p=some a:=by
 refine RD q λn hn=>?_;obtain⟨d,rfl⟩:=Nat.le.dest hn;clear hn
 induction d with|zero=>exact h|succ d ih=>exact(bfI (q+d)).expr p a ih
theorem g_E{en:Int}{q:Nat}{e:Ek}{s:List Tk}{y:(Nd⊕Dg)×List Tk}(h:(gP en q).1 e s=some y):aM en (gP en (q - 1)).1 (gP en (q - 1)).2 e s=some y:=by cases q with|zero=>cases h|succ p=>exact h
theorem bcB{en:Int}{q:Nat}{s:List Tk}{y:(List Nd⊕Dg)×List Tk}(h:(gP en q).2 s=some y):P9 ((gP en (q - 1)).1 .ex) s=some y:=by cases q with|zero=>cases h|succ p=>exact h
structure RF(L:List Tk)(en ea:Int)(q:Nat):Prop where
 ex:∀p,q<=p->Sub L en ea (A6 (p+8)) ((gP en q).1 .ex)
 l0:∀p,q<=p->Sub L en ea (A6 (p+8)) ((gP en q).1 (.lv 0))
 l1:∀p,q<=p->Sub L en ea (Cs (p+8)) ((gP en q).1 (.lv 1))
 l2:∀p,q<=p->Sub L en ea (B7 (p+8)) ((gP en q).1 (.lv 2))
 l3:∀p,q<=p->Sub L en ea (B9 (p+8)) ((gP en q).1 (.lv 3))
 l4:∀p,q<=p->Sub L en ea (Ct (p+8)) ((gP en q).1 (.lv 4))
 l5:∀p,q<=p->Sub L en ea (Cb (p+8)) ((gP en q).1 (.lv 5))
 l6:∀p,q<=p->Sub L en ea (BU (p+8)) ((gP en q).1 (.lv 6))
 at_:∀p,q<=p->Sub L en ea (BU (p+8)) ((gP en q).1 .at_)
section
variable {L:List Tk}{en ea:Int}(hw:∀t∈L,Rg t)(hL:L.length<=10000)
include hw hL
theorem aDR:∀q:Nat,RF L en ea q:=by
 intro q
 induction q using blY with
 |ind q ih=>
 by_cases hq0:q=0;subst hq0;constructor<;>(intro p hp k r l hk h;cases h)
 have hd1:∀(x:Nat)(k:Nat)(e ea:Int),e≠0->k<=L.length->∃v,A6 (x+7) (⟨L,(k:Int),en,e,ea⟩:Ps)=some (v,(k:Int),e,ea):=λx k e ea he hk=>aVT he hk x
 have hex:∀m x:Nat,m < q->m<=x - 1->Sub L en ea (A6 (x+7)) ((gP en m).1 .ex):=λm x hm hx=>by
  cases x with
  |zero=>
   have:m=0:=by omega
   subst this;intro k r l hk h;cases h
  |succ x=>exact(ih m hm).ex x (by omega)
 have I:=ih (q - 1) (by omega);constructor
 case ex=>intro p hp k r l hk h;exact I.l0 p (by omega) k r l hk (g_E h)
 case l0=>
  intro p hp k r l hk h;obtain⟨x,rfl⟩:∃x,p=x+1:=⟨p - 1,by omega⟩;exact aNM hw hL hk (I.l1 x (by omega)) (g_E h)
 case l1=>
  intro p hp k r l hk h;obtain⟨x,rfl⟩:∃x,p=x+1:=⟨p - 1,by omega⟩;exact aUH hw hL hk (I.l2 x (by omega)) (g_E h)
 case l2=>
  intro p hp k r l hk h;obtain⟨x,rfl⟩:∃x,p=x+1:=⟨p - 1,by omega⟩;exact aYV hw hL hk (I.l2 x (by omega)) (I.l3 x (by omega)) (λk e ea he hk=>aCJ he hk (x+3)) (g_E h)
 case l3=>
  intro p hp k r l hk h;obtain⟨x,rfl⟩:∃x,p=x+1:=⟨p - 1,by omega⟩;exact aMY hw hL hk (I.l4 x (by omega)) (g_E h)
 case l4=>
  intro p hp k r l hk h;obtain⟨x,rfl⟩:∃x,p=x+1:=⟨p - 1,by omega⟩;exact baI hw hL hk (I.l5 x (by omega)) (g_E h)
 case l5=>
  intro p hp k r l hk h;obtain⟨x,rfl⟩:∃x,p=x+1:=⟨p - 1,by omega⟩;exact aSJ hw hL hk (I.l6 x (by omega)) (g_E h)
 case l6=>intro p hp k r l hk h;exact I.at_ p (by omega) k r l hk (g_E h)
 case at_=>
  intro p hp k r l hk h;obtain⟨x,rfl⟩:∃x,p=x+1:=⟨p - 1,by omega⟩;refine aMJ (f1:=A6 (x+8)) (g:=Ca (x+8)) (G:=(gP en (q - 1)).1) (G2:=(gP en (q - 1 - 1)).1) (G3:=(gP en (q - 1 - 1 - 1)).1) (li:=(gP en (q - 1 - 1 - 1)).2) hw hL hk (λt s y h=>g_E h) (hex _ (x+1) (by omega) (by omega)) (hex _ (x+1) (by omega) (by omega)) (λs y h=>g_E h) (λs y h=>g_E h) (λk r l hk h=>?_) (hd1 (x+1)) (g_E h);exact aPU (ex2:=(gP en (q - 1 - 1 - 1 - 1)).1 .ex) hw hL hk (λs y h=>bcB h) (hex _ x (by omega) (by omega)) (hex _ x (by omega) (by omega)) (hd1 x) h
theorem aII{k:Nat}(hk:k<=L.length){r:Nd⊕Dg}{l:List Tk}(hS:RE en (L.drop k)=some (r,l)):Lv (·=·) L en ea k (BV (Pz L k en 0 ea)) r l:=by
 have h:=(aDR (en:=en) (ea:=ea) hw hL (10*(L.drop k).length+11)).ex _ (aWP _) k r l hk hS;obtain⟨k',a1,a2,a3⟩:=h;refine⟨k',a1,a2,?_⟩;cases r with
 |inl a=>
  obtain⟨b1,b,b2,b3⟩:=a3;exact⟨b1,b,b2,aqG b3⟩
 |inr d=>
  obtain⟨b1,b2,v,b3⟩:=a3;exact⟨b1,b2,v,aqG b3⟩
end
theorem bcg{α β:Type}{m:Option α}{f g:α->Option β}(h:∀y,f y=g y):m.bind f=m.bind g:=by cases m with|none=>rfl|some y=>exact h y
section
variable {L:List Tk}{k:Nat}{en ea:Int}(hw:∀t∈L,Rg t)(hL:L.length<=10000)
include hw hL
abbrev NuN(p:Ps):=B8 (λx:List Nd×Int×Int×Int=>BI p x.1 x.2.1 x.2.2.1 x.2.2.2)
theorem aQF{p:Ps}(hp1:p.l=L)(hp2:p.end_=en):∀(q:Nat)(out:List Nd)(k:Nat) (r:(List Nd)⊕Dg) (l:List Tk),k<=L.length->out.length+q<=100000->Re (F4 en) q out (L.drop k)=some (r,l) ->
 ∃(z:Lp (List Nd×Int×Int×Int) (List Nd×Int×Int×Int) (List Nd×Int×Int×Int)) (m:Nat) (Ki:List Nd) (k':Nat) (e' CF:Int),((An (⟨L,(k:Int),en,0,ea⟩:Ps) KG).bind λy=>cond y.1 (some (Lp.nx (out,y.2,(0:Int),ea))) (some (Lp.ex (out,y.2,(0:Int),ea))))=some z/\MK (NuN p m) z=some (.inl (Ki,(k':Int),e',CF))/\k<=k'/\k'<=L.length/\match r with|.inl x=>l=L.drop k'/\Ki=x/\e'=0/\CF=ea|.inr d=>d.err≠0/\Er L en k' l d/\e'=d.err/\CF=d.AO:=by
 have Hi:∀t∈L,Kw t:=λt ht=>(hw t ht).kw;subst hp1 hp2;intro q
 induction q with
 |zero=>intro out k r l _ _ h;cases h
 |succ q ih=>
  intro out k r l hk hq h;have ht:=Hh (k:=k) (en:=p.end_) (ea:=ea) Hi hL (x:=KG) (by simp[Em]);dsimp only[Pz] at ht;rw[ht];unfold Re NC at h;cases hc:Co KG (p.l.drop k) with
  |false=>
   rw[hc] at h;simp only[cond,CX,atS,aWN] at h;obtain⟨rfl,rfl⟩:=h;exact⟨.ex (out,(k:Int),0,ea),0,out,k,0,ea,rfl,rfl,aWP k,hk,rfl,rfl,rfl,rfl⟩
  |true=>
   rw[hc] at h;cases hd:p.l.drop k with
   |nil=>rw[hd] at hc;cases hc
   |cons t u=>
    obtain⟨g1,g2,g3⟩:=CS hd;subst g3;rw[hd] at h;simp only[cond,Nl] at h;have hh:=IP (en:=p.end_) (e:=0) (ea:=ea) g1;dsimp only[Pz] at hh
    have Dc:BI p out ((k+1:Nat):Int) 0 ea=(As (⟨p.l,((k+1:Nat):Int),p.end_,0,ea⟩:Ps) 1 1000000).bind λy=>(An (⟨p.l,y.2.1,p.end_,y.2.2.1,y.2.2.2⟩:Ps) KG).bind λx=>cond x.1 (some (.nx (out++[Dd 11 bE BH y.1 [] (EP p.end_ (p.l.drop (k+1)))],x.2,y.2.2.1,y.2.2.2))) (some (.ex (out++[Dd 11 bE BH y.1 [] (EP p.end_ (p.l.drop (k+1)))],x.2,y.2.2.1,y.2.2.2))):=by unfold BI;rw[C4 rfl,hh];simp only[cond,Uu];refine bcg λy=>?_;rw[B1 (by omega)];rfl
    unfold A5 at h;split at h;cases h;rename_i b s hb;obtain⟨k1,b1,b2,rfl,b',rfl,b4⟩:=SB (ea:=ea) hw hL g1 hb;dsimp only[Pz] at b4;rw[b4] at Dc;simp only[Uu] at Dc;unfold Lq at h;dsimp only at h;rw[B1 (by omega)] at h;obtain⟨z,m,Ki,k',e',CF,c0,c1,c2,c3,c4⟩:=ih (out++[Dd 11 bE BH b' [] (EP p.end_ (p.l.drop (k+1)))]) k1 r l b2 (by simp only[aWQ,bhF];omega) h;rw[c0] at Dc;refine⟨.nx (out,((k+1:Nat):Int),0,ea),m+1,Ki,k',e',CF,rfl,?_,by omega,c3,c4⟩;show(BI p out ((k+1:Nat):Int) 0 ea).bind _=_;rw[Dc];exact c1;rename_i d s hd2;obtain⟨k1,b1,b2,b3,b4,v,b5⟩:=SB (ea:=ea) hw hL g1 hd2;dsimp only[Pz] at b5;rw[b5] at Dc;simp only[Uu] at Dc;have iC:=Jp (L:=p.l) (k:=k1) (en:=p.end_) (ea:=d.AO) b3 KG;dsimp only[Pz] at iC;rw[iC] at Dc;simp only[atS,aWN] at h;obtain⟨rfl,rfl⟩:=h;refine⟨.nx (out,((k+1:Nat):Int),0,ea),1,out++[Dd 11 bE BH v [] (EP p.end_ (p.l.drop (k+1)))],k1,d.err,d.AO,rfl,?_,by omega,b2,b3,b4,rfl,rfl⟩;show(BI p out ((k+1:Nat):Int) 0 ea).bind _=_;rw[Dc];rfl
theorem alX(hk:k<=L.length){r:(List Nd)⊕Dg}{l:List Tk}(hS:P9 (F4 en) (L.drop k)=some (r,l)):Lv (·=·) L en ea k (Du (Pz L k en 0 ea)) r l:=by
 have hh:=IP (en:=en) (e:=0) (ea:=ea) hk;dsimp only[Pz] at hh
 have Dc:BI (Pz L k en 0 ea) [] (k:Int) 0 ea=(As (Pz L k en 0 ea) 1 1000000).bind λy=>(An (⟨L,y.2.1,en,y.2.2.1,y.2.2.2⟩:Ps) KG).bind λx=>cond x.1 (some (.nx ([Dd 11 bE BH y.1 [] (EP en (L.drop k))],x.2,y.2.2.1,y.2.2.2))) (some (.ex ([Dd 11 bE BH y.1 [] (EP en (L.drop k))],x.2,y.2.2.1,y.2.2.2))):=by unfold BI;dsimp only[Pz];rw[C4 rfl,hh];simp only[cond,Uu];refine bcg λy=>?_;rw[B1 (by decide)];rfl
 unfold P9 A5 at hS;unfold Du;split at hS;cases hS
 ·rename_i b s hb
  obtain⟨k1,b1,b2,rfl,b',rfl,b4⟩:=SB (ea:=ea) hw hL hk hb;rw[b4] at Dc;simp only[Uu] at Dc;obtain⟨z,m,Ki,k',e',CF,c0,c1,c2,c3,c4⟩:=aQF (ea:=ea) hw hL (p:=Pz L k en 0 ea) rfl rfl _ _ k1 r l b2 (by simp only[bhI,bhF];omega) hS;rw[c0] at Dc
  have c5:NuN (Pz L k en 0 ea) (m+1) ([],(k:Int),0,ea)=some (.inl (Ki,(k':Int),e',CF)):=by show(BI (Pz L k en 0 ea) [] (k:Int) 0 ea).bind _=_;rw[Dc];exact c1
  rw[BB c5];simp only[Uu,F0];refine⟨k',by omega,c3,?_⟩;cases r with
  |inl a=>
   obtain⟨rfl,rfl,rfl,rfl⟩:=c4;exact⟨rfl,_,rfl,rfl⟩
  |inr d=>
   obtain⟨d1,d2,rfl,rfl⟩:=c4;exact⟨d1,d2,_,rfl⟩
 rename_i d s hd;obtain⟨k1,b1,b2,b3,b4,v,b5⟩:=SB (ea:=ea) hw hL hk hd;rw[b5] at Dc;simp only[Uu] at Dc;have iC:=Jp (L:=L) (k:=k1) (en:=en) (ea:=d.AO) b3 KG;dsimp only[Pz] at iC;rw[iC] at Dc;simp only[atS,aWN] at hS;obtain⟨rfl,rfl⟩:=hS
 have c5:NuN (Pz L k en 0 ea) 1 ([],(k:Int),0,ea)=some (.inl ([Dd 11 bE BH v [] (EP en (L.drop k))],(k1:Int),d.err,d.AO)):=by show(BI (Pz L k en 0 ea) [] (k:Int) 0 ea).bind _=_;rw[Dc];rfl
 rw[BB c5];simp only[Uu,F0];exact⟨k1,b1,b2,b3,b4,_,rfl⟩
end
abbrev ClL:=Option (Lp ((List Nd)×Bool×Bool×Int×Int×Int) ((List Nd)×Int×Int×Int) ((List Nd)×Int×Int×Int))
def clX(p:Ps)(kind y a e ea:Int):Option (Nd×Int×Int×Int):=(BV (⟨p.l,a,p.end_,e,ea⟩:Ps)).bind λ(x,a,e,ea)=>(Ab (⟨p.l,a,p.end_,e,ea⟩:Ps) Jv).bind λ(_,a,e,ea)=>some ((⟨kind,gT,gT,0,0,0,0,(⟨0,[]⟩:Fn),[x],y⟩:Nd),a,e,ea)
def clN(p:Ps)(y a e ea:Int):Option (Nd×Int×Int×Int):=(Du (⟨p.l,a,p.end_,e,ea⟩:Ps)).bind λ(x,a,e,ea)=>(Ab (⟨p.l,a,p.end_,e,ea⟩:Ps) Jv).bind λ(_,a,e,ea)=>some ((⟨7,gT,gT,0,0,0,0,(⟨0,[]⟩:Fn),x,y⟩:Nd),a,e,ea)
def clA(out:List Nd)(un am:Bool)(z:Nd×Int×Int×Int):ClL:=G8 (out.length+1) (some (.nx (out++[z.1],un,am,z.2.1,z.2.2.1,z.2.2.2)))
def clR(p:Ps)(out:List Nd)(un am:Bool)(y a e ea:Int):ClL:=(BQ (⟨p.l,a,p.end_,e,ea⟩:Ps) [Nb,FV,EK]).bind λ(i,a,e,ea)=>cond (A8 i 0) ((clX p 6 y a e ea).bind (clA out un am)) (cond (A8 i 1) ((clN p y a e ea).bind (clA out true am)) ((clX p 8 y a e ea).bind (clA out un true)))
theorem aVB(p:Ps)(kind y a e ea:Int)(out:List Nd)(un am:Bool):(BV (⟨p.l,a,p.end_,e,ea⟩:Ps)).bind (λ(x,a,e,ea)=>(Ab (⟨p.l,a,p.end_,e,ea⟩:Ps) Jv).bind λ(_,a,e,ea)=>G8 (out.length+1) (some (Lp.nx (γ:=(List Nd)×Bool×Bool×Int×Int×Int) (δ:=(List Nd)×Int×Int×Int) (ρ:=(List Nd)×Int×Int×Int) (out++[(⟨kind,gT,gT,0,0,0,0,(⟨0,[]⟩:Fn),[x],y⟩:Nd)],un,am,a,e,ea))))=(clX p kind y a e ea).bind (clA out un am):=by symm;unfold clX;refine cW λz=>?_;exact cW λz=>rfl
theorem bbP(p:Ps)(y a e ea:Int)(out:List Nd)(un am:Bool):(Du (⟨p.l,a,p.end_,e,ea⟩:Ps)).bind (λ(x,a,e,ea)=>(Ab (⟨p.l,a,p.end_,e,ea⟩:Ps) Jv).bind λ(_,a,e,ea)=>G8 (out.length+1) (some (Lp.nx (γ:=(List Nd)×Bool×Bool×Int×Int×Int) (δ:=(List Nd)×Int×Int×Int) (ρ:=(List Nd)×Int×Int×Int) (out++[(⟨7,gT,gT,0,0,0,0,(⟨0,[]⟩:Fn),x,y⟩:Nd)],un,am,a,e,ea))))=(clN p y a e ea).bind (clA out un am):=by symm;unfold clN;refine cW λz=>?_;exact cW λz=>rfl
theorem ccg{β:Type}{b:Bool}{x y x' y':β}(h:x=x')(h2:y=y'):cond b x y=cond b x' y':=by rw[h,h2]
def XY(p:Ps)(out:List Nd)(un am:Bool)(y a e ea:Int):ClL:=(BQ (⟨p.l,a,p.end_,e,ea⟩:Ps) [Nb,FV,EK]).bind λ(i,a,e,ea)=>cond (A8 i 0) ((BV (⟨p.l,a,p.end_,e,ea⟩:Ps)).bind λ(x,a,e,ea)=>(Ab (⟨p.l,a,p.end_,e,ea⟩:Ps) Jv).bind λ(_,a,e,ea)=>G8 (out.length+1) (some (Lp.nx (out++[(⟨6,gT,gT,0,0,0,0,(⟨0,[]⟩:Fn),[x],y⟩:Nd)],un,am,a,e,ea))))
 (cond (A8 i 1) ((Du (⟨p.l,a,p.end_,e,ea⟩:Ps)).bind λ(x,a,e,ea)=>(Ab (⟨p.l,a,p.end_,e,ea⟩:Ps) Jv).bind λ(_,a,e,ea)=>G8 (out.length+1) (some (Lp.nx (out++[(⟨7,gT,gT,0,0,0,0,(⟨0,[]⟩:Fn),x,y⟩:Nd)],true,am,a,e,ea))))
   ((BV (⟨p.l,a,p.end_,e,ea⟩:Ps)).bind λ(x,a,e,ea)=>(Ab (⟨p.l,a,p.end_,e,ea⟩:Ps) Jv).bind λ(_,a,e,ea)=>G8 (out.length+1) (some (Lp.nx (out++[(⟨8,gT,gT,0,0,0,0,(⟨0,[]⟩:Fn),[x],y⟩:Nd)],un,true,a,e,ea)))))
theorem acB(p:Ps)(out:List Nd)(un am:Bool)(y a e ea:Int):XY p out un am y a e ea=clR p out un am y a e ea:=by unfold XY clR;refine bcg λz=>?_;exact ccg (aVB p 6 y _ _ _ out un am) (ccg (bbP p y _ _ _ out true am) (aVB p 8 y _ _ _ out un true))
def uY(p:Ps)(out:List Nd)(un am:Bool)(a e ea:Int):ClL:=(AD (⟨p.l,a,p.end_,e,ea⟩:Ps)).bind λy=>(Av (⟨p.l,a,p.end_,e,ea⟩:Ps) FV).bind λb=>cond b (cond un ((Aw (⟨p.l,a,p.end_,e,ea⟩:Ps) 5 y).bind λ(_,e,ea)=>XY p out un am y a e ea) ((Av (⟨p.l,a,p.end_,e,ea⟩:Ps) EK).bind λc=>cond c (cond am ((Aw (⟨p.l,a,p.end_,e,ea⟩:Ps) 5 y).bind λ(_,e,ea)=>XY p out un am y a e ea) (XY p out un am y a e ea)) (XY p out un am y a e ea)))
 ((Av (⟨p.l,a,p.end_,e,ea⟩:Ps) EK).bind λc=>cond c (cond am ((Aw (⟨p.l,a,p.end_,e,ea⟩:Ps) 5 y).bind λ(_,e,ea)=>XY p out un am y a e ea) (XY p out un am y a e ea)) (XY p out un am y a e ea))
theorem apL(p:Ps)(out:List Nd)(un am:Bool)(y a e ea:Int):((apK p un am a e ea).bind λ(k,ks,un,am,a,e,ea)=>(Ab (⟨p.l,a,p.end_,e,ea⟩:Ps) Jv).bind λ(_,a,e,ea)=>G8 (out.length+1) (some (Lp.nx (out++[(⟨k,gT,gT,0,0,0,0,(⟨0,[]⟩:Fn),ks,y⟩:Nd)],un,am,a,e,ea))))=XY p out un am y a e ea:=by unfold apK XY;refine cW λ⟨i,_,_,_⟩=>?_;dsimp only;cases A8 i 0 with|true=>exact cW λ_=>rfl|false=>cases A8 i 1<;>exact cW λ_=>rfl
theorem aUW(p:Ps)(out:List Nd)(un am:Bool)(a e ea:Int):((AD (⟨p.l,a,p.end_,e,ea⟩:Ps)).bind λy=>(qL p un am y a e ea).bind λ(e,ea)=>(apK p un am a e ea).bind λ(k,ks,un,am,a,e,ea)=>(Ab (⟨p.l,a,p.end_,e,ea⟩:Ps) Jv).bind λ(_,a,e,ea)=>G8 (out.length+1) (some (Lp.nx (out++[(⟨k,gT,gT,0,0,0,0,(⟨0,[]⟩:Fn),ks,y⟩:Nd)],un,am,a,e,ea))))=uY p out un am a e ea:=by unfold uY qL;refine bcg λy=>?_;refine cW λb=>?_;cases b<;>cases un<;>first | exact cW λ⟨_,e,ea⟩=>apL p out _ am y a e ea | exact cW λc=>by cases c<;>cases am<;>first | exact apL p out _ _ y a e ea | exact cW λ⟨_,e,ea⟩=>apL p out _ _ y a e ea
theorem RB(p:Ps)(out:List Nd)(un am:Bool)(a e ea:Int):AT p out un am a e ea=cond (A8 e 0) (cond am ((An (⟨p.l,a,p.end_,e,ea⟩:Ps) Vb).bind λx=>cond x.1 (some (.ex (out,x.2,e,ea))) (uY p out un am x.2 e ea)) (uY p out un am a e ea)) (some (.ex (out,a,e,ea))):=by unfold AT aIF;refine ccg ?_ rfl;cases am with|true=>exact bcg λx=>ccg rfl (aUW p out un true x.2 e ea)|false=>exact aUW p out un false a e ea
theorem aIJ{L:List Tk}{k:Nat}{en e ea:Int}(he:e≠0)(hk:k<=L.length):∃v,BV (⟨L,(k:Int),en,e,ea⟩:Ps)=some (v,(k:Int),e,ea):=by obtain⟨v,hv⟩:=aVT (en:=en) (ea:=ea) he hk 0;exact⟨v,aqG hv⟩
abbrev ClI(p:Ps):=B8 (λx:List Nd×Bool×Bool×Int×Int×Int=>AT p x.1 x.2.1 x.2.2.1 x.2.2.2.1 x.2.2.2.2.1 x.2.2.2.2.2)
section
variable {L:List Tk}{k:Nat}{en ea:Int}(hw:∀t∈L,Rg t)(hL:L.length<=10000)
include hw hL
theorem aID{kind y:Int}(hk:k<=L.length){p:Ps}(hp1:p.l=L)(hp2:p.end_=en){r:Nd⊕Dg}{l:List Tk}(hS:(A5 (RE en) λe=>A5 (Ff en Jv) λ_=>CX (Dd kind bE bE 0 [e] y)) (L.drop k)=some (r,l)):Lv (·=·) L en ea k (clX p kind y (k:Int) 0 ea) r l:=by have Hi:∀t∈L,Kw t:=λt ht=>(hw t ht).kw;subst hp1 hp2;unfold clX;refine Cv (aII hw hL hk) (λa b k1 hab _ hk1 h1=>?_) (λv k' e CF he EM=>?_) hS;subst hab;refine Cv (λh=>Io Hi hL hk1 (by simp[Em]) h) (λ_ _ k2 _ _ hk2 h2=>?_) (λv k' e CF he EM=>⟨_,rfl⟩) h1;exact J0 hk2 rfl h2;have D1:Ab (⟨p.l,(k':Int),p.end_,e,CF⟩:Ps) Jv=some ((),(k':Int),e,CF):=Ks he EM _;dsimp only;rw[D1];exact⟨_,rfl⟩
theorem aUV{y:Int}(hk:k<=L.length){p:Ps}(hp1:p.l=L)(hp2:p.end_=en){r:Nd⊕Dg}{l:List Tk}(hS:(A5 (P9 (F4 en)) λe=>A5 (Ff en Jv) λ_=>CX (Dd 7 bE bE 0 e y)) (L.drop k)=some (r,l)):Lv (·=·) L en ea k (clN p y (k:Int) 0 ea) r l:=by have Hi:∀t∈L,Kw t:=λt ht=>(hw t ht).kw;subst hp1 hp2;unfold clN;refine Cv (λh=>alX hw hL hk h) (λa b k1 hab _ hk1 h1=>?_) (λv k' e CF he EM=>?_) hS;subst hab;refine Cv (λh=>Io Hi hL hk1 (by simp[Em]) h) (λ_ _ k2 _ _ hk2 h2=>?_) (λv k' e CF he EM=>⟨_,rfl⟩) h1;exact J0 hk2 rfl h2;have D1:Ab (⟨p.l,(k':Int),p.end_,e,CF⟩:Ps) Jv=some ((),(k':Int),e,CF):=Ks he EM _;dsimp only;rw[D1];exact⟨_,rfl⟩
omit hw hL in
theorem aIC{e:Int}(he:e≠0)(hk:k<=L.length){p:Ps}(hp1:p.l=L){out:List Nd}(ho:out.length<=200000)(un am:Bool)(y:Int):∃Ki,Ki.length<=out.length+1/\XY p out un am y (k:Int) e ea=some (.nx (Ki,un,am,(k:Int),e,ea)):=by subst hp1;unfold XY;have h1:=ahI (L:=p.l) (k:=k) (en:=p.end_) (ea:=ea) he hk (l:=[Nb,FV,EK]) (by decide);obtain⟨v,hv⟩:=aIJ (L:=p.l) (k:=k) (en:=p.end_) (ea:=ea) he hk;have h2:=Ks (L:=p.l) (k:=k) (en:=p.end_) (ea:=ea) he hk Jv;dsimp only[Pz] at h1 h2;rw[h1];simp only[Uu];rw[C4 rfl];simp only[cond];rw[hv];simp only[Uu];rw[h2];simp only[Uu];rw[B1 (by omega)];exact⟨_,by simp,rfl⟩
theorem aDV{ex:Rd Nd}(hex:ex=RE en)(p:Ps)(hp1:p.l=L)(hp2:p.end_=en)(hk:k<=L.length){out:List Nd}(ho:out.length<=100000){un am:Bool}{h0:Nd}{mk:List Nd->Nd}{q:Nat}{r:Nd⊕Dg}{l:List Tk}(hS:Ir en ex mk (q+1) (h0::out) un am (L.drop k)=some (r,l)) :
   (∃d e',r=.inr d/\d.err≠0/\l=L.drop k/\d.AO=EP en l/\∃Ki,Ki.length<=out.length+1/\e'=d.err/\AT p out un am (k:Int) 0 ea=some (.nx (Ki,un,am,(k:Int),e',d.AO))) \/
   (∃a,r=.inl a/\k+1<=L.length/\l=L.drop (k+1)/\a=mk (h0::out)/\AT p out un am (k:Int) 0 ea=some (.ex (out,((k+1:Nat):Int),0,ea))) \/
   ∃(m:Rd Nd) (X:Option (Nd×Int×Int×Int)) (dX cU:Bool),(A5 m λc=>Lq ((h0::out).length+1) (Ir en ex mk q (h0::out++[c]) dX cU)) (L.drop k)=some (r,l)/\(∀{r:Nd⊕Dg}{l:List Tk},m (L.drop k)=some (r,l)->Lv (·=·) L en ea k X r l)/\AT p out un am (k:Int) 0 ea=X.bind (clA out dX cU):=by
 have Hi:∀t∈L,Kw t:=λt ht=>(hw t ht).kw;subst hex hp1 hp2;rw[RB,C4 rfl];simp only[cond];have tk:=λ(x:ByteArray)(hx:x∈Em)=>Hh (k:=k) (en:=p.end_) (ea:=ea) Hi hL hx;have is:=λ(x:ByteArray)(hx:x∈Em)=>X9 (k:=k) (en:=p.end_) (ea:=ea) Hi hx;have one:=yG (k:=k) (en:=p.end_) (ea:=ea) hw hL (l:=[Nb,FV,EK]) (by intro x hx;simp only[bhJ,biZ,or_false] at hx;rcases hx with rfl | rfl | rfl<;>simp[Em]) (by decide)
 have hh:=IP (en:=p.end_) (e:=0) (ea:=ea) hk;have fl:∀x y:Int,Aw (⟨p.l,(k:Int),p.end_,0,ea⟩:Ps) x y=some ((),x,y):=λx y=>rfl;dsimp only[Pz] at tk is one hh;unfold Ir Sd at hS
 have bad:UY (p.l.drop k) [Nb,FV,EK] 0=none->Co FV (p.l.drop k)=false->Co EK (p.l.drop k)=false->(am=true->Co Vb (p.l.drop k)=false)->some ((blT ⟨ecT (p.l.drop k),EP p.end_ (p.l.drop k)⟩:Nd⊕Dg),p.l.drop k)=some (r,l)->∃d e',r=.inr d/\d.err≠0/\l=p.l.drop k/\d.AO=EP p.end_ l/\∃Ki,Ki.length<=out.length+1/\e'=d.err/\cond am ((An (⟨p.l,(k:Int),p.end_,0,ea⟩:Ps) Vb).bind λx=>cond x.1 (some (.ex (out,x.2,0,ea))) (uY p out un am x.2 0 ea)) (uY p out un am (k:Int) 0 ea)=some (.nx (Ki,un,am,(k:Int),e',d.AO)):=by
  intro b1 b2 b3 b4 hx;simp only[atS,aWN] at hx;obtain⟨rfl,rfl⟩:=hx;have hec:ecT (p.l.drop k)≠0:=by unfold ecT;split<;>decide
  have hE:∃Ki,Ki.length<=out.length+1/\uY p out un am (k:Int) 0 ea=some (.nx (Ki,un,am,(k:Int),ecT (p.l.drop k),EP p.end_ (p.l.drop k))):=by unfold uY;rw[hh,is _ (by simp[Em]),is _ (by simp[Em]),b2,b3];simp only[Uu,cond];unfold XY;rw[one,b1];simp only[Uu];rw[C4 rfl];simp only[cond];obtain⟨v,hv⟩:=aIJ (L:=p.l) (k:=k) (en:=p.end_) (ea:=EP p.end_ (p.l.drop k)) hec hk;have h2:=Ks (L:=p.l) (k:=k) (en:=p.end_) (ea:=EP p.end_ (p.l.drop k)) hec hk Jv;dsimp only[Pz] at h2;rw[hv];simp only[Uu];rw[h2];simp only[Uu];rw[B1 (by omega)];exact⟨_,by simp,rfl⟩
  obtain⟨Ki,hol,hE⟩:=hE;refine⟨_,_,rfl,hec,rfl,rfl,Ki,hol,rfl,?_⟩;cases am with
  |false=>exact hE
  |true=>
   simp only[cond];rw[tk _ (by simp[Em]),b4 rfl];exact hE
 cases h:p.l.drop k with
 |nil=>
  rw[h] at hS bad;exact .inl (bad rfl rfl rfl (λ_=>rfl) hS)
 |cons t s=>
  obtain⟨h1,h2,h3⟩:=CS h;subst h3;have IX:∀(kind:Int)(r:Nd⊕Dg)(l:List Tk),LY p.end_ (RE p.end_) kind (t::p.l.drop (k+1))=some (r,l)->cond (A8 kind 7) (A5 (P9 (F4 p.end_)) λl=>A5 (Ff p.end_ Jv) λ_=>CX (Dd kind bE bE 0 l t.AO)) (A5 (RE p.end_) λe=>A5 (Ff p.end_ Jv) λ_=>CX (Dd kind bE bE 0 [e] t.AO)) (p.l.drop (k+1))=some (r,l):=λkind r l h=>h;have SL:∀x,Co x (p.l.drop k)=Bd t.text.data.toList x.data.toList:=λx=>by rw[h];rfl
  have hwk:EP p.end_ (p.l.drop k)=t.AO:=by rw[h];rfl
  rw[hwk] at hh;simp only[UY,SL] at one;rw[h] at hS bad;simp only at hS
  have fin:∀(X:Option (Nd×Int×Int×Int)) (kind:Int) (dX cU:Bool),(A5 (LY p.end_ (RE p.end_) kind) λc=>Lq ((h0::out).length+1) (Ir p.end_ (RE p.end_) mk q (h0::out++[c]) dX cU)) (t::p.l.drop (k+1))=some (r,l)->(∀{r:Nd⊕Dg}{l:List Tk},LY p.end_ (RE p.end_) kind (t::p.l.drop (k+1))=some (r,l)->Lv (·=·) p.l p.end_ ea k X r l)->(am=true->Co Vb (p.l.drop k)=false)->uY p out un am (k:Int) 0 ea=X.bind (clA out dX cU)->∃(m:Rd Nd) (X:Option (Nd×Int×Int×Int)) (dX cU:Bool),(A5 m λc=>Lq ((h0::out).length+1) (Ir p.end_ (RE p.end_) mk q (h0::out++[c]) dX cU)) (t::p.l.drop (k+1))=some (r,l)/\(∀{r:Nd⊕Dg}{l:List Tk},m (t::p.l.drop (k+1))=some (r,l)->Lv (·=·) p.l p.end_ ea k X r l)/\cond am ((An (⟨p.l,(k:Int),p.end_,0,ea⟩:Ps) Vb).bind λx=>cond x.1 (some (.ex (out,x.2,0,ea))) (uY p out un am x.2 0 ea)) (uY p out un am (k:Int) 0 ea)=X.bind (clA out dX cU):=λX kind dX cU hA hB hC hD=>by
   refine⟨_,X,dX,cU,hA,hB,?_⟩;cases am with
   |false=>exact hD
   |true=>
    simp only[cond];rw[tk _ (by simp[Em]),hC rfl];exact hD
  cases c1:Bd t.text.data.toList Nb.data.toList with
  |true=>
   rw[c1] at hS one;have tx:=Mh c1;refine .inr (.inr (fin (clX p 6 t.AO ((k+1:Nat):Int) 0 ea) 6 un am hS (λh=>Ly (biC k) (aID hw hL h1 rfl rfl (IX 6 _ _ h))) (λ_=>by rw[SL,tx];rfl) ?_));unfold uY;rw[hh,is _ (by simp[Em]),is _ (by simp[Em]),SL,SL,show Bd t.text.data.toList FV.data.toList=false by rw[tx];rfl,show Bd t.text.data.toList EK.data.toList=false by rw[tx];rfl];simp only[Uu,cond];rw[acB];unfold clR;rw[one];rfl
  |false=>
  rw[c1] at hS one;cases c2:Bd t.text.data.toList FV.data.toList with
  |true=>
   rw[c2] at hS one;have tx:=Mh c2;cases un with
   |true=>
    simp only[cond,IE,atS,aWN] at hS;obtain⟨rfl,rfl⟩:=hS;obtain⟨Ki,hol,Wj⟩:=aIC (ea:=t.AO) (show(5:Int)≠0 by decide) hk (p:=p) rfl (out:=out) (by omega) true am t.AO
    have hE:uY p out true am (k:Int) 0 ea=some (.nx (Ki,true,am,(k:Int),5,t.AO)):=by unfold uY;rw[hh,is _ (by simp[Em]),SL,c2];simp only[Uu,cond,fl];exact Wj
    refine .inl ⟨_,_,rfl,(show(5:Int)≠0 by decide),rfl,rfl,Ki,hol,rfl,?_⟩;cases am with
    |false=>exact hE
    |true=>
     simp only[cond];rw[tk _ (by simp[Em]),SL,show Bd t.text.data.toList Vb.data.toList=false by rw[tx];rfl];exact hE
   |false=>
    refine .inr (.inr (fin (clN p t.AO ((k+1:Nat):Int) 0 ea) 7 true am hS (λh=>Ly (biC k) (aUV hw hL h1 rfl rfl (IX 7 _ _ h))) (λ_=>by rw[SL,tx];rfl) ?_));unfold uY;rw[hh,is _ (by simp[Em]),is _ (by simp[Em]),SL,SL,c2,show Bd t.text.data.toList EK.data.toList=false by rw[tx];rfl];simp only[Uu,cond];rw[acB];unfold clR;rw[one];rfl
  |false=>
  rw[c2] at hS one;cases c3:Bd t.text.data.toList EK.data.toList with
  |true=>
   rw[c3] at hS one;have tx:=Mh c3;cases am with
   |true=>
    simp only[cond,IE,atS,aWN] at hS;obtain⟨rfl,rfl⟩:=hS;obtain⟨Ki,hol,Wj⟩:=aIC (ea:=t.AO) (show(5:Int)≠0 by decide) hk (p:=p) rfl (out:=out) (by omega) un true t.AO
    have hE:uY p out un true (k:Int) 0 ea=some (.nx (Ki,un,true,(k:Int),5,t.AO)):=by unfold uY;rw[hh,is _ (by simp[Em]),is _ (by simp[Em]),SL,SL,c2,c3];simp only[Uu,cond,fl];exact Wj
    refine .inl ⟨_,_,rfl,(show(5:Int)≠0 by decide),rfl,rfl,Ki,hol,rfl,?_⟩;simp only[cond];rw[tk _ (by simp[Em]),SL,show Bd t.text.data.toList Vb.data.toList=false by rw[tx];rfl];exact hE
   |false=>
    refine .inr (.inr (fin (clX p 8 t.AO ((k+1:Nat):Int) 0 ea) 8 un true hS (λh=>Ly (biC k) (aID hw hL h1 rfl rfl (IX 8 _ _ h))) (λh=>by cases h) ?_));unfold uY;rw[hh,is _ (by simp[Em]),is _ (by simp[Em]),SL,SL,c2,c3];simp only[Uu,cond];rw[acB];unfold clR;rw[one];rfl
  |false=>
  rw[c3] at hS one
  have b1:UY (t::p.l.drop (k+1)) [Nb,FV,EK] 0=none:=by simp only[UY,Co,c1,c2,c3,cond]
  cases c4:Bd t.text.data.toList Vb.data.toList with
  |true=>
   rw[c4] at hS;cases am with
   |true=>
    simp only[cond,Nl,CX,atS,aWN] at hS;obtain⟨rfl,rfl⟩:=hS;refine .inr (.inl ⟨_,rfl,h1,rfl,rfl,?_⟩);simp only[cond];rw[tk _ (by simp[Em]),SL,c4];rfl
   |false=>exact .inl (bad b1 c2 c3 (λh=>by cases h) hS)
  |false=>
   rw[c4] at hS;exact .inl (bad b1 c2 c3 (λ_=>c4) hS)
theorem aCX{ex:Rd Nd}(hex:ex=RE en)(p:Ps)(hp1:p.l=L)(hp2:p.end_=en)(h0:Nd)(mk:List Nd->Nd):∀(q:Nat)(out:List Nd)(un am:Bool)(k:Nat)(r:Nd⊕Dg)(l:List Tk),k<=L.length->out.length+q<=100000->Ir en ex mk q (h0::out) un am (L.drop k)=some (r,l) ->
 ∃(m:Nat)(Ki:List Nd)(k':Nat)(e' CF:Int),ClI p m (out,un,am,(k:Int),0,ea)=some (.inl (Ki,(k':Int),e',CF))/\Ki.length<=200000/\k<=k'/\k'<=L.length/\match r with|.inl a=>l=L.drop k'/\a=mk (h0::Ki)/\e'=0/\CF=ea|.inr d=>d.err≠0/\Er L en k' l d/\e'=d.err/\CF=d.AO:=by
 intro q
 induction q with
 |zero=>intro out un am k r l _ _ h;cases h
 |succ q ih=>
  intro out un am k r l hk hq h
  have dead:∀(k:Nat)(out:List Nd)(un am:Bool)(e CF:Int),e≠0->ClI p 1 (out,un,am,(k:Int),e,CF)=some (.inl (out,(k:Int),e,CF)):=λk out un am e CF he=>by
   show(AT p out un am (k:Int) e CF).bind _=_;rw[RB,DE he];rfl
  rcases aDV (ea:=ea) hw hL hex p hp1 hp2 hk (by omega) h with ⟨d,e',rfl,a1,rfl,a3,Ki,hol,rfl,a4⟩ | ⟨a,rfl,a1,rfl,rfl,a3⟩ | ⟨m,X,dX,cU,a1,a2,a3⟩
  refine⟨2,Ki,k,d.err,d.AO,?_,by omega,aWP k,hk,a1,.inl ⟨rfl,a3⟩,rfl,rfl⟩;show(AT p out un am (k:Int) 0 ea).bind _=_;rw[a4];exact dead _ _ _ _ _ _ a1;refine⟨1,out,k+1,0,ea,?_,by omega,biC k,a1,rfl,rfl,rfl,rfl⟩;show(AT p out un am (k:Int) 0 ea).bind _=_;rw[a3];rfl;unfold A5 at a1;split at a1;cases a1;rename_i c s hc;obtain⟨k1,b1,b2,rfl,c',rfl,rfl⟩:=a2 hc;unfold Lq at a1;dsimp only at a1;rw[B1 (by simp only[bhE];omega)] at a1;have a1:Ir en ex mk q (h0::(out++[c])) dX cU (L.drop k1)=some (r,l):=a1;simp only[Uu,clA] at a3;rw[B1 (by omega)] at a3;obtain⟨m,Ki,k',e',CF,c1,c0,c2,c3,c4⟩:=ih (out++[c]) dX cU k1 r l b2 (by simp only[aWQ,bhF];omega) a1;refine⟨m+1,Ki,k',e',CF,?_,c0,by omega,c3,c4⟩;show(AT p out un am (k:Int) 0 ea).bind _=_;rw[a3];exact c1;rename_i d s hd;obtain⟨k1,b1,b2,b3,b4,v,rfl⟩:=a2 hd;simp only[atS,aWN] at a1;obtain⟨rfl,rfl⟩:=a1;simp only[Uu,clA] at a3;rw[B1 (by omega)] at a3;refine⟨2,out++[v],k1,d.err,d.AO,?_,by simp only[aWQ,bhF];omega,b1,b2,b3,b4,rfl,rfl⟩;show(AT p out un am (k:Int) 0 ea).bind _=_;rw[a3];exact dead _ _ _ _ _ _ b3
theorem akT{ex:Rd Nd}(hex:ex=RE en)(h0:Nd)(mk:List Nd->Nd)(hk:k<=L.length){r:Nd⊕Dg}{l:List Tk}(hS:A5 (Ff en bJ) (λ_ s=>Ir en ex mk (s.length+1) [h0] false false s) (L.drop k)=some (r,l)):∃(out:List Nd)(k':Nat)(e' CF:Int),Ds (Pz L k en 0 ea)=some (out,(k':Int),e',CF)/\out.length<=200000/\k<=k'/\k'<=L.length/\match (generalizing:=false) r with|.inl a=>l=L.drop k'/\a=mk (h0::out)/\e'=0/\CF=ea|.inr d=>d.err≠0/\Er L en k' l d/\e'=d.err/\CF=d.AO:=by
 have Hi:∀t∈L,Kw t:=λt ht=>(hw t ht).kw;have hn:=λr l (h:Ff en bJ (L.drop k)=some (r,l))=>Io (ea:=ea) (r:=r) (l:=l) Hi hL hk (x:=bJ) (by simp[Em]) h;unfold Ds;unfold A5 at hS;split at hS;cases hS;rename_i t s ht;obtain⟨k1,b1,b2,rfl,_,_,b4⟩:=hn _ _ ht;rw[b4];obtain⟨m,Ki,k',e',CF,c1,c0,c2,c3,c4⟩:=aCX (ea:=ea) hw hL hex (Pz L k en 0 ea) rfl rfl h0 mk _ [] false false k1 r l b2 (by simp only[bhI,biV];omega) hS;refine⟨Ki,k',e',CF,?_,c0,by omega,c3,c4⟩;simp only[Uu];rw[BB c1];rfl;rename_i d s hd;obtain⟨k1,b1,b2,b3,b4,_,b5⟩:=hn _ _ hd;rw[b5];simp only[atS,aWN] at hS;obtain⟨rfl,rfl⟩:=hS;refine⟨[],k1,d.err,d.AO,?_,bjI _,b1,b2,b3,b4,rfl,rfl⟩;simp only[Uu]
 rw[BB (n:=1) (r:=.inl ([],(k1:Int),d.err,d.AO)) (by
  show(AT _ [] false false (k1:Int) d.err d.AO).bind _=_;rw[RB,DE b3];rfl)]
 rfl
end
section
variable {L:List Tk}{k:Nat}{en ea:Int}(hw:∀t∈L,Rg t)(hL:L.length<=10000)
include hw hL
theorem asH(hk:k<=L.length){r:Nd⊕Dg}{l:List Tk}(hS:Wk en (RE en) (L.drop k)=some (r,l)):Lv (·=·) L en ea k (DH (Pz L k en 0 ea)) r l:=by
 have Hi:∀t∈L,Kw t:=λt ht=>(hw t ht).kw;have D1:∀(s:ByteArray)(k:Nat)(e ea:Int),e≠0->k<=L.length->Ab (⟨L,(k:Int),en,e,ea⟩:Ps) s=some ((),(k:Int),e,ea):=λs k e ea he hk=>Ks he hk s;have D2:∀(x:Int)(k:Nat)(e ea:Int),e≠0->k<=L.length->AW (⟨L,(k:Int),en,e,ea⟩:Ps) x=some (gT,(k:Int),e,ea):=λx k e ea he hk=>rZ he hk x;have D3:∀(k:Nat)(e ea:Int),e≠0->k<=L.length->DJ (⟨L,(k:Int),en,e,ea⟩:Ps)=some (DS,(k:Int),e,ea):=λk e ea he hk=>aSQ he hk;have D4:∀(k:Nat)(e ea:Int),e≠0->k<=L.length->BQ (⟨L,(k:Int),en,e,ea⟩:Ps) [Q6,Kb,MJ,Q9]=some (0,(k:Int),e,ea):=λk e ea he hk=>ahI he hk (by decide);have D5:∀(k:Nat)(e ea:Int),e≠0->k<=L.length->Ds (⟨L,(k:Int),en,e,ea⟩:Ps)=some ([],(k:Int),e,ea):=λk e ea he hk=>akS he hk;have D6:∀(k:Nat)(e ea:Int),e≠0->k<=L.length->∃v,EF (⟨L,(k:Int),en,e,ea⟩:Ps)=some (v,(k:Int),e,ea):=λk e ea he hk=>aOE he hk;have one:=yG (k:=k) (en:=en) (ea:=ea) hw hL (l:=[Ic,GA,Cp]) (by intro x hx;simp only[bhJ,biZ,or_false] at hx;rcases hx with rfl | rfl | rfl<;>simp[Em]) (by decide)
 have bad:UY (L.drop k) [Ic,GA,Cp] 0=none->some ((blT ⟨ecT (L.drop k),EP en (L.drop k)⟩:Nd⊕Dg),L.drop k)=some (r,l)->Lv (·=·) L en ea k (DH (Pz L k en 0 ea)) r l:=λh1 h2=>by
  simp only[atS,aWN] at h2;obtain⟨rfl,rfl⟩:=h2;have hec:ecT (L.drop k)≠0:=by unfold ecT;split<;>decide
  refine⟨k,aWP k,hk,hec,.inl ⟨rfl,rfl⟩,?_⟩;unfold DH;rw[IP hk,one,h1];simp only[Uu];rw[C4 rfl];simp only[cond];rw[D2 _ k _ _ hec hk];simp only[Uu];rw[D1 _ k _ _ hec hk];simp only[Uu];rw[D3 k _ _ hec hk];simp only[Uu];rw[D1 _ k _ _ hec hk];exact⟨_,rfl⟩
 unfold Wk Sd at hS;cases h:L.drop k with
 |nil=>
  rw[h] at hS bad;exact bad rfl hS
 |cons t s=>
  obtain⟨h1,h2,h3⟩:=CS h;subst h3;have SL:∀x,Co x (L.drop k)=Bd t.text.data.toList x.data.toList:=λx=>by rw[h];rfl
  have hh:=IP (L:=L) (en:=en) (e:=0) (ea:=ea) hk;rw[h] at hS bad hh;simp only[UY,SL] at one;simp only at hS;cases c1:Bd t.text.data.toList Ic.data.toList with
  |true=>
   rw[c1] at hS one;have hS:UK en (t::L.drop (k+1))=some (r,l):=hS;unfold UK Sd Nl at hS;simp only at hS;rw[show Bd t.text.data.toList GA.data.toList=false by rw[Mh c1];rfl] at hS;unfold DH;rw[hh,one];simp only[Uu,cond];rw[C4 (show((0:Nat):Int)=0 from rfl)];simp only[cond];refine Ly (biC k) (Cv (λh=>adJ hL h1 h) (λm y k2 hm _ hk2 h2=>?_) (λv k' e CF he EM=>?_) hS);refine Cv (λh=>Io Hi hL hk2 (by simp[Em]) h) (λ_ _ k3 _ _ hk3 h3=>?_) (λv k' e CF he EM=>?_) h2;refine Cv (λh=>ayD hw hL hk3 h) (λu z k4 hu _ wY h4=>?_) (λv k' e CF he EM=>?_) h3;refine Cv (λh=>Io Hi hL wY (by simp[Em]) h) (λ_ _ k5 _ _ hk5 h5=>?_) (λv k' e CF he EM=>⟨_,rfl⟩) h4;refine J0 hk5 ?_ h5;rw[hm,hu];rfl;dsimp only;rw[D1 _ k' e CF he EM];exact⟨_,rfl⟩;dsimp only;rw[D3 k' e CF he EM];simp only[Uu];rw[D1 _ k' e CF he EM];exact⟨_,rfl⟩;dsimp only;rw[D1 _ k' e CF he EM];simp only[Uu];rw[D3 k' e CF he EM];simp only[Uu];rw[D1 _ k' e CF he EM];exact⟨_,rfl⟩
  |false=>
  rw[c1] at hS one;cases c2:Bd t.text.data.toList GA.data.toList with
  |true=>
   rw[c2] at hS one;have hS:UK en (t::L.drop (k+1))=some (r,l):=hS;unfold UK Sd Nl at hS;simp only at hS;rw[c2] at hS;unfold DH;rw[hh,one];simp only[Uu,cond];rw[DE (show((0+1:Nat):Int)≠0 by decide),C4 (show((0+1:Nat):Int)=1 by decide)];simp only[cond];refine Ly (biC k) (Cv (λh=>adJ hL h1 h) (λm y k2 hm _ hk2 h2=>?_) (λv k' e CF he EM=>?_) hS);refine Cv (λh=>Io Hi hL hk2 (by simp[Em]) h) (λ_ _ k3 _ _ hk3 h3=>?_) (λv k' e CF he EM=>?_) h2;refine Cv (λh=>ayD hw hL hk3 h) (λu z k4 hu _ wY h4=>?_) (λv k' e CF he EM=>?_) h3;refine Cv (λh=>aRJ hw hL wY h) (λro i k5 hro _ hk5 h5=>?_) (λv k' e CF he EM=>?_) h4;simp only[H9,hro] at h5;refine Cv (λh=>Io Hi hL hk5 (by simp[Em]) h) (λ_ _ k6 _ _ hk6 h6=>?_) (λv k' e CF he EM=>⟨_,rfl⟩) h5;refine J0 hk6 ?_ h6;rw[hm,hu];rfl;dsimp only;rw[D1 _ k' e CF he EM];exact⟨_,rfl⟩;dsimp only;rw[D4 k' e CF he EM];simp only[Uu];rw[D1 _ k' e CF he EM];exact⟨_,rfl⟩;dsimp only;rw[D3 k' e CF he EM];simp only[Uu];rw[D4 k' e CF he EM];simp only[Uu];rw[D1 _ k' e CF he EM];exact⟨_,rfl⟩;dsimp only;rw[D1 _ k' e CF he EM];simp only[Uu];rw[D3 k' e CF he EM];simp only[Uu];rw[D4 k' e CF he EM];simp only[Uu];rw[D1 _ k' e CF he EM];exact⟨_,rfl⟩
  |false=>
  rw[c2] at hS one;cases c3:Bd t.text.data.toList Cp.data.toList with
  |true=>
   rw[c3] at hS one;have hS:PR en (RE en) (t::L.drop (k+1))=some (r,l):=hS
   have e1:Ff en Cp (t::L.drop (k+1))=some (.inl t,L.drop (k+1)):=by unfold Ff Ig Sd;simp only[H9,Bp,c3,cond,Nl,CX]
   unfold PR at hS;unfold A5 at hS;rw[e1] at hS;simp only at hS;have hS:A5 (M4 en 1) (λn=>A5 (Ff en lU) λ_=>A5 (iU en) λm=>A5 (gX en) λh=>A5 (Ff en bJ) λ_ s=>Ir en (RE en) (λl=>Dd 4 m.text bE n.1 l t.AO) (s.length+1) [h] false false s) (L.drop (k+1))=some (r,l):=hS;unfold DH;rw[hh,one];simp only[Uu,cond];rw[DE (show((0+1+1:Nat):Int)≠0 by decide),DE (show((0+1+1:Nat):Int)≠1 by decide)];simp only[cond]
   have tail:∀(nm:ByteArray)(n:Int)(x:Nd)(v:List Nd)(k':Nat)(e CF:Int),v=[]->∃w,G8 ([x].length+v.length) (cond (A8 ((v.length:Nat):Int) 0) (some ((⟨4,nm,gT,n,0,0,0,(⟨0,[]⟩:Fn),[x],t.AO⟩:Nd),(k':Int),e,CF)) (some ((⟨4,nm,gT,n,0,0,0,(⟨0,[]⟩:Fn),([x]++v),t.AO⟩:Nd),(k':Int),e,CF)))=some (w,(k':Int),e,CF):=λnm n x v k' e CF hv=>by
    subst hv;rw[B1 (by simp)];exact⟨_,rfl⟩
   refine Ly (biC k) (Cv (λh=>One.lv (Qb hw hL h1 h)) (λn ny k2 hn _ hk2 h2=>?_) (λv k' e CF he EM=>?_) hS)
   ·refine Cv (λh=>Io Hi hL hk2 (by simp[Em]) h) (λ_ _ k3 _ _ hk3 h3=>?_) (λv k' e CF he EM=>?_) h2
    ·refine Cv (λh=>adJ hL hk3 h) (λm my k4 hm _ wY h4=>?_) (λv k' e CF he EM=>?_) h3
     ·refine Cv (λh=>aOF hw hL wY h) (λhd Sv k5 hhd _ hk5 h5=>?_) (λv k' e CF he EM=>?_) h4
      ·subst hhd
       obtain⟨out,k',e',CF,c1,c0,c2,c3,c4⟩:=akT (ea:=ea) hw hL rfl hd _ hk5 h5;dsimp only[Pz] at c1 ⊢;rw[c1];simp only[Uu];rw[B1 (by simp only[bhF];omega)]
       have hz:(cond (A8 ((out.length:Nat):Int) 0) (some ((⟨4,my,gT,ny,0,0,0,(⟨0,[]⟩:Fn),[hd],t.AO⟩:Nd),(k':Int),e',CF)) (some ((⟨4,my,gT,ny,0,0,0,(⟨0,[]⟩:Fn),([hd]++out),t.AO⟩:Nd),(k':Int),e',CF)))=some (Dd 4 my bE ny (hd::out) t.AO,(k':Int),e',CF):=by
        cases hz:A8 ((out.length:Nat):Int) 0 with
        |true=>
         have:out=[]:=biJ (by have:=F3 hz;omega);subst this;rfl
        |false=>rfl
       simp only[cond] at hz;simp only[EP];rw[hz];refine⟨k',c2,c3,?_⟩;cases r with
       |inl a=>
        obtain⟨rfl,rfl,rfl,rfl⟩:=c4;exact⟨rfl,_,by rw[hn.1,hm],rfl⟩
       |inr d=>
        obtain⟨d1,d2,rfl,rfl⟩:=c4;exact⟨d1,d2,_,rfl⟩
      dsimp only;rw[D5 k' e CF he EM];exact tail _ _ _ _ _ _ _ rfl
     obtain⟨x,hx⟩:=D6 k' e CF he EM;dsimp only;rw[hx];simp only[Uu];rw[D5 k' e CF he EM];exact tail _ _ _ _ _ _ _ rfl
    obtain⟨x,hx⟩:=D6 k' e CF he EM;dsimp only;rw[D2 _ k' e CF he EM];simp only[Uu];rw[hx];simp only[Uu];rw[D5 k' e CF he EM];exact tail _ _ _ _ _ _ _ rfl
   obtain⟨x,hx⟩:=D6 k' e CF he EM;dsimp only;rw[D1 _ k' e CF he EM];simp only[Uu];rw[D2 _ k' e CF he EM];simp only[Uu];rw[hx];simp only[Uu];rw[D5 k' e CF he EM];exact tail _ _ _ _ _ _ _ rfl
  |false=>
   rw[c3] at hS;exact bad (by simp only[UY,Co,c1,c2,c3,cond]) hS
end
section
variable {n:Nat}{en:Int}{st:Bool}
def anI(kind:Int)(hn:n<=10000):UT n st TT (LY en (RE en) kind) :=
 kM λt _ s nR hl=>Vq (GV (λ_=>Bk (aiR (by omega) Wv) λ_ _ _=>Bk (F8 _) λ_ _ _=>Eh trivial) λ_=>Bk (aKL (by omega)) λ_ _ _=>Bk (F8 _) λ_ _ _=>Eh trivial) nR hl
def aaW{mk:List Nd->Nd}:∀(q n:Nat)(ns:List Nd)(un am:Bool),n<=10000->n < q->ns.length+n<=100000->UT n st TT (Ir en (RE en) mk q ns un am):=by
 intro q
 induction q generalizing st with
 |zero=>intro n ns un am _ h;omega
 |succ q ih=>
  intro n ns un am hn h1 h2
  have go:∀{st:Bool}(kind:Int)(dX cU:Bool),UT n st TT (A5 (LY en (RE en) kind) λc=>Lq (ns.length+1) (Ir en (RE en) mk q (ns++[c]) dX cU)):=λkind dX cU=>
   Bk (anI kind hn) λc _ h3=>ZU (by omega) (ih (n - 1) _ _ _ (by omega) (by omega) (by simp only[aWQ,bhF];omega))
  refine kM λt _ s nR hl=>?_;cases Bd t.text.data.toList Nb.data.toList;rotate_left;exact go (st:=st) _ _ _ nR hl;cases Bd t.text.data.toList FV.data.toList;rotate_left;exact GV (st:=st) (P:=TT) (λ_=>J7) (λ_=>go _ _ _) nR hl;cases Bd t.text.data.toList EK.data.toList;rotate_left;exact GV (st:=st) (P:=TT) (λ_=>J7) (λ_=>go _ _ _) nR hl;cases Bd t.text.data.toList Vb.data.toList;exact J7 (st:=st) (P:=TT) nR hl;cases am;exact J7 (st:=st) (P:=TT) nR hl;exact Vq (Eh trivial) nR hl
def aeY(hn:n<=10000):UT n st TT (PR en (RE en)) :=
 Bk (F8 _) λt _ h1=>Bk (QG _) λm _ h2=>Bk (F8 _) λ_ _ h3=>Bk eA λu _ h4=>Bk aiP λh _ h5=>Bk (F8 _) λ_ _ h6=>
  aaV (K:=λq=>Ir en (RE en) (λl=>Dd 4 u.text bE m.1 l t.AO) q [h] false false) λk hk=>aaW (k+1) k [h] false false (by omega) (by omega) (by simp only[bhF];omega)
def aiQ(hn:n<=10000):UT n st TT (Wk en (RE en)):=by refine kM λt _ s nR hl=>?_;cases Bd t.text.data.toList Ic.data.toList;rotate_left;exact aiO (st:=st) nR hl;cases Bd t.text.data.toList GA.data.toList;rotate_left;exact aiO (st:=st) nR hl;cases Bd t.text.data.toList Cp.data.toList;rotate_left;exact aeY (st:=st) hn nR hl;exact J7 (st:=st) (P:=TT) nR hl
end
def OQ(t:Tk):Bool:=Bd t.text.data.toList Ic.data.toList||(Bd t.text.data.toList GA.data.toList||Bd t.text.data.toList Cp.data.toList)
def LP:List Tk->List Tk
 |[]=>[]
 |t::s=>if OQ t then t::s else LP s
def Vn:∀l:List Tk,∃k,LP l=l.drop k
 |[]=>⟨0,rfl⟩
 |t::s=>by
  unfold LP;split;exact⟨0,rfl⟩;obtain⟨k,hk⟩:=Vn s;exact⟨k+1,by rw[hk];rfl⟩
def Zf{en:Int}{t:Tk}{l s:List Tk}{r:Nd⊕Dg}(hg:Gl (t::l))(hl:(t::l).length<=10000)(h:Wk en (RE en) (t::l)=some (r,s)):(∃k,s=(t::l).drop k)/\(LP s).length<=l.length/\∀n,r=.inl n->s.length<=l.length:=by
 obtain⟨r',s',h2,h3,h4⟩:=aiQ (st:=true) (en:=en) (n:=(t::l).length) hl hg (aWP _);rw[h] at h2;simp only[atS,aWN] at h2;obtain⟨rfl,rfl⟩:=h2;refine⟨h3,?_,λn hn=>Nat.le_of_lt_succ ((h4 n hn).2 rfl)⟩
 have small:∀{k:Nat},(LP (l.drop k)).length<=l.length:=λ{k}=>by
  obtain⟨j,hj⟩:=Vn (l.drop k);rw[hj,bhI,bhI];omega
 have sk:∀{x:List Tk},(∃k,x=l.drop k)->(LP x).length<=l.length:=by rintro x ⟨k,rfl⟩;exact small
 have gZ:Gl l:=λt ht=>hg t (biB _ ht);have hl':l.length<=10000:=by simp only[bhE] at hl;omega
 cases hi:OQ t with
 |false=>
  have Sc:=hi;unfold OQ at hi;simp only[Bool.or_eq_false_iff] at hi
  have:Wk en (RE en) (t::l)=some (.inr ⟨71,t.AO⟩,t::l):=by unfold Wk Sd;dsimp only;rw[hi.1,hi.2.1,hi.2.2];rfl
  rw[this] at h;simp only[atS,aWN] at h;rw[<- h.2];unfold LP;rw[Sc];obtain⟨k,hk⟩:=Vn l;simp only[biF,if_false];rw[hk,bhI];omega
 |true=>
  unfold Wk Sd at h;dsimp only at h
  have decl:UK en (t::l)=some (r,s)->(LP s).length<=l.length:=by
   intro h;unfold UK Sd Nl at h;dsimp only at h;refine sk ?_
   obtain⟨r2,s2,e2,h5,_⟩:=(show UT l.length false TT _ from Bk eA λm _ _=>Bk (F8 Va) λ_ _ _=>Bk aiT λu _ _=>GV (c:=Bd t.text.data.toList GA.data.toList)
     (A:=A5 (oP en) λr=>H9 (Da r.text) λn=>A5 (Ff en Jv) λ_=>CX (Dd 3 m.text u.text n [] t.AO)) (B:=A5 (Ff en Jv) λ_=>CX (Dd 2 m.text u.text 0 [] t.AO))
     (λ_=>Bk aiS λr _ _=>by obtain⟨b,hb⟩:=Vl r.text;exact QF ⟨b,hb,Bk (F8 _) λ_ _ _=>Eh trivial⟩) λ_=>Bk (F8 _) λ_ _ _=>Eh trivial) gZ (aWP _)
   rw[h] at e2;simp only[atS,aWN] at e2;rw[e2.2];exact h5
  revert h;cases hf:Bd t.text.data.toList Ic.data.toList;rotate_left;exact decl;cases hli:Bd t.text.data.toList GA.data.toList;rotate_left;exact decl;cases ha:Bd t.text.data.toList Cp.data.toList;unfold OQ at hi;rw[hf,hli,ha] at hi;cases hi;intro h;refine sk ?_;have h:PR en (RE en) (t::l)=some (r,s):=h;unfold PR at h
  have he:Ff en Cp (t::l)=some (.inl t,l):=by unfold Ff Ig Sd H9 Bp;dsimp only;rw[ha];rfl
  rcases UF h with ⟨a,s',h3,h4⟩ | ⟨d,h3,_⟩
  rw[he] at h3;simp only[atS,aWN,Sum.inl.injEq] at h3;obtain⟨rfl,rfl⟩:=h3
  obtain⟨r2,s2,e2,h5,_⟩:=(show UT l.length false TT _ from Bk (QG (en:=en) 1) λm _ h2=>Bk (F8 (en:=en) lU) λ_ _ h3=>Bk (eA (en:=en)) λu _ h4=>Bk (aiP (en:=en)) λh _ h5=>Bk (F8 (en:=en) bJ) λ_ _ h6=>
   aaV (K:=λq=>Ir en (RE en) (λl=>Dd 4 u.text bE m.1 l t.AO) q [h] false false) λk hk=>aaW (k+1) k [h] false false (by omega) (by omega) (by simp only[bhF];omega)) gZ (aWP _)
  have h6:=h4.symm.trans e2;simp only[atS,aWN] at h6;rw[h6.2];exact h5;rw[he] at h3;cases h3
def ZQ(en:Int):Nat->List Tk->List Nd->List Dg->Option (List Nd×List Dg)
 |0,_,_,_=>none
 |_+1,[],ks,ds=>some (ks,ds)
 |q+1,t::l,ks,ds=>cond (Cy ((ds.length:Nat):Int) 20) (match Wk en (RE en) (t::l) with|none=>none|some (.inl n,s)=>ZQ en q s (ks++[n]) ds|some (.inr d,s)=>ZQ en q (LP s) ks (ds++[d])) (some (ks,ds))
theorem axS{en:Int}:∀(q:Nat)(l:List Tk)(ks:List Nd)(ds:List Dg),Gl l->l.length<=10000->l.length < q->∃r,ZQ en q l ks ds=some r:=by
 intro q
 induction q with
 |zero=>intro l ks ds _ _ h;omega
 |succ q ih=>
  intro l ks ds hg hl h;cases l with
  |nil=>exact⟨_,rfl⟩
  |cons t l=>
   unfold ZQ;cases Cy ((ds.length:Nat):Int) 20 with
   |false=>exact⟨_,rfl⟩
   |true=>
    obtain⟨r,s,h2,_⟩:=aiQ (st:=true) (en:=en) (n:=(t::l).length) hl hg (aWP _);obtain⟨⟨k,rfl⟩,h4,h5⟩:=Zf hg hl h2;dsimp only[cond];rw[h2];simp only[bhE] at h hl;cases r with
    |inl n=>
     have h6:=h5 n rfl;exact ih _ _ _ (hg.drop k) (by omega) (by omega)
    |inr d=>
     obtain⟨j,hj⟩:=Vn ((t::l).drop k);refine ih _ _ _ ?_ (by omega) (by omega);rw[hj];exact(hg.drop k).drop j
section
variable {source:ByteArray}{ts:List Tk}(Fg:ts.length<=10000)
include Fg
theorem aRT:∀(j k:Nat),k<=ts.length->ts.length - k<=j->∃n k':Nat,k<=k'/\k'<=ts.length/\LP (ts.drop k)=ts.drop k'/\B8 (λx=>Ej source ts x) n (k:Int)=some (.inl (k':Int)):=by
 have stop:∀{k:Nat}{y:Int},Ej source ts (k:Int)=some (.ex y)->B8 (λx=>Ej source ts x) 1 (k:Int)=some (.inl y):=by intro k y h;show(Ej source ts (k:Int)).bind _=_;rw[h];rfl
 intro j
 induction j with
 |zero=>
  intro k hk hj;have:k=ts.length:=by omega
  refine⟨1,k,aWP k,hk,?_,stop ?_⟩;rw[biX (by omega)];rfl;unfold Ej;rw[Dv (by omega)];rfl
 |succ j ih=>
  intro k hk hj;rcases Ko ts hk with ⟨h1,h2⟩ | ⟨t,h1,h2,h3⟩
  ·refine⟨1,k,aWP k,hk,?_,stop ?_⟩
   rw[h2];rfl;unfold Ej;rw[Dv (by omega)];rfl
  ·have hs:∀x,Co x (ts.drop k)=Bd t.text.data.toList x.data.toList:=λx=>by rw[h3];rfl
   have hL:Ej source ts (k:Int)=if OQ t then some (.ex (k:Int)) else some (.nx ((k+1:Nat):Int)):=by unfold Ej OQ;rw[En (by omega)];dsimp only[cond];rw[JK hk,JK hk,JK hk,Uu,hs,hs,hs];cases Bd t.text.data.toList Ic.data.toList;cases Bd t.text.data.toList GA.data.toList;cases Bd t.text.data.toList Cp.data.toList;rw[<- Hg (by omega) hk];rfl;rfl;rfl;rfl
   cases hi:OQ t with
   |true=>
    refine⟨1,k,aWP k,hk,?_,stop ?_⟩;rw[h3];unfold LP;rw[hi];rfl;rw[hL,hi];rfl
   |false=>
    obtain⟨n,k',a1,a2,a3,a4⟩:=ih (k+1) h1 (by omega);refine⟨n+1,k',by omega,a2,?_,?_⟩;rw[h3];unfold LP;rw[hi];exact a3;show(Ej source ts (k:Int)).bind _=_;rw[hL,hi];exact a4
theorem baR(hg:Gl ts):∀(q k:Nat)(ks:List Nd)(ds:List Dg)(r:List Nd×List Dg),k<=ts.length->ks.length+ds.length+q<=100000->ZQ ((source.data.toList.length:Nat):Int) q (ts.drop k) ks ds=some r ->
 ∃n k':Nat,B8 (λx:List Dg×List Nd×Int=>Cq source ts x.1 x.2.1 x.2.2) n (ds,ks,(k:Int))=some (.inl (r.2,r.1,(k':Int))):=by
 intro q
 induction q with
 |zero=>intro k ks ds r hk hq h;cases h
 |succ q ih=>
  intro k ks ds r hk hq h
  have stop:Cq source ts ds ks (k:Int)=some (.ex (ds,ks,(k:Int)))->B8 (λx:List Dg×List Nd×Int=>Cq source ts x.1 x.2.1 x.2.2) 1 (ds,ks,(k:Int))=some (.inl (ds,ks,(k:Int))):=by intro h;show(Cq source ts ds ks (k:Int)).bind _=_;rw[h];rfl
  rcases Ko ts hk with ⟨h1,h2⟩ | ⟨t,h1,h2,h3⟩
  ·rw[h2] at h
   have:r=(ks,ds):=(biA h).symm;subst this;refine⟨1,k,stop ?_⟩;unfold Cq;rw[Dv (by omega)];rfl
  ·rw[h3] at h
   unfold ZQ at h;rw[<- h3] at h;cases hd:Cy ((ds.length:Nat):Int) 20 with
   |false=>
    rw[hd] at h;have:r=(ks,ds):=(biA h).symm;subst this;refine⟨1,k,stop ?_⟩;unfold Cq;rw[En (by omega),hd];rfl
   |true=>
    rw[hd] at h;dsimp only[cond] at h;split at h;cases h;rename_i n s hi;obtain⟨k1,a1,a2,rfl,a4⟩:=asI Fg hg hk hi;obtain⟨m,k',b1⟩:=ih k1 (ks++[n]) ds r a2 (by simp only[aWQ,bhF];omega) h;refine⟨m+1,k',?_⟩
    have hL:Cq source ts ds ks (k:Int)=some (.nx (ds,ks++[n],(k1:Int))):=by unfold Cq IC;rw[En (by omega),hd,a4];dsimp only[cond,bjW,axV];rw[B1 (by omega)]
    show(Cq source ts ds ks (k:Int)).bind _=_;rw[hL];exact b1;rename_i d s hi;obtain⟨k1,a1,a2,rfl,a4⟩:=asI Fg hg hk hi;obtain⟨j,k2,c1,c2,c3,c4⟩:=aRT (source:=source) Fg (ts.length - k1) k1 a2 (aWP _);rw[c3] at h;obtain⟨m,k',b1⟩:=ih k2 ks (ds++[d]) r c2 (by simp only[aWQ,bhF];omega) h;refine⟨m+1,k',?_⟩
    have hL:Cq source ts ds ks (k:Int)=some (.nx (ds++[d],ks,(k2:Int))):=by unfold Cq IC;rw[En (by omega),hd,a4];dsimp only[cond,bjW,axV];rw[B1 (by omega),BB c4];rfl
    show(Cq source ts ds ks (k:Int)).bind _=_;rw[hL];exact b1
end
def Ey(s:ByteArray):List Tk:=(LexS.Of s.data.toList).1.map Ju
def Uf(s:ByteArray):Nat:=(LexS.Of s.data.toList).2.1
def aPT(s:ByteArray):Nat:=(LexS.Of s.data.toList).2.2
def Vm(ks:List Nd):Nd:=⟨1,gT,gT,0,0,0,0,⟨0,[]⟩,ks,0⟩
theorem oK{s:ByteArray}(h:Uf s≠0):De s=some (z0,[⟨(Uf s:Int),(aPT s:Int)⟩]):=by unfold De Iz;rw[Uu];dsimp only;rw[DE (by unfold Uf at h;omega)];rfl
theorem amB{s:ByteArray}(h:Uf s=0)(hg:Gl (Ey s))(hl:(Ey s).length<=10000):∃ks ds,ZQ ((s.data.toList.length:Nat):Int) ((Ey s).length+1) (Ey s) [] []=some (ks,ds)/\De s=cond (Cy 0 ((ds.length:Nat):Int)) (some (z0,ds)) (Et (Vm ks)):=by
 obtain⟨⟨ks,ds⟩,h1⟩:=axS (en:=((s.data.toList.length:Nat):Int)) ((Ey s).length+1) (Ey s) [] [] hg hl (Nat.lt_succ_self _);refine⟨ks,ds,h1,?_⟩;obtain⟨n,k',h2⟩:=baR (source:=s) hl hg ((Ey s).length+1) 0 [] [] _ (bjI _) (by simp only[biV];omega) (by rw[biT];exact h1);unfold De Iz;rw[Uu];dsimp only;rw[C4 (by unfold Uf at h;omega)];dsimp only[cond];have h2:B8 (λx:List Dg×List Nd×Int=>Cq s (List.map Ju (LexS.Of s.data.toList).fst) x.1 x.2.1 x.2.2) n ([],[],0)=some (.inl (ds,ks,(k':Int))):=h2;rw[BB h2,Uu];dsimp only[F0];cases Cy 0 ((ds.length:Nat):Int);dsimp only;show(Et (Vm ks)).bind _=Et (Vm ks);cases Et (Vm ks)<;>rfl
 rfl
end Mo
end Go.Proofs.YtpbkhogolfegfaaGreatDoor
namespace Go.Proofs.YtpbkhogolfegfaaGreatDoor
open AI Go LexS
namespace Mo
def OH(c:UInt8):Prop:=48<=c.toNat/\c.toNat<=57
theorem apH:∀n < 128,(O4 n &&& 8)≠0->48<=n/\n<=57:=by decide
theorem apG{c:UInt8}(h:cin 8 c=true):OH c:=by
 unfold cin at h;by_cases hc:c.toNat < 128;exact apH _ hc (by simpa using h)
 rw[qM _ (by omega)] at h;simp at h
theorem YA(t:List UInt8):∀c∈t.take (Bf 8 t),OH c:=by
 unfold Bf
 induction t with
 |nil=>intro c hc;cases hc
 |cons x t ih=>
  intro c hc;rw[List.takeWhile_cons] at hc;split at hc;rename_i hx;rw[bhE,List.take_succ_cons] at hc;rcases bhJ.1 hc with rfl | hc
  exact apG hx;exact ih c hc;cases hc
theorem afX:∀(l:List UInt8)(acc:Nat),(∀c∈l,OH c)->∃n,bpP acc l=some n/\n < (acc+1)*10 ^ l.length:=by
 intro l
 induction l with
 |nil=>intro acc _;exact⟨acc,rfl,by simp⟩
 |cons c l ih=>
  intro acc h;have hc:=h c (biK ..);obtain⟨n,h1,h2⟩:=ih (acc*10+(c.toNat - 48)) (λx hx=>h x (biB _ hx));refine⟨n,?_,beL h2 ?_⟩;unfold bpP Lib.digitVal;rw[if_pos (show 48<=c.toNat/\c.toNat<=57 from hc)];exact h1;rw[bhE,Nat.pow_succ,Nat.mul_comm (10 ^ l.length) 10,<- Nat.mul_assoc];exact Nat.mul_le_mul_right _ (by have:=hc.2;omega)
theorem aoN{l:List UInt8}(h0:l≠[])(hl:l.length<=12)(h:∀c∈l,OH c):∃z,Lib.atoi l=some z/\0<=z/\z<=999999999999:=by
 cases l with
 |nil=>exact absurd rfl h0
 |cons c l=>
  obtain⟨n,h1,h2⟩:=afX (c::l) 0 h;have hc:=h c (biK ..);have hlt:n < 10 ^ 12:=beL h2 (by rw[bhC,Nat.one_mul];exact Nat.pow_le_pow_right (by omega) hl);refine⟨(n:Int),?_,by omega,by omega⟩
  have e1:(c == 45)=false:=by apply beq_false_of_ne;rintro rfl;exact absurd hc.1 (by decide)
  have e2:(c == 43)=false:=by apply beq_false_of_ne;rintro rfl;exact absurd hc.1 (by decide)
  unfold Lib.atoi Lib.decNat;dsimp only;rw[e1,e2];simp only[biF,if_false,List.isEmpty_cons];rw[h1];rfl
theorem nV:∀(d r:List UInt8),(∀c∈d,OH c)->boC (d++46::r) 46=d.length
 |[],r,_=>by unfold boC;rfl
 |c::d,r,h=>by
  have ih:=nV d r (λx hx=>h x (biB _ hx));have hc:=h c (biK ..)
  have e1:(c == 46)=false:=by apply beq_false_of_ne;rintro rfl;exact absurd hc.1 (by decide)
  rw[bjR];unfold boC;rw[e1,ih];simp
theorem fL{l:List UInt8}(h0:l≠[])(hl:l.length<=12)(h:∀c∈l,OH c):∃z,OK ⟨l.toArray⟩=some (z,())/\0<=z/\z<=999999999999:=by obtain⟨z,h1,h2⟩:=aoN h0 hl h;refine⟨z,?_,h2⟩;unfold OK;rw[if_pos (by simp;omega)];simp only[bkL,h1,bhK]
theorem amI{s:List UInt8}(k:Nat)(h:Lib.index s [46]=-1):brR [46] [] k s=s:=by cases k with|zero=>rfl|succ k=>unfold brR;rw[h];rfl
theorem xG:∀(d:List UInt8),(∀c∈d,OH c)->boC d 46=-1
 |[],_=>rfl
 |c::d,h=>by
  have ih:=xG d (λx hx=>h x (biB _ hx));have hc:=h c (biK ..)
  have e1:(c == 46)=false:=by apply beq_false_of_ne;rintro rfl;exact absurd hc.1 (by decide)
  unfold boC;rw[e1,ih];simp
theorem ahR{d:List UInt8}(h:∀c∈d,OH c):Lib.replace d [46] [] 1=d:=by unfold Lib.replace;rw[if_neg (by decide)];exact amI _ (by rw[btD,xG d h])
theorem zG{d r:List UInt8}(h:∀c∈d,OH c):Lib.replace (d++46::r) [46] [] 1=d++r:=by
 have hi:Lib.index (d++46::r) [46]=(d.length:Int):=by rw[btD,nV d r h]
 have hn:bsU (d++46::r) [46] 1=1:=by
  have:1<=Lib.count (d++46::r) [46]:=by unfold Lib.count Lib.countFrom;rw[hi,if_neg (by simp)];omega
  unfold bsU;rw[if_neg (by omega)];rfl
 unfold Lib.replace;rw[if_neg (by decide),hn,Lib.replaceK_hit _ _ _ _ _ hi];unfold brR;simp
theorem nA{k a:Int}{l m:List UInt8}(hr:Lib.replace l [46] [] 1=m)(hl:l.length<=20)(h0:m≠[])(hm:m.length<=12)(h:∀c∈m,OH c):∃z,Dy ⟨k,⟨l.toArray⟩,a⟩=some z/\0<=z/\z<=999999999999:=by
 obtain⟨z,h1,h2⟩:=fL h0 hm h;refine⟨z,?_,h2⟩;unfold Dy
 have:Me ⟨l.toArray⟩ avF gT 1=some ⟨m.toArray⟩:=by
  unfold Me
  rw[if_pos ⟨by decide,by
   have:(gT).size=0:=rfl;have h2:(⟨l.toArray⟩:ByteArray).size=l.length:=by simp[ByteArray.size]
   rw[this,h2];omega⟩]
  have:(avF).data.toList=[46]:=rfl;rw[this];simp only[bkL];rw[show(gT).data.toList=[] from rfl,hr]
 dsimp only;rw[this,Uu,h1];rfl
def aHZ(y m:Nat):Bool:=match FY (2000+y) m,Db (12*y+m) with|some n,some f=>Nat.ble 1 n.toNat&&(Nat.ble 0 f.toNat&&(decide (0<=n/\n<=31/\0<=f/\f+n<=36525)))|_,_=>false
theorem azU:((bjD 100).all λy=>(bjD 12).all λm=>aHZ y m)=true:=by kernel_rfl
theorem aMV{y m:Nat}(hy:y < 100)(hm:m < 12):∃n f:Int,FY (2000+y) m=some n/\Db (12*y+m)=some f/\0<=n/\n<=31/\0<=f/\f+n<=36525:=by have h:=bjM.1 (bjM.1 azU y (bkI.2 hy)) m (bkI.2 hm);unfold aHZ at h;split at h;rename_i n f h1 h2;simp only[bhB,decide_eq_true_eq] at h;exact⟨n,f,h1,h2,h.2.2.1,h.2.2.2.1,h.2.2.2.2.1,h.2.2.2.2.2⟩;cases h
theorem apY(y m d:Int)(hy:0<=y/\y<=100000)(hm:0<=m/\m<=100000)(hd:0<=d/\d<=100000):∃z e,I4 y m d=some (z,e)/\(e=0->0<=z/\z<=36524):=by have bad:∃z e,(some ((0:Int),(21:Int)):Option (Int×Int))=some (z,e)/\(e=0->0<=z/\z<=36524):=⟨0,21,rfl,λh=>by omega⟩;unfold I4;cases h1:Cy y 2000;rotate_left;exact bad;cases h2:Cy 2099 y;rotate_left;exact bad;cases h3:Cy m 1;rotate_left;exact bad;cases h4:Cy 12 m;rotate_left;exact bad;cases h5:Cy d 1;rotate_left;exact bad;have h1:=Lx h1;have h2:=Lx h2;have h3:=Lx h3;have h4:=Lx h4;have h5:=Lx h5;obtain⟨n,f,a1,a2,a3,a4,a5,a6⟩:=aMV (y:=(y - 2000).toNat) (m:=(m - 1).toNat) (by omega) (by omega);rw[show(2000:Int)+((y - 2000).toNat:Nat)=y by omega,show(((m - 1).toNat:Nat):Int)=m - 1 by omega] at a1;rw[show 12*(((y - 2000).toNat:Nat):Int)+(((m - 1).toNat:Nat):Int)=(y - 2000)*12+m - 1 by omega] at a2;dsimp only[cond];rw[FW (a:=m) (by omega),a1,Uu];cases h6:Cy n d;have h6:=Lx h6;dsimp only;rw[FW (a:=y) (by omega),JM (by omega),Cg (by omega),FW (by omega),a2,Uu];rw[Cg (by omega),FW (by omega)];exact⟨_,0,rfl,λ_=>by omega⟩;exact bad
theorem afY{c:UInt8}(hc:OH c):w64 (OD .u8 (mK ((c.toNat:Nat):Int) 48))=(c.toNat:Int) - 48:=by
 have h1:=hc.1;have h2:=hc.2
 have e:OD .u8 (mK ((c.toNat:Nat):Int) 48)=(c.toNat:Int) - 48:=by rw[uG,Vr];unfold btL;simp[btM,bsT];omega
 rw[e];unfold w64;exact uN (by omega)
section
variable {i:Nat}{c:UInt8}(h4:i≠4)(h7:i≠7)(hc:OH c){a b d:Int}(ha:0<=a/\a<=1000)(hb:0<=b/\b<=1000)(hd:0<=d/\d<=1000)
include h4 h7 hc
theorem cl0(ha:0<=a/\a<=1000):B5 i c 0 a b d=some (.nx (0,a*10+((c.toNat:Int) - 48),b,d)):=by have h1:=hc.1;have h2:=hc.2;unfold B5;rw[DE (a:=(i:Int)) (b:=4) (by omega),DE (a:=(i:Int)) (b:=7) (by omega),Dv (b:=48) (by omega),Dv (a:=57) (by omega),afY hc];dsimp only[cond];rw[JM (a:=a) (by omega),Cg (a:=a*10) (by omega)];rfl
theorem cl1(hb:0<=b/\b<=1000):B5 i c 1 a b d=some (.nx (1,a,b*10+((c.toNat:Int) - 48),d)):=by have h1:=hc.1;have h2:=hc.2;unfold B5;rw[DE (a:=(i:Int)) (b:=4) (by omega),DE (a:=(i:Int)) (b:=7) (by omega),Dv (b:=48) (by omega),Dv (a:=57) (by omega),afY hc];dsimp only[cond];rw[JM (a:=b) (by omega),Cg (a:=b*10) (by omega)];rfl
theorem cl2(hd:0<=d/\d<=1000):B5 i c 2 a b d=some (.nx (2,a,b,d*10+((c.toNat:Int) - 48))):=by have h1:=hc.1;have h2:=hc.2;unfold B5;rw[DE (a:=(i:Int)) (b:=4) (by omega),DE (a:=(i:Int)) (b:=7) (by omega),Dv (b:=48) (by omega),Dv (a:=57) (by omega),afY hc];dsimp only[cond];rw[JM (a:=d) (by omega),Cg (a:=d*10) (by omega)];rfl
end
abbrev clF:=Bs (λi y (x:Int×Int×Int×Int)=>B5 i y x.1 x.2.1 x.2.2.1 x.2.2.2) (λx:Int×Int×Int×Int=>(x.2.1,x.2.2.1,x.2.2.2))
section
variable {i:Nat}{c:UInt8}(h4:i≠4)(h7:i≠7)(hc:OH c){a b d:Int}{l:List UInt8}
include h4 h7 hc
theorem fo0(ha:0<=a/\a<=1000):clF (c::l) i (0,a,b,d)=clF l (i+1) (0,a*10+((c.toNat:Int) - 48),b,d):=by show(B5 i c 0 a b d).bind _=_;rw[cl0 h4 h7 hc ha];rfl
theorem fo1(ha:0<=b/\b<=1000):clF (c::l) i (1,a,b,d)=clF l (i+1) (1,a,b*10+((c.toNat:Int) - 48),d):=by show(B5 i c 1 a b d).bind _=_;rw[cl1 h4 h7 hc ha];rfl
theorem fo2(ha:0<=d/\d<=1000):clF (c::l) i (2,a,b,d)=clF l (i+1) (2,a,b,d*10+((c.toNat:Int) - 48)):=by show(B5 i c 2 a b d).bind _=_;rw[cl2 h4 h7 hc ha];rfl
end
theorem fo4{l:List UInt8}{a b d:Int}:clF (45::l) (0+1+1+1+1) (0,a,b,d)=clF l (0+1+1+1+1+1) (1,a,b,d):=rfl
theorem fo7{l:List UInt8}{a b d:Int}:clF (45::l) (0+1+1+1+1+1+1+1) (1,a,b,d)=clF l (0+1+1+1+1+1+1+1+1) (2,a,b,d):=rfl
theorem nF{c0 c1 c2 c3 c5 c6 c8 c9:UInt8}(h0:OH c0)(h1:OH c1)(h2:OH c2)(h3:OH c3)(h5:OH c5)(h6:OH c6)(h8:OH c8)(h9:OH c9) :
   ∃z e,Ep ⟨([c0,c1,c2,c3,45,c5,c6,45,c8,c9]:List UInt8).toArray⟩=some (z,e)/\(e=0->0<=z/\z<=36524):=by
 have b0:=h0;have b1:=h1;have b2:=h2;have b3:=h3;have b5:=h5;have b6:=h6;have b8:=h8;have b9:=h9;unfold OH at b0 b1 b2 b3 b5 b6 b8 b9;obtain⟨z,e,hz,he⟩:=apY ((((0*10+((c0.toNat:Int) - 48))*10+((c1.toNat:Int) - 48))*10+((c2.toNat:Int) - 48))*10+((c3.toNat:Int) - 48)) ((0*10+((c5.toNat:Int) - 48))*10+((c6.toNat:Int) - 48)) ((0*10+((c8.toNat:Int) - 48))*10+((c9.toNat:Int) - 48)) (by omega) (by omega) (by omega);refine⟨z,e,?_,he⟩;unfold Ep;rw[C4 (by rfl)];dsimp only[cond]
 have key:Bs (λi y x=>B5 i y x.1 x.2.1 x.2.2.1 x.2.2.2) (λx:Int×Int×Int×Int=>(x.2.1,x.2.2.1,x.2.2.2)) [c0,c1,c2,c3,45,c5,c6,45,c8,c9] 0 (0,0,0,0)=some (.inl ((((0*10+((c0.toNat:Int) - 48))*10+((c1.toNat:Int) - 48))*10+((c2.toNat:Int) - 48))*10+((c3.toNat:Int) - 48),(0*10+((c5.toNat:Int) - 48))*10+((c6.toNat:Int) - 48),(0*10+((c8.toNat:Int) - 48))*10+((c9.toNat:Int) - 48))):=by show clF [c0,c1,c2,c3,45,c5,c6,45,c8,c9] 0 (0,0,0,0)=_;rw[fo0 (by decide) (by decide) h0 (by omega)];rw[fo0 (by decide) (by decide) h1 (by omega)];rw[fo0 (by decide) (by decide) h2 (by omega)];rw[fo0 (by decide) (by decide) h3 (by omega)];rw[fo4];rw[fo1 (by decide) (by decide) h5 (by omega)];rw[fo1 (by decide) (by decide) h6 (by omega)];rw[fo7];rw[fo2 (by decide) (by decide) h8 (by omega)];rw[fo2 (by decide) (by decide) h9 (by omega)];rfl
 have hl:PK ([c0,c1,c2,c3,45,c5,c6,45,c8,c9]:List UInt8).length=λy:Option ((Int×Int×Int)⊕(Int×Int))=>y:=funext λy=>if_pos (by simp);simp only[bkL,biT];rw[hl,key];dsimp only[bjW,F0];rw[hz]
def U0{m:Nat}{t:List UInt8}(h:JC m t=true):∃c u,t=c::u/\cin m c=true:=by cases t with|nil=>cases h|cons c u=>exact⟨c,u,rfl,h⟩
def ZM:∀(t:List UInt8) (ys:List (List UInt8)),(R5 t ys).1=0\/(R5 t ys).1=6
 |_,[]=>.inl rfl
 |t,y::ys=>by
  unfold R5;split;exact .inr rfl;exact ZM t ys
def aaL{t:List UInt8}(h:JC 8 t=true):1<=Bf 8 t:=by obtain⟨c,u,rfl,hc⟩:=U0 h;rw[FU,if_pos hc];omega
def nE{t:List UInt8}(h:Il t=true):∃c0 c1 c2 c3 c5 c6 c8 c9,t.take 10=[c0,c1,c2,c3,45,c5,c6,45,c8,c9]/\OH c0/\OH c1/\OH c2/\OH c3/\OH c5/\OH c6/\OH c8/\OH c9:=by
 unfold Il at h;rw[bhB] at h;obtain⟨hl,h⟩:=h;have hl:=of_decide_eq_true hl;have hd:=λi hi=>bjM.1 h i (bkI.2 hi)
 match t,hl with
 |c0::c1::c2::c3::c4::c5::c6::c7::c8::c9::u,_=>
  have e4:c4=45:=by have:=hd 4 (by decide);simpa[I5] using this
  have e7:c7=45:=by have:=hd 7 (by decide);simpa[I5] using this
  have g:∀(i:Nat)(c:UInt8)(v:List UInt8),i < 10->i≠4->i≠7->(c0::c1::c2::c3::c4::c5::c6::c7::c8::c9::u).drop i=c::v->OH c:=by intro i c v h1 h4 h7 h;have:=hd i h1;unfold I5 at this;rw[if_neg (by omega),h] at this;exact apG this
  subst e4 e7
  exact⟨c0,c1,c2,c3,c5,c6,c8,c9,rfl,g 0 _ _ (by decide) (by decide) (by decide) rfl,g 1 _ _ (by decide) (by decide) (by decide) rfl,g 2 _ _ (by decide) (by decide) (by decide) rfl,g 3 _ _ (by decide) (by decide) (by decide) rfl,
   g 5 _ _ (by decide) (by decide) (by decide) rfl,g 6 _ _ (by decide) (by decide) (by decide) rfl,g 8 _ _ (by decide) (by decide) (by decide) rfl,g 9 _ _ (by decide) (by decide) (by decide) rfl⟩
def fW{t:List UInt8}(h1:(t.drop (Bf 8 t)).head?=some 46)(h2:JC 8 (t.drop (Bf 8 t+1))=true)(h3:JC 8 (t.drop (Bf 8 t+2))=true) :
   ∃x y,t.take (Bf 8 t+3)=t.take (Bf 8 t)++46::[x,y]/\OH x/\OH y:=by
 obtain⟨x,u,hx,dD⟩:=U0 h2;obtain⟨y,v,hy,CT⟩:=U0 h3;generalize hd:Bf 8 t=d at *
 have e1:t.drop d=46::t.drop (d+1):=by
  cases hq:t.drop d with
  |nil=>rw[hq] at h1;cases h1
  |cons a b=>
   rw[hq] at h1;have:t.drop (d+1)=b:=by rw[<- biU,hq];rfl
   rw[this];simp only[List.head?_cons,atS] at h1;rw[h1]
 have e2:t.drop (d+1)=x::t.drop (d+2):=by rw[hx,show d+2=(d+1)+1 from rfl,<- biU,hx];rfl
 refine⟨x,y,?_,apG dD,apG CT⟩;rw[List.take_add,e1,e2,hy];rfl
def axR{t:List UInt8}{o:Nat}(ht:t.length<=6000)(h:(A7 t).1≠0):Gd (Ju ((A7 t).1,t.take (A7 t).2,o)):=by
 have hlen:(t.take (A7 t).2).length<=6000:=by rw[biM];omega
 have hlen:(Ju ((A7 t).1,t.take (A7 t).2,o)).text.data.toList.length<=6000:=hlen
 have other:(A7 t).1≠3->(A7 t).1≠4->(A7 t).1≠5->Gd (Ju ((A7 t).1,t.take (A7 t).2,o)):=by intro h3 h4 h5;refine⟨λh=>?_,λh=>?_,λh=>?_,hlen⟩;have:(((A7 t).1:Nat):Int)=3:=h;omega;have:(((A7 t).1:Nat):Int)=3\/(((A7 t).1:Nat):Int)=4:=h;omega;have:(((A7 t).1:Nat):Int)=5:=h;omega
 by_cases c2:JC 2 t=true;refine other ?_ ?_ ?_<;>(unfold A7;rw[if_pos c2];split<;>simp)
 by_cases c4:JC 4 t=true;refine other ?_ ?_ ?_<;>(unfold A7;rw[if_neg c2,if_pos c4];split<;>simp)
 by_cases c8:JC 8 t=true;rotate_left;have:A7 t=R5 t G4:=by unfold A7;rw[if_neg c2,if_neg c4,if_neg c8]
 rcases ZM t G4 with h1 | h1
 rw[this] at h;exact absurd h1 h;rw[<- this] at h1;exact other (by omega) (by omega) (by omega);have hr:A7 t=Ik t:=by unfold A7;rw[if_neg c2,if_neg c4,if_pos c8]
 have hp:=aaL c8;have hsp:=aaI 8 t;rw[hr] at h hlen ⊢;unfold Ik at h hlen ⊢;dsimp only at h hlen ⊢;by_cases hd:Il t=true;rw[if_pos hd] at h hlen ⊢;split at h;rename_i hf;rw[if_pos hf] at hlen ⊢;refine⟨λh=>?_,λh=>?_,λh=>?_,hlen⟩;have:(((5:Nat)):Int)=3:=h;omega;have:(((5:Nat)):Int)=3\/((5:Nat):Int)=4:=h;omega;obtain⟨c0,c1,c2,c3,c5,c6,c8,c9,h0,a0,a1,a2,a3,a5,a6,a8,a9⟩:=nE hd;dsimp only[Ju];rw[h0];exact nF a0 a1 a2 a3 a5 a6 a8 a9;exact absurd rfl h;rw[if_neg hd] at h hlen ⊢;by_cases h0:t.head?=some 48/\1 < Bf 8 t;rw[if_pos h0] at h;exact absurd rfl h;rw[if_neg h0] at h hlen ⊢;by_cases h1:(t.drop (Bf 8 t)).head?=some 46;rw[if_pos h1] at h hlen ⊢;by_cases h2:10 < Bf 8 t\/JC 8 (t.drop (Bf 8 t+1))=false\/JC 8 (t.drop (Bf 8 t+2))=false;rw[if_pos h2] at h;exact absurd rfl h;rw[if_neg h2] at h hlen ⊢;split at h;rename_i hf;rw[if_pos hf] at hlen ⊢;refine⟨λh=>?_,λ_=>?_,λh=>?_,hlen⟩;have:(((4:Nat)):Int)=3:=h;omega;simp only[not_or,Bool.not_eq_false] at h2;obtain⟨x,y,e,hx,hy⟩:=fW h1 h2.2.1 h2.2.2;dsimp only[Ju];rw[e];have hs:=YA t;refine nA (m:=t.take (Bf 8 t)++[x,y]) (zG hs) ?_ (by simp) ?_ ?_;simp only[aWQ,biM,bhE,biV];omega;simp only[aWQ,biM,bhE,biV];omega;intro c hc;rcases biI.1 hc with hc | hc
 exact hs c hc;simp only[bhJ,biZ,or_false] at hc;rcases hc with rfl | rfl
 exact hx;exact hy;have:(((4:Nat)):Int)=5:=h;omega;exact absurd rfl h;rw[if_neg h1] at h hlen ⊢;by_cases h2:12 < Bf 8 t;rw[if_pos h2] at h;exact absurd rfl h;rw[if_neg h2] at h hlen ⊢;split at h;rename_i hf;rw[if_pos hf] at hlen ⊢;have hs:=YA t
 have hne:t.take (Bf 8 t)≠[]:=λe=>by
  have:=congrArg bmC e;rw[biM,biV] at this;omega
 refine⟨λh=>?_,λ_=>?_,λh=>?_,hlen⟩;exact fL hne (by rw[biM];omega) hs;exact nA (ahR hs) (by rw[biM];omega) hne (by rw[biM];omega) hs;have:(((3:Nat)):Int)=5:=h;omega;exact absurd rfl h
def pO:∀(n o:Nat)(t:List UInt8)(x:LexS.Tok),x∈Lu n o t->x.1≠0->∃u o',u.length<=t.length/\(A7 u).1≠0/\x=((A7 u).1,u.take (A7 u).2,o'):=by
 intro n
 induction n with
 |zero=>intro o t x h;cases h
 |succ n ih=>
  intro o t x h h0;unfold Lu at h;split at h;cases h;split at h;rw[biQ.1 h] at h0;exact absurd rfl h0;rename_i hr;rcases bhJ.1 h with rfl | h
  exact⟨t,o,aWP _,hr,rfl⟩;obtain⟨u,o',h1,h2⟩:=ih _ _ _ h h0;refine⟨u,o',biP h1 ?_,h2⟩;simp only[bhI];omega
def iN:∀(l acc:List LexS.Tok),acc.length<=2000->(FC acc l).1.length<=2000/\∀x∈(FC acc l).1,x∈acc\/x∈l/\x.1≠0:=by
 intro l
 induction l with
 |nil=>intro acc h;exact⟨h,λx hx=>.inl hx⟩
 |cons y l ih=>
  intro acc h;unfold FC;split;exact⟨bjI _,λx hx=>by cases hx⟩;split;exact⟨bjI _,λx hx=>by cases hx⟩;rename_i h1 h2;obtain⟨a,b⟩:=ih (acc++[y]) (by simp only[aWQ,bhF];omega);refine⟨a,λx hx=>?_⟩;rcases b x hx with hx | ⟨hx,h0⟩
  rcases biI.1 hx with hx | hx
  exact .inl hx;rw[biQ.1 hx];exact .inr ⟨biK ..,h2⟩;exact .inr ⟨biB _ hx,h0⟩
def Mv(s:ByteArray):Gl (Ey s)/\(Ey s).length<=2000:=by
 unfold Ey Of;split;refine⟨?_,bjI _⟩;intro t ht;cases ht;rename_i hs;obtain⟨a,b⟩:=iN (FX s.data.toList) [] (bjI _);refine⟨?_,by rw[biE];exact a⟩;intro t ht;obtain⟨x,hx,rfl⟩:=List.mem_map.1 ht;rcases b x hx with hx | ⟨hx,h0⟩
 cases hx;obtain⟨u,o',h1,h2,rfl⟩:=pO _ _ _ x hx h0;rw[bhI] at h1;exact axR (by omega) h2
end Mo
end Go.Proofs.YtpbkhogolfegfaaGreatDoor
namespace Go.Proofs.YtpbkhogolfegfaaGreatDoor
open AI Go
namespace Mo
mutual
def SW:Nd->Nat
 |⟨_,_,_,_,_,_,_,CW,kids,_⟩=>1+CW.ps.length+R4 kids
def R4:List Nd->Nat
 |[]=>0
 |k::ks=>SW k+R4 ks
end
mutual
def aiJ:∀n:Nd,Ft n<=SW n
 |⟨_,_,_,_,_,_,_,CW,kids,_⟩=>by
  have:=axJ kids;simp only[Ft,SW];omega
def axJ:∀l:List Nd,K4 l<=R4 l
 |[]=>aWP _
 |k::ks=>by
  have h1:=aiJ k;have h2:=axJ ks;simp only[K4,R4];omega
end
section
variable {α β:Type}{c:Nat}{f:α->Nat}{g:β->Nat}
def SU(c:Nat)(f:α->Nat)(m:Rd α):Prop:=∀⦃l:List Tk⦄ ⦃a:α⦄ ⦃s:List Tk⦄,m l=some (.inl a,s)->f a+s.length<=l.length+c
def BA{m:Rd α}{K:α->Rd β}(h1:SU c f m)(h2:∀a,SU (f a) g (K a)):SU c g (A5 m K):=by
 intro l b s h;rcases UF h with ⟨a,s',e1,e2⟩ | ⟨d,_,h⟩
 have a1:=h1 e1;have a2:=h2 a e2;omega;cases h
def EI{a:α}(h:f a<=c):SU c f (CX a):=by intro l b s e;obtain⟨e1,rfl⟩:=Vj e;cases e1;omega
def J6{e p:Int}:SU c f (IE e p):=by intro l b s h;obtain⟨h,_⟩:=T3 h;cases h
def O1{X:Option β}{K:β->Rd α}(h:∀b,X=some b->SU c f (K b)):SU c f (H9 X K):=by intro l a s e;obtain⟨b,hb,e⟩:=P8 e;exact h b hb e
def jZ{en:Int}{K:Tk->Rd α}(h:∀t,SU c f (K t)):SU c f (Sd en K):=by intro l a s e;cases l with|nil=>cases e|cons t l=>exact h t e
def Vo{K:Rd α}(h:SU (c+1) f K):SU c f (Nl K):=by intro l a s e;cases l with|nil=>cases e|cons t l=>have:=h (l:=l) e;simp only[bhE];omega
def Cm{b:Bool}{A B:Rd α}(h1:SU c f A)(h2:SU c f B):SU c f (cond b A B):=by cases b;exact h2;exact h1
def ZL{x:ByteArray}{A B:Rd α}(h1:SU (c+1) f A)(h2:SU c f B):SU c f (NC x A B):=by intro l a s e;unfold NC at e;cases hx:Co x l with|true=>rw[hx] at e;exact Vo h1 e|false=>rw[hx] at e;exact h2 e
def ZK{n:Nat}{m:Rd α}(h:SU c f m):SU c f (Lq n m):=λ_ _ _ e=>h (Wl e).2
def SU.le{c':Nat}{m:Rd α}(h:SU c f m)(hc:c<=c'):SU c' f m:=λ_ _ _ e=>by have:=h e;omega
end
section
variable {c:Nat}{en:Int}
def N1{f:Tk->Option Bool}:SU c (λ_=>c+1) (Ig en f):=jZ λt=>O1 λb _=>Cm (Vo (EI (aWP _))) J6
def HY{x:ByteArray}:SU c (λ_=>c+1) (Ff en x):=N1
def oV:SU c (λ_=>c+1) (Tj en):=BA N1 λt=>O1 λn _=>EI (aWP _)
def SM{least:Int}:SU c (λ_=>c+1) (M4 en least):=BA oV λp=>Cm J6 (Cm J6 (EI (aWP _)))
def dU{least:Int}:SU c (λ_=>c+1) (X0 en least):=BA N1 λt=>O1 λd _=>Cm (Cm J6 (EI (aWP _))) J6
def IK(k:Int)(nm u:ByteArray)(n:Int)(ks:List Nd)(p:Int):SW (Dd k nm u n ks p)=1+R4 ks:=by show 1+0+_=_;omega
def Rq(n:Nd):R4 [n]=SW n:=by simp[R4]
def kB(l m:List Nd):R4 (l++m)=R4 l+R4 m:=by induction l with|nil=>simp[R4]|cons a l ih=>simp only[bjR,R4,ih];omega
def aEQ:SU c (λn=>SW n+c) (gX en) :=
 BA HY λt=>BA SM λn=>BA HY λ_=>BA dU λf=>
  ZL (BA dU λu=>BA HY λ_=>BA dU λk=>EI (by show 1+0+R4 []+c<=_;simp only[R4];omega)) (BA HY λ_=>BA dU λk=>EI (by show 1+0+R4 []+c<=_;simp only[R4];omega))
def aiE:SU c (λn=>SW n+c) (UK en) :=
 jZ λt=>Vo (BA N1 λm=>BA HY λ_=>BA N1 λu=>Cm (BA N1 λr=>O1 λn _=>BA HY λ_=>EI (by rw[IK];simp only[R4];omega)) (BA HY λ_=>EI (by rw[IK];simp only[R4];omega)))
def Wt:SU c (λn=>SW n+c) (F4 en):=BA SM λp=>EI (by rw[IK];simp only[R4];omega)
def aES{read:Rd Nd}(hr:∀c,SU c (λn=>SW n+c) read):∀(q:Nat)(ns:List Nd)(c:Nat),SU (R4 ns+c) (λr=>R4 r+c) (Re read q ns):=by
 intro q
 induction q with
 |zero=>intro ns c l a s h;cases h
 |succ q ih=>
  intro ns c;refine ZL (BA (hr _) λn=>ZK ((ih (ns++[n]) c).le ?_)) (EI (aWP _));rw[kB,Rq];omega
def aiG{read:Rd Nd}(hr:∀c,SU c (λn=>SW n+c) read):SU c (λr=>R4 r+c) (P9 read) :=
 BA (hr c) λn l a s h=>by
  have:=aES hr _ [n] c h;rw[Rq] at this;exact this
def kA:SU c (λ_=>c+1) (TU en):=BA N1 λt=>O1 λd _=>Cm (Cm (EI (aWP _)) J6) (EI (aWP _))
def aET:SU c (λ_=>c+1) (oU en):=BA N1 λt=>Cm (EI (aWP _)) (EI (aWP _))
def oX{AM a b:Int}:SU c (λ_=>c+1) (Tt en AM a b):=BA aET λs=>BA SM λm=>BA HY λ_=>BA SM λd=>O1 λg _=>O1 λz _=>Cm J6 (EI (by omega))
def SU.imp{α:Type}{f f':α->Nat}{m:Rd α}(h:SU c f m)(hf:∀a,f' a<=f a):SU c f' m:=λ_ a _ e=>by have:=h e;have:=hf a;omega
def oW{AM a:Int}:SU c (λ_=>c+1) (Tr en AM a):=BA HY λ_=>ZL (BA kA λa=>oX.imp λ_=>by omega) (BA kA λa=>oX.imp λ_=>by omega)
def awW{before:List Pt}{AM:Int}:SU c (λ_=>c+1) (Zp en before AM):=BA kA λv=>Cm (Cm (oW.imp λ_=>by omega) J6) (O1 λq _=>Cm J6 (Cm J6 (oW.imp λ_=>by omega)))
def amX:∀(q:Nat)(l:List Pt)(k:Int)(c:Nat),SU (l.length+c) (λr=>r.1.length+c) (Pw en q l k):=by
 intro q
 induction q with|zero=>intro l k c _ _ _ h;cases h|succ q ih=>intro l k c;exact BA awW λp=>ZK (ZL ((ih _ _ c).le (by simp only[aWQ,bhF];omega)) (EI (by simp only[aWQ,bhF];omega)))
def amY{k p:Int}{c:Nat}:∀(l:List Pt)(acc:List Pc),SU (acc.length+l.length+c) (λr=>r.length+c) (NX k p l acc):=by
 intro l
 induction l with|nil=>intro acc;exact EI (by simp)|cons x l ih=>intro acc;exact O1 λz _=>Cm J6 (Cm J6 (ZK ((ih _).le (by simp only[aWQ,bhE,biV];omega))))
def akN{op:ByteArray}{l r x:Nd}(h:AU op l r=some x):SW x=1+SW l+SW r:=by
 unfold AU at h;revert h;have e1:∀(nm:ByteArray)(a b:Nd)(p:Int),SW (⟨16,nm,gT,0,0,0,0,⟨0,[]⟩,[a,b],p⟩:Nd)=1+SW a+SW b:=by intro nm a b p;simp only[SW,R4,biV];omega
 cases Bd op.data.toList Md.data.toList;cases Bd op.data.toList IT.data.toList;intro h1;cases h1;exact e1 _ _ _ _;cases Me op Md ID 1 with|none=>intro h1;cases h1|some y=>intro h1;cases h1;rw[e1];omega
 cases Me op Md ID 1 with|none=>intro h1;cases h1|some y=>intro h1;cases h1;rw[e1];omega
def aKI{α:Type}{f:α->Nat}{yes:ByteArray->Rd α}{no:Rd α}(h1:∀x,SU (c+1) f (yes x))(h2:SU c f no):∀ops:List ByteArray,SU c f (opR yes no ops):=by
 intro ops
 induction ops with|nil=>exact h2|cons x ops ih=>exact ZL (h1 x) ih
def aaO{sub:Rd Nd}(h:∀c,SU c (λn=>SW n+c) sub)(op:ByteArray)(l:Nd):SU (SW l+c+1) (λn=>SW n+c) (ND en sub op l) :=
 BA (Cm Wt (h _)) λr=>O1 λx hx=>EI (by rw[akN hx];omega)
def awU{ops:List ByteArray}{sub:Rd Nd}(h:∀c,SU c (λn=>SW n+c) sub):∀(q:Nat)(l:Nd)(c:Nat),SU (SW l+c) (λn=>SW n+c) (Kn en ops sub q l):=by
 intro q
 induction q with|zero=>intro l c _ _ _ h;cases h|succ q ih=>intro l c;exact aKI (λx=>BA (aaO h x l) λb=>ih b c) (EI (aWP _)) ops
structure Siz(g:Ek->Rd Nd)(li:Rd (List Nd)):Prop where
 sg:∀e c,SU c (λn=>SW n+c) (g e)
 sli:∀c,SU c (λr=>R4 r+c) li
def aEK:∀q:Nat,Siz (gP en q).1 (gP en q).2:=by
 intro q
 induction q with
 |zero=>
  constructor;intro e c _ _ _ h;cases h;intro c _ _ _ h;cases h
 |succ q A=>
  refine⟨λe c=>?_,λc=>aiG (A.sg .ex)⟩;show SU c (λn=>SW n+c) (aM en (gP en q).1 (gP en q).2 e);have lv:∀i,SU c (λn=>SW n+c) (Tb en (gP en q).1 i):=λi=>BA (A.sg _ _) λN l a s h=>awU (A.sg _) _ N c h;unfold aM;split;exact A.sg _ _
  ·intro l a s h
   unfold sS at h;cases hx:Co Th l with
   |true=>
    rw[hx] at h;exact BA (g:=λn=>SW n+c) HY (λt=>BA (A.sg _ _) λk=>EI (by rw[IK,Rq];omega)) h
   |false=>rw[hx] at h;exact A.sg _ _ h
  exact BA (A.sg _ _) λN=>aKI (λx=>aaO (A.sg _) x N) (EI (aWP _)) _;exact A.sg _ _;exact lv _;refine jZ λt=>Cm (BA oV λn=>ZL (EI (by rw[IK];simp only[R4];omega)) (EI (by rw[IK];simp only[R4];omega))) (Cm (Vo (BA N1 λa=>O1 λz _=>EI (by rw[IK];simp only[R4];omega))) (O1 λb _=>Cm (Vo (EI (by rw[IK];simp only[R4];omega))) (A.sg _ _)));have one:∀(k:Int)(nm u:ByteArray)(n p:Int),SU c (λn=>SW n+c) (Nl (CX (Dd k nm u n [] p))):=λ_ _ _ _ _=>Vo (EI (by rw[IK];simp only[R4];omega))
  exact Cm (one _ _ _ _ _) (Cm (one _ _ _ _ _) (Cm (Vo (BA SM λp=>EI (by rw[IK];simp only[R4];omega))) (Cm (one _ _ _ _ _) (Cm (one _ _ _ _ _) (Cm (one _ _ _ _ _) (Cm (one _ _ _ _ _) (Cm (A.sg _ _) (Cm (A.sg _ _) (Cm (A.sg _ _)
    (Cm (Vo (BA (A.sg _ _) λa=>BA HY λ_=>EI (by omega))) J6))))))))))
  exact jZ λt=>Vo (BA HY λ_=>BA (A.sg _ _) λa=>BA HY λ_=>BA (A.sli _) λl=>ZK (BA HY λ_=>EI (by rw[IK];simp only[R4];omega)));exact BA HY λt=>BA HY λ_=>BA (A.sg _ _) λa=>BA HY λ_=>BA (λl s u h=>(amX _ [] _ (SW a+(c+1+1)+1)).le (Nat.le_of_eq (bhC _)) h) λl=>BA HY λe=>ZK (BA ((amY l.1 [] (c:=SW a+(c+1+1)+1+1)).le (by simp only[biV];omega)) λr=>EI (by show 1+r.length+R4 [a]+c<=_;rw[Rq];omega))
def aiF:SU c (λn=>SW n+c) (RE en):=λ_ _ _ h=>(aEK _).sg .ex c h
def amW(kind:Int):SU c (λn=>SW n+c) (LY en (RE en) kind) :=
 jZ λt=>Vo (Cm (BA (aiG λc=>Wt) λl=>BA HY λ_=>EI (by rw[IK];omega)) (BA aiF λe=>BA HY λ_=>EI (by rw[IK,Rq];omega)))
def awV{mk:List Nd->Nd}(hm:∀l,SW (mk l)=1+R4 l):∀(q:Nat)(ns:List Nd)(un am:Bool)(c:Nat),SU (R4 ns+c+1) (λn=>SW n+c) (Ir en (RE en) mk q ns un am):=by
 intro q
 induction q with
 |zero=>intro ns un am c _ _ _ h;cases h
 |succ q ih=>
  intro ns un am c
  have go:∀(kind:Int)(dX cU:Bool),SU (R4 ns+c+1) (λn=>SW n+c) (A5 (LY en (RE en) kind) λx=>Lq (ns.length+1) (Ir en (RE en) mk q (ns++[x]) dX cU)):=λkind dX cU=>
   BA (amW kind) λx=>ZK ((ih (ns++[x]) dX cU c).le (by rw[kB,Rq];omega))
  exact jZ λt=>Cm (go _ _ _) (Cm (Cm J6 (go _ _ _)) (Cm (Cm J6 (go _ _ _)) (Cm (Cm (Vo (EI (by rw[hm];omega))) J6) J6)))
def aER:SU c (λn=>SW n+c) (Wk en (RE en)) :=
 jZ λt=>Cm aiE (Cm aiE (Cm (BA HY λt=>BA SM λn=>BA HY λ_=>BA N1 λm=>BA aEQ λh=>BA HY λ_=>λl a s e=>by
  have:=awV (λl=>IK _ _ _ _ _ _) _ [h] false false c e;rw[Rq] at this;dsimp only at this ⊢;omega) J6))
end
def ayS(a b:Nat):aSY (a:Int) (b:Int)=((max a b:Nat):Int):=by unfold aSY;split<;>omega
def aNC:∀n:Nd,O5 n<=Ft n:=by
 intro n
 have key:∀(q:Nat)(n:Nd),Ft n<=q->O5 n<=Ft n:=by
  intro q
  induction q with
  |zero=>intro n h;rw[Fu] at h;omega
  |succ q ih=>
   intro n h;rw[OL,Fu];have:qU n.kids<=K4 n.kids:=Za.2 λk hk=>biP (ih k (by have:=Rt hk;omega)) (PF hk);omega
 exact key _ n (aWP _)
def alS:∀(q:Nat)(n:Nd),Ft n<=q->Ft n<=1000000->DB q n=some (((Ft n:Nat):Int),((O5 n:Nat):Int)):=by
 intro q
 induction q with
 |zero=>intro n h;have:=Fu n;omega
 |succ q ih=>
  intro n hq hz;have hsz:=Fu n;rw[DB,Nx];rw[show PK n.kids.length=λy:Option ((Int×Int)⊕(Int×Int))=>y from funext λy=>if_pos (by have:=Rr n.kids;omega),biT]
  have key:∀(m:List Nd),(∀k∈m,k∈n.kids)->∀(i c d:Nat),c+K4 m<=1000000->Bs (ρ:=Int×Int) (λi y x=>Kc (DB q) i y x.1 x.2) (λx=>(x.1,x.2)) m i ((c:Int),(d:Int))=some (.inl (((c+K4 m:Nat):Int),((max d (qU m):Nat):Int))):=by
   intro m
   induction m with
   |nil=>intro _ i c d _;simp[Bs,K4,qU]
   |cons a m ihm=>
    intro hm i c d hc;simp only[K4] at hc;have ha:=hm a (biK ..);rw[Bs,Kc,ih a (by have:=PF ha;omega) (by have:=PF ha;omega),Uu];dsimp only;rw[Cg (by omega),ayS];have:=ihm (λk hk=>hm k (biB _ hk)) (i+1) (c+Ft a) (max d (O5 a)) (by omega);rw[Uu];dsimp only[MK];rw[show(c:Int)+(Ft a:Int)=((c+Ft a:Nat):Int) by omega,this];simp only[K4,qU,Nat.add_assoc,Nat.max_assoc]
  have h1:=key n.kids (λ_ h=>h) 0 1 0 (by omega);have h1:Bs (ρ:=Int×Int) (λi y x=>Kc (DB q) i y x.1 x.2) (λx=>(x.1,x.2)) n.kids 0 (1,0)=some (.inl (((1+K4 n.kids:Nat):Int),((max 0 (qU n.kids):Nat):Int))):=h1;rw[h1,Uu];dsimp only[F0];have hd:=OL n;have hd2:=aNC n;rw[Cg (by omega),hsz,hd];congr 2;omega
def oB{n:Nd}(hz:Ft n<=1000000):Et n=some (if 2000 < Ft n\/40 < O5 n then (z0,[⟨2,0⟩]) else (n,[])):=by have:Ny n=some (((Ft n:Nat):Int),((O5 n:Nat):Int)):=RD (Ft n) λq hq=>alS q n hq hz;unfold Et;rw[this,Uu];dsimp only;by_cases h1:2000 < Ft n;rw[En (by omega),if_pos (.inl h1)];rfl;rw[Dv (by omega)];by_cases h2:40 < O5 n;rw[En (by omega),if_pos (.inr h2)];rfl;rw[Dv (by omega),if_neg (by omega)];rfl
end Mo
end Go.Proofs.YtpbkhogolfegfaaGreatDoor
