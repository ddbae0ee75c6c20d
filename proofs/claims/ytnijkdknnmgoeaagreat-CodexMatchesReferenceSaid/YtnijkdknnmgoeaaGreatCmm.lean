/- Part of a proof: see the last text. -/
import Derived.Test.YtnijkdknnmgoeaaGreatCml
set_option linter.unusedVariables false
set_option linter.unusedSimpArgs false
set_option linter.defProp false
noncomputable section
namespace Go.Proofs.YtnijkdknnmgoeaaGreat
open AI Go
namespace Mo
set_option maxRecDepth 100000
set_option maxHeartbeats 4000000
def ZY{t u:Tr}(hf:t.Ae.facts=u.Ae.facts)(hl:t.Ae.lines=u.Ae.lines)(hm:t.facts=u.facts){l:List Nd}(h:∀e∈l,agA t u (e.kids.headD e)):Kb t l=Kb u l:=by
 unfold Kb;generalize (([],[],[],⟨0,0,ByteArray.empty,⟨0,[]⟩,[]⟩):List Dg×List Int×List Ex×Ex)=s
 induction l generalizing s with
 | nil=>rfl
 | cons k l ih =>
   rw[List.foldl_cons,List.foldl_cons,show LU t s k=LU u s k by unfold LU;rw[kR hf hl hm _ (h k (by simp))]];exact ih (λe he=>h e (by simp[he])) _
def aa6{t u:Tr}(hf:t.Ae.facts=u.Ae.facts)(hl:t.Ae.lines=u.Ae.lines)(hm:t.facts=u.facts)(hn:t.lines=u.lines){it:Nd}(h:∀e∈it.kids.tail,agA t u (e.kids.headD e)):trA t it=trA u it:=by
 unfold trA;rw[ZY hf hl hm h,hn]
def mM(t:Tr)(l:List Nd):(Kb t l).1.length<=l.length:=by
 unfold Kb
 have:∀(s:List Dg×List Int×List Ex×Ex),(l.foldl (LU t) s).1.length<=s.1.length+l.length:=by
   induction l with
   | nil=>intro s;exact Nat.le_refl _
   | cons k l ih =>
     intro s;rw[List.foldl_cons];have h1:=ih (LU t s k)
     have h2:(LU t s k).1.length<=s.1.length+1:=by
       have hh:∀p:Prop,(AM p (s.1++[(⟨2,k.Ct⟩:Dg)]) s.1).length<=s.1.length+1:=λp=>by
         by_cases h:p;rw[Ac h];simp;rw[Ab h];omega
       unfold LU;by_cases k7:k.kind=7;rw[Ac k7];exact Nat.le_succ _;rw[Ab k7];by_cases k6:k.kind=6;rw[Ac k6];exact hh _;rw[Ab k6];exact hh _
     rw[List.length_cons];omega
 have:=this ([],[],[],⟨0,0,ByteArray.empty,⟨0,[]⟩,[]⟩);simpa using this
def b1(t:Tr)(s:List Dg×List Ar)(e:Nd):List Dg×List Ar:=AM (e.kind=4) (s.1++(Kb t e.kids.tail).1,s.2++[trA t e]) s
def VC(t:Tr)(l:List Nd):List Dg×List Ar:=l.foldl (b1 t) ([],[])
def ahY{src:Nd}(hk:src.kind=1)(hv:E1 src=some true)(hc:JP src=some [])(hz:Fv src<=100000)(hs:∀it∈src.kids,it.kind=4->aav (Hi src.kids) it) :
   F6 src=some (AM ((VC (Hi src.kids) src.kids).1=[]) (⟨(Hi src.kids).Ae.facts,(Hi src.kids).Ae.lines,(VC (Hi src.kids) src.kids).2⟩,[]) (⟨[],[],[]⟩,(VC (Hi src.kids) src.kids).1.take 20)):=by
 have Q5:=CN src;have wG:=Gy src.kids;rw[F6,MA];simp only[HM];rw[Ac hk,hv];simp only[Option.bind_some,cond_true];rw[hc];simp only[Option.bind_some,Wh];rw[Ab (by simp),amz (by omega)];simp only[Option.bind_some];refine CW (λi x=>x=(src.kids.take i).foldl (b1 (Hi src.kids)) ([],[])/\x.1.length<=JL (src.kids.take i)/\x.2.length<=i) (by omega) ⟨rfl,by simp,by simp⟩ (λi y x hy hI=>?_) (λx hI=>?_);obtain⟨h0,n1,n2⟩:=hI;have I5:=List.mem_of_getElem? hy;have hi:=(List.getElem?_eq_some_iff.1 hy).1;have HK:=Zb hy;have htk:=ZK src.kids (i+1);have hyz:=CN y;have hyl:=Gy y.kids;have hf:=HQ (b1 (Hi src.kids)) ([],[]) hy;rw[<- h0,b1] at hf;obtain⟨d,a⟩:=x;simp only at n1 n2 hf ⊢;rw[M5];simp only[HM];by_cases k4:y.kind=4;rw[Ac k4] at hf ⊢;have hsa:=hs y I5 k4;have hA:∀e,agA ⟨⟨(HX src.kids).1,(HX src.kids).2.2.1,a⟩,(HX src.kids).2.1,(HX src.kids).2.2.2,naP (HX src.kids).2.2.2 src.kids⟩ (Hi src.kids) e:=λe=>iC (t:=⟨⟨(HX src.kids).1,(HX src.kids).2.2.1,a⟩,(HX src.kids).2.1,(HX src.kids).2.2.2,naP (HX src.kids).2.2.2 src.kids⟩) (u:=Hi src.kids) rfl e;have hB:∀e,agA (Hi src.kids) ⟨⟨(HX src.kids).1,(HX src.kids).2.2.1,a⟩,(HX src.kids).2.1,(HX src.kids).2.2.2,naP (HX src.kids).2.2.2 src.kids⟩ e:=λe=>iC (u:=⟨⟨(HX src.kids).1,(HX src.kids).2.2.1,a⟩,(HX src.kids).2.1,(HX src.kids).2.2.2,naP (HX src.kids).2.2.2 src.kids⟩) (t:=Hi src.kids) rfl e;have e1:Kb ⟨⟨(HX src.kids).1,(HX src.kids).2.2.1,a⟩,(HX src.kids).2.1,(HX src.kids).2.2.2,naP (HX src.kids).2.2.2 src.kids⟩ y.kids.tail=Kb (Hi src.kids) y.kids.tail:=ZY (t:=⟨⟨(HX src.kids).1,(HX src.kids).2.2.1,a⟩,(HX src.kids).2.1,(HX src.kids).2.2.2,naP (HX src.kids).2.2.2 src.kids⟩) (u:=Hi src.kids) rfl rfl rfl (λe _=>hA _);have e2:trA ⟨⟨(HX src.kids).1,(HX src.kids).2.2.1,a⟩,(HX src.kids).2.1,(HX src.kids).2.2.2,naP (HX src.kids).2.2.2 src.kids⟩ y=trA (Hi src.kids) y:=aa6 (t:=⟨⟨(HX src.kids).1,(HX src.kids).2.2.1,a⟩,(HX src.kids).2.1,(HX src.kids).2.2.2,naP (HX src.kids).2.2.2 src.kids⟩) (u:=Hi src.kids) rfl rfl rfl rfl (λe _=>hA _)
 have e3:aav ⟨⟨(HX src.kids).1,(HX src.kids).2.2.1,a⟩,(HX src.kids).2.1,(HX src.kids).2.2.2,naP (HX src.kids).2.2.2 src.kids⟩ y:=⟨hsa.1,λe he k7=>by
   obtain⟨k,h1,h2⟩:=hsa.2 e he k7;exact⟨k,h1,aG (t:=Hi src.kids) (u:=⟨⟨(HX src.kids).1,(HX src.kids).2.2.1,a⟩,(HX src.kids).2.1,(HX src.kids).2.2.2,naP (HX src.kids).2.2.2 src.kids⟩) rfl rfl rfl k (hB k) h2⟩⟩
 have Iv:=mM (Hi src.kids) y.kids.tail;rw[List.length_tail] at Iv;rw[ao0 (by omega) e3 (by show a.length<=_;omega),e1,e2];simp only[Option.bind_some];rw[D9 (by omega)];by_cases k5:(((Kb (Hi src.kids) y.kids.tail).1.length:Nat):Int)=0;rw[Ac k5,AB,C9];have:(Kb (Hi src.kids) y.kids.tail).1=[]:=List.eq_nil_of_length_eq_zero (by omega);rw[this,List.append_nil] at hf;exact⟨hf.symm,by simp only;omega,by simp only[List.length_append,List.length_singleton];omega⟩;rw[Ab k5,AB,C9];exact⟨hf.symm,by simp only[List.length_append];omega,by simp only[List.length_append,List.length_singleton];omega⟩;rw[Ab k4] at hf ⊢;rw[AB,C9];exact⟨hf.symm,by simp only;omega,by simp only;omega⟩;obtain⟨h0,n1,n2⟩:=hI;rw[List.take_length] at h0 n1;have h0:x=VC (Hi src.kids) src.kids:=h0;rw[<- h0];obtain⟨d,a⟩:=x;simp only at n1 n2 ⊢;cases d with
 | nil =>
   rw[Ab (by simp),Ac rfl,AB];rfl
 | cons g d =>
   rw[Ac (by simp only[List.length_cons];omega),Ab (p:=g::d=[]) (by simp)];by_cases k20:acE (((g::d).length:Nat):Int) 20=(((g::d).length:Nat):Int);rw[Ac k20,AB];have:(g::d).length<=20:=by unfold acE at k20;split at k20<;>omega
   rw[List.take_of_length_le this];rw[Ab k20];have:acE (((g::d).length:Nat):Int) 20=20/\20 < (g::d).length:=by unfold acE at k20 ⊢;split at k20<;>constructor<;>first | omega | (split<;>omega)
   rw[this.1]
   have qF:Ot (g::d) 0 20=some ((g::d).take 20):=by
     unfold Ot;rw[if_pos ⟨by omega,by omega,by omega⟩];rfl
   rw[qF,Option.bind_some,AB]
end Mo
end Go.Proofs.YtnijkdknnmgoeaaGreat
namespace Go.Proofs.YtnijkdknnmgoeaaGreat
open AI Go
namespace Mo
set_option maxRecDepth 100000
set_option maxHeartbeats 4000000
def Pa{r:Option (Bool×Int)}{P Q:Prop}{t u:Int}{f:Bool×Int->Option (Bool×Int)}(h:Out r P t)(hT:P->Out (f (true,t)) Q u)(hF:∀z,¬P->Out (f (false,z)) Q u):Out (r.bind f) Q u:=by
 obtain⟨z,rfl,h2⟩:=h;by_cases hp:P;rw[BE.2 hp,h2 hp];exact hT hp;rw[aP hp];exact hF z hp
def am4{Q:Prop}{t u:Int}(hq:Q)(h:t=u):Out (some (true,t)) Q u:=⟨t,by rw[BE.2 hq],λ_=>h⟩
def OP{r:Option (Bool×Int)}{P Q:Prop}{t u:Int}(h:Out r P t)(hp:P↔Q)(ht:P->t=u):Out (r.bind λ(a,b)=>some (a,b)) Q u :=
 Pa h (λp=>am4 (hp.1 p) (ht p)) λ_ p=>Lx λq=>p (hp.2 q)
section
variable {p q r:Prop} {z:Int}
def oD:AM p (some (mb q,z)) (some (false,z))=some (mb (p/\q),z):=by
 by_cases h:p;rw[Ac h];congr 2;exact CA ⟨λa=>⟨h,a⟩,λa=>a.2⟩;rw[Ab h,aP];exact λa=>h a.1
def w8:AM p (some (false,z)) (some (mb q,z))=some (mb (¬p/\q),z):=by
 by_cases h:p;rw[Ac h,aP];exact λa=>a.1 h;rw[Ab h];congr 2;exact CA ⟨λa=>⟨h,a⟩,λa=>a.2⟩
def ack:AM p (some (mb q,z)) (some (mb r,z))=some (mb ((p->q)/\(¬p->r)),z):=by
 by_cases h:p;rw[Ac h];congr 2;exact CA ⟨λa=>⟨λ_=>a,λb=>absurd h b⟩,λa=>a.1 h⟩;rw[Ab h];congr 2;exact CA ⟨λa=>⟨λb=>absurd b h,λ_=>a⟩,λa=>a.2 h⟩
end
section
variable {n:Nd}
def aee(h:n.kind=11):Ww n↔GQ n.unit/\0<=n.n/\n.n<=999999999999/\(n.unit=Ak->n.n<=1)/\n.kids.length=0/\FU n ⟨0,ByteArray.empty,n.unit,n.n,0,0,0,⟨0,[]⟩,[],0⟩:=by unfold Ww;simp[h]
def amq(h:n.kind=12):Ww n↔HE n.name/\n.kids.length=0/\FU n ⟨0,n.name,ByteArray.empty,0,0,0,0,⟨0,[]⟩,[],0⟩:=by unfold Ww;simp[h]
def alq(h:n.kind=13):Ww n↔JX n.n/\n.kids.length=0/\FU n ⟨0,ByteArray.empty,ByteArray.empty,n.n,0,0,0,⟨0,[]⟩,[],0⟩:=by unfold Ww;simp[h]
def ale(h:n.kind=14):Ww n↔Y7 n.name/\n.kids.length=0/\FU n ⟨0,n.name,ByteArray.empty,0,0,0,0,⟨0,[]⟩,[],0⟩:=by unfold Ww;simp[h]
def ag2(h:n.kind=15):Ww n↔n.kids.length=1/\FU n ⟨0,ByteArray.empty,ByteArray.empty,0,0,0,0,⟨0,[]⟩,[],0⟩:=by unfold Ww;simp[h]
def adI(h:n.kind=16):Ww n↔FU n ⟨0,n.name,ByteArray.empty,0,0,0,0,⟨0,[]⟩,[],0⟩/\n.kids.length=2/\cE n.name/\(n.name=OO->∀k,n.kids[1]?=some k->VB k):=by unfold Ww;simp[h]
def aeo(h:n.kind=17):Ww n↔(n.name=Ni\/n.name=FM)/\FU n ⟨0,n.name,ByteArray.empty,0,0,0,0,⟨0,[]⟩,[],0⟩/\2<=n.kids.length:=by unfold Ww;simp[h]
def aeu(h:n.kind=18):Ww n↔FU n ⟨0,ByteArray.empty,ByteArray.empty,0,0,0,0,n.BX,[],0⟩/\nD n.BX/\n.kids.length=1:=by unfold Ww;simp[h]
def X6(h:Ww n):n.kind=11\/n.kind=12\/n.kind=13\/n.kind=14\/n.kind=15\/n.kind=16\/n.kind=17\/n.kind=18:=by
 unfold Ww at h;rcases h with h | h | h | h | h | h | h | h
 all_goals
   have:=h.1;simp[this]
end
def Rl(l:List Nd)(c d:Int):Prop:=(∀k∈l,Rf k/\d+Ui k<=41)/\c+JL l<=2000
def aj4{l:List Nd}{c d:Int}(h:l.length=0)(hc:c<=2000):Rl l c d/\c=c+JL l:=by
 obtain rfl:=List.eq_nil_of_length_eq_zero h;exact⟨⟨(λk hk=>(by cases hk)),(by simp only[JL];omega)⟩,(by simp[JL])⟩
def aky{x:Nd}{c d:Int}:Rl [x] c d↔Rf x/\c+Fv x<=2000/\d+Ui x<=41:=by
 unfold Rl;simp only[List.mem_singleton,forall_eq,JL,Nat.add_zero];exact⟨λa=>⟨a.1.1,a.2,a.1.2⟩,λa=>⟨⟨a.1,a.2.2⟩,a.2.1⟩⟩
def tA{x y:Nd}{c d:Int}:Rl [x,y] c d↔(Rf x/\c+Fv x<=2000/\d+Ui x<=41)/\Rf y/\c+Fv x+Fv y<=2000/\d+Ui y<=41:=by
 unfold Rl;simp only[List.mem_cons,List.not_mem_nil,or_false,forall_eq_or_imp,forall_eq,JL,Nat.add_zero,Int.natCast_add];constructor;rintro⟨⟨⟨a,b⟩,c',d'⟩,e⟩;exact⟨⟨a,by omega,b⟩,c',by omega,d'⟩;rintro⟨⟨a,b,c'⟩,d',e,f⟩;exact⟨⟨⟨a,c'⟩,d',f⟩,by omega⟩
abbrev ExS(g:Ck->Nd->Int->Option (Bool×Int))(n:Nd):Prop:=∀(c d:Int),0<=c->c<=2000->0<=d->d<=41->Out (g ⟨c⟩ n d) (Rf n/\c+Fv n<=2000/\d+Ui n<=41) (c+Fv n)
def kP{g:Ck->Nd->Int->Option (Bool×Int)}{b a:Ck->Nd->Int->Option (Bool×Int)}{l:Ck->List Nd->Int->Option (Bool×Int)}{n:Nd}(h:ExS g n){c d:Int}(h0:0<=c)(h1:c<=2000)(h2:0<=d)(h3:d<=41) :
   Out (Db g b a l ⟨c⟩ n d) ((Rf n/\VB n)/\c+Fv n<=2000/\d+Ui n<=41) (c+Fv n):=by
 rw[Db];simp only[BB,B5,Bd,Xt,Option.bind_some];refine Pa (h c d h0 h1 h2 h3) (λhp=>?_) λz hp=>Lx λq=>hp ⟨q.1.1,q.2⟩;show Out (AM (n.kind=11) (AM (n.unit=AF) (some (mb (JX n.n),c+Fv n)) (some (false,c+Fv n))) (some (false,c+Fv n))) _ _;rw[oD,oD];exact Yi ⟨λa=>⟨⟨hp.1,a⟩,hp.2⟩,λa=>a.1.2⟩
def abP{g n':Ck->Nd->Int->Option (Bool×Int)}{b:Ck->Nd->Int->Option (Bool×Int)}{l:Ck->List Nd->Int->Option (Bool×Int)}{n:Nd}(hg:∀k∈n.kids,ExS g k)
   (hn:∀k∈n.kids,∀c d:Int,0<=c->c<=2000->0<=d->d<=41->Out (n' ⟨c⟩ k d) ((Rf k/\VB k)/\c+Fv k<=2000/\d+Ui k<=41) (c+Fv k)) {c d:Int} (h0:0<=c) (h1:c<=2000) (h2:0<=d) (h3:d<=40) :
   Out (Da g b n' l ⟨c⟩ n d) ((n.kids.length=2/\cE n.name/\(n.name=OO->∀k,n.kids[1]?=some k->VB k))/\Rl n.kids c (d+1)) (c+JL n.kids):=by
 rw[Da,Dl (by omega)];simp only[BB,B5,Bd];generalize hl:n.kids=ks at *;by_cases hlen:((ks.length:Nat):Int)=2;rotate_left;rw[Ab hlen];exact Lx λq=>hlen (by have:=q.1.1;omega);rw[Ac hlen]
 match ks,hlen with
 | [x,y],_ =>
 simp only[List.getElem?_cons_zero,List.getElem?_cons_succ,Option.bind_some];refine Pa (hg x (by simp) c (d+1) h0 h1 (by omega) (by omega)) (λhx=>?_) λz hx=>Lx λq=>hx (tA.1 q.2).1;dsimp only;rw[cond_true];have Q5:JL [x,y]=Fv x+Fv y:=by simp[JL]
 have hy:=λhc=>hg y (by simp) (c+Fv x) (d+1) (by omega) hc (by omega) (by omega);have hn':=λhc=>hn y (by simp) (c+Fv x) (d+1) (by omega) hc (by omega) (by omega);have hy:=hy hx.2.1;have hn':=hn' hx.2.1;by_cases hs:n.name=OO;rw[Ac hs];refine OP hn' ⟨λa=>⟨⟨rfl,.inl hs,λ_ k hk=>by cases hk;exact a.1.2⟩,tA.2 ⟨hx,a.1.1,a.2⟩⟩,λa=>?_⟩ (λa=>by rw[Q5];omega);have:=(tA.1 a.2).2;exact⟨⟨this.1,a.1.2.2 hs y rfl⟩,this.2⟩;rw[Ab hs]
 have fin:∀iZ:cE n.name,Out ((g ⟨c+Fv x⟩ y (d+1)).bind λ(a,b)=>some (a,b)) ((([x,y]:List Nd).length=2/\cE n.name/\(n.name=OO->∀k,some y=some k->VB k))/\Rl [x,y] c (d+1)) (c+JL [x,y]):=λiZ =>
   OP hy ⟨λa=>⟨⟨rfl,iZ,λe=>absurd e hs⟩,tA.2 ⟨hx,a⟩⟩,λa=>(tA.1 a.2).2⟩ (λa=>by rw[Q5];omega)
 have step:∀{s:ByteArray} {A:Option (Bool×Int)},(n.name=s->cE n.name)->(n.name≠s->Out A ((([x,y]:List Nd).length=2/\cE n.name/\(n.name=OO->∀k,some y=some k->VB k))/\Rl [x,y] c (d+1)) (c+JL [x,y])) ->
     Out (AM (n.name=s) ((g ⟨c+Fv x⟩ y (d+1)).bind λ(a,b)=>some (a,b)) A) ((([x,y]:List Nd).length=2/\cE n.name/\(n.name=OO->∀k,some y=some k->VB k))/\Rl [x,y] c (d+1)) (c+JL [x,y]):=by
   intro s A h4 h5;by_cases h:n.name=s;rw[Ac h];exact fin (h4 h);rw[Ab h];exact h5 h
 refine step (λe=>by unfold cE;simp[e]) λe1=>?_;refine step (λe=>by unfold cE;simp[e]) λe2=>?_;refine step (λe=>by unfold cE;simp[e]) λe3=>?_;refine step (λe=>by unfold cE;simp[e]) λe4=>?_;refine step (λe=>by unfold cE;simp[e]) λe5=>?_;refine step (λe=>by unfold cE;simp[e]) λe6=>?_;refine step (λe=>by unfold cE;simp[e]) λe7=>?_;refine step (λe=>by unfold cE;simp[e]) λe8=>?_;refine step (λe=>by unfold cE;simp[e]) λe9=>?_;refine step (λe=>by unfold cE;simp[e]) λe10=>?_
 exact Lx λq=>by
   have:=q.1.2.1;unfold cE at this;simp[hs,e1,e2,e3,e4,e5,e6,e7,e8,e9,e10] at this
def afC{A L B T:Prop}{x:Int}:(A/\¬x < 0/\¬999999999999 < x/\(T->¬1 < x/\L/\B)/\(¬T->L/\B))↔A/\0<=x/\x<=999999999999/\(T->x<=1)/\L/\B:=by
 constructor;rintro⟨a,b,c,d,e⟩;by_cases t:T;exact⟨a,by omega,by omega,λ_=>by have:=(d t).1;omega,(d t).2⟩;exact⟨a,by omega,by omega,λh=>absurd h t,e t⟩;rintro⟨a,b,c,d,e⟩;exact⟨a,by omega,by omega,λt=>⟨by have:=d t;omega,e⟩,λ_=>e⟩
def acR:∀(q:Nat) (n:Nd),Iu n->3*Fv n<=q->ExS (AN q) n:=by
 intro q
 induction q using Nat.strongRecOn with
 | _ q ih =>
 intro n L8 hq c d h0 h1 h2 h3;have Q5:=CN n;obtain⟨q,rfl⟩:∃k,q=k+1:=⟨q - 1,by omega⟩;obtain⟨jA,Sl,Lo⟩:=KR L8;have hE:∀k∈n.kids,∀q',q<=q'+2->q' < q+1->ExS (AN q') k:=λk hk q' h4 h5=>ih q' h5 k (Lo k hk) (by have:=FZ hk;omega);rw[AN,DI];refine Pa (fY n h0 h1) (λhp=>?_) λz hp=>Lx λa=>hp ⟨by omega,by have:=U3 n;omega⟩;dsimp only;rw[cond_true];refine Out.congr (P:=Ww n/\Rl n.kids (c+1) (d+1)) (t:=(c+1)+JL n.kids) ?_ ?_ (λ_=>by omega);rotate_left;rw[P9,U3];unfold Rl;have hd:=@dX n.kids;constructor;rintro⟨a,b,e⟩;refine⟨⟨a,λk hk=>(b k hk).1⟩,by omega,?_⟩;have:=(hd (m:=(40 - d).toNat)).2 λk hk=>by have:=(b k hk).2;omega
 omega;rintro⟨⟨a,b⟩,e,f⟩;refine⟨a,λk hk=>⟨b k hk,?_⟩,by omega⟩;have:=(hd (m:=dpL n.kids)).1 (Nat.le_refl _) k hk;omega;have n7:=hp.1;have iX:=hp.2;rw[Dl (a:=d) (b:=1) (by omega)];have e0:(((n.kids.length:Nat):Int)=0)=(n.kids.length=0):=propext (by omega);simp only[BB,Ea,CC,B5,Bd,YK,bW,Xt,ad6,apu _ jA,eZ _ _ jA,Option.bind_some,e0];have iR:∀{B:Prop},(B↔Ww n)->(B->n.kids.length=0)->Out (some (mb B,c+1)) (Ww n/\Rl n.kids (c+1) (d+1)) (c+1+JL n.kids):=λhB hk=>(Yi hB).congr ⟨λa=>⟨a,(aj4 (hk (hB.2 a)) n7).1⟩,λa=>a.1⟩ λa=>(aj4 (d:=d+1) (hk (hB.2 a.1)) n7).2
 have T5:∀{B:Prop},(Ww n↔B/\n.kids.length=1)->B->n.kids.length=1->Out ((n.kids[0]?).bind λx=>(AN q ⟨c+1⟩ x (d+1)).bind λ(a,b)=>some (a,b)) (Ww n/\Rl n.kids (c+1) (d+1)) (c+1+JL n.kids):=by
   intro B hB hb hl;have hE0:=λk hk=>hE k hk q (by omega) (by omega);have hx:=hB.2 ⟨hb,hl⟩;generalize n.kids=ks at *
   match ks,hl with
   | [x],_ =>
   simp only[List.getElem?_cons_zero,Option.bind_some];refine OP (hE0 x (by simp) (c+1) (d+1) (by omega) n7 (by omega) (by omega)) ⟨λa=>⟨hx,aky.2 a⟩,λa=>aky.1 a.2⟩ λ_=>?_;simp[JL]
 by_cases k11:n.kind=11;rw[Ac k11];simp only[oD,w8,ack];refine iR ?_ ?_;rw[aee k11];exact afC;intro h;exact(afC.1 h).2.2.2.2.1;rw[Ab k11];by_cases k12:n.kind=12;rw[Ac k12];simp only[oD,w8,ack];refine iR ?_ ?_;rw[amq k12];intro h;exact h.2.1;rw[Ab k12];by_cases k13:n.kind=13;rw[Ac k13];simp only[oD,w8,ack];refine iR ?_ ?_;rw[alq k13];intro h;exact h.2.1;rw[Ab k13];by_cases k14:n.kind=14;rw[Ac k14];simp only[oD,w8,ack];refine iR ?_ ?_;rw[ale k14];intro h;exact h.2.1;rw[Ab k14];by_cases k15:n.kind=15;rw[Ac k15];have e:=ag2 k15;refine IG (λhl=>IG (λhb=>T5 (e.trans And.comm) hb (by omega)) λa=>(e.1 a.1).2) λa=>?_;have:=(e.1 a.1).1;omega;rw[Ab k15];by_cases k16:n.kind=16;rw[Ac k16];have e:=adI k16;refine IG (λhb=>?_) λa=>(e.1 a.1).1;obtain⟨q,rfl⟩:∃k,q=k+1:=⟨q - 1,by omega⟩;rw[A7];refine OP (abP (g:=AN q) (b:=A7 q) (n':=AY q) (l:=AQ q) (λk hk=>hE k hk q (by omega) (by omega)) (λk hk c d a1 a2 a3 a4=>?_) (by omega) n7 h2 iX) ?_ λ_=>rfl;obtain⟨q,rfl⟩:∃k,q=k+1:=⟨q - 1,by have:=P7 hk;have:=CN k;omega⟩;rw[AY];exact kP (hE k hk q (by omega) (by omega)) a1 a2 a3 a4;rw[e];exact⟨λa=>⟨⟨hb,a.1⟩,a.2⟩,λa=>⟨a.1.2,a.2⟩⟩;rw[Ab k16];by_cases k17:n.kind=17;rw[Ac k17];have e:=aeo k17
 have HP:(n.name=Ni\/n.name=FM)->Out (AM (FU n ⟨0,n.name,ByteArray.empty,0,0,0,0,⟨0,[]⟩,[],0⟩) (AM (2<=((n.kids.length:Nat):Int)) ((AQ q ⟨c+1⟩ n.kids (d+1)).bind λ(a,b)=>some (a,b)) (some (false,c+1))) (some (false,c+1))) (Ww n/\Rl n.kids (c+1) (d+1)) (c+1+JL n.kids):=by
   intro hn;refine IG (λhb=>IG (λhl=>?_) λa=>?_) λa=>(e.1 a.1).2.1;obtain⟨q,rfl⟩:∃k,q=k+1:=⟨q - 1,by have:=Gy n.kids;omega⟩;rw[AQ,Du,EV Sl,List.drop_zero];dsimp only;refine OP (Va (g:=AN q) (p:=Rf) (d:=d+1) (by omega) n7 λk hk c' b0 b1=>hE k hk q (by omega) (by omega) c' (d+1) b0 b1 (by omega) (by omega)) ?_ λ_=>rfl;rw[e];exact⟨λa=>⟨⟨hn,hb,by omega⟩,a⟩,λa=>a.2⟩;have:=(e.1 a.1).2.2;omega
 by_cases hn1:n.name=Ni;rw[Ac hn1];exact HP (.inl hn1);rw[Ab hn1];exact IG (λhn2=>HP (.inr hn2)) λa=>(e.1 a.1).1.resolve_left hn1;rw[Ab k17];by_cases k18:n.kind=18;rw[Ac k18];have e:=aeu k18;refine IG (λhb=>IG (λht=>IG (λhl=>T5 (B:=FU n ⟨0,ByteArray.empty,ByteArray.empty,0,0,0,0,n.BX,[],0⟩/\nD n.BX) (e.trans (by rw[and_assoc])) ⟨hb,ht⟩ (by omega)) λa=>?_) λa=>(e.1 a.1).2.1) λa=>(e.1 a.1).1;have:=(e.1 a.1).2.2;omega;rw[Ab k18];exact Lx λa=>by have:=X6 a.1;omega
def Le{β:Type}(a b:Option β):Prop:=∀y,a=some y->b=some y
section
variable {α β γ δ ρ:Type}
def Le.refl(a:Option β):Le a a:=λ_ h=>h
def Rx{a a':Option α}{f g:α->Option β}(h:Le a a')(k:∀x,Le (f x) (g x)):Le (a.bind f) (a'.bind g):=by
 intro y hy;cases a with
 | none=>cases hy
 | some x=>rw[h x rfl];exact k x y hy
def zO{b:Bool}{x x' y y':Option β}(h:Le x x')(k:Le y y'):Le (cond b x y) (cond b x' y'):=by cases b;exact k;exact h
def aob{n:Nat}{x x':Option β}(h:Le x x'):Le (ED n x) (ED n x'):=by
 unfold ED;split;exact h;exact Le.refl _
def aal{body body':Nat->α->γ->Option (Lp γ δ ρ)}{done:γ->δ}(h:∀i y x,Le (body i y x) (body' i y x)):∀(l:List α) (i:Nat) (x:γ),Le (Au body done l i x) (Au body' done l i x)
 | [],_,_=>Le.refl _
 | a::l,i,x=>by
   rw[Au,Au];refine Rx (h i a x) λz=>?_;cases z with
   | nx x'=>exact aal h l (i+1) x'
   | ex d=>exact Le.refl _
   | rt v=>exact Le.refl _
end
def mR:∀q:Nat,(∀c n d,Le (AN q c n d) (AN (q+1) c n d))/\(∀c n d,Le (A7 q c n d) (A7 (q+1) c n d))/\(∀c n d,Le (AY q c n d) (AY (q+1) c n d))/\(∀c n d,Le (AQ q c n d) (AQ (q+1) c n d))
 | 0=>⟨(λ_ _ _ _ h=>nomatch h),(λ_ _ _ _ h=>nomatch h),(λ_ _ _ _ h=>nomatch h),(λ_ _ _ _ h=>nomatch h)⟩
 | q+1=>by
   obtain⟨i1,i2,i3,i4⟩:=mR q;refine⟨λc n d=>?_,λc n d=>?_,λc n d=>?_,λc n d=>?_⟩
   . rw[AN,AN,DI,DI]
     repeat' first
       | exact Le.refl _
       | exact i1 _ _ _
       | exact i2 _ _ _
       | exact i4 _ _ _
       | refine zO ?_ ?_
       | refine Rx ?_ λ⟨_,_⟩=>?_
       | refine Rx ?_ λ_=>?_
   . rw[A7,A7,Da,Da]
     repeat' first
       | exact Le.refl _
       | exact i1 _ _ _
       | exact i3 _ _ _
       | refine zO ?_ ?_
       | refine Rx ?_ λ⟨_,_⟩=>?_
       | refine Rx ?_ λ_=>?_
   rw[AY,AY,Db,Db];exact Rx (i1 _ _ _) λ_=>Le.refl _;rw[AQ,AQ,Du,Du];refine Rx (aob (aal (λi y x=>?_) _ _ _)) λ_=>Le.refl _;rw[DS,DS];exact Rx (i1 _ _ _) λ_=>Le.refl _
def adv{β:Type}{f:Nat->Option β}(h:∀q,Le (f q) (f (q+1))){q:Nat}{y:β}(hy:f q=some y):cA f=some y:=by
 refine Ih q λm hm=>?_
 induction m with
 | zero=>obtain rfl:q=0:=by omega
         exact hy
 | succ m ih =>
   rcases Nat.lt_or_ge m q with IJ | wV
   obtain rfl:q=m+1:=by omega
   exact hy;exact h m y (ih wV)
def aga{n:Nd}(L8:Iu n):ExS FA n:=by
 intro c d h0 h1 h2 h3;obtain⟨z,hz,hz2⟩:=acR (3*Fv n) n L8 (Nat.le_refl _) c d h0 h1 h2 h3;exact⟨z,adv (λq=>(mR q).1 _ _ _) hz,hz2⟩
def aew{n:Nd}(L8:Iu n){c d:Int}(h0:0<=c)(h1:c<=2000)(h2:0<=d)(h3:d<=41):Out (GD ⟨c⟩ n d) ((Rf n/\VB n)/\c+Fv n<=2000/\d+Ui n<=41) (c+Fv n):=by
 obtain⟨z,hz,hz2⟩:=kP (g:=AN (3*Fv n)) (b:=A7 (3*Fv n)) (a:=AY (3*Fv n)) (l:=AQ (3*Fv n)) (acR (3*Fv n) n L8 (Nat.le_refl _)) h0 h1 h2 h3;exact⟨z,adv (q:=3*Fv n+1) (λq=>(mR q).2.2.1 _ _ _) (by rw[AY];exact hz),hz2⟩
end Mo
end Go.Proofs.YtnijkdknnmgoeaaGreat
namespace Go.Proofs.YtnijkdknnmgoeaaGreat
open AI Go
namespace Mo
set_option maxRecDepth 100000
set_option maxHeartbeats 4000000
abbrev z0:Nd:=⟨0,ByteArray.empty,ByteArray.empty,0,0,0,0,⟨0,[]⟩,[],0⟩
def amh(n:Int):Hj n=some (mb (acA n)):=by
 rw[Hj];simp only[Ea,Bd,EW,Ek];rfl
def NK(n:Nd):Prop:=n.kind=5/\(0<=n.n/\n.n<=1000000)/\n.kids.length=0/\acA n.fr/\(n.fr < n.to/\n.to<=36525)/\acA n.known/\FU n ⟨0,ByteArray.empty,ByteArray.empty,n.n,n.fr,n.to,n.known,⟨0,[]⟩,[],0⟩
def CV(n:Nd):Prop:=FU n z0/\(n.kind=7->0 < n.kids.length/\∀k∈n.kids,Rf k/\VB k)/\(n.kind≠7->n.kids.length=1/\∀k∈n.kids,Rf k)
def aaT{n:Nd}(h:n.kids.length=0):Fv n=1/\Ui n=1:=by
 have:=List.eq_nil_of_length_eq_zero h;rw[CN,U3,this];exact⟨rfl,rfl⟩
def amO{n:Nd}(L8:Iu n){c d:Int}(h0:0<=c)(h1:c<=2000):Out (FC ⟨c⟩ n d) (NK n/\c+Fv n<=2000/\d+Ui n<=41) (c+Fv n):=by
 obtain⟨jA,Sl,Lo⟩:=KR L8;have Q5:=CN n;have hdp:=U3 n;rw[FC];refine Pa (fY n h0 h1) (λhp=>?_) λz hp=>Lx λa=>hp ⟨by omega,by omega⟩;dsimp only;rw[cond_true];simp only[BB,Ea,CC,Bd,amh,eZ _ _ jA,Option.bind_some,oD,w8]
 have key:(n.kind=5/\¬n.n < 0/\¬1000000 < n.n/\¬(0:Int) < ((n.kids.length:Nat):Int)/\acA n.fr/\¬n.to<=n.fr/\¬36525 < n.to/\acA n.known/\FU n ⟨0,ByteArray.empty,ByteArray.empty,n.n,n.fr,n.to,n.known,⟨0,[]⟩,[],0⟩)↔NK n:=by
   unfold NK;constructor;rintro⟨a,b,c',e,f,g,h,i,j⟩;exact⟨a,⟨by omega,by omega⟩,by omega,f,⟨by omega,by omega⟩,i,j⟩;rintro⟨a,b,c',f,g,i,j⟩;exact⟨a,by omega,by omega,by omega,f,by omega,by omega,i,j⟩
 refine(Yi key).congr ⟨λa=>⟨a,?_⟩,λa=>a.1⟩ λa=>?_;have:=aaT a.2.2.1;omega;have:=aaT a.1.2.2.1;omega
def afA{n:Nd}(L8:Iu n){c d:Int}(h0:0<=c)(h1:c<=2000)(h2:0<=d):Out (DO ⟨c⟩ n d) (CV n/\c+Fv n<=2000/\d+Ui n<=41) (c+Fv n):=by
 obtain⟨jA,Sl,Lo⟩:=KR L8;have Q5:=CN n;have hdp:=U3 n;have hd:=@dX n.kids;rw[DO];refine Pa (fY n h0 h1) (λhp=>?_) λz hp=>Lx λa=>hp ⟨by omega,by omega⟩;dsimp only;rw[cond_true,Dl (a:=d) (b:=1) (by omega)];simp only[BB,CC,Bd,eZ _ _ jA,Option.bind_some];have n7:=hp.1;have iX:=hp.2
 have YV:(∀k∈n.kids,d+1+Ui k<=41)↔d+Ui n<=41:=by
   constructor;intro h;have:=(hd (m:=(40 - d).toNat)).2 λk hk=>by have:=h k hk;omega
   omega;intro h k hk;have:=(hd (m:=dpL n.kids)).1 (Nat.le_refl _) k hk;omega
 refine IG (λhb=>?_) λa=>a.1.1;by_cases k7:n.kind=7;rw[Ac k7];refine IG (λhl=>?_) λa=>by have:=(a.1.2.1 k7).1;omega
 rw[ER,EV Sl,List.drop_zero];dsimp only;refine OP (Va (g:=GD) (p:=λk=>Rf k/\VB k) (d:=d+1) (by omega) n7 λk hk c' b0 b1=>aew (Lo k hk) b0 b1 (by omega) (by omega)) ⟨λa=>⟨⟨hb,λ_=>⟨by omega,λk hk=>(a.1 k hk).1⟩,λh=>absurd k7 h⟩,by omega,YV.1 λk hk=>(a.1 k hk).2⟩,λa=>⟨λk hk=>⟨(a.1.2.1 k7).2 k hk,YV.2 a.2.2 k hk⟩,by omega⟩⟩ λ_=>by omega
 rw[Ab k7];refine IG (λhl=>?_) λa=>by have:=(a.1.2.2 k7).1;omega
 have vM:n.kids.length=1:=by omega
 unfold CV;generalize n.kids=ks at *
 match ks,vM with
 | [x],_ =>
 simp only[List.getElem?_cons_zero,Option.bind_some];have e1:JL [x]=Fv x:=by simp[JL]
 refine OP (aga (Lo x (by simp)) (c+1) (d+1) (by omega) n7 (by omega) (by omega)) ⟨λa=>⟨⟨hb,λh=>absurd h k7,λ_=>⟨rfl,λk hk=>by rw[List.mem_singleton.1 hk];exact a.1⟩⟩,by omega,YV.1 λk hk=>by rw[List.mem_singleton.1 hk];exact a.2.2⟩,λa=>⟨(a.1.2.2 k7).2 x (by simp),by omega,YV.2 a.2.2 x (by simp)⟩⟩ λ_=>by omega
def BV(k:Int):List Nd->Nat
 | []=>0
 | a::l=>(if a.kind=k then 1 else 0)+BV k l
def Mf(k:Int)(l:List Nd):BV k l<=l.length:=by
 induction l with
 | nil=>simp[BV]
 | cons a l ih=>simp only[BV,List.length_cons];split<;>omega
def kinds(l:List Nd):Prop:=∀k∈l,6<=k.kind/\k.kind<=8
def dU{y:Int}:∀{l:List Nd} {i:Nat} {a b c:Int},0<=a->0<=b->0<=c->a+l.length<=9223372036854775807->b+l.length<=9223372036854775807->c+l.length<=9223372036854775807 ->
   Au (λi z x=>D6 y i z x.1 x.2.1 x.2.2) (λx=>(x.1,x.2.1,x.2.2)) l i (a,b,c)=some (AM (kinds l) (.inl (a+BV 6 l,b+BV 7 l,c+BV 8 l)) (.inr (false,y)))
 | [],i,a,b,c,_,_,_,_,_,_=>by rw[Ac (show kinds [] from λk hk=>(by cases hk))];simp[Au,BV]
 | z::l,i,a,b,c,h1,h2,h3,h4,h5,h6=>by
   simp only[List.length_cons] at h4 h5 h6;rw[Au,D6];simp only[CC,BB,Bd];have hk:kinds (z::l)↔(6<=z.kind/\z.kind<=8)/\kinds l:=by unfold kinds;simp
   have go:∀{a' b' c':Int},0<=a'->0<=b'->0<=c'->a'<=a+1->b'<=b+1->c'<=c+1->6<=z.kind/\z.kind<=8->a'+BV 6 l=a+BV 6 (z::l)->b'+BV 7 l=b+BV 7 (z::l)->c'+BV 8 l=c+BV 8 (z::l) ->
       (some (Lp.nx (a',b',c'))).bind (LW (Au (λi z x=>D6 y i z x.1 x.2.1 x.2.2) (λx=>(x.1,x.2.1,x.2.2)) l (i+1)))=some (AM (kinds (z::l)) (.inl (a+BV 6 (z::l),b+BV 7 (z::l),c+BV 8 (z::l))) (.inr (false,y))):=by
     intro a' b' c' g1 g2 g3 g4 g5 g6 gk e1 e2 e3;show Au _ _ l (i+1) (a',b',c')=_;rw[dU g1 g2 g3 (by omega) (by omega) (by omega),e1,e2,e3];by_cases hl:kinds l;rw[Ac hl,Ac (hk.2 ⟨gk,hl⟩)];rw[Ab hl,Ab λq=>hl (hk.1 q).2]
   by_cases k6:z.kind < 6;rw[Ac k6,Ab λq=>by have:=(hk.1 q).1;omega];rfl;rw[Ab k6];by_cases k8:8 < z.kind;rw[Ac k8,Ab λq=>by have:=(hk.1 q).1;omega];rfl;rw[Ab k8];by_cases e6:z.kind=6;rw[Ac e6,Dl (by omega)];exact go (by omega) h2 h3 (by omega) (by omega) (by omega) (by omega) (by simp[BV,e6];omega) (by simp[BV,e6]) (by simp[BV,e6]);rw[Ab e6];by_cases e7:z.kind=7;rw[Ac e7,Dl (by omega)];exact go h1 (by omega) h3 (by omega) (by omega) (by omega) (by omega) (by simp[BV,e7]) (by simp[BV,e7];omega) (by simp[BV,e7]);rw[Ab e7];have e8:z.kind=8:=by omega
   rw[Ac e8,Dl (by omega)];exact go h1 h2 (by omega) (by omega) (by omega) (by omega) (by omega) (by simp[BV,e8]) (by simp[BV,e8]) (by simp[BV,e8];omega)
def agM(n:Nd):Prop:=JX n.n/\HE n.name/\FU n ⟨0,n.name,ByteArray.empty,n.n,0,0,0,⟨0,[]⟩,[],0⟩/\∃h cs,n.kids=h::cs/\kinds cs/\BV 8 cs=1/\BV 7 cs<=1/\NK h/\∀k∈cs,CV k
def Je(n:Nd):Prop :=
 (n.kind=2/\HE n.name/\GQ n.unit/\n.kids.length=0/\FU n ⟨0,n.name,n.unit,0,0,0,0,⟨0,[]⟩,[],0⟩) \/
 (n.kind=3/\HE n.name/\GQ n.unit/\1<=n.n/\n.n<=4/\n.kids.length=0/\FU n ⟨0,n.name,n.unit,n.n,0,0,0,⟨0,[]⟩,[],0⟩) \/
 (n.kind=4/\agM n)
def it2{n:Nd}(h:n.kind=2):Je n↔HE n.name/\GQ n.unit/\n.kids.length=0/\FU n ⟨0,n.name,n.unit,0,0,0,0,⟨0,[]⟩,[],0⟩:=by unfold Je;simp[h]
def it3{n:Nd}(h:n.kind=3):Je n↔HE n.name/\GQ n.unit/\1<=n.n/\n.n<=4/\n.kids.length=0/\FU n ⟨0,n.name,n.unit,n.n,0,0,0,⟨0,[]⟩,[],0⟩:=by unfold Je;simp[h]
def it4{n:Nd}(h:n.kind=4):Je n↔agM n:=by unfold Je;simp[h]
def oU{n:Nd}(h:Je n):n.kind=2\/n.kind=3\/n.kind=4:=by
 unfold Je at h;rcases h with h | h | h
 all_goals
   have:=h.1;simp[this]
def aoa{n:Nd}(L8:Iu n){c d:Int}(h0:0<=c)(h1:c<=2000)(h2:0<=d):Out (Em ⟨c⟩ n d) (Je n/\c+Fv n<=2000/\d+Ui n<=41) (c+Fv n):=by
 obtain⟨jA,Sl,Lo⟩:=KR L8;have Q5:=CN n;have hdp:=U3 n;have hd:=@dX n.kids;rw[Em];refine Pa (fY n h0 h1) (λhp=>?_) λz hp=>Lx λa=>hp ⟨by omega,by omega⟩;dsimp only;rw[cond_true,Dl (a:=d) (b:=1) (by omega)];have e0:(((n.kids.length:Nat):Int)=0)=(n.kids.length=0):=propext (by omega);simp only[BB,Ea,CC,Bd,YK,bW,Xt,eZ _ _ jA,Option.bind_some,e0];have n7:=hp.1;have iX:=hp.2;have iR:∀{B:Prop},(B↔Je n)->(B->n.kids.length=0)->Out (some (mb B,c+1)) (Je n/\c+Fv n<=2000/\d+Ui n<=41) (c+Fv n):=λhB hk=>(Yi hB).congr ⟨λa=>⟨a,by have:=aaT (hk (hB.2 a));omega⟩,λa=>a.1⟩ λa=>by have:=aaT (hk (hB.2 a.1));omega
 by_cases k2:n.kind=2;rw[Ac k2];simp only[oD,w8,ack];refine iR ?_ ?_;rw[it2 k2];intro h;exact h.2.2.1;rw[Ab k2];by_cases k3:n.kind=3;rw[Ac k3];simp only[oD,w8,ack];refine iR ?_ ?_;rw[it3 k3];intro h;exact h.2.2.2.2.1;rw[Ab k3];by_cases k4:n.kind=4;rotate_left;rw[Ab k4];exact Lx λa=>by have:=oU a.1;omega
 rw[Ac k4,it4 k4];refine IG (λhr=>IG (λhn=>IG (λhb=>?_) λa=>a.1.2.2.1) λa=>a.1.2.1) λa=>a.1.1;refine rU (λhl0=>?_) λa h=>by obtain⟨h',cs,hk,_⟩:=a.1.2.2.2;rw[hk] at h;simp at h
 have YV:(∀k∈n.kids,d+1+Ui k<=41)↔d+Ui n<=41:=by
   constructor;intro h;have:=(hd (m:=(40 - d).toNat)).2 λk hk=>by have:=h k hk;omega
   omega;intro h k hk;have:=(hd (m:=dpL n.kids)).1 (Nat.le_refl _) k hk;omega
 unfold agM;generalize n.kids=ks at *
 match ks,hl0 with
 | x::l,_ =>
 have qF:Ot (x::l) 1 (((x::l).length:Nat):Int)=some l:=by
   unfold Ot;rw[if_pos (by simp only[List.length_cons];omega)];simp
 rw[qF];simp only[Option.bind_some,List.length_cons] at Sl ⊢
 have e2:∀{A:Prop},(∃h cs,x::l=h::cs/\kinds cs/\BV 8 cs=1/\BV 7 cs<=1/\NK h/\∀k∈cs,CV k)↔(kinds l/\BV 8 l=1/\BV 7 l<=1/\NK x/\∀k∈l,CV k):=by
   intro _;constructor;rintro⟨h,cs,e,r⟩;cases e;exact r;intro r;exact⟨x,l,rfl,r⟩
 rw[EV (by omega),List.drop_zero,dU (by omega) (by omega) (by omega) (by omega) (by omega) (by omega)];simp only[Option.bind_some];by_cases hK:kinds l;rotate_left;rw[Ab hK];show Out (some (false,c+1)) _ _;exact Lx λa=>hK ((e2 (A:=True)).1 a.1.2.2.2).1;rw[Ac hK];show Out (AM ((0:Int)+BV 8 l=1) (AM (1 < (0:Int)+BV 7 l) (some (false,c+1)) _) (some (false,c+1))) _ _;refine IG (λh8=>rU (λh7=>?_) λa=>?_) λa=>?_;rotate_left;have:=((e2 (A:=True)).1 a.1.2.2.2).2.2.1;omega;have:=((e2 (A:=True)).1 a.1.2.2.2).2.1;omega;simp only[List.getElem?_cons_zero,Option.bind_some];have hdx:=λh=>YV.2 h x (by simp);have hsl:JL (x::l)=Fv x+JL l:=by simp[JL]
 refine Pa (amO (Lo x (by simp)) (c:=c+1) (d:=d+1) (by omega) n7) (λhx=>?_) λz hx=>Lx λa=>hx ⟨((e2 (A:=True)).1 a.1.2.2.2).2.2.2.1,by omega,hdx a.2.2⟩;dsimp only;rw[cond_true,ET,EV (by omega),List.drop_zero];dsimp only;refine OP (Va (g:=DO) (p:=CV) (d:=d+1) (by omega) hx.2.1 λk hk c' b0 b1=>afA (Lo k (by simp[hk])) b0 b1 (by omega)) ?_ λ_=>by omega
 constructor;rintro⟨a,b⟩;refine⟨⟨hr,hn,hb,(e2 (A:=True)).2 ⟨hK,by omega,by omega,hx.1,λk hk=>(a k hk).1⟩⟩,by omega,YV.1 λk hk=>?_⟩;rcases List.mem_cons.1 hk with rfl | hk
 exact hx.2.2;exact(a k hk).2;rintro⟨a,b,e⟩;exact⟨λk hk=>⟨((e2 (A:=True)).1 a.2.2.2).2.2.2.2 k hk,YV.2 e k (by simp[hk])⟩,by omega⟩
def cO(n:Nd):Prop:=((n.kind=1/\FU n z0/\∀k∈n.kids,Je k)\/(n.kind≠1/\Rf n))/\Fv n<=2000/\Ui n<=40
def aas{n:Nd}(L8:Iu n):E1 n=some (mb (cO n)):=by
 obtain⟨jA,Sl,Lo⟩:=KR L8;have Q5:=CN n;have hdp:=U3 n;have hd:=@dX n.kids;rw[E1,BB,Bd]
 have fin:∀{r:Option (Bool×Int)} {P:Prop} {t:Int},Out r P t->(P↔cO n)->(r.bind λ(a,_)=>some a)=some (mb (cO n)):=by
   rintro r P t ⟨z,rfl,_⟩ h;rw[CA h];rfl
 by_cases k1:n.kind=1;rotate_left;rw[Ab k1];refine fin (aga L8 0 1 (by omega) (by omega) (by omega) (by omega)) ?_;unfold cO;constructor;rintro⟨a,b,c⟩;exact⟨.inr ⟨k1,a⟩,by omega,by omega⟩;rintro⟨a | a,b,c⟩;exact absurd a.1 k1;exact⟨a.2,by omega,by omega⟩;rw[Ac k1];obtain⟨z,hz,hz2⟩:=fY n (c:=0) (d:=1) (by omega) (by omega);rw[hz];simp only[Option.bind_some,eZ _ _ jA,Bd];by_cases h1:(0:Int)+1<=2000/\(1:Int)<=40;rotate_left;exact absurd ⟨by omega,by omega⟩ h1;rw[Ac h1,hz2 h1];by_cases hb:FU n z0;rotate_left;rw[Ab hb];refine FE ?_;rintro⟨a | a,_⟩;exact hb a.2.1;exact a.1 k1;rw[Ac hb,Fx,EV Sl,List.drop_zero];dsimp only;refine fin (Va (g:=Em) (p:=Je) (d:=2) (by omega) (by omega) λk hk c' b0 b1=>aoa (Lo k hk) b0 b1 (by omega)) ?_;unfold cO;constructor;rintro⟨a,b⟩;refine⟨.inl ⟨k1,hb,λk hk=>(a k hk).1⟩,by omega,?_⟩;have:=(hd (m:=39)).2 λk hk=>by have:=(a k hk).2;omega
 omega;rintro⟨a | a,b,e⟩;refine⟨λk hk=>⟨a.2.2 k hk,?_⟩,by omega⟩;have:=(hd (m:=dpL n.kids)).1 (Nat.le_refl _) k hk;omega;exact absurd k1 a.1
end Mo
end Go.Proofs.YtnijkdknnmgoeaaGreat
namespace Go.Proofs.YtnijkdknnmgoeaaGreat
open AI Go
namespace Mo
set_option maxRecDepth 100000
set_option maxHeartbeats 4000000
def cY{β:Type}{p:Prop}{x y:β}:some (AM p x y)=AM p (some x) (some y):=by
 by_cases h:p;rw[Ac h,Ac h];rw[Ab h,Ab h]
abbrev eS:ByteArray:=ByteArray.empty
def icP(s:ByteArray):Prop:=s≠eS/\s≠Ak/\s≠AF/\s≠B2
def pF(s:ByteArray):Ij s=some (mb (icP s)):=by
 rw[Ij];simp only[B5,Bd,jO,XT];rfl
def afR{us:List ByteArray}{a:ByteArray}(ha:us[0]?=some a)(hl:us.length<=9223372036854775807):DB us.length us=some (mb (∀u∈us,u=a)):=by
 rw[DB,MA];have h0:0 < us.length:=(List.getElem?_eq_some_iff.1 ha).1;refine aly (λi _=>∀j u,j < i->us[j]?=some u->u=a) hl (λj u hj=>by omega) (λi x hi hI=>?_) (λx hI=>?_);have hx:us[i]?=some us[i]:=List.getElem?_eq_getElem hi;rw[L7,hx];have hk:K5 us.length ((0:Nat):Int)=some 0:=by unfold K5;rw[if_pos (by omega)];rfl
 rw[hk];simp only[Option.bind_some,ha,B5,Bd];by_cases h:us[i]=a;rw[Ac h];refine⟨_,rfl,λj u hj hu=>?_⟩;rcases Nat.lt_or_ge j i with IJ | wV
 exact hI j u IJ hu;obtain rfl:j=i:=by omega
 rw[hx] at hu;cases hu;exact h;rw[Ab h];refine⟨_,rfl,?_⟩;exact⟨_,rfl,(aP λq=>h (q _ (List.getElem_mem hi))).symm⟩;refine⟨_,rfl,(BE.2 λu hu=>?_).symm⟩;obtain⟨j,hj⟩:=List.getElem?_of_mem hu;exact hI j u (List.getElem?_eq_some_iff.1 hj).1 hj
def lS(op a b:ByteArray)(E:Prop):ByteArray :=
 AM (op=bR) (AM (a=Ak) (AM E Ak eS) eS) (AM (op=Mp) (AM (a=Ak) (AM E Ak eS) eS) (AM (op=JV) (AM E Ak eS) (AM (op=Lv) (AM E Ak eS)
   (AM (op=Um) (AM E (AM (a=Ak) eS Ak) eS) (AM (op=J2) (AM E (AM (a=Ak) eS Ak) eS) (AM (op=QV) (AM E (AM (a=Ak) eS a) eS) (AM (op=T7) (AM E (AM (a=Ak) eS a) eS)
     (AM (op=S8) (AM (a=AF) (AM (b=Ak) eS b) (AM (b=AF) (AM (a=Ak) eS a) eS)) (AM (op=OO) (AM (a=Ak) eS a) (AM (op=aW) (AM (a=B2) (AM (icP b) b eS) eS) eS))))))))))
def o0{op a b:ByteArray}{us:List ByteArray}(ha:us[0]?=some a)(hb:us[us.length - 1]?=some b)(hl:us.length<=9223372036854775807):D3 op us.length us=some (lS op a b (∀u∈us,u=a)):=by
 have h0:0 < us.length:=(List.getElem?_eq_some_iff.1 ha).1;have hk:K5 us.length ((0:Nat):Int)=some 0:=by unfold K5;rw[if_pos (by omega)];rfl
 have hk2:K5 us.length (XG ((us.length:Nat):Int) 1)=some (us.length - 1):=by
   rw[Oz (by omega)];unfold K5;rw[if_pos (by omega)];congr 1;omega
 rw[D3,hk,hk2];simp only[Option.bind_some,ha,hb,afR ha hl,pF,B5,Bd];unfold lS;simp only[cY]
def OR(op:ByteArray)(us:List ByteArray):ByteArray:=lS op (us.headD eS) (us.getLastD eS) (∀u∈us,u=us.headD eS)
def aiQ{op:ByteArray}{us:List ByteArray}(h0:us≠[])(hl:us.length<=9223372036854775807):D3 op us.length us=some (OR op us):=by
 cases us with
 | nil=>exact absurd rfl h0
 | cons a l =>
   refine o0 (a:=a) (b:=(a::l).getLastD eS) rfl ?_ hl;rw[List.getLastD_cons,<- List.getLast?_eq_getElem?,List.getLast?_cons,List.getLastD_eq_getLast?]
def Vj(e at_:Int)(ds:List Dg):List Dg:=if ds.length < 20 then ds++[⟨e,at_⟩] else ds
def qY(e at_:Int)(ds:List Dg):AH e at_ ds=some ((),Vj e at_ ds):=by
 rw[AH,CC,Bd];unfold Vj;by_cases h:ds.length < 20;rw[Ac (by omega),if_pos h,D9 (by omega)];rw[Ab (by omega),if_neg h]
def Jq(s:Sc)(n:Nd)(us:List ByteArray):ByteArray :=
 AM (n.kind=11) n.unit (AM (n.kind=12) ((s.facts.get n.name).getD eS) (AM (n.kind=13) ((s.lines.get ((s.Ao.get n.n).getD eS)).getD eS) (AM (n.kind=14) AF
   (AM (n.kind=15) (OR Mp us) (AM (n.kind=16) (OR n.name us) (AM (n.kind=17) (OR QV us) (AM (n.kind=18) (AM (icP (us.headD eS)) (us.headD eS) eS) eS)))))))
def aD(n:Nd):Int:=AM (n.kind=12) 91 (AM (n.kind=13) 91 11)
def ah1(s:Sc)(n:Nd)(r:List ByteArray×List Dg):ByteArray×List Dg :=
 AM (∀u∈r.1,u≠eS) (AM (Jq s n r.1=eS) (Jq s n r.1,Vj (aD n) n.Ct r.2) (Jq s n r.1,r.2)) (eS,r.2)
mutual
def FH(s:Sc):Nd->List Dg->ByteArray×List Dg
 | ⟨kind,name,unit,n,fr,to,known,BX,kids,Ct⟩,ds=>ah1 s ⟨kind,name,unit,n,fr,to,known,BX,kids,Ct⟩ (Gt s kids ds)
def Gt(s:Sc):List Nd->List Dg->List ByteArray×List Dg
 | [],ds=>([],ds)
 | k::ks,ds=>((FH s k ds).1::(Gt s ks (FH s k ds).2).1,(Gt s ks (FH s k ds).2).2)
end
def kB(s:Sc)(n:Nd)(ds:List Dg):FH s n ds=ah1 s n (Gt s n.kids ds):=by cases n;rw[FH]
def ZV(s:Sc):∀(l:List Nd) (ds:List Dg),(Gt s l ds).1.length=l.length
 | [],_=>by rw[Gt];rfl
 | k::l,ds=>by rw[Gt];simp[ZV s l]
def kW{s:Sc}{g:Sc->Nd->List Dg->Option (ByteArray×List Dg)}:∀{l:List Nd} {done:List ByteArray} {w:Prop} {ds:List Dg},(∀k∈l,∀ds,g s k ds=some (FH s k ds)) ->
   Au (λi y x=>D5 g s i y x.1 x.2.1 x.2.2) (λx=>(x.1,x.2.1,x.2.2)) l done.length (mb w,done++List.replicate l.length eS,ds)=some (.inl (mb (w/\∀u∈(Gt s l ds).1,u≠eS),done++(Gt s l ds).1,(Gt s l ds).2))
 | [],done,w,ds,_=>by
   rw[Au,Gt];simp
 | k::l,done,w,ds,h=>by
   rw[Au,D5,h k (by simp)];have IJ:done.length < (done++List.replicate (k::l).length eS).length:=by simp
   have hx:(done++List.replicate (k::l).length eS)[done.length]?=some eS:=by
     rw[List.getElem?_append_right (Nat.le_refl _)];simp
   have apn:(done++List.replicate (k::l).length eS).set done.length (FH s k ds).1=(done++[(FH s k ds).1])++List.replicate l.length eS:=by
     rw[List.set_append_right _ _ (Nat.le_refl _)];simp[List.replicate_succ]
   have hg:((done++[(FH s k ds).1])++List.replicate l.length eS)[done.length]?=some (FH s k ds).1:=by
     rw[List.append_assoc,List.getElem?_append_right (Nat.le_refl _)];simp
   have ih:=λw'=>kW (s:=s) (g:=g) (l:=l) (done:=done++[(FH s k ds).1]) (w:=w') (ds:=(FH s k ds).2) λk' hk'=>h k' (by simp[hk']);simp only[List.length_append,List.length_cons,List.length_nil,Nat.zero_add] at ih;simp only[Option.bind_some,hx,apn,hg,B5,Bd];rw[Gt]
   have fin:∀w',(w'↔w/\(FH s k ds).1≠eS)->(LW (Au (λi y x=>D5 g s i y x.1 x.2.1 x.2.2) (λx=>(x.1,x.2.1,x.2.2)) l (done.length+1)) (.nx (mb w',done++[(FH s k ds).1]++List.replicate l.length eS,(FH s k ds).2)))=some (.inl (mb (w/\∀u∈(FH s k ds).1::(Gt s l (FH s k ds).2).1,u≠eS),done++((FH s k ds).1::(Gt s l (FH s k ds).2).1),(Gt s l (FH s k ds).2).2)):=by
     intro w' hw;show Au _ _ l (done.length+1) _=_;rw[ih w'];congr 2;refine Prod.ext (CA ?_) (Prod.ext (by simp) rfl);simp only[List.mem_cons,forall_eq_or_imp,hw];exact and_assoc
   by_cases hw:w;rw[Ac hw];by_cases hu:(FH s k ds).1=eS;rw[Ac hu,mbF];exact fin False ⟨λq=>q.elim,λq=>q.2 hu⟩;rw[Ab hu,mbT];exact fin True ⟨λ_=>⟨hw,hu⟩,λ_=>trivial⟩;rw[Ab hw,mbF];exact fin False ⟨λq=>q.elim,λq=>hw q.1⟩
section
variable {s:Sc} {n:Nd} {us:List ByteArray}
def u11(h:n.kind=11):Jq s n us=n.unit:=by unfold Jq;rw[Ac h]
def u12(h:n.kind=12):Jq s n us=(s.facts.get n.name).getD eS:=by unfold Jq;rw[Ab (by omega),Ac h]
def u13(h:n.kind=13):Jq s n us=(s.lines.get ((s.Ao.get n.n).getD eS)).getD eS:=by unfold Jq;rw[Ab (by omega),Ab (by omega),Ac h]
def u14(h:n.kind=14):Jq s n us=AF:=by unfold Jq;rw[Ab (by omega),Ab (by omega),Ab (by omega),Ac h]
def u15(h:n.kind=15):Jq s n us=OR Mp us:=by unfold Jq;rw[Ab (by omega),Ab (by omega),Ab (by omega),Ab (by omega),Ac h]
def u16(h:n.kind=16):Jq s n us=OR n.name us:=by unfold Jq;rw[Ab (by omega),Ab (by omega),Ab (by omega),Ab (by omega),Ab (by omega),Ac h]
def u17(h:n.kind=17):Jq s n us=OR QV us:=by unfold Jq;rw[Ab (by omega),Ab (by omega),Ab (by omega),Ab (by omega),Ab (by omega),Ab (by omega),Ac h]
def u18(h:n.kind=18):Jq s n us=AM (icP (us.headD eS)) (us.headD eS) eS:=by unfold Jq;rw[Ab (by omega),Ab (by omega),Ab (by omega),Ab (by omega),Ab (by omega),Ab (by omega),Ab (by omega),Ac h]
def aqZ(h:n.kind=12\/n.kind=13):aD n=91:=by
 unfold aD;by_cases e:n.kind=12;rw[Ac e];rw[Ab e,Ac (h.resolve_left e)]
def abl(h1:n.kind≠12)(h2:n.kind≠13):aD n=11:=by unfold aD;rw[Ab h1,Ab h2]
end
def arI{n:Nd}(h:Ww n)(hk:n.kind=15\/n.kind=16\/n.kind=17\/n.kind=18):0 < n.kids.length:=by
 rcases hk with e | e | e | e
 have:=((ag2 e).1 h).1;omega;have:=((adI e).1 h).2.1;omega;have:=((aeo e).1 h).2.2;omega;have:=((aeu e).1 h).2.2;omega
def ags:∀(q:Nat) (s:Sc) (n:Nd) (ds:List Dg),Rf n->Fv n<=q->Fv n<=2000->CG q s n ds=some (FH s n ds):=by
 intro q
 induction q with
 | zero=>intro s n ds _ h;have:=CN n;omega
 | succ q ih =>
 intro s n ds he hq h2;obtain⟨hQ,Lo⟩:=(P9 n).1 he;have Q5:=CN n;have Sl:=Gy n.kids;rw[CG,HJ,kB];have hl:=ZV s n.kids ds;have hf:=kW (s:=s) (g:=CG q) (l:=n.kids) (done:=[]) (w:=True) (ds:=ds) λk hk ds'=>ih s k ds' (Lo k hk) (by have:=FZ hk;omega) (by have:=FZ hk;omega);simp only[List.nil_append,List.length_nil,true_and,<- mbT] at hf;unfold rF;rw[if_pos (by omega),EV (by omega),List.drop_zero,hf];show cond (mb (∀u∈(Gt s n.kids ds).1,u≠eS)) _ _=_;unfold ah1;generalize hr:Gt s n.kids ds=r at *;obtain⟨us,ds2⟩:=r;dsimp only at hl ⊢;rw[<- hl];simp only[Bd,BB,B5,qY,pF];rw[cY];congr 1;rw[cY];have KS:=λhk=>arI hQ hk;have hul:us.length<=9223372036854775807:=by omega
 have iZ:∀op,0 < n.kids.length->D3 op us.length us=some (OR op us):=λop h=>aiQ (λe=>by rw[e] at hl;simp at hl;omega) hul;rcases X6 hQ with k | k | k | k | k | k | k | k
 rw[Ac k,u11 k,abl (by omega) (by omega)];rfl;rw[Ab (by omega),Ac k,u12 k,aqZ (.inl k)];rfl;rw[Ab (by omega),Ab (by omega),Ac k,u13 k,aqZ (.inr k)];rfl;rw[Ab (by omega),Ab (by omega),Ab (by omega),Ac k,u14 k,abl (by omega) (by omega)];rfl;rw[Ab (by omega),Ab (by omega),Ab (by omega),Ab (by omega),Ac k,u15 k,abl (by omega) (by omega),iZ Mp (KS (by omega))];rfl;rw[Ab (by omega),Ab (by omega),Ab (by omega),Ab (by omega),Ab (by omega),Ac k,u16 k,abl (by omega) (by omega),iZ n.name (KS (by omega))];rfl;rw[Ab (by omega),Ab (by omega),Ab (by omega),Ab (by omega),Ab (by omega),Ab (by omega),Ac k,u17 k,abl (by omega) (by omega),iZ QV (KS (by omega))];rfl;rw[Ab (by omega),Ab (by omega),Ab (by omega),Ab (by omega),Ab (by omega),Ab (by omega),Ab (by omega),Ac k,u18 k,abl (by omega) (by omega)];have h0:=KS (by omega);cases us with
 | nil=>simp at hl;omega
 | cons a l =>
 have cB:K5 (a::l).length ((0:Nat):Int)=some 0:=by unfold K5;rw[if_pos (by simp only[List.length_cons];omega)];rfl
 rw[cB];simp only[Option.bind_some,List.getElem?_cons_zero,List.headD_cons,Bd];by_cases hc:icP a;rw[Ac hc,Ac hc];rw[Ab hc,Ab hc,Ac trivial,Ac rfl]
def agZ{s:Sc}{n:Nd}{ds:List Dg}(he:Rf n)(h:Fv n<=2000):HI s n ds=some (FH s n ds) :=
 Ih (Fv n) λq hq=>ags q s n ds he hq h
end Mo
end Go.Proofs.YtnijkdknnmgoeaaGreat
namespace Go.Proofs.YtnijkdknnmgoeaaGreat
open AI Go
namespace Mo
set_option maxRecDepth 100000
set_option maxHeartbeats 4000000
def fU(k:Int):List Nd->ByteArray->Option ByteArray
 | [],_=>none
 | a::l,x=>AM (a.kind=k/\a.name=x) (some a.unit) (fU k l x)
def fA:List Nd->Int->Option ByteArray
 | [],_=>none
 | a::l,z=>AM (a.kind=4/\a.n=z) (some a.name) (fA l z)
abbrev Sc3:Type:=Mm ByteArray ByteArray×Mm ByteArray ByteArray×Mm Int ByteArray
def S6(a:Nd)(x:Sc3):Sc3 :=
 AM (a.kind=2) (AM ((x.1.get a.name).isSome=true) x (x.1.set a.name a.unit,x.2.1,x.2.2))
   (AM (a.kind=3) (AM ((x.2.1.get a.name).isSome=true) x (x.1,x.2.1.set a.name a.unit,x.2.2))
     (AM (a.kind=4) (AM ((x.2.2.get a.n).isSome=true) x (x.1,x.2.1,x.2.2.set a.n a.name)) x))
def oT:List Nd->Sc3->Sc3
 | [],x=>x
 | a::l,x=>oT l (S6 a x)
def nP(n:Nd):Sc:=⟨(oT n.kids (Mm.nil,Mm.nil,Mm.nil)).1,(oT n.kids (Mm.nil,Mm.nil,Mm.nil)).2.1,(oT n.kids (Mm.nil,Mm.nil,Mm.nil)).2.2⟩
def rM:∀(l:List Nd) (i:Nat) (x:Sc3),Au (λi y x=>Gs i y x.1 x.2.1 x.2.2) (λx=>(x.1,x.2.1,x.2.2)) l i x=(some (.inl (oT l x)):Option (Sc3⊕Sc))
 | [],_,_=>rfl
 | a::l,i,x=>by
   rw[Au,Gs,oT];have e:∀x',(some (Lp.nx x'):Option (Lp Sc3 Sc3 Sc)).bind (LW (Au (λi y x=>Gs i y x.1 x.2.1 x.2.2) (λx=>(x.1,x.2.1,x.2.2)) l (i+1)))=some (.inl (oT l x')):=λx'=>rM l (i+1) x';simp only[BB,Bd,vZ,EC];unfold S6;by_cases k2:a.kind=2;rw[Ac k2,Ac k2];by_cases h:(x.1.get a.name).isSome=true;rw[Ac h,Ac h];exact e _;rw[Ab h,Ab h];exact e _;rw[Ab k2,Ab k2];by_cases k3:a.kind=3;rw[Ac k3,Ac k3];by_cases h:(x.2.1.get a.name).isSome=true;rw[Ac h,Ac h];exact e _;rw[Ab h,Ab h];exact e _;rw[Ab k3,Ab k3];by_cases k4:a.kind=4;rw[Ac k4,Ac k4];by_cases h:(x.2.2.get a.n).isSome=true;rw[Ac h,Ac h];exact e _;rw[Ab h,Ab h];exact e _;rw[Ab k4,Ab k4];exact e _
def aiJ{n:Nd}(L8:Iu n):IL n=some (nP n):=by
 obtain⟨jA,Sl,Lo⟩:=KR L8;rw[IL,EV Sl,List.drop_zero,rM];rfl
def cL:∀(l:List Nd) (x:Sc3),(∀y,(oT l x).1.get y=(x.1.get y).or (fU 2 l y))/\(∀y,(oT l x).2.1.get y=(x.2.1.get y).or (fU 3 l y))/\∀z,(oT l x).2.2.get z=(x.2.2.get z).or (fA l z)
 | [],x=>⟨λy=>by simp[oT,fU],λy=>by simp[oT,fU],λz=>by simp[oT,fA]⟩
 | a::l,x=>by
   obtain⟨h1,h2,h3⟩:=cL l (S6 a x)
   have s1:∀y,(S6 a x).1.get y=(x.1.get y).or (AM (a.kind=2/\a.name=y) (some a.unit) none):=by
     intro y;unfold S6;by_cases k2:a.kind=2;rw[Ac k2];by_cases h:(x.1.get a.name).isSome=true;rw[Ac h];by_cases e:a.name=y;subst e;obtain⟨v,hv⟩:=Option.isSome_iff_exists.1 h;rw[hv];rfl;rw[Ab (show ¬(a.kind=2/\a.name=y) from λq=>e q.2)];simp;rw[Ab h];show(x.1.set a.name a.unit).get y=_;rw[Mm.Ew];by_cases e:y=a.name;subst e;rw[if_pos rfl,Ac ⟨k2,rfl⟩];have:x.1.get a.name=none:=by simpa using h
     rw[this];rfl;rw[if_neg e,Ab (show ¬(a.kind=2/\a.name=y) from λq=>e q.2.symm)];simp;rw[Ab k2,Ab (show ¬(a.kind=2/\a.name=y) from λq=>k2 q.1)];by_cases k3:a.kind=3;rw[Ac k3];by_cases h:(x.2.1.get a.name).isSome=true;rw[Ac h];simp;rw[Ab h];simp;rw[Ab k3];by_cases k4:a.kind=4;rw[Ac k4];by_cases h:(x.2.2.get a.n).isSome=true;rw[Ac h];simp;rw[Ab h];simp;rw[Ab k4];simp
   have s2:∀y,(S6 a x).2.1.get y=(x.2.1.get y).or (AM (a.kind=3/\a.name=y) (some a.unit) none):=by
     intro y;unfold S6;by_cases k2:a.kind=2;rw[Ac k2,Ab (show ¬(a.kind=3/\a.name=y) from λq=>by omega)];by_cases h:(x.1.get a.name).isSome=true;rw[Ac h];simp;rw[Ab h];simp;rw[Ab k2];by_cases k3:a.kind=3;rw[Ac k3];by_cases h:(x.2.1.get a.name).isSome=true;rw[Ac h];by_cases e:a.name=y;subst e;obtain⟨v,hv⟩:=Option.isSome_iff_exists.1 h;rw[hv];rfl;rw[Ab (show ¬(a.kind=3/\a.name=y) from λq=>e q.2)];simp;rw[Ab h];show(x.2.1.set a.name a.unit).get y=_;rw[Mm.Ew];by_cases e:y=a.name;subst e;rw[if_pos rfl,Ac ⟨k3,rfl⟩];have:x.2.1.get a.name=none:=by simpa using h
     rw[this];rfl;rw[if_neg e,Ab (show ¬(a.kind=3/\a.name=y) from λq=>e q.2.symm)];simp;rw[Ab k3,Ab (show ¬(a.kind=3/\a.name=y) from λq=>k3 q.1)];by_cases k4:a.kind=4;rw[Ac k4];by_cases h:(x.2.2.get a.n).isSome=true;rw[Ac h];simp;rw[Ab h];simp;rw[Ab k4];simp
   have s3:∀z,(S6 a x).2.2.get z=(x.2.2.get z).or (AM (a.kind=4/\a.n=z) (some a.name) none):=by
     intro z;unfold S6;by_cases k2:a.kind=2;rw[Ac k2,Ab (show ¬(a.kind=4/\a.n=z) from λq=>by omega)];by_cases h:(x.1.get a.name).isSome=true;rw[Ac h];simp;rw[Ab h];simp;rw[Ab k2];by_cases k3:a.kind=3;rw[Ac k3,Ab (show ¬(a.kind=4/\a.n=z) from λq=>by omega)];by_cases h:(x.2.1.get a.name).isSome=true;rw[Ac h];simp;rw[Ab h];simp;rw[Ab k3];by_cases k4:a.kind=4;rw[Ac k4];by_cases h:(x.2.2.get a.n).isSome=true;rw[Ac h];by_cases e:a.n=z;subst e;obtain⟨v,hv⟩:=Option.isSome_iff_exists.1 h;rw[hv];rfl;rw[Ab (show ¬(a.kind=4/\a.n=z) from λq=>e q.2)];simp;rw[Ab h];show(x.2.2.set a.n a.name).get z=_;rw[Mm.Ew];by_cases e:z=a.n;subst e;rw[if_pos rfl,Ac ⟨k4,rfl⟩];have:x.2.2.get a.n=none:=by simpa using h
     rw[this];rfl;rw[if_neg e,Ab (show ¬(a.kind=4/\a.n=z) from λq=>e q.2.symm)];simp;rw[Ab k4,Ab (show ¬(a.kind=4/\a.n=z) from λq=>k4 q.1)];simp
   have adw:∀{p:Prop} {u:ByteArray} {o f:Option ByteArray},(o.or (AM p (some u) none)).or f=o.or (AM p (some u) f):=by
     intro p u o f;by_cases h:p;rw[Ac h,Ac h];cases o<;>rfl
     rw[Ab h,Ab h];cases o<;>rfl
   refine⟨λy=>?_,λy=>?_,λz=>?_⟩;rw[oT,h1,s1,fU,adw];rw[oT,h2,s2,fU,adw];rw[oT,h3,s3,fA,adw]
def aex(n:Nd)(x:ByteArray):(nP n).facts.get x=fU 2 n.kids x:=by
 have:=(cL n.kids (Mm.nil,Mm.nil,Mm.nil)).1 x;exact this.trans (by rw[Mm.get_nil];rfl)
def dQ(n:Nd)(x:ByteArray):(nP n).lines.get x=fU 3 n.kids x:=by
 have:=(cL n.kids (Mm.nil,Mm.nil,Mm.nil)).2.1 x;exact this.trans (by rw[Mm.get_nil];rfl)
def m3(n:Nd)(z:Int):(nP n).Ao.get z=fA n.kids z:=by
 have:=(cL n.kids (Mm.nil,Mm.nil,Mm.nil)).2.2 z;exact this.trans (by rw[Mm.get_nil];rfl)
def aaa:∀(q:Nat) (n:Nd) (l:Int),Iu n->Fv n<=q->∃y,Et q n l=some y:=by
 intro q
 induction q with
 | zero=>intro n _ _ h;have:=CN n;omega
 | succ q ih =>
   intro n l L8 hq;obtain⟨jA,Sl,Lo⟩:=KR L8;have Q5:=CN n;rw[Et,LN];cases Iy l 0 with
   | true=>exact⟨_,rfl⟩
   | false =>
     rw[cond_false,EV Sl,List.drop_zero]
     have key:∀(m:List Nd),(∀k∈m,k∈n.kids)->∀(i:Nat) (x:Int),∃y,(Au (ρ:=Int) (λi y x=>I7 (Et q) l i y x) (λx=>x) m i x)=some y:=by
       intro m
       induction m with
       | nil=>intro _ i x;exact⟨_,rfl⟩
       | cons a m ihm =>
         intro hm i x;rw[Au,I7];cases C3 x l with
         | false=>exact⟨_,rfl⟩
         | true =>
           obtain⟨y,hy⟩:=ih a (XG l x) (Lo a (hm a (by simp))) (by have:=FZ (hm a (by simp));omega);rw[cond_true,hy];exact ihm (λk hk=>hm k (by simp[hk])) _ _
     obtain⟨y,hy⟩:=key n.kids (λ_ h=>h) 0 1;rw[hy];cases y<;>exact⟨_,rfl⟩
end Mo
end Go.Proofs.YtnijkdknnmgoeaaGreat
namespace Go.Proofs.YtnijkdknnmgoeaaGreat
open AI Go
namespace Mo
set_option maxRecDepth 100000
set_option maxHeartbeats 4000000
def ntI(s:List Dc×Mm ByteArray Int×List Dc×Mm ByteArray Int):Prop:=(∀x i,s.2.1.get x=some i->0<=i/\i < ((s.1.length:Nat):Int))/\(∀x i,s.2.2.2.get x=some i->0<=i/\i < ((s.2.2.1.length:Nat):Int))
def aqJ{s:List Dc×Mm ByteArray Int×List Dc×Mm ByteArray Int}(h:ntI s)(e:Nd):ntI (YW s e):=by
 obtain⟨h1,h2⟩:=h;unfold YW;by_cases k2:e.kind=2;rw[Ac k2];refine⟨λx i hx=>?_,h2⟩;simp only[List.length_append,List.length_singleton] at hx ⊢;rw[Mm.Ew] at hx;split at hx;cases hx;omega;have:=h1 x i hx;omega;rw[Ab k2];by_cases k3:e.kind=3;rw[Ac k3];refine⟨h1,λx i hx=>?_⟩;simp only[List.length_append,List.length_singleton] at hx ⊢;rw[Mm.Ew] at hx;split at hx;cases hx;omega;have:=h2 x i hx;omega;rw[Ab k3];exact⟨h1,h2⟩
def akk{s:List Dc×Mm ByteArray Int×List Dc×Mm ByteArray Int}{e:Nd}{x:ByteArray}(h:s.2.1.get x≠none\/(e.kind=2/\e.name=x)):(YW s e).2.1.get x≠none:=by
 unfold YW;by_cases k2:e.kind=2;rw[Ac k2];simp only;rw[Mm.Ew];split;simp;rename_i hx;rcases h with h | h
 exact h;exact absurd h.2.symm hx;rw[Ab k2];rcases h with h | h
 by_cases k3:e.kind=3;rw[Ac k3];exact h;rw[Ab k3];exact h;exact absurd h.1 k2
def aj6{s:List Dc×Mm ByteArray Int×List Dc×Mm ByteArray Int}{e:Nd}{x:ByteArray}(h:s.2.2.2.get x≠none\/(e.kind=3/\e.name=x)):(YW s e).2.2.2.get x≠none:=by
 unfold YW;by_cases k2:e.kind=2;rw[Ac k2];rcases h with h | h
 exact h;omega;rw[Ab k2];by_cases k3:e.kind=3;rw[Ac k3];simp only;rw[Mm.Ew];split;simp;rename_i hx;rcases h with h | h
 exact h;exact absurd h.2.symm hx;rw[Ab k3];rcases h with h | h
 exact h;exact absurd h.1 k3
def pH{k:Int}{a:Nd}{l:List Nd}{x:ByteArray}(h:fU k (a::l) x≠none):(a.kind=k/\a.name=x)\/fU k l x≠none:=by
 rw[fU] at h;by_cases c:a.kind=k/\a.name=x;exact .inl c;rw[Ab c] at h;exact .inr h
def Yd:∀(l:List Nd) (s:List Dc×Mm ByteArray Int×List Dc×Mm ByteArray Int),ntI s->ntI (l.foldl YW s)/\(∀x,s.2.1.get x≠none\/fU 2 l x≠none->(l.foldl YW s).2.1.get x≠none)/\(∀x,s.2.2.2.get x≠none\/fU 3 l x≠none->(l.foldl YW s).2.2.2.get x≠none)
 | [],s,h=>⟨h,λx hx=>hx.elim id λh=>absurd (by rw[fU]) h,λx hx=>hx.elim id λh=>absurd (by rw[fU]) h⟩
 | a::l,s,h=>by
   rw[List.foldl_cons];obtain⟨h1,h2,h3⟩:=Yd l (YW s a) (aqJ h a);refine⟨h1,λx hx=>?_,λx hx=>?_⟩;rcases hx with hx | hx
   exact h2 x (.inl (akk (.inl hx)));rcases pH hx with hx | hx
   exact h2 x (.inl (akk (.inr hx)));exact h2 x (.inr hx);rcases hx with hx | hx
   exact h3 x (.inl (aj6 (.inl hx)));rcases pH hx with hx | hx
   exact h3 x (.inl (aj6 (.inr hx)));exact h3 x (.inr hx)
def cG:ntI ([],Mm.nil,[],Mm.nil):=⟨λx i h=>by simp[Mm.get_nil] at h,λx i h=>by simp[Mm.get_nil] at h⟩
def L6{α:Type}{l:List α}{z:Int}(h0:0<=z)(h1:z < ((l.length:Nat):Int)):(Cn l z).isSome=true:=by
 unfold Cn;rw[if_pos h0,List.getElem?_eq_getElem (by omega)];rfl
def ag4{l:List Nd}{x:ByteArray}(h:fU 2 l x≠none):(Cn (Hi l).Ae.facts (((Hi l).facts.get x).getD 0)).isSome=true:=by
 obtain⟨h1,h2,_⟩:=Yd l ([],Mm.nil,[],Mm.nil) cG;show(Cn (HX l).1 (((HX l).2.1.get x).getD 0)).isSome=true;have h2:(HX l).2.1.get x≠none:=h2 x (.inr h);cases hg:(HX l).2.1.get x with
 | none=>exact absurd hg h2
 | some i =>
   have:=h1.1 x i hg;exact L6 this.1 this.2
def agD{l:List Nd}{x:ByteArray}(h:fU 3 l x≠none):∃i,(HX l).2.2.2.get x=some i/\(Cn (Hi l).Ae.lines i).isSome=true:=by
 obtain⟨h1,_,h3⟩:=Yd l ([],Mm.nil,[],Mm.nil) cG;have h3:(HX l).2.2.2.get x≠none:=h3 x (.inr h);cases hg:(HX l).2.2.2.get x with
 | none=>exact absurd hg h3
 | some i =>
   have:=h1.2 x i hg;exact⟨i,rfl,L6 this.1 this.2⟩
def oK{lm:Mm ByteArray Int}{z:Int}{w:ByteArray}:∀(l:List Nd) (m:Mm Int Int),(∀a∈l,a.kind=4->a.n=z->a.name=w)->((m.get z=some ((lm.get w).getD 0))\/fA l z≠none)->(l.foldl (na1 lm) m).get z=some ((lm.get w).getD 0)
 | [],m,_,h=>h.elim id λh=>absurd (by rw[fA]) h
 | a::l,m,hw,h=>by
   rw[List.foldl_cons];refine oK l _ (λb hb=>hw b (by simp[hb])) ?_;unfold na1;by_cases k4:a.kind=4;rw[Ac k4,Mm.Ew];by_cases hz:z=a.n;rw[if_pos hz,hw a (by simp) k4 hz.symm];exact .inl rfl;rw[if_neg hz];rcases h with h | h
   exact .inl h;rw[fA,Ab (λq=>hz q.2.symm)] at h;exact .inr h;rw[Ab k4];rcases h with h | h
   exact .inl h;rw[fA,Ab (λq=>k4 q.1)] at h;exact .inr h
def ak6{l:List Nd}{z:Int}{w:ByteArray}(hw:∀a∈l,a.kind=4->a.n=z->a.name=w)(hz:fA l z≠none)(h:fU 3 l w≠none):(Cn (Hi l).Ae.lines (((Hi l).Ao.get z).getD 0)).isSome=true:=by
 obtain⟨i,h1,h2⟩:=agD h;have:=oK (lm:=(HX l).2.2.2) l Mm.nil hw (.inr hz);show(Cn (HX l).2.2.1 (((naP (HX l).2.2.2 l).get z).getD 0)).isSome=true;unfold naP;rw[this,h1];exact h2
end Mo
end Go.Proofs.YtnijkdknnmgoeaaGreat
namespace Go.Proofs.YtnijkdknnmgoeaaGreat
open AI Go
namespace Mo
set_option maxRecDepth 100000
set_option maxHeartbeats 4000000
def cap(ds r:List Dg):List Dg:=(ds++r).take 20
def F7(ds a b:List Dg):cap (cap ds a) b=cap ds (a++b):=by
 unfold cap;rw[<- List.append_assoc];generalize ds++a=l;rw[List.take_append,List.take_append,List.take_take,Nat.min_self,List.length_take];by_cases h:l.length<=20;rw[Nat.min_eq_right h];rw[Nat.min_eq_left (by omega),show 20 - 20=0 by omega,show 20 - l.length=0 by omega]
def F9{ds:List Dg}(h:ds.length<=20):cap ds []=ds:=by
 unfold cap;rw[List.append_nil,List.take_of_length_le h]
def E6(ds r:List Dg):(cap ds r).length<=20:=by unfold cap;rw[List.length_take];omega
def W2{ds:List Dg}(h:ds.length<=20)(e at_:Int):Vj e at_ ds=cap ds [⟨e,at_⟩]:=by
 unfold Vj cap;by_cases h2:ds.length < 20;rw[if_pos h2,List.take_of_length_le (by simp;omega)];rw[if_neg h2,List.take_append,List.take_of_length_le h,show 20 - ds.length=0 by omega];simp
def ME(F:ByteArray->ByteArray)(A:Int->ByteArray)(n:Nd)(us:List ByteArray):ByteArray :=
 AM (n.kind=11) n.unit (AM (n.kind=12) (F n.name) (AM (n.kind=13) (A n.n) (AM (n.kind=14) AF
   (AM (n.kind=15) (OR Mp us) (AM (n.kind=16) (OR n.name us) (AM (n.kind=17) (OR QV us) (AM (n.kind=18) (AM (icP (us.headD eS)) (us.headD eS) eS) eS)))))))
def abF(F:ByteArray->ByteArray)(A:Int->ByteArray)(n:Nd)(r:List ByteArray×List Dg):ByteArray×List Dg :=
 AM (∀u∈r.1,u≠eS) (AM (ME F A n r.1=eS) (ME F A n r.1,r.2++[⟨aD n,n.Ct⟩]) (ME F A n r.1,r.2)) (eS,r.2)
mutual
def Z1(F:ByteArray->ByteArray)(A:Int->ByteArray):Nd->ByteArray×List Dg
 | ⟨kind,name,unit,n,fr,to,known,BX,kids,Ct⟩=>abF F A ⟨kind,name,unit,n,fr,to,known,BX,kids,Ct⟩ (RI F A kids)
def RI(F:ByteArray->ByteArray)(A:Int->ByteArray):List Nd->List ByteArray×List Dg
 | []=>([],[])
 | k::ks=>((Z1 F A k).1::(RI F A ks).1,(Z1 F A k).2++(RI F A ks).2)
end
def yX(F:ByteArray->ByteArray)(A:Int->ByteArray)(n:Nd):Z1 F A n=abF F A n (RI F A n.kids):=by cases n;rw[Z1]
def dZ(F:ByteArray->ByteArray)(A:Int->ByteArray):∀l:List Nd,RI F A l=(l.map λk=>(Z1 F A k).1,l.flatMap λk=>(Z1 F A k).2)
 | []=>by rw[RI];rfl
 | k::l=>by rw[RI,dZ F A l];rfl
def FS(s:Sc)(x:ByteArray):ByteArray:=(s.facts.get x).getD eS
def vD(s:Sc)(z:Int):ByteArray:=(s.lines.get ((s.Ao.get z).getD eS)).getD eS
def UE{s:Sc}:∀{l:List Nd},(∀k∈l,∀ds:List Dg,ds.length<=20->FH s k ds=((Z1 (FS s) (vD s) k).1,cap ds (Z1 (FS s) (vD s) k).2))->∀ds:List Dg,ds.length<=20->Gt s l ds=((RI (FS s) (vD s) l).1,cap ds (RI (FS s) (vD s) l).2)
 | [],_,ds,h=>by rw[Gt,RI,F9 h]
 | a::l,hk,ds,h=>by
   rw[Gt,RI,hk a (by simp) ds h];dsimp only;rw[UE (λk h'=>hk k (by simp[h'])) _ (E6 _ _),F7]
def tE(s:Sc):∀(m:Nat) (n:Nd),Fv n<=m->∀ds:List Dg,ds.length<=20->FH s n ds=((Z1 (FS s) (vD s) n).1,cap ds (Z1 (FS s) (vD s) n).2):=by
 intro m
 induction m with
 | zero=>intro n h;have:=CN n;omega
 | succ m ih =>
   intro n hn ds hd;have Q5:=CN n;rw[kB,yX,UE (λk hk=>ih k (by have:=FZ hk;omega)) ds hd];unfold ah1 abF;show AM _ (AM (ME (FS s) (vD s) n _=eS) (ME (FS s) (vD s) n _,_) (ME (FS s) (vD s) n _,_)) _=_;by_cases hu:∀u∈(RI (FS s) (vD s) n.kids).1,u≠eS;rw[Ac hu,Ac hu];by_cases hU:ME (FS s) (vD s) n (RI (FS s) (vD s) n.kids).1=eS;rw[Ac hU,Ac hU];dsimp only;rw[W2 (E6 _ _),F7];rw[Ab hU,Ab hU];rw[Ab hu,Ab hu]
def ab9(s:Sc)(n:Nd){ds:List Dg}(h:ds.length<=20):FH s n ds=((Z1 (FS s) (vD s) n).1,cap ds (Z1 (FS s) (vD s) n).2):=tE s (Fv n) n (Nat.le_refl _) ds h
def fact(src:Nd)(x:ByteArray):ByteArray:=(fU 2 src.kids x).getD eS
def line(src:Nd)(x:ByteArray):ByteArray:=(fU 3 src.kids x).getD eS
def art(src:Nd)(z:Int):ByteArray:=line src ((fA src.kids z).getD eS)
def alN(src:Nd):FS (nP src)=fact src:=funext λx=>by unfold FS fact;rw[aex]
def amw(src:Nd):vD (nP src)=art src:=funext λz=>by unfold vD art line;rw[dQ,m3]
def Od(src n:Nd):ByteArray×List Dg:=Z1 (fact src) (art src) n
def abO(src n:Nd){ds:List Dg}(h:ds.length<=20):FH (nP src) n ds=((Od src n).1,cap ds (Od src n).2):=by
 rw[ab9 _ _ h,alN,amw];rfl
def N6(before:List Nd)(a:Nd):List Dg :=
 AM (a.kind=2\/a.kind=3) (AM (∃b∈before,b.kind=a.kind/\b.name=a.name) [⟨5,a.Ct⟩] (AM (32<=BV a.kind before) [⟨2,a.Ct⟩] (AM (a.kind=3/\(a.unit=Ak\/(a.n≠4/\¬icP a.unit))) [⟨11,a.Ct⟩] []))) []
def JZ:List Nd->List Nd->List Dg
 | _,[]=>[]
 | b,a::l=>N6 b a++JZ (b++[a]) l
def Lr(src:Nd)(c:Nat)(a:Nd):List Dg :=
 AM (60<=c) [⟨2,a.Ct⟩] (AM (fU 3 src.kids a.name=none) [⟨91,a.Ct⟩] (AM ((fA src.kids a.n).getD eS≠a.name) [⟨101,a.Ct⟩] []))
def Kk(src a k:Nd):List Dg:=AM (k.n=a.n) [⟨101,k.Ct⟩] (AM (fA src.kids k.n=none) [⟨91,k.Ct⟩] [])
def iJ(src:Nd)(w:ByteArray)(k:Nd):List Dg:=(Od src k).2++AM ((Od src k).1≠eS/\w≠eS/\(Od src k).1≠w) [⟨11,k.Ct⟩] []
def K2(src a x:Nd):List Dg :=
 AM (x.kind=7) (x.kids.flatMap (Kk src a)) (x.kids.flatMap (iJ src (AM (x.kind=6) Ak (line src a.name))))
def acC(src:Nd)(c:Nat)(a:Nd):List Dg:=AM (a.kind=4) (Lr src c a++a.kids.tail.flatMap (K2 src a)) []
def TP(src:Nd):Nat->List Nd->List Dg
 | _,[]=>[]
 | c,a::l=>acC src c a++TP src (c+BV 4 [a]) l
def WM(src:Nd):List Dg:=JZ [] src.kids++TP src 0 src.kids
def JY(src:Nd):List Dg:=AM (src.kind=1/\cO src) (cap [] (WM src)) [⟨1,0⟩]
def afV{n:Nd}(h:cO n)(hk:n.kind=1):FU n z0/\(∀k∈n.kids,Je k)/\Fv n<=2000/\Ui n<=40:=by
 obtain⟨a | a,b⟩:=h;exact⟨a.2.1,a.2.2,b⟩;exact absurd hk a.1
end Mo
end Go.Proofs.YtnijkdknnmgoeaaGreat

namespace Go.Proofs.YtnijkdknnmgoeaaGreat
open AI Go
namespace Mo
set_option maxRecDepth 100000
set_option maxHeartbeats 4000000
def UN(k:Int)(l m:List Nd):BV k (l++m)=BV k l+BV k m:=by
 induction l with
 | nil=>simp[BV]
 | cons a l ih=>simp only[List.cons_append,BV,ih];omega
def Xl{ds:List Dg}(h:ds.length<=20)(e at_:Int):AH e at_ ds=some ((),cap ds [⟨e,at_⟩]):=by rw[qY,W2 h]
structure qG(b:List Nd)(w5:Mm ByteArray Bool)(w2:Mm Int Int)(w4:Mm ByteArray Bool):Prop where
 lines:∀x,((w5.get x).getD false=true)↔∃a∈b,a.kind=3/\a.name=x
 facts:∀x,((w4.get x).getD false=true)↔∃a∈b,a.kind=2/\a.name=x
 JS:∀k,k=2\/k=3->(w2.get k).getD 0=((BV k b:Nat):Int)
def af3:qG [] Mm.nil Mm.nil Mm.nil:=⟨λx=>by simp[Mm.get_nil],λx=>by simp[Mm.get_nil],λk _=>by simp[Mm.get_nil,BV]⟩
def acK{b:List Nd}{w5:Mm ByteArray Bool}{w2:Mm Int Int}{w4:Mm ByteArray Bool}(h:qG b w5 w2 w4){a:Nd}(ha:a.kind=4):qG (b++[a]) w5 w2 w4:=by
 refine⟨λx=>(h.lines x).trans ?_,λx=>(h.facts x).trans ?_,λk hk=>(h.JS k hk).trans ?_⟩;simp only[List.mem_append,List.mem_singleton];constructor;rintro⟨c,hc,e⟩;exact⟨c,.inl hc,e⟩;rintro⟨c,hc | rfl,e⟩;exact⟨c,hc,e⟩;omega;simp only[List.mem_append,List.mem_singleton];constructor;rintro⟨c,hc,e⟩;exact⟨c,.inl hc,e⟩;rintro⟨c,hc | rfl,e⟩;exact⟨c,hc,e⟩;omega;rw[UN];simp only[BV];rw[if_neg (by omega)];simp
def ab5{b:List Nd}{w5:Mm ByteArray Bool}{w2:Mm Int Int}{w4:Mm ByteArray Bool}(h:qG b w5 w2 w4){a:Nd}(ha:a.kind=3)(hb:b.length < 9223372036854775807):qG (b++[a]) (w5.set a.name true) (w2.set a.kind (CE ((w2.get a.kind).getD 0) 1)) w4:=by
 have hc:=Mf 3 b;refine⟨λx=>?_,λx=>(h.facts x).trans ?_,λk hk=>?_⟩;rw[Mm.Ew];simp only[List.mem_append,List.mem_singleton];by_cases e:x=a.name;rw[if_pos e];exact⟨λ_=>⟨a,.inr rfl,ha,e.symm⟩,λ_=>rfl⟩;rw[if_neg e,h.lines x];constructor;rintro⟨c,hc,q⟩;exact⟨c,.inl hc,q⟩;rintro⟨c,hc | rfl,q⟩;exact⟨c,hc,q⟩;exact absurd q.2.symm e;simp only[List.mem_append,List.mem_singleton];constructor;rintro⟨c,hc,e⟩;exact⟨c,.inl hc,e⟩;rintro⟨c,hc | rfl,e⟩;exact⟨c,hc,e⟩;omega;rw[Mm.Ew,ha,UN];simp only[BV,ha];rcases hk with rfl | rfl
 rw[if_neg (by decide),h.JS 2 (.inl rfl),if_neg (by decide)];simp;rw[if_pos rfl,h.JS 3 (.inr rfl),if_pos rfl];simp only[Option.getD_some];rw[Dl (by omega)];omega
def acs{b:List Nd}{w5:Mm ByteArray Bool}{w2:Mm Int Int}{w4:Mm ByteArray Bool}(h:qG b w5 w2 w4){a:Nd}(ha:a.kind=2)(hb:b.length < 9223372036854775807):qG (b++[a]) w5 (w2.set a.kind (CE ((w2.get a.kind).getD 0) 1)) (w4.set a.name true):=by
 have hc:=Mf 2 b;refine⟨λx=>(h.lines x).trans ?_,λx=>?_,λk hk=>?_⟩;simp only[List.mem_append,List.mem_singleton];constructor;rintro⟨c,hc,e⟩;exact⟨c,.inl hc,e⟩;rintro⟨c,hc | rfl,e⟩;exact⟨c,hc,e⟩;omega;rw[Mm.Ew];simp only[List.mem_append,List.mem_singleton];by_cases e:x=a.name;rw[if_pos e];exact⟨λ_=>⟨a,.inr rfl,ha,e.symm⟩,λ_=>rfl⟩;rw[if_neg e,h.facts x];constructor;rintro⟨c,hc,q⟩;exact⟨c,.inl hc,q⟩;rintro⟨c,hc | rfl,q⟩;exact⟨c,hc,q⟩;exact absurd q.2.symm e;rw[Mm.Ew,ha,UN];simp only[BV,ha];rcases hk with rfl | rfl
 rw[if_pos rfl,h.JS 2 (.inl rfl),if_pos rfl];simp only[Option.getD_some];rw[Dl (by omega)];omega;rw[if_neg (by decide),h.JS 3 (.inr rfl),if_neg (by decide)];simp
def c6:∀{l b:List Nd} {i:Nat} {w5:Mm ByteArray Bool} {w2:Mm Int Int} {w4:Mm ByteArray Bool} {ds:List Dg},qG b w5 w2 w4->(∀a∈l,a.kind=2\/a.kind=3\/a.kind=4)->b.length+l.length<=9223372036854775807->ds.length<=20 ->
   ∃x5 x2 x4,Au (λi y x=>CQ i y x.1 x.2.1 x.2.2.1 x.2.2.2) (λx=>(x.1,x.2.1,x.2.2.1,x.2.2.2)) l i (w5,w2,ds,w4)=(some (.inl (x5,x2,cap ds (JZ b l),x4)):Option ((Mm ByteArray Bool×Mm Int Int×List Dg×Mm ByteArray Bool)⊕(Unit×List Dg)))
 | [],b,i,w5,w2,w4,ds,_,_,_,hd=>⟨w5,w2,w4,by rw[JZ,F9 hd];rfl⟩
 | a::l,b,i,w5,w2,w4,ds,hI,hk,hl,hd=>by
   simp only[List.length_cons] at hl
   have next:∀{x5:Mm ByteArray Bool} {x2:Mm Int Int} {x4:Mm ByteArray Bool} {d2:List Dg},qG (b++[a]) x5 x2 x4->d2=cap ds (N6 b a) ->
       ∃y5 y2 y4,(some (Lp.nx (x5,x2,d2,x4))).bind (LW (Au (λi y x=>CQ i y x.1 x.2.1 x.2.2.1 x.2.2.2) (λx=>(x.1,x.2.1,x.2.2.1,x.2.2.2)) l (i+1)))=(some (.inl (y5,y2,cap ds (JZ b (a::l)),y4)):Option ((Mm ByteArray Bool×Mm Int Int×List Dg×Mm ByteArray Bool)⊕(Unit×List Dg))):=by
     rintro x5 x2 x4 d2 h rfl;obtain⟨y5,y2,y4,e⟩:=c6 (l:=l) (b:=b++[a]) (i:=i+1) (w5:=x5) (w2:=x2) (w4:=x4) (ds:=cap ds (N6 b a)) h (λk hk'=>hk k (by simp[hk'])) (by simp;omega) (E6 _ _);exact⟨y5,y2,y4,by rw[JZ,<- F7];exact e⟩
   rw[Au,CQ];simp only[BB,CC,B5,pF,Xl hd,Option.bind_some,vZ,EC];rcases hk a (by simp) with k2 | k3 | k4
   . rw[Ab (by omega),Ab (by omega),Ac k2]
     have hI':=acs hI k2 (by omega)
     have ed:∀{x y:List Dg},N6 b a=AM (∃c∈b,c.kind=2/\c.name=a.name) [⟨5,a.Ct⟩] (AM (32<=BV 2 b) [⟨2,a.Ct⟩] []):=by
       intro _ _;unfold N6;rw[Ac (.inl k2),k2];congr 2;exact Ab λq=>by omega
     by_cases h5:((w4.get a.name).getD false=true)
     . rw[Ac h5]
       refine next hI' ?_
       rw[ed (x:=[]) (y:=[]),Ac ((hI.facts _).1 h5)]
     . rw[Ab h5]
       have hn:=λq=>h5 ((hI.facts _).2 q);rw[Mm.Ew,if_pos rfl,k2,hI.JS 2 (.inl rfl)];simp only[Option.getD_some];have hc:=Mf 2 b;rw[Dl (by omega)];by_cases h32:32<=BV 2 b
       . rw[Ac (by omega)]
         rw[k2,hI.JS 2 (.inl rfl),Dl (by omega)] at hI';refine next hI' ?_
         rw[ed (x:=[]) (y:=[]),Ab hn,Ac h32]
       . rw[Ab (by omega)]
         rw[k2,hI.JS 2 (.inl rfl),Dl (by omega)] at hI';refine next hI' ?_
         rw[ed (x:=[]) (y:=[]),Ab hn,Ab h32,F9 hd]
   . rw[Ab (by omega),Ac k3]
     have hI':=ab5 hI k3 (by omega)
     have ed:∀{x y:List Dg},N6 b a=AM (∃c∈b,c.kind=3/\c.name=a.name) [⟨5,a.Ct⟩] (AM (32<=BV 3 b) [⟨2,a.Ct⟩] (AM (a.unit=Ak\/(a.n≠4/\¬icP a.unit)) [⟨11,a.Ct⟩] [])):=by
       intro _ _;unfold N6;rw[Ac (.inr k3),k3];simp only[true_and]
     by_cases h5:((w5.get a.name).getD false=true)
     . rw[Ac h5]
       refine next hI' ?_
       rw[ed (x:=[]) (y:=[]),Ac ((hI.lines _).1 h5)]
     . rw[Ab h5]
       have hn:=λq=>h5 ((hI.lines _).2 q);rw[Mm.Ew,if_pos rfl,k3,hI.JS 3 (.inr rfl)];simp only[Option.getD_some];have hc:=Mf 3 b;rw[Dl (by omega)];rw[k3,hI.JS 3 (.inr rfl),Dl (by omega)] at hI';by_cases h32:32<=BV 3 b
       . rw[Ac (by omega)]
         refine next hI' ?_
         rw[ed (x:=[]) (y:=[]),Ab hn,Ac h32]
       . rw[Ab (by omega)]
         by_cases ht:a.unit=Ak
         . rw[Ac ht]
           refine next hI' ?_
           rw[ed (x:=[]) (y:=[]),Ab hn,Ab h32,Ac (.inl ht)]
         . rw[Ab ht]
           by_cases h4:a.n=4
           . rw[Ac h4]
             refine next hI' ?_
             rw[ed (x:=[]) (y:=[]),Ab hn,Ab h32,Ab (λq=>q.elim ht λr=>r.1 h4),F9 hd]
           . rw[Ab h4]
             by_cases hc2:icP a.unit
             . rw[Ac hc2]
               refine next hI' ?_
               rw[ed (x:=[]) (y:=[]),Ab hn,Ab h32,Ab (λq=>q.elim ht λr=>r.2 hc2),F9 hd]
             . rw[Ab hc2]
               refine next hI' ?_
               rw[ed (x:=[]) (y:=[]),Ab hn,Ab h32,Ac (.inr ⟨h4,hc2⟩)]
   . rw[Ac k4]
     refine next (acK hI k4) ?_
     have:N6 b a=[]:=by unfold N6;rw[Ab (by omega)]
     rw[this,F9 hd]
def cD{n:Nd}(L8:Iu n)(hk:∀a∈n.kids,a.kind=2\/a.kind=3\/a.kind=4):DL n []=some ((),cap [] (JZ [] n.kids)):=by
 obtain⟨jA,Sl,Lo⟩:=KR L8;obtain⟨x5,x2,x4,e⟩:=c6 (l:=n.kids) (b:=[]) (i:=0) (ds:=[]) af3 hk (by simp;omega) (by simp);rw[DL,EV Sl,List.drop_zero,e];rfl
def aI{src a:Nd}:∀{l:List Nd} {i:Nat} {ds:List Dg},ds.length<=20->Au (λi y x=>CO (nP src) a i y x) (λx=>x) l i ds=(some (.inl (cap ds (l.flatMap (Kk src a)))):Option (List Dg⊕(Unit×List Dg)))
 | [],i,ds,hd=>by rw[List.flatMap_nil,F9 hd];rfl
 | k::l,i,ds,hd=>by
   rw[Au,CO,List.flatMap_cons,<- F7];simp only[BB,Xl hd,Option.bind_some,vZ,EC,m3]
   have next:∀{d2:List Dg},d2=cap ds (Kk src a k)->(some (Lp.nx d2)).bind (LW (Au (λi y x=>CO (nP src) a i y x) (λx=>x) l (i+1)))=(some (.inl (cap (cap ds (Kk src a k)) (l.flatMap (Kk src a)))):Option (List Dg⊕(Unit×List Dg))):=by
     rintro _ rfl;exact aI (E6 _ _)
   unfold Kk;by_cases h:k.n=a.n
   . rw[Ac h]
     have:=next (d2:=cap ds [⟨101,k.Ct⟩]) (by unfold Kk;rw[Ac h])
     unfold Kk at this;rw[Ac h] at this ⊢;exact this
   . rw[Ab h]
     by_cases h2:(fA src.kids k.n).isSome=true
     . rw[Ac h2]
       have hn:¬fA src.kids k.n=none:=λe=>by rw[e] at h2;cases h2
       have:=next (d2:=ds) (by unfold Kk;rw[Ab h,Ab hn,F9 hd])
       unfold Kk at this;rw[Ab h] at this ⊢;exact this
     . rw[Ab h2]
       have hn:fA src.kids k.n=none:=by simpa using h2
       have:=next (d2:=cap ds [⟨91,k.Ct⟩]) (by unfold Kk;rw[Ab h,Ac hn])
       unfold Kk at this;rw[Ab h] at this ⊢;exact this
def afH{src a x:Nd}(L8:Iu x)(hc:CV x)(hs:Fv x<=2000)(h68:x.kind=6\/x.kind=7\/x.kind=8){ds:List Dg}(hd:ds.length<=20):Bz (nP src) a x ds=some ((),cap ds (K2 src a x)):=by
 obtain⟨jA,Sl,Lo⟩:=KR L8;rw[Bz];simp only[BB,B5,vZ,EC,dQ];unfold K2;by_cases k7:x.kind=7;rw[Ac k7,Ac k7,EV Sl,List.drop_zero,aI hd];rfl;rw[Ab k7,Ab k7];obtain⟨h1,h2⟩:=hc.2.2 k7;have Q5:=CN x;generalize x.kids=ks at *
 match ks,h1 with
 | [k],_ =>
 have hek:=h2 k (by simp);have hsk:Fv k<=2000:=by simp[JL] at Q5;omega
 simp only[List.getElem?_cons_zero,Option.bind_some,List.flatMap_cons,List.flatMap_nil,List.append_nil];rw[agZ hek hsk,abO src k hd];simp only[Option.bind_some];rw[Xl (E6 _ _)];simp only[Option.bind_some,F7]
 have key:∀w:ByteArray,AM ((Od src k).1=ByteArray.empty) (some ((),cap ds (Od src k).2)) (AM (w=ByteArray.empty) (some ((),cap ds (Od src k).2)) (AM ((Od src k).1=w) (some ((),cap ds (Od src k).2)) (some ((),cap ds ((Od src k).2++[⟨11,k.Ct⟩])))))=some ((),cap ds (iJ src w k)):=by
   intro w;unfold iJ;by_cases a1:(Od src k).1=eS;rw[Ac a1,Ab λq=>q.1 a1,List.append_nil];rw[Ab a1];by_cases a2:w=eS;rw[Ac a2,Ab λq=>q.2.1 a2,List.append_nil];rw[Ab a2];by_cases a3:(Od src k).1=w;rw[Ac a3,Ab λq=>q.2.2 a3,List.append_nil];rw[Ab a3,Ac ⟨a1,a2,a3⟩]
 by_cases k6:x.kind=6;rw[Ac k6,Ac k6];exact key Ak;rw[Ab k6,Ab k6];exact key (line src a.name)
def Yr{src a:Nd}{body:Nat->Nd->List Dg->Option (Lp (List Dg) (List Dg) (List Dg))}(hb:∀i y x,body i y x=(Bz (nP src) a y x).bind λ(_,b)=>some (.nx b)) :
   ∀{l:List Nd} {i:Nat} {ds:List Dg},(∀x∈l,Iu x/\CV x/\Fv x<=2000/\(x.kind=6\/x.kind=7\/x.kind=8))->ds.length<=20->Au body (λx=>x) l i ds=(some (.inl (cap ds (l.flatMap (K2 src a)))):Option (List Dg⊕List Dg))
 | [],i,ds,_,hd=>by rw[List.flatMap_nil,F9 hd];rfl
 | x::l,i,ds,h,hd=>by
   obtain⟨h1,h2,h3,h4⟩:=h x (by simp);rw[Au,hb,afH h1 h2 h3 h4 hd,List.flatMap_cons,<- F7];exact Yr hb (λy hy=>h y (by simp[hy])) (E6 _ _)
def Zo{src:Nd}:∀{l:List Nd} {i:Nat} {c:Nat} {ds:List Dg},(∀a∈l,Iu a/\Je a/\Fv a<=2000)->c+l.length<=9223372036854775807->ds.length<=20->∃z,Au (λi y x=>IS (nP src) i y x.1 x.2) (λx=>x.2) l i (((c:Nat):Int),ds)=(some (.inl z):Option (List Dg⊕List Dg))/\z=cap ds (TP src c l)
 | [],i,c,ds,_,_,hd=>⟨ds,rfl,by rw[TP,F9 hd]⟩
 | a::l,i,c,ds,h,hc,hd=>by
   simp only[List.length_cons] at hc;obtain⟨L8,hit,Q5⟩:=h a (by simp);obtain⟨jA,Sl,Lo⟩:=KR L8;rw[Au,IS,TP,<- F7];simp only[BB,CC,B5,vZ,EC,Xl hd,Option.bind_some,dQ,m3];unfold acC;by_cases k4:a.kind=4;rotate_left;rw[Ab k4,Ab k4,F9 hd];have e:c+BV 4 [a]=c:=by simp[BV,k4]
   rw[e];exact Zo (λy hy=>h y (by simp[hy])) (by omega) hd;rw[Ac k4,Ac k4];obtain⟨_,_,_,x,cs,QD,atg,_,_,_,Iv⟩:=(it4 k4).1 hit;have e:c+BV 4 [a]=c+1:=by simp[BV,k4]
   rw[e]
   have iV:∀y∈cs,Iu y/\CV y/\Fv y<=2000/\(y.kind=6\/y.kind=7\/y.kind=8):=by
     intro y hy;have hm:y∈a.kids:=by rw[QD];simp[hy]
     have:=atg y hy;exact⟨Lo y hm,Iv y hy,by have:=P7 hm;omega,by omega⟩
   have qF:Ot a.kids 1 ((a.kids.length:Nat):Int)=some cs:=by
     unfold Ot;rw[QD,if_pos (by simp only[List.length_cons];omega)];simp
   have asb:cs.length<=9223372036854775807:=by rw[QD] at Sl;simp at Sl;omega
   rw[qF];simp only[Option.bind_some,List.drop_zero,EV asb];rw[Dl (by omega)];have apN:a.kids.tail=cs:=by rw[QD];rfl
   rw[apN]
   have next:∀{body:Nat->Nd->List Dg->Option (Lp (List Dg) (List Dg) (List Dg))} {d0:List Dg},(∀i y x,body i y x=(Bz (nP src) a y x).bind λ(_,b)=>some (.nx b))->d0=cap ds (Lr src c a) ->
       ∃z,(((Au body (λx=>x) cs 0 d0).bind (Eu (λ(w:List Dg)=>some (Lp.nx (((c:Nat):Int)+1,w))) (λv=>some (.rt v)))).bind (LW (Au (λi y x=>IS (nP src) i y x.1 x.2) (λx=>x.2) l (i+1))))=(some (.inl z):Option (List Dg⊕List Dg))/\z=cap (cap ds (Lr src c a++cs.flatMap (K2 src a))) (TP src (c+1) l):=by
     rintro body _ hb rfl;rw[Yr hb iV (E6 _ _),F7];have ih:=Zo (src:=src) (l:=l) (i:=i+1) (c:=c+1) (ds:=cap ds (Lr src c a++cs.flatMap (K2 src a))) (λy hy=>h y (by simp[hy])) (by omega) (E6 _ _);rw[show(((c+1:Nat)):Int)=((c:Nat):Int)+1 by omega] at ih;exact ih
   unfold Lr;by_cases hl:(fU 3 src.kids a.name).isSome=true
   . have hn:¬fU 3 src.kids a.name=none:=λe=>by rw[e] at hl;cases hl
     rw[Ac hl];by_cases zJ:60<=c
     . rw[Ac (by omega),Ac zJ]
       have:=next (body:=λi y x=>MU (nP src) a i y x) (d0:=cap ds [⟨2,a.Ct⟩]) (λi y x=>rfl) (by unfold Lr;rw[Ac zJ])
       unfold Lr at this;rw[Ac zJ] at this;exact this
     . rw[Ab (by omega),Ab zJ,Ab hn]
       by_cases hA:(fA src.kids a.n).getD ByteArray.empty=a.name
       . rw[Ac hA]
         have:=next (body:=λi y x=>Nv (nP src) a i y x) (d0:=ds) (λi y x=>rfl) (by unfold Lr;rw[Ab zJ,Ab hn,Ab (λq=>q hA),F9 hd])
         unfold Lr at this;rw[Ab zJ,Ab hn] at this;exact this
       . rw[Ab hA]
         have:=next (body:=λi y x=>MJ (nP src) a i y x) (d0:=cap ds [⟨101,a.Ct⟩]) (λi y x=>rfl) (by unfold Lr;rw[Ab zJ,Ab hn,Ac hA])
         unfold Lr at this;rw[Ab zJ,Ab hn] at this;exact this
   . have hn:fU 3 src.kids a.name=none:=by simpa using hl
     rw[Ab hl];by_cases zJ:60<=c
     . rw[Ac (by omega),Ac zJ]
       have:=next (body:=λi y x=>NP (nP src) a i y x) (d0:=cap ds [⟨2,a.Ct⟩]) (λi y x=>rfl) (by unfold Lr;rw[Ac zJ])
       unfold Lr at this;rw[Ac zJ] at this;exact this
     . rw[Ab (by omega),Ab zJ,Ac hn]
       have:=next (body:=λi y x=>ML (nP src) a i y x) (d0:=cap ds [⟨91,a.Ct⟩]) (λi y x=>rfl) (by unfold Lr;rw[Ab zJ,Ac hn])
       unfold Lr at this;rw[Ab zJ,Ac hn] at this;exact this
def XO{n:Nd}(h:cO n)(hk:n.kind=1):FU n z0/\(∀k∈n.kids,Je k)/\Fv n<=2000/\Ui n<=40:=by
 obtain⟨a | a,b⟩:=h;exact⟨a.2.1,a.2.2,b⟩;exact absurd hk a.1
def ajs{src:Nd}(hs:Iu src):JP src=some (JY src):=by
 obtain⟨jA,Sl,Lo⟩:=KR hs;rw[JP,aas hs,aiJ hs];simp only[Option.bind_some,BB,Bd];unfold JY;by_cases k1:src.kind=1;rotate_left;rw[Ab k1,Ab λq=>k1 q.1];rw[Ac k1];by_cases v:cO src;rotate_left;rw[Ab v,Ab λq=>v q.2];rw[Ac v,Ac ⟨k1,v⟩];obtain⟨_,hit,Q5,_⟩:=XO v k1;have arr:∀a∈src.kids,a.kind=2\/a.kind=3\/a.kind=4:=λa ha=>oU (hit a ha);rw[show J8=some () from rfl,cD hs arr];simp only[Option.bind_some];rw[EV Sl,List.drop_zero];obtain⟨z,e,rfl⟩:=Zo (src:=src) (l:=src.kids) (i:=0) (c:=0) (ds:=cap [] (JZ [] src.kids)) (λa ha=>⟨Lo a ha,hit a ha,by have:=P7 ha;omega⟩) (by omega) (E6 _ _);have e':(((0:Nat):Int))=0:=rfl;rw[e'] at e;rw[e,F7];rfl
end Mo
end Go.Proofs.YtnijkdknnmgoeaaGreat
namespace Go.Proofs.YtnijkdknnmgoeaaGreat
open AI Go
namespace Mo
set_option maxRecDepth 100000
set_option maxHeartbeats 4000000
def eE{F:ByteArray->ByteArray}{A:Int->ByteArray}{e:Nd}(h:(Z1 F A e).2=[]):(∀k∈e.kids,(Z1 F A k).2=[])/\((∀u∈(RI F A e.kids).1,u≠eS)->ME F A e (RI F A e.kids).1≠eS):=by
 have hr:(RI F A e.kids).2=[]/\((∀u∈(RI F A e.kids).1,u≠eS)->ME F A e (RI F A e.kids).1≠eS):=by
   rw[yX] at h;unfold abF at h;generalize RI F A e.kids=r at *;by_cases h1:∀u∈r.1,u≠eS;rw[Ac h1] at h;by_cases h2:ME F A e r.1=eS;rw[Ac h2] at h;exact absurd h (by simp);rw[Ab h2] at h;exact⟨h,λ_=>h2⟩;rw[Ab h1] at h;exact⟨h,λq=>absurd q h1⟩
 refine⟨λk hk=>?_,hr.2⟩;have hr:=hr.1;rw[dZ] at hr;exact List.flatMap_eq_nil_iff.1 hr k hk
def wT{k:Int}{x:ByteArray}:∀{l:List Nd},fU k l x≠none->∃a∈l,a.kind=k/\a.name=x
 | [],h=>absurd (by rw[fU]) h
 | a::l,h=>by
   rcases pH h with h | h
   exact⟨a,by simp,h⟩;obtain⟨b,hb,h⟩:=wT h;exact⟨b,by simp[hb],h⟩
def Wf(src:Nd):Prop:=∀a∈src.kids,a.kind=4->(fA src.kids a.n).getD eS=a.name/\fU 3 src.kids a.name≠none
def amH{src:Nd}(hit:∀k∈src.kids,Je k)(WZ:Wf src):∀(m:Nat) (e:Nd),Fv e<=m->Rf e->(Od src e).2=[]->Sy (Hi src.kids) e:=by
 intro m
 induction m with
 | zero=>intro e h;have:=CN e;omega
 | succ m ih =>
   intro e hm he hd;obtain⟨hq,Lo⟩:=(P9 e).1 he;obtain⟨cB,hu⟩:=eE hd;rw[mP]
   have wB:e.kids.length=0->ME (fact src) (art src) e []≠eS:=λh=>by
     have hn:=List.eq_nil_of_length_eq_zero h;rw[hn,RI] at hu;exact hu (by simp)
   unfold Ww at hq;refine⟨λk=>?_,λk=>?_,λk=>?_,λk=>?_,λk=>?_,λk hk=>ih k (by have:=P7 hk;omega) (Lo k hk) (cB k hk)⟩;rcases hq with h | h | h | h | h | h | h | h<;>first | (have:=h.1;omega) | (have:=h.2.2.1;omega)
   rcases hq with h | h | h | h | h | h | h | h<;>first | (have:=h.1;omega) | (have:=h.2.2.2;omega)
   have hl:e.kids.length=0:=by
     rcases hq with h | h | h | h | h | h | h | h<;>first | (have:=h.1;omega) | exact h.2.2.1
   have h:=wB hl;unfold ME at h;rw[Ab (by omega),Ac k] at h;refine ag4 (λhn=>h ?_);unfold fact;rw[hn];rfl
   have hl:e.kids.length=0:=by
     rcases hq with h | h | h | h | h | h | h | h<;>first | (have:=h.1;omega) | exact h.2.2.1
   have h:=wB hl;unfold ME at h;rw[Ab (by omega),Ab (by omega),Ac k] at h;unfold art line at h;have h3:fU 3 src.kids ((fA src.kids e.n).getD eS)≠none:=λhn=>h (by rw[hn];rfl);cases hfa:fA src.kids e.n with
   | none =>
     rw[hfa] at h3;obtain⟨a,ha,ha1,ha2⟩:=wT h3;have h4:=((it3 ha1).1 (hit a ha)).1;rw[ha2] at h4;exact absurd h4 (by unfold HE;simp[eS])
   | some w =>
     rw[hfa] at h3;refine ak6 (w:=w) (λa ha a4 an=>?_) (by rw[hfa];simp) h3;have:=(WZ a ha a4).1;rw[an,hfa] at this;exact this.symm
   rcases hq with h | h | h | h | h | h | h | h<;>first | (have:=h.1;omega) | (have:=h.2.2.1;unfold nD at this;omega)
end Mo
end Go.Proofs.YtnijkdknnmgoeaaGreat
namespace Go.Proofs.YtnijkdknnmgoeaaGreat
open AI Go
namespace Mo
set_option maxRecDepth 100000
set_option maxHeartbeats 4000000
def Y9{src:Nd}:∀{l:List Nd} {c:Nat},TP src c l=[]->∀a∈l,∃c',acC src c' a=[]
 | [],_,_,a,ha=>by cases ha
 | b::l,c,h,a,ha=>by
   rw[TP,List.append_eq_nil_iff] at h;rcases List.mem_cons.1 ha with rfl | ha
   exact⟨_,h.1⟩;exact Y9 h.2 a ha
def abL{src:Nd}{c:Nat}{a:Nd}(h:Lr src c a=[]):(fA src.kids a.n).getD eS=a.name/\fU 3 src.kids a.name≠none:=by
 unfold Lr at h;by_cases h1:60<=c;rw[Ac h1] at h;cases h;rw[Ab h1] at h;by_cases h2:fU 3 src.kids a.name=none;rw[Ac h2] at h;cases h;rw[Ab h2] at h;by_cases h3:(fA src.kids a.n).getD eS≠a.name;rw[Ac h3] at h;cases h;exact⟨by simpa using h3,h2⟩
def Zi{src:Nd}(hv:cO src)(hk:src.kind=1)(hc:JY src=[]):WM src=[]:=by
 unfold JY at hc;rw[Ac ⟨hk,hv⟩] at hc;unfold cap at hc;rw[List.nil_append] at hc;rcases List.take_eq_nil_iff.1 hc with h | h
 omega;exact h
def checked{src:Nd}(hv:cO src)(hk:src.kind=1)(hc:JY src=[]):Wf src/\∀it∈src.kids,it.kind=4->aav (Hi src.kids) it:=by
 have hr:=Zi hv hk hc;unfold WM at hr;have hr:=(List.append_eq_nil_iff.1 hr).2;obtain⟨_,hit,_,_⟩:=XO hv hk
 have hh:∀a∈src.kids,a.kind=4->(∃c,Lr src c a=[])/\∀x∈a.kids.tail,K2 src a x=[]:=λa ha k4=>by
   obtain⟨c,h⟩:=Y9 hr a ha;unfold acC at h;rw[Ac k4,List.append_eq_nil_iff] at h;exact⟨⟨c,h.1⟩,List.flatMap_eq_nil_iff.1 h.2⟩
 have WZ:Wf src:=λa ha k4=>by
   obtain⟨c,h⟩:=(hh a ha k4).1;exact abL h
 refine⟨WZ,λit hi k4=>?_⟩;obtain⟨_,_,_,h,cs,QD,_,_,_,_,Iv⟩:=(it4 k4).1 (hit it hi);refine⟨by rw[QD];simp,λe he k7=>?_⟩;have hce:=(hh it hi k4).2 e he;rw[QD,List.tail_cons] at he;obtain⟨hl,hex⟩:=(Iv e he).2.2 k7;cases hek:e.kids with
 | nil=>rw[hek] at hl;cases hl
 | cons k l =>
   refine⟨k,rfl,?_⟩;have hkm:k∈e.kids:=by rw[hek];simp
   unfold K2 at hce;rw[Ab k7] at hce;have hw:=List.flatMap_eq_nil_iff.1 hce k hkm;unfold iJ at hw;exact amH hit WZ (Fv k) k (Nat.le_refl _) (hex k hkm) (List.append_eq_nil_iff.1 hw).1
def Gb(n:Nd):Co×List Dg :=
 AM (n.kind=1/\cO n) (AM (JY n=[]) (AM ((VC (Hi n.kids) n.kids).1=[]) (⟨(Hi n.kids).Ae.facts,(Hi n.kids).Ae.lines,(VC (Hi n.kids) n.kids).2⟩,[]) (⟨[],[],[]⟩,(VC (Hi n.kids) n.kids).1.take 20)) (⟨[],[],[]⟩,JY n)) (⟨[],[],[]⟩,[⟨1,0⟩])
def abT{n:Nd}(hn:Iu n)(hz:Fv n<=100000):F6 n=some (Gb n):=by
 unfold Gb;have hV:=aas hn;have hC:=ajs hn;by_cases hk:n.kind=1;rotate_left;rw[Ab (λq=>hk q.1),F6,HM,Ab hk];by_cases hv:cO n;rotate_left;rw[Ab (λq=>hv q.2),F6,HM,Ac hk,hV,Option.bind_some,Bd,Ab hv];rw[CA (q:=True) ⟨λ_=>trivial,λ_=>hv⟩,<- mbT] at hV;rw[Ac ⟨hk,hv⟩];by_cases hc:JY n=[];rw[Ac hc];rw[hc] at hC;exact ahY hk hV hC hz (checked hv hk hc).2;rw[Ab hc,F6,HM,Ac hk,hV,Option.bind_some,cond_true,hC,Option.bind_some,Wh,Ac];have:=List.length_pos_iff.2 hc;omega
def agd{n:Nd}(h:(Gb n).2=[]):n.kind=1/\cO n/\JY n=[]/\(VC (Hi n.kids) n.kids).1=[]/\Gb n=(⟨(Hi n.kids).Ae.facts,(Hi n.kids).Ae.lines,(VC (Hi n.kids) n.kids).2⟩,[]):=by
 unfold Gb at h ⊢;by_cases h1:n.kind=1/\cO n;rotate_left;rw[Ab h1] at h;cases h;rw[Ac h1] at h ⊢;by_cases h2:JY n=[];rotate_left;rw[Ab h2] at h;exact absurd h h2;rw[Ac h2] at h ⊢;by_cases h3:(VC (Hi n.kids) n.kids).1=[];rw[Ac h3];exact⟨h1.1,h1.2,h2,h3,rfl⟩;rw[Ab h3] at h;rcases List.take_eq_nil_iff.1 h with h | h
 omega;exact absurd h h3
end Mo
end Go.Proofs.YtnijkdknnmgoeaaGreat
namespace Go.Proofs.YtnijkdknnmgoeaaGreat
open AI Go
namespace Mo
set_option maxRecDepth 100000
set_option maxHeartbeats 4000000
def Z6(k:Int)(l:List Nd):List Nd:=l.filter λa=>decide (a.kind=k)
def Vd{k:Int}{a:Nd}(h:a.kind=k)(l:List Nd):Z6 k (a::l)=a::Z6 k l:=by
 unfold Z6;rw[List.filter_cons,if_pos (by simpa using h)]
def RP{k:Int}{a:Nd}(h:a.kind≠k)(l:List Nd):Z6 k (a::l)=Z6 k l:=by
 unfold Z6;rw[List.filter_cons,if_neg (by simpa using h)]
def nY{k:Int}{l:List Nd}{a:Nd}:a∈Z6 k l↔a∈l/\a.kind=k:=by
 unfold Z6;rw[List.mem_filter];simp
def YD(k:Int)(l:List Nd):(Z6 k l).length=BV k l:=by
 induction l with
 | nil=>rfl
 | cons a l ih =>
   rw[BV];by_cases h:a.kind=k;rw[Vd h,if_pos h,List.length_cons,ih];omega;rw[RP h,if_neg h,ih];omega
def dcF(a:Nd):Dc:=⟨a.name,a.unit,0⟩
def dcL(a:Nd):Dc:=⟨a.name,a.unit,a.n⟩
def iM:∀(l:List Nd) (s:List Dc×Mm ByteArray Int×List Dc×Mm ByteArray Int),(l.foldl YW s).1=s.1++(Z6 2 l).map dcF/\(l.foldl YW s).2.2.1=s.2.2.1++(Z6 3 l).map dcL
 | [],s=>by simp[Z6]
 | a::l,s=>by
   rw[List.foldl_cons];obtain⟨h1,h2⟩:=iM l (YW s a);rw[h1,h2];unfold YW;by_cases k2:a.kind=2;rw[Ac k2,Vd k2,RP (by omega)];simp[dcF];rw[Ab k2];by_cases k3:a.kind=3;rw[Ac k3,RP k2,Vd k3];simp[dcL];rw[Ab k3,RP k2,RP k3];exact⟨rfl,rfl⟩
def cK(l:List Nd):(Hi l).Ae.facts=(Z6 2 l).map dcF:=by
 show(HX l).1=_;unfold HX;rw[(iM l _).1];rfl
def Vq(l:List Nd):(Hi l).Ae.lines=(Z6 3 l).map dcL:=by
 show(HX l).2.2.1=_;unfold HX;rw[(iM l _).2];rfl
def rH{α:Type}{l m:List α}{z:Int}{x:α}(h:Cn l z=some x):Cn (l++m) z=some x:=by
 unfold Cn at h ⊢;by_cases hz:0<=z;rw[if_pos hz] at h ⊢;rw[List.getElem?_append_left (List.getElem?_eq_some_iff.1 h).1,h];rw[if_neg hz] at h;cases h
def tB{α:Type}(l:List α)(x:α):Cn (l++[x]) ((l.length:Nat):Int)=some x:=by
 unfold Cn;rw[if_pos (by omega)];simp
def ntN(s:List Dc×Mm ByteArray Int×List Dc×Mm ByteArray Int):Prop:=(∀x i,s.2.1.get x=some i->∃d,Cn s.1 i=some d/\d.name=x)/\(∀x i,s.2.2.2.get x=some i->∃d,Cn s.2.2.1 i=some d/\d.name=x)
def ap6{s:List Dc×Mm ByteArray Int×List Dc×Mm ByteArray Int}(h:ntN s)(e:Nd):ntN (YW s e):=by
 obtain⟨h1,h2⟩:=h;unfold YW;by_cases k2:e.kind=2;rw[Ac k2];refine⟨λx i hx=>?_,h2⟩;simp only at hx ⊢;rw[Mm.Ew] at hx;split at hx;rename_i hq;cases hx;exact⟨_,tB _ _,hq.symm⟩;obtain⟨d,hd,hn⟩:=h1 x i hx;exact⟨d,rH hd,hn⟩;rw[Ab k2];by_cases k3:e.kind=3;rw[Ac k3];refine⟨h1,λx i hx=>?_⟩;simp only at hx ⊢;rw[Mm.Ew] at hx;split at hx;rename_i hq;cases hx;exact⟨_,tB _ _,hq.symm⟩;obtain⟨d,hd,hn⟩:=h2 x i hx;exact⟨d,rH hd,hn⟩;rw[Ab k3];exact⟨h1,h2⟩
def apb:∀(l:List Nd) (s:List Dc×Mm ByteArray Int×List Dc×Mm ByteArray Int),ntN s->ntN (l.foldl YW s)
 | [],_,h=>h
 | a::l,s,h=>by rw[List.foldl_cons];exact apb l _ (ap6 h a)
def ajF(l:List Nd):ntN (HX l):=apb l _ ⟨λx i h=>by simp[Mm.get_nil] at h,λx i h=>by simp[Mm.get_nil] at h⟩
def eF(a b:Nd):Prop:=(b.kind=2\/b.kind=3)->a.kind=b.kind->a.name≠b.name
def lQ{b:List Nd}{a:Nd}(h:N6 b a=[])(hk:a.kind=2\/a.kind=3):(∀c∈b,c.kind=a.kind->c.name≠a.name)/\BV a.kind b < 32:=by
 unfold N6 at h;rw[Ac hk] at h;by_cases h1:∃c∈b,c.kind=a.kind/\c.name=a.name;rw[Ac h1] at h;cases h;rw[Ab h1] at h;by_cases h2:32<=BV a.kind b;rw[Ac h2] at h;cases h;exact⟨λc hc k q=>h1 ⟨c,hc,k,q⟩,by omega⟩
def eD:∀{l b:List Nd},JZ b l=[]->(∀c∈b,∀a∈l,eF c a)/\l.Pairwise eF/\∀k,k=2\/k=3->BV k b<=32->BV k (b++l)<=32
 | [],b,_=>⟨λ_ _ a ha=>(nomatch ha),.nil,λk _ h=>by rwa[List.append_nil]⟩
 | a::l,b,h=>by
   rw[JZ,List.append_eq_nil_iff] at h;obtain⟨h1,h2,h3⟩:=eD h.2;have hd:∀c∈b,eF c a:=λc hc hk q=>(lQ h.1 hk).1 c hc q;refine⟨λc hc y hy=>?_,.cons (λy hy=>h1 a (by simp) y hy) h2,λk hk hb=>?_⟩;rcases List.mem_cons.1 hy with rfl | hy
   exact hd c hc;exact h1 c (by simp[hc]) y hy
   have:=h3 k hk (by
     rw[UN];simp only[BV];by_cases hak:a.kind=k;subst hak;have:=(lQ h.1 hk).2;simp;omega;rw[if_neg hak];omega)
   rwa[List.append_assoc] at this
def af1{k:Int}(hk:k=2\/k=3):∀{l:List Nd},l.Pairwise eF->∀{a:Nd},a∈l->a.kind=k->fU k l a.name=some a.unit
 | [],_,a,h,_=>by cases h
 | b::l,hp,a,h,ha=>by
   rw[List.pairwise_cons] at hp;rw[fU];rcases List.mem_cons.1 h with rfl | h
   rw[Ac ⟨ha,rfl⟩];rw[Ab λq=>hp.1 a h (by omega) (by omega) q.2];exact af1 hk hp.2 h ha
def rZ{α:Type}{l:List α}{z:Int}{x:α}(h:Cn l z=some x):x∈l:=by
 unfold Cn at h;by_cases hz:0<=z;rw[if_pos hz] at h;exact List.mem_of_getElem? h;rw[if_neg hz] at h;cases h
def ajz{l:List Nd}(hp:l.Pairwise eF){x:ByteArray}(h:fU 2 l x≠none):∃i d,(Hi l).facts.get x=some i/\Cn (Hi l).Ae.facts i=some d/\d.name=x/\fU 2 l x=some d.unit:=by
 obtain⟨h1,h2,_⟩:=Yd l ([],Mm.nil,[],Mm.nil) cG;have h2:(HX l).2.1.get x≠none:=h2 x (.inr h);cases hg:(HX l).2.1.get x with
 | none=>exact absurd hg h2
 | some i =>
   obtain⟨d,hd,hn⟩:=(ajF l).1 x i hg;refine⟨i,d,hg,hd,hn,?_⟩;have hm:=rZ hd;rw[show(HX l).1=(Z6 2 l).map dcF from cK l] at hm;obtain⟨a,ha,rfl⟩:=List.mem_map.1 hm;obtain⟨ha,hk⟩:=nY.1 ha;have:=af1 (.inl rfl) hp ha hk;rw[<- hn];exact this
def aaj{l:List Nd}(hp:l.Pairwise eF){x:ByteArray}(h:fU 3 l x≠none):∃i d,(Hi l).lines.get x=some i/\Cn (Hi l).Ae.lines i=some d/\d.name=x/\fU 3 l x=some d.unit:=by
 obtain⟨h1,_,h2⟩:=Yd l ([],Mm.nil,[],Mm.nil) cG;have h2:(HX l).2.2.2.get x≠none:=h2 x (.inr h);cases hg:(HX l).2.2.2.get x with
 | none=>exact absurd hg h2
 | some i =>
   obtain⟨d,hd,hn⟩:=(ajF l).2 x i hg;refine⟨i,d,hg,hd,hn,?_⟩;have hm:=rZ hd;rw[show(HX l).2.2.1=(Z6 3 l).map dcL from Vq l] at hm;obtain⟨a,ha,rfl⟩:=List.mem_map.1 hm;obtain⟨ha,hk⟩:=nY.1 ha;have:=af1 (.inr rfl) hp ha hk;rw[<- hn];exact this
end Mo
end Go.Proofs.YtnijkdknnmgoeaaGreat
namespace Go.Proofs.YtnijkdknnmgoeaaGreat
open AI Go
namespace Mo
namespace V
def aao(c:Int):Hb c=some (mb (97<=c/\c<=122)):=by
 unfold Hb;simp only[oJ,Wh,HM,N9,Bd,EW,jO,Ek,XT,oA,WU,VH,Option.bind_some]
def aid(c:Int):Im c=some (mb (48<=c/\c<=57)):=by
 unfold Im;simp only[oJ,Wh,HM,N9,Bd,EW,jO,Ek,XT,oA,WU,VH,Option.bind_some]
def ahS(c:Int):FY c=some (mb (65<=c/\c<=90)):=by
 unfold FY;simp only[oJ,Wh,HM,N9,Bd,EW,jO,Ek,XT,oA,WU,VH,Option.bind_some]
def ar0(l:List ByteArray)(s:ByteArray)(hl:l.length<=9223372036854775807):Iw l s=some (mb (s∈l)):=by
 unfold Iw
 rw[Dy (v:=true) (P:=λ_ y=>¬y=s) hl (λi y _=>by
   unfold OZ;simp only[N9,VD])]
 simp only[jO];congr 1;apply CA;constructor;intro h;exact Classical.byContradiction λhn=>h λi y hy e=>hn (e▸List.mem_of_getElem? hy);intro h hn;obtain⟨i,hi⟩:=List.getElem?_of_mem h;exact hn i s hi rfl
def Tu(s:ByteArray):Prop:=s.data.toList.length=3/\∀c∈s.data.toList,65<=c.toNat/\c.toNat<=90
def aeg(s:ByteArray):Fj s=some (mb (Tu s)):=by
 unfold Fj;rw[HM];unfold Tu;by_cases h:s.data.toList.length=3;rw[Ac (by omega)];generalize s.data.toList=l at h
 match l,h with
 | [a,b,c],_ =>
   simp only[List.getElem?_cons_zero,List.getElem?_cons_succ,Option.bind_some,ahS,Bd,Ek];congr 1;apply CA;simp only[List.length_cons,List.length_nil,List.mem_cons,List.not_mem_nil,or_false,true_and,forall_eq_or_imp,forall_eq];omega
 rw[Ab (by omega)];congr 1;cases hm:mb (s.data.toList.length=3/\∀c∈s.data.toList,65<=c.toNat/\c.toNat<=90);rfl;exact absurd (BE.1 hm).1 h
def GQ(s:ByteArray):Prop:=s=Ak\/s=AF\/s=B2\/Tu s
def ada(s:ByteArray):K3 s=some (mb (GQ s)):=by
 unfold K3;simp only[N9,aeg,Option.bind_some,WU];rfl
def Rm(c:UInt8):Prop:=(97<=c.toNat/\c.toNat<=122)\/(48<=c.toNat/\c.toNat<=57)\/c.toNat=95
def V8:List ByteArray:=[dD,eU,QN,vQ,fD,hD,toS,Xb,eN,Tv,S3,Ak,AF,B2,wN,fX,TH,Wj,fR,bR,Mp,wU,aW,iB,WO,xY,EH,SP,Ja,Mz,Ni,FM,Wr]
def HE(s:ByteArray):Prop:=(1<=s.data.toList.length/\s.data.toList.length<=16)/\(∃b,s.data.toList[0]?=some b/\97<=b.toNat/\b.toNat<=122)/\s∉V8/\∀c∈s.data.toList,Rm c
def GH{α:Type}{l:List α}{P:α->Prop}:(∀(i:Nat) (y:α),l[i]?=some y->P y)↔∀y∈l,P y :=
 ⟨λh y hy=>(List.getElem?_of_mem hy).elim λi hi=>h i y hi,λh i y hi=>h y (List.mem_of_getElem? hi)⟩
def amb:MI=some V8:=rfl
def alL(s:ByteArray):GX s=some (mb (HE s)):=by
 unfold GX;rw[Wh,Wh];unfold HE;by_cases h0:((s.data.toList.length:Nat):Int) < 1;rw[Ac h0,mbF];congr 1;exact CA ⟨λh=>h.elim,λh=>by omega⟩;rw[Ab h0];by_cases h1:16 < ((s.data.toList.length:Nat):Int);rw[Ac h1,mbF];congr 1;exact CA ⟨λh=>h.elim,λh=>by omega⟩;rw[Ab h1];obtain⟨b,hb⟩:∃b,s.data.toList[0]?=some b:=⟨_,List.getElem?_eq_getElem (by omega)⟩
 rw[hb,Dy (v:=false) (P:=λ_ y=>Rm y) (by omega) (λi y _=>by
   unfold LG;simp only[aao,aid,Option.bind_some,Bd,HM,NC,ahz];congr 2;unfold Rm;apply propext;omega)]
 simp only[Option.bind_some,aao,amb,ar0 V8 s (by decide),Bd,EW,XT,Ek,GH];congr 1;apply CA;constructor;rintro⟨h2,h3,h4⟩;exact⟨by omega,⟨b,rfl,by omega⟩,h3,h4⟩;rintro⟨h2,⟨c,hc,h3⟩,h4,h5⟩;cases hc;exact⟨by omega,h4,h5⟩
end V
end Mo
end Go.Proofs.YtnijkdknnmgoeaaGreat
namespace Go.Proofs.YtnijkdknnmgoeaaGreat
open AI Go
namespace Mo
namespace V
mutual
def JS:Ex->Nat
 | ⟨_,_,_,_,ks⟩=>1+Qu ks
def Qu:List Ex->Nat
 | []=>0
 | k::ks=>JS k+Qu ks
end
mutual
def dp:Ex->Nat
 | ⟨_,_,_,_,ks⟩=>1+dpS ks
def dpS:List Ex->Nat
 | []=>0
 | k::ks=>max (dp k) (dpS ks)
end
mutual
def W6:Ex->Prop
 | ⟨op,n,unit,BX,kids⟩=>BX.ps.length<=9223372036854775807/\kids.length<=9223372036854775807/\okS kids
def okS:List Ex->Prop
 | []=>True
 | k::ks=>W6 k/\okS ks
end
def gZ(e:Ex):JS e=1+Qu e.kids:=by cases e;rw[JS]
def akj(e:Ex):dp e=1+dpS e.kids:=by cases e;rw[dp]
def mX{l:List Ex}:okS l↔∀k∈l,W6 k:=by
 induction l with
 | nil=>simp[okS]
 | cons k l ih=>simp[okS,ih]
def PX(e:Ex):W6 e↔e.BX.ps.length<=9223372036854775807/\e.kids.length<=9223372036854775807/\∀k∈e.kids,W6 k:=by cases e;rw[W6,mX]
def rC(l m:List Ex):Qu (l++m)=Qu l+Qu m:=by
 induction l with
 | nil=>simp[Qu]
 | cons k l ih=>simp only[List.cons_append,Qu,ih];omega
def lF{l:List Ex}{i:Nat}{y:Ex}(h:l[i]?=some y):Qu (l.take (i+1))=Qu (l.take i)+JS y:=by
 rw[List.take_add_one,h,rC];simp[Qu]
def mC(l:List Ex)(i:Nat):Qu (l.take i)<=Qu l:=by
 have:=rC (l.take i) (l.drop i);rw[List.take_append_drop] at this;omega
def tQ{l:List Ex}{k:Ex}(h:k∈l):JS k<=Qu l:=by
 induction l with
 | nil=>cases h
 | cons a l ih =>
   rw[Qu];rcases List.mem_cons.1 h with rfl | h
   omega;have:=ih h;omega
def xM{l:List Ex}{d:Nat}:dpS l<=d↔∀k∈l,dp k<=d:=by
 induction l with
 | nil=>simp[dpS]
 | cons k l ih=>simp only[dpS,List.mem_cons,forall_eq_or_imp,<- ih];omega
def P2{e k:Ex}(h:k∈e.kids):JS k < JS e:=by
 have:=tQ h;rw[gZ e];omega
def Mi(e:Ex):0 < JS e:=by rw[gZ];omega
def aaa:∀(n:Nat) (e:Ex) (l:Int),W6 e->JS e<=n->l<=1000000->G7 n e l=some (max 0 (min ((JS e:Nat):Int) l)):=by
 intro n
 induction n with
 | zero=>intro e l _ h;have:=Mi e;omega
 | succ n ih =>
   intro e l L8 hn hl;obtain⟨_,hk,Lo⟩:=(PX e).1 L8;have hp:=gZ e;rw[G7,OE,MA];simp only[Ea,Bd,DH,AB];refine⟨λh=>by omega,λh=>?_⟩;refine CW (λi x=>x=min (((1+Qu (e.kids.take i):Nat)):Int) l) hk (by simp[Qu];omega) (λi y x hy hx=>?_) (λx hx=>?_);have hm:=List.mem_of_getElem? hy;have h1:=lF hy;have h2:=mC e.kids (i+1);have h3:=P2 hm;simp only[M9,CC,Bd,DH,Mh,AB,C9,XY];refine⟨λh4=>?_,λh4=>by omega⟩;rw[Oz (by omega),ih y (l - x) (Lo y hm) (by omega) (by omega),AB,Dl (by omega)];omega;rw[List.take_length] at hx;rw[AB];omega
def ajr(e:Ex)(l:Int)(h:W6 e)(hl:l<=1000000):RY e l=some (max 0 (min ((JS e:Nat):Int) l)) :=
 Ih (JS e) λn hn=>aaa n e l h hn hl
def nV(e:Ex)(l:Int)(h:W6 e)(hl:0<=l/\l < 1000000):Ir e l=some (mb (((JS e:Nat):Int)<=l)):=by
 rw[Ir,Dl (by omega),ajr e _ h (by omega),MA];simp only[Ea,Bd,DH,AB,Mh,Qv,CS];omega
def pD:∀(n:Nat) (e:Ex) (l:Int),W6 e->JS e<=n->-1000000<=l->l<=1000000->H6 n e l=some (mb (((dp e:Nat):Int)<=l)):=by
 intro n
 induction n with
 | zero=>intro e l _ h;have:=Mi e;omega
 | succ n ih =>
   intro e l L8 hn hl0 hl;obtain⟨_,hk,Lo⟩:=(PX e).1 L8;have hp:=akj e;rw[H6,PS,CC,Bd];by_cases h:l < 1;rw[Ac h];refine FE ?_;omega
   rw[Ab h,Dy (v:=false) (P:=λ_ y=>((dp y:Nat):Int)<=l - 1) hk (λi y hy=>by
     have hm:=List.mem_of_getElem? hy;have h3:=P2 hm;simp only[OC];rw[Oz (by omega),ih y (l - 1) (Lo y hm) (by omega) (by omega) (by omega)];simp only[Option.bind_some,Bd,NC]),EW,GH]
   refine Kp ?_
   have h4:(∀k∈e.kids,((dp k:Nat):Int)<=l - 1)↔dpS e.kids<=(l - 1).toNat:=by
     rw[xM];exact⟨λh k hk=>by have:=h k hk;omega,λh k hk=>by have:=h k hk;omega⟩
   rw[h4];omega
def alf(e:Ex)(l:Int)(h:W6 e)(hl:-1000000<=l/\l<=1000000):TB e l=some (mb (((dp e:Nat):Int)<=l)) :=
 Ih (JS e) λn hn=>pD n e l h hn hl.1 hl.2
def smE(e:Ex):Prop:=JS e<=400/\dp e<=40
def rW(e:Ex)(h:W6 e):Hx e=some (mb (smE e)):=by
 rw[Hx,nV e 400 h (by omega),alf e 40 h (by omega)];simp only[Option.bind_some,Bd,Ek];refine Kp ?_;unfold smE;omega
def fst{α:Type}(p:α->Prop):List α->Nat->Int
 | [],_=>-1
 | y::l,i=>open Classical in if p y then ((i:Nat):Int) else fst p l (i+1)
def gO{α β:Type}{l:List α}{body:Nat->α->Unit->Option (Lp Unit Unit Int)}{p:α->Prop}{k:Unit->Option Int}{kr:Int->Option Int}(hl:l.length<=9223372036854775807)(hb:∀i y,l[i]?=some y->body i y ()=some (AM (p y) (.rt ((i:Nat):Int)) (.nx ())))(hk:k ()=some (-1))(hr:∀v,kr v=some v):(ED l.length (Au body (λ_=>()) (l.drop 0) 0 ())).bind (Eu k kr)=some (fst p l 0):=by
 rw[EV hl,List.drop_zero]
 have key:∀(m:List α) (i:Nat),l.drop i=m->(Au body (λ_=>()) m i ()).bind (Eu k kr)=some (fst p m i):=by
   intro m
   induction m with
   | nil=>intro i _;exact hk
   | cons y m ih =>
     intro i hd;have hy:l[i]?=some y:=by rw[<- List.head?_drop,hd];rfl
     have dM:l.drop (i+1)=m:=by rw[<- List.tail_drop,hd];rfl
     rw[Au,hb i y hy,fst];by_cases h:p y;rw[Ac h,if_pos h];exact hr _;rw[Ab h,if_neg h];exact ih (i+1) dM
 exact key l 0 rfl
def wR{α:Type}{p:α->Prop}:∀(l:List α) (i:Nat),(fst p l i=-1/\∀y∈l,¬p y)\/∃k y,fst p l i=((i+k:Nat):Int)/\l[k]?=some y/\p y/\∀(j:Nat) z,j < k->l[j]?=some z->¬p z:=by
 intro l
 induction l with
 | nil=>intro i;exact .inl ⟨rfl,λy h=>by cases h⟩
 | cons a l ih =>
   intro i;rw[fst];by_cases h:p a;rw[if_pos h];exact .inr ⟨0,a,rfl,rfl,h,λj z hj=>by omega⟩;rw[if_neg h];rcases ih (i+1) with ⟨h1,h2⟩ | ⟨k,y,h1,h2,h3,h4⟩
   exact .inl ⟨h1,λy hy=>by rcases List.mem_cons.1 hy with rfl | hy;exact h;exact h2 y hy⟩
   refine .inr ⟨k+1,y,by rw[h1];congr 1;omega,by simpa using h2,h3,λj z hj hz=>?_⟩
   cases j with
   | zero=>simp at hz;subst hz;exact h
   | succ j=>exact h4 j z (by omega) (by simpa using hz)
def af6(l:List Dc)(nm:ByteArray)(hl:l.length<=9223372036854775807):EA l nm=some (fst (λd=>d.name=nm) l 0):=by
 unfold EA;exact gO (β:=Unit) hl (λi y _=>by simp only[OA,B5,Bd];unfold AM;split<;>rfl) rfl (λ_=>rfl)
def WQ(c:Co)(z:Int)(hl:c.Ap.length<=9223372036854775807):FQ c z=some (fst (λa=>a.number=z) c.Ap 0):=by
 unfold FQ;exact gO (β:=Unit) hl (λi y _=>by simp only[Ki,BB,Bd];unfold AM;split<;>rfl) rfl (λ_=>rfl)
def rB(l:List Dc)(lo hi:Int)(i:Nat)(d:Dc):Prop:=HE d.name/\GQ d.unit/\lo<=d.WD/\d.WD<=hi/\∀(j:Nat) e,j < i->l[j]?=some e->e.name≠d.name
def Sf(l:List Dc)(lo hi:Int):Prop:=∀(i:Nat) d,l[i]?=some d->rB l lo hi i d
def ael{α:Type}{p:α->Prop}{l:List α}{i:Nat}{y:α}(hy:l[i]?=some y)(hp:p y):fst p l 0=((i:Nat):Int)↔∀(j:Nat) z,j < i->l[j]?=some z->¬p z:=by
 rcases wR (p:=p) l 0 with ⟨h1,h2⟩ | ⟨k,x,h1,h2,h3,h4⟩
 exact absurd hp (h2 y (List.mem_of_getElem? hy));rw[h1];constructor;intro h;have:k=i:=by omega
 subst this;exact h4;intro h;have h5:¬k < i:=λh6=>h k x h6 h2 h3;have h6:¬i < k:=λh6=>h4 i y h6 hy hp;omega
def cD(l:List Dc)(lo hi:Int)(hl:l.length<=9223372036854775807):JO l lo hi=some (mb (Sf l lo hi/\l.length<=32)):=by
 unfold JO
 rw[Dy (v:=false) (P:=λi d=>rB l lo hi i d) hl (λi y hy=>by
   simp only[MN,alL,ada,af6 _ _ hl,Option.bind_some,CC,BB,Bd,NC,Xe,YL];congr 2;apply propext;rw[ael (p:=λd:Dc=>d.name=y.name) hy rfl];unfold rB;grind),Ea,Bd,EW,Ek]
 refine Kp ?_;unfold Sf;exact⟨λh=>⟨h.1,by omega⟩,λh=>⟨h.1,by omega⟩⟩
end V
end Mo
end Go.Proofs.YtnijkdknnmgoeaaGreat
namespace Go.Proofs.YtnijkdknnmgoeaaGreat
open AI Go
namespace Mo
namespace V
set_option maxRecDepth 100000
def L6{α:Type}{l:List α}{z:Int}(h0:0<=z)(h1:z < ((l.length:Nat):Int)):∃x,Cn l z=some x/\l[z.toNat]?=some x:=by
 have h2:z.toNat < l.length:=by omega
 unfold Cn;rw[if_pos h0,List.getElem?_eq_getElem h2];exact⟨_,rfl,rfl⟩
def P1{α:Type}{l:List α}{z:Int}{x:α}(h:Cn l z=some x):(0<=z/\z < ((l.length:Nat):Int))/\l[z.toNat]?=some x:=by
 unfold Cn at h;split at h;have:=(List.getElem?_eq_some_iff.1 h).1;exact⟨by omega,h⟩;cases h
def N1{α:Type}{l:List α}{i:Nat}:Cn l ((i:Nat):Int)=l[i]?:=by
 unfold Cn;rw[if_pos (by omega)];rfl
def Hu(l:List Ar)(z:Int):Option Int:=(l.find? (λa=>decide (a.number=z))).map Ar.line
def wF(l:List Ar)(z:Int):(fst (λa=>a.number=z) l 0=-1/\Hu l z=none/\∀y∈l,¬y.number=z)\/∃(k:Nat) (y:Ar),fst (λa=>a.number=z) l 0=((k:Nat):Int)/\l[k]?=some y/\y.number=z/\Hu l z=some y.line:=by
 rcases wR (p:=λa:Ar=>a.number=z) l 0 with ⟨h1,h2⟩ | ⟨k,y,h1,h2,h3,h4⟩
 refine .inl ⟨h1,?_,h2⟩;unfold Hu;rw[List.find?_eq_none.2 (λx hx=>by simpa using h2 x hx)]
 rfl;refine .inr ⟨k,y,by rw[h1,Nat.zero_add],h2,h3,?_⟩;unfold Hu
 have:l.find? (λa=>decide (a.number=z))=some y:=by
   rw[List.find?_eq_some_iff_getElem];refine⟨by simpa using h3,k,(List.getElem?_eq_some_iff.1 h2).1,(List.getElem?_eq_some_iff.1 h2).2,λj hj=>?_⟩
   have:=h4 j (l[j]'(by have:=(List.getElem?_eq_some_iff.1 h2).1;omega)) hj (List.getElem?_eq_getElem _);simpa using this
 rw[this];rfl
def pR(e:Ex):Prop:=0<=e.n/\e.n<=999999999999/\(e.unit=Ak->e.n<=1)
def Rz(c:Co)(e:Ex):Prop:=(e.op=1/\pR e)\/(e.op=2/\∃d,Cn c.facts e.n=some d/\e.unit=d.unit)\/(e.op=3/\∃l d,Hu c.Ap e.n=some l/\Cn c.lines l=some d/\e.unit=d.unit)\/(e.op=4/\1<=e.n/\e.n<=4/\e.unit=AF)
def akf{c:Co}{e:Ex}(h:e.op=1):Rz c e↔pR e:=by unfold Rz;simp[h]
def aj7{c:Co}{e:Ex}(h:e.op=2):Rz c e↔∃d,Cn c.facts e.n=some d/\e.unit=d.unit:=by unfold Rz;simp[h]
def akD{c:Co}{e:Ex}(h:e.op=3):Rz c e↔∃l d,Hu c.Ap e.n=some l/\Cn c.lines l=some d/\e.unit=d.unit:=by unfold Rz;simp[h]
def akl{c:Co}{e:Ex}(h:e.op=4):Rz c e↔1<=e.n/\e.n<=4/\e.unit=AF:=by unfold Rz;simp[h]
def acZ{c:Co}{e:Ex}(h1:e.op≠1)(h2:e.op≠2)(h3:e.op≠3)(h4:e.op≠4):¬Rz c e:=by unfold Rz;simp[h1,h2,h3,h4]
def rD(c:Co):Prop:=(∀d∈c.facts,GQ d.unit)/\∀d∈c.lines,GQ d.unit
def agV{α:Type}{l:List α}{z:Int}{q:α->Prop}:(∃d,Cn l z=some d/\q d)↔0<=z/\z < ((l.length:Nat):Int)/\∀d,Cn l z=some d->q d:=by
 constructor;rintro⟨d,h,hq⟩;have:=(P1 h).1;exact⟨this.1,this.2,λd' h'=>by rw[h] at h';cases h';exact hq⟩;rintro⟨h0,h1,h⟩;obtain⟨x,hx,_⟩:=L6 h0 h1;exact⟨x,hx,h x hx⟩
def wP{α:Type}{l:List α}{z:Int}{q:α->Prop}:AM (0<=z) (AM (z < ((l.length:Nat):Int)) ((Cn l z).bind λx=>some (mb (q x))) (some false)) (some false)=some (mb (∃d,Cn l z=some d/\q d)):=by
 rw[CA agV];by_cases h0:0<=z;by_cases h1:z < ((l.length:Nat):Int);obtain⟨x,hx,_⟩:=L6 h0 h1;rw[Ac h0,Ac h1,hx];simp only[Option.bind_some];refine Kp ?_;exact⟨λh=>⟨h0,h1,λd hd=>by cases hd;exact h⟩,λh=>h.2.2 x rfl⟩;rw[Ac h0,Ab h1];refine FE ?_;exact λh=>h1 h.2.1;rw[Ab h0];refine FE ?_;exact λh=>h0 h.1
def ahK(c:Co)(e:Ex)(ha:c.Ap.length<=9223372036854775807)(hd:rD c):F1 c e=some (mb (GQ e.unit/\Rz c e)):=by
 rw[F1,WQ c e.n ha];simp only[Ea,CC,BB,B5,Bd,ada,Option.bind_some,EW,Ek,oA,wP];by_cases h1:e.op=1;rw[Ac h1,CA (and_congr_right λ_=>akf h1)];refine Kp ?_;unfold pR;grind;rw[Ab h1];by_cases h2:e.op=2;rw[Ac h2,CA (and_congr_right λ_=>aj7 h2)];refine Kp ?_;refine⟨λ⟨d,h,hu⟩=>⟨?_,d,h,hu⟩,λh=>h.2⟩;rw[hu];exact hd.1 d (List.mem_of_getElem? (P1 h).2);rw[Ab h2];by_cases h3:e.op=3;rw[Ac h3,CA (and_congr_right λ_=>akD h3)];rcases wF c.Ap e.n with ⟨h4,h5,_⟩ | ⟨k,y,h4,h5,_,h6⟩
 rw[h4,h5,Ab (by omega)];refine FE ?_;simp;rw[h4,h6,Ac (by omega),N1,h5];simp only[Option.bind_some,wP];refine Kp ?_;refine⟨λ⟨d,h,hu⟩=>⟨?_,_,d,rfl,h,hu⟩,λ⟨_,l,d,hl,h,hu⟩=>by cases hl;exact⟨d,h,hu⟩⟩;rw[hu];exact hd.2 d (List.mem_of_getElem? (P1 h).2);rw[Ab h3];refine Kp ?_;by_cases h4:e.op=4;rw[akl h4];have:GQ AF:=.inr (.inl rfl);grind;exact⟨λh=>absurd h.1 h4,λh=>absurd h.2 (acZ h1 h2 h3 h4)⟩
def W3(f:Fn)(i:Nat)(p:Pc):Prop:=(-1000000<=p.Iz/\p.Iz<=1000000)/\(-1000000000000000000<=p.Ct/\p.Ct<=1000000000000000000)/\p.fr<=1000000000000/\(i=0->p.fr=0)/\∀(j:Nat) q,i=j+1->f.ps[j]?=some q->q.fr < p.fr
def NT(f:Fn):Prop:=(1<=f.den/\f.den<=1000000)/\(1<=f.ps.length/\f.ps.length<=64)/\∀(i:Nat) p,f.ps[i]?=some p->W3 f i p
def kL(n l:Int)(h:-9223372036854775808<=0 - l/\0 - l<=9223372036854775807):IU n l=some (mb (-l<=n/\n<=l)):=by
 have:alo l=-l:=by unfold alo;rw[IntWalk.i64_in _ (by omega)];omega
 rw[IU,this];simp only[Ea,Bd,EW,Ek]
def anP(f:Fn):LY f=some (mb (NT f)):=by
 rw[LY];simp only[CC,Bd];by_cases h1:f.den < 1;rw[Ac h1];refine FE ?_;unfold NT;omega;by_cases h2:1000000 < f.den;rw[Ab h1,Ac h2];refine FE ?_;unfold NT;omega;by_cases h3:((f.ps.length:Nat):Int) < 1;rw[Ab h1,Ab h2,Ac h3];refine FE ?_;unfold NT;omega;by_cases h4:64 < ((f.ps.length:Nat):Int);rw[Ab h1,Ab h2,Ab h3,Ac h4];refine FE ?_;unfold NT;omega
 rw[Ab h1,Ab h2,Ab h3,Ab h4,Dy (v:=false) (P:=W3 f) (by omega) (λi y hy=>by
   have hi:=(List.getElem?_eq_some_iff.1 hy).1;simp only[Nm,kL y.Iz 1000000 (by omega),kL y.Ct 1000000000000000000 (by omega),Option.bind_some,CC,BB,Ea,Bd];cases i with
   | zero =>
     simp only[show((0:Nat):Int)=0 from rfl,Ac,NC,Xe,YL];congr 2;apply propext;unfold W3;grind
   | succ i =>
     obtain⟨q,hq⟩:∃q,f.ps[i]?=some q:=⟨_,List.getElem?_eq_getElem (by omega)⟩;rw[Oz (by omega),show((i+1:Nat):Int) - 1=((i:Nat):Int) by omega,N1,hq];rw[Ab (show ¬((i+1:Nat):Int)=0 by omega),Ac (show(0:Int) < ((i+1:Nat):Int) by omega)];simp only[Option.bind_some,Ea,Bd,VD,Xe,YL];congr 2;apply propext;unfold W3;have h5:(∀(j:Nat) q',i+1=j+1->f.ps[j]?=some q'->q'.fr < y.fr)↔q.fr < y.fr:=⟨λh=>h i q rfl hq,λh j q' hj qJ=>by cases hj;rw[hq] at qJ;cases qJ;exact h⟩;rw[h5];grind),EW]
 refine Kp ?_;unfold NT;exact⟨λh=>⟨by omega,by omega,h⟩,λh=>h.2.2⟩
end V
end Mo
end Go.Proofs.YtnijkdknnmgoeaaGreat
namespace Go.Proofs.YtnijkdknnmgoeaaGreat
open AI Go
namespace Mo
set_option maxRecDepth 100000
set_option maxHeartbeats 4000000
def SV{k:Int}(hk:k=2\/k=3){f:Nd->Dc}(hf:∀a,(f a).name=a.name):∀{l:List Nd},l.Pairwise eF->((Z6 k l).map f).Pairwise λa b=>a.name≠b.name
 | [],_=>.nil
 | a::l,h=>by
   rw[List.pairwise_cons] at h;by_cases ha:a.kind=k;rw[Vd ha,List.map_cons,List.pairwise_cons];refine⟨λd hd=>?_,SV hk hf h.2⟩;obtain⟨b,hb,rfl⟩:=List.mem_map.1 hd;obtain⟨hb,hbk⟩:=nY.1 hb;rw[hf,hf];exact h.1 b hb (by omega) (by omega);rw[RP ha];exact SV hk hf h.2
def nT{L:List Dc}(hp:L.Pairwise λa b=>a.name≠b.name)(hl:L.length<=9223372036854775807){i:Int}{d:Dc}{x:ByteArray}(h:Cn L i=some d)(hn:d.name=x):EA L x=some i:=by
 rw[V.af6 _ _ hl];obtain⟨⟨h0,h1⟩,h2⟩:=V.P1 h
 rw[(V.ael (p:=λd=>d.name=x) h2 hn).2 λj z hj hz hq=>by
   obtain⟨a1,rfl⟩:=List.getElem?_eq_some_iff.1 hz;obtain⟨a2,rfl⟩:=List.getElem?_eq_some_iff.1 h2;exact List.pairwise_iff_getElem.1 hp j i.toNat a1 a2 hj (hq.trans hn.symm)]
 congr 1;omega
def ZH{c:Co}{z i:Int}{w:ByteArray}{d:Dc}(hi:EA c.lines w=some i)(hd:Cn c.lines i=some d):∀(l:List Nd) (j:Nat),(∀a∈l,a.kind=4->a.n=z->a.name=w)->fA l z≠none->Au (λi y x=>LV c z i y) (λ_=>()) l j ()=(some (.inr d.unit):Option (Unit⊕ByteArray))
 | [],_,_,h=>absurd (by rw[fA]) h
 | a::l,j,hw,h=>by
   rw[fA] at h;rw[Au,LV,HM,HM];by_cases h1:a.kind=4;rw[Ac h1];by_cases h2:a.n=z;rw[Ac h2,hw a (by simp) h1 h2,hi,Option.bind_some,hd];rfl;rw[Ab λe=>h2 e.2] at h;rw[Ab h2];exact ZH hi hd l (j+1) (λb hb=>hw b (by simp[hb])) h;rw[Ab λe=>h1 e.1] at h;rw[Ab h1];exact ZH hi hd l (j+1) (λb hb=>hw b (by simp[hb])) h
def acS{src:Nd}{c:Co}{z i:Int}{w:ByteArray}{d:Dc}(hl:src.kids.length<=9223372036854775807)(hw:∀a∈src.kids,a.kind=4->a.n=z->a.name=w)(hz:fA src.kids z≠none)(hi:EA c.lines w=some i)(hd:Cn c.lines i=some d):Nr c src z=some d.unit:=by
 rw[Nr,EV hl,List.drop_zero,ZH hi hd src.kids 0 hw hz];rfl
def an3{x:ByteArray}(h:Y7 x):∃z,LF [EH,SP,Ja,Mz] x=some z/\CE 1 z=gP x:=by
 rcases h with rfl | rfl | rfl | rfl
 exact⟨0,rfl,by unfold gP;rw[Ac rfl];rfl⟩;exact⟨1,rfl,by unfold gP;rw[Ab (by decide),Ac rfl];rfl⟩;exact⟨2,rfl,by unfold gP;rw[Ab (by decide),Ab (by decide),Ac rfl];rfl⟩;exact⟨3,rfl,by unfold gP;rw[Ab (by decide),Ab (by decide),Ab (by decide),Ac rfl];rfl⟩
def apD{q:Nat}{x:ByteArray}(h:cE x)(a b:Ex):E0 (q+2) x ⟨0,0,ByteArray.empty,⟨0,[]⟩,[a,b]⟩=some (qK x a.unit b.unit [a,b]):=by
 have go:∀z,E0 (q+2) x ⟨0,0,ByteArray.empty,⟨0,[]⟩,[a,b]⟩=some z->qK x a.unit b.unit [a,b]=z->E0 (q+2) x ⟨0,0,ByteArray.empty,⟨0,[]⟩,[a,b]⟩=some (qK x a.unit b.unit [a,b]):=λz h1 h2=>by rw[h1,h2]
 rcases h with rfl | rfl | rfl | rfl | rfl | rfl | rfl | rfl | rfl | rfl | rfl
 exact go ⟨14,0,a.unit,⟨0,[]⟩,[a,b]⟩ rfl (by unfold qK;repeat first | rw[Ac rfl] | rw[Ab (by decide)])
 exact go ⟨7,0,Ak,⟨0,[]⟩,[a,b]⟩ rfl (by unfold qK;repeat first | rw[Ac rfl] | rw[Ab (by decide)])
 exact go ⟨6,0,Ak,⟨0,[]⟩,[a,b]⟩ rfl (by unfold qK;repeat first | rw[Ac rfl] | rw[Ab (by decide)])
 exact go ⟨8,0,Ak,⟨0,[]⟩,[a,b]⟩ rfl (by unfold qK;repeat first | rw[Ac rfl] | rw[Ab (by decide)])
 exact go ⟨5,0,Ak,⟨0,[]⟩,[⟨8,0,Ak,⟨0,[]⟩,[a,b]⟩]⟩ rfl (by unfold qK;repeat first | rw[Ac rfl] | rw[Ab (by decide)])
 exact go ⟨9,0,Ak,⟨0,[]⟩,[a,b]⟩ rfl (by unfold qK;repeat first | rw[Ac rfl] | rw[Ab (by decide)])
 exact go ⟨10,0,Ak,⟨0,[]⟩,[a,b]⟩ rfl (by unfold qK;repeat first | rw[Ac rfl] | rw[Ab (by decide)])
 exact go ⟨11,0,a.unit,⟨0,[]⟩,[a,b]⟩ rfl (by unfold qK;repeat first | rw[Ac rfl] | rw[Ab (by decide)])
 exact go ⟨12,0,a.unit,⟨0,[]⟩,[a,b]⟩ rfl (by unfold qK;repeat first | rw[Ac rfl] | rw[Ab (by decide)])
 refine go ⟨13,0,AM (a.unit=AF) b.unit a.unit,⟨0,[]⟩,[a,b]⟩ ?_ (by unfold qK;repeat first | rw[Ac rfl] | rw[Ab (by decide)])
 show cond (By a.unit.data.toList AF.data.toList) (some (⟨13,0,b.unit,⟨0,[]⟩,[a,b]⟩:Ex)) (some ⟨13,0,a.unit,⟨0,[]⟩,[a,b]⟩)=_;rw[N9];by_cases hn:a.unit=AF;rw[Ac hn,Ac hn];rw[Ab hn,Ab hn];exact go ⟨15,0,b.unit,⟨0,[]⟩,[a,b]⟩ rfl (by unfold qK;repeat first | rw[Ac rfl] | rw[Ab (by decide)])
def aoW{x:ByteArray}(h:cE x)(a b:Ex):Qq x ⟨0,0,ByteArray.empty,⟨0,[]⟩,[a,b]⟩=some (qK x a.unit b.unit [a,b]) :=
 Ih 2 λq hq=>by
   obtain⟨p,rfl⟩:∃p,q=p+2:=⟨q - 2,by omega⟩;exact apD h a b
def aja{src e:Nd}(hit:∀k∈src.kids,Je k)(WZ:Wf src)(he:Rf e)(hd:(Od src e).2=[]):(e.kind=12->fU 2 src.kids e.name≠none)/\(e.kind=13->∃w,(∀a∈src.kids,a.kind=4->a.n=e.n->a.name=w)/\fA src.kids e.n=some w/\fU 3 src.kids w≠none):=by
 obtain⟨hq,Lo⟩:=(P9 e).1 he;obtain⟨cB,hu⟩:=eE hd
 have wB:e.kids.length=0->ME (fact src) (art src) e []≠eS:=λh=>by
   have hn:=List.eq_nil_of_length_eq_zero h;rw[hn,RI] at hu;exact hu (by simp)
 refine⟨λk=>?_,λk=>?_⟩;have h:=wB ((amq k).1 hq).2.1;unfold ME at h;rw[Ab (by omega),Ac k] at h;intro hn;refine h ?_;unfold fact;rw[hn];rfl;have h:=wB ((alq k).1 hq).2.1;unfold ME at h;rw[Ab (by omega),Ab (by omega),Ac k] at h;unfold art line at h;have h3:fU 3 src.kids ((fA src.kids e.n).getD eS)≠none:=λhn=>h (by rw[hn];rfl);cases hfa:fA src.kids e.n with
 | none =>
   rw[hfa] at h3;obtain⟨a,ha,ha1,ha2⟩:=wT h3;have h4:=((it3 ha1).1 (hit a ha)).1;rw[ha2] at h4;exact absurd h4 (by unfold HE;simp[eS])
 | some w =>
   rw[hfa] at h3;refine⟨w,λa ha a4 an=>?_,rfl,h3⟩;have:=(WZ a ha a4).1;rw[an,hfa] at this;exact this.symm
def ass{src:Nd}{c:Co}(hcf:c.facts=(Hi src.kids).Ae.facts)(Iv:c.lines=(Hi src.kids).Ae.lines)(hit:∀k∈src.kids,Je k)(WZ:Wf src)(T5:src.kids.Pairwise eF)(hlen:src.kids.length<=100000) :
   ∀(q:Nat) (e:Nd),Fv e<=q->Fv e<=100000->Rf e->(Od src e).2=[]->Eh q c src e=some (SY (Hi src.kids) e):=by
 have lf:(Hi src.kids).Ae.facts.length<=9223372036854775807:=by
   rw[cK,List.length_map,YD];have:=Mf 2 src.kids;omega
 have ll:(Hi src.kids).Ae.lines.length<=9223372036854775807:=by
   rw[Vq,List.length_map,YD];have:=Mf 3 src.kids;omega
 have pf:(Hi src.kids).Ae.facts.Pairwise λa b=>a.name≠b.name:=by rw[cK];exact SV (.inl rfl) (λ_=>rfl) T5
 have pl:(Hi src.kids).Ae.lines.Pairwise λa b=>a.name≠b.name:=by rw[Vq];exact SV (.inr rfl) (λ_=>rfl) T5
 intro q
 induction q with
 | zero=>intro e h;have:=CN e;omega
 | succ q ih =>
   intro e hq hz he hd;have Q5:=CN e;have hl:=Gy e.kids;obtain⟨hx,Lo⟩:=(P9 e).1 he;obtain⟨cB,hu⟩:=eE hd;obtain⟨r12,r13⟩:=aja hit WZ he hd;rw[Eh,Ka,vS,MA];refine CW (λi x=>x=(e.kids.take i).map (SY (Hi src.kids))) (by omega) (by simp) (λi y x hy hI=>?_) (λx hI=>?_);have I5:=List.mem_of_getElem? hy;have hm:=FZ I5;have hi:=(List.getElem?_eq_some_iff.1 hy).1;rw[Jr,ih y (by omega) (by omega) (Lo y I5) (cB y I5),Option.bind_some,D9 (by rw[hI,List.length_map,List.length_take];omega),AB,C9,List.take_add_one,hy,hI];simp;rw[List.take_length] at hI;rw[<- hI];have Sl:x.length=e.kids.length:=by rw[hI,List.length_map]
   clear hI hu cB hd;simp only[HM e.kind];unfold trO trL;rcases X6 hx with k | k | k | k | k | k | k | k
   rw[Ac k,AB,Ab (by omega),Ab (by omega),Ab (by omega),Ab (by omega),Ac k];rw[Ab (by omega),Ac k,Ab (p:=e.kind=15) (by omega),Ab (p:=e.kind=16) (by omega),Ab (p:=e.kind=17) (by omega),Ab (p:=e.kind=18) (by omega),Ab (p:=e.kind=11) (by omega),Ac (p:=e.kind=12) k];obtain⟨i,d,f1,f2,f3,_⟩:=ajz T5 (r12 k);rw[hcf,nT pf lf f2 f3,Option.bind_some,f2,Option.bind_some,AB,f1];unfold ZM;simp only[Option.getD_some,f2,Option.map_some];rw[Ab (by omega),Ab (by omega),Ac k,Ab (p:=e.kind=15) (by omega),Ab (p:=e.kind=16) (by omega),Ab (p:=e.kind=17) (by omega),Ab (p:=e.kind=18) (by omega),Ab (p:=e.kind=11) (by omega),Ab (p:=e.kind=12) (by omega),Ac (p:=e.kind=13) k];obtain⟨w,hw,hfa,h3⟩:=r13 k;obtain⟨i,d,l1,l2,l3,_⟩:=aaj T5 h3
   have hg:(Hi src.kids).Ao.get e.n=some i:=by
     have:=oK (lm:=(HX src.kids).2.2.2) (w:=w) src.kids Mm.nil hw (.inr (by rw[hfa];simp));rw[show(Hi src.kids).Ao.get e.n=(src.kids.foldl (na1 (HX src.kids).2.2.2) Mm.nil).get e.n from rfl,this,show(HX src.kids).2.2.2.get w=some i from l1];rfl
   rw[acS (by omega) hw (by rw[hfa];simp) (by rw[Iv];exact nT pl ll l2 l3) (by rw[Iv];exact l2),Option.bind_some,AB,hg];unfold ZM;simp only[Option.getD_some,l2,Option.map_some];rw[Ab (by omega),Ab (by omega),Ab (by omega),Ac k,Ab (p:=e.kind=15) (by omega),Ab (p:=e.kind=16) (by omega),Ab (p:=e.kind=17) (by omega),Ab (p:=e.kind=18) (by omega),Ab (p:=e.kind=11) (by omega),Ab (p:=e.kind=12) (by omega),Ab (p:=e.kind=13) (by omega)];obtain⟨z,w1,w2⟩:=an3 ((ale k).1 hx).1;rw[w1,Option.bind_some,AB,w2];rw[Ab (by omega),Ab (by omega),Ab (by omega),Ab (by omega),Ac k,AB,Ac k];rw[Ab (by omega),Ab (by omega),Ab (by omega),Ab (by omega),Ab (by omega),Ab (by omega),Ab (by omega),Ab (p:=e.kind=15) (by omega),Ac (p:=e.kind=16) k];obtain⟨_,h2,iZ,_⟩:=(adI k).1 hx
   match x,Sl with
   | [],h=>simp at h;omega
   | [_],h=>simp at h;omega
   | [a,b],_=>rw[aoW iZ,Option.bind_some,AB];rfl
   | _::_::_::_,h=>simp at h;omega
   rw[Ab (by omega),Ab (by omega),Ab (by omega),Ab (by omega),Ab (by omega),Ac k,Ab (p:=e.kind=15) (by omega),Ab (p:=e.kind=16) (by omega),Ac (p:=e.kind=17) k];have h2:=((aeo k).1 hx).2.2
   match x,Sl with
   | [],h=>simp at h;omega
   | a::l,_ =>
     simp only[List.getElem?_cons_zero,Option.bind_some,N9,YE];rw[AB];rfl
   rw[Ab (by omega),Ab (by omega),Ab (by omega),Ab (by omega),Ab (by omega),Ab (by omega),Ac k,Ab (p:=e.kind=15) (by omega),Ab (p:=e.kind=16) (by omega),Ab (p:=e.kind=17) (by omega),Ac (p:=e.kind=18) k];obtain⟨_,ht,h2⟩:=(aeu k).1 hx;have hp:=ht.2.1.2
   match x,Sl with
   | [],h=>simp at h;omega
   | a::l,_ =>
     simp only[List.getElem?_cons_zero,Option.bind_some,List.nil_append];rw[D9 (by simp only[List.length_nil];omega)];by_cases h0:e.BX.ps.length=0;rw[HM,Ac (by omega),AB,List.eq_nil_of_length_eq_zero h0];rfl;rw[HM,Ab (by omega),AB];rfl
def ase{src:Nd}{c:Co}(hcf:c.facts=(Hi src.kids).Ae.facts)(Iv:c.lines=(Hi src.kids).Ae.lines)(hit:∀k∈src.kids,Je k)(WZ:Wf src)(T5:src.kids.Pairwise eF)(hlen:src.kids.length<=100000){e:Nd}(hz:Fv e<=100000)(he:Rf e)(hd:(Od src e).2=[]):M8 c src e=some (SY (Hi src.kids) e) :=
 Ih (Fv e) λq hq=>ass hcf Iv hit WZ T5 hlen q e hq hz he hd
end Mo
end Go.Proofs.YtnijkdknnmgoeaaGreat
namespace Go.Proofs.YtnijkdknnmgoeaaGreat
open AI Go
namespace Mo
set_option maxRecDepth 100000
set_option maxHeartbeats 4000000
mutual
def XH:Ex->Prop
 | ⟨_,_,_,BX,kids⟩=>BX.ps.length<=1000/\abG kids
def abG:List Ex->Prop
 | []=>True
 | k::ks=>XH k/\abG ks
end
def U2{l:List Ex}:abG l↔∀k∈l,XH k:=by
 induction l with
 | nil=>simp[abG]
 | cons k l ih=>simp[abG,ih]
def aaY(e:Ex):XH e↔e.BX.ps.length<=1000/\∀k∈e.kids,XH k:=by cases e;rw[XH,U2]
def Vi{α:Type}{l:List α}{body:Nat->α->Unit->Option (Lp Unit Unit Bool)}(hl:l.length<=9223372036854775807)(hb:∀i y,l[i]?=some y->body i y ()=some (.nx ())):(ED l.length (Au body (λ_=>()) (l.drop 0) 0 ())).bind (Eu (λ(_:Unit)=>some true) (λv=>some v))=some true:=by
 rw[MA];refine CW (λ_ _=>True) hl trivial (λi y x hy _=>?_) (λx _=>?_);rw[hb i y hy,AB,C9];trivial;rw[AB]
def acF(x:ByteArray):(x == x)=true:=by
 first
   | exact beq_self_eq_true x
   | (cases x;rename_i d;show(d == d)=true;simp)
   | (cases x;rename_i d;simp[BEq.beq])
def sY(x:Dc):Zr x x=true:=by unfold Zr;simp[acF]
def rJ(x:Pc):Qf x x=true:=by unfold Qf;simp
def xU(f:Fn)(h:f.ps.length<=9223372036854775807):FI f f=some true:=by
 rw[FI];simp only[HM];rw[Ac trivial,Ac trivial];refine Vi h (λi y hy=>?_);rw[H7,hy,Option.bind_some,rJ,cond_true]
def aoj:∀(q:Nat) (e:Ex),R3 e<=q->R3 e<=1000000->XH e->F8 q e e=some true:=by
 intro q
 induction q with
 | zero=>intro e h;have:=Wq e;omega
 | succ q ih =>
   intro e hq hz ho;have he:=Wq e;have hl:=dP e.kids;obtain⟨h1,h2⟩:=(aaY e).1 ho;rw[F8,MT];simp only[HM,N9];rw[Ac trivial,Ac trivial,Ac trivial,xU _ (by omega),Option.bind_some,cond_true,Ac trivial];refine Vi (by omega) (λi y hy=>?_);have hm:=List.mem_of_getElem? hy;have:=eH hm;rw[LO,hy,Option.bind_some,ih y (by omega) (by omega) (h2 y hm),Option.bind_some,cond_true]
def pU{e:Ex}(hz:R3 e<=1000000)(ho:XH e):K6 e e=some true:=Ih (R3 e) λq hq=>aoj q e hq hz ho
def gS(l:List Dc)(h:l.length<=9223372036854775807):Gz l l=some true:=by
 rw[Gz];simp only[HM];rw[Ac trivial];refine Vi h (λi y hy=>?_);rw[Jk,hy,Option.bind_some,sY,cond_true]
def sW(l:List Ex)(h:l.length<=9223372036854775807)(hx:∀e∈l,R3 e<=1000000/\XH e):Ie l l=some true:=by
 rw[Ie];simp only[HM];rw[Ac trivial];refine Vi h (λi y hy=>?_);obtain⟨h1,h2⟩:=hx y (List.mem_of_getElem? hy);rw[Js,hy,Option.bind_some,pU h1 h2,Option.bind_some,cond_true]
def Wx(l:List Int)(h:l.length<=9223372036854775807):AW l l=some true:=by
 rw[AW];simp only[HM];rw[Ac trivial];refine Vi h (λi y hy=>?_);rw[J9,hy,Option.bind_some,HM,Ac rfl]
def okA(a:Ar):Prop:=a.wh.length<=1000000/\a.un.length<=1000000/\(∀e∈a.wh,R3 e<=1000000/\XH e)/\R3 a.am<=1000000/\XH a.am
def vG{a:Ar}(h:okA a):GN a a=some true:=by
 obtain⟨h1,h2,h3,h4,h5⟩:=h;rw[GN];simp only[HM];rw[Ac trivial,Ac trivial,Ac trivial,Ac trivial,Ac trivial,Ac trivial,sW _ (by omega) h3,Option.bind_some,cond_true,Wx _ (by omega),Option.bind_some,cond_true,pU h4 h5,Option.bind_some]
def dC{c:Co}(h1:c.facts.length<=1000000)(h2:c.lines.length<=1000000)(h3:c.Ap.length<=1000000)(h4:∀a∈c.Ap,okA a):Ef c c=some true:=by
 rw[Ef,gS _ (by omega),Option.bind_some,cond_true,gS _ (by omega),Option.bind_some,cond_true];simp only[HM];rw[Ac trivial];refine Vi (by omega) (λi y hy=>?_);rw[JA,hy,Option.bind_some,vG (h4 y (List.mem_of_getElem? hy)),Option.bind_some,cond_true]
end Mo
end Go.Proofs.YtnijkdknnmgoeaaGreat

namespace Go.Proofs.YtnijkdknnmgoeaaGreat
open AI Go
namespace Mo
set_option maxRecDepth 100000
set_option maxHeartbeats 4000000
def aaK(c:Int):Hb c=some (mb (97<=c/\c<=122)):=by
 rw[Hb];simp only[Ea,Bd,EW,Ek]
def ag3(c:Int):Im c=some (mb (48<=c/\c<=57)):=by
 rw[Im];simp only[Ea,Bd,EW,Ek]
def ai5(c:Int):FY c=some (mb (65<=c/\c<=90)):=by
 rw[FY];simp only[Ea,Bd,EW,Ek]
def QL(n a b:Int):Bw n a b=some (mb (a<=n/\n<=b)):=by
 rw[Bw];simp only[Ea,Bd,EW,Ek]
def anK(l:List ByteArray)(s:ByteArray)(hl:l.length<=9223372036854775807):Iw l s=some (mb (s∈l)):=by
 unfold Iw
 rw[Dy (v:=true) (P:=λ_ y=>¬y=s) hl (λi y _=>by
   unfold OZ;simp only[B5,Bd,VD])]
 simp only[jO];refine Kp ?_;constructor;intro h;exact Classical.byContradiction λhn=>h λi y hy e=>hn (e▸List.mem_of_getElem? hy);intro h hn;obtain⟨i,hi⟩:=List.getElem?_of_mem h;exact hn i s hi rfl
def akt(s:ByteArray):Fj s=some (mb (Tu s)):=by
 rw[Fj,BB,Bd];unfold Tu;by_cases h:s.data.toList.length=3;rw[Ac (by omega)];generalize s.data.toList=l at h
 match l,h with
 | [a,b,c],_ =>
   simp only[List.getElem?_cons_zero,List.getElem?_cons_succ,Option.bind_some,ai5,Bd,Ek];refine Kp ?_;simp only[List.length_cons,List.length_nil,List.mem_cons,List.not_mem_nil,or_false,true_and,forall_eq_or_imp,forall_eq];omega
 rw[Ab (by omega)];exact FE λq=>h q.1
def ac9(s:ByteArray):GX s=some (mb (HE s)):=by
 rw[GX];simp only[CC,Bd];unfold HE;by_cases h0:((s.data.toList.length:Nat):Int) < 1;rw[Ac h0];exact FE λh=>by omega
 rw[Ab h0];by_cases h1:16 < ((s.data.toList.length:Nat):Int);rw[Ac h1];exact FE λh=>by omega
 rw[Ab h1];obtain⟨b,hb⟩:∃b,s.data.toList[0]?=some b:=⟨_,List.getElem?_eq_getElem (by omega)⟩;rw[hb,show MI=some V8 from rfl];simp only[Option.bind_some,aaK,Bd]
 rw[anK _ _ (by decide),Dy (v:=false) (P:=λ_ y=>Rm y) (by omega) (λi y _=>by
   simp only[LG,aaK,ag3,Option.bind_some,Bd,BB,NC,ahz];congr 2;unfold Rm;apply propext;omega)]
 simp only[Option.bind_some,Bd,EW,XT,Ek,GH];refine Kp ?_;constructor;rintro⟨h3,h5,h6⟩;exact⟨by omega,⟨b,rfl,by omega⟩,h5,h6⟩;rintro⟨h3,⟨c,hc,h4⟩,h5,h6⟩;cases hc;exact⟨by omega,h5,h6⟩
def zD(n:Nd):Prop:=n.fr=0/\n.to=0/\n.known=0
def zT(n:Nd):Prop:=n.BX.den=0/\n.BX.ps=[]
def p9{α:Type}(l:List α):(((l.length:Nat):Int)=0)=(l=[]):=propext ⟨λh=>List.eq_nil_of_length_eq_zero (by omega),λh=>by rw[h];rfl⟩
section
variable (n:Nd)
def m4:FJ n=some (mb (n.name=eS/\n.unit=eS/\n.n=0/\zD n/\zT n)):=by
 rw[FJ];simp only[BB,B5,Bd,EW,Ek,p9,zD,zT];exact Kp (by simp only[and_assoc])
def adm:HW n=some (mb (n.name=eS/\zD n/\zT n/\n.kids=[])):=by
 rw[HW];simp only[BB,B5,Bd,EW,Ek,p9,zD,zT];exact Kp (by simp only[and_assoc])
def anJ:HY n=some (mb (n.unit=eS/\n.n=0/\zD n/\zT n/\n.kids=[])):=by
 rw[HY];simp only[BB,B5,Bd,EW,Ek,p9,zD,zT];exact Kp (by simp only[and_assoc])
def amr:JD n=some (mb (n.name=eS/\n.unit=eS/\zD n/\zT n/\n.kids=[])):=by
 rw[JD];simp only[BB,B5,Bd,EW,Ek,p9,zD,zT];exact Kp (by simp only[and_assoc])
def agN:Ho n=some (mb (n.unit=eS/\n.n=0/\zD n/\zT n)):=by
 rw[Ho];simp only[BB,B5,Bd,EW,Ek,p9,zD,zT];exact Kp (by simp only[and_assoc])
def agQ:IW n=some (mb (n.name=eS/\n.unit=eS/\n.n=0/\zD n)):=by
 rw[IW];simp only[BB,B5,Bd,EW,Ek,zD]
def amW:Fh n=some (mb (n.n=0/\zD n/\zT n/\n.kids=[])):=by
 rw[Fh];simp only[BB,B5,Bd,EW,Ek,p9,zD,zT];exact Kp (by simp only[and_assoc])
def aod:Fo n=some (mb (zD n/\zT n/\n.kids=[])):=by
 rw[Fo];simp only[BB,B5,Bd,EW,Ek,p9,zD,zT];exact Kp (by simp only[and_assoc])
def ahZ:EN n=some (mb (n.unit=eS/\zD n/\zT n)):=by
 rw[EN];simp only[BB,B5,Bd,EW,Ek,p9,zD,zT];exact Kp (by simp only[and_assoc])
def agp:IT n=some (mb (n.name=eS/\n.unit=eS/\zT n/\n.kids=[])):=by
 rw[IT];simp only[BB,B5,Bd,EW,Ek,p9,zT];exact Kp (by simp only[and_assoc])
end
def xF{α:Type}{l:List α}:l.length=0↔l=[]:=List.length_eq_zero_iff
def bU{a d m:Int}(hd:0 < d)(h:a.tmod d=0):(-m<=a.tdiv d/\a.tdiv d<=m)↔(-(m*d)<=a/\a<=m*d):=by
 have e:d*a.tdiv d=a:=Int.mul_tdiv_cancel' (Int.dvd_of_tmod_eq_zero h);generalize a.tdiv d=q at *;subst e;constructor;rintro⟨h1,h2⟩;have a1:=Int.mul_le_mul_of_nonneg_left h1 (Int.le_of_lt hd);have a2:=Int.mul_le_mul_of_nonneg_left h2 (Int.le_of_lt hd);rw[Int.mul_neg,Int.mul_comm d m] at a1;rw[Int.mul_comm d m] at a2;exact⟨a1,a2⟩;rintro⟨h1,h2⟩;rw[Int.mul_comm m d] at h1 h2;refine⟨Int.le_of_mul_le_mul_left ?_ hd,Int.le_of_mul_le_mul_left h2 hd⟩;rw[Int.mul_neg];exact h1
def ajm(f:Fn)(hf:af5 f):L0 f=some (mb (nD f)):=by
 obtain⟨hl,hpc⟩:=hf;rw[L0,QL,QL];simp only[Option.bind_some,Bd];by_cases hr:1<=f.den/\f.den<=1000000;rotate_left;rw[Ab hr];exact FE λq=>hr q.1;rw[Ac hr];by_cases hn:1<=((f.ps.length:Nat):Int)/\((f.ps.length:Nat):Int)<=64;rotate_left;rw[Ab hn];exact FE λq=>hn ⟨by have:=q.2.1;omega,by have:=q.2.1;omega⟩
 rw[Ac hn,Dy (v:=false) (P:=λi y=>XM f i y/\(i=0->y.fr=0)) hl (λi y hy=>by
   have hi:i < f.ps.length:=(List.getElem?_eq_some_iff.1 hy).1;obtain⟨_,VP,_⟩:=hpc y (List.mem_of_getElem? hy);have ahs:f.den≠0:=by omega
   have hd0:0 < f.den:=by omega
   have hm:jF y.Ct f.den=some (y.Ct.tmod f.den):=by unfold jF anI;rw[if_neg ahs]
   have hq:ade y.Ct f.den=some (y.Ct.tdiv f.den):=by
     unfold ade aoB;rw[if_neg ahs];have h1:(y.Ct.tdiv f.den).natAbs<=y.Ct.natAbs:=Int.natAbs_tdiv_le_natAbs _ _
     have h3:-9223372036854775808<=y.Ct.tdiv f.den/\y.Ct.tdiv f.den<=9223372036854775807:=by
       by_cases asg:f.den=1;rw[asg,Int.tdiv_one];exact VP;have h2:y.Ct.natAbs<=9223372036854775808:=by omega
       have h4:(y.Ct.tdiv f.den).natAbs < 9223372036854775808:=by
         rw[Int.natAbs_tdiv];have h5:2<=f.den.natAbs:=by omega
         have:y.Ct.natAbs / f.den.natAbs<=y.Ct.natAbs / 2:=Nat.div_le_div_left h5 (by decide);have h6:y.Ct.natAbs / 2<=9223372036854775808 / 2:=Nat.div_le_div_right h2;exact Nat.lt_of_le_of_lt (Nat.le_trans this h6) (by decide)
       omega
     congr 1;have h7:=XN h3;rw[XX] at h7;exact h7
   have asH:jX 999999999999 f.den=999999999999*f.den:=aaw (by omega);have asJ:jX (-999999999999) f.den=-(999999999999*f.den):=by rw[aaw (by omega)];omega
   simp only[MK,hm,hq,QL,Option.bind_some,BB,CC,Ea,Bd];unfold XM;rw[hm,asH,asJ];by_cases h0:i=0;subst h0;rw[Ac (show(((0:Nat):Int)=0) from rfl)];simp only[NC,Xe,YL];congr 2;apply propext;simp only[Option.some.injEq,Nat.lt_irrefl,false_implies,implies_true,true_and];constructor;rintro⟨a,b,c,d,e⟩;have:=(bU (m:=999999999999) hd0 a).1 b;exact⟨⟨by omega,a,this.2,this.1,c.2,c.1⟩,λ_=>e⟩;rintro⟨⟨a,b,c,d,e,g⟩,h⟩;exact⟨b,(bU hd0 b).2 ⟨d,c⟩,⟨g,e⟩,by omega,h trivial⟩;rw[Ab (show ¬(((i:Nat):Int)=0) by omega),Ac (show(0:Int) < ((i:Nat):Int) by omega),Oz (by omega)];obtain⟨pv,hpq⟩:∃pv,f.ps[i - 1]?=some pv:=⟨_,List.getElem?_eq_getElem (by omega)⟩
   have hg:Cn f.ps (((i:Nat):Int) - 1)=some pv:=by
     unfold Cn;rw[show(((i:Nat):Int) - 1).toNat=i - 1 by omega,if_pos (by omega)];exact hpq
   rw[hg,hpq];simp only[Option.bind_some,VD,Xe,YL];congr 2;apply propext;simp only[Option.some.injEq,forall_eq'];constructor;rintro⟨a,b,c,d,e⟩;have:=(bU (m:=999999999999) hd0 a).1 b;exact⟨⟨by omega,λq _ e=>by subst e;omega,a,this.2,this.1,c.2,c.1⟩,λq=>absurd q h0⟩;rintro⟨⟨a,p,b,c,d,e,g⟩,h⟩;exact⟨b,(bU hd0 b).2 ⟨d,c⟩,⟨g,e⟩,by omega,by have:=p pv (by omega) rfl;omega⟩),EW]
 refine Kp ?_;unfold nD JX;constructor;intro h;exact⟨hr,by omega,λx hx=>(h 0 x hx).2 rfl,λi p hp=>(h i p hp).1⟩;rintro⟨_,_,h3,h4⟩ i p hp;exact⟨h4 i p hp,λe=>h3 p (by rw[<- e];exact hp)⟩
def adE(n:Nd):I9 n=some (mb (n.kind=11/\(n.name=eS/\zD n/\zT n/\n.kids=[])/\n.unit=AF/\JX n.n)):=by
 rw[I9,adm,QL];simp only[Option.bind_some,BB,B5,Bd,Ek];rfl
end Mo
end Go.Proofs.YtnijkdknnmgoeaaGreat
