/- Part of a proof: see the last text. -/
import Derived.Test.YtpbkhogolfegfaaGreatDoorPr0
set_option linter.all false
noncomputable section
open Array renaming ext'->bjG,getD_eq_getD_getElem?->bjL,getElem?_eq_getElem->bkB,getElem?_eq_some_iff->aPB,getElem?_toList->biO,length_toList->biR,replicate->bkJ
open Bool renaming and_eq_true->bhB,and_eq_true_iff->bkH,and_self->bpR,eq_iff_iff->bjA,false_eq_true->biF
open Classical renaming axiomOfChoice->bqA,choose->bmI,choose_spec->bkM,propDecidable->bqB
open Go.Builtin renaming append_->bkX,firstCells->bjN,zeroCells->biY
open Go.Instr renaming fill->bqD
open Go.Op renaming eqFields->bpJ,equalIn->bmV
open Go.Oper renaming looksAt->bqF,wp->bnS
open Go.Region renaming wanted->bkG
open Go.Result renaming andThen_ok->biD
open Go.Sem renaming run_bind->biG,run_pure->bjJ
open List renaming all_eq_true->bjM,append_assoc->bjX,append_nil->bkW,cons_append->bjR,drop_append->bpY,drop_eq_nil_iff->boD,drop_eq_nil_of_le->biX,drop_zero->biT,eq_nil_of_length_eq_zero->biJ,getD_eq_getElem?_getD->bjP,getElem?_append_left->bhD,getElem?_append_right->bjF,getElem?_eq_getElem->aBD,getElem?_eq_none->bjE,getElem?_eq_some_iff->aBC,getElem?_map->biH,getElem?_range->blP,getElem?_toArray->bkS,head?_drop->blZ,length->bmC,length_append->aWQ,length_cons->bhE,length_drop->bhI,length_map->biE,length_nil->biV,length_take->biM,map_append->bjC,map_cons->bkF,mem_append->biI,mem_cons->bhJ,mem_cons_of_mem->biB,mem_cons_self->biK,mem_iff_getElem?->bkN,mem_of_getElem?->aWR,mem_of_mem_take->bjV,mem_singleton->biQ,nil_append->bkC,prefix_append->blW,range->bjD,range'_succ->bpZ,replicate->bjS,set_eq_take_append_cons_drop->blX,size_toArray->bjY,tail_drop->bmX,take_append->brV,take_append_drop->blJ,take_left'->bqL,take_of_length_le->blS
open List.cons renaming injEq->bnJ,sizeOf_spec->bmS
open Nat renaming add_mul->blG,add_zero->bjU,beq->biS,beq_refl->blD,ble->bmY,ble_eq_true_of_le->blI,blt->blF,eq_of_beq_eq_true->bjK,le_max_left->bsG,le_max_right->brU,le_of_ble_eq_true->bhG,le_refl->aWP,le_trans->biP,lt_of_lt_of_le->beL,lt_or_ge->blM,lt_succ_self->bjQ,mul_le_mul->boY,mul_le_mul_right->bkQ,mul_one->bpK,ne_of_beq_eq_false->blR,not_lt_zero->bmA,sub_zero->bnO,succ_mul->bmO,zero_add->bhC,zero_le->bjI
open Option renaming bind_some->Uu,map_eq_some_iff->bjO,map_some->bhK
open Option.some renaming inj->biA,injEq->atS
open Prod.mk renaming injEq->aWN
namespace AI
open Go Go.RowKit
def alD(P:Program)(G:AN)(ops:Array Oper)(c:Nat):List Oper->Nat->List Hn->List AV->AS->HT
 |[],_,hs,fr,s=>some (hs,[],[],fr,s)
 |o::l,i,hs,fr,s=>(match (match biS i c with|true=>nN P G ops fr s o hs|false=>wQ P G ops fr s o hs) with|some (v,s1,UX,cd)=>alC cd (fr,s,v) (alD P G ops c l (i+1) UX (JB fr o.dst v) s1)|none=>none)
def Ya(ms:List Nat)(c:Nat):List Oper->Nat->Bool
 |[],_=>true
 |o::l,i=>(match biS i c with|true=>!calm o.op|false=>(match P1 o.op with|true=>blF i c|false=>quiet o.op&&(!reads o.op||(blF i c&&VB ms c i))))&&Ya ms c l (i+1)
section
variable {P:Program}{G:AN}{ops:Array Oper}
def iI{ms:List Nat}{c:Nat}:∀{l:List Oper}{i j:Nat}{o:Oper},Ya ms c l i=true->l[j]?=some o->(i+j=c->calm o.op=false)/\(i+j≠c->(P1 o.op=true/\i+j < c)\/(quiet o.op=true/\(reads o.op=true->i+j < c/\VB ms c (i+j)=true))):=by
 intro l
 induction l with
 |nil=>intro i j o h ho;simp at ho
 |cons x l ih=>
  intro i j o h ho;simp only[Ya,bhB] at h;cases j with
  |zero=>
   simp at ho;subst ho;have h1:=h.1;split at h1;rename_i hb;have:=bjK hb;exact⟨λ_=>by simpa using h1,λhn=>absurd this hn⟩
   rename_i hb;have:=blR hb;refine⟨λhn=>absurd hn this,λ_=>?_⟩;split at h1;rename_i hv;exact .inl ⟨hv,bhG h1⟩;simp only[bhB,Bool.or_eq_true,Bool.not_eq_true'] at h1;refine .inr ⟨h1.1,λhr=>?_⟩;rcases h1.2 with h2 | h2
   rw[hr] at h2;cases h2;exact⟨bhG h2.1,h2.2⟩
  |succ j=>
   have:=ih (i:=i+1) (j:=j) h.2 (by simpa using ho)
   rw[show i+(j+1)=i+1+j by omega];exact this
def aC{ms:List Nat}{c:Nat}{l:List Oper}{i j:Nat}{o:Oper}(hl:Ya ms c l i=true)(hj:l[j]?=some o):BX o.op=false:=by
 have ho:=iI hl hj;cases ha:BX o.op with
 |false=>rfl
 |true=>
  obtain⟨e,he⟩:=L8 ha;by_cases hic:i+j=c;have:=ho.1 hic;unfold calm at this;rw[ha] at this;simp at this;rcases ho.2 hic with ⟨h1,_⟩ | ⟨h1,_⟩
  rw[he] at h1;cases h1;rw[T1 he] at h1;cases h1
def aAV{fr:List AV}{s s1:AS}{o:Oper}{hs hs':List Hn}{v:AV}{cd:List Cd}(h:nN P G ops fr s o hs=some (v,s1,hs',cd))(hv:P1 o.op=true)(hA:rX hs=false):s1=s:=by unfold nN at h;split at h;unfold P1 at hv;split at hv;rename_i cl ho;split at hv;rename_i f IX;unfold hDo at h;rw[ho] at h;simp only[IX] at h;unfold gM at h;split at h;split at h;cases h;rfl;cases h;simp[rX] at hA;simp[rX] at hA;simp[rX] at hA;cases h;cases hv;cases hv;cases h;rfl
def aBB{c q:Nat}{ms:List Nat}:∀{l:List Oper}{i:Nat}{hs hs':List Hn}{fr BM:List AV}{s s':AS}{cd:List Cd}{t:List (List AV×AS×AV)},alD P G ops c l i hs fr s=some (hs',cd,t,BM,s')->Ub P G cd->Ya ms c l i=true->VO P G (XS P G) H0 ops q l fr s t BM s'/\∀j,j<=l.length->i+j<=c->GI t s' j=s:=by
 intro l
 induction l with
 |nil=>
  intro i hs hs' fr BM s s' cd t h hc hl;simp only[alD] at h;cases h;exact⟨.nil,λj hj _=>by rfl⟩
 |cons o l ih=>
  intro i hs hs' fr BM s s' cd t h hc hl;simp only[alD] at h;split at h
  ·rename_i v s1 UX cd1 h1
   unfold alC at h;split at h
   ·rename_i nU cd2 t2 fr2 s2 h2
    cases h;obtain⟨c1,c2⟩:=hc.WH;have ho:=iI (j:=0) hl rfl;have hna:BX o.op=false:=aC (j:=0) hl rfl
    have hl2:Ya ms c l (i+1)=true:=by simp only[Ya,bhB] at hl;exact hl.2
    have h3:nN P G ops fr s o hs=some (v,s1,UX,cd1):=by split at h1;exact h1;exact(VE h1).1
    have hj:=RG h3 c1;obtain⟨k1,k2⟩:=ih h2 c2 hl2;refine⟨.cons hna hj k1,λj hjl hjc=>?_⟩;cases j with
    |zero=>rfl
    |succ j=>
     have e1:GI ((fr,s,v)::t2) s' (j+1)=GI t2 s' j:=by unfold GI;simp
     rw[e1,k2 j (by simpa using hjl) (by omega)]
     have hic:i+0≠c:=by omega
     rcases ho.2 hic with ⟨hv,_⟩ | ⟨hq,_⟩
     split at h1;rename_i hb;have:=bjK hb;omega;exact aAV h3 hv ((VE h1).2 hv);exact(KS hq hj).1
   cases h
  cases h
def akV{id c:Nat}{fr BM:List AV}{s s':AS}{t:List (List AV×AS×AV)}{hs hs':List Hn}{cd:List Cd}(IQ:Oh ops=true)(UU:blF c ops.size=true)(hl:Ya (I7 ops.toList []) c ops.toList 0=true)(h:alD P G ops c ops.toList 0 hs fr s=some (hs',cd,t,BM,s'))(hc:Ub P G cd):J P G (XS P G) H0 (.code (.region id ops true) fr s .normal BM s'):=by
 have IX:c < ops.size:=bhG UU;obtain⟨htr,hsm⟩:=aBB (q:=s.nx) h hc hl;have hlen:t.length=ops.size:=by rw[htr.len,biR]
 obtain⟨h0,WN⟩:=htr.at;have acR:∀i o,ops[i]?=some o->Cn ops i=o.dst:=λi o ho=>by unfold Cn;rw[ho];rfl
 obtain⟨Zd,gY⟩:=htr.qW (Cn ops) (LS t) fr 0 rfl (λi o ho=>by rw[bhC];exact acR i o (by rw[<- biO];exact ho)) (λi=>.inl (by rw[bhC]));rw[bhC,biR] at Zd
 have aIW:∀(i:Nat)(o:Oper),ops[i]?=some o->(i=c->calm o.op=false)/\(i≠c->(P1 o.op=true/\i < c)\/(quiet o.op=true/\(reads o.op=true->i < c/\VB (I7 ops.toList []) c i=true))):=by intro i o ho;have:=iI (j:=i) hl (Cl ho);rwa[bhC] at this
 have arV:∀(i:Nat)(o:Oper),ops[i]?=some o->BX o.op=false:=λi o ho=>aC (j:=i) hl (Cl ho)
 have IN:∀(i:Nat)(o:Oper),ops[i]?=some o->J P G (XS P G) H0 (.op ops o (Js fr (Cn ops) (LS t) (λ_=>true) i) (GI t s' i) (.ret (LS t i)) (GI t s' (i+1))):=by
  intro i o ho;obtain⟨fi,h1,h2⟩:=WN i o (Cl ho);have:=gY i _ h1;simp only[bhC] at this;rcases h2 with ⟨_,h2⟩ | ⟨h2,_⟩
  rw[<- this];exact h2;rw[arV i o ho] at h2;cases h2
 have hsn:GI t s' ops.size=s':=by unfold GI;rw[bjE (by omega)]
 have xB:∀k,k<=c->GI t s' k=s:=λk hk=>hsm k (by rw[biR];omega) (by omega)
 have agK:iQ ops c:=by have ho:ops[c]?=some ops[c]:=bkB IX;exact⟨_,ho,(aIW c _ ho).1 rfl⟩
 have key:=J.draw (P:=P) (G:=G) (X:=XS P G) (H:=H0) (id:=id) (f0:=fr) (s0:=s) [] (LS t) (GI t s') h0 IQ (λi o ho _=>IN i o ho) (λi o ho hq=>by
  obtain⟨h1,h2⟩:=KS hq (IN i o ho);refine⟨h1,?_⟩;rcases h2 with h2 | ⟨hw,h2⟩
  exact .inl h2
  ·refine .inr ⟨hw,λk hk mA=>?_⟩
   cases hrd:reads o.op with
   |false=>exact W9 hq hrd h2 _
   |true=>
    have hic:i≠c:=λe=>by
     subst e;obtain⟨o2,ho2,hcm⟩:=agK;rw[ho] at ho2;cases ho2;rw[fT hq] at hcm;cases hcm
    obtain⟨hlt,hd⟩:i < c/\VB (I7 ops.toList []) c i=true:=by
     rcases(aIW i o ho).2 hic with ⟨hv,_⟩ | ⟨_,h3⟩
     exfalso;unfold P1 at hv;split at hv;rename_i cl rO;split at hv;rename_i f bcL;rw[rO] at hq;simp[quiet,bcL] at hq;cases hv;cases hv;exact h3 hrd
    have hkc:=mA.2 c agK hd;rw[xB k hkc];rw[xB i (by omega)] at h2;exact h2) (λi o e ho he=>by
  have:=arV i o ho;rw[he] at this;cases this)
 rw[<- Zd,hsn] at key;exact key
end
def axU(G:AN)(fr:List AV)(o:Oper)(hs:List Hn):Option (List Nat):=match o.op with
 |.store _ a _=>(match AY G fr a with|some (.ptr id _)=>some [id]|_=>none)
 |.mapUpdate _ m _ _=>(match AP G fr m with|some (.mp id)=>some [id]|_=>none)
 |.call cl=>(match cl.callee with
  |.value _=>(match hs with|.w _::_=>some []|.u _ _ _ TS _::_=>some (TS.map (·.1))|.cn _ h _ _ _::_=>some (h.map (·.1))|_=>none)
  |.builtin .append=>(match hs with|.g _ _ _::_=>some []|.ae _::_=>some []|_=>none)
  |_=>(match quiet o.op with|true=>some []|false=>none))
 |op=>(match quiet op with|true=>some []|false=>none)
def kI(G:AN)(ops:Array Oper)(fr:List AV)(o:Oper)(hs:List Hn):Option (List Nat):=match CI ops fr o with|true=>axU G fr o hs|false=>some []
abbrev HA:=Option (List Hn×List Cd×List (List AV×AS×AV)×List (List Nat)×List AV×AS)
def aIU(cd:List Cd)(x:List AV×AS×AV)(T:List Nat):HA->HA
 |some (hs,cd',t,Ts,fr,s)=>some (hs,cd++cd',x::t,T::Ts,fr,s)
 |none=>none
def alB(P:Program)(G:AN)(ops:Array Oper):List Oper->List Hn->List AV->AS->HA
 |[],hs,fr,s=>some (hs,[],[],[],fr,s)
 |o::l,hs,fr,s=>(match BX o.op with
  |true=>none
  |false=>(match kI G ops fr o hs with
   |some T=>(match nN P G ops fr s o hs with|some (v,s1,UX,cd)=>aIU cd (fr,s,v) T (alB P G ops l UX (JB fr o.dst v) s1)|none=>none)
   |none=>none))
def aDK(G:AN)(fr:List AV)(o:Oper):Option (Option Nat):=match o.op with
 |.load _ a=>(match AP G fr a with|some (.ptr id _)=>some (some id)|some (.el _)=>some none|_=>none)
 |.lookup _ m _ _=>(match AP G fr m with|some (.mp id)=>some (some id)|_=>none)
 |.call cl=>(match cl.callee with
  |.builtin .len=>(match cl.args.toList with
   |[x]=>(match slV (AP G fr x) with|true=>some none|false=>none)
   |_=>none)
  |_=>none)
 |_=>none
def atQ(a:Nat):List Nat->Bool
 |[]=>false
 |b::l=>(match biS a b with|true=>true|false=>atQ a l)
def YJ(ms:List Nat)(id i:Nat):List (List Nat)->Nat->Bool
 |[],_=>true
 |T::Ts,l=>(match atQ id T with
  |true=>(match blF l i with|true=>VB ms i l|false=>(match blF i l with|true=>VB ms l i|false=>true))
  |false=>true)&&YJ ms id i Ts (l+1)
def zA(G:AN)(ops:Array Oper)(ms:List Nat)(Ts:List (List Nat)):List Oper->List (List AV×AS×AV)->Nat->Bool
 |o::os,t::ts,i=>(match CI ops t.1 o with|false=>true|true=>(match reads o.op with|false=>true|true=>(match aDK G t.1 o with|none=>false|some none=>true|some (some id)=>YJ ms id i Ts 0)))&&zA G ops ms Ts os ts (i+1)
 |_,_,_=>true
def xX{a:Nat}:∀{l:List Nat},atQ a l=true↔a∈l
 |[]=>by simp[atQ]
 |b::l=>by
  simp only[atQ];cases hb:biS a b with
  |true=>have:=bjK hb;simp[this]
  |false=>
   have:=blR hb;simp[xX (l:=l),this]
def aaT{id:Nat}:∀(l:List (Nat×Ay)) (s:AS),id∉l.map (·.1)->(s.ZT l).get id=s.get id
 |[],_,_=>rfl
 |e::l,s,h=>by
  simp only[bkF,bhJ,not_or] at h;rw[AS.ZT,aaT l _ h.2];exact Jy h.1 _
def xT{id:Nat}:∀{l:List (Nat×Ay)} (m:List (Nat×Ay)),id∉l.map (·.1)->look id (l++m)=look id m
 |[],_,_=>rfl
 |e::l,m,h=>by
  simp only[bkF,bhJ,not_or] at h;simp only[bjR,look]
  have hb:biS e.1 id=false:=by cases hq:biS e.1 id with|false=>rfl|true=>exact absurd (bjK hq).symm h.1
  rw[hb];exact xT m h.2
def nL{id:Nat}:∀(l:List (Nat×Nat)) (s:AS),(s.Wh l).get id=s.get id
 |[],_=>rfl
 |e::l,s=>by rw[AS.Wh,nL l];rfl
section
variable {P:Program}{G:AN}{ops:Array Oper}
def alA{fr:List AV}{s s1:AS}{o:Oper}{hs hs':List Hn}{v:AV}{cd:List Cd}{T:List Nat}(h:nN P G ops fr s o hs=some (v,s1,hs',cd))(hT:kI G ops fr o hs=some T)(hc:Ub P G cd)(ha:BX o.op=false)(id:Nat)(hid:id∉T):s1.get id=s.get id:=by
 have hj:=RG h hc;cases hq:quiet o.op with
 |true=>rw[(KS hq hj).1]
 |false=>
  unfold nN at h;unfold kI at hT;split at h
  ·rename_i hw
   rw[hw] at hT;simp only at hT;unfold axU at hT;split at hT;rename_i t a x ho;unfold hDo at h;rw[ho] at h;simp only at h
   have h1:∃a' x',AY G fr a=some a'/\AY G fr x=some x'/\Lf P s t a' x'=some s1:=by
    rcases Zc h hc with ⟨a',x',h2,h3,h4,_⟩ | h2
    exact⟨a',x',h2,h3,h4⟩;have h1:=Zb h2;rw[Pk] at h1;unfold SR at h1;rw[ho] at h1;simp only at h1;split at h1;rename_i a' x' ha' Ze;obtain⟨s',Dc,he⟩:=map_some h1;injection he with he1 he2
    subst he2;exact⟨a',x',ha',Ze,Dc⟩;cases h1
   obtain⟨a',x',ha',Ze,Dc⟩:=h1;rw[ha'] at hT;split at hT;rename_i T5 off Sb;cases Sb;cases hT;simp only[biQ] at hid;unfold Lf at Dc;split at Dc;rename_i i id2 bfM WQ arP;cases arP;split at Dc;split at Dc;cases Dc;exact Jy hid _;cases Dc;cases Dc;cases Dc;cases hT
   ·rename_i t m k x ho
    unfold hDo at h;rw[ho] at h;simp only at h;split at hT
    ·rename_i T5 Sb
     rw[Sb] at h;cases hT;simp only[biQ] at hid;simp only at h;split at h
     ·split at h
      ·have aEI:∀kk x' s2,LW P s t (.mp T5) kk x'=some s2->s2.get id=s.get id:=by
        intro kk x' s2 h2;unfold LW at h2
        repeat' split at h2
        all_goals first
         |(cases h2;done)
         |(rename_i arP;cases arP;cases h2;exact Jy hid _)
         |(simp_all only [AV.mp.injEq,atS];subst_vars;exact Jy hid _)
       unfold aNZ at h;split at h;cases h;exact aEI _ _ _ hc.1;cases h;exact Jy hid _;cases h
      cases h
     cases h
    cases hT
   rename_i cl ho;split at hT;rename_i f IX;unfold hDo at h;rw[ho] at h;simp only[IX] at h;unfold gM at h;split at h;split at h;cases h;rfl;cases h;cases hT;split at h;cases h;cases hT;rw[nL];exact aaT _ _ hid;cases h;split at h;cases h;cases hT;exact xT _ hid;cases h;cases h;rename_i IX;unfold hDo at h;rw[ho] at h;simp only[IX] at h;split at hT;split at h;split at h;split at h;unfold aqY at h;simp only at h;split at h;cases h;rfl;split at h;split at h;cases h;rfl;cases h;cases h;cases h;cases h;cases h;cases h;split at h;split at h;split at h;unfold aqY at h;simp only at h;cases h;rfl;cases h;cases h;cases h;cases hT;rw[hq] at hT;cases hT;rw[hq] at hT;cases hT
  cases h;rfl
def aeU{fr:List AV}{o:Oper}{hs:List Hn}{T:List Nat}(hT:kI G ops fr o hs=some T){id:Nat}(h:id∈T)(ha:BX o.op=false):calm o.op=false:=by
 unfold calm;rw[ha];simp only;cases hq:quiet o.op with
 |false=>rfl
 |true=>
  exfalso;unfold kI at hT;split at hT;unfold axU at hT;split at hT;rename_i ho;rw[ho] at hq;cases hq;rename_i ho;rw[ho] at hq;cases hq;rename_i cl ho;split at hT;rename_i IX;rw[ho] at hq;simp[quiet,IX] at hq;split at hT;cases hT;cases h;cases hT;cases h;cases hT;rw[hq] at hT;cases hT;cases h;rw[hq] at hT;cases hT;cases h;cases hT;cases h
def aBA{q:Nat}:∀{l:List Oper}{hs hs':List Hn}{fr BM:List AV}{s s':AS}{cd:List Cd}{t:List (List AV×AS×AV)}{Ts:List (List Nat)},alB P G ops l hs fr s=some (hs',cd,t,Ts,BM,s')->Ub P G cd ->
 VO P G (XS P G) H0 ops q l fr s t BM s'/\(∀o∈l,BX o.op=false)/\(∀(i:Nat) id,i < l.length->(∀T,Ts[i]?=some T->id∉T)->(GI t s' (i+1)).get id=(GI t s' i).get id)/\∀(i:Nat) o T id,l[i]?=some o->Ts[i]?=some T->id∈T->calm o.op=false:=by
 intro l
 induction l with
 |nil=>
  intro hs hs' fr BM s s' cd t Ts h hc;simp only[alB] at h;cases h;exact⟨.nil,(λo h=>by cases h),(λi id h=>by simp at h),λi o T id h=>by simp at h⟩
 |cons o l ih=>
  intro hs hs' fr BM s s' cd t Ts h hc;simp only[alB] at h;split at h;cases h
  ·rename_i ha
   split at h
   ·rename_i T hT
    split at h
    ·rename_i v s1 UX cd1 h1
     unfold aIU at h;split at h
     ·rename_i nU cd2 t2 Ts2 fr2 s2 h2
      cases h;obtain⟨c1,c2⟩:=hc.WH;obtain⟨k1,k2,k3,k4⟩:=ih h2 c2;refine⟨.cons ha (RG h1 c1) k1,λo' Wj=>?_,λi id hi hno=>?_,λi o' T' id Wj hT' hid=>?_⟩;rcases bhJ.1 Wj with rfl | Wj
      exact ha;exact k2 o' Wj
      ·cases i with
       |zero=>
        have e1:GI ((fr,s,v)::t2) s' 0=s:=rfl
        have e2:GI ((fr,s,v)::t2) s' (0+1)=s1:=by rw[show GI ((fr,s,v)::t2) s' (0+1)=GI t2 s' 0 by unfold GI;simp];exact k1.at.1
        rw[e1,e2];exact alA h1 hT c1 ha id (hno T rfl)
       |succ i=>
        have e:∀j,GI ((fr,s,v)::t2) s' (j+1)=GI t2 s' j:=λj=>by unfold GI;simp
        rw[e,e];exact k3 i id (by simpa using hi) (λT' h'=>hno T' (by simpa using h'))
      cases i with|zero=>simp at Wj hT';subst Wj hT';exact aeU hT hid ha|succ i=>exact k4 i o' T' id (by simpa using Wj) (by simpa using hT') hid
     cases h
    cases h
   cases h
def kH{ms:List Nat}{id i:Nat}:∀{Ts:List (List Nat)}{l0:Nat},YJ ms id i Ts l0=true->∀{l:Nat}{T:List Nat},Ts[l]?=some T->id∈T->(l0+l < i->VB ms i (l0+l)=true)/\(i < l0+l->VB ms (l0+l) i=true):=by
 intro Ts
 induction Ts with
 |nil=>intro l0 _ l T h;simp at h
 |cons T0 Ts ih=>
  intro l0 h l T hT hid;simp only[YJ,bhB] at h;cases l with
  |zero=>
   simp at hT;subst hT;have h1:=h.1;rw[xX.2 hid] at h1;simp only at h1;constructor;intro hlt;have e:blF l0 i=true:=blI hlt;rw[e] at h1;exact h1;intro hlt
   have e:blF l0 i=false:=by cases hq:blF l0 i with|false=>rfl|true=>have:=bhG hq;omega
   have e2:blF i l0=true:=blI hlt;rw[e,e2] at h1;exact h1
  |succ l=>
   have:=ih h.2 (l:=l) (by simpa using hT) hid
   rw[show l0+(l+1)=l0+1+l by omega];exact this
def avK{ms:List Nat}{Ts:List (List Nat)}:∀{os:List Oper}{ts:List (List AV×AS×AV)}{i:Nat},zA G ops ms Ts os ts i=true->∀{j:Nat}{o:Oper}{x:List AV×AS×AV},os[j]?=some o->ts[j]?=some x->CI ops x.1 o=true->reads o.op=true->∃r,aDK G x.1 o=some r/\∀id,r=some id->YJ ms id (i+j) Ts 0=true:=by
 intro os
 induction os with
 |nil=>intro ts i _ j o x h;simp at h
 |cons y os ih=>
  intro ts i h j o x ho hx hw hr;cases ts with
  |nil=>simp at hx
  |cons t ts=>
   simp only[zA,bhB] at h;cases j with
   |zero=>
    simp at ho hx;subst ho hx;have h1:=h.1;rw[hw,hr] at h1;simp only at h1;split at h1;cases h1;rename_i hq;exact⟨none,hq,λid h=>by cases h⟩;rename_i id hq;exact⟨some id,hq,λT5 h=>by cases h;exact h1⟩
   |succ j=>
    have:=ih h.2 (j:=j) (by simpa using ho) (by simpa using hx) hw hr
    rw[show i+(j+1)=i+1+j by omega];exact this
def aDL{fr:List AV}{s s2:AS}{o:Oper}{v:AV}{r:Option Nat}(hr:aDK G fr o=some r)(hs:∀id,r=some id->s2.get id=s.get id)(h:SR P G fr s o=some (.val v s)):SR P G fr s2 o=some (.val v s2):=by
 unfold aDK at hr;split at hr;rename_i t a ho;rw[CE] at hr;unfold SR at h ⊢;rw[ho] at h ⊢;simp only at h ⊢;obtain⟨v',h3,h4⟩:=map_some h;injection h4 with h4
 subst h4;obtain⟨b,h5,h6⟩:=bind_some h3;rw[h5] at hr ⊢;split at hr;rename_i id off Sb;cases Sb;cases hr
 have:J9 P s2 t (.ptr id off)=J9 P s t (.ptr id off):=by simp only[J9];rw[hs id rfl]
 simp only[Uu];rw[this,h6];rfl;rename_i Sb;cases Sb;simp only[Uu];rw[show J9 P s2 t (.el _)=J9 P s t (.el _) from rfl,h6];rfl;cases hr;rename_i t m k ok ho;rw[CE] at hr;unfold SR at h ⊢;rw[ho] at h ⊢;simp only at h ⊢;split at hr;rename_i id Sb;cases hr;rw[Sb] at h ⊢;split at h;rename_i a b ha hb;cases ha;obtain⟨v',h3,h4⟩:=map_some h;injection h4 with h4
 subst h4
 have:Ka P s2 t (.mp id) b ok=Ka P s t (.mp id) b ok:=by simp only[Ka];rw[hs id rfl]
 rw[this,h3];rfl;cases h;cases hr
 ·rename_i cl ho
  split at hr
  ·rename_i IX
   unfold SR at h ⊢;rw[ho] at h ⊢;simp only[Wc,IX] at h ⊢;split at hr
   ·rename_i x hx
    rw[hx] at h ⊢;cases ht:cl.argTypes.toList with
    |nil=>rw[ht] at h;cases h
    |cons t1 ts=>
     cases ts with
     |cons _ _=>rw[ht] at h;cases h
     |nil=>
      rw[ht] at h;simp only at h ⊢;obtain⟨v',h3,h4⟩:=map_some h;injection h4 with h4
      subst h4;obtain⟨b,h5,h6⟩:=bind_some h3;rw[CE,h5] at hr;rw[h5];simp only[Uu];split at hr
      ·rename_i hsl
       have:aZ P s2 t1 b=aZ P s t1 b:=by
        unfold slV at hsl;split at hsl
        ·rename_i Sb;cases Sb;unfold aZ;split<;>first | rfl | (simp_all;done)
        ·rename_i Sb;cases Sb;unfold aZ;split<;>first | rfl | (simp_all;done)
        cases hsl
       rw[this,h6];rfl
      cases hr
   cases hr
  cases hr
 cases hr
def aqA{id:Nat}{fr BM:List AV}{s s':AS}{t:List (List AV×AS×AV)}{Ts:List (List Nat)}{hs hs':List Hn}{cd:List Cd}(IQ:Oh ops=true)(h:alB P G ops ops.toList hs fr s=some (hs',cd,t,Ts,BM,s'))(hr:zA G ops (I7 ops.toList []) Ts ops.toList t 0=true)(hc:Ub P G cd):J P G (XS P G) H0 (.code (.region id ops true) fr s .normal BM s'):=by
 obtain⟨htr,hna,Dc,hlo⟩:=aBA (q:=s.nx) h hc;have hlen:t.length=ops.size:=by rw[htr.len,biR]
 obtain⟨h0,WN⟩:=htr.at;have acR:∀i o,ops[i]?=some o->Cn ops i=o.dst:=λi o ho=>by unfold Cn;rw[ho];rfl
 obtain⟨Zd,gY⟩:=htr.qW (Cn ops) (LS t) fr 0 rfl (λi o ho=>by rw[bhC];exact acR i o (by rw[<- biO];exact ho)) (λi=>.inl (by rw[bhC]));rw[bhC,biR] at Zd;have arV:∀(i:Nat)(o:Oper),ops[i]?=some o->BX o.op=false:=λi o ho=>hna o (aWR (Cl ho))
 have IN:∀(i:Nat)(o:Oper),ops[i]?=some o->J P G (XS P G) H0 (.op ops o (Js fr (Cn ops) (LS t) (λ_=>true) i) (GI t s' i) (.ret (LS t i)) (GI t s' (i+1))):=by
  intro i o ho;obtain⟨fi,h1,h2⟩:=WN i o (Cl ho);have:=gY i _ h1;simp only[bhC] at this;rcases h2 with ⟨_,h2⟩ | ⟨h2,_⟩
  rw[<- this];exact h2;rw[arV i o ho] at h2;cases h2
 have hsn:GI t s' ops.size=s':=by unfold GI;rw[bjE (by omega)]
 have hTl:∀(l:Nat) T id,Ts[l]?=some T->id∈T->l < ops.size->iQ ops l:=by intro l T id hT hid hl;exact⟨ops[l],bkB hl,hlo l ops[l] T id (Cl (bkB hl)) hT hid⟩
 have xB:∀(bx:Nat)(d i:Nat),i+d<=ops.size->(∀l,i<=l->l < i+d->∀T,Ts[l]?=some T->bx∉T)->(GI t s' (i+d)).get bx=(GI t s' i).get bx:=by
  intro bx d
  induction d with
  |zero=>intro i _ _;rfl
  |succ d ih=>
   intro i hle hno;rw[show i+(d+1)=(i+d)+1 by omega,Dc (i+d) bx (by rw[biR];omega) (hno (i+d) (by omega) (by omega))];exact ih i (by omega) (λl h1 h2=>hno l h1 (by omega))
 have key:=J.draw (P:=P) (G:=G) (X:=XS P G) (H:=H0) (id:=id) (f0:=fr) (s0:=s) [] (LS t) (GI t s') h0 IQ (λi o ho _=>IN i o ho) (λi o ho hq=>by
  obtain⟨h1,h2⟩:=KS hq (IN i o ho);refine⟨h1,?_⟩;rcases h2 with h2 | ⟨hw,h2⟩
  exact .inl h2
  ·refine .inr ⟨hw,λk hk mA=>?_⟩
   cases hrd:reads o.op with
   |false=>exact W9 hq hrd h2 _
   |true=>
    have hil:i < ops.size:=(aPB.1 ho).1;obtain⟨fi,hti,_⟩:=WN i o (Cl ho);have hfi:=gY i _ hti;simp only[bhC] at hfi;obtain⟨r,hr1,hr2⟩:=avK hr (Cl ho) hti (by rw[hfi];exact hw) hrd;rw[hfi] at hr1;refine aDL hr1 (λbx hbx=>?_) h2;have hto:=hr2 bx hbx;rw[bhC] at hto;rcases blM k i with hki | hki
    have:=xB bx (i - k) k (by omega) (λl h3 h4 T hT hm=>by
     have hd:=(kH hto hT hm).1 (by omega);rw[bhC] at hd;have:=mA.1 l (hTl l T bx hT hm (by omega)) hd;omega)
    rw[show k+(i - k)=i by omega] at this;exact this.symm
    have:=xB bx (k - i) i (by omega) (λl h3 h4 T hT hm=>by
     have hll:=hTl l T bx hT hm (by omega);rcases blM i l with h5 | h5
     have hd:=(kH hto hT hm).2 (by omega);rw[bhC] at hd;have:=mA.2 l hll hd;omega;have:l=i:=by omega
     subst this;obtain⟨o2,ho2,hcm⟩:=hll;rw[ho] at ho2;cases ho2;rw[fT hq] at hcm;cases hcm)
    rw[show i+(k - i)=k by omega] at this;exact this) (λi o e ho he=>by
  have:=arV i o ho;rw[he] at this;cases this)
 rw[<- Zd,hsn] at key;exact key
end
section
variable {P:Program}{G:AN}{ops:Array Oper}{f0:List AV}{vals:Nat->AV}{s0 s1:AS}{p:Nat}{v:AV}
structure bbL(G:AN)(ops:Array Oper)(f0:List AV)(vals:Nat->AV)(s0:AS)(p:Nat)(cx0:Cx)(w0:World)(L:Array Bool)(a:Act)(w:World):Prop where
 size:L.size=ops.size
 closed:PO ops.toList (λj=>L.getD j false)
 st:∃c,Ext cx0 w0 c w/\St G c w s0/\Cw c w (Js f0 (Cn ops) vals (λj=>L.getD j false) ops.size) a.tmps.toList
 defers:a.defers=[]
 out:L.getD p false=false
def aqD(IQ:Oh ops=true)(hp:p < ops.size)
   (hl:∀i o,ops[i]?=some o->i≠p->(p < i->VB (I7 ops.toList []) i p=false)->Sound P G (.op ops o (Js f0 (Cn ops) vals (λ_=>true) i) s0 (.ret (vals i)) s0))
   (aON:∀o,ops[p]?=some o->Sound P G (.op ops o (Js f0 (Cn ops) vals (λ_=>true) p) s0 (.pan v) s1))
   {cx0:Cx}{w0:World}{BM:List AV} (Q:Exit->Act->World->Prop) (hQ:∀e' a' w',Wa G cx0 w0 (.pan v) BM s1 e' a' w'->Q e' a' w'):
   ∀(fuel:Nat)(L:Array Bool)(a:Act)(w:World),bbL G ops f0 vals s0 p cx0 w0 L a w->vW (λj=>L.getD j false) ops.size=fuel->wpAny P .any ops Q fuel L a w:=by
 intro fuel
 induction fuel with
 |zero=>
  intro L a w hI hc;have:=vX ops.size hc p hp;rw[hI.out] at this;cases this
 |succ fuel ih=>
  intro L a w hI bcM;refine⟨λrM=>?_,λi hi=>?_⟩
  ·exfalso
   have all:∀i,i < ops.size->L.getD i false=true:=by
    intro i
    induction i using Nat.strongRecOn with
    |_ i ihi=>
     intro hlt;cases vA:L.getD i false with
     |true=>rfl
     |false=>
      exfalso;have ho:ops[i]?=some (ops[i]'hlt):=bkB hlt
      have:=zF hI.size ho vA (λe he hb=>by
       have h1:=yH IQ ho he hb;exact ihi e.on h1 (by omega))
      rw[rM] at this;cases this
   have:=all p hp;rw[hI.out] at this;cases this
  ·obtain⟨o,ho,vA,hO,hlt⟩:=mem_ready hI.size hi
   obtain⟨c,hx,Dc,Ob⟩:=hI.st
   have hip:p < i->VB (I7 ops.toList []) i p=false:=by
    intro h1;cases hd:VB (I7 ops.toList []) i p with
    |false=>rfl
    |true=>
     have:=fX hI.closed (Cl ho) hO hd;rw[hI.out] at this;cases this
   have hMi:(L.setIfInBounds i true).getD i false=true:=by
    have:i < L.size:=by rw[hI.size];exact hlt
    simp[this]
   have hMn:∀j,j≠i->(L.setIfInBounds i true).getD j false=L.getD j false:=by intro j hj;simp only[bjL];rw[Array.getElem?_setIfInBounds_ne (λe=>hj e.symm)]
   have hle:∀j,L.getD j false=true->(L.setIfInBounds i true).getD j false=true:=by intro j hj;by_cases e:j=i;subst e;exact hMi;rw[hMn j e];exact hj
   have gW:PO ops.toList (λj=>(L.setIfInBounds i true).getD j false):=by
    intro j y hy hj e he hb;by_cases ej:j=i;subst ej;rw[Cl ho] at hy;cases hy;exact hle _ (hO e he hb);have hj2:L.getD j false=true:=by rw[<- hMn j ej];exact hj
    exact hle _ (hI.closed j y hy hj2 e he hb)
   have arN:vW (λj=>(L.setIfInBounds i true).getD j false) ops.size=fuel:=by have:=(afU (L:=λj=>L.getD j false) (M:=λj=>(L.setIfInBounds i true).getD j false) vA hMi hMn ops.size).1 hlt;omega
   have lW:=agE (f0:=f0) (vals:=vals) (L:=λj=>L.getD j false) (M:=λj=>(L.setIfInBounds i true).getD j false) IQ hI.closed ho vA hMi hMn
   have xC:∀x∈o.op.operands,lP G c w (Js f0 (Cn ops) vals (λ_=>true) i) a.eval x:=by
    intro x hxo v hv;cases x with
    |tmp t=>
     have arT:t∈o.looksAt ops:=by unfold bqF;rw[biI];left;rw[List.mem_filterMap];exact⟨.tmp t,Array.mem_toList_iff.2 hxo,rfl⟩
     have he:=VD (f0:=f0) (vals:=vals) IQ hI.closed ho vA hO arT
     have:AY G (Js f0 (Cn ops) vals (λj=>L.getD j false) ops.size) (.tmp t)=some v:=by rw[<- hv];simp only[AY,bjP,he]
     exact Fh Dc Ob this
    |const z=>exact Fh (fr:=Js f0 (Cn ops) vals (λj=>L.getD j false) ops.size) Dc Ob hv
    |global g=>exact Fh (fr:=Js f0 (Cn ops) vals (λj=>L.getD j false) ops.size) Dc Ob hv
    |func f=>exact Fh (fr:=Js f0 (Cn ops) vals (λj=>L.getD j false) ops.size) Dc Ob hv
   have Z9:CI ops (Js f0 (Cn ops) vals (λ_=>true) i) o=bkG o (yielded ops a.tmps):=by refine PS (c:=c) (w:=w) (λj want hg d hd=>⟨_,Ob,?_⟩);refine VD IQ hI.closed ho vA hO ?_;unfold bqF;rw[biI];right;rw[hg];simp[hd]
   have qY:OC P ops o (wpAny P .any ops Q fuel (L.setIfInBounds i true)) Q a w->wpOp P ops Q i (wpAny P .any ops Q fuel (L.setIfInBounds i true)) a w:=by intro h;unfold wpOp;rw[ho];unfold OC at h;simp only;split;rename_i hw;rw[if_pos hw] at h;exact .inl h;rename_i hw;rw[if_neg hw] at h;exact h
   refine qY ?_;by_cases hpe:i=p;subst hpe;refine aON o ho c w a _ _ Dc xC Z9 ?_;intro u w' c' Ze OO hu;exact hQ _ _ _ ⟨c',hx.trans Ze,OO,hI.defers,u,rfl,hu⟩;refine hl i o ho hpe hip c w a _ _ Dc xC Z9 ?_;intro u w' c' Ze OO hu;refine ih _ _ _ ⟨by simp[hI.size],gW,⟨c',hx.trans Ze,OO,?_⟩,by cases o.dst<;>exact hI.defers,?_⟩ arN
   rw[lW];exact Q3 (Ob.mono Ze) hu;rw[hMn p (λe=>hpe e.symm)];exact hI.out
def adZ(hm:P.follows .mixedOrders=true){id:Nat}{BM:List AV}(IQ:Oh ops=true)(hp:p < ops.size)
   (hl:∀i o,ops[i]?=some o->i≠p->(p < i->VB (I7 ops.toList []) i p=false)->Sound P G (.op ops o (Js f0 (Cn ops) vals (λ_=>true) i) s0 (.ret (vals i)) s0))
   (aON:∀o,ops[p]?=some o->Sound P G (.op ops o (Js f0 (Cn ops) vals (λ_=>true) p) s0 (.pan v) s1)):Sound P G (.code (.region id ops true) f0 s0 (.pan v) BM s1):=by
 intro cx w a Q hs hf hd hQ;refine wp_region_any hm ?_;obtain⟨x,st⟩:=hs.same (vU w)
 have gf:∀j,(bkJ ops.size false).getD j false=false:=by intro j;simp only[bjL,Array.getElem?_replicate];split<;>simp
 refine aqD IQ hp hl aON Q hQ ops.size _ a _ ⟨by simp,?_,⟨_,x,st,?_⟩,hd,gf p⟩ ?_;intro i o ho hL;exact absurd (show(bkJ ops.size false).getD i false=true from hL) (by rw[gf i];simp)
 ·have:Js f0 (Cn ops) vals (λj=>(bkJ ops.size false).getD j false) ops.size=f0:=by
   have key:∀n,Js f0 (Cn ops) vals (λj=>(bkJ ops.size false).getD j false) n=f0:=by
    intro n
    induction n with
    |zero=>rfl
    |succ n ih=>
     simp only[Js,ih];rw[if_neg];rw[gf n];simp
   exact key _
  rw[this];exact hf.mono x
 ·have key:∀n,vW (λj=>(bkJ ops.size false).getD j false) n=n:=by
   intro n
   induction n with
   |zero=>rfl
   |succ n ih=>
    simp only[vW,ih,gf n];simp
  exact key _
end
abbrev HS:=Option (List Hn×List Cd×List AV×AS)
def aIT(cd:List Cd):HS->HS
 |some (hs,cd',fr,s)=>some (hs,cd++cd',fr,s)
 |none=>none
abbrev HC:=Option (AX×List Hn×List Cd×List AV×AS)
def nO(cd:List Cd):HC->HC
 |some (e,hs,cd',fr,s)=>some (e,hs,cd++cd',fr,s)
 |none=>none
def aAY(P:Program)(G:AN)(ops:Array Oper)(fr:List AV)(s:AS)(o:Oper):List Hn->HO
 |.p v s1::hs=>(match CI ops fr o with
  |true=>(match XQ P G fr s o with|some (.ent f args)=>some (v,s1,hs,[.aIA f args s v s1])|some (.pan v')=>some (v',s,hs,[])|_=>none)
  |false=>none)
 |.q v pre tp TS tu::hs=>(match CI ops fr o with
  |true=>(match XQ P G fr s o with|some (.ent f args)=>some (v,(s.ZT TS).Wh tu,hs,[.Sn f args (.pan v) pre tp TS tu,.eqx (gK s pre) (QJ pre) (nJ s.F tp) (Rz tp)])|_=>none)
  |false=>none)
 |_=>none
def arG(P:Program)(G:AN)(ops:Array Oper):List Oper->List Hn->List AV->AS->HC
 |[],hs,fr,s=>some (.normal,hs,[],fr,s)
 |o::l,hs,fr,s=>(match aAY P G ops fr s o hs with|some (v,s1,UX,cd)=>some (.pan v,UX,cd,fr,s1)|none=>(match nN P G ops fr s o hs with|some (v,s1,UX,cd)=>nO cd (arG P G ops l UX (JB fr o.dst v) s1)|none=>none))
def wS(P:Program)(G:AN)(ops:Array Oper):List Oper->List Hn->List AV->AS->HS
 |[],hs,fr,s=>some (hs,[],fr,s)
 |o::l,hs,fr,s=>(match wQ P G ops fr s o hs with|some (v,s1,UX,cd)=>aIT cd (wS P G ops l UX (JB fr o.dst v) s1)|none=>none)
def steady(op:Op):Bool:=match quiet op with
 |true=>true
 |false=>(match op with
  |.call cl=>(match cl.callee with | .value _=>true | _=>false)
  |_=>false)
def TN:List Oper->Bool
 |[]=>true
 |o::l=>(match steady o.op with | true=>TN l | false=>false)
def aWH:HS->HC
 |some (hs,cd,fr,s)=>some (.normal,hs,cd,fr,s)
 |none=>none
def aWG(P:Program)(G:AN)(ops:Array Oper)(hs:List Hn)(fr:List AV)(s:AS):HC:=match rsv P ops.toList with
 |some r=>(match hTr P G ops ops.toList s.nx hs fr (s.hold r) with
  |some (hs',cd,t,BM,s')=>(match Ns G ops s.nx ops.toList t with
   |true=>(match dT P ops t s' s.nx r with|true=>some (.normal,hs',cd,BM,s')|false=>none)
   |false=>none)
  |none=>none)
 |none=>none
def arA(P:Program)(G:AN)(ops:Array Oper)(c:Nat)(hs:List Hn)(fr:List AV)(s:AS):HC:=match blF c ops.size with
 |true=>(match Ya (I7 ops.toList []) c ops.toList 0 with
  |true=>(match alD P G ops c ops.toList 0 hs fr s with|some (hs',cd,_,BM,s')=>some (.normal,hs',cd,BM,s')|none=>none)
  |false=>none)
 |false=>none
def aIP(P:Program)(G:AN)(ops:Array Oper)(hs:List Hn)(fr:List AV)(s:AS):HC:=match alB P G ops ops.toList hs fr s with
 |some (hs',cd,t,Ts,BM,s')=>(match zA G ops (I7 ops.toList []) Ts ops.toList t 0 with|true=>some (.normal,hs',cd,BM,s')|false=>none)
 |none=>none
abbrev HQ:=Option (List AV×List Hn×List Cd×Option (AV×AS))
def rP(v:AV)(cd:List Cd):HQ->HQ
 |some (vs,hs,cd2,r)=>some (v::vs,hs,cd++cd2,r)
 |none=>none
def aIY(r:AV×AS)(cd:List Cd):HQ->HQ
 |some (vs,hs,cd2,none)=>some (.sc undef::vs,hs,cd++cd2,some r)
 |_=>none
def behind(ms:List Nat)(p i:Nat):Bool:=match blF p i with|true=>VB ms i p|false=>false
def gQ(P:Program)(G:AN)(ops:Array Oper)(ms:List Nat)(p:Nat)(s:AS):List Oper->Nat->List Hn->List AV->HQ
 |[],_,hs,_=>some ([],hs,[],none)
 |o::l,i,hs,fr=>(match biS i p with
  |true=>(match aAY P G ops fr s o hs with|some (v,s2,nU,cd)=>aIY (v,s2) cd (gQ P G ops ms p s l (i+1) nU (JB fr o.dst (.sc undef)))|none=>none)
  |false=>(match behind ms p i with
   |true=>rP (.sc undef) [] (gQ P G ops ms p s l (i+1) hs (JB fr o.dst (.sc undef)))
   |false=>(match steady o.op with
    |true=>(match wQ P G ops fr s o hs with|some (v,_,nU,cd)=>rP v cd (gQ P G ops ms p s l (i+1) nU (JB fr o.dst v))|none=>none)
    |false=>none)))
def arI(P:Program)(G:AN)(ops:Array Oper)(p:Nat)(hs:List Hn)(fr:List AV)(s:AS):HC:=match gQ P G ops (I7 ops.toList []) p s ops.toList 0 hs fr with|some (_,nU,cd,some (v,s2))=>some (.pan v,nU,cd,fr,s2)|_=>none
def aIR(P:Program)(G:AN)(ops:Array Oper)(fr:List AV)(s:AS):List Hn->HC
 |.zq p::hs=>arI P G ops p hs fr s
 |.z c::hs=>arA P G ops c hs fr s
 |.za::hs=>aIP P G ops hs fr s
 |hs=>(match TN ops.toList with|true=>aWH (wS P G ops ops.toList hs fr s)|false=>aWG P G ops hs fr s)
def arK(P:Program)(G:AN)(ops:Array Oper)(d:Bool)(hs:List Hn)(fr:List AV)(s:AS):HC:=match d with|false=>arG P G ops ops.toList hs fr s|true=>(match Oh ops with|true=>aIR P G ops fr s hs|false=>none)
def O6(P:Program)(G:AN):Code->List Hn->List AV->AS->HC
 |.skip,hs,fr,s=>some (.normal,hs,[],fr,s)
 |.exit id,hs,fr,s=>some (.exit id,hs,[],fr,s)
 |.ret,hs,fr,s=>some (.ret,hs,[],fr,s)
 |.seq x y,hs,fr,s=>(match O6 P G x hs fr s with|some (.normal,UX,cd,YV,s1)=>nO cd (O6 P G y UX YV s1)|r=>r)
 |.cond q x y,hs,fr,s=>(match AP G fr q with|some (.sc (.bool true))=>O6 P G x hs fr s|some (.sc (.bool false))=>O6 P G y hs fr s|_=>none)
 |.block id c,hs,fr,s=>(match O6 P G c hs fr s with|some (e,UX,cd,YV,s1)=>some (GU id e,UX,cd,YV,s1)|none=>none)
 |.region _ ops d,hs,fr,s=>(match hs with
  |.n l::hs=>(match nzs l fr s with|some (fr2,s2)=>arK P G ops d hs fr2 s2|none=>none)
  |.f id b b2::hs=>(match look id s.h with|some b0=>nO [.eqx [some b0] [some b] [] [],.rd s.nr b b2] (arK P G ops d hs fr ⟨T9 id b2 s.h,s.nx,(s.nr,0)::s.F,s.nr+1⟩)|none=>none)
  |hs=>arK P G ops d hs fr s)
 |_,_,_,_=>none
section
variable {P:Program}{G:AN}{ops:Array Oper}
def agG{fr:List AV}{s s1:AS}{o:Oper}{hs hs':List Hn}{v:AV}{cd:List Cd}(h:aAY P G ops fr s o hs=some (v,s1,hs',cd))(hc:Ub P G cd):J P G (XS P G) H0 (.op ops o fr s (.pan v) s1):=by unfold aAY at h;split at h;rw[Pk] at h;split at h;rename_i hw;split at h;rename_i h1;cases h;exact .U4 hw h1 (.ext hc.1);rename_i h1;cases h;exact .aJU hw h1;cases h;cases h;rw[Pk] at h;split at h;rename_i hw;split at h;rename_i h1;cases h;exact .U4 hw h1 (.ext (hc.1 s hc.2.1.1 hc.2.1.2));cases h;cases h;cases h
def aAW{l:List Oper}{k:Nat}(hk:l=ops.toList.drop k){hs hs':List Hn}{fr BM:List AV}{s s':AS}{e:AX}{cd:List Cd}(h:arG P G ops l hs fr s=some (e,hs',cd,BM,s'))(hc:Ub P G cd):J P G (XS P G) H0 (.ops ops (List.range' k l.length) fr s e BM s'):=by
 induction l generalizing k hs fr s cd with
 |nil=>simp only[arG] at h;cases h;exact .auQ
 |cons o l ih=>
  obtain⟨k1,k2⟩:=drop_cons hk;simp only[arG] at h;split at h;rename_i v s1 UX cd1 h1;cases h;rw[bhE,bpZ];exact .auR (by rw[<- biO];exact k1) (agG h1 hc);split at h;rename_i v s1 UX cd1 h1;unfold nO at h;split at h;rename_i e2 nU cd2 fr2 s2 h2;cases h;obtain⟨c1,c2⟩:=hc.WH;rw[bhE,bpZ];exact .ahJ (by rw[<- biO];exact k1) (RG h1 c1) (ih k2 h2 c2);cases h;cases h
def aAX{l:List Oper}{q:Nat}(Dc:TN l=true){hs hs':List Hn}{fr BM:List AV}{s s':AS}{cd:List Cd}(h:wS P G ops l hs fr s=some (hs',cd,BM,s'))(hc:Ub P G cd):s'=s/\∃t,VO P G (XS P G) H0 ops q l fr s t BM s/\∀x∈t,x.2.1=s:=by
 induction l generalizing hs fr cd s with
 |nil=>simp only[wS] at h;cases h;exact⟨rfl,[],.nil,λx hx=>by cases hx⟩
 |cons o l ih=>
  simp only[TN] at Dc;split at Dc
  ·rename_i Z8
   simp only[wS] at h;split at h
   ·rename_i v s1 UX cd1 h1
    unfold aIT at h;split at h
    ·rename_i nU cd2 fr2 s2 h2
     cases h;obtain⟨c1,c2⟩:=hc.WH;obtain⟨h1,hA⟩:=VE h1;have hj:=RG h1 c1
     have hna:BX o.op=false:=by cases ha:BX o.op with|false=>rfl|true=>obtain⟨e,he⟩:=L8 ha;rw[he] at Z8;simp[steady,quiet] at Z8
     have UX:s1=s:=by
      cases hq:quiet o.op with
      |true=>exact(KS hq hj).1
      |false=>
       unfold steady at Z8;rw[hq] at Z8;simp only at Z8;split at Z8;rename_i cl rO;split at Z8;rename_i f IX;unfold nN at h1;split at h1;unfold hDo at h1;rw[rO] at h1;simp only[IX] at h1;unfold gM at h1;split at h1;split at h1;cases h1;rfl;cases h1;have:=hA (by rw[rO];simp[P1,IX]);simp[rX] at this;have:=hA (by rw[rO];simp[P1,IX]);simp[rX] at this;have:=hA (by rw[rO];simp[P1,IX]);simp[rX] at this;cases h1;cases h1;rfl;cases Z8;cases Z8
     subst UX;obtain⟨e,t,ht,IN⟩:=ih Dc h2 c2;subst e
     exact⟨rfl,_,.cons hna hj ht,λx hx=>by
      rcases bhJ.1 hx with rfl | hx
      rfl;exact IN x hx⟩
    cases h
   cases h
  cases Dc
def ZJ{l:List Oper}(Dc:TN l=true){i:Nat}{o:Oper}(ho:l[i]?=some o):steady o.op=true:=by
 induction l generalizing i with
 |nil=>simp at ho
 |cons x l ih=>
  simp only[TN] at Dc;split at Dc;rename_i Z8;cases i with|zero=>simp at ho;subst ho;exact Z8|succ i=>exact ih Dc (by simpa using ho)
  cases Dc
def acE{X:YY}{H:VM}{id:Nat}{fr BM:List AV}{s:AS}{t:List (List AV×AS×AV)}(IQ:Oh ops=true)(Dc:TN ops.toList=true)(h:VO P G X H ops s.nx ops.toList fr s t BM s)(IN:∀x∈t,x.2.1=s):J P G X H (.code (.region id ops true) fr s .normal BM s):=by
 have hlen:t.length=ops.size:=by rw[h.len,biR]
 obtain⟨h0,WN⟩:=h.at
 have hsa:∀i,GI t s i=s:=by intro i;unfold GI;split;rename_i x hx;exact IN x (aWR hx);rfl
 have acR:∀i o,ops[i]?=some o->Cn ops i=o.dst:=λi o ho=>by unfold Cn;rw[ho];rfl
 obtain⟨Zd,gY⟩:=h.qW (Cn ops) (LS t) fr 0 rfl (λi o ho=>by rw[bhC];exact acR i o (by rw[<- biO];exact ho)) (λi=>.inl (by rw[bhC]));rw[bhC,biR] at Zd
 have hna:∀(i:Nat)(o:Oper),ops[i]?=some o->BX o.op=false:=by intro i o ho;have:=ZJ Dc (Cl ho);cases ha:BX o.op with|false=>rfl|true=>obtain⟨e,he⟩:=L8 ha;rw[he] at this;simp[steady,quiet] at this
 have hj:∀i o,ops[i]?=some o->J P G X H (.op ops o (Js fr (Cn ops) (LS t) (λ_=>true) i) s (.ret (LS t i)) s):=by
  intro i o ho;obtain⟨fi,h1,h2⟩:=WN i o (Cl ho);have:=gY i _ h1;simp only[bhC] at this;rcases h2 with ⟨_,h2⟩ | ⟨h2,_⟩
  rw[<- this];rw[hsa,hsa] at h2;exact h2;rw[hna i o ho] at h2;cases h2
 have key:=J.draw (P:=P) (G:=G) (X:=X) (H:=H) (id:=id) (f0:=fr) (s0:=s) [] (LS t) (λ_=>s) rfl IQ (λi o ho _=>hj i o ho) (λi o ho hq=>⟨rfl,by
  obtain⟨_,h2⟩:=KS hq (hj i o ho);rcases h2 with h2 | ⟨hw,h2⟩
  exact .inl h2;exact .inr ⟨hw,λk _ _=>h2⟩⟩) (λi o e ho he=>by have:=hna i o ho;rw[he] at this;cases this)
 rw[<- Zd] at key;exact key
def wR{fr:List AV}{s s1:AS}{o:Oper}{hs UX:List Hn}{v:AV}{cd:List Cd}(Z8:steady o.op=true)(h:wQ P G ops fr s o hs=some (v,s1,UX,cd))(hc:Ub P G cd):J P G (XS P G) H0 (.op ops o fr s (.ret v) s):=by
 obtain⟨h1,hA⟩:=VE h;have hj:=RG h1 hc
 have UX:s1=s:=by
  cases hq:quiet o.op with
  |true=>exact(KS hq hj).1
  |false=>
   unfold steady at Z8;rw[hq] at Z8;simp only at Z8;split at Z8;rename_i cl rO;split at Z8;rename_i f IX;unfold nN at h1;split at h1;unfold hDo at h1;rw[rO] at h1;simp only[IX] at h1;unfold gM at h1;split at h1;split at h1;cases h1;rfl;cases h1;have:=hA (by rw[rO];simp[P1,IX]);simp[rX] at this;have:=hA (by rw[rO];simp[P1,IX]);simp[rX] at this;have:=hA (by rw[rO];simp[P1,IX]);simp[rX] at this;cases h1;cases h1;rfl;cases Z8;cases Z8
 rw[UX] at hj;exact hj
def aqS{f0:List AV}{dst:Nat->Option Tmp}{vals:Nat->AV}{k:Nat}:Js f0 dst vals (λ_=>true) (k+1)=JB (Js f0 dst vals (λ_=>true) k) (dst k) (vals k):=by simp only[Js,if_true]
def arH{p:Nat}{s:AS}{f0:List AV}{vals:Nat->AV}:∀{l:List Oper}{i:Nat}{hs hs':List Hn}{fr:List AV}{vs:List AV}{cd:List Cd}{r:Option (AV×AS)},gQ P G ops (I7 ops.toList []) p s l i hs fr=some (vs,hs',cd,r)->l=ops.toList.drop i->Ub P G cd->fr=Js f0 (Cn ops) vals (λ_=>true) i->(∀j,vals (i+j)=vs.getD j (.sc undef)) ->
 (∀j o,i<=j->ops[j]?=some o->j≠p->(p < j->VB (I7 ops.toList []) j p=false)->J P G (XS P G) H0 (.op ops o (Js f0 (Cn ops) vals (λ_=>true) j) s (.ret (vals j)) s)) /\
 (i<=p->∀v s2,r=some (v,s2)->∃o,ops[p]?=some o/\J P G (XS P G) H0 (.op ops o (Js f0 (Cn ops) vals (λ_=>true) p) s (.pan v) s2))/\(p < i->r=none):=by
 intro l
 induction l with
 |nil=>
  intro i hs hs' fr vs cd r h hl hc Ob hv;simp only[gQ] at h;cases h
  have hsz:ops.size<=i:=by have:=congrArg bmC hl;simp only[biV,bhI,biR] at this;omega
  exact⟨λj o hj ho=>by have:=(aPB.1 ho).1;omega,(λ_ v s2 e=>by cases e),λ_=>rfl⟩
 |cons o l ih=>
  intro i hs hs' fr vs cd r h hl hc Ob hv;obtain⟨k1,k2⟩:=drop_cons hl;have ho:ops[i]?=some o:=by rw[<- biO];exact k1
  have hd:Cn ops i=o.dst:=by unfold Cn;rw[ho];rfl
  have next:∀{v0:AV}{vs2:List AV},vs=v0::vs2->vals i=v0/\JB fr o.dst v0=Js f0 (Cn ops) vals (λ_=>true) (i+1)/\∀j,vals (i+1+j)=vs2.getD j (.sc undef):=by
   intro v0 vs2 e;subst e;have h0:vals i=v0:=by have:=hv 0;simpa using this
   refine⟨h0,?_,λj=>?_⟩;rw[aqS,hd,h0,Ob];have:=hv (j+1);rw[show i+1+j=i+(j+1) by omega,this];simp
  simp only[gQ] at h;split at h
  ·rename_i hb
   have hip:=bjK hb;split at h
   ·rename_i v s2 nU cd1 h1
    unfold aIY at h;split at h
    ·rename_i vs2 hs3 cd2 h2
     cases h;obtain⟨c1,c2⟩:=hc.WH;obtain⟨n1,n2,n3⟩:=next rfl
     obtain⟨q1,q2,q3⟩:=ih h2 k2 c2 n2 n3;refine⟨λj o' hj Wj hjp alE=>?_,λ_ v' s2' e=>?_,λh=>by omega⟩;exact q1 j o' (by omega) Wj hjp alE;cases e;refine⟨o,hip▸ho,?_⟩;have:=agG h1 c1;rw[Ob,hip] at this;exact this
    cases h
   cases h
  ·rename_i hb
   have hip:=blR hb;split at h
   ·rename_i hbe
    unfold rP at h;split at h
    ·rename_i vs2 hs3 cd2 r2 h2
     cases h;obtain⟨n1,n2,n3⟩:=next rfl
     obtain⟨q1,q2,q3⟩:=ih h2 k2 hc n2 n3;unfold behind at hbe;split at hbe;rename_i hlt;have hlt:p < i:=bhG hlt;refine⟨λj o' hj Wj hjp alE=>?_,λh=>by omega,λ_=>q3 (by omega)⟩;by_cases e:j=i;subst e;rw[alE hlt] at hbe;cases hbe;exact q1 j o' (by omega) Wj hjp alE;cases hbe
    cases h
   ·split at h
    ·rename_i Dc
     split at h
     ·rename_i v s1 nU cd1 h1
      unfold rP at h;split at h
      ·rename_i vs2 hs3 cd2 r2 h2
       cases h;obtain⟨c1,c2⟩:=hc.WH;obtain⟨n1,n2,n3⟩:=next rfl
       obtain⟨q1,q2,q3⟩:=ih h2 k2 c2 n2 n3;refine⟨λj o' hj Wj hjp alE=>?_,λh v' s2' e=>q2 (by omega) v' s2' e,λh=>q3 (by omega)⟩;by_cases e:j=i;subst e;rw[ho] at Wj;cases Wj;have:=wR Dc h1 c1;rw[Ob] at this;rw[n1];exact this;exact q1 j o' (by omega) Wj hjp alE
      cases h
     cases h
    cases h
def arJ{id p:Nat}(IQ:Oh ops=true){hs hs':List Hn}{fr BM:List AV}{s s':AS}{e:AX}{cd:List Cd}(h:arI P G ops p hs fr s=some (e,hs',cd,BM,s'))(hc:Ub P G cd):J P G (XS P G) H0 (.code (.region id ops true) fr s e BM s'):=by unfold arI at h;split at h;rename_i vs nU cd1 v s2 h1;cases h;obtain⟨q1,q2,_⟩:=arH (f0:=fr) (vals:=λj=>vs.getD j (.sc undef)) h1 rfl hc rfl (λj=>by rw[bhC]);obtain⟨o,ho,hj⟩:=q2 (bjI _) _ _ rfl;refine .sem λhm=>adZ (vals:=λj=>vs.getD j (.sc undef)) hm IQ (aPB.1 ho).1 (λi o' Wj hi hd=>sound (UP hm) (q1 i o' (bjI _) Wj hi hd)) (λo' Wj=>?_);rw[ho] at Wj;cases Wj;exact sound (UP hm) hj;cases h
def rG{ops:Array Oper}{id:Nat}{d:Bool}{hs hs':List Hn}{fr BM:List AV}{s s':AS}{e:AX}{cd:List Cd}(h:arK P G ops d hs fr s=some (e,hs',cd,BM,s'))(hc:Ub P G cd):J P G (XS P G) H0 (.code (.region id ops d) fr s e BM s'):=by
 unfold arK at h;cases d with
 |false=>
  simp only at h;have:=aAW (ops:=ops) (k:=0) (by simp) h hc;refine .region ?_;rw[biR] at this;rw[List.range_eq_range'];exact this
 |true=>
  simp only at h;split at h;rename_i IQ;unfold aIR at h;split at h;exact arJ IQ h hc;unfold arA at h;split at h;rename_i UU;split at h;rename_i hl;split at h;rename_i Sb;cases h;exact akV IQ UU hl Sb hc;cases h;cases h;cases h;unfold aIP at h;split at h;rename_i Sb;split at h;rename_i hrd;cases h;exact aqA IQ Sb hrd hc;cases h;cases h;split at h;rename_i Dc;unfold aWH at h;split at h;rename_i h1;cases h;obtain⟨e,t,ht,IN⟩:=aAX (q:=s.nx) Dc h1 hc;subst e;exact acE IQ Dc ht IN;cases h;unfold aWG at h;split at h;rename_i r hr;split at h;rename_i UX cd1 t YV s1 htr;split at h;rename_i hi;split at h;rename_i asA;cases h;exact aqC IQ hr htr hc hi asA;cases h;cases h;cases h;cases h;cases h
def aqZ(c:Code){hs hs':List Hn}{fr BM:List AV}{s s':AS}{e:AX}{cd:List Cd}(h:O6 P G c hs fr s=some (e,hs',cd,BM,s'))(hc:Ub P G cd):J P G (XS P G) H0 (.code c fr s e BM s'):=by
 induction c generalizing hs hs' fr BM s s' e cd with
 |skip=>simp only[O6] at h;cases h;exact .skip
 |exit id=>simp only[O6] at h;cases h;exact .exit
 |ret=>simp only[O6] at h;cases h;exact .ret
 |seq x y ihx ihy=>
  simp only[O6] at h;cases hx:O6 P G x hs fr s with
  |none=>rw[hx] at h;cases h
  |some r=>
   obtain⟨e1,UX,cd1,YV,s1⟩:=r;rw[hx] at h;cases e1 with
   |normal=>
    simp only at h;unfold nO at h;split at h;rename_i e2 nU cd2 fr2 s2 h2;cases h;obtain⟨c1,c2⟩:=hc.WH;exact .seq (ihx hx c1) (ihy h2 c2);cases h
   |exit id=>simp only at h;cases h;exact .aeM (ihx hx hc) (by simp)
   |ret=>simp only at h;cases h;exact .aeM (ihx hx hc) (by simp)
   |pan v=>simp only at h;cases h;exact .aeM (ihx hx hc) (by simp)
 |cond q x y ihx ihy=>
  simp only[O6,CE] at h;split at h;rename_i hq;exact .cond hq (ihx h hc);rename_i hq;exact .cond hq (ihy h hc);cases h
 |block id c ih=>
  simp only[O6] at h;split at h;rename_i h1;cases h;exact .block (ih h1 hc);cases h
 |region id ops d=>
  simp only[O6] at h;split at h;split at h;rename_i hz;exact .ayP (λcx w vs h1 h2=>auN hz cx w vs h1 h2) (rG h hc);cases h;split at h;rename_i b0 hb;unfold nO at h;split at h;rename_i h1;cases h;obtain⟨c1,c2⟩:=hc.WH;refine .ayP (λcx w vs hs hf=>?_) (rG h1 c2);have hbb:b0=_:=biA (List.cons.inj c1.1.1).1;subst hbb;obtain⟨x,st⟩:=hs.tok;exact⟨_,x,st.adY hb (λo ho=>c1.2.1 _ _ _ (by simp[hs.Ia]) ho),hf.mono x⟩;cases h;cases h;exact rG h hc
 |_=>simp only[O6] at h;cases h
def VF:Code->Bool
 |.loop _=>true
 |.seq x y=>VF x||VF y
 |.cond _ x y=>VF x||VF y
 |.block _ c=>VF c
 |_=>false
abbrev HP:=Option (Code×List Hn×List Cd×List AV×AS)
end
structure PC(P:Program)(G:AN) where
 hn:Hn
 cd:List Cd
 ok:Ub P G cd
def pHs{P:Program}{G:AN}:List (PC P G)->List Hn
 |[]=>[]
 |p::l=>p.hn::pHs l
def Ug{P:Program}{G:AN}:List (PC P G)->List Cd
 |[]=>[]
 |p::l=>p.cd++Ug l
def Ub.join{P:Program}{G:AN}{l m:List Cd}(h:Ub P G l)(k:Ub P G m):Ub P G (l++m):=by induction l with|nil=>exact k|cons c l ih=>exact⟨h.1,ih h.2⟩
def Nu{P:Program}{G:AN}(l:List (PC P G)):Ub P G (Ug l):=by induction l with|nil=>trivial|cons p l ih=>exact p.ok.join ih
inductive KI where
 |code (c:Code)
 |WK (id:Nat)
 |loop (c:Code)
def CY(P:Program)(G:AN):List KI->(AX->List AV->AS->Prop)->AX->List AV->AS->Prop
 |[],Q=>Q
 |.code k::ks,Q=>pA P G (XS P G) H0 k (CY P G ks Q)
 |.WK id::ks,Q=>Fe id (CY P G ks Q)
 |.loop c::ks,Q=>aJM P G (XS P G) H0 c (CY P G ks Q)
inductive Sq where
 |at (id:Nat) (c:Code) (ks:List KI)
 |fin (e:AX)
abbrev HR:=Option (Sq×List Hn×List Cd×List AV×AS)
def arF(cd:List Cd):HR->HR
 |some (c,hs,cd',fr,s)=>some (c,hs,cd++cd',fr,s)
 |none=>none
def QQ(r:Code->List KI->List Hn->List AV->AS->HR):List KI->AX->List Hn->List AV->AS->HR
 |[],e,hs,fr,s=>some (.fin e,hs,[],fr,s)
 |.code k::ks,.normal,hs,fr,s=>r k ks hs fr s
 |.code _::ks,e,hs,fr,s=>QQ r ks e hs fr s
 |.WK id::ks,.exit T5,hs,fr,s=>(match biS T5 id with|true=>QQ r ks .normal hs fr s|false=>QQ r ks (.exit T5) hs fr s)
 |.WK _::ks,e,hs,fr,s=>QQ r ks e hs fr s
 |.loop c::ks,.normal,hs,fr,s=>(match hs with|.sb (.map [] 0) (.map [] 0)::hs=>r c (.loop c::ks) hs fr s|hs=>(match ks with|.WK id::ks=>some (.at id c ks,hs,[],fr,s)|_=>none))
 |.loop _::ks,e,hs,fr,s=>QQ r ks e hs fr s
def Su(P:Program)(G:AN):Nat->Code->List KI->List Hn->List AV->AS->HR
 |0,_,_,_,_,_=>none
 |n+1,c,ks,hs,fr,s=>(match VF c with
  |false=>(match O6 P G c hs fr s with|some (e,UX,cd,YV,s1)=>arF cd (QQ (Su P G n) ks e UX YV s1)|none=>none)
  |true=>(match c with
   |.seq x y=>Su P G n x (.code y::ks) hs fr s
   |.block id (.loop c)=>(match hs with|.sb (.map [] 0) (.map [] 0)::hs=>Su P G n c (.loop c::.WK id::ks) hs fr s|hs=>some (.at id c ks,hs,[],fr,s))
   |.block id c=>Su P G n c (.WK id::ks) hs fr s
   |.cond q x y=>(match AP G fr q with|some (.sc (.bool true))=>Su P G n x ks hs fr s|some (.sc (.bool false))=>Su P G n y ks hs fr s|_=>none)
   |_=>none))
section
variable {P:Program}{G:AN}
def SqQ(P:Program)(G:AN)(Q:AX->List AV->AS->Prop)(fr:List AV)(s:AS):Sq->Prop
 |.at id c ks=>WL P G (XS P G) H0 c fr s (Fe id (CY P G ks Q))
 |.fin e=>Q e fr s
def QC{k:Code}{ks:List KI}{Q:AX->List AV->AS->Prop}{e:AX}{fr:List AV}{s:AS}(he:e≠.normal)(h:CY P G ks Q e fr s):CY P G (.code k::ks) Q e fr s:=by cases e with|normal=>exact absurd rfl he|exit id=>exact h|ret=>exact h|pan v=>exact h
def QD{k:Code}{ks:List KI}{Q:AX->List AV->AS->Prop}{e:AX}{fr:List AV}{s:AS}(he:e≠.normal)(h:CY P G ks Q e fr s):CY P G (.loop k::ks) Q e fr s:=by cases e with|normal=>exact absurd rfl he|exit id=>exact h|ret=>exact h|pan v=>exact h
def agH{r:Code->List KI->List Hn->List AV->AS->HR}{Q:AX->List AV->AS->Prop}
   (hr:∀(c:Code)(ks:List KI){sp:Sq}{hs hs':List Hn}{fr BM:List AV}{s s':AS}{cd:List Cd},r c ks hs fr s=some (sp,hs',cd,BM,s')->Ub P G cd->SqQ P G Q BM s' sp->W P G (XS P G) H0 c fr s (CY P G ks Q)):
   ∀(ks:List KI)(e:AX){sp:Sq}{hs hs':List Hn}{fr BM:List AV}{s s':AS}{cd:List Cd},QQ r ks e hs fr s=some (sp,hs',cd,BM,s')->Ub P G cd->SqQ P G Q BM s' sp->CY P G ks Q e fr s:=by
 intro ks
 induction ks with
 |nil=>intro e sp hs hs' fr BM s s' cd h hc hk;simp only[QQ] at h;cases h;exact hk
 |cons k ks ih=>
  intro e sp hs hs' fr BM s s' cd h hc hk;cases k with
  |code c=>
   cases e with|normal=>simp only[QQ] at h;exact hr c ks h hc hk|exit id=>simp only[QQ] at h;exact QC (by simp) (ih _ h hc hk)|ret=>simp only[QQ] at h;exact QC (by simp) (ih _ h hc hk)|pan v=>simp only[QQ] at h;exact QC (by simp) (ih _ h hc hk)
  |WK id=>
   show CY P G ks Q (GU id e) fr s;cases e with
   |normal=>simp only[QQ] at h;exact ih _ h hc hk
   |ret=>simp only[QQ] at h;exact ih _ h hc hk
   |pan v=>simp only[QQ] at h;exact ih _ h hc hk
   |exit T5=>
    simp only[QQ] at h;split at h;rename_i hb;have:=beq_true hb;subst this;have e1:GU T5 (.exit T5)=.normal:=by simp[GU]
    rw[e1];exact ih _ h hc hk;rename_i hb;have:=beq_false hb;have e1:GU id (.exit T5)=.exit T5:=by simp[GU,this]
    rw[e1];exact ih _ h hc hk
  |loop c=>
   cases e with
   |normal=>
    simp only[QQ] at h;split at h;exact afN (hr c (.loop c::ks) h hc hk);split at h;cases h;exact hk;cases h
   |exit id=>simp only[QQ] at h;exact QD (by simp) (ih _ h hc hk)
   |ret=>simp only[QQ] at h;exact QD (by simp) (ih _ h hc hk)
   |pan v=>simp only[QQ] at h;exact QD (by simp) (ih _ h hc hk)
def rH{Q:AX->List AV->AS->Prop}:∀(n:Nat)(c:Code)(ks:List KI){sp:Sq}{hs hs':List Hn}{fr BM:List AV}{s s':AS}{cd:List Cd},Su P G n c ks hs fr s=some (sp,hs',cd,BM,s')->Ub P G cd->SqQ P G Q BM s' sp->W P G (XS P G) H0 c fr s (CY P G ks Q):=by
 intro n
 induction n with
 |zero=>intro c ks sp hs hs' fr BM s s' cd h;simp only[Su] at h;cases h
 |succ n ih=>
  intro c ks sp hs hs' fr BM s s' cd h hc hk;simp only[Su] at h;split at h;split at h;rename_i e UX cd1 YV s1 h1;unfold arF at h;split at h;rename_i h2;cases h;obtain⟨c1,c2⟩:=hc.WH;exact⟨_,_,_,aqZ c h1 c1,agH ih ks e h2 c2 hk⟩;cases h;cases h;split at h;exact aHT (ih _ _ h hc hk);split at h;exact cR (aoF (afN (ih _ (.loop _::.WK _::ks) h hc hk)));cases h;exact cR (aoF hk);exact cR (ih _ _ h hc hk);rw[CE] at h;split at h;rename_i hq;exact azG hq (ih _ _ h hc hk);rename_i hq;exact azF hq (ih _ _ h hc hk);cases h;cases h
end
def sub:Code->List Nat->Code
 |c,[]=>c
 |.seq x _,0::l=>sub x l
 |.seq _ y,_::l=>sub y l
 |.cond _ x _,0::l=>sub x l
 |.cond _ _ y,_::l=>sub y l
 |.block _ c,_::l=>sub c l
 |.loop c,_::l=>sub c l
 |c,_=>c
def BJ(fn:Func):Code:=fn.body.getD .skip
def obv(n:Nat):AV->Bool
 |.sc _=>true
 |.any=>true
 |.ptr id _=>blF id n
 |.mp id=>blF id n
 |.Im id _ _=>blF id n
 |_=>false
theorem aQI{n m:Nat}{a:AV}(h:obv n a=true):Fits n m a a:=by refine .under ?_;cases a<;>simp only[obv] at h<;>first | rfl | (cases h;done) | exact decide_eq_true (bhG h)
structure FP(n m:Nat) where
 a:AV
 b:AV
 h:Fits n m a b
structure FB(n m:Nat) where
 a:Ay
 b:Ay
 h:Uw n m a b
def fpA{n m:Nat}:List (FP n m)->List AV
 |[]=>[]
 |p::l=>p.a::fpA l
def fpB{n m:Nat}:List (FP n m)->List AV
 |[]=>[]
 |p::l=>p.b::fpB l
def fbA{n m:Nat}:List (FB n m)->List Ay
 |[]=>[]
 |p::l=>p.a::fbA l
def fbB{n m:Nat}:List (FB n m)->List Ay
 |[]=>[]
 |p::l=>p.b::fbB l
abbrev MR:=Option (List AV×List AV)
def xU(b:AV):MR->MR
 |some (l,as)=>some (b::l,as)
 |none=>none
def atL(a b:AV):MR->MR
 |some (l,as)=>some (b::l,a::as)
 |none=>none
def atM(r:List AV->MR)(n:Nat)(a:AV)(bs:List AV):MR:=match obv n a with|true=>xU a (r bs)|false=>none
def aCC(r:List AV->MR)(a:AV):List AV->MR
 |b::bs=>atL a b (r bs)
 |[]=>none
def oC(r:List AV->MR)(a:AV)(bs:List AV):MR:=match cX a with|true=>xU .any (r bs)|false=>none
def mC(n:Nat):List AV->Nat->List Nat->List AV->MR
 |[],_,_,[]=>some ([],[])
 |[],_,_,_::_=>none
 |a::l,i,[],bs=>oC (mC n l (i+2) []) a bs
 |a::l,i,t::ts,bs=>(match biS t i with|true=>atM (mC n l (i+2) ts) n a bs|false=>(match biS t (i+1) with|true=>aCC (mC n l (i+2) ts) a bs|false=>oC (mC n l (i+2) (t::ts)) a bs))
section
variable {n m:Nat}{r:List AV->MR}{l:List AV}(hr:∀(WM:List (FP n m)) l2,r (fpB WM)=some (l2,fpA WM)->Lw n m l l2){a:AV}{WM:List (FP n m)}{l2:List AV}
include hr
theorem atN(h:atM r n a (fpB WM)=some (l2,fpA WM)):Lw n m (a::l) l2:=by unfold atM at h;split at h;rename_i ho;unfold xU at h;split at h;rename_i l3 as h1;cases h;exact .cons (aQI ho) (hr WM _ h1);cases h;cases h
theorem aCD(h:aCC r a (fpB WM)=some (l2,fpA WM)):Lw n m (a::l) l2:=by
 cases WM with
 |nil=>cases h
 |cons p WM=>
  simp only[fpB,aCC] at h;unfold atL at h;split at h;rename_i l3 as h1;simp only[fpA,atS,aWN,bnJ] at h;obtain⟨rfl,rfl,rfl⟩:=h;exact .cons p.h (hr WM _ h1);cases h
theorem xV(h:oC r a (fpB WM)=some (l2,fpA WM)):Lw n m (a::l) l2:=by unfold oC at h;split at h;rename_i hd;unfold xU at h;split at h;rename_i l3 as h1;cases h;exact .cons (.drop hd) (hr WM _ h1);cases h;cases h
end
theorem aCI{n m:Nat}:∀{l:List AV}{i:Nat}{ts:List Nat}{WM:List (FP n m)}{l2:List AV},mC n l i ts (fpB WM)=some (l2,fpA WM)->Lw n m l l2:=by
 intro l
 induction l with
 |nil=>
  intro i ts WM l2 h;cases WM with|nil=>simp only[fpB,mC] at h;cases h;exact .nil|cons p WM=>simp only[fpB,mC] at h;cases h
 |cons a l ih=>
  intro i ts WM l2 h;cases ts with
  |nil=>simp only[mC] at h;exact xV (λWM l2 h=>ih h) h
  |cons t ts=>
   simp only[mC] at h;split at h;exact atN (λWM l2 h=>ih h) h;split at h;exact aCD (λWM l2 h=>ih h) h;exact xV (λWM l2 h=>ih h) h
abbrev BR:=Option (List (Nat×Ay)×List Ay)
def aHW(id:Nat)(a b:Ay):BR->BR
 |some (l,as)=>some ((id,b)::l,a::as)
 |none=>none
def abW:List (Nat×Ay)->List Ay->BR
 |[],[]=>some ([],[])
 |e::l,b::bs=>aHW e.1 e.2 b (abW l bs)
 |_,_=>none
theorem azR{n m:Nat}:∀{l:List (Nat×Ay)}{fbs:List (FB n m)}{l2:List (Nat×Ay)},abW l (fbB fbs)=some (l2,fbA fbs)->(∀k,Ld l k->Ld l2 k)/\∀id b,look id l2=some b->∃b',look id l=some b'/\Uw n m b' b:=by
 intro l
 induction l with
 |nil=>
  intro fbs l2 h;cases fbs with|nil=>simp only[fbB,abW] at h;cases h;exact⟨λ_ _=>trivial,λid b h=>by cases h⟩|cons p fbs=>simp only[fbB,abW] at h;cases h
 |cons e l ih=>
  intro fbs l2 h;cases fbs with
  |nil=>simp only[fbB,abW] at h;cases h
  |cons p fbs=>
   simp only[fbB,abW] at h;unfold aHW at h;split at h;rename_i l3 as h1;simp only[fbA,atS,aWN,bnJ] at h;obtain⟨rfl,h2,rfl⟩:=h;obtain⟨hd,hl⟩:=ih h1;refine⟨λk hk=>⟨hk.1,hd _ hk.2⟩,λid b hb=>?_⟩;simp only[look] at hb ⊢;split at hb;cases hb;exact⟨e.2,rfl,by rw[h2];exact p.h⟩;exact hl id b hb;cases h
def T4(m:Nat):List (Nat×Nat)->List (Nat×Nat)
 |[]=>[]
 |x::l=>match blF x.1 m with|true=>x::T4 m l|false=>T4 m l
theorem wI{m r n:Nat}{l:List (Nat×Nat)}(h:DV r (T4 m l)=some n):DV r l=some n/\r < m:=by
 induction l with
 |nil=>cases h
 |cons x l ih=>
  simp only[T4] at h;split at h;rename_i hb;simp only[DV] at h ⊢;split at h;rename_i h1;have:=beq_true h1;subst this;cases h;exact⟨rfl,bhG hb⟩;exact ih h;rename_i hb;obtain⟨h1,h2⟩:=ih h;refine⟨?_,h2⟩;simp only[DV];split;rename_i h3;have:=beq_true h3;subst this;rw[show blF x.1 m=true from blI h2] at hb;cases hb;exact h1
section
variable {P:Program}{G:AN}
def pQ(G:AN)(s0:AS)(BM:List AV)(s':AS)(fr2:List AV)(s2:AS):Prop:=∀(cx:Cx)(w:World)(c':Cx)(w':World)(vs:List Value),Ext cx w c' w'->St G cx w s0->St G c' w' s'->Cw c' w' BM vs->∃c2,Ext cx w c2 w'/\St G c2 w' s2/\Cw c2 w' fr2 vs
abbrev RR:=Option (List AV×AS×List AV×List Ay)
def aRH(live:List Nat)(n m:Nat)(BM:List AV)(s':AS)(bs:List AV)(cs:List Ay):RR :=
 match mC n BM 0 live bs with
 |some (fr2,as)=>(match abW (PX n s'.h) cs with|some (h2,cas)=>some (fr2,⟨h2,n,T4 m s'.F,m⟩,as,cas)|none=>none)
 |none=>none
theorem wD{l:List (Nat×Ay)}{N n:Nat}(h:Ld l N):Ld (PX n l) n:=by
 induction l generalizing N with
 |nil=>trivial
 |cons e l ih=>
  simp only[PX];split;exact ih h.2;rename_i hb;refine⟨?_,h.2⟩;have:¬n<=e.1:=λhle=>by rw[blI hle] at hb;cases hb
  omega
def Ls(P:Program)(G:AN)(L:Code)(s0:AS)(Q:AX->List AV->AS->Prop):AX->List AV->AS->Prop
 |.normal,BM,s'=>∃fr2 s2,pQ G s0 BM s' fr2 s2/\WL P G (XS P G) H0 L fr2 s2 Q
 |.exit id,BM,s'=>∃fr2 s2,pQ G s0 BM s' fr2 s2/\Q (.exit id) fr2 s2
 |e,BM,s'=>Q e BM s'
theorem abO{L:Code}{fr:List AV}{s:AS}{Q:AX->List AV->AS->Prop}(h:W P G (XS P G) H0 L fr s (Ls P G L s Q)):WL P G (XS P G) H0 L fr s Q:=by
 obtain⟨e,BM,s',hj,h2⟩:=h;cases e with
 |normal=>
  obtain⟨fr2,s2,hf,e3,fr3,s3,h3,h4⟩:=h2;exact⟨e3,fr3,s3,.atA (.scope hj (λ_ h=>by cases h) (λcx w c' w' vs hx hs hs' Ob=>hf cx w c' w' vs hx hs hs' Ob)) h3,h4⟩
 |exit id=>
  obtain⟨fr2,s2,hf,h4⟩:=h2;exact⟨_,_,_,.iP (.scope hj (λ_ h=>by cases h) (λcx w c' w' vs hx hs hs' Ob=>hf cx w c' w' vs hx hs hs' Ob)) (by simp),h4⟩
 |ret=>exact⟨_,_,_,.iP hj (by simp),h2⟩
 |pan v=>exact⟨_,_,_,.iP hj (by simp),h2⟩
def fA(P:Program)(fn:Func)(m:Nat)(Q:AX->List AV->AS->Prop)(v:AV)(s2:AS):Prop:=∀fr s,Gy P s fn fr=some v->s.cut m=s2->Q .ret fr s
def mT(m:Nat)(Q:AX->List AV->AS->Prop)(v:AV)(s2:AS):Prop:=∀fr s,s.cut m=s2->Q (.pan v) fr s
theorem anF{ks:List KI}{Q:AX->List AV->AS->Prop}{fr:List AV}{s:AS}(h:Q .ret fr s):CY P G ks Q .ret fr s:=by induction ks with|nil=>exact h|cons k ks ih=>cases k<;>exact ih
theorem anE{ks:List KI}{Q:AX->List AV->AS->Prop}{fr:List AV}{s:AS}{v:AV}(h:Q (.pan v) fr s):CY P G ks Q (.pan v) fr s:=by induction ks with|nil=>exact h|cons k ks ih=>cases k<;>exact ih
theorem fA.body{fn:Func}{m:Nat}{Q:CR->AS->Prop}{v:AV}{s2:AS}(h:Q (.ret v) s2):fA P fn m (N7 P fn m Q) v s2:=λfr s h1 h2=>⟨v,h1,by rw[h2];exact h⟩
theorem mT.body{fn:Func}{m:Nat}{Q:CR->AS->Prop}{v:AV}{s2:AS}(h:Q (.pan v) s2):mT m (N7 P fn m Q) v s2:=λfr s h2=>by show Q (.pan v) (s.cut m);rw[h2];exact h
theorem fA.rnd{fn:Func}{m:Nat}{L:Code}{s0:AS}{Q:AX->List AV->AS->Prop}{v:AV}{s2:AS}(h:fA P fn m Q v s2):fA P fn m (Ls P G L s0 Q) v s2:=h
theorem mT.rnd{m:Nat}{L:Code}{s0:AS}{Q:AX->List AV->AS->Prop}{v:AV}{s2:AS}(h:mT m Q v s2):mT m (Ls P G L s0 Q) v s2:=h
def Kl(P:Program)(G:AN)(_l:List (PC P G))(Q:AX->List AV->AS->Prop)(r:HR)(X:Prop):Prop:=∀sp cd BM s',r=some (sp,[],cd,BM,s')->Ub P G cd->SqQ P G Q BM s' sp->X
theorem aZY{c:Code}{ks:List KI}{fr:List AV}{s:AS}{Q:AX->List AV->AS->Prop}(n:Nat)(l:List (PC P G)):Kl P G l Q (Su P G n c ks (pHs l) fr s) (W P G (XS P G) H0 c fr s (CY P G ks Q)):=λ_ _ _ _ h hc hk=>rH n c ks h hc hk
theorem aeH{c:Code}{fr:List AV}{s:AS}{Q:AX->List AV->AS->Prop}(n:Nat)(l:List (PC P G)):Kl P G l Q (Su P G n c [] (pHs l) fr s) (W P G (XS P G) H0 c fr s Q):=λ_ _ _ _ h hc hk=>rH n c [] h hc hk
def qV(a:AV):AV:=match cX a with|true=>.any|false=>a
theorem nH{a:AV}{c:Cx}{w:World}{v:Value}(hr:Rp c w a v):Rp c w (qV a) v:=by unfold qV;split;rename_i h;exact .any (fU hr h);exact hr
inductive Lp(γ δ ρ:Type) where
 |nx (x:γ)
 |ex (x:δ)
 |rt (r:ρ)
section loops
variable {α γ δ ρ:Type}
def MK(k:γ->Option (δ⊕ρ)):Lp γ δ ρ->Option (δ⊕ρ)
 |.nx x=>k x
 |.ex d=>some (.inl d)
 |.rt r=>some (.inr r)
def Bs(body:Nat->α->γ->Option (Lp γ δ ρ))(done:γ->δ):List α->Nat->γ->Option (δ⊕ρ)
 |[],_,x=>some (.inl (done x))
 |y::l,i,x=>(body i y x).bind (MK (Bs body done l (i+1)))
def B8(body:γ->Option (Lp γ δ ρ)):Nat->γ->Option (δ⊕ρ)
 |0,_=>none
 |n+1,x=>(body x).bind (MK (B8 body n))
def PK{β:Type}(n:Nat)(x:Option β):Option β:=if n<=9223372036854775807 then x else none
theorem bfG{β:Type}{n:Nat}{x:Option β}{r:β}(h:PK n x=some r):n<=9223372036854775807/\x=some r:=by unfold PK at h;split at h;rename_i h1;exact⟨h1,h⟩;cases h
theorem fO{β κ:Type}{m:Option κ}{k:κ->Option β}{r:β}(h:m.bind k=some r):∃y,m=some y/\k y=some r:=by cases m with|none=>cases h|some y=>exact⟨y,rfl,h⟩
def LQ(Qx:δ->Prop)(Qr:ρ->Prop):δ⊕ρ->Prop
 |.inl x=>Qx x
 |.inr r=>Qr r
def RQ(Qn:γ->Prop)(Qx:δ->Prop)(Qr:ρ->Prop):Lp γ δ ρ->Prop
 |.nx x=>Qn x
 |.ex x=>Qx x
 |.rt r=>Qr r
theorem azD{J:Type}{L:Code}{Q:AX->List AV->AS->Prop}{body:Nat->α->γ->Option (Lp γ δ ρ)}{done:γ->δ}(l:List α)(F:Nat->γ->J->List AV)(S:Nat->γ->J->AS)(Ok:J->Prop)(Qx:δ->Prop)(Qr:ρ->Prop)
   (hz:∀i x j,Ok j->l.length<=i->Qx (done x)->WL P G (XS P G) H0 L (F i x j) (S i x j) Q)
   (hs:∀i y x j r,Ok j->l[i]?=some y->i < l.length->body i y x=some r->RQ (λx'=>∀j',Ok j'->WL P G (XS P G) H0 L (F (i+1) x' j') (S (i+1) x' j') Q) Qx Qr r->WL P G (XS P G) H0 L (F i x j) (S i x j) Q):
   ∀{x:γ}{tU:δ⊕ρ}(i0:Nat),Bs body done (l.drop i0) i0 x=some tU->LQ Qx Qr tU->∀j,Ok j->WL P G (XS P G) H0 L (F i0 x j) (S i0 x j) Q:=by
 have key:∀(k:List α)(i:Nat)(x:γ)(tU:δ⊕ρ),l.drop i=k->Bs body done k i x=some tU->LQ Qx Qr tU->∀j,Ok j->WL P G (XS P G) H0 L (F i x j) (S i x j) Q:=by
  intro k
  induction k with
  |nil=>
   intro i x tU hd h hq j hj;simp only[Bs,atS] at h;subst h;exact hz i x j hj (boD.1 hd) hq
  |cons y k ih=>
   intro i x tU hd h hq j hj
   have hi:i < l.length:=by
    rcases blM i l.length with h1 | h1
    exact h1;rw[biX h1] at hd;cases hd
   have hy:l[i]?=some y:=by rw[<- blZ,hd];rfl
   have hd2:l.drop (i+1)=k:=by rw[<- bmX,hd];rfl
   obtain⟨r,hb,h⟩:=fO h;refine hs i y x j r hj hy hi hb ?_;cases r with|nx x'=>exact λj' hj'=>ih (i+1) x' tU hd2 h hq j' hj'|ex d=>simp only[MK,atS] at h;subst h;exact hq|rt v=>simp only[MK,atS] at h;subst h;exact hq
 intro x tU i0 h hq j hj;exact key _ i0 x tU rfl h hq j hj
theorem azE{J:Type}{L:Code}{Q:AX->List AV->AS->Prop}{body:γ->Option (Lp γ δ ρ)}(F:γ->J->List AV)(S:γ->J->AS)(Ok:J->Prop)(Qx:δ->Prop)(Qr:ρ->Prop)
   (hs:∀x j r,Ok j->body x=some r->RQ (λx'=>∀j',Ok j'->WL P G (XS P G) H0 L (F x' j') (S x' j') Q) Qx Qr r->WL P G (XS P G) H0 L (F x j) (S x j) Q):
   ∀(n:Nat){x:γ}{tU:δ⊕ρ},B8 body n x=some tU->LQ Qx Qr tU->∀j,Ok j->WL P G (XS P G) H0 L (F x j) (S x j) Q:=by
 intro n
 induction n with
 |zero=>intro x tU h;cases h
 |succ n ih=>
  intro x tU h hq j hj;obtain⟨r,hb,h⟩:=fO h;refine hs x j r hj hb ?_;cases r with|nx x'=>exact λj' hj'=>ih h hq j' hj'|ex d=>simp only[MK,atS] at h;subst h;exact hq|rt v=>simp only[MK,atS] at h;subst h;exact hq
def GJ(body:γ->Option (Lp γ δ ρ))(x:γ):Option (δ⊕ρ):=open Classical in if h:∃n r,B8 body n x=some r then some (bmI (bkM h)) else none
theorem agC{body:γ->Option (Lp γ δ ρ)}{x:γ}{r:δ⊕ρ}(h:GJ body x=some r):∃n,B8 body n x=some r:=by unfold GJ at h;split at h;rename_i hx;have:=bkM (bkM hx);rw[biA h] at this;exact⟨_,this⟩;cases h
theorem iF{body:γ->Option (Lp γ δ ρ)}:∀{n m:Nat}{x:γ}{r:δ⊕ρ},B8 body n x=some r->n<=m->B8 body m x=some r:=by
 intro n
 induction n with
 |zero=>intro m x r h;cases h
 |succ n ih=>
  intro m x r h hm;cases m with
  |zero=>omega
  |succ m=>
   obtain⟨a,ha,h⟩:=fO h;simp only[B8,ha,Uu];cases a with|nx x'=>exact ih h (by omega)|ex d=>exact h|rt v=>exact h
theorem BB{body:γ->Option (Lp γ δ ρ)}{n:Nat}{x:γ}{r:δ⊕ρ}(h:B8 body n x=some r):GJ body x=some r:=by unfold GJ;have hx:∃n r,B8 body n x=some r:=⟨n,r,h⟩;rw[dif_pos hx];have h2:=bkM (bkM hx);have h3:=iF h (bsG n (bmI hx));have h4:=iF h2 (brU n (bmI hx));rw[h3] at h4;rw[biA h4]
end loops
end
inductive Wn:List AV->List AV->Prop where
 |nil:Wn [] []
 |r {a:AV}{l k:List AV} (t:Wn l k):Wn (a::l) (a::k)
 |s {o:Own}{n:Nat}{cs ds l k:List AV} (h:cs=ds) (t:Wn l k):Wn (.sl o n cs::l) (.sl .lost n ds::k)
 |d {o:Own}{n:Nat}{cs ds es l k:List AV} (h:Wn cs ds) (e:ds=es) (t:Wn l k):Wn (.sl o n cs::l) (.sl .lost n es::k)
 |g {cs ds l k:List AV} (h:Wn cs ds) (t:Wn l k):Wn (.agg cs::l) (.agg ds::k)
 |u {cs ds l k:List AV} (h:Wn cs ds) (t:Wn l k):Wn (.Gx cs::l) (.Gx ds::k)
def Wn.refl:∀l:List AV,Wn l l
 |[]=>.nil
 |_::l=>.r (Wn.refl l)
def Wn.len{l k:List AV}(h:Wn l k):l.length=k.length:=by induction h with|nil=>rfl|r _ ih=>simp[ih]|s _ _ ih=>simp[ih]|d _ _ _ _ ih=>simp[ih]|g _ _ _ ih=>simp[ih]|u _ _ _ ih=>simp[ih]
section
variable {c:Cx}{w:World}
mutual
def Wn.ok:∀{l k:List AV},Wn l k->∀{vs:List Value},Cw c w l vs->Cw c w k vs
 |_,_,.nil,_,hr=>hr
 |_,_,.r t,_,hr=>by cases hr with | cons h1 t1=>exact .cons h1 (t.ok t1)
 |_,_,.s h t,_,hr=>by
  subst h;cases hr with
  |cons h1 t1=>
   refine .cons ?_ (t.ok t1);cases h1 with|sl0 _=>exact .sl0 trivial|Lt hn hc ho=>exact .Lt hn hc trivial
 |_,_,.d h e t,_,hr=>by
  subst e;cases hr with
  |cons h1 t1=>
   refine .cons ?_ (t.ok t1);cases h1 with|sl0 _=>cases h;exact .sl0 trivial|Lt hn hc ho=>exact .Lt hn (h.okC hc) trivial
 |_,_,.g h t,_,hr=>by
  cases hr with
  |cons h1 t1=>
   refine .cons ?_ (t.ok t1);cases h1 with|agg h2=>exact .agg (h.ok h2)
 |_,_,.u h t,_,hr=>by
  cases hr with
  |cons h1 t1=>
   refine .cons ?_ (t.ok t1);cases h1 with|Gx h2=>exact .Gx (h.ok h2)
def Wn.okC:∀{l k:List AV},Wn l k->∀{g o:Nat},A0 c w g o l->A0 c w g o k
 |_,_,.nil,_,_,hr=>hr
 |_,_,.r t,_,_,hr=>by cases hr with | cons hv h1 t1=>exact .cons hv h1 (t.okC t1)
 |_,_,.s h t,_,_,hr=>by
  subst h;cases hr with
  |cons hv h1 t1=>
   refine .cons hv ?_ (t.okC t1);cases h1 with|sl0 _=>exact .sl0 trivial|Lt hn hc ho=>exact .Lt hn hc trivial
 |_,_,.d h e t,_,_,hr=>by
  subst e;cases hr with
  |cons hv h1 t1=>
   refine .cons hv ?_ (t.okC t1);cases h1 with|sl0 _=>cases h;exact .sl0 trivial|Lt hn hc ho=>exact .Lt hn (h.okC hc) trivial
 |_,_,.g h t,_,_,hr=>by
  cases hr with
  |cons hv h1 t1=>
   refine .cons hv ?_ (t.okC t1);cases h1 with|agg h2=>exact .agg (h.ok h2)
 |_,_,.u h t,_,_,hr=>by
  cases hr with
  |cons hv h1 t1=>
   refine .cons hv ?_ (t.okC t1);cases h1 with|Gx h2=>exact .Gx (h.ok h2)
end
end
def Wn.WH{a b c d:List AV}(h:Wn a b)(k:Wn c d):Wn (a++c) (b++d):=by
 induction a generalizing b with
 |nil=>cases h;exact k
 |cons x a ih=>
  cases h with|r t=>exact .r (ih t)|s h t=>exact .s h (ih t)|d h e t=>exact .d h e (ih t)|g h t=>exact .g h (ih t)|u h t=>exact .u h (ih t)
def Rp.wnC{c:Cx}{w:World}{o:Own}{q:Nat}{cs ds:List AV}{u:Value}(h:Wn cs ds)(hr:Rp c w (.sl o q cs) u):Rp c w (.sl o q ds) u:=by cases hr with|sl0 h0=>cases h;exact .sl0 h0|Lt hn hc ho=>exact .Lt hn (h.okC hc) (by rw[<- h.len];exact ho)
def Fits.wn{n m:Nat}{a b:AV}(h:Wn [a] [b])(hp:AI.plain b=true):Fits n m a b:=λc w v hr=>by
 have:=h.ok (.cons hr .nil);cases this with|cons h1 _=>exact Fits.plain hp c w v h1
section
variable {P:Program}{G:AN}
def ahN(hm:P.follows .mixedOrders=true)(hG:∀g cs,G g=some cs->BC cs=true){f:FuncId}{args:List AV}{v:AV}(h:WC P G (XS P G) H0 f args s0 (λr _=>∃a,r=.ret a/\Fits 0 0 a v))(hp:BC args=true)(hv:plain v=true):Pure P G f args v:=by
 obtain⟨r,s',hj,a,rfl,hf⟩:=h;have hS:=sound (UP hm) hj;intro s cx w vs hs GL
 have H8:∀g i x,MD cx w g i x->MD ⟨w.heap.size,[],[],cx.jX⟩ w g i x:=by
  intro g i x hx;refine⟨hx.1,λGz=>?_,hx.2.2⟩;rcases Gz with Gz | ⟨r,n,cap,sz,hr,_⟩ | Gz
  cases Gz;simp at hr;exact hx.2.1 Gz
 have Dc:St G ⟨w.heap.size,[],[],cx.jX⟩ w s0 :=
  ⟨rfl,trivial,(λi j g h1=>by simp at h1),(λg hg=>by cases hg),(λid g b h1=>by simp at h1),rfl,(λr g n cap sz hr=>by simp at hr),(λr n hr=>by cases hr),(λg hg=>by cases hg),(λg i hb=>hs.Xn hb),(λr r' g n cap sz n' cap' OI hr=>by simp at hr),(λg cs hg=>A0.plain H8 (hG g cs hg) (hs.Nh g cs hg)),aWP _,hs.ON.aQC⟩
 refine(hS _ w vs Dc (Cw.plain H8 hp GL)).mono ?_;rintro e w' ⟨c',hx,_,u,rfl,hu⟩;have QR:=hx.below;obtain⟨x2,XI⟩:=hs.same (w':=w') ⟨QR.os,QR.tape,QR.output,QR.size,λk hk _=>QR.block k hk⟩;refine⟨cx,x2,XI,u,rfl,Rp.plain (c:=c'.upto 0 0) (λg i x hvv=>⟨hvv.1,λGz=>hvv.2.1 (.inr (.inr ?_)),hvv.2.2⟩) hv (hf _ _ _ hu)⟩;show c'.bad g i;rw[hx.bad];exact Gz
def Y0(P:Program)(fn:Func)(m:Nat)(Q:AX->List AV->AS->Prop)(v:AV):Prop:=∀a s2,Fits 0 0 a v->fA P fn m Q a s2
def Y0.body{fn:Func}{m:Nat}{v:AV}:Y0 P fn m (N7 P fn m (λr _=>∃a,r=.ret a/\Fits 0 0 a v)) v:=λa _ h=>.body ⟨a,rfl,h⟩
def VS{δ J:Type}(Q:AX->List AV->AS->Prop)(id:Nat)(F:δ->J->List AV)(S:δ->J->AS)(Ok:J->Prop)(d:δ):Prop:=∀j,Ok j->Q (.exit id) (F d j) (S d j)
def aZT(P:Program)(fn:Func):HR->Option (List Cd×AV)
 |some (.fin .ret,[],cd,fr,s)=>(match Gy P s fn fr with|some v=>some (cd,v)|none=>none)
 |_=>none
def rE{r:HR}{X:Prop}{Q:AX->List AV->AS->Prop}{v w:AV}(fn:Func)(m:Nat){l:List (PC P G)}(R:Kl P G l Q r X)(h:aZT P fn r=some (Ug l,v))(k:Y0 P fn m Q w)(hf:Fits 0 0 v w):X:=by unfold aZT at h;split at h;rename_i cd BM s';split at h;rename_i v' hv;simp only[atS,aWN] at h;obtain⟨rfl,rfl⟩:=h;exact R _ _ _ _ rfl (Nu l) (k _ _ hf _ _ hv rfl);cases h;cases h
def Y0.rnd{fn:Func}{m:Nat}{L:Code}{s0:AS}{Q:AX->List AV->AS->Prop}{v:AV}(h:Y0 P fn m Q v):Y0 P fn m (Ls P G L s0 Q) v:=h
def F0{δ ρ β:Type}(k:δ->Option β)(kr:ρ->Option β):δ⊕ρ->Option β
 |.inl d=>k d
 |.inr v=>kr v
def pk:PC P G:=⟨.k,[],trivial⟩
def pb{B b:Bool}(h:B=b):PC P G:=⟨.b b,[.eqb B b],⟨h,trivial⟩⟩
def pn{B b:Bool}(h:B=b):PC P G:=⟨.b (!b),[.eqb (!B) (!b)],⟨by show(!B)=(!b);rw[h],trivial⟩⟩
def aPH{i:Nat}(h:i < 9223372036854775807):OD .i64 (aoK ((i:Nat):Int) 1)=((i+1:Nat):Int):=by rw[Vr,pY];have:=ayT (i:=i+1) (by omega);rw[<- this];rfl
def bfR(i:Nat)(h:i < 9223372036854775807):PC P G:=⟨.i ((i+1:Nat):Int),[.eqi (OD .i64 (aoK ((i:Nat):Int) 1)) ((i+1:Nat):Int)],⟨aPH h,trivial⟩⟩
def AH{f:FuncId}{args:List AV}{v:AV}(h:Pure P G f args v):PC P G:=⟨.w v,[.pur f args v],⟨h,trivial⟩⟩
def Gm{f:FuncId}{args Z0:List AV}{v:AV}(w:Wn args Z0)(h:Pure P G f Z0 v):PC P G:=⟨.w v,[.pur f args v],⟨λs cx wd vs hs ha=>h s cx wd vs hs (w.ok ha),trivial⟩⟩
def ED{t:TypeId}{a b v:AV}(h:CQ P t a b=some v):PC P G:=⟨.w v,[.idx t a b v],⟨h,trivial⟩⟩
def Uv{t:TypeId}{a b v:AV}(h:MH P t a b=some v):PC P G:=⟨.w v,[.ix t a b v],⟨h,trivial⟩⟩
def J4{op:BinOp}{t:TypeId}{x y:Operand}{a b v:AV}(h:N3 P op t x y a b=some v):PC P G:=⟨.w v,[.bin op t x y a b v],⟨h,trivial⟩⟩
def Tu{t:TypeId}{a:AV}{l h m:Option AV}{v:AV}(e:Nn P t a l h m=some v):PC P G:=⟨.o v,[.sli t a l h m v],⟨e,trivial⟩⟩
def A1(a b:Int):Int:=OD .i64 (aoK a b)
def Jq(a b:Int):Int:=OD .i64 (mK a b)
def Bj(a b:Int):Int:=OD .i64 (a*b)
def Dk{α:Type}(l:List α)(z:Int):Option α:=if 0<=z then l[z.toNat]? else none
structure Pg{α:Type}(f:α->List AV)(C:List α->List AV)(k:Nat):Prop where
 eq:∀l,C l=rows f l
 len:∀x,(f x).length=k
 pl:∀x,BC (f x)=true
def Pg.WH{α:Type}{f:α->List AV}{C:List α->List AV}{k:Nat}(h:Pg f C k)(l m:List α):C (l++m)=C l++C m:=by rw[h.eq,h.eq,h.eq,Mu]
def Pg.cons{α:Type}{f:α->List AV}{C:List α->List AV}{k:Nat}(h:Pg f C k)(x:α)(m:List α):C (x::m)=f x++C m:=by rw[h.eq,h.eq,Fq]
def Pg.Pa{α:Type}{f:α->List AV}{C:List α->List AV}{k:Nat}(h:Pg f C k)(l:List α):BC (C l)=true:=by rw[h.eq];exact aeD λx _=>h.pl x
def Pg.plS{α:Type}{f:α->List AV}{C:List α->List AV}{k:Nat}(h:Pg f C k)(l:List α):plain (.sl .lost l.length (C l))=true:=by simp only[plain,h.Pa];rfl
def Pg.plG{α:Type}{f:α->List AV}{C:List α->List AV}{k:Nat}(h:Pg f C k)(x:α):plain (.agg (f x))=true:=h.pl x
def Pg.ix{α:Type}{f:α->List AV}{C:List α->List AV}{k:Nat}(h:Pg f C k){t elem:TypeId}(hu:P.underlying t=some (.slice elem))(hs:(P.info? elem).map (·.size)=some k)(own:Own){l:List α}{i:Nat}{x:α}(hx:l[i]?=some x):CQ P t (.sl own l.length (C l)) (.sc (.int .i64 ((i:Nat):Int)))=some (.el (f x++C (l.drop (i+1)))):=by
 cases hi:P.info? elem with
 |none=>rw[hi] at hs;cases hs
 |some e=>
  rw[hi] at hs;rw[h.eq,h.eq];exact acZ hu hi (by simpa using hs) h.len hx
def Pg.ixz{α:Type}{f:α->List AV}{C:List α->List AV}{k:Nat}(h:Pg f C k){t elem:TypeId}(hu:P.underlying t=some (.slice elem))(hs:(P.info? elem).map (·.size)=some k)(own:Own){l:List α}{z:Int}{x:α}(hx:Dk l z=some x):CQ P t (.sl own l.length (C l)) (.sc (.int .i64 z))=some (.el (f x++C (l.drop (z.toNat+1)))):=by unfold Dk at hx;split at hx;rename_i hz;have:=h.ix hu hs own hx;rwa[Int.toNat_of_nonneg hz] at this;cases hx
def Pg.wn{α:Type}{f:α->List AV}{C:List α->List AV}{k:Nat}(h:Pg f C k)(m:List α){a:List AV}(w:Wn a (rows f m)):Wn a (C m):=by rw[h.eq];exact w
def aK{α:Type}{f:α->List AV}{k:Nat}(hf:∀x,(f x).length=k)(l:List α)(i:Nat):(rows f l).drop (i*k)=rows f (l.drop i):=by
 induction l generalizing i with
 |nil=>simp[rows]
 |cons x l ih=>
  cases i with
  |zero=>simp
  |succ i=>
   rw[Fq,bpY,hf x,biX (by rw[hf x,blG];omega),bkC,List.drop_succ_cons,<- ih i];congr 1;rw[blG];omega
def aL{α:Type}{f:α->List AV}{k:Nat}(hf:∀x,(f x).length=k)(l:List α)(i:Nat):(rows f l).take (i*k)=rows f (l.take i):=by
 induction l generalizing i with
 |nil=>simp[rows]
 |cons x l ih=>
  cases i with
  |zero=>simp[rows]
  |succ i=>
   rw[Fq,brV,hf x,blS (by rw[hf x,blG];omega),List.take_succ_cons,Fq,<- ih i];congr 2;rw[blG];omega
def Pg.sub{α:Type}{f:α->List AV}{C:List α->List AV}{k:Nat}(h:Pg f C k){t elem:TypeId}(hu:P.underlying t=some (.slice elem))(hs:(P.info? elem).map (·.size)=some k)(l q:Nat){s:List α}(h1:l<=q)(h2:q<=s.length)(lo hi:Option AV)(e1:PP 0 lo=some l)(e2:PP s.length hi=some q) :
   Nn P t (.sl .lost s.length (C s)) lo hi none=some (.sl .lost ((s.drop l).take (q - l)).length (C ((s.drop l).take (q - l)))):=by
 cases Sc:P.info? elem with
 |none=>rw[Sc] at hs;cases hs
 |some e=>
  rw[Sc] at hs;have hk:e.size=k:=by simpa using hs
  unfold Nn;simp only[hu,Sc,e1,e2,hk];rw[if_pos ⟨h1,h2,by rw[h.eq,HU h.len]⟩]
  have e3:(if l=0/\q=s.length then Own.lost else if q=s.length/\Own.lost=.full then .full else .lost)=.lost:=by split;rfl;split;rename_i hq;exact absurd hq.2 (by decide);rfl
  rw[e3,h.eq,h.eq,aK h.len,aL h.len];congr 2;simp;omega
def evt{β:Type}(f:Nat->Option β):Option β:=open Classical in if h:∃y,∃n0:Nat,∀n,n0<=n->f n=some y then some (bmI h) else none
def lT{β:Type}{f:Nat->Option β}{y:β}(h:evt f=some y):∃n,f n=some y:=by unfold evt at h;split at h;rename_i hx;obtain⟨n0,hn⟩:=bkM hx;rw[biA h] at hn;exact⟨n0,hn n0 (aWP _)⟩;cases h
def RD{β:Type}{f:Nat->Option β}{y:β}(n0:Nat)(h:∀n,n0<=n->f n=some y):evt f=some y:=by unfold evt;have hx:∃y,∃n0:Nat,∀n,n0<=n->f n=some y:=⟨y,n0,h⟩;rw[dif_pos hx];obtain⟨n1,hn⟩:=bkM hx;have h1:=h (max n0 n1) (bsG _ _);have h2:=hn (max n0 n1) (brU _ _);rw[h1] at h2;rw[biA h2]
def G8{β:Type}(n:Nat)(x:Option β):Option β:=if n<=100000000 then x else none
def asY{β:Type}{n:Nat}{x:Option β}{r:β}(h:G8 n x=some r):n<=100000000/\x=some r:=by unfold G8 at h;split at h;rename_i h1;exact⟨h1,h⟩;cases h
def Pg.bF{α:Type}{f:α->List AV}{C:List α->List AV}{k:Nat}(h:Pg f C k){t tx e e2 by':Nat}(hu:P.underlying t=some (.slice e))(hux:P.underlying tx=some (.slice e2))(hi:(P.info? e).map (λi=>(i.size,i.bytes,i.zero.map (·.cells.size)))=some (k,by',some k))(hk:0 < k)(hb:by'<=10000)
   (own:Own) (l m:List α) {o:Own}{n:Nat}{ns:List AV} (hn:Wn ns (C m)) (rN:n=m.length) (ho:ns.all one=true) (hm:m.length≠0) (hlen:l.length+m.length<=100000000):Cd.ok P G (.bF t tx own l.length (C l) (.sl o n ns) k (l++m).length (C (l++m))):=by
 subst rN;cases hq:P.info? e with
 |none=>rw[hq] at hi;cases hi
 |some i=>
  rw[hq] at hi;simp only[bhK,atS,aWN] at hi;obtain⟨h1,h2,h3⟩:=hi;cases hz:i.zero with
  |none=>rw[hz] at h3;cases h3
  |some z=>
   rw[hz] at h3;simp only[bhK,atS] at h3;intro s RI;have hnl:ns.length=m.length*k:=by rw[hn.len,h.eq,HU h.len]
   have hll:(C l).length=l.length*k:=by rw[h.eq,HU h.len]
   refine⟨C l++ns,?_,λc w u o' hr=>?_⟩
   have hs:bB P s i.size tx (.sl o m.length ns)=some (m.length,ns):=by unfold bB;rw[hux,h1];simp only[hnl,if_true]
   unfold MG;simp only[hu,hq,hz];rw[if_pos ⟨by rw[h3,h1],by omega⟩,hs];simp only
   have hbb:(l.length+m.length)*i.bytes<=140737488355328:=by rw[h2];exact biP (boY hlen hb) (by decide)
   rw[if_pos ⟨by rw[hll,h1],ho,hbb,by omega⟩,if_neg hm,h1,if_pos RI,aWQ];rw[h.WH];exact Rp.wnC (Wn.WH (Wn.refl (C l)) hn) hr
def Ox{t tx:TypeId}{own:Own}{n:Nat}{cs:List AV}{b:AV}{sz k:Nat}{cs2:List AV}(h:Cd.ok P G (.bF t tx own n cs b sz k cs2)):PC P G :=
 match own with|.row r z=>⟨.g sz k cs2,[.bF t tx (.row r z) n cs b sz k cs2,.eqn n n],⟨h,rfl,trivial⟩⟩|.full=>⟨.g sz k cs2,[.bF t tx .full n cs b sz k cs2],⟨h,trivial⟩⟩|_=>⟨.g sz k cs2,[],trivial⟩
def Pa{a:AV}{l:List AV}(h:plain a=true)(t:BC l=true):BC (a::l)=true:=by simp only[BC,h,t];rfl
def aZL{a b:List AV}(ha:BC a=true)(hb:BC b=true):BC (a++b)=true:=by
 induction a with
 |nil=>exact hb
 |cons x a ih=>
  simp only[BC,bhB,bjR] at ha ⊢;exact⟨ha.1,ih ha.2⟩
end
end AI
namespace AI
open Go Go.RowKit
def KR{P:Program}{α β:Type}(m:Sem α)(f:α->Sem β):pv P (m >>= f)=(pv P m).bind λa=>pv P (f a):=by
 show pv P (m.bind f)=_
 induction m with|pure a=>rfl|program k ih=>exact ih P|mark _ k ih=>exact ih|_=>rfl
def Px{P:Program}{α:Type}(a:α):pv P (pure a:Sem α)=some a:=rfl
def W8{P:Program}:pv P program=some P:=rfl
def LK{P:Program}{t:TypeId}{d:TypeDesc}(h:P.underlying t=some d):pv P (underlying t)=some d:=by unfold underlying;rw[KR,W8];simp only[Uu,h];rfl
def aQX{P:Program}{α:Type}(c:Prop)[Decidable c](a b:Sem α):pv P (if c then a else b)=if c then pv P a else pv P b:=by split<;>rfl
def Yp{P:Program}(d:Nat)(t:TypeId)(xs ys:Array Value)(ht:P.underlying t=some (.struct (P.fieldsOf t)))(hp:P.stoodInHeld t=false) :
   pv P (bmV (d+1) t (.agg xs) (.agg ys))=pv P (bpJ d xs ys (P.fieldsOf t).toList):=by
 simp only[bmV,KR,LK ht,Uu,W8,hp,biF,if_false];rw[<- Array.forIn_toList];generalize (P.fieldsOf t).toList=fs;clear ht
 induction fs with
 |nil=>simp[bpJ,Px]
 |cons f fs ih=>
  simp only[List.forIn_cons,bpJ,KR,aQX];split
  ·generalize pv P (part f.type xs f.offset)=r1
   cases r1 with
   |none=>simp
   |some a=>
    simp only[Uu];generalize pv P (part f.type ys f.offset)=r2;cases r2 with
    |none=>simp
    |some b=>
     simp only[Uu];generalize pv P (bmV d f.type a b)=r3;cases r3 with
     |none=>simp
     |some r=>
      cases r;simp[Px];simp only[Uu,Bool.not_true,biF,if_false,Px];exact ih
  simp only[Px,Uu];exact ih
def aDF{P:Program}{t:TypeId}{k:IntKind}(h:P.underlying t=some (.int k))(cs:Array Value)(off:Nat){v:Value}(hv:cs[off]?=some v):pv P (part t cs off)=some v:=by unfold part isAgg;simp[KR,LK h,Px,hv]
def jC{P:Program}(d:Nat){t:TypeId}{k k':IntKind}(a b:Int)(h:P.underlying t=some (.int k')):pv P (bmV (d+1) t (.int k a) (.int k b))=some (a == b):=by simp[bmV,KR,LK h,Px]
def yQ{P:Program}(op:BinOp)(t:TypeId)(x y:Operand)(xs ys:Array Value)(hm:P.eqGuardType P.depth t=false):pv P (eqGuard op t x y (.agg xs) (.agg ys))=some ():=by cases op<;>simp[eqGuard,KR,W8,hm,Px]
def UM(P:Program)(t:TypeId):Nat:=match P.underlying t with|some (.int _)=>1|some .string=>2|_=>0
def fEq:Value->Value->Option Bool
 |.int k a,.int k' b=>if k=k' then some (a == b) else none
 |.string a,.string b=>some (a == b)
 |_,_=>none
def lQ:List Value->List Value->Option Bool
 |[],[]=>some true
 |a::as,b::bs=>(fEq a b).bind λr=>(match r with | true=>lQ as bs | false=>some false)
 |_,_=>none
def yS{P:Program}{t:TypeId}(h:UM P t≠0)(cs:Array Value)(off:Nat){v:Value}(hv:cs[off]?=some v):pv P (part t cs off)=some v:=by unfold UM at h;split at h;rename_i h1;exact aDF h1 cs off hv;rename_i h1;unfold part isAgg;simp[KR,LK h1,Px,hv];exact absurd rfl h
def aQW{P:Program}(d:Nat){t:TypeId}{a b:Value}{r:Bool}(hk:(∃k n m,a=.int k n/\b=.int k m/\UM P t=1)\/(∃x y,a=.string x/\b=.string y/\UM P t=2))(h:fEq a b=some r):pv P (bmV (d+1) t a b)=some r:=by
 rcases hk with ⟨k,n,m,rfl,rfl,hk⟩ | ⟨x,y,rfl,rfl,hk⟩
 unfold UM at hk;split at hk;rename_i h1;simp only[fEq,if_true] at h;rw[jC d n m h1];exact h;cases hk;cases hk;unfold UM at hk;split at hk;cases hk;rename_i h1;simp only[fEq] at h;rw[<- h];simp[bmV,KR,LK h1,Px];cases hk
def wJ:List Nat->List Value->Prop
 |[],[]=>True
 |k::ks,v::vs=>((∃n,v=.int .i64 n/\k=1)\/(∃x,v=.string x/\k=2))/\wJ ks vs
 |_,_=>False
def amC{P:Program}(d:Nat):∀(fs:List Field)(off:Nat)(ks:List Nat)(xs ys:List Value)(us vs:List Value)(r:Bool),fs.map (λf=>UM P f.type)=ks->(∀(i:Nat) f,fs[i]?=some f->f.name≠"_"/\f.offset=off+i)->xs.drop off=us->ys.drop off=vs->wJ ks us->wJ ks vs->lQ us vs=some r->pv P (bpJ (d+1) xs.toArray ys.toArray fs)=some r:=by
 intro fs
 induction fs with
 |nil=>
  intro off ks xs ys us vs r XG _ hx hy h1 h2 h;cases ks with
  |cons=>cases XG
  |nil=>
   cases us<;>cases vs<;>simp only[wJ,lQ] at h1 h2 h
   rw[<- h];rfl
 |cons f fs ih=>
  intro off ks xs ys us vs r XG hf hx hy h1 h2 h;cases ks with
  |nil=>cases XG
  |cons k ks=>
   cases us with
   |nil=>cases h1
   |cons u us=>
    cases vs with
    |nil=>cases h2
    |cons v vs=>
     simp only[bkF,bnJ] at XG;obtain⟨hk,XG⟩:=XG;obtain⟨hn,ho⟩:=hf 0 f rfl;rw[bjU] at ho;have hxu:xs.toArray[off]?=some u:=by rw[bkS,<- blZ,hx];rfl
     have hyv:ys.toArray[off]?=some v:=by rw[bkS,<- blZ,hy];rfl
     have hk0:UM P f.type≠0:=by rw[hk];rcases h1.1 with ⟨_,_,e⟩ | ⟨_,_,e⟩<;>omega
     have hkk:(∃k n m,u=.int k n/\v=.int k m/\UM P f.type=1)\/(∃x y,u=.string x/\v=.string y/\UM P f.type=2):=by
      rw[hk];rcases h1.1 with ⟨n,e1,e2⟩ | ⟨n,e1,e2⟩<;>rcases h2.1 with ⟨m,e3,e4⟩ | ⟨m,e3,e4⟩
      exact .inl ⟨_,n,m,e1,e3,e2⟩;omega;omega;exact .inr ⟨n,m,e1,e3,e2⟩
     simp only[lQ] at h;cases hq:fEq u v with
     |none=>rw[hq] at h;cases h
     |some q=>
      rw[hq] at h;simp only[bpJ,hn,ne_eq,not_false_eq_true,if_true,ho];simp only[KR,yS hk0 xs.toArray off hxu,yS hk0 ys.toArray off hyv,Uu,aQW d hkk hq];cases q with
      |false=>
       have:r=false:=by simpa using h.symm
       subst this;rfl
      |true=>
       have ih:=ih (off+1) ks xs ys us vs r XG (λi f' hi=>by
        have:=hf (i+1) f' (by simpa using hi)
        exact⟨this.1,by rw[this.2];omega⟩) (by rw[<- bmX,hx];rfl) (by rw[<- bmX,hy];rfl) h1.2 h2.2 (by simpa using h)
       simpa using ih
structure Flat(P:Program)(t:TypeId)(ks:List Nat):Prop where
 st:P.underlying t=some (.struct (P.fieldsOf t))
 hp:P.stoodInHeld t=false
 hm:P.eqGuardType P.depth t=false
 kd:(P.fieldsOf t).toList.map (λf=>UM P f.type)=ks
 nm:(P.fieldsOf t).toList.map (λf=>decide (f.name≠"_"))=bjS ks.length true
 of:(P.fieldsOf t).toList.map (λf=>f.offset)=bjD ks.length
def anG(vs:List Value):Ry (vs.map .sc)=some vs:=by induction vs with|nil=>rfl|cons v vs ih=>simp[Ry,kF,ih]
def Flat.pv{P:Program}{t:TypeId}{ks:List Nat}(h:Flat P t ks){us vs:List Value}{r:Bool}(h1:wJ ks us)(h2:wJ ks vs)(h3:lQ us vs=some r):AI.pv P (bmV (9998+1+1) t (.agg us.toArray) (.agg vs.toArray))=some r:=by
 rw[Yp _ _ _ _ h.st h.hp];refine amC 9998 _ 0 ks us vs us vs r h.kd (λi f hf=>?_) rfl rfl h1 h2 h3
 have hl:i < ks.length:=by have:=(aBC.1 hf).1;have h5:=congrArg bmC h.kd;simp at h5 this;omega
 have a1:=congrArg (λl=>l[i]?) h.nm;have a2:=congrArg (λl=>l[i]?) h.of;simp only[biH,hf,bhK,List.getElem?_replicate,hl,if_true,atS,decide_eq_true_eq] at a1;simp only[biH,hf,bhK,blP hl,atS] at a2;exact⟨a1,by omega⟩
def Flat.bin{P:Program}{t:TypeId}{ks:List Nat}(h:Flat P t ks){us vs:List Value}{r:Bool}(h1:wJ ks us)(h2:wJ ks vs)(h3:lQ us vs=some r)(x y:Operand) :
   N3 P .eql t x y (.agg (us.map .sc)) (.agg (vs.map .sc))=some (.sc (.bool r))/\N3 P .neq t x y (.agg (us.map .sc)) (.agg (vs.map .sc))=some (.sc (.bool (!r))):=by
 have ht:∀l:List Value,YI (.agg (l.map .sc))=some (.agg l.toArray):=λl=>by simp only[YI,anG,bhK]
 have hv:=h.pv h1 h2 h3
 have e1:AI.pv P (do eqGuard .eql t x y (.agg us.toArray) (.agg vs.toArray);binOp .eql t (.agg us.toArray) (.agg vs.toArray))=some (.bool r):=by rw[KR,yQ _ _ _ _ _ _ h.hm];simp only[Uu,binOp,KR,Op.equal,Op.maxDepth];rw[show(10000:Nat)=9998+1+1 from rfl,hv];rfl
 have e2:AI.pv P (do eqGuard .neq t x y (.agg us.toArray) (.agg vs.toArray);binOp .neq t (.agg us.toArray) (.agg vs.toArray))=some (.bool (!r)):=by rw[KR,yQ _ _ _ _ _ _ h.hm];simp only[Uu,binOp,KR,Op.equal,Op.maxDepth];rw[show(10000:Nat)=9998+1+1 from rfl,hv];rfl
 refine⟨?_,?_⟩;show Wb _ _ _ _ _ (.agg _) (.agg _)=_;unfold Wb;simp only[ht,e1,Uu];rfl;show Wb _ _ _ _ _ (.agg _) (.agg _)=_;unfold Wb;simp only[ht,e2,Uu];rfl
def aSY(x y:Int):Int:=if y > x then y else x
end AI
namespace AI
open Go Go.RowKit
mutual
inductive Rn(k j:Nat)(ρ σ:Nat->Nat):AV->AV->Prop where
 |pl {a:AV} (h:plain a=true):Rn k j ρ σ a a
 |ptr {i off:Nat} (h:i < k):Rn k j ρ σ (.ptr i off) (.ptr (ρ i) off)
 |mp {i:Nat} (h:i < k):Rn k j ρ σ (.mp i) (.mp (ρ i))
 |Im {i off n:Nat} (h:i < k):Rn k j ρ σ (.Im i off n) (.Im (ρ i) off n)
 |row {r sz n:Nat}{cs:List AV} (h:r < j) (hp:BC cs=true):Rn k j ρ σ (.sl (.row r sz) n cs) (.sl (.row (σ r) sz) n cs)
 |agg {cs ds:List AV} (h:VN k j ρ σ cs ds):Rn k j ρ σ (.agg cs) (.agg ds)
 |Gx {cs ds:List AV} (h:VN k j ρ σ cs ds):Rn k j ρ σ (.Gx cs) (.Gx ds)
 |fn {f:Fn}{a a' b b':List AV} (h1:VN k j ρ σ a a') (h2:VN k j ρ σ b b'):Rn k j ρ σ (.fn f a b) (.fn f a' b')
inductive VN(k j:Nat)(ρ σ:Nat->Nat):List AV->List AV->Prop where
 |nil:VN k j ρ σ [] []
 |cons {a b:AV}{l m:List AV} (h:Rn k j ρ σ a b) (t:VN k j ρ σ l m):VN k j ρ σ (a::l) (b::m)
end
inductive uW(k j:Nat)(ρ σ:Nat->Nat):Ay->Ay->Prop where
 |cells {cs ds:List AV} (h:VN k j ρ σ cs ds):uW k j ρ σ (.cells cs) (.cells ds)
 |map {es:List (Value×AV×Nat)}{cl:Nat} (h:∀e∈es,plain e.2.1=true):uW k j ρ σ (.map es cl) (.map es cl)
 |bD {T:TypeId}{i:Nat}{cs ds:List AV} (hi:i < k) (h:VN k j ρ σ cs ds):uW k j ρ σ (.bD T i cs) (.bD T (ρ i) ds)
def VN.pl{k j:Nat}{ρ σ:Nat->Nat}:∀{l:List AV},BC l=true->VN k j ρ σ l l
 |[],_=>.nil
 |a::l,h=>by
  simp only[BC,bhB] at h;exact .cons (.pl h.1) (VN.pl h.2)
section
variable {c c':Cx}{w w':World}{k j:Nat}{ρ σ:Nat->Nat}
structure Dn(k j:Nat)(ρ σ:Nat->Nat)(c:Cx)(w:World)(c0:Cx)(w0:World):Prop where
 cH:∀g i v,MD c w g i v->MD c0 w0 g i v
 Ce:∀i g,i < k->c.Ce[ρ i]?=some (some g)->c0.Ce[i]?=some (some g)
 rows:∀r,r < j->∃x,c.rows[σ r]?=some x/\c0.rows[r]?=some x
structure Up(k j:Nat)(ρ σ:Nat->Nat)(c0:Cx)(w0:World)(c:Cx)(w:World):Prop where
 cH:∀g i v,MD c0 w0 g i v->MD c w g i v
 Ce:∀i g,i < k->c0.Ce[i]?=some (some g)->c.Ce[ρ i]?=some (some g)
 rows:∀r,r < j->∃x,c.rows[σ r]?=some x/\c0.rows[r]?=some x
mutual
def Rn.down(d:Dn k j ρ σ c w c' w'):∀{a b:AV}{v:Value},Rn k j ρ σ a b->Rp c w b v->Rp c' w' a v:=by
 intro a b v hn h;cases hn with
 |pl hp=>exact h.plain d.cH hp
 |ptr hi=>cases h with | ptr h1=>exact .ptr (d.Ce _ _ hi h1)
 |mp hi=>cases h with | mp h1=>exact .mp (d.Ce _ _ hi h1)
 |Im hi=>cases h with | Im hn h1=>exact .Im hn (d.Ce _ _ hi h1)
 |@row r sz n cs hr hp=>
  obtain⟨x,hx,hx0⟩:=d.rows r hr;have hl:=(aBC.1 hx0).1;cases h with
  |sl0 h0=>exact .sl0 ⟨h0.1,hl⟩
  |Lt hn hc ho=>
   refine .Lt hn (hc.plain d.cH hp) ⟨ho.1,ho.2.1,hl,λe=>ho.2.2.2.1 ?_,λg' n' cap' OI e=>ho.2.2.2.2 g' n' cap' OI ?_⟩;rw[hx,<- hx0];exact e;rw[hx,<- hx0];exact e
 |agg h1=>cases h with | agg h2=>exact .agg (VN.down d h1 h2)
 |Gx h1=>cases h with | Gx h2=>exact .Gx (VN.down d h1 h2)
 |fn h1 h2=>cases h with | fn h3 h4=>exact .fn (VN.down d h1 h3) (VN.down d h2 h4)
def VN.down(d:Dn k j ρ σ c w c' w'):∀{a b:List AV}{v:List Value},VN k j ρ σ a b->Cw c w b v->Cw c' w' a v:=by intro a b v hn h;cases hn with|nil=>cases h;exact .nil|cons h1 t=>cases h with | cons h2 t2=>exact .cons (Rn.down d h1 h2) (VN.down d t t2)
end
mutual
def Rn.up(d:Up k j ρ σ c w c' w'):∀{a b:AV}{v:Value},Rn k j ρ σ a b->Rp c w a v->Rp c' w' b v:=by
 intro a b v hn h;cases hn with
 |pl hp=>exact h.plain d.cH hp
 |ptr hi=>cases h with | ptr h1=>exact .ptr (d.Ce _ _ hi h1)
 |mp hi=>cases h with | mp h1=>exact .mp (d.Ce _ _ hi h1)
 |Im hi=>cases h with | Im hn h1=>exact .Im hn (d.Ce _ _ hi h1)
 |@row r sz n cs hr hp=>
  obtain⟨x,hx,hx0⟩:=d.rows r hr;have hl:=(aBC.1 hx).1;cases h with
  |sl0 h0=>exact .sl0 ⟨h0.1,hl⟩
  |Lt hn hc ho=>
   refine .Lt hn (hc.plain d.cH hp) ⟨ho.1,ho.2.1,hl,λe=>ho.2.2.2.1 ?_,λg' n' cap' OI e=>ho.2.2.2.2 g' n' cap' OI ?_⟩;rw[hx0,<- hx];exact e;rw[hx0,<- hx];exact e
 |agg h1=>cases h with | agg h2=>exact .agg (VN.up d h1 h2)
 |Gx h1=>cases h with | Gx h2=>exact .Gx (VN.up d h1 h2)
 |fn h1 h2=>cases h with | fn h3 h4=>exact .fn (VN.up d h1 h3) (VN.up d h2 h4)
def VN.up(d:Up k j ρ σ c w c' w'):∀{a b:List AV}{v:List Value},VN k j ρ σ a b->Cw c w a v->Cw c' w' b v:=by intro a b v hn h;cases hn with|nil=>cases h;exact .nil|cons h1 t=>cases h with | cons h2 t2=>exact .cons (Rn.up d h1 h2) (VN.up d t t2)
end
def Nc.plain(hv:∀g i v,MD c w g i v->MD c' w' g i v):∀{es:List (Value×AV×Nat)}{fs:List MapEntry},(∀e∈es,AI.plain e.2.1=true)->Nc c w es fs->Nc c' w' es fs:=by
 intro es
 induction es with
 |nil=>intro fs _ h;cases h;exact .nil
 |cons e es ih=>
  intro fs hp h;cases h with | cons h1 t=>exact .cons (h1.plain hv (hp _ biK)) (ih (λx hx=>hp x (biB _ hx)) t)
def uW.down(d:Dn k j ρ σ c w c' w'){a b:Ay}{o:Obj}(hn:uW k j ρ σ a b)(h:Fc c w b o):Fc c' w' a o:=by
 cases hn with
 |cells h1=>cases h with | FA ext h2=>exact .FA ext (VN.down d h1 h2)
 |map hp=>cases h with | map h2=>exact .map (h2.plain d.cH hp)
 |bD hi h1=>cases h with | bD hp h2=>exact .bD (hp.imp _root_.id λq=>Rn.down d (.ptr hi) q) (VN.down d h1 h2)
def uW.up(d:Up k j ρ σ c w c' w'){a b:Ay}{o:Obj}(hn:uW k j ρ σ a b)(h:Fc c w a o):Fc c' w' b o:=by
 cases hn with
 |cells h1=>cases h with | FA ext h2=>exact .FA ext (VN.up d h1 h2)
 |map hp=>cases h with | map h2=>exact .map (h2.plain d.cH hp)
 |bD hi h1=>cases h with | bD hp h2=>exact .bD (hp.imp _root_.id λq=>Rn.up d (.ptr hi) q) (VN.up d h1 h2)
end
structure Upd(k j:Nat)(ρ σ:Nat->Nat)(h2:List (Nat×Ay))(F2:List (Nat×Nat))(s s2:AS):Prop where
 nx:s2.nx=s.nx
 nr:s2.nr=s.nr
 desc:∀n,Ld s.h n->Ld s2.h n
 get:∀id b,s2.get id=some b->(∃i b0,i < k/\id=ρ i/\look i h2=some b0/\uW k j ρ σ b0 b)\/((∀i,i < k->id≠ρ i)/\s.get id=some b)
 tok:∀q n,DV q s2.F=some n->(∃r,r < j/\q=σ r/\DV r F2=some n)\/((∀r,r < j->q≠σ r)/\DV q s.F=some n)
def RnR(k j:Nat)(ρ σ:Nat->Nat):CR->CR->Prop
 |.ret v,.ret v'=>Rn k j ρ σ v v'
 |.pan v,.pan v'=>Rn k j ρ σ v v'
 |_,_=>False
def aNS{P:Program}{G:AN}(hG:∀g cs,G g=some cs->BC cs=true){f:FuncId}{args fK:List AV}{r r':CR}{hm h2:List (Nat×Ay)}{k j:Nat}{Fm F2:List (Nat×Nat)}(h:Sound P G (.call f args ⟨hm,k,Fm,j⟩ r ⟨h2,k,F2,j⟩))(hd:Ld hm k)
   (ρ σ:Nat->Nat) (bcV:∀i i',i < k->i' < k->ρ i=ρ i'->i=i') (aJA:∀i i',i < j->i' < j->σ i=σ i'->i=i') (GL:VN k j ρ σ args fK)
   {s s2:AS} (Pn:∀i b,i < k->look i hm=some b->∃b',s.get (ρ i)=some b'/\uW k j ρ σ b b')
   (RJ:∀cx w vs,St G cx w s->Cw cx w fK vs->∀i,i < k->∃g,cx.Ce[ρ i]?=some (some g))
   (aXP:∀q n,q < j->DV q Fm=some n->DV (σ q) s.F=some n) (aXO:∀q,q < j->∃n,DV q Fm=some n) (hFm:∀q n,DV q Fm=some n->q < j)
   (hr:RnR k j ρ σ r r')
   (hu:Upd k j ρ σ h2 F2 s s2):Sound P G (.call f fK s r' s2):=by
 intro cx w vs hs ha;have hph:=RJ cx w vs hs ha
 have hg:∀i:Nat,∃g,i < k->cx.Ce[ρ i]?=some (some g):=λi=>by
  by_cases hi:i < k;obtain⟨g,hg⟩:=hph i hi;exact⟨g,λ_=>hg⟩;exact⟨0,λh=>absurd h hi⟩
 obtain⟨gs,hgs⟩:=bqA hg
 have hrw:∀q:Nat,∃x,q < j->cx.rows[σ q]?=some x:=λq=>by
  by_cases hq:q < j;obtain⟨n,hn⟩:=aXO q hq;rcases hs.IZ _ _ (aXP q n hq hn) with ⟨h1,_⟩ | ⟨g,cap,sz,h1⟩
  exact⟨_,λ_=>h1⟩;exact⟨_,λ_=>h1⟩;exact⟨.gone,λh=>absurd h hq⟩
 obtain⟨rw,hrw⟩:=bqA hrw;have Sw:∀i,i < k->some (gs i)∈cx.Ce:=λi hi=>aWR (hgs i hi);have hgi:∀i i',i < k->i' < k->gs i=gs i'->i=i':=λi i' hi Sc e=>bcV i i' hi Sc (hs.nodup _ _ _ (hgs i hi) (by rw[e];exact hgs i' Sc));let K:Nat->Prop:=λq=>(∃i,i < k/\q=gs i)\/∃r n cap sz,r < j/\cx.rows[σ r]?=some (.Sk q n cap sz);let c0:Cx:=⟨0,(bjD k).map λi=>some (gs i),(bjD j).map rw,λq i=>¬K q/\cx.jX q i⟩
 have Z7:∀(i g:Nat),c0.Ce[i]?=some (some g)↔i < k/\g=gs i:=by intro i g;show((bjD k).map λi=>some (gs i))[i]?=some (some g)↔_;rw[biH];by_cases hi:i < k;rw[blP hi];simp[hi,eq_comm];rw[bjE (by simp;omega)];simp[hi]
 have wZ:∀g,some g∈c0.Ce->∃i,i < k/\g=gs i:=by intro g gZ;obtain⟨i,hi,e⟩:=List.mem_map.1 gZ;exact⟨i,List.mem_range.1 hi,(biA e).symm⟩
 have iA:∀(q:Nat) x,c0.rows[q]?=some x->q < j/\cx.rows[σ q]?=some x:=by intro q x hx;have hx:((bjD j).map rw)[q]?=some x:=hx;have hl:=(aBC.1 hx).1;simp at hl;rw[biH,blP hl] at hx;simp at hx;subst hx;exact⟨hl,hrw q hl⟩
 have acU:∀q,q < j->c0.rows[q]?=some (rw q):=by intro q hq;show((bjD j).map rw)[q]?=some (rw q);rw[biH,blP hq];rfl
 have arX:c0.rows.length=j:=by show((bjD j).map rw).length=j;simp
 have H8:∀g i x,MD cx w g i x->MD c0 w g i x:=by
  intro g i x hx;refine⟨hx.1,λGz=>?_,hx.2.2⟩;rcases Gz with Gz | ⟨r,n,cap,sz,hr,h1,h2⟩ | Gz
  obtain⟨i',Sc,rfl⟩:=wZ g Gz;exact hx.2.1 (.inl (Sw i' Sc));exact hx.2.1 (.inr (.inl ⟨σ r,n,cap,sz,(iA _ _ hr).2,h1,h2⟩));exact hx.2.1 Gz.2
 have hdn:Dn k j ρ σ cx w c0 w:=⟨H8,λi g hi gZ=>by
  rw[Z7];rw[hgs i hi] at gZ;cases gZ;exact⟨hi,rfl⟩,λq hq=>⟨rw q,hrw q hq,acU q hq⟩⟩
 have Dc:St G c0 w ⟨hm,k,Fm,j⟩:=by refine⟨by simp[c0],hd,λi i' g h1 h2=>?_,λg _=>bjI _,λid g b h1 h2=>?_,arX.symm,λq g n cap sz hq=>?_,λq n hq=>?_,λg gZ=>?_,(λq i hb=>hs.Xn hb.2),λq q' g n cap sz n' cap' OI h1 h2=>?_,(λg cs gZ=>A0.plain H8 (hG g cs gZ) (hs.Nh g cs gZ)),bjI _,hs.ON.sub (λg hm=>by obtain⟨i,hi,rfl⟩:=wZ g hm;exact Sw i hi) (λr g n cap sz e=>⟨σ r,n,cap,sz,(iA _ _ e).2⟩)⟩;obtain⟨hi,e1⟩:=(Z7 i g).1 h1;obtain⟨Sc,e2⟩:=(Z7 i' g).1 h2;exact hgi i i' hi Sc (e1.symm.trans e2);obtain⟨hi,rfl⟩:=(Z7 id g).1 h1;obtain⟨b',bG,hn⟩:=Pn id b hi h2;obtain⟨o,ho,hb⟩:=hs.box (ρ id) (gs id) _ (hgs id hi) bG;exact⟨o,ho,hn.down hdn hb⟩;obtain⟨hq1,nT⟩:=iA _ _ hq;obtain⟨_,_,a3,a4,a5⟩:=hs.row _ _ _ _ _ nT;refine⟨λi hb=>hb.1 (.inr ⟨q,n,cap,sz,hq1,nT⟩),bjI _,λhm'=>?_,a4,a5⟩;obtain⟨i,hi,rfl⟩:=wZ g hm';exact a3 (Sw i hi);have hlt:=hFm q n hq;have:=hs.IZ _ _ (aXP q n hlt hq);rw[hrw q hlt] at this;rw[acU q hlt];exact this;obtain⟨i,hi,rfl⟩:=wZ g gZ;exact hs.OY (Sw i hi);obtain⟨a1,a2⟩:=iA _ _ h1;obtain⟨b1,b2⟩:=iA _ _ h2;exact aJA _ _ a1 b1 (hs.Ie _ _ _ _ _ _ _ _ _ a2 b2)
 refine(h c0 w vs Dc (GL.down hdn ha)).mono ?_;rintro e w' ⟨c',hx,OO,wW⟩
 have agL:c'.Ce=c0.Ce:=by
  obtain⟨t,ht⟩:=hx.Ce;have h1:c'.Ce.length=k:=OO.len.symm;have h2:c0.Ce.length=k:=by simp[c0]
  rw[<- ht,aWQ,h2] at h1;have:t=[]:=biJ (by omega);rw[<- ht,this,bkW]
 have aOU:c'.rows.length=j:=OO.Ia.symm;have arY:∀q,q < j->∃y,c'.rows[q]?=some y:=λq hq=>⟨_,aBD (by rw[aOU];exact hq)⟩
 have hle:∀q y,q < j->c'.rows[q]?=some y->L6 (rw q) y:=by intro q y hq hy;obtain⟨x,h1,h2⟩:=hx.rows q y (by rw[arX];exact hq) hy;rw[acU q hq] at h1;cases h1;exact h2
 let zM:List Rw:=(bjD cx.rows.length).map λq=>open Classical in if hq:∃r,r < j/\σ r=q then c'.rows.getD (bmI hq) .gone else cx.rows.getD q .gone
 have arZ:zM.length=cx.rows.length:=by simp[zM]
 have lX:∀r,r < j->zM[σ r]?=c'.rows[r]?:=by intro r hr;have hl:=(aBC.1 (hrw r hr)).1;show((bjD cx.rows.length).map _)[σ r]?=_;rw[biH,blP hl];simp only[bhK];have hq:∃r',r' < j/\σ r'=σ r:=⟨r,hr,rfl⟩;rw[dif_pos hq];have hc:=bkM hq;have:bmI hq=r:=aJA _ _ hc.1 hr hc.2;rw[this];obtain⟨y,hy⟩:=arY r hr;rw[bjP,hy];rfl
 have rQ:∀q,(∀r,r < j->q≠σ r)->zM[q]?=cx.rows[q]?:=by intro q hq;by_cases hl:q < cx.rows.length;show((bjD cx.rows.length).map _)[q]?=_;rw[biH,blP hl];simp only[bhK];rw[dif_neg (by rintro⟨r,h1,h2⟩;exact hq r h1 h2.symm),bjP,aBD hl];rfl;rw[bjE (by omega),bjE (by omega)]
 have Wi:∀q:Nat,(∃r,r < j/\q=σ r)\/∀r,r < j->q≠σ r:=λq=>by
  by_cases hq:∃r,r < j/\q=σ r;exact .inl hq;exact .inr λr h1 h2=>hq ⟨r,h1,h2⟩
 have Np:∀r g n cap sz,r < j->c'.rows[r]?=some (.Sk g n cap sz)->(∃r0 n0 PT kC,r0 < j/\cx.rows[σ r0]?=some (.Sk g n0 PT kC))\/w.heap.size<=g:=by
  intro r g n cap sz hr hy;rcases hx.Yx _ _ _ _ _ hy with ⟨r0,n0,PT,kC,h1⟩ | h1
  obtain⟨h2,h3⟩:=iA _ _ h1;exact .inl ⟨r0,n0,PT,kC,h2,h3⟩;exact .inr h1
 have QR:=hx.below
 have WO:Ut w w' K:=⟨QR.os,QR.tape,QR.output,QR.size,λq hq hne=>hx.GY q hq (λhm'=>hne (.inl (wZ q hm'))) (λr n cap sz hr=>hne (by
  obtain⟨h1,h2⟩:=iA _ _ hr;exact .inr ⟨r,n,cap,sz,h1,h2⟩))⟩
 have hKb:∀q,K q->cx.base<=q:=by rintro q (⟨i,hi,rfl⟩ | ⟨r,n,cap,sz,hr,h1⟩);exact hs.low _ (Sw i hi);exact(hs.row _ _ _ _ _ h1).2.1
 let c1:Cx:=⟨cx.base,cx.Ce,zM,cx.bad⟩
 have xD:∀g i x,MD c' w' g i x->MD c1 w' g i x:=by
  intro g i x hv;refine⟨hv.1,λGz=>hv.2.1 ?_,hv.2.2⟩;have L7:¬K g->cx.jX g i->c'.jX g i:=λh1 h2=>.inr (.inr (by rw[hx.bad];exact⟨h1,h2⟩));rcases Gz with Gz | ⟨q,n,cap,sz,hq,h1,h2⟩ | Gz
  by_cases hK:K g;rcases hK with ⟨i',Sc,rfl⟩ | ⟨r,n,cap,sz,hr,h1⟩
  refine .inl ?_;rw[agL];exact aWR ((Z7 i' (gs i')).2 ⟨Sc,rfl⟩);exact absurd Gz (hs.row _ _ _ _ _ h1).2.2.1;exact L7 hK (.inl Gz);rcases Wi q with ⟨r,hr,rfl⟩ | hq'
  simp only[c1] at hq;rw[lX r hr] at hq;exact .inr (.inl ⟨r,n,cap,sz,hq,h1,h2⟩);simp only[c1] at hq;rw[rQ q hq'] at hq;refine L7 ?_ (.inr (.inl ⟨q,n,cap,sz,hq,h1,h2⟩));rintro(⟨i',Sc,rfl⟩ | ⟨r,n',cap',OI,hr,h3⟩);exact(hs.row _ _ _ _ _ hq).2.2.1 (Sw i' Sc);exact hq' r hr (hs.Ie _ _ _ _ _ _ _ _ _ hq h3);by_cases hK:K g;rcases hK with ⟨i',Sc,rfl⟩ | ⟨r,n,cap,sz,hr,h1⟩
  refine .inl ?_;rw[agL];exact aWR ((Z7 i' (gs i')).2 ⟨Sc,rfl⟩);exact absurd Gz ((hs.row _ _ _ _ _ h1).1 i);exact L7 hK (.inr (.inr Gz))
 have ext:Ext cx w c1 w':=by
  refine⟨List.prefix_refl _,by simp[c1,arZ],λq y hq hy=>?_,λg i x hv=>xD g i x (hx.cH g i x (H8 g i x hv)),WO.below hs.Sa hKb,rfl,rfl,λ_ h=>.inl h,λq g n cap sz hq=>?_,λq hq hp hr=>WO.block q hq ?_⟩;rcases Wi q with ⟨r,hr,rfl⟩ | hq'
  simp only[c1] at hy;rw[lX r hr] at hy;exact⟨rw r,hrw r hr,hle r y hr hy⟩;simp only[c1] at hy;rw[rQ q hq'] at hy;exact⟨y,hy,L6.refl y⟩;rcases Wi q with ⟨r,hr,rfl⟩ | hq'
  simp only[c1] at hq;rw[lX r hr] at hq;rcases Np _ _ _ _ _ hr hq with ⟨r0,n0,PT,kC,_,h1⟩ | h1
  exact .inl ⟨_,_,_,_,h1⟩;exact .inr h1;simp only[c1] at hq;rw[rQ q hq'] at hq;exact .inl ⟨_,_,_,_,hq⟩;rintro(⟨i',Sc,rfl⟩ | ⟨r,n',cap',OI,dB,h3⟩);exact hp (Sw i' Sc);exact hr _ _ _ _ h3
 have hup:Up k j ρ σ c' w' c1 w':=⟨xD,λi g hi gZ=>by
  rw[agL,Z7] at gZ;obtain⟨_,rfl⟩:=gZ;exact hgs i hi,λq hq=>by
  obtain⟨y,hy⟩:=arY q hq;exact⟨y,by simp only[c1];rw[lX q hq];exact hy,hy⟩⟩
 have st1:St G c1 w' s2:=by
  refine⟨by rw[hu.nx,hs.len],by rw[hu.nx];exact hu.desc _ hs.desc,hs.nodup,hs.low,λid g b h1 h2=>?_,by rw[hu.nr,hs.Ia];exact arZ.symm,λq g n cap sz hq=>?_,λq n hq=>?_,λg gZ=>beL (hs.NA g gZ) WO.size,λg i hb=>beL (hs.Ng g i hb) WO.size,λq q' g n cap sz n' cap' OI h1 h2=>?_,λg cs gZ=>(hs.Nh g cs gZ).mono ext,biP hs.Sa WO.size,hs.ON.mono ext⟩;rcases hu.get id b h2 with ⟨i,b0,hi,rfl,hb0,hn⟩ | ⟨hne,h3⟩
  obtain⟨o,ho,hb⟩:=OO.box i (gs i) b0 (by rw[agL];exact(Z7 i (gs i)).2 ⟨hi,rfl⟩) hb0;have h1:cx.Ce[ρ i]?=some (some g):=h1;rw[hgs i hi] at h1;cases h1;exact⟨o,ho,hn.up hup hb⟩;obtain⟨o,ho,hb⟩:=hs.box id g b h1 h3;refine⟨o,?_,hb.mono ext⟩;rw[WO.block g (aPB.1 ho).1 ?_];exact ho;rintro(⟨i',Sc,rfl⟩ | ⟨r,n',cap',OI,dB,h4⟩);exact hne i' Sc (hs.nodup _ _ _ h1 (hgs i' Sc));exact(hs.row _ _ _ _ _ h4).2.2.1 (aWR h1);simp only[c1] at hq ⊢;rcases Wi q with ⟨r,dB,rfl⟩ | hq'
  rw[lX r dB] at hq;obtain⟨a1,a2,a3,a4,a5⟩:=OO.row _ _ _ _ _ hq;rcases Np _ _ _ _ _ dB hq with ⟨r0,n0,PT,kC,_,h4⟩ | h4
  obtain⟨b1,b2,b3,_⟩:=hs.row _ _ _ _ _ h4;exact⟨b1,b2,b3,a4,a5⟩;refine⟨λi hb=>?_,biP hs.Sa h4,λhm'=>?_,a4,a5⟩;have:=hs.Ng _ _ hb;omega;have:=hs.OY hm';omega;rw[rQ q hq'] at hq;obtain⟨a1,a2,a3,a4,vs',T,a5,a6⟩:=hs.row _ _ _ _ _ hq;refine⟨a1,a2,a3,a4,vs',T,?_,a6⟩;rw[WO.block g (aPB.1 a5).1 ?_];exact a5;rintro(⟨i',Sc,rfl⟩ | ⟨r,n',cap',OI,dB,h4⟩);exact a3 (Sw i' Sc);exact hq' r dB (hs.Ie _ _ _ _ _ _ _ _ _ hq h4);simp only[c1];rcases hu.tok q n hq with ⟨r,dB,rfl,h3⟩ | ⟨hq',h3⟩
  rw[lX r dB];exact OO.IZ r n h3;rw[rQ q hq'];exact hs.IZ q n h3;simp only[c1] at h1 h2
  have key:∀r q,r < j->(∀r',r' < j->q≠σ r')->∀n cap sz n' cap' OI,c'.rows[r]?=some (.Sk g n cap sz)->cx.rows[q]?=some (.Sk g n' cap' OI)->False:=by
   intro r q dB hq' n cap sz n' cap' OI e1 e2;rcases Np _ _ _ _ _ dB e1 with ⟨r0,n0,PT,kC,hr0,h4⟩ | h4
   exact hq' r0 hr0 (hs.Ie _ _ _ _ _ _ _ _ _ e2 h4);have:=hs.NE e2;omega
  rcases Wi q with ⟨r,dB,rfl⟩ | hq1<;>rcases Wi q' with ⟨r2,hr2,rfl⟩ | nT
  rw[lX r dB] at h1;rw[lX r2 hr2] at h2;rw[OO.Ie _ _ _ _ _ _ _ _ _ h1 h2];rw[lX r dB] at h1;rw[rQ q' nT] at h2;exact(key r q' dB nT _ _ _ _ _ _ h1 h2).elim;rw[rQ q hq1] at h1;rw[lX r2 hr2] at h2;exact(key r2 q hr2 hq1 _ _ _ _ _ _ h2 h1).elim;rw[rQ q hq1] at h1;rw[rQ q' nT] at h2;exact hs.Ie _ _ _ _ _ _ _ _ _ h1 h2
 refine⟨c1,ext,st1,?_⟩;cases r with
 |ret v=>
  cases r' with
  |ret v'=>
   obtain⟨u,rfl,hu'⟩:=wW;exact⟨u,rfl,Rn.up hup hr hu'⟩
  |pan v'=>exact hr.elim
 |pan v=>
  cases r' with
  |ret v'=>exact hr.elim
  |pan v'=>
   obtain⟨u,rfl,hu'⟩:=wW;exact⟨u,rfl,Rn.up hup hr hu'⟩
end AI
namespace AI
open Go Go.RowKit
def Hq:List Ay->Nat->List (Nat×Ay)->List (Nat×Ay)
 |[],_,acc=>acc
 |b::l,n,acc=>Hq l (n+1) ((n,b)::acc)
def ZP:List Nat->Nat->List (Nat×Nat)
 |[],_=>[]
 |k::l,n=>(n,k)::ZP l (n+1)
def adH{M:List Ay}:∀{n:Nat}{acc:List (Nat×Ay)}{i:Nat}{b:Ay},Ld acc n->look i (Hq M n acc)=some b->(n<=i/\M[i - n]?=some b)\/look i acc=some b:=by
 induction M with
 |nil=>intro n acc i b _ h;exact .inr h
 |cons x M ih=>
  intro n acc i b hd h;rcases ih (n:=n+1) (acc:=(n,x)::acc) ⟨bjQ n,hd⟩ h with ⟨h1,h2⟩ | h1
  refine .inl ⟨by omega,?_⟩;rw[show i - n=(i - (n+1))+1 by omega];exact h2;simp only[look] at h1;split at h1;rename_i hb;have:=beq_true hb;subst this;cases h1;exact .inl ⟨aWP _,by simp⟩;exact .inr h1
def acD{M:List Ay}:∀{n:Nat}{acc:List (Nat×Ay)},Ld acc n->Ld (Hq M n acc) (n+M.length):=by
 induction M with
 |nil=>intro n acc h;exact h
 |cons x M ih=>
  intro n acc h;have:=ih (n:=n+1) (acc:=(n,x)::acc) ⟨bjQ n,h⟩;rw[bhE,show n+(M.length+1)=n+1+M.length by omega];exact this
def Zi{T:List Nat}:∀{n r k:Nat},DV r (ZP T n)=some k->n<=r/\T[r - n]?=some k:=by
 induction T with
 |nil=>intro n r k h;cases h
 |cons x T ih=>
  intro n r k h;simp only[ZP,DV] at h;split at h;rename_i hb;have:=beq_true hb;subst this;cases h;exact⟨aWP _,by simp⟩;obtain⟨h1,h2⟩:=ih h;refine⟨by omega,?_⟩;rw[show r - n=(r - (n+1))+1 by omega];exact h2
def pB{T:List Nat}:∀{n r:Nat},n<=r->r - n < T.length->∃k,DV r (ZP T n)=some k:=by
 induction T with
 |nil=>intro n r _ h;simp at h
 |cons x T ih=>
  intro n r h1 h2;simp only[ZP,DV];split;exact⟨_,rfl⟩;rename_i hb;have:=beq_false hb;exact ih (by omega) (by simp at h2;omega)
inductive aY(k j:Nat)(ρ σ:Nat->Nat):List Ay->List (Nat×Ay)->Prop where
 |nil:aY k j ρ σ [] []
 |cons {b b':Ay}{i:Nat}{l:List Ay}{m:List (Nat×Ay)} (h:uW k j ρ σ b b') (t:aY k j ρ σ l m):aY k j ρ σ (b::l) ((i,b')::m)
def aY.len{k j:Nat}{ρ σ:Nat->Nat}{l:List Ay}{m:List (Nat×Ay)}(h:aY k j ρ σ l m):l.length=m.length:=by induction h with|nil=>rfl|cons _ _ ih=>simp[ih]
def aY.get{k j:Nat}{ρ σ:Nat->Nat}{l:List Ay}{m:List (Nat×Ay)}(h:aY k j ρ σ l m):∀{i:Nat}{b:Ay},l[i]?=some b->∃e,m[i]?=some e/\uW k j ρ σ b e.2:=by
 induction h with
 |nil=>intro i b hb;simp at hb
 |cons h _ ih=>
  intro i b hb;cases i with|zero=>simp at hb;subst hb;exact⟨_,rfl,h⟩|succ i=>exact ih (by simpa using hb)
def aY.bbZ{k j:Nat}{ρ σ:Nat->Nat}{l:List Ay}{m:List (Nat×Ay)}(h:aY k j ρ σ l m):∀{i:Nat}{e:Nat×Ay},m[i]?=some e->∃b,l[i]?=some b/\uW k j ρ σ b e.2:=by
 induction h with
 |nil=>intro i b hb;simp at hb
 |cons h _ ih=>
  intro i b hb;cases i with|zero=>simp at hb;subst hb;exact⟨_,rfl,h⟩|succ i=>exact ih (by simpa using hb)
def aaU:∀(l:List (Nat×Ay)) (s:AS) (id:Nat) (b:Ay),(s.ZT l).get id=some b->(∃e∈l,e.1=id/\e.2=b)\/((∀e∈l,e.1≠id)/\s.get id=some b)
 |[],s,id,b,h=>.inr ⟨(λe he=>by cases he),h⟩
 |e::l,s,id,b,h=>by
  rcases aaU l (s.put e.1 e.2) id b h with ⟨x,hx,h1⟩ | ⟨h1,h2⟩
  exact .inl ⟨x,biB _ hx,h1⟩;rcases kL h2 with ⟨h3,h4⟩ | ⟨h3,h4⟩
  exact .inl ⟨e,biK,h3.symm,h4.symm⟩;refine .inr ⟨λx hx=>?_,h4⟩;rcases bhJ.1 hx with rfl | hx
  exact λe=>h3 e.symm;exact h1 x hx
def pH:∀(l:List (Nat×Ay)) (s:AS),(s.ZT l).nx=s.nx/\(s.ZT l).nr=s.nr/\(s.ZT l).F=s.F/\∀n,Ld s.h n->Ld (s.ZT l).h n
 |[],s=>⟨rfl,rfl,rfl,λ_ h=>h⟩
 |e::l,s=>by
  obtain⟨h1,h2,h3,h4⟩:=pH l (s.put e.1 e.2);exact⟨h1,h2,h3,λn h=>h4 n (kK h)⟩
def nM:∀(l:List (Nat×Nat)) (s:AS) (q n:Nat),DV q (s.Wh l).F=some n->(∃e∈l,e.1=q/\e.2=n)\/((∀e∈l,e.1≠q)/\DV q s.F=some n)
 |[],s,q,n,h=>.inr ⟨(λe he=>by cases he),h⟩
 |e::l,s,q,n,h=>by
  rcases nM l _ q n h with ⟨x,hx,h1⟩ | ⟨h1,h2⟩
  exact .inl ⟨x,biB _ hx,h1⟩;rcases oT h2 with ⟨h3,h4,_⟩ | ⟨h3,h4⟩
  exact .inl ⟨e,biK,h3.symm,h4.symm⟩;refine .inr ⟨λx hx=>?_,h4⟩;rcases bhJ.1 hx with rfl | hx
  exact λe=>h3 e.symm;exact h1 x hx
def gL:∀(l:List (Nat×Nat)) (s:AS),(s.Wh l).nx=s.nx/\(s.Wh l).nr=s.nr/\(s.Wh l).h=s.h
 |[],s=>⟨rfl,rfl,rfl⟩
 |e::l,s=>gL l _
def X2:∀{l:List (Nat×Ay)}{s:AS},gK s l=QJ l->∀{i:Nat}{e:Nat×Ay},l[i]?=some e->s.get e.1=some e.2
 |[],s,_,i,e,he=>by simp at he
 |x::l,s,h,i,e,he=>by
  simp only[gK,QJ,bnJ] at h;cases i with|zero=>simp at he;subst he;exact h.1|succ i=>exact X2 h.2 (by simpa using he)
def wP:∀{l:List (Nat×Nat)}{F:List (Nat×Nat)},nJ F l=Rz l->∀{i:Nat}{e:Nat×Nat},l[i]?=some e->DV e.1 F=some e.2
 |[],s,_,i,e,he=>by simp at he
 |x::l,s,h,i,e,he=>by
  simp only[nJ,Rz,bnJ] at h;cases i with|zero=>simp at he;subst he;exact h.1|succ i=>exact wP h.2 (by simpa using he)
mutual
inductive Occ(id:Nat):AV->Prop where
 |ptr {off:Nat}:Occ id (.ptr id off)
 |mp:Occ id (.mp id)
 |Im {off n:Nat}:Occ id (.Im id off n)
 |agg {cs:List AV} (h:Ux id cs):Occ id (.agg cs)
 |fn1 {f:Fn}{a b:List AV} (h:Ux id a):Occ id (.fn f a b)
 |fn2 {f:Fn}{a b:List AV} (h:Ux id b):Occ id (.fn f a b)
inductive Ux(id:Nat):List AV->Prop where
 |here {a:AV}{l:List AV} (h:Occ id a):Ux id (a::l)
 |there {a:AV}{l:List AV} (h:Ux id l):Ux id (a::l)
end
mutual
def Occ.Ce{c:Cx}{w:World}{id:Nat}:∀{a:AV}{v:Value},Occ id a->Rp c w a v->∃g,c.Ce[id]?=some (some g):=by
 intro a v ho h;cases ho with
 |ptr=>cases h with | ptr h1=>exact⟨_,h1⟩
 |mp=>cases h with | mp h1=>exact⟨_,h1⟩
 |Im=>cases h with | Im hn h1=>exact⟨_,h1⟩
 |agg h1=>cases h with | agg h2=>exact Ux.Ce h1 h2
 |fn1 h1=>cases h with | fn h2 h3=>exact Ux.Ce h1 h2
 |fn2 h1=>cases h with | fn h2 h3=>exact Ux.Ce h1 h3
def Ux.Ce{c:Cx}{w:World}{id:Nat}:∀{a:List AV}{v:List Value},Ux id a->Cw c w a v->∃g,c.Ce[id]?=some (some g):=by
 intro a v ho h;cases ho with
 |here h1=>cases h with | cons h2 _=>exact Occ.Ce h1 h2
 |there h1=>cases h with | cons _ h2=>exact Ux.Ce h1 h2
end
inductive Rch(args:List AV)(pre:List (Nat×Ay)):Nat->Prop where
 |arg {id:Nat} (h:Ux id args):Rch args pre id
 |box {i id p:Nat}{cs:List AV} (h:Rch args pre i) (hp:pre[p]?=some (i,.cells cs)) (ho:Ux id cs):Rch args pre id
 |bD {i id p j:Nat}{T:TypeId}{cs:List AV} (h:Rch args pre i) (hp:pre[p]?=some (i,.bD T j cs)) (ho:Ux id cs):Rch args pre id
def Rch.Ce{G:AN}{args:List AV}{pre:List (Nat×Ay)}{s:AS}(hb:gK s pre=QJ pre){cx:Cx}{w:World}{vs:List Value}(hs:St G cx w s)(ha:Cw cx w args vs){id:Nat}(h:Rch args pre id):∃g,cx.Ce[id]?=some (some g):=by
 induction h with
 |arg h=>exact h.Ce ha
 |box h hp ho ih=>
  obtain⟨g,hg⟩:=ih;obtain⟨o,_,rJ⟩:=hs.box _ g _ hg (X2 hb hp);cases rJ with|FA ext hr=>exact ho.Ce hr
 |bD h hp ho ih=>
  obtain⟨g,hg⟩:=ih;obtain⟨o,_,rJ⟩:=hs.box _ g _ hg (X2 hb hp);cases rJ with|bD _ hr=>exact ho.Ce hr
def Kq{β:Type}(l:List (Nat×β))(i:Nat):Nat:=match l[i]? with|some e=>e.1|none=>0
def MP{β:Type}{l:List (Nat×β)}{i:Nat}{e:Nat×β}(h:l[i]?=some e):Kq l i=e.1:=by unfold Kq;rw[h]
def keys{β:Type}(l:List (Nat×β)):List Nat:=l.map (·.1)
def nX{β:Type}{l:List (Nat×β)}(h:(keys l).Nodup){i i':Nat}(hi:i < l.length)(Sc:i' < l.length)(e:Kq l i=Kq l i'):i=i':=by
 have h1:(keys l)[i]?=some (Kq l i):=by unfold keys;rw[biH,aBD hi,MP (aBD hi)];rfl
 have h2:(keys l)[i']?=some (Kq l i'):=by unfold keys;rw[biH,aBD Sc,MP (aBD Sc)];rfl
 rw[<- e] at h2;exact alW h h1 h2
def Ta{β β':Type}{l:List (Nat×β)}{m:List (Nat×β')}(h:keys l=keys m)(i:Nat):Kq l i=Kq m i:=by have h1:=congrArg (λx=>x[i]?) h;unfold keys at h1;simp only[biH] at h1;unfold Kq;cases hl:l[i]?<;>cases hm:m[i]?<;>rw[hl,hm] at h1<;>simp at h1<;>simp[h1]
def aNT{P:Program}{G:AN}(hG:∀g cs,G g=some cs->BC cs=true){f:FuncId}{args fK:List AV}{r r':CR}{M M2:List Ay}{T T2:List Nat}(pre TS:List (Nat×Ay))(tp tu:List (Nat×Nat)){k j:Nat}
   (h:Sound P G (.call f args ⟨Hq M 0 [],k,ZP T 0,j⟩ r ⟨Hq M2 0 [],k,ZP T2 0,j⟩))
   (hk:M.length=k) (hj:T.length=j) (hj2:T2.length=j)
   (hku:keys TS=keys pre) (hkt:keys tu=keys tp) (hnb:(keys pre).Nodup) (hnt:(keys tp).Nodup)
   (htp:tp.map (·.2)=T) (htu:tu.map (·.2)=T2)
   (hb:aY k j (Kq pre) (Kq tp) M pre) (hb2:aY k j (Kq pre) (Kq tp) M2 TS)
   (GL:VN k j (Kq pre) (Kq tp) args fK)
   (hr:RnR k j (Kq pre) (Kq tp) r r')
   (bdJ:∀e∈pre,Rch fK pre e.1):Cd.ok P G (.Sn f fK r' pre tp TS tu):=by
 intro s hgb hgf;have hpl:pre.length=k:=by rw[<- hb.len,hk]
 have htl:tp.length=j:=by rw[<- hj,<- htp,biE]
 have hul:TS.length=k:=by have:=congrArg bmC hku;simp only[keys,biE] at this;omega
 have bhR:tu.length=j:=by rw[<- hj2,<- htu,biE]
 refine aNS hG h (by have:=acD (M:=M) (n:=0) (acc:=[]) trivial;rw[bhC,hk] at this;exact this) (Kq pre) (Kq tp) (λi i' hi Sc e=>nX hnb (by omega) (by omega) e) (λi i' hi Sc e=>nX hnt (by omega) (by omega) e) GL (s:=s) (λi b hi hl=>?_) (λcx w vs hs ha i hi=>?_) (λq n hq hl=>?_) (λq hq=>?_) (λq n hl=>?_) hr ?_;rcases adH (acc:=[]) trivial hl with ⟨_,h1⟩ | h1
 rw[bnO] at h1;obtain⟨e,he,hn⟩:=hb.get h1;exact⟨e.2,by rw[MP he];exact X2 hgb he,hn⟩;cases h1;have he:pre[i]?=some pre[i]:=aBD (by omega);rw[MP he];exact(bdJ _ (aWR he)).Ce hgb hs ha
 ·obtain⟨_,h1⟩:=Zi hl
  rw[bnO,<- htp,biH] at h1;cases he:tp[q]? with
  |none=>rw[he] at h1;cases h1
  |some e=>
   rw[he] at h1;simp at h1;rw[MP he,<- h1];exact wP hgf he
 exact pB (bjI _) (by omega);obtain⟨_,h1⟩:=Zi hl;have:=(aBC.1 h1).1;omega
 ·obtain⟨a1,a2,a3,a4⟩:=pH TS s
  obtain⟨b1,b2,b3⟩:=gL tu (s.ZT TS);refine⟨by rw[b1,a1],by rw[b2,a2],λn hd=>by rw[b3];exact a4 n hd,λid b hg=>?_,λq n hq=>?_⟩
  ·have hg:(s.ZT TS).get id=some b:=by
    unfold AS.get at hg ⊢;rw[b3] at hg;exact hg
   rcases aaU TS s id b hg with ⟨e,he,rfl,rfl⟩ | ⟨h1,h2⟩
   ·obtain⟨i,hi⟩:=bkN.1 he
    have hil:=(aBC.1 hi).1;obtain⟨b0,hb0,hn⟩:=hb2.bbZ hi;refine .inl ⟨i,b0,by omega,by rw[<- Ta hku,MP hi],?_,hn⟩
    have:∀(M:List Ay)(n:Nat) (acc:List (Nat×Ay)) (i:Nat) (b:Ay),M[i]?=some b->(∀e∈acc,e.1 < n)->look (n+i) (Hq M n acc)=some b:=by
     intro M
     induction M with
     |nil=>intro n acc i b h;simp at h
     |cons x M ih=>
      intro n acc i b h rI;cases i with
      |succ i=>
       have:=ih (n+1) ((n,x)::acc) i b (by simpa using h) (λe he=>by
        rcases bhJ.1 he with rfl | he
        exact bjQ _;have:=rI e he;omega)
       rw[show n+(i+1)=n+1+i by omega];exact this
      |zero=>
       simp at h;subst h;simp only[Hq,bjU]
       have aXM:∀(M:List Ay)(n':Nat) (acc:List (Nat×Ay)),n < n'->look n (Hq M n' acc)=look n acc:=by
        intro M
        induction M with
        |nil=>intro n' acc _;rfl
        |cons y M ih2=>
         intro n' acc hlt;simp only[Hq];rw[ih2 (n'+1) _ (by omega)];simp only[look]
         have:biS n' n=false:=by cases hq:biS n' n with|false=>rfl|true=>have:=beq_true hq;omega
         rw[this]
       rw[aXM M (n+1) _ (by omega)];simp only[look];rw[show biS n n=true from blD n]
    have:=this M2 0 [] i b0 hb0 (λe he=>by cases he);rwa[bhC] at this
   refine .inr ⟨λi hi e=>?_,h2⟩;have he:TS[i]?=some TS[i]:=aBD (by omega);refine h1 _ (aWR he) ?_;rw[e,<- Ta hku,MP he]
  rcases nM tu _ q n hq with ⟨e,he,rfl,rfl⟩ | ⟨h1,h2⟩
  obtain⟨i,hi⟩:=bkN.1 he;have hil:=(aBC.1 hi).1;refine .inl ⟨i,by omega,by rw[<- Ta hkt,MP hi],?_⟩;obtain⟨kk,hkk⟩:=pB (T:=T2) (n:=0) (r:=i) (bjI _) (by omega);obtain⟨_,h3⟩:=Zi hkk;rw[bnO,<- htu,biH,hi] at h3;simp at h3;rw[hkk,h3];refine .inr ⟨λi hi e=>?_,by rw[<- a3];exact h2⟩;have he:tu[i]?=some tu[i]:=aBD (by omega);refine h1 _ (aWR he) ?_;rw[e,<- Ta hkt,MP he]
end AI
namespace AI
open Go Go.RowKit
section
variable {P:Program}{G:AN}
def QM(G:AN)(s0:AS)(r0:CR)(s2:AS):CR->AS->Prop:=λr s'=>match r0 with|.ret v=>∃a,r=.ret a/\pQ G s0 [a] s' [v] s2|.pan v=>∃a,r=.pan a/\pQ G s0 [a] s' [v] s2
def uF(hm:P.follows .mixedOrders=true){f:FuncId}{args:List AV}{s0 s2:AS}{r0:CR}(h:WC P G (XS P G) H0 f args s0 (QM G s0 r0 s2)):Sound P G (.call f args s0 r0 s2):=by
 obtain⟨r,s',hj,hq⟩:=h;have hS:=sound (UP hm) hj;intro cx w vs hs GL;refine(hS cx w vs hs GL).mono ?_;rintro e w' ⟨c',hx,hs',wW⟩;cases r0 with
 |ret v=>
  obtain⟨a,rfl,hf⟩:=hq;obtain⟨u,rfl,hu⟩:=wW;obtain⟨c2,x2,XI,f2⟩:=hf cx w c' w' [u] hx hs hs' (.cons hu .nil);cases f2 with|cons f3 _=>exact⟨c2,x2,XI,u,rfl,f3⟩
 |pan v=>
  obtain⟨a,rfl,hf⟩:=hq;obtain⟨u,rfl,hu⟩:=wW;obtain⟨c2,x2,XI,f2⟩:=hf cx w c' w' [u] hx hs hs' (.cons hu .nil);cases f2 with|cons f3 _=>exact⟨c2,x2,XI,u,rfl,f3⟩
def XO(P:Program)(G:AN)(fn:Func)(m:Nat)(s0:AS)(Q:AX->List AV->AS->Prop)(v:AV)(s2:AS):Prop:=∀a s',pQ G s0 [a] s' [v] s2->fA P fn m Q a s'
def YZ(G:AN)(m:Nat)(s0:AS)(Q:AX->List AV->AS->Prop)(v:AV)(s2:AS):Prop:=∀a s',pQ G s0 [a] s' [v] s2->mT m Q a s'
def XO.body{fn:Func}{m:Nat}{s0 s2:AS}{v:AV}:XO P G fn m s0 (N7 P fn m (QM G s0 (.ret v) s2)) v s2:=λa s' hf=>.body ⟨a,rfl,hf⟩
def YZ.body{fn:Func}{m:Nat}{s0 s2:AS}{v:AV}:YZ G m s0 (N7 P fn m (QM G s0 (.pan v) s2)) v s2:=λa s' hf=>.body ⟨a,rfl,hf⟩
def XO.rnd{fn:Func}{m:Nat}{L:Code}{s0 s1 s2:AS}{Q:AX->List AV->AS->Prop}{v:AV}(h:XO P G fn m s0 Q v s2):XO P G fn m s0 (Ls P G L s1 Q) v s2:=h
def YZ.rnd{m:Nat}{L:Code}{s0 s1 s2:AS}{Q:AX->List AV->AS->Prop}{v:AV}(h:YZ G m s0 Q v s2):YZ G m s0 (Ls P G L s1 Q) v s2:=h
def Mb{f:FuncId}{args:List AV}{v:AV}{pre:List (Nat×Ay)}{tp:List (Nat×Nat)}{TS:List (Nat×Ay)}{tu:List (Nat×Nat)}(h:Cd.ok P G (.Sn f args (.ret v) pre tp TS tu)):PC P G :=
 ⟨.u v pre tp TS tu,[.Sn f args (.ret v) pre tp TS tu,.eqx (QJ pre) (QJ pre) (Rz tp) (Rz tp)],⟨h,⟨rfl,rfl⟩,trivial⟩⟩
def Tq{f:FuncId}{args Z0:List AV}{v:AV}{pre:List (Nat×Ay)}{tp:List (Nat×Nat)}{TS:List (Nat×Ay)}{tu:List (Nat×Nat)}(w:Wn args Z0)(h:Cd.ok P G (.Sn f Z0 (.ret v) pre tp TS tu)):PC P G :=
 ⟨.u v pre tp TS tu,[.Sn f args (.ret v) pre tp TS tu,.eqx (QJ pre) (QJ pre) (Rz tp) (Rz tp)],⟨λs h1 h2 cx wd vs hs ha=>h s h1 h2 cx wd vs hs (w.ok ha),⟨rfl,rfl⟩,trivial⟩⟩
def Hc{f:FuncId}{args:List AV}{v:AV}{pre:List (Nat×Ay)}{tp:List (Nat×Nat)}{TS:List (Nat×Ay)}{tu:List (Nat×Nat)}(h:Cd.ok P G (.Sn f args (.pan v) pre tp TS tu)):PC P G :=
 ⟨.q v pre tp TS tu,[.Sn f args (.pan v) pre tp TS tu,.eqx (QJ pre) (QJ pre) (Rz tp) (Rz tp)],⟨h,⟨rfl,rfl⟩,trivial⟩⟩
def pz(c:Nat):PC P G:=⟨.z c,[],trivial⟩
def Oy:PC P G:=⟨.za,[],trivial⟩
def plb{b:Ay}{t:TypeId}{off:Nat}{v:AV}(h:Cd.ok P G (.ldB b t off v)):PC P G:=⟨.lb b v,[.ldB b t off v,.eqx [some b] [some b] [] []],⟨h,⟨rfl,rfl⟩,trivial⟩⟩
def psb{b:Ay}{t:TypeId}{off:Nat}{x:AV}{b2:Ay}(h:Cd.ok P G (.stB b t off x b2)):PC P G:=⟨.sb b b2,[.stB b t off x b2,.eqx [some b] [some b] [] []],⟨h,⟨rfl,rfl⟩,trivial⟩⟩
end
end AI
namespace AI
open Go Go.RowKit
def Wn.z{l m:List AV}(t:Wn l m):Wn (.sl .full 0 []::l) (.sl .lost 0 []::m):=.s rfl t
abbrev JJ:=List Value×List AV
def aQD:List Value->Nat->Value
 |[],_=>undef
 |v::_,0=>v
 |_::l,k+1=>aQD l k
def aZA:List AV->Nat->AV
 |[],_=>.sc undef
 |v::_,0=>v
 |_::l,k+1=>aZA l k
def jn(j:JJ)(k:Nat):Value:=aQD j.1 k
def gn(j:JJ)(k:Nat):AV:=aZA j.2 k
def frm:Nat->Nat->List (Nat×AV)->List Nat->Nat->List Nat->Nat->JJ->List AV
 |0,_,_,_,_,_,_,_=>[]
 |n+1,p,l,bs,kb,gs,kg,j=>(match hd1 p l with|some v=>v::frm n (p+1) (l.drop 1) bs kb gs kg j|none=>(match hd2 p bs with|true=>.sc (jn j kb)::frm n (p+1) l (bs.drop 1) (kb+1) gs kg j|false=>(match hd2 p gs with|true=>gn j kg::frm n (p+1) l bs kb (gs.drop 1) (kg+1) j|false=>.any::frm n (p+1) l bs kb gs kg j)))
where
 hd1 (p:Nat):List (Nat×AV)->Option AV
   |[]=>none
   |e::_=>(match biS e.1 p with | true=>some e.2 | false=>none)
 hd2 (p:Nat):List Nat->Bool
   |[]=>false
   |e::_=>biS e p
structure Mm(κ ν:Type) where
 es:List (κ×ν×Nat)
 cl:Nat
section
variable {κ ν:Type}[DecidableEq κ]
def aJN(k:κ):List (κ×ν×Nat)->Nat->Option (Nat×ν)
 |[],_=>none
 |e::es,i=>if e.1=k then some (i,e.2.1) else aJN k es (i+1)
def Mm.get(m:Mm κ ν)(k:κ):Option ν:=(aJN k m.es 0).map (·.2)
def Mm.nil:Mm κ ν:=⟨[],0⟩
end
end AI
namespace AI
open Go Go.RowKit
section
variable {P:Program}{G:AN}{α:Type}{f:α->List AV}{C:List α->List AV}{k:Nat}
def Pg.ixm(_:Pg f C k){t elem:TypeId}(hu:P.underlying t=some (.slice elem))(hs:(P.info? elem).map (·.size)=some k){id n i:Nat}(h:i < n):CQ P t (.Im id 0 n) (.sc (.int .i64 ((i:Nat):Int)))=some (.ptr id (0+i*k)):=by
 cases hi:P.info? elem with
 |none=>rw[hi] at hs;cases hs
 |some e=>
  rw[hi] at hs;have hk:e.size=k:=by simpa using hs
  have hn:Uc (.sc (.int .i64 ((i:Nat):Int)))=some i:=by unfold Uc;simp
  unfold CQ;rw[hu,hn];simp only[hi];rw[if_pos h,hk]
def ZH{l:List α}{i:Nat}(y:α)(h:i < l.length):l.set i y=l.take i++y::l.drop (i+1):=by rw[blX,if_pos h]
def Pg.st(h:Pg f C k){e:TypeId}(hs:(P.info? e).map (·.size)=some k){l:List α}{i:Nat}{x:α}(hx:l[i]?=some x)(y:α){v:AV}(hv:cellsOf v=f y)(h1:(f y).all one=true):Cd.ok P G (.stB (.cells (C l)) e (0+i*k) v (.cells (C (l.set i y)))):=by
 intro s id hg;have hlt:=(aBC.1 hx).1;have hle:i*k+k<=l.length*k:=by have:=bkQ k hlt;rw[bmO] at this;exact this
 cases hi:P.info? e with
 |none=>rw[hi] at hs;cases hs
 |some j=>
  rw[hi] at hs;have hk:j.size=k:=by simpa using hs
  unfold Lf;rw[hi];simp only[hg];rw[hv,hk,h.eq,bhC,if_pos ⟨h.len y,h1,by rw[HU h.len];exact hle⟩,h.eq];congr 3;unfold IV;rw[h.len y,aL h.len,show i*k+k=(i+1)*k by rw[bmO],aK h.len,ZH y hlt,Mu,Fq,bjX]
end
end AI
namespace AI
open Go Go.RowKit
section
variable {P:Program}{G:AN}
def aoD{f:FuncId}{fn:Func}{c:Code}{args:List AV}{s s0 s2:AS}{m:Nat}{v:AV}(hf:P.funcs[f]?=some fn)(hb:fn.body=some c)(h:W P G (XS P G) H0 c (args++bjS (fn.ntmps - args.length) (.sc undef)) s (N7 P fn m (QM G s0 (.ret v) s2))):WC P G (XS P G) H0 f args s (λr s'=>QM G s0 (.ret v) s2 r (s'.cut m)):=by
 obtain⟨e,YV,s1,h1,h2⟩:=h;cases e with
 |normal=>obtain⟨v,h3,h4⟩:=h2;exact⟨_,_,.body hf hb h1 (.inl rfl) h3 (.inr rfl),h4⟩
 |ret=>obtain⟨v,h3,h4⟩:=h2;exact⟨_,_,.body hf hb h1 (.inr rfl) h3 (.inr rfl),h4⟩
 |pan v=>obtain⟨a,ha,_⟩:=h2;cases ha
 |exit id=>exact h2.elim
def aRV(hm:P.follows .mixedOrders=true){f:FuncId}{args:List AV}{s0 s2:AS}{v:AV}{m:Nat}(h:WC P G (XS P G) H0 f args s0 (λr s'=>QM G s0 (.ret v) s2 r (s'.cut m))):Sound P G (.call f args s0 (.ret v) s2):=by obtain⟨r,s',hj,a,rfl,hf⟩:=h;have hS:=sound (UP hm) hj;intro cx w vs hs GL;refine(hS cx w vs hs GL).mono ?_;rintro e w' ⟨c',hx,hs',u,rfl,hu⟩;obtain⟨c2,x2,XI,f2⟩:=hf cx w c' w' [u] hx hs (hs'.cut m) (.cons hu .nil);cases f2 with|cons f3 _=>exact⟨c2,x2,XI,u,rfl,f3⟩
def aAP(hG:∀g cs,G g=some cs->BC cs=true){s s' s2:AS}{BM fr2:List AV}(hn:s.nx<=s2.nx)(hr:s.nr<=s2.nr)(hn2:s2.nx<=s'.nx)(hr2:s2.nr<=s'.nr)
   (hd:Ld s2.h s2.nx) (aOC:∀id b,look id s2.h=some b->∃b',look id s'.h=some b'/\Uw s2.nx s2.nr b' b) (hF:∀r n,DV r s2.F=some n->DV r s'.F=some n/\r < s2.nr)
   (hf:Lw s2.nx s2.nr BM fr2):pQ G s BM s' fr2 s2:=by
 intro cx w c' w' vs hx hs hs' Ob;have hl1:=hs.len;have hl2:=hs'.len;have hl3:=hs.Ia;have hl4:=hs'.Ia
 have RJ:cx.Ce <+: c'.Ce.take s2.nx:=by obtain⟨t,ht⟩:=hx.Ce;rw[<- ht,brV,blS (by omega)];exact blW _ _
 have xA:(c'.rows.take s2.nr).length=s2.nr:=by rw[biM];omega
 refine⟨c'.upto s2.nx s2.nr,⟨RJ,?_,λr x dB h=>hx.rows r x dB (EZ h).1,λg i v hv=>YN (hx.cH g i v hv),hx.below,hx.base,hx.bad,λg hg=>hx.Yn g (bjV hg),λr g n cap sz h=>hx.Yx r g n cap sz (EZ h).1,hx.GY⟩,?_,hf _ _ _ Ob⟩;show cx.rows.length<=(c'.rows.take s2.nr).length;omega;refine⟨?_,hd,λi j g h1 h2=>hs'.nodup i j g (EZ h1).1 (EZ h2).1,λg hg=>hs'.low g (bjV hg),λid g b h1 h2=>?_,xA.symm,λr g n cap sz h=>?_,λr n h=>?_,λg hg=>hs'.NA g (bjV hg),hs'.Ng,λr r' g n cap sz n' cap' OI h h'=>hs'.Ie r r' g n cap sz n' cap' OI (EZ h).1 (EZ h').1,λg cs hg=>(hs'.Nh g cs hg).upto (E5 _ _ (hG g cs hg)),hs'.Sa,hs'.ON.sub (λg hm=>bjV hm) λr g n cap sz e=>⟨r,n,cap,sz,(EZ e).1⟩⟩;show s2.nx=(c'.Ce.take s2.nx).length;rw[biM];omega;obtain⟨b',h3,h4⟩:=aOC id b h2;obtain⟨o,ho,hb⟩:=hs'.box id g b' (EZ h1).1 h3;exact⟨o,ho,h4 _ _ _ hb⟩;obtain⟨a1,a2,a3,a4⟩:=hs'.row r g n cap sz (EZ h).1;exact⟨a1,a2,λhm=>a3 (bjV hm),a4⟩;obtain⟨h1,h2⟩:=hF r n h;rcases hs'.IZ r n h1 with ⟨h3,h4⟩ | ⟨g,cap,sz,h3⟩
 exact .inl ⟨TP h3 h2,h4⟩;exact .inr ⟨g,cap,sz,TP h3 h2⟩
def aDT(hG:∀g cs,G g=some cs->BC cs=true){live:List Nat}{n m:Nat}{s0:AS}{BM:List AV}{s':AS}{WM:List (FP n m)}{fbs:List (FB n m)}{fr2:List AV}{s2:AS}(hn:s0.nx<=n)(hr:s0.nr<=m)(hn2:n<=s'.nx)(hr2:m<=s'.nr)(h:aRH live n m BM s' (fpB WM) (fbB fbs)=some (fr2,s2,fpA WM,fbA fbs)):pQ G s0 BM s' fr2 s2:=by unfold aRH at h;split at h;rename_i f1 as hm;split at h;rename_i h1 cas hb;simp only[atS,aWN] at h;obtain⟨rfl,rfl,rfl,rfl⟩:=h;intro cx w c' w' vs hx hs hs' Ob;obtain⟨hd,hl⟩:=azR hb;refine aAP (s:=s0) (s2:=⟨h1,n,T4 m s'.F,m⟩) hG hn hr hn2 hr2 (hd _ (wD hs'.desc)) (λid b hb=>?_) (λr n hr=>wI hr) (aCI hm) cx w c' w' vs hx hs hs' Ob;obtain⟨b',h3,h4⟩:=hl id b hb;exact⟨b',WJ hs'.desc h3,h4⟩;cases h;cases h
def aWM(n:Nat):List Nat->Bool
 |[]=>false
 |k::l=>biS n k||aWM n l
def jA(ks:List Nat):List (Nat×Ay)->List (Nat×Ay)
 |[]=>[]
 |e::l=>match aWM e.1 ks with|true=>e::jA ks l|false=>jA ks l
def W4{ks:List Nat}:∀{l:List (Nat×Ay)}{n:Nat},Ld l n->Ld (jA ks l) n
 |[],_,_=>trivial
 |e::l,n,h=>by
  simp only[jA];split;exact⟨h.1,W4 h.2⟩;exact(W4 h.2).mono (Nat.le_of_lt h.1)
def W5{ks:List Nat}{id:Nat}{b:Ay}:∀{l:List (Nat×Ay)}{n:Nat},Ld l n->look id (jA ks l)=some b->look id l=some b
 |[],_,_,h=>h
 |e::l,n,hd,h=>by
  simp only[jA] at h;split at h;simp only[look] at h ⊢;split at h;exact h;exact W5 hd.2 h;have h1:=W5 hd.2 h;have h2:=Yc hd.2 h1;simp only[look];split;rename_i hb;have:=beq_true hb;omega;exact h1
def AS.pick(s:AS)(ks:List Nat):AS:=⟨jA ks s.h,s.nx,s.F,s.nr⟩
def St.pick{c:Cx}{w:World}{s:AS}(h:St G c w s)(ks:List Nat):St G c w (s.pick ks) :=
 ⟨h.len,W4 h.desc,h.nodup,h.low,λid g b h1 h2=>h.box id g b h1 (W5 h.desc h2),h.Ia,h.row,h.IZ,h.NA,h.Ng,h.Ie,h.Nh,h.Sa,h.ON⟩
def aKC(ks:List Nat)(live:List Nat)(n m0:Nat)(P:Program)(fn:Func)(m:Nat)(bs:List AV)(cs:List Ay):HR->Option (List Cd×List AV×AS×List AV×List Ay)
 |some (.fin .ret,[],cd,fr,s)=>(match Gy P s fn fr with
  |some v=>(match bmY n s.nx&&bmY m0 s.nr with
   |true=>(match aRH live n m0 [v] ((s.cut m).pick ks) bs cs with|some (fr2,s2,as,cas)=>some (cd,fr2,s2,as,cas)|none=>none)
   |false=>none)
  |none=>none)
 |_=>none
def aAT(hG:∀g cs,G g=some cs->BC cs=true){r:HR}{X:Prop}{s0:AS}{Q:AX->List AV->AS->Prop}(fn:Func)(m:Nat){l:List (PC P G)}(ks:List Nat)(live:List Nat){n m0:Nat}(WM:List (FP n m0))(fbs:List (FB n m0))(v:AV)(s2:AS)(R:Kl P G l Q r X)(hn:s0.nx<=n)(hr:s0.nr<=m0)
   (h:aKC ks live n m0 P fn m (fpB WM) (fbB fbs) r=some (Ug l,[v],s2,fpA WM,fbA fbs)) (k:XO P G fn m s0 Q v s2):X:=by
 unfold aKC at h;split at h;split at h;rename_i v' hv;split at h;rename_i hle;simp only[bhB] at hle;split at h;rename_i h1;simp only[atS,aWN] at h;obtain⟨rfl,rfl,rfl,rfl,rfl⟩:=h;exact R _ _ _ _ rfl (Nu l) (k _ _ (λcx w c' w' vs hx hs hs' hf=>aDT (s':=(AS.cut _ m).pick ks) hG hn hr (bhG hle.1) (bhG hle.2) h1 cx w c' w' vs hx hs (hs'.pick ks) hf) _ _ hv rfl);cases h;cases h;cases h;cases h
inductive RnH(dn dr nx nr:Nat):List (Nat×Ay)->List (Nat×Ay)->Prop where
 |nil:RnH dn dr nx nr [] []
 |cons {i:Nat}{b b':Ay}{l m:List (Nat×Ay)} (h:uW dn dr (λi=>nx+i) (λr=>nr+r) b b') (t:RnH dn dr nx nr l m):RnH dn dr nx nr ((i,b)::l) ((nx+i,b')::m)
def RnH.desc{dn dr nx nr:Nat}{l m h:List (Nat×Ay)}(hr:RnH dn dr nx nr l m)(hh:Ld h nx):∀{n:Nat},Ld l n->Ld (m++h) (nx+n):=by induction hr with|nil=>intro n _;exact hh.mono (Nat.le_add_right _ _)|cons h1 t ih=>intro n hd;exact⟨Nat.add_lt_add_left hd.1 _,ih hd.2⟩
def RnH.look{dn dr nx nr id:Nat}{b:Ay}{l m h:List (Nat×Ay)}(hr:RnH dn dr nx nr l m)(hb:AI.look id (m++h)=some b):(∃i b0,id=nx+i/\AI.look i l=some b0/\uW dn dr (λi=>nx+i) (λr=>nr+r) b0 b)\/AI.look id h=some b:=by
 induction hr with
 |nil=>exact .inr hb
 |@cons i b0 b1 l m h1 t ih=>
  simp only[bjR,AI.look] at hb;split at hb;rename_i he;cases hb;refine .inl ⟨i,b0,(beq_true he).symm,?_,h1⟩;simp only[AI.look];rw[blD];rename_i he;have hne:=beq_false he;rcases ih hb with ⟨i',b',e,h2,h3⟩ | h2
  refine .inl ⟨i',b',e,?_,h3⟩;simp only[AI.look];split;rename_i h4;have:=beq_true h4;omega;exact h2;exact .inr h2
def alQ{nr r n:Nat}{F:List (Nat×Nat)}:∀{F2:List (Nat×Nat)},DV r (F2.map (λp=>(nr+p.1,p.2))++F)=some n->(∃q,r=nr+q/\DV q F2=some n)\/DV r F=some n:=by
 intro F2
 induction F2 with
 |nil=>exact λh=>.inr h
 |cons x l ih=>
  intro h;simp only[bkF,bjR,DV] at h;split at h;rename_i he;cases h;refine .inl ⟨x.1,(beq_true he).symm,?_⟩;simp only[DV];rw[blD];rename_i he;have hne:=beq_false he;rcases ih h with ⟨q,e,h2⟩ | h2
  refine .inl ⟨q,e,?_⟩;simp only[DV];split;rename_i h4;have:=beq_true h4;omega;exact h2;exact .inr h2
def aNR(hG:∀g cs,G g=some cs->BC cs=true){f:FuncId}{args:List AV}{v v':AV}{h2 h3:List (Nat×Ay)}{dn dr nx nr:Nat}{F2:List (Nat×Nat)}(h:Sound P G (.call f args ⟨[],0,[],0⟩ (.ret v) ⟨h2,dn,F2,dr⟩))(hp:BC args=true)
   (hv:Rn dn dr (λi=>nx+i) (λr=>nr+r) v v') (hb:RnH dn dr nx nr h2 h3):Cd.ok P G (.mY f args nx nr v' h3 dn (F2.map λp=>(nr+p.1,p.2)) dr):=by
 intro s hnx hnr cx w vs hs ha;subst hnx hnr;have hlp:=hs.len;have hlr:=hs.Ia
 have H8:∀g i x,MD cx w g i x->MD ⟨w.heap.size,[],[],cx.jX⟩ w g i x:=by
  intro g i x hx;refine⟨hx.1,λGz=>?_,hx.2.2⟩;rcases Gz with Gz | ⟨r,n,cap,sz,hr,_⟩ | Gz
  cases Gz;simp at hr;exact hx.2.1 Gz
 have Dc:St G ⟨w.heap.size,[],[],cx.jX⟩ w ⟨[],0,[],0⟩ :=
  ⟨rfl,trivial,(λi j g h1=>by simp at h1),(λg hg=>by cases hg),(λid g b h1=>by simp at h1),rfl,(λr g n cap sz hr=>by simp at hr),(λr n hr=>by cases hr),(λg hg=>by cases hg),(λg i hb=>hs.Xn hb),(λr r' g n cap sz n' cap' OI hr=>by simp at hr),(λg cs hg=>A0.plain H8 (hG g cs hg) (hs.Nh g cs hg)),aWP _,hs.ON.aQC⟩
 refine(h _ w vs Dc (Cw.plain H8 hp ha)).mono ?_;rintro e w' ⟨c',hx,hs',u,rfl,hu⟩;have QR:=hx.below;have WO:Ut w w' (λ_=>False):=⟨QR.os,QR.tape,QR.output,QR.size,λk hk _=>QR.block k hk⟩;have hpn:∀g,some g∈c'.Ce->w.heap.size<=g:=λg hg=>(hx.Yn g hg).resolve_left (by simp);have hrn:∀(r:Nat) g n cap sz,c'.rows[r]?=some (.Sk g n cap sz)->w.heap.size<=g:=λr g n cap sz hg=>(hx.Yx r g n cap sz hg).resolve_left (by rintro⟨_,_,_,_,hh⟩;simp at hh);have hl2:dn=c'.Ce.length:=hs'.len;have hr2:dr=c'.rows.length:=hs'.Ia;let c1:Cx:=⟨cx.base,cx.Ce++c'.Ce,cx.rows++c'.rows,cx.bad⟩
 have hpu:∀(i:Nat) g,c'.Ce[i]?=some (some g)->c1.Ce[s.nx+i]?=some (some g):=λi g hg=>by
  show(cx.Ce++c'.Ce)[s.nx+i]?=_;rw[bjF (by omega),show s.nx+i - cx.Ce.length=i by omega];exact hg
 have hru:∀(r:Nat) x,c'.rows[r]?=some x->c1.rows[s.nr+r]?=some x:=λr x hg=>by
  show(cx.rows++c'.rows)[s.nr+r]?=_;rw[bjF (by omega),show s.nr+r - cx.rows.length=r by omega];exact hg
 have hpc:∀(i:Nat) g,c1.Ce[i]?=some (some g)->(i < s.nx/\cx.Ce[i]?=some (some g))\/∃k,i=s.nx+k/\c'.Ce[k]?=some (some g):=λi g hg=>by
  have hg:(cx.Ce++c'.Ce)[i]?=some (some g):=hg;by_cases hi:i < cx.Ce.length;rw[bhD hi] at hg;exact .inl ⟨by omega,hg⟩;rw[bjF (by omega)] at hg;exact .inr ⟨i - cx.Ce.length,by omega,hg⟩
 have hrc:∀(i:Nat) x,c1.rows[i]?=some x->(i < s.nr/\cx.rows[i]?=some x)\/∃k,i=s.nr+k/\c'.rows[k]?=some x:=λi x hg=>by
  have hg:(cx.rows++c'.rows)[i]?=some x:=hg;by_cases hi:i < cx.rows.length;rw[bhD hi] at hg;exact .inl ⟨by omega,hg⟩;rw[bjF (by omega)] at hg;exact .inr ⟨i - cx.rows.length,by omega,hg⟩
 have hmc:∀g,some g∈c1.Ce->some g∈cx.Ce\/some g∈c'.Ce:=λg hg=>biI.1 hg;have L7:∀g i,cx.jX g i->c'.jX g i:=λg i hh=>.inr (.inr (by rw[hx.bad];exact hh))
 have xD:∀g i x,MD c' w' g i x->MD c1 w' g i x:=by
  intro g i x hvv;refine⟨hvv.1,λGz=>hvv.2.1 ?_,hvv.2.2⟩;rcases Gz with Gz | ⟨q,n,cap,sz,hq,h1,h2⟩ | Gz
  rcases hmc g Gz with hm | hm
  exact L7 _ _ (.inl hm);exact .inl hm;rcases hrc q _ hq with ⟨_,h3⟩ | ⟨k,_,h3⟩
  exact L7 _ _ (.inr (.inl ⟨q,n,cap,sz,h3,h1,h2⟩));exact .inr (.inl ⟨k,n,cap,sz,h3,h1,h2⟩);exact L7 _ _ (.inr (.inr Gz))
 have ext:Ext cx w c1 w':=by
  refine⟨blW _ _,by simp[c1],λq y hq hy=>?_,λg i x hv=>xD g i x (hx.cH g i x (H8 g i x hv)),WO.below hs.Sa (λ_ hf=>hf.elim),rfl,rfl,λg hg=>?_,λq g n cap sz hq=>?_,λq hq hp hr=>WO.block q hq (λhf=>hf)⟩;rcases hrc q y hy with ⟨_,h3⟩ | ⟨k,h3,_⟩
  exact⟨y,h3,L6.refl y⟩;omega;rcases hmc g hg with hm | hm
  exact .inl hm;exact .inr (hpn g hm);rcases hrc q _ hq with ⟨_,h3⟩ | ⟨k,_,h3⟩
  exact .inl ⟨_,_,_,_,h3⟩;exact .inr (hrn _ _ _ _ _ h3)
 have hup:Up dn dr (λi=>s.nx+i) (λr=>s.nr+r) c' w' c1 w':=⟨xD,λi g _ hg=>hpu i g hg,λq hq=>by
  have hq:q < c'.rows.length:=by omega
  exact⟨_,hru q _ (aBD hq),aBD hq⟩⟩
 have st1:St G c1 w' ⟨h3++s.h,s.nx+dn,F2.map (λp=>(s.nr+p.1,p.2))++s.F,s.nr+dr⟩:=by
  refine⟨by simp only[c1,aWQ];omega,hb.desc hs.desc hs'.desc,λi j g h1 h2=>?_,λg hg=>?_,λid g b h1 h2=>?_,by simp only[c1,aWQ];omega,λq g n cap sz hq=>?_,λq n hq=>?_,λg hg=>?_,λg i hb=>beL (hs.Ng g i hb) WO.size,λq q' g n cap sz n' cap' OI h1 h2=>?_,λg cs gZ=>(hs.Nh g cs gZ).mono ext,biP hs.Sa WO.size,hs.ON.mono ext⟩;rcases hpc i g h1 with ⟨_,a1⟩ | ⟨k,rfl,a1⟩<;>rcases hpc j g h2 with ⟨_,a2⟩ | ⟨k2,rfl,a2⟩
  exact hs.nodup _ _ _ a1 a2;have:=hs.OY (aWR a1);have:=hpn g (aWR a2);omega;have:=hs.OY (aWR a2);have:=hpn g (aWR a1);omega;rw[hs'.nodup _ _ _ a1 a2];rcases hmc g hg with hm | hm
  exact hs.low g hm;exact biP hs.Sa (hpn g hm);rcases hb.look h2 with ⟨i,b0,rfl,h4,h5⟩ | h4
  rcases hpc _ g h1 with ⟨a0,_⟩ | ⟨k,a0,a1⟩
  omega;have:k=i:=by omega
  subst this;obtain⟨o,ho,rJ⟩:=hs'.box k g b0 a1 h4;exact⟨o,ho,h5.up hup rJ⟩;have hlt:=Yc hs.desc h4;rcases hpc _ g h1 with ⟨_,a1⟩ | ⟨k,a0,_⟩
  obtain⟨o,ho,rJ⟩:=hs.box id g b a1 h4;refine⟨o,?_,rJ.mono ext⟩;rw[WO.block g (aPB.1 ho).1 (λhf=>hf)];exact ho;omega;rcases hrc q _ hq with ⟨_,h3⟩ | ⟨k,_,h3⟩
  obtain⟨a1,a2,a3,a4,vs',T,a5,a6⟩:=hs.row _ _ _ _ _ h3;refine⟨a1,a2,λhm=>?_,a4,vs',T,?_,a6⟩;rcases hmc g hm with hm | hm
  exact a3 hm;have:=hpn g hm;have:=hs.NE h3;omega;rw[WO.block g (aPB.1 a5).1 (λhf=>hf)];exact a5;obtain⟨a1,a2,a3,a4,a5⟩:=hs'.row _ _ _ _ _ h3;have hge:=hrn _ _ _ _ _ h3;refine⟨λi hb=>?_,biP hs.Sa hge,λhm=>?_,a4,a5⟩;have:=hs.Ng _ _ hb;omega;rcases hmc g hm with hm | hm
  have:=hs.OY hm;omega;exact a3 hm;rcases alQ hq with ⟨k,rfl,h4⟩ | h4
  rcases hs'.IZ k n h4 with ⟨h5,h6⟩ | ⟨g,cap,sz,h5⟩
  exact .inl ⟨hru _ _ h5,h6⟩;exact .inr ⟨g,cap,sz,hru _ _ h5⟩
  have key:∀x,cx.rows[q]?=some x->c1.rows[q]?=some x:=λx hh=>by
   show(cx.rows++c'.rows)[q]?=_;rw[bhD (aBC.1 hh).1];exact hh
  rcases hs.IZ q n h4 with ⟨h5,h6⟩ | ⟨g,cap,sz,h5⟩
  exact .inl ⟨key _ h5,h6⟩;exact .inr ⟨g,cap,sz,key _ h5⟩;rcases hmc g hg with hm | hm
  exact beL (hs.NA g hm) WO.size;exact hs'.NA g hm;rcases hrc q _ h1 with ⟨_,a1⟩ | ⟨k,rfl,a1⟩<;>rcases hrc q' _ h2 with ⟨_,a2⟩ | ⟨k2,rfl,a2⟩
  exact hs.Ie _ _ _ _ _ _ _ _ _ a1 a2;have:=hs.NE a1;have:=hrn _ _ _ _ _ a2;omega;have:=hs.NE a2;have:=hrn _ _ _ _ _ a1;omega;rw[hs'.Ie _ _ _ _ _ _ _ _ _ a1 a2]
 exact⟨c1,ext,st1,u,rfl,hv.up hup hu⟩
def aQR{f:FuncId}{args:List AV}{nx nr:Nat}{v:AV}{h:List (Nat×Ay)}{dn:Nat}{F:List (Nat×Nat)}{dr:Nat}(h1:Cd.ok P G (.mY f args nx nr v h dn F dr)):PC P G :=
 ⟨.cn v h dn F dr,[.mY f args nx nr v h dn F dr],⟨h1,trivial⟩⟩
end
end AI
namespace AI
open Go Go.RowKit
section
variable {P:Program}{G:AN}
def Pg.abR{α:Type}{f:α->List AV}{C:List α->List AV}{k:Nat}(h:Pg f C k)(h1:∀x,(f x).all one=true)(m:List α):(C m).all one=true:=by rw[h.eq,bjM];intro a ha;obtain⟨x,_,hx⟩:=List.mem_flatMap.1 ha;exact bjM.1 (h1 x) a hx
def Pg.ga{α:Type}{f:α->List AV}{C:List α->List AV}{k:Nat}(h:Pg f C k){t tx e e2 by':Nat}(hu:P.underlying t=some (.slice e))(hux:P.underlying tx=some (.slice e2))(hi:(P.info? e).map (λi=>(i.size,i.bytes,i.zero.map (·.cells.size)))=some (k,by',some k))(hk:0 < k)(hb:by'<=10000)
   (own:Own) (l m:List α) {o:Own} (s:AS) (hm:m.length=0) (hlen:l.length+m.length<=100000000):Cd.ok P G (.WH s t tx (.sl own l.length (C l)) (.sl o m.length (C m)) (.sl own l.length (C l)) s):=by
 have hm0:m=[]:=biJ hm;subst hm0;cases hq:P.info? e with
 |none=>rw[hq] at hi;cases hi
 |some i=>
  rw[hq] at hi;simp only[bhK,atS,aWN] at hi;obtain⟨h1,h2,h3⟩:=hi;cases hz:i.zero with
  |none=>rw[hz] at h3;cases h3
  |some z=>
   rw[hz] at h3;simp only[bhK,atS] at h3;have hc:C []=[]:=by rw[h.eq];rfl
   have hll:(C l).length=l.length*k:=by rw[h.eq,HU h.len]
   refine⟨.sl own l.length (C l),?_,λc w u hr=>hr⟩
   have hs:bB P s i.size tx (.sl o ([]:List α).length (C []))=some (0,[]):=by unfold bB;rw[hux,hc];simp
   unfold MG;simp only[hu,hq,hz];rw[if_pos ⟨by rw[h3,h1],by omega⟩,hs];simp only[biV] at hlen ⊢
   have hbb:(l.length+0)*i.bytes<=140737488355328:=by rw[h2];exact biP (boY hlen hb) (by decide)
   rw[if_pos ⟨by rw[hll,h1],rfl,hbb,by omega⟩,if_pos trivial]
def aMG{t tx e:TypeId}{i:TypeInfo}{z:Value}{b:AV}{m:Nat}{ns:List AV}(ht:P.underlying t=some (.slice e))(hi:P.info? e=some i)(hz:i.zero=some z)(aOV:∀s,bB P s i.size tx b=some (m,ns))(hm:m≠0)(ho:ns.all one=true)(hb:m*i.bytes<=140737488355328)(hl:m<=9223372036854775807)(s:AS):aLY P G t tx (.sl .full 0 []) b s (.Im s.nx 0 m) (s.new (.cells ns)):=by
 intro c w va vb ty hs ha hbv;obtain⟨news,hnr,hnl,hsi⟩:=qH hs (aOV s) hbv
 have wU:∃A,va=.slice A 0 0:=by cases ha with|@sl0 _ A cap h0=>have:cap=0:=h0;subst this;exact⟨A,rfl⟩|@Lt _ _ cap g o _ hn hc ho=>have:cap=0:=ho;subst this;exact⟨_,rfl⟩
 obtain⟨A,rfl⟩:=wU
 have hold:(bjN i.size 0 (.slice A 0 0)).run P { w with drawn:=w.drawn+1 }=.ok ([]:List Value).toArray { w with drawn:=w.drawn+1 }:=by cases A with|none=>simp[bjN]|some a=>simp[bjN,loadCells,loadCellsFrom]
 obtain⟨cap',gV,Ud⟩:=TL (ty:=ty) ht hi hz hsi hold (by omega) (by omega) (by rw[bhC];exact hb);rw[bhC] at gV Ud;obtain⟨x1,st1⟩:=hs.same (w':={ w with drawn:=w.drawn+1 }) ⟨rfl,rfl,rfl,aWP _,λ_ _ _=>rfl⟩
 have hbk:Fc c { w with drawn:=w.drawn+1 } (.cells ns) (.cells (news++(biY z.cells (cap' - m)).toList).toArray e (0,0)):=.FA _ (hnr.mono x1)
 obtain⟨x2,XI⟩:=st1.new hbk
 have he:(([]++news).toArray++biY z.cells (cap' - m))=(news++(biY z.cells (cap' - m)).toList).toArray:=by apply bjG;simp
 rw[he] at Ud;exact⟨_,_,_,Ud,x1.trans x2,XI,.Im gV (by simp[hs.len])⟩
def pga{s:AS}{t tx:TypeId}{a b:AV}(h:Cd.ok P G (.WH s t tx a b a s)):PC P G:=⟨.a a s,[.WH s t tx a b a s],⟨h,trivial⟩⟩
def bfQ{s:AS}{t tx:TypeId}{a b:AV}(h:Cd.ok P G (.WH s t tx a b a s)):PC P G:=⟨.ae a,[.WH s t tx a b a s],⟨h,trivial⟩⟩
end
end AI
namespace AI
open Go Go.RowKit
def aHX:Nat->Nat->List Nat->List Nat
 |0,_,acc=>acc
 |k+1,n,acc=>match bmY n 1 with|true=>acc|false=>aHX k (n / 2) (n % 2::acc)
def sb(c:Code)(n:Nat):Code:=sub c (aHX 200 n [])
def wk1(a:AV):AV->AV
 |.any=>qV a
 |.sl .lost _ _=>(match a with|.sl _ n cs=>.sl .lost n cs|a=>a)
 |_=>a
def aSV{c:Cx}{w:World}{a b:AV}{v:Value}(hr:Rp c w a v):Rp c w (wk1 a b) v:=by
 unfold wk1;split;exact nH hr;split;cases hr with|sl0 _=>exact .sl0 trivial|Lt hn hc _=>exact .Lt hn hc trivial
 exact hr;exact hr
def wkF:List AV->List AV->List AV
 |a::l,b::k=>wk1 a b::wkF l k
 |l,_=>l
def XB{c:Cx}{w:World}:∀{l k:List AV}{vs:List Value},Cw c w l vs->Cw c w (wkF l k) vs
 |[],k,_,h=>by cases k<;>exact h
 |a::l,[],_,h=>h
 |a::l,b::k,_,h=>by cases h with | cons h1 t=>exact .cons (aSV h1) (XB t)
def aQH(n:Nat):AV->Bool
 |.fn _ a b=>aCN a&&aCN b
 |a=>obv n a
where
 aCN:List AV->Bool
   |[]=>true
   |a::l=>obv n a&&aCN l
def aPY(r:List AV->MR)(n:Nat)(a:AV)(bs:List AV):MR:=match aQH n a with|true=>xU a (r bs)|false=>none
def atX(n:Nat):List AV->List AV->List AV->MR
 |[],_,[]=>some ([],[])
 |[],_,_::_=>none
 |a::l,[],bs=>oC (atX n l []) a bs
 |a::l,b::k,bs=>match UZ b with|true=>oC (atX n l k) a bs|false=>(match aQH n b with|true=>aPY (atX n l k) n a bs|false=>aCC (atX n l k) a bs)
def bfL(n:Nat):Ay->Bool
 |.cells cs=>aQH.aCN n cs
 |_=>false
abbrev BO:=Option (List (Nat×Ay)×List (Option Ay))
def aJT(id:Nat)(a:Option Ay)(b:Ay):BO->BO
 |some (l,as)=>some ((id,b)::l,a::as)
 |none=>none
def aMT(n:Nat):List (Nat×Ay)->List (Option Ay)->BO
 |[],[]=>some ([],[])
 |e::l,none::bs=>(match bfL n e.2 with|true=>aJT e.1 none e.2 (aMT n l bs)|false=>none)
 |e::l,some b::bs=>aJT e.1 (some e.2) b (aMT n l bs)
 |_,_=>none
abbrev RO2:=Option (List AV×AS×List AV×List (Option Ay))
def aZV(tgt:List AV)(n m:Nat)(BM:List AV)(s':AS)(bs:List AV)(cs:List (Option Ay)):RO2 :=
 match atX n BM tgt bs with
 |some (fr2,as)=>(match aMT n (PX n s'.h) cs with|some (h2,cas)=>some (fr2,⟨h2,n,T4 m s'.F,m⟩,as,cas)|none=>none)
 |none=>none
section
variable {P:Program}{G:AN}
def pQ.wk{s0 s':AS}{BM k:List AV}:pQ G s0 BM s' (wkF BM k) s':=λ_ _ c' _ _ hx _ hs' Ob=>⟨c',hx,hs',XB Ob⟩
def ZF(tgt:List AV):HR->Option (AX×List Cd×List AV×AS)
 |some (.fin e,[],cd,fr,s)=>some (e,cd,wkF fr tgt,s)
 |_=>none
def aWC{r:HR}{X:Prop}{L:Code}{s0:AS}{Q:AX->List AV->AS->Prop}{l:List (PC P G)}{fr2:List AV}{s2:AS}(R:Kl P G l (Ls P G L s0 Q) r X)(h:ZF fr2 r=some (.normal,Ug l,fr2,s2))(k:WL P G (XS P G) H0 L fr2 s2 Q):X:=by unfold ZF at h;split at h;simp only[atS,aWN] at h;obtain⟨rfl,rfl,h3,rfl⟩:=h;exact R _ _ _ _ rfl (Nu l) ⟨_,_,h3▸pQ.wk,k⟩;cases h
def aIL{r:HR}{X:Prop}{L:Code}{s0:AS}{Q:AX->List AV->AS->Prop}{l:List (PC P G)}{id:Nat}{fr2:List AV}{s2:AS}(R:Kl P G l (Ls P G L s0 Q) r X)(h:ZF fr2 r=some (.exit id,Ug l,fr2,s2))(k:Q (.exit id) fr2 s2):X:=by unfold ZF at h;split at h;simp only[atS,aWN] at h;obtain⟨rfl,rfl,h3,rfl⟩:=h;exact R _ _ _ _ rfl (Nu l) ⟨_,_,h3▸pQ.wk,k⟩;cases h
def bgZ(tgt:List AV)(n m:Nat)(bs:List AV)(cs:List (Option Ay)):HR->Option (AX×List Cd×List AV×AS×List AV×List (Option Ay))
 |some (.fin e,[],cd,fr,s)=>(match aZV tgt n m fr s bs cs with|some (fr2,s2,as,cas)=>some (e,cd,fr2,s2,as,cas)|none=>none)
 |_=>none
def bhY(n m0:Nat)(P:Program)(fn:Func)(m:Nat)(e0:AX)(tgt bs:List AV)(cs:List (Option Ay)):HR->Option (AX×List Cd×List AV×AS×List AV×List (Option Ay))
 |some (.fin e,[],cd,fr,s)=>(match Gy P s fn fr with
  |some v=>(match aZV tgt n m0 [v] (s.cut m) bs cs with|some (fr2,s2,as,cas)=>some (e,cd,fr2,s2,as,cas)|none=>none)
  |none=>none)
 |_=>none
def vP(z:List NZ)(tgt:List AV):HR->Option (List Cd×Nat×Code×List KI×List AV×AS)
 |some (.at id c ks,[],cd,fr,s)=>(match nzs z fr s with|some (fr2,s2)=>some (cd,id,c,ks,wkF fr2 tgt,s2)|none=>none)
 |_=>none
def aNV{r:HR}{X:Prop}{Q:AX->List AV->AS->Prop}{l:List (PC P G)}(z:List NZ)(id:Nat)(L:Code)(aB:List KI){fr2:List AV}{s2:AS}(R:Kl P G l Q r X)
   (h:vP z fr2 r=some (Ug l,id,L,aB,fr2,s2)) (k:WL P G (XS P G) H0 L fr2 s2 (Fe id (CY P G aB Q))):X:=by
 unfold vP at h;split at h;split at h;rename_i fr3 s3 hz;simp only[atS,aWN] at h;obtain⟨rfl,rfl,rfl,rfl,h5,rfl⟩:=h;refine R _ _ _ _ rfl (Nu l) ?_;obtain⟨e3,fr4,s4,h3,h4⟩:=k;refine⟨e3,fr4,s4,.aKO (λcx w vs hs hr=>?_) h3,h4⟩;obtain⟨c2,x2,XI,r2⟩:=auN hz cx w vs hs hr;exact⟨c2,x2,XI,h5▸XB r2⟩;cases h;cases h
def jv(j:List Value)(k:Nat):Value:=aQD j k
def hdv(p:Nat):List (Nat×Value)->Option Value
 |[]=>none
 |e::_=>(match biS e.1 p with | true=>some e.2 | false=>none)
def jsN(j:List Value)(l:List (Nat×Value))(k:Nat):Nat->List Value
 |0=>[]
 |n+1=>(match hdv k l with|some v=>v::jsN j (l.drop 1) (k+1) n|none=>jv j k::jsN j l (k+1) n)
def js(n:Nat)(j:List Value)(l:List (Nat×Value)):List Value:=jsN j l 0 n
def frQ:Nat->Nat->List (Nat×AV)->List Nat->Nat->List Value->List AV
 |0,_,_,_,_,_=>[]
 |n+1,p,l,bs,kb,j=>(match frm.hd1 p l with|some v=>v::frQ n (p+1) (l.drop 1) bs kb j|none=>(match frm.hd2 p bs with|true=>.sc (jv j kb)::frQ n (p+1) l (bs.drop 1) (kb+1) j|false=>.any::frQ n (p+1) l bs kb j))
def fr(n:Nat)(l:List (Nat×AV))(bs:List Nat)(j:List Value):List AV:=frQ n 0 l bs 0 j
def exR{δ:Type}(Q:AX->List AV->AS->Prop)(id:Nat)(F:δ->List Value->List AV)(S:δ->AS)(d:δ):Prop:=∀j,Q (.exit id) (F d j) (S d)
section loops
variable {α γ δ ρ β:Type}{id:Nat}{L:Code}{aB:List KI}{Q:AX->List AV->AS->Prop}{done:γ->δ}{X:Prop}{k:δ->Option β}{kr:ρ->Option β}{r:β}
def bbN(Rv:(AX->List AV->AS->Prop)->ρ->Prop){body:Nat->α->γ->Option (Lp γ δ ρ)}{l:List α}{i0:Nat}{x:γ}(F:Nat->γ->List Value->List AV)(S:γ->AS)(XF:δ->List Value->List AV)(SX:δ->AS)(j:List Value)
   (WN:WL P G (XS P G) H0 L (F i0 x j) (S x) (Fe id (CY P G aB Q))->X)
   (hz:∀i x j,l.length<=i->exR (Fe id (CY P G aB Q)) id XF SX (done x)->W P G (XS P G) H0 L (F i x j) (S x) (Ls P G L (S x) (Fe id (CY P G aB Q))))
   (hs:∀i y x j r,l[i]?=some y->i < l.length->i < 9223372036854775807->RQ (λx'=>∀j',WL P G (XS P G) H0 L (F (i+1) x' j') (S x') (Fe id (CY P G aB Q))) (exR (Fe id (CY P G aB Q)) id XF SX) (Rv (Fe id (CY P G aB Q))) r->body i y x=some r->W P G (XS P G) H0 L (F i x j) (S x) (Ls P G L (S x) (Fe id (CY P G aB Q))))
   (hb:∀d j,k d=some r->CY P G aB Q .normal (XF d j) (SX d)) (hr:∀v,kr v=some r->Rv (Fe id (CY P G aB Q)) v):
   (PK l.length (Bs body done (l.drop i0) i0 x)).bind (F0 k kr)=some r->X:=λh=>by
 obtain⟨tU,h1,h2⟩:=fO h;obtain⟨hl,h1⟩:=bfG h1;refine WN (azD l F (λ_ x _=>S x) (λ_=>True) (exR (Fe id (CY P G aB Q)) id XF SX) (Rv (Fe id (CY P G aB Q))) (λi x j _ h3 h4=>abO (hz i x j h3 h4)) (λi y x j r _ h3 h4 h5 h6=>abO (hs i y x j r h3 h4 (by omega) (by cases r with | nx _=>exact λj'=>h6 j' trivial | ex _=>exact h6 | rt _=>exact h6) h5)) i0 h1 ?_ j trivial)
 cases tU with
 |inl d=>
  intro j;show CY P G aB Q (GU id (.exit id)) _ _;rw[show GU id (.exit id)=.normal from by simp[GU]];exact hb d j h2
 |inr v=>exact hr v h2
def aUN(Rv:(AX->List AV->AS->Prop)->ρ->Prop){body:γ->Option (Lp γ δ ρ)}{x:γ}(F:γ->List Value->List AV)(S:γ->AS)(XF:δ->List Value->List AV)(SX:δ->AS)(j:List Value)
   (WN:WL P G (XS P G) H0 L (F x j) (S x) (Fe id (CY P G aB Q))->X)
   (hs:∀x j r,RQ (λx'=>∀j',WL P G (XS P G) H0 L (F x' j') (S x') (Fe id (CY P G aB Q))) (exR (Fe id (CY P G aB Q)) id XF SX) (Rv (Fe id (CY P G aB Q))) r->body x=some r->W P G (XS P G) H0 L (F x j) (S x) (Ls P G L (S x) (Fe id (CY P G aB Q))))
   (hb:∀d j,k d=some r->CY P G aB Q .normal (XF d j) (SX d)) (hr:∀v,kr v=some r->Rv (Fe id (CY P G aB Q)) v):
   (GJ body x).bind (F0 k kr)=some r->X:=λh=>by
 obtain⟨tU,h1,h2⟩:=fO h;obtain⟨n,h1⟩:=agC h1;refine WN (azE F (λx _=>S x) (λ_=>True) (exR (Fe id (CY P G aB Q)) id XF SX) (Rv (Fe id (CY P G aB Q))) (λx j r _ h5 h6=>abO (hs x j r (by cases r with | nx _=>exact λj'=>h6 j' trivial | ex _=>exact h6 | rt _=>exact h6) h5)) n h1 ?_ j trivial)
 cases tU with
 |inl d=>
  intro j;show CY P G aB Q (GU id (.exit id)) _ _;rw[show GU id (.exit id)=.normal from by simp[GU]];exact hb d j h2
 |inr v=>exact hr v h2
end loops
def bfV{ks:List KI}{fr:List AV}{s:AS}{Q:AX->List AV->AS->Prop}(n:Nat)(l:List (PC P G)):Kl P G l Q (QQ (Su P G n) ks .normal (pHs l) fr s) (CY P G ks Q .normal fr s):=λ_ _ _ _ h hc hk=>agH (rH n) ks _ h hc hk
def pi{i:Nat}(h:i < 9223372036854775807):PC P G:=bfR i h
def pure_nil{f:FuncId}{n:Nat}{cs:List AV}{v:AV}(h1:n=0->cs=[]->Pure P G f [.sl .nil 0 []] v)(h2:Pure P G f [.sl .nn n cs] v):Pure P G f [.sl .lost n cs] v:=λs cx w vs hs ha=>by
 cases ha with
 |cons h t=>
  cases h with
  |@sl0 _ A cap _=>
   cases hA:A.isNone with|true=>exact h1 rfl rfl s cx w _ hs (.cons (.sl0 hA) t)|false=>exact h2 s cx w _ hs (.cons (.sl0 hA) t)
  |Lt hn hc _=>exact h2 s cx w _ hs (.cons (.Lt hn hc trivial) t)
def aZM{n:Nat}{l:List AV}(h:BC l=true):plain (.sl .nn n l)=true:=by simp only[plain,h];rfl
end
end AI
namespace AI
open Go Go.RowKit
section
variable {P:Program}{G:AN}
def aHQ(G:AN)(s:AS)(a v:AV):Prop:=∀(c:Cx)(w:World)(u:Value),St G c w s->(∀g,some g∈c.Ce->∀i,¬c.bad g i)->Rp c w a u->Rp (c.upto 0 0) w v u
inductive Fz(s:AS):List AV->List AV->Prop where
 |nil:Fz s [] []
 |r {a b:AV}{l k:List AV} (h:Fits 0 0 a b) (t:Fz s l k):Fz s (a::l) (b::k)
 |f {id n:Nat}{cs l k:List AV} (h:s.get id=some (.cells cs)) (hp:BC cs=true) (t:Fz s l k):Fz s (.Im id 0 n::l) (.sl .lost n cs::k)
 |g {cs ds l k:List AV} (h:Fz s cs ds) (t:Fz s l k):Fz s (.agg cs::l) (.agg ds::k)
 |u {cs ds l k:List AV} (h:Fz s cs ds) (t:Fz s l k):Fz s (.Gx cs::l) (.Gx ds::k)
def Fz.fl{s:AS}{id n m:Nat}{cs l k:List AV}(h:s.get id=some (.cells cs))(hp:BC cs=true)(hn:m=n)(t:Fz s l k):Fz s (.Im id 0 n::l) (.sl .lost m cs::k):=hn▸Fz.f h hp t
def bfT{t tx:TypeId}{a b:AV}{n:Nat}{m:Ay}(h:Cd.ok P G (.apB t tx a b n m)):PC P G:=⟨.mb n m,[.apB t tx a b n m],⟨h,trivial⟩⟩
def Pg.apm{α:Type}{f:α->List AV}{C:List α->List AV}{k:Nat}(h:Pg f C k){t tx e e2 by':Nat}(hu:P.underlying t=some (.slice e))(hux:P.underlying tx=some (.slice e2))(hi:(P.info? e).map (λi=>(i.size,i.bytes,i.zero.map (·.cells.size)))=some (k,by',some k))(hk:0 < k)(hb:by'<=10000)(h1:∀x,(f x).all one=true)
   (m:List α) {o:Own} (hm:¬m.length=0) (hlen:m.length<=100000000):Cd.ok P G (.apB t tx (.sl .full 0 []) (.sl o m.length (C m)) m.length (.cells (C m))):=by
 cases hq:P.info? e with
 |none=>rw[hq] at hi;cases hi
 |some i=>
  rw[hq] at hi;simp only[bhK,atS,aWN] at hi;obtain⟨h3,h4,h5⟩:=hi;cases hz:i.zero with
  |none=>rw[hz] at h5;cases h5
  |some z=>
   intro s;refine aMG hu hq hz (λs=>?_) hm (h.abR h1 m) (by rw[h4];exact biP (boY hlen hb) (by decide)) (by omega) s;unfold bB;rw[hux,h3];simp only[h.eq,HU h.len,if_true]
end
end AI
namespace AI
open Go
end AI
namespace AI
open Go Go.RowKit
end AI
namespace AI
open Go Go.RowKit
abbrev EW:=Cx->World->Prop
abbrev QE:=AX->List AV->AS->EW->Prop
def EOk(e:AX)(fr:List AV)(c:Cx)(w:World)(e':Exit)(a:Act):Prop:=match e with|.normal=>e'=.normal/\Cw c w fr a.tmps.toList|.exit id=>e'=.exit id/\Cw c w fr a.tmps.toList|.ret=>e'=.ret/\Cw c w fr a.tmps.toList|.pan v=>∃u,e'=.panic [{ v:=u,recovered:=false }]/\Rp c w v u
def EPost(G:AN)(Q:QE)(K:Exit->Act->World->Prop):Prop:=∀e fr s E,Q e fr s E->∀(cx:Cx)(w:World)(a:Act)(e':Exit),E cx w->St G cx w s->a.defers=[]->EOk e fr cx w e' a->K e' a w
def WE(P:Program)(G:AN)(E:EW)(c:Code)(fr:List AV)(s:AS)(Q:QE):Prop:=∀(cx:Cx)(w:World)(a:Act)(K:Exit->Act->World->Prop),E cx w->St G cx w s->Cw cx w fr a.tmps.toList->a.defers=[]->EPost G Q K->c.wp P K a w
def R9(P:Program)(G:AN)(E:EW)(ops:Array Oper)(l:List Nat)(fr:List AV)(s:AS)(Q:QE):Prop:=∀(cx:Cx)(w:World)(a:Act)(K:Exit->Act->World->Prop),E cx w->St G cx w s->Cw cx w fr a.tmps.toList->a.defers=[]->EPost G Q K->wpOps P ops K l a w
def Sg(E:EW):Prop:=∀(cx:Cx)(w:World)(SS:Cx)(w':World),E cx w->Ext cx w SS w'->E SS w'
def EOk.SA{e:AX}{fr:List AV}{c:Cx}{w:World}{e':Exit}{a:Act}(h:EOk e fr c w e' a)(he:e≠.normal):e'≠.normal:=by cases e with|normal=>exact absurd rfl he|exit id=>intro h5;rw[h.1] at h5;cases h5|ret=>intro h5;rw[h.1] at h5;cases h5|pan v=>obtain⟨u,h5,_⟩:=h;intro h6;rw[h5] at h6;cases h6
section
variable {P:Program}{G:AN}{E:EW}{fr:List AV}{s:AS}{Q:QE}
def WE.of(hm:P.follows .mixedOrders=true)(hk:Sg E){c:Code}{Q0:AX->List AV->AS->Prop}(h:W P G (XS P G) H0 c fr s Q0)(hQ:∀e BM s',Q0 e BM s'->Q e BM s' E):WE P G E c fr s Q:=by obtain⟨e,BM,s',hj,hq⟩:=h;have hS:=sound (UP hm) hj;intro cx w a K hE hs hf hd hK;refine hS cx w a K hs hf hd ?_;rintro e' a' w' ⟨c',hx,hs',Sv,h4⟩;refine hK e BM s' E (hQ _ _ _ hq) c' w' a' e' (hk _ _ _ _ hE hx) hs' Sv ?_;cases e<;>exact h4
def WE.seq{x y:Code}(h:WE P G E x fr s (λe BM s' E'=>(e=.normal/\WE P G E' y BM s' Q)\/(e≠.normal/\Q e BM s' E'))):WE P G E (.seq x y) fr s Q:=by
 intro cx w a K hE hs hf hd hK;refine wp_seq (h cx w a _ hE hs hf hd ?_);rintro e BM s' E' hq SS w' a' e' rF hs' Sv Nq;rcases hq with ⟨rfl,h2⟩ | ⟨hne,hq⟩
 obtain⟨rfl,lM⟩:=Nq;exact h2 SS w' a' K rF hs' lM Sv hK;exact YG (Nq.SA hne) (hK _ _ _ _ hq _ _ _ _ rF hs' Sv Nq)
def WE.cond{q:Operand}{x y:Code}{t:Bool}(hq:AY G fr q=some (.sc (.bool t)))(h:WE P G E (if t then x else y) fr s Q):WE P G E (.cond q x y) fr s Q:=by
 intro cx w a K hE hs hf hd hK;have hr:=Fh hs hf hq
 have JO:a.eval q=.bool t:=by generalize a.eval q=v at hr;cases hr;rfl
 exact wp_cond JO (h cx w a K hE hs hf hd hK)
def WE.skip(h:Q .normal fr s E):WE P G E .skip fr s Q:=λcx w a K hE hs hf hd hK=>wp_skip (hK _ _ _ _ h cx w a _ hE hs hd ⟨rfl,hf⟩)
def WE.exit{id:Nat}(h:Q (.exit id) fr s E):WE P G E (.exit id) fr s Q:=λcx w a K hE hs hf hd hK=>wp_exit (hK _ _ _ _ h cx w a _ hE hs hd ⟨rfl,hf⟩)
def WE.block{id:Nat}{c:Code}(h:WE P G E c fr s (λe BM s' E'=>Q (GU id e) BM s' E')):WE P G E (.block id c) fr s Q:=by
 intro cx w a K hE hs hf hd hK;refine wp_block (h cx w a _ hE hs hf hd ?_);rintro e BM s' E' hq SS w' a' e' rF hs' Sv h4;cases e with
 |normal=>obtain⟨rfl,h5⟩:=h4;exact hK _ _ _ _ hq SS w' a' _ rF hs' Sv ⟨rfl,h5⟩
 |exit T5=>
  obtain⟨rfl,h5⟩:=h4;show if T5=id then K .normal a' w' else K (.exit T5) a' w'
  by_cases hid:T5=id;rw[if_pos hid];refine hK _ _ _ _ hq SS w' a' _ rF hs' Sv ?_;simp only[GU,hid,if_true];exact⟨rfl,h5⟩;rw[if_neg hid];refine hK _ _ _ _ hq SS w' a' _ rF hs' Sv ?_;simp only[GU,hid,if_false];exact⟨rfl,h5⟩
 |ret=>obtain⟨rfl,h5⟩:=h4;exact hK _ _ _ _ hq SS w' a' _ rF hs' Sv ⟨rfl,h5⟩
 |pan v=>obtain⟨u,rfl,h5⟩:=h4;exact hK _ _ _ _ hq SS w' a' _ rF hs' Sv ⟨u,rfl,h5⟩
def WE.loop{L:Code}(I:Nat->List AV->AS->EW->Prop)(h:∀m fr s E,I m fr s E->WE P G E L fr s (λe BM s' E'=>(e=.normal/\∃m',m' < m/\I m' BM s' E')\/(e≠.normal/\Q e BM s' E'))){m:Nat}(hi:I m fr s E):WE P G E (.loop L) fr s Q:=by
 have key:∀(n m:Nat)(fr:List AV)(s:AS)(E:EW),m < n->I m fr s E->∀(cx:Cx)(w:World)(a:Act)(K:Exit->Act->World->Prop),E cx w->St G cx w s->Cw cx w fr a.tmps.toList->a.defers=[]->EPost G Q K->Code.rounds P L K n a w:=by
  intro n
  induction n with
  |zero=>intro m fr s E hm;omega
  |succ n ih=>
   intro m fr s E hm hi cx w a K hE hs hf hd hK;rw[rounds_succ];refine h m fr s E hi cx w a _ hE hs hf hd ?_;rintro e BM s' E' hq SS w' a' e' rF hs' Sv Nq;rcases hq with ⟨rfl,m',hm',Sc⟩ | ⟨hne,hq⟩
   obtain⟨rfl,lM⟩:=Nq;exact ih m' BM s' E' (by omega) Sc SS w' a' K rF hs' lM Sv hK;exact YG (Nq.SA hne) (hK _ _ _ _ hq _ _ _ _ rF hs' Sv Nq)
 intro cx w a K hE hs hf hd hK;exact wp_loop_rounds (m+1) (key (m+1) m fr s E (bjQ m) hi cx w a K hE hs hf hd hK)
def WE.region{id:Nat}{ops:Array Oper}(h:R9 P G E ops (bjD ops.size) fr s Q):WE P G E (.region id ops false) fr s Q:=λcx w a K hE hs hf hd hK=>wp_region (h cx w a K hE hs hf hd hK)
def R9.nil{ops:Array Oper}(h:Q .normal fr s E):R9 P G E ops [] fr s Q:=λcx w a K hE hs hf hd hK=>hK _ _ _ _ h cx w a .normal hE hs hd ⟨rfl,hf⟩
def R9.op(hm:P.follows .mixedOrders=true)(hk:Sg E){ops:Array Oper}{i:Nat}{l:List Nat}{o:Oper}(v:AV){s1:AS}(ho:ops[i]?=some o)(hj:J P G (XS P G) H0 (.op ops o fr s (.ret v) s1))(t:R9 P G E ops l (JB fr o.dst v) s1 Q):R9 P G E ops (i::l) fr s Q:=by intro cx w a K hE hs hf hd hK;refine NK ho (sound (UP hm) hj cx w a _ _ hs (λx _=>sU hs hf x) (PS (c:=cx) (w:=w) (λ_ _ _ _ _=>⟨fr,hf,rfl⟩)) ?_);intro u w' c' hx hs' hu;exact t c' w' (a.put o.dst u) K (hk _ _ _ _ hE hx) hs' (Q3 (hf.mono hx) hu) (by cases o.dst<;>exact hd) hK
def R9.sem{E':EW}{ops:Array Oper}{i:Nat}{l:List Nat}{o:Oper}{fr2:List AV}(v:AV){s2:AS}(ho:ops[i]?=some o)(hg:o.guard=none)
   (h:∀(cx:Cx)(w:World)(a:Act),E cx w->St G cx w s->Cw cx w fr a.tmps.toList->∃u w' SS,(execOp a.eval o).run P w=.ok (.value u) w'/\E' SS w'/\St G SS w' s2/\Cw SS w' fr2 a.tmps.toList/\Rp SS w' v u)
   (t:R9 P G E' ops l (JB fr2 o.dst v) s2 Q):R9 P G E ops (i::l) fr s Q:=by
 intro cx w a K hE hs hf hd hK;refine NK ho ?_;obtain⟨u,w',SS,hr,rF,hs',lM,hu⟩:=h cx w a hE hs hf;unfold OC;have hw:bkG o (yielded ops a.tmps)=true:=by unfold bkG;rw[hg]
 rw[hw];simp only[if_true];unfold bnS;rw[hr];exact t SS w' (a.put o.dst u) K rF hs' (Q3 lM hu) (by cases o.dst<;>exact hd) hK
end
def aTZ(b:Nat)(B:Nat->Nat->Prop)(w0:World)(E:EW):Prop:=∀(c:Cx)(w:World),E c w->c.base=b/\Below b w0 w/\(∀g i,B g i->c.bad g i)/\∀g i,some g∈c.Ce->c.bad g i->g < b
def E0(b:Nat)(B:Nat->Nat->Prop)(w0:World):EW:=λc w=>c.base=b/\c.bad=B/\Below b w0 w
def E0.GY{b:Nat}{B:Nat->Nat->Prop}{w0:World}:Sg (E0 b B w0):=λcx w SS w' h hx=>⟨hx.base.trans h.1,hx.bad.trans h.2.1,h.2.2.trans (by have:=hx.below;rw[h.1] at this;exact this)⟩
def aZQ{P:Program}{G:AN}(hm:P.follows .mixedOrders=true)(hG:∀g cs,G g=some cs->BC cs=true){f:FuncId}{fn:Func}{c:Code}{args:List AV}{v:AV}(hf:P.funcs[f]?=some fn)(hb:fn.body=some c)
   (h:∀(b:Nat)(B:Nat->Nat->Prop)(w0:World),(∀g i,B g i->g < b)->WE P G (E0 b B w0) c (args++bjS (fn.ntmps - args.length) (.sc undef)) s0 (λe BM s' E'=>(e=.normal\/e=.ret)/\aTZ b B w0 E'/\∃a,Gy P s' fn BM=some a/\aHQ G s' a v))
   (hp:BC args=true) (hv:plain v=true):Pure P G f args v:=by
 intro s cx w vs hs GL
 have H8:∀g i x,MD cx w g i x->MD ⟨w.heap.size,[],[],cx.jX⟩ w g i x:=by
  intro g i x hx;refine⟨hx.1,λGz=>?_,hx.2.2⟩;rcases Gz with Gz | ⟨r,n,cap,sz,hr,_⟩ | Gz
  cases Gz;simp at hr;exact hx.2.1 Gz
 have Dc:St G ⟨w.heap.size,[],[],cx.jX⟩ w s0 :=
  ⟨rfl,trivial,(λi j g h1=>by simp at h1),(λg hg=>by cases hg),(λid g b h1=>by simp at h1),rfl,(λr g n cap sz hr=>by simp at hr),(λr n hr=>by cases hr),(λg hg=>by cases hg),(λg i hb=>hs.Xn hb),(λr r' g n cap sz n' cap' OI hr=>by simp at hr),(λg cs hg=>A0.plain H8 (hG g cs hg) (hs.Nh g cs hg)),aWP _,hs.ON.aQC⟩
 have hl:=GL.len;refine calls_of_wp hf hb (h w.heap.size cx.jX w (λg i hb=>hs.Xn hb) ⟨w.heap.size,[],[],cx.jX⟩ w _ _ ⟨rfl,rfl,Below.refl _ _⟩ Dc ?_ rfl ?_);simp only[Array.toList_append,Array.toList_replicate];rw[show vs.toArray.size=args.length by rw[bjY,hl]];exact(Cw.plain H8 hp GL).append (Cw.replicate (.sc rfl) _);rintro e BM s' E' ⟨he,Zd,a0,hr,hft⟩ c' w' a' e' rF OO Sv Nq;obtain⟨h1,QR,h3,h4⟩:=Zd c' w' rF
 have bdK:Cw c' w' BM a'.tmps.toList/\(e'=.normal\/e'=.ret):=by
  rcases he with rfl | rfl
  exact⟨Nq.2,.inl Nq.1⟩;exact⟨Nq.2,.inr Nq.1⟩
 obtain⟨hf5,he'⟩:=bdK;obtain⟨u,h6,h7⟩:=Q4 OO hf5 hr;obtain⟨x2,XI⟩:=hs.same (w':=w') ⟨QR.os,QR.tape,QR.output,QR.size,λk hk _=>QR.block k hk⟩
 have L7:∀g,some g∈c'.Ce->∀i,¬c'.bad g i:=λg hg i hb=>by
  have h5:=OO.low g hg;have:=h4 g i hg hb;omega
 have alG:=hft _ _ _ OO L7 h7;have wW:aMB G cx w (.ret v) s (.returned u) w':=⟨cx,x2,XI,u,rfl,Rp.plain (c:=c'.upto 0 0) (λg i x hvv=>⟨hvv.1,λGz=>hvv.2.1 (.inr (.inr (h3 g i Gz))),hvv.2.2⟩) hv alG⟩;rcases he' with rfl | rfl
 exact⟨Sv,u,h6,wW⟩;exact⟨Sv,u,h6,wW⟩
end AI
namespace AI
open Go Go.RowKit
def GH:Code->Array Oper
 |.region _ ops _=>ops
 |_=>#[]
def Vi:Code->Nat->Bool
 |.region _ ops d,n=>(match d with|false=>biS ops.size n|true=>false)
 |_,_=>false
def bfJ:Oper:={ dst:=none,op:=.move (.tmp 0),type:=0,pos:="",after:=#[],guard:=none }
def opAt(c:Code)(i:Nat):Oper:=((GH c)[i]?).getD bfJ
def ahP{c:Code}{n:Nat}(h:Vi c n=true):(∃id,c=.region id (GH c) false)/\(GH c).size=n:=by unfold Vi at h;split at h;rename_i id ops d;split at h;exact⟨⟨id,rfl⟩,bjK h⟩;cases h;cases h
def MV{c:Code}{n i:Nat}(h:Vi c n=true)(hi:i < n):(GH c)[i]?=some (opAt c i):=by have:=(ahP h).2;unfold opAt;rw[bkB (by omega)];rfl
def agU(o:Oper):Option (Operand×TypeId):=match o.guard with
 |none=>(match o.op with
  |.call cl=>(match cl.callee with
   |.builtin .len=>(match cl.args.toList with
    |[x]=>(match cl.argTypes.toList with|[t]=>some (x,t)|_=>none)
    |_=>none)
   |_=>none)
  |_=>none)
 |some _=>none
def vK(o:Oper):Option (Operand×Operand×TypeId×TypeId):=match o.guard with
 |none=>(match o.op with
  |.call cl=>(match cl.callee with
   |.builtin .append=>(match cl.args.toList with
    |[x,y]=>(match cl.argTypes.toList with|[t,tx]=>some (x,y,t,tx)|_=>none)
    |_=>none)
   |_=>none)
  |_=>none)
 |some _=>none
def aiA(o:Oper):Option (TypeId×Operand×Operand):=match o.guard with
 |none=>(match o.op with
  |.slice t x lo hi mx=>(match lo with
   |none=>(match hi with
    |some y=>(match mx with|none=>some (t,x,y)|_=>none)
    |_=>none)
   |_=>none)
  |_=>none)
 |some _=>none
def aPL(o:Oper):Option (TypeId×Operand×Operand):=match o.guard with
 |none=>(match o.op with|.indexAddr t x y=>some (t,x,y)|_=>none)
 |some _=>none
def aPQ(o:Oper):Option (TypeId×Operand):=match o.guard with
 |none=>(match o.op with|.load t x=>some (t,x)|_=>none)
 |some _=>none
def azS(o:Oper):Option (TypeId×Operand):=match o.guard with
 |none=>(match o.op with
  |.buildSlice t n ps=>(match n with
   |1=>(match ps.toList with|[(0,x)]=>some (t,x)|_=>none)
   |_=>none)
  |_=>none)
 |some _=>none
section
variable {P:Program}{w:World}{ρ:Operand->Value}{o:Oper}
def alN{x:Operand}{t e:TypeId}{A:Option Addr}{n cap:Nat}(h:agU o=some (x,t))(hu:P.underlying t=some (.slice e))(ha:ρ x=.slice A n cap):o.guard=none/\(execOp ρ o).run P w=.ok (.value (.int .i64 n)) w:=by
 unfold agU at h;split at h;rename_i hg;refine⟨hg,?_⟩;split at h;rename_i cl ho;split at h;rename_i IX;split at h;rename_i x' hx;split at h;rename_i t' ht;cases h;have e1:cl.args=#[x]:=by apply bjG;rw[hx]
 have e2:cl.argTypes=#[t]:=by apply bjG;rw[ht]
 simp[execOp,ho,resolve,IX,e1,e2,invoke,builtin,ha,Builtin.len_,run_underlying hu,goInt];cases h;cases h;cases h;cases h;cases h
def mV{x y:Operand}{t tx:TypeId}{u:Value}{w':World}(h:vK o=some (x,y,t,tx))(hr:∀ty,(bkX #[t,tx] ty #[ρ x,ρ y]).run P w=.ok u w'):o.guard=none/\(execOp ρ o).run P w=.ok (.value u) w':=by
 unfold vK at h;split at h;rename_i hg;refine⟨hg,?_⟩;split at h;rename_i cl ho;split at h;rename_i IX;split at h;rename_i x' y' hx;split at h;rename_i t' tx' ht;cases h;have e1:cl.args=#[x,y]:=by apply bjG;rw[hx]
 have e2:cl.argTypes=#[t,tx]:=by apply bjG;rw[ht]
 simp[execOp,ho,resolve,IX,e1,e2,invoke,builtin,hr];cases h;cases h;cases h;cases h;cases h
def vL{q:Operand×Operand×TypeId×TypeId}(h:vK o=some q):o.guard=none:=by unfold vK at h;split at h;rename_i hg;exact hg;cases h
def amS{x y:Operand}{t e:TypeId}{i:TypeInfo}{g n cap m:Nat}(h:aiA o=some (t,x,y))(hu:P.underlying t=some (.slice e))(hi:P.info? e=some i)(ha:ρ x=.slice (some ⟨g,0,none⟩) n cap)(hy:ρ y=.int .i64 m)(hm:m<=cap):o.guard=none/\(execOp ρ o).run P w=.ok (.value (.slice (some ⟨g,0,none⟩) m cap)) w:=by unfold aiA at h;split at h;rename_i hg;refine⟨hg,?_⟩;split at h;rename_i t' x' lo Sc mx ho;split at h;split at h;split at h;cases h;have b1:Vw 0 none 0:=.inl ⟨rfl,rfl⟩;have b2:Vw n (some (.int .i64 ((m:Nat):Int))) m:=.inr ⟨.i64,(m:Int),rfl,by omega,by simp⟩;simp only[execOp,ho,Option.map_none,bhK,ha,hy,Instr.sliceAt,biG,run_underlying hu,biD,Instr.slice,Xl b1 b2 (bjI m) hm,bjJ,CN hi];congr 3;split;rfl;simp[add_lit];cases h;cases h;cases h;cases h;cases h
def asJ{x y:Operand}{t e:TypeId}{i:TypeInfo}{g n cap m:Nat}(h:aPL o=some (t,x,y))(hu:P.underlying t=some (.slice e))(hi:P.info? e=some i)(ha:ρ x=.slice (some ⟨g,0,none⟩) n cap)(hy:ρ y=.int .i64 m)(hm:m < n):o.guard=none/\(execOp ρ o).run P w=.ok (.value (.pointer (some ⟨g,m*i.size,none⟩))) w:=by
 unfold aPL at h;split at h;rename_i hg;refine⟨hg,?_⟩;split at h;rename_i t' x' y' ho;cases h;have h0:(0:Int)<=(m:Int):=by omega
 have h1:(m:Int) < (n:Int):=by omega
 simp[execOp,ho,ha,hy,Instr.indexAt,asIntOf,run_underlying hu,hm,CN hi,add_lit];cases h;cases h
def asP{x:Operand}{t:TypeId}{a:Addr}{u:Value}(h:aPQ o=some (t,x))(ha:ρ x=.pointer (some a))(hr:(loadVar t a).run P w=.ok u w):o.guard=none/\(execOp ρ o).run P w=.ok (.value u) w:=by unfold aPQ at h;split at h;rename_i hg;refine⟨hg,?_⟩;split at h;rename_i t' x' ho;cases h;simp[execOp,ho,ha,Instr.loadAt,Instr.sureAddr,hr];cases h;cases h
def aoU{x:Operand}{t e:TypeId}{i:TypeInfo}{z:Value}(h:azS o=some (t,x))(hu:P.underlying t=some (.slice e))(hi:P.info? e=some i)(hs:i.size=1)(hz:i.zero=some z)(hzs:z.cells.size=1)(hv:(ρ x).cells=#[ρ x]):o.guard=none/\(execOp ρ o).run P w=.ok (.value (.slice (some ⟨w.heap.size,0,none⟩) 1 1)) { w with heap:=w.heap.push (.cells #[ρ x] e) }:=by
 unfold azS at h;split at h;rename_i hg;refine⟨hg,?_⟩;split at h;rename_i t' n ps ho;split at h;split at h;rename_i x' nS;cases h;have e1:ps=#[(0,x)]:=by apply bjG;rw[nS]
 have hf:∀B:Array Value,B.size=1->bqD (λi=>some (i,1)) B [(0,ρ x)]=some #[ρ x]:=by intro B hB;obtain⟨b,rfl⟩:=Array.size_eq_one_iff.1 hB;simp[bqD,hv]
 have h2:=hf ((Array.range 1).map (z.cells[· % z.cells.size]!)) (by simp);simp only[execOp,ho,e1,Instr.buildSlice,biG,run_underlying hu,biD,CN hi,hs,Sem.run_ite,zeroValue,typeInfo,run_program,hi,hz,bjJ,List.map_toArray,bkF,List.map_nil,bpK,Nat.one_ne_zero,if_false,gt_iff_lt,show ¬(2 ^ 24 < 1) from by decide,newRow];rw[h2];simp;cases h;cases h;cases h;cases h
end
end AI
namespace AI
open Go Go.RowKit
def aI(ps:List (Nat×Nat)):List AV:=ps.map λp=>.ptr p.1 p.2
def Zq(ps:List (Nat×Nat)):(aI ps).length=ps.length:=by simp[aI]
def E3(b:Nat)(B:Nat->Nat->Prop)(w0:World)(g cap:Nat)(ps:List (Nat×Nat)):EW:=λc w=>
 c.base=b/\Below b w0 w/\(∀g' i,c.bad g' i↔(B g' i\/g'=g))/\b<=g/\some g∉c.Ce/\(∀(r:Nat) n cap' sz,c.rows[r]?≠some (.Sk g n cap' sz)) /\
 ∃(vs ext:List Value)(T:TypeId),w.heap[g]?=some (.cells (vs++ext).toArray T (0,0))/\vs.length+ext.length=cap/\Cw c w (aI ps) vs
def E3.GY{b:Nat}{B:Nat->Nat->Prop}{w0:World}{g cap:Nat}{ps:List (Nat×Nat)}:Sg (E3 b B w0 g cap ps):=by
 rintro cx w SS w' ⟨h1,h2,h3,h4,h5,h6,vs,ext,T,h7,h8,h9⟩ hx;have hg:g < w.heap.size:=(aPB.1 h7).1;refine⟨hx.base.trans h1,h2.trans (by have:=hx.below;rwa[h1] at this),λg' i=>by rw[hx.bad];exact h3 g' i,h4,λhm=>?_,λr n cap' sz hr=>?_,vs,ext,T,by rw[hx.GY g hg h5 h6];exact h7,h8,h9.mono hx⟩;rcases hx.Yn g hm with h | h
 exact h5 h;omega;rcases hx.Yx r g n cap' sz hr with ⟨r0,n0,PT,kC,h⟩ | h
 exact h6 _ _ _ _ h;omega
def E3.fin{b:Nat}{B:Nat->Nat->Prop}{w0:World}{g cap:Nat}{ps:List (Nat×Nat)}(hB:∀g i,B g i->g < b):aTZ b B w0 (E3 b B w0 g cap ps):=by
 rintro c w ⟨h1,h2,h3,h4,h5,_⟩;refine⟨h1,h2,λg' i hb=>(h3 g' i).2 (.inl hb),λg' i hg hb=>?_⟩;rcases(h3 g' i).1 hb with h | rfl
 exact hB g' i h;exact absurd hg h5
def E3.pop{b:Nat}{B:Nat->Nat->Prop}{w0:World}{g cap:Nat}{ps:List (Nat×Nat)}{p:Nat×Nat}{c:Cx}{w:World}(h:E3 b B w0 g cap (ps++[p]) c w):E3 b B w0 g cap ps c w:=by obtain⟨h1,h2,h3,h4,h5,h6,vs,ext,T,h7,h8,h9⟩:=h;have hl:=h9.len;rw[Zq,aWQ] at hl;refine⟨h1,h2,h3,h4,h5,h6,vs.take ps.length,vs.drop ps.length++ext,T,by rw[<- bjX,blJ];exact h7,by rw[aWQ,biM,bhI];omega,?_⟩;have:=h9.take ps.length;unfold aI at this ⊢;rwa[bjC,bqL (by simp)] at this
def St.move{G:AN}{c c':Cx}{w w':World}{s:AS}(h:St G c w s)(hm:Mon c w c' w')(RJ:c'.Ce=c.Ce)(iB:c'.rows=c.rows)(wT:c'.base=c.base)
   (arQ:∀k,k < w.heap.size->(some k∈c.Ce\/(∃(r:Nat)(n cap sz:Nat),c.rows[r]?=some (.Sk k n cap sz))\/∃cs,G k=some cs)->w'.heap[k]?=w.heap[k]?) (aJB:w.heap.size<=w'.heap.size)
   (L7:∀g i,c'.bad g i->(c.bad g i\/w.heap.size<=g)/\g < w'.heap.size):St G c' w' s:=by
 refine⟨by rw[RJ];exact h.len,h.desc,by rw[RJ];exact h.nodup,by rw[RJ,wT];exact h.low,λid g b h1 h2=>?_,by rw[iB];exact h.Ia,λr g n cap sz hr=>?_,by rw[iB];exact h.IZ,λg hg=>beL (h.NA g (by rwa[RJ] at hg)) aJB,λg i hb=>(L7 g i hb).2,by rw[iB];exact h.Ie,λg cs hg=>(h.Nh g cs hg).DL hm,by rw[wT];exact biP h.Sa aJB,λg cs hg=>by
  obtain⟨⟨h1,h2⟩,vs,T,f,h3,h4⟩:=h.ON g cs hg;exact⟨⟨by rw[RJ];exact h1,by rw[iB];exact h2⟩,vs,T,f,by rw[arQ g (aPB.1 h3).1 (.inr (.inr ⟨cs,hg⟩))];exact h3,h4⟩⟩
 rw[RJ] at h1;obtain⟨o,ho,hb⟩:=h.box id g b h1 h2;exact⟨o,by rw[arQ g (aPB.1 ho).1 (.inl (aWR h1))];exact ho,hb.DL hm⟩;rw[iB] at hr;obtain⟨a1,a2,a3,a4,vs,T,a5,a6⟩:=h.row r g n cap sz hr;have hlt:=h.NE hr;refine⟨λi hb=>?_,by rw[wT];exact a2,by rw[RJ];exact a3,a4,vs,T,by rw[arQ g hlt (.inr (.inl ⟨r,n,cap,sz,hr⟩))];exact a5,a6⟩;rcases(L7 g i hb).1 with h1 | h1
 exact a1 i h1;omega
section
variable {P:Program}{G:AN}{E:EW}{fr:List AV}{s:AS}{Q:QE}
def R9.baD{ι:Type}{E':ι->EW}{ops:Array Oper}{i:Nat}{l:List Nat}{o:Oper}{fr2:List AV}(v:ι->AV){s2:AS}(ho:ops[i]?=some o)(hg:o.guard=none)
   (h:∀(cx:Cx)(w:World)(a:Act),E cx w->St G cx w s->Cw cx w fr a.tmps.toList->∃x u w' SS,(execOp a.eval o).run P w=.ok (.value u) w'/\E' x SS w'/\St G SS w' s2/\Cw SS w' fr2 a.tmps.toList/\Rp SS w' (v x) u)
   (t:∀x,R9 P G (E' x) ops l (JB fr2 o.dst (v x)) s2 Q):R9 P G E ops (i::l) fr s Q:=by
 intro cx w a K hE hs hf hd hK;refine NK ho ?_;obtain⟨x,u,w',SS,hr,rF,hs',lM,hu⟩:=h cx w a hE hs hf;unfold OC;have hw:bkG o (yielded ops a.tmps)=true:=by unfold bkG;rw[hg]
 rw[hw];simp only[if_true];unfold bnS;rw[hr];exact t x SS w' (a.put o.dst u) K rF hs' (Q3 lM hu) (by cases o.dst<;>exact hd) hK
def WE.reg{c:Code}{n:Nat}(h:Vi c n=true)(k:R9 P G E (GH c) (bjD n) fr s Q):WE P G E c fr s Q:=by obtain⟨⟨id,hc⟩,hn⟩:=ahP h;rw[hc];refine .region ?_;rw[<- hn] at k;exact k
variable {c:Code}{n i:Nat}{l:List Nat}
def R9.len{x:Operand}{t e:TypeId}{A:Option Addr}{k cap:Nat}(hr:Vi c n=true)(hi:i < n)(h:agU (opAt c i)=some (x,t))(hu:P.underlying t=some (.slice e))(ha:AY G fr x=some (.raw A k cap))
   (j:R9 P G E (GH c) l (JB fr (opAt c i).dst (.sc (.int .i64 k))) s Q):R9 P G E (GH c) (i::l) fr s Q:=by
 have hgd:(opAt c i).guard=none:=by unfold agU at h;split at h;rename_i hg;exact hg;cases h
 refine .sem (.sc (.int .i64 k)) (MV hr hi) hgd (λcx w a hE hs hf=>?_) j;have hv:=Fh hs hf ha;generalize hq:a.eval x=v at hv;cases hv;exact⟨_,w,cx,(alN h hu hq).2,hE,hs,hf,.sc rfl⟩
variable {b g cap:Nat}{B:Nat->Nat->Prop}{w0:World}{ps:List (Nat×Nat)}{p:Nat×Nat}
def R9.top{t t2 e d:TypeId}{x y:Operand}(hr:Vi c n=true)(hi:i+1 < n)(h1:aPL (opAt c i)=some (t,x,y))(hd:(opAt c i).dst=some d)(h2:aPQ (opAt c (i+1))=some (t2,.tmp d))(hu:P.underlying t=some (.slice e))(he:(P.info? e).map (·.size)=some 1)
   (hd2:(P.underlying t2).map OP=some false) (he2:(P.info? t2).map (·.size)=some 1) (ha:AY G fr x=some (.raw (some ⟨g,0,none⟩) (ps++[p]).length cap)) (hy:AY G fr y=some (.sc (.int .i64 ((ps.length:Nat):Int)))) (hd3:blF d fr.length=true)
   (j:R9 P G (E3 b B w0 g cap (ps++[p])) (GH c) l (JB (JB fr (some d) .any) (opAt c (i+1)).dst (.ptr p.1 p.2)) s Q):R9 P G (E3 b B w0 g cap (ps++[p])) (GH c) (i::(i+1)::l) fr s Q:=by
 have hd3:d < fr.length:=Nat.blt_eq.mp hd3;intro cx w a K hE hs hf hdf hK;have hva:=Fh hs hf ha;have hvy:=Fh hs hf hy;generalize hqa:a.eval x=va at hva;generalize hqy:a.eval y=vy at hvy;cases hva;cases hvy;obtain⟨ie,hie,hsz⟩:=bjO.1 he;have r1:=asJ (P:=P) (w:=w) h1 hu hie hqa hqy (by simp);rw[hsz,bpK] at r1;have hE2:=hE;obtain⟨_,_,_,_,_,_,vs,ext,T,h7,h8,h9⟩:=hE2;refine NK (MV hr (by omega)) ?_;unfold OC;rw[show bkG (opAt c i) (yielded (GH c) a.tmps)=true by unfold bkG;rw[r1.1]];simp only[if_true];unfold bnS;rw[r1.2];show wpOps P (GH c) K ((i+1)::l) (a.put (opAt c i).dst (.pointer (some ⟨g,ps.length,none⟩))) w;rw[hd];have hl:=hf.len;rw[biR] at hl
 have JO:(a.put (some d) (.pointer (some ⟨g,ps.length,none⟩))).eval (.tmp d)=.pointer (some ⟨g,ps.length,none⟩):=by simp[Act.put,Act.eval,bjL,Array.getElem?_setIfInBounds,hl,hd3]
 have hap:apart P t2 (aI (ps++[p])) ps.length=some (.ptr p.1 p.2):=by
  unfold apart;obtain⟨dd,hu2,hdd⟩:=bjO.1 hd2;rw[hu2];cases WQ:P.info? t2 with
  |none=>rw[WQ] at he2;cases he2
  |some j=>
   simp only;rw[hdd,if_neg (by simp)];simp[aI]
 obtain⟨u,hru,hrp⟩:=WG (P:=P) (w:=w) (g:=g) (o:=0) hap h9 (λi v hv=>by rw[bhC];exact cell_of_heap h7 (XR hv));rw[bhC] at hru;have r2:=asP (P:=P) (w:=w) h2 JO hru;refine NK (MV hr hi) ?_;unfold OC;rw[show ∀q,bkG (opAt c (i+1)) q=true by intro q;unfold bkG;rw[r2.1]];simp only[if_true];unfold bnS;rw[r2.2];exact j cx w _ K hE hs (Q3 (Q3 (dst:=some d) hf (.any (v:=.pointer (some ⟨g,ps.length,none⟩)) rfl)) hrp) (by cases (opAt c (i+1)).dst<;>exact hdf) hK
def R9.bfU{t e:TypeId}{x y:Operand}(hr:Vi c n=true)(hi:i < n)(h:aiA (opAt c i)=some (t,x,y))(hu:P.underlying t=some (.slice e))(he:(P.info? e).map (·.size)=some 1)(ha:AY G fr x=some (.raw (some ⟨g,0,none⟩) (ps++[p]).length cap))(hy:AY G fr y=some (.sc (.int .i64 ((ps.length:Nat):Int))))
   (j:R9 P G (E3 b B w0 g cap ps) (GH c) l (JB fr (opAt c i).dst (.raw (some ⟨g,0,none⟩) ps.length cap)) s Q):R9 P G (E3 b B w0 g cap (ps++[p])) (GH c) (i::l) fr s Q:=by
 have hgd:(opAt c i).guard=none:=by unfold aiA at h;split at h;rename_i hg;exact hg;cases h
 refine .sem (.raw (some ⟨g,0,none⟩) ps.length cap) (MV hr hi) hgd (λcx w a hE hs hf=>?_) j;have hva:=Fh hs hf ha;have hvy:=Fh hs hf hy;generalize hqa:a.eval x=va at hva;generalize hqy:a.eval y=vy at hvy;cases hva;cases hvy;obtain⟨ie,hie,_⟩:=bjO.1 he;have hE2:=hE;obtain⟨_,_,_,_,_,_,vs,ext,T,h7,h8,h9⟩:=hE2;have hl:=h9.len;rw[Zq,aWQ] at hl;exact⟨_,w,cx,(amS h hu hie hqa hqy (by omega)).2,hE.pop,hs,hf,.raw⟩
def R9.push{t tx e e2 id off:TypeId}{x y:Operand}(hr:Vi c n=true)(hi:i < n)(h:vK (opAt c i)=some (x,y,t,tx))(hu:P.underlying t=some (.slice e))(hux:P.underlying tx=some (.slice e2))
   (he:(P.info? e).map (λi=>(i.size,decide (i.bytes<=10000),i.zero.map (·.cells.size)))=some (1,true,some 1)) (ha:AY G fr x=some (.raw (some ⟨g,0,none⟩) ps.length cap)) (hy:AY G fr y=some (.sl .full 1 [.ptr id off])) (hlen:ps.length+1<=100000000)
   (j:∀g' cap',R9 P G (E3 b B w0 g' cap' (ps++[(id,off)])) (GH c) l (JB fr (opAt c i).dst (.raw (some ⟨g',0,none⟩) (ps++[(id,off)]).length cap')) s Q):R9 P G (E3 b B w0 g cap ps) (GH c) (i::l) fr s Q:=by
 cases hie:P.info? e with
 |none=>rw[hie] at he;cases he
 |some ie=>
 rw[hie] at he;simp only[bhK,atS,aWN,decide_eq_true_eq] at he;obtain⟨hsz,hby,hzz⟩:=he;obtain⟨z,hz,hzs⟩:=bjO.1 hzz;refine .baD (ι:=Nat×Nat) (E':=λq=>E3 b B w0 q.1 q.2 (ps++[(id,off)])) (λq=>.raw (some ⟨q.1,0,none⟩) (ps++[(id,off)]).length q.2) (MV hr hi) (vL h) (λcx w a hE hs hf=>?_) (λq=>j q.1 q.2);have hva:=Fh hs hf ha;have hvy:=Fh hs hf hy;generalize hqa:a.eval x=va at hva;generalize hqy:a.eval y=vy at hvy;cases hva;obtain⟨h1,h2,h3,h4,h5,h6,vs,ext,T,h7,h8,h9⟩:=hE;have hg:g < w.heap.size:=(aPB.1 h7).1;have hl:=h9.len;rw[Zq] at hl;obtain⟨news,hnr,hnl,hsi⟩:=qH (P:=P) (s:=s) (size:=ie.size) (tx:=tx) (n:=1) (cs:=[.ptr id off]) hs (by unfold bB;rw[hux,hsz];rfl) hvy;rw[hsz,bpK] at hnl;have aBG:∀g' i v,MD cx w g' i v->g'≠g:=λg' i v hv e=>hv.2.1 (.inr (.inr ((h3 g' i).2 (.inr e))))
 have aIX:∀{SS:Cx}{w':World},Mon cx w SS w'->Cw SS w' (aI (ps++[(id,off)])) (vs++news):=λhm=>by
  unfold aI at h9 ⊢;rw[bjC];exact(h9.DL hm).append (hnr.DL hm)
 by_cases X5:ps.length+1<=cap
 ·have alG:ps.length+news.length<=(vs++ext).toArray.size:=by rw[hnl,bjY,aWQ];omega
  have Dc:=run_storeCells_at P g ps.length T news 0 (vs++ext).toArray w h7 (by simpa using alG) (dK hnr rfl)
  simp only[bjU] at Dc;have Np:=setRow_heap w g (vs++ext).toArray ((vs++ext).toArray.toList.take ps.length++news++(vs++ext).toArray.toList.drop (ps.length+news.length)).toArray T (0,0) h7;have hc:=IM w g ((vs++ext).toArray.toList.take ps.length++news++(vs++ext).toArray.toList.drop (ps.length+news.length)).toArray
  have acQ:((vs++ext).toArray.toList.take ps.length++news++(vs++ext).toArray.toList.drop (ps.length+news.length))=(vs++news)++ext.drop 1:=by simp only[List.toList_toArray];rw[bqL hl,hnl,bpY];rw[biX (by omega),bkC,show ps.length+1 - vs.length=1 by omega]
  rw[acQ] at Np Dc hc;have hm:Mon cx w cx (w.setRow g ((vs++news)++ext.drop 1).toArray):=⟨λ_ _ h=>h,aWP _,λr y _ h=>⟨y,h,L6.refl y⟩,λg' i v hv=>⟨beL hv.1 hc.size,hv.2.1,by rw[hc.cell hv.1 (aBG g' i v hv)];exact hv.2.2⟩⟩
  refine⟨(g,cap),_,_,cx,(mV h (λty=>by
   rw[hqa,hqy];exact TM (ty:=ty) hu hie hsi X5 (w':=w.setRow g ((vs++news)++ext.drop 1).toArray) (λa ha=>by cases ha;rw[add_lit,bhC,hsz,bpK];exact Dc) (λh=>by cases h))).2,⟨h1,h2.trans (hc.below (by rw[<- h1];exact hs.Sa) (λk hk=>by rw[hk];exact h4)),h3,h4,h5,h6,vs++news,ext.drop 1,T,Np,?_,aIX hm⟩,hs.move hm rfl rfl rfl (λk hk hor=>hc.block k hk (λe=>?_)) hc.size (λg' i hb=>⟨.inl hb,beL (hs.Ng g' i hb) hc.size⟩),hf.DL hm,?_⟩
  rw[aWQ,bhI];omega
  ·subst e
   rcases hor with h | ⟨r,n',cap',sz,h⟩ | ⟨cs,h⟩
   exact h5 h;exact h6 _ _ _ _ h
   ·cases cs with
    |nil=>
     obtain⟨_,vs',T',f',e3,e4⟩:=hs.ON _ _ h;rw[h7] at e3;cases e3;simp only[bjY,aWQ,biV] at e4;omega
    |cons c0 cs=>
     obtain⟨v,hv,_⟩:=(hs.Nh _ _ h).get (i:=0) rfl;exact aBG _ _ _ hv rfl
  rw[aWQ];exact .raw
 have hfc:(bjN ie.size ps.length (.slice (some ⟨g,0,none⟩) ps.length cap)).run P { w with drawn:=w.drawn+1 }=.ok vs.toArray { w with drawn:=w.drawn+1 }:=by
  rw[hsz];refine run_firstCells_some { w with drawn:=w.drawn+1 } 1 ps.length ⟨g,0,none⟩ ps.length cap vs (by omega) (λj v hj=>?_)
  rw[add_lit,bhC];exact cell_of_heap h7 (XR hj)
 have aOD:(ps.length+1)*ie.bytes<=140737488355328:=biP (boY hlen hby) (by decide)
 have hex:∃cap',ps.length+1<=cap'/\∀ty,(bkX #[t,tx] ty #[.slice (some ⟨g,0,none⟩) ps.length cap,vy]).run P w=.ok (.slice (some ⟨w.heap.size,0,none⟩) (ps.length+1) cap') { w with drawn:=w.drawn+1,heap:=w.heap.push (.cells ((vs++news).toArray++biY z.cells (cap' - (ps.length+1))) e) }:=by obtain⟨cap',hc',Ud⟩:=TL (ty:=0) hu hie hz hsi hfc (by omega) (by omega) aOD;exact⟨cap',hc',λty=>Ud⟩
 obtain⟨cap',gV,Ud⟩:=hex;have hzc:(biY z.cells (cap' - (ps.length+1))).size=cap' - (ps.length+1):=by rw[size_zeroCells,hzs,bpK]
 let w':World:={ w with drawn:=w.drawn+1,heap:=w.heap.push (.cells ((vs++news).toArray++biY z.cells (cap' - (ps.length+1))) e) }
 have hk:Ut w w' (λ_=>False):=⟨rfl,rfl,rfl,by simp[w'],λk hk _=>by simp[w',Array.getElem?_push];intro h;omega⟩
 have Np:w'.heap[w.heap.size]?=some (.cells ((vs++news)++(biY z.cells (cap' - (ps.length+1))).toList).toArray e (0,0)):=by
  have:w'.heap[w.heap.size]?=some (.cells ((vs++news).toArray++biY z.cells (cap' - (ps.length+1))) e (0,0)):=by simp[w']
  rw[this];congr 2;apply bjG;simp
 let SS:Cx:={ cx with bad:=λg' i=>B g' i\/g'=w.heap.size }
 have hBs:∀g' i,B g' i->g' < w.heap.size:=λg' i hb=>hs.Ng g' i ((h3 g' i).2 (.inl hb));have hm:Mon cx w SS w':=⟨λ_ _ h=>h,aWP _,λr y _ h=>⟨y,h,L6.refl y⟩,λg' i v hv=>⟨beL hv.1 hk.size,λGz=>?_,by rw[hk.cell hv.1 not_false];exact hv.2.2⟩⟩;have bdT:w'.heap.size=w.heap.size+1:=by simp[w']
 refine⟨(w.heap.size,cap'),_,w',SS,(mV h (λty=>by rw[hqa,hqy];exact Ud ty)).2,⟨h1,h2.trans (hk.below (by rw[<- h1];exact hs.Sa) (λ_ h=>h.elim)),λ_ _=>Iff.rfl,by rw[<- h1];exact hs.Sa,λhm'=>?_,λr n' c' sz dB=>?_,vs++news,_,e,Np,?_,aIX hm⟩,hs.move hm rfl rfl rfl (λk EM _=>hk.block k EM not_false) hk.size (λg' i hb=>?_),hf.DL hm,?_⟩;have:=hs.NA _ hm';omega;have:=hs.NE dB;omega;have hz3:(biY z.cells (cap' - (ps.length+1))).toList.length=cap' - (ps.length+1):=by rw[biR,hzc]
 show(vs++news).length+_=cap';rw[hz3,aWQ];omega;rcases hb with hb | rfl
 exact⟨.inl ((h3 g' i).2 (.inl hb)),by have:=hBs g' i hb;omega⟩;exact⟨.inr (aWP _),by omega⟩;rw[aWQ];exact .raw;rcases Gz with Gz | Gz | Gz
 exact hv.2.1 (.inl Gz);exact hv.2.1 (.inr (.inl Gz));rcases Gz with Gz | Gz
 exact hv.2.1 (.inr (.inr ((h3 g' i).2 (.inl Gz))));have:=hv.1;omega
def R9.begin{t e id off:TypeId}{x:Operand}(hr:Vi c n=true)(hi:i < n)(h:azS (opAt c i)=some (t,x))(hu:P.underlying t=some (.slice e))(he:(P.info? e).map (λi=>(i.size,i.zero.map (·.cells.size)))=some (1,some 1))(ha:AY G fr x=some (.ptr id off))
   (j:∀g',R9 P G (E3 b B w0 g' 1 [(id,off)]) (GH c) l (JB fr (opAt c i).dst (.raw (some ⟨g',0,none⟩) 1 1)) s Q):R9 P G (E0 b B w0) (GH c) (i::l) fr s Q:=by
 cases hie:P.info? e with
 |none=>rw[hie] at he;cases he
 |some ie=>
 rw[hie] at he;simp only[bhK,atS,aWN] at he;obtain⟨hsz,hzz⟩:=he;obtain⟨z,hz,hzs⟩:=bjO.1 hzz
 have hgd:(opAt c i).guard=none:=by unfold azS at h;split at h;rename_i hg;exact hg;cases h
 refine .baD (ι:=Nat) (E':=λq=>E3 b B w0 q 1 [(id,off)]) (λq=>.raw (some ⟨q,0,none⟩) 1 1) (MV hr hi) hgd (λcx w a hE hs hf=>?_) j;have hva:=Fh hs hf ha;generalize hqa:a.eval x=va at hva;obtain⟨h1,h2,h3⟩:=hE;have Ud:=(aoU (P:=P) (w:=w) (ρ:=a.eval) h hu hie hsz hz hzs (by rw[hqa];cases hva;rfl)).2;rw[hqa] at Ud;let w':World:={ w with heap:=w.heap.push (.cells #[va] e) }
 have hk:Ut w w' (λ_=>False):=PU w _;let SS:Cx:={ cx with bad:=λg' i=>B g' i\/g'=w.heap.size }
 have hBs:∀g' i,B g' i->g' < w.heap.size:=λg' i hb=>hs.Ng g' i (by rw[h2];exact hb);have bdT:w'.heap.size=w.heap.size+1:=by simp[w']
 have hm:Mon cx w SS w':=⟨λ_ _ h=>h,aWP _,λr y _ h=>⟨y,h,L6.refl y⟩,λg' i v hv=>⟨beL hv.1 hk.size,λGz=>by
  rcases Gz with Gz | Gz | Gz
  exact hv.2.1 (.inl Gz);exact hv.2.1 (.inr (.inl Gz));rcases Gz with Gz | Gz
  exact hv.2.1 (.inr (.inr (by rw[h2];exact Gz)));have:=hv.1;omega,by rw[hk.cell hv.1 not_false];exact hv.2.2⟩⟩
 refine⟨w.heap.size,_,w',SS,Ud,⟨h1,h3.trans (hk.below (by rw[<- h1];exact hs.Sa) (λ_ h=>h.elim)),λ_ _=>Iff.rfl,by rw[<- h1];exact hs.Sa,λhm'=>?_,λr n' c' sz dB=>?_,[va],[],e,by simp[w'],rfl,.cons (hva.DL hm) .nil⟩,hs.move hm rfl rfl rfl (λk EM _=>hk.block k EM not_false) hk.size (λg' i hb=>?_),hf.DL hm,.raw⟩;have:=hs.NA _ hm';omega;have:=hs.NE dB;omega;rcases hb with hb | rfl
 exact⟨.inl (by rw[h2];exact hb),by have:=hBs g' i hb;omega⟩;exact⟨.inr (aWP _),by omega⟩
def WE.run(hm:P.follows .mixedOrders=true)(hk:Sg E){c:Code}(l:List (PC P G)){e:AX}{fr2:List AV}{s2:AS}(h:ZF fr2 (Su P G 300 c [] (pHs l) fr s)=some (e,Ug l,fr2,s2))(hp:∀v,e≠.pan v)(hq:Q e fr2 s2 E):WE P G E c fr s Q:=by
 unfold ZF at h;split at h;rename_i e' cd BM s' hr;simp only[atS,aWN] at h;obtain⟨rfl,rfl,Ob,rfl⟩:=h;have hw:W P G (XS P G) H0 c fr s (λe2 f2 s2=>e2=e'/\f2=BM/\s2=s'):=aeH 300 l _ _ _ _ hr (Nu l) ⟨rfl,rfl,rfl⟩;obtain⟨e1,f1,s1,hj,rfl,rfl,rfl⟩:=hw;have hS:=sound (UP hm) hj;intro cx w a K hE hs hf hd hK;refine hS cx w a K hs hf hd ?_;rintro e'' a' w' ⟨c',hx,hs',Sv,h4⟩;refine hK _ _ _ E hq c' w' a' e'' (hk _ _ _ _ hE hx) hs' Sv ?_;rw[<- Ob];cases e1 with|normal=>exact⟨h4.1,XB h4.2⟩|exit id=>exact⟨h4.1,XB h4.2⟩|ret=>exact⟨h4.1,XB h4.2⟩|pan v=>exact absurd rfl (hp v)
 cases h
end
end AI
namespace AI
open Go Go.RowKit
def Wm{M:List Ay}:∀{n id:Nat}{acc:List (Nat×Ay)},id < n->look id (Hq M n acc)=look id acc:=by
 induction M with
 |nil=>intro n id acc _;rfl
 |cons x M ih=>
  intro n id acc h;simp only[Hq];rw[ih (by omega)];simp only[look]
  have:biS n id=false:=by cases hq:biS n id with|false=>rfl|true=>have:=beq_true hq;omega
  rw[this]
def mB{M:List Ay}:∀{n i:Nat}{acc:List (Nat×Ay)}{b:Ay},M[i]?=some b->look (n+i) (Hq M n acc)=some b:=by
 induction M with
 |nil=>intro n i acc b h;simp at h
 |cons x M ih=>
  intro n i acc b h;cases i with
  |zero=>
   simp at h;subst h;simp only[Hq,bjU];rw[Wm (bjQ n)];simp only[look,blD]
  |succ i=>
   simp only[Hq];rw[show n+(i+1)=n+1+i by omega];exact ih (by simpa using h)
def YK{M:List Ay}:∀{n id:Nat}{acc:List (Nat×Ay)}{b:Ay},id < n->T9 id b (Hq M n acc)=Hq M n (T9 id b acc):=by
 induction M with
 |nil=>intro n id acc b _;rfl
 |cons x M ih=>
  intro n id acc b h;simp only[Hq];rw[ih (by omega)];simp only[T9]
  have:biS n id=false:=by cases hq:biS n id with|false=>rfl|true=>have:=beq_true hq;omega
  rw[this]
def uJ{M:List Ay}:∀{n i:Nat}{acc:List (Nat×Ay)}{b:Ay},i < M.length->T9 (n+i) b (Hq M n acc)=Hq (M.set i b) n acc:=by
 induction M with
 |nil=>intro n i acc b h;simp at h
 |cons x M ih=>
  intro n i acc b h;cases i with
  |zero=>
   simp only[Hq,bjU,List.set_cons_zero];rw[YK (bjQ n)];simp only[T9,blD]
  |succ i=>
   simp only[Hq,List.set_cons_succ];rw[show n+(i+1)=n+1+i by omega];exact ih (by simpa using h)
def adI{x:Ay}:∀{M:List Ay}{n:Nat}{acc:List (Nat×Ay)},Hq (M++[x]) n acc=(n+M.length,x)::Hq M n acc:=by
 intro M
 induction M with
 |nil=>intro n acc;rfl
 |cons y M ih=>
  intro n acc;simp only[bjR,Hq,bhE];rw[ih,show n+1+M.length=n+(M.length+1) by omega]
def ayE{k:Nat}{b b0:Ay}{T:List (Nat×Ay)}:T9 k b ((k,b0)::T)=(k,b)::T:=by simp only[T9,blD]
def dI{k:Nat}{b:Ay}{T:List (Nat×Ay)}:look k ((k,b)::T)=some b:=by simp only[look,blD]
def sD{k id:Nat}{b:Ay}{T:List (Nat×Ay)}(h:k≠id):look id ((k,b)::T)=look id T:=by simp only[look];cases hq:biS k id with|false=>rfl|true=>exact absurd (beq_true hq) h
def aSS{k id:Nat}{b b2:Ay}{T:List (Nat×Ay)}(h:k≠id):T9 id b2 ((k,b)::T)=(k,b)::T9 id b2 T:=by simp only[T9];cases hq:biS k id with|false=>rfl|true=>exact absurd (beq_true hq) h
def iO{id:Nat}{b b0:Ay}:∀{T:List (Nat×Ay)},look id T=some b0->look id (T9 id b T)=some b:=by
 intro T
 induction T with
 |nil=>intro h;cases h
 |cons e T ih=>
  intro h;simp only[look] at h;simp only[T9];split at h;simp only[look,blD];rename_i hb;simp only[look,hb];exact ih h
section
variable {P:Program}{G:AN}{α:Type}{f:α->List AV}{C:List α->List AV}{k:Nat}
def mX{e:TypeId}(hd:(P.underlying e).map OP=some false)(hs:(P.info? e).map (·.size)=some 1){cs:List AV}{off:Nat}{a:AV}(h:cs[off]?=some a):Cd.ok P G (.ldB (.cells cs) e off a):=by
 intro s id hg;simp only[J9,hg];unfold apart;obtain⟨d,hu,hd⟩:=bjO.1 hd;rw[hu];cases hi:P.info? e with
 |none=>rw[hi] at hs;cases hs
 |some j=>
  simp only;rw[hd,if_neg (by simp)];exact h
def aeN{β:Type}{cs:List β}{off:Nat}(v:β)(h:off < cs.length):IV cs off [v]=cs.set off v:=by unfold IV;rw[blX,if_pos h];simp
def aoT{e:TypeId}(hs:(P.info? e).map (·.size)=some 1){cs cs2:List AV}{off:Nat}{v:AV}(h:off < cs.length)(hc:cs2=cs.set off v)(hv:cellsOf v=[v]:=by rfl)(h1:one v=true:=by rfl):Cd.ok P G (.stB (.cells cs) e off v (.cells cs2)):=by
 intro s id hg;cases hi:P.info? e with
 |none=>rw[hi] at hs;cases hs
 |some j=>
  rw[hi] at hs;have hk:j.size=1:=by simpa using hs
  unfold Lf;rw[hi];simp only[hg];rw[hv,hk,if_pos ⟨rfl,by simp[h1],by omega⟩,hc,aeN v h]
def dO{f:α->List AV}(hf:∀x,(f x).length=k){l:List α}{i j:Nat}{x:α}(hx:l[i]?=some x)(hj:j < k):(rows f l)[i*k+j]?=(f x)[j]?:=by rw[<- List.getElem?_drop,SK hf hx,bhD (by rw[hf];exact hj)]
def zX{f:α->List AV}(hf:∀x,(f x).length=k){l:List α}{i j:Nat}{x y:α}{v:AV}(hx:l[i]?=some x)(hj:j < k)(hy:f y=(f x).set j v):rows f (l.set i y)=(rows f l).set (i*k+j) v:=by
 have hlt:=(aBC.1 hx).1;have Ze:=(aBC.1 hx).2
 have e1:l=l.take i++x::l.drop (i+1):=by rw[<- Ze,<- List.drop_eq_getElem_cons hlt,blJ]
 rw[ZH y hlt]
 conv=>rhs;rw[e1]
 have hlen:(rows f (l.take i)).length=i*k:=by rw[HU hf,biM,Nat.min_eq_left (by omega)]
 rw[Mu,Mu,Fq,Fq,hy,List.set_append_right _ _ (by omega),hlen,Nat.add_sub_cancel_left,List.set_append_left _ _ (by rw[hf];exact hj)]
def zQ{f:α->List AV}(hf:∀x,(f x).length=k){e:TypeId}(hd:(P.underlying e).map OP=some true)(hs:(P.info? e).map (·.size)=some k){l:List α}{i:Nat}{x:α}(hx:l[i]?=some x):Cd.ok P G (.ldB (.cells (rows f l)) e (0+i*k) (.agg (f x))):=by
 intro s id hg;simp only[J9,hg];unfold apart;obtain⟨d,hu,hd⟩:=bjO.1 hd;rw[hu];cases hi:P.info? e with
 |none=>rw[hi] at hs;cases hs
 |some j=>
  rw[hi] at hs;have hk:j.size=k:=by simpa using hs
  have hlt:=(aBC.1 hx).1;simp only;rw[hd,if_pos rfl,bhC,hk,HU hf,if_pos (by have:=bkQ k hlt;rw[bmO] at this;exact this),SK hf hx,bqL (hf x)]
def stA{e:TypeId}(hs:(P.info? e).map (·.size)=some k){cs0 cs:List AV}(h0:cs0.length=k)(h:cs.length=k)(h1:cs.all one=true):Cd.ok P G (.stB (.cells cs0) e 0 (.agg cs) (.cells cs)):=by
 intro s id hg;cases hi:P.info? e with
 |none=>rw[hi] at hs;cases hs
 |some j=>
  rw[hi] at hs;have hk:j.size=k:=by simpa using hs
  unfold Lf;rw[hi];simp only[hg];have hc:cellsOf (.agg cs)=cs:=rfl;rw[hc,if_pos ⟨by rw[h,hk],h1,by rw[hk,h0];omega⟩];congr 3;unfold IV;rw[List.take_zero,bkC,h,biX (by omega),bkW]
def bbM{s:AS}{fn:Func}{fr:List AV}{t ty:TypeId}{a v:AV}(hr:fn.results.toList=[.cell t ty])(hf:fr[t]?=some a)(ha:J9 P s ty a=some v):Gy P s fn fr=some v:=by unfold Gy;rw[hr];simp only[PQ,UD,bjP,hf,Option.getD_some,ha]
def adU{b:Ay}{t:TypeId}{off:Nat}{v:AV}{x:Option Ay}(h:Cd.ok P G (.ldB b t off v))(e:x=some b):PC P G:=⟨.lb b v,[.ldB b t off v,.eqx [x] [some b] [] []],⟨h,⟨by rw[e],rfl⟩,trivial⟩⟩
def aDE{b b2:Ay}{t:TypeId}{off:Nat}{v:AV}{x:Option Ay}(h:Cd.ok P G (.stB b t off v b2))(e:x=some b):PC P G:=⟨.sb b b2,[.stB b t off v b2,.eqx [x] [some b] [] []],⟨h,⟨by rw[e],rfl⟩,trivial⟩⟩
end
section
variable {P:Program}{G:AN}{E:EW}{fr:List AV}{s:AS}{Q:QE}
def WE.wk{c:Code}{fr2:List AV}(h:wkF fr fr2=fr2)(k:WE P G E c fr2 s Q):WE P G E c fr s Q:=λcx w a K hE hs hf hd hK=>k cx w a K hE hs (by rw[<- h];exact XB hf) hd hK
def WE.adY{c:Code}{id:Nat}{b b2:Ay}(hb:look id s.h=some b)(hk:∀(cx:Cx)(w:World)(o:Obj),Fc cx w b o->Fc cx w b2 o)(k:WE P G E c fr ⟨T9 id b2 s.h,s.nx,s.F,s.nr⟩ Q):WE P G E c fr s Q:=λcx w a K hE hs hf hd hK=>k cx w a K hE (hs.adY hb (λo ho=>hk cx w o ho)) hf hd hK
def WE.V7{c x y:Code}(hc:c=.seq x y)(h:WE P G E x fr s (λe BM s' E'=>e=.normal/\WE P G E' y BM s' Q)):WE P G E c fr s Q:=by subst hc;exact .seq (λcx w a K hE hs hf hd hK=>h cx w a K hE hs hf hd (λe fr s E hq=>hK e fr s E (.inl hq)))
def WE.seqB{c x y:Code}(hc:c=.seq x y)(h:WE P G E x fr s (λe BM s' E'=>(e=.normal/\WE P G E' y BM s' Q)\/(e≠.normal/\Q e BM s' E'))):WE P G E c fr s Q:=by subst hc;exact .seq h
def WE.nD{c x y:Code}{q:Operand}(t:Bool)(hc:c=.cond q x y)(hq:AY G fr q=some (.sc (.bool t)))(h:WE P G E (if t then x else y) fr s Q):WE P G E c fr s Q:=by subst hc;exact .cond hq h
def WE.aeG(hm:P.follows .mixedOrders=true)(hk:Sg E){c:Code}(l:List (PC P G)){e:AX}{fr2:List AV}(h:ZF fr2 (Su P G 300 c [] (pHs l) fr s)=some (e,Ug l,fr2,s))(hp:∀v,e≠.pan v)(hq:Q e fr2 s E):WE P G E c fr s Q:=.run hm hk l h hp hq
def R9.q(hm:P.follows .mixedOrders=true)(hk:Sg E){c:Code}{n i:Nat}{l:List Nat}(hr:Vi c n=true)(hi:i < n)(v:AV)(hw:CI (GH c) fr (opAt c i)=true)(h:SR P G fr s (opAt c i)=some (.val v s))(t:R9 P G E (GH c) l (JB fr (opAt c i).dst v) s Q):R9 P G E (GH c) (i::l) fr s Q :=
 .op hm hk v (MV hr hi) (.Qe hw h) t
def R9.hb(hm:P.follows .mixedOrders=true)(hk:Sg E){c:Code}{n i:Nat}{l:List Nat}(hr:Vi c n=true)(hi:i < n){B:Bool}(b:Bool)(hB:B=b)(h:nN P G (GH c) fr s (opAt c i) [.b b]=some (.sc (.bool b),s,[],[.eqb B b]))(t:R9 P G E (GH c) l (JB fr (opAt c i).dst (.sc (.bool b))) s Q):R9 P G E (GH c) (i::l) fr s Q :=
 .op hm hk (.sc (.bool b)) (MV hr hi) (RG h ⟨hB,trivial⟩) t
def R9.hi(hm:P.follows .mixedOrders=true)(hk:Sg E){c:Code}{n i:Nat}{l:List Nat}(hr:Vi c n=true)(hi:i < n){X:Int}(z:Int)(hX:X=z)(h:nN P G (GH c) fr s (opAt c i) [.i z]=some (.sc (.int .i64 z),s,[],[.eqi X z]))(t:R9 P G E (GH c) l (JB fr (opAt c i).dst (.sc (.int .i64 z))) s Q):R9 P G E (GH c) (i::l) fr s Q :=
 .op hm hk (.sc (.int .i64 z)) (MV hr hi) (RG h ⟨hX,trivial⟩) t
def WE.mono{c:Code}{Q2:QE}(h:WE P G E c fr s Q2)(hq:∀e BM s' E',Q2 e BM s' E'->Q e BM s' E'):WE P G E c fr s Q:=λcx w a K hE hs hf hd hK=>h cx w a K hE hs hf hd (λe fr s E h2=>hK e fr s E (hq _ _ _ _ h2))
end
end AI
namespace AI
open Go Go.RowKit
section
variable {P:Program}{G:AN}
def Pg.bcC{α:Type}{f:α->List AV}{C:List α->List AV}{k:Nat}(h:Pg f C k){t tx e e2 by':Nat}(hu:P.underlying t=some (.slice e))(hux:P.underlying tx=some (.slice e2))(hi:(P.info? e).map (λi=>(i.size,i.bytes,i.zero.map (·.cells.size)))=some (k,by',some k))(hk:0 < k)
   (own:Own) (l m:List α) {o:Own}{n:Nat}{ns:List AV} (hn:Wn ns (C m)) (rN:n=m.length) (ho:ns.all one=true) (hm:m.length≠0) (hlen:(l.length+m.length)*by'<=140737488355328) (h63:l.length+m.length<=9223372036854775807):Cd.ok P G (.bF t tx own l.length (C l) (.sl o n ns) k (l++m).length (C (l++m))):=by
 subst rN;cases hq:P.info? e with
 |none=>rw[hq] at hi;cases hi
 |some i=>
  rw[hq] at hi;simp only[bhK,atS,aWN] at hi;obtain⟨h1,h2,h3⟩:=hi;cases hz:i.zero with
  |none=>rw[hz] at h3;cases h3
  |some z=>
   rw[hz] at h3;simp only[bhK,atS] at h3;intro s RI;have hnl:ns.length=m.length*k:=by rw[hn.len,h.eq,HU h.len]
   have hll:(C l).length=l.length*k:=by rw[h.eq,HU h.len]
   refine⟨C l++ns,?_,λc w u o' hr=>?_⟩
   have hs:bB P s i.size tx (.sl o m.length ns)=some (m.length,ns):=by unfold bB;rw[hux,h1];simp only[hnl,if_true]
   unfold MG;simp only[hu,hq,hz];rw[if_pos ⟨by rw[h3,h1],by omega⟩,hs];simp only
   have hbb:(l.length+m.length)*i.bytes<=140737488355328:=by rw[h2];exact hlen
   rw[if_pos ⟨by rw[hll,h1],ho,hbb,by omega⟩,if_neg hm,h1,if_pos RI,aWQ];rw[h.WH];exact Rp.wnC (Wn.WH (Wn.refl (C l)) hn) hr
end
end AI
namespace AI
open Go Go.RowKit
end AI
namespace AI
open Go Go.RowKit
section
variable {P:Program}{G:AN}{α δ:Type}{enc:α->AV}{wE:δ->AV}
abbrev crS(enc:α->AV)(wE:δ->AV):α⊕δ->CR
 |.inl a=>.ret (enc a)
 |.inr d=>.pan (wE d)
def anY(P:Program)(G:AN)(fn:Func)(m:Nat)(s0:AS)(enc:α->AV)(wE:δ->AV)(Q:AX->List AV->AS->Prop)(y:α⊕δ)(s2:AS):Prop:=match y with|.inl a=>XO P G fn m s0 Q (enc a) s2|.inr d=>YZ G m s0 Q (wE d) s2
def anY.body{fn:Func}{m:Nat}{s0 s2:AS}{y:α⊕δ}:anY P G fn m s0 enc wE (N7 P fn m (QM G s0 (crS enc wE y) s2)) y s2:=by cases y with|inl a=>exact XO.body|inr d=>exact YZ.body
def anY.rnd{fn:Func}{m:Nat}{L:Code}{s0 s1 s2:AS}{Q:AX->List AV->AS->Prop}{y:α⊕δ}(h:anY P G fn m s0 enc wE Q y s2):anY P G fn m s0 enc wE (Ls P G L s1 Q) y s2:=by cases y with|inl a=>exact XO.rnd h|inr d=>exact YZ.rnd h
def Pg.ixa{α:Type}{f:α->List AV}{C:List α->List AV}{k:Nat}(h:Pg f C k){t elem len:Nat}(hu:P.underlying t=some (.array len elem))(hs:(P.info? elem).map (·.size)=some k){l:List α}(hl:l.length=len){z:Int}{x:α}(hx:Dk l z=some x):CQ P t (.el (C l)) (.sc (.int .i64 z))=some (.el (f x++C (l.drop (z.toNat+1)))):=by
 unfold Dk at hx;split at hx
 ·rename_i hz
  have hi:=(aBC.1 hx).1
  have hn:Uc (.sc (.int .i64 z))=some z.toNat:=by unfold Uc;simp[hz]
  cases he:P.info? elem with
  |none=>rw[he] at hs;cases hs
  |some e=>
   rw[he] at hs;have hk:e.size=k:=by simpa using hs
   subst hl;unfold CQ;rw[hu,hn];simp only[he,hk,if_pos hi];rw[h.eq,h.eq,SK h.len hx]
 cases hx
def ppn:PC P G:=⟨.p .any ⟨[],0,[],0⟩,[],trivial⟩
def pzq(c:Nat):PC P G:=⟨.zq c,[],trivial⟩
def aDB{f:FuncId}{args Z0:List AV}{v:AV}{pre:List (Nat×Ay)}{tp:List (Nat×Nat)}{TS:List (Nat×Ay)}{tu:List (Nat×Nat)}(w:Wn args Z0)(h:Cd.ok P G (.Sn f Z0 (.pan v) pre tp TS tu)):PC P G :=
 ⟨.q v pre tp TS tu,[.Sn f args (.pan v) pre tp TS tu,.eqx (QJ pre) (QJ pre) (Rz tp) (Rz tp)],⟨λs h1 h2 cx wd vs hs ha=>h s h1 h2 cx wd vs hs (w.ok ha),⟨rfl,rfl⟩,trivial⟩⟩
end
end AI
namespace AI
open Go Go.RowKit
section
variable {P:Program}{G:AN}
variable {α γ δ ρ β:Type}{id:Nat}{aB:List KI}{done:γ->δ}{X:Prop}{k:δ->Option β}{kr:ρ->Option β}{r:β}
end
end AI
namespace AI
open Go Go.RowKit
class GP(G:AN):Prop where
 h:∀g cs,G g=some cs->BC cs=true
mutual
def wkV:AV->AV->AV
 |.sl .full n cs,.sl .lost _ ds=>.sl .lost n (ZW cs ds)
 |.sl _ n cs,.sl .lost _ _=>.sl .lost n cs
 |.agg cs,.agg ds=>.agg (ZW cs ds)
 |.Gx cs,.Gx ds=>.Gx (ZW cs ds)
 |a,.any=>qV a
 |a,_=>a
def ZW:List AV->List AV->List AV
 |a::l,b::k=>wkV a b::ZW l k
 |l,_=>l
end
section
variable {c:Cx}{w:World}
def ayR(n:Nat):(∀(a b:AV)(v:Value),sizeOf a < n->Rp c w a v->Rp c w (wkV a b) v)/\(∀(l k:List AV)(vs:List Value),sizeOf l < n->Cw c w l vs->Cw c w (ZW l k) vs)/\∀(l k:List AV)(g o:Nat),sizeOf l < n->A0 c w g o l->A0 c w g o (ZW l k):=by
 induction n with
 |zero=>exact⟨λ_ _ _ h=>absurd h (bmA _),λ_ _ _ h=>absurd h (bmA _),λ_ _ _ _ h=>absurd h (bmA _)⟩
 |succ n ih=>
  obtain⟨h1,h2,h3⟩:=ih;refine⟨λa b v hn hr=>?_,λl k vs hn hr=>?_,λl k g o hn hr=>?_⟩;unfold wkV;split;rename_i m cs q ds;simp only[AV.sl.sizeOf_spec] at hn;cases hr with|sl0 _=>unfold ZW;exact .sl0 trivial|Lt hm hc _=>exact .Lt hm (h3 _ _ _ _ (by omega) hc) trivial
  cases hr with|sl0 _=>exact .sl0 trivial|Lt hm hc _=>exact .Lt hm hc trivial
  simp only[AV.agg.sizeOf_spec] at hn;cases hr with | agg h=>exact .agg (h2 _ _ _ (by omega) h)
  simp only[AV.Gx.sizeOf_spec] at hn;cases hr with | Gx h=>exact .Gx (h2 _ _ _ (by omega) h)
  exact nH hr;exact hr;unfold ZW;split;simp only[bmS] at hn;cases hr with | cons h t=>exact .cons (h1 _ _ _ (by omega) h) (h2 _ _ _ (by omega) t)
  exact hr;unfold ZW;split;simp only[bmS] at hn;cases hr with | cons hv h t=>exact .cons hv (h1 _ _ _ (by omega) h) (h3 _ _ _ _ (by omega) t)
  exact hr
def aSX{a b:AV}{v:Value}(h:Rp c w a v):Rp c w (wkV a b) v:=(ayR _).1 _ _ _ (bjQ _) h
def ajV{l k:List AV}{vs:List Value}(h:Cw c w l vs):Cw c w (ZW l k) vs:=(ayR _).2.1 _ _ _ (bjQ _) h
end
def wkB:Ay->Ay->Ay
 |.cells cs,.cells ds=>.cells (ZW cs ds)
 |b,_=>b
def wkH:List (Nat×Ay)->List (Nat×Ay)->List (Nat×Ay)
 |e::l,d::k=>(e.1,wkB e.2 d.2)::wkH l k
 |l,_=>l
def aSW{c:Cx}{w:World}{a b:Ay}{o:Obj}(h:Fc c w a o):Fc c w (wkB a b) o:=by
 unfold wkB;split;cases h with | FA ext h1=>exact .FA ext (ajV h1)
 exact h
def abE:∀{l k:List (Nat×Ay)}{n:Nat},Ld l n->Ld (wkH l k) n
 |[],k,_,h=>by cases k<;>exact h
 |_::_,[],_,h=>h
 |_::_,_::_,_,h=>⟨h.1,abE h.2⟩
def abF:∀{l k:List (Nat×Ay)}{id:Nat}{b:Ay},look id (wkH l k)=some b->∃b',look id l=some b'/\∀c w o,Fc c w b' o->Fc c w b o
 |[],k,_,_,h=>by cases k<;>cases h
 |e::l,[],_,b,h=>⟨b,h,λ_ _ _ h=>h⟩
 |e::l,d::k,id,b,h=>by
  simp only[wkH,look] at h ⊢;split at h;cases h;exact⟨_,rfl,λ_ _ _ h=>aSW h⟩;exact abF h
class Un(a:AV)(q:outParam (Nat->Nat->Bool)):Prop where
 h:∀n m,q n m=true->under n m a=true
class UnL(l:List AV)(q:outParam (Nat->Nat->Bool)):Prop where
 h:∀n m,q n m=true->G6 n m l=true
abbrev qT:Nat->Nat->Bool:=λ_ _=>true
abbrev qA(p q:Nat->Nat->Bool):Nat->Nat->Bool:=λn m=>p n m&&q n m
abbrev qN(i:Nat):Nat->Nat->Bool:=λn _=>blF i n
class PlV(a:AV):Prop where
 h:plain a=true
class aX(l:List AV):Prop where
 h:BC l=true
instance {v:Value}:PlV (.sc v):=⟨rfl⟩
instance {cs:List AV} [i:aX cs]:PlV (.agg cs):=⟨i.h⟩
instance {cs:List AV} [i:aX cs]:PlV (.Gx cs):=⟨i.h⟩
instance {t:TypeId}{v:AV} [i:PlV v]:PlV (.ifc t v):=⟨by simp only[plain];exact i.h⟩
instance {n:Nat}{cs:List AV} [i:aX cs]:PlV (.sl .lost n cs):=⟨by simp only[plain,i.h];rfl⟩
instance:aX []:=⟨rfl⟩
instance {a:AV}{l:List AV} [i:PlV a] [j:aX l]:aX (a::l):=⟨Pa i.h j.h⟩
class MO(P:Program):Prop where
 h:P.follows .mixedOrders=true
instance (priority:=low) {l:List AV} [i:aX l]:UnL l qT:=⟨λn m _=>E5 n m i.h⟩
instance {v:Value}:Un (.sc v) qT:=⟨λ_ _ _=>rfl⟩
instance {i o:Nat}:Un (.ptr i o) (qN i):=⟨λ_ _ h=>decide_eq_true (bhG h)⟩
instance {cs:List AV} {q} [i:UnL cs q]:Un (.agg cs) q:=⟨λn m h=>by simp only[under];exact i.h n m h⟩
instance {cs:List AV} {q} [i:UnL cs q]:Un (.Gx cs) q:=⟨λn m h=>by simp only[under];exact i.h n m h⟩
instance {t:TypeId}{v:AV} {q} [i:Un v q]:Un (.ifc t v) q:=⟨λn m h=>by simp only[under];exact i.h n m h⟩
instance {f:Fn}{a b:List AV} {q r} [i:UnL a q] [j:UnL b r]:Un (.fn f a b) (qA q r):=⟨λn m h=>by
 have h:=bkH.1 h;simp only[under,i.h n m h.1,j.h n m h.2,bpR]⟩
instance {k:Nat}{cs:List AV} {q} [i:UnL cs q]:Un (.sl .lost k cs) q:=⟨λn m h=>by simp only[under,i.h n m h,bpR]⟩
instance {k:Nat}{cs:List AV} {q} [i:UnL cs q]:Un (.sl .full k cs) q:=⟨λn m h=>by simp only[under,i.h n m h,bpR]⟩
instance {k r z:Nat}{cs:List AV} {q} [i:UnL cs q]:Un (.sl (.row r z) k cs) (qA (λ_ m=>blF r m) q):=⟨λn m h=>by
 have h:=bkH.1 h;simp only[under,i.h n m h.2,Bool.and_true];exact decide_eq_true (bhG h.1)⟩
instance:UnL [] qT:=⟨λ_ _ _=>rfl⟩
instance {a:AV}{l:List AV} {q r} [i:Un a q] [j:UnL l r]:UnL (a::l) (qA q r):=⟨λn m h=>by
 have h:=bkH.1 h;simp only[G6,i.h n m h.1,j.h n m h.2,bpR]⟩
class UnB(b:Ay)(q:outParam (Nat->Nat->Bool)):Prop where
 h:∀n m,q n m=true->Uw n m b b
class UnH(l:List (Nat×Ay))(q:outParam (Nat->Nat->Bool)):Prop where
 h:∀n m,q n m=true->∀id b,look id l=some b->Uw n m b b
class UnS(s:AS)(q:outParam (Nat->Nat->Bool)):Prop where
 h:∀n m,q n m=true->∀id b,look id s.h=some b->Uw n m b b
instance {cs:List AV} {q} [i:UnL cs q]:UnB (.cells cs) q:=⟨λn m h=>.cells (.under (i.h n m h))⟩
instance:UnH [] qT:=⟨λ_ _ _ _ _ h=>by cases h⟩
instance {i:Nat}{b:Ay}{l:List (Nat×Ay)} {q r} [x:UnB b q] [y:UnH l r]:UnH ((i,b)::l) (qA q r):=⟨λn m h id b' hl=>by
 have h:=bkH.1 h;simp only[look] at hl;split at hl;cases hl;exact x.h n m h.1;exact y.h n m h.2 id b' hl⟩
instance {h:List (Nat×Ay)}{n m:Nat}{F:List (Nat×Nat)} {q} [x:UnH h q]:UnS ⟨h,n,F,m⟩ q:=⟨x.h⟩
class Tg(v:AV)(x:outParam AV):Prop where
 eq:x=v
instance (priority:=low) {v:AV}:Tg v v:=⟨rfl⟩
class UnE(l:List (Nat×AV))(q:outParam (Nat->Nat->Bool)):Prop where
 h:∀n m,q n m=true->∀e,e∈l->under n m e.2=true
instance:UnE [] qT:=⟨λ_ _ _ _ h=>by cases h⟩
instance {t:Nat}{a:AV}{l:List (Nat×AV)} {q r} [x:Un a q] [y:UnE l r]:UnE ((t,a)::l) (qA q r):=⟨λn m h e he=>by
 have h:=bkH.1 h;cases he with|head=>exact x.h n m h.1|tail _ h2=>exact y.h n m h.2 e h2⟩
def UN{n m:Nat}:∀(k p:Nat) (l:List (Nat×AV)) (bs:List Nat) (kb:Nat) (j:List Value),(∀e,e∈l->under n m e.2=true)->G6 n m (frQ k p l bs kb j)=true
 |0,_,_,_,_,_,_=>rfl
 |k+1,p,l,bs,kb,j,h=>by
  unfold frQ;split
  ·rename_i v hv
   cases l with
   |nil=>simp only[frm.hd1] at hv;cases hv
   |cons e l=>
    simp only[frm.hd1] at hv;cases hb:e.1.beq p<;>rw[hb] at hv
    cases hv;cases hv;simp only[G6,bhB];exact⟨h _ (.head _),UN k _ _ _ _ _ λe he=>h e (.tail _ he)⟩
  split;simp only[G6,bhB];exact⟨rfl,UN k _ _ _ _ _ h⟩;simp only[G6,bhB];exact⟨rfl,UN k _ _ _ _ _ h⟩
def pM{n m:Nat}{l k:List AV}(h:ZW l k=k)(hu:G6 n m k=true):Lw n m l k:=λc w vs hr=>by
 have:=ajV (k:=k) hr;rw[h] at this;exact this.upto hu
section
variable {P:Program}{G:AN}{α β γ δ ρ κ:Type}
def gI[gp:GP G]{s0 s' s2:AS}{BM fr2:List AV}{qb:Nat->Nat->Bool}[ub:UnS s2 qb](hf:Lw s0.nx s0.nr BM fr2)(hq:qb s0.nx s0.nr=true)(e:⟨wkH (PX s0.nx s'.h) s2.h,s0.nx,T4 s0.nr s'.F,s0.nr⟩=s2):pQ G s0 BM s' fr2 s2:=by
 intro cx w c' w' vs hx hs hs' Ob;have hb:=ub.h s0.nx s0.nr hq;have eh:wkH (PX s0.nx s'.h) s2.h=s2.h:=congrArg AS.h e;have en:s0.nx=s2.nx:=by rw[<- e]
 have eF:T4 s0.nr s'.F=s2.F:=congrArg AS.F e;have er:s0.nr=s2.nr:=by rw[<- e]
 refine aAO gp.h (s:=s0) (s2:=s2) en.symm er.symm ?_ (λid b h=>?_) (λr n hr=>?_) hf cx w c' w' vs hx hs hs' Ob;rw[<- eh,<- en];exact abE (wD hs'.desc);have h':=h;rw[<- eh] at h';obtain⟨b',h3,h4⟩:=abF h';exact⟨b',WJ hs'.desc h3,λc w o ho=>hb id b h c w o (h4 c w o ho)⟩;rw[<- eF] at hr;exact wI hr
def T(_l:List (PC P G))(M:Option α)(Z:α->Prop):Prop:=∀r,M=some r->Z r
class Ht(P:Program)(G:AN){β:Type}(m:Option β) where
 c:∀y,m=some y->List (PC P G)
class Hs(P:Program)(G:AN){α δ γ:Type}(m:Option ((α⊕δ)×γ)) where
 l:∀a c,m=some (.inl a,c)->List (PC P G)
 r:∀d c,m=some (.inr d,c)->List (PC P G)
variable {l:List (PC P G)}{m:Option β}{k:β->Option α}{Z:α->Prop}
def tB(h:∀y (_:m=some y),T l (k y) Z):T l (m.bind k) Z:=λr e=>by
 obtain⟨y,h1,h2⟩:=fO e;exact h y h1 r h2
def tH[i:Ht P G m](h:∀y (e:m=some y),T (l++i.c y e) (k y) Z):T l (m.bind k) Z:=tB h
def tS{m:Option ((β⊕δ)×γ)}{k:(β⊕δ)×γ->Option α}[i:Hs P G m](h:∀a c (e:m=some (.inl a,c)),T (l++i.l a c e) (k (.inl a,c)) Z)(h':∀d c (e:m=some (.inr d,c)),T (l++i.r d c e) (k (.inr d,c)) Z):T l (m.bind k) Z:=tB λy e=>by
 obtain⟨y | y,c⟩:=y;exact h y c e;exact h' y c e
def Sf{m:Option ((β⊕δ)×γ)}{k:(β⊕δ)×γ->Option α}(h:∀a c (_:m=some (.inl a,c)),T l (k (.inl a,c)) Z)(h':∀d c (_:m=some (.inr d,c)),T l (k (.inr d,c)) Z):T l (m.bind k) Z:=tB λy e=>by
 obtain⟨y | y,c⟩:=y;exact h y c e;exact h' y c e
def tW{m:Option (β×γ)}{k:β×γ->Option α}(h:∀a c (_:m=some (a,c)),T l (k (a,c)) Z):T l (m.bind k) Z:=tB λy e=>h y.1 y.2 e
def YB{m:Option (β×γ)}{k:β×γ->Option α}[i:Ht P G m](h:∀a c (e:m=some (a,c)),T (l++i.c (a,c) e) (k (a,c)) Z):T l (m.bind k) Z:=tB λy e=>h y.1 y.2 e
def tW3{m:Option (β×γ×δ)}{k:β×γ×δ->Option α}(h:∀a b c (_:m=some (a,b,c)),T l (k (a,b,c)) Z):T l (m.bind k) Z:=tB λy e=>h y.1 y.2.1 y.2.2 e
def YC{m:Option (β×γ×δ)}{k:β×γ×δ->Option α}[i:Ht P G m](h:∀a b c (e:m=some (a,b,c)),T (l++i.c (a,b,c) e) (k (a,b,c)) Z):T l (m.bind k) Z:=tB λy e=>h y.1 y.2.1 y.2.2 e
def bfY{ε:Type}{m:Option ((β⊕δ)×γ×ε)}{k:(β⊕δ)×γ×ε->Option α}(h:∀a c d (_:m=some (.inl a,c,d)),T l (k (.inl a,c,d)) Z)(h':∀b c d (_:m=some (.inr b,c,d)),T l (k (.inr b,c,d)) Z):T l (m.bind k) Z:=tB λy e=>by
 obtain⟨y | y,c,d⟩:=y;exact h y c d e;exact h' y c d e
def tF(f:List (PC P G)){M:Option α}(h:T (l++f) M Z):T l M Z:=h
def tP0{m:Option Bool}{A B:Bool->Option α}(h:m=some true->T l (A true) Z)(h':m=some false->T l (B false) Z):T l (m.bind λy=>cond y (A y) (B y)) Z:=tB λy e=>by
 cases y;exact h' e;exact h e
def tP{m:Option Bool}{A B:Bool->Option α}[i:Ht P G m](h:∀e:m=some true,T (l++i.c true e) (A true) Z)(h':∀e:m=some false,T (l++i.c false e) (B false) Z):T l (m.bind λy=>cond y (A y) (B y)) Z:=tP0 h h'
def Ru{m:Option Bool}{A B:Bool->Option α}(c:∀y,m=some y->List (PC P G))(h:∀e:m=some true,T (l++c true e) (A true) Z)(h':∀e:m=some false,T (l++c false e) (B false) Z):T l (m.bind λy=>cond y (A y) (B y)) Z:=tP0 h h'
def NJ{A B:Option α}(h:T l A Z):T l (cond true A B) Z:=h
def NI{A B:Option α}(h:T l B Z):T l (cond false A B) Z:=h
def ZN{b:Bool}{A B:Option α}(h:b=true->T l A Z)(h':b=false->T l B Z):T l (cond b A B) Z:=by cases b;exact h' rfl;exact h rfl
def tC{b:Bool}{A B:Option α}(h:∀e:b=true,T (l++[pb e]) A Z)(h':∀e:b=false,T (l++[pb e]) B Z):T l (cond b A B) Z:=ZN h h'
def tN{b:Bool}{A B:Option α}(h:∀e:b=true,T (l++[pn e]) A Z)(h':∀e:b=false,T (l++[pn e]) B Z):T l (cond b A B) Z:=ZN h h'
def cF{n:Nat}{A:Option α}(h:n<=100000000->T l A Z):T l (G8 n A) Z:=λr e=>h (asY e).1 r (asY e).2
def tO:T l (none:Option α) Z:=λ_ e=>by cases e
def Y4{f:Func}(h:f.body.isSome=true):f.body=some (BJ f):=by unfold BJ;cases hb:f.body with|none=>rw[hb] at h;cases h|some c=>rfl
section
variable [mo:MO P]{f:FuncId}{fn:Func}{args:List AV}{s0:AS}
def sM1{M:Option (α)}{x:α}(h:M=some x)(hf:P.funcs[f]?=some fn)(hb:fn.body.isSome=true:=by kernel_rfl){R:α->CR}{S:α->AS}(t:T ([]:List (PC P G)) M λr=>W P G (XS P G) H0 (BJ fn) (args++bjS (fn.ntmps - args.length) (.sc undef)) s0 (N7 P fn s0.nx (QM G s0 (R r) (S r)))):Sound P G (.call f args s0 (R x) (S x)):=uF mo.h (QZ hf (Y4 hb) (t _ h))
def PM{M:Option (α×β)}{x:α}{y:β}(h:M=some (x,y))(hf:P.funcs[f]?=some fn)(hb:fn.body.isSome=true:=by kernel_rfl){R:α->β->CR}{S:α->β->AS}(t:T ([]:List (PC P G)) M λr=>W P G (XS P G) H0 (BJ fn) (args++bjS (fn.ntmps - args.length) (.sc undef)) s0 (N7 P fn s0.nx (QM G s0 (R (r.1) (r.2)) (S (r.1) (r.2))))):Sound P G (.call f args s0 (R x y) (S x y)):=uF mo.h (QZ hf (Y4 hb) (t _ h))
def sM3{M:Option (α×β×γ)}{x:α}{y:β}{z:γ}(h:M=some (x,y,z))(hf:P.funcs[f]?=some fn)(hb:fn.body.isSome=true:=by kernel_rfl){R:α->β->γ->CR}{S:α->β->γ->AS}(t:T ([]:List (PC P G)) M λr=>W P G (XS P G) H0 (BJ fn) (args++bjS (fn.ntmps - args.length) (.sc undef)) s0 (N7 P fn s0.nx (QM G s0 (R (r.1) (r.2.1) (r.2.2)) (S (r.1) (r.2.1) (r.2.2))))):Sound P G (.call f args s0 (R x y z) (S x y z)):=uF mo.h (QZ hf (Y4 hb) (t _ h))
def oR{M:Option (α×β×γ×δ)}{x:α}{y:β}{z:γ}{u:δ}(h:M=some (x,y,z,u))(hf:P.funcs[f]?=some fn)(hb:fn.body.isSome=true:=by kernel_rfl){R:α->β->γ->δ->CR}{S:α->β->γ->δ->AS}(t:T ([]:List (PC P G)) M λr=>W P G (XS P G) H0 (BJ fn) (args++bjS (fn.ntmps - args.length) (.sc undef)) s0 (N7 P fn s0.nx (QM G s0 (R (r.1) (r.2.1) (r.2.2.1) (r.2.2.2)) (S (r.1) (r.2.1) (r.2.2.1) (r.2.2.2))))):Sound P G (.call f args s0 (R x y z u) (S x y z u)):=uF mo.h (QZ hf (Y4 hb) (t _ h))
def uM[gp:GP G]{M:Option α}{x:α}(h:M=some x)(hf:P.funcs[f]?=some fn)(hb:fn.body.isSome=true:=by kernel_rfl){E:α->AV}[hp:aX args][hv:∀r,PlV (E r)](t:T ([]:List (PC P G)) M λr=>W P G (XS P G) H0 (BJ fn) (args++bjS (fn.ntmps - args.length) (.sc undef)) AI.s0 (N7 P fn AI.s0.nx (λq _=>∃a,q=.ret a/\Fits 0 0 a (E r)))):Pure P G f args (E x):=ahN mo.h gp.h (QZ hf (Y4 hb) (t _ h)) hp.h (hv x).h
end
end
end AI
namespace AI
open Go Go.RowKit
def Pb{P:Program}{G:AN}:PC P G:=⟨.sb (.map [] 0) (.map [] 0),[],trivial⟩
def pick(l:List AV):List Nat->List Value
 |[]=>[]
 |b::bs=>(match l.drop b with | .sc v::_=>v | _=>undef)::pick l bs
def jR(bs:List Nat):HR->List Value
 |some (_,_,_,l,_)=>pick l bs
 |none=>[]
def aWL(n:Nat):List Nat->Bool
 |[]=>false
 |m::l=>(match biS n m with | true=>true | false=>aWL n l)
def df(ds:List Nat):List (Nat×AV)->List (Nat×AV)
 |[]=>[]
 |e::l=>(match aWL e.1 ds with | true=>df ds l | false=>e::df ds l)
class TgE(l:List (Nat×AV))(x:outParam (List (Nat×AV))):Prop where
 eq:x=l
instance:TgE [] []:=⟨rfl⟩
instance {t:Nat}{a b:AV}{l x:List (Nat×AV)} [i:Tg a b] [j:TgE l x]:TgE ((t,a)::l) ((t,b)::x):=⟨by rw[i.eq,j.eq]⟩
def aeA(P:Program)(fn:Func)(m n0 m0:Nat)(x:AV)(H:List (Nat×Ay))(q:Bool):HR->Option (AX×List Cd×AV×AS×Bool)
 |some (.fin e,[],cd,fr,s)=>(match Gy P s fn fr with|some v=>some (e,cd,wkV v x,⟨wkH (PX n0 (s.cut m).h) H,n0,T4 m0 (s.cut m).F,m0⟩,q)|none=>none)
 |_=>none
def aCW(m n0 m0:Nat)(x:AV)(H:List (Nat×Ay))(q:Bool):HR->Option (List Cd×AV×AS×Bool)
 |some (.fin (.pan v),[],cd,_,s)=>some (cd,wkV v x,⟨wkH (PX n0 (s.cut m).h) H,n0,T4 m0 (s.cut m).F,m0⟩,q)
 |_=>none
def oO(P:Program)(fn:Func)(x:AV)(q:Bool):HR->Option (List Cd×AV×Bool)
 |some (.fin .ret,[],cd,fr,s)=>(match Gy P s fn fr with|some v=>some (cd,wkV v x,q)|none=>none)
 |_=>none
def amK(n0 m0:Nat)(tgt:List AV)(H:List (Nat×Ay))(q:Bool):HR->Option (AX×List Cd×List AV×AS×Bool)
 |some (.fin e,[],cd,fr,s)=>some (e,cd,ZW fr tgt,⟨wkH (PX n0 s.h) H,n0,T4 m0 s.F,m0⟩,q)
 |_=>none
def fits1{n m:Nat}{a x v:AV}{q:Nat->Nat->Bool}(tg:Tg v x)(un:Un v q)(h:wkV a x=x)(hq:q n m=true):Fits n m a v:=λc w u hr=>by
 have:=aSX (b:=x) hr;rw[h,tg.eq] at this;exact this.upto (un.h n m hq)
section
variable {P:Program}{G:AN}{α β γ δ ρ κ:Type}{l:List (PC P G)}{Z:α->Prop}
def rU{c:Code}{fr:List AV}{s:AS}{Q:AX->List AV->AS->Prop}:Kl P G l Q (Su P G 300 c [] (pHs l) fr s) (W P G (XS P G) H0 c fr s Q):=aeH 300 l
def rB{ks:List KI}{fr:List AV}{s:AS}{Q:AX->List AV->AS->Prop}:Kl P G l Q (QQ (Su P G 300) ks .normal (pHs l) fr s) (CY P G ks Q .normal fr s):=bfV 300 l
section
variable {hr:HR}{Q:AX->List AV->AS->Prop}{fn:Func}{m:Nat}{s0 s2:AS}{v x:AV}{q qb:Nat->Nat->Bool}{X:Prop}
def aZU[gp:GP G](R:Kl P G l Q hr X)(k:XO P G fn m s0 Q v s2)[tg:Tg v x][un:Un v q][us:UnS s2 qb](h:aeA P fn m s0.nx s0.nr x s2.h (cond (q s0.nx s0.nr) (qb s0.nx s0.nr) false) hr=some (.ret,Ug l,x,s2,true)):X:=by
 unfold aeA at h;split at h;split at h;rename_i v' hv;simp only[atS,aWN] at h;obtain⟨rfl,rfl,h1,h2,h3⟩:=h;have hq:q s0.nx s0.nr=true:=by cases hh:q s0.nx s0.nr with | true=>rfl | false=>rw[hh] at h3;cases h3
 have hb:qb s0.nx s0.nr=true:=by rw[hq] at h3;exact h3
 exact R _ _ _ _ rfl (Nu l) (k _ _ (gI (.cons (fits1 tg un h1 hq) .nil) hb h2) _ _ hv rfl);cases h;cases h
def bbW[gp:GP G](fn:Func)(m:Nat)(R:Kl P G l (N7 P fn m (QM G s0 (.ret v) s2)) hr X)[tg:Tg v x][un:Un v q][us:UnS s2 qb](h:aeA P fn m s0.nx s0.nr x s2.h (cond (q s0.nx s0.nr) (qb s0.nx s0.nr) false) hr=some (.normal,Ug l,x,s2,true)):X:=by
 unfold aeA at h;split at h;split at h;rename_i v' hv;simp only[atS,aWN] at h;obtain⟨rfl,rfl,h1,h2,h3⟩:=h;have hq:q s0.nx s0.nr=true:=by cases hh:q s0.nx s0.nr with | true=>rfl | false=>rw[hh] at h3;cases h3
 have hb:qb s0.nx s0.nr=true:=by rw[hq] at h3;exact h3
 exact R _ _ _ _ rfl (Nu l) ⟨_,hv,_,rfl,gI (.cons (fits1 tg un h1 hq) .nil) hb h2⟩;cases h;cases h
def aZJ[gp:GP G](R:Kl P G l Q hr X)(k:YZ G m s0 Q v s2)[tg:Tg v x][un:Un v q][us:UnS s2 qb](h:aCW m s0.nx s0.nr x s2.h (cond (q s0.nx s0.nr) (qb s0.nx s0.nr) false) hr=some (Ug l,x,s2,true)):X:=by
 unfold aCW at h;split at h;simp only[atS,aWN] at h;obtain⟨rfl,h1,h2,h3⟩:=h;have hq:q s0.nx s0.nr=true:=by cases hh:q s0.nx s0.nr with | true=>rfl | false=>rw[hh] at h3;cases h3
 have hb:qb s0.nx s0.nr=true:=by rw[hq] at h3;exact h3
 exact R _ _ _ _ rfl (Nu l) (k _ _ (gI (.cons (fits1 tg un h1 hq) .nil) hb h2) _ _ rfl);cases h
def aKA(R:Kl P G l Q hr X)(k:Y0 P fn m Q v)[tg:Tg v x][un:Un v q](h:oO P fn x (q 0 0) hr=some (Ug l,x,true)):X:=by unfold oO at h;split at h;split at h;rename_i v' hv;simp only[atS,aWN] at h;obtain⟨rfl,h1,h3⟩:=h;exact R _ _ _ _ rfl (Nu l) (k _ _ (fits1 tg un h1 h3) _ _ hv rfl);cases h;cases h
def aZW[gp:GP G]{L:Code}{y:AX}{n:Nat}{LL LX:List (Nat×AV)}{bs:List Nat}(R:Kl P G l (Ls P G L s0 Q) hr X)(hy:y=.normal\/∃id,y=.exit id)(a:∀BM s',pQ G s0 BM s' (fr n LL bs (jR bs hr)) s2->Ls P G L s0 Q y BM s')[te:TgE LL LX][ue:UnE LL q][us:UnS s2 qb](h:amK s0.nx s0.nr (fr n LX bs (jR bs hr)) s2.h (cond (q s0.nx s0.nr) (qb s0.nx s0.nr) false) hr=some (y,Ug l,fr n LX bs (jR bs hr),s2,true)):X:=by
 unfold amK at h;split at h;simp only[atS,aWN] at h;obtain⟨rfl,rfl,h1,h2,h3⟩:=h;have hq:q s0.nx s0.nr=true:=by cases hh:q s0.nx s0.nr with | true=>rfl | false=>rw[hh] at h3;cases h3
 have hb:qb s0.nx s0.nr=true:=by rw[hq] at h3;exact h3
 have e:=te.eq;subst e;exact R _ _ _ _ rfl (Nu l) (a _ _ (gI (pM h1 (UN _ _ _ _ _ _ (ue.h _ _ hq))) hb h2));cases h
end
section
variable {hr:HR}{fn:Func}{m:Nat}{s0 s2:AS}{v x:AV}{q qb:Nat->Nat->Bool}{y:α}
section
variable {Q:AX->List AV->AS->Prop}
def tR[gp:GP G](R:Kl P G l Q hr (Z y):=by exact rU)(k:XO P G fn m s0 Q v s2:=by exact .body)[tg:Tg v x][un:Un v q][us:UnS s2 qb](h:aeA P fn m s0.nx s0.nr x s2.h (cond (q s0.nx s0.nr) (qb s0.nx s0.nr) false) hr=some (.ret,Ug l,x,s2,true):=by kernel_rfl):T l (some y) Z:=λr e=>by
 cases e;exact aZU R k h
def tD[gp:GP G](R:Kl P G l (N7 P fn m (QM G s0 (.ret v) s2)) hr (Z y):=by exact rU)[tg:Tg v x][un:Un v q][us:UnS s2 qb](h:aeA P fn m s0.nx s0.nr x s2.h (cond (q s0.nx s0.nr) (qb s0.nx s0.nr) false) hr=some (.normal,Ug l,x,s2,true):=by kernel_rfl):T l (some y) Z:=λr e=>by
 cases e;exact bbW fn m R h
def tQ[gp:GP G](R:Kl P G l Q hr (Z y):=by exact rU)(k:YZ G m s0 Q v s2:=by exact .body)[tg:Tg v x][un:Un v q][us:UnS s2 qb](h:aCW m s0.nx s0.nr x s2.h (cond (q s0.nx s0.nr) (qb s0.nx s0.nr) false) hr=some (Ug l,x,s2,true):=by kernel_rfl):T l (some y) Z:=λr e=>by
 cases e;exact aZJ R k h
def tA(R:Kl P G l Q hr (Z y):=by exact rU)(k:Y0 P fn m Q v:=by exact .body)[tg:Tg v x][un:Un v q](h:oO P fn x (q 0 0) hr=some (Ug l,x,true):=by kernel_rfl):T l (some y) Z:=λr e=>by
 cases e;exact aKA R k h
end
def Rv(Qt:ρ->AX->List AV->AS->Prop)(Q':AX->List AV->AS->Prop)(v:ρ):Prop:=(∀fr s,Qt v .ret fr s->Q' .ret fr s)/\∀p fr s,Qt v (.pan p) fr s->Q' (.pan p) fr s
def Rv.loop{Qt:ρ->AX->List AV->AS->Prop}{Q':AX->List AV->AS->Prop}{v:ρ}{id:Nat}{ks:List KI}(h:Rv Qt Q' v):Rv Qt (Fe id (CY P G ks Q')) v:=⟨λfr s hq=>anF (h.1 fr s hq),λp fr s hq=>anE (h.2 p fr s hq)⟩
def Rv.rnd{Qt:ρ->AX->List AV->AS->Prop}{Q':AX->List AV->AS->Prop}{v:ρ}{L:Code}(h:Rv Qt Q' v):Rv Qt (Ls P G L s0 Q') v:=⟨h.1,h.2⟩
section
variable {Q Q':AX->List AV->AS->Prop}{Qt:ρ->AX->List AV->AS->Prop}{z:ρ}{A:γ->Prop}{B:δ->Prop}{X:Prop}{L:Code}{s1:AS}
def rvM(k:XO P G fn m s0 (Qt z) v s2)(c:Rv Qt Q' z):XO P G fn m s0 (Ls P G L s1 Q') v s2:=λa s' hf fr s hv hc=>c.1 fr s (k a s' hf fr s hv hc)
def rvP(k:YZ G m s0 (Qt z) v s2)(c:Rv Qt Q' z):YZ G m s0 (Ls P G L s1 Q') v s2:=λa s' hf fr s hc=>c.2 _ fr s (k a s' hf fr s hc)
def rvA(k:Y0 P fn m (Qt z) v)(c:Rv Qt Q' z):Y0 P fn m (Ls P G L s1 Q') v:=λa s2 hf fr s hv hc=>c.1 fr s (k a s2 hf fr s hv hc)
def tRl[gp:GP G](R:Kl P G l (Ls P G L s1 Q') hr X:=by exact rU)(k:XO P G fn m s0 (Qt z) v s2:=by exact .body)[tg:Tg v x][un:Un v q][us:UnS s2 qb](h:aeA P fn m s0.nx s0.nr x s2.h (cond (q s0.nx s0.nr) (qb s0.nx s0.nr) false) hr=some (.ret,Ug l,x,s2,true):=by kernel_rfl):T l (some (Lp.rt z)) λr=>RQ A B (Rv Qt Q') r->X:=λr e=>by
 cases e;exact λc=>aZU R (rvM k c) h
def cG[gp:GP G](R:Kl P G l (Ls P G L s1 Q') hr X:=by exact rU)(k:YZ G m s0 (Qt z) v s2:=by exact .body)[tg:Tg v x][un:Un v q][us:UnS s2 qb](h:aCW m s0.nx s0.nr x s2.h (cond (q s0.nx s0.nr) (qb s0.nx s0.nr) false) hr=some (Ug l,x,s2,true):=by kernel_rfl):T l (some (Lp.rt z)) λr=>RQ A B (Rv Qt Q') r->X:=λr e=>by
 cases e;exact λc=>aZJ R (rvP k c) h
def NG(R:Kl P G l (Ls P G L s1 Q') hr X:=by exact rU)(k:Y0 P fn m (Qt z) v:=by exact .body)[tg:Tg v x][un:Un v q](h:oO P fn x (q 0 0) hr=some (Ug l,x,true):=by kernel_rfl):T l (some (Lp.rt z)) λr=>RQ A B (Rv Qt Q') r->X:=λr e=>by
 cases e;exact λc=>aKA R (rvA k c) h
variable {C:ρ->Prop}{n:Nat}{LL LX:List (Nat×AV)}{bs:List Nat}
def tX[gp:GP G]{y:γ}(R:Kl P G l (Ls P G L s0 Q) hr X:=by exact rU)(a:A y->∀j,WL P G (XS P G) H0 L (fr n LL bs j) s2 Q:=by exact λh=>h)[te:TgE LL LX][ue:UnE LL q][us:UnS s2 qb](h:amK s0.nx s0.nr (fr n LX bs (jR bs hr)) s2.h (cond (q s0.nx s0.nr) (qb s0.nx s0.nr) false) hr=some (.normal,Ug l,fr n LX bs (jR bs hr),s2,true):=by kernel_rfl):T l (some (Lp.nx y)) λr=>RQ A B C r->X:=λr e=>by
 cases e;exact λk=>aZW R (.inl rfl) (λ_ _ hf=>⟨_,_,hf,a k _⟩) h
def Mf{y:γ}(R:Kl P G l (Ls P G L s0 Q) hr X:=by exact rU)(a:A y->∀j,WL P G (XS P G) H0 L (fr n LL bs j) s2 Q:=by exact λh=>h)(h:ZF (fr n LL bs (jR bs hr)) hr=some (.normal,Ug l,fr n LL bs (jR bs hr),s2):=by kernel_rfl):T l (some (Lp.nx y)) λr=>RQ A B C r->X:=λr e=>by
 cases e;exact λk=>aWC R h (a k _)
def tE[gp:GP G]{y:δ}{id:Nat}(R:Kl P G l (Ls P G L s0 Q) hr X:=by exact rU)(a:B y->∀j,Q (.exit id) (fr n LL bs j) s2:=by exact λh=>h)[te:TgE LL LX][ue:UnE LL q][us:UnS s2 qb](h:amK s0.nx s0.nr (fr n LX bs (jR bs hr)) s2.h (cond (q s0.nx s0.nr) (qb s0.nx s0.nr) false) hr=some (.exit id,Ug l,fr n LX bs (jR bs hr),s2,true):=by kernel_rfl):T l (some (Lp.ex y)) λr=>RQ A B C r->X:=λr e=>by
 cases e;exact λk=>aZW R (.inr ⟨_,rfl⟩) (λ_ _ hf=>⟨_,_,hf,a k _⟩) h
def Se{y:δ}{id:Nat}(R:Kl P G l (Ls P G L s0 Q) hr X:=by exact rU)(a:B y->∀j,Q (.exit id) (fr n LL bs j) s2:=by exact λh=>h)(h:ZF (fr n LL bs (jR bs hr)) hr=some (.exit id,Ug l,fr n LL bs (jR bs hr),s2):=by kernel_rfl):T l (some (Lp.ex y)) λr=>RQ A B C r->X:=λr e=>by
 cases e;exact λk=>aIL R h (a k _)
end
end
def aCA{i n:Nat}(h:n<=i):Cy ((i:Nat):Int) ((n:Nat):Int)=false:=by rw[Tc];simp;omega
def Mw{Q:ρ->AX->List AV->AS->Prop}:∀r v,(λv=>some v) v=some r->Rv Q (Q r) v:=λr v h=>by
 cases h;exact⟨λ_ _ h=>h,λ_ _ _ h=>h⟩
section
variable {ε:Type}{Qt:ρ->AX->List AV->AS->Prop}{id:Nat}{L:Code}{ks:List KI}{hr:HR}{z:List NZ}{n:Nat}{bs xb:List Nat}
abbrev ZX(P:Program)(G:AN)(Qt:ρ->AX->List AV->AS->Prop)(L:Code)(id n:Nat)(bs xb:List Nat)(F':γ->List (Nat×AV))(S:γ->AS)(XL:δ->List (Nat×AV))(SX:δ->AS)(Q':AX->List AV->AS->Prop)(fr0:List AV)(s:AS):Lp γ δ ρ->Prop:=λr=>RQ (λx'=>∀j',WL P G (XS P G) H0 L (fr n (F' x') bs j') (S x') Q') (exR Q' id (λd j=>fr n (XL d) xb j) SX) (Rv Qt Q') r->W P G (XS P G) H0 L fr0 s (Ls P G L s Q')
section
variable {body:Nat->ε->γ->Option (Lp γ δ ρ)}{done:γ->δ}{lst:List ε}{i0:Nat}{x:γ}
abbrev anW(P:Program)(G:AN)(L:Code)(fr0:List AV)(s:AS){n i:Nat}(h:n<=i):HR:=Su P G 300 L [] (pHs [pb (P:=P) (G:=G) (aCA h)]) fr0 s
def tFo{k:δ->Option α}{Q:α->AX->List AV->AS->Prop}(kr:ρ->Option α)(n:Nat)(bs xb:List Nat)(FL:Nat->γ->List (Nat×AV))(S:γ->AS)(XL:δ->List (Nat×AV))(SX:δ->AS)(z:List NZ)(id:Nat)(L:Code)(ks:List KI)
   (R:∀r,Kl P G l (Q r) hr (Z r)) (hv:∀r v,kr v=some r->Rv Qt (Q r) v)
   (hB:∀r0 i y x j,lst[i]?=some y->i < lst.length->i < 9223372036854775807->T ([]:List (PC P G)) (body i y x) (ZX P G Qt L id n bs xb (FL (i+1)) S XL SX (Fe id (CY P G ks (Q r0))) (fr n (FL i x) bs j) (S x)))
   (hb:∀d j,T ([]:List (PC P G)) (k d) λr=>CY P G ks (Q r) .normal (fr n (XL d) xb j) (SX d))
   (hA:vP z (fr n (FL i0 x) bs (jR bs hr)) hr=some (Ug l,id,L,ks,fr n (FL i0 x) bs (jR bs hr),S x):=by kernel_rfl)
   (hZ:∀i x j (h:lst.length<=i),ZF (fr n (XL (done x)) xb (jR xb (anW P G L (fr n (FL i x) bs j) (S x) h))) (anW P G L (fr n (FL i x) bs j) (S x) h)=some (.exit id,Ug [pb (P:=P) (G:=G) (aCA h)],fr n (XL (done x)) xb (jR xb (anW P G L (fr n (FL i x) bs j) (S x) h)),SX (done x)):=by (intro i x j h;kernel_rfl)):
   T l ((PK lst.length (Bs body done (lst.drop i0) i0 x)).bind (F0 k kr)) Z:=λr=>
 bbN (Q:=Q r) (Rv Qt) (λi x j=>fr n (FL i x) bs j) S (λd j=>fr n (XL d) xb j) SX _ (aNV z id L ks (R r) hA) (λi x j h hq=>aIL (aeH 300 [pb (aCA h)]) (hZ i x j h) (hq _)) (λi y x j r' h1 h2 h3 hk e=>hB r i y x j h1 h2 h3 r' e hk) (λd j e=>hb d j r e) (λv e=>(hv r v e).loop)
end
section
variable {body:γ->Option (Lp γ δ ρ)}{x:γ}
def tIo{k:δ->Option α}{Q:α->AX->List AV->AS->Prop}(kr:ρ->Option α)(n:Nat)(bs xb:List Nat)(FL:γ->List (Nat×AV))(S:γ->AS)(XL:δ->List (Nat×AV))(SX:δ->AS)(z:List NZ)(id:Nat)(L:Code)(ks:List KI)
   (R:∀r,Kl P G l (Q r) hr (Z r)) (hv:∀r v,kr v=some r->Rv Qt (Q r) v)
   (hB:∀r0 x j,T ([]:List (PC P G)) (body x) (ZX P G Qt L id n bs xb FL S XL SX (Fe id (CY P G ks (Q r0))) (fr n (FL x) bs j) (S x)))
   (hb:∀d j,T ([]:List (PC P G)) (k d) λr=>CY P G ks (Q r) .normal (fr n (XL d) xb j) (SX d))
   (hA:vP z (fr n (FL x) bs (jR bs hr)) hr=some (Ug l,id,L,ks,fr n (FL x) bs (jR bs hr),S x):=by kernel_rfl):
   T l ((GJ body x).bind (F0 k kr)) Z:=λr=>
 aUN (Q:=Q r) (Rv Qt) (λx j=>fr n (FL x) bs j) S (λd j=>fr n (XL d) xb j) SX _ (aNV z id L ks (R r) hA) (λx j r' hk e=>hB r x j r' e hk) (λd j e=>hb d j r e) (λv e=>(hv r v e).loop)
def tIi{k:δ->Option (Lp κ β ρ)}{A:κ->Prop}{B:β->Prop}{Q0:AX->List AV->AS->Prop}{L0:Code}{s0:AS}{X:Prop}(n:Nat)(bs xb:List Nat)(FL:γ->List (Nat×AV))(S:γ->AS)(XL:δ->List (Nat×AV))(SX:δ->AS)(z:List NZ)(id:Nat)(L:Code)(ks:List KI)
   (R:Kl P G l (Ls P G L0 s0 Q0) hr X)
   (hB:∀x j,T ([]:List (PC P G)) (body x) (ZX P G Qt L id n bs xb FL S XL SX (Fe id (CY P G ks (Ls P G L0 s0 Q0))) (fr n (FL x) bs j) (S x)))
   (hb:∀d j,T ([]:List (PC P G)) (k d) λr=>RQ A B (Rv Qt Q0) r->CY P G ks (Ls P G L0 s0 Q0) .normal (fr n (XL d) xb j) (SX d))
   (hA:vP z (fr n (FL x) bs (jR bs hr)) hr=some (Ug l,id,L,ks,fr n (FL x) bs (jR bs hr),S x):=by kernel_rfl):
   T l ((GJ body x).bind (F0 k λv=>some (Lp.rt v))) λr=>RQ A B (Rv Qt Q0) r->X:=λr e c=>
 aUN (Q:=Ls P G L0 s0 Q0) (Rv Qt) (λx j=>fr n (FL x) bs j) S (λd j=>fr n (XL d) xb j) SX _ (aNV z id L ks R hA) (λx j r' hk e=>hB x j r' e hk) (λd j e=>hb d j r e c) (λv e=>by cases e;exact(Rv.rnd c).loop) e
end
section
variable {body:Nat->ε->γ->Option (Lp γ γ ρ)}{done:γ->γ}{lst:List ε}{i0:Nat}{x:γ}
def NH{k:γ->Option α}{Q:α->AX->List AV->AS->Prop}(kr:ρ->Option α)(n:Nat)(bs xb:List Nat)(FL:Nat->γ->List (Nat×AV))(S:γ->AS)(ds:List Nat)(z:List NZ)(id:Nat)(L:Code)(ks:List KI)
   (R:∀r,Kl P G l (Q r) hr (Z r)) (hv:∀r v,kr v=some r->Rv Qt (Q r) v)
   (hB:∀r0 i y x j,lst[i]?=some y->i < lst.length->i < 9223372036854775807->T ([]:List (PC P G)) (body i y x) (ZX P G Qt L id n bs xb (FL (i+1)) S (λd=>df ds (FL 0 d)) S (Fe id (CY P G ks (Q r0))) (fr n (FL i x) bs j) (S x)))
   (hb:∀d j,T ([]:List (PC P G)) (k d) λr=>CY P G ks (Q r) .normal (fr n ((λd=>df ds (FL 0 d)) d) xb j) (S d))
   (hA:vP z (fr n (FL i0 x) bs (jR bs hr)) hr=some (Ug l,id,L,ks,fr n (FL i0 x) bs (jR bs hr),S x):=by kernel_rfl)
   (hZ:∀i x j (h:lst.length<=i),ZF (fr n ((λd=>df ds (FL 0 d)) (done x)) xb (jR xb (anW P G L (fr n (FL i x) bs j) (S x) h))) (anW P G L (fr n (FL i x) bs j) (S x) h)=some (.exit id,Ug [pb (P:=P) (G:=G) (aCA h)],fr n ((λd=>df ds (FL 0 d)) (done x)) xb (jR xb (anW P G L (fr n (FL i x) bs j) (S x) h)),S (done x)):=by (intro i x j h;kernel_rfl)):
   T l ((PK lst.length (Bs body done (lst.drop i0) i0 x)).bind (F0 k kr)) Z:=tFo kr n bs xb FL S (λd=>df ds (FL 0 d)) S z id L ks R hv hB hb hA hZ
end
section
variable {body:γ->Option (Lp γ γ ρ)}{x:γ}
def SP{k:γ->Option α}{Q:α->AX->List AV->AS->Prop}(kr:ρ->Option α)(n:Nat)(bs xb:List Nat)(FL:γ->List (Nat×AV))(S:γ->AS)(ds:List Nat)(z:List NZ)(id:Nat)(L:Code)(ks:List KI)
   (R:∀r,Kl P G l (Q r) hr (Z r)) (hv:∀r v,kr v=some r->Rv Qt (Q r) v)
   (hB:∀r0 x j,T ([]:List (PC P G)) (body x) (ZX P G Qt L id n bs xb FL S (λd=>df ds (FL d)) S (Fe id (CY P G ks (Q r0))) (fr n (FL x) bs j) (S x)))
   (hb:∀d j,T ([]:List (PC P G)) (k d) λr=>CY P G ks (Q r) .normal (fr n ((λd=>df ds (FL d)) d) xb j) (S d))
   (hA:vP z (fr n (FL x) bs (jR bs hr)) hr=some (Ug l,id,L,ks,fr n (FL x) bs (jR bs hr),S x):=by kernel_rfl):
   T l ((GJ body x).bind (F0 k kr)) Z:=tIo kr n bs xb FL S (λd=>df ds (FL d)) S z id L ks R hv hB hb hA
def aFH{k:γ->Option (Lp κ β ρ)}{A:κ->Prop}{B:β->Prop}{Q0:AX->List AV->AS->Prop}{L0:Code}{s0:AS}{X:Prop}(n:Nat)(bs xb:List Nat)(FL:γ->List (Nat×AV))(S:γ->AS)(ds:List Nat)(z:List NZ)(id:Nat)(L:Code)(ks:List KI)
   (R:Kl P G l (Ls P G L0 s0 Q0) hr X)
   (hB:∀x j,T ([]:List (PC P G)) (body x) (ZX P G Qt L id n bs xb FL S (λd=>df ds (FL d)) S (Fe id (CY P G ks (Ls P G L0 s0 Q0))) (fr n (FL x) bs j) (S x)))
   (hb:∀d j,T ([]:List (PC P G)) (k d) λr=>RQ A B (Rv Qt Q0) r->CY P G ks (Ls P G L0 s0 Q0) .normal (fr n ((λd=>df ds (FL d)) d) xb j) (S d))
   (hA:vP z (fr n (FL x) bs (jR bs hr)) hr=some (Ug l,id,L,ks,fr n (FL x) bs (jR bs hr),S x):=by kernel_rfl):
   T l ((GJ body x).bind (F0 k λv=>some (Lp.rt v))) λr=>RQ A B (Rv Qt Q0) r->X:=tIi n bs xb FL S (λd=>df ds (FL d)) S z id L ks R hB hb hA
end
end
end
end AI
namespace AI
open Go
section
variable {α γ δ ρ:Type}
def allI(p:Nat->α->Bool):List α->Nat->Bool
 |[],_=>true
 |y::l,i=>p i y&&allI p l (i+1)
def wL{body:Nat->α->Unit->Option (Lp Unit δ ρ)}{done:Unit->δ}{p:Nat->α->Bool}{v:ρ}:∀{l:List α}{i:Nat},(∀k y,l[k]?=some y->body (i+k) y ()=some (if p (i+k) y then .nx () else .rt v))->Bs body done l i ()=some (if allI p l i then .inl (done ()) else .inr v)
 |[],i,_=>rfl
 |y::l,i,h=>by
  have h0:=h 0 y rfl;rw[bjU] at h0;rw[Bs,h0,allI];cases p i y with
  |false=>simp[MK]
  |true=>
   have:=wL (body:=body) (done:=done) (p:=p) (v:=v) (l:=l) (i:=i+1) λk z hz=>by
    have:=h (k+1) z (by simpa using hz)
    rwa[show i+(k+1)=i+1+k by omega] at this
   simpa[MK] using this
def L9{β:Type}{n:Nat}{x:Option β}(h:n<=9223372036854775807):PK n x=x:=by unfold PK;rw[if_pos h]
def B1{β:Type}{n:Nat}{x:Option β}(h:n<=100000000):G8 n x=x:=by unfold G8;rw[if_pos h]
end
end AI
namespace AI
open Go
def mb(p:Prop):Bool:=@decide p (bqB _)
theorem Cu{p:Prop}:mb p=true↔p:=by unfold mb;exact @decide_eq_true_iff p (_)
theorem MS{p q:Prop}(h:p↔q):mb p=mb q:=by rw[propext h]
def GX{β:Type}(p:Prop)(x y:β):β:=@ite β p (bqB _) x y
theorem Bg{β:Type}{p:Prop}{x y:β}(h:p):GX p x y=x:=@if_pos p (_) h _ _ _
theorem Bl{β:Type}{p:Prop}{x y:β}(h:¬p):GX p x y=y:=@if_neg p (_) h _ _ _
section
variable {β:Type}{x y:β}
theorem EA(p:Prop):cond (mb p) x y=GX p x y:=by
 by_cases h:p
 ·rw[Bg h,Cu.2 h];rfl
 ·rw[Bl h]
  have:mb p=false:=by
   cases hm:mb p
   ·rfl
   ·exact absurd (Cu.1 hm) h
  rw[this];rfl
end
section
variable {p q r:Prop}
theorem MQ:GX p (some true) (some false)=some (mb p):=by
 by_cases h:p
 ·rw[Bg h,Cu.2 h]
 ·rw[Bl h];congr 1;cases hm:mb p;rfl;exact absurd (Cu.1 hm) h
theorem mbT:true=mb True:=(Cu.2 trivial).symm
theorem bfH:GX p (some false) (some true)=some (mb ¬p):=by
 by_cases h:p
 ·rw[Bg h];congr 1;rw[bjA,Cu];simp[h]
 ·rw[Bl h];congr 1;rw[bjA,Cu];simp[h]
theorem Jt:GX p (some (mb q)) (some false)=some (mb (p/\q)):=by
 by_cases h:p
 ·rw[Bg h];congr 1;rw[bjA,Cu,Cu];simp[h]
 ·rw[Bl h];congr 1;rw[bjA,Cu];simp[h]
theorem aYP:GX p (some false) (some (mb q))=some (mb (¬p/\q)):=by
 by_cases h:p
 ·rw[Bg h];congr 1;rw[bjA,Cu];simp[h]
 ·rw[Bl h];congr 1;rw[bjA,Cu,Cu];simp[h]
theorem aCF:GX p (some true) (some (mb q))=some (mb (p\/q)):=by
 by_cases h:p
 ·rw[Bg h];congr 1;rw[bjA,Cu];simp[h]
 ·rw[Bl h];congr 1;rw[bjA,Cu,Cu];simp[h]
theorem aCE:GX p (some (mb q)) (some (mb r))=some (mb ((p->q)/\(¬p->r))):=by
 by_cases h:p
 ·rw[Bg h];congr 1;rw[bjA,Cu,Cu];simp[h]
 ·rw[Bl h];congr 1;rw[bjA,Cu,Cu];simp[h]
theorem Te{β:Type}{x:β}:GX p x x=x:=by
 by_cases h:p
 ·exact Bg h
 ·exact Bl h
def ck{δ ρ:Type}(v:ρ)(p:Prop):Lp Unit δ ρ:=GX p (.nx ()) (.rt v)
variable {δ ρ:Type}{v:ρ}
theorem xM:GX p (some (.nx ())) (some (.rt v))=some (ck (δ:=δ) v p):=by
 unfold ck;by_cases h:p
 ·rw[Bg h,Bg h]
 ·rw[Bl h,Bl h]
theorem alK:GX p (some (.rt v)) (some (.nx ()))=some (ck (δ:=δ) v ¬p):=by
 unfold ck;by_cases h:p
 ·rw[Bg h,Bl (by simp[h])]
 ·rw[Bl h,Bg h]
theorem asL:GX p (some (ck (δ:=δ) v q)) (some (.rt v))=some (ck v (p/\q)):=by
 unfold ck;by_cases h:p
 ·rw[Bg h];simp[h]
 ·rw[Bl h,Bl (by simp[h])]
theorem alL:GX p (some (.rt v)) (some (ck (δ:=δ) v q))=some (ck v (¬p/\q)):=by
 unfold ck;by_cases h:p
 ·rw[Bg h,Bl (by simp[h])]
 ·rw[Bl h];simp[h]
theorem aPP:GX p (some (ck (δ:=δ) v q)) (some (.nx ()))=some (ck v (p->q)):=by
 unfold ck;by_cases h:p
 ·rw[Bg h];simp[h]
 ·rw[Bl h,Bg (by simp[h])]
theorem aYC:GX p (some (.nx ())) (some (ck (δ:=δ) v q))=some (ck v (p\/q)):=by
 unfold ck;by_cases h:p
 ·rw[Bg h,Bg (by simp[h])]
 ·rw[Bl h];simp[h]
theorem bfA:GX p (some (ck (δ:=δ) v q)) (some (ck v r))=some (ck v ((p->q)/\(¬p->r))):=by
 unfold ck;by_cases h:p
 ·rw[Bg h];simp[h]
 ·rw[Bl h];simp[h]
theorem P3{α β:Type}{l:List α}{body:Nat->α->Unit->Option (Lp Unit Unit ρ)}{P:Nat->α->Prop}{k:Unit->Option β}{kr:ρ->Option β}(hl:l.length<=9223372036854775807)(hb:∀i y,l[i]?=some y->body i y ()=some (ck v (P i y))):(PK l.length (Bs body (λ_=>()) (l.drop 0) 0 ())).bind (F0 k kr)=GX (∀i y,l[i]?=some y->P i y) (k ()) (kr v):=by
 rw[L9 hl,biT]
 have h1:∀k y,l[k]?=some y->body (0+k) y ()=some (if mb (P (0+k) y) then .nx () else .rt v):=λk y hy=>by
  rw[bhC,hb k y hy]
  unfold ck
  by_cases h:P k y
  ·rw[Bg h,if_pos (Cu.2 h)]
  ·rw[Bl h,if_neg (λe=>h (Cu.1 e))]
 rw[wL (p:=λi y=>mb (P i y)) (v:=v) h1]
 have h2:∀(l:List α)(i:Nat),allI (λi y=>mb (P i y)) l i=true↔∀k y,l[k]?=some y->P (i+k) y:=by
  intro l
  induction l with
  |nil=>intro i;simp[allI]
  |cons a l ih=>
   intro i
   rw[allI,bhB,Cu,ih]
   constructor
   ·rintro⟨h1,h2⟩ k y hk
    cases k with|zero=>simp at hk;subst hk;exact h1|succ k=>rw[show i+(k+1)=i+1+k by omega];exact h2 k y (by simpa using hk)
   ·intro h
    refine⟨h 0 a rfl,λk y hk=>?_⟩
    rw[show i+1+k=i+(k+1) by omega]
    exact h (k+1) y (by simpa using hk)
 have h3:=h2 l 0
 simp only[bhC] at h3
 by_cases h:∀i y,l[i]?=some y->P i y
 ·rw[Bg h,h3.2 h];rfl
 ·rw[Bl h]
  have:allI (λi y=>mb (P i y)) l 0=false:=by
   cases ha:allI (λi y=>mb (P i y)) l 0
   ·rfl
   ·exact absurd (h3.1 ha) h
  rw[this];rfl
end
end AI
namespace AI
open Go
def Sp{β:Type}(o:Option β)(Q:β->Prop):Prop:=∃r,o=some r/\Q r
section
variable {α β γ δ ρ κ:Type}{Q:β->Prop}
def XP{r:β}:Sp (some r) Q=Q r:=propext ⟨λ⟨_,h,k⟩=>by cases h;exact k,λh=>⟨_,rfl,h⟩⟩
def afM{o:Option κ}{k:κ->Option β}:Sp (o.bind k) Q=Sp o (λy=>Sp (k y) Q):=propext ⟨λ⟨r,h,hq⟩=>by
 obtain⟨y,h1,h2⟩:=fO h;exact⟨y,h1,r,h2,hq⟩,λ⟨y,h1,r,h2,hq⟩=>⟨r,by rw[h1];exact h2,hq⟩⟩
def aHS{o:Option β}{r:β}:(o=some r)=Sp o (λx=>x=r):=propext ⟨λh=>⟨r,h,rfl⟩,λ⟨_,h,k⟩=>by rw[h,k]⟩
def abN{p:Prop}{x y:Option β}:Sp (GX p x y) Q=((p->Sp x Q)/\(¬p->Sp y Q)):=propext (by
 by_cases h:p;rw[Bg h];exact⟨λa=>⟨λ_=>a,λn=>absurd h n⟩,λa=>a.1 h⟩;rw[Bl h];exact⟨λa=>⟨λn=>absurd n h,λ_=>a⟩,λa=>a.2 h⟩)
def Lk(a b:Int):My a b=mb (a<=b):=by rw[iM,bjA,Cu,decide_eq_true_iff]
def Ll(a b:Int):Cy a b=mb (a < b):=by rw[Tc,bjA,Cu,decide_eq_true_iff]
def Es(a b:Int):A8 a b=mb (a=b):=by rw[UL,bjA,Cu,beq_iff_eq]
def Ij(a b:ByteArray):Bd a.data.toList b.data.toList=mb (a=b):=by rw[RC,bjA,Cu,beq_iff_eq];exact⟨λh=>ByteArray.ext (bjG h),λh=>by rw[h]⟩
def iS{p:Prop}:(mb p=true)=p:=propext Cu
def aF{p:Prop}:(mb p=false)=¬p:=by rw[<- Bool.not_eq_true,iS]
def aeV{p:Prop}:(true=mb p)=p:=by rw[@eq_comm _ true,iS]
def Z2{p:Prop}:(false=mb p)=¬p:=by rw[@eq_comm _ false,aF]
def T8{p q:Prop}(h:p↔q):some (mb p)=some (mb q):=by rw[MS h]
def O0{p:Prop}(h:¬p):some false=some (mb p):=congrArg some (by rw[Z2];exact h)
def azC{l:List α}{body:Nat->α->γ->Option (Lp γ δ ρ)}{done:γ->δ}{k:δ->Option β}{kr:ρ->Option β}{x0:γ}(I:Nat->γ->Prop)(hl:l.length<=9223372036854775807)(h0:I 0 x0)
   (hb:∀i y x,l[i]?=some y->I i x->Sp (body i y x) (RQ (I (i+1)) (λd=>Sp (k d) Q) (λv=>Sp (kr v) Q)))
   (hz:∀x,I l.length x->Sp (k (done x)) Q):Sp ((PK l.length (Bs body done (l.drop 0) 0 x0)).bind (F0 k kr)) Q:=by
 rw[L9 hl,biT]
 have key:∀(m:List α)(i:Nat)(x:γ),l.drop i=m->i<=l.length->I i x->Sp ((Bs body done m i x).bind (F0 k kr)) Q:=by
  intro m
  induction m with
  |nil=>
   intro i x hd hle hi;have h1:=boD.1 hd;have:i=l.length:=by omega
   subst this;exact hz x hi
  |cons y m ih=>
   intro i x hd hle hi
   have hlt:i < l.length:=by
    rcases blM i l.length with h1 | h1
    exact h1;rw[biX h1] at hd;cases hd
   have hy:l[i]?=some y:=by rw[<- blZ,hd];rfl
   have hd2:l.drop (i+1)=m:=by rw[<- bmX,hd];rfl
   obtain⟨r,hr,hq⟩:=hb i y x hy hi;rw[Bs,hr];cases r with|nx x'=>exact ih (i+1) x' hd2 hlt hq|ex d=>exact hq|rt v=>exact hq
 exact key l 0 x0 rfl (bjI _) h0
def aUC{Qn:γ->Prop}{Qx:δ->Prop}{Qr:ρ->Prop}{x:γ}:RQ Qn Qx Qr (.nx x)=Qn x:=rfl
def aUB{Qn:γ->Prop}{Qx:δ->Prop}{Qr:ρ->Prop}{x:δ}:RQ Qn Qx Qr (.ex x)=Qx x:=rfl
end
def YS{n:Int}(h:-9223372036854775808<=n/\n<=9223372036854775807):OD .i64 n=n:=by rw[Vr];exact IntWalk.i64_in n (by omega)
def Cg{a b:Int}(h:-9223372036854775808<=a+b/\a+b<=9223372036854775807):A1 a b=a+b:=by unfold A1;rw[pY,YS h]
def FW{a b:Int}(h:-9223372036854775808<=a - b/\a - b<=9223372036854775807):Jq a b=a - b:=by unfold Jq;rw[uG,YS h]
def JM{a b:Int}(h:-9223372036854775808<=a*b/\a*b<=9223372036854775807):Bj a b=a*b:=by unfold Bj;rw[YS h]
end AI
namespace AI
open Go Go.RowKit
def mD(w w1:World)(g:Nat):Prop:=w.heap.size<=g/\g < w1.heap.size
def Cx.mM(cx:Cx)(w w1:World):Cx:=⟨cx.base,cx.Ce,cx.rows,λg i=>cx.bad g i\/mD w w1 g⟩
def Cx.ZS(c:Cx)(cx:Cx):Cx:=⟨c.base,c.Ce,c.rows,cx.bad⟩
section
variable {G:AN}{cx:Cx}{w w1:World}{s:AS}
def YM(k:Ut w w1 (λ_=>False)):Mon cx w (cx.mM w w1) w1:=by
 refine⟨λ_ _ e=>e,aWP _,λr y _ h=>⟨y,h,L6.refl y⟩,λg i v hv=>⟨beL hv.1 k.size,λhs=>?_,by rw[k.cell hv.1 id];exact hv.2.2⟩⟩;rcases hs with hs | hs | hs | hs
 exact hv.2.1 (.inl hs);exact hv.2.1 (.inr (.inl hs));exact hv.2.1 (.inr (.inr hs));have:=hs.1;have:=hv.1;omega
def aiV(h:St G cx w s)(k:Ut w w1 (λ_=>False)):St G (cx.mM w w1) w1 s:=by
 have m:=YM (cx:=cx) k;refine⟨h.len,h.desc,h.nodup,h.low,λid g b h1 h2=>?_,h.Ia,λr g n cap sz hr=>?_,h.IZ,λg hg=>beL (h.NA g hg) k.size,λg i hb=>?_,h.Ie,λg cs hg=>(h.Nh g cs hg).DL m,biP h.Sa k.size,(h.ON.chg k).sub (λ_ h=>h) (λr g n cap sz e=>⟨r,n,cap,sz,e⟩)⟩;obtain⟨o,ho,hb⟩:=h.box id g b h1 h2;exact⟨o,by rw[k.block g (aPB.1 ho).1 not_false];exact ho,hb.DL m⟩;have hl:=h.NE hr;obtain⟨L7,h2,h3,h4,vs,T,ho,h5⟩:=h.row r g n cap sz hr;refine⟨λi hb=>?_,h2,h3,h4,vs,T,by rw[k.block g (aPB.1 ho).1 not_false];exact ho,h5⟩;rcases hb with hb | hb
 exact L7 i hb;have:=hb.1;omega;rcases hb with hb | hb
 exact beL (h.Ng g i hb) k.size;exact hb.2
variable {c':Cx}{w' w2:World}{s':AS}
def Xp(hx:Ext (cx.mM w w1) w1 c' w')(k2:Ut w' w2 (mD w w1)):Mon c' w' (c'.ZS cx) w2:=by
 refine⟨λ_ _ e=>e,aWP _,λr y _ h=>⟨y,h,L6.refl y⟩,λg i v hv=>⟨beL hv.1 k2.size,λhs=>?_,?_⟩⟩;rcases hs with hs | hs | hs
 exact hv.2.1 (.inl hs);exact hv.2.1 (.inr (.inl hs));exact hv.2.1 (.inr (.inr (by rw[hx.bad];exact .inl hs)));rw[k2.cell hv.1 (λhk=>hv.2.1 (.inr (.inr (by rw[hx.bad];exact .inr hk))))];exact hv.2.2
def kJ(h:St G cx w s)(k:Ut w w1 (λ_=>False))(hx:Ext (cx.mM w w1) w1 c' w')(k2:Ut w' w2 (mD w w1)):Ext cx w (c'.ZS cx) w2:=by
 have m:=YM (cx:=cx) k;have m2:=Xp hx k2;refine⟨hx.Ce,hx.Ia,hx.rows,λg i v hv=>m2.cH g i v (hx.cH g i v (m.cH g i v hv)),?_,hx.base,rfl,λg hg=>?_,λr g n cap sz hr=>?_,λq hq hp hr=>?_⟩;have b1:Below cx.base w w1:=k.below h.Sa (λ_ h=>h.elim);have b2:Below cx.base w1 w':=hx.below;have b3:Below cx.base w' w2:=k2.below (biP (biP h.Sa k.size) b2.size) (λq hq=>biP h.Sa hq.1);exact(b1.trans b2).trans b3;rcases hx.Yn g hg with h1 | h1
 exact .inl h1;exact .inr (biP k.size h1);rcases hx.Yx r g n cap sz hr with h1 | h1
 exact .inl h1;exact .inr (biP k.size h1);have hq1:q < w1.heap.size:=beL hq k.size;rw[k2.block q (beL hq1 hx.below.size) (λhn=>by have:=hn.1;omega),hx.GY q hq1 hp hr,k.block q hq not_false]
def pG(h:St G cx w s)(hx:Ext (cx.mM w w1) w1 c' w')(hs':St G c' w' s')(k2:Ut w' w2 (mD w w1)):St G (c'.ZS cx) w2 s':=by
 have m2:=Xp hx k2
 have RJ:∀g,some g∈c'.Ce->¬mD w w1 g:=by
  intro g hg hn;rcases hx.Yn g hg with h1 | h1
  have:=h.NA g h1;have:=hn.1;omega;have:=hn.2;omega
 refine⟨hs'.len,hs'.desc,hs'.nodup,hs'.low,λid g b h1 h2=>?_,hs'.Ia,λr g n cap sz hr=>?_,hs'.IZ,λg hg=>beL (hs'.NA g hg) k2.size,λg i hb=>beL (hs'.Ng g i (by rw[hx.bad];exact .inl hb)) k2.size,hs'.Ie,λg cs hg=>(hs'.Nh g cs hg).DL m2,biP hs'.Sa k2.size,λg cs hg=>by
  obtain⟨h1,vs,T,f,h3,h4⟩:=hs'.ON g cs hg;obtain⟨_,_,_,_,e3,_⟩:=h.ON g cs hg;have hl:=(aPB.1 e3).1;exact⟨h1,vs,T,f,by rw[k2.block g (aPB.1 h3).1 (λhn=>by have:=hn.1;omega)];exact h3,h4⟩⟩
 obtain⟨o,ho,hb⟩:=hs'.box id g b h1 h2;exact⟨o,by rw[k2.block g (aPB.1 ho).1 (RJ g (aWR h1))];exact ho,hb.DL m2⟩;obtain⟨L7,h2,h3,h4,vs,T,ho,h5⟩:=hs'.row r g n cap sz hr;have hb:c'.bad=λg i=>cx.bad g i\/mD w w1 g:=hx.bad;exact⟨λi bG=>L7 i (by rw[hb];exact .inl bG),h2,h3,h4,vs,T,by rw[k2.block g (aPB.1 ho).1 (λhn=>L7 0 (by rw[hb];exact .inr hn))];exact ho,h5⟩
def PN(h:St G cx w s)(hx:Ext (cx.mM w w1) w1 c' w'){q:Nat}(hq:mD w w1 q):w'.heap[q]?=w1.heap[q]?:=by refine hx.GY q hq.2 (λhm=>?_) (λr n cap sz hr=>?_);have:=h.NA q hm;have:=hq.1;omega;have:=h.NE (r:=r) hr;have:=hq.1;omega
end
end AI
