/- Part of a proof: see the last text. -/
import Derived.Test.YtkcimienkafhmaaGreatDoorPp0
set_option linter.all false
noncomputable section
open Array renaming ext'->bbW,getD_eq_getD_getElem?->bcL,getElem?_eq_getElem->bcU,getElem?_eq_some_iff->aHQ,getElem?_toList->bbE,length_toList->bbN,replicate->bdG
open Bool renaming and_eq_true->aUR,and_eq_true_iff->bcO,and_self->bgW,eq_iff_iff->bbR,false_eq_true->bbC
open Classical renaming axiomOfChoice->biJ,choose->bfF,choose_spec->bdI,propDecidable->biK
open Go.Builtin renaming append_->bdM,zeroCells->bbY
open Go.Op renaming eqFields->bhS,equalIn->bfO
open Go.Oper renaming looksAt->biO
open Go.Region renaming wanted->bdX
open List renaming all_eq_true->bcC,cons_append->bcP,drop_append->biH,drop_eq_nil_iff->bhA,drop_eq_nil_of_le->bbX,drop_zero->bbQ,eq_nil_of_length_eq_zero->bbD,getD_eq_getElem?_getD->bcR,getElem?_append_left->aUY,getElem?_append_right->bcF,getElem?_eq_getElem->atS,getElem?_eq_none->bcK,getElem?_eq_some_iff->aHS,getElem?_map->bbS,getElem?_range->beK,getElem?_toArray->bdQ,head?_drop->bfJ,length->bfG,length_append->cZ,length_cons->amN,length_drop->aUZ,length_map->bcQ,length_nil->amO,length_take->bbT,map_cons->bcH,mem_append->bcE,mem_cons->bbG,mem_cons_of_mem->bbP,mem_cons_self->bbU,mem_iff_getElem?->biV,mem_map->bfI,mem_of_getElem?->aUV,mem_of_mem_take->bcN,mem_singleton->bbV,nil_append->bcY,prefix_append->bgD,range->bcB,range'_succ->biI,replicate->bdF,size_toArray->bcW,tail_drop->bgP,take_append->bkL,take_of_length_le->bgJ
open List.cons renaming injEq->bfZ,sizeOf_spec->bfL
open Nat renaming add_mul->bdL,add_zero->bcS,beq->bcA,beq_refl->bgK,ble->bfD,ble_eq_true_of_le->bdR,blt->beG,eq_of_beq_eq_true->bcI,le_max_left->bkT,le_max_right->bkK,le_of_ble_eq_true->aUX,le_refl->aHT,le_trans->bbM,lt_of_lt_of_le->aUS,lt_or_ge->bdS,lt_succ_self->bdH,mul_le_mul->bjB,mul_one->bhB,ne_of_beq_eq_false->beO,not_lt_zero->beX,sub_zero->bgI,succ_mul->biQ,zero_add->aUU,zero_le->bcJ
open Option renaming bind_some->TC,map_some->bbB
open Option.some renaming inj->bbJ,injEq->aUQ
open Prod.mk renaming injEq->bbI
namespace AI
open Go Go.RowKit
def OX(op:Op):Bool:=match op with
 |.call cl=>(match cl.callee with | .value _=>true | _=>false)
 |_=>false
def RY(op:Op):Bool:=match op with
 |.call cl=>(match cl.callee with | .value _=>true | .builtin .append=>true | _=>false)
 |_=>false
def awW{op:Op}(h:OX op=true):RY op=true:=by unfold OX at h;split at h;split at h;rename_i Ib;simp[RY,Ib];cases h;cases h
def nY:List Hn->Bool
 |.a _ _::_=>true
 |.u _ _ _ _ _::_=>true
 |.cn _ _ _ _ _::_=>true
 |.mb _ _::_=>true
 |_=>false
def rL(P:Program)(G:AP)(ops:Array Oper)(fr:List AV)(s:AS)(o:Oper)(hs:List Hn):HO:=match RY o.op with
 |true=>(match nY hs with|true=>none|false=>kB P G ops fr s o hs)
 |false=>kB P G ops fr s o hs
def cX{P:Program}{G:AP}{ops:Array Oper}{fr:List AV}{s:AS}{o:Oper}{hs:List Hn}{r:AV×AS×List Hn×List Cd}(h:rL P G ops fr s o hs=some r):kB P G ops fr s o hs=some r/\(RY o.op=true->nY hs=false):=by unfold rL at h;split at h;split at h;cases h;rename_i h1;exact⟨h,λ_=>h1⟩;rename_i h1;exact⟨h,λh2=>by rw[h1] at h2;cases h2⟩
def Us{P:Program}{G:AP}{ops:Array Oper}{fr:List AV}{s:AS}{o:Oper}{hs:List Hn}{r:AV×AS×List Hn×List Cd}(h:rL P G ops fr s o hs=some r):kB P G ops fr s o hs=some r/\(OX o.op=true->nY hs=false):=⟨(cX h).1,λh1=>(cX h).2 (awW h1)⟩
abbrev HT:=Option (List Hn×List Cd×List (List AV×AS×AV)×List AV×AS)
def agE(cd:List Cd)(x:List AV×AS×AV):HT->HT
 |some (hs,cd',t,fr,s)=>some (hs,cd++cd',x::t,fr,s)
 |none=>none
def hTr(P:Program)(G:AP)(ops:Array Oper):List Oper->Nat->List Hn->List AV->AS->HT
 |[],_,hs,fr,s=>some (hs,[],[],fr,s)
 |o::l,q,hs,fr,s=>(match BQ o.op with|true=>agE [] (fr,s,Qj ops fr o q) (hTr P G ops l (q+1) hs (JD fr o.dst (Qj ops fr o q)) s)|false=>(match rL P G ops fr s o hs with|some (v,s1,TD,cd)=>agE cd (fr,s,v) (hTr P G ops l q TD (JD fr o.dst v) s1)|none=>none))
def aOU(q0:Nat):Option AV->Bool
 |some (.el _)=>true
 |some (.ptr id _)=>beG id q0
 |_=>false
def aRK(q0:Nat):Option AV->Bool
 |some (.ptr id _)=>bfD q0 id
 |_=>false
def slV:Option AV->Bool
 |some (.sl _ _ _)=>true
 |some (.sc (.string _))=>true
 |_=>false
def mpV(q0:Nat):Option AV->Bool
 |some (.mp id)=>beG id q0
 |_=>false
def indep(G:AP)(q0:Nat)(fr:List AV)(o:Oper):Bool:=match o.op with
 |.load _ a=>aOU q0 (AO G fr a)
 |.lookup _ m _ _=>mpV q0 (AO G fr m)
 |.store _ a _=>aRK q0 (AO G fr a)
 |.call cl=>(match cl.callee with
  |.value _=>true
  |.builtin .append=>true
  |.builtin .len=>(match cl.args.toList with|[x]=>slV (AO G fr x)|_=>false)
  |_=>quiet o.op)
 |.alloc _=>true
 |op=>quiet op
def Mt(G:AP)(ops:Array Oper)(q0:Nat):List Oper->List (List AV×AS×AV)->Bool
 |o::os,t::ts=>(match Cp ops t.1 o with|false=>Mt G ops q0 os ts|true=>(match indep G q0 t.1 o with|true=>Mt G ops q0 os ts|false=>false))
 |_,_=>true
def wI(q0:Nat)(s s':AS):Prop:=∀id,id < q0->s'.get id=s.get id
def Hf{id SI:Nat}{b:AF}(h:SI≠id):∀(l:List (Nat×AF)),look SI (wH id b l)=look SI l
 |[]=>rfl
 |e::l=>by
  simp only[wH];split;rename_i hb;have hb:=beq_true hb;simp only[look]
  have h1:bcA id SI=false:=by cases hq:bcA id SI with|true=>exact absurd (beq_true hq).symm h|false=>rfl
  rw[hb,h1];simp only[look,Hf h l]
section
variable {P:Program}{G:AP}{ops:Array Oper}
def awB{q0:Nat}{fr:List AV}{s s1:AS}{o:Oper}{hs hs':List Hn}{v:AV}{cd:List Cd}(h:kB P G ops fr s o hs=some (v,s1,hs',cd))(hA:RY o.op=true->nY hs=false)(hi:Cp ops fr o=true->indep G q0 fr o=true)(hc:SO P G cd)(ha:BQ o.op=false):wI q0 s s1:=by
 intro id hid;have hj:=Qo h hc;cases hq:quiet o.op with
 |true=>rw[(J9 hq hj).1]
 |false=>
  unfold kB at h;split at h;rename_i hw;have hi:=hi hw;unfold indep at hi;split at hi;rename_i t a ho;rw[ho] at hq;cases hq;rename_i t m k ok ho;rw[ho] at hq;cases hq;rename_i t a x ho;unfold hDo at h;rw[ho] at h;simp only at h
  have h1:∃a' x',A3 G fr a=some a'/\A3 G fr x=some x'/\Mn P s t a' x'=some s1:=by
   rcases Yb h hc with ⟨a',x',h2,h3,h4,_⟩ | h2
   exact⟨a',x',h2,h3,h4⟩;have h1:=Ya h2;rw[N9] at h1;unfold RJ at h1;rw[ho] at h1;simp only at h1;split at h1;rename_i a' x' ha' dN;obtain⟨s',E5,he⟩:=map_some h1;injection he with he1 he2
   subst he2;exact⟨a',x',ha',dN,E5⟩;cases h1
  rw[Cm] at hi;obtain⟨a',x',ha',dN,E5⟩:=h1;rw[ha'] at hi;unfold aRK at hi;split at hi;rename_i SI off QT;cases QT;unfold Mn at E5;split at E5;rename_i i id2 aYF hi2 amT;cases amT;split at E5;split at E5;cases E5;have:=aUX hi;exact Hf (by omega) _;cases E5;split at E5;cases E5;split at E5;cases E5;have:=aUX hi;exact Hf (by omega) _;cases E5;cases E5;cases E5;cases hi;rename_i cl ho;split at hi;rename_i f Ib;unfold hDo at h;rw[ho] at h;simp only[Ib] at h;unfold cW at h;split at h;split at h;cases h;rfl;cases h;have:=hA (by rw[ho];simp[RY,Ib]);simp[nY] at this;have:=hA (by rw[ho];simp[RY,Ib]);simp[nY] at this;have:=hA (by rw[ho];simp[RY,Ib]);simp[nY] at this;cases h;rename_i Ib;unfold hDo at h;rw[ho] at h;simp only[Ib] at h;have no:=hA (by rw[ho];simp[RY,Ib]);split at h;split at h;split at h;unfold alZ at h;split at h;simp[nY] at no;simp[nY] at no;cases h;rfl;cases h;rfl;split at h;cases h;rfl;split at h;split at h;cases h;rfl;cases h;cases h;cases h;cases h;cases h;cases h;cases h;rename_i Ib;rw[ho] at hq;simp[quiet,Ib] at hq;rw[ho] at hq;rw[ho,hq] at hi;cases hi;rename_i e ho;rw[ho] at ha;cases ha;rw[hq] at hi;cases hi;cases h;rfl
def wI.refl(q0:Nat)(s:AS):wI q0 s s:=λ_ _=>rfl
def wI.trans{q0:Nat}{a b c:AS}(h:wI q0 a b)(k:wI q0 b c):wI q0 a c:=λid hid=>(k id hid).trans (h id hid)
def aHP{q0:Nat}{l:List Oper}{q:Nat}{hs hs':List Hn}{fr Cj:List AV}{s s':AS}{cd:List Cd}{t:List (List AV×AS×AV)}(h:hTr P G ops l q hs fr s=some (hs',cd,t,Cj,s'))(hc:SO P G cd)(hi:Mt G ops q0 l t=true) :
   UG P G (XS P G) H0 ops q l fr s t Cj s'/\(∀x∈t,wI q0 s x.2.1)/\wI q0 s s':=by
 induction l generalizing q hs fr s cd t with
 |nil=>simp only[hTr] at h;cases h;exact⟨.nil,(λx hx=>by cases hx),wI.refl _ _⟩
 |cons o l ih=>
  simp only[hTr] at h;cases ha:BQ o.op with
  |true=>
   rw[ha] at h;simp only at h;unfold agE at h;split at h;rename_i kG cd2 t2 G5 s2 h2;cases h
   have hi2:Mt G ops q0 l t2=true:=by simp only[Mt] at hi;split at hi;exact hi;split at hi;exact hi;cases hi
   obtain⟨k1,k2,k3⟩:=ih h2 (hc.X1).2 hi2;refine⟨.alloc ha k1,λx hx=>?_,k3⟩;rcases bbG.1 hx with rfl | hx
   exact wI.refl _ _;exact k2 x hx;cases h
  |false=>
   rw[ha] at h;simp only at h;split at h;rename_i v s1 TD cd1 h1;unfold agE at h;split at h;rename_i kG cd2 t2 G5 s2 h2;cases h;obtain⟨c1,c2⟩:=hc.X1
   have hi1:Cp ops fr o=true->indep G q0 fr o=true:=by intro hw;simp only[Mt,hw] at hi;split at hi;assumption;cases hi
   have hi2:Mt G ops q0 l t2=true:=by simp only[Mt] at hi;split at hi;exact hi;split at hi;exact hi;cases hi
   have hf:=awB (Us h1).1 (cX h1).2 hi1 c1 ha;obtain⟨k1,k2,k3⟩:=ih h2 c2 hi2;refine⟨.cons ha (Qo (Us h1).1 c1) k1,λx hx=>?_,hf.trans k3⟩;rcases bbG.1 hx with rfl | hx
   exact wI.refl _ _;exact hf.trans (k2 x hx);cases h;cases h
def agL{q0:Nat}{os:List Oper}{ts:List (List AV×AS×AV)}(h:Mt G ops q0 os ts=true){i:Nat}{o:Oper}{x:List AV×AS×AV}(ho:os[i]?=some o)(hx:ts[i]?=some x)(hw:Cp ops x.1 o=true):indep G q0 x.1 o=true:=by
 induction os generalizing ts i with
 |nil=>simp at ho
 |cons y os ih=>
  cases ts with
  |nil=>simp at hx
  |cons t ts=>
   simp only[Mt] at h;cases i with
   |zero=>
    simp at ho hx;subst ho hx;rw[hw] at h;simp only at h;split at h;assumption;cases h
   |succ i=>
    have h2:Mt G ops q0 os ts=true:=by split at h;exact h;split at h;exact h;cases h
    exact ih h2 (by simpa using ho) (by simpa using hx)
def alO{q0:Nat}{fr:List AV}{s0 s s2:AS}{o:Oper}{v:AV}(hq:quiet o.op=true)(hr:reads o.op=true)(hi:indep G q0 fr o=true)(h1:wI q0 s0 s)(h2:wI q0 s0 s2)(h:RJ P G fr s o=some (.val v s)):RJ P G fr s2 o=some (.val v s2):=by
 unfold indep at hi;split at hi;rename_i t a ho;rw[Cm] at hi;unfold RJ at h ⊢;rw[ho] at h ⊢;simp only at h ⊢;obtain⟨v',h3,h4⟩:=map_some h;injection h4 with h4
 subst h4;obtain⟨b,h5,h6⟩:=bind_some h3;rw[h5] at hi ⊢;unfold aOU at hi;split at hi;rename_i QT;cases QT;simp only[TC];rw[show Lf P s2 t (.el _)=Lf P s t (.el _) from rfl,h6];rfl;rename_i id off QT;cases QT;have hid:id < q0:=aUX hi
 have:Lf P s2 t (.ptr id off)=Lf P s t (.ptr id off):=by simp only[Lf];rw[h2 id hid,h1 id hid]
 simp only[TC];rw[this,h6];rfl;cases hi
 ·rename_i t m k ok ho
  rw[Cm] at hi;unfold RJ at h ⊢;rw[ho] at h ⊢;simp only at h ⊢;unfold mpV at hi;split at hi
  ·rename_i id QT
   have hid:id < q0:=aUX hi;rw[QT] at h ⊢;cases hk:A3 G fr k with
   |none=>rw[hk] at h;cases h
   |some b=>
    rw[hk] at h;simp only at h ⊢;obtain⟨v',h3,h4⟩:=map_some h;injection h4 with h4
    subst h4
    have:IR P s2 t (.mp id) b ok=IR P s t (.mp id) b ok:=by unfold IR;simp only;rw[h2 id hid,h1 id hid]
    rw[this,h3];rfl
  cases hi
 rename_i t a x ho;rw[ho] at hq;cases hq
 ·rename_i cl ho
  split at hi;rename_i f Ib;rw[ho] at hq;simp[quiet,Ib] at hq;rename_i Ib;rw[ho] at hq;simp[quiet,Ib] at hq
  ·rename_i Ib
   unfold RJ at h ⊢;rw[ho] at h ⊢;simp only[U9,Ib] at h ⊢;split at hi
   ·rename_i x hx
    rw[hx] at h ⊢;cases ht:cl.argTypes.toList with
    |nil=>rw[ht] at h;cases h
    |cons t1 ts=>
     cases ts with
     |cons _ _=>rw[ht] at h;cases h
     |nil=>
      rw[ht] at h;simp only at h ⊢;obtain⟨v',h3,h4⟩:=map_some h;injection h4 with h4
      subst h4;obtain⟨b,h5,h6⟩:=bind_some h3;rw[Cm,h5] at hi;rw[h5];simp only[TC]
      have:Zx P s2 t1 b=Zx P s t1 b:=by
       unfold slV at hi;split at hi
       ·rename_i QT;cases QT;unfold Zx;split<;>first | rfl | (simp_all;done)
       ·rename_i QT;cases QT;unfold Zx;split<;>first | rfl | (simp_all;done)
       cases hi
      rw[this,h6];rfl
   cases hi
  ·rename_i hn1 hn2
   rw[ho] at hr;unfold reads at hr;simp only at hr
   first
    |(cases hr;done)
    | (split at hr
       rename_i Ib;exact absurd Ib hn2;cases hr)
 rename_i e ho;rw[ho] at hq;cases hq;rename_i hn1 hn2 hn3 hn4 hn5;exfalso;unfold reads at hr;split at hr;rename_i ho;exact hn1 _ _ ho;rename_i ho;exact hn2 _ _ _ _ ho;rename_i ho;exact hn4 _ ho;cases hr
def akZ{id:Nat}{fr Cj:List AV}{s s':AS}{r:List AF}{t:List (List AV×AS×AV)}{hs hs':List Hn}{cd:List Cd}(Hz:Nb ops=true)(hr:rsv P ops.toList=some r)(h:hTr P G ops ops.toList s.nx hs fr (s.hold r)=some (hs',cd,t,Cj,s'))(hc:SO P G cd)(hi:Mt G ops s.nx ops.toList t=true)(anR:aX P ops t s' s.nx r=true):J P G (XS P G) H0 (.code (.region id ops true) fr s .normal Cj s'):=by
 obtain⟨htr,aVI,aPW⟩:=aHP h hc hi;have hlen:t.length=ops.size:=by rw[htr.len,bbN]
 have hfk:∀k,wI s.nx (s.hold r) (FD t s' k):=by intro k;unfold FD;split;rename_i x hx;exact aVI x (aUV hx);exact aPW
 obtain⟨h0,Y5⟩:=htr.at;have xN:∀i o,ops[i]?=some o->B8 ops i=o.dst:=λi o ho=>by unfold B8;rw[ho];rfl
 obtain⟨dC,dD⟩:=htr.nC (B8 ops) (KQ t) fr 0 rfl (λi o ho=>by rw[aUU];exact xN i o (by rw[<- bbE];exact ho)) (λi=>.inl (by rw[aUU]));rw[aUU,bbN] at dC
 have GC:∀(i:Nat)(o:Oper),ops[i]?=some o->BQ o.op=false->J P G (XS P G) H0 (.op ops o (IL fr (B8 ops) (KQ t) (λ_=>true) i) (FD t s' i) (.ret (KQ t i)) (FD t s' (i+1))):=by
  intro i o ho vZ;obtain⟨fi,h1,h2⟩:=Y5 i o (B5 ho);have:=dD i _ h1;simp only[aUU] at this;rcases h2 with ⟨_,h2⟩ | ⟨h2,_⟩
  rw[<- this];exact h2;rw[vZ] at h2;cases h2
 have aPM:∀(i:Nat)(o:Oper),ops[i]?=some o->BQ o.op=true->FD t s' (i+1)=FD t s' i/\KQ t i=Qj ops (IL fr (B8 ops) (KQ t) (λ_=>true) i) o (s.nx+rk ops i):=by
  intro i o ho nX;obtain⟨fi,h1,h2⟩:=Y5 i o (B5 ho);have:=dD i _ h1;simp only[aUU] at this;rcases h2 with ⟨h2,_⟩ | ⟨_,h2⟩
  rw[nX] at h2;cases h2;rw[<- this];exact h2
 have vZ:∀o:Oper,quiet o.op=true->BQ o.op=false:=by intro o hq;cases nX:BQ o.op with|false=>rfl|true=>obtain⟨e,he⟩:=K4 nX;rw[SG he] at hq;cases hq
 have hnl:∀o:Oper,calm o.op=false->BQ o.op=false:=by intro o hq;cases nX:BQ o.op with|false=>rfl|true=>unfold calm at hq;rw[nX] at hq;cases hq
 have hsn:FD t s' ops.size=s':=by unfold FD;rw[bcK (by omega)]
 have hsk:∀k,k<=ops.size->(t.map (λx=>x.2.1)++[s'])[k]?=some (FD t s' k):=by
  intro k hk;unfold FD;by_cases hkt:k < t.length;rw[aUY (by simpa using hkt),bbS,atS hkt];rfl
  have:k=t.length:=by omega
  subst this;rw[bcF (by simp)];simp
 have abX:∀l,l∈Og ops.toList 0->eE ops l:=by intro l hl;obtain⟨j,o',e,h5,h6⟩:=oC hl;rw[aUU] at e;subst e;exact⟨o',by rw[<- bbE];exact h5,h6⟩
 have key:=J.draw (P:=P) (G:=G) (X:=XS P G) (H:=H0) (id:=id) (f0:=fr) (s0:=s) r (KQ t) (FD t s') h0 Hz (λi o ho hl=>GC i o ho (hnl o hl)) (λi o ho hq=>by
  obtain⟨h1,h2⟩:=J9 hq (GC i o ho (vZ o hq));refine⟨h1,?_⟩;rcases h2 with h2 | ⟨hw,h2⟩
  exact .inl h2
  ·refine .inr ⟨hw,λk hk iN=>?_⟩
   cases hrd:reads o.op with
   |false=>exact VX hq hrd h2 _
   |true=>
    obtain⟨fi,hti,_⟩:=Y5 i o (B5 ho);have hfi:=dD i _ hti;simp only[aUU] at hfi;have hin:=agL hi (B5 ho) hti (by rw[hfi];exact hw);rw[hfi] at hin;exact alO hq hrd hin (hfk i) (hfk k) h2) (λi o e ho he=>by
  have nX:BQ o.op=true:=by rw[he];rfl
  obtain⟨h1,h2⟩:=aPM i o ho nX;refine⟨h1,?_⟩
  have hrk:rk ops i < r.length:=by rw[azC hr];exact zN (B5 ho) nX (by rw[bbN];exact(aHQ.1 ho).1)
  cases hw:Cp ops (IL fr (B8 ops) (KQ t) (λ_=>true) i) o with
  |false=>unfold Qj at h2;rw[hw] at h2;exact .inl ⟨rfl,h2⟩
  |true=>
   unfold Qj at h2;rw[hw] at h2;obtain⟨fi,hti,_⟩:=Y5 i o (B5 ho);have hfi:=dD i _ hti;simp only[aUU] at hfi
   have hal:Vs P ops (Im ops.toList []) (Og ops.toList 0) (t.map (·.2.1)++[s']) ops.toList t 0 s.nx=true:=by unfold aX at anR;split at anR;simp at hrk;exact anR
   obtain⟨z,hz,hbx⟩:=afI hal (B5 ho) hti he (by rw[hfi];exact hw);rw[aUU] at hbx;exact .inr ⟨rfl,z,hz,hrk,h2,λk hk iN=>afP hbx (hsk k hk) (by rw[aUU];exact aBU abX iN)⟩)
 rw[<- dC,hsn] at key;exact key
end
def agF(P:Program)(G:AP)(ops:Array Oper)(c:Nat):List Oper->Nat->List Hn->List AV->AS->HT
 |[],_,hs,fr,s=>some (hs,[],[],fr,s)
 |o::l,i,hs,fr,s=>(match (match bcA i c with|true=>kB P G ops fr s o hs|false=>rL P G ops fr s o hs) with|some (v,s1,TD,cd)=>agE cd (fr,s,v) (agF P G ops c l (i+1) TD (JD fr o.dst v) s1)|none=>none)
def W8(ms:List Nat)(c:Nat):List Oper->Nat->Bool
 |[],_=>true
 |o::l,i=>(match bcA i c with|true=>!calm o.op|false=>(match OX o.op with|true=>beG i c|false=>quiet o.op&&(!reads o.op||(beG i c&&Um ms c i))))&&W8 ms c l (i+1)
section
variable {P:Program}{G:AP}{ops:Array Oper}
def dU{ms:List Nat}{c:Nat}:∀{l:List Oper}{i j:Nat}{o:Oper},W8 ms c l i=true->l[j]?=some o->(i+j=c->calm o.op=false)/\(i+j≠c->(OX o.op=true/\i+j < c)\/(quiet o.op=true/\(reads o.op=true->i+j < c/\Um ms c (i+j)=true))):=by
 intro l
 induction l with
 |nil=>intro i j o h ho;simp at ho
 |cons x l ih=>
  intro i j o h ho;simp only[W8,aUR] at h;cases j with
  |zero=>
   simp at ho;subst ho;have h1:=h.1;split at h1;rename_i hb;have:=bcI hb;exact⟨λ_=>by simpa using h1,λhn=>absurd this hn⟩
   rename_i hb;have:=beO hb;refine⟨λhn=>absurd hn this,λ_=>?_⟩;split at h1;rename_i hv;exact .inl ⟨hv,aUX h1⟩;simp only[aUR,Bool.or_eq_true,Bool.not_eq_true'] at h1;refine .inr ⟨h1.1,λhr=>?_⟩;rcases h1.2 with h2 | h2
   rw[hr] at h2;cases h2;exact⟨aUX h2.1,h2.2⟩
  |succ j=>
   have:=ih (i:=i+1) (j:=j) h.2 (by simpa using ho)
   rw[show i+(j+1)=i+1+j by omega];exact this
def Zg{ms:List Nat}{c:Nat}{l:List Oper}{i j:Nat}{o:Oper}(hl:W8 ms c l i=true)(hj:l[j]?=some o):BQ o.op=false:=by
 have ho:=dU hl hj;cases ha:BQ o.op with
 |false=>rfl
 |true=>
  obtain⟨e,he⟩:=K4 ha;by_cases hic:i+j=c;have:=ho.1 hic;unfold calm at this;rw[ha] at this;simp at this;rcases ho.2 hic with ⟨h1,_⟩ | ⟨h1,_⟩
  rw[he] at h1;cases h1;rw[SG he] at h1;cases h1
def awC{fr:List AV}{s s1:AS}{o:Oper}{hs hs':List Hn}{v:AV}{cd:List Cd}(h:kB P G ops fr s o hs=some (v,s1,hs',cd))(hv:OX o.op=true)(hA:nY hs=false):s1=s:=by unfold kB at h;split at h;unfold OX at hv;split at hv;rename_i cl ho;split at hv;rename_i f Ib;unfold hDo at h;rw[ho] at h;simp only[Ib] at h;unfold cW at h;split at h;split at h;cases h;rfl;cases h;simp[nY] at hA;simp[nY] at hA;simp[nY] at hA;cases h;cases hv;cases hv;cases h;rfl
def awI{c q:Nat}{ms:List Nat}:∀{l:List Oper}{i:Nat}{hs hs':List Hn}{fr Cj:List AV}{s s':AS}{cd:List Cd}{t:List (List AV×AS×AV)},agF P G ops c l i hs fr s=some (hs',cd,t,Cj,s')->SO P G cd->W8 ms c l i=true->UG P G (XS P G) H0 ops q l fr s t Cj s'/\∀j,j<=l.length->i+j<=c->FD t s' j=s:=by
 intro l
 induction l with
 |nil=>
  intro i hs hs' fr Cj s s' cd t h hc hl;simp only[agF] at h;cases h;exact⟨.nil,λj hj _=>by rfl⟩
 |cons o l ih=>
  intro i hs hs' fr Cj s s' cd t h hc hl;simp only[agF] at h;split at h
  ·rename_i v s1 TD cd1 h1
   unfold agE at h;split at h
   ·rename_i kG cd2 t2 G5 s2 h2
    cases h;obtain⟨c1,c2⟩:=hc.X1;have ho:=dU (j:=0) hl rfl;have vZ:BQ o.op=false:=Zg (j:=0) hl rfl
    have hl2:W8 ms c l (i+1)=true:=by simp only[W8,aUR] at hl;exact hl.2
    have h3:kB P G ops fr s o hs=some (v,s1,TD,cd1):=by split at h1;exact h1;exact(Us h1).1
    have hj:=Qo h3 c1;obtain⟨k1,k2⟩:=ih h2 c2 hl2;refine⟨.cons vZ hj k1,λj hjl hjc=>?_⟩;cases j with
    |zero=>rfl
    |succ j=>
     have e1:FD ((fr,s,v)::t2) s' (j+1)=FD t2 s' j:=by unfold FD;simp
     rw[e1,k2 j (by simpa using hjl) (by omega)]
     have hic:i+0≠c:=by omega
     rcases ho.2 hic with ⟨hv,_⟩ | ⟨hq,_⟩
     split at h1;rename_i hb;have:=bcI hb;omega;exact awC h3 hv ((Us h1).2 hv);exact(J9 hq hj).1
   cases h
  cases h
def afY{id c:Nat}{fr Cj:List AV}{s s':AS}{t:List (List AV×AS×AV)}{hs hs':List Hn}{cd:List Cd}(Hz:Nb ops=true)(hcs:beG c ops.size=true)(hl:W8 (Im ops.toList []) c ops.toList 0=true)(h:agF P G ops c ops.toList 0 hs fr s=some (hs',cd,t,Cj,s'))(hc:SO P G cd):J P G (XS P G) H0 (.code (.region id ops true) fr s .normal Cj s'):=by
 have Ib:c < ops.size:=aUX hcs;obtain⟨htr,hsm⟩:=awI (q:=s.nx) h hc hl;have hlen:t.length=ops.size:=by rw[htr.len,bbN]
 obtain⟨h0,Y5⟩:=htr.at;have xN:∀i o,ops[i]?=some o->B8 ops i=o.dst:=λi o ho=>by unfold B8;rw[ho];rfl
 obtain⟨dC,dD⟩:=htr.nC (B8 ops) (KQ t) fr 0 rfl (λi o ho=>by rw[aUU];exact xN i o (by rw[<- bbE];exact ho)) (λi=>.inl (by rw[aUU]));rw[aUU,bbN] at dC
 have aCY:∀(i:Nat)(o:Oper),ops[i]?=some o->(i=c->calm o.op=false)/\(i≠c->(OX o.op=true/\i < c)\/(quiet o.op=true/\(reads o.op=true->i < c/\Um (Im ops.toList []) c i=true))):=by intro i o ho;have:=dU (j:=i) hl (B5 ho);rwa[aUU] at this
 have anL:∀(i:Nat)(o:Oper),ops[i]?=some o->BQ o.op=false:=λi o ho=>Zg (j:=i) hl (B5 ho)
 have GC:∀(i:Nat)(o:Oper),ops[i]?=some o->J P G (XS P G) H0 (.op ops o (IL fr (B8 ops) (KQ t) (λ_=>true) i) (FD t s' i) (.ret (KQ t i)) (FD t s' (i+1))):=by
  intro i o ho;obtain⟨fi,h1,h2⟩:=Y5 i o (B5 ho);have:=dD i _ h1;simp only[aUU] at this;rcases h2 with ⟨_,h2⟩ | ⟨h2,_⟩
  rw[<- this];exact h2;rw[anL i o ho] at h2;cases h2
 have hsn:FD t s' ops.size=s':=by unfold FD;rw[bcK (by omega)]
 have rX:∀k,k<=c->FD t s' k=s:=λk hk=>hsm k (by rw[bbN];omega) (by omega)
 have abX:eE ops c:=by have ho:ops[c]?=some ops[c]:=bcU Ib;exact⟨_,ho,(aCY c _ ho).1 rfl⟩
 have key:=J.draw (P:=P) (G:=G) (X:=XS P G) (H:=H0) (id:=id) (f0:=fr) (s0:=s) [] (KQ t) (FD t s') h0 Hz (λi o ho _=>GC i o ho) (λi o ho hq=>by
  obtain⟨h1,h2⟩:=J9 hq (GC i o ho);refine⟨h1,?_⟩;rcases h2 with h2 | ⟨hw,h2⟩
  exact .inl h2
  ·refine .inr ⟨hw,λk hk iN=>?_⟩
   cases hrd:reads o.op with
   |false=>exact VX hq hrd h2 _
   |true=>
    have hic:i≠c:=λe=>by
     subst e;obtain⟨o2,ho2,hcm⟩:=abX;rw[ho] at ho2;cases ho2;rw[cD hq] at hcm;cases hcm
    obtain⟨hlt,hd⟩:i < c/\Um (Im ops.toList []) c i=true:=by
     rcases(aCY i o ho).2 hic with ⟨hv,_⟩ | ⟨_,h3⟩
     exfalso;unfold OX at hv;split at hv;rename_i cl WW;split at hv;rename_i f aVD;rw[WW] at hq;simp[quiet,aVD] at hq;cases hv;cases hv;exact h3 hrd
    have hkc:=iN.2 c abX hd;rw[rX k hkc];rw[rX i (by omega)] at h2;exact h2) (λi o e ho he=>by
  have:=anL i o ho;rw[he] at this;cases this)
 rw[<- dC,hsn] at key;exact key
end
def asV(G:AP)(fr:List AV)(o:Oper)(hs:List Hn):Option (List Nat):=match o.op with
 |.store _ a _=>(match A3 G fr a with|some (.ptr id _)=>some [id]|_=>none)
 |.mapUpdate _ m _ _=>(match AO G fr m with|some (.mp id)=>some [id]|_=>none)
 |.call cl=>(match cl.callee with
  |.value _=>(match hs with|.w _::_=>some []|.u _ _ _ Sz _::_=>some (Sz.map (·.1))|.cn _ h _ _ _::_=>some (h.map (·.1))|_=>none)
  |.builtin .append=>(match hs with|.g _ _ _::_=>some []|.ae _::_=>some []|_=>none)
  |_=>(match quiet o.op with|true=>some []|false=>none))
 |op=>(match quiet op with|true=>some []|false=>none)
def fZ(G:AP)(ops:Array Oper)(fr:List AV)(o:Oper)(hs:List Hn):Option (List Nat):=match Cp ops fr o with|true=>asV G fr o hs|false=>some []
abbrev HA:=Option (List Hn×List Cd×List (List AV×AS×AV)×List (List Nat)×List AV×AS)
def aCX(cd:List Cd)(x:List AV×AS×AV)(T:List Nat):HA->HA
 |some (hs,cd',t,Ts,fr,s)=>some (hs,cd++cd',x::t,T::Ts,fr,s)
 |none=>none
def agD(P:Program)(G:AP)(ops:Array Oper):List Oper->List Hn->List AV->AS->HA
 |[],hs,fr,s=>some (hs,[],[],[],fr,s)
 |o::l,hs,fr,s=>(match BQ o.op with
  |true=>none
  |false=>(match fZ G ops fr o hs with
   |some T=>(match kB P G ops fr s o hs with|some (v,s1,TD,cd)=>aCX cd (fr,s,v) T (agD P G ops l TD (JD fr o.dst v) s1)|none=>none)
   |none=>none))
def ayL(G:AP)(fr:List AV)(o:Oper):Option (Option Nat):=match o.op with
 |.load _ a=>(match AO G fr a with|some (.ptr id _)=>some (some id)|some (.el _)=>some none|_=>none)
 |.lookup _ m _ _=>(match AO G fr m with|some (.mp id)=>some (some id)|_=>none)
 |.call cl=>(match cl.callee with
  |.builtin .len=>(match cl.args.toList with
   |[x]=>(match slV (AO G fr x) with|true=>some none|false=>none)
   |_=>none)
  |_=>none)
 |_=>none
def aoX(a:Nat):List Nat->Bool
 |[]=>false
 |b::l=>(match bcA a b with|true=>true|false=>aoX a l)
def XK(ms:List Nat)(id i:Nat):List (List Nat)->Nat->Bool
 |[],_=>true
 |T::Ts,l=>(match aoX id T with
  |true=>(match beG l i with|true=>Um ms i l|false=>(match beG i l with|true=>Um ms l i|false=>true))
  |false=>true)&&XK ms id i Ts (l+1)
def uA(G:AP)(ops:Array Oper)(ms:List Nat)(Ts:List (List Nat)):List Oper->List (List AV×AS×AV)->Nat->Bool
 |o::os,t::ts,i=>(match Cp ops t.1 o with|false=>true|true=>(match reads o.op with|false=>true|true=>(match ayL G t.1 o with|none=>false|some none=>true|some (some id)=>XK ms id i Ts 0)))&&uA G ops ms Ts os ts (i+1)
 |_,_,_=>true
def sL{a:Nat}:∀{l:List Nat},aoX a l=true↔a∈l
 |[]=>by simp[aoX]
 |b::l=>by
  simp only[aoX];cases hb:bcA a b with
  |true=>have:=bcI hb;simp[this]
  |false=>
   have:=beO hb;simp[sL (l:=l),this]
def vE{id:Nat}:∀(l:List (Nat×AF)) (s:AS),id∉l.map (·.1)->(s.YM l).get id=s.get id
 |[],_,_=>rfl
 |e::l,s,h=>by
  simp only[bcH,bbG,not_or] at h;rw[AS.YM,vE l _ h.2];exact Hf h.1 _
def sH{id:Nat}:∀{l:List (Nat×AF)} (m:List (Nat×AF)),id∉l.map (·.1)->look id (l++m)=look id m
 |[],_,_=>rfl
 |e::l,m,h=>by
  simp only[bcH,bbG,not_or] at h;simp only[bcP,look]
  have hb:bcA e.1 id=false:=by cases hq:bcA e.1 id with|false=>rfl|true=>exact absurd (bcI hq).symm h.1
  rw[hb];exact sH m h.2
def jZ{id:Nat}:∀(l:List (Nat×Nat)) (s:AS),(s.Ve l).get id=s.get id
 |[],_=>rfl
 |e::l,s=>by rw[AS.Ve,jZ l];rfl
section
variable {P:Program}{G:AP}{ops:Array Oper}
def agC{fr:List AV}{s s1:AS}{o:Oper}{hs hs':List Hn}{v:AV}{cd:List Cd}{T:List Nat}(h:kB P G ops fr s o hs=some (v,s1,hs',cd))(hT:fZ G ops fr o hs=some T)(hc:SO P G cd)(ha:BQ o.op=false)(id:Nat)(hid:id∉T):s1.get id=s.get id:=by
 have hj:=Qo h hc;cases hq:quiet o.op with
 |true=>rw[(J9 hq hj).1]
 |false=>
  unfold kB at h;unfold fZ at hT;split at h
  ·rename_i hw
   rw[hw] at hT;simp only at hT;unfold asV at hT;split at hT;rename_i t a x ho;unfold hDo at h;rw[ho] at h;simp only at h
   have h1:∃a' x',A3 G fr a=some a'/\A3 G fr x=some x'/\Mn P s t a' x'=some s1:=by
    rcases Yb h hc with ⟨a',x',h2,h3,h4,_⟩ | h2
    exact⟨a',x',h2,h3,h4⟩;have h1:=Ya h2;rw[N9] at h1;unfold RJ at h1;rw[ho] at h1;simp only at h1;split at h1;rename_i a' x' ha' dN;obtain⟨s',E5,he⟩:=map_some h1;injection he with he1 he2
    subst he2;exact⟨a',x',ha',dN,E5⟩;cases h1
   obtain⟨a',x',ha',dN,E5⟩:=h1;rw[ha'] at hT;split at hT;rename_i SI off QT;cases QT;cases hT;simp only[bbV] at hid;unfold Mn at E5;split at E5;rename_i i id2 aYF hi2 amT;cases amT;split at E5;split at E5;cases E5;exact Hf hid _;cases E5;split at E5;cases E5;split at E5;cases E5;exact Hf hid _;cases E5;cases E5;cases E5;cases hT
   ·rename_i t m k x ho
    unfold hDo at h;rw[ho] at h;simp only at h;split at hT
    ·rename_i SI QT
     rw[QT] at h;cases hT;simp only[bbV] at hid;simp only at h;split at h
     ·split at h
      ·have azL:∀kk x' s2,KT P s t (.mp SI) kk x'=some s2->s2.get id=s.get id:=by
        intro kk x' s2 h2;unfold KT at h2
        repeat' split at h2
        all_goals first
         |(cases h2;done)
         |(rename_i amT;cases amT;cases h2;exact Hf hid _)
         |(simp_all only [AV.mp.injEq,aUQ];subst_vars;exact Hf hid _)
       unfold aHN at h;split at h;cases h;exact azL _ _ _ hc.1;cases h;exact Hf hid _;cases h
      cases h
     cases h
    cases hT
   rename_i cl ho;split at hT;rename_i f Ib;unfold hDo at h;rw[ho] at h;simp only[Ib] at h;unfold cW at h;split at h;split at h;cases h;rfl;cases h;cases hT;split at h;cases h;cases hT;rw[jZ];exact vE _ _ hid;cases h;split at h;cases h;cases hT;exact sH _ hid;cases h;cases h;rename_i Ib;unfold hDo at h;rw[ho] at h;simp only[Ib] at h;split at hT;split at h;split at h;split at h;unfold alZ at h;simp only at h;split at h;cases h;rfl;split at h;split at h;cases h;rfl;cases h;cases h;cases h;cases h;cases h;cases h;split at h;split at h;split at h;unfold alZ at h;simp only at h;cases h;rfl;cases h;cases h;cases h;cases hT;rw[hq] at hT;cases hT;rw[hq] at hT;cases hT
  cases h;rfl
def aaI{fr:List AV}{o:Oper}{hs:List Hn}{T:List Nat}(hT:fZ G ops fr o hs=some T){id:Nat}(h:id∈T)(ha:BQ o.op=false):calm o.op=false:=by
 unfold calm;rw[ha];simp only;cases hq:quiet o.op with
 |false=>rfl
 |true=>
  exfalso;unfold fZ at hT;split at hT;unfold asV at hT;split at hT;rename_i ho;rw[ho] at hq;cases hq;rename_i ho;rw[ho] at hq;cases hq;rename_i cl ho;split at hT;rename_i Ib;rw[ho] at hq;simp[quiet,Ib] at hq;split at hT;cases hT;cases h;cases hT;cases h;cases hT;rw[hq] at hT;cases hT;cases h;rw[hq] at hT;cases hT;cases h;cases hT;cases h
def awH{q:Nat}:∀{l:List Oper}{hs hs':List Hn}{fr Cj:List AV}{s s':AS}{cd:List Cd}{t:List (List AV×AS×AV)}{Ts:List (List Nat)},agD P G ops l hs fr s=some (hs',cd,t,Ts,Cj,s')->SO P G cd ->
 UG P G (XS P G) H0 ops q l fr s t Cj s'/\(∀o∈l,BQ o.op=false)/\(∀(i:Nat) id,i < l.length->(∀T,Ts[i]?=some T->id∉T)->(FD t s' (i+1)).get id=(FD t s' i).get id)/\∀(i:Nat) o T id,l[i]?=some o->Ts[i]?=some T->id∈T->calm o.op=false:=by
 intro l
 induction l with
 |nil=>
  intro hs hs' fr Cj s s' cd t Ts h hc;simp only[agD] at h;cases h;exact⟨.nil,(λo h=>by cases h),(λi id h=>by simp at h),λi o T id h=>by simp at h⟩
 |cons o l ih=>
  intro hs hs' fr Cj s s' cd t Ts h hc;simp only[agD] at h;split at h;cases h
  ·rename_i ha
   split at h
   ·rename_i T hT
    split at h
    ·rename_i v s1 TD cd1 h1
     unfold aCX at h;split at h
     ·rename_i kG cd2 t2 Ts2 G5 s2 h2
      cases h;obtain⟨c1,c2⟩:=hc.X1;obtain⟨k1,k2,k3,k4⟩:=ih h2 c2;refine⟨.cons ha (Qo h1 c1) k1,λo' Y9=>?_,λi id hi hno=>?_,λi o' T' id Y9 hT' hid=>?_⟩;rcases bbG.1 Y9 with rfl | Y9
      exact ha;exact k2 o' Y9
      ·cases i with
       |zero=>
        have e1:FD ((fr,s,v)::t2) s' 0=s:=rfl
        have e2:FD ((fr,s,v)::t2) s' (0+1)=s1:=by rw[show FD ((fr,s,v)::t2) s' (0+1)=FD t2 s' 0 by unfold FD;simp];exact k1.at.1
        rw[e1,e2];exact agC h1 hT c1 ha id (hno T rfl)
       |succ i=>
        have e:∀j,FD ((fr,s,v)::t2) s' (j+1)=FD t2 s' j:=λj=>by unfold FD;simp
        rw[e,e];exact k3 i id (by simpa using hi) (λT' h'=>hno T' (by simpa using h'))
      cases i with|zero=>simp at Y9 hT';subst Y9 hT';exact aaI hT hid ha|succ i=>exact k4 i o' T' id (by simpa using Y9) (by simpa using hT') hid
     cases h
    cases h
   cases h
def fY{ms:List Nat}{id i:Nat}:∀{Ts:List (List Nat)}{l0:Nat},XK ms id i Ts l0=true->∀{l:Nat}{T:List Nat},Ts[l]?=some T->id∈T->(l0+l < i->Um ms i (l0+l)=true)/\(i < l0+l->Um ms (l0+l) i=true):=by
 intro Ts
 induction Ts with
 |nil=>intro l0 _ l T h;simp at h
 |cons T0 Ts ih=>
  intro l0 h l T hT hid;simp only[XK,aUR] at h;cases l with
  |zero=>
   simp at hT;subst hT;have h1:=h.1;rw[sL.2 hid] at h1;simp only at h1;constructor;intro hlt;have e:beG l0 i=true:=bdR hlt;rw[e] at h1;exact h1;intro hlt
   have e:beG l0 i=false:=by cases hq:beG l0 i with|false=>rfl|true=>have:=aUX hq;omega
   have e2:beG i l0=true:=bdR hlt;rw[e,e2] at h1;exact h1
  |succ l=>
   have:=ih h.2 (l:=l) (by simpa using hT) hid
   rw[show l0+(l+1)=l0+1+l by omega];exact this
def aqN{ms:List Nat}{Ts:List (List Nat)}:∀{os:List Oper}{ts:List (List AV×AS×AV)}{i:Nat},uA G ops ms Ts os ts i=true->∀{j:Nat}{o:Oper}{x:List AV×AS×AV},os[j]?=some o->ts[j]?=some x->Cp ops x.1 o=true->reads o.op=true->∃r,ayL G x.1 o=some r/\∀id,r=some id->XK ms id (i+j) Ts 0=true:=by
 intro os
 induction os with
 |nil=>intro ts i _ j o x h;simp at h
 |cons y os ih=>
  intro ts i h j o x ho hx hw hr;cases ts with
  |nil=>simp at hx
  |cons t ts=>
   simp only[uA,aUR] at h;cases j with
   |zero=>
    simp at ho hx;subst ho hx;have h1:=h.1;rw[hw,hr] at h1;simp only at h1;split at h1;cases h1;rename_i hq;exact⟨none,hq,λid h=>by cases h⟩;rename_i id hq;exact⟨some id,hq,λSI h=>by cases h;exact h1⟩
   |succ j=>
    have:=ih h.2 (j:=j) (by simpa using ho) (by simpa using hx) hw hr
    rw[show i+(j+1)=i+1+j by omega];exact this
def ayM{fr:List AV}{s s2:AS}{o:Oper}{v:AV}{r:Option Nat}(hr:ayL G fr o=some r)(hs:∀id,r=some id->s2.get id=s.get id)(h:RJ P G fr s o=some (.val v s)):RJ P G fr s2 o=some (.val v s2):=by
 unfold ayL at hr;split at hr;rename_i t a ho;rw[Cm] at hr;unfold RJ at h ⊢;rw[ho] at h ⊢;simp only at h ⊢;obtain⟨v',h3,h4⟩:=map_some h;injection h4 with h4
 subst h4;obtain⟨b,h5,h6⟩:=bind_some h3;rw[h5] at hr ⊢;split at hr;rename_i id off QT;cases QT;cases hr
 have:Lf P s2 t (.ptr id off)=Lf P s t (.ptr id off):=by simp only[Lf];rw[hs id rfl]
 simp only[TC];rw[this,h6];rfl;rename_i QT;cases QT;simp only[TC];rw[show Lf P s2 t (.el _)=Lf P s t (.el _) from rfl,h6];rfl;cases hr;rename_i t m k ok ho;rw[Cm] at hr;unfold RJ at h ⊢;rw[ho] at h ⊢;simp only at h ⊢;split at hr;rename_i id QT;cases hr;rw[QT] at h ⊢;split at h;rename_i a b ha hb;cases ha;obtain⟨v',h3,h4⟩:=map_some h;injection h4 with h4
 subst h4
 have:IR P s2 t (.mp id) b ok=IR P s t (.mp id) b ok:=by simp only[IR];rw[hs id rfl]
 rw[this,h3];rfl;cases h;cases hr
 ·rename_i cl ho
  split at hr
  ·rename_i Ib
   unfold RJ at h ⊢;rw[ho] at h ⊢;simp only[U9,Ib] at h ⊢;split at hr
   ·rename_i x hx
    rw[hx] at h ⊢;cases ht:cl.argTypes.toList with
    |nil=>rw[ht] at h;cases h
    |cons t1 ts=>
     cases ts with
     |cons _ _=>rw[ht] at h;cases h
     |nil=>
      rw[ht] at h;simp only at h ⊢;obtain⟨v',h3,h4⟩:=map_some h;injection h4 with h4
      subst h4;obtain⟨b,h5,h6⟩:=bind_some h3;rw[Cm,h5] at hr;rw[h5];simp only[TC];split at hr
      ·rename_i hsl
       have:Zx P s2 t1 b=Zx P s t1 b:=by
        unfold slV at hsl;split at hsl
        ·rename_i QT;cases QT;unfold Zx;split<;>first | rfl | (simp_all;done)
        ·rename_i QT;cases QT;unfold Zx;split<;>first | rfl | (simp_all;done)
        cases hsl
       rw[this,h6];rfl
      cases hr
   cases hr
  cases hr
 cases hr
def akX{id:Nat}{fr Cj:List AV}{s s':AS}{t:List (List AV×AS×AV)}{Ts:List (List Nat)}{hs hs':List Hn}{cd:List Cd}(Hz:Nb ops=true)(h:agD P G ops ops.toList hs fr s=some (hs',cd,t,Ts,Cj,s'))(hr:uA G ops (Im ops.toList []) Ts ops.toList t 0=true)(hc:SO P G cd):J P G (XS P G) H0 (.code (.region id ops true) fr s .normal Cj s'):=by
 obtain⟨htr,vZ,E5,hlo⟩:=awH (q:=s.nx) h hc;have hlen:t.length=ops.size:=by rw[htr.len,bbN]
 obtain⟨h0,Y5⟩:=htr.at;have xN:∀i o,ops[i]?=some o->B8 ops i=o.dst:=λi o ho=>by unfold B8;rw[ho];rfl
 obtain⟨dC,dD⟩:=htr.nC (B8 ops) (KQ t) fr 0 rfl (λi o ho=>by rw[aUU];exact xN i o (by rw[<- bbE];exact ho)) (λi=>.inl (by rw[aUU]));rw[aUU,bbN] at dC;have anL:∀(i:Nat)(o:Oper),ops[i]?=some o->BQ o.op=false:=λi o ho=>vZ o (aUV (B5 ho))
 have GC:∀(i:Nat)(o:Oper),ops[i]?=some o->J P G (XS P G) H0 (.op ops o (IL fr (B8 ops) (KQ t) (λ_=>true) i) (FD t s' i) (.ret (KQ t i)) (FD t s' (i+1))):=by
  intro i o ho;obtain⟨fi,h1,h2⟩:=Y5 i o (B5 ho);have:=dD i _ h1;simp only[aUU] at this;rcases h2 with ⟨_,h2⟩ | ⟨h2,_⟩
  rw[<- this];exact h2;rw[anL i o ho] at h2;cases h2
 have hsn:FD t s' ops.size=s':=by unfold FD;rw[bcK (by omega)]
 have hTl:∀(l:Nat) T id,Ts[l]?=some T->id∈T->l < ops.size->eE ops l:=by intro l T id hT hid hl;exact⟨ops[l],bcU hl,hlo l ops[l] T id (B5 (bcU hl)) hT hid⟩
 have rX:∀(bx:Nat)(d i:Nat),i+d<=ops.size->(∀l,i<=l->l < i+d->∀T,Ts[l]?=some T->bx∉T)->(FD t s' (i+d)).get bx=(FD t s' i).get bx:=by
  intro bx d
  induction d with
  |zero=>intro i _ _;rfl
  |succ d ih=>
   intro i hle hno;rw[show i+(d+1)=(i+d)+1 by omega,E5 (i+d) bx (by rw[bbN];omega) (hno (i+d) (by omega) (by omega))];exact ih i (by omega) (λl h1 h2=>hno l h1 (by omega))
 have key:=J.draw (P:=P) (G:=G) (X:=XS P G) (H:=H0) (id:=id) (f0:=fr) (s0:=s) [] (KQ t) (FD t s') h0 Hz (λi o ho _=>GC i o ho) (λi o ho hq=>by
  obtain⟨h1,h2⟩:=J9 hq (GC i o ho);refine⟨h1,?_⟩;rcases h2 with h2 | ⟨hw,h2⟩
  exact .inl h2
  ·refine .inr ⟨hw,λk hk iN=>?_⟩
   cases hrd:reads o.op with
   |false=>exact VX hq hrd h2 _
   |true=>
    have hil:i < ops.size:=(aHQ.1 ho).1;obtain⟨fi,hti,_⟩:=Y5 i o (B5 ho);have hfi:=dD i _ hti;simp only[aUU] at hfi;obtain⟨r,hr1,hr2⟩:=aqN hr (B5 ho) hti (by rw[hfi];exact hw) hrd;rw[hfi] at hr1;refine ayM hr1 (λbx hbx=>?_) h2;have hto:=hr2 bx hbx;rw[aUU] at hto;rcases bdS k i with hki | hki
    have:=rX bx (i - k) k (by omega) (λl h3 h4 T hT hm=>by
     have hd:=(fY hto hT hm).1 (by omega);rw[aUU] at hd;have:=iN.1 l (hTl l T bx hT hm (by omega)) hd;omega)
    rw[show k+(i - k)=i by omega] at this;exact this.symm
    have:=rX bx (k - i) i (by omega) (λl h3 h4 T hT hm=>by
     have hll:=hTl l T bx hT hm (by omega);rcases bdS i l with h5 | h5
     have hd:=(fY hto hT hm).2 (by omega);rw[aUU] at hd;have:=iN.2 l hll hd;omega;have:l=i:=by omega
     subst this;obtain⟨o2,ho2,hcm⟩:=hll;rw[ho] at ho2;cases ho2;rw[cD hq] at hcm;cases hcm)
    rw[show i+(k - i)=k by omega] at this;exact this) (λi o e ho he=>by
  have:=anL i o ho;rw[he] at this;cases this)
 rw[<- dC,hsn] at key;exact key
end
section
variable {P:Program}{G:AP}{ops:Array Oper}{f0:List AV}{vals:Nat->AV}{s0 s1:AS}{p:Nat}{v:AV}
structure aTS(G:AP)(ops:Array Oper)(f0:List AV)(vals:Nat->AV)(s0:AS)(p:Nat)(vS:Cx)(w0:World)(L:Array Bool)(a:Act)(w:World):Prop where
 size:L.size=ops.size
 closed:OM ops.toList (λj=>L.getD j false)
 st:∃c,Ext vS w0 c w/\St G c w s0/\CF c w (IL f0 (B8 ops) vals (λj=>L.getD j false) ops.size) a.tmps.toList
 defers:a.defers=[]
 out:L.getD p false=false
def alA(Hz:Nb ops=true)(hp:p < ops.size)
   (hl:∀i o,ops[i]?=some o->i≠p->(p < i->Um (Im ops.toList []) i p=false)->Sound P G (.op ops o (IL f0 (B8 ops) vals (λ_=>true) i) s0 (.ret (vals i)) s0))
   (aIL:∀o,ops[p]?=some o->Sound P G (.op ops o (IL f0 (B8 ops) vals (λ_=>true) p) s0 (.pan v) s1))
   {vS:Cx}{w0:World}{Cj:List AV} (Q:Exit->Act->World->Prop) (hQ:∀e' a' w',U8 G vS w0 (.pan v) Cj s1 e' a' w'->Q e' a' w'):
   ∀(fuel:Nat)(L:Array Bool)(a:Act)(w:World),aTS G ops f0 vals s0 p vS w0 L a w->qM (λj=>L.getD j false) ops.size=fuel->wpAny P .any ops Q fuel L a w:=by
 intro fuel
 induction fuel with
 |zero=>
  intro L a w hI hc;have:=qP ops.size hc p hp;rw[hI.out] at this;cases this
 |succ fuel ih=>
  intro L a w hI aVE;refine⟨λnP=>?_,λi hi=>?_⟩
  ·exfalso
   have all:∀i,i < ops.size->L.getD i false=true:=by
    intro i
    induction i using Nat.strongRecOn with
    |_ i ihi=>
     intro hlt;cases pL:L.getD i false with
     |true=>rfl
     |false=>
      exfalso;have ho:ops[i]?=some (ops[i]'hlt):=bcU hlt
      have:=uC hI.size ho pL (λe he hb=>by
       have h1:=sV Hz ho he hb;exact ihi e.on h1 (by omega))
      rw[nP] at this;cases this
   have:=all p hp;rw[hI.out] at this;cases this
  ·obtain⟨o,ho,pL,dI,hlt⟩:=mem_ready hI.size hi
   obtain⟨c,hx,E5,Qq⟩:=hI.st
   have hip:p < i->Um (Im ops.toList []) i p=false:=by
    intro h1;cases hd:Um (Im ops.toList []) i p with
    |false=>rfl
    |true=>
     have:=cF hI.closed (B5 ho) dI hd;rw[hI.out] at this;cases this
   have hMi:(L.setIfInBounds i true).getD i false=true:=by
    have:i < L.size:=by rw[hI.size];exact hlt
    simp[this]
   have hMn:∀j,j≠i->(L.setIfInBounds i true).getD j false=L.getD j false:=by intro j hj;simp only[bcL];rw[Array.getElem?_setIfInBounds_ne (λe=>hj e.symm)]
   have hle:∀j,L.getD j false=true->(L.setIfInBounds i true).getD j false=true:=by intro j hj;by_cases e:j=i;subst e;exact hMi;rw[hMn j e];exact hj
   have dA:OM ops.toList (λj=>(L.setIfInBounds i true).getD j false):=by
    intro j y hy hj e he hb;by_cases ej:j=i;subst ej;rw[B5 ho] at hy;cases hy;exact hle _ (dI e he hb);have hj2:L.getD j false=true:=by rw[<- hMn j ej];exact hj
    exact hle _ (hI.closed j y hy hj2 e he hb)
   have amR:qM (λj=>(L.setIfInBounds i true).getD j false) ops.size=fuel:=by have:=(abK (L:=λj=>L.getD j false) (M:=λj=>(L.setIfInBounds i true).getD j false) pL hMi hMn ops.size).1 hlt;omega
   have aIN:=abQ (f0:=f0) (vals:=vals) (L:=λj=>L.getD j false) (M:=λj=>(L.setIfInBounds i true).getD j false) Hz hI.closed ho pL hMi hMn
   have rY:∀x∈o.op.operands,iB G c w (IL f0 (B8 ops) vals (λ_=>true) i) a.eval x:=by
    intro x hxo v hv;cases x with
    |tmp t=>
     have anJ:t∈o.looksAt ops:=by unfold biO;rw[bcE];left;rw[List.mem_filterMap];exact⟨.tmp t,Array.mem_toList_iff.2 hxo,rfl⟩
     have he:=Ur (f0:=f0) (vals:=vals) Hz hI.closed ho pL dI anJ
     have:A3 G (IL f0 (B8 ops) vals (λj=>L.getD j false) ops.size) (.tmp t)=some v:=by rw[<- hv];simp only[A3,bcR,he]
     exact GA E5 Qq this
    |const z=>exact GA (fr:=IL f0 (B8 ops) vals (λj=>L.getD j false) ops.size) E5 Qq hv
    |global g=>exact GA (fr:=IL f0 (B8 ops) vals (λj=>L.getD j false) ops.size) E5 Qq hv
    |func f=>exact GA (fr:=IL f0 (B8 ops) vals (λj=>L.getD j false) ops.size) E5 Qq hv
   have Zb:Cp ops (IL f0 (B8 ops) vals (λ_=>true) i) o=bdX o (yielded ops a.tmps):=by refine OO (c:=c) (w:=w) (λj want hg d hd=>⟨_,Qq,?_⟩);refine Ur Hz hI.closed ho pL dI ?_;unfold biO;rw[bcE];right;rw[hg];simp[hd]
   have nF:PH P ops o (wpAny P .any ops Q fuel (L.setIfInBounds i true)) Q a w->wpOp P ops Q i (wpAny P .any ops Q fuel (L.setIfInBounds i true)) a w:=by intro h;unfold wpOp;rw[ho];unfold PH at h;simp only;split;rename_i hw;rw[if_pos hw] at h;exact .inl h;rename_i hw;rw[if_neg hw] at h;exact h
   refine nF ?_;by_cases hpe:i=p;subst hpe;refine aIL o ho c w a _ _ E5 rY Zb ?_;intro u w' c' dN Qu hu;exact hQ _ _ _ ⟨c',hx.trans dN,Qu,hI.defers,u,rfl,hu⟩;refine hl i o ho hpe hip c w a _ _ E5 rY Zb ?_;intro u w' c' dN Qu hu;refine ih _ _ _ ⟨by simp[hI.size],dA,⟨c',hx.trans dN,Qu,?_⟩,by cases o.dst<;>exact hI.defers,?_⟩ amR
   rw[aIN];exact Ui (Qq.mono dN) hu;rw[hMn p (λe=>hpe e.symm)];exact hI.out
def zJ(hm:P.follows .mixedOrders=true){id:Nat}{Cj:List AV}(Hz:Nb ops=true)(hp:p < ops.size)
   (hl:∀i o,ops[i]?=some o->i≠p->(p < i->Um (Im ops.toList []) i p=false)->Sound P G (.op ops o (IL f0 (B8 ops) vals (λ_=>true) i) s0 (.ret (vals i)) s0))
   (aIL:∀o,ops[p]?=some o->Sound P G (.op ops o (IL f0 (B8 ops) vals (λ_=>true) p) s0 (.pan v) s1)):Sound P G (.code (.region id ops true) f0 s0 (.pan v) Cj s1):=by
 intro cx w a Q hs hf hd hQ;refine wp_region_any hm ?_;obtain⟨x,st⟩:=hs.same (Tt w)
 have gf:∀j,(bdG ops.size false).getD j false=false:=by intro j;simp only[bcL,Array.getElem?_replicate];split<;>simp
 refine alA Hz hp hl aIL Q hQ ops.size _ a _ ⟨by simp,?_,⟨_,x,st,?_⟩,hd,gf p⟩ ?_;intro i o ho hL;exact absurd (show(bdG ops.size false).getD i false=true from hL) (by rw[gf i];simp)
 ·have:IL f0 (B8 ops) vals (λj=>(bdG ops.size false).getD j false) ops.size=f0:=by
   have key:∀n,IL f0 (B8 ops) vals (λj=>(bdG ops.size false).getD j false) n=f0:=by
    intro n
    induction n with
    |zero=>rfl
    |succ n ih=>
     simp only[IL,ih];rw[if_neg];rw[gf n];simp
   exact key _
  rw[this];exact hf.mono x
 ·have key:∀n,qM (λj=>(bdG ops.size false).getD j false) n=n:=by
   intro n
   induction n with
   |zero=>rfl
   |succ n ih=>
    simp only[qM,ih,gf n];simp
  exact key _
end
abbrev HS:=Option (List Hn×List Cd×List AV×AS)
def aCW(cd:List Cd):HS->HS
 |some (hs,cd',fr,s)=>some (hs,cd++cd',fr,s)
 |none=>none
abbrev HC:=Option (AX×List Hn×List Cd×List AV×AS)
def kC(cd:List Cd):HC->HC
 |some (e,hs,cd',fr,s)=>some (e,hs,cd++cd',fr,s)
 |none=>none
def awF(P:Program)(G:AP)(ops:Array Oper)(fr:List AV)(s:AS)(o:Oper):List Hn->HO
 |.p v s1::hs=>(match Cp ops fr o with
  |true=>(match X0 P G fr s o with|some (.ent f args)=>some (v,s1,hs,[.aCJ f args s v s1])|some (.pan v')=>some (v',s,hs,[])|_=>none)
  |false=>none)
 |.q v pre tp Sz tu::hs=>(match Cp ops fr o with
  |true=>(match X0 P G fr s o with|some (.ent f args)=>some (v,(s.YM Sz).Ve tu,hs,[.Q4 f args (.pan v) pre tp Sz tu,.eqx (cT s pre) (PF pre) (jY s.F tp) (Qg tp)])|_=>none)
  |false=>none)
 |_=>none
def amH(P:Program)(G:AP)(ops:Array Oper):List Oper->List Hn->List AV->AS->HC
 |[],hs,fr,s=>some (.normal,hs,[],fr,s)
 |o::l,hs,fr,s=>(match awF P G ops fr s o hs with|some (v,s1,TD,cd)=>some (.pan v,TD,cd,fr,s1)|none=>(match kB P G ops fr s o hs with|some (v,s1,TD,cd)=>kC cd (amH P G ops l TD (JD fr o.dst v) s1)|none=>none))
def rN(P:Program)(G:AP)(ops:Array Oper):List Oper->List Hn->List AV->AS->HS
 |[],hs,fr,s=>some (hs,[],fr,s)
 |o::l,hs,fr,s=>(match rL P G ops fr s o hs with|some (v,s1,TD,cd)=>aCW cd (rN P G ops l TD (JD fr o.dst v) s1)|none=>none)
def steady(op:Op):Bool:=match quiet op with
 |true=>true
 |false=>(match op with
  |.call cl=>(match cl.callee with | .value _=>true | _=>false)
  |_=>false)
def Sw:List Oper->Bool
 |[]=>true
 |o::l=>(match steady o.op with | true=>Sw l | false=>false)
def aPJ:HS->HC
 |some (hs,cd,fr,s)=>some (.normal,hs,cd,fr,s)
 |none=>none
def aPI(P:Program)(G:AP)(ops:Array Oper)(hs:List Hn)(fr:List AV)(s:AS):HC:=match rsv P ops.toList with
 |some r=>(match hTr P G ops ops.toList s.nx hs fr (s.hold r) with
  |some (hs',cd,t,Cj,s')=>(match Mt G ops s.nx ops.toList t with
   |true=>(match aX P ops t s' s.nx r with|true=>some (.normal,hs',cd,Cj,s')|false=>none)
   |false=>none)
  |none=>none)
 |none=>none
def amB(P:Program)(G:AP)(ops:Array Oper)(c:Nat)(hs:List Hn)(fr:List AV)(s:AS):HC:=match beG c ops.size with
 |true=>(match W8 (Im ops.toList []) c ops.toList 0 with
  |true=>(match agF P G ops c ops.toList 0 hs fr s with|some (hs',cd,_,Cj,s')=>some (.normal,hs',cd,Cj,s')|none=>none)
  |false=>none)
 |false=>none
def aCS(P:Program)(G:AP)(ops:Array Oper)(hs:List Hn)(fr:List AV)(s:AS):HC:=match agD P G ops ops.toList hs fr s with
 |some (hs',cd,t,Ts,Cj,s')=>(match uA G ops (Im ops.toList []) Ts ops.toList t 0 with|true=>some (.normal,hs',cd,Cj,s')|false=>none)
 |none=>none
abbrev HQ:=Option (List AV×List Hn×List Cd×Option (AV×AS))
def nR(v:AV)(cd:List Cd):HQ->HQ
 |some (vs,hs,cd2,r)=>some (v::vs,hs,cd++cd2,r)
 |none=>none
def aDA(r:AV×AS)(cd:List Cd):HQ->HQ
 |some (vs,hs,cd2,none)=>some (.sc undef::vs,hs,cd++cd2,some r)
 |_=>none
def behind(ms:List Nat)(p i:Nat):Bool:=match beG p i with|true=>Um ms i p|false=>false
def cY(P:Program)(G:AP)(ops:Array Oper)(ms:List Nat)(p:Nat)(s:AS):List Oper->Nat->List Hn->List AV->HQ
 |[],_,hs,_=>some ([],hs,[],none)
 |o::l,i,hs,fr=>(match bcA i p with
  |true=>(match awF P G ops fr s o hs with|some (v,s2,kG,cd)=>aDA (v,s2) cd (cY P G ops ms p s l (i+1) kG (JD fr o.dst (.sc undef)))|none=>none)
  |false=>(match behind ms p i with
   |true=>nR (.sc undef) [] (cY P G ops ms p s l (i+1) hs (JD fr o.dst (.sc undef)))
   |false=>(match steady o.op with
    |true=>(match rL P G ops fr s o hs with|some (v,_,kG,cd)=>nR v cd (cY P G ops ms p s l (i+1) kG (JD fr o.dst v))|none=>none)
    |false=>none)))
def amJ(P:Program)(G:AP)(ops:Array Oper)(p:Nat)(hs:List Hn)(fr:List AV)(s:AS):HC:=match cY P G ops (Im ops.toList []) p s ops.toList 0 hs fr with|some (_,kG,cd,some (v,s2))=>some (.pan v,kG,cd,fr,s2)|_=>none
def aCU(P:Program)(G:AP)(ops:Array Oper)(fr:List AV)(s:AS):List Hn->HC
 |.zq p::hs=>amJ P G ops p hs fr s
 |.z c::hs=>amB P G ops c hs fr s
 |.za::hs=>aCS P G ops hs fr s
 |hs=>(match Sw ops.toList with|true=>aPJ (rN P G ops ops.toList hs fr s)|false=>aPI P G ops hs fr s)
def amL(P:Program)(G:AP)(ops:Array Oper)(d:Bool)(hs:List Hn)(fr:List AV)(s:AS):HC:=match d with|false=>amH P G ops ops.toList hs fr s|true=>(match Nb ops with|true=>aCU P G ops fr s hs|false=>none)
def M4(P:Program)(G:AP):Code->List Hn->List AV->AS->HC
 |.skip,hs,fr,s=>some (.normal,hs,[],fr,s)
 |.exit id,hs,fr,s=>some (.exit id,hs,[],fr,s)
 |.ret,hs,fr,s=>some (.ret,hs,[],fr,s)
 |.label _,hs,fr,s=>some (.normal,hs,[],fr,s)
 |.seq x y,hs,fr,s=>(match M4 P G x hs fr s with|some (.normal,TD,cd,Wr,s1)=>kC cd (M4 P G y TD Wr s1)|r=>r)
 |.cond q x y,hs,fr,s=>(match AO G fr q with|some (.sc (.bool true))=>M4 P G x hs fr s|some (.sc (.bool false))=>M4 P G y hs fr s|_=>none)
 |.block id c,hs,fr,s=>(match M4 P G c hs fr s with|some (e,TD,cd,Wr,s1)=>some (FR id e,TD,cd,Wr,s1)|none=>none)
 |.region _ ops d,hs,fr,s=>(match hs with
  |.n l::hs=>(match nzs l fr s with|some (G5,s2)=>amL P G ops d hs G5 s2|none=>none)
  |.f id b b2::hs=>(match look id s.h with|some b0=>kC [.eqx [some b0] [some b] [] [],.rd s.nr b b2] (amL P G ops d hs fr ⟨wH id b2 s.h,s.nx,(s.nr,0)::s.F,s.nr+1⟩)|none=>none)
  |hs=>amL P G ops d hs fr s)
 |_,_,_,_=>none
section
variable {P:Program}{G:AP}{ops:Array Oper}
def abT{fr:List AV}{s s1:AS}{o:Oper}{hs hs':List Hn}{v:AV}{cd:List Cd}(h:awF P G ops fr s o hs=some (v,s1,hs',cd))(hc:SO P G cd):J P G (XS P G) H0 (.op ops o fr s (.pan v) s1):=by unfold awF at h;split at h;rw[N9] at h;split at h;rename_i hw;split at h;rename_i h1;cases h;exact .TQ hw h1 (.ext hc.1);rename_i h1;cases h;exact .aDN hw h1;cases h;cases h;rw[N9] at h;split at h;rename_i hw;split at h;rename_i h1;cases h;exact .TQ hw h1 (.ext (hc.1 s hc.2.1.1 hc.2.1.2));cases h;cases h;cases h
def awD{l:List Oper}{k:Nat}(hk:l=ops.toList.drop k){hs hs':List Hn}{fr Cj:List AV}{s s':AS}{e:AX}{cd:List Cd}(h:amH P G ops l hs fr s=some (e,hs',cd,Cj,s'))(hc:SO P G cd):J P G (XS P G) H0 (.ops ops (List.range' k l.length) fr s e Cj s'):=by
 induction l generalizing k hs fr s cd with
 |nil=>simp only[amH] at h;cases h;exact .apT
 |cons o l ih=>
  obtain⟨k1,k2⟩:=drop_cons hk;simp only[amH] at h;split at h;rename_i v s1 TD cd1 h1;cases h;rw[amN,biI];exact .apU (by rw[<- bbE];exact k1) (abT h1 hc);split at h;rename_i v s1 TD cd1 h1;unfold kC at h;split at h;rename_i e2 kG cd2 G5 s2 h2;cases h;obtain⟨c1,c2⟩:=hc.X1;rw[amN,biI];exact .acT (by rw[<- bbE];exact k1) (Qo h1 c1) (ih k2 h2 c2);cases h;cases h
def awE{l:List Oper}{q:Nat}(E5:Sw l=true){hs hs':List Hn}{fr Cj:List AV}{s s':AS}{cd:List Cd}(h:rN P G ops l hs fr s=some (hs',cd,Cj,s'))(hc:SO P G cd):s'=s/\∃t,UG P G (XS P G) H0 ops q l fr s t Cj s/\∀x∈t,x.2.1=s:=by
 induction l generalizing hs fr cd s with
 |nil=>simp only[rN] at h;cases h;exact⟨rfl,[],.nil,λx hx=>by cases hx⟩
 |cons o l ih=>
  simp only[Sw] at E5;split at E5
  ·rename_i nT
   simp only[rN] at h;split at h
   ·rename_i v s1 TD cd1 h1
    unfold aCW at h;split at h
    ·rename_i kG cd2 G5 s2 h2
     cases h;obtain⟨c1,c2⟩:=hc.X1;obtain⟨h1,hA⟩:=Us h1;have hj:=Qo h1 c1
     have vZ:BQ o.op=false:=by cases ha:BQ o.op with|false=>rfl|true=>obtain⟨e,he⟩:=K4 ha;rw[he] at nT;simp[steady,quiet] at nT
     have TD:s1=s:=by
      cases hq:quiet o.op with
      |true=>exact(J9 hq hj).1
      |false=>
       unfold steady at nT;rw[hq] at nT;simp only at nT;split at nT;rename_i cl WW;split at nT;rename_i f Ib;unfold kB at h1;split at h1;unfold hDo at h1;rw[WW] at h1;simp only[Ib] at h1;unfold cW at h1;split at h1;split at h1;cases h1;rfl;cases h1;have:=hA (by rw[WW];simp[OX,Ib]);simp[nY] at this;have:=hA (by rw[WW];simp[OX,Ib]);simp[nY] at this;have:=hA (by rw[WW];simp[OX,Ib]);simp[nY] at this;cases h1;cases h1;rfl;cases nT;cases nT
     subst TD;obtain⟨e,t,ht,GC⟩:=ih E5 h2 c2;subst e
     exact⟨rfl,_,.cons vZ hj ht,λx hx=>by
      rcases bbG.1 hx with rfl | hx
      rfl;exact GC x hx⟩
    cases h
   cases h
  cases E5
def YF{l:List Oper}(E5:Sw l=true){i:Nat}{o:Oper}(ho:l[i]?=some o):steady o.op=true:=by
 induction l generalizing i with
 |nil=>simp at ho
 |cons x l ih=>
  simp only[Sw] at E5;split at E5;rename_i nT;cases i with|zero=>simp at ho;subst ho;exact nT|succ i=>exact ih E5 (by simpa using ho)
  cases E5
def xE{X:XX}{H:Vp}{id:Nat}{fr Cj:List AV}{s:AS}{t:List (List AV×AS×AV)}(Hz:Nb ops=true)(E5:Sw ops.toList=true)(h:UG P G X H ops s.nx ops.toList fr s t Cj s)(GC:∀x∈t,x.2.1=s):J P G X H (.code (.region id ops true) fr s .normal Cj s):=by
 have hlen:t.length=ops.size:=by rw[h.len,bbN]
 obtain⟨h0,Y5⟩:=h.at
 have hsa:∀i,FD t s i=s:=by intro i;unfold FD;split;rename_i x hx;exact GC x (aUV hx);rfl
 have xN:∀i o,ops[i]?=some o->B8 ops i=o.dst:=λi o ho=>by unfold B8;rw[ho];rfl
 obtain⟨dC,dD⟩:=h.nC (B8 ops) (KQ t) fr 0 rfl (λi o ho=>by rw[aUU];exact xN i o (by rw[<- bbE];exact ho)) (λi=>.inl (by rw[aUU]));rw[aUU,bbN] at dC
 have vZ:∀(i:Nat)(o:Oper),ops[i]?=some o->BQ o.op=false:=by intro i o ho;have:=YF E5 (B5 ho);cases ha:BQ o.op with|false=>rfl|true=>obtain⟨e,he⟩:=K4 ha;rw[he] at this;simp[steady,quiet] at this
 have hj:∀i o,ops[i]?=some o->J P G X H (.op ops o (IL fr (B8 ops) (KQ t) (λ_=>true) i) s (.ret (KQ t i)) s):=by
  intro i o ho;obtain⟨fi,h1,h2⟩:=Y5 i o (B5 ho);have:=dD i _ h1;simp only[aUU] at this;rcases h2 with ⟨_,h2⟩ | ⟨h2,_⟩
  rw[<- this];rw[hsa,hsa] at h2;exact h2;rw[vZ i o ho] at h2;cases h2
 have key:=J.draw (P:=P) (G:=G) (X:=X) (H:=H) (id:=id) (f0:=fr) (s0:=s) [] (KQ t) (λ_=>s) rfl Hz (λi o ho _=>hj i o ho) (λi o ho hq=>⟨rfl,by
  obtain⟨_,h2⟩:=J9 hq (hj i o ho);rcases h2 with h2 | ⟨hw,h2⟩
  exact .inl h2;exact .inr ⟨hw,λk _ _=>h2⟩⟩) (λi o e ho he=>by have:=vZ i o ho;rw[he] at this;cases this)
 rw[<- dC] at key;exact key
def rM{fr:List AV}{s s1:AS}{o:Oper}{hs TD:List Hn}{v:AV}{cd:List Cd}(nT:steady o.op=true)(h:rL P G ops fr s o hs=some (v,s1,TD,cd))(hc:SO P G cd):J P G (XS P G) H0 (.op ops o fr s (.ret v) s):=by
 obtain⟨h1,hA⟩:=Us h;have hj:=Qo h1 hc
 have TD:s1=s:=by
  cases hq:quiet o.op with
  |true=>exact(J9 hq hj).1
  |false=>
   unfold steady at nT;rw[hq] at nT;simp only at nT;split at nT;rename_i cl WW;split at nT;rename_i f Ib;unfold kB at h1;split at h1;unfold hDo at h1;rw[WW] at h1;simp only[Ib] at h1;unfold cW at h1;split at h1;split at h1;cases h1;rfl;cases h1;have:=hA (by rw[WW];simp[OX,Ib]);simp[nY] at this;have:=hA (by rw[WW];simp[OX,Ib]);simp[nY] at this;have:=hA (by rw[WW];simp[OX,Ib]);simp[nY] at this;cases h1;cases h1;rfl;cases nT;cases nT
 rw[TD] at hj;exact hj
def alR{f0:List AV}{dst:Nat->Option Tmp}{vals:Nat->AV}{k:Nat}:IL f0 dst vals (λ_=>true) (k+1)=JD (IL f0 dst vals (λ_=>true) k) (dst k) (vals k):=by simp only[IL,if_true]
def amI{p:Nat}{s:AS}{f0:List AV}{vals:Nat->AV}:∀{l:List Oper}{i:Nat}{hs hs':List Hn}{fr:List AV}{vs:List AV}{cd:List Cd}{r:Option (AV×AS)},cY P G ops (Im ops.toList []) p s l i hs fr=some (vs,hs',cd,r)->l=ops.toList.drop i->SO P G cd->fr=IL f0 (B8 ops) vals (λ_=>true) i->(∀j,vals (i+j)=vs.getD j (.sc undef)) ->
 (∀j o,i<=j->ops[j]?=some o->j≠p->(p < j->Um (Im ops.toList []) j p=false)->J P G (XS P G) H0 (.op ops o (IL f0 (B8 ops) vals (λ_=>true) j) s (.ret (vals j)) s)) /\
 (i<=p->∀v s2,r=some (v,s2)->∃o,ops[p]?=some o/\J P G (XS P G) H0 (.op ops o (IL f0 (B8 ops) vals (λ_=>true) p) s (.pan v) s2))/\(p < i->r=none):=by
 intro l
 induction l with
 |nil=>
  intro i hs hs' fr vs cd r h hl hc Qq hv;simp only[cY] at h;cases h
  have hsz:ops.size<=i:=by have:=congrArg bfG hl;simp only[amO,aUZ,bbN] at this;omega
  exact⟨λj o hj ho=>by have:=(aHQ.1 ho).1;omega,(λ_ v s2 e=>by cases e),λ_=>rfl⟩
 |cons o l ih=>
  intro i hs hs' fr vs cd r h hl hc Qq hv;obtain⟨k1,k2⟩:=drop_cons hl;have ho:ops[i]?=some o:=by rw[<- bbE];exact k1
  have hd:B8 ops i=o.dst:=by unfold B8;rw[ho];rfl
  have next:∀{v0:AV}{vs2:List AV},vs=v0::vs2->vals i=v0/\JD fr o.dst v0=IL f0 (B8 ops) vals (λ_=>true) (i+1)/\∀j,vals (i+1+j)=vs2.getD j (.sc undef):=by
   intro v0 vs2 e;subst e;have h0:vals i=v0:=by have:=hv 0;simpa using this
   refine⟨h0,?_,λj=>?_⟩;rw[alR,hd,h0,Qq];have:=hv (j+1);rw[show i+1+j=i+(j+1) by omega,this];simp
  simp only[cY] at h;split at h
  ·rename_i hb
   have hip:=bcI hb;split at h
   ·rename_i v s2 kG cd1 h1
    unfold aDA at h;split at h
    ·rename_i vs2 hs3 cd2 h2
     cases h;obtain⟨c1,c2⟩:=hc.X1;obtain⟨n1,n2,n3⟩:=next rfl
     obtain⟨q1,q2,q3⟩:=ih h2 k2 c2 n2 n3;refine⟨λj o' hj Y9 hjp agG=>?_,λ_ v' s2' e=>?_,λh=>by omega⟩;exact q1 j o' (by omega) Y9 hjp agG;cases e;refine⟨o,hip▸ho,?_⟩;have:=abT h1 c1;rw[Qq,hip] at this;exact this
    cases h
   cases h
  ·rename_i hb
   have hip:=beO hb;split at h
   ·rename_i hbe
    unfold nR at h;split at h
    ·rename_i vs2 hs3 cd2 r2 h2
     cases h;obtain⟨n1,n2,n3⟩:=next rfl
     obtain⟨q1,q2,q3⟩:=ih h2 k2 hc n2 n3;unfold behind at hbe;split at hbe;rename_i hlt;have hlt:p < i:=aUX hlt;refine⟨λj o' hj Y9 hjp agG=>?_,λh=>by omega,λ_=>q3 (by omega)⟩;by_cases e:j=i;subst e;rw[agG hlt] at hbe;cases hbe;exact q1 j o' (by omega) Y9 hjp agG;cases hbe
    cases h
   ·split at h
    ·rename_i E5
     split at h
     ·rename_i v s1 kG cd1 h1
      unfold nR at h;split at h
      ·rename_i vs2 hs3 cd2 r2 h2
       cases h;obtain⟨c1,c2⟩:=hc.X1;obtain⟨n1,n2,n3⟩:=next rfl
       obtain⟨q1,q2,q3⟩:=ih h2 k2 c2 n2 n3;refine⟨λj o' hj Y9 hjp agG=>?_,λh v' s2' e=>q2 (by omega) v' s2' e,λh=>q3 (by omega)⟩;by_cases e:j=i;subst e;rw[ho] at Y9;cases Y9;have:=rM E5 h1 c1;rw[Qq] at this;rw[n1];exact this;exact q1 j o' (by omega) Y9 hjp agG
      cases h
     cases h
    cases h
def amK{id p:Nat}(Hz:Nb ops=true){hs hs':List Hn}{fr Cj:List AV}{s s':AS}{e:AX}{cd:List Cd}(h:amJ P G ops p hs fr s=some (e,hs',cd,Cj,s'))(hc:SO P G cd):J P G (XS P G) H0 (.code (.region id ops true) fr s e Cj s'):=by unfold amJ at h;split at h;rename_i vs kG cd1 v s2 h1;cases h;obtain⟨q1,q2,_⟩:=amI (f0:=fr) (vals:=λj=>vs.getD j (.sc undef)) h1 rfl hc rfl (λj=>by rw[aUU]);obtain⟨o,ho,hj⟩:=q2 (bcJ _) _ _ rfl;refine .sem λhm=>zJ (vals:=λj=>vs.getD j (.sc undef)) hm Hz (aHQ.1 ho).1 (λi o' Y9 hi hd=>sound (VD hm) (q1 i o' (bcJ _) Y9 hi hd)) (λo' Y9=>?_);rw[ho] at Y9;cases Y9;exact sound (VD hm) hj;cases h
def nH{ops:Array Oper}{id:Nat}{d:Bool}{hs hs':List Hn}{fr Cj:List AV}{s s':AS}{e:AX}{cd:List Cd}(h:amL P G ops d hs fr s=some (e,hs',cd,Cj,s'))(hc:SO P G cd):J P G (XS P G) H0 (.code (.region id ops d) fr s e Cj s'):=by
 unfold amL at h;cases d with
 |false=>
  simp only at h;have:=awD (ops:=ops) (k:=0) (by simp) h hc;refine .region ?_;rw[bbN] at this;rw[List.range_eq_range'];exact this
 |true=>
  simp only at h;split at h;rename_i Hz;unfold aCU at h;split at h;exact amK Hz h hc;unfold amB at h;split at h;rename_i hcs;split at h;rename_i hl;split at h;rename_i QT;cases h;exact afY Hz hcs hl QT hc;cases h;cases h;cases h;unfold aCS at h;split at h;rename_i QT;split at h;rename_i hrd;cases h;exact akX Hz QT hrd hc;cases h;cases h;split at h;rename_i E5;unfold aPJ at h;split at h;rename_i h1;cases h;obtain⟨e,t,ht,GC⟩:=awE (q:=s.nx) E5 h1 hc;subst e;exact xE Hz E5 ht GC;cases h;unfold aPI at h;split at h;rename_i r hr;split at h;rename_i TD cd1 t Wr s1 htr;split at h;rename_i hi;split at h;rename_i anR;cases h;exact akZ Hz hr htr hc hi anR;cases h;cases h;cases h;cases h;cases h
def amA(c:Code){hs hs':List Hn}{fr Cj:List AV}{s s':AS}{e:AX}{cd:List Cd}(h:M4 P G c hs fr s=some (e,hs',cd,Cj,s'))(hc:SO P G cd):J P G (XS P G) H0 (.code c fr s e Cj s'):=by
 induction c generalizing hs hs' fr Cj s s' e cd with
 |skip=>simp only[M4] at h;cases h;exact .skip
 |exit id=>simp only[M4] at h;cases h;exact .exit
 |ret=>simp only[M4] at h;cases h;exact .ret
 |seq x y ihx ihy=>
  simp only[M4] at h;cases hx:M4 P G x hs fr s with
  |none=>rw[hx] at h;cases h
  |some r=>
   obtain⟨e1,TD,cd1,Wr,s1⟩:=r;rw[hx] at h;cases e1 with
   |normal=>
    simp only at h;unfold kC at h;split at h;rename_i e2 kG cd2 G5 s2 h2;cases h;obtain⟨c1,c2⟩:=hc.X1;exact .seq (ihx hx c1) (ihy h2 c2);cases h
   |exit id=>simp only at h;cases h;exact .aaC (ihx hx hc) (by simp)
   |ret=>simp only at h;cases h;exact .aaC (ihx hx hc) (by simp)
   |pan v=>simp only at h;cases h;exact .aaC (ihx hx hc) (by simp)
 |cond q x y ihx ihy=>
  simp only[M4,Cm] at h;split at h;rename_i hq;exact .cond hq (ihx h hc);rename_i hq;exact .cond hq (ihy h hc);cases h
 |label l=>simp only[M4] at h;cases h;exact .label
 |block id c ih=>
  simp only[M4] at h;split at h;rename_i h1;cases h;exact .block (ih h1 hc);cases h
 |region id ops d=>
  simp only[M4] at h;split at h;split at h;rename_i hz;exact .atV (λcx w vs h1 h2=>apO hz cx w vs h1 h2) (nH h hc);cases h;split at h;rename_i b0 hb;unfold kC at h;split at h;rename_i h1;cases h;obtain⟨c1,c2⟩:=hc.X1;refine .atV (λcx w vs hs hf=>?_) (nH h1 c2);have hbb:b0=_:=bbJ (List.cons.inj c1.1.1).1;subst hbb;obtain⟨x,st⟩:=hs.tok;exact⟨_,x,st.aqO hb (λo ho=>c1.2.1 _ _ _ (by simp[hs.IG]) ho),hf.mono x⟩;cases h;cases h;exact nH h hc
 |_=>simp only[M4] at h;cases h
def Ut:Code->Bool
 |.loop _=>true
 |.seq x y=>Ut x||Ut y
 |.cond _ x y=>Ut x||Ut y
 |.block _ c=>Ut c
 |.scope _=>true
 |_=>false
abbrev HP:=Option (Code×List Hn×List Cd×List AV×AS)
end
structure PC(P:Program)(G:AP) where
 hn:Hn
 cd:List Cd
 ok:SO P G cd
def pHs{P:Program}{G:AP}:List (PC P G)->List Hn
 |[]=>[]
 |p::l=>p.hn::pHs l
def Wt{P:Program}{G:AP}:List (PC P G)->List Cd
 |[]=>[]
 |p::l=>p.cd++Wt l
def SO.join{P:Program}{G:AP}{l m:List Cd}(h:SO P G l)(k:SO P G m):SO P G (l++m):=by induction l with|nil=>exact k|cons c l ih=>exact⟨h.1,ih h.2⟩
def QB{P:Program}{G:AP}(l:List (PC P G)):SO P G (Wt l):=by induction l with|nil=>trivial|cons p l ih=>exact p.ok.join ih
inductive KI where
 |code (c:Code)
 |WQ (id:Nat)
 |loop (c:Code)
def C6(P:Program)(G:AP):List KI->(AX->List AV->AS->Prop)->AX->List AV->AS->Prop
 |[],Q=>Q
 |.code k::ks,Q=>aEF P G (XS P G) H0 k (C6 P G ks Q)
 |.WQ id::ks,Q=>EE id (C6 P G ks Q)
 |.loop c::ks,Q=>aDI P G (XS P G) H0 c (C6 P G ks Q)
inductive Sq where
 |at (id:Nat) (c:Code) (ks:List KI)
 |fin (e:AX)
abbrev HR:=Option (Sq×List Hn×List Cd×List AV×AS)
def amG(cd:List Cd):HR->HR
 |some (c,hs,cd',fr,s)=>some (c,hs,cd++cd',fr,s)
 |none=>none
def PK(r:Code->List KI->List Hn->List AV->AS->HR):List KI->AX->List Hn->List AV->AS->HR
 |[],e,hs,fr,s=>some (.fin e,hs,[],fr,s)
 |.code k::ks,.normal,hs,fr,s=>r k ks hs fr s
 |.code _::ks,e,hs,fr,s=>PK r ks e hs fr s
 |.WQ id::ks,.exit SI,hs,fr,s=>(match bcA SI id with|true=>PK r ks .normal hs fr s|false=>PK r ks (.exit SI) hs fr s)
 |.WQ _::ks,e,hs,fr,s=>PK r ks e hs fr s
 |.loop c::ks,.normal,hs,fr,s=>(match hs with|.sb (.map [] 0) (.map [] 0)::hs=>r c (.loop c::ks) hs fr s|hs=>(match ks with|.WQ id::ks=>some (.at id c ks,hs,[],fr,s)|_=>none))
 |.loop _::ks,e,hs,fr,s=>PK r ks e hs fr s
def UL(P:Program)(G:AP):Nat->Code->List KI->List Hn->List AV->AS->HR
 |0,_,_,_,_,_=>none
 |n+1,c,ks,hs,fr,s=>(match Ut c with
  |false=>(match M4 P G c hs fr s with|some (e,TD,cd,Wr,s1)=>amG cd (PK (UL P G n) ks e TD Wr s1)|none=>none)
  |true=>(match c with
   |.seq x y=>UL P G n x (.code y::ks) hs fr s
   |.block id (.loop c)=>(match hs with|.sb (.map [] 0) (.map [] 0)::hs=>UL P G n c (.loop c::.WQ id::ks) hs fr s|hs=>some (.at id c ks,hs,[],fr,s))
   |.block id c=>UL P G n c (.WQ id::ks) hs fr s
   |.scope c=>UL P G n c ks hs fr s
   |.cond q x y=>(match AO G fr q with|some (.sc (.bool true))=>UL P G n x ks hs fr s|some (.sc (.bool false))=>UL P G n y ks hs fr s|_=>none)
   |_=>none))
section
variable {P:Program}{G:AP}
def SqQ(P:Program)(G:AP)(Q:AX->List AV->AS->Prop)(fr:List AV)(s:AS):Sq->Prop
 |.at id c ks=>WL P G (XS P G) H0 c fr s (EE id (C6 P G ks Q))
 |.fin e=>Q e fr s
def Pw{k:Code}{ks:List KI}{Q:AX->List AV->AS->Prop}{e:AX}{fr:List AV}{s:AS}(he:e≠.normal)(h:C6 P G ks Q e fr s):C6 P G (.code k::ks) Q e fr s:=by cases e with|normal=>exact absurd rfl he|exit id=>exact h|ret=>exact h|pan v=>exact h
def Px{k:Code}{ks:List KI}{Q:AX->List AV->AS->Prop}{e:AX}{fr:List AV}{s:AS}(he:e≠.normal)(h:C6 P G ks Q e fr s):C6 P G (.loop k::ks) Q e fr s:=by cases e with|normal=>exact absurd rfl he|exit id=>exact h|ret=>exact h|pan v=>exact h
def abU{r:Code->List KI->List Hn->List AV->AS->HR}{Q:AX->List AV->AS->Prop}
   (hr:∀(c:Code)(ks:List KI){sp:Sq}{hs hs':List Hn}{fr Cj:List AV}{s s':AS}{cd:List Cd},r c ks hs fr s=some (sp,hs',cd,Cj,s')->SO P G cd->SqQ P G Q Cj s' sp->W P G (XS P G) H0 c fr s (C6 P G ks Q)):
   ∀(ks:List KI)(e:AX){sp:Sq}{hs hs':List Hn}{fr Cj:List AV}{s s':AS}{cd:List Cd},PK r ks e hs fr s=some (sp,hs',cd,Cj,s')->SO P G cd->SqQ P G Q Cj s' sp->C6 P G ks Q e fr s:=by
 intro ks
 induction ks with
 |nil=>intro e sp hs hs' fr Cj s s' cd h hc hk;simp only[PK] at h;cases h;exact hk
 |cons k ks ih=>
  intro e sp hs hs' fr Cj s s' cd h hc hk;cases k with
  |code c=>
   cases e with|normal=>simp only[PK] at h;exact hr c ks h hc hk|exit id=>simp only[PK] at h;exact Pw (by simp) (ih _ h hc hk)|ret=>simp only[PK] at h;exact Pw (by simp) (ih _ h hc hk)|pan v=>simp only[PK] at h;exact Pw (by simp) (ih _ h hc hk)
  |WQ id=>
   show C6 P G ks Q (FR id e) fr s;cases e with
   |normal=>simp only[PK] at h;exact ih _ h hc hk
   |ret=>simp only[PK] at h;exact ih _ h hc hk
   |pan v=>simp only[PK] at h;exact ih _ h hc hk
   |exit SI=>
    simp only[PK] at h;split at h;rename_i hb;have:=beq_true hb;subst this;have e1:FR SI (.exit SI)=.normal:=by simp[FR]
    rw[e1];exact ih _ h hc hk;rename_i hb;have:=beq_false hb;have e1:FR id (.exit SI)=.exit SI:=by simp[FR,this]
    rw[e1];exact ih _ h hc hk
  |loop c=>
   cases e with
   |normal=>
    simp only[PK] at h;split at h;exact abD (hr c (.loop c::ks) h hc hk);split at h;cases h;exact hk;cases h
   |exit id=>simp only[PK] at h;exact Px (by simp) (ih _ h hc hk)
   |ret=>simp only[PK] at h;exact Px (by simp) (ih _ h hc hk)
   |pan v=>simp only[PK] at h;exact Px (by simp) (ih _ h hc hk)
def abV{Q:AX->List AV->AS->Prop}:∀(n:Nat)(c:Code)(ks:List KI){sp:Sq}{hs hs':List Hn}{fr Cj:List AV}{s s':AS}{cd:List Cd},UL P G n c ks hs fr s=some (sp,hs',cd,Cj,s')->SO P G cd->SqQ P G Q Cj s' sp->W P G (XS P G) H0 c fr s (C6 P G ks Q):=by
 intro n
 induction n with
 |zero=>intro c ks sp hs hs' fr Cj s s' cd h;simp only[UL] at h;cases h
 |succ n ih=>
  intro c ks sp hs hs' fr Cj s s' cd h hc hk;simp only[UL] at h;split at h;split at h;rename_i e TD cd1 Wr s1 h1;unfold amG at h;split at h;rename_i h2;cases h;obtain⟨c1,c2⟩:=hc.X1;exact⟨_,_,_,amA c h1 c1,abU ih ks e h2 c2 hk⟩;cases h;cases h;split at h;exact aNZ (ih _ _ h hc hk);split at h;exact mE (ajG (abD (ih _ (.loop _::.WQ _::ks) h hc hk)));cases h;exact mE (ajG hk);exact mE (ih _ _ h hc hk);exact ajF (ih _ _ h hc hk);rw[Cm] at h;split at h;rename_i hq;exact auH hq (ih _ _ h hc hk);rename_i hq;exact auG hq (ih _ _ h hc hk);cases h;cases h
end
def sub:Code->List Nat->Code
 |c,[]=>c
 |.seq x _,0::l=>sub x l
 |.seq _ y,_::l=>sub y l
 |.cond _ x _,0::l=>sub x l
 |.cond _ _ y,_::l=>sub y l
 |.block _ c,_::l=>sub c l
 |.loop c,_::l=>sub c l
 |.scope c,_::l=>sub c l
 |c,_=>c
def Cc(fn:Func):Code:=fn.body.getD .skip
def obv(n:Nat):AV->Bool
 |.sc _=>true
 |.any=>true
 |.ptr id _=>beG id n
 |.mp id=>beG id n
 |.OG id _ _=>beG id n
 |_=>false
theorem aKK{n m:Nat}{a:AV}(h:obv n a=true):Fits n m a a:=by refine .under ?_;cases a<;>simp only[obv] at h<;>first | rfl | (cases h;done) | exact decide_eq_true (aUX h)
structure FP(n m:Nat) where
 a:AV
 b:AV
 h:Fits n m a b
structure FB(n m:Nat) where
 a:AF
 b:AF
 h:SD n m a b
def fpA{n m:Nat}:List (FP n m)->List AV
 |[]=>[]
 |p::l=>p.a::fpA l
def fpB{n m:Nat}:List (FP n m)->List AV
 |[]=>[]
 |p::l=>p.b::fpB l
def fbA{n m:Nat}:List (FB n m)->List AF
 |[]=>[]
 |p::l=>p.a::fbA l
def fbB{n m:Nat}:List (FB n m)->List AF
 |[]=>[]
 |p::l=>p.b::fbB l
abbrev MR:=Option (List AV×List AV)
def sI(b:AV):MR->MR
 |some (l,as)=>some (b::l,as)
 |none=>none
def aoS(a b:AV):MR->MR
 |some (l,as)=>some (b::l,a::as)
 |none=>none
def aoT(r:List AV->MR)(n:Nat)(a:AV)(bs:List AV):MR:=match obv n a with|true=>sI a (r bs)|false=>none
def axI(r:List AV->MR)(a:AV):List AV->MR
 |b::bs=>aoS a b (r bs)
 |[]=>none
def kP(r:List AV->MR)(a:AV)(bs:List AV):MR:=match WI a with|true=>sI .any (r bs)|false=>none
def iQ(n:Nat):List AV->Nat->List Nat->List AV->MR
 |[],_,_,[]=>some ([],[])
 |[],_,_,_::_=>none
 |a::l,i,[],bs=>kP (iQ n l (i+2) []) a bs
 |a::l,i,t::ts,bs=>(match bcA t i with|true=>aoT (iQ n l (i+2) ts) n a bs|false=>(match bcA t (i+1) with|true=>axI (iQ n l (i+2) ts) a bs|false=>kP (iQ n l (i+2) (t::ts)) a bs))
section
variable {n m:Nat}{r:List AV->MR}{l:List AV}(hr:∀(VC:List (FP n m)) l2,r (fpB VC)=some (l2,fpA VC)->Kv n m l l2){a:AV}{VC:List (FP n m)}{l2:List AV}
include hr
theorem aoU(h:aoT r n a (fpB VC)=some (l2,fpA VC)):Kv n m (a::l) l2:=by unfold aoT at h;split at h;rename_i ho;unfold sI at h;split at h;rename_i l3 as h1;cases h;exact .cons (aKK ho) (hr VC _ h1);cases h;cases h
theorem axJ(h:axI r a (fpB VC)=some (l2,fpA VC)):Kv n m (a::l) l2:=by
 cases VC with
 |nil=>cases h
 |cons p VC=>
  simp only[fpB,axI] at h;unfold aoS at h;split at h;rename_i l3 as h1;simp only[fpA,aUQ,bbI,bfZ] at h;obtain⟨rfl,rfl,rfl⟩:=h;exact .cons p.h (hr VC _ h1);cases h
theorem sJ(h:kP r a (fpB VC)=some (l2,fpA VC)):Kv n m (a::l) l2:=by unfold kP at h;split at h;rename_i hd;unfold sI at h;split at h;rename_i l3 as h1;cases h;exact .cons (.drop hd) (hr VC _ h1);cases h;cases h
end
theorem axM{n m:Nat}:∀{l:List AV}{i:Nat}{ts:List Nat}{VC:List (FP n m)}{l2:List AV},iQ n l i ts (fpB VC)=some (l2,fpA VC)->Kv n m l l2:=by
 intro l
 induction l with
 |nil=>
  intro i ts VC l2 h;cases VC with|nil=>simp only[fpB,iQ] at h;cases h;exact .nil|cons p VC=>simp only[fpB,iQ] at h;cases h
 |cons a l ih=>
  intro i ts VC l2 h;cases ts with
  |nil=>simp only[iQ] at h;exact sJ (λVC l2 h=>ih h) h
  |cons t ts=>
   simp only[iQ] at h;split at h;exact aoU (λVC l2 h=>ih h) h;split at h;exact axJ (λVC l2 h=>ih h) h;exact sJ (λVC l2 h=>ih h) h
abbrev BR:=Option (List (Nat×AF)×List AF)
def aCF(id:Nat)(a b:AF):BR->BR
 |some (l,as)=>some ((id,b)::l,a::as)
 |none=>none
def wU:List (Nat×AF)->List AF->BR
 |[],[]=>some ([],[])
 |e::l,b::bs=>aCF e.1 e.2 b (wU l bs)
 |_,_=>none
theorem auS{n m:Nat}:∀{l:List (Nat×AF)}{fbs:List (FB n m)}{l2:List (Nat×AF)},wU l (fbB fbs)=some (l2,fbA fbs)->(∀k,Kr l k->Kr l2 k)/\∀id b,look id l2=some b->∃b',look id l=some b'/\SD n m b' b:=by
 intro l
 induction l with
 |nil=>
  intro fbs l2 h;cases fbs with|nil=>simp only[fbB,wU] at h;cases h;exact⟨λ_ _=>trivial,λid b h=>by cases h⟩|cons p fbs=>simp only[fbB,wU] at h;cases h
 |cons e l ih=>
  intro fbs l2 h;cases fbs with
  |nil=>simp only[fbB,wU] at h;cases h
  |cons p fbs=>
   simp only[fbB,wU] at h;unfold aCF at h;split at h;rename_i l3 as h1;simp only[fbA,aUQ,bbI,bfZ] at h;obtain⟨rfl,h2,rfl⟩:=h;obtain⟨hd,hl⟩:=ih h1;refine⟨λk hk=>⟨hk.1,hd _ hk.2⟩,λid b hb=>?_⟩;simp only[look] at hb ⊢;split at hb;cases hb;exact⟨e.2,rfl,by rw[h2];exact p.h⟩;exact hl id b hb;cases h
def SH(m:Nat):List (Nat×Nat)->List (Nat×Nat)
 |[]=>[]
 |x::l=>match beG x.1 m with|true=>x::SH m l|false=>SH m l
theorem rC{m r n:Nat}{l:List (Nat×Nat)}(h:DT r (SH m l)=some n):DT r l=some n/\r < m:=by
 induction l with
 |nil=>cases h
 |cons x l ih=>
  simp only[SH] at h;split at h;rename_i hb;simp only[DT] at h ⊢;split at h;rename_i h1;have:=beq_true h1;subst this;cases h;exact⟨rfl,aUX hb⟩;exact ih h;rename_i hb;obtain⟨h1,h2⟩:=ih h;refine⟨?_,h2⟩;simp only[DT];split;rename_i h3;have:=beq_true h3;subst this;rw[show beG x.1 m=true from bdR h2] at hb;cases hb;exact h1
section
variable {P:Program}{G:AP}
def Frg(G:AP)(s0:AS)(Cj:List AV)(s':AS)(G5:List AV)(s2:AS):Prop:=∀(cx:Cx)(w:World)(c':Cx)(w':World)(vs:List Value),Ext cx w c' w'->St G cx w s0->St G c' w' s'->CF c' w' Cj vs->∃c2,Ext cx w c2 w'/\St G c2 w' s2/\CF c2 w' G5 vs
abbrev RR:=Option (List AV×AS×List AV×List AF)
def aLF(live:List Nat)(n m:Nat)(Cj:List AV)(s':AS)(bs:List AV)(cs:List AF):RR :=
 match iQ n Cj 0 live bs with
 |some (G5,as)=>(match wU (OR n s'.h) cs with|some (h2,cas)=>some (G5,⟨h2,n,SH m s'.F,m⟩,as,cas)|none=>none)
 |none=>none
theorem qY{l:List (Nat×AF)}{N n:Nat}(h:Kr l N):Kr (OR n l) n:=by
 induction l generalizing N with
 |nil=>trivial
 |cons e l ih=>
  simp only[OR];split;exact ih h.2;rename_i hb;refine⟨?_,h.2⟩;have:¬n<=e.1:=λhle=>by rw[bdR hle] at hb;cases hb
  omega
def KN(P:Program)(G:AP)(L:Code)(s0:AS)(Q:AX->List AV->AS->Prop):AX->List AV->AS->Prop
 |.normal,Cj,s'=>∃G5 s2,Frg G s0 Cj s' G5 s2/\WL P G (XS P G) H0 L G5 s2 Q
 |.exit id,Cj,s'=>∃G5 s2,Frg G s0 Cj s' G5 s2/\Q (.exit id) G5 s2
 |e,Cj,s'=>Q e Cj s'
theorem wL{L:Code}{fr:List AV}{s:AS}{Q:AX->List AV->AS->Prop}(h:W P G (XS P G) H0 L fr s (KN P G L s Q)):WL P G (XS P G) H0 L fr s Q:=by
 obtain⟨e,Cj,s',hj,h2⟩:=h;cases e with
 |normal=>
  obtain⟨G5,s2,hf,e3,fr3,s3,h3,h4⟩:=h2;exact⟨e3,fr3,s3,.aoQ (.scope hj (λ_ h=>by cases h) (λcx w c' w' vs hx hs hs' Qq=>hf cx w c' w' vs hx hs hs' Qq)) h3,h4⟩
 |exit id=>
  obtain⟨G5,s2,hf,h4⟩:=h2;exact⟨_,_,_,.eD (.scope hj (λ_ h=>by cases h) (λcx w c' w' vs hx hs hs' Qq=>hf cx w c' w' vs hx hs hs' Qq)) (by simp),h4⟩
 |ret=>exact⟨_,_,_,.eD hj (by simp),h2⟩
 |pan v=>exact⟨_,_,_,.eD hj (by simp),h2⟩
def bK(P:Program)(fn:Func)(m:Nat)(Q:AX->List AV->AS->Prop)(v:AV)(s2:AS):Prop:=∀fr s,I5 P s fn fr=some v->s.cut m=s2->Q .ret fr s
def jN(m:Nat)(Q:AX->List AV->AS->Prop)(v:AV)(s2:AS):Prop:=∀fr s,s.cut m=s2->Q (.pan v) fr s
theorem aiE{ks:List KI}{Q:AX->List AV->AS->Prop}{fr:List AV}{s:AS}(h:Q .ret fr s):C6 P G ks Q .ret fr s:=by induction ks with|nil=>exact h|cons k ks ih=>cases k<;>exact ih
theorem aiD{ks:List KI}{Q:AX->List AV->AS->Prop}{fr:List AV}{s:AS}{v:AV}(h:Q (.pan v) fr s):C6 P G ks Q (.pan v) fr s:=by induction ks with|nil=>exact h|cons k ks ih=>cases k<;>exact ih
theorem bK.body{fn:Func}{m:Nat}{Q:CR->AS->Prop}{v:AV}{s2:AS}(h:Q (.ret v) s2):bK P fn m (PV P fn m Q) v s2:=λfr s h1 h2=>⟨v,h1,by rw[h2];exact h⟩
theorem jN.body{fn:Func}{m:Nat}{Q:CR->AS->Prop}{v:AV}{s2:AS}(h:Q (.pan v) s2):jN m (PV P fn m Q) v s2:=λfr s h2=>by show Q (.pan v) (s.cut m);rw[h2];exact h
theorem bK.rnd{fn:Func}{m:Nat}{L:Code}{s0:AS}{Q:AX->List AV->AS->Prop}{v:AV}{s2:AS}(h:bK P fn m Q v s2):bK P fn m (KN P G L s0 Q) v s2:=h
theorem jN.rnd{m:Nat}{L:Code}{s0:AS}{Q:AX->List AV->AS->Prop}{v:AV}{s2:AS}(h:jN m Q v s2):jN m (KN P G L s0 Q) v s2:=h
def Lw(P:Program)(G:AP)(_l:List (PC P G))(Q:AX->List AV->AS->Prop)(r:HR)(X:Prop):Prop:=∀sp cd Cj s',r=some (sp,[],cd,Cj,s')->SO P G cd->SqQ P G Q Cj s' sp->X
theorem azD{c:Code}{fr:List AV}{s:AS}{Q:AX->List AV->AS->Prop}(n:Nat)(l:List (PC P G)):Lw P G l Q (UL P G n c [] (pHs l) fr s) (W P G (XS P G) H0 c fr s Q):=λ_ _ _ _ h hc hk=>abV n c [] h hc hk
def nA(a:AV):AV:=match WI a with|true=>.any|false=>a
theorem jW{a:AV}{c:Cx}{w:World}{v:Value}(hr:Rp c w a v):Rp c w (nA a) v:=by unfold nA;split;rename_i h;exact .any (Vx hr h);exact hr
inductive Lp(γ δ ρ:Type) where
 |nx (x:γ)
 |ex (x:δ)
 |rt (r:ρ)
section loops
variable {α γ δ ρ:Type}
def OU(k:γ->Option (δ⊕ρ)):Lp γ δ ρ->Option (δ⊕ρ)
 |.nx x=>k x
 |.ex d=>some (.inl d)
 |.rt r=>some (.inr r)
def Bu(body:Nat->α->γ->Option (Lp γ δ ρ))(done:γ->δ):List α->Nat->γ->Option (δ⊕ρ)
 |[],_,x=>some (.inl (done x))
 |y::l,i,x=>(body i y x).bind (OU (Bu body done l (i+1)))
def CT(body:γ->Option (Lp γ δ ρ)):Nat->γ->Option (δ⊕ρ)
 |0,_=>none
 |n+1,x=>(body x).bind (OU (CT body n))
def B6{β:Type}(n:Nat)(x:Option β):Option β:=if n<=9223372036854775807 then x else none
theorem aJW{β:Type}{n:Nat}{x:Option β}{r:β}(h:B6 n x=some r):n<=9223372036854775807/\x=some r:=by unfold B6 at h;split at h;rename_i h1;exact⟨h1,h⟩;cases h
theorem iF{β κ:Type}{m:Option κ}{k:κ->Option β}{r:β}(h:m.bind k=some r):∃y,m=some y/\k y=some r:=by cases m with|none=>cases h|some y=>exact⟨y,rfl,h⟩
def LQ(Qx:δ->Prop)(Qr:ρ->Prop):δ⊕ρ->Prop
 |.inl x=>Qx x
 |.inr r=>Qr r
def RQ(Qn:γ->Prop)(Qx:δ->Prop)(Qr:ρ->Prop):Lp γ δ ρ->Prop
 |.nx x=>Qn x
 |.ex x=>Qx x
 |.rt r=>Qr r
theorem auE{J:Type}{L:Code}{Q:AX->List AV->AS->Prop}{body:Nat->α->γ->Option (Lp γ δ ρ)}{done:γ->δ}(l:List α)(F:Nat->γ->J->List AV)(S:Nat->γ->J->AS)(Ok:J->Prop)(Qx:δ->Prop)(Qr:ρ->Prop)
   (hz:∀i x j,Ok j->l.length<=i->Qx (done x)->WL P G (XS P G) H0 L (F i x j) (S i x j) Q)
   (hs:∀i y x j r,Ok j->l[i]?=some y->i < l.length->body i y x=some r->RQ (λx'=>∀j',Ok j'->WL P G (XS P G) H0 L (F (i+1) x' j') (S (i+1) x' j') Q) Qx Qr r->WL P G (XS P G) H0 L (F i x j) (S i x j) Q):
   ∀{x:γ}{oQ:δ⊕ρ}(i0:Nat),Bu body done (l.drop i0) i0 x=some oQ->LQ Qx Qr oQ->∀j,Ok j->WL P G (XS P G) H0 L (F i0 x j) (S i0 x j) Q:=by
 have key:∀(k:List α)(i:Nat)(x:γ)(oQ:δ⊕ρ),l.drop i=k->Bu body done k i x=some oQ->LQ Qx Qr oQ->∀j,Ok j->WL P G (XS P G) H0 L (F i x j) (S i x j) Q:=by
  intro k
  induction k with
  |nil=>
   intro i x oQ hd h hq j hj;simp only[Bu,aUQ] at h;subst h;exact hz i x j hj (bhA.1 hd) hq
  |cons y k ih=>
   intro i x oQ hd h hq j hj
   have hi:i < l.length:=by
    rcases bdS i l.length with h1 | h1
    exact h1;rw[bbX h1] at hd;cases hd
   have hy:l[i]?=some y:=by rw[<- bfJ,hd];rfl
   have hd2:l.drop (i+1)=k:=by rw[<- bgP,hd];rfl
   obtain⟨r,hb,h⟩:=iF h;refine hs i y x j r hj hy hi hb ?_;cases r with|nx x'=>exact λj' hj'=>ih (i+1) x' oQ hd2 h hq j' hj'|ex d=>simp only[OU,aUQ] at h;subst h;exact hq|rt v=>simp only[OU,aUQ] at h;subst h;exact hq
 intro x oQ i0 h hq j hj;exact key _ i0 x oQ rfl h hq j hj
theorem auF{J:Type}{L:Code}{Q:AX->List AV->AS->Prop}{body:γ->Option (Lp γ δ ρ)}(F:γ->J->List AV)(S:γ->J->AS)(Ok:J->Prop)(Qx:δ->Prop)(Qr:ρ->Prop)
   (hs:∀x j r,Ok j->body x=some r->RQ (λx'=>∀j',Ok j'->WL P G (XS P G) H0 L (F x' j') (S x' j') Q) Qx Qr r->WL P G (XS P G) H0 L (F x j) (S x j) Q):
   ∀(n:Nat){x:γ}{oQ:δ⊕ρ},CT body n x=some oQ->LQ Qx Qr oQ->∀j,Ok j->WL P G (XS P G) H0 L (F x j) (S x j) Q:=by
 intro n
 induction n with
 |zero=>intro x oQ h;cases h
 |succ n ih=>
  intro x oQ h hq j hj;obtain⟨r,hb,h⟩:=iF h;refine hs x j r hj hb ?_;cases r with|nx x'=>exact λj' hj'=>ih h hq j' hj'|ex d=>simp only[OU,aUQ] at h;subst h;exact hq|rt v=>simp only[OU,aUQ] at h;subst h;exact hq
def IT(body:γ->Option (Lp γ δ ρ))(x:γ):Option (δ⊕ρ):=open Classical in if h:∃n r,CT body n x=some r then some (bfF (bdI h)) else none
theorem avS{body:γ->Option (Lp γ δ ρ)}{x:γ}{r:δ⊕ρ}(h:IT body x=some r):∃n,CT body n x=some r:=by unfold IT at h;split at h;rename_i hx;have:=bdI (bdI hx);rw[bbJ h] at this;exact⟨_,this⟩;cases h
theorem dQ{body:γ->Option (Lp γ δ ρ)}:∀{n m:Nat}{x:γ}{r:δ⊕ρ},CT body n x=some r->n<=m->CT body m x=some r:=by
 intro n
 induction n with
 |zero=>intro m x r h;cases h
 |succ n ih=>
  intro m x r h hm;cases m with
  |zero=>omega
  |succ m=>
   obtain⟨a,ha,h⟩:=iF h;simp only[CT,ha,TC];cases a with|nx x'=>exact ih h (by omega)|ex d=>exact h|rt v=>exact h
theorem D0{body:γ->Option (Lp γ δ ρ)}{n:Nat}{x:γ}{r:δ⊕ρ}(h:CT body n x=some r):IT body x=some r:=by unfold IT;have hx:∃n r,CT body n x=some r:=⟨n,r,h⟩;rw[dif_pos hx];have h2:=bdI (bdI hx);have h3:=dQ h (bkT n (bfF hx));have h4:=dQ h2 (bkK n (bfF hx));rw[h3] at h4;rw[bbJ h4]
end loops
end
inductive Wn:List AV->List AV->Prop where
 |nil:Wn [] []
 |r {a:AV}{l k:List AV} (t:Wn l k):Wn (a::l) (a::k)
 |s {o:Own}{n:Nat}{cs ds l k:List AV} (h:cs=ds) (t:Wn l k):Wn (.sl o n cs::l) (.sl .lost n ds::k)
 |d {o:Own}{n:Nat}{cs ds es l k:List AV} (h:Wn cs ds) (e:ds=es) (t:Wn l k):Wn (.sl o n cs::l) (.sl .lost n es::k)
 |g {cs ds l k:List AV} (h:Wn cs ds) (t:Wn l k):Wn (.agg cs::l) (.agg ds::k)
 |u {cs ds l k:List AV} (h:Wn cs ds) (t:Wn l k):Wn (.DW cs::l) (.DW ds::k)
def Wn.refl:∀l:List AV,Wn l l
 |[]=>.nil
 |_::l=>.r (Wn.refl l)
def Wn.len{l k:List AV}(h:Wn l k):l.length=k.length:=by induction h with|nil=>rfl|r _ ih=>simp[ih]|s _ _ ih=>simp[ih]|d _ _ _ _ ih=>simp[ih]|g _ _ _ ih=>simp[ih]|u _ _ _ ih=>simp[ih]
section
variable {c:Cx}{w:World}
mutual
def Wn.ok:∀{l k:List AV},Wn l k->∀{vs:List Value},CF c w l vs->CF c w k vs
 |_,_,.nil,_,hr=>hr
 |_,_,.r t,_,hr=>by cases hr with | cons h1 t1=>exact .cons h1 (t.ok t1)
 |_,_,.s h t,_,hr=>by
  subst h;cases hr with
  |cons h1 t1=>
   refine .cons ?_ (t.ok t1);cases h1 with|sl0 _=>exact .sl0 trivial|MT hn hc ho=>exact .MT hn hc trivial
 |_,_,.d h e t,_,hr=>by
  subst e;cases hr with
  |cons h1 t1=>
   refine .cons ?_ (t.ok t1);cases h1 with|sl0 _=>cases h;exact .sl0 trivial|MT hn hc ho=>exact .MT hn (h.okC hc) trivial
 |_,_,.g h t,_,hr=>by
  cases hr with
  |cons h1 t1=>
   refine .cons ?_ (t.ok t1);cases h1 with|agg h2=>exact .agg (h.ok h2)
 |_,_,.u h t,_,hr=>by
  cases hr with
  |cons h1 t1=>
   refine .cons ?_ (t.ok t1);cases h1 with|DW h2=>exact .DW (h.ok h2)
def Wn.okC:∀{l k:List AV},Wn l k->∀{g o:Nat},A7 c w g o l->A7 c w g o k
 |_,_,.nil,_,_,hr=>hr
 |_,_,.r t,_,_,hr=>by cases hr with | cons hv h1 t1=>exact .cons hv h1 (t.okC t1)
 |_,_,.s h t,_,_,hr=>by
  subst h;cases hr with
  |cons hv h1 t1=>
   refine .cons hv ?_ (t.okC t1);cases h1 with|sl0 _=>exact .sl0 trivial|MT hn hc ho=>exact .MT hn hc trivial
 |_,_,.d h e t,_,_,hr=>by
  subst e;cases hr with
  |cons hv h1 t1=>
   refine .cons hv ?_ (t.okC t1);cases h1 with|sl0 _=>cases h;exact .sl0 trivial|MT hn hc ho=>exact .MT hn (h.okC hc) trivial
 |_,_,.g h t,_,_,hr=>by
  cases hr with
  |cons hv h1 t1=>
   refine .cons hv ?_ (t.okC t1);cases h1 with|agg h2=>exact .agg (h.ok h2)
 |_,_,.u h t,_,_,hr=>by
  cases hr with
  |cons hv h1 t1=>
   refine .cons hv ?_ (t.okC t1);cases h1 with|DW h2=>exact .DW (h.ok h2)
end
end
def Wn.X1{a b c d:List AV}(h:Wn a b)(k:Wn c d):Wn (a++c) (b++d):=by
 induction a generalizing b with
 |nil=>cases h;exact k
 |cons x a ih=>
  cases h with|r t=>exact .r (ih t)|s h t=>exact .s h (ih t)|d h e t=>exact .d h e (ih t)|g h t=>exact .g h (ih t)|u h t=>exact .u h (ih t)
def Rp.wnC{c:Cx}{w:World}{o:Own}{q:Nat}{cs ds:List AV}{u:Value}(h:Wn cs ds)(hr:Rp c w (.sl o q cs) u):Rp c w (.sl o q ds) u:=by cases hr with|sl0 h0=>cases h;exact .sl0 h0|MT hn hc ho=>exact .MT hn (h.okC hc) (by rw[<- h.len];exact ho)
section
variable {P:Program}{G:AP}
def aRW(hm:P.follows .mixedOrders=true)(hG:∀g cs,G g=some cs->BN cs=true){f:FuncId}{args:List AV}{v:AV}(h:WC P G (XS P G) H0 f args s0 (λr _=>∃a,r=.ret a/\Fits 0 0 a v))(hp:BN args=true)(hv:plain v=true):Pure P G f args v:=by
 obtain⟨r,s',hj,a,rfl,hf⟩:=h;have hS:=sound (VD hm) hj;intro s cx w vs hs H5
 have Mf:∀g i x,RI cx w g i x->RI ⟨w.heap.size,[],[],cx.uQ⟩ w g i x:=by
  intro g i x hx;refine⟨hx.1,λhsh=>?_,hx.2.2⟩;rcases hsh with hsh | ⟨r,n,cap,sz,hr,_⟩ | hsh
  cases hsh;simp at hr;exact hx.2.1 hsh
 have E5:St G ⟨w.heap.size,[],[],cx.uQ⟩ w s0 :=
  ⟨rfl,trivial,(λi j g h1=>by simp at h1),(λg hg=>by cases hg),(λid g b h1=>by simp at h1),rfl,(λr g n cap sz hr=>by simp at hr),(λr n hr=>by cases hr),(λg hg=>by cases hg),(λg i hb=>hs.fR hb),(λr r' g n cap sz n' cap' OI hr=>by simp at hr),(λg cs hg=>A7.plain Mf (hG g cs hg) (hs.Mr g cs hg)),aHT _,hs.Od.aRL⟩
 refine(hS _ w vs E5 (CF.plain Mf hp H5)).mono ?_;rintro e w' ⟨c',hx,_,u,rfl,hu⟩;have UM:=hx.below;obtain⟨x2,XV⟩:=hs.same (w':=w') ⟨UM.os,UM.tape,UM.output,UM.size,λk hk _=>UM.block k hk⟩;refine⟨cx,x2,XV,u,rfl,Rp.plain (c:=c'.upto 0 0) (λg i x hvv=>⟨hvv.1,λhsh=>hvv.2.1 (.inr (.inr ?_)),hvv.2.2⟩) hv (hf _ _ _ hu)⟩;show c'.bad g i;rw[hx.bad];exact hsh
def iA(P:Program)(fn:Func)(m:Nat)(Q:AX->List AV->AS->Prop)(v:AV):Prop:=∀a s2,Fits 0 0 a v->bK P fn m Q a s2
def iA.body{fn:Func}{m:Nat}{v:AV}:iA P fn m (PV P fn m (λr _=>∃a,r=.ret a/\Fits 0 0 a v)) v:=λa _ h=>.body ⟨a,rfl,h⟩
def Wq{δ J:Type}(Q:AX->List AV->AS->Prop)(id:Nat)(F:δ->J->List AV)(S:δ->J->AS)(Ok:J->Prop)(d:δ):Prop:=∀j,Ok j->Q (.exit id) (F d j) (S d j)
def iA.rnd{fn:Func}{m:Nat}{L:Code}{s0:AS}{Q:AX->List AV->AS->Prop}{v:AV}(h:iA P fn m Q v):iA P fn m (KN P G L s0 Q) v:=h
def GF{δ ρ β:Type}(k:δ->Option β)(kr:ρ->Option β):δ⊕ρ->Option β
 |.inl d=>k d
 |.inr v=>kr v
def pk:PC P G:=⟨.k,[],trivial⟩
def pb{B b:Bool}(h:B=b):PC P G:=⟨.b b,[.eqb B b],⟨h,trivial⟩⟩
def pn{B b:Bool}(h:B=b):PC P G:=⟨.b (!b),[.eqb (!B) (!b)],⟨by show(!B)=(!b);rw[h],trivial⟩⟩
def aJJ{i:Nat}(h:i < 9223372036854775807):N6 .i64 (ajN ((i:Nat):Int) 1)=((i+1:Nat):Int):=by rw[KR,mH];have:=atZ (i:=i+1) (by omega);rw[<- this];rfl
def aYJ(i:Nat)(h:i < 9223372036854775807):PC P G:=⟨.i ((i+1:Nat):Int),[.eqi (N6 .i64 (ajN ((i:Nat):Int) 1)) ((i+1:Nat):Int)],⟨aJJ h,trivial⟩⟩
def Au{f:FuncId}{args:List AV}{v:AV}(h:Pure P G f args v):PC P G:=⟨.w v,[.pur f args v],⟨h,trivial⟩⟩
def Ff{f:FuncId}{args YX:List AV}{v:AV}(w:Wn args YX)(h:Pure P G f YX v):PC P G:=⟨.w v,[.pur f args v],⟨λs cx wd vs hs ha=>h s cx wd vs hs (w.ok ha),trivial⟩⟩
def Ej{t:TypeId}{a b v:AV}(h:Df P t a b=some v):PC P G:=⟨.w v,[.idx t a b v],⟨h,trivial⟩⟩
def Xp{t:TypeId}{a b v:AV}(h:Ly P t a b=some v):PC P G:=⟨.w v,[.ix t a b v],⟨h,trivial⟩⟩
def AN{op:BinOp}{t:TypeId}{x y:Operand}{a b v:AV}(h:Md P op t x y a b=some v):PC P G:=⟨.w v,[.bin op t x y a b v],⟨h,trivial⟩⟩
def QJ{t:TypeId}{a:AV}{l h m:Option AV}{v:AV}(e:Ml P t a l h m=some v):PC P G:=⟨.o v,[.sli t a l h m v],⟨e,trivial⟩⟩
def Ba(a b:Int):Int:=N6 .i64 (ajN a b)
def A2(a b:Int):Int:=N6 .i64 (oV a b)
def CE(a b:Int):Int:=N6 .i64 (a*b)
def FI{α:Type}(l:List α)(z:Int):Option α:=if 0<=z then l[z.toNat]? else none
structure SP{α:Type}(f:α->List AV)(C:List α->List AV)(k:Nat):Prop where
 eq:∀l,C l=rows f l
 len:∀x,(f x).length=k
 pl:∀x,BN (f x)=true
def SP.X1{α:Type}{f:α->List AV}{C:List α->List AV}{k:Nat}(h:SP f C k)(l m:List α):C (l++m)=C l++C m:=by rw[h.eq,h.eq,h.eq,T8]
def SP.cons{α:Type}{f:α->List AV}{C:List α->List AV}{k:Nat}(h:SP f C k)(x:α)(m:List α):C (x::m)=f x++C m:=by rw[h.eq,h.eq,Hc]
def SP.Se{α:Type}{f:α->List AV}{C:List α->List AV}{k:Nat}(h:SP f C k)(l:List α):BN (C l)=true:=by rw[h.eq];exact zV λx _=>h.pl x
def SP.plS{α:Type}{f:α->List AV}{C:List α->List AV}{k:Nat}(h:SP f C k)(l:List α):plain (.sl .lost l.length (C l))=true:=by simp only[plain,h.Se];rfl
def SP.ix{α:Type}{f:α->List AV}{C:List α->List AV}{k:Nat}(h:SP f C k){t elem:TypeId}(hu:P.underlying t=some (.slice elem))(hs:(P.info? elem).map (·.size)=some k)(own:Own){l:List α}{i:Nat}{x:α}(hx:l[i]?=some x):Df P t (.sl own l.length (C l)) (.sc (.int .i64 ((i:Nat):Int)))=some (.el (f x++C (l.drop (i+1)))):=by
 cases hi:P.info? elem with
 |none=>rw[hi] at hs;cases hs
 |some e=>
  rw[hi] at hs;rw[h.eq,h.eq];exact yE hu hi (by simpa using hs) h.len hx
def SP.ixz{α:Type}{f:α->List AV}{C:List α->List AV}{k:Nat}(h:SP f C k){t elem:TypeId}(hu:P.underlying t=some (.slice elem))(hs:(P.info? elem).map (·.size)=some k)(own:Own){l:List α}{z:Int}{x:α}(hx:FI l z=some x):Df P t (.sl own l.length (C l)) (.sc (.int .i64 z))=some (.el (f x++C (l.drop (z.toNat+1)))):=by unfold FI at hx;split at hx;rename_i hz;have:=h.ix hu hs own hx;rwa[Int.toNat_of_nonneg hz] at this;cases hx
def SP.wn{α:Type}{f:α->List AV}{C:List α->List AV}{k:Nat}(h:SP f C k)(m:List α){a:List AV}(w:Wn a (rows f m)):Wn a (C m):=by rw[h.eq];exact w
def Zn{α:Type}{f:α->List AV}{k:Nat}(hf:∀x,(f x).length=k)(l:List α)(i:Nat):(rows f l).drop (i*k)=rows f (l.drop i):=by
 induction l generalizing i with
 |nil=>simp[rows]
 |cons x l ih=>
  cases i with
  |zero=>simp
  |succ i=>
   rw[Hc,biH,hf x,bbX (by rw[hf x,bdL];omega),bcY,List.drop_succ_cons,<- ih i];congr 1;rw[bdL];omega
def Zo{α:Type}{f:α->List AV}{k:Nat}(hf:∀x,(f x).length=k)(l:List α)(i:Nat):(rows f l).take (i*k)=rows f (l.take i):=by
 induction l generalizing i with
 |nil=>simp[rows]
 |cons x l ih=>
  cases i with
  |zero=>simp[rows]
  |succ i=>
   rw[Hc,bkL,hf x,bgJ (by rw[hf x,bdL];omega),List.take_succ_cons,Hc,<- ih i];congr 2;rw[bdL];omega
def SP.sub{α:Type}{f:α->List AV}{C:List α->List AV}{k:Nat}(h:SP f C k){t elem:TypeId}(hu:P.underlying t=some (.slice elem))(hs:(P.info? elem).map (·.size)=some k)(l q:Nat){s:List α}(h1:l<=q)(h2:q<=s.length)(lo hi:Option AV)(e1:ON 0 lo=some l)(e2:ON s.length hi=some q) :
   Ml P t (.sl .lost s.length (C s)) lo hi none=some (.sl .lost ((s.drop l).take (q - l)).length (C ((s.drop l).take (q - l)))):=by
 cases RM:P.info? elem with
 |none=>rw[RM] at hs;cases hs
 |some e=>
  rw[RM] at hs;have hk:e.size=k:=by simpa using hs
  unfold Ml;simp only[hu,RM,e1,e2,hk];rw[if_pos ⟨h1,h2,by rw[h.eq,Ps h.len]⟩]
  have e3:(if l=0/\q=s.length then Own.lost else if q=s.length/\Own.lost=.full then .full else .lost)=.lost:=by split;rfl;split;rename_i hq;exact absurd hq.2 (by decide);rfl
  rw[e3,h.eq,h.eq,Zn h.len,Zo h.len];congr 2;simp;omega
def vU{β:Type}(f:Nat->Option β):Option β:=open Classical in if h:∃y,∃n0:Nat,∀n,n0<=n->f n=some y then some (bfF h) else none
def cP{β:Type}{f:Nat->Option β}{y:β}(h:vU f=some y):∃n,f n=some y:=by unfold vU at h;split at h;rename_i hx;obtain⟨n0,hn⟩:=bdI hx;rw[bbJ h] at hn;exact⟨n0,hn n0 (aHT _)⟩;cases h
def NA{β:Type}{f:Nat->Option β}{y:β}(n0:Nat)(h:∀n,n0<=n->f n=some y):vU f=some y:=by unfold vU;have hx:∃y,∃n0:Nat,∀n,n0<=n->f n=some y:=⟨y,n0,h⟩;rw[dif_pos hx];obtain⟨n1,hn⟩:=bdI hx;have h1:=h (max n0 n1) (bkT _ _);have h2:=hn (max n0 n1) (bkK _ _);rw[h1] at h2;rw[bbJ h2]
def Of{β:Type}(n:Nat)(x:Option β):Option β:=if n<=100000000 then x else none
def acJ{β:Type}{n:Nat}{x:Option β}{r:β}(h:Of n x=some r):n<=100000000/\x=some r:=by unfold Of at h;split at h;rename_i h1;exact⟨h1,h⟩;cases h
def SP.cU{α:Type}{f:α->List AV}{C:List α->List AV}{k:Nat}(h:SP f C k){t tx e e2 by':Nat}(hu:P.underlying t=some (.slice e))(hux:P.underlying tx=some (.slice e2))(hi:(P.info? e).map (λi=>(i.size,i.bytes,i.zero.map (·.cells.size)))=some (k,by',some k))(hk:0 < k)(hb:by'<=10000)
   (own:Own) (l m:List α) {o:Own}{n:Nat}{ns:List AV} (hn:Wn ns (C m)) (nQ:n=m.length) (ho:ns.all one=true) (hm:m.length≠0) (hlen:l.length+m.length<=100000000):Cd.ok P G (.cU t tx own l.length (C l) (.sl o n ns) k (l++m).length (C (l++m))):=by
 subst nQ;cases hq:P.info? e with
 |none=>rw[hq] at hi;cases hi
 |some i=>
  rw[hq] at hi;simp only[bbB,aUQ,bbI] at hi;obtain⟨h1,h2,h3⟩:=hi;cases hz:i.zero with
  |none=>rw[hz] at h3;cases h3
  |some z=>
   rw[hz] at h3;simp only[bbB,aUQ] at h3;intro s Lv;have hnl:ns.length=m.length*k:=by rw[hn.len,h.eq,Ps h.len]
   have hll:(C l).length=l.length*k:=by rw[h.eq,Ps h.len]
   refine⟨C l++ns,?_,λc w u o' hr=>?_⟩
   have hs:iE P s i.size tx (.sl o m.length ns)=some (m.length,ns):=by unfold iE;rw[hux,h1];simp only[hnl,if_true]
   unfold Lx;simp only[hu,hq,hz];rw[if_pos ⟨by rw[h3,h1],by omega⟩,hs];simp only
   have hbb:(l.length+m.length)*i.bytes<=140737488355328:=by rw[h2];exact bbM (bjB hlen hb) (by decide)
   rw[if_pos ⟨by rw[hll,h1],ho,hbb,by omega⟩,if_neg hm,h1,if_pos Lv,cZ];rw[h.X1];exact Rp.wnC (Wn.X1 (Wn.refl (C l)) hn) hr
def UX{t tx:TypeId}{own:Own}{n:Nat}{cs:List AV}{b:AV}{sz k:Nat}{cs2:List AV}(h:Cd.ok P G (.cU t tx own n cs b sz k cs2)):PC P G :=
 match own with|.row r z=>⟨.g sz k cs2,[.cU t tx (.row r z) n cs b sz k cs2,.eqn n n],⟨h,rfl,trivial⟩⟩|.full=>⟨.g sz k cs2,[.cU t tx .full n cs b sz k cs2],⟨h,trivial⟩⟩|_=>⟨.g sz k cs2,[],trivial⟩
def Se{a:AV}{l:List AV}(h:plain a=true)(t:BN l=true):BN (a::l)=true:=by simp only[BN,h,t];rfl
def aRU{a b:List AV}(ha:BN a=true)(hb:BN b=true):BN (a++b)=true:=by
 induction a with
 |nil=>exact hb
 |cons x a ih=>
  simp only[BN,aUR,bcP] at ha ⊢;exact⟨ha.1,ih ha.2⟩
end
end AI
namespace AI
open Go Go.RowKit
def J8{P:Program}{α β:Type}(m:Sem α)(f:α->Sem β):pv P (m >>= f)=(pv P m).bind λa=>pv P (f a):=by
 show pv P (m.bind f)=_
 induction m with|pure a=>rfl|program k ih=>exact ih P|mark _ k ih=>exact ih|_=>rfl
def On{P:Program}{α:Type}(a:α):pv P (pure a:Sem α)=some a:=rfl
def VV{P:Program}:pv P program=some P:=rfl
def KL{P:Program}{t:TypeId}{d:TypeDesc}(h:P.underlying t=some d):pv P (underlying t)=some d:=by unfold underlying;rw[J8,VV];simp only[TC,h];rfl
def aKU{P:Program}{α:Type}(c:Prop)[Decidable c](a b:Sem α):pv P (if c then a else b)=if c then pv P a else pv P b:=by split<;>rfl
def Xq{P:Program}(d:Nat)(t:TypeId)(xs ys:Array Value)(ht:P.underlying t=some (.struct (P.fieldsOf t)))(hp:P.stoodInHeld t=false) :
   pv P (bfO (d+1) t (.agg xs) (.agg ys))=pv P (bhS d xs ys (P.fieldsOf t).toList):=by
 simp only[bfO,J8,KL ht,TC,VV,hp,bbC,if_false];rw[<- Array.forIn_toList];generalize (P.fieldsOf t).toList=fs;clear ht
 induction fs with
 |nil=>simp[bhS,On]
 |cons f fs ih=>
  simp only[List.forIn_cons,bhS,J8,aKU];split
  ·generalize pv P (part f.type xs f.offset)=r1
   cases r1 with
   |none=>simp
   |some a=>
    simp only[TC];generalize pv P (part f.type ys f.offset)=r2;cases r2 with
    |none=>simp
    |some b=>
     simp only[TC];generalize pv P (bfO d f.type a b)=r3;cases r3 with
     |none=>simp
     |some r=>
      cases r;simp[On];simp only[TC,Bool.not_true,bbC,if_false,On];exact ih
  simp only[On,TC];exact ih
def ayG{P:Program}{t:TypeId}{k:IntKind}(h:P.underlying t=some (.int k))(cs:Array Value)(off:Nat){v:Value}(hv:cs[off]?=some v):pv P (part t cs off)=some v:=by unfold part isAgg;simp[J8,KL h,On,hv]
def eR{P:Program}(d:Nat){t:TypeId}{k k':IntKind}(a b:Int)(h:P.underlying t=some (.int k')):pv P (bfO (d+1) t (.int k a) (.int k b))=some (a == b):=by simp[bfO,J8,KL h,On]
def tK{P:Program}(op:BinOp)(t:TypeId)(x y:Operand)(xs ys:Array Value)(hm:P.eqGuardType P.depth t=false):pv P (eqGuard op t x y (.agg xs) (.agg ys))=some ():=by cases op<;>simp[eqGuard,J8,VV,hm,On]
def Ty(P:Program)(t:TypeId):Nat:=match P.underlying t with|some (.int _)=>1|some .string=>2|_=>0
def fEq:Value->Value->Option Bool
 |.int k a,.int k' b=>if k=k' then some (a == b) else none
 |.string a,.string b=>some (a == b)
 |_,_=>none
def pV:List Value->List Value->Option Bool
 |[],[]=>some true
 |a::as,b::bs=>(fEq a b).bind λr=>(match r with | true=>pV as bs | false=>some false)
 |_,_=>none
def tM{P:Program}{t:TypeId}(h:Ty P t≠0)(cs:Array Value)(off:Nat){v:Value}(hv:cs[off]?=some v):pv P (part t cs off)=some v:=by unfold Ty at h;split at h;rename_i h1;exact ayG h1 cs off hv;rename_i h1;unfold part isAgg;simp[J8,KL h1,On,hv];exact absurd rfl h
def aKT{P:Program}(d:Nat){t:TypeId}{a b:Value}{r:Bool}(hk:(∃k n m,a=.int k n/\b=.int k m/\Ty P t=1)\/(∃x y,a=.string x/\b=.string y/\Ty P t=2))(h:fEq a b=some r):pv P (bfO (d+1) t a b)=some r:=by
 rcases hk with ⟨k,n,m,rfl,rfl,hk⟩ | ⟨x,y,rfl,rfl,hk⟩
 unfold Ty at hk;split at hk;rename_i h1;simp only[fEq,if_true] at h;rw[eR d n m h1];exact h;cases hk;cases hk;unfold Ty at hk;split at hk;cases hk;rename_i h1;simp only[fEq] at h;rw[<- h];simp[bfO,J8,KL h1,On];cases hk
def rF:List Nat->List Value->Prop
 |[],[]=>True
 |k::ks,v::vs=>((∃n,v=.int .i64 n/\k=1)\/(∃x,v=.string x/\k=2))/\rF ks vs
 |_,_=>False
def ahC{P:Program}(d:Nat):∀(fs:List Field)(off:Nat)(ks:List Nat)(xs ys:List Value)(us vs:List Value)(r:Bool),fs.map (λf=>Ty P f.type)=ks->(∀(i:Nat) f,fs[i]?=some f->f.name≠"_"/\f.offset=off+i)->xs.drop off=us->ys.drop off=vs->rF ks us->rF ks vs->pV us vs=some r->pv P (bhS (d+1) xs.toArray ys.toArray fs)=some r:=by
 intro fs
 induction fs with
 |nil=>
  intro off ks xs ys us vs r OE _ hx hy h1 h2 h;cases ks with
  |cons=>cases OE
  |nil=>
   cases us<;>cases vs<;>simp only[rF,pV] at h1 h2 h
   rw[<- h];rfl
 |cons f fs ih=>
  intro off ks xs ys us vs r OE hf hx hy h1 h2 h;cases ks with
  |nil=>cases OE
  |cons k ks=>
   cases us with
   |nil=>cases h1
   |cons u us=>
    cases vs with
    |nil=>cases h2
    |cons v vs=>
     simp only[bcH,bfZ] at OE;obtain⟨hk,OE⟩:=OE;obtain⟨hn,ho⟩:=hf 0 f rfl;rw[bcS] at ho;have hxu:xs.toArray[off]?=some u:=by rw[bdQ,<- bfJ,hx];rfl
     have hyv:ys.toArray[off]?=some v:=by rw[bdQ,<- bfJ,hy];rfl
     have hk0:Ty P f.type≠0:=by rw[hk];rcases h1.1 with ⟨_,_,e⟩ | ⟨_,_,e⟩<;>omega
     have hkk:(∃k n m,u=.int k n/\v=.int k m/\Ty P f.type=1)\/(∃x y,u=.string x/\v=.string y/\Ty P f.type=2):=by
      rw[hk];rcases h1.1 with ⟨n,e1,e2⟩ | ⟨n,e1,e2⟩<;>rcases h2.1 with ⟨m,e3,e4⟩ | ⟨m,e3,e4⟩
      exact .inl ⟨_,n,m,e1,e3,e2⟩;omega;omega;exact .inr ⟨n,m,e1,e3,e2⟩
     simp only[pV] at h;cases hq:fEq u v with
     |none=>rw[hq] at h;cases h
     |some q=>
      rw[hq] at h;simp only[bhS,hn,ne_eq,not_false_eq_true,if_true,ho];simp only[J8,tM hk0 xs.toArray off hxu,tM hk0 ys.toArray off hyv,TC,aKT d hkk hq];cases q with
      |false=>
       have:r=false:=by simpa using h.symm
       subst this;rfl
      |true=>
       have ih:=ih (off+1) ks xs ys us vs r OE (λi f' hi=>by
        have:=hf (i+1) f' (by simpa using hi)
        exact⟨this.1,by rw[this.2];omega⟩) (by rw[<- bgP,hx];rfl) (by rw[<- bgP,hy];rfl) h1.2 h2.2 (by simpa using h)
       simpa using ih
structure Flat(P:Program)(t:TypeId)(ks:List Nat):Prop where
 st:P.underlying t=some (.struct (P.fieldsOf t))
 hp:P.stoodInHeld t=false
 hm:P.eqGuardType P.depth t=false
 kd:(P.fieldsOf t).toList.map (λf=>Ty P f.type)=ks
 nm:(P.fieldsOf t).toList.map (λf=>decide (f.name≠"_"))=bdF ks.length true
 of:(P.fieldsOf t).toList.map (λf=>f.offset)=bcB ks.length
def aiF(vs:List Value):Qd (vs.map .sc)=some vs:=by induction vs with|nil=>rfl|cons v vs ih=>simp[Qd,Z7,ih]
def Flat.pv{P:Program}{t:TypeId}{ks:List Nat}(h:Flat P t ks){us vs:List Value}{r:Bool}(h1:rF ks us)(h2:rF ks vs)(h3:pV us vs=some r):AI.pv P (bfO (9998+1+1) t (.agg us.toArray) (.agg vs.toArray))=some r:=by
 rw[Xq _ _ _ _ h.st h.hp];refine ahC 9998 _ 0 ks us vs us vs r h.kd (λi f hf=>?_) rfl rfl h1 h2 h3
 have hl:i < ks.length:=by have:=(aHS.1 hf).1;have h5:=congrArg bfG h.kd;simp at h5 this;omega
 have a1:=congrArg (λl=>l[i]?) h.nm;have a2:=congrArg (λl=>l[i]?) h.of;simp only[bbS,hf,bbB,List.getElem?_replicate,hl,if_true,aUQ,decide_eq_true_eq] at a1;simp only[bbS,hf,bbB,beK hl,aUQ] at a2;exact⟨a1,by omega⟩
def Flat.bin{P:Program}{t:TypeId}{ks:List Nat}(h:Flat P t ks){us vs:List Value}{r:Bool}(h1:rF ks us)(h2:rF ks vs)(h3:pV us vs=some r)(x y:Operand) :
   Md P .eql t x y (.agg (us.map .sc)) (.agg (vs.map .sc))=some (.sc (.bool r))/\Md P .neq t x y (.agg (us.map .sc)) (.agg (vs.map .sc))=some (.sc (.bool (!r))):=by
 have ht:∀l:List Value,XI (.agg (l.map .sc))=some (.agg l.toArray):=λl=>by simp only[XI,aiF,bbB]
 have hv:=h.pv h1 h2 h3
 have e1:AI.pv P (do eqGuard .eql t x y (.agg us.toArray) (.agg vs.toArray);binOp .eql t (.agg us.toArray) (.agg vs.toArray))=some (.bool r):=by rw[J8,tK _ _ _ _ _ _ h.hm];simp only[TC,binOp,J8,Op.equal,Op.maxDepth];rw[show(10000:Nat)=9998+1+1 from rfl,hv];rfl
 have e2:AI.pv P (do eqGuard .neq t x y (.agg us.toArray) (.agg vs.toArray);binOp .neq t (.agg us.toArray) (.agg vs.toArray))=some (.bool (!r)):=by rw[J8,tK _ _ _ _ _ _ h.hm];simp only[TC,binOp,J8,Op.equal,Op.maxDepth];rw[show(10000:Nat)=9998+1+1 from rfl,hv];rfl
 refine⟨?_,?_⟩;show SF _ _ _ _ _ (.agg _) (.agg _)=_;unfold SF;simp only[ht,e1,TC];rfl;show SF _ _ _ _ _ (.agg _) (.agg _)=_;unfold SF;simp only[ht,e2,TC];rfl
def aMM(x y:Int):Int:=if y > x then y else x
end AI
namespace AI
open Go Go.RowKit
mutual
inductive Rn(k j:Nat)(ρ σ:Nat->Nat):AV->AV->Prop where
 |pl {a:AV} (h:plain a=true):Rn k j ρ σ a a
 |ptr {i off:Nat} (h:i < k):Rn k j ρ σ (.ptr i off) (.ptr (ρ i) off)
 |mp {i:Nat} (h:i < k):Rn k j ρ σ (.mp i) (.mp (ρ i))
 |OG {i off n:Nat} (h:i < k):Rn k j ρ σ (.OG i off n) (.OG (ρ i) off n)
 |row {r sz n:Nat}{cs:List AV} (h:r < j) (hp:BN cs=true):Rn k j ρ σ (.sl (.row r sz) n cs) (.sl (.row (σ r) sz) n cs)
 |agg {cs ds:List AV} (h:UF k j ρ σ cs ds):Rn k j ρ σ (.agg cs) (.agg ds)
 |DW {cs ds:List AV} (h:UF k j ρ σ cs ds):Rn k j ρ σ (.DW cs) (.DW ds)
 |fn {f:Fn}{a a' b b':List AV} (h1:UF k j ρ σ a a') (h2:UF k j ρ σ b b'):Rn k j ρ σ (.fn f a b) (.fn f a' b')
inductive UF(k j:Nat)(ρ σ:Nat->Nat):List AV->List AV->Prop where
 |nil:UF k j ρ σ [] []
 |cons {a b:AV}{l m:List AV} (h:Rn k j ρ σ a b) (t:UF k j ρ σ l m):UF k j ρ σ (a::l) (b::m)
end
inductive mD(k j:Nat)(ρ σ:Nat->Nat):AF->AF->Prop where
 |cells {cs ds:List AV} (h:UF k j ρ σ cs ds):mD k j ρ σ (.cells cs) (.cells ds)
 |map {es:List (Value×AV×Nat)}{cl:Nat} (h:∀e∈es,plain e.2.1=true):mD k j ρ σ (.map es cl) (.map es cl)
 |Fk {T:TypeId}{i:Nat}{cs ds:List AV} (hi:i < k) (h:UF k j ρ σ cs ds):mD k j ρ σ (.Fk T i cs) (.Fk T (ρ i) ds)
def UF.pl{k j:Nat}{ρ σ:Nat->Nat}:∀{l:List AV},BN l=true->UF k j ρ σ l l
 |[],_=>.nil
 |a::l,h=>by
  simp only[BN,aUR] at h;exact .cons (.pl h.1) (UF.pl h.2)
section
variable {c c':Cx}{w w':World}{k j:Nat}{ρ σ:Nat->Nat}
structure Dn(k j:Nat)(ρ σ:Nat->Nat)(c:Cx)(w:World)(c0:Cx)(w0:World):Prop where
 jG:∀g i v,RI c w g i v->RI c0 w0 g i v
 CG:∀i g,i < k->c.CG[ρ i]?=some (some g)->c0.CG[i]?=some (some g)
 rows:∀r,r < j->∃x,c.rows[σ r]?=some x/\c0.rows[r]?=some x
structure Up(k j:Nat)(ρ σ:Nat->Nat)(c0:Cx)(w0:World)(c:Cx)(w:World):Prop where
 jG:∀g i v,RI c0 w0 g i v->RI c w g i v
 CG:∀i g,i < k->c0.CG[i]?=some (some g)->c.CG[ρ i]?=some (some g)
 rows:∀r,r < j->∃x,c.rows[σ r]?=some x/\c0.rows[r]?=some x
mutual
def Rn.down(d:Dn k j ρ σ c w c' w'):∀{a b:AV}{v:Value},Rn k j ρ σ a b->Rp c w b v->Rp c' w' a v:=by
 intro a b v hn h;cases hn with
 |pl hp=>exact h.plain d.jG hp
 |ptr hi=>cases h with | ptr h1=>exact .ptr (d.CG _ _ hi h1)
 |mp hi=>cases h with | mp h1=>exact .mp (d.CG _ _ hi h1)
 |OG hi=>cases h with | OG hn h1=>exact .OG hn (d.CG _ _ hi h1)
 |@row r sz n cs hr hp=>
  obtain⟨x,hx,hx0⟩:=d.rows r hr;have hl:=(aHS.1 hx0).1;cases h with
  |sl0 h0=>exact .sl0 ⟨h0.1,hl,h0.2.2⟩
  |MT hn hc ho=>
   refine .MT hn (hc.plain d.jG hp) ⟨ho.1,ho.2.1,hl,λe=>ho.2.2.2.1 ?_,λg' n' cap' OI e=>ho.2.2.2.2 g' n' cap' OI ?_⟩;rw[hx,<- hx0];exact e;rw[hx,<- hx0];exact e
 |agg h1=>cases h with | agg h2=>exact .agg (UF.down d h1 h2)
 |DW h1=>cases h with | DW h2=>exact .DW (UF.down d h1 h2)
 |fn h1 h2=>cases h with | fn h3 h4=>exact .fn (UF.down d h1 h3) (UF.down d h2 h4)
def UF.down(d:Dn k j ρ σ c w c' w'):∀{a b:List AV}{v:List Value},UF k j ρ σ a b->CF c w b v->CF c' w' a v:=by intro a b v hn h;cases hn with|nil=>cases h;exact .nil|cons h1 t=>cases h with | cons h2 t2=>exact .cons (Rn.down d h1 h2) (UF.down d t t2)
end
mutual
def Rn.up(d:Up k j ρ σ c w c' w'):∀{a b:AV}{v:Value},Rn k j ρ σ a b->Rp c w a v->Rp c' w' b v:=by
 intro a b v hn h;cases hn with
 |pl hp=>exact h.plain d.jG hp
 |ptr hi=>cases h with | ptr h1=>exact .ptr (d.CG _ _ hi h1)
 |mp hi=>cases h with | mp h1=>exact .mp (d.CG _ _ hi h1)
 |OG hi=>cases h with | OG hn h1=>exact .OG hn (d.CG _ _ hi h1)
 |@row r sz n cs hr hp=>
  obtain⟨x,hx,hx0⟩:=d.rows r hr;have hl:=(aHS.1 hx).1;cases h with
  |sl0 h0=>exact .sl0 ⟨h0.1,hl,h0.2.2⟩
  |MT hn hc ho=>
   refine .MT hn (hc.plain d.jG hp) ⟨ho.1,ho.2.1,hl,λe=>ho.2.2.2.1 ?_,λg' n' cap' OI e=>ho.2.2.2.2 g' n' cap' OI ?_⟩;rw[hx0,<- hx];exact e;rw[hx0,<- hx];exact e
 |agg h1=>cases h with | agg h2=>exact .agg (UF.up d h1 h2)
 |DW h1=>cases h with | DW h2=>exact .DW (UF.up d h1 h2)
 |fn h1 h2=>cases h with | fn h3 h4=>exact .fn (UF.up d h1 h3) (UF.up d h2 h4)
def UF.up(d:Up k j ρ σ c w c' w'):∀{a b:List AV}{v:List Value},UF k j ρ σ a b->CF c w a v->CF c' w' b v:=by intro a b v hn h;cases hn with|nil=>cases h;exact .nil|cons h1 t=>cases h with | cons h2 t2=>exact .cons (Rn.up d h1 h2) (UF.up d t t2)
end
def Mb.plain(hv:∀g i v,RI c w g i v->RI c' w' g i v):∀{es:List (Value×AV×Nat)}{fs:List MapEntry},(∀e∈es,AI.plain e.2.1=true)->Mb c w es fs->Mb c' w' es fs:=by
 intro es
 induction es with
 |nil=>intro fs _ h;cases h;exact .nil
 |cons e es ih=>
  intro fs hp h;cases h with | cons h1 t=>exact .cons (h1.plain hv (hp _ bbU)) (ih (λx hx=>hp x (bbP _ hx)) t)
def mD.down(d:Dn k j ρ σ c w c' w'){a b:AF}{o:Obj}(hn:mD k j ρ σ a b)(h:Ep c w b o):Ep c' w' a o:=by
 cases hn with
 |cells h1=>cases h with | Ik ext h2=>exact .Ik ext (UF.down d h1 h2)
 |map hp=>cases h with | map h2=>exact .map (h2.plain d.jG hp)
 |Fk hi h1=>cases h with | Fk hp h2=>exact .Fk (hp.imp _root_.id λq=>Rn.down d (.ptr hi) q) (UF.down d h1 h2)
def mD.up(d:Up k j ρ σ c w c' w'){a b:AF}{o:Obj}(hn:mD k j ρ σ a b)(h:Ep c w a o):Ep c' w' b o:=by
 cases hn with
 |cells h1=>cases h with | Ik ext h2=>exact .Ik ext (UF.up d h1 h2)
 |map hp=>cases h with | map h2=>exact .map (h2.plain d.jG hp)
 |Fk hi h1=>cases h with | Fk hp h2=>exact .Fk (hp.imp _root_.id λq=>Rn.up d (.ptr hi) q) (UF.up d h1 h2)
end
structure Upd(k j:Nat)(ρ σ:Nat->Nat)(h2:List (Nat×AF))(F2:List (Nat×Nat))(s s2:AS):Prop where
 nx:s2.nx=s.nx
 nr:s2.nr=s.nr
 desc:∀n,Kr s.h n->Kr s2.h n
 get:∀id b,s2.get id=some b->(∃i b0,i < k/\id=ρ i/\look i h2=some b0/\mD k j ρ σ b0 b)\/((∀i,i < k->id≠ρ i)/\s.get id=some b)
 tok:∀q n,DT q s2.F=some n->(∃r,r < j/\q=σ r/\DT r F2=some n)\/((∀r,r < j->q≠σ r)/\DT q s.F=some n)
def RnR(k j:Nat)(ρ σ:Nat->Nat):CR->CR->Prop
 |.ret v,.ret v'=>Rn k j ρ σ v v'
 |.pan v,.pan v'=>Rn k j ρ σ v v'
 |_,_=>False
def aHG{P:Program}{G:AP}(hG:∀g cs,G g=some cs->BN cs=true){f:FuncId}{args bT:List AV}{r r':CR}{hm h2:List (Nat×AF)}{k j:Nat}{Fm F2:List (Nat×Nat)}(h:Sound P G (.call f args ⟨hm,k,Fm,j⟩ r ⟨h2,k,F2,j⟩))(hd:Kr hm k)
   (ρ σ:Nat->Nat) (aVO:∀i i',i < k->i' < k->ρ i=ρ i'->i=i') (aDC:∀i i',i < j->i' < j->σ i=σ i'->i=i') (H5:UF k j ρ σ args bT)
   {s s2:AS} (xO:∀i b,i < k->look i hm=some b->∃b',s.get (ρ i)=some b'/\mD k j ρ σ b b')
   (SQ:∀cx w vs,St G cx w s->CF cx w bT vs->∀i,i < k->∃g,cx.CG[ρ i]?=some (some g))
   (aQL:∀q n,q < j->DT q Fm=some n->DT (σ q) s.F=some n) (aQK:∀q,q < j->∃n,DT q Fm=some n) (hFm:∀q n,DT q Fm=some n->q < j)
   (hr:RnR k j ρ σ r r')
   (hu:Upd k j ρ σ h2 F2 s s2):Sound P G (.call f bT s r' s2):=by
 intro cx w vs hs ha;have hph:=SQ cx w vs hs ha
 have hg:∀i:Nat,∃g,i < k->cx.CG[ρ i]?=some (some g):=λi=>by
  by_cases hi:i < k;obtain⟨g,hg⟩:=hph i hi;exact⟨g,λ_=>hg⟩;exact⟨0,λh=>absurd h hi⟩
 obtain⟨gs,hgs⟩:=biJ hg
 have hrw:∀q:Nat,∃x,q < j->cx.rows[σ q]?=some x:=λq=>by
  by_cases hq:q < j;obtain⟨n,hn⟩:=aQK q hq;rcases hs.H8 _ _ (aQL q n hq hn) with ⟨h1,_⟩ | ⟨g,cap,sz,h1⟩
  exact⟨_,λ_=>h1⟩;exact⟨_,λ_=>h1⟩;exact⟨.gone,λh=>absurd h hq⟩
 obtain⟨rw,hrw⟩:=biJ hrw;have Yc:∀i,i < k->some (gs i)∈cx.CG:=λi hi=>aUV (hgs i hi);have hgi:∀i i',i < k->i' < k->gs i=gs i'->i=i':=λi i' hi RM e=>aVO i i' hi RM (hs.nodup _ _ _ (hgs i hi) (by rw[e];exact hgs i' RM));let K:Nat->Prop:=λq=>(∃i,i < k/\q=gs i)\/∃r n cap sz,r < j/\cx.rows[σ r]?=some (.Q2 q n cap sz);let c0:Cx:=⟨0,(bcB k).map λi=>some (gs i),(bcB j).map rw,λq i=>¬K q/\cx.uQ q i⟩
 have Za:∀(i g:Nat),c0.CG[i]?=some (some g)↔i < k/\g=gs i:=by intro i g;show((bcB k).map λi=>some (gs i))[i]?=some (some g)↔_;rw[bbS];by_cases hi:i < k;rw[beK hi];simp[hi,eq_comm];rw[bcK (by simp;omega)];simp[hi]
 have rV:∀g,some g∈c0.CG->∃i,i < k/\g=gs i:=by intro g hg';obtain⟨i,hi,e⟩:=bfI.1 hg';exact⟨i,List.mem_range.1 hi,(bbJ e).symm⟩
 have dL:∀(q:Nat) x,c0.rows[q]?=some x->q < j/\cx.rows[σ q]?=some x:=by intro q x hx;have hx:((bcB j).map rw)[q]?=some x:=hx;have hl:=(aHS.1 hx).1;simp at hl;rw[bbS,beK hl] at hx;simp at hx;subst hx;exact⟨hl,hrw q hl⟩
 have xZ:∀q,q < j->c0.rows[q]?=some (rw q):=by intro q hq;show((bcB j).map rw)[q]?=some (rw q);rw[bbS,beK hq];rfl
 have anO:c0.rows.length=j:=by show((bcB j).map rw).length=j;simp
 have Mf:∀g i x,RI cx w g i x->RI c0 w g i x:=by
  intro g i x hx;refine⟨hx.1,λhsh=>?_,hx.2.2⟩;rcases hsh with hsh | ⟨r,n,cap,sz,hr,h1,h2⟩ | hsh
  obtain⟨i',RM,rfl⟩:=rV g hsh;exact hx.2.1 (.inl (Yc i' RM));exact hx.2.1 (.inr (.inl ⟨σ r,n,cap,sz,(dL _ _ hr).2,h1,h2⟩));exact hx.2.1 hsh.2
 have hdn:Dn k j ρ σ cx w c0 w:=⟨Mf,λi g hi hg'=>by
  rw[Za];rw[hgs i hi] at hg';cases hg';exact⟨hi,rfl⟩,λq hq=>⟨rw q,hrw q hq,xZ q hq⟩⟩
 have E5:St G c0 w ⟨hm,k,Fm,j⟩:=by refine⟨by simp[c0],hd,λi i' g h1 h2=>?_,λg _=>bcJ _,λid g b h1 h2=>?_,anO.symm,λq g n cap sz hq=>?_,λq n hq=>?_,λg hg'=>?_,(λq i hb=>hs.fR hb.2),λq q' g n cap sz n' cap' OI h1 h2=>?_,(λg cs hg'=>A7.plain Mf (hG g cs hg') (hs.Mr g cs hg')),bcJ _,hs.Od.sub (λg hm=>by obtain⟨i,hi,rfl⟩:=rV g hm;exact Yc i hi) (λr g n cap sz e=>⟨σ r,n,cap,sz,(dL _ _ e).2⟩)⟩;obtain⟨hi,e1⟩:=(Za i g).1 h1;obtain⟨RM,e2⟩:=(Za i' g).1 h2;exact hgi i i' hi RM (e1.symm.trans e2);obtain⟨hi,rfl⟩:=(Za id g).1 h1;obtain⟨b',Qp,hn⟩:=xO id b hi h2;obtain⟨o,ho,hb⟩:=hs.box (ρ id) (gs id) _ (hgs id hi) Qp;exact⟨o,ho,hn.down hdn hb⟩;obtain⟨hq1,hJ⟩:=dL _ _ hq;obtain⟨_,_,a3,a4,a5⟩:=hs.row _ _ _ _ _ hJ;refine⟨λi hb=>hb.1 (.inr ⟨q,n,cap,sz,hq1,hJ⟩),bcJ _,λhm'=>?_,a4,a5⟩;obtain⟨i,hi,rfl⟩:=rV g hm';exact a3 (Yc i hi);have hlt:=hFm q n hq;have:=hs.H8 _ _ (aQL q n hlt hq);rw[hrw q hlt] at this;rw[xZ q hlt];exact this;obtain⟨i,hi,rfl⟩:=rV g hg';exact hs.NL (Yc i hi);obtain⟨a1,a2⟩:=dL _ _ h1;obtain⟨b1,b2⟩:=dL _ _ h2;exact aDC _ _ a1 b1 (hs.H7 _ _ _ _ _ _ _ _ _ a2 b2)
 refine(h c0 w vs E5 (H5.down hdn ha)).mono ?_;rintro e w' ⟨c',hx,Qu,amS⟩
 have abY:c'.CG=c0.CG:=by
  obtain⟨t,ht⟩:=hx.CG;have h1:c'.CG.length=k:=Qu.len.symm;have h2:c0.CG.length=k:=by simp[c0]
  rw[<- ht,cZ,h2] at h1;have:t=[]:=bbD (by omega);rw[<- ht,this,List.append_nil]
 have aIT:c'.rows.length=j:=Qu.IG.symm;have anP:∀q,q < j->∃y,c'.rows[q]?=some y:=λq hq=>⟨_,atS (by rw[aIT];exact hq)⟩
 have hle:∀q y,q < j->c'.rows[q]?=some y->K3 (rw q) y:=by intro q y hq hy;obtain⟨x,h1,h2⟩:=hx.rows q y (by rw[anO];exact hq) hy;rw[xZ q hq] at h1;cases h1;exact h2
 let uJ:List Rw:=(bcB cx.rows.length).map λq=>open Classical in if hq:∃r,r < j/\σ r=q then c'.rows.getD (bfF hq) .gone else cx.rows.getD q .gone
 have anQ:uJ.length=cx.rows.length:=by simp[uJ]
 have iL:∀r,r < j->uJ[σ r]?=c'.rows[r]?:=by intro r hr;have hl:=(aHS.1 (hrw r hr)).1;show((bcB cx.rows.length).map _)[σ r]?=_;rw[bbS,beK hl];simp only[bbB];have hq:∃r',r' < j/\σ r'=σ r:=⟨r,hr,rfl⟩;rw[dif_pos hq];have hc:=bdI hq;have:bfF hq=r:=aDC _ _ hc.1 hr hc.2;rw[this];obtain⟨y,hy⟩:=anP r hr;rw[bcR,hy];rfl
 have nS:∀q,(∀r,r < j->q≠σ r)->uJ[q]?=cx.rows[q]?:=by intro q hq;by_cases hl:q < cx.rows.length;show((bcB cx.rows.length).map _)[q]?=_;rw[bbS,beK hl];simp only[bbB];rw[dif_neg (by rintro⟨r,h1,h2⟩;exact hq r h1 h2.symm),bcR,atS hl];rfl;rw[bcK (by omega),bcK (by omega)]
 have Vf:∀q:Nat,(∃r,r < j/\q=σ r)\/∀r,r < j->q≠σ r:=λq=>by
  by_cases hq:∃r,r < j/\q=σ r;exact .inl hq;exact .inr λr h1 h2=>hq ⟨r,h1,h2⟩
 have VG:∀r g n cap sz,r < j->c'.rows[r]?=some (.Q2 g n cap sz)->(∃r0 n0 Qk jD,r0 < j/\cx.rows[σ r0]?=some (.Q2 g n0 Qk jD))\/w.heap.size<=g:=by
  intro r g n cap sz hr hy;rcases hx.fJ _ _ _ _ _ hy with ⟨r0,n0,Qk,jD,h1⟩ | h1
  obtain⟨h2,h3⟩:=dL _ _ h1;exact .inl ⟨r0,n0,Qk,jD,h2,h3⟩;exact .inr h1
 have UM:=hx.below
 have VF:S4 w w' K:=⟨UM.os,UM.tape,UM.output,UM.size,λq hq hne=>hx.UN q hq (λhm'=>hne (.inl (rV q hm'))) (λr n cap sz hr=>hne (by
  obtain⟨h1,h2⟩:=dL _ _ hr;exact .inr ⟨r,n,cap,sz,h1,h2⟩))⟩
 have hKb:∀q,K q->cx.base<=q:=by rintro q (⟨i,hi,rfl⟩ | ⟨r,n,cap,sz,hr,h1⟩);exact hs.low _ (Yc i hi);exact(hs.row _ _ _ _ _ h1).2.1
 let c1:Cx:=⟨cx.base,cx.CG,uJ,cx.bad⟩
 have rZ:∀g i x,RI c' w' g i x->RI c1 w' g i x:=by
  intro g i x hv;refine⟨hv.1,λhsh=>hv.2.1 ?_,hv.2.2⟩;have Me:¬K g->cx.uQ g i->c'.uQ g i:=λh1 h2=>.inr (.inr (by rw[hx.bad];exact⟨h1,h2⟩));rcases hsh with hsh | ⟨q,n,cap,sz,hq,h1,h2⟩ | hsh
  by_cases hK:K g;rcases hK with ⟨i',RM,rfl⟩ | ⟨r,n,cap,sz,hr,h1⟩
  refine .inl ?_;rw[abY];exact aUV ((Za i' (gs i')).2 ⟨RM,rfl⟩);exact absurd hsh (hs.row _ _ _ _ _ h1).2.2.1;exact Me hK (.inl hsh);rcases Vf q with ⟨r,hr,rfl⟩ | wB
  simp only[c1] at hq;rw[iL r hr] at hq;exact .inr (.inl ⟨r,n,cap,sz,hq,h1,h2⟩);simp only[c1] at hq;rw[nS q wB] at hq;refine Me ?_ (.inr (.inl ⟨q,n,cap,sz,hq,h1,h2⟩));rintro(⟨i',RM,rfl⟩ | ⟨r,n',cap',OI,hr,h3⟩);exact(hs.row _ _ _ _ _ hq).2.2.1 (Yc i' RM);exact wB r hr (hs.H7 _ _ _ _ _ _ _ _ _ hq h3);by_cases hK:K g;rcases hK with ⟨i',RM,rfl⟩ | ⟨r,n,cap,sz,hr,h1⟩
  refine .inl ?_;rw[abY];exact aUV ((Za i' (gs i')).2 ⟨RM,rfl⟩);exact absurd hsh ((hs.row _ _ _ _ _ h1).1 i);exact Me hK (.inr (.inr hsh))
 have ext:Ext cx w c1 w':=by
  refine⟨List.prefix_refl _,by simp[c1,anQ],λq y hq hy=>?_,λg i x hv=>rZ g i x (hx.jG g i x (Mf g i x hv)),VF.below hs.RU hKb,rfl,rfl,λ_ h=>.inl h,λq g n cap sz hq=>?_,λq hq hp hr=>VF.block q hq ?_⟩;rcases Vf q with ⟨r,hr,rfl⟩ | wB
  simp only[c1] at hy;rw[iL r hr] at hy;exact⟨rw r,hrw r hr,hle r y hr hy⟩;simp only[c1] at hy;rw[nS q wB] at hy;exact⟨y,hy,K3.refl y⟩;rcases Vf q with ⟨r,hr,rfl⟩ | wB
  simp only[c1] at hq;rw[iL r hr] at hq;rcases VG _ _ _ _ _ hr hq with ⟨r0,n0,Qk,jD,_,h1⟩ | h1
  exact .inl ⟨_,_,_,_,h1⟩;exact .inr h1;simp only[c1] at hq;rw[nS q wB] at hq;exact .inl ⟨_,_,_,_,hq⟩;rintro(⟨i',RM,rfl⟩ | ⟨r,n',cap',OI,hO,h3⟩);exact hp (Yc i' RM);exact hr _ _ _ _ h3
 have hup:Up k j ρ σ c' w' c1 w':=⟨rZ,λi g hi hg'=>by
  rw[abY,Za] at hg';obtain⟨_,rfl⟩:=hg';exact hgs i hi,λq hq=>by
  obtain⟨y,hy⟩:=anP q hq;exact⟨y,by simp only[c1];rw[iL q hq];exact hy,hy⟩⟩
 have st1:St G c1 w' s2:=by
  refine⟨by rw[hu.nx,hs.len],by rw[hu.nx];exact hu.desc _ hs.desc,hs.nodup,hs.low,λid g b h1 h2=>?_,by rw[hu.nr,hs.IG];exact anQ.symm,λq g n cap sz hq=>?_,λq n hq=>?_,λg hg'=>aUS (hs.NM g hg') VF.size,λg i hb=>aUS (hs.Nz g i hb) VF.size,λq q' g n cap sz n' cap' OI h1 h2=>?_,λg cs hg'=>(hs.Mr g cs hg').mono ext,bbM hs.RU VF.size,hs.Od.mono ext⟩;rcases hu.get id b h2 with ⟨i,b0,hi,rfl,hb0,hn⟩ | ⟨hne,h3⟩
  obtain⟨o,ho,hb⟩:=Qu.box i (gs i) b0 (by rw[abY];exact(Za i (gs i)).2 ⟨hi,rfl⟩) hb0;have h1:cx.CG[ρ i]?=some (some g):=h1;rw[hgs i hi] at h1;cases h1;exact⟨o,ho,hn.up hup hb⟩;obtain⟨o,ho,hb⟩:=hs.box id g b h1 h3;refine⟨o,?_,hb.mono ext⟩;rw[VF.block g (aHQ.1 ho).1 ?_];exact ho;rintro(⟨i',RM,rfl⟩ | ⟨r,n',cap',OI,hO,h4⟩);exact hne i' RM (hs.nodup _ _ _ h1 (hgs i' RM));exact(hs.row _ _ _ _ _ h4).2.2.1 (aUV h1);simp only[c1] at hq ⊢;rcases Vf q with ⟨r,hO,rfl⟩ | wB
  rw[iL r hO] at hq;obtain⟨a1,a2,a3,a4,a5⟩:=Qu.row _ _ _ _ _ hq;rcases VG _ _ _ _ _ hO hq with ⟨r0,n0,Qk,jD,_,h4⟩ | h4
  obtain⟨b1,b2,b3,_⟩:=hs.row _ _ _ _ _ h4;exact⟨b1,b2,b3,a4,a5⟩;refine⟨λi hb=>?_,bbM hs.RU h4,λhm'=>?_,a4,a5⟩;have:=hs.Nz _ _ hb;omega;have:=hs.NL hm';omega;rw[nS q wB] at hq;obtain⟨a1,a2,a3,a4,vs',T,⟨f,a5,hf⟩,a6⟩:=hs.row _ _ _ _ _ hq;refine⟨a1,a2,a3,a4,vs',T,⟨f,?_,hf⟩,a6⟩;rw[VF.block g (aHQ.1 a5).1 ?_];exact a5;rintro(⟨i',RM,rfl⟩ | ⟨r,n',cap',OI,hO,h4⟩);exact a3 (Yc i' RM);exact wB r hO (hs.H7 _ _ _ _ _ _ _ _ _ hq h4);simp only[c1];rcases hu.tok q n hq with ⟨r,hO,rfl,h3⟩ | ⟨wB,h3⟩
  rw[iL r hO];exact Qu.H8 r n h3;rw[nS q wB];exact hs.H8 q n h3;simp only[c1] at h1 h2
  have key:∀r q,r < j->(∀r',r' < j->q≠σ r')->∀n cap sz n' cap' OI,c'.rows[r]?=some (.Q2 g n cap sz)->cx.rows[q]?=some (.Q2 g n' cap' OI)->False:=by
   intro r q hO wB n cap sz n' cap' OI e1 e2;rcases VG _ _ _ _ _ hO e1 with ⟨r0,n0,Qk,jD,hr0,h4⟩ | h4
   exact wB r0 hr0 (hs.H7 _ _ _ _ _ _ _ _ _ e2 h4);have:=hs.Pq e2;omega
  rcases Vf q with ⟨r,hO,rfl⟩ | hq1<;>rcases Vf q' with ⟨r2,hr2,rfl⟩ | hJ
  rw[iL r hO] at h1;rw[iL r2 hr2] at h2;rw[Qu.H7 _ _ _ _ _ _ _ _ _ h1 h2];rw[iL r hO] at h1;rw[nS q' hJ] at h2;exact(key r q' hO hJ _ _ _ _ _ _ h1 h2).elim;rw[nS q hq1] at h1;rw[iL r2 hr2] at h2;exact(key r2 q hr2 hq1 _ _ _ _ _ _ h2 h1).elim;rw[nS q hq1] at h1;rw[nS q' hJ] at h2;exact hs.H7 _ _ _ _ _ _ _ _ _ h1 h2
 refine⟨c1,ext,st1,?_⟩;cases r with
 |ret v=>
  cases r' with
  |ret v'=>
   obtain⟨u,rfl,hu'⟩:=amS;exact⟨u,rfl,Rn.up hup hr hu'⟩
  |pan v'=>exact hr.elim
 |pan v=>
  cases r' with
  |ret v'=>exact hr.elim
  |pan v'=>
   obtain⟨u,rfl,hu'⟩:=amS;exact⟨u,rfl,Rn.up hup hr hu'⟩
end AI
namespace AI
open Go Go.RowKit
def TM:List AF->Nat->List (Nat×AF)->List (Nat×AF)
 |[],_,acc=>acc
 |b::l,n,acc=>TM l (n+1) ((n,b)::acc)
def oX:List Nat->Nat->List (Nat×Nat)
 |[],_=>[]
 |k::l,n=>(n,k)::oX l (n+1)
def yO{M:List AF}:∀{n:Nat}{acc:List (Nat×AF)}{i:Nat}{b:AF},Kr acc n->look i (TM M n acc)=some b->(n<=i/\M[i - n]?=some b)\/look i acc=some b:=by
 induction M with
 |nil=>intro n acc i b _ h;exact .inr h
 |cons x M ih=>
  intro n acc i b hd h;rcases ih (n:=n+1) (acc:=(n,x)::acc) ⟨bdH n,hd⟩ h with ⟨h1,h2⟩ | h1
  refine .inl ⟨by omega,?_⟩;rw[show i - n=(i - (n+1))+1 by omega];exact h2;simp only[look] at h1;split at h1;rename_i hb;have:=beq_true hb;subst this;cases h1;exact .inl ⟨aHT _,by simp⟩;exact .inr h1
def xC{M:List AF}:∀{n:Nat}{acc:List (Nat×AF)},Kr acc n->Kr (TM M n acc) (n+M.length):=by
 induction M with
 |nil=>intro n acc h;exact h
 |cons x M ih=>
  intro n acc h;have:=ih (n:=n+1) (acc:=(n,x)::acc) ⟨bdH n,h⟩;rw[amN,show n+(M.length+1)=n+1+M.length by omega];exact this
def Yj{T:List Nat}:∀{n r k:Nat},DT r (oX T n)=some k->n<=r/\T[r - n]?=some k:=by
 induction T with
 |nil=>intro n r k h;cases h
 |cons x T ih=>
  intro n r k h;simp only[oX,DT] at h;split at h;rename_i hb;have:=beq_true hb;subst this;cases h;exact⟨aHT _,by simp⟩;obtain⟨h1,h2⟩:=ih h;refine⟨by omega,?_⟩;rw[show r - n=(r - (n+1))+1 by omega];exact h2
def lJ{T:List Nat}:∀{n r:Nat},n<=r->r - n < T.length->∃k,DT r (oX T n)=some k:=by
 induction T with
 |nil=>intro n r _ h;simp at h
 |cons x T ih=>
  intro n r h1 h2;simp only[oX,DT];split;exact⟨_,rfl⟩;rename_i hb;have:=beq_false hb;exact ih (by omega) (by simp at h2;omega)
inductive Zw(k j:Nat)(ρ σ:Nat->Nat):List AF->List (Nat×AF)->Prop where
 |nil:Zw k j ρ σ [] []
 |cons {b b':AF}{i:Nat}{l:List AF}{m:List (Nat×AF)} (h:mD k j ρ σ b b') (t:Zw k j ρ σ l m):Zw k j ρ σ (b::l) ((i,b')::m)
def Zw.len{k j:Nat}{ρ σ:Nat->Nat}{l:List AF}{m:List (Nat×AF)}(h:Zw k j ρ σ l m):l.length=m.length:=by induction h with|nil=>rfl|cons _ _ ih=>simp[ih]
def Zw.get{k j:Nat}{ρ σ:Nat->Nat}{l:List AF}{m:List (Nat×AF)}(h:Zw k j ρ σ l m):∀{i:Nat}{b:AF},l[i]?=some b->∃e,m[i]?=some e/\mD k j ρ σ b e.2:=by
 induction h with
 |nil=>intro i b hb;simp at hb
 |cons h _ ih=>
  intro i b hb;cases i with|zero=>simp at hb;subst hb;exact⟨_,rfl,h⟩|succ i=>exact ih (by simpa using hb)
def Zw.aUM{k j:Nat}{ρ σ:Nat->Nat}{l:List AF}{m:List (Nat×AF)}(h:Zw k j ρ σ l m):∀{i:Nat}{e:Nat×AF},m[i]?=some e->∃b,l[i]?=some b/\mD k j ρ σ b e.2:=by
 induction h with
 |nil=>intro i b hb;simp at hb
 |cons h _ ih=>
  intro i b hb;cases i with|zero=>simp at hb;subst hb;exact⟨_,rfl,h⟩|succ i=>exact ih (by simpa using hb)
def vF:∀(l:List (Nat×AF)) (s:AS) (id:Nat) (b:AF),(s.YM l).get id=some b->(∃e∈l,e.1=id/\e.2=b)\/((∀e∈l,e.1≠id)/\s.get id=some b)
 |[],s,id,b,h=>.inr ⟨(λe he=>by cases he),h⟩
 |e::l,s,id,b,h=>by
  rcases vF l (s.put e.1 e.2) id b h with ⟨x,hx,h1⟩ | ⟨h1,h2⟩
  exact .inl ⟨x,bbP _ hx,h1⟩;rcases gG h2 with ⟨h3,h4⟩ | ⟨h3,h4⟩
  exact .inl ⟨e,bbU,h3.symm,h4.symm⟩;refine .inr ⟨λx hx=>?_,h4⟩;rcases bbG.1 hx with rfl | hx
  exact λe=>h3 e.symm;exact h1 x hx
def lO:∀(l:List (Nat×AF)) (s:AS),(s.YM l).nx=s.nx/\(s.YM l).nr=s.nr/\(s.YM l).F=s.F/\∀n,Kr s.h n->Kr (s.YM l).h n
 |[],s=>⟨rfl,rfl,rfl,λ_ h=>h⟩
 |e::l,s=>by
  obtain⟨h1,h2,h3,h4⟩:=lO l (s.put e.1 e.2);exact⟨h1,h2,h3,λn h=>h4 n (gF h)⟩
def kA:∀(l:List (Nat×Nat)) (s:AS) (q n:Nat),DT q (s.Ve l).F=some n->(∃e∈l,e.1=q/\e.2=n)\/((∀e∈l,e.1≠q)/\DT q s.F=some n)
 |[],s,q,n,h=>.inr ⟨(λe he=>by cases he),h⟩
 |e::l,s,q,n,h=>by
  rcases kA l _ q n h with ⟨x,hx,h1⟩ | ⟨h1,h2⟩
  exact .inl ⟨x,bbP _ hx,h1⟩;rcases lF h2 with ⟨h3,h4,_⟩ | ⟨h3,h4⟩
  exact .inl ⟨e,bbU,h3.symm,h4.symm⟩;refine .inr ⟨λx hx=>?_,h4⟩;rcases bbG.1 hx with rfl | hx
  exact λe=>h3 e.symm;exact h1 x hx
def cV:∀(l:List (Nat×Nat)) (s:AS),(s.Ve l).nx=s.nx/\(s.Ve l).nr=s.nr/\(s.Ve l).h=s.h
 |[],s=>⟨rfl,rfl,rfl⟩
 |e::l,s=>cV l _
def WU:∀{l:List (Nat×AF)}{s:AS},cT s l=PF l->∀{i:Nat}{e:Nat×AF},l[i]?=some e->s.get e.1=some e.2
 |[],s,_,i,e,he=>by simp at he
 |x::l,s,h,i,e,he=>by
  simp only[cT,PF,bfZ] at h;cases i with|zero=>simp at he;subst he;exact h.1|succ i=>exact WU h.2 (by simpa using he)
def rK:∀{l:List (Nat×Nat)}{F:List (Nat×Nat)},jY F l=Qg l->∀{i:Nat}{e:Nat×Nat},l[i]?=some e->DT e.1 F=some e.2
 |[],s,_,i,e,he=>by simp at he
 |x::l,s,h,i,e,he=>by
  simp only[jY,Qg,bfZ] at h;cases i with|zero=>simp at he;subst he;exact h.1|succ i=>exact rK h.2 (by simpa using he)
mutual
inductive Occ(id:Nat):AV->Prop where
 |ptr {off:Nat}:Occ id (.ptr id off)
 |mp:Occ id (.mp id)
 |OG {off n:Nat}:Occ id (.OG id off n)
 |agg {cs:List AV} (h:Tb id cs):Occ id (.agg cs)
 |fn1 {f:Fn}{a b:List AV} (h:Tb id a):Occ id (.fn f a b)
 |fn2 {f:Fn}{a b:List AV} (h:Tb id b):Occ id (.fn f a b)
inductive Tb(id:Nat):List AV->Prop where
 |here {a:AV}{l:List AV} (h:Occ id a):Tb id (a::l)
 |there {a:AV}{l:List AV} (h:Tb id l):Tb id (a::l)
end
mutual
def Occ.CG{c:Cx}{w:World}{id:Nat}:∀{a:AV}{v:Value},Occ id a->Rp c w a v->∃g,c.CG[id]?=some (some g):=by
 intro a v ho h;cases ho with
 |ptr=>cases h with | ptr h1=>exact⟨_,h1⟩
 |mp=>cases h with | mp h1=>exact⟨_,h1⟩
 |OG=>cases h with | OG hn h1=>exact⟨_,h1⟩
 |agg h1=>cases h with | agg h2=>exact Tb.CG h1 h2
 |fn1 h1=>cases h with | fn h2 h3=>exact Tb.CG h1 h2
 |fn2 h1=>cases h with | fn h2 h3=>exact Tb.CG h1 h3
def Tb.CG{c:Cx}{w:World}{id:Nat}:∀{a:List AV}{v:List Value},Tb id a->CF c w a v->∃g,c.CG[id]?=some (some g):=by
 intro a v ho h;cases ho with
 |here h1=>cases h with | cons h2 _=>exact Occ.CG h1 h2
 |there h1=>cases h with | cons _ h2=>exact Tb.CG h1 h2
end
inductive Rch(args:List AV)(pre:List (Nat×AF)):Nat->Prop where
 |arg {id:Nat} (h:Tb id args):Rch args pre id
 |box {i id p:Nat}{cs:List AV} (h:Rch args pre i) (hp:pre[p]?=some (i,.cells cs)) (ho:Tb id cs):Rch args pre id
 |Fk {i id p j:Nat}{T:TypeId}{cs:List AV} (h:Rch args pre i) (hp:pre[p]?=some (i,.Fk T j cs)) (ho:Tb id cs):Rch args pre id
def Rch.CG{G:AP}{args:List AV}{pre:List (Nat×AF)}{s:AS}(hb:cT s pre=PF pre){cx:Cx}{w:World}{vs:List Value}(hs:St G cx w s)(ha:CF cx w args vs){id:Nat}(h:Rch args pre id):∃g,cx.CG[id]?=some (some g):=by
 induction h with
 |arg h=>exact h.CG ha
 |box h hp ho ih=>
  obtain⟨g,hg⟩:=ih;obtain⟨o,_,rQ⟩:=hs.box _ g _ hg (WU hb hp);cases rQ with|Ik ext hr=>exact ho.CG hr
 |Fk h hp ho ih=>
  obtain⟨g,hg⟩:=ih;obtain⟨o,_,rQ⟩:=hs.box _ g _ hg (WU hb hp);cases rQ with|Fk _ hr=>exact ho.CG hr
def JI{β:Type}(l:List (Nat×β))(i:Nat):Nat:=match l[i]? with|some e=>e.1|none=>0
def LH{β:Type}{l:List (Nat×β)}{i:Nat}{e:Nat×β}(h:l[i]?=some e):JI l i=e.1:=by unfold JI;rw[h]
def keys{β:Type}(l:List (Nat×β)):List Nat:=l.map (·.1)
def kK{β:Type}{l:List (Nat×β)}(h:(keys l).Nodup){i i':Nat}(hi:i < l.length)(RM:i' < l.length)(e:JI l i=JI l i'):i=i':=by
 have h1:(keys l)[i]?=some (JI l i):=by unfold keys;rw[bbS,atS hi,LH (atS hi)];rfl
 have h2:(keys l)[i']?=some (JI l i'):=by unfold keys;rw[bbS,atS RM,LH (atS RM)];rfl
 rw[<- e] at h2;exact agU h h1 h2
def RZ{β β':Type}{l:List (Nat×β)}{m:List (Nat×β')}(h:keys l=keys m)(i:Nat):JI l i=JI m i:=by have h1:=congrArg (λx=>x[i]?) h;unfold keys at h1;simp only[bbS] at h1;unfold JI;cases hl:l[i]?<;>cases hm:m[i]?<;>rw[hl,hm] at h1<;>simp at h1<;>simp[h1]
def aHH{P:Program}{G:AP}(hG:∀g cs,G g=some cs->BN cs=true){f:FuncId}{args bT:List AV}{r r':CR}{M M2:List AF}{T T2:List Nat}(pre Sz:List (Nat×AF))(tp tu:List (Nat×Nat)){k j:Nat}
   (h:Sound P G (.call f args ⟨TM M 0 [],k,oX T 0,j⟩ r ⟨TM M2 0 [],k,oX T2 0,j⟩))
   (hk:M.length=k) (hj:T.length=j) (hj2:T2.length=j)
   (hku:keys Sz=keys pre) (hkt:keys tu=keys tp) (hnb:(keys pre).Nodup) (hnt:(keys tp).Nodup)
   (htp:tp.map (·.2)=T) (htu:tu.map (·.2)=T2)
   (hb:Zw k j (JI pre) (JI tp) M pre) (hb2:Zw k j (JI pre) (JI tp) M2 Sz)
   (H5:UF k j (JI pre) (JI tp) args bT)
   (hr:RnR k j (JI pre) (JI tp) r r')
   (aWB:∀e∈pre,Rch bT pre e.1):Cd.ok P G (.Q4 f bT r' pre tp Sz tu):=by
 intro s hgb hgf;have hpl:pre.length=k:=by rw[<- hb.len,hk]
 have htl:tp.length=j:=by rw[<- hj,<- htp,bcQ]
 have hul:Sz.length=k:=by have:=congrArg bfG hku;simp only[keys,bcQ] at this;omega
 have baQ:tu.length=j:=by rw[<- hj2,<- htu,bcQ]
 refine aHG hG h (by have:=xC (M:=M) (n:=0) (acc:=[]) trivial;rw[aUU,hk] at this;exact this) (JI pre) (JI tp) (λi i' hi RM e=>kK hnb (by omega) (by omega) e) (λi i' hi RM e=>kK hnt (by omega) (by omega) e) H5 (s:=s) (λi b hi hl=>?_) (λcx w vs hs ha i hi=>?_) (λq n hq hl=>?_) (λq hq=>?_) (λq n hl=>?_) hr ?_;rcases yO (acc:=[]) trivial hl with ⟨_,h1⟩ | h1
 rw[bgI] at h1;obtain⟨e,he,hn⟩:=hb.get h1;exact⟨e.2,by rw[LH he];exact WU hgb he,hn⟩;cases h1;have he:pre[i]?=some pre[i]:=atS (by omega);rw[LH he];exact(aWB _ (aUV he)).CG hgb hs ha
 ·obtain⟨_,h1⟩:=Yj hl
  rw[bgI,<- htp,bbS] at h1;cases he:tp[q]? with
  |none=>rw[he] at h1;cases h1
  |some e=>
   rw[he] at h1;simp at h1;rw[LH he,<- h1];exact rK hgf he
 exact lJ (bcJ _) (by omega);obtain⟨_,h1⟩:=Yj hl;have:=(aHS.1 h1).1;omega
 ·obtain⟨a1,a2,a3,a4⟩:=lO Sz s
  obtain⟨b1,b2,b3⟩:=cV tu (s.YM Sz);refine⟨by rw[b1,a1],by rw[b2,a2],λn hd=>by rw[b3];exact a4 n hd,λid b hg=>?_,λq n hq=>?_⟩
  ·have hg:(s.YM Sz).get id=some b:=by
    unfold AS.get at hg ⊢;rw[b3] at hg;exact hg
   rcases vF Sz s id b hg with ⟨e,he,rfl,rfl⟩ | ⟨h1,h2⟩
   ·obtain⟨i,hi⟩:=biV.1 he
    have hil:=(aHS.1 hi).1;obtain⟨b0,hb0,hn⟩:=hb2.aUM hi;refine .inl ⟨i,b0,by omega,by rw[<- RZ hku,LH hi],?_,hn⟩
    have:∀(M:List AF)(n:Nat) (acc:List (Nat×AF)) (i:Nat) (b:AF),M[i]?=some b->(∀e∈acc,e.1 < n)->look (n+i) (TM M n acc)=some b:=by
     intro M
     induction M with
     |nil=>intro n acc i b h;simp at h
     |cons x M ih=>
      intro n acc i b h rP;cases i with
      |succ i=>
       have:=ih (n+1) ((n,x)::acc) i b (by simpa using h) (λe he=>by
        rcases bbG.1 he with rfl | he
        exact bdH _;have:=rP e he;omega)
       rw[show n+(i+1)=n+1+i by omega];exact this
      |zero=>
       simp at h;subst h;simp only[TM,bcS]
       have aQI:∀(M:List AF)(n':Nat) (acc:List (Nat×AF)),n < n'->look n (TM M n' acc)=look n acc:=by
        intro M
        induction M with
        |nil=>intro n' acc _;rfl
        |cons y M ih2=>
         intro n' acc hlt;simp only[TM];rw[ih2 (n'+1) _ (by omega)];simp only[look]
         have:bcA n' n=false:=by cases hq:bcA n' n with|false=>rfl|true=>have:=beq_true hq;omega
         rw[this]
       rw[aQI M (n+1) _ (by omega)];simp only[look];rw[show bcA n n=true from bgK n]
    have:=this M2 0 [] i b0 hb0 (λe he=>by cases he);rwa[aUU] at this
   refine .inr ⟨λi hi e=>?_,h2⟩;have he:Sz[i]?=some Sz[i]:=atS (by omega);refine h1 _ (aUV he) ?_;rw[e,<- RZ hku,LH he]
  rcases kA tu _ q n hq with ⟨e,he,rfl,rfl⟩ | ⟨h1,h2⟩
  obtain⟨i,hi⟩:=biV.1 he;have hil:=(aHS.1 hi).1;refine .inl ⟨i,by omega,by rw[<- RZ hkt,LH hi],?_⟩;obtain⟨kk,hkk⟩:=lJ (T:=T2) (n:=0) (r:=i) (bcJ _) (by omega);obtain⟨_,h3⟩:=Yj hkk;rw[bgI,<- htu,bbS,hi] at h3;simp at h3;rw[hkk,h3];refine .inr ⟨λi hi e=>?_,by rw[<- a3];exact h2⟩;have he:tu[i]?=some tu[i]:=atS (by omega);refine h1 _ (aUV he) ?_;rw[e,<- RZ hkt,LH he]
end AI
namespace AI
open Go Go.RowKit
section
variable {P:Program}{G:AP}
def QM(G:AP)(s0:AS)(r0:CR)(s2:AS):CR->AS->Prop:=λr s'=>match r0 with|.ret v=>∃a,r=.ret a/\Frg G s0 [a] s' [v] s2|.pan v=>∃a,r=.pan a/\Frg G s0 [a] s' [v] s2
def aaD(hm:P.follows .mixedOrders=true){f:FuncId}{args:List AV}{s0 s2:AS}{r0:CR}(h:WC P G (XS P G) H0 f args s0 (QM G s0 r0 s2)):Sound P G (.call f args s0 r0 s2):=by
 obtain⟨r,s',hj,hq⟩:=h;have hS:=sound (VD hm) hj;intro cx w vs hs H5;refine(hS cx w vs hs H5).mono ?_;rintro e w' ⟨c',hx,hs',amS⟩;cases r0 with
 |ret v=>
  obtain⟨a,rfl,hf⟩:=hq;obtain⟨u,rfl,hu⟩:=amS;obtain⟨c2,x2,XV,f2⟩:=hf cx w c' w' [u] hx hs hs' (.cons hu .nil);cases f2 with|cons f3 _=>exact⟨c2,x2,XV,u,rfl,f3⟩
 |pan v=>
  obtain⟨a,rfl,hf⟩:=hq;obtain⟨u,rfl,hu⟩:=amS;obtain⟨c2,x2,XV,f2⟩:=hf cx w c' w' [u] hx hs hs' (.cons hu .nil);cases f2 with|cons f3 _=>exact⟨c2,x2,XV,u,rfl,f3⟩
def Wv(P:Program)(G:AP)(fn:Func)(m:Nat)(s0:AS)(Q:AX->List AV->AS->Prop)(v:AV)(s2:AS):Prop:=∀a s',Frg G s0 [a] s' [v] s2->bK P fn m Q a s'
def XY(G:AP)(m:Nat)(s0:AS)(Q:AX->List AV->AS->Prop)(v:AV)(s2:AS):Prop:=∀a s',Frg G s0 [a] s' [v] s2->jN m Q a s'
def Wv.body{fn:Func}{m:Nat}{s0 s2:AS}{v:AV}:Wv P G fn m s0 (PV P fn m (QM G s0 (.ret v) s2)) v s2:=λa s' hf=>.body ⟨a,rfl,hf⟩
def XY.body{fn:Func}{m:Nat}{s0 s2:AS}{v:AV}:XY G m s0 (PV P fn m (QM G s0 (.pan v) s2)) v s2:=λa s' hf=>.body ⟨a,rfl,hf⟩
def Wv.rnd{fn:Func}{m:Nat}{L:Code}{s0 s1 s2:AS}{Q:AX->List AV->AS->Prop}{v:AV}(h:Wv P G fn m s0 Q v s2):Wv P G fn m s0 (KN P G L s1 Q) v s2:=h
def XY.rnd{m:Nat}{L:Code}{s0 s1 s2:AS}{Q:AX->List AV->AS->Prop}{v:AV}(h:XY G m s0 Q v s2):XY G m s0 (KN P G L s1 Q) v s2:=h
def Ap{f:FuncId}{args:List AV}{v:AV}{pre:List (Nat×AF)}{tp:List (Nat×Nat)}{Sz:List (Nat×AF)}{tu:List (Nat×Nat)}(h:Cd.ok P G (.Q4 f args (.ret v) pre tp Sz tu)):PC P G :=
 ⟨.u v pre tp Sz tu,[.Q4 f args (.ret v) pre tp Sz tu,.eqx (PF pre) (PF pre) (Qg tp) (Qg tp)],⟨h,⟨rfl,rfl⟩,trivial⟩⟩
def ayD{f:FuncId}{args YX:List AV}{v:AV}{pre:List (Nat×AF)}{tp:List (Nat×Nat)}{Sz:List (Nat×AF)}{tu:List (Nat×Nat)}(w:Wn args YX)(h:Cd.ok P G (.Q4 f YX (.ret v) pre tp Sz tu)):PC P G :=
 ⟨.u v pre tp Sz tu,[.Q4 f args (.ret v) pre tp Sz tu,.eqx (PF pre) (PF pre) (Qg tp) (Qg tp)],⟨λs h1 h2 cx wd vs hs ha=>h s h1 h2 cx wd vs hs (w.ok ha),⟨rfl,rfl⟩,trivial⟩⟩
def AH{f:FuncId}{args:List AV}{v:AV}{pre:List (Nat×AF)}{tp:List (Nat×Nat)}{Sz:List (Nat×AF)}{tu:List (Nat×Nat)}(h:Cd.ok P G (.Q4 f args (.pan v) pre tp Sz tu)):PC P G :=
 ⟨.q v pre tp Sz tu,[.Q4 f args (.pan v) pre tp Sz tu,.eqx (PF pre) (PF pre) (Qg tp) (Qg tp)],⟨h,⟨rfl,rfl⟩,trivial⟩⟩
def pz(c:Nat):PC P G:=⟨.z c,[],trivial⟩
def tT:PC P G:=⟨.za,[],trivial⟩
end
end AI
namespace AI
open Go Go.RowKit
def Wn.z{l m:List AV}(t:Wn l m):Wn (.sl .full 0 []::l) (.sl .lost 0 []::m):=.s rfl t
abbrev JJ:=List Value×List AV
def aKF:List Value->Nat->Value
 |[],_=>undef
 |v::_,0=>v
 |_::l,k+1=>aKF l k
def aRO:List AV->Nat->AV
 |[],_=>.sc undef
 |v::_,0=>v
 |_::l,k+1=>aRO l k
def jn(j:JJ)(k:Nat):Value:=aKF j.1 k
def gn(j:JJ)(k:Nat):AV:=aRO j.2 k
def frm:Nat->Nat->List (Nat×AV)->List Nat->Nat->List Nat->Nat->JJ->List AV
 |0,_,_,_,_,_,_,_=>[]
 |n+1,p,l,bs,kb,gs,kg,j=>(match hd1 p l with|some v=>v::frm n (p+1) (l.drop 1) bs kb gs kg j|none=>(match hd2 p bs with|true=>.sc (jn j kb)::frm n (p+1) l (bs.drop 1) (kb+1) gs kg j|false=>(match hd2 p gs with|true=>gn j kg::frm n (p+1) l bs kb (gs.drop 1) (kg+1) j|false=>.any::frm n (p+1) l bs kb gs kg j)))
where
 hd1 (p:Nat):List (Nat×AV)->Option AV
   |[]=>none
   |e::_=>(match bcA e.1 p with | true=>some e.2 | false=>none)
 hd2 (p:Nat):List Nat->Bool
   |[]=>false
   |e::_=>bcA e p
structure Mm(κ ν:Type) where
 es:List (κ×ν×Nat)
 cl:Nat
section
variable {κ ν:Type}[DecidableEq κ]
def kR(k:κ):List (κ×ν×Nat)->Nat->Option (Nat×ν)
 |[],_=>none
 |e::es,i=>if e.1=k then some (i,e.2.1) else kR k es (i+1)
def Mm.get(m:Mm κ ν)(k:κ):Option ν:=(kR k m.es 0).map (·.2)
def Mm.set(m:Mm κ ν)(k:κ)(v:ν):Mm κ ν:=match kR k m.es 0 with
 |some (j,_)=>(match m.es[j]? with | some e=>⟨m.es.set j (k,v,e.2.2),m.cl⟩ | none=>m)
 |none=>⟨m.es++[(k,v,m.cl)],m.cl+1⟩
def Mm.nil:Mm κ ν:=⟨[],0⟩
end
def mEs{κ ν:Type}(kv:κ->Value)(vv:ν->AV)(l:List (κ×ν×Nat)):List (Value×AV×Nat):=l.map λe=>(kv e.1,vv e.2.1,e.2.2)
def mB{κ ν:Type}(kv:κ->Value)(vv:ν->AV)(m:Mm κ ν):AF:=.map (mEs kv vv m.es) m.cl
structure ajA{κ:Type}[DecidableEq κ](d:TypeDesc)(kv:κ->Value):Prop where
 pk:plainKey d=true
 same:∀a b:κ,Zp d (kv a) (kv b)=some (decide (b=a))
def ajO{κ ν:Type}[DecidableEq κ]{d:TypeDesc}{kv:κ->Value}{vv:ν->AV}(hk:ajA d kv)(k:κ):∀(l:List (κ×ν×Nat)) (i:Nat),Wx d (kv k) (mEs kv vv l) i=some ((kR k l i).map λr=>(r.1,vv r.2)):=by
 intro l
 induction l with
 |nil=>intro i;rfl
 |cons e l ih=>
  intro i;simp only[mEs,bcH,Wx,hk.same,kR];by_cases he:e.1=k;simp[he];have:=ih (i+1);unfold mEs at this;simp[he,this]
def aXW:ajA (κ:=ByteArray) .string (λn=>.string n):=⟨rfl,λa b=>by
 simp only[Zp,aUQ];rw[bbR,decide_eq_true_iff];simp only[beq_iff_eq];exact⟨λh=>(ByteArray.ext (bbW h)).symm,λh=>by rw[h]⟩⟩
section
variable {P:Program}{G:AP}{κ ν:Type}[DecidableEq κ]{t kt et:TypeId}{d:TypeDesc}{kv:κ->Value}{vv:ν->AV}
def aRJ(ht:P.underlying t=some (.map kt et))(hd:P.underlying kt=some d)(hk:ajA d kv){z:ν}(hz:LA P et=some (vv z))(m:Mm κ ν)(k:κ):Cd.ok P G (.lkB (mB kv vv m) t (.sc (kv k)) false (vv ((m.get k).getD z))):=by intro s id hg;unfold IR;have hsc:Z7 (.sc (kv k))=some (kv k):=rfl;simp only[ht,hd,hsc,hk.pk,if_true,hg,mB,ajO hk,Mm.get];cases kR k m.es 0 with|none=>simp[hz]|some r=>simp
def plk{b:AF}{t:TypeId}{k:AV}{ok:Bool}{v:AV}(h:Cd.ok P G (.lkB b t k ok v)):PC P G:=⟨.x b v,[.lkB b t k ok v,.eqx [some b] [some b] [] []],⟨h,⟨rfl,rfl⟩,trivial⟩⟩
end
section
variable {κ ν:Type}{kv:κ->Value}{vv:ν->AV}
def aoR{n m:Nat}{μ:Mm κ ν}(h:∀v,plain (vv v)=true):gA n m (mB kv vv μ)=true:=by
 unfold mB gA mEs;generalize μ.es=l
 induction l with|nil=>rfl|cons e l ih=>simp only[bcH,XM,Qe _ _ (h _),ih,bgW]
def axH{n m:Nat}{μ:Mm κ ν}(h:∀v,plain (vv v)=true):SD n m (mB kv vv μ) (mB kv vv μ):=.under (aoR h)
def aDK{k j:Nat}{ρ σ:Nat->Nat}{μ:Mm κ ν}(h:∀v,plain (vv v)=true):mD k j ρ σ (mB kv vv μ) (mB kv vv μ):=.map λe he=>by
 unfold mEs at he;obtain⟨a,_,rfl⟩:=bfI.1 he;exact h _
end
end AI
namespace AI
open Go Go.RowKit
section
variable {P:Program}{G:AP}{α:Type}{f:α->List AV}{C:List α->List AV}{k:Nat}
def ahR{l:List α}{i:Nat}(y:α)(h:i < l.length):l.set i y=l.take i++y::l.drop (i+1):=by rw[List.set_eq_take_append_cons_drop,if_pos h]
def SP.st(h:SP f C k){e:TypeId}(hs:(P.info? e).map (·.size)=some k){l:List α}{i:Nat}{x:α}(hx:l[i]?=some x)(y:α){v:AV}(hv:cellsOf v=f y)(h1:(f y).all one=true):Cd.ok P G (.stB (.cells (C l)) e (0+i*k) v (.cells (C (l.set i y)))):=by
 intro s id hg;have hlt:=(aHS.1 hx).1;have hle:i*k+k<=l.length*k:=by have:=Nat.mul_le_mul_right k hlt;rw[biQ] at this;exact this
 cases hi:P.info? e with
 |none=>rw[hi] at hs;cases hs
 |some j=>
  rw[hi] at hs;have hk:j.size=k:=by simpa using hs
  unfold Mn;rw[hi];simp only[hg];rw[hv,hk,h.eq,aUU,if_pos ⟨h.len y,h1,by rw[Ps h.len];exact hle⟩,h.eq];congr 3;unfold Gp;rw[h.len y,Zo h.len,show i*k+k=(i+1)*k by rw[biQ],Zn h.len,ahR y hlt,T8,Hc,List.append_assoc]
end
end AI
namespace AI
open Go Go.RowKit
section
variable {P:Program}{G:AP}
def ajE{f:FuncId}{fn:Func}{c:Code}{args:List AV}{s s0 s2:AS}{m:Nat}{v:AV}(hf:P.funcs[f]?=some fn)(hb:fn.body=some c)(h:W P G (XS P G) H0 c (args++bdF (fn.ntmps - args.length) (.sc undef)) s (PV P fn m (QM G s0 (.ret v) s2))):WC P G (XS P G) H0 f args s (λr s'=>QM G s0 (.ret v) s2 r (s'.cut m)):=by
 obtain⟨e,Wr,s1,h1,h2⟩:=h;cases e with
 |normal=>obtain⟨v,h3,h4⟩:=h2;exact⟨_,_,.body hf hb h1 (.inl rfl) h3 (.inr rfl),h4⟩
 |ret=>obtain⟨v,h3,h4⟩:=h2;exact⟨_,_,.body hf hb h1 (.inr rfl) h3 (.inr rfl),h4⟩
 |pan v=>obtain⟨a,ha,_⟩:=h2;cases ha
 |exit id=>exact h2.elim
def aLQ(hm:P.follows .mixedOrders=true){f:FuncId}{args:List AV}{s0 s2:AS}{v:AV}{m:Nat}(h:WC P G (XS P G) H0 f args s0 (λr s'=>QM G s0 (.ret v) s2 r (s'.cut m))):Sound P G (.call f args s0 (.ret v) s2):=by obtain⟨r,s',hj,a,rfl,hf⟩:=h;have hS:=sound (VD hm) hj;intro cx w vs hs H5;refine(hS cx w vs hs H5).mono ?_;rintro e w' ⟨c',hx,hs',u,rfl,hu⟩;obtain⟨c2,x2,XV,f2⟩:=hf cx w c' w' [u] hx hs (hs'.cut m) (.cons hu .nil);cases f2 with|cons f3 _=>exact⟨c2,x2,XV,u,rfl,f3⟩
def avW(hG:∀g cs,G g=some cs->BN cs=true){s s' s2:AS}{Cj G5:List AV}(hn:s.nx<=s2.nx)(hr:s.nr<=s2.nr)(hn2:s2.nx<=s'.nx)(hr2:s2.nr<=s'.nr)
   (hd:Kr s2.h s2.nx) (aHV:∀id b,look id s2.h=some b->∃b',look id s'.h=some b'/\SD s2.nx s2.nr b' b) (hF:∀r n,DT r s2.F=some n->DT r s'.F=some n/\r < s2.nr)
   (hf:Kv s2.nx s2.nr Cj G5):Frg G s Cj s' G5 s2:=by
 intro cx w c' w' vs hx hs hs' Qq;have kF:=hs.len;have hl2:=hs'.len;have vW:=hs.IG;have dG:=hs'.IG
 have SQ:cx.CG <+: c'.CG.take s2.nx:=by obtain⟨t,ht⟩:=hx.CG;rw[<- ht,bkL,bgJ (by omega)];exact bgD _ _
 have hrl:(c'.rows.take s2.nr).length=s2.nr:=by rw[bbT];omega
 refine⟨c'.upto s2.nx s2.nr,⟨SQ,?_,λr x hO h=>hx.rows r x hO (Eb h).1,λg i v hv=>XP (hx.jG g i v hv),hx.below,hx.base,hx.bad,λg hg=>hx.eQ g (bcN hg),λr g n cap sz h=>hx.fJ r g n cap sz (Eb h).1,hx.UN⟩,?_,hf _ _ _ Qq⟩;show cx.rows.length<=(c'.rows.take s2.nr).length;omega;refine⟨?_,hd,λi j g h1 h2=>hs'.nodup i j g (Eb h1).1 (Eb h2).1,λg hg=>hs'.low g (bcN hg),λid g b h1 h2=>?_,hrl.symm,λr g n cap sz h=>?_,λr n h=>?_,λg hg=>hs'.NM g (bcN hg),hs'.Nz,λr r' g n cap sz n' cap' OI h h'=>hs'.H7 r r' g n cap sz n' cap' OI (Eb h).1 (Eb h').1,λg cs hg=>(hs'.Mr g cs hg).upto (Ei _ _ (hG g cs hg)),hs'.RU,hs'.Od.sub (λg hm=>bcN hm) λr g n cap sz e=>⟨r,n,cap,sz,(Eb e).1⟩⟩;show s2.nx=(c'.CG.take s2.nx).length;rw[bbT];omega;obtain⟨b',h3,h4⟩:=aHV id b h2;obtain⟨o,ho,hb⟩:=hs'.box id g b' (Eb h1).1 h3;exact⟨o,ho,h4 _ _ _ hb⟩;obtain⟨a1,a2,a3,a4⟩:=hs'.row r g n cap sz (Eb h).1;exact⟨a1,a2,λhm=>a3 (bcN hm),a4⟩;obtain⟨h1,h2⟩:=hF r n h;rcases hs'.H8 r n h1 with ⟨h3,h4⟩ | ⟨g,cap,sz,h3⟩
 exact .inl ⟨Sy h3 h2,h4⟩;exact .inr ⟨g,cap,sz,Sy h3 h2⟩
def ayY(hG:∀g cs,G g=some cs->BN cs=true){live:List Nat}{n m:Nat}{s0:AS}{Cj:List AV}{s':AS}{VC:List (FP n m)}{fbs:List (FB n m)}{G5:List AV}{s2:AS}(hn:s0.nx<=n)(hr:s0.nr<=m)(hn2:n<=s'.nx)(hr2:m<=s'.nr)(h:aLF live n m Cj s' (fpB VC) (fbB fbs)=some (G5,s2,fpA VC,fbA fbs)):Frg G s0 Cj s' G5 s2:=by unfold aLF at h;split at h;rename_i f1 as hm;split at h;rename_i h1 cas hb;simp only[aUQ,bbI] at h;obtain⟨rfl,rfl,rfl,rfl⟩:=h;intro cx w c' w' vs hx hs hs' Qq;obtain⟨hd,hl⟩:=auS hb;refine avW (s:=s0) (s2:=⟨h1,n,SH m s'.F,m⟩) hG hn hr hn2 hr2 (hd _ (qY hs'.desc)) (λid b hb=>?_) (λr n hr=>rC hr) (axM hm) cx w c' w' vs hx hs hs' Qq;obtain⟨b',h3,h4⟩:=hl id b hb;exact⟨b',VB hs'.desc h3,h4⟩;cases h;cases h
def aPO(n:Nat):List Nat->Bool
 |[]=>false
 |k::l=>bcA n k||aPO n l
def eN(ks:List Nat):List (Nat×AF)->List (Nat×AF)
 |[]=>[]
 |e::l=>match aPO e.1 ks with|true=>e::eN ks l|false=>eN ks l
def VS{ks:List Nat}:∀{l:List (Nat×AF)}{n:Nat},Kr l n->Kr (eN ks l) n
 |[],_,_=>trivial
 |e::l,n,h=>by
  simp only[eN];split;exact⟨h.1,VS h.2⟩;exact(VS h.2).mono (Nat.le_of_lt h.1)
def VT{ks:List Nat}{id:Nat}{b:AF}:∀{l:List (Nat×AF)}{n:Nat},Kr l n->look id (eN ks l)=some b->look id l=some b
 |[],_,_,h=>h
 |e::l,n,hd,h=>by
  simp only[eN] at h;split at h;simp only[look] at h ⊢;split at h;exact h;exact VT hd.2 h;have h1:=VT hd.2 h;have h2:=aQ hd.2 h1;simp only[look];split;rename_i hb;have:=beq_true hb;omega;exact h1
def AS.pick(s:AS)(ks:List Nat):AS:=⟨eN ks s.h,s.nx,s.F,s.nr⟩
def St.pick{c:Cx}{w:World}{s:AS}(h:St G c w s)(ks:List Nat):St G c w (s.pick ks) :=
 ⟨h.len,VS h.desc,h.nodup,h.low,λid g b h1 h2=>h.box id g b h1 (VT h.desc h2),h.IG,h.row,h.H8,h.NM,h.Nz,h.H7,h.Mr,h.RU,h.Od⟩
def aDU(ks:List Nat)(live:List Nat)(n m0:Nat)(P:Program)(fn:Func)(m:Nat)(bs:List AV)(cs:List AF):HR->Option (List Cd×List AV×AS×List AV×List AF)
 |some (.fin .ret,[],cd,fr,s)=>(match I5 P s fn fr with
  |some v=>(match bfD n s.nx&&bfD m0 s.nr with
   |true=>(match aLF live n m0 [v] ((s.cut m).pick ks) bs cs with|some (G5,s2,as,cas)=>some (cd,G5,s2,as,cas)|none=>none)
   |false=>none)
  |none=>none)
 |_=>none
def avZ(hG:∀g cs,G g=some cs->BN cs=true){r:HR}{X:Prop}{s0:AS}{Q:AX->List AV->AS->Prop}(fn:Func)(m:Nat){l:List (PC P G)}(ks:List Nat)(live:List Nat){n m0:Nat}(VC:List (FP n m0))(fbs:List (FB n m0))(v:AV)(s2:AS)(R:Lw P G l Q r X)(hn:s0.nx<=n)(hr:s0.nr<=m0)
   (h:aDU ks live n m0 P fn m (fpB VC) (fbB fbs) r=some (Wt l,[v],s2,fpA VC,fbA fbs)) (k:Wv P G fn m s0 Q v s2):X:=by
 unfold aDU at h;split at h;split at h;rename_i v' hv;split at h;rename_i hle;simp only[aUR] at hle;split at h;rename_i h1;simp only[aUQ,bbI] at h;obtain⟨rfl,rfl,rfl,rfl,rfl⟩:=h;exact R _ _ _ _ rfl (QB l) (k _ _ (λcx w c' w' vs hx hs hs' hf=>ayY (s':=(AS.cut _ m).pick ks) hG hn hr (aUX hle.1) (aUX hle.2) h1 cx w c' w' vs hx hs (hs'.pick ks) hf) _ _ hv rfl);cases h;cases h;cases h;cases h
inductive RnH(dn dr nx nr:Nat):List (Nat×AF)->List (Nat×AF)->Prop where
 |nil:RnH dn dr nx nr [] []
 |cons {i:Nat}{b b':AF}{l m:List (Nat×AF)} (h:mD dn dr (λi=>nx+i) (λr=>nr+r) b b') (t:RnH dn dr nx nr l m):RnH dn dr nx nr ((i,b)::l) ((nx+i,b')::m)
def RnH.desc{dn dr nx nr:Nat}{l m h:List (Nat×AF)}(hr:RnH dn dr nx nr l m)(hh:Kr h nx):∀{n:Nat},Kr l n->Kr (m++h) (nx+n):=by induction hr with|nil=>intro n _;exact hh.mono (Nat.le_add_right _ _)|cons h1 t ih=>intro n hd;exact⟨Nat.add_lt_add_left hd.1 _,ih hd.2⟩
def RnH.look{dn dr nx nr id:Nat}{b:AF}{l m h:List (Nat×AF)}(hr:RnH dn dr nx nr l m)(hb:AI.look id (m++h)=some b):(∃i b0,id=nx+i/\AI.look i l=some b0/\mD dn dr (λi=>nx+i) (λr=>nr+r) b0 b)\/AI.look id h=some b:=by
 induction hr with
 |nil=>exact .inr hb
 |@cons i b0 b1 l m h1 t ih=>
  simp only[bcP,AI.look] at hb;split at hb;rename_i he;cases hb;refine .inl ⟨i,b0,(beq_true he).symm,?_,h1⟩;simp only[AI.look];rw[bgK];rename_i he;have hne:=beq_false he;rcases ih hb with ⟨i',b',e,h2,h3⟩ | h2
  refine .inl ⟨i',b',e,?_,h3⟩;simp only[AI.look];split;rename_i h4;have:=beq_true h4;omega;exact h2;exact .inr h2
def agR{nr r n:Nat}{F:List (Nat×Nat)}:∀{F2:List (Nat×Nat)},DT r (F2.map (λp=>(nr+p.1,p.2))++F)=some n->(∃q,r=nr+q/\DT q F2=some n)\/DT r F=some n:=by
 intro F2
 induction F2 with
 |nil=>exact λh=>.inr h
 |cons x l ih=>
  intro h;simp only[bcH,bcP,DT] at h;split at h;rename_i he;cases h;refine .inl ⟨x.1,(beq_true he).symm,?_⟩;simp only[DT];rw[bgK];rename_i he;have hne:=beq_false he;rcases ih h with ⟨q,e,h2⟩ | h2
  refine .inl ⟨q,e,?_⟩;simp only[DT];split;rename_i h4;have:=beq_true h4;omega;exact h2;exact .inr h2
def aHF(hG:∀g cs,G g=some cs->BN cs=true){f:FuncId}{args:List AV}{v v':AV}{h2 h3:List (Nat×AF)}{dn dr nx nr:Nat}{F2:List (Nat×Nat)}(h:Sound P G (.call f args ⟨[],0,[],0⟩ (.ret v) ⟨h2,dn,F2,dr⟩))(hp:BN args=true)
   (hv:Rn dn dr (λi=>nx+i) (λr=>nr+r) v v') (hb:RnH dn dr nx nr h2 h3):Cd.ok P G (.jT f args nx nr v' h3 dn (F2.map λp=>(nr+p.1,p.2)) dr):=by
 intro s hnx hnr cx w vs hs ha;subst hnx hnr;have hlp:=hs.len;have hlr:=hs.IG
 have Mf:∀g i x,RI cx w g i x->RI ⟨w.heap.size,[],[],cx.uQ⟩ w g i x:=by
  intro g i x hx;refine⟨hx.1,λhsh=>?_,hx.2.2⟩;rcases hsh with hsh | ⟨r,n,cap,sz,hr,_⟩ | hsh
  cases hsh;simp at hr;exact hx.2.1 hsh
 have E5:St G ⟨w.heap.size,[],[],cx.uQ⟩ w ⟨[],0,[],0⟩ :=
  ⟨rfl,trivial,(λi j g h1=>by simp at h1),(λg hg=>by cases hg),(λid g b h1=>by simp at h1),rfl,(λr g n cap sz hr=>by simp at hr),(λr n hr=>by cases hr),(λg hg=>by cases hg),(λg i hb=>hs.fR hb),(λr r' g n cap sz n' cap' OI hr=>by simp at hr),(λg cs hg=>A7.plain Mf (hG g cs hg) (hs.Mr g cs hg)),aHT _,hs.Od.aRL⟩
 refine(h _ w vs E5 (CF.plain Mf hp ha)).mono ?_;rintro e w' ⟨c',hx,hs',u,rfl,hu⟩;have UM:=hx.below;have VF:S4 w w' (λ_=>False):=⟨UM.os,UM.tape,UM.output,UM.size,λk hk _=>UM.block k hk⟩;have hpn:∀g,some g∈c'.CG->w.heap.size<=g:=λg hg=>(hx.eQ g hg).resolve_left (by simp);have hrn:∀(r:Nat) g n cap sz,c'.rows[r]?=some (.Q2 g n cap sz)->w.heap.size<=g:=λr g n cap sz hg=>(hx.fJ r g n cap sz hg).resolve_left (by rintro⟨_,_,_,_,hh⟩;simp at hh);have hl2:dn=c'.CG.length:=hs'.len;have hr2:dr=c'.rows.length:=hs'.IG;let c1:Cx:=⟨cx.base,cx.CG++c'.CG,cx.rows++c'.rows,cx.bad⟩
 have hpu:∀(i:Nat) g,c'.CG[i]?=some (some g)->c1.CG[s.nx+i]?=some (some g):=λi g hg=>by
  show(cx.CG++c'.CG)[s.nx+i]?=_;rw[bcF (by omega),show s.nx+i - cx.CG.length=i by omega];exact hg
 have hru:∀(r:Nat) x,c'.rows[r]?=some x->c1.rows[s.nr+r]?=some x:=λr x hg=>by
  show(cx.rows++c'.rows)[s.nr+r]?=_;rw[bcF (by omega),show s.nr+r - cx.rows.length=r by omega];exact hg
 have hpc:∀(i:Nat) g,c1.CG[i]?=some (some g)->(i < s.nx/\cx.CG[i]?=some (some g))\/∃k,i=s.nx+k/\c'.CG[k]?=some (some g):=λi g hg=>by
  have hg:(cx.CG++c'.CG)[i]?=some (some g):=hg;by_cases hi:i < cx.CG.length;rw[aUY hi] at hg;exact .inl ⟨by omega,hg⟩;rw[bcF (by omega)] at hg;exact .inr ⟨i - cx.CG.length,by omega,hg⟩
 have hrc:∀(i:Nat) x,c1.rows[i]?=some x->(i < s.nr/\cx.rows[i]?=some x)\/∃k,i=s.nr+k/\c'.rows[k]?=some x:=λi x hg=>by
  have hg:(cx.rows++c'.rows)[i]?=some x:=hg;by_cases hi:i < cx.rows.length;rw[aUY hi] at hg;exact .inl ⟨by omega,hg⟩;rw[bcF (by omega)] at hg;exact .inr ⟨i - cx.rows.length,by omega,hg⟩
 have hmc:∀g,some g∈c1.CG->some g∈cx.CG\/some g∈c'.CG:=λg hg=>bcE.1 hg;have Me:∀g i,cx.uQ g i->c'.uQ g i:=λg i hh=>.inr (.inr (by rw[hx.bad];exact hh))
 have rZ:∀g i x,RI c' w' g i x->RI c1 w' g i x:=by
  intro g i x hvv;refine⟨hvv.1,λhsh=>hvv.2.1 ?_,hvv.2.2⟩;rcases hsh with hsh | ⟨q,n,cap,sz,hq,h1,h2⟩ | hsh
  rcases hmc g hsh with hm | hm
  exact Me _ _ (.inl hm);exact .inl hm;rcases hrc q _ hq with ⟨_,h3⟩ | ⟨k,_,h3⟩
  exact Me _ _ (.inr (.inl ⟨q,n,cap,sz,h3,h1,h2⟩));exact .inr (.inl ⟨k,n,cap,sz,h3,h1,h2⟩);exact Me _ _ (.inr (.inr hsh))
 have ext:Ext cx w c1 w':=by
  refine⟨bgD _ _,by simp[c1],λq y hq hy=>?_,λg i x hv=>rZ g i x (hx.jG g i x (Mf g i x hv)),VF.below hs.RU (λ_ hf=>hf.elim),rfl,rfl,λg hg=>?_,λq g n cap sz hq=>?_,λq hq hp hr=>VF.block q hq (λhf=>hf)⟩;rcases hrc q y hy with ⟨_,h3⟩ | ⟨k,h3,_⟩
  exact⟨y,h3,K3.refl y⟩;omega;rcases hmc g hg with hm | hm
  exact .inl hm;exact .inr (hpn g hm);rcases hrc q _ hq with ⟨_,h3⟩ | ⟨k,_,h3⟩
  exact .inl ⟨_,_,_,_,h3⟩;exact .inr (hrn _ _ _ _ _ h3)
 have hup:Up dn dr (λi=>s.nx+i) (λr=>s.nr+r) c' w' c1 w':=⟨rZ,λi g _ hg=>hpu i g hg,λq hq=>by
  have hq:q < c'.rows.length:=by omega
  exact⟨_,hru q _ (atS hq),atS hq⟩⟩
 have st1:St G c1 w' ⟨h3++s.h,s.nx+dn,F2.map (λp=>(s.nr+p.1,p.2))++s.F,s.nr+dr⟩:=by
  refine⟨by simp only[c1,cZ];omega,hb.desc hs.desc hs'.desc,λi j g h1 h2=>?_,λg hg=>?_,λid g b h1 h2=>?_,by simp only[c1,cZ];omega,λq g n cap sz hq=>?_,λq n hq=>?_,λg hg=>?_,λg i hb=>aUS (hs.Nz g i hb) VF.size,λq q' g n cap sz n' cap' OI h1 h2=>?_,λg cs hg'=>(hs.Mr g cs hg').mono ext,bbM hs.RU VF.size,hs.Od.mono ext⟩;rcases hpc i g h1 with ⟨_,a1⟩ | ⟨k,rfl,a1⟩<;>rcases hpc j g h2 with ⟨_,a2⟩ | ⟨k2,rfl,a2⟩
  exact hs.nodup _ _ _ a1 a2;have:=hs.NL (aUV a1);have:=hpn g (aUV a2);omega;have:=hs.NL (aUV a2);have:=hpn g (aUV a1);omega;rw[hs'.nodup _ _ _ a1 a2];rcases hmc g hg with hm | hm
  exact hs.low g hm;exact bbM hs.RU (hpn g hm);rcases hb.look h2 with ⟨i,b0,rfl,h4,h5⟩ | h4
  rcases hpc _ g h1 with ⟨a0,_⟩ | ⟨k,a0,a1⟩
  omega;have:k=i:=by omega
  subst this;obtain⟨o,ho,rQ⟩:=hs'.box k g b0 a1 h4;exact⟨o,ho,h5.up hup rQ⟩;have hlt:=aQ hs.desc h4;rcases hpc _ g h1 with ⟨_,a1⟩ | ⟨k,a0,_⟩
  obtain⟨o,ho,rQ⟩:=hs.box id g b a1 h4;refine⟨o,?_,rQ.mono ext⟩;rw[VF.block g (aHQ.1 ho).1 (λhf=>hf)];exact ho;omega;rcases hrc q _ hq with ⟨_,h3⟩ | ⟨k,_,h3⟩
  obtain⟨a1,a2,a3,a4,vs',T,⟨f,a5,hf⟩,a6⟩:=hs.row _ _ _ _ _ h3;refine⟨a1,a2,λhm=>?_,a4,vs',T,⟨f,?_,hf⟩,a6⟩;rcases hmc g hm with hm | hm
  exact a3 hm;have:=hpn g hm;have:=hs.Pq h3;omega;rw[VF.block g (aHQ.1 a5).1 (λhf=>hf)];exact a5;obtain⟨a1,a2,a3,a4,a5⟩:=hs'.row _ _ _ _ _ h3;have hge:=hrn _ _ _ _ _ h3;refine⟨λi hb=>?_,bbM hs.RU hge,λhm=>?_,a4,a5⟩;have:=hs.Nz _ _ hb;omega;rcases hmc g hm with hm | hm
  have:=hs.NL hm;omega;exact a3 hm;rcases agR hq with ⟨k,rfl,h4⟩ | h4
  rcases hs'.H8 k n h4 with ⟨h5,h6⟩ | ⟨g,cap,sz,h5⟩
  exact .inl ⟨hru _ _ h5,h6⟩;exact .inr ⟨g,cap,sz,hru _ _ h5⟩
  have key:∀x,cx.rows[q]?=some x->c1.rows[q]?=some x:=λx hh=>by
   show(cx.rows++c'.rows)[q]?=_;rw[aUY (aHS.1 hh).1];exact hh
  rcases hs.H8 q n h4 with ⟨h5,h6⟩ | ⟨g,cap,sz,h5⟩
  exact .inl ⟨key _ h5,h6⟩;exact .inr ⟨g,cap,sz,key _ h5⟩;rcases hmc g hg with hm | hm
  exact aUS (hs.NM g hm) VF.size;exact hs'.NM g hm;rcases hrc q _ h1 with ⟨_,a1⟩ | ⟨k,rfl,a1⟩<;>rcases hrc q' _ h2 with ⟨_,a2⟩ | ⟨k2,rfl,a2⟩
  exact hs.H7 _ _ _ _ _ _ _ _ _ a1 a2;have:=hs.Pq a1;have:=hrn _ _ _ _ _ a2;omega;have:=hs.Pq a2;have:=hrn _ _ _ _ _ a1;omega;rw[hs'.H7 _ _ _ _ _ _ _ _ _ a1 a2]
 exact⟨c1,ext,st1,u,rfl,hv.up hup hu⟩
def aqA{f:FuncId}{args:List AV}{nx nr:Nat}{v:AV}{h:List (Nat×AF)}{dn:Nat}{F:List (Nat×Nat)}{dr:Nat}(h1:Cd.ok P G (.jT f args nx nr v h dn F dr)):PC P G :=
 ⟨.cn v h dn F dr,[.jT f args nx nr v h dn F dr],⟨h1,trivial⟩⟩
end
end AI
namespace AI
open Go Go.RowKit
section
variable {P:Program}{G:AP}
def SP.aFY{α:Type}{f:α->List AV}{C:List α->List AV}{k:Nat}(h:SP f C k)(h1:∀x,(f x).all one=true)(m:List α):(C m).all one=true:=by rw[h.eq,bcC];intro a ha;obtain⟨x,_,hx⟩:=List.mem_flatMap.1 ha;exact bcC.1 (h1 x) a hx
def SP.ga{α:Type}{f:α->List AV}{C:List α->List AV}{k:Nat}(h:SP f C k){t tx e e2 by':Nat}(hu:P.underlying t=some (.slice e))(hux:P.underlying tx=some (.slice e2))(hi:(P.info? e).map (λi=>(i.size,i.bytes,i.zero.map (·.cells.size)))=some (k,by',some k))(hk:0 < k)(hb:by'<=10000)
   (own:Own) (l m:List α) {o:Own} (s:AS) (hm:m.length=0) (hlen:l.length+m.length<=100000000):Cd.ok P G (.X1 s t tx (.sl own l.length (C l)) (.sl o m.length (C m)) (.sl own l.length (C l)) s):=by
 have hm0:m=[]:=bbD hm;subst hm0;cases hq:P.info? e with
 |none=>rw[hq] at hi;cases hi
 |some i=>
  rw[hq] at hi;simp only[bbB,aUQ,bbI] at hi;obtain⟨h1,h2,h3⟩:=hi;cases hz:i.zero with
  |none=>rw[hz] at h3;cases h3
  |some z=>
   rw[hz] at h3;simp only[bbB,aUQ] at h3;have hc:C []=[]:=by rw[h.eq];rfl
   have hll:(C l).length=l.length*k:=by rw[h.eq,Ps h.len]
   refine⟨.sl own l.length (C l),?_,λc w u hr=>hr⟩
   have hs:iE P s i.size tx (.sl o ([]:List α).length (C []))=some (0,[]):=by unfold iE;rw[hux,hc];simp
   unfold Lx;simp only[hu,hq,hz];rw[if_pos ⟨by rw[h3,h1],by omega⟩,hs];simp only[amO] at hlen ⊢
   have hbb:(l.length+0)*i.bytes<=140737488355328:=by rw[h2];exact bbM (bjB hlen hb) (by decide)
   rw[if_pos ⟨by rw[hll,h1],rfl,hbb,by omega⟩,if_pos trivial]
def pga{s:AS}{t tx:TypeId}{a b:AV}(h:Cd.ok P G (.X1 s t tx a b a s)):PC P G:=⟨.a a s,[.X1 s t tx a b a s],⟨h,trivial⟩⟩
def aYI{s:AS}{t tx:TypeId}{a b:AV}(h:Cd.ok P G (.X1 s t tx a b a s)):PC P G:=⟨.ae a,[.X1 s t tx a b a s],⟨h,trivial⟩⟩
end
end AI
namespace AI
open Go Go.RowKit
def aCG:Nat->Nat->List Nat->List Nat
 |0,_,acc=>acc
 |k+1,n,acc=>match bfD n 1 with|true=>acc|false=>aCG k (n / 2) (n % 2::acc)
def sb(c:Code)(n:Nat):Code:=sub c (aCG 200 n [])
def wk1(a:AV):AV->AV
 |.any=>nA a
 |.sl .lost _ _=>(match a with|.sl _ n cs=>.sl .lost n cs|a=>a)
 |_=>a
def aMJ{c:Cx}{w:World}{a b:AV}{v:Value}(hr:Rp c w a v):Rp c w (wk1 a b) v:=by
 unfold wk1;split;exact jW hr;split;cases hr with|sl0 _=>exact .sl0 trivial|MT hn hc _=>exact .MT hn hc trivial
 exact hr;exact hr
def wkF:List AV->List AV->List AV
 |a::l,b::k=>wk1 a b::wkF l k
 |l,_=>l
def YS{c:Cx}{w:World}:∀{l k:List AV}{vs:List Value},CF c w l vs->CF c w (wkF l k) vs
 |[],k,_,h=>by cases k<;>exact h
 |a::l,[],_,h=>h
 |a::l,b::k,_,h=>by cases h with | cons h1 t=>exact .cons (aMJ h1) (YS t)
def aKJ(n:Nat):AV->Bool
 |.fn _ a b=>axP a&&axP b
 |a=>obv n a
where
 axP:List AV->Bool
   |[]=>true
   |a::l=>obv n a&&axP l
def aKA(r:List AV->MR)(n:Nat)(a:AV)(bs:List AV):MR:=match aKJ n a with|true=>sI a (r bs)|false=>none
def aoZ(n:Nat):List AV->List AV->List AV->MR
 |[],_,[]=>some ([],[])
 |[],_,_::_=>none
 |a::l,[],bs=>kP (aoZ n l []) a bs
 |a::l,b::k,bs=>match SJ b with|true=>kP (aoZ n l k) a bs|false=>(match aKJ n b with|true=>aKA (aoZ n l k) n a bs|false=>axI (aoZ n l k) a bs)
def aYE(n:Nat):AF->Bool
 |.cells cs=>aKJ.axP n cs
 |_=>false
abbrev BO:=Option (List (Nat×AF)×List (Option AF))
def aDL(id:Nat)(a:Option AF)(b:AF):BO->BO
 |some (l,as)=>some ((id,b)::l,a::as)
 |none=>none
def aGO(n:Nat):List (Nat×AF)->List (Option AF)->BO
 |[],[]=>some ([],[])
 |e::l,none::bs=>(match aYE n e.2 with|true=>aDL e.1 none e.2 (aGO n l bs)|false=>none)
 |e::l,some b::bs=>aDL e.1 (some e.2) b (aGO n l bs)
 |_,_=>none
abbrev RO2:=Option (List AV×AS×List AV×List (Option AF))
def aSB(tgt:List AV)(n m:Nat)(Cj:List AV)(s':AS)(bs:List AV)(cs:List (Option AF)):RO2 :=
 match aoZ n Cj tgt bs with
 |some (G5,as)=>(match aGO n (OR n s'.h) cs with|some (h2,cas)=>some (G5,⟨h2,n,SH m s'.F,m⟩,as,cas)|none=>none)
 |none=>none
section
variable {P:Program}{G:AP}
def Frg.wk{s0 s':AS}{Cj k:List AV}:Frg G s0 Cj s' (wkF Cj k) s':=λ_ _ c' _ _ hx _ hs' Qq=>⟨c',hx,hs',YS Qq⟩
def jA(tgt:List AV):HR->Option (AX×List Cd×List AV×AS)
 |some (.fin e,[],cd,fr,s)=>some (e,cd,wkF fr tgt,s)
 |_=>none
def aPA{r:HR}{X:Prop}{L:Code}{s0:AS}{Q:AX->List AV->AS->Prop}{l:List (PC P G)}{G5:List AV}{s2:AS}(R:Lw P G l (KN P G L s0 Q) r X)(h:jA G5 r=some (.normal,Wt l,G5,s2))(k:WL P G (XS P G) H0 L G5 s2 Q):X:=by unfold jA at h;split at h;simp only[aUQ,bbI] at h;obtain⟨rfl,rfl,h3,rfl⟩:=h;exact R _ _ _ _ rfl (QB l) ⟨_,_,h3▸Frg.wk,k⟩;cases h
def aCR{r:HR}{X:Prop}{L:Code}{s0:AS}{Q:AX->List AV->AS->Prop}{l:List (PC P G)}{id:Nat}{G5:List AV}{s2:AS}(R:Lw P G l (KN P G L s0 Q) r X)(h:jA G5 r=some (.exit id,Wt l,G5,s2))(k:Q (.exit id) G5 s2):X:=by unfold jA at h;split at h;simp only[aUQ,bbI] at h;obtain⟨rfl,rfl,h3,rfl⟩:=h;exact R _ _ _ _ rfl (QB l) ⟨_,_,h3▸Frg.wk,k⟩;cases h
def baD(tgt:List AV)(n m:Nat)(bs:List AV)(cs:List (Option AF)):HR->Option (AX×List Cd×List AV×AS×List AV×List (Option AF))
 |some (.fin e,[],cd,fr,s)=>(match aSB tgt n m fr s bs cs with|some (G5,s2,as,cas)=>some (e,cd,G5,s2,as,cas)|none=>none)
 |_=>none
def baX(n m0:Nat)(P:Program)(fn:Func)(m:Nat)(e0:AX)(tgt bs:List AV)(cs:List (Option AF)):HR->Option (AX×List Cd×List AV×AS×List AV×List (Option AF))
 |some (.fin e,[],cd,fr,s)=>(match I5 P s fn fr with
  |some v=>(match aSB tgt n m0 [v] (s.cut m) bs cs with|some (G5,s2,as,cas)=>some (e,cd,G5,s2,as,cas)|none=>none)
  |none=>none)
 |_=>none
def qE(z:List NZ)(tgt:List AV):HR->Option (List Cd×Nat×Code×List KI×List AV×AS)
 |some (.at id c ks,[],cd,fr,s)=>(match nzs z fr s with|some (G5,s2)=>some (cd,id,c,ks,wkF G5 tgt,s2)|none=>none)
 |_=>none
def aHJ{r:HR}{X:Prop}{Q:AX->List AV->AS->Prop}{l:List (PC P G)}(z:List NZ)(id:Nat)(L:Code)(Zf:List KI){G5:List AV}{s2:AS}(R:Lw P G l Q r X)
   (h:qE z G5 r=some (Wt l,id,L,Zf,G5,s2)) (k:WL P G (XS P G) H0 L G5 s2 (EE id (C6 P G Zf Q))):X:=by
 unfold qE at h;split at h;split at h;rename_i fr3 s3 hz;simp only[aUQ,bbI] at h;obtain⟨rfl,rfl,rfl,rfl,h5,rfl⟩:=h;refine R _ _ _ _ rfl (QB l) ?_;obtain⟨e3,fr4,s4,h3,h4⟩:=k;refine⟨e3,fr4,s4,.aEK (λcx w vs hs hr=>?_) h3,h4⟩;obtain⟨c2,x2,XV,r2⟩:=apO hz cx w vs hs hr;exact⟨c2,x2,XV,h5▸YS r2⟩;cases h;cases h
def jv(j:List Value)(k:Nat):Value:=aKF j k
def frQ:Nat->Nat->List (Nat×AV)->List Nat->Nat->List Value->List AV
 |0,_,_,_,_,_=>[]
 |n+1,p,l,bs,kb,j=>(match frm.hd1 p l with|some v=>v::frQ n (p+1) (l.drop 1) bs kb j|none=>(match frm.hd2 p bs with|true=>.sc (jv j kb)::frQ n (p+1) l (bs.drop 1) (kb+1) j|false=>.any::frQ n (p+1) l bs kb j))
def fr(n:Nat)(l:List (Nat×AV))(bs:List Nat)(j:List Value):List AV:=frQ n 0 l bs 0 j
def exR{δ:Type}(Q:AX->List AV->AS->Prop)(id:Nat)(F:δ->List Value->List AV)(S:δ->AS)(d:δ):Prop:=∀j,Q (.exit id) (F d j) (S d)
section loops
variable {α γ δ ρ β:Type}{id:Nat}{L:Code}{Zf:List KI}{Q:AX->List AV->AS->Prop}{done:γ->δ}{X:Prop}{k:δ->Option β}{kr:ρ->Option β}{r:β}
def aTU(Rv:(AX->List AV->AS->Prop)->ρ->Prop){body:Nat->α->γ->Option (Lp γ δ ρ)}{l:List α}{i0:Nat}{x:γ}(F:Nat->γ->List Value->List AV)(S:γ->AS)(XF:δ->List Value->List AV)(SX:δ->AS)(j:List Value)
   (Y5:WL P G (XS P G) H0 L (F i0 x j) (S x) (EE id (C6 P G Zf Q))->X)
   (hz:∀i x j,l.length<=i->exR (EE id (C6 P G Zf Q)) id XF SX (done x)->W P G (XS P G) H0 L (F i x j) (S x) (KN P G L (S x) (EE id (C6 P G Zf Q))))
   (hs:∀i y x j r,l[i]?=some y->i < l.length->i < 9223372036854775807->RQ (λx'=>∀j',WL P G (XS P G) H0 L (F (i+1) x' j') (S x') (EE id (C6 P G Zf Q))) (exR (EE id (C6 P G Zf Q)) id XF SX) (Rv (EE id (C6 P G Zf Q))) r->body i y x=some r->W P G (XS P G) H0 L (F i x j) (S x) (KN P G L (S x) (EE id (C6 P G Zf Q))))
   (hb:∀d j,k d=some r->C6 P G Zf Q .normal (XF d j) (SX d)) (hr:∀v,kr v=some r->Rv (EE id (C6 P G Zf Q)) v):
   (B6 l.length (Bu body done (l.drop i0) i0 x)).bind (GF k kr)=some r->X:=λh=>by
 obtain⟨oQ,h1,h2⟩:=iF h;obtain⟨hl,h1⟩:=aJW h1;refine Y5 (auE l F (λ_ x _=>S x) (λ_=>True) (exR (EE id (C6 P G Zf Q)) id XF SX) (Rv (EE id (C6 P G Zf Q))) (λi x j _ h3 h4=>wL (hz i x j h3 h4)) (λi y x j r _ h3 h4 h5 h6=>wL (hs i y x j r h3 h4 (by omega) (by cases r with | nx _=>exact λj'=>h6 j' trivial | ex _=>exact h6 | rt _=>exact h6) h5)) i0 h1 ?_ j trivial)
 cases oQ with
 |inl d=>
  intro j;show C6 P G Zf Q (FR id (.exit id)) _ _;rw[show FR id (.exit id)=.normal from by simp[FR]];exact hb d j h2
 |inr v=>exact hr v h2
def aOE(Rv:(AX->List AV->AS->Prop)->ρ->Prop){body:γ->Option (Lp γ δ ρ)}{x:γ}(F:γ->List Value->List AV)(S:γ->AS)(XF:δ->List Value->List AV)(SX:δ->AS)(j:List Value)
   (Y5:WL P G (XS P G) H0 L (F x j) (S x) (EE id (C6 P G Zf Q))->X)
   (hs:∀x j r,RQ (λx'=>∀j',WL P G (XS P G) H0 L (F x' j') (S x') (EE id (C6 P G Zf Q))) (exR (EE id (C6 P G Zf Q)) id XF SX) (Rv (EE id (C6 P G Zf Q))) r->body x=some r->W P G (XS P G) H0 L (F x j) (S x) (KN P G L (S x) (EE id (C6 P G Zf Q))))
   (hb:∀d j,k d=some r->C6 P G Zf Q .normal (XF d j) (SX d)) (hr:∀v,kr v=some r->Rv (EE id (C6 P G Zf Q)) v):
   (IT body x).bind (GF k kr)=some r->X:=λh=>by
 obtain⟨oQ,h1,h2⟩:=iF h;obtain⟨n,h1⟩:=avS h1;refine Y5 (auF F (λx _=>S x) (λ_=>True) (exR (EE id (C6 P G Zf Q)) id XF SX) (Rv (EE id (C6 P G Zf Q))) (λx j r _ h5 h6=>wL (hs x j r (by cases r with | nx _=>exact λj'=>h6 j' trivial | ex _=>exact h6 | rt _=>exact h6) h5)) n h1 ?_ j trivial)
 cases oQ with
 |inl d=>
  intro j;show C6 P G Zf Q (FR id (.exit id)) _ _;rw[show FR id (.exit id)=.normal from by simp[FR]];exact hb d j h2
 |inr v=>exact hr v h2
end loops
def aYO{ks:List KI}{fr:List AV}{s:AS}{Q:AX->List AV->AS->Prop}(n:Nat)(l:List (PC P G)):Lw P G l Q (PK (UL P G n) ks .normal (pHs l) fr s) (C6 P G ks Q .normal fr s):=λ_ _ _ _ h hc hk=>abU (abV n) ks _ h hc hk
def pi{i:Nat}(h:i < 9223372036854775807):PC P G:=aYJ i h
end
end AI
namespace AI
open Go Go.RowKit
section
variable {P:Program}{G:AP}
inductive Fz(s:AS):List AV->List AV->Prop where
 |nil:Fz s [] []
 |r {a b:AV}{l k:List AV} (h:Fits 0 0 a b) (t:Fz s l k):Fz s (a::l) (b::k)
 |f {id n:Nat}{cs l k:List AV} (h:s.get id=some (.cells cs)) (hp:BN cs=true) (t:Fz s l k):Fz s (.OG id 0 n::l) (.sl .lost n cs::k)
 |g {cs ds l k:List AV} (h:Fz s cs ds) (t:Fz s l k):Fz s (.agg cs::l) (.agg ds::k)
 |u {cs ds l k:List AV} (h:Fz s cs ds) (t:Fz s l k):Fz s (.DW cs::l) (.DW ds::k)
def Fz.ok{s:AS}{c:Cx}{w:World}(hs:St G c w s)(hb:∀g,some g∈c.CG->∀i,¬c.bad g i){l k:List AV}(h:Fz s l k):∀{us:List Value},CF c w l us->CF (c.upto 0 0) w k us:=by
 induction h with
 |nil=>intro us hr;cases hr;exact .nil
 |r h _ ih=>intro us hr;cases hr with | cons h1 t=>exact .cons (h _ _ _ h1) (ih t)
 |@f id n cs l k h hp _ ih=>
  intro us hr;cases hr with
  |cons h1 t=>
   refine .cons ?_ (ih t);cases h1 with
   |@OG _ _ _ g cap hn hid=>
    obtain⟨vs,ext,T,hw,hv⟩:=Uj hs hid h;have hg:=aUV hid
    have Mf:∀g i v,RI c w g i v->RI (c.upto 0 0) w g i v:=λg i v hv=>⟨hv.1,λhsh=>by
     rcases hsh with hsh | ⟨r,n',cap',OI,hr,_⟩ | hsh
     simp[Cx.upto] at hsh;simp[Cx.upto] at hr;exact hv.2.1 (.inr (.inr hsh)),hv.2.2⟩
    refine .MT hn (A7.R8 (CF.plain Mf hp hv) (λi v hi=>?_)) trivial;rw[aUU];refine⟨hs.NM g hg,λhsh=>?_,cell_of_heap hw (aI hi)⟩;rcases hsh with hsh | ⟨r,n',cap',OI,hr,_⟩ | hsh
    simp[Cx.upto] at hsh;simp[Cx.upto] at hr;exact hb g hg i hsh
 |g _ _ yD ih2=>intro us hr;cases hr with | cons h1 t=>cases h1 with | agg h2=>exact .cons (.agg (yD h2)) (ih2 t)
 |u _ _ yD ih2=>intro us hr;cases hr with | cons h1 t=>cases h1 with | DW h2=>exact .cons (.DW (yD h2)) (ih2 t)
end
end AI
namespace AI
open Go
end AI
namespace AI
open Go Go.RowKit
end AI
namespace AI
open Go Go.RowKit
abbrev EW:=Cx->World->Prop
abbrev QE:=AX->List AV->AS->EW->Prop
def EOk(e:AX)(fr:List AV)(c:Cx)(w:World)(e':Exit)(a:Act):Prop:=match e with|.normal=>e'=.normal/\CF c w fr a.tmps.toList|.exit id=>e'=.exit id/\CF c w fr a.tmps.toList|.ret=>e'=.ret/\CF c w fr a.tmps.toList|.pan v=>∃u,e'=.panic [{ v:=u,recovered:=false }]/\Rp c w v u
def EPost(G:AP)(Q:QE)(K:Exit->Act->World->Prop):Prop:=∀e fr s E,Q e fr s E->∀(cx:Cx)(w:World)(a:Act)(e':Exit),E cx w->St G cx w s->a.defers=[]->EOk e fr cx w e' a->K e' a w
def WE(P:Program)(G:AP)(E:EW)(c:Code)(fr:List AV)(s:AS)(Q:QE):Prop:=∀(cx:Cx)(w:World)(a:Act)(K:Exit->Act->World->Prop),E cx w->St G cx w s->CF cx w fr a.tmps.toList->a.defers=[]->EPost G Q K->c.wp P K a w
def aF(P:Program)(G:AP)(E:EW)(ops:Array Oper)(l:List Nat)(fr:List AV)(s:AS)(Q:QE):Prop:=∀(cx:Cx)(w:World)(a:Act)(K:Exit->Act->World->Prop),E cx w->St G cx w s->CF cx w fr a.tmps.toList->a.defers=[]->EPost G Q K->wpOps P ops K l a w
def bI(E:EW):Prop:=∀(cx:Cx)(w:World)(Wp:Cx)(w':World),E cx w->Ext cx w Wp w'->E Wp w'
section
variable {P:Program}{G:AP}{E:EW}{fr:List AV}{s:AS}{Q:QE}
def WE.cond{q:Operand}{x y:Code}{t:Bool}(hq:A3 G fr q=some (.sc (.bool t)))(h:WE P G E (if t then x else y) fr s Q):WE P G E (.cond q x y) fr s Q:=by
 intro cx w a K hE hs hf hd hK;have hr:=GA hs hf hq
 have Je:a.eval q=.bool t:=by generalize a.eval q=v at hr;cases hr;rfl
 exact wp_cond Je (h cx w a K hE hs hf hd hK)
def WE.exit{id:Nat}(h:Q (.exit id) fr s E):WE P G E (.exit id) fr s Q:=λcx w a K hE hs hf hd hK=>wp_exit (hK _ _ _ _ h cx w a _ hE hs hd ⟨rfl,hf⟩)
def WE.block{id:Nat}{c:Code}(h:WE P G E c fr s (λe Cj s' E'=>Q (FR id e) Cj s' E')):WE P G E (.block id c) fr s Q:=by
 intro cx w a K hE hs hf hd hK;refine wp_block (h cx w a _ hE hs hf hd ?_);rintro e Cj s' E' hq Wp w' a' e' hE' hs' Y6 h4;cases e with
 |normal=>obtain⟨rfl,h5⟩:=h4;exact hK _ _ _ _ hq Wp w' a' _ hE' hs' Y6 ⟨rfl,h5⟩
 |exit SI=>
  obtain⟨rfl,h5⟩:=h4;show if SI=id then K .normal a' w' else K (.exit SI) a' w'
  by_cases hid:SI=id;rw[if_pos hid];refine hK _ _ _ _ hq Wp w' a' _ hE' hs' Y6 ?_;simp only[FR,hid,if_true];exact⟨rfl,h5⟩;rw[if_neg hid];refine hK _ _ _ _ hq Wp w' a' _ hE' hs' Y6 ?_;simp only[FR,hid,if_false];exact⟨rfl,h5⟩
 |ret=>obtain⟨rfl,h5⟩:=h4;exact hK _ _ _ _ hq Wp w' a' _ hE' hs' Y6 ⟨rfl,h5⟩
 |pan v=>obtain⟨u,rfl,h5⟩:=h4;exact hK _ _ _ _ hq Wp w' a' _ hE' hs' Y6 ⟨u,rfl,h5⟩
def aF.op(hm:P.follows .mixedOrders=true)(hk:bI E){ops:Array Oper}{i:Nat}{l:List Nat}{o:Oper}(v:AV){s1:AS}(ho:ops[i]?=some o)(hj:J P G (XS P G) H0 (.op ops o fr s (.ret v) s1))(t:aF P G E ops l (JD fr o.dst v) s1 Q):aF P G E ops (i::l) fr s Q:=by intro cx w a K hE hs hf hd hK;refine RF ho (sound (VD hm) hj cx w a _ _ hs (λx _=>oJ hs hf x) (OO (c:=cx) (w:=w) (λ_ _ _ _ _=>⟨fr,hf,rfl⟩)) ?_);intro u w' c' hx hs' hu;exact t c' w' (a.put o.dst u) K (hk _ _ _ _ hE hx) hs' (Ui (hf.mono hx) hu) (by cases o.dst<;>exact hd) hK
def aF.sem{E':EW}{ops:Array Oper}{i:Nat}{l:List Nat}{o:Oper}{G5:List AV}(v:AV){s2:AS}(ho:ops[i]?=some o)(hg:o.guard=none)
   (h:∀(cx:Cx)(w:World)(a:Act),E cx w->St G cx w s->CF cx w fr a.tmps.toList->∃u w' Wp,(execOp a.eval o).run P w=.ok (.value u) w'/\E' Wp w'/\St G Wp w' s2/\CF Wp w' G5 a.tmps.toList/\Rp Wp w' v u)
   (t:aF P G E' ops l (JD G5 o.dst v) s2 Q):aF P G E ops (i::l) fr s Q:=by
 intro cx w a K hE hs hf hd hK;refine RF ho ?_;obtain⟨u,w',Wp,hr,hE',hs',iK,hu⟩:=h cx w a hE hs hf;unfold PH;have hw:bdX o (yielded ops a.tmps)=true:=by unfold bdX;rw[hg]
 rw[hw];simp only[if_true];unfold Oper.wp;rw[hr];exact t Wp w' (a.put o.dst u) K hE' hs' (Ui iK hu) (by cases o.dst<;>exact hd) hK
end
def E0(b:Nat)(B:Nat->Nat->Prop)(w0:World):EW:=λc w=>c.base=b/\c.bad=B/\Below b w0 w
def E0.UN{b:Nat}{B:Nat->Nat->Prop}{w0:World}:bI (E0 b B w0):=λcx w Wp w' h hx=>⟨hx.base.trans h.1,hx.bad.trans h.2.1,h.2.2.trans (by have:=hx.below;rw[h.1] at this;exact this)⟩
end AI
namespace AI
open Go Go.RowKit
def JZ:Code->Array Oper
 |.region _ ops _=>ops
 |_=>#[]
def uD:Code->Nat->Bool
 |.region _ ops d,n=>(match d with|false=>bcA ops.size n|true=>false)
 |_,_=>false
def aYB:Oper:={ dst:=none,op:=.move (.tmp 0),type:=0,pos:="",after:=#[],guard:=none }
def opAt(c:Code)(i:Nat):Oper:=((JZ c)[i]?).getD aYB
def ayO{c:Code}{n:Nat}(h:uD c n=true):(∃id,c=.region id (JZ c) false)/\(JZ c).size=n:=by unfold uD at h;split at h;rename_i id ops d;split at h;exact⟨⟨id,rfl⟩,bcI h⟩;cases h;cases h
def TP{c:Code}{n i:Nat}(h:uD c n=true)(hi:i < n):(JZ c)[i]?=some (opAt c i):=by have:=(ayO h).2;unfold opAt;rw[bcU (by omega)];rfl
def acH(o:Oper):Option (Operand×TypeId):=match o.guard with
 |none=>(match o.op with
  |.call cl=>(match cl.callee with
   |.builtin .len=>(match cl.args.toList with
    |[x]=>(match cl.argTypes.toList with|[t]=>some (x,t)|_=>none)
    |_=>none)
   |_=>none)
  |_=>none)
 |some _=>none
def pY(o:Oper):Option (Operand×Operand×TypeId×TypeId):=match o.guard with
 |none=>(match o.op with
  |.call cl=>(match cl.callee with
   |.builtin .append=>(match cl.args.toList with
    |[x,y]=>(match cl.argTypes.toList with|[t,tx]=>some (x,y,t,tx)|_=>none)
    |_=>none)
   |_=>none)
  |_=>none)
 |some _=>none
section
variable {P:Program}{w:World}{ρ:Operand->Value}{o:Oper}
def agP{x:Operand}{t e:TypeId}{A:Option Addr}{n cap:Nat}(h:acH o=some (x,t))(hu:P.underlying t=some (.slice e))(ha:ρ x=.slice A n cap):o.guard=none/\(execOp ρ o).run P w=.ok (.value (.int .i64 n)) w:=by
 unfold acH at h;split at h;rename_i hg;refine⟨hg,?_⟩;split at h;rename_i cl ho;split at h;rename_i Ib;split at h;rename_i x' hx;split at h;rename_i t' ht;cases h;have e1:cl.args=#[x]:=by apply bbW;rw[hx]
 have e2:cl.argTypes=#[t]:=by apply bbW;rw[ht]
 simp[execOp,ho,resolve,Ib,e1,e2,invoke,builtin,ha,Builtin.len_,run_underlying hu,goInt];cases h;cases h;cases h;cases h;cases h
def jP{x y:Operand}{t tx:TypeId}{u:Value}{w':World}(h:pY o=some (x,y,t,tx))(hr:∀ty,(bdM #[t,tx] ty #[ρ x,ρ y]).run P w=.ok u w'):o.guard=none/\(execOp ρ o).run P w=.ok (.value u) w':=by
 unfold pY at h;split at h;rename_i hg;refine⟨hg,?_⟩;split at h;rename_i cl ho;split at h;rename_i Ib;split at h;rename_i x' y' hx;split at h;rename_i t' tx' ht;cases h;have e1:cl.args=#[x,y]:=by apply bbW;rw[hx]
 have e2:cl.argTypes=#[t,tx]:=by apply bbW;rw[ht]
 simp[execOp,ho,resolve,Ib,e1,e2,invoke,builtin,hr];cases h;cases h;cases h;cases h;cases h
def pZ{q:Operand×Operand×TypeId×TypeId}(h:pY o=some q):o.guard=none:=by unfold pY at h;split at h;rename_i hg;exact hg;cases h
end
end AI
namespace AI
open Go Go.RowKit
def tG(ps:List (Nat×Nat)):List AV:=ps.map λp=>.ptr p.1 p.2
def ahB(ps:List (Nat×Nat)):(tG ps).length=ps.length:=by simp[tG]
def ajD(b:Nat)(B:Nat->Nat->Prop)(w0:World)(g cap:Nat)(ps:List (Nat×Nat)):EW:=λc w=>
 c.base=b/\Below b w0 w/\(∀g' i,c.bad g' i↔(B g' i\/g'=g))/\b<=g/\some g∉c.CG/\(∀(r:Nat) n cap' sz,c.rows[r]?≠some (.Q2 g n cap' sz)) /\
 ∃(vs ext:List Value)(T:TypeId),w.heap[g]?=some (.cells (vs++ext).toArray T (0,0))/\vs.length+ext.length=cap/\CF c w (tG ps) vs
def ajD.UN{b:Nat}{B:Nat->Nat->Prop}{w0:World}{g cap:Nat}{ps:List (Nat×Nat)}:bI (ajD b B w0 g cap ps):=by
 rintro cx w Wp w' ⟨h1,h2,h3,h4,h5,h6,vs,ext,T,h7,h8,h9⟩ hx;have hg:g < w.heap.size:=(aHQ.1 h7).1;refine⟨hx.base.trans h1,h2.trans (by have:=hx.below;rwa[h1] at this),λg' i=>by rw[hx.bad];exact h3 g' i,h4,λhm=>?_,λr n cap' sz hr=>?_,vs,ext,T,by rw[hx.UN g hg h5 h6];exact h7,h8,h9.mono hx⟩;rcases hx.eQ g hm with h | h
 exact h5 h;omega;rcases hx.fJ r g n cap' sz hr with ⟨r0,n0,Qk,jD,h⟩ | h
 exact h6 _ _ _ _ h;omega
def St.move{G:AP}{c c':Cx}{w w':World}{s:AS}(h:St G c w s)(hm:Mon c w c' w')(SQ:c'.CG=c.CG)(rW:c'.rows=c.rows)(amP:c'.base=c.base)
   (amU:∀k,k < w.heap.size->(some k∈c.CG\/(∃(r:Nat)(n cap sz:Nat),c.rows[r]?=some (.Q2 k n cap sz))\/∃cs,G k=some cs)->w'.heap[k]?=w.heap[k]?) (aDD:w.heap.size<=w'.heap.size)
   (Me:∀g i,c'.bad g i->(c.bad g i\/w.heap.size<=g)/\g < w'.heap.size):St G c' w' s:=by
 refine⟨by rw[SQ];exact h.len,h.desc,by rw[SQ];exact h.nodup,by rw[SQ,amP];exact h.low,λid g b h1 h2=>?_,by rw[rW];exact h.IG,λr g n cap sz hr=>?_,by rw[rW];exact h.H8,λg hg=>aUS (h.NM g (by rwa[SQ] at hg)) aDD,λg i hb=>(Me g i hb).2,by rw[rW];exact h.H7,λg cs hg=>(h.Mr g cs hg).Dx hm,by rw[amP];exact bbM h.RU aDD,λg cs hg=>by
  obtain⟨⟨h1,h2⟩,vs,T,f,h3,h4⟩:=h.Od g cs hg;exact⟨⟨by rw[SQ];exact h1,by rw[rW];exact h2⟩,vs,T,f,by rw[amU g (aHQ.1 h3).1 (.inr (.inr ⟨cs,hg⟩))];exact h3,h4⟩⟩
 rw[SQ] at h1;obtain⟨o,ho,hb⟩:=h.box id g b h1 h2;exact⟨o,by rw[amU g (aHQ.1 ho).1 (.inl (aUV h1))];exact ho,hb.Dx hm⟩;rw[rW] at hr;obtain⟨a1,a2,a3,a4,vs,T,⟨f,a5,hf⟩,a6⟩:=h.row r g n cap sz hr;have hlt:=h.Pq hr;refine⟨λi hb=>?_,by rw[amP];exact a2,by rw[SQ];exact a3,a4,vs,T,⟨f,by rw[amU g hlt (.inr (.inl ⟨r,n,cap,sz,hr⟩))];exact a5,hf⟩,a6⟩;rcases(Me g i hb).1 with h1 | h1
 exact a1 i h1;omega
section
variable {P:Program}{G:AP}{E:EW}{fr:List AV}{s:AS}{Q:QE}
def aF.aYP{ι:Type}{E':ι->EW}{ops:Array Oper}{i:Nat}{l:List Nat}{o:Oper}{G5:List AV}(v:ι->AV){s2:AS}(ho:ops[i]?=some o)(hg:o.guard=none)
   (h:∀(cx:Cx)(w:World)(a:Act),E cx w->St G cx w s->CF cx w fr a.tmps.toList->∃x u w' Wp,(execOp a.eval o).run P w=.ok (.value u) w'/\E' x Wp w'/\St G Wp w' s2/\CF Wp w' G5 a.tmps.toList/\Rp Wp w' (v x) u)
   (t:∀x,aF P G (E' x) ops l (JD G5 o.dst (v x)) s2 Q):aF P G E ops (i::l) fr s Q:=by
 intro cx w a K hE hs hf hd hK;refine RF ho ?_;obtain⟨x,u,w',Wp,hr,hE',hs',iK,hu⟩:=h cx w a hE hs hf;unfold PH;have hw:bdX o (yielded ops a.tmps)=true:=by unfold bdX;rw[hg]
 rw[hw];simp only[if_true];unfold Oper.wp;rw[hr];exact t x Wp w' (a.put o.dst u) K hE' hs' (Ui iK hu) (by cases o.dst<;>exact hd) hK
variable {c:Code}{n i:Nat}{l:List Nat}
def aF.len{x:Operand}{t e:TypeId}{A:Option Addr}{k cap:Nat}(hr:uD c n=true)(hi:i < n)(h:acH (opAt c i)=some (x,t))(hu:P.underlying t=some (.slice e))(ha:A3 G fr x=some (.raw A k cap))
   (j:aF P G E (JZ c) l (JD fr (opAt c i).dst (.sc (.int .i64 k))) s Q):aF P G E (JZ c) (i::l) fr s Q:=by
 have hgd:(opAt c i).guard=none:=by unfold acH at h;split at h;rename_i hg;exact hg;cases h
 refine .sem (.sc (.int .i64 k)) (TP hr hi) hgd (λcx w a hE hs hf=>?_) j;have hv:=GA hs hf ha;generalize hq:a.eval x=v at hv;cases hv;exact⟨_,w,cx,(agP h hu hq).2,hE,hs,hf,.sc rfl⟩
variable {b g cap:Nat}{B:Nat->Nat->Prop}{w0:World}{ps:List (Nat×Nat)}{p:Nat×Nat}
def aF.push{t tx e e2 id off:TypeId}{x y:Operand}(hr:uD c n=true)(hi:i < n)(h:pY (opAt c i)=some (x,y,t,tx))(hu:P.underlying t=some (.slice e))(hux:P.underlying tx=some (.slice e2))
   (he:(P.info? e).map (λi=>(i.size,decide (i.bytes<=10000),i.zero.map (·.cells.size)))=some (1,true,some 1)) (ha:A3 G fr x=some (.raw (some ⟨g,0,none⟩) ps.length cap)) (hy:A3 G fr y=some (.sl .full 1 [.ptr id off])) (hlen:ps.length+1<=100000000)
   (j:∀g' cap',aF P G (ajD b B w0 g' cap' (ps++[(id,off)])) (JZ c) l (JD fr (opAt c i).dst (.raw (some ⟨g',0,none⟩) (ps++[(id,off)]).length cap')) s Q):aF P G (ajD b B w0 g cap ps) (JZ c) (i::l) fr s Q:=by
 cases hie:P.info? e with
 |none=>rw[hie] at he;cases he
 |some ie=>
 rw[hie] at he;simp only[bbB,aUQ,bbI,decide_eq_true_eq] at he;obtain⟨hsz,hby,hzz⟩:=he;obtain⟨z,hz,hzs⟩:=Option.map_eq_some_iff.1 hzz;refine .aYP (ι:=Nat×Nat) (E':=λq=>ajD b B w0 q.1 q.2 (ps++[(id,off)])) (λq=>.raw (some ⟨q.1,0,none⟩) (ps++[(id,off)]).length q.2) (TP hr hi) (pZ h) (λcx w a hE hs hf=>?_) (λq=>j q.1 q.2);have hva:=GA hs hf ha;have hvy:=GA hs hf hy;generalize hqa:a.eval x=va at hva;generalize hqy:a.eval y=vy at hvy;cases hva;obtain⟨h1,h2,h3,h4,h5,h6,vs,ext,T,h7,h8,h9⟩:=hE;have hg:g < w.heap.size:=(aHQ.1 h7).1;have hl:=h9.len;rw[ahB] at hl;obtain⟨news,hnr,hnl,hsi⟩:=abE (P:=P) (s:=s) (size:=ie.size) (tx:=tx) (n:=1) (cs:=[.ptr id off]) hs (by unfold iE;rw[hux,hsz];rfl) hvy;rw[hsz,bhB] at hnl;have aQH:∀g' i v,RI cx w g' i v->g'≠g:=λg' i v hv e=>hv.2.1 (.inr (.inr ((h3 g' i).2 (.inr e))))
 have aCZ:∀{Wp:Cx}{w':World},Mon cx w Wp w'->CF Wp w' (tG (ps++[(id,off)])) (vs++news):=λhm=>by
  unfold tG at h9 ⊢;rw[List.map_append];exact(h9.Dx hm).append (hnr.Dx hm)
 by_cases WY:ps.length+1<=cap
 ·have awL:ps.length+news.length<=(vs++ext).toArray.size:=by rw[hnl,bcW,cZ];omega
  have E5:=run_storeCells_at P g ps.length T news 0 (vs++ext).toArray w h7 (by simpa using awL) (Xd hnr rfl)
  simp only[bcS] at E5;have VG:=setRow_heap w g (vs++ext).toArray ((vs++ext).toArray.toList.take ps.length++news++(vs++ext).toArray.toList.drop (ps.length+news.length)).toArray T (0,0) h7;have hc:=GB w g ((vs++ext).toArray.toList.take ps.length++news++(vs++ext).toArray.toList.drop (ps.length+news.length)).toArray
  have aHX:((vs++ext).toArray.toList.take ps.length++news++(vs++ext).toArray.toList.drop (ps.length+news.length))=(vs++news)++ext.drop 1:=by simp only[List.toList_toArray];rw[List.take_left' hl,hnl,biH];rw[bbX (by omega),bcY,show ps.length+1 - vs.length=1 by omega]
  rw[aHX] at VG E5 hc;have hm:Mon cx w cx (w.setRow g ((vs++news)++ext.drop 1).toArray):=⟨λ_ _ h=>h,aHT _,λr y _ h=>⟨y,h,K3.refl y⟩,λg' i v hv=>⟨aUS hv.1 hc.size,hv.2.1,by rw[hc.cell hv.1 (aQH g' i v hv)];exact hv.2.2⟩⟩
  refine⟨(g,cap),_,_,cx,(jP h (λty=>by
   rw[hqa,hqy];exact So (ty:=ty) hu hie hsi WY (w':=w.setRow g ((vs++news)++ext.drop 1).toArray) (λa ha=>by cases ha;rw[add_lit,aUU,hsz,bhB];exact E5) (λh=>by cases h))).2,⟨h1,h2.trans (hc.below (by rw[<- h1];exact hs.RU) (λk hk=>by rw[hk];exact h4)),h3,h4,h5,h6,vs++news,ext.drop 1,T,VG,?_,aCZ hm⟩,hs.move hm rfl rfl rfl (λk hk hor=>hc.block k hk (λe=>?_)) hc.size (λg' i hb=>⟨.inl hb,aUS (hs.Nz g' i hb) hc.size⟩),hf.Dx hm,?_⟩
  rw[cZ,aUZ];omega
  ·subst e
   rcases hor with h | ⟨r,n',cap',sz,h⟩ | ⟨cs,h⟩
   exact h5 h;exact h6 _ _ _ _ h
   ·cases cs with
    |nil=>
     obtain⟨_,vs',T',f',e3,e4⟩:=hs.Od _ _ h;rw[h7] at e3;cases e3;simp only[bcW,cZ,amO] at e4;omega
    |cons c0 cs=>
     obtain⟨v,hv,_⟩:=(hs.Mr _ _ h).get (i:=0) rfl;exact aQH _ _ _ hv rfl
  rw[cZ];exact .raw
 have hfc:(Builtin.firstCells ie.size ps.length (.slice (some ⟨g,0,none⟩) ps.length cap)).run P { w with drawn:=w.drawn+1 }=.ok vs.toArray { w with drawn:=w.drawn+1 }:=by
  rw[hsz];refine run_firstCells_some { w with drawn:=w.drawn+1 } 1 ps.length ⟨g,0,none⟩ ps.length cap vs (by omega) (λj v hj=>?_)
  rw[add_lit,aUU];exact cell_of_heap h7 (aI hj)
 have aHW:(ps.length+1)*ie.bytes<=140737488355328:=bbM (bjB hlen hby) (by decide)
 have hex:∃cap',ps.length+1<=cap'/\∀ty,(bdM #[t,tx] ty #[.slice (some ⟨g,0,none⟩) ps.length cap,vy]).run P w=.ok (.slice (some ⟨w.heap.size,0,none⟩) (ps.length+1) cap') { w with drawn:=w.drawn+1,heap:=w.heap.push (.cells ((vs++news).toArray++bbY z.cells (cap' - (ps.length+1))) e) }:=by obtain⟨cap',hc',dM⟩:=XC (ty:=0) hu hie hz hsi hfc (by omega) (by omega) aHW;exact⟨cap',hc',λty=>dM⟩
 obtain⟨cap',abW,dM⟩:=hex;have hzc:(bbY z.cells (cap' - (ps.length+1))).size=cap' - (ps.length+1):=by rw[size_zeroCells,hzs,bhB]
 let w':World:={ w with drawn:=w.drawn+1,heap:=w.heap.push (.cells ((vs++news).toArray++bbY z.cells (cap' - (ps.length+1))) e) }
 have hk:S4 w w' (λ_=>False):=⟨rfl,rfl,rfl,by simp[w'],λk hk _=>by simp[w',Array.getElem?_push];intro h;omega⟩
 have VG:w'.heap[w.heap.size]?=some (.cells ((vs++news)++(bbY z.cells (cap' - (ps.length+1))).toList).toArray e (0,0)):=by
  have:w'.heap[w.heap.size]?=some (.cells ((vs++news).toArray++bbY z.cells (cap' - (ps.length+1))) e (0,0)):=by simp[w']
  rw[this];congr 2;apply bbW;simp
 let Wp:Cx:={ cx with bad:=λg' i=>B g' i\/g'=w.heap.size }
 have hBs:∀g' i,B g' i->g' < w.heap.size:=λg' i hb=>hs.Nz g' i ((h3 g' i).2 (.inl hb));have hm:Mon cx w Wp w':=⟨λ_ _ h=>h,aHT _,λr y _ h=>⟨y,h,K3.refl y⟩,λg' i v hv=>⟨aUS hv.1 hk.size,λhsh=>?_,by rw[hk.cell hv.1 not_false];exact hv.2.2⟩⟩;have baO:w'.heap.size=w.heap.size+1:=by simp[w']
 refine⟨(w.heap.size,cap'),_,w',Wp,(jP h (λty=>by rw[hqa,hqy];exact dM ty)).2,⟨h1,h2.trans (hk.below (by rw[<- h1];exact hs.RU) (λ_ h=>h.elim)),λ_ _=>Iff.rfl,by rw[<- h1];exact hs.RU,λhm'=>?_,λr n' c' sz hO=>?_,vs++news,_,e,VG,?_,aCZ hm⟩,hs.move hm rfl rfl rfl (λk OV _=>hk.block k OV not_false) hk.size (λg' i hb=>?_),hf.Dx hm,?_⟩;have:=hs.NM _ hm';omega;have:=hs.Pq hO;omega;have hz3:(bbY z.cells (cap' - (ps.length+1))).toList.length=cap' - (ps.length+1):=by rw[bbN,hzc]
 show(vs++news).length+_=cap';rw[hz3,cZ];omega;rcases hb with hb | rfl
 exact⟨.inl ((h3 g' i).2 (.inl hb)),by have:=hBs g' i hb;omega⟩;exact⟨.inr (aHT _),by omega⟩;rw[cZ];exact .raw;rcases hsh with hsh | hsh | hsh
 exact hv.2.1 (.inl hsh);exact hv.2.1 (.inr (.inl hsh));rcases hsh with hsh | hsh
 exact hv.2.1 (.inr (.inr ((h3 g' i).2 (.inl hsh))));have:=hv.1;omega
def WE.run(hm:P.follows .mixedOrders=true)(hk:bI E){c:Code}(l:List (PC P G)){e:AX}{G5:List AV}{s2:AS}(h:jA G5 (UL P G 300 c [] (pHs l) fr s)=some (e,Wt l,G5,s2))(hp:∀v,e≠.pan v)(hq:Q e G5 s2 E):WE P G E c fr s Q:=by
 unfold jA at h;split at h;rename_i e' cd Cj s' hr;simp only[aUQ,bbI] at h;obtain⟨rfl,rfl,Qq,rfl⟩:=h;have hw:W P G (XS P G) H0 c fr s (λe2 f2 s2=>e2=e'/\f2=Cj/\s2=s'):=azD 300 l _ _ _ _ hr (QB l) ⟨rfl,rfl,rfl⟩;obtain⟨e1,f1,s1,hj,rfl,rfl,rfl⟩:=hw;have hS:=sound (VD hm) hj;intro cx w a K hE hs hf hd hK;refine hS cx w a K hs hf hd ?_;rintro e'' a' w' ⟨c',hx,hs',Y6,h4⟩;refine hK _ _ _ E hq c' w' a' e'' (hk _ _ _ _ hE hx) hs' Y6 ?_;rw[<- Qq];cases e1 with|normal=>exact⟨h4.1,YS h4.2⟩|exit id=>exact⟨h4.1,YS h4.2⟩|ret=>exact⟨h4.1,YS h4.2⟩|pan v=>exact absurd rfl (hp v)
 cases h
end
end AI
namespace AI
open Go Go.RowKit
section
variable {P:Program}{G:AP}{E:EW}{fr:List AV}{s:AS}{Q:QE}
def aF.q(hm:P.follows .mixedOrders=true)(hk:bI E){c:Code}{n i:Nat}{l:List Nat}(hr:uD c n=true)(hi:i < n)(v:AV)(hw:Cp (JZ c) fr (opAt c i)=true)(h:RJ P G fr s (opAt c i)=some (.val v s))(t:aF P G E (JZ c) l (JD fr (opAt c i).dst v) s Q):aF P G E (JZ c) (i::l) fr s Q :=
 .op hm hk v (TP hr hi) (.O1 hw h) t
def aF.hb(hm:P.follows .mixedOrders=true)(hk:bI E){c:Code}{n i:Nat}{l:List Nat}(hr:uD c n=true)(hi:i < n){B:Bool}(b:Bool)(hB:B=b)(h:kB P G (JZ c) fr s (opAt c i) [.b b]=some (.sc (.bool b),s,[],[.eqb B b]))(t:aF P G E (JZ c) l (JD fr (opAt c i).dst (.sc (.bool b))) s Q):aF P G E (JZ c) (i::l) fr s Q :=
 .op hm hk (.sc (.bool b)) (TP hr hi) (Qo h ⟨hB,trivial⟩) t
def aF.hi(hm:P.follows .mixedOrders=true)(hk:bI E){c:Code}{n i:Nat}{l:List Nat}(hr:uD c n=true)(hi:i < n){X:Int}(z:Int)(hX:X=z)(h:kB P G (JZ c) fr s (opAt c i) [.i z]=some (.sc (.int .i64 z),s,[],[.eqi X z]))(t:aF P G E (JZ c) l (JD fr (opAt c i).dst (.sc (.int .i64 z))) s Q):aF P G E (JZ c) (i::l) fr s Q :=
 .op hm hk (.sc (.int .i64 z)) (TP hr hi) (Qo h ⟨hX,trivial⟩) t
end
end AI
namespace AI
open Go Go.RowKit
end AI
namespace AI
open Go Go.RowKit
def byC(l:List UInt8):List AV:=l.map λb=>.sc (.int .u8 b.toNat)
def auT(l:List UInt8):(byC l).all one=true:=by unfold byC;rw[List.all_map,bcC];intro x _;rfl
end AI
namespace AI
open Go Go.RowKit
section
variable {P:Program}{G:AP}{α δ:Type}{enc:α->AV}{qZ:δ->AV}
abbrev MF(enc:α->AV)(qZ:δ->AV):α⊕δ->CR
 |.inl a=>.ret (enc a)
 |.inr d=>.pan (qZ d)
def aiY(P:Program)(G:AP)(fn:Func)(m:Nat)(s0:AS)(enc:α->AV)(qZ:δ->AV)(Q:AX->List AV->AS->Prop)(y:α⊕δ)(s2:AS):Prop:=match y with|.inl a=>Wv P G fn m s0 Q (enc a) s2|.inr d=>XY G m s0 Q (qZ d) s2
def aiY.body{fn:Func}{m:Nat}{s0 s2:AS}{y:α⊕δ}:aiY P G fn m s0 enc qZ (PV P fn m (QM G s0 (MF enc qZ y) s2)) y s2:=by cases y with|inl a=>exact Wv.body|inr d=>exact XY.body
def aiY.rnd{fn:Func}{m:Nat}{L:Code}{s0 s1 s2:AS}{Q:AX->List AV->AS->Prop}{y:α⊕δ}(h:aiY P G fn m s0 enc qZ Q y s2):aiY P G fn m s0 enc qZ (KN P G L s1 Q) y s2:=by cases y with|inl a=>exact Wv.rnd h|inr d=>exact XY.rnd h
def SP.ixa{α:Type}{f:α->List AV}{C:List α->List AV}{k:Nat}(h:SP f C k){t elem len:Nat}(hu:P.underlying t=some (.array len elem))(hs:(P.info? elem).map (·.size)=some k){l:List α}(hl:l.length=len){z:Int}{x:α}(hx:FI l z=some x):Df P t (.el (C l)) (.sc (.int .i64 z))=some (.el (f x++C (l.drop (z.toNat+1)))):=by
 unfold FI at hx;split at hx
 ·rename_i hz
  have hi:=(aHS.1 hx).1
  have hn:UH (.sc (.int .i64 z))=some z.toNat:=by unfold UH;simp[hz]
  cases he:P.info? elem with
  |none=>rw[he] at hs;cases hs
  |some e=>
   rw[he] at hs;have hk:e.size=k:=by simpa using hs
   subst hl;unfold Df;rw[hu,hn];simp only[he,hk,if_pos hi];rw[h.eq,h.eq,lD h.len hx]
 cases hx
def aGR{t:TypeId}{x y:ByteArray}(h:x.data.toList.length+y.data.toList.length<=9223372036854775807)(ox oy:Operand):Md P .add t ox oy (.sc (.string x)) (.sc (.string y))=some (.sc (.string (x++y))):=by
 have h0:SF P .add t ox oy (.sc (.string x)) (.sc (.string y))=some (.sc (.string (x++y))):=by unfold SF wS;simp only[if_pos h,TC,Wy];rfl
 unfold Md;simp only[h0,ajQ]
def pcv{t t2:TypeId}{a v:AV}(h:Te P t t2 a=some v):PC P G:=⟨.w v,[.cv t t2 a v],⟨h,trivial⟩⟩
def aPG{t tx e n:Nat}(hu:P.underlying t=some (.slice e))(hux:P.underlying tx=some .string)(hi:(P.info? e).map (λi=>(i.size,i.bytes,i.zero.map (·.cells.size)))=some (1,1,some 1))(he:e=u8T)
   (r:Nat) {cs:List AV} (hcs:cs.length=n) (x:ByteArray) (hm:x.data.toList.length≠0) (hlen:n+x.data.toList.length<=100000000):Cd.ok P G (.cU t tx (.row r 0) n cs (.sc (.string x)) 0 (n+x.data.toList.length) (cs++byC x.data.toList)):=by
 cases hq:P.info? e with
 |none=>rw[hq] at hi;cases hi
 |some i=>
  rw[hq] at hi;simp only[bbB,aUQ,bbI] at hi;obtain⟨h1,h2,h3⟩:=hi;cases hz:i.zero with
  |none=>rw[hz] at h3;cases h3
  |some z=>
   rw[hz] at h3;simp only[bbB,aUQ] at h3;intro s Lv;refine⟨cs++byC x.data.toList,?_,λc w u o' hr=>hr⟩
   have hs:iE P s i.size tx (.sc (.string x))=some (x.data.toList.length,byC x.data.toList):=by unfold iE;rw[hux,h1];rfl
   unfold Lx;simp only[hu,hq,hz];rw[if_pos ⟨by rw[h3,h1],by omega⟩,hs];simp only;rw[if_pos ⟨by rw[hcs,h1];omega,auT _,by rw[h2];omega,by omega⟩,if_neg hm,h1,if_neg (by simp[KC]),if_pos ⟨Lv,rfl,he⟩]
def ppn:PC P G:=⟨.p .any ⟨[],0,[],0⟩,[],trivial⟩
def pzq(c:Nat):PC P G:=⟨.zq c,[],trivial⟩
def ayC{f:FuncId}{args YX:List AV}{v:AV}{pre:List (Nat×AF)}{tp:List (Nat×Nat)}{Sz:List (Nat×AF)}{tu:List (Nat×Nat)}(w:Wn args YX)(h:Cd.ok P G (.Q4 f YX (.pan v) pre tp Sz tu)):PC P G :=
 ⟨.q v pre tp Sz tu,[.Q4 f args (.pan v) pre tp Sz tu,.eqx (PF pre) (PF pre) (Qg tp) (Qg tp)],⟨λs h1 h2 cx wd vs hs ha=>h s h1 h2 cx wd vs hs (w.ok ha),⟨rfl,rfl⟩,trivial⟩⟩
end
end AI
namespace AI
open Go Go.RowKit
section
variable {P:Program}{G:AP}
variable {α γ δ ρ β:Type}{id:Nat}{Zf:List KI}{done:γ->δ}{X:Prop}{k:δ->Option β}{kr:ρ->Option β}{r:β}
end
end AI
namespace AI
open Go Go.RowKit
class GP(G:AP):Prop where
 h:∀g cs,G g=some cs->BN cs=true
mutual
def wkV:AV->AV->AV
 |.sl .full n cs,.sl .lost _ ds=>.sl .lost n (YT cs ds)
 |.sl _ n cs,.sl .lost _ _=>.sl .lost n cs
 |.agg cs,.agg ds=>.agg (YT cs ds)
 |.DW cs,.DW ds=>.DW (YT cs ds)
 |a,.any=>nA a
 |a,_=>a
def YT:List AV->List AV->List AV
 |a::l,b::k=>wkV a b::YT l k
 |l,_=>l
end
section
variable {c:Cx}{w:World}
def atX(n:Nat):(∀(a b:AV)(v:Value),sizeOf a < n->Rp c w a v->Rp c w (wkV a b) v)/\(∀(l k:List AV)(vs:List Value),sizeOf l < n->CF c w l vs->CF c w (YT l k) vs)/\∀(l k:List AV)(g o:Nat),sizeOf l < n->A7 c w g o l->A7 c w g o (YT l k):=by
 induction n with
 |zero=>exact⟨λ_ _ _ h=>absurd h (beX _),λ_ _ _ h=>absurd h (beX _),λ_ _ _ _ h=>absurd h (beX _)⟩
 |succ n ih=>
  obtain⟨h1,h2,h3⟩:=ih;refine⟨λa b v hn hr=>?_,λl k vs hn hr=>?_,λl k g o hn hr=>?_⟩;unfold wkV;split;rename_i m cs q ds;simp only[AV.sl.sizeOf_spec] at hn;cases hr with|sl0 _=>unfold YT;exact .sl0 trivial|MT hm hc _=>exact .MT hm (h3 _ _ _ _ (by omega) hc) trivial
  cases hr with|sl0 _=>exact .sl0 trivial|MT hm hc _=>exact .MT hm hc trivial
  simp only[AV.agg.sizeOf_spec] at hn;cases hr with | agg h=>exact .agg (h2 _ _ _ (by omega) h)
  simp only[AV.DW.sizeOf_spec] at hn;cases hr with | DW h=>exact .DW (h2 _ _ _ (by omega) h)
  exact jW hr;exact hr;unfold YT;split;simp only[bfL] at hn;cases hr with | cons h t=>exact .cons (h1 _ _ _ (by omega) h) (h2 _ _ _ (by omega) t)
  exact hr;unfold YT;split;simp only[bfL] at hn;cases hr with | cons hv h t=>exact .cons hv (h1 _ _ _ (by omega) h) (h3 _ _ _ _ (by omega) t)
  exact hr
def aML{a b:AV}{v:Value}(h:Rp c w a v):Rp c w (wkV a b) v:=(atX _).1 _ _ _ (bdH _) h
def aeU{l k:List AV}{vs:List Value}(h:CF c w l vs):CF c w (YT l k) vs:=(atX _).2.1 _ _ _ (bdH _) h
end
def wkB:AF->AF->AF
 |.cells cs,.cells ds=>.cells (YT cs ds)
 |b,_=>b
def wkH:List (Nat×AF)->List (Nat×AF)->List (Nat×AF)
 |e::l,d::k=>(e.1,wkB e.2 d.2)::wkH l k
 |l,_=>l
def aMK{c:Cx}{w:World}{a b:AF}{o:Obj}(h:Ep c w a o):Ep c w (wkB a b) o:=by
 unfold wkB;split;cases h with | Ik ext h1=>exact .Ik ext (aeU h1)
 exact h
def vM:∀{l k:List (Nat×AF)}{n:Nat},Kr l n->Kr (wkH l k) n
 |[],k,_,h=>by cases k<;>exact h
 |_::_,[],_,h=>h
 |_::_,_::_,_,h=>⟨h.1,vM h.2⟩
def vN:∀{l k:List (Nat×AF)}{id:Nat}{b:AF},look id (wkH l k)=some b->∃b',look id l=some b'/\∀c w o,Ep c w b' o->Ep c w b o
 |[],k,_,_,h=>by cases k<;>cases h
 |e::l,[],_,b,h=>⟨b,h,λ_ _ _ h=>h⟩
 |e::l,d::k,id,b,h=>by
  simp only[wkH,look] at h ⊢;split at h;cases h;exact⟨_,rfl,λ_ _ _ h=>aMK h⟩;exact vN h
class Un(a:AV)(q:outParam (Nat->Nat->Bool)):Prop where
 h:∀n m,q n m=true->under n m a=true
class UnL(l:List AV)(q:outParam (Nat->Nat->Bool)):Prop where
 h:∀n m,q n m=true->FF n m l=true
abbrev qT:Nat->Nat->Bool:=λ_ _=>true
abbrev qA(p q:Nat->Nat->Bool):Nat->Nat->Bool:=λn m=>p n m&&q n m
abbrev qN(i:Nat):Nat->Nat->Bool:=λn _=>beG i n
class PlV(a:AV):Prop where
 h:plain a=true
class aD(l:List AV):Prop where
 h:BN l=true
instance {v:Value}:PlV (.sc v):=⟨rfl⟩
instance {cs:List AV} [i:aD cs]:PlV (.agg cs):=⟨i.h⟩
instance {cs:List AV} [i:aD cs]:PlV (.DW cs):=⟨i.h⟩
instance {t:TypeId}{v:AV} [i:PlV v]:PlV (.ifc t v):=⟨by simp only[plain];exact i.h⟩
instance {n:Nat}{cs:List AV} [i:aD cs]:PlV (.sl .lost n cs):=⟨by simp only[plain,i.h];rfl⟩
instance:aD []:=⟨rfl⟩
instance {a:AV}{l:List AV} [i:PlV a] [j:aD l]:aD (a::l):=⟨Se i.h j.h⟩
class MO(P:Program):Prop where
 h:P.follows .mixedOrders=true
instance (priority:=low) {l:List AV} [i:aD l]:UnL l qT:=⟨λn m _=>Ei n m i.h⟩
instance {v:Value}:Un (.sc v) qT:=⟨λ_ _ _=>rfl⟩
instance {i o:Nat}:Un (.ptr i o) (qN i):=⟨λ_ _ h=>decide_eq_true (aUX h)⟩
instance {i:Nat}:Un (.mp i) (qN i):=⟨λ_ _ h=>decide_eq_true (aUX h)⟩
instance {cs:List AV} {q} [i:UnL cs q]:Un (.agg cs) q:=⟨λn m h=>by simp only[under];exact i.h n m h⟩
instance {cs:List AV} {q} [i:UnL cs q]:Un (.DW cs) q:=⟨λn m h=>by simp only[under];exact i.h n m h⟩
instance {t:TypeId}{v:AV} {q} [i:Un v q]:Un (.ifc t v) q:=⟨λn m h=>by simp only[under];exact i.h n m h⟩
instance {f:Fn}{a b:List AV} {q r} [i:UnL a q] [j:UnL b r]:Un (.fn f a b) (qA q r):=⟨λn m h=>by
 have h:=bcO.1 h;simp only[under,i.h n m h.1,j.h n m h.2,bgW]⟩
instance {k:Nat}{cs:List AV} {q} [i:UnL cs q]:Un (.sl .lost k cs) q:=⟨λn m h=>by simp only[under,i.h n m h,bgW]⟩
instance {k:Nat}{cs:List AV} {q} [i:UnL cs q]:Un (.sl .full k cs) q:=⟨λn m h=>by simp only[under,i.h n m h,bgW]⟩
instance {k r z:Nat}{cs:List AV} {q} [i:UnL cs q]:Un (.sl (.row r z) k cs) (qA (λ_ m=>beG r m) q):=⟨λn m h=>by
 have h:=bcO.1 h;simp only[under,i.h n m h.2,Bool.and_true];exact decide_eq_true (aUX h.1)⟩
instance:UnL [] qT:=⟨λ_ _ _=>rfl⟩
instance {a:AV}{l:List AV} {q r} [i:Un a q] [j:UnL l r]:UnL (a::l) (qA q r):=⟨λn m h=>by
 have h:=bcO.1 h;simp only[FF,i.h n m h.1,j.h n m h.2,bgW]⟩
class UnB(b:AF)(q:outParam (Nat->Nat->Bool)):Prop where
 h:∀n m,q n m=true->SD n m b b
class UnH(l:List (Nat×AF))(q:outParam (Nat->Nat->Bool)):Prop where
 h:∀n m,q n m=true->∀id b,look id l=some b->SD n m b b
class UnS(s:AS)(q:outParam (Nat->Nat->Bool)):Prop where
 h:∀n m,q n m=true->∀id b,look id s.h=some b->SD n m b b
instance {cs:List AV} {q} [i:UnL cs q]:UnB (.cells cs) q:=⟨λn m h=>.cells (.under (i.h n m h))⟩
instance {T:TypeId}{i:Nat}{cs:List AV} {q} [x:UnL cs q]:UnB (.Fk T i cs) (qA (qN i) q):=⟨λn m h=>by
 have h:=bcO.1 h;exact .under (by simp only[gA,aUR];exact⟨decide_eq_true (aUX h.1),x.h n m h.2⟩)⟩
instance:UnH [] qT:=⟨λ_ _ _ _ _ h=>by cases h⟩
instance {i:Nat}{b:AF}{l:List (Nat×AF)} {q r} [x:UnB b q] [y:UnH l r]:UnH ((i,b)::l) (qA q r):=⟨λn m h id b' hl=>by
 have h:=bcO.1 h;simp only[look] at hl;split at hl;cases hl;exact x.h n m h.1;exact y.h n m h.2 id b' hl⟩
instance {h:List (Nat×AF)}{n m:Nat}{F:List (Nat×Nat)} {q} [x:UnH h q]:UnS ⟨h,n,F,m⟩ q:=⟨x.h⟩
class Tg(v:AV)(x:outParam AV):Prop where
 eq:x=v
instance (priority:=low) {v:AV}:Tg v v:=⟨rfl⟩
class UnE(l:List (Nat×AV))(q:outParam (Nat->Nat->Bool)):Prop where
 h:∀n m,q n m=true->∀e,e∈l->under n m e.2=true
instance:UnE [] qT:=⟨λ_ _ _ _ h=>by cases h⟩
instance {t:Nat}{a:AV}{l:List (Nat×AV)} {q r} [x:Un a q] [y:UnE l r]:UnE ((t,a)::l) (qA q r):=⟨λn m h e he=>by
 have h:=bcO.1 h;cases he with|head=>exact x.h n m h.1|tail _ h2=>exact y.h n m h.2 e h2⟩
def WS{n m:Nat}:∀(k p:Nat) (l:List (Nat×AV)) (bs:List Nat) (kb:Nat) (j:List Value),(∀e,e∈l->under n m e.2=true)->FF n m (frQ k p l bs kb j)=true
 |0,_,_,_,_,_,_=>rfl
 |k+1,p,l,bs,kb,j,h=>by
  unfold frQ;split
  ·rename_i v hv
   cases l with
   |nil=>simp only[frm.hd1] at hv;cases hv
   |cons e l=>
    simp only[frm.hd1] at hv;cases hb:e.1.beq p<;>rw[hb] at hv
    cases hv;cases hv;simp only[FF,aUR];exact⟨h _ (.head _),WS k _ _ _ _ _ λe he=>h e (.tail _ he)⟩
  split;simp only[FF,aUR];exact⟨rfl,WS k _ _ _ _ _ h⟩;simp only[FF,aUR];exact⟨rfl,WS k _ _ _ _ _ h⟩
def aiP{n m:Nat}{l k:List AV}(h:YT l k=k)(hu:FF n m k=true):Kv n m l k:=λc w vs hr=>by
 have:=aeU (k:=k) hr;rw[h] at this;exact this.upto hu
section
variable {P:Program}{G:AP}{α β γ δ ρ κ:Type}
def nE[gp:GP G]{s0 s' s2:AS}{Cj G5:List AV}{qb:Nat->Nat->Bool}[ub:UnS s2 qb](hf:Kv s0.nx s0.nr Cj G5)(hq:qb s0.nx s0.nr=true)(e:⟨wkH (OR s0.nx s'.h) s2.h,s0.nx,SH s0.nr s'.F,s0.nr⟩=s2):Frg G s0 Cj s' G5 s2:=by
 intro cx w c' w' vs hx hs hs' Qq;have hb:=ub.h s0.nx s0.nr hq;have eh:wkH (OR s0.nx s'.h) s2.h=s2.h:=congrArg AS.h e;have en:s0.nx=s2.nx:=by rw[<- e]
 have eF:SH s0.nr s'.F=s2.F:=congrArg AS.F e;have er:s0.nr=s2.nr:=by rw[<- e]
 refine avV gp.h (s:=s0) (s2:=s2) en.symm er.symm ?_ (λid b h=>?_) (λr n hr=>?_) hf cx w c' w' vs hx hs hs' Qq;rw[<- eh,<- en];exact vM (qY hs'.desc);have h':=h;rw[<- eh] at h';obtain⟨b',h3,h4⟩:=vN h';exact⟨b',VB hs'.desc h3,λc w o ho=>hb id b h c w o (h4 c w o ho)⟩;rw[<- eF] at hr;exact rC hr
def T(_l:List (PC P G))(M:Option α)(Z:α->Prop):Prop:=∀r,M=some r->Z r
class Ht(P:Program)(G:AP){β:Type}(m:Option β) where
 c:∀y,m=some y->List (PC P G)
class Hs(P:Program)(G:AP){α δ γ:Type}(m:Option ((α⊕δ)×γ)) where
 l:∀a c,m=some (.inl a,c)->List (PC P G)
 r:∀d c,m=some (.inr d,c)->List (PC P G)
variable {l:List (PC P G)}{m:Option β}{k:β->Option α}{Z:α->Prop}
def tB(h:∀y (_:m=some y),T l (k y) Z):T l (m.bind k) Z:=λr e=>by
 obtain⟨y,h1,h2⟩:=iF e;exact h y h1 r h2
def tH[i:Ht P G m](h:∀y (e:m=some y),T (l++i.c y e) (k y) Z):T l (m.bind k) Z:=tB h
def tS{m:Option ((β⊕δ)×γ)}{k:(β⊕δ)×γ->Option α}[i:Hs P G m](h:∀a c (e:m=some (.inl a,c)),T (l++i.l a c e) (k (.inl a,c)) Z)(h':∀d c (e:m=some (.inr d,c)),T (l++i.r d c e) (k (.inr d,c)) Z):T l (m.bind k) Z:=tB λy e=>by
 obtain⟨y | y,c⟩:=y;exact h y c e;exact h' y c e
def QV{m:Option ((β⊕δ)×γ)}{k:(β⊕δ)×γ->Option α}(h:∀a c (_:m=some (.inl a,c)),T l (k (.inl a,c)) Z)(h':∀d c (_:m=some (.inr d,c)),T l (k (.inr d,c)) Z):T l (m.bind k) Z:=tB λy e=>by
 obtain⟨y | y,c⟩:=y;exact h y c e;exact h' y c e
def tW{m:Option (β×γ)}{k:β×γ->Option α}(h:∀a c (_:m=some (a,c)),T l (k (a,c)) Z):T l (m.bind k) Z:=tB λy e=>h y.1 y.2 e
def Jy{m:Option (β×γ)}{k:β×γ->Option α}[i:Ht P G m](h:∀a c (e:m=some (a,c)),T (l++i.c (a,c) e) (k (a,c)) Z):T l (m.bind k) Z:=tB λy e=>h y.1 y.2 e
def tW3{m:Option (β×γ×δ)}{k:β×γ×δ->Option α}(h:∀a b c (_:m=some (a,b,c)),T l (k (a,b,c)) Z):T l (m.bind k) Z:=tB λy e=>h y.1 y.2.1 y.2.2 e
def aYU{m:Option (β×γ×δ)}{k:β×γ×δ->Option α}[i:Ht P G m](h:∀a b c (e:m=some (a,b,c)),T (l++i.c (a,b,c) e) (k (a,b,c)) Z):T l (m.bind k) Z:=tB λy e=>h y.1 y.2.1 y.2.2 e
def aYT{ε:Type}{m:Option ((β⊕δ)×γ×ε)}{k:(β⊕δ)×γ×ε->Option α}(h:∀a c d (_:m=some (.inl a,c,d)),T l (k (.inl a,c,d)) Z)(h':∀b c d (_:m=some (.inr b,c,d)),T l (k (.inr b,c,d)) Z):T l (m.bind k) Z:=tB λy e=>by
 obtain⟨y | y,c,d⟩:=y;exact h y c d e;exact h' y c d e
def tF(f:List (PC P G)){M:Option α}(h:T (l++f) M Z):T l M Z:=h
def tP0{m:Option Bool}{A B:Bool->Option α}(h:m=some true->T l (A true) Z)(h':m=some false->T l (B false) Z):T l (m.bind λy=>cond y (A y) (B y)) Z:=tB λy e=>by
 cases y;exact h' e;exact h e
def tP{m:Option Bool}{A B:Bool->Option α}[i:Ht P G m](h:∀e:m=some true,T (l++i.c true e) (A true) Z)(h':∀e:m=some false,T (l++i.c false e) (B false) Z):T l (m.bind λy=>cond y (A y) (B y)) Z:=tP0 h h'
def QU{m:Option Bool}{A B:Bool->Option α}(c:∀y,m=some y->List (PC P G))(h:∀e:m=some true,T (l++c true e) (A true) Z)(h':∀e:m=some false,T (l++c false e) (B false) Z):T l (m.bind λy=>cond y (A y) (B y)) Z:=tP0 h h'
def YK{A B:Option α}(h:T l A Z):T l (cond true A B) Z:=h
def YJ{A B:Option α}(h:T l B Z):T l (cond false A B) Z:=h
def pN{b:Bool}{A B:Option α}(h:b=true->T l A Z)(h':b=false->T l B Z):T l (cond b A B) Z:=by cases b;exact h' rfl;exact h rfl
def tC{b:Bool}{A B:Option α}(h:∀e:b=true,T (l++[pb e]) A Z)(h':∀e:b=false,T (l++[pb e]) B Z):T l (cond b A B) Z:=pN h h'
def tN{b:Bool}{A B:Option α}(h:∀e:b=true,T (l++[pn e]) A Z)(h':∀e:b=false,T (l++[pn e]) B Z):T l (cond b A B) Z:=pN h h'
def tL{n:Nat}{A:Option α}(h:n<=9223372036854775807->T l A Z):T l (B6 n A) Z:=λr e=>h (aJW e).1 r (aJW e).2
def wG{n:Nat}{A:Option α}(h:n<=100000000->T l A Z):T l (Of n A) Z:=λr e=>h (acJ e).1 r (acJ e).2
def tO:T l (none:Option α) Z:=λ_ e=>by cases e
def mR{f:Func}(h:f.body.isSome=true):f.body=some (Cc f):=by unfold Cc;cases hb:f.body with|none=>rw[hb] at h;cases h|some c=>rfl
section
variable [mo:MO P]{f:FuncId}{fn:Func}{args:List AV}{s0:AS}
def sM1{M:Option (α)}{x:α}(h:M=some x)(hf:P.funcs[f]?=some fn)(hb:fn.body.isSome=true:=by kernel_rfl){R:α->CR}{S:α->AS}(t:T ([]:List (PC P G)) M λr=>W P G (XS P G) H0 (Cc fn) (args++bdF (fn.ntmps - args.length) (.sc undef)) s0 (PV P fn s0.nx (QM G s0 (R r) (S r)))):Sound P G (.call f args s0 (R x) (S x)):=aaD mo.h (aE hf (mR hb) (t _ h))
def MS{M:Option (α×β)}{x:α}{y:β}(h:M=some (x,y))(hf:P.funcs[f]?=some fn)(hb:fn.body.isSome=true:=by kernel_rfl){R:α->β->CR}{S:α->β->AS}(t:T ([]:List (PC P G)) M λr=>W P G (XS P G) H0 (Cc fn) (args++bdF (fn.ntmps - args.length) (.sc undef)) s0 (PV P fn s0.nx (QM G s0 (R (r.1) (r.2)) (S (r.1) (r.2))))):Sound P G (.call f args s0 (R x y) (S x y)):=aaD mo.h (aE hf (mR hb) (t _ h))
def sM3{M:Option (α×β×γ)}{x:α}{y:β}{z:γ}(h:M=some (x,y,z))(hf:P.funcs[f]?=some fn)(hb:fn.body.isSome=true:=by kernel_rfl){R:α->β->γ->CR}{S:α->β->γ->AS}(t:T ([]:List (PC P G)) M λr=>W P G (XS P G) H0 (Cc fn) (args++bdF (fn.ntmps - args.length) (.sc undef)) s0 (PV P fn s0.nx (QM G s0 (R (r.1) (r.2.1) (r.2.2)) (S (r.1) (r.2.1) (r.2.2))))):Sound P G (.call f args s0 (R x y z) (S x y z)):=aaD mo.h (aE hf (mR hb) (t _ h))
def uM[gp:GP G]{M:Option α}{x:α}(h:M=some x)(hf:P.funcs[f]?=some fn)(hb:fn.body.isSome=true:=by kernel_rfl){E:α->AV}[hp:aD args][hv:∀r,PlV (E r)](t:T ([]:List (PC P G)) M λr=>W P G (XS P G) H0 (Cc fn) (args++bdF (fn.ntmps - args.length) (.sc undef)) AI.s0 (PV P fn AI.s0.nx (λq _=>∃a,q=.ret a/\Fits 0 0 a (E r)))):Pure P G f args (E x):=aRW mo.h gp.h (aE hf (mR hb) (t _ h)) hp.h (hv x).h
end
end
end AI
namespace AI
open Go Go.RowKit
def K7{P:Program}{G:AP}:PC P G:=⟨.sb (.map [] 0) (.map [] 0),[],trivial⟩
def pick(l:List AV):List Nat->List Value
 |[]=>[]
 |b::bs=>(match l.drop b with | .sc v::_=>v | _=>undef)::pick l bs
def jR(bs:List Nat):HR->List Value
 |some (_,_,_,l,_)=>pick l bs
 |none=>[]
def aPN(n:Nat):List Nat->Bool
 |[]=>false
 |m::l=>(match bcA n m with | true=>true | false=>aPN n l)
def df(ds:List Nat):List (Nat×AV)->List (Nat×AV)
 |[]=>[]
 |e::l=>(match aPN e.1 ds with | true=>df ds l | false=>e::df ds l)
class TgE(l:List (Nat×AV))(x:outParam (List (Nat×AV))):Prop where
 eq:x=l
instance:TgE [] []:=⟨rfl⟩
instance {t:Nat}{a b:AV}{l x:List (Nat×AV)} [i:Tg a b] [j:TgE l x]:TgE ((t,a)::l) ((t,b)::x):=⟨by rw[i.eq,j.eq]⟩
def zK(P:Program)(fn:Func)(m n0 m0:Nat)(x:AV)(H:List (Nat×AF))(q:Bool):HR->Option (AX×List Cd×AV×AS×Bool)
 |some (.fin e,[],cd,fr,s)=>(match I5 P s fn fr with|some v=>some (e,cd,wkV v x,⟨wkH (OR n0 (s.cut m).h) H,n0,SH m0 (s.cut m).F,m0⟩,q)|none=>none)
 |_=>none
def ayA(m n0 m0:Nat)(x:AV)(H:List (Nat×AF))(q:Bool):HR->Option (List Cd×AV×AS×Bool)
 |some (.fin (.pan v),[],cd,_,s)=>some (cd,wkV v x,⟨wkH (OR n0 (s.cut m).h) H,n0,SH m0 (s.cut m).F,m0⟩,q)
 |_=>none
def adE(P:Program)(fn:Func)(x:AV)(q:Bool):HR->Option (List Cd×AV×Bool)
 |some (.fin .ret,[],cd,fr,s)=>(match I5 P s fn fr with|some v=>some (cd,wkV v x,q)|none=>none)
 |_=>none
def aLG(n0 m0:Nat)(tgt:List AV)(H:List (Nat×AF))(q:Bool):HR->Option (AX×List Cd×List AV×AS×Bool)
 |some (.fin e,[],cd,fr,s)=>some (e,cd,YT fr tgt,⟨wkH (OR n0 s.h) H,n0,SH m0 s.F,m0⟩,q)
 |_=>none
def jX{n m:Nat}{a x v:AV}{q:Nat->Nat->Bool}(tg:Tg v x)(un:Un v q)(h:wkV a x=x)(hq:q n m=true):Fits n m a v:=λc w u hr=>by
 have:=aML (b:=x) hr;rw[h,tg.eq] at this;exact this.upto (un.h n m hq)
section
variable {P:Program}{G:AP}{α β γ δ ρ κ:Type}{l:List (PC P G)}{Z:α->Prop}
def rU{c:Code}{fr:List AV}{s:AS}{Q:AX->List AV->AS->Prop}:Lw P G l Q (UL P G 300 c [] (pHs l) fr s) (W P G (XS P G) H0 c fr s Q):=azD 300 l
def rB{ks:List KI}{fr:List AV}{s:AS}{Q:AX->List AV->AS->Prop}:Lw P G l Q (PK (UL P G 300) ks .normal (pHs l) fr s) (C6 P G ks Q .normal fr s):=aYO 300 l
section
variable {hr:HR}{Q:AX->List AV->AS->Prop}{fn:Func}{m:Nat}{s0 s2:AS}{v x:AV}{q qb:Nat->Nat->Bool}{X:Prop}
def aSA[gp:GP G](R:Lw P G l Q hr X)(k:Wv P G fn m s0 Q v s2)[tg:Tg v x][un:Un v q][us:UnS s2 qb](h:zK P fn m s0.nx s0.nr x s2.h (cond (q s0.nx s0.nr) (qb s0.nx s0.nr) false) hr=some (.ret,Wt l,x,s2,true)):X:=by
 unfold zK at h;split at h;split at h;rename_i v' hv;simp only[aUQ,bbI] at h;obtain⟨rfl,rfl,h1,h2,h3⟩:=h;have hq:q s0.nx s0.nr=true:=by cases hh:q s0.nx s0.nr with | true=>rfl | false=>rw[hh] at h3;cases h3
 have hb:qb s0.nx s0.nr=true:=by rw[hq] at h3;exact h3
 exact R _ _ _ _ rfl (QB l) (k _ _ (nE (.cons (jX tg un h1 hq) .nil) hb h2) _ _ hv rfl);cases h;cases h
def aUH[gp:GP G](fn:Func)(m:Nat)(R:Lw P G l (PV P fn m (QM G s0 (.ret v) s2)) hr X)[tg:Tg v x][un:Un v q][us:UnS s2 qb](h:zK P fn m s0.nx s0.nr x s2.h (cond (q s0.nx s0.nr) (qb s0.nx s0.nr) false) hr=some (.normal,Wt l,x,s2,true)):X:=by
 unfold zK at h;split at h;split at h;rename_i v' hv;simp only[aUQ,bbI] at h;obtain⟨rfl,rfl,h1,h2,h3⟩:=h;have hq:q s0.nx s0.nr=true:=by cases hh:q s0.nx s0.nr with | true=>rfl | false=>rw[hh] at h3;cases h3
 have hb:qb s0.nx s0.nr=true:=by rw[hq] at h3;exact h3
 exact R _ _ _ _ rfl (QB l) ⟨_,hv,_,rfl,nE (.cons (jX tg un h1 hq) .nil) hb h2⟩;cases h;cases h
def aRT[gp:GP G](R:Lw P G l Q hr X)(k:XY G m s0 Q v s2)[tg:Tg v x][un:Un v q][us:UnS s2 qb](h:ayA m s0.nx s0.nr x s2.h (cond (q s0.nx s0.nr) (qb s0.nx s0.nr) false) hr=some (Wt l,x,s2,true)):X:=by
 unfold ayA at h;split at h;simp only[aUQ,bbI] at h;obtain⟨rfl,h1,h2,h3⟩:=h;have hq:q s0.nx s0.nr=true:=by cases hh:q s0.nx s0.nr with | true=>rfl | false=>rw[hh] at h3;cases h3
 have hb:qb s0.nx s0.nr=true:=by rw[hq] at h3;exact h3
 exact R _ _ _ _ rfl (QB l) (k _ _ (nE (.cons (jX tg un h1 hq) .nil) hb h2) _ _ rfl);cases h
def aDS(R:Lw P G l Q hr X)(k:iA P fn m Q v)[tg:Tg v x][un:Un v q](h:adE P fn x (q 0 0) hr=some (Wt l,x,true)):X:=by unfold adE at h;split at h;split at h;rename_i v' hv;simp only[aUQ,bbI] at h;obtain⟨rfl,h1,h3⟩:=h;exact R _ _ _ _ rfl (QB l) (k _ _ (jX tg un h1 h3) _ _ hv rfl);cases h;cases h
def aYN[gp:GP G]{L:Code}{y:AX}{n:Nat}{LL LX:List (Nat×AV)}{bs:List Nat}(R:Lw P G l (KN P G L s0 Q) hr X)(hy:y=.normal\/∃id,y=.exit id)(a:∀Cj s',Frg G s0 Cj s' (fr n LL bs (jR bs hr)) s2->KN P G L s0 Q y Cj s')[te:TgE LL LX][ue:UnE LL q][us:UnS s2 qb](h:aLG s0.nx s0.nr (fr n LX bs (jR bs hr)) s2.h (cond (q s0.nx s0.nr) (qb s0.nx s0.nr) false) hr=some (y,Wt l,fr n LX bs (jR bs hr),s2,true)):X:=by
 unfold aLG at h;split at h;simp only[aUQ,bbI] at h;obtain⟨rfl,rfl,h1,h2,h3⟩:=h;have hq:q s0.nx s0.nr=true:=by cases hh:q s0.nx s0.nr with | true=>rfl | false=>rw[hh] at h3;cases h3
 have hb:qb s0.nx s0.nr=true:=by rw[hq] at h3;exact h3
 have e:=te.eq;subst e;exact R _ _ _ _ rfl (QB l) (a _ _ (nE (aiP h1 (WS _ _ _ _ _ _ (ue.h _ _ hq))) hb h2));cases h
end
section
variable {hr:HR}{fn:Func}{m:Nat}{s0 s2:AS}{v x:AV}{q qb:Nat->Nat->Bool}{y:α}
section
variable {Q:AX->List AV->AS->Prop}
def tR[gp:GP G](R:Lw P G l Q hr (Z y):=by exact rU)(k:Wv P G fn m s0 Q v s2:=by exact .body)[tg:Tg v x][un:Un v q][us:UnS s2 qb](h:zK P fn m s0.nx s0.nr x s2.h (cond (q s0.nx s0.nr) (qb s0.nx s0.nr) false) hr=some (.ret,Wt l,x,s2,true):=by kernel_rfl):T l (some y) Z:=λr e=>by
 cases e;exact aSA R k h
def tD[gp:GP G](R:Lw P G l (PV P fn m (QM G s0 (.ret v) s2)) hr (Z y):=by exact rU)[tg:Tg v x][un:Un v q][us:UnS s2 qb](h:zK P fn m s0.nx s0.nr x s2.h (cond (q s0.nx s0.nr) (qb s0.nx s0.nr) false) hr=some (.normal,Wt l,x,s2,true):=by kernel_rfl):T l (some y) Z:=λr e=>by
 cases e;exact aUH fn m R h
def tQ[gp:GP G](R:Lw P G l Q hr (Z y):=by exact rU)(k:XY G m s0 Q v s2:=by exact .body)[tg:Tg v x][un:Un v q][us:UnS s2 qb](h:ayA m s0.nx s0.nr x s2.h (cond (q s0.nx s0.nr) (qb s0.nx s0.nr) false) hr=some (Wt l,x,s2,true):=by kernel_rfl):T l (some y) Z:=λr e=>by
 cases e;exact aRT R k h
def tA(R:Lw P G l Q hr (Z y):=by exact rU)(k:iA P fn m Q v:=by exact .body)[tg:Tg v x][un:Un v q](h:adE P fn x (q 0 0) hr=some (Wt l,x,true):=by kernel_rfl):T l (some y) Z:=λr e=>by
 cases e;exact aDS R k h
end
def Rv(Qt:ρ->AX->List AV->AS->Prop)(Q':AX->List AV->AS->Prop)(v:ρ):Prop:=(∀fr s,Qt v .ret fr s->Q' .ret fr s)/\∀p fr s,Qt v (.pan p) fr s->Q' (.pan p) fr s
def Rv.loop{Qt:ρ->AX->List AV->AS->Prop}{Q':AX->List AV->AS->Prop}{v:ρ}{id:Nat}{ks:List KI}(h:Rv Qt Q' v):Rv Qt (EE id (C6 P G ks Q')) v:=⟨λfr s hq=>aiE (h.1 fr s hq),λp fr s hq=>aiD (h.2 p fr s hq)⟩
def Rv.rnd{Qt:ρ->AX->List AV->AS->Prop}{Q':AX->List AV->AS->Prop}{v:ρ}{L:Code}(h:Rv Qt Q' v):Rv Qt (KN P G L s0 Q') v:=⟨h.1,h.2⟩
section
variable {Q Q':AX->List AV->AS->Prop}{Qt:ρ->AX->List AV->AS->Prop}{z:ρ}{A:γ->Prop}{B:δ->Prop}{X:Prop}{L:Code}{s1:AS}
def rvM(k:Wv P G fn m s0 (Qt z) v s2)(c:Rv Qt Q' z):Wv P G fn m s0 (KN P G L s1 Q') v s2:=λa s' hf fr s hv hc=>c.1 fr s (k a s' hf fr s hv hc)
def rvP(k:XY G m s0 (Qt z) v s2)(c:Rv Qt Q' z):XY G m s0 (KN P G L s1 Q') v s2:=λa s' hf fr s hc=>c.2 _ fr s (k a s' hf fr s hc)
def rvA(k:iA P fn m (Qt z) v)(c:Rv Qt Q' z):iA P fn m (KN P G L s1 Q') v:=λa s2 hf fr s hv hc=>c.1 fr s (k a s2 hf fr s hv hc)
def tRl[gp:GP G](R:Lw P G l (KN P G L s1 Q') hr X:=by exact rU)(k:Wv P G fn m s0 (Qt z) v s2:=by exact .body)[tg:Tg v x][un:Un v q][us:UnS s2 qb](h:zK P fn m s0.nx s0.nr x s2.h (cond (q s0.nx s0.nr) (qb s0.nx s0.nr) false) hr=some (.ret,Wt l,x,s2,true):=by kernel_rfl):T l (some (Lp.rt z)) λr=>RQ A B (Rv Qt Q') r->X:=λr e=>by
 cases e;exact λc=>aSA R (rvM k c) h
def Z5[gp:GP G](R:Lw P G l (KN P G L s1 Q') hr X:=by exact rU)(k:XY G m s0 (Qt z) v s2:=by exact .body)[tg:Tg v x][un:Un v q][us:UnS s2 qb](h:ayA m s0.nx s0.nr x s2.h (cond (q s0.nx s0.nr) (qb s0.nx s0.nr) false) hr=some (Wt l,x,s2,true):=by kernel_rfl):T l (some (Lp.rt z)) λr=>RQ A B (Rv Qt Q') r->X:=λr e=>by
 cases e;exact λc=>aRT R (rvP k c) h
def N5(R:Lw P G l (KN P G L s1 Q') hr X:=by exact rU)(k:iA P fn m (Qt z) v:=by exact .body)[tg:Tg v x][un:Un v q](h:adE P fn x (q 0 0) hr=some (Wt l,x,true):=by kernel_rfl):T l (some (Lp.rt z)) λr=>RQ A B (Rv Qt Q') r->X:=λr e=>by
 cases e;exact λc=>aDS R (rvA k c) h
variable {C:ρ->Prop}{n:Nat}{LL LX:List (Nat×AV)}{bs:List Nat}
def tX[gp:GP G]{y:γ}(R:Lw P G l (KN P G L s0 Q) hr X:=by exact rU)(a:A y->∀j,WL P G (XS P G) H0 L (fr n LL bs j) s2 Q:=by exact λh=>h)[te:TgE LL LX][ue:UnE LL q][us:UnS s2 qb](h:aLG s0.nx s0.nr (fr n LX bs (jR bs hr)) s2.h (cond (q s0.nx s0.nr) (qb s0.nx s0.nr) false) hr=some (.normal,Wt l,fr n LX bs (jR bs hr),s2,true):=by kernel_rfl):T l (some (Lp.nx y)) λr=>RQ A B C r->X:=λr e=>by
 cases e;exact λk=>aYN R (.inl rfl) (λ_ _ hf=>⟨_,_,hf,a k _⟩) h
def NV{y:γ}(R:Lw P G l (KN P G L s0 Q) hr X:=by exact rU)(a:A y->∀j,WL P G (XS P G) H0 L (fr n LL bs j) s2 Q:=by exact λh=>h)(h:jA (fr n LL bs (jR bs hr)) hr=some (.normal,Wt l,fr n LL bs (jR bs hr),s2):=by kernel_rfl):T l (some (Lp.nx y)) λr=>RQ A B C r->X:=λr e=>by
 cases e;exact λk=>aPA R h (a k _)
def S2{y:δ}{id:Nat}(R:Lw P G l (KN P G L s0 Q) hr X:=by exact rU)(a:B y->∀j,Q (.exit id) (fr n LL bs j) s2:=by exact λh=>h)(h:jA (fr n LL bs (jR bs hr)) hr=some (.exit id,Wt l,fr n LL bs (jR bs hr),s2):=by kernel_rfl):T l (some (Lp.ex y)) λr=>RQ A B C r->X:=λr e=>by
 cases e;exact λk=>aCR R h (a k _)
end
end
def axG{i n:Nat}(h:n<=i):CV ((i:Nat):Int) ((n:Nat):Int)=false:=by rw[TJ];simp;omega
def Ma{Q:ρ->AX->List AV->AS->Prop}:∀r v,(λv=>some v) v=some r->Rv Q (Q r) v:=λr v h=>by
 cases h;exact⟨λ_ _ h=>h,λ_ _ _ h=>h⟩
section
variable {ε:Type}{Qt:ρ->AX->List AV->AS->Prop}{id:Nat}{L:Code}{ks:List KI}{hr:HR}{z:List NZ}{n:Nat}{bs xb:List Nat}
abbrev jM(P:Program)(G:AP)(Qt:ρ->AX->List AV->AS->Prop)(L:Code)(id n:Nat)(bs xb:List Nat)(F':γ->List (Nat×AV))(S:γ->AS)(XL:δ->List (Nat×AV))(SX:δ->AS)(Q':AX->List AV->AS->Prop)(fr0:List AV)(s:AS):Lp γ δ ρ->Prop:=λr=>RQ (λx'=>∀j',WL P G (XS P G) H0 L (fr n (F' x') bs j') (S x') Q') (exR Q' id (λd j=>fr n (XL d) xb j) SX) (Rv Qt Q') r->W P G (XS P G) H0 L fr0 s (KN P G L s Q')
section
variable {body:Nat->ε->γ->Option (Lp γ δ ρ)}{done:γ->δ}{lst:List ε}{i0:Nat}{x:γ}
abbrev aiW(P:Program)(G:AP)(L:Code)(fr0:List AV)(s:AS){n i:Nat}(h:n<=i):HR:=UL P G 300 L [] (pHs [pb (P:=P) (G:=G) (axG h)]) fr0 s
def tFo{k:δ->Option α}{Q:α->AX->List AV->AS->Prop}(kr:ρ->Option α)(n:Nat)(bs xb:List Nat)(FL:Nat->γ->List (Nat×AV))(S:γ->AS)(XL:δ->List (Nat×AV))(SX:δ->AS)(z:List NZ)(id:Nat)(L:Code)(ks:List KI)
   (R:∀r,Lw P G l (Q r) hr (Z r)) (hv:∀r v,kr v=some r->Rv Qt (Q r) v)
   (hB:∀r0 i y x j,lst[i]?=some y->i < lst.length->i < 9223372036854775807->T ([]:List (PC P G)) (body i y x) (jM P G Qt L id n bs xb (FL (i+1)) S XL SX (EE id (C6 P G ks (Q r0))) (fr n (FL i x) bs j) (S x)))
   (hb:∀d j,T ([]:List (PC P G)) (k d) λr=>C6 P G ks (Q r) .normal (fr n (XL d) xb j) (SX d))
   (hA:qE z (fr n (FL i0 x) bs (jR bs hr)) hr=some (Wt l,id,L,ks,fr n (FL i0 x) bs (jR bs hr),S x):=by kernel_rfl)
   (hZ:∀i x j (h:lst.length<=i),jA (fr n (XL (done x)) xb (jR xb (aiW P G L (fr n (FL i x) bs j) (S x) h))) (aiW P G L (fr n (FL i x) bs j) (S x) h)=some (.exit id,Wt [pb (P:=P) (G:=G) (axG h)],fr n (XL (done x)) xb (jR xb (aiW P G L (fr n (FL i x) bs j) (S x) h)),SX (done x)):=by (intro i x j h;kernel_rfl)):
   T l ((B6 lst.length (Bu body done (lst.drop i0) i0 x)).bind (GF k kr)) Z:=λr=>
 aTU (Q:=Q r) (Rv Qt) (λi x j=>fr n (FL i x) bs j) S (λd j=>fr n (XL d) xb j) SX _ (aHJ z id L ks (R r) hA) (λi x j h hq=>aCR (azD 300 [pb (axG h)]) (hZ i x j h) (hq _)) (λi y x j r' h1 h2 h3 hk e=>hB r i y x j h1 h2 h3 r' e hk) (λd j e=>hb d j r e) (λv e=>(hv r v e).loop)
end
section
variable {body:γ->Option (Lp γ δ ρ)}{x:γ}
def tIo{k:δ->Option α}{Q:α->AX->List AV->AS->Prop}(kr:ρ->Option α)(n:Nat)(bs xb:List Nat)(FL:γ->List (Nat×AV))(S:γ->AS)(XL:δ->List (Nat×AV))(SX:δ->AS)(z:List NZ)(id:Nat)(L:Code)(ks:List KI)
   (R:∀r,Lw P G l (Q r) hr (Z r)) (hv:∀r v,kr v=some r->Rv Qt (Q r) v)
   (hB:∀r0 x j,T ([]:List (PC P G)) (body x) (jM P G Qt L id n bs xb FL S XL SX (EE id (C6 P G ks (Q r0))) (fr n (FL x) bs j) (S x)))
   (hb:∀d j,T ([]:List (PC P G)) (k d) λr=>C6 P G ks (Q r) .normal (fr n (XL d) xb j) (SX d))
   (hA:qE z (fr n (FL x) bs (jR bs hr)) hr=some (Wt l,id,L,ks,fr n (FL x) bs (jR bs hr),S x):=by kernel_rfl):
   T l ((IT body x).bind (GF k kr)) Z:=λr=>
 aOE (Q:=Q r) (Rv Qt) (λx j=>fr n (FL x) bs j) S (λd j=>fr n (XL d) xb j) SX _ (aHJ z id L ks (R r) hA) (λx j r' hk e=>hB r x j r' e hk) (λd j e=>hb d j r e) (λv e=>(hv r v e).loop)
def tIi{k:δ->Option (Lp κ β ρ)}{A:κ->Prop}{B:β->Prop}{Q0:AX->List AV->AS->Prop}{L0:Code}{s0:AS}{X:Prop}(n:Nat)(bs xb:List Nat)(FL:γ->List (Nat×AV))(S:γ->AS)(XL:δ->List (Nat×AV))(SX:δ->AS)(z:List NZ)(id:Nat)(L:Code)(ks:List KI)
   (R:Lw P G l (KN P G L0 s0 Q0) hr X)
   (hB:∀x j,T ([]:List (PC P G)) (body x) (jM P G Qt L id n bs xb FL S XL SX (EE id (C6 P G ks (KN P G L0 s0 Q0))) (fr n (FL x) bs j) (S x)))
   (hb:∀d j,T ([]:List (PC P G)) (k d) λr=>RQ A B (Rv Qt Q0) r->C6 P G ks (KN P G L0 s0 Q0) .normal (fr n (XL d) xb j) (SX d))
   (hA:qE z (fr n (FL x) bs (jR bs hr)) hr=some (Wt l,id,L,ks,fr n (FL x) bs (jR bs hr),S x):=by kernel_rfl):
   T l ((IT body x).bind (GF k λv=>some (Lp.rt v))) λr=>RQ A B (Rv Qt Q0) r->X:=λr e c=>
 aOE (Q:=KN P G L0 s0 Q0) (Rv Qt) (λx j=>fr n (FL x) bs j) S (λd j=>fr n (XL d) xb j) SX _ (aHJ z id L ks R hA) (λx j r' hk e=>hB x j r' e hk) (λd j e=>hb d j r e c) (λv e=>by cases e;exact(Rv.rnd c).loop) e
end
section
variable {body:Nat->ε->γ->Option (Lp γ γ ρ)}{done:γ->γ}{lst:List ε}{i0:Nat}{x:γ}
def L6{k:γ->Option α}{Q:α->AX->List AV->AS->Prop}(kr:ρ->Option α)(n:Nat)(bs xb:List Nat)(FL:Nat->γ->List (Nat×AV))(S:γ->AS)(ds:List Nat)(z:List NZ)(id:Nat)(L:Code)(ks:List KI)
   (R:∀r,Lw P G l (Q r) hr (Z r)) (hv:∀r v,kr v=some r->Rv Qt (Q r) v)
   (hB:∀r0 i y x j,lst[i]?=some y->i < lst.length->i < 9223372036854775807->T ([]:List (PC P G)) (body i y x) (jM P G Qt L id n bs xb (FL (i+1)) S (λd=>df ds (FL 0 d)) S (EE id (C6 P G ks (Q r0))) (fr n (FL i x) bs j) (S x)))
   (hb:∀d j,T ([]:List (PC P G)) (k d) λr=>C6 P G ks (Q r) .normal (fr n ((λd=>df ds (FL 0 d)) d) xb j) (S d))
   (hA:qE z (fr n (FL i0 x) bs (jR bs hr)) hr=some (Wt l,id,L,ks,fr n (FL i0 x) bs (jR bs hr),S x):=by kernel_rfl)
   (hZ:∀i x j (h:lst.length<=i),jA (fr n ((λd=>df ds (FL 0 d)) (done x)) xb (jR xb (aiW P G L (fr n (FL i x) bs j) (S x) h))) (aiW P G L (fr n (FL i x) bs j) (S x) h)=some (.exit id,Wt [pb (P:=P) (G:=G) (axG h)],fr n ((λd=>df ds (FL 0 d)) (done x)) xb (jR xb (aiW P G L (fr n (FL i x) bs j) (S x) h)),S (done x)):=by (intro i x j h;kernel_rfl)):
   T l ((B6 lst.length (Bu body done (lst.drop i0) i0 x)).bind (GF k kr)) Z:=tFo kr n bs xb FL S (λd=>df ds (FL 0 d)) S z id L ks R hv hB hb hA hZ
end
section
variable {body:γ->Option (Lp γ γ ρ)}{x:γ}
def U4{k:γ->Option α}{Q:α->AX->List AV->AS->Prop}(kr:ρ->Option α)(n:Nat)(bs xb:List Nat)(FL:γ->List (Nat×AV))(S:γ->AS)(ds:List Nat)(z:List NZ)(id:Nat)(L:Code)(ks:List KI)
   (R:∀r,Lw P G l (Q r) hr (Z r)) (hv:∀r v,kr v=some r->Rv Qt (Q r) v)
   (hB:∀r0 x j,T ([]:List (PC P G)) (body x) (jM P G Qt L id n bs xb FL S (λd=>df ds (FL d)) S (EE id (C6 P G ks (Q r0))) (fr n (FL x) bs j) (S x)))
   (hb:∀d j,T ([]:List (PC P G)) (k d) λr=>C6 P G ks (Q r) .normal (fr n ((λd=>df ds (FL d)) d) xb j) (S d))
   (hA:qE z (fr n (FL x) bs (jR bs hr)) hr=some (Wt l,id,L,ks,fr n (FL x) bs (jR bs hr),S x):=by kernel_rfl):
   T l ((IT body x).bind (GF k kr)) Z:=tIo kr n bs xb FL S (λd=>df ds (FL d)) S z id L ks R hv hB hb hA
def aSO{k:γ->Option (Lp κ β ρ)}{A:κ->Prop}{B:β->Prop}{Q0:AX->List AV->AS->Prop}{L0:Code}{s0:AS}{X:Prop}(n:Nat)(bs xb:List Nat)(FL:γ->List (Nat×AV))(S:γ->AS)(ds:List Nat)(z:List NZ)(id:Nat)(L:Code)(ks:List KI)
   (R:Lw P G l (KN P G L0 s0 Q0) hr X)
   (hB:∀x j,T ([]:List (PC P G)) (body x) (jM P G Qt L id n bs xb FL S (λd=>df ds (FL d)) S (EE id (C6 P G ks (KN P G L0 s0 Q0))) (fr n (FL x) bs j) (S x)))
   (hb:∀d j,T ([]:List (PC P G)) (k d) λr=>RQ A B (Rv Qt Q0) r->C6 P G ks (KN P G L0 s0 Q0) .normal (fr n ((λd=>df ds (FL d)) d) xb j) (S d))
   (hA:qE z (fr n (FL x) bs (jR bs hr)) hr=some (Wt l,id,L,ks,fr n (FL x) bs (jR bs hr),S x):=by kernel_rfl):
   T l ((IT body x).bind (GF k λv=>some (Lp.rt v))) λr=>RQ A B (Rv Qt Q0) r->X:=tIi n bs xb FL S (λd=>df ds (FL d)) S z id L ks R hB hb hA
end
end
end
end AI
namespace AI
open Go
section
variable {α γ δ ρ:Type}
def allI(p:Nat->α->Bool):List α->Nat->Bool
 |[],_=>true
 |y::l,i=>p i y&&allI p l (i+1)
def rG{body:Nat->α->Unit->Option (Lp Unit δ ρ)}{done:Unit->δ}{p:Nat->α->Bool}{v:ρ}:∀{l:List α}{i:Nat},(∀k y,l[k]?=some y->body (i+k) y ()=some (if p (i+k) y then .nx () else .rt v))->Bu body done l i ()=some (if allI p l i then .inl (done ()) else .inr v)
 |[],i,_=>rfl
 |y::l,i,h=>by
  have h0:=h 0 y rfl;rw[bcS] at h0;rw[Bu,h0,allI];cases p i y with
  |false=>simp[OU]
  |true=>
   have:=rG (body:=body) (done:=done) (p:=p) (v:=v) (l:=l) (i:=i+1) λk z hz=>by
    have:=h (k+1) z (by simpa using hz)
    rwa[show i+(k+1)=i+1+k by omega] at this
   simpa[OU] using this
def AZ{β:Type}{n:Nat}{x:Option β}(h:n<=9223372036854775807):B6 n x=x:=by unfold B6;rw[if_pos h]
def Ge{β:Type}{n:Nat}{x:Option β}(h:n<=100000000):Of n x=x:=by unfold Of;rw[if_pos h]
end
end AI
namespace AI
open Go
def mb(p:Prop):Bool:=@decide p (biK _)
theorem Ch{p:Prop}:mb p=true↔p:=by unfold mb;exact @decide_eq_true_iff p (_)
theorem LM{p q:Prop}(h:p↔q):mb p=mb q:=by rw[propext h]
def FX{β:Type}(p:Prop)(x y:β):β:=@ite β p (biK _) x y
theorem Aq{β:Type}{p:Prop}{x y:β}(h:p):FX p x y=x:=@if_pos p (_) h _ _ _
theorem Ar{β:Type}{p:Prop}{x y:β}(h:¬p):FX p x y=y:=@if_neg p (_) h _ _ _
section
variable {β:Type}{x y:β}
theorem B9(p:Prop):cond (mb p) x y=FX p x y:=by
 by_cases h:p
 ·rw[Aq h,Ch.2 h];rfl
 ·rw[Ar h]
  have:mb p=false:=by
   cases hm:mb p
   ·rfl
   ·exact absurd (Ch.1 hm) h
  rw[this];rfl
end
section
variable {p q r:Prop}
theorem LK:FX p (some true) (some false)=some (mb p):=by
 by_cases h:p
 ·rw[Aq h,Ch.2 h]
 ·rw[Ar h];congr 1;cases hm:mb p;rfl;exact absurd (Ch.1 hm) h
theorem mbT:true=mb True:=(Ch.2 trivial).symm
theorem aXZ:FX p (some false) (some true)=some (mb ¬p):=by
 by_cases h:p
 ·rw[Aq h];congr 1;rw[bbR,Ch];simp[h]
 ·rw[Ar h];congr 1;rw[bbR,Ch];simp[h]
theorem Il:FX p (some (mb q)) (some false)=some (mb (p/\q)):=by
 by_cases h:p
 ·rw[Aq h];congr 1;rw[bbR,Ch,Ch];simp[h]
 ·rw[Ar h];congr 1;rw[bbR,Ch];simp[h]
theorem aRH:FX p (some false) (some (mb q))=some (mb (¬p/\q)):=by
 by_cases h:p
 ·rw[Aq h];congr 1;rw[bbR,Ch];simp[h]
 ·rw[Ar h];congr 1;rw[bbR,Ch,Ch];simp[h]
theorem axL:FX p (some true) (some (mb q))=some (mb (p\/q)):=by
 by_cases h:p
 ·rw[Aq h];congr 1;rw[bbR,Ch];simp[h]
 ·rw[Ar h];congr 1;rw[bbR,Ch,Ch];simp[h]
theorem axK:FX p (some (mb q)) (some (mb r))=some (mb ((p->q)/\(¬p->r))):=by
 by_cases h:p
 ·rw[Aq h];congr 1;rw[bbR,Ch,Ch];simp[h]
 ·rw[Ar h];congr 1;rw[bbR,Ch,Ch];simp[h]
theorem R4{β:Type}{x:β}:FX p x x=x:=by
 by_cases h:p
 ·exact Aq h
 ·exact Ar h
def ck{δ ρ:Type}(v:ρ)(p:Prop):Lp Unit δ ρ:=FX p (.nx ()) (.rt v)
variable {δ ρ:Type}{v:ρ}
theorem sD:FX p (some (.nx ())) (some (.rt v))=some (ck (δ:=δ) v p):=by
 unfold ck;by_cases h:p
 ·rw[Aq h,Aq h]
 ·rw[Ar h,Ar h]
theorem agN:FX p (some (.rt v)) (some (.nx ()))=some (ck (δ:=δ) v ¬p):=by
 unfold ck;by_cases h:p
 ·rw[Aq h,Ar (by simp[h])]
 ·rw[Ar h,Aq h]
theorem aoB:FX p (some (ck (δ:=δ) v q)) (some (.rt v))=some (ck v (p/\q)):=by
 unfold ck;by_cases h:p
 ·rw[Aq h];simp[h]
 ·rw[Ar h,Ar (by simp[h])]
theorem agO:FX p (some (.rt v)) (some (ck (δ:=δ) v q))=some (ck v (¬p/\q)):=by
 unfold ck;by_cases h:p
 ·rw[Aq h,Ar (by simp[h])]
 ·rw[Ar h];simp[h]
theorem aJR:FX p (some (ck (δ:=δ) v q)) (some (.nx ()))=some (ck v (p->q)):=by
 unfold ck;by_cases h:p
 ·rw[Aq h];simp[h]
 ·rw[Ar h,Aq (by simp[h])]
theorem aQX:FX p (some (.nx ())) (some (ck (δ:=δ) v q))=some (ck v (p\/q)):=by
 unfold ck;by_cases h:p
 ·rw[Aq h,Aq (by simp[h])]
 ·rw[Ar h];simp[h]
theorem aXX:FX p (some (ck (δ:=δ) v q)) (some (ck v r))=some (ck v ((p->q)/\(¬p->r))):=by
 unfold ck;by_cases h:p
 ·rw[Aq h];simp[h]
 ·rw[Ar h];simp[h]
theorem OY{α β:Type}{l:List α}{body:Nat->α->Unit->Option (Lp Unit Unit ρ)}{P:Nat->α->Prop}{k:Unit->Option β}{kr:ρ->Option β}(hl:l.length<=9223372036854775807)(hb:∀i y,l[i]?=some y->body i y ()=some (ck v (P i y))):(B6 l.length (Bu body (λ_=>()) (l.drop 0) 0 ())).bind (GF k kr)=FX (∀i y,l[i]?=some y->P i y) (k ()) (kr v):=by
 rw[AZ hl,bbQ]
 have h1:∀k y,l[k]?=some y->body (0+k) y ()=some (if mb (P (0+k) y) then .nx () else .rt v):=λk y hy=>by
  rw[aUU,hb k y hy]
  unfold ck
  by_cases h:P k y
  ·rw[Aq h,if_pos (Ch.2 h)]
  ·rw[Ar h,if_neg (λe=>h (Ch.1 e))]
 rw[rG (p:=λi y=>mb (P i y)) (v:=v) h1]
 have h2:∀(l:List α)(i:Nat),allI (λi y=>mb (P i y)) l i=true↔∀k y,l[k]?=some y->P (i+k) y:=by
  intro l
  induction l with
  |nil=>intro i;simp[allI]
  |cons a l ih=>
   intro i
   rw[allI,aUR,Ch,ih]
   constructor
   ·rintro⟨h1,h2⟩ k y hk
    cases k with|zero=>simp at hk;subst hk;exact h1|succ k=>rw[show i+(k+1)=i+1+k by omega];exact h2 k y (by simpa using hk)
   ·intro h
    refine⟨h 0 a rfl,λk y hk=>?_⟩
    rw[show i+1+k=i+(k+1) by omega]
    exact h (k+1) y (by simpa using hk)
 have h3:=h2 l 0
 simp only[aUU] at h3
 by_cases h:∀i y,l[i]?=some y->P i y
 ·rw[Aq h,h3.2 h];rfl
 ·rw[Ar h]
  have:allI (λi y=>mb (P i y)) l 0=false:=by
   cases ha:allI (λi y=>mb (P i y)) l 0
   ·rfl
   ·exact absurd (h3.1 ha) h
  rw[this];rfl
end
end AI
namespace AI
open Go
def Sp{β:Type}(o:Option β)(Q:β->Prop):Prop:=∃r,o=some r/\Q r
section
variable {α β γ δ ρ κ:Type}{Q:β->Prop}
def Ww{r:β}:Sp (some r) Q=Q r:=propext ⟨λ⟨_,h,k⟩=>by cases h;exact k,λh=>⟨_,rfl,h⟩⟩
def abC{o:Option κ}{k:κ->Option β}:Sp (o.bind k) Q=Sp o (λy=>Sp (k y) Q):=propext ⟨λ⟨r,h,hq⟩=>by
 obtain⟨y,h1,h2⟩:=iF h;exact⟨y,h1,r,h2,hq⟩,λ⟨y,h1,r,h2,hq⟩=>⟨r,by rw[h1];exact h2,hq⟩⟩
def aCB{o:Option β}{r:β}:(o=some r)=Sp o (λx=>x=r):=propext ⟨λh=>⟨r,h,rfl⟩,λ⟨_,h,k⟩=>by rw[h,k]⟩
def wK{p:Prop}{x y:Option β}:Sp (FX p x y) Q=((p->Sp x Q)/\(¬p->Sp y Q)):=propext (by
 by_cases h:p;rw[Aq h];exact⟨λa=>⟨λ_=>a,λn=>absurd h n⟩,λa=>a.1 h⟩;rw[Ar h];exact⟨λa=>⟨λn=>absurd n h,λ_=>a⟩,λa=>a.2 h⟩)
def FY(a b:Int):Lg a b=mb (a<=b):=by rw[dZ,bbR,Ch,decide_eq_true_iff]
def HV(a b:Int):CV a b=mb (a < b):=by rw[TJ,bbR,Ch,decide_eq_true_iff]
def BT(a b:Int):Bg a b=mb (a=b):=by rw[Tw,bbR,Ch,beq_iff_eq]
def FW(a b:ByteArray):BE a.data.toList b.data.toList=mb (a=b):=by rw[cJ,bbR,Ch,beq_iff_eq];exact⟨λh=>ByteArray.ext (bbW h),λh=>by rw[h]⟩
def eH{p:Prop}:(mb p=true)=p:=propext Ch
def Zj{p:Prop}:(mb p=false)=¬p:=by rw[<- Bool.not_eq_true,eH]
def aaJ{p:Prop}:(true=mb p)=p:=by rw[@eq_comm _ true,eH]
def Y2{p:Prop}:(false=mb p)=¬p:=by rw[@eq_comm _ false,Zj]
def Sv{p q:Prop}(h:p↔q):some (mb p)=some (mb q):=by rw[LM h]
def NT{p:Prop}(h:¬p):some false=some (mb p):=congrArg some (by rw[Y2];exact h)
def auC{l:List α}{body:Nat->α->γ->Option (Lp γ δ ρ)}{done:γ->δ}{k:δ->Option β}{kr:ρ->Option β}{x0:γ}(I:Nat->γ->Prop)(hl:l.length<=9223372036854775807)(h0:I 0 x0)
   (hb:∀i y x,l[i]?=some y->I i x->Sp (body i y x) (RQ (I (i+1)) (λd=>Sp (k d) Q) (λv=>Sp (kr v) Q)))
   (hz:∀x,I l.length x->Sp (k (done x)) Q):Sp ((B6 l.length (Bu body done (l.drop 0) 0 x0)).bind (GF k kr)) Q:=by
 rw[AZ hl,bbQ]
 have key:∀(m:List α)(i:Nat)(x:γ),l.drop i=m->i<=l.length->I i x->Sp ((Bu body done m i x).bind (GF k kr)) Q:=by
  intro m
  induction m with
  |nil=>
   intro i x hd hle hi;have h1:=bhA.1 hd;have:i=l.length:=by omega
   subst this;exact hz x hi
  |cons y m ih=>
   intro i x hd hle hi
   have hlt:i < l.length:=by
    rcases bdS i l.length with h1 | h1
    exact h1;rw[bbX h1] at hd;cases hd
   have hy:l[i]?=some y:=by rw[<- bfJ,hd];rfl
   have hd2:l.drop (i+1)=m:=by rw[<- bgP,hd];rfl
   obtain⟨r,hr,hq⟩:=hb i y x hy hi;rw[Bu,hr];cases r with|nx x'=>exact ih (i+1) x' hd2 hlt hq|ex d=>exact hq|rt v=>exact hq
 exact key l 0 x0 rfl (bcJ _) h0
def aNY{Qn:γ->Prop}{Qx:δ->Prop}{Qr:ρ->Prop}{x:γ}:RQ Qn Qx Qr (.nx x)=Qn x:=rfl
def aNX{Qn:γ->Prop}{Qx:δ->Prop}{Qr:ρ->Prop}{x:δ}:RQ Qn Qx Qr (.ex x)=Qx x:=rfl
end
def L8{n:Int}(h:-9223372036854775808<=n/\n<=9223372036854775807):N6 .i64 n=n:=by rw[KR];exact IntWalk.i64_in n (by omega)
def BS{a b:Int}(h:-9223372036854775808<=a+b/\a+b<=9223372036854775807):Ba a b=a+b:=by unfold Ba;rw[mH,L8 h]
def Ii{a b:Int}(h:-9223372036854775808<=a - b/\a - b<=9223372036854775807):A2 a b=a - b:=by unfold A2;rw[oW,L8 h]
def FU{a b:Int}(h:-9223372036854775808<=a*b/\a*b<=9223372036854775807):CE a b=a*b:=by unfold CE;rw[L8 h]
end AI
namespace AI
open Go Go.RowKit
def iR(w w1:World)(g:Nat):Prop:=w.heap.size<=g/\g < w1.heap.size
def Cx.jF(cx:Cx)(w w1:World):Cx:=⟨cx.base,cx.CG,cx.rows,λg i=>cx.bad g i\/iR w w1 g⟩
def Cx.YL(c:Cx)(cx:Cx):Cx:=⟨c.base,c.CG,c.rows,cx.bad⟩
section
variable {G:AP}{cx:Cx}{w w1:World}{s:AS}
def XO(k:S4 w w1 (λ_=>False)):Mon cx w (cx.jF w w1) w1:=by
 refine⟨λ_ _ e=>e,aHT _,λr y _ h=>⟨y,h,K3.refl y⟩,λg i v hv=>⟨aUS hv.1 k.size,λhs=>?_,by rw[k.cell hv.1 id];exact hv.2.2⟩⟩;rcases hs with hs | hs | hs | hs
 exact hv.2.1 (.inl hs);exact hv.2.1 (.inr (.inl hs));exact hv.2.1 (.inr (.inr hs));have:=hs.1;have:=hv.1;omega
def aeL(h:St G cx w s)(k:S4 w w1 (λ_=>False)):St G (cx.jF w w1) w1 s:=by
 have m:=XO (cx:=cx) k;refine⟨h.len,h.desc,h.nodup,h.low,λid g b h1 h2=>?_,h.IG,λr g n cap sz hr=>?_,h.H8,λg hg=>aUS (h.NM g hg) k.size,λg i hb=>?_,h.H7,λg cs hg=>(h.Mr g cs hg).Dx m,bbM h.RU k.size,(h.Od.chg k).sub (λ_ h=>h) (λr g n cap sz e=>⟨r,n,cap,sz,e⟩)⟩;obtain⟨o,ho,hb⟩:=h.box id g b h1 h2;exact⟨o,by rw[k.block g (aHQ.1 ho).1 not_false];exact ho,hb.Dx m⟩;have hl:=h.Pq hr;obtain⟨Me,h2,h3,h4,vs,T,⟨f,ho,hf⟩,h5⟩:=h.row r g n cap sz hr;refine⟨λi hb=>?_,h2,h3,h4,vs,T,⟨f,by rw[k.block g (aHQ.1 ho).1 not_false];exact ho,hf⟩,h5⟩;rcases hb with hb | hb
 exact Me i hb;have:=hb.1;omega;rcases hb with hb | hb
 exact aUS (h.Nz g i hb) k.size;exact hb.2
variable {c':Cx}{w' w2:World}{s':AS}
def Wb(hx:Ext (cx.jF w w1) w1 c' w')(k2:S4 w' w2 (iR w w1)):Mon c' w' (c'.YL cx) w2:=by
 refine⟨λ_ _ e=>e,aHT _,λr y _ h=>⟨y,h,K3.refl y⟩,λg i v hv=>⟨aUS hv.1 k2.size,λhs=>?_,?_⟩⟩;rcases hs with hs | hs | hs
 exact hv.2.1 (.inl hs);exact hv.2.1 (.inr (.inl hs));exact hv.2.1 (.inr (.inr (by rw[hx.bad];exact .inl hs)));rw[k2.cell hv.1 (λhk=>hv.2.1 (.inr (.inr (by rw[hx.bad];exact .inr hk))))];exact hv.2.2
def gE(h:St G cx w s)(k:S4 w w1 (λ_=>False))(hx:Ext (cx.jF w w1) w1 c' w')(k2:S4 w' w2 (iR w w1)):Ext cx w (c'.YL cx) w2:=by
 have m:=XO (cx:=cx) k;have m2:=Wb hx k2;refine⟨hx.CG,hx.IG,hx.rows,λg i v hv=>m2.jG g i v (hx.jG g i v (m.jG g i v hv)),?_,hx.base,rfl,λg hg=>?_,λr g n cap sz hr=>?_,λq hq hp hr=>?_⟩;have b1:Below cx.base w w1:=k.below h.RU (λ_ h=>h.elim);have b2:Below cx.base w1 w':=hx.below;have b3:Below cx.base w' w2:=k2.below (bbM (bbM h.RU k.size) b2.size) (λq hq=>bbM h.RU hq.1);exact(b1.trans b2).trans b3;rcases hx.eQ g hg with h1 | h1
 exact .inl h1;exact .inr (bbM k.size h1);rcases hx.fJ r g n cap sz hr with h1 | h1
 exact .inl h1;exact .inr (bbM k.size h1);have hq1:q < w1.heap.size:=aUS hq k.size;rw[k2.block q (aUS hq1 hx.below.size) (λhn=>by have:=hn.1;omega),hx.UN q hq1 hp hr,k.block q hq not_false]
def lN(h:St G cx w s)(hx:Ext (cx.jF w w1) w1 c' w')(hs':St G c' w' s')(k2:S4 w' w2 (iR w w1)):St G (c'.YL cx) w2 s':=by
 have m2:=Wb hx k2
 have SQ:∀g,some g∈c'.CG->¬iR w w1 g:=by
  intro g hg hn;rcases hx.eQ g hg with h1 | h1
  have:=h.NM g h1;have:=hn.1;omega;have:=hn.2;omega
 refine⟨hs'.len,hs'.desc,hs'.nodup,hs'.low,λid g b h1 h2=>?_,hs'.IG,λr g n cap sz hr=>?_,hs'.H8,λg hg=>aUS (hs'.NM g hg) k2.size,λg i hb=>aUS (hs'.Nz g i (by rw[hx.bad];exact .inl hb)) k2.size,hs'.H7,λg cs hg=>(hs'.Mr g cs hg).Dx m2,bbM hs'.RU k2.size,λg cs hg=>by
  obtain⟨h1,vs,T,f,h3,h4⟩:=hs'.Od g cs hg;obtain⟨_,_,_,_,e3,_⟩:=h.Od g cs hg;have hl:=(aHQ.1 e3).1;exact⟨h1,vs,T,f,by rw[k2.block g (aHQ.1 h3).1 (λhn=>by have:=hn.1;omega)];exact h3,h4⟩⟩
 obtain⟨o,ho,hb⟩:=hs'.box id g b h1 h2;exact⟨o,by rw[k2.block g (aHQ.1 ho).1 (SQ g (aUV h1))];exact ho,hb.Dx m2⟩;obtain⟨Me,h2,h3,h4,vs,T,⟨f,ho,hf⟩,h5⟩:=hs'.row r g n cap sz hr;have hb:c'.bad=λg i=>cx.bad g i\/iR w w1 g:=hx.bad;exact⟨λi Qp=>Me i (by rw[hb];exact .inl Qp),h2,h3,h4,vs,T,⟨f,by rw[k2.block g (aHQ.1 ho).1 (λhn=>Me 0 (by rw[hb];exact .inr hn))];exact ho,hf⟩,h5⟩
def OK(h:St G cx w s)(hx:Ext (cx.jF w w1) w1 c' w'){q:Nat}(hq:iR w w1 q):w'.heap[q]?=w1.heap[q]?:=by refine hx.UN q hq.2 (λhm=>?_) (λr n cap sz hr=>?_);have:=h.NM q hm;have:=hq.1;omega;have:=h.Pq (r:=r) hr;have:=hq.1;omega
end
end AI
