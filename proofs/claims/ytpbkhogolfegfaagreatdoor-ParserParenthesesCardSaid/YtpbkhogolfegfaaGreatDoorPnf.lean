/- Part of a proof: see the last text. -/
import Derived.Test.YtpbkhogolfegfaaGreatDoorPne
set_option linter.unusedVariables false
set_option linter.unusedSimpArgs false
set_option linter.defProp false
noncomputable section
open Array renaming getD_eq_getD_getElem?->bkD,getElem?_eq_getElem->bkQ,getElem?_eq_some_iff->aOA,getElem?_toList->biZ,length_toList->bjF,replicate->bkZ
open Bool renaming and_eq_true->bcA
open Classical renaming choose->bmW,choose_spec->blB
open Go.Oper renaming looksAt->bqG
open List renaming getElem?_eq_none->bkC,length_cons->Yy,map_cons->bjM,mem_append->bjK,mem_cons->biX,mem_of_getElem?->bcH,mem_singleton->bjB,range'_succ->bqC
open List.cons renaming injEq->bnR
open Nat renaming beq->bjO,ble_eq_true_of_le->blI,blt->blW,eq_of_beq_eq_true->bkB,le_of_ble_eq_true->bcG,lt_or_ge->blL,ne_of_beq_eq_false->bmI,zero_add->bcD,zero_le->bkI
open Option renaming bind_some->NF
open Option.some renaming inj->bjE,injEq->aOE
open Prod.mk renaming injEq->biY
namespace AI
open Go Go.RowKit
def Pa(op:Op):Bool:=match op with
 | .call cl=>(match cl.callee with | .value _=>true | _=>false)
 | _=>false
def Sb(op:Op):Bool:=match op with
 | .call cl=>(match cl.callee with | .value _=>true | .builtin .append=>true | _=>false)
 | _=>false
def aBF{op:Op}(h:Pa op=true):Sb op=true:=by
 unfold Pa at h;split at h;split at h;rename_i He;simp[Sb,He];cases h;cases h
def qS:List Hn->Bool
 | .a _ _::_=>true
 | .u _ _ _ _ _::_=>true
 | .cn _ _ _ _ _::_=>true
 | .mb _ _::_=>true
 | _=>false
def vR(P:Program)(G:AK)(ops:Array Oper)(fr:List AV)(s:AS)(o:Oper)(hs:List Hn):HO:=match Sb o.op with
 | true=>(match qS hs with
   | true=>none
   | false=>mN P G ops fr s o hs)
 | false=>mN P G ops fr s o hs
def eQ{P:Program}{G:AK}{ops:Array Oper}{fr:List AV}{s:AS}{o:Oper}{hs:List Hn}{r:AV×AS×List Hn×List Cd}(h:vR P G ops fr s o hs=some r):mN P G ops fr s o hs=some r/\(Sb o.op=true->qS hs=false):=by
 unfold vR at h;split at h;split at h;cases h;rename_i h1;exact⟨h,λ_=>h1⟩;rename_i h1;exact⟨h,λh2=>by rw[h1] at h2;cases h2⟩
def UM{P:Program}{G:AK}{ops:Array Oper}{fr:List AV}{s:AS}{o:Oper}{hs:List Hn}{r:AV×AS×List Hn×List Cd}(h:vR P G ops fr s o hs=some r):mN P G ops fr s o hs=some r/\(Pa o.op=true->qS hs=false):=⟨(eQ h).1,λh1=>(eQ h).2 (aBF h1)⟩
abbrev HT:=Option (List Hn×List Cd×List (List AV×AS×AV)×List AV×AS)
def akB(cd:List Cd)(x:List AV×AS×AV):HT->HT
 | some (hs,cd',t,fr,s)=>some (hs,cd++cd',x::t,fr,s)
 | none=>none
def hTr(P:Program)(G:AK)(ops:Array Oper):List Oper->Nat->List Hn->List AV->AS->HT
 | [],_,hs,fr,s=>some (hs,[],[],fr,s)
 | o::l,q,hs,fr,s=>(match BM o.op with
   | true=>akB [] (fr,s,QQ ops fr o q) (hTr P G ops l (q+1) hs (IW fr o.dst (QQ ops fr o q)) s)
   | false=>(match vR P G ops fr s o hs with
     | some (v,s1,TY,cd)=>akB cd (fr,s,v) (hTr P G ops l q TY (IW fr o.dst v) s1)
     | none=>none))
def aWA(q0:Nat):Option AV->Bool
 | some (.el _)=>true
 | some (.ptr id _)=>blW id q0
 | _=>false
def aYS(q0:Nat):Option AV->Bool
 | some (.ptr id _)=>Nat.ble q0 id
 | _=>false
def slV:Option AV->Bool
 | some (.sl _ _ _)=>true
 | some (.sc (.string _))=>true
 | _=>false
def mpV(q0:Nat):Option AV->Bool
 | some (.mp id)=>blW id q0
 | _=>false
def indep(G:AK)(q0:Nat)(fr:List AV)(o:Oper):Bool:=match o.op with
 | .load _ a=>aWA q0 (AJ G fr a)
 | .lookup _ m _ _=>mpV q0 (AJ G fr m)
 | .store _ a _=>aYS q0 (AJ G fr a)
 | .call cl=>(match cl.callee with
   | .value _=>true
   | .builtin .append=>true
   | .builtin .len=>(match cl.args.toList with
     | [x]=>slV (AJ G fr x)
     | _=>false)
   | _=>quiet o.op)
 | .alloc _=>true
 | op=>quiet op
def Mt(G:AK)(ops:Array Oper)(q0:Nat):List Oper->List (List AV×AS×AV)->Bool
 | o::os,t::ts=>(match Cw ops t.1 o with
   | false=>Mt G ops q0 os ts
   | true=>(match indep G q0 t.1 o with
     | true=>Mt G ops q0 os ts
     | false=>false))
 | _,_=>true
def Far(q0:Nat)(s s':AS):Prop:=∀id,id < q0->s'.get id=s.get id
def IQ{id S4:Nat}{b:Ao}(h:S4≠id):∀(l:List (Nat×Ao)),look S4 (Ta id b l)=look S4 l
 | []=>rfl
 | e::l=>by
   simp only[Ta];split;rename_i hb;have hb:=beq_true hb;simp only[look]
   have h1:bjO id S4=false:=by cases hq:bjO id S4 with
     | true=>exact absurd (beq_true hq).symm h
     | false=>rfl
   rw[hb,h1];simp only[look,IQ h l]
section
variable {P:Program} {G:AK} {ops:Array Oper}
def aAJ{q0:Nat}{fr:List AV}{s s1:AS}{o:Oper}{hs hs':List Hn}{v:AV}{cd:List Cd}(h:mN P G ops fr s o hs=some (v,s1,hs',cd))(hA:Sb o.op=true->qS hs=false)(hi:Cw ops fr o=true->indep G q0 fr o=true)(hc:Tb P G cd)(ha:BM o.op=false):Far q0 s s1:=by
 intro id hid;have hj:=QU h hc;cases hq:quiet o.op with
 | true=>rw[(Kf hq hj).1]
 | false =>
   unfold mN at h;split at h;rename_i hw;have hi:=hi hw;unfold indep at hi;split at hi;rename_i t a ho;rw[ho] at hq;cases hq;rename_i t m k ok ho;rw[ho] at hq;cases hq;rename_i t a x ho;unfold hDo at h;rw[ho] at h;simp only at h
   have h1:∃a' x',AZ G fr a=some a'/\AZ G fr x=some x'/\Lb P s t a' x'=some s1:=by
     rcases Yx h hc with ⟨a',x',h2,h3,h4,_⟩ | h2
     exact⟨a',x',h2,h3,h4⟩;have h1:=Yw h2;rw[Of] at h1;unfold RZ at h1;rw[ho] at h1;simp only at h1;split at h1;rename_i a' x' ha' Z2;obtain⟨s',Fl,he⟩:=map_some h1;injection he with he1 he2
     subst he2;exact⟨a',x',ha',Z2,Fl⟩;cases h1
   rw[Cl] at hi;obtain⟨a',x',ha',Z2,Fl⟩:=h1;rw[ha'] at hi;unfold aYS at hi;split at hi;rename_i S4 off Rk;cases Rk;unfold Lb at Fl;split at Fl;rename_i i id2 bgC TX arD;cases arD;split at Fl;split at Fl;cases Fl;have:=bcG hi;exact IQ (by omega) _;cases Fl;cases Fl;cases Fl;cases hi;rename_i cl ho;split at hi;rename_i f He;unfold hDo at h;rw[ho] at h;simp only[He] at h;unfold eO at h;split at h;split at h;cases h;rfl;cases h;have:=hA (by rw[ho];simp[Sb,He]);simp[qS] at this;have:=hA (by rw[ho];simp[Sb,He]);simp[qS] at this;have:=hA (by rw[ho];simp[Sb,He]);simp[qS] at this;cases h;rename_i He;unfold hDo at h;rw[ho] at h;simp only[He] at h;have no:=hA (by rw[ho];simp[Sb,He]);split at h;split at h;split at h;unfold aqK at h;split at h;simp[qS] at no;simp[qS] at no;cases h;rfl;cases h;rfl;split at h;cases h;rfl;split at h;split at h;cases h;rfl;cases h;cases h;cases h;cases h;cases h;cases h;cases h;rename_i He;rw[ho] at hq;simp[quiet,He] at hq;rw[ho] at hq;rw[ho,hq] at hi;cases hi;rename_i e ho;rw[ho] at ha;cases ha;rw[hq] at hi;cases hi;cases h;rfl
def Far.refl(q0:Nat)(s:AS):Far q0 s s:=λ_ _=>rfl
def Far.trans{q0:Nat}{a b c:AS}(h:Far q0 a b)(k:Far q0 b c):Far q0 a c:=λid hid=>(k id hid).trans (h id hid)
def aNZ{q0:Nat}{l:List Oper}{q:Nat}{hs hs':List Hn}{fr fr':List AV}{s s':AS}{cd:List Cd}{t:List (List AV×AS×AV)}(h:hTr P G ops l q hs fr s=some (hs',cd,t,fr',s'))(hc:Tb P G cd)(hi:Mt G ops q0 l t=true) :
   U0 P G (XS P G) H0 ops q l fr s t fr' s'/\(∀x∈t,Far q0 s x.2.1)/\Far q0 s s':=by
 induction l generalizing q hs fr s cd t with
 | nil=>simp only[hTr] at h;cases h;exact⟨.nil,(λx hx=>by cases hx),Far.refl _ _⟩
 | cons o l ih =>
   simp only[hTr] at h;cases ha:BM o.op with
   | true =>
     rw[ha] at h;simp only at h;unfold akB at h;split at h;rename_i mR cd2 t2 fr2 s2 h2;cases h
     have TX:Mt G ops q0 l t2=true:=by
       simp only[Mt] at hi;split at hi;exact hi;split at hi;exact hi;cases hi
     obtain⟨k1,k2,k3⟩:=ih h2 (hc.WY).2 TX;refine⟨.alloc ha k1,λx hx=>?_,k3⟩;rcases biX.1 hx with rfl | hx
     exact Far.refl _ _;exact k2 x hx;cases h
   | false =>
     rw[ha] at h;simp only at h;split at h;rename_i v s1 TY cd1 h1;unfold akB at h;split at h;rename_i mR cd2 t2 fr2 s2 h2;cases h;obtain⟨c1,c2⟩:=hc.WY
     have hi1:Cw ops fr o=true->indep G q0 fr o=true:=by
       intro hw;simp only[Mt,hw] at hi;split at hi;assumption;cases hi
     have TX:Mt G ops q0 l t2=true:=by
       simp only[Mt] at hi;split at hi;exact hi;split at hi;exact hi;cases hi
     have hf:=aAJ (UM h1).1 (eQ h1).2 hi1 c1 ha;obtain⟨k1,k2,k3⟩:=ih h2 c2 TX;refine⟨.cons ha (QU (UM h1).1 c1) k1,λx hx=>?_,hf.trans k3⟩;rcases biX.1 hx with rfl | hx
     exact Far.refl _ _;exact hf.trans (k2 x hx);cases h;cases h
def akJ{q0:Nat}{os:List Oper}{ts:List (List AV×AS×AV)}(h:Mt G ops q0 os ts=true){i:Nat}{o:Oper}{x:List AV×AS×AV}(ho:os[i]?=some o)(hx:ts[i]?=some x)(hw:Cw ops x.1 o=true):indep G q0 x.1 o=true:=by
 induction os generalizing ts i with
 | nil=>simp at ho
 | cons y os ih =>
   cases ts with
   | nil=>simp at hx
   | cons t ts =>
     simp only[Mt] at h;cases i with
     | zero =>
       simp at ho hx;subst ho hx;rw[hw] at h;simp only at h;split at h;assumption;cases h
     | succ i =>
       have h2:Mt G ops q0 os ts=true:=by
         split at h;exact h;split at h;exact h;cases h
       exact ih h2 (by simpa using ho) (by simpa using hx)
def aqA{q0:Nat}{fr:List AV}{s0 s s2:AS}{o:Oper}{v:AV}(hq:quiet o.op=true)(hr:reads o.op=true)(hi:indep G q0 fr o=true)(h1:Far q0 s0 s)(h2:Far q0 s0 s2)(h:RZ P G fr s o=some (.val v s)):RZ P G fr s2 o=some (.val v s2):=by
 unfold indep at hi;split at hi;rename_i t a ho;rw[Cl] at hi;unfold RZ at h ⊢;rw[ho] at h ⊢;simp only at h ⊢;obtain⟨v',h3,h4⟩:=map_some h;injection h4 with h4
 subst h4;obtain⟨b,h5,h6⟩:=bind_some h3;rw[h5] at hi ⊢;unfold aWA at hi;split at hi;rename_i Rk;cases Rk;simp only[NF];rw[show JL P s2 t (.el _)=JL P s t (.el _) from rfl,h6];rfl;rename_i id off Rk;cases Rk;have hid:id < q0:=bcG hi
 have:JL P s2 t (.ptr id off)=JL P s t (.ptr id off):=by
   simp only[JL];rw[h2 id hid,h1 id hid]
 simp only[NF];rw[this,h6];rfl;cases hi
 · rename_i t m k ok ho
   rw[Cl] at hi;unfold RZ at h ⊢;rw[ho] at h ⊢;simp only at h ⊢;unfold mpV at hi;split at hi
   · rename_i id Rk
     have hid:id < q0:=bcG hi;rw[Rk] at h ⊢;cases hk:AZ G fr k with
     | none=>rw[hk] at h;cases h
     | some b =>
       rw[hk] at h;simp only at h ⊢;obtain⟨v',h3,h4⟩:=map_some h;injection h4 with h4
       subst h4
       have:JA P s2 t (.mp id) b ok=JA P s t (.mp id) b ok:=by
         unfold JA;simp only;rw[h2 id hid,h1 id hid]
       rw[this,h3];rfl
   cases hi
 rename_i t a x ho;rw[ho] at hq;cases hq
 · rename_i cl ho
   split at hi;rename_i f He;rw[ho] at hq;simp[quiet,He] at hq;rename_i He;rw[ho] at hq;simp[quiet,He] at hq
   · rename_i He
     unfold RZ at h ⊢;rw[ho] at h ⊢;simp only[Vu,He] at h ⊢;split at hi
     · rename_i x hx
       rw[hx] at h ⊢;cases ht:cl.argTypes.toList with
       | nil=>rw[ht] at h;cases h
       | cons t1 ts =>
         cases ts with
         | cons _ _=>rw[ht] at h;cases h
         | nil =>
           rw[ht] at h;simp only at h ⊢;obtain⟨v',h3,h4⟩:=map_some h;injection h4 with h4
           subst h4;obtain⟨b,h5,h6⟩:=bind_some h3;rw[Cl,h5] at hi;rw[h5];simp only[NF]
           have:ZX P s2 t1 b=ZX P s t1 b:=by
             unfold slV at hi;split at hi
             · rename_i Rk;cases Rk;unfold ZX;split<;>first | rfl | (simp_all;done)
             · rename_i Rk;cases Rk;unfold ZX;split<;>first | rfl | (simp_all;done)
             cases hi
           rw[this,h6];rfl
     cases hi
   · rename_i hn1 hn2
     rw[ho] at hr;unfold reads at hr;simp only at hr
     first
       | (cases hr;done)
       | (split at hr
          rename_i He;exact absurd He hn2;cases hr)
 rename_i e ho;rw[ho] at hq;cases hq;rename_i hn1 hn2 hn3 hn4 hn5;exfalso;unfold reads at hr;split at hr;rename_i ho;exact hn1 _ _ ho;rename_i ho;exact hn2 _ _ _ _ ho;rename_i ho;exact hn4 _ ho;cases hr
def apC{id:Nat}{fr fr':List AV}{s s':AS}{r:List Ao}{t:List (List AV×AS×AV)}{hs hs':List Hn}{cd:List Cd}(Hz:Nb ops=true)(hr:rsv P ops.toList=some r)(h:hTr P G ops ops.toList s.nx hs fr (s.hold r)=some (hs',cd,t,fr',s'))(hc:Tb P G cd)(hi:Mt G ops s.nx ops.toList t=true)(arW:cC P ops t s' s.nx r=true):J P G (XS P G) H0 (.code (.region id ops true) fr s .normal fr' s'):=by
 obtain⟨htr,bcU,aWZ⟩:=aNZ h hc hi;have hlen:t.length=ops.size:=by rw[htr.len,bjF]
 have hfk:∀k,Far s.nx (s.hold r) (FQ t s' k):=by
   intro k;unfold FQ;split;rename_i x hx;exact bcU x (bcH hx);exact aWZ
 obtain⟨h0,Xs⟩:=htr.at;have abK:∀i o,ops[i]?=some o->Cb ops i=o.dst:=λi o ho=>by unfold Cb;rw[ho];rfl
 obtain⟨TW,eY⟩:=htr.pY (Cb ops) (KT t) fr 0 rfl (λi o ho=>by rw[bcD];exact abK i o (by rw[<- biZ];exact ho)) (λi=>.inl (by rw[bcD]));rw[bcD,bjF] at TW
 have Gu:∀(i:Nat) (o:Oper),ops[i]?=some o->BM o.op=false->J P G (XS P G) H0 (.op ops o (IJ fr (Cb ops) (KT t) (λ_=>true) i) (FQ t s' i) (.ret (KT t i)) (FQ t s' (i+1))):=by
   intro i o ho hna;obtain⟨fi,h1,h2⟩:=Xs i o (B6 ho);have:=eY i _ h1;simp only[bcD] at this;rcases h2 with ⟨_,h2⟩ | ⟨h2,_⟩
   rw[<- this];exact h2;rw[hna] at h2;cases h2
 have aWR:∀(i:Nat) (o:Oper),ops[i]?=some o->BM o.op=true->FQ t s' (i+1)=FQ t s' i/\KT t i=QQ ops (IJ fr (Cb ops) (KT t) (λ_=>true) i) o (s.nx+rk ops i):=by
   intro i o ho qR;obtain⟨fi,h1,h2⟩:=Xs i o (B6 ho);have:=eY i _ h1;simp only[bcD] at this;rcases h2 with ⟨h2,_⟩ | ⟨_,h2⟩
   rw[qR] at h2;cases h2;rw[<- this];exact h2
 have hna:∀o:Oper,quiet o.op=true->BM o.op=false:=by
   intro o hq;cases qR:BM o.op with
   | false=>rfl
   | true=>obtain⟨e,he⟩:=Ld qR;rw[SZ he] at hq;cases hq
 have hnl:∀o:Oper,calm o.op=false->BM o.op=false:=by
   intro o hq;cases qR:BM o.op with
   | false=>rfl
   | true=>unfold calm at hq;rw[qR] at hq;cases hq
 have hsn:FQ t s' ops.size=s':=by
   unfold FQ;rw[bkC (by omega)]
 have hsk:∀k,k<=ops.size->(t.map (λx=>x.2.1)++[s'])[k]?=some (FQ t s' k):=by
   intro k hk;unfold FQ;by_cases hkt:k < t.length;rw[List.getElem?_append_left (by simpa using hkt),List.getElem?_map,List.getElem?_eq_getElem hkt];rfl
   have:k=t.length:=by omega
   subst this;rw[List.getElem?_append_right (by simp)];simp
 have afL:∀l,l∈Oo ops.toList 0->fT ops l:=by
   intro l hl;obtain⟨j,o',e,h5,h6⟩:=rI hl;rw[bcD] at e;subst e;exact⟨o',by rw[<- biZ];exact h5,h6⟩
 have key:=J.draw (P:=P) (G:=G) (X:=XS P G) (H:=H0) (id:=id) (f0:=fr) (s0:=s) r (KT t) (FQ t s') h0 Hz (λi o ho hl=>Gu i o ho (hnl o hl)) (λi o ho hq=>by
   obtain⟨h1,h2⟩:=Kf hq (Gu i o ho (hna o hq));refine⟨h1,?_⟩;rcases h2 with h2 | ⟨hw,h2⟩
   exact .inl h2
   · refine .inr ⟨hw,λk hk kT=>?_⟩
     cases hrd:reads o.op with
     | false=>exact Wp hq hrd h2 _
     | true =>
       obtain⟨fi,hti,_⟩:=Xs i o (B6 ho);have hfi:=eY i _ hti;simp only[bcD] at hfi;have hin:=akJ hi (B6 ho) hti (by rw[hfi];exact hw);rw[hfi] at hin;exact aqA hq hrd hin (hfk i) (hfk k) h2) (λi o e ho he=>by
   have qR:BM o.op=true:=by rw[he];rfl
   obtain⟨h1,h2⟩:=aWR i o ho qR;refine⟨h1,?_⟩
   have hrk:rk ops i < r.length:=by
     rw[aED hr];exact acY (B6 ho) qR (by rw[bjF];exact(aOA.1 ho).1)
   cases hw:Cw ops (IJ fr (Cb ops) (KT t) (λ_=>true) i) o with
   | false=>unfold QQ at h2;rw[hw] at h2;exact .inl ⟨rfl,h2⟩
   | true =>
     unfold QQ at h2;rw[hw] at h2;obtain⟨fi,hti,_⟩:=Xs i o (B6 ho);have hfi:=eY i _ hti;simp only[bcD] at hfi
     have hal:VT P ops (Ig ops.toList []) (Oo ops.toList 0) (t.map (·.2.1)++[s']) ops.toList t 0 s.nx=true:=by
       unfold cC at arW;split at arW;simp at hrk;exact arW
     obtain⟨z,hz,hbx⟩:=ajH hal (B6 ho) hti he (by rw[hfi];exact hw);rw[bcD] at hbx;exact .inr ⟨rfl,z,hz,hrk,h2,λk hk kT=>ajO hbx (hsk k hk) (by rw[bcD];exact aGV afL kT)⟩)
 rw[<- TW,hsn] at key;exact key
end
end AI
namespace AI
open Go Go.RowKit
def akC(P:Program)(G:AK)(ops:Array Oper)(c:Nat):List Oper->Nat->List Hn->List AV->AS->HT
 | [],_,hs,fr,s=>some (hs,[],[],fr,s)
 | o::l,i,hs,fr,s=>(match (match bjO i c with
     | true=>mN P G ops fr s o hs
     | false=>vR P G ops fr s o hs) with
   | some (v,s1,TY,cd)=>akB cd (fr,s,v) (akC P G ops c l (i+1) TY (IW fr o.dst v) s1)
   | none=>none)
def XA(ms:List Nat)(c:Nat):List Oper->Nat->Bool
 | [],_=>true
 | o::l,i=>(match bjO i c with
   | true=>!calm o.op
   | false=>(match Pa o.op with
     | true=>blW i c
     | false=>quiet o.op&&(!reads o.op||(blW i c&&UI ms c i))))&&XA ms c l (i+1)
section
variable {P:Program} {G:AK} {ops:Array Oper}
def fK{ms:List Nat}{c:Nat}:∀{l:List Oper} {i j:Nat} {o:Oper},XA ms c l i=true->l[j]?=some o->(i+j=c->calm o.op=false)/\(i+j≠c->(Pa o.op=true/\i+j < c)\/(quiet o.op=true/\(reads o.op=true->i+j < c/\UI ms c (i+j)=true))):=by
 intro l
 induction l with
 | nil=>intro i j o h ho;simp at ho
 | cons x l ih =>
   intro i j o h ho;simp only[XA,bcA] at h;cases j with
   | zero =>
     simp at ho;subst ho;have h1:=h.1;split at h1;rename_i hb;have:=bkB hb;exact⟨λ_=>by simpa using h1,λhn=>absurd this hn⟩
     rename_i hb;have:=bmI hb;refine⟨λhn=>absurd hn this,λ_=>?_⟩;split at h1;rename_i hv;exact .inl ⟨hv,bcG h1⟩;simp only[bcA,Bool.or_eq_true,Bool.not_eq_true'] at h1;refine .inr ⟨h1.1,λhr=>?_⟩;rcases h1.2 with h2 | h2
     rw[hr] at h2;cases h2;exact⟨bcG h2.1,h2.2⟩
   | succ j =>
     have:=ih (i:=i+1) (j:=j) h.2 (by simpa using ho)
     rw[show i+(j+1)=i+1+j by omega];exact this
def ZE{ms:List Nat}{c:Nat}{l:List Oper}{i j:Nat}{o:Oper}(hl:XA ms c l i=true)(hj:l[j]?=some o):BM o.op=false:=by
 have ho:=fK hl hj;cases ha:BM o.op with
 | false=>rfl
 | true =>
   obtain⟨e,he⟩:=Ld ha;by_cases hic:i+j=c;have:=ho.1 hic;unfold calm at this;rw[ha] at this;simp at this;rcases ho.2 hic with ⟨h1,_⟩ | ⟨h1,_⟩
   rw[he] at h1;cases h1;rw[SZ he] at h1;cases h1
def aAK{fr:List AV}{s s1:AS}{o:Oper}{hs hs':List Hn}{v:AV}{cd:List Cd}(h:mN P G ops fr s o hs=some (v,s1,hs',cd))(hv:Pa o.op=true)(hA:qS hs=false):s1=s:=by
 unfold mN at h;split at h;unfold Pa at hv;split at hv;rename_i cl ho;split at hv;rename_i f He;unfold hDo at h;rw[ho] at h;simp only[He] at h;unfold eO at h;split at h;split at h;cases h;rfl;cases h;simp[qS] at hA;simp[qS] at hA;simp[qS] at hA;cases h;cases hv;cases hv;cases h;rfl
def aAQ{c q:Nat}{ms:List Nat}:∀{l:List Oper} {i:Nat} {hs hs':List Hn} {fr fr':List AV} {s s':AS} {cd:List Cd} {t:List (List AV×AS×AV)},akC P G ops c l i hs fr s=some (hs',cd,t,fr',s')->Tb P G cd->XA ms c l i=true->U0 P G (XS P G) H0 ops q l fr s t fr' s'/\∀j,j<=l.length->i+j<=c->FQ t s' j=s:=by
 intro l
 induction l with
 | nil =>
   intro i hs hs' fr fr' s s' cd t h hc hl;simp only[akC] at h;cases h;exact⟨.nil,λj hj _=>by rfl⟩
 | cons o l ih =>
   intro i hs hs' fr fr' s s' cd t h hc hl;simp only[akC] at h;split at h
   · rename_i v s1 TY cd1 h1
     unfold akB at h;split at h
     · rename_i mR cd2 t2 fr2 s2 h2
       cases h;obtain⟨c1,c2⟩:=hc.WY;have ho:=fK (j:=0) hl rfl;have hna:BM o.op=false:=ZE (j:=0) hl rfl
       have hl2:XA ms c l (i+1)=true:=by
         simp only[XA,bcA] at hl;exact hl.2
       have h3:mN P G ops fr s o hs=some (v,s1,TY,cd1):=by
         split at h1;exact h1;exact(UM h1).1
       have hj:=QU h3 c1;obtain⟨k1,k2⟩:=ih h2 c2 hl2;refine⟨.cons hna hj k1,λj hjl hjc=>?_⟩;cases j with
       | zero=>rfl
       | succ j =>
         have e1:FQ ((fr,s,v)::t2) s' (j+1)=FQ t2 s' j:=by unfold FQ;simp
         rw[e1,k2 j (by simpa using hjl) (by omega)]
         have hic:i+0≠c:=by omega
         rcases ho.2 hic with ⟨hv,_⟩ | ⟨hq,_⟩
         split at h1;rename_i hb;have:=bkB hb;omega;exact aAK h3 hv ((UM h1).2 hv);exact(Kf hq hj).1
     cases h
   cases h
def ajU{id c:Nat}{fr fr':List AV}{s s':AS}{t:List (List AV×AS×AV)}{hs hs':List Hn}{cd:List Cd}(Hz:Nb ops=true)(Yz:blW c ops.size=true)(hl:XA (Ig ops.toList []) c ops.toList 0=true)(h:akC P G ops c ops.toList 0 hs fr s=some (hs',cd,t,fr',s'))(hc:Tb P G cd):J P G (XS P G) H0 (.code (.region id ops true) fr s .normal fr' s'):=by
 have He:c < ops.size:=bcG Yz;obtain⟨htr,hsm⟩:=aAQ (q:=s.nx) h hc hl;have hlen:t.length=ops.size:=by rw[htr.len,bjF]
 obtain⟨h0,Xs⟩:=htr.at;have abK:∀i o,ops[i]?=some o->Cb ops i=o.dst:=λi o ho=>by unfold Cb;rw[ho];rfl
 obtain⟨TW,eY⟩:=htr.pY (Cb ops) (KT t) fr 0 rfl (λi o ho=>by rw[bcD];exact abK i o (by rw[<- biZ];exact ho)) (λi=>.inl (by rw[bcD]));rw[bcD,bjF] at TW
 have aIO:∀(i:Nat) (o:Oper),ops[i]?=some o->(i=c->calm o.op=false)/\(i≠c->(Pa o.op=true/\i < c)\/(quiet o.op=true/\(reads o.op=true->i < c/\UI (Ig ops.toList []) c i=true))):=by
   intro i o ho;have:=fK (j:=i) hl (B6 ho);rwa[bcD] at this
 have arR:∀(i:Nat) (o:Oper),ops[i]?=some o->BM o.op=false:=λi o ho=>ZE (j:=i) hl (B6 ho)
 have Gu:∀(i:Nat) (o:Oper),ops[i]?=some o->J P G (XS P G) H0 (.op ops o (IJ fr (Cb ops) (KT t) (λ_=>true) i) (FQ t s' i) (.ret (KT t i)) (FQ t s' (i+1))):=by
   intro i o ho;obtain⟨fi,h1,h2⟩:=Xs i o (B6 ho);have:=eY i _ h1;simp only[bcD] at this;rcases h2 with ⟨_,h2⟩ | ⟨h2,_⟩
   rw[<- this];exact h2;rw[arR i o ho] at h2;cases h2
 have hsn:FQ t s' ops.size=s':=by
   unfold FQ;rw[bkC (by omega)]
 have wB:∀k,k<=c->FQ t s' k=s:=λk hk=>hsm k (by rw[bjF];omega) (by omega)
 have afL:fT ops c:=by
   have ho:ops[c]?=some ops[c]:=bkQ He;exact⟨_,ho,(aIO c _ ho).1 rfl⟩
 have key:=J.draw (P:=P) (G:=G) (X:=XS P G) (H:=H0) (id:=id) (f0:=fr) (s0:=s) [] (KT t) (FQ t s') h0 Hz (λi o ho _=>Gu i o ho) (λi o ho hq=>by
   obtain⟨h1,h2⟩:=Kf hq (Gu i o ho);refine⟨h1,?_⟩;rcases h2 with h2 | ⟨hw,h2⟩
   exact .inl h2
   · refine .inr ⟨hw,λk hk kT=>?_⟩
     cases hrd:reads o.op with
     | false=>exact Wp hq hrd h2 _
     | true =>
       have hic:i≠c:=λe=>by
         subst e;obtain⟨o2,ho2,hcm⟩:=afL;rw[ho] at ho2;cases ho2;rw[dK hq] at hcm;cases hcm
       obtain⟨hlt,hd⟩:i < c/\UI (Ig ops.toList []) c i=true:=by
         rcases(aIO i o ho).2 hic with ⟨hv,_⟩ | ⟨_,h3⟩
         exfalso;unfold Pa at hv;split at hv;rename_i cl Zz;split at hv;rename_i f bcO;rw[Zz] at hq;simp[quiet,bcO] at hq;cases hv;cases hv;exact h3 hrd
       have hkc:=kT.2 c afL hd;rw[wB k hkc];rw[wB i (by omega)] at h2;exact h2) (λi o e ho he=>by
   have:=arR i o ho;rw[he] at this;cases this)
 rw[<- TW,hsn] at key;exact key
end
end AI
namespace AI
open Go Go.RowKit
def axL(G:AK)(fr:List AV)(o:Oper)(hs:List Hn):Option (List Nat):=match o.op with
 | .store _ a _=>(match AZ G fr a with
   | some (.ptr id _)=>some [id]
   | _=>none)
 | .mapUpdate _ m _ _=>(match AJ G fr m with
   | some (.mp id)=>some [id]
   | _=>none)
 | .call cl=>(match cl.callee with
   | .value _=>(match hs with
     | .w _::_=>some []
     | .u _ _ _ SM _::_=>some (SM.map (·.1))
     | .cn _ h _ _ _::_=>some (h.map (·.1))
     | _=>none)
   | .builtin .append=>(match hs with
     | .g _ _ _::_=>some []
     | .ae _::_=>some []
     | _=>none)
   | _=>(match quiet o.op with
     | true=>some []
     | false=>none))
 | op=>(match quiet op with
   | true=>some []
   | false=>none)
def iX(G:AK)(ops:Array Oper)(fr:List AV)(o:Oper)(hs:List Hn):Option (List Nat):=match Cw ops fr o with
 | true=>axL G fr o hs
 | false=>some []
abbrev HA:=Option (List Hn×List Cd×List (List AV×AS×AV)×List (List Nat)×List AV×AS)
def aIM(cd:List Cd)(x:List AV×AS×AV)(T:List Nat):HA->HA
 | some (hs,cd',t,Ts,fr,s)=>some (hs,cd++cd',x::t,T::Ts,fr,s)
 | none=>none
def akA(P:Program)(G:AK)(ops:Array Oper):List Oper->List Hn->List AV->AS->HA
 | [],hs,fr,s=>some (hs,[],[],[],fr,s)
 | o::l,hs,fr,s=>(match BM o.op with
   | true=>none
   | false=>(match iX G ops fr o hs with
     | some T=>(match mN P G ops fr s o hs with
       | some (v,s1,TY,cd)=>aIM cd (fr,s,v) T (akA P G ops l TY (IW fr o.dst v) s1)
       | none=>none)
     | none=>none))
def aDE(G:AK)(fr:List AV)(o:Oper):Option (Option Nat):=match o.op with
 | .load _ a=>(match AJ G fr a with
   | some (.ptr id _)=>some (some id)
   | some (.el _)=>some none
   | _=>none)
 | .lookup _ m _ _=>(match AJ G fr m with
   | some (.mp id)=>some (some id)
   | _=>none)
 | .call cl=>(match cl.callee with
   | .builtin .len=>(match cl.args.toList with
     | [x]=>(match slV (AJ G fr x) with
       | true=>some none
       | false=>none)
     | _=>none)
   | _=>none)
 | _=>none
def atH(a:Nat):List Nat->Bool
 | []=>false
 | b::l=>(match bjO a b with
   | true=>true
   | false=>atH a l)
def Ya(ms:List Nat)(id i:Nat):List (List Nat)->Nat->Bool
 | [],_=>true
 | T::Ts,l=>(match atH id T with
   | true=>(match blW l i with
     | true=>UI ms i l
     | false=>(match blW i l with
       | true=>UI ms l i
       | false=>true))
   | false=>true)&&Ya ms id i Ts (l+1)
def xS(G:AK)(ops:Array Oper)(ms:List Nat)(Ts:List (List Nat)):List Oper->List (List AV×AS×AV)->Nat->Bool
 | o::os,t::ts,i=>(match Cw ops t.1 o with
   | false=>true
   | true=>(match reads o.op with
     | false=>true
     | true=>(match aDE G t.1 o with
       | none=>false
       | some none=>true
       | some (some id)=>Ya ms id i Ts 0)))&&xS G ops ms Ts os ts (i+1)
 | _,_,_=>true
def wP{a:Nat}:∀{l:List Nat},atH a l=true↔a∈l
 | []=>by simp[atH]
 | b::l=>by
   simp only[atH];cases hb:bjO a b with
   | true=>have:=bkB hb;simp[this]
   | false =>
     have:=bmI hb;simp[wP (l:=l),this]
def yW{id:Nat}:∀(l:List (Nat×Ao)) (s:AS),id∉l.map (·.1)->(s.Zg l).get id=s.get id
 | [],_,_=>rfl
 | e::l,s,h=>by
   simp only[bjM,biX,not_or] at h;rw[AS.Zg,yW l _ h.2];exact IQ h.1 _
def wM{id:Nat}:∀{l:List (Nat×Ao)} (m:List (Nat×Ao)),id∉l.map (·.1)->look id (l++m)=look id m
 | [],_,_=>rfl
 | e::l,m,h=>by
   simp only[bjM,biX,not_or] at h;simp only[List.cons_append,look]
   have hb:bjO e.1 id=false:=by
     cases hq:bjO e.1 id with
     | false=>rfl
     | true=>exact absurd (bkB hq).symm h.1
   rw[hb];exact wM m h.2
def mL{id:Nat}:∀(l:List (Nat×Nat)) (s:AS),(s.VB l).get id=s.get id
 | [],_=>rfl
 | e::l,s=>by rw[AS.VB,mL l];rfl
section
variable {P:Program} {G:AK} {ops:Array Oper}
def ajZ{fr:List AV}{s s1:AS}{o:Oper}{hs hs':List Hn}{v:AV}{cd:List Cd}{T:List Nat}(h:mN P G ops fr s o hs=some (v,s1,hs',cd))(hT:iX G ops fr o hs=some T)(hc:Tb P G cd)(ha:BM o.op=false)(id:Nat)(hid:id∉T):s1.get id=s.get id:=by
 have hj:=QU h hc;cases hq:quiet o.op with
 | true=>rw[(Kf hq hj).1]
 | false =>
   unfold mN at h;unfold iX at hT;split at h
   · rename_i hw
     rw[hw] at hT;simp only at hT;unfold axL at hT;split at hT;rename_i t a x ho;unfold hDo at h;rw[ho] at h;simp only at h
     have h1:∃a' x',AZ G fr a=some a'/\AZ G fr x=some x'/\Lb P s t a' x'=some s1:=by
       rcases Yx h hc with ⟨a',x',h2,h3,h4,_⟩ | h2
       exact⟨a',x',h2,h3,h4⟩;have h1:=Yw h2;rw[Of] at h1;unfold RZ at h1;rw[ho] at h1;simp only at h1;split at h1;rename_i a' x' ha' Z2;obtain⟨s',Fl,he⟩:=map_some h1;injection he with he1 he2
       subst he2;exact⟨a',x',ha',Z2,Fl⟩;cases h1
     obtain⟨a',x',ha',Z2,Fl⟩:=h1;rw[ha'] at hT;split at hT;rename_i S4 off Rk;cases Rk;cases hT;simp only[bjB] at hid;unfold Lb at Fl;split at Fl;rename_i i id2 bgC TX arD;cases arD;split at Fl;split at Fl;cases Fl;exact IQ hid _;cases Fl;cases Fl;cases Fl;cases hT
     · rename_i t m k x ho
       unfold hDo at h;rw[ho] at h;simp only at h;split at hT
       · rename_i S4 Rk
         rw[Rk] at h;cases hT;simp only[bjB] at hid;simp only at h;split at h
         · split at h
           · have aEL:∀kk x' s2,KV P s t (.mp S4) kk x'=some s2->s2.get id=s.get id:=by
               intro kk x' s2 h2;unfold KV at h2
               repeat' split at h2
               all_goals first
                 | (cases h2;done)
                 | (rename_i arD;cases arD;cases h2;exact IQ hid _)
                 | (simp_all only [AV.mp.injEq,aOE];subst_vars;exact IQ hid _)
             unfold aNX at h;split at h;cases h;exact aEL _ _ _ hc.1;cases h;exact IQ hid _;cases h
           cases h
         cases h
       cases hT
     rename_i cl ho;split at hT;rename_i f He;unfold hDo at h;rw[ho] at h;simp only[He] at h;unfold eO at h;split at h;split at h;cases h;rfl;cases h;cases hT;split at h;cases h;cases hT;rw[mL];exact yW _ _ hid;cases h;split at h;cases h;cases hT;exact wM _ hid;cases h;cases h;rename_i He;unfold hDo at h;rw[ho] at h;simp only[He] at h;split at hT;split at h;split at h;split at h;unfold aqK at h;simp only at h;split at h;cases h;rfl;split at h;split at h;cases h;rfl;cases h;cases h;cases h;cases h;cases h;cases h;split at h;split at h;split at h;unfold aqK at h;simp only at h;cases h;rfl;cases h;cases h;cases h;cases hT;rw[hq] at hT;cases hT;rw[hq] at hT;cases hT
   cases h;rfl
def adQ{fr:List AV}{o:Oper}{hs:List Hn}{T:List Nat}(hT:iX G ops fr o hs=some T){id:Nat}(h:id∈T)(ha:BM o.op=false):calm o.op=false:=by
 unfold calm;rw[ha];simp only;cases hq:quiet o.op with
 | false=>rfl
 | true =>
   exfalso;unfold iX at hT;split at hT;unfold axL at hT;split at hT;rename_i ho;rw[ho] at hq;cases hq;rename_i ho;rw[ho] at hq;cases hq;rename_i cl ho;split at hT;rename_i He;rw[ho] at hq;simp[quiet,He] at hq;split at hT;cases hT;cases h;cases hT;cases h;cases hT;rw[hq] at hT;cases hT;cases h;rw[hq] at hT;cases hT;cases h;cases hT;cases h
def aAP{q:Nat}:∀{l:List Oper} {hs hs':List Hn} {fr fr':List AV} {s s':AS} {cd:List Cd} {t:List (List AV×AS×AV)} {Ts:List (List Nat)},akA P G ops l hs fr s=some (hs',cd,t,Ts,fr',s')->Tb P G cd ->
   U0 P G (XS P G) H0 ops q l fr s t fr' s'/\(∀o∈l,BM o.op=false)/\(∀(i:Nat) id,i < l.length->(∀T,Ts[i]?=some T->id∉T)->(FQ t s' (i+1)).get id=(FQ t s' i).get id)/\∀(i:Nat) o T id,l[i]?=some o->Ts[i]?=some T->id∈T->calm o.op=false:=by
 intro l
 induction l with
 | nil =>
   intro hs hs' fr fr' s s' cd t Ts h hc;simp only[akA] at h;cases h;exact⟨.nil,(λo h=>by cases h),(λi id h=>by simp at h),λi o T id h=>by simp at h⟩
 | cons o l ih =>
   intro hs hs' fr fr' s s' cd t Ts h hc;simp only[akA] at h;split at h;cases h
   · rename_i ha
     split at h
     · rename_i T hT
       split at h
       · rename_i v s1 TY cd1 h1
         unfold aIM at h;split at h
         · rename_i mR cd2 t2 Ts2 fr2 s2 h2
           cases h;obtain⟨c1,c2⟩:=hc.WY;obtain⟨k1,k2,k3,k4⟩:=ih h2 c2;refine⟨.cons ha (QU h1 c1) k1,λo' Zy=>?_,λi id hi hno=>?_,λi o' T' id Zy hT' hid=>?_⟩;rcases biX.1 Zy with rfl | Zy
           exact ha;exact k2 o' Zy
           · cases i with
             | zero =>
               have e1:FQ ((fr,s,v)::t2) s' 0=s:=rfl
               have e2:FQ ((fr,s,v)::t2) s' (0+1)=s1:=by
                 rw[show FQ ((fr,s,v)::t2) s' (0+1)=FQ t2 s' 0 by unfold FQ;simp];exact k1.at.1
               rw[e1,e2];exact ajZ h1 hT c1 ha id (hno T rfl)
             | succ i =>
               have e:∀j,FQ ((fr,s,v)::t2) s' (j+1)=FQ t2 s' j:=λj=>by unfold FQ;simp
               rw[e,e];exact k3 i id (by simpa using hi) (λT' h'=>hno T' (by simpa using h'))
           cases i with
           | zero=>simp at Zy hT';subst Zy hT';exact adQ hT hid ha
           | succ i=>exact k4 i o' T' id (by simpa using Zy) (by simpa using hT') hid
         cases h
       cases h
     cases h
def iW{ms:List Nat}{id i:Nat}:∀{Ts:List (List Nat)} {l0:Nat},Ya ms id i Ts l0=true->∀{l:Nat} {T:List Nat},Ts[l]?=some T->id∈T->(l0+l < i->UI ms i (l0+l)=true)/\(i < l0+l->UI ms (l0+l) i=true):=by
 intro Ts
 induction Ts with
 | nil=>intro l0 _ l T h;simp at h
 | cons T0 Ts ih =>
   intro l0 h l T hT hid;simp only[Ya,bcA] at h;cases l with
   | zero =>
     simp at hT;subst hT;have h1:=h.1;rw[wP.2 hid] at h1;simp only at h1;constructor;intro hlt;have e:blW l0 i=true:=blI hlt;rw[e] at h1;exact h1;intro hlt
     have e:blW l0 i=false:=by
       cases hq:blW l0 i with
       | false=>rfl
       | true=>have:=bcG hq;omega
     have e2:blW i l0=true:=blI hlt;rw[e,e2] at h1;exact h1
   | succ l =>
     have:=ih h.2 (l:=l) (by simpa using hT) hid
     rw[show l0+(l+1)=l0+1+l by omega];exact this
def auY{ms:List Nat}{Ts:List (List Nat)}:∀{os:List Oper} {ts:List (List AV×AS×AV)} {i:Nat},xS G ops ms Ts os ts i=true->∀{j:Nat} {o:Oper} {x:List AV×AS×AV},os[j]?=some o->ts[j]?=some x->Cw ops x.1 o=true->reads o.op=true->∃r,aDE G x.1 o=some r/\∀id,r=some id->Ya ms id (i+j) Ts 0=true:=by
 intro os
 induction os with
 | nil=>intro ts i _ j o x h;simp at h
 | cons y os ih =>
   intro ts i h j o x ho hx hw hr;cases ts with
   | nil=>simp at hx
   | cons t ts =>
     simp only[xS,bcA] at h;cases j with
     | zero =>
       simp at ho hx;subst ho hx;have h1:=h.1;rw[hw,hr] at h1;simp only at h1;split at h1;cases h1;rename_i hq;exact⟨none,hq,λid h=>by cases h⟩;rename_i id hq;exact⟨some id,hq,λS4 h=>by cases h;exact h1⟩
     | succ j =>
       have:=ih h.2 (j:=j) (by simpa using ho) (by simpa using hx) hw hr
       rw[show i+(j+1)=i+1+j by omega];exact this
def aDF{fr:List AV}{s s2:AS}{o:Oper}{v:AV}{r:Option Nat}(hr:aDE G fr o=some r)(hs:∀id,r=some id->s2.get id=s.get id)(h:RZ P G fr s o=some (.val v s)):RZ P G fr s2 o=some (.val v s2):=by
 unfold aDE at hr;split at hr;rename_i t a ho;rw[Cl] at hr;unfold RZ at h ⊢;rw[ho] at h ⊢;simp only at h ⊢;obtain⟨v',h3,h4⟩:=map_some h;injection h4 with h4
 subst h4;obtain⟨b,h5,h6⟩:=bind_some h3;rw[h5] at hr ⊢;split at hr;rename_i id off Rk;cases Rk;cases hr
 have:JL P s2 t (.ptr id off)=JL P s t (.ptr id off):=by
   simp only[JL];rw[hs id rfl]
 simp only[NF];rw[this,h6];rfl;rename_i Rk;cases Rk;simp only[NF];rw[show JL P s2 t (.el _)=JL P s t (.el _) from rfl,h6];rfl;cases hr;rename_i t m k ok ho;rw[Cl] at hr;unfold RZ at h ⊢;rw[ho] at h ⊢;simp only at h ⊢;split at hr;rename_i id Rk;cases hr;rw[Rk] at h ⊢;split at h;rename_i a b ha hb;cases ha;obtain⟨v',h3,h4⟩:=map_some h;injection h4 with h4
 subst h4
 have:JA P s2 t (.mp id) b ok=JA P s t (.mp id) b ok:=by
   simp only[JA];rw[hs id rfl]
 rw[this,h3];rfl;cases h;cases hr
 · rename_i cl ho
   split at hr
   · rename_i He
     unfold RZ at h ⊢;rw[ho] at h ⊢;simp only[Vu,He] at h ⊢;split at hr
     · rename_i x hx
       rw[hx] at h ⊢;cases ht:cl.argTypes.toList with
       | nil=>rw[ht] at h;cases h
       | cons t1 ts =>
         cases ts with
         | cons _ _=>rw[ht] at h;cases h
         | nil =>
           rw[ht] at h;simp only at h ⊢;obtain⟨v',h3,h4⟩:=map_some h;injection h4 with h4
           subst h4;obtain⟨b,h5,h6⟩:=bind_some h3;rw[Cl,h5] at hr;rw[h5];simp only[NF];split at hr
           · rename_i hsl
             have:ZX P s2 t1 b=ZX P s t1 b:=by
               unfold slV at hsl;split at hsl
               · rename_i Rk;cases Rk;unfold ZX;split<;>first | rfl | (simp_all;done)
               · rename_i Rk;cases Rk;unfold ZX;split<;>first | rfl | (simp_all;done)
               cases hsl
             rw[this,h6];rfl
           cases hr
     cases hr
   cases hr
 cases hr
def aoZ{id:Nat}{fr fr':List AV}{s s':AS}{t:List (List AV×AS×AV)}{Ts:List (List Nat)}{hs hs':List Hn}{cd:List Cd}(Hz:Nb ops=true)(h:akA P G ops ops.toList hs fr s=some (hs',cd,t,Ts,fr',s'))(hr:xS G ops (Ig ops.toList []) Ts ops.toList t 0=true)(hc:Tb P G cd):J P G (XS P G) H0 (.code (.region id ops true) fr s .normal fr' s'):=by
 obtain⟨htr,hna,Fl,hlo⟩:=aAP (q:=s.nx) h hc;have hlen:t.length=ops.size:=by rw[htr.len,bjF]
 obtain⟨h0,Xs⟩:=htr.at;have abK:∀i o,ops[i]?=some o->Cb ops i=o.dst:=λi o ho=>by unfold Cb;rw[ho];rfl
 obtain⟨TW,eY⟩:=htr.pY (Cb ops) (KT t) fr 0 rfl (λi o ho=>by rw[bcD];exact abK i o (by rw[<- biZ];exact ho)) (λi=>.inl (by rw[bcD]));rw[bcD,bjF] at TW;have arR:∀(i:Nat) (o:Oper),ops[i]?=some o->BM o.op=false:=λi o ho=>hna o (bcH (B6 ho))
 have Gu:∀(i:Nat) (o:Oper),ops[i]?=some o->J P G (XS P G) H0 (.op ops o (IJ fr (Cb ops) (KT t) (λ_=>true) i) (FQ t s' i) (.ret (KT t i)) (FQ t s' (i+1))):=by
   intro i o ho;obtain⟨fi,h1,h2⟩:=Xs i o (B6 ho);have:=eY i _ h1;simp only[bcD] at this;rcases h2 with ⟨_,h2⟩ | ⟨h2,_⟩
   rw[<- this];exact h2;rw[arR i o ho] at h2;cases h2
 have hsn:FQ t s' ops.size=s':=by
   unfold FQ;rw[bkC (by omega)]
 have hTl:∀(l:Nat) T id,Ts[l]?=some T->id∈T->l < ops.size->fT ops l:=by
   intro l T id hT hid hl;exact⟨ops[l],bkQ hl,hlo l ops[l] T id (B6 (bkQ hl)) hT hid⟩
 have wB:∀(bx:Nat) (d i:Nat),i+d<=ops.size->(∀l,i<=l->l < i+d->∀T,Ts[l]?=some T->bx∉T)->(FQ t s' (i+d)).get bx=(FQ t s' i).get bx:=by
   intro bx d
   induction d with
   | zero=>intro i _ _;rfl
   | succ d ih =>
     intro i hle hno;rw[show i+(d+1)=(i+d)+1 by omega,Fl (i+d) bx (by rw[bjF];omega) (hno (i+d) (by omega) (by omega))];exact ih i (by omega) (λl h1 h2=>hno l h1 (by omega))
 have key:=J.draw (P:=P) (G:=G) (X:=XS P G) (H:=H0) (id:=id) (f0:=fr) (s0:=s) [] (KT t) (FQ t s') h0 Hz (λi o ho _=>Gu i o ho) (λi o ho hq=>by
   obtain⟨h1,h2⟩:=Kf hq (Gu i o ho);refine⟨h1,?_⟩;rcases h2 with h2 | ⟨hw,h2⟩
   exact .inl h2
   · refine .inr ⟨hw,λk hk kT=>?_⟩
     cases hrd:reads o.op with
     | false=>exact Wp hq hrd h2 _
     | true =>
       have hil:i < ops.size:=(aOA.1 ho).1;obtain⟨fi,hti,_⟩:=Xs i o (B6 ho);have hfi:=eY i _ hti;simp only[bcD] at hfi;obtain⟨r,hr1,hr2⟩:=auY hr (B6 ho) hti (by rw[hfi];exact hw) hrd;rw[hfi] at hr1;refine aDF hr1 (λbx hbx=>?_) h2;have hto:=hr2 bx hbx;rw[bcD] at hto;rcases blL k i with hki | hki
       have:=wB bx (i - k) k (by omega) (λl h3 h4 T hT hm=>by
         have hd:=(iW hto hT hm).1 (by omega);rw[bcD] at hd;have:=kT.1 l (hTl l T bx hT hm (by omega)) hd;omega)
       rw[show k+(i - k)=i by omega] at this;exact this.symm
       have:=wB bx (k - i) i (by omega) (λl h3 h4 T hT hm=>by
         have hll:=hTl l T bx hT hm (by omega);rcases blL i l with h5 | h5
         have hd:=(iW hto hT hm).2 (by omega);rw[bcD] at hd;have:=kT.2 l hll hd;omega;have:l=i:=by omega
         subst this;obtain⟨o2,ho2,hcm⟩:=hll;rw[ho] at ho2;cases ho2;rw[dK hq] at hcm;cases hcm)
       rw[show i+(k - i)=k by omega] at this;exact this) (λi o e ho he=>by
   have:=arR i o ho;rw[he] at this;cases this)
 rw[<- TW,hsn] at key;exact key
end
end AI
namespace AI
open Go Go.RowKit
section
variable {P:Program} {G:AK} {ops:Array Oper} {f0:List AV} {vals:Nat->AV} {s0 s1:AS} {p:Nat} {v:AV}
structure bbE(G:AK)(ops:Array Oper)(f0:List AV)(vals:Nat->AV)(s0:AS)(p:Nat)(zV:Cx)(w0:World)(L:Array Bool)(a:Act)(w:World):Prop where
 size:L.size=ops.size
 closed:OV ops.toList (λj=>L.getD j false)
 st:∃c,Ext zV w0 c w/\St G c w s0/\Cv c w (IJ f0 (Cb ops) vals (λj=>L.getD j false) ops.size) a.tmps.toList
 defers:a.defers=[]
 out:L.getD p false=false
def apD(Hz:Nb ops=true)(hp:p < ops.size)
   (hl:∀i o,ops[i]?=some o->i≠p->(p < i->UI (Ig ops.toList []) i p=false)->Sound P G (.op ops o (IJ f0 (Cb ops) vals (λ_=>true) i) s0 (.ret (vals i)) s0))
   (aPQ:∀o,ops[p]?=some o->Sound P G (.op ops o (IJ f0 (Cb ops) vals (λ_=>true) p) s0 (.pan v) s1))
   {zV:Cx} {w0:World} {fr':List AV} (Q:Exit->Act->World->Prop) (hQ:∀e' a' w',Vs G zV w0 (.pan v) fr' s1 e' a' w'->Q e' a' w') :
   ∀(fuel:Nat) (L:Array Bool) (a:Act) (w:World),bbE G ops f0 vals s0 p zV w0 L a w->uU (λj=>L.getD j false) ops.size=fuel->wpAny P .any ops Q fuel L a w:=by
 intro fuel
 induction fuel with
 | zero =>
   intro L a w hI hc;have:=uV ops.size hc p hp;rw[hI.out] at this;cases this
 | succ fuel ih =>
   intro L a w hI aWV;refine⟨λqK=>?_,λi hi=>?_⟩
   · exfalso
     have all:∀i,i < ops.size->L.getD i false=true:=by
       intro i
       induction i using Nat.strongRecOn with
       | _ i ihi =>
         intro hlt;cases tI:L.getD i false with
         | true=>rfl
         | false =>
           exfalso;have ho:ops[i]?=some (ops[i]'hlt):=bkQ hlt
           have:=xV hI.size ho tI (λe he hb=>by
             have h1:=xA Hz ho he hb;exact ihi e.on h1 (by omega))
           rw[qK] at this;cases this
     have:=all p hp;rw[hI.out] at this;cases this
   · obtain⟨o,ho,tI,fB,hlt⟩:=mem_ready hI.size hi
     obtain⟨c,hx,Fl,hfr⟩:=hI.st
     have hip:p < i->UI (Ig ops.toList []) i p=false:=by
       intro h1;cases hd:UI (Ig ops.toList []) i p with
       | false=>rfl
       | true =>
         have:=dR hI.closed (B6 ho) fB hd;rw[hI.out] at this;cases this
     have hMi:(L.setIfInBounds i true).getD i false=true:=by
       have:i < L.size:=by rw[hI.size];exact hlt
       simp[this]
     have hMn:∀j,j≠i->(L.setIfInBounds i true).getD j false=L.getD j false:=by
       intro j hj;simp only[bkD];rw[Array.getElem?_setIfInBounds_ne (λe=>hj e.symm)]
     have hle:∀j,L.getD j false=true->(L.setIfInBounds i true).getD j false=true:=by
       intro j hj;by_cases e:j=i;subst e;exact hMi;rw[hMn j e];exact hj
     have eW:OV ops.toList (λj=>(L.setIfInBounds i true).getD j false):=by
       intro j y hy hj e he hb;by_cases ej:j=i;subst ej;rw[B6 ho] at hy;cases hy;exact hle _ (fB e he hb);have hj2:L.getD j false=true:=by rw[<- hMn j ej];exact hj
       exact hle _ (hI.closed j y hy hj2 e he hb)
     have arA:uU (λj=>(L.setIfInBounds i true).getD j false) ops.size=fuel:=by
       have:=(aeR (L:=λj=>L.getD j false) (M:=λj=>(L.setIfInBounds i true).getD j false) tI hMi hMn ops.size).1 hlt;omega
     have kN:=afE (f0:=f0) (vals:=vals) (L:=λj=>L.getD j false) (M:=λj=>(L.setIfInBounds i true).getD j false) Hz hI.closed ho tI hMi hMn
     have wC:∀x∈o.op.operands,kE G c w (IJ f0 (Cb ops) vals (λ_=>true) i) a.eval x:=by
       intro x hxo v hv;cases x with
       | tmp t =>
         have arP:t∈o.looksAt ops:=by
           unfold bqG;rw[bjK];left;rw[List.mem_filterMap];exact⟨.tmp t,Array.mem_toList_iff.2 hxo,rfl⟩
         have he:=UK (f0:=f0) (vals:=vals) Hz hI.closed ho tI fB arP
         have:AZ G (IJ f0 (Cb ops) vals (λj=>L.getD j false) ops.size) (.tmp t)=some v:=by
           rw[<- hv];simp only[AZ,List.getD_eq_getElem?_getD,he]
         exact EB Fl hfr this
       | const z=>exact EB (fr:=IJ f0 (Cb ops) vals (λj=>L.getD j false) ops.size) Fl hfr hv
       | global g=>exact EB (fr:=IJ f0 (Cb ops) vals (λj=>L.getD j false) ops.size) Fl hfr hv
       | func f=>exact EB (fr:=IJ f0 (Cb ops) vals (λj=>L.getD j false) ops.size) Fl hfr hv
     have ZB:Cw ops (IJ f0 (Cb ops) vals (λ_=>true) i) o=Region.wanted o (yielded ops a.tmps):=by
       refine O0 (c:=c) (w:=w) (λj want hg d hd=>⟨_,hfr,?_⟩);refine UK Hz hI.closed ho tI fB ?_;unfold bqG;rw[bjK];right;rw[hg];simp[hd]
     have qC:Ny P ops o (wpAny P .any ops Q fuel (L.setIfInBounds i true)) Q a w->wpOp P ops Q i (wpAny P .any ops Q fuel (L.setIfInBounds i true)) a w:=by
       intro h;unfold wpOp;rw[ho];unfold Ny at h;simp only;split;rename_i hw;rw[if_pos hw] at h;exact .inl h;rename_i hw;rw[if_neg hw] at h;exact h
     refine qC ?_;by_cases hpe:i=p;subst hpe;refine aPQ o ho c w a _ _ Fl wC ZB ?_;intro u w' c' Z2 NG hu;exact hQ _ _ _ ⟨c',hx.trans Z2,NG,hI.defers,u,rfl,hu⟩;refine hl i o ho hpe hip c w a _ _ Fl wC ZB ?_;intro u w' c' Z2 NG hu;refine ih _ _ _ ⟨by simp[hI.size],eW,⟨c',hx.trans Z2,NG,?_⟩,by cases o.dst<;>exact hI.defers,?_⟩ arA
     rw[kN];exact Qm (hfr.mono Z2) hu;rw[hMn p (λe=>hpe e.symm)];exact hI.out
def acX(hm:P.follows .mixedOrders=true){id:Nat}{fr':List AV}(Hz:Nb ops=true)(hp:p < ops.size)
   (hl:∀i o,ops[i]?=some o->i≠p->(p < i->UI (Ig ops.toList []) i p=false)->Sound P G (.op ops o (IJ f0 (Cb ops) vals (λ_=>true) i) s0 (.ret (vals i)) s0))
   (aPQ:∀o,ops[p]?=some o->Sound P G (.op ops o (IJ f0 (Cb ops) vals (λ_=>true) p) s0 (.pan v) s1)):Sound P G (.code (.region id ops true) f0 s0 (.pan v) fr' s1):=by
 intro cx w a Q hs hf hd hQ;refine wp_region_any hm ?_;obtain⟨x,st⟩:=hs.same (uQ w)
 have gf:∀j,(bkZ ops.size false).getD j false=false:=by
   intro j;simp only[bkD,Array.getElem?_replicate];split<;>simp
 refine apD Hz hp hl aPQ Q hQ ops.size _ a _ ⟨by simp,?_,⟨_,x,st,?_⟩,hd,gf p⟩ ?_;intro i o ho hL;exact absurd (show(bkZ ops.size false).getD i false=true from hL) (by rw[gf i];simp)
 · have:IJ f0 (Cb ops) vals (λj=>(bkZ ops.size false).getD j false) ops.size=f0:=by
     have key:∀n,IJ f0 (Cb ops) vals (λj=>(bkZ ops.size false).getD j false) n=f0:=by
       intro n
       induction n with
       | zero=>rfl
       | succ n ih =>
         simp only[IJ,ih];rw[if_neg];rw[gf n];simp
     exact key _
   rw[this];exact hf.mono x
 · have key:∀n,uU (λj=>(bkZ ops.size false).getD j false) n=n:=by
     intro n
     induction n with
     | zero=>rfl
     | succ n ih =>
       simp only[uU,ih,gf n];simp
   exact key _
end
end AI
namespace AI
open Go Go.RowKit
abbrev HS:=Option (List Hn×List Cd×List AV×AS)
def aIL(cd:List Cd):HS->HS
 | some (hs,cd',fr,s)=>some (hs,cd++cd',fr,s)
 | none=>none
abbrev HC:=Option (AX×List Hn×List Cd×List AV×AS)
def mO(cd:List Cd):HC->HC
 | some (e,hs,cd',fr,s)=>some (e,hs,cd++cd',fr,s)
 | none=>none
def aAN(P:Program)(G:AK)(ops:Array Oper)(fr:List AV)(s:AS)(o:Oper):List Hn->HO
 | .p v s1::hs=>(match Cw ops fr o with
   | true=>(match W7 P G fr s o with
     | some (.ent f args)=>some (v,s1,hs,[.aHY f args s v s1])
     | some (.pan v')=>some (v',s,hs,[])
     | _=>none)
   | false=>none)
 | .q v pre tp SM tu::hs=>(match Cw ops fr o with
   | true=>(match W7 P G fr s o with
     | some (.ent f args)=>some (v,(s.Zg SM).VB tu,hs,[.Ru f args (.pan v) pre tp SM tu,.eqx (eH s pre) (PZ pre) (mJ s.F tp) (QO tp)])
     | _=>none)
   | false=>none)
 | _=>none
def aqS(P:Program)(G:AK)(ops:Array Oper):List Oper->List Hn->List AV->AS->HC
 | [],hs,fr,s=>some (.normal,hs,[],fr,s)
 | o::l,hs,fr,s=>(match aAN P G ops fr s o hs with
   | some (v,s1,TY,cd)=>some (.pan v,TY,cd,fr,s1)
   | none=>(match mN P G ops fr s o hs with
     | some (v,s1,TY,cd)=>mO cd (aqS P G ops l TY (IW fr o.dst v) s1)
     | none=>none))
def vT(P:Program)(G:AK)(ops:Array Oper):List Oper->List Hn->List AV->AS->HS
 | [],hs,fr,s=>some (hs,[],fr,s)
 | o::l,hs,fr,s=>(match vR P G ops fr s o hs with
   | some (v,s1,TY,cd)=>aIL cd (vT P G ops l TY (IW fr o.dst v) s1)
   | none=>none)
def steady(op:Op):Bool:=match quiet op with
 | true=>true
 | false=>(match op with
   | .call cl=>(match cl.callee with | .value _=>true | _=>false)
   | _=>false)
def SJ:List Oper->Bool
 | []=>true
 | o::l=>(match steady o.op with | true=>SJ l | false=>false)
def aWN:HS->HC
 | some (hs,cd,fr,s)=>some (.normal,hs,cd,fr,s)
 | none=>none
def aWM(P:Program)(G:AK)(ops:Array Oper)(hs:List Hn)(fr:List AV)(s:AS):HC:=match rsv P ops.toList with
 | some r=>(match hTr P G ops ops.toList s.nx hs fr (s.hold r) with
   | some (hs',cd,t,fr',s')=>(match Mt G ops s.nx ops.toList t with
     | true=>(match cC P ops t s' s.nx r with
       | true=>some (.normal,hs',cd,fr',s')
       | false=>none)
     | false=>none)
   | none=>none)
 | none=>none
def aqM(P:Program)(G:AK)(ops:Array Oper)(c:Nat)(hs:List Hn)(fr:List AV)(s:AS):HC:=match blW c ops.size with
 | true=>(match XA (Ig ops.toList []) c ops.toList 0 with
   | true=>(match akC P G ops c ops.toList 0 hs fr s with
     | some (hs',cd,_,fr',s')=>some (.normal,hs',cd,fr',s')
     | none=>none)
   | false=>none)
 | false=>none
def aIH(P:Program)(G:AK)(ops:Array Oper)(hs:List Hn)(fr:List AV)(s:AS):HC:=match akA P G ops ops.toList hs fr s with
 | some (hs',cd,t,Ts,fr',s')=>(match xS G ops (Ig ops.toList []) Ts ops.toList t 0 with
   | true=>some (.normal,hs',cd,fr',s')
   | false=>none)
 | none=>none
abbrev HQ:=Option (List AV×List Hn×List Cd×Option (AV×AS))
def qL(v:AV)(cd:List Cd):HQ->HQ
 | some (vs,hs,cd2,r)=>some (v::vs,hs,cd++cd2,r)
 | none=>none
def aIP(r:AV×AS)(cd:List Cd):HQ->HQ
 | some (vs,hs,cd2,none)=>some (.sc undef::vs,hs,cd++cd2,some r)
 | _=>none
def behind(ms:List Nat)(p i:Nat):Bool:=match blW p i with
 | true=>UI ms i p
 | false=>false
def eR(P:Program)(G:AK)(ops:Array Oper)(ms:List Nat)(p:Nat)(s:AS):List Oper->Nat->List Hn->List AV->HQ
 | [],_,hs,_=>some ([],hs,[],none)
 | o::l,i,hs,fr=>(match bjO i p with
   | true=>(match aAN P G ops fr s o hs with
     | some (v,s2,mR,cd)=>aIP (v,s2) cd (eR P G ops ms p s l (i+1) mR (IW fr o.dst (.sc undef)))
     | none=>none)
   | false=>(match behind ms p i with
     | true=>qL (.sc undef) [] (eR P G ops ms p s l (i+1) hs (IW fr o.dst (.sc undef)))
     | false=>(match steady o.op with
       | true=>(match vR P G ops fr s o hs with
         | some (v,_,mR,cd)=>qL v cd (eR P G ops ms p s l (i+1) mR (IW fr o.dst v))
         | none=>none)
       | false=>none)))
def aqU(P:Program)(G:AK)(ops:Array Oper)(p:Nat)(hs:List Hn)(fr:List AV)(s:AS):HC:=match eR P G ops (Ig ops.toList []) p s ops.toList 0 hs fr with
 | some (_,mR,cd,some (v,s2))=>some (.pan v,mR,cd,fr,s2)
 | _=>none
def aIJ(P:Program)(G:AK)(ops:Array Oper)(fr:List AV)(s:AS):List Hn->HC
 | .zq p::hs=>aqU P G ops p hs fr s
 | .z c::hs=>aqM P G ops c hs fr s
 | .za::hs=>aIH P G ops hs fr s
 | hs=>(match SJ ops.toList with
   | true=>aWN (vT P G ops ops.toList hs fr s)
   | false=>aWM P G ops hs fr s)
def aqW(P:Program)(G:AK)(ops:Array Oper)(d:Bool)(hs:List Hn)(fr:List AV)(s:AS):HC:=match d with
 | false=>aqS P G ops ops.toList hs fr s
 | true=>(match Nb ops with
   | true=>aIJ P G ops fr s hs
   | false=>none)
def N0(P:Program)(G:AK):Code->List Hn->List AV->AS->HC
 | .skip,hs,fr,s=>some (.normal,hs,[],fr,s)
 | .exit id,hs,fr,s=>some (.exit id,hs,[],fr,s)
 | .ret,hs,fr,s=>some (.ret,hs,[],fr,s)
 | .seq x y,hs,fr,s=>(match N0 P G x hs fr s with
   | some (.normal,TY,cd,Yi,s1)=>mO cd (N0 P G y TY Yi s1)
   | r=>r)
 | .cond q x y,hs,fr,s=>(match AJ G fr q with
   | some (.sc (.bool true))=>N0 P G x hs fr s
   | some (.sc (.bool false))=>N0 P G y hs fr s
   | _=>none)
 | .block id c,hs,fr,s=>(match N0 P G c hs fr s with
   | some (e,TY,cd,Yi,s1)=>some (F3 id e,TY,cd,Yi,s1)
   | none=>none)
 | .region _ ops d,hs,fr,s=>(match hs with
   | .n l::hs=>(match nzs l fr s with
     | some (fr2,s2)=>aqW P G ops d hs fr2 s2
     | none=>none)
   | .f id b b2::hs=>(match look id s.h with
     | some b0=>mO [.eqx [some b0] [some b] [] [],.rd s.nr b b2] (aqW P G ops d hs fr ⟨Ta id b2 s.h,s.nx,(s.nr,0)::s.F,s.nr+1⟩)
     | none=>none)
   | hs=>aqW P G ops d hs fr s)
 | _,_,_,_=>none
section
variable {P:Program} {G:AK} {ops:Array Oper}
def afG{fr:List AV}{s s1:AS}{o:Oper}{hs hs':List Hn}{v:AV}{cd:List Cd}(h:aAN P G ops fr s o hs=some (v,s1,hs',cd))(hc:Tb P G cd):J P G (XS P G) H0 (.op ops o fr s (.pan v) s1):=by
 unfold aAN at h;split at h;rw[Of] at h;split at h;rename_i hw;split at h;rename_i h1;cases h;exact .T7 hw h1 (.ext hc.1);rename_i h1;cases h;exact .aJO hw h1;cases h;cases h;rw[Of] at h;split at h;rename_i hw;split at h;rename_i h1;cases h;exact .T7 hw h1 (.ext (hc.1 s hc.2.1.1 hc.2.1.2));cases h;cases h;cases h
def aAL{l:List Oper}{k:Nat}(hk:l=ops.toList.drop k){hs hs':List Hn}{fr fr':List AV}{s s':AS}{e:AX}{cd:List Cd}(h:aqS P G ops l hs fr s=some (e,hs',cd,fr',s'))(hc:Tb P G cd):J P G (XS P G) H0 (.ops ops (List.range' k l.length) fr s e fr' s'):=by
 induction l generalizing k hs fr s cd with
 | nil=>simp only[aqS] at h;cases h;exact .auI
 | cons o l ih =>
   obtain⟨k1,k2⟩:=drop_cons hk;simp only[aqS] at h;split at h;rename_i v s1 TY cd1 h1;cases h;rw[Yy,bqC];exact .auJ (by rw[<- biZ];exact k1) (afG h1 hc);split at h;rename_i v s1 TY cd1 h1;unfold mO at h;split at h;rename_i e2 mR cd2 fr2 s2 h2;cases h;obtain⟨c1,c2⟩:=hc.WY;rw[Yy,bqC];exact .agW (by rw[<- biZ];exact k1) (QU h1 c1) (ih k2 h2 c2);cases h;cases h
def aAM{l:List Oper}{q:Nat}(Fl:SJ l=true){hs hs':List Hn}{fr fr':List AV}{s s':AS}{cd:List Cd}(h:vT P G ops l hs fr s=some (hs',cd,fr',s'))(hc:Tb P G cd):s'=s/\∃t,U0 P G (XS P G) H0 ops q l fr s t fr' s/\∀x∈t,x.2.1=s:=by
 induction l generalizing hs fr cd s with
 | nil=>simp only[vT] at h;cases h;exact⟨rfl,[],.nil,λx hx=>by cases hx⟩
 | cons o l ih =>
   simp only[SJ] at Fl;split at Fl
   · rename_i qO
     simp only[vT] at h;split at h
     · rename_i v s1 TY cd1 h1
       unfold aIL at h;split at h
       · rename_i mR cd2 fr2 s2 h2
         cases h;obtain⟨c1,c2⟩:=hc.WY;obtain⟨h1,hA⟩:=UM h1;have hj:=QU h1 c1
         have hna:BM o.op=false:=by
           cases ha:BM o.op with
           | false=>rfl
           | true=>obtain⟨e,he⟩:=Ld ha;rw[he] at qO;simp[steady,quiet] at qO
         have TY:s1=s:=by
           cases hq:quiet o.op with
           | true=>exact(Kf hq hj).1
           | false =>
             unfold steady at qO;rw[hq] at qO;simp only at qO;split at qO;rename_i cl Zz;split at qO;rename_i f He;unfold mN at h1;split at h1;unfold hDo at h1;rw[Zz] at h1;simp only[He] at h1;unfold eO at h1;split at h1;split at h1;cases h1;rfl;cases h1;have:=hA (by rw[Zz];simp[Pa,He]);simp[qS] at this;have:=hA (by rw[Zz];simp[Pa,He]);simp[qS] at this;have:=hA (by rw[Zz];simp[Pa,He]);simp[qS] at this;cases h1;cases h1;rfl;cases qO;cases qO
         subst TY;obtain⟨e,t,ht,Gu⟩:=ih Fl h2 c2;subst e
         exact⟨rfl,_,.cons hna hj ht,λx hx=>by
           rcases biX.1 hx with rfl | hx
           rfl;exact Gu x hx⟩
       cases h
     cases h
   cases Fl
def Y7{l:List Oper}(Fl:SJ l=true){i:Nat}{o:Oper}(ho:l[i]?=some o):steady o.op=true:=by
 induction l generalizing i with
 | nil=>simp at ho
 | cons x l ih =>
   simp only[SJ] at Fl;split at Fl;rename_i qO;cases i with
   | zero=>simp at ho;subst ho;exact qO
   | succ i=>exact ih Fl (by simpa using ho)
   cases Fl
def aaT{X:Yl}{H:UY}{id:Nat}{fr fr':List AV}{s:AS}{t:List (List AV×AS×AV)}(Hz:Nb ops=true)(Fl:SJ ops.toList=true)(h:U0 P G X H ops s.nx ops.toList fr s t fr' s)(Gu:∀x∈t,x.2.1=s):J P G X H (.code (.region id ops true) fr s .normal fr' s):=by
 have hlen:t.length=ops.size:=by rw[h.len,bjF]
 obtain⟨h0,Xs⟩:=h.at
 have hsa:∀i,FQ t s i=s:=by
   intro i;unfold FQ;split;rename_i x hx;exact Gu x (bcH hx);rfl
 have abK:∀i o,ops[i]?=some o->Cb ops i=o.dst:=λi o ho=>by unfold Cb;rw[ho];rfl
 obtain⟨TW,eY⟩:=h.pY (Cb ops) (KT t) fr 0 rfl (λi o ho=>by rw[bcD];exact abK i o (by rw[<- biZ];exact ho)) (λi=>.inl (by rw[bcD]));rw[bcD,bjF] at TW
 have hna:∀(i:Nat) (o:Oper),ops[i]?=some o->BM o.op=false:=by
   intro i o ho;have:=Y7 Fl (B6 ho);cases ha:BM o.op with
   | false=>rfl
   | true=>obtain⟨e,he⟩:=Ld ha;rw[he] at this;simp[steady,quiet] at this
 have hj:∀i o,ops[i]?=some o->J P G X H (.op ops o (IJ fr (Cb ops) (KT t) (λ_=>true) i) s (.ret (KT t i)) s):=by
   intro i o ho;obtain⟨fi,h1,h2⟩:=Xs i o (B6 ho);have:=eY i _ h1;simp only[bcD] at this;rcases h2 with ⟨_,h2⟩ | ⟨h2,_⟩
   rw[<- this];rw[hsa,hsa] at h2;exact h2;rw[hna i o ho] at h2;cases h2
 have key:=J.draw (P:=P) (G:=G) (X:=X) (H:=H) (id:=id) (f0:=fr) (s0:=s) [] (KT t) (λ_=>s) rfl Hz (λi o ho _=>hj i o ho) (λi o ho hq=>⟨rfl,by
   obtain⟨_,h2⟩:=Kf hq (hj i o ho);rcases h2 with h2 | ⟨hw,h2⟩
   exact .inl h2;exact .inr ⟨hw,λk _ _=>h2⟩⟩) (λi o e ho he=>by have:=hna i o ho;rw[he] at this;cases this)
 rw[<- TW] at key;exact key
def vS{fr:List AV}{s s1:AS}{o:Oper}{hs TY:List Hn}{v:AV}{cd:List Cd}(qO:steady o.op=true)(h:vR P G ops fr s o hs=some (v,s1,TY,cd))(hc:Tb P G cd):J P G (XS P G) H0 (.op ops o fr s (.ret v) s):=by
 obtain⟨h1,hA⟩:=UM h;have hj:=QU h1 hc
 have TY:s1=s:=by
   cases hq:quiet o.op with
   | true=>exact(Kf hq hj).1
   | false =>
     unfold steady at qO;rw[hq] at qO;simp only at qO;split at qO;rename_i cl Zz;split at qO;rename_i f He;unfold mN at h1;split at h1;unfold hDo at h1;rw[Zz] at h1;simp only[He] at h1;unfold eO at h1;split at h1;split at h1;cases h1;rfl;cases h1;have:=hA (by rw[Zz];simp[Pa,He]);simp[qS] at this;have:=hA (by rw[Zz];simp[Pa,He]);simp[qS] at this;have:=hA (by rw[Zz];simp[Pa,He]);simp[qS] at this;cases h1;cases h1;rfl;cases qO;cases qO
 rw[TY] at hj;exact hj
def aqC{f0:List AV}{dst:Nat->Option Tmp}{vals:Nat->AV}{k:Nat}:IJ f0 dst vals (λ_=>true) (k+1)=IW (IJ f0 dst vals (λ_=>true) k) (dst k) (vals k):=by
 simp only[IJ,if_true]
def aqT{p:Nat}{s:AS}{f0:List AV}{vals:Nat->AV}:∀{l:List Oper} {i:Nat} {hs hs':List Hn} {fr:List AV} {vs:List AV} {cd:List Cd} {r:Option (AV×AS)},eR P G ops (Ig ops.toList []) p s l i hs fr=some (vs,hs',cd,r)->l=ops.toList.drop i->Tb P G cd->fr=IJ f0 (Cb ops) vals (λ_=>true) i->(∀j,vals (i+j)=vs.getD j (.sc undef)) ->
   (∀j o,i<=j->ops[j]?=some o->j≠p->(p < j->UI (Ig ops.toList []) j p=false)->J P G (XS P G) H0 (.op ops o (IJ f0 (Cb ops) vals (λ_=>true) j) s (.ret (vals j)) s)) /\
   (i<=p->∀v s2,r=some (v,s2)->∃o,ops[p]?=some o/\J P G (XS P G) H0 (.op ops o (IJ f0 (Cb ops) vals (λ_=>true) p) s (.pan v) s2))/\(p < i->r=none):=by
 intro l
 induction l with
 | nil =>
   intro i hs hs' fr vs cd r h hl hc hfr hv;simp only[eR] at h;cases h
   have hsz:ops.size<=i:=by
     have:=congrArg List.length hl;simp only[List.length_nil,List.length_drop,bjF] at this;omega
   exact⟨λj o hj ho=>by have:=(aOA.1 ho).1;omega,(λ_ v s2 e=>by cases e),λ_=>rfl⟩
 | cons o l ih =>
   intro i hs hs' fr vs cd r h hl hc hfr hv;obtain⟨k1,k2⟩:=drop_cons hl;have ho:ops[i]?=some o:=by rw[<- biZ];exact k1
   have hd:Cb ops i=o.dst:=by unfold Cb;rw[ho];rfl
   have next:∀{v0:AV} {vs2:List AV},vs=v0::vs2->vals i=v0/\IW fr o.dst v0=IJ f0 (Cb ops) vals (λ_=>true) (i+1)/\∀j,vals (i+1+j)=vs2.getD j (.sc undef):=by
     intro v0 vs2 e;subst e;have h0:vals i=v0:=by have:=hv 0;simpa using this
     refine⟨h0,?_,λj=>?_⟩;rw[aqC,hd,h0,hfr];have:=hv (j+1);rw[show i+1+j=i+(j+1) by omega,this];simp
   simp only[eR] at h;split at h
   · rename_i hb
     have hip:=bkB hb;split at h
     · rename_i v s2 mR cd1 h1
       unfold aIP at h;split at h
       · rename_i vs2 hs3 cd2 h2
         cases h;obtain⟨c1,c2⟩:=hc.WY;obtain⟨n1,n2,n3⟩:=next rfl
         obtain⟨q1,q2,q3⟩:=ih h2 k2 c2 n2 n3;refine⟨λj o' hj Zy hjp akD=>?_,λ_ v' s2' e=>?_,λh=>by omega⟩;exact q1 j o' (by omega) Zy hjp akD;cases e;refine⟨o,hip▸ho,?_⟩;have:=afG h1 c1;rw[hfr,hip] at this;exact this
       cases h
     cases h
   · rename_i hb
     have hip:=bmI hb;split at h
     · rename_i hbe
       unfold qL at h;split at h
       · rename_i vs2 hs3 cd2 r2 h2
         cases h;obtain⟨n1,n2,n3⟩:=next rfl
         obtain⟨q1,q2,q3⟩:=ih h2 k2 hc n2 n3;unfold behind at hbe;split at hbe;rename_i hlt;have hlt:p < i:=bcG hlt;refine⟨λj o' hj Zy hjp akD=>?_,λh=>by omega,λ_=>q3 (by omega)⟩;by_cases e:j=i;subst e;rw[akD hlt] at hbe;cases hbe;exact q1 j o' (by omega) Zy hjp akD;cases hbe
       cases h
     · split at h
       · rename_i Fl
         split at h
         · rename_i v s1 mR cd1 h1
           unfold qL at h;split at h
           · rename_i vs2 hs3 cd2 r2 h2
             cases h;obtain⟨c1,c2⟩:=hc.WY;obtain⟨n1,n2,n3⟩:=next rfl
             obtain⟨q1,q2,q3⟩:=ih h2 k2 c2 n2 n3;refine⟨λj o' hj Zy hjp akD=>?_,λh v' s2' e=>q2 (by omega) v' s2' e,λh=>q3 (by omega)⟩;by_cases e:j=i;subst e;rw[ho] at Zy;cases Zy;have:=vS Fl h1 c1;rw[hfr] at this;rw[n1];exact this;exact q1 j o' (by omega) Zy hjp akD
           cases h
         cases h
       cases h
def aqV{id p:Nat}(Hz:Nb ops=true){hs hs':List Hn}{fr fr':List AV}{s s':AS}{e:AX}{cd:List Cd}(h:aqU P G ops p hs fr s=some (e,hs',cd,fr',s'))(hc:Tb P G cd):J P G (XS P G) H0 (.code (.region id ops true) fr s e fr' s'):=by
 unfold aqU at h;split at h;rename_i vs mR cd1 v s2 h1;cases h;obtain⟨q1,q2,_⟩:=aqT (f0:=fr) (vals:=λj=>vs.getD j (.sc undef)) h1 rfl hc rfl (λj=>by rw[bcD]);obtain⟨o,ho,hj⟩:=q2 (bkI _) _ _ rfl;refine .sem λhm=>acX (vals:=λj=>vs.getD j (.sc undef)) hm Hz (aOA.1 ho).1 (λi o' Zy hi hd=>sound (TU hm) (q1 i o' (bkI _) Zy hi hd)) (λo' Zy=>?_);rw[ho] at Zy;cases Zy;exact sound (TU hm) hj;cases h
def qH{ops:Array Oper}{id:Nat}{d:Bool}{hs hs':List Hn}{fr fr':List AV}{s s':AS}{e:AX}{cd:List Cd}(h:aqW P G ops d hs fr s=some (e,hs',cd,fr',s'))(hc:Tb P G cd):J P G (XS P G) H0 (.code (.region id ops d) fr s e fr' s'):=by
 unfold aqW at h;cases d with
 | false =>
   simp only at h;have:=aAL (ops:=ops) (k:=0) (by simp) h hc;refine .region ?_;rw[bjF] at this;rw[List.range_eq_range'];exact this
 | true =>
   simp only at h;split at h;rename_i Hz;unfold aIJ at h;split at h;exact aqV Hz h hc;unfold aqM at h;split at h;rename_i Yz;split at h;rename_i hl;split at h;rename_i Rk;cases h;exact ajU Hz Yz hl Rk hc;cases h;cases h;cases h;unfold aIH at h;split at h;rename_i Rk;split at h;rename_i hrd;cases h;exact aoZ Hz Rk hrd hc;cases h;cases h;split at h;rename_i Fl;unfold aWN at h;split at h;rename_i h1;cases h;obtain⟨e,t,ht,Gu⟩:=aAM (q:=s.nx) Fl h1 hc;subst e;exact aaT Hz Fl ht Gu;cases h;unfold aWM at h;split at h;rename_i r hr;split at h;rename_i TY cd1 t Yi s1 htr;split at h;rename_i hi;split at h;rename_i arW;cases h;exact apC Hz hr htr hc hi arW;cases h;cases h;cases h;cases h;cases h
def aqL(c:Code){hs hs':List Hn}{fr fr':List AV}{s s':AS}{e:AX}{cd:List Cd}(h:N0 P G c hs fr s=some (e,hs',cd,fr',s'))(hc:Tb P G cd):J P G (XS P G) H0 (.code c fr s e fr' s'):=by
 induction c generalizing hs hs' fr fr' s s' e cd with
 | skip=>simp only[N0] at h;cases h;exact .skip
 | exit id=>simp only[N0] at h;cases h;exact .exit
 | ret=>simp only[N0] at h;cases h;exact .ret
 | seq x y ihx ihy =>
   simp only[N0] at h;cases hx:N0 P G x hs fr s with
   | none=>rw[hx] at h;cases h
   | some r =>
     obtain⟨e1,TY,cd1,Yi,s1⟩:=r;rw[hx] at h;cases e1 with
     | normal =>
       simp only at h;unfold mO at h;split at h;rename_i e2 mR cd2 fr2 s2 h2;cases h;obtain⟨c1,c2⟩:=hc.WY;exact .seq (ihx hx c1) (ihy h2 c2);cases h
     | exit id=>simp only at h;cases h;exact .adJ (ihx hx hc) (by simp)
     | ret=>simp only at h;cases h;exact .adJ (ihx hx hc) (by simp)
     | pan v=>simp only at h;cases h;exact .adJ (ihx hx hc) (by simp)
 | cond q x y ihx ihy =>
   simp only[N0,Cl] at h;split at h;rename_i hq;exact .cond hq (ihx h hc);rename_i hq;exact .cond hq (ihy h hc);cases h
 | block id c ih =>
   simp only[N0] at h;split at h;rename_i h1;cases h;exact .block (ih h1 hc);cases h
 | region id ops d =>
   simp only[N0] at h;split at h;split at h;rename_i hz;exact .jJ (λcx w vs h1 h2=>auC hz cx w vs h1 h2) (qH h hc);cases h;split at h;rename_i b0 hb;unfold mO at h;split at h;rename_i h1;cases h;obtain⟨c1,c2⟩:=hc.WY;refine .jJ (λcx w vs hs hf=>?_) (qH h1 c2);have hbb:b0=_:=bjE (List.cons.inj c1.1.1).1;subst hbb;obtain⟨x,st⟩:=hs.tok;exact⟨_,x,st.acW hb (λo ho=>c1.2.1 _ _ _ (by simp[hs.I8]) ho),hf.mono x⟩;cases h;cases h;exact qH h hc
 | _=>simp only[N0] at h;cases h
def UN:Code->Bool
 | .loop _=>true
 | .seq x y=>UN x||UN y
 | .cond _ x y=>UN x||UN y
 | .block _ c=>UN c
 | _=>false
abbrev HP:=Option (Code×List Hn×List Cd×List AV×AS)
end
end AI
namespace AI
open Go Go.RowKit
structure PC(P:Program)(G:AK) where
 hn:Hn
 cd:List Cd
 ok:Tb P G cd
def pHs{P:Program}{G:AK}:List (PC P G)->List Hn
 | []=>[]
 | p::l=>p.hn::pHs l
def T8{P:Program}{G:AK}:List (PC P G)->List Cd
 | []=>[]
 | p::l=>p.cd++T8 l
def Tb.join{P:Program}{G:AK}{l m:List Cd}(h:Tb P G l)(k:Tb P G m):Tb P G (l++m):=by
 induction l with
 | nil=>exact k
 | cons c l ih=>exact⟨h.1,ih h.2⟩
def Pk{P:Program}{G:AK}(l:List (PC P G)):Tb P G (T8 l):=by
 induction l with
 | nil=>trivial
 | cons p l ih=>exact p.ok.join ih
inductive KI where
 | code (c:Code)
 | V0 (id:Nat)
 | loop (c:Code)
def CQ(P:Program)(G:AK):List KI->(AX->List AV->AS->Prop)->AX->List AV->AS->Prop
 | [],Q=>Q
 | .code k::ks,Q=>aKH P G (XS P G) H0 k (CQ P G ks Q)
 | .V0 id::ks,Q=>Eu id (CQ P G ks Q)
 | .loop c::ks,Q=>aJJ P G (XS P G) H0 c (CQ P G ks Q)
inductive Sq where
 | at (id:Nat) (c:Code) (ks:List KI)
 | fin (e:AX)
abbrev HR:=Option (Sq×List Hn×List Cd×List AV×AS)
def aqR(cd:List Cd):HR->HR
 | some (c,hs,cd',fr,s)=>some (c,hs,cd++cd',fr,s)
 | none=>none
def P7(r:Code->List KI->List Hn->List AV->AS->HR):List KI->AX->List Hn->List AV->AS->HR
 | [],e,hs,fr,s=>some (.fin e,hs,[],fr,s)
 | .code k::ks,.normal,hs,fr,s=>r k ks hs fr s
 | .code _::ks,e,hs,fr,s=>P7 r ks e hs fr s
 | .V0 id::ks,.exit S4,hs,fr,s=>(match bjO S4 id with
   | true=>P7 r ks .normal hs fr s
   | false=>P7 r ks (.exit S4) hs fr s)
 | .V0 _::ks,e,hs,fr,s=>P7 r ks e hs fr s
 | .loop c::ks,.normal,hs,fr,s=>(match hs with
   | .sb (.map [] 0) (.map [] 0)::hs=>r c (.loop c::ks) hs fr s
   | hs=>(match ks with
     | .V0 id::ks=>some (.at id c ks,hs,[],fr,s)
     | _=>none))
 | .loop _::ks,e,hs,fr,s=>P7 r ks e hs fr s
def U4(P:Program)(G:AK):Nat->Code->List KI->List Hn->List AV->AS->HR
 | 0,_,_,_,_,_=>none
 | n+1,c,ks,hs,fr,s=>(match UN c with
   | false=>(match N0 P G c hs fr s with
     | some (e,TY,cd,Yi,s1)=>aqR cd (P7 (U4 P G n) ks e TY Yi s1)
     | none=>none)
   | true=>(match c with
     | .seq x y=>U4 P G n x (.code y::ks) hs fr s
     | .block id (.loop c)=>(match hs with
       | .sb (.map [] 0) (.map [] 0)::hs=>U4 P G n c (.loop c::.V0 id::ks) hs fr s
       | hs=>some (.at id c ks,hs,[],fr,s))
     | .block id c=>U4 P G n c (.V0 id::ks) hs fr s
     | .cond q x y=>(match AJ G fr q with
       | some (.sc (.bool true))=>U4 P G n x ks hs fr s
       | some (.sc (.bool false))=>U4 P G n y ks hs fr s
       | _=>none)
     | _=>none))
section
variable {P:Program} {G:AK}
def SqQ(P:Program)(G:AK)(Q:AX->List AV->AS->Prop)(fr:List AV)(s:AS):Sq->Prop
 | .at id c ks=>WL P G (XS P G) H0 c fr s (Eu id (CQ P G ks Q))
 | .fin e=>Q e fr s
def PS{k:Code}{ks:List KI}{Q:AX->List AV->AS->Prop}{e:AX}{fr:List AV}{s:AS}(he:e≠.normal)(h:CQ P G ks Q e fr s):CQ P G (.code k::ks) Q e fr s:=by
 cases e with
 | normal=>exact absurd rfl he
 | exit id=>exact h
 | ret=>exact h
 | pan v=>exact h
def PT{k:Code}{ks:List KI}{Q:AX->List AV->AS->Prop}{e:AX}{fr:List AV}{s:AS}(he:e≠.normal)(h:CQ P G ks Q e fr s):CQ P G (.loop k::ks) Q e fr s:=by
 cases e with
 | normal=>exact absurd rfl he
 | exit id=>exact h
 | ret=>exact h
 | pan v=>exact h
def afH{r:Code->List KI->List Hn->List AV->AS->HR}{Q:AX->List AV->AS->Prop}
   (hr:∀(c:Code) (ks:List KI) {sp:Sq} {hs hs':List Hn} {fr fr':List AV} {s s':AS} {cd:List Cd},r c ks hs fr s=some (sp,hs',cd,fr',s')->Tb P G cd->SqQ P G Q fr' s' sp->W P G (XS P G) H0 c fr s (CQ P G ks Q)) :
   ∀(ks:List KI) (e:AX) {sp:Sq} {hs hs':List Hn} {fr fr':List AV} {s s':AS} {cd:List Cd},P7 r ks e hs fr s=some (sp,hs',cd,fr',s')->Tb P G cd->SqQ P G Q fr' s' sp->CQ P G ks Q e fr s:=by
 intro ks
 induction ks with
 | nil=>intro e sp hs hs' fr fr' s s' cd h hc hk;simp only[P7] at h;cases h;exact hk
 | cons k ks ih =>
   intro e sp hs hs' fr fr' s s' cd h hc hk;cases k with
   | code c =>
     cases e with
     | normal=>simp only[P7] at h;exact hr c ks h hc hk
     | exit id=>simp only[P7] at h;exact PS (by simp) (ih _ h hc hk)
     | ret=>simp only[P7] at h;exact PS (by simp) (ih _ h hc hk)
     | pan v=>simp only[P7] at h;exact PS (by simp) (ih _ h hc hk)
   | V0 id =>
     show CQ P G ks Q (F3 id e) fr s;cases e with
     | normal=>simp only[P7] at h;exact ih _ h hc hk
     | ret=>simp only[P7] at h;exact ih _ h hc hk
     | pan v=>simp only[P7] at h;exact ih _ h hc hk
     | exit S4 =>
       simp only[P7] at h;split at h;rename_i hb;have:=beq_true hb;subst this;have e1:F3 S4 (.exit S4)=.normal:=by simp[F3]
       rw[e1];exact ih _ h hc hk;rename_i hb;have:=beq_false hb;have e1:F3 id (.exit S4)=.exit S4:=by simp[F3,this]
       rw[e1];exact ih _ h hc hk
   | loop c =>
     cases e with
     | normal =>
       simp only[P7] at h;split at h;exact aeH (hr c (.loop c::ks) h hc hk);split at h;cases h;exact hk;cases h
     | exit id=>simp only[P7] at h;exact PT (by simp) (ih _ h hc hk)
     | ret=>simp only[P7] at h;exact PT (by simp) (ih _ h hc hk)
     | pan v=>simp only[P7] at h;exact PT (by simp) (ih _ h hc hk)
def afI{Q:AX->List AV->AS->Prop}:∀(n:Nat) (c:Code) (ks:List KI) {sp:Sq} {hs hs':List Hn} {fr fr':List AV} {s s':AS} {cd:List Cd},U4 P G n c ks hs fr s=some (sp,hs',cd,fr',s')->Tb P G cd->SqQ P G Q fr' s' sp->W P G (XS P G) H0 c fr s (CQ P G ks Q):=by
 intro n
 induction n with
 | zero=>intro c ks sp hs hs' fr fr' s s' cd h;simp only[U4] at h;cases h
 | succ n ih =>
   intro c ks sp hs hs' fr fr' s s' cd h hc hk;simp only[U4] at h;split at h;split at h;rename_i e TY cd1 Yi s1 h1;unfold aqR at h;split at h;rename_i h2;cases h;obtain⟨c1,c2⟩:=hc.WY;exact⟨_,_,_,aqL c h1 c1,afH ih ks e h2 c2 hk⟩;cases h;cases h;split at h;exact aUT (ih _ _ h hc hk);split at h;exact oU (anA (aeH (ih _ (.loop _::.V0 _::ks) h hc hk)));cases h;exact oU (anA hk);exact oU (ih _ _ h hc hk);rw[Cl] at h;split at h;rename_i hq;exact ayR hq (ih _ _ h hc hk);rename_i hq;exact ayQ hq (ih _ _ h hc hk);cases h;cases h
end
end AI
namespace AI
open Go Go.RowKit
def sub:Code->List Nat->Code
 | c,[]=>c
 | .seq x _,0::l=>sub x l
 | .seq _ y,_::l=>sub y l
 | .cond _ x _,0::l=>sub x l
 | .cond _ _ y,_::l=>sub y l
 | .block _ c,_::l=>sub c l
 | .loop c,_::l=>sub c l
 | c,_=>c
def Ci(fn:Func):Code:=fn.body.getD .skip
def obv(n:Nat):AV->Bool
 | .sc _=>true
 | .any=>true
 | .ptr id _=>blW id n
 | .mp id=>blW id n
 | .msl id _ _=>blW id n
 | _=>false
theorem aRO{n m:Nat}{a:AV}(h:obv n a=true):Fits n m a a:=by
 refine .under ?_;cases a<;>simp only[obv] at h<;>first | rfl | (cases h;done) | exact decide_eq_true (bcG h)
structure FP(n m:Nat) where
 a:AV
 b:AV
 h:Fits n m a b
structure FB(n m:Nat) where
 a:Ao
 b:Ao
 h:Tw n m a b
def fpA{n m:Nat}:List (FP n m)->List AV
 | []=>[]
 | p::l=>p.a::fpA l
def fpB{n m:Nat}:List (FP n m)->List AV
 | []=>[]
 | p::l=>p.b::fpB l
def fbA{n m:Nat}:List (FB n m)->List Ao
 | []=>[]
 | p::l=>p.a::fbA l
def fbB{n m:Nat}:List (FB n m)->List Ao
 | []=>[]
 | p::l=>p.b::fbB l
abbrev MR:=Option (List AV×List AV)
def agH(b:AV):MR->MR
 | some (l,as)=>some (b::l,as)
 | none=>none
def atC(a b:AV):MR->MR
 | some (l,as)=>some (b::l,a::as)
 | none=>none
def atD(r:List AV->MR)(n:Nat)(a:AV)(bs:List AV):MR:=match obv n a with
 | true=>agH a (r bs)
 | false=>none
def aRB(r:List AV->MR)(a:AV):List AV->MR
 | b::bs=>atC a b (r bs)
 | []=>none
def agI(r:List AV->MR)(a:AV)(bs:List AV):MR:=match Xd a with
 | true=>agH .any (r bs)
 | false=>none
def lD(n:Nat):List AV->Nat->List Nat->List AV->MR
 | [],_,_,[]=>some ([],[])
 | [],_,_,_::_=>none
 | a::l,i,[],bs=>agI (lD n l (i+2) []) a bs
 | a::l,i,t::ts,bs=>(match bjO t i with
   | true=>atD (lD n l (i+2) ts) n a bs
   | false=>(match bjO t (i+1) with
     | true=>aRB (lD n l (i+2) ts) a bs
     | false=>agI (lD n l (i+2) (t::ts)) a bs))
section
variable {n m:Nat} {r:List AV->MR} {l:List AV} (hr:∀(fps:List (FP n m)) l2,r (fpB fps)=some (l2,fpA fps)->KF n m l l2) {a:AV} {fps:List (FP n m)} {l2:List AV}
include hr
theorem atE(h:atD r n a (fpB fps)=some (l2,fpA fps)):KF n m (a::l) l2:=by
 unfold atD at h;split at h
 · rename_i ho
   unfold agH at h;split at h
   · rename_i l3 as h1
     cases h;exact .cons (aRO ho) (hr fps _ h1)
   · cases h
 · cases h
theorem aBR(h:aRB r a (fpB fps)=some (l2,fpA fps)):KF n m (a::l) l2:=by
 cases fps with
 | nil=>cases h
 | cons p fps =>
   simp only[fpB,aRB] at h;unfold atC at h;split at h
   · rename_i l3 as h1
     simp only[fpA,aOE,biY,bnR] at h;obtain⟨rfl,rfl,rfl⟩:=h;exact .cons p.h (hr fps _ h1)
   · cases h
theorem wN(h:agI r a (fpB fps)=some (l2,fpA fps)):KF n m (a::l) l2:=by
 unfold agI at h;split at h
 · rename_i hd
   unfold agH at h;split at h
   · rename_i l3 as h1
     cases h;exact .cons (.drop hd) (hr fps _ h1)
   · cases h
 · cases h
end
theorem aBW{n m:Nat}:∀{l:List AV} {i:Nat} {ts:List Nat} {fps:List (FP n m)} {l2:List AV},lD n l i ts (fpB fps)=some (l2,fpA fps)->KF n m l l2:=by
 intro l
 induction l with
 | nil =>
   intro i ts fps l2 h;cases fps with
   | nil=>simp only[fpB,lD] at h;cases h;exact .nil
   | cons p fps=>simp only[fpB,lD] at h;cases h
 | cons a l ih =>
   intro i ts fps l2 h;cases ts with
   | nil=>simp only[lD] at h;exact wN (λfps l2 h=>ih h) h
   | cons t ts =>
     simp only[lD] at h;split at h
     · exact atE (λfps l2 h=>ih h) h
     · split at h
       · exact aBR (λfps l2 h=>ih h) h
       · exact wN (λfps l2 h=>ih h) h
abbrev BR:=Option (List (Nat×Ao)×List Ao)
def aHT(id:Nat)(a b:Ao):BR->BR
 | some (l,as)=>some ((id,b)::l,a::as)
 | none=>none
def aaL:List (Nat×Ao)->List Ao->BR
 | [],[]=>some ([],[])
 | e::l,b::bs=>aHT e.1 e.2 b (aaL l bs)
 | _,_=>none
theorem azB{n m:Nat}:∀{l:List (Nat×Ao)} {fbs:List (FB n m)} {l2:List (Nat×Ao)},aaL l (fbB fbs)=some (l2,fbA fbs)->(∀k,Kx l k->Kx l2 k)/\∀id b,look id l2=some b->∃b',look id l=some b'/\Tw n m b' b:=by
 intro l
 induction l with
 | nil =>
   intro fbs l2 h;cases fbs with
   | nil=>simp only[fbB,aaL] at h;cases h;exact⟨λ_ _=>trivial,λid b h=>by cases h⟩
   | cons p fbs=>simp only[fbB,aaL] at h;cases h
 | cons e l ih =>
   intro fbs l2 h;cases fbs with
   | nil=>simp only[fbB,aaL] at h;cases h
   | cons p fbs =>
     simp only[fbB,aaL] at h;unfold aHT at h;split at h
     · rename_i l3 as h1
       simp only[fbA,aOE,biY,bnR] at h;obtain⟨rfl,h2,rfl⟩:=h;obtain⟨hd,hl⟩:=ih h1;refine⟨λk hk=>⟨hk.1,hd _ hk.2⟩,λid b hb=>?_⟩;simp only[look] at hb ⊢;split at hb
       · cases hb;exact⟨e.2,rfl,by rw[h2];exact p.h⟩
       · exact hl id b hb
     · cases h
def TO(m:Nat):List (Nat×Nat)->List (Nat×Nat)
 | []=>[]
 | x::l=>match blW x.1 m with
   | true=>x::TO m l
   | false=>TO m l
theorem vI{m r n:Nat}{l:List (Nat×Nat)}(h:DY r (TO m l)=some n):DY r l=some n/\r < m:=by
 induction l with
 | nil=>cases h
 | cons x l ih =>
   simp only[TO] at h;split at h
   · rename_i hb
     simp only[DY] at h ⊢;split at h
     · rename_i h1
       have:=beq_true h1;subst this;cases h;exact⟨rfl,bcG hb⟩
     · exact ih h
   · rename_i hb
     obtain⟨h1,h2⟩:=ih h;refine⟨?_,h2⟩;simp only[DY];split
     · rename_i h3
       have:=beq_true h3;subst this;rw[show blW x.1 m=true from blI h2] at hb;cases hb
     · exact h1
section
variable {P:Program} {G:AK}
def Frg(G:AK)(s0:AS)(fr':List AV)(s':AS)(fr2:List AV)(s2:AS):Prop:=∀(cx:Cx) (w:World) (c':Cx) (w':World) (vs:List Value),Ext cx w c' w'->St G cx w s0->St G c' w' s'->Cv c' w' fr' vs->∃c2,Ext cx w c2 w'/\St G c2 w' s2/\Cv c2 w' fr2 vs
abbrev RR:=Option (List AV×AS×List AV×List Ao)
def aSM(live:List Nat)(n m:Nat)(fr':List AV)(s':AS)(bs:List AV)(cs:List Ao):RR :=
 match lD n fr' 0 live bs with
 | some (fr2,as)=>(match aaL (Qp n s'.h) cs with
   | some (h2,cas)=>some (fr2,⟨h2,n,TO m s'.F,m⟩,as,cas)
   | none=>none)
 | none=>none
theorem vD{l:List (Nat×Ao)}{N n:Nat}(h:Kx l N):Kx (Qp n l) n:=by
 induction l generalizing N with
 | nil=>trivial
 | cons e l ih =>
   simp only[Qp];split
   · exact ih h.2
   · rename_i hb
     refine⟨?_,h.2⟩;have:¬n<=e.1:=λhle=>by rw[blI hle] at hb;cases hb
     omega
def I9(P:Program)(G:AK)(L:Code)(s0:AS)(Q:AX->List AV->AS->Prop):AX->List AV->AS->Prop
 | .normal,fr',s'=>∃fr2 s2,Frg G s0 fr' s' fr2 s2/\WL P G (XS P G) H0 L fr2 s2 Q
 | .exit id,fr',s'=>∃fr2 s2,Frg G s0 fr' s' fr2 s2/\Q (.exit id) fr2 s2
 | e,fr',s'=>Q e fr' s'
theorem aaC{L:Code}{fr:List AV}{s:AS}{Q:AX->List AV->AS->Prop}(h:W P G (XS P G) H0 L fr s (I9 P G L s Q)):WL P G (XS P G) H0 L fr s Q:=by
 obtain⟨e,fr',s',hj,h2⟩:=h;cases e with
 | normal =>
   obtain⟨fr2,s2,hf,e3,fr3,s3,h3,h4⟩:=h2;exact⟨e3,fr3,s3,.loopN (.scope hj (λ_ h=>by cases h) (λcx w c' w' vs hx hs hs' hfr=>hf cx w c' w' vs hx hs hs' hfr)) h3,h4⟩
 | exit id =>
   obtain⟨fr2,s2,hf,h4⟩:=h2;exact⟨_,_,_,.loopX (.scope hj (λ_ h=>by cases h) (λcx w c' w' vs hx hs hs' hfr=>hf cx w c' w' vs hx hs hs' hfr)) (by simp),h4⟩
 | ret=>exact⟨_,_,_,.loopX hj (by simp),h2⟩
 | pan v=>exact⟨_,_,_,.loopX hj (by simp),h2⟩
def Zq(P:Program)(fn:Func)(m:Nat)(Q:AX->List AV->AS->Prop)(v:AV)(s2:AS):Prop:=∀fr s,F8 P s fn fr=some v->s.cut m=s2->Q .ret fr s
def lW(m:Nat)(Q:AX->List AV->AS->Prop)(v:AV)(s2:AS):Prop:=∀fr s,s.cut m=s2->Q (.pan v) fr s
theorem amD{ks:List KI}{Q:AX->List AV->AS->Prop}{fr:List AV}{s:AS}(h:Q .ret fr s):CQ P G ks Q .ret fr s:=by
 induction ks with
 | nil=>exact h
 | cons k ks ih=>cases k<;>exact ih
theorem amC{ks:List KI}{Q:AX->List AV->AS->Prop}{fr:List AV}{s:AS}{v:AV}(h:Q (.pan v) fr s):CQ P G ks Q (.pan v) fr s:=by
 induction ks with
 | nil=>exact h
 | cons k ks ih=>cases k<;>exact ih
theorem Zq.body{fn:Func}{m:Nat}{Q:CR->AS->Prop}{v:AV}{s2:AS}(h:Q (.ret v) s2):Zq P fn m (S0 P fn m Q) v s2:=λfr s h1 h2=>⟨v,h1,by rw[h2];exact h⟩
theorem lW.body{fn:Func}{m:Nat}{Q:CR->AS->Prop}{v:AV}{s2:AS}(h:Q (.pan v) s2):lW m (S0 P fn m Q) v s2:=λfr s h2=>by show Q (.pan v) (s.cut m);rw[h2];exact h
theorem Zq.rnd{fn:Func}{m:Nat}{L:Code}{s0:AS}{Q:AX->List AV->AS->Prop}{v:AV}{s2:AS}(h:Zq P fn m Q v s2):Zq P fn m (I9 P G L s0 Q) v s2:=h
theorem lW.rnd{m:Nat}{L:Code}{s0:AS}{Q:AX->List AV->AS->Prop}{v:AV}{s2:AS}(h:lW m Q v s2):lW m (I9 P G L s0 Q) v s2:=h
def aZL(P:Program)(fn:Func)(m:Nat):HR->Option (List Cd×AV×AS)
 | some (.fin .ret,[],cd,fr,s)=>(match F8 P s fn fr with
   | some v=>some (cd,v,s.cut m)
   | none=>none)
 | _=>none
def K9(P:Program)(G:AK)(_l:List (PC P G))(Q:AX->List AV->AS->Prop)(r:HR)(X:Prop):Prop:=∀sp cd fr' s',r=some (sp,[],cd,fr',s')->Tb P G cd->SqQ P G Q fr' s' sp->X
theorem yE{c:Code}{fr:List AV}{s:AS}{Q:AX->List AV->AS->Prop}(n:Nat)(l:List (PC P G)):K9 P G l Q (U4 P G n c [] (pHs l) fr s) (W P G (XS P G) H0 c fr s Q):=λ_ _ _ _ h hc hk=>afI n c [] h hc hk
theorem go_ret{r:HR}{X:Prop}{Q:AX->List AV->AS->Prop}(fn:Func)(m:Nat){l:List (PC P G)}(v:AV)(s2:AS)(R:K9 P G l Q r X)(h:aZL P fn m r=some (T8 l,v,s2))(k:Zq P fn m Q v s2):X:=by
 unfold aZL at h;split at h
 · rename_i cd fr' s'
   split at h
   · rename_i v' hv
     simp only[aOE,biY] at h;obtain⟨rfl,rfl,rfl⟩:=h;exact R _ _ _ _ rfl (Pk l) (k _ _ hv rfl)
   · cases h
 · cases h
def pQ(a:AV):AV:=match Xd a with
 | true=>.any
 | false=>a
theorem mI{a:AV}{c:Cx}{w:World}{v:Value}(hr:Rp c w a v):Rp c w (pQ a) v:=by
 unfold pQ;split
 · rename_i h;exact .any (VX hr h)
 · exact hr
inductive Lp(γ δ ρ:Type) where
 | nx (x:γ)
 | ex (x:δ)
 | rt (r:ρ)
section loops
variable {α γ δ ρ:Type}
def NX(k:γ->Option (δ⊕ρ)):Lp γ δ ρ->Option (δ⊕ρ)
 | .nx x=>k x
 | .ex d=>some (.inl d)
 | .rt r=>some (.inr r)
def Bs(body:Nat->α->γ->Option (Lp γ δ ρ))(done:γ->δ):List α->Nat->γ->Option (δ⊕ρ)
 | [],_,x=>some (.inl (done x))
 | y::l,i,x=>(body i y x).bind (NX (Bs body done l (i+1)))
def DP(body:γ->Option (Lp γ δ ρ)):Nat->γ->Option (δ⊕ρ)
 | 0,_=>none
 | n+1,x=>(body x).bind (NX (DP body n))
def Cs{β:Type}(n:Nat)(x:Option β):Option β:=if n<=9223372036854775807 then x else none
theorem aQW{β:Type}{n:Nat}{x:Option β}{r:β}(h:Cs n x=some r):n<=9223372036854775807/\x=some r:=by
 unfold Cs at h;split at h
 · rename_i h1;exact⟨h1,h⟩
 · cases h
theorem pF{β κ:Type}{m:Option κ}{k:κ->Option β}{r:β}(h:m.bind k=some r):∃y,m=some y/\k y=some r:=by
 cases m with
 | none=>cases h
 | some y=>exact⟨y,rfl,h⟩
def LQ(Qx:δ->Prop)(Qr:ρ->Prop):δ⊕ρ->Prop
 | .inl x=>Qx x
 | .inr r=>Qr r
def RQ(Qn:γ->Prop)(Qx:δ->Prop)(Qr:ρ->Prop):Lp γ δ ρ->Prop
 | .nx x=>Qn x
 | .ex x=>Qx x
 | .rt r=>Qr r
theorem ayO{J:Type}{L:Code}{Q:AX->List AV->AS->Prop}{body:Nat->α->γ->Option (Lp γ δ ρ)}{done:γ->δ}(l:List α)(F:Nat->γ->J->List AV)(S:Nat->γ->J->AS)(Ok:J->Prop)(Qx:δ->Prop)(Qr:ρ->Prop)
   (hz:∀i x j,Ok j->l.length<=i->Qx (done x)->WL P G (XS P G) H0 L (F i x j) (S i x j) Q)
   (hs:∀i y x j r,Ok j->l[i]?=some y->i < l.length->body i y x=some r->RQ (λx'=>∀j',Ok j'->WL P G (XS P G) H0 L (F (i+1) x' j') (S (i+1) x' j') Q) Qx Qr r->WL P G (XS P G) H0 L (F i x j) (S i x j) Q) :
   ∀{x:γ} {res:δ⊕ρ} (i0:Nat),Bs body done (l.drop i0) i0 x=some res->LQ Qx Qr res->∀j,Ok j->WL P G (XS P G) H0 L (F i0 x j) (S i0 x j) Q:=by
 have key:∀(k:List α) (i:Nat) (x:γ) (res:δ⊕ρ),l.drop i=k->Bs body done k i x=some res->LQ Qx Qr res->∀j,Ok j->WL P G (XS P G) H0 L (F i x j) (S i x j) Q:=by
   intro k
   induction k with
   | nil =>
     intro i x res hd h hq j hj;simp only[Bs,aOE] at h;subst h;exact hz i x j hj (List.drop_eq_nil_iff.1 hd) hq
   | cons y k ih =>
     intro i x res hd h hq j hj
     have hi:i < l.length:=by
       rcases blL i l.length with h1 | h1
       · exact h1
       · rw[List.drop_eq_nil_of_le h1] at hd;cases hd
     have hy:l[i]?=some y:=by rw[<- List.head?_drop,hd];rfl
     have hd2:l.drop (i+1)=k:=by rw[<- List.tail_drop,hd];rfl
     obtain⟨r,hb,h⟩:=pF h;refine hs i y x j r hj hy hi hb ?_;cases r with
     | nx x'=>exact λj' hj'=>ih (i+1) x' res hd2 h hq j' hj'
     | ex d=>simp only[NX,aOE] at h;subst h;exact hq
     | rt v=>simp only[NX,aOE] at h;subst h;exact hq
 intro x res i0 h hq j hj;exact key _ i0 x res rfl h hq j hj
theorem ayP{J:Type}{L:Code}{Q:AX->List AV->AS->Prop}{body:γ->Option (Lp γ δ ρ)}(F:γ->J->List AV)(S:γ->J->AS)(Ok:J->Prop)(Qx:δ->Prop)(Qr:ρ->Prop)
   (hs:∀x j r,Ok j->body x=some r->RQ (λx'=>∀j',Ok j'->WL P G (XS P G) H0 L (F x' j') (S x' j') Q) Qx Qr r->WL P G (XS P G) H0 L (F x j) (S x j) Q) :
   ∀(n:Nat) {x:γ} {res:δ⊕ρ},DP body n x=some res->LQ Qx Qr res->∀j,Ok j->WL P G (XS P G) H0 L (F x j) (S x j) Q:=by
 intro n
 induction n with
 | zero=>intro x res h;cases h
 | succ n ih =>
   intro x res h hq j hj;obtain⟨r,hb,h⟩:=pF h;refine hs x j r hj hb ?_;cases r with
   | nx x'=>exact λj' hj'=>ih h hq j' hj'
   | ex d=>simp only[NX,aOE] at h;subst h;exact hq
   | rt v=>simp only[NX,aOE] at h;subst h;exact hq
def JI(body:γ->Option (Lp γ δ ρ))(x:γ):Option (δ⊕ρ):=open Classical in if h:∃n r,DP body n x=some r then some (bmW (blB h)) else none
theorem azZ{body:γ->Option (Lp γ δ ρ)}{x:γ}{r:δ⊕ρ}(h:JI body x=some r):∃n,DP body n x=some r:=by
 unfold JI at h;split at h
 · rename_i hx
   have:=blB (blB hx);rw[bjE h] at this;exact⟨_,this⟩
 · cases h
theorem fH{body:γ->Option (Lp γ δ ρ)}:∀{n m:Nat} {x:γ} {r:δ⊕ρ},DP body n x=some r->n<=m->DP body m x=some r:=by
 intro n
 induction n with
 | zero=>intro m x r h;cases h
 | succ n ih =>
   intro m x r h hm;cases m with
   | zero=>omega
   | succ m =>
     obtain⟨a,ha,h⟩:=pF h;simp only[DP,ha,NF];cases a with
     | nx x'=>exact ih h (by omega)
     | ex d=>exact h
     | rt v=>exact h
theorem EI{body:γ->Option (Lp γ δ ρ)}{n:Nat}{x:γ}{r:δ⊕ρ}(h:DP body n x=some r):JI body x=some r:=by
 unfold JI;have hx:∃n r,DP body n x=some r:=⟨n,r,h⟩;rw[dif_pos hx];have h2:=blB (blB hx);have h3:=fH h (Nat.le_max_left n (bmW hx));have h4:=fH h2 (Nat.le_max_right n (bmW hx));rw[h3] at h4;rw[bjE h4]
end loops
end
end AI
