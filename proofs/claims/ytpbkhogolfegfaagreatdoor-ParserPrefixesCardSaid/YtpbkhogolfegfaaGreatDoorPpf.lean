/- Part of a proof: see the last text. -/
import Derived.Test.YtpbkhogolfegfaaGreatDoorPpe
set_option linter.unusedVariables false
set_option linter.unusedSimpArgs false
set_option linter.defProp false
noncomputable section
namespace AI
open Go Go.RowKit
def NX(op:Op):Bool:=match op with
 | .call cl=>(match cl.callee with | .value _=>true | _=>false)
 | _=>false
def QC(op:Op):Bool:=match op with
 | .call cl=>(match cl.callee with | .value _=>true | .builtin .append=>true | _=>false)
 | _=>false
def amF{op:Op}(h:NX op=true):QC op=true:=by
 unfold NX at h;split at h;split at h;rename_i Iy;simp[QC,Iy];cases h;cases h
def dK:List Hn->Bool
 | .a _ _::_=>true
 | .u _ _ _ _ _::_=>true
 | .cn _ _ _ _ _::_=>true
 | .mb _ _::_=>true
 | _=>false
def iF(P:Program)(G:Bc)(ops:Array Oper)(fr:List AV)(s:AS)(o:Oper)(hs:List Hn):HO:=match QC o.op with
 | true=>(match dK hs with
   | true=>none
   | false=>ZW P G ops fr s o hs)
 | false=>ZW P G ops fr s o hs
def X9{P:Program}{G:Bc}{ops:Array Oper}{fr:List AV}{s:AS}{o:Oper}{hs:List Hn}{r:AV×AS×List Hn×List Cd}(h:iF P G ops fr s o hs=some r):ZW P G ops fr s o hs=some r/\(QC o.op=true->dK hs=false):=by
 unfold iF at h;split at h;split at h;cases h;rename_i h1;exact⟨h,λ_=>h1⟩;rename_i h1;exact⟨h,λh2=>by rw[h1] at h2;cases h2⟩
def Sw{P:Program}{G:Bc}{ops:Array Oper}{fr:List AV}{s:AS}{o:Oper}{hs:List Hn}{r:AV×AS×List Hn×List Cd}(h:iF P G ops fr s o hs=some r):ZW P G ops fr s o hs=some r/\(NX o.op=true->dK hs=false):=⟨(X9 h).1,λh1=>(X9 h).2 (amF h1)⟩
abbrev HT:=Option (List Hn×List Cd×List (List AV×AS×AV)×List AV×AS)
def vR(cd:List Cd)(x:List AV×AS×AV):HT->HT
 | some (hs,cd',t,fr,s)=>some (hs,cd++cd',x::t,fr,s)
 | none=>none
def hTr(P:Program)(G:Bc)(ops:Array Oper):List Oper->Nat->List Hn->List AV->AS->HT
 | [],_,hs,fr,s=>some (hs,[],[],fr,s)
 | o::l,q,hs,fr,s=>(match B1 o.op with
   | true=>vR [] (fr,s,Pa ops fr o q) (hTr P G ops l (q+1) hs (Jw fr o.dst (Pa ops fr o q)) s)
   | false=>(match iF P G ops fr s o hs with
     | some (v,s1,RE,cd)=>vR cd (fr,s,v) (hTr P G ops l q RE (Jw fr o.dst v) s1)
     | none=>none))
def aAZ(q0:Nat):Option AV->Bool
 | some (.el _)=>true
 | some (.ptr id _)=>Nat.blt id q0
 | _=>false
def aDE(q0:Nat):Option AV->Bool
 | some (.ptr id _)=>Nat.ble q0 id
 | _=>false
def slV:Option AV->Bool
 | some (.sl _ _ _)=>true
 | some (.sc (.string _))=>true
 | _=>false
def mpV(q0:Nat):Option AV->Bool
 | some (.mp id)=>Nat.blt id q0
 | _=>false
def indep(G:Bc)(q0:Nat)(fr:List AV)(o:Oper):Bool:=match o.op with
 | .load _ a=>aAZ q0 (AZ G fr a)
 | .lookup _ m _ _=>mpV q0 (AZ G fr m)
 | .store _ a _=>aDE q0 (AZ G fr a)
 | .call cl=>(match cl.callee with
   | .value _=>true
   | .builtin .append=>true
   | .builtin .len=>(match cl.args.toList with
     | [x]=>slV (AZ G fr x)
     | _=>false)
   | _=>quiet o.op)
 | .alloc _=>true
 | op=>quiet op
def L7(G:Bc)(ops:Array Oper)(q0:Nat):List Oper->List (List AV×AS×AV)->Bool
 | o::os,t::ts=>(match CC ops t.1 o with
   | false=>L7 G ops q0 os ts
   | true=>(match indep G q0 t.1 o with
     | true=>L7 G ops q0 os ts
     | false=>false))
 | _,_=>true
def mL(q0:Nat)(s s':AS):Prop:=∀id,id < q0->s'.get id=s.get id
def JM{id Re:Nat}{b:Bo}(h:Re≠id):∀(l:List (Nat×Bo)),look Re (tX id b l)=look Re l
 | []=>rfl
 | e::l=>by
   simp only[tX];split;rename_i hb;have hb:=beq_true hb;simp only[look]
   have h1:Nat.beq id Re=false:=by cases hq:Nat.beq id Re with
     | true=>exact absurd (beq_true hq).symm h
     | false=>rfl
   rw[hb,h1];simp only[look,JM h l]
section
variable {P:Program} {G:Bc} {ops:Array Oper}
def alL{q0:Nat}{fr:List AV}{s s1:AS}{o:Oper}{hs hs':List Hn}{v:AV}{cd:List Cd}(h:ZW P G ops fr s o hs=some (v,s1,hs',cd))(hA:QC o.op=true->dK hs=false)(hi:CC ops fr o=true->indep G q0 fr o=true)(hc:Rq P G cd)(ha:B1 o.op=false):mL q0 s s1:=by
 intro id hid;have hj:=Pj h hc;cases hq:quiet o.op with
 | true=>rw[(Ka hq hj).1]
 | false =>
   unfold ZW at h;split at h;rename_i hw;have hi:=hi hw;unfold indep at hi;split at hi;rename_i t a ho;rw[ho] at hq;cases hq;rename_i t m k ok ho;rw[ho] at hq;cases hq;rename_i t a x ho;unfold vO at h;rw[ho] at h;simp only at h
   have h1:∃a' x',Bg G fr a=some a'/\Bg G fr x=some x'/\L2 P s t a' x'=some s1:=by
     rcases Vn h hc with ⟨a',x',h2,h3,h4,_⟩ | h2
     exact⟨a',x',h2,h3,h4⟩;have h1:=Vm h2;rw[Nn] at h1;unfold Qo at h1;rw[ho] at h1;simp only at h1;split at h1;rename_i a' x' yT Tz;obtain⟨s',Gt,he⟩:=map_some h1;injection he with he1 he2
     subst he2;exact⟨a',x',yT,Tz,Gt⟩;cases h1
   rw[Cv] at hi;obtain⟨a',x',yT,Tz,Gt⟩:=h1;rw[yT] at hi;unfold aDE at hi;split at hi;rename_i Re off NK;cases NK;unfold L2 at Gt;split at Gt;rename_i i id2 aLV hi2 adA;cases adA;split at Gt;split at Gt;cases Gt;have:=Nat.le_of_ble_eq_true hi;exact JM (by omega) _;cases Gt;cases Gt;cases Gt;cases hi;rename_i cl ho;split at hi;rename_i f Iy;unfold vO at h;rw[ho] at h;simp only[Iy] at h;unfold X8 at h;split at h;split at h;cases h;rfl;cases h;have:=hA (by rw[ho];simp[QC,Iy]);simp[dK] at this;have:=hA (by rw[ho];simp[QC,Iy]);simp[dK] at this;have:=hA (by rw[ho];simp[QC,Iy]);simp[dK] at this;cases h;rename_i Iy;unfold vO at h;rw[ho] at h;simp only[Iy] at h;have no:=hA (by rw[ho];simp[QC,Iy]);split at h;split at h;split at h;unfold acG at h;split at h;simp[dK] at no;simp[dK] at no;cases h;rfl;cases h;rfl;split at h;cases h;rfl;split at h;split at h;cases h;rfl;cases h;cases h;cases h;cases h;cases h;cases h;cases h;rename_i Iy;rw[ho] at hq;simp[quiet,Iy] at hq;rw[ho] at hq;rw[ho,hq] at hi;cases hi;rename_i e ho;rw[ho] at ha;cases ha;rw[hq] at hi;cases hi;cases h;rfl
def mL.refl(q0:Nat)(s:AS):mL q0 s s:=λ_ _=>rfl
def mL.trans{q0:Nat}{a b c:AS}(h:mL q0 a b)(k:mL q0 b c):mL q0 a c:=λid hid=>(k id hid).trans (h id hid)
def avQ{q0:Nat}{l:List Oper}{q:Nat}{hs hs':List Hn}{fr fr':List AV}{s s':AS}{cd:List Cd}{t:List (List AV×AS×AV)}(h:hTr P G ops l q hs fr s=some (hs',cd,t,fr',s'))(hc:Rq P G cd)(hi:L7 G ops q0 l t=true) :
   SJ P G (XS P G) H0 ops q l fr s t fr' s'/\(∀x∈t,mL q0 s x.2.1)/\mL q0 s s':=by
 induction l generalizing q hs fr s cd t with
 | nil=>simp only[hTr] at h;cases h;exact⟨.nil,(λx hx=>by cases hx),mL.refl _ _⟩
 | cons o l ih =>
   simp only[hTr] at h;cases ha:B1 o.op with
   | true =>
     rw[ha] at h;simp only at h;unfold vR at h;split at h;rename_i Z0 vD t2 fr2 s2 h2;cases h
     have hi2:L7 G ops q0 l t2=true:=by
       simp only[L7] at hi;split at hi;exact hi;split at hi;exact hi;cases hi
     obtain⟨k1,k2,k3⟩:=ih h2 (hc.Ws).2 hi2;refine⟨.alloc ha k1,λx hx=>?_,k3⟩;rcases List.mem_cons.1 hx with rfl | hx
     exact mL.refl _ _;exact k2 x hx;cases h
   | false =>
     rw[ha] at h;simp only at h;split at h;rename_i v s1 RE yP h1;unfold vR at h;split at h;rename_i Z0 vD t2 fr2 s2 h2;cases h;obtain⟨c1,c2⟩:=hc.Ws
     have hi1:CC ops fr o=true->indep G q0 fr o=true:=by
       intro hw;simp only[L7,hw] at hi;split at hi;assumption;cases hi
     have hi2:L7 G ops q0 l t2=true:=by
       simp only[L7] at hi;split at hi;exact hi;split at hi;exact hi;cases hi
     have hf:=alL (Sw h1).1 (X9 h1).2 hi1 c1 ha;obtain⟨k1,k2,k3⟩:=ih h2 c2 hi2;refine⟨.cons ha (Pj (Sw h1).1 c1) k1,λx hx=>?_,hf.trans k3⟩;rcases List.mem_cons.1 hx with rfl | hx
     exact mL.refl _ _;exact hf.trans (k2 x hx);cases h;cases h
def vZ{q0:Nat}{os:List Oper}{ts:List (List AV×AS×AV)}(h:L7 G ops q0 os ts=true){i:Nat}{o:Oper}{x:List AV×AS×AV}(ho:os[i]?=some o)(hx:ts[i]?=some x)(hw:CC ops x.1 o=true):indep G q0 x.1 o=true:=by
 induction os generalizing ts i with
 | nil=>simp at ho
 | cons y os ih =>
   cases ts with
   | nil=>simp at hx
   | cons t ts =>
     simp only[L7] at h;cases i with
     | zero =>
       simp at ho hx;subst ho hx;rw[hw] at h;simp only at h;split at h;assumption;cases h
     | succ i =>
       have h2:L7 G ops q0 os ts=true:=by
         split at h;exact h;split at h;exact h;cases h
       exact ih h2 (by simpa using ho) (by simpa using hx)
def abR{q0:Nat}{fr:List AV}{s0 s s2:AS}{o:Oper}{v:AV}(hq:quiet o.op=true)(hr:reads o.op=true)(hi:indep G q0 fr o=true)(h1:mL q0 s0 s)(h2:mL q0 s0 s2)(h:Qo P G fr s o=some (.val v s)):Qo P G fr s2 o=some (.val v s2):=by
 unfold indep at hi;split at hi;rename_i t a ho;rw[Cv] at hi;unfold Qo at h ⊢;rw[ho] at h ⊢;simp only at h ⊢;obtain⟨v',h3,h4⟩:=map_some h;injection h4 with h4
 subst h4;obtain⟨b,h5,h6⟩:=bind_some h3;rw[h5] at hi ⊢;unfold aAZ at hi;split at hi;rename_i NK;cases NK;simp only[Option.bind_some];rw[show KY P s2 t (.el _)=KY P s t (.el _) from rfl,h6];rfl;rename_i id off NK;cases NK;have hid:id < q0:=Nat.le_of_ble_eq_true hi
 have:KY P s2 t (.ptr id off)=KY P s t (.ptr id off):=by
   simp only[KY];rw[h2 id hid,h1 id hid]
 simp only[Option.bind_some];rw[this,h6];rfl;cases hi
 · rename_i t m k ok ho
   rw[Cv] at hi;unfold Qo at h ⊢;rw[ho] at h ⊢;simp only at h ⊢;unfold mpV at hi;split at hi
   · rename_i id NK
     have hid:id < q0:=Nat.le_of_ble_eq_true hi;rw[NK] at h ⊢;cases hk:Bg G fr k with
     | none=>rw[hk] at h;cases h
     | some b =>
       rw[hk] at h;simp only at h ⊢;obtain⟨v',h3,h4⟩:=map_some h;injection h4 with h4
       subst h4
       have:Ji P s2 t (.mp id) b ok=Ji P s t (.mp id) b ok:=by
         unfold Ji;simp only;rw[h2 id hid,h1 id hid]
       rw[this,h3];rfl
   cases hi
 rename_i t a x ho;rw[ho] at hq;cases hq
 · rename_i cl ho
   split at hi;rename_i f Iy;rw[ho] at hq;simp[quiet,Iy] at hq;rename_i Iy;rw[ho] at hq;simp[quiet,Iy] at hq
   · rename_i Iy
     unfold Qo at h ⊢;rw[ho] at h ⊢;simp only[S4,Iy] at h ⊢;split at hi
     · rename_i x hx
       rw[hx] at h ⊢;cases ht:cl.argTypes.toList with
       | nil=>rw[ht] at h;cases h
       | cons t1 ts =>
         cases ts with
         | cons _ _=>rw[ht] at h;cases h
         | nil =>
           rw[ht] at h;simp only at h ⊢;obtain⟨v',h3,h4⟩:=map_some h;injection h4 with h4
           subst h4;obtain⟨b,h5,h6⟩:=bind_some h3;rw[Cv,h5] at hi;rw[h5];simp only[Option.bind_some]
           have:Wq P s2 t1 b=Wq P s t1 b:=by
             unfold slV at hi;split at hi
             · rename_i NK;cases NK;unfold Wq;split<;>first | rfl | (simp_all;done)
             · rename_i NK;cases NK;unfold Wq;split<;>first | rfl | (simp_all;done)
             cases hi
           rw[this,h6];rfl
     cases hi
   · rename_i hn1 hn2
     rw[ho] at hr;unfold reads at hr;simp only at hr
     first
       | (cases hr;done)
       | (split at hr
          rename_i Iy;exact absurd Iy hn2;cases hr)
 rename_i e ho;rw[ho] at hq;cases hq;rename_i hn1 hn2 hn3 hn4 hn5;exfalso;unfold reads at hr;split at hr;rename_i ho;exact hn1 _ _ ho;rename_i ho;exact hn2 _ _ _ _ ho;rename_i ho;exact hn4 _ ho;cases hr
def abC{id:Nat}{fr fr':List AV}{s s':AS}{r:List Bo}{t:List (List AV×AS×AV)}{hs hs':List Hn}{cd:List Cd}(HU:ME ops=true)(hr:rsv P ops.toList=some r)(h:hTr P G ops ops.toList s.nx hs fr (s.hold r)=some (hs',cd,t,fr',s'))(hc:Rq P G cd)(hi:L7 G ops s.nx ops.toList t=true)(adK:Xj P ops t s' s.nx r=true):J P G (XS P G) H0 (.code (.region id ops true) fr s .normal fr' s'):=by
 obtain⟨vX,aJS,aBT⟩:=avQ h hc hi;have hlen:t.length=ops.size:=by rw[vX.len,Array.length_toList]
 have yW:∀k,mL s.nx (s.hold r) (FR t s' k):=by
   intro k;unfold FR;split;rename_i x hx;exact aJS x (List.mem_of_getElem? hx);exact aBT
 obtain⟨h0,RD⟩:=vX.at;have nV:∀i o,ops[i]?=some o->Cr ops i=o.dst:=λi o ho=>by unfold Cr;rw[ho];rfl
 obtain⟨Yd,Ye⟩:=vX.cQ (Cr ops) (KD t) fr 0 rfl (λi o ho=>by rw[Nat.zero_add];exact nV i o (by rw[<- Array.getElem?_toList];exact ho)) (λi=>.inl (by rw[Nat.zero_add]));rw[Nat.zero_add,Array.length_toList] at Yd
 have Hz:∀(i:Nat) (o:Oper),ops[i]?=some o->B1 o.op=false->J P G (XS P G) H0 (.op ops o (Iz fr (Cr ops) (KD t) (λ_=>true) i) (FR t s' i) (.ret (KD t i)) (FR t s' (i+1))):=by
   intro i o ho mF;obtain⟨fi,h1,h2⟩:=RD i o (Cl ho);have:=Ye i _ h1;simp only[Nat.zero_add] at this;rcases h2 with ⟨_,h2⟩ | ⟨h2,_⟩
   rw[<- this];exact h2;rw[mF] at h2;cases h2
 have aBL:∀(i:Nat) (o:Oper),ops[i]?=some o->B1 o.op=true->FR t s' (i+1)=FR t s' i/\KD t i=Pa ops (Iz fr (Cr ops) (KD t) (λ_=>true) i) o (s.nx+rk ops i):=by
   intro i o ho dI;obtain⟨fi,h1,h2⟩:=RD i o (Cl ho);have:=Ye i _ h1;simp only[Nat.zero_add] at this;rcases h2 with ⟨h2,_⟩ | ⟨_,h2⟩
   rw[dI] at h2;cases h2;rw[<- this];exact h2
 have mF:∀o:Oper,quiet o.op=true->B1 o.op=false:=by
   intro o hq;cases dI:B1 o.op with
   | false=>rfl
   | true=>obtain⟨e,he⟩:=KR dI;rw[Q9 he] at hq;cases hq
 have hnl:∀o:Oper,calm o.op=false->B1 o.op=false:=by
   intro o hq;cases dI:B1 o.op with
   | false=>rfl
   | true=>unfold calm at hq;rw[dI] at hq;cases hq
 have hsn:FR t s' ops.size=s':=by
   unfold FR;rw[List.getElem?_eq_none (by omega)]
 have hsk:∀k,k<=ops.size->(t.map (λx=>x.2.1)++[s'])[k]?=some (FR t s' k):=by
   intro k hk;unfold FR;by_cases hkt:k < t.length;rw[List.getElem?_append_left (by simpa using hkt),List.getElem?_map,List.getElem?_eq_getElem hkt];rfl
   have:k=t.length:=by omega
   subst this;rw[List.getElem?_append_right (by simp)];simp
 have rO:∀l,l∈Nt ops.toList 0->Yw ops l:=by
   intro l hl;obtain⟨j,o',e,h5,h6⟩:=dR hl;rw[Nat.zero_add] at e;subst e;exact⟨o',by rw[<- Array.getElem?_toList];exact h5,h6⟩
 have key:=J.draw (P:=P) (G:=G) (X:=XS P G) (H:=H0) (id:=id) (f0:=fr) (s0:=s) r (KD t) (FR t s') h0 HU (λi o ho hl=>Hz i o ho (hnl o hl)) (λi o ho hq=>by
   obtain⟨h1,h2⟩:=Ka hq (Hz i o ho (mF o hq));refine⟨h1,?_⟩;rcases h2 with h2 | ⟨hw,h2⟩
   exact .inl h2
   · refine .inr ⟨hw,λk hk ZA=>?_⟩
     cases hrd:reads o.op with
     | false=>exact TP hq hrd h2 _
     | true =>
       obtain⟨fi,hti,_⟩:=RD i o (Cl ho);have yU:=Ye i _ hti;simp only[Nat.zero_add] at yU;have hin:=vZ hi (Cl ho) hti (by rw[yU];exact hw);rw[yU] at hin;exact abR hq hrd hin (yW i) (yW k) h2) (λi o e ho he=>by
   have dI:B1 o.op=true:=by rw[he];rfl
   obtain⟨h1,h2⟩:=aBL i o ho dI;refine⟨h1,?_⟩
   have hrk:rk ops i < r.length:=by
     rw[aoP hr];exact pK (Cl ho) dI (by rw[Array.length_toList];exact(Array.getElem?_eq_some_iff.1 ho).1)
   cases hw:CC ops (Iz fr (Cr ops) (KD t) (λ_=>true) i) o with
   | false=>unfold Pa at h2;rw[hw] at h2;exact .inl ⟨rfl,h2⟩
   | true =>
     unfold Pa at h2;rw[hw] at h2;obtain⟨fi,hti,_⟩:=RD i o (Cl ho);have yU:=Ye i _ hti;simp only[Nat.zero_add] at yU
     have hal:To P ops (Ij ops.toList []) (Nt ops.toList 0) (t.map (·.2.1)++[s']) ops.toList t 0 s.nx=true:=by
       unfold Xj at adK;split at adK;simp at hrk;exact adK
     obtain⟨z,hz,hbx⟩:=uQ hal (Cl ho) hti he (by rw[yU];exact hw);rw[Nat.zero_add] at hbx;exact .inr ⟨rfl,z,hz,hrk,h2,λk hk ZA=>vB hbx (hsk k hk) (by rw[Nat.zero_add];exact arG rO ZA)⟩)
 rw[<- Yd,hsn] at key;exact key
end
end AI
namespace AI
open Go Go.RowKit
def vS(P:Program)(G:Bc)(ops:Array Oper)(c:Nat):List Oper->Nat->List Hn->List AV->AS->HT
 | [],_,hs,fr,s=>some (hs,[],[],fr,s)
 | o::l,i,hs,fr,s=>(match (match Nat.beq i c with
     | true=>ZW P G ops fr s o hs
     | false=>iF P G ops fr s o hs) with
   | some (v,s1,RE,cd)=>vR cd (fr,s,v) (vS P G ops c l (i+1) RE (Jw fr o.dst v) s1)
   | none=>none)
def UG(ms:List Nat)(c:Nat):List Oper->Nat->Bool
 | [],_=>true
 | o::l,i=>(match Nat.beq i c with
   | true=>!calm o.op
   | false=>(match NX o.op with
     | true=>Nat.blt i c
     | false=>quiet o.op&&(!reads o.op||(Nat.blt i c&&Sr ms c i))))&&UG ms c l (i+1)
section
variable {P:Program} {G:Bc} {ops:Array Oper}
def Yn{ms:List Nat}{c:Nat}:∀{l:List Oper} {i j:Nat} {o:Oper},UG ms c l i=true->l[j]?=some o->(i+j=c->calm o.op=false)/\(i+j≠c->(NX o.op=true/\i+j < c)\/(quiet o.op=true/\(reads o.op=true->i+j < c/\Sr ms c (i+j)=true))):=by
 intro l
 induction l with
 | nil=>intro i j o h ho;simp at ho
 | cons x l ih =>
   intro i j o h ho;simp only[UG,Bool.and_eq_true] at h;cases j with
   | zero =>
     simp at ho;subst ho;have h1:=h.1;split at h1;rename_i hb;have:=Nat.eq_of_beq_eq_true hb;exact⟨λ_=>by simpa using h1,λhn=>absurd this hn⟩
     rename_i hb;have:=Nat.ne_of_beq_eq_false hb;refine⟨λhn=>absurd hn this,λ_=>?_⟩;split at h1;rename_i hv;exact .inl ⟨hv,Nat.le_of_ble_eq_true h1⟩;simp only[Bool.and_eq_true,Bool.or_eq_true,Bool.not_eq_true'] at h1;refine .inr ⟨h1.1,λhr=>?_⟩;rcases h1.2 with h2 | h2
     rw[hr] at h2;cases h2;exact⟨Nat.le_of_ble_eq_true h2.1,h2.2⟩
   | succ j =>
     have:=ih (i:=i+1) (j:=j) h.2 (by simpa using ho)
     rw[show i+(j+1)=i+1+j by omega];exact this
def Wd{ms:List Nat}{c:Nat}{l:List Oper}{i j:Nat}{o:Oper}(hl:UG ms c l i=true)(hj:l[j]?=some o):B1 o.op=false:=by
 have ho:=Yn hl hj;cases ha:B1 o.op with
 | false=>rfl
 | true =>
   obtain⟨e,he⟩:=KR ha;by_cases hic:i+j=c;have:=ho.1 hic;unfold calm at this;rw[ha] at this;simp at this;rcases ho.2 hic with ⟨h1,_⟩ | ⟨h1,_⟩
   rw[he] at h1;cases h1;rw[Q9 he] at h1;cases h1
def alM{fr:List AV}{s s1:AS}{o:Oper}{hs hs':List Hn}{v:AV}{cd:List Cd}(h:ZW P G ops fr s o hs=some (v,s1,hs',cd))(hv:NX o.op=true)(hA:dK hs=false):s1=s:=by
 unfold ZW at h;split at h;unfold NX at hv;split at hv;rename_i cl ho;split at hv;rename_i f Iy;unfold vO at h;rw[ho] at h;simp only[Iy] at h;unfold X8 at h;split at h;split at h;cases h;rfl;cases h;simp[dK] at hA;simp[dK] at hA;simp[dK] at hA;cases h;cases hv;cases hv;cases h;rfl
def alS{c q:Nat}{ms:List Nat}:∀{l:List Oper} {i:Nat} {hs hs':List Hn} {fr fr':List AV} {s s':AS} {cd:List Cd} {t:List (List AV×AS×AV)},vS P G ops c l i hs fr s=some (hs',cd,t,fr',s')->Rq P G cd->UG ms c l i=true->SJ P G (XS P G) H0 ops q l fr s t fr' s'/\∀j,j<=l.length->i+j<=c->FR t s' j=s:=by
 intro l
 induction l with
 | nil =>
   intro i hs hs' fr fr' s s' cd t h hc hl;simp only[vS] at h;cases h;exact⟨.nil,λj hj _=>by rfl⟩
 | cons o l ih =>
   intro i hs hs' fr fr' s s' cd t h hc hl;simp only[vS] at h;split at h
   · rename_i v s1 RE yP h1
     unfold vR at h;split at h
     · rename_i Z0 vD t2 fr2 s2 h2
       cases h;obtain⟨c1,c2⟩:=hc.Ws;have ho:=Yn (j:=0) hl rfl;have mF:B1 o.op=false:=Wd (j:=0) hl rfl
       have hl2:UG ms c l (i+1)=true:=by
         simp only[UG,Bool.and_eq_true] at hl;exact hl.2
       have h3:ZW P G ops fr s o hs=some (v,s1,RE,yP):=by
         split at h1;exact h1;exact(Sw h1).1
       have hj:=Pj h3 c1;obtain⟨k1,k2⟩:=ih h2 c2 hl2;refine⟨.cons mF hj k1,λj hjl hjc=>?_⟩;cases j with
       | zero=>rfl
       | succ j =>
         have e1:FR ((fr,s,v)::t2) s' (j+1)=FR t2 s' j:=by unfold FR;simp
         rw[e1,k2 j (by simpa using hjl) (by omega)]
         have hic:i+0≠c:=by omega
         rcases ho.2 hic with ⟨hv,_⟩ | ⟨hq,_⟩
         split at h1;rename_i hb;have:=Nat.eq_of_beq_eq_true hb;omega;exact alM h3 hv ((Sw h1).2 hv);exact(Ka hq hj).1
     cases h
   cases h
def vJ{id c:Nat}{fr fr':List AV}{s s':AS}{t:List (List AV×AS×AV)}{hs hs':List Hn}{cd:List Cd}(HU:ME ops=true)(rM:Nat.blt c ops.size=true)(hl:UG (Ij ops.toList []) c ops.toList 0=true)(h:vS P G ops c ops.toList 0 hs fr s=some (hs',cd,t,fr',s'))(hc:Rq P G cd):J P G (XS P G) H0 (.code (.region id ops true) fr s .normal fr' s'):=by
 have Iy:c < ops.size:=Nat.le_of_ble_eq_true rM;obtain⟨vX,hsm⟩:=alS (q:=s.nx) h hc hl;have hlen:t.length=ops.size:=by rw[vX.len,Array.length_toList]
 obtain⟨h0,RD⟩:=vX.at;have nV:∀i o,ops[i]?=some o->Cr ops i=o.dst:=λi o ho=>by unfold Cr;rw[ho];rfl
 obtain⟨Yd,Ye⟩:=vX.cQ (Cr ops) (KD t) fr 0 rfl (λi o ho=>by rw[Nat.zero_add];exact nV i o (by rw[<- Array.getElem?_toList];exact ho)) (λi=>.inl (by rw[Nat.zero_add]));rw[Nat.zero_add,Array.length_toList] at Yd
 have asL:∀(i:Nat) (o:Oper),ops[i]?=some o->(i=c->calm o.op=false)/\(i≠c->(NX o.op=true/\i < c)\/(quiet o.op=true/\(reads o.op=true->i < c/\Sr (Ij ops.toList []) c i=true))):=by
   intro i o ho;have:=Yn (j:=i) hl (Cl ho);rwa[Nat.zero_add] at this
 have adF:∀(i:Nat) (o:Oper),ops[i]?=some o->B1 o.op=false:=λi o ho=>Wd (j:=i) hl (Cl ho)
 have Hz:∀(i:Nat) (o:Oper),ops[i]?=some o->J P G (XS P G) H0 (.op ops o (Iz fr (Cr ops) (KD t) (λ_=>true) i) (FR t s' i) (.ret (KD t i)) (FR t s' (i+1))):=by
   intro i o ho;obtain⟨fi,h1,h2⟩:=RD i o (Cl ho);have:=Ye i _ h1;simp only[Nat.zero_add] at this;rcases h2 with ⟨_,h2⟩ | ⟨h2,_⟩
   rw[<- this];exact h2;rw[adF i o ho] at h2;cases h2
 have hsn:FR t s' ops.size=s':=by
   unfold FR;rw[List.getElem?_eq_none (by omega)]
 have iM:∀k,k<=c->FR t s' k=s:=λk hk=>hsm k (by rw[Array.length_toList];omega) (by omega)
 have rO:Yw ops c:=by
   have ho:ops[c]?=some ops[c]:=Array.getElem?_eq_getElem Iy;exact⟨_,ho,(asL c _ ho).1 rfl⟩
 have key:=J.draw (P:=P) (G:=G) (X:=XS P G) (H:=H0) (id:=id) (f0:=fr) (s0:=s) [] (KD t) (FR t s') h0 HU (λi o ho _=>Hz i o ho) (λi o ho hq=>by
   obtain⟨h1,h2⟩:=Ka hq (Hz i o ho);refine⟨h1,?_⟩;rcases h2 with h2 | ⟨hw,h2⟩
   exact .inl h2
   · refine .inr ⟨hw,λk hk ZA=>?_⟩
     cases hrd:reads o.op with
     | false=>exact TP hq hrd h2 _
     | true =>
       have hic:i≠c:=λe=>by
         subst e;obtain⟨o2,ho2,hcm⟩:=rO;rw[ho] at ho2;cases ho2;rw[XN hq] at hcm;cases hcm
       obtain⟨hlt,hd⟩:i < c/\Sr (Ij ops.toList []) c i=true:=by
         rcases(asL i o ho).2 hic with ⟨hv,_⟩ | ⟨_,h3⟩
         exfalso;unfold NX at hv;split at hv;rename_i cl iL;split at hv;rename_i f aJM;rw[iL] at hq;simp[quiet,aJM] at hq;cases hv;cases hv;exact h3 hrd
       have hkc:=ZA.2 c rO hd;rw[iM k hkc];rw[iM i (by omega)] at h2;exact h2) (λi o e ho he=>by
   have:=adF i o ho;rw[he] at this;cases this)
 rw[<- Yd,hsn] at key;exact key
end
end AI
namespace AI
open Go Go.RowKit
def ahX(G:Bc)(fr:List AV)(o:Oper)(hs:List Hn):Option (List Nat):=match o.op with
 | .store _ a _=>(match Bg G fr a with
   | some (.ptr id _)=>some [id]
   | _=>none)
 | .mapUpdate _ m _ _=>(match AZ G fr m with
   | some (.mp id)=>some [id]
   | _=>none)
 | .call cl=>(match cl.callee with
   | .value _=>(match hs with
     | .w _::_=>some []
     | .u _ _ _ Q3 _::_=>some (Q3.map (·.1))
     | .cn _ h _ _ _::_=>some (h.map (·.1))
     | _=>none)
   | .builtin .append=>(match hs with
     | .g _ _ _::_=>some []
     | .ae _::_=>some []
     | _=>none)
   | _=>(match quiet o.op with
     | true=>some []
     | false=>none))
 | op=>(match quiet op with
   | true=>some []
   | false=>none)
def Y4(G:Bc)(ops:Array Oper)(fr:List AV)(o:Oper)(hs:List Hn):Option (List Nat):=match CC ops fr o with
 | true=>ahX G fr o hs
 | false=>some []
abbrev HA:=Option (List Hn×List Cd×List (List AV×AS×AV)×List (List Nat)×List AV×AS)
def asJ(cd:List Cd)(x:List AV×AS×AV)(T:List Nat):HA->HA
 | some (hs,cd',t,Ts,fr,s)=>some (hs,cd++cd',x::t,T::Ts,fr,s)
 | none=>none
def vQ(P:Program)(G:Bc)(ops:Array Oper):List Oper->List Hn->List AV->AS->HA
 | [],hs,fr,s=>some (hs,[],[],[],fr,s)
 | o::l,hs,fr,s=>(match B1 o.op with
   | true=>none
   | false=>(match Y4 G ops fr o hs with
     | some T=>(match ZW P G ops fr s o hs with
       | some (v,s1,RE,cd)=>asJ cd (fr,s,v) T (vQ P G ops l RE (Jw fr o.dst v) s1)
       | none=>none)
     | none=>none))
def anU(G:Bc)(fr:List AV)(o:Oper):Option (Option Nat):=match o.op with
 | .load _ a=>(match AZ G fr a with
   | some (.ptr id _)=>some (some id)
   | some (.el _)=>some none
   | _=>none)
 | .lookup _ m _ _=>(match AZ G fr m with
   | some (.mp id)=>some (some id)
   | _=>none)
 | .call cl=>(match cl.callee with
   | .builtin .len=>(match cl.args.toList with
     | [x]=>(match slV (AZ G fr x) with
       | true=>some none
       | false=>none)
     | _=>none)
   | _=>none)
 | _=>none
def aeQ(a:Nat):List Nat->Bool
 | []=>false
 | b::l=>(match Nat.beq a b with
   | true=>true
   | false=>aeQ a l)
def U1(ms:List Nat)(id i:Nat):List (List Nat)->Nat->Bool
 | [],_=>true
 | T::Ts,l=>(match aeQ id T with
   | true=>(match Nat.blt l i with
     | true=>Sr ms i l
     | false=>(match Nat.blt i l with
       | true=>Sr ms l i
       | false=>true))
   | false=>true)&&U1 ms id i Ts (l+1)
def jY(G:Bc)(ops:Array Oper)(ms:List Nat)(Ts:List (List Nat)):List Oper->List (List AV×AS×AV)->Nat->Bool
 | o::os,t::ts,i=>(match CC ops t.1 o with
   | false=>true
   | true=>(match reads o.op with
     | false=>true
     | true=>(match anU G t.1 o with
       | none=>false
       | some none=>true
       | some (some id)=>U1 ms id i Ts 0)))&&jY G ops ms Ts os ts (i+1)
 | _,_,_=>true
def jA{a:Nat}:∀{l:List Nat},aeQ a l=true↔a∈l
 | []=>by simp[aeQ]
 | b::l=>by
   simp only[aeQ];cases hb:Nat.beq a b with
   | true=>have:=Nat.eq_of_beq_eq_true hb;simp[this]
   | false =>
     have:=Nat.ne_of_beq_eq_false hb;simp[jA (l:=l),this]
def kZ{id:Nat}:∀(l:List (Nat×Bo)) (s:AS),id∉l.map (·.1)->(s.VN l).get id=s.get id
 | [],_,_=>rfl
 | e::l,s,h=>by
   simp only[List.map_cons,List.mem_cons,not_or] at h;rw[AS.VN,kZ l _ h.2];exact JM h.1 _
def iV{id:Nat}:∀{l:List (Nat×Bo)} (m:List (Nat×Bo)),id∉l.map (·.1)->look id (l++m)=look id m
 | [],_,_=>rfl
 | e::l,m,h=>by
   simp only[List.map_cons,List.mem_cons,not_or] at h;simp only[List.cons_append,look]
   have hb:Nat.beq e.1 id=false:=by
     cases hq:Nat.beq e.1 id with
     | false=>rfl
     | true=>exact absurd (Nat.eq_of_beq_eq_true hq).symm h.1
   rw[hb];exact iV m h.2
def ZU{id:Nat}:∀(l:List (Nat×Nat)) (s:AS),(s.S8 l).get id=s.get id
 | [],_=>rfl
 | e::l,s=>by rw[AS.S8,ZU l];rfl
section
variable {P:Program} {G:Bc} {ops:Array Oper}
def vP{fr:List AV}{s s1:AS}{o:Oper}{hs hs':List Hn}{v:AV}{cd:List Cd}{T:List Nat}(h:ZW P G ops fr s o hs=some (v,s1,hs',cd))(hT:Y4 G ops fr o hs=some T)(hc:Rq P G cd)(ha:B1 o.op=false)(id:Nat)(hid:id∉T):s1.get id=s.get id:=by
 have hj:=Pj h hc;cases hq:quiet o.op with
 | true=>rw[(Ka hq hj).1]
 | false =>
   unfold ZW at h;unfold Y4 at hT;split at h
   · rename_i hw
     rw[hw] at hT;simp only at hT;unfold ahX at hT;split at hT;rename_i t a x ho;unfold vO at h;rw[ho] at h;simp only at h
     have h1:∃a' x',Bg G fr a=some a'/\Bg G fr x=some x'/\L2 P s t a' x'=some s1:=by
       rcases Vn h hc with ⟨a',x',h2,h3,h4,_⟩ | h2
       exact⟨a',x',h2,h3,h4⟩;have h1:=Vm h2;rw[Nn] at h1;unfold Qo at h1;rw[ho] at h1;simp only at h1;split at h1;rename_i a' x' yT Tz;obtain⟨s',Gt,he⟩:=map_some h1;injection he with he1 he2
       subst he2;exact⟨a',x',yT,Tz,Gt⟩;cases h1
     obtain⟨a',x',yT,Tz,Gt⟩:=h1;rw[yT] at hT;split at hT;rename_i Re off NK;cases NK;cases hT;simp only[List.mem_singleton] at hid;unfold L2 at Gt;split at Gt;rename_i i id2 aLV hi2 adA;cases adA;split at Gt;split at Gt;cases Gt;exact JM hid _;cases Gt;cases Gt;cases Gt;cases hT
     · rename_i t m k x ho
       unfold vO at h;rw[ho] at h;simp only at h;split at hT
       · rename_i Re NK
         rw[NK] at h;cases hT;simp only[List.mem_singleton] at hid;simp only at h;split at h
         · split at h
           · have aoY:∀kk x' s2,KF P s t (.mp Re) kk x'=some s2->s2.get id=s.get id:=by
               intro kk x' s2 h2;unfold KF at h2
               repeat' split at h2
               all_goals first
                 | (cases h2;done)
                 | (rename_i adA;cases adA;cases h2;exact JM hid _)
                 | (simp_all only [AV.mp.injEq,Option.some.injEq];subst_vars;exact JM hid _)
             unfold avO at h;split at h;cases h;exact aoY _ _ _ hc.1;cases h;exact JM hid _;cases h
           cases h
         cases h
       cases hT
     rename_i cl ho;split at hT;rename_i f Iy;unfold vO at h;rw[ho] at h;simp only[Iy] at h;unfold X8 at h;split at h;split at h;cases h;rfl;cases h;cases hT;split at h;cases h;cases hT;rw[ZU];exact kZ _ _ hid;cases h;split at h;cases h;cases hT;exact iV _ hid;cases h;cases h;rename_i Iy;unfold vO at h;rw[ho] at h;simp only[Iy] at h;split at hT;split at h;split at h;split at h;unfold acG at h;simp only at h;split at h;cases h;rfl;split at h;split at h;cases h;rfl;cases h;cases h;cases h;cases h;cases h;cases h;split at h;split at h;split at h;unfold acG at h;simp only at h;cases h;rfl;cases h;cases h;cases h;cases hT;rw[hq] at hT;cases hT;rw[hq] at hT;cases hT
   cases h;rfl
def qC{fr:List AV}{o:Oper}{hs:List Hn}{T:List Nat}(hT:Y4 G ops fr o hs=some T){id:Nat}(h:id∈T)(ha:B1 o.op=false):calm o.op=false:=by
 unfold calm;rw[ha];simp only;cases hq:quiet o.op with
 | false=>rfl
 | true =>
   exfalso;unfold Y4 at hT;split at hT;unfold ahX at hT;split at hT;rename_i ho;rw[ho] at hq;cases hq;rename_i ho;rw[ho] at hq;cases hq;rename_i cl ho;split at hT;rename_i Iy;rw[ho] at hq;simp[quiet,Iy] at hq;split at hT;cases hT;cases h;cases hT;cases h;cases hT;rw[hq] at hT;cases hT;cases h;rw[hq] at hT;cases hT;cases h;cases hT;cases h
def alR{q:Nat}:∀{l:List Oper} {hs hs':List Hn} {fr fr':List AV} {s s':AS} {cd:List Cd} {t:List (List AV×AS×AV)} {Ts:List (List Nat)},vQ P G ops l hs fr s=some (hs',cd,t,Ts,fr',s')->Rq P G cd ->
   SJ P G (XS P G) H0 ops q l fr s t fr' s'/\(∀o∈l,B1 o.op=false)/\(∀(i:Nat) id,i < l.length->(∀T,Ts[i]?=some T->id∉T)->(FR t s' (i+1)).get id=(FR t s' i).get id)/\∀(i:Nat) o T id,l[i]?=some o->Ts[i]?=some T->id∈T->calm o.op=false:=by
 intro l
 induction l with
 | nil =>
   intro hs hs' fr fr' s s' cd t Ts h hc;simp only[vQ] at h;cases h;exact⟨.nil,(λo h=>by cases h),(λi id h=>by simp at h),λi o T id h=>by simp at h⟩
 | cons o l ih =>
   intro hs hs' fr fr' s s' cd t Ts h hc;simp only[vQ] at h;split at h;cases h
   · rename_i ha
     split at h
     · rename_i T hT
       split at h
       · rename_i v s1 RE yP h1
         unfold asJ at h;split at h
         · rename_i Z0 vD t2 Ts2 fr2 s2 h2
           cases h;obtain⟨c1,c2⟩:=hc.Ws;obtain⟨k1,k2,k3,k4⟩:=ih h2 c2;refine⟨.cons ha (Pj h1 c1) k1,λo' V8=>?_,λi id hi hno=>?_,λi o' T' id V8 hT' hid=>?_⟩;rcases List.mem_cons.1 V8 with rfl | V8
           exact ha;exact k2 o' V8
           · cases i with
             | zero =>
               have e1:FR ((fr,s,v)::t2) s' 0=s:=rfl
               have e2:FR ((fr,s,v)::t2) s' (0+1)=s1:=by
                 rw[show FR ((fr,s,v)::t2) s' (0+1)=FR t2 s' 0 by unfold FR;simp];exact k1.at.1
               rw[e1,e2];exact vP h1 hT c1 ha id (hno T rfl)
             | succ i =>
               have e:∀j,FR ((fr,s,v)::t2) s' (j+1)=FR t2 s' j:=λj=>by unfold FR;simp
               rw[e,e];exact k3 i id (by simpa using hi) (λT' h'=>hno T' (by simpa using h'))
           cases i with
           | zero=>simp at V8 hT';subst V8 hT';exact qC hT hid ha
           | succ i=>exact k4 i o' T' id (by simpa using V8) (by simpa using hT') hid
         cases h
       cases h
     cases h
def Y3{ms:List Nat}{id i:Nat}:∀{Ts:List (List Nat)} {l0:Nat},U1 ms id i Ts l0=true->∀{l:Nat} {T:List Nat},Ts[l]?=some T->id∈T->(l0+l < i->Sr ms i (l0+l)=true)/\(i < l0+l->Sr ms (l0+l) i=true):=by
 intro Ts
 induction Ts with
 | nil=>intro l0 _ l T h;simp at h
 | cons T0 Ts ih =>
   intro l0 h l T hT hid;simp only[U1,Bool.and_eq_true] at h;cases l with
   | zero =>
     simp at hT;subst hT;have h1:=h.1;rw[jA.2 hid] at h1;simp only at h1;constructor;intro hlt;have e:Nat.blt l0 i=true:=Nat.ble_eq_true_of_le hlt;rw[e] at h1;exact h1;intro hlt
     have e:Nat.blt l0 i=false:=by
       cases hq:Nat.blt l0 i with
       | false=>rfl
       | true=>have:=Nat.le_of_ble_eq_true hq;omega
     have e2:Nat.blt i l0=true:=Nat.ble_eq_true_of_le hlt;rw[e,e2] at h1;exact h1
   | succ l =>
     have:=ih h.2 (l:=l) (by simpa using hT) hid
     rw[show l0+(l+1)=l0+1+l by omega];exact this
def afP{ms:List Nat}{Ts:List (List Nat)}:∀{os:List Oper} {ts:List (List AV×AS×AV)} {i:Nat},jY G ops ms Ts os ts i=true->∀{j:Nat} {o:Oper} {x:List AV×AS×AV},os[j]?=some o->ts[j]?=some x->CC ops x.1 o=true->reads o.op=true->∃r,anU G x.1 o=some r/\∀id,r=some id->U1 ms id (i+j) Ts 0=true:=by
 intro os
 induction os with
 | nil=>intro ts i _ j o x h;simp at h
 | cons y os ih =>
   intro ts i h j o x ho hx hw hr;cases ts with
   | nil=>simp at hx
   | cons t ts =>
     simp only[jY,Bool.and_eq_true] at h;cases j with
     | zero =>
       simp at ho hx;subst ho hx;have h1:=h.1;rw[hw,hr] at h1;simp only at h1;split at h1;cases h1;rename_i hq;exact⟨none,hq,λid h=>by cases h⟩;rename_i id hq;exact⟨some id,hq,λRe h=>by cases h;exact h1⟩
     | succ j =>
       have:=ih h.2 (j:=j) (by simpa using ho) (by simpa using hx) hw hr
       rw[show i+(j+1)=i+1+j by omega];exact this
def anV{fr:List AV}{s s2:AS}{o:Oper}{v:AV}{r:Option Nat}(hr:anU G fr o=some r)(hs:∀id,r=some id->s2.get id=s.get id)(h:Qo P G fr s o=some (.val v s)):Qo P G fr s2 o=some (.val v s2):=by
 unfold anU at hr;split at hr;rename_i t a ho;rw[Cv] at hr;unfold Qo at h ⊢;rw[ho] at h ⊢;simp only at h ⊢;obtain⟨v',h3,h4⟩:=map_some h;injection h4 with h4
 subst h4;obtain⟨b,h5,h6⟩:=bind_some h3;rw[h5] at hr ⊢;split at hr;rename_i id off NK;cases NK;cases hr
 have:KY P s2 t (.ptr id off)=KY P s t (.ptr id off):=by
   simp only[KY];rw[hs id rfl]
 simp only[Option.bind_some];rw[this,h6];rfl;rename_i NK;cases NK;simp only[Option.bind_some];rw[show KY P s2 t (.el _)=KY P s t (.el _) from rfl,h6];rfl;cases hr;rename_i t m k ok ho;rw[Cv] at hr;unfold Qo at h ⊢;rw[ho] at h ⊢;simp only at h ⊢;split at hr;rename_i id NK;cases hr;rw[NK] at h ⊢;split at h;rename_i a b ha hb;cases ha;obtain⟨v',h3,h4⟩:=map_some h;injection h4 with h4
 subst h4
 have:Ji P s2 t (.mp id) b ok=Ji P s t (.mp id) b ok:=by
   simp only[Ji];rw[hs id rfl]
 rw[this,h3];rfl;cases h;cases hr
 · rename_i cl ho
   split at hr
   · rename_i Iy
     unfold Qo at h ⊢;rw[ho] at h ⊢;simp only[S4,Iy] at h ⊢;split at hr
     · rename_i x hx
       rw[hx] at h ⊢;cases ht:cl.argTypes.toList with
       | nil=>rw[ht] at h;cases h
       | cons t1 ts =>
         cases ts with
         | cons _ _=>rw[ht] at h;cases h
         | nil =>
           rw[ht] at h;simp only at h ⊢;obtain⟨v',h3,h4⟩:=map_some h;injection h4 with h4
           subst h4;obtain⟨b,h5,h6⟩:=bind_some h3;rw[Cv,h5] at hr;rw[h5];simp only[Option.bind_some];split at hr
           · rename_i hsl
             have:Wq P s2 t1 b=Wq P s t1 b:=by
               unfold slV at hsl;split at hsl
               · rename_i NK;cases NK;unfold Wq;split<;>first | rfl | (simp_all;done)
               · rename_i NK;cases NK;unfold Wq;split<;>first | rfl | (simp_all;done)
               cases hsl
             rw[this,h6];rfl
           cases hr
     cases hr
   cases hr
 cases hr
def abA{id:Nat}{fr fr':List AV}{s s':AS}{t:List (List AV×AS×AV)}{Ts:List (List Nat)}{hs hs':List Hn}{cd:List Cd}(HU:ME ops=true)(h:vQ P G ops ops.toList hs fr s=some (hs',cd,t,Ts,fr',s'))(hr:jY G ops (Ij ops.toList []) Ts ops.toList t 0=true)(hc:Rq P G cd):J P G (XS P G) H0 (.code (.region id ops true) fr s .normal fr' s'):=by
 obtain⟨vX,mF,Gt,hlo⟩:=alR (q:=s.nx) h hc;have hlen:t.length=ops.size:=by rw[vX.len,Array.length_toList]
 obtain⟨h0,RD⟩:=vX.at;have nV:∀i o,ops[i]?=some o->Cr ops i=o.dst:=λi o ho=>by unfold Cr;rw[ho];rfl
 obtain⟨Yd,Ye⟩:=vX.cQ (Cr ops) (KD t) fr 0 rfl (λi o ho=>by rw[Nat.zero_add];exact nV i o (by rw[<- Array.getElem?_toList];exact ho)) (λi=>.inl (by rw[Nat.zero_add]));rw[Nat.zero_add,Array.length_toList] at Yd;have adF:∀(i:Nat) (o:Oper),ops[i]?=some o->B1 o.op=false:=λi o ho=>mF o (List.mem_of_getElem? (Cl ho))
 have Hz:∀(i:Nat) (o:Oper),ops[i]?=some o->J P G (XS P G) H0 (.op ops o (Iz fr (Cr ops) (KD t) (λ_=>true) i) (FR t s' i) (.ret (KD t i)) (FR t s' (i+1))):=by
   intro i o ho;obtain⟨fi,h1,h2⟩:=RD i o (Cl ho);have:=Ye i _ h1;simp only[Nat.zero_add] at this;rcases h2 with ⟨_,h2⟩ | ⟨h2,_⟩
   rw[<- this];exact h2;rw[adF i o ho] at h2;cases h2
 have hsn:FR t s' ops.size=s':=by
   unfold FR;rw[List.getElem?_eq_none (by omega)]
 have hTl:∀(l:Nat) T id,Ts[l]?=some T->id∈T->l < ops.size->Yw ops l:=by
   intro l T id hT hid hl;exact⟨ops[l],Array.getElem?_eq_getElem hl,hlo l ops[l] T id (Cl (Array.getElem?_eq_getElem hl)) hT hid⟩
 have iM:∀(bx:Nat) (d i:Nat),i+d<=ops.size->(∀l,i<=l->l < i+d->∀T,Ts[l]?=some T->bx∉T)->(FR t s' (i+d)).get bx=(FR t s' i).get bx:=by
   intro bx d
   induction d with
   | zero=>intro i _ _;rfl
   | succ d ih =>
     intro i hle hno;rw[show i+(d+1)=(i+d)+1 by omega,Gt (i+d) bx (by rw[Array.length_toList];omega) (hno (i+d) (by omega) (by omega))];exact ih i (by omega) (λl h1 h2=>hno l h1 (by omega))
 have key:=J.draw (P:=P) (G:=G) (X:=XS P G) (H:=H0) (id:=id) (f0:=fr) (s0:=s) [] (KD t) (FR t s') h0 HU (λi o ho _=>Hz i o ho) (λi o ho hq=>by
   obtain⟨h1,h2⟩:=Ka hq (Hz i o ho);refine⟨h1,?_⟩;rcases h2 with h2 | ⟨hw,h2⟩
   exact .inl h2
   · refine .inr ⟨hw,λk hk ZA=>?_⟩
     cases hrd:reads o.op with
     | false=>exact TP hq hrd h2 _
     | true =>
       have hil:i < ops.size:=(Array.getElem?_eq_some_iff.1 ho).1;obtain⟨fi,hti,_⟩:=RD i o (Cl ho);have yU:=Ye i _ hti;simp only[Nat.zero_add] at yU;obtain⟨r,hr1,hr2⟩:=afP hr (Cl ho) hti (by rw[yU];exact hw) hrd;rw[yU] at hr1;refine anV hr1 (λbx hbx=>?_) h2;have hto:=hr2 bx hbx;rw[Nat.zero_add] at hto;rcases Nat.lt_or_ge k i with hki | hki
       have:=iM bx (i - k) k (by omega) (λl h3 h4 T hT hm=>by
         have hd:=(Y3 hto hT hm).1 (by omega);rw[Nat.zero_add] at hd;have:=ZA.1 l (hTl l T bx hT hm (by omega)) hd;omega)
       rw[show k+(i - k)=i by omega] at this;exact this.symm
       have:=iM bx (k - i) i (by omega) (λl h3 h4 T hT hm=>by
         have vW:=hTl l T bx hT hm (by omega);rcases Nat.lt_or_ge i l with h5 | h5
         have hd:=(Y3 hto hT hm).2 (by omega);rw[Nat.zero_add] at hd;have:=ZA.2 l vW hd;omega;have:l=i:=by omega
         subst this;obtain⟨o2,ho2,hcm⟩:=vW;rw[ho] at ho2;cases ho2;rw[XN hq] at hcm;cases hcm)
       rw[show i+(k - i)=k by omega] at this;exact this) (λi o e ho he=>by
   have:=adF i o ho;rw[he] at this;cases this)
 rw[<- Yd,hsn] at key;exact key
end
end AI
namespace AI
open Go Go.RowKit
section
variable {P:Program} {G:Bc} {ops:Array Oper} {f0:List AV} {vals:Nat->AV} {s0 s1:AS} {p:Nat} {v:AV}
structure aGR(G:Bc)(ops:Array Oper)(f0:List AV)(vals:Nat->AV)(s0:AS)(p:Nat)(mC:Cx)(w0:World)(L:Array Bool)(a:Act)(w:World):Prop where
 size:L.size=ops.size
 closed:NM ops.toList (λj=>L.getD j false)
 st:∃c,Ext mC w0 c w/\St G c w s0/\CT c w (Iz f0 (Cr ops) vals (λj=>L.getD j false) ops.size) a.tmps.toList
 defers:a.defers=[]
 out:L.getD p false=false
def abD(HU:ME ops=true)(hp:p < ops.size)
   (hl:∀i o,ops[i]?=some o->i≠p->(p < i->Sr (Ij ops.toList []) i p=false)->Sound P G (.op ops o (Iz f0 (Cr ops) vals (λ_=>true) i) s0 (.ret (vals i)) s0))
   (awD:∀o,ops[p]?=some o->Sound P G (.op ops o (Iz f0 (Cr ops) vals (λ_=>true) p) s0 (.pan v) s1))
   {mC:Cx} {w0:World} {fr':List AV} (Q:Exit->Act->World->Prop) (hQ:∀e' a' w',S0 G mC w0 (.pan v) fr' s1 e' a' w'->Q e' a' w') :
   ∀(fuel:Nat) (L:Array Bool) (a:Act) (w:World),aGR G ops f0 vals s0 p mC w0 L a w->gQ (λj=>L.getD j false) ops.size=fuel->wpAny P .any ops Q fuel L a w:=by
 intro fuel
 induction fuel with
 | zero =>
   intro L a w hI hc;have:=gU ops.size hc p hp;rw[hI.out] at this;cases this
 | succ fuel ih =>
   intro L a w hI aJN;refine⟨λcZ=>?_,λi hi=>?_⟩
   · exfalso
     have all:∀i,i < ops.size->L.getD i false=true:=by
       intro i
       induction i using Nat.strongRecOn with
       | _ i ihi =>
         intro hlt;cases fP:L.getD i false with
         | true=>rfl
         | false =>
           exfalso;have ho:ops[i]?=some (ops[i]'hlt):=Array.getElem?_eq_getElem hlt
           have:=kA hI.size ho fP (λe he hb=>by
             have h1:=jI HU ho he hb;exact ihi e.on h1 (by omega))
           rw[cZ] at this;cases this
     have:=all p hp;rw[hI.out] at this;cases this
   · obtain⟨o,ho,fP,Yg,hlt⟩:=mem_ready hI.size hi
     obtain⟨c,hx,Gt,hfr⟩:=hI.st
     have hip:p < i->Sr (Ij ops.toList []) i p=false:=by
       intro h1;cases hd:Sr (Ij ops.toList []) i p with
       | false=>rfl
       | true =>
         have:=XT hI.closed (Cl ho) Yg hd;rw[hI.out] at this;cases this
     have hMi:(L.setIfInBounds i true).getD i false=true:=by
       have:i < L.size:=by rw[hI.size];exact hlt
       simp[this]
     have rJ:∀j,j≠i->(L.setIfInBounds i true).getD j false=L.getD j false:=by
       intro j hj;simp only[Array.getD_eq_getD_getElem?];rw[Array.getElem?_setIfInBounds_ne (λe=>hj e.symm)]
     have hle:∀j,L.getD j false=true->(L.setIfInBounds i true).getD j false=true:=by
       intro j hj;by_cases e:j=i;subst e;exact hMi;rw[rJ j e];exact hj
     have Yb:NM ops.toList (λj=>(L.setIfInBounds i true).getD j false):=by
       intro j y hy hj e he hb;by_cases ej:j=i;subst ej;rw[Cl ho] at hy;cases hy;exact hle _ (Yg e he hb);have hj2:L.getD j false=true:=by rw[<- rJ j ej];exact hj
       exact hle _ (hI.closed j y hy hj2 e he hb)
     have acY:gQ (λj=>(L.setIfInBounds i true).getD j false) ops.size=fuel:=by
       have:=(qU (L:=λj=>L.getD j false) (M:=λj=>(L.setIfInBounds i true).getD j false) fP hMi rJ ops.size).1 hlt;omega
     have awF:=rF (f0:=f0) (vals:=vals) (L:=λj=>L.getD j false) (M:=λj=>(L.setIfInBounds i true).getD j false) HU hI.closed ho fP hMi rJ
     have iN:∀x∈o.op.operands,Zq G c w (Iz f0 (Cr ops) vals (λ_=>true) i) a.eval x:=by
       intro x hxo v hv;cases x with
       | tmp t =>
         have adD:t∈o.looksAt ops:=by
           unfold Oper.looksAt;rw[List.mem_append];left;rw[List.mem_filterMap];exact⟨.tmp t,Array.mem_toList_iff.2 hxo,rfl⟩
         have he:=Sv (f0:=f0) (vals:=vals) HU hI.closed ho fP Yg adD
         have:Bg G (Iz f0 (Cr ops) vals (λj=>L.getD j false) ops.size) (.tmp t)=some v:=by
           rw[<- hv];simp only[Bg,List.getD_eq_getElem?_getD,he]
         exact Gf Gt hfr this
       | const z=>exact Gf (fr:=Iz f0 (Cr ops) vals (λj=>L.getD j false) ops.size) Gt hfr hv
       | global g=>exact Gf (fr:=Iz f0 (Cr ops) vals (λj=>L.getD j false) ops.size) Gt hfr hv
       | func f=>exact Gf (fr:=Iz f0 (Cr ops) vals (λj=>L.getD j false) ops.size) Gt hfr hv
     have Wa:CC ops (Iz f0 (Cr ops) vals (λ_=>true) i) o=Region.wanted o (yielded ops a.tmps):=by
       refine NO (c:=c) (w:=w) (λj want hg d hd=>⟨_,hfr,?_⟩);refine Sv HU hI.closed ho fP Yg ?_;unfold Oper.looksAt;rw[List.mem_append];right;rw[hg];simp[hd]
     have cT:OD P ops o (wpAny P .any ops Q fuel (L.setIfInBounds i true)) Q a w->wpOp P ops Q i (wpAny P .any ops Q fuel (L.setIfInBounds i true)) a w:=by
       intro h;unfold wpOp;rw[ho];unfold OD at h;simp only;split;rename_i hw;rw[if_pos hw] at h;exact .inl h;rename_i hw;rw[if_neg hw] at h;exact h
     refine cT ?_;by_cases hpe:i=p;subst hpe;refine awD o ho c w a _ _ Gt iN Wa ?_;intro u w' c' Tz Pk hu;exact hQ _ _ _ ⟨c',hx.trans Tz,Pk,hI.defers,u,rfl,hu⟩;refine hl i o ho hpe hip c w a _ _ Gt iN Wa ?_;intro u w' c' Tz Pk hu;refine ih _ _ _ ⟨by simp[hI.size],Yb,⟨c',hx.trans Tz,Pk,?_⟩,by cases o.dst<;>exact hI.defers,?_⟩ acY
     rw[awF];exact Sk (hfr.mono Tz) hu;rw[rJ p (λe=>hpe e.symm)];exact hI.out
def pJ(hm:P.follows .mixedOrders=true){id:Nat}{fr':List AV}(HU:ME ops=true)(hp:p < ops.size)
   (hl:∀i o,ops[i]?=some o->i≠p->(p < i->Sr (Ij ops.toList []) i p=false)->Sound P G (.op ops o (Iz f0 (Cr ops) vals (λ_=>true) i) s0 (.ret (vals i)) s0))
   (awD:∀o,ops[p]?=some o->Sound P G (.op ops o (Iz f0 (Cr ops) vals (λ_=>true) p) s0 (.pan v) s1)):Sound P G (.code (.region id ops true) f0 s0 (.pan v) fr' s1):=by
 intro cx w a Q hs hf hd hQ;refine wp_region_any hm ?_;obtain⟨x,st⟩:=hs.same (gL w)
 have gf:∀j,(Array.replicate ops.size false).getD j false=false:=by
   intro j;simp only[Array.getD_eq_getD_getElem?,Array.getElem?_replicate];split<;>simp
 refine abD HU hp hl awD Q hQ ops.size _ a _ ⟨by simp,?_,⟨_,x,st,?_⟩,hd,gf p⟩ ?_;intro i o ho hL;exact absurd (show(Array.replicate ops.size false).getD i false=true from hL) (by rw[gf i];simp)
 · have:Iz f0 (Cr ops) vals (λj=>(Array.replicate ops.size false).getD j false) ops.size=f0:=by
     have key:∀n,Iz f0 (Cr ops) vals (λj=>(Array.replicate ops.size false).getD j false) n=f0:=by
       intro n
       induction n with
       | zero=>rfl
       | succ n ih =>
         simp only[Iz,ih];rw[if_neg];rw[gf n];simp
     exact key _
   rw[this];exact hf.mono x
 · have key:∀n,gQ (λj=>(Array.replicate ops.size false).getD j false) n=n:=by
     intro n
     induction n with
     | zero=>rfl
     | succ n ih =>
       simp only[gQ,ih,gf n];simp
   exact key _
end
end AI
namespace AI
open Go Go.RowKit
abbrev HS:=Option (List Hn×List Cd×List AV×AS)
def asI(cd:List Cd):HS->HS
 | some (hs,cd',fr,s)=>some (hs,cd++cd',fr,s)
 | none=>none
abbrev HC:=Option (AX×List Hn×List Cd×List AV×AS)
def ZX(cd:List Cd):HC->HC
 | some (e,hs,cd',fr,s)=>some (e,hs,cd++cd',fr,s)
 | none=>none
def alP(P:Program)(G:Bc)(ops:Array Oper)(fr:List AV)(s:AS)(o:Oper):List Hn->HO
 | .p v s1::hs=>(match CC ops fr o with
   | true=>(match Uj P G fr s o with
     | some (.ent f args)=>some (v,s1,hs,[.arX f args s v s1])
     | some (.pan v')=>some (v',s,hs,[])
     | _=>none)
   | false=>none)
 | .q v pre tp Q3 tu::hs=>(match CC ops fr o with
   | true=>(match Uj P G fr s o with
     | some (.ent f args)=>some (v,(s.VN Q3).S8 tu,hs,[.E9 f args (.pan v) pre tp Q3 tu,.yQ (X5 s pre) (OC pre) (ZT s.F tp) (O5 tp)])
     | _=>none)
   | false=>none)
 | _=>none
def acO(P:Program)(G:Bc)(ops:Array Oper):List Oper->List Hn->List AV->AS->HC
 | [],hs,fr,s=>some (.normal,hs,[],fr,s)
 | o::l,hs,fr,s=>(match alP P G ops fr s o hs with
   | some (v,s1,RE,cd)=>some (.pan v,RE,cd,fr,s1)
   | none=>(match ZW P G ops fr s o hs with
     | some (v,s1,RE,cd)=>ZX cd (acO P G ops l RE (Jw fr o.dst v) s1)
     | none=>none))
def iH(P:Program)(G:Bc)(ops:Array Oper):List Oper->List Hn->List AV->AS->HS
 | [],hs,fr,s=>some (hs,[],fr,s)
 | o::l,hs,fr,s=>(match iF P G ops fr s o hs with
   | some (v,s1,RE,cd)=>asI cd (iH P G ops l RE (Jw fr o.dst v) s1)
   | none=>none)
def steady(op:Op):Bool:=match quiet op with
 | true=>true
 | false=>(match op with
   | .call cl=>(match cl.callee with | .value _=>true | _=>false)
   | _=>false)
def QX:List Oper->Bool
 | []=>true
 | o::l=>(match steady o.op with | true=>QX l | false=>false)
def aBI:HS->HC
 | some (hs,cd,fr,s)=>some (.normal,hs,cd,fr,s)
 | none=>none
def aBH(P:Program)(G:Bc)(ops:Array Oper)(hs:List Hn)(fr:List AV)(s:AS):HC:=match rsv P ops.toList with
 | some r=>(match hTr P G ops ops.toList s.nx hs fr (s.hold r) with
   | some (hs',cd,t,fr',s')=>(match L7 G ops s.nx ops.toList t with
     | true=>(match Xj P ops t s' s.nx r with
       | true=>some (.normal,hs',cd,fr',s')
       | false=>none)
     | false=>none)
   | none=>none)
 | none=>none
def acI(P:Program)(G:Bc)(ops:Array Oper)(c:Nat)(hs:List Hn)(fr:List AV)(s:AS):HC:=match Nat.blt c ops.size with
 | true=>(match UG (Ij ops.toList []) c ops.toList 0 with
   | true=>(match vS P G ops c ops.toList 0 hs fr s with
     | some (hs',cd,_,fr',s')=>some (.normal,hs',cd,fr',s')
     | none=>none)
   | false=>none)
 | false=>none
def asE(P:Program)(G:Bc)(ops:Array Oper)(hs:List Hn)(fr:List AV)(s:AS):HC:=match vQ P G ops ops.toList hs fr s with
 | some (hs',cd,t,Ts,fr',s')=>(match jY G ops (Ij ops.toList []) Ts ops.toList t 0 with
   | true=>some (.normal,hs',cd,fr',s')
   | false=>none)
 | none=>none
abbrev HQ:=Option (List AV×List Hn×List Cd×Option (AV×AS))
def dA(v:AV)(cd:List Cd):HQ->HQ
 | some (vs,hs,vD,r)=>some (v::vs,hs,cd++vD,r)
 | none=>none
def asN(r:AV×AS)(cd:List Cd):HQ->HQ
 | some (vs,hs,vD,none)=>some (.sc undef::vs,hs,cd++vD,some r)
 | _=>none
def behind(ms:List Nat)(p i:Nat):Bool:=match Nat.blt p i with
 | true=>Sr ms i p
 | false=>false
def Ya(P:Program)(G:Bc)(ops:Array Oper)(ms:List Nat)(p:Nat)(s:AS):List Oper->Nat->List Hn->List AV->HQ
 | [],_,hs,_=>some ([],hs,[],none)
 | o::l,i,hs,fr=>(match Nat.beq i p with
   | true=>(match alP P G ops fr s o hs with
     | some (v,s2,Z0,cd)=>asN (v,s2) cd (Ya P G ops ms p s l (i+1) Z0 (Jw fr o.dst (.sc undef)))
     | none=>none)
   | false=>(match behind ms p i with
     | true=>dA (.sc undef) [] (Ya P G ops ms p s l (i+1) hs (Jw fr o.dst (.sc undef)))
     | false=>(match steady o.op with
       | true=>(match iF P G ops fr s o hs with
         | some (v,_,Z0,cd)=>dA v cd (Ya P G ops ms p s l (i+1) Z0 (Jw fr o.dst v))
         | none=>none)
       | false=>none)))
def acQ(P:Program)(G:Bc)(ops:Array Oper)(p:Nat)(hs:List Hn)(fr:List AV)(s:AS):HC:=match Ya P G ops (Ij ops.toList []) p s ops.toList 0 hs fr with
 | some (_,Z0,cd,some (v,s2))=>some (.pan v,Z0,cd,fr,s2)
 | _=>none
def asG(P:Program)(G:Bc)(ops:Array Oper)(fr:List AV)(s:AS):List Hn->HC
 | .zq p::hs=>acQ P G ops p hs fr s
 | .z c::hs=>acI P G ops c hs fr s
 | .za::hs=>asE P G ops hs fr s
 | hs=>(match QX ops.toList with
   | true=>aBI (iH P G ops ops.toList hs fr s)
   | false=>aBH P G ops hs fr s)
def acS(P:Program)(G:Bc)(ops:Array Oper)(d:Bool)(hs:List Hn)(fr:List AV)(s:AS):HC:=match d with
 | false=>acO P G ops ops.toList hs fr s
 | true=>(match ME ops with
   | true=>asG P G ops fr s hs
   | false=>none)
def M9(P:Program)(G:Bc):Code->List Hn->List AV->AS->HC
 | .skip,hs,fr,s=>some (.normal,hs,[],fr,s)
 | .exit id,hs,fr,s=>some (.exit id,hs,[],fr,s)
 | .ret,hs,fr,s=>some (.ret,hs,[],fr,s)
 | .seq x y,hs,fr,s=>(match M9 P G x hs fr s with
   | some (.normal,RE,cd,V5,s1)=>ZX cd (M9 P G y RE V5 s1)
   | r=>r)
 | .cond q x y,hs,fr,s=>(match AZ G fr q with
   | some (.sc (.bool true))=>M9 P G x hs fr s
   | some (.sc (.bool false))=>M9 P G y hs fr s
   | _=>none)
 | .block id c,hs,fr,s=>(match M9 P G c hs fr s with
   | some (e,RE,cd,V5,s1)=>some (E5 id e,RE,cd,V5,s1)
   | none=>none)
 | .region _ ops d,hs,fr,s=>(match hs with
   | .n l::hs=>(match nzs l fr s with
     | some (fr2,s2)=>acS P G ops d hs fr2 s2
     | none=>none)
   | .f id b b2::hs=>(match look id s.h with
     | some b0=>ZX [.yQ [some b0] [some b] [] [],.rd s.nr b b2] (acS P G ops d hs fr ⟨tX id b2 s.h,s.nx,(s.nr,0)::s.F,s.nr+1⟩)
     | none=>none)
   | hs=>acS P G ops d hs fr s)
 | _,_,_,_=>none
section
variable {P:Program} {G:Bc} {ops:Array Oper}
def rK{fr:List AV}{s s1:AS}{o:Oper}{hs hs':List Hn}{v:AV}{cd:List Cd}(h:alP P G ops fr s o hs=some (v,s1,hs',cd))(hc:Rq P G cd):J P G (XS P G) H0 (.op ops o fr s (.pan v) s1):=by
 unfold alP at h;split at h;rw[Nn] at h;split at h;rename_i hw;split at h;rename_i h1;cases h;exact .R7 hw h1 (.ext hc.1);rename_i h1;cases h;exact .asY hw h1;cases h;cases h;rw[Nn] at h;split at h;rename_i hw;split at h;rename_i h1;cases h;exact .R7 hw h1 (.ext (hc.1 s hc.2.1.1 hc.2.1.2));cases h;cases h;cases h
def alN{l:List Oper}{k:Nat}(hk:l=ops.toList.drop k){hs hs':List Hn}{fr fr':List AV}{s s':AS}{e:AX}{cd:List Cd}(h:acO P G ops l hs fr s=some (e,hs',cd,fr',s'))(hc:Rq P G cd):J P G (XS P G) H0 (.ops ops (List.range' k l.length) fr s e fr' s'):=by
 induction l generalizing k hs fr s cd with
 | nil=>simp only[acO] at h;cases h;exact .afC
 | cons o l ih =>
   obtain⟨k1,k2⟩:=drop_cons hk;simp only[acO] at h;split at h;rename_i v s1 RE yP h1;cases h;rw[List.length_cons,List.range'_succ];exact .afD (by rw[<- Array.getElem?_toList];exact k1) (rK h1 hc);split at h;rename_i v s1 RE yP h1;unfold ZX at h;split at h;rename_i e2 Z0 vD fr2 s2 h2;cases h;obtain⟨c1,c2⟩:=hc.Ws;rw[List.length_cons,List.range'_succ];exact .sT (by rw[<- Array.getElem?_toList];exact k1) (Pj h1 c1) (ih k2 h2 c2);cases h;cases h
def alO{l:List Oper}{q:Nat}(Gt:QX l=true){hs hs':List Hn}{fr fr':List AV}{s s':AS}{cd:List Cd}(h:iH P G ops l hs fr s=some (hs',cd,fr',s'))(hc:Rq P G cd):s'=s/\∃t,SJ P G (XS P G) H0 ops q l fr s t fr' s/\∀x∈t,x.2.1=s:=by
 induction l generalizing hs fr cd s with
 | nil=>simp only[iH] at h;cases h;exact⟨rfl,[],.nil,λx hx=>by cases hx⟩
 | cons o l ih =>
   simp only[QX] at Gt;split at Gt
   · rename_i dC
     simp only[iH] at h;split at h
     · rename_i v s1 RE yP h1
       unfold asI at h;split at h
       · rename_i Z0 vD fr2 s2 h2
         cases h;obtain⟨c1,c2⟩:=hc.Ws;obtain⟨h1,hA⟩:=Sw h1;have hj:=Pj h1 c1
         have mF:B1 o.op=false:=by
           cases ha:B1 o.op with
           | false=>rfl
           | true=>obtain⟨e,he⟩:=KR ha;rw[he] at dC;simp[steady,quiet] at dC
         have RE:s1=s:=by
           cases hq:quiet o.op with
           | true=>exact(Ka hq hj).1
           | false =>
             unfold steady at dC;rw[hq] at dC;simp only at dC;split at dC;rename_i cl iL;split at dC;rename_i f Iy;unfold ZW at h1;split at h1;unfold vO at h1;rw[iL] at h1;simp only[Iy] at h1;unfold X8 at h1;split at h1;split at h1;cases h1;rfl;cases h1;have:=hA (by rw[iL];simp[NX,Iy]);simp[dK] at this;have:=hA (by rw[iL];simp[NX,Iy]);simp[dK] at this;have:=hA (by rw[iL];simp[NX,Iy]);simp[dK] at this;cases h1;cases h1;rfl;cases dC;cases dC
         subst RE;obtain⟨e,t,ht,Hz⟩:=ih Gt h2 c2;subst e
         exact⟨rfl,_,.cons mF hj ht,λx hx=>by
           rcases List.mem_cons.1 hx with rfl | hx
           rfl;exact Hz x hx⟩
       cases h
     cases h
   cases Gt
def VJ{l:List Oper}(Gt:QX l=true){i:Nat}{o:Oper}(ho:l[i]?=some o):steady o.op=true:=by
 induction l generalizing i with
 | nil=>simp at ho
 | cons x l ih =>
   simp only[QX] at Gt;split at Gt;rename_i dC;cases i with
   | zero=>simp at ho;subst ho;exact dC
   | succ i=>exact ih Gt (by simpa using ho)
   cases Gt
def nB{X:Wp}{H:Tj}{id:Nat}{fr fr':List AV}{s:AS}{t:List (List AV×AS×AV)}(HU:ME ops=true)(Gt:QX ops.toList=true)(h:SJ P G X H ops s.nx ops.toList fr s t fr' s)(Hz:∀x∈t,x.2.1=s):J P G X H (.code (.region id ops true) fr s .normal fr' s):=by
 have hlen:t.length=ops.size:=by rw[h.len,Array.length_toList]
 obtain⟨h0,RD⟩:=h.at
 have hsa:∀i,FR t s i=s:=by
   intro i;unfold FR;split;rename_i x hx;exact Hz x (List.mem_of_getElem? hx);rfl
 have nV:∀i o,ops[i]?=some o->Cr ops i=o.dst:=λi o ho=>by unfold Cr;rw[ho];rfl
 obtain⟨Yd,Ye⟩:=h.cQ (Cr ops) (KD t) fr 0 rfl (λi o ho=>by rw[Nat.zero_add];exact nV i o (by rw[<- Array.getElem?_toList];exact ho)) (λi=>.inl (by rw[Nat.zero_add]));rw[Nat.zero_add,Array.length_toList] at Yd
 have mF:∀(i:Nat) (o:Oper),ops[i]?=some o->B1 o.op=false:=by
   intro i o ho;have:=VJ Gt (Cl ho);cases ha:B1 o.op with
   | false=>rfl
   | true=>obtain⟨e,he⟩:=KR ha;rw[he] at this;simp[steady,quiet] at this
 have hj:∀i o,ops[i]?=some o->J P G X H (.op ops o (Iz fr (Cr ops) (KD t) (λ_=>true) i) s (.ret (KD t i)) s):=by
   intro i o ho;obtain⟨fi,h1,h2⟩:=RD i o (Cl ho);have:=Ye i _ h1;simp only[Nat.zero_add] at this;rcases h2 with ⟨_,h2⟩ | ⟨h2,_⟩
   rw[<- this];rw[hsa,hsa] at h2;exact h2;rw[mF i o ho] at h2;cases h2
 have key:=J.draw (P:=P) (G:=G) (X:=X) (H:=H) (id:=id) (f0:=fr) (s0:=s) [] (KD t) (λ_=>s) rfl HU (λi o ho _=>hj i o ho) (λi o ho hq=>⟨rfl,by
   obtain⟨_,h2⟩:=Ka hq (hj i o ho);rcases h2 with h2 | ⟨hw,h2⟩
   exact .inl h2;exact .inr ⟨hw,λk _ _=>h2⟩⟩) (λi o e ho he=>by have:=mF i o ho;rw[he] at this;cases this)
 rw[<- Yd] at key;exact key
def iG{fr:List AV}{s s1:AS}{o:Oper}{hs RE:List Hn}{v:AV}{cd:List Cd}(dC:steady o.op=true)(h:iF P G ops fr s o hs=some (v,s1,RE,cd))(hc:Rq P G cd):J P G (XS P G) H0 (.op ops o fr s (.ret v) s):=by
 obtain⟨h1,hA⟩:=Sw h;have hj:=Pj h1 hc
 have RE:s1=s:=by
   cases hq:quiet o.op with
   | true=>exact(Ka hq hj).1
   | false =>
     unfold steady at dC;rw[hq] at dC;simp only at dC;split at dC;rename_i cl iL;split at dC;rename_i f Iy;unfold ZW at h1;split at h1;unfold vO at h1;rw[iL] at h1;simp only[Iy] at h1;unfold X8 at h1;split at h1;split at h1;cases h1;rfl;cases h1;have:=hA (by rw[iL];simp[NX,Iy]);simp[dK] at this;have:=hA (by rw[iL];simp[NX,Iy]);simp[dK] at this;have:=hA (by rw[iL];simp[NX,Iy]);simp[dK] at this;cases h1;cases h1;rfl;cases dC;cases dC
 rw[RE] at hj;exact hj
def abW{f0:List AV}{dst:Nat->Option Tmp}{vals:Nat->AV}{k:Nat}:Iz f0 dst vals (λ_=>true) (k+1)=Jw (Iz f0 dst vals (λ_=>true) k) (dst k) (vals k):=by
 simp only[Iz,if_true]
def acP{p:Nat}{s:AS}{f0:List AV}{vals:Nat->AV}:∀{l:List Oper} {i:Nat} {hs hs':List Hn} {fr:List AV} {vs:List AV} {cd:List Cd} {r:Option (AV×AS)},Ya P G ops (Ij ops.toList []) p s l i hs fr=some (vs,hs',cd,r)->l=ops.toList.drop i->Rq P G cd->fr=Iz f0 (Cr ops) vals (λ_=>true) i->(∀j,vals (i+j)=vs.getD j (.sc undef)) ->
   (∀j o,i<=j->ops[j]?=some o->j≠p->(p < j->Sr (Ij ops.toList []) j p=false)->J P G (XS P G) H0 (.op ops o (Iz f0 (Cr ops) vals (λ_=>true) j) s (.ret (vals j)) s)) /\
   (i<=p->∀v s2,r=some (v,s2)->∃o,ops[p]?=some o/\J P G (XS P G) H0 (.op ops o (Iz f0 (Cr ops) vals (λ_=>true) p) s (.pan v) s2))/\(p < i->r=none):=by
 intro l
 induction l with
 | nil =>
   intro i hs hs' fr vs cd r h hl hc hfr hv;simp only[Ya] at h;cases h
   have hsz:ops.size<=i:=by
     have:=congrArg List.length hl;simp only[List.length_nil,List.length_drop,Array.length_toList] at this;omega
   exact⟨λj o hj ho=>by have:=(Array.getElem?_eq_some_iff.1 ho).1;omega,(λ_ v s2 e=>by cases e),λ_=>rfl⟩
 | cons o l ih =>
   intro i hs hs' fr vs cd r h hl hc hfr hv;obtain⟨k1,k2⟩:=drop_cons hl;have ho:ops[i]?=some o:=by rw[<- Array.getElem?_toList];exact k1
   have hd:Cr ops i=o.dst:=by unfold Cr;rw[ho];rfl
   have next:∀{v0:AV} {vs2:List AV},vs=v0::vs2->vals i=v0/\Jw fr o.dst v0=Iz f0 (Cr ops) vals (λ_=>true) (i+1)/\∀j,vals (i+1+j)=vs2.getD j (.sc undef):=by
     intro v0 vs2 e;subst e;have h0:vals i=v0:=by have:=hv 0;simpa using this
     refine⟨h0,?_,λj=>?_⟩;rw[abW,hd,h0,hfr];have:=hv (j+1);rw[show i+1+j=i+(j+1) by omega,this];simp
   simp only[Ya] at h;split at h
   · rename_i hb
     have hip:=Nat.eq_of_beq_eq_true hb;split at h
     · rename_i v s2 Z0 yP h1
       unfold asN at h;split at h
       · rename_i vs2 hs3 vD h2
         cases h;obtain⟨c1,c2⟩:=hc.Ws;obtain⟨n1,n2,n3⟩:=next rfl
         obtain⟨q1,q2,q3⟩:=ih h2 k2 c2 n2 n3;refine⟨λj o' hj V8 hjp vU=>?_,λ_ v' s2' e=>?_,λh=>by omega⟩;exact q1 j o' (by omega) V8 hjp vU;cases e;refine⟨o,hip▸ho,?_⟩;have:=rK h1 c1;rw[hfr,hip] at this;exact this
       cases h
     cases h
   · rename_i hb
     have hip:=Nat.ne_of_beq_eq_false hb;split at h
     · rename_i hbe
       unfold dA at h;split at h
       · rename_i vs2 hs3 vD r2 h2
         cases h;obtain⟨n1,n2,n3⟩:=next rfl
         obtain⟨q1,q2,q3⟩:=ih h2 k2 hc n2 n3;unfold behind at hbe;split at hbe;rename_i hlt;have hlt:p < i:=Nat.le_of_ble_eq_true hlt;refine⟨λj o' hj V8 hjp vU=>?_,λh=>by omega,λ_=>q3 (by omega)⟩;by_cases e:j=i;subst e;rw[vU hlt] at hbe;cases hbe;exact q1 j o' (by omega) V8 hjp vU;cases hbe
       cases h
     · split at h
       · rename_i Gt
         split at h
         · rename_i v s1 Z0 yP h1
           unfold dA at h;split at h
           · rename_i vs2 hs3 vD r2 h2
             cases h;obtain⟨c1,c2⟩:=hc.Ws;obtain⟨n1,n2,n3⟩:=next rfl
             obtain⟨q1,q2,q3⟩:=ih h2 k2 c2 n2 n3;refine⟨λj o' hj V8 hjp vU=>?_,λh v' s2' e=>q2 (by omega) v' s2' e,λh=>q3 (by omega)⟩;by_cases e:j=i;subst e;rw[ho] at V8;cases V8;have:=iG Gt h1 c1;rw[hfr] at this;rw[n1];exact this;exact q1 j o' (by omega) V8 hjp vU
           cases h
         cases h
       cases h
def acR{id p:Nat}(HU:ME ops=true){hs hs':List Hn}{fr fr':List AV}{s s':AS}{e:AX}{cd:List Cd}(h:acQ P G ops p hs fr s=some (e,hs',cd,fr',s'))(hc:Rq P G cd):J P G (XS P G) H0 (.code (.region id ops true) fr s e fr' s'):=by
 unfold acQ at h;split at h;rename_i vs Z0 yP v s2 h1;cases h;obtain⟨q1,q2,_⟩:=acP (f0:=fr) (vals:=λj=>vs.getD j (.sc undef)) h1 rfl hc rfl (λj=>by rw[Nat.zero_add]);obtain⟨o,ho,hj⟩:=q2 (Nat.zero_le _) _ _ rfl;refine .sem λhm=>pJ (vals:=λj=>vs.getD j (.sc undef)) hm HU (Array.getElem?_eq_some_iff.1 ho).1 (λi o' V8 hi hd=>sound (Tv hm) (q1 i o' (Nat.zero_le _) V8 hi hd)) (λo' V8=>?_);rw[ho] at V8;cases V8;exact sound (Tv hm) hj;cases h
def cV{ops:Array Oper}{id:Nat}{d:Bool}{hs hs':List Hn}{fr fr':List AV}{s s':AS}{e:AX}{cd:List Cd}(h:acS P G ops d hs fr s=some (e,hs',cd,fr',s'))(hc:Rq P G cd):J P G (XS P G) H0 (.code (.region id ops d) fr s e fr' s'):=by
 unfold acS at h;cases d with
 | false =>
   simp only at h;have:=alN (ops:=ops) (k:=0) (by simp) h hc;refine .region ?_;rw[Array.length_toList] at this;rw[List.range_eq_range'];exact this
 | true =>
   simp only at h;split at h;rename_i HU;unfold asG at h;split at h;exact acR HU h hc;unfold acI at h;split at h;rename_i rM;split at h;rename_i hl;split at h;rename_i NK;cases h;exact vJ HU rM hl NK hc;cases h;cases h;cases h;unfold asE at h;split at h;rename_i NK;split at h;rename_i hrd;cases h;exact abA HU NK hrd hc;cases h;cases h;split at h;rename_i Gt;unfold aBI at h;split at h;rename_i h1;cases h;obtain⟨e,t,ht,Hz⟩:=alO (q:=s.nx) Gt h1 hc;subst e;exact nB HU Gt ht Hz;cases h;unfold aBH at h;split at h;rename_i r hr;split at h;rename_i RE yP t V5 s1 vX;split at h;rename_i hi;split at h;rename_i adK;cases h;exact abC HU hr vX hc hi adK;cases h;cases h;cases h;cases h;cases h
def acH(c:Code){hs hs':List Hn}{fr fr':List AV}{s s':AS}{e:AX}{cd:List Cd}(h:M9 P G c hs fr s=some (e,hs',cd,fr',s'))(hc:Rq P G cd):J P G (XS P G) H0 (.code c fr s e fr' s'):=by
 induction c generalizing hs hs' fr fr' s s' e cd with
 | skip=>simp only[M9] at h;cases h;exact .skip
 | exit id=>simp only[M9] at h;cases h;exact .exit
 | ret=>simp only[M9] at h;cases h;exact .ret
 | seq x y ihx ihy =>
   simp only[M9] at h;cases hx:M9 P G x hs fr s with
   | none=>rw[hx] at h;cases h
   | some r =>
     obtain⟨e1,RE,yP,V5,s1⟩:=r;rw[hx] at h;cases e1 with
     | normal =>
       simp only at h;unfold ZX at h;split at h;rename_i e2 Z0 vD fr2 s2 h2;cases h;obtain⟨c1,c2⟩:=hc.Ws;exact .seq (ihx hx c1) (ihy h2 c2);cases h
     | exit id=>simp only at h;cases h;exact .pT (ihx hx hc) (by simp)
     | ret=>simp only at h;cases h;exact .pT (ihx hx hc) (by simp)
     | pan v=>simp only at h;cases h;exact .pT (ihx hx hc) (by simp)
 | cond q x y ihx ihy =>
   simp only[M9,Cv] at h;split at h;rename_i hq;exact .cond hq (ihx h hc);rename_i hq;exact .cond hq (ihy h hc);cases h
 | block id c ih =>
   simp only[M9] at h;split at h;rename_i h1;cases h;exact .block (ih h1 hc);cases h
 | region id ops d =>
   simp only[M9] at h;split at h;split at h;rename_i hz;exact .VS (λcx w vs h1 h2=>oV hz cx w vs h1 h2) (cV h hc);cases h;split at h;rename_i b0 hb;unfold ZX at h;split at h;rename_i h1;cases h;obtain⟨c1,c2⟩:=hc.Ws;refine .VS (λcx w vs hs hf=>?_) (cV h1 c2);have hbb:b0=_:=Option.some.inj (List.cons.inj c1.1.1).1;subst hbb;obtain⟨x,st⟩:=hs.tok;exact⟨_,x,st.wZ hb (λo ho=>c1.2.1 _ _ _ (by simp[hs.JU]) ho),hf.mono x⟩;cases h;cases h;exact cV h hc
 | _=>simp only[M9] at h;cases h
def Sx:Code->Bool
 | .loop _=>true
 | .seq x y=>Sx x||Sx y
 | .cond _ x y=>Sx x||Sx y
 | .block _ c=>Sx c
 | _=>false
abbrev HP:=Option (Code×List Hn×List Cd×List AV×AS)
end
end AI
namespace AI
open Go Go.RowKit
structure PC(P:Program)(G:Bc) where
 hn:Hn
 cd:List Cd
 ok:Rq P G cd
def pHs{P:Program}{G:Bc}:List (PC P G)->List Hn
 | []=>[]
 | p::l=>p.hn::pHs l
def mH{P:Program}{G:Bc}:List (PC P G)->List Cd
 | []=>[]
 | p::l=>p.cd++mH l
def Rq.join{P:Program}{G:Bc}{l m:List Cd}(h:Rq P G l)(k:Rq P G m):Rq P G (l++m):=by
 induction l with
 | nil=>exact k
 | cons c l ih=>exact⟨h.1,ih h.2⟩
def Pn{P:Program}{G:Bc}(l:List (PC P G)):Rq P G (mH l):=by
 induction l with
 | nil=>trivial
 | cons p l ih=>exact p.ok.join ih
inductive KI where
 | code (c:Code)
 | gZ (id:Nat)
def Ee(P:Program)(G:Bc):List KI->(AX->List AV->AS->Prop)->AX->List AV->AS->Prop
 | [],Q=>Q
 | .code k::ks,Q=>atO P G (XS P G) H0 k (Ee P G ks Q)
 | .gZ id::ks,Q=>EP id (Ee P G ks Q)
inductive Sq where
 | at (id:Nat) (c:Code) (ks:List KI)
 | fin (e:AX)
abbrev HR:=Option (Sq×List Hn×List Cd×List AV×AS)
def acN(cd:List Cd):HR->HR
 | some (c,hs,cd',fr,s)=>some (c,hs,cd++cd',fr,s)
 | none=>none
def Ru(r:Code->List KI->List Hn->List AV->AS->HR):List KI->AX->List Hn->List AV->AS->HR
 | [],e,hs,fr,s=>some (.fin e,hs,[],fr,s)
 | .code k::ks,.normal,hs,fr,s=>r k ks hs fr s
 | .code _::ks,e,hs,fr,s=>Ru r ks e hs fr s
 | .gZ id::ks,.exit Re,hs,fr,s=>(match Nat.beq Re id with
   | true=>Ru r ks .normal hs fr s
   | false=>Ru r ks (.exit Re) hs fr s)
 | .gZ _::ks,e,hs,fr,s=>Ru r ks e hs fr s
def Tw(P:Program)(G:Bc):Nat->Code->List KI->List Hn->List AV->AS->HR
 | 0,_,_,_,_,_=>none
 | n+1,c,ks,hs,fr,s=>(match Sx c with
   | false=>(match M9 P G c hs fr s with
     | some (e,RE,cd,V5,s1)=>acN cd (Ru (Tw P G n) ks e RE V5 s1)
     | none=>none)
   | true=>(match c with
     | .seq x y=>Tw P G n x (.code y::ks) hs fr s
     | .block id (.loop c)=>some (.at id c ks,hs,[],fr,s)
     | .block id c=>Tw P G n c (.gZ id::ks) hs fr s
     | .cond q x y=>(match AZ G fr q with
       | some (.sc (.bool true))=>Tw P G n x ks hs fr s
       | some (.sc (.bool false))=>Tw P G n y ks hs fr s
       | _=>none)
     | _=>none))
section
variable {P:Program} {G:Bc}
def SqQ(P:Program)(G:Bc)(Q:AX->List AV->AS->Prop)(fr:List AV)(s:AS):Sq->Prop
 | .at id c ks=>WL P G (XS P G) H0 c fr s (EP id (Ee P G ks Q))
 | .fin e=>Q e fr s
def Ox{k:Code}{ks:List KI}{Q:AX->List AV->AS->Prop}{e:AX}{fr:List AV}{s:AS}(he:e≠.normal)(h:Ee P G ks Q e fr s):Ee P G (.code k::ks) Q e fr s:=by
 cases e with
 | normal=>exact absurd rfl he
 | exit id=>exact h
 | ret=>exact h
 | pan v=>exact h
def cU{r:Code->List KI->List Hn->List AV->AS->HR}{Q:AX->List AV->AS->Prop}
   (hr:∀(c:Code) (ks:List KI) {sp:Sq} {hs hs':List Hn} {fr fr':List AV} {s s':AS} {cd:List Cd},r c ks hs fr s=some (sp,hs',cd,fr',s')->Rq P G cd->SqQ P G Q fr' s' sp->W P G (XS P G) H0 c fr s (Ee P G ks Q)) :
   ∀(ks:List KI) (e:AX) {sp:Sq} {hs hs':List Hn} {fr fr':List AV} {s s':AS} {cd:List Cd},Ru r ks e hs fr s=some (sp,hs',cd,fr',s')->Rq P G cd->SqQ P G Q fr' s' sp->Ee P G ks Q e fr s:=by
 intro ks
 induction ks with
 | nil=>intro e sp hs hs' fr fr' s s' cd h hc hk;simp only[Ru] at h;cases h;exact hk
 | cons k ks ih =>
   intro e sp hs hs' fr fr' s s' cd h hc hk;cases k with
   | code c =>
     cases e with
     | normal=>simp only[Ru] at h;exact hr c ks h hc hk
     | exit id=>simp only[Ru] at h;exact Ox (by simp) (ih _ h hc hk)
     | ret=>simp only[Ru] at h;exact Ox (by simp) (ih _ h hc hk)
     | pan v=>simp only[Ru] at h;exact Ox (by simp) (ih _ h hc hk)
   | gZ id =>
     show Ee P G ks Q (E5 id e) fr s;cases e with
     | normal=>simp only[Ru] at h;exact ih _ h hc hk
     | ret=>simp only[Ru] at h;exact ih _ h hc hk
     | pan v=>simp only[Ru] at h;exact ih _ h hc hk
     | exit Re =>
       simp only[Ru] at h;split at h;rename_i hb;have:=beq_true hb;subst this;have e1:E5 Re (.exit Re)=.normal:=by simp[E5]
       rw[e1];exact ih _ h hc hk;rename_i hb;have:=beq_false hb;have e1:E5 id (.exit Re)=.exit Re:=by simp[E5,this]
       rw[e1];exact ih _ h hc hk
def cW{Q:AX->List AV->AS->Prop}:∀(n:Nat) (c:Code) (ks:List KI) {sp:Sq} {hs hs':List Hn} {fr fr':List AV} {s s':AS} {cd:List Cd},Tw P G n c ks hs fr s=some (sp,hs',cd,fr',s')->Rq P G cd->SqQ P G Q fr' s' sp->W P G (XS P G) H0 c fr s (Ee P G ks Q):=by
 intro n
 induction n with
 | zero=>intro c ks sp hs hs' fr fr' s s' cd h;simp only[Tw] at h;cases h
 | succ n ih =>
   intro c ks sp hs hs' fr fr' s s' cd h hc hk;simp only[Tw] at h;split at h;split at h;rename_i e RE yP V5 s1 h1;unfold acN at h;split at h;rename_i h2;cases h;obtain⟨c1,c2⟩:=hc.Ws;exact⟨_,_,_,acH c h1 c1,cU ih ks e h2 c2 hk⟩;cases h;cases h;split at h;exact aAE (ih _ _ h hc hk);cases h;exact qL (auI hk);exact qL (ih _ _ h hc hk);rw[Cv] at h;split at h;rename_i hq;exact akH hq (ih _ _ h hc hk);rename_i hq;exact akG hq (ih _ _ h hc hk);cases h;cases h
end
end AI
namespace AI
open Go Go.RowKit
def sub:Code->List Nat->Code
 | c,[]=>c
 | .seq x _,0::l=>sub x l
 | .seq _ y,_::l=>sub y l
 | .cond _ x _,0::l=>sub x l
 | .cond _ _ y,_::l=>sub y l
 | .block _ c,_::l=>sub c l
 | .loop c,_::l=>sub c l
 | c,_=>c
def A3(fn:Func):Code:=fn.body.getD .skip
def obv(n:Nat):AV->Bool
 | .sc _=>true
 | .any=>true
 | .ptr id _=>Nat.blt id n
 | .mp id=>Nat.blt id n
 | .msl id _ _=>Nat.blt id n
 | _=>false
theorem ayC{n m:Nat}{a:AV}(h:obv n a=true):Fits n m a a:=by
 refine .under ?_;cases a<;>simp only[obv] at h<;>first | rfl | (cases h;done) | exact decide_eq_true (Nat.le_of_ble_eq_true h)
structure FP(n m:Nat) where
 a:AV
 b:AV
 h:Fits n m a b
structure FB(n m:Nat) where
 a:Bo
 b:Bo
 h:S1 n m a b
def rD{n m:Nat}:List (FP n m)->List AV
 | []=>[]
 | p::l=>p.a::rD l
def mD{n m:Nat}:List (FP n m)->List AV
 | []=>[]
 | p::l=>p.b::mD l
abbrev MR:=Option (List AV×List AV)
def sL(b:AV):MR->MR
 | some (l,as)=>some (b::l,as)
 | none=>none
def aeO(a b:AV):MR->MR
 | some (l,as)=>some (b::l,a::as)
 | none=>none
def axS(r:List AV->MR)(a:AV):List AV->MR
 | b::bs=>aeO a b (r bs)
 | []=>none
def sM(r:List AV->MR)(a:AV)(bs:List AV):MR:=match Us a with
 | true=>sL .any (r bs)
 | false=>none
section
variable {n m:Nat} {r:List AV->MR} {l:List AV} (hr:∀(fps:List (FP n m)) l2,r (mD fps)=some (l2,rD fps)->KX n m l l2) {a:AV} {fps:List (FP n m)} {l2:List AV}
include hr
theorem amX(h:axS r a (mD fps)=some (l2,rD fps)):KX n m (a::l) l2:=by
 cases fps with
 | nil=>cases h
 | cons p fps =>
   simp only[mD,axS] at h;unfold aeO at h;split at h
   · rename_i l3 as h1
     simp only[rD,Option.some.injEq,Prod.mk.injEq,List.cons.injEq] at h;obtain⟨rfl,rfl,rfl⟩:=h;exact .cons p.h (hr fps _ h1)
   · cases h
theorem iX(h:sM r a (mD fps)=some (l2,rD fps)):KX n m (a::l) l2:=by
 unfold sM at h;split at h
 · rename_i hd
   unfold sL at h;split at h
   · rename_i l3 as h1
     cases h;exact .cons (.drop hd) (hr fps _ h1)
   · cases h
 · cases h
end
def ZS(m:Nat):List (Nat×Nat)->List (Nat×Nat)
 | []=>[]
 | x::l=>match Nat.blt x.1 m with
   | true=>x::ZS m l
   | false=>ZS m l
theorem abT{m r n:Nat}{l:List (Nat×Nat)}(h:Fl r (ZS m l)=some n):Fl r l=some n/\r < m:=by
 induction l with
 | nil=>cases h
 | cons x l ih =>
   simp only[ZS] at h;split at h
   · rename_i hb
     simp only[Fl] at h ⊢;split at h
     · rename_i h1
       have:=beq_true h1;subst this;cases h;exact⟨rfl,Nat.le_of_ble_eq_true hb⟩
     · exact ih h
   · rename_i hb
     obtain⟨h1,h2⟩:=ih h;refine⟨?_,h2⟩;simp only[Fl];split
     · rename_i h3
       have:=beq_true h3;subst this;rw[show Nat.blt x.1 m=true from Nat.ble_eq_true_of_le h2] at hb;cases hb
     · exact h1
section
variable {P:Program} {G:Bc}
def zK(G:Bc)(s0:AS)(fr':List AV)(s':AS)(fr2:List AV)(s2:AS):Prop:=∀(cx:Cx) (w:World) (c':Cx) (w':World) (vs:List Value),Ext cx w c' w'->St G cx w s0->St G c' w' s'->CT c' w' fr' vs->∃c2,Ext cx w c2 w'/\St G c2 w' s2/\CT c2 w' fr2 vs
abbrev RR:=Option (List AV×AS×List AV×List Bo)
theorem abE{l:List (Nat×Bo)}{N n:Nat}(h:Kt l N):Kt (Uv n l) n:=by
 induction l generalizing N with
 | nil=>trivial
 | cons e l ih =>
   simp only[Uv];split
   · exact ih h.2
   · rename_i hb
     refine⟨?_,h.2⟩;have:¬n<=e.1:=λhle=>by rw[Nat.ble_eq_true_of_le hle] at hb;cases hb
     omega
def TW(P:Program)(G:Bc)(L:Code)(s0:AS)(Q:AX->List AV->AS->Prop):AX->List AV->AS->Prop
 | .normal,fr',s'=>∃fr2 s2,zK G s0 fr' s' fr2 s2/\WL P G (XS P G) H0 L fr2 s2 Q
 | .exit id,fr',s'=>∃fr2 s2,zK G s0 fr' s' fr2 s2/\Q (.exit id) fr2 s2
 | e,fr',s'=>Q e fr' s'
theorem bQ{L:Code}{fr:List AV}{s:AS}{Q:AX->List AV->AS->Prop}(h:W P G (XS P G) H0 L fr s (TW P G L s Q)):WL P G (XS P G) H0 L fr s Q:=by
 obtain⟨e,fr',s',hj,h2⟩:=h;cases e with
 | normal =>
   obtain⟨fr2,s2,hf,e3,fr3,s3,h3,h4⟩:=h2;exact⟨e3,fr3,s3,.loopN (.scope hj (λ_ h=>by cases h) (λcx w c' w' vs hx hs hs' hfr=>hf cx w c' w' vs hx hs hs' hfr)) h3,h4⟩
 | exit id =>
   obtain⟨fr2,s2,hf,h4⟩:=h2;exact⟨_,_,_,.loopX (.scope hj (λ_ h=>by cases h) (λcx w c' w' vs hx hs hs' hfr=>hf cx w c' w' vs hx hs hs' hfr)) (by simp),h4⟩
 | ret=>exact⟨_,_,_,.loopX hj (by simp),h2⟩
 | pan v=>exact⟨_,_,_,.loopX hj (by simp),h2⟩
def RF(P:Program)(fn:Func)(m:Nat)(Q:AX->List AV->AS->Prop)(v:AV)(s2:AS):Prop:=∀fr s,JF P s fn fr=some v->s.cut m=s2->Q .ret fr s
def Uh(m:Nat)(Q:AX->List AV->AS->Prop)(v:AV)(s2:AS):Prop:=∀fr s,s.cut m=s2->Q (.pan v) fr s
theorem xY{ks:List KI}{Q:AX->List AV->AS->Prop}{fr:List AV}{s:AS}(h:Q .ret fr s):Ee P G ks Q .ret fr s:=by
 induction ks with
 | nil=>exact h
 | cons k ks ih=>cases k<;>exact ih
theorem xX{ks:List KI}{Q:AX->List AV->AS->Prop}{fr:List AV}{s:AS}{v:AV}(h:Q (.pan v) fr s):Ee P G ks Q (.pan v) fr s:=by
 induction ks with
 | nil=>exact h
 | cons k ks ih=>cases k<;>exact ih
theorem RF.body{fn:Func}{m:Nat}{Q:CR->AS->Prop}{v:AV}{s2:AS}(h:Q (.ret v) s2):RF P fn m (Un P fn m Q) v s2:=λfr s h1 h2=>⟨v,h1,by rw[h2];exact h⟩
theorem Uh.body{fn:Func}{m:Nat}{Q:CR->AS->Prop}{v:AV}{s2:AS}(h:Q (.pan v) s2):Uh m (Un P fn m Q) v s2:=λfr s h2=>by show Q (.pan v) (s.cut m);rw[h2];exact h
theorem RF.outer{fn:Func}{m id:Nat}{ks:List KI}{Q:AX->List AV->AS->Prop}{v:AV}{s2:AS}(h:RF P fn m Q v s2):RF P fn m (EP id (Ee P G ks Q)) v s2:=λfr s h1 h2=>xY (h fr s h1 h2)
theorem Uh.outer{m id:Nat}{ks:List KI}{Q:AX->List AV->AS->Prop}{v:AV}{s2:AS}(h:Uh m Q v s2):Uh m (EP id (Ee P G ks Q)) v s2:=λfr s h1=>xX (h fr s h1)
theorem RF.Gb{fn:Func}{m:Nat}{L:Code}{s0:AS}{Q:AX->List AV->AS->Prop}{v:AV}{s2:AS}(h:RF P fn m Q v s2):RF P fn m (TW P G L s0 Q) v s2:=h
theorem Uh.Gb{m:Nat}{L:Code}{s0:AS}{Q:AX->List AV->AS->Prop}{v:AV}{s2:AS}(h:Uh m Q v s2):Uh m (TW P G L s0 Q) v s2:=h
def aDQ(P:Program)(fn:Func)(m:Nat):HR->Option (List Cd×AV×AS)
 | some (.fin .ret,[],cd,fr,s)=>(match JF P s fn fr with
   | some v=>some (cd,v,s.cut m)
   | none=>none)
 | _=>none
def Vg(P:Program)(G:Bc)(_l:List (PC P G))(Q:AX->List AV->AS->Prop)(r:HR)(X:Prop):Prop:=∀sp cd fr' s',r=some (sp,[],cd,fr',s')->Rq P G cd->SqQ P G Q fr' s' sp->X
theorem Ac{c:Code}{fr:List AV}{s:AS}{Q:AX->List AV->AS->Prop}(n:Nat)(l:List (PC P G)):Vg P G l Q (Tw P G n c [] (pHs l) fr s) (W P G (XS P G) H0 c fr s Q):=λ_ _ _ _ h hc hk=>cW n c [] h hc hk
theorem eM{id:Nat}{ks:List KI}{fr:List AV}{s:AS}{Q:AX->List AV->AS->Prop}(n:Nat)(l:List (PC P G)):Vg P G l Q (Ru (Tw P G n) ks .normal (pHs l) fr s) (EP id (Ee P G ks Q) (.exit id) fr s):=λ_ _ _ _ h hc hk=>by
 show Ee P G ks Q (E5 id (.exit id)) fr s;have:E5 id (.exit id)=.normal:=by simp[E5]
 rw[this];exact cU (cW n) ks _ h hc hk
theorem go_ret{r:HR}{X:Prop}{Q:AX->List AV->AS->Prop}(fn:Func)(m:Nat){l:List (PC P G)}(v:AV)(s2:AS)(R:Vg P G l Q r X)(h:aDQ P fn m r=some (mH l,v,s2))(k:RF P fn m Q v s2):X:=by
 unfold aDQ at h;split at h
 · rename_i cd fr' s'
   split at h
   · rename_i v' hv
     simp only[Option.some.injEq,Prod.mk.injEq] at h;obtain⟨rfl,rfl,rfl⟩:=h;exact R _ _ _ _ rfl (Pn l) (k _ _ hv rfl)
   · cases h
 · cases h
def nC(a:AV):AV:=match Us a with
 | true=>.any
 | false=>a
theorem vK{a:AV}{c:Cx}{w:World}{v:Value}(hr:Rp c w a v):Rp c w (nC a) v:=by
 unfold nC;split
 · rename_i h;exact .any (Tq hr h)
 · exact hr
inductive Lp(γ δ ρ:Type) where
 | nx (x:γ)
 | ex (x:δ)
 | rt (r:ρ)
section loops
variable {α γ δ ρ:Type}
def Rb(k:γ->Option (δ⊕ρ)):Lp γ δ ρ->Option (δ⊕ρ)
 | .nx x=>k x
 | .ex d=>some (.inl d)
 | .rt r=>some (.inr r)
def C4(body:Nat->α->γ->Option (Lp γ δ ρ))(done:γ->δ):List α->Nat->γ->Option (δ⊕ρ)
 | [],_,x=>some (.inl (done x))
 | y::l,i,x=>(body i y x).bind (Rb (C4 body done l (i+1)))
def EM(body:γ->Option (Lp γ δ ρ)):Nat->γ->Option (δ⊕ρ)
 | 0,_=>none
 | n+1,x=>(body x).bind (Rb (EM body n))
def Tc{β:Type}(n:Nat)(x:Option β):Option β:=if n<=9223372036854775807 then x else none
theorem aLQ{β:Type}{n:Nat}{x:Option β}{r:β}(h:Tc n x=some r):n<=9223372036854775807/\x=some r:=by
 unfold Tc at h;split at h
 · rename_i h1;exact⟨h1,h⟩
 · cases h
theorem aIO{β:Type}{b:Bool}{t f:Option β}{r:β}(h:cond b t f=some r):(b=true/\t=some r)\/(b=false/\f=some r):=by
 cases b
 · exact .inr ⟨rfl,h⟩
 · exact .inl ⟨rfl,h⟩
theorem gK{β κ:Type}{m:Option κ}{k:κ->Option β}{r:β}(h:m.bind k=some r):∃y,m=some y/\k y=some r:=by
 cases m with
 | none=>cases h
 | some y=>exact⟨y,rfl,h⟩
def LQ(Qx:δ->Prop)(Qr:ρ->Prop):δ⊕ρ->Prop
 | .inl x=>Qx x
 | .inr r=>Qr r
def RQ(Qn:γ->Prop)(Qx:δ->Prop)(Qr:ρ->Prop):Lp γ δ ρ->Prop
 | .nx x=>Qn x
 | .ex x=>Qx x
 | .rt r=>Qr r
theorem akE{J:Type}{L:Code}{Q:AX->List AV->AS->Prop}{body:Nat->α->γ->Option (Lp γ δ ρ)}{done:γ->δ}(l:List α)(F:Nat->γ->J->List AV)(S:Nat->γ->J->AS)(Ok:J->Prop)(Qx:δ->Prop)(Qr:ρ->Prop)
   (hz:∀i x j,Ok j->l.length<=i->Qx (done x)->WL P G (XS P G) H0 L (F i x j) (S i x j) Q)
   (hs:∀i y x j r,Ok j->l[i]?=some y->i < l.length->body i y x=some r->RQ (λx'=>∀j',Ok j'->WL P G (XS P G) H0 L (F (i+1) x' j') (S (i+1) x' j') Q) Qx Qr r->WL P G (XS P G) H0 L (F i x j) (S i x j) Q) :
   ∀{x:γ} {res:δ⊕ρ} (i0:Nat),C4 body done (l.drop i0) i0 x=some res->LQ Qx Qr res->∀j,Ok j->WL P G (XS P G) H0 L (F i0 x j) (S i0 x j) Q:=by
 have key:∀(k:List α) (i:Nat) (x:γ) (res:δ⊕ρ),l.drop i=k->C4 body done k i x=some res->LQ Qx Qr res->∀j,Ok j->WL P G (XS P G) H0 L (F i x j) (S i x j) Q:=by
   intro k
   induction k with
   | nil =>
     intro i x res hd h hq j hj;simp only[C4,Option.some.injEq] at h;subst h;exact hz i x j hj (List.drop_eq_nil_iff.1 hd) hq
   | cons y k ih =>
     intro i x res hd h hq j hj
     have hi:i < l.length:=by
       rcases Nat.lt_or_ge i l.length with h1 | h1
       · exact h1
       · rw[List.drop_eq_nil_of_le h1] at hd;cases hd
     have hy:l[i]?=some y:=by rw[<- List.head?_drop,hd];rfl
     have hd2:l.drop (i+1)=k:=by rw[<- List.tail_drop,hd];rfl
     obtain⟨r,hb,h⟩:=gK h;refine hs i y x j r hj hy hi hb ?_;cases r with
     | nx x'=>exact λj' hj'=>ih (i+1) x' res hd2 h hq j' hj'
     | ex d=>simp only[Rb,Option.some.injEq] at h;subst h;exact hq
     | rt v=>simp only[Rb,Option.some.injEq] at h;subst h;exact hq
 intro x res i0 h hq j hj;exact key _ i0 x res rfl h hq j hj
theorem akF{J:Type}{L:Code}{Q:AX->List AV->AS->Prop}{body:γ->Option (Lp γ δ ρ)}(F:γ->J->List AV)(S:γ->J->AS)(Ok:J->Prop)(Qx:δ->Prop)(Qr:ρ->Prop)
   (hs:∀x j r,Ok j->body x=some r->RQ (λx'=>∀j',Ok j'->WL P G (XS P G) H0 L (F x' j') (S x' j') Q) Qx Qr r->WL P G (XS P G) H0 L (F x j) (S x j) Q) :
   ∀(n:Nat) {x:γ} {res:δ⊕ρ},EM body n x=some res->LQ Qx Qr res->∀j,Ok j->WL P G (XS P G) H0 L (F x j) (S x j) Q:=by
 intro n
 induction n with
 | zero=>intro x res h;cases h
 | succ n ih =>
   intro x res h hq j hj;obtain⟨r,hb,h⟩:=gK h;refine hs x j r hj hb ?_;cases r with
   | nx x'=>exact λj' hj'=>ih h hq j' hj'
   | ex d=>simp only[Rb,Option.some.injEq] at h;subst h;exact hq
   | rt v=>simp only[Rb,Option.some.injEq] at h;subst h;exact hq
def L5(body:γ->Option (Lp γ δ ρ))(x:γ):Option (δ⊕ρ):=open Classical in if h:∃n r,EM body n x=some r then some (Classical.choose (Classical.choose_spec h)) else none
theorem alH{body:γ->Option (Lp γ δ ρ)}{x:γ}{r:δ⊕ρ}(h:L5 body x=some r):∃n,EM body n x=some r:=by
 unfold L5 at h;split at h
 · rename_i hx
   have:=Classical.choose_spec (Classical.choose_spec hx);rw[Option.some.inj h] at this;exact⟨_,this⟩
 · cases h
theorem Yl{body:γ->Option (Lp γ δ ρ)}:∀{n m:Nat} {x:γ} {r:δ⊕ρ},EM body n x=some r->n<=m->EM body m x=some r:=by
 intro n
 induction n with
 | zero=>intro m x r h;cases h
 | succ n ih =>
   intro m x r h hm;cases m with
   | zero=>omega
   | succ m =>
     obtain⟨a,ha,h⟩:=gK h;simp only[EM,ha,Option.bind_some];cases a with
     | nx x'=>exact ih h (by omega)
     | ex d=>exact h
     | rt v=>exact h
theorem Ff{body:γ->Option (Lp γ δ ρ)}{n:Nat}{x:γ}{r:δ⊕ρ}(h:EM body n x=some r):L5 body x=some r:=by
 unfold L5;have hx:∃n r,EM body n x=some r:=⟨n,r,h⟩;rw[dif_pos hx];have h2:=Classical.choose_spec (Classical.choose_spec hx);have h3:=Yl h (Nat.le_max_left n (Classical.choose hx));have h4:=Yl h2 (Nat.le_max_right n (Classical.choose hx));rw[h3] at h4;rw[Option.some.inj h4]
end loops
end
end AI
