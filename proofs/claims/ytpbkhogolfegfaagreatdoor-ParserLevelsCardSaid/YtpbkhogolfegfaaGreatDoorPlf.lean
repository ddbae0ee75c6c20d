/- Part of a proof: see the last text. -/
import Derived.Test.YtpbkhogolfegfaaGreatDoorPle
set_option linter.unusedVariables false
set_option linter.unusedSimpArgs false
set_option linter.defProp false
noncomputable section
namespace AI
open Go Go.RowKit
def Nw(op:Op):Bool:=match op with
 | .call cl=>(match cl.callee with | .value _=>true | _=>false)
 | _=>false
def P8(op:Op):Bool:=match op with
 | .call cl=>(match cl.callee with | .value _=>true | .builtin .append=>true | _=>false)
 | _=>false
def anP{op:Op}(h:Nw op=true):P8 op=true:=by
 unfold Nw at h;split at h;split at h;rename_i Iy;simp[P8,Iy];cases h;cases h
def dC:List Hn->Bool
 | .a _ _::_=>true
 | .u _ _ _ _ _::_=>true
 | .cn _ _ _ _ _::_=>true
 | .mb _ _::_=>true
 | _=>false
def iJ(P:Program)(G:A8)(ops:Array Oper)(fr:List AV)(s:AS)(o:Oper)(hs:List Hn):HO:=match P8 o.op with
 | true=>(match dC hs with
   | true=>none
   | false=>Z2 P G ops fr s o hs)
 | false=>Z2 P G ops fr s o hs
def X4{P:Program}{G:A8}{ops:Array Oper}{fr:List AV}{s:AS}{o:Oper}{hs:List Hn}{r:AV×AS×List Hn×List Cd}(h:iJ P G ops fr s o hs=some r):Z2 P G ops fr s o hs=some r/\(P8 o.op=true->dC hs=false):=by
 unfold iJ at h;split at h;split at h;cases h;rename_i h1;exact⟨h,λ_=>h1⟩;rename_i h1;exact⟨h,λh2=>by rw[h1] at h2;cases h2⟩
def Sa{P:Program}{G:A8}{ops:Array Oper}{fr:List AV}{s:AS}{o:Oper}{hs:List Hn}{r:AV×AS×List Hn×List Cd}(h:iJ P G ops fr s o hs=some r):Z2 P G ops fr s o hs=some r/\(Nw o.op=true->dC hs=false):=⟨(X4 h).1,λh1=>(X4 h).2 (anP h1)⟩
abbrev HT:=Option (List Hn×List Cd×List (List AV×AS×AV)×List AV×AS)
def xB(cd:List Cd)(x:List AV×AS×AV):HT->HT
 | some (hs,cd',t,fr,s)=>some (hs,cd++cd',x::t,fr,s)
 | none=>none
def hTr(P:Program)(G:A8)(ops:Array Oper):List Oper->Nat->List Hn->List AV->AS->HT
 | [],_,hs,fr,s=>some (hs,[],[],fr,s)
 | o::l,q,hs,fr,s=>(match B2 o.op with
   | true=>xB [] (fr,s,OK ops fr o q) (hTr P G ops l (q+1) hs (IJ fr o.dst (OK ops fr o q)) s)
   | false=>(match iJ P G ops fr s o hs with
     | some (v,s1,SF,cd)=>xB cd (fr,s,v) (hTr P G ops l q SF (IJ fr o.dst v) s1)
     | none=>none))
def aCH(q0:Nat):Option AV->Bool
 | some (.el _)=>true
 | some (.ptr id _)=>Nat.blt id q0
 | _=>false
def aEE(q0:Nat):Option AV->Bool
 | some (.ptr id _)=>Nat.ble q0 id
 | _=>false
def slV:Option AV->Bool
 | some (.sl _ _ _)=>true
 | some (.sc (.string _))=>true
 | _=>false
def mpV(q0:Nat):Option AV->Bool
 | some (.mp id)=>Nat.blt id q0
 | _=>false
def indep(G:A8)(q0:Nat)(fr:List AV)(o:Oper):Bool:=match o.op with
 | .load _ a=>aCH q0 (AY G fr a)
 | .lookup _ m _ _=>mpV q0 (AY G fr m)
 | .store _ a _=>aEE q0 (AY G fr a)
 | .call cl=>(match cl.callee with
   | .value _=>true
   | .builtin .append=>true
   | .builtin .len=>(match cl.args.toList with
     | [x]=>slV (AY G fr x)
     | _=>false)
   | _=>quiet o.op)
 | .alloc _=>true
 | op=>quiet op
def Lw(G:A8)(ops:Array Oper)(q0:Nat):List Oper->List (List AV×AS×AV)->Bool
 | o::os,t::ts=>(match Cy ops t.1 o with
   | false=>Lw G ops q0 os ts
   | true=>(match indep G q0 t.1 o with
     | true=>Lw G ops q0 os ts
     | false=>false))
 | _,_=>true
def mV(q0:Nat)(s s':AS):Prop:=∀id,id < q0->s'.get id=s.get id
def IF{id QK:Nat}{b:AL}(h:QK≠id):∀(l:List (Nat×AL)),look QK (QT id b l)=look QK l
 | []=>rfl
 | e::l=>by
   simp only[QT];split;rename_i hb;have hb:=beq_true hb;simp only[look]
   have h1:Nat.beq id QK=false:=by cases hq:Nat.beq id QK with
     | true=>exact absurd (beq_true hq).symm h
     | false=>rfl
   rw[hb,h1];simp only[look,IF h l]
section
variable {P:Program} {G:A8} {ops:Array Oper}
def amX{q0:Nat}{fr:List AV}{s s1:AS}{o:Oper}{hs hs':List Hn}{v:AV}{cd:List Cd}(h:Z2 P G ops fr s o hs=some (v,s1,hs',cd))(hA:P8 o.op=true->dC hs=false)(hi:Cy ops fr o=true->indep G q0 fr o=true)(hc:QU P G cd)(ha:B2 o.op=false):mV q0 s s1:=by
 intro id hid;have hj:=OP h hc;cases hq:quiet o.op with
 | true=>rw[(JT hq hj).1]
 | false =>
   unfold Z2 at h;split at h;rename_i hw;have hi:=hi hw;unfold indep at hi;split at hi;rename_i t a ho;rw[ho] at hq;cases hq;rename_i t m k ok ho;rw[ho] at hq;cases hq;rename_i t a x ho;unfold wY at h;rw[ho] at h;simp only at h
   have h1:∃a' x',Ba G fr a=some a'/\Ba G fr x=some x'/\Kr P s t a' x'=some s1:=by
     rcases Vn h hc with ⟨a',x',h2,h3,h4,_⟩ | h2
     exact⟨a',x',h2,h3,h4⟩;have h1:=Vm h2;rw[MN] at h1;unfold PU at h1;rw[ho] at h1;simp only at h1;split at h1;rename_i a' x' ha' Tv;obtain⟨s',FW,he⟩:=map_some h1;injection he with he1 he2
     subst he2;exact⟨a',x',ha',Tv,FW⟩;cases h1
   rw[Cv] at hi;obtain⟨a',x',ha',Tv,FW⟩:=h1;rw[ha'] at hi;unfold aEE at hi;split at hi;rename_i QK off O6;cases O6;unfold Kr at FW;split at FW;rename_i i id2 aMU Ur aeD;cases aeD;split at FW;split at FW;cases FW;have:=Nat.le_of_ble_eq_true hi;exact IF (by omega) _;cases FW;cases FW;cases FW;cases hi;rename_i cl ho;split at hi;rename_i f Iy;unfold wY at h;rw[ho] at h;simp only[Iy] at h;unfold X3 at h;split at h;split at h;cases h;rfl;cases h;have:=hA (by rw[ho];simp[P8,Iy]);simp[dC] at this;have:=hA (by rw[ho];simp[P8,Iy]);simp[dC] at this;have:=hA (by rw[ho];simp[P8,Iy]);simp[dC] at this;cases h;rename_i Iy;unfold wY at h;rw[ho] at h;simp only[Iy] at h;have no:=hA (by rw[ho];simp[P8,Iy]);split at h;split at h;split at h;unfold adK at h;split at h;simp[dC] at no;simp[dC] at no;cases h;rfl;cases h;rfl;split at h;cases h;rfl;split at h;split at h;cases h;rfl;cases h;cases h;cases h;cases h;cases h;cases h;cases h;rename_i Iy;rw[ho] at hq;simp[quiet,Iy] at hq;rw[ho] at hq;rw[ho,hq] at hi;cases hi;rename_i e ho;rw[ho] at ha;cases ha;rw[hq] at hi;cases hi;cases h;rfl
def mV.refl(q0:Nat)(s:AS):mV q0 s s:=λ_ _=>rfl
def mV.trans{q0:Nat}{a b c:AS}(h:mV q0 a b)(k:mV q0 b c):mV q0 a c:=λid hid=>(k id hid).trans (h id hid)
def awW{q0:Nat}{l:List Oper}{q:Nat}{hs hs':List Hn}{fr fr':List AV}{s s':AS}{cd:List Cd}{t:List (List AV×AS×AV)}(h:hTr P G ops l q hs fr s=some (hs',cd,t,fr',s'))(hc:QU P G cd)(hi:Lw G ops q0 l t=true) :
   Sx P G (XS P G) H0 ops q l fr s t fr' s'/\(∀x∈t,mV q0 s x.2.1)/\mV q0 s s':=by
 induction l generalizing q hs fr s cd t with
 | nil=>simp only[hTr] at h;cases h;exact⟨.nil,(λx hx=>by cases hx),mV.refl _ _⟩
 | cons o l ih =>
   simp only[hTr] at h;cases ha:B2 o.op with
   | true =>
     rw[ha] at h;simp only at h;unfold xB at h;split at h;rename_i fN wO t2 fr2 s2 h2;cases h
     have Ur:Lw G ops q0 l t2=true:=by
       simp only[Lw] at hi;split at hi;exact hi;split at hi;exact hi;cases hi
     obtain⟨k1,k2,k3⟩:=ih h2 (hc.T7).2 Ur;refine⟨.alloc ha k1,λx hx=>?_,k3⟩;rcases List.mem_cons.1 hx with rfl | hx
     exact mV.refl _ _;exact k2 x hx;cases h
   | false =>
     rw[ha] at h;simp only at h;split at h;rename_i v s1 SF cd1 h1;unfold xB at h;split at h;rename_i fN wO t2 fr2 s2 h2;cases h;obtain⟨c1,c2⟩:=hc.T7
     have hi1:Cy ops fr o=true->indep G q0 fr o=true:=by
       intro hw;simp only[Lw,hw] at hi;split at hi;assumption;cases hi
     have Ur:Lw G ops q0 l t2=true:=by
       simp only[Lw] at hi;split at hi;exact hi;split at hi;exact hi;cases hi
     have hf:=amX (Sa h1).1 (X4 h1).2 hi1 c1 ha;obtain⟨k1,k2,k3⟩:=ih h2 c2 Ur;refine⟨.cons ha (OP (Sa h1).1 c1) k1,λx hx=>?_,hf.trans k3⟩;rcases List.mem_cons.1 hx with rfl | hx
     exact mV.refl _ _;exact hf.trans (k2 x hx);cases h;cases h
def xN{q0:Nat}{os:List Oper}{ts:List (List AV×AS×AV)}(h:Lw G ops q0 os ts=true){i:Nat}{o:Oper}{x:List AV×AS×AV}(ho:os[i]?=some o)(hx:ts[i]?=some x)(hw:Cy ops x.1 o=true):indep G q0 x.1 o=true:=by
 induction os generalizing ts i with
 | nil=>simp at ho
 | cons y os ih =>
   cases ts with
   | nil=>simp at hx
   | cons t ts =>
     simp only[Lw] at h;cases i with
     | zero =>
       simp at ho hx;subst ho hx;rw[hw] at h;simp only at h;split at h;assumption;cases h
     | succ i =>
       have h2:Lw G ops q0 os ts=true:=by
         split at h;exact h;split at h;exact h;cases h
       exact ih h2 (by simpa using ho) (by simpa using hx)
def acU{q0:Nat}{fr:List AV}{s0 s s2:AS}{o:Oper}{v:AV}(hq:quiet o.op=true)(hr:reads o.op=true)(hi:indep G q0 fr o=true)(h1:mV q0 s0 s)(h2:mV q0 s0 s2)(h:PU P G fr s o=some (.val v s)):PU P G fr s2 o=some (.val v s2):=by
 unfold indep at hi;split at hi;rename_i t a ho;rw[Cv] at hi;unfold PU at h ⊢;rw[ho] at h ⊢;simp only at h ⊢;obtain⟨v',h3,h4⟩:=map_some h;injection h4 with h4
 subst h4;obtain⟨b,h5,h6⟩:=bind_some h3;rw[h5] at hi ⊢;unfold aCH at hi;split at hi;rename_i O6;cases O6;simp only[Option.bind_some];rw[show Jq P s2 t (.el _)=Jq P s t (.el _) from rfl,h6];rfl;rename_i id off O6;cases O6;have hid:id < q0:=Nat.le_of_ble_eq_true hi
 have:Jq P s2 t (.ptr id off)=Jq P s t (.ptr id off):=by
   simp only[Jq];rw[h2 id hid,h1 id hid]
 simp only[Option.bind_some];rw[this,h6];rfl;cases hi
 · rename_i t m k ok ho
   rw[Cv] at hi;unfold PU at h ⊢;rw[ho] at h ⊢;simp only at h ⊢;unfold mpV at hi;split at hi
   · rename_i id O6
     have hid:id < q0:=Nat.le_of_ble_eq_true hi;rw[O6] at h ⊢;cases hk:Ba G fr k with
     | none=>rw[hk] at h;cases h
     | some b =>
       rw[hk] at h;simp only at h ⊢;obtain⟨v',h3,h4⟩:=map_some h;injection h4 with h4
       subst h4
       have:I9 P s2 t (.mp id) b ok=I9 P s t (.mp id) b ok:=by
         unfold I9;simp only;rw[h2 id hid,h1 id hid]
       rw[this,h3];rfl
   cases hi
 rename_i t a x ho;rw[ho] at hq;cases hq
 · rename_i cl ho
   split at hi;rename_i f Iy;rw[ho] at hq;simp[quiet,Iy] at hq;rename_i Iy;rw[ho] at hq;simp[quiet,Iy] at hq
   · rename_i Iy
     unfold PU at h ⊢;rw[ho] at h ⊢;simp only[SS,Iy] at h ⊢;split at hi
     · rename_i x hx
       rw[hx] at h ⊢;cases ht:cl.argTypes.toList with
       | nil=>rw[ht] at h;cases h
       | cons t1 ts =>
         cases ts with
         | cons _ _=>rw[ht] at h;cases h
         | nil =>
           rw[ht] at h;simp only at h ⊢;obtain⟨v',h3,h4⟩:=map_some h;injection h4 with h4
           subst h4;obtain⟨b,h5,h6⟩:=bind_some h3;rw[Cv,h5] at hi;rw[h5];simp only[Option.bind_some]
           have:Wr P s2 t1 b=Wr P s t1 b:=by
             unfold slV at hi;split at hi
             · rename_i O6;cases O6;unfold Wr;split<;>first | rfl | (simp_all;done)
             · rename_i O6;cases O6;unfold Wr;split<;>first | rfl | (simp_all;done)
             cases hi
           rw[this,h6];rfl
     cases hi
   · rename_i hn1 hn2
     rw[ho] at hr;unfold reads at hr;simp only at hr
     first
       | (cases hr;done)
       | (split at hr
          rename_i Iy;exact absurd Iy hn2;cases hr)
 rename_i e ho;rw[ho] at hq;cases hq;rename_i hn1 hn2 hn3 hn4 hn5;exfalso;unfold reads at hr;split at hr;rename_i ho;exact hn1 _ _ ho;rename_i ho;exact hn2 _ _ _ _ ho;rename_i ho;exact hn4 _ ho;cases hr
def acI{id:Nat}{fr fr':List AV}{s s':AS}{r:List AL}{t:List (List AV×AS×AV)}{hs hs':List Hn}{cd:List Cd}(Hv:L2 ops=true)(hr:rsv P ops.toList=some r)(h:hTr P G ops ops.toList s.nx hs fr (s.hold r)=some (hs',cd,t,fr',s'))(hc:QU P G cd)(hi:Lw G ops s.nx ops.toList t=true)(aeN:Xi P ops t s' s.nx r=true):J P G (XS P G) H0 (.code (.region id ops true) fr s .normal fr' s'):=by
 obtain⟨xK,aKQ,aCZ⟩:=awW h hc hi;have hlen:t.length=ops.size:=by rw[xK.len,Array.length_toList]
 have hfk:∀k,mV s.nx (s.hold r) (FR t s' k):=by
   intro k;unfold FR;split;rename_i x hx;exact aKQ x (List.mem_of_getElem? hx);exact aCZ
 obtain⟨h0,SE⟩:=xK.at;have oF:∀i o,ops[i]?=some o->Cm ops i=o.dst:=λi o ho=>by unfold Cm;rw[ho];rfl
 obtain⟨Vr,X9⟩:=xK.cK (Cm ops) (Kj t) fr 0 rfl (λi o ho=>by rw[Nat.zero_add];exact oF i o (by rw[<- Array.getElem?_toList];exact ho)) (λi=>.inl (by rw[Nat.zero_add]));rw[Nat.zero_add,Array.length_toList] at Vr
 have I2:∀(i:Nat) (o:Oper),ops[i]?=some o->B2 o.op=false->J P G (XS P G) H0 (.op ops o (Iz fr (Cm ops) (Kj t) (λ_=>true) i) (FR t s' i) (.ret (Kj t i)) (FR t s' (i+1))):=by
   intro i o ho mP;obtain⟨fi,h1,h2⟩:=SE i o (Cj ho);have:=X9 i _ h1;simp only[Nat.zero_add] at this;rcases h2 with ⟨_,h2⟩ | ⟨h2,_⟩
   rw[<- this];exact h2;rw[mP] at h2;cases h2
 have aCT:∀(i:Nat) (o:Oper),ops[i]?=some o->B2 o.op=true->FR t s' (i+1)=FR t s' i/\Kj t i=OK ops (Iz fr (Cm ops) (Kj t) (λ_=>true) i) o (s.nx+rk ops i):=by
   intro i o ho dB;obtain⟨fi,h1,h2⟩:=SE i o (Cj ho);have:=X9 i _ h1;simp only[Nat.zero_add] at this;rcases h2 with ⟨h2,_⟩ | ⟨_,h2⟩
   rw[dB] at h2;cases h2;rw[<- this];exact h2
 have mP:∀o:Oper,quiet o.op=true->B2 o.op=false:=by
   intro o hq;cases dB:B2 o.op with
   | false=>rfl
   | true=>obtain⟨e,he⟩:=Ks dB;rw[QI he] at hq;cases hq
 have hnl:∀o:Oper,calm o.op=false->B2 o.op=false:=by
   intro o hq;cases dB:B2 o.op with
   | false=>rfl
   | true=>unfold calm at hq;rw[dB] at hq;cases hq
 have hsn:FR t s' ops.size=s':=by
   unfold FR;rw[List.getElem?_eq_none (by omega)]
 have hsk:∀k,k<=ops.size->(t.map (λx=>x.2.1)++[s'])[k]?=some (FR t s' k):=by
   intro k hk;unfold FR;by_cases hkt:k < t.length;rw[List.getElem?_append_left (by simpa using hkt),List.getElem?_map,List.getElem?_eq_getElem hkt];rfl
   have:k=t.length:=by omega
   subst this;rw[List.getElem?_append_right (by simp)];simp
 have sP:∀l,l∈MQ ops.toList 0->Yo ops l:=by
   intro l hl;obtain⟨j,o',e,h5,h6⟩:=dI hl;rw[Nat.zero_add] at e;subst e;exact⟨o',by rw[<- Array.getElem?_toList];exact h5,h6⟩
 have key:=J.draw (P:=P) (G:=G) (X:=XS P G) (H:=H0) (id:=id) (f0:=fr) (s0:=s) r (Kj t) (FR t s') h0 Hv (λi o ho hl=>I2 i o ho (hnl o hl)) (λi o ho hq=>by
   obtain⟨h1,h2⟩:=JT hq (I2 i o ho (mP o hq));refine⟨h1,?_⟩;rcases h2 with h2 | ⟨hw,h2⟩
   exact .inl h2
   · refine .inr ⟨hw,λk hk Zs=>?_⟩
     cases hrd:reads o.op with
     | false=>exact TM hq hrd h2 _
     | true =>
       obtain⟨fi,hti,_⟩:=SE i o (Cj ho);have hfi:=X9 i _ hti;simp only[Nat.zero_add] at hfi;have hin:=xN hi (Cj ho) hti (by rw[hfi];exact hw);rw[hfi] at hin;exact acU hq hrd hin (hfk i) (hfk k) h2) (λi o e ho he=>by
   have dB:B2 o.op=true:=by rw[he];rfl
   obtain⟨h1,h2⟩:=aCT i o ho dB;refine⟨h1,?_⟩
   have hrk:rk ops i < r.length:=by
     rw[aqB hr];exact qD (Cj ho) dB (by rw[Array.length_toList];exact(Array.getElem?_eq_some_iff.1 ho).1)
   cases hw:Cy ops (Iz fr (Cm ops) (Kj t) (λ_=>true) i) o with
   | false=>unfold OK at h2;rw[hw] at h2;exact .inl ⟨rfl,h2⟩
   | true =>
     unfold OK at h2;rw[hw] at h2;obtain⟨fi,hti,_⟩:=SE i o (Cj ho);have hfi:=X9 i _ hti;simp only[Nat.zero_add] at hfi
     have hal:Tl P ops (Ij ops.toList []) (MQ ops.toList 0) (t.map (·.2.1)++[s']) ops.toList t 0 s.nx=true:=by
       unfold Xi at aeN;split at aeN;simp at hrk;exact aeN
     obtain⟨z,hz,hbx⟩:=wC hal (Cj ho) hti he (by rw[hfi];exact hw);rw[Nat.zero_add] at hbx;exact .inr ⟨rfl,z,hz,hrk,h2,λk hk Zs=>wM hbx (hsk k hk) (by rw[Nat.zero_add];exact asS sP Zs)⟩)
 rw[<- Vr,hsn] at key;exact key
end
end AI
namespace AI
open Go Go.RowKit
def xC(P:Program)(G:A8)(ops:Array Oper)(c:Nat):List Oper->Nat->List Hn->List AV->AS->HT
 | [],_,hs,fr,s=>some (hs,[],[],fr,s)
 | o::l,i,hs,fr,s=>(match (match Nat.beq i c with
     | true=>Z2 P G ops fr s o hs
     | false=>iJ P G ops fr s o hs) with
   | some (v,s1,SF,cd)=>xB cd (fr,s,v) (xC P G ops c l (i+1) SF (IJ fr o.dst v) s1)
   | none=>none)
def Ux(ms:List Nat)(c:Nat):List Oper->Nat->Bool
 | [],_=>true
 | o::l,i=>(match Nat.beq i c with
   | true=>!calm o.op
   | false=>(match Nw o.op with
     | true=>Nat.blt i c
     | false=>quiet o.op&&(!reads o.op||(Nat.blt i c&&R7 ms c i))))&&Ux ms c l (i+1)
section
variable {P:Program} {G:A8} {ops:Array Oper}
def Yj{ms:List Nat}{c:Nat}:∀{l:List Oper} {i j:Nat} {o:Oper},Ux ms c l i=true->l[j]?=some o->(i+j=c->calm o.op=false)/\(i+j≠c->(Nw o.op=true/\i+j < c)\/(quiet o.op=true/\(reads o.op=true->i+j < c/\R7 ms c (i+j)=true))):=by
 intro l
 induction l with
 | nil=>intro i j o h ho;simp at ho
 | cons x l ih =>
   intro i j o h ho;simp only[Ux,Bool.and_eq_true] at h;cases j with
   | zero =>
     simp at ho;subst ho;have h1:=h.1;split at h1;rename_i hb;have:=Nat.eq_of_beq_eq_true hb;exact⟨λ_=>by simpa using h1,λhn=>absurd this hn⟩
     rename_i hb;have:=Nat.ne_of_beq_eq_false hb;refine⟨λhn=>absurd hn this,λ_=>?_⟩;split at h1;rename_i hv;exact .inl ⟨hv,Nat.le_of_ble_eq_true h1⟩;simp only[Bool.and_eq_true,Bool.or_eq_true,Bool.not_eq_true'] at h1;refine .inr ⟨h1.1,λhr=>?_⟩;rcases h1.2 with h2 | h2
     rw[hr] at h2;cases h2;exact⟨Nat.le_of_ble_eq_true h2.1,h2.2⟩
   | succ j =>
     have:=ih (i:=i+1) (j:=j) h.2 (by simpa using ho)
     rw[show i+(j+1)=i+1+j by omega];exact this
def Wc{ms:List Nat}{c:Nat}{l:List Oper}{i j:Nat}{o:Oper}(hl:Ux ms c l i=true)(hj:l[j]?=some o):B2 o.op=false:=by
 have ho:=Yj hl hj;cases ha:B2 o.op with
 | false=>rfl
 | true =>
   obtain⟨e,he⟩:=Ks ha;by_cases hic:i+j=c;have:=ho.1 hic;unfold calm at this;rw[ha] at this;simp at this;rcases ho.2 hic with ⟨h1,_⟩ | ⟨h1,_⟩
   rw[he] at h1;cases h1;rw[QI he] at h1;cases h1
def amY{fr:List AV}{s s1:AS}{o:Oper}{hs hs':List Hn}{v:AV}{cd:List Cd}(h:Z2 P G ops fr s o hs=some (v,s1,hs',cd))(hv:Nw o.op=true)(hA:dC hs=false):s1=s:=by
 unfold Z2 at h;split at h;unfold Nw at hv;split at hv;rename_i cl ho;split at hv;rename_i f Iy;unfold wY at h;rw[ho] at h;simp only[Iy] at h;unfold X3 at h;split at h;split at h;cases h;rfl;cases h;simp[dC] at hA;simp[dC] at hA;simp[dC] at hA;cases h;cases hv;cases hv;cases h;rfl
def anE{c q:Nat}{ms:List Nat}:∀{l:List Oper} {i:Nat} {hs hs':List Hn} {fr fr':List AV} {s s':AS} {cd:List Cd} {t:List (List AV×AS×AV)},xC P G ops c l i hs fr s=some (hs',cd,t,fr',s')->QU P G cd->Ux ms c l i=true->Sx P G (XS P G) H0 ops q l fr s t fr' s'/\∀j,j<=l.length->i+j<=c->FR t s' j=s:=by
 intro l
 induction l with
 | nil =>
   intro i hs hs' fr fr' s s' cd t h hc hl;simp only[xC] at h;cases h;exact⟨.nil,λj hj _=>by rfl⟩
 | cons o l ih =>
   intro i hs hs' fr fr' s s' cd t h hc hl;simp only[xC] at h;split at h
   · rename_i v s1 SF cd1 h1
     unfold xB at h;split at h
     · rename_i fN wO t2 fr2 s2 h2
       cases h;obtain⟨c1,c2⟩:=hc.T7;have ho:=Yj (j:=0) hl rfl;have mP:B2 o.op=false:=Wc (j:=0) hl rfl
       have hl2:Ux ms c l (i+1)=true:=by
         simp only[Ux,Bool.and_eq_true] at hl;exact hl.2
       have h3:Z2 P G ops fr s o hs=some (v,s1,SF,cd1):=by
         split at h1;exact h1;exact(Sa h1).1
       have hj:=OP h3 c1;obtain⟨k1,k2⟩:=ih h2 c2 hl2;refine⟨.cons mP hj k1,λj hjl hjc=>?_⟩;cases j with
       | zero=>rfl
       | succ j =>
         have e1:FR ((fr,s,v)::t2) s' (j+1)=FR t2 s' j:=by unfold FR;simp
         rw[e1,k2 j (by simpa using hjl) (by omega)]
         have hic:i+0≠c:=by omega
         rcases ho.2 hic with ⟨hv,_⟩ | ⟨hq,_⟩
         split at h1;rename_i hb;have:=Nat.eq_of_beq_eq_true hb;omega;exact amY h3 hv ((Sa h1).2 hv);exact(JT hq hj).1
     cases h
   cases h
def wU{id c:Nat}{fr fr':List AV}{s s':AS}{t:List (List AV×AS×AV)}{hs hs':List Hn}{cd:List Cd}(Hv:L2 ops=true)(Vp:Nat.blt c ops.size=true)(hl:Ux (Ij ops.toList []) c ops.toList 0=true)(h:xC P G ops c ops.toList 0 hs fr s=some (hs',cd,t,fr',s'))(hc:QU P G cd):J P G (XS P G) H0 (.code (.region id ops true) fr s .normal fr' s'):=by
 have Iy:c < ops.size:=Nat.le_of_ble_eq_true Vp;obtain⟨xK,hsm⟩:=anE (q:=s.nx) h hc hl;have hlen:t.length=ops.size:=by rw[xK.len,Array.length_toList]
 obtain⟨h0,SE⟩:=xK.at;have oF:∀i o,ops[i]?=some o->Cm ops i=o.dst:=λi o ho=>by unfold Cm;rw[ho];rfl
 obtain⟨Vr,X9⟩:=xK.cK (Cm ops) (Kj t) fr 0 rfl (λi o ho=>by rw[Nat.zero_add];exact oF i o (by rw[<- Array.getElem?_toList];exact ho)) (λi=>.inl (by rw[Nat.zero_add]));rw[Nat.zero_add,Array.length_toList] at Vr
 have atT:∀(i:Nat) (o:Oper),ops[i]?=some o->(i=c->calm o.op=false)/\(i≠c->(Nw o.op=true/\i < c)\/(quiet o.op=true/\(reads o.op=true->i < c/\R7 (Ij ops.toList []) c i=true))):=by
   intro i o ho;have:=Yj (j:=i) hl (Cj ho);rwa[Nat.zero_add] at this
 have aeI:∀(i:Nat) (o:Oper),ops[i]?=some o->B2 o.op=false:=λi o ho=>Wc (j:=i) hl (Cj ho)
 have I2:∀(i:Nat) (o:Oper),ops[i]?=some o->J P G (XS P G) H0 (.op ops o (Iz fr (Cm ops) (Kj t) (λ_=>true) i) (FR t s' i) (.ret (Kj t i)) (FR t s' (i+1))):=by
   intro i o ho;obtain⟨fi,h1,h2⟩:=SE i o (Cj ho);have:=X9 i _ h1;simp only[Nat.zero_add] at this;rcases h2 with ⟨_,h2⟩ | ⟨h2,_⟩
   rw[<- this];exact h2;rw[aeI i o ho] at h2;cases h2
 have hsn:FR t s' ops.size=s':=by
   unfold FR;rw[List.getElem?_eq_none (by omega)]
 have iV:∀k,k<=c->FR t s' k=s:=λk hk=>hsm k (by rw[Array.length_toList];omega) (by omega)
 have sP:Yo ops c:=by
   have ho:ops[c]?=some ops[c]:=Array.getElem?_eq_getElem Iy;exact⟨_,ho,(atT c _ ho).1 rfl⟩
 have key:=J.draw (P:=P) (G:=G) (X:=XS P G) (H:=H0) (id:=id) (f0:=fr) (s0:=s) [] (Kj t) (FR t s') h0 Hv (λi o ho _=>I2 i o ho) (λi o ho hq=>by
   obtain⟨h1,h2⟩:=JT hq (I2 i o ho);refine⟨h1,?_⟩;rcases h2 with h2 | ⟨hw,h2⟩
   exact .inl h2
   · refine .inr ⟨hw,λk hk Zs=>?_⟩
     cases hrd:reads o.op with
     | false=>exact TM hq hrd h2 _
     | true =>
       have hic:i≠c:=λe=>by
         subst e;obtain⟨o2,ho2,hcm⟩:=sP;rw[ho] at ho2;cases ho2;rw[XL hq] at hcm;cases hcm
       obtain⟨hlt,hd⟩:i < c/\R7 (Ij ops.toList []) c i=true:=by
         rcases(atT i o ho).2 hic with ⟨hv,_⟩ | ⟨_,h3⟩
         exfalso;unfold Nw at hv;split at hv;rename_i cl iU;split at hv;rename_i f aKJ;rw[iU] at hq;simp[quiet,aKJ] at hq;cases hv;cases hv;exact h3 hrd
       have hkc:=Zs.2 c sP hd;rw[iV k hkc];rw[iV i (by omega)] at h2;exact h2) (λi o e ho he=>by
   have:=aeI i o ho;rw[he] at this;cases this)
 rw[<- Vr,hsn] at key;exact key
end
end AI
namespace AI
open Go Go.RowKit
def ajA(G:A8)(fr:List AV)(o:Oper)(hs:List Hn):Option (List Nat):=match o.op with
 | .store _ a _=>(match Ba G fr a with
   | some (.ptr id _)=>some [id]
   | _=>none)
 | .mapUpdate _ m _ _=>(match AY G fr m with
   | some (.mp id)=>some [id]
   | _=>none)
 | .call cl=>(match cl.callee with
   | .value _=>(match hs with
     | .w _::_=>some []
     | .u _ _ _ Qy _::_=>some (Qy.map (·.1))
     | .cn _ h _ _ _::_=>some (h.map (·.1))
     | _=>none)
   | .builtin .append=>(match hs with
     | .g _ _ _::_=>some []
     | .ae _::_=>some []
     | _=>none)
   | _=>(match quiet o.op with
     | true=>some []
     | false=>none))
 | op=>(match quiet op with
   | true=>some []
   | false=>none)
def YX(G:A8)(ops:Array Oper)(fr:List AV)(o:Oper)(hs:List Hn):Option (List Nat):=match Cy ops fr o with
 | true=>ajA G fr o hs
 | false=>some []
abbrev HA:=Option (List Hn×List Cd×List (List AV×AS×AV)×List (List Nat)×List AV×AS)
def atO(cd:List Cd)(x:List AV×AS×AV)(T:List Nat):HA->HA
 | some (hs,cd',t,Ts,fr,s)=>some (hs,cd++cd',x::t,T::Ts,fr,s)
 | none=>none
def xA(P:Program)(G:A8)(ops:Array Oper):List Oper->List Hn->List AV->AS->HA
 | [],hs,fr,s=>some (hs,[],[],[],fr,s)
 | o::l,hs,fr,s=>(match B2 o.op with
   | true=>none
   | false=>(match YX G ops fr o hs with
     | some T=>(match Z2 P G ops fr s o hs with
       | some (v,s1,SF,cd)=>atO cd (fr,s,v) T (xA P G ops l SF (IJ fr o.dst v) s1)
       | none=>none)
     | none=>none))
def apH(G:A8)(fr:List AV)(o:Oper):Option (Option Nat):=match o.op with
 | .load _ a=>(match AY G fr a with
   | some (.ptr id _)=>some (some id)
   | some (.el _)=>some none
   | _=>none)
 | .lookup _ m _ _=>(match AY G fr m with
   | some (.mp id)=>some (some id)
   | _=>none)
 | .call cl=>(match cl.callee with
   | .builtin .len=>(match cl.args.toList with
     | [x]=>(match slV (AY G fr x) with
       | true=>some none
       | false=>none)
     | _=>none)
   | _=>none)
 | _=>none
def afR(a:Nat):List Nat->Bool
 | []=>false
 | b::l=>(match Nat.beq a b with
   | true=>true
   | false=>afR a l)
def UQ(ms:List Nat)(id i:Nat):List (List Nat)->Nat->Bool
 | [],_=>true
 | T::Ts,l=>(match afR id T with
   | true=>(match Nat.blt l i with
     | true=>R7 ms i l
     | false=>(match Nat.blt i l with
       | true=>R7 ms l i
       | false=>true))
   | false=>true)&&UQ ms id i Ts (l+1)
def kG(G:A8)(ops:Array Oper)(ms:List Nat)(Ts:List (List Nat)):List Oper->List (List AV×AS×AV)->Nat->Bool
 | o::os,t::ts,i=>(match Cy ops t.1 o with
   | false=>true
   | true=>(match reads o.op with
     | false=>true
     | true=>(match apH G t.1 o with
       | none=>false
       | some none=>true
       | some (some id)=>UQ ms id i Ts 0)))&&kG G ops ms Ts os ts (i+1)
 | _,_,_=>true
def jM{a:Nat}:∀{l:List Nat},afR a l=true↔a∈l
 | []=>by simp[afR]
 | b::l=>by
   simp only[afR];cases hb:Nat.beq a b with
   | true=>have:=Nat.eq_of_beq_eq_true hb;simp[this]
   | false =>
     have:=Nat.ne_of_beq_eq_false hb;simp[jM (l:=l),this]
def lK{id:Nat}:∀(l:List (Nat×AL)) (s:AS),id∉l.map (·.1)->(s.VO l).get id=s.get id
 | [],_,_=>rfl
 | e::l,s,h=>by
   simp only[List.map_cons,List.mem_cons,not_or] at h;rw[AS.VO,lK l _ h.2];exact IF h.1 _
def jJ{id:Nat}:∀{l:List (Nat×AL)} (m:List (Nat×AL)),id∉l.map (·.1)->look id (l++m)=look id m
 | [],_,_=>rfl
 | e::l,m,h=>by
   simp only[List.map_cons,List.mem_cons,not_or] at h;simp only[List.cons_append,look]
   have hb:Nat.beq e.1 id=false:=by
     cases hq:Nat.beq e.1 id with
     | false=>rfl
     | true=>exact absurd (Nat.eq_of_beq_eq_true hq).symm h.1
   rw[hb];exact jJ m h.2
def Z0{id:Nat}:∀(l:List (Nat×Nat)) (s:AS),(s.S3 l).get id=s.get id
 | [],_=>rfl
 | e::l,s=>by rw[AS.S3,Z0 l];rfl
section
variable {P:Program} {G:A8} {ops:Array Oper}
def wZ{fr:List AV}{s s1:AS}{o:Oper}{hs hs':List Hn}{v:AV}{cd:List Cd}{T:List Nat}(h:Z2 P G ops fr s o hs=some (v,s1,hs',cd))(hT:YX G ops fr o hs=some T)(hc:QU P G cd)(ha:B2 o.op=false)(id:Nat)(hid:id∉T):s1.get id=s.get id:=by
 have hj:=OP h hc;cases hq:quiet o.op with
 | true=>rw[(JT hq hj).1]
 | false =>
   unfold Z2 at h;unfold YX at hT;split at h
   · rename_i hw
     rw[hw] at hT;simp only at hT;unfold ajA at hT;split at hT;rename_i t a x ho;unfold wY at h;rw[ho] at h;simp only at h
     have h1:∃a' x',Ba G fr a=some a'/\Ba G fr x=some x'/\Kr P s t a' x'=some s1:=by
       rcases Vn h hc with ⟨a',x',h2,h3,h4,_⟩ | h2
       exact⟨a',x',h2,h3,h4⟩;have h1:=Vm h2;rw[MN] at h1;unfold PU at h1;rw[ho] at h1;simp only at h1;split at h1;rename_i a' x' ha' Tv;obtain⟨s',FW,he⟩:=map_some h1;injection he with he1 he2
       subst he2;exact⟨a',x',ha',Tv,FW⟩;cases h1
     obtain⟨a',x',ha',Tv,FW⟩:=h1;rw[ha'] at hT;split at hT;rename_i QK off O6;cases O6;cases hT;simp only[List.mem_singleton] at hid;unfold Kr at FW;split at FW;rename_i i id2 aMU Ur aeD;cases aeD;split at FW;split at FW;cases FW;exact IF hid _;cases FW;cases FW;cases FW;cases hT
     · rename_i t m k x ho
       unfold wY at h;rw[ho] at h;simp only at h;split at hT
       · rename_i QK O6
         rw[O6] at h;cases hT;simp only[List.mem_singleton] at hid;simp only at h;split at h
         · split at h
           · have aqL:∀kk x' s2,Kl P s t (.mp QK) kk x'=some s2->s2.get id=s.get id:=by
               intro kk x' s2 h2;unfold Kl at h2
               repeat' split at h2
               all_goals first
                 | (cases h2;done)
                 | (rename_i aeD;cases aeD;cases h2;exact IF hid _)
                 | (simp_all only [AV.mp.injEq,Option.some.injEq];subst_vars;exact IF hid _)
             unfold awU at h;split at h;cases h;exact aqL _ _ _ hc.1;cases h;exact IF hid _;cases h
           cases h
         cases h
       cases hT
     rename_i cl ho;split at hT;rename_i f Iy;unfold wY at h;rw[ho] at h;simp only[Iy] at h;unfold X3 at h;split at h;split at h;cases h;rfl;cases h;cases hT;split at h;cases h;cases hT;rw[Z0];exact lK _ _ hid;cases h;split at h;cases h;cases hT;exact jJ _ hid;cases h;cases h;rename_i Iy;unfold wY at h;rw[ho] at h;simp only[Iy] at h;split at hT;split at h;split at h;split at h;unfold adK at h;simp only at h;split at h;cases h;rfl;split at h;split at h;cases h;rfl;cases h;cases h;cases h;cases h;cases h;cases h;split at h;split at h;split at h;unfold adK at h;simp only at h;cases h;rfl;cases h;cases h;cases h;cases hT;rw[hq] at hT;cases hT;rw[hq] at hT;cases hT
   cases h;rfl
def qU{fr:List AV}{o:Oper}{hs:List Hn}{T:List Nat}(hT:YX G ops fr o hs=some T){id:Nat}(h:id∈T)(ha:B2 o.op=false):calm o.op=false:=by
 unfold calm;rw[ha];simp only;cases hq:quiet o.op with
 | false=>rfl
 | true =>
   exfalso;unfold YX at hT;split at hT;unfold ajA at hT;split at hT;rename_i ho;rw[ho] at hq;cases hq;rename_i ho;rw[ho] at hq;cases hq;rename_i cl ho;split at hT;rename_i Iy;rw[ho] at hq;simp[quiet,Iy] at hq;split at hT;cases hT;cases h;cases hT;cases h;cases hT;rw[hq] at hT;cases hT;cases h;rw[hq] at hT;cases hT;cases h;cases hT;cases h
def anD{q:Nat}:∀{l:List Oper} {hs hs':List Hn} {fr fr':List AV} {s s':AS} {cd:List Cd} {t:List (List AV×AS×AV)} {Ts:List (List Nat)},xA P G ops l hs fr s=some (hs',cd,t,Ts,fr',s')->QU P G cd ->
   Sx P G (XS P G) H0 ops q l fr s t fr' s'/\(∀o∈l,B2 o.op=false)/\(∀(i:Nat) id,i < l.length->(∀T,Ts[i]?=some T->id∉T)->(FR t s' (i+1)).get id=(FR t s' i).get id)/\∀(i:Nat) o T id,l[i]?=some o->Ts[i]?=some T->id∈T->calm o.op=false:=by
 intro l
 induction l with
 | nil =>
   intro hs hs' fr fr' s s' cd t Ts h hc;simp only[xA] at h;cases h;exact⟨.nil,(λo h=>by cases h),(λi id h=>by simp at h),λi o T id h=>by simp at h⟩
 | cons o l ih =>
   intro hs hs' fr fr' s s' cd t Ts h hc;simp only[xA] at h;split at h;cases h
   · rename_i ha
     split at h
     · rename_i T hT
       split at h
       · rename_i v s1 SF cd1 h1
         unfold atO at h;split at h
         · rename_i fN wO t2 Ts2 fr2 s2 h2
           cases h;obtain⟨c1,c2⟩:=hc.T7;obtain⟨k1,k2,k3,k4⟩:=ih h2 c2;refine⟨.cons ha (OP h1 c1) k1,λo' V8=>?_,λi id hi hno=>?_,λi o' T' id V8 hT' hid=>?_⟩;rcases List.mem_cons.1 V8 with rfl | V8
           exact ha;exact k2 o' V8
           · cases i with
             | zero =>
               have e1:FR ((fr,s,v)::t2) s' 0=s:=rfl
               have e2:FR ((fr,s,v)::t2) s' (0+1)=s1:=by
                 rw[show FR ((fr,s,v)::t2) s' (0+1)=FR t2 s' 0 by unfold FR;simp];exact k1.at.1
               rw[e1,e2];exact wZ h1 hT c1 ha id (hno T rfl)
             | succ i =>
               have e:∀j,FR ((fr,s,v)::t2) s' (j+1)=FR t2 s' j:=λj=>by unfold FR;simp
               rw[e,e];exact k3 i id (by simpa using hi) (λT' h'=>hno T' (by simpa using h'))
           cases i with
           | zero=>simp at V8 hT';subst V8 hT';exact qU hT hid ha
           | succ i=>exact k4 i o' T' id (by simpa using V8) (by simpa using hT') hid
         cases h
       cases h
     cases h
def YW{ms:List Nat}{id i:Nat}:∀{Ts:List (List Nat)} {l0:Nat},UQ ms id i Ts l0=true->∀{l:Nat} {T:List Nat},Ts[l]?=some T->id∈T->(l0+l < i->R7 ms i (l0+l)=true)/\(i < l0+l->R7 ms (l0+l) i=true):=by
 intro Ts
 induction Ts with
 | nil=>intro l0 _ l T h;simp at h
 | cons T0 Ts ih =>
   intro l0 h l T hT hid;simp only[UQ,Bool.and_eq_true] at h;cases l with
   | zero =>
     simp at hT;subst hT;have h1:=h.1;rw[jM.2 hid] at h1;simp only at h1;constructor;intro hlt;have e:Nat.blt l0 i=true:=Nat.ble_eq_true_of_le hlt;rw[e] at h1;exact h1;intro hlt
     have e:Nat.blt l0 i=false:=by
       cases hq:Nat.blt l0 i with
       | false=>rfl
       | true=>have:=Nat.le_of_ble_eq_true hq;omega
     have e2:Nat.blt i l0=true:=Nat.ble_eq_true_of_le hlt;rw[e,e2] at h1;exact h1
   | succ l =>
     have:=ih h.2 (l:=l) (by simpa using hT) hid
     rw[show l0+(l+1)=l0+1+l by omega];exact this
def agT{ms:List Nat}{Ts:List (List Nat)}:∀{os:List Oper} {ts:List (List AV×AS×AV)} {i:Nat},kG G ops ms Ts os ts i=true->∀{j:Nat} {o:Oper} {x:List AV×AS×AV},os[j]?=some o->ts[j]?=some x->Cy ops x.1 o=true->reads o.op=true->∃r,apH G x.1 o=some r/\∀id,r=some id->UQ ms id (i+j) Ts 0=true:=by
 intro os
 induction os with
 | nil=>intro ts i _ j o x h;simp at h
 | cons y os ih =>
   intro ts i h j o x ho hx hw hr;cases ts with
   | nil=>simp at hx
   | cons t ts =>
     simp only[kG,Bool.and_eq_true] at h;cases j with
     | zero =>
       simp at ho hx;subst ho hx;have h1:=h.1;rw[hw,hr] at h1;simp only at h1;split at h1;cases h1;rename_i hq;exact⟨none,hq,λid h=>by cases h⟩;rename_i id hq;exact⟨some id,hq,λQK h=>by cases h;exact h1⟩
     | succ j =>
       have:=ih h.2 (j:=j) (by simpa using ho) (by simpa using hx) hw hr
       rw[show i+(j+1)=i+1+j by omega];exact this
def apI{fr:List AV}{s s2:AS}{o:Oper}{v:AV}{r:Option Nat}(hr:apH G fr o=some r)(hs:∀id,r=some id->s2.get id=s.get id)(h:PU P G fr s o=some (.val v s)):PU P G fr s2 o=some (.val v s2):=by
 unfold apH at hr;split at hr;rename_i t a ho;rw[Cv] at hr;unfold PU at h ⊢;rw[ho] at h ⊢;simp only at h ⊢;obtain⟨v',h3,h4⟩:=map_some h;injection h4 with h4
 subst h4;obtain⟨b,h5,h6⟩:=bind_some h3;rw[h5] at hr ⊢;split at hr;rename_i id off O6;cases O6;cases hr
 have:Jq P s2 t (.ptr id off)=Jq P s t (.ptr id off):=by
   simp only[Jq];rw[hs id rfl]
 simp only[Option.bind_some];rw[this,h6];rfl;rename_i O6;cases O6;simp only[Option.bind_some];rw[show Jq P s2 t (.el _)=Jq P s t (.el _) from rfl,h6];rfl;cases hr;rename_i t m k ok ho;rw[Cv] at hr;unfold PU at h ⊢;rw[ho] at h ⊢;simp only at h ⊢;split at hr;rename_i id O6;cases hr;rw[O6] at h ⊢;split at h;rename_i a b ha hb;cases ha;obtain⟨v',h3,h4⟩:=map_some h;injection h4 with h4
 subst h4
 have:I9 P s2 t (.mp id) b ok=I9 P s t (.mp id) b ok:=by
   simp only[I9];rw[hs id rfl]
 rw[this,h3];rfl;cases h;cases hr
 · rename_i cl ho
   split at hr
   · rename_i Iy
     unfold PU at h ⊢;rw[ho] at h ⊢;simp only[SS,Iy] at h ⊢;split at hr
     · rename_i x hx
       rw[hx] at h ⊢;cases ht:cl.argTypes.toList with
       | nil=>rw[ht] at h;cases h
       | cons t1 ts =>
         cases ts with
         | cons _ _=>rw[ht] at h;cases h
         | nil =>
           rw[ht] at h;simp only at h ⊢;obtain⟨v',h3,h4⟩:=map_some h;injection h4 with h4
           subst h4;obtain⟨b,h5,h6⟩:=bind_some h3;rw[Cv,h5] at hr;rw[h5];simp only[Option.bind_some];split at hr
           · rename_i hsl
             have:Wr P s2 t1 b=Wr P s t1 b:=by
               unfold slV at hsl;split at hsl
               · rename_i O6;cases O6;unfold Wr;split<;>first | rfl | (simp_all;done)
               · rename_i O6;cases O6;unfold Wr;split<;>first | rfl | (simp_all;done)
               cases hsl
             rw[this,h6];rfl
           cases hr
     cases hr
   cases hr
 cases hr
def acG{id:Nat}{fr fr':List AV}{s s':AS}{t:List (List AV×AS×AV)}{Ts:List (List Nat)}{hs hs':List Hn}{cd:List Cd}(Hv:L2 ops=true)(h:xA P G ops ops.toList hs fr s=some (hs',cd,t,Ts,fr',s'))(hr:kG G ops (Ij ops.toList []) Ts ops.toList t 0=true)(hc:QU P G cd):J P G (XS P G) H0 (.code (.region id ops true) fr s .normal fr' s'):=by
 obtain⟨xK,mP,FW,xJ⟩:=anD (q:=s.nx) h hc;have hlen:t.length=ops.size:=by rw[xK.len,Array.length_toList]
 obtain⟨h0,SE⟩:=xK.at;have oF:∀i o,ops[i]?=some o->Cm ops i=o.dst:=λi o ho=>by unfold Cm;rw[ho];rfl
 obtain⟨Vr,X9⟩:=xK.cK (Cm ops) (Kj t) fr 0 rfl (λi o ho=>by rw[Nat.zero_add];exact oF i o (by rw[<- Array.getElem?_toList];exact ho)) (λi=>.inl (by rw[Nat.zero_add]));rw[Nat.zero_add,Array.length_toList] at Vr;have aeI:∀(i:Nat) (o:Oper),ops[i]?=some o->B2 o.op=false:=λi o ho=>mP o (List.mem_of_getElem? (Cj ho))
 have I2:∀(i:Nat) (o:Oper),ops[i]?=some o->J P G (XS P G) H0 (.op ops o (Iz fr (Cm ops) (Kj t) (λ_=>true) i) (FR t s' i) (.ret (Kj t i)) (FR t s' (i+1))):=by
   intro i o ho;obtain⟨fi,h1,h2⟩:=SE i o (Cj ho);have:=X9 i _ h1;simp only[Nat.zero_add] at this;rcases h2 with ⟨_,h2⟩ | ⟨h2,_⟩
   rw[<- this];exact h2;rw[aeI i o ho] at h2;cases h2
 have hsn:FR t s' ops.size=s':=by
   unfold FR;rw[List.getElem?_eq_none (by omega)]
 have hTl:∀(l:Nat) T id,Ts[l]?=some T->id∈T->l < ops.size->Yo ops l:=by
   intro l T id hT hid hl;exact⟨ops[l],Array.getElem?_eq_getElem hl,xJ l ops[l] T id (Cj (Array.getElem?_eq_getElem hl)) hT hid⟩
 have iV:∀(bx:Nat) (d i:Nat),i+d<=ops.size->(∀l,i<=l->l < i+d->∀T,Ts[l]?=some T->bx∉T)->(FR t s' (i+d)).get bx=(FR t s' i).get bx:=by
   intro bx d
   induction d with
   | zero=>intro i _ _;rfl
   | succ d ih =>
     intro i hle hno;rw[show i+(d+1)=(i+d)+1 by omega,FW (i+d) bx (by rw[Array.length_toList];omega) (hno (i+d) (by omega) (by omega))];exact ih i (by omega) (λl h1 h2=>hno l h1 (by omega))
 have key:=J.draw (P:=P) (G:=G) (X:=XS P G) (H:=H0) (id:=id) (f0:=fr) (s0:=s) [] (Kj t) (FR t s') h0 Hv (λi o ho _=>I2 i o ho) (λi o ho hq=>by
   obtain⟨h1,h2⟩:=JT hq (I2 i o ho);refine⟨h1,?_⟩;rcases h2 with h2 | ⟨hw,h2⟩
   exact .inl h2
   · refine .inr ⟨hw,λk hk Zs=>?_⟩
     cases hrd:reads o.op with
     | false=>exact TM hq hrd h2 _
     | true =>
       have hil:i < ops.size:=(Array.getElem?_eq_some_iff.1 ho).1;obtain⟨fi,hti,_⟩:=SE i o (Cj ho);have hfi:=X9 i _ hti;simp only[Nat.zero_add] at hfi;obtain⟨r,hr1,hr2⟩:=agT hr (Cj ho) hti (by rw[hfi];exact hw) hrd;rw[hfi] at hr1;refine apI hr1 (λbx hbx=>?_) h2;have hto:=hr2 bx hbx;rw[Nat.zero_add] at hto;rcases Nat.lt_or_ge k i with hki | hki
       have:=iV bx (i - k) k (by omega) (λl h3 h4 T hT hm=>by
         have hd:=(YW hto hT hm).1 (by omega);rw[Nat.zero_add] at hd;have:=Zs.1 l (hTl l T bx hT hm (by omega)) hd;omega)
       rw[show k+(i - k)=i by omega] at this;exact this.symm
       have:=iV bx (k - i) i (by omega) (λl h3 h4 T hT hm=>by
         have oH:=hTl l T bx hT hm (by omega);rcases Nat.lt_or_ge i l with h5 | h5
         have hd:=(YW hto hT hm).2 (by omega);rw[Nat.zero_add] at hd;have:=Zs.2 l oH hd;omega;have:l=i:=by omega
         subst this;obtain⟨o2,ho2,hcm⟩:=oH;rw[ho] at ho2;cases ho2;rw[XL hq] at hcm;cases hcm)
       rw[show i+(k - i)=k by omega] at this;exact this) (λi o e ho he=>by
   have:=aeI i o ho;rw[he] at this;cases this)
 rw[<- Vr,hsn] at key;exact key
end
end AI
namespace AI
open Go Go.RowKit
section
variable {P:Program} {G:A8} {ops:Array Oper} {f0:List AV} {vals:Nat->AV} {s0 s1:AS} {p:Nat} {v:AV}
structure aHP(G:A8)(ops:Array Oper)(f0:List AV)(vals:Nat->AV)(s0:AS)(p:Nat)(mN:Cx)(w0:World)(L:Array Bool)(a:Act)(w:World):Prop where
 size:L.size=ops.size
 closed:Nc ops.toList (λj=>L.getD j false)
 st:∃c,Ext mN w0 c w/\St G c w s0/\CH c w (Iz f0 (Cm ops) vals (λj=>L.getD j false) ops.size) a.tmps.toList
 defers:a.defers=[]
 out:L.getD p false=false
def acJ(Hv:L2 ops=true)(hp:p < ops.size)
   (hl:∀i o,ops[i]?=some o->i≠p->(p < i->R7 (Ij ops.toList []) i p=false)->Sound P G (.op ops o (Iz f0 (Cm ops) vals (λ_=>true) i) s0 (.ret (vals i)) s0))
   (axL:∀o,ops[p]?=some o->Sound P G (.op ops o (Iz f0 (Cm ops) vals (λ_=>true) p) s0 (.pan v) s1))
   {mN:Cx} {w0:World} {fr':List AV} (Q:Exit->Act->World->Prop) (hQ:∀e' a' w',SQ G mN w0 (.pan v) fr' s1 e' a' w'->Q e' a' w') :
   ∀(fuel:Nat) (L:Array Bool) (a:Act) (w:World),aHP G ops f0 vals s0 p mN w0 L a w->ZU (λj=>L.getD j false) ops.size=fuel->wpAny P .any ops Q fuel L a w:=by
 intro fuel
 induction fuel with
 | zero =>
   intro L a w hI hc;have:=gQ ops.size hc p hp;rw[hI.out] at this;cases this
 | succ fuel ih =>
   intro L a w hI aKK;refine⟨λcU=>?_,λi hi=>?_⟩
   · exfalso
     have all:∀i,i < ops.size->L.getD i false=true:=by
       intro i
       induction i using Nat.strongRecOn with
       | _ i ihi =>
         intro hlt;cases fL:L.getD i false with
         | true=>rfl
         | false =>
           exfalso;have ho:ops[i]?=some (ops[i]'hlt):=Array.getElem?_eq_getElem hlt
           have:=kJ hI.size ho fL (λe he hb=>by
             have h1:=jV Hv ho he hb;exact ihi e.on h1 (by omega))
           rw[cU] at this;cases this
     have:=all p hp;rw[hI.out] at this;cases this
   · obtain⟨o,ho,fL,Yc,hlt⟩:=mem_ready hI.size hi
     obtain⟨c,hx,FW,hfr⟩:=hI.st
     have hip:p < i->R7 (Ij ops.toList []) i p=false:=by
       intro h1;cases hd:R7 (Ij ops.toList []) i p with
       | false=>rfl
       | true =>
         have:=XO hI.closed (Cj ho) Yc hd;rw[hI.out] at this;cases this
     have hMi:(L.setIfInBounds i true).getD i false=true:=by
       have:i < L.size:=by rw[hI.size];exact hlt
       simp[this]
     have sK:∀j,j≠i->(L.setIfInBounds i true).getD j false=L.getD j false:=by
       intro j hj;simp only[Array.getD_eq_getD_getElem?];rw[Array.getElem?_setIfInBounds_ne (λe=>hj e.symm)]
     have hle:∀j,L.getD j false=true->(L.setIfInBounds i true).getD j false=true:=by
       intro j hj;by_cases e:j=i;subst e;exact hMi;rw[sK j e];exact hj
     have X8:Nc ops.toList (λj=>(L.setIfInBounds i true).getD j false):=by
       intro j y hy hj e he hb;by_cases ej:j=i;subst ej;rw[Cj ho] at hy;cases hy;exact hle _ (Yc e he hb);have hj2:L.getD j false=true:=by rw[<- sK j ej];exact hj
       exact hle _ (hI.closed j y hy hj2 e he hb)
     have aeB:ZU (λj=>(L.setIfInBounds i true).getD j false) ops.size=fuel:=by
       have:=(rO (L:=λj=>L.getD j false) (M:=λj=>(L.setIfInBounds i true).getD j false) fL hMi sK ops.size).1 hlt;omega
     have Zp:=sA (f0:=f0) (vals:=vals) (L:=λj=>L.getD j false) (M:=λj=>(L.setIfInBounds i true).getD j false) Hv hI.closed ho fL hMi sK
     have iW:∀x∈o.op.operands,Zi G c w (Iz f0 (Cm ops) vals (λ_=>true) i) a.eval x:=by
       intro x hxo v hv;cases x with
       | tmp t =>
         have aeG:t∈o.looksAt ops:=by
           unfold Oper.looksAt;rw[List.mem_append];left;rw[List.mem_filterMap];exact⟨.tmp t,Array.mem_toList_iff.2 hxo,rfl⟩
         have he:=R9 (f0:=f0) (vals:=vals) Hv hI.closed ho fL Yc aeG
         have:Ba G (Iz f0 (Cm ops) vals (λj=>L.getD j false) ops.size) (.tmp t)=some v:=by
           rw[<- hv];simp only[Ba,List.getD_eq_getElem?_getD,he]
         exact Ew FW hfr this
       | const z=>exact Ew (fr:=Iz f0 (Cm ops) vals (λj=>L.getD j false) ops.size) FW hfr hv
       | global g=>exact Ew (fr:=Iz f0 (Cm ops) vals (λj=>L.getD j false) ops.size) FW hfr hv
       | func f=>exact Ew (fr:=Iz f0 (Cm ops) vals (λj=>L.getD j false) ops.size) FW hfr hv
     have Wa:Cy ops (Iz f0 (Cm ops) vals (λ_=>true) i) o=Region.wanted o (yielded ops a.tmps):=by
       refine Ng (c:=c) (w:=w) (λj want hg d hd=>⟨_,hfr,?_⟩);refine R9 Hv hI.closed ho fL Yc ?_;unfold Oper.looksAt;rw[List.mem_append];right;rw[hg];simp[hd]
     have cO:Mk P ops o (wpAny P .any ops Q fuel (L.setIfInBounds i true)) Q a w->wpOp P ops Q i (wpAny P .any ops Q fuel (L.setIfInBounds i true)) a w:=by
       intro h;unfold wpOp;rw[ho];unfold Mk at h;simp only;split;rename_i hw;rw[if_pos hw] at h;exact .inl h;rename_i hw;rw[if_neg hw] at h;exact h
     refine cO ?_;by_cases hpe:i=p;subst hpe;refine axL o ho c w a _ _ FW iW Wa ?_;intro u w' c' Tv Mq hu;exact hQ _ _ _ ⟨c',hx.trans Tv,Mq,hI.defers,u,rfl,hu⟩;refine hl i o ho hpe hip c w a _ _ FW iW Wa ?_;intro u w' c' Tv Mq hu;refine ih _ _ _ ⟨by simp[hI.size],X8,⟨c',hx.trans Tv,Mq,?_⟩,by cases o.dst<;>exact hI.defers,?_⟩ aeB
     rw[Zp];exact Od (hfr.mono Tv) hu;rw[sK p (λe=>hpe e.symm)];exact hI.out
def qC(hm:P.follows .mixedOrders=true){id:Nat}{fr':List AV}(Hv:L2 ops=true)(hp:p < ops.size)
   (hl:∀i o,ops[i]?=some o->i≠p->(p < i->R7 (Ij ops.toList []) i p=false)->Sound P G (.op ops o (Iz f0 (Cm ops) vals (λ_=>true) i) s0 (.ret (vals i)) s0))
   (axL:∀o,ops[p]?=some o->Sound P G (.op ops o (Iz f0 (Cm ops) vals (λ_=>true) p) s0 (.pan v) s1)):Sound P G (.code (.region id ops true) f0 s0 (.pan v) fr' s1):=by
 intro cx w a Q hs hf hd hQ;refine wp_region_any hm ?_;obtain⟨x,st⟩:=hs.same (gK w)
 have gf:∀j,(Array.replicate ops.size false).getD j false=false:=by
   intro j;simp only[Array.getD_eq_getD_getElem?,Array.getElem?_replicate];split<;>simp
 refine acJ Hv hp hl axL Q hQ ops.size _ a _ ⟨by simp,?_,⟨_,x,st,?_⟩,hd,gf p⟩ ?_;intro i o ho hL;exact absurd (show(Array.replicate ops.size false).getD i false=true from hL) (by rw[gf i];simp)
 · have:Iz f0 (Cm ops) vals (λj=>(Array.replicate ops.size false).getD j false) ops.size=f0:=by
     have key:∀n,Iz f0 (Cm ops) vals (λj=>(Array.replicate ops.size false).getD j false) n=f0:=by
       intro n
       induction n with
       | zero=>rfl
       | succ n ih =>
         simp only[Iz,ih];rw[if_neg];rw[gf n];simp
     exact key _
   rw[this];exact hf.mono x
 · have key:∀n,ZU (λj=>(Array.replicate ops.size false).getD j false) n=n:=by
     intro n
     induction n with
     | zero=>rfl
     | succ n ih =>
       simp only[ZU,ih,gf n];simp
   exact key _
end
end AI
namespace AI
open Go Go.RowKit
abbrev HS:=Option (List Hn×List Cd×List AV×AS)
def atN(cd:List Cd):HS->HS
 | some (hs,cd',fr,s)=>some (hs,cd++cd',fr,s)
 | none=>none
abbrev HC:=Option (AX×List Hn×List Cd×List AV×AS)
def Z3(cd:List Cd):HC->HC
 | some (e,hs,cd',fr,s)=>some (e,hs,cd++cd',fr,s)
 | none=>none
def anB(P:Program)(G:A8)(ops:Array Oper)(fr:List AV)(s:AS)(o:Oper):List Hn->HO
 | .p v s1::hs=>(match Cy ops fr o with
   | true=>(match Ug P G fr s o with
     | some (.ent f args)=>some (v,s1,hs,[.atE f args s v s1])
     | some (.pan v')=>some (v',s,hs,[])
     | _=>none)
   | false=>none)
 | .q v pre tp Qy tu::hs=>(match Cy ops fr o with
   | true=>(match Ug P G fr s o with
     | some (.ent f args)=>some (v,(s.VO Qy).S3 tu,hs,[.E6 f args (.pan v) pre tp Qy tu,.rU (X0 s pre) (N0 pre) (ZX s.F tp) (OD tp)])
     | _=>none)
   | false=>none)
 | _=>none
def adS(P:Program)(G:A8)(ops:Array Oper):List Oper->List Hn->List AV->AS->HC
 | [],hs,fr,s=>some (.normal,hs,[],fr,s)
 | o::l,hs,fr,s=>(match anB P G ops fr s o hs with
   | some (v,s1,SF,cd)=>some (.pan v,SF,cd,fr,s1)
   | none=>(match Z2 P G ops fr s o hs with
     | some (v,s1,SF,cd)=>Z3 cd (adS P G ops l SF (IJ fr o.dst v) s1)
     | none=>none))
def iL(P:Program)(G:A8)(ops:Array Oper):List Oper->List Hn->List AV->AS->HS
 | [],hs,fr,s=>some (hs,[],fr,s)
 | o::l,hs,fr,s=>(match iJ P G ops fr s o hs with
   | some (v,s1,SF,cd)=>atN cd (iL P G ops l SF (IJ fr o.dst v) s1)
   | none=>none)
def steady(op:Op):Bool:=match quiet op with
 | true=>true
 | false=>(match op with
   | .call cl=>(match cl.callee with | .value _=>true | _=>false)
   | _=>false)
def Qq:List Oper->Bool
 | []=>true
 | o::l=>(match steady o.op with | true=>Qq l | false=>false)
def aCP:HS->HC
 | some (hs,cd,fr,s)=>some (.normal,hs,cd,fr,s)
 | none=>none
def aCO(P:Program)(G:A8)(ops:Array Oper)(hs:List Hn)(fr:List AV)(s:AS):HC:=match rsv P ops.toList with
 | some r=>(match hTr P G ops ops.toList s.nx hs fr (s.hold r) with
   | some (hs',cd,t,fr',s')=>(match Lw G ops s.nx ops.toList t with
     | true=>(match Xi P ops t s' s.nx r with
       | true=>some (.normal,hs',cd,fr',s')
       | false=>none)
     | false=>none)
   | none=>none)
 | none=>none
def adM(P:Program)(G:A8)(ops:Array Oper)(c:Nat)(hs:List Hn)(fr:List AV)(s:AS):HC:=match Nat.blt c ops.size with
 | true=>(match Ux (Ij ops.toList []) c ops.toList 0 with
   | true=>(match xC P G ops c ops.toList 0 hs fr s with
     | some (hs',cd,_,fr',s')=>some (.normal,hs',cd,fr',s')
     | none=>none)
   | false=>none)
 | false=>none
def atJ(P:Program)(G:A8)(ops:Array Oper)(hs:List Hn)(fr:List AV)(s:AS):HC:=match xA P G ops ops.toList hs fr s with
 | some (hs',cd,t,Ts,fr',s')=>(match kG G ops (Ij ops.toList []) Ts ops.toList t 0 with
   | true=>some (.normal,hs',cd,fr',s')
   | false=>none)
 | none=>none
abbrev HQ:=Option (List AV×List Hn×List Cd×Option (AV×AS))
def cV(v:AV)(cd:List Cd):HQ->HQ
 | some (vs,hs,wO,r)=>some (v::vs,hs,cd++wO,r)
 | none=>none
def atV(r:AV×AS)(cd:List Cd):HQ->HQ
 | some (vs,hs,wO,none)=>some (.sc undef::vs,hs,cd++wO,some r)
 | _=>none
def behind(ms:List Nat)(p i:Nat):Bool:=match Nat.blt p i with
 | true=>R7 ms i p
 | false=>false
def X5(P:Program)(G:A8)(ops:Array Oper)(ms:List Nat)(p:Nat)(s:AS):List Oper->Nat->List Hn->List AV->HQ
 | [],_,hs,_=>some ([],hs,[],none)
 | o::l,i,hs,fr=>(match Nat.beq i p with
   | true=>(match anB P G ops fr s o hs with
     | some (v,s2,fN,cd)=>atV (v,s2) cd (X5 P G ops ms p s l (i+1) fN (IJ fr o.dst (.sc undef)))
     | none=>none)
   | false=>(match behind ms p i with
     | true=>cV (.sc undef) [] (X5 P G ops ms p s l (i+1) hs (IJ fr o.dst (.sc undef)))
     | false=>(match steady o.op with
       | true=>(match iJ P G ops fr s o hs with
         | some (v,_,fN,cd)=>cV v cd (X5 P G ops ms p s l (i+1) fN (IJ fr o.dst v))
         | none=>none)
       | false=>none)))
def adU(P:Program)(G:A8)(ops:Array Oper)(p:Nat)(hs:List Hn)(fr:List AV)(s:AS):HC:=match X5 P G ops (Ij ops.toList []) p s ops.toList 0 hs fr with
 | some (_,fN,cd,some (v,s2))=>some (.pan v,fN,cd,fr,s2)
 | _=>none
def atL(P:Program)(G:A8)(ops:Array Oper)(fr:List AV)(s:AS):List Hn->HC
 | .zq p::hs=>adU P G ops p hs fr s
 | .z c::hs=>adM P G ops c hs fr s
 | .za::hs=>atJ P G ops hs fr s
 | hs=>(match Qq ops.toList with
   | true=>aCP (iL P G ops ops.toList hs fr s)
   | false=>aCO P G ops hs fr s)
def adW(P:Program)(G:A8)(ops:Array Oper)(d:Bool)(hs:List Hn)(fr:List AV)(s:AS):HC:=match d with
 | false=>adS P G ops ops.toList hs fr s
 | true=>(match L2 ops with
   | true=>atL P G ops fr s hs
   | false=>none)
def MC(P:Program)(G:A8):Code->List Hn->List AV->AS->HC
 | .skip,hs,fr,s=>some (.normal,hs,[],fr,s)
 | .exit id,hs,fr,s=>some (.exit id,hs,[],fr,s)
 | .ret,hs,fr,s=>some (.ret,hs,[],fr,s)
 | .seq x y,hs,fr,s=>(match MC P G x hs fr s with
   | some (.normal,SF,cd,Vl,s1)=>Z3 cd (MC P G y SF Vl s1)
   | r=>r)
 | .cond q x y,hs,fr,s=>(match AY G fr q with
   | some (.sc (.bool true))=>MC P G x hs fr s
   | some (.sc (.bool false))=>MC P G y hs fr s
   | _=>none)
 | .block id c,hs,fr,s=>(match MC P G c hs fr s with
   | some (e,SF,cd,Vl,s1)=>some (D8 id e,SF,cd,Vl,s1)
   | none=>none)
 | .region _ ops d,hs,fr,s=>(match hs with
   | .n l::hs=>(match nzs l fr s with
     | some (fr2,s2)=>adW P G ops d hs fr2 s2
     | none=>none)
   | .f id b b2::hs=>(match look id s.h with
     | some b0=>Z3 [.rU [some b0] [some b] [] [],.rd s.nr b b2] (adW P G ops d hs fr ⟨QT id b2 s.h,s.nx,(s.nr,0)::s.F,s.nr+1⟩)
     | none=>none)
   | hs=>adW P G ops d hs fr s)
 | _,_,_,_=>none
section
variable {P:Program} {G:A8} {ops:Array Oper}
def sM{fr:List AV}{s s1:AS}{o:Oper}{hs hs':List Hn}{v:AV}{cd:List Cd}(h:anB P G ops fr s o hs=some (v,s1,hs',cd))(hc:QU P G cd):J P G (XS P G) H0 (.op ops o fr s (.pan v) s1):=by
 unfold anB at h;split at h;rw[MN] at h;split at h;rename_i hw;split at h;rename_i h1;cases h;exact .RN hw h1 (.ext hc.1);rename_i h1;cases h;exact .auJ hw h1;cases h;cases h;rw[MN] at h;split at h;rename_i hw;split at h;rename_i h1;cases h;exact .RN hw h1 (.ext (hc.1 s hc.2.1.1 hc.2.1.2));cases h;cases h;cases h
def amZ{l:List Oper}{k:Nat}(hk:l=ops.toList.drop k){hs hs':List Hn}{fr fr':List AV}{s s':AS}{e:AX}{cd:List Cd}(h:adS P G ops l hs fr s=some (e,hs',cd,fr',s'))(hc:QU P G cd):J P G (XS P G) H0 (.ops ops (List.range' k l.length) fr s e fr' s'):=by
 induction l generalizing k hs fr s cd with
 | nil=>simp only[adS] at h;cases h;exact .agJ
 | cons o l ih =>
   obtain⟨k1,k2⟩:=drop_cons hk;simp only[adS] at h;split at h;rename_i v s1 SF cd1 h1;cases h;rw[List.length_cons,List.range'_succ];exact .agK (by rw[<- Array.getElem?_toList];exact k1) (sM h1 hc);split at h;rename_i v s1 SF cd1 h1;unfold Z3 at h;split at h;rename_i e2 fN wO fr2 s2 h2;cases h;obtain⟨c1,c2⟩:=hc.T7;rw[List.length_cons,List.range'_succ];exact .tX (by rw[<- Array.getElem?_toList];exact k1) (OP h1 c1) (ih k2 h2 c2);cases h;cases h
def anA{l:List Oper}{q:Nat}(FW:Qq l=true){hs hs':List Hn}{fr fr':List AV}{s s':AS}{cd:List Cd}(h:iL P G ops l hs fr s=some (hs',cd,fr',s'))(hc:QU P G cd):s'=s/\∃t,Sx P G (XS P G) H0 ops q l fr s t fr' s/\∀x∈t,x.2.1=s:=by
 induction l generalizing hs fr cd s with
 | nil=>simp only[iL] at h;cases h;exact⟨rfl,[],.nil,λx hx=>by cases hx⟩
 | cons o l ih =>
   simp only[Qq] at FW;split at FW
   · rename_i cX
     simp only[iL] at h;split at h
     · rename_i v s1 SF cd1 h1
       unfold atN at h;split at h
       · rename_i fN wO fr2 s2 h2
         cases h;obtain⟨c1,c2⟩:=hc.T7;obtain⟨h1,hA⟩:=Sa h1;have hj:=OP h1 c1
         have mP:B2 o.op=false:=by
           cases ha:B2 o.op with
           | false=>rfl
           | true=>obtain⟨e,he⟩:=Ks ha;rw[he] at cX;simp[steady,quiet] at cX
         have SF:s1=s:=by
           cases hq:quiet o.op with
           | true=>exact(JT hq hj).1
           | false =>
             unfold steady at cX;rw[hq] at cX;simp only at cX;split at cX;rename_i cl iU;split at cX;rename_i f Iy;unfold Z2 at h1;split at h1;unfold wY at h1;rw[iU] at h1;simp only[Iy] at h1;unfold X3 at h1;split at h1;split at h1;cases h1;rfl;cases h1;have:=hA (by rw[iU];simp[Nw,Iy]);simp[dC] at this;have:=hA (by rw[iU];simp[Nw,Iy]);simp[dC] at this;have:=hA (by rw[iU];simp[Nw,Iy]);simp[dC] at this;cases h1;cases h1;rfl;cases cX;cases cX
         subst SF;obtain⟨e,t,ht,I2⟩:=ih FW h2 c2;subst e
         exact⟨rfl,_,.cons mP hj ht,λx hx=>by
           rcases List.mem_cons.1 hx with rfl | hx
           rfl;exact I2 x hx⟩
       cases h
     cases h
   cases FW
def VK{l:List Oper}(FW:Qq l=true){i:Nat}{o:Oper}(ho:l[i]?=some o):steady o.op=true:=by
 induction l generalizing i with
 | nil=>simp at ho
 | cons x l ih =>
   simp only[Qq] at FW;split at FW;rename_i cX;cases i with
   | zero=>simp at ho;subst ho;exact cX
   | succ i=>exact ih FW (by simpa using ho)
   cases FW
def nM{X:Wq}{H:Tg}{id:Nat}{fr fr':List AV}{s:AS}{t:List (List AV×AS×AV)}(Hv:L2 ops=true)(FW:Qq ops.toList=true)(h:Sx P G X H ops s.nx ops.toList fr s t fr' s)(I2:∀x∈t,x.2.1=s):J P G X H (.code (.region id ops true) fr s .normal fr' s):=by
 have hlen:t.length=ops.size:=by rw[h.len,Array.length_toList]
 obtain⟨h0,SE⟩:=h.at
 have hsa:∀i,FR t s i=s:=by
   intro i;unfold FR;split;rename_i x hx;exact I2 x (List.mem_of_getElem? hx);rfl
 have oF:∀i o,ops[i]?=some o->Cm ops i=o.dst:=λi o ho=>by unfold Cm;rw[ho];rfl
 obtain⟨Vr,X9⟩:=h.cK (Cm ops) (Kj t) fr 0 rfl (λi o ho=>by rw[Nat.zero_add];exact oF i o (by rw[<- Array.getElem?_toList];exact ho)) (λi=>.inl (by rw[Nat.zero_add]));rw[Nat.zero_add,Array.length_toList] at Vr
 have mP:∀(i:Nat) (o:Oper),ops[i]?=some o->B2 o.op=false:=by
   intro i o ho;have:=VK FW (Cj ho);cases ha:B2 o.op with
   | false=>rfl
   | true=>obtain⟨e,he⟩:=Ks ha;rw[he] at this;simp[steady,quiet] at this
 have hj:∀i o,ops[i]?=some o->J P G X H (.op ops o (Iz fr (Cm ops) (Kj t) (λ_=>true) i) s (.ret (Kj t i)) s):=by
   intro i o ho;obtain⟨fi,h1,h2⟩:=SE i o (Cj ho);have:=X9 i _ h1;simp only[Nat.zero_add] at this;rcases h2 with ⟨_,h2⟩ | ⟨h2,_⟩
   rw[<- this];rw[hsa,hsa] at h2;exact h2;rw[mP i o ho] at h2;cases h2
 have key:=J.draw (P:=P) (G:=G) (X:=X) (H:=H) (id:=id) (f0:=fr) (s0:=s) [] (Kj t) (λ_=>s) rfl Hv (λi o ho _=>hj i o ho) (λi o ho hq=>⟨rfl,by
   obtain⟨_,h2⟩:=JT hq (hj i o ho);rcases h2 with h2 | ⟨hw,h2⟩
   exact .inl h2;exact .inr ⟨hw,λk _ _=>h2⟩⟩) (λi o e ho he=>by have:=mP i o ho;rw[he] at this;cases this)
 rw[<- Vr] at key;exact key
def iK{fr:List AV}{s s1:AS}{o:Oper}{hs SF:List Hn}{v:AV}{cd:List Cd}(cX:steady o.op=true)(h:iJ P G ops fr s o hs=some (v,s1,SF,cd))(hc:QU P G cd):J P G (XS P G) H0 (.op ops o fr s (.ret v) s):=by
 obtain⟨h1,hA⟩:=Sa h;have hj:=OP h1 hc
 have SF:s1=s:=by
   cases hq:quiet o.op with
   | true=>exact(JT hq hj).1
   | false =>
     unfold steady at cX;rw[hq] at cX;simp only at cX;split at cX;rename_i cl iU;split at cX;rename_i f Iy;unfold Z2 at h1;split at h1;unfold wY at h1;rw[iU] at h1;simp only[Iy] at h1;unfold X3 at h1;split at h1;split at h1;cases h1;rfl;cases h1;have:=hA (by rw[iU];simp[Nw,Iy]);simp[dC] at this;have:=hA (by rw[iU];simp[Nw,Iy]);simp[dC] at this;have:=hA (by rw[iU];simp[Nw,Iy]);simp[dC] at this;cases h1;cases h1;rfl;cases cX;cases cX
 rw[SF] at hj;exact hj
def acX{f0:List AV}{dst:Nat->Option Tmp}{vals:Nat->AV}{k:Nat}:Iz f0 dst vals (λ_=>true) (k+1)=IJ (Iz f0 dst vals (λ_=>true) k) (dst k) (vals k):=by
 simp only[Iz,if_true]
def adT{p:Nat}{s:AS}{f0:List AV}{vals:Nat->AV}:∀{l:List Oper} {i:Nat} {hs hs':List Hn} {fr:List AV} {vs:List AV} {cd:List Cd} {r:Option (AV×AS)},X5 P G ops (Ij ops.toList []) p s l i hs fr=some (vs,hs',cd,r)->l=ops.toList.drop i->QU P G cd->fr=Iz f0 (Cm ops) vals (λ_=>true) i->(∀j,vals (i+j)=vs.getD j (.sc undef)) ->
   (∀j o,i<=j->ops[j]?=some o->j≠p->(p < j->R7 (Ij ops.toList []) j p=false)->J P G (XS P G) H0 (.op ops o (Iz f0 (Cm ops) vals (λ_=>true) j) s (.ret (vals j)) s)) /\
   (i<=p->∀v s2,r=some (v,s2)->∃o,ops[p]?=some o/\J P G (XS P G) H0 (.op ops o (Iz f0 (Cm ops) vals (λ_=>true) p) s (.pan v) s2))/\(p < i->r=none):=by
 intro l
 induction l with
 | nil =>
   intro i hs hs' fr vs cd r h hl hc hfr hv;simp only[X5] at h;cases h
   have hsz:ops.size<=i:=by
     have:=congrArg List.length hl;simp only[List.length_nil,List.length_drop,Array.length_toList] at this;omega
   exact⟨λj o hj ho=>by have:=(Array.getElem?_eq_some_iff.1 ho).1;omega,(λ_ v s2 e=>by cases e),λ_=>rfl⟩
 | cons o l ih =>
   intro i hs hs' fr vs cd r h hl hc hfr hv;obtain⟨k1,k2⟩:=drop_cons hl;have ho:ops[i]?=some o:=by rw[<- Array.getElem?_toList];exact k1
   have hd:Cm ops i=o.dst:=by unfold Cm;rw[ho];rfl
   have next:∀{v0:AV} {vs2:List AV},vs=v0::vs2->vals i=v0/\IJ fr o.dst v0=Iz f0 (Cm ops) vals (λ_=>true) (i+1)/\∀j,vals (i+1+j)=vs2.getD j (.sc undef):=by
     intro v0 vs2 e;subst e;have h0:vals i=v0:=by have:=hv 0;simpa using this
     refine⟨h0,?_,λj=>?_⟩;rw[acX,hd,h0,hfr];have:=hv (j+1);rw[show i+1+j=i+(j+1) by omega,this];simp
   simp only[X5] at h;split at h
   · rename_i hb
     have hip:=Nat.eq_of_beq_eq_true hb;split at h
     · rename_i v s2 fN cd1 h1
       unfold atV at h;split at h
       · rename_i vs2 hs3 wO h2
         cases h;obtain⟨c1,c2⟩:=hc.T7;obtain⟨n1,n2,n3⟩:=next rfl
         obtain⟨q1,q2,q3⟩:=ih h2 k2 c2 n2 n3;refine⟨λj o' hj V8 hjp xF=>?_,λ_ v' s2' e=>?_,λh=>by omega⟩;exact q1 j o' (by omega) V8 hjp xF;cases e;refine⟨o,hip▸ho,?_⟩;have:=sM h1 c1;rw[hfr,hip] at this;exact this
       cases h
     cases h
   · rename_i hb
     have hip:=Nat.ne_of_beq_eq_false hb;split at h
     · rename_i hbe
       unfold cV at h;split at h
       · rename_i vs2 hs3 wO r2 h2
         cases h;obtain⟨n1,n2,n3⟩:=next rfl
         obtain⟨q1,q2,q3⟩:=ih h2 k2 hc n2 n3;unfold behind at hbe;split at hbe;rename_i hlt;have hlt:p < i:=Nat.le_of_ble_eq_true hlt;refine⟨λj o' hj V8 hjp xF=>?_,λh=>by omega,λ_=>q3 (by omega)⟩;by_cases e:j=i;subst e;rw[xF hlt] at hbe;cases hbe;exact q1 j o' (by omega) V8 hjp xF;cases hbe
       cases h
     · split at h
       · rename_i FW
         split at h
         · rename_i v s1 fN cd1 h1
           unfold cV at h;split at h
           · rename_i vs2 hs3 wO r2 h2
             cases h;obtain⟨c1,c2⟩:=hc.T7;obtain⟨n1,n2,n3⟩:=next rfl
             obtain⟨q1,q2,q3⟩:=ih h2 k2 c2 n2 n3;refine⟨λj o' hj V8 hjp xF=>?_,λh v' s2' e=>q2 (by omega) v' s2' e,λh=>q3 (by omega)⟩;by_cases e:j=i;subst e;rw[ho] at V8;cases V8;have:=iK FW h1 c1;rw[hfr] at this;rw[n1];exact this;exact q1 j o' (by omega) V8 hjp xF
           cases h
         cases h
       cases h
def adV{id p:Nat}(Hv:L2 ops=true){hs hs':List Hn}{fr fr':List AV}{s s':AS}{e:AX}{cd:List Cd}(h:adU P G ops p hs fr s=some (e,hs',cd,fr',s'))(hc:QU P G cd):J P G (XS P G) H0 (.code (.region id ops true) fr s e fr' s'):=by
 unfold adU at h;split at h;rename_i vs fN cd1 v s2 h1;cases h;obtain⟨q1,q2,_⟩:=adT (f0:=fr) (vals:=λj=>vs.getD j (.sc undef)) h1 rfl hc rfl (λj=>by rw[Nat.zero_add]);obtain⟨o,ho,hj⟩:=q2 (Nat.zero_le _) _ _ rfl;refine .sem λhm=>qC (vals:=λj=>vs.getD j (.sc undef)) hm Hv (Array.getElem?_eq_some_iff.1 ho).1 (λi o' V8 hi hd=>sound (Rz hm) (q1 i o' (Nat.zero_le _) V8 hi hd)) (λo' V8=>?_);rw[ho] at V8;cases V8;exact sound (Rz hm) hj;cases h
def cQ{ops:Array Oper}{id:Nat}{d:Bool}{hs hs':List Hn}{fr fr':List AV}{s s':AS}{e:AX}{cd:List Cd}(h:adW P G ops d hs fr s=some (e,hs',cd,fr',s'))(hc:QU P G cd):J P G (XS P G) H0 (.code (.region id ops d) fr s e fr' s'):=by
 unfold adW at h;cases d with
 | false =>
   simp only at h;have:=amZ (ops:=ops) (k:=0) (by simp) h hc;refine .region ?_;rw[Array.length_toList] at this;rw[List.range_eq_range'];exact this
 | true =>
   simp only at h;split at h;rename_i Hv;unfold atL at h;split at h;exact adV Hv h hc;unfold adM at h;split at h;rename_i Vp;split at h;rename_i hl;split at h;rename_i O6;cases h;exact wU Hv Vp hl O6 hc;cases h;cases h;cases h;unfold atJ at h;split at h;rename_i O6;split at h;rename_i hrd;cases h;exact acG Hv O6 hrd hc;cases h;cases h;split at h;rename_i FW;unfold aCP at h;split at h;rename_i h1;cases h;obtain⟨e,t,ht,I2⟩:=anA (q:=s.nx) FW h1 hc;subst e;exact nM Hv FW ht I2;cases h;unfold aCO at h;split at h;rename_i r hr;split at h;rename_i SF cd1 t Vl s1 xK;split at h;rename_i hi;split at h;rename_i aeN;cases h;exact acI Hv hr xK hc hi aeN;cases h;cases h;cases h;cases h;cases h
def adL(c:Code){hs hs':List Hn}{fr fr':List AV}{s s':AS}{e:AX}{cd:List Cd}(h:MC P G c hs fr s=some (e,hs',cd,fr',s'))(hc:QU P G cd):J P G (XS P G) H0 (.code c fr s e fr' s'):=by
 induction c generalizing hs hs' fr fr' s s' e cd with
 | skip=>simp only[MC] at h;cases h;exact .skip
 | exit id=>simp only[MC] at h;cases h;exact .exit
 | ret=>simp only[MC] at h;cases h;exact .ret
 | seq x y ihx ihy =>
   simp only[MC] at h;cases hx:MC P G x hs fr s with
   | none=>rw[hx] at h;cases h
   | some r =>
     obtain⟨e1,SF,cd1,Vl,s1⟩:=r;rw[hx] at h;cases e1 with
     | normal =>
       simp only at h;unfold Z3 at h;split at h;rename_i e2 fN wO fr2 s2 h2;cases h;obtain⟨c1,c2⟩:=hc.T7;exact .seq (ihx hx c1) (ihy h2 c2);cases h
     | exit id=>simp only at h;cases h;exact .qM (ihx hx hc) (by simp)
     | ret=>simp only at h;cases h;exact .qM (ihx hx hc) (by simp)
     | pan v=>simp only at h;cases h;exact .qM (ihx hx hc) (by simp)
 | cond q x y ihx ihy =>
   simp only[MC,Cv] at h;split at h;rename_i hq;exact .cond hq (ihx h hc);rename_i hq;exact .cond hq (ihy h hc);cases h
 | block id c ih =>
   simp only[MC] at h;split at h;rename_i h1;cases h;exact .block (ih h1 hc);cases h
 | region id ops d =>
   simp only[MC] at h;split at h;split at h;rename_i hz;exact .Y7 (λcx w vs h1 h2=>pJ hz cx w vs h1 h2) (cQ h hc);cases h;split at h;rename_i b0 hb;unfold Z3 at h;split at h;rename_i h1;cases h;obtain⟨c1,c2⟩:=hc.T7;refine .Y7 (λcx w vs hs hf=>?_) (cQ h1 c2);have hbb:b0=_:=Option.some.inj (List.cons.inj c1.1.1).1;subst hbb;obtain⟨x,st⟩:=hs.tok;exact⟨_,x,st.qB hb (λo ho=>c1.2.1 _ _ _ (by simp[hs.IN]) ho),hf.mono x⟩;cases h;cases h;exact cQ h hc
 | _=>simp only[MC] at h;cases h
def Sb:Code->Bool
 | .loop _=>true
 | .seq x y=>Sb x||Sb y
 | .cond _ x y=>Sb x||Sb y
 | .block _ c=>Sb c
 | _=>false
abbrev HP:=Option (Code×List Hn×List Cd×List AV×AS)
end
end AI
namespace AI
open Go Go.RowKit
structure PC(P:Program)(G:A8) where
 hn:Hn
 cd:List Cd
 ok:QU P G cd
def pHs{P:Program}{G:A8}:List (PC P G)->List Hn
 | []=>[]
 | p::l=>p.hn::pHs l
def fQ{P:Program}{G:A8}:List (PC P G)->List Cd
 | []=>[]
 | p::l=>p.cd++fQ l
def QU.join{P:Program}{G:A8}{l m:List Cd}(h:QU P G l)(k:QU P G m):QU P G (l++m):=by
 induction l with
 | nil=>exact k
 | cons c l ih=>exact⟨h.1,ih h.2⟩
def NC{P:Program}{G:A8}(l:List (PC P G)):QU P G (fQ l):=by
 induction l with
 | nil=>trivial
 | cons p l ih=>exact p.ok.join ih
inductive KI where
 | code (c:Code)
 | nQ (id:Nat)
def CY(P:Program)(G:A8):List KI->(AX->List AV->AS->Prop)->AX->List AV->AS->Prop
 | [],Q=>Q
 | .code k::ks,Q=>auZ P G (XS P G) H0 k (CY P G ks Q)
 | .nQ id::ks,Q=>Di id (CY P G ks Q)
inductive Sq where
 | at (id:Nat) (c:Code) (ks:List KI)
 | fin (e:AX)
abbrev HR:=Option (Sq×List Hn×List Cd×List AV×AS)
def adR(cd:List Cd):HR->HR
 | some (c,hs,cd',fr,s)=>some (c,hs,cd++cd',fr,s)
 | none=>none
def QY(r:Code->List KI->List Hn->List AV->AS->HR):List KI->AX->List Hn->List AV->AS->HR
 | [],e,hs,fr,s=>some (.fin e,hs,[],fr,s)
 | .code k::ks,.normal,hs,fr,s=>r k ks hs fr s
 | .code _::ks,e,hs,fr,s=>QY r ks e hs fr s
 | .nQ id::ks,.exit QK,hs,fr,s=>(match Nat.beq QK id with
   | true=>QY r ks .normal hs fr s
   | false=>QY r ks (.exit QK) hs fr s)
 | .nQ _::ks,e,hs,fr,s=>QY r ks e hs fr s
def SD(P:Program)(G:A8):Nat->Code->List KI->List Hn->List AV->AS->HR
 | 0,_,_,_,_,_=>none
 | n+1,c,ks,hs,fr,s=>(match Sb c with
   | false=>(match MC P G c hs fr s with
     | some (e,SF,cd,Vl,s1)=>adR cd (QY (SD P G n) ks e SF Vl s1)
     | none=>none)
   | true=>(match c with
     | .seq x y=>SD P G n x (.code y::ks) hs fr s
     | .block id (.loop c)=>some (.at id c ks,hs,[],fr,s)
     | .block id c=>SD P G n c (.nQ id::ks) hs fr s
     | .cond q x y=>(match AY G fr q with
       | some (.sc (.bool true))=>SD P G n x ks hs fr s
       | some (.sc (.bool false))=>SD P G n y ks hs fr s
       | _=>none)
     | _=>none))
section
variable {P:Program} {G:A8}
def SqQ(P:Program)(G:A8)(Q:AX->List AV->AS->Prop)(fr:List AV)(s:AS):Sq->Prop
 | .at id c ks=>WL P G (XS P G) H0 c fr s (Di id (CY P G ks Q))
 | .fin e=>Q e fr s
def NU{k:Code}{ks:List KI}{Q:AX->List AV->AS->Prop}{e:AX}{fr:List AV}{s:AS}(he:e≠.normal)(h:CY P G ks Q e fr s):CY P G (.code k::ks) Q e fr s:=by
 cases e with
 | normal=>exact absurd rfl he
 | exit id=>exact h
 | ret=>exact h
 | pan v=>exact h
def cP{r:Code->List KI->List Hn->List AV->AS->HR}{Q:AX->List AV->AS->Prop}
   (hr:∀(c:Code) (ks:List KI) {sp:Sq} {hs hs':List Hn} {fr fr':List AV} {s s':AS} {cd:List Cd},r c ks hs fr s=some (sp,hs',cd,fr',s')->QU P G cd->SqQ P G Q fr' s' sp->W P G (XS P G) H0 c fr s (CY P G ks Q)) :
   ∀(ks:List KI) (e:AX) {sp:Sq} {hs hs':List Hn} {fr fr':List AV} {s s':AS} {cd:List Cd},QY r ks e hs fr s=some (sp,hs',cd,fr',s')->QU P G cd->SqQ P G Q fr' s' sp->CY P G ks Q e fr s:=by
 intro ks
 induction ks with
 | nil=>intro e sp hs hs' fr fr' s s' cd h hc hk;simp only[QY] at h;cases h;exact hk
 | cons k ks ih =>
   intro e sp hs hs' fr fr' s s' cd h hc hk;cases k with
   | code c =>
     cases e with
     | normal=>simp only[QY] at h;exact hr c ks h hc hk
     | exit id=>simp only[QY] at h;exact NU (by simp) (ih _ h hc hk)
     | ret=>simp only[QY] at h;exact NU (by simp) (ih _ h hc hk)
     | pan v=>simp only[QY] at h;exact NU (by simp) (ih _ h hc hk)
   | nQ id =>
     show CY P G ks Q (D8 id e) fr s;cases e with
     | normal=>simp only[QY] at h;exact ih _ h hc hk
     | ret=>simp only[QY] at h;exact ih _ h hc hk
     | pan v=>simp only[QY] at h;exact ih _ h hc hk
     | exit QK =>
       simp only[QY] at h;split at h;rename_i hb;have:=beq_true hb;subst this;have e1:D8 QK (.exit QK)=.normal:=by simp[D8]
       rw[e1];exact ih _ h hc hk;rename_i hb;have:=beq_false hb;have e1:D8 id (.exit QK)=.exit QK:=by simp[D8,this]
       rw[e1];exact ih _ h hc hk
def cR{Q:AX->List AV->AS->Prop}:∀(n:Nat) (c:Code) (ks:List KI) {sp:Sq} {hs hs':List Hn} {fr fr':List AV} {s s':AS} {cd:List Cd},SD P G n c ks hs fr s=some (sp,hs',cd,fr',s')->QU P G cd->SqQ P G Q fr' s' sp->W P G (XS P G) H0 c fr s (CY P G ks Q):=by
 intro n
 induction n with
 | zero=>intro c ks sp hs hs' fr fr' s s' cd h;simp only[SD] at h;cases h
 | succ n ih =>
   intro c ks sp hs hs' fr fr' s s' cd h hc hk;simp only[SD] at h;split at h;split at h;rename_i e SF cd1 Vl s1 h1;unfold adR at h;split at h;rename_i h2;cases h;obtain⟨c1,c2⟩:=hc.T7;exact⟨_,_,_,adL c h1 c1,cP ih ks e h2 c2 hk⟩;cases h;cases h;split at h;exact aBF (ih _ _ h hc hk);cases h;exact rF (avP hk);exact rF (ih _ _ h hc hk);rw[Cv] at h;split at h;rename_i hq;exact alM hq (ih _ _ h hc hk);rename_i hq;exact alL hq (ih _ _ h hc hk);cases h;cases h
end
end AI
namespace AI
open Go Go.RowKit
def sub:Code->List Nat->Code
 | c,[]=>c
 | .seq x _,0::l=>sub x l
 | .seq _ y,_::l=>sub y l
 | .cond _ x _,0::l=>sub x l
 | .cond _ _ y,_::l=>sub y l
 | .block _ c,_::l=>sub c l
 | .loop c,_::l=>sub c l
 | c,_=>c
def Bk(fn:Func):Code:=fn.body.getD .skip
def obv(n:Nat):AV->Bool
 | .sc _=>true
 | .any=>true
 | .ptr id _=>Nat.blt id n
 | .mp id=>Nat.blt id n
 | .msl id _ _=>Nat.blt id n
 | _=>false
theorem agG{n m:Nat}{a:AV}(h:obv n a=true):Fits n m a a:=by
 refine .under ?_;cases a<;>simp only[obv] at h<;>first | rfl | (cases h;done) | exact decide_eq_true (Nat.le_of_ble_eq_true h)
structure FP(n m:Nat) where
 a:AV
 b:AV
 h:Fits n m a b
structure FB(n m:Nat) where
 a:AL
 b:AL
 h:QF n m a b
def fK{n m:Nat}:List (FP n m)->List AV
 | []=>[]
 | p::l=>p.a::fK l
def Zf{n m:Nat}:List (FP n m)->List AV
 | []=>[]
 | p::l=>p.b::Zf l
def fbA{n m:Nat}:List (FB n m)->List AL
 | []=>[]
 | p::l=>p.a::fbA l
def fbB{n m:Nat}:List (FB n m)->List AL
 | []=>[]
 | p::l=>p.b::fbB l
abbrev MR:=Option (List AV×List AV)
def Z9(b:AV):MR->MR
 | some (l,as)=>some (b::l,as)
 | none=>none
def afN(a b:AV):MR->MR
 | some (l,as)=>some (b::l,a::as)
 | none=>none
def afO(r:List AV->MR)(n:Nat)(a:AV)(bs:List AV):MR:=match obv n a with
 | true=>Z9 a (r bs)
 | false=>none
def aoD(r:List AV->MR)(a:AV):List AV->MR
 | b::bs=>afN a b (r bs)
 | []=>none
def aA(r:List AV->MR)(a:AV)(bs:List AV):MR:=match Um a with
 | true=>Z9 .any (r bs)
 | false=>none
def Zv(n:Nat):List AV->Nat->List Nat->List AV->MR
 | [],_,_,[]=>some ([],[])
 | [],_,_,_::_=>none
 | a::l,i,[],bs=>aA (Zv n l (i+2) []) a bs
 | a::l,i,t::ts,bs=>(match Nat.beq t i with
   | true=>afO (Zv n l (i+2) ts) n a bs
   | false=>(match Nat.beq t (i+1) with
     | true=>aoD (Zv n l (i+2) ts) a bs
     | false=>aA (Zv n l (i+2) (t::ts)) a bs))
section
variable {n m:Nat} {r:List AV->MR} {l:List AV} (hr:∀(fps:List (FP n m)) l2,r (Zf fps)=some (l2,fK fps)->Jp n m l l2) {a:AV} {fps:List (FP n m)} {l2:List AV}
include hr
theorem afP(h:afO r n a (Zf fps)=some (l2,fK fps)):Jp n m (a::l) l2:=by
 unfold afO at h;split at h
 · rename_i ho
   unfold Z9 at h;split at h
   · rename_i l3 as h1
     cases h;exact .cons (agG ho) (hr fps _ h1)
   · cases h
 · cases h
theorem tK(h:aoD r a (Zf fps)=some (l2,fK fps)):Jp n m (a::l) l2:=by
 cases fps with
 | nil=>cases h
 | cons p fps =>
   simp only[Zf,aoD] at h;unfold afN at h;split at h
   · rename_i l3 as h1
     simp only[fK,Option.some.injEq,Prod.mk.injEq,List.cons.injEq] at h;obtain⟨rfl,rfl,rfl⟩:=h;exact .cons p.h (hr fps _ h1)
   · cases h
theorem UA(h:aA r a (Zf fps)=some (l2,fK fps)):Jp n m (a::l) l2:=by
 unfold aA at h;split at h
 · rename_i hd
   unfold Z9 at h;split at h
   · rename_i l3 as h1
     cases h;exact .cons (.drop hd) (hr fps _ h1)
   · cases h
 · cases h
end
theorem aoH{n m:Nat}:∀{l:List AV} {i:Nat} {ts:List Nat} {fps:List (FP n m)} {l2:List AV},Zv n l i ts (Zf fps)=some (l2,fK fps)->Jp n m l l2:=by
 intro l
 induction l with
 | nil =>
   intro i ts fps l2 h;cases fps with
   | nil=>simp only[Zf,Zv] at h;cases h;exact .nil
   | cons p fps=>simp only[Zf,Zv] at h;cases h
 | cons a l ih =>
   intro i ts fps l2 h;cases ts with
   | nil=>simp only[Zv] at h;exact UA (λfps l2 h=>ih h) h
   | cons t ts =>
     simp only[Zv] at h;split at h
     · exact afP (λfps l2 h=>ih h) h
     · split at h
       · exact tK (λfps l2 h=>ih h) h
       · exact UA (λfps l2 h=>ih h) h
abbrev BR:=Option (List (Nat×AL)×List AL)
def asZ(id:Nat)(a b:AL):BR->BR
 | some (l,as)=>some ((id,b)::l,a::as)
 | none=>none
def nE:List (Nat×AL)->List AL->BR
 | [],[]=>some ([],[])
 | e::l,b::bs=>asZ e.1 e.2 b (nE l bs)
 | _,_=>none
theorem alT{n m:Nat}:∀{l:List (Nat×AL)} {fbs:List (FB n m)} {l2:List (Nat×AL)},nE l (fbB fbs)=some (l2,fbA fbs)->(∀k,Jo l k->Jo l2 k)/\∀id b,look id l2=some b->∃b',look id l=some b'/\QF n m b' b:=by
 intro l
 induction l with
 | nil =>
   intro fbs l2 h;cases fbs with
   | nil=>simp only[fbB,nE] at h;cases h;exact⟨λ_ _=>trivial,λid b h=>by cases h⟩
   | cons p fbs=>simp only[fbB,nE] at h;cases h
 | cons e l ih =>
   intro fbs l2 h;cases fbs with
   | nil=>simp only[fbB,nE] at h;cases h
   | cons p fbs =>
     simp only[fbB,nE] at h;unfold asZ at h;split at h
     · rename_i l3 as h1
       simp only[fbA,Option.some.injEq,Prod.mk.injEq,List.cons.injEq] at h;obtain⟨rfl,h2,rfl⟩:=h;obtain⟨hd,hl⟩:=ih h1;refine⟨λk hk=>⟨hk.1,hd _ hk.2⟩,λid b hb=>?_⟩;simp only[look] at hb ⊢;split at hb
       · cases hb;exact⟨e.2,rfl,by rw[h2];exact p.h⟩
       · exact hl id b hb
     · cases h
def V5(m:Nat):List (Nat×Nat)->List (Nat×Nat)
 | []=>[]
 | x::l=>match Nat.blt x.1 m with
   | true=>x::V5 m l
   | false=>V5 m l
theorem iA{m r n:Nat}{l:List (Nat×Nat)}(h:DY r (V5 m l)=some n):DY r l=some n/\r < m:=by
 induction l with
 | nil=>cases h
 | cons x l ih =>
   simp only[V5] at h;split at h
   · rename_i hb
     simp only[DY] at h ⊢;split at h
     · rename_i h1
       have:=beq_true h1;subst this;cases h;exact⟨rfl,Nat.le_of_ble_eq_true hb⟩
     · exact ih h
   · rename_i hb
     obtain⟨h1,h2⟩:=ih h;refine⟨?_,h2⟩;simp only[DY];split
     · rename_i h3
       have:=beq_true h3;subst this;rw[show Nat.blt x.1 m=true from Nat.ble_eq_true_of_le h2] at hb;cases hb
     · exact h1
section
variable {P:Program} {G:A8}
def vV(G:A8)(s0:AS)(fr':List AV)(s':AS)(fr2:List AV)(s2:AS):Prop:=∀(cx:Cx) (w:World) (c':Cx) (w':World) (vs:List Value),Ext cx w c' w'->St G cx w s0->St G c' w' s'->CH c' w' fr' vs->∃c2,Ext cx w c2 w'/\St G c2 w' s2/\CH c2 w' fr2 vs
abbrev RR:=Option (List AV×AS×List AV×List AL)
def azV(live:List Nat)(n m:Nat)(fr':List AV)(s':AS)(bs:List AV)(cs:List AL):RR :=
 match Zv n fr' 0 live bs with
 | some (fr2,as)=>(match nE (SY n s'.h) cs with
   | some (h2,cas)=>some (fr2,⟨h2,n,V5 m s'.F,m⟩,as,cas)
   | none=>none)
 | none=>none
theorem gX{l:List (Nat×AL)}{N n:Nat}(h:Jo l N):Jo (SY n l) n:=by
 induction l generalizing N with
 | nil=>trivial
 | cons e l ih =>
   simp only[SY];split
   · exact ih h.2
   · rename_i hb
     refine⟨?_,h.2⟩;have:¬n<=e.1:=λhle=>by rw[Nat.ble_eq_true_of_le hle] at hb;cases hb
     omega
def RT(P:Program)(G:A8)(L:Code)(s0:AS)(Q:AX->List AV->AS->Prop):AX->List AV->AS->Prop
 | .normal,fr',s'=>∃fr2 s2,vV G s0 fr' s' fr2 s2/\WL P G (XS P G) H0 L fr2 s2 Q
 | .exit id,fr',s'=>∃fr2 s2,vV G s0 fr' s' fr2 s2/\Q (.exit id) fr2 s2
 | e,fr',s'=>Q e fr' s'
theorem Vc{L:Code}{fr:List AV}{s:AS}{Q:AX->List AV->AS->Prop}(h:W P G (XS P G) H0 L fr s (RT P G L s Q)):WL P G (XS P G) H0 L fr s Q:=by
 obtain⟨e,fr',s',hj,h2⟩:=h;cases e with
 | normal =>
   obtain⟨fr2,s2,hf,e3,fr3,s3,h3,h4⟩:=h2;exact⟨e3,fr3,s3,.loopN (.scope hj (λ_ h=>by cases h) (λcx w c' w' vs hx hs hs' hfr=>hf cx w c' w' vs hx hs hs' hfr)) h3,h4⟩
 | exit id =>
   obtain⟨fr2,s2,hf,h4⟩:=h2;exact⟨_,_,_,.loopX (.scope hj (λ_ h=>by cases h) (λcx w c' w' vs hx hs hs' hfr=>hf cx w c' w' vs hx hs hs' hfr)) (by simp),h4⟩
 | ret=>exact⟨_,_,_,.loopX hj (by simp),h2⟩
 | pan v=>exact⟨_,_,_,.loopX hj (by simp),h2⟩
def Rc(P:Program)(fn:Func)(m:Nat)(Q:AX->List AV->AS->Prop)(v:AV)(s2:AS):Prop:=∀fr s,GB P s fn fr=some v->s.cut m=s2->Q .ret fr s
def Uc(m:Nat)(Q:AX->List AV->AS->Prop)(v:AV)(s2:AS):Prop:=∀fr s,s.cut m=s2->Q (.pan v) fr s
theorem zL{ks:List KI}{Q:AX->List AV->AS->Prop}{fr:List AV}{s:AS}(h:Q .ret fr s):CY P G ks Q .ret fr s:=by
 induction ks with
 | nil=>exact h
 | cons k ks ih=>cases k<;>exact ih
theorem zK{ks:List KI}{Q:AX->List AV->AS->Prop}{fr:List AV}{s:AS}{v:AV}(h:Q (.pan v) fr s):CY P G ks Q (.pan v) fr s:=by
 induction ks with
 | nil=>exact h
 | cons k ks ih=>cases k<;>exact ih
theorem Rc.body{fn:Func}{m:Nat}{Q:CR->AS->Prop}{v:AV}{s2:AS}(h:Q (.ret v) s2):Rc P fn m (SW P fn m Q) v s2:=λfr s h1 h2=>⟨v,h1,by rw[h2];exact h⟩
theorem Uc.body{fn:Func}{m:Nat}{Q:CR->AS->Prop}{v:AV}{s2:AS}(h:Q (.pan v) s2):Uc m (SW P fn m Q) v s2:=λfr s h2=>by show Q (.pan v) (s.cut m);rw[h2];exact h
theorem Rc.outer{fn:Func}{m id:Nat}{ks:List KI}{Q:AX->List AV->AS->Prop}{v:AV}{s2:AS}(h:Rc P fn m Q v s2):Rc P fn m (Di id (CY P G ks Q)) v s2:=λfr s h1 h2=>zL (h fr s h1 h2)
theorem Uc.outer{m id:Nat}{ks:List KI}{Q:AX->List AV->AS->Prop}{v:AV}{s2:AS}(h:Uc m Q v s2):Uc m (Di id (CY P G ks Q)) v s2:=λfr s h1=>zK (h fr s h1)
theorem Rc.G6{fn:Func}{m:Nat}{L:Code}{s0:AS}{Q:AX->List AV->AS->Prop}{v:AV}{s2:AS}(h:Rc P fn m Q v s2):Rc P fn m (RT P G L s0 Q) v s2:=h
theorem Uc.G6{m:Nat}{L:Code}{s0:AS}{Q:AX->List AV->AS->Prop}{v:AV}{s2:AS}(h:Uc m Q v s2):Uc m (RT P G L s0 Q) v s2:=h
def aET(P:Program)(fn:Func)(m:Nat):HR->Option (List Cd×AV×AS)
 | some (.fin .ret,[],cd,fr,s)=>(match GB P s fn fr with
   | some v=>some (cd,v,s.cut m)
   | none=>none)
 | _=>none
def Ue(P:Program)(G:A8)(_l:List (PC P G))(Q:AX->List AV->AS->Prop)(r:HR)(X:Prop):Prop:=∀sp cd fr' s',r=some (sp,[],cd,fr',s')->QU P G cd->SqQ P G Q fr' s' sp->X
theorem Ae{c:Code}{fr:List AV}{s:AS}{Q:AX->List AV->AS->Prop}(n:Nat)(l:List (PC P G)):Ue P G l Q (SD P G n c [] (pHs l) fr s) (W P G (XS P G) H0 c fr s Q):=λ_ _ _ _ h hc hk=>cR n c [] h hc hk
theorem SM{id:Nat}{ks:List KI}{fr:List AV}{s:AS}{Q:AX->List AV->AS->Prop}(n:Nat)(l:List (PC P G)):Ue P G l Q (QY (SD P G n) ks .normal (pHs l) fr s) (Di id (CY P G ks Q) (.exit id) fr s):=λ_ _ _ _ h hc hk=>by
 show CY P G ks Q (D8 id (.exit id)) fr s;have:D8 id (.exit id)=.normal:=by simp[D8]
 rw[this];exact cP (cR n) ks _ h hc hk
theorem go_ret{r:HR}{X:Prop}{Q:AX->List AV->AS->Prop}(fn:Func)(m:Nat){l:List (PC P G)}(v:AV)(s2:AS)(R:Ue P G l Q r X)(h:aET P fn m r=some (fQ l,v,s2))(k:Rc P fn m Q v s2):X:=by
 unfold aET at h;split at h
 · rename_i cd fr' s'
   split at h
   · rename_i v' hv
     simp only[Option.some.injEq,Prod.mk.injEq] at h;obtain⟨rfl,rfl,rfl⟩:=h;exact R _ _ _ _ rfl (NC l) (k _ _ hv rfl)
   · cases h
 · cases h
def nN(a:AV):AV:=match Um a with
 | true=>.any
 | false=>a
theorem wV{a:AV}{c:Cx}{w:World}{v:Value}(hr:Rp c w a v):Rp c w (nN a) v:=by
 unfold nN;split
 · rename_i h;exact .any (To hr h)
 · exact hr
inductive Lp(γ δ ρ:Type) where
 | nx (x:γ)
 | ex (x:δ)
 | rt (r:ρ)
section loops
variable {α γ δ ρ:Type}
def Og(k:γ->Option (δ⊕ρ)):Lp γ δ ρ->Option (δ⊕ρ)
 | .nx x=>k x
 | .ex d=>some (.inl d)
 | .rt r=>some (.inr r)
def CX(body:Nat->α->γ->Option (Lp γ δ ρ))(done:γ->δ):List α->Nat->γ->Option (δ⊕ρ)
 | [],_,x=>some (.inl (done x))
 | y::l,i,x=>(body i y x).bind (Og (CX body done l (i+1)))
def cB(body:Nat->γ->Option (Lp γ δ ρ))(done:γ->δ):Nat->Nat->γ->Option (δ⊕ρ)
 | 0,_,x=>some (.inl (done x))
 | d+1,i,x=>(body i x).bind (Og (cB body done d (i+1)))
def Hc(body:γ->Option (Lp γ δ ρ)):Nat->γ->Option (δ⊕ρ)
 | 0,_=>none
 | n+1,x=>(body x).bind (Og (Hc body n))
def Lk{β:Type}(n:Nat)(x:Option β):Option β:=if n<=9223372036854775807 then x else none
theorem aoA{β:Type}{n:Nat}{x:Option β}{r:β}(h:Lk n x=some r):n<=9223372036854775807/\x=some r:=by
 unfold Lk at h;split at h
 · rename_i h1;exact⟨h1,h⟩
 · cases h
theorem aJJ{β:Type}{b:Bool}{t f:Option β}{r:β}(h:cond b t f=some r):(b=true/\t=some r)\/(b=false/\f=some r):=by
 cases b
 · exact .inr ⟨rfl,h⟩
 · exact .inl ⟨rfl,h⟩
theorem Zl{β κ:Type}{m:Option κ}{k:κ->Option β}{r:β}(h:m.bind k=some r):∃y,m=some y/\k y=some r:=by
 cases m with
 | none=>cases h
 | some y=>exact⟨y,rfl,h⟩
def LQ(Qx:δ->Prop)(Qr:ρ->Prop):δ⊕ρ->Prop
 | .inl x=>Qx x
 | .inr r=>Qr r
def RQ(Qn:γ->Prop)(Qx:δ->Prop)(Qr:ρ->Prop):Lp γ δ ρ->Prop
 | .nx x=>Qn x
 | .ex x=>Qx x
 | .rt r=>Qr r
theorem alJ{J:Type}{L:Code}{Q:AX->List AV->AS->Prop}{body:Nat->α->γ->Option (Lp γ δ ρ)}{done:γ->δ}(l:List α)(F:Nat->γ->J->List AV)(S:Nat->γ->J->AS)(Ok:J->Prop)(Qx:δ->Prop)(Qr:ρ->Prop)
   (hz:∀i x j,Ok j->l.length<=i->Qx (done x)->WL P G (XS P G) H0 L (F i x j) (S i x j) Q)
   (hs:∀i y x j r,Ok j->l[i]?=some y->i < l.length->body i y x=some r->RQ (λx'=>∀j',Ok j'->WL P G (XS P G) H0 L (F (i+1) x' j') (S (i+1) x' j') Q) Qx Qr r->WL P G (XS P G) H0 L (F i x j) (S i x j) Q) :
   ∀{x:γ} {res:δ⊕ρ} (i0:Nat),CX body done (l.drop i0) i0 x=some res->LQ Qx Qr res->∀j,Ok j->WL P G (XS P G) H0 L (F i0 x j) (S i0 x j) Q:=by
 have key:∀(k:List α) (i:Nat) (x:γ) (res:δ⊕ρ),l.drop i=k->CX body done k i x=some res->LQ Qx Qr res->∀j,Ok j->WL P G (XS P G) H0 L (F i x j) (S i x j) Q:=by
   intro k
   induction k with
   | nil =>
     intro i x res hd h hq j hj;simp only[CX,Option.some.injEq] at h;subst h;exact hz i x j hj (List.drop_eq_nil_iff.1 hd) hq
   | cons y k ih =>
     intro i x res hd h hq j hj
     have hi:i < l.length:=by
       rcases Nat.lt_or_ge i l.length with h1 | h1
       · exact h1
       · rw[List.drop_eq_nil_of_le h1] at hd;cases hd
     have hy:l[i]?=some y:=by rw[<- List.head?_drop,hd];rfl
     have hd2:l.drop (i+1)=k:=by rw[<- List.tail_drop,hd];rfl
     obtain⟨r,hb,h⟩:=Zl h;refine hs i y x j r hj hy hi hb ?_;cases r with
     | nx x'=>exact λj' hj'=>ih (i+1) x' res hd2 h hq j' hj'
     | ex d=>simp only[Og,Option.some.injEq] at h;subst h;exact hq
     | rt v=>simp only[Og,Option.some.injEq] at h;subst h;exact hq
 intro x res i0 h hq j hj;exact key _ i0 x res rfl h hq j hj
theorem alK{J:Type}{L:Code}{Q:AX->List AV->AS->Prop}{body:γ->Option (Lp γ δ ρ)}(F:γ->J->List AV)(S:γ->J->AS)(Ok:J->Prop)(Qx:δ->Prop)(Qr:ρ->Prop)
   (hs:∀x j r,Ok j->body x=some r->RQ (λx'=>∀j',Ok j'->WL P G (XS P G) H0 L (F x' j') (S x' j') Q) Qx Qr r->WL P G (XS P G) H0 L (F x j) (S x j) Q) :
   ∀(n:Nat) {x:γ} {res:δ⊕ρ},Hc body n x=some res->LQ Qx Qr res->∀j,Ok j->WL P G (XS P G) H0 L (F x j) (S x j) Q:=by
 intro n
 induction n with
 | zero=>intro x res h;cases h
 | succ n ih =>
   intro x res h hq j hj;obtain⟨r,hb,h⟩:=Zl h;refine hs x j r hj hb ?_;cases r with
   | nx x'=>exact λj' hj'=>ih h hq j' hj'
   | ex d=>simp only[Og,Option.some.injEq] at h;subst h;exact hq
   | rt v=>simp only[Og,Option.some.injEq] at h;subst h;exact hq
def P7(body:γ->Option (Lp γ δ ρ))(x:γ):Option (δ⊕ρ):=open Classical in if h:∃n r,Hc body n x=some r then some (Classical.choose (Classical.choose_spec h)) else none
theorem amQ{body:γ->Option (Lp γ δ ρ)}{x:γ}{r:δ⊕ρ}(h:P7 body x=some r):∃n,Hc body n x=some r:=by
 unfold P7 at h;split at h
 · rename_i hx
   have:=Classical.choose_spec (Classical.choose_spec hx);rw[Option.some.inj h] at this;exact⟨_,this⟩
 · cases h
theorem Yf{body:γ->Option (Lp γ δ ρ)}:∀{n m:Nat} {x:γ} {r:δ⊕ρ},Hc body n x=some r->n<=m->Hc body m x=some r:=by
 intro n
 induction n with
 | zero=>intro m x r h;cases h
 | succ n ih =>
   intro m x r h hm;cases m with
   | zero=>omega
   | succ m =>
     obtain⟨a,ha,h⟩:=Zl h;simp only[Hc,ha,Option.bind_some];cases a with
     | nx x'=>exact ih h (by omega)
     | ex d=>exact h
     | rt v=>exact h
theorem Jb{body:γ->Option (Lp γ δ ρ)}{n:Nat}{x:γ}{r:δ⊕ρ}(h:Hc body n x=some r):P7 body x=some r:=by
 unfold P7;have hx:∃n r,Hc body n x=some r:=⟨n,r,h⟩;rw[dif_pos hx];have h2:=Classical.choose_spec (Classical.choose_spec hx);have h3:=Yf h (Nat.le_max_left n (Classical.choose hx));have h4:=Yf h2 (Nat.le_max_right n (Classical.choose hx));rw[h3] at h4;rw[Option.some.inj h4]
end loops
end
end AI
