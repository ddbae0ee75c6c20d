/- Part of a proof: see the last text. -/
import Derived.Test.YtpbkhogolfegfaaGreatDoorPte
set_option linter.unusedVariables false
set_option linter.unusedSimpArgs false
set_option linter.defProp false
noncomputable section
namespace AI
open Go Go.RowKit
def Ng(op:Op):Bool:=match op with
 | .call cl=>(match cl.callee with | .value _=>true | _=>false)
 | _=>false
def PQ(op:Op):Bool:=match op with
 | .call cl=>(match cl.callee with | .value _=>true | .builtin .append=>true | _=>false)
 | _=>false
def akV{op:Op}(h:Ng op=true):PQ op=true:=by
 unfold Ng at h;split at h;split at h;rename_i H8;simp[PQ,H8];cases h;cases h
def bD:List Hn->Bool
 | .a _ _::_=>true
 | .u _ _ _ _ _::_=>true
 | .cn _ _ _ _ _::_=>true
 | .mb _ _::_=>true
 | _=>false
def fL(P:Program)(G:A6)(ops:Array Oper)(fr:List AV)(s:AS)(o:Oper)(hs:List Hn):HO:=match PQ o.op with
 | true=>(match bD hs with
   | true=>none
   | false=>Zj P G ops fr s o hs)
 | false=>Zj P G ops fr s o hs
def Xn{P:Program}{G:A6}{ops:Array Oper}{fr:List AV}{s:AS}{o:Oper}{hs:List Hn}{r:AV×AS×List Hn×List Cd}(h:fL P G ops fr s o hs=some r):Zj P G ops fr s o hs=some r/\(PQ o.op=true->bD hs=false):=by
 unfold fL at h;split at h;split at h;cases h;rename_i h1;exact⟨h,λ_=>h1⟩;rename_i h1;exact⟨h,λh2=>by rw[h1] at h2;cases h2⟩
def RD{P:Program}{G:A6}{ops:Array Oper}{fr:List AV}{s:AS}{o:Oper}{hs:List Hn}{r:AV×AS×List Hn×List Cd}(h:fL P G ops fr s o hs=some r):Zj P G ops fr s o hs=some r/\(Ng o.op=true->bD hs=false):=⟨(Xn h).1,λh1=>(Xn h).2 (akV h1)⟩
abbrev HT:=Option (List Hn×List Cd×List (List AV×AS×AV)×List AV×AS)
def uI(cd:List Cd)(x:List AV×AS×AV):HT->HT
 | some (hs,cd',t,fr,s)=>some (hs,cd++cd',x::t,fr,s)
 | none=>none
def hTr(P:Program)(G:A6)(ops:Array Oper):List Oper->Nat->List Hn->List AV->AS->HT
 | [],_,hs,fr,s=>some (hs,[],[],fr,s)
 | o::l,q,hs,fr,s=>(match BX o.op with
   | true=>uI [] (fr,s,Ow ops fr o q) (hTr P G ops l (q+1) hs (Ij fr o.dst (Ow ops fr o q)) s)
   | false=>(match fL P G ops fr s o hs with
     | some (v,s1,R0,cd)=>uI cd (fr,s,v) (hTr P G ops l q R0 (Ij fr o.dst v) s1)
     | none=>none))
def azM(q0:Nat):Option AV->Bool
 | some (.el _)=>true
 | some (.ptr id _)=>Nat.blt id q0
 | _=>false
def aBB(q0:Nat):Option AV->Bool
 | some (.ptr id _)=>Nat.ble q0 id
 | _=>false
def slV:Option AV->Bool
 | some (.sl _ _ _)=>true
 | some (.sc (.string _))=>true
 | _=>false
def mpV(q0:Nat):Option AV->Bool
 | some (.mp id)=>Nat.blt id q0
 | _=>false
def indep(G:A6)(q0:Nat)(fr:List AV)(o:Oper):Bool:=match o.op with
 | .load _ a=>azM q0 (AW G fr a)
 | .lookup _ m _ _=>mpV q0 (AW G fr m)
 | .store _ a _=>aBB q0 (AW G fr a)
 | .call cl=>(match cl.callee with
   | .value _=>true
   | .builtin .append=>true
   | .builtin .len=>(match cl.args.toList with
     | [x]=>slV (AW G fr x)
     | _=>false)
   | _=>quiet o.op)
 | .alloc _=>true
 | op=>quiet op
def Lh(G:A6)(ops:Array Oper)(q0:Nat):List Oper->List (List AV×AS×AV)->Bool
 | o::os,t::ts=>(match Cs ops t.1 o with
   | false=>Lh G ops q0 os ts
   | true=>(match indep G q0 t.1 o with
     | true=>Lh G ops q0 os ts
     | false=>false))
 | _,_=>true
def kU(q0:Nat)(s s':AS):Prop:=∀id,id < q0->s'.get id=s.get id
def Ic{id Qp:Nat}{b:AL}(h:Qp≠id):∀(l:List (Nat×AL)),look Qp (Qw id b l)=look Qp l
 | []=>rfl
 | e::l=>by
   simp only[Qw];split;rename_i hb;have hb:=beq_true hb;simp only[look]
   have h1:Nat.beq id Qp=false:=by cases hq:Nat.beq id Qp with
     | true=>exact absurd (beq_true hq).symm h
     | false=>rfl
   rw[hb,h1];simp only[look,Ic h l]
section
variable {P:Program} {G:A6} {ops:Array Oper}
def akA{q0:Nat}{fr:List AV}{s s1:AS}{o:Oper}{hs hs':List Hn}{v:AV}{cd:List Cd}(h:Zj P G ops fr s o hs=some (v,s1,hs',cd))(hA:PQ o.op=true->bD hs=false)(hi:Cs ops fr o=true->indep G q0 fr o=true)(hc:QB P G cd)(ha:BX o.op=false):kU q0 s s1:=by
 intro id hid;have hj:=OB h hc;cases hq:quiet o.op with
 | true=>rw[(Jz hq hj).1]
 | false =>
   unfold Zj at h;split at h;rename_i hw;have hi:=hi hw;unfold indep at hi;split at hi;rename_i t a ho;rw[ho] at hq;cases hq;rename_i t m k ok ho;rw[ho] at hq;cases hq;rename_i t a x ho;unfold uF at h;rw[ho] at h;simp only at h
   have h1:∃a' x',A8 G fr a=some a'/\A8 G fr x=some x'/\J9 P s t a' x'=some s1:=by
     rcases UN h hc with ⟨a',x',h2,h3,h4,_⟩ | h2
     exact⟨a',x',h2,h3,h4⟩;have h1:=UM h2;rw[Mx] at h1;unfold Pz at h1;rw[ho] at h1;simp only at h1;split at h1;rename_i a' x' xA VU;obtain⟨s',FW,he⟩:=map_some h1;injection he with he1 he2
     subst he2;exact⟨a',x',xA,VU,FW⟩;cases h1
   rw[Cn] at hi;obtain⟨a',x',xA,VU,FW⟩:=h1;rw[xA] at hi;unfold aBB at hi;split at hi;rename_i Qp off OT;cases OT;unfold J9 at FW;split at FW;rename_i i id2 aJM TV abP;cases abP;split at FW;split at FW;cases FW;have:=Nat.le_of_ble_eq_true hi;exact Ic (by omega) _;cases FW;cases FW;cases FW;cases hi;rename_i cl ho;split at hi;rename_i f H8;unfold uF at h;rw[ho] at h;simp only[H8] at h;unfold Xm at h;split at h;split at h;cases h;rfl;cases h;have:=hA (by rw[ho];simp[PQ,H8]);simp[bD] at this;have:=hA (by rw[ho];simp[PQ,H8]);simp[bD] at this;have:=hA (by rw[ho];simp[PQ,H8]);simp[bD] at this;cases h;rename_i H8;unfold uF at h;rw[ho] at h;simp only[H8] at h;have no:=hA (by rw[ho];simp[PQ,H8]);split at h;split at h;split at h;unfold aaW at h;split at h;simp[bD] at no;simp[bD] at no;cases h;rfl;cases h;rfl;split at h;cases h;rfl;split at h;split at h;cases h;rfl;cases h;cases h;cases h;cases h;cases h;cases h;cases h;rename_i H8;rw[ho] at hq;simp[quiet,H8] at hq;rw[ho] at hq;rw[ho,hq] at hi;cases hi;rename_i e ho;rw[ho] at ha;cases ha;rw[hq] at hi;cases hi;cases h;rfl
def kU.refl(q0:Nat)(s:AS):kU q0 s s:=λ_ _=>rfl
def kU.trans{q0:Nat}{a b c:AS}(h:kU q0 a b)(k:kU q0 b c):kU q0 a c:=λid hid=>(k id hid).trans (h id hid)
def auC{q0:Nat}{l:List Oper}{q:Nat}{hs hs':List Hn}{fr fr':List AV}{s s':AS}{cd:List Cd}{t:List (List AV×AS×AV)}(h:hTr P G ops l q hs fr s=some (hs',cd,t,fr',s'))(hc:QB P G cd)(hi:Lh G ops q0 l t=true) :
   RT P G (XS P G) H0 ops q l fr s t fr' s'/\(∀x∈t,kU q0 s x.2.1)/\kU q0 s s':=by
 induction l generalizing q hs fr s cd t with
 | nil=>simp only[hTr] at h;cases h;exact⟨.nil,(λx hx=>by cases hx),kU.refl _ _⟩
 | cons o l ih =>
   simp only[hTr] at h;cases ha:BX o.op with
   | true =>
     rw[ha] at h;simp only at h;unfold uI at h;split at h;rename_i dK tU t2 fr2 s2 h2;cases h
     have TV:Lh G ops q0 l t2=true:=by
       simp only[Lh] at hi;split at hi;exact hi;split at hi;exact hi;cases hi
     obtain⟨k1,k2,k3⟩:=ih h2 (hc.Tx).2 TV;refine⟨.alloc ha k1,λx hx=>?_,k3⟩;rcases List.mem_cons.1 hx with rfl | hx
     exact kU.refl _ _;exact k2 x hx;cases h
   | false =>
     rw[ha] at h;simp only at h;split at h;rename_i v s1 R0 wY h1;unfold uI at h;split at h;rename_i dK tU t2 fr2 s2 h2;cases h;obtain⟨c1,c2⟩:=hc.Tx
     have hi1:Cs ops fr o=true->indep G q0 fr o=true:=by
       intro hw;simp only[Lh,hw] at hi;split at hi;assumption;cases hi
     have TV:Lh G ops q0 l t2=true:=by
       simp only[Lh] at hi;split at hi;exact hi;split at hi;exact hi;cases hi
     have hf:=akA (RD h1).1 (Xn h1).2 hi1 c1 ha;obtain⟨k1,k2,k3⟩:=ih h2 c2 TV;refine⟨.cons ha (OB (RD h1).1 c1) k1,λx hx=>?_,hf.trans k3⟩;rcases List.mem_cons.1 hx with rfl | hx
     exact kU.refl _ _;exact hf.trans (k2 x hx);cases h;cases h
def uT{q0:Nat}{os:List Oper}{ts:List (List AV×AS×AV)}(h:Lh G ops q0 os ts=true){i:Nat}{o:Oper}{x:List AV×AS×AV}(ho:os[i]?=some o)(hx:ts[i]?=some x)(hw:Cs ops x.1 o=true):indep G q0 x.1 o=true:=by
 induction os generalizing ts i with
 | nil=>simp at ho
 | cons y os ih =>
   cases ts with
   | nil=>simp at hx
   | cons t ts =>
     simp only[Lh] at h;cases i with
     | zero =>
       simp at ho hx;subst ho hx;rw[hw] at h;simp only at h;split at h;assumption;cases h
     | succ i =>
       have h2:Lh G ops q0 os ts=true:=by
         split at h;exact h;split at h;exact h;cases h
       exact ih h2 (by simpa using ho) (by simpa using hx)
def aaK{q0:Nat}{fr:List AV}{s0 s s2:AS}{o:Oper}{v:AV}(hq:quiet o.op=true)(hr:reads o.op=true)(hi:indep G q0 fr o=true)(h1:kU q0 s0 s)(h2:kU q0 s0 s2)(h:Pz P G fr s o=some (.val v s)):Pz P G fr s2 o=some (.val v s2):=by
 unfold indep at hi;split at hi;rename_i t a ho;rw[Cn] at hi;unfold Pz at h ⊢;rw[ho] at h ⊢;simp only at h ⊢;obtain⟨v',h3,h4⟩:=map_some h;injection h4 with h4
 subst h4;obtain⟨b,h5,h6⟩:=bind_some h3;rw[h5] at hi ⊢;unfold azM at hi;split at hi;rename_i OT;cases OT;simp only[Option.bind_some];rw[show I4 P s2 t (.el _)=I4 P s t (.el _) from rfl,h6];rfl;rename_i id off OT;cases OT;have hid:id < q0:=Nat.le_of_ble_eq_true hi
 have:I4 P s2 t (.ptr id off)=I4 P s t (.ptr id off):=by
   simp only[I4];rw[h2 id hid,h1 id hid]
 simp only[Option.bind_some];rw[this,h6];rfl;cases hi
 · rename_i t m k ok ho
   rw[Cn] at hi;unfold Pz at h ⊢;rw[ho] at h ⊢;simp only at h ⊢;unfold mpV at hi;split at hi
   · rename_i id OT
     have hid:id < q0:=Nat.le_of_ble_eq_true hi;rw[OT] at h ⊢;cases hk:A8 G fr k with
     | none=>rw[hk] at h;cases h
     | some b =>
       rw[hk] at h;simp only at h ⊢;obtain⟨v',h3,h4⟩:=map_some h;injection h4 with h4
       subst h4
       have:IK P s2 t (.mp id) b ok=IK P s t (.mp id) b ok:=by
         unfold IK;simp only;rw[h2 id hid,h1 id hid]
       rw[this,h3];rfl
   cases hi
 rename_i t a x ho;rw[ho] at hq;cases hq
 · rename_i cl ho
   split at hi;rename_i f H8;rw[ho] at hq;simp[quiet,H8] at hq;rename_i H8;rw[ho] at hq;simp[quiet,H8] at hq
   · rename_i H8
     unfold Pz at h ⊢;rw[ho] at h ⊢;simp only[Se,H8] at h ⊢;split at hi
     · rename_i x hx
       rw[hx] at h ⊢;cases ht:cl.argTypes.toList with
       | nil=>rw[ht] at h;cases h
       | cons t1 ts =>
         cases ts with
         | cons _ _=>rw[ht] at h;cases h
         | nil =>
           rw[ht] at h;simp only at h ⊢;obtain⟨v',h3,h4⟩:=map_some h;injection h4 with h4
           subst h4;obtain⟨b,h5,h6⟩:=bind_some h3;rw[Cn,h5] at hi;rw[h5];simp only[Option.bind_some]
           have:VP P s2 t1 b=VP P s t1 b:=by
             unfold slV at hi;split at hi
             · rename_i OT;cases OT;unfold VP;split<;>first | rfl | (simp_all;done)
             · rename_i OT;cases OT;unfold VP;split<;>first | rfl | (simp_all;done)
             cases hi
           rw[this,h6];rfl
     cases hi
   · rename_i hn1 hn2
     rw[ho] at hr;unfold reads at hr;simp only at hr
     first
       | (cases hr;done)
       | (split at hr
          rename_i H8;exact absurd H8 hn2;cases hr)
 rename_i e ho;rw[ho] at hq;cases hq;rename_i hn1 hn2 hn3 hn4 hn5;exfalso;unfold reads at hr;split at hr;rename_i ho;exact hn1 _ _ ho;rename_i ho;exact hn2 _ _ _ _ ho;rename_i ho;exact hn4 _ ho;cases hr
def zV{id:Nat}{fr fr':List AV}{s s':AS}{r:List AL}{t:List (List AV×AS×AV)}{hs hs':List Hn}{cd:List Cd}(G9:LN ops=true)(hr:rsv P ops.toList=some r)(h:hTr P G ops ops.toList s.nx hs fr (s.hold r)=some (hs',cd,t,fr',s'))(hc:QB P G cd)(hi:Lh G ops s.nx ops.toList t=true)(abZ:Wv P ops t s' s.nx r=true):J P G (XS P G) H0 (.code (.region id ops true) fr s .normal fr' s'):=by
 obtain⟨uQ,aHM,aAC⟩:=auC h hc hi;have hlen:t.length=ops.size:=by rw[uQ.len,Array.length_toList]
 have xC:∀k,kU s.nx (s.hold r) (Fv t s' k):=by
   intro k;unfold Fv;split;rename_i x hx;exact aHM x (List.mem_of_getElem? hx);exact aAC
 obtain⟨h0,SO⟩:=uQ.at;have mA:∀i o,ops[i]?=some o->Cf ops i=o.dst:=λi o ho=>by unfold Cf;rw[ho];rfl
 obtain⟨UP,Xr⟩:=uQ.aQ (Cf ops) (JX t) fr 0 rfl (λi o ho=>by rw[Nat.zero_add];exact mA i o (by rw[<- Array.getElem?_toList];exact ho)) (λi=>.inl (by rw[Nat.zero_add]));rw[Nat.zero_add,Array.length_toList] at UP
 have JG:∀(i:Nat) (o:Oper),ops[i]?=some o->BX o.op=false->J P G (XS P G) H0 (.op ops o (H9 fr (Cf ops) (JX t) (λ_=>true) i) (Fv t s' i) (.ret (JX t i)) (Fv t s' (i+1))):=by
   intro i o ho kM;obtain⟨fi,h1,h2⟩:=SO i o (Cc ho);have:=Xr i _ h1;simp only[Nat.zero_add] at this;rcases h2 with ⟨_,h2⟩ | ⟨h2,_⟩
   rw[<- this];exact h2;rw[kM] at h2;cases h2
 have azW:∀(i:Nat) (o:Oper),ops[i]?=some o->BX o.op=true->Fv t s' (i+1)=Fv t s' i/\JX t i=Ow ops (H9 fr (Cf ops) (JX t) (λ_=>true) i) o (s.nx+rk ops i):=by
   intro i o ho bB;obtain⟨fi,h1,h2⟩:=SO i o (Cc ho);have:=Xr i _ h1;simp only[Nat.zero_add] at this;rcases h2 with ⟨h2,_⟩ | ⟨_,h2⟩
   rw[bB] at h2;cases h2;rw[<- this];exact h2
 have kM:∀o:Oper,quiet o.op=true->BX o.op=false:=by
   intro o hq;cases bB:BX o.op with
   | false=>rfl
   | true=>obtain⟨e,he⟩:=Kb bB;rw[Qm he] at hq;cases hq
 have hnl:∀o:Oper,calm o.op=false->BX o.op=false:=by
   intro o hq;cases bB:BX o.op with
   | false=>rfl
   | true=>unfold calm at hq;rw[bB] at hq;cases hq
 have hsn:Fv t s' ops.size=s':=by
   unfold Fv;rw[List.getElem?_eq_none (by omega)]
 have hsk:∀k,k<=ops.size->(t.map (λx=>x.2.1)++[s'])[k]?=some (Fv t s' k):=by
   intro k hk;unfold Fv;by_cases hkt:k < t.length;rw[List.getElem?_append_left (by simpa using hkt),List.getElem?_map,List.getElem?_eq_getElem hkt];rfl
   have:k=t.length:=by omega
   subst this;rw[List.getElem?_append_right (by simp)];simp
 have pO:∀l,l∈MC ops.toList 0->XL ops l:=by
   intro l hl;obtain⟨j,o',e,h5,h6⟩:=bL hl;rw[Nat.zero_add] at e;subst e;exact⟨o',by rw[<- Array.getElem?_toList];exact h5,h6⟩
 have key:=J.draw (P:=P) (G:=G) (X:=XS P G) (H:=H0) (id:=id) (f0:=fr) (s0:=s) r (JX t) (Fv t s') h0 G9 (λi o ho hl=>JG i o ho (hnl o hl)) (λi o ho hq=>by
   obtain⟨h1,h2⟩:=Jz hq (JG i o ho (kM o hq));refine⟨h1,?_⟩;rcases h2 with h2 | ⟨hw,h2⟩
   exact .inl h2
   · refine .inr ⟨hw,λk hk YN=>?_⟩
     cases hrd:reads o.op with
     | false=>exact Ta hq hrd h2 _
     | true =>
       obtain⟨fi,hti,_⟩:=SO i o (Cc ho);have xB:=Xr i _ hti;simp only[Nat.zero_add] at xB;have hin:=uT hi (Cc ho) hti (by rw[xB];exact hw);rw[xB] at hin;exact aaK hq hrd hin (xC i) (xC k) h2) (λi o e ho he=>by
   have bB:BX o.op=true:=by rw[he];rfl
   obtain⟨h1,h2⟩:=azW i o ho bB;refine⟨h1,?_⟩
   have hrk:rk ops i < r.length:=by
     rw[anG hr];exact nO (Cc ho) bB (by rw[Array.length_toList];exact(Array.getElem?_eq_some_iff.1 ho).1)
   cases hw:Cs ops (H9 fr (Cf ops) (JX t) (λ_=>true) i) o with
   | false=>unfold Ow at h2;rw[hw] at h2;exact .inl ⟨rfl,h2⟩
   | true =>
     unfold Ow at h2;rw[hw] at h2;obtain⟨fi,hti,_⟩:=SO i o (Cc ho);have xB:=Xr i _ hti;simp only[Nat.zero_add] at xB
     have hal:SH P ops (Hs ops.toList []) (MC ops.toList 0) (t.map (·.2.1)++[s']) ops.toList t 0 s.nx=true:=by
       unfold Wv at abZ;split at abZ;simp at hrk;exact abZ
     obtain⟨z,hz,hbx⟩:=tG hal (Cc ho) hti he (by rw[xB];exact hw);rw[Nat.zero_add] at hbx;exact .inr ⟨rfl,z,hz,hrk,h2,λk hk YN=>tS hbx (hsk k hk) (by rw[Nat.zero_add];exact apZ pO YN)⟩)
 rw[<- UP,hsn] at key;exact key
end
end AI
namespace AI
open Go Go.RowKit
def uJ(P:Program)(G:A6)(ops:Array Oper)(c:Nat):List Oper->Nat->List Hn->List AV->AS->HT
 | [],_,hs,fr,s=>some (hs,[],[],fr,s)
 | o::l,i,hs,fr,s=>(match (match Nat.beq i c with
     | true=>Zj P G ops fr s o hs
     | false=>fL P G ops fr s o hs) with
   | some (v,s1,R0,cd)=>uI cd (fr,s,v) (uJ P G ops c l (i+1) R0 (Ij fr o.dst v) s1)
   | none=>none)
def T1(ms:List Nat)(c:Nat):List Oper->Nat->Bool
 | [],_=>true
 | o::l,i=>(match Nat.beq i c with
   | true=>!calm o.op
   | false=>(match Ng o.op with
     | true=>Nat.blt i c
     | false=>quiet o.op&&(!reads o.op||(Nat.blt i c&&RA ms c i))))&&T1 ms c l (i+1)
section
variable {P:Program} {G:A6} {ops:Array Oper}
def XD{ms:List Nat}{c:Nat}:∀{l:List Oper} {i j:Nat} {o:Oper},T1 ms c l i=true->l[j]?=some o->(i+j=c->calm o.op=false)/\(i+j≠c->(Ng o.op=true/\i+j < c)\/(quiet o.op=true/\(reads o.op=true->i+j < c/\RA ms c (i+j)=true))):=by
 intro l
 induction l with
 | nil=>intro i j o h ho;simp at ho
 | cons x l ih =>
   intro i j o h ho;simp only[T1,Bool.and_eq_true] at h;cases j with
   | zero =>
     simp at ho;subst ho;have h1:=h.1;split at h1;rename_i hb;have:=Nat.eq_of_beq_eq_true hb;exact⟨λ_=>by simpa using h1,λhn=>absurd this hn⟩
     rename_i hb;have:=Nat.ne_of_beq_eq_false hb;refine⟨λhn=>absurd hn this,λ_=>?_⟩;split at h1;rename_i hv;exact .inl ⟨hv,Nat.le_of_ble_eq_true h1⟩;simp only[Bool.and_eq_true,Bool.or_eq_true,Bool.not_eq_true'] at h1;refine .inr ⟨h1.1,λhr=>?_⟩;rcases h1.2 with h2 | h2
     rw[hr] at h2;cases h2;exact⟨Nat.le_of_ble_eq_true h2.1,h2.2⟩
   | succ j =>
     have:=ih (i:=i+1) (j:=j) h.2 (by simpa using ho)
     rw[show i+(j+1)=i+1+j by omega];exact this
def Vz{ms:List Nat}{c:Nat}{l:List Oper}{i j:Nat}{o:Oper}(hl:T1 ms c l i=true)(hj:l[j]?=some o):BX o.op=false:=by
 have ho:=XD hl hj;cases ha:BX o.op with
 | false=>rfl
 | true =>
   obtain⟨e,he⟩:=Kb ha;by_cases hic:i+j=c;have:=ho.1 hic;unfold calm at this;rw[ha] at this;simp at this;rcases ho.2 hic with ⟨h1,_⟩ | ⟨h1,_⟩
   rw[he] at h1;cases h1;rw[Qm he] at h1;cases h1
def akB{fr:List AV}{s s1:AS}{o:Oper}{hs hs':List Hn}{v:AV}{cd:List Cd}(h:Zj P G ops fr s o hs=some (v,s1,hs',cd))(hv:Ng o.op=true)(hA:bD hs=false):s1=s:=by
 unfold Zj at h;split at h;unfold Ng at hv;split at hv;rename_i cl ho;split at hv;rename_i f H8;unfold uF at h;rw[ho] at h;simp only[H8] at h;unfold Xm at h;split at h;split at h;cases h;rfl;cases h;simp[bD] at hA;simp[bD] at hA;simp[bD] at hA;cases h;cases hv;cases hv;cases h;rfl
def akH{c q:Nat}{ms:List Nat}:∀{l:List Oper} {i:Nat} {hs hs':List Hn} {fr fr':List AV} {s s':AS} {cd:List Cd} {t:List (List AV×AS×AV)},uJ P G ops c l i hs fr s=some (hs',cd,t,fr',s')->QB P G cd->T1 ms c l i=true->RT P G (XS P G) H0 ops q l fr s t fr' s'/\∀j,j<=l.length->i+j<=c->Fv t s' j=s:=by
 intro l
 induction l with
 | nil =>
   intro i hs hs' fr fr' s s' cd t h hc hl;simp only[uJ] at h;cases h;exact⟨.nil,λj hj _=>by rfl⟩
 | cons o l ih =>
   intro i hs hs' fr fr' s s' cd t h hc hl;simp only[uJ] at h;split at h
   · rename_i v s1 R0 wY h1
     unfold uI at h;split at h
     · rename_i dK tU t2 fr2 s2 h2
       cases h;obtain⟨c1,c2⟩:=hc.Tx;have ho:=XD (j:=0) hl rfl;have kM:BX o.op=false:=Vz (j:=0) hl rfl
       have hl2:T1 ms c l (i+1)=true:=by
         simp only[T1,Bool.and_eq_true] at hl;exact hl.2
       have h3:Zj P G ops fr s o hs=some (v,s1,R0,wY):=by
         split at h1;exact h1;exact(RD h1).1
       have hj:=OB h3 c1;obtain⟨k1,k2⟩:=ih h2 c2 hl2;refine⟨.cons kM hj k1,λj hjl hjc=>?_⟩;cases j with
       | zero=>rfl
       | succ j =>
         have e1:Fv ((fr,s,v)::t2) s' (j+1)=Fv t2 s' j:=by unfold Fv;simp
         rw[e1,k2 j (by simpa using hjl) (by omega)]
         have hic:i+0≠c:=by omega
         rcases ho.2 hic with ⟨hv,_⟩ | ⟨hq,_⟩
         split at h1;rename_i hb;have:=Nat.eq_of_beq_eq_true hb;omega;exact akB h3 hv ((RD h1).2 hv);exact(Jz hq hj).1
     cases h
   cases h
def uA{id c:Nat}{fr fr':List AV}{s s':AS}{t:List (List AV×AS×AV)}{hs hs':List Hn}{cd:List Cd}(G9:LN ops=true)(UO:Nat.blt c ops.size=true)(hl:T1 (Hs ops.toList []) c ops.toList 0=true)(h:uJ P G ops c ops.toList 0 hs fr s=some (hs',cd,t,fr',s'))(hc:QB P G cd):J P G (XS P G) H0 (.code (.region id ops true) fr s .normal fr' s'):=by
 have H8:c < ops.size:=Nat.le_of_ble_eq_true UO;obtain⟨uQ,hsm⟩:=akH (q:=s.nx) h hc hl;have hlen:t.length=ops.size:=by rw[uQ.len,Array.length_toList]
 obtain⟨h0,SO⟩:=uQ.at;have mA:∀i o,ops[i]?=some o->Cf ops i=o.dst:=λi o ho=>by unfold Cf;rw[ho];rfl
 obtain⟨UP,Xr⟩:=uQ.aQ (Cf ops) (JX t) fr 0 rfl (λi o ho=>by rw[Nat.zero_add];exact mA i o (by rw[<- Array.getElem?_toList];exact ho)) (λi=>.inl (by rw[Nat.zero_add]));rw[Nat.zero_add,Array.length_toList] at UP
 have aqZ:∀(i:Nat) (o:Oper),ops[i]?=some o->(i=c->calm o.op=false)/\(i≠c->(Ng o.op=true/\i < c)\/(quiet o.op=true/\(reads o.op=true->i < c/\RA (Hs ops.toList []) c i=true))):=by
   intro i o ho;have:=XD (j:=i) hl (Cc ho);rwa[Nat.zero_add] at this
 have abU:∀(i:Nat) (o:Oper),ops[i]?=some o->BX o.op=false:=λi o ho=>Vz (j:=i) hl (Cc ho)
 have JG:∀(i:Nat) (o:Oper),ops[i]?=some o->J P G (XS P G) H0 (.op ops o (H9 fr (Cf ops) (JX t) (λ_=>true) i) (Fv t s' i) (.ret (JX t i)) (Fv t s' (i+1))):=by
   intro i o ho;obtain⟨fi,h1,h2⟩:=SO i o (Cc ho);have:=Xr i _ h1;simp only[Nat.zero_add] at this;rcases h2 with ⟨_,h2⟩ | ⟨h2,_⟩
   rw[<- this];exact h2;rw[abU i o ho] at h2;cases h2
 have hsn:Fv t s' ops.size=s':=by
   unfold Fv;rw[List.getElem?_eq_none (by omega)]
 have fU:∀k,k<=c->Fv t s' k=s:=λk hk=>hsm k (by rw[Array.length_toList];omega) (by omega)
 have pO:XL ops c:=by
   have ho:ops[c]?=some ops[c]:=Array.getElem?_eq_getElem H8;exact⟨_,ho,(aqZ c _ ho).1 rfl⟩
 have key:=J.draw (P:=P) (G:=G) (X:=XS P G) (H:=H0) (id:=id) (f0:=fr) (s0:=s) [] (JX t) (Fv t s') h0 G9 (λi o ho _=>JG i o ho) (λi o ho hq=>by
   obtain⟨h1,h2⟩:=Jz hq (JG i o ho);refine⟨h1,?_⟩;rcases h2 with h2 | ⟨hw,h2⟩
   exact .inl h2
   · refine .inr ⟨hw,λk hk YN=>?_⟩
     cases hrd:reads o.op with
     | false=>exact Ta hq hrd h2 _
     | true =>
       have hic:i≠c:=λe=>by
         subst e;obtain⟨o2,ho2,hcm⟩:=pO;rw[ho] at ho2;cases ho2;rw[W6 hq] at hcm;cases hcm
       obtain⟨hlt,hd⟩:i < c/\RA (Hs ops.toList []) c i=true:=by
         rcases(aqZ i o ho).2 hic with ⟨hv,_⟩ | ⟨_,h3⟩
         exfalso;unfold Ng at hv;split at hv;rename_i cl fT;split at hv;rename_i f aHF;rw[fT] at hq;simp[quiet,aHF] at hq;cases hv;cases hv;exact h3 hrd
       have hkc:=YN.2 c pO hd;rw[fU k hkc];rw[fU i (by omega)] at h2;exact h2) (λi o e ho he=>by
   have:=abU i o ho;rw[he] at this;cases this)
 rw[<- UP,hsn] at key;exact key
end
end AI
namespace AI
open Go Go.RowKit
def agE(G:A6)(fr:List AV)(o:Oper)(hs:List Hn):Option (List Nat):=match o.op with
 | .store _ a _=>(match A8 G fr a with
   | some (.ptr id _)=>some [id]
   | _=>none)
 | .mapUpdate _ m _ _=>(match AW G fr m with
   | some (.mp id)=>some [id]
   | _=>none)
 | .call cl=>(match cl.callee with
   | .value _=>(match hs with
     | .w _::_=>some []
     | .u _ _ _ Qf _::_=>some (Qf.map (·.1))
     | .cn _ h _ _ _::_=>some (h.map (·.1))
     | _=>none)
   | .builtin .append=>(match hs with
     | .g _ _ _::_=>some []
     | .ae _::_=>some []
     | _=>none)
   | _=>(match quiet o.op with
     | true=>some []
     | false=>none))
 | op=>(match quiet op with
   | true=>some []
   | false=>none)
def Yi(G:A6)(ops:Array Oper)(fr:List AV)(o:Oper)(hs:List Hn):Option (List Nat):=match Cs ops fr o with
 | true=>agE G fr o hs
 | false=>some []
abbrev HA:=Option (List Hn×List Cd×List (List AV×AS×AV)×List (List Nat)×List AV×AS)
def aqW(cd:List Cd)(x:List AV×AS×AV)(T:List Nat):HA->HA
 | some (hs,cd',t,Ts,fr,s)=>some (hs,cd++cd',x::t,T::Ts,fr,s)
 | none=>none
def uH(P:Program)(G:A6)(ops:Array Oper):List Oper->List Hn->List AV->AS->HA
 | [],hs,fr,s=>some (hs,[],[],[],fr,s)
 | o::l,hs,fr,s=>(match BX o.op with
   | true=>none
   | false=>(match Yi G ops fr o hs with
     | some T=>(match Zj P G ops fr s o hs with
       | some (v,s1,R0,cd)=>aqW cd (fr,s,v) T (uH P G ops l R0 (Ij fr o.dst v) s1)
       | none=>none)
     | none=>none))
def amM(G:A6)(fr:List AV)(o:Oper):Option (Option Nat):=match o.op with
 | .load _ a=>(match AW G fr a with
   | some (.ptr id _)=>some (some id)
   | some (.el _)=>some none
   | _=>none)
 | .lookup _ m _ _=>(match AW G fr m with
   | some (.mp id)=>some (some id)
   | _=>none)
 | .call cl=>(match cl.callee with
   | .builtin .len=>(match cl.args.toList with
     | [x]=>(match slV (AW G fr x) with
       | true=>some none
       | false=>none)
     | _=>none)
   | _=>none)
 | _=>none
def adC(a:Nat):List Nat->Bool
 | []=>false
 | b::l=>(match Nat.beq a b with
   | true=>true
   | false=>adC a l)
def Um(ms:List Nat)(id i:Nat):List (List Nat)->Nat->Bool
 | [],_=>true
 | T::Ts,l=>(match adC id T with
   | true=>(match Nat.blt l i with
     | true=>RA ms i l
     | false=>(match Nat.blt i l with
       | true=>RA ms l i
       | false=>true))
   | false=>true)&&Um ms id i Ts (l+1)
def iF(G:A6)(ops:Array Oper)(ms:List Nat)(Ts:List (List Nat)):List Oper->List (List AV×AS×AV)->Nat->Bool
 | o::os,t::ts,i=>(match Cs ops t.1 o with
   | false=>true
   | true=>(match reads o.op with
     | false=>true
     | true=>(match amM G t.1 o with
       | none=>false
       | some none=>true
       | some (some id)=>Um ms id i Ts 0)))&&iF G ops ms Ts os ts (i+1)
 | _,_,_=>true
def gK{a:Nat}:∀{l:List Nat},adC a l=true↔a∈l
 | []=>by simp[adC]
 | b::l=>by
   simp only[adC];cases hb:Nat.beq a b with
   | true=>have:=Nat.eq_of_beq_eq_true hb;simp[this]
   | false =>
     have:=Nat.ne_of_beq_eq_false hb;simp[gK (l:=l),this]
def jD{id:Nat}:∀(l:List (Nat×AL)) (s:AS),id∉l.map (·.1)->(s.Vd l).get id=s.get id
 | [],_,_=>rfl
 | e::l,s,h=>by
   simp only[List.map_cons,List.mem_cons,not_or] at h;rw[AS.Vd,jD l _ h.2];exact Ic h.1 _
def gH{id:Nat}:∀{l:List (Nat×AL)} (m:List (Nat×AL)),id∉l.map (·.1)->look id (l++m)=look id m
 | [],_,_=>rfl
 | e::l,m,h=>by
   simp only[List.map_cons,List.mem_cons,not_or] at h;simp only[List.cons_append,look]
   have hb:Nat.beq e.1 id=false:=by
     cases hq:Nat.beq e.1 id with
     | false=>rfl
     | true=>exact absurd (Nat.eq_of_beq_eq_true hq).symm h.1
   rw[hb];exact gH m h.2
def Zh{id:Nat}:∀(l:List (Nat×Nat)) (s:AS),(s.Sr l).get id=s.get id
 | [],_=>rfl
 | e::l,s=>by rw[AS.Sr,Zh l];rfl
section
variable {P:Program} {G:A6} {ops:Array Oper}
def uG{fr:List AV}{s s1:AS}{o:Oper}{hs hs':List Hn}{v:AV}{cd:List Cd}{T:List Nat}(h:Zj P G ops fr s o hs=some (v,s1,hs',cd))(hT:Yi G ops fr o hs=some T)(hc:QB P G cd)(ha:BX o.op=false)(id:Nat)(hid:id∉T):s1.get id=s.get id:=by
 have hj:=OB h hc;cases hq:quiet o.op with
 | true=>rw[(Jz hq hj).1]
 | false =>
   unfold Zj at h;unfold Yi at hT;split at h
   · rename_i hw
     rw[hw] at hT;simp only at hT;unfold agE at hT;split at hT;rename_i t a x ho;unfold uF at h;rw[ho] at h;simp only at h
     have h1:∃a' x',A8 G fr a=some a'/\A8 G fr x=some x'/\J9 P s t a' x'=some s1:=by
       rcases UN h hc with ⟨a',x',h2,h3,h4,_⟩ | h2
       exact⟨a',x',h2,h3,h4⟩;have h1:=UM h2;rw[Mx] at h1;unfold Pz at h1;rw[ho] at h1;simp only at h1;split at h1;rename_i a' x' xA VU;obtain⟨s',FW,he⟩:=map_some h1;injection he with he1 he2
       subst he2;exact⟨a',x',xA,VU,FW⟩;cases h1
     obtain⟨a',x',xA,VU,FW⟩:=h1;rw[xA] at hT;split at hT;rename_i Qp off OT;cases OT;cases hT;simp only[List.mem_singleton] at hid;unfold J9 at FW;split at FW;rename_i i id2 aJM TV abP;cases abP;split at FW;split at FW;cases FW;exact Ic hid _;cases FW;cases FW;cases FW;cases hT
     · rename_i t m k x ho
       unfold uF at h;rw[ho] at h;simp only at h;split at hT
       · rename_i Qp OT
         rw[OT] at h;cases hT;simp only[List.mem_singleton] at hid;simp only at h;split at h
         · split at h
           · have anO:∀kk x' s2,JZ P s t (.mp Qp) kk x'=some s2->s2.get id=s.get id:=by
               intro kk x' s2 h2;unfold JZ at h2
               repeat' split at h2
               all_goals first
                 | (cases h2;done)
                 | (rename_i abP;cases abP;cases h2;exact Ic hid _)
                 | (simp_all only [AV.mp.injEq,Option.some.injEq];subst_vars;exact Ic hid _)
             unfold auA at h;split at h;cases h;exact anO _ _ _ hc.1;cases h;exact Ic hid _;cases h
           cases h
         cases h
       cases hT
     rename_i cl ho;split at hT;rename_i f H8;unfold uF at h;rw[ho] at h;simp only[H8] at h;unfold Xm at h;split at h;split at h;cases h;rfl;cases h;cases hT;split at h;cases h;cases hT;rw[Zh];exact jD _ _ hid;cases h;split at h;cases h;cases hT;exact gH _ hid;cases h;cases h;rename_i H8;unfold uF at h;rw[ho] at h;simp only[H8] at h;split at hT;split at h;split at h;split at h;unfold aaW at h;simp only at h;split at h;cases h;rfl;split at h;split at h;cases h;rfl;cases h;cases h;cases h;cases h;cases h;cases h;split at h;split at h;split at h;unfold aaW at h;simp only at h;cases h;rfl;cases h;cases h;cases h;cases hT;rw[hq] at hT;cases hT;rw[hq] at hT;cases hT
   cases h;rfl
def oE{fr:List AV}{o:Oper}{hs:List Hn}{T:List Nat}(hT:Yi G ops fr o hs=some T){id:Nat}(h:id∈T)(ha:BX o.op=false):calm o.op=false:=by
 unfold calm;rw[ha];simp only;cases hq:quiet o.op with
 | false=>rfl
 | true =>
   exfalso;unfold Yi at hT;split at hT;unfold agE at hT;split at hT;rename_i ho;rw[ho] at hq;cases hq;rename_i ho;rw[ho] at hq;cases hq;rename_i cl ho;split at hT;rename_i H8;rw[ho] at hq;simp[quiet,H8] at hq;split at hT;cases hT;cases h;cases hT;cases h;cases hT;rw[hq] at hT;cases hT;cases h;rw[hq] at hT;cases hT;cases h;cases hT;cases h
def akG{q:Nat}:∀{l:List Oper} {hs hs':List Hn} {fr fr':List AV} {s s':AS} {cd:List Cd} {t:List (List AV×AS×AV)} {Ts:List (List Nat)},uH P G ops l hs fr s=some (hs',cd,t,Ts,fr',s')->QB P G cd ->
   RT P G (XS P G) H0 ops q l fr s t fr' s'/\(∀o∈l,BX o.op=false)/\(∀(i:Nat) id,i < l.length->(∀T,Ts[i]?=some T->id∉T)->(Fv t s' (i+1)).get id=(Fv t s' i).get id)/\∀(i:Nat) o T id,l[i]?=some o->Ts[i]?=some T->id∈T->calm o.op=false:=by
 intro l
 induction l with
 | nil =>
   intro hs hs' fr fr' s s' cd t Ts h hc;simp only[uH] at h;cases h;exact⟨.nil,(λo h=>by cases h),(λi id h=>by simp at h),λi o T id h=>by simp at h⟩
 | cons o l ih =>
   intro hs hs' fr fr' s s' cd t Ts h hc;simp only[uH] at h;split at h;cases h
   · rename_i ha
     split at h
     · rename_i T hT
       split at h
       · rename_i v s1 R0 wY h1
         unfold aqW at h;split at h
         · rename_i dK tU t2 Ts2 fr2 s2 h2
           cases h;obtain⟨c1,c2⟩:=hc.Tx;obtain⟨k1,k2,k3,k4⟩:=ih h2 c2;refine⟨.cons ha (OB h1 c1) k1,λo' Vs=>?_,λi id hi hno=>?_,λi o' T' id Vs hT' hid=>?_⟩;rcases List.mem_cons.1 Vs with rfl | Vs
           exact ha;exact k2 o' Vs
           · cases i with
             | zero =>
               have e1:Fv ((fr,s,v)::t2) s' 0=s:=rfl
               have e2:Fv ((fr,s,v)::t2) s' (0+1)=s1:=by
                 rw[show Fv ((fr,s,v)::t2) s' (0+1)=Fv t2 s' 0 by unfold Fv;simp];exact k1.at.1
               rw[e1,e2];exact uG h1 hT c1 ha id (hno T rfl)
             | succ i =>
               have e:∀j,Fv ((fr,s,v)::t2) s' (j+1)=Fv t2 s' j:=λj=>by unfold Fv;simp
               rw[e,e];exact k3 i id (by simpa using hi) (λT' h'=>hno T' (by simpa using h'))
           cases i with
           | zero=>simp at Vs hT';subst Vs hT';exact oE hT hid ha
           | succ i=>exact k4 i o' T' id (by simpa using Vs) (by simpa using hT') hid
         cases h
       cases h
     cases h
def Yh{ms:List Nat}{id i:Nat}:∀{Ts:List (List Nat)} {l0:Nat},Um ms id i Ts l0=true->∀{l:Nat} {T:List Nat},Ts[l]?=some T->id∈T->(l0+l < i->RA ms i (l0+l)=true)/\(i < l0+l->RA ms (l0+l) i=true):=by
 intro Ts
 induction Ts with
 | nil=>intro l0 _ l T h;simp at h
 | cons T0 Ts ih =>
   intro l0 h l T hT hid;simp only[Um,Bool.and_eq_true] at h;cases l with
   | zero =>
     simp at hT;subst hT;have h1:=h.1;rw[gK.2 hid] at h1;simp only at h1;constructor;intro hlt;have e:Nat.blt l0 i=true:=Nat.ble_eq_true_of_le hlt;rw[e] at h1;exact h1;intro hlt
     have e:Nat.blt l0 i=false:=by
       cases hq:Nat.blt l0 i with
       | false=>rfl
       | true=>have:=Nat.le_of_ble_eq_true hq;omega
     have e2:Nat.blt i l0=true:=Nat.ble_eq_true_of_le hlt;rw[e,e2] at h1;exact h1
   | succ l =>
     have:=ih h.2 (l:=l) (by simpa using hT) hid
     rw[show l0+(l+1)=l0+1+l by omega];exact this
def aeA{ms:List Nat}{Ts:List (List Nat)}:∀{os:List Oper} {ts:List (List AV×AS×AV)} {i:Nat},iF G ops ms Ts os ts i=true->∀{j:Nat} {o:Oper} {x:List AV×AS×AV},os[j]?=some o->ts[j]?=some x->Cs ops x.1 o=true->reads o.op=true->∃r,amM G x.1 o=some r/\∀id,r=some id->Um ms id (i+j) Ts 0=true:=by
 intro os
 induction os with
 | nil=>intro ts i _ j o x h;simp at h
 | cons y os ih =>
   intro ts i h j o x ho hx hw hr;cases ts with
   | nil=>simp at hx
   | cons t ts =>
     simp only[iF,Bool.and_eq_true] at h;cases j with
     | zero =>
       simp at ho hx;subst ho hx;have h1:=h.1;rw[hw,hr] at h1;simp only at h1;split at h1;cases h1;rename_i hq;exact⟨none,hq,λid h=>by cases h⟩;rename_i id hq;exact⟨some id,hq,λQp h=>by cases h;exact h1⟩
     | succ j =>
       have:=ih h.2 (j:=j) (by simpa using ho) (by simpa using hx) hw hr
       rw[show i+(j+1)=i+1+j by omega];exact this
def amN{fr:List AV}{s s2:AS}{o:Oper}{v:AV}{r:Option Nat}(hr:amM G fr o=some r)(hs:∀id,r=some id->s2.get id=s.get id)(h:Pz P G fr s o=some (.val v s)):Pz P G fr s2 o=some (.val v s2):=by
 unfold amM at hr;split at hr;rename_i t a ho;rw[Cn] at hr;unfold Pz at h ⊢;rw[ho] at h ⊢;simp only at h ⊢;obtain⟨v',h3,h4⟩:=map_some h;injection h4 with h4
 subst h4;obtain⟨b,h5,h6⟩:=bind_some h3;rw[h5] at hr ⊢;split at hr;rename_i id off OT;cases OT;cases hr
 have:I4 P s2 t (.ptr id off)=I4 P s t (.ptr id off):=by
   simp only[I4];rw[hs id rfl]
 simp only[Option.bind_some];rw[this,h6];rfl;rename_i OT;cases OT;simp only[Option.bind_some];rw[show I4 P s2 t (.el _)=I4 P s t (.el _) from rfl,h6];rfl;cases hr;rename_i t m k ok ho;rw[Cn] at hr;unfold Pz at h ⊢;rw[ho] at h ⊢;simp only at h ⊢;split at hr;rename_i id OT;cases hr;rw[OT] at h ⊢;split at h;rename_i a b ha hb;cases ha;obtain⟨v',h3,h4⟩:=map_some h;injection h4 with h4
 subst h4
 have:IK P s2 t (.mp id) b ok=IK P s t (.mp id) b ok:=by
   simp only[IK];rw[hs id rfl]
 rw[this,h3];rfl;cases h;cases hr
 · rename_i cl ho
   split at hr
   · rename_i H8
     unfold Pz at h ⊢;rw[ho] at h ⊢;simp only[Se,H8] at h ⊢;split at hr
     · rename_i x hx
       rw[hx] at h ⊢;cases ht:cl.argTypes.toList with
       | nil=>rw[ht] at h;cases h
       | cons t1 ts =>
         cases ts with
         | cons _ _=>rw[ht] at h;cases h
         | nil =>
           rw[ht] at h;simp only at h ⊢;obtain⟨v',h3,h4⟩:=map_some h;injection h4 with h4
           subst h4;obtain⟨b,h5,h6⟩:=bind_some h3;rw[Cn,h5] at hr;rw[h5];simp only[Option.bind_some];split at hr
           · rename_i hsl
             have:VP P s2 t1 b=VP P s t1 b:=by
               unfold slV at hsl;split at hsl
               · rename_i OT;cases OT;unfold VP;split<;>first | rfl | (simp_all;done)
               · rename_i OT;cases OT;unfold VP;split<;>first | rfl | (simp_all;done)
               cases hsl
             rw[this,h6];rfl
           cases hr
     cases hr
   cases hr
 cases hr
def zQ{id:Nat}{fr fr':List AV}{s s':AS}{t:List (List AV×AS×AV)}{Ts:List (List Nat)}{hs hs':List Hn}{cd:List Cd}(G9:LN ops=true)(h:uH P G ops ops.toList hs fr s=some (hs',cd,t,Ts,fr',s'))(hr:iF G ops (Hs ops.toList []) Ts ops.toList t 0=true)(hc:QB P G cd):J P G (XS P G) H0 (.code (.region id ops true) fr s .normal fr' s'):=by
 obtain⟨uQ,kM,FW,hlo⟩:=akG (q:=s.nx) h hc;have hlen:t.length=ops.size:=by rw[uQ.len,Array.length_toList]
 obtain⟨h0,SO⟩:=uQ.at;have mA:∀i o,ops[i]?=some o->Cf ops i=o.dst:=λi o ho=>by unfold Cf;rw[ho];rfl
 obtain⟨UP,Xr⟩:=uQ.aQ (Cf ops) (JX t) fr 0 rfl (λi o ho=>by rw[Nat.zero_add];exact mA i o (by rw[<- Array.getElem?_toList];exact ho)) (λi=>.inl (by rw[Nat.zero_add]));rw[Nat.zero_add,Array.length_toList] at UP;have abU:∀(i:Nat) (o:Oper),ops[i]?=some o->BX o.op=false:=λi o ho=>kM o (List.mem_of_getElem? (Cc ho))
 have JG:∀(i:Nat) (o:Oper),ops[i]?=some o->J P G (XS P G) H0 (.op ops o (H9 fr (Cf ops) (JX t) (λ_=>true) i) (Fv t s' i) (.ret (JX t i)) (Fv t s' (i+1))):=by
   intro i o ho;obtain⟨fi,h1,h2⟩:=SO i o (Cc ho);have:=Xr i _ h1;simp only[Nat.zero_add] at this;rcases h2 with ⟨_,h2⟩ | ⟨h2,_⟩
   rw[<- this];exact h2;rw[abU i o ho] at h2;cases h2
 have hsn:Fv t s' ops.size=s':=by
   unfold Fv;rw[List.getElem?_eq_none (by omega)]
 have hTl:∀(l:Nat) T id,Ts[l]?=some T->id∈T->l < ops.size->XL ops l:=by
   intro l T id hT hid hl;exact⟨ops[l],Array.getElem?_eq_getElem hl,hlo l ops[l] T id (Cc (Array.getElem?_eq_getElem hl)) hT hid⟩
 have fU:∀(bx:Nat) (d i:Nat),i+d<=ops.size->(∀l,i<=l->l < i+d->∀T,Ts[l]?=some T->bx∉T)->(Fv t s' (i+d)).get bx=(Fv t s' i).get bx:=by
   intro bx d
   induction d with
   | zero=>intro i _ _;rfl
   | succ d ih =>
     intro i hle hno;rw[show i+(d+1)=(i+d)+1 by omega,FW (i+d) bx (by rw[Array.length_toList];omega) (hno (i+d) (by omega) (by omega))];exact ih i (by omega) (λl h1 h2=>hno l h1 (by omega))
 have key:=J.draw (P:=P) (G:=G) (X:=XS P G) (H:=H0) (id:=id) (f0:=fr) (s0:=s) [] (JX t) (Fv t s') h0 G9 (λi o ho _=>JG i o ho) (λi o ho hq=>by
   obtain⟨h1,h2⟩:=Jz hq (JG i o ho);refine⟨h1,?_⟩;rcases h2 with h2 | ⟨hw,h2⟩
   exact .inl h2
   · refine .inr ⟨hw,λk hk YN=>?_⟩
     cases hrd:reads o.op with
     | false=>exact Ta hq hrd h2 _
     | true =>
       have hil:i < ops.size:=(Array.getElem?_eq_some_iff.1 ho).1;obtain⟨fi,hti,_⟩:=SO i o (Cc ho);have xB:=Xr i _ hti;simp only[Nat.zero_add] at xB;obtain⟨r,hr1,hr2⟩:=aeA hr (Cc ho) hti (by rw[xB];exact hw) hrd;rw[xB] at hr1;refine amN hr1 (λbx hbx=>?_) h2;have hto:=hr2 bx hbx;rw[Nat.zero_add] at hto;rcases Nat.lt_or_ge k i with hki | hki
       have:=fU bx (i - k) k (by omega) (λl h3 h4 T hT hm=>by
         have hd:=(Yh hto hT hm).1 (by omega);rw[Nat.zero_add] at hd;have:=YN.1 l (hTl l T bx hT hm (by omega)) hd;omega)
       rw[show k+(i - k)=i by omega] at this;exact this.symm
       have:=fU bx (k - i) i (by omega) (λl h3 h4 T hT hm=>by
         have mC:=hTl l T bx hT hm (by omega);rcases Nat.lt_or_ge i l with h5 | h5
         have hd:=(Yh hto hT hm).2 (by omega);rw[Nat.zero_add] at hd;have:=YN.2 l mC hd;omega;have:l=i:=by omega
         subst this;obtain⟨o2,ho2,hcm⟩:=mC;rw[ho] at ho2;cases ho2;rw[W6 hq] at hcm;cases hcm)
       rw[show i+(k - i)=k by omega] at this;exact this) (λi o e ho he=>by
   have:=abU i o ho;rw[he] at this;cases this)
 rw[<- UP,hsn] at key;exact key
end
end AI
namespace AI
open Go Go.RowKit
section
variable {P:Program} {G:A6} {ops:Array Oper} {f0:List AV} {vals:Nat->AV} {s0 s1:AS} {p:Nat} {v:AV}
structure aEO(G:A6)(ops:Array Oper)(f0:List AV)(vals:Nat->AV)(s0:AS)(p:Nat)(kK:Cx)(w0:World)(L:Array Bool)(a:Act)(w:World):Prop where
 size:L.size=ops.size
 closed:MY ops.toList (λj=>L.getD j false)
 st:∃c,Ext kK w0 c w/\St G c w s0/\Cz c w (H9 f0 (Cf ops) vals (λj=>L.getD j false) ops.size) a.tmps.toList
 defers:a.defers=[]
 out:L.getD p false=false
def zX(G9:LN ops=true)(hp:p < ops.size)
   (hl:∀i o,ops[i]?=some o->i≠p->(p < i->RA (Hs ops.toList []) i p=false)->Sound P G (.op ops o (H9 f0 (Cf ops) vals (λ_=>true) i) s0 (.ret (vals i)) s0))
   (auO:∀o,ops[p]?=some o->Sound P G (.op ops o (H9 f0 (Cf ops) vals (λ_=>true) p) s0 (.pan v) s1))
   {kK:Cx} {w0:World} {fr':List AV} (Q:Exit->Act->World->Prop) (hQ:∀e' a' w',Sa G kK w0 (.pan v) fr' s1 e' a' w'->Q e' a' w') :
   ∀(fuel:Nat) (L:Array Bool) (a:Act) (w:World),aEO G ops f0 vals s0 p kK w0 L a w->eQ (λj=>L.getD j false) ops.size=fuel->wpAny P .any ops Q fuel L a w:=by
 intro fuel
 induction fuel with
 | zero =>
   intro L a w hI hc;have:=eS ops.size hc p hp;rw[hI.out] at this;cases this
 | succ fuel ih =>
   intro L a w hI aHG;refine⟨λaY=>?_,λi hi=>?_⟩
   · exfalso
     have all:∀i,i < ops.size->L.getD i false=true:=by
       intro i
       induction i using Nat.strongRecOn with
       | _ i ihi =>
         intro hlt;cases dI:L.getD i false with
         | true=>rfl
         | false =>
           exfalso;have ho:ops[i]?=some (ops[i]'hlt):=Array.getElem?_eq_getElem hlt
           have:=iI hI.size ho dI (λe he hb=>by
             have h1:=gX G9 ho he hb;exact ihi e.on h1 (by omega))
           rw[aY] at this;cases this
     have:=all p hp;rw[hI.out] at this;cases this
   · obtain⟨o,ho,dI,Xu,hlt⟩:=mem_ready hI.size hi
     obtain⟨c,hx,FW,hfr⟩:=hI.st
     have hip:p < i->RA (Hs ops.toList []) i p=false:=by
       intro h1;cases hd:RA (Hs ops.toList []) i p with
       | false=>rfl
       | true =>
         have:=W8 hI.closed (Cc ho) Xu hd;rw[hI.out] at this;cases this
     have hMi:(L.setIfInBounds i true).getD i false=true:=by
       have:i < L.size:=by rw[hI.size];exact hlt
       simp[this]
     have pL:∀j,j≠i->(L.setIfInBounds i true).getD j false=L.getD j false:=by
       intro j hj;simp only[Array.getD_eq_getD_getElem?];rw[Array.getElem?_setIfInBounds_ne (λe=>hj e.symm)]
     have hle:∀j,L.getD j false=true->(L.setIfInBounds i true).getD j false=true:=by
       intro j hj;by_cases e:j=i;subst e;exact hMi;rw[pL j e];exact hj
     have Xq:MY ops.toList (λj=>(L.setIfInBounds i true).getD j false):=by
       intro j y hy hj e he hb;by_cases ej:j=i;subst ej;rw[Cc ho] at hy;cases hy;exact hle _ (Xu e he hb);have hj2:L.getD j false=true:=by rw[<- pL j ej];exact hj
       exact hle _ (hI.closed j y hy hj2 e he hb)
     have abN:eQ (λj=>(L.setIfInBounds i true).getD j false) ops.size=fuel:=by
       have:=(oV (L:=λj=>L.getD j false) (M:=λj=>(L.setIfInBounds i true).getD j false) dI hMi pL ops.size).1 hlt;omega
     have YK:=pH (f0:=f0) (vals:=vals) (L:=λj=>L.getD j false) (M:=λj=>(L.setIfInBounds i true).getD j false) G9 hI.closed ho dI hMi pL
     have fV:∀x∈o.op.operands,YF G c w (H9 f0 (Cf ops) vals (λ_=>true) i) a.eval x:=by
       intro x hxo v hv;cases x with
       | tmp t =>
         have abS:t∈o.looksAt ops:=by
           unfold Oper.looksAt;rw[List.mem_append];left;rw[List.mem_filterMap];exact⟨.tmp t,Array.mem_toList_iff.2 hxo,rfl⟩
         have he:=RC (f0:=f0) (vals:=vals) G9 hI.closed ho dI Xu abS
         have:A8 G (H9 f0 (Cf ops) vals (λj=>L.getD j false) ops.size) (.tmp t)=some v:=by
           rw[<- hv];simp only[A8,List.getD_eq_getElem?_getD,he]
         exact El FW hfr this
       | const z=>exact El (fr:=H9 f0 (Cf ops) vals (λj=>L.getD j false) ops.size) FW hfr hv
       | global g=>exact El (fr:=H9 f0 (Cf ops) vals (λj=>L.getD j false) ops.size) FW hfr hv
       | func f=>exact El (fr:=H9 f0 (Cf ops) vals (λj=>L.getD j false) ops.size) FW hfr hv
     have Vu:Cs ops (H9 f0 (Cf ops) vals (λ_=>true) i) o=Region.wanted o (yielded ops a.tmps):=by
       refine M4 (c:=c) (w:=w) (λj want hg d hd=>⟨_,hfr,?_⟩);refine RC G9 hI.closed ho dI Xu ?_;unfold Oper.looksAt;rw[List.mem_append];right;rw[hg];simp[hd]
     have aT:L6 P ops o (wpAny P .any ops Q fuel (L.setIfInBounds i true)) Q a w->wpOp P ops Q i (wpAny P .any ops Q fuel (L.setIfInBounds i true)) a w:=by
       intro h;unfold wpOp;rw[ho];unfold L6 at h;simp only;split;rename_i hw;rw[if_pos hw] at h;exact .inl h;rename_i hw;rw[if_neg hw] at h;exact h
     refine aT ?_;by_cases hpe:i=p;subst hpe;refine auO o ho c w a _ _ FW fV Vu ?_;intro u w' c' VU Mb hu;exact hQ _ _ _ ⟨c',hx.trans VU,Mb,hI.defers,u,rfl,hu⟩;refine hl i o ho hpe hip c w a _ _ FW fV Vu ?_;intro u w' c' VU Mb hu;refine ih _ _ _ ⟨by simp[hI.size],Xq,⟨c',hx.trans VU,Mb,?_⟩,by cases o.dst<;>exact hI.defers,?_⟩ abN
     rw[YK];exact N1 (hfr.mono VU) hu;rw[pL p (λe=>hpe e.symm)];exact hI.out
def nN(hm:P.follows .mixedOrders=true){id:Nat}{fr':List AV}(G9:LN ops=true)(hp:p < ops.size)
   (hl:∀i o,ops[i]?=some o->i≠p->(p < i->RA (Hs ops.toList []) i p=false)->Sound P G (.op ops o (H9 f0 (Cf ops) vals (λ_=>true) i) s0 (.ret (vals i)) s0))
   (auO:∀o,ops[p]?=some o->Sound P G (.op ops o (H9 f0 (Cf ops) vals (λ_=>true) p) s0 (.pan v) s1)):Sound P G (.code (.region id ops true) f0 s0 (.pan v) fr' s1):=by
 intro cx w a Q hs hf hd hQ;refine wp_region_any hm ?_;obtain⟨x,st⟩:=hs.same (eK w)
 have gf:∀j,(Array.replicate ops.size false).getD j false=false:=by
   intro j;simp only[Array.getD_eq_getD_getElem?,Array.getElem?_replicate];split<;>simp
 refine zX G9 hp hl auO Q hQ ops.size _ a _ ⟨by simp,?_,⟨_,x,st,?_⟩,hd,gf p⟩ ?_;intro i o ho hL;exact absurd (show(Array.replicate ops.size false).getD i false=true from hL) (by rw[gf i];simp)
 · have:H9 f0 (Cf ops) vals (λj=>(Array.replicate ops.size false).getD j false) ops.size=f0:=by
     have key:∀n,H9 f0 (Cf ops) vals (λj=>(Array.replicate ops.size false).getD j false) n=f0:=by
       intro n
       induction n with
       | zero=>rfl
       | succ n ih =>
         simp only[H9,ih];rw[if_neg];rw[gf n];simp
     exact key _
   rw[this];exact hf.mono x
 · have key:∀n,eQ (λj=>(Array.replicate ops.size false).getD j false) n=n:=by
     intro n
     induction n with
     | zero=>rfl
     | succ n ih =>
       simp only[eQ,ih,gf n];simp
   exact key _
end
end AI
namespace AI
open Go Go.RowKit
abbrev HS:=Option (List Hn×List Cd×List AV×AS)
def aqV(cd:List Cd):HS->HS
 | some (hs,cd',fr,s)=>some (hs,cd++cd',fr,s)
 | none=>none
abbrev HC:=Option (AX×List Hn×List Cd×List AV×AS)
def Zk(cd:List Cd):HC->HC
 | some (e,hs,cd',fr,s)=>some (e,hs,cd++cd',fr,s)
 | none=>none
def akE(P:Program)(G:A6)(ops:Array Oper)(fr:List AV)(s:AS)(o:Oper):List Hn->HO
 | .p v s1::hs=>(match Cs ops fr o with
   | true=>(match TH P G fr s o with
     | some (.ent f args)=>some (v,s1,hs,[.aqM f args s v s1])
     | some (.pan v')=>some (v',s,hs,[])
     | _=>none)
   | false=>none)
 | .q v pre tp Qf tu::hs=>(match Cs ops fr o with
   | true=>(match TH P G fr s o with
     | some (.ent f args)=>some (v,(s.Vd Qf).Sr tu,hs,[.EM f args (.pan v) pre tp Qf tu,.oZ (Xj s pre) (NP pre) (Ze s.F tp) (Om tp)])
     | _=>none)
   | false=>none)
 | _=>none
def abE(P:Program)(G:A6)(ops:Array Oper):List Oper->List Hn->List AV->AS->HC
 | [],hs,fr,s=>some (.normal,hs,[],fr,s)
 | o::l,hs,fr,s=>(match akE P G ops fr s o hs with
   | some (v,s1,R0,cd)=>some (.pan v,R0,cd,fr,s1)
   | none=>(match Zj P G ops fr s o hs with
     | some (v,s1,R0,cd)=>Zk cd (abE P G ops l R0 (Ij fr o.dst v) s1)
     | none=>none))
def fN(P:Program)(G:A6)(ops:Array Oper):List Oper->List Hn->List AV->AS->HS
 | [],hs,fr,s=>some (hs,[],fr,s)
 | o::l,hs,fr,s=>(match fL P G ops fr s o hs with
   | some (v,s1,R0,cd)=>aqV cd (fN P G ops l R0 (Ij fr o.dst v) s1)
   | none=>none)
def steady(op:Op):Bool:=match quiet op with
 | true=>true
 | false=>(match op with
   | .call cl=>(match cl.callee with | .value _=>true | _=>false)
   | _=>false)
def Qa:List Oper->Bool
 | []=>true
 | o::l=>(match steady o.op with | true=>Qa l | false=>false)
def azT:HS->HC
 | some (hs,cd,fr,s)=>some (.normal,hs,cd,fr,s)
 | none=>none
def azS(P:Program)(G:A6)(ops:Array Oper)(hs:List Hn)(fr:List AV)(s:AS):HC:=match rsv P ops.toList with
 | some r=>(match hTr P G ops ops.toList s.nx hs fr (s.hold r) with
   | some (hs',cd,t,fr',s')=>(match Lh G ops s.nx ops.toList t with
     | true=>(match Wv P ops t s' s.nx r with
       | true=>some (.normal,hs',cd,fr',s')
       | false=>none)
     | false=>none)
   | none=>none)
 | none=>none
def aaY(P:Program)(G:A6)(ops:Array Oper)(c:Nat)(hs:List Hn)(fr:List AV)(s:AS):HC:=match Nat.blt c ops.size with
 | true=>(match T1 (Hs ops.toList []) c ops.toList 0 with
   | true=>(match uJ P G ops c ops.toList 0 hs fr s with
     | some (hs',cd,_,fr',s')=>some (.normal,hs',cd,fr',s')
     | none=>none)
   | false=>none)
 | false=>none
def aqR(P:Program)(G:A6)(ops:Array Oper)(hs:List Hn)(fr:List AV)(s:AS):HC:=match uH P G ops ops.toList hs fr s with
 | some (hs',cd,t,Ts,fr',s')=>(match iF G ops (Hs ops.toList []) Ts ops.toList t 0 with
   | true=>some (.normal,hs',cd,fr',s')
   | false=>none)
 | none=>none
abbrev HQ:=Option (List AV×List Hn×List Cd×Option (AV×AS))
def aZ(v:AV)(cd:List Cd):HQ->HQ
 | some (vs,hs,tU,r)=>some (v::vs,hs,cd++tU,r)
 | none=>none
def arB(r:AV×AS)(cd:List Cd):HQ->HQ
 | some (vs,hs,tU,none)=>some (.sc undef::vs,hs,cd++tU,some r)
 | _=>none
def behind(ms:List Nat)(p i:Nat):Bool:=match Nat.blt p i with
 | true=>RA ms i p
 | false=>false
def Xo(P:Program)(G:A6)(ops:Array Oper)(ms:List Nat)(p:Nat)(s:AS):List Oper->Nat->List Hn->List AV->HQ
 | [],_,hs,_=>some ([],hs,[],none)
 | o::l,i,hs,fr=>(match Nat.beq i p with
   | true=>(match akE P G ops fr s o hs with
     | some (v,s2,dK,cd)=>arB (v,s2) cd (Xo P G ops ms p s l (i+1) dK (Ij fr o.dst (.sc undef)))
     | none=>none)
   | false=>(match behind ms p i with
     | true=>aZ (.sc undef) [] (Xo P G ops ms p s l (i+1) hs (Ij fr o.dst (.sc undef)))
     | false=>(match steady o.op with
       | true=>(match fL P G ops fr s o hs with
         | some (v,_,dK,cd)=>aZ v cd (Xo P G ops ms p s l (i+1) dK (Ij fr o.dst v))
         | none=>none)
       | false=>none)))
def abG(P:Program)(G:A6)(ops:Array Oper)(p:Nat)(hs:List Hn)(fr:List AV)(s:AS):HC:=match Xo P G ops (Hs ops.toList []) p s ops.toList 0 hs fr with
 | some (_,dK,cd,some (v,s2))=>some (.pan v,dK,cd,fr,s2)
 | _=>none
def aqT(P:Program)(G:A6)(ops:Array Oper)(fr:List AV)(s:AS):List Hn->HC
 | .zq p::hs=>abG P G ops p hs fr s
 | .z c::hs=>aaY P G ops c hs fr s
 | .za::hs=>aqR P G ops hs fr s
 | hs=>(match Qa ops.toList with
   | true=>azT (fN P G ops ops.toList hs fr s)
   | false=>azS P G ops hs fr s)
def abI(P:Program)(G:A6)(ops:Array Oper)(d:Bool)(hs:List Hn)(fr:List AV)(s:AS):HC:=match d with
 | false=>abE P G ops ops.toList hs fr s
 | true=>(match LN ops with
   | true=>aqT P G ops fr s hs
   | false=>none)
def Mn(P:Program)(G:A6):Code->List Hn->List AV->AS->HC
 | .skip,hs,fr,s=>some (.normal,hs,[],fr,s)
 | .exit id,hs,fr,s=>some (.exit id,hs,[],fr,s)
 | .ret,hs,fr,s=>some (.ret,hs,[],fr,s)
 | .seq x y,hs,fr,s=>(match Mn P G x hs fr s with
   | some (.normal,R0,cd,UL,s1)=>Zk cd (Mn P G y R0 UL s1)
   | r=>r)
 | .cond q x y,hs,fr,s=>(match AW G fr q with
   | some (.sc (.bool true))=>Mn P G x hs fr s
   | some (.sc (.bool false))=>Mn P G y hs fr s
   | _=>none)
 | .block id c,hs,fr,s=>(match Mn P G c hs fr s with
   | some (e,R0,cd,UL,s1)=>some (EG id e,R0,cd,UL,s1)
   | none=>none)
 | .region _ ops d,hs,fr,s=>(match hs with
   | .n l::hs=>(match nzs l fr s with
     | some (fr2,s2)=>abI P G ops d hs fr2 s2
     | none=>none)
   | .f id b b2::hs=>(match look id s.h with
     | some b0=>Zk [.oZ [some b0] [some b] [] [],.rd s.nr b b2] (abI P G ops d hs fr ⟨Qw id b2 s.h,s.nx,(s.nr,0)::s.F,s.nr+1⟩)
     | none=>none)
   | hs=>abI P G ops d hs fr s)
 | _,_,_,_=>none
section
variable {P:Program} {G:A6} {ops:Array Oper}
def pM{fr:List AV}{s s1:AS}{o:Oper}{hs hs':List Hn}{v:AV}{cd:List Cd}(h:akE P G ops fr s o hs=some (v,s1,hs',cd))(hc:QB P G cd):J P G (XS P G) H0 (.op ops o fr s (.pan v) s1):=by
 unfold akE at h;split at h;rw[Mx] at h;split at h;rename_i hw;split at h;rename_i h1;cases h;exact .Rh hw h1 (.ext hc.1);rename_i h1;cases h;exact .arO hw h1;cases h;cases h;rw[Mx] at h;split at h;rename_i hw;split at h;rename_i h1;cases h;exact .Rh hw h1 (.ext (hc.1 s hc.2.1.1 hc.2.1.2));cases h;cases h;cases h
def akC{l:List Oper}{k:Nat}(hk:l=ops.toList.drop k){hs hs':List Hn}{fr fr':List AV}{s s':AS}{e:AX}{cd:List Cd}(h:abE P G ops l hs fr s=some (e,hs',cd,fr',s'))(hc:QB P G cd):J P G (XS P G) H0 (.ops ops (List.range' k l.length) fr s e fr' s'):=by
 induction l generalizing k hs fr s cd with
 | nil=>simp only[abE] at h;cases h;exact .adT
 | cons o l ih =>
   obtain⟨k1,k2⟩:=drop_cons hk;simp only[abE] at h;split at h;rename_i v s1 R0 wY h1;cases h;rw[List.length_cons,List.range'_succ];exact .adU (by rw[<- Array.getElem?_toList];exact k1) (pM h1 hc);split at h;rename_i v s1 R0 wY h1;unfold Zk at h;split at h;rename_i e2 dK tU fr2 s2 h2;cases h;obtain⟨c1,c2⟩:=hc.Tx;rw[List.length_cons,List.range'_succ];exact .qX (by rw[<- Array.getElem?_toList];exact k1) (OB h1 c1) (ih k2 h2 c2);cases h;cases h
def akD{l:List Oper}{q:Nat}(FW:Qa l=true){hs hs':List Hn}{fr fr':List AV}{s s':AS}{cd:List Cd}(h:fN P G ops l hs fr s=some (hs',cd,fr',s'))(hc:QB P G cd):s'=s/\∃t,RT P G (XS P G) H0 ops q l fr s t fr' s/\∀x∈t,x.2.1=s:=by
 induction l generalizing hs fr cd s with
 | nil=>simp only[fN] at h;cases h;exact⟨rfl,[],.nil,λx hx=>by cases hx⟩
 | cons o l ih =>
   simp only[Qa] at FW;split at FW
   · rename_i YE
     simp only[fN] at h;split at h
     · rename_i v s1 R0 wY h1
       unfold aqV at h;split at h
       · rename_i dK tU fr2 s2 h2
         cases h;obtain⟨c1,c2⟩:=hc.Tx;obtain⟨h1,hA⟩:=RD h1;have hj:=OB h1 c1
         have kM:BX o.op=false:=by
           cases ha:BX o.op with
           | false=>rfl
           | true=>obtain⟨e,he⟩:=Kb ha;rw[he] at YE;simp[steady,quiet] at YE
         have R0:s1=s:=by
           cases hq:quiet o.op with
           | true=>exact(Jz hq hj).1
           | false =>
             unfold steady at YE;rw[hq] at YE;simp only at YE;split at YE;rename_i cl fT;split at YE;rename_i f H8;unfold Zj at h1;split at h1;unfold uF at h1;rw[fT] at h1;simp only[H8] at h1;unfold Xm at h1;split at h1;split at h1;cases h1;rfl;cases h1;have:=hA (by rw[fT];simp[Ng,H8]);simp[bD] at this;have:=hA (by rw[fT];simp[Ng,H8]);simp[bD] at this;have:=hA (by rw[fT];simp[Ng,H8]);simp[bD] at this;cases h1;cases h1;rfl;cases YE;cases YE
         subst R0;obtain⟨e,t,ht,JG⟩:=ih FW h2 c2;subst e
         exact⟨rfl,_,.cons kM hj ht,λx hx=>by
           rcases List.mem_cons.1 hx with rfl | hx
           rfl;exact JG x hx⟩
       cases h
     cases h
   cases FW
def U8{l:List Oper}(FW:Qa l=true){i:Nat}{o:Oper}(ho:l[i]?=some o):steady o.op=true:=by
 induction l generalizing i with
 | nil=>simp at ho
 | cons x l ih =>
   simp only[Qa] at FW;split at FW;rename_i YE;cases i with
   | zero=>simp at ho;subst ho;exact YE
   | succ i=>exact ih FW (by simpa using ho)
   cases FW
def lI{X:VO}{H:SD}{id:Nat}{fr fr':List AV}{s:AS}{t:List (List AV×AS×AV)}(G9:LN ops=true)(FW:Qa ops.toList=true)(h:RT P G X H ops s.nx ops.toList fr s t fr' s)(JG:∀x∈t,x.2.1=s):J P G X H (.code (.region id ops true) fr s .normal fr' s):=by
 have hlen:t.length=ops.size:=by rw[h.len,Array.length_toList]
 obtain⟨h0,SO⟩:=h.at
 have hsa:∀i,Fv t s i=s:=by
   intro i;unfold Fv;split;rename_i x hx;exact JG x (List.mem_of_getElem? hx);rfl
 have mA:∀i o,ops[i]?=some o->Cf ops i=o.dst:=λi o ho=>by unfold Cf;rw[ho];rfl
 obtain⟨UP,Xr⟩:=h.aQ (Cf ops) (JX t) fr 0 rfl (λi o ho=>by rw[Nat.zero_add];exact mA i o (by rw[<- Array.getElem?_toList];exact ho)) (λi=>.inl (by rw[Nat.zero_add]));rw[Nat.zero_add,Array.length_toList] at UP
 have kM:∀(i:Nat) (o:Oper),ops[i]?=some o->BX o.op=false:=by
   intro i o ho;have:=U8 FW (Cc ho);cases ha:BX o.op with
   | false=>rfl
   | true=>obtain⟨e,he⟩:=Kb ha;rw[he] at this;simp[steady,quiet] at this
 have hj:∀i o,ops[i]?=some o->J P G X H (.op ops o (H9 fr (Cf ops) (JX t) (λ_=>true) i) s (.ret (JX t i)) s):=by
   intro i o ho;obtain⟨fi,h1,h2⟩:=SO i o (Cc ho);have:=Xr i _ h1;simp only[Nat.zero_add] at this;rcases h2 with ⟨_,h2⟩ | ⟨h2,_⟩
   rw[<- this];rw[hsa,hsa] at h2;exact h2;rw[kM i o ho] at h2;cases h2
 have key:=J.draw (P:=P) (G:=G) (X:=X) (H:=H) (id:=id) (f0:=fr) (s0:=s) [] (JX t) (λ_=>s) rfl G9 (λi o ho _=>hj i o ho) (λi o ho hq=>⟨rfl,by
   obtain⟨_,h2⟩:=Jz hq (hj i o ho);rcases h2 with h2 | ⟨hw,h2⟩
   exact .inl h2;exact .inr ⟨hw,λk _ _=>h2⟩⟩) (λi o e ho he=>by have:=kM i o ho;rw[he] at this;cases this)
 rw[<- UP] at key;exact key
def fM{fr:List AV}{s s1:AS}{o:Oper}{hs R0:List Hn}{v:AV}{cd:List Cd}(YE:steady o.op=true)(h:fL P G ops fr s o hs=some (v,s1,R0,cd))(hc:QB P G cd):J P G (XS P G) H0 (.op ops o fr s (.ret v) s):=by
 obtain⟨h1,hA⟩:=RD h;have hj:=OB h1 hc
 have R0:s1=s:=by
   cases hq:quiet o.op with
   | true=>exact(Jz hq hj).1
   | false =>
     unfold steady at YE;rw[hq] at YE;simp only at YE;split at YE;rename_i cl fT;split at YE;rename_i f H8;unfold Zj at h1;split at h1;unfold uF at h1;rw[fT] at h1;simp only[H8] at h1;unfold Xm at h1;split at h1;split at h1;cases h1;rfl;cases h1;have:=hA (by rw[fT];simp[Ng,H8]);simp[bD] at this;have:=hA (by rw[fT];simp[Ng,H8]);simp[bD] at this;have:=hA (by rw[fT];simp[Ng,H8]);simp[bD] at this;cases h1;cases h1;rfl;cases YE;cases YE
 rw[R0] at hj;exact hj
def aaN{f0:List AV}{dst:Nat->Option Tmp}{vals:Nat->AV}{k:Nat}:H9 f0 dst vals (λ_=>true) (k+1)=Ij (H9 f0 dst vals (λ_=>true) k) (dst k) (vals k):=by
 simp only[H9,if_true]
def abF{p:Nat}{s:AS}{f0:List AV}{vals:Nat->AV}:∀{l:List Oper} {i:Nat} {hs hs':List Hn} {fr:List AV} {vs:List AV} {cd:List Cd} {r:Option (AV×AS)},Xo P G ops (Hs ops.toList []) p s l i hs fr=some (vs,hs',cd,r)->l=ops.toList.drop i->QB P G cd->fr=H9 f0 (Cf ops) vals (λ_=>true) i->(∀j,vals (i+j)=vs.getD j (.sc undef)) ->
   (∀j o,i<=j->ops[j]?=some o->j≠p->(p < j->RA (Hs ops.toList []) j p=false)->J P G (XS P G) H0 (.op ops o (H9 f0 (Cf ops) vals (λ_=>true) j) s (.ret (vals j)) s)) /\
   (i<=p->∀v s2,r=some (v,s2)->∃o,ops[p]?=some o/\J P G (XS P G) H0 (.op ops o (H9 f0 (Cf ops) vals (λ_=>true) p) s (.pan v) s2))/\(p < i->r=none):=by
 intro l
 induction l with
 | nil =>
   intro i hs hs' fr vs cd r h hl hc hfr hv;simp only[Xo] at h;cases h
   have hsz:ops.size<=i:=by
     have:=congrArg List.length hl;simp only[List.length_nil,List.length_drop,Array.length_toList] at this;omega
   exact⟨λj o hj ho=>by have:=(Array.getElem?_eq_some_iff.1 ho).1;omega,(λ_ v s2 e=>by cases e),λ_=>rfl⟩
 | cons o l ih =>
   intro i hs hs' fr vs cd r h hl hc hfr hv;obtain⟨k1,k2⟩:=drop_cons hl;have ho:ops[i]?=some o:=by rw[<- Array.getElem?_toList];exact k1
   have hd:Cf ops i=o.dst:=by unfold Cf;rw[ho];rfl
   have next:∀{v0:AV} {vs2:List AV},vs=v0::vs2->vals i=v0/\Ij fr o.dst v0=H9 f0 (Cf ops) vals (λ_=>true) (i+1)/\∀j,vals (i+1+j)=vs2.getD j (.sc undef):=by
     intro v0 vs2 e;subst e;have h0:vals i=v0:=by have:=hv 0;simpa using this
     refine⟨h0,?_,λj=>?_⟩;rw[aaN,hd,h0,hfr];have:=hv (j+1);rw[show i+1+j=i+(j+1) by omega,this];simp
   simp only[Xo] at h;split at h
   · rename_i hb
     have hip:=Nat.eq_of_beq_eq_true hb;split at h
     · rename_i v s2 dK wY h1
       unfold arB at h;split at h
       · rename_i vs2 hs3 tU h2
         cases h;obtain⟨c1,c2⟩:=hc.Tx;obtain⟨n1,n2,n3⟩:=next rfl
         obtain⟨q1,q2,q3⟩:=ih h2 k2 c2 n2 n3;refine⟨λj o' hj Vs hjp uM=>?_,λ_ v' s2' e=>?_,λh=>by omega⟩;exact q1 j o' (by omega) Vs hjp uM;cases e;refine⟨o,hip▸ho,?_⟩;have:=pM h1 c1;rw[hfr,hip] at this;exact this
       cases h
     cases h
   · rename_i hb
     have hip:=Nat.ne_of_beq_eq_false hb;split at h
     · rename_i hbe
       unfold aZ at h;split at h
       · rename_i vs2 hs3 tU r2 h2
         cases h;obtain⟨n1,n2,n3⟩:=next rfl
         obtain⟨q1,q2,q3⟩:=ih h2 k2 hc n2 n3;unfold behind at hbe;split at hbe;rename_i hlt;have hlt:p < i:=Nat.le_of_ble_eq_true hlt;refine⟨λj o' hj Vs hjp uM=>?_,λh=>by omega,λ_=>q3 (by omega)⟩;by_cases e:j=i;subst e;rw[uM hlt] at hbe;cases hbe;exact q1 j o' (by omega) Vs hjp uM;cases hbe
       cases h
     · split at h
       · rename_i FW
         split at h
         · rename_i v s1 dK wY h1
           unfold aZ at h;split at h
           · rename_i vs2 hs3 tU r2 h2
             cases h;obtain⟨c1,c2⟩:=hc.Tx;obtain⟨n1,n2,n3⟩:=next rfl
             obtain⟨q1,q2,q3⟩:=ih h2 k2 c2 n2 n3;refine⟨λj o' hj Vs hjp uM=>?_,λh v' s2' e=>q2 (by omega) v' s2' e,λh=>q3 (by omega)⟩;by_cases e:j=i;subst e;rw[ho] at Vs;cases Vs;have:=fM FW h1 c1;rw[hfr] at this;rw[n1];exact this;exact q1 j o' (by omega) Vs hjp uM
           cases h
         cases h
       cases h
def abH{id p:Nat}(G9:LN ops=true){hs hs':List Hn}{fr fr':List AV}{s s':AS}{e:AX}{cd:List Cd}(h:abG P G ops p hs fr s=some (e,hs',cd,fr',s'))(hc:QB P G cd):J P G (XS P G) H0 (.code (.region id ops true) fr s e fr' s'):=by
 unfold abG at h;split at h;rename_i vs dK wY v s2 h1;cases h;obtain⟨q1,q2,_⟩:=abF (f0:=fr) (vals:=λj=>vs.getD j (.sc undef)) h1 rfl hc rfl (λj=>by rw[Nat.zero_add]);obtain⟨o,ho,hj⟩:=q2 (Nat.zero_le _) _ _ rfl;refine .sem λhm=>nN (vals:=λj=>vs.getD j (.sc undef)) hm G9 (Array.getElem?_eq_some_iff.1 ho).1 (λi o' Vs hi hd=>sound (Q9 hm) (q1 i o' (Nat.zero_le _) Vs hi hd)) (λo' Vs=>?_);rw[ho] at Vs;cases Vs;exact sound (Q9 hm) hj;cases h
def aV{ops:Array Oper}{id:Nat}{d:Bool}{hs hs':List Hn}{fr fr':List AV}{s s':AS}{e:AX}{cd:List Cd}(h:abI P G ops d hs fr s=some (e,hs',cd,fr',s'))(hc:QB P G cd):J P G (XS P G) H0 (.code (.region id ops d) fr s e fr' s'):=by
 unfold abI at h;cases d with
 | false =>
   simp only at h;have:=akC (ops:=ops) (k:=0) (by simp) h hc;refine .region ?_;rw[Array.length_toList] at this;rw[List.range_eq_range'];exact this
 | true =>
   simp only at h;split at h;rename_i G9;unfold aqT at h;split at h;exact abH G9 h hc;unfold aaY at h;split at h;rename_i UO;split at h;rename_i hl;split at h;rename_i OT;cases h;exact uA G9 UO hl OT hc;cases h;cases h;cases h;unfold aqR at h;split at h;rename_i OT;split at h;rename_i hrd;cases h;exact zQ G9 OT hrd hc;cases h;cases h;split at h;rename_i FW;unfold azT at h;split at h;rename_i h1;cases h;obtain⟨e,t,ht,JG⟩:=akD (q:=s.nx) FW h1 hc;subst e;exact lI G9 FW ht JG;cases h;unfold azS at h;split at h;rename_i r hr;split at h;rename_i R0 wY t UL s1 uQ;split at h;rename_i hi;split at h;rename_i abZ;cases h;exact zV G9 hr uQ hc hi abZ;cases h;cases h;cases h;cases h;cases h
def aaX(c:Code){hs hs':List Hn}{fr fr':List AV}{s s':AS}{e:AX}{cd:List Cd}(h:Mn P G c hs fr s=some (e,hs',cd,fr',s'))(hc:QB P G cd):J P G (XS P G) H0 (.code c fr s e fr' s'):=by
 induction c generalizing hs hs' fr fr' s s' e cd with
 | skip=>simp only[Mn] at h;cases h;exact .skip
 | exit id=>simp only[Mn] at h;cases h;exact .exit
 | ret=>simp only[Mn] at h;cases h;exact .ret
 | seq x y ihx ihy =>
   simp only[Mn] at h;cases hx:Mn P G x hs fr s with
   | none=>rw[hx] at h;cases h
   | some r =>
     obtain⟨e1,R0,wY,UL,s1⟩:=r;rw[hx] at h;cases e1 with
     | normal =>
       simp only at h;unfold Zk at h;split at h;rename_i e2 dK tU fr2 s2 h2;cases h;obtain⟨c1,c2⟩:=hc.Tx;exact .seq (ihx hx c1) (ihy h2 c2);cases h
     | exit id=>simp only at h;cases h;exact .nW (ihx hx hc) (by simp)
     | ret=>simp only at h;cases h;exact .nW (ihx hx hc) (by simp)
     | pan v=>simp only at h;cases h;exact .nW (ihx hx hc) (by simp)
 | cond q x y ihx ihy =>
   simp only[Mn,Cn] at h;split at h;rename_i hq;exact .cond hq (ihx h hc);rename_i hq;exact .cond hq (ihy h hc);cases h
 | block id c ih =>
   simp only[Mn] at h;split at h;rename_i h1;cases h;exact .block (ih h1 hc);cases h
 | region id ops d =>
   simp only[Mn] at h;split at h;split at h;rename_i hz;exact .Yt (λcx w vs h1 h2=>nB hz cx w vs h1 h2) (aV h hc);cases h;split at h;rename_i b0 hb;unfold Zk at h;split at h;rename_i h1;cases h;obtain⟨c1,c2⟩:=hc.Tx;refine .Yt (λcx w vs hs hf=>?_) (aV h1 c2);have hbb:b0=_:=Option.some.inj (List.cons.inj c1.1.1).1;subst hbb;obtain⟨x,st⟩:=hs.tok;exact⟨_,x,st.nM hb (λo ho=>c1.2.1 _ _ _ (by simp[hs.Ip]) ho),hf.mono x⟩;cases h;cases h;exact aV h hc
 | _=>simp only[Mn] at h;cases h
def RE:Code->Bool
 | .loop _=>true
 | .seq x y=>RE x||RE y
 | .cond _ x y=>RE x||RE y
 | .block _ c=>RE c
 | _=>false
abbrev HP:=Option (Code×List Hn×List Cd×List AV×AS)
end
end AI
namespace AI
open Go Go.RowKit
structure PC(P:Program)(G:A6) where
 hn:Hn
 cd:List Cd
 ok:QB P G cd
def pHs{P:Program}{G:A6}:List (PC P G)->List Hn
 | []=>[]
 | p::l=>p.hn::pHs l
def dO{P:Program}{G:A6}:List (PC P G)->List Cd
 | []=>[]
 | p::l=>p.cd++dO l
def QB.join{P:Program}{G:A6}{l m:List Cd}(h:QB P G l)(k:QB P G m):QB P G (l++m):=by
 induction l with
 | nil=>exact k
 | cons c l ih=>exact⟨h.1,ih h.2⟩
def Np{P:Program}{G:A6}(l:List (PC P G)):QB P G (dO l):=by
 induction l with
 | nil=>trivial
 | cons p l ih=>exact p.ok.join ih
inductive KI where
 | code (c:Code)
 | lM (id:Nat)
def D3(P:Program)(G:A6):List KI->(AX->List AV->AS->Prop)->AX->List AV->AS->Prop
 | [],Q=>Q
 | .code k::ks,Q=>asD P G (XS P G) H0 k (D3 P G ks Q)
 | .lM id::ks,Q=>Ew id (D3 P G ks Q)
inductive Sq where
 | at (id:Nat) (c:Code) (ks:List KI)
 | fin (e:AX)
abbrev HR:=Option (Sq×List Hn×List Cd×List AV×AS)
def abD(cd:List Cd):HR->HR
 | some (c,hs,cd',fr,s)=>some (c,hs,cd++cd',fr,s)
 | none=>none
def QG(r:Code->List KI->List Hn->List AV->AS->HR):List KI->AX->List Hn->List AV->AS->HR
 | [],e,hs,fr,s=>some (.fin e,hs,[],fr,s)
 | .code k::ks,.normal,hs,fr,s=>r k ks hs fr s
 | .code _::ks,e,hs,fr,s=>QG r ks e hs fr s
 | .lM id::ks,.exit Qp,hs,fr,s=>(match Nat.beq Qp id with
   | true=>QG r ks .normal hs fr s
   | false=>QG r ks (.exit Qp) hs fr s)
 | .lM _::ks,e,hs,fr,s=>QG r ks e hs fr s
def RZ(P:Program)(G:A6):Nat->Code->List KI->List Hn->List AV->AS->HR
 | 0,_,_,_,_,_=>none
 | n+1,c,ks,hs,fr,s=>(match RE c with
   | false=>(match Mn P G c hs fr s with
     | some (e,R0,cd,UL,s1)=>abD cd (QG (RZ P G n) ks e R0 UL s1)
     | none=>none)
   | true=>(match c with
     | .seq x y=>RZ P G n x (.code y::ks) hs fr s
     | .block id (.loop c)=>some (.at id c ks,hs,[],fr,s)
     | .block id c=>RZ P G n c (.lM id::ks) hs fr s
     | .cond q x y=>(match AW G fr q with
       | some (.sc (.bool true))=>RZ P G n x ks hs fr s
       | some (.sc (.bool false))=>RZ P G n y ks hs fr s
       | _=>none)
     | _=>none))
section
variable {P:Program} {G:A6}
def SqQ(P:Program)(G:A6)(Q:AX->List AV->AS->Prop)(fr:List AV)(s:AS):Sq->Prop
 | .at id c ks=>WL P G (XS P G) H0 c fr s (Ew id (D3 P G ks Q))
 | .fin e=>Q e fr s
def NI{k:Code}{ks:List KI}{Q:AX->List AV->AS->Prop}{e:AX}{fr:List AV}{s:AS}(he:e≠.normal)(h:D3 P G ks Q e fr s):D3 P G (.code k::ks) Q e fr s:=by
 cases e with
 | normal=>exact absurd rfl he
 | exit id=>exact h
 | ret=>exact h
 | pan v=>exact h
def aU{r:Code->List KI->List Hn->List AV->AS->HR}{Q:AX->List AV->AS->Prop}
   (hr:∀(c:Code) (ks:List KI) {sp:Sq} {hs hs':List Hn} {fr fr':List AV} {s s':AS} {cd:List Cd},r c ks hs fr s=some (sp,hs',cd,fr',s')->QB P G cd->SqQ P G Q fr' s' sp->W P G (XS P G) H0 c fr s (D3 P G ks Q)) :
   ∀(ks:List KI) (e:AX) {sp:Sq} {hs hs':List Hn} {fr fr':List AV} {s s':AS} {cd:List Cd},QG r ks e hs fr s=some (sp,hs',cd,fr',s')->QB P G cd->SqQ P G Q fr' s' sp->D3 P G ks Q e fr s:=by
 intro ks
 induction ks with
 | nil=>intro e sp hs hs' fr fr' s s' cd h hc hk;simp only[QG] at h;cases h;exact hk
 | cons k ks ih =>
   intro e sp hs hs' fr fr' s s' cd h hc hk;cases k with
   | code c =>
     cases e with
     | normal=>simp only[QG] at h;exact hr c ks h hc hk
     | exit id=>simp only[QG] at h;exact NI (by simp) (ih _ h hc hk)
     | ret=>simp only[QG] at h;exact NI (by simp) (ih _ h hc hk)
     | pan v=>simp only[QG] at h;exact NI (by simp) (ih _ h hc hk)
   | lM id =>
     show D3 P G ks Q (EG id e) fr s;cases e with
     | normal=>simp only[QG] at h;exact ih _ h hc hk
     | ret=>simp only[QG] at h;exact ih _ h hc hk
     | pan v=>simp only[QG] at h;exact ih _ h hc hk
     | exit Qp =>
       simp only[QG] at h;split at h;rename_i hb;have:=beq_true hb;subst this;have e1:EG Qp (.exit Qp)=.normal:=by simp[EG]
       rw[e1];exact ih _ h hc hk;rename_i hb;have:=beq_false hb;have e1:EG id (.exit Qp)=.exit Qp:=by simp[EG,this]
       rw[e1];exact ih _ h hc hk
def aW{Q:AX->List AV->AS->Prop}:∀(n:Nat) (c:Code) (ks:List KI) {sp:Sq} {hs hs':List Hn} {fr fr':List AV} {s s':AS} {cd:List Cd},RZ P G n c ks hs fr s=some (sp,hs',cd,fr',s')->QB P G cd->SqQ P G Q fr' s' sp->W P G (XS P G) H0 c fr s (D3 P G ks Q):=by
 intro n
 induction n with
 | zero=>intro c ks sp hs hs' fr fr' s s' cd h;simp only[RZ] at h;cases h
 | succ n ih =>
   intro c ks sp hs hs' fr fr' s s' cd h hc hk;simp only[RZ] at h;split at h;split at h;rename_i e R0 wY UL s1 h1;unfold abD at h;split at h;rename_i h2;cases h;obtain⟨c1,c2⟩:=hc.Tx;exact⟨_,_,_,aaX c h1 c1,aU ih ks e h2 c2 hk⟩;cases h;cases h;split at h;exact ayP (ih _ _ h hc hk);cases h;exact oN (asU hk);exact oN (ih _ _ h hc hk);rw[Cn] at h;split at h;rename_i hq;exact aiT hq (ih _ _ h hc hk);rename_i hq;exact aiS hq (ih _ _ h hc hk);cases h;cases h
end
end AI
namespace AI
open Go Go.RowKit
def sub:Code->List Nat->Code
 | c,[]=>c
 | .seq x _,0::l=>sub x l
 | .seq _ y,_::l=>sub y l
 | .cond _ x _,0::l=>sub x l
 | .cond _ _ y,_::l=>sub y l
 | .block _ c,_::l=>sub c l
 | .loop c,_::l=>sub c l
 | c,_=>c
def Bj(fn:Func):Code:=fn.body.getD .skip
def obv(n:Nat):AV->Bool
 | .sc _=>true
 | .any=>true
 | .ptr id _=>Nat.blt id n
 | .mp id=>Nat.blt id n
 | .msl id _ _=>Nat.blt id n
 | _=>false
theorem adQ{n m:Nat}{a:AV}(h:obv n a=true):Fits n m a a:=by
 refine .under ?_;cases a<;>simp only[obv] at h<;>first | rfl | (cases h;done) | exact decide_eq_true (Nat.le_of_ble_eq_true h)
structure FP(n m:Nat) where
 a:AV
 b:AV
 h:Fits n m a b
structure FB(n m:Nat) where
 a:AL
 b:AL
 h:Qk n m a b
def dH{n m:Nat}:List (FP n m)->List AV
 | []=>[]
 | p::l=>p.a::dH l
def YC{n m:Nat}:List (FP n m)->List AV
 | []=>[]
 | p::l=>p.b::YC l
def fbA{n m:Nat}:List (FB n m)->List AL
 | []=>[]
 | p::l=>p.a::fbA l
def fbB{n m:Nat}:List (FB n m)->List AL
 | []=>[]
 | p::l=>p.b::fbB l
abbrev MR:=Option (List AV×List AV)
def Zs(b:AV):MR->MR
 | some (l,as)=>some (b::l,as)
 | none=>none
def acY(a b:AV):MR->MR
 | some (l,as)=>some (b::l,a::as)
 | none=>none
def acZ(r:List AV->MR)(n:Nat)(a:AV)(bs:List AV):MR:=match obv n a with
 | true=>Zs a (r bs)
 | false=>none
def alJ(r:List AV->MR)(a:AV):List AV->MR
 | b::bs=>acY a b (r bs)
 | []=>none
def Zt(r:List AV->MR)(a:AV)(bs:List AV):MR:=match TM a with
 | true=>Zs .any (r bs)
 | false=>none
def YQ(n:Nat):List AV->Nat->List Nat->List AV->MR
 | [],_,_,[]=>some ([],[])
 | [],_,_,_::_=>none
 | a::l,i,[],bs=>Zt (YQ n l (i+2) []) a bs
 | a::l,i,t::ts,bs=>(match Nat.beq t i with
   | true=>acZ (YQ n l (i+2) ts) n a bs
   | false=>(match Nat.beq t (i+1) with
     | true=>alJ (YQ n l (i+2) ts) a bs
     | false=>Zt (YQ n l (i+2) (t::ts)) a bs))
section
variable {n m:Nat} {r:List AV->MR} {l:List AV} (hr:∀(fps:List (FP n m)) l2,r (YC fps)=some (l2,dH fps)->I3 n m l l2) {a:AV} {fps:List (FP n m)} {l2:List AV}
include hr
theorem adA(h:acZ r n a (YC fps)=some (l2,dH fps)):I3 n m (a::l) l2:=by
 unfold acZ at h;split at h
 · rename_i ho
   unfold Zs at h;split at h
   · rename_i l3 as h1
     cases h;exact .cons (adQ ho) (hr fps _ h1)
   · cases h
 · cases h
theorem qL(h:alJ r a (YC fps)=some (l2,dH fps)):I3 n m (a::l) l2:=by
 cases fps with
 | nil=>cases h
 | cons p fps =>
   simp only[YC,alJ] at h;unfold acY at h;split at h
   · rename_i l3 as h1
     simp only[dH,Option.some.injEq,Prod.mk.injEq,List.cons.injEq] at h;obtain⟨rfl,rfl,rfl⟩:=h;exact .cons p.h (hr fps _ h1)
   · cases h
theorem T4(h:Zt r a (YC fps)=some (l2,dH fps)):I3 n m (a::l) l2:=by
 unfold Zt at h;split at h
 · rename_i hd
   unfold Zs at h;split at h
   · rename_i l3 as h1
     cases h;exact .cons (.drop hd) (hr fps _ h1)
   · cases h
 · cases h
end
theorem alN{n m:Nat}:∀{l:List AV} {i:Nat} {ts:List Nat} {fps:List (FP n m)} {l2:List AV},YQ n l i ts (YC fps)=some (l2,dH fps)->I3 n m l l2:=by
 intro l
 induction l with
 | nil =>
   intro i ts fps l2 h;cases fps with
   | nil=>simp only[YC,YQ] at h;cases h;exact .nil
   | cons p fps=>simp only[YC,YQ] at h;cases h
 | cons a l ih =>
   intro i ts fps l2 h;cases ts with
   | nil=>simp only[YQ] at h;exact T4 (λfps l2 h=>ih h) h
   | cons t ts =>
     simp only[YQ] at h;split at h
     · exact adA (λfps l2 h=>ih h) h
     · split at h
       · exact qL (λfps l2 h=>ih h) h
       · exact T4 (λfps l2 h=>ih h) h
abbrev BR:=Option (List (Nat×AL)×List AL)
def aqH(id:Nat)(a b:AL):BR->BR
 | some (l,as)=>some ((id,b)::l,a::as)
 | none=>none
def lB:List (Nat×AL)->List AL->BR
 | [],[]=>some ([],[])
 | e::l,b::bs=>aqH e.1 e.2 b (lB l bs)
 | _,_=>none
theorem aiZ{n m:Nat}:∀{l:List (Nat×AL)} {fbs:List (FB n m)} {l2:List (Nat×AL)},lB l (fbB fbs)=some (l2,fbA fbs)->(∀k,I2 l k->I2 l2 k)/\∀id b,look id l2=some b->∃b',look id l=some b'/\Qk n m b' b:=by
 intro l
 induction l with
 | nil =>
   intro fbs l2 h;cases fbs with
   | nil=>simp only[fbB,lB] at h;cases h;exact⟨λ_ _=>trivial,λid b h=>by cases h⟩
   | cons p fbs=>simp only[fbB,lB] at h;cases h
 | cons e l ih =>
   intro fbs l2 h;cases fbs with
   | nil=>simp only[fbB,lB] at h;cases h
   | cons p fbs =>
     simp only[fbB,lB] at h;unfold aqH at h;split at h
     · rename_i l3 as h1
       simp only[fbA,Option.some.injEq,Prod.mk.injEq,List.cons.injEq] at h;obtain⟨rfl,h2,rfl⟩:=h;obtain⟨hd,hl⟩:=ih h1;refine⟨λk hk=>⟨hk.1,hd _ hk.2⟩,λid b hb=>?_⟩;simp only[look] at hb ⊢;split at hb
       · cases hb;exact⟨e.2,rfl,by rw[h2];exact p.h⟩
       · exact hl id b hb
     · cases h
def Vp(m:Nat):List (Nat×Nat)->List (Nat×Nat)
 | []=>[]
 | x::l=>match Nat.blt x.1 m with
   | true=>x::Vp m l
   | false=>Vp m l
theorem fE{m r n:Nat}{l:List (Nat×Nat)}(h:DW r (Vp m l)=some n):DW r l=some n/\r < m:=by
 induction l with
 | nil=>cases h
 | cons x l ih =>
   simp only[Vp] at h;split at h
   · rename_i hb
     simp only[DW] at h ⊢;split at h
     · rename_i h1
       have:=beq_true h1;subst this;cases h;exact⟨rfl,Nat.le_of_ble_eq_true hb⟩
     · exact ih h
   · rename_i hb
     obtain⟨h1,h2⟩:=ih h;refine⟨?_,h2⟩;simp only[DW];split
     · rename_i h3
       have:=beq_true h3;subst this;rw[show Nat.blt x.1 m=true from Nat.ble_eq_true_of_le h2] at hb;cases hb
     · exact h1
section
variable {P:Program} {G:A6}
def sZ(G:A6)(s0:AS)(fr':List AV)(s':AS)(fr2:List AV)(s2:AS):Prop:=∀(cx:Cx) (w:World) (c':Cx) (w':World) (vs:List Value),Ext cx w c' w'->St G cx w s0->St G c' w' s'->Cz c' w' fr' vs->∃c2,Ext cx w c2 w'/\St G c2 w' s2/\Cz c2 w' fr2 vs
abbrev RR:=Option (List AV×AS×List AV×List AL)
def axB(live:List Nat)(n m:Nat)(fr':List AV)(s':AS)(bs:List AV)(cs:List AL):RR :=
 match YQ n fr' 0 live bs with
 | some (fr2,as)=>(match lB (Sh n s'.h) cs with
   | some (h2,cas)=>some (fr2,⟨h2,n,Vp m s'.F,m⟩,as,cas)
   | none=>none)
 | none=>none
theorem eY{l:List (Nat×AL)}{N n:Nat}(h:I2 l N):I2 (Sh n l) n:=by
 induction l generalizing N with
 | nil=>trivial
 | cons e l ih =>
   simp only[Sh];split
   · exact ih h.2
   · rename_i hb
     refine⟨?_,h.2⟩;have:¬n<=e.1:=λhle=>by rw[Nat.ble_eq_true_of_le hle] at hb;cases hb
     omega
def Tc(P:Program)(G:A6)(L:Code)(s0:AS)(Q:AX->List AV->AS->Prop):AX->List AV->AS->Prop
 | .normal,fr',s'=>∃fr2 s2,sZ G s0 fr' s' fr2 s2/\WL P G (XS P G) H0 L fr2 s2 Q
 | .exit id,fr',s'=>∃fr2 s2,sZ G s0 fr' s' fr2 s2/\Q (.exit id) fr2 s2
 | e,fr',s'=>Q e fr' s'
theorem Z6{L:Code}{fr:List AV}{s:AS}{Q:AX->List AV->AS->Prop}(h:W P G (XS P G) H0 L fr s (Tc P G L s Q)):WL P G (XS P G) H0 L fr s Q:=by
 obtain⟨e,fr',s',hj,h2⟩:=h;cases e with
 | normal =>
   obtain⟨fr2,s2,hf,e3,fr3,s3,h3,h4⟩:=h2;exact⟨e3,fr3,s3,.loopN (.scope hj (λ_ h=>by cases h) (λcx w c' w' vs hx hs hs' hfr=>hf cx w c' w' vs hx hs hs' hfr)) h3,h4⟩
 | exit id =>
   obtain⟨fr2,s2,hf,h4⟩:=h2;exact⟨_,_,_,.loopX (.scope hj (λ_ h=>by cases h) (λcx w c' w' vs hx hs hs' hfr=>hf cx w c' w' vs hx hs hs' hfr)) (by simp),h4⟩
 | ret=>exact⟨_,_,_,.loopX hj (by simp),h2⟩
 | pan v=>exact⟨_,_,_,.loopX hj (by simp),h2⟩
def QP(P:Program)(fn:Func)(m:Nat)(Q:AX->List AV->AS->Prop)(v:AV)(s2:AS):Prop:=∀fr s,Gg P s fn fr=some v->s.cut m=s2->Q .ret fr s
def TD(m:Nat)(Q:AX->List AV->AS->Prop)(v:AV)(s2:AS):Prop:=∀fr s,s.cut m=s2->Q (.pan v) fr s
theorem wG{ks:List KI}{Q:AX->List AV->AS->Prop}{fr:List AV}{s:AS}(h:Q .ret fr s):D3 P G ks Q .ret fr s:=by
 induction ks with
 | nil=>exact h
 | cons k ks ih=>cases k<;>exact ih
theorem wF{ks:List KI}{Q:AX->List AV->AS->Prop}{fr:List AV}{s:AS}{v:AV}(h:Q (.pan v) fr s):D3 P G ks Q (.pan v) fr s:=by
 induction ks with
 | nil=>exact h
 | cons k ks ih=>cases k<;>exact ih
theorem QP.body{fn:Func}{m:Nat}{Q:CR->AS->Prop}{v:AV}{s2:AS}(h:Q (.ret v) s2):QP P fn m (Sg P fn m Q) v s2:=λfr s h1 h2=>⟨v,h1,by rw[h2];exact h⟩
theorem TD.body{fn:Func}{m:Nat}{Q:CR->AS->Prop}{v:AV}{s2:AS}(h:Q (.pan v) s2):TD m (Sg P fn m Q) v s2:=λfr s h2=>by show Q (.pan v) (s.cut m);rw[h2];exact h
theorem QP.outer{fn:Func}{m id:Nat}{ks:List KI}{Q:AX->List AV->AS->Prop}{v:AV}{s2:AS}(h:QP P fn m Q v s2):QP P fn m (Ew id (D3 P G ks Q)) v s2:=λfr s h1 h2=>wG (h fr s h1 h2)
theorem TD.outer{m id:Nat}{ks:List KI}{Q:AX->List AV->AS->Prop}{v:AV}{s2:AS}(h:TD m Q v s2):TD m (Ew id (D3 P G ks Q)) v s2:=λfr s h1=>wF (h fr s h1)
theorem QP.GB{fn:Func}{m:Nat}{L:Code}{s0:AS}{Q:AX->List AV->AS->Prop}{v:AV}{s2:AS}(h:QP P fn m Q v s2):QP P fn m (Tc P G L s0 Q) v s2:=h
theorem TD.GB{m:Nat}{L:Code}{s0:AS}{Q:AX->List AV->AS->Prop}{v:AV}{s2:AS}(h:TD m Q v s2):TD m (Tc P G L s0 Q) v s2:=h
def aBP(P:Program)(fn:Func)(m:Nat):HR->Option (List Cd×AV×AS)
 | some (.fin .ret,[],cd,fr,s)=>(match Gg P s fn fr with
   | some v=>some (cd,v,s.cut m)
   | none=>none)
 | _=>none
def TF(P:Program)(G:A6)(_l:List (PC P G))(Q:AX->List AV->AS->Prop)(r:HR)(X:Prop):Prop:=∀sp cd fr' s',r=some (sp,[],cd,fr',s')->QB P G cd->SqQ P G Q fr' s' sp->X
theorem Ae{c:Code}{fr:List AV}{s:AS}{Q:AX->List AV->AS->Prop}(n:Nat)(l:List (PC P G)):TF P G l Q (RZ P G n c [] (pHs l) fr s) (W P G (XS P G) H0 c fr s Q):=λ_ _ _ _ h hc hk=>aW n c [] h hc hk
theorem cH{id:Nat}{ks:List KI}{fr:List AV}{s:AS}{Q:AX->List AV->AS->Prop}(n:Nat)(l:List (PC P G)):TF P G l Q (QG (RZ P G n) ks .normal (pHs l) fr s) (Ew id (D3 P G ks Q) (.exit id) fr s):=λ_ _ _ _ h hc hk=>by
 show D3 P G ks Q (EG id (.exit id)) fr s;have:EG id (.exit id)=.normal:=by simp[EG]
 rw[this];exact aU (aW n) ks _ h hc hk
theorem go_ret{r:HR}{X:Prop}{Q:AX->List AV->AS->Prop}(fn:Func)(m:Nat){l:List (PC P G)}(v:AV)(s2:AS)(R:TF P G l Q r X)(h:aBP P fn m r=some (dO l,v,s2))(k:QP P fn m Q v s2):X:=by
 unfold aBP at h;split at h
 · rename_i cd fr' s'
   split at h
   · rename_i v' hv
     simp only[Option.some.injEq,Prod.mk.injEq] at h;obtain⟨rfl,rfl,rfl⟩:=h;exact R _ _ _ _ rfl (Np l) (k _ _ hv rfl)
   · cases h
 · cases h
def lJ(a:AV):AV:=match TM a with
 | true=>.any
 | false=>a
theorem uB{a:AV}{c:Cx}{w:World}{v:Value}(hr:Rp c w a v):Rp c w (lJ a) v:=by
 unfold lJ;split
 · rename_i h;exact .any (SK hr h)
 · exact hr
inductive Lp(γ δ ρ:Type) where
 | nx (x:γ)
 | ex (x:δ)
 | rt (r:ρ)
section loops
variable {α γ δ ρ:Type}
def Q8(k:γ->Option (δ⊕ρ)):Lp γ δ ρ->Option (δ⊕ρ)
 | .nx x=>k x
 | .ex d=>some (.inl d)
 | .rt r=>some (.inr r)
def Dh(body:Nat->α->γ->Option (Lp γ δ ρ))(done:γ->δ):List α->Nat->γ->Option (δ⊕ρ)
 | [],_,x=>some (.inl (done x))
 | y::l,i,x=>(body i y x).bind (Q8 (Dh body done l (i+1)))
def GL(body:γ->Option (Lp γ δ ρ)):Nat->γ->Option (δ⊕ρ)
 | 0,_=>none
 | n+1,x=>(body x).bind (Q8 (GL body n))
def Sx{β:Type}(n:Nat)(x:Option β):Option β:=if n<=9223372036854775807 then x else none
theorem aJH{β:Type}{n:Nat}{x:Option β}{r:β}(h:Sx n x=some r):n<=9223372036854775807/\x=some r:=by
 unfold Sx at h;split at h
 · rename_i h1;exact⟨h1,h⟩
 · cases h
theorem aGG{β:Type}{b:Bool}{t f:Option β}{r:β}(h:cond b t f=some r):(b=true/\t=some r)\/(b=false/\f=some r):=by
 cases b
 · exact .inr ⟨rfl,h⟩
 · exact .inl ⟨rfl,h⟩
theorem eG{β κ:Type}{m:Option κ}{k:κ->Option β}{r:β}(h:m.bind k=some r):∃y,m=some y/\k y=some r:=by
 cases m with
 | none=>cases h
 | some y=>exact⟨y,rfl,h⟩
def LQ(Qx:δ->Prop)(Qr:ρ->Prop):δ⊕ρ->Prop
 | .inl x=>Qx x
 | .inr r=>Qr r
def RQ(Qn:γ->Prop)(Qx:δ->Prop)(Qr:ρ->Prop):Lp γ δ ρ->Prop
 | .nx x=>Qn x
 | .ex x=>Qx x
 | .rt r=>Qr r
theorem aiQ{J:Type}{L:Code}{Q:AX->List AV->AS->Prop}{body:Nat->α->γ->Option (Lp γ δ ρ)}{done:γ->δ}(l:List α)(F:Nat->γ->J->List AV)(S:Nat->γ->J->AS)(Ok:J->Prop)(Qx:δ->Prop)(Qr:ρ->Prop)
   (hz:∀i x j,Ok j->l.length<=i->Qx (done x)->WL P G (XS P G) H0 L (F i x j) (S i x j) Q)
   (hs:∀i y x j r,Ok j->l[i]?=some y->i < l.length->body i y x=some r->RQ (λx'=>∀j',Ok j'->WL P G (XS P G) H0 L (F (i+1) x' j') (S (i+1) x' j') Q) Qx Qr r->WL P G (XS P G) H0 L (F i x j) (S i x j) Q) :
   ∀{x:γ} {res:δ⊕ρ} (i0:Nat),Dh body done (l.drop i0) i0 x=some res->LQ Qx Qr res->∀j,Ok j->WL P G (XS P G) H0 L (F i0 x j) (S i0 x j) Q:=by
 have key:∀(k:List α) (i:Nat) (x:γ) (res:δ⊕ρ),l.drop i=k->Dh body done k i x=some res->LQ Qx Qr res->∀j,Ok j->WL P G (XS P G) H0 L (F i x j) (S i x j) Q:=by
   intro k
   induction k with
   | nil =>
     intro i x res hd h hq j hj;simp only[Dh,Option.some.injEq] at h;subst h;exact hz i x j hj (List.drop_eq_nil_iff.1 hd) hq
   | cons y k ih =>
     intro i x res hd h hq j hj
     have hi:i < l.length:=by
       rcases Nat.lt_or_ge i l.length with h1 | h1
       · exact h1
       · rw[List.drop_eq_nil_of_le h1] at hd;cases hd
     have hy:l[i]?=some y:=by rw[<- List.head?_drop,hd];rfl
     have hd2:l.drop (i+1)=k:=by rw[<- List.tail_drop,hd];rfl
     obtain⟨r,hb,h⟩:=eG h;refine hs i y x j r hj hy hi hb ?_;cases r with
     | nx x'=>exact λj' hj'=>ih (i+1) x' res hd2 h hq j' hj'
     | ex d=>simp only[Q8,Option.some.injEq] at h;subst h;exact hq
     | rt v=>simp only[Q8,Option.some.injEq] at h;subst h;exact hq
 intro x res i0 h hq j hj;exact key _ i0 x res rfl h hq j hj
theorem aiR{J:Type}{L:Code}{Q:AX->List AV->AS->Prop}{body:γ->Option (Lp γ δ ρ)}(F:γ->J->List AV)(S:γ->J->AS)(Ok:J->Prop)(Qx:δ->Prop)(Qr:ρ->Prop)
   (hs:∀x j r,Ok j->body x=some r->RQ (λx'=>∀j',Ok j'->WL P G (XS P G) H0 L (F x' j') (S x' j') Q) Qx Qr r->WL P G (XS P G) H0 L (F x j) (S x j) Q) :
   ∀(n:Nat) {x:γ} {res:δ⊕ρ},GL body n x=some res->LQ Qx Qr res->∀j,Ok j->WL P G (XS P G) H0 L (F x j) (S x j) Q:=by
 intro n
 induction n with
 | zero=>intro x res h;cases h
 | succ n ih =>
   intro x res h hq j hj;obtain⟨r,hb,h⟩:=eG h;refine hs x j r hj hb ?_;cases r with
   | nx x'=>exact λj' hj'=>ih h hq j' hj'
   | ex d=>simp only[Q8,Option.some.injEq] at h;subst h;exact hq
   | rt v=>simp only[Q8,Option.some.injEq] at h;subst h;exact hq
def PO(body:γ->Option (Lp γ δ ρ))(x:γ):Option (δ⊕ρ):=open Classical in if h:∃n r,GL body n x=some r then some (Classical.choose (Classical.choose_spec h)) else none
theorem ajT{body:γ->Option (Lp γ δ ρ)}{x:γ}{r:δ⊕ρ}(h:PO body x=some r):∃n,GL body n x=some r:=by
 unfold PO at h;split at h
 · rename_i hx
   have:=Classical.choose_spec (Classical.choose_spec hx);rw[Option.some.inj h] at this;exact⟨_,this⟩
 · cases h
theorem Xz{body:γ->Option (Lp γ δ ρ)}:∀{n m:Nat} {x:γ} {r:δ⊕ρ},GL body n x=some r->n<=m->GL body m x=some r:=by
 intro n
 induction n with
 | zero=>intro m x r h;cases h
 | succ n ih =>
   intro m x r h hm;cases m with
   | zero=>omega
   | succ m =>
     obtain⟨a,ha,h⟩:=eG h;simp only[GL,ha,Option.bind_some];cases a with
     | nx x'=>exact ih h (by omega)
     | ex d=>exact h
     | rt v=>exact h
theorem IN{body:γ->Option (Lp γ δ ρ)}{n:Nat}{x:γ}{r:δ⊕ρ}(h:GL body n x=some r):PO body x=some r:=by
 unfold PO;have hx:∃n r,GL body n x=some r:=⟨n,r,h⟩;rw[dif_pos hx];have h2:=Classical.choose_spec (Classical.choose_spec hx);have h3:=Xz h (Nat.le_max_left n (Classical.choose hx));have h4:=Xz h2 (Nat.le_max_right n (Classical.choose hx));rw[h3] at h4;rw[Option.some.inj h4]
end loops
end
end AI
