/- Part of a proof: see the last text. -/
import Derived.Test.YtpbkhogolfegfaaGreatDoorPge
set_option linter.unusedVariables false
set_option linter.unusedSimpArgs false
set_option linter.defProp false
noncomputable section
namespace AI
open Go Go.RowKit
def Od(op:Op):Bool:=match op with
 | .call cl=>(match cl.callee with | .value _=>true | _=>false)
 | _=>false
def QO(op:Op):Bool:=match op with
 | .call cl=>(match cl.callee with | .value _=>true | .builtin .append=>true | _=>false)
 | _=>false
def aoT{op:Op}(h:Od op=true):QO op=true:=by
 unfold Od at h;split at h;split at h;rename_i IN;simp[QO,IN];cases h;cases h
def eS:List Hn->Bool
 | .a _ _::_=>true
 | .u _ _ _ _ _::_=>true
 | .cn _ _ _ _ _::_=>true
 | .mb _ _::_=>true
 | _=>false
def jN(P:Program)(G:Bc)(ops:Array Oper)(fr:List AV)(s:AS)(o:Oper)(hs:List Hn):HO:=match QO o.op with
 | true=>(match eS hs with
   | true=>none
   | false=>aT P G ops fr s o hs)
 | false=>aT P G ops fr s o hs
def Yr{P:Program}{G:Bc}{ops:Array Oper}{fr:List AV}{s:AS}{o:Oper}{hs:List Hn}{r:AV×AS×List Hn×List Cd}(h:jN P G ops fr s o hs=some r):aT P G ops fr s o hs=some r/\(QO o.op=true->eS hs=false):=by
 unfold jN at h;split at h;split at h;cases h;rename_i h1;exact⟨h,λ_=>h1⟩;rename_i h1;exact⟨h,λh2=>by rw[h1] at h2;cases h2⟩
def SK{P:Program}{G:Bc}{ops:Array Oper}{fr:List AV}{s:AS}{o:Oper}{hs:List Hn}{r:AV×AS×List Hn×List Cd}(h:jN P G ops fr s o hs=some r):aT P G ops fr s o hs=some r/\(Od o.op=true->eS hs=false):=⟨(Yr h).1,λh1=>(Yr h).2 (aoT h1)⟩
abbrev HT:=Option (List Hn×List Cd×List (List AV×AS×AV)×List AV×AS)
def yF(cd:List Cd)(x:List AV×AS×AV):HT->HT
 | some (hs,cd',t,fr,s)=>some (hs,cd++cd',x::t,fr,s)
 | none=>none
def hTr(P:Program)(G:Bc)(ops:Array Oper):List Oper->Nat->List Hn->List AV->AS->HT
 | [],_,hs,fr,s=>some (hs,[],[],fr,s)
 | o::l,q,hs,fr,s=>(match BZ o.op with
   | true=>yF [] (fr,s,Pm ops fr o q) (hTr P G ops l (q+1) hs (IY fr o.dst (Pm ops fr o q)) s)
   | false=>(match jN P G ops fr s o hs with
     | some (v,s1,RU,cd)=>yF cd (fr,s,v) (hTr P G ops l q RU (IY fr o.dst v) s1)
     | none=>none))
def aED(q0:Nat):Option AV->Bool
 | some (.el _)=>true
 | some (.ptr id _)=>Nat.blt id q0
 | _=>false
def aGH(q0:Nat):Option AV->Bool
 | some (.ptr id _)=>Nat.ble q0 id
 | _=>false
def slV:Option AV->Bool
 | some (.sl _ _ _)=>true
 | some (.sc (.string _))=>true
 | _=>false
def mpV(q0:Nat):Option AV->Bool
 | some (.mp id)=>Nat.blt id q0
 | _=>false
def indep(G:Bc)(q0:Nat)(fr:List AV)(o:Oper):Bool:=match o.op with
 | .load _ a=>aED q0 (A0 G fr a)
 | .lookup _ m _ _=>mpV q0 (A0 G fr m)
 | .store _ a _=>aGH q0 (A0 G fr a)
 | .call cl=>(match cl.callee with
   | .value _=>true
   | .builtin .append=>true
   | .builtin .len=>(match cl.args.toList with
     | [x]=>slV (A0 G fr x)
     | _=>false)
   | _=>quiet o.op)
 | .alloc _=>true
 | op=>quiet op
def L6(G:Bc)(ops:Array Oper)(q0:Nat):List Oper->List (List AV×AS×AV)->Bool
 | o::os,t::ts=>(match Cv ops t.1 o with
   | false=>L6 G ops q0 os ts
   | true=>(match indep G q0 t.1 o with
     | true=>L6 G ops q0 os ts
     | false=>false))
 | _,_=>true
def nX(q0:Nat)(s s':AS):Prop:=∀id,id < q0->s'.get id=s.get id
def IV{id Rl:Nat}{b:AM}(h:Rl≠id):∀(l:List (Nat×AM)),look Rl (Ry id b l)=look Rl l
 | []=>rfl
 | e::l=>by
   simp only[Ry];split;rename_i hb;have hb:=beq_true hb;simp only[look]
   have h1:Nat.beq id Rl=false:=by cases hq:Nat.beq id Rl with
     | true=>exact absurd (beq_true hq).symm h
     | false=>rfl
   rw[hb,h1];simp only[look,IV h l]
section
variable {P:Program} {G:Bc} {ops:Array Oper}
def anZ{q0:Nat}{fr:List AV}{s s1:AS}{o:Oper}{hs hs':List Hn}{v:AV}{cd:List Cd}(h:aT P G ops fr s o hs=some (v,s1,hs',cd))(hA:QO o.op=true->eS hs=false)(hi:Cv ops fr o=true->indep G q0 fr o=true)(hc:Rz P G cd)(ha:BZ o.op=false):nX q0 s s1:=by
 intro id hid;have hj:=Pw h hc;cases hq:quiet o.op with
 | true=>rw[(Kg hq hj).1]
 | false =>
   unfold aT at h;split at h;rename_i hw;have hi:=hi hw;unfold indep at hi;split at hi;rename_i t a ho;rw[ho] at hq;cases hq;rename_i t m k ok ho;rw[ho] at hq;cases hq;rename_i t a x ho;unfold yC at h;rw[ho] at h;simp only at h
   have h1:∃a' x',Bd G fr a=some a'/\Bd G fr x=some x'/\KT P s t a' x'=some s1:=by
     rcases VL h hc with ⟨a',x',h2,h3,h4,_⟩ | h2
     exact⟨a',x',h2,h3,h4⟩;have h1:=VK h2;rw[Nv] at h1;unfold Qz at h1;rw[ho] at h1;simp only at h1;split at h1;rename_i a' x' ha' TZ;obtain⟨s',Gm,he⟩:=map_some h1;injection he with he1 he2
     subst he2;exact⟨a',x',ha',TZ,Gm⟩;cases h1
   rw[Cs] at hi;obtain⟨a',x',ha',TZ,Gm⟩:=h1;rw[ha'] at hi;unfold aGH at hi;split at hi;rename_i Rl off PR;cases PR;unfold KT at Gm;split at Gm;rename_i i id2 aPE U2 aeX;cases aeX;split at Gm;split at Gm;cases Gm;have:=Nat.le_of_ble_eq_true hi;exact IV (by omega) _;cases Gm;cases Gm;cases Gm;cases hi;rename_i cl ho;split at hi;rename_i f IN;unfold yC at h;rw[ho] at h;simp only[IN] at h;unfold Yq at h;split at h;split at h;cases h;rfl;cases h;have:=hA (by rw[ho];simp[QO,IN]);simp[eS] at this;have:=hA (by rw[ho];simp[QO,IN]);simp[eS] at this;have:=hA (by rw[ho];simp[QO,IN]);simp[eS] at this;cases h;rename_i IN;unfold yC at h;rw[ho] at h;simp only[IN] at h;have no:=hA (by rw[ho];simp[QO,IN]);split at h;split at h;split at h;unfold aeE at h;split at h;simp[eS] at no;simp[eS] at no;cases h;rfl;cases h;rfl;split at h;cases h;rfl;split at h;split at h;cases h;rfl;cases h;cases h;cases h;cases h;cases h;cases h;cases h;rename_i IN;rw[ho] at hq;simp[quiet,IN] at hq;rw[ho] at hq;rw[ho,hq] at hi;cases hi;rename_i e ho;rw[ho] at ha;cases ha;rw[hq] at hi;cases hi;cases h;rfl
def nX.refl(q0:Nat)(s:AS):nX q0 s s:=λ_ _=>rfl
def nX.trans{q0:Nat}{a b c:AS}(h:nX q0 a b)(k:nX q0 b c):nX q0 a c:=λid hid=>(k id hid).trans (h id hid)
def ayM{q0:Nat}{l:List Oper}{q:Nat}{hs hs':List Hn}{fr fr':List AV}{s s':AS}{cd:List Cd}{t:List (List AV×AS×AV)}(h:hTr P G ops l q hs fr s=some (hs',cd,t,fr',s'))(hc:Rz P G cd)(hi:L6 G ops q0 l t=true) :
   SZ P G (XS P G) H0 ops q l fr s t fr' s'/\(∀x∈t,nX q0 s x.2.1)/\nX q0 s s':=by
 induction l generalizing q hs fr s cd t with
 | nil=>simp only[hTr] at h;cases h;exact⟨.nil,(λx hx=>by cases hx),nX.refl _ _⟩
 | cons o l ih =>
   simp only[hTr] at h;cases ha:BZ o.op with
   | true =>
     rw[ha] at h;simp only at h;unfold yF at h;split at h;rename_i ZI xO t2 fr2 s2 h2;cases h
     have U2:L6 G ops q0 l t2=true:=by
       simp only[L6] at hi;split at hi;exact hi;split at hi;exact hi;cases hi
     obtain⟨k1,k2,k3⟩:=ih h2 (hc.UE).2 U2;refine⟨.alloc ha k1,λx hx=>?_,k3⟩;rcases List.mem_cons.1 hx with rfl | hx
     exact nX.refl _ _;exact k2 x hx;cases h
   | false =>
     rw[ha] at h;simp only at h;split at h;rename_i v s1 RU cd1 h1;unfold yF at h;split at h;rename_i ZI xO t2 fr2 s2 h2;cases h;obtain⟨c1,c2⟩:=hc.UE
     have hi1:Cv ops fr o=true->indep G q0 fr o=true:=by
       intro hw;simp only[L6,hw] at hi;split at hi;assumption;cases hi
     have U2:L6 G ops q0 l t2=true:=by
       simp only[L6] at hi;split at hi;exact hi;split at hi;exact hi;cases hi
     have hf:=anZ (SK h1).1 (Yr h1).2 hi1 c1 ha;obtain⟨k1,k2,k3⟩:=ih h2 c2 U2;refine⟨.cons ha (Pw (SK h1).1 c1) k1,λx hx=>?_,hf.trans k3⟩;rcases List.mem_cons.1 hx with rfl | hx
     exact nX.refl _ _;exact hf.trans (k2 x hx);cases h;cases h
def yP{q0:Nat}{os:List Oper}{ts:List (List AV×AS×AV)}(h:L6 G ops q0 os ts=true){i:Nat}{o:Oper}{x:List AV×AS×AV}(ho:os[i]?=some o)(hx:ts[i]?=some x)(hw:Cv ops x.1 o=true):indep G q0 x.1 o=true:=by
 induction os generalizing ts i with
 | nil=>simp at ho
 | cons y os ih =>
   cases ts with
   | nil=>simp at hx
   | cons t ts =>
     simp only[L6] at h;cases i with
     | zero =>
       simp at ho hx;subst ho hx;rw[hw] at h;simp only at h;split at h;assumption;cases h
     | succ i =>
       have h2:L6 G ops q0 os ts=true:=by
         split at h;exact h;split at h;exact h;cases h
       exact ih h2 (by simpa using ho) (by simpa using hx)
def adR{q0:Nat}{fr:List AV}{s0 s s2:AS}{o:Oper}{v:AV}(hq:quiet o.op=true)(hr:reads o.op=true)(hi:indep G q0 fr o=true)(h1:nX q0 s0 s)(h2:nX q0 s0 s2)(h:Qz P G fr s o=some (.val v s)):Qz P G fr s2 o=some (.val v s2):=by
 unfold indep at hi;split at hi;rename_i t a ho;rw[Cs] at hi;unfold Qz at h ⊢;rw[ho] at h ⊢;simp only at h ⊢;obtain⟨v',h3,h4⟩:=map_some h;injection h4 with h4
 subst h4;obtain⟨b,h5,h6⟩:=bind_some h3;rw[h5] at hi ⊢;unfold aED at hi;split at hi;rename_i PR;cases PR;simp only[Option.bind_some];rw[show JP P s2 t (.el _)=JP P s t (.el _) from rfl,h6];rfl;rename_i id off PR;cases PR;have hid:id < q0:=Nat.le_of_ble_eq_true hi
 have:JP P s2 t (.ptr id off)=JP P s t (.ptr id off):=by
   simp only[JP];rw[h2 id hid,h1 id hid]
 simp only[Option.bind_some];rw[this,h6];rfl;cases hi
 · rename_i t m k ok ho
   rw[Cs] at hi;unfold Qz at h ⊢;rw[ho] at h ⊢;simp only at h ⊢;unfold mpV at hi;split at hi
   · rename_i id PR
     have hid:id < q0:=Nat.le_of_ble_eq_true hi;rw[PR] at h ⊢;cases hk:Bd G fr k with
     | none=>rw[hk] at h;cases h
     | some b =>
       rw[hk] at h;simp only at h ⊢;obtain⟨v',h3,h4⟩:=map_some h;injection h4 with h4
       subst h4
       have:Jr P s2 t (.mp id) b ok=Jr P s t (.mp id) b ok:=by
         unfold Jr;simp only;rw[h2 id hid,h1 id hid]
       rw[this,h3];rfl
   cases hi
 rename_i t a x ho;rw[ho] at hq;cases hq
 · rename_i cl ho
   split at hi;rename_i f IN;rw[ho] at hq;simp[quiet,IN] at hq;rename_i IN;rw[ho] at hq;simp[quiet,IN] at hq
   · rename_i IN
     unfold Qz at h ⊢;rw[ho] at h ⊢;simp only[Tj,IN] at h ⊢;split at hi
     · rename_i x hx
       rw[hx] at h ⊢;cases ht:cl.argTypes.toList with
       | nil=>rw[ht] at h;cases h
       | cons t1 ts =>
         cases ts with
         | cons _ _=>rw[ht] at h;cases h
         | nil =>
           rw[ht] at h;simp only at h ⊢;obtain⟨v',h3,h4⟩:=map_some h;injection h4 with h4
           subst h4;obtain⟨b,h5,h6⟩:=bind_some h3;rw[Cs,h5] at hi;rw[h5];simp only[Option.bind_some]
           have:WS P s2 t1 b=WS P s t1 b:=by
             unfold slV at hi;split at hi
             · rename_i PR;cases PR;unfold WS;split<;>first | rfl | (simp_all;done)
             · rename_i PR;cases PR;unfold WS;split<;>first | rfl | (simp_all;done)
             cases hi
           rw[this,h6];rfl
     cases hi
   · rename_i hn1 hn2
     rw[ho] at hr;unfold reads at hr;simp only at hr
     first
       | (cases hr;done)
       | (split at hr
          rename_i IN;exact absurd IN hn2;cases hr)
 rename_i e ho;rw[ho] at hq;cases hq;rename_i hn1 hn2 hn3 hn4 hn5;exfalso;unfold reads at hr;split at hr;rename_i ho;exact hn1 _ _ ho;rename_i ho;exact hn2 _ _ _ _ ho;rename_i ho;exact hn4 _ ho;cases hr
def adD{id:Nat}{fr fr':List AV}{s s':AS}{r:List AM}{t:List (List AV×AS×AV)}{hs hs':List Hn}{cd:List Cd}(Ia:MB ops=true)(hr:rsv P ops.toList=some r)(h:hTr P G ops ops.toList s.nx hs fr (s.hold r)=some (hs',cd,t,fr',s'))(hc:Rz P G cd)(hi:L6 G ops s.nx ops.toList t=true)(afH:XD P ops t s' s.nx r=true):J P G (XS P G) H0 (.code (.region id ops true) fr s .normal fr' s'):=by
 obtain⟨yM,aNA,aFB⟩:=ayM h hc hi;have hlen:t.length=ops.size:=by rw[yM.len,Array.length_toList]
 have hfk:∀k,nX s.nx (s.hold r) (FZ t s' k):=by
   intro k;unfold FZ;split;rename_i x hx;exact aNA x (List.mem_of_getElem? hx);exact aFB
 obtain⟨h0,TX⟩:=yM.at;have pJ:∀i o,ops[i]?=some o->Cm ops i=o.dst:=λi o ho=>by unfold Cm;rw[ho];rfl
 obtain⟨VN,Yx⟩:=yM.dU (Cm ops) (KH t) fr 0 rfl (λi o ho=>by rw[Nat.zero_add];exact pJ i o (by rw[<- Array.getElem?_toList];exact ho)) (λi=>.inl (by rw[Nat.zero_add]));rw[Nat.zero_add,Array.length_toList] at VN
 have Hg:∀(i:Nat) (o:Oper),ops[i]?=some o->BZ o.op=false->J P G (XS P G) H0 (.op ops o (IP fr (Cm ops) (KH t) (λ_=>true) i) (FZ t s' i) (.ret (KH t i)) (FZ t s' (i+1))):=by
   intro i o ho nR;obtain⟨fi,h1,h2⟩:=TX i o (Ci ho);have:=Yx i _ h1;simp only[Nat.zero_add] at this;rcases h2 with ⟨_,h2⟩ | ⟨h2,_⟩
   rw[<- this];exact h2;rw[nR] at h2;cases h2
 have aEU:∀(i:Nat) (o:Oper),ops[i]?=some o->BZ o.op=true->FZ t s' (i+1)=FZ t s' i/\KH t i=Pm ops (IP fr (Cm ops) (KH t) (λ_=>true) i) o (s.nx+rk ops i):=by
   intro i o ho eQ;obtain⟨fi,h1,h2⟩:=TX i o (Ci ho);have:=Yx i _ h1;simp only[Nat.zero_add] at this;rcases h2 with ⟨h2,_⟩ | ⟨_,h2⟩
   rw[eQ] at h2;cases h2;rw[<- this];exact h2
 have nR:∀o:Oper,quiet o.op=true->BZ o.op=false:=by
   intro o hq;cases eQ:BZ o.op with
   | false=>rfl
   | true=>obtain⟨e,he⟩:=KV eQ;rw[Rh he] at hq;cases hq
 have hnl:∀o:Oper,calm o.op=false->BZ o.op=false:=by
   intro o hq;cases eQ:BZ o.op with
   | false=>rfl
   | true=>unfold calm at hq;rw[eQ] at hq;cases hq
 have hsn:FZ t s' ops.size=s':=by
   unfold FZ;rw[List.getElem?_eq_none (by omega)]
 have hsk:∀k,k<=ops.size->(t.map (λx=>x.2.1)++[s'])[k]?=some (FZ t s' k):=by
   intro k hk;unfold FZ;by_cases hkt:k < t.length;rw[List.getElem?_append_left (by simpa using hkt),List.getElem?_map,List.getElem?_eq_getElem hkt];rfl
   have:k=t.length:=by omega
   subst this;rw[List.getElem?_append_right (by simp)];simp
 have tR:∀l,l∈Ny ops.toList 0->YR ops l:=by
   intro l hl;obtain⟨j,o',e,h5,h6⟩:=eZ hl;rw[Nat.zero_add] at e;subst e;exact⟨o',by rw[<- Array.getElem?_toList];exact h5,h6⟩
 have key:=J.draw (P:=P) (G:=G) (X:=XS P G) (H:=H0) (id:=id) (f0:=fr) (s0:=s) r (KH t) (FZ t s') h0 Ia (λi o ho hl=>Hg i o ho (hnl o hl)) (λi o ho hq=>by
   obtain⟨h1,h2⟩:=Kg hq (Hg i o ho (nR o hq));refine⟨h1,?_⟩;rcases h2 with h2 | ⟨hw,h2⟩
   exact .inl h2
   · refine .inr ⟨hw,λk hk ZV=>?_⟩
     cases hrd:reads o.op with
     | false=>exact Ui hq hrd h2 _
     | true =>
       obtain⟨fi,hti,_⟩:=TX i o (Ci ho);have hfi:=Yx i _ hti;simp only[Nat.zero_add] at hfi;have hin:=yP hi (Ci ho) hti (by rw[hfi];exact hw);rw[hfi] at hin;exact adR hq hrd hin (hfk i) (hfk k) h2) (λi o e ho he=>by
   have eQ:BZ o.op=true:=by rw[he];rfl
   obtain⟨h1,h2⟩:=aEU i o ho eQ;refine⟨h1,?_⟩
   have hrk:rk ops i < r.length:=by
     rw[arI hr];exact rE (Ci ho) eQ (by rw[Array.length_toList];exact(Array.getElem?_eq_some_iff.1 ho).1)
   cases hw:Cv ops (IP fr (Cm ops) (KH t) (λ_=>true) i) o with
   | false=>unfold Pm at h2;rw[hw] at h2;exact .inl ⟨rfl,h2⟩
   | true =>
     unfold Pm at h2;rw[hw] at h2;obtain⟨fi,hti,_⟩:=TX i o (Ci ho);have hfi:=Yx i _ hti;simp only[Nat.zero_add] at hfi
     have hal:TO P ops (Ix ops.toList []) (Ny ops.toList 0) (t.map (·.2.1)++[s']) ops.toList t 0 s.nx=true:=by
       unfold XD at afH;split at afH;simp at hrk;exact afH
     obtain⟨z,hz,hbx⟩:=wZ hal (Ci ho) hti he (by rw[hfi];exact hw);rw[Nat.zero_add] at hbx;exact .inr ⟨rfl,z,hz,hrk,h2,λk hk ZV=>xL hbx (hsk k hk) (by rw[Nat.zero_add];exact auB tR ZV)⟩)
 rw[<- VN,hsn] at key;exact key
end
end AI
namespace AI
open Go Go.RowKit
def yG(P:Program)(G:Bc)(ops:Array Oper)(c:Nat):List Oper->Nat->List Hn->List AV->AS->HT
 | [],_,hs,fr,s=>some (hs,[],[],fr,s)
 | o::l,i,hs,fr,s=>(match (match Nat.beq i c with
     | true=>aT P G ops fr s o hs
     | false=>jN P G ops fr s o hs) with
   | some (v,s1,RU,cd)=>yF cd (fr,s,v) (yG P G ops c l (i+1) RU (IY fr o.dst v) s1)
   | none=>none)
def U9(ms:List Nat)(c:Nat):List Oper->Nat->Bool
 | [],_=>true
 | o::l,i=>(match Nat.beq i c with
   | true=>!calm o.op
   | false=>(match Od o.op with
     | true=>Nat.blt i c
     | false=>quiet o.op&&(!reads o.op||(Nat.blt i c&&SH ms c i))))&&U9 ms c l (i+1)
section
variable {P:Program} {G:Bc} {ops:Array Oper}
def YI{ms:List Nat}{c:Nat}:∀{l:List Oper} {i j:Nat} {o:Oper},U9 ms c l i=true->l[j]?=some o->(i+j=c->calm o.op=false)/\(i+j≠c->(Od o.op=true/\i+j < c)\/(quiet o.op=true/\(reads o.op=true->i+j < c/\SH ms c (i+j)=true))):=by
 intro l
 induction l with
 | nil=>intro i j o h ho;simp at ho
 | cons x l ih =>
   intro i j o h ho;simp only[U9,Bool.and_eq_true] at h;cases j with
   | zero =>
     simp at ho;subst ho;have h1:=h.1;split at h1;rename_i hb;have:=Nat.eq_of_beq_eq_true hb;exact⟨λ_=>by simpa using h1,λhn=>absurd this hn⟩
     rename_i hb;have:=Nat.ne_of_beq_eq_false hb;refine⟨λhn=>absurd hn this,λ_=>?_⟩;split at h1;rename_i hv;exact .inl ⟨hv,Nat.le_of_ble_eq_true h1⟩;simp only[Bool.and_eq_true,Bool.or_eq_true,Bool.not_eq_true'] at h1;refine .inr ⟨h1.1,λhr=>?_⟩;rcases h1.2 with h2 | h2
     rw[hr] at h2;cases h2;exact⟨Nat.le_of_ble_eq_true h2.1,h2.2⟩
   | succ j =>
     have:=ih (i:=i+1) (j:=j) h.2 (by simpa using ho)
     rw[show i+(j+1)=i+1+j by omega];exact this
def Wz{ms:List Nat}{c:Nat}{l:List Oper}{i j:Nat}{o:Oper}(hl:U9 ms c l i=true)(hj:l[j]?=some o):BZ o.op=false:=by
 have ho:=YI hl hj;cases ha:BZ o.op with
 | false=>rfl
 | true =>
   obtain⟨e,he⟩:=KV ha;by_cases hic:i+j=c;have:=ho.1 hic;unfold calm at this;rw[ha] at this;simp at this;rcases ho.2 hic with ⟨h1,_⟩ | ⟨h1,_⟩
   rw[he] at h1;cases h1;rw[Rh he] at h1;cases h1
def aoA{fr:List AV}{s s1:AS}{o:Oper}{hs hs':List Hn}{v:AV}{cd:List Cd}(h:aT P G ops fr s o hs=some (v,s1,hs',cd))(hv:Od o.op=true)(hA:eS hs=false):s1=s:=by
 unfold aT at h;split at h;unfold Od at hv;split at hv;rename_i cl ho;split at hv;rename_i f IN;unfold yC at h;rw[ho] at h;simp only[IN] at h;unfold Yq at h;split at h;split at h;cases h;rfl;cases h;simp[eS] at hA;simp[eS] at hA;simp[eS] at hA;cases h;cases hv;cases hv;cases h;rfl
def aoG{c q:Nat}{ms:List Nat}:∀{l:List Oper} {i:Nat} {hs hs':List Hn} {fr fr':List AV} {s s':AS} {cd:List Cd} {t:List (List AV×AS×AV)},yG P G ops c l i hs fr s=some (hs',cd,t,fr',s')->Rz P G cd->U9 ms c l i=true->SZ P G (XS P G) H0 ops q l fr s t fr' s'/\∀j,j<=l.length->i+j<=c->FZ t s' j=s:=by
 intro l
 induction l with
 | nil =>
   intro i hs hs' fr fr' s s' cd t h hc hl;simp only[yG] at h;cases h;exact⟨.nil,λj hj _=>by rfl⟩
 | cons o l ih =>
   intro i hs hs' fr fr' s s' cd t h hc hl;simp only[yG] at h;split at h
   · rename_i v s1 RU cd1 h1
     unfold yF at h;split at h
     · rename_i ZI xO t2 fr2 s2 h2
       cases h;obtain⟨c1,c2⟩:=hc.UE;have ho:=YI (j:=0) hl rfl;have nR:BZ o.op=false:=Wz (j:=0) hl rfl
       have hl2:U9 ms c l (i+1)=true:=by
         simp only[U9,Bool.and_eq_true] at hl;exact hl.2
       have h3:aT P G ops fr s o hs=some (v,s1,RU,cd1):=by
         split at h1;exact h1;exact(SK h1).1
       have hj:=Pw h3 c1;obtain⟨k1,k2⟩:=ih h2 c2 hl2;refine⟨.cons nR hj k1,λj hjl hjc=>?_⟩;cases j with
       | zero=>rfl
       | succ j =>
         have e1:FZ ((fr,s,v)::t2) s' (j+1)=FZ t2 s' j:=by unfold FZ;simp
         rw[e1,k2 j (by simpa using hjl) (by omega)]
         have hic:i+0≠c:=by omega
         rcases ho.2 hic with ⟨hv,_⟩ | ⟨hq,_⟩
         split at h1;rename_i hb;have:=Nat.eq_of_beq_eq_true hb;omega;exact aoA h3 hv ((SK h1).2 hv);exact(Kg hq hj).1
     cases h
   cases h
def xU{id c:Nat}{fr fr':List AV}{s s':AS}{t:List (List AV×AS×AV)}{hs hs':List Hn}{cd:List Cd}(Ia:MB ops=true)(U1:Nat.blt c ops.size=true)(hl:U9 (Ix ops.toList []) c ops.toList 0=true)(h:yG P G ops c ops.toList 0 hs fr s=some (hs',cd,t,fr',s'))(hc:Rz P G cd):J P G (XS P G) H0 (.code (.region id ops true) fr s .normal fr' s'):=by
 have IN:c < ops.size:=Nat.le_of_ble_eq_true U1;obtain⟨yM,hsm⟩:=aoG (q:=s.nx) h hc hl;have hlen:t.length=ops.size:=by rw[yM.len,Array.length_toList]
 obtain⟨h0,TX⟩:=yM.at;have pJ:∀i o,ops[i]?=some o->Cm ops i=o.dst:=λi o ho=>by unfold Cm;rw[ho];rfl
 obtain⟨VN,Yx⟩:=yM.dU (Cm ops) (KH t) fr 0 rfl (λi o ho=>by rw[Nat.zero_add];exact pJ i o (by rw[<- Array.getElem?_toList];exact ho)) (λi=>.inl (by rw[Nat.zero_add]));rw[Nat.zero_add,Array.length_toList] at VN
 have avC:∀(i:Nat) (o:Oper),ops[i]?=some o->(i=c->calm o.op=false)/\(i≠c->(Od o.op=true/\i < c)\/(quiet o.op=true/\(reads o.op=true->i < c/\SH (Ix ops.toList []) c i=true))):=by
   intro i o ho;have:=YI (j:=i) hl (Ci ho);rwa[Nat.zero_add] at this
 have afC:∀(i:Nat) (o:Oper),ops[i]?=some o->BZ o.op=false:=λi o ho=>Wz (j:=i) hl (Ci ho)
 have Hg:∀(i:Nat) (o:Oper),ops[i]?=some o->J P G (XS P G) H0 (.op ops o (IP fr (Cm ops) (KH t) (λ_=>true) i) (FZ t s' i) (.ret (KH t i)) (FZ t s' (i+1))):=by
   intro i o ho;obtain⟨fi,h1,h2⟩:=TX i o (Ci ho);have:=Yx i _ h1;simp only[Nat.zero_add] at this;rcases h2 with ⟨_,h2⟩ | ⟨h2,_⟩
   rw[<- this];exact h2;rw[afC i o ho] at h2;cases h2
 have hsn:FZ t s' ops.size=s':=by
   unfold FZ;rw[List.getElem?_eq_none (by omega)]
 have jW:∀k,k<=c->FZ t s' k=s:=λk hk=>hsm k (by rw[Array.length_toList];omega) (by omega)
 have tR:YR ops c:=by
   have ho:ops[c]?=some ops[c]:=Array.getElem?_eq_getElem IN;exact⟨_,ho,(avC c _ ho).1 rfl⟩
 have key:=J.draw (P:=P) (G:=G) (X:=XS P G) (H:=H0) (id:=id) (f0:=fr) (s0:=s) [] (KH t) (FZ t s') h0 Ia (λi o ho _=>Hg i o ho) (λi o ho hq=>by
   obtain⟨h1,h2⟩:=Kg hq (Hg i o ho);refine⟨h1,?_⟩;rcases h2 with h2 | ⟨hw,h2⟩
   exact .inl h2
   · refine .inr ⟨hw,λk hk ZV=>?_⟩
     cases hrd:reads o.op with
     | false=>exact Ui hq hrd h2 _
     | true =>
       have hic:i≠c:=λe=>by
         subst e;obtain⟨o2,ho2,hcm⟩:=tR;rw[ho] at ho2;cases ho2;rw[X8 hq] at hcm;cases hcm
       obtain⟨hlt,hd⟩:i < c/\SH (Ix ops.toList []) c i=true:=by
         rcases(avC i o ho).2 hic with ⟨hv,_⟩ | ⟨_,h3⟩
         exfalso;unfold Od at hv;split at hv;rename_i cl jV;split at hv;rename_i f aMT;rw[jV] at hq;simp[quiet,aMT] at hq;cases hv;cases hv;exact h3 hrd
       have hkc:=ZV.2 c tR hd;rw[jW k hkc];rw[jW i (by omega)] at h2;exact h2) (λi o e ho he=>by
   have:=afC i o ho;rw[he] at this;cases this)
 rw[<- VN,hsn] at key;exact key
end
end AI
namespace AI
open Go Go.RowKit
def akC(G:Bc)(fr:List AV)(o:Oper)(hs:List Hn):Option (List Nat):=match o.op with
 | .store _ a _=>(match Bd G fr a with
   | some (.ptr id _)=>some [id]
   | _=>none)
 | .mapUpdate _ m _ _=>(match A0 G fr m with
   | some (.mp id)=>some [id]
   | _=>none)
 | .call cl=>(match cl.callee with
   | .value _=>(match hs with
     | .w _::_=>some []
     | .u _ _ _ Ra _::_=>some (Ra.map (·.1))
     | .cn _ h _ _ _::_=>some (h.map (·.1))
     | _=>none)
   | .builtin .append=>(match hs with
     | .g _ _ _::_=>some []
     | .ae _::_=>some []
     | _=>none)
   | _=>(match quiet o.op with
     | true=>some []
     | false=>none))
 | op=>(match quiet op with
   | true=>some []
   | false=>none)
def Zp(G:Bc)(ops:Array Oper)(fr:List AV)(o:Oper)(hs:List Hn):Option (List Nat):=match Cv ops fr o with
 | true=>akC G fr o hs
 | false=>some []
abbrev HA:=Option (List Hn×List Cd×List (List AV×AS×AV)×List (List Nat)×List AV×AS)
def auZ(cd:List Cd)(x:List AV×AS×AV)(T:List Nat):HA->HA
 | some (hs,cd',t,Ts,fr,s)=>some (hs,cd++cd',x::t,T::Ts,fr,s)
 | none=>none
def yE(P:Program)(G:Bc)(ops:Array Oper):List Oper->List Hn->List AV->AS->HA
 | [],hs,fr,s=>some (hs,[],[],[],fr,s)
 | o::l,hs,fr,s=>(match BZ o.op with
   | true=>none
   | false=>(match Zp G ops fr o hs with
     | some T=>(match aT P G ops fr s o hs with
       | some (v,s1,RU,cd)=>auZ cd (fr,s,v) T (yE P G ops l RU (IY fr o.dst v) s1)
       | none=>none)
     | none=>none))
def aqM(G:Bc)(fr:List AV)(o:Oper):Option (Option Nat):=match o.op with
 | .load _ a=>(match A0 G fr a with
   | some (.ptr id _)=>some (some id)
   | some (.el _)=>some none
   | _=>none)
 | .lookup _ m _ _=>(match A0 G fr m with
   | some (.mp id)=>some (some id)
   | _=>none)
 | .call cl=>(match cl.callee with
   | .builtin .len=>(match cl.args.toList with
     | [x]=>(match slV (A0 G fr x) with
       | true=>some none
       | false=>none)
     | _=>none)
   | _=>none)
 | _=>none
def agN(a:Nat):List Nat->Bool
 | []=>false
 | b::l=>(match Nat.beq a b with
   | true=>true
   | false=>agN a l)
def Vn(ms:List Nat)(id i:Nat):List (List Nat)->Nat->Bool
 | [],_=>true
 | T::Ts,l=>(match agN id T with
   | true=>(match Nat.blt l i with
     | true=>SH ms i l
     | false=>(match Nat.blt i l with
       | true=>SH ms l i
       | false=>true))
   | false=>true)&&Vn ms id i Ts (l+1)
def lK(G:Bc)(ops:Array Oper)(ms:List Nat)(Ts:List (List Nat)):List Oper->List (List AV×AS×AV)->Nat->Bool
 | o::os,t::ts,i=>(match Cv ops t.1 o with
   | false=>true
   | true=>(match reads o.op with
     | false=>true
     | true=>(match aqM G t.1 o with
       | none=>false
       | some none=>true
       | some (some id)=>Vn ms id i Ts 0)))&&lK G ops ms Ts os ts (i+1)
 | _,_,_=>true
def kK{a:Nat}:∀{l:List Nat},agN a l=true↔a∈l
 | []=>by simp[agN]
 | b::l=>by
   simp only[agN];cases hb:Nat.beq a b with
   | true=>have:=Nat.eq_of_beq_eq_true hb;simp[this]
   | false =>
     have:=Nat.ne_of_beq_eq_false hb;simp[kK (l:=l),this]
def mM{id:Nat}:∀(l:List (Nat×AM)) (s:AS),id∉l.map (·.1)->(s.Wc l).get id=s.get id
 | [],_,_=>rfl
 | e::l,s,h=>by
   simp only[List.map_cons,List.mem_cons,not_or] at h;rw[AS.Wc,mM l _ h.2];exact IV h.1 _
def kH{id:Nat}:∀{l:List (Nat×AM)} (m:List (Nat×AM)),id∉l.map (·.1)->look id (l++m)=look id m
 | [],_,_=>rfl
 | e::l,m,h=>by
   simp only[List.map_cons,List.mem_cons,not_or] at h;simp only[List.cons_append,look]
   have hb:Nat.beq e.1 id=false:=by
     cases hq:Nat.beq e.1 id with
     | false=>rfl
     | true=>exact absurd (Nat.eq_of_beq_eq_true hq).symm h.1
   rw[hb];exact kH m h.2
def aQ{id:Nat}:∀(l:List (Nat×Nat)) (s:AS),(s.Tw l).get id=s.get id
 | [],_=>rfl
 | e::l,s=>by rw[AS.Tw,aQ l];rfl
section
variable {P:Program} {G:Bc} {ops:Array Oper}
def yD{fr:List AV}{s s1:AS}{o:Oper}{hs hs':List Hn}{v:AV}{cd:List Cd}{T:List Nat}(h:aT P G ops fr s o hs=some (v,s1,hs',cd))(hT:Zp G ops fr o hs=some T)(hc:Rz P G cd)(ha:BZ o.op=false)(id:Nat)(hid:id∉T):s1.get id=s.get id:=by
 have hj:=Pw h hc;cases hq:quiet o.op with
 | true=>rw[(Kg hq hj).1]
 | false =>
   unfold aT at h;unfold Zp at hT;split at h
   · rename_i hw
     rw[hw] at hT;simp only at hT;unfold akC at hT;split at hT;rename_i t a x ho;unfold yC at h;rw[ho] at h;simp only at h
     have h1:∃a' x',Bd G fr a=some a'/\Bd G fr x=some x'/\KT P s t a' x'=some s1:=by
       rcases VL h hc with ⟨a',x',h2,h3,h4,_⟩ | h2
       exact⟨a',x',h2,h3,h4⟩;have h1:=VK h2;rw[Nv] at h1;unfold Qz at h1;rw[ho] at h1;simp only at h1;split at h1;rename_i a' x' ha' TZ;obtain⟨s',Gm,he⟩:=map_some h1;injection he with he1 he2
       subst he2;exact⟨a',x',ha',TZ,Gm⟩;cases h1
     obtain⟨a',x',ha',TZ,Gm⟩:=h1;rw[ha'] at hT;split at hT;rename_i Rl off PR;cases PR;cases hT;simp only[List.mem_singleton] at hid;unfold KT at Gm;split at Gm;rename_i i id2 aPE U2 aeX;cases aeX;split at Gm;split at Gm;cases Gm;exact IV hid _;cases Gm;cases Gm;cases Gm;cases hT
     · rename_i t m k x ho
       unfold yC at h;rw[ho] at h;simp only at h;split at hT
       · rename_i Rl PR
         rw[PR] at h;cases hT;simp only[List.mem_singleton] at hid;simp only at h;split at h
         · split at h
           · have arS:∀kk x' s2,KM P s t (.mp Rl) kk x'=some s2->s2.get id=s.get id:=by
               intro kk x' s2 h2;unfold KM at h2
               repeat' split at h2
               all_goals first
                 | (cases h2;done)
                 | (rename_i aeX;cases aeX;cases h2;exact IV hid _)
                 | (simp_all only [AV.mp.injEq,Option.some.injEq];subst_vars;exact IV hid _)
             unfold ayK at h;split at h;cases h;exact arS _ _ _ hc.1;cases h;exact IV hid _;cases h
           cases h
         cases h
       cases hT
     rename_i cl ho;split at hT;rename_i f IN;unfold yC at h;rw[ho] at h;simp only[IN] at h;unfold Yq at h;split at h;split at h;cases h;rfl;cases h;cases hT;split at h;cases h;cases hT;rw[aQ];exact mM _ _ hid;cases h;split at h;cases h;cases hT;exact kH _ hid;cases h;cases h;rename_i IN;unfold yC at h;rw[ho] at h;simp only[IN] at h;split at hT;split at h;split at h;split at h;unfold aeE at h;simp only at h;split at h;cases h;rfl;split at h;split at h;cases h;rfl;cases h;cases h;cases h;cases h;cases h;cases h;split at h;split at h;split at h;unfold aeE at h;simp only at h;cases h;rfl;cases h;cases h;cases h;cases hT;rw[hq] at hT;cases hT;rw[hq] at hT;cases hT
   cases h;rfl
def rY{fr:List AV}{o:Oper}{hs:List Hn}{T:List Nat}(hT:Zp G ops fr o hs=some T){id:Nat}(h:id∈T)(ha:BZ o.op=false):calm o.op=false:=by
 unfold calm;rw[ha];simp only;cases hq:quiet o.op with
 | false=>rfl
 | true =>
   exfalso;unfold Zp at hT;split at hT;unfold akC at hT;split at hT;rename_i ho;rw[ho] at hq;cases hq;rename_i ho;rw[ho] at hq;cases hq;rename_i cl ho;split at hT;rename_i IN;rw[ho] at hq;simp[quiet,IN] at hq;split at hT;cases hT;cases h;cases hT;cases h;cases hT;rw[hq] at hT;cases hT;cases h;rw[hq] at hT;cases hT;cases h;cases hT;cases h
def aoF{q:Nat}:∀{l:List Oper} {hs hs':List Hn} {fr fr':List AV} {s s':AS} {cd:List Cd} {t:List (List AV×AS×AV)} {Ts:List (List Nat)},yE P G ops l hs fr s=some (hs',cd,t,Ts,fr',s')->Rz P G cd ->
   SZ P G (XS P G) H0 ops q l fr s t fr' s'/\(∀o∈l,BZ o.op=false)/\(∀(i:Nat) id,i < l.length->(∀T,Ts[i]?=some T->id∉T)->(FZ t s' (i+1)).get id=(FZ t s' i).get id)/\∀(i:Nat) o T id,l[i]?=some o->Ts[i]?=some T->id∈T->calm o.op=false:=by
 intro l
 induction l with
 | nil =>
   intro hs hs' fr fr' s s' cd t Ts h hc;simp only[yE] at h;cases h;exact⟨.nil,(λo h=>by cases h),(λi id h=>by simp at h),λi o T id h=>by simp at h⟩
 | cons o l ih =>
   intro hs hs' fr fr' s s' cd t Ts h hc;simp only[yE] at h;split at h;cases h
   · rename_i ha
     split at h
     · rename_i T hT
       split at h
       · rename_i v s1 RU cd1 h1
         unfold auZ at h;split at h
         · rename_i ZI xO t2 Ts2 fr2 s2 h2
           cases h;obtain⟨c1,c2⟩:=hc.UE;obtain⟨k1,k2,k3,k4⟩:=ih h2 c2;refine⟨.cons ha (Pw h1 c1) k1,λo' Wu=>?_,λi id hi hno=>?_,λi o' T' id Wu hT' hid=>?_⟩;rcases List.mem_cons.1 Wu with rfl | Wu
           exact ha;exact k2 o' Wu
           · cases i with
             | zero =>
               have e1:FZ ((fr,s,v)::t2) s' 0=s:=rfl
               have e2:FZ ((fr,s,v)::t2) s' (0+1)=s1:=by
                 rw[show FZ ((fr,s,v)::t2) s' (0+1)=FZ t2 s' 0 by unfold FZ;simp];exact k1.at.1
               rw[e1,e2];exact yD h1 hT c1 ha id (hno T rfl)
             | succ i =>
               have e:∀j,FZ ((fr,s,v)::t2) s' (j+1)=FZ t2 s' j:=λj=>by unfold FZ;simp
               rw[e,e];exact k3 i id (by simpa using hi) (λT' h'=>hno T' (by simpa using h'))
           cases i with
           | zero=>simp at Wu hT';subst Wu hT';exact rY hT hid ha
           | succ i=>exact k4 i o' T' id (by simpa using Wu) (by simpa using hT') hid
         cases h
       cases h
     cases h
def Zo{ms:List Nat}{id i:Nat}:∀{Ts:List (List Nat)} {l0:Nat},Vn ms id i Ts l0=true->∀{l:Nat} {T:List Nat},Ts[l]?=some T->id∈T->(l0+l < i->SH ms i (l0+l)=true)/\(i < l0+l->SH ms (l0+l) i=true):=by
 intro Ts
 induction Ts with
 | nil=>intro l0 _ l T h;simp at h
 | cons T0 Ts ih =>
   intro l0 h l T hT hid;simp only[Vn,Bool.and_eq_true] at h;cases l with
   | zero =>
     simp at hT;subst hT;have h1:=h.1;rw[kK.2 hid] at h1;simp only at h1;constructor;intro hlt;have e:Nat.blt l0 i=true:=Nat.ble_eq_true_of_le hlt;rw[e] at h1;exact h1;intro hlt
     have e:Nat.blt l0 i=false:=by
       cases hq:Nat.blt l0 i with
       | false=>rfl
       | true=>have:=Nat.le_of_ble_eq_true hq;omega
     have e2:Nat.blt i l0=true:=Nat.ble_eq_true_of_le hlt;rw[e,e2] at h1;exact h1
   | succ l =>
     have:=ih h.2 (l:=l) (by simpa using hT) hid
     rw[show l0+(l+1)=l0+1+l by omega];exact this
def ahS{ms:List Nat}{Ts:List (List Nat)}:∀{os:List Oper} {ts:List (List AV×AS×AV)} {i:Nat},lK G ops ms Ts os ts i=true->∀{j:Nat} {o:Oper} {x:List AV×AS×AV},os[j]?=some o->ts[j]?=some x->Cv ops x.1 o=true->reads o.op=true->∃r,aqM G x.1 o=some r/\∀id,r=some id->Vn ms id (i+j) Ts 0=true:=by
 intro os
 induction os with
 | nil=>intro ts i _ j o x h;simp at h
 | cons y os ih =>
   intro ts i h j o x ho hx hw hr;cases ts with
   | nil=>simp at hx
   | cons t ts =>
     simp only[lK,Bool.and_eq_true] at h;cases j with
     | zero =>
       simp at ho hx;subst ho hx;have h1:=h.1;rw[hw,hr] at h1;simp only at h1;split at h1;cases h1;rename_i hq;exact⟨none,hq,λid h=>by cases h⟩;rename_i id hq;exact⟨some id,hq,λRl h=>by cases h;exact h1⟩
     | succ j =>
       have:=ih h.2 (j:=j) (by simpa using ho) (by simpa using hx) hw hr
       rw[show i+(j+1)=i+1+j by omega];exact this
def aqN{fr:List AV}{s s2:AS}{o:Oper}{v:AV}{r:Option Nat}(hr:aqM G fr o=some r)(hs:∀id,r=some id->s2.get id=s.get id)(h:Qz P G fr s o=some (.val v s)):Qz P G fr s2 o=some (.val v s2):=by
 unfold aqM at hr;split at hr;rename_i t a ho;rw[Cs] at hr;unfold Qz at h ⊢;rw[ho] at h ⊢;simp only at h ⊢;obtain⟨v',h3,h4⟩:=map_some h;injection h4 with h4
 subst h4;obtain⟨b,h5,h6⟩:=bind_some h3;rw[h5] at hr ⊢;split at hr;rename_i id off PR;cases PR;cases hr
 have:JP P s2 t (.ptr id off)=JP P s t (.ptr id off):=by
   simp only[JP];rw[hs id rfl]
 simp only[Option.bind_some];rw[this,h6];rfl;rename_i PR;cases PR;simp only[Option.bind_some];rw[show JP P s2 t (.el _)=JP P s t (.el _) from rfl,h6];rfl;cases hr;rename_i t m k ok ho;rw[Cs] at hr;unfold Qz at h ⊢;rw[ho] at h ⊢;simp only at h ⊢;split at hr;rename_i id PR;cases hr;rw[PR] at h ⊢;split at h;rename_i a b ha hb;cases ha;obtain⟨v',h3,h4⟩:=map_some h;injection h4 with h4
 subst h4
 have:Jr P s2 t (.mp id) b ok=Jr P s t (.mp id) b ok:=by
   simp only[Jr];rw[hs id rfl]
 rw[this,h3];rfl;cases h;cases hr
 · rename_i cl ho
   split at hr
   · rename_i IN
     unfold Qz at h ⊢;rw[ho] at h ⊢;simp only[Tj,IN] at h ⊢;split at hr
     · rename_i x hx
       rw[hx] at h ⊢;cases ht:cl.argTypes.toList with
       | nil=>rw[ht] at h;cases h
       | cons t1 ts =>
         cases ts with
         | cons _ _=>rw[ht] at h;cases h
         | nil =>
           rw[ht] at h;simp only at h ⊢;obtain⟨v',h3,h4⟩:=map_some h;injection h4 with h4
           subst h4;obtain⟨b,h5,h6⟩:=bind_some h3;rw[Cs,h5] at hr;rw[h5];simp only[Option.bind_some];split at hr
           · rename_i hsl
             have:WS P s2 t1 b=WS P s t1 b:=by
               unfold slV at hsl;split at hsl
               · rename_i PR;cases PR;unfold WS;split<;>first | rfl | (simp_all;done)
               · rename_i PR;cases PR;unfold WS;split<;>first | rfl | (simp_all;done)
               cases hsl
             rw[this,h6];rfl
           cases hr
     cases hr
   cases hr
 cases hr
def adB{id:Nat}{fr fr':List AV}{s s':AS}{t:List (List AV×AS×AV)}{Ts:List (List Nat)}{hs hs':List Hn}{cd:List Cd}(Ia:MB ops=true)(h:yE P G ops ops.toList hs fr s=some (hs',cd,t,Ts,fr',s'))(hr:lK G ops (Ix ops.toList []) Ts ops.toList t 0=true)(hc:Rz P G cd):J P G (XS P G) H0 (.code (.region id ops true) fr s .normal fr' s'):=by
 obtain⟨yM,nR,Gm,hlo⟩:=aoF (q:=s.nx) h hc;have hlen:t.length=ops.size:=by rw[yM.len,Array.length_toList]
 obtain⟨h0,TX⟩:=yM.at;have pJ:∀i o,ops[i]?=some o->Cm ops i=o.dst:=λi o ho=>by unfold Cm;rw[ho];rfl
 obtain⟨VN,Yx⟩:=yM.dU (Cm ops) (KH t) fr 0 rfl (λi o ho=>by rw[Nat.zero_add];exact pJ i o (by rw[<- Array.getElem?_toList];exact ho)) (λi=>.inl (by rw[Nat.zero_add]));rw[Nat.zero_add,Array.length_toList] at VN;have afC:∀(i:Nat) (o:Oper),ops[i]?=some o->BZ o.op=false:=λi o ho=>nR o (List.mem_of_getElem? (Ci ho))
 have Hg:∀(i:Nat) (o:Oper),ops[i]?=some o->J P G (XS P G) H0 (.op ops o (IP fr (Cm ops) (KH t) (λ_=>true) i) (FZ t s' i) (.ret (KH t i)) (FZ t s' (i+1))):=by
   intro i o ho;obtain⟨fi,h1,h2⟩:=TX i o (Ci ho);have:=Yx i _ h1;simp only[Nat.zero_add] at this;rcases h2 with ⟨_,h2⟩ | ⟨h2,_⟩
   rw[<- this];exact h2;rw[afC i o ho] at h2;cases h2
 have hsn:FZ t s' ops.size=s':=by
   unfold FZ;rw[List.getElem?_eq_none (by omega)]
 have hTl:∀(l:Nat) T id,Ts[l]?=some T->id∈T->l < ops.size->YR ops l:=by
   intro l T id hT hid hl;exact⟨ops[l],Array.getElem?_eq_getElem hl,hlo l ops[l] T id (Ci (Array.getElem?_eq_getElem hl)) hT hid⟩
 have jW:∀(bx:Nat) (d i:Nat),i+d<=ops.size->(∀l,i<=l->l < i+d->∀T,Ts[l]?=some T->bx∉T)->(FZ t s' (i+d)).get bx=(FZ t s' i).get bx:=by
   intro bx d
   induction d with
   | zero=>intro i _ _;rfl
   | succ d ih =>
     intro i hle hno;rw[show i+(d+1)=(i+d)+1 by omega,Gm (i+d) bx (by rw[Array.length_toList];omega) (hno (i+d) (by omega) (by omega))];exact ih i (by omega) (λl h1 h2=>hno l h1 (by omega))
 have key:=J.draw (P:=P) (G:=G) (X:=XS P G) (H:=H0) (id:=id) (f0:=fr) (s0:=s) [] (KH t) (FZ t s') h0 Ia (λi o ho _=>Hg i o ho) (λi o ho hq=>by
   obtain⟨h1,h2⟩:=Kg hq (Hg i o ho);refine⟨h1,?_⟩;rcases h2 with h2 | ⟨hw,h2⟩
   exact .inl h2
   · refine .inr ⟨hw,λk hk ZV=>?_⟩
     cases hrd:reads o.op with
     | false=>exact Ui hq hrd h2 _
     | true =>
       have hil:i < ops.size:=(Array.getElem?_eq_some_iff.1 ho).1;obtain⟨fi,hti,_⟩:=TX i o (Ci ho);have hfi:=Yx i _ hti;simp only[Nat.zero_add] at hfi;obtain⟨r,hr1,hr2⟩:=ahS hr (Ci ho) hti (by rw[hfi];exact hw) hrd;rw[hfi] at hr1;refine aqN hr1 (λbx hbx=>?_) h2;have hto:=hr2 bx hbx;rw[Nat.zero_add] at hto;rcases Nat.lt_or_ge k i with hki | hki
       have:=jW bx (i - k) k (by omega) (λl h3 h4 T hT hm=>by
         have hd:=(Zo hto hT hm).1 (by omega);rw[Nat.zero_add] at hd;have:=ZV.1 l (hTl l T bx hT hm (by omega)) hd;omega)
       rw[show k+(i - k)=i by omega] at this;exact this.symm
       have:=jW bx (k - i) i (by omega) (λl h3 h4 T hT hm=>by
         have pL:=hTl l T bx hT hm (by omega);rcases Nat.lt_or_ge i l with h5 | h5
         have hd:=(Zo hto hT hm).2 (by omega);rw[Nat.zero_add] at hd;have:=ZV.2 l pL hd;omega;have:l=i:=by omega
         subst this;obtain⟨o2,ho2,hcm⟩:=pL;rw[ho] at ho2;cases ho2;rw[X8 hq] at hcm;cases hcm)
       rw[show i+(k - i)=k by omega] at this;exact this) (λi o e ho he=>by
   have:=afC i o ho;rw[he] at this;cases this)
 rw[<- VN,hsn] at key;exact key
end
end AI
namespace AI
open Go Go.RowKit
section
variable {P:Program} {G:Bc} {ops:Array Oper} {f0:List AV} {vals:Nat->AV} {s0 s1:AS} {p:Nat} {v:AV}
structure aJW(G:Bc)(ops:Array Oper)(f0:List AV)(vals:Nat->AV)(s0:AS)(p:Nat)(nP:Cx)(w0:World)(L:Array Bool)(a:Act)(w:World):Prop where
 size:L.size=ops.size
 closed:NW ops.toList (λj=>L.getD j false)
 st:∃c,Ext nP w0 c w/\St G c w s0/\CG c w (IP f0 (Cm ops) vals (λj=>L.getD j false) ops.size) a.tmps.toList
 defers:a.defers=[]
 out:L.getD p false=false
def adE(Ia:MB ops=true)(hp:p < ops.size)
   (hl:∀i o,ops[i]?=some o->i≠p->(p < i->SH (Ix ops.toList []) i p=false)->Sound P G (.op ops o (IP f0 (Cm ops) vals (λ_=>true) i) s0 (.ret (vals i)) s0))
   (ayY:∀o,ops[p]?=some o->Sound P G (.op ops o (IP f0 (Cm ops) vals (λ_=>true) p) s0 (.pan v) s1))
   {nP:Cx} {w0:World} {fr':List AV} (Q:Exit->Act->World->Prop) (hQ:∀e' a' w',Tg G nP w0 (.pan v) fr' s1 e' a' w'->Q e' a' w') :
   ∀(fuel:Nat) (L:Array Bool) (a:Act) (w:World),aJW G ops f0 vals s0 p nP w0 L a w->iQ (λj=>L.getD j false) ops.size=fuel->wpAny P .any ops Q fuel L a w:=by
 intro fuel
 induction fuel with
 | zero =>
   intro L a w hI hc;have:=iS ops.size hc p hp;rw[hI.out] at this;cases this
 | succ fuel ih =>
   intro L a w hI aMU;refine⟨λeC=>?_,λi hi=>?_⟩
   · exfalso
     have all:∀i,i < ops.size->L.getD i false=true:=by
       intro i
       induction i using Nat.strongRecOn with
       | _ i ihi =>
         intro hlt;cases gX:L.getD i false with
         | true=>rfl
         | false =>
           exfalso;have ho:ops[i]?=some (ops[i]'hlt):=Array.getElem?_eq_getElem hlt
           have:=lN hI.size ho gX (λe he hb=>by
             have h1:=kW Ia ho he hb;exact ihi e.on h1 (by omega))
           rw[eC] at this;cases this
     have:=all p hp;rw[hI.out] at this;cases this
   · obtain⟨o,ho,gX,YA,hlt⟩:=mem_ready hI.size hi
     obtain⟨c,hx,Gm,hfr⟩:=hI.st
     have hip:p < i->SH (Ix ops.toList []) i p=false:=by
       intro h1;cases hd:SH (Ix ops.toList []) i p with
       | false=>rfl
       | true =>
         have:=Yb hI.closed (Ci ho) YA hd;rw[hI.out] at this;cases this
     have hMi:(L.setIfInBounds i true).getD i false=true:=by
       have:i < L.size:=by rw[hI.size];exact hlt
       simp[this]
     have tO:∀j,j≠i->(L.setIfInBounds i true).getD j false=L.getD j false:=by
       intro j hj;simp only[Array.getD_eq_getD_getElem?];rw[Array.getElem?_setIfInBounds_ne (λe=>hj e.symm)]
     have hle:∀j,L.getD j false=true->(L.setIfInBounds i true).getD j false=true:=by
       intro j hj;by_cases e:j=i;subst e;exact hMi;rw[tO j e];exact hj
     have Yu:NW ops.toList (λj=>(L.setIfInBounds i true).getD j false):=by
       intro j y hy hj e he hb;by_cases ej:j=i;subst ej;rw[Ci ho] at hy;cases hy;exact hle _ (YA e he hb);have hj2:L.getD j false=true:=by rw[<- tO j ej];exact hj
       exact hle _ (hI.closed j y hy hj2 e he hb)
     have aeV:iQ (λj=>(L.setIfInBounds i true).getD j false) ops.size=fuel:=by
       have:=(sX (L:=λj=>L.getD j false) (M:=λj=>(L.setIfInBounds i true).getD j false) gX hMi tO ops.size).1 hlt;omega
     have ZS:=tI (f0:=f0) (vals:=vals) (L:=λj=>L.getD j false) (M:=λj=>(L.setIfInBounds i true).getD j false) Ia hI.closed ho gX hMi tO
     have jX:∀x∈o.op.operands,ZJ G c w (IP f0 (Cm ops) vals (λ_=>true) i) a.eval x:=by
       intro x hxo v hv;cases x with
       | tmp t =>
         have afA:t∈o.looksAt ops:=by
           unfold Oper.looksAt;rw[List.mem_append];left;rw[List.mem_filterMap];exact⟨.tmp t,Array.mem_toList_iff.2 hxo,rfl⟩
         have he:=SJ (f0:=f0) (vals:=vals) Ia hI.closed ho gX YA afA
         have:Bd G (IP f0 (Cm ops) vals (λj=>L.getD j false) ops.size) (.tmp t)=some v:=by
           rw[<- hv];simp only[Bd,List.getD_eq_getElem?_getD,he]
         exact EA Gm hfr this
       | const z=>exact EA (fr:=IP f0 (Cm ops) vals (λj=>L.getD j false) ops.size) Gm hfr hv
       | global g=>exact EA (fr:=IP f0 (Cm ops) vals (λj=>L.getD j false) ops.size) Gm hfr hv
       | func f=>exact EA (fr:=IP f0 (Cm ops) vals (λj=>L.getD j false) ops.size) Gm hfr hv
     have Ww:Cv ops (IP f0 (Cm ops) vals (λ_=>true) i) o=Region.wanted o (yielded ops a.tmps):=by
       refine N1 (c:=c) (w:=w) (λj want hg d hd=>⟨_,hfr,?_⟩);refine SJ Ia hI.closed ho gX YA ?_;unfold Oper.looksAt;rw[List.mem_append];right;rw[hg];simp[hd]
     have dX:MW P ops o (wpAny P .any ops Q fuel (L.setIfInBounds i true)) Q a w->wpOp P ops Q i (wpAny P .any ops Q fuel (L.setIfInBounds i true)) a w:=by
       intro h;unfold wpOp;rw[ho];unfold MW at h;simp only;split;rename_i hw;rw[if_pos hw] at h;exact .inl h;rename_i hw;rw[if_neg hw] at h;exact h
     refine dX ?_;by_cases hpe:i=p;subst hpe;refine ayY o ho c w a _ _ Gm jX Ww ?_;intro u w' c' TZ M4 hu;exact hQ _ _ _ ⟨c',hx.trans TZ,M4,hI.defers,u,rfl,hu⟩;refine hl i o ho hpe hip c w a _ _ Gm jX Ww ?_;intro u w' c' TZ M4 hu;refine ih _ _ _ ⟨by simp[hI.size],Yu,⟨c',hx.trans TZ,M4,?_⟩,by cases o.dst<;>exact hI.defers,?_⟩ aeV
     rw[ZS];exact OY (hfr.mono TZ) hu;rw[tO p (λe=>hpe e.symm)];exact hI.out
def rD(hm:P.follows .mixedOrders=true){id:Nat}{fr':List AV}(Ia:MB ops=true)(hp:p < ops.size)
   (hl:∀i o,ops[i]?=some o->i≠p->(p < i->SH (Ix ops.toList []) i p=false)->Sound P G (.op ops o (IP f0 (Cm ops) vals (λ_=>true) i) s0 (.ret (vals i)) s0))
   (ayY:∀o,ops[p]?=some o->Sound P G (.op ops o (IP f0 (Cm ops) vals (λ_=>true) p) s0 (.pan v) s1)):Sound P G (.code (.region id ops true) f0 s0 (.pan v) fr' s1):=by
 intro cx w a Q hs hf hd hQ;refine wp_region_any hm ?_;obtain⟨x,st⟩:=hs.same (iN w)
 have gf:∀j,(Array.replicate ops.size false).getD j false=false:=by
   intro j;simp only[Array.getD_eq_getD_getElem?,Array.getElem?_replicate];split<;>simp
 refine adE Ia hp hl ayY Q hQ ops.size _ a _ ⟨by simp,?_,⟨_,x,st,?_⟩,hd,gf p⟩ ?_;intro i o ho hL;exact absurd (show(Array.replicate ops.size false).getD i false=true from hL) (by rw[gf i];simp)
 · have:IP f0 (Cm ops) vals (λj=>(Array.replicate ops.size false).getD j false) ops.size=f0:=by
     have key:∀n,IP f0 (Cm ops) vals (λj=>(Array.replicate ops.size false).getD j false) n=f0:=by
       intro n
       induction n with
       | zero=>rfl
       | succ n ih =>
         simp only[IP,ih];rw[if_neg];rw[gf n];simp
     exact key _
   rw[this];exact hf.mono x
 · have key:∀n,iQ (λj=>(Array.replicate ops.size false).getD j false) n=n:=by
     intro n
     induction n with
     | zero=>rfl
     | succ n ih =>
       simp only[iQ,ih,gf n];simp
   exact key _
end
end AI
namespace AI
open Go Go.RowKit
abbrev HS:=Option (List Hn×List Cd×List AV×AS)
def auY(cd:List Cd):HS->HS
 | some (hs,cd',fr,s)=>some (hs,cd++cd',fr,s)
 | none=>none
abbrev HC:=Option (AX×List Hn×List Cd×List AV×AS)
def aU(cd:List Cd):HC->HC
 | some (e,hs,cd',fr,s)=>some (e,hs,cd++cd',fr,s)
 | none=>none
def aoD(P:Program)(G:Bc)(ops:Array Oper)(fr:List AV)(s:AS)(o:Oper):List Hn->HO
 | .p v s1::hs=>(match Cv ops fr o with
   | true=>(match UN P G fr s o with
     | some (.ent f args)=>some (v,s1,hs,[.auP f args s v s1])
     | some (.pan v')=>some (v',s,hs,[])
     | _=>none)
   | false=>none)
 | .q v pre tp Ra tu::hs=>(match Cv ops fr o with
   | true=>(match UN P G fr s o with
     | some (.ent f args)=>some (v,(s.Wc Ra).Tw tu,hs,[.Fa f args (.pan v) pre tp Ra tu,.tB (Yn s pre) (OJ pre) (aO s.F tp) (Pg tp)])
     | _=>none)
   | false=>none)
 | _=>none
def aeM(P:Program)(G:Bc)(ops:Array Oper):List Oper->List Hn->List AV->AS->HC
 | [],hs,fr,s=>some (.normal,hs,[],fr,s)
 | o::l,hs,fr,s=>(match aoD P G ops fr s o hs with
   | some (v,s1,RU,cd)=>some (.pan v,RU,cd,fr,s1)
   | none=>(match aT P G ops fr s o hs with
     | some (v,s1,RU,cd)=>aU cd (aeM P G ops l RU (IY fr o.dst v) s1)
     | none=>none))
def jP(P:Program)(G:Bc)(ops:Array Oper):List Oper->List Hn->List AV->AS->HS
 | [],hs,fr,s=>some (hs,[],fr,s)
 | o::l,hs,fr,s=>(match jN P G ops fr s o hs with
   | some (v,s1,RU,cd)=>auY cd (jP P G ops l RU (IY fr o.dst v) s1)
   | none=>none)
def steady(op:Op):Bool:=match quiet op with
 | true=>true
 | false=>(match op with
   | .call cl=>(match cl.callee with | .value _=>true | _=>false)
   | _=>false)
def Q6:List Oper->Bool
 | []=>true
 | o::l=>(match steady o.op with | true=>Q6 l | false=>false)
def aEQ:HS->HC
 | some (hs,cd,fr,s)=>some (.normal,hs,cd,fr,s)
 | none=>none
def aEP(P:Program)(G:Bc)(ops:Array Oper)(hs:List Hn)(fr:List AV)(s:AS):HC:=match rsv P ops.toList with
 | some r=>(match hTr P G ops ops.toList s.nx hs fr (s.hold r) with
   | some (hs',cd,t,fr',s')=>(match L6 G ops s.nx ops.toList t with
     | true=>(match XD P ops t s' s.nx r with
       | true=>some (.normal,hs',cd,fr',s')
       | false=>none)
     | false=>none)
   | none=>none)
 | none=>none
def aeG(P:Program)(G:Bc)(ops:Array Oper)(c:Nat)(hs:List Hn)(fr:List AV)(s:AS):HC:=match Nat.blt c ops.size with
 | true=>(match U9 (Ix ops.toList []) c ops.toList 0 with
   | true=>(match yG P G ops c ops.toList 0 hs fr s with
     | some (hs',cd,_,fr',s')=>some (.normal,hs',cd,fr',s')
     | none=>none)
   | false=>none)
 | false=>none
def auU(P:Program)(G:Bc)(ops:Array Oper)(hs:List Hn)(fr:List AV)(s:AS):HC:=match yE P G ops ops.toList hs fr s with
 | some (hs',cd,t,Ts,fr',s')=>(match lK G ops (Ix ops.toList []) Ts ops.toList t 0 with
   | true=>some (.normal,hs',cd,fr',s')
   | false=>none)
 | none=>none
abbrev HQ:=Option (List AV×List Hn×List Cd×Option (AV×AS))
def eF(v:AV)(cd:List Cd):HQ->HQ
 | some (vs,hs,xO,r)=>some (v::vs,hs,cd++xO,r)
 | none=>none
def avE(r:AV×AS)(cd:List Cd):HQ->HQ
 | some (vs,hs,xO,none)=>some (.sc undef::vs,hs,cd++xO,some r)
 | _=>none
def behind(ms:List Nat)(p i:Nat):Bool:=match Nat.blt p i with
 | true=>SH ms i p
 | false=>false
def Ys(P:Program)(G:Bc)(ops:Array Oper)(ms:List Nat)(p:Nat)(s:AS):List Oper->Nat->List Hn->List AV->HQ
 | [],_,hs,_=>some ([],hs,[],none)
 | o::l,i,hs,fr=>(match Nat.beq i p with
   | true=>(match aoD P G ops fr s o hs with
     | some (v,s2,ZI,cd)=>avE (v,s2) cd (Ys P G ops ms p s l (i+1) ZI (IY fr o.dst (.sc undef)))
     | none=>none)
   | false=>(match behind ms p i with
     | true=>eF (.sc undef) [] (Ys P G ops ms p s l (i+1) hs (IY fr o.dst (.sc undef)))
     | false=>(match steady o.op with
       | true=>(match jN P G ops fr s o hs with
         | some (v,_,ZI,cd)=>eF v cd (Ys P G ops ms p s l (i+1) ZI (IY fr o.dst v))
         | none=>none)
       | false=>none)))
def aeO(P:Program)(G:Bc)(ops:Array Oper)(p:Nat)(hs:List Hn)(fr:List AV)(s:AS):HC:=match Ys P G ops (Ix ops.toList []) p s ops.toList 0 hs fr with
 | some (_,ZI,cd,some (v,s2))=>some (.pan v,ZI,cd,fr,s2)
 | _=>none
def auW(P:Program)(G:Bc)(ops:Array Oper)(fr:List AV)(s:AS):List Hn->HC
 | .zq p::hs=>aeO P G ops p hs fr s
 | .z c::hs=>aeG P G ops c hs fr s
 | .za::hs=>auU P G ops hs fr s
 | hs=>(match Q6 ops.toList with
   | true=>aEQ (jP P G ops ops.toList hs fr s)
   | false=>aEP P G ops hs fr s)
def aeQ(P:Program)(G:Bc)(ops:Array Oper)(d:Bool)(hs:List Hn)(fr:List AV)(s:AS):HC:=match d with
 | false=>aeM P G ops ops.toList hs fr s
 | true=>(match MB ops with
   | true=>auW P G ops fr s hs
   | false=>none)
def Nk(P:Program)(G:Bc):Code->List Hn->List AV->AS->HC
 | .skip,hs,fr,s=>some (.normal,hs,[],fr,s)
 | .exit id,hs,fr,s=>some (.exit id,hs,[],fr,s)
 | .ret,hs,fr,s=>some (.ret,hs,[],fr,s)
 | .seq x y,hs,fr,s=>(match Nk P G x hs fr s with
   | some (.normal,RU,cd,VJ,s1)=>aU cd (Nk P G y RU VJ s1)
   | r=>r)
 | .cond q x y,hs,fr,s=>(match A0 G fr q with
   | some (.sc (.bool true))=>Nk P G x hs fr s
   | some (.sc (.bool false))=>Nk P G y hs fr s
   | _=>none)
 | .block id c,hs,fr,s=>(match Nk P G c hs fr s with
   | some (e,RU,cd,VJ,s1)=>some (E4 id e,RU,cd,VJ,s1)
   | none=>none)
 | .region _ ops d,hs,fr,s=>(match hs with
   | .n l::hs=>(match nzs l fr s with
     | some (fr2,s2)=>aeQ P G ops d hs fr2 s2
     | none=>none)
   | .f id b b2::hs=>(match look id s.h with
     | some b0=>aU [.tB [some b0] [some b] [] [],.rd s.nr b b2] (aeQ P G ops d hs fr ⟨Ry id b2 s.h,s.nx,(s.nr,0)::s.F,s.nr+1⟩)
     | none=>none)
   | hs=>aeQ P G ops d hs fr s)
 | _,_,_,_=>none
section
variable {P:Program} {G:Bc} {ops:Array Oper}
def tP{fr:List AV}{s s1:AS}{o:Oper}{hs hs':List Hn}{v:AV}{cd:List Cd}(h:aoD P G ops fr s o hs=some (v,s1,hs',cd))(hc:Rz P G cd):J P G (XS P G) H0 (.op ops o fr s (.pan v) s1):=by
 unfold aoD at h;split at h;rw[Nv] at h;split at h;rename_i hw;split at h;rename_i h1;cases h;exact .Sl hw h1 (.ext hc.1);rename_i h1;cases h;exact .avQ hw h1;cases h;cases h;rw[Nv] at h;split at h;rename_i hw;split at h;rename_i h1;cases h;exact .Sl hw h1 (.ext (hc.1 s hc.2.1.1 hc.2.1.2));cases h;cases h;cases h
def aoB{l:List Oper}{k:Nat}(hk:l=ops.toList.drop k){hs hs':List Hn}{fr fr':List AV}{s s':AS}{e:AX}{cd:List Cd}(h:aeM P G ops l hs fr s=some (e,hs',cd,fr',s'))(hc:Rz P G cd):J P G (XS P G) H0 (.ops ops (List.range' k l.length) fr s e fr' s'):=by
 induction l generalizing k hs fr s cd with
 | nil=>simp only[aeM] at h;cases h;exact .ahE
 | cons o l ih =>
   obtain⟨k1,k2⟩:=drop_cons hk;simp only[aeM] at h;split at h;rename_i v s1 RU cd1 h1;cases h;rw[List.length_cons,List.range'_succ];exact .ahF (by rw[<- Array.getElem?_toList];exact k1) (tP h1 hc);split at h;rename_i v s1 RU cd1 h1;unfold aU at h;split at h;rename_i e2 ZI xO fr2 s2 h2;cases h;obtain⟨c1,c2⟩:=hc.UE;rw[List.length_cons,List.range'_succ];exact .uY (by rw[<- Array.getElem?_toList];exact k1) (Pw h1 c1) (ih k2 h2 c2);cases h;cases h
def aoC{l:List Oper}{q:Nat}(Gm:Q6 l=true){hs hs':List Hn}{fr fr':List AV}{s s':AS}{cd:List Cd}(h:jP P G ops l hs fr s=some (hs',cd,fr',s'))(hc:Rz P G cd):s'=s/\∃t,SZ P G (XS P G) H0 ops q l fr s t fr' s/\∀x∈t,x.2.1=s:=by
 induction l generalizing hs fr cd s with
 | nil=>simp only[jP] at h;cases h;exact⟨rfl,[],.nil,λx hx=>by cases hx⟩
 | cons o l ih =>
   simp only[Q6] at Gm;split at Gm
   · rename_i eH
     simp only[jP] at h;split at h
     · rename_i v s1 RU cd1 h1
       unfold auY at h;split at h
       · rename_i ZI xO fr2 s2 h2
         cases h;obtain⟨c1,c2⟩:=hc.UE;obtain⟨h1,hA⟩:=SK h1;have hj:=Pw h1 c1
         have nR:BZ o.op=false:=by
           cases ha:BZ o.op with
           | false=>rfl
           | true=>obtain⟨e,he⟩:=KV ha;rw[he] at eH;simp[steady,quiet] at eH
         have RU:s1=s:=by
           cases hq:quiet o.op with
           | true=>exact(Kg hq hj).1
           | false =>
             unfold steady at eH;rw[hq] at eH;simp only at eH;split at eH;rename_i cl jV;split at eH;rename_i f IN;unfold aT at h1;split at h1;unfold yC at h1;rw[jV] at h1;simp only[IN] at h1;unfold Yq at h1;split at h1;split at h1;cases h1;rfl;cases h1;have:=hA (by rw[jV];simp[Od,IN]);simp[eS] at this;have:=hA (by rw[jV];simp[Od,IN]);simp[eS] at this;have:=hA (by rw[jV];simp[Od,IN]);simp[eS] at this;cases h1;cases h1;rfl;cases eH;cases eH
         subst RU;obtain⟨e,t,ht,Hg⟩:=ih Gm h2 c2;subst e
         exact⟨rfl,_,.cons nR hj ht,λx hx=>by
           rcases List.mem_cons.1 hx with rfl | hx
           rfl;exact Hg x hx⟩
       cases h
     cases h
   cases Gm
def V8{l:List Oper}(Gm:Q6 l=true){i:Nat}{o:Oper}(ho:l[i]?=some o):steady o.op=true:=by
 induction l generalizing i with
 | nil=>simp at ho
 | cons x l ih =>
   simp only[Q6] at Gm;split at Gm;rename_i eH;cases i with
   | zero=>simp at ho;subst ho;exact eH
   | succ i=>exact ih Gm (by simpa using ho)
   cases Gm
def oO{X:WR}{H:TK}{id:Nat}{fr fr':List AV}{s:AS}{t:List (List AV×AS×AV)}(Ia:MB ops=true)(Gm:Q6 ops.toList=true)(h:SZ P G X H ops s.nx ops.toList fr s t fr' s)(Hg:∀x∈t,x.2.1=s):J P G X H (.code (.region id ops true) fr s .normal fr' s):=by
 have hlen:t.length=ops.size:=by rw[h.len,Array.length_toList]
 obtain⟨h0,TX⟩:=h.at
 have hsa:∀i,FZ t s i=s:=by
   intro i;unfold FZ;split;rename_i x hx;exact Hg x (List.mem_of_getElem? hx);rfl
 have pJ:∀i o,ops[i]?=some o->Cm ops i=o.dst:=λi o ho=>by unfold Cm;rw[ho];rfl
 obtain⟨VN,Yx⟩:=h.dU (Cm ops) (KH t) fr 0 rfl (λi o ho=>by rw[Nat.zero_add];exact pJ i o (by rw[<- Array.getElem?_toList];exact ho)) (λi=>.inl (by rw[Nat.zero_add]));rw[Nat.zero_add,Array.length_toList] at VN
 have nR:∀(i:Nat) (o:Oper),ops[i]?=some o->BZ o.op=false:=by
   intro i o ho;have:=V8 Gm (Ci ho);cases ha:BZ o.op with
   | false=>rfl
   | true=>obtain⟨e,he⟩:=KV ha;rw[he] at this;simp[steady,quiet] at this
 have hj:∀i o,ops[i]?=some o->J P G X H (.op ops o (IP fr (Cm ops) (KH t) (λ_=>true) i) s (.ret (KH t i)) s):=by
   intro i o ho;obtain⟨fi,h1,h2⟩:=TX i o (Ci ho);have:=Yx i _ h1;simp only[Nat.zero_add] at this;rcases h2 with ⟨_,h2⟩ | ⟨h2,_⟩
   rw[<- this];rw[hsa,hsa] at h2;exact h2;rw[nR i o ho] at h2;cases h2
 have key:=J.draw (P:=P) (G:=G) (X:=X) (H:=H) (id:=id) (f0:=fr) (s0:=s) [] (KH t) (λ_=>s) rfl Ia (λi o ho _=>hj i o ho) (λi o ho hq=>⟨rfl,by
   obtain⟨_,h2⟩:=Kg hq (hj i o ho);rcases h2 with h2 | ⟨hw,h2⟩
   exact .inl h2;exact .inr ⟨hw,λk _ _=>h2⟩⟩) (λi o e ho he=>by have:=nR i o ho;rw[he] at this;cases this)
 rw[<- VN] at key;exact key
def jO{fr:List AV}{s s1:AS}{o:Oper}{hs RU:List Hn}{v:AV}{cd:List Cd}(eH:steady o.op=true)(h:jN P G ops fr s o hs=some (v,s1,RU,cd))(hc:Rz P G cd):J P G (XS P G) H0 (.op ops o fr s (.ret v) s):=by
 obtain⟨h1,hA⟩:=SK h;have hj:=Pw h1 hc
 have RU:s1=s:=by
   cases hq:quiet o.op with
   | true=>exact(Kg hq hj).1
   | false =>
     unfold steady at eH;rw[hq] at eH;simp only at eH;split at eH;rename_i cl jV;split at eH;rename_i f IN;unfold aT at h1;split at h1;unfold yC at h1;rw[jV] at h1;simp only[IN] at h1;unfold Yq at h1;split at h1;split at h1;cases h1;rfl;cases h1;have:=hA (by rw[jV];simp[Od,IN]);simp[eS] at this;have:=hA (by rw[jV];simp[Od,IN]);simp[eS] at this;have:=hA (by rw[jV];simp[Od,IN]);simp[eS] at this;cases h1;cases h1;rfl;cases eH;cases eH
 rw[RU] at hj;exact hj
def adU{f0:List AV}{dst:Nat->Option Tmp}{vals:Nat->AV}{k:Nat}:IP f0 dst vals (λ_=>true) (k+1)=IY (IP f0 dst vals (λ_=>true) k) (dst k) (vals k):=by
 simp only[IP,if_true]
def aeN{p:Nat}{s:AS}{f0:List AV}{vals:Nat->AV}:∀{l:List Oper} {i:Nat} {hs hs':List Hn} {fr:List AV} {vs:List AV} {cd:List Cd} {r:Option (AV×AS)},Ys P G ops (Ix ops.toList []) p s l i hs fr=some (vs,hs',cd,r)->l=ops.toList.drop i->Rz P G cd->fr=IP f0 (Cm ops) vals (λ_=>true) i->(∀j,vals (i+j)=vs.getD j (.sc undef)) ->
   (∀j o,i<=j->ops[j]?=some o->j≠p->(p < j->SH (Ix ops.toList []) j p=false)->J P G (XS P G) H0 (.op ops o (IP f0 (Cm ops) vals (λ_=>true) j) s (.ret (vals j)) s)) /\
   (i<=p->∀v s2,r=some (v,s2)->∃o,ops[p]?=some o/\J P G (XS P G) H0 (.op ops o (IP f0 (Cm ops) vals (λ_=>true) p) s (.pan v) s2))/\(p < i->r=none):=by
 intro l
 induction l with
 | nil =>
   intro i hs hs' fr vs cd r h hl hc hfr hv;simp only[Ys] at h;cases h
   have hsz:ops.size<=i:=by
     have:=congrArg List.length hl;simp only[List.length_nil,List.length_drop,Array.length_toList] at this;omega
   exact⟨λj o hj ho=>by have:=(Array.getElem?_eq_some_iff.1 ho).1;omega,(λ_ v s2 e=>by cases e),λ_=>rfl⟩
 | cons o l ih =>
   intro i hs hs' fr vs cd r h hl hc hfr hv;obtain⟨k1,k2⟩:=drop_cons hl;have ho:ops[i]?=some o:=by rw[<- Array.getElem?_toList];exact k1
   have hd:Cm ops i=o.dst:=by unfold Cm;rw[ho];rfl
   have next:∀{v0:AV} {vs2:List AV},vs=v0::vs2->vals i=v0/\IY fr o.dst v0=IP f0 (Cm ops) vals (λ_=>true) (i+1)/\∀j,vals (i+1+j)=vs2.getD j (.sc undef):=by
     intro v0 vs2 e;subst e;have h0:vals i=v0:=by have:=hv 0;simpa using this
     refine⟨h0,?_,λj=>?_⟩;rw[adU,hd,h0,hfr];have:=hv (j+1);rw[show i+1+j=i+(j+1) by omega,this];simp
   simp only[Ys] at h;split at h
   · rename_i hb
     have hip:=Nat.eq_of_beq_eq_true hb;split at h
     · rename_i v s2 ZI cd1 h1
       unfold avE at h;split at h
       · rename_i vs2 hs3 xO h2
         cases h;obtain⟨c1,c2⟩:=hc.UE;obtain⟨n1,n2,n3⟩:=next rfl
         obtain⟨q1,q2,q3⟩:=ih h2 k2 c2 n2 n3;refine⟨λj o' hj Wu hjp yJ=>?_,λ_ v' s2' e=>?_,λh=>by omega⟩;exact q1 j o' (by omega) Wu hjp yJ;cases e;refine⟨o,hip▸ho,?_⟩;have:=tP h1 c1;rw[hfr,hip] at this;exact this
       cases h
     cases h
   · rename_i hb
     have hip:=Nat.ne_of_beq_eq_false hb;split at h
     · rename_i hbe
       unfold eF at h;split at h
       · rename_i vs2 hs3 xO r2 h2
         cases h;obtain⟨n1,n2,n3⟩:=next rfl
         obtain⟨q1,q2,q3⟩:=ih h2 k2 hc n2 n3;unfold behind at hbe;split at hbe;rename_i hlt;have hlt:p < i:=Nat.le_of_ble_eq_true hlt;refine⟨λj o' hj Wu hjp yJ=>?_,λh=>by omega,λ_=>q3 (by omega)⟩;by_cases e:j=i;subst e;rw[yJ hlt] at hbe;cases hbe;exact q1 j o' (by omega) Wu hjp yJ;cases hbe
       cases h
     · split at h
       · rename_i Gm
         split at h
         · rename_i v s1 ZI cd1 h1
           unfold eF at h;split at h
           · rename_i vs2 hs3 xO r2 h2
             cases h;obtain⟨c1,c2⟩:=hc.UE;obtain⟨n1,n2,n3⟩:=next rfl
             obtain⟨q1,q2,q3⟩:=ih h2 k2 c2 n2 n3;refine⟨λj o' hj Wu hjp yJ=>?_,λh v' s2' e=>q2 (by omega) v' s2' e,λh=>q3 (by omega)⟩;by_cases e:j=i;subst e;rw[ho] at Wu;cases Wu;have:=jO Gm h1 c1;rw[hfr] at this;rw[n1];exact this;exact q1 j o' (by omega) Wu hjp yJ
           cases h
         cases h
       cases h
def aeP{id p:Nat}(Ia:MB ops=true){hs hs':List Hn}{fr fr':List AV}{s s':AS}{e:AX}{cd:List Cd}(h:aeO P G ops p hs fr s=some (e,hs',cd,fr',s'))(hc:Rz P G cd):J P G (XS P G) H0 (.code (.region id ops true) fr s e fr' s'):=by
 unfold aeO at h;split at h;rename_i vs ZI cd1 v s2 h1;cases h;obtain⟨q1,q2,_⟩:=aeN (f0:=fr) (vals:=λj=>vs.getD j (.sc undef)) h1 rfl hc rfl (λj=>by rw[Nat.zero_add]);obtain⟨o,ho,hj⟩:=q2 (Nat.zero_le _) _ _ rfl;refine .sem λhm=>rD (vals:=λj=>vs.getD j (.sc undef)) hm Ia (Array.getElem?_eq_some_iff.1 ho).1 (λi o' Wu hi hd=>sound (Sb hm) (q1 i o' (Nat.zero_le _) Wu hi hd)) (λo' Wu=>?_);rw[ho] at Wu;cases Wu;exact sound (Sb hm) hj;cases h
def dZ{ops:Array Oper}{id:Nat}{d:Bool}{hs hs':List Hn}{fr fr':List AV}{s s':AS}{e:AX}{cd:List Cd}(h:aeQ P G ops d hs fr s=some (e,hs',cd,fr',s'))(hc:Rz P G cd):J P G (XS P G) H0 (.code (.region id ops d) fr s e fr' s'):=by
 unfold aeQ at h;cases d with
 | false =>
   simp only at h;have:=aoB (ops:=ops) (k:=0) (by simp) h hc;refine .region ?_;rw[Array.length_toList] at this;rw[List.range_eq_range'];exact this
 | true =>
   simp only at h;split at h;rename_i Ia;unfold auW at h;split at h;exact aeP Ia h hc;unfold aeG at h;split at h;rename_i U1;split at h;rename_i hl;split at h;rename_i PR;cases h;exact xU Ia U1 hl PR hc;cases h;cases h;cases h;unfold auU at h;split at h;rename_i PR;split at h;rename_i hrd;cases h;exact adB Ia PR hrd hc;cases h;cases h;split at h;rename_i Gm;unfold aEQ at h;split at h;rename_i h1;cases h;obtain⟨e,t,ht,Hg⟩:=aoC (q:=s.nx) Gm h1 hc;subst e;exact oO Ia Gm ht Hg;cases h;unfold aEP at h;split at h;rename_i r hr;split at h;rename_i RU cd1 t VJ s1 yM;split at h;rename_i hi;split at h;rename_i afH;cases h;exact adD Ia hr yM hc hi afH;cases h;cases h;cases h;cases h;cases h
def aeF(c:Code){hs hs':List Hn}{fr fr':List AV}{s s':AS}{e:AX}{cd:List Cd}(h:Nk P G c hs fr s=some (e,hs',cd,fr',s'))(hc:Rz P G cd):J P G (XS P G) H0 (.code c fr s e fr' s'):=by
 induction c generalizing hs hs' fr fr' s s' e cd with
 | skip=>simp only[Nk] at h;cases h;exact .skip
 | exit id=>simp only[Nk] at h;cases h;exact .exit
 | ret=>simp only[Nk] at h;cases h;exact .ret
 | seq x y ihx ihy =>
   simp only[Nk] at h;cases hx:Nk P G x hs fr s with
   | none=>rw[hx] at h;cases h
   | some r =>
     obtain⟨e1,RU,cd1,VJ,s1⟩:=r;rw[hx] at h;cases e1 with
     | normal =>
       simp only at h;unfold aU at h;split at h;rename_i e2 ZI xO fr2 s2 h2;cases h;obtain⟨c1,c2⟩:=hc.UE;exact .seq (ihx hx c1) (ihy h2 c2);cases h
     | exit id=>simp only at h;cases h;exact .rO (ihx hx hc) (by simp)
     | ret=>simp only at h;cases h;exact .rO (ihx hx hc) (by simp)
     | pan v=>simp only at h;cases h;exact .rO (ihx hx hc) (by simp)
 | cond q x y ihx ihy =>
   simp only[Nk,Cs] at h;split at h;rename_i hq;exact .cond hq (ihx h hc);rename_i hq;exact .cond hq (ihy h hc);cases h
 | block id c ih =>
   simp only[Nk] at h;split at h;rename_i h1;cases h;exact .block (ih h1 hc);cases h
 | region id ops d =>
   simp only[Nk] at h;split at h;split at h;rename_i hz;exact .Zz (λcx w vs h1 h2=>qM hz cx w vs h1 h2) (dZ h hc);cases h;split at h;rename_i b0 hb;unfold aU at h;split at h;rename_i h1;cases h;obtain⟨c1,c2⟩:=hc.UE;refine .Zz (λcx w vs hs hf=>?_) (dZ h1 c2);have hbb:b0=_:=Option.some.inj (List.cons.inj c1.1.1).1;subst hbb;obtain⟨x,st⟩:=hs.tok;exact⟨_,x,st.rC hb (λo ho=>c1.2.1 _ _ _ (by simp[hs.I2]) ho),hf.mono x⟩;cases h;cases h;exact dZ h hc
 | _=>simp only[Nk] at h;cases h
def SL:Code->Bool
 | .loop _=>true
 | .seq x y=>SL x||SL y
 | .cond _ x y=>SL x||SL y
 | .block _ c=>SL c
 | _=>false
abbrev HP:=Option (Code×List Hn×List Cd×List AV×AS)
end
end AI
namespace AI
open Go Go.RowKit
structure PC(P:Program)(G:Bc) where
 hn:Hn
 cd:List Cd
 ok:Rz P G cd
def pHs{P:Program}{G:Bc}:List (PC P G)->List Hn
 | []=>[]
 | p::l=>p.hn::pHs l
def hJ{P:Program}{G:Bc}:List (PC P G)->List Cd
 | []=>[]
 | p::l=>p.cd++hJ l
def Rz.join{P:Program}{G:Bc}{l m:List Cd}(h:Rz P G l)(k:Rz P G m):Rz P G (l++m):=by
 induction l with
 | nil=>exact k
 | cons c l ih=>exact⟨h.1,ih h.2⟩
def Oh{P:Program}{G:Bc}(l:List (PC P G)):Rz P G (hJ l):=by
 induction l with
 | nil=>trivial
 | cons p l ih=>exact p.ok.join ih
inductive KI where
 | code (c:Code)
 | iZ (id:Nat)
def Ed(P:Program)(G:Bc):List KI->(AX->List AV->AS->Prop)->AX->List AV->AS->Prop
 | [],Q=>Q
 | .code k::ks,Q=>awI P G (XS P G) H0 k (Ed P G ks Q)
 | .iZ id::ks,Q=>EN id (Ed P G ks Q)
inductive Sq where
 | at (id:Nat) (c:Code) (ks:List KI)
 | fin (e:AX)
abbrev HR:=Option (Sq×List Hn×List Cd×List AV×AS)
def aeL(cd:List Cd):HR->HR
 | some (c,hs,cd',fr,s)=>some (c,hs,cd++cd',fr,s)
 | none=>none
def RE(r:Code->List KI->List Hn->List AV->AS->HR):List KI->AX->List Hn->List AV->AS->HR
 | [],e,hs,fr,s=>some (.fin e,hs,[],fr,s)
 | .code k::ks,.normal,hs,fr,s=>r k ks hs fr s
 | .code _::ks,e,hs,fr,s=>RE r ks e hs fr s
 | .iZ id::ks,.exit Rl,hs,fr,s=>(match Nat.beq Rl id with
   | true=>RE r ks .normal hs fr s
   | false=>RE r ks (.exit Rl) hs fr s)
 | .iZ _::ks,e,hs,fr,s=>RE r ks e hs fr s
def S5(P:Program)(G:Bc):Nat->Code->List KI->List Hn->List AV->AS->HR
 | 0,_,_,_,_,_=>none
 | n+1,c,ks,hs,fr,s=>(match SL c with
   | false=>(match Nk P G c hs fr s with
     | some (e,RU,cd,VJ,s1)=>aeL cd (RE (S5 P G n) ks e RU VJ s1)
     | none=>none)
   | true=>(match c with
     | .seq x y=>S5 P G n x (.code y::ks) hs fr s
     | .block id (.loop c)=>some (.at id c ks,hs,[],fr,s)
     | .block id c=>S5 P G n c (.iZ id::ks) hs fr s
     | .cond q x y=>(match A0 G fr q with
       | some (.sc (.bool true))=>S5 P G n x ks hs fr s
       | some (.sc (.bool false))=>S5 P G n y ks hs fr s
       | _=>none)
     | _=>none))
section
variable {P:Program} {G:Bc}
def SqQ(P:Program)(G:Bc)(Q:AX->List AV->AS->Prop)(fr:List AV)(s:AS):Sq->Prop
 | .at id c ks=>WL P G (XS P G) H0 c fr s (EN id (Ed P G ks Q))
 | .fin e=>Q e fr s
def OE{k:Code}{ks:List KI}{Q:AX->List AV->AS->Prop}{e:AX}{fr:List AV}{s:AS}(he:e≠.normal)(h:Ed P G ks Q e fr s):Ed P G (.code k::ks) Q e fr s:=by
 cases e with
 | normal=>exact absurd rfl he
 | exit id=>exact h
 | ret=>exact h
 | pan v=>exact h
def dY{r:Code->List KI->List Hn->List AV->AS->HR}{Q:AX->List AV->AS->Prop}
   (hr:∀(c:Code) (ks:List KI) {sp:Sq} {hs hs':List Hn} {fr fr':List AV} {s s':AS} {cd:List Cd},r c ks hs fr s=some (sp,hs',cd,fr',s')->Rz P G cd->SqQ P G Q fr' s' sp->W P G (XS P G) H0 c fr s (Ed P G ks Q)) :
   ∀(ks:List KI) (e:AX) {sp:Sq} {hs hs':List Hn} {fr fr':List AV} {s s':AS} {cd:List Cd},RE r ks e hs fr s=some (sp,hs',cd,fr',s')->Rz P G cd->SqQ P G Q fr' s' sp->Ed P G ks Q e fr s:=by
 intro ks
 induction ks with
 | nil=>intro e sp hs hs' fr fr' s s' cd h hc hk;simp only[RE] at h;cases h;exact hk
 | cons k ks ih =>
   intro e sp hs hs' fr fr' s s' cd h hc hk;cases k with
   | code c =>
     cases e with
     | normal=>simp only[RE] at h;exact hr c ks h hc hk
     | exit id=>simp only[RE] at h;exact OE (by simp) (ih _ h hc hk)
     | ret=>simp only[RE] at h;exact OE (by simp) (ih _ h hc hk)
     | pan v=>simp only[RE] at h;exact OE (by simp) (ih _ h hc hk)
   | iZ id =>
     show Ed P G ks Q (E4 id e) fr s;cases e with
     | normal=>simp only[RE] at h;exact ih _ h hc hk
     | ret=>simp only[RE] at h;exact ih _ h hc hk
     | pan v=>simp only[RE] at h;exact ih _ h hc hk
     | exit Rl =>
       simp only[RE] at h;split at h;rename_i hb;have:=beq_true hb;subst this;have e1:E4 Rl (.exit Rl)=.normal:=by simp[E4]
       rw[e1];exact ih _ h hc hk;rename_i hb;have:=beq_false hb;have e1:E4 id (.exit Rl)=.exit Rl:=by simp[E4,this]
       rw[e1];exact ih _ h hc hk
def eA{Q:AX->List AV->AS->Prop}:∀(n:Nat) (c:Code) (ks:List KI) {sp:Sq} {hs hs':List Hn} {fr fr':List AV} {s s':AS} {cd:List Cd},S5 P G n c ks hs fr s=some (sp,hs',cd,fr',s')->Rz P G cd->SqQ P G Q fr' s' sp->W P G (XS P G) H0 c fr s (Ed P G ks Q):=by
 intro n
 induction n with
 | zero=>intro c ks sp hs hs' fr fr' s s' cd h;simp only[S5] at h;cases h
 | succ n ih =>
   intro c ks sp hs hs' fr fr' s s' cd h hc hk;simp only[S5] at h;split at h;split at h;rename_i e RU cd1 VJ s1 h1;unfold aeL at h;split at h;rename_i h2;cases h;obtain⟨c1,c2⟩:=hc.UE;exact⟨_,_,_,aeF c h1 c1,dY ih ks e h2 c2 hk⟩;cases h;cases h;split at h;exact aDF (ih _ _ h hc hk);cases h;exact sO (axB hk);exact sO (ih _ _ h hc hk);rw[Cs] at h;split at h;rename_i hq;exact amO hq (ih _ _ h hc hk);rename_i hq;exact amN hq (ih _ _ h hc hk);cases h;cases h
end
end AI
namespace AI
open Go Go.RowKit
def sub:Code->List Nat->Code
 | c,[]=>c
 | .seq x _,0::l=>sub x l
 | .seq _ y,_::l=>sub y l
 | .cond _ x _,0::l=>sub x l
 | .cond _ _ y,_::l=>sub y l
 | .block _ c,_::l=>sub c l
 | .loop c,_::l=>sub c l
 | c,_=>c
def AY(fn:Func):Code:=fn.body.getD .skip
def obv(n:Nat):AV->Bool
 | .sc _=>true
 | .any=>true
 | .ptr id _=>Nat.blt id n
 | .mp id=>Nat.blt id n
 | .msl id _ _=>Nat.blt id n
 | _=>false
theorem ahC{n m:Nat}{a:AV}(h:obv n a=true):Fits n m a a:=by
 refine .under ?_;cases a<;>simp only[obv] at h<;>first | rfl | (cases h;done) | exact decide_eq_true (Nat.le_of_ble_eq_true h)
structure FP(n m:Nat) where
 a:AV
 b:AV
 h:Fits n m a b
structure FB(n m:Nat) where
 a:AM
 b:AM
 h:Rf n m a b
def gW{n m:Nat}:List (FP n m)->List AV
 | []=>[]
 | p::l=>p.a::gW l
def ZG{n m:Nat}:List (FP n m)->List AV
 | []=>[]
 | p::l=>p.b::ZG l
def fbA{n m:Nat}:List (FB n m)->List AM
 | []=>[]
 | p::l=>p.a::fbA l
def fbB{n m:Nat}:List (FB n m)->List AM
 | []=>[]
 | p::l=>p.b::fbB l
abbrev MR:=Option (List AV×List AV)
def bA(b:AV):MR->MR
 | some (l,as)=>some (b::l,as)
 | none=>none
def agJ(a b:AV):MR->MR
 | some (l,as)=>some (b::l,a::as)
 | none=>none
def agK(r:List AV->MR)(n:Nat)(a:AV)(bs:List AV):MR:=match obv n a with
 | true=>bA a (r bs)
 | false=>none
def apG(r:List AV->MR)(a:AV):List AV->MR
 | b::bs=>agJ a b (r bs)
 | []=>none
def bB(r:List AV->MR)(a:AV)(bs:List AV):MR:=match UU a with
 | true=>bA .any (r bs)
 | false=>none
def ZX(n:Nat):List AV->Nat->List Nat->List AV->MR
 | [],_,_,[]=>some ([],[])
 | [],_,_,_::_=>none
 | a::l,i,[],bs=>bB (ZX n l (i+2) []) a bs
 | a::l,i,t::ts,bs=>(match Nat.beq t i with
   | true=>agK (ZX n l (i+2) ts) n a bs
   | false=>(match Nat.beq t (i+1) with
     | true=>apG (ZX n l (i+2) ts) a bs
     | false=>bB (ZX n l (i+2) (t::ts)) a bs))
section
variable {n m:Nat} {r:List AV->MR} {l:List AV} (hr:∀(fps:List (FP n m)) l2,r (ZG fps)=some (l2,gW fps)->JO n m l l2) {a:AV} {fps:List (FP n m)} {l2:List AV}
include hr
theorem agL(h:agK r n a (ZG fps)=some (l2,gW fps)):JO n m (a::l) l2:=by
 unfold agK at h;split at h
 · rename_i ho
   unfold bA at h;split at h
   · rename_i l3 as h1
     cases h;exact .cons (ahC ho) (hr fps _ h1)
   · cases h
 · cases h
theorem uL(h:apG r a (ZG fps)=some (l2,gW fps)):JO n m (a::l) l2:=by
 cases fps with
 | nil=>cases h
 | cons p fps =>
   simp only[ZG,apG] at h;unfold agJ at h;split at h
   · rename_i l3 as h1
     simp only[gW,Option.some.injEq,Prod.mk.injEq,List.cons.injEq] at h;obtain⟨rfl,rfl,rfl⟩:=h;exact .cons p.h (hr fps _ h1)
   · cases h
theorem Vb(h:bB r a (ZG fps)=some (l2,gW fps)):JO n m (a::l) l2:=by
 unfold bB at h;split at h
 · rename_i hd
   unfold bA at h;split at h
   · rename_i l3 as h1
     cases h;exact .cons (.drop hd) (hr fps _ h1)
   · cases h
 · cases h
end
theorem apK{n m:Nat}:∀{l:List AV} {i:Nat} {ts:List Nat} {fps:List (FP n m)} {l2:List AV},ZX n l i ts (ZG fps)=some (l2,gW fps)->JO n m l l2:=by
 intro l
 induction l with
 | nil =>
   intro i ts fps l2 h;cases fps with
   | nil=>simp only[ZG,ZX] at h;cases h;exact .nil
   | cons p fps=>simp only[ZG,ZX] at h;cases h
 | cons a l ih =>
   intro i ts fps l2 h;cases ts with
   | nil=>simp only[ZX] at h;exact Vb (λfps l2 h=>ih h) h
   | cons t ts =>
     simp only[ZX] at h;split at h
     · exact agL (λfps l2 h=>ih h) h
     · split at h
       · exact uL (λfps l2 h=>ih h) h
       · exact Vb (λfps l2 h=>ih h) h
abbrev BR:=Option (List (Nat×AM)×List AM)
def auK(id:Nat)(a b:AM):BR->BR
 | some (l,as)=>some ((id,b)::l,a::as)
 | none=>none
def oG:List (Nat×AM)->List AM->BR
 | [],[]=>some ([],[])
 | e::l,b::bs=>auK e.1 e.2 b (oG l bs)
 | _,_=>none
theorem amU{n m:Nat}:∀{l:List (Nat×AM)} {fbs:List (FB n m)} {l2:List (Nat×AM)},oG l (fbB fbs)=some (l2,fbA fbs)->(∀k,JN l k->JN l2 k)/\∀id b,look id l2=some b->∃b',look id l=some b'/\Rf n m b' b:=by
 intro l
 induction l with
 | nil =>
   intro fbs l2 h;cases fbs with
   | nil=>simp only[fbB,oG] at h;cases h;exact⟨λ_ _=>trivial,λid b h=>by cases h⟩
   | cons p fbs=>simp only[fbB,oG] at h;cases h
 | cons e l ih =>
   intro fbs l2 h;cases fbs with
   | nil=>simp only[fbB,oG] at h;cases h
   | cons p fbs =>
     simp only[fbB,oG] at h;unfold auK at h;split at h
     · rename_i l3 as h1
       simp only[fbA,Option.some.injEq,Prod.mk.injEq,List.cons.injEq] at h;obtain⟨rfl,h2,rfl⟩:=h;obtain⟨hd,hl⟩:=ih h1;refine⟨λk hk=>⟨hk.1,hd _ hk.2⟩,λid b hb=>?_⟩;simp only[look] at hb ⊢;split at hb
       · cases hb;exact⟨e.2,rfl,by rw[h2];exact p.h⟩
       · exact hl id b hb
     · cases h
def Wp(m:Nat):List (Nat×Nat)->List (Nat×Nat)
 | []=>[]
 | x::l=>match Nat.blt x.1 m with
   | true=>x::Wp m l
   | false=>Wp m l
theorem jF{m r n:Nat}{l:List (Nat×Nat)}(h:D8 r (Wp m l)=some n):D8 r l=some n/\r < m:=by
 induction l with
 | nil=>cases h
 | cons x l ih =>
   simp only[Wp] at h;split at h
   · rename_i hb
     simp only[D8] at h ⊢;split at h
     · rename_i h1
       have:=beq_true h1;subst this;cases h;exact⟨rfl,Nat.le_of_ble_eq_true hb⟩
     · exact ih h
   · rename_i hb
     obtain⟨h1,h2⟩:=ih h;refine⟨?_,h2⟩;simp only[D8];split
     · rename_i h3
       have:=beq_true h3;subst this;rw[show Nat.blt x.1 m=true from Nat.ble_eq_true_of_le h2] at hb;cases hb
     · exact h1
section
variable {P:Program} {G:Bc}
def wS(G:Bc)(s0:AS)(fr':List AV)(s':AS)(fr2:List AV)(s2:AS):Prop:=∀(cx:Cx) (w:World) (c':Cx) (w':World) (vs:List Value),Ext cx w c' w'->St G cx w s0->St G c' w' s'->CG c' w' fr' vs->∃c2,Ext cx w c2 w'/\St G c2 w' s2/\CG c2 w' fr2 vs
abbrev RR:=Option (List AV×AS×List AV×List AM)
def aBW(live:List Nat)(n m:Nat)(fr':List AV)(s':AS)(bs:List AV)(cs:List AM):RR :=
 match ZX n fr' 0 live bs with
 | some (fr2,as)=>(match oG (Tp n s'.h) cs with
   | some (h2,cas)=>some (fr2,⟨h2,n,Wp m s'.F,m⟩,as,cas)
   | none=>none)
 | none=>none
theorem iY{l:List (Nat×AM)}{N n:Nat}(h:JN l N):JN (Tp n l) n:=by
 induction l generalizing N with
 | nil=>trivial
 | cons e l ih =>
   simp only[Tp];split
   · exact ih h.2
   · rename_i hb
     refine⟨?_,h.2⟩;have:¬n<=e.1:=λhle=>by rw[Nat.ble_eq_true_of_le hle] at hb;cases hb
     omega
def Um(P:Program)(G:Bc)(L:Code)(s0:AS)(Q:AX->List AV->AS->Prop):AX->List AV->AS->Prop
 | .normal,fr',s'=>∃fr2 s2,wS G s0 fr' s' fr2 s2/\WL P G (XS P G) H0 L fr2 s2 Q
 | .exit id,fr',s'=>∃fr2 s2,wS G s0 fr' s' fr2 s2/\Q (.exit id) fr2 s2
 | e,fr',s'=>Q e fr' s'
theorem cU{L:Code}{fr:List AV}{s:AS}{Q:AX->List AV->AS->Prop}(h:W P G (XS P G) H0 L fr s (Um P G L s Q)):WL P G (XS P G) H0 L fr s Q:=by
 obtain⟨e,fr',s',hj,h2⟩:=h;cases e with
 | normal =>
   obtain⟨fr2,s2,hf,e3,fr3,s3,h3,h4⟩:=h2;exact⟨e3,fr3,s3,.loopN (.scope hj (λ_ h=>by cases h) (λcx w c' w' vs hx hs hs' hfr=>hf cx w c' w' vs hx hs hs' hfr)) h3,h4⟩
 | exit id =>
   obtain⟨fr2,s2,hf,h4⟩:=h2;exact⟨_,_,_,.loopX (.scope hj (λ_ h=>by cases h) (λcx w c' w' vs hx hs hs' hfr=>hf cx w c' w' vs hx hs hs' hfr)) (by simp),h4⟩
 | ret=>exact⟨_,_,_,.loopX hj (by simp),h2⟩
 | pan v=>exact⟨_,_,_,.loopX hj (by simp),h2⟩
def RW(P:Program)(fn:Func)(m:Nat)(Q:AX->List AV->AS->Prop)(v:AV)(s2:AS):Prop:=∀fr s,GM P s fn fr=some v->s.cut m=s2->Q .ret fr s
def UJ(m:Nat)(Q:AX->List AV->AS->Prop)(v:AV)(s2:AS):Prop:=∀fr s,s.cut m=s2->Q (.pan v) fr s
theorem aaV{ks:List KI}{Q:AX->List AV->AS->Prop}{fr:List AV}{s:AS}(h:Q .ret fr s):Ed P G ks Q .ret fr s:=by
 induction ks with
 | nil=>exact h
 | cons k ks ih=>cases k<;>exact ih
theorem aaU{ks:List KI}{Q:AX->List AV->AS->Prop}{fr:List AV}{s:AS}{v:AV}(h:Q (.pan v) fr s):Ed P G ks Q (.pan v) fr s:=by
 induction ks with
 | nil=>exact h
 | cons k ks ih=>cases k<;>exact ih
theorem RW.body{fn:Func}{m:Nat}{Q:CR->AS->Prop}{v:AV}{s2:AS}(h:Q (.ret v) s2):RW P fn m (Tm P fn m Q) v s2:=λfr s h1 h2=>⟨v,h1,by rw[h2];exact h⟩
theorem UJ.body{fn:Func}{m:Nat}{Q:CR->AS->Prop}{v:AV}{s2:AS}(h:Q (.pan v) s2):UJ m (Tm P fn m Q) v s2:=λfr s h2=>by show Q (.pan v) (s.cut m);rw[h2];exact h
theorem RW.outer{fn:Func}{m id:Nat}{ks:List KI}{Q:AX->List AV->AS->Prop}{v:AV}{s2:AS}(h:RW P fn m Q v s2):RW P fn m (EN id (Ed P G ks Q)) v s2:=λfr s h1 h2=>aaV (h fr s h1 h2)
theorem UJ.outer{m id:Nat}{ks:List KI}{Q:AX->List AV->AS->Prop}{v:AV}{s2:AS}(h:UJ m Q v s2):UJ m (EN id (Ed P G ks Q)) v s2:=λfr s h1=>aaU (h fr s h1)
theorem RW.Ge{fn:Func}{m:Nat}{L:Code}{s0:AS}{Q:AX->List AV->AS->Prop}{v:AV}{s2:AS}(h:RW P fn m Q v s2):RW P fn m (Um P G L s0 Q) v s2:=h
theorem UJ.Ge{m:Nat}{L:Code}{s0:AS}{Q:AX->List AV->AS->Prop}{v:AV}{s2:AS}(h:UJ m Q v s2):UJ m (Um P G L s0 Q) v s2:=h
def aGX(P:Program)(fn:Func)(m:Nat):HR->Option (List Cd×AV×AS)
 | some (.fin .ret,[],cd,fr,s)=>(match GM P s fn fr with
   | some v=>some (cd,v,s.cut m)
   | none=>none)
 | _=>none
def UL(P:Program)(G:Bc)(_l:List (PC P G))(Q:AX->List AV->AS->Prop)(r:HR)(X:Prop):Prop:=∀sp cd fr' s',r=some (sp,[],cd,fr',s')->Rz P G cd->SqQ P G Q fr' s' sp->X
theorem Ac{c:Code}{fr:List AV}{s:AS}{Q:AX->List AV->AS->Prop}(n:Nat)(l:List (PC P G)):UL P G l Q (S5 P G n c [] (pHs l) fr s) (W P G (XS P G) H0 c fr s Q):=λ_ _ _ _ h hc hk=>eA n c [] h hc hk
theorem fU{id:Nat}{ks:List KI}{fr:List AV}{s:AS}{Q:AX->List AV->AS->Prop}(n:Nat)(l:List (PC P G)):UL P G l Q (RE (S5 P G n) ks .normal (pHs l) fr s) (EN id (Ed P G ks Q) (.exit id) fr s):=λ_ _ _ _ h hc hk=>by
 show Ed P G ks Q (E4 id (.exit id)) fr s;have:E4 id (.exit id)=.normal:=by simp[E4]
 rw[this];exact dY (eA n) ks _ h hc hk
theorem go_ret{r:HR}{X:Prop}{Q:AX->List AV->AS->Prop}(fn:Func)(m:Nat){l:List (PC P G)}(v:AV)(s2:AS)(R:UL P G l Q r X)(h:aGX P fn m r=some (hJ l,v,s2))(k:RW P fn m Q v s2):X:=by
 unfold aGX at h;split at h
 · rename_i cd fr' s'
   split at h
   · rename_i v' hv
     simp only[Option.some.injEq,Prod.mk.injEq] at h;obtain⟨rfl,rfl,rfl⟩:=h;exact R _ _ _ _ rfl (Oh l) (k _ _ hv rfl)
   · cases h
 · cases h
def oP(a:AV):AV:=match UU a with
 | true=>.any
 | false=>a
theorem xV{a:AV}{c:Cx}{w:World}{v:Value}(hr:Rp c w a v):Rp c w (oP a) v:=by
 unfold oP;split
 · rename_i h;exact .any (TS hr h)
 · exact hr
inductive Lp(γ δ ρ:Type) where
 | nx (x:γ)
 | ex (x:δ)
 | rt (r:ρ)
section loops
variable {α γ δ ρ:Type}
def Ri(k:γ->Option (δ⊕ρ)):Lp γ δ ρ->Option (δ⊕ρ)
 | .nx x=>k x
 | .ex d=>some (.inl d)
 | .rt r=>some (.inr r)
def CQ(body:Nat->α->γ->Option (Lp γ δ ρ))(done:γ->δ):List α->Nat->γ->Option (δ⊕ρ)
 | [],_,x=>some (.inl (done x))
 | y::l,i,x=>(body i y x).bind (Ri (CQ body done l (i+1)))
def EM(body:γ->Option (Lp γ δ ρ)):Nat->γ->Option (δ⊕ρ)
 | 0,_=>none
 | n+1,x=>(body x).bind (Ri (EM body n))
def S6{β:Type}(n:Nat)(x:Option β):Option β:=if n<=9223372036854775807 then x else none
theorem aOZ{β:Type}{n:Nat}{x:Option β}{r:β}(h:S6 n x=some r):n<=9223372036854775807/\x=some r:=by
 unfold S6 at h;split at h
 · rename_i h1;exact⟨h1,h⟩
 · cases h
theorem aLS{β:Type}{b:Bool}{t f:Option β}{r:β}(h:cond b t f=some r):(b=true/\t=some r)\/(b=false/\f=some r):=by
 cases b
 · exact .inr ⟨rfl,h⟩
 · exact .inl ⟨rfl,h⟩
theorem iL{β κ:Type}{m:Option κ}{k:κ->Option β}{r:β}(h:m.bind k=some r):∃y,m=some y/\k y=some r:=by
 cases m with
 | none=>cases h
 | some y=>exact⟨y,rfl,h⟩
def LQ(Qx:δ->Prop)(Qr:ρ->Prop):δ⊕ρ->Prop
 | .inl x=>Qx x
 | .inr r=>Qr r
def RQ(Qn:γ->Prop)(Qx:δ->Prop)(Qr:ρ->Prop):Lp γ δ ρ->Prop
 | .nx x=>Qn x
 | .ex x=>Qx x
 | .rt r=>Qr r
theorem amL{J:Type}{L:Code}{Q:AX->List AV->AS->Prop}{body:Nat->α->γ->Option (Lp γ δ ρ)}{done:γ->δ}(l:List α)(F:Nat->γ->J->List AV)(S:Nat->γ->J->AS)(Ok:J->Prop)(Qx:δ->Prop)(Qr:ρ->Prop)
   (hz:∀i x j,Ok j->l.length<=i->Qx (done x)->WL P G (XS P G) H0 L (F i x j) (S i x j) Q)
   (hs:∀i y x j r,Ok j->l[i]?=some y->i < l.length->body i y x=some r->RQ (λx'=>∀j',Ok j'->WL P G (XS P G) H0 L (F (i+1) x' j') (S (i+1) x' j') Q) Qx Qr r->WL P G (XS P G) H0 L (F i x j) (S i x j) Q) :
   ∀{x:γ} {res:δ⊕ρ} (i0:Nat),CQ body done (l.drop i0) i0 x=some res->LQ Qx Qr res->∀j,Ok j->WL P G (XS P G) H0 L (F i0 x j) (S i0 x j) Q:=by
 have key:∀(k:List α) (i:Nat) (x:γ) (res:δ⊕ρ),l.drop i=k->CQ body done k i x=some res->LQ Qx Qr res->∀j,Ok j->WL P G (XS P G) H0 L (F i x j) (S i x j) Q:=by
   intro k
   induction k with
   | nil =>
     intro i x res hd h hq j hj;simp only[CQ,Option.some.injEq] at h;subst h;exact hz i x j hj (List.drop_eq_nil_iff.1 hd) hq
   | cons y k ih =>
     intro i x res hd h hq j hj
     have hi:i < l.length:=by
       rcases Nat.lt_or_ge i l.length with h1 | h1
       · exact h1
       · rw[List.drop_eq_nil_of_le h1] at hd;cases hd
     have hy:l[i]?=some y:=by rw[<- List.head?_drop,hd];rfl
     have hd2:l.drop (i+1)=k:=by rw[<- List.tail_drop,hd];rfl
     obtain⟨r,hb,h⟩:=iL h;refine hs i y x j r hj hy hi hb ?_;cases r with
     | nx x'=>exact λj' hj'=>ih (i+1) x' res hd2 h hq j' hj'
     | ex d=>simp only[Ri,Option.some.injEq] at h;subst h;exact hq
     | rt v=>simp only[Ri,Option.some.injEq] at h;subst h;exact hq
 intro x res i0 h hq j hj;exact key _ i0 x res rfl h hq j hj
theorem amM{J:Type}{L:Code}{Q:AX->List AV->AS->Prop}{body:γ->Option (Lp γ δ ρ)}(F:γ->J->List AV)(S:γ->J->AS)(Ok:J->Prop)(Qx:δ->Prop)(Qr:ρ->Prop)
   (hs:∀x j r,Ok j->body x=some r->RQ (λx'=>∀j',Ok j'->WL P G (XS P G) H0 L (F x' j') (S x' j') Q) Qx Qr r->WL P G (XS P G) H0 L (F x j) (S x j) Q) :
   ∀(n:Nat) {x:γ} {res:δ⊕ρ},EM body n x=some res->LQ Qx Qr res->∀j,Ok j->WL P G (XS P G) H0 L (F x j) (S x j) Q:=by
 intro n
 induction n with
 | zero=>intro x res h;cases h
 | succ n ih =>
   intro x res h hq j hj;obtain⟨r,hb,h⟩:=iL h;refine hs x j r hj hb ?_;cases r with
   | nx x'=>exact λj' hj'=>ih h hq j' hj'
   | ex d=>simp only[Ri,Option.some.injEq] at h;subst h;exact hq
   | rt v=>simp only[Ri,Option.some.injEq] at h;subst h;exact hq
def L2(body:γ->Option (Lp γ δ ρ))(x:γ):Option (δ⊕ρ):=open Classical in if h:∃n r,EM body n x=some r then some (Classical.choose (Classical.choose_spec h)) else none
theorem anR{body:γ->Option (Lp γ δ ρ)}{x:γ}{r:δ⊕ρ}(h:L2 body x=some r):∃n,EM body n x=some r:=by
 unfold L2 at h;split at h
 · rename_i hx
   have:=Classical.choose_spec (Classical.choose_spec hx);rw[Option.some.inj h] at this;exact⟨_,this⟩
 · cases h
theorem YF{body:γ->Option (Lp γ δ ρ)}:∀{n m:Nat} {x:γ} {r:δ⊕ρ},EM body n x=some r->n<=m->EM body m x=some r:=by
 intro n
 induction n with
 | zero=>intro m x r h;cases h
 | succ n ih =>
   intro m x r h hm;cases m with
   | zero=>omega
   | succ m =>
     obtain⟨a,ha,h⟩:=iL h;simp only[EM,ha,Option.bind_some];cases a with
     | nx x'=>exact ih h (by omega)
     | ex d=>exact h
     | rt v=>exact h
theorem Fe{body:γ->Option (Lp γ δ ρ)}{n:Nat}{x:γ}{r:δ⊕ρ}(h:EM body n x=some r):L2 body x=some r:=by
 unfold L2;have hx:∃n r,EM body n x=some r:=⟨n,r,h⟩;rw[dif_pos hx];have h2:=Classical.choose_spec (Classical.choose_spec hx);have h3:=YF h (Nat.le_max_left n (Classical.choose hx));have h4:=YF h2 (Nat.le_max_right n (Classical.choose hx));rw[h3] at h4;rw[Option.some.inj h4]
end loops
end
end AI
