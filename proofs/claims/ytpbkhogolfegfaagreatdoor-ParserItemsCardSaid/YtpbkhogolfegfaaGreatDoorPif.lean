/- Part of a proof: see the last text. -/
import Derived.Test.YtpbkhogolfegfaaGreatDoorPie
set_option linter.unusedVariables false
set_option linter.unusedSimpArgs false
set_option linter.defProp false
noncomputable section
namespace AI
open Go Go.RowKit
def Oi(op:Op):Bool:=match op with
 | .call cl=>(match cl.callee with | .value _=>true | _=>false)
 | _=>false
def Q9(op:Op):Bool:=match op with
 | .call cl=>(match cl.callee with | .value _=>true | .builtin .append=>true | _=>false)
 | _=>false
def afG{op:Op}(h:Oi op=true):Q9 op=true:=by
 unfold Oi at h;split at h;split at h;rename_i Ii;simp[Q9,Ii];cases h;cases h
def fR:List Hn->Bool
 | .a _ _::_=>true
 | .u _ _ _ _ _::_=>true
 | .cn _ _ _ _ _::_=>true
 | .mb _ _::_=>true
 | _=>false
def j9(P:Program)(G:Bc)(ops:Array Oper)(fr:List AV)(s:AS)(o:Oper)(hs:List Hn):HO:=match Q9 o.op with
 | true=>(match fR hs with
   | true=>none
   | false=>bK P G ops fr s o hs)
 | false=>bK P G ops fr s o hs
def YP{P:Program}{G:Bc}{ops:Array Oper}{fr:List AV}{s:AS}{o:Oper}{hs:List Hn}{r:AV×AS×List Hn×List Cd}(h:j9 P G ops fr s o hs=some r):bK P G ops fr s o hs=some r/\(Q9 o.op=true->fR hs=false):=by
 unfold j9 at h;split at h;split at h;cases h;rename_i h1;exact⟨h,λ_=>h1⟩;rename_i h1;exact⟨h,λh2=>by rw[h1] at h2;cases h2⟩
def Ta{P:Program}{G:Bc}{ops:Array Oper}{fr:List AV}{s:AS}{o:Oper}{hs:List Hn}{r:AV×AS×List Hn×List Cd}(h:j9 P G ops fr s o hs=some r):bK P G ops fr s o hs=some r/\(Oi o.op=true->fR hs=false):=⟨(YP h).1,λh1=>(YP h).2 (afG h1)⟩
abbrev HT:=Option (List Hn×List Cd×List (List AV×AS×AV)×List AV×AS)
def wR(cd:List Cd)(x:List AV×AS×AV):HT->HT
 | some (hs,cd',t,fr,s)=>some (hs,cd++cd',x::t,fr,s)
 | none=>none
def hTr(P:Program)(G:Bc)(ops:Array Oper):List Oper->Nat->List Hn->List AV->AS->HT
 | [],_,hs,fr,s=>some (hs,[],[],fr,s)
 | o::l,q,hs,fr,s=>(match BX o.op with
   | true=>wR [] (fr,s,Pz ops fr o q) (hTr P G ops l (q+1) hs (JE fr o.dst (Pz ops fr o q)) s)
   | false=>(match j9 P G ops fr s o hs with
     | some (v,s1,Se,cd)=>wR cd (fr,s,v) (hTr P G ops l q Se (JE fr o.dst v) s1)
     | none=>none))
def al0(q0:Nat):Option AV->Bool
 | some (.el _)=>true
 | some (.ptr id _)=>Nat.blt id q0
 | _=>false
def amW(q0:Nat):Option AV->Bool
 | some (.ptr id _)=>Nat.ble q0 id
 | _=>false
def slV:Option AV->Bool
 | some (.sl _ _ _)=>true
 | some (.sc (.string _))=>true
 | _=>false
def mpV(q0:Nat):Option AV->Bool
 | some (.mp id)=>Nat.blt id q0
 | _=>false
def indep(G:Bc)(q0:Nat)(fr:List AV)(o:Oper):Bool:=match o.op with
 | .load _ a=>al0 q0 (AZ G fr a)
 | .lookup _ m _ _=>mpV q0 (AZ G fr m)
 | .store _ a _=>amW q0 (AZ G fr a)
 | .call cl=>(match cl.callee with
   | .value _=>true
   | .builtin .append=>true
   | .builtin .len=>(match cl.args.toList with
     | [x]=>slV (AZ G fr x)
     | _=>false)
   | _=>quiet o.op)
 | .alloc _=>true
 | op=>quiet op
def Mj(G:Bc)(ops:Array Oper)(q0:Nat):List Oper->List (List AV×AS×AV)->Bool
 | o::os,t::ts=>(match CG ops t.1 o with
   | false=>Mj G ops q0 os ts
   | true=>(match indep G q0 t.1 o with
     | true=>Mj G ops q0 os ts
     | false=>false))
 | _,_=>true
def n9(q0:Nat)(s s':AS):Prop:=∀id,id < q0->s'.get id=s.get id
def JX{id RN:Nat}{b:Bl}(h:RN≠id):∀(l:List (Nat×Bl)),look RN (uZ id b l)=look RN l
 | []=>rfl
 | e::l=>by
   simp only[uZ];split;rename_i hb;have hb:=beq_true hb;simp only[look]
   have h1:Nat.beq id RN=false:=by cases hq:Nat.beq id RN with
     | true=>exact absurd (beq_true hq).symm h
     | false=>rfl
   rw[hb,h1];simp only[look,JX h l]
section
variable {P:Program} {G:Bc} {ops:Array Oper}
def afj{q0:Nat}{fr:List AV}{s s1:AS}{o:Oper}{hs CX:List Hn}{v:AV}{cd:List Cd}(h:bK P G ops fr s o hs=some (v,s1,CX,cd))(hA:Q9 o.op=true->fR hs=false)(hi:CG ops fr o=true->indep G q0 fr o=true)(hc:R1 P G cd)(ha:BX o.op=false):n9 q0 s s1:=by
 intro id hid;have hj:=PI h hc;cases hq:quiet o.op with
 | true=>rw[(Kk hq hj).1]
 | false =>
   unfold bK at h;split at h;rename_i hw;have hi:=hi hw;unfold indep at hi;split at hi;rename_i t a ho;rw[ho] at hq;cases hq;rename_i t m k ok ho;rw[ho] at hq;cases hq;rename_i t a x ho;unfold wO at h;rw[ho] at h;simp only at h
   have h1:∃a' x',Bg G fr a=some a'/\Bg G fr x=some x'/\Me P s t a' x'=some s1:=by
     rcases V4 h hc with ⟨a',x',h2,h3,h4,_⟩ | h2
     exact⟨a',x',h2,h3,h4⟩;have h1:=V3 h2;rw[ND] at h1;unfold QW at h1;rw[ho] at h1;simp only at h1;split at h1;rename_i a' x' ha' Y0;obtain⟨s',Gz,he⟩:=map_some h1;injection he with he1 he2
     subst he2;exact⟨a',x',ha',Y0,Gz⟩;cases h1
   rw[Cv] at hi;obtain⟨a',x',ha',Y0,Gz⟩:=h1;rw[ha'] at hi;unfold amW at hi;split at hi;rename_i RN off OX;cases OX;unfold Me at Gz;split at Gz;rename_i i id2 aqG hi2 abA;cases abA;split at Gz;split at Gz;cases Gz;have:=Nat.le_of_ble_eq_true hi;exact JX (by omega) _;cases Gz;cases Gz;cases Gz;cases hi;rename_i cl ho;split at hi;rename_i f Ii;unfold wO at h;rw[ho] at h;simp only[Ii] at h;unfold YO at h;split at h;split at h;cases h;rfl;cases h;have:=hA (by rw[ho];simp[Q9,Ii]);simp[fR] at this;have:=hA (by rw[ho];simp[Q9,Ii]);simp[fR] at this;have:=hA (by rw[ho];simp[Q9,Ii]);simp[fR] at this;cases h;rename_i Ii;unfold wO at h;rw[ho] at h;simp only[Ii] at h;have no:=hA (by rw[ho];simp[Q9,Ii]);split at h;split at h;split at h;unfold abe at h;split at h;simp[fR] at no;simp[fR] at no;cases h;rfl;cases h;rfl;split at h;cases h;rfl;split at h;split at h;cases h;rfl;cases h;cases h;cases h;cases h;cases h;cases h;cases h;rename_i Ii;rw[ho] at hq;simp[quiet,Ii] at hq;rw[ho] at hq;rw[ho,hq] at hi;cases hi;rename_i e ho;rw[ho] at ha;cases ha;rw[hq] at hi;cases hi;cases h;rfl
def n9.refl(q0:Nat)(s:AS):n9 q0 s s:=λ_ _=>rfl
def n9.trans{q0:Nat}{a b c:AS}(h:n9 q0 a b)(k:n9 q0 b c):n9 q0 a c:=λid hid=>(k id hid).trans (h id hid)
def ajF{q0:Nat}{l:List Oper}{q:Nat}{hs CX:List Hn}{fr Cp:List AV}{s s':AS}{cd:List Cd}{t:List (List AV×AS×AV)}(h:hTr P G ops l q hs fr s=some (CX,cd,t,Cp,s'))(hc:R1 P G cd)(hi:Mj G ops q0 l t=true) :
   Tn P G (XS P G) H0 ops q l fr s t Cp s'/\(∀x∈t,n9 q0 s x.2.1)/\n9 q0 s s':=by
 induction l generalizing q hs fr s cd t with
 | nil=>simp only[hTr] at h;cases h;exact⟨.nil,(λx hx=>by cases hx),n9.refl _ _⟩
 | cons o l ih =>
   simp only[hTr] at h;cases ha:BX o.op with
   | true =>
     rw[ha] at h;simp only at h;unfold wR at h;split at h;rename_i bQ wD t2 fr2 s2 h2;cases h
     have hi2:Mj G ops q0 l t2=true:=by
       simp only[Mj] at hi;split at hi;exact hi;split at hi;exact hi;cases hi
     obtain⟨k1,k2,k3⟩:=ih h2 (hc.WK).2 hi2;refine⟨.alloc ha k1,λx hx=>?_,k3⟩;rcases List.mem_cons.1 hx with rfl | hx
     exact n9.refl _ _;exact k2 x hx;cases h
   | false =>
     rw[ha] at h;simp only at h;split at h;rename_i v s1 Se zZ h1;unfold wR at h;split at h;rename_i bQ wD t2 fr2 s2 h2;cases h;obtain⟨c1,c2⟩:=hc.WK
     have hi1:CG ops fr o=true->indep G q0 fr o=true:=by
       intro hw;simp only[Mj,hw] at hi;split at hi;assumption;cases hi
     have hi2:Mj G ops q0 l t2=true:=by
       simp only[Mj] at hi;split at hi;exact hi;split at hi;exact hi;cases hi
     have hf:=afj (Ta h1).1 (YP h1).2 hi1 c1 ha;obtain⟨k1,k2,k3⟩:=ih h2 c2 hi2;refine⟨.cons ha (PI (Ta h1).1 c1) k1,λx hx=>?_,hf.trans k3⟩;rcases List.mem_cons.1 hx with rfl | hx
     exact n9.refl _ _;exact hf.trans (k2 x hx);cases h;cases h
def w8{q0:Nat}{os:List Oper}{ts:List (List AV×AS×AV)}(h:Mj G ops q0 os ts=true){i:Nat}{o:Oper}{x:List AV×AS×AV}(ho:os[i]?=some o)(hx:ts[i]?=some x)(hw:CG ops x.1 o=true):indep G q0 x.1 o=true:=by
 induction os generalizing ts i with
 | nil=>simp at ho
 | cons y os ih =>
   cases ts with
   | nil=>simp at hx
   | cons t ts =>
     simp only[Mj] at h;cases i with
     | zero =>
       simp at ho hx;subst ho hx;rw[hw] at h;simp only at h;split at h;assumption;cases h
     | succ i =>
       have h2:Mj G ops q0 os ts=true:=by
         split at h;exact h;split at h;exact h;cases h
       exact ih h2 (by simpa using ho) (by simpa using hx)
def aa2{q0:Nat}{fr:List AV}{s0 s s2:AS}{o:Oper}{v:AV}(hq:quiet o.op=true)(hr:reads o.op=true)(hi:indep G q0 fr o=true)(h1:n9 q0 s0 s)(h2:n9 q0 s0 s2)(h:QW P G fr s o=some (.val v s)):QW P G fr s2 o=some (.val v s2):=by
 unfold indep at hi;split at hi;rename_i t a ho;rw[Cv] at hi;unfold QW at h ⊢;rw[ho] at h ⊢;simp only at h ⊢;obtain⟨v',h3,h4⟩:=map_some h;injection h4 with h4
 subst h4;obtain⟨b,h5,h6⟩:=bind_some h3;rw[h5] at hi ⊢;unfold al0 at hi;split at hi;rename_i OX;cases OX;simp only[Option.bind_some];rw[show K8 P s2 t (.el _)=K8 P s t (.el _) from rfl,h6];rfl;rename_i id off OX;cases OX;have hid:id < q0:=Nat.le_of_ble_eq_true hi
 have:K8 P s2 t (.ptr id off)=K8 P s t (.ptr id off):=by
   simp only[K8];rw[h2 id hid,h1 id hid]
 simp only[Option.bind_some];rw[this,h6];rfl;cases hi
 . rename_i t m k ok ho
   rw[Cv] at hi;unfold QW at h ⊢;rw[ho] at h ⊢;simp only at h ⊢;unfold mpV at hi;split at hi
   . rename_i id OX
     have hid:id < q0:=Nat.le_of_ble_eq_true hi;rw[OX] at h ⊢;cases hk:Bg G fr k with
     | none=>rw[hk] at h;cases h
     | some b =>
       rw[hk] at h;simp only at h ⊢;obtain⟨v',h3,h4⟩:=map_some h;injection h4 with h4
       subst h4
       have:Jm P s2 t (.mp id) b ok=Jm P s t (.mp id) b ok:=by
         unfold Jm;simp only;rw[h2 id hid,h1 id hid]
       rw[this,h3];rfl
   cases hi
 rename_i t a x ho;rw[ho] at hq;cases hq
 . rename_i cl ho
   split at hi;rename_i f Ii;rw[ho] at hq;simp[quiet,Ii] at hq;rename_i Ii;rw[ho] at hq;simp[quiet,Ii] at hq
   . rename_i Ii
     unfold QW at h ⊢;rw[ho] at h ⊢;simp only[TF,Ii] at h ⊢;split at hi
     . rename_i x hx
       rw[hx] at h ⊢;cases ht:cl.argTypes.toList with
       | nil=>rw[ht] at h;cases h
       | cons t1 ts =>
         cases ts with
         | cons _ _=>rw[ht] at h;cases h
         | nil =>
           rw[ht] at h;simp only at h ⊢;obtain⟨v',h3,h4⟩:=map_some h;injection h4 with h4
           subst h4;obtain⟨b,h5,h6⟩:=bind_some h3;rw[Cv,h5] at hi;rw[h5];simp only[Option.bind_some]
           have:Xh P s2 t1 b=Xh P s t1 b:=by
             unfold slV at hi;split at hi
             . rename_i OX;cases OX;unfold Xh;split<;>first | rfl | (simp_all;done)
             . rename_i OX;cases OX;unfold Xh;split<;>first | rfl | (simp_all;done)
             cases hi
           rw[this,h6];rfl
     cases hi
   . rename_i bN hn2
     rw[ho] at hr;unfold reads at hr;simp only at hr
     first
       | (cases hr;done)
       | (split at hr
          rename_i Ii;exact absurd Ii hn2;cases hr)
 rename_i e ho;rw[ho] at hq;cases hq;rename_i bN hn2 hn3 hn4 hn5;exfalso;unfold reads at hr;split at hr;rename_i ho;exact bN _ _ ho;rename_i ho;exact hn2 _ _ _ _ ho;rename_i ho;exact hn4 _ ho;cases hr
def aaN{id:Nat}{fr Cp:List AV}{s s':AS}{r:List Bl}{t:List (List AV×AS×AV)}{hs CX:List Hn}{cd:List Cd}(H3:MV ops=true)(hr:rsv P ops.toList=some r)(h:hTr P G ops ops.toList s.nx hs fr (s.hold r)=some (CX,cd,t,Cp,s'))(hc:R1 P G cd)(hi:Mj G ops s.nx ops.toList t=true)(abN:XZ P ops t s' s.nx r=true):J P G (XS P G) H0 (.code (.region id ops true) fr s .normal Cp s'):=by
 obtain⟨wY,apR,aml⟩:=ajF h hc hi;have hlen:t.length=ops.size:=by rw[wY.len,Array.length_toList]
 have hfk:∀k,n9 s.nx (s.hold r) (FW t s' k):=by
   intro k;unfold FW;split;rename_i x hx;exact apR x (List.mem_of_getElem? hx);exact aml
 obtain⟨h0,T9⟩:=wY.at;have pI:∀i o,ops[i]?=some o->Cm ops i=o.dst:=λi o ho=>by unfold Cm;rw[ho];rfl
 obtain⟨YT,YU⟩:=wY.eX (Cm ops) (KQ t) fr 0 rfl (λi o ho=>by rw[Nat.zero_add];exact pI i o (by rw[<- Array.getElem?_toList];exact ho)) (λi=>.inl (by rw[Nat.zero_add]));rw[Nat.zero_add,Array.length_toList] at YT
 have HV:∀(i:Nat) (o:Oper),ops[i]?=some o->BX o.op=false->J P G (XS P G) H0 (.op ops o (IH fr (Cm ops) (KQ t) (λ_=>true) i) (FW t s' i) (.ret (KQ t i)) (FW t s' (i+1))):=by
   intro i o ho nZ;obtain⟨fi,h1,h2⟩:=T9 i o (Ci ho);have:=YU i _ h1;simp only[Nat.zero_add] at this;rcases h2 with ⟨_,h2⟩ | ⟨h2,_⟩
   rw[<- this];exact h2;rw[nZ] at h2;cases h2
 have amb:∀(i:Nat) (o:Oper),ops[i]?=some o->BX o.op=true->FW t s' (i+1)=FW t s' i/\KQ t i=Pz ops (IH fr (Cm ops) (KQ t) (λ_=>true) i) o (s.nx+rk ops i):=by
   intro i o ho fP;obtain⟨fi,h1,h2⟩:=T9 i o (Ci ho);have:=YU i _ h1;simp only[Nat.zero_add] at this;rcases h2 with ⟨h2,_⟩ | ⟨_,h2⟩
   rw[fP] at h2;cases h2;rw[<- this];exact h2
 have nZ:∀o:Oper,quiet o.op=true->BX o.op=false:=by
   intro o hq;cases fP:BX o.op with
   | false=>rfl
   | true=>obtain⟨e,he⟩:=K2 fP;rw[RL he] at hq;cases hq
 have VU:∀o:Oper,calm o.op=false->BX o.op=false:=by
   intro o hq;cases fP:BX o.op with
   | false=>rfl
   | true=>unfold calm at hq;rw[fP] at hq;cases hq
 have hsn:FW t s' ops.size=s':=by
   unfold FW;rw[List.getElem?_eq_none (by omega)]
 have hsk:∀k,k<=ops.size->(t.map (λx=>x.2.1)++[s'])[k]?=some (FW t s' k):=by
   intro k hk;unfold FW;by_cases hkt:k < t.length;rw[List.getElem?_append_left (by simpa using hkt),List.getElem?_map,List.getElem?_eq_getElem hkt];rfl
   have:k=t.length:=by omega
   subst this;rw[List.getElem?_append_right (by simp)];simp
 have sX:∀l,l∈NK ops.toList 0->Zb ops l:=by
   intro l hl;obtain⟨j,o',e,h5,h6⟩:=fX hl;rw[Nat.zero_add] at e;subst e;exact⟨o',by rw[<- Array.getElem?_toList];exact h5,h6⟩
 have key:=J.draw (P:=P) (G:=G) (X:=XS P G) (H:=H0) (id:=id) (f0:=fr) (s0:=s) r (KQ t) (FW t s') h0 H3 (λi o ho hl=>HV i o ho (VU o hl)) (λi o ho hq=>by
   obtain⟨h1,h2⟩:=Kk hq (HV i o ho (nZ o hq));refine⟨h1,?_⟩;rcases h2 with h2 | ⟨hw,h2⟩
   exact .inl h2
   . refine .inr ⟨hw,λk hk aK=>?_⟩
     cases hrd:reads o.op with
     | false=>exact Ur hq hrd h2 _
     | true =>
       obtain⟨fi,hti,_⟩:=T9 i o (Ci ho);have hfi:=YU i _ hti;simp only[Nat.zero_add] at hfi;have hin:=w8 hi (Ci ho) hti (by rw[hfi];exact hw);rw[hfi] at hin;exact aa2 hq hrd hin (hfk i) (hfk k) h2) (λi o e ho he=>by
   have fP:BX o.op=true:=by rw[he];rfl
   obtain⟨h1,h2⟩:=amb i o ho fP;refine⟨h1,?_⟩
   have hrk:rk ops i < r.length:=by
     rw[agC hr];exact qT (Ci ho) fP (by rw[Array.length_toList];exact(Array.getElem?_eq_some_iff.1 ho).1)
   cases hw:CG ops (IH fr (Cm ops) (KQ t) (λ_=>true) i) o with
   | false=>unfold Pz at h2;rw[hw] at h2;exact .inl ⟨rfl,h2⟩
   | true =>
     unfold Pz at h2;rw[hw] at h2;obtain⟨fi,hti,_⟩:=T9 i o (Ci ho);have hfi:=YU i _ hti;simp only[Nat.zero_add] at hfi
     have hal:TZ P ops (Is ops.toList []) (NK ops.toList 0) (t.map (·.2.1)++[s']) ops.toList t 0 s.nx=true:=by
       unfold XZ at abN;split at abN;simp at hrk;exact abN
     obtain⟨z,hz,hbx⟩:=vR hal (Ci ho) hti he (by rw[hfi];exact hw);rw[Nat.zero_add] at hbx;exact .inr ⟨rfl,z,hz,hrk,h2,λk hk aK=>wB hbx (hsk k hk) (by rw[Nat.zero_add];exact ahN sX aK)⟩)
 rw[<- YT,hsn] at key;exact key
end
end AI
namespace AI
open Go Go.RowKit
def wS(P:Program)(G:Bc)(ops:Array Oper)(c:Nat):List Oper->Nat->List Hn->List AV->AS->HT
 | [],_,hs,fr,s=>some (hs,[],[],fr,s)
 | o::l,i,hs,fr,s=>(match (match Nat.beq i c with
     | true=>bK P G ops fr s o hs
     | false=>j9 P G ops fr s o hs) with
   | some (v,s1,Se,cd)=>wR cd (fr,s,v) (wS P G ops c l (i+1) Se (JE fr o.dst v) s1)
   | none=>none)
def Vj(ms:List Nat)(c:Nat):List Oper->Nat->Bool
 | [],_=>true
 | o::l,i=>(match Nat.beq i c with
   | true=>!calm o.op
   | false=>(match Oi o.op with
     | true=>Nat.blt i c
     | false=>quiet o.op&&(!reads o.op||(Nat.blt i c&&S7 ms c i))))&&Vj ms c l (i+1)
section
variable {P:Program} {G:Bc} {ops:Array Oper}
def Y5{ms:List Nat}{c:Nat}:∀{l:List Oper} {i j:Nat} {o:Oper},Vj ms c l i=true->l[j]?=some o->(i+j=c->calm o.op=false)/\(i+j≠c->(Oi o.op=true/\i+j < c)\/(quiet o.op=true/\(reads o.op=true->i+j < c/\S7 ms c (i+j)=true))):=by
 intro l
 induction l with
 | nil=>intro i j o h ho;simp at ho
 | cons x l ih =>
   intro i j o h ho;simp only[Vj,Bool.and_eq_true] at h;cases j with
   | zero =>
     simp at ho;subst ho;have h1:=h.1;split at h1;rename_i hb;have:=Nat.eq_of_beq_eq_true hb;exact⟨λ_=>by simpa using h1,λhn=>absurd this hn⟩
     rename_i hb;have:=Nat.ne_of_beq_eq_false hb;refine⟨λhn=>absurd hn this,λ_=>?_⟩;split at h1;rename_i hv;exact .inl ⟨hv,Nat.le_of_ble_eq_true h1⟩;simp only[Bool.and_eq_true,Bool.or_eq_true,Bool.not_eq_true'] at h1;refine .inr ⟨h1.1,λhr=>?_⟩;rcases h1.2 with h2 | h2
     rw[hr] at h2;cases h2;exact⟨Nat.le_of_ble_eq_true h2.1,h2.2⟩
   | succ j =>
     have:=ih (i:=i+1) (j:=j) h.2 (by simpa using ho)
     rw[show i+(j+1)=i+1+j by omega];exact this
def W2{ms:List Nat}{c:Nat}{l:List Oper}{i j:Nat}{o:Oper}(hl:Vj ms c l i=true)(hj:l[j]?=some o):BX o.op=false:=by
 have ho:=Y5 hl hj;cases ha:BX o.op with
 | false=>rfl
 | true =>
   obtain⟨e,he⟩:=K2 ha;by_cases hic:i+j=c;have:=ho.1 hic;unfold calm at this;rw[ha] at this;simp at this;rcases ho.2 hic with ⟨h1,_⟩ | ⟨h1,_⟩
   rw[he] at h1;cases h1;rw[RL he] at h1;cases h1
def afk{fr:List AV}{s s1:AS}{o:Oper}{hs CX:List Hn}{v:AV}{cd:List Cd}(h:bK P G ops fr s o hs=some (v,s1,CX,cd))(hv:Oi o.op=true)(hA:fR hs=false):s1=s:=by
 unfold bK at h;split at h;unfold Oi at hv;split at hv;rename_i cl ho;split at hv;rename_i f Ii;unfold wO at h;rw[ho] at h;simp only[Ii] at h;unfold YO at h;split at h;split at h;cases h;rfl;cases h;simp[fR] at hA;simp[fR] at hA;simp[fR] at hA;cases h;cases hv;cases hv;cases h;rfl
def afq{c q:Nat}{ms:List Nat}:∀{l:List Oper} {i:Nat} {hs CX:List Hn} {fr Cp:List AV} {s s':AS} {cd:List Cd} {t:List (List AV×AS×AV)},wS P G ops c l i hs fr s=some (CX,cd,t,Cp,s')->R1 P G cd->Vj ms c l i=true->Tn P G (XS P G) H0 ops q l fr s t Cp s'/\∀j,j<=l.length->i+j<=c->FW t s' j=s:=by
 intro l
 induction l with
 | nil =>
   intro i hs CX fr Cp s s' cd t h hc hl;simp only[wS] at h;cases h;exact⟨.nil,λj hj _=>by rfl⟩
 | cons o l ih =>
   intro i hs CX fr Cp s s' cd t h hc hl;simp only[wS] at h;split at h
   . rename_i v s1 Se zZ h1
     unfold wR at h;split at h
     . rename_i bQ wD t2 fr2 s2 h2
       cases h;obtain⟨c1,c2⟩:=hc.WK;have ho:=Y5 (j:=0) hl rfl;have nZ:BX o.op=false:=W2 (j:=0) hl rfl
       have fG:Vj ms c l (i+1)=true:=by
         simp only[Vj,Bool.and_eq_true] at hl;exact hl.2
       have h3:bK P G ops fr s o hs=some (v,s1,Se,zZ):=by
         split at h1;exact h1;exact(Ta h1).1
       have hj:=PI h3 c1;obtain⟨k1,k2⟩:=ih h2 c2 fG;refine⟨.cons nZ hj k1,λj hjl hjc=>?_⟩;cases j with
       | zero=>rfl
       | succ j =>
         have e1:FW ((fr,s,v)::t2) s' (j+1)=FW t2 s' j:=by unfold FW;simp
         rw[e1,k2 j (by simpa using hjl) (by omega)]
         have hic:i+0≠c:=by omega
         rcases ho.2 hic with ⟨hv,_⟩ | ⟨hq,_⟩
         split at h1;rename_i hb;have:=Nat.eq_of_beq_eq_true hb;omega;exact afk h3 hv ((Ta h1).2 hv);exact(Kk hq hj).1
     cases h
   cases h
def wJ{id c:Nat}{fr Cp:List AV}{s s':AS}{t:List (List AV×AS×AV)}{hs CX:List Hn}{cd:List Cd}(H3:MV ops=true)(sV:Nat.blt c ops.size=true)(hl:Vj (Is ops.toList []) c ops.toList 0=true)(h:wS P G ops c ops.toList 0 hs fr s=some (CX,cd,t,Cp,s'))(hc:R1 P G cd):J P G (XS P G) H0 (.code (.region id ops true) fr s .normal Cp s'):=by
 have Ii:c < ops.size:=Nat.le_of_ble_eq_true sV;obtain⟨wY,hsm⟩:=afq (q:=s.nx) h hc hl;have hlen:t.length=ops.size:=by rw[wY.len,Array.length_toList]
 obtain⟨h0,T9⟩:=wY.at;have pI:∀i o,ops[i]?=some o->Cm ops i=o.dst:=λi o ho=>by unfold Cm;rw[ho];rfl
 obtain⟨YT,YU⟩:=wY.eX (Cm ops) (KQ t) fr 0 rfl (λi o ho=>by rw[Nat.zero_add];exact pI i o (by rw[<- Array.getElem?_toList];exact ho)) (λi=>.inl (by rw[Nat.zero_add]));rw[Nat.zero_add,Array.length_toList] at YT
 have aii:∀(i:Nat) (o:Oper),ops[i]?=some o->(i=c->calm o.op=false)/\(i≠c->(Oi o.op=true/\i < c)\/(quiet o.op=true/\(reads o.op=true->i < c/\S7 (Is ops.toList []) c i=true))):=by
   intro i o ho;have:=Y5 (j:=i) hl (Ci ho);rwa[Nat.zero_add] at this
 have abG:∀(i:Nat) (o:Oper),ops[i]?=some o->BX o.op=false:=λi o ho=>W2 (j:=i) hl (Ci ho)
 have HV:∀(i:Nat) (o:Oper),ops[i]?=some o->J P G (XS P G) H0 (.op ops o (IH fr (Cm ops) (KQ t) (λ_=>true) i) (FW t s' i) (.ret (KQ t i)) (FW t s' (i+1))):=by
   intro i o ho;obtain⟨fi,h1,h2⟩:=T9 i o (Ci ho);have:=YU i _ h1;simp only[Nat.zero_add] at this;rcases h2 with ⟨_,h2⟩ | ⟨h2,_⟩
   rw[<- this];exact h2;rw[abG i o ho] at h2;cases h2
 have hsn:FW t s' ops.size=s':=by
   unfold FW;rw[List.getElem?_eq_none (by omega)]
 have TM:∀k,k<=c->FW t s' k=s:=λk hk=>hsm k (by rw[Array.length_toList];omega) (by omega)
 have sX:Zb ops c:=by
   have ho:ops[c]?=some ops[c]:=Array.getElem?_eq_getElem Ii;exact⟨_,ho,(aii c _ ho).1 rfl⟩
 have key:=J.draw (P:=P) (G:=G) (X:=XS P G) (H:=H0) (id:=id) (f0:=fr) (s0:=s) [] (KQ t) (FW t s') h0 H3 (λi o ho _=>HV i o ho) (λi o ho hq=>by
   obtain⟨h1,h2⟩:=Kk hq (HV i o ho);refine⟨h1,?_⟩;rcases h2 with h2 | ⟨hw,h2⟩
   exact .inl h2
   . refine .inr ⟨hw,λk hk aK=>?_⟩
     cases hrd:reads o.op with
     | false=>exact Ur hq hrd h2 _
     | true =>
       have hic:i≠c:=λe=>by
         subst e;obtain⟨o2,ho2,hcm⟩:=sX;rw[ho] at ho2;cases ho2;rw[Yu hq] at hcm;cases hcm
       obtain⟨GM,hd⟩:i < c/\S7 (Is ops.toList []) c i=true:=by
         rcases(aii i o ho).2 hic with ⟨hv,_⟩ | ⟨_,h3⟩
         exfalso;unfold Oi at hv;split at hv;rename_i cl kF;split at hv;rename_i f apL;rw[kF] at hq;simp[quiet,apL] at hq;cases hv;cases hv;exact h3 hrd
       have hkc:=aK.2 c sX hd;rw[TM k hkc];rw[TM i (by omega)] at h2;exact h2) (λi o e ho he=>by
   have:=abG i o ho;rw[he] at this;cases this)
 rw[<- YT,hsn] at key;exact key
end
end AI
namespace AI
open Go Go.RowKit
def adJ(G:Bc)(fr:List AV)(o:Oper)(hs:List Hn):Option (List Nat):=match o.op with
 | .store _ a _=>(match Bg G fr a with
   | some (.ptr id _)=>some [id]
   | _=>none)
 | .mapUpdate _ m _ _=>(match AZ G fr m with
   | some (.mp id)=>some [id]
   | _=>none)
 | .call cl=>(match cl.callee with
   | .value _=>(match hs with
     | .w _::_=>some []
     | .u _ _ _ RB _::_=>some (RB.map (·.1))
     | .cn _ h _ _ _::_=>some (h.map (·.1))
     | _=>none)
   | .builtin .append=>(match hs with
     | .g _ _ _::_=>some []
     | .ae _::_=>some []
     | _=>none)
   | _=>(match quiet o.op with
     | true=>some []
     | false=>none))
 | op=>(match quiet op with
   | true=>some []
   | false=>none)
def ZJ(G:Bc)(ops:Array Oper)(fr:List AV)(o:Oper)(hs:List Hn):Option (List Nat):=match CG ops fr o with
 | true=>adJ G fr o hs
 | false=>some []
abbrev HA:=Option (List Hn×List Cd×List (List AV×AS×AV)×List (List Nat)×List AV×AS)
def aif(cd:List Cd)(x:List AV×AS×AV)(T:List Nat):HA->HA
 | some (hs,cd',t,Ts,fr,s)=>some (hs,cd++cd',x::t,T::Ts,fr,s)
 | none=>none
def wQ(P:Program)(G:Bc)(ops:Array Oper):List Oper->List Hn->List AV->AS->HA
 | [],hs,fr,s=>some (hs,[],[],[],fr,s)
 | o::l,hs,fr,s=>(match BX o.op with
   | true=>none
   | false=>(match ZJ G ops fr o hs with
     | some T=>(match bK P G ops fr s o hs with
       | some (v,s1,Se,cd)=>aif cd (fr,s,v) T (wQ P G ops l Se (JE fr o.dst v) s1)
       | none=>none)
     | none=>none))
def agh(G:Bc)(fr:List AV)(o:Oper):Option (Option Nat):=match o.op with
 | .load _ a=>(match AZ G fr a with
   | some (.ptr id _)=>some (some id)
   | some (.el _)=>some none
   | _=>none)
 | .lookup _ m _ _=>(match AZ G fr m with
   | some (.mp id)=>some (some id)
   | _=>none)
 | .call cl=>(match cl.callee with
   | .builtin .len=>(match cl.args.toList with
     | [x]=>(match slV (AZ G fr x) with
       | true=>some none
       | false=>none)
     | _=>none)
   | _=>none)
 | _=>none
def acg(a:Nat):List Nat->Bool
 | []=>false
 | b::l=>(match Nat.beq a b with
   | true=>true
   | false=>acg a l)
def VH(ms:List Nat)(id i:Nat):List (List Nat)->Nat->Bool
 | [],_=>true
 | T::Ts,l=>(match acg id T with
   | true=>(match Nat.blt l i with
     | true=>S7 ms i l
     | false=>(match Nat.blt i l with
       | true=>S7 ms l i
       | false=>true))
   | false=>true)&&VH ms id i Ts (l+1)
def lQ(G:Bc)(ops:Array Oper)(ms:List Nat)(Ts:List (List Nat)):List Oper->List (List AV×AS×AV)->Nat->Bool
 | o::os,t::ts,i=>(match CG ops t.1 o with
   | false=>true
   | true=>(match reads o.op with
     | false=>true
     | true=>(match agh G t.1 o with
       | none=>false
       | some none=>true
       | some (some id)=>VH ms id i Ts 0)))&&lQ G ops ms Ts os ts (i+1)
 | _,_,_=>true
def kT{a:Nat}:∀{l:List Nat},acg a l=true↔a∈l
 | []=>by simp[acg]
 | b::l=>by
   simp only[acg];cases hb:Nat.beq a b with
   | true=>have:=Nat.eq_of_beq_eq_true hb;simp[this]
   | false =>
     have:=Nat.ne_of_beq_eq_false hb;simp[kT (l:=l),this]
def mS{id:Nat}:∀(l:List (Nat×Bl)) (s:AS),id∉l.map (·.1)->(s.Wv l).get id=s.get id
 | [],_,_=>rfl
 | e::l,s,h=>by
   simp only[List.map_cons,List.mem_cons,not_or] at h;rw[AS.Wv,mS l _ h.2];exact JX h.1 _
def kP{id:Nat}:∀{l:List (Nat×Bl)} (m:List (Nat×Bl)),id∉l.map (·.1)->look id (l++m)=look id m
 | [],_,_=>rfl
 | e::l,m,h=>by
   simp only[List.map_cons,List.mem_cons,not_or] at h;simp only[List.cons_append,look]
   have hb:Nat.beq e.1 id=false:=by
     cases hq:Nat.beq e.1 id with
     | false=>rfl
     | true=>exact absurd (Nat.eq_of_beq_eq_true hq).symm h.1
   rw[hb];exact kP m h.2
def bI{id:Nat}:∀(l:List (Nat×Nat)) (s:AS),(s.TK l).get id=s.get id
 | [],_=>rfl
 | e::l,s=>by rw[AS.TK,bI l];rfl
section
variable {P:Program} {G:Bc} {ops:Array Oper}
def wP{fr:List AV}{s s1:AS}{o:Oper}{hs CX:List Hn}{v:AV}{cd:List Cd}{T:List Nat}(h:bK P G ops fr s o hs=some (v,s1,CX,cd))(hT:ZJ G ops fr o hs=some T)(hc:R1 P G cd)(ha:BX o.op=false)(id:Nat)(hid:id∉T):s1.get id=s.get id:=by
 have hj:=PI h hc;cases hq:quiet o.op with
 | true=>rw[(Kk hq hj).1]
 | false =>
   unfold bK at h;unfold ZJ at hT;split at h
   . rename_i hw
     rw[hw] at hT;simp only at hT;unfold adJ at hT;split at hT;rename_i t a x ho;unfold wO at h;rw[ho] at h;simp only at h
     have h1:∃a' x',Bg G fr a=some a'/\Bg G fr x=some x'/\Me P s t a' x'=some s1:=by
       rcases V4 h hc with ⟨a',x',h2,h3,h4,_⟩ | h2
       exact⟨a',x',h2,h3,h4⟩;have h1:=V3 h2;rw[ND] at h1;unfold QW at h1;rw[ho] at h1;simp only at h1;split at h1;rename_i a' x' ha' Y0;obtain⟨s',Gz,he⟩:=map_some h1;injection he with he1 he2
       subst he2;exact⟨a',x',ha',Y0,Gz⟩;cases h1
     obtain⟨a',x',ha',Y0,Gz⟩:=h1;rw[ha'] at hT;split at hT;rename_i RN off OX;cases OX;cases hT;simp only[List.mem_singleton] at hid;unfold Me at Gz;split at Gz;rename_i i id2 aqG hi2 abA;cases abA;split at Gz;split at Gz;cases Gz;exact JX hid _;cases Gz;cases Gz;cases Gz;cases hT
     . rename_i t m k x ho
       unfold wO at h;rw[ho] at h;simp only at h;split at hT
       . rename_i RN OX
         rw[OX] at h;cases hT;simp only[List.mem_singleton] at hid;simp only at h;split at h
         . split at h
           . have agL:∀kk x' s2,KS P s t (.mp RN) kk x'=some s2->s2.get id=s.get id:=by
               intro kk x' s2 h2;unfold KS at h2
               repeat' split at h2
               all_goals first
                 | (cases h2;done)
                 | (rename_i abA;cases abA;cases h2;exact JX hid _)
                 | (simp_all only [AV.mp.injEq,Option.some.injEq];subst_vars;exact JX hid _)
             unfold ajD at h;split at h;cases h;exact agL _ _ _ hc.1;cases h;exact JX hid _;cases h
           cases h
         cases h
       cases hT
     rename_i cl ho;split at hT;rename_i f Ii;unfold wO at h;rw[ho] at h;simp only[Ii] at h;unfold YO at h;split at h;split at h;cases h;rfl;cases h;cases hT;split at h;cases h;cases hT;rw[bI];exact mS _ _ hid;cases h;split at h;cases h;cases hT;exact kP _ hid;cases h;cases h;rename_i Ii;unfold wO at h;rw[ho] at h;simp only[Ii] at h;split at hT;split at h;split at h;split at h;unfold abe at h;simp only at h;split at h;cases h;rfl;split at h;split at h;cases h;rfl;cases h;cases h;cases h;cases h;cases h;cases h;split at h;split at h;split at h;unfold abe at h;simp only at h;cases h;rfl;cases h;cases h;cases h;cases hT;rw[hq] at hT;cases hT;rw[hq] at hT;cases hT
   cases h;rfl
def rI{fr:List AV}{o:Oper}{hs:List Hn}{T:List Nat}(hT:ZJ G ops fr o hs=some T){id:Nat}(h:id∈T)(ha:BX o.op=false):calm o.op=false:=by
 unfold calm;rw[ha];simp only;cases hq:quiet o.op with
 | false=>rfl
 | true =>
   exfalso;unfold ZJ at hT;split at hT;unfold adJ at hT;split at hT;rename_i ho;rw[ho] at hq;cases hq;rename_i ho;rw[ho] at hq;cases hq;rename_i cl ho;split at hT;rename_i Ii;rw[ho] at hq;simp[quiet,Ii] at hq;split at hT;cases hT;cases h;cases hT;cases h;cases hT;rw[hq] at hT;cases hT;cases h;rw[hq] at hT;cases hT;cases h;cases hT;cases h
def afp{q:Nat}:∀{l:List Oper} {hs CX:List Hn} {fr Cp:List AV} {s s':AS} {cd:List Cd} {t:List (List AV×AS×AV)} {Ts:List (List Nat)},wQ P G ops l hs fr s=some (CX,cd,t,Ts,Cp,s')->R1 P G cd ->
   Tn P G (XS P G) H0 ops q l fr s t Cp s'/\(∀o∈l,BX o.op=false)/\(∀(i:Nat) id,i < l.length->(∀T,Ts[i]?=some T->id∉T)->(FW t s' (i+1)).get id=(FW t s' i).get id)/\∀(i:Nat) o T id,l[i]?=some o->Ts[i]?=some T->id∈T->calm o.op=false:=by
 intro l
 induction l with
 | nil =>
   intro hs CX fr Cp s s' cd t Ts h hc;simp only[wQ] at h;cases h;exact⟨.nil,(λo h=>by cases h),(λi id h=>by simp at h),λi o T id h=>by simp at h⟩
 | cons o l ih =>
   intro hs CX fr Cp s s' cd t Ts h hc;simp only[wQ] at h;split at h;cases h
   . rename_i ha
     split at h
     . rename_i T hT
       split at h
       . rename_i v s1 Se zZ h1
         unfold aif at h;split at h
         . rename_i bQ wD t2 Ts2 fr2 s2 h2
           cases h;obtain⟨c1,c2⟩:=hc.WK;obtain⟨k1,k2,k3,k4⟩:=ih h2 c2;refine⟨.cons ha (PI h1 c1) k1,λo' WX=>?_,λi id hi hno=>?_,λi o' T' id WX hT' hid=>?_⟩;rcases List.mem_cons.1 WX with rfl | WX
           exact ha;exact k2 o' WX
           . cases i with
             | zero =>
               have e1:FW ((fr,s,v)::t2) s' 0=s:=rfl
               have e2:FW ((fr,s,v)::t2) s' (0+1)=s1:=by
                 rw[show FW ((fr,s,v)::t2) s' (0+1)=FW t2 s' 0 by unfold FW;simp];exact k1.at.1
               rw[e1,e2];exact wP h1 hT c1 ha id (hno T rfl)
             | succ i =>
               have e:∀j,FW ((fr,s,v)::t2) s' (j+1)=FW t2 s' j:=λj=>by unfold FW;simp
               rw[e,e];exact k3 i id (by simpa using hi) (λT' h'=>hno T' (by simpa using h'))
           cases i with
           | zero=>simp at WX hT';subst WX hT';exact rI hT hid ha
           | succ i=>exact k4 i o' T' id (by simpa using WX) (by simpa using hT') hid
         cases h
       cases h
     cases h
def ZI{ms:List Nat}{id i:Nat}:∀{Ts:List (List Nat)} {l0:Nat},VH ms id i Ts l0=true->∀{l:Nat} {T:List Nat},Ts[l]?=some T->id∈T->(l0+l < i->S7 ms i (l0+l)=true)/\(i < l0+l->S7 ms (l0+l) i=true):=by
 intro Ts
 induction Ts with
 | nil=>intro l0 _ l T h;simp at h
 | cons T0 Ts ih =>
   intro l0 h l T hT hid;simp only[VH,Bool.and_eq_true] at h;cases l with
   | zero =>
     simp at hT;subst hT;have h1:=h.1;rw[kT.2 hid] at h1;simp only at h1;constructor;intro GM;have e:Nat.blt l0 i=true:=Nat.ble_eq_true_of_le GM;rw[e] at h1;exact h1;intro GM
     have e:Nat.blt l0 i=false:=by
       cases hq:Nat.blt l0 i with
       | false=>rfl
       | true=>have:=Nat.le_of_ble_eq_true hq;omega
     have e2:Nat.blt i l0=true:=Nat.ble_eq_true_of_le GM;rw[e,e2] at h1;exact h1
   | succ l =>
     have:=ih h.2 (l:=l) (by simpa using hT) hid
     rw[show l0+(l+1)=l0+1+l by omega];exact this
def acH{ms:List Nat}{Ts:List (List Nat)}:∀{os:List Oper} {ts:List (List AV×AS×AV)} {i:Nat},lQ G ops ms Ts os ts i=true->∀{j:Nat} {o:Oper} {x:List AV×AS×AV},os[j]?=some o->ts[j]?=some x->CG ops x.1 o=true->reads o.op=true->∃r,agh G x.1 o=some r/\∀id,r=some id->VH ms id (i+j) Ts 0=true:=by
 intro os
 induction os with
 | nil=>intro ts i _ j o x h;simp at h
 | cons y os ih =>
   intro ts i h j o x ho hx hw hr;cases ts with
   | nil=>simp at hx
   | cons t ts =>
     simp only[lQ,Bool.and_eq_true] at h;cases j with
     | zero =>
       simp at ho hx;subst ho hx;have h1:=h.1;rw[hw,hr] at h1;simp only at h1;split at h1;cases h1;rename_i hq;exact⟨none,hq,λid h=>by cases h⟩;rename_i id hq;exact⟨some id,hq,λRN h=>by cases h;exact h1⟩
     | succ j =>
       have:=ih h.2 (j:=j) (by simpa using ho) (by simpa using hx) hw hr
       rw[show i+(j+1)=i+1+j by omega];exact this
def agi{fr:List AV}{s s2:AS}{o:Oper}{v:AV}{r:Option Nat}(hr:agh G fr o=some r)(hs:∀id,r=some id->s2.get id=s.get id)(h:QW P G fr s o=some (.val v s)):QW P G fr s2 o=some (.val v s2):=by
 unfold agh at hr;split at hr;rename_i t a ho;rw[Cv] at hr;unfold QW at h ⊢;rw[ho] at h ⊢;simp only at h ⊢;obtain⟨v',h3,h4⟩:=map_some h;injection h4 with h4
 subst h4;obtain⟨b,h5,h6⟩:=bind_some h3;rw[h5] at hr ⊢;split at hr;rename_i id off OX;cases OX;cases hr
 have:K8 P s2 t (.ptr id off)=K8 P s t (.ptr id off):=by
   simp only[K8];rw[hs id rfl]
 simp only[Option.bind_some];rw[this,h6];rfl;rename_i OX;cases OX;simp only[Option.bind_some];rw[show K8 P s2 t (.el _)=K8 P s t (.el _) from rfl,h6];rfl;cases hr;rename_i t m k ok ho;rw[Cv] at hr;unfold QW at h ⊢;rw[ho] at h ⊢;simp only at h ⊢;split at hr;rename_i id OX;cases hr;rw[OX] at h ⊢;split at h;rename_i a b ha hb;cases ha;obtain⟨v',h3,h4⟩:=map_some h;injection h4 with h4
 subst h4
 have:Jm P s2 t (.mp id) b ok=Jm P s t (.mp id) b ok:=by
   simp only[Jm];rw[hs id rfl]
 rw[this,h3];rfl;cases h;cases hr
 . rename_i cl ho
   split at hr
   . rename_i Ii
     unfold QW at h ⊢;rw[ho] at h ⊢;simp only[TF,Ii] at h ⊢;split at hr
     . rename_i x hx
       rw[hx] at h ⊢;cases ht:cl.argTypes.toList with
       | nil=>rw[ht] at h;cases h
       | cons t1 ts =>
         cases ts with
         | cons _ _=>rw[ht] at h;cases h
         | nil =>
           rw[ht] at h;simp only at h ⊢;obtain⟨v',h3,h4⟩:=map_some h;injection h4 with h4
           subst h4;obtain⟨b,h5,h6⟩:=bind_some h3;rw[Cv,h5] at hr;rw[h5];simp only[Option.bind_some];split at hr
           . rename_i hsl
             have:Xh P s2 t1 b=Xh P s t1 b:=by
               unfold slV at hsl;split at hsl
               . rename_i OX;cases OX;unfold Xh;split<;>first | rfl | (simp_all;done)
               . rename_i OX;cases OX;unfold Xh;split<;>first | rfl | (simp_all;done)
               cases hsl
             rw[this,h6];rfl
           cases hr
     cases hr
   cases hr
 cases hr
def aaL{id:Nat}{fr Cp:List AV}{s s':AS}{t:List (List AV×AS×AV)}{Ts:List (List Nat)}{hs CX:List Hn}{cd:List Cd}(H3:MV ops=true)(h:wQ P G ops ops.toList hs fr s=some (CX,cd,t,Ts,Cp,s'))(hr:lQ G ops (Is ops.toList []) Ts ops.toList t 0=true)(hc:R1 P G cd):J P G (XS P G) H0 (.code (.region id ops true) fr s .normal Cp s'):=by
 obtain⟨wY,nZ,Gz,hlo⟩:=afp (q:=s.nx) h hc;have hlen:t.length=ops.size:=by rw[wY.len,Array.length_toList]
 obtain⟨h0,T9⟩:=wY.at;have pI:∀i o,ops[i]?=some o->Cm ops i=o.dst:=λi o ho=>by unfold Cm;rw[ho];rfl
 obtain⟨YT,YU⟩:=wY.eX (Cm ops) (KQ t) fr 0 rfl (λi o ho=>by rw[Nat.zero_add];exact pI i o (by rw[<- Array.getElem?_toList];exact ho)) (λi=>.inl (by rw[Nat.zero_add]));rw[Nat.zero_add,Array.length_toList] at YT;have abG:∀(i:Nat) (o:Oper),ops[i]?=some o->BX o.op=false:=λi o ho=>nZ o (List.mem_of_getElem? (Ci ho))
 have HV:∀(i:Nat) (o:Oper),ops[i]?=some o->J P G (XS P G) H0 (.op ops o (IH fr (Cm ops) (KQ t) (λ_=>true) i) (FW t s' i) (.ret (KQ t i)) (FW t s' (i+1))):=by
   intro i o ho;obtain⟨fi,h1,h2⟩:=T9 i o (Ci ho);have:=YU i _ h1;simp only[Nat.zero_add] at this;rcases h2 with ⟨_,h2⟩ | ⟨h2,_⟩
   rw[<- this];exact h2;rw[abG i o ho] at h2;cases h2
 have hsn:FW t s' ops.size=s':=by
   unfold FW;rw[List.getElem?_eq_none (by omega)]
 have hTl:∀(l:Nat) T id,Ts[l]?=some T->id∈T->l < ops.size->Zb ops l:=by
   intro l T id hT hid hl;exact⟨ops[l],Array.getElem?_eq_getElem hl,hlo l ops[l] T id (Ci (Array.getElem?_eq_getElem hl)) hT hid⟩
 have TM:∀(bx:Nat) (d i:Nat),i+d<=ops.size->(∀l,i<=l->l < i+d->∀T,Ts[l]?=some T->bx∉T)->(FW t s' (i+d)).get bx=(FW t s' i).get bx:=by
   intro bx d
   induction d with
   | zero=>intro i _ _;rfl
   | succ d ih =>
     intro i hle hno;rw[show i+(d+1)=(i+d)+1 by omega,Gz (i+d) bx (by rw[Array.length_toList];omega) (hno (i+d) (by omega) (by omega))];exact ih i (by omega) (λl h1 h2=>hno l h1 (by omega))
 have key:=J.draw (P:=P) (G:=G) (X:=XS P G) (H:=H0) (id:=id) (f0:=fr) (s0:=s) [] (KQ t) (FW t s') h0 H3 (λi o ho _=>HV i o ho) (λi o ho hq=>by
   obtain⟨h1,h2⟩:=Kk hq (HV i o ho);refine⟨h1,?_⟩;rcases h2 with h2 | ⟨hw,h2⟩
   exact .inl h2
   . refine .inr ⟨hw,λk hk aK=>?_⟩
     cases hrd:reads o.op with
     | false=>exact Ur hq hrd h2 _
     | true =>
       have hil:i < ops.size:=(Array.getElem?_eq_some_iff.1 ho).1;obtain⟨fi,hti,_⟩:=T9 i o (Ci ho);have hfi:=YU i _ hti;simp only[Nat.zero_add] at hfi;obtain⟨r,hr1,bO⟩:=acH hr (Ci ho) hti (by rw[hfi];exact hw) hrd;rw[hfi] at hr1;refine agi hr1 (λbx hbx=>?_) h2;have hto:=bO bx hbx;rw[Nat.zero_add] at hto;rcases Nat.lt_or_ge k i with hki | hki
       have:=TM bx (i - k) k (by omega) (λl h3 h4 T hT hm=>by
         have hd:=(ZI hto hT hm).1 (by omega);rw[Nat.zero_add] at hd;have:=aK.1 l (hTl l T bx hT hm (by omega)) hd;omega)
       rw[show k+(i - k)=i by omega] at this;exact this.symm
       have:=TM bx (k - i) i (by omega) (λl h3 h4 T hT hm=>by
         have wX:=hTl l T bx hT hm (by omega);rcases Nat.lt_or_ge i l with h5 | h5
         have hd:=(ZI hto hT hm).2 (by omega);rw[Nat.zero_add] at hd;have:=aK.2 l wX hd;omega;have:l=i:=by omega
         subst this;obtain⟨o2,ho2,hcm⟩:=wX;rw[ho] at ho2;cases ho2;rw[Yu hq] at hcm;cases hcm)
       rw[show i+(k - i)=k by omega] at this;exact this) (λi o e ho he=>by
   have:=abG i o ho;rw[he] at this;cases this)
 rw[<- YT,hsn] at key;exact key
end
end AI
namespace AI
open Go Go.RowKit
section
variable {P:Program} {G:Bc} {ops:Array Oper} {f0:List AV} {vals:Nat->AV} {s0 s1:AS} {p:Nat} {v:AV}
structure aov(G:Bc)(ops:Array Oper)(f0:List AV)(vals:Nat->AV)(s0:AS)(p:Nat)(nV:Cx)(w0:World)(L:Array Bool)(a:Act)(w:World):Prop where
 size:L.size=ops.size
 closed:N7 ops.toList (λj=>L.getD j false)
 st:∃c,Ext nV w0 c w/\St G c w s0/\CY c w (IH f0 (Cm ops) vals (λj=>L.getD j false) ops.size) a.tmps.toList
 defers:a.defers=[]
 out:L.getD p false=false
def aaO(H3:MV ops=true)(hp:p < ops.size)
   (hl:∀i o,ops[i]?=some o->i≠p->(p < i->S7 (Is ops.toList []) i p=false)->Sound P G (.op ops o (IH f0 (Cm ops) vals (λ_=>true) i) s0 (.ret (vals i)) s0))
   (ajS:∀o,ops[p]?=some o->Sound P G (.op ops o (IH f0 (Cm ops) vals (λ_=>true) p) s0 (.JK v) s1))
   {nV:Cx} {w0:World} {Cp:List AV} (Q:Exit->Act->World->Prop) (hQ:∀e' a' w',TC G nV w0 (.JK v) Cp s1 e' a' w'->Q e' a' w') :
   ∀(Lr:Nat) (L:Array Bool) (a:Act) (w:World),aov G ops f0 vals s0 p nV w0 L a w->jN (λj=>L.getD j false) ops.size=Lr->wpAny P .any ops Q Lr L a w:=by
 intro Lr
 induction Lr with
 | zero =>
   intro L a w hI hc;have:=jP ops.size hc p hp;rw[hI.out] at this;cases this
 | succ Lr ih =>
   intro L a w hI apM;refine⟨λfI=>?_,λi hi=>?_⟩
   . exfalso
     have all:∀i,i < ops.size->L.getD i false=true:=by
       intro i
       induction i using Nat.strongRecOn with
       | _ i ihi =>
         intro GM;cases iP:L.getD i false with
         | true=>rfl
         | false =>
           exfalso;have ho:ops[i]?=some (ops[i]'GM):=Array.getElem?_eq_getElem GM
           have:=lT hI.size ho iP (λe he hb=>by
             have h1:=k9 H3 ho he hb;exact ihi e.on h1 (by omega))
           rw[fI] at this;cases this
     have:=all p hp;rw[hI.out] at this;cases this
   . obtain⟨o,ho,iP,YX,GM⟩:=mem_ready hI.size hi
     obtain⟨c,hx,Gz,Q7⟩:=hI.st
     have hip:p < i->S7 (Is ops.toList []) i p=false:=by
       intro h1;cases hd:S7 (Is ops.toList []) i p with
       | false=>rfl
       | true =>
         have:=Yy hI.closed (Ci ho) YX hd;rw[hI.out] at this;cases this
     have hMi:(L.setIfInBounds i true).getD i false=true:=by
       have:i < L.size:=by rw[hI.size];exact GM
       simp[this]
     have sR:∀j,j≠i->(L.setIfInBounds i true).getD j false=L.getD j false:=by
       intro j hj;simp only[Array.getD_eq_getD_getElem?];rw[Array.getElem?_setIfInBounds_ne (λe=>hj e.symm)]
     have hle:∀j,L.getD j false=true->(L.setIfInBounds i true).getD j false=true:=by
       intro j hj;by_cases e:j=i;subst e;exact hMi;rw[sR j e];exact hj
     have YR:N7 ops.toList (λj=>(L.setIfInBounds i true).getD j false):=by
       intro j y hy hj e he hb;by_cases ej:j=i;subst ej;rw[Ci ho] at hy;cases hy;exact hle _ (YX e he hb);have wW:L.getD j false=true:=by rw[<- sR j ej];exact hj
       exact hle _ (hI.closed j y hy wW e he hb)
     have abx:jN (λj=>(L.setIfInBounds i true).getD j false) ops.size=Lr:=by
       have:=(r9 (L:=λj=>L.getD j false) (M:=λj=>(L.setIfInBounds i true).getD j false) iP hMi sR ops.size).1 GM;omega
     have ajV:=sK (f0:=f0) (vals:=vals) (L:=λj=>L.getD j false) (M:=λj=>(L.setIfInBounds i true).getD j false) H3 hI.closed ho iP hMi sR
     have kG:∀x∈o.op.operands,Z8 G c w (IH f0 (Cm ops) vals (λ_=>true) i) a.eval x:=by
       intro x hxo v hv;cases x with
       | tmp t =>
         have abD:t∈o.looksAt ops:=by
           unfold Oper.looksAt;rw[List.mem_append];left;rw[List.mem_filterMap];exact⟨.tmp t,Array.mem_toList_iff.2 hxo,rfl⟩
         have he:=S9 (f0:=f0) (vals:=vals) H3 hI.closed ho iP YX abD
         have:Bg G (IH f0 (Cm ops) vals (λj=>L.getD j false) ops.size) (.tmp t)=some v:=by
           rw[<- hv];simp only[Bg,List.getD_eq_getElem?_getD,he]
         exact Gm Gz Q7 this
       | const z=>exact Gm (fr:=IH f0 (Cm ops) vals (λj=>L.getD j false) ops.size) Gz Q7 hv
       | global g=>exact Gm (fr:=IH f0 (Cm ops) vals (λj=>L.getD j false) ops.size) Gz Q7 hv
       | func f=>exact Gm (fr:=IH f0 (Cm ops) vals (λj=>L.getD j false) ops.size) Gz Q7 hv
     have WZ:CG ops (IH f0 (Cm ops) vals (λ_=>true) i) o=Region.wanted o (yielded ops a.tmps):=by
       refine N9 (c:=c) (w:=w) (λj want hg d hd=>⟨_,Q7,?_⟩);refine S9 H3 hI.closed ho iP YX ?_;unfold Oper.looksAt;rw[List.mem_append];right;rw[hg];simp[hd]
     have eZ:OV P ops o (wpAny P .any ops Q Lr (L.setIfInBounds i true)) Q a w->wpOp P ops Q i (wpAny P .any ops Q Lr (L.setIfInBounds i true)) a w:=by
       intro h;unfold wpOp;rw[ho];unfold OV at h;simp only;split;rename_i hw;rw[if_pos hw] at h;exact .inl h;rename_i hw;rw[if_neg hw] at h;exact h
     refine eZ ?_;by_cases hpe:i=p;subst hpe;refine ajS o ho c w a _ _ Gz kG WZ ?_;intro u w' c' Y0 PJ hu;exact hQ _ _ _ ⟨c',hx.trans Y0,PJ,hI.defers,u,rfl,hu⟩;refine hl i o ho hpe hip c w a _ _ Gz kG WZ ?_;intro u w' c' Y0 PJ hu;refine ih _ _ _ ⟨by simp[hI.size],YR,⟨c',hx.trans Y0,PJ,?_⟩,by cases o.dst<;>exact hI.defers,?_⟩ abx
     rw[ajV];exact S4 (Q7.mono Y0) hu;rw[sR p (λe=>hpe e.symm)];exact hI.out
def qS(hm:P.follows .mixedOrders=true){id:Nat}{Cp:List AV}(H3:MV ops=true)(hp:p < ops.size)
   (hl:∀i o,ops[i]?=some o->i≠p->(p < i->S7 (Is ops.toList []) i p=false)->Sound P G (.op ops o (IH f0 (Cm ops) vals (λ_=>true) i) s0 (.ret (vals i)) s0))
   (ajS:∀o,ops[p]?=some o->Sound P G (.op ops o (IH f0 (Cm ops) vals (λ_=>true) p) s0 (.JK v) s1)):Sound P G (.code (.region id ops true) f0 s0 (.JK v) Cp s1):=by
 intro cx w a Q hs hf hd hQ;refine wp_region_any hm ?_;obtain⟨x,st⟩:=hs.same (jK w)
 have gf:∀j,(Array.replicate ops.size false).getD j false=false:=by
   intro j;simp only[Array.getD_eq_getD_getElem?,Array.getElem?_replicate];split<;>simp
 refine aaO H3 hp hl ajS Q hQ ops.size _ a _ ⟨by simp,?_,⟨_,x,st,?_⟩,hd,gf p⟩ ?_;intro i o ho hL;exact absurd (show(Array.replicate ops.size false).getD i false=true from hL) (by rw[gf i];simp)
 . have:IH f0 (Cm ops) vals (λj=>(Array.replicate ops.size false).getD j false) ops.size=f0:=by
     have key:∀n,IH f0 (Cm ops) vals (λj=>(Array.replicate ops.size false).getD j false) n=f0:=by
       intro n
       induction n with
       | zero=>rfl
       | succ n ih =>
         simp only[IH,ih];rw[if_neg];rw[gf n];simp
     exact key _
   rw[this];exact hf.mono x
 . have key:∀n,jN (λj=>(Array.replicate ops.size false).getD j false) n=n:=by
     intro n
     induction n with
     | zero=>rfl
     | succ n ih =>
       simp only[jN,ih,gf n];simp
   exact key _
end
end AI
namespace AI
open Go Go.RowKit
abbrev HS:=Option (List Hn×List Cd×List AV×AS)
def aie(cd:List Cd):HS->HS
 | some (hs,cd',fr,s)=>some (hs,cd++cd',fr,s)
 | none=>none
abbrev HC:=Option (AX×List Hn×List Cd×List AV×AS)
def bL(cd:List Cd):HC->HC
 | some (e,hs,cd',fr,s)=>some (e,hs,cd++cd',fr,s)
 | none=>none
def afn(P:Program)(G:Bc)(ops:Array Oper)(fr:List AV)(s:AS)(o:Oper):List Hn->HO
 | .p v s1::hs=>(match CG ops fr o with
   | true=>(match US P G fr s o with
     | some (.ent f args)=>some (v,s1,hs,[.ah3 f args s v s1])
     | some (.JK v')=>some (v',s,hs,[])
     | _=>none)
   | false=>none)
 | .q v pre tp RB tu::hs=>(match CG ops fr o with
   | true=>(match US P G fr s o with
     | some (.ent f args)=>some (v,(s.Wv RB).TK tu,hs,[.Fc f args (.JK v) pre tp RB tu,.z7 (YL s pre) (OU pre) (bH s.F tp) (Pp tp)])
     | _=>none)
   | false=>none)
 | _=>none
def abm(P:Program)(G:Bc)(ops:Array Oper):List Oper->List Hn->List AV->AS->HC
 | [],hs,fr,s=>some (.normal,hs,[],fr,s)
 | o::l,hs,fr,s=>(match afn P G ops fr s o hs with
   | some (v,s1,Se,cd)=>some (.JK v,Se,cd,fr,s1)
   | none=>(match bK P G ops fr s o hs with
     | some (v,s1,Se,cd)=>bL cd (abm P G ops l Se (JE fr o.dst v) s1)
     | none=>none))
def kB(P:Program)(G:Bc)(ops:Array Oper):List Oper->List Hn->List AV->AS->HS
 | [],hs,fr,s=>some (hs,[],fr,s)
 | o::l,hs,fr,s=>(match j9 P G ops fr s o hs with
   | some (v,s1,Se,cd)=>aie cd (kB P G ops l Se (JE fr o.dst v) s1)
   | none=>none)
def steady(op:Op):Bool:=match quiet op with
 | true=>true
 | false=>(match op with
   | .call cl=>(match cl.callee with | .value _=>true | _=>false)
   | _=>false)
def Ry:List Oper->Bool
 | []=>true
 | o::l=>(match steady o.op with | true=>Ry l | false=>false)
def al8:HS->HC
 | some (hs,cd,fr,s)=>some (.normal,hs,cd,fr,s)
 | none=>none
def al7(P:Program)(G:Bc)(ops:Array Oper)(hs:List Hn)(fr:List AV)(s:AS):HC:=match rsv P ops.toList with
 | some r=>(match hTr P G ops ops.toList s.nx hs fr (s.hold r) with
   | some (CX,cd,t,Cp,s')=>(match Mj G ops s.nx ops.toList t with
     | true=>(match XZ P ops t s' s.nx r with
       | true=>some (.normal,CX,cd,Cp,s')
       | false=>none)
     | false=>none)
   | none=>none)
 | none=>none
def abg(P:Program)(G:Bc)(ops:Array Oper)(c:Nat)(hs:List Hn)(fr:List AV)(s:AS):HC:=match Nat.blt c ops.size with
 | true=>(match Vj (Is ops.toList []) c ops.toList 0 with
   | true=>(match wS P G ops c ops.toList 0 hs fr s with
     | some (CX,cd,_,Cp,s')=>some (.normal,CX,cd,Cp,s')
     | none=>none)
   | false=>none)
 | false=>none
def aia(P:Program)(G:Bc)(ops:Array Oper)(hs:List Hn)(fr:List AV)(s:AS):HC:=match wQ P G ops ops.toList hs fr s with
 | some (CX,cd,t,Ts,Cp,s')=>(match lQ G ops (Is ops.toList []) Ts ops.toList t 0 with
   | true=>some (.normal,CX,cd,Cp,s')
   | false=>none)
 | none=>none
abbrev HQ:=Option (List AV×List Hn×List Cd×Option (AV×AS))
def fJ(v:AV)(cd:List Cd):HQ->HQ
 | some (vs,hs,wD,r)=>some (v::vs,hs,cd++wD,r)
 | none=>none
def ail(r:AV×AS)(cd:List Cd):HQ->HQ
 | some (vs,hs,wD,none)=>some (.sc undef::vs,hs,cd++wD,some r)
 | _=>none
def behind(ms:List Nat)(p i:Nat):Bool:=match Nat.blt p i with
 | true=>S7 ms i p
 | false=>false
def YQ(P:Program)(G:Bc)(ops:Array Oper)(ms:List Nat)(p:Nat)(s:AS):List Oper->Nat->List Hn->List AV->HQ
 | [],_,hs,_=>some ([],hs,[],none)
 | o::l,i,hs,fr=>(match Nat.beq i p with
   | true=>(match afn P G ops fr s o hs with
     | some (v,s2,bQ,cd)=>ail (v,s2) cd (YQ P G ops ms p s l (i+1) bQ (JE fr o.dst (.sc undef)))
     | none=>none)
   | false=>(match behind ms p i with
     | true=>fJ (.sc undef) [] (YQ P G ops ms p s l (i+1) hs (JE fr o.dst (.sc undef)))
     | false=>(match steady o.op with
       | true=>(match j9 P G ops fr s o hs with
         | some (v,_,bQ,cd)=>fJ v cd (YQ P G ops ms p s l (i+1) bQ (JE fr o.dst v))
         | none=>none)
       | false=>none)))
def abo(P:Program)(G:Bc)(ops:Array Oper)(p:Nat)(hs:List Hn)(fr:List AV)(s:AS):HC:=match YQ P G ops (Is ops.toList []) p s ops.toList 0 hs fr with
 | some (_,bQ,cd,some (v,s2))=>some (.JK v,bQ,cd,fr,s2)
 | _=>none
def aic(P:Program)(G:Bc)(ops:Array Oper)(fr:List AV)(s:AS):List Hn->HC
 | .zq p::hs=>abo P G ops p hs fr s
 | .z c::hs=>abg P G ops c hs fr s
 | .za::hs=>aia P G ops hs fr s
 | hs=>(match Ry ops.toList with
   | true=>al8 (kB P G ops ops.toList hs fr s)
   | false=>al7 P G ops hs fr s)
def abq(P:Program)(G:Bc)(ops:Array Oper)(d:Bool)(hs:List Hn)(fr:List AV)(s:AS):HC:=match d with
 | false=>abm P G ops ops.toList hs fr s
 | true=>(match MV ops with
   | true=>aic P G ops fr s hs
   | false=>none)
def Nu(P:Program)(G:Bc):Code->List Hn->List AV->AS->HC
 | .skip,hs,fr,s=>some (.normal,hs,[],fr,s)
 | .exit id,hs,fr,s=>some (.exit id,hs,[],fr,s)
 | .ret,hs,fr,s=>some (.ret,hs,[],fr,s)
 | .seq x y,hs,fr,s=>(match Nu P G x hs fr s with
   | some (.normal,Se,cd,WS,s1)=>bL cd (Nu P G y Se WS s1)
   | r=>r)
 | .cond q x y,hs,fr,s=>(match AZ G fr q with
   | some (.sc (.bool true))=>Nu P G x hs fr s
   | some (.sc (.bool false))=>Nu P G y hs fr s
   | _=>none)
 | .block id c,hs,fr,s=>(match Nu P G c hs fr s with
   | some (e,Se,cd,WS,s1)=>some (E7 id e,Se,cd,WS,s1)
   | none=>none)
 | .region _ ops d,hs,fr,s=>(match hs with
   | .n l::hs=>(match nzs l fr s with
     | some (fr2,s2)=>abq P G ops d hs fr2 s2
     | none=>none)
   | .f id b b2::hs=>(match look id s.h with
     | some b0=>bL [.z7 [some b0] [some b] [] [],.rd s.nr b b2] (abq P G ops d hs fr ⟨uZ id b2 s.h,s.nx,(s.nr,0)::s.F,s.nr+1⟩)
     | none=>none)
   | hs=>abq P G ops d hs fr s)
 | _,_,_,_=>none
section
variable {P:Program} {G:Bc} {ops:Array Oper}
def sS{fr:List AV}{s s1:AS}{o:Oper}{hs CX:List Hn}{v:AV}{cd:List Cd}(h:afn P G ops fr s o hs=some (v,s1,CX,cd))(hc:R1 P G cd):J P G (XS P G) H0 (.op ops o fr s (.JK v) s1):=by
 unfold afn at h;split at h;rw[ND] at h;split at h;rename_i hw;split at h;rename_i h1;cases h;exact .SJ hw h1 (.ext hc.1);rename_i h1;cases h;exact .aix hw h1;cases h;cases h;rw[ND] at h;split at h;rename_i hw;split at h;rename_i h1;cases h;exact .SJ hw h1 (.ext (hc.1 s hc.2.1.1 hc.2.1.2));cases h;cases h;cases h
def afl{l:List Oper}{k:Nat}(hk:l=ops.toList.drop k){hs CX:List Hn}{fr Cp:List AV}{s s':AS}{e:AX}{cd:List Cd}(h:abm P G ops l hs fr s=some (e,CX,cd,Cp,s'))(hc:R1 P G cd):J P G (XS P G) H0 (.ops ops (List.range' k l.length) fr s e Cp s'):=by
 induction l generalizing k hs fr s cd with
 | nil=>simp only[abm] at h;cases h;exact .acu
 | cons o l ih =>
   obtain⟨k1,k2⟩:=drop_cons hk;simp only[abm] at h;split at h;rename_i v s1 Se zZ h1;cases h;rw[List.length_cons,List.range'_succ];exact .acv (by rw[<- Array.getElem?_toList];exact k1) (sS h1 hc);split at h;rename_i v s1 Se zZ h1;unfold bL at h;split at h;rename_i e2 bQ wD fr2 s2 h2;cases h;obtain⟨c1,c2⟩:=hc.WK;rw[List.length_cons,List.range'_succ];exact .tU (by rw[<- Array.getElem?_toList];exact k1) (PI h1 c1) (ih k2 h2 c2);cases h;cases h
def afm{l:List Oper}{q:Nat}(Gz:Ry l=true){hs CX:List Hn}{fr Cp:List AV}{s s':AS}{cd:List Cd}(h:kB P G ops l hs fr s=some (CX,cd,Cp,s'))(hc:R1 P G cd):s'=s/\∃t,Tn P G (XS P G) H0 ops q l fr s t Cp s/\∀x∈t,x.2.1=s:=by
 induction l generalizing hs fr cd s with
 | nil=>simp only[kB] at h;cases h;exact⟨rfl,[],.nil,λx hx=>by cases hx⟩
 | cons o l ih =>
   simp only[Ry] at Gz;split at Gz
   . rename_i fL
     simp only[kB] at h;split at h
     . rename_i v s1 Se zZ h1
       unfold aie at h;split at h
       . rename_i bQ wD fr2 s2 h2
         cases h;obtain⟨c1,c2⟩:=hc.WK;obtain⟨h1,hA⟩:=Ta h1;have hj:=PI h1 c1
         have nZ:BX o.op=false:=by
           cases ha:BX o.op with
           | false=>rfl
           | true=>obtain⟨e,he⟩:=K2 ha;rw[he] at fL;simp[steady,quiet] at fL
         have Se:s1=s:=by
           cases hq:quiet o.op with
           | true=>exact(Kk hq hj).1
           | false =>
             unfold steady at fL;rw[hq] at fL;simp only at fL;split at fL;rename_i cl kF;split at fL;rename_i f Ii;unfold bK at h1;split at h1;unfold wO at h1;rw[kF] at h1;simp only[Ii] at h1;unfold YO at h1;split at h1;split at h1;cases h1;rfl;cases h1;have:=hA (by rw[kF];simp[Oi,Ii]);simp[fR] at this;have:=hA (by rw[kF];simp[Oi,Ii]);simp[fR] at this;have:=hA (by rw[kF];simp[Oi,Ii]);simp[fR] at this;cases h1;cases h1;rfl;cases fL;cases fL
         subst Se;obtain⟨e,t,ht,HV⟩:=ih Gz h2 c2;subst e
         exact⟨rfl,_,.cons nZ hj ht,λx hx=>by
           rcases List.mem_cons.1 hx with rfl | hx
           rfl;exact HV x hx⟩
       cases h
     cases h
   cases Gz
def Wr{l:List Oper}(Gz:Ry l=true){i:Nat}{o:Oper}(ho:l[i]?=some o):steady o.op=true:=by
 induction l generalizing i with
 | nil=>simp at ho
 | cons x l ih =>
   simp only[Ry] at Gz;split at Gz;rename_i fL;cases i with
   | zero=>simp at ho;subst ho;exact fL
   | succ i=>exact ih Gz (by simpa using ho)
   cases Gz
def oO{X:Xg}{H:TV}{id:Nat}{fr Cp:List AV}{s:AS}{t:List (List AV×AS×AV)}(H3:MV ops=true)(Gz:Ry ops.toList=true)(h:Tn P G X H ops s.nx ops.toList fr s t Cp s)(HV:∀x∈t,x.2.1=s):J P G X H (.code (.region id ops true) fr s .normal Cp s):=by
 have hlen:t.length=ops.size:=by rw[h.len,Array.length_toList]
 obtain⟨h0,T9⟩:=h.at
 have hsa:∀i,FW t s i=s:=by
   intro i;unfold FW;split;rename_i x hx;exact HV x (List.mem_of_getElem? hx);rfl
 have pI:∀i o,ops[i]?=some o->Cm ops i=o.dst:=λi o ho=>by unfold Cm;rw[ho];rfl
 obtain⟨YT,YU⟩:=h.eX (Cm ops) (KQ t) fr 0 rfl (λi o ho=>by rw[Nat.zero_add];exact pI i o (by rw[<- Array.getElem?_toList];exact ho)) (λi=>.inl (by rw[Nat.zero_add]));rw[Nat.zero_add,Array.length_toList] at YT
 have nZ:∀(i:Nat) (o:Oper),ops[i]?=some o->BX o.op=false:=by
   intro i o ho;have:=Wr Gz (Ci ho);cases ha:BX o.op with
   | false=>rfl
   | true=>obtain⟨e,he⟩:=K2 ha;rw[he] at this;simp[steady,quiet] at this
 have hj:∀i o,ops[i]?=some o->J P G X H (.op ops o (IH fr (Cm ops) (KQ t) (λ_=>true) i) s (.ret (KQ t i)) s):=by
   intro i o ho;obtain⟨fi,h1,h2⟩:=T9 i o (Ci ho);have:=YU i _ h1;simp only[Nat.zero_add] at this;rcases h2 with ⟨_,h2⟩ | ⟨h2,_⟩
   rw[<- this];rw[hsa,hsa] at h2;exact h2;rw[nZ i o ho] at h2;cases h2
 have key:=J.draw (P:=P) (G:=G) (X:=X) (H:=H) (id:=id) (f0:=fr) (s0:=s) [] (KQ t) (λ_=>s) rfl H3 (λi o ho _=>hj i o ho) (λi o ho hq=>⟨rfl,by
   obtain⟨_,h2⟩:=Kk hq (hj i o ho);rcases h2 with h2 | ⟨hw,h2⟩
   exact .inl h2;exact .inr ⟨hw,λk _ _=>h2⟩⟩) (λi o e ho he=>by have:=nZ i o ho;rw[he] at this;cases this)
 rw[<- YT] at key;exact key
def kA{fr:List AV}{s s1:AS}{o:Oper}{hs Se:List Hn}{v:AV}{cd:List Cd}(fL:steady o.op=true)(h:j9 P G ops fr s o hs=some (v,s1,Se,cd))(hc:R1 P G cd):J P G (XS P G) H0 (.op ops o fr s (.ret v) s):=by
 obtain⟨h1,hA⟩:=Ta h;have hj:=PI h1 hc
 have Se:s1=s:=by
   cases hq:quiet o.op with
   | true=>exact(Kk hq hj).1
   | false =>
     unfold steady at fL;rw[hq] at fL;simp only at fL;split at fL;rename_i cl kF;split at fL;rename_i f Ii;unfold bK at h1;split at h1;unfold wO at h1;rw[kF] at h1;simp only[Ii] at h1;unfold YO at h1;split at h1;split at h1;cases h1;rfl;cases h1;have:=hA (by rw[kF];simp[Oi,Ii]);simp[fR] at this;have:=hA (by rw[kF];simp[Oi,Ii]);simp[fR] at this;have:=hA (by rw[kF];simp[Oi,Ii]);simp[fR] at this;cases h1;cases h1;rfl;cases fL;cases fL
 rw[Se] at hj;exact hj
def aa6{f0:List AV}{dst:Nat->Option Tmp}{vals:Nat->AV}{k:Nat}:IH f0 dst vals (λ_=>true) (k+1)=JE (IH f0 dst vals (λ_=>true) k) (dst k) (vals k):=by
 simp only[IH,if_true]
def abn{p:Nat}{s:AS}{f0:List AV}{vals:Nat->AV}:∀{l:List Oper} {i:Nat} {hs CX:List Hn} {fr:List AV} {vs:List AV} {cd:List Cd} {r:Option (AV×AS)},YQ P G ops (Is ops.toList []) p s l i hs fr=some (vs,CX,cd,r)->l=ops.toList.drop i->R1 P G cd->fr=IH f0 (Cm ops) vals (λ_=>true) i->(∀j,vals (i+j)=vs.getD j (.sc undef)) ->
   (∀j o,i<=j->ops[j]?=some o->j≠p->(p < j->S7 (Is ops.toList []) j p=false)->J P G (XS P G) H0 (.op ops o (IH f0 (Cm ops) vals (λ_=>true) j) s (.ret (vals j)) s)) /\
   (i<=p->∀v s2,r=some (v,s2)->∃o,ops[p]?=some o/\J P G (XS P G) H0 (.op ops o (IH f0 (Cm ops) vals (λ_=>true) p) s (.JK v) s2))/\(p < i->r=none):=by
 intro l
 induction l with
 | nil =>
   intro i hs CX fr vs cd r h hl hc Q7 hv;simp only[YQ] at h;cases h
   have Qi:ops.size<=i:=by
     have:=congrArg List.length hl;simp only[List.length_nil,List.length_drop,Array.length_toList] at this;omega
   exact⟨λj o hj ho=>by have:=(Array.getElem?_eq_some_iff.1 ho).1;omega,(λ_ v s2 e=>by cases e),λ_=>rfl⟩
 | cons o l ih =>
   intro i hs CX fr vs cd r h hl hc Q7 hv;obtain⟨k1,k2⟩:=drop_cons hl;have ho:ops[i]?=some o:=by rw[<- Array.getElem?_toList];exact k1
   have hd:Cm ops i=o.dst:=by unfold Cm;rw[ho];rfl
   have next:∀{v0:AV} {vs2:List AV},vs=v0::vs2->vals i=v0/\JE fr o.dst v0=IH f0 (Cm ops) vals (λ_=>true) (i+1)/\∀j,vals (i+1+j)=vs2.getD j (.sc undef):=by
     intro v0 vs2 e;subst e;have h0:vals i=v0:=by have:=hv 0;simpa using this
     refine⟨h0,?_,λj=>?_⟩;rw[aa6,hd,h0,Q7];have:=hv (j+1);rw[show i+1+j=i+(j+1) by omega,this];simp
   simp only[YQ] at h;split at h
   . rename_i hb
     have hip:=Nat.eq_of_beq_eq_true hb;split at h
     . rename_i v s2 bQ zZ h1
       unfold ail at h;split at h
       . rename_i vs2 hs3 wD h2
         cases h;obtain⟨c1,c2⟩:=hc.WK;obtain⟨n1,n2,n3⟩:=next rfl
         obtain⟨q1,q2,q3⟩:=ih h2 k2 c2 n2 n3;refine⟨λj o' hj WX hjp wU=>?_,λ_ v' s2' e=>?_,λh=>by omega⟩;exact q1 j o' (by omega) WX hjp wU;cases e;refine⟨o,hip▸ho,?_⟩;have:=sS h1 c1;rw[Q7,hip] at this;exact this
       cases h
     cases h
   . rename_i hb
     have hip:=Nat.ne_of_beq_eq_false hb;split at h
     . rename_i hbe
       unfold fJ at h;split at h
       . rename_i vs2 hs3 wD r2 h2
         cases h;obtain⟨n1,n2,n3⟩:=next rfl
         obtain⟨q1,q2,q3⟩:=ih h2 k2 hc n2 n3;unfold behind at hbe;split at hbe;rename_i GM;have GM:p < i:=Nat.le_of_ble_eq_true GM;refine⟨λj o' hj WX hjp wU=>?_,λh=>by omega,λ_=>q3 (by omega)⟩;by_cases e:j=i;subst e;rw[wU GM] at hbe;cases hbe;exact q1 j o' (by omega) WX hjp wU;cases hbe
       cases h
     . split at h
       . rename_i Gz
         split at h
         . rename_i v s1 bQ zZ h1
           unfold fJ at h;split at h
           . rename_i vs2 hs3 wD r2 h2
             cases h;obtain⟨c1,c2⟩:=hc.WK;obtain⟨n1,n2,n3⟩:=next rfl
             obtain⟨q1,q2,q3⟩:=ih h2 k2 c2 n2 n3;refine⟨λj o' hj WX hjp wU=>?_,λh v' s2' e=>q2 (by omega) v' s2' e,λh=>q3 (by omega)⟩;by_cases e:j=i;subst e;rw[ho] at WX;cases WX;have:=kA Gz h1 c1;rw[Q7] at this;rw[n1];exact this;exact q1 j o' (by omega) WX hjp wU
           cases h
         cases h
       cases h
def abp{id p:Nat}(H3:MV ops=true){hs CX:List Hn}{fr Cp:List AV}{s s':AS}{e:AX}{cd:List Cd}(h:abo P G ops p hs fr s=some (e,CX,cd,Cp,s'))(hc:R1 P G cd):J P G (XS P G) H0 (.code (.region id ops true) fr s e Cp s'):=by
 unfold abo at h;split at h;rename_i vs bQ zZ v s2 h1;cases h;obtain⟨q1,q2,_⟩:=abn (f0:=fr) (vals:=λj=>vs.getD j (.sc undef)) h1 rfl hc rfl (λj=>by rw[Nat.zero_add]);obtain⟨o,ho,hj⟩:=q2 (Nat.zero_le _) _ _ rfl;refine .sem λhm=>qS (vals:=λj=>vs.getD j (.sc undef)) hm H3 (Array.getElem?_eq_some_iff.1 ho).1 (λi o' WX hi hd=>sound (T7 hm) (q1 i o' (Nat.zero_le _) WX hi hd)) (λo' WX=>?_);rw[ho] at WX;cases WX;exact sound (T7 hm) hj;cases h
def fB{ops:Array Oper}{id:Nat}{d:Bool}{hs CX:List Hn}{fr Cp:List AV}{s s':AS}{e:AX}{cd:List Cd}(h:abq P G ops d hs fr s=some (e,CX,cd,Cp,s'))(hc:R1 P G cd):J P G (XS P G) H0 (.code (.region id ops d) fr s e Cp s'):=by
 unfold abq at h;cases d with
 | false =>
   simp only at h;have:=afl (ops:=ops) (k:=0) (by simp) h hc;refine .region ?_;rw[Array.length_toList] at this;rw[List.range_eq_range'];exact this
 | true =>
   simp only at h;split at h;rename_i H3;unfold aic at h;split at h;exact abp H3 h hc;unfold abg at h;split at h;rename_i sV;split at h;rename_i hl;split at h;rename_i OX;cases h;exact wJ H3 sV hl OX hc;cases h;cases h;cases h;unfold aia at h;split at h;rename_i OX;split at h;rename_i hrd;cases h;exact aaL H3 OX hrd hc;cases h;cases h;split at h;rename_i Gz;unfold al8 at h;split at h;rename_i h1;cases h;obtain⟨e,t,ht,HV⟩:=afm (q:=s.nx) Gz h1 hc;subst e;exact oO H3 Gz ht HV;cases h;unfold al7 at h;split at h;rename_i r hr;split at h;rename_i Se zZ t WS s1 wY;split at h;rename_i hi;split at h;rename_i abN;cases h;exact aaN H3 hr wY hc hi abN;cases h;cases h;cases h;cases h;cases h
def abf(c:Code){hs CX:List Hn}{fr Cp:List AV}{s s':AS}{e:AX}{cd:List Cd}(h:Nu P G c hs fr s=some (e,CX,cd,Cp,s'))(hc:R1 P G cd):J P G (XS P G) H0 (.code c fr s e Cp s'):=by
 induction c generalizing hs CX fr Cp s s' e cd with
 | skip=>simp only[Nu] at h;cases h;exact .skip
 | exit id=>simp only[Nu] at h;cases h;exact .exit
 | ret=>simp only[Nu] at h;cases h;exact .ret
 | seq x y ihx ihy =>
   simp only[Nu] at h;cases hx:Nu P G x hs fr s with
   | none=>rw[hx] at h;cases h
   | some r =>
     obtain⟨e1,Se,zZ,WS,s1⟩:=r;rw[hx] at h;cases e1 with
     | normal =>
       simp only at h;unfold bL at h;split at h;rename_i e2 bQ wD fr2 s2 h2;cases h;obtain⟨c1,c2⟩:=hc.WK;exact .seq (ihx hx c1) (ihy h2 c2);cases h
     | exit id=>simp only at h;cases h;exact .rB (ihx hx hc) (by simp)
     | ret=>simp only at h;cases h;exact .rB (ihx hx hc) (by simp)
     | JK v=>simp only at h;cases h;exact .rB (ihx hx hc) (by simp)
 | cond q x y ihx ihy =>
   simp only[Nu,Cv] at h;split at h;rename_i hq;exact .cond hq (ihx h hc);rename_i hq;exact .cond hq (ihy h hc);cases h
 | block id c ih =>
   simp only[Nu] at h;split at h;rename_i h1;cases h;exact .block (ih h1 hc);cases h
 | region id ops d =>
   simp only[Nu] at h;split at h;split at h;rename_i hz;exact .ZX (λcx w vs h1 h2=>qE hz cx w vs h1 h2) (fB h hc);cases h;split at h;rename_i b0 hb;unfold bL at h;split at h;rename_i h1;cases h;obtain⟨c1,c2⟩:=hc.WK;refine .ZX (λcx w vs hs hf=>?_) (fB h1 c2);have sT:b0=_:=Option.some.inj (List.cons.inj c1.1.1).1;subst sT;obtain⟨x,st⟩:=hs.tok;exact⟨_,x,st.xU hb (λo ho=>c1.2.1 _ _ _ (by simp[hs.J6]) ho),hf.mono x⟩;cases h;cases h;exact fB h hc
 | _=>simp only[Nu] at h;cases h
def Tb:Code->Bool
 | .loop _=>true
 | .seq x y=>Tb x||Tb y
 | .cond _ x y=>Tb x||Tb y
 | .block _ c=>Tb c
 | _=>false
abbrev HP:=Option (Code×List Hn×List Cd×List AV×AS)
end
end AI
namespace AI
open Go Go.RowKit
structure PC(P:Program)(G:Bc) where
 hn:Hn
 cd:List Cd
 ok:R1 P G cd
def pHs{P:Program}{G:Bc}:List (PC P G)->List Hn
 | []=>[]
 | p::l=>p.hn::pHs l
def n6{P:Program}{G:Bc}:List (PC P G)->List Cd
 | []=>[]
 | p::l=>p.cd++n6 l
def R1.join{P:Program}{G:Bc}{l m:List Cd}(h:R1 P G l)(k:R1 P G m):R1 P G (l++m):=by
 induction l with
 | nil=>exact k
 | cons c l ih=>exact⟨h.1,ih h.2⟩
def PO{P:Program}{G:Bc}(l:List (PC P G)):R1 P G (n6 l):=by
 induction l with
 | nil=>trivial
 | cons p l ih=>exact p.ok.join ih
inductive KI where
 | code (c:Code)
 | jV (id:Nat)
def Ej(P:Program)(G:Bc):List KI->(AX->List AV->AS->Prop)->AX->List AV->AS->Prop
 | [],Q=>Q
 | .code k::ks,Q=>aiN P G (XS P G) H0 k (Ej P G ks Q)
 | .jV id::ks,Q=>ET id (Ej P G ks Q)
inductive Sq where
 | at (id:Nat) (c:Code) (ks:List KI)
 | fin (e:AX)
abbrev HR:=Option (Sq×List Hn×List Cd×List AV×AS)
def abl(cd:List Cd):HR->HR
 | some (c,hs,cd',fr,s)=>some (c,hs,cd++cd',fr,s)
 | none=>none
def R5(r:Code->List KI->List Hn->List AV->AS->HR):List KI->AX->List Hn->List AV->AS->HR
 | [],e,hs,fr,s=>some (.fin e,hs,[],fr,s)
 | .code k::ks,.normal,hs,fr,s=>r k ks hs fr s
 | .code _::ks,e,hs,fr,s=>R5 r ks e hs fr s
 | .jV id::ks,.exit RN,hs,fr,s=>(match Nat.beq RN id with
   | true=>R5 r ks .normal hs fr s
   | false=>R5 r ks (.exit RN) hs fr s)
 | .jV _::ks,e,hs,fr,s=>R5 r ks e hs fr s
def T8(P:Program)(G:Bc):Nat->Code->List KI->List Hn->List AV->AS->HR
 | 0,_,_,_,_,_=>none
 | n+1,c,ks,hs,fr,s=>(match Tb c with
   | false=>(match Nu P G c hs fr s with
     | some (e,Se,cd,WS,s1)=>abl cd (R5 (T8 P G n) ks e Se WS s1)
     | none=>none)
   | true=>(match c with
     | .seq x y=>T8 P G n x (.code y::ks) hs fr s
     | .block id (.loop c)=>some (.at id c ks,hs,[],fr,s)
     | .block id c=>T8 P G n c (.jV id::ks) hs fr s
     | .cond q x y=>(match AZ G fr q with
       | some (.sc (.bool true))=>T8 P G n x ks hs fr s
       | some (.sc (.bool false))=>T8 P G n y ks hs fr s
       | _=>none)
     | _=>none))
section
variable {P:Program} {G:Bc}
def SqQ(P:Program)(G:Bc)(Q:AX->List AV->AS->Prop)(fr:List AV)(s:AS):Sq->Prop
 | .at id c ks=>WL P G (XS P G) H0 c fr s (ET id (Ej P G ks Q))
 | .fin e=>Q e fr s
def ON{k:Code}{ks:List KI}{Q:AX->List AV->AS->Prop}{e:AX}{fr:List AV}{s:AS}(he:e≠.normal)(h:Ej P G ks Q e fr s):Ej P G (.code k::ks) Q e fr s:=by
 cases e with
 | normal=>exact absurd rfl he
 | exit id=>exact h
 | ret=>exact h
 | JK v=>exact h
def fA{r:Code->List KI->List Hn->List AV->AS->HR}{Q:AX->List AV->AS->Prop}
   (hr:∀(c:Code) (ks:List KI) {sp:Sq} {hs CX:List Hn} {fr Cp:List AV} {s s':AS} {cd:List Cd},r c ks hs fr s=some (sp,CX,cd,Cp,s')->R1 P G cd->SqQ P G Q Cp s' sp->W P G (XS P G) H0 c fr s (Ej P G ks Q)) :
   ∀(ks:List KI) (e:AX) {sp:Sq} {hs CX:List Hn} {fr Cp:List AV} {s s':AS} {cd:List Cd},R5 r ks e hs fr s=some (sp,CX,cd,Cp,s')->R1 P G cd->SqQ P G Q Cp s' sp->Ej P G ks Q e fr s:=by
 intro ks
 induction ks with
 | nil=>intro e sp hs CX fr Cp s s' cd h hc hk;simp only[R5] at h;cases h;exact hk
 | cons k ks ih =>
   intro e sp hs CX fr Cp s s' cd h hc hk;cases k with
   | code c =>
     cases e with
     | normal=>simp only[R5] at h;exact hr c ks h hc hk
     | exit id=>simp only[R5] at h;exact ON (by simp) (ih _ h hc hk)
     | ret=>simp only[R5] at h;exact ON (by simp) (ih _ h hc hk)
     | JK v=>simp only[R5] at h;exact ON (by simp) (ih _ h hc hk)
   | jV id =>
     show Ej P G ks Q (E7 id e) fr s;cases e with
     | normal=>simp only[R5] at h;exact ih _ h hc hk
     | ret=>simp only[R5] at h;exact ih _ h hc hk
     | JK v=>simp only[R5] at h;exact ih _ h hc hk
     | exit RN =>
       simp only[R5] at h;split at h;rename_i hb;have:=beq_true hb;subst this;have e1:E7 RN (.exit RN)=.normal:=by simp[E7]
       rw[e1];exact ih _ h hc hk;rename_i hb;have:=beq_false hb;have e1:E7 id (.exit RN)=.exit RN:=by simp[E7,this]
       rw[e1];exact ih _ h hc hk
def fC{Q:AX->List AV->AS->Prop}:∀(n:Nat) (c:Code) (ks:List KI) {sp:Sq} {hs CX:List Hn} {fr Cp:List AV} {s s':AS} {cd:List Cd},T8 P G n c ks hs fr s=some (sp,CX,cd,Cp,s')->R1 P G cd->SqQ P G Q Cp s' sp->W P G (XS P G) H0 c fr s (Ej P G ks Q):=by
 intro n
 induction n with
 | zero=>intro c ks sp hs CX fr Cp s s' cd h;simp only[T8] at h;cases h
 | succ n ih =>
   intro c ks sp hs CX fr Cp s s' cd h hc hk;simp only[T8] at h;split at h;split at h;rename_i e Se zZ WS s1 h1;unfold abl at h;split at h;rename_i h2;cases h;obtain⟨c1,c2⟩:=hc.WK;exact⟨_,_,_,abf c h1 c1,fA ih ks e h2 c2 hk⟩;cases h;cases h;split at h;exact alF (ih _ _ h hc hk);cases h;exact rU (ai5 hk);exact rU (ih _ _ h hc hk);rw[Cv] at h;split at h;rename_i hq;exact aeO hq (ih _ _ h hc hk);rename_i hq;exact aeN hq (ih _ _ h hc hk);cases h;cases h
end
end AI
namespace AI
open Go Go.RowKit
def sub:Code->List Nat->Code
 | c,[]=>c
 | .seq x _,0::l=>sub x l
 | .seq _ y,_::l=>sub y l
 | .cond _ x _,0::l=>sub x l
 | .cond _ _ y,_::l=>sub y l
 | .block _ c,_::l=>sub c l
 | .loop c,_::l=>sub c l
 | c,_=>c
def A0(fn:Func):Code:=fn.body.getD .skip
def obv(n:Nat):AV->Bool
 | .sc _=>true
 | .any=>true
 | .ptr id _=>Nat.blt id n
 | .mp id=>Nat.blt id n
 | .Oo id _ _=>Nat.blt id n
 | _=>false
def akJ{n m:Nat}{a:AV}(h:obv n a=true):Fits n m a a:=by
 refine .under ?_;cases a<;>simp only[obv] at h<;>first | rfl | (cases h;done) | exact decide_eq_true (Nat.le_of_ble_eq_true h)
structure FP(n m:Nat) where
 a:AV
 b:AV
 h:Fits n m a b
structure FB(n m:Nat) where
 a:Bl
 b:Bl
 h:TD n m a b
def sI{n m:Nat}:List (FP n m)->List AV
 | []=>[]
 | p::l=>p.a::sI l
def nW{n m:Nat}:List (FP n m)->List AV
 | []=>[]
 | p::l=>p.b::nW l
abbrev MR:=Option (List AV×List AV)
def tN(b:AV):MR->MR
 | some (l,as)=>some (b::l,as)
 | none=>none
def ace(a b:AV):MR->MR
 | some (l,as)=>some (b::l,a::as)
 | none=>none
def akx(r:List AV->MR)(a:AV):List AV->MR
 | b::bs=>ace a b (r bs)
 | []=>none
def tO(r:List AV->MR)(a:AV)(bs:List AV):MR:=match U4 a with
 | true=>tN .any (r bs)
 | false=>none
section
variable {n m:Nat} {r:List AV->MR} {l:List AV} (hr:∀(Qe:List (FP n m)) l2,r (nW Qe)=some (l2,sI Qe)->K7 n m l l2) {a:AV} {Qe:List (FP n m)} {l2:List AV}
include hr
def afS(h:akx r a (nW Qe)=some (l2,sI Qe)):K7 n m (a::l) l2:=by
 cases Qe with
 | nil=>cases h
 | cons p Qe =>
   simp only[nW,akx] at h;unfold ace at h;split at h;rename_i l3 as h1;simp only[sI,Option.some.injEq,Prod.mk.injEq,List.cons.injEq] at h;obtain⟨rfl,rfl,rfl⟩:=h;exact .cons p.h (hr Qe _ h1);cases h
def kQ(h:tO r a (nW Qe)=some (l2,sI Qe)):K7 n m (a::l) l2:=by
 unfold tO at h;split at h;rename_i hd;unfold tN at h;split at h;rename_i l3 as h1;cases h;exact .cons (.drop hd) (hr Qe _ h1);cases h;cases h
end
def bG(m:Nat):List (Nat×Nat)->List (Nat×Nat)
 | []=>[]
 | x::l=>match Nat.blt x.1 m with
   | true=>x::bG m l
   | false=>bG m l
def aa4{m r n:Nat}{l:List (Nat×Nat)}(h:Fw r (bG m l)=some n):Fw r l=some n/\r < m:=by
 induction l with
 | nil=>cases h
 | cons x l ih =>
   simp only[bG] at h;split at h;rename_i hb;simp only[Fw] at h ⊢;split at h;rename_i h1;have:=beq_true h1;subst this;cases h;exact⟨rfl,Nat.le_of_ble_eq_true hb⟩;exact ih h;rename_i hb;obtain⟨h1,h2⟩:=ih h;refine⟨?_,h2⟩;simp only[Fw];split;rename_i h3;have:=beq_true h3;subst this;rw[show Nat.blt x.1 m=true from Nat.ble_eq_true_of_le h2] at hb;cases hb;exact h1
section
variable {P:Program} {G:Bc}
def Frg(G:Bc)(s0:AS)(Cp:List AV)(s':AS)(fr2:List AV)(s2:AS):Prop:=∀(cx:Cx) (w:World) (c':Cx) (w':World) (vs:List Value),Ext cx w c' w'->St G cx w s0->St G c' w' s'->CY c' w' Cp vs->∃c2,Ext cx w c2 w'/\St G c2 w' s2/\CY c2 w' fr2 vs
abbrev RR:=Option (List AV×AS×List AV×List Bl)
def aaP{l:List (Nat×Bl)}{N n:Nat}(h:KC l N):KC (U8 n l) n:=by
 induction l generalizing N with
 | nil=>trivial
 | cons e l ih =>
   simp only[U8];split;exact ih h.2;rename_i hb;refine⟨?_,h.2⟩;have:¬n<=e.1:=λhle=>by rw[Nat.ble_eq_true_of_le hle] at hb;cases hb
   omega
def Uv(P:Program)(G:Bc)(L:Code)(s0:AS)(Q:AX->List AV->AS->Prop):AX->List AV->AS->Prop
 | .normal,Cp,s'=>∃fr2 s2,Frg G s0 Cp s' fr2 s2/\WL P G (XS P G) H0 L fr2 s2 Q
 | .exit id,Cp,s'=>∃fr2 s2,Frg G s0 Cp s' fr2 s2/\Q (.exit id) fr2 s2
 | e,Cp,s'=>Q e Cp s'
def dS{L:Code}{fr:List AV}{s:AS}{Q:AX->List AV->AS->Prop}(h:W P G (XS P G) H0 L fr s (Uv P G L s Q)):WL P G (XS P G) H0 L fr s Q:=by
 obtain⟨e,Cp,s',hj,h2⟩:=h;cases e with
 | normal =>
   obtain⟨fr2,s2,hf,e3,fr3,s3,h3,h4⟩:=h2;exact⟨e3,fr3,s3,.ait (.scope hj (λ_ h=>by cases h) (λcx w c' w' vs hx hs CX Q7=>hf cx w c' w' vs hx hs CX Q7)) h3,h4⟩
 | exit id =>
   obtain⟨fr2,s2,hf,h4⟩:=h2;exact⟨_,_,_,.tK (.scope hj (λ_ h=>by cases h) (λcx w c' w' vs hx hs CX Q7=>hf cx w c' w' vs hx hs CX Q7)) (by simp),h4⟩
 | ret=>exact⟨_,_,_,.tK hj (by simp),h2⟩
 | JK v=>exact⟨_,_,_,.tK hj (by simp),h2⟩
def Sg(P:Program)(fn:Func)(m:Nat)(Q:AX->List AV->AS->Prop)(v:AV)(s2:AS):Prop:=∀fr s,JO P s fn fr=some v->s.cut m=s2->Q .ret fr s
def UO(m:Nat)(Q:AX->List AV->AS->Prop)(v:AV)(s2:AS):Prop:=∀fr s,s.cut m=s2->Q (.JK v) fr s
def yW{ks:List KI}{Q:AX->List AV->AS->Prop}{fr:List AV}{s:AS}(h:Q .ret fr s):Ej P G ks Q .ret fr s:=by
 induction ks with
 | nil=>exact h
 | cons k ks ih=>cases k<;>exact ih
def yU{ks:List KI}{Q:AX->List AV->AS->Prop}{fr:List AV}{s:AS}{v:AV}(h:Q (.JK v) fr s):Ej P G ks Q (.JK v) fr s:=by
 induction ks with
 | nil=>exact h
 | cons k ks ih=>cases k<;>exact ih
def Sg.body{fn:Func}{m:Nat}{Q:CR->AS->Prop}{v:AV}{s2:AS}(h:Q (.ret v) s2):Sg P fn m (U1 P fn m Q) v s2:=λfr s h1 h2=>⟨v,h1,by rw[h2];exact h⟩
def UO.body{fn:Func}{m:Nat}{Q:CR->AS->Prop}{v:AV}{s2:AS}(h:Q (.JK v) s2):UO m (U1 P fn m Q) v s2:=λfr s h2=>by show Q (.JK v) (s.cut m);rw[h2];exact h
def Sg.outer{fn:Func}{m id:Nat}{ks:List KI}{Q:AX->List AV->AS->Prop}{v:AV}{s2:AS}(h:Sg P fn m Q v s2):Sg P fn m (ET id (Ej P G ks Q)) v s2:=λfr s h1 h2=>yW (h fr s h1 h2)
def UO.outer{m id:Nat}{ks:List KI}{Q:AX->List AV->AS->Prop}{v:AV}{s2:AS}(h:UO m Q v s2):UO m (ET id (Ej P G ks Q)) v s2:=λfr s h1=>yU (h fr s h1)
def Sg.Gi{fn:Func}{m:Nat}{L:Code}{s0:AS}{Q:AX->List AV->AS->Prop}{v:AV}{s2:AS}(h:Sg P fn m Q v s2):Sg P fn m (Uv P G L s0 Q) v s2:=h
def UO.Gi{m:Nat}{L:Code}{s0:AS}{Q:AX->List AV->AS->Prop}{v:AV}{s2:AS}(h:UO m Q v s2):UO m (Uv P G L s0 Q) v s2:=h
def ana(P:Program)(fn:Func)(m:Nat):HR->Option (List Cd×AV×AS)
 | some (.fin .ret,[],cd,fr,s)=>(match JO P s fn fr with
   | some v=>some (cd,v,s.cut m)
   | none=>none)
 | _=>none
def VX(P:Program)(G:Bc)(_l:List (PC P G))(Q:AX->List AV->AS->Prop)(r:HR)(X:Prop):Prop:=∀sp cd Cp s',r=some (sp,[],cd,Cp,s')->R1 P G cd->SqQ P G Q Cp s' sp->X
def Ac{c:Code}{fr:List AV}{s:AS}{Q:AX->List AV->AS->Prop}(n:Nat)(l:List (PC P G)):VX P G l Q (T8 P G n c [] (pHs l) fr s) (W P G (XS P G) H0 c fr s Q):=λ_ _ _ _ h hc hk=>fC n c [] h hc hk
def gX{id:Nat}{ks:List KI}{fr:List AV}{s:AS}{Q:AX->List AV->AS->Prop}(n:Nat)(l:List (PC P G)):VX P G l Q (R5 (T8 P G n) ks .normal (pHs l) fr s) (ET id (Ej P G ks Q) (.exit id) fr s):=λ_ _ _ _ h hc hk=>by
 show Ej P G ks Q (E7 id (.exit id)) fr s;have:E7 id (.exit id)=.normal:=by simp[E7]
 rw[this];exact fA (fC n) ks _ h hc hk
def go_ret{r:HR}{X:Prop}{Q:AX->List AV->AS->Prop}(fn:Func)(m:Nat){l:List (PC P G)}(v:AV)(s2:AS)(R:VX P G l Q r X)(h:ana P fn m r=some (n6 l,v,s2))(k:Sg P fn m Q v s2):X:=by
 unfold ana at h;split at h;rename_i cd Cp s';split at h;rename_i v' hv;simp only[Option.some.injEq,Prod.mk.injEq] at h;obtain⟨rfl,rfl,rfl⟩:=h;exact R _ _ _ _ rfl (PO l) (k _ _ hv rfl);cases h;cases h
def oP(a:AV):AV:=match U4 a with
 | true=>.any
 | false=>a
def wK{a:AV}{c:Cx}{w:World}{v:Value}(hr:Rp c w a v):Rp c w (oP a) v:=by
 unfold oP;split;rename_i h;exact .any (T3 hr h);exact hr
inductive Lp(γ δ ρ:Type) where
 | nx (x:γ)
 | ex (x:δ)
 | rt (r:ρ)
section loops
variable {α γ δ ρ:Type}
def Qd(k:γ->Option (δ⊕ρ)):Lp γ δ ρ->Option (δ⊕ρ)
 | .nx x=>k x
 | .ex d=>some (.inl d)
 | .rt r=>some (.inr r)
def CO(body:Nat->α->γ->Option (Lp γ δ ρ))(done:γ->δ):List α->Nat->γ->Option (δ⊕ρ)
 | [],_,x=>some (.inl (done x))
 | y::l,i,x=>(body i y x).bind (Qd (CO body done l (i+1)))
def EQ(body:γ->Option (Lp γ δ ρ)):Nat->γ->Option (δ⊕ρ)
 | 0,_=>none
 | n+1,x=>(body x).bind (Qd (EQ body n))
def RT{β:Type}(n:Nat)(x:Option β):Option β:=if n<=9223372036854775807 then x else none
def aku{β:Type}{n:Nat}{x:Option β}{r:β}(h:RT n x=some r):n<=9223372036854775807/\x=some r:=by
 unfold RT at h;split at h;rename_i h1;exact⟨h1,h⟩;cases h
def apk{β:Type}{b:Bool}{t f:Option β}{r:β}(h:cond b t f=some r):(b=true/\t=some r)\/(b=false/\f=some r):=by
 cases b;exact .inr ⟨rfl,h⟩;exact .inl ⟨rfl,h⟩
def eC{β κ:Type}{m:Option κ}{k:κ->Option β}{r:β}(h:m.bind k=some r):∃y,m=some y/\k y=some r:=by
 cases m with
 | none=>cases h
 | some y=>exact⟨y,rfl,h⟩
def LQ(Qx:δ->Prop)(Qr:ρ->Prop):δ⊕ρ->Prop
 | .inl x=>Qx x
 | .inr r=>Qr r
def RQ(Qn:γ->Prop)(Qx:δ->Prop)(Qr:ρ->Prop):Lp γ δ ρ->Prop
 | .nx x=>Qn x
 | .ex x=>Qx x
 | .rt r=>Qr r
def aeL{J:Type}{L:Code}{Q:AX->List AV->AS->Prop}{body:Nat->α->γ->Option (Lp γ δ ρ)}{done:γ->δ}(l:List α)(F:Nat->γ->J->List AV)(S:Nat->γ->J->AS)(Ok:J->Prop)(Qx:δ->Prop)(Qr:ρ->Prop)
   (hz:∀i x j,Ok j->l.length<=i->Qx (done x)->WL P G (XS P G) H0 L (F i x j) (S i x j) Q)
   (hs:∀i y x j r,Ok j->l[i]?=some y->i < l.length->body i y x=some r->RQ (λx'=>∀j',Ok j'->WL P G (XS P G) H0 L (F (i+1) x' j') (S (i+1) x' j') Q) Qx Qr r->WL P G (XS P G) H0 L (F i x j) (S i x j) Q) :
   ∀{x:γ} {gQ:δ⊕ρ} (i0:Nat),CO body done (l.drop i0) i0 x=some gQ->LQ Qx Qr gQ->∀j,Ok j->WL P G (XS P G) H0 L (F i0 x j) (S i0 x j) Q:=by
 have key:∀(k:List α) (i:Nat) (x:γ) (gQ:δ⊕ρ),l.drop i=k->CO body done k i x=some gQ->LQ Qx Qr gQ->∀j,Ok j->WL P G (XS P G) H0 L (F i x j) (S i x j) Q:=by
   intro k
   induction k with
   | nil =>
     intro i x gQ hd h hq j hj;simp only[CO,Option.some.injEq] at h;subst h;exact hz i x j hj (List.drop_eq_nil_iff.1 hd) hq
   | cons y k ih =>
     intro i x gQ hd h hq j hj
     have hi:i < l.length:=by
       rcases Nat.lt_or_ge i l.length with h1 | h1
       exact h1;rw[List.drop_eq_nil_of_le h1] at hd;cases hd
     have hy:l[i]?=some y:=by rw[<- List.head?_drop,hd];rfl
     have fD:l.drop (i+1)=k:=by rw[<- List.tail_drop,hd];rfl
     obtain⟨r,hb,h⟩:=eC h;refine hs i y x j r hj hy hi hb ?_;cases r with
     | nx x'=>exact λj' hj'=>ih (i+1) x' gQ fD h hq j' hj'
     | ex d=>simp only[Qd,Option.some.injEq] at h;subst h;exact hq
     | rt v=>simp only[Qd,Option.some.injEq] at h;subst h;exact hq
 intro x gQ i0 h hq j hj;exact key _ i0 x gQ rfl h hq j hj
def aeM{J:Type}{L:Code}{Q:AX->List AV->AS->Prop}{body:γ->Option (Lp γ δ ρ)}(F:γ->J->List AV)(S:γ->J->AS)(Ok:J->Prop)(Qx:δ->Prop)(Qr:ρ->Prop)
   (hs:∀x j r,Ok j->body x=some r->RQ (λx'=>∀j',Ok j'->WL P G (XS P G) H0 L (F x' j') (S x' j') Q) Qx Qr r->WL P G (XS P G) H0 L (F x j) (S x j) Q) :
   ∀(n:Nat) {x:γ} {gQ:δ⊕ρ},EQ body n x=some gQ->LQ Qx Qr gQ->∀j,Ok j->WL P G (XS P G) H0 L (F x j) (S x j) Q:=by
 intro n
 induction n with
 | zero=>intro x gQ h;cases h
 | succ n ih =>
   intro x gQ h hq j hj;obtain⟨r,hb,h⟩:=eC h;refine hs x j r hj hb ?_;cases r with
   | nx x'=>exact λj' hj'=>ih h hq j' hj'
   | ex d=>simp only[Qd,Option.some.injEq] at h;subst h;exact hq
   | rt v=>simp only[Qd,Option.some.injEq] at h;subst h;exact hq
def Mh(body:γ->Option (Lp γ δ ρ))(x:γ):Option (δ⊕ρ):=open Classical in if h:∃n r,EQ body n x=some r then some (Classical.choose (Classical.choose_spec h)) else none
def afe{body:γ->Option (Lp γ δ ρ)}{x:γ}{r:δ⊕ρ}(h:Mh body x=some r):∃n,EQ body n x=some r:=by
 unfold Mh at h;split at h;rename_i hx;have:=Classical.choose_spec (Classical.choose_spec hx);rw[Option.some.inj h] at this;exact⟨_,this⟩;cases h
def Y3{body:γ->Option (Lp γ δ ρ)}:∀{n m:Nat} {x:γ} {r:δ⊕ρ},EQ body n x=some r->n<=m->EQ body m x=some r:=by
 intro n
 induction n with
 | zero=>intro m x r h;cases h
 | succ n ih =>
   intro m x r h hm;cases m with
   | zero=>omega
   | succ m =>
     obtain⟨a,ha,h⟩:=eC h;simp only[EQ,ha,Option.bind_some];cases a with
     | nx x'=>exact ih h (by omega)
     | ex d=>exact h
     | rt v=>exact h
def Fj{body:γ->Option (Lp γ δ ρ)}{n:Nat}{x:γ}{r:δ⊕ρ}(h:EQ body n x=some r):Mh body x=some r:=by
 unfold Mh;have hx:∃n r,EQ body n x=some r:=⟨n,r,h⟩;rw[dif_pos hx];have h2:=Classical.choose_spec (Classical.choose_spec hx);have h3:=Y3 h (Nat.le_max_left n (Classical.choose hx));have h4:=Y3 h2 (Nat.le_max_right n (Classical.choose hx));rw[h3] at h4;rw[Option.some.inj h4]
end loops
end
end AI
